/- Lemmas towards the statement: the engine of the walks, the functions' models, laws and walks, part 4. Conditions: as each states. -/
import Derived.Laws.CopyRow
import Derived.Laws.IdiomStrings
import Derived.Lib.AppendZerosOnto
import Derived.Lib.Overlaps
import Derived.Scope
import Derived.Test.YteieminegehfdaaGreatDeC
set_option linter.all false
set_option maxRecDepth 100000
namespace Go.Eng
open Go.RowKit
theorem St.bare {K:Nat} {w0:Base} {v0:Zb} {σ:List (Nat×Value)} {ℓ:List Loc} {v:Zb} {a:Act} {w:World} (h:St K w0 v0 σ ℓ v a w):St K w0 v0 [] ℓ v a w:=h.frame Zlw
theorem ZFj {v:Zb} {γ:Nat→Gh} {l:Lo} {x:V} {cs:List Value} (h:RR v γ l false x cs) (hf:x.fit=true):cellsOf (x.val cs) cs∧cs.all plain=true:=by
 unfold V.fit at hf;have hp:x.plain=true:=by
  cases hp:x.plain
  ·rw[hp]at hf;cases hf
  ·rfl
 have hpl:=Zoz hp h;refine⟨?_,hpl⟩;rw[hp]at hf;unfold V.val
 cases ha:x.isAgg with
 | true=>exact Zsw cs
 | false =>
  rw[ha]at hf;have hs:=eQ hf;have e:=Zzh h hs ha;have hv:x.val cs=cs.headD undef:=by unfold V.val;rw[ha]
  rw[hv]at e;rw[e]at hpl;have hpl':plain (cs.headD undef)=true:=by simpa using hpl
  have:=Zkd hpl';show cellsOf (cs.headD undef) cs
  conv=>arg 2;rw[e]
  exact this
theorem Zwm {x:V} (hf:x.fit=true):∀ c,x ≠ .tup c:=λc e=>by subst e;cases hf
section
variable {P:Program} {N:Nat} {G:V→Value→Prop} {w0:Base} {v0:Zb} {U X:Nat→Prop} {f:Fr} {l:Lo} {a:Act} {w:World} {γ:Nat→Gh} {v:Zb} {ℓ:List Loc} {n:Nat}
variable {ty:TypeId} {pos:String} {aft:Array Edge} {g:Option (Nat×Bool)}
theorem ZDf {o:Oper} {l':Lo} {w':World} {γ':Nat→Gh} {v':Zb} {ℓ':List Loc} {Post:Unit→Fr→Lo→Prop} (hr:RelX N G w0 v0 U X f l' a w' γ' v' ℓ') (hU:∀ k,U k→X k) (ho:o.dst=none) (hrun:(execOp a.eval o).run P w = .ok .skip w') (h:Post () f l'):Zpa P N G w0 v0 X o a w Post:=by
 refine Zto hrun ?_;rw[ho];exact⟨_,_,h,_,_,_,hr.mono hU λ_ h=>h⟩
theorem Z4s {cs0 cs:List Value} {off:Nat} (h0:cs0.all plain=true) (h1:cs.all plain=true):(cs0.take off++cs++cs0.drop (off+cs.length)).all plain=true:=by
 have h0':=List.all_eq_true.1 h0;refine List.all_eq_true.2 λx hx=>?_;rcases List.mem_append.1 hx with hx | hx
 ·rcases List.mem_append.1 hx with hx | hx
  ·exact h0' x (List.mem_of_mem_take hx)
  ·exact List.all_eq_true.1 h1 x hx
 ·exact h0' x (List.mem_of_mem_drop hx)
theorem Z4n {t:T} {x:t.den} {z x':V} {off:Nat} {cs cz:List Value} (hg:Zdb FU (.data t x) off z=some x') (hx:t.rep.rel v cs x) (hz:RR v γ l false z cz) (hkz:z.ok U) :
  RR v γ l false x' (cs.take off++cz++cs.drop (off+cz.length))∧x'.ok U∧off+cz.length≤t.n:=by
 obtain⟨h1,h2,h3,_⟩:=Zcf FU hg (γ:=γ) (l:=l) (x:=.data t x) hx hz trivial hkz;refine⟨h1,h2,?_⟩;have:=Rep.len _ hx;rw[ZK]at this;omega
theorem Zxu {t:T}:∀ {rows:List (Option Nat×Nat)} {m:List (List t.den)} {es:List Loc} {i:Nat} {p:Option Nat×Nat} {r:List t.den},Zva v ty t rows m es→rows[i]? = some p→m[i]? = some r →
  ∃ cs e1 e2,es=e1 ++ .own p.1 ty t.n r.length p.2 cs :: e2∧t.rep.rels v cs r∧∀ (r':List t.den) (cs':List Value),r'.length=r.length→t.rep.rels v cs' r'→Zn rows (m.set i r')=Zn rows m∧Zva v ty t rows (m.set i r') (e1 ++ .own p.1 ty t.n r.length p.2 cs' :: e2)
 | [],[],_,_,_,_,_,h,_=>by simp at h
 | q :: ps,r0 :: rs,es,0,p,r,⟨cs,es',h1,h2,h3⟩,hp,hr=>by
  simp at hp hr
  subst hp hr
  refine⟨cs,[],es',by simpa using h2,h1,λr' cs' hl hc=>⟨by simp[Zn,hl],?_⟩⟩
  exact⟨cs',es',hc,by rw[← hl];rfl,h3⟩
 | q :: ps,r0 :: rs,es,i+1,p,r,⟨cs,es',h1,h2,h3⟩,hp,hr=>by
  simp only[List.getElem?_cons_succ]at hp hr
  obtain⟨c2,e1,e2,k2,k3,k4⟩:=Zxu h3 hp hr
  subst k2
  refine⟨c2,.own q.1 ty t.n r0.length q.2 cs :: e1,e2,by simpa using h2,k3,λr' cs' hl hc=>?_⟩
  obtain⟨k5,k6⟩:=k4 r' cs' hl hc
  exact⟨by simp only[List.set_cons_succ,Zn,k5],cs,_,h1,rfl,k6⟩
 | [],_ :: _,_,_,_,_,k,_,_=>k.elim
 | _ :: _,[],_,_,_,_,k,_,_=>k.elim
theorem Z0u {t:T} {p:Option Nat×Nat} {r':List t.den} {cs':List Value}:∀ {rows:List (Option Nat×Nat)} {m:List (List t.den)} {es:List Loc} {i:Nat} {p0:Option Nat×Nat},Zva v ty t rows m es→rows[i]? = some p0→t.rep.rels v cs' r' →
  (Zn rows m).take i++[Value.slice (mkA p.1) r'.length p.2]++(Zn rows m).drop (i+1)=Zn (rows.set i p) (m.set i r')∧∃ e1 e2 c,es=e1++c :: e2∧Zva v ty t (rows.set i p) (m.set i r') (e1 ++ .own p.1 ty t.n r'.length p.2 cs' :: e2)
 | [],[],_,_,_,_,h,_=>by simp at h
 | q :: ps,r0 :: rs,es,0,p0,⟨cs,es',h1,h2,h3⟩,hp,hc=>by
  refine⟨by simp[Zn],[],es',_,by simpa using h2,?_⟩
  exact⟨cs',es',hc,rfl,h3⟩
 | q :: ps,r0 :: rs,es,i+1,p0,⟨cs,es',h1,h2,h3⟩,hp,hc=>by
  simp only[List.getElem?_cons_succ]at hp
  obtain⟨k1,e1,e2,c,k2,k3⟩:=Z0u (p:=p) h3 hp hc
  subst k2
  refine⟨by simp only[List.set_cons_succ,Zn,List.take_succ_cons,List.drop_succ_cons,List.cons_append,k1],.own q.1 ty t.n r0.length q.2 cs :: e1,e2,c,by simpa using h2,?_⟩
  exact⟨cs,_,h1,rfl,k3⟩
 | [],_ :: _,_,_,_,k,_,_=>k.elim
 | _ :: _,[],_,_,_,k,_,_=>k.elim
theorem Znx {α:Type} {m:List (List α)} {i:Nat} {r r':List α} (hr:m[i]? = some r) (hl:r'.length=r.length):(m.set i r').map List.length=m.map List.length:=by
 apply List.ext_getElem?;intro j;simp only[List.getElem?_map];by_cases h:i=j
 ·subst h;have hlt:=(List.getElem?_eq_some_iff.1 hr).1;rw[List.getElem?_set_self hlt,hr];simp[hl]
 ·rw[List.getElem?_set_ne h]
theorem Z8h:∀ (g:Nat) {x z x':V} {off:Nat},Zdb g x off z=some x'→x.ok U→z.ok U→x'.ok U
 | 0,_,_,_,_,h,_,_=>by cases h
 | g+1,x,z,x',off,h,hk,hkz=>by
  have whole:∀ {y:V},(match Nat.beq off 0,Nat.beq y.size z.size,eqB y.isAgg z.isAgg with
    | true,true,true=>some z
    | _,_,_=>match y with
     | .agg c=>match Zdb g c off z with
      | some c'=>some (.agg c')
      | none=>none
     | .data t x=>match Z2b t x with
      | some c=>match Zdb g c off z with
       | some c'=>some (.agg c')
       | none=>none
      | none=>none
     | _=>none)=some x'→y.ok U→x'.ok U:=by
   intro y hy hk;split at hy
   ·cases hy;exact hkz
   ·split at hy
    ·split at hy
     ·rename_i c' he;cases hy;exact (show V.ok U c' from Z8h g he hk hkz)
     ·cases hy
    ·split at hy
     ·rename_i c hc;split at hy
      ·rename_i c' he;cases hy;exact (show V.ok U c' from Z8h g he (Z4t hc) hkz)
      ·cases hy
     ·cases hy
    ·cases hy
  cases x with
  | nl=>simp only[Zdb]at h;cases h
  | cons a b =>
   simp only[Zdb]at h;split at h
   ·split at h
    ·rename_i he;cases h;exact⟨Z8h g he hk.1 hkz,hk.2⟩
    ·cases h
   ·split at h
    ·split at h
     ·rename_i he;cases h;exact⟨hk.1,Z8h g he hk.2 hkz⟩
     ·cases h
    ·cases h
  | data t x=>exact whole (y:=.data t x) h hk
  | agg c=>exact whole (y:=.agg c) h hk
  | nilS=>exact whole (y:=.nilS) h hk
  | own u=>exact whole (y:=.own u) h hk
  | row u i hv cv t r=>exact whole (y:=.row u i hv cv t r) h hk
  | ptr u o=>exact whole (y:=.ptr u o) h hk
  | el u i cv t x o=>exact whole (y:=.el u i cv t x o) h hk
  | rp u i hv cv t r=>exact whole (y:=.rp u i hv cv t r) h hk
  | rel u i j hv cv t r x o=>exact whole (y:=.rel u i j hv cv t r x o) h hk
  | vp t x o=>exact whole (y:=.vp t x o) h hk
  | tup c=>exact whole (y:=.tup c) h hk
  | fn f c=>exact whole (y:=.fn f c) h hk
  | ifc f c=>exact whole (y:=.ifc f c) h hk
  | undef=>exact whole (y:=.undef) h hk
theorem Z0j {b off:Nat} {c c':List Value} (h:WAt w b off c) (h':WAt w b off c') (hl:c.length=c'.length):c=c':=by
 obtain⟨x,T,fr,h1,h2⟩:=h;obtain⟨x',T',fr',h3,h4⟩:=h';rw[h1]at h3;cases h3;rw[← h2,← h4,hl]
theorem ZEs (hr:RelX N G w0 v0 U X f l a w γ v ℓ) {u k st:Nat} {ty0:TypeId} {t:T} {xs:List t.den} {fz:Bool} (he:lkE l u=some ⟨k,st,.own ty0 t xs fz⟩) {b cap i:Nat} {x:t.den} (hγ:γ u = .own (some b) cap) (hx:xs[i]? = some x):∃ c,t.rep.rel v c x∧WAt w b (0+i*t.n) c:=by
 obtain⟨hkk,es,hes,hmem⟩:=hr.loc he;have hkk:k=u:=hkk;subst hkk
 cases fz with
 | false =>
  obtain⟨ob,cap',cs,q1,q2,rfl⟩:=hes;have q1:γ k = .own ob cap':=q1;rw[hγ]at q1;cases q1;obtain⟨j,hj⟩:=hmem _ (List.mem_singleton.2 rfl);have hrel:=ZJa q2 hx;rw[ZK]at hrel;have hl:=Rep.len _ hrel;rw[ZK]at hl;refine⟨_,hrel,?_⟩;have:=ZAe hr.st hj rfl (List.getElem?_eq_some_iff.1 hx).1 0 ((cs.drop (i*t.n)).take t.n) (by rw[hl,List.drop_zero,List.take_take,Nat.min_self]) (by omega)
  simpa using this
 | true =>
  obtain⟨ob,cap',q1,q2,_⟩:=hes;have q1:γ k = .own ob cap':=q1;rw[hγ]at q1;cases q1;obtain⟨_,b2,o2,cs2,e2,h2,h3⟩:=Zuc q2 hx
  cases e2
  rw[ZK]at h2;exact⟨cs2,h3,hr.st.view h2⟩
theorem Z0q (hr:RelX N G w0 v0 U X f l a w γ v ℓ) {u k st hv:Nat} {ty0 ty2:TypeId} {t:T} {m:List (List t.den)} (he:lkE l u=some ⟨k,st,.mat ty0 ty2 t m hv⟩) {ob:Option Nat} {cap i j bi capi:Nat} {rows:List (Option Nat×Nat)} {r:List t.den} {x:t.den}
  (hγ:γ u = .mat ob cap rows) (hrow:rows[i]? = some (some bi,capi)) (hm:m[i]? = some r) (hx:r[j]? = some x):∃ c,t.rep.rel v c x∧WAt w bi (0+j*t.n) c:=by
 obtain⟨hkk,es,hes,hmem⟩:=hr.loc he;have hkk:k=u:=hkk;subst hkk;obtain⟨ob',cap',rows',es2,q1,q2,rfl⟩:=hes;have q1:γ k = .mat ob' cap' rows':=q1;rw[hγ]at q1;cases q1;obtain⟨p',cs,r1,r2,r3⟩:=Z5e q2 hm;rw[hrow]at r1;cases r1;obtain⟨jj,hj⟩:=hmem _ (List.mem_cons_of_mem _ r3);have hrel:=ZJa r2 hx;rw[ZK]at hrel;have hl:=Rep.len _ hrel;rw[ZK]at hl;refine⟨_,hrel,?_⟩;have:=ZAe hr.st hj rfl (List.getElem?_eq_some_iff.1 hx).1 0 ((cs.drop (j*t.n)).take t.n) (by rw[hl,List.drop_zero,List.take_take,Nat.min_self]) (by omega)
 simpa using this
theorem stE_ok (hr:RelX N G w0 v0 U X f l a w γ v ℓ) (hU:∀ k,U k→X k) (hX:X n) (hn:¬ U n) {t:TypeId} {x y:Operand} {o:Oper} {p q:V} {Post:Unit→Fr→Lo→Prop} (ho:o=⟨none,.store t x y,ty,pos,aft,g⟩) (hp:RV v γ l p (a.eval x)) (hq:RV v γ l q (a.eval y)) (hk:p.ok U) (hkq:q.ok U)
  (h:Zk n (stE P n t p q) f l Post):Zpa P N G w0 v0 X o a w Post:=by
 unfold stE at h;split at h
 ·exact h.elim
 ·rename_i sz hsz;split at h
  ·rename_i b1 b2 b3;have b1:=eQ b1;have b2:=ZVj b2;obtain⟨cs,hcs,hqe⟩:=Zmb hq (Zwm b3);obtain⟨hcells,hpl⟩:=ZFj hcs b3;have hlen:cs.length=sz.1:=(ZBd hcs).trans b1;have hS:=Zte hsz;split at h
   · -- a variable
    rename_i u off;obtain⟨en,he,h⟩:=h;obtain⟨yy,hy0,_,hy⟩:=Zga hp (λ_ e=>by cases e) rfl rfl;have hy0:a.eval x=yy:=(List.cons.inj hy0).1;have hy:=hy en he;obtain⟨kk,st,L⟩:=en;obtain⟨hm,hkk⟩:=Zo he;have hkk:kk=u:=hkk;subst hkk
    cases L with
    | box ty0 c =>
     simp only at h;obtain⟨b',g4,rfl⟩:=hy;split at h
     ·rename_i c' hc';obtain⟨es,E',h1,h2,_,h3,_⟩:=hr.del he;obtain⟨b,cs0,g1,g2,g3,rfl⟩:=h1;have g1:γ kk = .box b:=g1;rw[g1]at g4;cases g4;have hcok:c.ok U:=(hr.ul _ hm).2.2;obtain⟨k1,k2,k3,_⟩:=Zcf FU hc' g2 hcs hcok hkq;rw[hlen]at k3;have hs:=hr.st.perm h3;obtain⟨σ,hσ,e1,e2⟩:=hs.ev2 x y;rw[hy0]at e1;rw[hqe]at e2;obtain⟨w',hrun,hst⟩:=Zin (P:=P) hσ hS hcells hlen (i:=0) rfl (by omega) hpl;have hle:Le U v γ l v γ (⟨kk,n,.box ty0 c'⟩ :: era l kk):=Le.upd hr he (Zb.le_refl _) (λ_ _=>rfl) rfl;subst ho;refine ZDf (hr.upd hX (hr.ul _ hm).1 h2 hst.bare hle (λ_ _=>rfl) ⟨_,_,g1,ZDb hle k2 k1,Z4s g3 hpl,rfl⟩ (List.Perm.refl _) k2) hU rfl (hrun e1 e2) h
     ·exact h.elim
    | own _ _ _ _=>exact h.elim
    | mid _ _ _ _ _ _=>exact h.elim
    | mat _ _ _ _ _=>exact h.elim
   · -- an element
    rename_i u i cv s x0 off;split at h
    ·rename_i z hz;obtain⟨yy,hy0,_,⟨c0,hc0⟩,hy⟩:=Zga hp (λ_ e=>by cases e) rfl rfl;have hy0:a.eval x=yy:=(List.cons.inj hy0).1;obtain⟨z1,z2,z3⟩:=Z4n hz hc0 hcs hkq;obtain⟨y1,l1,γ1,v1,ℓ1,h,r1,le1,q1⟩:=Zdd hn hX FU h hr z2;obtain⟨en,he,h⟩:=h;have hp1:=Zgb le1 hk hp;obtain⟨yy',hy0',_,_,hy⟩:=Zga hp1 (λ_ e=>by cases e) rfl rfl;have hy0':a.eval x=yy':=(List.cons.inj hy0').1;have hy:=hy en he;obtain⟨kk,st,L⟩:=en;obtain⟨hm,hkk⟩:=Zo he;have hkk:kk=u:=hkk;subst hkk
     cases L with
     | own ty0 s' xs fz =>
      cases fz with
      | true=>exact h.elim
      | false =>
       simp only at h;obtain⟨b,cap,g1,rfl,g3,g4⟩:=hy;obtain⟨es,E',h1,h2,_,h3,_⟩:=r1.del he;obtain⟨ob,cap',cs1,f1,f2,rfl⟩:=h1;have f1:γ1 kk = .own ob cap':=f1;rw[g1]at f1;cases f1;have fin:∀ (c:List Value) (y':s'.den),(cs1.drop (i*s'.n)).take s'.n=c→off+sz.1≤s'.n→s'.rep.rel v1 (c.take off++cs++c.drop (off+sz.1)) y'→Post () f (⟨kk,n,.own ty0 s' (xs.set i y') false⟩ :: era l1 kk)→Zpa P N G w0 v0 X o a w Post:=by
        intro c y' hc hfit hrel hpost;have hs:=r1.st.perm h3;obtain⟨σ,hσ,e1,e2⟩:=hs.ev2 x y;rw[hy0']at e1;rw[hqe]at e2;have hset:=ZRp f2 g3 hc hrel (ZK s').symm hfit;have hcl:=ZTc f2;rw[ZK]at hcl;have hfit2:0+i*s'.n+off+sz.1≤cs1.length:=ZAp hs (j:=0) rfl g3 hfit;obtain⟨w',hrun,hst⟩:=Z3d (P:=P) hσ hS hcells hlen (i:=0) rfl hfit2 hpl;rw[hlen]at hst;have hle:Le U v1 γ1 l1 v1 γ1 (⟨kk,n,.own ty0 s' (xs.set i y') false⟩ :: era l1 kk):=Le.upd r1 he (Zb.le_refl _) (λ_ _=>rfl) ⟨rfl,rfl,by simp,λe=>absurd e hn⟩;have hst':St N w0 v0 [] (.own (some b) ty0 s'.n (xs.set i y').length cap (cs1.take (0+i*s'.n+off)++cs++cs1.drop (0+i*s'.n+off+sz.1)) :: E'.flatten) v1 a w':=by
         rw[List.length_set];exact hst.bare
        subst ho;exact ZDf (r1.upd hX (r1.ul _ hm).1 h2 hst' hle (λ_ _=>rfl) ⟨some b,cap,_,g1,hset,rfl⟩ (List.Perm.refl _) trivial) hU rfl (hrun e1 e2) hpost
       have full:off=0→sz.1=s.n→∀ y',T.cast s s' y1=some y'→Post () f (⟨kk,n,.own ty0 s' (xs.set i y') false⟩ :: era l1 kk)→Zpa P N G w0 v0 X o a w Post:=by
        intro e0 e1 y' hc hpost;obtain⟨c3,c4⟩:=Z2 hc;subst c3;subst c4;refine fin _ y1 rfl (by omega) ?_ hpost;have hl0:=Rep.len _ hc0;rw[ZK]at hl0;have hcl:=ZTc f2;rw[ZK]at hcl;have hdl:((cs1.drop (i*s.n)).take s.n).length=s.n:=by
         have:i*s.n+s.n≤cs1.length:=by rw[hcl,← Nat.succ_mul];exact mR _ g3
         simp;omega
        have q1:=q1 _ z1;rw[e0]at q1 ⊢;rw[List.take_zero,List.drop_of_length_le (by omega)]at q1 ⊢;exact q1
       split at h
       ·rename_i hh1 hh2;split at h
        ·rename_i y' hy';exact full (eQ hh1) (b1.symm.trans (eQ hh2)) y' hy' h
        ·exact h.elim
       ·rename_i hcv _;split at h
        ·rename_i y' hy';obtain⟨ys,c1,c2⟩:=g4 (eQ hcv);obtain⟨c3,c4⟩:=Z2 c1
         cases c3;cases c4
         rw[ZZi]at hy';cases hy';have hrel:=ZJa f2 c2;rw[ZK]at hrel;obtain⟨⟨k0,st0,L0⟩,he0,hce⟩:=le1.l _ _ hk.1 he;have hst:U st:=(eQ hcv) ▸ hk.2
         cases L0 with
         | own ty1 t1 xs1 fz1 =>
          obtain⟨d1,d2,d3,d4⟩:=hce;obtain⟨d5,d6⟩:=d4 hst
          cases d6
          rw[d1]at g1;obtain⟨c,hc1,hc2⟩:=ZEs hr he0 g1 c2;obtain⟨z1',_,_⟩:=Z4n hz hc1 hcs hkq;have q2:=q1 _ z1';rw[hlen]at q2;refine fin c y1 ?_ (by omega) q2 h;have g1':γ1 kk = .own (some b) cap:=by rw[d1];exact g1
          obtain⟨c',hc1',hc2'⟩:=ZEs r1 he g1' c2;have hl1:=Rep.len _ hc1;have hl2:=Rep.len _ hc1';have e1:=Z0j hc2 hc2' (hl1.trans hl2.symm);have hl3:=Rep.len _ hrel;rw[ZK]at hl1 hl3;obtain⟨jj,hj⟩:∃ i:Nat,ℓ1[i]? = some (.own (some b) ty0 s.n xs.length cap cs1):=List.getElem?_of_mem (h3.mem_iff.2 (by simp));have hw:=ZAe r1.st hj rfl g3 0 ((cs1.drop (i*s.n)).take s.n) (by rw[hl3,List.drop_zero,List.take_take,Nat.min_self]) (by omega);exact Z0j (by simpa using hw) hc2 (hl3.trans hl1.symm)
         | box _ _=>exact hce.elim
         | mid _ _ _ _ _ _ =>
          obtain⟨_,_,_,_,hyl⟩:=Zga hp (λ_ e=>by cases e) rfl rfl;exact (hyl _ he0).elim
         | mat _ _ _ _ _ =>
          obtain⟨_,_,_,_,hyl⟩:=Zga hp (λ_ e=>by cases e) rfl rfl;exact (hyl _ he0).elim
        ·exact h.elim
       ·exact h.elim
     | box ty1 c1 =>
      cases c1 with
      | data t' w' =>
       simp only at h;split at h
       ·rename_i m e' hu;split at h
        ·rename_i w2 hof hvs hw2 hm0;obtain⟨⟨⟩,hin,h⟩:=h
         dsimp only at h
         split at h
         ·rename_i w3 hw3;have hof:=eQ hof;have hvs:=eQ hvs;subst hof;obtain⟨c3,c4⟩:=Z2 hw2;subst c3;subst c4;have hw3:T.cast (Zsa s m) (Zsa s m) (arrS s m w' i y1)=some w3:=hw3;rw[ZZi]at hw3
          cases hw3
          have him:i<m:=by
           unfold inN at hin;split at hin
           ·assumption
           ·cases hin
          obtain⟨b,g1,rfl⟩:=hy;obtain⟨es,E',h1,h2,_,h3,_⟩:=r1.del he;obtain⟨b',cs1,f1,f2,f3,rfl⟩:=h1;have f1:γ1 kk = .box b':=f1;rw[g1]at f1;cases f1;have hm0:0<m:=lB hm0;have f2:(Zsa s m).rep.rel v1 cs1 w':=f2;obtain⟨k1,k2⟩:=ZHg hm0 f2;have hcl:=ZTc k1;rw[ZK,k2]at hcl;have hl0:=Rep.len _ hc0;rw[ZK]at hl0;have hsn:sz.1=s.n:=b1.symm.trans hvs;have hy1:s.rep.rel v1 cs y1:=by
           have q1:=q1 _ z1;rw[List.take_zero,List.drop_of_length_le (by omega)]at q1
           simpa using q1
          have hset:=Z2f k1 (by rw[k2];exact him) hy1 (ZK s).symm (hlen.trans (hsn.trans (ZK s).symm));rw[← ZEq him]at hset;have hrel:=Z7u hm0 hset;have hs:=r1.st.perm h3;obtain⟨σ,hσ,e1,e2⟩:=hs.ev2 x y;rw[hy0']at e1;rw[hqe]at e2;have hle0:i*s.n+s.n≤cs1.length:=by rw[hcl,← Nat.succ_mul];exact mR _ him
          obtain⟨w4,hrun,hst⟩:=Zin (P:=P) hσ hS hcells hlen (i:=0) rfl (off:=0+i*s.n+0) (by omega) hpl;have hle:Le U v1 γ1 l1 v1 γ1 (⟨kk,n,.box ty1 (.data (Zsa s m) (arrS s m w' i y1))⟩ :: era l1 kk):=Le.upd r1 he (Zb.le_refl _) (λ_ _=>rfl) rfl;subst ho;exact ZDf (r1.upd hX (r1.ul _ hm).1 h2 hst.bare hle (λ_ _=>rfl) ⟨_,_,g1,hrel,Z4s f3 hpl,rfl⟩ (List.Perm.refl _) trivial) hU rfl (hrun e1 e2) h
         ·exact h.elim
        ·exact h.elim
       ·exact h.elim
      | _=>exact h.elim
     | mid _ _ _ _ _ _=>exact h.elim
     | mat _ _ _ _ _=>exact h.elim
    ·exact h.elim
   · -- a row is put into its place
    rename_i u i hv0 cv0 s0 r0;split at h
    ·rename_i u2 _ _;obtain⟨en,he,h⟩:=h;obtain⟨yy,hy0,_,hy⟩:=Zga hp (λ_ e=>by cases e) rfl rfl;have hy0:a.eval x=yy:=(List.cons.inj hy0).1;have hy:=hy en he;obtain⟨kk,st,L⟩:=en;obtain⟨hm,hkk⟩:=Zo he;have hkk:kk=u:=hkk;subst hkk
     cases L with
     | mat ty0 ty2 s m hv =>
      obtain⟨en2,he2,h⟩:=h;obtain⟨k2,st2,L2⟩:=en2;obtain⟨hm2,hkk2⟩:=Zo he2;have hkk2:k2=u2:=hkk2;subst hkk2
      cases L2 with
      | own ty3 s' xs fz =>
       cases fz with
       | true=>exact h.elim
       | false =>
        simp only at h;split at h
        ·rename_i l' ht3 hl';have ht3:=eQ ht3;subst ht3;obtain⟨c3,c4⟩:=Z2 hl'
         cases c3;cases c4
         have hne:kk≠k2:=λe=>by subst e;rw[he]at he2;cases he2
         obtain⟨b,cap,rows,g1,rfl,g3,g4⟩:=hy;obtain⟨es2,E2,h1,h2,h2',h3,r2⟩:=hr.del he2;obtain⟨ob2,cap2,cs2,f1,f2,rfl⟩:=h1;have he':lkE (era l k2) kk=some ⟨kk,st,.mat ty0 ty3 s m hv⟩:=by
          rw[Z5b hr.nd,iN (λe=>hne e.symm)];exact he
         obtain⟨esm,E',hsp1,hsp2,hsp3⟩:=ZBf h2' he';obtain⟨ob',cap',rows,es3,q1,q2,rfl⟩:=hsp1;have q1:γ kk = .mat ob' cap' rows:=q1;rw[g1]at q1;cases q1;have hrl:=Zwg q2;obtain⟨p',hp'⟩:∃ p',rows[i]? = some p':=⟨_,List.getElem?_eq_getElem (by omega)⟩;obtain⟨hh,e1,e2,csx,k1,k3⟩:=Z0u q2 hp' (p:=(ob2,cap2)) (r':=xs) f2;have hq1:a.eval y = .slice (mkA ob2) xs.length cap2:=by
          obtain⟨yq,hyq0,_,hyq⟩:=Zga hq (λ_ e=>by cases e) rfl rfl;obtain⟨oq,cq,gq1,gq2⟩:=hyq _ he2;have f1:γ k2 = .own ob2 cap2:=f1;rw[f1]at gq1;cases gq1;exact ((List.cons.inj hyq0).1).trans gq2
         have hs:St N w0 v0 [] (.own (some b) ty0 1 m.length cap (Zn rows m) :: .own ob2 ty3 s.n xs.length cap2 cs2 :: (es3++E'.flatten)) v a w:=by
          refine hr.st.perm ((h3.trans (List.Perm.append_left _ hsp3)).trans ?_);simp only[List.cons_append];exact List.Perm.swap _ _ _
         obtain⟨σ,hσ,ee1,ee2⟩:=hs.ev2 x y;rw[hy0]at ee1;rw[hq1]at ee2;have hS1:Sized P t ([Value.slice (mkA ob2) xs.length cap2]:List Value).length sz.2:=by
          have:sz.1=1:=b1.symm;rw[this]at hS;exact hS
         have hfit:0+i*1+([Value.slice (mkA ob2) xs.length cap2]:List Value).length≤(Zn rows m).length:=by
          rw[ZSd hrl];simp only[List.length_singleton];omega
         obtain⟨w',hrun,hst⟩:=Z3d (P:=P) hσ hS1 (cs:=[Value.slice (mkA ob2) xs.length cap2]) (z:=.slice (mkA ob2) xs.length cap2) (Zkd rfl) rfl (i:=0) rfl hfit rfl;have hh':(Zn rows m).take (0+i*1)++[Value.slice (mkA ob2) xs.length cap2]++(Zn rows m).drop (0+i*1+1)=Zn (rows.set i (ob2,cap2)) (m.set i xs):=by
          rw[Nat.zero_add,Nat.mul_one];exact hh
         have hst:=hst.bare;simp only[List.set_cons_zero,List.length_singleton]at hst;rw[hh']at hst;subst k1;have hst':St N w0 v0 [] (.own (some b) ty0 1 (m.set i xs).length cap (Zn (rows.set i (ob2,cap2)) (m.set i xs)) :: (e1 ++ .own ob2 ty3 s.n xs.length cap2 cs2 :: e2)++E'.flatten) v a w':=by
          rw[List.length_set];refine (hst.drop (ℓ':=.own (some b) ty0 1 m.length cap (Zn (rows.set i (ob2,cap2)) (m.set i xs)) :: .own ob2 ty3 s.n xs.length cap2 cs2 :: ((e1++e2)++E'.flatten)) ?_).perm ?_
          ·refine List.Sublist.cons_cons _ (List.Sublist.cons_cons _ (List.Sublist.append (List.Sublist.append (List.Sublist.refl _) (List.sublist_cons_self _ _)) (List.Sublist.refl _)))
          ·simp only[List.cons_append];refine List.Perm.cons _ ?_;rw[← List.cons_append];exact List.Perm.append_right _ (List.perm_middle.symm)
         have hle:Le U v γ (era l k2) v (Ztb γ kk (.mat (some b) cap (rows.set i (ob2,cap2)))) (⟨kk,n,.mat ty0 ty3 s (m.set i xs) n⟩ :: era (era l k2) kk):=Le.upd r2 he' (Zb.le_refl _) (λ_ hne=>ZVb hne) ⟨rfl,by simp,⟨_,_,_,_,g1,ZSa,λe=>absurd e hn⟩,λe=>absurd e hn⟩;subst ho;refine ZDf (r2.upd hX (r2.ul _ (Zo he').1).1 hsp2 hst' hle (λ_ hne=>ZVb hne) ⟨some b,cap,rows.set i (ob2,cap2),_,ZSa,k3,rfl⟩ ?_ hX) hU rfl (hrun ee1 ee2) h;exact List.Perm.refl _
        ·exact h.elim
      | box _ _=>exact h.elim
      | mid _ _ _ _ _ _=>exact h.elim
      | mat _ _ _ _ _=>exact h.elim
     | mid ty0 ty2 s m hv sm =>
      cases sm with
      | swp _ _=>exact h.elim
      | hol i1 =>
       obtain⟨_,heq,h⟩:=h;have heq:i=i1:=by
        unfold eqN at heq;split at heq
        ·assumption
        ·cases heq
       subst heq;obtain⟨en2,he2,h⟩:=h;obtain⟨k2,st2,L2⟩:=en2;obtain⟨hm2,hkk2⟩:=Zo he2;have hkk2:k2=u2:=hkk2;subst hkk2
       cases L2 with
       | own ty3 s' xs fz =>
        cases fz with
        | true=>exact h.elim
        | false =>
         simp only at h;split at h
         ·rename_i l' ht3 hl';have ht3:=eQ ht3;subst ht3;obtain⟨c3,c4⟩:=Z2 hl'
          cases c3;cases c4
          have hne:kk≠k2:=λe=>by subst e;rw[he]at he2;cases he2
          obtain⟨b,cap,rows,g1,rfl,g3,g4⟩:=hy;obtain⟨es2,E2,h1,h2,h2',h3,r2⟩:=hr.del he2;obtain⟨ob2,cap2,cs2,f1,f2,rfl⟩:=h1;have he':lkE (era l k2) kk=some ⟨kk,st,.mid ty0 ty3 s m hv (.hol i)⟩:=by
           rw[Z5b hr.nd,iN (λe=>hne e.symm)];exact he
          obtain⟨esm,E',hsp1,hsp2,hsp3⟩:=ZBf h2' he';obtain⟨ob',cap',rows,es3,hs,es4,q1,q2,⟨rfl,e1,c,e2,rfl,rfl,rfl⟩,rfl⟩:=hsp1;have q1:γ kk = .mat ob' cap' rows:=q1;rw[g1]at q1;cases q1;have hrl:=Zwg q2;obtain⟨hh,k3⟩:=ZWA q2 (p:=(ob2,cap2)) (r':=xs) f2;have hq1:a.eval y = .slice (mkA ob2) xs.length cap2:=by
           obtain⟨yq,hyq0,_,hyq⟩:=Zga hq (λ_ e=>by cases e) rfl rfl;obtain⟨oq,cq,gq1,gq2⟩:=hyq _ he2;have f1:γ k2 = .own ob2 cap2:=f1;rw[f1]at gq1;cases gq1;exact ((List.cons.inj hyq0).1).trans gq2
          have hs:St N w0 v0 [] (.own (some b) ty0 1 m.length cap (Zn rows m) :: .own ob2 ty3 s.n xs.length cap2 cs2 :: (e1++e2++E'.flatten)) v a w:=by
           refine hr.st.perm ((h3.trans (List.Perm.append_left _ hsp3)).trans ?_);simp only[List.cons_append];exact List.Perm.swap _ _ _
          obtain⟨σ,hσ,ee1,ee2⟩:=hs.ev2 x y;rw[hy0]at ee1;rw[hq1]at ee2;have hS1:Sized P t ([Value.slice (mkA ob2) xs.length cap2]:List Value).length sz.2:=by
           have:sz.1=1:=b1.symm;rw[this]at hS;exact hS
          have hfit:0+e1.length*1+([Value.slice (mkA ob2) xs.length cap2]:List Value).length≤(Zn rows m).length:=by
           rw[ZSd hrl];simp only[List.length_singleton];omega
          obtain⟨w',hrun,hst⟩:=Z3d (P:=P) hσ hS1 (cs:=[Value.slice (mkA ob2) xs.length cap2]) (z:=.slice (mkA ob2) xs.length cap2) (Zkd rfl) rfl (i:=0) rfl hfit rfl;have hh':(Zn rows m).take (0+e1.length*1)++[Value.slice (mkA ob2) xs.length cap2]++(Zn rows m).drop (0+e1.length*1+1)=Zn (rows.set e1.length (ob2,cap2)) (m.set e1.length xs):=by
           rw[Nat.zero_add,Nat.mul_one];exact hh
          have hst:=hst.bare;simp only[List.set_cons_zero,List.length_singleton]at hst;rw[hh']at hst;have hst':St N w0 v0 [] (.own (some b) ty0 1 (m.set e1.length xs).length cap (Zn (rows.set e1.length (ob2,cap2)) (m.set e1.length xs)) :: (e1 ++ .own ob2 ty3 s.n xs.length cap2 cs2 :: e2)++E'.flatten) v a w':=by
           rw[List.length_set];refine hst.perm ?_;simp only[List.cons_append,aAq];exact List.Perm.cons _ List.perm_middle.symm
          have hle:Le U v γ (era l k2) v (Ztb γ kk (.mat (some b) cap (rows.set e1.length (ob2,cap2)))) (⟨kk,n,.mat ty0 ty3 s (m.set e1.length xs) n⟩ :: era (era l k2) kk):=Le.upd r2 he' (Zb.le_refl _) (λ_ hne=>ZVb hne) ⟨rfl,by simp,⟨_,_,_,_,g1,ZSa,λe=>absurd e hn⟩,λe=>absurd e hn⟩;subst ho;exact ZDf (r2.upd hX (r2.ul _ (Zo he').1).1 hsp2 hst' hle (λ_ hne=>ZVb hne) ⟨some b,cap,rows.set e1.length (ob2,cap2),_,ZSa,k3,rfl⟩ (List.Perm.refl _) hX) hU rfl (hrun ee1 ee2) h
         ·exact h.elim
       | box _ _=>exact h.elim
       | mid _ _ _ _ _ _=>exact h.elim
       | mat _ _ _ _ _=>exact h.elim
     | box _ _=>exact h.elim
     | own _ _ _ _=>exact h.elim
    · -- another row's header
     rename_i u2 j hv2 cv2 t2 r2 _ _;obtain⟨en,he,h⟩:=h;obtain⟨yy,hy0,_,hy⟩:=Zga hp (λ_ e=>by cases e) rfl rfl;have hy0:a.eval x=yy:=(List.cons.inj hy0).1;have hy:=hy en he;obtain⟨yq,hq0,_,hqy⟩:=Zga hq (λ_ e=>by cases e) rfl rfl;have hq0:a.eval y=yq:=(List.cons.inj hq0).1;obtain⟨kk,st,L⟩:=en;obtain⟨hm,hkk⟩:=Zo he;have hkk:kk=u:=hkk;subst hkk;have hS1:∀ z:Value,Sized P t ([z]:List Value).length sz.2:=λz=>by
      have:sz.1=1:=b1.symm;rw[this]at hS;exact hS
     cases L with
     | mat ty0 ty2 s m hv =>
      simp only at h;split at h
      ·rename_i bu bh;have bu:=eQ bu;have bh:=eQ bh;subst bu bh;obtain⟨b,cap,rows,g1,rfl,g3,g4⟩:=hy;obtain⟨ob',cap',rows',obi,capi,j1,j2,rfl,⟨rj,j3,j4⟩,_⟩:=hqy _ he rfl;rw[g1]at j1;cases j1;obtain⟨es,E',h1,h2,_,h3,_⟩:=hr.del he;obtain⟨ob2,cap2,rows2,es3,q1,q2,rfl⟩:=h1;have q1:γ u2 = .mat ob2 cap2 rows2:=q1;rw[g1]at q1;cases q1;have hrl:=Zwg q2;have hs:=hr.st.perm h3;obtain⟨σ,hσ,ee1,ee2⟩:=hs.ev2 x y;rw[hy0]at ee1;rw[hq0]at ee2;have hfit:0+i*1+([Value.slice (mkA obi) r2.length capi]:List Value).length≤(Zn rows m).length:=by
        rw[ZSd hrl];simp only[List.length_singleton];omega
       obtain⟨w',hrun,hst⟩:=Z3d (P:=P) hσ (hS1 _) (cs:=[Value.slice (mkA obi) r2.length capi]) (z:=.slice (mkA obi) r2.length capi) (Zkd rfl) rfl (i:=0) rfl hfit rfl;have hst:=hst.bare;simp only[List.set_cons_zero,List.length_singleton,List.cons_append]at hst;have hset:(Zn rows m).take (0+i*1)++[Value.slice (mkA obi) r2.length capi]++(Zn rows m).drop (0+i*1+1)=(Zn rows m).set i (.slice (mkA obi) r2.length capi):=by
        rw[List.set_eq_take_append_cons_drop,iP (by rw[ZSd hrl];exact g3)];simp
       rw[hset]at hst;have hjj:(Zn rows m)[j]? = some (.slice (mkA obi) r2.length capi):=by
        rw[ZCi j2 j3,j4]
       have hle:Le U v γ l v γ (⟨u2,n,.mid ty0 ty2 s m hv (.swp i j)⟩ :: era l u2):=Le.upd hr he (Zb.le_refl _) (λ_ _=>rfl) ⟨rfl,rfl,⟨_,_,_,_,g1,g1,λ_=>⟨rfl,rfl,rfl⟩⟩,λe=>absurd e hn⟩;subst ho;exact ZDf (hr.upd hX (hr.ul _ hm).1 h2 hst hle (λ_ _=>rfl) ⟨some b,cap,rows,es3,_,es3,g1,q2,⟨rfl,g3,_,hjj,rfl⟩,rfl⟩ (List.Perm.refl _) (hr.ul _ hm).2.2) hU rfl (hrun ee1 ee2) h
      ·exact h.elim
     | mid ty0 ty2 s m hv sm =>
      cases sm with
      | hol _=>exact h.elim
      | swp i0 j0 =>
       simp only at h;split at h
       ·rename_i bu bh;have bu:=eQ bu;have bh:=eQ bh;subst bu bh;obtain⟨_,q1,_,q2,h⟩:=h;have q1:i=j0:=by
         unfold eqN at q1;split at q1
         ·assumption
         ·cases q1
        have q2:j=i0:=by
         unfold eqN at q2;split at q2
         ·assumption
         ·cases q2
        subst q1 q2;obtain⟨b,cap,rows,g1,rfl,g3,g4⟩:=hy;obtain⟨ob',cap',rows',obi,capi,j1,j2,rfl,⟨rj,j3,j4⟩,_⟩:=hqy _ he rfl;rw[g1]at j1;cases j1;obtain⟨es,E',h1,h2,_,h3,_⟩:=hr.del he;obtain⟨ob2,cap2,rows2,es3,hs0,es4,q1,q2,⟨rfl,q3,hx,q4,rfl⟩,rfl⟩:=h1;have q1:γ u2 = .mat ob2 cap2 rows2:=q1;rw[g1]at q1;cases q1;have hrl:=Zwg q2;have hs:=hr.st.perm h3;obtain⟨σ,hσ,ee1,ee2⟩:=hs.ev2 x y;rw[hy0]at ee1;rw[hq0]at ee2;have hfit:0+i*1+([Value.slice (mkA obi) r2.length capi]:List Value).length≤((Zn rows m).set j hx).length:=by
         rw[List.length_set,ZSd hrl];simp only[List.length_singleton];omega
        obtain⟨w',hrun,hst⟩:=Z3d (P:=P) hσ (hS1 _) (cs:=[Value.slice (mkA obi) r2.length capi]) (z:=.slice (mkA obi) r2.length capi) (Zkd rfl) rfl (i:=0) rfl hfit rfl;have hst:=hst.bare;simp only[List.set_cons_zero,List.length_singleton,List.cons_append]at hst;have hset:((Zn rows m).set j hx).take (0+i*1)++[Value.slice (mkA obi) r2.length capi]++((Zn rows m).set j hx).drop (0+i*1+1)=((Zn rows m).set j hx).set i (.slice (mkA obi) r2.length capi):=by
         rw[List.set_eq_take_append_cons_drop (l:=(Zn rows m).set j hx),iP (by rw[List.length_set,ZSd hrl];exact g3)];simp
        rw[hset]at hst;obtain⟨pi,hpi⟩:∃ p,rows[i]? = some p:=⟨_,List.getElem?_eq_getElem (by omega)⟩;obtain⟨ri,hri⟩:∃ r,m[i]? = some r:=⟨_,List.getElem?_eq_getElem g3⟩;have hhx:hx=ZZd pi ri:=by
         rw[ZCi hpi hri]at q4;exact (Option.some.inj q4).symm
        have hhj:Value.slice (mkA obi) r2.length capi=ZZd (obi,capi) rj:=by unfold ZZd;rw[j4]
        obtain⟨w1,es5,w2,w3⟩:=Z7z q2 j2 hpi j3 hri;rw[hhx,hhj,w1]at hst;have hln:(Zub m j i).length=m.length:=by unfold Zub;simp
        have hst':St N w0 v0 [] (.own (some b) ty0 1 (Zub m j i).length cap (Zn ((rows.set j pi).set i (obi,capi)) (Zub m j i)) :: es5++E'.flatten) v a w':=by
         rw[hln];refine hst.perm ?_;simp only[List.cons_append];exact List.Perm.cons _ (List.Perm.append_right _ w2.symm)
        have hle:Le U v γ l v (Ztb γ u2 (.mat (some b) cap ((rows.set j pi).set i (obi,capi)))) (⟨u2,n,.mat ty0 ty2 s (Zub m j i) n⟩ :: era l u2):=Le.upd hr he (Zb.le_refl _) (λ_ hne=>ZVb hne) ⟨rfl,hln,⟨_,_,_,_,g1,ZSa,λe=>absurd e hn⟩,λe=>absurd e hn⟩;subst ho;exact ZDf (hr.upd hX (hr.ul _ hm).1 h2 hst' hle (λ_ hne=>ZVb hne) ⟨some b,cap,_,_,ZSa,w3,rfl⟩ (List.Perm.refl _) hX) hU rfl (hrun ee1 ee2) h
       ·exact h.elim
     | box _ _=>exact h.elim
     | own _ _ _ _=>exact h.elim
    ·exact h.elim
   · -- an element of a row
    rename_i u i j hv cv s r x0 off;split at h
    ·rename_i z hz;obtain⟨yy,hy0,_,hy⟩:=Zga hp (λ_ e=>by cases e) rfl rfl;have hy0:a.eval x=yy:=(List.cons.inj hy0).1;obtain⟨⟨kz,sz0,Lz⟩,hez,h⟩:=h;have hLz:∃ ty ty2 t m hv,Lz = .mat ty ty2 t m hv:=by
      cases Lz with
      | mat ty ty2 t m hv=>exact⟨_,_,_,_,_,rfl⟩
      | _=>exact h.elim
     obtain⟨_,_,_,_,_,rfl⟩:=hLz;obtain⟨y1,l1,γ1,v1,ℓ1,hB,r1,le1,q1⟩:=Zdd hn hX FU h hr (Z8h FU hz trivial hkq);obtain⟨en,he,hC⟩:=hB;have hp1:=Zgb le1 hk hp;obtain⟨yy',hy0',_,hy1⟩:=Zga hp1 (λ_ e=>by cases e) rfl rfl;have hy0':a.eval x=yy':=(List.cons.inj hy0').1;have hy1:=hy1 en he;obtain⟨kk,st,L⟩:=en;obtain⟨hm,hkk⟩:=Zo he;have hkk:kk=u:=hkk;subst hkk
     cases L with
     | mat ty0 ty2 s' m hv' =>
      simp only at hC;split at hC
      ·rename_i b4 b5;have b4:=eQ b4;have b5:=eQ b5;subst b4 b5;split at hC
       ·rename_i r' hr';obtain⟨ob,cap,rows,bi,capi,g1,g2,rfl,_,g4,g6⟩:=hy1 rfl;obtain⟨⟨m',c1,c2⟩,cx⟩:=g6 rfl;obtain⟨c3,c4⟩:=Z2 c1
        cases c3;cases c4
        have hr':r.set j y1=r':=by
         obtain⟨c5,c6⟩:=Z2 hr';exact c6
        subst hr';obtain⟨⟨k0,st0,L0⟩,he0,hce⟩:=le1.l _ _ hk.1 he;obtain⟨es,E',h1,h2,_,h3,_⟩:=r1.del he;obtain⟨ob',cap',rows',es3,f1,f2,rfl⟩:=h1;have f1:γ1 kk = .mat ob' cap' rows':=f1;rw[g1]at f1;cases f1
        cases L0 with
        | mat ty1 ty3 t1 m1 hv1 =>
         obtain⟨d1,d2,⟨obx,capx,rowsx,rowsy,d3,d4,d5⟩,d6⟩:=hce;obtain⟨d7,d8⟩:=d6 hk.2.2
         cases d8
         obtain⟨d9,d10,_⟩:=d5 hk.2.1;rw[g1]at d4;cases d4;subst d10;obtain⟨c,hc1,hc2⟩:=Z0q hr he0 d3 g2 c2 cx;obtain⟨c',hc1',hc2'⟩:=Z0q r1 he g1 g2 c2 cx;have e1:=Z0j hc2 hc2' ((Rep.len _ hc1).trans (Rep.len _ hc1').symm);obtain⟨z1',_,zfit⟩:=Z4n hz hc1 hcs hkq;have q2:=q1 _ z1';rw[hlen]at q2 zfit;obtain⟨csx,ea,eb,k1,k2,k3⟩:=Zxu f2 g2 c2;subst k1;have hs:St N w0 v0 [] (.own (some bi) ty2 s.n r.length capi csx :: .own ob ty0 1 m.length cap (Zn rows m) :: (ea++eb++E'.flatten)) v1 a w:=by
          refine r1.st.perm (h3.trans ?_);simp only[List.cons_append,aAq];exact (List.Perm.cons _ List.perm_middle).trans (List.Perm.swap _ _ _)
         have hrel:=ZJa k2 cx;rw[ZK]at hrel;have hl3:=Rep.len _ hrel;have hl1:=Rep.len _ hc1;rw[ZK]at hl3 hl1;have hcell:(csx.drop (j*s.n)).take s.n=c:=by
          have hw:=ZAe hs (j:=0) rfl rfl g4 0 ((csx.drop (j*s.n)).take s.n) (by rw[hl3,List.drop_zero,List.take_take,Nat.min_self]) (by omega);exact Z0j (by simpa using hw) hc2 (hl3.trans hl1.symm)
         obtain⟨σ,hσ,e1,e2⟩:=hs.ev2 x y;rw[hy0']at e1;rw[hqe]at e2;have hset:=ZRp k2 g4 hcell q2 (ZK s).symm (by omega);have hfit2:0+j*s.n+off+sz.1≤csx.length:=ZAp hs (j:=0) rfl g4 (by omega);obtain⟨w',hrun,hst⟩:=Z3d (P:=P) hσ hS hcells hlen (i:=0) rfl hfit2 hpl;rw[hlen]at hst;have hst:=hst.bare;obtain⟨k4,k5⟩:=k3 (r.set j y1) _ (List.length_set ..) hset;have hst':St N w0 v0 [] (.own ob ty0 1 (m.set i (r.set j y1)).length cap (Zn rows (m.set i (r.set j y1))) :: (ea ++ .own (some bi) ty2 s.n r.length capi (csx.take (0+j*s.n+off)++cs++csx.drop (0+j*s.n+off+sz.1)) :: eb)++E'.flatten) v1 a w':=by
          rw[List.length_set,k4];refine hst.perm ?_;simp only[List.set_cons_zero,List.cons_append,aAq];exact (List.Perm.swap _ _ _).trans (List.Perm.cons _ List.perm_middle.symm)
         have hle:Le U v1 γ1 l1 v1 γ1 (⟨kk,n,.mat ty0 ty2 s (m.set i (r.set j y1)) hv'⟩ :: era l1 kk):=Le.upd r1 he (Zb.le_refl _) (λ_ _=>rfl) ⟨rfl,by simp,⟨_,_,_,_,g1,g1,λ_=>⟨rfl,rfl,Znx c2 (List.length_set ..)⟩⟩,λe=>absurd e hn⟩;subst ho;exact ZDf (r1.upd hX (r1.ul _ hm).1 h2 hst' hle (λ_ _=>rfl) ⟨ob,cap,rows,_,g1,k5,rfl⟩ (List.Perm.refl _) (r1.ul _ hm).2.2) hU rfl (hrun e1 e2) hC
        | box _ _=>exact hce.elim
        | mid _ _ _ _ _ _=>rw[he0]at hez;cases hez
        | own _ _ _ _=>exact hce.elim
       ·exact hC.elim
      ·exact hC.elim
     | box _ _=>exact hC.elim
     | mid _ _ _ _ _ _=>exact hC.elim
     | own _ _ _ _=>exact hC.elim
    ·exact h.elim
   ·exact h.elim
  ·exact h.elim
end
end Go.Eng
namespace Go.Eng
open Go.RowKit
def Z9d:Rep Value where
 n:=1
 agg:=false
 rel _ cs x:=cs=[x]∧plain x=true
 len h:=by rw[h.1];rfl
 mono _ h:=h
 flat h:=by obtain⟨h1,h2⟩:=h;rw[h1];simp[h2]
theorem Z9l {v:Zb}:∀ {l:List Value},l.all plain=true→Z9d.rels v l l
 | [],_=>rfl
 | x :: l,h=>by
  simp only[List.all_cons,Bool.and_eq_true]at h
  exact⟨[x],l,rfl,⟨rfl,h.1⟩,Z9l h.2⟩
theorem Z6o {v:Zb}:∀ {l cs:List Value},Z9d.rels v cs l→cs=l
 | [],cs,h=>h
 | x :: l,cs,h=>by
  obtain⟨c1,c2,h1,h2,h3⟩:=h
  rw[h1,h2.1,Z6o h3];rfl
theorem ZXo {α:Type}:∀ {rows:List (Option Nat×Nat)} {m:List (List α)},(Zn rows m).all plain=true
 | [],_=>rfl
 | _ :: _,[]=>rfl
 | p :: ps,r :: rs=>by
  have:=ZXo (rows:=ps) (m:=rs)
  simp only[Zn,List.all_cons,this,Bool.and_true]
  obtain⟨ob,cap⟩:=p
  cases ob <;> rfl
theorem ZBu {α:Type}:∀ {rows rows2:List (Option Nat×Nat)} {m m2:List (List α)},rows.length=m.length→Zn (rows++rows2) (m++m2)=Zn rows m++Zn rows2 m2
 | [],_,[],_,_=>rfl
 | p :: ps,rows2,r :: rs,m2,h=>by
  have:=ZBu (rows:=ps) (rows2:=rows2) (m:=rs) (m2:=m2) (by simpa using h)
  simp[Zn,this]
 | [],_,_ :: _,_,h=>by cases h
 | _ :: _,_,[],_,h=>by cases h
theorem Zcq {v:Zb} {ty:TypeId} {t:T}:∀ {rows rows2:List (Option Nat×Nat)} {m m2:List (List t.den)} {es es2:List Loc},Zva v ty t rows m es→Zva v ty t rows2 m2 es2→Zva v ty t (rows++rows2) (m++m2) (es++es2)
 | [],_,[],_,es,_,h,k=>by rw[show es=[] from h];exact k
 | p :: ps,rows2,r :: rs,m2,es,es2,⟨cs,es',h1,h2,h3⟩,k=>by
  subst h2
  exact⟨cs,es'++es2,h1,rfl,Zcq h3 k⟩
 | [],_,_ :: _,_,_,_,h,_=>h.elim
 | _ :: _,_,[],_,_,_,h,_=>h.elim
theorem ZFA {v:Zb} {ty:TypeId} {t:T} {rows:List (Option Nat×Nat)} {m:List (List t.den)} {es:List Loc} {i:Nat} {p:Option Nat×Nat} {r:List t.den} (h:Zva v ty t rows m es) (hp:rows[i]? = some p) (hr:m[i]? = some r) :
  ∃ cs e1 e2,es=e1 ++ .own p.1 ty t.n r.length p.2 cs :: e2∧e1.length=i∧t.rep.rels v cs r:=by
 obtain⟨k1,k2,k3⟩:=Z9f.1 h;obtain⟨cs,q1,q2⟩:=k3 i p r hp hr;have hlt:=(List.getElem?_eq_some_iff.1 q2).1;refine⟨cs,es.take i,es.drop (i+1),?_,by simp;omega,q1⟩;rw[← (List.getElem?_eq_some_iff.1 q2).2,← List.drop_eq_getElem_cons hlt,List.take_append_drop]
section
variable {P:Program} {N:Nat} {G:V→Value→Prop} {w0:Base} {v0:Zb} {U X:Nat→Prop} {f:Fr} {l:Lo} {a:Act} {w:World} {γ:Nat→Gh} {v:Zb} {ℓ:List Loc} {n:Nat}
variable {ty:TypeId} {pos:String} {aft:Array Edge} {g:Option (Nat×Bool)}
theorem ZSl (hr:RelX N G w0 v0 U X f l a w γ v ℓ) (hU:∀ k,U k→X k) (hX:X n) (hn:¬ U n) {e e2:TypeId} {s:T} {m:List (List s.den)} {rows:List (Option Nat×Nat)} {o:Oper} {ob:Option Nat} {cap:Nat} {w':World} {es ℓ':List Loc} {E:List (List Loc)} {Post:Unit→Fr→Lo→Prop} (hd:∀ k,o.dst=some k→k<N) (hE:F2 (ZGa v γ l) l E) (hℓ:ℓ'=E.flatten)
  (hR:Zva v e2 s rows m es) (hst:St N w0 v0 [] (.own ob e 1 m.length cap (Zn rows m) :: es++ℓ') v a w') (hrun:(execOp a.eval o).run P w = .ok (.value (.slice (mkA ob) m.length cap)) w') (h:Zk n (Ev.new n (.mat e e2 s m n) (ret o (.own n))) f l Post):Zpa P N G w0 v0 X o a w Post:=by
 obtain⟨hnew,h⟩:=h;have hr':=hr.new (γ':=Ztb γ n (.mat ob cap rows)) (L':=.mat e e2 s m n) hX hX hn hnew hE hst (Zb.le_refl _) (λ_ h=>ZVb h) ⟨ob,cap,rows,es,ZSa,hR,rfl⟩ (by rw[hℓ]) hX;refine fin (x:=.own n) (hr'.mono hU λ_ h=>h) hrun hd hX ⟨[_],⟨_,rfl,by cases ob <;> rfl,λe' he'=>?_⟩,rfl⟩ hX h;rw[ZL,iP rfl]at he';cases he';exact⟨_,_,_,ZSa,rfl⟩
theorem RelX.take (hr:RelX N G w0 v0 U X f l a w γ v ℓ) (hX:X n) (hn:¬ U n) {u st hv i:Nat} {ty0 ty2:TypeId} {t:T} {m:List (List t.den)} {r:List t.den} (he:lkE l u=some ⟨u,st,.mat ty0 ty2 t m hv⟩) {ob:Option Nat} {cap:Nat} {rows:List (Option Nat×Nat)} {p:Option Nat×Nat} (hγ:γ u = .mat ob cap rows) (hp:rows[i]? = some p) (hm:m[i]? = some r) :
  ∃ cs ℓ' E',t.rep.rels v cs r∧RelX N G w0 v0 U X f (⟨u,n,.mid ty0 ty2 t m hv (.hol i)⟩ :: era l u) a w γ v ℓ'∧F2 (ZGa v γ (⟨u,n,.mid ty0 ty2 t m hv (.hol i)⟩ :: era l u)) (⟨u,n,.mid ty0 ty2 t m hv (.hol i)⟩ :: era l u) E'∧ℓ'=E'.flatten∧St N w0 v0 [] (.own p.1 ty2 t.n r.length p.2 cs :: ℓ') v a w:=by
 obtain⟨es,E',h1,h2,_,h3,_⟩:=hr.del he;obtain⟨ob',cap',rows',es3,f1,f2,rfl⟩:=h1;have f1:γ u = .mat ob' cap' rows':=f1;rw[hγ]at f1;cases f1;obtain⟨cs,e1,e2,k1,k2,k3⟩:=ZFA f2 hp hm;subst k1;have hs:St N w0 v0 [] (.own p.1 ty2 t.n r.length p.2 cs :: (.own ob ty0 1 m.length cap (Zn rows m) :: (e1++e2)++E'.flatten)) v a w:=by
  refine hr.st.perm (h3.trans ?_);simp only[List.cons_append,aAq];exact (List.Perm.cons _ List.perm_middle).trans (List.Perm.swap _ _ _)
 have hle:Le U v γ l v γ (⟨u,n,.mid ty0 ty2 t m hv (.hol i)⟩ :: era l u):=Le.upd hr he (Zb.le_refl _) (λ_ _=>rfl) ⟨rfl,rfl,⟨_,_,_,_,hγ,hγ,λ_=>⟨rfl,rfl,rfl⟩⟩,λe=>absurd e hn⟩;have hrl:ZGa v γ (⟨u,n,.mid ty0 ty2 t m hv (.hol i)⟩ :: era l u) ⟨u,n,.mid ty0 ty2 t m hv (.hol i)⟩ (.own ob ty0 1 m.length cap (Zn rows m) :: (e1++e2)):=⟨ob,cap,rows,_,_,_,hγ,f2,⟨rfl,e1,_,e2,rfl,k2,rfl⟩,rfl⟩;have r2:=hr.upd hX (hr.ul _ (Zo he).1).1 h2 (hs.drop (List.sublist_cons_self _ _)) hle (λ_ _=>rfl) hrl (List.Perm.refl _) (hr.ul _ (Zo he).1).2.2;obtain⟨E2,hE2,hp2⟩:=r2.lr;exact⟨cs,E2.flatten,E2,k3,⟨r2.st.perm hp2,r2.fr,⟨E2,hE2,List.Perm.refl _⟩,r2.nd,r2.uf,r2.ul,r2.gh⟩,hE2,rfl,hs.perm (List.Perm.cons _ hp2)⟩
end
end Go.Eng
namespace Go.Eng
open Go.RowKit
theorem Zif {cs r:List Value} (h:zSl cs=some r):cs = .slice none 0 0 :: r:=by
 unfold zSl at h;split at h
 ·cases h;rfl
 ·cases h
theorem ZHu {v:Zb}:∀ {t:T} {cs r:List Value} {x:t.den},zOK t cs=some r→Zfg t=some x→∃ c1,cs=c1++r∧t.rep.rel v c1 x:=by
 intro t
 induction t with
 | int k =>
  intro cs r x h hx;unfold zOK at h
  cases hx
  split at h <;> try (cases h;done)
  all_goals (rename_i heq;cases heq)
  rename_i k' n rest;split at h
  ·rename_i hk
   cases h
   have:=ZCc hk;subst this;exact⟨[_],rfl,rfl,by cases k <;> decide⟩
  ·cases h
 | bool =>
  intro cs r x h hx;unfold zOK at h
  cases hx
  split at h <;> try (cases h;done)
  all_goals (rename_i heq;cases heq)
  cases h
  exact⟨[_],rfl,rfl⟩
 | flt k =>
  intro cs r x h hx;unfold zOK at h
  cases hx
  split at h <;> try (cases h;done)
  all_goals (rename_i heq;cases heq)
  split at h
  ·rename_i hk
   cases h
   have:=ZOu hk;subst this;exact⟨[_],rfl,rfl,by decide⟩
  ·cases h
 | str =>
  intro cs r x h hx;unfold zOK at h
  cases hx
  split at h <;> try (cases h;done)
  all_goals (rename_i heq;cases heq)
  rename_i s rest;split at h
  ·rename_i hs
   cases h
   refine⟨[_],rfl,?_,by show ([]:List UInt8).length≤maxLen;exact Nat.zero_le _⟩;have:s=Zs []:=by
    cases s with
    | mk d=>show _=ByteArray.mk _;congr 1;exact Array.ext' hs
   rw[this]
  ·cases h
 | one a ih =>
  intro cs r x h hx;simp only[zOK]at h;obtain⟨c1,h1,h2⟩:=ih h hx;exact⟨c1,h1,h2⟩
 | pair a b ia ib =>
  intro cs r x h hx;simp only[zOK]at h;simp only[Zfg]at hx;split at hx
  ·rename_i x1 x2 hx1 hx2
   cases hx
   split at h
   ·rename_i r1 hr1;obtain⟨c1,h1,h2⟩:=ia hr1 hx1;obtain⟨c2,h3,h4⟩:=ib h hx2;exact⟨c1++c2,by rw[h1,h3,aAq],c1,c2,rfl,h2,h4⟩
   ·cases h
  ·cases hx
 | ptr a _=>intro cs r x h hx;cases hx
 | slice a _ =>
  intro cs r x h hx
  cases hx
  simp only[zOK]at h;exact⟨[_],Zif h,ZSi _ _⟩
 | leaf i =>
  intro cs r x h hx;unfold zOK at h;split at h <;> try (cases h;done)
  all_goals (rename_i heq;cases heq)
  ·cases hx;exact⟨[_],Zif h,Zti _⟩
  ·cases hx;exact⟨[_],Zif h,Zsk _⟩
  ·cases hx;rw[Zif h];exact⟨[_,_],rfl,Zyu _⟩
  ·cases hx
   split at h
   ·rename_i r1 hr1;rw[Zif hr1,Zif h];exact⟨[_,_,_],rfl,ZNA _⟩
   ·cases h
section
variable {P:Program} {N:Nat} {G:V→Value→Prop} {w0:Base} {v0:Zb} {U X:Nat→Prop} {f:Fr} {l:Lo} {a:Act} {w:World} {γ:Nat→Gh} {v:Zb} {ℓ:List Loc} {n:Nat}
variable {ty:TypeId} {pos:String} {aft:Array Edge} {g:Option (Nat×Bool)}
theorem ZRi {t:T} {cs r:List Value} {z:V} (h:Zug t cs=some (z,r)):∃ c1,cs=c1++r∧RR v γ l false z c1∧z.ok U∧c1.all plain=true:=by
 unfold Zug at h;split at h
 ·rename_i x r' hx hr
  cases h
  obtain⟨c1,h1,h2⟩:=ZHu (v:=v) hr hx;exact⟨c1,h1,h2,trivial,Rep.flat _ h2⟩
 ·cases h
theorem Z0t {F:TypeId→List Value→Option (V×List Value)} (hF:∀ t cs z r,F t cs=some (z,r)→∃ c1,cs=c1++r∧RR v γ l false z c1∧z.ok U∧c1.all plain=true) :
  ∀ {fs:List Field} {cs r:List Value} {z:V},Z6j F fs cs=some (z,r)→∃ c1,cs=c1++r∧RR v γ l false z c1∧z.ok U∧c1.all plain=true
 | [],cs,r,z,h=>by cases h;exact⟨[],rfl,rfl,trivial,rfl⟩
 | x :: fs,cs,r,z,h=>by
  simp only[Z6j]at h
  split at h
  ·rename_i y cs1 hy
   split at h
   ·rename_i c cs2 hc
    cases h
    obtain⟨c1,h1,h2,h3,h4⟩:=hF _ _ _ _ hy
    obtain⟨c2,k1,k2,k3,k4⟩:=Z0t hF hc
    exact⟨c1++c2,by rw[h1,k1,aAq],⟨c1,c2,rfl,h2,k2⟩,⟨h3,k3⟩,by rw[List.all_append,h4,k4];rfl⟩
   ·cases h
  ·cases h
theorem ZJt {F:List Value→Option (V×List Value)} (hF:∀ cs z r,F cs=some (z,r)→∃ c1,cs=c1++r∧RR v γ l false z c1∧z.ok U∧c1.all plain=true):∀ {k:Nat} {cs r:List Value} {c:V},zRep F k cs=some (c,r)→∃ c1,cs=c1++r∧RR v γ l false c c1∧c.ok U∧c1.all plain=true
 | 0,cs,r,c,h=>by cases h;exact⟨[],rfl,rfl,trivial,rfl⟩
 | k+1,cs,r,c,h=>by
  simp only[zRep]at h
  split at h
  ·rename_i x cs1 hx
   split at h
   ·rename_i c' cs2 hc
    cases h
    obtain⟨c1,rfl,h2,h3,h4⟩:=hF _ _ _ hx
    obtain⟨c2,rfl,k2,k3,k4⟩:=ZJt hF hc
    exact⟨c1++c2,by simp,⟨c1,c2,rfl,h2,k2⟩,⟨h3,k3⟩,by rw[List.all_append,h4,k4];rfl⟩
   ·cases h
  ·cases h
theorem Z3o {C:Cf}:∀ (g:Nat) {t:TypeId} {cs r:List Value} {z:V},Zsi C g t cs=some (z,r)→∃ c1,cs=c1++r∧RR v γ l false z c1∧z.ok U∧c1.all plain=true
 | 0,_,_,_,_,h=>by cases h
 | g+1,t,cs,r,z,h=>by
  simp only[Zsi]at h
  split at h
  ·split at h
   ·cases h
    exact⟨[_,_,_],rfl,⟨[_],[_,_],rfl,rfl,[_],[_],rfl,Zsk _,[_],[],rfl,Zsk _,rfl⟩,⟨trivial,trivial,trivial,trivial⟩,rfl⟩
   ·cases h
  ·exact ZRi h
  ·split at h
   ·exact ZRi h
   ·exact ZRi h
   ·exact ZRi h
   ·exact ZRi h
   ·split at h
    ·rename_i r' hr
     cases h
     exact⟨[_],Zif hr,rfl,trivial,rfl⟩
    ·cases h
   ·split at h
    ·rename_i c r' hc
     cases h
     obtain⟨c1,h1,h2,h3,h4⟩:=Z0t (λt cs z r h=>Z3o g h) hc
     exact⟨c1,h1,h2,h3,h4⟩
    ·cases h
   ·split at h
    ·rename_i c r' hc
     cases h
     obtain⟨c1,h1,h2,h3,h4⟩:=ZJt (λcs z r h=>Z3o g h) hc
     exact⟨c1,h1,h2,h3,h4⟩
    ·cases h
   ·cases h
theorem ZWn {C:Cf} {t:TypeId} {z:V} (h:ZGj C t=some z):∃ y cs,(∀ w,(zeroValue t).run C.P w = .ok y w)∧y.cells=cs.toArray∧RR v γ l false z cs∧z.ok U∧cs.all plain=true:=by
 unfold ZGj at h;split at h
 ·rename_i i hi;split at h
  ·rename_i y hy;split at h
   ·rename_i x hx
    cases h
    obtain⟨c1,h1,h2,h3,h4⟩:=Z3o (v:=v) (γ:=γ) (l:=l) (U:=U) FU hx;rw[List.append_nil]at h1;refine⟨y,c1,λw=>by simp[zeroValue,typeInfo,hi,hy],by rw[← h1],h2,h3,h4⟩
   ·cases h
  ·cases h
 ·cases h
theorem Zhs (hr:RelX N G w0 v0 U X f l a w γ v ℓ) (hU:∀ k,U k→X k) (hX:X n) (hn:¬ U n) {t:TypeId} {o:Oper} {c:V} {cs:List Value} {Post:Unit→Fr→Lo→Prop} (hd:∀ k,o.dst=some k→k<N) (hc:RR v γ l false c cs) (hk:c.ok U) (hp:cs.all plain=true)
  (hrun:(execOp a.eval o).run P w = .ok (.value (.pointer (some ⟨w.heap.size,0,none⟩))) (w.alloc (.cells cs.toArray t))) (h:Zk n (Ev.new n (.box t c) (ret o (.ptr n 0))) f l Post):Zpa P N G w0 v0 X o a w Post:=by
 obtain⟨hnew,h⟩:=h;obtain⟨E,hE,hpm⟩:=hr.lr;have hst:=(hr.st.perm hpm).newLoc (.cells cs.toArray t) (e:=.box w.heap.size t cs) rfl (heap_alloc_new w _);have hle:Le U v γ l v (Ztb γ n (.box w.heap.size)) (⟨n,n,.box t c⟩ :: l):=⟨Zb.le_refl _,λk e' hk he=>by
  have hne:n≠k:=λe=>hn (e ▸ hk);rw[ZL,iN hne]at he;refine⟨e',he,?_⟩;obtain⟨hm,hk'⟩:=Zo he;obtain⟨es,hrr⟩:=Zze hE hm;have:=ZNh (U:=U) (γ':=Ztb γ n (.box w.heap.size)) hrr (ZVb (by rw[hk'];exact λe=>hne e.symm));rw[hk']at this;exact this⟩
 have hr':=hr.new (γ':=Ztb γ n (.box w.heap.size)) (L':=.box t c) hX hX hn hnew hE hst (Zb.le_refl _) (λ_ h=>ZVb h) ⟨_,cs,ZSa,ZDb hle hk hc,hp,rfl⟩ (List.Perm.refl _) hk;refine fin (x:=.ptr n 0) (hr'.mono hU λ_ h=>h) hrun hd hX ⟨[_],⟨_,rfl,ZKd,λe' he'=>?_⟩,rfl⟩ hX h;rw[ZL,iP rfl]at he';cases he';exact⟨_,ZSa,rfl⟩
theorem ZPg (hr:RelX N G w0 v0 U X f l a w γ v ℓ) (hU:∀ k,U k→X k) (hX:X n) (hn:¬ U n) {e:TypeId} {s:T} {xs:List s.den} {o:Oper} {ob:Option Nat} {cap:Nat} {cs:List Value} {w':World} {ℓ':List Loc} {E:List (List Loc)} {Post:Unit→Fr→Lo→Prop} (hd:∀ k,o.dst=some k→k<N) (hE:F2 (ZGa v γ l) l E) (hℓ:ℓ'=E.flatten)
  (hst:St N w0 v0 [] (.own ob e s.n xs.length cap cs :: ℓ') v a w') (hc:s.rep.rels v cs xs) (hrun:(execOp a.eval o).run P w = .ok (.value (.slice (mkA ob) xs.length cap)) w') (h:Zk n (Ev.new n (.own e s xs false) (ret o (.own n))) f l Post):Zpa P N G w0 v0 X o a w Post:=by
 obtain⟨hnew,h⟩:=h;have hr':=hr.new (γ':=Ztb γ n (.own ob cap)) (L':=.own e s xs false) hX hX hn hnew hE hst (Zb.le_refl _) (λ_ h=>ZVb h) ⟨ob,cap,cs,ZSa,hc,rfl⟩ (by rw[hℓ];exact List.Perm.refl _) trivial;refine fin (x:=.own n) (hr'.mono hU λ_ h=>h) hrun hd hX ⟨[_],⟨_,rfl,by cases ob <;> rfl,λe' he'=>?_⟩,rfl⟩ hX h;rw[ZL,iP rfl]at he';cases he';exact⟨_,_,ZSa,rfl⟩
theorem Zon {t:TypeId} {q:EI} (h:Zag P t=some q):Elem P t q.e q.sz q.by_ q.z∧0<q.by_:=by
 unfold Zag at h;split at h
 ·rename_i e he;split at h
  ·rename_i i hi;split at h
   ·rename_i z hz;split at h
    ·rename_i h1 h2 h3
     cases h
     have h1:=eQ h1;have h2:1≤i.size:=lB h2;have h3:1≤i.bytes:=lB h3;exact⟨⟨he,by simp[hi,hz],by simpa using h1,h2⟩,h3⟩
    ·cases h
   ·cases h
  ·cases h
 ·cases h
theorem Zop {ρ:Type} {g:Nat} {s:T} {c:V} {k:List s.den→Ev ρ} {Post:ρ→Fr→Lo→Prop} (h:Zk n (conv g (.slice s) (.agg c) k) f l Post):False:=by
 cases g with
 | zero=>exact h
 | succ g =>
  cases c with
  | cons x1 c =>
   cases c with
   | cons x2 r=>simp only[conv]at h;exact h
   | nl=>simp only[conv]at h;exact h
   | _=>simp only[conv]at h;exact h
  | _=>simp only[conv]at h;exact h
theorem Z8n {ρ:Type} {g:Nat} {s:T} {x:V} {k:List s.den→Ev ρ} {Post:ρ→Fr→Lo→Prop} (h:Zk n (conv g (.slice s) x k) f l Post):x.isAgg=false∧∀ c,x ≠ .tup c:=by
 cases x with
 | agg c=>exact (Zop h).elim
 | tup c =>
  cases g with
  | zero=>exact h.elim
  | succ g=>simp only[conv]at h;exact h.elim
 | data t x =>
  refine⟨?_,λc e=>by cases e⟩
  cases g with
  | zero=>exact h.elim
  | succ g =>
   simp only[conv]at h;split at h
   ·rename_i y hy;obtain⟨e,_⟩:=Z2 hy;subst e;rfl
   ·split at h
    ·rfl
    ·rfl
    ·rfl
    ·rfl
    ·rfl
    ·split at h
     ·exact (Zop h).elim
     ·exact h.elim
 | _=>exact⟨rfl,λc e=>by cases e⟩
theorem ZXf {x:V} {y:Value} (h:x.isAgg=false):x.val [y]=y:=by unfold V.val;rw[h];rfl
theorem Zqp {u2:Nat} {ty' ty2':TypeId} {s':T} {m':List (List s'.den)} {hv:Nat} {y:Operand} {st:Nat} (hq:RV v γ l (.own u2) (a.eval y)) (he:lkE l u2=some ⟨u2,st,.mat ty' ty2' s' m' hv⟩) {ob:Option Nat} {cap:Nat} {rows:List (Option Nat×Nat)} (q1:γ u2 = .mat ob cap rows):a.eval y = .slice (mkA ob) m'.length cap:=by
 obtain⟨yq,hyq0,_,hyq⟩:=Zga hq (λ_ e=>by cases e) rfl rfl;obtain⟨oq,cq,rq,gq1,gq2⟩:=hyq _ he;rw[q1]at gq1;cases gq1;exact ((List.cons.inj hyq0).1).trans gq2
theorem Z9s (hr:RelX N G w0 v0 U X f l a w γ v ℓ) (hU:∀ k,U k→X k) (hX:X n) (hn:¬ U n) {d:Option Nat} {t:TypeId} {x y:Operand} {o:Oper} {q:V} {pu:Option Nat} {ei:EI} {Post:Unit→Fr→Lo→Prop} (hE:Elem P t ei.e ei.sz ei.by_ ei.z) (hby:0<ei.by_) (ho:o=⟨d,.call ⟨.builtin .append,#[x,y],#[t,t]⟩,ty,pos,aft,g⟩) (hd:∀ k,o.dst=some k→k<N)
  (hp0:pu=none→a.eval x = .slice none 0 0) (hp1:∀ u,pu=some u→RV v γ l (.own u) (a.eval x)) (hq:RV v γ l q (a.eval y)) (h:Zk n (appM o n ei pu q) f l Post):Zpa P N G w0 v0 X o a w Post:=by
 unfold appM at h;split at h
 ·rename_i u2;obtain⟨⟨k2,st2,L2⟩,he2,h⟩:=h;have hkk2:k2=u2:=(Zo he2).2;subst hkk2
  cases L2 with
  | mat ty' ty2' s' m' hv' =>
   simp only at h;obtain⟨es,E',h1,h2,h2',h3,r2⟩:=hr.del he2;obtain⟨ob2,cap2,rows2,es3,q1,q2,rfl⟩:=h1;have q1:γ k2 = .mat ob2 cap2 rows2:=q1;have hy0:=Zqp hq he2 q1;have hl2:=ZSd (Zwg q2);have hs:=hr.st.perm h3
   cases pu with
   | none =>
    simp only at h;split at h
    ·rename_i b1 b2;have b1:=eQ b1;have b2:=eQ b2;obtain⟨_,hroom,h⟩:=h;obtain⟨v',hv,hs1,hrel⟩:=hs.pubSlice (i:=0) (A:=Z9d) (l:=Zn rows2 m') rfl rfl hl2.symm (Z9l ZXo) rfl;have hs1:St N w0 v0 [] (es3++E'.flatten) v' a w:=hs1;obtain⟨σ,hσ,e1,e2⟩:=(hs1.nilLoc ei.e 1).ev2 x y;have hE':Elem P t ei.e Z9d.n ei.by_ ei.z:=by rw[show Z9d.n=ei.sz from b2.symm];exact hE
     obtain⟨b',cap',cs2,w',hrun,hst',hrel2⟩:=ZYf (ty:=ty) (A:=Z9d) hE' hσ (i:=0) rfl hrel (n':=([]++m').length) (by simp) (ZIe hroom) hby;have hcs:=Z6o hrel2;subst hcs;rw[hp0 rfl]at e1;rw[hy0]at e2;have r3:=r2.go hv (hs1.drop (List.sublist_append_right _ _));obtain⟨E3,hE3,hp3⟩:=r3.lr;have hst':=hst'.bare;have hst3:St N w0 v0 [] (.own b' ty' 1 ([]++m').length cap' (Zn rows2 ([]++m')) :: es3++E3.flatten) v' a w':=by
      rw[← b1];exact hst'.perm (by simp only[List.set_cons_zero,List.cons_append];exact List.Perm.cons _ (List.Perm.append_left _ hp3))
     subst ho;exact ZSl r3 hU hX hn hd hE3 rfl (ZKc hv q2) hst3 (ZQe hσ e1 e2 hrun) h
    ·exact h.elim
   | some u =>
    simp only at h;split at h
    ·exact h.elim
    ·rename_i hne;have hne:u≠k2:=λe=>by subst e;simp at hne
     obtain⟨⟨k1,st1,L1⟩,he1,h⟩:=h;have hkk1:k1=u:=(Zo he1).2;subst hkk1
     cases L1 with
     | mat ty1 ty2 s m hv =>
      simp only at h;split at h
      ·rename_i m2 hm2 b1 b2 b3 b4;have b1:=eQ b1;have b2:=eQ b2;have b3:=eQ b3;have b4:=eQ b4;obtain⟨c3,c4⟩:=Z2 hm2
       cases c3;cases c4
       subst b1 b2;obtain⟨_,hroom,h⟩:=h;have he1':lkE (era l k2) k1=some ⟨k1,st1,.mat ty1 ty2 _ m hv⟩:=by
        rw[Z5b hr.nd,iN (λe=>hne e.symm)];exact he1
       obtain⟨es1,E1,g1,g2,g2',g3,r3⟩:=r2.del he1';obtain⟨ob1,cap1,rows1,es4,p1,p2,rfl⟩:=g1;have p1:γ k1 = .mat ob1 cap1 rows1:=p1;have hx0:=Zqp (hp1 k1 rfl) he1 p1;have hl1:=Zwg p2;have hs:St N w0 v0 [] (.own ob2 ty1 1 m'.length cap2 (Zn rows2 m') :: (.own ob1 ty1 1 m.length cap1 (Zn rows1 m) :: (es4++es3++E1.flatten))) v a w:=by
        refine hs.perm ?_;simp only[List.cons_append];refine List.Perm.cons _ ((List.Perm.append_left _ g3).trans ?_);simp only[List.cons_append];refine List.perm_middle.trans (List.Perm.cons _ ?_);rw[← aAq];exact List.Perm.append_right _ List.perm_append_comm
       obtain⟨v',hv,hs1,hrel⟩:=hs.pubSlice (i:=0) (A:=Z9d) (l:=Zn rows2 m') rfl rfl hl2.symm (Z9l ZXo) rfl;have hs1:St N w0 v0 [] (.own ob1 ty1 1 m.length cap1 (Zn rows1 m) :: (es4++es3++E1.flatten)) v' a w:=hs1;obtain⟨σ,hσ,e1,e2⟩:=hs1.ev2 x y;have hE':Elem P t ty1 Z9d.n ei.by_ ei.z:=by rw[show Z9d.n=ei.sz from b4.symm,← b3];exact hE
       obtain⟨b',cap',cs2,w',hrun,hst',hrel2⟩:=ZYf (ty:=ty) (A:=Z9d) hE' hσ (i:=0) rfl hrel (n':=(m++m').length) (by simp) (ZIe hroom) hby;have hcs:=Z6o hrel2;subst hcs;rw[hx0]at e1;rw[hy0]at e2;have r4:=r3.go hv (hs1.drop ((List.sublist_append_right _ _).trans (List.sublist_cons_self _ _)));obtain⟨E3,hE3,hp3⟩:=r4.lr;have hst':=hst'.bare;have hst3:St N w0 v0 [] (.own b' ty1 1 (m++m').length cap' (Zn (rows1++rows2) (m++m')) :: (es4++es3)++E3.flatten) v' a w':=by
        rw[ZBu hl1];exact hst'.perm (by simp only[List.set_cons_zero,List.cons_append];exact List.Perm.cons _ (List.Perm.append_left _ hp3))
       subst ho;exact ZSl r4 hU hX hn hd hE3 rfl (Zcq (ZKc hv p2) (ZKc hv q2)) hst3 (ZQe hσ e1 e2 hrun) h
      ·exact h.elim
     | box _ _=>exact h.elim
     | own _ _ _ _=>exact h.elim
     | mid _ _ _ _ _ _=>exact h.elim
  | box _ _=>exact h.elim
  | own _ _ _ _=>exact h.elim
  | mid _ _ _ _ _ _=>exact h.elim
 ·exact h.elim
theorem ZJz (hr:RelX N G w0 v0 U X f l a w γ v ℓ) (hU:∀ k,U k→X k) (hX:X n) (hn:¬ U n) {d:Option Nat} {t:TypeId} {x:Operand} {o:Oper} {p:V} {Post:Unit→Fr→Lo→Prop} (ho:o=⟨d,.load t x,ty,pos,aft,g⟩) (hd:∀ k,o.dst=some k→k<N) (hp:RV v γ l p (a.eval x))
  (h:Zk n (takeE P o n t p) f l Post):Zpa P N G w0 v0 X o a w Post:=by
 unfold takeE at h;split at h
 ·exact h.elim
 ·rename_i q hq;split at h
  ·rename_i u i hv cv e r hag;obtain⟨⟨kk,st,L⟩,he,h⟩:=h;have hkk:kk=u:=(Zo he).2;subst hkk;obtain⟨y,hy0,_,hy⟩:=Zga hp (λ_ e=>by cases e) rfl rfl;have hy0:a.eval x=y:=(List.cons.inj hy0).1;have hy:=hy _ he
   cases L with
   | mat ty0 ty2 s' m hv' =>
    simp only at h;split at h
    ·rename_i z b1 b2 hz;have b1:=eQ b1;have b2:=eQ b2;subst b1 b2;obtain⟨c3,c4⟩:=Z2 hz
     cases c3;cases c4
     obtain⟨b,cap,rows,g1,rfl,g3,g4⟩:=hy;obtain⟨m',c1,c2⟩:=g4 rfl;obtain⟨c5,c6⟩:=Z2 c1
     cases c5;cases c6
     obtain⟨hkk,es,hes,hmem⟩:=hr.loc he;obtain⟨ob,cap',rows',es2,q1,q2,rfl⟩:=hes;have q1:γ kk = .mat ob cap' rows':=q1;rw[g1]at q1;cases q1;obtain⟨p,cs,r1,r2,r3⟩:=Z5e q2 c2;obtain⟨j,hj⟩:=hmem _ List.mem_cons_self;have hh:=ZCi r1 c2;have hw:WAt w b (0+i*1) [.slice (mkA p.1) r.length p.2]:=by
      have hx:((Zn rows m).drop (i*1)).take 1=[.slice (mkA p.1) r.length p.2]:=by
       have hlt:=(List.getElem?_eq_some_iff.1 hh).1;rw[Nat.mul_one,List.drop_eq_getElem_cons hlt];simp[(List.getElem?_eq_some_iff.1 hh).2]
      have:=ZAe hr.st hj hx g3 0 [.slice (mkA p.1) r.length p.2] rfl (by simp)
      simpa using this
     obtain⟨cs2,ℓ2,E2,k1,r4,k2,k3,hst⟩:=hr.take hX hn he g1 r1 c2;obtain⟨σ,hs',e1⟩:=hr.st.ev1 x;rw[hy0]at e1;have ht:=Zte hq;rw[hag]at ht;subst ho;exact ZPg r4 hU hX hn hd k2 k3 hst k1 (Zzb hs' e1 ht hw) h
    ·exact h.elim
   | box _ _=>exact h.elim
   | own _ _ _ _=>exact h.elim
   | mid _ _ _ _ _ _=>exact h.elim
  ·exact h.elim
theorem appE_ok {C:Cf} (hr:RelX N G w0 v0 U X f l a w γ v ℓ) (hU:∀ k,U k→X k) (hX:X n) (hn:¬ U n) {d:Option Nat} {t:TypeId} {x y:Operand} {o:Oper} {p q:V} {Post:Unit→Fr→Lo→Prop} (ho:o=⟨d,.call ⟨.builtin .append,#[x,y],#[t,t]⟩,ty,pos,aft,g⟩) (hd:∀ k,o.dst=some k→k<N) (hp:RV v γ l p (a.eval x)) (hq:RV v γ l q (a.eval y)) (hk:p.ok U) (hkq:q.ok U)
  (h:Zk n (appE C o n t p q) f l Post):Zpa C.P N G w0 v0 X o a w Post:=by
 unfold appE at h;split at h
 ·exact h.elim
 ·rename_i ei hei;obtain⟨hE,hby⟩:=Zon hei;split at h
  ·rename_i u;obtain⟨en,he,h⟩:=h;obtain⟨k0,st0,L⟩:=en
   cases L with
   | own ty0 s xs0 fz0 =>
    obtain⟨ys,l1,γ1,v1,ℓ1,hB,r1,le1,q1⟩:=Zdd hn hX FU h hr hkq;obtain⟨en,he1,hC⟩:=hB;have hp1:=Zgb le1 hk hp;obtain⟨yy,hy0,_,hy⟩:=Zga hp1 (λ_ e=>by cases e) rfl rfl;have hy0:a.eval x=yy:=(List.cons.inj hy0).1;have hy:=hy en he1;obtain⟨kk,st,L⟩:=en;obtain⟨hm,hkk⟩:=Zo he1;have hkk:kk=u:=hkk;subst hkk
    cases L with
    | own ty1 s' xs fz =>
     cases fz with
     | true=>exact hC.elim
     | false =>
      simp only at hC;split at hC
      ·rename_i ys' hys ht hs;obtain⟨c3,c4⟩:=Z2 hys
       cases c3;cases c4
       have ht:=eQ ht;have hs:=eQ hs;obtain⟨_,hroom,hC⟩:=hC;obtain⟨ob,cap,g1,rfl⟩:=hy;obtain⟨es,E',h1,_,h2,h3,r2⟩:=r1.del he1;obtain⟨ob',cap',cs,f1,f2,rfl⟩:=h1;have f1:γ1 kk = .own ob' cap':=f1;rw[g1]at f1;cases f1;have hst:=r1.st.perm h3;obtain⟨σ,hσ,e1,e2⟩:=hst.ev2 x y;obtain⟨hq1,hq2⟩:=Z8n h;obtain⟨csq,hcq,hqe⟩:=Zmb hq hq2;have hcq':(ZB s.rep).rel v1 csq ys:=q1 _ hcq;obtain⟨qa,m,c,rfl⟩:=Z6f hcq';rw[ZXf hq1]at hqe;have hml:m=ys.length:=by obtain⟨_,_,e,_⟩:=hcq';cases e;rfl
       have hE':Elem C.P t ty1 s.rep.n ei.by_ ei.z:=by rw[ZK,← hs,← ht];exact hE
       have hσ':St N w0 v0 σ (.own ob ty1 s.rep.n xs.length cap cs :: E'.flatten) v1 a w:=by rw[ZK];exact hσ
       obtain⟨b',cap',cs2,w',hrun,hst',hrel⟩:=ZYf (ty:=ty) (A:=s.rep) hE' hσ' (i:=0) rfl hcq' (n':=(xs++(show List s.den from ys)).length) (by rw[lA,hml]) (ZIe hroom) hby;rw[hy0]at e1;rw[hqe]at e2;have hst':=hst'.bare;rw[ZK]at hst';subst ho;exact ZPg r2 hU hX hn hd h2 rfl hst' (ZQc f2 hrel) (ZQe hσ e1 e2 hrun) hC
      ·exact hC.elim
    | box _ _=>exact hC.elim
    | mid _ _ _ _ _ _=>exact hC.elim
    | mat _ _ _ _ _=>exact hC.elim
   | box _ _=>exact h.elim
   | mid _ _ _ _ _ _=>exact h.elim
   | mat _ _ _ _ _=>exact Z9s hr hU hX hn hE hby ho hd (λe=>by cases e) (λu' e=>by cases e;exact hp) hq h
  · -- a row
   rename_i u i hv cv s r;obtain⟨ys,l1,γ1,v1,ℓ1,hB,r1,le1,q1⟩:=Zdd hn hX FU h hr hkq;obtain⟨⟨kk,st,L⟩,he1,hC⟩:=hB;have hkk:kk=u:=(Zo he1).2;subst hkk;have hp1:=Zgb le1 hk hp;obtain⟨yy,hy0,_,hy⟩:=Zga hp1 (λ_ e=>by cases e) rfl rfl;have hy0:a.eval x=yy:=(List.cons.inj hy0).1;have hy:=hy _ he1
   cases L with
   | mat ty1 ty2 s' m hv' =>
    simp only at hC;split at hC
    ·rename_i z b1 b2 hz b3 b4;have b1:=eQ b1;have b2:=eQ b2;have b3:=eQ b3;have b4:=eQ b4;subst b1 b2;obtain⟨c3,c4⟩:=Z2 hz
     cases c3;cases c4
     obtain⟨_,hroom,hC⟩:=hC;obtain⟨ob,cap,rows,obi,capi,g1,g2,rfl,_,g6⟩:=hy rfl;obtain⟨m',c1,c2⟩:=g6 rfl;obtain⟨c5,c6⟩:=Z2 c1
     cases c5;cases c6
     obtain⟨cs,ℓ2,E2,k1,r2,k2,k3,hst⟩:=r1.take hX hn he1 g1 g2 c2;obtain⟨σ,hσ,e1,e2⟩:=hst.ev2 x y;obtain⟨hq1,hq2⟩:=Z8n h;obtain⟨csq,hcq,hqe⟩:=Zmb hq hq2;have hcq':(ZB s.rep).rel v1 csq ys:=q1 _ hcq;obtain⟨qa,mm,c,rfl⟩:=Z6f hcq';rw[ZXf hq1]at hqe;have hml:mm=ys.length:=by obtain⟨_,_,e,_⟩:=hcq';cases e;rfl
     have hE':Elem C.P t ty2 s.rep.n ei.by_ ei.z:=by rw[ZK,← b4,← b3];exact hE
     have hσ':St N w0 v0 σ (.own obi ty2 s.rep.n r.length capi cs :: ℓ2) v1 a w:=by rw[ZK];exact hσ
     obtain⟨b',cap',cs2,w',hrun,hst',hrel⟩:=ZYf (ty:=ty) (A:=s.rep) hE' hσ' (i:=0) rfl hcq' (n':=(r++(show List s.den from ys)).length) (by rw[lA,hml]) (ZIe hroom) hby;rw[hy0]at e1;rw[hqe]at e2;have hst':=hst'.bare;rw[ZK]at hst';subst ho;exact ZPg r2 hU hX hn hd k2 k3 hst' (ZQc k1 hrel) (ZQe hσ e1 e2 hrun) hC
    ·exact hC.elim
   | box _ _=>exact hC.elim
   | own _ _ _ _=>exact hC.elim
   | mid _ _ _ _ _ _=>exact hC.elim
  ·split at h
   ·refine Z9s hr hU hX hn hE hby ho hd (λ_=>?_) (λu' e=>by cases e) hq h;obtain⟨cs,h1,h2⟩:=hp;have h1:cs=[.slice none 0 0]:=h1;subst h1;exact h2
   split at h
   ·rename_i s hs;split at h
    ·rename_i hsz;have hsz:=eQ hsz;obtain⟨ys,l1,γ1,v1,ℓ1,hB,r1,le1,q1⟩:=Zdd hn hX FU h hr hkq;obtain⟨_,hroom,hC⟩:=hB;obtain⟨E',h2,h3⟩:=r1.lr;have hx0:a.eval x = .slice none 0 0:=by
      obtain⟨cs,h1,h2⟩:=hp;have h1:cs=[.slice none 0 0]:=h1;subst h1;exact h2
     have hst:=(r1.st.perm h3).nilLoc ei.e s.rep.n;obtain⟨σ,hσ,e1,e2⟩:=hst.ev2 x y;obtain⟨hq1,hq2⟩:=Z8n h;obtain⟨csq,hcq,hqe⟩:=Zmb hq hq2;have hcq':(ZB s.rep).rel v1 csq ys:=q1 _ hcq;obtain⟨qa,m,c,rfl⟩:=Z6f hcq';rw[ZXf hq1]at hqe;have hml:m=ys.length:=by obtain⟨_,_,e,_⟩:=hcq';cases e;rfl
     have hE':Elem C.P t ei.e s.rep.n ei.by_ ei.z:=by rw[ZK,← hsz];exact hE
     obtain⟨b',cap',cs2,w',hrun,hst',hrel⟩:=ZYf (ty:=ty) (A:=s.rep) hE' hσ (i:=0) rfl hcq' (n':=(([]:List s.den)++(show List s.den from ys)).length) (by rw[lA,hml];rfl) (ZIe hroom) hby;rw[hx0]at e1;rw[hqe]at e2;have hst':=hst'.bare;rw[ZK]at hst';subst ho;exact ZPg r1 hU hX hn hd h2 rfl hst' (ZQc ZHf hrel) (ZQe hσ e1 e2 hrun) hC
    ·exact h.elim
   ·exact h.elim
  ·exact h.elim
end
end Go.Eng
namespace Go.Eng
open Go.RowKit
variable {P:Program} {K:Nat} {w0:Base} {v0:Zb} {σ:List (Nat×Value)} {ℓ:List Loc} {v:Zb} {a:Act} {w:World}
variable {d:Option Nat} {ty:TypeId} {pos:String} {aft:Array Edge} {g:Option (Nat×Bool)}
theorem Zro (k:IntKind) (p q:Int):(Builtin.max2 (.int k p) (.int k q)).run P w = .ok (.int k (max p q)) w:=by
 simp only[Builtin.max2,Sem.run_pure];congr 2;by_cases h:q>p
 ·rw[iP h];omega
 ·rw[iN h];omega
theorem min2_eq (k:IntKind) (p q:Int):(Builtin.min2 (.int k p) (.int k q)).run P w = .ok (.int k (min p q)) w:=by
 simp only[Builtin.min2,Sem.run_pure];congr 2;by_cases h:q<p
 ·rw[iP h];omega
 ·rw[iN h];omega
theorem run_max (hS:St K w0 v0 σ ℓ v a w) {x y:Operand} {k:IntKind} {p q:Int} {ats:Array TypeId} (e:ev σ x=some (.int k p)) (e':ev σ y=some (.int k q)) :
  (execOp a.eval ⟨d,.call ⟨.builtin .max,#[x,y],ats⟩,ty,pos,aft,g⟩).run P w = .ok (.value (.int k (max p q))) w:=by
 simp[execOp,resolve,invoke,builtin,Builtin.max_,hS.eval e,hS.eval e',Zro]
theorem run_min (hS:St K w0 v0 σ ℓ v a w) {x y:Operand} {k:IntKind} {p q:Int} {ats:Array TypeId} (e:ev σ x=some (.int k p)) (e':ev σ y=some (.int k q)) :
  (execOp a.eval ⟨d,.call ⟨.builtin .min,#[x,y],ats⟩,ty,pos,aft,g⟩).run P w = .ok (.value (.int k (min p q))) w:=by
 simp[execOp,resolve,invoke,builtin,Builtin.min_,hS.eval e,hS.eval e',min2_eq]
theorem Zmw (hS:St K w0 v0 σ ℓ v a w) {x y z:Operand} {k:IntKind} {p q r:Int} {ats:Array TypeId} (e:ev σ x=some (.int k p)) (e':ev σ y=some (.int k q)) (e2:ev σ z=some (.int k r)) :
  (execOp a.eval ⟨d,.call ⟨.builtin .max,#[x,y,z],ats⟩,ty,pos,aft,g⟩).run P w = .ok (.value (.int k (max (max p q) r))) w:=by
 simp[execOp,resolve,invoke,builtin,Builtin.max_,hS.eval e,hS.eval e',hS.eval e2,Zro]
end Go.Eng
namespace Go.Eng
open Go.RowKit
section
variable {Q:Exit→Act→World→Prop} {a:Act} {w:World}
end
end Go.Eng
namespace Go.Eng
open Go.RowKit
theorem Zxx (off:Nat):∀ (l:List Value) (k:Nat) (acc:Array Value),off+k+l.length≤acc.size→(l.zipIdx k).foldl (λcs (c,j)=>cs.setIfInBounds (off+j) c) acc=(acc.toList.take (off+k)++l++acc.toList.drop (off+k+l.length)).toArray:=by
 intro l
 induction l with
 | nil=>intro k acc h;simp
 | cons y l ih =>
  intro k acc h;simp only[List.zipIdx_cons,List.foldl_cons];rw[ih (k+1) _ (by simp at h ⊢;omega)];congr 1;simp only[Array.toList_setIfInBounds];simp only[List.length_cons]at h;have hlt:off+k<acc.toList.length:=by simp;omega
  rw[List.take_set,List.drop_set_of_lt (by omega)];rw[List.set_eq_take_append_cons_drop,iP (by simp;simp at hlt;omega)];rw[List.take_take,Nat.min_eq_left (by omega)];have e1:((acc.toList.take (off+(k+1))).drop (off+k+1))=[]:=List.drop_of_length_le (by simp;omega);rw[e1];simp;congr 1;omega
theorem Z1o {place:Nat→Option (Nat×Nat)} {cells:Array Value} {i:Nat} {x:Value} {cs:List Value} {rest:List (Nat×Value)} {off:Nat} (hp:place i=some (off,cs.length)) (hx:x.cells=cs.toArray) (hc:off+cs.length≤cells.size) :
  Instr.fill place cells ((i,x) :: rest)=Instr.fill place (cells.toList.take off++cs++cells.toList.drop (off+cs.length)).toArray rest:=by
 have h1:¬ (x.cells.size≠cs.length || decide (off+x.cells.size>cells.size)):=by simp[hx,hc]
 conv=>lhs;unfold Instr.fill
 simp only[hp];rw[iN h1,hx];have:=Zxx off cs 0 cells (by omega);rw[← Array.foldl_toList];congr 1
 simpa using this
section
variable {P:Program} {N:Nat} {G:V→Value→Prop} {w0:Base} {v0:Zb} {U X:Nat→Prop} {f:Fr} {l:Lo} {a:Act} {w:World} {γ:Nat→Gh} {v:Zb} {ℓ:List Loc} {n:Nat}
variable {ty:TypeId} {pos:String} {aft:Array Edge} {g:Option (Nat×Bool)}
theorem ZWf {ρ:Type} (hr:RelX N G w0 v0 U X f l a w γ v ℓ):∀ {xs:List Operand} {k:V→Ev ρ} {Post:ρ→Fr→Lo→Prop},Zk n (Zue xs k) f l Post→∃ c,RR v γ l true c (xs.map a.eval)∧c.ok U∧Zk n (k c) f l Post
 | [],k,Post,h=>⟨.nl,rfl,trivial,h⟩
 | x :: xs,k,Post,h=>by
  obtain⟨V',h1,h2,h3⟩:=ZM hr h
  have hnt:∀ c,V' ≠ .tup c:=λc e=>by subst e;exact h3.elim
  have h3':Zk n (Zue xs λc=>k (.cons V' c)) f l Post:=by
   cases V' <;> first | exact h3 | exact h3.elim
  obtain⟨c,k1,k2,k3⟩:=ZWf hr h3';obtain⟨cs,q1,q2⟩:=Zmb h1 hnt;exact⟨.cons V' c,⟨cs,_,by rw[List.map_cons,q2],q1,k1⟩,⟨h2,k2⟩,k3⟩
theorem Zez {ρ:Type} {g:Nat} {t:T} {x:V} {k:t.den→Ev ρ} {Post:ρ→Fr→Lo→Prop} (h:Zk n (conv g t x k) f l Post):x.isAgg=true∨x.isAgg=false∧x.size=1:=by
 cases x with
 | data s x =>
  cases ha:s.agg with
  | true=>exact .inl ha
  | false=>exact .inr ⟨ha,T_one ha⟩
 | nilS=>exact .inr ⟨rfl,rfl⟩
 | own u=>exact .inr ⟨rfl,rfl⟩
 | ptr u o=>exact .inr ⟨rfl,rfl⟩
 | agg c=>exact .inl rfl
 | _ =>
  cases g with
  | zero=>exact h.elim
  | succ g=>simp only[conv]at h;exact h.elim
theorem ZBz {x:V} {cs:List Value} (hf:x.isAgg=true∨x.isAgg=false∧x.size=1) (h:RR v γ l false x cs) (hp:cs.all plain=true):(x.val cs).cells=cs.toArray:=by
 rcases hf with ha | ⟨ha,hs⟩
 ·unfold V.val;rw[ha];rfl
 ·have e:=Zzh h hs ha;have hv:x.val cs=cs.headD undef:=by unfold V.val;rw[ha]
  rw[hv]at e ⊢;rw[e]at hp;have hp':plain (cs.headD undef)=true:=by simpa using hp
  have:=Zkd hp'
  conv=>rhs;rw[e]
  exact this
theorem Z2v {ρ:Type} {t:T} (hn:¬ U n) (hX:X n):∀ {c:V} {k:List t.den→Ev ρ} {l:Lo} {γ:Nat→Gh} {v:Zb} {ℓ:List Loc} {Post:ρ→Fr→Lo→Prop},Zk n (convS t c k) f l Post→RelX N G w0 v0 U X f l a w γ v ℓ→c.ok U →
  ∃ xs l' γ' v' ℓ',Zk n (k xs) f l' Post∧RelX N G w0 v0 U X f l' a w γ' v' ℓ'∧Le U v γ l v' γ' l'∧∀ vals,RR v γ l true c vals→∃ css:List (List Value),t.rep.rels v' css.flatten xs∧css.length=xs.length∧vals.map Value.cells=css.map List.toArray∧∀ cs ∈ css,cs.length=t.n:=by
 intro c
 induction c with
 | nl =>
  intro k l γ v ℓ Post h hr hk;obtain⟨E,hE,_⟩:=hr.lr;exact⟨[],l,γ,v,ℓ,h,hr,Le.refl hE (Zb.le_refl _),λvals hv=>⟨[],rfl,rfl,by rw[show vals=[] from hv];rfl,λ_ h=>by cases h⟩⟩
 | cons x c _ ih =>
  intro k l γ v ℓ Post h hr hk;have hfit:=Zez (n:=n) (f:=f) (l:=l) (g:=FU) (t:=t) (x:=x) h;obtain⟨y,l1,γ1,v1,ℓ1,h,r1,le1,q1⟩:=Zdd hn hX FU h hr hk.1;obtain⟨ys,l2,γ2,v2,ℓ2,h,r2,le2,q2⟩:=ih h r1 hk.2;refine⟨y :: ys,l2,γ2,v2,ℓ2,h,r2,le1.trans le2,λvals hv=>?_⟩;obtain⟨cs,vs,rfl,h1,h2⟩:=hv;have hrel:=q1 cs h1;obtain⟨css,k1,k2,k3,k4⟩:=q2 vs (ZDb le1 hk.2 h2);refine⟨cs :: css,⟨cs,css.flatten,rfl,Rep.mono _ le2.v hrel,k1⟩,by simp[k2],?_,λc hc=>?_⟩
  ·rw[List.map_cons,List.map_cons,k3,ZBz hfit h1 (Rep.flat _ hrel)]
  ·rcases List.mem_cons.1 hc with rfl | hc
   ·rw[Rep.len _ hrel,ZK]
   ·exact k4 c hc
 | _=>intro k l γ v ℓ Post h;exact h.elim
theorem Zqm {sz:Nat}:∀ (css:List (List Value)) (vals:List Value) (k:Nat) (cells:Array Value),vals.map Value.cells=css.map List.toArray→(∀ cs ∈ css,cs.length=sz)→cells.size=(k+css.length)*sz →
  Instr.fill (λi=>some (i*sz,sz)) cells (vals.zipIdx k |>.map λp=>(p.2,p.1))=some (cells.toList.take (k*sz)++css.flatten).toArray
 | [],[],k,cells,_,_,hc=>by
  simp only[List.length_nil,Nat.add_zero]at hc
  simp only[List.zipIdx_nil,List.map_nil,Instr.fill,List.flatten_nil,List.append_nil]
  rw[List.take_of_length_le (by simp[hc])]
 | cs :: css,x :: vals,k,cells,h,hs,hc=>by
  simp only[List.map_cons,List.cons.injEq]at h
  have hl:=hs cs (by simp)
  simp only[List.length_cons]at hc
  have hb:k*sz+sz+css.length*sz=cells.size:=by rw[hc,Nat.add_mul,Nat.succ_mul];omega
  simp only[List.zipIdx_cons,List.map_cons]
  rw[Z1o (cs:=cs) (off:=k*sz) (by rw[hl]) h.1 (by omega)]
  rw[Zqm css vals (k+1) _ h.2 (λc hc=>hs c (by simp[hc])) (by
   simp only[List.size_toArray,lA,List.length_take,List.length_drop,Array.length_toList]
   rw[hl,Nat.min_eq_left (by omega),Nat.add_mul,Nat.succ_mul];omega)]
  congr 2
  have e1:(cells.toList.take (k*sz)).length=k*sz:=by simp;omega
  rw[List.flatten_cons,← aAq,Nat.succ_mul]
  congr 1
  rw[List.take_append,List.take_of_length_le (by simp[hl];omega)]
  rw[show k*sz+sz-(cells.toList.take (k*sz)++cs).length=0 by rw[lA,e1,hl];omega]
  simp
 | [],_ :: _,_,_,h,_,_=>by simp at h
 | _ :: _,[],_,_,h,_,_=>by simp at h
theorem Z8p:∀ {ps:List (Nat×Operand)} {k:Nat},ZYk k ps=true→ps.map (λp=>(p.1,a.eval p.2))=((ps.map λp=>a.eval p.2).zipIdx k).map λp=>(p.2,p.1)
 | [],_,_=>rfl
 | p :: ps,k,h=>by
  simp only[ZYk]at h
  split at h
  ·rename_i hb
   have hb:=eQ hb
   simp only[List.map_cons,List.zipIdx_cons]
   rw[Z8p h,hb]
  ·cases h
theorem ZCm {t e:TypeId} {m sz:Nat} {inf:TypeInfo} {z:Value} {L:List (Nat×Value)} {cs:List Value} (ht:P.underlying t=some (.slice e)) (hi:P.info? e=some inf) (hz:inf.zero=some z) (hs:inf.size=sz) (hb:m*sz≤16777216)
  (hf:∀ zc:Array Value,Instr.fill (λi=>some (i*sz,sz)) ((Array.range (m*sz)).map (λi=>zc[i%zc.size]!)) L=some cs.toArray) (w:World):(Instr.buildSlice t m L.toArray).run P w = .ok (.slice (some ⟨w.heap.size,0,none⟩) m m) (w.alloc (.cells cs.toArray e)):=by
 subst hs;have hb:¬ (m*inf.size>2^24):=by omega
 unfold Instr.buildSlice;by_cases h0:m*inf.size=0
 ·have:=hf #[];simp only[h0]at this;simp[run_underlying ht,sizeOf,typeInfo,hi,h0] ; simp at this;simp[this,newRow]
 ·have:=hf z.cells;obtain⟨A,hA⟩:∃ A,A=(Array.range (m*inf.size)).map (λi=>z.cells[i%z.cells.size]!):=⟨_,rfl⟩;rw[← hA]at this;simp only[run_underlying ht,sizeOf,typeInfo,zeroValue];simp[run_underlying ht,typeInfo,hi,hz,h0,show ¬ (16777216<m*inf.size) by omega];rw[← hA,this];simp[newRow]
theorem ZFv {C:Cf} (hr:RelX N G w0 v0 U X f l a w γ v ℓ) (hU:∀ k,U k→X k) (hX:X n) (hn:¬ U n) {d:Option Nat} {t:TypeId} {m:Nat} {ps:Array (Nat×Operand)} {o:Oper} {Post:Unit→Fr→Lo→Prop} (ho:o=⟨d,.buildSlice t m ps,ty,pos,aft,g⟩) (hd:∀ k,o.dst=some k→k<N)
  (h:Zk n (Z3 C n o) f l Post):Zpa C.P N G w0 v0 X o a w Post:=by
 subst ho;simp only[Z3]at h;split at h
 ·rename_i q hq;obtain⟨hE,hby⟩:=Zon hq;split at h
  ·split at h
   ·rename_i x hps hps2;have hps:=hps;obtain⟨V1,h1,hk1,h⟩:=ZM hr h;split at h
    ·rename_i u2 q2 _ hq2 _;obtain⟨⟨k2,st2,L2⟩,he2,h⟩:=h;have hkk2:k2=u2:=(Zo he2).2;subst hkk2
     cases L2 with
     | own ty2 s xs fz =>
      cases fz with
      | true=>exact h.elim
      | false =>
       simp only at h;split at h
       ·rename_i b1 b2 b3;have b3:=eQ b3;obtain⟨es,E',g1,g2,g2',g3,r2⟩:=hr.del he2;obtain⟨ob2,cap2,cs2,f1,f2,rfl⟩:=g1;have f1:γ k2 = .own ob2 cap2:=f1;have hy0:a.eval x = .slice (mkA ob2) xs.length cap2:=by
         obtain⟨yq,hyq0,_,hyq⟩:=Zga h1 (λ_ e=>by cases e) rfl rfl;obtain⟨oq,cq,gq1,gq2⟩:=hyq _ he2;rw[f1]at gq1;cases gq1;exact ((List.cons.inj hyq0).1).trans gq2
        have hcells:(Value.slice (mkA ob2) xs.length cap2).cells=[Value.slice (mkA ob2) xs.length cap2].toArray:=by cases ob2 <;> rfl
        have hz:∀ w,(Instr.buildSlice t 1 (ps.toList.map λp=>(p.1,a.eval p.2)).toArray).run C.P w = .ok (.slice (some ⟨w.heap.size,0,none⟩) 1 1) (w.alloc (.cells [Value.slice (mkA ob2) xs.length cap2].toArray q.e)):=by
         intro w;obtain⟨inf,hinf,hzz,hsz',hby'⟩:=info_parts hE.info;rw[hps,List.map_singleton];simp only[hy0];refine ZCm (sz:=1) hE.ty hinf hzz (hsz'.trans b3) (by decide) (λzc=>?_) w;have:=Zqm (sz:=1) [[Value.slice (mkA ob2) xs.length cap2]] [Value.slice (mkA ob2) xs.length cap2] 0 ((Array.range (1*1)).map (λi=>zc[i%zc.size]!)) (by simp[hcells]) (λcs hc=>by rw[List.mem_singleton.1 hc];rfl) (by simp)
         simpa using this
        have hst:=hr.st.perm g3;obtain⟨σ,hσ,hev⟩:=hst.evs (ps.toList.map (·.2));obtain⟨b,w',hrun,hst'⟩:=Zyg (P:=C.P) (t:=t) (e:=q.e) (sz:=1) hσ (by simp) (by decide) hz;have hev':ps.toList.map (λp=>(ev σ p.2).map λy=>(p.1,y))=(ps.toList.map λp=>(p.1,a.eval p.2)).map some:=by
         rw[List.map_map];refine List.map_congr_left λp hp=>?_;rw[hev p.2 (List.mem_map.2 ⟨p,hp,rfl⟩)];rfl
        exact ZSl (rows:=[(ob2,cap2)]) (m:=[xs]) r2 hU hX hn hd g2' rfl ⟨cs2,[],f2,rfl,rfl⟩ hst'.bare (hrun (d:=d) (ty:=ty) (pos:=pos) (aft:=aft) (g:=g) hev') h
       ·exact h.elim
     | box _ _=>exact h.elim
     | mat _ _ _ _ _=>exact h.elim
     | mid _ _ _ _ _ _=>exact h.elim
    ·exact h.elim
   ·exact h.elim
  split at h
  ·rename_i s hs ho hlen hbig;have hlen:=eQ hlen;have hbig:=lB hbig;split at h
   ·rename_i hsz;have hsz:=eQ hsz;obtain⟨c,h1,h2,h⟩:=ZWf hr h;obtain⟨xs,l1,γ1,v1,ℓ1,h,r1,le1,q1⟩:=Z2v hn hX h hr h2;obtain⟨css,k1,k2,k3,k4⟩:=q1 _ h1;obtain⟨E,hEE,hp⟩:=r1.lr;have hvl:css.length=m:=by
     have:=congrArg List.length k3;simp only[List.length_map]at this;omega
    have hflat:css.flatten.length=m*q.sz:=by
     have:=ZTc k1;rw[ZK,← k2,hvl,← hsz]at this;exact this
    have hz:∀ w,(Instr.buildSlice t m (ps.toList.map λp=>(p.1,a.eval p.2)).toArray).run C.P w = .ok (.slice (some ⟨w.heap.size,0,none⟩) m m) (w.alloc (.cells css.flatten.toArray q.e)):=by
     intro w;obtain⟨inf,hinf,hzz,hsz',hby'⟩:=info_parts hE.info;rw[Z8p ho];have hm:(ps.toList.map λp=>a.eval p.2)=(ps.toList.map (·.2)).map a.eval:=by rw[List.map_map];rfl
     rw[hm];have hf:∀ zc:Array Value,Instr.fill (λi=>some (i*q.sz,q.sz)) ((Array.range (m*q.sz)).map (λi=>zc[i%zc.size]!)) ((((ps.toList.map (·.2)).map a.eval).zipIdx).map λp=>(p.2,p.1))=some css.flatten.toArray:=λzc=>by
      have:=Zqm (sz:=q.sz) css ((ps.toList.map (·.2)).map a.eval) 0 ((Array.range (m*q.sz)).map (λi=>zc[i%zc.size]!)) k3 (λcs hc=>by rw[k4 cs hc,hsz]) (by simp[hvl]);rw[Nat.zero_mul,List.take_zero,List.nil_append]at this;exact this
     obtain⟨L,hL⟩:∃ L,L=((((ps.toList.map (·.2)).map a.eval).zipIdx).map λp=>(p.2,p.1)):=⟨_,rfl⟩;rw[← hL]at hf ⊢;clear hL;exact ZCm hE.ty hinf hzz hsz' hbig hf w
    have hst:=r1.st.perm hp;obtain⟨σ,hσ,hev⟩:=hst.evs (ps.toList.map (·.2));have hmax:m≤maxLen:=by
     have h1:m≤m*q.sz:=Nat.le_mul_of_pos_right _ hE.pos;unfold maxLen;omega
    obtain⟨b,w',hrun,hst'⟩:=Zyg (P:=C.P) (t:=t) (e:=q.e) hσ hflat hmax hz;have hev':ps.toList.map (λp=>(ev σ p.2).map λy=>(p.1,y))=(ps.toList.map λp=>(p.1,a.eval p.2)).map some:=by
     rw[List.map_map];refine List.map_congr_left λp hp=>?_;rw[hev p.2 (List.mem_map.2 ⟨p,hp,rfl⟩)];rfl
    have hxl:m=xs.length:=by omega
    have hst':=hst'.bare;rw[hsz,hxl]at hst';have hrun':=hrun (d:=d) (ty:=ty) (pos:=pos) (aft:=aft) (g:=g) hev'
    conv at hrun'=>rhs;rw[hxl]
    exact ZPg r1 hU hX hn hd hEE rfl hst' k1 hrun' h
   ·exact h.elim
  ·exact h.elim
 ·exact h.elim
end
end Go.Eng
namespace Go.Eng
open Go.RowKit
section
variable {P:Program} {K:Nat} {w0:Base} {v0:Zb} {σ:List (Nat×Value)} {ℓ:List Loc} {v:Zb} {a:Act} {w:World}
variable {d:Option Nat} {ty:TypeId} {pos:String} {aft:Array Edge} {g:Option (Nat×Bool)}
theorem Z4w (w:World) (dT sT ty elem:TypeId) (i:TypeInfo) (g o dLen dCap:Nat) (a:Addr) (sLen sCap:Nat) (cur:Array Value) (t:TypeId) (cs:List Value)
  (hu:P.underlying dT=some (.slice elem)) (hi:P.info? elem=some i) (hg:w.heap[g]? = some (.cells cur t (0,0))) (hn:cs.length=Nat.min sLen dLen*i.size)
  (hsrc:∀ j v,cs[j]? = some v→w.cell? (a.add j)=some v) (hfit:o+cs.length≤cur.size) (h1:∀ v ∈ cs,v.oneCell'=true) :
  (Builtin.copy_ #[dT,sT] ty #[.slice (some ⟨g,o,none⟩) dLen dCap,.slice (some a) sLen sCap]).run P w =
   .ok (goInt (Nat.min sLen dLen)) (w.setRow g (cur.toList.take o++cs++cur.toList.drop (o+cs.length)).toArray):=by
 have hl:=run_loadCells_list (P:=P) w a cs hsrc;have hst:=run_storeCells_at P g o t cs 0 cur w hg (by simpa using hfit) h1;simp[Builtin.copy_,run_underlying hu,Builtin.lenOf,Builtin.firstCells,sizeOf,typeInfo,hi,← hn,hl,hst]
theorem ZHt {t e sT:TypeId} {sz bytes:Nat} {z:Value} (E:Elem P t e sz bytes z) (hS:St K w0 v0 σ ℓ v a w) {i n cap b:Nat} {cs:List Value} (hi:ℓ[i]? = some (.own (some b) e sz n cap cs)) {p k:Nat} {c:List Value}
  (hc:c.length=k*sz) (hp:p+k≤n) (hpl:c.all plain=true) {ad:Addr} {sLen sCap dLen dCap:Nat} (hsrc:∀ j u,c[j]? = some u→w.cell? (ad.add j)=some u) (hk:Nat.min sLen dLen=k) :
  ∃ w',(∀ ty,(Builtin.copy_ #[t,sT] ty #[.slice (some ⟨b,p*sz,none⟩) dLen dCap,.slice (some ad) sLen sCap]).run P w = .ok (.int .i64 k) w') ∧
   St K w0 v0 σ (ℓ.set i (.own (some b) e sz n cap (cs.take (p*sz)++c++cs.drop (p*sz+c.length)))) v a w':=by
 obtain⟨inf,hinf,hz,hs,hby⟩:=info_parts E.info;obtain⟨hcl,cur,hg,hnc,hcx,hcs,htake⟩:=(hS.loc _ (mG hi)).1;have h1:p*sz+c.length≤n*sz:=by rw[hc,← Nat.add_mul];exact mR _ hp
 have h2:n*sz≤cap*sz:=mR _ hnc;have hcl2:cur.toList.length=cap*sz:=by simpa using hcs
 refine⟨_,λty=>?_,hS.setRow hi rfl rfl (c:=(cur.toList.take (p*sz)++c++cur.toList.drop (p*sz+c.length)).toArray) ⟨?_,_,setRow_heap w b cur _ e _ hg,hnc,hcx,?_,?_⟩⟩
 ·have:=Z4w (P:=P) w t sT ty e inf b (p*sz) dLen dCap ad sLen sCap cur e c E.ty hinf hg (by rw[hk,hs];exact hc) hsrc (by omega) (Z6m hpl);rw[this,hk];rfl
 ·simp;omega
 ·simp;omega
 ·show List.take (n*sz) (_++_++_)=_;rw[Zgu _ _ _ _ h1 (by omega),htake]
end
end Go.Eng
namespace Go.Eng
open Go.RowKit
def OwnI {α:Type} (A:Rep α) (T:TypeId) (sz:Nat) (l:List α) (ob0:Option Nat) (w:World) (r:Value) (v':Zb) (w':World):Prop :=
 ∃ ob n cap cs,r = .slice (mkA ob) n cap∧(Loc.own ob T sz n cap cs).holds w'∧(∀ b,ob=some b→(w.heap.size≤b∨ob0=some b)∧v' b=none)∧A.rels v' cs l∧n=l.length
section
variable {P:Program} {K:Nat} {w0:Base} {v0:Zb} {σ:List (Nat×Value)} {ℓ:List Loc} {v:Zb} {a:Act} {w:World}
theorem St.afterI {v':Zb} {w':World} (h:St K w0 v0 σ ℓ v a w) {i:Nat} {e e':Loc} (hi:ℓ[i]? = some e) (x:ExtB ⟨w,e.blk.toList⟩ w') (s:VStepB ⟨w,e.blk.toList⟩ v w' v') (hh:e'.holds w') (hb':∀ b,e'.blk=some b→(w.heap.size≤b∨e.blk=some b)∧v' b=none) :
  St K w0 v0 σ (e' :: ℓ.eraseIdx i) v' a w':=by
 obtain⟨he,hv⟩:=h.loc e (mG hi);have nl:∀ k,k<w0.wd.heap.size→k ∉ w0.lent→k ∉ e.blk.toList:=λk hk hl hm=>by
  have hm:e.blk=some k:=by simpa using hm
  rcases (hv k hm).1 with h' | h'
  ·omega
  ·exact hl h'
 have oth:∀ j y,ℓ[j]? = some y→j≠i→∀ b',y.blk=some b'→b'<w.heap.size∧e.blk≠some b'∧b' ∉ e.blk.toList:=λj y hj hji b' hb2=>by
  obtain⟨c2,T2,hg2⟩:=Loc.blk_get (h.loc y (mG hj)).1 hb2;have hne:e.blk≠some b':=λhb=>ZUi h.nd hi hb j y hj hji b' hb2 rfl;exact⟨Z8c hg2,hne,by simpa using hne⟩
 refine⟨h.size,h.dfr,h.fr,⟨x.os.trans h.ext.os,x.tape.trans h.ext.tape,x.output.trans h.ext.output,Nat.le_trans h.ext.size x.size,λk hk hl=>?_⟩,⟨Zb.le_trans h.vst.le s.le,s.vin,λk hk hl=>?_⟩,λy hy=>?_,?_⟩
 ·rw[x.block k (Nat.lt_of_lt_of_le hk h.ext.size) (nl k hk hl)];exact h.ext.block k hk hl
 ·rw[s.old k (Nat.lt_of_lt_of_le hk h.ext.size) (nl k hk hl)];exact h.vst.old k hk hl
 ·rcases List.mem_cons.1 hy with rfl | hy
  ·refine⟨hh,λb hb=>⟨?_,(hb' b hb).2⟩⟩;rcases (hb' b hb).1 with h1 | h1
   ·exact .inl (Nat.le_trans h.ext.size h1)
   ·exact (hv b h1).1
  ·obtain⟨j,hji,hj⟩:=List.mem_eraseIdx_iff_getElem?.1 hy;obtain⟨h1,h2⟩:=h.loc y (mG hj);have same:∀ b',y.blk=some b'→w'.heap[b']? = w.heap[b']?:=λb' hb2=>by
    obtain⟨o1,o2,o3⟩:=oth j y hj hji b' hb2;exact x.block b' o1 o3
   refine⟨?_,λb' hb2=>⟨(h2 b' hb2).1,?_⟩⟩
   ·cases y with
    | box b' T' cs=>show _=_;rw[same b' rfl];exact h1
    | own b' T' sz n cap cs =>
     cases b' with
     | none=>exact h1
     | some b'=>obtain⟨k1,c',k2,k3⟩:=h1;exact⟨k1,c',by rw[same b' rfl];exact k2,k3⟩
   ·obtain⟨o1,o2,o3⟩:=oth j y hj hji b' hb2;rw[s.old b' o1 o3];exact (h2 b' hb2).2
 ·have hsub:((ℓ.eraseIdx i).filterMap Loc.blk).Nodup:=h.nd.sublist ((List.eraseIdx_sublist ..).filterMap _)
  cases hb:e'.blk with
  | none=>rw[List.filterMap_cons_none hb];exact hsub
  | some b =>
   rw[List.filterMap_cons_some hb];refine List.nodup_cons.2 ⟨λhm=>?_,hsub⟩;obtain⟨y,hy,hyb⟩:=List.mem_filterMap.1 hm;obtain⟨j,hji,hj⟩:=List.mem_eraseIdx_iff_getElem?.1 hy;obtain⟨o1,o2,o3⟩:=oth j y hj hji b hyb;rcases (hb' b hb).1 with h1 | h1
   ·omega
   ·exact o2 h1
variable {d:Option Nat} {ty:TypeId} {pos:String} {aft:Array Edge} {g:Option (Nat×Bool)}
theorem ZoA (hS:St K w0 v0 σ ℓ v a w) {t e:TypeId} {sz b o n cap p:Nat} {x lo:Operand} {k:IntKind} (ht:ZDd P t e sz) (e1:ev σ x=some (.slice (some ⟨b,o,none⟩) n cap)) (e2:ev σ lo=some (.int k (p:Int))) (hp:p≤n) (hc:p<cap) :
  (execOp a.eval ⟨d,.slice t x (some lo) none none,ty,pos,aft,g⟩).run P w = .ok (.value (.slice (some ⟨b,o+p*sz,none⟩) (n-p) (cap-p))) w:=by
 have h1:(0:Int)≤(p:Int)∧(p:Int)≤(n:Int):=by omega
 have h2:¬ cap=p:=by omega
 simp[execOp,Instr.sliceAt,Instr.slice,Instr.sliceBounds,Instr.sliceBound,asIntOf,hS.eval e1,hS.eval e2,ht.1,ht.2,hp,h2,Zeb]
theorem Zhz (hS:St K w0 v0 σ ℓ v a w) {t e:TypeId} {sz b n cap p:Nat} {x hi:Operand} {k:IntKind} (ht:ZDd P t e sz) (e1:ev σ x=some (.slice (some ⟨b,0,none⟩) n cap)) (e2:ev σ hi=some (.int k (p:Int))) (hp:p≤cap) (hc:0<cap) :
  (execOp a.eval ⟨d,.slice t x none (some hi) none,ty,pos,aft,g⟩).run P w = .ok (.value (.slice (some ⟨b,0,none⟩) p cap)) w:=by
 have h1:(0:Int)≤(p:Int)∧(p:Int)≤(cap:Int):=by omega
 have h2:¬ cap=0:=by omega
 simp[execOp,Instr.sliceAt,Instr.slice,Instr.sliceBounds,Instr.sliceBound,asIntOf,hS.eval e1,hS.eval e2,ht.1,ht.2,hp,h2,Zeb]
theorem Zwu (hS:St K w0 v0 σ ℓ v a w) {t t':TypeId} {x y:Operand} {p q r:Value} {w':World} (e:ev σ x=some p) (e':ev σ y=some q) (h:(Builtin.copy_ #[t,t'] ty #[p,q]).run P w = .ok r w') :
  (execOp a.eval ⟨d,.call ⟨.builtin .copy,#[x,y],#[t,t']⟩,ty,pos,aft,g⟩).run P w = .ok (.value r) w':=by
 simp[execOp,resolve,invoke,builtin,hS.eval e,hS.eval e',h]
end
end Go.Eng
namespace Go.Eng
open Go.RowKit
def Zff {α:Type} (by_:Nat) (l:List α):Option (List α):=bnd (Zy by_ l) λ_=>some l
theorem ZXv {α:Type} {by_:Nat} {l z:List α} (h:Zff by_ l=some z):l.length*by_≤140737488355328∧z=l:=by
 obtain⟨_,h1,h2⟩:=ZAa h;exact⟨ZIe h1,(Option.some.inj h2).symm⟩
def Zkf {α:Type} (by_:Nat) (x:List α) (n:Int):Option (List α):=match x with
 | [z]=>bnd (mk by_ n n) λ_=>some (List.replicate n.toNat z)
 | _=>none
theorem ZZw {α:Type} {by_:Nat} {x r:List α} {n:Int} (h:Zkf by_ x n=some r):∃ z,x=[z]∧r=List.replicate n.toNat z∧mk by_ n n=some ():=by
 unfold Zkf at h;split at h
 ·obtain⟨_,h1,h2⟩:=ZAa h;exact⟨_,rfl,(Option.some.inj h2).symm,h1⟩
 ·cases h
theorem Z6k {c:List Value} {sz:Nat} (h:c.length=sz) (n:Nat):((List.replicate n c).flatten).length=n*sz:=by
 rw[List.length_flatten,List.map_replicate,h,List.sum_replicate_nat]
theorem ZXw {c:List Value} (h:c.all plain=true) (n:Nat):((List.replicate n c).flatten).all plain=true:=by
 rw[List.all_eq_true];intro x hx;obtain⟨l,hl,hxl⟩:=List.mem_flatten.1 hx;rw[(List.mem_replicate.1 hl).2]at hxl;exact List.all_eq_true.1 h x hxl
theorem Zcr {c:List Value} {m n:Nat} (h:m≤n):(List.replicate n c).flatten=(List.replicate m c).flatten++(List.replicate (n-m) c).flatten:=by
 obtain⟨k,rfl⟩:=Nat.exists_eq_add_of_le h;rw[Nat.add_sub_cancel_left,← List.flatten_append,List.replicate_append_replicate]
theorem rp_step {c z:List Value} {sz j m k:Nat} (hc:c.length=sz) (hz:z.length=sz) (h:j+m≤k):((List.replicate j c).flatten++(List.replicate (k-j) z).flatten).take (j*sz)++(List.replicate m c).flatten++((List.replicate j c).flatten++(List.replicate (k-j) z).flatten).drop (j*sz+((List.replicate m c).flatten).length)=(List.replicate (j+m) c).flatten++(List.replicate (k-(j+m)) z).flatten:=by
 have h1:=Z6k hc j;have h2:=Z6k hz m;rw[Z6k hc m,List.take_left' h1,← List.flatten_append,List.replicate_append_replicate,List.drop_append,h1,List.drop_of_length_le (by rw[h1];omega),List.nil_append,Nat.add_sub_cancel_left,Zcr (m:=m) (n:=k-j) (by omega),List.drop_left' h2,Nat.sub_sub]
section
variable {P:Program} {K:Nat} {w0:Base} {v0:Zb} {σ:List (Nat×Value)} {ℓ:List Loc} {v:Zb} {a:Act} {w:World}
variable {d:Option Nat} {ty:TypeId} {pos:String} {aft:Array Edge} {g:Option (Nat×Bool)}
theorem Zkx (hS:St K w0 v0 σ ℓ v a w) {t t2 e:TypeId} {x y:Operand} {q:Option Addr} {n c:Nat} (ht:P.underlying t=some (.slice e)) (e1:ev σ x=some (.slice q n c)) (e2:ev σ y=some (.slice none 0 0)) :
  (execOp a.eval ⟨d,.binOp .eql t x y t2,ty,pos,aft,g⟩).run P w = .ok (.value (.bool q.isNone)) w:=by
 have h:∀ w:World,(Op.equal t (.slice q n c) (.slice none 0 0)).run P w = .ok q.isNone w:=λw=>by
  show (Op.equalIn (9999+1) t (.slice q n c) (.slice none 0 0)).run P w=_;unfold Op.equalIn
  cases q <;> simp[run_underlying ht]
 simp[execOp,hS.eval e1,hS.eval e2,eqGuard,binOp,h]
theorem ZYx {t e:TypeId} {sz by_:Nat} {z:Value} (E:Elem P t e sz by_ z) (hS:St K w0 v0 σ ℓ v a w) :
  ∃ b w',((execOp a.eval ⟨d,.buildSlice t 0 #[],ty,pos,aft,g⟩).run P w = .ok (.value (.slice (mkA (some b)) 0 0)) w')∧St K w0 v0 σ (.own (some b) e sz 0 0 [] :: ℓ) v a w':=by
 obtain⟨i,h1,h2,h3,h4⟩:=info_parts E.info;obtain⟨b,w',hrun,hst⟩:=Zyg (P:=P) (t:=t) (e:=e) (sz:=sz) (n:=0) (vals:=[]) (cs:=[]) hS (by simp) (by decide) (λw=>ZCm E.ty h1 h2 h3 (by omega) (λzc=>by simp[Instr.fill]) w);exact⟨b,w',hrun (ps:=#[]) rfl,hst⟩
end
def vx {α:Type} (n:Nat) (f:Nat→α):List α:=(List.range n).map f
theorem Zw {α:Type} (n:Nat) (f:Nat→α):(vx n f).length=n:=by simp[vx]
theorem Zgj {α:Type} {n i:Nat} (f:Nat→α) (h:i<n):(vx n f)[i]? = some (f i):=by simp[vx,h]
theorem ZF {α:Type} {n i:Nat} (f:Nat→α) (h:i<n):idx (vx n f) (i:Int)=some (f i):=ZNi (Zgj f h)
theorem ZG {α:Type} {n:Nat} {f g:Nat→α} (h:∀ i,i<n→f i=g i):vx n f=vx n g:=List.map_congr_left λi hi=>h i (List.mem_range.1 hi)
theorem Zea {α:Type} (n:Nat) (f:Nat→α) (i:Nat) (a:α):(vx n f).set i a=vx n (λk=>if k=i then a else f k):=by
 apply List.ext_getElem?;intro k;by_cases hk:k<n
 ·rw[Zgj _ hk,List.getElem?_set,Zgj _ hk];by_cases e:i=k
  ·subst e;simp[hk,Zw]
  ·rw[iN e,iN (λh=>e h.symm)]
 ·rw[List.getElem?_eq_none (by simp[Zw];omega),List.getElem?_eq_none (by simp[Zw];omega)]
theorem ZBb {α:Type} (n:Nat) (f:Nat→α):vx n f++[f n]=vx (n+1) f:=by simp[vx,List.range_succ]
theorem vx_nil {α:Type} (f:Nat→α):vx 0 f=[]:=rfl
theorem Zvf {α:Type} (n:Nat) (a:α):List.replicate n a=vx n (λ_=>a):=by
 apply List.ext_getElem?;intro k;by_cases hk:k<n
 ·rw[Zgj _ hk];simp[hk]
 ·rw[List.getElem?_eq_none (by simp;omega),List.getElem?_eq_none (by simp[Zw];omega)]
theorem Zvk {α:Type} (d:α) {n i:Nat} (f:Nat→α) (h:i<n):(vx n f).getD i d=f i:=by
 rw[List.getD_eq_getElem?_getD,Zgj _ h];rfl
def mx (R n:Nat) (M:Mx):List (List Rat):=vx R λi=>vx n (M i)
theorem Zka (R n:Nat) (M:Mx):(mx R n M).length=R:=Zw _ _
theorem ZAb {R n:Nat} {M M':Mx} (h:∀ i,i<R→∀ j,j<n→M i j=M' i j):mx R n M=mx R n M':=ZG λi hi=>ZG λj hj=>h i hi j hj
theorem Zqa {R n i:Nat} (M:Mx) (h:i<R):idx (mx R n M) (i:Int)=some (vx n (M i)):=ZF _ h
theorem ZWj {R n:Nat} (M:Mx) (i:Nat) (g:Nat→Rat):(mx R n M).set i (vx n g)=mx R n (λk j=>if k=i then g j else M k j):=by
 unfold mx;rw[Zea];exact ZG λk hk=>by by_cases e:k=i <;> simp[e]
theorem ZTq {R n p q:Nat} (M:Mx) (hp:p<R) (hq:q<R):Zub (mx R n M) p q=mx R n (λk=>if k=q then M p else if k=p then M q else M k):=by
 unfold Zub mx;rw[Zvk _ _ hp,Zvk _ _ hq,Zea,Zea];exact ZG λk hk=>by by_cases e:k=q <;> by_cases e2:k=p <;> simp[e,e2] <;> split <;> rfl
theorem ZW {α β:Type} {P:β→Prop} {x:Option α} {y:α} {f:α→Option β} (h:x=some y) (h2:∃ z,f y=some z∧P z):∃ z,bnd x f=some z∧P z:=by subst h;exact h2
theorem Zye {S R Z:Type} {P:Z→Prop} {body:S→Option (S ⊕ R)} {s:S} {f:R→Option Z} (I:Nat→S→Prop) (Q:R→Prop) (n:Nat) (h0:I 0 s) (hn:n<2^64)
  (h:∀ k s,k≤n→I k s→(∃ s',k<n∧body s=some (.inl s')∧I (k+1) s') ∨ ∃ r,body s=some (.inr r)∧Q r)
  (hf:∀ r,Q r→∃ z,f r=some z∧P z):∃ z,bnd (Zh body Zj s) f=some z∧P z:=by
 have key:∀ m g k s,k+m=n→m<g→I k s→∃ r,Zh body g s=some r∧Q r:=by
  intro m
  induction m with
  | zero =>
   intro g k s hk hg hi;obtain⟨g,rfl⟩:∃ x,g=x+1:=⟨g-1,by omega⟩;rcases h k s (by omega) hi with ⟨s',h1,_⟩ | ⟨r,h1,h2⟩
   ·omega
   ·exact⟨r,by unfold Zh;rw[h1,Za],h2⟩
  | succ m ih =>
   intro g k s hk hg hi;obtain⟨g,rfl⟩:∃ x,g=x+1:=⟨g-1,by omega⟩;rcases h k s (by omega) hi with ⟨s',h1,h2,h3⟩ | ⟨r,h1,h2⟩
   ·obtain⟨r,h4,h5⟩:=ih g (k+1) s' (by omega) (by omega) h3;exact⟨r,by unfold Zh;rw[h2,Za];exact h4,h5⟩
   ·exact⟨r,by unfold Zh;rw[h1,Za],h2⟩
 obtain⟨r,h1,h2⟩:=key n Zj 0 s (by omega) (ZX (by omega)) h0;exact ZW h1 (hf r h2)
theorem qaddB {k m:Nat} {x y:Rat} (h:sz k x) (h':sz m y) (hk:k≤1099511627776) (hm:m≤1099511627776):Z3b x y=some (x+y):=by unfold Z3b;rw[iP ⟨h.ok hk,h'.ok hm⟩]
theorem qsubB {k m:Nat} {x y:Rat} (h:sz k x) (h':sz m y) (hk:k≤1099511627776) (hm:m≤1099511627776):Z8b x y=some (x-y):=by unfold Z8b;rw[iP ⟨h.ok hk,h'.ok hm⟩]
theorem Z5i {k m:Nat} {x y:Rat} (h:sz k x) (h':sz m y) (hk:k≤1099511627776) (hm:m≤1099511627776):Zvb x y=some (x*y):=by unfold Zvb;rw[iP ⟨h.ok hk,h'.ok hm⟩]
theorem qdivB {k m:Nat} {x y:Rat} (h:sz k x) (h':sz m y) (hk:k≤1099511627776) (hm:m≤1099511627776) (hy:y≠0):Zfd x y=some (x / y,0):=by unfold Zfd;rw[iP ⟨h.ok hk,h'.ok hm⟩,iN hy]
theorem Zvm {K:Nat} {x:Rat} {N D:Int} (hx:x=(N:Rat) / (D:Rat)) (hN:N.natAbs<2^K) (hD:D.natAbs<2^K) (h0:D≠0):sz K x:=by
 rw[hx,← Rat.divInt_eq_div,Zjj];rcases Zai (if D<0 then -N else N) D.natAbs with ⟨h1,h2⟩ | h1
 ·have h3:bl (if D<0 then -N else N).natAbs≤K:=ZCb (by split <;> omega);have h4:bl D.natAbs≤K:=ZCb hD;exact⟨by omega,by omega⟩
 ·omega
def CD (K R n:Nat) (M:Mx):Prop:=∃ D:Int,D≠0∧D.natAbs<2^K∧∀ i j,i<R→j<n→∃ N:Int,M i j=(N:Rat) / (D:Rat)∧N.natAbs<2^K
theorem CD.sz {K R n:Nat} {M:Mx} (h:CD K R n M) {i j:Nat} (hi:i<R) (hj:j<n):sz K (M i j):=by
 obtain⟨D,h0,h1,h2⟩:=h;obtain⟨N,h3,h4⟩:=h2 i j hi hj;exact Zvm h3 h4 h1 h0
theorem CD.mono {K K' R n:Nat} {M:Mx} (h:CD K R n M) (hk:K≤K'):CD K' R n M:=by
 obtain⟨D,h0,h1,h2⟩:=h;have hp:=Nat.pow_le_pow_right (show 0<2 by omega) hk;exact⟨D,h0,by omega,λi j hi hj=>by
  obtain⟨N,h3,h4⟩:=h2 i j hi hj;exact⟨N,h3,by omega⟩⟩
theorem Zrd {a b:Int} {A B:Nat} (ha:a.natAbs<A) (hb:b.natAbs<B):(a*b).natAbs<A*B:=by
 rw[Int.natAbs_mul];exact Nat.mul_lt_mul'' ha hb
def Zda (M:Mx) (c top p:Nat):Mx:=λi j=>if i=top then M p j / M p c else (if i=p then M top j else M i j)-(if i=p then M top c else M i c)*(M p j / M p c)
theorem ZPe {R n c top p:Nat} {M:Mx} (tp:top≤p) (pR:p<R) (cn:c<n) (nz:M p c≠0):StepR R n M (Zda M c top p) c top p :=
 ⟨tp,pR,cn,nz,λj hj=>by simp[Zda],λh j hj=>by simp[Zda,h],λi hi h1 h2 j hj=>by simp[Zda,h1,h2]⟩
theorem CD.step {K R n c top p:Nat} {M:Mx} (h:CD K R n M) (tp:top≤p) (pR:p<R) (cn:c<n) (nz:M p c≠0):CD (2*K+1) R n (Zda M c top p):=by
 obtain⟨D,h0,h1,h2⟩:=h;obtain⟨F,f1,f2⟩:=h2 p c pR cn;have e2:2^(2*K+1)=2*(2^K*2^K):=by rw[Nat.pow_succ,Nat.two_mul,Nat.pow_add];omega
 have hF:F≠0:=λe=>nz (by rw[f1,e,Rat.div_def];exact Rat.zero_mul _);have hD':(D:Rat)≠0:=λe=>h0 (Rat.intCast_inj.1 (by rw[e];rfl));have hF':(F:Rat)≠0:=λe=>hF (Rat.intCast_inj.1 (by rw[e];rfl));refine⟨D*F,λe=>?_,?_,λi j hi hj=>?_⟩
 ·rcases Int.mul_eq_zero.1 e with h | h
  ·exact h0 h
  ·exact hF h
 ·have:=Zrd h1 f2;omega
 ·obtain⟨A,a1,a2⟩:=h2 p j pR hj;unfold Zda;split
  ·refine⟨A*D,?_,?_⟩
   ·rw[a1,f1,Rat.intCast_mul,Rat.intCast_mul];grind
   ·have:=Zrd a2 h1;omega
  ·have key:∀ i,i<R→∃ N:Int,M i j-M i c*(M p j / M p c)=(N:Rat) / ((D*F:Int):Rat)∧N.natAbs<2^(2*K+1):=λi hi=>by
    obtain⟨B,b1,b2⟩:=h2 i j hi hj;obtain⟨C,c1,c2⟩:=h2 i c hi cn;refine⟨B*F-C*A,?_,?_⟩
    ·rw[a1,b1,c1,f1,Rat.intCast_sub,Rat.intCast_mul,Rat.intCast_mul,Rat.intCast_mul];grind
    ·have:=Zrd b2 f2;have:=Zrd c2 a2;omega
   by_cases hp:i=p
   ·rw[iP hp,iP hp];exact key top (by omega)
   ·rw[iN hp,iN hp];exact key i hi
noncomputable def Zhi (x:Rat) (y:Rat):Option (Bool) :=
 bnd (Zxe x) λa =>
 bnd (ZXh y) λb =>
 some (a==b)
theorem ZWo {k m:Nat} {x y:Rat} (h:sz k x) (h':sz m y) (hk:k+m≤1000000000):Zha x y=some (x+y):=by unfold Zha;rw[iP ⟨h.sm (by omega),h'.sm (by omega)⟩]
theorem Zho {k m:Nat} {x y:Rat} (h:sz k x) (h':sz m y) (hk:k+m≤1000000000):Z4 x y=some (x*y):=by unfold Z4;rw[iP ⟨h.sm (by omega),h'.sm (by omega)⟩]
theorem ZKf:sz 1 (1:Rat):=by constructor <;> decide
def cf (c:Nat→Int):Nat→Nat→Int
 | _,0=>0
 | i,m+1=>if c i≠0 then c i else cf c (i+1) m
end Go.Eng
namespace Go.Eng
open Go.RowKit
variable {P:Program} {K:Nat} {w0:Base} {v0:Zb} {σ:List (Nat×Value)} {ℓ:List Loc} {v:Zb} {a:Act} {w:World}
end Go.Eng

namespace Go.Eng
noncomputable def qOf_m (x:Rat) (y:Rat):Option Rat :=
 some y
noncomputable def ZTe (n:Int):Option Rat :=
 bnd (Z1c n) λa =>
 bnd (qOf_m (0:Rat) a) λb =>
 some b
noncomputable def ZYd (m:List (List Rat)):Option ((List (List Rat))×(List Int)×Rat) :=
 bnd (mk 24 (m.length:Int) (m.length:Int)) λ_ =>
 bnd (Zh (σ:=Int×(List (List Rat))) (ρ:=List (List Rat)) (λe =>
 ifb (decide (e.1<(m.length:Int)))
 (bnd (idx m e.1) λr =>
 bnd (Zff 56 r) λs =>
 bnd (idx e.2 e.1) λy4 =>
 bnd (chk .i64 (e.1+(1:Int))) λt =>
 some (.inl (t,e.2.set e.1.toNat s)))
 (some (.inr e.2)))
  Zj ((0:Int),List.replicate (m.length:Int).toNat ([]:List Rat))) λi =>
 bnd (ZTe (1:Int)) λu =>
 bnd (α:=Int)
 (ifb ((i.length:Int)==(0:Int))
 (some (0:Int))
 (bnd (idx i (0:Int)) λv =>
 some (v.length:Int))) λw =>
 bnd (Zh (σ:=(List Int)×Int×(List (List Rat))×Rat) (ρ:=(List Int)×(List (List Rat))×Rat) (λa =>
 ifb (decide (a.2.1<w))
 (bnd (α:=(List Int)×(List (List Rat))×Rat)
 (bnd (Zh (σ:=Int) (ρ:=Int) (λg =>
 bnd (α:=Bool)
 (ifb (decide (g<(a.2.2.1.length:Int)))
 (bnd (idx a.2.2.1 g) λx =>
 bnd (idx x a.2.1) λy =>
 bnd (ZUa y) λz =>
 some z)
 (some false)) λA =>
 ifb A
 (bnd (chk .i64 (g+(1:Int))) λB =>
 some (.inl B))
 (some (.inr g)))
      Zj (a.1.length:Int)) λf =>
 ifb (f==(a.2.2.1.length:Int))
 (bnd (ZTe (0:Int)) λC =>
 some (a.1,a.2.2.1,C))
 (bnd (α:=(List (List Rat))×Rat)
 (ifb (f != (a.1.length:Int))
 (bnd (idx a.2.2.1 (a.1.length:Int)) λab =>
 bnd (idx a.2.2.1 f) λac =>
 bnd (idx a.2.2.1 f) λad =>
 bnd (idx a.2.2.1 (a.1.length:Int)) λae =>
 bnd (eqN ((a.1.length:Int).toNat) ((a.1.length:Int).toNat)) λ_ =>
 bnd (eqN f.toNat f.toNat) λ_ =>
 bnd (Zae a.2.2.2) λD =>
 some (Zub a.2.2.1 f.toNat ((a.1.length:Int).toNat),D))
 (some (a.2.2.1,a.2.2.2))) λh =>
 bnd (idx h.1 (a.1.length:Int)) λE =>
 bnd (idx E a.2.1) λl =>
 bnd (Zvb h.2 l) λF =>
 bnd (idx h.1 (a.1.length:Int)) λG =>
 bnd (Zh (σ:=Int×(List (List Rat))) (ρ:=List (List Rat)) (λd =>
 ifb (decide (d.1<(G.length:Int)))
 (bnd (idx d.2 (a.1.length:Int)) λn =>
 bnd (idx d.2 (a.1.length:Int)) λH =>
 bnd (idx H d.1) λI =>
 bnd (Zfd I l) λJ =>
 bnd (idx n d.1) λaf =>
 bnd (chk .i64 (d.1+(1:Int))) λK =>
 some (.inl (K,d.2.set ((a.1.length:Int).toNat) (n.set d.1.toNat J.1))))
 (some (.inr d.2)))
       Zj ((0:Int),h.1)) λo =>
 bnd (Zh (σ:=Int×(List (List Rat))) (ρ:=List (List Rat)) (λb =>
 ifb (decide (b.1<(o.length:Int)))
 (bnd (α:=List (List Rat))
 (bnd (idx b.2 b.1) λL =>
 bnd (idx L a.2.1) λp =>
 bnd (α:=Bool)
 (ifb (b.1==(a.1.length:Int))
 (some true)
 (bnd (ZUa p) λM =>
 some M)) λN =>
 ifb N
 (some b.2)
 (bnd (idx b.2 b.1) λO =>
 bnd (Zh (σ:=Int×(List (List Rat))) (ρ:=List (List Rat)) (λc =>
 ifb (decide (c.1<(O.length:Int)))
 (bnd (idx c.2 b.1) λq =>
 bnd (idx c.2 b.1) λP =>
 bnd (idx P c.1) λQ =>
 bnd (idx c.2 (a.1.length:Int)) λR =>
 bnd (idx R c.1) λS =>
 bnd (Zvb p S) λT =>
 bnd (Z8b Q T) λU =>
 bnd (idx q c.1) λag =>
 bnd (chk .i64 (c.1+(1:Int))) λV =>
 some (.inl (V,c.2.set b.1.toNat (q.set c.1.toNat U))))
 (some (.inr c.2)))
            Zj ((0:Int),b.2)) λW =>
 some W)) λX =>
 bnd (chk .i64 (b.1+(1:Int))) λY =>
 some (.inl (Y,X)))
 (some (.inr b.2)))
       Zj ((0:Int),o)) λZ =>
 bnd (Zy 8 (a.1++[a.2.1])) λ_ =>
 some (a.1++[a.2.1],Z,F))) λj =>
 bnd (chk .i64 (a.2.1+(1:Int))) λaa =>
 some (.inl (j.1,aa,j.2.1,j.2.2)))
 (some (.inr (a.1,a.2.2.1,a.2.2.2))))
  Zj (([]:List Int),(0:Int),i,u)) λk =>
 some (k.2.1,k.1,k.2.2)
noncomputable def Zkc (m:List (List Rat)):Option Int :=
 ifb ((m.length:Int)==(0:Int))
 (some (0:Int))
 (bnd (idx m (0:Int)) λa =>
 some (a.length:Int))
noncomputable def ZFe (m:List (List Rat)):Option Bool :=
 bnd (Zkc m) λb =>
 bnd (α:=Bool)
 (ifb (decide ((m.length:Int)≤(32:Int)))
 (ifb (decide (b≤(32:Int)))
 (bnd (α:=Int)
 (bnd (Zh (σ:=Int) (ρ:=Unit ⊕ Int) (λa =>
 ifb (decide (a<(m.length:Int)))
 (bnd (idx m a) λc =>
 ifb ((c.length:Int) != b)
 (some (.inr (.inr a)))
 (bnd (chk .i64 (a+(1:Int))) λd =>
 some (.inl d)))
 (some (.inr (.inl ()))))
      Zj (0:Int)) λe =>
     match e with
| .inl i=>(some (-1:Int))
| .inr f=>(some f)) λg =>
 some (!(decide ((0:Int)≤g))))
 (some false))
 (some false)) λh =>
 some h
theorem Z6e (n:Int):ZTe n=some (n:Rat):=by
 unfold ZTe qOf_m;rfl
theorem ZAd {b n:Nat} (h:b*n≤281474976710656) (h2:n≤1000000000):mk b (n:Int) (n:Int)=some ():=by
 unfold mk;rw[iP ⟨by omega,by omega,by omega,by omega⟩]
theorem Z6c (i:Nat):eqN i i=some ():=by unfold eqN;rw[iP rfl]
theorem ZFz {α:Type} {b:Nat} {l:List α} (h:l.length*b≤140737488355328):Zff b l=some l:=by
 unfold Zff;rw[Z6 h,Za]
def Zja (l:List Nat):List Int:=l.map λ(c:Nat)=>(c:Int)
theorem Zkb (l:List Nat):(Zja l).length=l.length:=by simp[Zja]
theorem Zmm {R n:Nat} (M:Mx) (hR:R≤1000) (hn:n≤1000):Zh (σ:=Int×(List (List Rat))) (ρ:=List (List Rat)) (λs1 =>
   ifb (decide (s1.1<((mx R n M).length:Int)))
   (bnd (idx (mx R n M) s1.1) λy2 =>
    bnd (Zff 56 y2) λy3 =>
    bnd (idx s1.2 s1.1) λy4 =>
    bnd (chk .i64 (s1.1+(1:Int))) λy5 =>
    some (.inl (y5,s1.2.set s1.1.toNat y3)))
   (some (.inr s1.2)))
  Zj ((0:Int),List.replicate ((mx R n M).length:Int).toNat ([]:List Rat))=some (mx R n M):=by
  refine Zv (λk=>((k:Int),vx R λi=>if i<k then vx n (M i) else [])) R ?_ (by omega) (λk hk=>?_) ?_
  · rw[Zka];simp only[tN,Zvf];refine Prod.ext rfl (ZG λi hi=>?_);rw[iN (by omega)]
  · simp only[Zka];rw[dTq (by omega),Ze,Zqa _ hk,Za,ZFz (by rw[Zw];omega),Za,ZF _ hk,Za,Zi (by omega) (by omega),Za];simp only[tN];rw[Zea];refine congrArg (λx=>some (Sum.inl x)) (Prod.ext (by simp) (ZG λi hi=>?_));by_cases e:i=k
    · rw[iP e,iP (by omega),e]
    · rw[iN e];by_cases e2:i<k
      · rw[iP e2,iP (by omega)]
      · rw[iN e2,iN (by omega)]
  · simp only[Zka];rw[dFq (by omega),Zd];exact congrArg (λx=>some (Sum.inr x)) (ZG λi hi=>iP hi)
theorem ZGe {R n:Nat} (M:Mx) (h:R=0→n=0):Zkc (mx R n M)=some (n:Int):=by
 unfold Zkc;rw[Zka];by_cases h0:R=0
 ·rw[show ((R:Int)==0)=true by simp[h0],Ze,h h0];rfl
 ·rw[show ((R:Int)==0)=false by simp[h0],Zd];refine Zq (Zqa (i:=0) M (by omega)) ?_;rw[Zw]
theorem Zlj {R n:Nat} (M:Mx) (h:R=0→n=0) (hR:R≤32) (hn:n≤32):ZFe (mx R n M)=some true:=by
 unfold ZFe;rw[ZGe M h,Za,Zka,dTq (by omega),Ze,dTq (by omega),Ze];refine Zq (y:=true) ?_ rfl;refine Zq (y:=(-1:Int)) ?_ rfl;refine Zq (y:=Sum.inl ()) ?_ rfl;refine Zv (λk=>(k:Int)) R rfl (by omega) (λk hk=>?_) ?_
 ·rw[dTq (by omega),Ze,Zqa _ hk,Za,Zw,show ((n:Int) != (n:Int))=false by simp,Zd,Zi (by omega) (by omega),Za];rfl
 ·rw[dFq (by omega),Zd]
def kk (K k:Nat):Nat:=2^k*(K+1)-1
theorem Zpf {K k:Nat}:kk K (k+1)=2*kk K k+1:=by
 unfold kk;have:=Nat.mul_pos (Nat.two_pow_pos k) (show 0<K+1 by omega);rw[Nat.pow_succ,Nat.mul_comm (2^k) 2,Nat.mul_assoc];omega
theorem Zoc {K k n:Nat} (h:k≤n):kk K k≤kk K n:=by
 unfold kk;have:=mR (K+1) (Nat.pow_le_pow_right (show 0<2 by omega) h);omega
theorem ZH:sz 1 (0:Rat):=⟨by decide,by decide⟩
def swM (M:Mx) (top p:Nat):Mx:=λk=>if k=top then M p else if k=p then M top else M k
def Zfa (M:Mx) (c top p j:Nat):Mx:=λi l=>if i=top∧l<j then M p l / M p c else swM M top p i l
def ZE (M:Mx) (c top p n i j:Nat):Mx:=λr l=>if r<i∨(r=i∧l<j) then Zda M c top p r l else Zfa M c top p n r l
theorem ZCs {K n:Nat} (h:1≤K):1≤kk K n:=by
 have:=Zoc (K:=K) (k:=0) (n:=n) (Nat.zero_le _);unfold kk at this;unfold kk;simp at this;omega
theorem Z2l {α β:Type} {P:β→Prop} (Q:α→Prop) {x:Option α} {f:α→Option β} (h:∃ y,x=some y∧Q y) (h2:∀ y,Q y→∃ z,f y=some z∧P z):∃ z,bnd x f=some z∧P z:=by
 obtain⟨y,h,q⟩:=h;exact ZW h (h2 y q)
set_option maxRecDepth 100000 in
theorem ZGz {R n K r:Nat} {M0:Mx} (J:Nat→Mx→List Nat→Rat→Prop) (hJ0:J 0 M0 [] ((1:Int):Rat)) (hJs:∀ k M piv d,k<n→Eli R n M0 M piv k→J k M piv d→J (k+1) M piv ((0:Int):Rat))
  (hJp:∀ k M piv d p,piv.length≤p→p<R→k<n→M p k≠0→J k M piv d→J (k+1) (Zda M k piv.length p) (piv++[k]) ((if p=piv.length then d else -d)*M p k)) (h0:R=0→n=0) (hR:R≤1000) (hn:n≤1000) (hK:1≤K) (hz:CD K R n M0) (hr:∀ k M piv,k≤n→Eli R n M0 M piv k→piv.length≤r) (hk:kk K r≤274877906944) :
  ∃ z,ZYd (mx R n M0)=some z∧∃ M piv d,z=(mx R n M,Zja piv,d)∧Eli R n M0 M piv n∧CD (kk K r) R n M∧J n M piv d:=by
 unfold ZYd;refine ZW (y:=()) (by rw[Zka];exact ZAd (by omega) (by omega)) ?_;refine ZW (Zmm M0 hR hn) ?_;refine ZW (Z6e 1) ?_;refine ZW (y:=(n:Int)) (ZGe M0 h0) ?_;refine Zye (λk s=>∃ M piv d,s=(Zja piv,(k:Int),mx R n M,d)∧Eli R n M0 M piv k∧CD (kk K piv.length) R n M∧sz (kk K piv.length) d∧J k M piv d) (λy=>∃ M piv d,y=(Zja piv,mx R n M,d)∧Eli R n M0 M piv n∧CD (kk K r) R n M∧J n M piv d) n ⟨M0,[],((1:Int):Rat),rfl,Eli.start R n M0,by unfold kk;simpa using hz,(ZKf.mono (by unfold kk;simpa using hK):sz _ (1:Rat)),hJ0⟩ (by omega) (λk s hkn hi=>?_) (λy hy=>?_)
 ·obtain⟨M,piv,d,rfl,hI,hC,hd,hJ⟩:=hi;by_cases hlt:k<n
  ·left;have hkk:=Zoc (K:=K) (hr k M piv hkn hI);simp only;rw[dTq (by omega),Ze];have pl:=hI.le
   suffices hx:∃ z,(bnd (α:=(List Int)×(List (List Rat))×Rat) _ _:Option (((List Int)×Int×(List (List Rat))×Rat) ⊕ ((List Int)×(List (List Rat))×Rat)))=some z∧∃ M' piv' d',z=Sum.inl (Zja piv',((k+1:Nat):Int),mx R n M',d')∧Eli R n M0 M' piv' (k+1)∧CD (kk K piv'.length) R n M'∧sz (kk K piv'.length) d'∧J (k+1) M' piv' d' by
    obtain⟨z,h1,M',piv',d',rfl,h2⟩:=hx;exact⟨_,hlt,h1,M',piv',d',rfl,h2⟩
   refine Z2l (Q:=λy=>∃ M' piv' d',y=(Zja piv',mx R n M',d')∧Eli R n M0 M' piv' (k+1)∧CD (kk K piv'.length) R n M'∧sz (kk K piv'.length) d'∧J (k+1) M' piv' d') ?_ (λy hy=>?_)
   rotate_left
   ·obtain⟨M',piv',d',rfl,h2⟩:=hy;exact⟨Sum.inl (Zja piv',((k+1:Nat):Int),mx R n M',d'),by rw[Zi (by omega) (by omega),Za];rfl,M',piv',d',rfl,h2⟩
   refine Zye (λq s=>s=((piv.length+q:Nat):Int)∧∀ i,piv.length≤i→i<piv.length+q→M i k=0) (λy=>∃ p:Nat,y=(p:Int)∧piv.length≤p∧p≤R∧(∀ i,piv.length≤i→i<p→M i k=0)∧(p<R→M p k≠0)) (R-piv.length) ⟨by rw[Zkb];rfl,λi h1 h2=>by omega⟩ (by omega) (λq s hq hs=>?_) (λy hy=>?_)
   ·obtain⟨rfl,hz0⟩:=hs;rw[Zka];by_cases hqR:piv.length+q<R
    ·rw[dTq (by omega),Ze,Zqa _ hqR,Za,ZF _ hlt,Za];unfold ZUa;by_cases hz1:M (piv.length+q) k=0
     ·left;refine⟨((piv.length+(q+1):Nat):Int),by omega,?_,rfl,λi h1 h2=>?_⟩
      ·rw[dTq hz1,Za,Za,Ze,Zi (by omega) (by omega),Za];rfl
      ·by_cases e:i=piv.length+q
       ·rw[e];exact hz1
       ·exact hz0 i h1 (by omega)
     ·right;refine⟨((piv.length+q:Nat):Int),by rw[dFq hz1,Za,Za,Zd],piv.length+q,rfl,by omega,by omega,hz0,λ_=>hz1⟩
    ·right;refine⟨((piv.length+q:Nat):Int),by rw[dFq (by omega),Zd,Za,Zd],piv.length+q,rfl,by omega,by omega,hz0,λh=>by omega⟩
   ·obtain⟨p,rfl,h1,h2,h3,h4⟩:=hy;rw[Zka];by_cases hpR:p=R
    ·rw[show ((p:Int)==(R:Int))=true by simp[hpR],Ze,Z6e,Za];refine⟨_,rfl,M,piv,_,rfl,hI.skip λi g1 g2=>h3 i g1 (by omega),hC,ZH.mono (ZCs hK),hJs _ _ _ _ hlt hI hJ⟩
    ·rw[show ((p:Int)==(R:Int))=false by simp;omega,Zd];have pR:p<R:=by omega
     have nz:=h4 pR;have tR:piv.length<R:=by omega
     have Cs:=hC.step h1 pR hlt nz;have hk1:=Zoc (K:=K) (hr (k+1) _ _ hlt (hI.step (ZPe h1 pR hlt nz)));rw[lA,List.length_singleton,Zpf]at hk1;rw[Zkb];refine ZW (y:=(mx R n (swM M piv.length p),if p=piv.length then d else -d)) ?_ ?_
     ·by_cases e:p=piv.length
      ·rw[show ((p:Int) != (piv.length:Int))=false by simp[e],Zd,iP e];refine congrArg some (Prod.ext (ZAb λi hi j hj=>?_) rfl);unfold swM;by_cases e2:i=piv.length
       ·rw[iP e2,e2,e]
       ·rw[iN e2,iN (λh=>e2 (h.trans e))]
      ·rw[show ((p:Int) != (piv.length:Int))=true by simp;omega,Ze,Zqa _ tR,Za,Zqa _ pR,Za,Za,Za,iN e];simp only[tN];rw[Z6c,Za,Z6c,Za];unfold Zae;rw[Za,ZTq _ pR tR];rfl
     have hrow:swM M piv.length p piv.length=M p:=by unfold swM;rw[iP rfl]
     have hd1:sz (kk K piv.length) (if p=piv.length then d else -d):=by split;exact hd;exact ZLg hd
     have zf:sz (kk K piv.length) (M p k):=hC.sz pR hlt;simp only;refine ZW (Zqa _ tR) ?_;rw[hrow];refine ZW (ZF _ hlt) ?_;refine ZW (Z5i hd1 zf (by omega) (by omega)) ?_;refine ZW (Zqa _ tR) ?_;rw[hrow,Zw];refine ZW (y:=mx R n (Zfa M k piv.length p n)) (Zv (λj=>((j:Int),mx R n (Zfa M k piv.length p j))) n ?_ (by omega) (λj hj=>?_) ?_) ?_
     ·refine Prod.ext rfl (ZAb λi hi j hj=>?_);unfold Zfa;rw[iN (by omega)]
     ·have hr:Zfa M k piv.length p j piv.length j=M p j:=by unfold Zfa swM;rw[iN (by omega),iP rfl]
      simp only;rw[dTq (by omega),Ze,Zqa _ tR,Za,Za,ZF _ hj,Za,hr,qdivB (hC.sz pR hj) zf (by omega) (by omega) nz,Za,Za,Zi (by omega) (by omega),Za];simp only[tN];rw[Zea,ZWj];refine congrArg (λx=>some (Sum.inl x)) (Prod.ext (by simp) (ZAb λi hi l hl=>?_));unfold Zfa;by_cases e:i=piv.length
      ·rw[iP e];by_cases e2:l=j
       ·rw[iP e2,iP (by omega),e2]
       ·rw[iN e2,e];by_cases e3:l<j
        ·rw[iP (by omega),iP (by omega)]
        ·rw[iN (by omega),iN (by omega)]
      ·rw[iN e,iN (by omega),iN (by omega)]
     ·simp only;rw[dFq (by omega),Zd]
     rw[Zka];refine ZW (y:=mx R n (Zda M k piv.length p)) (Zv (λi=>((i:Int),mx R n (ZE M k piv.length p n i 0))) R ?_ (by omega) (λi hi=>?_) ?_) ?_
     ·refine Prod.ext rfl (ZAb λi hi j hj=>?_);unfold ZE;rw[iN (by omega)]
     ·simp only;have rd:∀ r l,r≠piv.length→Zfa M k piv.length p n r l=if r=p then M piv.length l else M r l:=λr l hr=>by
       unfold Zfa swM;rw[iN (by omega),iN hr];split <;> rfl
      have top0:∀ i j l,l<n→ZE M k piv.length p n i j piv.length l=M p l / M p k:=λi j l hl=>by
       unfold ZE Zda Zfa;split
       ·rw[iP rfl]
       ·rw[iP ⟨rfl,hl⟩]
      have self0:∀ l,ZE M k piv.length p n i 0 i l=Zfa M k piv.length p n i l:=λl=>by unfold ZE;rw[iN (by omega)]
      rw[dTq (by omega),Ze];refine Zq (y:=mx R n (ZE M k piv.length p n (i+1) 0)) ?_ ?_
      ·rw[Zqa _ hi,Za,ZF _ hlt,Za];by_cases e:i=piv.length
       ·rw[show ((i:Int)==(piv.length:Int))=true by simp[e],Ze,Za,Ze];refine congrArg some (ZAb λr hr l hl=>?_);by_cases e2:r=piv.length
        ·rw[e2,top0 _ _ _ hl,top0 _ _ _ hl]
        ·unfold ZE;by_cases e3:r<i
         ·rw[iP (.inl e3),iP (.inl (by omega))]
         ·rw[iN (by omega),iN (by omega)]
       ·rw[show ((i:Int)==(piv.length:Int))=false by simp;omega,Zd];unfold ZUa;rw[Za,Za,self0,rd _ _ e];by_cases hz1:(if i=p then M piv.length k else M i k)=0
        ·rw[dTq hz1,Ze];refine congrArg some (ZAb λr hr l hl=>?_);unfold ZE;by_cases e3:r<i
         ·rw[iP (.inl e3),iP (.inl (by omega))]
         ·rw[iN (by omega)];by_cases e4:r=i
          ·subst e4;rw[iP (.inl (by omega)),rd _ _ e];unfold Zda;rw[iN e,hz1];grind
          ·rw[iN (by omega)]
        ·rw[dFq hz1,Zd,Za,Zw];have zc:sz (kk K piv.length) (if i=p then M piv.length k else M i k):=by split;exact hC.sz tR hlt;exact hC.sz hi hlt
         refine Zq (Zv (λj=>((j:Int),mx R n (ZE M k piv.length p n i j))) n rfl (by omega) (λj hj=>?_) ?_) rfl
         ·have zt:sz (2*kk K piv.length+1) (M p j / M p k):=by
           have:=Cs.sz tR hj;unfold Zda at this;rwa [iP rfl]at this
          have zi:sz (kk K piv.length) (if i=p then M piv.length j else M i j):=by split;exact hC.sz tR hj;exact hC.sz hi hj
          have e5:ZE M k piv.length p n i j i j=if i=p then M piv.length j else M i j:=by unfold ZE;rw[iN (by omega),rd _ _ e]
          simp only;rw[dTq (by omega),Ze,Zqa _ hi,Za,Za,ZF _ hj,Za,Zqa _ tR,Za,ZF _ hj,Za,top0 _ _ _ hj,Z5i zc zt (by omega) (by omega),Za,e5,qsubB zi (Zxa zc zt) (by omega) (by omega),Za,Za,Zi (by omega) (by omega),Za];simp only[tN];rw[Zea,ZWj];refine congrArg (λx=>some (Sum.inl x)) (Prod.ext (by simp) (ZAb λr hr l hl=>?_));by_cases e6:r=i
          ·subst e6;rw[iP rfl];by_cases e7:l=j
           ·subst e7;rw[iP rfl];have e9:ZE M k piv.length p n r (l+1) r l=Zda M k piv.length p r l:=by unfold ZE;rw[iP (.inr ⟨rfl,by omega⟩)]
            rw[e9];unfold Zda;rw[iN e]
           ·rw[iN e7];unfold ZE;by_cases e8:l<j
            ·rw[iP (.inr ⟨rfl,e8⟩),iP (.inr ⟨rfl,by omega⟩)]
            ·rw[iN (by omega),iN (by omega)]
          ·rw[iN e6];unfold ZE;by_cases e8:r<i
           ·rw[iP (.inl e8),iP (.inl e8)]
           ·rw[iN (by omega),iN (by omega)]
         ·simp only;rw[dFq (by omega),Zd];refine congrArg (λx=>some (Sum.inr x)) (ZAb λr hr l hl=>?_);unfold ZE;by_cases e8:r<i+1
          ·rw[iP (by omega),iP (by omega)]
          ·rw[iN (by omega),iN (by omega)]
      ·rw[Zi (by omega) (by omega),Za];rfl
     ·simp only;rw[dFq (by omega),Zd];refine congrArg (λx=>some (Sum.inr x)) (ZAb λi hi j hj=>?_);unfold ZE;rw[iP (by omega)]
     refine ZW (y:=()) (Z6 (by simp[Zkb];omega)) ?_;refine⟨_,rfl,Zda M k piv.length p,piv++[k],_,?_,hI.step (ZPe h1 pR hlt nz),Cs.mono (by rw[lA,List.length_singleton,Zpf];omega),(Zxa hd1 zf).mono (by rw[lA,List.length_singleton,Zpf];omega),hJp _ _ _ _ _ h1 pR hlt nz hJ⟩;simp[Zja]
  ·right;obtain rfl:k=n:=by omega
   refine⟨_,by simp only;rw[dFq (by omega),Zd],M,piv,d,rfl,hI,hC.mono (Zoc (hr k M piv (Nat.le_refl _) hI)),hJ⟩
 ·obtain⟨M,piv,d,rfl,hI,hC⟩:=hy;exact⟨_,rfl,M,piv,d,rfl,hI,hC⟩
theorem Z9w {R n K r:Nat} {M0:Mx} (h0:R=0→n=0) (hR:R≤1000) (hn:n≤1000) (hK:1≤K) (hz:CD K R n M0) (hr:∀ k M piv,k≤n→Eli R n M0 M piv k→piv.length≤r) (hk:kk K r≤274877906944) :
  ∃ z,ZYd (mx R n M0)=some z∧∃ M piv d,z=(mx R n M,Zja piv,d)∧Eli R n M0 M piv n∧CD (kk K r) R n M:=by
 obtain⟨z,h1,M,piv,d,h2,h3,h4,_⟩:=ZGz (λ_ _ _ _=>True) trivial (λ_ _ _ _ _ _ _=>trivial) (λ_ _ _ _ _ _ _ _ _ _=>trivial) h0 hR hn hK hz hr hk;exact⟨z,h1,M,piv,d,h2,h3,h4⟩
theorem Z6w {R n K:Nat} {M0:Mx} (h0:R=0→n=0) (hR:R≤1000) (hn:n≤1000) (hK:1≤K) (hz:CD K R n M0) (hk:kk K n≤274877906944) :
  ∃ z,ZYd (mx R n M0)=some z∧∃ M piv d,z=(mx R n M,Zja piv,d)∧Eli R n M0 M piv n∧CD (kk K n) R n M :=
 Z9w h0 hR hn hK hz (λk M piv hk h=>Nat.le_trans (Zch h.inc h.lt) hk) hk
noncomputable def Zel (m:List (List Rat)) (b:List (List Rat)):Option (List (List Rat)) :=
 bnd (mk 24 (m.length:Int) (m.length:Int)) λ_ =>
 bnd (Zh (σ:=Int×(List (List Rat))) (ρ:=List (List Rat)) (λc =>
 ifb (decide (c.1<(m.length:Int)))
 (bnd (idx m c.1) λg =>
 bnd (Zff 56 g) λh =>
 bnd (idx c.2 c.1) λl =>
 bnd (chk .i64 (c.1+(1:Int))) λi =>
 some (.inl (i,c.2.set c.1.toNat h)))
 (some (.inr c.2)))
  Zj ((0:Int),List.replicate (m.length:Int).toNat ([]:List Rat))) λd =>
 bnd (Zh (σ:=Int×(List (List Rat))) (ρ:=List (List Rat)) (λa =>
 ifb (decide (a.1<(d.length:Int)))
 (bnd (idx a.2 a.1) λe =>
 bnd (idx b a.1) λf =>
 bnd (Zy 56 (e++f)) λ_ =>
 bnd (idx a.2 a.1) λn =>
 bnd (eqN a.1.toNat a.1.toNat) λ_ =>
 bnd (chk .i64 (a.1+(1:Int))) λj =>
 some (.inl (j,a.2.set a.1.toNat (e++f))))
 (some (.inr a.2)))
  Zj ((0:Int),d)) λk =>
 some k
noncomputable def Zyl (b:List Rat):Option (List (List Rat)) :=
 bnd (mk 24 (b.length:Int) (b.length:Int)) λ_ =>
 bnd (Zh (σ:=Int×(List (List Rat))) (ρ:=List (List Rat)) (λa =>
 ifb (decide (a.1<(b.length:Int)))
 (bnd (idx b a.1) λc =>
 bnd (idx a.2 a.1) λf =>
 bnd (chk .i64 (a.1+(1:Int))) λd =>
 some (.inl (d,a.2.set a.1.toNat [c])))
 (some (.inr a.2)))
  Zj ((0:Int),List.replicate (b.length:Int).toNat ([]:List Rat))) λe =>
 some e
theorem Ztk {k n:Nat} {f:Nat→Rat} (h:∀ j,j<n→sz k (f j)):sz (n*(k+1)+1) (sm n f):=by
 induction n with
 | zero=>exact ZH.mono (by omega)
 | succ n ih =>
  have:=sz_add (ih λj hj=>h j (by omega)) (h n (by omega));exact this.mono (by rw[Nat.succ_mul];omega)
theorem sz_lt {k:Nat} {x:Rat} (h:sz k x):x.num.natAbs<2^k∧x.den<2^k:=by
 have h1:=Z0d x.num.natAbs;have h2:=Z0d x.den;have h3:=Nat.pow_le_pow_right (show 0<2 by omega) h.1;have h4:=Nat.pow_le_pow_right (show 0<2 by omega) h.2;omega
theorem ZRu {k:Nat}:∀ l:List Rat,(∀ x,x ∈ l→sz k x)→∃ D:Int,D≠0∧D.natAbs<2^(k*l.length+1)∧∀ x,x ∈ l→∃ N:Int,x=(N:Rat) / (D:Rat)∧N.natAbs<2^(k*l.length+1)
 | [],_=>⟨1,by omega,by simp,λx hx=>by simp at hx⟩
 | y :: l,h=>by
  obtain⟨D,d0,d1,d2⟩:=ZRu l λx hx=>h x (by simp[hx])
  obtain⟨y1,y2⟩:=sz_lt (h y (by simp))
  have e:2^(k*(y :: l).length+1)=2^(k*l.length+1)*2^k:=by rw[← Nat.pow_add,List.length_cons,Nat.mul_succ];congr 1;omega
  have hD':(D:Rat)≠0:=λe=>d0 (Rat.intCast_inj.1 (by rw[e];rfl))
  have hy:(y.den:Int)≠0:=by have:=y.den_nz;omega
  have hy':((y.den:Int):Rat)≠0:=λe=>hy (Rat.intCast_inj.1 (by rw[e];rfl))
  have yv:y=(y.num:Rat) / ((y.den:Int):Rat):=by rw[← Rat.divInt_eq_div,Rat.num_divInt_den]
  refine⟨D*y.den,λe=>?_,?_,λx hx=>?_⟩
  ·rcases Int.mul_eq_zero.1 e with h | h
   ·exact d0 h
   ·exact hy h
  ·have:=Zrd d1 (b:=(y.den:Int)) (B:=2^k) (by simpa using y2);omega
  ·rcases List.mem_cons.1 hx with rfl | hx
   ·refine⟨D*x.num,?_,?_⟩
    ·rw[Rat.intCast_mul,Rat.intCast_mul]
     generalize ((x.den:Int):Rat)=d at *
     generalize (x.num:Rat)=m at *
     grind
    ·have:=Zrd d1 y1;omega
   ·obtain⟨N,n1,n2⟩:=d2 x hx
    refine⟨N*y.den,?_,?_⟩
    ·rw[Rat.intCast_mul,Rat.intCast_mul,n1]
     generalize ((y.den:Int):Rat)=d at *
     grind
    ·have:=Zrd n2 (b:=(y.den:Int)) (B:=2^k) (by simpa using y2);omega
noncomputable def ZHl (m:List (List Rat)) (b:List Rat):Option ((List Rat)×Int) :=
 bnd (α:=Bool)
 (bnd (ZFe m) λf =>
 ifb (!f)
 (some true)
 (some ((b.length:Int) != (m.length:Int)))) λg =>
 ifb g
 (some (([]:List Rat),(4:Int)))
 (bnd (Zkc m) λd =>
 bnd (Zyl b) λh =>
 bnd (Zel m h) λi =>
 bnd (ZYd i) λc =>
 bnd (α:=Bool)
 (ifb (decide ((0:Int)<(c.2.1.length:Int)))
 (bnd (chk .i64 ((c.2.1.length:Int)-(1:Int))) λj =>
 bnd (idx c.2.1 j) λk =>
 some (k==d))
 (some false)) λl =>
 ifb l
 (some (([]:List Rat),(5:Int)))
 (bnd (ZTe (0:Int)) λn =>
 bnd (Zkf 56 [n] d) λo =>
 bnd (Zh (σ:=Int×(List Rat)) (ρ:=List Rat) (λa =>
 ifb (decide (a.1<(c.2.1.length:Int)))
 (bnd (idx c.2.1 a.1) λe =>
 bnd (idx c.1 a.1) λp =>
 bnd (idx p d) λq =>
 bnd (idx a.2 e) λt =>
 bnd (chk .i64 (a.1+(1:Int))) λr =>
 some (.inl (r,a.2.set e.toNat q)))
 (some (.inr a.2)))
    Zj ((0:Int),o)) λs =>
 some (s,(0:Int))))
theorem ZHx {R:Nat} (b:Nat→Rat) (hR:R≤1000):Zyl (vx R b)=some (vx R λi=>[b i]):=by
 unfold Zyl;rw[Zw,ZAd (by omega) (by omega),Za];refine Zq (Zv (λk=>((k:Int),vx R λi=>if i<k then [b i] else [])) R ?_ (by omega) (λk hk=>?_) ?_) rfl
 ·simp only[tN,Zvf];refine Prod.ext rfl (ZG λi hi=>?_);rw[iN (by omega)]
 ·simp only;rw[dTq (by omega),Ze,ZF _ hk,Za,ZF _ hk,Za,Zi (by omega) (by omega),Za];simp only[tN];rw[Zea];refine congrArg (λx=>some (Sum.inl x)) (Prod.ext (by simp) (ZG λi hi=>?_));by_cases e:i=k
  ·rw[iP e,iP (by omega),e]
  ·rw[iN e];by_cases e2:i<k
   ·rw[iP e2,iP (by omega)]
   ·rw[iN e2,iN (by omega)]
 ·simp only;rw[dFq (by omega),Zd];exact congrArg (λx=>some (Sum.inr x)) (ZG λi hi=>iP hi)
theorem aug_row {n:Nat} {M:Mx} {b:Nat→Rat} (i:Nat):vx n (M i)++[b i]=vx (n+1) (aug n M b i):=by
 rw[← ZBb];unfold aug;rw[iP rfl];congr 1;exact ZG λj hj=>by rw[iN (by omega)]
theorem ZOw {R n:Nat} (M:Mx) (b:Nat→Rat) (hR:R≤1000) (hn:n≤1000):Zel (mx R n M) (vx R λi=>[b i])=some (mx R (n+1) (aug n M b)):=by
 unfold Zel;rw[Zka,ZAd (by omega) (by omega),Za];have hc:=Zmm M hR hn;rw[Zka]at hc;refine Zq hc ?_;refine Zq (Zv (λk=>((k:Int),vx R λi=>if i<k then vx (n+1) (aug n M b i) else vx n (M i))) R ?_ (by omega) (λk hk=>?_) ?_) rfl
 ·refine Prod.ext rfl (ZG λi hi=>?_);rw[iN (by omega)]
 ·simp only[Zka];rw[dTq (by omega),Ze,ZF _ hk,Za,ZF _ hk,Za,iN (by omega),aug_row,Z6 (by rw[Zw];omega),Za,Za];simp only[tN];rw[Z6c,Za,Zi (by omega) (by omega),Za,Zea];refine congrArg (λx=>some (Sum.inl x)) (Prod.ext (by simp) (ZG λi hi=>?_));by_cases e:i=k
  ·rw[iP e,iP (by omega),e]
  ·rw[iN e];by_cases e2:i<k
   ·rw[iP e2,iP (by omega)]
   ·rw[iN e2,iN (by omega)]
 ·simp only[Zka];rw[dFq (by omega),Zd];exact congrArg (λx=>some (Sum.inr x)) (ZG λi hi=>iP hi)
theorem Zxg {l:List Nat} {i c:Nat} (h:l[i]? = some c):idx (Zja l) (i:Int)=some (c:Int):=ZNi (by simp[Zja,h])
theorem Zzr {b n:Nat} {a:Rat} (h:b*n≤281474976710656) (h2:n≤1000000000):Zkf b [a] (n:Int)=some (vx n λ_=>a):=by
 unfold Zkf;simp only;rw[ZAd h h2,Za,tN,Zvf]
theorem ZUv {R n:Nat} {N M:Mx} {piv:List Nat} (h:Eli R (n+1) N M piv (n+1)):n ∈ piv↔0<piv.length∧piv[piv.length-1]? = some n:=by
 constructor
 ·intro hm;obtain⟨i,hi⟩:=List.getElem?_of_mem hm;have h1:=(List.getElem?_eq_some_iff.1 hi).1;refine⟨by omega,?_⟩;by_cases e:i=piv.length-1
  ·rw[← e];exact hi
  ·have h2:piv[piv.length-1]? = some piv[piv.length-1]:=List.getElem?_eq_getElem (by omega);have h3:=Zwi h.inc hi h2 (by omega);have:=h.lt _ (mG h2);omega
 ·exact λhm=>mG hm.2
noncomputable def Zqs (x:Rat):Option Rat :=
 some x
noncomputable def ZBo (x:Rat):Option Rat :=
 bnd (Zqs x) λa =>
 some a
noncomputable def Zfe (x:List Rat) (y:List Rat):Option Rat :=
 bnd (ZTe (0:Int)) λb =>
 bnd (Zh (σ:=Int×Rat) (ρ:=Rat) (λa =>
 ifb (decide (a.1<(x.length:Int)))
 (bnd (idx x a.1) λc =>
 bnd (idx y a.1) λd =>
 bnd (Zvb c d) λe =>
 bnd (Z3b a.2 e) λf =>
 bnd (chk .i64 (a.1+(1:Int))) λg =>
 some (.inl (g,f)))
 (some (.inr a.2)))
  Zj ((0:Int),b)) λh =>
 some h
noncomputable def Zln (x:Rat):Option Rat :=
 some x
noncomputable def ZNj (a:List (List Rat)) (b:List (List Rat)):Option (List (List Rat)) :=
 bnd (α:=List (List Rat))
 (bnd (Zkc b) λg =>
 bnd (mk 24 g g) λ_ =>
 bnd (Zh (σ:=Int×(List (List Rat))) (ρ:=List (List Rat)) (λf =>
 ifb (decide (f.1<(b.length:Int)))
 (bnd (idx b f.1) λh =>
 bnd (Zh (σ:=Int×(List (List Rat))) (ρ:=List (List Rat)) (λc =>
 ifb (decide (c.1<(h.length:Int)))
 (bnd (idx h c.1) λn =>
 bnd (idx c.2 c.1) λi =>
 bnd (Zln n) λj =>
 bnd (Zy 56 (i++[j])) λ_ =>
 bnd (idx c.2 c.1) λy =>
 bnd (eqN c.1.toNat c.1.toNat) λ_ =>
 bnd (chk .i64 (c.1+(1:Int))) λo =>
 some (.inl (o,c.2.set c.1.toNat (i++[j]))))
 (some (.inr c.2)))
      Zj ((0:Int),f.2)) λp =>
 bnd (chk .i64 (f.1+(1:Int))) λq =>
 some (.inl (q,p)))
 (some (.inr f.2)))
   Zj ((0:Int),List.replicate g.toNat ([]:List Rat))) λr =>
 some r) λk =>
 bnd (mk 24 (a.length:Int) (a.length:Int)) λ_ =>
 bnd (Zh (σ:=Int×(List (List Rat))) (ρ:=List (List Rat)) (λd =>
 ifb (decide (d.1<(a.length:Int)))
 (bnd (idx a d.1) λs =>
 bnd (Zh (σ:=Int×(List (List Rat))) (ρ:=List (List Rat)) (λe =>
 ifb (decide (e.1<(k.length:Int)))
 (bnd (idx k e.1) λt =>
 bnd (idx e.2 d.1) λl =>
 bnd (Zfe s t) λm =>
 bnd (Zy 56 (l++[m])) λ_ =>
 bnd (idx e.2 d.1) λz =>
 bnd (eqN d.1.toNat d.1.toNat) λ_ =>
 bnd (chk .i64 (e.1+(1:Int))) λu =>
 some (.inl (u,e.2.set d.1.toNat (l++[m]))))
 (some (.inr e.2)))
     Zj ((0:Int),d.2)) λv =>
 bnd (chk .i64 (d.1+(1:Int))) λw =>
 some (.inl (w,v)))
 (some (.inr d.2)))
  Zj ((0:Int),List.replicate (a.length:Int).toNat ([]:List Rat))) λx =>
 some x
noncomputable def ZQk (m:List (List Rat)) (x:List Rat):Option (List Rat) :=
 bnd (Zh (σ:=(List Rat)×Int) (ρ:=List Rat) (λa =>
 ifb (decide (a.2<(m.length:Int)))
 (bnd (idx m a.2) λc =>
 bnd (Zfe c x) λb =>
 bnd (Zy 56 (a.1++[b])) λ_ =>
 bnd (chk .i64 (a.2+(1:Int))) λd =>
 some (.inl (a.1++[b],d)))
 (some (.inr a.1)))
  Zj (([]:List Rat),(0:Int))) λe =>
 some e
noncomputable def Zpk (m:List (List Rat)) (b:List Rat):Option ((List (List Rat))×(List Rat)) :=
 bnd (α:=List (List Rat))
 (bnd (Zkc m) λd =>
 bnd (mk 24 d d) λ_ =>
 bnd (Zh (σ:=Int×(List (List Rat))) (ρ:=List (List Rat)) (λc =>
 ifb (decide (c.1<(m.length:Int)))
 (bnd (idx m c.1) λe =>
 bnd (Zh (σ:=Int×(List (List Rat))) (ρ:=List (List Rat)) (λa =>
 ifb (decide (a.1<(e.length:Int)))
 (bnd (idx e a.1) λi =>
 bnd (idx a.2 a.1) λf =>
 bnd (ZBo i) λg =>
 bnd (Zy 56 (f++[g])) λ_ =>
 bnd (idx a.2 a.1) λq =>
 bnd (eqN a.1.toNat a.1.toNat) λ_ =>
 bnd (chk .i64 (a.1+(1:Int))) λj =>
 some (.inl (j,a.2.set a.1.toNat (f++[g]))))
 (some (.inr a.2)))
      Zj ((0:Int),c.2)) λk =>
 bnd (chk .i64 (c.1+(1:Int))) λl =>
 some (.inl (l,k)))
 (some (.inr c.2)))
   Zj ((0:Int),List.replicate d.toNat ([]:List Rat))) λn =>
 some n) λh =>
 bnd (ZNj h m) λo =>
 bnd (ZQk h b) λp =>
 some (o,p)
theorem ZRj {k m n:Nat} {f g:Nat→Rat} (hf:∀ j,j<n→sz k (f j)) (hg:∀ j,j<n→sz m (g j)) (hn:n≤1000) (hk:(n+1)*(k+m+1)≤1099511627776):Zfe (vx n f) (vx n g)=some (sm n λj=>f j*g j):=by
 unfold Zfe;rw[Z6e,Za,Zw];refine Zq (Zv (λq=>((q:Int),sm q λj=>f j*g j)) n rfl (by omega) (λq hq=>?_) ?_) rfl
 ·have z1:=Zxa (hf q hq) (hg q hq);have z2:sz (q*(k+m+1)+1) (sm q λj=>f j*g j):=Ztk λj hj=>Zxa (hf j (by omega)) (hg j (by omega));have z3:q*(k+m+1)≤n*(k+m+1):=mR _ (by omega);rw[Nat.succ_mul]at hk;simp only;rw[dTq (by omega),Ze,ZF _ hq,Za,ZF _ hq,Za,Z5i (hf q hq) (hg q hq) (by omega) (by omega),Za,qaddB z2 z1 (by omega) (by omega),Za,Zi (by omega) (by omega),Za];rfl
 ·simp only;rw[dFq (by omega),Zd]
theorem Zhp {k m n:Nat} {f g:Nat→Rat} (hf:∀ j,j<n→sz k (f j)) (hg:∀ j,j<n→sz m (g j)) (hn:n≤1000) (hk:k+m≤500000000):Zfe (vx n f) (vx n g)=some (sm n λj=>f j*g j) :=
 ZRj hf hg hn (by
  have:(n+1)*(k+m+1)≤1001*(k+m+1):=mR _ (by omega)
  omega)
theorem Zds {R n:Nat} {M:Mx} {c:Rat→Option Rat} (hc:∀ x,c x=some x) (h0:R=0→n=0) (hR:R≤1000) (hn:n≤1000) :
 bnd (Zkc (mx R n M)) (λy1 =>
  bnd (mk 24 y1 y1) λ_ =>
  bnd (Zh (σ:=Int×(List (List Rat))) (ρ:=List (List Rat)) (λs2 =>
    ifb (decide (s2.1<((mx R n M).length:Int)))
    (bnd (idx (mx R n M) s2.1) λy3 =>
     bnd (Zh (σ:=Int×(List (List Rat))) (ρ:=List (List Rat)) (λs4 =>
       ifb (decide (s4.1<(y3.length:Int)))
       (bnd (idx y3 s4.1) λy5 =>
        bnd (idx s4.2 s4.1) λy6 =>
        bnd (c y5) λy7 =>
        bnd (Zy 56 (y6++[y7])) λ_ =>
        bnd (idx s4.2 s4.1) λy8 =>
        bnd (eqN s4.1.toNat s4.1.toNat) λ_ =>
        bnd (chk .i64 (s4.1+(1:Int))) λy9 =>
        some (.inl (y9,s4.2.set s4.1.toNat (y6++[y7]))))
       (some (.inr s4.2)))
      Zj ((0:Int),s2.2)) λx10 =>
     bnd (chk .i64 (s2.1+(1:Int))) λy11 =>
     some (.inl (y11,x10)))
    (some (.inr s2.2)))
   Zj ((0:Int),List.replicate y1.toNat ([]:List Rat))) λx12 =>
  some x12)=some (mx n R λj i=>M i j):=by
  rw[ZGe M h0,Za,ZAd (by omega) (by omega),Za];refine Zq (Zv (λk=>((k:Int),vx n λj=>vx k λi=>M i j)) R ?_ (by omega) (λk hk=>?_) ?_) rfl
  · simp only[tN,Zvf,vx_nil];rfl
  · simp only[Zka];rw[dTq (by omega),Ze,Zqa _ hk,Za,Zw];refine Zq (y:=vx n λj=>vx (k+1) λi=>M i j) (Zv (λl=>((l:Int),vx n λj=>if j<l then vx (k+1) (λi=>M i j) else vx k (λi=>M i j))) n ?_ (by omega) (λl hl=>?_) ?_) ?_
    · refine Prod.ext rfl (ZG λj hj=>?_);rw[iN (by omega)]
    · simp only;rw[dTq (by omega),Ze,ZF _ hl,Za,ZF _ hl,Za,hc,Za,iN (by omega),ZBb k (λi=>M i l),Z6 (by rw[Zw];omega),Za,Za];simp only[tN];rw[Z6c,Za,Zi (by omega) (by omega),Za,Zea];refine congrArg (λx=>some (Sum.inl x)) (Prod.ext (by simp) (ZG λj hj=>?_));by_cases e:j=l
      · rw[iP e,iP (by omega),e]
      · rw[iN e];by_cases e2:j<l
        · rw[iP e2,iP (by omega)]
        · rw[iN e2,iN (by omega)]
    · simp only;rw[dFq (by omega),Zd];exact congrArg (λx=>some (Sum.inr x)) (ZG λj hj=>iP hj)
    · rw[Zi (by omega) (by omega),Za];rfl
  · simp only[Zka];rw[dFq (by omega),Zd];rfl
theorem ZwA {k m Q R n:Nat} {A B:Mx} (hA:∀ i j,i<Q→j<R→sz k (A i j)) (hB:∀ i j,i<R→j<n→sz m (B i j)) (h0:R=0→n=0) (hQ:Q≤1000) (hR:R≤1000) (hn:n≤1000) (hk:k+m≤500000000) :
  ZNj (mx Q R A) (mx R n B)=some (mx Q n λi j=>sm R λl=>A i l*B l j):=by
 unfold ZNj;refine Zq (Zds (c:=Zln) (λx=>rfl) h0 hR hn) ?_;rw[Zka,Zka,ZAd (by omega) (by omega),Za];refine Zq (Zv (λi=>((i:Int),vx Q λr=>if r<i then vx n (λj=>sm R λl=>A r l*B l j) else [])) Q ?_ (by omega) (λi hi=>?_) ?_) rfl
 ·simp only[tN,Zvf];refine Prod.ext rfl (ZG λr hr=>?_);rw[iN (by omega)]
 ·simp only;rw[dTq (by omega),Ze,Zqa _ hi,Za];refine Zq (y:=vx Q λr=>if r<i+1 then vx n (λj=>sm R λl=>A r l*B l j) else []) (Zv (λq=>((q:Int),vx Q λr=>if r<i then vx n (λj=>sm R λl=>A r l*B l j) else if r=i then vx q (λj=>sm R λl=>A r l*B l j) else [])) n ?_ (by omega) (λq hq=>?_) ?_) ?_
  ·refine Prod.ext rfl (ZG λr hr=>?_);by_cases e:r<i
   ·rw[iP e,iP e]
   ·rw[iN e,iN e];split <;> rfl
  ·simp only;rw[dTq (by omega),Ze,Zqa _ hq,Za,ZF _ hi,Za,Zhp (λj hj=>hA i j hi hj) (λj hj=>hB j q hj hq) hR hk,Za,iN (by omega),iP rfl,ZBb q (λj=>sm R λl=>A i l*B l j),Z6 (by rw[Zw];omega),Za,Za];simp only[tN];rw[Z6c,Za,Zi (by omega) (by omega),Za,Zea];refine congrArg (λx=>some (Sum.inl x)) (Prod.ext (by simp) (ZG λr hr=>?_));by_cases e:r=i
   ·subst e;rw[iP rfl,iN (by omega),iP rfl]
   ·rw[iN e,iN e,iN e]
  ·simp only;rw[dFq (by omega),Zd];refine congrArg (λx=>some (Sum.inr x)) (ZG λr hr=>?_);by_cases e:r<i
   ·rw[iP e,iP (by omega)]
   ·rw[iN e];by_cases e2:r=i
    ·rw[iP e2,iP (by omega)]
    ·rw[iN e2,iN (by omega)]
  ·rw[Zi (by omega) (by omega),Za];rfl
 ·simp only;rw[dFq (by omega),Zd];exact congrArg (λx=>some (Sum.inr x)) (ZG λr hr=>iP hr)
theorem ZSA {k m R n:Nat} {M:Mx} {x:Nat→Rat} (hM:∀ i j,i<R→j<n→sz k (M i j)) (hx:∀ j,j<n→sz m (x j)) (hR:R≤1000) (hn:n≤1000) (hk:k+m≤500000000) :
  ZQk (mx R n M) (vx n x)=some (vx R λi=>sm n λj=>M i j*x j):=by
 unfold ZQk;refine Zq (Zv (λi=>(vx i (λi=>sm n λj=>M i j*x j),(i:Int))) R rfl (by omega) (λi hi=>?_) ?_) rfl
 ·simp only[Zka];rw[dTq (by omega),Ze,Zqa _ hi,Za,Zhp (λj hj=>hM i j hi hj) hx hn hk,Za,ZBb i (λi=>sm n λj=>M i j*x j),Z6 (by rw[Zw];omega),Za,Zi (by omega) (by omega),Za];rfl
 ·simp only[Zka];rw[dFq (by omega),Zd]
def nmM (R:Nat) (M:Mx):Mx:=λi j=>sm R λl=>M l i*M l j
def nmB (R:Nat) (M:Mx) (b:Nat→Rat):Nat→Rat:=λi=>sm R λl=>M l i*b l
theorem ZHy {k R n:Nat} {M:Mx} {b:Nat→Rat} (hM:∀ i j,i<R→j<n→sz k (M i j)) (hb:∀ i,i<R→sz k (b i)) (h0:R=0→n=0) (hR:R≤1000) (hn:n≤1000) (hk:2*k≤500000000) :
  Zpk (mx R n M) (vx R b)=some (mx n n (nmM R M),vx n (nmB R M b)):=by
 unfold Zpk;refine Zq (Zds (c:=ZBo) (λx=>rfl) h0 hR hn) ?_;rw[ZwA (k:=k) (m:=k) (λi j hi hj=>hM j i hj hi) hM h0 hn hR hn (by omega),Za,ZSA (k:=k) (m:=k) (λi j hi hj=>hM j i hj hi) hb hn hR (by omega),Za];rfl
theorem ZRv {n:Nat} {f:Nat→Rat} (h:∀ j,j<n→0≤f j):0≤sm n f:=by
 induction n with
 | zero=>show (0:Rat)≤0;grind
 | succ n ih =>
  have h1:=ih λj hj=>h j (by omega);have h2:=h n (by omega);show 0≤sm n f+f n;grind
theorem Zbz {n:Nat} {f:Nat→Rat} (h:∀ j,j<n→0≤f j) (hs:sm n f=0):∀ j,j<n→f j=0:=by
 induction n with
 | zero=>intro j hj;omega
 | succ n ih =>
  have h1:=ZRv λj (hj:j<n)=>h j (by omega);have h2:=h n (by omega);have hs':sm n f+f n=0:=hs;intro j hj;rcases Nat.lt_or_ge j n with h3 | h3
  ·exact ih (λj hj=>h j (by omega)) (by grind) j h3
  ·rw[show j=n by omega];grind
theorem Zjr (R n:Nat) (M:Mx) (v:Nat→Rat) (i:Nat):sm n (λj=>nmM R M i j*v j)=sm R λl=>M l i*sm n λj=>M l j*v j:=by
 rw[ZR (g:=λj=>sm R λl=>M l i*M l j*v j) λj hj=>?_,Zcj]
 ·refine ZR λl hl=>?_;rw[← ZFb];exact ZR λj hj=>by grind
 ·show sm R (λl=>M l i*M l j)*v j=_;rw[Rat.mul_comm,← ZFb];exact ZR λl hl=>by grind
theorem Zku {R n:Nat} {M:Mx} {v:Nat→Rat} (h:Ker n n (nmM R M) v):Ker R n M v:=by
 have e:sm R (λl=>(sm n λj=>M l j*v j)*(sm n λj=>M l j*v j))=0:=by
  have:sm n (λi=>v i*sm n λj=>nmM R M i j*v j)=0:=Zvc λi hi=>by rw[h i hi];grind
  rw[ZR (g:=λi=>sm R λl=>v i*M l i*sm n λj=>M l j*v j) λi hi=>by rw[Zjr,← ZFb];exact ZR λl hl=>by grind,Zcj]at this;rw[← this];refine ZR λl hl=>?_;rw[← ZFb];refine ZR λi hi=>?_;grind
 intro i hi;have:=Zbz (λl hl=>ZUw _) e i hi;rcases Rat.mul_eq_zero.1 this with h | h <;> exact h
noncomputable def ZIj (l:(List Int)) (v:Int):Option (Int) :=
 bnd (bnd (Zh (λs:Int=>match s with
| a =>
 (ifb (decide (a<(l.length:Int)))
 (bnd (idx l a) λb =>
 ifb (v==b)
 (some (.inr ((.inl a))))
 (bnd (chk .i64 (a+(1:Int))) λc =>
 some (.inl c)))
 (some (.inr ((.inr (()))))))) Zj (0:Int))
 (λ(p:(Int) ⊕ (Unit))=>match p with
| .inl d =>
 (some ((.inr d)))
| .inr (()) =>
 (some ((.inl (()))))))
 (λ(p:(Unit) ⊕ (Int))=>match p with
| .inl (()) =>
 (some (-1:Int))
| .inr e =>
 (some e))
noncomputable def Zdl (l:(List Int)) (v:Int):Option (Bool) :=
 bnd (ZIj l v) λa =>
 some (decide ((0:Int)≤a))
noncomputable def ZZl (m:List (List Rat)):Option ((List (List Rat))×Int) :=
 bnd (ZFe m) λg =>
 ifb (!g)
 (some (([]:List (List Rat)),(4:Int)))
 (bnd (ZYd m) λc =>
 bnd (Zkc m) λh =>
 bnd (Zh (σ:=(List (List Rat))×Int) (ρ:=List (List Rat)) (λa =>
 ifb (decide (a.2<h))
 (bnd (α:=List (List Rat))
 (bnd (Zdl c.2.1 a.2) λi =>
 ifb i
 (some a.1)
 (bnd (Zkc m) λj =>
 bnd (ZTe (0:Int)) λk =>
 bnd (Zkf 56 [k] j) λd =>
 bnd (ZTe (1:Int)) λl =>
 bnd (idx d a.2) λu =>
 bnd (Zh (σ:=Int×(List Rat)) (ρ:=List Rat) (λb =>
 ifb (decide (b.1<(c.2.1.length:Int)))
 (bnd (idx c.2.1 b.1) λe =>
 bnd (idx c.1 b.1) λn =>
 bnd (idx n a.2) λo =>
 bnd (Zae o) λp =>
 bnd (idx b.2 e) λv =>
 bnd (chk .i64 (b.1+(1:Int))) λq =>
 some (.inl (q,b.2.set e.toNat p)))
 (some (.inr b.2)))
        Zj ((0:Int),d.set a.2.toNat l)) λf =>
 bnd (Zy 24 (a.1++[f])) λ_ =>
 some (a.1++[f]))) λr =>
 bnd (chk .i64 (a.2+(1:Int))) λs =>
 some (.inl (r,s)))
 (some (.inr a.1)))
   Zj (([]:List (List Rat)),(0:Int))) λt =>
 some (t,(0:Int)))
noncomputable def Znd (m:List (List Rat)) (c:List Rat):Option (Bool×(List Rat)×Int) :=
 bnd (α:=Bool)
 (bnd (ZFe m) λf =>
 ifb (!f)
 (some true)
 (bnd (Zkc m) λg =>
 some ((c.length:Int) != g))) λh =>
 ifb h
 (some (false,([]:List Rat),(4:Int)))
 (bnd (ZZl m) λd =>
 bnd (Zh (σ:=Int) (ρ:=Unit ⊕ (Bool×(List Rat)×Int)) (λa =>
 ifb (decide (a<(d.1.length:Int)))
 (bnd (idx d.1 a) λe =>
 bnd (Zfe c e) λi =>
 bnd (ZUa i) λj =>
 ifb (!j)
 (some (.inr (.inr (false,e,(0:Int)))))
 (bnd (chk .i64 (a+(1:Int))) λk =>
 some (.inl k)))
 (some (.inr (.inl ()))))
   Zj (0:Int)) λl =>
  match l with
| .inl n=>(some (true,([]:List Rat),(0:Int)))
| .inr b=>(some (b.1,b.2.1,b.2.2)))
theorem Z1y (l:List Nat) (c:Nat) (hl:l.length≤1000):∃ z,ZIj (Zja l) (c:Int)=some z∧(0≤z↔c ∈ l):=by
 unfold ZIj;rw[Z5];refine Zye (λk s=>s=(k:Int)∧∀ i,i<k→l[i]? ≠ some c) (λr=>(∃ i:Nat,r = .inl (i:Int)∧l[i]? = some c)∨(r = .inr ()∧c ∉ l)) l.length ⟨rfl,λi hi=>by omega⟩ (by omega) (λk s hk hs=>?_) (λr hr=>?_)
 ·obtain⟨rfl,h⟩:=hs;simp only[Zkb];by_cases hlt:k<l.length
  ·have hc:l[k]? = some l[k]:=List.getElem?_eq_getElem hlt;rw[dTq (by omega),Ze,Zxg hc,Za];by_cases e:l[k]=c
   ·right;refine⟨_,by rw[show ((c:Int)==((l[k]:Nat):Int))=true by simp[e],Ze],.inl ⟨k,rfl,by rw[hc,e]⟩⟩
   ·left;refine⟨((k+1:Nat):Int),hlt,by rw[show ((c:Int)==((l[k]:Nat):Int))=false by simp;omega,Zd,Zi (by omega) (by omega),Za];rfl,rfl,λi hi=>?_⟩;by_cases e2:i=k
    ·subst e2;rw[hc];exact λh=>e (Option.some.inj h)
    ·exact h i (by omega)
  ·right;refine⟨_,by rw[dFq (by omega),Zd],.inr ⟨rfl,λhm=>?_⟩⟩;obtain⟨i,hi⟩:=List.getElem?_of_mem hm;have:=(List.getElem?_eq_some_iff.1 hi).1;exact h i (by omega) hi
 ·rcases hr with ⟨i,rfl,h⟩ | ⟨rfl,h⟩
  ·exact⟨(i:Int),rfl,⟨λ_=>mG h,λ_=>by omega⟩⟩
  ·exact⟨-1,rfl,⟨λh2=>by omega,λh2=>absurd h2 h⟩⟩
theorem ZqA (l:List Nat) (c:Nat) (hl:l.length≤1000):Zdl (Zja l) (c:Int)=some (decide (c ∈ l)):=by
 obtain⟨z,h1,h2⟩:=Z1y l c hl;unfold Zdl;rw[h1,Za];refine congrArg some ?_;rw[Bool.eq_iff_iff];simpa using h2
def ZC (piv:List Nat) (k:Nat):List Nat:=(List.range k).filter λj=>decide (j ∉ piv)
theorem Z1t {R n K:Nat} {M:Mx} (h0:R=0→n=0) (hR:R≤32) (hn:n≤32) (hK:1≤K) (hz:CD K R n M) (hk:kk K n≤274877906944) :
  ∃ M' piv,Eli R n M M' piv n∧CD (kk K n) R n M'∧ZZl (mx R n M)=some ((ZC piv n).map (λj=>vx n (kv M' piv j)),0):=by
 obtain⟨z,h1,M',piv,d,rfl,h2,h3⟩:=Z6w h0 (by omega) (by omega) hK hz hk;refine⟨M',piv,h2,h3,?_⟩;have pl:=Zch h2.inc h2.lt;have pR:=h2.le;unfold ZZl;rw[Zlj M h0 hR hn,Za,show (!true)=false from rfl,Zd,h1,Za,ZGe M h0,Za];refine Zq (Zv (λk=>((ZC piv k).map (λj=>vx n (kv M' piv j)),(k:Int))) n rfl (by omega) (λk hkn=>?_) ?_) rfl
 ·simp only;rw[dTq (by omega),Ze];refine Zq (y:=(ZC piv (k+1)).map (λj=>vx n (kv M' piv j))) ?_ ?_
  ·rw[ZqA _ _ (by omega),Za];have ef:ZC piv (k+1)=ZC piv k++if k ∈ piv then [] else [k]:=by
    unfold ZC;rw[List.range_succ,List.filter_append];by_cases e:k ∈ piv <;> simp[e]
   by_cases hm:k ∈ piv
   ·rw[dTq hm,Ze,ef,iP hm,List.append_nil]
   ·rw[dFq hm,Zd,Za,Z6e,Za,Zzr (by omega) (by omega),Za,Z6e,Za,ZF _ hkn,Za];simp only[tN];refine Zq (y:=vx n (kv M' piv k)) (Zv (λi=>((i:Int),vx n λd=>if d=k then 1 else match piv.idxOf? d with
     | some q=>if q<i then-M' q k else 0
     | none=>0)) piv.length ?_ (by omega) (λi hip=>?_) ?_) ?_
    ·rw[Zea];refine Prod.ext rfl (ZG λd hd=>?_);by_cases e:d=k
     ·rw[iP e,iP e];rfl
     ·rw[iN e,iN e];split
      ·rw[iN (by omega)];rfl
      ·rfl
    ·have hc:piv[i]? = some piv[i]:=List.getElem?_eq_getElem hip;have hcn:piv[i]<n:=h2.lt _ (mG hc);simp only[Zkb];rw[dTq (by omega),Ze,Zxg hc,Za,Zqa _ (by omega),Za,ZF _ hkn,Za];unfold Zae;rw[Za,ZF _ hcn,Za,Zi (by omega) (by omega),Za];simp only[tN];rw[Zea];refine congrArg (λx=>some (Sum.inl x)) (Prod.ext (by simp) (ZG λd hd=>?_));by_cases e:d=piv[i]
     ·have hne:d≠k:=λe2=>hm (by rw[← e2,e];exact mG hc);rw[iP e,iN hne,e,ZCh h2.inc hc];simp
     ·rw[iN e];by_cases e1:d=k
      ·rw[iP e1,iP e1]
      ·rw[iN e1,iN e1]
       cases hx:piv.idxOf? d with
       | none=>rfl
       | some q =>
        have:q≠i:=λe2=>by
         subst e2;unfold List.idxOf? at hx;obtain⟨_,h6,_⟩:=List.findIdx?_eq_some_iff_getElem.1 hx;simp at h6;exact e h6.symm
        simp only;by_cases e3:q<i
        ·rw[iP e3,iP (by omega)]
        ·rw[iN e3,iN (by omega)]
    ·simp only[Zkb];rw[dFq (by omega),Zd];refine congrArg (λx=>some (Sum.inr x)) (ZG λd hd=>?_);unfold kv;by_cases e:d=k
     ·rw[iP e,iP e]
     ·rw[iN e,iN e]
      cases hx:piv.idxOf? d with
      | none=>rfl
      | some q =>
       unfold List.idxOf? at hx;obtain⟨h5,_⟩:=List.findIdx?_eq_some_iff_getElem.1 hx;simp only;rw[iP h5]
    ·have e4:(ZC piv k).map (λj=>vx n (kv M' piv j))++[vx n (kv M' piv k)]=(ZC piv (k+1)).map (λj=>vx n (kv M' piv j)):=by rw[ef,iN hm,List.map_append];rfl
     rw[e4];have hfl:(ZC piv (k+1)).length≤k+1:=by
      unfold ZC;have:=List.length_filter_le (λj=>decide (j ∉ piv)) (List.range (k+1))
      rwa [List.length_range]at this
     rw[Z6 (by rw[List.length_map];omega),Za]
  ·rw[Zi (by omega) (by omega),Za];rfl
 ·simp only;rw[dFq (by omega),Zd]
theorem ZPl {K R n:Nat} {M':Mx} {piv:List Nat} (hC:CD K R n M') (hK:1≤K) (hpl:piv.length≤R) {j:Nat} (hj:j<n) (d:Nat):sz K (kv M' piv j d):=by
 unfold kv;split
 ·exact ZKf.mono hK
 ·cases hx:piv.idxOf? d with
  | none=>exact ZH.mono hK
  | some q =>
   unfold List.idxOf? at hx;obtain⟨h5,_⟩:=List.findIdx?_eq_some_iff_getElem.1 hx;exact ZLg (hC.sz (by omega) hj)
theorem Zth {K n:Nat} (h:1≤K):1≤kk K n:=by
 have:=Zoc (K:=K) (k:=0) (n:=n) (Nat.zero_le _);unfold kk at this;unfold kk;simp at this;omega
theorem Zlr {R n K m:Nat} {M:Mx} {c:Nat→Rat} (h0:R=0→n=0) (hR:R≤32) (hn:n≤32) (hK:1≤K) (hz:CD K R n M) (hk:kk K n≤17179869184) (hc:∀ j,j<n→sz m (c j)) (hm:m≤10000000000) :
  ∃ z,Znd (mx R n M) (vx n c)=some z∧((z=(true,[],0)∧∀ v,Ker R n M v→sm n (λj=>c j*v j)=0) ∨ ∃ v,Ker R n M v∧sm n (λj=>c j*v j)≠0∧z=(false,vx n v,0)∧∀ j,j<n→sz (kk K n) (v j)):=by
 obtain⟨M',piv,h2,h3,h4⟩:=Z1t h0 hR hn hK hz (by omega);unfold Znd;refine ZW (y:=false) ?_ ?_
 ·rw[Zlj M h0 hR hn,Za,show (!true)=false from rfl,Zd,ZGe M h0,Za,Zw];exact congrArg some (by simp)
 rw[Zd,h4,Za];have hf:∀ j,j ∈ ZC piv n→j<n∧j ∉ piv:=λj hj=>by
  unfold ZC at hj;have:=List.mem_filter.1 hj;exact⟨List.mem_range.1 this.1,by simpa using this.2⟩
 have hfl:(ZC piv n).length≤n:=by
  unfold ZC;have:=List.length_filter_le (λj=>decide (j ∉ piv)) (List.range n)
  rwa [List.length_range]at this
 refine Zye (λk s=>s=(k:Int)∧∀ i,i<k→∀ j,(ZC piv n)[i]? = some j→sm n (λd=>c d*kv M' piv j d)=0) (λr=>(r = .inl ()∧∀ j,j ∈ ZC piv n→sm n (λd=>c d*kv M' piv j d)=0) ∨ ∃ v,Ker R n M v∧sm n (λj=>c j*v j)≠0∧r = .inr (false,vx n v,0)∧∀ j,j<n→sz (kk K n) (v j)) (ZC piv n).length ⟨rfl,λi hi=>by omega⟩ (by omega) (λk s hkl hs=>?_) (λr hr=>?_)
 ·obtain⟨rfl,h⟩:=hs;simp only[List.length_map];by_cases hlt:k<(ZC piv n).length
  ·have hg:(ZC piv n)[k]? = some (ZC piv n)[k]:=List.getElem?_eq_getElem hlt;obtain⟨g1,g2⟩:=hf _ (mG hg);have hdot:=ZRj (f:=c) (g:=kv M' piv (ZC piv n)[k]) (k:=m) (m:=kk K n) hc (λj hj=>ZPl h3 (Zth hK) h2.le g1 j) (by omega) (by
    have:(n+1)*(m+kk K n+1)≤33*(m+kk K n+1):=mR _ (by omega);omega)
   rw[dTq (by omega),Ze,ZNi (x:=vx n (kv M' piv (ZC piv n)[k])) (by rw[List.getElem?_map,hg];rfl),Za,hdot,Za];unfold ZUa;rw[Za];by_cases e:sm n (λd=>c d*kv M' piv (ZC piv n)[k] d)=0
   ·left;refine⟨((k+1:Nat):Int),hlt,by rw[dTq e,show (!true)=false from rfl,Zd,Zi (by omega) (by omega),Za];rfl,rfl,λi hi j hj=>?_⟩;by_cases e2:i=k
    ·subst e2;rw[hg]at hj;cases hj;exact e
    ·exact h i (by omega) j hj
   ·right;exact⟨_,by rw[dFq e,show (!false)=true from rfl,Ze],.inr ⟨_,h2.kv_ker g1 g2,e,rfl,λj hj=>ZPl h3 (Zth hK) h2.le g1 j⟩⟩
  ·right;refine⟨_,by rw[dFq (by omega),Zd],.inl ⟨rfl,λj hj=>?_⟩⟩;obtain⟨i,hi⟩:=List.getElem?_of_mem hj;have:=(List.getElem?_eq_some_iff.1 hi).1;exact h i (by omega) j hi
 ·rcases hr with ⟨rfl,h⟩ | ⟨v,h5,h6,rfl,h7⟩
  ·refine⟨_,rfl,.inl ⟨rfl,λv hv=>?_⟩⟩;rw[ZR (g:=λd=>sm n λj=>if j ∈ piv then 0 else v j*(c d*kv M' piv j d)) λd hd=>?_,Zcj]
   ·refine Zvc λj hj=>?_;by_cases e:j ∈ piv
    ·exact Zvc λd hd=>by rw[iP e]
    ·rw[ZR (g:=λd=>v j*(c d*kv M' piv j d)) λd hd=>by rw[iN e],ZFb,h j (List.mem_filter.2 ⟨List.mem_range.2 hj,by simpa using e⟩)];grind
   ·rw[h2.span hv d hd,← ZFb];refine ZR λj hj=>?_;split <;> grind
  ·exact⟨_,rfl,.inr ⟨v,h5,h6,rfl,h7⟩⟩
def ind (p j:Nat):Rat:=if j=p then 1 else 0
theorem ZEd {n p:Nat} (h:p<n) (v:Nat→Rat):sm n (λj=>ind p j*v j)=v p:=by
 rw[Z3e h λj hj hne=>by unfold ind;rw[iN hne];grind];unfold ind;rw[iP rfl];grind
theorem ZHo (p j:Nat):sz 1 (ind p j):=by unfold ind;split;exact ZKf;exact ZH
def ctr (a b:Nat):Nat→Rat:=λj=>ind a j-ind b j
theorem ZHi (a b j:Nat):sz 3 (ctr a b j):=Zxm (ZHo a j) (ZHo b j)
theorem ZXl {n a b:Nat} (ha:a<n) (hb:b<n) (v:Nat→Rat):sm n (λj=>ctr a b j*v j)=v a-v b:=by
 rw[← ZEd ha v,← ZEd hb v,← Zqh];exact ZR λj hj=>by unfold ctr;grind
noncomputable def ZIg (m:List (List Rat)) (b:List Rat) (c:List Rat):Option (Rat×Int) :=
 bnd (α:=Bool)
 (bnd (ZFe m) λd =>
 ifb (!d)
 (some true)
 (ifb ((b.length:Int) != (m.length:Int))
 (some true)
 (bnd (Zkc m) λe =>
 some ((c.length:Int) != e)))) λf =>
 ifb f
 (some ((0:Rat),(4:Int)))
 (bnd (Znd m c) λg =>
 ifb (!g.1)
 (some ((0:Rat),(5:Int)))
 (bnd (Zpk m b) λa =>
 bnd (ZHl a.1 a.2) λh =>
 bnd (Zfe c h.1) λi =>
 some (i,(0:Int))))
theorem nm_sym (R:Nat) (M:Mx) (i j:Nat):nmM R M i j=nmM R M j i:=ZR λl hl=>by grind
theorem ZHA {R n:Nat} {M:Mx} {v:Nat→Rat} (h:Ker R n M v):Ker n n (nmM R M) v:=λi hi=>by
 rw[Zjr]
 exact Zvc λl hl=>by rw[h l hl];grind
theorem ZJk {R n:Nat} {M M':Mx} {b:Nat→Rat} {piv:List Nat} (h:Eli n (n+1) (aug n (nmM R M) (nmB R M b)) M' piv (n+1)):n ∉ piv:=λhm=>by
 obtain⟨i,hi⟩:=List.getElem?_of_mem hm
 have hin:i<n:=by have:=(List.getElem?_eq_some_iff.1 hi).1;have:=h.le;omega
 obtain⟨E,hE⟩:=h.rsp
 have hu:Ker n n (nmM R M) (E i):=λj hj=>by
  have:=hE i hin j (by omega)
  rw[h.left i n hi j hj]at this
  rw[this]
  refine ZR λk hk=>?_
  unfold aug
  rw[iN (by omega),nm_sym,Rat.mul_comm]
 have hk:=Zku hu
 have h1:=hE i hin n (by omega)
 rw[h.one i n hi i hin,iP rfl]at h1
 have h2:sm n (λk=>E i k*aug n (nmM R M) (nmB R M b) k n)=0:=by
  rw[ZR (g:=λk=>sm R λl=>E i k*(M l k*b l)) λk hk=>by unfold aug nmB;rw[iP rfl,← ZFb],Zcj];refine Zvc λl hl=>?_;rw[ZR (g:=λk=>b l*(M l k*E i k)) λk hk=>by grind,ZFb,hk l hl];grind
 rw[h2]at h1;exact absurd h1 (by decide)
theorem ZIo {R n:Nat} {M:Mx} (h:CD 1 R n M) (k:Nat) (hk:1≤k):∀ i j,i<R→j<n→sz k (M i j):=λi j hi hj=>(h.sz hi hj).mono hk
def CdW (δ m K R n:Nat) (M:Mx):Prop:=∀ j,j<n→∃ D:Int,D≠0∧D.natAbs<2^(K+if j<m then 0 else δ)∧∀ i,i<R→∃ N:Int,M i j=(N:Rat) / (D:Rat)∧N.natAbs<2^(K+if j<m then 0 else δ)
theorem CdW.sz0 {δ m K R n:Nat} {M:Mx} (h:CdW δ m K R n M) {i j:Nat} (hi:i<R) (hj:j<n) (hm:j<m):sz K (M i j):=by
 obtain⟨D,h0,h1,h2⟩:=h j hj;obtain⟨N,h3,h4⟩:=h2 i hi;rw[iP hm]at h1 h4;exact Zvm h3 h4 h1 h0
theorem CdW.sz {δ m K R n:Nat} {M:Mx} (h:CdW δ m K R n M) {i j:Nat} (hi:i<R) (hj:j<n):sz (K+δ) (M i j):=by
 obtain⟨D,h0,h1,h2⟩:=h j hj;obtain⟨N,h3,h4⟩:=h2 i hi;exact (Zvm h3 h4 h1 h0).mono (by split <;> omega)
theorem CdW.mono {δ m K K' R n:Nat} {M:Mx} (h:CdW δ m K R n M) (hk:K≤K'):CdW δ m K' R n M:=λj hj=>by
 obtain⟨D,h0,h1,h2⟩:=h j hj
 have hp:2^(K+if j<m then 0 else δ)≤2^(K'+if j<m then 0 else δ):=Nat.pow_le_pow_right (show 0<2 by omega) (by omega)
 exact⟨D,h0,Nat.lt_of_lt_of_le h1 hp,λi hi=>by
  obtain⟨N,h3,h4⟩:=h2 i hi
  exact⟨N,h3,Nat.lt_of_lt_of_le h4 hp⟩⟩
theorem CdW.step {δ m K R n c top p:Nat} {M:Mx} (h:CdW δ m K R n M) (tp:top≤p) (pR:p<R) (cm:c<m) (cn:c<n) (nz:M p c≠0):CdW δ m (2*K+1) R n (Zda M c top p):=λj hj=>by
 obtain⟨D,h0,h1,h2⟩:=h j hj
 obtain⟨E,k0,k1,k2⟩:=h c cn
 obtain⟨F,f1,f2⟩:=k2 p pR
 rw[iP cm,Nat.add_zero]at k1 f2
 have k2':∀ i,i<R→∃ N:Int,M i c=(N:Rat) / (E:Rat)∧N.natAbs<2^K:=λi hi=>by
  obtain⟨N,a,b⟩:=k2 i hi
  rw[iP cm,Nat.add_zero]at b
  exact⟨N,a,b⟩
 generalize (if j<m then 0 else δ)=w at *
 have e2:2^(2*K+1+w)=2*(2^(K+w)*2^K):=by rw[show 2*K+1+w=((K+w)+K)+1 by omega,Nat.pow_succ,Nat.pow_add 2 (K+w) K];omega
 have hF:F≠0:=λe=>nz (by rw[f1,e,Rat.div_def];exact Rat.zero_mul _)
 have hD':(D:Rat)≠0:=λe=>h0 (Rat.intCast_inj.1 (by rw[e];rfl))
 have hE':(E:Rat)≠0:=λe=>k0 (Rat.intCast_inj.1 (by rw[e];rfl))
 have hF':(F:Rat)≠0:=λe=>hF (Rat.intCast_inj.1 (by rw[e];rfl))
 refine⟨D*F,λe=>?_,?_,λi hi=>?_⟩
 ·rcases Int.mul_eq_zero.1 e with h | h
  ·exact h0 h
  ·exact hF h
 ·have:=Zrd h1 f2;omega
 ·obtain⟨A,a1,a2⟩:=h2 p pR
  unfold Zda
  split
  ·refine⟨A*E,?_,?_⟩
   ·rw[a1,f1,Rat.intCast_mul,Rat.intCast_mul];grind
   ·have:=Zrd a2 k1;omega
  ·have key:∀ i,i<R→∃ N:Int,M i j-M i c*(M p j / M p c)=(N:Rat) / ((D*F:Int):Rat)∧N.natAbs<2^(2*K+1+w):=λi hi=>by
    obtain⟨B,b1,b2⟩:=h2 i hi
    obtain⟨C,c1,c2⟩:=k2' i hi
    refine⟨B*F-C*A,?_,?_⟩
    ·rw[a1,b1,c1,f1,Rat.intCast_sub,Rat.intCast_mul,Rat.intCast_mul,Rat.intCast_mul];grind
    ·have:=Zrd b2 f2
     have:=Zrd c2 a2
     rw[Nat.mul_comm (2^K)]at this
     omega
   split
   ·exact key top (by omega)
   ·exact key i hi
theorem Z0w {δ m R n K r:Nat} {M0:Mx} (J:Nat→Mx→List Nat→Rat→Prop) (hJ0:J 0 M0 [] ((1:Int):Rat)) (hJs:∀ k M piv d,k<n→Eli R n M0 M piv k→J k M piv d→J (k+1) M piv ((0:Int):Rat))
  (hJp:∀ k M piv d p,piv.length≤p→p<R→k<n→M p k≠0→J k M piv d→J (k+1) (Zda M k piv.length p) (piv++[k]) ((if p=piv.length then d else -d)*M p k)) (h0:R=0→n=0) (hR:R≤1000) (hn:n≤1000) (hK:1≤K) (hz:CdW δ m K R n M0) (hr:∀ k M piv,k≤n→Eli R n M0 M piv k→piv.length≤r∧∀ c,c ∈ piv→c<m) (hk:kk K r+δ≤200000000000) :
  ∃ z,ZYd (mx R n M0)=some z∧∃ M piv d,z=(mx R n M,Zja piv,d)∧Eli R n M0 M piv n∧CdW δ m (kk K r) R n M∧J n M piv d:=by
 unfold ZYd;refine ZW (y:=()) (by rw[Zka];exact ZAd (by omega) (by omega)) ?_;refine ZW (Zmm M0 hR hn) ?_;refine ZW (Z6e 1) ?_;refine ZW (y:=(n:Int)) (ZGe M0 h0) ?_;refine Zye (λk s=>∃ M piv d,s=(Zja piv,(k:Int),mx R n M,d)∧Eli R n M0 M piv k∧CdW δ m (kk K piv.length) R n M∧sz (kk K piv.length) d∧J k M piv d) (λy=>∃ M piv d,y=(Zja piv,mx R n M,d)∧Eli R n M0 M piv n∧CdW δ m (kk K r) R n M∧J n M piv d) n ⟨M0,[],((1:Int):Rat),rfl,Eli.start R n M0,by unfold kk;simpa using hz,(ZKf.mono (by unfold kk;simpa using hK):sz _ (1:Rat)),hJ0⟩ (by omega) (λk s hkn hi=>?_) (λy hy=>?_)
 ·obtain⟨M,piv,d,rfl,hI,hC,hd,hJ⟩:=hi;by_cases hlt:k<n
  ·left;have hkk:=Zoc (K:=K) (hr k M piv hkn hI).1;simp only;rw[dTq (by omega),Ze];have pl:=hI.le
   suffices hx:∃ z,(bnd (α:=(List Int)×(List (List Rat))×Rat) _ _:Option (((List Int)×Int×(List (List Rat))×Rat) ⊕ ((List Int)×(List (List Rat))×Rat)))=some z∧∃ M' piv' d',z=Sum.inl (Zja piv',((k+1:Nat):Int),mx R n M',d')∧Eli R n M0 M' piv' (k+1)∧CdW δ m (kk K piv'.length) R n M'∧sz (kk K piv'.length) d'∧J (k+1) M' piv' d' by
    obtain⟨z,h1,M',piv',d',rfl,h2⟩:=hx;exact⟨_,hlt,h1,M',piv',d',rfl,h2⟩
   refine Z2l (Q:=λy=>∃ M' piv' d',y=(Zja piv',mx R n M',d')∧Eli R n M0 M' piv' (k+1)∧CdW δ m (kk K piv'.length) R n M'∧sz (kk K piv'.length) d'∧J (k+1) M' piv' d') ?_ (λy hy=>?_)
   rotate_left
   ·obtain⟨M',piv',d',rfl,h2⟩:=hy;exact⟨Sum.inl (Zja piv',((k+1:Nat):Int),mx R n M',d'),by rw[Zi (by omega) (by omega),Za];rfl,M',piv',d',rfl,h2⟩
   refine Zye (λq s=>s=((piv.length+q:Nat):Int)∧∀ i,piv.length≤i→i<piv.length+q→M i k=0) (λy=>∃ p:Nat,y=(p:Int)∧piv.length≤p∧p≤R∧(∀ i,piv.length≤i→i<p→M i k=0)∧(p<R→M p k≠0)) (R-piv.length) ⟨by rw[Zkb];rfl,λi h1 h2=>by omega⟩ (by omega) (λq s hq hs=>?_) (λy hy=>?_)
   ·obtain⟨rfl,hz0⟩:=hs;rw[Zka];by_cases hqR:piv.length+q<R
    ·rw[dTq (by omega),Ze,Zqa _ hqR,Za,ZF _ hlt,Za];unfold ZUa;by_cases hz1:M (piv.length+q) k=0
     ·left;refine⟨((piv.length+(q+1):Nat):Int),by omega,?_,rfl,λi h1 h2=>?_⟩
      ·rw[dTq hz1,Za,Za,Ze,Zi (by omega) (by omega),Za];rfl
      ·by_cases e:i=piv.length+q
       ·rw[e];exact hz1
       ·exact hz0 i h1 (by omega)
     ·right;refine⟨((piv.length+q:Nat):Int),by rw[dFq hz1,Za,Za,Zd],piv.length+q,rfl,by omega,by omega,hz0,λ_=>hz1⟩
    ·right;refine⟨((piv.length+q:Nat):Int),by rw[dFq (by omega),Zd,Za,Zd],piv.length+q,rfl,by omega,by omega,hz0,λh=>by omega⟩
   ·obtain⟨p,rfl,h1,h2,h3,h4⟩:=hy;rw[Zka];by_cases hpR:p=R
    ·rw[show ((p:Int)==(R:Int))=true by simp[hpR],Ze,Z6e,Za];refine⟨_,rfl,M,piv,_,rfl,hI.skip λi g1 g2=>h3 i g1 (by omega),hC,ZH.mono (ZCs hK),hJs _ _ _ _ hlt hI hJ⟩
    ·rw[show ((p:Int)==(R:Int))=false by simp;omega,Zd];have pR:p<R:=by omega
     have nz:=h4 pR;have tR:piv.length<R:=by omega
     have hkm:k<m:=(hr (k+1) _ _ hlt (hI.step (ZPe h1 pR hlt nz))).2 k (List.mem_append_right _ (List.mem_singleton.2 rfl));have Cs:=hC.step h1 pR hkm hlt nz;have hk1:=Zoc (K:=K) (hr (k+1) _ _ hlt (hI.step (ZPe h1 pR hlt nz))).1;rw[lA,List.length_singleton,Zpf]at hk1;rw[Zkb];refine ZW (y:=(mx R n (swM M piv.length p),if p=piv.length then d else -d)) ?_ ?_
     ·by_cases e:p=piv.length
      ·rw[show ((p:Int) != (piv.length:Int))=false by simp[e],Zd,iP e];refine congrArg some (Prod.ext (ZAb λi hi j hj=>?_) rfl);unfold swM;by_cases e2:i=piv.length
       ·rw[iP e2,e2,e]
       ·rw[iN e2,iN (λh=>e2 (h.trans e))]
      ·rw[show ((p:Int) != (piv.length:Int))=true by simp;omega,Ze,Zqa _ tR,Za,Zqa _ pR,Za,Za,Za,iN e];simp only[tN];rw[Z6c,Za,Z6c,Za];unfold Zae;rw[Za,ZTq _ pR tR];rfl
     have hrow:swM M piv.length p piv.length=M p:=by unfold swM;rw[iP rfl]
     have hd1:sz (kk K piv.length) (if p=piv.length then d else -d):=by split;exact hd;exact ZLg hd
     have zf:sz (kk K piv.length) (M p k):=hC.sz0 pR hlt hkm;simp only;refine ZW (Zqa _ tR) ?_;rw[hrow];refine ZW (ZF _ hlt) ?_;refine ZW (Z5i hd1 zf (by omega) (by omega)) ?_;refine ZW (Zqa _ tR) ?_;rw[hrow,Zw];refine ZW (y:=mx R n (Zfa M k piv.length p n)) (Zv (λj=>((j:Int),mx R n (Zfa M k piv.length p j))) n ?_ (by omega) (λj hj=>?_) ?_) ?_
     ·refine Prod.ext rfl (ZAb λi hi j hj=>?_);unfold Zfa;rw[iN (by omega)]
     ·have hr:Zfa M k piv.length p j piv.length j=M p j:=by unfold Zfa swM;rw[iN (by omega),iP rfl]
      simp only;rw[dTq (by omega),Ze,Zqa _ tR,Za,Za,ZF _ hj,Za,hr,qdivB (hC.sz pR hj) zf (by omega) (by omega) nz,Za,Za,Zi (by omega) (by omega),Za];simp only[tN];rw[Zea,ZWj];refine congrArg (λx=>some (Sum.inl x)) (Prod.ext (by simp) (ZAb λi hi l hl=>?_));unfold Zfa;by_cases e:i=piv.length
      ·rw[iP e];by_cases e2:l=j
       ·rw[iP e2,iP (by omega),e2]
       ·rw[iN e2,e];by_cases e3:l<j
        ·rw[iP (by omega),iP (by omega)]
        ·rw[iN (by omega),iN (by omega)]
      ·rw[iN e,iN (by omega),iN (by omega)]
     ·simp only;rw[dFq (by omega),Zd]
     rw[Zka];refine ZW (y:=mx R n (Zda M k piv.length p)) (Zv (λi=>((i:Int),mx R n (ZE M k piv.length p n i 0))) R ?_ (by omega) (λi hi=>?_) ?_) ?_
     ·refine Prod.ext rfl (ZAb λi hi j hj=>?_);unfold ZE;rw[iN (by omega)]
     ·simp only;have rd:∀ r l,r≠piv.length→Zfa M k piv.length p n r l=if r=p then M piv.length l else M r l:=λr l hr=>by
       unfold Zfa swM;rw[iN (by omega),iN hr];split <;> rfl
      have top0:∀ i j l,l<n→ZE M k piv.length p n i j piv.length l=M p l / M p k:=λi j l hl=>by
       unfold ZE Zda Zfa;split
       ·rw[iP rfl]
       ·rw[iP ⟨rfl,hl⟩]
      have self0:∀ l,ZE M k piv.length p n i 0 i l=Zfa M k piv.length p n i l:=λl=>by unfold ZE;rw[iN (by omega)]
      rw[dTq (by omega),Ze];refine Zq (y:=mx R n (ZE M k piv.length p n (i+1) 0)) ?_ ?_
      ·rw[Zqa _ hi,Za,ZF _ hlt,Za];by_cases e:i=piv.length
       ·rw[show ((i:Int)==(piv.length:Int))=true by simp[e],Ze,Za,Ze];refine congrArg some (ZAb λr hr l hl=>?_);by_cases e2:r=piv.length
        ·rw[e2,top0 _ _ _ hl,top0 _ _ _ hl]
        ·unfold ZE;by_cases e3:r<i
         ·rw[iP (.inl e3),iP (.inl (by omega))]
         ·rw[iN (by omega),iN (by omega)]
       ·rw[show ((i:Int)==(piv.length:Int))=false by simp;omega,Zd];unfold ZUa;rw[Za,Za,self0,rd _ _ e];by_cases hz1:(if i=p then M piv.length k else M i k)=0
        ·rw[dTq hz1,Ze];refine congrArg some (ZAb λr hr l hl=>?_);unfold ZE;by_cases e3:r<i
         ·rw[iP (.inl e3),iP (.inl (by omega))]
         ·rw[iN (by omega)];by_cases e4:r=i
          ·subst e4;rw[iP (.inl (by omega)),rd _ _ e];unfold Zda;rw[iN e,hz1];grind
          ·rw[iN (by omega)]
        ·rw[dFq hz1,Zd,Za,Zw];have zc:sz (kk K piv.length) (if i=p then M piv.length k else M i k):=by split;exact hC.sz0 tR hlt hkm;exact hC.sz0 hi hlt hkm
         refine Zq (Zv (λj=>((j:Int),mx R n (ZE M k piv.length p n i j))) n rfl (by omega) (λj hj=>?_) ?_) rfl
         ·have zt:sz (2*kk K piv.length+1+δ) (M p j / M p k):=by
           have:=Cs.sz tR hj;unfold Zda at this;rwa [iP rfl]at this
          have zi:sz (kk K piv.length+δ) (if i=p then M piv.length j else M i j):=by split;exact hC.sz tR hj;exact hC.sz hi hj
          have e5:ZE M k piv.length p n i j i j=if i=p then M piv.length j else M i j:=by unfold ZE;rw[iN (by omega),rd _ _ e]
          simp only;rw[dTq (by omega),Ze,Zqa _ hi,Za,Za,ZF _ hj,Za,Zqa _ tR,Za,ZF _ hj,Za,top0 _ _ _ hj,Z5i zc zt (by omega) (by omega),Za,e5,qsubB zi (Zxa zc zt) (by omega) (by omega),Za,Za,Zi (by omega) (by omega),Za];simp only[tN];rw[Zea,ZWj];refine congrArg (λx=>some (Sum.inl x)) (Prod.ext (by simp) (ZAb λr hr l hl=>?_));by_cases e6:r=i
          ·subst e6;rw[iP rfl];by_cases e7:l=j
           ·subst e7;rw[iP rfl];have e9:ZE M k piv.length p n r (l+1) r l=Zda M k piv.length p r l:=by unfold ZE;rw[iP (.inr ⟨rfl,by omega⟩)]
            rw[e9];unfold Zda;rw[iN e]
           ·rw[iN e7];unfold ZE;by_cases e8:l<j
            ·rw[iP (.inr ⟨rfl,e8⟩),iP (.inr ⟨rfl,by omega⟩)]
            ·rw[iN (by omega),iN (by omega)]
          ·rw[iN e6];unfold ZE;by_cases e8:r<i
           ·rw[iP (.inl e8),iP (.inl e8)]
           ·rw[iN (by omega),iN (by omega)]
         ·simp only;rw[dFq (by omega),Zd];refine congrArg (λx=>some (Sum.inr x)) (ZAb λr hr l hl=>?_);unfold ZE;by_cases e8:r<i+1
          ·rw[iP (by omega),iP (by omega)]
          ·rw[iN (by omega),iN (by omega)]
      ·rw[Zi (by omega) (by omega),Za];rfl
     ·simp only;rw[dFq (by omega),Zd];refine congrArg (λx=>some (Sum.inr x)) (ZAb λi hi j hj=>?_);unfold ZE;rw[iP (by omega)]
     refine ZW (y:=()) (Z6 (by simp[Zkb];omega)) ?_;refine⟨_,rfl,Zda M k piv.length p,piv++[k],_,?_,hI.step (ZPe h1 pR hlt nz),Cs.mono (by rw[lA,List.length_singleton,Zpf];omega),(Zxa hd1 zf).mono (by rw[lA,List.length_singleton,Zpf];omega),hJp _ _ _ _ _ h1 pR hlt nz hJ⟩;simp[Zja]
  ·right;obtain rfl:k=n:=by omega
   refine⟨_,by simp only;rw[dFq (by omega),Zd],M,piv,d,rfl,hI,hC.mono (Zoc (hr k M piv (Nat.le_refl _) hI).1),hJ⟩
 ·obtain⟨M,piv,d,rfl,hI,hC⟩:=hy;exact⟨_,rfl,M,piv,d,rfl,hI,hC⟩
theorem Z5w {δ m R n K r:Nat} {M0:Mx} (h0:R=0→n=0) (hR:R≤1000) (hn:n≤1000) (hK:1≤K) (hz:CdW δ m K R n M0) (hr:∀ k M piv,k≤n→Eli R n M0 M piv k→piv.length≤r∧∀ c,c ∈ piv→c<m) (hk:kk K r+δ≤200000000000) :
  ∃ z,ZYd (mx R n M0)=some z∧∃ M piv d,z=(mx R n M,Zja piv,d)∧Eli R n M0 M piv n∧CdW δ m (kk K r) R n M:=by
 obtain⟨z,h1,M,piv,d,h2,h3,h4,_⟩:=Z0w (λ_ _ _ _=>True) trivial (λ_ _ _ _ _ _ _=>trivial) (λ_ _ _ _ _ _ _ _ _ _=>trivial) h0 hR hn hK hz hr hk;exact⟨z,h1,M,piv,d,h2,h3,h4⟩
theorem Any_w {δ m R n K r:Nat} {M:Mx} {b:Nat→Rat} (h0:0<R) (hR:R≤32) (hn:n≤32) (hK:1≤K) (hz:CdW δ m K R (n+1) (aug n M b)) (hr:∀ k M' piv,k≤n+1→Eli R (n+1) (aug n M b) M' piv k→piv.length≤r∧∀ c,c ∈ piv→c<m) (hk:kk K r+δ≤200000000000) :
  ∃ M' piv,Eli R (n+1) (aug n M b) M' piv (n+1)∧CdW δ m (kk K r) R (n+1) M'∧ZHl (mx R n M) (vx R b)=some (if n ∈ piv then ([],5) else (vx n (pv M' piv n),0)):=by
 obtain⟨z,h1,M',piv,d,rfl,h2,h3⟩:=Z5w (R:=R) (n:=n+1) (λe=>by omega) (by omega) (by omega) hK hz hr hk;refine⟨M',piv,h2,h3,?_⟩;have hl:=ZUv h2;have pl:=Zch h2.inc h2.lt;unfold ZHl;rw[Zlj M (λe=>by omega) hR hn,Za,show (!true)=false from rfl,Zd,Zw,Zka,Za,show ((R:Int) != (R:Int))=false by simp,Zd,ZGe M (λe=>by omega),Za,ZHx b (by omega),Za,ZOw M b (by omega) (by omega),Za,h1,Za];simp only[Zkb];refine Zq (y:=decide (n ∈ piv)) ?_ ?_
 ·by_cases hp:0<piv.length
  ·rw[dTq (by omega),Ze,Zi (by omega) (by omega),Za];have h4:piv[piv.length-1]? = some piv[piv.length-1]:=List.getElem?_eq_getElem (by omega);rw[show ((piv.length:Int)-1)=((piv.length-1:Nat):Int) by omega,Zxg h4,Za];refine congrArg some ?_;rw[Bool.eq_iff_iff];simp only[beq_iff_eq,decide_eq_true_eq,hl,h4,hp,true_and,Option.some.injEq];omega
  ·rw[dFq (by omega),Zd,dFq (by rw[hl];omega)]
 by_cases hm:n ∈ piv
 ·rw[dTq hm,Ze,iP hm]
 ·rw[dFq hm,Zd,iN hm,Z6e,Za,Zzr (by omega) (by omega),Za];refine Zq (Zv (λk=>((k:Int),vx n λd=>match piv.idxOf? d with
   | some i=>if i<k then M' i n else 0
   | none=>0)) piv.length ?_ (by omega) (λk hkp=>?_) ?_) rfl
  ·refine Prod.ext rfl (ZG λi hi=>?_);split
   ·rw[iN (by omega)];rfl
   ·rfl
  ·have hc:piv[k]? = some piv[k]:=List.getElem?_eq_getElem hkp;have hcn:piv[k]<n:=by
    have:=h2.lt _ (mG hc);have:piv[k]≠n:=λe=>hm (e ▸ mG hc);omega
   simp only;rw[dTq (by omega),Ze,Zxg hc,Za,Zqa _ (by have:=h2.le;omega),Za,ZF _ (by omega),Za,ZF _ hcn,Za,Zi (by omega) (by omega),Za];simp only[tN];rw[Zea];refine congrArg (λx=>some (Sum.inl x)) (Prod.ext (by simp) (ZG λi hi=>?_));by_cases e:i=piv[k]
   ·rw[iP e,e,ZCh h2.inc hc];simp
   ·rw[iN e]
    cases hx:piv.idxOf? i with
    | none=>rfl
    | some q =>
     have:q≠k:=λe2=>by
      subst e2;unfold List.idxOf? at hx;obtain⟨_,h6,_⟩:=List.findIdx?_eq_some_iff_getElem.1 hx;simp at h6;exact e h6.symm
     simp only;by_cases e3:q<k
     ·rw[iP e3,iP (by omega)]
     ·rw[iN e3,iN (by omega)]
  ·simp only;rw[dFq (by omega),Zd];refine congrArg (λx=>some (Sum.inr x)) (ZG λi hi=>?_);unfold pv
   cases hx:piv.idxOf? i with
   | none=>rfl
   | some q =>
    unfold List.idxOf? at hx;obtain⟨h5,_⟩:=List.findIdx?_eq_some_iff_getElem.1 hx;simp only;rw[iP h5]
theorem ZAv {δ m0 R n k Kb r:Nat} {M:Mx} {w:Nat→Rat} (h0:0<R) (hn0:0<n) (hR:R≤32) (hn:n≤32) (hC:CD 1 R n M) (hk1:1≤k) (hw:∀ i,i<R→sz k (w i)) (hk:k≤100000000) (hKb:1≤Kb)
  (hb:CdW δ m0 Kb n (n+1) (aug n (nmM R M) (nmB R M w))) (hr:∀ q M' piv,q≤n+1→Eli n (n+1) (aug n (nmM R M) (nmB R M w)) M' piv q→piv.length≤r∧∀ c,c ∈ piv→c<m0) (hkb:kk Kb r+δ≤17179869184) :
  ∃ x,Sol n n (nmM R M) (nmB R M w) x∧(∀ j,j<n→sz (kk Kb r+δ) (x j))∧∀ (c:Nat→Rat) (m:Nat),(∀ j,j<n→sz m (c j))→m≤1000 →
   (ZIg (mx R n M) (vx R w) (vx n c)=some (sm n (λj=>c j*x j),0)∧∀ v,Ker R n M v→sm n (λj=>c j*v j)=0)∨(ZIg (mx R n M) (vx R w) (vx n c)=some (0,5)∧∃ v,Ker R n M v∧sm n (λj=>c j*v j)≠0):=by
 obtain⟨M',piv,h1,h2,h3⟩:=Any_w (R:=n) hn0 hn hn hKb hb hr (by omega);have hm:=ZJk h1;rw[iN hm]at h3;have hx:∀ j,j<n→sz (kk Kb r+δ) (pv M' piv n j):=λj hj=>by
  unfold pv
  cases hx:piv.idxOf? j with
  | none=>exact ZH.mono (Nat.le_trans (Zth hKb) (Nat.le_add_right _ _))
  | some q =>
   unfold List.idxOf? at hx;obtain⟨h5,_⟩:=List.findIdx?_eq_some_iff_getElem.1 hx;exact h2.sz (by have:=h1.le;omega) (by omega)
 refine⟨pv M' piv n,h1.pv_sol hm,hx,λc m hc hm'=>?_⟩;have hkk:kk 1 n≤17179869184:=by
  have:=Zoc (K:=1) (k:=n) (n:=32) hn;have e:kk 1 32=8589934591:=by decide
  omega
 obtain⟨y,h4,h5⟩:=Zlr (c:=c) (m:=m) (λe=>by omega) hR hn (by omega) hC hkk hc (by omega);have pre:∀ f:Bool→Option (Rat×Int),bnd (α:=Bool) (bnd (ZFe (mx R n M)) λy1=>ifb (!y1) (some true) (ifb (((vx R w).length:Int) != ((mx R n M).length:Int)) (some true) (bnd (Zkc (mx R n M)) λy2=>some (((vx n c).length:Int) != y2)))) f=f false:=λf=>by
  rw[Zlj M (λe=>by omega) hR hn,Za,show (!true)=false from rfl,Zd,Zw,Zka,show ((R:Int) != (R:Int))=false by simp,Zd,ZGe M (λe=>by omega),Za,Zw,show ((n:Int) != (n:Int))=false by simp,Za]
 unfold ZIg;rw[pre,Zd,h4,Za];rcases h5 with ⟨rfl,h5⟩ | ⟨v,h5,h6,rfl,_⟩
 ·left;refine⟨?_,h5⟩;rw[show (!((true,([]:List Rat),(0:Int)).1))=false from rfl,Zd,ZHy (k:=k) (ZIo hC k hk1) hw (λe=>by omega) (by omega) (by omega) (by omega),Za,h3,Za,ZRj (k:=m) (m:=kk Kb r+δ) hc hx (by omega) (by
   have:(n+1)*(m+(kk Kb r+δ)+1)≤33*(m+(kk Kb r+δ)+1):=mR _ (by omega);omega),Za]
 ·right;refine⟨?_,v,h5,h6⟩;rw[show (!((false,vx n v,(0:Int)).1))=true from rfl,Ze]
theorem Z6b {α:Type} (x y:Option α):ifb (!true) x y=y:=Zd x y
theorem ZKh {α:Type} (x y:Option α):ifb (!false) x y=x:=Ze x y
noncomputable def ZZe (x:Rat):Option (Rat×Rat×Rat×Rat) :=
 bnd (Z0 (0:Int)) λa =>
 bnd (Z0 (0:Int)) λb =>
 bnd (Z0 (0:Int)) λc =>
 some (x,a,b,c)
noncomputable def ZBc (x:Rat):Option ((Rat×Rat×Rat×Rat)×Rat×Rat×Rat×Rat) :=
 bnd (ZZe x) λa =>
 bnd (Z0 (0:Int)) λb =>
 bnd (ZZe b) λc =>
 some (a,c)
abbrev SR:=Rat×Rat×Rat×Rat
abbrev WR:=(Rat×Rat×Rat×Rat)×Rat×Rat×Rat×Rat
def wq (q:Rat):WR:=((q,0,0,0),0,0,0,0)
theorem Zwh (q:Rat):ZBc q=some (wq q):=by
 unfold ZBc ZZe Z0;rfl
def sq (q:Rat):SR:=(q,0,0,0)
theorem ZJr (q:Rat):ZZe q=some (sq q):=by unfold ZZe Z0;rfl
noncomputable def ZCo (x:Rat) (y:Rat):Option (Rat) :=
 bnd (ZSb x) λa =>
 bnd (ZSb y) λb =>
 bnd (Zoa x.num.natAbs b) λc =>
 bnd (Zoa y.num.natAbs a) λd =>
 ifb ((decide (x.num<0))==(decide (y.num<0)))
 (bnd (ZPh c d) λe =>
 bnd (Zoa a b) λf =>
 bnd (Zib (decide (x.num<0)) e f) λg =>
 some g)
 (bnd (Zod c d) λh =>
 ifb (decide ((0:Int)≤h))
 (bnd (Zcc c d) λi =>
 bnd (Zoa a b) λj =>
 bnd (Zib (decide (x.num<0)) i j) λk =>
 some k)
 (bnd (Zcc d c) λl =>
 bnd (Zoa a b) λm =>
 bnd (Zib (decide (y.num<0)) l m) λn =>
 some n))
noncomputable def Zwt (x:Rat) (y:Rat):Option (Rat) :=
 bnd (Zoa x.num.natAbs y.num.natAbs) λa =>
 bnd (ZSb x) λb =>
 bnd (ZSb y) λc =>
 bnd (Zoa b c) λd =>
 bnd (Zib ((decide (x.num<0)) != (decide (y.num<0))) a d) λe =>
 some e
noncomputable def Z9b (x:Rat×Rat×Rat×Rat) (y:Rat×Rat×Rat×Rat):Option (Rat×Rat×Rat×Rat) :=
 bnd (Z0 (0:Int)) λb =>
 bnd (ZZe b) λa =>
 bnd (Z4 x.1 y.1) λc =>
 bnd (Zha a.1 c) λd =>
 bnd (Z4 x.1 y.2.1) λe =>
 bnd (Zha a.2.1 e) λf =>
 bnd (Z4 x.1 y.2.2.1) λg =>
 bnd (Zha a.2.2.1 g) λh =>
 bnd (Z4 x.1 y.2.2.2) λi =>
 bnd (Zha a.2.2.2 i) λj =>
 bnd (Z4 x.2.1 y.1) λk =>
 bnd (Zha f k) λl =>
 bnd (Z4 x.2.1 y.2.1) λm =>
 bnd (Z0 (2:Int)) λn =>
 bnd (Z4 m n) λo =>
 bnd (Zha d o) λp =>
 bnd (Z4 x.2.1 y.2.2.1) λq =>
 bnd (Zha j q) λr =>
 bnd (Z4 x.2.1 y.2.2.2) λs =>
 bnd (Z0 (2:Int)) λt =>
 bnd (Z4 s t) λu =>
 bnd (Zha h u) λv =>
 bnd (Z4 x.2.2.1 y.1) λw =>
 bnd (Zha v w) λz =>
 bnd (Z4 x.2.2.1 y.2.1) λA =>
 bnd (Zha r A) λB =>
 bnd (Z4 x.2.2.1 y.2.2.1) λC =>
 bnd (Z0 (3:Int)) λD =>
 bnd (Z4 C D) λE =>
 bnd (Zha p E) λF =>
 bnd (Z4 x.2.2.1 y.2.2.2) λG =>
 bnd (Z0 (3:Int)) λH =>
 bnd (Z4 G H) λI =>
 bnd (Zha l I) λJ =>
 bnd (Z4 x.2.2.2 y.1) λK =>
 bnd (Zha B K) λL =>
 bnd (Z4 x.2.2.2 y.2.1) λM =>
 bnd (Z0 (2:Int)) λN =>
 bnd (Z4 M N) λO =>
 bnd (Zha z O) λP =>
 bnd (Z4 x.2.2.2 y.2.2.1) λQ =>
 bnd (Z0 (3:Int)) λR =>
 bnd (Z4 Q R) λS =>
 bnd (Zha J S) λT =>
 bnd (Z4 x.2.2.2 y.2.2.2) λU =>
 bnd (Z0 (2:Int)) λV =>
 bnd (Z4 U V) λW =>
 bnd (Z0 (3:Int)) λX =>
 bnd (Z4 W X) λY =>
 bnd (Zha F Y) λZ =>
 some (Z,T,P,L)
noncomputable def ZVd (x:Rat×Rat×Rat×Rat) (y:Rat×Rat×Rat×Rat):Option (Rat×Rat×Rat×Rat) :=
 bnd (Zha x.1 y.1) λa =>
 bnd (Zha x.2.1 y.2.1) λb =>
 bnd (Zha x.2.2.1 y.2.2.1) λc =>
 bnd (Zha x.2.2.2 y.2.2.2) λd =>
 some (a,b,c,d)
noncomputable def Z5o (x:Rat):Option (Rat) :=
 bnd (ZSb x) λa =>
 bnd (Zib (!(decide (x.num<0))) x.num.natAbs a) λb =>
 some b
noncomputable def ZGd (x:Rat×Rat×Rat×Rat):Option (Rat×Rat×Rat×Rat) :=
 bnd (ZIb x.1) λa =>
 bnd (ZIb x.2.1) λb =>
 bnd (ZIb x.2.2.1) λc =>
 bnd (ZIb x.2.2.2) λd =>
 some (a,b,c,d)
noncomputable def Zbf (x:Rat×Rat×Rat×Rat) (y:Rat×Rat×Rat×Rat):Option (Rat×Rat×Rat×Rat) :=
 bnd (ZGd y) λa =>
 bnd (ZVd x a) λb =>
 some b
noncomputable def ZTg (x:Rat×Rat×Rat×Rat):Option Bool :=
 bnd (α:=Bool)
 (bnd (ZHc x.1) λa =>
 ifb a
 (bnd (ZHc x.2.1) λb =>
 ifb b
 (bnd (ZHc x.2.2.1) λc =>
 ifb c
 (bnd (ZHc x.2.2.2) λd =>
 some d)
 (some false))
 (some false))
 (some false)) λe =>
 some e
theorem mz1 {k:Nat} {y:Rat} (h:sz k y) (hk:k≤900000000):Z4 0 y=some 0:=by rw[Zho ZH h (by omega),Rat.zero_mul]
theorem mz2 {k:Nat} {y:Rat} (h:sz k y) (hk:k≤900000000):Z4 y 0=some 0:=by rw[Zho h ZH (by omega),Rat.mul_zero]
theorem az1 {k:Nat} {y:Rat} (h:sz k y) (hk:k≤900000000):Zha 0 y=some y:=by rw[ZWo ZH h (by omega),Rat.zero_add]
theorem az2 {k:Nat} {y:Rat} (h:sz k y) (hk:k≤900000000):Zha y 0=some y:=by rw[ZWo h ZH (by omega),Rat.add_zero]
theorem Zfk (n:Int) (h:0≤n∧n≤9):sz 64 (n:Rat):=Zzt ⟨by omega,by omega⟩
theorem ZLk {k m:Nat} {x y:Rat} (hx:sz k x) (hy:sz m y) (hk:k+m≤800000000):Z9b (sq x) (sq y)=some (sq (x*y)):=by
 have e1:=Zho hx hy (by omega);have e2:=mz2 hx (by omega);have e3:=mz1 hy (by omega);have e4:=mz1 ZH (by omega);have e5:=mz1 (Zfk 2 (by omega)) (by omega);have e6:=mz1 (Zfk 3 (by omega)) (by omega);have a1:=az1 (Zxa hx hy) (by omega);have a2:=az2 (Zxa hx hy) (by omega);have a3:=az1 ZH (by omega);have r:∀ n:Int,Z0 n=some (n:Rat):=λn=>rfl;have z:((0:Int):Rat)=0:=rfl;unfold Z9b sq;simp only[r,Za,z,ZJr,sq,e1,e2,e3,e4,e5,e6,a1,a2,a3]
theorem Zfp {k:Nat} {x:Rat} (h:sz k x) (hk:k≤900000000):ZIb x=some (-x):=by unfold ZIb;rw[iP (h.ok (by omega))]
theorem Zei:ZIb 0=some 0:=by rw[Zfp ZH (by omega)];rfl
theorem ZJs {k:Nat} {x:Rat} (h:sz k x) (hk:k≤900000000):ZGd (sq x)=some (sq (-x)):=by
 unfold ZGd sq;simp only[Zfp h hk,Zei,Za]
theorem sNeg0:ZGd (sq 0)=some (sq 0):=by rw[ZJs ZH (by omega)];rfl
theorem ZOl {k m:Nat} {x y:Rat} (hx:sz k x) (hy:sz m y) (hk:k+m≤800000000):ZVd (sq x) (sq y)=some (sq (x+y)):=by
 unfold ZVd sq;simp only[ZWo hx hy (by omega),az1 ZH (by omega),Za]
theorem sSub_sq {k m:Nat} {x y:Rat} (hx:sz k x) (hy:sz m y) (hk:k+m≤800000000):Zbf (sq x) (sq y)=some (sq (x-y)):=by
 unfold Zbf;rw[ZJs hy (by omega),Za,ZOl hx (ZLg hy) hk,Za,Rat.sub_eq_add_neg]
theorem ZQr (x:Rat):ZTg (sq x)=some (decide (x=0)):=by
 unfold ZTg sq ZHc;by_cases h:x=0
 ·simp only[h,decide_true,Za,Ze]
 ·simp only[h,decide_false,Za,Zd]
noncomputable def rby_m (x:Rat) (y:Rat):Option (Rat) :=
 bnd (Zsj x y) λa =>
 some a.1
noncomputable def Z0f (x:Rat×Rat×Rat×Rat) (bit:Int):Option (Rat×Rat×Rat×Rat) :=
 bnd (α:=Rat×Rat×Rat×Rat)
 (ifb ((Z8 .i64 (0:Int) bit) != (0:Int))
 (bnd (ZIb x.1) λd =>
 some (d,x.2))
 (some x)) λc =>
 bnd (α:=Rat×Rat×Rat×Rat)
 (ifb ((Z8 .i64 (1:Int) bit) != (0:Int))
 (bnd (ZIb c.2.1) λe =>
 some (c.1,e,c.2.2))
 (some c)) λa =>
 bnd (α:=Rat×Rat×Rat×Rat)
 (ifb ((Z8 .i64 (2:Int) bit) != (0:Int))
 (bnd (ZIb a.2.2.1) λf =>
 some (a.1,a.2.1,f,a.2.2.2))
 (some a)) λb =>
 bnd (α:=Rat×Rat×Rat×Rat)
 (ifb ((Z8 .i64 (3:Int) bit) != (0:Int))
 (bnd (ZIb b.2.2.2) λg =>
 some (b.1,b.2.1,b.2.2.1,g))
 (some b)) λh =>
 some h
noncomputable def ZMi (x:Rat×Rat×Rat×Rat) (y:Rat×Rat×Rat×Rat):Option ((Rat×Rat×Rat×Rat)×Int) :=
 bnd (ZTg y) λd =>
 ifb d
 (bnd (Z0 (0:Int)) λe =>
 bnd (ZZe e) λf =>
 some (f,(3:Int)))
 (bnd (Z0f y (1:Int)) λg =>
 bnd (Z0f y (2:Int)) λh =>
 bnd (Z9b g h) λi =>
 bnd (Z0f y (1:Int)) λj =>
 bnd (Z0f j (2:Int)) λk =>
 bnd (Z9b i k) λc =>
 bnd (Z9b y c) λa =>
 bnd (Z9b x c) λb =>
 bnd (ZFd b.1 a.1) λl =>
 bnd (ZFd b.2.1 a.1) λm =>
 bnd (ZFd b.2.2.1 a.1) λn =>
 bnd (ZFd b.2.2.2 a.1) λo =>
 some ((l,m,n,o),(0:Int)))
noncomputable def Zhj (x:(Rat×Rat×Rat×Rat)×Rat×Rat×Rat×Rat):Option ((Rat×Rat×Rat×Rat)×Rat×Rat×Rat×Rat) :=
 bnd (ZGd x.2) λa =>
 some (x.1,a)
noncomputable def ZId (x:(Rat×Rat×Rat×Rat)×Rat×Rat×Rat×Rat) (y:(Rat×Rat×Rat×Rat)×Rat×Rat×Rat×Rat):Option ((Rat×Rat×Rat×Rat)×Rat×Rat×Rat×Rat) :=
 bnd (Z9b x.1 y.1) λa =>
 bnd (Z9b x.2 y.2) λb =>
 bnd (Zbf a b) λc =>
 bnd (Z9b x.1 y.2) λd =>
 bnd (Z9b x.2 y.1) λe =>
 bnd (ZVd d e) λf =>
 some (c,f)
noncomputable def Z5h (x:(Rat×Rat×Rat×Rat)×Rat×Rat×Rat×Rat):Option (Rat×Rat×Rat×Rat) :=
 bnd (Z9b x.1 x.1) λa =>
 bnd (Z9b x.2 x.2) λb =>
 bnd (ZVd a b) λc =>
 some c
noncomputable def Z7f (x:(Rat×Rat×Rat×Rat)×Rat×Rat×Rat×Rat):Option Bool :=
 bnd (α:=Bool)
 (bnd (ZTg x.1) λa =>
 ifb a
 (bnd (ZTg x.2) λb =>
 some b)
 (some false)) λc =>
 some c
noncomputable def ZOn (x:(Rat×Rat×Rat×Rat)×Rat×Rat×Rat×Rat) (y:(Rat×Rat×Rat×Rat)×Rat×Rat×Rat×Rat):Option (((Rat×Rat×Rat×Rat)×Rat×Rat×Rat×Rat)×Int) :=
 bnd (Z7f y) λb =>
 ifb b
 (bnd (Z0 (0:Int)) λc =>
 bnd (ZBc c) λd =>
 some (d,(3:Int)))
 (bnd (Zhj y) λe =>
 bnd (ZId x e) λa =>
 bnd (Z5h y) λf =>
 bnd (ZMi a.1 f) λg =>
 bnd (Z5h y) λh =>
 bnd (ZMi a.2 h) λi =>
 some ((g.1,i.1),(0:Int)))
noncomputable def ZKk (x:(Rat×Rat×Rat×Rat)×Rat×Rat×Rat×Rat) (y:(Rat×Rat×Rat×Rat)×Rat×Rat×Rat×Rat):Option ((Rat×Rat×Rat×Rat)×Rat×Rat×Rat×Rat) :=
 bnd (ZOn x y) λa =>
 some a.1
noncomputable def Zil (x:(Rat×Rat×Rat×Rat)×Rat×Rat×Rat×Rat) (y:(Rat×Rat×Rat×Rat)×Rat×Rat×Rat×Rat):Option ((Rat×Rat×Rat×Rat)×Rat×Rat×Rat×Rat) :=
 bnd (Zbf x.1 y.1) λa =>
 bnd (Zbf x.2 y.2) λb =>
 some (a,b)
noncomputable def Z9e (x:(Rat×Rat×Rat×Rat)×Rat×Rat×Rat×Rat) (y:(Rat×Rat×Rat×Rat)×Rat×Rat×Rat×Rat):Option ((Rat×Rat×Rat×Rat)×Rat×Rat×Rat×Rat) :=
 bnd (ZVd x.1 y.1) λa =>
 bnd (ZVd x.2 y.2) λb =>
 some (a,b)
noncomputable def ZBk (x:(Rat×Rat×Rat×Rat)×Rat×Rat×Rat×Rat):Option ((Rat×Rat×Rat×Rat)×Rat×Rat×Rat×Rat) :=
 bnd (ZGd x.1) λa =>
 bnd (ZGd x.2) λb =>
 some (a,b)
noncomputable def Z4d  : Option ((Rat×Rat×Rat×Rat)×Rat×Rat×Rat×Rat) :=
 bnd (Z0 (0:Int)) λa =>
 bnd (ZBc a) λb =>
 some b
theorem Z4a (q:Rat):wq q=(sq q,sq 0):=rfl
theorem ZFf (x:Rat):Z7f (wq x)=some (decide (x=0)):=by
 rw[Z4a];unfold Z7f;simp only[ZQr,Za];by_cases h:x=0
 ·simp only[h,decide_true,Ze,Za]
 ·simp only[h,decide_false,Zd,Za]
theorem wMul_wq {k m:Nat} {x y:Rat} (hx:sz k x) (hy:sz m y) (hk:k+m≤700000000):ZId (wq x) (wq y)=some (wq (x*y)):=by
 rw[Z4a,Z4a,Z4a];unfold ZId;simp only[ZLk hx hy (by omega),ZLk ZH ZH (by omega),ZLk hx ZH (by omega),ZLk ZH hy (by omega),Za,Rat.zero_mul,Rat.mul_zero,sSub_sq (Zxa hx hy) ZH (by omega),ZOl ZH ZH (by omega)];rw[show x*y-0=x*y by grind,show (0:Rat)+0=0 by grind]
theorem wAdd_wq {k m:Nat} {x y:Rat} (hx:sz k x) (hy:sz m y) (hk:k+m≤700000000):Z9e (wq x) (wq y)=some (wq (x+y)):=by
 rw[Z4a,Z4a,Z4a];unfold Z9e;simp only[ZOl hx hy (by omega),ZOl ZH ZH (by omega),Za];rw[show (0:Rat)+0=0 by grind]
theorem Zyq (x:Rat):Zhj (wq x)=some (wq x):=by
 rw[Z4a];unfold Zhj;simp only[sNeg0,Za]
theorem ZGt (x:Rat) (b:Int) (hb:b=1∨b=2):Z0f (sq x) b=some (sq x):=by
 have h0:((Z8 .i64 (0:Int) b) != (0:Int))=false:=by rcases hb with rfl | rfl <;> decide
 unfold Z0f;rw[h0,Zd,Za];have n0:∀ (q:Bool) (p:SR),(bnd (α:=SR) (ifb q (bnd (ZIb 0) λy3=>some (p.1,y3,p.2.2)) (some p)) λz=>some z)=if q then some (p.1,0,p.2.2) else some p:=λq p=>by cases q <;> simp[Ze,Zd,Zei,Za]
 unfold sq;rcases hb with rfl | rfl
 ·rw[show ((Z8 .i64 (1:Int) 1) != (0:Int))=true by decide,show ((Z8 .i64 (2:Int) 1) != (0:Int))=false by decide,show ((Z8 .i64 (3:Int) 1) != (0:Int))=true by decide];simp only[Ze,Zd,Zei,Za]
 ·rw[show ((Z8 .i64 (1:Int) 2) != (0:Int))=false by decide,show ((Z8 .i64 (2:Int) 2) != (0:Int))=true by decide,show ((Z8 .i64 (3:Int) 2) != (0:Int))=true by decide];simp only[Ze,Zd,Zei,Za]
theorem Zml {a b:Rat} (ha:a≠0) (hb:b≠0):a*b≠0:=λh=>by rcases Rat.mul_eq_zero.1 h with h | h <;> contradiction
theorem Zbg:Z4d=some (wq 0):=by
 unfold Z4d Z0;rw[Za,Zwh,Za];rfl
theorem Zhm {k m:Nat} {x y:Rat} (h:sz k x) (h':sz m y) (hk:k+m≤68000000000):Zha x y=some (x+y):=by unfold Zha;rw[iP ⟨h.sm (by omega),h'.sm (by omega)⟩]
theorem ZQm {k m:Nat} {x y:Rat} (h:sz k x) (h':sz m y) (hk:k+m≤68000000000):Z4 x y=some (x*y):=by unfold Z4;rw[iP ⟨h.sm (by omega),h'.sm (by omega)⟩]
theorem rby_okB {k m:Nat} {x y:Rat} (h:sz k x) (h':sz m y) (hk:k+m≤68000000000) (hy:y≠0):ZFd x y=some (x / y):=by unfold ZFd;rw[iP ⟨h.sm (by omega),h'.sm (by omega)⟩,iN hy]
theorem mz1B {k:Nat} {y:Rat} (h:sz k y) (hk:k≤60000000000):Z4 0 y=some 0:=by rw[ZQm ZH h (by omega),Rat.zero_mul]
theorem mz2B {k:Nat} {y:Rat} (h:sz k y) (hk:k≤60000000000):Z4 y 0=some 0:=by rw[ZQm h ZH (by omega),Rat.mul_zero]
theorem az1B {k:Nat} {y:Rat} (h:sz k y) (hk:k≤60000000000):Zha 0 y=some y:=by rw[Zhm ZH h (by omega),Rat.zero_add]
theorem az2B {k:Nat} {y:Rat} (h:sz k y) (hk:k≤60000000000):Zha y 0=some y:=by rw[Zhm h ZH (by omega),Rat.add_zero]
theorem Z6d {k m:Nat} {x y:Rat} (hx:sz k x) (hy:sz m y) (hk:k+m≤55000000000):Z9b (sq x) (sq y)=some (sq (x*y)):=by
 have e1:=ZQm hx hy (by omega);have e2:=mz2B hx (by omega);have e3:=mz1B hy (by omega);have e4:=mz1B ZH (by omega);have e5:=mz1B (Zfk 2 (by omega)) (by omega);have e6:=mz1B (Zfk 3 (by omega)) (by omega);have a1:=az1B (Zxa hx hy) (by omega);have a2:=az2B (Zxa hx hy) (by omega);have a3:=az1B ZH (by omega);have r:∀ n:Int,Z0 n=some (n:Rat):=λn=>rfl;have z:((0:Int):Rat)=0:=rfl;unfold Z9b sq;simp only[r,Za,z,ZJr,sq,e1,e2,e3,e4,e5,e6,a1,a2,a3]
theorem Zkv {k:Nat} {x:Rat} (h:sz k x) (hk:k≤60000000000):ZIb x=some (-x):=by unfold ZIb;rw[iP (h.ok (by omega))]
theorem Zct {k:Nat} {x:Rat} (h:sz k x) (hk:k≤60000000000):ZGd (sq x)=some (sq (-x)):=by
 unfold ZGd sq;simp only[Zkv h hk,Zei,Za]
theorem ZTi {k m:Nat} {x y:Rat} (hx:sz k x) (hy:sz m y) (hk:k+m≤55000000000):ZVd (sq x) (sq y)=some (sq (x+y)):=by
 unfold ZVd sq;simp only[Zhm hx hy (by omega),az1B ZH (by omega),Za]
theorem Z5m {k m:Nat} {x y:Rat} (hx:sz k x) (hy:sz m y) (hk:k+m≤55000000000):Zbf (sq x) (sq y)=some (sq (x-y)):=by
 unfold Zbf;rw[Zct hy (by omega),Za,ZTi hx (ZLg hy) hk,Za,Rat.sub_eq_add_neg]
theorem Zgk {k m:Nat} {x y:Rat} (hx:sz k x) (hy:sz m y) (hk:k+m≤50000000000):ZId (wq x) (wq y)=some (wq (x*y)):=by
 rw[Z4a,Z4a,Z4a];unfold ZId;simp only[Z6d hx hy (by omega),Z6d ZH ZH (by omega),Z6d hx ZH (by omega),Z6d ZH hy (by omega),Za,Rat.zero_mul,Rat.mul_zero,Z5m (Zxa hx hy) ZH (by omega),ZTi ZH ZH (by omega)];rw[show x*y-0=x*y by grind,show (0:Rat)+0=0 by grind]
theorem Znr {k m:Nat} {x y:Rat} (hx:sz k x) (hy:sz m y) (hk:k+m≤50000000000):Z9e (wq x) (wq y)=some (wq (x+y)):=by
 rw[Z4a,Z4a,Z4a];unfold Z9e;simp only[ZTi hx hy (by omega),ZTi ZH ZH (by omega),Za];rw[show (0:Rat)+0=0 by grind]
theorem Zpz {k m:Nat} {x y:Rat} (hx:sz k x) (hy:sz m y) (hk:k+m≤50000000000):Zil (wq x) (wq y)=some (wq (x-y)):=by
 rw[Z4a,Z4a,Z4a];unfold Zil;simp only[Z5m hx hy (by omega),Z5m ZH ZH (by omega),Za];rw[show (0:Rat)-0=0 by grind]
theorem Z9x {k:Nat} {x:Rat} (hx:sz k x) (hk:k≤50000000000):ZBk (wq x)=some (wq (-x)):=by
 rw[Z4a,Z4a];unfold ZBk;simp only[Zct hx (by omega),sNeg0,Za]
theorem Z4x {k:Nat} {x:Rat} (hx:sz k x) (hk:2*k≤50000000000):Z5h (wq x)=some (sq (x*x)):=by
 rw[Z4a];unfold Z5h;simp only[Z6d hx hx (by omega),Z6d ZH ZH (by omega),Za,Rat.zero_mul,ZTi (Zxa hx hx) ZH (by omega)];rw[show x*x+0=x*x by grind]
theorem ZPq {k m:Nat} {x y:Rat} (hx:sz k x) (hy:sz m y) (hk:k+7*m≤50000000000) (h0:y≠0):ZMi (sq x) (sq y)=some (sq (x / y),0):=by
 unfold ZMi;have c2:=Zxa hy hy;have c3:=Zxa c2 hy;have c4:=Zxa hy c3;have n3:=Zxa hx c3;have hn:y*(y*y*y)≠0:=by
  exact Zml h0 (Zml (Zml h0 h0) h0)
 rw[ZQr,Za,dFq h0,Zd];simp only[ZGt y 1 (.inl rfl),ZGt y 2 (.inr rfl),Za,Z6d hy hy (by omega),Z6d c2 hy (by omega),Z6d hy c3 (by omega),Z6d hx c3 (by omega)];have e:∀ {j:Nat} {q:Rat},sz j q→j+4*m≤60000000000→ZFd q (y*(y*y*y))=some (q / (y*(y*y*y))):=λh hj=>rby_okB h c4 (by omega) hn;unfold sq;simp only[e n3 (by omega),e ZH (by omega),Za];rw[show x*(y*y*y) / (y*(y*y*y))=x / y by grind,show (0:Rat) / (y*(y*y*y))=0 by grind]
theorem ZKw {k m:Nat} {x y:Rat} (hx:sz k x) (hy:sz m y) (hk:k+15*m≤40000000000) (h0:y≠0):ZKk (wq x) (wq y)=some (wq (x / y)):=by
 unfold ZKk ZOn;have h1:y*y≠0:=Zml h0 h0;rw[ZFf,Za,dFq h0,Zd,Zyq,Za,Zgk hx hy (by omega),Za,Z4x hy (by omega),Za];have e1:=ZPq (Zxa hx hy) (Zxa hy hy) (by omega) h1;have e2:=ZPq (x:=0) ZH (Zxa hy hy) (by omega) h1;simp only[Z4a,e1,e2,Za];rw[show x*y / (y*y)=x / y by grind,show (0:Rat) / (y*y)=0 by grind]
noncomputable def Zpi (m:List (List ((Rat×Rat×Rat×Rat)×Rat×Rat×Rat×Rat))) (columns:Int):Option ((List (List ((Rat×Rat×Rat×Rat)×Rat×Rat×Rat×Rat)))×(List Int)) :=
 bnd (Zh (σ:=(List (List ((Rat×Rat×Rat×Rat)×Rat×Rat×Rat×Rat)))×Int) (ρ:=List (List ((Rat×Rat×Rat×Rat)×Rat×Rat×Rat×Rat))) (λf =>
 ifb (decide (f.2<(m.length:Int)))
 (bnd (idx m f.2) λh =>
 bnd (Zy 448 (([]:List ((Rat×Rat×Rat×Rat)×Rat×Rat×Rat×Rat))++h)) λ_ =>
 bnd (Zy 24 (f.1++[([]:List ((Rat×Rat×Rat×Rat)×Rat×Rat×Rat×Rat))++h])) λ_ =>
 bnd (chk .i64 (f.2+(1:Int))) λn =>
 some (.inl (f.1++[([]:List ((Rat×Rat×Rat×Rat)×Rat×Rat×Rat×Rat))++h],n)))
 (some (.inr f.1)))
  Zj (([]:List (List ((Rat×Rat×Rat×Rat)×Rat×Rat×Rat×Rat))),(0:Int))) λo =>
 bnd (Zh (σ:=(List Int)×Int×(List (List ((Rat×Rat×Rat×Rat)×Rat×Rat×Rat×Rat)))) (ρ:=(List Int)×(List (List ((Rat×Rat×Rat×Rat)×Rat×Rat×Rat×Rat)))) (λa =>
 ifb (decide (a.2.1<columns))
 (bnd (α:=(List Int)×(List (List ((Rat×Rat×Rat×Rat)×Rat×Rat×Rat×Rat))))
 (bnd (Zh (σ:=Int) (ρ:=Int) (λg =>
 bnd (α:=Bool)
 (ifb (decide (g<(a.2.2.length:Int)))
 (bnd (idx a.2.2 g) λp =>
 bnd (idx p a.2.1) λq =>
 bnd (Z7f q) λr =>
 some r)
 (some false)) λs =>
 ifb s
 (bnd (chk .i64 (g+(1:Int))) λt =>
 some (.inl t))
 (some (.inr g)))
      Zj (a.1.length:Int)) λe =>
 ifb (e==(a.2.2.length:Int))
 (some (a.1,a.2.2))
 (bnd (idx a.2.2 (a.1.length:Int)) λR =>
 bnd (idx a.2.2 e) λS =>
 bnd (idx a.2.2 e) λT =>
 bnd (idx a.2.2 (a.1.length:Int)) λU =>
 bnd (eqN ((a.1.length:Int).toNat) ((a.1.length:Int).toNat)) λ_ =>
 bnd (eqN e.toNat e.toNat) λ_ =>
 bnd (idx (Zub a.2.2 e.toNat ((a.1.length:Int).toNat)) (a.1.length:Int)) λu =>
 bnd (idx u a.2.1) λv =>
 bnd (Zh (σ:=Int×(List (List ((Rat×Rat×Rat×Rat)×Rat×Rat×Rat×Rat)))) (ρ:=List (List ((Rat×Rat×Rat×Rat)×Rat×Rat×Rat×Rat))) (λd =>
 bnd (idx d.2 (a.1.length:Int)) λw =>
 ifb (decide (d.1<(w.length:Int)))
 (bnd (idx d.2 (a.1.length:Int)) λi =>
 bnd (idx d.2 (a.1.length:Int)) λx =>
 bnd (idx x d.1) λy =>
 bnd (ZKk y v) λz =>
 bnd (idx i d.1) λV =>
 bnd (chk .i64 (d.1+(1:Int))) λA =>
 some (.inl (A,d.2.set ((a.1.length:Int).toNat) (i.set d.1.toNat z))))
 (some (.inr d.2)))
       Zj ((0:Int),Zub a.2.2 e.toNat ((a.1.length:Int).toNat))) λB =>
 bnd (Zh (σ:=Int×(List (List ((Rat×Rat×Rat×Rat)×Rat×Rat×Rat×Rat)))) (ρ:=List (List ((Rat×Rat×Rat×Rat)×Rat×Rat×Rat×Rat))) (λb =>
 ifb (decide (b.1<(b.2.length:Int)))
 (bnd (α:=List (List ((Rat×Rat×Rat×Rat)×Rat×Rat×Rat×Rat)))
 (ifb (b.1==(a.1.length:Int))
 (some b.2)
 (bnd (idx b.2 b.1) λC =>
 bnd (idx C a.2.1) λD =>
 bnd (Zh (σ:=Int×(List (List ((Rat×Rat×Rat×Rat)×Rat×Rat×Rat×Rat)))) (ρ:=List (List ((Rat×Rat×Rat×Rat)×Rat×Rat×Rat×Rat))) (λc =>
 bnd (idx c.2 b.1) λE =>
 ifb (decide (c.1<(E.length:Int)))
 (bnd (idx c.2 b.1) λj =>
 bnd (idx c.2 b.1) λF =>
 bnd (idx F c.1) λG =>
 bnd (idx c.2 (a.1.length:Int)) λH =>
 bnd (idx H c.1) λI =>
 bnd (ZId D I) λJ =>
 bnd (Zil G J) λK =>
 bnd (idx j c.1) λW =>
 bnd (chk .i64 (c.1+(1:Int))) λL =>
 some (.inl (L,c.2.set b.1.toNat (j.set c.1.toNat K))))
 (some (.inr c.2)))
            Zj ((0:Int),b.2)) λM =>
 some M)) λN =>
 bnd (chk .i64 (b.1+(1:Int))) λO =>
 some (.inl (O,N)))
 (some (.inr b.2)))
       Zj ((0:Int),B)) λP =>
 bnd (Zy 8 (a.1++[a.2.1])) λ_ =>
 some (a.1++[a.2.1],P))) λk =>
 bnd (chk .i64 (a.2.1+(1:Int))) λQ =>
 some (.inl (k.1,Q,k.2)))
 (some (.inr (a.1,a.2.2))))
  Zj (([]:List Int),(0:Int),o)) λl =>
 some (l.2,l.1)
def mxW (R n:Nat) (M:Mx):List (List WR):=vx R λi=>vx n λj=>wq (M i j)
theorem Zza (R n:Nat) (M:Mx):(mxW R n M).length=R:=Zw _ _
theorem ZCa {R n i:Nat} (M:Mx) (h:i<R):idx (mxW R n M) (i:Int)=some (vx n λj=>wq (M i j)):=ZF _ h
theorem ZBa {n i:Nat} (f:Nat→Rat) (h:i<n):idx (vx n λj=>wq (f j)) (i:Int)=some (wq (f i)):=ZF (λj=>wq (f j)) h
theorem Zec {R n:Nat} {M M':Mx} (h:∀ i,i<R→∀ j,j<n→M i j=M' i j):mxW R n M=mxW R n M':=ZG λi hi=>ZG λj hj=>by rw[h i hi j hj]
theorem ZEj {R n:Nat} (M:Mx) (i j:Nat) (a:Rat):(mxW R n M).set i ((vx n λl=>wq (M i l)).set j (wq a))=mxW R n (λk l=>if k=i then (if l=j then a else M i l) else M k l):=by
 unfold mxW;rw[Zea,Zea];refine ZG λk hk=>?_;by_cases e:k=i
 ·simp only[iP e];refine ZG λl hl=>?_;by_cases e2:l=j
  ·rw[iP e2,iP e2]
  ·rw[iN e2,iN e2]
 ·simp only[iN e]
theorem mw_swap {R n p q:Nat} (M:Mx) (hp:p<R) (hq:q<R):Zub (mxW R n M) p q=mxW R n (λk=>if k=q then M p else if k=p then M q else M k):=by
 unfold Zub mxW;rw[Zvk _ _ hp,Zvk _ _ hq,Zea,Zea];refine ZG λk hk=>?_;by_cases e:k=q
 ·simp only[iP e]
 ·simp only[iN e];by_cases e2:k=p
  ·simp only[iP e2]
  ·simp only[iN e2]
theorem ZOr {δ m r R n c K:Nat} {M0:Mx} (hcn:c≤n) (hcm:c≤m) (hR:R≤1000) (hn:n≤1000) (hK:1≤K) (hz:CdW δ m K R n M0) (hr:∀ k M piv,k≤c→Eli R n M0 M piv k→piv.length≤r) (hk:8*kk K r+2*δ≤39000000000) :
  ∃ z,Zpi (mxW R n M0) (c:Int)=some z∧∃ M piv,z=(mxW R n M,Zja piv)∧Eli R n M0 M piv c∧CdW δ m (kk K r) R n M:=by
 unfold Zpi;refine ZW (y:=mxW R n M0) (Zv (λk=>(vx k λi=>vx n λj=>wq (M0 i j),(k:Int))) R rfl (by omega) (λk hk=>?_) ?_) ?_
 ·simp only;rw[Zza,dTq (by omega),Ze,ZCa _ hk,Za,Z6 (by rw[List.nil_append,Zw];omega),Za,List.nil_append,ZBb k (λi=>vx n λj=>wq (M0 i j)),Z6 (by rw[Zw];omega),Za,Zi (by omega) (by omega),Za];rfl
 ·simp only;rw[Zza,dFq (by omega),Zd];rfl
 refine Zye (λk s=>∃ M piv,s=(Zja piv,(k:Int),mxW R n M)∧Eli R n M0 M piv k∧CdW δ m (kk K piv.length) R n M) (λy=>∃ M piv,y=(Zja piv,mxW R n M)∧Eli R n M0 M piv c∧CdW δ m (kk K r) R n M) c ⟨M0,[],rfl,Eli.start R n M0,by unfold kk;simpa using hz⟩ (by omega) (λk s hkc hi=>?_) (λy hy=>?_)
 ·obtain⟨M,piv,rfl,hI,hC⟩:=hi;have hplk:piv.length≤k:=Zch hI.inc hI.lt;by_cases hlt:k<c
  ·left;have hltn:k<n:=by omega
   have hkk:=Zoc (K:=K) (hr k M piv hkc hI);have hkm:k<m:=by omega
   simp only;rw[dTq (by omega),Ze];have pl:=hI.le
   suffices hx:∃ z,(bnd (α:=(List Int)×(List (List WR))) _ _:Option (((List Int)×Int×(List (List WR))) ⊕ ((List Int)×(List (List WR)))))=some z∧∃ M' piv',z=Sum.inl (Zja piv',((k+1:Nat):Int),mxW R n M')∧Eli R n M0 M' piv' (k+1)∧CdW δ m (kk K piv'.length) R n M' by
    obtain⟨z,h1,M',piv',rfl,h2⟩:=hx;exact⟨_,hlt,h1,M',piv',rfl,h2⟩
   refine Z2l (Q:=λy=>∃ M' piv',y=(Zja piv',mxW R n M')∧Eli R n M0 M' piv' (k+1)∧CdW δ m (kk K piv'.length) R n M') ?_ (λy hy=>?_)
   rotate_left
   ·obtain⟨M',piv',rfl,h2⟩:=hy;exact⟨Sum.inl (Zja piv',((k+1:Nat):Int),mxW R n M'),by rw[Zi (by omega) (by omega),Za];rfl,M',piv',rfl,h2⟩
   refine Zye (λq s=>s=((piv.length+q:Nat):Int)∧∀ i,piv.length≤i→i<piv.length+q→M i k=0) (λy=>∃ p:Nat,y=(p:Int)∧piv.length≤p∧p≤R∧(∀ i,piv.length≤i→i<p→M i k=0)∧(p<R→M p k≠0)) (R-piv.length) ⟨by rw[Zkb];rfl,λi h1 h2=>by omega⟩ (by omega) (λq s hq hs=>?_) (λy hy=>?_)
   ·obtain⟨rfl,hz0⟩:=hs;rw[Zza];by_cases hqR:piv.length+q<R
    ·rw[dTq (by omega),Ze,ZCa _ hqR,Za,ZBa _ hltn,Za,ZFf,Za,Za];by_cases hz1:M (piv.length+q) k=0
     ·left;refine⟨((piv.length+(q+1):Nat):Int),by omega,?_,rfl,λi h1 h2=>?_⟩
      ·rw[dTq hz1,Ze,Zi (by omega) (by omega),Za];rfl
      ·by_cases e:i=piv.length+q
       ·rw[e];exact hz1
       ·exact hz0 i h1 (by omega)
     ·right;refine⟨((piv.length+q:Nat):Int),by rw[dFq hz1,Zd],piv.length+q,rfl,by omega,by omega,hz0,λ_=>hz1⟩
    ·right;refine⟨((piv.length+q:Nat):Int),by rw[dFq (by omega),Zd,Za,Zd],piv.length+q,rfl,by omega,by omega,hz0,λh=>by omega⟩
   ·obtain⟨p,rfl,h1,h2,h3,h4⟩:=hy;rw[Zza];by_cases hpR:p=R
    ·rw[show ((p:Int)==(R:Int))=true by simp[hpR],Ze];exact⟨_,rfl,M,piv,rfl,hI.skip λi g1 g2=>h3 i g1 (by omega),hC⟩
    ·rw[show ((p:Int)==(R:Int))=false by simp;omega,Zd];have pR:p<R:=by omega
     have nz:=h4 pR;have tR:piv.length<R:=by omega
     have Cs:=hC.step h1 pR hkm hltn nz;have hkk1:=Zoc (K:=K) (hr (k+1) _ _ hlt (hI.step (ZPe h1 pR hltn nz)));rw[lA,List.length_singleton,Zpf]at hkk1;rw[Zkb];refine ZW (ZCa _ tR) ?_;refine ZW (ZCa _ pR) ?_;refine ZW (ZCa _ pR) ?_;refine ZW (ZCa _ tR) ?_;simp only[tN];refine ZW (Z6c _) ?_;refine ZW (Z6c _) ?_;have hsw:Zub (mxW R n M) p piv.length=mxW R n (swM M piv.length p):=by rw[mw_swap _ pR tR];rfl
     rw[hsw];have hrow:swM M piv.length p piv.length=M p:=by unfold swM;rw[iP rfl]
     have zf:sz (kk K piv.length) (M p k):=hC.sz0 pR hltn hkm;refine ZW (ZCa _ tR) ?_;rw[hrow];refine ZW (ZBa _ hltn) ?_;refine ZW (y:=mxW R n (Zfa M k piv.length p n)) (Zv (λj=>((j:Int),mxW R n (Zfa M k piv.length p j))) n ?_ (by omega) (λj hj=>?_) ?_) ?_
     ·refine Prod.ext rfl (Zec λi hi j hj=>?_);unfold Zfa;rw[iN (by omega)]
     ·have hr:Zfa M k piv.length p j piv.length j=M p j:=by unfold Zfa swM;rw[iN (by omega),iP rfl]
      simp only;rw[ZCa _ tR,Za,Zw,dTq (by omega),Ze,Za,Za,ZBa _ hj,Za,hr,ZKw (hC.sz pR hj) zf (by omega) nz,Za,Za,Zi (by omega) (by omega),Za];simp only[tN];rw[ZEj];refine congrArg (λx=>some (Sum.inl x)) (Prod.ext (by simp) (Zec λi hi l hl=>?_));unfold Zfa;by_cases e:i=piv.length
      ·rw[iP e];by_cases e2:l=j
       ·rw[iP e2,iP (by omega),e2]
       ·rw[iN e2,e];by_cases e3:l<j
        ·rw[iP (by omega),iP (by omega)]
        ·rw[iN (by omega),iN (by omega)]
      ·rw[iN e,iN (by omega),iN (by omega)]
     ·simp only;rw[ZCa _ tR,Za,Zw,dFq (by omega),Zd]
     refine ZW (y:=mxW R n (Zda M k piv.length p)) (Zv (λi=>((i:Int),mxW R n (ZE M k piv.length p n i 0))) R ?_ (by omega) (λi hi=>?_) ?_) ?_
     ·refine Prod.ext rfl (Zec λi hi j hj=>?_);unfold ZE;rw[iN (by omega)]
     ·simp only;have rd:∀ r l,r≠piv.length→Zfa M k piv.length p n r l=if r=p then M piv.length l else M r l:=λr l hr=>by
       unfold Zfa swM;rw[iN (by omega),iN hr];split <;> rfl
      have top0:∀ i j l,l<n→ZE M k piv.length p n i j piv.length l=M p l / M p k:=λi j l hl=>by
       unfold ZE Zda Zfa;split
       ·rw[iP rfl]
       ·rw[iP ⟨rfl,hl⟩]
      have self0:∀ l,ZE M k piv.length p n i 0 i l=Zfa M k piv.length p n i l:=λl=>by unfold ZE;rw[iN (by omega)]
      rw[Zza,dTq (by omega),Ze];refine Zq (y:=mxW R n (ZE M k piv.length p n (i+1) 0)) ?_ ?_
      ·by_cases e:i=piv.length
       ·rw[show ((i:Int)==(piv.length:Int))=true by simp[e],Ze];refine congrArg some (Zec λr hr l hl=>?_);by_cases e2:r=piv.length
        ·rw[e2,top0 _ _ _ hl,top0 _ _ _ hl]
        ·unfold ZE;by_cases e3:r<i
         ·rw[iP (.inl e3),iP (.inl (by omega))]
         ·rw[iN (by omega),iN (by omega)]
       ·rw[show ((i:Int)==(piv.length:Int))=false by simp;omega,Zd,ZCa _ hi,Za,ZBa _ hltn,Za,self0,rd _ _ e];have zc:sz (kk K piv.length) (if i=p then M piv.length k else M i k):=by split;exact hC.sz0 tR hltn hkm;exact hC.sz0 hi hltn hkm
        refine Zq (Zv (λj=>((j:Int),mxW R n (ZE M k piv.length p n i j))) n rfl (by omega) (λj hj=>?_) ?_) rfl
        ·have zt:sz (2*kk K piv.length+1+δ) (M p j / M p k):=by
          have:=Cs.sz tR hj;unfold Zda at this;rwa [iP rfl]at this
         have zi:sz (kk K piv.length+δ) (if i=p then M piv.length j else M i j):=by split;exact hC.sz tR hj;exact hC.sz hi hj
         have e5:ZE M k piv.length p n i j i j=if i=p then M piv.length j else M i j:=by unfold ZE;rw[iN (by omega),rd _ _ e]
         simp only;rw[ZCa _ hi,Za,Zw,dTq (by omega),Ze,Za,Za,ZBa _ hj,Za,ZCa _ tR,Za,ZBa _ hj,Za,top0 _ _ _ hj,Zgk zc zt (by omega),Za,e5,Zpz zi (Zxa zc zt) (by omega),Za,Za,Zi (by omega) (by omega),Za];simp only[tN];rw[ZEj];refine congrArg (λx=>some (Sum.inl x)) (Prod.ext (by simp) (Zec λr hr l hl=>?_));by_cases e6:r=i
         ·subst e6;rw[iP rfl];by_cases e7:l=j
          ·subst e7;rw[iP rfl];have e9:ZE M k piv.length p n r (l+1) r l=Zda M k piv.length p r l:=by unfold ZE;rw[iP (.inr ⟨rfl,by omega⟩)]
           rw[e9];unfold Zda;rw[iN e]
          ·rw[iN e7];unfold ZE;by_cases e8:l<j
           ·rw[iP (.inr ⟨rfl,e8⟩),iP (.inr ⟨rfl,by omega⟩)]
           ·rw[iN (by omega),iN (by omega)]
         ·rw[iN e6];unfold ZE;by_cases e8:r<i
          ·rw[iP (.inl e8),iP (.inl e8)]
          ·rw[iN (by omega),iN (by omega)]
        ·simp only;rw[ZCa _ hi,Za,Zw,dFq (by omega),Zd];refine congrArg (λx=>some (Sum.inr x)) (Zec λr hr l hl=>?_);unfold ZE;by_cases e8:r<i+1
         ·rw[iP (by omega),iP (by omega)]
         ·rw[iN (by omega),iN (by omega)]
      ·rw[Zi (by omega) (by omega),Za];rfl
     ·simp only;rw[Zza,dFq (by omega),Zd];refine congrArg (λx=>some (Sum.inr x)) (Zec λi hi j hj=>?_);unfold ZE;rw[iP (by omega)]
     refine ZW (y:=()) (Z6 (by simp[Zkb];omega)) ?_;refine⟨_,rfl,Zda M k piv.length p,piv++[k],?_,hI.step (ZPe h1 pR hltn nz),Cs.mono (by rw[lA,List.length_singleton,Zpf];omega)⟩;simp[Zja]
  ·right;obtain rfl:k=c:=by omega
   refine⟨_,by simp only;rw[dFq (by omega),Zd],M,piv,rfl,hI,hC.mono (Zoc (hr k M piv (Nat.le_refl _) hI))⟩
 ·obtain⟨M,piv,rfl,hI,hC⟩:=hy;exact⟨_,rfl,M,piv,rfl,hI,hC⟩
noncomputable def Ztd (m:List (List ((Rat×Rat×Rat×Rat)×Rat×Rat×Rat×Rat))):Option Int :=
 ifb ((m.length:Int)==(0:Int))
 (some (0:Int))
 (bnd (idx m (0:Int)) λa =>
 some (a.length:Int))
noncomputable def ZPd (rows:Int) (columns:Int):Option (List (List ((Rat×Rat×Rat×Rat)×Rat×Rat×Rat×Rat))) :=
 bnd (mk 24 rows rows) λ_ =>
 bnd (Zh (σ:=Int×(List (List ((Rat×Rat×Rat×Rat)×Rat×Rat×Rat×Rat)))) (ρ:=List (List ((Rat×Rat×Rat×Rat)×Rat×Rat×Rat×Rat))) (λa =>
 ifb (decide (a.1<rows))
 (bnd (Zh (σ:=Int×(List (List ((Rat×Rat×Rat×Rat)×Rat×Rat×Rat×Rat)))) (ρ:=List (List ((Rat×Rat×Rat×Rat)×Rat×Rat×Rat×Rat))) (λb =>
 ifb (decide (b.1<columns))
 (bnd (idx b.2 a.1) λc =>
 bnd Z4d λd =>
 bnd (Zy 448 (c++[d])) λ_ =>
 bnd (idx b.2 a.1) λi =>
 bnd (eqN a.1.toNat a.1.toNat) λ_ =>
 bnd (chk .i64 (b.1+(1:Int))) λe =>
 some (.inl (e,b.2.set a.1.toNat (c++[d]))))
 (some (.inr b.2)))
     Zj ((0:Int),a.2)) λf =>
 bnd (chk .i64 (a.1+(1:Int))) λg =>
 some (.inl (g,f)))
 (some (.inr a.2)))
  Zj ((0:Int),List.replicate rows.toNat ([]:List ((Rat×Rat×Rat×Rat)×Rat×Rat×Rat×Rat)))) λh =>
 some h
noncomputable def Zwl  : Option ((Rat×Rat×Rat×Rat)×Rat×Rat×Rat×Rat) :=
 bnd (Z0 (1:Int)) λa =>
 bnd (ZBc a) λb =>
 some b
noncomputable def Zzd (m:List (List ((Rat×Rat×Rat×Rat)×Rat×Rat×Rat×Rat))):Option Bool :=
 bnd (Zh (σ:=Int) (ρ:=Unit ⊕ Bool) (λa =>
 ifb (decide (a<(m.length:Int)))
 (bnd (α:=Bool)
 (bnd (idx m a) λb =>
 bnd (idx m (0:Int)) λc =>
 ifb ((b.length:Int) != (c.length:Int))
 (some true)
 (bnd (idx m a) λd =>
 some (decide ((32:Int)<(d.length:Int))))) λe =>
 ifb e
 (some (.inr (.inr false)))
 (bnd (chk .i64 (a+(1:Int))) λf =>
 some (.inl f)))
 (some (.inr (.inl ()))))
  Zj (0:Int)) λg =>
 match g with
| .inl i=>(some (decide ((m.length:Int)≤(32:Int))))
| .inr h=>(some h)
theorem Zpp (R n:Nat) (M0:Mx):∀ k,k≤n→∃ M piv,Eli R n M0 M piv k:=by
 intro k
 induction k with
 | zero=>exact λ_=>⟨M0,[],Eli.start R n M0⟩
 | succ k ih =>
  intro hk;obtain⟨M,piv,h⟩:=ih (by omega);by_cases hp:∃ p,piv.length≤p∧p<R∧M p k≠0
  ·obtain⟨p,h1,h2,h3⟩:=hp;exact⟨_,_,h.step (ZPe h1 h2 hk h3)⟩
  ·exact⟨M,piv,h.skip λi h1 h2=>Classical.byContradiction λe=>hp ⟨i,h1,h2,e⟩⟩
theorem Z2q {k n:Nat} (h:k≤n) {f:Nat→Rat} (hz:∀ j,k≤j→f j=0):sm n f=sm k f:=by
 induction n with
 | zero =>
  obtain rfl:k=0:=by omega
  rfl
 | succ n ih =>
  by_cases e:k=n+1
  ·rw[e]
  ·show sm n f+f n=sm k f;rw[ih (by omega),hz n (by omega)];grind
theorem Eli.restrict {R n k:Nat} {M0 M:Mx} {piv:List Nat} (h:Eli R n M0 M piv k) (hk:k≤n):Eli R k M0 M piv k:=by
 have ext:∀ (N:Mx) (v:Nat→Rat),Ker R k N v↔Ker R n N (λj=>if j<k then v j else 0):=λN v=>by
  refine forall_congr' λi=>forall_congr' λhi=>?_;have e:sm n (λj=>N i j*(if j<k then v j else 0))=sm k λj=>N i j*v j:=by
   rw[Z2q (k:=k) hk (λj hj=>by rw[iN (by omega)];grind)];exact ZR λj hj=>by rw[iP hj]
  show _↔sm n (λj=>N i j*(if j<k then v j else 0))=0;rw[e]
 refine⟨h.le,h.lt,h.inc,h.one,h.low,h.left,λv=>?_,?_⟩
 ·rw[ext,ext];exact h.ker _
 ·obtain⟨E,hE⟩:=h.rsp;exact⟨E,λi hi j hj=>hE i hi j (by omega)⟩
theorem rank_le {R Q n:Nat} {N N' M:Mx} {piv:List Nat} (h:Eli R n N N' piv n) (hk:∀ v,Ker Q n M v→Ker R n N v):piv.length≤Q:=by
 refine Classical.byContradiction λhc=>?_
 let P:Nat→Nat:=λa=>piv.getD a 0
 have hP:∀ a,a<piv.length→piv[a]? = some (P a):=λa ha=>by
  show piv[a]? = some (piv.getD a 0);rw[List.getD_eq_getElem?_getD,List.getElem?_eq_getElem ha];rfl
 have hPn:∀ a,a<piv.length→P a<n:=λa ha=>h.lt _ (mG (hP a ha));obtain⟨G,pv',hG⟩:=Zpp Q piv.length (λi a=>M i (P a)) piv.length (Nat.le_refl _);obtain⟨u,a,ha,hu,hku⟩:=hG.more (by have:=hG.le;omega)
 let v:Nat→Rat:=λj=>sm piv.length λb=>ind (P b) j*u b
 have hv:Ker Q n M v:=λi hi=>by
  rw[ZR (g:=λj=>sm piv.length λb=>M i j*(ind (P b) j*u b)) λj hj=>by rw[ZFb],Zcj];rw[ZR (g:=λb=>M i (P b)*u b) λb hb=>?_]
  ·exact hku i hi
  ·rw[ZR (g:=λj=>u b*(ind (P b) j*M i j)) λj hj=>by grind,ZFb,ZEd (hPn b hb)];grind
 have hva:v (P a)=u a:=by
  show sm piv.length (λb=>ind (P b) (P a)*u b)=u a;rw[Z3e ha λb hb hne=>?_]
  ·unfold ind;rw[iP rfl];grind
  ·unfold ind;rw[iN λe=>hne (Zkr h.inc (hP b hb) (by rw[← e];exact hP a ha))];grind
 have hoff:∀ j,j ∉ piv→v j=0:=λj hj=>Zvc λb hb=>by
  unfold ind;rw[iN λe=>hj (by rw[e];exact mG (hP b hb))];grind
 have h1:=(h.ker_iff v).1 (hk v hv) a (P a) (hP a ha);rw[Zvc λj hj=>by
  split
  ·rfl
  ·rename_i e;rw[hoff j e];grind,hva]at h1
 exact hu (by grind)
theorem Zit:∀ {l l':List Nat},l.Pairwise (· < ·)→l'.Pairwise (· < ·)→(∀ c,c ∈ l↔c ∈ l')→l=l'
 | [],[],_,_,_=>rfl
 | [],b :: l',_,_,h=>by have:=(h b).2 (by simp);simp at this
 | a :: l,[],_,_,h=>by have:=(h a).1 (by simp);simp at this
 | a :: l,b :: l',h1,h2,h=>by
  have p1:=List.pairwise_cons.1 h1
  have p2:=List.pairwise_cons.1 h2
  have e:a=b:=by
   rcases List.mem_cons.1 ((h a).1 (by simp)) with e | e
   ·exact e
   ·rcases List.mem_cons.1 ((h b).2 (by simp)) with e' | e'
    ·exact e'.symm
    ·have:=p2.1 a e;have:=p1.1 b e';omega
  subst e;rw[Zit p1.2 p2.2 λc=>?_];constructor
  ·intro hc;rcases List.mem_cons.1 ((h c).1 (by simp[hc])) with e | e
   ·subst e;have:=p1.1 c hc;omega
   ·exact e
  ·intro hc;rcases List.mem_cons.1 ((h c).2 (by simp[hc])) with e | e
   ·subst e;have:=p2.1 c hc;omega
   ·exact e
section
variable {R n:Nat} {M0 M N0 N:Mx} {piv piv':List Nat}
theorem Eli.mem_iff (h:Eli R n M0 M piv n) {c:Nat} (hc:c<n):c ∉ piv ↔ ∃ v,Ker R n M0 v∧v c=1∧∀ d,c<d→d<n→v d=0:=by
 constructor
 ·intro hp;refine⟨kv M piv c,h.kv_ker hc hp,Z2h,λd hd hdn=>?_⟩;by_cases hm:d ∈ piv
  ·obtain⟨i,hi⟩:=List.mem_iff_getElem?.1 hm;rw[ZFl h.inc hp hi,h.left i d hi c hd];grind
  ·exact Zzj hm (by omega)
 ·rintro⟨v,hv,h1,h2⟩ hm;obtain⟨i,hi⟩:=List.mem_iff_getElem?.1 hm;have h3:=(h.ker_iff v).1 hv i c hi;rw[Zvc λj hj=>by
   split
   ·rfl
   ·rename_i e;by_cases hjc:j<c
    ·rw[h.left i c hi j hjc];grind
    ·rw[h2 j (by
      rcases Nat.lt_or_ge c j with q | q
      ·exact q
      ·have:j=c:=by omega
       subst this;exact absurd hm e) hj];grind]at h3
  rw[h1]at h3;grind
theorem Eli.piv_eq (h:Eli R n M0 M piv n) (h':Eli R n N0 N piv' n) (hk:∀ v,Ker R n M0 v↔Ker R n N0 v):piv=piv':=by
 refine Zit h.inc h'.inc λc=>?_;have key:c<n→(c ∉ piv↔c ∉ piv'):=λhc=>by
  rw[h.mem_iff hc,h'.mem_iff hc];exact exists_congr λv=>by rw[hk v]
 constructor
 ·intro hm;exact Classical.byContradiction λe=>(key (h.lt c hm)).2 e hm
 ·intro hm;exact Classical.byContradiction λe=>(key (h'.lt c hm)).1 e hm
theorem Eli.unique (h:Eli R n M0 M piv n) (h':Eli R n N0 N piv' n) (hk:∀ v,Ker R n M0 v↔Ker R n N0 v):∀ i,i<R→∀ j,j<n→N i j=M i j:=by
 have hp:=h.piv_eq h' hk;subst hp;intro i hi j hj;by_cases hl:i<piv.length
 ·have hc:piv[i]? = some piv[i]:=List.getElem?_eq_getElem hl;by_cases hm:j ∈ piv
  ·obtain⟨i2,hi2⟩:=List.mem_iff_getElem?.1 hm;rw[h.one i2 j hi2 i hi,h'.one i2 j hi2 i hi]
  ·have h1:=(h'.ker_iff _).1 ((hk _).1 (h.kv_ker hj hm)) i _ hc;rw[ZFl h.inc hm hc,Z3e hj λd hd hne=>by
    split
    ·rfl
    ·rename_i e;rw[Zzj e hne];grind]at h1
   rw[iN hm,Z2h]at h1;grind
 ·rw[h.low i (by omega) hi j hj,h'.low i (by omega) hi j hj]
end
def okM {α:Type} (m:List (List α)):Prop:=m.length≤32∧(m.headD []).length≤32∧∀ r,r ∈ m→r.length=(m.headD []).length
instance {α:Type} (m:List (List α)):Decidable (okM m):=inferInstanceAs (Decidable (_∧_∧_))
theorem ZZg {α:Type} {m:List (List α)} (h:0<m.length):(m.headD []).length=m[0].length:=by
 cases m with
 | nil=>simp at h
 | cons a l=>rfl
noncomputable def ZWl (m:List (List ((Rat×Rat×Rat×Rat)×Rat×Rat×Rat×Rat))):Option ((List (List ((Rat×Rat×Rat×Rat)×Rat×Rat×Rat×Rat)))×Int) :=
 bnd (Zzd m) λi =>
 ifb (!i)
 (some (([]:List (List ((Rat×Rat×Rat×Rat)×Rat×Rat×Rat×Rat))),(4:Int)))
 (bnd (Ztd m) λe =>
 bnd (Zpi m e) λc =>
 bnd (Zh (σ:=(List (List ((Rat×Rat×Rat×Rat)×Rat×Rat×Rat×Rat)))×Int) (ρ:=List (List ((Rat×Rat×Rat×Rat)×Rat×Rat×Rat×Rat))) (λa =>
 ifb (decide (a.2<e))
 (bnd (α:=List (List ((Rat×Rat×Rat×Rat)×Rat×Rat×Rat×Rat)))
 (bnd (Zh (σ:=Bool×Int) (ρ:=Bool) (λd =>
 ifb (decide (d.2<(c.2.length:Int)))
 (bnd (α:=Bool)
 (ifb d.1
 (some true)
 (bnd (idx c.2 d.2) λj =>
 some (j==a.2))) λk =>
 bnd (chk .i64 (d.2+(1:Int))) λl =>
 some (.inl (k,l)))
 (some (.inr d.1)))
       Zj (false,(0:Int))) λn =>
 ifb n
 (some a.1)
 (bnd (ZPd (1:Int) e) λo =>
 bnd (idx o (0:Int)) λf =>
 bnd Zwl λp =>
 bnd (idx f a.2) λx =>
 bnd (Zh (σ:=Int×(List ((Rat×Rat×Rat×Rat)×Rat×Rat×Rat×Rat))) (ρ:=List ((Rat×Rat×Rat×Rat)×Rat×Rat×Rat×Rat)) (λb =>
 ifb (decide (b.1<(c.2.length:Int)))
 (bnd (idx c.2 b.1) λg =>
 bnd (idx c.1 b.1) λq =>
 bnd (idx q a.2) λr =>
 bnd (ZBk r) λs =>
 bnd (idx b.2 g) λy =>
 bnd (chk .i64 (b.1+(1:Int))) λt =>
 some (.inl (t,b.2.set g.toNat s)))
 (some (.inr b.2)))
        Zj ((0:Int),f.set a.2.toNat p)) λh =>
 bnd (Zy 24 (a.1++[h])) λ_ =>
 some (a.1++[h]))) λu =>
 bnd (chk .i64 (a.2+(1:Int))) λv =>
 some (.inl (u,v)))
 (some (.inr a.1)))
   Zj (([]:List (List ((Rat×Rat×Rat×Rat)×Rat×Rat×Rat×Rat))),(0:Int))) λw =>
 some (w,(0:Int)))
noncomputable def ZNg (m:List (List ((Rat×Rat×Rat×Rat)×Rat×Rat×Rat×Rat))) (b:List ((Rat×Rat×Rat×Rat)×Rat×Rat×Rat×Rat)):Option ((List ((Rat×Rat×Rat×Rat)×Rat×Rat×Rat×Rat))×Int) :=
 bnd (α:=Bool)
 (bnd (Zzd m) λn =>
 ifb (!n)
 (some true)
 (some ((b.length:Int) != (m.length:Int)))) λo =>
 ifb o
 (some (([]:List ((Rat×Rat×Rat×Rat)×Rat×Rat×Rat×Rat)),(4:Int)))
 (bnd (Ztd m) λf =>
 bnd (Zh (σ:=(List (List ((Rat×Rat×Rat×Rat)×Rat×Rat×Rat×Rat)))×Int) (ρ:=List (List ((Rat×Rat×Rat×Rat)×Rat×Rat×Rat×Rat))) (λa =>
 ifb (decide (a.2<(m.length:Int)))
 (bnd (idx m a.2) λg =>
 bnd (Zy 448 (([]:List ((Rat×Rat×Rat×Rat)×Rat×Rat×Rat×Rat))++g)) λ_ =>
 bnd (idx b a.2) λh =>
 bnd (Zy 448 ((([]:List ((Rat×Rat×Rat×Rat)×Rat×Rat×Rat×Rat))++g)++[h])) λ_ =>
 bnd (Zy 24 (a.1++[(([]:List ((Rat×Rat×Rat×Rat)×Rat×Rat×Rat×Rat))++g)++[h]])) λ_ =>
 bnd (chk .i64 (a.2+(1:Int))) λp =>
 some (.inl (a.1++[(([]:List ((Rat×Rat×Rat×Rat)×Rat×Rat×Rat×Rat))++g)++[h]],p)))
 (some (.inr a.1)))
   Zj (([]:List (List ((Rat×Rat×Rat×Rat)×Rat×Rat×Rat×Rat))),(0:Int))) λq =>
 bnd (Zpi q f) λd =>
 bnd (Zh (σ:=Int) (ρ:=Unit ⊕ ((List ((Rat×Rat×Rat×Rat)×Rat×Rat×Rat×Rat))×Int)) (λi =>
 ifb (decide (i<(d.1.length:Int)))
 (bnd (idx d.1 i) λr =>
 bnd (idx r f) λs =>
 bnd (Z7f s) λt =>
 ifb (!t)
 (some (.inr (.inr (([]:List ((Rat×Rat×Rat×Rat)×Rat×Rat×Rat×Rat)),(5:Int)))))
 (bnd (chk .i64 (i+(1:Int))) λu =>
 some (.inl u)))
 (some (.inr (.inl ()))))
   Zj (d.2.length:Int)) λv =>
  match v with
| .inl C=>(bnd (Zh (σ:=(List ((Rat×Rat×Rat×Rat)×Rat×Rat×Rat×Rat))×Int) (ρ:=List ((Rat×Rat×Rat×Rat)×Rat×Rat×Rat×Rat)) (λe =>
 ifb (decide (e.2<f))
 (bnd Z4d λj =>
 bnd (Zy 448 (e.1++[j])) λ_ =>
 bnd (chk .i64 (e.2+(1:Int))) λw =>
 some (.inl (e.1++[j],w)))
 (some (.inr e.1)))
    Zj (([]:List ((Rat×Rat×Rat×Rat)×Rat×Rat×Rat×Rat)),(0:Int))) λx =>
 bnd (Zh (σ:=Int×(List ((Rat×Rat×Rat×Rat)×Rat×Rat×Rat×Rat))) (ρ:=List ((Rat×Rat×Rat×Rat)×Rat×Rat×Rat×Rat)) (λc =>
 ifb (decide (c.1<(d.2.length:Int)))
 (bnd (idx d.2 c.1) λk =>
 bnd (idx d.1 c.1) λy =>
 bnd (idx y f) λz =>
 bnd (idx c.2 k) λD =>
 bnd (chk .i64 (c.1+(1:Int))) λA =>
 some (.inl (A,c.2.set k.toNat z)))
 (some (.inr c.2)))
    Zj ((0:Int),x)) λB =>
 some (B,(0:Int)))
| .inr l=>(some (l.1,l.2)))
theorem Zvh (P:Nat→Prop):∀ n,(∀ i,i<n→P i) ∨ ∃ k,k<n∧¬ P k∧∀ i,i<k→P i
 | 0=>.inl λi hi=>by omega
 | n+1=>by
  rcases Zvh P n with h | ⟨k,h1,h2,h3⟩
  ·rcases Classical.em (P n) with e | e
   ·exact .inl λi hi=>by
     by_cases q:i=n
     ·subst q;exact e
     ·exact h i (by omega)
   ·exact .inr ⟨n,by omega,e,h⟩
  ·exact .inr ⟨k,by omega,h2,h3⟩
theorem ZGh (x:List (List WR)):Ztd x=some ((x.headD []).length:Int):=by
 unfold Ztd;by_cases h:x.length=0
 ·rw[show ((x.length:Int)==(0:Int))=true by simp[h],Ze,List.length_eq_zero_iff.1 h];rfl
 ·rw[show ((x.length:Int)==(0:Int))=false by rw[beq_eq_false_iff_ne];omega,Zd,show (0:Int)=((0:Nat):Int) from rfl,Zu (show 0<x.length by omega),Za,ZZg (by omega)]
theorem mem_get {α:Type} {P:List α→Prop} {m:List (List α)} (h:∀ i,(hi:i<m.length)→P m[i]):∀ r,r ∈ m→P r:=λr hr=>by
 obtain⟨i,hi,rfl⟩:=List.getElem_of_mem hr
 exact h i hi
theorem Zui (x:List (List WR)) (hx:x.length≤1000):Zzd x=some (decide (okM x)):=by
 unfold Zzd;have z:(0:Int)=((0:Nat):Int):=rfl;rcases Zvh (λi=>∀ hi:i<x.length,x[i].length=(x.headD []).length∧x[i].length≤32) x.length with h3 | ⟨k,hk,h3,h4⟩
 ·refine Zq (y:=.inl ()) (Zv (λk=>(k:Int)) x.length rfl (by omega) (λk hk=>?_) ?_) ?_
  ·obtain⟨g1,g2⟩:=h3 k hk hk;rw[dTq (by omega),Ze];refine Zq (y:=false) ?_ ?_
   ·rw[Zu hk,Za,z,Zu (show 0<x.length by omega),Za,g1,ZZg (by omega),show ((x[0].length:Int) != (x[0].length:Int))=false by simp,Zd,Za,dFq (by omega)]
   ·rw[Zd,Zi (by omega) (by omega),Za];rfl
  ·rw[dFq (by omega),Zd]
  ·show some (decide ((x.length:Int)≤32))=_;by_cases h1:x.length≤32
   ·rw[dTq (by omega),dTq (p:=okM x) ⟨h1,?_,mem_get λi hi=>(h3 i hi hi).1⟩];by_cases h0:0<x.length
    ·rw[ZZg h0];exact (h3 0 h0 h0).2
    ·rw[List.length_eq_zero_iff.1 (show x.length=0 by omega)];simp
   ·rw[dFq (by omega),dFq (p:=okM x) (λh=>h1 h.1)]
 ·have hnot:¬ okM x:=λh=>h3 λhi=>⟨h.2.2 _ (List.getElem_mem hi),by rw[h.2.2 _ (List.getElem_mem hi)];exact h.2.1⟩;refine Zq (y:=.inr false) (Zv (λk=>(k:Int)) k rfl (by omega) (λi hi=>?_) ?_) ?_
  ·obtain⟨g1,g2⟩:=h4 i hi (by omega);rw[dTq (by omega),Ze];refine Zq (y:=false) ?_ ?_
   ·rw[Zu (show i<x.length by omega),Za,z,Zu (show 0<x.length by omega),Za,g1,ZZg (by omega),show ((x[0].length:Int) != (x[0].length:Int))=false by simp,Zd,Za,dFq (by omega)]
   ·rw[Zd,Zi (by omega) (by omega),Za];rfl
  ·rw[dTq (by omega),Ze];refine Zq (y:=true) ?_ (Ze _ _);rw[Zu hk,Za,z,Zu (show 0<x.length by omega),Za];by_cases e:x[k].length=x[0].length
   ·rw[show ((x[k].length:Int) != (x[0].length:Int))=false by simp[e],Zd,Za,dTq];have:¬ x[k].length≤32:=λh=>h3 λ_=>⟨by rw[e,ZZg (by omega)],h⟩;omega
   ·rw[show ((x[k].length:Int) != (x[0].length:Int))=true by simp only[bne_iff_ne,ne_eq];omega,Ze]
  ·rw[dFq hnot]
theorem ZAf {R n:Nat} (M:Mx) (h0:R=0→n=0):((mxW R n M).headD []).length=n:=by
 by_cases h:R=0
 ·subst h;rw[h0 rfl];rfl
 ·obtain⟨q,rfl⟩:∃ q,R=q+1:=⟨R-1,by omega⟩;rw[ZZg (by rw[Zza];omega)];unfold mxW vx;simp
theorem Ztj {R n:Nat} (M:Mx) (h0:R=0→n=0) (hR:R≤32) (hn:n≤32):okM (mxW R n M):=by
 refine⟨by rw[Zza];exact hR,by rw[ZAf M h0];exact hn,λr hr=>?_⟩;rw[ZAf M h0];unfold mxW vx at hr;obtain⟨i,_,rfl⟩:=List.mem_map.1 hr;simp
theorem ZWy:Zwl=some (wq 1):=by
 unfold Zwl Z0;rw[Za,Zwh,Za];rfl
theorem rEmpty1 {n:Nat} (hn:n≤1000):ZPd (1:Int) (n:Int)=some [vx n λ_=>wq 0]:=by
 unfold ZPd;rw[show (1:Int)=((1:Nat):Int) from rfl,ZAd (by omega) (by omega),Za];refine Zq (Zv (λk=>((k:Int),if k=0 then [[]] else [vx n λ_=>wq 0])) 1 rfl (by omega) (λk hk=>?_) ?_) rfl
 ·obtain rfl:k=0:=by omega
  simp only;rw[dTq (by omega),Ze];refine Zq (y:=[vx n λ_=>wq 0]) (Zv (λj=>((j:Int),[vx j λ_=>wq 0])) n rfl (by omega) (λj hj=>?_) ?_) ?_
  ·simp only;rw[dTq (by omega),Ze,show (((0:Nat):Int))=((0:Nat):Int) from rfl,Zu (show 0<[vx j λ_=>wq 0].length by simp),Za,Zbg,Za];simp only[List.getElem_cons_zero];rw[ZBb j (λ_=>wq 0),Z6 (by rw[Zw];omega),Za,Za,Z6c,Za,Zi (by omega) (by omega),Za];rfl
  ·simp only;rw[dFq (by omega),Zd]
  ·rw[Zi (by omega) (by omega),Za];rfl
 ·simp only;rw[dFq (by omega),Zd];rfl
noncomputable def Zee (a:List ((Rat×Rat×Rat×Rat)×Rat×Rat×Rat×Rat)) (b:List ((Rat×Rat×Rat×Rat)×Rat×Rat×Rat×Rat)):Option ((Rat×Rat×Rat×Rat)×Rat×Rat×Rat×Rat) :=
 bnd Z4d λd =>
 bnd (Zh (σ:=Int×((Rat×Rat×Rat×Rat)×Rat×Rat×Rat×Rat)) (ρ:=(Rat×Rat×Rat×Rat)×Rat×Rat×Rat×Rat) (λc =>
 ifb (decide (c.1<(a.length:Int)))
 (bnd (idx a c.1) λe =>
 bnd (idx b c.1) λf =>
 bnd (ZId e f) λg =>
 bnd (Z9e c.2 g) λh =>
 bnd (chk .i64 (c.1+(1:Int))) λi =>
 some (.inl (i,h)))
 (some (.inr c.2)))
  Zj ((0:Int),d)) λj =>
 some j
noncomputable def Z0c (m:List (List ((Rat×Rat×Rat×Rat)×Rat×Rat×Rat×Rat))) (c:List ((Rat×Rat×Rat×Rat)×Rat×Rat×Rat×Rat)):Option (Bool×(List ((Rat×Rat×Rat×Rat)×Rat×Rat×Rat×Rat))×Int) :=
 bnd (α:=Bool)
 (bnd (Zzd m) λe =>
 ifb (!e)
 (some true)
 (bnd (Ztd m) λf =>
 some ((c.length:Int) != f))) λg =>
 ifb g
 (some (false,([]:List ((Rat×Rat×Rat×Rat)×Rat×Rat×Rat×Rat)),(4:Int)))
 (bnd (ZWl m) λb =>
 bnd (Zh (σ:=Int) (ρ:=Unit ⊕ (Bool×(List ((Rat×Rat×Rat×Rat)×Rat×Rat×Rat×Rat))×Int)) (λa =>
 ifb (decide (a<(b.1.length:Int)))
 (bnd (idx b.1 a) λh =>
 bnd (Zee c h) λi =>
 bnd (Z7f i) λj =>
 ifb (!j)
 (bnd (idx b.1 a) λk =>
 some (.inr (.inr (false,k,(0:Int)))))
 (bnd (chk .i64 (a+(1:Int))) λl =>
 some (.inl l)))
 (some (.inr (.inl ()))))
   Zj (0:Int)) λn =>
  match n with
| .inl o=>(some (true,([]:List ((Rat×Rat×Rat×Rat)×Rat×Rat×Rat×Rat)),(0:Int)))
| .inr d=>(some (d.1,d.2.1,d.2.2)))
noncomputable def ZEl (m:List (List ((Rat×Rat×Rat×Rat)×Rat×Rat×Rat×Rat))):Option ((List (List ((Rat×Rat×Rat×Rat)×Rat×Rat×Rat×Rat)))×Int) :=
 bnd (Zzd m) λd =>
 ifb (!d)
 (some (([]:List (List ((Rat×Rat×Rat×Rat)×Rat×Rat×Rat×Rat))),(4:Int)))
 (bnd (Ztd m) λe =>
 bnd (ZPd e (m.length:Int)) λf =>
 bnd (Zh (σ:=Int×(List (List ((Rat×Rat×Rat×Rat)×Rat×Rat×Rat×Rat)))) (ρ:=List (List ((Rat×Rat×Rat×Rat)×Rat×Rat×Rat×Rat))) (λb =>
 ifb (decide (b.1<(m.length:Int)))
 (bnd (Zh (σ:=Int×(List (List ((Rat×Rat×Rat×Rat)×Rat×Rat×Rat×Rat)))) (ρ:=List (List ((Rat×Rat×Rat×Rat)×Rat×Rat×Rat×Rat))) (λa =>
 bnd (Ztd m) λg =>
 ifb (decide (a.1<g))
 (bnd (idx a.2 a.1) λc =>
 bnd (idx m b.1) λh =>
 bnd (idx h a.1) λi =>
 bnd (Zhj i) λj =>
 bnd (idx c b.1) λp =>
 bnd (chk .i64 (a.1+(1:Int))) λk =>
 some (.inl (k,a.2.set a.1.toNat (c.set b.1.toNat j))))
 (some (.inr a.2)))
      Zj ((0:Int),b.2)) λl =>
 bnd (chk .i64 (b.1+(1:Int))) λn =>
 some (.inl (n,l)))
 (some (.inr b.2)))
   Zj ((0:Int),f)) λo =>
 some (o,(0:Int)))
noncomputable def ZTj (m:List (List ((Rat×Rat×Rat×Rat)×Rat×Rat×Rat×Rat))) (x:List ((Rat×Rat×Rat×Rat)×Rat×Rat×Rat×Rat)):Option (List ((Rat×Rat×Rat×Rat)×Rat×Rat×Rat×Rat)) :=
 bnd (Zh (σ:=(List ((Rat×Rat×Rat×Rat)×Rat×Rat×Rat×Rat))×Int) (ρ:=List ((Rat×Rat×Rat×Rat)×Rat×Rat×Rat×Rat)) (λa =>
 ifb (decide (a.2<(m.length:Int)))
 (bnd (idx m a.2) λc =>
 bnd (Zee c x) λb =>
 bnd (Zy 448 (a.1++[b])) λ_ =>
 bnd (chk .i64 (a.2+(1:Int))) λd =>
 some (.inl (a.1++[b],d)))
 (some (.inr a.1)))
  Zj (([]:List ((Rat×Rat×Rat×Rat)×Rat×Rat×Rat×Rat)),(0:Int))) λe =>
 some e
noncomputable def Zxj (m:List (List ((Rat×Rat×Rat×Rat)×Rat×Rat×Rat×Rat))) (b:List ((Rat×Rat×Rat×Rat)×Rat×Rat×Rat×Rat)):Option (List ((Rat×Rat×Rat×Rat)×Rat×Rat×Rat×Rat)) :=
 bnd (ZEl m) λe =>
 bnd (Zh (σ:=(List (List ((Rat×Rat×Rat×Rat)×Rat×Rat×Rat×Rat)))×Int) (ρ:=List (List ((Rat×Rat×Rat×Rat)×Rat×Rat×Rat×Rat))) (λa =>
 ifb (decide (a.2<(e.1.length:Int)))
 (bnd (Zh (σ:=(List ((Rat×Rat×Rat×Rat)×Rat×Rat×Rat×Rat))×Int) (ρ:=List ((Rat×Rat×Rat×Rat)×Rat×Rat×Rat×Rat)) (λc =>
 ifb (decide (c.2<(e.1.length:Int)))
 (bnd Z4d λh =>
 bnd (Zh (σ:=Int×((Rat×Rat×Rat×Rat)×Rat×Rat×Rat×Rat)) (ρ:=(Rat×Rat×Rat×Rat)×Rat×Rat×Rat×Rat) (λd =>
 ifb (decide (d.1<(m.length:Int)))
 (bnd (idx e.1 a.2) λi =>
 bnd (idx i d.1) λj =>
 bnd (idx m d.1) λk =>
 bnd (idx k c.2) λl =>
 bnd (ZId j l) λn =>
 bnd (Z9e d.2 n) λo =>
 bnd (chk .i64 (d.1+(1:Int))) λp =>
 some (.inl (p,o)))
 (some (.inr d.2)))
        Zj ((0:Int),h)) λf =>
 bnd (Zy 448 (c.1++[f])) λ_ =>
 bnd (chk .i64 (c.2+(1:Int))) λq =>
 some (.inl (c.1++[f],q)))
 (some (.inr c.1)))
     Zj (([]:List ((Rat×Rat×Rat×Rat)×Rat×Rat×Rat×Rat)),(0:Int))) λg =>
 bnd (Zy 24 (a.1++[g])) λ_ =>
 bnd (chk .i64 (a.2+(1:Int))) λr =>
 some (.inl (a.1++[g],r)))
 (some (.inr a.1)))
  Zj (([]:List (List ((Rat×Rat×Rat×Rat)×Rat×Rat×Rat×Rat))),(0:Int))) λs =>
 bnd (ZTj e.1 b) λt =>
 bnd (ZNg s t) λu =>
 some u.1
noncomputable def ZKo (m:List (List ((Rat×Rat×Rat×Rat)×Rat×Rat×Rat×Rat))) (b:List ((Rat×Rat×Rat×Rat)×Rat×Rat×Rat×Rat)) (c:List ((Rat×Rat×Rat×Rat)×Rat×Rat×Rat×Rat)):Option (((Rat×Rat×Rat×Rat)×Rat×Rat×Rat×Rat)×Int) :=
 bnd (α:=Bool)
 (bnd (Zzd m) λa =>
 ifb (!a)
 (some true)
 (ifb ((b.length:Int) != (m.length:Int))
 (some true)
 (bnd (Ztd m) λd =>
 some ((c.length:Int) != d)))) λe =>
 ifb e
 (bnd Z4d λf =>
 some (f,(4:Int)))
 (bnd (Z0c m c) λg =>
 ifb (!g.1)
 (bnd Z4d λh =>
 some (h,(5:Int)))
 (bnd (Zxj m b) λi =>
 bnd (Zee c i) λj =>
 some (j,(0:Int))))
theorem ZBA {piv piv':List Nat} (h:piv=piv') (n:Nat):ZC piv n=ZC piv' n:=by rw[h]
theorem kv_eq {R n:Nat} {M0 M N:Mx} {piv piv':List Nat} (h:Eli R n M0 M piv n) (h':Eli R n M0 N piv' n) {j:Nat} (hj:j<n) (d:Nat):kv N piv' j d=kv M piv j d:=by
 have hp:=h.piv_eq h' λv=>Iff.rfl;have hu:=h.unique h' λv=>Iff.rfl;subst hp;unfold kv;split
 ·rfl
 ·split
  ·rename_i i hi;have hil:i<piv.length:=by
    unfold List.idxOf? at hi;exact (List.findIdx?_eq_some_iff_getElem.1 hi).1
   have:=h.le;rw[hu i (by omega) j hj]
  ·rfl
theorem dsz {n K B:Nat} {c y:Nat→Rat} (hn:n≤6) (hc:∀ j,j<n→sz 64 (c j)) (hy:∀ j,j<n→sz K (y j)) (hB:6*(K+65)+1≤B):sz B (sm n λj=>c j*y j) :=
 (Ztk (k:=64+K) λj hj=>Zxa (hc j hj) (hy j hj)).mono (by
  have:n*(64+K+1)≤6*(64+K+1):=mR _ hn
  omega)
theorem Z6v {x:Rat} (h:x≠0):ZUa x=some false:=by unfold ZUa;rw[dFq h]
end Go.Eng
