/- Lemmas towards the statement: the engine of the walks, the functions' models, laws and walks, part 4. Conditions: as each states. -/
import Derived.Laws.CopyRow
import Derived.Laws.IdiomStrings
import Derived.Lib.AppendZerosOnto
import Derived.Lib.Overlaps
import Derived.Scope
import Derived.Test.YtlaibjmfjnhaoaaGreatBsC
set_option linter.all false
set_option maxRecDepth 100000
namespace Go.Eng
open Go.RowKit
theorem St.bare {K:Nat} {w0:Base} {v0:Zb} {σ:List (Nat×Value)} {ℓ:List Loc} {v:Zb} {a:Act} {w:World} (h:St K w0 v0 σ ℓ v a w):St K w0 v0 [] ℓ v a w:=h.frame ZAz
theorem ZAj {v:Zb} {γ:Nat→Gh} {l:Lo} {x:V} {cs:List Value} (h:RR v γ l false x cs) (hf:x.fit=true):cellsOf (x.val cs) cs∧cs.all plain=true:=by
 unfold V.fit at hf;have hp:x.plain=true:=by
  cases hp:x.plain
  ·rw[hp]at hf;cases hf
  ·rfl
 have hpl:=Zry hp h;refine⟨?_,hpl⟩;rw[hp]at hf;unfold V.val
 cases ha:x.isAgg with
 | true=>exact Zjm cs
 | false =>
  rw[ha]at hf;have hs:=eQ hf;have e:=ZGg h hs ha;have hv:x.val cs=cs.headD undef:=by unfold V.val;rw[ha]
  rw[hv]at e;rw[e]at hpl;have hpl':plain (cs.headD undef)=true:=by simpa using hpl
  have:=ZId hpl';show cellsOf (cs.headD undef) cs
  conv=>arg 2;rw[e]
  exact this
theorem ZUn {x:V} (hf:x.fit=true):∀ c,x ≠ .tup c:=λc e=>by subst e;cases hf
section
variable {P:Program} {N:Nat} {G:V→Value→Prop} {w0:Base} {v0:Zb} {U X:Nat→Prop} {f:Fr} {l:Lo} {a:Act} {w:World} {γ:Nat→Gh} {v:Zb} {ℓ:List Loc} {n:Nat}
variable {ty:TypeId} {pos:String} {aft:Array Edge} {g:Option (Nat×Bool)}
theorem Zug {o:Oper} {l':Lo} {w':World} {γ':Nat→Gh} {v':Zb} {ℓ':List Loc} {Post:Unit→Fr→Lo→Prop} (hr:RelX N G w0 v0 U X f l' a w' γ' v' ℓ') (hU:∀ k,U k→X k) (ho:o.dst=none) (hrun:(execOp a.eval o).run P w = .ok .skip w') (h:Post () f l'):Zxa P N G w0 v0 X o a w Post:=by
 refine ZJn hrun ?_;rw[ho];exact⟨_,_,h,_,_,_,hr.mono hU λ_ h=>h⟩
theorem all_upd {cs0 cs:List Value} {off:Nat} (h0:cs0.all plain=true) (h1:cs.all plain=true):(cs0.take off++cs++cs0.drop (off+cs.length)).all plain=true:=by
 have h0':=List.all_eq_true.1 h0;refine List.all_eq_true.2 λx hx=>?_;rcases List.mem_append.1 hx with hx | hx
 ·rcases List.mem_append.1 hx with hx | hx
  ·exact h0' x (List.mem_of_mem_take hx)
  ·exact List.all_eq_true.1 h1 x hx
 ·exact h0' x (List.mem_of_mem_drop hx)
theorem ZGl {t:T} {x:t.den} {z x':V} {off:Nat} {cs cz:List Value} (hg:Zjb FU (.data t x) off z=some x') (hx:t.rep.rel v cs x) (hz:RR v γ l false z cz) (hkz:z.ok U) :
  RR v γ l false x' (cs.take off++cz++cs.drop (off+cz.length))∧x'.ok U∧off+cz.length≤t.n:=by
 obtain⟨h1,h2,h3,_⟩:=ZIf FU hg (γ:=γ) (l:=l) (x:=.data t x) hx hz trivial hkz;refine⟨h1,h2,?_⟩;have:=Rep.len _ hx;rw[ZW]at this;omega
theorem Z4r {t:T}:∀ {rows:List (Option Nat×Nat)} {m:List (List t.den)} {es:List Loc} {i:Nat} {p:Option Nat×Nat} {r:List t.den},Zua v ty t rows m es→rows[i]? = some p→m[i]? = some r →
  ∃ cs e1 e2,es=e1 ++ .own p.1 ty t.n r.length p.2 cs :: e2∧t.rep.rels v cs r∧∀ (r':List t.den) (cs':List Value),r'.length=r.length→t.rep.rels v cs' r'→Zo rows (m.set i r')=Zo rows m∧Zua v ty t rows (m.set i r') (e1 ++ .own p.1 ty t.n r.length p.2 cs' :: e2)
 | [],[],_,_,_,_,_,h,_=>by simp at h
 | q :: ps,r0 :: rs,es,0,p,r,⟨cs,es',h1,h2,h3⟩,hp,hr=>by
  simp at hp hr
  subst hp hr
  refine⟨cs,[],es',by simpa using h2,h1,λr' cs' hl hc=>⟨by simp[Zo,hl],?_⟩⟩
  exact⟨cs',es',hc,by rw[← hl];rfl,h3⟩
 | q :: ps,r0 :: rs,es,i+1,p,r,⟨cs,es',h1,h2,h3⟩,hp,hr=>by
  simp only[List.getElem?_cons_succ]at hp hr
  obtain⟨c2,e1,e2,k2,k3,k4⟩:=Z4r h3 hp hr
  subst k2
  refine⟨c2,.own q.1 ty t.n r0.length q.2 cs :: e1,e2,by simpa using h2,k3,λr' cs' hl hc=>?_⟩
  obtain⟨k5,k6⟩:=k4 r' cs' hl hc
  exact⟨by simp only[List.set_cons_succ,Zo,k5],cs,_,h1,rfl,k6⟩
 | [],_ :: _,_,_,_,_,k,_,_=>k.elim
 | _ :: _,[],_,_,_,_,k,_,_=>k.elim
theorem Zit {t:T} {p:Option Nat×Nat} {r':List t.den} {cs':List Value}:∀ {rows:List (Option Nat×Nat)} {m:List (List t.den)} {es:List Loc} {i:Nat} {p0:Option Nat×Nat},Zua v ty t rows m es→rows[i]? = some p0→t.rep.rels v cs' r' →
  (Zo rows m).take i++[Value.slice (mkA p.1) r'.length p.2]++(Zo rows m).drop (i+1)=Zo (rows.set i p) (m.set i r')∧∃ e1 e2 c,es=e1++c :: e2∧Zua v ty t (rows.set i p) (m.set i r') (e1 ++ .own p.1 ty t.n r'.length p.2 cs' :: e2)
 | [],[],_,_,_,_,h,_=>by simp at h
 | q :: ps,r0 :: rs,es,0,p0,⟨cs,es',h1,h2,h3⟩,hp,hc=>by
  refine⟨by simp[Zo],[],es',_,by simpa using h2,?_⟩
  exact⟨cs',es',hc,rfl,h3⟩
 | q :: ps,r0 :: rs,es,i+1,p0,⟨cs,es',h1,h2,h3⟩,hp,hc=>by
  simp only[List.getElem?_cons_succ]at hp
  obtain⟨k1,e1,e2,c,k2,k3⟩:=Zit (p:=p) h3 hp hc
  subst k2
  refine⟨by simp only[List.set_cons_succ,Zo,List.take_succ_cons,List.drop_succ_cons,List.cons_append,k1],.own q.1 ty t.n r0.length q.2 cs :: e1,e2,c,by simpa using h2,?_⟩
  exact⟨cs,_,h1,rfl,k3⟩
 | [],_ :: _,_,_,_,k,_,_=>k.elim
 | _ :: _,[],_,_,_,k,_,_=>k.elim
theorem ZEA {α:Type} {m:List (List α)} {i:Nat} {r r':List α} (hr:m[i]? = some r) (hl:r'.length=r.length):(m.set i r').map List.length=m.map List.length:=by
 apply List.ext_getElem?;intro j;simp only[List.getElem?_map];by_cases h:i=j
 ·subst h;have hlt:=(List.getElem?_eq_some_iff.1 hr).1;rw[List.getElem?_set_self hlt,hr];simp[hl]
 ·rw[List.getElem?_set_ne h]
theorem Z6i:∀ (g:Nat) {x z x':V} {off:Nat},Zjb g x off z=some x'→x.ok U→z.ok U→x'.ok U
 | 0,_,_,_,_,h,_,_=>by cases h
 | g+1,x,z,x',off,h,hk,hkz=>by
  have whole:∀ {y:V},(match Nat.beq off 0,Nat.beq y.size z.size,eqB y.isAgg z.isAgg with
    | true,true,true=>some z
    | _,_,_=>match y with
     | .agg c=>match Zjb g c off z with
      | some c'=>some (.agg c')
      | none=>none
     | .data t x=>match Zdc t x with
      | some c=>match Zjb g c off z with
       | some c'=>some (.agg c')
       | none=>none
      | none=>none
     | _=>none)=some x'→y.ok U→x'.ok U:=by
   intro y hy hk;split at hy
   ·cases hy;exact hkz
   ·split at hy
    ·split at hy
     ·rename_i c' he;cases hy;exact (show V.ok U c' from Z6i g he hk hkz)
     ·cases hy
    ·split at hy
     ·rename_i c hc;split at hy
      ·rename_i c' he;cases hy;exact (show V.ok U c' from Z6i g he (ZPt hc) hkz)
      ·cases hy
     ·cases hy
    ·cases hy
  cases x with
  | nl=>simp only[Zjb]at h;cases h
  | cons a b =>
   simp only[Zjb]at h;split at h
   ·split at h
    ·rename_i he;cases h;exact⟨Z6i g he hk.1 hkz,hk.2⟩
    ·cases h
   ·split at h
    ·split at h
     ·rename_i he;cases h;exact⟨hk.1,Z6i g he hk.2 hkz⟩
     ·cases h
    ·cases h
  | data t x=>exact whole (y:=.data t x) h hk
  | agg c=>exact whole (y:=.agg c) h hk
  | nilS=>exact whole (y:=.nilS) h hk
  | own u=>exact whole (y:=.own u) h hk
  | row u i hv cv t r=>exact whole (y:=.row u i hv cv t r) h hk
  | ptr u o=>exact whole (y:=.ptr u o) h hk
  | el u i cv t x o=>exact whole (y:=.el u i cv t x o) h hk
  | rp u i hv cv t r=>exact whole (y:=.rp u i hv cv t r) h hk
  | rel u i j hv cv t r x o=>exact whole (y:=.rel u i j hv cv t r x o) h hk
  | vp t x o=>exact whole (y:=.vp t x o) h hk
  | tup c=>exact whole (y:=.tup c) h hk
  | fn f c=>exact whole (y:=.fn f c) h hk
  | ifc f c=>exact whole (y:=.ifc f c) h hk
  | undef=>exact whole (y:=.undef) h hk
theorem ZOk {b off:Nat} {c c':List Value} (h:WAt w b off c) (h':WAt w b off c') (hl:c.length=c'.length):c=c':=by
 obtain⟨x,T,fr,h1,h2⟩:=h;obtain⟨x',T',fr',h3,h4⟩:=h';rw[h1]at h3;cases h3;rw[← h2,← h4,hl]
theorem Zst (hr:RelX N G w0 v0 U X f l a w γ v ℓ) {u k st:Nat} {ty0:TypeId} {t:T} {xs:List t.den} {fz:Bool} (he:lkE l u=some ⟨k,st,.own ty0 t xs fz⟩) {b cap i:Nat} {x:t.den} (hγ:γ u = .own (some b) cap) (hx:xs[i]? = some x):∃ c,t.rep.rel v c x∧WAt w b (0+i*t.n) c:=by
 obtain⟨hkk,es,hes,hmem⟩:=hr.loc he;have hkk:k=u:=hkk;subst hkk
 cases fz with
 | false =>
  obtain⟨ob,cap',cs,q1,q2,rfl⟩:=hes;have q1:γ k = .own ob cap':=q1;rw[hγ]at q1;cases q1;obtain⟨j,hj⟩:=hmem _ (List.mem_singleton.2 rfl);have hrel:=Z1a q2 hx;rw[ZW]at hrel;have hl:=Rep.len _ hrel;rw[ZW]at hl;refine⟨_,hrel,?_⟩;have:=Zwe hr.st hj rfl (List.getElem?_eq_some_iff.1 hx).1 0 ((cs.drop (i*t.n)).take t.n) (by rw[hl,List.drop_zero,List.take_take,Nat.min_self]) (by omega)
  simpa using this
 | true =>
  obtain⟨ob,cap',q1,q2,_⟩:=hes;have q1:γ k = .own ob cap':=q1;rw[hγ]at q1;cases q1;obtain⟨_,b2,o2,cs2,e2,h2,h3⟩:=ZGc q2 hx
  cases e2
  rw[ZW]at h2;exact⟨cs2,h3,hr.st.view h2⟩
theorem ZSr (hr:RelX N G w0 v0 U X f l a w γ v ℓ) {u k st hv:Nat} {ty0 ty2:TypeId} {t:T} {m:List (List t.den)} (he:lkE l u=some ⟨k,st,.mat ty0 ty2 t m hv⟩) {ob:Option Nat} {cap i j bi capi:Nat} {rows:List (Option Nat×Nat)} {r:List t.den} {x:t.den}
  (hγ:γ u = .mat ob cap rows) (hrow:rows[i]? = some (some bi,capi)) (hm:m[i]? = some r) (hx:r[j]? = some x):∃ c,t.rep.rel v c x∧WAt w bi (0+j*t.n) c:=by
 obtain⟨hkk,es,hes,hmem⟩:=hr.loc he;have hkk:k=u:=hkk;subst hkk;obtain⟨ob',cap',rows',es2,q1,q2,rfl⟩:=hes;have q1:γ k = .mat ob' cap' rows':=q1;rw[hγ]at q1;cases q1;obtain⟨p',cs,r1,r2,r3⟩:=Ztf q2 hm;rw[hrow]at r1;cases r1;obtain⟨jj,hj⟩:=hmem _ (List.mem_cons_of_mem _ r3);have hrel:=Z1a r2 hx;rw[ZW]at hrel;have hl:=Rep.len _ hrel;rw[ZW]at hl;refine⟨_,hrel,?_⟩;have:=Zwe hr.st hj rfl (List.getElem?_eq_some_iff.1 hx).1 0 ((cs.drop (j*t.n)).take t.n) (by rw[hl,List.drop_zero,List.take_take,Nat.min_self]) (by omega)
 simpa using this
theorem stE_ok (hr:RelX N G w0 v0 U X f l a w γ v ℓ) (hU:∀ k,U k→X k) (hX:X n) (hn:¬ U n) {t:TypeId} {x y:Operand} {o:Oper} {p q:V} {Post:Unit→Fr→Lo→Prop} (ho:o=⟨none,.store t x y,ty,pos,aft,g⟩) (hp:RV v γ l p (a.eval x)) (hq:RV v γ l q (a.eval y)) (hk:p.ok U) (hkq:q.ok U)
  (h:Zk n (stE P n t p q) f l Post):Zxa P N G w0 v0 X o a w Post:=by
 unfold stE at h;split at h
 ·exact h.elim
 ·rename_i sz hsz;split at h
  ·rename_i b1 b2 b3;have b1:=eQ b1;have b2:=Z3m b2;obtain⟨cs,hcs,hqe⟩:=ZMb hq (ZUn b3);obtain⟨hcells,hpl⟩:=ZAj hcs b3;have hlen:cs.length=sz.1:=(ZBd hcs).trans b1;have hS:=Zhg hsz;split at h
   · -- a variable
    rename_i u off;obtain⟨en,he,h⟩:=h;obtain⟨yy,hy0,_,hy⟩:=Zoa hp (λ_ e=>by cases e) rfl rfl;have hy0:a.eval x=yy:=(List.cons.inj hy0).1;have hy:=hy en he;obtain⟨kk,st,L⟩:=en;obtain⟨hm,hkk⟩:=Zq he;have hkk:kk=u:=hkk;subst hkk
    cases L with
    | box ty0 c =>
     simp only at h;obtain⟨b',g4,rfl⟩:=hy;split at h
     ·rename_i c' hc';obtain⟨es,E',h1,h2,_,h3,_⟩:=hr.del he;obtain⟨b,cs0,g1,g2,g3,rfl⟩:=h1;have g1:γ kk = .box b:=g1;rw[g1]at g4;cases g4;have hcok:c.ok U:=(hr.ul _ hm).2.2;obtain⟨k1,k2,k3,_⟩:=ZIf FU hc' g2 hcs hcok hkq;rw[hlen]at k3;have hs:=hr.st.perm h3;obtain⟨σ,hσ,e1,e2⟩:=hs.ev2 x y;rw[hy0]at e1;rw[hqe]at e2;obtain⟨w',hrun,hst⟩:=ZQk (P:=P) hσ hS hcells hlen (i:=0) rfl (by omega) hpl;have hle:Le U v γ l v γ (⟨kk,n,.box ty0 c'⟩ :: era l kk):=Le.upd hr he (Zb.le_refl _) (λ_ _=>rfl) rfl;subst ho;refine Zug (hr.upd hX (hr.ul _ hm).1 h2 hst.bare hle (λ_ _=>rfl) ⟨_,_,g1,ZEb hle k2 k1,all_upd g3 hpl,rfl⟩ (List.Perm.refl _) k2) hU rfl (hrun e1 e2) h
     ·exact h.elim
    | own _ _ _ _=>exact h.elim
    | mid _ _ _ _ _ _=>exact h.elim
    | mat _ _ _ _ _=>exact h.elim
   · -- an element
    rename_i u i cv s x0 off;split at h
    ·rename_i z hz;obtain⟨yy,hy0,_,⟨c0,hc0⟩,hy⟩:=Zoa hp (λ_ e=>by cases e) rfl rfl;have hy0:a.eval x=yy:=(List.cons.inj hy0).1;obtain⟨z1,z2,z3⟩:=ZGl hz hc0 hcs hkq;obtain⟨y1,l1,γ1,v1,ℓ1,h,r1,le1,q1⟩:=Zkd hn hX FU h hr z2;obtain⟨en,he,h⟩:=h;have hp1:=Zob le1 hk hp;obtain⟨yy',hy0',_,_,hy⟩:=Zoa hp1 (λ_ e=>by cases e) rfl rfl;have hy0':a.eval x=yy':=(List.cons.inj hy0').1;have hy:=hy en he;obtain⟨kk,st,L⟩:=en;obtain⟨hm,hkk⟩:=Zq he;have hkk:kk=u:=hkk;subst hkk
     cases L with
     | own ty0 s' xs fz =>
      cases fz with
      | true=>exact h.elim
      | false =>
       simp only at h;obtain⟨b,cap,g1,rfl,g3,g4⟩:=hy;obtain⟨es,E',h1,h2,_,h3,_⟩:=r1.del he;obtain⟨ob,cap',cs1,f1,f2,rfl⟩:=h1;have f1:γ1 kk = .own ob cap':=f1;rw[g1]at f1;cases f1;have fin:∀ (c:List Value) (y':s'.den),(cs1.drop (i*s'.n)).take s'.n=c→off+sz.1≤s'.n→s'.rep.rel v1 (c.take off++cs++c.drop (off+sz.1)) y'→Post () f (⟨kk,n,.own ty0 s' (xs.set i y') false⟩ :: era l1 kk)→Zxa P N G w0 v0 X o a w Post:=by
        intro c y' hc hfit hrel hpost;have hs:=r1.st.perm h3;obtain⟨σ,hσ,e1,e2⟩:=hs.ev2 x y;rw[hy0']at e1;rw[hqe]at e2;have hset:=Zyp f2 g3 hc hrel (ZW s').symm hfit;have hcl:=Zmd f2;rw[ZW]at hcl;have hfit2:0+i*s'.n+off+sz.1≤cs1.length:=Zwq hs (j:=0) rfl g3 hfit;obtain⟨w',hrun,hst⟩:=ZQd (P:=P) hσ hS hcells hlen (i:=0) rfl hfit2 hpl;rw[hlen]at hst;have hle:Le U v1 γ1 l1 v1 γ1 (⟨kk,n,.own ty0 s' (xs.set i y') false⟩ :: era l1 kk):=Le.upd r1 he (Zb.le_refl _) (λ_ _=>rfl) ⟨rfl,rfl,by simp,λe=>absurd e hn⟩;have hst':St N w0 v0 [] (.own (some b) ty0 s'.n (xs.set i y').length cap (cs1.take (0+i*s'.n+off)++cs++cs1.drop (0+i*s'.n+off+sz.1)) :: E'.flatten) v1 a w':=by
         rw[List.length_set];exact hst.bare
        subst ho;exact Zug (r1.upd hX (r1.ul _ hm).1 h2 hst' hle (λ_ _=>rfl) ⟨some b,cap,_,g1,hset,rfl⟩ (List.Perm.refl _) trivial) hU rfl (hrun e1 e2) hpost
       have full:off=0→sz.1=s.n→∀ y',T.cast s s' y1=some y'→Post () f (⟨kk,n,.own ty0 s' (xs.set i y') false⟩ :: era l1 kk)→Zxa P N G w0 v0 X o a w Post:=by
        intro e0 e1 y' hc hpost;obtain⟨c3,c4⟩:=Z3 hc;subst c3;subst c4;refine fin _ y1 rfl (by omega) ?_ hpost;have hl0:=Rep.len _ hc0;rw[ZW]at hl0;have hcl:=Zmd f2;rw[ZW]at hcl;have hdl:((cs1.drop (i*s.n)).take s.n).length=s.n:=by
         have:i*s.n+s.n≤cs1.length:=by rw[hcl,← Nat.succ_mul];exact mR _ g3
         simp;omega
        have q1:=q1 _ z1;rw[e0]at q1 ⊢;rw[List.take_zero,List.drop_of_length_le (by omega)]at q1 ⊢;exact q1
       split at h
       ·rename_i hh1 hh2;split at h
        ·rename_i y' hy';exact full (eQ hh1) (b1.symm.trans (eQ hh2)) y' hy' h
        ·exact h.elim
       ·rename_i hcv _;split at h
        ·rename_i y' hy';obtain⟨ys,c1,c2⟩:=g4 (eQ hcv);obtain⟨c3,c4⟩:=Z3 c1
         cases c3;cases c4
         rw[ZIj]at hy';cases hy';have hrel:=Z1a f2 c2;rw[ZW]at hrel;obtain⟨⟨k0,st0,L0⟩,he0,hce⟩:=le1.l _ _ hk.1 he;have hst:U st:=(eQ hcv) ▸ hk.2
         cases L0 with
         | own ty1 t1 xs1 fz1 =>
          obtain⟨d1,d2,d3,d4⟩:=hce;obtain⟨d5,d6⟩:=d4 hst
          cases d6
          rw[d1]at g1;obtain⟨c,hc1,hc2⟩:=Zst hr he0 g1 c2;obtain⟨z1',_,_⟩:=ZGl hz hc1 hcs hkq;have q2:=q1 _ z1';rw[hlen]at q2;refine fin c y1 ?_ (by omega) q2 h;have g1':γ1 kk = .own (some b) cap:=by rw[d1];exact g1
          obtain⟨c',hc1',hc2'⟩:=Zst r1 he g1' c2;have hl1:=Rep.len _ hc1;have hl2:=Rep.len _ hc1';have e1:=ZOk hc2 hc2' (hl1.trans hl2.symm);have hl3:=Rep.len _ hrel;rw[ZW]at hl1 hl3;obtain⟨jj,hj⟩:∃ i:Nat,ℓ1[i]? = some (.own (some b) ty0 s.n xs.length cap cs1):=List.getElem?_of_mem (h3.mem_iff.2 (by simp));have hw:=Zwe r1.st hj rfl g3 0 ((cs1.drop (i*s.n)).take s.n) (by rw[hl3,List.drop_zero,List.take_take,Nat.min_self]) (by omega);exact ZOk (by simpa using hw) hc2 (hl3.trans hl1.symm)
         | box _ _=>exact hce.elim
         | mid _ _ _ _ _ _ =>
          obtain⟨_,_,_,_,hyl⟩:=Zoa hp (λ_ e=>by cases e) rfl rfl;exact (hyl _ he0).elim
         | mat _ _ _ _ _ =>
          obtain⟨_,_,_,_,hyl⟩:=Zoa hp (λ_ e=>by cases e) rfl rfl;exact (hyl _ he0).elim
        ·exact h.elim
       ·exact h.elim
     | box _ _=>exact h.elim
     | mid _ _ _ _ _ _=>exact h.elim
     | mat _ _ _ _ _=>exact h.elim
    ·exact h.elim
   · -- a row is put into its place
    rename_i u i hv0 cv0 s0 r0;split at h
    ·rename_i u2 _ _;obtain⟨en,he,h⟩:=h;obtain⟨yy,hy0,_,hy⟩:=Zoa hp (λ_ e=>by cases e) rfl rfl;have hy0:a.eval x=yy:=(List.cons.inj hy0).1;have hy:=hy en he;obtain⟨kk,st,L⟩:=en;obtain⟨hm,hkk⟩:=Zq he;have hkk:kk=u:=hkk;subst hkk
     cases L with
     | mat ty0 ty2 s m hv =>
      obtain⟨en2,he2,h⟩:=h;obtain⟨k2,st2,L2⟩:=en2;obtain⟨hm2,hkk2⟩:=Zq he2;have hkk2:k2=u2:=hkk2;subst hkk2
      cases L2 with
      | own ty3 s' xs fz =>
       cases fz with
       | true=>exact h.elim
       | false =>
        simp only at h;split at h
        ·rename_i l' ht3 hl';have ht3:=eQ ht3;subst ht3;obtain⟨c3,c4⟩:=Z3 hl'
         cases c3;cases c4
         have hne:kk≠k2:=λe=>by subst e;rw[he]at he2;cases he2
         obtain⟨b,cap,rows,g1,rfl,g3,g4⟩:=hy;obtain⟨es2,E2,h1,h2,h2',h3,r2⟩:=hr.del he2;obtain⟨ob2,cap2,cs2,f1,f2,rfl⟩:=h1;have he':lkE (era l k2) kk=some ⟨kk,st,.mat ty0 ty3 s m hv⟩:=by
          rw[Z6b hr.nd,iN (λe=>hne e.symm)];exact he
         obtain⟨esm,E',hsp1,hsp2,hsp3⟩:=Zrf h2' he';obtain⟨ob',cap',rows,es3,q1,q2,rfl⟩:=hsp1;have q1:γ kk = .mat ob' cap' rows:=q1;rw[g1]at q1;cases q1;have hrl:=ZQf q2;obtain⟨p',hp'⟩:∃ p',rows[i]? = some p':=⟨_,List.getElem?_eq_getElem (by omega)⟩;obtain⟨hh,e1,e2,csx,k1,k3⟩:=Zit q2 hp' (p:=(ob2,cap2)) (r':=xs) f2;have hq1:a.eval y = .slice (mkA ob2) xs.length cap2:=by
          obtain⟨yq,hyq0,_,hyq⟩:=Zoa hq (λ_ e=>by cases e) rfl rfl;obtain⟨oq,cq,gq1,gq2⟩:=hyq _ he2;have f1:γ k2 = .own ob2 cap2:=f1;rw[f1]at gq1;cases gq1;exact ((List.cons.inj hyq0).1).trans gq2
         have hs:St N w0 v0 [] (.own (some b) ty0 1 m.length cap (Zo rows m) :: .own ob2 ty3 s.n xs.length cap2 cs2 :: (es3++E'.flatten)) v a w:=by
          refine hr.st.perm ((h3.trans (List.Perm.append_left _ hsp3)).trans ?_);simp only[List.cons_append];exact List.Perm.swap _ _ _
         obtain⟨σ,hσ,ee1,ee2⟩:=hs.ev2 x y;rw[hy0]at ee1;rw[hq1]at ee2;have hS1:Sized P t ([Value.slice (mkA ob2) xs.length cap2]:List Value).length sz.2:=by
          have:sz.1=1:=b1.symm;rw[this]at hS;exact hS
         have hfit:0+i*1+([Value.slice (mkA ob2) xs.length cap2]:List Value).length≤(Zo rows m).length:=by
          rw[ZUd hrl];simp only[List.length_singleton];omega
         obtain⟨w',hrun,hst⟩:=ZQd (P:=P) hσ hS1 (cs:=[Value.slice (mkA ob2) xs.length cap2]) (z:=.slice (mkA ob2) xs.length cap2) (ZId rfl) rfl (i:=0) rfl hfit rfl;have hh':(Zo rows m).take (0+i*1)++[Value.slice (mkA ob2) xs.length cap2]++(Zo rows m).drop (0+i*1+1)=Zo (rows.set i (ob2,cap2)) (m.set i xs):=by
          rw[Nat.zero_add,Nat.mul_one];exact hh
         have hst:=hst.bare;simp only[List.set_cons_zero,List.length_singleton]at hst;rw[hh']at hst;subst k1;have hst':St N w0 v0 [] (.own (some b) ty0 1 (m.set i xs).length cap (Zo (rows.set i (ob2,cap2)) (m.set i xs)) :: (e1 ++ .own ob2 ty3 s.n xs.length cap2 cs2 :: e2)++E'.flatten) v a w':=by
          rw[List.length_set];refine (hst.drop (ℓ':=.own (some b) ty0 1 m.length cap (Zo (rows.set i (ob2,cap2)) (m.set i xs)) :: .own ob2 ty3 s.n xs.length cap2 cs2 :: ((e1++e2)++E'.flatten)) ?_).perm ?_
          ·refine List.Sublist.cons_cons _ (List.Sublist.cons_cons _ (List.Sublist.append (List.Sublist.append (List.Sublist.refl _) (List.sublist_cons_self _ _)) (List.Sublist.refl _)))
          ·simp only[List.cons_append];refine List.Perm.cons _ ?_;rw[← List.cons_append];exact List.Perm.append_right _ (List.perm_middle.symm)
         have hle:Le U v γ (era l k2) v (ZBb γ kk (.mat (some b) cap (rows.set i (ob2,cap2)))) (⟨kk,n,.mat ty0 ty3 s (m.set i xs) n⟩ :: era (era l k2) kk):=Le.upd r2 he' (Zb.le_refl _) (λ_ hne=>Z5b hne) ⟨rfl,by simp,⟨_,_,_,_,g1,ZWa,λe=>absurd e hn⟩,λe=>absurd e hn⟩;subst ho;refine Zug (r2.upd hX (r2.ul _ (Zq he').1).1 hsp2 hst' hle (λ_ hne=>Z5b hne) ⟨some b,cap,rows.set i (ob2,cap2),_,ZWa,k3,rfl⟩ ?_ hX) hU rfl (hrun ee1 ee2) h;exact List.Perm.refl _
        ·exact h.elim
      | box _ _=>exact h.elim
      | mid _ _ _ _ _ _=>exact h.elim
      | mat _ _ _ _ _=>exact h.elim
     | mid ty0 ty2 s m hv sm =>
      cases sm with
      | swp _ _=>exact h.elim
      | hol i1 =>
       obtain⟨_,heq,h⟩:=h;have heq:i=i1:=by
        unfold eqN at heq;split at heq
        ·assumption
        ·cases heq
       subst heq;obtain⟨en2,he2,h⟩:=h;obtain⟨k2,st2,L2⟩:=en2;obtain⟨hm2,hkk2⟩:=Zq he2;have hkk2:k2=u2:=hkk2;subst hkk2
       cases L2 with
       | own ty3 s' xs fz =>
        cases fz with
        | true=>exact h.elim
        | false =>
         simp only at h;split at h
         ·rename_i l' ht3 hl';have ht3:=eQ ht3;subst ht3;obtain⟨c3,c4⟩:=Z3 hl'
          cases c3;cases c4
          have hne:kk≠k2:=λe=>by subst e;rw[he]at he2;cases he2
          obtain⟨b,cap,rows,g1,rfl,g3,g4⟩:=hy;obtain⟨es2,E2,h1,h2,h2',h3,r2⟩:=hr.del he2;obtain⟨ob2,cap2,cs2,f1,f2,rfl⟩:=h1;have he':lkE (era l k2) kk=some ⟨kk,st,.mid ty0 ty3 s m hv (.hol i)⟩:=by
           rw[Z6b hr.nd,iN (λe=>hne e.symm)];exact he
          obtain⟨esm,E',hsp1,hsp2,hsp3⟩:=Zrf h2' he';obtain⟨ob',cap',rows,es3,hs,es4,q1,q2,⟨rfl,e1,c,e2,rfl,rfl,rfl⟩,rfl⟩:=hsp1;have q1:γ kk = .mat ob' cap' rows:=q1;rw[g1]at q1;cases q1;have hrl:=ZQf q2;obtain⟨hh,k3⟩:=Znw q2 (p:=(ob2,cap2)) (r':=xs) f2;have hq1:a.eval y = .slice (mkA ob2) xs.length cap2:=by
           obtain⟨yq,hyq0,_,hyq⟩:=Zoa hq (λ_ e=>by cases e) rfl rfl;obtain⟨oq,cq,gq1,gq2⟩:=hyq _ he2;have f1:γ k2 = .own ob2 cap2:=f1;rw[f1]at gq1;cases gq1;exact ((List.cons.inj hyq0).1).trans gq2
          have hs:St N w0 v0 [] (.own (some b) ty0 1 m.length cap (Zo rows m) :: .own ob2 ty3 s.n xs.length cap2 cs2 :: (e1++e2++E'.flatten)) v a w:=by
           refine hr.st.perm ((h3.trans (List.Perm.append_left _ hsp3)).trans ?_);simp only[List.cons_append];exact List.Perm.swap _ _ _
          obtain⟨σ,hσ,ee1,ee2⟩:=hs.ev2 x y;rw[hy0]at ee1;rw[hq1]at ee2;have hS1:Sized P t ([Value.slice (mkA ob2) xs.length cap2]:List Value).length sz.2:=by
           have:sz.1=1:=b1.symm;rw[this]at hS;exact hS
          have hfit:0+e1.length*1+([Value.slice (mkA ob2) xs.length cap2]:List Value).length≤(Zo rows m).length:=by
           rw[ZUd hrl];simp only[List.length_singleton];omega
          obtain⟨w',hrun,hst⟩:=ZQd (P:=P) hσ hS1 (cs:=[Value.slice (mkA ob2) xs.length cap2]) (z:=.slice (mkA ob2) xs.length cap2) (ZId rfl) rfl (i:=0) rfl hfit rfl;have hh':(Zo rows m).take (0+e1.length*1)++[Value.slice (mkA ob2) xs.length cap2]++(Zo rows m).drop (0+e1.length*1+1)=Zo (rows.set e1.length (ob2,cap2)) (m.set e1.length xs):=by
           rw[Nat.zero_add,Nat.mul_one];exact hh
          have hst:=hst.bare;simp only[List.set_cons_zero,List.length_singleton]at hst;rw[hh']at hst;have hst':St N w0 v0 [] (.own (some b) ty0 1 (m.set e1.length xs).length cap (Zo (rows.set e1.length (ob2,cap2)) (m.set e1.length xs)) :: (e1 ++ .own ob2 ty3 s.n xs.length cap2 cs2 :: e2)++E'.flatten) v a w':=by
           rw[List.length_set];refine hst.perm ?_;simp only[List.cons_append,aAq];exact List.Perm.cons _ List.perm_middle.symm
          have hle:Le U v γ (era l k2) v (ZBb γ kk (.mat (some b) cap (rows.set e1.length (ob2,cap2)))) (⟨kk,n,.mat ty0 ty3 s (m.set e1.length xs) n⟩ :: era (era l k2) kk):=Le.upd r2 he' (Zb.le_refl _) (λ_ hne=>Z5b hne) ⟨rfl,by simp,⟨_,_,_,_,g1,ZWa,λe=>absurd e hn⟩,λe=>absurd e hn⟩;subst ho;exact Zug (r2.upd hX (r2.ul _ (Zq he').1).1 hsp2 hst' hle (λ_ hne=>Z5b hne) ⟨some b,cap,rows.set e1.length (ob2,cap2),_,ZWa,k3,rfl⟩ (List.Perm.refl _) hX) hU rfl (hrun ee1 ee2) h
         ·exact h.elim
       | box _ _=>exact h.elim
       | mid _ _ _ _ _ _=>exact h.elim
       | mat _ _ _ _ _=>exact h.elim
     | box _ _=>exact h.elim
     | own _ _ _ _=>exact h.elim
    · -- another row's header
     rename_i u2 j hv2 cv2 t2 r2 _ _;obtain⟨en,he,h⟩:=h;obtain⟨yy,hy0,_,hy⟩:=Zoa hp (λ_ e=>by cases e) rfl rfl;have hy0:a.eval x=yy:=(List.cons.inj hy0).1;have hy:=hy en he;obtain⟨yq,hq0,_,hqy⟩:=Zoa hq (λ_ e=>by cases e) rfl rfl;have hq0:a.eval y=yq:=(List.cons.inj hq0).1;obtain⟨kk,st,L⟩:=en;obtain⟨hm,hkk⟩:=Zq he;have hkk:kk=u:=hkk;subst hkk;have hS1:∀ z:Value,Sized P t ([z]:List Value).length sz.2:=λz=>by
      have:sz.1=1:=b1.symm;rw[this]at hS;exact hS
     cases L with
     | mat ty0 ty2 s m hv =>
      simp only at h;split at h
      ·rename_i bu bh;have bu:=eQ bu;have bh:=eQ bh;subst bu bh;obtain⟨b,cap,rows,g1,rfl,g3,g4⟩:=hy;obtain⟨ob',cap',rows',obi,capi,j1,j2,rfl,⟨rj,j3,j4⟩,_⟩:=hqy _ he rfl;rw[g1]at j1;cases j1;obtain⟨es,E',h1,h2,_,h3,_⟩:=hr.del he;obtain⟨ob2,cap2,rows2,es3,q1,q2,rfl⟩:=h1;have q1:γ u2 = .mat ob2 cap2 rows2:=q1;rw[g1]at q1;cases q1;have hrl:=ZQf q2;have hs:=hr.st.perm h3;obtain⟨σ,hσ,ee1,ee2⟩:=hs.ev2 x y;rw[hy0]at ee1;rw[hq0]at ee2;have hfit:0+i*1+([Value.slice (mkA obi) r2.length capi]:List Value).length≤(Zo rows m).length:=by
        rw[ZUd hrl];simp only[List.length_singleton];omega
       obtain⟨w',hrun,hst⟩:=ZQd (P:=P) hσ (hS1 _) (cs:=[Value.slice (mkA obi) r2.length capi]) (z:=.slice (mkA obi) r2.length capi) (ZId rfl) rfl (i:=0) rfl hfit rfl;have hst:=hst.bare;simp only[List.set_cons_zero,List.length_singleton,List.cons_append]at hst;have hset:(Zo rows m).take (0+i*1)++[Value.slice (mkA obi) r2.length capi]++(Zo rows m).drop (0+i*1+1)=(Zo rows m).set i (.slice (mkA obi) r2.length capi):=by
        rw[List.set_eq_take_append_cons_drop,iP (by rw[ZUd hrl];exact g3)];simp
       rw[hset]at hst;have hjj:(Zo rows m)[j]? = some (.slice (mkA obi) r2.length capi):=by
        rw[Zyi j2 j3,j4]
       have hle:Le U v γ l v γ (⟨u2,n,.mid ty0 ty2 s m hv (.swp i j)⟩ :: era l u2):=Le.upd hr he (Zb.le_refl _) (λ_ _=>rfl) ⟨rfl,rfl,⟨_,_,_,_,g1,g1,λ_=>⟨rfl,rfl,rfl⟩⟩,λe=>absurd e hn⟩;subst ho;exact Zug (hr.upd hX (hr.ul _ hm).1 h2 hst hle (λ_ _=>rfl) ⟨some b,cap,rows,es3,_,es3,g1,q2,⟨rfl,g3,_,hjj,rfl⟩,rfl⟩ (List.Perm.refl _) (hr.ul _ hm).2.2) hU rfl (hrun ee1 ee2) h
      ·exact h.elim
     | mid ty0 ty2 s m hv sm =>
      cases sm with
      | hol _=>exact h.elim
      | swp i0 j0 =>
       simp only at h;split at h
       ·rename_i bu bh;have bu:=eQ bu;have bh:=eQ bh;subst bu bh;obtain⟨_,q1,_,q2,h⟩:=h;have q1:i=j0:=by
         unfold eqN at q1;split at q1
         ·assumption
         ·cases q1
        have q2:j=i0:=by
         unfold eqN at q2;split at q2
         ·assumption
         ·cases q2
        subst q1 q2;obtain⟨b,cap,rows,g1,rfl,g3,g4⟩:=hy;obtain⟨ob',cap',rows',obi,capi,j1,j2,rfl,⟨rj,j3,j4⟩,_⟩:=hqy _ he rfl;rw[g1]at j1;cases j1;obtain⟨es,E',h1,h2,_,h3,_⟩:=hr.del he;obtain⟨ob2,cap2,rows2,es3,hs0,es4,q1,q2,⟨rfl,q3,hx,q4,rfl⟩,rfl⟩:=h1;have q1:γ u2 = .mat ob2 cap2 rows2:=q1;rw[g1]at q1;cases q1;have hrl:=ZQf q2;have hs:=hr.st.perm h3;obtain⟨σ,hσ,ee1,ee2⟩:=hs.ev2 x y;rw[hy0]at ee1;rw[hq0]at ee2;have hfit:0+i*1+([Value.slice (mkA obi) r2.length capi]:List Value).length≤((Zo rows m).set j hx).length:=by
         rw[List.length_set,ZUd hrl];simp only[List.length_singleton];omega
        obtain⟨w',hrun,hst⟩:=ZQd (P:=P) hσ (hS1 _) (cs:=[Value.slice (mkA obi) r2.length capi]) (z:=.slice (mkA obi) r2.length capi) (ZId rfl) rfl (i:=0) rfl hfit rfl;have hst:=hst.bare;simp only[List.set_cons_zero,List.length_singleton,List.cons_append]at hst;have hset:((Zo rows m).set j hx).take (0+i*1)++[Value.slice (mkA obi) r2.length capi]++((Zo rows m).set j hx).drop (0+i*1+1)=((Zo rows m).set j hx).set i (.slice (mkA obi) r2.length capi):=by
         rw[List.set_eq_take_append_cons_drop (l:=(Zo rows m).set j hx),iP (by rw[List.length_set,ZUd hrl];exact g3)];simp
        rw[hset]at hst;obtain⟨pi,hpi⟩:∃ p,rows[i]? = some p:=⟨_,List.getElem?_eq_getElem (by omega)⟩;obtain⟨ri,hri⟩:∃ r,m[i]? = some r:=⟨_,List.getElem?_eq_getElem g3⟩;have hhx:hx=ZZd pi ri:=by
         rw[Zyi hpi hri]at q4;exact (Option.some.inj q4).symm
        have hhj:Value.slice (mkA obi) r2.length capi=ZZd (obi,capi) rj:=by unfold ZZd;rw[j4]
        obtain⟨w1,es5,w2,w3⟩:=ZCv q2 j2 hpi j3 hri;rw[hhx,hhj,w1]at hst;have hln:(ZVd m j i).length=m.length:=by unfold ZVd;simp
        have hst':St N w0 v0 [] (.own (some b) ty0 1 (ZVd m j i).length cap (Zo ((rows.set j pi).set i (obi,capi)) (ZVd m j i)) :: es5++E'.flatten) v a w':=by
         rw[hln];refine hst.perm ?_;simp only[List.cons_append];exact List.Perm.cons _ (List.Perm.append_right _ w2.symm)
        have hle:Le U v γ l v (ZBb γ u2 (.mat (some b) cap ((rows.set j pi).set i (obi,capi)))) (⟨u2,n,.mat ty0 ty2 s (ZVd m j i) n⟩ :: era l u2):=Le.upd hr he (Zb.le_refl _) (λ_ hne=>Z5b hne) ⟨rfl,hln,⟨_,_,_,_,g1,ZWa,λe=>absurd e hn⟩,λe=>absurd e hn⟩;subst ho;exact Zug (hr.upd hX (hr.ul _ hm).1 h2 hst' hle (λ_ hne=>Z5b hne) ⟨some b,cap,_,_,ZWa,w3,rfl⟩ (List.Perm.refl _) hX) hU rfl (hrun ee1 ee2) h
       ·exact h.elim
     | box _ _=>exact h.elim
     | own _ _ _ _=>exact h.elim
    ·exact h.elim
   · -- an element of a row
    rename_i u i j hv cv s r x0 off;split at h
    ·rename_i z hz;obtain⟨yy,hy0,_,hy⟩:=Zoa hp (λ_ e=>by cases e) rfl rfl;have hy0:a.eval x=yy:=(List.cons.inj hy0).1;obtain⟨⟨kz,sz0,Lz⟩,hez,h⟩:=h;have hLz:∃ ty ty2 t m hv,Lz = .mat ty ty2 t m hv:=by
      cases Lz with
      | mat ty ty2 t m hv=>exact⟨_,_,_,_,_,rfl⟩
      | _=>exact h.elim
     obtain⟨_,_,_,_,_,rfl⟩:=hLz;obtain⟨y1,l1,γ1,v1,ℓ1,hB,r1,le1,q1⟩:=Zkd hn hX FU h hr (Z6i FU hz trivial hkq);obtain⟨en,he,hC⟩:=hB;have hp1:=Zob le1 hk hp;obtain⟨yy',hy0',_,hy1⟩:=Zoa hp1 (λ_ e=>by cases e) rfl rfl;have hy0':a.eval x=yy':=(List.cons.inj hy0').1;have hy1:=hy1 en he;obtain⟨kk,st,L⟩:=en;obtain⟨hm,hkk⟩:=Zq he;have hkk:kk=u:=hkk;subst hkk
     cases L with
     | mat ty0 ty2 s' m hv' =>
      simp only at hC;split at hC
      ·rename_i b4 b5;have b4:=eQ b4;have b5:=eQ b5;subst b4 b5;split at hC
       ·rename_i r' hr';obtain⟨ob,cap,rows,bi,capi,g1,g2,rfl,_,g4,g6⟩:=hy1 rfl;obtain⟨⟨m',c1,c2⟩,cx⟩:=g6 rfl;obtain⟨c3,c4⟩:=Z3 c1
        cases c3;cases c4
        have hr':r.set j y1=r':=by
         obtain⟨c5,c6⟩:=Z3 hr';exact c6
        subst hr';obtain⟨⟨k0,st0,L0⟩,he0,hce⟩:=le1.l _ _ hk.1 he;obtain⟨es,E',h1,h2,_,h3,_⟩:=r1.del he;obtain⟨ob',cap',rows',es3,f1,f2,rfl⟩:=h1;have f1:γ1 kk = .mat ob' cap' rows':=f1;rw[g1]at f1;cases f1
        cases L0 with
        | mat ty1 ty3 t1 m1 hv1 =>
         obtain⟨d1,d2,⟨obx,capx,rowsx,rowsy,d3,d4,d5⟩,d6⟩:=hce;obtain⟨d7,d8⟩:=d6 hk.2.2
         cases d8
         obtain⟨d9,d10,_⟩:=d5 hk.2.1;rw[g1]at d4;cases d4;subst d10;obtain⟨c,hc1,hc2⟩:=ZSr hr he0 d3 g2 c2 cx;obtain⟨c',hc1',hc2'⟩:=ZSr r1 he g1 g2 c2 cx;have e1:=ZOk hc2 hc2' ((Rep.len _ hc1).trans (Rep.len _ hc1').symm);obtain⟨z1',_,zfit⟩:=ZGl hz hc1 hcs hkq;have q2:=q1 _ z1';rw[hlen]at q2 zfit;obtain⟨csx,ea,eb,k1,k2,k3⟩:=Z4r f2 g2 c2;subst k1;have hs:St N w0 v0 [] (.own (some bi) ty2 s.n r.length capi csx :: .own ob ty0 1 m.length cap (Zo rows m) :: (ea++eb++E'.flatten)) v1 a w:=by
          refine r1.st.perm (h3.trans ?_);simp only[List.cons_append,aAq];exact (List.Perm.cons _ List.perm_middle).trans (List.Perm.swap _ _ _)
         have hrel:=Z1a k2 cx;rw[ZW]at hrel;have hl3:=Rep.len _ hrel;have hl1:=Rep.len _ hc1;rw[ZW]at hl3 hl1;have hcell:(csx.drop (j*s.n)).take s.n=c:=by
          have hw:=Zwe hs (j:=0) rfl rfl g4 0 ((csx.drop (j*s.n)).take s.n) (by rw[hl3,List.drop_zero,List.take_take,Nat.min_self]) (by omega);exact ZOk (by simpa using hw) hc2 (hl3.trans hl1.symm)
         obtain⟨σ,hσ,e1,e2⟩:=hs.ev2 x y;rw[hy0']at e1;rw[hqe]at e2;have hset:=Zyp k2 g4 hcell q2 (ZW s).symm (by omega);have hfit2:0+j*s.n+off+sz.1≤csx.length:=Zwq hs (j:=0) rfl g4 (by omega);obtain⟨w',hrun,hst⟩:=ZQd (P:=P) hσ hS hcells hlen (i:=0) rfl hfit2 hpl;rw[hlen]at hst;have hst:=hst.bare;obtain⟨k4,k5⟩:=k3 (r.set j y1) _ (List.length_set ..) hset;have hst':St N w0 v0 [] (.own ob ty0 1 (m.set i (r.set j y1)).length cap (Zo rows (m.set i (r.set j y1))) :: (ea ++ .own (some bi) ty2 s.n r.length capi (csx.take (0+j*s.n+off)++cs++csx.drop (0+j*s.n+off+sz.1)) :: eb)++E'.flatten) v1 a w':=by
          rw[List.length_set,k4];refine hst.perm ?_;simp only[List.set_cons_zero,List.cons_append,aAq];exact (List.Perm.swap _ _ _).trans (List.Perm.cons _ List.perm_middle.symm)
         have hle:Le U v1 γ1 l1 v1 γ1 (⟨kk,n,.mat ty0 ty2 s (m.set i (r.set j y1)) hv'⟩ :: era l1 kk):=Le.upd r1 he (Zb.le_refl _) (λ_ _=>rfl) ⟨rfl,by simp,⟨_,_,_,_,g1,g1,λ_=>⟨rfl,rfl,ZEA c2 (List.length_set ..)⟩⟩,λe=>absurd e hn⟩;subst ho;exact Zug (r1.upd hX (r1.ul _ hm).1 h2 hst' hle (λ_ _=>rfl) ⟨ob,cap,rows,_,g1,k5,rfl⟩ (List.Perm.refl _) (r1.ul _ hm).2.2) hU rfl (hrun e1 e2) hC
        | box _ _=>exact hce.elim
        | mid _ _ _ _ _ _=>rw[he0]at hez;cases hez
        | own _ _ _ _=>exact hce.elim
       ·exact hC.elim
      ·exact hC.elim
     | box _ _=>exact hC.elim
     | mid _ _ _ _ _ _=>exact hC.elim
     | own _ _ _ _=>exact hC.elim
    ·exact h.elim
   ·exact h.elim
  ·exact h.elim
end
end Go.Eng
namespace Go.Eng
open Go.RowKit
def ZWd:Rep Value where
 n:=1
 agg:=false
 rel _ cs x:=cs=[x]∧plain x=true
 len h:=by rw[h.1];rfl
 mono _ h:=h
 flat h:=by obtain⟨h1,h2⟩:=h;rw[h1];simp[h2]
theorem Zhn {v:Zb}:∀ {l:List Value},l.all plain=true→ZWd.rels v l l
 | [],_=>rfl
 | x :: l,h=>by
  simp only[List.all_cons,Bool.and_eq_true]at h
  exact⟨[x],l,rfl,⟨rfl,h.1⟩,Zhn h.2⟩
theorem ZXl {v:Zb}:∀ {l cs:List Value},ZWd.rels v cs l→cs=l
 | [],cs,h=>h
 | x :: l,cs,h=>by
  obtain⟨c1,c2,h1,h2,h3⟩:=h
  rw[h1,h2.1,ZXl h3];rfl
theorem ZLm {α:Type}:∀ {rows:List (Option Nat×Nat)} {m:List (List α)},(Zo rows m).all plain=true
 | [],_=>rfl
 | _ :: _,[]=>rfl
 | p :: ps,r :: rs=>by
  have:=ZLm (rows:=ps) (m:=rs)
  simp only[Zo,List.all_cons,this,Bool.and_true]
  obtain⟨ob,cap⟩:=p
  cases ob <;> rfl
theorem ZTp {α:Type}:∀ {rows rows2:List (Option Nat×Nat)} {m m2:List (List α)},rows.length=m.length→Zo (rows++rows2) (m++m2)=Zo rows m++Zo rows2 m2
 | [],_,[],_,_=>rfl
 | p :: ps,rows2,r :: rs,m2,h=>by
  have:=ZTp (rows:=ps) (rows2:=rows2) (m:=rs) (m2:=m2) (by simpa using h)
  simp[Zo,this]
 | [],_,_ :: _,_,h=>by cases h
 | _ :: _,_,[],_,h=>by cases h
theorem Z9q {v:Zb} {ty:TypeId} {t:T}:∀ {rows rows2:List (Option Nat×Nat)} {m m2:List (List t.den)} {es es2:List Loc},Zua v ty t rows m es→Zua v ty t rows2 m2 es2→Zua v ty t (rows++rows2) (m++m2) (es++es2)
 | [],_,[],_,es,_,h,k=>by rw[show es=[] from h];exact k
 | p :: ps,rows2,r :: rs,m2,es,es2,⟨cs,es',h1,h2,h3⟩,k=>by
  subst h2
  exact⟨cs,es'++es2,h1,rfl,Z9q h3 k⟩
 | [],_,_ :: _,_,_,_,h,_=>h.elim
 | _ :: _,_,[],_,_,_,h,_=>h.elim
theorem Zrx {v:Zb} {ty:TypeId} {t:T} {rows:List (Option Nat×Nat)} {m:List (List t.den)} {es:List Loc} {i:Nat} {p:Option Nat×Nat} {r:List t.den} (h:Zua v ty t rows m es) (hp:rows[i]? = some p) (hr:m[i]? = some r) :
  ∃ cs e1 e2,es=e1 ++ .own p.1 ty t.n r.length p.2 cs :: e2∧e1.length=i∧t.rep.rels v cs r:=by
 obtain⟨k1,k2,k3⟩:=Zjg.1 h;obtain⟨cs,q1,q2⟩:=k3 i p r hp hr;have hlt:=(List.getElem?_eq_some_iff.1 q2).1;refine⟨cs,es.take i,es.drop (i+1),?_,by simp;omega,q1⟩;rw[← (List.getElem?_eq_some_iff.1 q2).2,← List.drop_eq_getElem_cons hlt,List.take_append_drop]
section
variable {P:Program} {N:Nat} {G:V→Value→Prop} {w0:Base} {v0:Zb} {U X:Nat→Prop} {f:Fr} {l:Lo} {a:Act} {w:World} {γ:Nat→Gh} {v:Zb} {ℓ:List Loc} {n:Nat}
variable {ty:TypeId} {pos:String} {aft:Array Edge} {g:Option (Nat×Bool)}
theorem ZQj (hr:RelX N G w0 v0 U X f l a w γ v ℓ) (hU:∀ k,U k→X k) (hX:X n) (hn:¬ U n) {e e2:TypeId} {s:T} {m:List (List s.den)} {rows:List (Option Nat×Nat)} {o:Oper} {ob:Option Nat} {cap:Nat} {w':World} {es ℓ':List Loc} {E:List (List Loc)} {Post:Unit→Fr→Lo→Prop} (hd:∀ k,o.dst=some k→k<N) (hE:F2 (ZIa v γ l) l E) (hℓ:ℓ'=E.flatten)
  (hR:Zua v e2 s rows m es) (hst:St N w0 v0 [] (.own ob e 1 m.length cap (Zo rows m) :: es++ℓ') v a w') (hrun:(execOp a.eval o).run P w = .ok (.value (.slice (mkA ob) m.length cap)) w') (h:Zk n (Ev.new n (.mat e e2 s m n) (ret o (.own n))) f l Post):Zxa P N G w0 v0 X o a w Post:=by
 obtain⟨hnew,h⟩:=h;have hr':=hr.new (γ':=ZBb γ n (.mat ob cap rows)) (L':=.mat e e2 s m n) hX hX hn hnew hE hst (Zb.le_refl _) (λ_ h=>Z5b h) ⟨ob,cap,rows,es,ZWa,hR,rfl⟩ (by rw[hℓ]) hX;refine fin (x:=.own n) (hr'.mono hU λ_ h=>h) hrun hd hX ⟨[_],⟨_,rfl,by cases ob <;> rfl,λe' he'=>?_⟩,rfl⟩ hX h;rw[ZN,iP rfl]at he';cases he';exact⟨_,_,_,ZWa,rfl⟩
theorem RelX.take (hr:RelX N G w0 v0 U X f l a w γ v ℓ) (hX:X n) (hn:¬ U n) {u st hv i:Nat} {ty0 ty2:TypeId} {t:T} {m:List (List t.den)} {r:List t.den} (he:lkE l u=some ⟨u,st,.mat ty0 ty2 t m hv⟩) {ob:Option Nat} {cap:Nat} {rows:List (Option Nat×Nat)} {p:Option Nat×Nat} (hγ:γ u = .mat ob cap rows) (hp:rows[i]? = some p) (hm:m[i]? = some r) :
  ∃ cs ℓ' E',t.rep.rels v cs r∧RelX N G w0 v0 U X f (⟨u,n,.mid ty0 ty2 t m hv (.hol i)⟩ :: era l u) a w γ v ℓ'∧F2 (ZIa v γ (⟨u,n,.mid ty0 ty2 t m hv (.hol i)⟩ :: era l u)) (⟨u,n,.mid ty0 ty2 t m hv (.hol i)⟩ :: era l u) E'∧ℓ'=E'.flatten∧St N w0 v0 [] (.own p.1 ty2 t.n r.length p.2 cs :: ℓ') v a w:=by
 obtain⟨es,E',h1,h2,_,h3,_⟩:=hr.del he;obtain⟨ob',cap',rows',es3,f1,f2,rfl⟩:=h1;have f1:γ u = .mat ob' cap' rows':=f1;rw[hγ]at f1;cases f1;obtain⟨cs,e1,e2,k1,k2,k3⟩:=Zrx f2 hp hm;subst k1;have hs:St N w0 v0 [] (.own p.1 ty2 t.n r.length p.2 cs :: (.own ob ty0 1 m.length cap (Zo rows m) :: (e1++e2)++E'.flatten)) v a w:=by
  refine hr.st.perm (h3.trans ?_);simp only[List.cons_append,aAq];exact (List.Perm.cons _ List.perm_middle).trans (List.Perm.swap _ _ _)
 have hle:Le U v γ l v γ (⟨u,n,.mid ty0 ty2 t m hv (.hol i)⟩ :: era l u):=Le.upd hr he (Zb.le_refl _) (λ_ _=>rfl) ⟨rfl,rfl,⟨_,_,_,_,hγ,hγ,λ_=>⟨rfl,rfl,rfl⟩⟩,λe=>absurd e hn⟩;have hrl:ZIa v γ (⟨u,n,.mid ty0 ty2 t m hv (.hol i)⟩ :: era l u) ⟨u,n,.mid ty0 ty2 t m hv (.hol i)⟩ (.own ob ty0 1 m.length cap (Zo rows m) :: (e1++e2)):=⟨ob,cap,rows,_,_,_,hγ,f2,⟨rfl,e1,_,e2,rfl,k2,rfl⟩,rfl⟩;have r2:=hr.upd hX (hr.ul _ (Zq he).1).1 h2 (hs.drop (List.sublist_cons_self _ _)) hle (λ_ _=>rfl) hrl (List.Perm.refl _) (hr.ul _ (Zq he).1).2.2;obtain⟨E2,hE2,hp2⟩:=r2.lr;exact⟨cs,E2.flatten,E2,k3,⟨r2.st.perm hp2,r2.fr,⟨E2,hE2,List.Perm.refl _⟩,r2.nd,r2.uf,r2.ul,r2.gh⟩,hE2,rfl,hs.perm (List.Perm.cons _ hp2)⟩
end
end Go.Eng
namespace Go.Eng
open Go.RowKit
theorem Z1e {cs r:List Value} (h:zSl cs=some r):cs = .slice none 0 0 :: r:=by
 unfold zSl at h;split at h
 ·cases h;rfl
 ·cases h
theorem ZYt {v:Zb}:∀ {t:T} {cs r:List Value} {x:t.den},zOK t cs=some r→ZLf t=some x→∃ c1,cs=c1++r∧t.rep.rel v c1 x:=by
 intro t
 induction t with
 | int k =>
  intro cs r x h hx;unfold zOK at h
  cases hx
  split at h <;> try (cases h;done)
  all_goals (rename_i heq;cases heq)
  rename_i k' n rest;split at h
  ·rename_i hk
   cases h
   have:=ZBc hk;subst this;exact⟨[_],rfl,rfl,by cases k <;> decide⟩
  ·cases h
 | bool =>
  intro cs r x h hx;unfold zOK at h
  cases hx
  split at h <;> try (cases h;done)
  all_goals (rename_i heq;cases heq)
  cases h
  exact⟨[_],rfl,rfl⟩
 | flt k =>
  intro cs r x h hx;unfold zOK at h
  cases hx
  split at h <;> try (cases h;done)
  all_goals (rename_i heq;cases heq)
  split at h
  ·rename_i hk
   cases h
   have:=ZGt hk;subst this;exact⟨[_],rfl,rfl,by decide⟩
  ·cases h
 | str =>
  intro cs r x h hx;unfold zOK at h
  cases hx
  split at h <;> try (cases h;done)
  all_goals (rename_i heq;cases heq)
  rename_i s rest;split at h
  ·rename_i hs
   cases h
   refine⟨[_],rfl,?_,by show ([]:List UInt8).length≤maxLen;exact Nat.zero_le _⟩;have:s=ZA []:=by
    cases s with
    | mk d=>show _=ByteArray.mk _;congr 1;exact Array.ext' hs
   rw[this]
  ·cases h
 | one a ih =>
  intro cs r x h hx;simp only[zOK]at h;obtain⟨c1,h1,h2⟩:=ih h hx;exact⟨c1,h1,h2⟩
 | pair a b ia ib =>
  intro cs r x h hx;simp only[zOK]at h;simp only[ZLf]at hx;split at hx
  ·rename_i x1 x2 hx1 hx2
   cases hx
   split at h
   ·rename_i r1 hr1;obtain⟨c1,h1,h2⟩:=ia hr1 hx1;obtain⟨c2,h3,h4⟩:=ib h hx2;exact⟨c1++c2,by rw[h1,h3,aAq],c1,c2,rfl,h2,h4⟩
   ·cases h
  ·cases hx
 | ptr a _=>intro cs r x h hx;cases hx
 | slice a _ =>
  intro cs r x h hx
  cases hx
  simp only[zOK]at h;exact⟨[_],Z1e h,Zhj _ _⟩
 | leaf i =>
  intro cs r x h hx;unfold zOK at h;split at h <;> try (cases h;done)
  all_goals (rename_i heq;cases heq)
  ·cases hx;exact⟨[_],Z1e h,ZNg _⟩
  ·cases hx;exact⟨[_],Z1e h,Zjl _⟩
  ·cases hx;rw[Z1e h];exact⟨[_,_],rfl,ZOt _⟩
  ·cases hx
   split at h
   ·rename_i r1 hr1;rw[Z1e hr1,Z1e h];exact⟨[_,_,_],rfl,Zrq _⟩
   ·cases h
section
variable {P:Program} {N:Nat} {G:V→Value→Prop} {w0:Base} {v0:Zb} {U X:Nat→Prop} {f:Fr} {l:Lo} {a:Act} {w:World} {γ:Nat→Gh} {v:Zb} {ℓ:List Loc} {n:Nat}
variable {ty:TypeId} {pos:String} {aft:Array Edge} {g:Option (Nat×Bool)}
theorem Zij {t:T} {cs r:List Value} {z:V} (h:Ztg t cs=some (z,r)):∃ c1,cs=c1++r∧RR v γ l false z c1∧z.ok U∧c1.all plain=true:=by
 unfold Ztg at h;split at h
 ·rename_i x r' hx hr
  cases h
  obtain⟨c1,h1,h2⟩:=ZYt (v:=v) hr hx;exact⟨c1,h1,h2,trivial,Rep.flat _ h2⟩
 ·cases h
theorem Zwu {F:TypeId→List Value→Option (V×List Value)} (hF:∀ t cs z r,F t cs=some (z,r)→∃ c1,cs=c1++r∧RR v γ l false z c1∧z.ok U∧c1.all plain=true) :
  ∀ {fs:List Field} {cs r:List Value} {z:V},ZLk F fs cs=some (z,r)→∃ c1,cs=c1++r∧RR v γ l false z c1∧z.ok U∧c1.all plain=true
 | [],cs,r,z,h=>by cases h;exact⟨[],rfl,rfl,trivial,rfl⟩
 | x :: fs,cs,r,z,h=>by
  simp only[ZLk]at h
  split at h
  ·rename_i y cs1 hy
   split at h
   ·rename_i c cs2 hc
    cases h
    obtain⟨c1,h1,h2,h3,h4⟩:=hF _ _ _ _ hy
    obtain⟨c2,k1,k2,k3,k4⟩:=Zwu hF hc
    exact⟨c1++c2,by rw[h1,k1,aAq],⟨c1,c2,rfl,h2,k2⟩,⟨h3,k3⟩,by rw[List.all_append,h4,k4];rfl⟩
   ·cases h
  ·cases h
theorem ZKq {F:List Value→Option (V×List Value)} (hF:∀ cs z r,F cs=some (z,r)→∃ c1,cs=c1++r∧RR v γ l false z c1∧z.ok U∧c1.all plain=true):∀ {k:Nat} {cs r:List Value} {c:V},zRep F k cs=some (c,r)→∃ c1,cs=c1++r∧RR v γ l false c c1∧c.ok U∧c1.all plain=true
 | 0,cs,r,c,h=>by cases h;exact⟨[],rfl,rfl,trivial,rfl⟩
 | k+1,cs,r,c,h=>by
  simp only[zRep]at h
  split at h
  ·rename_i x cs1 hx
   split at h
   ·rename_i c' cs2 hc
    cases h
    obtain⟨c1,rfl,h2,h3,h4⟩:=hF _ _ _ hx
    obtain⟨c2,rfl,k2,k3,k4⟩:=ZKq hF hc
    exact⟨c1++c2,by simp,⟨c1,c2,rfl,h2,k2⟩,⟨h3,k3⟩,by rw[List.all_append,h4,k4];rfl⟩
   ·cases h
  ·cases h
theorem ZGo {C:Cf}:∀ (g:Nat) {t:TypeId} {cs r:List Value} {z:V},ZUi C g t cs=some (z,r)→∃ c1,cs=c1++r∧RR v γ l false z c1∧z.ok U∧c1.all plain=true
 | 0,_,_,_,_,h=>by cases h
 | g+1,t,cs,r,z,h=>by
  simp only[ZUi]at h
  split at h
  ·split at h
   ·cases h
    exact⟨[_,_,_],rfl,⟨[_],[_,_],rfl,rfl,[_],[_],rfl,Zjl _,[_],[],rfl,Zjl _,rfl⟩,⟨trivial,trivial,trivial,trivial⟩,rfl⟩
   ·cases h
  ·exact Zij h
  ·split at h
   ·exact Zij h
   ·exact Zij h
   ·exact Zij h
   ·exact Zij h
   ·split at h
    ·rename_i r' hr
     cases h
     exact⟨[_],Z1e hr,rfl,trivial,rfl⟩
    ·cases h
   ·split at h
    ·rename_i c r' hc
     cases h
     obtain⟨c1,h1,h2,h3,h4⟩:=Zwu (λt cs z r h=>ZGo g h) hc
     exact⟨c1,h1,h2,h3,h4⟩
    ·cases h
   ·split at h
    ·rename_i c r' hc
     cases h
     obtain⟨c1,h1,h2,h3,h4⟩:=ZKq (λcs z r h=>ZGo g h) hc
     exact⟨c1,h1,h2,h3,h4⟩
    ·cases h
   ·cases h
theorem Zio {C:Cf} {t:TypeId} {z:V} (h:Zjk C t=some z):∃ y cs,(∀ w,(zeroValue t).run C.P w = .ok y w)∧y.cells=cs.toArray∧RR v γ l false z cs∧z.ok U∧cs.all plain=true:=by
 unfold Zjk at h;split at h
 ·rename_i i hi;split at h
  ·rename_i y hy;split at h
   ·rename_i x hx
    cases h
    obtain⟨c1,h1,h2,h3,h4⟩:=ZGo (v:=v) (γ:=γ) (l:=l) (U:=U) FU hx;rw[List.append_nil]at h1;refine⟨y,c1,λw=>by simp[zeroValue,typeInfo,hi,hy],by rw[← h1],h2,h3,h4⟩
   ·cases h
  ·cases h
 ·cases h
theorem Zlu (hr:RelX N G w0 v0 U X f l a w γ v ℓ) (hU:∀ k,U k→X k) (hX:X n) (hn:¬ U n) {t:TypeId} {o:Oper} {c:V} {cs:List Value} {Post:Unit→Fr→Lo→Prop} (hd:∀ k,o.dst=some k→k<N) (hc:RR v γ l false c cs) (hk:c.ok U) (hp:cs.all plain=true)
  (hrun:(execOp a.eval o).run P w = .ok (.value (.pointer (some ⟨w.heap.size,0,none⟩))) (w.alloc (.cells cs.toArray t))) (h:Zk n (Ev.new n (.box t c) (ret o (.ptr n 0))) f l Post):Zxa P N G w0 v0 X o a w Post:=by
 obtain⟨hnew,h⟩:=h;obtain⟨E,hE,hpm⟩:=hr.lr;have hst:=(hr.st.perm hpm).newLoc (.cells cs.toArray t) (e:=.box w.heap.size t cs) rfl (heap_alloc_new w _);have hle:Le U v γ l v (ZBb γ n (.box w.heap.size)) (⟨n,n,.box t c⟩ :: l):=⟨Zb.le_refl _,λk e' hk he=>by
  have hne:n≠k:=λe=>hn (e ▸ hk);rw[ZN,iN hne]at he;refine⟨e',he,?_⟩;obtain⟨hm,hk'⟩:=Zq he;obtain⟨es,hrr⟩:=ZRe hE hm;have:=ZKg (U:=U) (γ':=ZBb γ n (.box w.heap.size)) hrr (Z5b (by rw[hk'];exact λe=>hne e.symm));rw[hk']at this;exact this⟩
 have hr':=hr.new (γ':=ZBb γ n (.box w.heap.size)) (L':=.box t c) hX hX hn hnew hE hst (Zb.le_refl _) (λ_ h=>Z5b h) ⟨_,cs,ZWa,ZEb hle hk hc,hp,rfl⟩ (List.Perm.refl _) hk;refine fin (x:=.ptr n 0) (hr'.mono hU λ_ h=>h) hrun hd hX ⟨[_],⟨_,rfl,Zie,λe' he'=>?_⟩,rfl⟩ hX h;rw[ZN,iP rfl]at he';cases he';exact⟨_,ZWa,rfl⟩
theorem ZNh (hr:RelX N G w0 v0 U X f l a w γ v ℓ) (hU:∀ k,U k→X k) (hX:X n) (hn:¬ U n) {e:TypeId} {s:T} {xs:List s.den} {o:Oper} {ob:Option Nat} {cap:Nat} {cs:List Value} {w':World} {ℓ':List Loc} {E:List (List Loc)} {Post:Unit→Fr→Lo→Prop} (hd:∀ k,o.dst=some k→k<N) (hE:F2 (ZIa v γ l) l E) (hℓ:ℓ'=E.flatten)
  (hst:St N w0 v0 [] (.own ob e s.n xs.length cap cs :: ℓ') v a w') (hc:s.rep.rels v cs xs) (hrun:(execOp a.eval o).run P w = .ok (.value (.slice (mkA ob) xs.length cap)) w') (h:Zk n (Ev.new n (.own e s xs false) (ret o (.own n))) f l Post):Zxa P N G w0 v0 X o a w Post:=by
 obtain⟨hnew,h⟩:=h;have hr':=hr.new (γ':=ZBb γ n (.own ob cap)) (L':=.own e s xs false) hX hX hn hnew hE hst (Zb.le_refl _) (λ_ h=>Z5b h) ⟨ob,cap,cs,ZWa,hc,rfl⟩ (by rw[hℓ];exact List.Perm.refl _) trivial;refine fin (x:=.own n) (hr'.mono hU λ_ h=>h) hrun hd hX ⟨[_],⟨_,rfl,by cases ob <;> rfl,λe' he'=>?_⟩,rfl⟩ hX h;rw[ZN,iP rfl]at he';cases he';exact⟨_,_,ZWa,rfl⟩
theorem Zem {t:TypeId} {q:EI} (h:ZTf P t=some q):Elem P t q.e q.sz q.by_ q.z∧0<q.by_:=by
 unfold ZTf at h;split at h
 ·rename_i e he;split at h
  ·rename_i i hi;split at h
   ·rename_i z hz;split at h
    ·rename_i h1 h2 h3
     cases h
     have h1:=eQ h1;have h2:1≤i.size:=lB h2;have h3:1≤i.bytes:=lB h3;exact⟨⟨he,by simp[hi,hz],by simpa using h1,h2⟩,h3⟩
    ·cases h
   ·cases h
  ·cases h
 ·cases h
theorem ZFu {ρ:Type} {g:Nat} {s:T} {c:V} {k:List s.den→Ev ρ} {Post:ρ→Fr→Lo→Prop} (h:Zk n (conv g (.slice s) (.agg c) k) f l Post):False:=by
 cases g with
 | zero=>exact h
 | succ g =>
  cases c with
  | cons x1 c =>
   cases c with
   | cons x2 r=>simp only[conv]at h;exact h
   | nl=>simp only[conv]at h;exact h
   | _=>simp only[conv]at h;exact h
  | _=>simp only[conv]at h;exact h
theorem ZWn {ρ:Type} {g:Nat} {s:T} {x:V} {k:List s.den→Ev ρ} {Post:ρ→Fr→Lo→Prop} (h:Zk n (conv g (.slice s) x k) f l Post):x.isAgg=false∧∀ c,x ≠ .tup c:=by
 cases x with
 | agg c=>exact (ZFu h).elim
 | tup c =>
  cases g with
  | zero=>exact h.elim
  | succ g=>simp only[conv]at h;exact h.elim
 | data t x =>
  refine⟨?_,λc e=>by cases e⟩
  cases g with
  | zero=>exact h.elim
  | succ g =>
   simp only[conv]at h;split at h
   ·rename_i y hy;obtain⟨e,_⟩:=Z3 hy;subst e;rfl
   ·split at h
    ·rfl
    ·rfl
    ·rfl
    ·rfl
    ·rfl
    ·split at h
     ·exact (ZFu h).elim
     ·exact h.elim
 | _=>exact⟨rfl,λc e=>by cases e⟩
theorem Zbg {x:V} {y:Value} (h:x.isAgg=false):x.val [y]=y:=by unfold V.val;rw[h];rfl
theorem Z1t {u2:Nat} {ty' ty2':TypeId} {s':T} {m':List (List s'.den)} {hv:Nat} {y:Operand} {st:Nat} (hq:RV v γ l (.own u2) (a.eval y)) (he:lkE l u2=some ⟨u2,st,.mat ty' ty2' s' m' hv⟩) {ob:Option Nat} {cap:Nat} {rows:List (Option Nat×Nat)} (q1:γ u2 = .mat ob cap rows):a.eval y = .slice (mkA ob) m'.length cap:=by
 obtain⟨yq,hyq0,_,hyq⟩:=Zoa hq (λ_ e=>by cases e) rfl rfl;obtain⟨oq,cq,rq,gq1,gq2⟩:=hyq _ he;rw[q1]at gq1;cases gq1;exact ((List.cons.inj hyq0).1).trans gq2
theorem ZIp (hr:RelX N G w0 v0 U X f l a w γ v ℓ) (hU:∀ k,U k→X k) (hX:X n) (hn:¬ U n) {d:Option Nat} {t:TypeId} {x y:Operand} {o:Oper} {q:V} {pu:Option Nat} {ei:EI} {Post:Unit→Fr→Lo→Prop} (hE:Elem P t ei.e ei.sz ei.by_ ei.z) (hby:0<ei.by_) (ho:o=⟨d,.call ⟨.builtin .append,#[x,y],#[t,t]⟩,ty,pos,aft,g⟩) (hd:∀ k,o.dst=some k→k<N)
  (hp0:pu=none→a.eval x = .slice none 0 0) (hp1:∀ u,pu=some u→RV v γ l (.own u) (a.eval x)) (hq:RV v γ l q (a.eval y)) (h:Zk n (appM o n ei pu q) f l Post):Zxa P N G w0 v0 X o a w Post:=by
 unfold appM at h;split at h
 ·rename_i u2;obtain⟨⟨k2,st2,L2⟩,he2,h⟩:=h;have hkk2:k2=u2:=(Zq he2).2;subst hkk2
  cases L2 with
  | mat ty' ty2' s' m' hv' =>
   simp only at h;obtain⟨es,E',h1,h2,h2',h3,r2⟩:=hr.del he2;obtain⟨ob2,cap2,rows2,es3,q1,q2,rfl⟩:=h1;have q1:γ k2 = .mat ob2 cap2 rows2:=q1;have hy0:=Z1t hq he2 q1;have hl2:=ZUd (ZQf q2);have hs:=hr.st.perm h3
   cases pu with
   | none =>
    simp only at h;split at h
    ·rename_i b1 b2;have b1:=eQ b1;have b2:=eQ b2;obtain⟨_,hroom,h⟩:=h;obtain⟨v',hv,hs1,hrel⟩:=hs.pubSlice (i:=0) (A:=ZWd) (l:=Zo rows2 m') rfl rfl hl2.symm (Zhn ZLm) rfl;have hs1:St N w0 v0 [] (es3++E'.flatten) v' a w:=hs1;obtain⟨σ,hσ,e1,e2⟩:=(hs1.nilLoc ei.e 1).ev2 x y;have hE':Elem P t ei.e ZWd.n ei.by_ ei.z:=by rw[show ZWd.n=ei.sz from b2.symm];exact hE
     obtain⟨b',cap',cs2,w',hrun,hst',hrel2⟩:=Zxg (ty:=ty) (A:=ZWd) hE' hσ (i:=0) rfl hrel (n':=([]++m').length) (by simp) (ZUe hroom) hby;have hcs:=ZXl hrel2;subst hcs;rw[hp0 rfl]at e1;rw[hy0]at e2;have r3:=r2.go hv (hs1.drop (List.sublist_append_right _ _));obtain⟨E3,hE3,hp3⟩:=r3.lr;have hst':=hst'.bare;have hst3:St N w0 v0 [] (.own b' ty' 1 ([]++m').length cap' (Zo rows2 ([]++m')) :: es3++E3.flatten) v' a w':=by
      rw[← b1];exact hst'.perm (by simp only[List.set_cons_zero,List.cons_append];exact List.Perm.cons _ (List.Perm.append_left _ hp3))
     subst ho;exact ZQj r3 hU hX hn hd hE3 rfl (ZVc hv q2) hst3 (Zle hσ e1 e2 hrun) h
    ·exact h.elim
   | some u =>
    simp only at h;split at h
    ·exact h.elim
    ·rename_i hne;have hne:u≠k2:=λe=>by subst e;simp at hne
     obtain⟨⟨k1,st1,L1⟩,he1,h⟩:=h;have hkk1:k1=u:=(Zq he1).2;subst hkk1
     cases L1 with
     | mat ty1 ty2 s m hv =>
      simp only at h;split at h
      ·rename_i m2 hm2 b1 b2 b3 b4;have b1:=eQ b1;have b2:=eQ b2;have b3:=eQ b3;have b4:=eQ b4;obtain⟨c3,c4⟩:=Z3 hm2
       cases c3;cases c4
       subst b1 b2;obtain⟨_,hroom,h⟩:=h;have he1':lkE (era l k2) k1=some ⟨k1,st1,.mat ty1 ty2 _ m hv⟩:=by
        rw[Z6b hr.nd,iN (λe=>hne e.symm)];exact he1
       obtain⟨es1,E1,g1,g2,g2',g3,r3⟩:=r2.del he1';obtain⟨ob1,cap1,rows1,es4,p1,p2,rfl⟩:=g1;have p1:γ k1 = .mat ob1 cap1 rows1:=p1;have hx0:=Z1t (hp1 k1 rfl) he1 p1;have hl1:=ZQf p2;have hs:St N w0 v0 [] (.own ob2 ty1 1 m'.length cap2 (Zo rows2 m') :: (.own ob1 ty1 1 m.length cap1 (Zo rows1 m) :: (es4++es3++E1.flatten))) v a w:=by
        refine hs.perm ?_;simp only[List.cons_append];refine List.Perm.cons _ ((List.Perm.append_left _ g3).trans ?_);simp only[List.cons_append];refine List.perm_middle.trans (List.Perm.cons _ ?_);rw[← aAq];exact List.Perm.append_right _ List.perm_append_comm
       obtain⟨v',hv,hs1,hrel⟩:=hs.pubSlice (i:=0) (A:=ZWd) (l:=Zo rows2 m') rfl rfl hl2.symm (Zhn ZLm) rfl;have hs1:St N w0 v0 [] (.own ob1 ty1 1 m.length cap1 (Zo rows1 m) :: (es4++es3++E1.flatten)) v' a w:=hs1;obtain⟨σ,hσ,e1,e2⟩:=hs1.ev2 x y;have hE':Elem P t ty1 ZWd.n ei.by_ ei.z:=by rw[show ZWd.n=ei.sz from b4.symm,← b3];exact hE
       obtain⟨b',cap',cs2,w',hrun,hst',hrel2⟩:=Zxg (ty:=ty) (A:=ZWd) hE' hσ (i:=0) rfl hrel (n':=(m++m').length) (by simp) (ZUe hroom) hby;have hcs:=ZXl hrel2;subst hcs;rw[hx0]at e1;rw[hy0]at e2;have r4:=r3.go hv (hs1.drop ((List.sublist_append_right _ _).trans (List.sublist_cons_self _ _)));obtain⟨E3,hE3,hp3⟩:=r4.lr;have hst':=hst'.bare;have hst3:St N w0 v0 [] (.own b' ty1 1 (m++m').length cap' (Zo (rows1++rows2) (m++m')) :: (es4++es3)++E3.flatten) v' a w':=by
        rw[ZTp hl1];exact hst'.perm (by simp only[List.set_cons_zero,List.cons_append];exact List.Perm.cons _ (List.Perm.append_left _ hp3))
       subst ho;exact ZQj r4 hU hX hn hd hE3 rfl (Z9q (ZVc hv p2) (ZVc hv q2)) hst3 (Zle hσ e1 e2 hrun) h
      ·exact h.elim
     | box _ _=>exact h.elim
     | own _ _ _ _=>exact h.elim
     | mid _ _ _ _ _ _=>exact h.elim
  | box _ _=>exact h.elim
  | own _ _ _ _=>exact h.elim
  | mid _ _ _ _ _ _=>exact h.elim
 ·exact h.elim
theorem ZMx (hr:RelX N G w0 v0 U X f l a w γ v ℓ) (hU:∀ k,U k→X k) (hX:X n) (hn:¬ U n) {d:Option Nat} {t:TypeId} {x:Operand} {o:Oper} {p:V} {Post:Unit→Fr→Lo→Prop} (ho:o=⟨d,.load t x,ty,pos,aft,g⟩) (hd:∀ k,o.dst=some k→k<N) (hp:RV v γ l p (a.eval x))
  (h:Zk n (takeE P o n t p) f l Post):Zxa P N G w0 v0 X o a w Post:=by
 unfold takeE at h;split at h
 ·exact h.elim
 ·rename_i q hq;split at h
  ·rename_i u i hv cv e r hag;obtain⟨⟨kk,st,L⟩,he,h⟩:=h;have hkk:kk=u:=(Zq he).2;subst hkk;obtain⟨y,hy0,_,hy⟩:=Zoa hp (λ_ e=>by cases e) rfl rfl;have hy0:a.eval x=y:=(List.cons.inj hy0).1;have hy:=hy _ he
   cases L with
   | mat ty0 ty2 s' m hv' =>
    simp only at h;split at h
    ·rename_i z b1 b2 hz;have b1:=eQ b1;have b2:=eQ b2;subst b1 b2;obtain⟨c3,c4⟩:=Z3 hz
     cases c3;cases c4
     obtain⟨b,cap,rows,g1,rfl,g3,g4⟩:=hy;obtain⟨m',c1,c2⟩:=g4 rfl;obtain⟨c5,c6⟩:=Z3 c1
     cases c5;cases c6
     obtain⟨hkk,es,hes,hmem⟩:=hr.loc he;obtain⟨ob,cap',rows',es2,q1,q2,rfl⟩:=hes;have q1:γ kk = .mat ob cap' rows':=q1;rw[g1]at q1;cases q1;obtain⟨p,cs,r1,r2,r3⟩:=Ztf q2 c2;obtain⟨j,hj⟩:=hmem _ List.mem_cons_self;have hh:=Zyi r1 c2;have hw:WAt w b (0+i*1) [.slice (mkA p.1) r.length p.2]:=by
      have hx:((Zo rows m).drop (i*1)).take 1=[.slice (mkA p.1) r.length p.2]:=by
       have hlt:=(List.getElem?_eq_some_iff.1 hh).1;rw[Nat.mul_one,List.drop_eq_getElem_cons hlt];simp[(List.getElem?_eq_some_iff.1 hh).2]
      have:=Zwe hr.st hj hx g3 0 [.slice (mkA p.1) r.length p.2] rfl (by simp)
      simpa using this
     obtain⟨cs2,ℓ2,E2,k1,r4,k2,k3,hst⟩:=hr.take hX hn he g1 r1 c2;obtain⟨σ,hs',e1⟩:=hr.st.ev1 x;rw[hy0]at e1;have ht:=Zhg hq;rw[hag]at ht;subst ho;exact ZNh r4 hU hX hn hd k2 k3 hst k1 (ZGb hs' e1 ht hw) h
    ·exact h.elim
   | box _ _=>exact h.elim
   | own _ _ _ _=>exact h.elim
   | mid _ _ _ _ _ _=>exact h.elim
  ·exact h.elim
theorem appE_ok {C:Cf} (hr:RelX N G w0 v0 U X f l a w γ v ℓ) (hU:∀ k,U k→X k) (hX:X n) (hn:¬ U n) {d:Option Nat} {t:TypeId} {x y:Operand} {o:Oper} {p q:V} {Post:Unit→Fr→Lo→Prop} (ho:o=⟨d,.call ⟨.builtin .append,#[x,y],#[t,t]⟩,ty,pos,aft,g⟩) (hd:∀ k,o.dst=some k→k<N) (hp:RV v γ l p (a.eval x)) (hq:RV v γ l q (a.eval y)) (hk:p.ok U) (hkq:q.ok U)
  (h:Zk n (appE C o n t p q) f l Post):Zxa C.P N G w0 v0 X o a w Post:=by
 unfold appE at h;split at h
 ·exact h.elim
 ·rename_i ei hei;obtain⟨hE,hby⟩:=Zem hei;split at h
  ·rename_i u;obtain⟨en,he,h⟩:=h;obtain⟨k0,st0,L⟩:=en
   cases L with
   | own ty0 s xs0 fz0 =>
    obtain⟨ys,l1,γ1,v1,ℓ1,hB,r1,le1,q1⟩:=Zkd hn hX FU h hr hkq;obtain⟨en,he1,hC⟩:=hB;have hp1:=Zob le1 hk hp;obtain⟨yy,hy0,_,hy⟩:=Zoa hp1 (λ_ e=>by cases e) rfl rfl;have hy0:a.eval x=yy:=(List.cons.inj hy0).1;have hy:=hy en he1;obtain⟨kk,st,L⟩:=en;obtain⟨hm,hkk⟩:=Zq he1;have hkk:kk=u:=hkk;subst hkk
    cases L with
    | own ty1 s' xs fz =>
     cases fz with
     | true=>exact hC.elim
     | false =>
      simp only at hC;split at hC
      ·rename_i ys' hys ht hs;obtain⟨c3,c4⟩:=Z3 hys
       cases c3;cases c4
       have ht:=eQ ht;have hs:=eQ hs;obtain⟨_,hroom,hC⟩:=hC;obtain⟨ob,cap,g1,rfl⟩:=hy;obtain⟨es,E',h1,_,h2,h3,r2⟩:=r1.del he1;obtain⟨ob',cap',cs,f1,f2,rfl⟩:=h1;have f1:γ1 kk = .own ob' cap':=f1;rw[g1]at f1;cases f1;have hst:=r1.st.perm h3;obtain⟨σ,hσ,e1,e2⟩:=hst.ev2 x y;obtain⟨hq1,hq2⟩:=ZWn h;obtain⟨csq,hcq,hqe⟩:=ZMb hq hq2;have hcq':(ZG s.rep).rel v1 csq ys:=q1 _ hcq;obtain⟨qa,m,c,rfl⟩:=Z3f hcq';rw[Zbg hq1]at hqe;have hml:m=ys.length:=by obtain⟨_,_,e,_⟩:=hcq';cases e;rfl
       have hE':Elem C.P t ty1 s.rep.n ei.by_ ei.z:=by rw[ZW,← hs,← ht];exact hE
       have hσ':St N w0 v0 σ (.own ob ty1 s.rep.n xs.length cap cs :: E'.flatten) v1 a w:=by rw[ZW];exact hσ
       obtain⟨b',cap',cs2,w',hrun,hst',hrel⟩:=Zxg (ty:=ty) (A:=s.rep) hE' hσ' (i:=0) rfl hcq' (n':=(xs++(show List s.den from ys)).length) (by rw[lA,hml]) (ZUe hroom) hby;rw[hy0]at e1;rw[hqe]at e2;have hst':=hst'.bare;rw[ZW]at hst';subst ho;exact ZNh r2 hU hX hn hd h2 rfl hst' (Zmc f2 hrel) (Zle hσ e1 e2 hrun) hC
      ·exact hC.elim
    | box _ _=>exact hC.elim
    | mid _ _ _ _ _ _=>exact hC.elim
    | mat _ _ _ _ _=>exact hC.elim
   | box _ _=>exact h.elim
   | mid _ _ _ _ _ _=>exact h.elim
   | mat _ _ _ _ _=>exact ZIp hr hU hX hn hE hby ho hd (λe=>by cases e) (λu' e=>by cases e;exact hp) hq h
  · -- a row
   rename_i u i hv cv s r;obtain⟨ys,l1,γ1,v1,ℓ1,hB,r1,le1,q1⟩:=Zkd hn hX FU h hr hkq;obtain⟨⟨kk,st,L⟩,he1,hC⟩:=hB;have hkk:kk=u:=(Zq he1).2;subst hkk;have hp1:=Zob le1 hk hp;obtain⟨yy,hy0,_,hy⟩:=Zoa hp1 (λ_ e=>by cases e) rfl rfl;have hy0:a.eval x=yy:=(List.cons.inj hy0).1;have hy:=hy _ he1
   cases L with
   | mat ty1 ty2 s' m hv' =>
    simp only at hC;split at hC
    ·rename_i z b1 b2 hz b3 b4;have b1:=eQ b1;have b2:=eQ b2;have b3:=eQ b3;have b4:=eQ b4;subst b1 b2;obtain⟨c3,c4⟩:=Z3 hz
     cases c3;cases c4
     obtain⟨_,hroom,hC⟩:=hC;obtain⟨ob,cap,rows,obi,capi,g1,g2,rfl,_,g6⟩:=hy rfl;obtain⟨m',c1,c2⟩:=g6 rfl;obtain⟨c5,c6⟩:=Z3 c1
     cases c5;cases c6
     obtain⟨cs,ℓ2,E2,k1,r2,k2,k3,hst⟩:=r1.take hX hn he1 g1 g2 c2;obtain⟨σ,hσ,e1,e2⟩:=hst.ev2 x y;obtain⟨hq1,hq2⟩:=ZWn h;obtain⟨csq,hcq,hqe⟩:=ZMb hq hq2;have hcq':(ZG s.rep).rel v1 csq ys:=q1 _ hcq;obtain⟨qa,mm,c,rfl⟩:=Z3f hcq';rw[Zbg hq1]at hqe;have hml:mm=ys.length:=by obtain⟨_,_,e,_⟩:=hcq';cases e;rfl
     have hE':Elem C.P t ty2 s.rep.n ei.by_ ei.z:=by rw[ZW,← b4,← b3];exact hE
     have hσ':St N w0 v0 σ (.own obi ty2 s.rep.n r.length capi cs :: ℓ2) v1 a w:=by rw[ZW];exact hσ
     obtain⟨b',cap',cs2,w',hrun,hst',hrel⟩:=Zxg (ty:=ty) (A:=s.rep) hE' hσ' (i:=0) rfl hcq' (n':=(r++(show List s.den from ys)).length) (by rw[lA,hml]) (ZUe hroom) hby;rw[hy0]at e1;rw[hqe]at e2;have hst':=hst'.bare;rw[ZW]at hst';subst ho;exact ZNh r2 hU hX hn hd k2 k3 hst' (Zmc k1 hrel) (Zle hσ e1 e2 hrun) hC
    ·exact hC.elim
   | box _ _=>exact hC.elim
   | own _ _ _ _=>exact hC.elim
   | mid _ _ _ _ _ _=>exact hC.elim
  ·split at h
   ·refine ZIp hr hU hX hn hE hby ho hd (λ_=>?_) (λu' e=>by cases e) hq h;obtain⟨cs,h1,h2⟩:=hp;have h1:cs=[.slice none 0 0]:=h1;subst h1;exact h2
   split at h
   ·rename_i s hs;split at h
    ·rename_i hsz;have hsz:=eQ hsz;obtain⟨ys,l1,γ1,v1,ℓ1,hB,r1,le1,q1⟩:=Zkd hn hX FU h hr hkq;obtain⟨_,hroom,hC⟩:=hB;obtain⟨E',h2,h3⟩:=r1.lr;have hx0:a.eval x = .slice none 0 0:=by
      obtain⟨cs,h1,h2⟩:=hp;have h1:cs=[.slice none 0 0]:=h1;subst h1;exact h2
     have hst:=(r1.st.perm h3).nilLoc ei.e s.rep.n;obtain⟨σ,hσ,e1,e2⟩:=hst.ev2 x y;obtain⟨hq1,hq2⟩:=ZWn h;obtain⟨csq,hcq,hqe⟩:=ZMb hq hq2;have hcq':(ZG s.rep).rel v1 csq ys:=q1 _ hcq;obtain⟨qa,m,c,rfl⟩:=Z3f hcq';rw[Zbg hq1]at hqe;have hml:m=ys.length:=by obtain⟨_,_,e,_⟩:=hcq';cases e;rfl
     have hE':Elem C.P t ei.e s.rep.n ei.by_ ei.z:=by rw[ZW,← hsz];exact hE
     obtain⟨b',cap',cs2,w',hrun,hst',hrel⟩:=Zxg (ty:=ty) (A:=s.rep) hE' hσ (i:=0) rfl hcq' (n':=(([]:List s.den)++(show List s.den from ys)).length) (by rw[lA,hml];rfl) (ZUe hroom) hby;rw[hx0]at e1;rw[hqe]at e2;have hst':=hst'.bare;rw[ZW]at hst';subst ho;exact ZNh r1 hU hX hn hd h2 rfl hst' (Zmc Zzf hrel) (Zle hσ e1 e2 hrun) hC
    ·exact h.elim
   ·exact h.elim
  ·exact h.elim
end
end Go.Eng
namespace Go.Eng
open Go.RowKit
variable {P:Program} {K:Nat} {w0:Base} {v0:Zb} {σ:List (Nat×Value)} {ℓ:List Loc} {v:Zb} {a:Act} {w:World}
variable {d:Option Nat} {ty:TypeId} {pos:String} {aft:Array Edge} {g:Option (Nat×Bool)}
theorem Z8l (k:IntKind) (p q:Int):(Builtin.max2 (.int k p) (.int k q)).run P w = .ok (.int k (max p q)) w:=by
 simp only[Builtin.max2,Sem.run_pure];congr 2;by_cases h:q>p
 ·rw[iP h];omega
 ·rw[iN h];omega
theorem min2_eq (k:IntKind) (p q:Int):(Builtin.min2 (.int k p) (.int k q)).run P w = .ok (.int k (min p q)) w:=by
 simp only[Builtin.min2,Sem.run_pure];congr 2;by_cases h:q<p
 ·rw[iP h];omega
 ·rw[iN h];omega
theorem run_max (hS:St K w0 v0 σ ℓ v a w) {x y:Operand} {k:IntKind} {p q:Int} {ats:Array TypeId} (e:ev σ x=some (.int k p)) (e':ev σ y=some (.int k q)) :
  (execOp a.eval ⟨d,.call ⟨.builtin .max,#[x,y],ats⟩,ty,pos,aft,g⟩).run P w = .ok (.value (.int k (max p q))) w:=by
 simp[execOp,resolve,invoke,builtin,Builtin.max_,hS.eval e,hS.eval e',Z8l]
theorem run_min (hS:St K w0 v0 σ ℓ v a w) {x y:Operand} {k:IntKind} {p q:Int} {ats:Array TypeId} (e:ev σ x=some (.int k p)) (e':ev σ y=some (.int k q)) :
  (execOp a.eval ⟨d,.call ⟨.builtin .min,#[x,y],ats⟩,ty,pos,aft,g⟩).run P w = .ok (.value (.int k (min p q))) w:=by
 simp[execOp,resolve,invoke,builtin,Builtin.min_,hS.eval e,hS.eval e',min2_eq]
theorem ZDw (hS:St K w0 v0 σ ℓ v a w) {x y z:Operand} {k:IntKind} {p q r:Int} {ats:Array TypeId} (e:ev σ x=some (.int k p)) (e':ev σ y=some (.int k q)) (e2:ev σ z=some (.int k r)) :
  (execOp a.eval ⟨d,.call ⟨.builtin .max,#[x,y,z],ats⟩,ty,pos,aft,g⟩).run P w = .ok (.value (.int k (max (max p q) r))) w:=by
 simp[execOp,resolve,invoke,builtin,Builtin.max_,hS.eval e,hS.eval e',hS.eval e2,Z8l]
end Go.Eng
namespace Go.Eng
open Go.RowKit
section
variable {Q:Exit→Act→World→Prop} {a:Act} {w:World}
end
end Go.Eng
namespace Go.Eng
open Go.RowKit
theorem ZVy (off:Nat):∀ (l:List Value) (k:Nat) (acc:Array Value),off+k+l.length≤acc.size→(l.zipIdx k).foldl (λcs (c,j)=>cs.setIfInBounds (off+j) c) acc=(acc.toList.take (off+k)++l++acc.toList.drop (off+k+l.length)).toArray:=by
 intro l
 induction l with
 | nil=>intro k acc h;simp
 | cons y l ih =>
  intro k acc h;simp only[List.zipIdx_cons,List.foldl_cons];rw[ih (k+1) _ (by simp at h ⊢;omega)];congr 1;simp only[Array.toList_setIfInBounds];simp only[List.length_cons]at h;have hlt:off+k<acc.toList.length:=by simp;omega
  rw[List.take_set,List.drop_set_of_lt (by omega)];rw[List.set_eq_take_append_cons_drop,iP (by simp;simp at hlt;omega)];rw[List.take_take,Nat.min_eq_left (by omega)];have e1:((acc.toList.take (off+(k+1))).drop (off+k+1))=[]:=List.drop_of_length_le (by simp;omega);rw[e1];simp;congr 1;omega
theorem Zdm {place:Nat→Option (Nat×Nat)} {cells:Array Value} {i:Nat} {x:Value} {cs:List Value} {rest:List (Nat×Value)} {off:Nat} (hp:place i=some (off,cs.length)) (hx:x.cells=cs.toArray) (hc:off+cs.length≤cells.size) :
  Instr.fill place cells ((i,x) :: rest)=Instr.fill place (cells.toList.take off++cs++cells.toList.drop (off+cs.length)).toArray rest:=by
 have h1:¬ (x.cells.size≠cs.length || decide (off+x.cells.size>cells.size)):=by simp[hx,hc]
 conv=>lhs;unfold Instr.fill
 simp only[hp];rw[iN h1,hx];have:=ZVy off cs 0 cells (by omega);rw[← Array.foldl_toList];congr 1
 simpa using this
section
variable {P:Program} {N:Nat} {G:V→Value→Prop} {w0:Base} {v0:Zb} {U X:Nat→Prop} {f:Fr} {l:Lo} {a:Act} {w:World} {γ:Nat→Gh} {v:Zb} {ℓ:List Loc} {n:Nat}
variable {ty:TypeId} {pos:String} {aft:Array Edge} {g:Option (Nat×Bool)}
theorem Zng {ρ:Type} (hr:RelX N G w0 v0 U X f l a w γ v ℓ):∀ {xs:List Operand} {k:V→Ev ρ} {Post:ρ→Fr→Lo→Prop},Zk n (Zpe xs k) f l Post→∃ c,RR v γ l true c (xs.map a.eval)∧c.ok U∧Zk n (k c) f l Post
 | [],k,Post,h=>⟨.nl,rfl,trivial,h⟩
 | x :: xs,k,Post,h=>by
  obtain⟨V',h1,h2,h3⟩:=ZO hr h
  have hnt:∀ c,V' ≠ .tup c:=λc e=>by subst e;exact h3.elim
  have h3':Zk n (Zpe xs λc=>k (.cons V' c)) f l Post:=by
   cases V' <;> first | exact h3 | exact h3.elim
  obtain⟨c,k1,k2,k3⟩:=Zng hr h3';obtain⟨cs,q1,q2⟩:=ZMb h1 hnt;exact⟨.cons V' c,⟨cs,_,by rw[List.map_cons,q2],q1,k1⟩,⟨h2,k2⟩,k3⟩
theorem ZUx {ρ:Type} {g:Nat} {t:T} {x:V} {k:t.den→Ev ρ} {Post:ρ→Fr→Lo→Prop} (h:Zk n (conv g t x k) f l Post):x.isAgg=true∨x.isAgg=false∧x.size=1:=by
 cases x with
 | data s x =>
  cases ha:s.agg with
  | true=>exact .inl ha
  | false=>exact .inr ⟨ha,T_one ha⟩
 | nilS=>exact .inr ⟨rfl,rfl⟩
 | own u=>exact .inr ⟨rfl,rfl⟩
 | ptr u o=>exact .inr ⟨rfl,rfl⟩
 | agg c=>exact .inl rfl
 | _ =>
  cases g with
  | zero=>exact h.elim
  | succ g=>simp only[conv]at h;exact h.elim
theorem ZqA {x:V} {cs:List Value} (hf:x.isAgg=true∨x.isAgg=false∧x.size=1) (h:RR v γ l false x cs) (hp:cs.all plain=true):(x.val cs).cells=cs.toArray:=by
 rcases hf with ha | ⟨ha,hs⟩
 ·unfold V.val;rw[ha];rfl
 ·have e:=ZGg h hs ha;have hv:x.val cs=cs.headD undef:=by unfold V.val;rw[ha]
  rw[hv]at e ⊢;rw[e]at hp;have hp':plain (cs.headD undef)=true:=by simpa using hp
  have:=ZId hp'
  conv=>rhs;rw[e]
  exact this
theorem Zgv {ρ:Type} {t:T} (hn:¬ U n) (hX:X n):∀ {c:V} {k:List t.den→Ev ρ} {l:Lo} {γ:Nat→Gh} {v:Zb} {ℓ:List Loc} {Post:ρ→Fr→Lo→Prop},Zk n (convS t c k) f l Post→RelX N G w0 v0 U X f l a w γ v ℓ→c.ok U →
  ∃ xs l' γ' v' ℓ',Zk n (k xs) f l' Post∧RelX N G w0 v0 U X f l' a w γ' v' ℓ'∧Le U v γ l v' γ' l'∧∀ vals,RR v γ l true c vals→∃ css:List (List Value),t.rep.rels v' css.flatten xs∧css.length=xs.length∧vals.map Value.cells=css.map List.toArray∧∀ cs ∈ css,cs.length=t.n:=by
 intro c
 induction c with
 | nl =>
  intro k l γ v ℓ Post h hr hk;obtain⟨E,hE,_⟩:=hr.lr;exact⟨[],l,γ,v,ℓ,h,hr,Le.refl hE (Zb.le_refl _),λvals hv=>⟨[],rfl,rfl,by rw[show vals=[] from hv];rfl,λ_ h=>by cases h⟩⟩
 | cons x c _ ih =>
  intro k l γ v ℓ Post h hr hk;have hfit:=ZUx (n:=n) (f:=f) (l:=l) (g:=FU) (t:=t) (x:=x) h;obtain⟨y,l1,γ1,v1,ℓ1,h,r1,le1,q1⟩:=Zkd hn hX FU h hr hk.1;obtain⟨ys,l2,γ2,v2,ℓ2,h,r2,le2,q2⟩:=ih h r1 hk.2;refine⟨y :: ys,l2,γ2,v2,ℓ2,h,r2,le1.trans le2,λvals hv=>?_⟩;obtain⟨cs,vs,rfl,h1,h2⟩:=hv;have hrel:=q1 cs h1;obtain⟨css,k1,k2,k3,k4⟩:=q2 vs (ZEb le1 hk.2 h2);refine⟨cs :: css,⟨cs,css.flatten,rfl,Rep.mono _ le2.v hrel,k1⟩,by simp[k2],?_,λc hc=>?_⟩
  ·rw[List.map_cons,List.map_cons,k3,ZqA hfit h1 (Rep.flat _ hrel)]
  ·rcases List.mem_cons.1 hc with rfl | hc
   ·rw[Rep.len _ hrel,ZW]
   ·exact k4 c hc
 | _=>intro k l γ v ℓ Post h;exact h.elim
theorem ZXm {sz:Nat}:∀ (css:List (List Value)) (vals:List Value) (k:Nat) (cells:Array Value),vals.map Value.cells=css.map List.toArray→(∀ cs ∈ css,cs.length=sz)→cells.size=(k+css.length)*sz →
  Instr.fill (λi=>some (i*sz,sz)) cells (vals.zipIdx k |>.map λp=>(p.2,p.1))=some (cells.toList.take (k*sz)++css.flatten).toArray
 | [],[],k,cells,_,_,hc=>by
  simp only[List.length_nil,Nat.add_zero]at hc
  simp only[List.zipIdx_nil,List.map_nil,Instr.fill,List.flatten_nil,List.append_nil]
  rw[List.take_of_length_le (by simp[hc])]
 | cs :: css,x :: vals,k,cells,h,hs,hc=>by
  simp only[List.map_cons,List.cons.injEq]at h
  have hl:=hs cs (by simp)
  simp only[List.length_cons]at hc
  have hb:k*sz+sz+css.length*sz=cells.size:=by rw[hc,Nat.add_mul,Nat.succ_mul];omega
  simp only[List.zipIdx_cons,List.map_cons]
  rw[Zdm (cs:=cs) (off:=k*sz) (by rw[hl]) h.1 (by omega)]
  rw[ZXm css vals (k+1) _ h.2 (λc hc=>hs c (by simp[hc])) (by
   simp only[List.size_toArray,lA,List.length_take,List.length_drop,Array.length_toList]
   rw[hl,Nat.min_eq_left (by omega),Nat.add_mul,Nat.succ_mul];omega)]
  congr 2
  have e1:(cells.toList.take (k*sz)).length=k*sz:=by simp;omega
  rw[List.flatten_cons,← aAq,Nat.succ_mul]
  congr 1
  rw[List.take_append,List.take_of_length_le (by simp[hl];omega)]
  rw[show k*sz+sz-(cells.toList.take (k*sz)++cs).length=0 by rw[lA,e1,hl];omega]
  simp
 | [],_ :: _,_,_,h,_,_=>by simp at h
 | _ :: _,[],_,_,h,_,_=>by simp at h
theorem Z6q:∀ {ps:List (Nat×Operand)} {k:Nat},ZEk k ps=true→ps.map (λp=>(p.1,a.eval p.2))=((ps.map λp=>a.eval p.2).zipIdx k).map λp=>(p.2,p.1)
 | [],_,_=>rfl
 | p :: ps,k,h=>by
  simp only[ZEk]at h
  split at h
  ·rename_i hb
   have hb:=eQ hb
   simp only[List.map_cons,List.zipIdx_cons]
   rw[Z6q h,hb]
  ·cases h
theorem Z6l {t e:TypeId} {m sz:Nat} {inf:TypeInfo} {z:Value} {L:List (Nat×Value)} {cs:List Value} (ht:P.underlying t=some (.slice e)) (hi:P.info? e=some inf) (hz:inf.zero=some z) (hs:inf.size=sz) (hb:m*sz≤16777216)
  (hf:∀ zc:Array Value,Instr.fill (λi=>some (i*sz,sz)) ((Array.range (m*sz)).map (λi=>zc[i%zc.size]!)) L=some cs.toArray) (w:World):(Instr.buildSlice t m L.toArray).run P w = .ok (.slice (some ⟨w.heap.size,0,none⟩) m m) (w.alloc (.cells cs.toArray e)):=by
 subst hs;have hb:¬ (m*inf.size>2^24):=by omega
 unfold Instr.buildSlice;by_cases h0:m*inf.size=0
 ·have:=hf #[];simp only[h0]at this;simp[run_underlying ht,sizeOf,typeInfo,hi,h0] ; simp at this;simp[this,newRow]
 ·have:=hf z.cells;obtain⟨A,hA⟩:∃ A,A=(Array.range (m*inf.size)).map (λi=>z.cells[i%z.cells.size]!):=⟨_,rfl⟩;rw[← hA]at this;simp only[run_underlying ht,sizeOf,typeInfo,zeroValue];simp[run_underlying ht,typeInfo,hi,hz,h0,show ¬ (16777216<m*inf.size) by omega];rw[← hA,this];simp[newRow]
theorem Z2u {C:Cf} (hr:RelX N G w0 v0 U X f l a w γ v ℓ) (hU:∀ k,U k→X k) (hX:X n) (hn:¬ U n) {d:Option Nat} {t:TypeId} {m:Nat} {ps:Array (Nat×Operand)} {o:Oper} {Post:Unit→Fr→Lo→Prop} (ho:o=⟨d,.buildSlice t m ps,ty,pos,aft,g⟩) (hd:∀ k,o.dst=some k→k<N)
  (h:Zk n (Z2 C n o) f l Post):Zxa C.P N G w0 v0 X o a w Post:=by
 subst ho;simp only[Z2]at h;split at h
 ·rename_i q hq;obtain⟨hE,hby⟩:=Zem hq;split at h
  ·split at h
   ·rename_i x hps hps2;have hps:=hps;obtain⟨V1,h1,hk1,h⟩:=ZO hr h;split at h
    ·rename_i u2 q2 _ hq2 _;obtain⟨⟨k2,st2,L2⟩,he2,h⟩:=h;have hkk2:k2=u2:=(Zq he2).2;subst hkk2
     cases L2 with
     | own ty2 s xs fz =>
      cases fz with
      | true=>exact h.elim
      | false =>
       simp only at h;split at h
       ·rename_i b1 b2 b3;have b3:=eQ b3;obtain⟨es,E',g1,g2,g2',g3,r2⟩:=hr.del he2;obtain⟨ob2,cap2,cs2,f1,f2,rfl⟩:=g1;have f1:γ k2 = .own ob2 cap2:=f1;have hy0:a.eval x = .slice (mkA ob2) xs.length cap2:=by
         obtain⟨yq,hyq0,_,hyq⟩:=Zoa h1 (λ_ e=>by cases e) rfl rfl;obtain⟨oq,cq,gq1,gq2⟩:=hyq _ he2;rw[f1]at gq1;cases gq1;exact ((List.cons.inj hyq0).1).trans gq2
        have hcells:(Value.slice (mkA ob2) xs.length cap2).cells=[Value.slice (mkA ob2) xs.length cap2].toArray:=by cases ob2 <;> rfl
        have hz:∀ w,(Instr.buildSlice t 1 (ps.toList.map λp=>(p.1,a.eval p.2)).toArray).run C.P w = .ok (.slice (some ⟨w.heap.size,0,none⟩) 1 1) (w.alloc (.cells [Value.slice (mkA ob2) xs.length cap2].toArray q.e)):=by
         intro w;obtain⟨inf,hinf,hzz,hsz',hby'⟩:=info_parts hE.info;rw[hps,List.map_singleton];simp only[hy0];refine Z6l (sz:=1) hE.ty hinf hzz (hsz'.trans b3) (by decide) (λzc=>?_) w;have:=ZXm (sz:=1) [[Value.slice (mkA ob2) xs.length cap2]] [Value.slice (mkA ob2) xs.length cap2] 0 ((Array.range (1*1)).map (λi=>zc[i%zc.size]!)) (by simp[hcells]) (λcs hc=>by rw[List.mem_singleton.1 hc];rfl) (by simp)
         simpa using this
        have hst:=hr.st.perm g3;obtain⟨σ,hσ,hev⟩:=hst.evs (ps.toList.map (·.2));obtain⟨b,w',hrun,hst'⟩:=ZLh (P:=C.P) (t:=t) (e:=q.e) (sz:=1) hσ (by simp) (by decide) hz;have hev':ps.toList.map (λp=>(ev σ p.2).map λy=>(p.1,y))=(ps.toList.map λp=>(p.1,a.eval p.2)).map some:=by
         rw[List.map_map];refine List.map_congr_left λp hp=>?_;rw[hev p.2 (List.mem_map.2 ⟨p,hp,rfl⟩)];rfl
        exact ZQj (rows:=[(ob2,cap2)]) (m:=[xs]) r2 hU hX hn hd g2' rfl ⟨cs2,[],f2,rfl,rfl⟩ hst'.bare (hrun (d:=d) (ty:=ty) (pos:=pos) (aft:=aft) (g:=g) hev') h
       ·exact h.elim
     | box _ _=>exact h.elim
     | mat _ _ _ _ _=>exact h.elim
     | mid _ _ _ _ _ _=>exact h.elim
    ·exact h.elim
   ·exact h.elim
  split at h
  ·rename_i s hs ho hlen hbig;have hlen:=eQ hlen;have hbig:=lB hbig;split at h
   ·rename_i hsz;have hsz:=eQ hsz;obtain⟨c,h1,h2,h⟩:=Zng hr h;obtain⟨xs,l1,γ1,v1,ℓ1,h,r1,le1,q1⟩:=Zgv hn hX h hr h2;obtain⟨css,k1,k2,k3,k4⟩:=q1 _ h1;obtain⟨E,hEE,hp⟩:=r1.lr;have hvl:css.length=m:=by
     have:=congrArg List.length k3;simp only[List.length_map]at this;omega
    have hflat:css.flatten.length=m*q.sz:=by
     have:=Zmd k1;rw[ZW,← k2,hvl,← hsz]at this;exact this
    have hz:∀ w,(Instr.buildSlice t m (ps.toList.map λp=>(p.1,a.eval p.2)).toArray).run C.P w = .ok (.slice (some ⟨w.heap.size,0,none⟩) m m) (w.alloc (.cells css.flatten.toArray q.e)):=by
     intro w;obtain⟨inf,hinf,hzz,hsz',hby'⟩:=info_parts hE.info;rw[Z6q ho];have hm:(ps.toList.map λp=>a.eval p.2)=(ps.toList.map (·.2)).map a.eval:=by rw[List.map_map];rfl
     rw[hm];have hf:∀ zc:Array Value,Instr.fill (λi=>some (i*q.sz,q.sz)) ((Array.range (m*q.sz)).map (λi=>zc[i%zc.size]!)) ((((ps.toList.map (·.2)).map a.eval).zipIdx).map λp=>(p.2,p.1))=some css.flatten.toArray:=λzc=>by
      have:=ZXm (sz:=q.sz) css ((ps.toList.map (·.2)).map a.eval) 0 ((Array.range (m*q.sz)).map (λi=>zc[i%zc.size]!)) k3 (λcs hc=>by rw[k4 cs hc,hsz]) (by simp[hvl]);rw[Nat.zero_mul,List.take_zero,List.nil_append]at this;exact this
     obtain⟨L,hL⟩:∃ L,L=((((ps.toList.map (·.2)).map a.eval).zipIdx).map λp=>(p.2,p.1)):=⟨_,rfl⟩;rw[← hL]at hf ⊢;clear hL;exact Z6l hE.ty hinf hzz hsz' hbig hf w
    have hst:=r1.st.perm hp;obtain⟨σ,hσ,hev⟩:=hst.evs (ps.toList.map (·.2));have hmax:m≤maxLen:=by
     have h1:m≤m*q.sz:=Nat.le_mul_of_pos_right _ hE.pos;unfold maxLen;omega
    obtain⟨b,w',hrun,hst'⟩:=ZLh (P:=C.P) (t:=t) (e:=q.e) hσ hflat hmax hz;have hev':ps.toList.map (λp=>(ev σ p.2).map λy=>(p.1,y))=(ps.toList.map λp=>(p.1,a.eval p.2)).map some:=by
     rw[List.map_map];refine List.map_congr_left λp hp=>?_;rw[hev p.2 (List.mem_map.2 ⟨p,hp,rfl⟩)];rfl
    have hxl:m=xs.length:=by omega
    have hst':=hst'.bare;rw[hsz,hxl]at hst';have hrun':=hrun (d:=d) (ty:=ty) (pos:=pos) (aft:=aft) (g:=g) hev'
    conv at hrun'=>rhs;rw[hxl]
    exact ZNh r1 hU hX hn hd hEE rfl hst' k1 hrun' h
   ·exact h.elim
  ·exact h.elim
 ·exact h.elim
end
end Go.Eng
namespace Go.Eng
open Go.RowKit
section
variable {P:Program} {K:Nat} {w0:Base} {v0:Zb} {σ:List (Nat×Value)} {ℓ:List Loc} {v:Zb} {a:Act} {w:World}
variable {d:Option Nat} {ty:TypeId} {pos:String} {aft:Array Edge} {g:Option (Nat×Bool)}
theorem ZHx (w:World) (dT sT ty elem:TypeId) (i:TypeInfo) (g o dLen dCap:Nat) (a:Addr) (sLen sCap:Nat) (cur:Array Value) (t:TypeId) (cs:List Value)
  (hu:P.underlying dT=some (.slice elem)) (hi:P.info? elem=some i) (hg:w.heap[g]? = some (.cells cur t (0,0))) (hn:cs.length=Nat.min sLen dLen*i.size)
  (hsrc:∀ j v,cs[j]? = some v→w.cell? (a.add j)=some v) (hfit:o+cs.length≤cur.size) (h1:∀ v ∈ cs,v.oneCell'=true) :
  (Builtin.copy_ #[dT,sT] ty #[.slice (some ⟨g,o,none⟩) dLen dCap,.slice (some a) sLen sCap]).run P w =
   .ok (goInt (Nat.min sLen dLen)) (w.setRow g (cur.toList.take o++cs++cur.toList.drop (o+cs.length)).toArray):=by
 have hl:=run_loadCells_list (P:=P) w a cs hsrc;have hst:=run_storeCells_at P g o t cs 0 cur w hg (by simpa using hfit) h1;simp[Builtin.copy_,run_underlying hu,Builtin.lenOf,Builtin.firstCells,sizeOf,typeInfo,hi,← hn,hl,hst]
theorem ZEr {t e sT:TypeId} {sz bytes:Nat} {z:Value} (E:Elem P t e sz bytes z) (hS:St K w0 v0 σ ℓ v a w) {i n cap b:Nat} {cs:List Value} (hi:ℓ[i]? = some (.own (some b) e sz n cap cs)) {p k:Nat} {c:List Value}
  (hc:c.length=k*sz) (hp:p+k≤n) (hpl:c.all plain=true) {ad:Addr} {sLen sCap dLen dCap:Nat} (hsrc:∀ j u,c[j]? = some u→w.cell? (ad.add j)=some u) (hk:Nat.min sLen dLen=k) :
  ∃ w',(∀ ty,(Builtin.copy_ #[t,sT] ty #[.slice (some ⟨b,p*sz,none⟩) dLen dCap,.slice (some ad) sLen sCap]).run P w = .ok (.int .i64 k) w') ∧
   St K w0 v0 σ (ℓ.set i (.own (some b) e sz n cap (cs.take (p*sz)++c++cs.drop (p*sz+c.length)))) v a w':=by
 obtain⟨inf,hinf,hz,hs,hby⟩:=info_parts E.info;obtain⟨hcl,cur,hg,hnc,hcx,hcs,htake⟩:=(hS.loc _ (mG hi)).1;have h1:p*sz+c.length≤n*sz:=by rw[hc,← Nat.add_mul];exact mR _ hp
 have h2:n*sz≤cap*sz:=mR _ hnc;have hcl2:cur.toList.length=cap*sz:=by simpa using hcs
 refine⟨_,λty=>?_,hS.setRow hi rfl rfl (c:=(cur.toList.take (p*sz)++c++cur.toList.drop (p*sz+c.length)).toArray) ⟨?_,_,setRow_heap w b cur _ e _ hg,hnc,hcx,?_,?_⟩⟩
 ·have:=ZHx (P:=P) w t sT ty e inf b (p*sz) dLen dCap ad sLen sCap cur e c E.ty hinf hg (by rw[hk,hs];exact hc) hsrc (by omega) (Z0k hpl);rw[this,hk];rfl
 ·simp;omega
 ·simp;omega
 ·show List.take (n*sz) (_++_++_)=_;rw[Z8j _ _ _ _ h1 (by omega),htake]
end
end Go.Eng
namespace Go.Eng
open Go.RowKit
def OwnI {α:Type} (A:Rep α) (T:TypeId) (sz:Nat) (l:List α) (ob0:Option Nat) (w:World) (r:Value) (v':Zb) (w':World):Prop :=
 ∃ ob n cap cs,r = .slice (mkA ob) n cap∧(Loc.own ob T sz n cap cs).holds w'∧(∀ b,ob=some b→(w.heap.size≤b∨ob0=some b)∧v' b=none)∧A.rels v' cs l∧n=l.length
section
variable {P:Program} {K:Nat} {w0:Base} {v0:Zb} {σ:List (Nat×Value)} {ℓ:List Loc} {v:Zb} {a:Act} {w:World}
theorem ZDt {f:FuncId} {fn:Func} {c:Code} {args:List Value} {w:World} {v:Zb} {ob:Option Nat} {T:TypeId} {sz n cap:Nat} {cs:List Value} {R:Value→Zb→World→Prop} (hv:VIn v w) (hh:(Loc.own ob T sz n cap cs).holds w) (hn:∀ b,ob=some b→v b=none)
  (hf:P.funcs[f]? = some fn) (hb:fn.body=some c) (hK:fn.ntmps=K) (hl:args.length≤K)
  (h:∀ a,St K ⟨w,ob.toList⟩ v (Zzc 0 args) [.own ob T sz n cap cs] v a w→c.wp P (bodyPost P fn λe w'=>∃ r v',e = .returned r∧ExtB ⟨w,ob.toList⟩ w'∧VStepB ⟨w,ob.toList⟩ v w' v'∧R r v' w') a w):Zzd P f args.toArray w v ob.toList R:=by
 refine calls_of_wp hf hb ?_;subst hK;refine h _ ?_;have h0:=St.enter (K:=fn.ntmps) hv args hl;refine⟨h0.size,h0.dfr,h0.fr,ExtB.refl ⟨w,ob.toList⟩,⟨Zb.le_refl _,hv,λ_ _ _=>rfl⟩,λe he=>?_,?_⟩
 ·rcases List.mem_singleton.1 he with rfl;refine⟨hh,λb' hb'=>?_⟩;have hb':ob=some b':=hb';subst hb';exact⟨.inr (by simp),hn b' rfl⟩
 ·cases ob with
  | none=>exact List.nodup_nil
  | some b=>exact List.nodup_cons.2 ⟨by simp,List.nodup_nil⟩
theorem Zjr {α:Type} {A:Rep α} {w0:World} {ob0:Option Nat} {fn:Func} (hS:St K ⟨w0,ob0.toList⟩ v0 σ ℓ v a w) {i n cap sz:Nat} {ob:Option Nat} {T:TypeId} {cs:List Value} {l:List α} (hi:ℓ[i]? = some (.own ob T sz n cap cs)) (hr:(results fn a.tmps).run P w = .ok (.slice (mkA ob) n cap) w) (hA:A.rels v cs l) (hn:n=l.length) :
  bodyPost P fn (λe w'=>∃ r v',e = .returned r∧ExtB ⟨w0,ob0.toList⟩ w'∧VStepB ⟨w0,ob0.toList⟩ v0 w' v'∧OwnI A T sz l ob0 w0 r v' w') .ret a w:=by
 obtain⟨hh,hb⟩:=hS.loc _ (mG hi);refine⟨hS.dfr,_,hr,_,v,rfl,hS.ext,hS.vst,ob,n,cap,cs,rfl,hh,λb e=>?_,hA,hn⟩;obtain⟨h1,h2⟩:=hb b e;refine⟨?_,h2⟩;rcases h1 with h1 | h1
 ·exact .inl h1
 ·exact .inr (by simpa using h1)
theorem St.afterI {v':Zb} {w':World} (h:St K w0 v0 σ ℓ v a w) {i:Nat} {e e':Loc} (hi:ℓ[i]? = some e) (x:ExtB ⟨w,e.blk.toList⟩ w') (s:VStepB ⟨w,e.blk.toList⟩ v w' v') (hh:e'.holds w') (hb':∀ b,e'.blk=some b→(w.heap.size≤b∨e.blk=some b)∧v' b=none) :
  St K w0 v0 σ (e' :: ℓ.eraseIdx i) v' a w':=by
 obtain⟨he,hv⟩:=h.loc e (mG hi);have nl:∀ k,k<w0.wd.heap.size→k ∉ w0.lent→k ∉ e.blk.toList:=λk hk hl hm=>by
  have hm:e.blk=some k:=by simpa using hm
  rcases (hv k hm).1 with h' | h'
  ·omega
  ·exact hl h'
 have oth:∀ j y,ℓ[j]? = some y→j≠i→∀ b',y.blk=some b'→b'<w.heap.size∧e.blk≠some b'∧b' ∉ e.blk.toList:=λj y hj hji b' hb2=>by
  obtain⟨c2,T2,hg2⟩:=Loc.blk_get (h.loc y (mG hj)).1 hb2;have hne:e.blk≠some b':=λhb=>ZKi h.nd hi hb j y hj hji b' hb2 rfl;exact⟨Zvd hg2,hne,by simpa using hne⟩
 refine⟨h.size,h.dfr,h.fr,⟨x.os.trans h.ext.os,x.tape.trans h.ext.tape,x.output.trans h.ext.output,Nat.le_trans h.ext.size x.size,λk hk hl=>?_⟩,⟨Zb.le_trans h.vst.le s.le,s.vin,λk hk hl=>?_⟩,λy hy=>?_,?_⟩
 ·rw[x.block k (Nat.lt_of_lt_of_le hk h.ext.size) (nl k hk hl)];exact h.ext.block k hk hl
 ·rw[s.old k (Nat.lt_of_lt_of_le hk h.ext.size) (nl k hk hl)];exact h.vst.old k hk hl
 ·rcases List.mem_cons.1 hy with rfl | hy
  ·refine⟨hh,λb hb=>⟨?_,(hb' b hb).2⟩⟩;rcases (hb' b hb).1 with h1 | h1
   ·exact .inl (Nat.le_trans h.ext.size h1)
   ·exact (hv b h1).1
  ·obtain⟨j,hji,hj⟩:=List.mem_eraseIdx_iff_getElem?.1 hy;obtain⟨h1,h2⟩:=h.loc y (mG hj);have same:∀ b',y.blk=some b'→w'.heap[b']? = w.heap[b']?:=λb' hb2=>by
    obtain⟨o1,o2,o3⟩:=oth j y hj hji b' hb2;exact x.block b' o1 o3
   refine⟨?_,λb' hb2=>⟨(h2 b' hb2).1,?_⟩⟩
   ·cases y with
    | box b' T' cs=>show _=_;rw[same b' rfl];exact h1
    | own b' T' sz n cap cs =>
     cases b' with
     | none=>exact h1
     | some b'=>obtain⟨k1,c',k2,k3⟩:=h1;exact⟨k1,c',by rw[same b' rfl];exact k2,k3⟩
   ·obtain⟨o1,o2,o3⟩:=oth j y hj hji b' hb2;rw[s.old b' o1 o3];exact (h2 b' hb2).2
 ·have hsub:((ℓ.eraseIdx i).filterMap Loc.blk).Nodup:=h.nd.sublist ((List.eraseIdx_sublist ..).filterMap _)
  cases hb:e'.blk with
  | none=>rw[List.filterMap_cons_none hb];exact hsub
  | some b =>
   rw[List.filterMap_cons_some hb];refine List.nodup_cons.2 ⟨λhm=>?_,hsub⟩;obtain⟨y,hy,hyb⟩:=List.mem_filterMap.1 hm;obtain⟨j,hji,hj⟩:=List.mem_eraseIdx_iff_getElem?.1 hy;obtain⟨o1,o2,o3⟩:=oth j y hj hji b hyb;rcases (hb' b hb).1 with h1 | h1
   ·omega
   ·exact o2 h1
variable {d:Option Nat} {ty:TypeId} {pos:String} {aft:Array Edge} {g:Option (Nat×Bool)}
theorem Zwz (hS:St K w0 v0 σ ℓ v a w) {t e:TypeId} {sz b o n cap p:Nat} {x lo:Operand} {k:IntKind} (ht:Z0b P t e sz) (e1:ev σ x=some (.slice (some ⟨b,o,none⟩) n cap)) (e2:ev σ lo=some (.int k (p:Int))) (hp:p≤n) (hc:p<cap) :
  (execOp a.eval ⟨d,.slice t x (some lo) none none,ty,pos,aft,g⟩).run P w = .ok (.value (.slice (some ⟨b,o+p*sz,none⟩) (n-p) (cap-p))) w:=by
 have h1:(0:Int)≤(p:Int)∧(p:Int)≤(n:Int):=by omega
 have h2:¬ cap=p:=by omega
 simp[execOp,Instr.sliceAt,Instr.slice,Instr.sliceBounds,Instr.sliceBound,asIntOf,hS.eval e1,hS.eval e2,ht.1,ht.2,hp,h2,Z0a]
theorem ZZo (hS:St K w0 v0 σ ℓ v a w) {t e:TypeId} {sz n cap p:Nat} {q:Option Addr} {x lo:Operand} {k:IntKind} (ht:Z0b P t e sz) (e1:ev σ x=some (.slice q n cap)) (e2:ev σ lo=some (.int k (p:Int))) (hp:p≤n) :
  (execOp a.eval ⟨d,.slice t x (some lo) none none,ty,pos,aft,g⟩).run P w = .ok (.value (.slice (if cap=p then q else q.map (·.add (p*sz))) (n-p) (cap-p))) w:=by
 have h1:(0:Int)≤(p:Int)∧(p:Int)≤(n:Int):=by omega
 simp[execOp,Instr.sliceAt,Instr.slice,Instr.sliceBounds,Instr.sliceBound,asIntOf,hS.eval e1,hS.eval e2,ht.1,ht.2,hp]
theorem Z0m (hS:St K w0 v0 σ ℓ v a w) {t e:TypeId} {sz b n cap p:Nat} {x hi:Operand} {k:IntKind} (ht:Z0b P t e sz) (e1:ev σ x=some (.slice (some ⟨b,0,none⟩) n cap)) (e2:ev σ hi=some (.int k (p:Int))) (hp:p≤cap) (hc:0<cap) :
  (execOp a.eval ⟨d,.slice t x none (some hi) none,ty,pos,aft,g⟩).run P w = .ok (.value (.slice (some ⟨b,0,none⟩) p cap)) w:=by
 have h1:(0:Int)≤(p:Int)∧(p:Int)≤(cap:Int):=by omega
 have h2:¬ cap=0:=by omega
 simp[execOp,Instr.sliceAt,Instr.slice,Instr.sliceBounds,Instr.sliceBound,asIntOf,hS.eval e1,hS.eval e2,ht.1,ht.2,hp,h2,Z0a]
theorem Zxp (hS:St K w0 v0 σ ℓ v a w) {t t':TypeId} {x y:Operand} {p q r:Value} {w':World} (e:ev σ x=some p) (e':ev σ y=some q) (h:(Builtin.append_ #[t,t'] ty #[p,q]).run P w = .ok r w') :
  (execOp a.eval ⟨d,.call ⟨.builtin .append,#[x,y],#[t,t']⟩,ty,pos,aft,g⟩).run P w = .ok (.value r) w':=by
 simp[execOp,resolve,invoke,builtin,hS.eval e,hS.eval e',h]
theorem ZWr (hS:St K w0 v0 σ ℓ v a w) {t t':TypeId} {x y:Operand} {p q r:Value} {w':World} (e:ev σ x=some p) (e':ev σ y=some q) (h:(Builtin.copy_ #[t,t'] ty #[p,q]).run P w = .ok r w') :
  (execOp a.eval ⟨d,.call ⟨.builtin .copy,#[x,y],#[t,t']⟩,ty,pos,aft,g⟩).run P w = .ok (.value r) w':=by
 simp[execOp,resolve,invoke,builtin,hS.eval e,hS.eval e',h]
end
end Go.Eng
namespace Go.Eng
open Go.RowKit
def Zkc {α:Type} (by_:Nat) (l:List α):Option (List α):=bnd (Zw by_ l) λ_=>some l
theorem Z4y {α:Type} {by_:Nat} {l z:List α} (h:Zkc by_ l=some z):l.length*by_≤140737488355328∧z=l:=by
 obtain⟨_,h1,h2⟩:=Z6 h;exact⟨ZUe h1,(Option.some.inj h2).symm⟩
def Zwd {α:Type} (by_:Nat) (x:List α) (n:Int):Option (List α):=match x with
 | [z]=>bnd (mk by_ n n) λ_=>some (List.replicate n.toNat z)
 | _=>none
theorem Zzw {α:Type} {by_:Nat} {x r:List α} {n:Int} (h:Zwd by_ x n=some r):∃ z,x=[z]∧r=List.replicate n.toNat z∧mk by_ n n=some ():=by
 unfold Zwd at h;split at h
 ·obtain⟨_,h1,h2⟩:=Z6 h;exact⟨_,rfl,(Option.some.inj h2).symm,h1⟩
 ·cases h
def Zrd {α:Type} (l:List α) (i j:Int):Option (List α):=if 0≤i∧i<l.length∧j=i+1 then some (l.take i.toNat++l.drop (i.toNat+1)) else none
theorem ZMs {α:Type} {l z:List α} {i j:Int} (h:Zrd l i j=some z):∃ k:Nat,i=k∧j=((k+1:Nat):Int)∧k<l.length∧z=l.take k++l.drop (k+1):=by
 unfold Zrd at h;split at h
 ·rename_i hc;obtain⟨h1,h2,h3⟩:=hc;obtain⟨k,rfl⟩:=oZ h1;exact⟨k,rfl,by omega,by omega,(Option.some.inj h).symm⟩
 ·cases h
theorem Zvj {c:List Value} {sz:Nat} (h:c.length=sz) (n:Nat):((List.replicate n c).flatten).length=n*sz:=by
 rw[List.length_flatten,List.map_replicate,h,List.sum_replicate_nat]
theorem Zpy {c:List Value} (h:c.all plain=true) (n:Nat):((List.replicate n c).flatten).all plain=true:=by
 rw[List.all_eq_true];intro x hx;obtain⟨l,hl,hxl⟩:=List.mem_flatten.1 hx;rw[(List.mem_replicate.1 hl).2]at hxl;exact List.all_eq_true.1 h x hxl
theorem ZVq {c:List Value} {m n:Nat} (h:m≤n):(List.replicate n c).flatten=(List.replicate m c).flatten++(List.replicate (n-m) c).flatten:=by
 obtain⟨k,rfl⟩:=Nat.exists_eq_add_of_le h;rw[Nat.add_sub_cancel_left,← List.flatten_append,List.replicate_append_replicate]
theorem rp_step {c z:List Value} {sz j m k:Nat} (hc:c.length=sz) (hz:z.length=sz) (h:j+m≤k):((List.replicate j c).flatten++(List.replicate (k-j) z).flatten).take (j*sz)++(List.replicate m c).flatten++((List.replicate j c).flatten++(List.replicate (k-j) z).flatten).drop (j*sz+((List.replicate m c).flatten).length)=(List.replicate (j+m) c).flatten++(List.replicate (k-(j+m)) z).flatten:=by
 have h1:=Zvj hc j;have h2:=Zvj hz m;rw[Zvj hc m,List.take_left' h1,← List.flatten_append,List.replicate_append_replicate,List.drop_append,h1,List.drop_of_length_le (by rw[h1];omega),List.nil_append,Nat.add_sub_cancel_left,ZVq (m:=m) (n:=k-j) (by omega),List.drop_left' h2,Nat.sub_sub]
section
variable {P:Program} {K:Nat} {w0:Base} {v0:Zb} {σ:List (Nat×Value)} {ℓ:List Loc} {v:Zb} {a:Act} {w:World}
variable {d:Option Nat} {ty:TypeId} {pos:String} {aft:Array Edge} {g:Option (Nat×Bool)}
theorem Z5u (hS:St K w0 v0 σ ℓ v a w) {t t2 e:TypeId} {x y:Operand} {q:Option Addr} {n c:Nat} (ht:P.underlying t=some (.slice e)) (e1:ev σ x=some (.slice q n c)) (e2:ev σ y=some (.slice none 0 0)) :
  (execOp a.eval ⟨d,.binOp .eql t x y t2,ty,pos,aft,g⟩).run P w = .ok (.value (.bool q.isNone)) w:=by
 have h:∀ w:World,(Op.equal t (.slice q n c) (.slice none 0 0)).run P w = .ok q.isNone w:=λw=>by
  show (Op.equalIn (9999+1) t (.slice q n c) (.slice none 0 0)).run P w=_;unfold Op.equalIn
  cases q <;> simp[run_underlying ht]
 simp[execOp,hS.eval e1,hS.eval e2,eqGuard,binOp,h]
theorem ZBw {t e:TypeId} {sz by_:Nat} {z:Value} (E:Elem P t e sz by_ z) (hS:St K w0 v0 σ ℓ v a w) :
  ∃ b w',((execOp a.eval ⟨d,.buildSlice t 0 #[],ty,pos,aft,g⟩).run P w = .ok (.value (.slice (mkA (some b)) 0 0)) w')∧St K w0 v0 σ (.own (some b) e sz 0 0 [] :: ℓ) v a w':=by
 obtain⟨i,h1,h2,h3,h4⟩:=info_parts E.info;obtain⟨b,w',hrun,hst⟩:=ZLh (P:=P) (t:=t) (e:=e) (sz:=sz) (n:=0) (vals:=[]) (cs:=[]) hS (by simp) (by decide) (λw=>Z6l E.ty h1 h2 h3 (by omega) (λzc=>by simp[Instr.fill]) w);exact⟨b,w',hrun (ps:=#[]) rfl,hst⟩
end
def vx {α:Type} (n:Nat) (f:Nat→α):List α:=(List.range n).map f
theorem Zj {α:Type} (n:Nat) (f:Nat→α):(vx n f).length=n:=by simp[vx]
theorem Zec {α:Type} {n i:Nat} (f:Nat→α) (h:i<n):(vx n f)[i]? = some (f i):=by simp[vx,h]
theorem Zu {α:Type} {n i:Nat} (f:Nat→α) (h:i<n):idx (vx n f) (i:Int)=some (f i):=idx_eq (Zec f h)
theorem ZH {α:Type} {n:Nat} {f g:Nat→α} (h:∀ i,i<n→f i=g i):vx n f=vx n g:=List.map_congr_left λi hi=>h i (List.mem_range.1 hi)
theorem ZMa {α:Type} (n:Nat) (f:Nat→α) (i:Nat) (a:α):(vx n f).set i a=vx n (λk=>if k=i then a else f k):=by
 apply List.ext_getElem?;intro k;by_cases hk:k<n
 ·rw[Zec _ hk,List.getElem?_set,Zec _ hk];by_cases e:i=k
  ·subst e;simp[hk,Zj]
  ·rw[iN e,iN (λh=>e h.symm)]
 ·rw[List.getElem?_eq_none (by simp[Zj];omega),List.getElem?_eq_none (by simp[Zj];omega)]
theorem ZCb {α:Type} (n:Nat) (f:Nat→α):vx n f++[f n]=vx (n+1) f:=by simp[vx,List.range_succ]
theorem ZEg {α:Type} (n:Nat) (a:α):List.replicate n a=vx n (λ_=>a):=by
 apply List.ext_getElem?;intro k;by_cases hk:k<n
 ·rw[Zec _ hk];simp[hk]
 ·rw[List.getElem?_eq_none (by simp;omega),List.getElem?_eq_none (by simp[Zj];omega)]
theorem Zll {α:Type} (d:α) {n i:Nat} (f:Nat→α) (h:i<n):(vx n f).getD i d=f i:=by
 rw[List.getD_eq_getElem?_getD,Zec _ h];rfl
def mx (R n:Nat) (M:Mx):List (List Rat):=vx R λi=>vx n (M i)
theorem Zab (R n:Nat) (M:Mx):(mx R n M).length=R:=Zj _ _
theorem ZYe {R n:Nat} {M M':Mx} (h:∀ i,i<R→∀ j,j<n→M i j=M' i j):mx R n M=mx R n M':=ZH λi hi=>ZH λj hj=>h i hi j hj
theorem Zhb {R n i:Nat} (M:Mx) (h:i<R):idx (mx R n M) (i:Int)=some (vx n (M i)):=Zu _ h
theorem ZEl {R n:Nat} (M:Mx) (i:Nat) (g:Nat→Rat):(mx R n M).set i (vx n g)=mx R n (λk j=>if k=i then g j else M k j):=by
 unfold mx;rw[ZMa];exact ZH λk hk=>by by_cases e:k=i <;> simp[e]
theorem ZQ {α β:Type} {P:β→Prop} {x:Option α} {y:α} {f:α→Option β} (h:x=some y) (h2:∃ z,f y=some z∧P z):∃ z,bnd x f=some z∧P z:=by subst h;exact h2
theorem Z9k {S R Z:Type} {P:Z→Prop} {body:S→Option (S ⊕ R)} {s:S} {f:R→Option Z} (I:Nat→S→Prop) (Q:R→Prop) (n:Nat) (h0:I 0 s) (hn:n<2^64)
  (h:∀ k s,k≤n→I k s→(∃ s',k<n∧body s=some (.inl s')∧I (k+1) s') ∨ ∃ r,body s=some (.inr r)∧Q r)
  (hf:∀ r,Q r→∃ z,f r=some z∧P z):∃ z,bnd (Zg body Zi s) f=some z∧P z:=by
 have key:∀ m g k s,k+m=n→m<g→I k s→∃ r,Zg body g s=some r∧Q r:=by
  intro m
  induction m with
  | zero =>
   intro g k s hk hg hi;obtain⟨g,rfl⟩:∃ x,g=x+1:=⟨g-1,by omega⟩;rcases h k s (by omega) hi with ⟨s',h1,_⟩ | ⟨r,h1,h2⟩
   ·omega
   ·exact⟨r,by unfold Zg;rw[h1,Za],h2⟩
  | succ m ih =>
   intro g k s hk hg hi;obtain⟨g,rfl⟩:∃ x,g=x+1:=⟨g-1,by omega⟩;rcases h k s (by omega) hi with ⟨s',h1,h2,h3⟩ | ⟨r,h1,h2⟩
   ·obtain⟨r,h4,h5⟩:=ih g (k+1) s' (by omega) (by omega) h3;exact⟨r,by unfold Zg;rw[h2,Za];exact h4,h5⟩
   ·exact⟨r,by unfold Zg;rw[h1,Za],h2⟩
 obtain⟨r,h1,h2⟩:=key n Zi 0 s (by omega) (ZX (by omega)) h0;exact ZQ h1 (hf r h2)
theorem Zsf {k m:Nat} {x y:Rat} (h:sz k x) (h':sz m y) (hk:k≤1099511627776) (hm:m≤1099511627776):ZDa x y=some (x+y):=by unfold ZDa;rw[iP ⟨h.ok hk,h'.ok hm⟩]
theorem Zpf {k m:Nat} {x y:Rat} (h:sz k x) (h':sz m y) (hk:k≤1099511627776) (hm:m≤1099511627776):ZBa x y=some (x-y):=by unfold ZBa;rw[iP ⟨h.ok hk,h'.ok hm⟩]
theorem Zpc {k m:Nat} {x y:Rat} (h:sz k x) (h':sz m y) (hk:k≤1099511627776) (hm:m≤1099511627776):Zza x y=some (x*y):=by unfold Zza;rw[iP ⟨h.ok hk,h'.ok hm⟩]
theorem ZMg {k m:Nat} {x y:Rat} (h:sz k x) (h':sz m y) (hk:k≤1099511627776) (hm:m≤1099511627776) (hy:y≠0):Zlc x y=some (x / y,0):=by unfold Zlc;rw[iP ⟨h.ok hk,h'.ok hm⟩,iN hy]
theorem ZOp {K:Nat} {x:Rat} {N D:Int} (hx:x=(N:Rat) / (D:Rat)) (hN:N.natAbs<2^K) (hD:D.natAbs<2^K) (h0:D≠0):sz K x:=by
 rw[hx,← Rat.divInt_eq_div,Zci];rcases Zli (if D<0 then -N else N) D.natAbs with ⟨h1,h2⟩ | h1
 ·have h3:bl (if D<0 then -N else N).natAbs≤K:=ZOb (by split <;> omega);have h4:bl D.natAbs≤K:=ZOb hD;exact⟨by omega,by omega⟩
 ·omega
def CD (K R n:Nat) (M:Mx):Prop:=∃ D:Int,D≠0∧D.natAbs<2^K∧∀ i j,i<R→j<n→∃ N:Int,M i j=(N:Rat) / (D:Rat)∧N.natAbs<2^K
theorem CD.sz {K R n:Nat} {M:Mx} (h:CD K R n M) {i j:Nat} (hi:i<R) (hj:j<n):sz K (M i j):=by
 obtain⟨D,h0,h1,h2⟩:=h;obtain⟨N,h3,h4⟩:=h2 i j hi hj;exact ZOp h3 h4 h1 h0
theorem CD.mono {K K' R n:Nat} {M:Mx} (h:CD K R n M) (hk:K≤K'):CD K' R n M:=by
 obtain⟨D,h0,h1,h2⟩:=h;have hp:=Nat.pow_le_pow_right (show 0<2 by omega) hk;exact⟨D,h0,by omega,λi j hi hj=>by
  obtain⟨N,h3,h4⟩:=h2 i j hi hj;exact⟨N,h3,by omega⟩⟩
theorem Zdd {a b:Int} {A B:Nat} (ha:a.natAbs<A) (hb:b.natAbs<B):(a*b).natAbs<A*B:=by
 rw[Int.natAbs_mul];exact Nat.mul_lt_mul'' ha hb
def stepM (M:Mx) (c top p:Nat):Mx:=λi j=>if i=top then M p j / M p c else (if i=p then M top j else M i j)-(if i=p then M top c else M i c)*(M p j / M p c)
theorem CD.step {K R n c top p:Nat} {M:Mx} (h:CD K R n M) (tp:top≤p) (pR:p<R) (cn:c<n) (nz:M p c≠0):CD (2*K+1) R n (stepM M c top p):=by
 obtain⟨D,h0,h1,h2⟩:=h;obtain⟨F,f1,f2⟩:=h2 p c pR cn;have e2:2^(2*K+1)=2*(2^K*2^K):=by rw[Nat.pow_succ,Nat.two_mul,Nat.pow_add];omega
 have hF:F≠0:=λe=>nz (by rw[f1,e,Rat.div_def];exact Rat.zero_mul _);have hD':(D:Rat)≠0:=λe=>h0 (Rat.intCast_inj.1 (by rw[e];rfl));have hF':(F:Rat)≠0:=λe=>hF (Rat.intCast_inj.1 (by rw[e];rfl));refine⟨D*F,λe=>?_,?_,λi j hi hj=>?_⟩
 ·rcases Int.mul_eq_zero.1 e with h | h
  ·exact h0 h
  ·exact hF h
 ·have:=Zdd h1 f2;omega
 ·obtain⟨A,a1,a2⟩:=h2 p j pR hj;unfold stepM;split
  ·refine⟨A*D,?_,?_⟩
   ·rw[a1,f1,Rat.intCast_mul,Rat.intCast_mul];grind
   ·have:=Zdd a2 h1;omega
  ·have key:∀ i,i<R→∃ N:Int,M i j-M i c*(M p j / M p c)=(N:Rat) / ((D*F:Int):Rat)∧N.natAbs<2^(2*K+1):=λi hi=>by
    obtain⟨B,b1,b2⟩:=h2 i j hi hj;obtain⟨C,c1,c2⟩:=h2 i c hi cn;refine⟨B*F-C*A,?_,?_⟩
    ·rw[a1,b1,c1,f1,Rat.intCast_sub,Rat.intCast_mul,Rat.intCast_mul,Rat.intCast_mul];grind
    ·have:=Zdd b2 f2;have:=Zdd c2 a2;omega
   by_cases hp:i=p
   ·rw[iP hp,iP hp];exact key top (by omega)
   ·rw[iN hp,iN hp];exact key i hi
end Go.Eng
namespace Go.Eng
open Go.RowKit
variable {P:Program} {K:Nat} {w0:Base} {v0:Zb} {σ:List (Nat×Value)} {ℓ:List Loc} {v:Zb} {a:Act} {w:World}
end Go.Eng

namespace Go.Eng
noncomputable def qOf_m (x:Rat) (y:Rat):Option Rat :=
 some y
noncomputable def ZTb (n:Int):Option Rat :=
 bnd (Zva n) λa =>
 bnd (qOf_m (0:Rat) a) λb =>
 some b
noncomputable def ZVg (m:List (List Rat)):Option Int :=
 ifb ((m.length:Int)==(0:Int))
 (some (0:Int))
 (bnd (idx m (0:Int)) λa =>
 some (a.length:Int))
noncomputable def ZWk (m:List (List Rat)):Option Bool :=
 bnd (ZVg m) λb =>
 bnd (α:=Bool)
 (ifb (decide ((m.length:Int)≤(32:Int)))
 (ifb (decide (b≤(32:Int)))
 (bnd (α:=Int)
 (bnd (Zg (σ:=Int) (ρ:=Unit ⊕ Int) (λa =>
 ifb (decide (a<(m.length:Int)))
 (bnd (idx m a) λc =>
 ifb ((c.length:Int) != b)
 (some (.inr (.inr a)))
 (bnd (chk .i64 (a+(1:Int))) λd =>
 some (.inl d)))
 (some (.inr (.inl ()))))
      Zi (0:Int)) λe =>
     match e with
| .inl i=>(some (-1:Int))
| .inr f=>(some f)) λg =>
 some (!(decide ((0:Int)≤g))))
 (some false))
 (some false)) λh =>
 some h
theorem ZEc (n:Int):ZTb n=some (n:Rat):=by
 unfold ZTb qOf_m;rfl
theorem Zgl {b n:Nat} (h:b*n≤281474976710656) (h2:n≤1000000000):mk b (n:Int) (n:Int)=some ():=by
 unfold mk;rw[iP ⟨by omega,by omega,by omega,by omega⟩]
theorem Zlp (i:Nat):eqN i i=some ():=by unfold eqN;rw[iP rfl]
theorem ZBf {α:Type} {b:Nat} {l:List α} (h:l.length*b≤140737488355328):Zkc b l=some l:=by
 unfold Zkc;rw[Zma h,Za]
theorem copy_ok {R n:Nat} (M:Mx) (hR:R≤1000) (hn:n≤1000):Zg (σ:=Int×(List (List Rat))) (ρ:=List (List Rat)) (λs1 =>
   ifb (decide (s1.1<((mx R n M).length:Int)))
   (bnd (idx (mx R n M) s1.1) λy2 =>
    bnd (Zkc 56 y2) λy3 =>
    bnd (idx s1.2 s1.1) λy4 =>
    bnd (chk .i64 (s1.1+(1:Int))) λy5 =>
    some (.inl (y5,s1.2.set s1.1.toNat y3)))
   (some (.inr s1.2)))
  Zi ((0:Int),List.replicate ((mx R n M).length:Int).toNat ([]:List Rat))=some (mx R n M):=by
  refine Zra (λk=>((k:Int),vx R λi=>if i<k then vx n (M i) else [])) R ?_ (by omega) (λk hk=>?_) ?_
  · rw[Zab];simp only[tN,ZEg];refine Prod.ext rfl (ZH λi hi=>?_);rw[iN (by omega)]
  · simp only[Zab];rw[dTq (by omega),Ze,Zhb _ hk,Za,ZBf (by rw[Zj];omega),Za,Zu _ hk,Za,Zm (by omega) (by omega),Za];simp only[tN];rw[ZMa];refine congrArg (λx=>some (Sum.inl x)) (Prod.ext (by simp) (ZH λi hi=>?_));by_cases e:i=k
    · rw[iP e,iP (by omega),e]
    · rw[iN e];by_cases e2:i<k
      · rw[iP e2,iP (by omega)]
      · rw[iN e2,iN (by omega)]
  · simp only[Zab];rw[dFq (by omega),Zf];exact congrArg (λx=>some (Sum.inr x)) (ZH λi hi=>iP hi)
theorem ZQn {R n:Nat} (M:Mx) (h:R=0→n=0):ZVg (mx R n M)=some (n:Int):=by
 unfold ZVg;rw[Zab];by_cases h0:R=0
 ·rw[show ((R:Int)==0)=true by simp[h0],Ze,h h0];rfl
 ·rw[show ((R:Int)==0)=false by simp[h0],Zf];refine Zr (Zhb (i:=0) M (by omega)) ?_;rw[Zj]
theorem ZUu {R n:Nat} (M:Mx) (h:R=0→n=0) (hR:R≤32) (hn:n≤32):ZWk (mx R n M)=some true:=by
 unfold ZWk;rw[ZQn M h,Za,Zab,dTq (by omega),Ze,dTq (by omega),Ze];refine Zr (y:=true) ?_ rfl;refine Zr (y:=(-1:Int)) ?_ rfl;refine Zr (y:=Sum.inl ()) ?_ rfl;refine Zra (λk=>(k:Int)) R rfl (by omega) (λk hk=>?_) ?_
 ·rw[dTq (by omega),Ze,Zhb _ hk,Za,Zj,show ((n:Int) != (n:Int))=false by simp,Zf,Zm (by omega) (by omega),Za];rfl
 ·rw[dFq (by omega),Zf]
def kk (K k:Nat):Nat:=2^k*(K+1)-1
theorem kk_succ {K k:Nat}:kk K (k+1)=2*kk K k+1:=by
 unfold kk;have:=Nat.mul_pos (Nat.two_pow_pos k) (show 0<K+1 by omega);rw[Nat.pow_succ,Nat.mul_comm (2^k) 2,Nat.mul_assoc];omega
theorem kk_le {K k n:Nat} (h:k≤n):kk K k≤kk K n:=by
 unfold kk;have:=mR (K+1) (Nat.pow_le_pow_right (show 0<2 by omega) h);omega
theorem ZDd:sz 1 (0:Rat):=⟨by decide,by decide⟩
theorem Zcm {K n:Nat} (h:1≤K):1≤kk K n:=by
 have:=kk_le (K:=K) (k:=0) (n:=n) (Nat.zero_le _);unfold kk at this;unfold kk;simp at this;omega
theorem ZZr {α β:Type} {P:β→Prop} (Q:α→Prop) {x:Option α} {f:α→Option β} (h:∃ y,x=some y∧Q y) (h2:∀ y,Q y→∃ z,f y=some z∧P z):∃ z,bnd x f=some z∧P z:=by
 obtain⟨y,h,q⟩:=h;exact ZQ h (h2 y q)
def ovr (D:Int) (K:Nat) (q:Rat):Prop:=∃ N:Int,q=(N:Rat) / (D:Rat)∧N.natAbs<2^K
theorem Zmk {D F:Int} {K:Nat} (hD:D≠0) (hF:F≠0) (f2:F.natAbs<2^K) {x y w:Rat} (hx:ovr D K x) (hy:ovr D K y) (hw:ovr D K w):ovr (D*F) (2*K+1) (x-y*(w*(1 / ((F:Rat) / (D:Rat))))):=by
 obtain⟨X,x1,x2⟩:=hx;obtain⟨Y,y1,y2⟩:=hy;obtain⟨W,w1,w2⟩:=hw;have e2:2^(2*K+1)=2*(2^K*2^K):=by rw[Nat.pow_succ,Nat.two_mul,Nat.pow_add];omega
 have hD':(D:Rat)≠0:=λe=>hD (Rat.intCast_inj.1 (by rw[e];rfl));have hF':(F:Rat)≠0:=λe=>hF (Rat.intCast_inj.1 (by rw[e];rfl));refine⟨X*F-Y*W,?_,?_⟩
 ·rw[x1,y1,w1,Rat.intCast_sub,Rat.intCast_mul,Rat.intCast_mul,Rat.intCast_mul];grind
 ·have h1:=Zdd x2 f2;have h2:=Zdd y2 w2;omega
theorem ovr_add {D F:Int} {K:Nat} (hD:D≠0) (hF:F≠0) (f2:F.natAbs<2^K) {x y w:Rat} (hx:ovr D K x) (hy:ovr D K y) (hw:ovr D K w):ovr (D*F) (2*K+1) (x+y*(w*(1 / ((F:Rat) / (D:Rat))))):=by
 obtain⟨Y,y1,y2⟩:=hy;have:=Zmk hD hF f2 hx ⟨-Y,rfl,by rwa [Int.natAbs_neg]⟩ hw;obtain⟨N,n1,n2⟩:=this;refine⟨N,?_,n2⟩;rw[← n1,y1,Rat.intCast_neg];grind
theorem Zol {D F:Int} {K:Nat} (hD:D≠0) (hF:F≠0) (d2:D.natAbs<2^K) {x:Rat} (hx:ovr D K x):ovr (D*F) (2*K+1) (x*(1 / ((F:Rat) / (D:Rat)))):=by
 obtain⟨X,x1,x2⟩:=hx;have e2:2^(2*K+1)=2*(2^K*2^K):=by rw[Nat.pow_succ,Nat.two_mul,Nat.pow_add];omega
 have hD':(D:Rat)≠0:=λe=>hD (Rat.intCast_inj.1 (by rw[e];rfl));have hF':(F:Rat)≠0:=λe=>hF (Rat.intCast_inj.1 (by rw[e];rfl));refine⟨X*D,?_,?_⟩
 ·rw[x1,Rat.intCast_mul,Rat.intCast_mul];grind
 ·have:=Zdd x2 d2;omega
theorem Zzu {D:Int} {K:Nat} {x:Rat} (hx:ovr D K x):ovr D K (-x):=by
 obtain⟨X,x1,x2⟩:=hx;exact⟨-X,by rw[x1,Rat.intCast_neg];grind,by rwa [Int.natAbs_neg]⟩
theorem ovr_inv {D F:Int} {K:Nat} (hD:D≠0) (hF:F≠0) (d2:D.natAbs<2^K):ovr (D*F) (2*K+1) (1 / ((F:Rat) / (D:Rat))):=by
 have e2:2^(2*K+1)=2*(2^K*2^K):=by rw[Nat.pow_succ,Nat.two_mul,Nat.pow_add];omega
 have hD':(D:Rat)≠0:=λe=>hD (Rat.intCast_inj.1 (by rw[e];rfl));have hF':(F:Rat)≠0:=λe=>hF (Rat.intCast_inj.1 (by rw[e];rfl));refine⟨D*D,?_,?_⟩
 ·rw[Rat.intCast_mul,Rat.intCast_mul];grind
 ·have:=Zdd d2 d2;omega
noncomputable def cnt (p:Nat→Prop):Nat→Nat
 | 0=>0
 | n+1=>cnt p n+(open Classical in if p n then 1 else 0)
theorem cnt_le (p:Nat→Prop) (n:Nat):cnt p n≤n:=by
 induction n with
 | zero=>exact Nat.le_refl 0
 | succ n ih=>simp only[cnt];split <;> omega
theorem Zhx {p:Nat→Prop} {n:Nat} (h:cnt p n=0):∀ k,k<n→¬ p k:=by
 induction n with
 | zero=>intro k hk;omega
 | succ n ih =>
  simp only[cnt]at h;intro k hk;split at h
  ·omega
  ·rename_i hn;by_cases e:k=n
   ·rw[e];exact hn
   ·exact ih (by omega) k (by omega)
theorem Zgm {p:Nat→Prop} {n:Nat} (h:0<cnt p n):∃ k,k<n∧p k:=Classical.byContradiction λhn=>by
 have:cnt p n=0:=by
  clear h
  induction n with
  | zero=>rfl
  | succ n ih =>
   simp only[cnt];rw[ih λ⟨k,hk,h⟩=>hn ⟨k,by omega,h⟩,iN λh=>hn ⟨n,by omega,h⟩]
 omega
theorem ZTr {p q:Nat→Prop} {n:Nat} (h:∀ k,k<n→(p k↔q k)):cnt p n=cnt q n:=by
 induction n with
 | zero=>rfl
 | succ n ih =>
  simp only[cnt];rw[ih λk hk=>h k (by omega)];by_cases e:p n
  ·rw[iP e,iP ((h n (by omega)).1 e)]
  ·rw[iN e,iN λe2=>e ((h n (by omega)).2 e2)]
theorem Zqx {p q:Nat→Prop} {n k:Nat} (hk:k<n) (hp:p k) (hq:¬ q k) (h:∀ l,l<n→l≠k→(p l↔q l)):cnt p n=cnt q n+1:=by
 induction n with
 | zero=>omega
 | succ n ih =>
  simp only[cnt];by_cases e:k=n
  ·subst e;rw[iP hp,iN hq,ZTr λl hl=>h l (by omega) (by omega)]
  ·have:=ih (by omega) λl hl=>h l (by omega);by_cases e2:p n
   ·rw[iP e2,iP ((h n (by omega) (λe3=>e e3.symm)).1 e2)];omega
   ·rw[iN e2,iN λe3=>e2 ((h n (by omega) (λe3=>e e3.symm)).2 e3)];omega
theorem all_met {n:Nat} {f:Nat→Nat} (h:∀ i,i<n→f i<n) (hi:∀ i j,i<n→j<n→f i=f j→i=j):∀ y,y<n→∃ i,i<n∧f i=y:=λy hy=>Classical.byContradiction λhn=>by
 have hlt:∀ i,i≤n→(if i<n then f i else y)<n:=λi _=>by
  by_cases e:i<n
  ·rw[iP e];exact h i e
  ·rw[iN e];exact hy
 obtain⟨i,j,h1,h2,h3⟩:=Z2l n (λi=>if i<n then f i else y) hlt
 have h3:(if i<n then f i else y)=(if j<n then f j else y):=h3
 rw[iP (by omega)]at h3
 split at h3
 ·have:=hi i j (by omega) (by omega) h3;omega
 ·exact hn ⟨i,by omega,h3⟩
namespace Tb
structure all (P:Rat→Prop) (T:Tb) (m n:Nat):Prop where
 a:∀ i k,i<m→k<n→P (T.a i k)
 b:∀ i,i<m→P (T.b i)
 z:∀ k,k<n→P (T.z k)
 v:P T.v
def cd (K:Nat) (T:Tb) (m n:Nat):Prop:=∃ D:Int,D≠0∧D.natAbs<2^K∧T.all (ovr D K) m n
variable {T T0:Tb} {m n N r c K:Nat}
theorem cd.mono {K':Nat} (h:T.cd K m n) (hk:K≤K'):T.cd K' m n:=by
 obtain⟨D,h0,h1,h2⟩:=h;have hp:=Nat.pow_le_pow_right (show 0<2 by omega) hk;have up:∀ q,ovr D K q→ovr D K' q:=λq ⟨N,n1,n2⟩=>⟨N,n1,by omega⟩;exact⟨D,h0,by omega,λi k hi hk=>up _ (h2.a i k hi hk),λi hi=>up _ (h2.b i hi),λk hk=>up _ (h2.z k hk),up _ h2.v⟩
theorem cd.sz (h:T.cd K m n):T.all (sz K) m n:=by
 obtain⟨D,h0,h1,h2⟩:=h;have up:∀ q,ovr D K q→Go.Eng.sz K q:=λq ⟨N,n1,n2⟩=>ZOp n1 n2 h1 h0;exact⟨λi k hi hk=>up _ (h2.a i k hi hk),λi hi=>up _ (h2.b i hi),λk hk=>up _ (h2.z k hk),up _ h2.v⟩
theorem cd.piv (h:T.cd K m n) (hr:r<m) (hc:c<n) (h0:T.a r c≠0):(T.piv r c).cd (2*K+1) m n:=by
 obtain⟨D,hD,h1,h2⟩:=h;obtain⟨F,f1,f2⟩:=h2.a r c hr hc;have hF:F≠0:=λe=>h0 (by rw[f1,e,Rat.div_def];exact Rat.zero_mul _);have e2:2^(2*K+1)=2*(2^K*2^K):=by rw[Nat.pow_succ,Nat.two_mul,Nat.pow_add];omega
 refine⟨D*F,λe=>?_,?_,λi k hi hk=>?_,λi hi=>?_,λk hk=>?_,?_⟩
 ·rcases Int.mul_eq_zero.1 e with h | h
  ·exact hD h
  ·exact hF h
 ·have:=Zdd h1 f2;omega
 ·show ovr _ _ (if i=r then (if k=c then 1 / T.a r c else T.a r k*(1 / T.a r c)) else (if k=c then -(T.a i c*(1 / T.a r c)) else T.a i k-T.a i c*(T.a r k*(1 / T.a r c))));rw[f1];split <;> split
  ·exact ovr_inv hD hF h1
  ·exact Zol hD hF h1 (h2.a r k hr hk)
  ·exact Zzu (Zol hD hF h1 (h2.a i c hi hc))
  ·exact Zmk hD hF f2 (h2.a i k hi hk) (h2.a i c hi hc) (h2.a r k hr hk)
 ·show ovr _ _ (if i=r then T.b r*(1 / T.a r c) else T.b i-T.a i c*(T.b r*(1 / T.a r c)));rw[f1];split
  ·exact Zol hD hF h1 (h2.b r hr)
  ·exact Zmk hD hF f2 (h2.b i hi) (h2.a i c hi hc) (h2.b r hr)
 ·show ovr _ _ (if k=c then -(T.z c*(1 / T.a r c)) else T.z k-T.z c*(T.a r k*(1 / T.a r c)));rw[f1];split
  ·exact Zzu (Zol hD hF h1 (h2.z c hc))
  ·exact Zmk hD hF f2 (h2.z k hk) (h2.z c hc) (h2.a r k hr hk)
 ·show ovr _ _ (T.v+T.z c*(T.b r*(1 / T.a r c)));rw[f1];exact ovr_add hD hF f2 h2.v (h2.z c hc) (h2.b r hr)
theorem piv_piv (h0:T.a r c≠0):(T.piv r c).piv r c=T:=by
 have hi:(1:Rat) / (1 / T.a r c)=T.a r c:=by grind
 have e:(T.piv r c).a r c=1 / T.a r c:=by simp[piv]
 cases T with
 | mk a b z v bs fr =>
  simp only[piv] at *;simp only[Tb.mk.injEq];simp only[if_true,e];refine⟨?_,?_,?_,?_,?_,?_⟩
  ·funext i k
   by_cases hi':i=r <;> by_cases hk':k=c <;> simp[hi',hk'] <;> grind
  ·funext i
   by_cases hi':i=r <;> simp[hi'] <;> grind
  ·funext k
   by_cases hk':k=c <;> simp[hk'] <;> grind
  ·grind
  ·funext i
   by_cases hi':i=r <;> simp[hi']
  ·funext k
   by_cases hk':k=c <;> simp[hk']
theorem row_ex (h0:T0.arr m n N) (h:T.arr m n N) (he:T.eqv T0 m n) {k:Nat} (hk:k<n) (hB:T0.inB m (T.fr k)):∃ i,i<m∧¬ T0.inB m (T.bs i)∧T.a i k≠0:=Classical.byContradiction λhn=>by
 have hz:∀ i,i<m→¬ T0.inB m (T.bs i)→T.a i k=0:=λi hi hb=>Classical.byContradiction λe=>hn ⟨i,hi,hb,e⟩
 obtain⟨x0,s0,f0,b0⟩:=h.pt λ_=>0
 obtain⟨x1,s1,f1,b1⟩:=h.pt λl=>if l=k then 1 else 0
 have key:=h0.uni ((he.sol x0).1 s0) ((he.sol x1).1 s1) (λl hl=>by
  have hnB:¬ T0.inB m (T0.fr l):=λ⟨a,ha,e⟩=>h0.d a l ha hl e
  rcases h.cov _ (h0.fl l hl) with ⟨i,hi,e⟩ | ⟨q,hq,e⟩
  ·rw[← e]at hnB ⊢
   have hb0:sm n (λl=>T.a i l*(0:Rat))=0:=Zea λl _=>Rat.mul_zero _
   have hb1:sm n (λl=>T.a i l*(if l=k then (1:Rat) else 0))=T.a i k:=by
    rw[Z2a hk λl _ hne=>by rw[iN hne];exact Rat.mul_zero _,iP rfl,Rat.mul_one]
   rw[b0 i hi,b1 i hi,hb0,hb1,hz i hi hnB]
  ·rw[← e]at hnB ⊢;rw[f0 q hq,f1 q hq,iN λe2=>hnB (by rw[e2];exact hB)]) (T.fr k) (h.fl k hk)
 rw[f0 k hk,f1 k hk,iP rfl]at key;exact absurd key (by decide)
theorem Zvw {P:Rat→Prop} (h0:T0.arr m n N) (h:T.arr m n N) (he:T.eqv T0 m n) (hf:∀ k,k<n→¬ T0.inB m (T.fr k)) (ha:T0.all P m n):T.all P m n:=by
 have hfr:∀ k,∃ l,k<n→l<n∧T.fr k=T0.fr l:=λk=>by
  by_cases hk:k<n
  ·rcases h0.cov _ (h.fl k hk) with ⟨i,hi,e⟩ | ⟨l,hl,e⟩
   ·exact absurd ⟨i,hi,e⟩ (hf k hk)
   ·exact⟨l,λ_=>⟨hl,e.symm⟩⟩
  ·exact⟨0,λe=>absurd e hk⟩
 obtain⟨σ,hσ⟩:=Classical.axiomOfChoice hfr;have hinj:∀ i j,i<n→j<n→σ i=σ j→i=j:=λi j hi hj e=>h.fi i j hi hj (by rw[(hσ i hi).2,(hσ j hj).2,e]);have hmet:=all_met (λi hi=>(hσ i hi).1) hinj;have hbs:∀ i,i<m→∃ i0,i0<m∧T.bs i=T0.bs i0:=λi hi=>by
  rcases h0.cov _ (h.bl i hi) with ⟨a,ha,e⟩ | ⟨l,hl,e⟩
  ·exact⟨a,ha,e.symm⟩
  ·obtain⟨k,hk,e2⟩:=hmet l hl;exact absurd (by rw[← e,← e2,(hσ k hk).2]:T.bs i=T.fr k) (h.d i k hi hk)
 obtain⟨x0,s0,f0,b0⟩:=h0.pt λ_=>0;have f0':∀ k,k<n→x0 (T.fr k)=0:=λk hk=>by rw[(hσ k hk).2];exact f0 _ (hσ k hk).1
 have hb:∀ i i0,i<m→i0<m→T.bs i=T0.bs i0→T.b i=T0.b i0:=λi i0 hi hi0 e=>by
  have h1:=(he.sol x0).2 s0 i hi;rw[Zea λk hk=>by rw[f0' k hk];exact Rat.mul_zero _,e,b0 i0 hi0,Zea λk hk=>Rat.mul_zero _]at h1;grind
 have hv:T.v=T0.v:=by
  have:=he.obj x0 s0;rw[Z4i f0',Z4i f0]at this;exact this
 have unit:∀ k,k<n→∃ x,T0.sol m n x∧(∀ k',k'<n→x (T.fr k')=if k'=k then 1 else 0)∧(∀ l,l<n→x (T0.fr l)=if l=σ k then 1 else 0)∧∀ i,i<m→x (T0.bs i)=T0.b i-T0.a i (σ k):=λk hk=>by
  obtain⟨x1,s1,f1,b1⟩:=h0.pt λl=>if l=σ k then 1 else 0;refine⟨x1,s1,λk' hk'=>?_,f1,λi hi=>?_⟩
  ·rw[(hσ k' hk').2,f1 _ (hσ k' hk').1];by_cases e:k'=k
   ·rw[e,iP rfl,iP rfl]
   ·rw[iN e,iN λe2=>e (hinj k' k hk' hk e2)]
  ·rw[b1 i hi,Z2a (hσ k hk).1 λl _ hne=>by rw[iN hne];exact Rat.mul_zero _,iP rfl,Rat.mul_one]
 refine⟨λi k hi hk=>?_,λi hi=>?_,λk hk=>?_,by rw[hv];exact ha.v⟩
 ·obtain⟨i0,hi0,e⟩:=hbs i hi;obtain⟨x1,s1,f1,g1,b1⟩:=unit k hk;have h1:=(he.sol x1).2 s1 i hi;rw[Z2a hk λl hl hne=>by rw[f1 l hl,iN hne];exact Rat.mul_zero _,f1 k hk,iP rfl,e,b1 i0 hi0,hb i i0 hi hi0 e]at h1;have:T.a i k=T0.a i0 (σ k):=by grind
  rw[this];exact ha.a i0 _ hi0 (hσ k hk).1
 ·obtain⟨i0,hi0,e⟩:=hbs i hi;rw[hb i i0 hi hi0 e];exact ha.b i0 hi0
 ·obtain⟨x1,s1,f1,g1,b1⟩:=unit k hk;have h1:=he.obj x1 s1;unfold obj at h1;rw[Z2a hk λl hl hne=>by rw[f1 l hl,iN hne];exact Rat.mul_zero _,f1 k hk,iP rfl,Z2a (hσ k hk).1 λl hl hne=>by rw[g1 l hl,iN hne];exact Rat.mul_zero _,g1 _ (hσ k hk).1,iP rfl]at h1;have:T.z k=T0.z (σ k):=by grind
  rw[this];exact ha.z _ (hσ k hk).1
theorem Zcq (h0:T0.arr m n N) (c0:T0.cd K m n):∀ (d:Nat) (T:Tb),cnt (λk=>T0.inB m (T.fr k)) n=d→T.arr m n N→T.eqv T0 m n→T.cd (kk K d) m n
 | 0,T,hd,h,he=>by
  obtain⟨D,h1,h2,h3⟩:=c0
  have e:kk K 0=K:=by unfold kk;omega
  rw[e]
  exact⟨D,h1,h2,Zvw h0 h he (Zhx hd) h3⟩
 | d+1,T,hd,h,he=>by
  obtain⟨k,hk,hB⟩:=Zgm (show 0<cnt (λk=>T0.inB m (T.fr k)) n by omega)
  obtain⟨i,hi,hnB,hne⟩:=row_ex h0 h he hk hB
  have h':=h.piv hi hk
  have he':=(ZWj hi hk hne).trans he
  have hc:cnt (λk=>T0.inB m (T.fr k)) n=cnt (λl=>T0.inB m ((T.piv i k).fr l)) n+1:=Zqx hk hB (by rw[Z1d,iP rfl];exact hnB) λl _ hl=>by rw[Z1d,iN hl]
  have:=Zcq h0 c0 d (T.piv i k) (by omega) h' he'
  have h2:=this.piv hi hk (show (T.piv i k).a i k≠0 by simp[piv];grind)
  rw[piv_piv hne,← kk_succ]at h2
  exact h2
theorem cnt_one {f:Nat→Nat} {u:Nat} {n:Nat} (hi:∀ i j,i<n→j<n→f i=f j→i=j):cnt (λk=>f k=u) n≤1:=by
 induction n with
 | zero=>exact Nat.zero_le 1
 | succ n ih =>
  simp only[cnt];have:=ih λi j a b=>hi i j (by omega) (by omega);split
  ·rename_i e;have:cnt (λk=>f k=u) n=0:=Classical.byContradiction λh=>by
    obtain⟨k,hk,e2⟩:=Zgm (show 0<cnt (λk=>f k=u) n by omega);have:=hi k n (by omega) (by omega) (e2.trans e.symm);omega
   omega
  ·omega
theorem cnt_or (p q:Nat→Prop) (n:Nat):cnt (λk=>p k∨q k) n≤cnt p n+cnt q n:=by
 induction n with
 | zero=>exact Nat.zero_le _
 | succ n ih =>
  simp only[cnt];by_cases h1:p n
  ·rw[iP (Or.inl h1),iP h1];omega
  ·by_cases h2:q n
   ·rw[iP (Or.inr h2),iP h2];omega
   ·rw[iN (λh=>h.elim h1 h2)];omega
theorem ZQu {f g:Nat→Nat} {n:Nat} (hi:∀ i j,i<n→j<n→f i=f j→i=j):∀ m,cnt (λk=>∃ i,i<m∧g i=f k) n≤m
 | 0=>by
  refine Nat.le_of_eq (Classical.byContradiction λh=>?_)
  obtain⟨k,_,i,hi,_⟩:=Zgm (Nat.pos_of_ne_zero h)
  omega
 | m+1=>by
  have h1:=ZQu (g:=g) hi m
  have h2:=cnt_one (f:=f) (u:=g m) hi
  have h3:=cnt_or (λk=>∃ i,i<m∧g i=f k) (λk=>f k=g m) n
  have h4:cnt (λk=>∃ i,i<m+1∧g i=f k) n=cnt (λk=>(∃ i,i<m∧g i=f k)∨f k=g m) n:=ZTr λk _=>by
   constructor
   ·rintro⟨i,hi,e⟩
    by_cases e2:i=m
    ·exact .inr (by rw[← e,e2])
    ·exact .inl ⟨i,by omega,e⟩
   ·rintro (⟨i,hi,e⟩ | e)
    ·exact⟨i,by omega,e⟩
    ·exact⟨m,by omega,e.symm⟩
  omega
theorem ZVj {R:Nat} (hr:m≤R∨n≤R) (h0:T0.arr m n N) (c0:T0.cd K m n) (h:T.arr m n N) (he:T.eqv T0 m n):T.cd (kk K R) m n:=(Zcq h0 c0 _ T rfl h he).mono (kk_le (by
 have h1:=cnt_le (λk=>T0.inB m (T.fr k)) n
 have h2:cnt (λk=>T0.inB m (T.fr k)) n≤m:=ZQu h.fi m
 omega))
end Tb
noncomputable def Z9e (t:(List (List Rat))×(List Rat)×(List Rat)×Rat×(List Int)×(List Int)) (r:Int) (c:Int):Option (((List (List Rat))×(List Rat)×(List Rat)×Rat×(List Int)×(List Int))×Unit) :=
 bnd (ZTb (1:Int)) λu =>
 bnd (idx t.1 r) λv =>
 bnd (idx v c) λw =>
 bnd (Zlc u w) λg =>
 bnd (idx t.1 r) λx =>
 bnd (Zg (σ:=Int×(List (List Rat))) (ρ:=List (List Rat)) (λe =>
 ifb (decide (e.1<(x.length:Int)))
 (bnd (idx e.2 r) λk =>
 bnd (idx e.2 r) λy =>
 bnd (idx y e.1) λz =>
 bnd (Zza z g.1) λA =>
 bnd (idx k e.1) λaq =>
 bnd (chk .i64 (e.1+(1:Int))) λB =>
 some (.inl (B,e.2.set r.toNat (k.set e.1.toNat A))))
 (some (.inr e.2)))
  Zi ((0:Int),t.1)) λh =>
 bnd (idx h r) λi =>
 bnd (idx i c) λar =>
 bnd (idx t.2.1 r) λC =>
 bnd (Zza C g.1) λD =>
 bnd (idx t.2.1 r) λau =>
 bnd (Zg (σ:=Int×(List (List Rat))×(List Rat)) (ρ:=(List (List Rat))×(List Rat)) (λa =>
 ifb (decide (a.1<((h.set r.toNat (i.set c.toNat g.1)).length:Int)))
 (bnd (α:=(List (List Rat))×(List Rat))
 (bnd (α:=Bool)
 (ifb (a.1==r)
 (some true)
 (bnd (idx a.2.1 a.1) λE =>
 bnd (idx E c) λF =>
 bnd (Z5d F) λG =>
 some G)) λH =>
 ifb H
 (some (a.2.1,a.2.2))
 (bnd (idx a.2.1 a.1) λI =>
 bnd (idx I c) λJ =>
 bnd (idx a.2.2 a.1) λK =>
 bnd (idx a.2.2 r) λL =>
 bnd (Zza J L) λM =>
 bnd (ZBa K M) λN =>
 bnd (idx a.2.2 a.1) λav =>
 bnd (idx a.2.1 a.1) λl =>
 bnd (idx l c) λm =>
 bnd (Zg (σ:=Int×(List (List Rat))) (ρ:=List (List Rat)) (λb =>
 ifb (decide (b.1<(l.length:Int)))
 (bnd (idx b.2 ((a.1.toNat:Nat):Int)) λO =>
 bnd (idx O b.1) λP =>
 bnd (idx b.2 r) λQ =>
 bnd (idx Q b.1) λR =>
 bnd (Zza m R) λS =>
 bnd (ZBa P S) λT =>
 bnd (idx b.2 ((a.1.toNat:Nat):Int)) λn =>
 bnd (idx n b.1) λax =>
 bnd (chk .i64 (b.1+(1:Int))) λU =>
 some (.inl (U,b.2.set a.1.toNat (n.set b.1.toNat T))))
 (some (.inr b.2)))
       Zi ((0:Int),a.2.1)) λj =>
 bnd (idx j r) λV =>
 bnd (idx V c) λW =>
 bnd (Zza m W) λX =>
 bnd (Z9a X) λY =>
 bnd (idx j ((a.1.toNat:Nat):Int)) λo =>
 bnd (idx o c) λay =>
 some (j.set a.1.toNat (o.set c.toNat Y),a.2.2.set a.1.toNat N))) λp =>
 bnd (chk .i64 (a.1+(1:Int))) λZ =>
 some (.inl (Z,p.1,p.2)))
 (some (.inr (a.2.1,a.2.2))))
  Zi ((0:Int),h.set r.toNat (i.set c.toNat g.1),t.2.1.set r.toNat D)) λf =>
 bnd (idx t.2.2.1 c) λaa =>
 bnd (idx f.2 r) λab =>
 bnd (Zza aa ab) λac =>
 bnd (ZDa t.2.2.2.1 ac) λad =>
 bnd (idx t.2.2.1 c) λq =>
 bnd (Zg (σ:=Int×(List Rat)) (ρ:=List Rat) (λd =>
 ifb (decide (d.1<(t.2.2.1.length:Int)))
 (bnd (idx d.2 d.1) λae =>
 bnd (idx f.1 r) λaf =>
 bnd (idx af d.1) λag =>
 bnd (Zza q ag) λah =>
 bnd (ZBa ae ah) λai =>
 bnd (idx d.2 d.1) λaz =>
 bnd (chk .i64 (d.1+(1:Int))) λaj =>
 some (.inl (aj,d.2.set d.1.toNat ai)))
 (some (.inr d.2)))
  Zi ((0:Int),t.2.2.1)) λs =>
 bnd (idx f.1 r) λak =>
 bnd (idx ak c) λal =>
 bnd (Zza q al) λam =>
 bnd (Z9a am) λan =>
 bnd (idx s c) λaA =>
 bnd (idx t.2.2.2.2.2 c) λao =>
 bnd (idx t.2.2.2.2.1 r) λap =>
 bnd (idx t.2.2.2.2.1 r) λaB =>
 bnd (idx t.2.2.2.2.2 c) λaC =>
 some ((f.1,f.2,s.set c.toNat an,ad,t.2.2.2.2.1.set r.toNat ao,t.2.2.2.2.2.set c.toNat ap),())
abbrev TbL:=(List (List Rat))×(List Rat)×(List Rat)×Rat×(List Int)×(List Int)
def tbl (m n:Nat) (T:Tb):TbL:=(mx m n T.a,vx m T.b,vx n T.z,T.v,vx m (λi=>(T.bs i:Int)),vx n (λk=>(T.fr k:Int)))
theorem ZBz:((1:Int):Rat)=1:=rfl
namespace Tb
variable {T:Tb} {m n r c K:Nat}
theorem ZXg (T:Tb) (r c k:Nat):(T.piv r c).a r k=if k=c then 1 / T.a r c else T.a r k*(1 / T.a r c):=iP rfl
theorem Z4p (T:Tb) {r i:Nat} (c k:Nat) (h:i≠r):(T.piv r c).a i k=if k=c then -(T.a i c*(1 / T.a r c)) else T.a i k-T.a i c*(T.a r k*(1 / T.a r c)):=iN h
theorem Z5k (T:Tb) (r c:Nat):(T.piv r c).b r=T.b r*(1 / T.a r c):=iP rfl
theorem Zru (T:Tb) {r i:Nat} (c:Nat) (h:i≠r):(T.piv r c).b i=T.b i-T.a i c*(T.b r*(1 / T.a r c)):=iN h
theorem piv_z (T:Tb) (r c k:Nat):(T.piv r c).z k=if k=c then -(T.z c*(1 / T.a r c)) else T.z k-T.z c*(T.a r k*(1 / T.a r c)):=rfl
def Zcc (T:Tb) (r c i:Nat):Mx:=λi' k=>if i'=r then (T.piv r c).a r k else if i'<i then (T.piv r c).a i' k else T.a i' k
def Z3c (T:Tb) (r c i:Nat):Nat→Rat:=λi'=>if i'=r then (T.piv r c).b r else if i'<i then (T.piv r c).b i' else T.b i'
end Tb
open Tb
set_option maxRecDepth 100000 in
theorem ZIm {T:Tb} {m n r c K:Nat} (hr:r<m) (hc:c<n) (h0:T.a r c≠0) (hz:T.all (sz K) m n) (hm:m≤1000) (hn:n≤1000) (hK:K≤137438953472) (hK1:1≤K):Z9e (tbl m n T) (r:Int) (c:Int)=some (tbl m n (T.piv r c),()):=by
 have zf:sz (K+2) (1 / T.a r c):=(ZSh ZXe (hz.a r c hr hc)).mono (by omega);have zr:∀ k,k<n→sz (2*K+2) ((T.piv r c).a r k):=λk hk=>by
  rw[ZXg];split
  ·exact zf.mono (by omega)
  ·exact (ZDb (hz.a r k hr hk) zf).mono (by omega)
 have zbr:sz (2*K+2) ((T.piv r c).b r):=by rw[Z5k];exact (ZDb (hz.b r hr) zf).mono (by omega)
 unfold Z9e tbl;refine Zr (ZEc 1) ?_;refine Zr (Zhb _ hr) ?_;refine Zr (Zu _ hc) ?_;refine Zr (y:=(1 / T.a r c,0)) (by rw[ZBz];exact ZMg ZXe (hz.a r c hr hc) (by omega) (by omega) h0) ?_;refine Zr (Zhb _ hr) ?_;refine Zr (y:=mx m n (λi k=>if i=r∧k<n then T.a r k*(1 / T.a r c) else T.a i k)) (Zra (λj=>((j:Int),mx m n (λi k=>if i=r∧k<j then T.a r k*(1 / T.a r c) else T.a i k))) n ?_ (by omega) (λj hj=>?_) ?_) ?_
 ·exact Prod.ext rfl (ZYe λi hi k hk=>iN (by omega))
 ·simp only;rw[Zj,dTq (by omega),Ze,Zhb _ hr,Za,Za,Zu _ hj,Za,iN (by omega),Zpc (hz.a r j hr hj) zf (by omega) (by omega),Za,Za,Zm (by omega) (by omega),Za];simp only[tN];rw[ZMa,ZEl];refine congrArg (λx=>some (Sum.inl x)) (Prod.ext (by simp) (ZYe λi hi k hk=>?_));by_cases e:i=r
  ·rw[iP e];by_cases e2:k=j
   ·rw[iP e2,iP ⟨e,by omega⟩,e2]
   ·rw[iN e2,e];by_cases e3:k<j
    ·rw[iP ⟨trivial,e3⟩,iP ⟨rfl,by omega⟩]
    ·rw[iN (by omega),iN (by omega)]
  ·rw[iN e,iN (by omega),iN (by omega)]
 ·simp only;rw[Zj,dFq (by omega),Zf]
 refine Zr (Zhb _ hr) ?_;refine Zr (Zu _ hc) ?_;refine Zr (Zu _ hr) ?_;refine Zr (Zpc (hz.b r hr) zf (by omega) (by omega)) ?_;refine Zr (Zu _ hr) ?_;simp only[tN];rw[ZMa,ZEl,ZMa];have eA:mx m n (λk j=>if k=r then (if j=c then 1 / T.a r c else if True∧j<n then T.a r j*(1 / T.a r c) else T.a r j) else if k=r∧j<n then T.a r j*(1 / T.a r c) else T.a k j)=mx m n (Zcc T r c 0):=ZYe λi hi k hk=>by
  unfold Zcc;by_cases e:i=r
  ·rw[iP e,iP e,ZXg];split
   ·rfl
   ·rw[iP ⟨trivial,hk⟩]
  ·rw[iN e,iN e,iN (by omega),iN (by omega)]
 have eB:vx m (λk=>if k=r then T.b r*(1 / T.a r c) else T.b k)=vx m (Z3c T r c 0):=ZH λi hi=>by
  unfold Z3c;by_cases e:i=r
  ·rw[iP e,iP e,Z5k]
  ·rw[iN e,iN e,iN (by omega)]
 rw[eA,eB];have rA:∀ i k,Zcc T r c i r k=(T.piv r c).a r k:=λi k=>iP rfl;have rB:∀ i,Z3c T r c i r=(T.piv r c).b r:=λi=>iP rfl;refine Zr (y:=(mx m n (Zcc T r c m),vx m (Z3c T r c m))) (Zra (λi=>((i:Int),mx m n (Zcc T r c i),vx m (Z3c T r c i))) m rfl (by omega) (λi hi=>?_) ?_) ?_
 ·simp only;rw[Zab,dTq (by omega),Ze];refine Zr (y:=(mx m n (Zcc T r c (i+1)),vx m (Z3c T r c (i+1)))) ?_ (by rw[Zm (by omega) (by omega),Za];rfl);by_cases e:i=r
  ·rw[show ((i:Int)==(r:Int))=true by simp[e],Ze,Za,Ze];refine congrArg some (Prod.ext (ZYe λi' hi' k hk=>?_) (ZH λi' hi'=>?_))
   ·unfold Zcc;by_cases e2:i'=r
    ·rw[iP e2,iP e2]
    ·rw[iN e2,iN e2];by_cases e3:i'<i
     ·rw[iP e3,iP (by omega)]
     ·rw[iN e3,iN (by omega)]
   ·unfold Z3c;by_cases e2:i'=r
    ·rw[iP e2,iP e2]
    ·rw[iN e2,iN e2];by_cases e3:i'<i
     ·rw[iP e3,iP (by omega)]
     ·rw[iN e3,iN (by omega)]
  ·have iA:∀ k,Zcc T r c i i k=T.a i k:=λk=>by unfold Zcc;rw[iN e,iN (by omega)]
   have iB:Z3c T r c i i=T.b i:=by unfold Z3c;rw[iN e,iN (by omega)]
   rw[show ((i:Int)==(r:Int))=false by simp;omega,Zf,Zhb _ hi,Za,Zu _ hc,Za,iA];unfold Z5d;by_cases hz0:T.a i c=0
   ·rw[dTq hz0,Za,Za,Ze];refine congrArg some (Prod.ext (ZYe λi' hi' k hk=>?_) (ZH λi' hi'=>?_))
    ·unfold Zcc;by_cases e2:i'=r
     ·rw[iP e2,iP e2]
     ·rw[iN e2,iN e2];by_cases e3:i'<i
      ·rw[iP e3,iP (by omega)]
      ·rw[iN e3];by_cases e4:i'=i
       ·rw[iP (by omega),e4,Z4p T c k e,hz0];split
        ·rename_i hkc;rw[hkc,hz0];grind
        ·grind
       ·rw[iN (by omega)]
    ·unfold Z3c;by_cases e2:i'=r
     ·rw[iP e2,iP e2]
     ·rw[iN e2,iN e2];by_cases e3:i'<i
      ·rw[iP e3,iP (by omega)]
      ·rw[iN e3];by_cases e4:i'=i
       ·rw[iP (by omega),e4,Zru T c e,hz0];grind
       ·rw[iN (by omega)]
   ·have zg:sz K (T.a i c):=hz.a i c hi hc;rw[dFq hz0,Za,Za,Zf,Za,Zu _ hc,Za,Zu _ hi,Za,iB,Zu _ hr,Za,rB,iA,Zpc zg zbr (by omega) (by omega),Za,Zpf (hz.b i hi) (ZDb zg zbr) (by omega) (by omega),Za,Za,Za,Zu _ hc,Za,iA];simp only[tN]
    let inn:Nat→Mx:=λj i' k=>if i'=i∧k<j then T.a i k-T.a i c*(T.piv r c).a r k else Zcc T r c i i' k
    have innr:∀ j k,inn j r k=(T.piv r c).a r k:=λj k=>by show (if _ then _ else _)=_;rw[iN (by omega)];exact rA i k
    refine Zr (y:=mx m n (inn n)) (Zra (λj=>((j:Int),mx m n (inn j))) n ?_ (by omega) (λj hj=>?_) ?_) ?_
    ·exact Prod.ext rfl (ZYe λi' hi' k hk=>iN (by omega))
    ·have ij:inn j i j=T.a i j:=by show (if _ then _ else _)=_;rw[iN (by omega)];exact iA j
     simp only;rw[Zj,dTq (by omega),Ze,Zhb _ hi,Za,Zu _ hj,Za,Zhb _ hr,Za,Zu _ hj,Za,innr,ij,Zpc zg (zr j hj) (by omega) (by omega),Za,Zpf (hz.a i j hi hj) (ZDb zg (zr j hj)) (by omega) (by omega),Za,Za,Zu _ hj,Za,Zm (by omega) (by omega),Za];simp only[tN];rw[ZMa,ZEl];refine congrArg (λx=>some (Sum.inl x)) (Prod.ext (by simp) (ZYe λi' hi' k hk=>?_));show _=if _ then _ else _;by_cases e2:i'=i
     ·rw[iP e2];by_cases e3:k=j
      ·rw[iP e3,iP ⟨e2,by omega⟩,e3]
      ·rw[iN e3];show (if _ then _ else _)=_;by_cases e4:k<j
       ·rw[iP ⟨rfl,e4⟩,iP ⟨e2,by omega⟩]
       ·rw[iN (by omega),iN (by omega),e2]
     ·rw[iN e2];show (if _ then _ else _)=_;rw[iN (by omega),iN (by omega)]
    ·simp only;rw[Zj,dFq (by omega),Zf]
    rw[Zhb _ hr,Za,Zu _ hc,Za,innr,Zpc zg (zr c hc) (by omega) (by omega),Za];unfold Z9a;rw[Za,Zhb _ hi,Za,Zu _ hc,Za,ZMa,ZEl,ZMa];refine congrArg some (Prod.ext (ZYe λi' hi' k hk=>?_) (ZH λi' hi'=>?_))
    ·by_cases e2:i'=i
     ·have hR:Zcc T r c (i+1) i' k=(T.piv r c).a i k:=by unfold Zcc;rw[iN (by omega),iP (by omega),e2]
      rw[iP e2,hR,Z4p T c k e];by_cases e3:k=c
      ·rw[iP e3,iP e3,ZXg,iP rfl]
      ·rw[iN e3,iN e3];show (if _ then _ else _)=_;rw[iP ⟨rfl,hk⟩,ZXg,iN e3]
     ·rw[iN e2];show (if _ then _ else _)=_;rw[iN (by omega)];unfold Zcc;by_cases e3:i'=r
      ·rw[iP e3,iP e3]
      ·rw[iN e3,iN e3];by_cases e4:i'<i
       ·rw[iP e4,iP (by omega)]
       ·rw[iN e4,iN (by omega)]
    ·unfold Z3c;by_cases e2:i'=i
     ·rw[iP e2,iN (by omega),iP (by omega),e2,Zru T c e,Z5k]
     ·rw[iN e2];by_cases e3:i'=r
      ·rw[iP e3,iP e3]
      ·rw[iN e3,iN e3];by_cases e4:i'<i
       ·rw[iP e4,iP (by omega)]
       ·rw[iN e4,iN (by omega)]
 ·simp only;rw[Zab,dFq (by omega),Zf]
 have zz:sz K (T.z c):=hz.z c hc;refine Zr (Zu _ hc) ?_;refine Zr (Zu _ hr) ?_;rw[rB];refine Zr (Zpc zz zbr (by omega) (by omega)) ?_;refine Zr (Zsf hz.v (ZDb zz zbr) (by omega) (by omega)) ?_;refine Zr (Zu _ hc) ?_;refine Zr (y:=vx n (λk=>T.z k-T.z c*(T.piv r c).a r k)) (Zra (λj=>((j:Int),vx n (λk=>if k<j then T.z k-T.z c*(T.piv r c).a r k else T.z k))) n ?_ (by omega) (λj hj=>?_) ?_) ?_
 ·exact Prod.ext rfl (ZH λk hk=>iN (by omega))
 ·simp only;rw[Zj,dTq (by omega),Ze,Zu _ hj,Za,Zhb _ hr,Za,Zu _ hj,Za,rA,iN (by omega),Zpc zz (zr j hj) (by omega) (by omega),Za,Zpf (hz.z j hj) (ZDb zz (zr j hj)) (by omega) (by omega),Za,Za,Zm (by omega) (by omega),Za];simp only[tN];rw[ZMa];refine congrArg (λx=>some (Sum.inl x)) (Prod.ext (by simp) (ZH λk hk=>?_));by_cases e2:k=j
  ·rw[iP e2,iP (by omega),e2]
  ·rw[iN e2];by_cases e3:k<j
   ·rw[iP e3,iP (by omega)]
   ·rw[iN e3,iN (by omega)]
 ·simp only;rw[Zj,dFq (by omega),Zf];exact congrArg (λx=>some (Sum.inr x)) (ZH λk hk=>iP hk)
 refine Zr (Zhb _ hr) ?_;refine Zr (Zu _ hc) ?_;rw[rA];refine Zr (Zpc zz (zr c hc) (by omega) (by omega)) ?_;refine Zr (y:=-(T.z c*(T.piv r c).a r c)) rfl ?_;refine Zr (Zu _ hc) ?_;refine Zr (Zu _ hc) ?_;refine Zr (Zu _ hr) ?_;refine Zr (Zu _ hr) ?_;refine Zr (Zu _ hc) ?_;simp only[tN];rw[ZMa,ZMa,ZMa];refine congrArg (λx=>some (x,())) (Prod.ext (ZYe λi hi k hk=>?_) (Prod.ext (ZH λi hi=>?_) (Prod.ext (ZH λk hk=>?_) (Prod.ext ?_ (Prod.ext (ZH λi hi=>?_) (ZH λk hk=>?_))))))
 ·unfold Zcc;by_cases e:i=r
  ·rw[iP e,e]
  ·rw[iN e,iP hi]
 ·unfold Z3c;by_cases e:i=r
  ·rw[iP e,e]
  ·rw[iN e,iP hi]
 ·rw[piv_z];by_cases e:k=c
  ·rw[iP e,iP e,ZXg,iP rfl]
  ·rw[iN e,iN e,ZXg,iN e]
 ·show T.v+T.z c*(T.piv r c).b r=_;rw[Z5k];rfl
 ·rw[ZAd];split <;> rfl
 ·rw[Z1d];split <;> rfl
noncomputable def Zvh (t:(List (List Rat))×(List Rat)×(List Rat)×Rat×(List Int)×(List Int)):Option (((List (List Rat))×(List Rat)×(List Rat)×Rat×(List Int)×(List Int))×Int) :=
 bnd (Zg (σ:=Int×Int) (ρ:=Int) (λa =>
 ifb (decide (a.2<(t.2.2.1.length:Int)))
 (bnd (idx t.2.2.1 a.2) λb =>
 bnd (α:=Bool)
 (bnd (Z4 b) λc =>
 ifb (decide ((0:Int)<c))
 (ifb (decide (a.1<(0:Int)))
 (some true)
 (bnd (idx t.2.2.2.2.2 a.2) λd =>
 bnd (idx t.2.2.2.2.2 a.1) λe =>
 some (decide (d<e))))
 (some false)) λf =>
 bnd (α:=Int)
 (ifb f
 (some a.2)
 (some a.1)) λg =>
 bnd (chk .i64 (a.2+(1:Int))) λh =>
 some (.inl (g,h)))
 (some (.inr a.1)))
  Zi ((-1:Int),(0:Int))) λi =>
 some ((t.1,t.2.1,t.2.2.1,t.2.2.2.1,t.2.2.2.2.1,t.2.2.2.2.2),i)
noncomputable def ZYg (t:(List (List Rat))×(List Rat)×(List Rat)×Rat×(List Int)×(List Int)) (c:Int) (last:Int):Option (((List (List Rat))×(List Rat)×(List Rat)×Rat×(List Int)×(List Int))×Int) :=
 bnd (Zg (σ:=Int×Int×Rat) (ρ:=Int) (λa =>
 ifb (decide (a.2.1<(t.1.length:Int)))
 (bnd (α:=Int×Rat)
 (bnd (idx t.1 a.2.1) λg =>
 bnd (idx g c) λh =>
 bnd (Z4 h) λi =>
 ifb (decide (i≤(0:Int)))
 (some (a.1,a.2.2))
 (bnd (idx t.2.1 a.2.1) λj =>
 bnd (idx t.1 a.2.1) λk =>
 bnd (idx k c) λl =>
 bnd (Zlc j l) λb =>
 bnd (α:=Int)
 (ifb (decide ((0:Int)≤a.1))
 (bnd (Zpa b.1 a.2.2) λm =>
 some m)
 (some (0:Int))) λd =>
 bnd (α:=Bool)
 (ifb (decide (a.1<(0:Int)))
 (some true)
 (ifb (decide (d<(0:Int)))
 (some true)
 (ifb (d==(0:Int))
 (bnd (idx t.2.2.2.2.1 a.1) λn =>
 ifb (n != last)
 (bnd (idx t.2.2.2.2.1 a.2.1) λo =>
 ifb (o==last)
 (some true)
 (bnd (idx t.2.2.2.2.1 a.2.1) λp =>
 bnd (idx t.2.2.2.2.1 a.1) λq =>
 some (decide (p<q))))
 (some false))
 (some false)))) λr =>
 bnd (α:=Int×Rat)
 (ifb r
 (some (a.2.1,b.1))
 (some (a.1,a.2.2))) λe =>
 some (e.1,e.2))) λf =>
 bnd (chk .i64 (a.2.1+(1:Int))) λs =>
 some (.inl (f.1,s,f.2)))
 (some (.inr a.1)))
  Zi ((-1:Int),(0:Int),(0:Rat))) λu =>
 some ((t.1,t.2.1,t.2.2.1,t.2.2.2.1,t.2.2.2.2.1,t.2.2.2.2.2),u)
noncomputable def ZMi (t:(List (List Rat))×(List Rat)×(List Rat)×Rat×(List Int)×(List Int)) (last:Int):Option (((List (List Rat))×(List Rat)×(List Rat)×Rat×(List Int)×(List Int))×Int) :=
 bnd (Zg (σ:=(List (List Rat))×(List Rat)×(List Rat)×Rat×(List Int)×(List Int)) (ρ:=Int×((List (List Rat))×(List Rat)×(List Rat)×Rat×(List Int)×(List Int))) (λd =>
 bnd (Zvh (d.1,d.2.1,d.2.2.1,d.2.2.2.1,d.2.2.2.2.1,d.2.2.2.2.2)) λa =>
 ifb (decide (a.2<(0:Int)))
 (some (.inr ((-1:Int),a.1.1,a.1.2.1,a.1.2.2.1,a.1.2.2.2.1,a.1.2.2.2.2.1,a.1.2.2.2.2.2)))
 (bnd (ZYg (a.1.1,a.1.2.1,a.1.2.2.1,a.1.2.2.2.1,a.1.2.2.2.2.1,a.1.2.2.2.2.2) a.2 last) λb =>
 ifb (decide (b.2<(0:Int)))
 (some (.inr (a.2,b.1.1,b.1.2.1,b.1.2.2.1,b.1.2.2.2.1,b.1.2.2.2.2.1,b.1.2.2.2.2.2)))
 (bnd (Z9e (b.1.1,b.1.2.1,b.1.2.2.1,b.1.2.2.2.1,b.1.2.2.2.2.1,b.1.2.2.2.2.2) b.2 a.2) λe =>
 some (.inl (e.1.1,e.1.2.1,e.1.2.2.1,e.1.2.2.2.1,e.1.2.2.2.2.1,e.1.2.2.2.2.2)))))
  Zi (t.1,t.2.1,t.2.2.1,t.2.2.2.1,t.2.2.2.2.1,t.2.2.2.2.2)) λc =>
 some ((c.2.1,c.2.2.1,c.2.2.2.1,c.2.2.2.2.1,c.2.2.2.2.2.1,c.2.2.2.2.2.2),c.1)
theorem ZUf (x:Rat):0<x.num.sign↔0<x:=by rw[Int.sign_pos_iff,ZVs]
theorem Zve (x:Rat):x.num.sign<0↔x<0:=by rw[Int.sign_neg_iff,ZDr]
theorem Ztu (x:Rat):x.num.sign=0↔x=0:=by rw[Int.sign_eq_zero_iff_zero,Rat.num_eq_zero]
theorem ZJe {k m:Nat} {x y:Rat} (h:sz k x) (h':sz m y) (hk:k≤1099511627776) (hm:m≤1099511627776):Zpa x y=some (x-y).num.sign:=by unfold Zpa;rw[iP ⟨h.ok hk,h'.ok hm⟩]
open Tb
set_option maxRecDepth 100000 in
theorem Znx {T:Tb} {m n:Nat} (hn:n≤1000):∃ z,Zvh (tbl m n T)=some z∧∃ e,z=(tbl m n T,e)∧(e = -1∧(∀ k,k<n→¬ 0<T.z k) ∨ ∃ c:Nat,e=(c:Int)∧T.ent n c):=by
 unfold Zvh tbl;refine Z9k (λk s=>∃ e,s=(e,(k:Int))∧(e = -1∧(∀ j,j<k→¬ 0<T.z j) ∨ ∃ c:Nat,e=(c:Int)∧c<k∧0<T.z c∧∀ j,j<k→0<T.z j→T.fr c≤T.fr j)) (λe=>e = -1∧(∀ k,k<n→¬ 0<T.z k) ∨ ∃ c:Nat,e=(c:Int)∧T.ent n c) n ⟨-1,rfl,.inl ⟨rfl,λj hj=>by omega⟩⟩ (by omega) (λk s hk hi=>?_) (λe he=>⟨_,rfl,e,rfl,he⟩);obtain⟨e,rfl,hI⟩:=hi;by_cases hlt:k<n
 ·left;simp only;rw[Zj,dTq (by omega),Ze,Zu _ hlt,Za];unfold Z4;rw[Za];obtain⟨b,hb,hbt⟩:∃ b:Bool,(ifb (decide ((0:Int)<(T.z k).num.sign)) (ifb (decide (e<(0:Int))) (some true) (bnd (idx (vx n (λk=>(T.fr k:Int))) (k:Int)) λy4=>bnd (idx (vx n (λk=>(T.fr k:Int))) e) λy5=>some (decide (y4<y5)))) (some false))=some b∧(b=true↔0<T.z k∧(e<0 ∨ ∃ c:Nat,e=(c:Int)∧T.fr k<T.fr c)):=by
   by_cases hp:0<T.z k
   ·rw[dTq ((ZUf _).2 hp),Ze];rcases hI with ⟨rfl,_⟩ | ⟨c,rfl,hc,_⟩
    ·exact⟨true,by rw[dTq (by omega),Ze],by simp[hp]⟩
    ·refine⟨decide ((T.fr k:Int)<(T.fr c:Int)),by rw[dFq (by omega),Zf,Zu _ hlt,Za,Zu _ (by omega),Za],?_⟩;rw[decide_eq_true_iff];constructor
     ·intro h;exact⟨hp,.inr ⟨c,rfl,by omega⟩⟩
     ·rintro⟨_,h | ⟨c',h1,h2⟩⟩
      ·omega
      ·have:c'=c:=by omega
       subst this;omega
   ·exact⟨false,by rw[dFq (λh=>hp ((ZUf _).1 h)),Zf],by simp[hp]⟩
  rw[hb,Za]
  cases b with
  | true =>
   obtain⟨hp,hc⟩:=hbt.1 rfl;refine⟨((k:Int),((k+1:Nat):Int)),hlt,by rw[Ze,Za,Zm (by omega) (by omega),Za];rfl,_,rfl,.inr ⟨k,rfl,by omega,hp,λj hj hpj=>?_⟩⟩;by_cases e2:j=k
   ·rw[e2];exact Nat.le_refl _
   ·rcases hI with ⟨rfl,hno⟩ | ⟨c,rfl,hcl,hpc,hle⟩
    ·exact absurd hpj (hno j (Nat.lt_of_le_of_ne (Nat.lt_succ_iff.1 hj) e2))
    ·rcases hc with h | ⟨c',h1,h2⟩
     ·omega
     ·have:c'=c:=by omega
      subst this;exact Nat.le_of_lt (Nat.lt_of_lt_of_le h2 (hle j (Nat.lt_of_le_of_ne (Nat.lt_succ_iff.1 hj) e2) hpj))
  | false =>
   have hnt:¬ (0<T.z k∧(e<0 ∨ ∃ c:Nat,e=(c:Int)∧T.fr k<T.fr c)):=λh=>by simpa using hbt.2 h
   refine⟨(e,((k+1:Nat):Int)),hlt,by rw[Zf,Za,Zm (by omega) (by omega),Za];rfl,_,rfl,?_⟩;rcases hI with ⟨rfl,hno⟩ | ⟨c,rfl,hcl,hpc,hle⟩
   ·refine .inl ⟨rfl,λj hj=>?_⟩;by_cases e2:j=k
    ·rw[e2];exact λh=>hnt ⟨h,.inl (by omega)⟩
    ·exact hno j (by omega)
   ·refine .inr ⟨c,rfl,by omega,hpc,λj hj hpj=>?_⟩;by_cases e2:j=k
    ·rw[e2]at hpj ⊢;exact Nat.le_of_not_lt λh=>hnt ⟨hpj,.inr ⟨c,rfl,h⟩⟩
    ·exact hle j (by omega) hpj
 ·right;have:k=n:=by omega
  subst this;refine⟨e,by simp only;rw[Zj,dFq (by omega),Zf],?_⟩;rcases hI with ⟨rfl,hno⟩ | ⟨c,rfl,hcl,hpc,hle⟩
  ·exact .inl ⟨rfl,hno⟩
  ·exact .inr ⟨c,rfl,hcl,hpc,hle⟩
set_option maxRecDepth 100000 in
theorem ZNw {T:Tb} {m n c lst K:Nat} {last:Int} (hc:c<n) (hz:T.all (sz K) m n) (hm:m≤1000) (hn:n≤1000) (hK:K≤137438953472) (hl:∀ i,i<m→((T.bs i:Int)=last↔T.bs i=lst)) :
  ∃ z,ZYg (tbl m n T) (c:Int) last=some z∧∃ e,z=(tbl m n T,e)∧(e = -1∧(∀ i,i<m→¬ 0<T.a i c) ∨ ∃ r:Nat,e=(r:Int)∧T.lea m c lst r):=by
 let q:Nat→Rat:=λi=>T.b i / T.a i c
 have zq:∀ i,i<m→sz (2*K+1) (q i):=λi hi=>(ZSh (hz.b i hi) (hz.a i c hi hc)).mono (by omega);unfold ZYg tbl;refine Z9k (λi s=>∃ e,∃ w,s=(e,(i:Int),w)∧(e = -1∧(∀ j,j<i→¬ 0<T.a j c) ∨ ∃ r:Nat,e=(r:Int)∧w=q r∧r<i∧0<T.a r c∧∀ j,j<i→0<T.a j c→q r≤q j∧(q j=q r→T.bs r≠lst→T.bs r≤T.bs j))) (λe=>e = -1∧(∀ i,i<m→¬ 0<T.a i c) ∨ ∃ r:Nat,e=(r:Int)∧T.lea m c lst r) m ⟨-1,_,rfl,.inl ⟨rfl,λj hj=>by omega⟩⟩ (by omega) (λi s hi hI=>?_) (λe he=>⟨_,rfl,e,rfl,he⟩);obtain⟨e,w,rfl,hI⟩:=hI;by_cases hlt:i<m
 ·left;simp only;rw[Zab,dTq (by omega),Ze]
  suffices hs:∃ e' w',(bnd (α:=Int×Rat) _ (λx17=>bnd (chk .i64 ((i:Int)+(1:Int))) λy18=>some (.inl (x17.1,y18,x17.2))):Option ((Int×Int×Rat) ⊕ Int))=some (.inl (e',((i+1:Nat):Int),w'))∧(e' = -1∧(∀ j,j<i+1→¬ 0<T.a j c) ∨ ∃ r:Nat,e'=(r:Int)∧w'=q r∧r<i+1∧0<T.a r c∧∀ j,j<i+1→0<T.a j c→q r≤q j∧(q j=q r→T.bs r≠lst→T.bs r≤T.bs j)) by
   obtain⟨e',w',h1,h2⟩:=hs;exact⟨_,hlt,h1,e',w',rfl,h2⟩
  have fin:∀ {X:Option (Int×Rat)} {e':Int} {w':Rat},X=some (e',w')→(bnd X (λx17=>bnd (chk .i64 ((i:Int)+(1:Int))) λy18=>some (.inl (x17.1,y18,x17.2))):Option ((Int×Int×Rat) ⊕ Int))=some (.inl (e',((i+1:Nat):Int),w')):=λh=>by
   rw[h,Za,Zm (by omega) (by omega),Za];rfl
  rw[Zhb _ hlt,Za,Zu _ hc,Za];unfold Z4;rw[Za];by_cases hp:0<T.a i c
  ·rw[dFq (show ¬ (T.a i c).num.sign≤0 from λh=>by have:=(ZUf _).2 hp;omega),Zf,Zu _ hlt,Za,Za,Zu _ hc,Za,ZMg (hz.b i hlt) (hz.a i c hlt hc) (by omega) (by omega) (λh=>by rw[h]at hp;exact Rat.lt_irrefl hp),Za];have take:∀ (h:∀ j,j<i→0<T.a j c→q i≤q j∧(q j=q i→T.bs i≠lst→T.bs i≤T.bs j)),(((i:Nat):Int) = -1∧(∀ j,j<i+1→¬ 0<T.a j c) ∨ ∃ r:Nat,((i:Nat):Int)=(r:Int)∧q i=q r∧r<i+1∧0<T.a r c∧∀ j,j<i+1→0<T.a j c→q r≤q j∧(q j=q r→T.bs r≠lst→T.bs r≤T.bs j)):=λh=>.inr ⟨i,rfl,rfl,by omega,hp,λj hj hpj=>by
    by_cases e2:j=i
    ·rw[e2];exact⟨Rat.le_refl,λ_ _=>Nat.le_refl _⟩
    ·exact h j (by omega) hpj⟩
   rcases hI with ⟨rfl,hno⟩ | ⟨r,rfl,rfl,hrl,hpr,hle⟩
   ·refine⟨(i:Int),q i,fin ?_,take λj hj hpj=>absurd hpj (hno j hj)⟩;rw[show (decide ((0:Int)≤-1))=false from rfl,Zf,Za,show (decide ((-1:Int)<0))=true from rfl,Ze,Za,Ze,Za]
   ·rw[dTq (show (0:Int)≤(r:Int) by omega),Ze,ZJe (zq i hlt) (zq r (by omega)) (by omega) (by omega),Za,Za,dFq (show ¬ (r:Int)<0 by omega),Zf];have keep:(∀ (h:q r≤q i∧(q i=q r→T.bs r≠lst→T.bs r≤T.bs i)),(((r:Nat):Int) = -1∧(∀ j,j<i+1→¬ 0<T.a j c) ∨ ∃ r':Nat,((r:Nat):Int)=(r':Int)∧q r=q r'∧r'<i+1∧0<T.a r' c∧∀ j,j<i+1→0<T.a j c→q r'≤q j∧(q j=q r'→T.bs r'≠lst→T.bs r'≤T.bs j))):=λh=>.inr ⟨r,rfl,rfl,by omega,hpr,λj hj hpj=>by
     by_cases e2:j=i
     ·rw[e2];exact h
     ·exact hle j (by omega) hpj⟩
    by_cases hd:q i<q r
    ·refine⟨(i:Int),q i,fin ?_,take λj hj hpj=>?_⟩
     ·rw[dTq ((Zve _).2 (by show q i-q r<0;grind)),Ze,Za,Ze,Za]
     ·have:=(hle j hj hpj).1;exact⟨by grind,λe2=>absurd e2 (by grind)⟩
    ·rw[dFq (λh=>hd (by have:=(Zve _).1 h;show q i<q r;have h3:q i-q r<0:=this;grind)),Zf];by_cases he:q i=q r
     ·rw[show ((q i-q r).num.sign==0)=true by rw[beq_iff_eq,Ztu,he];grind,Ze,Zu _ (show r<m by omega),Za];by_cases hrl2:T.bs r=lst
      ·refine⟨(r:Int),q r,fin ?_,keep ⟨by rw[he];exact Rat.le_refl,λ_ h=>absurd hrl2 h⟩⟩;rw[show ((T.bs r:Int) != last)=false by rw[bne_eq_false_iff_eq];exact (hl r (by omega)).2 hrl2,Zf,Za,Zf,Za]
      ·rw[show ((T.bs r:Int) != last)=true by rw[bne_iff_ne];exact λh=>hrl2 ((hl r (by omega)).1 h),Ze,Zu _ hlt,Za];by_cases hil:T.bs i=lst
       ·refine⟨(i:Int),q i,fin ?_,take λj hj hpj=>⟨by rw[he];exact (hle j hj hpj).1,λ_ h=>absurd hil h⟩⟩;rw[show ((T.bs i:Int)==last)=true by rw[beq_iff_eq];exact (hl i hlt).2 hil,Ze,Za,Ze,Za]
       ·rw[show ((T.bs i:Int)==last)=false by rw[beq_eq_false_iff_ne];exact λh=>hil ((hl i hlt).1 h),Zf,Za];by_cases hb:T.bs i<T.bs r
        ·refine⟨(i:Int),q i,fin ?_,take λj hj hpj=>⟨by rw[he];exact (hle j hj hpj).1,λe2 h=>?_⟩⟩
         ·rw[Za,dTq (by omega),Za,Ze,Za]
         ·exact Nat.le_of_lt (Nat.lt_of_lt_of_le hb ((hle j hj hpj).2 (by rw[e2,he]) hrl2))
        ·refine⟨(r:Int),q r,fin ?_,keep ⟨by rw[he];exact Rat.le_refl,λ_ _=>by omega⟩⟩;rw[Za,dFq (by omega),Za,Zf,Za]
     ·refine⟨(r:Int),q r,fin ?_,keep ⟨by grind,λh=>absurd h he⟩⟩;rw[show ((q i-q r).num.sign==0)=false by rw[beq_eq_false_iff_ne];exact λh=>he (by have:=(Ztu _).1 h;grind),Zf,Za,Zf,Za]
  ·refine⟨e,w,fin ?_,?_⟩
   ·rw[dTq (show (T.a i c).num.sign≤0 from Int.not_lt.1 λh=>hp ((ZUf _).1 h)),Ze]
   ·rcases hI with ⟨rfl,hno⟩ | ⟨r,rfl,rfl,hrl,hpr,hle⟩
    ·refine .inl ⟨rfl,λj hj=>?_⟩;by_cases e2:j=i
     ·rw[e2];exact hp
     ·exact hno j (by omega)
    ·refine .inr ⟨r,rfl,rfl,by omega,hpr,λj hj hpj=>?_⟩;by_cases e2:j=i
     ·rw[e2]at hpj;exact absurd hpj hp
     ·exact hle j (by omega) hpj
 ·right;have:i=m:=by omega
  subst this;refine⟨e,by simp only;rw[Zab,dFq (by omega),Zf],?_⟩;rcases hI with ⟨rfl,hno⟩ | ⟨r,rfl,rfl,hrl,hpr,hle⟩
  ·exact .inl ⟨rfl,hno⟩
  ·exact .inr ⟨r,rfl,hrl,hpr,λj hj hpj=>(hle j hj hpj).1,λj hj hpj=>(hle j hj hpj).2⟩
end Go.Eng
namespace Go.Eng
open Tb
namespace Tb
theorem Steps.more {st:Nat→Tb} {rr cc:Nat→Nat} {m n N lst k:Nat} (h:Steps st rr cc m n N lst k) {r c:Nat} (h1:(st k).ent n c) (h2:(st k).lea m c lst r) (h3:∀ j,j<n→(st k).fr j≠lst) :
  Steps (λj=>if j=k+1 then (st k).piv r c else st j) (λj=>if j=k then r else rr j) (λj=>if j=k then c else cc j) m n N lst (k+1):=by
 have e0:∀ j,j<k+1→(if j=k+1 then (st k).piv r c else st j)=st j:=λj hj=>iN (by omega);refine⟨λj hj=>?_,λj hj=>?_,λj hj=>?_,?_,?_,λj hj=>?_⟩
 ·rw[e0 j hj];show (if j+1=k+1 then (st k).piv r c else st (j+1))=(st j).piv (if j=k then r else rr j) (if j=k then c else cc j);by_cases e:j=k
  ·rw[iP (by omega),iP e,iP e,e]
  ·rw[iN (by omega),iN e,iN e];exact h.step j (by omega)
 ·rw[e0 j hj];show (st j).ent n (if j=k then c else cc j);by_cases e:j=k
  ·rw[iP e,e];exact h1
  ·rw[iN e];exact h.ent j (by omega)
 ·rw[e0 j hj];show (st j).lea m (if j=k then c else cc j) lst (if j=k then r else rr j);by_cases e:j=k
  ·rw[iP e,iP e,e];exact h2
  ·rw[iN e,iN e];exact h.lea j (by omega)
 ·rw[e0 0 (by omega)];exact h.arr0
 ·rw[e0 0 (by omega)];exact h.fea0
 ·rw[e0 j hj];by_cases e:j=k
  ·rw[e];exact h3
  ·exact h.nl j (by omega)
end Tb
theorem Z7x {N:Nat} (h:N≤60):2^N<2^64:=Nat.pow_lt_pow_right (by omega) (by omega)
def RunQ (m n N:Nat) (T0 T':Tb) (e:Int):Prop:=T'.arr m n N∧T'.eqv T0 m n∧T'.fea m∧(e = -1∧(∀ k,k<n→¬ 0<T'.z k) ∨ ∃ c:Nat,e=(c:Int)∧T'.ent n c∧∀ i,i<m→¬ 0<T'.a i c)
set_option maxRecDepth 100000 in
theorem ZWs {T T0:Tb} {m n N lst K R:Nat} {last:Int} (hr:m≤R∨n≤R) (h0:T0.arr m n N) (c0:T0.cd K m n) (he:T.eqv T0 m n) (ha:T.arr m n N) (hf:T.fea m) (hN:N≤60) (hm:m≤1000) (hn:n≤1000) (hK:kk K R≤137438953472) (hK1:1≤K) (hl:∀ u,u<N→((u:Int)=last↔u=lst))
    (nl:∀ T':Tb,T'.arr m n N→T'.eqv T0 m n→(∃ c,T'.ent n c)→∀ j,j<n→T'.fr j≠lst):∃ z,ZMi (tbl m n T) last=some z∧∃ T' e,z=(tbl m n T',e)∧RunQ m n N T0 T' e:=by
  unfold ZMi;refine ZZr (Q:=λr=>∃ T' e,r=(e,tbl m n T')∧RunQ m n N T0 T' e) ?_ (λy hy=>?_)
  · have key:∀ d k (st:Nat→Tb) (rr cc:Nat→Nat) f,Tb.Steps st rr cc m n N lst k→st 0=T→2^N≤d+k→d<f→∃ r,Zg (σ:=TbL) (ρ:=Int×TbL) (λs1 =>
       bnd (Zvh (s1.1,s1.2.1,s1.2.2.1,s1.2.2.2.1,s1.2.2.2.2.1,s1.2.2.2.2.2)) λy2 =>
       ifb (decide (y2.2<(0:Int)))
       (some (.inr ((-1:Int),y2.1.1,y2.1.2.1,y2.1.2.2.1,y2.1.2.2.2.1,y2.1.2.2.2.2.1,y2.1.2.2.2.2.2)))
       (bnd (ZYg (y2.1.1,y2.1.2.1,y2.1.2.2.1,y2.1.2.2.2.1,y2.1.2.2.2.2.1,y2.1.2.2.2.2.2) y2.2 last) λy3 =>
        ifb (decide (y3.2<(0:Int)))
        (some (.inr (y2.2,y3.1.1,y3.1.2.1,y3.1.2.2.1,y3.1.2.2.2.1,y3.1.2.2.2.2.1,y3.1.2.2.2.2.2)))
        (bnd (Z9e (y3.1.1,y3.1.2.1,y3.1.2.2.1,y3.1.2.2.2.1,y3.1.2.2.2.2.1,y3.1.2.2.2.2.2) y3.2 y2.2) λy4 =>
         some (.inl (y4.1.1,y4.1.2.1,y4.1.2.2.1,y4.1.2.2.2.1,y4.1.2.2.2.2.1,y4.1.2.2.2.2.2))))) f (tbl m n (st k))=some r∧∃ T' e,r=(e,tbl m n T')∧RunQ m n N T0 T' e:=by
      intro d
      induction d with
      | zero =>
        intro k st rr cc f hS _ h2 _;have:=hS.bound;omega
      | succ d ih =>
        intro k st rr cc f hS h1 h2 h3;obtain⟨f,rfl⟩:∃ g,f=g+1:=⟨f-1,by omega⟩;have hA:=hS.arr k (Nat.le_refl k);have hE:(st k).eqv T0 m n:=by
          have:=hS.eqv k (Nat.le_refl k);rw[h1]at this;exact this.trans he
        have hF:=hS.fea k (Nat.le_refl k);have hz:=(ZVj hr h0 c0 hA hE).sz;unfold Zg;obtain⟨z1,g1,e,rfl,g2⟩:=Znx (T:=st k) (m:=m) hn;have g1:Zvh ((tbl m n (st k)).1,(tbl m n (st k)).2.1,(tbl m n (st k)).2.2.1,(tbl m n (st k)).2.2.2.1,(tbl m n (st k)).2.2.2.2.1,(tbl m n (st k)).2.2.2.2.2)=some (tbl m n (st k),e):=g1;rw[g1,Za];rcases g2 with ⟨rfl,g2⟩ | ⟨c,rfl,g2⟩
        · rw[show (decide ((-1:Int)<0))=true from rfl,Ze,Za];exact⟨_,rfl,st k,-1,rfl,hA,hE,hF,.inl ⟨rfl,g2⟩⟩
        · rw[dFq (show ¬ (c:Int)<0 by omega),Zf];obtain⟨z2,g3,e2,rfl,g4⟩:=ZNw (T:=st k) (m:=m) (n:=n) (lst:=lst) (last:=last) g2.lt hz hm hn hK λi hi=>hl _ (hA.bl i hi);have g3:ZYg ((tbl m n (st k)).1,(tbl m n (st k)).2.1,(tbl m n (st k)).2.2.1,(tbl m n (st k)).2.2.2.1,(tbl m n (st k)).2.2.2.2.1,(tbl m n (st k)).2.2.2.2.2) (c:Int) last=some (tbl m n (st k),e2):=g3;simp only;rw[g3,Za];rcases g4 with ⟨rfl,g4⟩ | ⟨r,rfl,g4⟩
          · rw[show (decide ((-1:Int)<0))=true from rfl,Ze,Za];exact⟨_,rfl,st k,(c:Int),rfl,hA,hE,hF,.inr ⟨c,rfl,g2,g4⟩⟩
          · rw[dFq (show ¬ (r:Int)<0 by omega),Zf];have hne:(st k).a r c≠0:=λe=>by have:=g4.pos;rw[e]at this;exact Rat.lt_irrefl this
            have g5:Z9e ((tbl m n (st k)).1,(tbl m n (st k)).2.1,(tbl m n (st k)).2.2.1,(tbl m n (st k)).2.2.2.1,(tbl m n (st k)).2.2.2.2.1,(tbl m n (st k)).2.2.2.2.2) (r:Int) (c:Int)=some (tbl m n ((st k).piv r c),()):=ZIm g4.lt g2.lt hne hz hm hn hK (Zcm hK1);simp only;rw[g5,Za,Za];have hS':=hS.more g2 g4 (nl _ hA hE ⟨c,g2⟩);obtain⟨r',q1,q2⟩:=ih (k+1) _ _ _ f hS' (by show (if 0=k+1 then _ else st 0)=T;rw[iN (by omega)];exact h1) (by omega) (by omega);rw[iP rfl]at q1;exact⟨r',q1,q2⟩
    exact key (2^N) 0 (λ_=>T) (λ_=>0) (λ_=>0) Zi ⟨λk hk=>by omega,λk hk=>by omega,λk hk=>by omega,ha,hf,λk hk=>by omega⟩ rfl (by omega) (ZX (Nat.lt_trans (Z7x hN) (by decide)))
  · obtain⟨T',e,rfl,hq⟩:=hy;exact⟨_,rfl,T',e,rfl,hq⟩
theorem Z2o (n m:Nat) (f:Nat→Rat):sm (n+m) f=sm n f+sm m (λi=>f (n+i)):=by
 induction m with
 | zero=>show sm n f=sm n f+0;exact (Rat.add_zero _).symm
 | succ m ih =>
  show sm (n+m) f+f (n+m)=sm n f+(sm m (λi=>f (n+i))+f (n+m));rw[ih];grind
def zz (n:Nat) (z:Nat→Rat) (fr:Nat→Nat) (u:Nat):Rat:=sm n λk=>if fr k=u then z k else 0
theorem zz_sum {n N:Nat} {z:Nat→Rat} {fr:Nat→Nat} (h:∀ k,k<n→fr k<N) (g:Nat→Rat):sm n (λk=>z k*g (fr k))=sm N (λu=>zz n z fr u*g u):=by
 have e1:sm N (λu=>zz n z fr u*g u)=sm N (λu=>sm n λk=>(if fr k=u then z k else 0)*g u):=ZV λu _=>by
  unfold zz;rw[Rat.mul_comm,← Zac];exact ZV λk _=>Rat.mul_comm _ _
 rw[e1,Z0n];refine ZV λk hk=>?_;rw[Z2a (h k hk) λu _ hne=>by rw[iN λe=>hne e.symm];exact Rat.zero_mul _,iP rfl]
theorem Zyo {n:Nat} {z:Nat→Rat} {fr:Nat→Nat} (h:∀ k,k<n→¬ 0<z k) (u:Nat):zz n z fr u≤0:=by
 have:0≤sm n λk=>-(if fr k=u then z k else 0):=Zwh λk hk=>by
  have:=h k hk;split <;> grind
 have e:sm n (λk=>-(if fr k=u then z k else 0)) = - zz n z fr u:=by
  have:sm n (λk=>-(if fr k=u then z k else 0))=sm n (λk=>(-1)*(if fr k=u then z k else 0)):=ZV λk _=>by grind
  rw[this,Zac];unfold zz;grind
 grind
open Tb
def st0 (n:Nat) (A:Mx) (B C:Nat→Rat):Tb:={ a:=A,b:=B,z:=C,v:=0,bs:=λi=>n+i,fr:=λk=>k }
def st1 (m n:Nat) (A:Mx) (B:Nat→Rat):Tb:={ a:=λi k=>if k<n then A i k else -1,b:=B,z:=λk=>if k<n then 0 else -1,v:=0,bs:=λi=>n+i,fr:=λk=>if k<n then k else n+m }
variable {m n:Nat} {A:Mx} {B C:Nat→Rat}
theorem Zbm:(st0 n A B C).arr m n (n+m) :=
 ⟨λi hi=>by show n+i<n+m;omega,λk hk=>by show k<n+m;omega,λi j _ _ e=>by have e:n+i=n+j:=e;omega,λi j _ _ e=>e,λi k _ hk e=>by have e:n+i=k:=e;omega,λu hu=>by
  by_cases h:u<n
  ·exact .inr ⟨u,h,rfl⟩
  ·exact .inl ⟨u-n,by omega,by show n+(u-n)=u;omega⟩⟩
theorem Ztj:(st1 m n A B).arr m (n+1) (n+m+1) :=
 ⟨λi hi=>by show n+i<n+m+1;omega,λk hk=>by show (if k<n then k else n+m)<n+m+1;split <;> omega,λi j _ _ e=>by have e:n+i=n+j:=e;omega,λi j hi hj e=>by
  have e:(if i<n then i else n+m)=(if j<n then j else n+m):=e
  split at e <;> split at e <;> omega,λi k hi hk e=>by
  have e:n+i=(if k<n then k else n+m):=e
  split at e <;> omega,λu hu=>by
  by_cases h:u<n
  ·exact .inr ⟨u,by omega,iP h⟩
  ·by_cases h2:u=n+m
   ·exact .inr ⟨n,by omega,by show (if n<n then n else n+m)=u;rw[iN (by omega),h2]⟩
   ·exact .inl ⟨u-n,by omega,by show n+(u-n)=u;omega⟩⟩
theorem Z9i (x:Nat→Rat):(st0 n A B C).sol m n x ↔ ∀ i,i<m→x (n+i)+sm n (λk=>A i k*x k)=B i:=Iff.rfl
theorem Znj (x:Nat→Rat):(st0 n A B C).obj n x=sm n (λk=>C k*x k):=by
 show (0:Rat)+sm n (λk=>C k*x k)=_;exact Rat.zero_add _
theorem ZOs (i:Nat) (x:Nat→Rat):sm (n+1) (λk=>(st1 m n A B).a i k*x ((st1 m n A B).fr k))=sm n (λk=>A i k*x k)-x (n+m):=by
 show sm n (λk=>(st1 m n A B).a i k*x ((st1 m n A B).fr k))+(st1 m n A B).a i n*x ((st1 m n A B).fr n)=_;rw[ZV (g:=λk=>A i k*x k) λk hk=>by show (if k<n then A i k else -1)*x (if k<n then k else n+m)=_;rw[iP hk,iP hk]];show _+(if n<n then A i n else -1)*x (if n<n then n else n+m)=_;rw[iN (by omega),iN (by omega)];grind
theorem ZBo (x:Nat→Rat):(st1 m n A B).sol m (n+1) x ↔ ∀ i,i<m→x (n+i)+(sm n (λk=>A i k*x k)-x (n+m))=B i:=by
 constructor
 ·intro h i hi;have:=h i hi;rw[ZOs]at this;exact this
 ·intro h i hi;rw[ZOs];exact h i hi
theorem Zzn (x:Nat→Rat):(st1 m n A B).obj (n+1) x = - x (n+m):=by
 show (0:Rat)+(sm n (λk=>(st1 m n A B).z k*x ((st1 m n A B).fr k))+(st1 m n A B).z n*x ((st1 m n A B).fr n))=_;rw[Zea λk hk=>by show (if k<n then (0:Rat) else -1)*_=0;rw[iP hk];exact Rat.zero_mul _];show (0:Rat)+(0+(if n<n then (0:Rat) else -1)*x (if n<n then n else n+m))=_;rw[iN (by omega),iN (by omega)];grind
def ext (m n:Nat) (A:Mx) (B:Nat→Rat) (s:Rat) (u:Nat→Rat):Nat→Rat:=λv=>if v<n then u v else if v<n+m then B (v-n)-sm n (λk=>A (v-n) k*u k)+s else s
theorem ext_lo {s:Rat} {u:Nat→Rat} {k:Nat} (hk:k<n):ext m n A B s u k=u k:=iP hk
theorem Zsj {s:Rat} {u:Nat→Rat} {i:Nat} (hi:i<m):ext m n A B s u (n+i)=B i-sm n (λk=>A i k*u k)+s:=by
 unfold ext;rw[iN (by omega),iP (by omega),show n+i-n=i by omega]
theorem Zsi {s:Rat} {u:Nat→Rat}:ext m n A B s u (n+m)=s:=by
 unfold ext;rw[iN (by omega),iN (by omega)]
theorem ZNi {s:Rat} {u:Nat→Rat} (f:Nat→Rat):sm n (λk=>f k*ext m n A B s u k)=sm n (λk=>f k*u k):=ZV λk hk=>by rw[ext_lo hk]
def Z9 (n:Nat) (T:Tb) (n':Nat) (i:Nat):Rat:=- zz n' T.z T.fr (n+i)
theorem Zpp {T:Tb} {n' N:Nat} (hf:∀ k,k<n'→T.fr k<N) (hN:N=n+m∨N=n+m+1) (s:Rat) (hs:N=n+m→s=0) (u:Nat→Rat) :
  sm n' (λk=>T.z k*ext m n A B s u (T.fr k))=sm n (λk=>zz n' T.z T.fr k*u k)-sm m (λi=>Z9 n T n' i*(B i-sm n (λk=>A i k*u k)+s))+(if N=n+m then 0 else zz n' T.z T.fr (n+m)*s):=by
 rw[zz_sum hf];have mid:sm (n+m) (λv=>zz n' T.z T.fr v*ext m n A B s u v)=sm n (λk=>zz n' T.z T.fr k*u k)-sm m (λi=>Z9 n T n' i*(B i-sm n (λk=>A i k*u k)+s)):=by
  rw[Z2o,ZNi];have:sm m (λi=>zz n' T.z T.fr (n+i)*ext m n A B s u (n+i))=sm m (λi=>(-1)*(Z9 n T n' i*(B i-sm n (λk=>A i k*u k)+s))):=ZV λi hi=>by
   rw[Zsj hi];unfold Z9;grind
  rw[this,Zac];grind
 rcases hN with rfl | rfl
 ·rw[mid,iP rfl];grind
 ·show sm (n+m) _+zz n' T.z T.fr (n+m)*ext m n A B s u (n+m)=_;rw[mid,iN (by omega),Zsi]
theorem Ztq {T:Tb} {n':Nat} (h:∀ k,k<n'→¬ 0<T.z k) (i:Nat):0≤Z9 n T n' i:=by
 have:=Zyo (fr:=T.fr) h (n+i);unfold Z9;grind
theorem ZJs (m:Nat) (f g:Nat→Rat) (h:∀ i,i<m→f i = - g i):sm m f = - sm m g:=by
 have:sm m f=sm m (λi=>(-1)*g i):=ZV λi hi=>by rw[h i hi];grind
 rw[this,Zac];grind
structure Dual (m n:Nat) (A:Mx) (B C:Nat→Rat) (y:Nat→Rat):Prop where
 nn:∀ i,i<m→0≤y i
 le:∀ k,k<n→C k≤sm m (λi=>y i*A i k)
theorem dual_of {T:Tb} (h:T.arr m n (n+m)) (he:T.eqv (st0 n A B C) m n) (hz:∀ k,k<n→¬ 0<T.z k):Dual m n A B C (Z9 n T n)∧T.v=sm m (λi=>B i*Z9 n T n i):=by
 have id:∀ u:Nat→Rat,sm n (λk=>C k*u k)=T.v+(sm n (λk=>zz n T.z T.fr k*u k)-sm m (λi=>Z9 n T n i*(B i-sm n (λk=>A i k*u k)+0))+0):=λu=>by
  have h1:=he.obj (ext m n A B 0 u) ((Z9i _).2 λi hi=>by rw[Zsj hi,ZNi];grind);rw[Znj,ZNi]at h1;rw[← h1];unfold obj;rw[Zpp h.fl (.inl rfl) 0 (λ_=>rfl) u,iP rfl]
 have h0:=id λ_=>0;have z1:sm n (λk=>C k*(0:Rat))=0:=Zea λk _=>Rat.mul_zero _;have z2:sm n (λk=>zz n T.z T.fr k*(0:Rat))=0:=Zea λk _=>Rat.mul_zero _;have z3:sm m (λi=>Z9 n T n i*(B i-sm n (λk=>A i k*(0:Rat))+0))=sm m (λi=>B i*Z9 n T n i):=ZV λi _=>by
  rw[Zea (f:=λk=>A i k*(0:Rat)) λk _=>Rat.mul_zero _];grind
 rw[z1,z2,z3]at h0;have hv:T.v=sm m (λi=>B i*Z9 n T n i):=by grind
 refine⟨⟨λi _=>Ztq hz i,λk hk=>?_⟩,hv⟩;have h1:=id λj=>if j=k then 1 else 0;have u1:∀ f:Nat→Rat,sm n (λj=>f j*(if j=k then (1:Rat) else 0))=f k:=λf=>by
  rw[Z2a hk λj _ hne=>by rw[iN hne];exact Rat.mul_zero _,iP rfl,Rat.mul_one]
 rw[u1,u1]at h1;have u2:sm m (λi=>Z9 n T n i*(B i-sm n (λj=>A i j*(if j=k then (1:Rat) else 0))+0))=sm m (λi=>B i*Z9 n T n i)-sm m (λi=>Z9 n T n i*A i k):=by
  rw[← Zph];exact ZV λi _=>by rw[u1 (A i)];grind
 rw[u2]at h1;have:=Zyo (fr:=T.fr) hz k;grind
structure Farkas (m n:Nat) (A:Mx) (B:Nat→Rat) (y:Nat→Rat):Prop where
 nn:∀ i,i<m→0≤y i
 le:∀ k,k<n→0≤sm m (λi=>y i*A i k)
 neg:sm m (λi=>B i*y i)<0
theorem ZIv {T:Tb} (h:T.arr m (n+1) (n+m+1)) (he:T.eqv (st1 m n A B) m (n+1)) (hz:∀ k,k<n+1→¬ 0<T.z k) (hv:T.v<0):Farkas m n A B (Z9 n T (n+1)):=by
 have id:∀ u:Nat→Rat,(0:Rat)=T.v+(sm n (λk=>zz (n+1) T.z T.fr k*u k)-sm m (λi=>Z9 n T (n+1) i*(B i-sm n (λk=>A i k*u k)+0))+zz (n+1) T.z T.fr (n+m)*0):=λu=>by
  have h1:=he.obj (ext m n A B 0 u) ((ZBo _).2 λi hi=>by rw[Zsj hi,ZNi,Zsi];grind);rw[Zzn,Zsi]at h1;have h2:T.obj (n+1) (ext m n A B 0 u)=T.v+(sm n (λk=>zz (n+1) T.z T.fr k*u k)-sm m (λi=>Z9 n T (n+1) i*(B i-sm n (λk=>A i k*u k)+0))+zz (n+1) T.z T.fr (n+m)*0):=by
   unfold obj;rw[Zpp h.fl (.inr rfl) 0 (λe=>by omega) u,iN (by omega)]
  rw[← h2,h1];grind
 have h0:=id λ_=>0;have z2:sm n (λk=>zz (n+1) T.z T.fr k*(0:Rat))=0:=Zea λk _=>Rat.mul_zero _;have z3:sm m (λi=>Z9 n T (n+1) i*(B i-sm n (λk=>A i k*(0:Rat))+0))=sm m (λi=>B i*Z9 n T (n+1) i):=ZV λi _=>by
  rw[Zea (f:=λk=>A i k*(0:Rat)) λk _=>Rat.mul_zero _];grind
 rw[z2,z3]at h0;have hvv:T.v=sm m (λi=>B i*Z9 n T (n+1) i):=by grind
 refine⟨λi _=>Ztq hz i,λk hk=>?_,by rw[← hvv];exact hv⟩;have h1:=id λj=>if j=k then 1 else 0;have u1:∀ f:Nat→Rat,sm n (λj=>f j*(if j=k then (1:Rat) else 0))=f k:=λf=>by
  rw[Z2a hk λj _ hne=>by rw[iN hne];exact Rat.mul_zero _,iP rfl,Rat.mul_one]
 rw[u1]at h1;have u2:sm m (λi=>Z9 n T (n+1) i*(B i-sm n (λj=>A i j*(if j=k then (1:Rat) else 0))+0))=sm m (λi=>B i*Z9 n T (n+1) i)-sm m (λi=>Z9 n T (n+1) i*A i k):=by
  rw[← Zph];exact ZV λi _=>by rw[u1 (A i)];grind
 rw[u2]at h1;have:=Zyo (fr:=T.fr) hz k;grind
def Z0 (m:Nat) (T:Tb) (u:Nat):Rat:=sm m λi=>if T.bs i=u then T.b i else 0
theorem Z7d {T:Tb} {n' N:Nat} (h:T.arr m n' N) {k:Nat} (hk:k<n'):Z0 m T (T.fr k)=0:=Zea λi hi=>iN (h.d i k hi hk)
theorem Zig {T:Tb} {n' N:Nat} (h:T.arr m n' N) {i:Nat} (hi:i<m):Z0 m T (T.bs i)=T.b i:=by
 unfold Z0;rw[Z2a hi λj hj hne=>iN λe=>hne (h.bi j i hj hi e),iP rfl]
theorem ZDj {T:Tb} {n' N:Nat} (h:T.arr m n' N):T.sol m n' (Z0 m T):=λi hi=>by
 rw[Zig h hi,Zea λk hk=>by rw[Z7d h hk];exact Rat.mul_zero _];exact Rat.add_zero _
theorem Zrn {T:Tb} (hf:T.fea m) (u:Nat):0≤Z0 m T u:=Zwh λi hi=>by
 show 0≤if T.bs i=u then T.b i else 0
 split
 ·exact hf i hi
 ·exact Rat.le_refl
theorem Zsm {T:Tb} {n' N:Nat} (h:T.arr m n' N):T.obj n' (Z0 m T)=T.v:=Z4i λk hk=>Z7d h hk
structure Feas (m n:Nat) (A:Mx) (B:Nat→Rat) (x:Nat→Rat):Prop where
 nn:∀ k,k<n→0≤x k
 le:∀ i,i<m→sm n (λk=>A i k*x k)≤B i
theorem feas_of {T:Tb} (h:T.arr m n (n+m)) (he:T.eqv (st0 n A B C) m n) (hf:T.fea m):Feas m n A B (Z0 m T)∧T.v=sm n (λk=>C k*Z0 m T k):=by
 have hs:=(he.sol _).1 (ZDj h);refine⟨⟨λk _=>Zrn hf k,λi hi=>?_⟩,?_⟩
 ·have h1:=(Z9i _).1 hs i hi;have h2:=Zrn (m:=m) hf (n+i);grind
 ·have:=he.obj _ hs;rw[Zsm h,Znj]at this;exact this
def dir (m:Nat) (T:Tb) (c u:Nat):Rat:=if T.fr c=u then 1 else-sm m λi=>if T.bs i=u then T.a i c else 0
theorem Zvs {T:Tb} {n' N c:Nat} (h:T.arr m n' N) (hc:c<n') {i:Nat} (hi:i<m):dir m T c (T.bs i) = - T.a i c:=by
 unfold dir;rw[iN λe=>h.d i c hi hc e.symm,Z2a hi λj hj hne=>iN λe=>hne (h.bi j i hj hi e),iP rfl]
theorem Zfh {T:Tb} {n' N c:Nat} (h:T.arr m n' N) (hc:c<n') {k:Nat} (hk:k<n'):dir m T c (T.fr k)=if k=c then 1 else 0:=by
 unfold dir;by_cases e:k=c
 ·rw[e,iP rfl,iP rfl]
 ·rw[iN λe2=>e (h.fi k c hk hc e2.symm),iN e,Zea λi hi=>iN (h.d i k hi hk)];rfl
theorem Zxt {T:Tb} {n' N c:Nat} (h:T.arr m n' N) (hc:c<n'):T.sol m n' (λu=>Z0 m T u+dir m T c u):=λi hi=>by
 have e:sm n' (λk=>T.a i k*(Z0 m T (T.fr k)+dir m T c (T.fr k)))=T.a i c:=by
  rw[Z2a hc λk hk hne=>by rw[Z7d h hk,Zfh h hc hk,iN hne];grind];rw[Z7d h hc,Zfh h hc hc,iP rfl];grind
 rw[e];show Z0 m T (T.bs i)+dir m T c (T.bs i)+T.a i c=T.b i;rw[Zig h hi,Zvs h hc hi];grind
theorem Zwt {T:Tb} {n' N c:Nat} (h:T.arr m n' N) (hc:c<n'):T.obj n' (λu=>Z0 m T u+dir m T c u)=T.v+T.z c:=by
 unfold obj;have e:sm n' (λk=>T.z k*(Z0 m T (T.fr k)+dir m T c (T.fr k)))=T.z c:=by
  rw[Z2a hc λk hk hne=>by rw[Z7d h hk,Zfh h hc hk,iN hne];grind];rw[Z7d h hc,Zfh h hc hc,iP rfl];grind
 rw[e]
theorem ZDn {T:Tb} {c:Nat} (h:∀ i,i<m→¬ 0<T.a i c) (u:Nat):0≤dir m T c u:=by
 unfold dir;split
 ·decide
 ·have:0≤sm m λi=>-(if T.bs i=u then T.a i c else 0):=Zwh λi hi=>by
   have:=h i hi;split <;> grind
  rw[ZJs m _ (λi=>if T.bs i=u then T.a i c else 0) λi _=>rfl]at this;exact this
structure IsRay (m n:Nat) (A:Mx) (C:Nat→Rat) (d:Nat→Rat):Prop where
 nn:∀ k,k<n→0≤d k
 le:∀ i,i<m→sm n (λk=>A i k*d k)≤0
 pos:0<sm n (λk=>C k*d k)
theorem ray_of {T:Tb} {c:Nat} (h:T.arr m n (n+m)) (he:T.eqv (st0 n A B C) m n) (hc:T.ent n c) (hu:∀ i,i<m→¬ 0<T.a i c):IsRay m n A C (dir m T c):=by
 have hs:=(Z9i (C:=C) _).1 ((he.sol _).1 (ZDj h));have hd:=(he.sol _).1 (Zxt h hc.lt);have hd2:=(Z9i (C:=C) _).1 hd;have add:∀ f:Nat→Rat,sm n (λk=>f k*(Z0 m T k+dir m T c k))=sm n (λk=>f k*Z0 m T k)+sm n (λk=>f k*dir m T c k):=λf=>by
  rw[← ZMh];exact ZV λk _=>by grind
 refine⟨λk _=>ZDn hu k,λi hi=>?_,?_⟩
 ·have h1:=hs i hi;have h2:=hd2 i hi;rw[add (A i)]at h2;have h3:=ZDn hu (n+i);grind
 ·have h1:=he.obj _ hd;rw[Zwt h hc.lt,Znj,add C]at h1;have h2:=he.obj _ ((he.sol _).1 (ZDj h));rw[Zsm h,Znj]at h2;have:=hc.pos;grind
end Go.Eng
namespace Go.Eng
open Tb
variable {m n:Nat} {A:Mx} {B C:Nat→Rat} {T:Tb}
theorem p1_v (h:T.arr m (n+1) (n+m+1)) (he:T.eqv (st1 m n A B) m (n+1)):T.v = - Z0 m T (n+m):=by
 have:=he.obj _ ((he.sol _).1 (ZDj h));rw[Zsm h,Zzn]at this;exact this
theorem p1_z (h:T.arr m (n+1) (n+m+1)) (he:T.eqv (st1 m n A B) m (n+1)) {k:Nat} (hk:k<n+1):T.z k = - dir m T k (n+m):=by
 have h1:=he.obj _ ((he.sol _).1 (Zxt h hk));rw[Zwt h hk,Zzn]at h1;have h2:=p1_v h he;grind
theorem p1_end (h:T.arr m (n+1) (n+m+1)) (he:T.eqv (st1 m n A B) m (n+1)) {j:Nat} (hj:j<n+1) (e:T.fr j=n+m):∀ k,k<n+1→¬ 0<T.z k:=λk hk=>by
 rw[p1_z h he hk,← e,Zfh h hk hj]
 split <;> decide
theorem Z7y (h:T.arr m (n+1) (n+m+1)) (he:T.eqv (st1 m n A B) m (n+1)) (hf:T.fea m) {c:Nat} (hc:T.ent (n+1) c) (hu:∀ i,i<m→¬ 0<T.a i c):False:=by
 have h1:=ZDn hu (n+m);have h2:=p1_z h he hc.lt;have h3:=hc.pos;grind
theorem p1_row (h:T.arr m (n+1) (n+m+1)) (he:T.eqv (st1 m n A B) m (n+1)) {r:Nat} (hr:r<m) (e:T.bs r=n+m):∃ k,k<n+1∧T.a r k≠0:=Classical.byContradiction λhn=>by
 have hz:∀ k,k<n+1→T.a r k=0:=λk hk=>Classical.byContradiction λe=>hn ⟨k,hk,e⟩
 have key:∀ s:Rat,s=T.b r:=λs=>by
  have h1:=(he.sol (ext m n A B s λ_=>0)).2 ((ZBo _).2 λi hi=>by rw[Zsj hi,ZNi,Zsi];grind) r hr
  rw[Zea λk hk=>by rw[hz k hk];exact Rat.zero_mul _,e,Zsi]at h1
  grind
 have h0:=key 0
 have h1:=key 1
 rw[← h0]at h1
 exact absurd h1 (by decide)
def sk (c k:Nat):Nat:=if k<c then k else k+1
theorem sm_skip {n c:Nat} (hc:c<n+1) (f:Nat→Rat):sm (n+1) f=f c+sm n (λk=>f (sk c k)):=by
 induction n with
 | zero=>rw[show c=0 by omega];show (0:Rat)+f 0=f 0+0;grind
 | succ n ih =>
  by_cases e:c=n+1
  ·have:sm (n+1) (λk=>f (sk c k))=sm (n+1) f:=ZV λk hk=>by unfold sk;rw[iP (by omega)]
   rw[this,e];show sm (n+1) f+f (n+1)=_;grind
  ·show sm (n+1) f+f (n+1)=f c+(sm n (λk=>f (sk c k))+f (sk c n));rw[ih (by omega),show sk c n=n+1 from iN (by omega)];grind
def cfv (m:Nat) (T:Tb) (u f:Nat):Rat:=(if T.fr f=u then 1 else 0)-sm m λi=>if T.bs i=u then T.a i f else 0
theorem Zsy {n N:Nat} (h:T.arr m n N) {x:Nat→Rat} (hx:T.sol m n x) {u:Nat} (hu:u<N):x u=Z0 m T u+sm n (λf=>cfv m T u f*x (T.fr f)):=by
 rcases h.cov u hu with ⟨i,hi,rfl⟩ | ⟨k,hk,rfl⟩
 ·have e:sm n (λf=>cfv m T (T.bs i) f*x (T.fr f)) = - sm n (λf=>T.a i f*x (T.fr f)):=ZJs n _ _ λf hf=>by
   unfold cfv;rw[iN λe=>h.d i f hi hf e.symm,Z2a hi λj hj hne=>iN λe=>hne (h.bi j i hj hi e),iP rfl];grind
  rw[e,Zig h hi];have:=hx i hi;grind
 ·have e:sm n (λf=>cfv m T (T.fr k) f*x (T.fr f))=x (T.fr k):=by
   rw[Z2a hk λf hf hne=>by
    unfold cfv;rw[iN λe=>hne (h.fi f k hf hk e),Zea λi hi=>iN (h.d i k hi hk)];grind]
   unfold cfv;rw[iP rfl,Zea λi hi=>iN (h.d i k hi hk)];grind
  rw[e,Z7d h hk];grind
def drop (m n:Nat) (C:Nat→Rat) (T:Tb) (c:Nat):Tb :=
 let D:Tb:={ a:=λi k=>T.a i (sk c k),b:=T.b,z:=λ_=>0,v:=0,bs:=T.bs,fr:=λk=>T.fr (sk c k) }
 { D with z:=λf=>sm n (λk=>C k*cfv m D k f),v:=sm n (λk=>C k*Z0 m D k) }
theorem sk_inj {c i j:Nat} (h:sk c i=sk c j):i=j:=by
 unfold sk at h;split at h <;> split at h <;> omega
theorem ZPf {n c k:Nat} (hk:k<n):sk c k<n+1:=by unfold sk;split <;> omega
theorem sk_ne (c k:Nat):sk c k≠c:=by unfold sk;split <;> omega
theorem sk_ex {n c l:Nat} (hl:l<n+1) (hc:c<n+1) (h:l≠c):∃ k,k<n∧sk c k=l:=by
 by_cases e:l<c
 ·exact⟨l,by omega,by unfold sk;rw[iP e]⟩
 ·exact⟨l-1,by omega,by unfold sk;rw[iN (by omega)];omega⟩
theorem ZGu (h:T.arr m (n+1) (n+m+1)) {c:Nat} (hc:c<n+1) (e:T.fr c=n+m):(drop m n C T c).arr m n (n+m):=by
 refine⟨λi hi=>?_,λk hk=>?_,λi j hi hj e2=>h.bi i j hi hj e2,λi j hi hj e2=>sk_inj (h.fi _ _ (ZPf hi) (ZPf hj) e2),λi k hi hk=>h.d i _ hi (ZPf hk),λu hu=>?_⟩
 ·have h1:=h.bl i hi;have h2:=h.d i c hi hc;show T.bs i<n+m;omega
 ·have h1:=h.fl _ (ZPf (c:=c) hk);have h2:T.fr (sk c k)≠T.fr c:=λe2=>sk_ne c k (h.fi _ _ (ZPf hk) hc e2);show T.fr (sk c k)<n+m;omega
 ·rcases h.cov u (by omega) with h1 | ⟨l,hl,e2⟩
  ·exact .inl h1
  ·have hne:l≠c:=λe3=>by rw[e3,e]at e2;omega
   obtain⟨k,hk,e3⟩:=sk_ex hl hc hne;exact .inr ⟨k,hk,by show T.fr (sk c k)=u;rw[e3,e2]⟩
theorem Zfq (h:T.arr m (n+1) (n+m+1)) (he:T.eqv (st1 m n A B) m (n+1)) {c:Nat} (hc:c<n+1) (e:T.fr c=n+m) (x:Nat→Rat):(drop m n C T c).sol m n x↔(st0 n A B C).sol m n x:=by
 let x':Nat→Rat:=λu=>if u=n+m then 0 else x u
 have xl:∀ u,u≠n+m→x' u=x u:=λu hu=>iN hu;have xe:x' (n+m)=0:=iP rfl;have nf:∀ k,k<n→T.fr (sk c k)≠n+m:=λk hk e2=>sk_ne c k (h.fi _ _ (ZPf hk) hc (e2.trans e.symm));have nb:∀ i,i<m→T.bs i≠n+m:=λi hi e2=>h.d i c hi hc (e2.trans e.symm);have row:∀ i,sm (n+1) (λk=>T.a i k*x' (T.fr k))=sm n (λk=>T.a i (sk c k)*x (T.fr (sk c k))):=λi=>by
  rw[sm_skip hc,e,xe,ZV (g:=λk=>T.a i (sk c k)*x (T.fr (sk c k))) λk hk=>by rw[xl _ (nf k hk)]];grind
 have h1:(drop m n C T c).sol m n x↔T.sol m (n+1) x':=by
  constructor
  ·intro hs i hi;rw[row i,xl _ (nb i hi)];exact hs i hi
  ·intro hs i hi;have:=hs i hi;rw[row i,xl _ (nb i hi)]at this;exact this
 rw[h1,he.sol x',ZBo,Z9i];have s:∀ i,sm n (λk=>A i k*x' k)=sm n (λk=>A i k*x k):=λi=>ZV λk hk=>by rw[xl k (by omega)]
 constructor
 ·intro hs i hi;have:=hs i hi;rw[s i,xe,xl _ (by omega)]at this;grind
 ·intro hs i hi;rw[s i,xe,xl _ (by omega)];have:=hs i hi;grind
theorem Zyw (h:T.arr m (n+1) (n+m+1)) (he:T.eqv (st1 m n A B) m (n+1)) {c:Nat} (hc:c<n+1) (e:T.fr c=n+m):(drop m n C T c).eqv (st0 n A B C) m n:=by
 refine⟨Zfq h he hc e,λx hx=>?_⟩;have hx':=(Zfq (C:=C) h he hc e x).2 hx;have ha:=ZGu (C:=C) h hc e;rw[Znj];have e1:sm n (λk=>C k*x k)=sm n (λk=>C k*Z0 m (drop m n C T c) k+C k*sm n (λf=>cfv m (drop m n C T c) k f*x ((drop m n C T c).fr f))):=ZV λk hk=>by
  have:=Zsy ha hx' (u:=k) (by omega);grind
 rw[e1,ZMh];have e2:sm n (λf=>(drop m n C T c).z f*x ((drop m n C T c).fr f))=sm n (λk=>C k*sm n (λf=>cfv m (drop m n C T c) k f*x ((drop m n C T c).fr f))):=by
  have e3:sm n (λf=>(drop m n C T c).z f*x ((drop m n C T c).fr f))=sm n (λf=>sm n (λk=>C k*(cfv m (drop m n C T c) k f*x ((drop m n C T c).fr f)))):=ZV λf _=>by
   show sm n (λk=>C k*cfv m (drop m n C T c) k f)*_=_;rw[Rat.mul_comm,← Zac];exact ZV λk _=>by grind
  rw[e3,Z0n];exact ZV λk _=>by rw[Zac]
 unfold obj;rw[e2];rfl
noncomputable def ZCh (n:Int):Option (List Rat) :=
 bnd (ZTb (0:Int)) λa =>
 bnd (Zwd 56 [a] n) λb =>
 some b
noncomputable def Zfi (t:(List (List Rat))×(List Rat)×(List Rat)×Rat×(List Int)×(List Int)) (n:Int):Option (List Rat) :=
 bnd (ZCh n) λc =>
 bnd (Zg (σ:=Int×(List Rat)) (ρ:=List Rat) (λa =>
 ifb (decide (a.1<(t.2.2.2.2.1.length:Int)))
 (bnd (idx t.2.2.2.2.1 a.1) λb =>
 bnd (α:=List Rat)
 (ifb (decide (b<n))
 (bnd (idx t.2.1 a.1) λd =>
 bnd (idx a.2 b) λh =>
 some (a.2.set b.toNat d))
 (some a.2)) λe =>
 bnd (chk .i64 (a.1+(1:Int))) λf =>
 some (.inl (f,e)))
 (some (.inr a.2)))
  Zi ((0:Int),c)) λg =>
 some g
noncomputable def Z8k (t:(List (List Rat))×(List Rat)×(List Rat)×Rat×(List Int)×(List Int)) (n:Int) (k:Int):Option (List Rat) :=
 bnd (ZCh k) λd =>
 bnd (Zg (σ:=Int×(List Rat)) (ρ:=List Rat) (λa =>
 ifb (decide (a.1<(t.2.2.2.2.2.length:Int)))
 (bnd (idx t.2.2.2.2.2 a.1) λb =>
 bnd (α:=Bool)
 (ifb (decide (n≤b))
 (bnd (chk .i64 (n+k)) λe =>
 some (decide (b<e)))
 (some false)) λf =>
 bnd (α:=List Rat)
 (ifb f
 (bnd (chk .i64 (b-n)) λc =>
 bnd (idx t.2.2.1 a.1) λg =>
 bnd (Z9a g) λh =>
 bnd (idx a.2 c) λm =>
 some (a.2.set c.toNat h))
 (some a.2)) λi =>
 bnd (chk .i64 (a.1+(1:Int))) λj =>
 some (.inl (j,i)))
 (some (.inr a.2)))
  Zi ((0:Int),d)) λl =>
 some l
noncomputable def ZBl (t:(List (List Rat))×(List Rat)×(List Rat)×Rat×(List Int)×(List Int)) (n:Int) (k:Int):Option (((List (List Rat))×(List Rat)×(List Rat)×Rat×(List Int)×(List Int))×(List Rat)) :=
 bnd (ZTb (0:Int)) λd =>
 bnd (Zwd 56 [d] k) λe =>
 bnd (Zg (σ:=Int×(List Rat)) (ρ:=List Rat) (λa =>
 ifb (decide (a.1<(t.2.2.2.2.2.length:Int)))
 (bnd (idx t.2.2.2.2.2 a.1) λb =>
 bnd (α:=Bool)
 (ifb (decide (n≤b))
 (bnd (chk .i64 (n+k)) λf =>
 some (decide (b<f)))
 (some false)) λg =>
 bnd (α:=List Rat)
 (ifb g
 (bnd (chk .i64 (b-n)) λc =>
 bnd (idx t.2.2.1 a.1) λh =>
 bnd (Z9a h) λi =>
 bnd (idx a.2 c) λo =>
 some (a.2.set c.toNat i))
 (some a.2)) λj =>
 bnd (chk .i64 (a.1+(1:Int))) λl =>
 some (.inl (l,j)))
 (some (.inr a.2)))
  Zi ((0:Int),e)) λm =>
 some ((t.1,t.2.1,t.2.2.1,t.2.2.2.1,t.2.2.2.2.1,t.2.2.2.2.2),m)
end Go.Eng
namespace Go.Eng
open Tb
theorem Zki {n:Nat} (hn:n≤1000):Zwd 56 [((0:Int):Rat)] (n:Int)=some (vx n λ_=>(0:Rat)):=by
 unfold Zwd;simp only;rw[Zgl (by omega) (by omega),Za,tN,ZEg];rfl
theorem Zno {n:Nat} (hn:n≤1000):ZCh (n:Int)=some (vx n λ_=>(0:Rat)):=by
 unfold ZCh;rw[ZEc,Za,Zki hn,Za]
theorem smz {k n:Nat} {f:Nat→Rat} (h:∀ j,j<n→sz k (f j)):sz (n*(k+1)+1) (sm n f):=by
 induction n with
 | zero=>exact ZDd.mono (by omega)
 | succ n ih =>
  have:=ZOh (ih λj hj=>h j (by omega)) (h n (by omega));exact this.mono (by rw[Nat.succ_mul];omega)
theorem ZPg {body:Int→Option (Int ⊕ (Unit ⊕ Int))} (k:Nat) (hk:k≤1000) (p:Nat→Prop) (h1:∀ i,i<k→(p i∧body (i:Int)=some (.inr (.inr (i:Int))))∨(¬ p i∧body (i:Int)=some (.inl ((i+1:Nat):Int)))) (h2:body (k:Int)=some (.inr (.inl ()))) :
  ∃ e:Int,(bnd (Zg body Zi (0:Int)) λx=>match x with | .inl _=>some (-1:Int) | .inr r=>some r)=some e∧((e = -1∧∀ i,i<k→¬ p i) ∨ ∃ i,i<k∧e=(i:Int)∧p i):=by
 refine Z9k (λi s=>s=(i:Int)∧∀ j,j<i→¬ p j) (λr=>(r = .inl ()∧∀ i,i<k→¬ p i) ∨ ∃ i,i<k∧r = .inr (i:Int)∧p i) k ⟨rfl,λj hj=>by omega⟩ (by omega) (λi s hi hI=>?_) (λr hr=>?_)
 ·obtain⟨rfl,hI⟩:=hI;by_cases hlt:i<k
  ·rcases h1 i hlt with ⟨g1,g2⟩ | ⟨g1,g2⟩
   ·exact .inr ⟨_,g2,.inr ⟨i,hlt,rfl,g1⟩⟩
   ·refine .inl ⟨_,hlt,g2,rfl,λj hj=>?_⟩;by_cases e:j=i
    ·rw[e];exact g1
    ·exact hI j (by omega)
  ·have:i=k:=by omega
   subst this;exact .inr ⟨_,h2,.inl ⟨rfl,hI⟩⟩
 ·rcases hr with ⟨rfl,h⟩ | ⟨i,hi,rfl,h⟩
  ·exact⟨-1,rfl,.inl ⟨rfl,h⟩⟩
  ·exact⟨(i:Int),rfl,.inr ⟨i,hi,rfl,h⟩⟩
theorem Zgs {α:Type} {n c:Nat} (f:Nat→α) (hc:c<n+1):Zrd (vx (n+1) f) (c:Int) ((c+1:Nat):Int)=some (vx n λk=>f (sk c k)):=by
 unfold Zrd;rw[iP ⟨by omega,by rw[Zj];omega,rfl⟩];refine congrArg some (List.ext_getElem? λi=>?_);have hl:(List.take c (vx (n+1) f)).length=c:=by rw[List.length_take,Zj];omega
 simp only[tN];by_cases h1:i<c
 ·rw[List.getElem?_append_left (by rw[hl];exact h1),List.getElem?_take,iP h1,Zec f (by omega),Zec _ (by omega)];unfold sk;rw[iP h1]
 ·rw[List.getElem?_append_right (by rw[hl];omega),hl,List.getElem?_drop];by_cases h2:i<n
  ·rw[Zec _ (by omega),Zec _ h2];unfold sk;rw[iN h1];congr 2;omega
  ·rw[List.getElem?_eq_none (by rw[Zj];omega),List.getElem?_eq_none (by rw[Zj];omega)]
set_option maxRecDepth 100000 in
theorem ZKu {T:Tb} {m n n' N:Nat} (h:T.arr m n' N) (hm:m≤1000) (hn:n≤1000):Zfi (tbl m n' T) (n:Int)=some (vx n (Z0 m T)):=by
 unfold Zfi tbl;refine Zr (Zno hn) ?_;refine Zr (y:=vx n (Z0 m T)) (Zra (λi=>((i:Int),vx n (Z0 i T))) m ?_ (by omega) (λi hi=>?_) ?_) rfl
 ·rfl
 ·simp only;rw[Zj,dTq (by omega),Ze,Zu _ hi,Za];refine Zr (y:=vx n (Z0 (i+1) T)) ?_ (by rw[Zm (by omega) (by omega),Za];rfl);have z0:Z0 i T (T.bs i)=0:=Zea λj hj=>iN λe=>by have:=h.bi j i (by omega) hi e;omega
  by_cases hb:T.bs i<n
  ·rw[dTq (by omega),Ze,Zu _ hi,Za,Zu _ hb,Za];simp only[tN];rw[ZMa];refine congrArg some (ZH λu hu=>?_);show _=Z0 i T u+(if T.bs i=u then T.b i else 0);by_cases e:u=T.bs i
   ·rw[iP e,iP e.symm,e,z0];grind
   ·rw[iN e,iN λe2=>e e2.symm];grind
  ·rw[dFq (by omega),Zf];refine congrArg some (ZH λu hu=>?_);show _=Z0 i T u+(if T.bs i=u then T.b i else 0);rw[iN (by omega)];grind
 ·simp only;rw[Zj,dFq (by omega),Zf]
theorem Zuu {T:Tb} {m n n' N k:Nat} (h:T.arr m n' N) (hm:m≤1000) (hn':n'≤1000) (hn:n≤1000) (hk:k≤1000) :
   Zg (σ:=Int×(List Rat)) (ρ:=List Rat) (λs2 =>
   ifb (decide (s2.1<((vx n' λk=>(T.fr k:Int)).length:Int)))
   (bnd (idx (vx n' λk=>(T.fr k:Int)) s2.1) λy3 =>
    bnd (α:=Bool)
    (ifb (decide ((n:Int)≤y3))
     (bnd (chk .i64 ((n:Int)+(k:Int))) λy4 =>
      some (decide (y3<y4)))
     (some false)) λx5 =>
    bnd (α:=List Rat)
    (ifb x5
     (bnd (chk .i64 (y3-(n:Int))) λy6 =>
      bnd (idx (vx n' T.z) s2.1) λy7 =>
      bnd (Z9a y7) λy8 =>
      bnd (idx s2.2 y6) λy9 =>
      some (s2.2.set y6.toNat y8))
     (some s2.2)) λx10 =>
    bnd (chk .i64 (s2.1+(1:Int))) λy11 =>
    some (.inl (y11,x10)))
   (some (.inr s2.2)))
  Zi ((0:Int),vx k λ_=>(0:Rat))=some (vx k (Z9 n T n')):=by
  refine Zra (λj=>((j:Int),vx k (Z9 n T j))) n' ?_ (by omega) (λj hj=>?_) ?_
  · refine Prod.ext rfl (ZH λi _=>?_);show -(0:Rat)=0;rfl
  · simp only;rw[Zj,dTq (by omega),Ze,Zu _ hj,Za];have step:∀ i,Z9 n T (j+1) i=Z9 n T j i-(if T.fr j=n+i then T.z j else 0):=λi=>by
      show -(zz j T.z T.fr (n+i)+(if T.fr j=n+i then T.z j else 0)) = -(zz j T.z T.fr (n+i))-_;grind
    refine Zr (y:=decide (n≤T.fr j∧T.fr j<n+k)) ?_ ?_
    · by_cases h1:n≤T.fr j
      · rw[dTq (by omega),Ze,Zm (by omega) (by omega),Za];refine congrArg some ?_;rw[decide_eq_decide];omega
      · rw[dFq (by omega),Zf,dFq (by omega)]
    · refine Zr (y:=vx k (Z9 n T (j+1))) ?_ (by rw[Zm (by omega) (by omega),Za];rfl);by_cases hc:n≤T.fr j∧T.fr j<n+k
      · have e1:(T.fr j:Int)-(n:Int)=((T.fr j-n:Nat):Int):=by omega
        rw[dTq hc,Ze,e1,Zm (by omega) (by omega),Za,Zu _ hj,Za];unfold Z9a;rw[Za,Zu _ (by omega),Za];simp only[tN];rw[ZMa];refine congrArg some (ZH λi hi=>?_);rw[step i];by_cases e:i=T.fr j-n
        · have z0:Z9 n T j i=0:=by
            show -(zz j T.z T.fr (n+i))=0;have:zz j T.z T.fr (n+i)=0:=Zea λq hq=>iN λe2=>by have:=h.fi q j (by omega) hj (by omega);omega
            rw[this];rfl
          rw[iP e,iP (by omega),z0];grind
        · rw[iN e,iN (by omega)];grind
      · rw[dFq hc,Zf];refine congrArg some (ZH λi hi=>?_);rw[step i,iN (by omega)];grind
  · simp only;rw[Zj,dFq (by omega),Zf]
theorem ZMv {T:Tb} {m n n' N k:Nat} (h:T.arr m n' N) (hm:m≤1000) (hn':n'≤1000) (hn:n≤1000) (hk:k≤1000):Z8k (tbl m n' T) (n:Int) (k:Int)=some (vx k (Z9 n T n')):=by
 unfold Z8k tbl;refine Zr (Zno hk) ?_;exact Zr (Zuu h hm hn' hn hk) rfl
theorem ZKy {T:Tb} {m n n' N k:Nat} (h:T.arr m n' N) (hm:m≤1000) (hn':n'≤1000) (hn:n≤1000) (hk:k≤1000):ZBl (tbl m n' T) (n:Int) (k:Int)=some (tbl m n' T,vx k (Z9 n T n')):=by
 unfold ZBl tbl;refine Zr (ZEc 0) ?_;refine Zr (Zki hk) ?_;exact Zr (Zuu h hm hn' hn hk) rfl
noncomputable def ZRd (t:Rat) (fw:Rat):Option (Rat×Rat) :=
 bnd (Zza fw t) λa =>
 bnd (Zza a a) λb =>
 bnd (bnd (Zva (1:Int)) λd =>
 bnd (ZDa b d) λe =>
 some e)
 (λ(c:Rat) =>
 (bnd (Zlc b c) λf =>
 bnd (Zlc a c) λg =>
 some ((f.1,g.1))))
noncomputable def Z2e (r:(Rat×(List (Rat×Rat)))) (fw:Rat):Option (Rat×Rat) :=
 bnd (bnd (Zg (λs:Rat×Rat×Int=>match s with
| (c,d,a) =>
 (ifb (decide (a<(r.2.length:Int)))
 (bnd (idx r.2 a) λb =>
 bnd (ZRd b.2 fw) λe =>
 bnd (Zza e.1 b.1) λf =>
 bnd (ZDa c f) λg =>
 bnd (Zza e.2 b.1) λh =>
 bnd (ZDa d h) λi =>
 bnd (chk .i64 (a+(1:Int))) λj =>
 some (.inl ((g,i,j))))
 (some (.inr ((c,d)))))) Zi ((r.1,(0:Rat),(0:Int))))
 (λ(p:Rat×Rat)=>match p with
| (k,l) =>
 (some ((k,l)))))
 (λ(p:Rat×Rat)=>match p with
| (m,n) =>
 (some ((m,n))))
noncomputable def Zoh (x:Rat):Option (Rat) :=
 bnd (Z4 x) λa =>
 ifb (decide (a<(0:Int)))
 (bnd (Z9a x) λb =>
 some b)
 (some x)
noncomputable def ZSe (r:Rat×(List (Rat×Rat))) (l:List (Rat×Rat×Rat×Rat)):Option Rat :=
 bnd (Zg (σ:=Int×Rat) (ρ:=Rat) (λb =>
 ifb (decide (b.1<(l.length:Int)))
 (bnd (idx l b.1) λc =>
 bnd (Z2e r c.1) λd =>
 bnd (ZBa d.1 c.2.1) λf =>
 bnd (ZBa d.2 c.2.2.1) λg =>
 bnd (Zg (σ:=Int×Rat) (ρ:=Rat) (λa =>
 ifb (decide (a.1<(2:Int)))
 (bnd (α:=Rat)
 (ifb (decide (a.1=(0:Int)))
 (some f)
 (ifb (decide (a.1=(1:Int)))
 (some g)
         (none))) λh =>
 bnd (Zoh h) λi =>
 bnd (Zlc i c.2.2.2) λe =>
 bnd (Zpa e.1 a.2) λj =>
 bnd (α:=Rat)
 (ifb (decide ((0:Int)<j))
 (some e.1)
 (some a.2)) λk =>
 bnd (chk .i64 (a.1+(1:Int))) λm =>
 some (.inl (m,k)))
 (some (.inr a.2)))
     Zi ((0:Int),b.2)) λn =>
 bnd (chk .i64 (b.1+(1:Int))) λo =>
 some (.inl (o,n)))
 (some (.inr b.2)))
  Zi ((0:Int),(0:Rat))) λp =>
 some p
def ra (t:Nat→Rat) (w:Rat) (k:Nat):Rat:=if k=0 then 1 else un1 (t (k-1)) w
def rb (t:Nat→Rat) (w:Rat) (k:Nat):Rat:=if k=0 then 0 else un2 (t (k-1)) w
def xOf (r:RBR) (k:Nat):Rat:=if k=0 then r.1 else (gP r.2 (k-1)).1
def tOf (r:RBR) (k:Nat):Rat:=(gP r.2 k).2
theorem ZOj (r:RBR) (w:Rat):∀ i,rs r w i=(sm (i+1) (λk=>ra (tOf r) w k*xOf r k),sm (i+1) λk=>rb (tOf r) w k*xOf r k)
 | 0=>by
  show (r.1,(0:Rat))=(sm 0 _+ra (tOf r) w 0*xOf r 0,sm 0 _+rb (tOf r) w 0*xOf r 0)
  unfold ra rb xOf
  rw[iP rfl,iP rfl,iP rfl,Zea λ_ h=>by omega,Zea λ_ h=>by omega]
  exact Prod.ext (by grind) (by grind)
 | i+1=>by
  show ((rs r w i).1+un1 (gP r.2 i).2 w*(gP r.2 i).1,(rs r w i).2+un2 (gP r.2 i).2 w*(gP r.2 i).1)=(sm (i+1) _+ra (tOf r) w (i+1)*xOf r (i+1),sm (i+1) _+rb (tOf r) w (i+1)*xOf r (i+1))
  rw[ZOj r w i]
  rfl
section
variable {t w:Rat} {K:Nat}
theorem ZJk (ht:sz K t) (hw:sz K w):sz (8*K+3) (un1 t w)∧sz (8*K+3) (un2 t w):=by
 have z1:=ZDb hw ht;have z2:=ZDb z1 z1;have z3:=ZOh z2 ZXe;exact⟨(ZSh z2 z3).mono (by omega),(ZSh z1 z3).mono (by omega)⟩
theorem Zar (ht:sz K t) (hw:sz K w) (hK:K≤200000000000):ZRd t w=some (un1 t w,un2 t w):=by
 unfold ZRd;have z1:=ZDb hw ht;have z2:=ZDb z1 z1;have z3:=ZOh z2 ZXe;have q1:Zva (1:Int)=some 1:=rfl;rw[Zpc hw ht (by omega) (by omega),Za,Zpc z1 z1 (by omega) (by omega),Za,q1];simp only[Za];rw[Zsf z2 ZXe (by omega) (by omega)];simp only[Za];rw[ZMg z2 z3 (by omega) (by omega) (Zjp _),Za,ZMg z1 z3 (by omega) (by omega) (Zjp _),Za];rfl
end
section
variable {r:RBR} {w:Rat} {K W n:Nat} {l:List P4}
theorem rsK (hr:sz W r.1) (hm:∀ i,i<r.2.length→sz W (gP r.2 i).1∧sz K (gP r.2 i).2) (hw:sz K w):∀ i,i≤r.2.length→sz ((8*K+W+4)*(i+1)) (rs r w i).1∧sz ((8*K+W+4)*(i+1)) (rs r w i).2
 | 0,_=>⟨hr.mono (by omega),ZDd.mono (by omega)⟩
 | i+1,hi=>by
  have ih:=rsK hr hm hw i (by omega)
  have z:=hm i (by omega)
  have u:=ZJk z.2 hw
  have e:(8*K+W+4)*(i+1+1)=(8*K+W+4)*(i+1)+(8*K+W+4):=Nat.mul_succ _ _
  rw[e]
  exact⟨(ZOh ih.1 (ZDb u.1 z.1)).mono (by omega),(ZOh ih.2 (ZDb u.2 z.1)).mono (by omega)⟩
theorem ZCq (hr:sz W r.1) (hm:∀ i,i<r.2.length→sz W (gP r.2 i).1∧sz K (gP r.2 i).2) (hw:sz K w) (hl:r.2.length≤12):sz ((8*K+W+4)*13) (Zgb r w).1∧sz ((8*K+W+4)*13) (Zgb r w).2:=by
 have:=rsK hr hm hw r.2.length (Nat.le_refl _);have e:(8*K+W+4)*(r.2.length+1)≤(8*K+W+4)*13:=Nat.mul_le_mul_left _ (by omega);exact⟨this.1.mono e,this.2.mono e⟩
theorem Zbv (hr:sz W r.1) (hm:∀ i,i<r.2.length→sz W (gP r.2 i).1∧sz K (gP r.2 i).2) (hw:sz K w) (hl:r.2.length≤12) (hK:(8*K+W+4)*13≤100000000000):Z2e r w=some (Zgb r w):=by
 unfold Z2e Zgb;refine Zr (y:=rs r w r.2.length) (Zr (y:=rs r w r.2.length) (Zra (λi=>((rs r w i).1,(rs r w i).2,(i:Int))) r.2.length rfl (by omega) (λi hi=>?_) ?_) rfl) rfl
 ·have g:=ZQc (l:=r.2) (d:=((0:Rat),(0:Rat))) hi;have z:=hm i hi;have u:=ZJk z.2 hw;have s:=rsK hr hm hw i (by omega);have e:(8*K+W+4)*(i+1)≤(8*K+W+4)*13:=Nat.mul_le_mul_left _ (by omega);simp only;rw[dTq (by omega),Ze,ZC hi,Za,← g,Zar z.2 hw (by omega),Za,Zpc u.1 z.1 (by omega) (by omega),Za,Zsf s.1 (ZDb u.1 z.1) (by omega) (by omega),Za,Zpc u.2 z.1 (by omega) (by omega),Za,Zsf s.2 (ZDb u.2 z.1) (by omega) (by omega),Za,Zm (by omega) (by omega),Za];rfl
 ·simp only;rw[dFq (by omega),Zf]
theorem ZVp {k:Nat} {x:Rat} (h:sz k x):Zoh x=some (Zjc x):=by
 unfold Zoh Zjc;rw[sg,Za,Z0f];by_cases h1:x<0
 ·rw[dTq h1,Ze,iP h1];rfl
 ·rw[dFq h1,Zf,iN h1]
structure GoodR (K:Nat) (l:List P4):Prop where
 z:∀ i,i<l.length→sz K (gR l i).1∧sz K (gR l i).2.1∧sz K (gR l i).2.2.1∧sz K (gR l i).2.2.2
 h:∀ i,i<l.length→0<(gR l i).2.2.2
theorem q_szK (hr:sz W r.1) (hm:∀ i,i<r.2.length→sz W (gP r.2 i).1∧sz K (gP r.2 i).2) (hl:r.2.length≤12) (hg:GoodR K l) {i:Nat} (hi:i<l.length):sz ((8*K+W+4)*14) (q1F r (gR l i))∧sz ((8*K+W+4)*14) (q2F r (gR l i)):=by
 have z:=hg.z i hi;have s:=ZCq hr hm z.1 hl;exact⟨(ZSh (ZPj (Z6j s.1 z.2.1)) z.2.2.2).mono (by omega),(ZSh (ZPj (Z6j s.2 z.2.2.1)) z.2.2.2).mono (by omega)⟩
theorem Zho (hr:sz W r.1) (hm:∀ i,i<r.2.length→sz W (gP r.2 i).1∧sz K (gP r.2 i).2) (hl:r.2.length≤12) (hg:GoodR K l):∀ i,i≤l.length→sz ((8*K+W+4)*14) (ms r l i)
 | 0,_=>ZDd.mono (by omega)
 | i+1,hi=>by
  have ih:=Zho hr hm hl hg i (by omega)
  have q:=q_szK hr hm hl hg (i:=i) (by omega)
  exact ZAn q.2 (ZAn q.1 ih)
theorem ZAq (hr:sz W r.1) (hm:∀ i,i<r.2.length→sz W (gP r.2 i).1∧sz K (gP r.2 i).2) (hl:r.2.length≤12) (hg:GoodR K l) (hn:l.length≤20) (hK:(8*K+W+4)*14≤100000000000):ZSe r l=some (ms r l l.length):=by
 obtain⟨B,hB,h13,hKB⟩:∃ B,(8*K+W+4)*14=B∧(8*K+W+4)*13≤B∧K≤B:=⟨_,rfl,Nat.mul_le_mul_left _ (by decide),by omega⟩;have hb:=Nat.le_trans h13 (hB ▸ hK);rw[hB]at hK;have hq:=λi hi=>q_szK hr hm hl hg (i:=i) hi;have hms:=Zho hr hm hl hg;rw[hB]at hq hms;have hres0:=λi hi=>Zbv hr hm (hg.z i hi).1 hl hb;have hrs:=λi hi=>ZCq hr hm (hg.z i hi).1 hl;clear hb hB hr hm;unfold ZSe;refine Zr (y:=ms r l l.length) (Zra (λi=>((i:Int),ms r l i)) l.length rfl (by omega) (λi hi=>?_) ?_) rfl
 ·have g:=ZQc (l:=l) (d:=((0:Rat),(0:Rat),(0:Rat),(0:Rat))) hi;have z:=hg.z i hi;have s:sz B (Zgb r (gR l i).1).1∧sz B (Zgb r (gR l i).1).2:=⟨(hrs i hi).1.mono h13,(hrs i hi).2.mono h13⟩;have q:=hq i hi;have m:=hms i (by omega);have hne:(gR l i).2.2.2≠0:=λe=>by have:=hg.h i hi;rw[e]at this;exact Rat.lt_irrefl this
  have d1:=Z6j s.1 z.2.1;have d2:=Z6j s.2 z.2.2.1;have hres:Z2e r (gR l i).1=some (Zgb r (gR l i).1):=hres0 i hi;simp only;rw[dTq (by omega),Ze,ZC hi,Za,← g,hres,Za,Zpf s.1 z.2.1 (by omega) (by omega),Za,Zpf s.2 z.2.2.1 (by omega) (by omega),Za];refine Zr (y:=ms r l (i+1)) (Zra (λj=>((j:Int),match j with | 0=>ms r l i | 1=>mxq (q1F r (gR l i)) (ms r l i) | _=>ms r l (i+1))) 2 rfl (by omega) (λj hj=>?_) ?_) ?_
  ·rcases (show j=0∨j=1 by omega) with rfl | rfl
   ·have hq:Zjc ((Zgb r (gR l i).1).1-(gR l i).2.1) / (gR l i).2.2.2=q1F r (gR l i):=rfl;simp only;rw[dTq (by omega),Ze,dTq (by omega),Ze,Za,ZVp d1,Za,ZMg (ZPj d1) z.2.2.2 (by omega) (by omega) hne,Za,hq,ZJe q.1 m (by omega) (by omega),Za,gt_d];unfold mxq;by_cases hlt:ms r l i<q1F r (gR l i)
    ·rw[dTq hlt,Ze,Za,iP hlt];rfl
    ·rw[dFq hlt,Zf,Za,iN hlt];rfl
   ·have hq:Zjc ((Zgb r (gR l i).1).2-(gR l i).2.2.1) / (gR l i).2.2.2=q2F r (gR l i):=rfl;have m1:=ZAn q.1 m;have em:ms r l (i+1)=mxq (q2F r (gR l i)) (mxq (q1F r (gR l i)) (ms r l i)):=rfl;simp only;rw[dTq (by omega),Ze,dFq (by omega),Zf,dTq (by omega),Ze,Za,ZVp d2,Za,ZMg (ZPj d2) z.2.2.2 (by omega) (by omega) hne,Za,hq,ZJe q.2 m1 (by omega) (by omega),Za,gt_d,em];generalize mxq (q1F r (gR l i)) (ms r l i)=M at *;unfold mxq;by_cases hlt:M<q2F r (gR l i)
    ·rw[dTq hlt,Ze,Za,iP hlt];rfl
    ·rw[dFq hlt,Zf,Za,iN hlt];rfl
  ·simp only;rw[dFq (by omega),Zf]
  ·rw[Zm (by omega) (by omega),Za];rfl
 ·simp only;rw[dFq (by omega),Zf]
end
theorem Zeu {a b:Rat}:a≤mxq a b∧b≤mxq a b:=by unfold mxq;split <;> constructor <;> grind
theorem Zsu {a b s:Rat} (h:a≤s) (h':b≤s):mxq a b≤s:=by unfold mxq;split <;> assumption
theorem ZCf {x h s:Rat} (hh:0<h):Zjc x / h≤s ↔ -(h*s)≤x∧x≤h*s:=by
 have e:Zjc x / h≤s↔Zjc x≤s*h:=by
  have hne:h≠0:=λe=>by rw[e]at hh;exact Rat.lt_irrefl hh
  have e1:Zjc x / h*h=Zjc x:=by rw[Rat.div_def,Rat.mul_assoc,Rat.inv_mul_cancel _ hne,Rat.mul_one]
  constructor
  ·intro g;have:=Rat.mul_le_mul_of_nonneg_right g (Rat.le_of_lt hh);rw[e1]at this;exact this
  ·intro g;refine Rat.not_lt.1 λg2=>?_;have:=Rat.mul_lt_mul_of_pos_right g2 hh;rw[e1]at this;exact absurd g (Rat.not_le.2 this)
 rw[e];unfold Zjc;split <;> constructor <;> intro g <;> first | (constructor <;> grind) | grind
noncomputable def ZXk (t:(List (List Rat))×(List Rat)×(List Rat)×Rat×(List Int)×(List Int)) (p:(List (List Rat))×(List Rat)×(List Rat)):Option (((List (List Rat))×(List Rat)×(List Rat)×Rat×(List Int)×(List Int))×(List Rat)×Bool) :=
 bnd (chk .i64 ((p.2.2.length:Int)+(p.2.1.length:Int))) λm =>
 bnd (Zg (σ:=Int×Int) (ρ:=Int) (λf =>
 ifb (decide (f.2<(t.2.1.length:Int)))
 (bnd (idx t.2.1 f.2) λy =>
 bnd (α:=Bool)
 (bnd (Z4 y) λI =>
 ifb (decide (I<(0:Int)))
 (ifb (decide (f.1<(0:Int)))
 (some true)
 (bnd (idx t.2.1 f.1) λJ =>
 bnd (Zpa y J) λK =>
 some (decide (K<(0:Int)))))
 (some false)) λL =>
 bnd (α:=Int)
 (ifb L
 (some f.2)
 (some f.1)) λM =>
 bnd (chk .i64 (f.2+(1:Int))) λN =>
 some (.inl (M,N)))
 (some (.inr f.1)))
  Zi ((-1:Int),(0:Int))) λz =>
 ifb (decide (z<(0:Int)))
 (some ((t.1,t.2.1,t.2.2.1,t.2.2.2.1,t.2.2.2.2.1,t.2.2.2.2.2),([]:List Rat),true))
 (bnd (Zg (σ:=Int×(List (List Rat))) (ρ:=List (List Rat)) (λc =>
 ifb (decide (c.1<(t.1.length:Int)))
 (bnd (idx c.2 c.1) λA =>
 bnd (ZTb (-1:Int)) λB =>
 bnd (Zw 56 (A++[B])) λ_ =>
 bnd (idx c.2 c.1) λaM =>
 bnd (eqN c.1.toNat c.1.toNat) λ_ =>
 bnd (chk .i64 (c.1+(1:Int))) λO =>
 some (.inl (O,c.2.set c.1.toNat (A++[B]))))
 (some (.inr c.2)))
   Zi ((0:Int),t.1)) λP =>
 bnd (Zw 8 (t.2.2.2.2.2++[m])) λ_ =>
 bnd (ZTb (0:Int)) λQ =>
 bnd (Zwd 56 [Q] (p.2.2.length:Int)) λC =>
 bnd (ZTb (-1:Int)) λD =>
 bnd (Zw 56 (C++[D])) λ_ =>
 bnd (Z9e (P,t.2.1,C++[D],t.2.2.2.1,t.2.2.2.2.1,t.2.2.2.2.2++[m]) z (p.2.2.length:Int)) λi =>
 bnd (ZMi (i.1.1,i.1.2.1,i.1.2.2.1,i.1.2.2.2.1,i.1.2.2.2.2.1,i.1.2.2.2.2.2) m) λb =>
 bnd (Z4 b.1.2.2.2.1) λR =>
 ifb (decide (R<(0:Int)))
 (bnd (ZBl (b.1.1,b.1.2.1,b.1.2.2.1,b.1.2.2.2.1,b.1.2.2.2.2.1,b.1.2.2.2.2.2) (p.2.2.length:Int) (p.2.1.length:Int)) λg =>
 some ((g.1.1,g.1.2.1,g.1.2.2.1,g.1.2.2.2.1,g.1.2.2.2.2.1,g.1.2.2.2.2.2),g.2,false))
 (bnd (α:=Int)
 (bnd (Zg (σ:=Int) (ρ:=Unit ⊕ Int) (λn =>
 ifb (decide (n<(b.1.2.2.2.2.1.length:Int)))
 (bnd (idx b.1.2.2.2.2.1 n) λS =>
 ifb (m==S)
 (some (.inr (.inr n)))
 (bnd (chk .i64 (n+(1:Int))) λT =>
 some (.inl T)))
 (some (.inr (.inl ()))))
     Zi (0:Int)) λU =>
    match U with
| .inl aN=>(some (-1:Int))
| .inr V=>(some V)) λw =>
 bnd (α:=(List (List Rat))×(List Rat)×(List Rat)×Rat×(List Int)×(List Int))
 (ifb (decide ((0:Int)≤w))
 (bnd (idx b.1.1 w) λE =>
 bnd (α:=Int)
 (bnd (Zg (σ:=Int) (ρ:=Unit ⊕ Int) (λo =>
 ifb (decide (o<(E.length:Int)))
 (bnd (idx E o) λW =>
 bnd (Z5d W) λX =>
 ifb (!X)
 (some (.inr (.inr o)))
 (bnd (chk .i64 (o+(1:Int))) λY =>
 some (.inl Y)))
 (some (.inr (.inl ()))))
       Zi (0:Int)) λZ =>
      match Z with
| .inl aO=>(some (-1:Int))
| .inr aa=>(some aa)) λab =>
 bnd (Z9e (b.1.1,b.1.2.1,b.1.2.2.1,b.1.2.2.2.1,b.1.2.2.2.2.1,b.1.2.2.2.2.2) w ab) λj =>
 some (j.1.1,j.1.2.1,j.1.2.2.1,j.1.2.2.2.1,j.1.2.2.2.2.1,j.1.2.2.2.2.2))
 (some (b.1.1,b.1.2.1,b.1.2.2.1,b.1.2.2.2.1,b.1.2.2.2.2.1,b.1.2.2.2.2.2))) λh =>
 bnd (α:=Int)
 (bnd (Zg (σ:=Int) (ρ:=Unit ⊕ Int) (λq =>
 ifb (decide (q<(h.2.2.2.2.2.length:Int)))
 (bnd (idx h.2.2.2.2.2 q) λac =>
 ifb (m==ac)
 (some (.inr (.inr q)))
 (bnd (chk .i64 (q+(1:Int))) λad =>
 some (.inl ad)))
 (some (.inr (.inl ()))))
     Zi (0:Int)) λae =>
    match ae with
| .inl aP=>(some (-1:Int))
| .inr af=>(some af)) λr =>
 bnd (chk .i64 (r+(1:Int))) λag =>
 bnd (Zrd h.2.2.2.2.2 r ag) λF =>
 bnd (Zg (σ:=Int×(List (List Rat))) (ρ:=List (List Rat)) (λd =>
 ifb (decide (d.1<(h.1.length:Int)))
 (bnd (idx d.2 d.1) λah =>
 bnd (chk .i64 (r+(1:Int))) λai =>
 bnd (Zrd ah r ai) λaj =>
 bnd (idx d.2 d.1) λaQ =>
 bnd (eqN d.1.toNat d.1.toNat) λ_ =>
 bnd (chk .i64 (d.1+(1:Int))) λak =>
 some (.inl (ak,d.2.set d.1.toNat aj)))
 (some (.inr d.2)))
    Zi ((0:Int),h.1)) λal =>
 bnd (ZTb (0:Int)) λam =>
 bnd (Zwd 56 [am] (F.length:Int)) λan =>
 bnd (ZTb (0:Int)) λao =>
 bnd (Zg (σ:=Int×((List (List Rat))×(List Rat)×(List Rat)×Rat×(List Int)×(List Int))) (ρ:=(List (List Rat))×(List Rat)×(List Rat)×Rat×(List Int)×(List Int)) (λa =>
 ifb (decide (a.1<(p.2.2.length:Int)))
 (bnd (α:=(List (List Rat))×(List Rat)×(List Rat)×Rat×(List Int)×(List Int))
 (bnd (idx p.2.2 a.1) λx =>
 bnd (α:=Int)
 (bnd (Zg (σ:=Int) (ρ:=Unit ⊕ Int) (λs =>
 ifb (decide (s<(a.2.2.2.2.2.2.length:Int)))
 (bnd (idx a.2.2.2.2.2.2 s) λap =>
 ifb (a.1==ap)
 (some (.inr (.inr s)))
 (bnd (chk .i64 (s+(1:Int))) λaq =>
 some (.inl aq)))
 (some (.inr (.inl ()))))
         Zi (0:Int)) λar =>
        match ar with
| .inl aR=>(some (-1:Int))
| .inr au=>(some au)) λu =>
 ifb (decide ((0:Int)≤u))
 (bnd (idx a.2.2.2.1 u) λav =>
 bnd (ZDa av x) λax =>
 bnd (idx a.2.2.2.1 u) λaS =>
 some (a.2.1,a.2.2.1,a.2.2.2.1.set u.toNat ax,a.2.2.2.2.1,a.2.2.2.2.2.1,a.2.2.2.2.2.2))
 (bnd (α:=Int)
 (bnd (Zg (σ:=Int) (ρ:=Unit ⊕ Int) (λv =>
 ifb (decide (v<(a.2.2.2.2.2.1.length:Int)))
 (bnd (idx a.2.2.2.2.2.1 v) λay =>
 ifb (a.1==ay)
 (some (.inr (.inr v)))
 (bnd (chk .i64 (v+(1:Int))) λaz =>
 some (.inl az)))
 (some (.inr (.inl ()))))
          Zi (0:Int)) λaA =>
         match aA with
| .inl aT=>(some (-1:Int))
| .inr aB=>(some aB)) λG =>
 bnd (idx a.2.2.1 G) λaC =>
 bnd (Zza x aC) λaD =>
 bnd (ZDa a.2.2.2.2.1 aD) λaE =>
 bnd (idx a.2.1 G) λH =>
 bnd (Zg (σ:=Int×(List Rat)) (ρ:=List Rat) (λe =>
 ifb (decide (e.1<(H.length:Int)))
 (bnd (idx H e.1) λaF =>
 bnd (idx e.2 e.1) λaG =>
 bnd (Zza x aF) λaH =>
 bnd (ZBa aG aH) λaI =>
 bnd (idx e.2 e.1) λaU =>
 bnd (chk .i64 (e.1+(1:Int))) λaJ =>
 some (.inl (aJ,e.2.set e.1.toNat aI)))
 (some (.inr e.2)))
         Zi ((0:Int),a.2.2.2.1)) λaK =>
 some (a.2.1,a.2.2.1,aK,aE,a.2.2.2.2.2.1,a.2.2.2.2.2.2))) λk =>
 bnd (chk .i64 (a.1+(1:Int))) λaL =>
 some (.inl (aL,k.1,k.2.1,k.2.2.1,k.2.2.2.1,k.2.2.2.2.1,k.2.2.2.2.2)))
 (some (.inr (a.2.1,a.2.2.1,a.2.2.2.1,a.2.2.2.2.1,a.2.2.2.2.2.1,a.2.2.2.2.2.2))))
    Zi ((0:Int),al,h.2.1,an,ao,h.2.2.2.2.1,F)) λl =>
 some ((l.1,l.2.1,l.2.2.1,l.2.2.2.1,l.2.2.2.2.1,l.2.2.2.2.2),([]:List Rat),true)))
end Go.Eng
namespace Go.Eng
open Tb
variable {m n:Nat} {A:Mx} {B C:Nat→Rat} {T:Tb}
set_option maxRecDepth 100000 in
theorem Z3z {K:Nat} (hz:∀ i,i<m→sz K (B i)) (hm:m≤1000) (hK:K≤137438953472):∃ e:Int,Zg (σ:=Int×Int) (ρ:=Int) (λs2 =>
   ifb (decide (s2.2<((vx m B).length:Int)))
   (bnd (idx (vx m B) s2.2) λy3 =>
    bnd (α:=Bool)
    (bnd (Z4 y3) λy4 =>
     ifb (decide (y4<(0:Int)))
     (ifb (decide (s2.1<(0:Int)))
      (some true)
      (bnd (idx (vx m B) s2.1) λy5 =>
       bnd (Zpa y3 y5) λy6 =>
       some (decide (y6<(0:Int)))))
     (some false)) λx7 =>
    bnd (α:=Int)
    (ifb x7
     (some s2.2)
     (some s2.1)) λx8 =>
    bnd (chk .i64 (s2.2+(1:Int))) λy9 =>
    some (.inl (x8,y9)))
   (some (.inr s2.1)))
  Zi ((-1:Int),(0:Int))=some e∧(e = -1∧(∀ i,i<m→¬ B i<0) ∨ ∃ w:Nat,e=(w:Int)∧w<m∧B w<0∧∀ i,i<m→B i<0→B w≤B i):=by
  suffices h:∃ z,bnd (Zg _ Zi ((-1:Int),(0:Int))) (λe=>some e)=some z∧(z = -1∧(∀ i,i<m→¬ B i<0) ∨ ∃ w:Nat,z=(w:Int)∧w<m∧B w<0∧∀ i,i<m→B i<0→B w≤B i) by
    obtain⟨z,h1,h2⟩:=h;obtain⟨y,h3,h4⟩:=Z6 h1
    cases h4
    exact⟨_,h3,h2⟩
  refine Z9k (λk s=>∃ e,s=(e,(k:Int))∧(e = -1∧(∀ j,j<k→¬ B j<0) ∨ ∃ w:Nat,e=(w:Int)∧w<k∧B w<0∧∀ j,j<k→B j<0→B w≤B j)) (λe=>e = -1∧(∀ i,i<m→¬ B i<0) ∨ ∃ w:Nat,e=(w:Int)∧w<m∧B w<0∧∀ i,i<m→B i<0→B w≤B i) m ⟨-1,rfl,.inl ⟨rfl,λj hj=>by omega⟩⟩ (by omega) (λk s hk hI=>?_) (λe he=>⟨_,rfl,he⟩);obtain⟨e,rfl,hI⟩:=hI;by_cases hlt:k<m
  · left;simp only;rw[Zj,dTq (by omega),Ze,Zu _ hlt,Za];unfold Z4;rw[Za];have fin:∀ {X:Option Bool} {b:Bool} ,X=some b→(bnd (α:=Bool) X λx7=>bnd (α:=Int) (ifb x7 (some (k:Int)) (some e)) λx8=>bnd (chk .i64 ((k:Int)+(1:Int))) λy9=>(some (.inl (x8,y9)):Option ((Int×Int) ⊕ Int)))=some (.inl (if b then (k:Int) else e,((k+1:Nat):Int))):=λ{X b} h=>by
      rw[h,Za]
      cases b
      · rw[Zf,Za,Zm (by omega) (by omega),Za];rfl
      · rw[Ze,Za,Zm (by omega) (by omega),Za];rfl
    by_cases hp:B k<0
    · rw[dTq ((Zve _).2 hp),Ze];rcases hI with ⟨rfl,hno⟩ | ⟨w,rfl,hw,hb,hle⟩
      · refine⟨_,hlt,fin (b:=true) (by rfl),_,rfl,.inr ⟨k,rfl,by omega,hp,λj hj hj0=>?_⟩⟩;by_cases e2:j=k
        · rw[e2];exact Rat.le_refl
        · exact absurd hj0 (hno j (by omega))
      · rw[dFq (show ¬ (w:Int)<0 by omega),Zf,Zu _ (by omega),Za,ZJe (hz k hlt) (hz w (by omega)) (by omega) (by omega),Za];refine⟨_,hlt,fin rfl,_,rfl,.inr ?_⟩;by_cases hc:B k<B w
        · rw[dTq ((Zve _).2 (by grind)),iP rfl];refine⟨k,rfl,by omega,hp,λj hj hj0=>?_⟩;by_cases e2:j=k
          · rw[e2];exact Rat.le_refl
          · have:=hle j (by omega) hj0;grind
        · rw[dFq (λh=>hc (by have:=(Zve _).1 h;grind)),iN (by decide)];refine⟨w,rfl,by omega,hb,λj hj hj0=>?_⟩;by_cases e2:j=k
          · rw[e2];grind
          · exact hle j (by omega) hj0
    · rw[dFq (λh=>hp ((Zve _).1 h)),Zf];refine⟨_,hlt,fin rfl,_,rfl,?_⟩;rw[iN (by decide)];rcases hI with ⟨rfl,hno⟩ | ⟨w,rfl,hw,hb,hle⟩
      · refine .inl ⟨rfl,λj hj=>?_⟩;by_cases e2:j=k
        · rw[e2];exact hp
        · exact hno j (by omega)
      · refine .inr ⟨w,rfl,by omega,hb,λj hj hj0=>?_⟩;by_cases e2:j=k
        · rw[e2]at hj0;exact absurd hj0 hp
        · exact hle j (by omega) hj0
  · right;have:k=m:=by omega
    subst this;exact⟨e,by simp only;rw[Zj,dFq (by omega),Zf],hI⟩
theorem ZHz (hm:m≤1000) (hn:n≤1000):Zg (σ:=Int×(List (List Rat))) (ρ:=List (List Rat)) (λs11 =>
    ifb (decide (s11.1<((mx m n A).length:Int)))
    (bnd (idx s11.2 s11.1) λy12 =>
     bnd (ZTb (-1:Int)) λy13 =>
     bnd (Zw 56 (y12++[y13])) λ_ =>
     bnd (idx s11.2 s11.1) λy14 =>
     bnd (eqN s11.1.toNat s11.1.toNat) λ_ =>
     bnd (chk .i64 (s11.1+(1:Int))) λy15 =>
     some (.inl (y15,s11.2.set s11.1.toNat (y12++[y13]))))
    (some (.inr s11.2)))
   Zi ((0:Int),mx m n A)=some (mx m (n+1) (st1 m n A B).a):=by
  refine Zra (λk=>((k:Int),vx m λi=>if i<k then vx (n+1) ((st1 m n A B).a i) else vx n (A i))) m ?_ (by omega) (λk hk=>?_) ?_
  · exact Prod.ext rfl (ZH λi hi=>iN (by omega))
  · simp only;rw[Zab,dTq (by omega),Ze,Zu _ hk,Za,iN (by omega),ZEc,Za];have e:vx n (A k)++[((-1:Int):Rat)]=vx (n+1) ((st1 m n A B).a k):=by
      rw[← ZCb];refine congr (congrArg _ (ZH λj hj=>?_)) (congrArg (λx=>[x]) ?_)
      · show A k j=if j<n then A k j else -1;rw[iP hj]
      · show _=if n<n then A k n else -1;rw[iN (by omega)];rfl
    rw[e,Zma (by rw[Zj];omega),Za,Za,Zlp,Za,Zm (by omega) (by omega),Za];simp only[tN];rw[ZMa];refine congrArg (λx=>some (Sum.inl x)) (Prod.ext (by simp) (ZH λi hi=>?_));by_cases e2:i=k
    · rw[iP e2,iP (by omega),e2]
    · rw[iN e2];by_cases e3:i<k
      · rw[iP e3,iP (by omega)]
      · rw[iN e3,iN (by omega)]
  · simp only;rw[Zab,dFq (by omega),Zf];exact congrArg (λx=>some (Sum.inr x)) (ZH λi hi=>iP hi)
theorem Z0y {c:Nat} {M:Mx} (hm:m≤1000) (hn:n≤1000) (hc:c<n+1):Zg (σ:=Int×(List (List Rat))) (ρ:=List (List Rat)) (λs51 =>
     ifb (decide (s51.1<((mx m (n+1) M).length:Int)))
     (bnd (idx s51.2 s51.1) λy52 =>
      bnd (chk .i64 ((c:Int)+(1:Int))) λy53 =>
      bnd (Zrd y52 (c:Int) y53) λy54 =>
      bnd (idx s51.2 s51.1) λy55 =>
      bnd (eqN s51.1.toNat s51.1.toNat) λ_ =>
      bnd (chk .i64 (s51.1+(1:Int))) λy56 =>
      some (.inl (y56,s51.2.set s51.1.toNat y54)))
     (some (.inr s51.2)))
    Zi ((0:Int),mx m (n+1) M)=some (mx m n λi k=>M i (sk c k)):=by
  refine Zra (λk=>((k:Int),vx m λi=>if i<k then vx n (λj=>M i (sk c j)) else vx (n+1) (M i))) m ?_ (by omega) (λk hk=>?_) ?_
  · exact Prod.ext rfl (ZH λi hi=>iN (by omega))
  · simp only;rw[Zab,dTq (by omega),Ze,Zu _ hk,Za,iN (by omega),Zm (by omega) (by omega),Za];have:=Zgs (M k) hc;rw[show (c:Int)+1=((c+1:Nat):Int) by omega,this,Za,Za,Zlp,Za,Zm (by omega) (by omega),Za];simp only[tN];rw[ZMa];refine congrArg (λx=>some (Sum.inl x)) (Prod.ext (by simp) (ZH λi hi=>?_));by_cases e2:i=k
    · rw[iP e2,iP (by omega),e2]
    · rw[iN e2];by_cases e3:i<k
      · rw[iP e3,iP (by omega)]
      · rw[iN e3,iN (by omega)]
  · simp only;rw[Zab,dFq (by omega),Zf];exact congrArg (λx=>some (Sum.inr x)) (ZH λi hi=>iP hi)
def Zvb (m:Nat) (C:Nat→Rat) (D:Tb) (k:Nat):Tb:={ D with z:=λf=>sm k (λj=>C j*cfv m D j f),v:=sm k (λj=>C j*Z0 m D j) }
theorem cfv_sz {D:Tb} {N W:Nat} (h:D.arr m n N) (ha:∀ i k,i<m→k<n→sz W (D.a i k)) (hW:1≤W) {u f:Nat} (hu:u<N) (hf:f<n):sz W (cfv m D u f):=by
 unfold cfv;rcases h.cov u hu with ⟨i,hi,rfl⟩ | ⟨k,hk,rfl⟩
 ·rw[iN λe=>h.d i f hi hf e.symm,Z2a hi λj hj hne=>iN λe=>hne (h.bi j i hj hi e),iP rfl];have:(0:Rat)-D.a i f = - D.a i f:=by grind
  rw[this];exact Z4d (ha i f hi hf)
 ·rw[Zea (f:=λi=>if D.bs i=D.fr k then D.a i f else 0) λi hi=>iN (h.d i k hi hk)];split
  ·rw[show (1:Rat)-0=1 by grind];exact ZXe.mono hW
  ·rw[show (0:Rat)-0=0 by grind];exact ZDd.mono hW
set_option maxRecDepth 100000 in
theorem objs_ok {D:Tb} {K W:Nat} (h:D.arr m n (n+m)) (ha:∀ i k,i<m→k<n→sz W (D.a i k)) (hb:∀ i,i<m→sz W (D.b i)) (hC:∀ k,k<n→sz K (C k)) (hW:1≤W) (hK1:1≤K) (hm:m≤1000) (hn:n≤1000) (hS:(n+1)*(K+W+2)≤137438953472) :
   Zg (σ:=Int×((List (List Rat))×(List Rat)×(List Rat)×Rat×(List Int)×(List Int))) (ρ:=(List (List Rat))×(List Rat)×(List Rat)×Rat×(List Int)×(List Int)) (λs61 =>
     ifb (decide (s61.1<((vx n C).length:Int)))
     (bnd (α:=(List (List Rat))×(List Rat)×(List Rat)×Rat×(List Int)×(List Int))
      (bnd (idx (vx n C) s61.1) λy62 =>
       bnd (α:=Int)
       (bnd (Zg (σ:=Int) (ρ:=Unit ⊕ Int) (λs63 =>
          ifb (decide (s63<(s61.2.2.2.2.2.2.length:Int)))
          (bnd (idx s61.2.2.2.2.2.2 s63) λy64 =>
           ifb (s61.1==y64)
           (some (.inr (.inr s63)))
           (bnd (chk .i64 (s63+(1:Int))) λy65 =>
            some (.inl y65)))
          (some (.inr (.inl ()))))
         Zi (0:Int)) λx66 =>
        match x66 with
        | .inl r67=>(some (-1:Int))
        | .inr r68=>(some r68)) λx69 =>
       ifb (decide ((0:Int)≤x69))
       (bnd (idx s61.2.2.2.1 x69) λy70 =>
        bnd (ZDa y70 y62) λy71 =>
        bnd (idx s61.2.2.2.1 x69) λy72 =>
        some (s61.2.1,s61.2.2.1,s61.2.2.2.1.set x69.toNat y71,s61.2.2.2.2.1,s61.2.2.2.2.2.1,s61.2.2.2.2.2.2))
       (bnd (α:=Int)
        (bnd (Zg (σ:=Int) (ρ:=Unit ⊕ Int) (λs73 =>
           ifb (decide (s73<(s61.2.2.2.2.2.1.length:Int)))
           (bnd (idx s61.2.2.2.2.2.1 s73) λy74 =>
            ifb (s61.1==y74)
            (some (.inr (.inr s73)))
            (bnd (chk .i64 (s73+(1:Int))) λy75 =>
             some (.inl y75)))
           (some (.inr (.inl ()))))
          Zi (0:Int)) λx76 =>
         match x76 with
         | .inl r77=>(some (-1:Int))
         | .inr r78=>(some r78)) λx79 =>
        bnd (idx s61.2.2.1 x79) λy80 =>
        bnd (Zza y62 y80) λy81 =>
        bnd (ZDa s61.2.2.2.2.1 y81) λy82 =>
        bnd (idx s61.2.1 x79) λy83 =>
        bnd (Zg (σ:=Int×(List Rat)) (ρ:=List Rat) (λs84 =>
          ifb (decide (s84.1<(y83.length:Int)))
          (bnd (idx y83 s84.1) λy85 =>
           bnd (idx s84.2 s84.1) λy86 =>
           bnd (Zza y62 y85) λy87 =>
           bnd (ZBa y86 y87) λy88 =>
           bnd (idx s84.2 s84.1) λy89 =>
           bnd (chk .i64 (s84.1+(1:Int))) λy90 =>
           some (.inl (y90,s84.2.set s84.1.toNat y88)))
          (some (.inr s84.2)))
         Zi ((0:Int),s61.2.2.2.1)) λx91 =>
        some (s61.2.1,s61.2.2.1,x91,y82,s61.2.2.2.2.2.1,s61.2.2.2.2.2.2))) λx92 =>
      bnd (chk .i64 (s61.1+(1:Int))) λy93 =>
      some (.inl (y93,x92.1,x92.2.1,x92.2.2.1,x92.2.2.2.1,x92.2.2.2.2.1,x92.2.2.2.2.2)))
     (some (.inr (s61.2.1,s61.2.2.1,s61.2.2.2.1,s61.2.2.2.2.1,s61.2.2.2.2.2.1,s61.2.2.2.2.2.2))))
    Zi ((0:Int),tbl m n (Zvb m C D 0))=some (tbl m n (Zvb m C D n)):=by
  have zS:∀ k f,k≤n→f<n→sz ((n+1)*(K+W+2)) ((Zvb m C D k).z f):=λk f hk hf=>by
    have:=smz (k:=K+W) (f:=λj=>C j*cfv m D j f) (n:=k) λj hj=>ZDb (hC j (by omega)) (cfv_sz h ha hW (by omega) hf);refine this.mono ?_;have:=Nat.mul_le_mul (show k+1≤n+1 by omega) (show K+W+1≤K+W+2 by omega);rw[Nat.add_mul,Nat.one_mul]at this;omega
  have vS:∀ k,k≤n→sz ((n+1)*(K+W+2)) ((Zvb m C D k).v):=λk hk=>by
    have hv:∀ u,u<n+m→sz W (Z0 m D u):=λu hu=>by
      rcases h.cov u hu with ⟨i,hi,rfl⟩ | ⟨q,hq,rfl⟩
      · rw[Zig h hi];exact hb i hi
      · rw[Z7d h hq];exact ZDd.mono hW
    have:=smz (k:=K+W) (f:=λj=>C j*Z0 m D j) (n:=k) λj hj=>ZDb (hC j (by omega)) (hv j (by omega));refine this.mono ?_;have:=Nat.mul_le_mul (show k+1≤n+1 by omega) (show K+W+1≤K+W+2 by omega);rw[Nat.add_mul,Nat.one_mul]at this;omega
  have hKW:K+W+2≤137438953472:=Nat.le_trans (Nat.le_mul_of_pos_left _ (by omega)) hS;refine Zra (λk=>((k:Int),tbl m n (Zvb m C D k))) n rfl (by omega) (λk hk=>?_) ?_
  · show ifb (decide ((k:Int)<((vx n C).length:Int))) _ _=_;rw[Zj,dTq (by omega),Ze];refine Zr (y:=tbl m n (Zvb m C D (k+1))) ?_ (by rw[Zm (by omega) (by omega),Za];rfl);rw[Zu _ hk,Za];obtain⟨e,g1,g2⟩:=ZPg (body:=λs63 =>
          ifb (decide (s63<((vx n λf=>(D.fr f:Int)).length:Int)))
          (bnd (idx (vx n λf=>(D.fr f:Int)) s63) λy64 =>
           ifb ((k:Int)==y64)
           (some (.inr (.inr s63)))
           (bnd (chk .i64 (s63+(1:Int))) λy65 =>
            some (.inl y65)))
          (some (.inr (.inl ())))) n hn (λf=>D.fr f=k) (λf hf=>by
            rw[Zj,dTq (by omega),Ze,Zu _ hf,Za];by_cases e:D.fr f=k
            · exact .inl ⟨e,by rw[show ((k:Int)==(D.fr f:Int))=true by simp[e],Ze]⟩
            · exact .inr ⟨e,by rw[show ((k:Int)==(D.fr f:Int))=false by simp;omega,Zf,Zm (by omega) (by omega),Za];rfl⟩) (by rw[Zj,dFq (by omega),Zf])
    refine Zr g1 ?_;rcases g2 with ⟨rfl,g2⟩ | ⟨f,hf,rfl,g2⟩
    · rw[show (decide ((0:Int)≤-1))=false from rfl,Zf];obtain⟨r,hr,hrk⟩:∃ r,r<m∧D.bs r=k:=by
        rcases h.cov k (by omega) with h1 | ⟨f,hf,e⟩
        · exact h1
        · exact absurd e (g2 f hf)
      obtain⟨e,g3,g4⟩:=ZPg (body:=λs63 =>
          ifb (decide (s63<((vx m λf=>(D.bs f:Int)).length:Int)))
          (bnd (idx (vx m λf=>(D.bs f:Int)) s63) λy64 =>
           ifb ((k:Int)==y64)
           (some (.inr (.inr s63)))
           (bnd (chk .i64 (s63+(1:Int))) λy65 =>
            some (.inl y65)))
          (some (.inr (.inl ())))) m hm (λf=>D.bs f=k) (λf hf=>by
            rw[Zj,dTq (by omega),Ze,Zu _ hf,Za];by_cases e:D.bs f=k
            · exact .inl ⟨e,by rw[show ((k:Int)==(D.bs f:Int))=true by simp[e],Ze]⟩
            · exact .inr ⟨e,by rw[show ((k:Int)==(D.bs f:Int))=false by simp;omega,Zf,Zm (by omega) (by omega),Za];rfl⟩) (by rw[Zj,dFq (by omega),Zf])
      refine Zr g3 ?_;rcases g4 with ⟨_,g4⟩ | ⟨r',hr',rfl,g4⟩
      · exact absurd hrk (g4 r hr)
      · have zC:=hC k hk;have hcf:∀ f,f<n→cfv m D k f = - D.a r' f:=λf hf=>by
          unfold cfv;rw[iN (g2 f hf),← g4,Z2a hr' λj hj hne=>iN λe=>hne (h.bi j r' hj hr' e),iP rfl];grind
        have hva:Z0 m D k=D.b r':=by rw[← g4];exact Zig h hr'
        refine Zr (Zu _ hr') ?_;refine Zr (Zpc zC (hb r' hr') (by omega) (by omega)) ?_;refine Zr (Zsf (vS k (by omega)) (ZDb zC (hb r' hr')) (by omega) (by omega)) ?_;refine Zr (Zhb _ hr') ?_;refine Zr (y:=vx n (Zvb m C D (k+1)).z) (Zra (λf=>((f:Int),vx n λf'=>if f'<f then (Zvb m C D (k+1)).z f' else (Zvb m C D k).z f')) n ?_ (by omega) (λf hf=>?_) ?_) ?_
        · exact Prod.ext rfl (ZH λf' _=>iN (by omega))
        · simp only;rw[Zj,dTq (by omega),Ze,Zu _ hf,Za,Zu _ hf,Za,iN (by omega)];rw[show (Zvb m C D k).a r' f=D.a r' f from rfl,Zpc zC (ha r' f hr' hf) (by omega) (by omega),Za,Zpf (zS k f (by omega) hf) (ZDb zC (ha r' f hr' hf)) (by omega) (by omega),Za,Za,Zm (by omega) (by omega),Za];simp only[tN];rw[ZMa];refine congrArg (λx=>some (Sum.inl x)) (Prod.ext (by simp) (ZH λf' hf'=>?_));by_cases e2:f'=f
          · rw[iP e2,iP (by omega),e2];show _=(Zvb m C D k).z f+C k*cfv m D k f;rw[hcf f hf];grind
          · rw[iN e2];by_cases e3:f'<f
            · rw[iP e3,iP (by omega)]
            · rw[iN e3,iN (by omega)]
        · simp only;rw[Zj,dFq (by omega),Zf];exact congrArg (λx=>some (Sum.inr x)) (ZH λf' hf'=>iP hf')
        refine congrArg some (Prod.ext rfl (Prod.ext rfl (Prod.ext rfl (Prod.ext ?_ rfl))));show (Zvb m C D k).v+C k*D.b r'=(Zvb m C D k).v+C k*Z0 m D k;rw[hva]
    · rw[dTq (show (0:Int)≤(f:Int) by omega),Ze];have hcf:∀ f',f'<n→cfv m D k f'=if f'=f then 1 else 0:=λf' hf'=>by
        unfold cfv;rw[Zea (f:=λi=>if D.bs i=k then D.a i f' else 0) λi hi=>iN (by rw[← g2];exact h.d i f hi hf)];by_cases e:f'=f
        · rw[e,iP g2,iP rfl];grind
        · rw[iN λe2=>e (h.fi f' f hf' hf (e2.trans g2.symm)),iN e];grind
      have hva:Z0 m D k=0:=by rw[← g2];exact Z7d h hf
      refine Zr (Zu _ hf) ?_;refine Zr (Zsf (zS k f (by omega) hf) (hC k hk) (by omega) (by omega)) ?_;refine Zr (Zu _ hf) ?_;simp only[tN];refine congrArg some (Prod.ext rfl (Prod.ext rfl (Prod.ext ?_ (Prod.ext ?_ rfl))))
      · show (vx n (Zvb m C D k).z).set f ((Zvb m C D k).z f+C k)=vx n (Zvb m C D (k+1)).z;rw[ZMa];refine ZH λf' hf'=>?_;show _=(Zvb m C D k).z f'+C k*cfv m D k f';rw[hcf f' hf'];by_cases e:f'=f
        · rw[iP e,iP e,e];grind
        · rw[iN e,iN e];grind
      · show (Zvb m C D k).v=(Zvb m C D k).v+C k*Z0 m D k;rw[hva];grind
  · show ifb (decide ((n:Int)<((vx n C).length:Int))) _ _=_;rw[Zj,dFq (by omega),Zf]
end Go.Eng
namespace Go.Eng
open Tb
variable {m n:Nat} {A:Mx} {B C:Nat→Rat} {T:Tb}
theorem st1_cd {K:Nat} (h:(st0 n A B C).cd K m n):(st1 m n A B).cd K m (n+1):=by
 obtain⟨D,h0,h1,h2⟩:=h;have z0:ovr D K 0:=⟨0,by rw[Rat.div_def];exact (Rat.zero_mul _).symm,Nat.two_pow_pos K⟩;have hD':(D:Rat)≠0:=λe=>h0 (Rat.intCast_inj.1 (by rw[e];rfl));have n1:ovr D K (-1):=⟨-D,by rw[Rat.intCast_neg];grind,by rwa [Int.natAbs_neg]⟩;refine⟨D,h0,h1,λi k hi hk=>?_,h2.b,λk hk=>?_,z0⟩
 ·show ovr D K (if k<n then A i k else -1);split
  ·rename_i hlt;exact h2.a i k hi hlt
  ·exact n1
 ·show ovr D K (if k<n then 0 else -1);split
  ·exact z0
  ·exact n1
theorem zz_sz {W n' N:Nat} (h:T.arr m n' N) (hz:∀ k,k<n'→sz W (T.z k)) (hW:1≤W) (u:Nat):sz W (zz n' T.z T.fr u):=by
 by_cases hx:∃ k,k<n'∧T.fr k=u
 ·obtain⟨k,hk,rfl⟩:=hx;unfold zz;rw[Z2a hk λj hj hne=>iN λe=>hne (h.fi j k hj hk e),iP rfl];exact hz k hk
 ·unfold zz;rw[Zea λk hk=>iN λe=>hx ⟨k,hk,e⟩];exact ZDd.mono hW
theorem Zcx {w:Nat} (hw:w<m) (hb:B w<0) (hl:∀ i,i<m→B i<0→B w≤B i):((st1 m n A B).piv w n).fea m:=by
 have ea:∀ i,(st1 m n A B).a i n = -1:=λi=>iN (by omega);intro i hi;show 0≤if i=w then B w*(1 / (st1 m n A B).a w n) else B i-(st1 m n A B).a i n*(B w*(1 / (st1 m n A B).a w n));rw[ea,ea];have e1:B w*(1 / (-1:Rat)) = - B w:=by grind
 split
 ·rw[e1];grind
 ·rw[e1];by_cases h:B i<0
  ·have:=hl i hi h;grind
  ·grind
set_option maxRecDepth 100000 in
theorem Zax {K R:Nat} (hr:m≤R∨n+1≤R) {P:(List (List Rat))×(List Rat)×(List Rat)} (hP:P=(mx m n A,vx m B,vx n C)) (c0:(st0 n A B C).cd K m n) (hK1:1≤K) (hm:m≤100) (hn:n≤100) (hN:n+m+1≤60) (hS:(n+1)*(K+kk K R+2)≤137438953472) :
    ∃ z,ZXk (tbl m n (st0 n A B C)) P=some z∧((∃ T4,z=(tbl m n T4,[],true)∧T4.arr m n (n+m)∧T4.eqv (st0 n A B C) m n∧T4.fea m) ∨ ∃ t y,z=(t,vx m y,false)∧Farkas m n A B y∧∀ i,i<m→sz (kk K R) (y i)):=by
  subst hP;have hKW:K+kk K R+2≤137438953472:=Nat.le_trans (Nat.le_mul_of_pos_left _ (by omega)) hS;have hWk:1≤kk K R:=Zcm hK1;have c1:(st1 m n A B).cd K m (n+1):=st1_cd c0;have s0:=c0.sz;have s1:=c1.sz;have e1:(n:Int)+(m:Int)=((n+m:Nat):Int):=by omega
  unfold ZXk;refine ZQ (y:=((n+m:Nat):Int)) (by simp only[Zj];rw[e1,Zm (by omega) (by omega)]) ?_;obtain⟨e,g1,g2⟩:=Z3z (m:=m) (B:=B) (K:=K) s0.b (by omega) (by omega);refine ZQ g1 ?_;rcases g2 with ⟨rfl,g2⟩ | ⟨w,rfl,hw,hb,hl⟩
  · rw[show (decide ((-1:Int)<0))=true from rfl,Ze];exact⟨_,rfl,.inl ⟨st0 n A B C,rfl,Zbm,eqv.refl,λi hi=>Rat.not_lt.1 (g2 i hi)⟩⟩
  · rw[dFq (show ¬ (w:Int)<0 by omega),Zf];refine ZQ (ZHz (A:=A) (B:=B) (by omega) (by omega)) ?_;refine ZQ (y:=()) (Zma (by show (vx n _++[_]).length*8≤_;rw[lA,Zj,List.length_singleton];omega)) ?_;refine ZQ (ZEc 0) ?_;refine ZQ (y:=vx n λ_=>(0:Rat)) (by simp only[Zj];exact Zki (by omega)) ?_;refine ZQ (ZEc (-1)) ?_;have ez:(vx n λ_=>(0:Rat))++[((-1:Int):Rat)]=vx (n+1) (st1 m n A B).z:=by
      rw[← ZCb];refine congr (congrArg _ (ZH λk hk=>?_)) (congrArg (λx=>[x]) ?_)
      · show (0:Rat)=if k<n then 0 else -1;rw[iP hk]
      · show _=if n<n then (0:Rat) else -1;rw[iN (by omega)];rfl
    have ef:(vx n λk=>(k:Int))++[((n+m:Nat):Int)]=vx (n+1) λk=>((st1 m n A B).fr k:Int):=by
      rw[← ZCb];refine congr (congrArg _ (ZH λk hk=>?_)) (congrArg (λx=>[x]) ?_)
      · show (k:Int)=((if k<n then k else n+m:Nat):Int);rw[iP hk]
      · show _=((if n<n then n else n+m:Nat):Int);rw[iN (by omega)]
    rw[ez];refine ZQ (y:=()) (Zma (by rw[Zj];omega)) ?_;have et:(mx m (n+1) (st1 m n A B).a,(tbl m n (st0 n A B C)).2.1,vx (n+1) (st1 m n A B).z,(tbl m n (st0 n A B C)).2.2.2.1,(tbl m n (st0 n A B C)).2.2.2.2.1,(tbl m n (st0 n A B C)).2.2.2.2.2++[((n+m:Nat):Int)])=tbl m (n+1) (st1 m n A B):=Prod.ext rfl (Prod.ext rfl (Prod.ext rfl (Prod.ext rfl (Prod.ext rfl ef))));rw[et];have ne:(st1 m n A B).a w n≠0:=by
      show (if n<n then A w n else (-1:Rat))≠0;rw[iN (by omega)];decide
    refine ZQ (y:=(tbl m (n+1) ((st1 m n A B).piv w n),())) (by simp only[Zj];exact ZIm hw (by omega) ne s1 (by omega) (by omega) (by omega) hK1) ?_;have hE1:((st1 m n A B).piv w n).eqv (st1 m n A B) m (n+1):=ZWj hw (by omega) ne;have hA1:((st1 m n A B).piv w n).arr m (n+1) (n+m+1):=Ztj.piv hw (by omega);obtain⟨z,r1,T2,e,rfl,hA2,hE2,hF2,hend⟩:=ZWs hr (last:=((n+m:Nat):Int)) (lst:=n+m) Ztj c1 hE1 hA1 (Zcx hw hb hl) hN (by omega) (by omega) (by omega) hK1 (λu _=>by omega) (λT' a1 a2 ⟨c,a3⟩ j hj e=>p1_end a1 a2 hj e c a3.lt a3.pos);refine ZQ r1 ?_;have hz2:∀ k,k<n+1→¬ 0<T2.z k:=by
      rcases hend with ⟨_,h⟩ | ⟨c,_,h1,h2⟩
      · exact h
      · exact (Z7y hA2 hE2 hF2 h1 h2).elim
    have s2:=(ZVj hr Ztj c1 hA2 hE2).sz;refine ZQ (y:=T2.v.num.sign) rfl ?_;by_cases hv:T2.v<0
    · rw[dTq ((Zve _).2 hv),Ze];refine ZQ (y:=(tbl m (n+1) T2,vx m (Z9 n T2 (n+1)))) (by simp only[Zj];exact ZKy hA2 (by omega) (by omega) (by omega) (by omega)) ?_;exact⟨_,rfl,.inr ⟨_,_,rfl,ZIv hA2 hE2 hz2 hv,λi hi=>Z4d (zz_sz hA2 s2.z hWk _)⟩⟩
    · rw[dFq (λh=>hv ((Zve _).1 h)),Zf];have hv0:Z0 m T2 (n+m)=0:=by
        have h1:=p1_v hA2 hE2;have h2:=Zrn (m:=m) hF2 (n+m);grind
      obtain⟨e3,g3,g4⟩:=ZPg (body:=λs63 =>
          ifb (decide (s63<((vx m λf=>(T2.bs f:Int)).length:Int)))
          (bnd (idx (vx m λf=>(T2.bs f:Int)) s63) λy64 =>
           ifb (((n+m:Nat):Int)==y64)
           (some (.inr (.inr s63)))
           (bnd (chk .i64 (s63+(1:Int))) λy65 =>
            some (.inl y65)))
          (some (.inr (.inl ())))) m (by omega) (λf=>T2.bs f=n+m) (λf hf=>by
            rw[Zj,dTq (by omega),Ze,Zu _ hf,Za];by_cases e:T2.bs f=n+m
            · exact .inl ⟨e,by rw[show (((n+m:Nat):Int)==(T2.bs f:Int))=true by rw[beq_iff_eq];omega,Ze]⟩
            · exact .inr ⟨e,by rw[show (((n+m:Nat):Int)==(T2.bs f:Int))=false by rw[beq_eq_false_iff_ne];omega,Zf,Zm (by omega) (by omega),Za];rfl⟩) (by rw[Zj,dFq (by omega),Zf])
      refine ZQ g3 ?_;refine ZZr (Q:=λt=>∃ T3:Tb,t=tbl m (n+1) T3∧T3.arr m (n+1) (n+m+1)∧T3.eqv (st1 m n A B) m (n+1)∧T3.fea m∧∀ i,i<m→T3.bs i≠n+m) ?_ (λt ht=>?_)
      · rcases g4 with ⟨rfl,g4⟩ | ⟨r,hr,rfl,g4⟩
        · rw[show (decide ((0:Int)≤-1))=false from rfl,Zf];exact⟨_,rfl,T2,rfl,hA2,hE2,hF2,g4⟩
        · rw[dTq (show (0:Int)≤(r:Int) by omega),Ze];refine ZQ (Zhb _ hr) ?_;obtain⟨e5,g5,g6⟩:=ZPg (body:=λs32 =>
        ifb (decide (s32<((vx (n+1) (T2.a r)).length:Int)))
        (bnd (idx (vx (n+1) (T2.a r)) s32) λy33 =>
         bnd (Z5d y33) λy34 =>
         ifb (!y34)
         (some (.inr (.inr s32)))
         (bnd (chk .i64 (s32+(1:Int))) λy35 =>
          some (.inl y35)))
        (some (.inr (.inl ())))) (n+1) (by omega) (λk=>T2.a r k≠0) (λk hk=>by
            rw[Zj,dTq (by omega),Ze,Zu _ hk,Za];unfold Z5d;rw[Za];by_cases e:T2.a r k=0
            · exact .inr ⟨λh=>h e,by rw[dTq e];show ifb false _ _=_;rw[Zf,Zm (by omega) (by omega),Za];rfl⟩
            · exact .inl ⟨e,by rw[dFq e];show ifb true _ _=_;rw[Ze]⟩) (by rw[Zj,dFq (by omega),Zf])
          refine ZQ g5 ?_;rcases g6 with ⟨_,g6⟩ | ⟨k,hk,rfl,g6⟩
          · obtain⟨k,hk,h⟩:=p1_row hA2 hE2 hr g4;exact absurd h (g6 k hk)
          · refine ZQ (ZIm hr hk g6 s2 (by omega) (by omega) (by omega) hWk) ?_;have hbr:T2.b r=0:=by rw[← Zig hA2 hr,g4];exact hv0
            refine⟨_,rfl,T2.piv r k,rfl,hA2.piv hr hk,(ZWj hr hk g6).trans hE2,λi hi=>?_,λi hi=>?_⟩
            · show 0≤if i=r then T2.b r*(1 / T2.a r k) else T2.b i-T2.a i k*(T2.b r*(1 / T2.a r k));rw[hbr];have:=hF2 i hi;split <;> grind
            · rw[ZAd];split
              · rw[← g4];exact λe=>hA2.d r k hr hk e.symm
              · rename_i hne;exact λe=>hne (hA2.bi i r hi hr (e.trans g4.symm))
      · obtain⟨T3,rfl,hA3,hE3,hF3,hnb⟩:=ht;obtain⟨e7,g7,g8⟩:=ZPg (body:=λs63 =>
          ifb (decide (s63<((vx (n+1) λf=>(T3.fr f:Int)).length:Int)))
          (bnd (idx (vx (n+1) λf=>(T3.fr f:Int)) s63) λy64 =>
           ifb (((n+m:Nat):Int)==y64)
           (some (.inr (.inr s63)))
           (bnd (chk .i64 (s63+(1:Int))) λy65 =>
            some (.inl y65)))
          (some (.inr (.inl ())))) (n+1) (by omega) (λf=>T3.fr f=n+m) (λf hf=>by
            rw[Zj,dTq (by omega),Ze,Zu _ hf,Za];by_cases e:T3.fr f=n+m
            · exact .inl ⟨e,by rw[show (((n+m:Nat):Int)==(T3.fr f:Int))=true by rw[beq_iff_eq];omega,Ze]⟩
            · exact .inr ⟨e,by rw[show (((n+m:Nat):Int)==(T3.fr f:Int))=false by rw[beq_eq_false_iff_ne];omega,Zf,Zm (by omega) (by omega),Za];rfl⟩) (by rw[Zj,dFq (by omega),Zf])
        refine ZQ g7 ?_;rcases g8 with ⟨_,g8⟩ | ⟨c,hc,rfl,g8⟩
        · rcases hA3.cov (n+m) (by omega) with ⟨i,hi,e⟩ | ⟨k,hk,e⟩
          · exact absurd e (hnb i hi)
          · exact absurd e (g8 k hk)
        · refine ZQ (y:=((c+1:Nat):Int)) (Zm (by omega) (by omega)) ?_;refine ZQ (Zgs _ hc) ?_;refine ZQ (Z0y (by omega) (by omega) hc) ?_;refine ZQ (ZEc 0) ?_;refine ZQ (y:=vx n λ_=>(0:Rat)) (by rw[Zj];exact Zki (by omega)) ?_;refine ZQ (ZEc 0) ?_;have s3:=(ZVj hr Ztj c1 hA3 hE3).sz;have hA4:=ZGu (C:=C) hA3 hc g8;have hE4:=Zyw (C:=C) hA3 hE3 hc g8;refine ZQ (objs_ok (D:={ a:=λi k=>T3.a i (sk c k),b:=T3.b,z:=λ_=>0,v:=0,bs:=T3.bs,fr:=λk=>T3.fr (sk c k) }) (C:=C) (K:=K) (W:=kk K R) ⟨hA4.bl,hA4.fl,hA4.bi,hA4.fi,hA4.d,hA4.cov⟩ (λi k hi hk=>s3.a i _ hi (ZPf hk)) s3.b s0.z hWk hK1 (by omega) (by omega) hS) ?_;exact⟨_,rfl,.inl ⟨drop m n C T3 c,rfl,hA4,hE4,hF3⟩⟩
noncomputable def Z4j (m:List (List Rat)):Option (List (List Rat)) :=
 bnd (mk 24 (m.length:Int) (m.length:Int)) λ_ =>
 bnd (Zg (σ:=Int×(List (List Rat))) (ρ:=List (List Rat)) (λa =>
 ifb (decide (a.1<(m.length:Int)))
 (bnd (idx m a.1) λb =>
 bnd (Zkc 56 b) λc =>
 bnd (idx a.2 a.1) λf =>
 bnd (chk .i64 (a.1+(1:Int))) λd =>
 some (.inl (d,a.2.set a.1.toNat c)))
 (some (.inr a.2)))
  Zi ((0:Int),List.replicate (m.length:Int).toNat ([]:List Rat))) λe =>
 some e
noncomputable def Z0i (p:(List (List Rat))×(List Rat)×(List Rat)):Option (Int×Rat×(List Rat)×(List Rat)×(List Rat)) :=
 bnd (Z4j p.1) λn =>
 bnd (Zkc 56 p.2.1) λo =>
 bnd (Zkc 56 p.2.2) λq =>
 bnd (ZTb (0:Int)) λr =>
 bnd (Zg (σ:=Int×((List (List Rat))×(List Rat)×(List Rat)×Rat×(List Int)×(List Int))) (ρ:=(List (List Rat))×(List Rat)×(List Rat)×Rat×(List Int)×(List Int)) (λa =>
 ifb (decide (a.1<(p.2.2.length:Int)))
 (bnd (Zw 8 (a.2.2.2.2.2.2++[a.1])) λ_ =>
 bnd (chk .i64 (a.1+(1:Int))) λs =>
 some (.inl (s,a.2.1,a.2.2.1,a.2.2.2.1,a.2.2.2.2.1,a.2.2.2.2.2.1,a.2.2.2.2.2.2++[a.1])))
 (some (.inr (a.2.1,a.2.2.1,a.2.2.2.1,a.2.2.2.2.1,a.2.2.2.2.2.1,a.2.2.2.2.2.2))))
  Zi ((0:Int),n,o,q,r,([]:List Int),([]:List Int))) λg =>
 bnd (Zg (σ:=Int×((List (List Rat))×(List Rat)×(List Rat)×Rat×(List Int)×(List Int))) (ρ:=(List (List Rat))×(List Rat)×(List Rat)×Rat×(List Int)×(List Int)) (λb =>
 ifb (decide (b.1<(p.2.1.length:Int)))
 (bnd (chk .i64 ((p.2.2.length:Int)+b.1)) λl =>
 bnd (Zw 8 (b.2.2.2.2.2.1++[l])) λ_ =>
 bnd (chk .i64 (b.1+(1:Int))) λt =>
 some (.inl (t,b.2.1,b.2.2.1,b.2.2.2.1,b.2.2.2.2.1,b.2.2.2.2.2.1++[l],b.2.2.2.2.2.2)))
 (some (.inr (b.2.1,b.2.2.1,b.2.2.2.1,b.2.2.2.2.1,b.2.2.2.2.2.1,b.2.2.2.2.2.2))))
  Zi ((0:Int),g.1,g.2.1,g.2.2.1,g.2.2.2.1,g.2.2.2.2.1,g.2.2.2.2.2)) λh =>
 bnd (ZTb (0:Int)) λm =>
 bnd (ZXk (h.1,h.2.1,h.2.2.1,h.2.2.2.1,h.2.2.2.2.1,h.2.2.2.2.2) p) λd =>
 ifb (!d.2.2)
 (some ((2:Int),m,([]:List Rat),d.2.1,([]:List Rat)))
 (bnd (α:=((List (List Rat))×(List Rat)×(List Rat)×Rat×(List Int)×(List Int))×Int)
 (bnd (ZMi (d.1.1,d.1.2.1,d.1.2.2.1,d.1.2.2.2.1,d.1.2.2.2.2.1,d.1.2.2.2.2.2) (-1:Int)) λf =>
 some ((f.1.1,f.1.2.1,f.1.2.2.1,f.1.2.2.2.1,f.1.2.2.2.2.1,f.1.2.2.2.2.2),f.2)) λc =>
 ifb (decide (c.2<(0:Int)))
 (bnd (Zfi c.1 (p.2.2.length:Int)) λu =>
 bnd (Z8k c.1 (p.2.2.length:Int) (p.2.1.length:Int)) λv =>
 some ((1:Int),c.1.2.2.2.1,u,v,([]:List Rat)))
 (bnd (ZTb (0:Int)) λw =>
 bnd (Zwd 56 [w] (p.2.2.length:Int)) λi =>
 bnd (idx c.1.2.2.2.2.2 c.2) λj =>
 bnd (α:=List Rat)
 (ifb (decide (j<(p.2.2.length:Int)))
 (bnd (ZTb (1:Int)) λx =>
 bnd (idx i j) λG =>
 some (i.set j.toNat x))
 (some i)) λy =>
 bnd (Zg (σ:=Int×(List Rat)) (ρ:=List Rat) (λe =>
 ifb (decide (e.1<(c.1.2.2.2.2.1.length:Int)))
 (bnd (idx c.1.2.2.2.2.1 e.1) λk =>
 bnd (α:=List Rat)
 (ifb (decide (k<(p.2.2.length:Int)))
 (bnd (idx c.1.1 e.1) λz =>
 bnd (idx z c.2) λA =>
 bnd (Z9a A) λB =>
 bnd (idx e.2 k) λH =>
 some (e.2.set k.toNat B))
 (some e.2)) λC =>
 bnd (chk .i64 (e.1+(1:Int))) λD =>
 some (.inl (D,C)))
 (some (.inr e.2)))
    Zi ((0:Int),y)) λE =>
 bnd (Zfi c.1 (p.2.2.length:Int)) λF =>
 some ((3:Int),m,F,([]:List Rat),E)))
end Go.Eng
