/- Lemmas towards the statement: the engine of the walks, the functions' models, laws and walks, part 4. Conditions: as each states. -/
import Derived.Laws.CopyRow
import Derived.Lib.AppendZerosOnto
import Derived.Lib.Overlaps
import Derived.Scope
import Derived.Test.YtinpjekdhmadcaaGreatDoorPsC
set_option linter.all false
set_option maxRecDepth 100000
namespace Go.Eng
open Go.RowKit
theorem St.bare {K:Nat} {w0:Base} {v0:Zb} {σ:List (Nat×Value)} {ℓ:List Loc} {v:Zb} {a:Act} {w:World} (h:St K w0 v0 σ ℓ v a w):St K w0 v0 [] ℓ v a w:=h.frame Z1v
theorem ZXh {v:Zb} {γ:Nat→Gh} {l:Lo} {x:V} {cs:List Value} (h:RR v γ l false x cs) (hf:x.fit=true):cellsOf (x.val cs) cs∧cs.all plain=true:=by
 unfold V.fit at hf;have hp:x.plain=true:=by
  cases hp:x.plain
  ·rw[hp]at hf;cases hf
  ·rfl
 have hpl:=ZUv hp h;refine⟨?_,hpl⟩;rw[hp]at hf;unfold V.val
 cases ha:x.isAgg with
 | true=>exact ZZl cs
 | false =>
  rw[ha]at hf;have hs:=eQ hf;have e:=ZPf h hs ha;have hv:x.val cs=cs.headD undef:=by unfold V.val;rw[ha]
  rw[hv]at e;rw[e]at hpl;have hpl':plain (cs.headD undef)=true:=by simpa using hpl
  have:=Z0c hpl';show cellsOf (cs.headD undef) cs
  conv=>arg 2;rw[e]
  exact this
theorem Zri {x:V} (hf:x.fit=true):∀ c,x ≠ .tup c:=λc e=>by subst e;cases hf
section
variable {P:Program} {N:Nat} {G:V→Value→Prop} {w0:Base} {v0:Zb} {U X:Nat→Prop} {f:Fr} {l:Lo} {a:Act} {w:World} {γ:Nat→Gh} {v:Zb} {ℓ:List Loc} {n:Nat}
variable {ty:TypeId} {pos:String} {aft:Array Edge} {g:Option (Nat×Bool)}
theorem Zsd {o:Oper} {l':Lo} {w':World} {γ':Nat→Gh} {v':Zb} {ℓ':List Loc} {Post:Unit→Fr→Lo→Prop} (hr:RelX N G w0 v0 U X f l' a w' γ' v' ℓ') (hU:∀ k,U k→X k) (ho:o.dst=none) (hrun:(execOp a.eval o).run P w = .ok .skip w') (h:Post () f l'):Z8 P N G w0 v0 X o a w Post:=by
 refine ZGl hrun ?_;rw[ho];exact⟨_,_,h,_,_,_,hr.mono hU λ_ h=>h⟩
theorem Zcm {cs0 cs:List Value} {off:Nat} (h0:cs0.all plain=true) (h1:cs.all plain=true):(cs0.take off++cs++cs0.drop (off+cs.length)).all plain=true:=by
 have h0':=List.all_eq_true.1 h0;refine List.all_eq_true.2 λx hx=>?_;rcases List.mem_append.1 hx with hx | hx
 ·rcases List.mem_append.1 hx with hx | hx
  ·exact h0' x (List.mem_of_mem_take hx)
  ·exact List.all_eq_true.1 h1 x hx
 ·exact h0' x (List.mem_of_mem_drop hx)
theorem Zzm {t:T} {x:t.den} {z x':V} {off:Nat} {cs cz:List Value} (hg:ZSa FU (.data t x) off z=some x') (hx:t.rep.rel v cs x) (hz:RR v γ l false z cz) (hkz:z.ok U) :
  RR v γ l false x' (cs.take off++cz++cs.drop (off+cz.length))∧x'.ok U∧off+cz.length≤t.n:=by
 obtain⟨h1,h2,h3,_⟩:=ZSd FU hg (γ:=γ) (l:=l) (x:=.data t x) hx hz trivial hkz;refine⟨h1,h2,?_⟩;have:=Rep.len _ hx;rw[ZH]at this;omega
theorem ZOq {t:T}:∀ {rows:List (Option Nat×Nat)} {m:List (List t.den)} {es:List Loc} {i:Nat} {p:Option Nat×Nat} {r:List t.den},Zka v ty t rows m es→rows[i]? = some p→m[i]? = some r →
  ∃ cs e1 e2,es=e1 ++ .own p.1 ty t.n r.length p.2 cs :: e2∧t.rep.rels v cs r∧∀ (r':List t.den) (cs':List Value),r'.length=r.length→t.rep.rels v cs' r'→Zt rows (m.set i r')=Zt rows m∧Zka v ty t rows (m.set i r') (e1 ++ .own p.1 ty t.n r.length p.2 cs' :: e2)
 | [],[],_,_,_,_,_,h,_=>by simp at h
 | q :: ps,r0 :: rs,es,0,p,r,⟨cs,es',h1,h2,h3⟩,hp,hr=>by
  simp at hp hr
  subst hp hr
  refine⟨cs,[],es',by simpa using h2,h1,λr' cs' hl hc=>⟨by simp[Zt,hl],?_⟩⟩
  exact⟨cs',es',hc,by rw[← hl];rfl,h3⟩
 | q :: ps,r0 :: rs,es,i+1,p,r,⟨cs,es',h1,h2,h3⟩,hp,hr=>by
  simp only[List.getElem?_cons_succ]at hp hr
  obtain⟨c2,e1,e2,k2,k3,k4⟩:=ZOq h3 hp hr
  subst k2
  refine⟨c2,.own q.1 ty t.n r0.length q.2 cs :: e1,e2,by simpa using h2,k3,λr' cs' hl hc=>?_⟩
  obtain⟨k5,k6⟩:=k4 r' cs' hl hc
  exact⟨by simp only[List.set_cons_succ,Zt,k5],cs,_,h1,rfl,k6⟩
 | [],_ :: _,_,_,_,_,k,_,_=>k.elim
 | _ :: _,[],_,_,_,_,k,_,_=>k.elim
theorem Zwn {t:T} {p:Option Nat×Nat} {r':List t.den} {cs':List Value}:∀ {rows:List (Option Nat×Nat)} {m:List (List t.den)} {es:List Loc} {i:Nat} {p0:Option Nat×Nat},Zka v ty t rows m es→rows[i]? = some p0→t.rep.rels v cs' r' →
  (Zt rows m).take i++[Value.slice (mkA p.1) r'.length p.2]++(Zt rows m).drop (i+1)=Zt (rows.set i p) (m.set i r')∧∃ e1 e2 c,es=e1++c :: e2∧Zka v ty t (rows.set i p) (m.set i r') (e1 ++ .own p.1 ty t.n r'.length p.2 cs' :: e2)
 | [],[],_,_,_,_,h,_=>by simp at h
 | q :: ps,r0 :: rs,es,0,p0,⟨cs,es',h1,h2,h3⟩,hp,hc=>by
  refine⟨by simp[Zt],[],es',_,by simpa using h2,?_⟩
  exact⟨cs',es',hc,rfl,h3⟩
 | q :: ps,r0 :: rs,es,i+1,p0,⟨cs,es',h1,h2,h3⟩,hp,hc=>by
  simp only[List.getElem?_cons_succ]at hp
  obtain⟨k1,e1,e2,c,k2,k3⟩:=Zwn (p:=p) h3 hp hc
  subst k2
  refine⟨by simp only[List.set_cons_succ,Zt,List.take_succ_cons,List.drop_succ_cons,List.cons_append,k1],.own q.1 ty t.n r0.length q.2 cs :: e1,e2,c,by simpa using h2,?_⟩
  exact⟨cs,_,h1,rfl,k3⟩
 | [],_ :: _,_,_,_,k,_,_=>k.elim
 | _ :: _,[],_,_,_,k,_,_=>k.elim
theorem Zbw {α:Type} {m:List (List α)} {i:Nat} {r r':List α} (hr:m[i]? = some r) (hl:r'.length=r.length):(m.set i r').map List.length=m.map List.length:=by
 apply List.ext_getElem?;intro j;simp only[List.getElem?_map];by_cases h:i=j
 ·subst h;have hlt:=(List.getElem?_eq_some_iff.1 hr).1;rw[List.getElem?_set_self hlt,hr];simp[hl]
 ·rw[List.getElem?_set_ne h]
theorem ZEh:∀ (g:Nat) {x z x':V} {off:Nat},ZSa g x off z=some x'→x.ok U→z.ok U→x'.ok U
 | 0,_,_,_,_,h,_,_=>by cases h
 | g+1,x,z,x',off,h,hk,hkz=>by
  have whole:∀ {y:V},(match Nat.beq off 0,Nat.beq y.size z.size,eqB y.isAgg z.isAgg with
    | true,true,true=>some z
    | _,_,_=>match y with
     | .agg c=>match ZSa g c off z with
      | some c'=>some (.agg c')
      | none=>none
     | .data t x=>match ZOb t x with
      | some c=>match ZSa g c off z with
       | some c'=>some (.agg c')
       | none=>none
      | none=>none
     | _=>none)=some x'→y.ok U→x'.ok U:=by
   intro y hy hk;split at hy
   ·cases hy;exact hkz
   ·split at hy
    ·split at hy
     ·rename_i c' he;cases hy;exact (show V.ok U c' from ZEh g he hk hkz)
     ·cases hy
    ·split at hy
     ·rename_i c hc;split at hy
      ·rename_i c' he;cases hy;exact (show V.ok U c' from ZEh g he (Zts hc) hkz)
      ·cases hy
     ·cases hy
    ·cases hy
  cases x with
  | nl=>simp only[ZSa]at h;cases h
  | cons a b =>
   simp only[ZSa]at h;split at h
   ·split at h
    ·rename_i he;cases h;exact⟨ZEh g he hk.1 hkz,hk.2⟩
    ·cases h
   ·split at h
    ·split at h
     ·rename_i he;cases h;exact⟨hk.1,ZEh g he hk.2 hkz⟩
     ·cases h
    ·cases h
  | data t x=>exact whole (y:=.data t x) h hk
  | agg c=>exact whole (y:=.agg c) h hk
  | nilS=>exact whole (y:=.nilS) h hk
  | own u=>exact whole (y:=.own u) h hk
  | row u i hv cv t r=>exact whole (y:=.row u i hv cv t r) h hk
  | ptr u o=>exact whole (y:=.ptr u o) h hk
  | el u i cv t x o=>exact whole (y:=.el u i cv t x o) h hk
  | rp u i hv cv t r=>exact whole (y:=.rp u i hv cv t r) h hk
  | rel u i j hv cv t r x o=>exact whole (y:=.rel u i j hv cv t r x o) h hk
  | vp t x o=>exact whole (y:=.vp t x o) h hk
  | tup c=>exact whole (y:=.tup c) h hk
  | fn f c=>exact whole (y:=.fn f c) h hk
  | ifc f c=>exact whole (y:=.ifc f c) h hk
  | undef=>exact whole (y:=.undef) h hk
theorem ZSj {b off:Nat} {c c':List Value} (h:WAt w b off c) (h':WAt w b off c') (hl:c.length=c'.length):c=c':=by
 obtain⟨x,T,fr,h1,h2⟩:=h;obtain⟨x',T',fr',h3,h4⟩:=h';rw[h1]at h3;cases h3;rw[← h2,← h4,hl]
theorem Zso (hr:RelX N G w0 v0 U X f l a w γ v ℓ) {u k st:Nat} {ty0:TypeId} {t:T} {xs:List t.den} {fz:Bool} (he:lkE l u=some ⟨k,st,.own ty0 t xs fz⟩) {b cap i:Nat} {x:t.den} (hγ:γ u = .own (some b) cap) (hx:xs[i]? = some x):∃ c,t.rep.rel v c x∧WAt w b (0+i*t.n) c:=by
 obtain⟨hkk,es,hes,hmem⟩:=hr.loc he;have hkk:k=u:=hkk;subst hkk
 cases fz with
 | false =>
  obtain⟨ob,cap',cs,q1,q2,rfl⟩:=hes;have q1:γ k = .own ob cap':=q1;rw[hγ]at q1;cases q1;obtain⟨j,hj⟩:=hmem _ (List.mem_singleton.2 rfl);have hrel:=ZGa q2 hx;rw[ZH]at hrel;have hl:=Rep.len _ hrel;rw[ZH]at hl;refine⟨_,hrel,?_⟩;have:=Zqd hr.st hj rfl (List.getElem?_eq_some_iff.1 hx).1 0 ((cs.drop (i*t.n)).take t.n) (by rw[hl,List.drop_zero,List.take_take,Nat.min_self]) (by omega)
  simpa using this
 | true =>
  obtain⟨ob,cap',q1,q2,_⟩:=hes;have q1:γ k = .own ob cap':=q1;rw[hγ]at q1;cases q1;obtain⟨_,b2,o2,cs2,e2,h2,h3⟩:=Zbc q2 hx
  cases e2
  rw[ZH]at h2;exact⟨cs2,h3,hr.st.view h2⟩
theorem ZUr (hr:RelX N G w0 v0 U X f l a w γ v ℓ) {u k st hv:Nat} {ty0 ty2:TypeId} {t:T} {m:List (List t.den)} (he:lkE l u=some ⟨k,st,.mat ty0 ty2 t m hv⟩) {ob:Option Nat} {cap i j bi capi:Nat} {rows:List (Option Nat×Nat)} {r:List t.den} {x:t.den}
  (hγ:γ u = .mat ob cap rows) (hrow:rows[i]? = some (some bi,capi)) (hm:m[i]? = some r) (hx:r[j]? = some x):∃ c,t.rep.rel v c x∧WAt w bi (0+j*t.n) c:=by
 obtain⟨hkk,es,hes,hmem⟩:=hr.loc he;have hkk:k=u:=hkk;subst hkk;obtain⟨ob',cap',rows',es2,q1,q2,rfl⟩:=hes;have q1:γ k = .mat ob' cap' rows':=q1;rw[hγ]at q1;cases q1;obtain⟨p',cs,r1,r2,r3⟩:=Zte q2 hm;rw[hrow]at r1;cases r1;obtain⟨jj,hj⟩:=hmem _ (List.mem_cons_of_mem _ r3);have hrel:=ZGa r2 hx;rw[ZH]at hrel;have hl:=Rep.len _ hrel;rw[ZH]at hl;refine⟨_,hrel,?_⟩;have:=Zqd hr.st hj rfl (List.getElem?_eq_some_iff.1 hx).1 0 ((cs.drop (j*t.n)).take t.n) (by rw[hl,List.drop_zero,List.take_take,Nat.min_self]) (by omega)
 simpa using this
theorem stE_ok (hr:RelX N G w0 v0 U X f l a w γ v ℓ) (hU:∀ k,U k→X k) (hX:X n) (hn:¬ U n) {t:TypeId} {x y:Operand} {o:Oper} {p q:V} {Post:Unit→Fr→Lo→Prop} (ho:o=⟨none,.store t x y,ty,pos,aft,g⟩) (hp:RV v γ l p (a.eval x)) (hq:RV v γ l q (a.eval y)) (hk:p.ok U) (hkq:q.ok U)
  (h:Zj n (stE P n t p q) f l Post):Z8 P N G w0 v0 X o a w Post:=by
 unfold stE at h;split at h
 ·exact h.elim
 ·rename_i sz hsz;split at h
  ·rename_i b1 b2 b3;have b1:=eQ b1;have b2:=ZWi b2;obtain⟨cs,hcs,hqe⟩:=Zcb hq (Zri b3);obtain⟨hcells,hpl⟩:=ZXh hcs b3;have hlen:cs.length=sz.1:=(ZOc hcs).trans b1;have hS:=ZPd hsz;split at h
   · -- a variable
    rename_i u off;obtain⟨en,he,h⟩:=h;obtain⟨yy,hy0,_,hy⟩:=Z6 hp (λ_ e=>by cases e) rfl rfl;have hy0:a.eval x=yy:=(List.cons.inj hy0).1;have hy:=hy en he;obtain⟨kk,st,L⟩:=en;obtain⟨hm,hkk⟩:=Zk he;have hkk:kk=u:=hkk;subst hkk
    cases L with
    | box ty0 c =>
     simp only at h;obtain⟨b',g4,rfl⟩:=hy;split at h
     ·rename_i c' hc';obtain⟨es,E',h1,h2,_,h3,_⟩:=hr.del he;obtain⟨b,cs0,g1,g2,g3,rfl⟩:=h1;have g1:γ kk = .box b:=g1;rw[g1]at g4;cases g4;have hcok:c.ok U:=(hr.ul _ hm).2.2;obtain⟨k1,k2,k3,_⟩:=ZSd FU hc' g2 hcs hcok hkq;rw[hlen]at k3;have hs:=hr.st.perm h3;obtain⟨σ,hσ,e1,e2⟩:=hs.ev2 x y;rw[hy0]at e1;rw[hqe]at e2;obtain⟨w',hrun,hst⟩:=Z8h (P:=P) hσ hS hcells hlen (i:=0) rfl (by omega) hpl;have hle:Le U v γ l v γ (⟨kk,n,.box ty0 c'⟩ :: era l kk):=Le.upd hr he (Zb.le_refl _) (λ_ _=>rfl) rfl;subst ho;refine Zsd (hr.upd hX (hr.ul _ hm).1 h2 hst.bare hle (λ_ _=>rfl) ⟨_,_,g1,Zsa hle k2 k1,Zcm g3 hpl,rfl⟩ (List.Perm.refl _) k2) hU rfl (hrun e1 e2) h
     ·exact h.elim
    | own _ _ _ _=>exact h.elim
    | mid _ _ _ _ _ _=>exact h.elim
    | mp _=>exact h.elim
    | it _ _=>exact h.elim
    | lst ty0 s xs c =>
     simp only at h;obtain⟨b',cap',g4,rfl⟩:=hy;split at h
     ·rename_i c' hc';obtain⟨es,E',h1,h2,_,h3,_⟩:=hr.del he;obtain⟨b,cap,cs0,cl,g1,g2,g3,g5,g6,rfl⟩:=h1;have g1:γ kk = .own (some b) cap:=g1;rw[g1]at g4;cases g4;have hcok:c.ok U:=(hr.ul _ hm).2.2;obtain⟨k1,k2,k3,_⟩:=ZSd FU hc' g3 hcs hcok hkq;rw[hlen]at k3;have hs:=hr.st.perm h3;obtain⟨σ,hσ,e1,e2⟩:=hs.ev2 x y;rw[hy0]at e1;rw[hqe]at e2;have hl0:=Z3a g2;rw[ZH]at hl0;obtain⟨w',hrun,hst⟩:=ZXc (P:=P) (off:=xs.length*s.n+off) hσ hS hcells hlen (i:=0) rfl (by rw[lA];omega) hpl;have e3:(cs0++cl).take (xs.length*s.n+off)++cs++(cs0++cl).drop (xs.length*s.n+off+cs.length)=cs0++(cl.take off++cs++cl.drop (off+cs.length)):=by
       rw[← hl0,Nat.add_assoc,List.take_append,List.drop_append,List.take_of_length_le (by omega),List.drop_of_length_le (by omega),Nat.add_sub_cancel_left,Nat.add_sub_cancel_left];simp
      rw[e3]at hst;have hle:Le U v γ l v γ (⟨kk,n,.lst ty0 s xs c'⟩ :: era l kk):=Le.upd hr he (Zb.le_refl _) (λ_ _=>rfl) ⟨rfl,rfl,rfl⟩;subst ho;refine Zsd (hr.upd hX (hr.ul _ hm).1 h2 hst.bare hle (λ_ _=>rfl) ⟨_,_,cs0,_,g1,g2,Zsa hle k2 k1,Zcm g5 hpl,by simp;omega,rfl⟩ (List.Perm.refl _) k2) hU rfl (hrun e1 e2) h
     ·exact h.elim
    | mat _ _ _ _ _=>exact h.elim
   · -- an element
    rename_i u i cv s x0 off;split at h
    ·rename_i z hz;obtain⟨yy,hy0,_,⟨c0,hc0⟩,hy⟩:=Z6 hp (λ_ e=>by cases e) rfl rfl;have hy0:a.eval x=yy:=(List.cons.inj hy0).1;obtain⟨z1,z2,z3⟩:=Zzm hz hc0 hcs hkq;obtain⟨y1,l1,γ1,v1,ℓ1,h,r1,le1,q1⟩:=ZDc hn hX FU h hr z2;obtain⟨en,he,h⟩:=h;have hp1:=ZRa le1 hk hp;obtain⟨yy',hy0',_,_,hy⟩:=Z6 hp1 (λ_ e=>by cases e) rfl rfl;have hy0':a.eval x=yy':=(List.cons.inj hy0').1;have hy:=hy en he;obtain⟨kk,st,L⟩:=en;obtain⟨hm,hkk⟩:=Zk he;have hkk:kk=u:=hkk;subst hkk
     cases L with
     | own ty0 s' xs fz =>
      cases fz with
      | true=>exact h.elim
      | false =>
       simp only at h;obtain⟨b,cap,g1,rfl,g3,g4⟩:=hy;obtain⟨es,E',h1,h2,_,h3,_⟩:=r1.del he;obtain⟨ob,cap',cs1,f1,f2,rfl⟩:=h1;have f1:γ1 kk = .own ob cap':=f1;rw[g1]at f1;cases f1;have fin:∀ (c:List Value) (y':s'.den),(cs1.drop (i*s'.n)).take s'.n=c→off+sz.1≤s'.n→s'.rep.rel v1 (c.take off++cs++c.drop (off+sz.1)) y'→Post () f (⟨kk,n,.own ty0 s' (xs.set i y') false⟩ :: era l1 kk)→Z8 P N G w0 v0 X o a w Post:=by
        intro c y' hc hfit hrel hpost;have hs:=r1.st.perm h3;obtain⟨σ,hσ,e1,e2⟩:=hs.ev2 x y;rw[hy0']at e1;rw[hqe]at e2;have hset:=ZZo f2 g3 hc hrel (ZH s').symm hfit;have hcl:=Z3a f2;rw[ZH]at hcl;have hfit2:0+i*s'.n+off+sz.1≤cs1.length:=Znq hs (j:=0) rfl g3 hfit;obtain⟨w',hrun,hst⟩:=ZXc (P:=P) hσ hS hcells hlen (i:=0) rfl hfit2 hpl;rw[hlen]at hst;have hle:Le U v1 γ1 l1 v1 γ1 (⟨kk,n,.own ty0 s' (xs.set i y') false⟩ :: era l1 kk):=Le.upd r1 he (Zb.le_refl _) (λ_ _=>rfl) ⟨rfl,rfl,by simp,λe=>absurd e hn⟩;have hst':St N w0 v0 [] (.own (some b) ty0 s'.n (xs.set i y').length cap (cs1.take (0+i*s'.n+off)++cs++cs1.drop (0+i*s'.n+off+sz.1)) :: E'.flatten) v1 a w':=by
         rw[List.length_set];exact hst.bare
        subst ho;exact Zsd (r1.upd hX (r1.ul _ hm).1 h2 hst' hle (λ_ _=>rfl) ⟨some b,cap,_,g1,hset,rfl⟩ (List.Perm.refl _) trivial) hU rfl (hrun e1 e2) hpost
       have full:off=0→sz.1=s.n→∀ y',T.cast s s' y1=some y'→Post () f (⟨kk,n,.own ty0 s' (xs.set i y') false⟩ :: era l1 kk)→Z8 P N G w0 v0 X o a w Post:=by
        intro e0 e1 y' hc hpost;obtain⟨c3,c4⟩:=ZY hc;subst c3;subst c4;refine fin _ y1 rfl (by omega) ?_ hpost;have hl0:=Rep.len _ hc0;rw[ZH]at hl0;have hcl:=Z3a f2;rw[ZH]at hcl;have hdl:((cs1.drop (i*s.n)).take s.n).length=s.n:=by
         have:i*s.n+s.n≤cs1.length:=by rw[hcl,← Nat.succ_mul];exact mR _ g3
         simp;omega
        have q1:=q1 _ z1;rw[e0]at q1 ⊢;rw[List.take_zero,List.drop_of_length_le (by omega)]at q1 ⊢;exact q1
       split at h
       ·rename_i hh1 hh2;split at h
        ·rename_i y' hy';exact full (eQ hh1) (b1.symm.trans (eQ hh2)) y' hy' h
        ·exact h.elim
       ·rename_i hcv _;split at h
        ·rename_i y' hy';obtain⟨ys,c1,c2⟩:=g4 (eQ hcv);obtain⟨c3,c4⟩:=ZY c1
         cases c3;cases c4
         rw[Zii]at hy';cases hy';have hrel:=ZGa f2 c2;rw[ZH]at hrel;obtain⟨⟨k0,st0,L0⟩,he0,hce⟩:=le1.l _ _ hk.1 he;have hst:U st:=(eQ hcv) ▸ hk.2
         cases L0 with
         | own ty1 t1 xs1 fz1 =>
          obtain⟨d1,d2,d3,d4⟩:=hce;obtain⟨d5,d6⟩:=d4 hst
          cases d6
          rw[d1]at g1;obtain⟨c,hc1,hc2⟩:=Zso hr he0 g1 c2;obtain⟨z1',_,_⟩:=Zzm hz hc1 hcs hkq;have q2:=q1 _ z1';rw[hlen]at q2;refine fin c y1 ?_ (by omega) q2 h;have g1':γ1 kk = .own (some b) cap:=by rw[d1];exact g1
          obtain⟨c',hc1',hc2'⟩:=Zso r1 he g1' c2;have hl1:=Rep.len _ hc1;have hl2:=Rep.len _ hc1';have e1:=ZSj hc2 hc2' (hl1.trans hl2.symm);have hl3:=Rep.len _ hrel;rw[ZH]at hl1 hl3;obtain⟨jj,hj⟩:∃ i:Nat,ℓ1[i]? = some (.own (some b) ty0 s.n xs.length cap cs1):=List.getElem?_of_mem (h3.mem_iff.2 (by simp));have hw:=Zqd r1.st hj rfl g3 0 ((cs1.drop (i*s.n)).take s.n) (by rw[hl3,List.drop_zero,List.take_take,Nat.min_self]) (by omega);exact ZSj (by simpa using hw) hc2 (hl3.trans hl1.symm)
         | box _ _=>exact hce.elim
         | mp _=>exact hce.elim
         | it _ _=>exact hce.elim
         | lst _ _ _ _ =>
          obtain⟨_,_,_,_,hyl⟩:=Z6 hp (λ_ e=>by cases e) rfl rfl;exact (hyl _ he0).elim
         | mid _ _ _ _ _ _ =>
          obtain⟨_,_,_,_,hyl⟩:=Z6 hp (λ_ e=>by cases e) rfl rfl;exact (hyl _ he0).elim
         | mat _ _ _ _ _ =>
          obtain⟨_,_,_,_,hyl⟩:=Z6 hp (λ_ e=>by cases e) rfl rfl;exact (hyl _ he0).elim
        ·exact h.elim
       ·exact h.elim
     | box ty1 c1 =>
      cases c1 with
      | data t' w' =>
       simp only at h;split at h
       ·rename_i m e' hu;split at h
        ·rename_i w2 hof hvs hw2 hm0;obtain⟨⟨⟩,hin,h⟩:=h
         dsimp only at h
         split at h
         ·rename_i w3 hw3;have hof:=eQ hof;have hvs:=eQ hvs;subst hof;obtain⟨c3,c4⟩:=ZY hw2;subst c3;subst c4;have hw3:T.cast (Zma s m) (Zma s m) (arrS s m w' i y1)=some w3:=hw3;rw[Zii]at hw3
          cases hw3
          have him:i<m:=by
           unfold inN at hin;split at hin
           ·assumption
           ·cases hin
          obtain⟨b,g1,rfl⟩:=hy;obtain⟨es,E',h1,h2,_,h3,_⟩:=r1.del he;obtain⟨b',cs1,f1,f2,f3,rfl⟩:=h1;have f1:γ1 kk = .box b':=f1;rw[g1]at f1;cases f1;have hm0:0<m:=lB hm0;have f2:(Zma s m).rep.rel v1 cs1 w':=f2;obtain⟨k1,k2⟩:=Zyg hm0 f2;have hcl:=Z3a k1;rw[ZH,k2]at hcl;have hl0:=Rep.len _ hc0;rw[ZH]at hl0;have hsn:sz.1=s.n:=b1.symm.trans hvs;have hy1:s.rep.rel v1 cs y1:=by
           have q1:=q1 _ z1;rw[List.take_zero,List.drop_of_length_le (by omega)]at q1
           simpa using q1
          have hset:=Zbf k1 (by rw[k2];exact him) hy1 (ZH s).symm (hlen.trans (hsn.trans (ZH s).symm));rw[← Zrr him]at hset;have hrel:=ZAs hm0 hset;have hs:=r1.st.perm h3;obtain⟨σ,hσ,e1,e2⟩:=hs.ev2 x y;rw[hy0']at e1;rw[hqe]at e2;have hle0:i*s.n+s.n≤cs1.length:=by rw[hcl,← Nat.succ_mul];exact mR _ him
          obtain⟨w4,hrun,hst⟩:=Z8h (P:=P) hσ hS hcells hlen (i:=0) rfl (off:=0+i*s.n+0) (by omega) hpl;have hle:Le U v1 γ1 l1 v1 γ1 (⟨kk,n,.box ty1 (.data (Zma s m) (arrS s m w' i y1))⟩ :: era l1 kk):=Le.upd r1 he (Zb.le_refl _) (λ_ _=>rfl) rfl;subst ho;exact Zsd (r1.upd hX (r1.ul _ hm).1 h2 hst.bare hle (λ_ _=>rfl) ⟨_,_,g1,hrel,Zcm f3 hpl,rfl⟩ (List.Perm.refl _) trivial) hU rfl (hrun e1 e2) h
         ·exact h.elim
        ·exact h.elim
       ·exact h.elim
      | _=>exact h.elim
     | mid _ _ _ _ _ _=>exact h.elim
     | mp _=>exact h.elim
     | it _ _=>exact h.elim
     | lst _ _ _ _=>exact h.elim
     | mat _ _ _ _ _=>exact h.elim
    ·exact h.elim
   · -- a row is put into its place
    rename_i u i hv0 cv0 s0 r0;split at h
    ·rename_i u2 _ _;obtain⟨en,he,h⟩:=h;obtain⟨yy,hy0,_,hy⟩:=Z6 hp (λ_ e=>by cases e) rfl rfl;have hy0:a.eval x=yy:=(List.cons.inj hy0).1;have hy:=hy en he;obtain⟨kk,st,L⟩:=en;obtain⟨hm,hkk⟩:=Zk he;have hkk:kk=u:=hkk;subst hkk
     cases L with
     | mat ty0 ty2 s m hv =>
      obtain⟨en2,he2,h⟩:=h;obtain⟨k2,st2,L2⟩:=en2;obtain⟨hm2,hkk2⟩:=Zk he2;have hkk2:k2=u2:=hkk2;subst hkk2
      cases L2 with
      | own ty3 s' xs fz =>
       cases fz with
       | true=>exact h.elim
       | false =>
        simp only at h;split at h
        ·rename_i l' ht3 hl';have ht3:=eQ ht3;subst ht3;obtain⟨c3,c4⟩:=ZY hl'
         cases c3;cases c4
         have hne:kk≠k2:=λe=>by subst e;rw[he]at he2;cases he2
         obtain⟨b,cap,rows,g1,rfl,g3,g4⟩:=hy;obtain⟨es2,E2,h1,h2,h2',h3,r2⟩:=hr.del he2;obtain⟨ob2,cap2,cs2,f1,f2,rfl⟩:=h1;have he':lkE (era l k2) kk=some ⟨kk,st,.mat ty0 ty3 s m hv⟩:=by
          rw[ZMb hr.nd,iN (λe=>hne e.symm)];exact he
         obtain⟨esm,E',hsp1,hsp2,hsp3⟩:=Zzf h2' he';obtain⟨ob',cap',rows,es3,q1,q2,rfl⟩:=hsp1;have q1:γ kk = .mat ob' cap' rows:=q1;rw[g1]at q1;cases q1;have hrl:=Ztf q2;obtain⟨p',hp'⟩:∃ p',rows[i]? = some p':=⟨_,List.getElem?_eq_getElem (by omega)⟩;obtain⟨hh,e1,e2,csx,k1,k3⟩:=Zwn q2 hp' (p:=(ob2,cap2)) (r':=xs) f2;have hq1:a.eval y = .slice (mkA ob2) xs.length cap2:=by
          obtain⟨yq,hyq0,_,hyq⟩:=Z6 hq (λ_ e=>by cases e) rfl rfl;obtain⟨oq,cq,gq1,gq2⟩:=hyq _ he2;have f1:γ k2 = .own ob2 cap2:=f1;rw[f1]at gq1;cases gq1;exact ((List.cons.inj hyq0).1).trans gq2
         have hs:St N w0 v0 [] (.own (some b) ty0 1 m.length cap (Zt rows m) :: .own ob2 ty3 s.n xs.length cap2 cs2 :: (es3++E'.flatten)) v a w:=by
          refine hr.st.perm ((h3.trans (List.Perm.append_left _ hsp3)).trans ?_);simp only[List.cons_append];exact List.Perm.swap _ _ _
         obtain⟨σ,hσ,ee1,ee2⟩:=hs.ev2 x y;rw[hy0]at ee1;rw[hq1]at ee2;have hS1:Sized P t ([Value.slice (mkA ob2) xs.length cap2]:List Value).length sz.2:=by
          have:sz.1=1:=b1.symm;rw[this]at hS;exact hS
         have hfit:0+i*1+([Value.slice (mkA ob2) xs.length cap2]:List Value).length≤(Zt rows m).length:=by
          rw[ZLd hrl];simp only[List.length_singleton];omega
         obtain⟨w',hrun,hst⟩:=ZXc (P:=P) hσ hS1 (cs:=[Value.slice (mkA ob2) xs.length cap2]) (z:=.slice (mkA ob2) xs.length cap2) (Z0c rfl) rfl (i:=0) rfl hfit rfl;have hh':(Zt rows m).take (0+i*1)++[Value.slice (mkA ob2) xs.length cap2]++(Zt rows m).drop (0+i*1+1)=Zt (rows.set i (ob2,cap2)) (m.set i xs):=by
          rw[Nat.zero_add,Nat.mul_one];exact hh
         have hst:=hst.bare;simp only[List.set_cons_zero,List.length_singleton]at hst;rw[hh']at hst;subst k1;have hst':St N w0 v0 [] (.own (some b) ty0 1 (m.set i xs).length cap (Zt (rows.set i (ob2,cap2)) (m.set i xs)) :: (e1 ++ .own ob2 ty3 s.n xs.length cap2 cs2 :: e2)++E'.flatten) v a w':=by
          rw[List.length_set];refine (hst.drop (ℓ':=.own (some b) ty0 1 m.length cap (Zt (rows.set i (ob2,cap2)) (m.set i xs)) :: .own ob2 ty3 s.n xs.length cap2 cs2 :: ((e1++e2)++E'.flatten)) ?_).perm ?_
          ·refine List.Sublist.cons_cons _ (List.Sublist.cons_cons _ (List.Sublist.append (List.Sublist.append (List.Sublist.refl _) (List.sublist_cons_self _ _)) (List.Sublist.refl _)))
          ·simp only[List.cons_append];refine List.Perm.cons _ ?_;rw[← List.cons_append];exact List.Perm.append_right _ (List.perm_middle.symm)
         have hle:Le U v γ (era l k2) v (ZLa γ kk (.mat (some b) cap (rows.set i (ob2,cap2)))) (⟨kk,n,.mat ty0 ty3 s (m.set i xs) n⟩ :: era (era l k2) kk):=Le.upd r2 he' (Zb.le_refl _) (λ_ hne=>Z5a hne) ⟨rfl,by simp,⟨_,_,_,_,g1,Zia,λe=>absurd e hn⟩,λe=>absurd e hn⟩;subst ho;refine Zsd (r2.upd hX (r2.ul _ (Zk he').1).1 hsp2 hst' hle (λ_ hne=>Z5a hne) ⟨some b,cap,rows.set i (ob2,cap2),_,Zia,k3,rfl⟩ ?_ hX) hU rfl (hrun ee1 ee2) h;exact List.Perm.refl _
        ·exact h.elim
      | box _ _=>exact h.elim
      | mid _ _ _ _ _ _=>exact h.elim
      | mp _=>exact h.elim
      | it _ _=>exact h.elim
      | lst _ _ _ _=>exact h.elim
      | mat _ _ _ _ _=>exact h.elim
     | mp _=>exact h.elim
     | it _ _=>exact h.elim
     | lst _ _ _ _=>exact h.elim
     | mid ty0 ty2 s m hv sm =>
      cases sm with
      | swp _ _=>exact h.elim
      | hol i1 =>
       obtain⟨_,heq,h⟩:=h;have heq:i=i1:=by
        unfold eqN at heq;split at heq
        ·assumption
        ·cases heq
       subst heq;obtain⟨en2,he2,h⟩:=h;obtain⟨k2,st2,L2⟩:=en2;obtain⟨hm2,hkk2⟩:=Zk he2;have hkk2:k2=u2:=hkk2;subst hkk2
       cases L2 with
       | own ty3 s' xs fz =>
        cases fz with
        | true=>exact h.elim
        | false =>
         simp only at h;split at h
         ·rename_i l' ht3 hl';have ht3:=eQ ht3;subst ht3;obtain⟨c3,c4⟩:=ZY hl'
          cases c3;cases c4
          have hne:kk≠k2:=λe=>by subst e;rw[he]at he2;cases he2
          obtain⟨b,cap,rows,g1,rfl,g3,g4⟩:=hy;obtain⟨es2,E2,h1,h2,h2',h3,r2⟩:=hr.del he2;obtain⟨ob2,cap2,cs2,f1,f2,rfl⟩:=h1;have he':lkE (era l k2) kk=some ⟨kk,st,.mid ty0 ty3 s m hv (.hol i)⟩:=by
           rw[ZMb hr.nd,iN (λe=>hne e.symm)];exact he
          obtain⟨esm,E',hsp1,hsp2,hsp3⟩:=Zzf h2' he';obtain⟨ob',cap',rows,es3,hs,es4,q1,q2,⟨rfl,e1,c,e2,rfl,rfl,rfl⟩,rfl⟩:=hsp1;have q1:γ kk = .mat ob' cap' rows:=q1;rw[g1]at q1;cases q1;have hrl:=Ztf q2;obtain⟨hh,k3⟩:=ZYu q2 (p:=(ob2,cap2)) (r':=xs) f2;have hq1:a.eval y = .slice (mkA ob2) xs.length cap2:=by
           obtain⟨yq,hyq0,_,hyq⟩:=Z6 hq (λ_ e=>by cases e) rfl rfl;obtain⟨oq,cq,gq1,gq2⟩:=hyq _ he2;have f1:γ k2 = .own ob2 cap2:=f1;rw[f1]at gq1;cases gq1;exact ((List.cons.inj hyq0).1).trans gq2
          have hs:St N w0 v0 [] (.own (some b) ty0 1 m.length cap (Zt rows m) :: .own ob2 ty3 s.n xs.length cap2 cs2 :: (e1++e2++E'.flatten)) v a w:=by
           refine hr.st.perm ((h3.trans (List.Perm.append_left _ hsp3)).trans ?_);simp only[List.cons_append];exact List.Perm.swap _ _ _
          obtain⟨σ,hσ,ee1,ee2⟩:=hs.ev2 x y;rw[hy0]at ee1;rw[hq1]at ee2;have hS1:Sized P t ([Value.slice (mkA ob2) xs.length cap2]:List Value).length sz.2:=by
           have:sz.1=1:=b1.symm;rw[this]at hS;exact hS
          have hfit:0+e1.length*1+([Value.slice (mkA ob2) xs.length cap2]:List Value).length≤(Zt rows m).length:=by
           rw[ZLd hrl];simp only[List.length_singleton];omega
          obtain⟨w',hrun,hst⟩:=ZXc (P:=P) hσ hS1 (cs:=[Value.slice (mkA ob2) xs.length cap2]) (z:=.slice (mkA ob2) xs.length cap2) (Z0c rfl) rfl (i:=0) rfl hfit rfl;have hh':(Zt rows m).take (0+e1.length*1)++[Value.slice (mkA ob2) xs.length cap2]++(Zt rows m).drop (0+e1.length*1+1)=Zt (rows.set e1.length (ob2,cap2)) (m.set e1.length xs):=by
           rw[Nat.zero_add,Nat.mul_one];exact hh
          have hst:=hst.bare;simp only[List.set_cons_zero,List.length_singleton]at hst;rw[hh']at hst;have hst':St N w0 v0 [] (.own (some b) ty0 1 (m.set e1.length xs).length cap (Zt (rows.set e1.length (ob2,cap2)) (m.set e1.length xs)) :: (e1 ++ .own ob2 ty3 s.n xs.length cap2 cs2 :: e2)++E'.flatten) v a w':=by
           rw[List.length_set];refine hst.perm ?_;simp only[List.cons_append,aAq];exact List.Perm.cons _ List.perm_middle.symm
          have hle:Le U v γ (era l k2) v (ZLa γ kk (.mat (some b) cap (rows.set e1.length (ob2,cap2)))) (⟨kk,n,.mat ty0 ty3 s (m.set e1.length xs) n⟩ :: era (era l k2) kk):=Le.upd r2 he' (Zb.le_refl _) (λ_ hne=>Z5a hne) ⟨rfl,by simp,⟨_,_,_,_,g1,Zia,λe=>absurd e hn⟩,λe=>absurd e hn⟩;subst ho;exact Zsd (r2.upd hX (r2.ul _ (Zk he').1).1 hsp2 hst' hle (λ_ hne=>Z5a hne) ⟨some b,cap,rows.set e1.length (ob2,cap2),_,Zia,k3,rfl⟩ (List.Perm.refl _) hX) hU rfl (hrun ee1 ee2) h
         ·exact h.elim
       | box _ _=>exact h.elim
       | mid _ _ _ _ _ _=>exact h.elim
       | mp _=>exact h.elim
       | it _ _=>exact h.elim
       | lst _ _ _ _=>exact h.elim
       | mat _ _ _ _ _=>exact h.elim
     | box _ _=>exact h.elim
     | own _ _ _ _=>exact h.elim
    · -- another row's header
     rename_i u2 j hv2 cv2 t2 r2 _ _;obtain⟨en,he,h⟩:=h;obtain⟨yy,hy0,_,hy⟩:=Z6 hp (λ_ e=>by cases e) rfl rfl;have hy0:a.eval x=yy:=(List.cons.inj hy0).1;have hy:=hy en he;obtain⟨yq,hq0,_,hqy⟩:=Z6 hq (λ_ e=>by cases e) rfl rfl;have hq0:a.eval y=yq:=(List.cons.inj hq0).1;obtain⟨kk,st,L⟩:=en;obtain⟨hm,hkk⟩:=Zk he;have hkk:kk=u:=hkk;subst hkk;have hS1:∀ z:Value,Sized P t ([z]:List Value).length sz.2:=λz=>by
      have:sz.1=1:=b1.symm;rw[this]at hS;exact hS
     cases L with
     | mat ty0 ty2 s m hv =>
      simp only at h;split at h
      ·rename_i bu bh;have bu:=eQ bu;have bh:=eQ bh;subst bu bh;obtain⟨b,cap,rows,g1,rfl,g3,g4⟩:=hy;obtain⟨ob',cap',rows',obi,capi,j1,j2,rfl,⟨rj,j3,j4⟩,_⟩:=hqy _ he rfl;rw[g1]at j1;cases j1;obtain⟨es,E',h1,h2,_,h3,_⟩:=hr.del he;obtain⟨ob2,cap2,rows2,es3,q1,q2,rfl⟩:=h1;have q1:γ u2 = .mat ob2 cap2 rows2:=q1;rw[g1]at q1;cases q1;have hrl:=Ztf q2;have hs:=hr.st.perm h3;obtain⟨σ,hσ,ee1,ee2⟩:=hs.ev2 x y;rw[hy0]at ee1;rw[hq0]at ee2;have hfit:0+i*1+([Value.slice (mkA obi) r2.length capi]:List Value).length≤(Zt rows m).length:=by
        rw[ZLd hrl];simp only[List.length_singleton];omega
       obtain⟨w',hrun,hst⟩:=ZXc (P:=P) hσ (hS1 _) (cs:=[Value.slice (mkA obi) r2.length capi]) (z:=.slice (mkA obi) r2.length capi) (Z0c rfl) rfl (i:=0) rfl hfit rfl;have hst:=hst.bare;simp only[List.set_cons_zero,List.length_singleton,List.cons_append]at hst;have hset:(Zt rows m).take (0+i*1)++[Value.slice (mkA obi) r2.length capi]++(Zt rows m).drop (0+i*1+1)=(Zt rows m).set i (.slice (mkA obi) r2.length capi):=by
        rw[List.set_eq_take_append_cons_drop,iP (by rw[ZLd hrl];exact g3)];simp
       rw[hset]at hst;have hjj:(Zt rows m)[j]? = some (.slice (mkA obi) r2.length capi):=by
        rw[ZAh j2 j3,j4]
       have hle:Le U v γ l v γ (⟨u2,n,.mid ty0 ty2 s m hv (.swp i j)⟩ :: era l u2):=Le.upd hr he (Zb.le_refl _) (λ_ _=>rfl) ⟨rfl,rfl,⟨_,_,_,_,g1,g1,λ_=>⟨rfl,rfl,rfl⟩⟩,λe=>absurd e hn⟩;subst ho;exact Zsd (hr.upd hX (hr.ul _ hm).1 h2 hst hle (λ_ _=>rfl) ⟨some b,cap,rows,es3,_,es3,g1,q2,⟨rfl,g3,_,hjj,rfl⟩,rfl⟩ (List.Perm.refl _) (hr.ul _ hm).2.2) hU rfl (hrun ee1 ee2) h
      ·exact h.elim
     | mp _=>exact h.elim
     | it _ _=>exact h.elim
     | lst _ _ _ _=>exact h.elim
     | mid ty0 ty2 s m hv sm =>
      cases sm with
      | hol _=>exact h.elim
      | swp i0 j0 =>
       simp only at h;split at h
       ·rename_i bu bh;have bu:=eQ bu;have bh:=eQ bh;subst bu bh;obtain⟨_,q1,_,q2,h⟩:=h;have q1:i=j0:=by
         unfold eqN at q1;split at q1
         ·assumption
         ·cases q1
        have q2:j=i0:=by
         unfold eqN at q2;split at q2
         ·assumption
         ·cases q2
        subst q1 q2;obtain⟨b,cap,rows,g1,rfl,g3,g4⟩:=hy;obtain⟨ob',cap',rows',obi,capi,j1,j2,rfl,⟨rj,j3,j4⟩,_⟩:=hqy _ he rfl;rw[g1]at j1;cases j1;obtain⟨es,E',h1,h2,_,h3,_⟩:=hr.del he;obtain⟨ob2,cap2,rows2,es3,hs0,es4,q1,q2,⟨rfl,q3,hx,q4,rfl⟩,rfl⟩:=h1;have q1:γ u2 = .mat ob2 cap2 rows2:=q1;rw[g1]at q1;cases q1;have hrl:=Ztf q2;have hs:=hr.st.perm h3;obtain⟨σ,hσ,ee1,ee2⟩:=hs.ev2 x y;rw[hy0]at ee1;rw[hq0]at ee2;have hfit:0+i*1+([Value.slice (mkA obi) r2.length capi]:List Value).length≤((Zt rows m).set j hx).length:=by
         rw[List.length_set,ZLd hrl];simp only[List.length_singleton];omega
        obtain⟨w',hrun,hst⟩:=ZXc (P:=P) hσ (hS1 _) (cs:=[Value.slice (mkA obi) r2.length capi]) (z:=.slice (mkA obi) r2.length capi) (Z0c rfl) rfl (i:=0) rfl hfit rfl;have hst:=hst.bare;simp only[List.set_cons_zero,List.length_singleton,List.cons_append]at hst;have hset:((Zt rows m).set j hx).take (0+i*1)++[Value.slice (mkA obi) r2.length capi]++((Zt rows m).set j hx).drop (0+i*1+1)=((Zt rows m).set j hx).set i (.slice (mkA obi) r2.length capi):=by
         rw[List.set_eq_take_append_cons_drop (l:=(Zt rows m).set j hx),iP (by rw[List.length_set,ZLd hrl];exact g3)];simp
        rw[hset]at hst;obtain⟨pi,hpi⟩:∃ p,rows[i]? = some p:=⟨_,List.getElem?_eq_getElem (by omega)⟩;obtain⟨ri,hri⟩:∃ r,m[i]? = some r:=⟨_,List.getElem?_eq_getElem g3⟩;have hhx:hx=Znd pi ri:=by
         rw[ZAh hpi hri]at q4;exact (Option.some.inj q4).symm
        have hhj:Value.slice (mkA obi) r2.length capi=Znd (obi,capi) rj:=by unfold Znd;rw[j4]
        obtain⟨w1,es5,w2,w3⟩:=ZJu q2 j2 hpi j3 hri;rw[hhx,hhj,w1]at hst;have hln:(ZMd m j i).length=m.length:=by unfold ZMd;simp
        have hst':St N w0 v0 [] (.own (some b) ty0 1 (ZMd m j i).length cap (Zt ((rows.set j pi).set i (obi,capi)) (ZMd m j i)) :: es5++E'.flatten) v a w':=by
         rw[hln];refine hst.perm ?_;simp only[List.cons_append];exact List.Perm.cons _ (List.Perm.append_right _ w2.symm)
        have hle:Le U v γ l v (ZLa γ u2 (.mat (some b) cap ((rows.set j pi).set i (obi,capi)))) (⟨u2,n,.mat ty0 ty2 s (ZMd m j i) n⟩ :: era l u2):=Le.upd hr he (Zb.le_refl _) (λ_ hne=>Z5a hne) ⟨rfl,hln,⟨_,_,_,_,g1,Zia,λe=>absurd e hn⟩,λe=>absurd e hn⟩;subst ho;exact Zsd (hr.upd hX (hr.ul _ hm).1 h2 hst' hle (λ_ hne=>Z5a hne) ⟨some b,cap,_,_,Zia,w3,rfl⟩ (List.Perm.refl _) hX) hU rfl (hrun ee1 ee2) h
       ·exact h.elim
     | box _ _=>exact h.elim
     | own _ _ _ _=>exact h.elim
    ·exact h.elim
   · -- an element of a row
    rename_i u i j hv cv s r x0 off;split at h
    ·rename_i z hz;obtain⟨yy,hy0,_,hy⟩:=Z6 hp (λ_ e=>by cases e) rfl rfl;have hy0:a.eval x=yy:=(List.cons.inj hy0).1;obtain⟨⟨kz,sz0,Lz⟩,hez,h⟩:=h;have hLz:∃ ty ty2 t m hv,Lz = .mat ty ty2 t m hv:=by
      cases Lz with
      | mat ty ty2 t m hv=>exact⟨_,_,_,_,_,rfl⟩
      | _=>exact h.elim
     obtain⟨_,_,_,_,_,rfl⟩:=hLz;obtain⟨y1,l1,γ1,v1,ℓ1,hB,r1,le1,q1⟩:=ZDc hn hX FU h hr (ZEh FU hz trivial hkq);obtain⟨en,he,hC⟩:=hB;have hp1:=ZRa le1 hk hp;obtain⟨yy',hy0',_,hy1⟩:=Z6 hp1 (λ_ e=>by cases e) rfl rfl;have hy0':a.eval x=yy':=(List.cons.inj hy0').1;have hy1:=hy1 en he;obtain⟨kk,st,L⟩:=en;obtain⟨hm,hkk⟩:=Zk he;have hkk:kk=u:=hkk;subst hkk
     cases L with
     | mat ty0 ty2 s' m hv' =>
      simp only at hC;split at hC
      ·rename_i b4 b5;have b4:=eQ b4;have b5:=eQ b5;subst b4 b5;split at hC
       ·rename_i r' hr';obtain⟨ob,cap,rows,bi,capi,g1,g2,rfl,_,g4,g6⟩:=hy1 rfl;obtain⟨⟨m',c1,c2⟩,cx⟩:=g6 rfl;obtain⟨c3,c4⟩:=ZY c1
        cases c3;cases c4
        have hr':r.set j y1=r':=by
         obtain⟨c5,c6⟩:=ZY hr';exact c6
        subst hr';obtain⟨⟨k0,st0,L0⟩,he0,hce⟩:=le1.l _ _ hk.1 he;obtain⟨es,E',h1,h2,_,h3,_⟩:=r1.del he;obtain⟨ob',cap',rows',es3,f1,f2,rfl⟩:=h1;have f1:γ1 kk = .mat ob' cap' rows':=f1;rw[g1]at f1;cases f1
        cases L0 with
        | mat ty1 ty3 t1 m1 hv1 =>
         obtain⟨d1,d2,⟨obx,capx,rowsx,rowsy,d3,d4,d5⟩,d6⟩:=hce;obtain⟨d7,d8⟩:=d6 hk.2.2
         cases d8
         obtain⟨d9,d10,_⟩:=d5 hk.2.1;rw[g1]at d4;cases d4;subst d10;obtain⟨c,hc1,hc2⟩:=ZUr hr he0 d3 g2 c2 cx;obtain⟨c',hc1',hc2'⟩:=ZUr r1 he g1 g2 c2 cx;have e1:=ZSj hc2 hc2' ((Rep.len _ hc1).trans (Rep.len _ hc1').symm);obtain⟨z1',_,zfit⟩:=Zzm hz hc1 hcs hkq;have q2:=q1 _ z1';rw[hlen]at q2 zfit;obtain⟨csx,ea,eb,k1,k2,k3⟩:=ZOq f2 g2 c2;subst k1;have hs:St N w0 v0 [] (.own (some bi) ty2 s.n r.length capi csx :: .own ob ty0 1 m.length cap (Zt rows m) :: (ea++eb++E'.flatten)) v1 a w:=by
          refine r1.st.perm (h3.trans ?_);simp only[List.cons_append,aAq];exact (List.Perm.cons _ List.perm_middle).trans (List.Perm.swap _ _ _)
         have hrel:=ZGa k2 cx;rw[ZH]at hrel;have hl3:=Rep.len _ hrel;have hl1:=Rep.len _ hc1;rw[ZH]at hl3 hl1;have hcell:(csx.drop (j*s.n)).take s.n=c:=by
          have hw:=Zqd hs (j:=0) rfl rfl g4 0 ((csx.drop (j*s.n)).take s.n) (by rw[hl3,List.drop_zero,List.take_take,Nat.min_self]) (by omega);exact ZSj (by simpa using hw) hc2 (hl3.trans hl1.symm)
         obtain⟨σ,hσ,e1,e2⟩:=hs.ev2 x y;rw[hy0']at e1;rw[hqe]at e2;have hset:=ZZo k2 g4 hcell q2 (ZH s).symm (by omega);have hfit2:0+j*s.n+off+sz.1≤csx.length:=Znq hs (j:=0) rfl g4 (by omega);obtain⟨w',hrun,hst⟩:=ZXc (P:=P) hσ hS hcells hlen (i:=0) rfl hfit2 hpl;rw[hlen]at hst;have hst:=hst.bare;obtain⟨k4,k5⟩:=k3 (r.set j y1) _ (List.length_set ..) hset;have hst':St N w0 v0 [] (.own ob ty0 1 (m.set i (r.set j y1)).length cap (Zt rows (m.set i (r.set j y1))) :: (ea ++ .own (some bi) ty2 s.n r.length capi (csx.take (0+j*s.n+off)++cs++csx.drop (0+j*s.n+off+sz.1)) :: eb)++E'.flatten) v1 a w':=by
          rw[List.length_set,k4];refine hst.perm ?_;simp only[List.set_cons_zero,List.cons_append,aAq];exact (List.Perm.swap _ _ _).trans (List.Perm.cons _ List.perm_middle.symm)
         have hle:Le U v1 γ1 l1 v1 γ1 (⟨kk,n,.mat ty0 ty2 s (m.set i (r.set j y1)) hv'⟩ :: era l1 kk):=Le.upd r1 he (Zb.le_refl _) (λ_ _=>rfl) ⟨rfl,by simp,⟨_,_,_,_,g1,g1,λ_=>⟨rfl,rfl,Zbw c2 (List.length_set ..)⟩⟩,λe=>absurd e hn⟩;subst ho;exact Zsd (r1.upd hX (r1.ul _ hm).1 h2 hst' hle (λ_ _=>rfl) ⟨ob,cap,rows,_,g1,k5,rfl⟩ (List.Perm.refl _) (r1.ul _ hm).2.2) hU rfl (hrun e1 e2) hC
        | box _ _=>exact hce.elim
        | mid _ _ _ _ _ _=>rw[he0]at hez;cases hez
        | mp _=>exact hce.elim
        | it _ _=>exact hce.elim
        | lst _ _ _ _=>exact hce.elim
        | own _ _ _ _=>exact hce.elim
       ·exact hC.elim
      ·exact hC.elim
     | box _ _=>exact hC.elim
     | mid _ _ _ _ _ _=>exact hC.elim
     | mp _=>exact hC.elim
     | it _ _=>exact hC.elim
     | lst _ _ _ _=>exact hC.elim
     | own _ _ _ _=>exact hC.elim
    ·exact h.elim
   ·exact h.elim
  ·exact h.elim
end
end Go.Eng
namespace Go.Eng
open Go.RowKit
def ZId:Rep Value where
 n:=1
 agg:=false
 rel _ cs x:=cs=[x]∧plain x=true
 len h:=by rw[h.1];rfl
 mono _ h:=h
 flat h:=by obtain⟨h1,h2⟩:=h;rw[h1];simp[h2]
theorem Z3l {v:Zb}:∀ {l:List Value},l.all plain=true→ZId.rels v l l
 | [],_=>rfl
 | x :: l,h=>by
  simp only[List.all_cons,Bool.and_eq_true]at h
  exact⟨[x],l,rfl,⟨rfl,h.1⟩,Z3l h.2⟩
theorem ZHm {v:Zb}:∀ {l cs:List Value},ZId.rels v cs l→cs=l
 | [],cs,h=>h
 | x :: l,cs,h=>by
  obtain⟨c1,c2,h1,h2,h3⟩:=h
  rw[h1,h2.1,ZHm h3];rfl
theorem ZOk {α:Type}:∀ {rows:List (Option Nat×Nat)} {m:List (List α)},(Zt rows m).all plain=true
 | [],_=>rfl
 | _ :: _,[]=>rfl
 | p :: ps,r :: rs=>by
  have:=ZOk (rows:=ps) (m:=rs)
  simp only[Zt,List.all_cons,this,Bool.and_true]
  obtain⟨ob,cap⟩:=p
  cases ob <;> rfl
theorem ZZp {α:Type}:∀ {rows rows2:List (Option Nat×Nat)} {m m2:List (List α)},rows.length=m.length→Zt (rows++rows2) (m++m2)=Zt rows m++Zt rows2 m2
 | [],_,[],_,_=>rfl
 | p :: ps,rows2,r :: rs,m2,h=>by
  have:=ZZp (rows:=ps) (rows2:=rows2) (m:=rs) (m2:=m2) (by simpa using h)
  simp[Zt,this]
 | [],_,_ :: _,_,h=>by cases h
 | _ :: _,_,[],_,h=>by cases h
theorem ZWo {v:Zb} {ty:TypeId} {t:T}:∀ {rows rows2:List (Option Nat×Nat)} {m m2:List (List t.den)} {es es2:List Loc},Zka v ty t rows m es→Zka v ty t rows2 m2 es2→Zka v ty t (rows++rows2) (m++m2) (es++es2)
 | [],_,[],_,es,_,h,k=>by rw[show es=[] from h];exact k
 | p :: ps,rows2,r :: rs,m2,es,es2,⟨cs,es',h1,h2,h3⟩,k=>by
  subst h2
  exact⟨cs,es'++es2,h1,rfl,ZWo h3 k⟩
 | [],_,_ :: _,_,_,_,h,_=>h.elim
 | _ :: _,_,[],_,_,_,h,_=>h.elim
theorem ZJv {v:Zb} {ty:TypeId} {t:T} {rows:List (Option Nat×Nat)} {m:List (List t.den)} {es:List Loc} {i:Nat} {p:Option Nat×Nat} {r:List t.den} (h:Zka v ty t rows m es) (hp:rows[i]? = some p) (hr:m[i]? = some r) :
  ∃ cs e1 e2,es=e1 ++ .own p.1 ty t.n r.length p.2 cs :: e2∧e1.length=i∧t.rep.rels v cs r:=by
 obtain⟨k1,k2,k3⟩:=Zmf.1 h;obtain⟨cs,q1,q2⟩:=k3 i p r hp hr;have hlt:=(List.getElem?_eq_some_iff.1 q2).1;refine⟨cs,es.take i,es.drop (i+1),?_,by simp;omega,q1⟩;rw[← (List.getElem?_eq_some_iff.1 q2).2,← List.drop_eq_getElem_cons hlt,List.take_append_drop]
section
variable {P:Program} {N:Nat} {G:V→Value→Prop} {w0:Base} {v0:Zb} {U X:Nat→Prop} {f:Fr} {l:Lo} {a:Act} {w:World} {γ:Nat→Gh} {v:Zb} {ℓ:List Loc} {n:Nat}
variable {ty:TypeId} {pos:String} {aft:Array Edge} {g:Option (Nat×Bool)}
theorem Zbj (hr:RelX N G w0 v0 U X f l a w γ v ℓ) (hU:∀ k,U k→X k) (hX:X n) (hn:¬ U n) {e e2:TypeId} {s:T} {m:List (List s.den)} {rows:List (Option Nat×Nat)} {o:Oper} {ob:Option Nat} {cap:Nat} {w':World} {es ℓ':List Loc} {E:List (List Loc)} {Post:Unit→Fr→Lo→Prop} (hd:∀ k,o.dst=some k→k<N) (hE:F2 (Zoa v γ l) l E) (hℓ:ℓ'=E.flatten)
  (hR:Zka v e2 s rows m es) (hst:St N w0 v0 [] (.own ob e 1 m.length cap (Zt rows m) :: es++ℓ') v a w') (hrun:(execOp a.eval o).run P w = .ok (.value (.slice (mkA ob) m.length cap)) w') (h:Zj n (Ev.new n (.mat e e2 s m n) (ret o (.own n))) f l Post):Z8 P N G w0 v0 X o a w Post:=by
 obtain⟨hnew,h⟩:=h;have hr':=hr.new (γ':=ZLa γ n (.mat ob cap rows)) (L':=.mat e e2 s m n) hX hX hn hnew hE hst (Zb.le_refl _) (λ_ h=>Z5a h) ⟨ob,cap,rows,es,Zia,hR,rfl⟩ (by rw[hℓ]) hX;refine fin (x:=.own n) (hr'.mono hU λ_ h=>h) hrun hd hX ⟨[_],⟨_,rfl,by cases ob <;> rfl,λe' he'=>?_⟩,rfl⟩ hX h;rw[ZG,iP rfl]at he';cases he';exact⟨_,_,_,Zia,rfl⟩
theorem RelX.take (hr:RelX N G w0 v0 U X f l a w γ v ℓ) (hX:X n) (hn:¬ U n) {u st hv i:Nat} {ty0 ty2:TypeId} {t:T} {m:List (List t.den)} {r:List t.den} (he:lkE l u=some ⟨u,st,.mat ty0 ty2 t m hv⟩) {ob:Option Nat} {cap:Nat} {rows:List (Option Nat×Nat)} {p:Option Nat×Nat} (hγ:γ u = .mat ob cap rows) (hp:rows[i]? = some p) (hm:m[i]? = some r) :
  ∃ cs ℓ' E',t.rep.rels v cs r∧RelX N G w0 v0 U X f (⟨u,n,.mid ty0 ty2 t m hv (.hol i)⟩ :: era l u) a w γ v ℓ'∧F2 (Zoa v γ (⟨u,n,.mid ty0 ty2 t m hv (.hol i)⟩ :: era l u)) (⟨u,n,.mid ty0 ty2 t m hv (.hol i)⟩ :: era l u) E'∧ℓ'=E'.flatten∧St N w0 v0 [] (.own p.1 ty2 t.n r.length p.2 cs :: ℓ') v a w:=by
 obtain⟨es,E',h1,h2,_,h3,_⟩:=hr.del he;obtain⟨ob',cap',rows',es3,f1,f2,rfl⟩:=h1;have f1:γ u = .mat ob' cap' rows':=f1;rw[hγ]at f1;cases f1;obtain⟨cs,e1,e2,k1,k2,k3⟩:=ZJv f2 hp hm;subst k1;have hs:St N w0 v0 [] (.own p.1 ty2 t.n r.length p.2 cs :: (.own ob ty0 1 m.length cap (Zt rows m) :: (e1++e2)++E'.flatten)) v a w:=by
  refine hr.st.perm (h3.trans ?_);simp only[List.cons_append,aAq];exact (List.Perm.cons _ List.perm_middle).trans (List.Perm.swap _ _ _)
 have hle:Le U v γ l v γ (⟨u,n,.mid ty0 ty2 t m hv (.hol i)⟩ :: era l u):=Le.upd hr he (Zb.le_refl _) (λ_ _=>rfl) ⟨rfl,rfl,⟨_,_,_,_,hγ,hγ,λ_=>⟨rfl,rfl,rfl⟩⟩,λe=>absurd e hn⟩;have hrl:Zoa v γ (⟨u,n,.mid ty0 ty2 t m hv (.hol i)⟩ :: era l u) ⟨u,n,.mid ty0 ty2 t m hv (.hol i)⟩ (.own ob ty0 1 m.length cap (Zt rows m) :: (e1++e2)):=⟨ob,cap,rows,_,_,_,hγ,f2,⟨rfl,e1,_,e2,rfl,k2,rfl⟩,rfl⟩;have r2:=hr.upd hX (hr.ul _ (Zk he).1).1 h2 (hs.drop (List.sublist_cons_self _ _)) hle (λ_ _=>rfl) hrl (List.Perm.refl _) (hr.ul _ (Zk he).1).2.2;obtain⟨E2,hE2,hp2⟩:=r2.lr;exact⟨cs,E2.flatten,E2,k3,⟨r2.st.perm hp2,r2.fr,⟨E2,hE2,List.Perm.refl _⟩,r2.nd,r2.uf,r2.ul,r2.gh⟩,hE2,rfl,hs.perm (List.Perm.cons _ hp2)⟩
end
end Go.Eng
namespace Go.Eng
open Go.RowKit
theorem ZAe {cs r:List Value} (h:zSl cs=some r):cs = .slice none 0 0 :: r:=by
 unfold zSl at h;split at h
 ·cases h;rfl
 ·cases h
theorem Z7r {v:Zb}:∀ {t:T} {cs r:List Value} {x:t.den},zOK t cs=some r→Zsf t=some x→∃ c1,cs=c1++r∧t.rep.rel v c1 x:=by
 intro t
 induction t with
 | int k =>
  intro cs r x h hx;unfold zOK at h
  cases hx
  split at h <;> try (cases h;done)
  all_goals (rename_i heq;cases heq)
  rename_i k' n rest;split at h
  ·rename_i hk
   cases h
   have:=Zrc hk;subst this;exact⟨[_],rfl,rfl,by cases k <;> decide⟩
  ·cases h
 | bool =>
  intro cs r x h hx;unfold zOK at h
  cases hx
  split at h <;> try (cases h;done)
  all_goals (rename_i heq;cases heq)
  cases h
  exact⟨[_],rfl,rfl⟩
 | flt k =>
  intro cs r x h hx;unfold zOK at h
  cases hx
  split at h <;> try (cases h;done)
  all_goals (rename_i heq;cases heq)
  split at h
  ·rename_i hk
   cases h
   have:=Zzr hk;subst this;exact⟨[_],rfl,rfl,by decide⟩
  ·cases h
 | str =>
  intro cs r x h hx;unfold zOK at h
  cases hx
  split at h <;> try (cases h;done)
  all_goals (rename_i heq;cases heq)
  rename_i s rest;split at h
  ·rename_i hs
   cases h
   refine⟨[_],rfl,?_,by show ([]:List UInt8).length≤maxLen;exact Nat.zero_le _⟩;have:s=Zg []:=by
    cases s with
    | mk d=>show _=ByteArray.mk _;congr 1;exact Array.ext' hs
   rw[this]
  ·cases h
 | one a ih =>
  intro cs r x h hx;simp only[zOK]at h;obtain⟨c1,h1,h2⟩:=ih h hx;exact⟨c1,h1,h2⟩
 | pair a b ia ib =>
  intro cs r x h hx;simp only[zOK]at h;simp only[Zsf]at hx;split at hx
  ·rename_i x1 x2 hx1 hx2
   cases hx
   split at h
   ·rename_i r1 hr1;obtain⟨c1,h1,h2⟩:=ia hr1 hx1;obtain⟨c2,h3,h4⟩:=ib h hx2;exact⟨c1++c2,by rw[h1,h3,aAq],c1,c2,rfl,h2,h4⟩
   ·cases h
  ·cases hx
 | ptr a _=>intro cs r x h hx;cases hx
 | slice a _ =>
  intro cs r x h hx
  cases hx
  simp only[zOK]at h;exact⟨[_],ZAe h,Zhg _ _⟩
 | leaf i =>
  intro cs r x h hx;unfold zOK at h;split at h <;> try (cases h;done)
  all_goals (rename_i heq;cases heq)
  ·cases h;cases hx;exact⟨[_],rfl,rfl⟩
  ·cases hx;exact⟨[_],ZAe h,ZKf _⟩
  ·cases hx;exact⟨[_],ZAe h,ZMi _⟩
  ·cases hx;rw[ZAe h];exact⟨[_,_],rfl,ZCr _⟩
  ·cases hx
   split at h
   ·rename_i r1 hr1;rw[ZAe hr1,ZAe h];exact⟨[_,_,_],rfl,Z4n _⟩
   ·cases h
section
variable {P:Program} {N:Nat} {G:V→Value→Prop} {w0:Base} {v0:Zb} {U X:Nat→Prop} {f:Fr} {l:Lo} {a:Act} {w:World} {γ:Nat→Gh} {v:Zb} {ℓ:List Loc} {n:Nat}
variable {ty:TypeId} {pos:String} {aft:Array Edge} {g:Option (Nat×Bool)}
theorem ZMh {t:T} {cs r:List Value} {z:V} (h:Zgf t cs=some (z,r)):∃ c1,cs=c1++r∧RR v γ l false z c1∧z.ok U∧c1.all plain=true:=by
 unfold Zgf at h;split at h
 ·rename_i x r' hx hr
  cases h
  obtain⟨c1,h1,h2⟩:=Z7r (v:=v) hr hx;exact⟨c1,h1,h2,trivial,Rep.flat _ h2⟩
 ·cases h
theorem ZQr {F:TypeId→List Value→Option (V×List Value)} (hF:∀ t cs z r,F t cs=some (z,r)→∃ c1,cs=c1++r∧RR v γ l false z c1∧z.ok U∧c1.all plain=true) :
  ∀ {fs:List Field} {cs r:List Value} {z:V},Zxi F fs cs=some (z,r)→∃ c1,cs=c1++r∧RR v γ l false z c1∧z.ok U∧c1.all plain=true
 | [],cs,r,z,h=>by cases h;exact⟨[],rfl,rfl,trivial,rfl⟩
 | x :: fs,cs,r,z,h=>by
  simp only[Zxi]at h
  split at h
  ·rename_i y cs1 hy
   split at h
   ·rename_i c cs2 hc
    cases h
    obtain⟨c1,h1,h2,h3,h4⟩:=hF _ _ _ _ hy
    obtain⟨c2,k1,k2,k3,k4⟩:=ZQr hF hc
    exact⟨c1++c2,by rw[h1,k1,aAq],⟨c1,c2,rfl,h2,k2⟩,⟨h3,k3⟩,by rw[List.all_append,h4,k4];rfl⟩
   ·cases h
  ·cases h
theorem Zxq {F:List Value→Option (V×List Value)} (hF:∀ cs z r,F cs=some (z,r)→∃ c1,cs=c1++r∧RR v γ l false z c1∧z.ok U∧c1.all plain=true):∀ {k:Nat} {cs r:List Value} {c:V},zRep F k cs=some (c,r)→∃ c1,cs=c1++r∧RR v γ l false c c1∧c.ok U∧c1.all plain=true
 | 0,cs,r,c,h=>by cases h;exact⟨[],rfl,rfl,trivial,rfl⟩
 | k+1,cs,r,c,h=>by
  simp only[zRep]at h
  split at h
  ·rename_i x cs1 hx
   split at h
   ·rename_i c' cs2 hc
    cases h
    obtain⟨c1,rfl,h2,h3,h4⟩:=hF _ _ _ hx
    obtain⟨c2,rfl,k2,k3,k4⟩:=Zxq hF hc
    exact⟨c1++c2,by simp,⟨c1,c2,rfl,h2,k2⟩,⟨h3,k3⟩,by rw[List.all_append,h4,k4];rfl⟩
   ·cases h
  ·cases h
theorem Zfn {C:Cf}:∀ (g:Nat) {t:TypeId} {cs r:List Value} {z:V},Zdh C g t cs=some (z,r)→∃ c1,cs=c1++r∧RR v γ l false z c1∧z.ok U∧c1.all plain=true
 | 0,_,_,_,_,h=>by cases h
 | g+1,t,cs,r,z,h=>by
  simp only[Zdh]at h
  split at h
  ·split at h
   ·cases h
    exact⟨[_,_,_],rfl,⟨[_],[_,_],rfl,rfl,[_],[_],rfl,ZMi _,[_],[],rfl,ZMi _,rfl⟩,⟨trivial,trivial,trivial,trivial⟩,rfl⟩
   ·cases h
  ·exact ZMh h
  ·split at h
   ·exact ZMh h
   ·exact ZMh h
   ·exact ZMh h
   ·exact ZMh h
   ·split at h
    ·rename_i r' hr
     cases h
     exact⟨[_],ZAe hr,rfl,trivial,rfl⟩
    ·cases h
   ·split at h
    ·rename_i c r' hc
     cases h
     obtain⟨c1,h1,h2,h3,h4⟩:=ZQr (λt cs z r h=>Zfn g h) hc
     exact⟨c1,h1,h2,h3,h4⟩
    ·cases h
   ·split at h
    ·rename_i c r' hc
     cases h
     obtain⟨c1,h1,h2,h3,h4⟩:=Zxq (λcs z r h=>Zfn g h) hc
     exact⟨c1,h1,h2,h3,h4⟩
    ·cases h
   ·cases h
theorem Zrm {C:Cf} {t:TypeId} {z:V} (h:ZEj C t=some z):∃ y cs,(∀ w,(zeroValue t).run C.P w = .ok y w)∧y.cells=cs.toArray∧RR v γ l false z cs∧z.ok U∧cs.all plain=true:=by
 unfold ZEj at h;split at h
 ·rename_i i hi;split at h
  ·rename_i y hy;split at h
   ·rename_i x hx
    cases h
    obtain⟨c1,h1,h2,h3,h4⟩:=Zfn (v:=v) (γ:=γ) (l:=l) (U:=U) FU hx;rw[List.append_nil]at h1;refine⟨y,c1,λw=>by simp[zeroValue,typeInfo,hi,hy],by rw[← h1],h2,h3,h4⟩
   ·cases h
  ·cases h
 ·cases h
theorem Z9p (hr:RelX N G w0 v0 U X f l a w γ v ℓ) (hU:∀ k,U k→X k) (hX:X n) (hn:¬ U n) {t:TypeId} {o:Oper} {c:V} {cs:List Value} {Post:Unit→Fr→Lo→Prop} (hd:∀ k,o.dst=some k→k<N) (hc:RR v γ l false c cs) (hk:c.ok U) (hp:cs.all plain=true)
  (hrun:(execOp a.eval o).run P w = .ok (.value (.pointer (some ⟨w.heap.size,0,none⟩))) (w.alloc (.cells cs.toArray t))) (h:Zj n (Ev.new n (.box t c) (ret o (.ptr n 0))) f l Post):Z8 P N G w0 v0 X o a w Post:=by
 obtain⟨hnew,h⟩:=h;obtain⟨E,hE,hpm⟩:=hr.lr;have hst:=(hr.st.perm hpm).newLoc (.cells cs.toArray t) (e:=.box w.heap.size t cs) rfl (heap_alloc_new w _);have hle:Le U v γ l v (ZLa γ n (.box w.heap.size)) (⟨n,n,.box t c⟩ :: l):=⟨Zb.le_refl _,λk e' hk he=>by
  have hne:n≠k:=λe=>hn (e ▸ hk);rw[ZG,iN hne]at he;refine⟨e',he,?_⟩;obtain⟨hm,hk'⟩:=Zk he;obtain⟨es,hrr⟩:=ZEd hE hm;have:=Z4e (U:=U) (γ':=ZLa γ n (.box w.heap.size)) hrr (Z5a (by rw[hk'];exact λe=>hne e.symm));rw[hk']at this;exact this⟩
 have hr':=hr.new (γ':=ZLa γ n (.box w.heap.size)) (L':=.box t c) hX hX hn hnew hE hst (Zb.le_refl _) (λ_ h=>Z5a h) ⟨_,cs,Zia,Zsa hle hk hc,hp,rfl⟩ (List.Perm.refl _) hk;refine fin (x:=.ptr n 0) (hr'.mono hU λ_ h=>h) hrun hd hX ⟨[_],⟨_,rfl,Znc,λe' he'=>?_⟩,rfl⟩ hX h;rw[ZG,iP rfl]at he';cases he';exact⟨_,Zia,rfl⟩
theorem ZNf (hr:RelX N G w0 v0 U X f l a w γ v ℓ) (hU:∀ k,U k→X k) (hX:X n) (hn:¬ U n) {e:TypeId} {s:T} {xs:List s.den} {o:Oper} {ob:Option Nat} {cap:Nat} {cs:List Value} {w':World} {ℓ':List Loc} {E:List (List Loc)} {Post:Unit→Fr→Lo→Prop} (hd:∀ k,o.dst=some k→k<N) (hE:F2 (Zoa v γ l) l E) (hℓ:ℓ'=E.flatten)
  (hst:St N w0 v0 [] (.own ob e s.n xs.length cap cs :: ℓ') v a w') (hc:s.rep.rels v cs xs) (hrun:(execOp a.eval o).run P w = .ok (.value (.slice (mkA ob) xs.length cap)) w') (h:Zj n (Ev.new n (.own e s xs false) (ret o (.own n))) f l Post):Z8 P N G w0 v0 X o a w Post:=by
 obtain⟨hnew,h⟩:=h;have hr':=hr.new (γ':=ZLa γ n (.own ob cap)) (L':=.own e s xs false) hX hX hn hnew hE hst (Zb.le_refl _) (λ_ h=>Z5a h) ⟨ob,cap,cs,Zia,hc,rfl⟩ (by rw[hℓ];exact List.Perm.refl _) trivial;refine fin (x:=.own n) (hr'.mono hU λ_ h=>h) hrun hd hX ⟨[_],⟨_,rfl,by cases ob <;> rfl,λe' he'=>?_⟩,rfl⟩ hX h;rw[ZG,iP rfl]at he';cases he';exact⟨_,_,Zia,rfl⟩
theorem ZKl {t:TypeId} {q:EI} (h:Zef P t=some q):Elem P t q.e q.sz q.by_ q.z∧0<q.by_:=by
 unfold Zef at h;split at h
 ·rename_i e he;split at h
  ·rename_i i hi;split at h
   ·rename_i z hz;split at h
    ·rename_i h1 h2 h3
     cases h
     have h1:=eQ h1;have h2:1≤i.size:=lB h2;have h3:1≤i.bytes:=lB h3;exact⟨⟨he,by simp[hi,hz],by simpa using h1,h2⟩,h3⟩
    ·cases h
   ·cases h
  ·cases h
 ·cases h
theorem ZFp {ρ:Type} {g:Nat} {s:T} {c:V} {k:List s.den→Ev ρ} {Post:ρ→Fr→Lo→Prop} (h:Zj n (conv g (.slice s) (.agg c) k) f l Post):False:=by
 cases g with
 | zero=>exact h
 | succ g =>
  cases c with
  | cons x1 c =>
   cases c with
   | cons x2 r=>simp only[conv]at h;exact h
   | nl=>simp only[conv]at h;exact h
   | _=>simp only[conv]at h;exact h
  | _=>simp only[conv]at h;exact h
theorem Zfm {ρ:Type} {g:Nat} {s:T} {x:V} {k:List s.den→Ev ρ} {Post:ρ→Fr→Lo→Prop} (h:Zj n (conv g (.slice s) x k) f l Post):x.isAgg=false∧∀ c,x ≠ .tup c:=by
 cases x with
 | agg c=>exact (ZFp h).elim
 | tup c =>
  cases g with
  | zero=>exact h.elim
  | succ g=>simp only[conv]at h;exact h.elim
 | data t x =>
  refine⟨?_,λc e=>by cases e⟩
  cases g with
  | zero=>exact h.elim
  | succ g =>
   simp only[conv]at h;split at h
   ·rename_i y hy;obtain⟨e,_⟩:=ZY hy;subst e;rfl
   ·split at h
    ·rfl
    ·rfl
    ·rfl
    ·rfl
    ·rfl
    ·rfl
    ·split at h
     ·exact (ZFp h).elim
     ·exact h.elim
 | _=>exact⟨rfl,λc e=>by cases e⟩
theorem Zcf {x:V} {y:Value} (h:x.isAgg=false):x.val [y]=y:=by unfold V.val;rw[h];rfl
theorem Z8s {u2:Nat} {ty' ty2':TypeId} {s':T} {m':List (List s'.den)} {hv:Nat} {y:Operand} {st:Nat} (hq:RV v γ l (.own u2) (a.eval y)) (he:lkE l u2=some ⟨u2,st,.mat ty' ty2' s' m' hv⟩) {ob:Option Nat} {cap:Nat} {rows:List (Option Nat×Nat)} (q1:γ u2 = .mat ob cap rows):a.eval y = .slice (mkA ob) m'.length cap:=by
 obtain⟨yq,hyq0,_,hyq⟩:=Z6 hq (λ_ e=>by cases e) rfl rfl;obtain⟨oq,cq,rq,gq1,gq2⟩:=hyq _ he;rw[q1]at gq1;cases gq1;exact ((List.cons.inj hyq0).1).trans gq2
theorem Zor (hr:RelX N G w0 v0 U X f l a w γ v ℓ) (hU:∀ k,U k→X k) (hX:X n) (hn:¬ U n) {d:Option Nat} {t:TypeId} {x y:Operand} {o:Oper} {q:V} {pu:Option Nat} {ei:EI} {Post:Unit→Fr→Lo→Prop} (hE:Elem P t ei.e ei.sz ei.by_ ei.z) (hby:0<ei.by_) (ho:o=⟨d,.call ⟨.builtin .append,#[x,y],#[t,t]⟩,ty,pos,aft,g⟩) (hd:∀ k,o.dst=some k→k<N)
  (hp0:pu=none→a.eval x = .slice none 0 0) (hp1:∀ u,pu=some u→RV v γ l (.own u) (a.eval x)) (hq:RV v γ l q (a.eval y)) (h:Zj n (appM o n ei pu q) f l Post):Z8 P N G w0 v0 X o a w Post:=by
 unfold appM at h;split at h
 ·rename_i u2;obtain⟨⟨k2,st2,L2⟩,he2,h⟩:=h;have hkk2:k2=u2:=(Zk he2).2;subst hkk2
  cases L2 with
  | mat ty' ty2' s' m' hv' =>
   simp only at h;obtain⟨es,E',h1,h2,h2',h3,r2⟩:=hr.del he2;obtain⟨ob2,cap2,rows2,es3,q1,q2,rfl⟩:=h1;have q1:γ k2 = .mat ob2 cap2 rows2:=q1;have hy0:=Z8s hq he2 q1;have hl2:=ZLd (Ztf q2);have hs:=hr.st.perm h3
   cases pu with
   | none =>
    simp only at h;split at h
    ·rename_i b1 b2;have b1:=eQ b1;have b2:=eQ b2;obtain⟨_,hroom,h⟩:=h;obtain⟨v',hv,hs1,hrel⟩:=hs.pubSlice (i:=0) (A:=ZId) (l:=Zt rows2 m') rfl rfl hl2.symm (Z3l ZOk) rfl;have hs1:St N w0 v0 [] (es3++E'.flatten) v' a w:=hs1;obtain⟨σ,hσ,e1,e2⟩:=(hs1.nilLoc ei.e 1).ev2 x y;have hE':Elem P t ei.e ZId.n ei.by_ ei.z:=by rw[show ZId.n=ei.sz from b2.symm];exact hE
     obtain⟨b',cap',cs2,w',hrun,hst',hrel2⟩:=ZSe (ty:=ty) (A:=ZId) hE' hσ (i:=0) rfl hrel (n':=([]++m').length) (by simp) (Zrd hroom) hby;have hcs:=ZHm hrel2;subst hcs;rw[hp0 rfl]at e1;rw[hy0]at e2;have r3:=r2.go hv (hs1.drop (List.sublist_append_right _ _));obtain⟨E3,hE3,hp3⟩:=r3.lr;have hst':=hst'.bare;have hst3:St N w0 v0 [] (.own b' ty' 1 ([]++m').length cap' (Zt rows2 ([]++m')) :: es3++E3.flatten) v' a w':=by
      rw[← b1];exact hst'.perm (by simp only[List.set_cons_zero,List.cons_append];exact List.Perm.cons _ (List.Perm.append_left _ hp3))
     subst ho;exact Zbj r3 hU hX hn hd hE3 rfl (Z1b hv q2) hst3 (Zmd hσ e1 e2 hrun) h
    ·exact h.elim
   | some u =>
    simp only at h;split at h
    ·exact h.elim
    ·rename_i hne;have hne:u≠k2:=λe=>by subst e;simp at hne
     obtain⟨⟨k1,st1,L1⟩,he1,h⟩:=h;have hkk1:k1=u:=(Zk he1).2;subst hkk1
     cases L1 with
     | mat ty1 ty2 s m hv =>
      simp only at h;split at h
      ·rename_i m2 hm2 b1 b2 b3 b4;have b1:=eQ b1;have b2:=eQ b2;have b3:=eQ b3;have b4:=eQ b4;obtain⟨c3,c4⟩:=ZY hm2
       cases c3;cases c4
       subst b1 b2;obtain⟨_,hroom,h⟩:=h;have he1':lkE (era l k2) k1=some ⟨k1,st1,.mat ty1 ty2 _ m hv⟩:=by
        rw[ZMb hr.nd,iN (λe=>hne e.symm)];exact he1
       obtain⟨es1,E1,g1,g2,g2',g3,r3⟩:=r2.del he1';obtain⟨ob1,cap1,rows1,es4,p1,p2,rfl⟩:=g1;have p1:γ k1 = .mat ob1 cap1 rows1:=p1;have hx0:=Z8s (hp1 k1 rfl) he1 p1;have hl1:=Ztf p2;have hs:St N w0 v0 [] (.own ob2 ty1 1 m'.length cap2 (Zt rows2 m') :: (.own ob1 ty1 1 m.length cap1 (Zt rows1 m) :: (es4++es3++E1.flatten))) v a w:=by
        refine hs.perm ?_;simp only[List.cons_append];refine List.Perm.cons _ ((List.Perm.append_left _ g3).trans ?_);simp only[List.cons_append];refine List.perm_middle.trans (List.Perm.cons _ ?_);rw[← aAq];exact List.Perm.append_right _ List.perm_append_comm
       obtain⟨v',hv,hs1,hrel⟩:=hs.pubSlice (i:=0) (A:=ZId) (l:=Zt rows2 m') rfl rfl hl2.symm (Z3l ZOk) rfl;have hs1:St N w0 v0 [] (.own ob1 ty1 1 m.length cap1 (Zt rows1 m) :: (es4++es3++E1.flatten)) v' a w:=hs1;obtain⟨σ,hσ,e1,e2⟩:=hs1.ev2 x y;have hE':Elem P t ty1 ZId.n ei.by_ ei.z:=by rw[show ZId.n=ei.sz from b4.symm,← b3];exact hE
       obtain⟨b',cap',cs2,w',hrun,hst',hrel2⟩:=ZSe (ty:=ty) (A:=ZId) hE' hσ (i:=0) rfl hrel (n':=(m++m').length) (by simp) (Zrd hroom) hby;have hcs:=ZHm hrel2;subst hcs;rw[hx0]at e1;rw[hy0]at e2;have r4:=r3.go hv (hs1.drop ((List.sublist_append_right _ _).trans (List.sublist_cons_self _ _)));obtain⟨E3,hE3,hp3⟩:=r4.lr;have hst':=hst'.bare;have hst3:St N w0 v0 [] (.own b' ty1 1 (m++m').length cap' (Zt (rows1++rows2) (m++m')) :: (es4++es3)++E3.flatten) v' a w':=by
        rw[ZZp hl1];exact hst'.perm (by simp only[List.set_cons_zero,List.cons_append];exact List.Perm.cons _ (List.Perm.append_left _ hp3))
       subst ho;exact Zbj r4 hU hX hn hd hE3 rfl (ZWo (Z1b hv p2) (Z1b hv q2)) hst3 (Zmd hσ e1 e2 hrun) h
      ·exact h.elim
     | box _ _=>exact h.elim
     | own _ _ _ _=>exact h.elim
     | mid _ _ _ _ _ _=>exact h.elim
     | mp _=>exact h.elim
     | it _ _=>exact h.elim
     | lst _ _ _ _=>exact h.elim
  | box _ _=>exact h.elim
  | own _ _ _ _=>exact h.elim
  | mid _ _ _ _ _ _=>exact h.elim
  | mp _=>exact h.elim
  | it _ _=>exact h.elim
  | lst _ _ _ _=>exact h.elim
 ·exact h.elim
theorem ZAu (hr:RelX N G w0 v0 U X f l a w γ v ℓ) (hU:∀ k,U k→X k) (hX:X n) (hn:¬ U n) {d:Option Nat} {t:TypeId} {x:Operand} {o:Oper} {p:V} {Post:Unit→Fr→Lo→Prop} (ho:o=⟨d,.load t x,ty,pos,aft,g⟩) (hd:∀ k,o.dst=some k→k<N) (hp:RV v γ l p (a.eval x))
  (h:Zj n (takeE P o n t p) f l Post):Z8 P N G w0 v0 X o a w Post:=by
 unfold takeE at h;split at h
 ·exact h.elim
 ·rename_i q hq;split at h
  ·rename_i u i hv cv e r hag;obtain⟨⟨kk,st,L⟩,he,h⟩:=h;have hkk:kk=u:=(Zk he).2;subst hkk;obtain⟨y,hy0,_,hy⟩:=Z6 hp (λ_ e=>by cases e) rfl rfl;have hy0:a.eval x=y:=(List.cons.inj hy0).1;have hy:=hy _ he
   cases L with
   | mat ty0 ty2 s' m hv' =>
    simp only at h;split at h
    ·rename_i z b1 b2 hz;have b1:=eQ b1;have b2:=eQ b2;subst b1 b2;obtain⟨c3,c4⟩:=ZY hz
     cases c3;cases c4
     obtain⟨b,cap,rows,g1,rfl,g3,g4⟩:=hy;obtain⟨m',c1,c2⟩:=g4 rfl;obtain⟨c5,c6⟩:=ZY c1
     cases c5;cases c6
     obtain⟨hkk,es,hes,hmem⟩:=hr.loc he;obtain⟨ob,cap',rows',es2,q1,q2,rfl⟩:=hes;have q1:γ kk = .mat ob cap' rows':=q1;rw[g1]at q1;cases q1;obtain⟨p,cs,r1,r2,r3⟩:=Zte q2 c2;obtain⟨j,hj⟩:=hmem _ List.mem_cons_self;have hh:=ZAh r1 c2;have hw:WAt w b (0+i*1) [.slice (mkA p.1) r.length p.2]:=by
      have hx:((Zt rows m).drop (i*1)).take 1=[.slice (mkA p.1) r.length p.2]:=by
       have hlt:=(List.getElem?_eq_some_iff.1 hh).1;rw[Nat.mul_one,List.drop_eq_getElem_cons hlt];simp[(List.getElem?_eq_some_iff.1 hh).2]
      have:=Zqd hr.st hj hx g3 0 [.slice (mkA p.1) r.length p.2] rfl (by simp)
      simpa using this
     obtain⟨cs2,ℓ2,E2,k1,r4,k2,k3,hst⟩:=hr.take hX hn he g1 r1 c2;obtain⟨σ,hs',e1⟩:=hr.st.ev1 x;rw[hy0]at e1;have ht:=ZPd hq;rw[hag]at ht;subst ho;exact ZNf r4 hU hX hn hd k2 k3 hst k1 (Znb hs' e1 ht hw) h
    ·exact h.elim
   | box _ _=>exact h.elim
   | own _ _ _ _=>exact h.elim
   | mid _ _ _ _ _ _=>exact h.elim
   | mp _=>exact h.elim
   | it _ _=>exact h.elim
   | lst _ _ _ _=>exact h.elim
  ·exact h.elim
def ZBd (k:Nat):Rep (List Value) where
 n:=k
 agg:=true
 rel _ cs x:=cs=x∧x.length=k∧x.all plain=true
 len h:=by rw[h.1];exact h.2.1
 mono _ h:=h
 flat h:=by rw[h.1];exact h.2.2
theorem Z2r {k:Nat} {v:Zb} {c:List Value} (h:c.length=k) (hp:c.all plain=true):(ZBd k).rels v c [c]:=Zxh ⟨rfl,h,hp⟩
theorem Zjp {k:Nat} {v:Zb} {c cs:List Value} (h:(ZBd k).rels v cs [c]):cs=c:=by
 obtain⟨c1,c2,rfl,h2,h3⟩:=h;have h3:c2=[]:=h3;rw[h3,h2.1,List.append_nil]
theorem Zpm (hr:RelX N G w0 v0 U X f l a w γ v ℓ) (hU:∀ k,U k→X k) (hX:X n) (hn:¬ U n) {e:TypeId} {s:T} {xs:List s.den} {c:V} {o:Oper} {b cap:Nat} {cs cl:List Value} {w':World} {ℓ':List Loc} {E:List (List Loc)} {Post:Unit→Fr→Lo→Prop} (hd:∀ k,o.dst=some k→k<N) (hE:F2 (Zoa v γ l) l E) (hℓ:ℓ'=E.flatten)
  (hst:St N w0 v0 [] (.own (some b) e s.n (xs.length+1) cap (cs++cl) :: ℓ') v a w') (hc:s.rep.rels v cs xs) (hcl:RR v γ l false c cl) (hco:c.ok U) (hp:cl.all plain=true) (hl:cl.length=s.n) (hrun:(execOp a.eval o).run P w = .ok (.value (.slice (mkA (some b)) (xs.length+1) cap)) w') (h:Zj n (Ev.new n (.lst e s xs c) (ret o (.own n))) f l Post):Z8 P N G w0 v0 X o a w Post:=by
 obtain⟨hnew,h⟩:=h;have hle:Le U v γ l v (ZLa γ n (.own (some b) cap)) (⟨n,n,.lst e s xs c⟩ :: l):=⟨Zb.le_refl _,λk e' hk he=>by
  have hne:n≠k:=λe=>hn (e ▸ hk);rw[ZG,iN hne]at he;refine⟨e',he,?_⟩;obtain⟨hm,hk'⟩:=Zk he;obtain⟨es,hrr⟩:=ZEd hE hm;have:=Z4e (U:=U) (γ':=ZLa γ n (.own (some b) cap)) hrr (Z5a (by rw[hk'];exact λe=>hne e.symm));rw[hk']at this;exact this⟩
 have hr':=hr.new (γ':=ZLa γ n (.own (some b) cap)) (L':=.lst e s xs c) hX hX hn hnew hE hst (Zb.le_refl _) (λ_ h=>Z5a h) ⟨b,cap,cs,cl,Zia,hc,Zsa hle hco hcl,hp,hl,rfl⟩ (by rw[hℓ];exact List.Perm.refl _) hco;refine fin (x:=.own n) (hr'.mono hU λ_ h=>h) hrun hd hX ⟨[_],⟨_,rfl,rfl,λe' he'=>?_⟩,rfl⟩ hX h;rw[ZG,iP rfl]at he';cases he';exact⟨_,_,Zia,rfl⟩
theorem Zam {u2:Nat} {ty':TypeId} {s':T} {xs:List s'.den} {c:V} {y:Operand} {st:Nat} (hq:RV v γ l (.own u2) (a.eval y)) (he:lkE l u2=some ⟨u2,st,.lst ty' s' xs c⟩) {b cap:Nat} (q1:γ u2 = .own (some b) cap):a.eval y = .slice (mkA (some b)) (xs.length+1) cap:=by
 obtain⟨yq,hyq0,_,hyq⟩:=Z6 hq (λ_ e=>by cases e) rfl rfl;obtain⟨oq,cq,gq1,gq2⟩:=hyq _ he;rw[q1]at gq1;cases gq1;exact ((List.cons.inj hyq0).1).trans gq2
theorem Zhp (hr:RelX N G w0 v0 U X f l a w γ v ℓ) (hU:∀ k,U k→X k) (hX:X n) (hn:¬ U n) {d:Option Nat} {t:TypeId} {x y:Operand} {o:Oper} {q:V} {pu:Option Nat} {ei:EI} {Post:Unit→Fr→Lo→Prop} (hE:Elem P t ei.e ei.sz ei.by_ ei.z) (hby:0<ei.by_) (ho:o=⟨d,.call ⟨.builtin .append,#[x,y],#[t,t]⟩,ty,pos,aft,g⟩) (hd:∀ k,o.dst=some k→k<N)
  (hp0:pu=none→a.eval x = .slice none 0 0) (hp1:∀ u,pu=some u→RV v γ l (.own u) (a.eval x)∧U u) (hq:RV v γ l q (a.eval y)) (hkq:q.ok U) (h:Zj n (ZIj o n ei pu q) f l Post):Z8 P N G w0 v0 X o a w Post:=by
 unfold ZIj at h;split at h
 ·rename_i u2;obtain⟨⟨k2,st2,L2⟩,he2,h⟩:=h;have hkk2:k2=u2:=(Zk he2).2;subst hkk2
  cases L2 with
  | lst ty' s' xs2 c2 =>
   cases xs2 with
   | cons _ _=>exact h.elim
   | nil =>
   simp only at h
   cases pu with
   | none =>
    obtain⟨es,E',h1,h2,h2',h3,r2⟩:=hr.del he2;obtain⟨b2,cap2,cs2,cl2,q1,q2,q3,q4,q5,rfl⟩:=h1;have q1:γ k2 = .own (some b2) cap2:=q1;have q2:cs2=[]:=q2;subst q2;have hy0:=Zam hq he2 q1;have hs:=hr.st.perm h3;have hco:c2.ok U:=(hr.ul _ (Zk he2).1).2.2;have hle:=Le.era hr k2;simp only at h;split at h
    ·rename_i b1 b2';have b1:=eQ b1;have b2':=eQ b2';obtain⟨_,hroom,h⟩:=h;obtain⟨v',hv,hs1,hrel⟩:=hs.pubSlice (i:=0) (A:=ZBd s'.n) (l:=[cl2]) rfl rfl rfl (Z2r q5 q4) rfl;have hs1:St N w0 v0 [] E'.flatten v' a w:=hs1;obtain⟨σ,hσ,e1,e2⟩:=(hs1.nilLoc ei.e s'.n).ev2 x y;have hE':Elem P t ei.e (ZBd s'.n).n ei.by_ ei.z:=by rw[show (ZBd s'.n).n=ei.sz from b2'.symm];exact hE
     obtain⟨b',cap',cs3,w',hrun,hst',hrel2⟩:=ZSe (ty:=ty) (A:=ZBd s'.n) hE' hσ (i:=0) rfl hrel (n':=1) (by simp) (Zrd hroom) hby;have hcs:=Zjp hrel2;subst hcs;rw[hp0 rfl]at e1;rw[hy0]at e2;have r3:=r2.go hv hs1;obtain⟨E3,hE3,hp3⟩:=r3.lr;have hst':=hst'.bare;obtain⟨b3,rfl⟩:=Z5c hst' (j:=0) rfl (by omega);have hst3:St N w0 v0 [] (.own (some b3) ty' s'.n (([]:List s'.den).length+1) cap' ([]++cs3) :: E3.flatten) v' a w':=by
      rw[← b1];exact hst'.perm (by simp only[List.set_cons_zero];exact List.Perm.cons _ hp3)
     subst ho;exact Zpm r3 hU hX hn hd hE3 rfl hst3 Zyf (Zsa (Le.trans hle (Le.refl h2' hv)) hco q3) hco q4 q5 (Zmd hσ e1 e2 hrun) h
    ·exact h.elim
   | some u =>
    simp only at h;split at h
    ·exact h.elim
    ·rename_i hne;have hne:u≠k2:=λe=>by subst e;simp at hne
     obtain⟨⟨k1,st1,L1⟩,he1,h⟩:=h;have hkk1:k1=u:=(Zk he1).2;subst hkk1;obtain⟨hpu,hUk⟩:=hp1 k1 rfl
     cases L1 with
     | lst ty1 s xs c =>
      simp only at h;obtain⟨xx,l1,γ1,v1,ℓ1,hB,r1,le1,q1⟩:=ZDc hn hX FU h hr (hr.ul _ (Zk he1).1).2.2;obtain⟨⟨k3,st3,L3⟩,he3,hC⟩:=hB;have hkk3:k3=k1:=(Zk he3).2;subst hkk3;obtain⟨e0,he0,hce⟩:=le1.l _ _ hUk he3;rw[he1]at he0;cases he0;have hpu1:=ZRa le1 (show (V.own k3).ok U from hUk) hpu;have hq1:=ZRa le1 hkq hq
      cases L3 with
      | lst ty3 s3 l3 c3 =>
       simp only at hC;obtain⟨⟨k4,st4,L4⟩,he4,hC⟩:=hC;have hkk4:k4=k2:=(Zk he4).2;subst hkk4
       cases L4 with
       | lst ty4 s4 xs4 c4 =>
        cases xs4 with
        | cons _ _=>exact hC.elim
        | nil =>
        simp only at hC;split at hC
        ·rename_i x' hx' hs4 hy34 hy3 hsz;have hs4:=T.beq_eq hs4;have hy34:=eQ hy34;have hy3:=eQ hy3;have hsz:=eQ hsz;obtain⟨c5,c6⟩:=ZY hx'
         cases c5;cases c6
         subst hs4 hy34;obtain⟨_,hroom,hC⟩:=hC;obtain⟨hce1,hce2,hce3⟩:γ1 k3=γ k3∧_∧l3.length=xs.length:=hce;obtain⟨esa,Ea,a1,a2,a2',a3,_⟩:=hr.del he1;obtain⟨ba,capa,csa,cla,a4,a5,a6,a7,a8,rfl⟩:=a1;have a4:γ k3 = .own (some ba) capa:=a4;obtain⟨es3,E3,f1,f2,f2',f3,r3⟩:=r1.del he3;obtain⟨b3,cap3,cs3,cl3,g1,g2,g3,g4,g5,rfl⟩:=f1;have g1:γ1 k3 = .own (some b3) cap3:=g1;have hb:b3=ba∧cap3=capa:=by rw[hce1,a4]at g1;cases g1;exact⟨rfl,rfl⟩
         obtain⟨rfl,rfl⟩:=hb;have m0:=(hr.st.loc _ (a3.mem_iff.2 (List.mem_append_left _ (List.mem_singleton.2 rfl)))).1;have m1:=(r1.st.loc _ (f3.mem_iff.2 (List.mem_append_left _ (List.mem_singleton.2 rfl)))).1;have hcl:cla=cl3:=by
          obtain⟨_,cur0,t1,_,_,_,t2⟩:=m0;obtain⟨_,cur1,t3,_,_,_,t4⟩:=m1;rw[t1]at t3;cases t3;rw[hce3,t2]at t4;have l0:=Z3a a5;have l1:=Z3a g2;rw[hce3]at l1;exact (List.append_inj t4 (l0.trans l1.symm)).2
         subst hcl;have hxx:=q1 _ a6;have he4':lkE (era l1 k3) k4=some ⟨k4,st4,.lst ty3 s4 [] c4⟩:=by
          rw[ZMb r1.nd,iN hne];exact he4
         obtain⟨es4,E4,j1,j2,j2',j3,r4⟩:=r3.del he4';obtain⟨b4,cap4,cs4,cl4,p1,p2,p3,p4,p5,rfl⟩:=j1;have p1:γ1 k4 = .own (some b4) cap4:=p1;have p2:cs4=[]:=p2;subst p2;have hx0:=Zam hpu1 he3 g1;have hy0:=Zam hq1 he4 p1;have hs:St N w0 v0 [] (.own (some b4) ty3 s4.n 1 cap4 ([]++cl4) :: (.own (some b3) ty3 s4.n (l3.length+1) cap3 (cs3++cla) :: E4.flatten)) v1 a w:=by
          refine (r1.st.perm f3).perm ?_;simp only[List.singleton_append];exact (List.Perm.cons _ (j3.trans (by simp only[List.singleton_append];exact List.Perm.refl _))).trans (List.Perm.swap _ _ _)
         obtain⟨v',hv,hs1,hrel⟩:=hs.pubSlice (i:=0) (A:=ZBd s4.n) (l:=[cl4]) rfl rfl rfl (Z2r p5 p4) rfl;have hs1:St N w0 v0 [] (.own (some b3) ty3 s4.n (l3.length+1) cap3 (cs3++cla) :: E4.flatten) v' a w:=hs1;obtain⟨σ,hσ,e1,e2⟩:=hs1.ev2 x y;have hE':Elem P t ty3 (ZBd s4.n).n ei.by_ ei.z:=by rw[show (ZBd s4.n).n=ei.sz from hsz.symm,← hy3];exact hE
         obtain⟨b',cap',cs5,w',hrun,hst',hrel2⟩:=ZSe (ty:=ty) (A:=ZBd s4.n) hE' hσ (i:=0) rfl hrel (n':=l3.length+1+1) (by simp) (by have:=Zrd hroom;simpa using this) hby;have hcs:=Zjp hrel2;subst hcs;rw[hx0]at e1;rw[hy0]at e2;have r5:=r4.go hv (hs1.drop (List.sublist_cons_self _ _));obtain⟨E5,hE5,hp5⟩:=r5.lr;have hst':=hst'.bare;obtain⟨b5,rfl⟩:=Z5c hst' (j:=0) rfl (by omega);have hxl:(l3++[xx]).length=l3.length+1:=by simp
         have hst3:St N w0 v0 [] (.own (some b5) ty3 s4.n ((l3++[xx]).length+1) cap' ((cs3++cla)++cs5) :: E5.flatten) v' a w':=by
          rw[hxl];exact hst'.perm (by simp only[List.set_cons_zero];exact List.Perm.cons _ hp5)
         have hle3:=Le.era r1 k3;have hle4:=Le.era r3 k4;have hco4:c4.ok U:=(r1.ul _ (Zk he4).1).2.2;subst ho;refine Zpm r5 hU hX hn hd hE5 rfl hst3 (ZFl (ZN hv g2) (Rep.mono _ hv hxx)) (Zsa (hle4.trans (Le.refl j2' hv)) hco4 p3) hco4 p4 p5 (by rw[hxl];exact Zmd hσ e1 e2 hrun) hC
        ·exact hC.elim
       | _=>exact hC.elim
      | _=>exact hC.elim
     | _=>exact h.elim
  | _=>exact h.elim
 ·exact h.elim
theorem appE_ok {C:Cf} (hr:RelX N G w0 v0 U X f l a w γ v ℓ) (hU:∀ k,U k→X k) (hX:X n) (hn:¬ U n) {d:Option Nat} {t:TypeId} {x y:Operand} {o:Oper} {p q:V} {Post:Unit→Fr→Lo→Prop} (ho:o=⟨d,.call ⟨.builtin .append,#[x,y],#[t,t]⟩,ty,pos,aft,g⟩) (hd:∀ k,o.dst=some k→k<N) (hp:RV v γ l p (a.eval x)) (hq:RV v γ l q (a.eval y)) (hk:p.ok U) (hkq:q.ok U)
  (h:Zj n (appE C o n t p q) f l Post):Z8 C.P N G w0 v0 X o a w Post:=by
 unfold appE at h;split at h
 ·exact h.elim
 ·rename_i ei hei;obtain⟨hE,hby⟩:=ZKl hei;split at h
  ·rename_i u;obtain⟨en,he,h⟩:=h;obtain⟨k0,st0,L⟩:=en
   cases L with
   | own ty0 s xs0 fz0 =>
    obtain⟨ys,l1,γ1,v1,ℓ1,hB,r1,le1,q1⟩:=ZDc hn hX FU h hr hkq;obtain⟨en,he1,hC⟩:=hB;have hp1:=ZRa le1 hk hp;obtain⟨yy,hy0,_,hy⟩:=Z6 hp1 (λ_ e=>by cases e) rfl rfl;have hy0:a.eval x=yy:=(List.cons.inj hy0).1;have hy:=hy en he1;obtain⟨kk,st,L⟩:=en;obtain⟨hm,hkk⟩:=Zk he1;have hkk:kk=u:=hkk;subst hkk
    cases L with
    | own ty1 s' xs fz =>
     cases fz with
     | true=>exact hC.elim
     | false =>
      simp only at hC;split at hC
      ·rename_i ys' hys ht hs;obtain⟨c3,c4⟩:=ZY hys
       cases c3;cases c4
       have ht:=eQ ht;have hs:=eQ hs;obtain⟨_,hroom,hC⟩:=hC;obtain⟨ob,cap,g1,rfl⟩:=hy;obtain⟨es,E',h1,_,h2,h3,r2⟩:=r1.del he1;obtain⟨ob',cap',cs,f1,f2,rfl⟩:=h1;have f1:γ1 kk = .own ob' cap':=f1;rw[g1]at f1;cases f1;have hst:=r1.st.perm h3;obtain⟨σ,hσ,e1,e2⟩:=hst.ev2 x y;obtain⟨hq1,hq2⟩:=Zfm h;obtain⟨csq,hcq,hqe⟩:=Zcb hq hq2;have hcq':(ZF s.rep).rel v1 csq ys:=q1 _ hcq;obtain⟨qa,m,c,rfl⟩:=ZGg hcq';rw[Zcf hq1]at hqe;have hml:m=ys.length:=by obtain⟨_,_,e,_⟩:=hcq';cases e;rfl
       have hE':Elem C.P t ty1 s.rep.n ei.by_ ei.z:=by rw[ZH,← hs,← ht];exact hE
       have hσ':St N w0 v0 σ (.own ob ty1 s.rep.n xs.length cap cs :: E'.flatten) v1 a w:=by rw[ZH];exact hσ
       obtain⟨b',cap',cs2,w',hrun,hst',hrel⟩:=ZSe (ty:=ty) (A:=s.rep) hE' hσ' (i:=0) rfl hcq' (n':=(xs++(show List s.den from ys)).length) (by rw[lA,hml]) (Zrd hroom) hby;rw[hy0]at e1;rw[hqe]at e2;have hst':=hst'.bare;rw[ZH]at hst';subst ho;exact ZNf r2 hU hX hn hd h2 rfl hst' (ZQc f2 hrel) (Zmd hσ e1 e2 hrun) hC
      ·exact hC.elim
    | box _ _=>exact hC.elim
    | mid _ _ _ _ _ _=>exact hC.elim
    | mp _=>exact hC.elim
    | it _ _=>exact hC.elim
    | lst _ _ _ _=>exact hC.elim
    | mat _ _ _ _ _=>exact hC.elim
   | box _ _=>exact h.elim
   | mid _ _ _ _ _ _=>exact h.elim
   | mp _=>exact h.elim
   | it _ _=>exact h.elim
   | lst _ _ _ _=>exact Zhp hr hU hX hn hE hby ho hd (λe=>by cases e) (λu' e=>by cases e;exact⟨hp,hk⟩) hq hkq h
   | mat _ _ _ _ _=>exact Zor hr hU hX hn hE hby ho hd (λe=>by cases e) (λu' e=>by cases e;exact hp) hq h
  · -- a row
   rename_i u i hv cv s r;obtain⟨ys,l1,γ1,v1,ℓ1,hB,r1,le1,q1⟩:=ZDc hn hX FU h hr hkq;obtain⟨⟨kk,st,L⟩,he1,hC⟩:=hB;have hkk:kk=u:=(Zk he1).2;subst hkk;have hp1:=ZRa le1 hk hp;obtain⟨yy,hy0,_,hy⟩:=Z6 hp1 (λ_ e=>by cases e) rfl rfl;have hy0:a.eval x=yy:=(List.cons.inj hy0).1;have hy:=hy _ he1
   cases L with
   | mat ty1 ty2 s' m hv' =>
    simp only at hC;split at hC
    ·rename_i z b1 b2 hz b3 b4;have b1:=eQ b1;have b2:=eQ b2;have b3:=eQ b3;have b4:=eQ b4;subst b1 b2;obtain⟨c3,c4⟩:=ZY hz
     cases c3;cases c4
     obtain⟨_,hroom,hC⟩:=hC;obtain⟨ob,cap,rows,obi,capi,g1,g2,rfl,_,g6⟩:=hy rfl;obtain⟨m',c1,c2⟩:=g6 rfl;obtain⟨c5,c6⟩:=ZY c1
     cases c5;cases c6
     obtain⟨cs,ℓ2,E2,k1,r2,k2,k3,hst⟩:=r1.take hX hn he1 g1 g2 c2;obtain⟨σ,hσ,e1,e2⟩:=hst.ev2 x y;obtain⟨hq1,hq2⟩:=Zfm h;obtain⟨csq,hcq,hqe⟩:=Zcb hq hq2;have hcq':(ZF s.rep).rel v1 csq ys:=q1 _ hcq;obtain⟨qa,mm,c,rfl⟩:=ZGg hcq';rw[Zcf hq1]at hqe;have hml:mm=ys.length:=by obtain⟨_,_,e,_⟩:=hcq';cases e;rfl
     have hE':Elem C.P t ty2 s.rep.n ei.by_ ei.z:=by rw[ZH,← b4,← b3];exact hE
     have hσ':St N w0 v0 σ (.own obi ty2 s.rep.n r.length capi cs :: ℓ2) v1 a w:=by rw[ZH];exact hσ
     obtain⟨b',cap',cs2,w',hrun,hst',hrel⟩:=ZSe (ty:=ty) (A:=s.rep) hE' hσ' (i:=0) rfl hcq' (n':=(r++(show List s.den from ys)).length) (by rw[lA,hml]) (Zrd hroom) hby;rw[hy0]at e1;rw[hqe]at e2;have hst':=hst'.bare;rw[ZH]at hst';subst ho;exact ZNf r2 hU hX hn hd k2 k3 hst' (ZQc k1 hrel) (Zmd hσ e1 e2 hrun) hC
    ·exact hC.elim
   | box _ _=>exact hC.elim
   | own _ _ _ _=>exact hC.elim
   | mid _ _ _ _ _ _=>exact hC.elim
   | mp _=>exact hC.elim
   | it _ _=>exact hC.elim
   | lst _ _ _ _=>exact hC.elim
  ·split at h
   ·refine Zor hr hU hX hn hE hby ho hd (λ_=>?_) (λu' e=>by cases e) hq h;obtain⟨cs,h1,h2⟩:=hp;have h1:cs=[.slice none 0 0]:=h1;subst h1;exact h2
   ·refine Zhp hr hU hX hn hE hby ho hd (λ_=>?_) (λu' e=>by cases e) hq hkq h;obtain⟨cs,h1,h2⟩:=hp;have h1:cs=[.slice none 0 0]:=h1;subst h1;exact h2
   split at h
   ·rename_i s hs;split at h
    ·rename_i hsz;have hsz:=eQ hsz;obtain⟨ys,l1,γ1,v1,ℓ1,hB,r1,le1,q1⟩:=ZDc hn hX FU h hr hkq;obtain⟨_,hroom,hC⟩:=hB;obtain⟨E',h2,h3⟩:=r1.lr;have hx0:a.eval x = .slice none 0 0:=by
      obtain⟨cs,h1,h2⟩:=hp;have h1:cs=[.slice none 0 0]:=h1;subst h1;exact h2
     have hst:=(r1.st.perm h3).nilLoc ei.e s.rep.n;obtain⟨σ,hσ,e1,e2⟩:=hst.ev2 x y;obtain⟨hq1,hq2⟩:=Zfm h;obtain⟨csq,hcq,hqe⟩:=Zcb hq hq2;have hcq':(ZF s.rep).rel v1 csq ys:=q1 _ hcq;obtain⟨qa,m,c,rfl⟩:=ZGg hcq';rw[Zcf hq1]at hqe;have hml:m=ys.length:=by obtain⟨_,_,e,_⟩:=hcq';cases e;rfl
     have hE':Elem C.P t ei.e s.rep.n ei.by_ ei.z:=by rw[ZH,← hsz];exact hE
     obtain⟨b',cap',cs2,w',hrun,hst',hrel⟩:=ZSe (ty:=ty) (A:=s.rep) hE' hσ (i:=0) rfl hcq' (n':=(([]:List s.den)++(show List s.den from ys)).length) (by rw[lA,hml];rfl) (Zrd hroom) hby;rw[hx0]at e1;rw[hqe]at e2;have hst':=hst'.bare;rw[ZH]at hst';subst ho;exact ZNf r1 hU hX hn hd h2 rfl hst' (ZQc Zyf hrel) (Zmd hσ e1 e2 hrun) hC
    ·exact h.elim
   ·exact h.elim
  ·exact h.elim
end
end Go.Eng
namespace Go.Eng
open Go.RowKit
variable {P:Program} {K:Nat} {w0:Base} {v0:Zb} {σ:List (Nat×Value)} {ℓ:List Loc} {v:Zb} {a:Act} {w:World}
variable {d:Option Nat} {ty:TypeId} {pos:String} {aft:Array Edge} {g:Option (Nat×Bool)}
theorem ZSk (k:IntKind) (p q:Int):(Builtin.max2 (.int k p) (.int k q)).run P w = .ok (.int k (max p q)) w:=by
 simp only[Builtin.max2,Sem.run_pure];congr 2;by_cases h:q>p
 ·rw[iP h];omega
 ·rw[iN h];omega
theorem min2_eq (k:IntKind) (p q:Int):(Builtin.min2 (.int k p) (.int k q)).run P w = .ok (.int k (min p q)) w:=by
 simp only[Builtin.min2,Sem.run_pure];congr 2;by_cases h:q<p
 ·rw[iP h];omega
 ·rw[iN h];omega
theorem run_max (hS:St K w0 v0 σ ℓ v a w) {x y:Operand} {k:IntKind} {p q:Int} {ats:Array TypeId} (e:ev σ x=some (.int k p)) (e':ev σ y=some (.int k q)) :
  (execOp a.eval ⟨d,.call ⟨.builtin .max,#[x,y],ats⟩,ty,pos,aft,g⟩).run P w = .ok (.value (.int k (max p q))) w:=by
 simp[execOp,resolve,invoke,builtin,Builtin.max_,hS.eval e,hS.eval e',ZSk]
theorem run_min (hS:St K w0 v0 σ ℓ v a w) {x y:Operand} {k:IntKind} {p q:Int} {ats:Array TypeId} (e:ev σ x=some (.int k p)) (e':ev σ y=some (.int k q)) :
  (execOp a.eval ⟨d,.call ⟨.builtin .min,#[x,y],ats⟩,ty,pos,aft,g⟩).run P w = .ok (.value (.int k (min p q))) w:=by
 simp[execOp,resolve,invoke,builtin,Builtin.min_,hS.eval e,hS.eval e',min2_eq]
theorem Z8x (hS:St K w0 v0 σ ℓ v a w) {x y z:Operand} {k:IntKind} {p q r:Int} {ats:Array TypeId} (e:ev σ x=some (.int k p)) (e':ev σ y=some (.int k q)) (e2:ev σ z=some (.int k r)) :
  (execOp a.eval ⟨d,.call ⟨.builtin .max,#[x,y,z],ats⟩,ty,pos,aft,g⟩).run P w = .ok (.value (.int k (max (max p q) r))) w:=by
 simp[execOp,resolve,invoke,builtin,Builtin.max_,hS.eval e,hS.eval e',hS.eval e2,ZSk]
end Go.Eng
namespace Go.Eng
open Go.RowKit
section
variable {Q:Exit→Act→World→Prop} {a:Act} {w:World}
end
end Go.Eng
namespace Go.Eng
open Go.RowKit
theorem Zkt (off:Nat):∀ (l:List Value) (k:Nat) (acc:Array Value),off+k+l.length≤acc.size→(l.zipIdx k).foldl (λcs (c,j)=>cs.setIfInBounds (off+j) c) acc=(acc.toList.take (off+k)++l++acc.toList.drop (off+k+l.length)).toArray:=by
 intro l
 induction l with
 | nil=>intro k acc h;simp
 | cons y l ih =>
  intro k acc h;simp only[List.zipIdx_cons,List.foldl_cons];rw[ih (k+1) _ (by simp at h ⊢;omega)];congr 1;simp only[Array.toList_setIfInBounds];simp only[List.length_cons]at h;have hlt:off+k<acc.toList.length:=by simp;omega
  rw[List.take_set,List.drop_set_of_lt (by omega)];rw[List.set_eq_take_append_cons_drop,iP (by simp;simp at hlt;omega)];rw[List.take_take,Nat.min_eq_left (by omega)];have e1:((acc.toList.take (off+(k+1))).drop (off+k+1))=[]:=List.drop_of_length_le (by simp;omega);rw[e1];simp;congr 1;omega
theorem ZDk {place:Nat→Option (Nat×Nat)} {cells:Array Value} {i:Nat} {x:Value} {cs:List Value} {rest:List (Nat×Value)} {off:Nat} (hp:place i=some (off,cs.length)) (hx:x.cells=cs.toArray) (hc:off+cs.length≤cells.size) :
  Instr.fill place cells ((i,x) :: rest)=Instr.fill place (cells.toList.take off++cs++cells.toList.drop (off+cs.length)).toArray rest:=by
 have h1:¬ (x.cells.size≠cs.length || decide (off+x.cells.size>cells.size)):=by simp[hx,hc]
 conv=>lhs;unfold Instr.fill
 simp only[hp];rw[iN h1,hx];have:=Zkt off cs 0 cells (by omega);rw[← Array.foldl_toList];congr 1
 simpa using this
section
variable {P:Program} {N:Nat} {G:V→Value→Prop} {w0:Base} {v0:Zb} {U X:Nat→Prop} {f:Fr} {l:Lo} {a:Act} {w:World} {γ:Nat→Gh} {v:Zb} {ℓ:List Loc} {n:Nat}
variable {ty:TypeId} {pos:String} {aft:Array Edge} {g:Option (Nat×Bool)}
theorem ZHe {ρ:Type} (hr:RelX N G w0 v0 U X f l a w γ v ℓ):∀ {xs:List Operand} {k:V→Ev ρ} {Post:ρ→Fr→Lo→Prop},Zj n (ZRd xs k) f l Post→∃ c,RR v γ l true c (xs.map a.eval)∧c.ok U∧Zj n (k c) f l Post
 | [],k,Post,h=>⟨.nl,rfl,trivial,h⟩
 | x :: xs,k,Post,h=>by
  obtain⟨V',h1,h2,h3⟩:=ZB hr h
  have hnt:∀ c,V' ≠ .tup c:=λc e=>by subst e;exact h3.elim
  have h3':Zj n (ZRd xs λc=>k (.cons V' c)) f l Post:=by
   cases V' <;> first | exact h3 | exact h3.elim
  obtain⟨c,k1,k2,k3⟩:=ZHe hr h3';obtain⟨cs,q1,q2⟩:=Zcb h1 hnt;exact⟨.cons V' c,⟨cs,_,by rw[List.map_cons,q2],q1,k1⟩,⟨h2,k2⟩,k3⟩
theorem ZJw {ρ:Type} {g:Nat} {t:T} {x:V} {k:t.den→Ev ρ} {Post:ρ→Fr→Lo→Prop} (h:Zj n (conv g t x k) f l Post):x.isAgg=true∨x.isAgg=false∧x.size=1:=by
 cases x with
 | data s x =>
  cases ha:s.agg with
  | true=>exact .inl ha
  | false=>exact .inr ⟨ha,T_one ha⟩
 | nilS=>exact .inr ⟨rfl,rfl⟩
 | own u=>exact .inr ⟨rfl,rfl⟩
 | ptr u o=>exact .inr ⟨rfl,rfl⟩
 | agg c=>exact .inl rfl
 | _ =>
  cases g with
  | zero=>exact h.elim
  | succ g=>simp only[conv]at h;exact h.elim
theorem Zjx {x:V} {cs:List Value} (hf:x.isAgg=true∨x.isAgg=false∧x.size=1) (h:RR v γ l false x cs) (hp:cs.all plain=true):(x.val cs).cells=cs.toArray:=by
 rcases hf with ha | ⟨ha,hs⟩
 ·unfold V.val;rw[ha];rfl
 ·have e:=ZPf h hs ha;have hv:x.val cs=cs.headD undef:=by unfold V.val;rw[ha]
  rw[hv]at e ⊢;rw[e]at hp;have hp':plain (cs.headD undef)=true:=by simpa using hp
  have:=Z0c hp'
  conv=>rhs;rw[e]
  exact this
theorem Zow {ρ:Type} {t:T} (hn:¬ U n) (hX:X n):∀ {c:V} {k:List t.den→Ev ρ} {l:Lo} {γ:Nat→Gh} {v:Zb} {ℓ:List Loc} {Post:ρ→Fr→Lo→Prop},Zj n (convS t c k) f l Post→RelX N G w0 v0 U X f l a w γ v ℓ→c.ok U →
  ∃ xs l' γ' v' ℓ',Zj n (k xs) f l' Post∧RelX N G w0 v0 U X f l' a w γ' v' ℓ'∧Le U v γ l v' γ' l'∧∀ vals,RR v γ l true c vals→∃ css:List (List Value),t.rep.rels v' css.flatten xs∧css.length=xs.length∧vals.map Value.cells=css.map List.toArray∧∀ cs ∈ css,cs.length=t.n:=by
 intro c
 induction c with
 | nl =>
  intro k l γ v ℓ Post h hr hk;obtain⟨E,hE,_⟩:=hr.lr;exact⟨[],l,γ,v,ℓ,h,hr,Le.refl hE (Zb.le_refl _),λvals hv=>⟨[],rfl,rfl,by rw[show vals=[] from hv];rfl,λ_ h=>by cases h⟩⟩
 | cons x c _ ih =>
  intro k l γ v ℓ Post h hr hk;have hfit:=ZJw (n:=n) (f:=f) (l:=l) (g:=FU) (t:=t) (x:=x) h;obtain⟨y,l1,γ1,v1,ℓ1,h,r1,le1,q1⟩:=ZDc hn hX FU h hr hk.1;obtain⟨ys,l2,γ2,v2,ℓ2,h,r2,le2,q2⟩:=ih h r1 hk.2;refine⟨y :: ys,l2,γ2,v2,ℓ2,h,r2,le1.trans le2,λvals hv=>?_⟩;obtain⟨cs,vs,rfl,h1,h2⟩:=hv;have hrel:=q1 cs h1;obtain⟨css,k1,k2,k3,k4⟩:=q2 vs (Zsa le1 hk.2 h2);refine⟨cs :: css,⟨cs,css.flatten,rfl,Rep.mono _ le2.v hrel,k1⟩,by simp[k2],?_,λc hc=>?_⟩
  ·rw[List.map_cons,List.map_cons,k3,Zjx hfit h1 (Rep.flat _ hrel)]
  ·rcases List.mem_cons.1 hc with rfl | hc
   ·rw[Rep.len _ hrel,ZH]
   ·exact k4 c hc
 | _=>intro k l γ v ℓ Post h;exact h.elim
theorem ZVi {sz:Nat}:∀ (css:List (List Value)) (vals:List Value) (k:Nat) (cells:Array Value),vals.map Value.cells=css.map List.toArray→(∀ cs ∈ css,cs.length=sz)→cells.size=(k+css.length)*sz →
  Instr.fill (λi=>some (i*sz,sz)) cells (vals.zipIdx k |>.map λp=>(p.2,p.1))=some (cells.toList.take (k*sz)++css.flatten).toArray
 | [],[],k,cells,_,_,hc=>by
  simp only[List.length_nil,Nat.add_zero]at hc
  simp only[List.zipIdx_nil,List.map_nil,Instr.fill,List.flatten_nil,List.append_nil]
  rw[List.take_of_length_le (by simp[hc])]
 | cs :: css,x :: vals,k,cells,h,hs,hc=>by
  simp only[List.map_cons,List.cons.injEq]at h
  have hl:=hs cs (by simp)
  simp only[List.length_cons]at hc
  have hb:k*sz+sz+css.length*sz=cells.size:=by rw[hc,Nat.add_mul,Nat.succ_mul];omega
  simp only[List.zipIdx_cons,List.map_cons]
  rw[ZDk (cs:=cs) (off:=k*sz) (by rw[hl]) h.1 (by omega)]
  rw[ZVi css vals (k+1) _ h.2 (λc hc=>hs c (by simp[hc])) (by
   simp only[List.size_toArray,lA,List.length_take,List.length_drop,Array.length_toList]
   rw[hl,Nat.min_eq_left (by omega),Nat.add_mul,Nat.succ_mul];omega)]
  congr 2
  have e1:(cells.toList.take (k*sz)).length=k*sz:=by simp;omega
  rw[List.flatten_cons,← aAq,Nat.succ_mul]
  congr 1
  rw[List.take_append,List.take_of_length_le (by simp[hl];omega)]
  rw[show k*sz+sz-(cells.toList.take (k*sz)++cs).length=0 by rw[lA,e1,hl];omega]
  simp
 | [],_ :: _,_,_,h,_,_=>by simp at h
 | _ :: _,[],_,_,h,_,_=>by simp at h
theorem ZAp:∀ {ps:List (Nat×Operand)} {k:Nat},Zvk k ps=true→ps.map (λp=>(p.1,a.eval p.2))=((ps.map λp=>a.eval p.2).zipIdx k).map λp=>(p.2,p.1)
 | [],_,_=>rfl
 | p :: ps,k,h=>by
  simp only[Zvk]at h
  split at h
  ·rename_i hb
   have hb:=eQ hb
   simp only[List.map_cons,List.zipIdx_cons]
   rw[ZAp h,hb]
  ·cases h
theorem ZCl {t e:TypeId} {m sz:Nat} {inf:TypeInfo} {z:Value} {L:List (Nat×Value)} {cs:List Value} (ht:P.underlying t=some (.slice e)) (hi:P.info? e=some inf) (hz:inf.zero=some z) (hs:inf.size=sz) (hb:m*sz≤16777216)
  (hf:∀ zc:Array Value,Instr.fill (λi=>some (i*sz,sz)) ((Array.range (m*sz)).map (λi=>zc[i%zc.size]!)) L=some cs.toArray) (w:World):(Instr.buildSlice t m L.toArray).run P w = .ok (.slice (some ⟨w.heap.size,0,none⟩) m m) (w.alloc (.cells cs.toArray e)):=by
 subst hs;have hb:¬ (m*inf.size>2^24):=by omega
 unfold Instr.buildSlice;by_cases h0:m*inf.size=0
 ·have:=hf #[];simp only[h0]at this;simp[run_underlying ht,sizeOf,typeInfo,hi,h0] ; simp at this;simp[this,newRow]
 ·have:=hf z.cells;obtain⟨A,hA⟩:∃ A,A=(Array.range (m*inf.size)).map (λi=>z.cells[i%z.cells.size]!):=⟨_,rfl⟩;rw[← hA]at this;simp only[run_underlying ht,sizeOf,typeInfo,zeroValue];simp[run_underlying ht,typeInfo,hi,hz,h0,show ¬ (16777216<m*inf.size) by omega];rw[← hA,this];simp[newRow]
theorem Zyv {C:Cf} (hr:RelX N G w0 v0 U X f l a w γ v ℓ) (hU:∀ k,U k→X k) (hX:X n) (hn:¬ U n) {d:Option Nat} {t:TypeId} {m:Nat} {ps:Array (Nat×Operand)} {o:Oper} {Post:Unit→Fr→Lo→Prop} (ho:o=⟨d,.buildSlice t m ps,ty,pos,aft,g⟩) (hd:∀ k,o.dst=some k→k<N)
  (h:Zj n (ZK C n o) f l Post):Z8 C.P N G w0 v0 X o a w Post:=by
 subst ho;simp only[ZK]at h;split at h
 ·rename_i q hq;obtain⟨hE,hby⟩:=ZKl hq;split at h
  ·split at h
   ·rename_i x hps _ _;have hps:=hps;obtain⟨V1,h1,hk1,h⟩:=ZB hr h;split at h
    ·rename_i s hs;split at h
     ·rename_i b1 b2 b3 b4;have b1:=eQ b1;have b2:=eQ b2;have b4:=lB b4;obtain⟨cs,hcs,hqe⟩:=Zcb h1 (Zri b3);obtain⟨hcells,hpl⟩:=ZXh hcs b3;have hcells:(V1.val cs).cells=cs.toArray:=hcells;have hlen:cs.length=s.n:=(ZOc hcs).trans b2;obtain⟨E,hEE,hp⟩:=hr.lr;have hz:∀ w,(Instr.buildSlice t 1 (ps.toList.map λp=>(p.1,a.eval p.2)).toArray).run C.P w = .ok (.slice (some ⟨w.heap.size,0,none⟩) 1 1) (w.alloc (.cells cs.toArray q.e)):=by
       intro w;obtain⟨inf,hinf,hzz,hsz',hby'⟩:=info_parts hE.info;rw[hps,List.map_singleton];simp only[hqe];refine ZCl (sz:=q.sz) hE.ty hinf hzz hsz' (by omega) (λzc=>?_) w;have:=ZVi (sz:=q.sz) [cs] [V1.val cs] 0 ((Array.range (1*q.sz)).map (λi=>zc[i%zc.size]!)) (by simp[hcells]) (λc hc=>by rw[List.mem_singleton.1 hc,b1];exact hlen) (by simp)
       simpa using this
      have hst:=hr.st.perm hp;obtain⟨σ,hσ,hev⟩:=hst.evs (ps.toList.map (·.2));obtain⟨b,w',hrun,hst'⟩:=ZRf (P:=C.P) (t:=t) (e:=q.e) (sz:=s.n) (n:=1) hσ (by omega) (by decide) hz;have hev':ps.toList.map (λp=>(ev σ p.2).map λy=>(p.1,y))=(ps.toList.map λp=>(p.1,a.eval p.2)).map some:=by
       rw[List.map_map];refine List.map_congr_left λp hp=>?_;rw[hev p.2 (List.mem_map.2 ⟨p,hp,rfl⟩)];rfl
      exact Zpm (xs:=[]) (cs:=[]) hr hU hX hn hd hEE rfl hst'.bare Zyf hcs hk1 hpl hlen (hrun (d:=d) (ty:=ty) (pos:=pos) (aft:=aft) (g:=g) hev') h
     ·exact h.elim
    ·exact h.elim
   ·exact h.elim
  ·split at h
   ·rename_i x hps hps2;have hps:=hps;obtain⟨V1,h1,hk1,h⟩:=ZB hr h;split at h
    ·rename_i u2 q2 _ hq2 _;obtain⟨⟨k2,st2,L2⟩,he2,h⟩:=h;have hkk2:k2=u2:=(Zk he2).2;subst hkk2
     cases L2 with
     | own ty2 s xs fz =>
      cases fz with
      | true=>exact h.elim
      | false =>
       simp only at h;split at h
       ·rename_i b1 b2 b3;have b3:=eQ b3;obtain⟨es,E',g1,g2,g2',g3,r2⟩:=hr.del he2;obtain⟨ob2,cap2,cs2,f1,f2,rfl⟩:=g1;have f1:γ k2 = .own ob2 cap2:=f1;have hy0:a.eval x = .slice (mkA ob2) xs.length cap2:=by
         obtain⟨yq,hyq0,_,hyq⟩:=Z6 h1 (λ_ e=>by cases e) rfl rfl;obtain⟨oq,cq,gq1,gq2⟩:=hyq _ he2;rw[f1]at gq1;cases gq1;exact ((List.cons.inj hyq0).1).trans gq2
        have hcells:(Value.slice (mkA ob2) xs.length cap2).cells=[Value.slice (mkA ob2) xs.length cap2].toArray:=by cases ob2 <;> rfl
        have hz:∀ w,(Instr.buildSlice t 1 (ps.toList.map λp=>(p.1,a.eval p.2)).toArray).run C.P w = .ok (.slice (some ⟨w.heap.size,0,none⟩) 1 1) (w.alloc (.cells [Value.slice (mkA ob2) xs.length cap2].toArray q.e)):=by
         intro w;obtain⟨inf,hinf,hzz,hsz',hby'⟩:=info_parts hE.info;rw[hps,List.map_singleton];simp only[hy0];refine ZCl (sz:=1) hE.ty hinf hzz (hsz'.trans b3) (by decide) (λzc=>?_) w;have:=ZVi (sz:=1) [[Value.slice (mkA ob2) xs.length cap2]] [Value.slice (mkA ob2) xs.length cap2] 0 ((Array.range (1*1)).map (λi=>zc[i%zc.size]!)) (by simp[hcells]) (λcs hc=>by rw[List.mem_singleton.1 hc];rfl) (by simp)
         simpa using this
        have hst:=hr.st.perm g3;obtain⟨σ,hσ,hev⟩:=hst.evs (ps.toList.map (·.2));obtain⟨b,w',hrun,hst'⟩:=ZRf (P:=C.P) (t:=t) (e:=q.e) (sz:=1) hσ (by simp) (by decide) hz;have hev':ps.toList.map (λp=>(ev σ p.2).map λy=>(p.1,y))=(ps.toList.map λp=>(p.1,a.eval p.2)).map some:=by
         rw[List.map_map];refine List.map_congr_left λp hp=>?_;rw[hev p.2 (List.mem_map.2 ⟨p,hp,rfl⟩)];rfl
        exact Zbj (rows:=[(ob2,cap2)]) (m:=[xs]) r2 hU hX hn hd g2' rfl ⟨cs2,[],f2,rfl,rfl⟩ hst'.bare (hrun (d:=d) (ty:=ty) (pos:=pos) (aft:=aft) (g:=g) hev') h
       ·exact h.elim
     | box _ _=>exact h.elim
     | mat _ _ _ _ _=>exact h.elim
     | mid _ _ _ _ _ _=>exact h.elim
     | mp _=>exact h.elim
     | it _ _=>exact h.elim
     | lst _ _ _ _=>exact h.elim
    ·exact h.elim
   ·exact h.elim
  split at h
  ·rename_i s hs ho hlen hbig;have hlen:=eQ hlen;have hbig:=lB hbig;split at h
   ·rename_i hsz;have hsz:=eQ hsz;obtain⟨c,h1,h2,h⟩:=ZHe hr h;obtain⟨xs,l1,γ1,v1,ℓ1,h,r1,le1,q1⟩:=Zow hn hX h hr h2;obtain⟨css,k1,k2,k3,k4⟩:=q1 _ h1;obtain⟨E,hEE,hp⟩:=r1.lr;have hvl:css.length=m:=by
     have:=congrArg List.length k3;simp only[List.length_map]at this;omega
    have hflat:css.flatten.length=m*q.sz:=by
     have:=Z3a k1;rw[ZH,← k2,hvl,← hsz]at this;exact this
    have hz:∀ w,(Instr.buildSlice t m (ps.toList.map λp=>(p.1,a.eval p.2)).toArray).run C.P w = .ok (.slice (some ⟨w.heap.size,0,none⟩) m m) (w.alloc (.cells css.flatten.toArray q.e)):=by
     intro w;obtain⟨inf,hinf,hzz,hsz',hby'⟩:=info_parts hE.info;rw[ZAp ho];have hm:(ps.toList.map λp=>a.eval p.2)=(ps.toList.map (·.2)).map a.eval:=by rw[List.map_map];rfl
     rw[hm];have hf:∀ zc:Array Value,Instr.fill (λi=>some (i*q.sz,q.sz)) ((Array.range (m*q.sz)).map (λi=>zc[i%zc.size]!)) ((((ps.toList.map (·.2)).map a.eval).zipIdx).map λp=>(p.2,p.1))=some css.flatten.toArray:=λzc=>by
      have:=ZVi (sz:=q.sz) css ((ps.toList.map (·.2)).map a.eval) 0 ((Array.range (m*q.sz)).map (λi=>zc[i%zc.size]!)) k3 (λcs hc=>by rw[k4 cs hc,hsz]) (by simp[hvl]);rw[Nat.zero_mul,List.take_zero,List.nil_append]at this;exact this
     obtain⟨L,hL⟩:∃ L,L=((((ps.toList.map (·.2)).map a.eval).zipIdx).map λp=>(p.2,p.1)):=⟨_,rfl⟩;rw[← hL]at hf ⊢;clear hL;exact ZCl hE.ty hinf hzz hsz' hbig hf w
    have hst:=r1.st.perm hp;obtain⟨σ,hσ,hev⟩:=hst.evs (ps.toList.map (·.2));have hmax:m≤maxLen:=by
     have h1:m≤m*q.sz:=Nat.le_mul_of_pos_right _ hE.pos;unfold maxLen;omega
    obtain⟨b,w',hrun,hst'⟩:=ZRf (P:=C.P) (t:=t) (e:=q.e) hσ hflat hmax hz;have hev':ps.toList.map (λp=>(ev σ p.2).map λy=>(p.1,y))=(ps.toList.map λp=>(p.1,a.eval p.2)).map some:=by
     rw[List.map_map];refine List.map_congr_left λp hp=>?_;rw[hev p.2 (List.mem_map.2 ⟨p,hp,rfl⟩)];rfl
    have hxl:m=xs.length:=by omega
    have hst':=hst'.bare;rw[hsz,hxl]at hst';have hrun':=hrun (d:=d) (ty:=ty) (pos:=pos) (aft:=aft) (g:=g) hev'
    conv at hrun'=>rhs;rw[hxl]
    exact ZNf r1 hU hX hn hd hEE rfl hst' k1 hrun' h
   ·exact h.elim
  ·exact h.elim
 ·exact h.elim
end
end Go.Eng
namespace Go.Eng
open Go.RowKit
section
variable {P:Program} {K:Nat} {w0:Base} {v0:Zb} {σ:List (Nat×Value)} {ℓ:List Loc} {v:Zb} {a:Act} {w:World}
variable {d:Option Nat} {ty:TypeId} {pos:String} {aft:Array Edge} {g:Option (Nat×Bool)}
end
end Go.Eng
namespace Go.Eng
open Go.RowKit
def OwnI {α:Type} (A:Rep α) (T:TypeId) (sz:Nat) (l:List α) (ob0:Option Nat) (w:World) (r:Value) (v':Zb) (w':World):Prop :=
 ∃ ob n cap cs,r = .slice (mkA ob) n cap∧(Loc.own ob T sz n cap cs).holds w'∧(∀ b,ob=some b→(w.heap.size≤b∨ob0=some b)∧v' b=none)∧A.rels v' cs l∧n=l.length
section
variable {P:Program} {K:Nat} {w0:Base} {v0:Zb} {σ:List (Nat×Value)} {ℓ:List Loc} {v:Zb} {a:Act} {w:World}
theorem St.afterI {v':Zb} {w':World} (h:St K w0 v0 σ ℓ v a w) {i:Nat} {e e':Loc} (hi:ℓ[i]? = some e) (x:ExtB ⟨w,e.blk.toList⟩ w') (s:VStepB ⟨w,e.blk.toList⟩ v w' v') (hh:e'.holds w') (hb':∀ b,e'.blk=some b→(w.heap.size≤b∨e.blk=some b)∧v' b=none) :
  St K w0 v0 σ (e' :: ℓ.eraseIdx i) v' a w':=by
 obtain⟨he,hv⟩:=h.loc e (mG hi);have nl:∀ k,k<w0.wd.heap.size→k ∉ w0.lent→k ∉ e.blk.toList:=λk hk hl hm=>by
  have hm:e.blk=some k:=by simpa using hm
  rcases (hv k hm).1 with h' | h'
  ·omega
  ·exact hl h'
 have oth:∀ j y,ℓ[j]? = some y→j≠i→∀ b',y.blk=some b'→b'<w.heap.size∧e.blk≠some b'∧b' ∉ e.blk.toList:=λj y hj hji b' hb2=>by
  obtain⟨_,hg2⟩:=Loc.blk_get (h.loc y (mG hj)).1 hb2;have hne:e.blk≠some b':=λhb=>Zeh h.nd hi hb j y hj hji b' hb2 rfl;exact⟨Z9b hg2,hne,by simpa using hne⟩
 refine⟨h.size,h.dfr,h.fr,⟨x.os.trans h.ext.os,x.tape.trans h.ext.tape,x.output.trans h.ext.output,Nat.le_trans h.ext.size x.size,λk hk hl=>?_⟩,⟨Zb.le_trans h.vst.le s.le,s.vin,λk hk hl=>?_⟩,λy hy=>?_,?_⟩
 ·rw[x.block k (Nat.lt_of_lt_of_le hk h.ext.size) (nl k hk hl)];exact h.ext.block k hk hl
 ·rw[s.old k (Nat.lt_of_lt_of_le hk h.ext.size) (nl k hk hl)];exact h.vst.old k hk hl
 ·rcases List.mem_cons.1 hy with rfl | hy
  ·refine⟨hh,λb hb=>⟨?_,(hb' b hb).2⟩⟩;rcases (hb' b hb).1 with h1 | h1
   ·exact .inl (Nat.le_trans h.ext.size h1)
   ·exact (hv b h1).1
  ·obtain⟨j,hji,hj⟩:=List.mem_eraseIdx_iff_getElem?.1 hy;obtain⟨h1,h2⟩:=h.loc y (mG hj);have same:∀ b',y.blk=some b'→w'.heap[b']? = w.heap[b']?:=λb' hb2=>by
    obtain⟨o1,o2,o3⟩:=oth j y hj hji b' hb2;exact x.block b' o1 o3
   refine⟨?_,λb' hb2=>⟨(h2 b' hb2).1,?_⟩⟩
   ·cases y with
    | box b' T' cs=>show _=_;rw[same b' rfl];exact h1
    | own b' T' sz n cap cs =>
     cases b' with
     | none=>exact h1
     | some b'=>obtain⟨k1,c',k2,k3⟩:=h1;exact⟨k1,c',by rw[same b' rfl];exact k2,k3⟩
    | mp b' l=>obtain⟨es,c',k1,k2⟩:=h1;exact⟨es,c',by rw[same b' rfl];exact k1,k2⟩
    | it b' s p=>show _=_;rw[same b' rfl];exact h1
   ·obtain⟨o1,o2,o3⟩:=oth j y hj hji b' hb2;rw[s.old b' o1 o3];exact (h2 b' hb2).2
 ·have hsub:((ℓ.eraseIdx i).filterMap Loc.blk).Nodup:=h.nd.sublist ((List.eraseIdx_sublist ..).filterMap _)
  cases hb:e'.blk with
  | none=>rw[List.filterMap_cons_none hb];exact hsub
  | some b =>
   rw[List.filterMap_cons_some hb];refine List.nodup_cons.2 ⟨λhm=>?_,hsub⟩;obtain⟨y,hy,hyb⟩:=List.mem_filterMap.1 hm;obtain⟨j,hji,hj⟩:=List.mem_eraseIdx_iff_getElem?.1 hy;obtain⟨o1,o2,o3⟩:=oth j y hj hji b hyb;rcases (hb' b hb).1 with h1 | h1
   ·omega
   ·exact o2 h1
variable {d:Option Nat} {ty:TypeId} {pos:String} {aft:Array Edge} {g:Option (Nat×Bool)}
end
end Go.Eng
namespace Go.Eng
open Go.RowKit
section
variable {P:Program} {K:Nat} {w0:Base} {v0:Zb} {σ:List (Nat×Value)} {ℓ:List Loc} {v:Zb} {a:Act} {w:World}
variable {d:Option Nat} {ty:TypeId} {pos:String} {aft:Array Edge} {g:Option (Nat×Bool)}
end
end Go.Eng

namespace Go.Eng
noncomputable def Z5g (str:List UInt8) (plain:Bool):Option ((List UInt8)×(List UInt8)×Bool) :=
 bnd (Zi (σ:=Int) (ρ:=Int) (λa =>
 bnd (α:=Bool)
 (ifb (decide (a<(str.length:Int)))
 (bnd (idx str a) λf =>
 ifb (decide ((48:Int)≤((f.toNat:Nat):Int)))
 (bnd (idx str a) λg =>
 some (decide (((g.toNat:Nat):Int)≤(57:Int))))
 (some false))
 (some false)) λh =>
 ifb h
 (bnd (chk .i64 (a+(1:Int))) λi =>
 some (.inl i))
 (some (.inr a)))
  Zp (0:Int)) λb =>
 bnd (α:=(List UInt8)×(List UInt8)×Bool)
 (bnd (Zx str (0:Int) b) λc =>
 bnd (Zx str b (str.length:Int)) λd =>
 ifb (decide ((0:Int)<b))
 (ifb (!plain)
 (some (c,d,true))
 (ifb (b==(1:Int))
 (some (c,d,true))
 (bnd (idx str (0:Int)) λj =>
 some (c,d,((j.toNat:Nat):Int) != (48:Int)))))
 (some (c,d,false))) λe =>
 some (e.1,e.2.1,e.2.2)
noncomputable def ZVf (str:List UInt8):Option Nat :=
 bnd (Zi (σ:=(List UInt8)×Nat) (ρ:=Nat) (λa =>
 ifb (decide ((0:Int)<(a.1.length:Int)))
 (bnd (Zx a.1 (0:Int) (min (a.1.length:Int) (19:Int))) λc =>
 bnd (Zi (σ:=Int×Int×Int) (ρ:=Int×Int) (λb =>
 ifb (decide (b.2.2<((ZJa c).length:Int)))
 (bnd (idx (ZJa c) b.2.2) λe =>
 bnd (chk .i64 (b.2.2+(1:Int))) λf =>
 some (.inl (IntKind.u64.wrap ((IntKind.u64.wrap ((10:Int)*b.1))+(IntKind.u64.wrap (IntKind.u8.wrap (e-(48:Int))))),IntKind.u64.wrap (b.2.1*(10:Int)),f)))
 (some (.inr (b.1,b.2.1))))
     Zp ((0:Int),(1:Int),(0:Int))) λd =>
 bnd (Zbb d.2) λg =>
 bnd (Zpb a.2 g) λh =>
 bnd (Zbb d.1) λi =>
 bnd (ZGf h i) λj =>
 bnd (Zx a.1 (min (a.1.length:Int) (19:Int)) (a.1.length:Int)) λk =>
 some (.inl (k,j)))
 (some (.inr a.2)))
  Zp (str,(0:Nat))) λl =>
 some l
noncomputable def ZEg (str:List UInt8):Option Int :=
 bnd (Zi (σ:=Int) (ρ:=Int) (λa =>
 bnd (α:=Bool)
 (ifb (decide (a<(str.length:Int)))
 (bnd (idx str a) λb =>
 ifb (decide ((48:Int)≤((b.toNat:Nat):Int)))
 (bnd (idx str a) λc =>
 some (decide (((c.toNat:Nat):Int)≤(57:Int))))
 (some false))
 (some false)) λd =>
 ifb d
 (bnd (chk .i64 (a+(1:Int))) λe =>
 some (.inl e))
 (some (.inr a)))
  Zp (0:Int)) λf =>
 some f
noncomputable def Zxg (str:List UInt8):Option Int :=
 bnd (ZEg str) λa =>
 bnd (α:=Bool)
 (ifb (decide ((1:Int)<a))
 (bnd (idx str (0:Int)) λb =>
 some (((b.toNat:Nat):Int)==(48:Int)))
 (some false)) λc =>
 ifb c
 (some (0:Int))
 (some a)
theorem Zqh {l:List UInt8} (h:ZZa l) (hl:l.length≤4096):okN (dv 0 l):=by
 refine Zva (Nat.le_trans (ZIb (k:=4*l.length) ?_) (by omega));have a:=Z1f l h;have b:10^l.length≤16^l.length:=Nat.pow_le_pow_left (by decide) _;have d:(16:Nat)^l.length=2^(4*l.length):=(Nat.pow_mul 2 4 l.length).symm;omega
theorem ZCp {k:Nat} (h:k≤19):10^k≤10000000000000000000:=Nat.le_trans (Nat.pow_le_pow_right (by decide) h) (by decide)
theorem Zjw {y:List UInt8} (h:ZZa y) (hl:y.length≤19):Zi (σ:=Int×Int×Int) (ρ:=Int×Int) (λs3 =>
      ifb (decide (s3.2.2<((ZJa y).length:Int)))
      (bnd (idx (ZJa y) s3.2.2) λy4 =>
       bnd (chk .i64 (s3.2.2+(1:Int))) λy5 =>
       some (.inl (IntKind.u64.wrap ((IntKind.u64.wrap ((10:Int)*s3.1))+(IntKind.u64.wrap (IntKind.u8.wrap (y4-(48:Int))))),IntKind.u64.wrap (s3.2.1*(10:Int)),y5)))
      (some (.inr (s3.1,s3.2.1)))) Zp ((0:Int),(1:Int),(0:Int))=some (((dv 0 y:Nat):Int),((10^y.length:Nat):Int)):=by
  refine Zpe (r:=(((dv 0 y:Nat):Int),((10^y.length:Nat):Int))) (λk=>(((dv 0 (y.take k):Nat):Int),((10^k:Nat):Int),(k:Int))) y.length rfl (by omega) (λk hk=>?_) ?_
  · have hk':k<(ZJa y).length:=by rw[ZHc];exact hk
    have e:(ZJa y)[k]=(y[k].toNat:Int):=by simp[ZJa]
    have hc:=h y[k] (List.getElem_mem hk);have hd:ZZa (y.take k):=λc hc=>h c (List.mem_of_mem_take hc);have b:=Z1f _ hd;have tl:(y.take k).length=k:=by simp;omega
    rw[tl]at b;have p1:=ZCp (k:=k+1) (by omega);have p2:10^(k+1)=10^k*10:=Nat.pow_succ ..;have nx:dv 0 (y.take (k+1))=10*dv 0 (y.take k)+(y[k].toNat-48):=by rw[List.take_succ_eq_append_getElem hk,Zlm];rfl
    simp only;rw[ZHc,dT (by omega),Ze,Zm hk',Za,e,Zu (by omega) (by omega),Za,nx,p2];rw[show IntKind.u8.wrap ((y[k].toNat:Int)-48)=((y[k].toNat-48:Nat):Int) by rw[Zkd (ZMj.2 ⟨by omega,by omega⟩)];omega];rw[Zxd (show y[k].toNat-48<18446744073709551616 by omega),show (10:Int)*((dv 0 (y.take k):Nat):Int)=((10*dv 0 (y.take k):Nat):Int) by omega,Zxd (by omega),
      show ((10*dv 0 (y.take k):Nat):Int)+((y[k].toNat-48:Nat):Int)=((10*dv 0 (y.take k)+(y[k].toNat-48):Nat):Int) by omega,Zxd (by omega),
      show ((10^k:Nat):Int)*10=((10^k*10:Nat):Int) by omega,Zxd (by omega)]
    rfl
  · simp only;rw[ZHc,dFq (by omega),Zd,List.take_length]
def isD (c:UInt8):Bool:=decide ((48:Int)≤(c.toNat:Int))&&decide ((c.toNat:Int)≤57)
def Zn (s:List UInt8):Nat:=(s.takeWhile isD).length
theorem ZTl {c:UInt8} {s:List UInt8} (h:isD c=true):Zn (c :: s)=Zn s+1:=by simp[Zn,List.takeWhile_cons,h]
theorem Zln {c:UInt8} {s:List UInt8} (h:isD c=false):Zn (c :: s)=0:=by simp[Zn,List.takeWhile_cons,h]
theorem ZZd:∀ s:List UInt8,Zn s≤s.length
 | []=>Nat.le_refl _
 | c :: s=>by
  cases h:isD c with
  | true=>rw[ZTl h];have:=ZZd s;simp;omega
  | false=>rw[Zln h];omega
theorem Zkl:∀ (s:List UInt8) (k:Nat) (h:k<s.length),k<Zn s→isD s[k]=true
 | [],k,h,_=>by cases h
 | c :: s,k,h,hk=>by
  cases hc:isD c with
  | true =>
   rw[ZTl hc]at hk
   cases k with
   | zero=>exact hc
   | succ k=>exact Zkl s k (by simpa using h) (by omega)
  | false=>rw[Zln hc]at hk;omega
theorem ZYp:∀ (s:List UInt8) (h:Zn s<s.length),isD s[Zn s]=false
 | [],h=>by cases h
 | c :: s,h=>by
  cases hc:isD c with
  | true =>
   have e:=ZTl (s:=s) hc
   have h2:Zn s<s.length:=by rw[e]at h;simpa using h
   have:=ZYp s h2
   simp only[e,List.getElem_cons_succ]
   exact this
  | false =>
   have e:=Zln (s:=s) hc
   simp only[e,List.getElem_cons_zero]
   exact hc
theorem ZFg (s:List UInt8):ZZa (s.take (Zn s)):=by
 intro c hc;obtain⟨k,hk,e⟩:=List.getElem_of_mem hc;rw[List.length_take]at hk;have:=Zkl s k (by omega) (by omega);rw[List.getElem_take]at e;rw[← e];unfold isD at this;simp at this;omega
theorem isD_m (s:List UInt8) (i:Nat):(ifb (decide ((i:Int)<(s.length:Int)))
 (bnd (idx s (i:Int)) λy73 =>
 ifb (decide ((48:Int)≤(y73.toNat:Int)))
 (bnd (idx s (i:Int)) λy76 =>
 some (decide ((y76.toNat:Int)≤(57:Int))))
 (some false))
 (some false))=some (if h:i<s.length then isD s[i] else false):=by
 by_cases h:i<s.length
 ·rw[dT (by omega),Ze,Zm h,dif_pos h];simp only[Za];unfold isD
  cases decide ((48:Int)≤(s[i].toNat:Int)) <;> rfl
 ·rw[dFq (by omega),Zd,dif_neg h]
theorem Z7n (s:List UInt8) (hl:s.length≤4096):Zi (σ:=Int) (ρ:=Int) (λs1 =>
   bnd (α:=Bool)
   (ifb (decide (s1<(s.length:Int)))
    (bnd (idx s s1) λy2 =>
     ifb (decide ((48:Int)≤((y2.toNat:Nat):Int)))
     (bnd (idx s s1) λy3 =>
      some (decide (((y3.toNat:Nat):Int)≤(57:Int))))
     (some false))
    (some false)) λx4 =>
   ifb x4
   (bnd (chk .i64 (s1+(1:Int))) λy5 =>
    some (.inl y5))
   (some (.inr s1)))
  Zp (0:Int)=some ((Zn s:Nat):Int):=by
  have hle:=ZZd s;refine Zpe (λk=>(k:Int)) (Zn s) rfl (by omega) (λk hk=>?_) ?_
  · try simp only
    have hk':k<s.length:=by omega
    rw[isD_m,Za,dif_pos hk',Zkl s k hk' hk,Ze,Zu (by omega) (by omega),Za];rfl
  · try simp only
    rw[isD_m,Za];by_cases h0:Zn s<s.length
    · rw[dif_pos h0,ZYp s h0,Zd]
    · rw[dif_neg h0,Zd]
def okS (s:List UInt8) (plain:Bool):Bool:=decide (0<Zn s)&&(!plain || (decide (Zn s=1) || decide (s.getD 0 0≠48)))
theorem Z0r (s:List UInt8) (hl:s.length≤4096):ZEg s=some ((Zn s:Nat):Int):=by
 unfold ZEg;exact ZJ (Z7n s hl) rfl
theorem Z4o {s:List UInt8} (h:0<s.length):(((s[0].toNat:Nat):Int) != (48:Int))=decide (s.getD 0 0≠48):=by
 rw[Zlb h];by_cases e:s[0]=48
 ·rw[e];rfl
 ·rw[dT e];simp only[bne_iff_ne,ne_eq];exact λk=>e (UInt8.toNat.inj (by exact_mod_cast k))
theorem ZRq (s:List UInt8) (plain:Bool) (hl:s.length≤4096):Z5g s plain=some (s.take (Zn s),s.drop (Zn s),okS s plain):=by
 have hle:=ZZd s;unfold Z5g;refine ZJ (Z7n s hl) ?_;have c1:Zx s (0:Int) (Zn s:Int)=some (s.take (Zn s)):=by unfold Zx;rw[iP ⟨by omega,by omega,by omega⟩];simp
 have c2:Zx s (Zn s:Int) (s.length:Int)=some (s.drop (Zn s)):=by unfold Zx;rw[iP ⟨by omega,by omega,by omega⟩,tN,tN,List.take_of_length_le (Nat.le_refl _)]
 refine ZJ (y:=(s.take (Zn s),s.drop (Zn s),okS s plain)) ?_ rfl;rw[c1,Za,c2,Za];unfold okS;by_cases h0:0<Zn s
 ·rw[dT (show (0:Int)<(Zn s:Int) by omega),Ze,dT h0]
  cases plain with
  | false=>rfl
  | true =>
   rw[Bool.not_true,Zd];by_cases h1:Zn s=1
   ·rw[h1];rfl
   ·rw[show ((Zn s:Int)==1)=false from beq_false_of_ne (by omega),Zd,show idx s (0:Int)=some s[0] from Zm (i:=0) (by omega),Za,Z4o (by omega),dFq h1];rfl
 ·rw[dFq (by omega),Zd,dFq h0];rfl
theorem Zdq (s:List UInt8) (hl:s.length≤4096):Zxg s=some (if okS s true=true then ((Zn s:Nat):Int) else 0):=by
 have hle:=ZZd s;unfold Zxg;rw[Z0r s hl,Za];unfold okS;by_cases h1:(1:Int)<Zn s
 ·rw[dT h1,Ze,show idx s (0:Int)=some s[0] from Zm (i:=0) (by omega),Za,Za];have e:=Z4o (s:=s) (by omega);rw[show (((s[0].toNat:Nat):Int)==(48:Int)) = !(((s[0].toNat:Nat):Int) != (48:Int)) by simp[bne],e,dT (show 0<Zn s by omega),dFq (show ¬ Zn s=1 by omega)]
  cases decide (s.getD 0 0≠48) <;> rfl
 ·rw[dFq h1,Zd,Za,Zd];by_cases h0:Zn s=0
  ·rw[h0];rfl
  ·have:Zn s=1:=by omega
   rw[this];rfl
theorem px_loop {σ R:Type} {body:σ→Option (σ ⊕ R)} {F:Nat} {s:σ} {r:R} (I:σ→Prop) (μ:σ→Nat) (h0:I s) (hF:μ s<F)
  (h1:∀ s,I s→(∃ s',body s=some (.inl s')∧I s'∧μ s'<μ s)∨body s=some (.inr r)):Zi body F s=some r:=by
 induction F generalizing s with
 | zero=>omega
 | succ F ih =>
  unfold Zi;rcases h1 s h0 with ⟨s',e,hI,hm⟩ | e
  ·rw[e,Za];exact ih hI (by omega)
  ·rw[e,Za]
theorem Zxr {l:List UInt8} (h:ZZa l) (hl:l.length≤4096):ZVf l=some (dv 0 l):=by
 unfold ZVf;refine ZJ (y:=dv 0 l) ?_ rfl;refine px_loop (r:=dv 0 l) (s:=(l,0)) (λs:List UInt8×Nat=>∃ j,j≤l.length∧s=(l.drop j,dv 0 (l.take j))) (λs=>s.1.length) ⟨0,by omega,by simp[dv]⟩ (ZR (by simp only;omega)) ?_
 ·rintro⟨s,a⟩ ⟨j,hj,e⟩
  cases e
  have dl:(l.drop j).length=l.length-j:=List.length_drop;by_cases h0:j=l.length
  ·right;subst h0;simp only;rw[dFq (by omega),Zd,List.take_length]
  ·left;obtain⟨m,hm,hm1,hm2,hm3⟩:∃ m:Nat,min ((l.drop j).length:Int) (19:Int)=m∧0<m∧m≤19∧j+m≤l.length:=⟨min (l.drop j).length 19,by omega,by omega,by omega,by omega⟩;have c1:Zx (l.drop j) (0:Int) (m:Int)=some ((l.drop j).take m):=by unfold Zx;rw[iP ⟨by omega,by omega,by omega⟩];simp
   have c2:Zx (l.drop j) (m:Int) ((l.drop j).length:Int)=some (l.drop (j+m)):=by unfold Zx;rw[iP ⟨by omega,by omega,by omega⟩,tN,tN,List.take_of_length_le (Nat.le_refl _),List.drop_drop]
   have hD:ZZa ((l.drop j).take m):=λc hc=>h c (List.mem_of_mem_drop (List.mem_of_mem_take hc));have hT:ZZa (l.take j):=λc hc=>h c (List.mem_of_mem_take hc);have tl:((l.drop j).take m).length=m:=by simp;omega
   have hv:dv 0 (l.take (j+m))=dv 0 (l.take j)*10^m+dv 0 ((l.drop j).take m):=by rw[List.take_add,Zlm,Zvj,tl]
   have o1:okN (dv 0 (l.take j)):=Zqh hT (by simp;omega);have o2:okN (10^m):=Zmg (ZCp hm2) (by decide +kernel);have o3:okN (dv 0 (l.take j)*10^m):=Zmg (by omega) (Zqh (l:=l.take (j+m)) (λc hc=>h c (List.mem_of_mem_take hc)) (by simp;omega));have o4:okN (dv 0 ((l.drop j).take m)):=Zqh hD (by omega);refine⟨(l.drop (j+m),dv 0 (l.take (j+m))),?_,⟨j+m,hm3,rfl⟩,by simp only[List.length_drop];omega⟩;simp only;rw[dT (by omega),Ze,hm,c1,Za,Zjw hD (by omega)]
   try simp only
   unfold Zbb;simp only[Za,tN];rw[tl];unfold Zpb ZGf;rw[iP ⟨o1,o2⟩,Za,iP ⟨o3,o4⟩,Za,c2,Za,hv]
noncomputable def Zrf (str:List UInt8):Option Nat :=
 bnd (Zi (σ:=Nat×Int) (ρ:=Nat) (λa =>
 ifb (decide (a.2<(str.length:Int)))
 (bnd (ZQa [(10:Int)]) λb =>
 bnd (ZNd a.1 b) λc =>
 bnd (idx str a.2) λd =>
 bnd (Zoc (IntKind.u64.wrap (IntKind.u8.wrap (((d.toNat:Nat):Int)-(48:Int))))) λe =>
 bnd (ZGh c e) λf =>
 bnd (chk .i64 (a.2+(1:Int))) λg =>
 some (.inl (f,g)))
 (some (.inr a.1)))
  Zp ((0:Nat),(0:Int))) λh =>
 some h
theorem Zrq {l:List UInt8} (h:ZZa l):(Zc 4294967296 (dv 0 l)).length≤l.length:=by
 refine ZJd (Nat.lt_of_lt_of_le (Z1f l h) (Nat.pow_le_pow_left (by decide) _))
theorem Zgo {l:List UInt8} (h:ZZa l) (k:Nat):ZZa (l.take k):=λc hc=>h c (List.mem_of_mem_take hc)
theorem ZVk {l:List UInt8} (h:ZZa l) (hl:l.length≤10000000000):Zrf l=some (dv 0 l):=by
 unfold Zrf;have ten:ZQa [(10:Int)]=some 10:=by decide +kernel
 refine ZJ (y:=dv 0 l) (Zpe (λq=>(dv 0 (l.take q),(q:Int))) l.length (by simp[dv]) (by omega) (λq hq=>?_) ?_) rfl
 ·simp only;have e:l.take (q+1)=l.take q++[l[q]]:=by rw[List.take_succ_eq_append_getElem hq]
  have hd:=h _ (List.getElem_mem hq);have hs:=Zrq (Zgo h q);rw[List.length_take]at hs;have ev:dv 0 (l.take (q+1))=dv 0 (l.take q)*10+(l[q].toNat-48):=by rw[e,Zlm];unfold dv;simp;omega
  have hs2:(Zc 4294967296 (dv 0 (l.take q)*10)).length≤q+1:=by
   refine ZJd ?_;have:=Z1f _ (Zgo h q);rw[List.length_take,Nat.min_eq_left (by omega)]at this;have h2:10^q≤4294967296^q:=Nat.pow_le_pow_left (by decide) _;rw[Nat.pow_succ];omega
  have w1:IntKind.u64.wrap (IntKind.u8.wrap (((l[q].toNat:Nat):Int)-(48:Int)))=((l[q].toNat-48:Nat):Int):=by
   have e8:IntKind.u8.wrap (((l[q].toNat:Nat):Int)-(48:Int))=((l[q].toNat-48:Nat):Int):=by
    rw[show ((l[q].toNat:Nat):Int)-(48:Int)=((l[q].toNat-48:Nat):Int) by omega];exact Zkd (ZMj.2 (by omega))
   rw[e8];exact Zkd (Ztd.2 (by omega))
  have hs3:(Zc 4294967296 (l[q].toNat-48)).length≤1:=ZJd (by omega);rw[dT (by omega),Ze,ten,Za];unfold ZNd Zoc ZGh;rw[iP ⟨(by unfold ZT;omega),(by unfold ZT;have:(Zc 4294967296 10).length≤1:=ZJd (by omega);omega)⟩,Za,Zm hq,Za,w1,Za,tN,iP ⟨(by unfold ZT;omega),(by unfold ZT;omega)⟩,Za,Zu (by omega) (by omega),Za,ev];rfl
 ·simp only;rw[dFq (by omega),Zd,List.take_length]
theorem Zdk {α:Type} {l:List α} {i j:Nat} (h:i≤j) (hj:j≤l.length):Zx l (i:Int) (j:Int)=some ((l.take j).drop i):=by
 unfold Zx;rw[iP ⟨by omega,by omega,by omega⟩,tN,tN]
noncomputable def Zqk (str:List UInt8):Option (Rat×Int) :=
 ifb (decide ((4096:Int)<(str.length:Int)))
 (some ((0:Rat),(4:Int)))
 (bnd (α:=Bool)
 (ifb (decide ((0:Int)<(str.length:Int)))
 (bnd (idx str (0:Int)) λk =>
 some (((k.toNat:Nat):Int)==(45:Int)))
 (some false)) λg =>
 bnd (α:=List UInt8)
 (ifb g
 (bnd (Zx str (1:Int) (str.length:Int)) λl =>
 some l)
 (some str)) λm =>
 bnd (Z5g m true) λb =>
 ifb (!b.2.2)
 (some ((0:Rat),(2:Int)))
 (bnd (Zbb (1:Int)) λh =>
 bnd (α:=(Rat×Int) ⊕ ((List UInt8)×Nat))
 (ifb (b.2.1 != ([]:List UInt8))
 (bnd (idx b.2.1 (0:Int)) λd =>
 bnd (Zx b.2.1 (1:Int) (b.2.1.length:Int)) λn =>
 bnd (Z5g n (((d.toNat:Nat):Int)==(47:Int))) λc =>
 bnd (α:=Bool)
 (ifb (!c.2.2)
 (some true)
 (ifb (c.2.1 != ([]:List UInt8))
 (some true)
 (ifb (((d.toNat:Nat):Int) != (47:Int))
 (some (((d.toNat:Nat):Int) != (46:Int)))
 (some false)))) λo =>
 ifb o
 (some (.inl ((0:Rat),(2:Int))))
 (bnd (α:=(List UInt8)×Nat)
 (ifb (((d.toNat:Nat):Int)==(47:Int))
 (bnd (ZVf c.1) λp =>
 some (b.1,p))
 (bnd (ZNa (b.1++c.1)) λ_ =>
 bnd (Zi (σ:=Nat×(List UInt8×Nat)) (ρ:=Nat) (λa =>
 bnd (α:=Bool×(List UInt8×Nat))
 (ifb (decide (a.2.2<a.2.1.length))
 (bnd (ZOf a.2.1 a.2.2) λx =>
 some (true,a.2.1,(a.2.2+1)))
 (some (false,a.2.1,a.2.2))) λe =>
 ifb e.1
 (bnd (Zbb (10:Int)) λq =>
 bnd (Zpb a.1 q) λr =>
 some (.inl (r,e.2.1,e.2.2)))
 (some (.inr a.1)))
         Zp (h,c.1,0)) λs =>
 some (b.1++c.1,s))) λi =>
 some (.inr (i.1,i.2))))
 (some (.inr (b.1,h)))) λt =>
   match t with
| .inl j=>(some (j.1,j.2))
| .inr f=>(ifb (((Zc 18446744073709551616 f.2).length:Int)==(0:Int))
 (some ((0:Rat),(3:Int)))
 (bnd (ZVf f.1) λu =>
 bnd (Z1a g u) λv =>
 bnd (Zec v f.2) λw =>
 some (w,(0:Int))))))
noncomputable def Zck (str:List UInt8):Option (Rat×Int) :=
 bnd (ZSh (0:Int)) λc =>
 ifb (decide ((4096:Int)<(str.length:Int)))
 (some (c,(4:Int)))
 (bnd (α:=Bool)
 (ifb (decide ((0:Int)<(str.length:Int)))
 (bnd (idx str (0:Int)) λj =>
 some (((j.toNat:Nat):Int)==(45:Int)))
 (some false)) λd =>
 bnd (α:=List UInt8)
 (ifb d
 (bnd (Zx str (1:Int) (str.length:Int)) λk =>
 some k)
 (some str)) λe =>
 bnd (Zxg e) λh =>
 ifb (h==(0:Int))
 (some (c,(2:Int)))
 (bnd (Zx e (0:Int) h) λf =>
 bnd (Zx e h (e.length:Int)) λb =>
 ifb (b==([]:List UInt8))
 (bnd (Zrf f) λl =>
 bnd (ZQa [(1:Int)]) λm =>
 bnd (Z3c d l m) λn =>
 some (n,(0:Int)))
 (bnd (Zx b (1:Int) (b.length:Int)) λa =>
 bnd (α:=Bool)
 (bnd (idx b (0:Int)) λo =>
 ifb (((o.toNat:Nat):Int)==(47:Int))
 (bnd (Zxg a) λp =>
 ifb (decide ((0:Int)<p))
 (bnd (Zxg a) λq =>
 some (q==(a.length:Int)))
 (some false))
 (some false)) λr =>
 ifb r
 (bnd (Zrf a) λi =>
 ifb (((Zc 4294967296 i).length:Int)==(0:Int))
 (some (c,(3:Int)))
 (bnd (Zrf f) λs =>
 bnd (Z3c d s i) λt =>
 some (t,(0:Int))))
 (bnd (α:=Bool)
 (bnd (idx b (0:Int)) λu =>
 ifb (((u.toNat:Nat):Int)==(46:Int))
 (bnd (ZEg a) λv =>
 ifb (decide ((0:Int)<v))
 (bnd (ZEg a) λw =>
 some (w==(a.length:Int)))
 (some false))
 (some false)) λx =>
 ifb x
 (bnd (ZQa [(1:Int)]) λy =>
 bnd (Zi (σ:=Nat×Int) (ρ:=Nat) (λg =>
 ifb (decide (g.2<(a.length:Int)))
 (bnd (ZQa [(10:Int)]) λz =>
 bnd (ZNd g.1 z) λA =>
 bnd (chk .i64 (g.2+(1:Int))) λB =>
 some (.inl (A,B)))
 (some (.inr g.1)))
       Zp (y,(0:Int))) λC =>
 bnd (ZNa (f++a)) λ_ =>
 bnd (Zrf (f++a)) λD =>
 bnd (Z3c d D C) λE =>
 some (E,(0:Int)))
 (some (c,(2:Int)))))))
def num (g:Bool) (ds:List UInt8) (d:Nat):Rat:=mkRat (sgn g (dv 0 ds)) d
def prs0 (g:Bool) (b:List UInt8):Rat×Int :=
 if okS b true=false then (0,2) else match b.drop (Zn b) with
 | []=>(num g (b.take (Zn b)) 1,0)
 | c :: u=>if c=47 then (if okS u true=true∧Zn u=u.length then (if dv 0 u=0 then (0,3) else (num g (b.take (Zn b)) (dv 0 u),0)) else (0,2))
  else if c=46 then (if 0<Zn u∧Zn u=u.length then (num g (b.take (Zn b)++u) (10^u.length),0) else (0,2)) else (0,2)
def ZWb (s:List UInt8):Bool:=match s with | c :: _=>c==45 | []=>false
def prs (s:List UInt8):Rat×Int:=prs0 (ZWb s) (if ZWb s=true then s.drop 1 else s)
theorem Zse {c k:UInt8}:(((c.toNat:Nat):Int)==((k.toNat:Nat):Int))=(c==k):=by
 by_cases e:c=k
 ·subst e;simp
 ·rw[show (c==k)=false by simpa using e];refine beq_false_of_ne λh=>e (UInt8.toNat.inj (by exact_mod_cast h))
theorem Zlo (s:List UInt8):(ifb (decide ((0:Int)<(s.length:Int)))
   (bnd (idx s (0:Int)) λy1 =>
    some (((y1.toNat:Nat):Int)==(45:Int)))
   (some false))=some (ZWb s):=by
  cases s with
  | nil=>rfl
  | cons c s=>rw[dT (by simp),Ze,show idx (c :: s) (0:Int)=some c from Zm (l:=c :: s) (i:=0) (by simp),Za];exact congrArg some (Zse (k:=45))
theorem cut1 {s:List UInt8} (h:0<s.length):Zx s (1:Int) (s.length:Int)=some (s.drop 1):=by
 have:=Zdk (l:=s) (i:=1) (j:=s.length) (by omega) (Nat.le_refl _);rw[List.take_length]at this;exact this
theorem ZPs (s:List UInt8):(ifb (ZWb s)
   (bnd (Zx s (1:Int) (s.length:Int)) λy3 =>
    some y3)
   (some s))=some (if ZWb s=true then s.drop 1 else s):=by
  cases s with
  | nil=>rfl
  | cons c s =>
    cases h:ZWb (c :: s) with
    | true=>rw[Ze,cut1 (by simp),Za];rfl
    | false=>rw[Zd];rfl
theorem Z4j {B n:Nat} (hB:1<B):(((Zc B n).length:Int)==(0:Int))=decide (n=0):=by
 by_cases h:n=0
 ·subst h;rw[Z9];rfl
 ·rw[dFq h];have:=List.length_pos_iff.2 ((Zmc (n:=n) (B:=B) hB).2 h);exact beq_false_of_ne (by omega)
theorem p10 {k:Nat} (h:k≤4096):okN (10^k):=by
 refine Zva (Nat.le_trans (ZIb (k:=4*k+1) ?_) (by omega));have b:10^k≤16^k:=Nat.pow_le_pow_left (by decide) _;have d:(16:Nat)^k=2^(4*k):=(Nat.pow_mul 2 4 k).symm;rw[Nat.pow_succ];have:0<2^(4*k):=Nat.two_pow_pos _;omega
theorem Zil {g:Bool} {ds:List UInt8} {d:Nat} (h:ZZa ds) (hl:ds.length≤4096) (hd:okN d) (d0:d≠0):(bnd (ZVf ds) λy22=>bnd (Z1a g y22) λy23=>bnd (Zec y23 d) λy24=>some (y24,(0:Int)))=some (num g ds d,0):=by
 rw[Zxr h hl,Za];unfold Z1a;rw[Za];unfold Zec;have hn:okN (if g then -((dv 0 ds:Nat):Int) else ((dv 0 ds:Nat):Int)).natAbs:=by
  have:=Zqh h hl
  cases g with
  | true=>simpa using this
  | false=>simpa using this
 rw[iP ⟨hn,hd,d0⟩,Za];rfl
theorem Zns (s:List UInt8) (hl:s.length≤4096):Zqk s=some (prs s):=by
 unfold Zqk prs;rw[dFq (by omega),Zd,Zlo,Za,ZPs,Za];have hb:(if ZWb s=true then s.drop 1 else s).length≤4096:=by
  split
  ·simp;omega
  ·exact hl
 generalize (if ZWb s=true then s.drop 1 else s)=b at *;generalize ZWb s=g at *;rw[ZRq b true hb,Za];unfold prs0;simp only
 cases hk:okS b true with
 | false=>rfl
 | true =>
 simp only[Bool.not_true,Zd];rw[iN (by decide)];have hle:=ZZd b;have hD:=ZFg b;have hdl:(b.take (Zn b)).length≤4096:=by simp;omega
 have hrest:(b.drop (Zn b)).length≤4096:=by simp;omega
 have hsum:(b.take (Zn b)).length+(b.drop (Zn b)).length≤4096:=by simp;omega
 generalize b.take (Zn b)=ds at *;generalize b.drop (Zn b)=t at *;unfold Zbb;rw[Za]
 cases t with
 | nil =>
  refine ZJ (y:=.inr (ds,1)) rfl ?_;simp only;rw[Z4j (by decide),show decide (1=0)=false from rfl,Zd];exact Zil hD hdl (Zmg (m:=10) (by omega) (p10 (k:=1) (by omega))) (by decide)
 | cons c u =>
  have hu:u.length≤4096:=by simp at hrest;omega
  have hul:=ZZd u;have hUD:=ZFg u;have c0:idx (c :: u) (0:Int)=some c:=Zm (l:=c :: u) (i:=0) (by simp);have c1:Zx (c :: u) (1:Int) ((c :: u).length:Int)=some u:=cut1 (s:=c :: u) (by simp);rw[show ((c :: u) != ([]:List UInt8))=true from rfl,Ze,c0,Za,c1,Za,ZRq u _ hu,Za];simp only;rw[show (((c.toNat:Nat):Int)==(47:Int))=(c==47) from Zse (k:=47),show (((c.toNat:Nat):Int) != (47:Int))=(c != 47) by simp only[bne];rw[show (((c.toNat:Nat):Int)==(47:Int))=(c==47) from Zse (k:=47)],show (((c.toNat:Nat):Int) != (46:Int))=(c != 46) by simp only[bne];rw[show (((c.toNat:Nat):Int)==(46:Int))=(c==46) from Zse (k:=46)]];by_cases hfull:Zn u=u.length
  ·have ht:u.take (Zn u)=u:=by rw[hfull];exact List.take_length
   have hd:u.drop (Zn u)=[]:=by rw[hfull];exact List.drop_length
   have hU:ZZa u:=by rw[ht]at hUD;exact hUD
   rw[ht,hd];by_cases hc:c=47
   ·subst hc;simp only[if_true,beq_self_eq_true]
    cases ho:okS u true with
    | false=>rfl
    | true =>
     rw[iP ⟨rfl,hfull⟩];refine ZJ (y:=.inr (ds,dv 0 u)) ?_ ?_
     ·refine ZJ (y:=false) rfl ?_;rw[Zd];refine ZJ (y:=(ds,dv 0 u)) ?_ rfl;rw[Ze,Zxr hU hu,Za]
     simp only;rw[Z4j (by decide)];by_cases hz:dv 0 u=0
     ·rw[dT hz,Ze,iP hz]
     ·rw[dFq hz,Zd,iN hz];exact Zil hD hdl (Zqh hU hu) hz
   ·rw[iN hc,show (c==47)=false by simpa using hc,show (c != 47)=true by simpa using hc];by_cases h2:c=46
    ·subst h2;rw[iP rfl];by_cases h0:0<Zn u
     ·rw[iP ⟨h0,hfull⟩];have ho:okS u false=true:=by unfold okS;rw[dT h0];rfl
      rw[ho];refine ZJ (y:=.inr (ds++u,10^u.length)) ?_ ?_
      ·refine ZJ (y:=false) rfl ?_;rw[Zd];refine ZJ (y:=(ds++u,10^u.length)) ?_ rfl;rw[Zd];simp at hsum;unfold ZNa;rw[iP (by unfold maxLen;simp;omega),Za];refine ZJ (Zpe (r:=10^u.length) (λk=>(10^k,(u,k))) u.length rfl (by omega) (λk hk=>?_) ?_) rfl
       ·have hA:ZOf u k=some ((u[k].toNat:Nat):Int):=by
         have:=hU u[k] (List.getElem_mem hk);unfold ZOf;rw[List.getElem?_eq_getElem hk];simp only;rw[show Nat.blt u[k].toNat 128=true by simp[Nat.blt_eq];omega,show Nat.ble u.length maxLen=true by unfold maxLen;simp;omega]
        try simp only
        rw[dT (by omega),Ze,hA,Za,Za,Ze];unfold Zpb;rw[Za,iP ⟨p10 (by omega),p10 (k:=1) (by omega)⟩,Za,Nat.pow_succ];rfl
       ·try simp only
        rw[dFq (by omega),Zd,Za,Zd]
      simp only;rw[Z4j (by decide),dFq (by have:=Nat.pow_pos (n:=u.length) (show 0<10 by decide);omega),Zd];refine Zil (λc hc=>?_) (by simp;simp at hsum;omega) (p10 hu) (by have:=Nat.pow_pos (n:=u.length) (show 0<10 by decide);omega);rcases List.mem_append.1 hc with h | h
      ·exact hD c h
      ·exact hU c h
     ·rw[iN (λh=>h0 h.1)];have ho:okS u false=false:=by unfold okS;rw[dFq h0];rfl
      rw[ho];rfl
    ·rw[iN h2,show (c != 46)=true by simpa using h2]
     cases okS u false <;> rfl
  ·have hd:u.drop (Zn u)≠[]:=by
    intro h;have:=congrArg List.length h;simp at this;omega
   rw[show (u.drop (Zn u) != [])=true by simpa using hd];rw[iN (show ¬ (okS u true=true∧Zn u=u.length) from λh=>hfull h.2),iN (show ¬ (0<Zn u∧Zn u=u.length) from λh=>hfull h.2)];have hr:(if c=47 then ((0:Rat),(2:Int)) else if c=46 then (0,2) else (0,2))=(0,2):=by split <;> simp
   rw[hr]
   cases okS u (c==47) <;> rfl
theorem sm_D {l:List UInt8} (h:ZZa l) (hl:l.length≤10000):Z1 (dv 0 l):=by
 have:=Zrq h;unfold Z1;omega
theorem Zlj {k:Nat} (h:k≤10000):Z1 (10^k):=by
 have:(Zc 4294967296 (10^k)).length≤k+1:=by
  refine ZJd ?_;have h2:10^k≤4294967296^k:=Nat.pow_le_pow_left (by decide) _;have h3:0<4294967296^k:=Nat.pow_pos (by decide);rw[Nat.pow_succ];omega
 unfold Z1;omega
theorem ok_sm {n:Nat} (h:Z1 n):ZT n:=by unfold Z1 at h;unfold ZT;omega
theorem Zal {g:Bool} {ds:List UInt8} {d:Nat} (h:ZZa ds) (hl:ds.length≤10000) (hd:Z1 d) (d0:d≠0):Z3c g (dv 0 ds) d=some (num g ds d):=by
 unfold Z3c;rw[iP ⟨sm_D h hl,hd,d0⟩];rfl
theorem ZKw (s:List UInt8) (hl:s.length≤4096):Zck s=some (prs s):=by
  have one32:ZQa [(1:Int)]=some 1:=by decide +kernel
  have ten:ZQa [(10:Int)]=some 10:=by decide +kernel
  unfold Zck prs;rw[show ZSh (0:Int)=some (0:Rat) from rfl,Za,dFq (by omega),Zd,Zlo,Za,ZPs,Za];have hb:(if ZWb s=true then s.drop 1 else s).length≤4096:=by
    split
    · simp;omega
    · exact hl
  generalize (if ZWb s=true then s.drop 1 else s)=b at *;generalize ZWb s=g at *;rw[Zdq b hb,Za];unfold prs0;have hle:=ZZd b
  cases hk:okS b true with
  | false=>rfl
  | true =>
  have hpos:0<Zn b:=by
    unfold okS at hk;by_cases h:0<Zn b
    · exact h
    · rw[dFq h]at hk;cases hk
  rw[iP rfl,iN (by decide),show (((Zn b:Nat):Int)==(0:Int))=false from beq_false_of_ne (by omega),Zd];have c1:Zx b (0:Int) (Zn b:Int)=some (b.take (Zn b)):=by unfold Zx;rw[iP ⟨by omega,by omega,by omega⟩];simp
  have c2:Zx b (Zn b:Int) (b.length:Int)=some (b.drop (Zn b)):=by unfold Zx;rw[iP ⟨by omega,by omega,by omega⟩,tN,tN,List.take_of_length_le (Nat.le_refl _)]
  rw[c1,Za,c2,Za];have hD:=ZFg b;have hdl:(b.take (Zn b)).length≤4096:=by simp;omega
  have hrest:(b.drop (Zn b)).length≤4096:=by simp;omega
  generalize b.take (Zn b)=ds at *;generalize b.drop (Zn b)=t at *;have hR:=ZVk hD (by omega)
  cases t with
  | nil =>
    rw[show (([]:List UInt8)==([]:List UInt8))=true from rfl,Ze,hR,Za,one32,Za,Zal hD (by omega) (Zlj (k:=0) (by omega)) (by decide),Za]
  | cons c u =>
    have hu:u.length≤4096:=by simp at hrest;omega
    have hul:=ZZd u;have hUD:=ZFg u;have c0:idx (c :: u) (0:Int)=some c:=Zm (l:=c :: u) (i:=0) (by simp);have c1:Zx (c :: u) (1:Int) ((c :: u).length:Int)=some u:=cut1 (s:=c :: u) (by simp);rw[show ((c :: u)==([]:List UInt8))=false from rfl,Zd,c1,Za,c0,Za,Za,Zdq u hu,Z0r u hu];rw[show (((c.toNat:Nat):Int)==(47:Int))=(c==47) from Zse (k:=47),show (((c.toNat:Nat):Int)==(46:Int))=(c==46) from Zse (k:=46)];have e47:(bnd (some (if okS u true=true then ((Zn u:Nat):Int) else 0)) λy14 =>
      ifb (decide ((0:Int)<y14))
      (bnd (some (if okS u true=true then ((Zn u:Nat):Int) else 0)) λy15 =>
       some (y15==(u.length:Int)))
      (some false))=some (decide (okS u true=true∧Zn u=u.length)):=by
      rw[Za,Za]
      cases ho:okS u true with
      | false=>rfl
      | true =>
        have hp:0<Zn u:=by
          unfold okS at ho;by_cases h:0<Zn u
          · exact h
          · rw[dFq h]at ho;cases ho
        rw[iP rfl,dT (by omega),Ze];by_cases hf:Zn u=u.length
        · rw[hf,dT ⟨rfl,rfl⟩];simp
        · rw[dFq (λh=>hf h.2)];exact congrArg some (beq_false_of_ne (by omega))
    have e46:(bnd (some ((Zn u:Nat):Int)) λy21 =>
       ifb (decide ((0:Int)<y21))
       (bnd (some ((Zn u:Nat):Int)) λy22 =>
        some (y22==(u.length:Int)))
       (some false))=some (decide (0<Zn u∧Zn u=u.length)):=by
      rw[Za,Za];by_cases hp:0<Zn u
      · rw[dT (by omega),Ze];by_cases hf:Zn u=u.length
        · rw[dT (show 0<Zn u∧Zn u=u.length from ⟨hp,hf⟩),hf];simp
        · rw[dFq (show ¬ (0<Zn u∧Zn u=u.length) from λh=>hf h.2)];exact congrArg some (beq_false_of_ne (by omega))
      · rw[dFq (by omega),Zd,dFq (show ¬ (0<Zn u∧Zn u=u.length) from λh=>hp h.1)]
    rw[e47,e46];simp only;by_cases hc:c=47
    · subst hc;simp only[if_true,beq_self_eq_true];by_cases h:okS u true=true∧Zn u=u.length
      · have ht:u.take (Zn u)=u:=by rw[h.2];exact List.take_length
        have hU:ZZa u:=by rw[ht]at hUD;exact hUD
        rw[Ze,Za,dT h,Ze,iP h,ZVk hU (by omega),Za,Z4j (by decide)];by_cases hz:dv 0 u=0
        · rw[dT hz,Ze,iP hz]
        · rw[dFq hz,Zd,iN hz,hR,Za,Zal hD (by omega) (sm_D hU (by omega)) hz,Za]
      · rw[Ze,Za,dFq h,Zd,iN h];rfl
    · rw[iN hc,show (c==47)=false by simpa using hc,Zd,Za,Zd];by_cases h2:c=46
      · subst h2;rw[iP rfl];by_cases h:0<Zn u∧Zn u=u.length
        · have ht:u.take (Zn u)=u:=by rw[h.2];exact List.take_length
          have hU:ZZa u:=by rw[ht]at hUD;exact hUD
          have hA:ZZa (ds++u):=λc hc=>by
            rcases List.mem_append.1 hc with h | h
            · exact hD c h
            · exact hU c h
          have hal:(ds++u).length≤10000:=by simp;omega
          rw[show ((46:UInt8)==46)=true from rfl,Ze,Za,dT h,Ze,iP h,one32,Za];refine ZJ (Zpe (r:=10^u.length) (λk=>(10^k,(k:Int))) u.length rfl (by omega) (λk hk=>?_) ?_) ?_
          · try simp only
            rw[dT (by omega),Ze,ten,Za];unfold ZNd;rw[iP ⟨ok_sm (Zlj (by omega)),ok_sm (Zlj (k:=1) (by omega))⟩,Za,Zu (by omega) (by omega),Za,Nat.pow_succ];rfl
          · try simp only
            rw[dFq (by omega),Zd]
          · unfold ZNa;rw[iP (by unfold maxLen;omega),Za,ZVk hA (by omega),Za,Zal hA hal (Zlj (by omega)) (by have:=Nat.pow_pos (n:=u.length) (show 0<10 by decide);omega),Za]
        · rw[show ((46:UInt8)==46)=true from rfl,Ze,Za,dFq h,Zd,iN h]
      · rw[iN h2,show (c==46)=false by simpa using h2,Zd,Za,Zd]
def Zo (c:UInt8):List UInt8→List (List UInt8)
| []=>[[]]
| x :: r=>if x=c then [] :: Zo c r else match Zo c r with
| []=>[[x]]
| h :: t=>(x :: h) :: t
def Zbd (str sep:List UInt8):Option (List (List UInt8)):=match sep with
| [c]=>if str.length<4294967281 then some (Zo c str) else none
| _=>none
noncomputable def Zpi (str:List UInt8):Option (List (List UInt8)) :=
 bnd (Zi (σ:=(List (List UInt8))×Int×Int) (ρ:=(List (List UInt8)) ⊕ (List (List UInt8))) (λa =>
 ifb (decide (a.2.2≤(str.length:Int)))
 (bnd (α:=(List (List UInt8)) ⊕ ((List (List UInt8))×Int))
 (bnd (α:=Bool)
 (ifb (decide (a.2.2<(str.length:Int)))
 (bnd (idx str a.2.2) λd =>
 some (((d.toNat:Nat):Int) != (32:Int)))
 (some false)) λe =>
 ifb e
 (some (.inr (a.1,a.2.1)))
 (ifb (a.2.2==a.2.1)
 (some (.inl ([]:List (List UInt8))))
 (bnd (Zx str a.2.1 a.2.2) λb =>
 bnd (ZL 16 (a.1++[b])) λ_ =>
 bnd (chk .i64 (a.2.2+(1:Int))) λf =>
 some (.inr (a.1++[b],f))))) λg =>
    match g with
| .inl h=>(some (.inr (.inr h)))
| .inr c=>(bnd (chk .i64 (a.2.2+(1:Int))) λi =>
 some (.inl (c.1,c.2,i))))
 (some (.inr (.inl a.1))))
  Zp (([]:List (List UInt8)),(0:Int),(0:Int))) λj =>
 match j with
| .inl k=>(some k)
| .inr l=>(some l)
theorem Zcu {σ R:Type} {body:σ→Option (σ ⊕ R)} {F:Nat} {s:σ} (Q:R→Prop) (I:σ→Prop) (μ:σ→Nat) (h0:I s) (hF:μ s<F)
  (h1:∀ s,I s→(∃ s',body s=some (.inl s')∧I s'∧μ s'<μ s) ∨ ∃ r,body s=some (.inr r)∧Q r):∃ r,Zi body F s=some r∧Q r:=by
 induction F generalizing s with
 | zero=>omega
 | succ F ih =>
  unfold Zi;rcases h1 s h0 with ⟨s',e,hI,hm⟩ | ⟨r,e,hQ⟩
  ·rw[e,Za];exact ih hI (by omega)
  ·rw[e,Za];exact⟨r,rfl,hQ⟩
theorem Zhs {σ R α:Type} {body:σ→Option (σ ⊕ R)} {F:Nat} {s:σ} {f:R→Option α} {z:Option α} (Q:R→Prop) (I:σ→Prop) (μ:σ→Nat) (h0:I s) (hF:μ s<F) (hz:∀ r,Q r→f r=z)
  (h1:∀ s,I s→(∃ s',body s=some (.inl s')∧I s'∧μ s'<μ s) ∨ ∃ r,body s=some (.inr r)∧Q r):bnd (Zi body F s) f=z:=by
 obtain⟨r,e,h⟩:=Zcu Q I μ h0 hF h1;rw[e,Za];exact hz r h
def wW:List (List UInt8)→List UInt8→List UInt8→List (List UInt8)
 | acc,cur,[]=>if cur=[] then [] else acc++[cur]
 | acc,cur,c :: r=>if c=32 then (if cur=[] then [] else wW (acc++[cur]) [] r) else wW acc (cur++[c]) r
def Zsb (cur:List UInt8):List (List UInt8)→List (List UInt8)
 | []=>[cur]
 | h :: t=>(cur++h) :: t
def noE (l:List (List UInt8)):List (List UInt8):=if [] ∈ l then [] else l
theorem ZCh (c:UInt8) (l:List UInt8):Zsb [] (Zo c l)=Zo c l:=by
 cases h:Zo c l with
 | nil =>
  cases l with
  | nil=>simp[Zo]at h
  | cons x r=>unfold Zo at h;split at h <;> (try split at h) <;> simp at h
 | cons a t=>simp[Zsb]
theorem wW_eq:∀ (r:List UInt8) (acc:List (List UInt8)) (cur:List UInt8),wW acc cur r=if [] ∈ Zsb cur (Zo 32 r) then [] else acc++Zsb cur (Zo 32 r)
 | [],acc,cur=>by
  unfold wW Zo Zsb
  by_cases h:cur=[]
  ·subst h;simp
  ·rw[iN h,iN (by simp;exact h)];simp
 | c :: r,acc,cur=>by
  unfold wW
  by_cases hc:c=32
  ·rw[iP hc]
   have e:Zo 32 (c :: r)=[] :: Zo 32 r:=by rw[Zo,iP hc]
   rw[e]
   rw[show Zsb cur ([] :: Zo 32 r)=cur :: Zo 32 r by simp[Zsb]]
   by_cases h:cur=[]
   ·subst h;simp
   ·rw[iN h,wW_eq r,ZCh]
    by_cases hm:[] ∈ Zo 32 r
    ·rw[iP hm,iP (List.mem_cons_of_mem _ hm)]
    ·rw[iN hm,iN (by simp;exact⟨h,hm⟩)];simp
  ·rw[iN hc,wW_eq r]
   have e:∃ h t,Zo 32 r=h :: t∧Zo 32 (c :: r)=(c :: h) :: t:=by
    cases h:Zo 32 r with
    | nil=>have:=ZCh 32 r;rw[h]at this;simp[Zsb]at this
    | cons a t=>exact⟨a,t,rfl,by rw[Zo,iN hc,h]⟩
   obtain⟨h,t,e1,e2⟩:=e;rw[e1,e2];simp[Zsb]
theorem byteq' (c k:UInt8):(((c.toNat:Nat):Int)==((k.toNat:Nat):Int))=(c==k):=by
 by_cases e:c=k
 ·subst e;simp
 ·rw[show (c==k)=false by simpa using e];refine beq_false_of_ne λh=>e (UInt8.toNat.inj (by exact_mod_cast h))
def ws (s:List UInt8):List (List UInt8):=noE (Zo 32 s)
theorem ws_wW (s:List UInt8):wW [] [] s=ws s:=by
 rw[wW_eq,ZCh];unfold ws noE;simp
theorem ZIk {s:List UInt8} {i j:Nat} (h:i≤j) (hj:j≤s.length):Zx s (i:Int) (j:Int)=some ((s.take j).drop i):=Zdk h hj
theorem Zly (s:List UInt8) (hl:s.length≤65536):Zpi s=some (ws s):=by
  unfold Zpi;refine Zhs (λr:(List (List UInt8)) ⊕ (List (List UInt8))=>r = .inl (ws s)∨r = .inr (ws s))
   (λz=>∃ (acc:List (List UInt8)) (a i:Nat),z=(acc,(a:Int),(i:Int))∧acc.length≤i∧((i≤s.length∧a≤i∧wW acc ((s.take i).drop a) (s.drop i)=ws s)∨(i=s.length+1∧acc=ws s)))
   (λz=>((s.length:Int)+2-z.2.2).toNat) ⟨[],0,0,rfl,Nat.le_refl _,.inl ⟨Nat.zero_le _,Nat.le_refl _,by simpa using ws_wW s⟩⟩ (ZR (by simp only;omega)) ?_ ?_
  · rintro r (rfl | rfl) <;> rfl
  rintro⟨acc,a',i'⟩ ⟨acc2,a,i,e,hacc,hI⟩
  cases e
  rcases hI with ⟨hi,ha,hw⟩ | ⟨hi,hw⟩
  · have hroom:∀ y:List UInt8,ZL 16 (acc++[y])=some ():=λy=>by
      unfold ZL;rw[iP (by simp;omega)]
    by_cases h0:i=s.length
    · subst h0;have cm:=ZIk (s:=s) ha (Nat.le_refl _);rw[List.take_length]at cm hw;rw[List.drop_length]at hw;unfold wW at hw;by_cases hx:s.length=a
      · right;subst hx;rw[List.drop_length,iP rfl]at hw;refine⟨.inr [],?_,.inr (by rw[hw])⟩
        try simp only
        rw[dT (by omega),Ze,dFq (by omega),Zd,Za,Zd,show ((s.length:Int)==(s.length:Int))=true by simp,Ze,Za]
      · left;have hne:s.drop a≠[]:=λe=>by have:=congrArg List.length e;simp at this;omega
        rw[iN hne]at hw;refine⟨(acc++[s.drop a],((s.length+1:Nat):Int),((s.length+1:Nat):Int)),?_,⟨_,_,_,rfl,by simp;omega,.inr ⟨rfl,hw⟩⟩,by simp only;omega⟩
        try simp only
        rw[dT (by omega),Ze,dFq (by omega),Zd,Za,Zd,show ((s.length:Int)==(a:Int))=false from beq_false_of_ne (by omega),Zd,cm,Za,hroom,Za,Zu (by omega) (by omega),Za,Za]
        try simp only
        rw[Za];rfl
    · have hlt:i<s.length:=by omega
      have hdr:s.drop i=s[i] :: s.drop (i+1):=List.drop_eq_getElem_cons hlt;rw[hdr]at hw;unfold wW at hw;have hb:(((s[i].toNat:Nat):Int) != (32:Int)) = !(s[i]==32):=by
        simp only[bne];rw[show (((s[i].toNat:Nat):Int)==(32:Int))=(s[i]==32) from byteq' s[i] 32]
      have hjn:(s.take (i+1)).drop a=(s.take i).drop a++[s[i]]:=by
        rw[List.take_succ_eq_append_getElem hlt,List.drop_append_of_le_length (by simp;omega)]
      by_cases hc:s[i]=32
      · rw[iP hc]at hw;have cm:=ZIk (s:=s) ha (by omega:i≤s.length);by_cases hx:i=a
        · right;subst hx;have hz:(s.take i).drop i=[]:=by rw[List.drop_eq_nil_iff];simp;omega
          rw[hz,iP rfl]at hw;refine⟨.inr [],?_,.inr (by rw[hw])⟩
          try simp only
          rw[dT (by omega),Ze,dT (by omega),Ze,Zm hlt,Za,hb,show (s[i]==32)=true by simpa using hc,Za,Bool.not_true,Zd,show ((i:Int)==(i:Int))=true by simp,Ze,Za]
        · left;have hne:(s.take i).drop a≠[]:=λe=>by rw[List.drop_eq_nil_iff]at e;simp at e;omega
          rw[iN hne]at hw;have hz:(s.take (i+1)).drop (i+1)=[]:=by rw[List.drop_eq_nil_iff];simp;omega
          refine⟨(acc++[(s.take i).drop a],((i+1:Nat):Int),((i+1:Nat):Int)),?_,⟨_,_,_,rfl,by simp;omega,.inl ⟨by omega,by omega,by rw[hz];exact hw⟩⟩,by simp only;omega⟩
          try simp only
          rw[dT (by omega),Ze,dT (by omega),Ze,Zm hlt,Za,hb,show (s[i]==32)=true by simpa using hc,Za,Bool.not_true,Zd,show ((i:Int)==(a:Int))=false from beq_false_of_ne (by omega),Zd,cm,Za,hroom,Za,Zu (by omega) (by omega),Za,Za]
          try simp only
          rw[Za];rfl
      · rw[iN hc]at hw;left;refine⟨(acc,(a:Int),((i+1:Nat):Int)),?_,⟨_,_,_,rfl,by omega,.inl ⟨by omega,by omega,by rw[hjn];exact hw⟩⟩,by simp only;omega⟩
        try simp only
        rw[dT (by omega),Ze,dT (by omega),Ze,Zm hlt,Za,hb,show (s[i]==32)=false by simpa using hc,Za,Bool.not_false,Ze,Za]
        try simp only
        rw[Zu (by omega) (by omega),Za];rfl
  · right;subst hi;refine⟨.inl acc,?_,.inl (by rw[hw])⟩
    try simp only
    rw[dFq (by omega),Zd]
noncomputable def Zrj (nam:(List UInt8)):Option (Bool) :=
 bnd (ifb (decide ((nam.length:Int)<(1:Int)))
 (some true)
 (some (decide ((24:Int)<(nam.length:Int)))))
 (λ(c:Bool) =>
 (ifb (c)
 (some false)
 (bnd (bnd (Zi (λs:Int=>match s with
| b =>
 (ifb (decide (b<(((ZJa nam)).length:Int)))
 (bnd (idx ((ZJa nam)) b) λa =>
 bnd (ifb (decide (a<(97:Int)))
 (ifb (decide (a<(48:Int)))
 (some (a != (45:Int)))
 (ifb (decide ((57:Int)<a))
 (some (a != (45:Int)))
 (some false)))
 (ifb (decide ((122:Int)<a))
 (ifb (decide (a<(48:Int)))
 (some (a != (45:Int)))
 (ifb (decide ((57:Int)<a))
 (some (a != (45:Int)))
 (some false)))
 (some false)))
 (λ(d:Bool) =>
 (ifb (d)
 (some (.inr ((.inl false))))
 (bnd (chk .i64 (b+(1:Int))) λe =>
 some (.inl e)))))
 (some (.inr ((.inr (()))))))) Zp (0:Int))
 (λ(p:(Bool) ⊕ (Unit))=>match p with
| .inl f =>
 (some ((.inr f)))
| .inr (()) =>
 (some ((.inl (()))))))
 (λ(p:(Unit) ⊕ (Bool))=>match p with
| .inl (()) =>
 (some true)
| .inr g =>
 (some g)))))
noncomputable def Z1j (nam:(List UInt8)):Option (Bool) :=
 bnd (ifb (decide ((nam.length:Int)<(1:Int)))
 (some true)
 (some (decide ((24:Int)<(nam.length:Int)))))
 (λ(b:Bool) =>
 (ifb (b)
 (some false)
 (bnd (bnd (Zi (λs:Int=>match s with
| a =>
 (ifb (decide (a<(nam.length:Int)))
 (bnd (bnd (idx nam a) λc =>
 ifb (decide ((97:Int)≤(c.toNat:Int)))
 (bnd (idx nam a) λd =>
 ifb (decide ((d.toNat:Int)≤(122:Int)))
 (some false)
 (bnd (idx nam a) λe =>
 ifb (decide ((48:Int)≤(e.toNat:Int)))
 (bnd (idx nam a) λf =>
 ifb (decide ((f.toNat:Int)≤(57:Int)))
 (some false)
 (bnd (idx nam a) λg =>
 some (!(((g.toNat:Int))==(45:Int)))))
 (bnd (idx nam a) λh =>
 some (!(((h.toNat:Int))==(45:Int))))))
 (bnd (idx nam a) λi =>
 ifb (decide ((48:Int)≤(i.toNat:Int)))
 (bnd (idx nam a) λj =>
 ifb (decide ((j.toNat:Int)≤(57:Int)))
 (some false)
 (bnd (idx nam a) λk =>
 some (!(((k.toNat:Int))==(45:Int)))))
 (bnd (idx nam a) λl =>
 some (!(((l.toNat:Int))==(45:Int))))))
 (λ(m:Bool) =>
 (ifb (m)
 (some (.inr ((.inl false))))
 (bnd (chk .i64 (a+(1:Int))) λn =>
 some (.inl n)))))
 (some (.inr ((.inr (()))))))) Zp (0:Int))
 (λ(p:(Bool) ⊕ (Unit))=>match p with
| .inl o =>
 (some ((.inr o)))
| .inr (()) =>
 (some ((.inl (()))))))
 (λ(p:(Unit) ⊕ (Bool))=>match p with
| .inl (()) =>
 (some true)
| .inr q =>
 (some q)))))
noncomputable def ZYi (str:(List UInt8)):Option (Bool) :=
 bnd (ifb (decide ((str.length:Int)<(1:Int)))
 (some true)
 (some (decide ((60:Int)<(str.length:Int)))))
 (λ(c:Bool) =>
 (ifb (c)
 (some false)
 (bnd (bnd (Zi (λs:Int=>match s with
| a =>
 (ifb (decide (a<(((ZJa str)).length:Int)))
 (bnd (bnd (idx ((ZJa str)) a) λb =>
 bnd (ifb (b==(32:Int))
 (ifb (decide ((0:Int)<a))
 (bnd (chk .i64 (((str.length:Int))-(1:Int))) λd =>
 ifb (decide (a<d))
 (bnd (chk .i64 (a-(1:Int))) λe =>
 bnd (idx str e) λf =>
 some (((f.toNat:Int)) != (32:Int)))
 (some false))
 (some false))
 (some false))
 (λ(g:Bool) =>
 (ifb (g)
 (some ((.inl (()))))
 (bnd (ifb (decide (b<(33:Int)))
 (some true)
 (some (decide ((126:Int)<b))))
 (λ(h:Bool) =>
 (ifb (h)
 (some ((.inr false)))
 (some ((.inl (()))))))))))
 (λ(p:(Unit) ⊕ (Bool))=>match p with
| .inl (()) =>
 (bnd (chk .i64 (a+(1:Int))) λi =>
 some (.inl i))
| .inr j =>
 (some (.inr ((.inl j))))))
 (some (.inr ((.inr (()))))))) Zp (0:Int))
 (λ(p:(Bool) ⊕ (Unit))=>match p with
| .inl k =>
 (some ((.inr k)))
| .inr (()) =>
 (some ((.inl (()))))))
 (λ(p:(Unit) ⊕ (Bool))=>match p with
| .inl (()) =>
 (some true)
| .inr l =>
 (some l)))))
noncomputable def Zcj (str:(List UInt8)):Option (Bool) :=
 bnd (ifb (decide ((str.length:Int)<(1:Int)))
 (some true)
 (ifb (decide ((60:Int)<(str.length:Int)))
 (some true)
 (bnd (idx str (0:Int)) λb =>
 ifb (((b.toNat:Int))==(32:Int))
 (some true)
 (bnd (chk .i64 (((str.length:Int))-(1:Int))) λc =>
 bnd (idx str c) λd =>
 some (((d.toNat:Int))==(32:Int))))))
 (λ(e:Bool) =>
 (ifb (e)
 (some false)
 (bnd (bnd (Zi (λs:Int=>match s with
| a =>
 (ifb (decide (a<(str.length:Int)))
 (bnd (bnd (idx str a) λf =>
 ifb (decide ((f.toNat:Int)<(32:Int)))
 (some true)
 (bnd (idx str a) λg =>
 ifb (decide ((126:Int)<(g.toNat:Int)))
 (some true)
 (bnd (idx str a) λh =>
 ifb (((h.toNat:Int))==(32:Int))
 (bnd (chk .i64 (a-(1:Int))) λi =>
 bnd (idx str i) λj =>
 some (((j.toNat:Int))==(32:Int)))
 (some false))))
 (λ(k:Bool) =>
 (ifb (k)
 (some (.inr ((.inl false))))
 (bnd (chk .i64 (a+(1:Int))) λl =>
 some (.inl l)))))
 (some (.inr ((.inr (()))))))) Zp (0:Int))
 (λ(p:(Bool) ⊕ (Unit))=>match p with
| .inl m =>
 (some ((.inr m)))
| .inr (()) =>
 (some ((.inl (()))))))
 (λ(p:(Unit) ⊕ (Bool))=>match p with
| .inl (()) =>
 (some true)
| .inr n =>
 (some n)))))
noncomputable def Zjh (l:(List ((List UInt8)×(List (List UInt8))×(List (Int×Rat×(List UInt8)))))) (nam:(List UInt8)):Option (Int) :=
 bnd (bnd (Zi (λs:Int=>match s with
| a =>
 (ifb (decide (a<(l.length:Int)))
 (bnd (idx l a) λb =>
 ifb (b.1==nam)
 (some (.inr ((.inl a))))
 (bnd (chk .i64 (a+(1:Int))) λc =>
 some (.inl c)))
 (some (.inr ((.inr (()))))))) Zp (0:Int))
 (λ(p:(Int) ⊕ (Unit))=>match p with
| .inl d =>
 (some ((.inr d)))
| .inr (()) =>
 (some ((.inl (()))))))
 (λ(p:(Unit) ⊕ (Int))=>match p with
| .inl (()) =>
 (some (-1:Int))
| .inr e =>
 (some e))
noncomputable def ZWf (k:Int):Option ((List UInt8)) :=
 ifb (k==(0:Int))
 (some (([116,105,109,101]:List UInt8)))
 (ifb (k==(1:Int))
 (some (([116,111,116,97,108]:List UInt8)))
 (ifb (k==(2:Int))
 (some (([116,101,109,112]:List UInt8)))
 (ifb (k==(3:Int))
 (some (([99,111,111,108]:List UInt8)))
 (ifb (k==(4:Int))
 (some (([101,110,101,114,103,121]:List UInt8)))
 (some (([]:List UInt8)))))))
theorem Z9i {E β:Type} {l:List E} {body:Int→Option (Int ⊕ (β ⊕ Unit))} (p:E→Bool) (g:Nat→β) (hl:l.length<2^62)
  (h1:∀ i,(hi:i<l.length)→body (i:Int)=if p l[i]=true then some (.inr (.inl (g i))) else some (.inl ((i:Int)+1))) (he:body (l.length:Int)=some (.inr (.inr ()))) :
  Zi body Zp 0=some (match l.findIdx? p with | some k=>.inl (g k) | none=>.inr ()):=by
 have key:∀ m F i,i+m=l.length→m<F→Zi body F (i:Int)=some (match (l.drop i).findIdx? p with | some k=>.inl (g (i+k)) | none=>.inr ()):=by
  intro m
  induction m with
  | zero =>
   intro F i hi hF;obtain⟨F,rfl⟩:∃ g,F=g+1:=⟨F-1,by omega⟩;obtain rfl:i=l.length:=by omega
   unfold Zi;rw[he,Za,List.drop_length];rfl
  | succ m ih =>
   intro F i hi hF;obtain⟨F,rfl⟩:∃ g,F=g+1:=⟨F-1,by omega⟩;have hi':i<l.length:=by omega
   unfold Zi;rw[h1 i hi',List.drop_eq_getElem_cons hi',List.findIdx?_cons];by_cases h:p l[i]=true
   ·rw[iP h,Za,iP h];rfl
   ·rw[iN h,Za,iN h];have:=ih F (i+1) (by omega) (by omega);rw[show ((i:Int)+1)=((i+1:Nat):Int) by omega];refine this.trans ?_
    cases List.findIdx? p (l.drop (i+1)) with
    | none=>rfl
    | some k=>simp only[Option.map_some];rw[show i+1+k=i+(k+1) by omega]
 have:=key l.length Zp 0 (by omega) (ZR (by omega));rw[List.drop_zero]at this;refine this.trans ?_
 cases List.findIdx? p l with
 | none=>rfl
 | some k=>simp only[Nat.zero_add]
abbrev BS:=List UInt8
def ZTb (y:Int):Bool:=bif decide (y<97) then (bif decide (y<48) then y != 45 else bif decide (57<y) then y != 45 else false) else bif decide (122<y) then (bif decide (y<48) then y != 45 else bif decide (57<y) then y != 45 else false) else false
theorem bad1_m (y:Int):(ifb (decide (y<(97:Int)))
 (ifb (decide (y<(48:Int)))
 (some (y != ((45:Int))))
 (ifb (decide ((57:Int)<y))
 (some (y != ((45:Int))))
 (some false)))
 (ifb (decide ((122:Int)<y))
 (ifb (decide (y<(48:Int)))
 (some (y != ((45:Int))))
 (ifb (decide ((57:Int)<y))
 (some (y != ((45:Int))))
 (some false)))
 (some false)))=some (ZTb y):=by
 unfold ZTb;generalize decide (y<97)=a;generalize decide (y<48)=b;generalize decide (57<y)=c;generalize decide (122<y)=d
 cases a <;> cases b <;> cases c <;> cases d <;> rfl
theorem bad2_m (y:Int):(ifb (decide ((97:Int)≤y))
 (ifb (decide (y≤(122:Int)))
 (some false)
 (ifb (decide ((48:Int)≤y))
 (ifb (decide (y≤(57:Int)))
 (some false)
 (some (!(y==((45:Int))))))
 (some (!(y==((45:Int)))))))
 (ifb (decide ((48:Int)≤y))
 (ifb (decide (y≤(57:Int)))
 (some false)
 (some (!(y==((45:Int))))))
 (some (!(y==((45:Int)))))))=some (ZTb y):=by
 unfold ZTb;rw[show decide ((97:Int)≤y) = !decide (y<97) by rw[← decide_not];exact decide_eq_decide.2 (by omega),show decide (y≤(122:Int)) = !decide (122<y) by rw[← decide_not];exact decide_eq_decide.2 (by omega),
  show decide ((48:Int)≤y) = !decide (y<48) by rw[← decide_not];exact decide_eq_decide.2 (by omega),show decide (y≤(57:Int)) = !decide (57<y) by rw[← decide_not];exact decide_eq_decide.2 (by omega)]
 generalize decide (y<97)=a;generalize decide (y<48)=b;generalize decide (57<y)=c;generalize decide (122<y)=d
 cases a <;> cases b <;> cases c <;> cases d <;> rfl
def Zdf (s:BS):Bool:=bif decide ((s.length:Int)<1) || decide ((24:Int)<s.length) then false else (s.findIdx? λc=>ZTb c.toNat).isNone
theorem or_m (a b:Bool):ifb a (some true) (some b)=some (a || b):=by cases a <;> rfl
theorem Z7u (s:BS) (h:s.length≤maxLen):Zrj s=some (Zdf s):=by
 unfold Zrj Zdf;unfold maxLen at h;rw[or_m,Za];generalize hb:(decide ((s.length:Int)<1) || decide ((24:Int)<s.length))=b
 cases b with
 | true=>rw[Ze];rfl
 | false =>
  have hlen:s.length≤24:=by simp at hb;omega
  rw[Zd];refine ZJ (y:=match s.findIdx? λc=>ZTb c.toNat with | some k=>.inr false | none=>.inl ()) (ZJ (Z9i (l:=s) (λc=>ZTb c.toNat) (λ_=>false) (by omega) (λi hi=>?_) ?_) ?_) ?_
  ·have hi':i<(ZJa s).length:=by rw[ZHc];exact hi
   have e:(ZJa s)[i]=(s[i].toNat:Int):=by simp[ZJa]
   simp only;rw[ZHc,dT (by omega),Ze,Zm hi',Za,e,bad1_m,Za]
   cases ZTb s[i].toNat with
   | true=>rw[Ze,iP rfl]
   | false=>rw[Zd,Zu (by omega) (by omega),Za,iN (by decide)]
  ·simp only;rw[ZHc,dFq (by omega),Zd]
  ·cases s.findIdx? λc=>ZTb c.toNat <;> rfl
  ·cases s.findIdx? λc=>ZTb c.toNat <;> rfl
theorem Z9t (s:BS) (h:s.length≤maxLen):Z1j s=some (Zdf s):=by
 unfold Z1j Zdf;unfold maxLen at h;rw[or_m,Za];generalize hb:(decide ((s.length:Int)<1) || decide ((24:Int)<s.length))=b
 cases b with
 | true=>rw[Ze];rfl
 | false =>
  have hlen:s.length≤24:=by simp at hb;omega
  rw[Zd];refine ZJ (y:=match s.findIdx? λc=>ZTb c.toNat with | some k=>.inr false | none=>.inl ()) (ZJ (Z9i (l:=s) (λc=>ZTb c.toNat) (λ_=>false) (by omega) (λi hi=>?_) ?_) ?_) ?_
  ·simp only;rw[dT (by omega),Ze,Zm hi];simp only[Za];rw[bad2_m,Za]
   cases ZTb s[i].toNat with
   | true=>rw[Ze,iP rfl]
   | false=>rw[Zd,Zu (by omega) (by omega),Za,iN (by decide)]
  ·simp only;rw[dFq (by omega),Zd]
  ·cases s.findIdx? λc=>ZTb c.toNat <;> rfl
  ·cases s.findIdx? λc=>ZTb c.toNat <;> rfl
def ZOd {α:Type} (l:List (BS×α)) (s:BS):Int:=match l.findIdx? λx=>x.1==s with | some k=>k | none=>-1
theorem Zqy {α:Type} {l:List (BS×α)} {s:BS} {body:Int→Option (Int ⊕ (Int ⊕ Unit))} (hl:l.length<2^62)
  (h1:∀ i,(hi:i<l.length)→body (i:Int)=if (l[i].1==s)=true then some (.inr (.inl (i:Int))) else some (.inl ((i:Int)+1))) (he:body (l.length:Int)=some (.inr (.inr ()))) :
  bnd (bnd (Zi body Zp 0) (λ(p:(Int) ⊕ (Unit))=>match p with
 | .inl x55 =>
 (some ((.inr x55)))
 | .inr (()) =>
 (some ((.inl (())))))) (λ(p:(Unit) ⊕ (Int))=>match p with
 | .inl (()) =>
 (some ((-1:Int)))
 | .inr x42 =>
 (some x42))=some (ZOd l s):=by
 rw[Z9i (l:=l) (λx=>x.1==s) (λi=>(i:Int)) hl h1 he];unfold ZOd
 cases l.findIdx? λx=>x.1==s <;> rfl
theorem ZYg (b:Int) (hx:True):(match (if b≠0 then (.inl b:Int ⊕ Unit) else .inr ()) with | .inl x=>some (.inr x:Unit ⊕ Int) | .inr ()=>some (.inl ()))=some (if b≠0 then .inr b else .inl ()):=by
 by_cases h:b≠0
 ·rw[iP h,iP h]
 ·rw[iN h,iN h]
theorem ZZg {α:Type} (l:List α) {k:Nat} (h:k≤l.length):Zx l (0:Int) (k:Int)=some (l.take k):=by
 unfold Zx;rw[iP ⟨by omega,by omega,by omega⟩];simp
theorem ZHh {σ R:Type} {body:σ→Option (σ ⊕ R)} {s:σ} (enc:Nat→σ) (hs:enc 0=s) (c:Nat→Int) (g:Int→R) (fin:R) (n:Nat) (hn:n<2^62) (h1:∀ i,i<n→body (enc i)=if c i≠0 then some (.inr (g (c i))) else some (.inl (enc (i+1)))) (he:body (enc n)=some (.inr fin)) :
  Zi body Zp s=some (if cf c 0 n≠0 then g (cf c 0 n) else fin):=by
 rw[← hs];have key:∀ m F i,i+m=n→m<F→Zi body F (enc i)=some (if cf c i m≠0 then g (cf c i m) else fin):=by
  intro m
  induction m with
  | zero =>
   intro F i hi hF;obtain⟨F,rfl⟩:∃ g,F=g+1:=⟨F-1,by omega⟩;obtain rfl:i=n:=by omega
   unfold Zi;rw[he,Za];rfl
  | succ m ih =>
   intro F i hi hF;obtain⟨F,rfl⟩:∃ g,F=g+1:=⟨F-1,by omega⟩;unfold Zi;rw[h1 i (by omega)];unfold cf;by_cases h:c i≠0
   ·rw[iP h,Za,iP h,iP h]
   ·rw[iN h,Za,iN h];exact ih F (i+1) (by omega) (by omega)
 exact key n Zp 0 (by omega) (ZR (by omega))
theorem Zqp {β:Type} {n:Nat} {body:Int→Option (Int ⊕ (β ⊕ Unit))} (p:Nat→Bool) (g:Nat→β) (hn:n<2^62)
  (h1:∀ i,i<n→body (i:Int)=if p i=true then some (.inr (.inl (g i))) else some (.inl ((i:Int)+1))) (he:body (n:Int)=some (.inr (.inr ()))) :
  Zi body Zp 0=some (match (List.range n).findIdx? p with | some k=>.inl (g k) | none=>.inr ()) :=
 Z9i (l:=List.range n) p g (by simpa using hn) (λi hi=>by rw[List.getElem_range];exact h1 i (by simpa using hi)) (by simpa using he)
def cN (s:BS) (i:Nat):Int:=((s.getD i 0).toNat:Int)
theorem ZBg {s:BS} {i:Nat} (h:i<s.length):((s[i].toNat:Nat):Int)=cN s i:=by unfold cN;rw[Zlb h]
def sp (s:BS) (i:Nat):Bool:=(cN s i==32)&&(decide ((0:Int)<i)&&(decide ((i:Int)<(s.length:Int)-1)&&(cN s (i-1) != 32)))
def ZVb (s:BS) (i:Nat):Bool:=!sp s i&&(decide (cN s i<33) || decide (126<cN s i))
def doB (s:BS):Bool:=bif decide ((s.length:Int)<1) || decide ((60:Int)<s.length) then false else ((List.range s.length).findIdx? (ZVb s)).isNone
theorem isDo_eq (s:BS) (h:s.length≤maxLen):ZYi s=some (doB s):=by
 unfold ZYi doB;unfold maxLen at h;rw[or_m,Za];generalize hb:(decide ((s.length:Int)<1) || decide ((60:Int)<s.length))=b
 cases b with
 | true=>rw[Ze];rfl
 | false =>
  have hlen:s.length≤60:=by simp at hb;omega
  rw[Zd];refine ZJ (y:=match (List.range s.length).findIdx? (ZVb s) with | some k=>.inr false | none=>.inl ()) (ZJ (Zqp (n:=s.length) (ZVb s) (λ_=>false) (by omega) (λi hi=>?_) ?_) ?_) ?_
  ·have hi':i<(ZJa s).length:=by rw[ZHc];exact hi
   have e:(ZJa s)[i]=cN s i:=by rw[← ZBg hi];simp[ZJa]
   have hsp:(ifb (cN s i==((32:Int)))
 (ifb (decide ((0:Int)<(i:Int)))
 (bnd (chk .i64 (((s.length:Int))-((1:Int)))) λy125 =>
 ifb (decide ((i:Int)<y125))
 (bnd (chk .i64 ((i:Int)-((1:Int)))) λy128 =>
 bnd (idx s y128) λy130 =>
 some (((y130.toNat:Int)) != ((32:Int))))
 (some false))
 (some false))
 (some false))=some (sp s i):=by
    unfold sp
    cases cN s i==32 with
    | false=>rfl
    | true =>
     rw[Ze];by_cases h0:(0:Int)<i
     ·rw[dT h0,Ze,Zu (by omega) (by omega),Za];by_cases h1:(i:Int)<(s.length:Int)-1
      ·have hj:i-1<s.length:=by omega
       rw[dT h1,Ze,Zu (by omega) (by omega),Za,show (i:Int)-1=((i-1:Nat):Int) by omega,Zm hj,Za,ZBg hj];rfl
      ·rw[dFq h1,Zd];rfl
     ·rw[dFq h0,Zd];rfl
   simp only;rw[ZHc,dT (by omega),Ze,Zm hi',Za,e,hsp,Za];unfold ZVb
   cases sp s i with
   | true=>rw[Ze,Za,Zu (by omega) (by omega),Za];rfl
   | false =>
    rw[Zd,or_m,Za]
    cases decide (cN s i<33) || decide (126<cN s i) with
    | true=>rw[Ze,Za];rfl
    | false=>rw[Zd,Za,Zu (by omega) (by omega),Za];rfl
  ·simp only;rw[ZHc,dFq (by omega),Zd]
  ·cases (List.range s.length).findIdx? (ZVb s) <;> rfl
  ·cases (List.range s.length).findIdx? (ZVb s) <;> rfl
def offR (s:BS) (i:Nat):Bool:=decide (cN s i<32) || (decide (126<cN s i) || ((cN s i==32)&&(cN s (i-1)==32)))
theorem Z6p {n:Nat} {p:Nat→Bool}:((List.range n).findIdx? p).isNone=true ↔ ∀ i,i<n→p i=false:=by
 rw[Option.isNone_iff_eq_none,List.findIdx?_eq_none_iff];constructor
 ·intro h i hi;exact h i (List.mem_range.2 hi)
 ·intro h i hi;exact h i (List.mem_range.1 hi)
theorem ZDw {s:BS} (h0:cN s 0≠32) (h1:cN s (s.length-1)≠32) {i:Nat} (hi:i<s.length):ZVb s i=offR s i:=by
 unfold ZVb offR sp;by_cases hc:cN s i=32
 ·have i0:i≠0:=λe=>h0 (by rw[← e];exact hc);have i1:i≠s.length-1:=λe=>h1 (by rw[← e];exact hc);rw[hc,dT (show (0:Int)<i by omega),dT (show (i:Int)<(s.length:Int)-1 by omega)];by_cases hp:cN s (i-1)=32
  ·rw[hp];rfl
  ·rw[show (cN s (i-1) != 32)=true by simpa using hp,show (cN s (i-1)==32)=false by simpa using hp];rfl
 ·rw[show (cN s i==32)=false by simpa using hc];rw[show decide (cN s i<33)=decide (cN s i<32) from decide_eq_decide.2 (by omega)];simp
theorem Z3w (s:BS) (h:s.length≤maxLen):Zcj s=some (doB s):=by
 unfold Zcj doB;unfold maxLen at h;by_cases ha:(s.length:Int)<1
 ·rw[dT ha,Ze,Za,Ze];rfl
 rw[dFq ha,Zd];by_cases hb:(60:Int)<s.length
 ·rw[dT hb,Ze,Za,Ze];rfl
 rw[dFq hb,Zd];have l0:0<s.length:=by omega
 have lz:s.length-1<s.length:=by omega
 have i0:idx s ((0:Int))=some s[0]:=Zm (i:=0) l0;have i1:idx s ((s.length:Int)-1)=some s[s.length-1]:=by rw[show (s.length:Int)-1=((s.length-1:Nat):Int) by omega];exact Zm lz
 rw[i0,Za,ZBg l0];simp only[Bool.or_self,cond_false];by_cases hc:cN s 0=32
 ·rw[hc];simp only[beq_self_eq_true,Ze,Za];congr 1;symm;rw[Bool.eq_false_iff];intro hn;have:=Z6p.1 hn 0 l0;unfold ZVb sp at this;rw[hc,dFq (show ¬ (0:Int)<((0:Nat):Int) by decide)]at this;simp at this
 rw[show (cN s 0==32)=false by simpa using hc,Zd,Zu (by omega) (by omega),Za,i1,Za,ZBg lz];by_cases hd:cN s (s.length-1)=32
 ·rw[hd];simp only[beq_self_eq_true,Ze,Za];congr 1;symm;rw[Bool.eq_false_iff];intro hn;have:=Z6p.1 hn (s.length-1) lz;unfold ZVb sp at this;rw[hd,dFq (show ¬ ((s.length-1:Nat):Int)<(s.length:Int)-1 by omega)]at this;simp at this
 rw[show (cN s (s.length-1)==32)=false by simpa using hd,Za,Zd];refine ZJ (y:=match (List.range s.length).findIdx? (ZVb s) with | some k=>.inr false | none=>.inl ()) (ZJ (Zqp (n:=s.length) (ZVb s) (λ_=>false) (by omega) (λi hi=>?_) ?_) ?_) ?_
 ·have hx:(ifb (decide (((s[i].toNat:Nat):Int)<(32:Int)))
 (some true)
 (bnd (idx s (i:Int)) λy74 =>
 ifb (decide ((126:Int)<(y74.toNat:Int)))
 (some true)
 (bnd (idx s (i:Int)) λy77 =>
 ifb (((y77.toNat:Int))==((32:Int)))
 (bnd (chk .i64 ((i:Int)-((1:Int)))) λy80 =>
 bnd (idx s y80) λy82 =>
 some (((y82.toNat:Int))==((32:Int))))
 (some false))))=some (offR s i):=by
   unfold offR;rw[Zm hi];simp only[Za];rw[ZBg hi]
   cases decide (cN s i<32) with
   | true=>rfl
   | false =>
    rw[Zd]
    cases decide (126<cN s i) with
    | true=>rfl
    | false =>
     rw[Zd];by_cases hq:cN s i=32
     ·have hi0:i≠0:=λe=>hc (by rw[← e];exact hq);have hj:i-1<s.length:=by omega
      rw[hq];simp only[beq_self_eq_true,Ze];rw[Zu (by omega) (by omega),Za,show (i:Int)-1=((i-1:Nat):Int) by omega,Zm hj,Za,ZBg hj];rfl
     ·rw[show (cN s i==32)=false by simpa using hq,Zd];rfl
  skip
  rw[dT (by omega),Ze,Zm hi,Za];rw[Zm hi]at hx;rw[hx,Za,← ZDw hc hd hi]
  cases ZVb s i with
  | true=>rw[Ze,iP rfl]
  | false=>rw[Zd,Zu (by omega) (by omega),Za,iN (by decide)]
 ·skip
  rw[dFq (by omega),Zd]
 ·cases (List.range s.length).findIdx? (ZVb s) <;> rfl
 ·cases (List.range s.length).findIdx? (ZVb s) <;> rfl
abbrev GD:=Int×Rat×BS
abbrev STP:=BS×List BS×List GD
theorem ZNq (l:List STP) (s:BS) (hl:l.length≤100000):Zjh l s=some (ZOd l s):=by
 unfold Zjh;refine Zqy (by omega) (λi hi=>?_) ?_
 ·simp only;rw[dT (by omega),Ze,Zm hi,Za]
  cases l[i].1==s with
  | true=>rw[Ze,iP rfl]
  | false=>rw[Zd,Zu (by omega) (by omega),Za,iN (by decide)]
 ·simp only;rw[dFq (by omega),Zd]
theorem ZVm {E R:Type} {l:List E} {body:Int→Option (Int ⊕ R)} (p:E→Bool) (g:Nat→R) (fin:R) (hl:l.length<2^62)
  (h1:∀ i,(hi:i<l.length)→body (i:Int)=if p l[i]=true then some (.inr (g i)) else some (.inl ((i:Int)+1))) (he:body (l.length:Int)=some (.inr fin)) :
  Zi body Zp 0=some (match l.findIdx? p with | some k=>g k | none=>fin):=by
 have key:∀ m F i,i+m=l.length→m<F→Zi body F (i:Int)=some (match (l.drop i).findIdx? p with | some k=>g (i+k) | none=>fin):=by
  intro m
  induction m with
  | zero =>
   intro F i hi hF;obtain⟨F,rfl⟩:∃ g,F=g+1:=⟨F-1,by omega⟩;obtain rfl:i=l.length:=by omega
   unfold Zi;rw[he,Za,List.drop_length];rfl
  | succ m ih =>
   intro F i hi hF;obtain⟨F,rfl⟩:∃ g,F=g+1:=⟨F-1,by omega⟩;have hi':i<l.length:=by omega
   unfold Zi;rw[h1 i hi',List.drop_eq_getElem_cons hi',List.findIdx?_cons];by_cases h:p l[i]=true
   ·rw[iP h,Za,iP h];rfl
   ·rw[iN h,Za,iN h];have:=ih F (i+1) (by omega) (by omega);rw[show ((i:Int)+1)=((i+1:Nat):Int) by omega];refine this.trans ?_
    cases List.findIdx? p (l.drop (i+1)) with
    | none=>rfl
    | some k=>simp only[Option.map_some];rw[show i+1+k=i+(k+1) by omega]
 have:=key l.length Zp 0 (by omega) (ZR (by omega));rw[List.drop_zero]at this;refine this.trans ?_
 cases List.findIdx? p l with
 | none=>rfl
 | some k=>simp only[Nat.zero_add]
noncomputable def Z8j (l:List (List UInt8)):Option ((Int×(Bool×Nat×Nat)×(List UInt8))×Bool) :=
 bnd (α:=Bool)
 (ifb ((l.length:Int) != (5:Int))
 (some true)
 (bnd (idx l (3:Int)) λd =>
 some (d != ([103,111]:List UInt8)))) λe =>
 ifb e
 (some (((0:Int),(false,(0:Nat),(0:Nat)),([]:List UInt8)),false))
 (bnd (Zi (σ:=Int) (ρ:=Unit ⊕ ((Int×(Bool×Nat×Nat)×(List UInt8))×Bool)) (λa =>
 ifb (decide (a<(5:Int)))
 (bnd (ZWf a) λf =>
 bnd (idx l (1:Int)) λg =>
 ifb (f==g)
 (bnd (idx l (2:Int)) λh =>
 bnd (Zck h) λb =>
 bnd (idx l (4:Int)) λi =>
 some (.inr (.inr ((a,(decide (b.1.num<0),b.1.num.natAbs,b.1.den),i),b.2==(0:Int)))))
 (bnd (chk .i64 (a+(1:Int))) λj =>
 some (.inl j)))
 (some (.inr (.inl ()))))
   Zp (0:Int)) λk =>
  match k with
| .inl m=>(some (((0:Int),(false,(0:Nat),(0:Nat)),([]:List UInt8)),false))
| .inr c=>(some (c.1,c.2)))
noncomputable def Zrg (p:List ((List UInt8)×(List (List UInt8))×(List (Int×Rat×(List UInt8))))) (str:List UInt8):Option ((List ((List UInt8)×(List (List UInt8))×(List (Int×Rat×(List UInt8)))))×Bool) :=
 bnd (α:=Bool)
 (ifb (decide ((3:Int)<(str.length:Int)))
 (bnd (Zx str (0:Int) (3:Int)) λj =>
 some (j==([100,111,32]:List UInt8)))
 (some false)) λk =>
 ifb k
 (bnd (α:=Bool)
 (ifb ((p.length:Int)==(0:Int))
 (some true)
 (bnd (chk .i64 ((p.length:Int)-(1:Int))) λl =>
 bnd (idx p l) λm =>
 some (decide ((0:Int)<(m.2.2.length:Int))))) λn =>
 ifb n
 (some (p,false))
 (bnd (chk .i64 ((p.length:Int)-(1:Int))) λo =>
 bnd (idx p o) λb =>
 bnd (ZL 16 (([]:List (List UInt8))++b.2.1)) λ_ =>
 bnd (Zx str (3:Int) (str.length:Int)) λe =>
 bnd (ZL 16 ((([]:List (List UInt8))++b.2.1)++[e])) λ_ =>
 bnd (chk .i64 ((p.length:Int)-(1:Int))) λq =>
 bnd (Zx p (0:Int) q) λf =>
 bnd (ZL 64 (([]:List ((List UInt8)×(List (List UInt8))×(List (Int×Rat×(List UInt8)))))++f)) λ_ =>
 bnd (ZL 64 ((([]:List ((List UInt8)×(List (List UInt8))×(List (Int×Rat×(List UInt8)))))++f)++[(b.1,(([]:List (List UInt8))++b.2.1)++[e],b.2.2)])) λ_ =>
 some ((([]:List ((List UInt8)×(List (List UInt8))×(List (Int×Rat×(List UInt8)))))++f)++[(b.1,(([]:List (List UInt8))++b.2.1)++[e],b.2.2)],true)))
 (bnd (Zpi str) λd =>
 bnd (α:=Bool)
 (ifb ((d.length:Int)==(2:Int))
 (bnd (idx d (0:Int)) λr =>
 some (r==([115,116,101,112]:List UInt8)))
 (some false)) λs =>
 ifb s
 (bnd (ZL 64 (([]:List ((List UInt8)×(List (List UInt8))×(List (Int×Rat×(List UInt8)))))++p)) λ_ =>
 bnd (idx d (1:Int)) λi =>
 bnd (ZL 64 ((([]:List ((List UInt8)×(List (List UInt8))×(List (Int×Rat×(List UInt8)))))++p)++[(i,([]:List (List UInt8)),([]:List (Int×Rat×(List UInt8))))])) λ_ =>
 some ((([]:List ((List UInt8)×(List (List UInt8))×(List (Int×Rat×(List UInt8)))))++p)++[(i,([]:List (List UInt8)),([]:List (Int×Rat×(List UInt8))))],true))
 (bnd (α:=Bool)
 (ifb ((d.length:Int)==(0:Int))
 (some true)
 (bnd (idx d (0:Int)) λt =>
 ifb (t != ([119,104,101,110]:List UInt8))
 (some true)
 (some ((p.length:Int)==(0:Int))))) λu =>
 ifb u
 (some (p,false))
 (bnd (Z8j d) λa =>
 ifb (!a.2)
 (some (p,false))
 (bnd (chk .i64 ((p.length:Int)-(1:Int))) λv =>
 bnd (idx p v) λc =>
 bnd (ZL 80 (([]:List (Int×Rat×(List UInt8)))++c.2.2)) λ_ =>
 bnd (Z8c a.1.2.1.1 a.1.2.1.2.1 a.1.2.1.2.2) λg =>
 bnd (ZL 80 ((([]:List (Int×Rat×(List UInt8)))++c.2.2)++[(a.1.1,g,a.1.2.2)])) λ_ =>
 bnd (chk .i64 ((p.length:Int)-(1:Int))) λw =>
 bnd (Zx p (0:Int) w) λh =>
 bnd (ZL 64 (([]:List ((List UInt8)×(List (List UInt8))×(List (Int×Rat×(List UInt8)))))++h)) λ_ =>
 bnd (ZL 64 ((([]:List ((List UInt8)×(List (List UInt8))×(List (Int×Rat×(List UInt8)))))++h)++[(c.1,c.2.1,(([]:List (Int×Rat×(List UInt8)))++c.2.2)++[(a.1.1,g,a.1.2.2)])])) λ_ =>
 some ((([]:List ((List UInt8)×(List (List UInt8))×(List (Int×Rat×(List UInt8)))))++h)++[(c.1,c.2.1,(([]:List (Int×Rat×(List UInt8)))++c.2.2)++[(a.1.1,g,a.1.2.2)])],true)))))
def qn:List BS:=[[116,105,109,101],[116,111,116,97,108],[116,101,109,112],[99,111,111,108],[101,110,101,114,103,121]]
abbrev stepW:BS:=[115,116,101,112]
abbrev whenW:BS:=[119,104,101,110]
abbrev goW:BS:=[103,111]
abbrev doW:BS:=[100,111,32]
abbrev RW:=(Int×(Bool×Nat×Nat)×BS)×Bool
def rw0:RW:=((0,(false,0,0),[]),false)
def rwn (l:List BS):RW:=if l.length=5∧l.getD 3 []=goW then match qn.findIdx? (λx=>x==l.getD 1 []) with
  | some k=>(((k:Int),(decide ((prs (l.getD 2 [])).1.num<0),(prs (l.getD 2 [])).1.num.natAbs,(prs (l.getD 2 [])).1.den),l.getD 4 []),(prs (l.getD 2 [])).2==0)
  | none=>rw0
 else rw0
theorem Zfc {α:Type} {l:List α} {i:Nat} {d:α} (h:i<l.length):idx l (i:Int)=some (l.getD i d):=by rw[Zm h,Zlb h]
theorem kinds_w:∀ i,(hi:i<qn.length)→ZWf (i:Int)=some qn[i]:=by
 intro i hi;have:i<5:=hi;rcases (by omega:i=0∨i=1∨i=2∨i=3∨i=4) with rfl | rfl | rfl | rfl | rfl <;> rfl
theorem ZHt (l:List BS) (hl:∀ x ∈ l,x.length≤4096):Z8j l=some (rwn l):=by
 unfold Z8j rwn;by_cases h5:l.length=5
 ·have i1:idx l (1:Int)=some (l.getD 1 []):=Zfc (i:=1) (by omega);have i2:idx l (2:Int)=some (l.getD 2 []):=Zfc (i:=2) (by omega);have i3:idx l (3:Int)=some (l.getD 3 []):=Zfc (i:=3) (by omega);have i4:idx l (4:Int)=some (l.getD 4 []):=Zfc (i:=4) (by omega);have h2:(l.getD 2 []).length≤4096:=by rw[Zlb (by omega)];exact hl _ (List.getElem_mem _)
  rw[show ((l.length:Int) != (5:Int))=false by rw[h5];rfl,Zd,i3,Za,Za];by_cases hg:l.getD 3 []=goW
  ·rw[iP ⟨h5,hg⟩,hg,show (goW != ([103,111]:List UInt8))=false from rfl,Zd];refine ZJ (ZVm (l:=qn) (λx=>x==l.getD 1 []) (λi=>.inr ((((i:Nat):Int),(decide ((prs (l.getD 2 [])).1.num<0),(prs (l.getD 2 [])).1.num.natAbs,(prs (l.getD 2 [])).1.den),l.getD 4 []),(prs (l.getD 2 [])).2==0)) (.inl ()) (by decide) (λi hi=>?_) ?_) ?_
   ·have:i<5:=hi
    try simp only
    rw[dT (by omega),Ze,kinds_w i hi,Za,i1,Za,i2,i4,Za,ZKw _ h2,Za,Za,Zu (by omega) (by omega),Za]
    cases qn[i]==l.getD 1 [] with
    | true=>rfl
    | false=>rfl
   ·rfl
   ·cases qn.findIdx? (λx=>x==l.getD 1 []) <;> rfl
  ·rw[iN (λh=>hg h.2),show (l.getD 3 [] != ([103,111]:List UInt8))=true by simpa using hg,Ze];rfl
 ·rw[iN (λh=>h5 h.1),show ((l.length:Int) != (5:Int))=true by simp;omega,Ze,Za,Ze];rfl
def ZXb (s:BS):Bool:=decide (3<s.length)&&(s.take 3==doW)
def rl (p:List STP) (s:BS):List STP×Bool :=
 if ZXb s=true then (match p.getLast? with
  | none=>(p,false)
  | some y=>if y.2.2.length=0 then (p.dropLast++[(y.1,y.2.1++[s.drop 3],y.2.2)],true) else (p,false))
 else if (Zo 32 s).length=2∧(Zo 32 s).getD 0 []=stepW∧(Zo 32 s).getD 1 []≠[] then (p++[((Zo 32 s).getD 1 [],[],[])],true)
 else match p.getLast? with
  | none=>(p,false)
  | some y=>if (Zo 32 s).length=5∧(Zo 32 s).getD 0 []=whenW∧(Zo 32 s).getD 3 []=goW∧(Zo 32 s).getD 4 []≠[]∧(prs ((Zo 32 s).getD 2 [])).2=0 then
    (match qn.findIdx? (λx=>x==(Zo 32 s).getD 1 []) with
     | some k=>(p.dropLast++[(y.1,y.2.1,y.2.2++[((k:Int),(prs ((Zo 32 s).getD 2 [])).1,(Zo 32 s).getD 4 [])])],true)
     | none=>(p,false))
   else (p,false)
theorem Zac {α:Type} {k:Nat} {l:List α} (hk:k≤100) (h:l.length≤1000000):ZL k l=some ():=by
 unfold ZL;rw[iP];have:l.length*k≤1000000*100:=Nat.mul_le_mul h hk;omega
theorem Z8k {α:Type} (q:List α) (y:α):idx (q++[y]) (((q++[y]).length:Int)-1)=some y:=by
 rw[show (((q++[y]).length:Int)-1)=((q.length:Nat):Int) by simp,Zm (by simp)];simp
theorem Z6r {α:Type} (q:List α) (y:α):Zx (q++[y]) (0:Int) (((q++[y]).length:Int)-1)=some q:=by
 rw[show (((q++[y]).length:Int)-1)=((q.length:Nat):Int) by simp,ZZg _ (by simp)];simp
theorem doL_m (s:BS):(ifb (decide ((3:Int)<(s.length:Int)))
  (bnd (Zx s (0:Int) (3:Int)) λy1 =>
   some (y1==([100,111,32]:List UInt8)))
  (some false))=some (ZXb s):=by
  unfold ZXb;by_cases h:3<s.length
  · rw[dT (by omega),Ze,show Zx s (0:Int) (3:Int)=some (s.take 3) from ZZg (k:=3) s (by omega),Za,dT h];rfl
  · rw[dFq (by omega),Zd,dFq h];rfl
theorem ZPe (c:UInt8):∀ (l:BS),∀ x ∈ Zo c l,x.length≤l.length
 | [],x,hx=>by simp[Zo]at hx;simp[hx]
 | y :: r,x,hx=>by
  have ih:=ZPe c r
  unfold Zo at hx
  split at hx
  ·rcases List.mem_cons.1 hx with rfl | hx
   ·simp
   ·have:=ih x hx;simp;omega
  ·split at hx
   ·simp at hx;subst hx;simp
   ·rename_i h t e
    rw[e]at ih
    rcases List.mem_cons.1 hx with rfl | hx
    ·have:=ih h (by simp);simp;omega
    ·have:=ih x (by simp[hx]);simp;omega
theorem prs_nil:(prs []).2≠0:=by decide
theorem Ziy (p:List STP) (s:BS) (hs:s.length≤4096) (hp:p.length≤10000) (hy:∀ y ∈ p,y.2.1.length≤10000∧y.2.2.length≤10000):Zrg p s=some (rl p s):=by
  unfold Zrg rl;rw[doL_m,Za]
  cases hd:ZXb s with
  | true =>
    have h3:3<s.length:=by
      unfold ZXb at hd;by_cases h:3<s.length
      · exact h
      · rw[dFq h]at hd;cases hd
    rw[Ze,iP rfl];rcases List.eq_nil_or_concat p with rfl | ⟨q,y,rfl⟩
    · rfl
    have hq:=hy y (by simp);have c3:Zx s (3:Int) (s.length:Int)=some (s.drop 3):=by
      have:=Zdk (l:=s) (i:=3) (j:=s.length) (by omega) (Nat.le_refl _);rw[List.take_length]at this;exact this
    simp only[List.concat_eq_append] at *;have hql:q.length≤10000:=by simp at hp;omega
    have hL:(((q++[y]).length:Int)==(0:Int))=false:=beq_false_of_ne (by simp;omega);have hch:chk .i64 (((q++[y]).length:Int)-(1:Int))=some (((q++[y]).length:Int)-(1:Int)):=Zu (by omega) (by omega);rw[hL,Zd,hch,Za,Z8k,Za,Za];simp only[List.getLast?_append,List.getLast?_singleton,Option.some_or,List.dropLast_concat,List.nil_append];by_cases hz:y.2.2.length=0
    · rw[dFq (by omega),Zd,iP hz,Za,Z8k,Za,Zac (by omega) (by omega),Za,c3,Za,Zac (by omega) (by simp;omega),Za,Za,Z6r,Za,Zac (by omega) (by omega),Za,Zac (by omega) (by simp;omega),Za]
    · rw[dT (by omega),Ze,iN hz]
  | false =>
    rw[Zd,iN (by decide),Zly s (by omega),Za];have hW:=ZPe 32 s;unfold ws noE;generalize Zo 32 s=W at *;by_cases hE:([]:BS) ∈ W
    · rw[iP hE];have key:∀ n,W.length=n→∃ i,i<n∧W.getD i []=[]:=λn hn=>by
        obtain⟨i,hi,e⟩:=List.getElem_of_mem hE;exact⟨i,by omega,by rw[Zlb hi];exact e⟩
      have n1:¬ (W.length=2∧W.getD 0 []=stepW∧W.getD 1 []≠[]):=λ⟨a,b,c⟩=>by
        obtain⟨i,hi,e⟩:=key 2 a;rcases (by omega:i=0∨i=1) with rfl | rfl
        · rw[b]at e;cases e
        · exact c e
      rw[iN n1];have hr:(match p.getLast? with
        | none=>(p,false)
        | some y=>if W.length=5∧W.getD 0 []=whenW∧W.getD 3 []=goW∧W.getD 4 []≠[]∧(prs (W.getD 2 [])).2=0 then
            (match qn.findIdx? (λx=>x==W.getD 1 []) with
              | some k=>(p.dropLast++[(y.1,y.2.1,y.2.2++[((k:Int),(prs (W.getD 2 [])).1,W.getD 4 [])])],true)
              | none=>(p,false))
          else (p,false))=(p,false):=by
        cases p.getLast? with
        | none=>rfl
        | some y =>
          simp only;split
          · rename_i h;obtain⟨a,b,c,d,f⟩:=h;obtain⟨i,hi,e⟩:=key 5 a;rcases (by omega:i=0∨i=1∨i=2∨i=3∨i=4) with rfl | rfl | rfl | rfl | rfl
            · rw[b]at e;cases e
            · rw[e];rfl
            · rw[e]at f;exact absurd f prs_nil
            · rw[c]at e;cases e
            · exact absurd e d
          · rfl
      rw[hr];rfl
    · rw[iN hE];have hne:∀ i,i<W.length→W.getD i []≠[]:=λi hi e=>hE (by rw[Zlb hi]at e;rw[← e];exact List.getElem_mem hi);have hx:(ifb ((W.length:Int)==(2:Int))
   (bnd (idx W (0:Int)) λy12 =>
    some (y12==([115,116,101,112]:List UInt8)))
   (some false))=some (decide (W.length=2∧W.getD 0 []=stepW∧W.getD 1 []≠[])):=by
        by_cases h2:W.length=2
        · rw[show ((W.length:Int)==(2:Int))=true by rw[h2];rfl,Ze,show idx W (0:Int)=some (W.getD 0 []) from Zfc (i:=0) (by omega),Za];by_cases h:W.getD 0 []=stepW
          · rw[dT (show W.length=2∧W.getD 0 []=stepW∧W.getD 1 []≠[] from ⟨h2,h,hne 1 (by omega)⟩),h];rfl
          · rw[dFq (λk=>h k.2.1)];exact congrArg some (by simpa using h)
        · rw[show ((W.length:Int)==(2:Int))=false from beq_false_of_ne (by omega),Zd,dFq (λk=>h2 k.1)]
      rw[hx,Za];by_cases hs2:W.length=2∧W.getD 0 []=stepW∧W.getD 1 []≠[]
      · rw[dT hs2,Ze,iP hs2,List.nil_append,Zac (by omega) (by omega),Za,show idx W (1:Int)=some (W.getD 1 []) from Zfc (i:=1) (by omega),Za,Zac (by omega) (by simp;omega),Za]
      · rw[dFq hs2,Zd,iN hs2];have hx2:(ifb ((W.length:Int)==(0:Int))
    (some true)
    (bnd (idx W (0:Int)) λy15 =>
     ifb (y15 != ([119,104,101,110]:List UInt8))
     (some true)
     (some ((p.length:Int)==(0:Int)))))=some (decide (W.getD 0 []≠whenW∨p=[])):=by
          by_cases h0:W.length=0
          · have:W=[]:=List.eq_nil_of_length_eq_zero h0;subst this;rfl
          · rw[show ((W.length:Int)==(0:Int))=false from beq_false_of_ne (by omega),Zd,show idx W (0:Int)=some (W.getD 0 []) from Zfc (i:=0) (by omega),Za];by_cases h:W.getD 0 []=whenW
            · rw[h,show (whenW != ([119,104,101,110]:List UInt8))=false from rfl,Zd]
              cases p with
              | nil=>rfl
              | cons a r=>rw[dFq (by simp)];exact congrArg some (beq_false_of_ne (by simp;omega))
            · rw[show (W.getD 0 [] != ([119,104,101,110]:List UInt8))=true by simpa using h,Ze,dT (.inl h)]
        rw[hx2,Za];rcases List.eq_nil_or_concat p with rfl | ⟨q,y,rfl⟩
        · rw[dT (.inr rfl),Ze];rfl
        simp only[List.concat_eq_append] at *;simp only[List.getLast?_append,List.getLast?_singleton,Option.some_or,List.dropLast_concat,List.nil_append];have hq:=hy y (by simp);have hql:q.length≤10000:=by simp at hp;omega
        by_cases hw:W.getD 0 []=whenW
        · rw[dFq (by simp;exact hw),Zd,ZHt W (λx hx=>Nat.le_trans (hW x hx) hs),Za];unfold rwn;by_cases h5:W.length=5∧W.getD 3 []=goW
          · rw[iP h5]
            cases hf:qn.findIdx? (λx=>x==W.getD 1 []) with
            | none =>
              simp only;rw[show (!rw0.2)=true from rfl,Ze];split <;> rfl
            | some k =>
              simp only;by_cases hz:(prs (W.getD 2 [])).2=0
              · rw[iP ⟨h5.1,hw,h5.2,hne 4 (by omega),hz⟩,hz];have hch:chk .i64 (((q++[y]).length:Int)-(1:Int))=some (((q++[y]).length:Int)-(1:Int)):=Zu (by omega) (by omega);rw[show (!((0:Int)==0))=false from rfl,Zd,hch,Za,Z8k,Za,Zac (by omega) (by omega),Za,ZLk,Za,Zac (by omega) (by simp;omega),Za,Za,Z6r,Za,Zac (by omega) (by omega),Za,Zac (by omega) (by simp;omega),Za]
              · rw[iN (λh=>hz h.2.2.2.2),show (!((prs (W.getD 2 [])).2==(0:Int)))=true by simpa using hz,Ze]
          · rw[iN h5,iN (λh=>h5 ⟨h.1,h.2.2.1⟩)];rfl
        · rw[dT (.inl hw),Ze,iN (λh=>hw h.2.1)]
noncomputable def Z7i (k:Int):Option (List UInt8) :=
 ifb (k==(0:Int))
 (some ([116,105,109,101]:List UInt8))
 (ifb (k==(1:Int))
 (some ([116,111,116,97,108]:List UInt8))
 (ifb (k==(2:Int))
 (some ([116,101,109,112]:List UInt8))
 (ifb (k==(3:Int))
 (some ([99,111,111,108]:List UInt8))
 (some ([101,110,101,114,103,121]:List UInt8)))))
noncomputable def Ztj (str:List UInt8) (p:List UInt8):Option ((List UInt8)×Bool) :=
 bnd (α:=(List UInt8)×Bool)
 (bnd (α:=Bool)
 (ifb (decide ((p.length:Int)≤(str.length:Int)))
 (bnd (Zx str (0:Int) (p.length:Int)) λb =>
 some (b==p))
 (some false)) λc =>
 ifb (!c)
 (some (str,false))
 (bnd (Zx str (p.length:Int) (str.length:Int)) λd =>
 some (d,true))) λa =>
 some (a.1,a.2)
noncomputable def Zpf (p:Option ((List ((List UInt8)×(List (List UInt8))×(List (Int×Rat×(List UInt8)))))×(List UInt8)×(List (List UInt8))×(List (Int×Rat×(List UInt8))))) (line:List UInt8):Option ((Option ((List ((List UInt8)×(List (List UInt8))×(List (Int×Rat×(List UInt8)))))×(List UInt8)×(List (List UInt8))×(List (Int×Rat×(List UInt8)))))×Bool) :=
 match p with
| none =>
 (bnd (Zbd line ([32]:List UInt8)) λa =>
 bnd (idx a (0:Int)) λd =>
 ifb (d==([115,116,101,112]:List UInt8))
 (ifb ((a.length:Int)==(2:Int))
 (bnd (idx a (1:Int)) λe =>
 ifb (e != ([]:List UInt8))
 (bnd (idx a (1:Int)) λf =>
 bnd (ZL 64 ([()]:List Unit)) λ_ =>
 some ((some (([]:List ((List UInt8)×(List (List UInt8))×(List (Int×Rat×(List UInt8))))),f,([]:List (List UInt8)),([]:List (Int×Rat×(List UInt8))))),true))
 (some ((none:Option ((List ((List UInt8)×(List (List UInt8))×(List (Int×Rat×(List UInt8)))))×(List UInt8)×(List (List UInt8))×(List (Int×Rat×(List UInt8))))),false)))
 (some ((none:Option ((List ((List UInt8)×(List (List UInt8))×(List (Int×Rat×(List UInt8)))))×(List UInt8)×(List (List UInt8))×(List (Int×Rat×(List UInt8))))),false)))
 (some ((none:Option ((List ((List UInt8)×(List (List UInt8))×(List (Int×Rat×(List UInt8)))))×(List UInt8)×(List (List UInt8))×(List (Int×Rat×(List UInt8))))),false)))
| some qq =>
 (bnd (Zbd line ([32]:List UInt8)) λa =>
 bnd (idx a (0:Int)) λd =>
 ifb (d==([115,116,101,112]:List UInt8))
 (ifb ((a.length:Int)==(2:Int))
 (bnd (idx a (1:Int)) λe =>
 ifb (e != ([]:List UInt8))
 (bnd (idx a (1:Int)) λf =>
 bnd (ZL 64 (qq.1++[(qq.2.1,qq.2.2.1,qq.2.2.2),(qq.2.1,qq.2.2.1,qq.2.2.2)])) λ_ =>
 some ((some (qq.1++[(qq.2.1,qq.2.2.1,qq.2.2.2)],f,([]:List (List UInt8)),([]:List (Int×Rat×(List UInt8))))),true))
 (some ((some (qq.1,qq.2.1,qq.2.2.1,qq.2.2.2)),false)))
 (some ((some (qq.1,qq.2.1,qq.2.2.1,qq.2.2.2)),false)))
 (ifb (decide ((0:Int)<((qq.1.length+1:Nat):Int)))
 (bnd (chk .i64 (((qq.1.length+1:Nat):Int)-(1:Int))) λj =>
 bnd (Zhh qq.1 j) λ_ =>
 bnd (Ztj line ([100,111,32]:List UInt8)) λb =>
 ifb b.2
 (ifb (b.1 != ([]:List UInt8))
 (ifb ((qq.2.2.2.length:Int)==(0:Int))
 (bnd (ZL 16 (qq.2.2.1++[b.1])) λ_ =>
 some ((some (qq.1,qq.2.1,qq.2.2.1++[b.1],qq.2.2.2)),true))
 (some ((some (qq.1,qq.2.1,qq.2.2.1,qq.2.2.2)),false)))
 (some ((some (qq.1,qq.2.1,qq.2.2.1,qq.2.2.2)),false)))
 (ifb ((a.length:Int)==(5:Int))
 (bnd (idx a (0:Int)) λk =>
 ifb (k==([119,104,101,110]:List UInt8))
 (bnd (idx a (3:Int)) λl =>
 ifb (l==([103,111]:List UInt8))
 (bnd (idx a (4:Int)) λm =>
 ifb (m != ([]:List UInt8))
 (bnd (α:=Int)
 (bnd (Zi (σ:=Int) (ρ:=Unit ⊕ Int) (λc =>
 ifb (decide (c<([(0:Int),(1:Int),(2:Int),(3:Int),(4:Int)].length:Int)))
 (bnd (idx [(0:Int),(1:Int),(2:Int),(3:Int),(4:Int)] c) λn =>
 bnd (Z7i n) λo =>
 bnd (idx a (1:Int)) λq =>
 ifb (o==q)
 (some (.inr (.inr c)))
 (bnd (chk .i64 (c+(1:Int))) λr =>
 some (.inl r)))
 (some (.inr (.inl ()))))
           Zp (0:Int)) λs =>
          match s with
| .inl v=>(some (-1:Int))
| .inr t=>(some t)) λg =>
 bnd (idx a (2:Int)) λu =>
 bnd (Zqk u) λh =>
 ifb (decide ((0:Int)≤g))
 (ifb (h.2==(0:Int))
 (bnd (idx a (4:Int)) λi =>
 bnd (ZL 80 (qq.2.2.2++[(g,h.1,i)])) λ_ =>
 some ((some (qq.1,qq.2.1,qq.2.2.1,qq.2.2.2++[(g,h.1,i)])),true))
 (some ((some (qq.1,qq.2.1,qq.2.2.1,qq.2.2.2)),false)))
 (some ((some (qq.1,qq.2.1,qq.2.2.1,qq.2.2.2)),false)))
 (some ((some (qq.1,qq.2.1,qq.2.2.1,qq.2.2.2)),false)))
 (some ((some (qq.1,qq.2.1,qq.2.2.1,qq.2.2.2)),false)))
 (some ((some (qq.1,qq.2.1,qq.2.2.1,qq.2.2.2)),false)))
 (some ((some (qq.1,qq.2.1,qq.2.2.1,qq.2.2.2)),false))))
 (some ((some (qq.1,qq.2.1,qq.2.2.1,qq.2.2.2)),false))))
abbrev PSt:Type:=Option ((List StepD)×StepD)
noncomputable def ZHb:List (List UInt8)→Nat→PSt→Option (PSt×Int×Int)
| [],_,z=>some (z,0,0)
| s :: r,k,z=>if s=[]∨s.head? = some 35 then ZHb r (k+1) z else
 bnd (Zpf z s) λy=>if y.2=true then ZHb r (k+1) y.1 else some (y.1,((k+1:Nat):Int),2)
def Z9a:PSt→List StepD
| none=>[]
| some q=>q.1++[q.2]
noncomputable def Znn (p:List StepD) (lines:List (List UInt8)):Option ((List StepD)×Int×Int):=match p with
| []=>bnd (ZHb lines 0 none) λy=>some (Z9a y.1,y.2.1,y.2.2)
| _ :: _=>none
theorem cutP_m (s:BS) (hs:s.length≤4096):Ztj s ([100,111,32]:List UInt8)=some (if 3≤s.length∧s.take 3=doW then (s.drop 3,true) else (s,false)):=by
 unfold Ztj;rw[show ((([100,111,32]:List UInt8).length:Nat):Int)=(3:Int) from rfl];by_cases h:3≤s.length
 ·have c3:Zx s (3:Int) (s.length:Int)=some (s.drop 3):=by
   have:=Zdk (l:=s) (i:=3) (j:=s.length) (by omega) (Nat.le_refl _);rw[List.take_length]at this;exact this
  rw[dT (by omega),Ze,show Zx s (0:Int) (3:Int)=some (s.take 3) from ZZg (k:=3) s (by omega),Za,Za];by_cases e:s.take 3=doW
  ·rw[iP ⟨h,e⟩,e,show (!(doW==([100,111,32]:List UInt8)))=false from rfl,Zd,c3,Za,Za]
  ·rw[iN (λk=>e k.2),show (!(s.take 3==([100,111,32]:List UInt8)))=true by simpa using e,Ze,Za]
 ·rw[dFq (by omega),Zd,Za,iN (λk=>h k.1)];rfl
theorem Ztr (r:BS):(Zo 32 (100 :: 111 :: 32 :: r)).getD 0 []=[100,111]:=by
 rw[Zo,iN (by decide),Zo,iN (by decide),Zo,iP rfl];rfl
theorem take3 {s:BS} (h:s.take 3=doW):∃ r,s=100 :: 111 :: 32 :: r:=by
 rcases s with _ | ⟨a,_ | ⟨b,_ | ⟨c,r⟩⟩⟩
 ·cases h
 ·cases h
 ·cases h
 ·simp at h;obtain⟨rfl,rfl,rfl⟩:=h;exact⟨r,rfl⟩
theorem quant_q:∀ i,(hi:i<qn.length)→Z7i (i:Int)=some qn[i]:=by
 intro i hi;have:i<5:=hi;rcases (by omega:i=0∨i=1∨i=2∨i=3∨i=4) with rfl | rfl | rfl | rfl | rfl <;> rfl
theorem ix5 {i:Nat} (h:i<5):idx [(0:Int),(1:Int),(2:Int),(3:Int),(4:Int)] (i:Int)=some (i:Int):=by
 rcases (by omega:i=0∨i=1∨i=2∨i=3∨i=4) with rfl | rfl | rfl | rfl | rfl <;> rfl
theorem Zpq:∀ (c:UInt8) (l:BS),0<(Zo c l).length
 | c,[]=>by simp[Zo]
 | c,x :: r=>by unfold Zo;split <;> (try split) <;> simp
theorem Zby (z:PSt) (s:BS) (hs:s.length≤4096) (hp:(Z9a z).length≤10000) (hy:∀ y ∈ Z9a z,y.2.1.length≤10000∧y.2.2.length≤10000) :
    ∃ y,Zpf z s=some (y,(rl (Z9a z) s).2)∧Z9a y=(rl (Z9a z) s).1:=by
  have ht:Zbd s ([32]:List UInt8)=some (Zo 32 s):=by unfold Zbd;simp only;rw[iP (by omega)]
  have hW:=ZPe 32 s;have hl:=Zpq 32 s;have hd0:ZXb s=true→(Zo 32 s).getD 0 []≠stepW:=λh e=>by
    unfold ZXb at h;simp at h;obtain⟨r,rfl⟩:=take3 h.2;rw[Ztr]at e
    cases e
  have i0:idx (Zo 32 s) (0:Int)=some ((Zo 32 s).getD 0 []):=Zfc (i:=0) hl
  cases z with
  | none =>
    unfold Zpf rl;simp only[Z9a] at *;rw[ht,Za,i0,Za];generalize Zo 32 s=W at *;by_cases hst:W.getD 0 []=stepW
    · have hnd:ZXb s=false:=by cases h:ZXb s with
        | false=>rfl
        | true=>exact absurd hst (hd0 h)
      rw[hst,show (stepW==([115,116,101,112]:List UInt8))=true from rfl,Ze,hnd,iN (by decide)];by_cases h2:W.length=2
      · have i1:idx W (1:Int)=some (W.getD 1 []):=Zfc (i:=1) (by omega);rw[show ((W.length:Int)==(2:Int))=true by rw[h2];rfl,Ze,i1,Za];by_cases h1:W.getD 1 []=[]
        · rw[h1,show (([]:BS) != ([]:List UInt8))=false from rfl,Zd,iN (λh=>h.2.2 rfl)];exact⟨_,rfl,rfl⟩
        · rw[show (W.getD 1 [] != ([]:List UInt8))=true by simpa using h1,Ze,Za,Zac (by omega) (by simp),Za,iP ⟨h2,rfl,h1⟩];exact⟨_,rfl,rfl⟩
      · rw[show ((W.length:Int)==(2:Int))=false from beq_false_of_ne (by omega),Zd,iN (λh=>h2 h.1)];exact⟨_,rfl,rfl⟩
    · rw[show (W.getD 0 []==([115,116,101,112]:List UInt8))=false by simpa using hst,Zd,iN (show ¬ (W.length=2∧W.getD 0 []=stepW∧W.getD 1 []≠[]) from λh=>hst h.2.1)];refine⟨none,?_,?_⟩
      · cases ZXb s <;> rfl
      · cases ZXb s <;> rfl
  | some qq =>
    obtain⟨q,y⟩:=qq;obtain⟨y1,y2,y3⟩:=y;have hql:q.length≤10000:=by simp[Z9a]at hp;omega
    have hq:=hy (y1,y2,y3) (by simp[Z9a]);simp only at hq;unfold Zpf rl;simp only[Z9a] at *;simp only[List.getLast?_append,List.getLast?_singleton,Option.some_or,List.dropLast_concat];rw[ht,Za,i0,Za,cutP_m s hs];have hdo:ZXb s=true↔3<s.length∧s.take 3=doW:=by unfold ZXb;simp
    have hdoW:s.take 3=doW→(Zo 32 s).getD 0 []=[100,111]:=λh=>by
      obtain⟨r,rfl⟩:=take3 h;exact Ztr r
    generalize Zo 32 s=W at *;by_cases hst:W.getD 0 []=stepW
    · have hnd:ZXb s=false:=by cases h:ZXb s with
        | false=>rfl
        | true=>exact absurd hst (hd0 h)
      have hnw:¬ (W.length=5∧stepW=whenW∧W.getD 3 []=goW∧W.getD 4 []≠[]∧(prs (W.getD 2 [])).2=0):=λh=>absurd h.2.1 (by decide);rw[hst,show (stepW==([115,116,101,112]:List UInt8))=true from rfl,Ze,hnd,iN (by decide),iN hnw];by_cases h2:W.length=2
      · have i1:idx W (1:Int)=some (W.getD 1 []):=Zfc (i:=1) (by omega);rw[show ((W.length:Int)==(2:Int))=true by rw[h2];rfl,Ze,i1,Za];by_cases h1:W.getD 1 []=[]
        · rw[h1,show (([]:BS) != ([]:List UInt8))=false from rfl,Zd,iN (λh=>h.2.2 rfl)];exact⟨_,rfl,rfl⟩
        · rw[show (W.getD 1 [] != ([]:List UInt8))=true by simpa using h1,Ze,Za,Zac (by omega) (by simp;omega),Za,iP ⟨h2,rfl,h1⟩];exact⟨_,rfl,rfl⟩
      · rw[show ((W.length:Int)==(2:Int))=false from beq_false_of_ne (by omega),Zd,iN (λh=>h2 h.1)];exact⟨_,rfl,rfl⟩
    have hch:chk .i64 (((q.length+1:Nat):Int)-(1:Int))=some (((q.length+1:Nat):Int)-(1:Int)):=Zu (by omega) (by omega);have hla:Zhh q (((q.length+1:Nat):Int)-(1:Int))=some ():=by unfold Zhh;rw[iP (by omega)]
    rw[show (W.getD 0 []==([115,116,101,112]:List UInt8))=false by simpa using hst,Zd,dT (by omega),Ze,hch,Za,hla,Za,Za,iN (show ¬ (W.length=2∧W.getD 0 []=stepW∧W.getD 1 []≠[]) from λh=>hst h.2.1)];by_cases hdd:3≤s.length∧s.take 3=doW
    · rw[iP hdd];simp only;rw[Ze];have hnw:¬ (W.length=5∧W.getD 0 []=whenW∧W.getD 3 []=goW∧W.getD 4 []≠[]∧(prs (W.getD 2 [])).2=0):=λh=>by
        have:=h.2.1;rw[hdoW hdd.2]at this
        cases this
      rw[iN hnw];by_cases h3:3<s.length
      · have hne:s.drop 3≠[]:=λe=>by have:=congrArg List.length e;simp at this;omega
        rw[iP (hdo.2 ⟨h3,hdd.2⟩),show (s.drop 3 != ([]:List UInt8))=true by simpa using hne,Ze];by_cases hz:y3.length=0
        · rw[iP hz,show ((y3.length:Int)==(0:Int))=true by rw[hz];rfl,Ze,Zac (by omega) (by simp;omega),Za];exact⟨_,rfl,rfl⟩
        · rw[iN hz,show ((y3.length:Int)==(0:Int))=false from beq_false_of_ne (by omega),Zd];exact⟨_,rfl,rfl⟩
      · have hn:s.drop 3=[]:=List.drop_eq_nil_of_le (by omega);rw[iN (λh=>h3 (hdo.1 h).1),hn,show (([]:BS) != ([]:List UInt8))=false from rfl,Zd];exact⟨_,rfl,rfl⟩
    · rw[iN hdd,iN (λh=>hdd ⟨by have:=(hdo.1 h).1;omega,(hdo.1 h).2⟩)];simp only;rw[Zd];by_cases h5:W.length=5
      · have i1:idx W (1:Int)=some (W.getD 1 []):=Zfc (i:=1) (by omega);have i2:idx W (2:Int)=some (W.getD 2 []):=Zfc (i:=2) (by omega);have i3:idx W (3:Int)=some (W.getD 3 []):=Zfc (i:=3) (by omega);have i4:idx W (4:Int)=some (W.getD 4 []):=Zfc (i:=4) (by omega);have h2:(W.getD 2 []).length≤4096:=by rw[Zlb (by omega)];exact Nat.le_trans (hW _ (List.getElem_mem _)) hs
        rw[show ((W.length:Int)==(5:Int))=true by rw[h5];rfl,Ze,Za];by_cases hw:W.getD 0 []=whenW
        · rw[hw,show (whenW==([119,104,101,110]:List UInt8))=true from rfl,Ze,i3,Za];by_cases hg:W.getD 3 []=goW
          · rw[hg,show (goW==([103,111]:List UInt8))=true from rfl,Ze,i4,Za];by_cases h4:W.getD 4 []=[]
            · rw[h4,show (([]:BS) != ([]:List UInt8))=false from rfl,Zd,iN (λh=>h.2.2.2.1 rfl)];exact⟨_,rfl,rfl⟩
            rw[show (W.getD 4 [] != ([]:List UInt8))=true by simpa using h4,Ze];have hloop:Zi (σ:=Int) (ρ:=Unit ⊕ Int) (λs10 =>
                ifb (decide (s10<([(0:Int),(1:Int),(2:Int),(3:Int),(4:Int)].length:Int)))
                (bnd (idx [(0:Int),(1:Int),(2:Int),(3:Int),(4:Int)] s10) λy11 =>
                 bnd (Z7i y11) λy12 =>
                 bnd (idx W (1:Int)) λy13 =>
                 ifb (y12==y13)
                 (some (.inr (.inr s10)))
                 (bnd (chk .i64 (s10+(1:Int))) λy14 =>
                  some (.inl y14)))
                  (some (.inr (.inl ())))) Zp (0:Int)=some (match qn.findIdx? (λx=>x==W.getD 1 []) with | some k=>Sum.inr (k:Int) | none=>Sum.inl ()):=by
              refine ZVm (l:=qn) (λx=>x==W.getD 1 []) (λi=>(Sum.inr (i:Int):Unit ⊕ Int)) (Sum.inl ()) (by decide) (λi hi=>?_) ?_
              · have h5':i<5:=hi
                try simp only
                rw[dT (by simp;omega),Ze,ix5 h5',Za,quant_q i hi,Za,i1,Za,Zu (by omega) (by omega),Za]
                cases qn[i]==W.getD 1 [] with
                | true=>rfl
                | false=>rfl
              · rfl
            rw[hloop,Za,i2]
            cases hf:qn.findIdx? (λx=>x==W.getD 1 []) with
            | none =>
              simp only;rw[Za,Za,Zns _ h2,Za,show decide ((0:Int)≤-1)=false from rfl,Zd];have hif:(if W.length=5∧True∧True∧W.getD 4 []≠[]∧(prs (W.getD 2 [])).2=0 then ((q++[(y1,y2,y3)]:List STP),false) else (q++[(y1,y2,y3)],false))=(q++[(y1,y2,y3)],false):=ite_self _;rw[hif];exact⟨_,rfl,rfl⟩
            | some k =>
              simp only;rw[Za,Za,Zns _ h2,Za,dT (by omega),Ze];by_cases hz:(prs (W.getD 2 [])).2=0
              · rw[iP ⟨h5,trivial,trivial,h4,hz⟩,hz,show ((0:Int)==0)=true from rfl,Ze,Za,Zac (by omega) (by simp;omega),Za];exact⟨_,rfl,rfl⟩
              · rw[iN (λh=>hz h.2.2.2.2),show ((prs (W.getD 2 [])).2==(0:Int))=false by simpa using hz,Zd];exact⟨_,rfl,rfl⟩
          · rw[show (W.getD 3 []==([103,111]:List UInt8))=false by simpa using hg,Zd,iN (λh=>hg h.2.2.1)];exact⟨_,rfl,rfl⟩
        · rw[show (W.getD 0 []==([119,104,101,110]:List UInt8))=false by simpa using hw,Zd,iN (λh=>hw h.2.1)];exact⟨_,rfl,rfl⟩
      · rw[show ((W.length:Int)==(5:Int))=false from beq_false_of_ne (by omega),Zd,iN (λh=>h5 h.1)];exact⟨_,rfl,rfl⟩
noncomputable def Zjj (y:(List UInt8)×(List (List UInt8))×(List (Int×Rat×(List UInt8)))) (ahead:List ((List UInt8)×(List (List UInt8))×(List (Int×Rat×(List UInt8))))):Option Int :=
 bnd (Zrj y.1) λf =>
 ifb (!f)
 (some (2:Int))
 (bnd (α:=Bool)
 (ifb (y.1==([101,110,100]:List UInt8))
 (some true)
 (ifb (y.1==([115,99,114,97,112]:List UInt8))
 (some true)
 (bnd (α:=Int)
 (bnd (Zi (σ:=Int) (ρ:=Unit ⊕ Int) (λb =>
 ifb (decide (b<(ahead.length:Int)))
 (bnd (idx ahead b) λg =>
 ifb (g.1==y.1)
 (some (.inr (.inr b)))
 (bnd (chk .i64 (b+(1:Int))) λh =>
 some (.inl h)))
 (some (.inr (.inl ()))))
       Zp (0:Int)) λi =>
      match i with
| .inl A=>(some (-1:Int))
| .inr j=>(some j)) λk =>
 some (decide ((0:Int)≤k))))) λl =>
 ifb l
 (some (8:Int))
 (bnd (α:=Bool)
 (ifb (decide ((16:Int)<(y.2.1.length:Int)))
 (some true)
 (some (decide ((8:Int)<(y.2.2.length:Int))))) λm =>
 ifb m
 (some (4:Int))
 (bnd (Zi (σ:=Int) (ρ:=Unit ⊕ Int) (λd =>
 ifb (decide (d<(y.2.1.length:Int)))
 (bnd (idx y.2.1 d) λn =>
 bnd (ZYi n) λo =>
 ifb (!o)
 (some (.inr (.inr (2:Int))))
 (bnd (chk .i64 (d+(1:Int))) λp =>
 some (.inl p)))
 (some (.inr (.inl ()))))
     Zp (0:Int)) λq =>
    match q with
| .inl B=>(bnd (Zi (σ:=Int) (ρ:=Unit ⊕ Int) (λe =>
 ifb (decide (e<(y.2.2.length:Int)))
 (bnd (idx y.2.2 e) λa =>
 bnd (α:=Bool)
 (ifb (a.1==(0:Int))
 (some true)
 (ifb (a.1==(1:Int))
 (some true)
 (some (a.1==(4:Int))))) λc =>
 bnd (α:=Bool)
 (ifb (!c)
 (ifb (a.1 != (2:Int))
 (ifb (a.1 != (3:Int))
 (some true)
 (ifb c
 (bnd (Zzb a.2.1) λr =>
 some (decide (r<(0:Int))))
 (some false)))
 (ifb c
 (bnd (Zzb a.2.1) λs =>
 some (decide (s<(0:Int))))
 (some false)))
 (ifb c
 (bnd (Zzb a.2.1) λt =>
 some (decide (t<(0:Int))))
 (some false))) λu =>
 ifb u
 (some (.inr (.inr (1:Int))))
 (bnd (chk .i64 (e+(1:Int))) λv =>
 some (.inl v)))
 (some (.inr (.inl ()))))
      Zp (0:Int)) λw =>
     match w with
| .inl C=>(some (0:Int))
| .inr x=>(some x))
| .inr z=>(some z))))
noncomputable def Zkk (prg:List ((List UInt8)×(List (List UInt8))×(List (Int×Rat×(List UInt8))))) (nam:List UInt8):Option Int :=
 bnd (α:=Int)
 (bnd (Zi (σ:=Int) (ρ:=Unit ⊕ Int) (λa =>
 ifb (decide (a<(prg.length:Int)))
 (bnd (idx prg a) λb =>
 ifb (b.1==nam)
 (some (.inr (.inr a)))
 (bnd (chk .i64 (a+(1:Int))) λc =>
 some (.inl c)))
 (some (.inr (.inl ()))))
   Zp (0:Int)) λd =>
  match d with
| .inl g=>(some (-1:Int))
| .inr e=>(some e)) λf =>
 some f
noncomputable def ZHi (prg:List ((List UInt8)×(List (List UInt8))×(List (Int×Rat×(List UInt8))))):Option Int :=
 bnd (α:=Bool)
 (ifb (decide ((prg.length:Int)<(1:Int)))
 (some true)
 (some (decide ((24:Int)<(prg.length:Int))))) λg =>
 ifb g
 (some (4:Int))
 (bnd (Zi (σ:=Int) (ρ:=Unit ⊕ Int) (λa =>
 ifb (decide (a<(prg.length:Int)))
 (bnd (idx prg a) λh =>
 bnd (Zx prg (0:Int) a) λi =>
 bnd (Zjj h i) λe =>
 ifb (e != (0:Int))
 (some (.inr (.inr e)))
 (bnd (chk .i64 (a+(1:Int))) λj =>
 some (.inl j)))
 (some (.inr (.inl ()))))
   Zp (0:Int)) λk =>
  match k with
| .inl u=>(bnd (Zi (σ:=Int) (ρ:=Unit ⊕ Int) (λb =>
 ifb (decide (b<(prg.length:Int)))
 (bnd (idx prg b) λf =>
 bnd (Zi (σ:=Int) (ρ:=Unit ⊕ Int) (λc =>
 ifb (decide (c<(f.2.2.length:Int)))
 (bnd (idx f.2.2 c) λd =>
 bnd (α:=Bool)
 (ifb (d.2.2 != ([101,110,100]:List UInt8))
 (ifb (d.2.2 != ([115,99,114,97,112]:List UInt8))
 (bnd (Zkk prg d.2.2) λl =>
 some (decide (l<(0:Int))))
 (some false))
 (some false)) λm =>
 ifb m
 (some (.inr (.inr (5:Int))))
 (bnd (chk .i64 (c+(1:Int))) λn =>
 some (.inl n)))
 (some (.inr (.inl ()))))
       Zp (0:Int)) λo =>
      match o with
| .inl v=>(bnd (chk .i64 (b+(1:Int))) λp =>
 some (.inl p))
| .inr q=>(some (.inr (.inr q))))
 (some (.inr (.inl ()))))
    Zp (0:Int)) λr =>
   match r with
| .inl w=>(some (0:Int))
| .inr s=>(some s))
| .inr t=>(some t))
noncomputable def Z3i (l:(List ((List UInt8)×(List (List UInt8))×(List (Int×Rat×(List UInt8)))))) (i:Int):Option (Int) :=
 bnd (idx l i) λa =>
 bnd (Z1j a.1) λe =>
 ifb (!(e))
 (some (2:Int))
 (bnd (ifb (a.1==(([101,110,100]:List UInt8)))
 (some true)
 (ifb (a.1==(([115,99,114,97,112]:List UInt8)))
 (some true)
 (bnd (Zx l (0:Int) i) λf =>
 bnd (Zjh f a.1) λg =>
 some (decide ((0:Int)≤g)))))
 (λ(h:Bool) =>
 (ifb (h)
 (some (8:Int))
 (bnd (ifb (decide ((16:Int)<(a.2.1.length:Int)))
 (some true)
 (some (decide ((8:Int)<(a.2.2.length:Int)))))
 (λ(j:Bool) =>
 (ifb (j)
 (some (4:Int))
 (bnd (bnd (Zi (λs:Int=>match s with
| c =>
 (ifb (decide (c<(a.2.1.length:Int)))
 (bnd (idx a.2.1 c) λk =>
 bnd (Zcj k) λm =>
 ifb (!(m))
 (some (.inr ((.inl (2:Int)))))
 (bnd (chk .i64 (c+(1:Int))) λn =>
 some (.inl n)))
 (some (.inr ((.inr (()))))))) Zp (0:Int))
 (λ(p:(Int) ⊕ (Unit))=>match p with
| .inl o =>
 (some ((.inr o)))
| .inr (()) =>
 (some ((.inl (()))))))
 (λ(p:(Unit) ⊕ (Int))=>match p with
| .inl (()) =>
 (bnd (bnd (Zi (λs:Int=>match s with
| d =>
 (ifb (decide (d<(a.2.2.length:Int)))
 (bnd (idx a.2.2 d) λb =>
 bnd (bnd (ZWf b.1) λq =>
 ifb (q==(([]:List UInt8)))
 (some true)
 (ifb (b.1 != (2:Int))
 (ifb (b.1 != (3:Int))
 (bnd (Zlg b.2.1) λr =>
 some (decide (r<(0:Int))))
 (some false))
 (some false)))
 (λ(t:Bool) =>
 (ifb (t)
 (some (.inr ((.inl (1:Int)))))
 (bnd (chk .i64 (d+(1:Int))) λu =>
 some (.inl u)))))
 (some (.inr ((.inr (()))))))) Zp (0:Int))
 (λ(p:(Int) ⊕ (Unit))=>match p with
| .inl v =>
 (some ((.inr v)))
| .inr (()) =>
 (some ((.inl (()))))))
 (λ(p:(Unit) ⊕ (Int))=>match p with
| .inl (()) =>
 (some (0:Int))
| .inr w =>
 (some w)))
| .inr x =>
 (some x)))))))))
noncomputable def Zpk (l:(List ((List UInt8)×(List (List UInt8))×(List (Int×Rat×(List UInt8)))))):Option (Int) :=
 bnd (ifb (decide ((l.length:Int)<(1:Int)))
 (some true)
 (some (decide ((24:Int)<(l.length:Int)))))
 (λ(f:Bool) =>
 (ifb (f)
 (some (4:Int))
 (bnd (bnd (Zi (λs:Int=>match s with
| b =>
 (ifb (decide (b<(l.length:Int)))
 (bnd (Z3i l b) λe =>
 ifb (e != (0:Int))
 (some (.inr ((.inl e))))
 (bnd (chk .i64 (b+(1:Int))) λg =>
 some (.inl g)))
 (some (.inr ((.inr (()))))))) Zp (0:Int))
 (λ(p:(Int) ⊕ (Unit))=>match p with
| .inl h =>
 (some ((.inr h)))
| .inr (()) =>
 (some ((.inl (()))))))
 (λ(p:(Unit) ⊕ (Int))=>match p with
| .inl (()) =>
 (bnd (bnd (Zi (λs:Int=>match s with
| a =>
 (ifb (decide (a<(l.length:Int)))
 (bnd (bnd (Zi (λs:Int=>match s with
| c =>
 (bnd (idx l a) λi =>
 ifb (decide (c<(i.2.2.length:Int)))
 (bnd (idx l a) λj =>
 bnd (idx j.2.2 c) λd =>
 bnd (ifb (d.2.2 != (([101,110,100]:List UInt8)))
 (ifb (d.2.2 != (([115,99,114,97,112]:List UInt8)))
 (bnd (Zjh l d.2.2) λk =>
 some (decide (k<(0:Int))))
 (some false))
 (some false))
 (λ(m:Bool) =>
 (ifb (m)
 (some (.inr ((.inl (5:Int)))))
 (bnd (chk .i64 (c+(1:Int))) λn =>
 some (.inl n)))))
 (some (.inr ((.inr (()))))))) Zp (0:Int))
 (λ(p:(Int) ⊕ (Unit))=>match p with
| .inl o =>
 (some ((.inr o)))
| .inr (()) =>
 (some ((.inl (()))))))
 (λ(p:(Unit) ⊕ (Int))=>match p with
| .inl (()) =>
 (bnd (chk .i64 (a+(1:Int))) λq =>
 some (.inl q))
| .inr r =>
 (some (.inr ((.inl r))))))
 (some (.inr ((.inr (()))))))) Zp (0:Int))
 (λ(p:(Int) ⊕ (Unit))=>match p with
| .inl t =>
 (some ((.inr t)))
| .inr (()) =>
 (some ((.inl (()))))))
 (λ(p:(Unit) ⊕ (Int))=>match p with
| .inl (()) =>
 (some (0:Int))
| .inr u =>
 (some u)))
| .inr v =>
 (some v)))))
abbrev endW:BS:=[101,110,100]
abbrev scrS:BS:=[115,99,114,97,112]
abbrev dG:GD:=(0,0,[])
abbrev dS:STP:=([],[],[])
def badG (g:GD):Bool:=if g.1=2∨g.1=3 then false else if g.1=0∨g.1=1∨g.1=4 then decide (g.2.1<0) else true
theorem badG_r (g:GD):(bnd (ZWf g.1) λy211 =>
 ifb (y211==(([]:List UInt8)))
 (some true)
 (ifb (g.1 != ((2:Int)))
 (ifb (g.1 != ((3:Int)))
 (bnd (Zlg g.2.1) λy221 =>
 some (decide (y221<(0:Int))))
 (some false))
 (some false)))=some (badG g):=by
 obtain⟨k,v,s⟩:=g;unfold badG ZWf;simp only;rw[rsg];simp only[Za];rw[neg_d];by_cases h0:k=0
 ·subst h0;rfl
 by_cases h1:k=1
 ·subst h1;rfl
 by_cases h2:k=2
 ·subst h2;rfl
 by_cases h3:k=3
 ·subst h3;rfl
 by_cases h4:k=4
 ·subst h4;rfl
 rw[show (k==(0:Int))=false by simpa using h0,show (k==(1:Int))=false by simpa using h1,show (k==(2:Int))=false by simpa using h2,show (k==(3:Int))=false by simpa using h3,show (k==(4:Int))=false by simpa using h4];simp only[Zd,Za];rw[iN (by omega),iN (by omega)];rfl
def e8 (ahead:List STP) (y:STP):Bool:=(y.1==endW) || ((y.1==scrS) || decide (0≤ZOd ahead y.1))
def dC (l:List BS) (i:Nat):Int:=if doB (l.getD i [])=true then 0 else 2
def gC (l:List GD) (i:Nat):Int:=if badG (l.getD i dG)=true then 1 else 0
def chkS (ahead:List STP) (y:STP):Int:=if Zdf y.1=false then 2 else if e8 ahead y=true then 8 else if 16<y.2.1.length∨8<y.2.2.length then 4 else if cf (dC y.2.1) 0 y.2.1.length≠0 then cf (dC y.2.1) 0 y.2.1.length else cf (gC y.2.2) 0 y.2.2.length
structure SzS (y:STP):Prop where
 nam:y.1.length≤maxLen
 dos:∀ d ∈ y.2.1,d.length≤maxLen
 nd:y.2.1.length≤100000
 ng:y.2.2.length≤100000
theorem Zbv {l:List STP} {i:Nat} (hi:i<l.length) (h:SzS l[i]) (ha:l.length≤100000):Z3i l (i:Int)=some (chkS (l.take i) l[i]):=by
 have nd:=h.nd;have ng:=h.ng;unfold Z3i chkS;rw[Zm hi,Za,ZZg _ (by omega)];generalize l[i]=y at *;rw[Z9t _ h.nam,Za]
 cases hn:Zdf y.1 with
 | false=>rw[iP rfl];rfl
 | true =>
 simp only[Bool.not_true,Zd];rw[iN (by decide)];refine ZJ (y:=e8 (l.take i) y) ?_ ?_
 ·unfold e8;rw[Za,ZNq _ _ (by simp;omega),Za]
  cases y.1==endW with
  | true=>rfl
  | false =>
   cases y.1==scrS with
   | true=>rfl
   | false=>rfl
 cases e8 (l.take i) y with
 | true=>rw[Ze,iP rfl]
 | false =>
 rw[Zd,iN (by decide),or2,Za];by_cases h0:16<y.2.1.length∨8<y.2.2.length
 ·rw[dT (by omega),Ze,iP h0]
 rw[dFq (by omega),Zd,iN h0];refine ZJ (y:=if cf (dC y.2.1) 0 y.2.1.length≠0 then .inr (cf (dC y.2.1) 0 y.2.1.length) else .inl ()) (ZJ (Zsh (dC y.2.1) y.2.1.length (by omega) (λi hi=>?_) ?_) (ZYg _ trivial)) ?_
 ·have g:=Zlb (l:=y.2.1) (d:=[]) hi
  try simp only
  rw[dT (by omega),Ze,Zm hi,Za,Z3w _ (h.dos _ (List.getElem_mem hi)),Za];unfold dC;rw[g]
  cases doB y.2.1[i] with
  | false=>rfl
  | true =>
   simp only[Bool.not_true,Zd];rw[Zu (by omega) (by omega),Za];rfl
 ·try simp only
  rw[dFq (by omega),Zd]
 ·generalize cf (dC y.2.1) 0 y.2.1.length=b;by_cases hb:b≠0
  ·rw[iP hb,iP hb]
  rw[iN hb,iN hb];refine ZJ (y:=if cf (gC y.2.2) 0 y.2.2.length≠0 then .inr (cf (gC y.2.2) 0 y.2.2.length) else .inl ()) (ZJ (Zsh (gC y.2.2) y.2.2.length (by omega) (λi hi=>?_) ?_) (ZYg _ trivial)) ?_
  ·have g:=Zlb (l:=y.2.2) (d:=dG) hi
   try simp only
   rw[dT (by omega),Ze,Zm hi,Za,badG_r,Za];unfold gC;rw[g]
   cases badG y.2.2[i] with
   | true=>rfl
   | false=>rw[Zd,Zu (by omega) (by omega),Za];rfl
  ·try simp only
   rw[dFq (by omega),Zd]
  ·generalize cf (gC y.2.2) 0 y.2.2.length=b;by_cases hb:b≠0
   ·rw[iP hb]
   ·rw[iN hb,Decidable.not_not.1 hb]
abbrev gP (P:List STP) (i:Nat):STP:=P.getD i dS
abbrev gG (G:List GD) (k:Nat):GD:=G.getD k dG
def ZUh (P:List STP) (g:GD):Bool:=(g.2.2 != endW)&&((g.2.2 != scrS)&&decide (ZOd P g.2.2<0))
theorem Zbr {P:List STP} (g:GD):(ifb (g.2.2 != (([101,110,100]:List UInt8)))
 (ifb (g.2.2 != (([115,99,114,97,112]:List UInt8)))
 (bnd (some (ZOd P g.2.2)) λy214 =>
 some (decide (y214<(0:Int))))
 (some false))
 (some false))=some (ZUh P g):=by
 unfold ZUh;rw[Za]
 cases g.2.2 != endW with
 | false=>rfl
 | true =>
  cases g.2.2 != scrS with
  | false=>rfl
  | true=>rfl
def sC (P:List STP) (i:Nat):Int:=chkS (P.take i) (gP P i)
def tC (P:List STP) (G:List GD) (k:Nat):Int:=if ZUh P (gG G k)=true then 5 else 0
def nC (P:List STP) (i:Nat):Int:=cf (tC P (gP P i).2.2) 0 (gP P i).2.2.length
def Zzc (P:List STP):Int:=if P.length<1∨24<P.length then 4 else if cf (sC P) 0 P.length≠0 then cf (sC P) 0 P.length else cf (nC P) 0 P.length
theorem Zfw {P:List STP} (h:∀ x ∈ P,SzS x) (hn:P.length≤100000):Zpk P=some (Zzc P):=by
 unfold Zpk Zzc;rw[or2,Za];by_cases h0:P.length<1∨24<P.length
 ·rw[dT (by omega),Ze,iP h0]
 rw[dFq (by omega),Zd,iN h0];refine ZJ (y:=if cf (sC P) 0 P.length≠0 then .inr (cf (sC P) 0 P.length) else .inl ()) (ZJ (Zsh (sC P) P.length (by omega) (λi hi=>?_) ?_) (ZYg _ trivial)) ?_
 ·have g:=Zlb (l:=P) (d:=dS) hi
  try simp only
  rw[dT (by omega),Ze,Zbv hi (h _ (List.getElem_mem hi)) (by omega),Za];unfold sC gP;rw[g];generalize chkS (P.take i) P[i]=b;by_cases hb:b≠0
  ·rw[iP hb,show (b != 0)=true by simpa using hb,Ze]
  ·rw[iN hb,show (b != 0)=false by simpa using hb,Zd,Zu (by omega) (by omega),Za]
 ·try simp only
  rw[dFq (by omega),Zd]
 ·generalize cf (sC P) 0 P.length=b;by_cases hb:b≠0
  ·rw[iP hb,iP hb]
  rw[iN hb,iN hb];refine ZJ (y:=if cf (nC P) 0 P.length≠0 then .inr (cf (nC P) 0 P.length) else .inl ()) (ZJ (Zsh (nC P) P.length (by omega) (λi hi=>?_) ?_) (ZYg _ trivial)) ?_
  ·have g:=Zlb (l:=P) (d:=dS) hi;have ng:=(h _ (List.getElem_mem hi)).ng
   try simp only
   rw[dT (by omega),Ze,Zm hi];unfold nC gP;rw[g];generalize P[i]=y at *;simp only[Za];refine ZJ (y:=if cf (tC P y.2.2) 0 y.2.2.length≠0 then .inr (cf (tC P y.2.2) 0 y.2.2.length) else .inl ()) (ZJ (Zsh (tC P y.2.2) y.2.2.length (by omega) (λk hk=>?_) ?_) (ZYg _ trivial)) ?_
   ·have g2:=Zlb (l:=y.2.2) (d:=dG) hk
    try simp only
    rw[dT (by omega),Ze,Zm hk,Za,ZNq _ _ (by omega),Zbr,Za];unfold tC gG;rw[g2]
    cases ZUh P y.2.2[k] with
    | true=>rfl
    | false=>rw[Zd,Zu (by omega) (by omega),Za];rfl
   ·try simp only
    rw[dFq (by omega),Zd]
   ·generalize cf (tC P y.2.2) 0 y.2.2.length=b;by_cases hb:b≠0
    ·rw[iP hb,iP hb]
    ·rw[iN hb,iN hb];simp only;rw[Zu (by omega) (by omega),Za]
  ·try simp only
   rw[dFq (by omega),Zd]
  ·generalize cf (nC P) 0 P.length=b;by_cases hb:b≠0
   ·rw[iP hb]
   ·rw[iN hb,Decidable.not_not.1 hb]
theorem fnd2 {l:List STP} {s:BS} {body:Int→Option (Int ⊕ (Unit ⊕ Int))} (hl:l.length<2^62)
  (h1:∀ i,(hi:i<l.length)→body (i:Int)=if (l[i].1==s)=true then some (.inr (.inr (i:Int))) else some (.inl ((i:Int)+1))) (he:body (l.length:Int)=some (.inr (.inl ()))) :
  bnd (Zi body Zp (0:Int)) (λx=>match x with
   | .inl r6=>(some (-1:Int))
   | .inr r7=>(some r7))=some (ZOd l s):=by
 rw[ZVm (l:=l) (λx=>x.1==s) (λi=>.inr (i:Int)) (.inl ()) hl h1 he];unfold ZOd
 cases l.findIdx? λx=>x.1==s <;> rfl
theorem ZLx (l:List STP) (s:BS) (hl:l.length≤100000):Zkk l s=some (ZOd l s):=by
 unfold Zkk;refine ZJ (fnd2 (by omega) (λi hi=>?_) ?_) rfl
 ·try simp only
  rw[dT (by omega),Ze,Zm hi,Za]
  cases l[i].1==s with
  | true=>rw[Ze,iP rfl]
  | false=>rw[Zd,Zu (by omega) (by omega),Za,iN (by decide)]
 ·try simp only
  rw[dFq (by omega),Zd]
theorem badG_q (g:GD) {α:Type} (f:Bool→Option α):(bnd (α:=Bool)
        (ifb (g.1==(0:Int))
         (some true)
         (ifb (g.1==(1:Int))
          (some true)
          (some (g.1==(4:Int))))) λx19 =>
        bnd (α:=Bool)
        (ifb (!x19)
         (ifb (g.1 != (2:Int))
          (ifb (g.1 != (3:Int))
           (some true)
           (ifb x19
            (bnd (Zzb g.2.1) λy20 =>
             some (decide (y20<(0:Int))))
            (some false)))
          (ifb x19
           (bnd (Zzb g.2.1) λy21 =>
            some (decide (y21<(0:Int))))
           (some false)))
         (ifb x19
          (bnd (Zzb g.2.1) λy22 =>
           some (decide (y22<(0:Int))))
          (some false))) f)=f (badG g):=by
  obtain⟨k,v,s⟩:=g;unfold badG;simp only;rw[sg];simp only[Za];rw[neg_d];by_cases h0:k=0
  · subst h0;rfl
  by_cases h1:k=1
  · subst h1;rfl
  by_cases h4:k=4
  · subst h4;rfl
  rw[show (k==(0:Int))=false by simpa using h0,show (k==(1:Int))=false by simpa using h1,show (k==(4:Int))=false by simpa using h4];simp only[Zd,Za,Bool.not_false,Ze];by_cases h2:k=2
  · subst h2;rfl
  by_cases h3:k=3
  · subst h3;rfl
  rw[show (k != (2:Int))=true by simpa using h2,show (k != (3:Int))=true by simpa using h3,Ze,Ze,Za,iN (by omega),iN (by omega)]
theorem out2 (b:Int):(match (if b≠0 then (.inr b:Unit ⊕ Int) else .inl ()) with | .inl _=>some (0:Int) | .inr r=>some r)=some b:=by
 by_cases h:b≠0
 ·rw[iP h]
 ·rw[iN h,Decidable.not_not.1 h]
theorem Zhw {y:STP} {ahead:List STP} (h:SzS y) (ha:ahead.length≤100000):Zjj y ahead=some (chkS ahead y):=by
 have nd:=h.nd;have ng:=h.ng;unfold Zjj chkS;rw[Z7u _ h.nam,Za]
 cases hn:Zdf y.1 with
 | false=>rw[iP rfl];rfl
 | true =>
 simp only[Bool.not_true,Zd];rw[iN (by decide)];refine ZJ (y:=e8 ahead y) ?_ ?_
 ·unfold e8
  cases y.1==endW with
  | true=>rfl
  | false =>
   cases y.1==scrS with
   | true=>rfl
   | false =>
    rw[Zd,Zd];refine ZJ (fnd2 (by omega) (λi hi=>?_) ?_) rfl
    ·try simp only
     rw[dT (by omega),Ze,Zm hi,Za]
     cases ahead[i].1==y.1 with
     | true=>rw[Ze,iP rfl]
     | false=>rw[Zd,Zu (by omega) (by omega),Za,iN (by decide)]
    ·try simp only
     rw[dFq (by omega),Zd]
 cases e8 ahead y with
 | true=>rw[Ze,iP rfl]
 | false =>
 rw[Zd,iN (by decide),or2,Za];by_cases h0:16<y.2.1.length∨8<y.2.2.length
 ·rw[dT (by omega),Ze,iP h0]
 rw[dFq (by omega),Zd,iN h0];refine ZJ (ZHh (λi=>(i:Int)) rfl (dC y.2.1) (λc=>.inr c) (.inl ()) y.2.1.length (by omega) (λi hi=>?_) ?_) ?_
 ·have g:=Zlb (l:=y.2.1) (d:=[]) hi
  try simp only
  rw[dT (by omega),Ze,Zm hi,Za,isDo_eq _ (h.dos _ (List.getElem_mem hi)),Za];unfold dC;rw[g]
  cases doB y.2.1[i] with
  | false=>rfl
  | true =>
   simp only[Bool.not_true,Zd];rw[Zu (by omega) (by omega),Za];rfl
 ·try simp only
  rw[dFq (by omega),Zd]
 generalize cf (dC y.2.1) 0 y.2.1.length=b;by_cases hb:b≠0
 ·rw[iP hb,iP hb]
 rw[iN hb,iN hb]
 try simp only
 refine ZJ (ZHh (λi=>(i:Int)) rfl (gC y.2.2) (λc=>.inr c) (.inl ()) y.2.2.length (by omega) (λi hi=>?_) ?_) (out2 _)
 ·have g:=Zlb (l:=y.2.2) (d:=dG) hi
  try simp only
  rw[dT (by omega),Ze,Zm hi,Za,badG_q];unfold gC;rw[g]
  cases badG y.2.2[i] with
  | true=>rfl
  | false=>rw[Zd,Zu (by omega) (by omega),Za];rfl
 ·try simp only
  rw[dFq (by omega),Zd]
theorem ZDx {P:List STP} (h:∀ x ∈ P,SzS x) (hn:P.length≤100000):ZHi P=some (Zzc P):=by
 unfold ZHi Zzc;rw[or2,Za];by_cases h0:P.length<1∨24<P.length
 ·rw[dT (by omega),Ze,iP h0]
 rw[dFq (by omega),Zd,iN h0];refine ZJ (ZHh (λi=>(i:Int)) rfl (sC P) (λc=>.inr c) (.inl ()) P.length (by omega) (λi hi=>?_) ?_) ?_
 ·have g:=Zlb (l:=P) (d:=dS) hi
  try simp only
  rw[dT (by omega),Ze,Zm hi,Za,ZZg _ (by omega),Za,Zhw (h _ (List.getElem_mem hi)) (by simp;omega),Za];unfold sC gP;rw[g];generalize chkS (P.take i) P[i]=b;by_cases hb:b≠0
  ·rw[iP hb,show (b != 0)=true by simpa using hb,Ze]
  ·rw[iN hb,show (b != 0)=false by simpa using hb,Zd,Zu (by omega) (by omega),Za];rfl
 ·try simp only
  rw[dFq (by omega),Zd]
 generalize cf (sC P) 0 P.length=b;by_cases hb:b≠0
 ·rw[iP hb,iP hb]
 rw[iN hb,iN hb]
 try simp only
 refine ZJ (ZHh (λi=>(i:Int)) rfl (nC P) (λc=>.inr c) (.inl ()) P.length (by omega) (λi hi=>?_) ?_) (out2 _)
 ·have g:=Zlb (l:=P) (d:=dS) hi;have ng:=(h _ (List.getElem_mem hi)).ng
  try simp only
  rw[dT (by omega),Ze,Zm hi,Za];unfold nC gP;rw[g];generalize P[i]=y at *;refine ZJ (ZHh (λi=>(i:Int)) rfl (tC P y.2.2) (λc=>.inr c) (.inl ()) y.2.2.length (by omega) (λk hk=>?_) ?_) ?_
  ·have g2:=Zlb (l:=y.2.2) (d:=dG) hk
   try simp only
   rw[dT (by omega),Ze,Zm hk,Za,ZLx _ _ (by omega),Zbr,Za];unfold tC gG;rw[g2]
   cases ZUh P y.2.2[k] with
   | true=>rfl
   | false=>rw[Zd,Zu (by omega) (by omega),Za];rfl
  ·try simp only
   rw[dFq (by omega),Zd]
  generalize cf (tC P y.2.2) 0 y.2.2.length=b;by_cases hb:b≠0
  ·rw[iP hb,iP hb]
  ·rw[iN hb,iN hb]
   try simp only
   rw[Zu (by omega) (by omega),Za];rfl
 ·try simp only
  rw[dFq (by omega),Zd]
noncomputable def Zvi (text:List UInt8):Option ((List ((List UInt8)×(List (List UInt8))×(List (Int×Rat×(List UInt8)))))×Int×Int) :=
 ifb (decide ((65536:Int)<(text.length:Int)))
 (some (([]:List ((List UInt8)×(List (List UInt8))×(List (Int×Rat×(List UInt8))))),(0:Int),(4:Int)))
 (bnd (Zbd text ([10]:List UInt8)) λc =>
 bnd (Znn ([]:List StepD) c) λa =>
 ifb (a.2.2 != (0:Int))
 (some (([]:List ((List UInt8)×(List (List UInt8))×(List (Int×Rat×(List UInt8))))),a.2.1,a.2.2))
 (bnd (ZHi a.1) λb =>
 ifb (b != (0:Int))
 (some (([]:List ((List UInt8)×(List (List UInt8))×(List (Int×Rat×(List UInt8))))),(0:Int),b))
 (some (a.1,(0:Int),(0:Int)))))
noncomputable def ZBj (text:List UInt8):Option ((List ((List UInt8)×(List (List UInt8))×(List (Int×Rat×(List UInt8)))))×Int×Int) :=
 ifb (decide ((65536:Int)<(text.length:Int)))
 (some (([]:List ((List UInt8)×(List (List UInt8))×(List (Int×Rat×(List UInt8))))),(0:Int),(4:Int)))
 (bnd (Zi (σ:=(List ((List UInt8)×(List (List UInt8))×(List (Int×Rat×(List UInt8)))))×Int×Int×Int) (ρ:=(List ((List UInt8)×(List (List UInt8))×(List (Int×Rat×(List UInt8))))) ⊕ ((List ((List UInt8)×(List (List UInt8))×(List (Int×Rat×(List UInt8)))))×Int×Int)) (λa =>
 ifb (decide (a.2.2.2≤(text.length:Int)))
 (bnd (α:=((List ((List UInt8)×(List (List UInt8))×(List (Int×Rat×(List UInt8)))))×Int×Int) ⊕ ((List ((List UInt8)×(List (List UInt8))×(List (Int×Rat×(List UInt8)))))×Int×Int))
 (bnd (α:=Bool)
 (ifb (decide (a.2.2.2<(text.length:Int)))
 (bnd (idx text a.2.2.2) λk =>
 ifb (((k.toNat:Nat):Int) != (10:Int))
 (some true)
 (ifb (a.2.2.2==(text.length:Int))
 (some (a.2.1==a.2.2.2))
 (some false)))
 (ifb (a.2.2.2==(text.length:Int))
 (some (a.2.1==a.2.2.2))
 (some false))) λl =>
 ifb l
 (some (.inr (a.1,a.2.1,a.2.2.1)))
 (bnd (Zx text a.2.1 a.2.2.2) λb =>
 bnd (chk .i64 (a.2.2.2+(1:Int))) λg =>
 bnd (chk .i64 (a.2.2.1+(1:Int))) λc =>
 bnd (α:=Bool)
 (ifb (b==([]:List UInt8))
 (some true)
 (bnd (idx b (0:Int)) λm =>
 some (((m.toNat:Nat):Int)==(35:Int)))) λn =>
 ifb n
 (some (.inr (a.1,g,c)))
 (bnd (Zrg a.1 b) λh =>
 ifb (!h.2)
 (some (.inl (([]:List ((List UInt8)×(List (List UInt8))×(List (Int×Rat×(List UInt8))))),c,(2:Int))))
 (some (.inr (h.1,g,c)))))) λo =>
     match o with
| .inl d=>(some (.inr (.inr (d.1,d.2.1,d.2.2))))
| .inr e=>(bnd (chk .i64 (a.2.2.2+(1:Int))) λp =>
 some (.inl (e.1,e.2.1,e.2.2,p))))
 (some (.inr (.inl a.1))))
   Zp (([]:List ((List UInt8)×(List (List UInt8))×(List (Int×Rat×(List UInt8))))),(0:Int),(0:Int),(0:Int))) λq =>
  match q with
| .inl i=>(bnd (Zpk i) λj =>
 ifb (j != (0:Int))
 (some (([]:List ((List UInt8)×(List (List UInt8))×(List (Int×Rat×(List UInt8))))),(0:Int),j))
 (some (i,(0:Int),(0:Int))))
| .inr f=>(some (f.1,f.2.1,f.2.2)))
def Z3f (s:BS):Prop:=s=[]∨s.head? = some 35
instance (s:BS):Decidable (Z3f s):=inferInstanceAs (Decidable (_∨_))
def RL (p:List STP) (k:Nat):List BS→List STP ⊕ Nat
 | []=>.inl p
 | s :: r=>if Z3f s then RL p (k+1) r else if (rl p s).2=true then RL (rl p s).1 (k+1) r else .inr (k+1)
structure InvP (p:List STP) (k:Nat):Prop where
 len:p.length≤k
 at_:∀ y ∈ p,y.1.length≤4096∧(∀ d ∈ y.2.1,d.length≤4096)∧y.2.1.length≤k∧y.2.2.length≤k
theorem InvP.mono {p:List STP} {k m:Nat} (h:InvP p k) (hk:k≤m):InvP p m:=⟨by have:=h.len;omega,λy hy=>by obtain⟨a,b,c,d⟩:=h.at_ y hy;exact⟨a,b,by omega,by omega⟩⟩
theorem ZAk {l:List BS} {n i:Nat} (h:∀ x ∈ l,x.length≤n):(l.getD i []).length≤n:=by
 by_cases hi:i<l.length
 ·rw[Zlb hi];exact h _ (List.getElem_mem hi)
 ·rw[List.getD_eq_getElem?_getD,List.getElem?_eq_none (by omega)];simp
theorem ZOm {p:List STP} {k:Nat} {s:BS} (h:InvP p k) (hs:s.length≤4096):InvP (rl p s).1 (k+1):=by
 have h1:=h.mono (Nat.le_succ k);have hW:∀ x ∈ Zo 32 s,x.length≤4096:=λx hx=>Nat.le_trans (ZPe 32 s x hx) hs;have hl:∀ (q:List STP) (y y':STP),p=q++[y]→y'.1.length≤4096→(∀ d ∈ y'.2.1,d.length≤4096)→y'.2.1.length≤k+1→y'.2.2.length≤k+1→InvP (q++[y']) (k+1):=by
  intro q y y' e a b c d;subst e;refine⟨by have:=h.len;simp at this ⊢;omega,λx hx=>?_⟩;rcases List.mem_append.1 hx with hx | hx
  ·exact h1.at_ x (List.mem_append_left _ hx)
  ·rw[List.mem_singleton]at hx;subst hx;exact⟨a,b,c,d⟩
 unfold rl;rcases List.eq_nil_or_concat p with rfl | ⟨q,y,rfl⟩
 ·simp only[List.getLast?_nil];split
  ·exact h1
  ·split
   ·refine⟨by simp,λx hx=>?_⟩;simp at hx;subst hx;exact⟨ZAk hW,by simp,by simp,by simp⟩
   ·exact h1
 simp only[List.concat_eq_append] at *;simp only[List.getLast?_append,List.getLast?_singleton,Option.some_or,List.dropLast_concat];obtain⟨a,b,c,d⟩:=h.at_ y (by simp);split
 ·split
  ·refine hl q y _ rfl a (λx hx=>?_) (by simp;omega) (by simp only;omega);rcases List.mem_append.1 hx with hx | hx
   ·exact b x hx
   ·rw[List.mem_singleton]at hx;subst hx;simp;omega
  ·exact h1
 ·split
  ·refine⟨by have:=h.len;simp at this ⊢;omega,λx hx=>?_⟩;rcases List.mem_append.1 hx with hx | hx
   ·exact h1.at_ x hx
   ·rw[List.mem_singleton]at hx;subst hx;exact⟨ZAk hW,by simp,by simp,by simp⟩
  ·split
   ·split
    ·exact hl q y _ rfl a b (by simp only;omega) (by simp;omega)
    ·exact h1
   ·exact h1
theorem Zvh:∀ (ls:List BS) (p:List STP) (k:Nat) {p':List STP},InvP p k→(∀ s ∈ ls,s.length≤4096)→RL p k ls = .inl p'→InvP p' (k+ls.length)
 | [],p,k,p',h,_,e=>by cases e;exact h
 | s :: r,p,k,p',h,hs,e=>by
  unfold RL at e
  have hr:∀ x ∈ r,x.length≤4096:=λx hx=>hs x (List.mem_cons_of_mem _ hx)
  have hk:k+1+r.length=k+(s :: r).length:=by simp;omega
  split at e
  ·rw[← hk];exact Zvh r p (k+1) (h.mono (Nat.le_succ k)) hr e
  ·split at e
   ·rw[← hk];exact Zvh r _ (k+1) (ZOm h (hs s (by simp))) hr e
   ·cases e
theorem ZZk:∀ (ls:List BS) (k:Nat) (z:PSt),InvP (Z9a z) k→k+ls.length≤10000→(∀ s ∈ ls,s.length≤4096) →
  ∃ z',ZHb ls k z=some (z',(match RL (Z9a z) k ls with | .inl _=>0 | .inr n=>(n:Int)),(match RL (Z9a z) k ls with | .inl _=>0 | .inr n=>2))∧∀ p,RL (Z9a z) k ls = .inl p→Z9a z'=p
 | [],k,z,h,_,_=>⟨z,rfl,λp e=>by cases e;rfl⟩
 | s :: r,k,z,h,hk,hs=>by
  have hr:∀ x ∈ r,x.length≤4096:=λx hx=>hs x (List.mem_cons_of_mem _ hx)
  have hk1:k+1+r.length≤10000:=by simp at hk;omega
  unfold ZHb RL
  by_cases h0:Z3f s
  ·rw[iP h0,iP (show s=[]∨s.head? = some 35 from h0)]
   exact ZZk r (k+1) z (h.mono (Nat.le_succ k)) hk1 hr
  ·rw[iN h0,iN (show ¬ (s=[]∨s.head? = some 35) from h0)]
   obtain⟨y,e1,e2⟩:=Zby z s (hs s (by simp)) (by have:=h.len;omega) (λy hy=>by obtain⟨_,_,c,d⟩:=h.at_ y hy;exact⟨by omega,by omega⟩)
   rw[e1,Za]
   cases h2:(rl (Z9a z) s).2 with
   | true =>
    rw[iP rfl,iP rfl]
    have:=ZZk r (k+1) y (by rw[e2];exact ZOm h (hs s (by simp))) hk1 hr
    rw[e2]at this
    exact this
   | false =>
    rw[iN (by decide),iN (by decide)]
    exact⟨y,rfl,λp e=>by cases e⟩
theorem Z3s {p:List STP} {k:Nat} (h:InvP p k) (hk:k≤10000):∀ x ∈ p,SzS x:=λx hx=>by
 obtain⟨a,b,c,d⟩:=h.at_ x hx
 exact⟨by unfold maxLen;omega,λy hy=>by have:=b y hy;unfold maxLen;omega,by omega,by omega⟩
def PP (text:BS):List STP×Int×Int:=match RL [] 0 (Zo 10 text) with
 | .inr n=>([],(n:Int),2)
 | .inl p=>if Zzc p≠0 then ([],0,Zzc p) else (p,0,0)
theorem ZTj (c:UInt8):∀ l:BS,(Zo c l).length≤l.length+1
 | []=>by simp[Zo]
 | x :: r=>by
  have:=ZTj c r
  unfold Zo
  split
  ·simp;omega
  ·split
   ·simp
   ·rename_i e;rw[e]at this;simp at this ⊢;omega
theorem Zcw (text:BS) (hl:text.length≤3000):Zvi text=some (PP text):=by
 have hs:∀ x ∈ Zo 10 text,x.length≤4096:=λx hx=>by have:=ZPe 10 text x hx;omega
 have hn:=ZTj 10 text;unfold Zvi PP;rw[dFq (by omega),Zd,show Zbd text ([10]:List UInt8)=some (Zo 10 text) by unfold Zbd;simp only;rw[iP (by omega)],Za];have h0:InvP (Z9a none) 0:=⟨Nat.le_refl _,λy hy=>by cases hy⟩;obtain⟨z',e1,e2⟩:=ZZk (Zo 10 text) 0 none h0 (by omega) hs;have hI:=λp'=>Zvh (Zo 10 text) [] 0 (p':=p') h0 hs;simp only[Z9a] at *;unfold Znn;simp only;rw[e1,Za,Za]
 cases hR:RL [] 0 (Zo 10 text) with
 | inr n=>rfl
 | inl p =>
  have:=e2 p hR;have hp:=hI p hR;simp only;rw[show Z9a z'=p from e2 p hR,show ((0:Int) != (0:Int))=false from rfl,Zd,ZDx (Z3s hp (by omega)) (by have:=hp.len;omega),Za];by_cases hc:Zzc p≠0
  ·rw[iP hc,show (Zzc p != (0:Int))=true by simpa using hc,Ze]
  ·rw[iN hc,show (Zzc p != (0:Int))=false by simpa using hc,Zd]
end Go.Eng
