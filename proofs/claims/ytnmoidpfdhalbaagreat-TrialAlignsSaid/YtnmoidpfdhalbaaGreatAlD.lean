/- Lemmas towards the statement: the engine of the walks, the functions' models, laws and walks, part 4. Conditions: as each states. -/
import Derived.Laws.CopyRow
import Derived.Laws.IdiomStrings
import Derived.Lib.AppendZerosOnto
import Derived.Lib.Overlaps
import Derived.Scope
import Derived.Test.YtnmoidpfdhalbaaGreatAlC
set_option linter.all false
set_option maxRecDepth 100000
namespace Go.Eng
open Go.RowKit
theorem St.bare {K:Nat} {w0:Base} {v0:Zb} {σ:List (Nat×Value)} {ℓ:List Loc} {v:Zb} {a:Act} {w:World} (h:St K w0 v0 σ ℓ v a w):St K w0 v0 [] ℓ v a w:=h.frame Z7u
theorem Z2i {v:Zb} {γ:Nat→Gh} {l:Lo} {x:V} {cs:List Value} (h:RR v γ l false x cs) (hf:x.fit=true):cellsOf (x.val cs) cs∧cs.all plain=true:=by
 unfold V.fit at hf;have hp:x.plain=true:=by
  cases hp:x.plain
  ·rw [hp] at hf;cases hf
  ·rfl
 have hpl:=Zls hp h;refine ⟨?_,hpl⟩;rw [hp] at hf;unfold V.val
 cases ha:x.isAgg with
 | true=>exact Z9u cs
 | false =>
  rw [ha] at hf;have hs:=Nat.eq_of_beq_eq_true hf;have e:=Zsg h hs ha;have hv:x.val cs=cs.headD undef:=by unfold V.val;rw [ha]
  rw [hv] at e;rw [e] at hpl;have hpl':plain (cs.headD undef)=true:=by simpa using hpl
  have:=ZCb hpl';show cellsOf (cs.headD undef) cs
  conv=>arg 2;rw [e]
  exact this
theorem ZMm {x:V} (hf:x.fit=true):∀ c,x ≠ .tup c:=fun c e=>by subst e;cases hf
section
variable {P:Program} {N:Nat} {G:V→Value→Prop} {w0:Base} {v0:Zb} {U X:Nat→Prop} {f:Fr} {l:Lo} {a:Act} {w:World} {γ:Nat→Gh} {v:Zb} {ℓ:List Loc} {n:Nat}
variable {ty:TypeId} {pos:String} {aft:Array Edge} {g:Option (Nat×Bool)}
theorem ZEf {o:Oper} {l':Lo} {w':World} {γ':Nat→Gh} {v':Zb} {ℓ':List Loc} {Post:Unit→Fr→Lo→Prop} (hr:RelX N G w0 v0 U X f l' a w' γ' v' ℓ') (hU:∀ k,U k→X k) (ho:o.dst=none) (hrun:(execOp a.eval o).run P w = .ok .skip w') (h:Post () f l'):ZHa P N G w0 v0 X o a w Post:=by
 refine Z2l hrun ?_;rw [ho];exact ⟨_,_,h,_,_,_,hr.mono hU fun _ h=>h⟩
theorem all_upd {cs0 cs:List Value} {off:Nat} (h0:cs0.all plain=true) (h1:cs.all plain=true):(cs0.take off++cs++cs0.drop (off+cs.length)).all plain=true:=by
 have h0':=List.all_eq_true.1 h0;refine List.all_eq_true.2 fun x hx=>?_;rcases List.mem_append.1 hx with hx | hx
 ·rcases List.mem_append.1 hx with hx | hx
  ·exact h0' x (List.mem_of_mem_take hx)
  ·exact List.all_eq_true.1 h1 x hx
 ·exact h0' x (List.mem_of_mem_drop hx)
theorem Z9n {t:T} {x:t.den} {z x':V} {off:Nat} {cs cz:List Value} (hg:ZZa FU (.data t x) off z=some x') (hx:t.rep.rel v cs x) (hz:RR v γ l false z cz) (hkz:z.ok U) :
  RR v γ l false x' (cs.take off++cz++cs.drop (off+cz.length))∧x'.ok U∧off+cz.length≤t.n:=by
 obtain ⟨h1,h2,h3,_⟩:=Z8e FU hg (γ:=γ) (l:=l) (x:=.data t x) hx hz trivial hkz;refine ⟨h1,h2,?_⟩;have:=Rep.len _ hx;rw [ZQ] at this;omega
theorem Zhq {t:T}:∀ {rows:List (Option Nat×Nat)} {m:List (List t.den)} {es:List Loc} {i:Nat} {p:Option Nat×Nat} {r:List t.den},Zwa v ty t rows m es→rows[i]? = some p→m[i]? = some r →
  ∃ cs e1 e2,es=e1 ++ .own p.1 ty t.n r.length p.2 cs :: e2∧t.rep.rels v cs r∧∀ (r':List t.den) (cs':List Value),r'.length=r.length→t.rep.rels v cs' r'→Zt rows (m.set i r')=Zt rows m∧Zwa v ty t rows (m.set i r') (e1 ++ .own p.1 ty t.n r.length p.2 cs' :: e2)
 | [],[],_,_,_,_,_,h,_=>by simp at h
 | q :: ps,r0 :: rs,es,0,p,r,⟨cs,es',h1,h2,h3⟩,hp,hr=>by
  simp at hp hr
  subst hp hr
  refine ⟨cs,[],es',by simpa using h2,h1,fun r' cs' hl hc=>⟨by simp [Zt,hl],?_⟩⟩
  exact ⟨cs',es',hc,by rw [← hl];rfl,h3⟩
 | q :: ps,r0 :: rs,es,i+1,p,r,⟨cs,es',h1,h2,h3⟩,hp,hr=>by
  simp only [List.getElem?_cons_succ] at hp hr
  obtain ⟨c2,e1,e2,k2,k3,k4⟩:=Zhq h3 hp hr
  subst k2
  refine ⟨c2,.own q.1 ty t.n r0.length q.2 cs :: e1,e2,by simpa using h2,k3,fun r' cs' hl hc=>?_⟩
  obtain ⟨k5,k6⟩:=k4 r' cs' hl hc
  exact ⟨by simp only [List.set_cons_succ,Zt,k5],cs,_,h1,rfl,k6⟩
 | [],_ :: _,_,_,_,_,k,_,_=>k.elim
 | _ :: _,[],_,_,_,_,k,_,_=>k.elim
theorem Zxo {t:T} {p:Option Nat×Nat} {r':List t.den} {cs':List Value}:∀ {rows:List (Option Nat×Nat)} {m:List (List t.den)} {es:List Loc} {i:Nat} {p0:Option Nat×Nat},Zwa v ty t rows m es→rows[i]? = some p0→t.rep.rels v cs' r' →
  (Zt rows m).take i++[Value.slice (mkA p.1) r'.length p.2]++(Zt rows m).drop (i+1)=Zt (rows.set i p) (m.set i r')∧∃ e1 e2 c,es=e1++c :: e2∧Zwa v ty t (rows.set i p) (m.set i r') (e1 ++ .own p.1 ty t.n r'.length p.2 cs' :: e2)
 | [],[],_,_,_,_,h,_=>by simp at h
 | q :: ps,r0 :: rs,es,0,p0,⟨cs,es',h1,h2,h3⟩,hp,hc=>by
  refine ⟨by simp [Zt],[],es',_,by simpa using h2,?_⟩
  exact ⟨cs',es',hc,rfl,h3⟩
 | q :: ps,r0 :: rs,es,i+1,p0,⟨cs,es',h1,h2,h3⟩,hp,hc=>by
  simp only [List.getElem?_cons_succ] at hp
  obtain ⟨k1,e1,e2,c,k2,k3⟩:=Zxo (p:=p) h3 hp hc
  subst k2
  refine ⟨by simp only [List.set_cons_succ,Zt,List.take_succ_cons,List.drop_succ_cons,List.cons_append,k1],.own q.1 ty t.n r0.length q.2 cs :: e1,e2,c,by simpa using h2,?_⟩
  exact ⟨cs,_,h1,rfl,k3⟩
 | [],_ :: _,_,_,_,k,_,_=>k.elim
 | _ :: _,[],_,_,_,k,_,_=>k.elim
theorem ZIt {α:Type} {m:List (List α)} {i:Nat} {r r':List α} (hr:m[i]? = some r) (hl:r'.length=r.length):(m.set i r').map List.length=m.map List.length:=by
 apply List.ext_getElem?;intro j;simp only [List.getElem?_map];by_cases h:i=j
 ·subst h;have hlt:=(List.getElem?_eq_some_iff.1 hr).1;rw [List.getElem?_set_self hlt,hr];simp [hl]
 ·rw [List.getElem?_set_ne h]
theorem ZSh:∀ (g:Nat) {x z x':V} {off:Nat},ZZa g x off z=some x'→x.ok U→z.ok U→x'.ok U
 | 0,_,_,_,_,h,_,_=>by cases h
 | g+1,x,z,x',off,h,hk,hkz=>by
  have whole:∀ {y:V},(match Nat.beq off 0,Nat.beq y.size z.size,eqB y.isAgg z.isAgg with
    | true,true,true=>some z
    | _,_,_=>match y with
     | .agg c=>match ZZa g c off z with
      | some c'=>some (.agg c')
      | none=>none
     | .data t x=>match ZIb t x with
      | some c=>match ZZa g c off z with
       | some c'=>some (.agg c')
       | none=>none
      | none=>none
     | _=>none)=some x'→y.ok U→x'.ok U:=by
   intro y hy hk;split at hy
   ·cases hy;exact hkz
   ·split at hy
    ·split at hy
     ·rename_i c' he;cases hy;exact (show V.ok U c' from ZSh g he hk hkz)
     ·cases hy
    ·split at hy
     ·rename_i c hc;split at hy
      ·rename_i c' he;cases hy;exact (show V.ok U c' from ZSh g he (ZJp hc) hkz)
      ·cases hy
     ·cases hy
    ·cases hy
  cases x with
  | nl=>simp only [ZZa] at h;cases h
  | cons a b =>
   simp only [ZZa] at h;split at h
   ·split at h
    ·rename_i he;cases h;exact ⟨ZSh g he hk.1 hkz,hk.2⟩
    ·cases h
   ·split at h
    ·split at h
     ·rename_i he;cases h;exact ⟨hk.1,ZSh g he hk.2 hkz⟩
     ·cases h
    ·cases h
  | data t x=>exact whole (y:=.data t x) h hk
  | agg c=>exact whole (y:=.agg c) h hk
  | nilS=>exact whole (y:=.nilS) h hk
  | own u=>exact whole (y:=.own u) h hk
  | row u i hv cv t r=>exact whole (y:=.row u i hv cv t r) h hk
  | ptr u o=>exact whole (y:=.ptr u o) h hk
  | el u i cv t x o=>exact whole (y:=.el u i cv t x o) h hk
  | rp u i hv cv t r=>exact whole (y:=.rp u i hv cv t r) h hk
  | rel u i j hv cv t r x o=>exact whole (y:=.rel u i j hv cv t r x o) h hk
  | vp t x o=>exact whole (y:=.vp t x o) h hk
  | tup c=>exact whole (y:=.tup c) h hk
  | fn f c=>exact whole (y:=.fn f c) h hk
  | ifc f c=>exact whole (y:=.ifc f c) h hk
  | undef=>exact whole (y:=.undef) h hk
theorem Z0i {b off:Nat} {c c':List Value} (h:WAt w b off c) (h':WAt w b off c') (hl:c.length=c'.length):c=c':=by
 obtain ⟨x,T,fr,h1,h2⟩:=h;obtain ⟨x',T',fr',h3,h4⟩:=h';rw [h1] at h3;cases h3;rw [← h2,← h4,hl]
theorem Zto (hr:RelX N G w0 v0 U X f l a w γ v ℓ) {u k st:Nat} {ty0:TypeId} {t:T} {xs:List t.den} {fz:Bool} (he:lkE l u=some ⟨k,st,.own ty0 t xs fz⟩) {b cap i:Nat} {x:t.den} (hγ:γ u = .own (some b) cap) (hx:xs[i]? = some x):∃ c,t.rep.rel v c x∧WAt w b (0+i*t.n) c:=by
 obtain ⟨hkk,es,hes,hmem⟩:=hr.loc he;have hkk:k=u:=hkk;subst hkk
 cases fz with
 | false =>
  obtain ⟨ob,cap',cs,q1,q2,rfl⟩:=hes;have q1:γ k = .own ob cap':=q1;rw [hγ] at q1;cases q1;obtain ⟨j,hj⟩:=hmem _ (List.mem_singleton.2 rfl);have hrel:=Zga q2 hx;rw [ZQ] at hrel;have hl:=Rep.len _ hrel;rw [ZQ] at hl;refine ⟨_,hrel,?_⟩;have:=ZYc hr.st hj rfl (List.getElem?_eq_some_iff.1 hx).1 0 ((cs.drop (i*t.n)).take t.n) (by rw [hl,List.drop_zero,List.take_take,Nat.min_self]) (by omega)
  simpa using this
 | true =>
  obtain ⟨ob,cap',q1,q2,_⟩:=hes;have q1:γ k = .own ob cap':=q1;rw [hγ] at q1;cases q1;obtain ⟨_,b2,o2,cs2,e2,h2,h3⟩:=Z3a q2 hx
  cases e2
  rw [ZQ] at h2;exact ⟨cs2,h3,hr.st.view h2⟩
theorem ZAo (hr:RelX N G w0 v0 U X f l a w γ v ℓ) {u k st hv:Nat} {ty0 ty2:TypeId} {t:T} {m:List (List t.den)} (he:lkE l u=some ⟨k,st,.mat ty0 ty2 t m hv⟩) {ob:Option Nat} {cap i j bi capi:Nat} {rows:List (Option Nat×Nat)} {r:List t.den} {x:t.den}
  (hγ:γ u = .mat ob cap rows) (hrow:rows[i]? = some (some bi,capi)) (hm:m[i]? = some r) (hx:r[j]? = some x):∃ c,t.rep.rel v c x∧WAt w bi (0+j*t.n) c:=by
 obtain ⟨hkk,es,hes,hmem⟩:=hr.loc he;have hkk:k=u:=hkk;subst hkk;obtain ⟨ob',cap',rows',es2,q1,q2,rfl⟩:=hes;have q1:γ k = .mat ob' cap' rows':=q1;rw [hγ] at q1;cases q1;obtain ⟨p',cs,r1,r2,r3⟩:=ZBf q2 hm;rw [hrow] at r1;cases r1;obtain ⟨jj,hj⟩:=hmem _ (List.mem_cons_of_mem _ r3);have hrel:=Zga r2 hx;rw [ZQ] at hrel;have hl:=Rep.len _ hrel;rw [ZQ] at hl;refine ⟨_,hrel,?_⟩;have:=ZYc hr.st hj rfl (List.getElem?_eq_some_iff.1 hx).1 0 ((cs.drop (j*t.n)).take t.n) (by rw [hl,List.drop_zero,List.take_take,Nat.min_self]) (by omega)
 simpa using this
theorem stE_ok (hr:RelX N G w0 v0 U X f l a w γ v ℓ) (hU:∀ k,U k→X k) (hX:X n) (hn:¬ U n) {t:TypeId} {x y:Operand} {o:Oper} {p q:V} {Post:Unit→Fr→Lo→Prop} (ho:o=⟨none,.store t x y,ty,pos,aft,g⟩) (hp:RV v γ l p (a.eval x)) (hq:RV v γ l q (a.eval y)) (hk:p.ok U) (hkq:q.ok U)
  (h:Zq n (stE P n t p q) f l Post):ZHa P N G w0 v0 X o a w Post:=by
 unfold stE at h;split at h
 ·exact h.elim
 ·rename_i sz hsz;split at h
  ·rename_i b1 b2 b3;have b1:=Nat.eq_of_beq_eq_true b1;have b2:=Zdn b2;obtain ⟨cs,hcs,hqe⟩:=Zyb hq (ZMm b3);obtain ⟨hcells,hpl⟩:=Z2i hcs b3;have hlen:cs.length=sz.1:=(ZDd hcs).trans b1;have hS:=Zyf hsz;split at h
   · -- a variable
    rename_i u off;obtain ⟨en,he,h⟩:=h;obtain ⟨yy,hy0,_,hy⟩:=Zda hp (fun _ e=>by cases e) rfl rfl;have hy0:a.eval x=yy:=(List.cons.inj hy0).1;have hy:=hy en he;obtain ⟨kk,st,L⟩:=en;obtain ⟨hm,hkk⟩:=Zz he;have hkk:kk=u:=hkk;subst hkk
    cases L with
    | box ty0 c =>
     simp only at h;obtain ⟨b',g4,rfl⟩:=hy;split at h
     ·rename_i c' hc';obtain ⟨es,E',h1,h2,_,h3,_⟩:=hr.del he;obtain ⟨b,cs0,g1,g2,g3,rfl⟩:=h1;have g1:γ kk = .box b:=g1;rw [g1] at g4;cases g4;have hcok:c.ok U:=(hr.ul _ hm).2.2;obtain ⟨k1,k2,k3,_⟩:=Z8e FU hc' g2 hcs hcok hkq;rw [hlen] at k3;have hs:=hr.st.perm h3;obtain ⟨σ,hσ,e1,e2⟩:=hs.ev2 x y;rw [hy0] at e1;rw [hqe] at e2;obtain ⟨w',hrun,hst⟩:=ZYp (P:=P) hσ hS hcells hlen (i:=0) rfl (by omega) hpl;have hle:Le U v γ l v γ (⟨kk,n,.box ty0 c'⟩ :: era l kk):=Le.upd hr he (Zb.le_refl _) (fun _ _=>rfl) rfl;subst ho;refine ZEf (hr.upd hX (hr.ul _ hm).1 h2 hst.bare hle (fun _ _=>rfl) ⟨_,_,g1,Zrb hle k2 k1,all_upd g3 hpl,rfl⟩ (List.Perm.refl _) k2) hU rfl (hrun e1 e2) h
     ·exact h.elim
    | own _ _ _ _=>exact h.elim
    | mid _ _ _ _ _ _=>exact h.elim
    | mat _ _ _ _ _=>exact h.elim
   · -- an element
    rename_i u i cv s x0 off;split at h
    ·rename_i z hz;obtain ⟨yy,hy0,_,⟨c0,hc0⟩,hy⟩:=Zda hp (fun _ e=>by cases e) rfl rfl;have hy0:a.eval x=yy:=(List.cons.inj hy0).1;obtain ⟨z1,z2,z3⟩:=Z9n hz hc0 hcs hkq;obtain ⟨y1,l1,γ1,v1,ℓ1,h,r1,le1,q1⟩:=Zpd hn hX FU h hr z2;obtain ⟨en,he,h⟩:=h;have hp1:=ZDb le1 hk hp;obtain ⟨yy',hy0',_,_,hy⟩:=Zda hp1 (fun _ e=>by cases e) rfl rfl;have hy0':a.eval x=yy':=(List.cons.inj hy0').1;have hy:=hy en he;obtain ⟨kk,st,L⟩:=en;obtain ⟨hm,hkk⟩:=Zz he;have hkk:kk=u:=hkk;subst hkk
     cases L with
     | own ty0 s' xs fz =>
      cases fz with
      | true=>exact h.elim
      | false =>
       simp only at h;obtain ⟨b,cap,g1,rfl,g3,g4⟩:=hy;obtain ⟨es,E',h1,h2,_,h3,_⟩:=r1.del he;obtain ⟨ob,cap',cs1,f1,f2,rfl⟩:=h1;have f1:γ1 kk = .own ob cap':=f1;rw [g1] at f1;cases f1;have fin:∀ (c:List Value) (y':s'.den),(cs1.drop (i*s'.n)).take s'.n=c→off+sz.1≤s'.n→s'.rep.rel v1 (c.take off++cs++c.drop (off+sz.1)) y'→Post () f (⟨kk,n,.own ty0 s' (xs.set i y') false⟩ :: era l1 kk)→ZHa P N G w0 v0 X o a w Post:=by
        intro c y' hc hfit hrel hpost;have hs:=r1.st.perm h3;obtain ⟨σ,hσ,e1,e2⟩:=hs.ev2 x y;rw [hy0'] at e1;rw [hqe] at e2;have hset:=ZVp f2 g3 hc hrel (ZQ s').symm hfit;have hcl:=Z9d f2;rw [ZQ] at hcl;have hfit2:0+i*s'.n+off+sz.1≤cs1.length:=Zmr hs (j:=0) rfl g3 hfit;obtain ⟨w',hrun,hst⟩:=ZHb (P:=P) hσ hS hcells hlen (i:=0) rfl hfit2 hpl;rw [hlen] at hst;have hle:Le U v1 γ1 l1 v1 γ1 (⟨kk,n,.own ty0 s' (xs.set i y') false⟩ :: era l1 kk):=Le.upd r1 he (Zb.le_refl _) (fun _ _=>rfl) ⟨rfl,rfl,by simp,fun e=>absurd e hn⟩;have hst':St N w0 v0 [] (.own (some b) ty0 s'.n (xs.set i y').length cap (cs1.take (0+i*s'.n+off)++cs++cs1.drop (0+i*s'.n+off+sz.1)) :: E'.flatten) v1 a w':=by
         rw [List.length_set];exact hst.bare
        subst ho;exact ZEf (r1.upd hX (r1.ul _ hm).1 h2 hst' hle (fun _ _=>rfl) ⟨some b,cap,_,g1,hset,rfl⟩ (List.Perm.refl _) trivial) hU rfl (hrun e1 e2) hpost
       have full:off=0→sz.1=s.n→∀ y',T.cast s s' y1=some y'→Post () f (⟨kk,n,.own ty0 s' (xs.set i y') false⟩ :: era l1 kk)→ZHa P N G w0 v0 X o a w Post:=by
        intro e0 e1 y' hc hpost;obtain ⟨c3,c4⟩:=Zla hc;subst c3;subst c4;refine fin _ y1 rfl (by omega) ?_ hpost;have hl0:=Rep.len _ hc0;rw [ZQ] at hl0;have hcl:=Z9d f2;rw [ZQ] at hcl;have hdl:((cs1.drop (i*s.n)).take s.n).length=s.n:=by
         have:i*s.n+s.n≤cs1.length:=by rw [hcl,← Nat.succ_mul];exact Nat.mul_le_mul_right _ g3
         simp;omega
        have q1:=q1 _ z1;rw [e0] at q1 ⊢;rw [List.take_zero,List.drop_of_length_le (by omega)] at q1 ⊢;exact q1
       split at h
       ·rename_i hh1 hh2;split at h
        ·rename_i y' hy';exact full (Nat.eq_of_beq_eq_true hh1) (b1.symm.trans (Nat.eq_of_beq_eq_true hh2)) y' hy' h
        ·exact h.elim
       ·rename_i hcv _;split at h
        ·rename_i y' hy';obtain ⟨ys,c1,c2⟩:=g4 (Nat.eq_of_beq_eq_true hcv);obtain ⟨c3,c4⟩:=Zla c1
         cases c3;cases c4
         rw [Zxj] at hy';cases hy';have hrel:=Zga f2 c2;rw [ZQ] at hrel;obtain ⟨⟨k0,st0,L0⟩,he0,hce⟩:=le1.l _ _ hk.1 he;have hst:U st:=(Nat.eq_of_beq_eq_true hcv) ▸ hk.2
         cases L0 with
         | own ty1 t1 xs1 fz1 =>
          obtain ⟨d1,d2,d3,d4⟩:=hce;obtain ⟨d5,d6⟩:=d4 hst
          cases d6
          rw [d1] at g1;obtain ⟨c,hc1,hc2⟩:=Zto hr he0 g1 c2;obtain ⟨z1',_,_⟩:=Z9n hz hc1 hcs hkq;have q2:=q1 _ z1';rw [hlen] at q2;refine fin c y1 ?_ (by omega) q2 h;have g1':γ1 kk = .own (some b) cap:=by rw [d1];exact g1
          obtain ⟨c',hc1',hc2'⟩:=Zto r1 he g1' c2;have hl1:=Rep.len _ hc1;have hl2:=Rep.len _ hc1';have e1:=Z0i hc2 hc2' (hl1.trans hl2.symm);have hl3:=Rep.len _ hrel;rw [ZQ] at hl1 hl3;obtain ⟨jj,hj⟩:∃ i:Nat,ℓ1[i]? = some (.own (some b) ty0 s.n xs.length cap cs1):=List.getElem?_of_mem (h3.mem_iff.2 (by simp));have hw:=ZYc r1.st hj rfl g3 0 ((cs1.drop (i*s.n)).take s.n) (by rw [hl3,List.drop_zero,List.take_take,Nat.min_self]) (by omega);exact Z0i (by simpa using hw) hc2 (hl3.trans hl1.symm)
         | box _ _=>exact hce.elim
         | mid _ _ _ _ _ _ =>
          obtain ⟨_,_,_,_,hyl⟩:=Zda hp (fun _ e=>by cases e) rfl rfl;exact (hyl _ he0).elim
         | mat _ _ _ _ _ =>
          obtain ⟨_,_,_,_,hyl⟩:=Zda hp (fun _ e=>by cases e) rfl rfl;exact (hyl _ he0).elim
        ·exact h.elim
       ·exact h.elim
     | box _ _=>exact h.elim
     | mid _ _ _ _ _ _=>exact h.elim
     | mat _ _ _ _ _=>exact h.elim
    ·exact h.elim
   · -- a row is put into its place
    rename_i u i hv0 cv0 s0 r0;split at h
    ·rename_i u2 _ _;obtain ⟨en,he,h⟩:=h;obtain ⟨yy,hy0,_,hy⟩:=Zda hp (fun _ e=>by cases e) rfl rfl;have hy0:a.eval x=yy:=(List.cons.inj hy0).1;have hy:=hy en he;obtain ⟨kk,st,L⟩:=en;obtain ⟨hm,hkk⟩:=Zz he;have hkk:kk=u:=hkk;subst hkk
     cases L with
     | mat ty0 ty2 s m hv =>
      obtain ⟨en2,he2,h⟩:=h;obtain ⟨k2,st2,L2⟩:=en2;obtain ⟨hm2,hkk2⟩:=Zz he2;have hkk2:k2=u2:=hkk2;subst hkk2
      cases L2 with
      | own ty3 s' xs fz =>
       cases fz with
       | true=>exact h.elim
       | false =>
        simp only at h;split at h
        ·rename_i l' ht3 hl';have ht3:=Nat.eq_of_beq_eq_true ht3;subst ht3;obtain ⟨c3,c4⟩:=Zla hl'
         cases c3;cases c4
         have hne:kk≠k2:=fun e=>by subst e;rw [he] at he2;cases he2
         obtain ⟨b,cap,rows,g1,rfl,g3,g4⟩:=hy;obtain ⟨es2,E2,h1,h2,h2',h3,r2⟩:=hr.del he2;obtain ⟨ob2,cap2,cs2,f1,f2,rfl⟩:=h1;have he':lkE (era l k2) kk=some ⟨kk,st,.mat ty0 ty3 s m hv⟩:=by
          rw [ZYb hr.nd,if_neg (fun e=>hne e.symm)];exact he
         obtain ⟨esm,E',hsp1,hsp2,hsp3⟩:=Z7f h2' he';obtain ⟨ob',cap',rows,es3,q1,q2,rfl⟩:=hsp1;have q1:γ kk = .mat ob' cap' rows:=q1;rw [g1] at q1;cases q1;have hrl:=ZWf q2;obtain ⟨p',hp'⟩:∃ p',rows[i]? = some p':=⟨_,List.getElem?_eq_getElem (by omega)⟩;obtain ⟨hh,e1,e2,csx,k1,k3⟩:=Zxo q2 hp' (p:=(ob2,cap2)) (r':=xs) f2;have hq1:a.eval y = .slice (mkA ob2) xs.length cap2:=by
          obtain ⟨yq,hyq0,_,hyq⟩:=Zda hq (fun _ e=>by cases e) rfl rfl;obtain ⟨oq,cq,gq1,gq2⟩:=hyq _ he2;have f1:γ k2 = .own ob2 cap2:=f1;rw [f1] at gq1;cases gq1;exact ((List.cons.inj hyq0).1).trans gq2
         have hs:St N w0 v0 [] (.own (some b) ty0 1 m.length cap (Zt rows m) :: .own ob2 ty3 s.n xs.length cap2 cs2 :: (es3++E'.flatten)) v a w:=by
          refine hr.st.perm ((h3.trans (List.Perm.append_left _ hsp3)).trans ?_);simp only [List.cons_append];exact List.Perm.swap _ _ _
         obtain ⟨σ,hσ,ee1,ee2⟩:=hs.ev2 x y;rw [hy0] at ee1;rw [hq1] at ee2;have hS1:Sized P t ([Value.slice (mkA ob2) xs.length cap2]:List Value).length sz.2:=by
          have:sz.1=1:=b1.symm;rw [this] at hS;exact hS
         have hfit:0+i*1+([Value.slice (mkA ob2) xs.length cap2]:List Value).length≤(Zt rows m).length:=by
          rw [ZEd hrl];simp only [List.length_singleton];omega
         obtain ⟨w',hrun,hst⟩:=ZHb (P:=P) hσ hS1 (cs:=[Value.slice (mkA ob2) xs.length cap2]) (z:=.slice (mkA ob2) xs.length cap2) (ZCb rfl) rfl (i:=0) rfl hfit rfl;have hh':(Zt rows m).take (0+i*1)++[Value.slice (mkA ob2) xs.length cap2]++(Zt rows m).drop (0+i*1+1)=Zt (rows.set i (ob2,cap2)) (m.set i xs):=by
          rw [Nat.zero_add,Nat.mul_one];exact hh
         have hst:=hst.bare;simp only [List.set_cons_zero,List.length_singleton] at hst;rw [hh'] at hst;subst k1;have hst':St N w0 v0 [] (.own (some b) ty0 1 (m.set i xs).length cap (Zt (rows.set i (ob2,cap2)) (m.set i xs)) :: (e1 ++ .own ob2 ty3 s.n xs.length cap2 cs2 :: e2)++E'.flatten) v a w':=by
          rw [List.length_set];refine (hst.drop (ℓ':=.own (some b) ty0 1 m.length cap (Zt (rows.set i (ob2,cap2)) (m.set i xs)) :: .own ob2 ty3 s.n xs.length cap2 cs2 :: ((e1++e2)++E'.flatten)) ?_).perm ?_
          ·refine List.Sublist.cons_cons _ (List.Sublist.cons_cons _ (List.Sublist.append (List.Sublist.append (List.Sublist.refl _) (List.sublist_cons_self _ _)) (List.Sublist.refl _)))
          ·simp only [List.cons_append];refine List.Perm.cons _ ?_;rw [← List.cons_append];exact List.Perm.append_right _ (List.perm_middle.symm)
         have hle:Le U v γ (era l k2) v (ZMc γ kk (.mat (some b) cap (rows.set i (ob2,cap2)))) (⟨kk,n,.mat ty0 ty3 s (m.set i xs) n⟩ :: era (era l k2) kk):=Le.upd r2 he' (Zb.le_refl _) (fun _ hne=>Zoc hne) ⟨rfl,by simp,⟨_,_,_,_,g1,Zlb,fun e=>absurd e hn⟩,fun e=>absurd e hn⟩;subst ho;refine ZEf (r2.upd hX (r2.ul _ (Zz he').1).1 hsp2 hst' hle (fun _ hne=>Zoc hne) ⟨some b,cap,rows.set i (ob2,cap2),_,Zlb,k3,rfl⟩ ?_ hX) hU rfl (hrun ee1 ee2) h;exact List.Perm.refl _
        ·exact h.elim
      | box _ _=>exact h.elim
      | mid _ _ _ _ _ _=>exact h.elim
      | mat _ _ _ _ _=>exact h.elim
     | mid ty0 ty2 s m hv sm =>
      cases sm with
      | swp _ _=>exact h.elim
      | hol i1 =>
       obtain ⟨_,heq,h⟩:=h;have heq:i=i1:=by
        unfold eqN at heq;split at heq
        ·assumption
        ·cases heq
       subst heq;obtain ⟨en2,he2,h⟩:=h;obtain ⟨k2,st2,L2⟩:=en2;obtain ⟨hm2,hkk2⟩:=Zz he2;have hkk2:k2=u2:=hkk2;subst hkk2
       cases L2 with
       | own ty3 s' xs fz =>
        cases fz with
        | true=>exact h.elim
        | false =>
         simp only at h;split at h
         ·rename_i l' ht3 hl';have ht3:=Nat.eq_of_beq_eq_true ht3;subst ht3;obtain ⟨c3,c4⟩:=Zla hl'
          cases c3;cases c4
          have hne:kk≠k2:=fun e=>by subst e;rw [he] at he2;cases he2
          obtain ⟨b,cap,rows,g1,rfl,g3,g4⟩:=hy;obtain ⟨es2,E2,h1,h2,h2',h3,r2⟩:=hr.del he2;obtain ⟨ob2,cap2,cs2,f1,f2,rfl⟩:=h1;have he':lkE (era l k2) kk=some ⟨kk,st,.mid ty0 ty3 s m hv (.hol i)⟩:=by
           rw [ZYb hr.nd,if_neg (fun e=>hne e.symm)];exact he
          obtain ⟨esm,E',hsp1,hsp2,hsp3⟩:=Z7f h2' he';obtain ⟨ob',cap',rows,es3,hs,es4,q1,q2,⟨rfl,e1,c,e2,rfl,rfl,rfl⟩,rfl⟩:=hsp1;have q1:γ kk = .mat ob' cap' rows:=q1;rw [g1] at q1;cases q1;have hrl:=ZWf q2;obtain ⟨hh,k3⟩:=Z7v q2 (p:=(ob2,cap2)) (r':=xs) f2;have hq1:a.eval y = .slice (mkA ob2) xs.length cap2:=by
           obtain ⟨yq,hyq0,_,hyq⟩:=Zda hq (fun _ e=>by cases e) rfl rfl;obtain ⟨oq,cq,gq1,gq2⟩:=hyq _ he2;have f1:γ k2 = .own ob2 cap2:=f1;rw [f1] at gq1;cases gq1;exact ((List.cons.inj hyq0).1).trans gq2
          have hs:St N w0 v0 [] (.own (some b) ty0 1 m.length cap (Zt rows m) :: .own ob2 ty3 s.n xs.length cap2 cs2 :: (e1++e2++E'.flatten)) v a w:=by
           refine hr.st.perm ((h3.trans (List.Perm.append_left _ hsp3)).trans ?_);simp only [List.cons_append];exact List.Perm.swap _ _ _
          obtain ⟨σ,hσ,ee1,ee2⟩:=hs.ev2 x y;rw [hy0] at ee1;rw [hq1] at ee2;have hS1:Sized P t ([Value.slice (mkA ob2) xs.length cap2]:List Value).length sz.2:=by
           have:sz.1=1:=b1.symm;rw [this] at hS;exact hS
          have hfit:0+e1.length*1+([Value.slice (mkA ob2) xs.length cap2]:List Value).length≤(Zt rows m).length:=by
           rw [ZEd hrl];simp only [List.length_singleton];omega
          obtain ⟨w',hrun,hst⟩:=ZHb (P:=P) hσ hS1 (cs:=[Value.slice (mkA ob2) xs.length cap2]) (z:=.slice (mkA ob2) xs.length cap2) (ZCb rfl) rfl (i:=0) rfl hfit rfl;have hh':(Zt rows m).take (0+e1.length*1)++[Value.slice (mkA ob2) xs.length cap2]++(Zt rows m).drop (0+e1.length*1+1)=Zt (rows.set e1.length (ob2,cap2)) (m.set e1.length xs):=by
           rw [Nat.zero_add,Nat.mul_one];exact hh
          have hst:=hst.bare;simp only [List.set_cons_zero,List.length_singleton] at hst;rw [hh'] at hst;have hst':St N w0 v0 [] (.own (some b) ty0 1 (m.set e1.length xs).length cap (Zt (rows.set e1.length (ob2,cap2)) (m.set e1.length xs)) :: (e1 ++ .own ob2 ty3 s.n xs.length cap2 cs2 :: e2)++E'.flatten) v a w':=by
           rw [List.length_set];refine hst.perm ?_;simp only [List.cons_append,List.append_assoc];exact List.Perm.cons _ List.perm_middle.symm
          have hle:Le U v γ (era l k2) v (ZMc γ kk (.mat (some b) cap (rows.set e1.length (ob2,cap2)))) (⟨kk,n,.mat ty0 ty3 s (m.set e1.length xs) n⟩ :: era (era l k2) kk):=Le.upd r2 he' (Zb.le_refl _) (fun _ hne=>Zoc hne) ⟨rfl,by simp,⟨_,_,_,_,g1,Zlb,fun e=>absurd e hn⟩,fun e=>absurd e hn⟩;subst ho;exact ZEf (r2.upd hX (r2.ul _ (Zz he').1).1 hsp2 hst' hle (fun _ hne=>Zoc hne) ⟨some b,cap,rows.set e1.length (ob2,cap2),_,Zlb,k3,rfl⟩ (List.Perm.refl _) hX) hU rfl (hrun ee1 ee2) h
         ·exact h.elim
       | box _ _=>exact h.elim
       | mid _ _ _ _ _ _=>exact h.elim
       | mat _ _ _ _ _=>exact h.elim
     | box _ _=>exact h.elim
     | own _ _ _ _=>exact h.elim
    · -- another row's header
     rename_i u2 j hv2 cv2 t2 r2 _ _;obtain ⟨en,he,h⟩:=h;obtain ⟨yy,hy0,_,hy⟩:=Zda hp (fun _ e=>by cases e) rfl rfl;have hy0:a.eval x=yy:=(List.cons.inj hy0).1;have hy:=hy en he;obtain ⟨yq,hq0,_,hqy⟩:=Zda hq (fun _ e=>by cases e) rfl rfl;have hq0:a.eval y=yq:=(List.cons.inj hq0).1;obtain ⟨kk,st,L⟩:=en;obtain ⟨hm,hkk⟩:=Zz he;have hkk:kk=u:=hkk;subst hkk;have hS1:∀ z:Value,Sized P t ([z]:List Value).length sz.2:=fun z=>by
      have:sz.1=1:=b1.symm;rw [this] at hS;exact hS
     cases L with
     | mat ty0 ty2 s m hv =>
      simp only at h;split at h
      ·rename_i bu bh;have bu:=Nat.eq_of_beq_eq_true bu;have bh:=Nat.eq_of_beq_eq_true bh;subst bu bh;obtain ⟨b,cap,rows,g1,rfl,g3,g4⟩:=hy;obtain ⟨ob',cap',rows',obi,capi,j1,j2,rfl,⟨rj,j3,j4⟩,_⟩:=hqy _ he rfl;rw [g1] at j1;cases j1;obtain ⟨es,E',h1,h2,_,h3,_⟩:=hr.del he;obtain ⟨ob2,cap2,rows2,es3,q1,q2,rfl⟩:=h1;have q1:γ u2 = .mat ob2 cap2 rows2:=q1;rw [g1] at q1;cases q1;have hrl:=ZWf q2;have hs:=hr.st.perm h3;obtain ⟨σ,hσ,ee1,ee2⟩:=hs.ev2 x y;rw [hy0] at ee1;rw [hq0] at ee2;have hfit:0+i*1+([Value.slice (mkA obi) r2.length capi]:List Value).length≤(Zt rows m).length:=by
        rw [ZEd hrl];simp only [List.length_singleton];omega
       obtain ⟨w',hrun,hst⟩:=ZHb (P:=P) hσ (hS1 _) (cs:=[Value.slice (mkA obi) r2.length capi]) (z:=.slice (mkA obi) r2.length capi) (ZCb rfl) rfl (i:=0) rfl hfit rfl;have hst:=hst.bare;simp only [List.set_cons_zero,List.length_singleton,List.cons_append] at hst;have hset:(Zt rows m).take (0+i*1)++[Value.slice (mkA obi) r2.length capi]++(Zt rows m).drop (0+i*1+1)=(Zt rows m).set i (.slice (mkA obi) r2.length capi):=by
        rw [List.set_eq_take_append_cons_drop,if_pos (by rw [ZEd hrl];exact g3)];simp
       rw [hset] at hst;have hjj:(Zt rows m)[j]? = some (.slice (mkA obi) r2.length capi):=by
        rw [ZQh j2 j3,j4]
       have hle:Le U v γ l v γ (⟨u2,n,.mid ty0 ty2 s m hv (.swp i j)⟩ :: era l u2):=Le.upd hr he (Zb.le_refl _) (fun _ _=>rfl) ⟨rfl,rfl,⟨_,_,_,_,g1,g1,fun _=>⟨rfl,rfl,rfl⟩⟩,fun e=>absurd e hn⟩;subst ho;exact ZEf (hr.upd hX (hr.ul _ hm).1 h2 hst hle (fun _ _=>rfl) ⟨some b,cap,rows,es3,_,es3,g1,q2,⟨rfl,g3,_,hjj,rfl⟩,rfl⟩ (List.Perm.refl _) (hr.ul _ hm).2.2) hU rfl (hrun ee1 ee2) h
      ·exact h.elim
     | mid ty0 ty2 s m hv sm =>
      cases sm with
      | hol _=>exact h.elim
      | swp i0 j0 =>
       simp only at h;split at h
       ·rename_i bu bh;have bu:=Nat.eq_of_beq_eq_true bu;have bh:=Nat.eq_of_beq_eq_true bh;subst bu bh;obtain ⟨_,q1,_,q2,h⟩:=h;have q1:i=j0:=by
         unfold eqN at q1;split at q1
         ·assumption
         ·cases q1
        have q2:j=i0:=by
         unfold eqN at q2;split at q2
         ·assumption
         ·cases q2
        subst q1 q2;obtain ⟨b,cap,rows,g1,rfl,g3,g4⟩:=hy;obtain ⟨ob',cap',rows',obi,capi,j1,j2,rfl,⟨rj,j3,j4⟩,_⟩:=hqy _ he rfl;rw [g1] at j1;cases j1;obtain ⟨es,E',h1,h2,_,h3,_⟩:=hr.del he;obtain ⟨ob2,cap2,rows2,es3,hs0,es4,q1,q2,⟨rfl,q3,hx,q4,rfl⟩,rfl⟩:=h1;have q1:γ u2 = .mat ob2 cap2 rows2:=q1;rw [g1] at q1;cases q1;have hrl:=ZWf q2;have hs:=hr.st.perm h3;obtain ⟨σ,hσ,ee1,ee2⟩:=hs.ev2 x y;rw [hy0] at ee1;rw [hq0] at ee2;have hfit:0+i*1+([Value.slice (mkA obi) r2.length capi]:List Value).length≤((Zt rows m).set j hx).length:=by
         rw [List.length_set,ZEd hrl];simp only [List.length_singleton];omega
        obtain ⟨w',hrun,hst⟩:=ZHb (P:=P) hσ (hS1 _) (cs:=[Value.slice (mkA obi) r2.length capi]) (z:=.slice (mkA obi) r2.length capi) (ZCb rfl) rfl (i:=0) rfl hfit rfl;have hst:=hst.bare;simp only [List.set_cons_zero,List.length_singleton,List.cons_append] at hst;have hset:((Zt rows m).set j hx).take (0+i*1)++[Value.slice (mkA obi) r2.length capi]++((Zt rows m).set j hx).drop (0+i*1+1)=((Zt rows m).set j hx).set i (.slice (mkA obi) r2.length capi):=by
         rw [List.set_eq_take_append_cons_drop (l:=(Zt rows m).set j hx),if_pos (by rw [List.length_set,ZEd hrl];exact g3)];simp
        rw [hset] at hst;obtain ⟨pi,hpi⟩:∃ p,rows[i]? = some p:=⟨_,List.getElem?_eq_getElem (by omega)⟩;obtain ⟨ri,hri⟩:∃ r,m[i]? = some r:=⟨_,List.getElem?_eq_getElem g3⟩;have hhx:hx=ZJd pi ri:=by
         rw [ZQh hpi hri] at q4;exact (Option.some.inj q4).symm
        have hhj:Value.slice (mkA obi) r2.length capi=ZJd (obi,capi) rj:=by unfold ZJd;rw [j4]
        obtain ⟨w1,es5,w2,w3⟩:=ZUs q2 j2 hpi j3 hri;rw [hhx,hhj,w1] at hst;have hln:(Zic m j i).length=m.length:=by unfold Zic;simp
        have hst':St N w0 v0 [] (.own (some b) ty0 1 (Zic m j i).length cap (Zt ((rows.set j pi).set i (obi,capi)) (Zic m j i)) :: es5++E'.flatten) v a w':=by
         rw [hln];refine hst.perm ?_;simp only [List.cons_append];exact List.Perm.cons _ (List.Perm.append_right _ w2.symm)
        have hle:Le U v γ l v (ZMc γ u2 (.mat (some b) cap ((rows.set j pi).set i (obi,capi)))) (⟨u2,n,.mat ty0 ty2 s (Zic m j i) n⟩ :: era l u2):=Le.upd hr he (Zb.le_refl _) (fun _ hne=>Zoc hne) ⟨rfl,hln,⟨_,_,_,_,g1,Zlb,fun e=>absurd e hn⟩,fun e=>absurd e hn⟩;subst ho;exact ZEf (hr.upd hX (hr.ul _ hm).1 h2 hst' hle (fun _ hne=>Zoc hne) ⟨some b,cap,_,_,Zlb,w3,rfl⟩ (List.Perm.refl _) hX) hU rfl (hrun ee1 ee2) h
       ·exact h.elim
     | box _ _=>exact h.elim
     | own _ _ _ _=>exact h.elim
    ·exact h.elim
   · -- an element of a row
    rename_i u i j hv cv s r x0 off;split at h
    ·rename_i z hz;obtain ⟨yy,hy0,_,hy⟩:=Zda hp (fun _ e=>by cases e) rfl rfl;have hy0:a.eval x=yy:=(List.cons.inj hy0).1;obtain ⟨⟨kz,sz0,Lz⟩,hez,h⟩:=h;have hLz:∃ ty ty2 t m hv,Lz = .mat ty ty2 t m hv:=by
      cases Lz with
      | mat ty ty2 t m hv=>exact ⟨_,_,_,_,_,rfl⟩
      | _=>exact h.elim
     obtain ⟨_,_,_,_,_,rfl⟩:=hLz;obtain ⟨y1,l1,γ1,v1,ℓ1,hB,r1,le1,q1⟩:=Zpd hn hX FU h hr (ZSh FU hz trivial hkq);obtain ⟨en,he,hC⟩:=hB;have hp1:=ZDb le1 hk hp;obtain ⟨yy',hy0',_,hy1⟩:=Zda hp1 (fun _ e=>by cases e) rfl rfl;have hy0':a.eval x=yy':=(List.cons.inj hy0').1;have hy1:=hy1 en he;obtain ⟨kk,st,L⟩:=en;obtain ⟨hm,hkk⟩:=Zz he;have hkk:kk=u:=hkk;subst hkk
     cases L with
     | mat ty0 ty2 s' m hv' =>
      simp only at hC;split at hC
      ·rename_i b4 b5;have b4:=Nat.eq_of_beq_eq_true b4;have b5:=Nat.eq_of_beq_eq_true b5;subst b4 b5;split at hC
       ·rename_i r' hr';obtain ⟨ob,cap,rows,bi,capi,g1,g2,rfl,_,g4,g6⟩:=hy1 rfl;obtain ⟨⟨m',c1,c2⟩,cx⟩:=g6 rfl;obtain ⟨c3,c4⟩:=Zla c1
        cases c3;cases c4
        have hr':r.set j y1=r':=by
         obtain ⟨c5,c6⟩:=Zla hr';exact c6
        subst hr';obtain ⟨⟨k0,st0,L0⟩,he0,hce⟩:=le1.l _ _ hk.1 he;obtain ⟨es,E',h1,h2,_,h3,_⟩:=r1.del he;obtain ⟨ob',cap',rows',es3,f1,f2,rfl⟩:=h1;have f1:γ1 kk = .mat ob' cap' rows':=f1;rw [g1] at f1;cases f1
        cases L0 with
        | mat ty1 ty3 t1 m1 hv1 =>
         obtain ⟨d1,d2,⟨obx,capx,rowsx,rowsy,d3,d4,d5⟩,d6⟩:=hce;obtain ⟨d7,d8⟩:=d6 hk.2.2
         cases d8
         obtain ⟨d9,d10,_⟩:=d5 hk.2.1;rw [g1] at d4;cases d4;subst d10;obtain ⟨c,hc1,hc2⟩:=ZAo hr he0 d3 g2 c2 cx;obtain ⟨c',hc1',hc2'⟩:=ZAo r1 he g1 g2 c2 cx;have e1:=Z0i hc2 hc2' ((Rep.len _ hc1).trans (Rep.len _ hc1').symm);obtain ⟨z1',_,zfit⟩:=Z9n hz hc1 hcs hkq;have q2:=q1 _ z1';rw [hlen] at q2 zfit;obtain ⟨csx,ea,eb,k1,k2,k3⟩:=Zhq f2 g2 c2;subst k1;have hs:St N w0 v0 [] (.own (some bi) ty2 s.n r.length capi csx :: .own ob ty0 1 m.length cap (Zt rows m) :: (ea++eb++E'.flatten)) v1 a w:=by
          refine r1.st.perm (h3.trans ?_);simp only [List.cons_append,List.append_assoc];exact (List.Perm.cons _ List.perm_middle).trans (List.Perm.swap _ _ _)
         have hrel:=Zga k2 cx;rw [ZQ] at hrel;have hl3:=Rep.len _ hrel;have hl1:=Rep.len _ hc1;rw [ZQ] at hl3 hl1;have hcell:(csx.drop (j*s.n)).take s.n=c:=by
          have hw:=ZYc hs (j:=0) rfl rfl g4 0 ((csx.drop (j*s.n)).take s.n) (by rw [hl3,List.drop_zero,List.take_take,Nat.min_self]) (by omega);exact Z0i (by simpa using hw) hc2 (hl3.trans hl1.symm)
         obtain ⟨σ,hσ,e1,e2⟩:=hs.ev2 x y;rw [hy0'] at e1;rw [hqe] at e2;have hset:=ZVp k2 g4 hcell q2 (ZQ s).symm (by omega);have hfit2:0+j*s.n+off+sz.1≤csx.length:=Zmr hs (j:=0) rfl g4 (by omega);obtain ⟨w',hrun,hst⟩:=ZHb (P:=P) hσ hS hcells hlen (i:=0) rfl hfit2 hpl;rw [hlen] at hst;have hst:=hst.bare;obtain ⟨k4,k5⟩:=k3 (r.set j y1) _ (List.length_set ..) hset;have hst':St N w0 v0 [] (.own ob ty0 1 (m.set i (r.set j y1)).length cap (Zt rows (m.set i (r.set j y1))) :: (ea ++ .own (some bi) ty2 s.n r.length capi (csx.take (0+j*s.n+off)++cs++csx.drop (0+j*s.n+off+sz.1)) :: eb)++E'.flatten) v1 a w':=by
          rw [List.length_set,k4];refine hst.perm ?_;simp only [List.set_cons_zero,List.cons_append,List.append_assoc];exact (List.Perm.swap _ _ _).trans (List.Perm.cons _ List.perm_middle.symm)
         have hle:Le U v1 γ1 l1 v1 γ1 (⟨kk,n,.mat ty0 ty2 s (m.set i (r.set j y1)) hv'⟩ :: era l1 kk):=Le.upd r1 he (Zb.le_refl _) (fun _ _=>rfl) ⟨rfl,by simp,⟨_,_,_,_,g1,g1,fun _=>⟨rfl,rfl,ZIt c2 (List.length_set ..)⟩⟩,fun e=>absurd e hn⟩;subst ho;exact ZEf (r1.upd hX (r1.ul _ hm).1 h2 hst' hle (fun _ _=>rfl) ⟨ob,cap,rows,_,g1,k5,rfl⟩ (List.Perm.refl _) (r1.ul _ hm).2.2) hU rfl (hrun e1 e2) hC
        | box _ _=>exact hce.elim
        | mid _ _ _ _ _ _=>rw [he0] at hez;cases hez
        | own _ _ _ _=>exact hce.elim
       ·exact hC.elim
      ·exact hC.elim
     | box _ _=>exact hC.elim
     | mid _ _ _ _ _ _=>exact hC.elim
     | own _ _ _ _=>exact hC.elim
    ·exact h.elim
   ·exact h.elim
  ·exact h.elim
end
end Go.Eng
namespace Go.Eng
open Go.RowKit
def Zwd:Rep Value where
 n:=1
 agg:=false
 rel _ cs x:=cs=[x]∧plain x=true
 len h:=by rw [h.1];rfl
 mono _ h:=h
 flat h:=by obtain ⟨h1,h2⟩:=h;rw [h1];simp [h2]
theorem Zqm {v:Zb}:∀ {l:List Value},l.all plain=true→Zwd.rels v l l
 | [],_=>rfl
 | x :: l,h=>by
  simp only [List.all_cons,Bool.and_eq_true] at h
  exact ⟨[x],l,rfl,⟨rfl,h.1⟩,Zqm h.2⟩
theorem ZXl {v:Zb}:∀ {l cs:List Value},Zwd.rels v cs l→cs=l
 | [],cs,h=>h
 | x :: l,cs,h=>by
  obtain ⟨c1,c2,h1,h2,h3⟩:=h
  rw [h1,h2.1,ZXl h3];rfl
theorem Z4l {α:Type}:∀ {rows:List (Option Nat×Nat)} {m:List (List α)},(Zt rows m).all plain=true
 | [],_=>rfl
 | _ :: _,[]=>rfl
 | p :: ps,r :: rs=>by
  have:=Z4l (rows:=ps) (m:=rs)
  simp only [Zt,List.all_cons,this,Bool.and_true]
  obtain ⟨ob,cap⟩:=p
  cases ob <;> rfl
theorem Z7o {α:Type}:∀ {rows rows2:List (Option Nat×Nat)} {m m2:List (List α)},rows.length=m.length→Zt (rows++rows2) (m++m2)=Zt rows m++Zt rows2 m2
 | [],_,[],_,_=>rfl
 | p :: ps,rows2,r :: rs,m2,h=>by
  have:=Z7o (rows:=ps) (rows2:=rows2) (m:=rs) (m2:=m2) (by simpa using h)
  simp [Zt,this]
 | [],_,_ :: _,_,h=>by cases h
 | _ :: _,_,[],_,h=>by cases h
theorem Zwp {v:Zb} {ty:TypeId} {t:T}:∀ {rows rows2:List (Option Nat×Nat)} {m m2:List (List t.den)} {es es2:List Loc},Zwa v ty t rows m es→Zwa v ty t rows2 m2 es2→Zwa v ty t (rows++rows2) (m++m2) (es++es2)
 | [],_,[],_,es,_,h,k=>by rw [show es=[] from h];exact k
 | p :: ps,rows2,r :: rs,m2,es,es2,⟨cs,es',h1,h2,h3⟩,k=>by
  subst h2
  exact ⟨cs,es'++es2,h1,rfl,Zwp h3 k⟩
 | [],_,_ :: _,_,_,_,h,_=>h.elim
 | _ :: _,_,[],_,_,_,h,_=>h.elim
theorem ZZv {v:Zb} {ty:TypeId} {t:T} {rows:List (Option Nat×Nat)} {m:List (List t.den)} {es:List Loc} {i:Nat} {p:Option Nat×Nat} {r:List t.den} (h:Zwa v ty t rows m es) (hp:rows[i]? = some p) (hr:m[i]? = some r) :
  ∃ cs e1 e2,es=e1 ++ .own p.1 ty t.n r.length p.2 cs :: e2∧e1.length=i∧t.rep.rels v cs r:=by
 obtain ⟨k1,k2,k3⟩:=Zuf.1 h;obtain ⟨cs,q1,q2⟩:=k3 i p r hp hr;have hlt:=(List.getElem?_eq_some_iff.1 q2).1;refine ⟨cs,es.take i,es.drop (i+1),?_,by simp;omega,q1⟩;rw [← (List.getElem?_eq_some_iff.1 q2).2,← List.drop_eq_getElem_cons hlt,List.take_append_drop]
section
variable {P:Program} {N:Nat} {G:V→Value→Prop} {w0:Base} {v0:Zb} {U X:Nat→Prop} {f:Fr} {l:Lo} {a:Act} {w:World} {γ:Nat→Gh} {v:Zb} {ℓ:List Loc} {n:Nat}
variable {ty:TypeId} {pos:String} {aft:Array Edge} {g:Option (Nat×Bool)}
theorem RelX.go (h:RelX N G w0 v0 U X f l a w γ v ℓ) {v':Zb} {w':World} (hle:v.le v') (hst:St N w0 v0 [] ℓ v' a w'):RelX N G w0 v0 U X f l a w' γ v' ℓ:=by
 obtain ⟨E,hE,hp⟩:=h.lr;have hl:Le U v γ l v' γ l:=Le.refl hE hle;exact ⟨hst,fun t e he=>ZDb hl (h.uf t e he).1 (h.fr t e he),⟨E,hE.imp fun e he es hr=>Zth hl (h.ul e he).2.2 rfl hr,hp⟩,h.nd,h.uf,h.ul,fun x y hg=>⟨ZDb hl (h.gh x y hg).2 (h.gh x y hg).1,(h.gh x y hg).2⟩⟩
theorem ZIj (hr:RelX N G w0 v0 U X f l a w γ v ℓ) (hU:∀ k,U k→X k) (hX:X n) (hn:¬ U n) {e e2:TypeId} {s:T} {m:List (List s.den)} {rows:List (Option Nat×Nat)} {o:Oper} {ob:Option Nat} {cap:Nat} {w':World} {es ℓ':List Loc} {E:List (List Loc)} {Post:Unit→Fr→Lo→Prop} (hd:∀ k,o.dst=some k→k<N) (hE:F2 (ZJa v γ l) l E) (hℓ:ℓ'=E.flatten)
  (hR:Zwa v e2 s rows m es) (hst:St N w0 v0 [] (.own ob e 1 m.length cap (Zt rows m) :: es++ℓ') v a w') (hrun:(execOp a.eval o).run P w = .ok (.value (.slice (mkA ob) m.length cap)) w') (h:Zq n (Ev.new n (.mat e e2 s m n) (ret o (.own n))) f l Post):ZHa P N G w0 v0 X o a w Post:=by
 obtain ⟨hnew,h⟩:=h;have hr':=hr.new (γ':=ZMc γ n (.mat ob cap rows)) (L':=.mat e e2 s m n) hX hX hn hnew hE hst (Zb.le_refl _) (fun _ h=>Zoc h) ⟨ob,cap,rows,es,Zlb,hR,rfl⟩ (by rw [hℓ]) hX;refine fin (x:=.own n) (hr'.mono hU fun _ h=>h) hrun hd hX ⟨[_],⟨_,rfl,by cases ob <;> rfl,fun e' he'=>?_⟩,rfl⟩ hX h;rw [ZT,if_pos rfl] at he';cases he';exact ⟨_,_,_,Zlb,rfl⟩
theorem RelX.take (hr:RelX N G w0 v0 U X f l a w γ v ℓ) (hX:X n) (hn:¬ U n) {u st hv i:Nat} {ty0 ty2:TypeId} {t:T} {m:List (List t.den)} {r:List t.den} (he:lkE l u=some ⟨u,st,.mat ty0 ty2 t m hv⟩) {ob:Option Nat} {cap:Nat} {rows:List (Option Nat×Nat)} {p:Option Nat×Nat} (hγ:γ u = .mat ob cap rows) (hp:rows[i]? = some p) (hm:m[i]? = some r) :
  ∃ cs ℓ' E',t.rep.rels v cs r∧RelX N G w0 v0 U X f (⟨u,n,.mid ty0 ty2 t m hv (.hol i)⟩ :: era l u) a w γ v ℓ'∧F2 (ZJa v γ (⟨u,n,.mid ty0 ty2 t m hv (.hol i)⟩ :: era l u)) (⟨u,n,.mid ty0 ty2 t m hv (.hol i)⟩ :: era l u) E'∧ℓ'=E'.flatten∧St N w0 v0 [] (.own p.1 ty2 t.n r.length p.2 cs :: ℓ') v a w:=by
 obtain ⟨es,E',h1,h2,_,h3,_⟩:=hr.del he;obtain ⟨ob',cap',rows',es3,f1,f2,rfl⟩:=h1;have f1:γ u = .mat ob' cap' rows':=f1;rw [hγ] at f1;cases f1;obtain ⟨cs,e1,e2,k1,k2,k3⟩:=ZZv f2 hp hm;subst k1;have hs:St N w0 v0 [] (.own p.1 ty2 t.n r.length p.2 cs :: (.own ob ty0 1 m.length cap (Zt rows m) :: (e1++e2)++E'.flatten)) v a w:=by
  refine hr.st.perm (h3.trans ?_);simp only [List.cons_append,List.append_assoc];exact (List.Perm.cons _ List.perm_middle).trans (List.Perm.swap _ _ _)
 have hle:Le U v γ l v γ (⟨u,n,.mid ty0 ty2 t m hv (.hol i)⟩ :: era l u):=Le.upd hr he (Zb.le_refl _) (fun _ _=>rfl) ⟨rfl,rfl,⟨_,_,_,_,hγ,hγ,fun _=>⟨rfl,rfl,rfl⟩⟩,fun e=>absurd e hn⟩;have hrl:ZJa v γ (⟨u,n,.mid ty0 ty2 t m hv (.hol i)⟩ :: era l u) ⟨u,n,.mid ty0 ty2 t m hv (.hol i)⟩ (.own ob ty0 1 m.length cap (Zt rows m) :: (e1++e2)):=⟨ob,cap,rows,_,_,_,hγ,f2,⟨rfl,e1,_,e2,rfl,k2,rfl⟩,rfl⟩;have r2:=hr.upd hX (hr.ul _ (Zz he).1).1 h2 (hs.drop (List.sublist_cons_self _ _)) hle (fun _ _=>rfl) hrl (List.Perm.refl _) (hr.ul _ (Zz he).1).2.2;obtain ⟨E2,hE2,hp2⟩:=r2.lr;exact ⟨cs,E2.flatten,E2,k3,⟨r2.st.perm hp2,r2.fr,⟨E2,hE2,List.Perm.refl _⟩,r2.nd,r2.uf,r2.ul,r2.gh⟩,hE2,rfl,hs.perm (List.Perm.cons _ hp2)⟩
end
end Go.Eng
namespace Go.Eng
open Go.RowKit
theorem ZKe {cs r:List Value} (h:zSl cs=some r):cs = .slice none 0 0 :: r:=by
 unfold zSl at h;split at h
 ·cases h;rfl
 ·cases h
theorem Zfq {v:Zb}:∀ {t:T} {cs r:List Value} {x:t.den},zOK t cs=some r→ZRf t=some x→∃ c1,cs=c1++r∧t.rep.rel v c1 x:=by
 intro t
 induction t with
 | int k =>
  intro cs r x h hx;unfold zOK at h
  cases hx
  split at h <;> try (cases h;done)
  all_goals (rename_i heq;cases heq)
  rename_i k' n rest;split at h
  ·rename_i hk
   cases h
   have:=Zog hk;subst this;exact ⟨[_],rfl,rfl,by cases k <;> decide⟩
  ·cases h
 | bool =>
  intro cs r x h hx;unfold zOK at h
  cases hx
  split at h <;> try (cases h;done)
  all_goals (rename_i heq;cases heq)
  cases h
  exact ⟨[_],rfl,rfl⟩
 | flt k =>
  intro cs r x h hx;unfold zOK at h
  cases hx
  split at h <;> try (cases h;done)
  all_goals (rename_i heq;cases heq)
  split at h
  ·rename_i hk
   cases h
   have:=Z8q hk;subst this;exact ⟨[_],rfl,rfl,by decide⟩
  ·cases h
 | str =>
  intro cs r x h hx;unfold zOK at h
  cases hx
  split at h <;> try (cases h;done)
  all_goals (rename_i heq;cases heq)
  rename_i s rest;split at h
  ·rename_i hs
   cases h
   refine ⟨[_],rfl,?_,by show ([]:List UInt8).length≤maxLen;exact Nat.zero_le _⟩;have:s=Zw []:=by
    cases s with
    | mk d=>show _=ByteArray.mk _;congr 1;exact Array.ext' hs
   rw [this]
  ·cases h
 | one a ih =>
  intro cs r x h hx;simp only [zOK] at h;obtain ⟨c1,h1,h2⟩:=ih h hx;exact ⟨c1,h1,h2⟩
 | pair a b ia ib =>
  intro cs r x h hx;simp only [zOK] at h;simp only [ZRf] at hx;split at hx
  ·rename_i x1 x2 hx1 hx2
   cases hx
   split at h
   ·rename_i r1 hr1;obtain ⟨c1,h1,h2⟩:=ia hr1 hx1;obtain ⟨c2,h3,h4⟩:=ib h hx2;exact ⟨c1++c2,by rw [h1,h3,List.append_assoc],c1,c2,rfl,h2,h4⟩
   ·cases h
  ·cases hx
 | slice a _ =>
  intro cs r x h hx
  cases hx
  simp only [zOK] at h;exact ⟨[_],ZKe h,ZAh _ _⟩
 | leaf i =>
  intro cs r x h hx;unfold zOK at h;split at h <;> try (cases h;done)
  all_goals (rename_i heq;cases heq)
  ·cases hx;exact ⟨[_],ZKe h,Z2g _⟩
  ·cases hx;exact ⟨[_],ZKe h,Zrl _⟩
  ·cases hx;rw [ZKe h];exact ⟨[_,_],rfl,ZNq _⟩
  ·cases hx
   split at h
   ·rename_i r1 hr1;rw [ZKe hr1,ZKe h];exact ⟨[_,_,_],rfl,Zuv _⟩
   ·cases h
section
variable {P:Program} {N:Nat} {G:V→Value→Prop} {w0:Base} {v0:Zb} {U X:Nat→Prop} {f:Fr} {l:Lo} {a:Act} {w:World} {γ:Nat→Gh} {v:Zb} {ℓ:List Loc} {n:Nat}
variable {ty:TypeId} {pos:String} {aft:Array Edge} {g:Option (Nat×Bool)}
theorem ZOh {t:T} {cs r:List Value} {z:V} (h:ZHf t cs=some (z,r)):∃ c1,cs=c1++r∧RR v γ l false z c1∧z.ok U∧c1.all plain=true:=by
 unfold ZHf at h;split at h
 ·rename_i x r' hx hr
  cases h
  obtain ⟨c1,h1,h2⟩:=Zfq (v:=v) hr hx;exact ⟨c1,h1,h2,trivial,Rep.flat _ h2⟩
 ·cases h
theorem Zro {F:TypeId→List Value→Option (V×List Value)} (hF:∀ t cs z r,F t cs=some (z,r)→∃ c1,cs=c1++r∧RR v γ l false z c1∧z.ok U∧c1.all plain=true) :
  ∀ {fs:List Field} {cs r:List Value} {z:V},Zfk F fs cs=some (z,r)→∃ c1,cs=c1++r∧RR v γ l false z c1∧z.ok U∧c1.all plain=true
 | [],cs,r,z,h=>by cases h;exact ⟨[],rfl,rfl,trivial,rfl⟩
 | x :: fs,cs,r,z,h=>by
  simp only [Zfk] at h
  split at h
  ·rename_i y cs1 hy
   split at h
   ·rename_i c cs2 hc
    cases h
    obtain ⟨c1,h1,h2,h3,h4⟩:=hF _ _ _ _ hy
    obtain ⟨c2,k1,k2,k3,k4⟩:=Zro hF hc
    exact ⟨c1++c2,by rw [h1,k1,List.append_assoc],⟨c1,c2,rfl,h2,k2⟩,⟨h3,k3⟩,by rw [List.all_append,h4,k4];rfl⟩
   ·cases h
  ·cases h
theorem Zvo {F:List Value→Option (V×List Value)} (hF:∀ cs z r,F cs=some (z,r)→∃ c1,cs=c1++r∧RR v γ l false z c1∧z.ok U∧c1.all plain=true):∀ {k:Nat} {cs r:List Value} {c:V},zRep F k cs=some (c,r)→∃ c1,cs=c1++r∧RR v γ l false c c1∧c.ok U∧c1.all plain=true
 | 0,cs,r,c,h=>by cases h;exact ⟨[],rfl,rfl,trivial,rfl⟩
 | k+1,cs,r,c,h=>by
  simp only [zRep] at h
  split at h
  ·rename_i x cs1 hx
   split at h
   ·rename_i c' cs2 hc
    cases h
    obtain ⟨c1,rfl,h2,h3,h4⟩:=hF _ _ _ hx
    obtain ⟨c2,rfl,k2,k3,k4⟩:=Zvo hF hc
    exact ⟨c1++c2,by simp,⟨c1,c2,rfl,h2,k2⟩,⟨h3,k3⟩,by rw [List.all_append,h4,k4];rfl⟩
   ·cases h
  ·cases h
theorem Zrm {C:Cf}:∀ (g:Nat) {t:TypeId} {cs r:List Value} {z:V},ZEi C g t cs=some (z,r)→∃ c1,cs=c1++r∧RR v γ l false z c1∧z.ok U∧c1.all plain=true
 | 0,_,_,_,_,h=>by cases h
 | g+1,t,cs,r,z,h=>by
  simp only [ZEi] at h
  split at h
  ·split at h
   ·cases h
    exact ⟨[_,_,_],rfl,⟨[_],[_,_],rfl,rfl,[_],[_],rfl,Zrl _,[_],[],rfl,Zrl _,rfl⟩,⟨trivial,trivial,trivial,trivial⟩,rfl⟩
   ·cases h
  ·exact ZOh h
  ·split at h
   ·exact ZOh h
   ·exact ZOh h
   ·exact ZOh h
   ·exact ZOh h
   ·split at h
    ·rename_i r' hr
     cases h
     exact ⟨[_],ZKe hr,rfl,trivial,rfl⟩
    ·cases h
   ·split at h
    ·rename_i c r' hc
     cases h
     obtain ⟨c1,h1,h2,h3,h4⟩:=Zro (fun t cs z r h=>Zrm g h) hc
     exact ⟨c1,h1,h2,h3,h4⟩
    ·cases h
   ·split at h
    ·rename_i c r' hc
     cases h
     obtain ⟨c1,h1,h2,h3,h4⟩:=Zvo (fun cs z r h=>Zrm g h) hc
     exact ⟨c1,h1,h2,h3,h4⟩
    ·cases h
   ·cases h
theorem Zbn {C:Cf} {t:TypeId} {z:V} (h:Zlj C t=some z):∃ y cs,(∀ w,(zeroValue t).run C.P w = .ok y w)∧y.cells=cs.toArray∧RR v γ l false z cs∧z.ok U∧cs.all plain=true:=by
 unfold Zlj at h;split at h
 ·rename_i i hi;split at h
  ·rename_i y hy;split at h
   ·rename_i x hx
    cases h
    obtain ⟨c1,h1,h2,h3,h4⟩:=Zrm (v:=v) (γ:=γ) (l:=l) (U:=U) FU hx;rw [List.append_nil] at h1;refine ⟨y,c1,fun w=>by simp [zeroValue,typeInfo,hi,hy],by rw [← h1],h2,h3,h4⟩
   ·cases h
  ·cases h
 ·cases h
theorem Znp (hr:RelX N G w0 v0 U X f l a w γ v ℓ) (hU:∀ k,U k→X k) (hX:X n) (hn:¬ U n) {t:TypeId} {o:Oper} {c:V} {cs:List Value} {Post:Unit→Fr→Lo→Prop} (hd:∀ k,o.dst=some k→k<N) (hc:RR v γ l false c cs) (hk:c.ok U) (hp:cs.all plain=true)
  (hrun:(execOp a.eval o).run P w = .ok (.value (.pointer (some ⟨w.heap.size,0,none⟩))) (w.alloc (.cells cs.toArray t))) (h:Zq n (Ev.new n (.box t c) (ret o (.ptr n 0))) f l Post):ZHa P N G w0 v0 X o a w Post:=by
 obtain ⟨hnew,h⟩:=h;obtain ⟨E,hE,hpm⟩:=hr.lr;have hst:=(hr.st.perm hpm).newLoc (.cells cs.toArray t) (e:=.box w.heap.size t cs) rfl (heap_alloc_new w _);have hle:Le U v γ l v (ZMc γ n (.box w.heap.size)) (⟨n,n,.box t c⟩ :: l):=⟨Zb.le_refl _,fun k e' hk he=>by
  have hne:n≠k:=fun e=>hn (e ▸ hk);rw [ZT,if_neg hne] at he;refine ⟨e',he,?_⟩;obtain ⟨hm,hk'⟩:=Zz he;obtain ⟨es,hrr⟩:=ZGe hE hm;have:=ZDi (U:=U) (γ':=ZMc γ n (.box w.heap.size)) hrr (Zoc (by rw [hk'];exact fun e=>hne e.symm));rw [hk'] at this;exact this⟩
 have hr':=hr.new (γ':=ZMc γ n (.box w.heap.size)) (L':=.box t c) hX hX hn hnew hE hst (Zb.le_refl _) (fun _ h=>Zoc h) ⟨_,cs,Zlb,Zrb hle hk hc,hp,rfl⟩ (List.Perm.refl _) hk;refine fin (x:=.ptr n 0) (hr'.mono hU fun _ h=>h) hrun hd hX ⟨[_],⟨_,rfl,ZNe,fun e' he'=>?_⟩,rfl⟩ hX h;rw [ZT,if_pos rfl] at he';cases he';exact ⟨_,Zlb,rfl⟩
theorem Zch (hr:RelX N G w0 v0 U X f l a w γ v ℓ) (hU:∀ k,U k→X k) (hX:X n) (hn:¬ U n) {e:TypeId} {s:T} {xs:List s.den} {o:Oper} {ob:Option Nat} {cap:Nat} {cs:List Value} {w':World} {ℓ':List Loc} {E:List (List Loc)} {Post:Unit→Fr→Lo→Prop} (hd:∀ k,o.dst=some k→k<N) (hE:F2 (ZJa v γ l) l E) (hℓ:ℓ'=E.flatten)
  (hst:St N w0 v0 [] (.own ob e s.n xs.length cap cs :: ℓ') v a w') (hc:s.rep.rels v cs xs) (hrun:(execOp a.eval o).run P w = .ok (.value (.slice (mkA ob) xs.length cap)) w') (h:Zq n (Ev.new n (.own e s xs false) (ret o (.own n))) f l Post):ZHa P N G w0 v0 X o a w Post:=by
 obtain ⟨hnew,h⟩:=h;have hr':=hr.new (γ':=ZMc γ n (.own ob cap)) (L':=.own e s xs false) hX hX hn hnew hE hst (Zb.le_refl _) (fun _ h=>Zoc h) ⟨ob,cap,cs,Zlb,hc,rfl⟩ (by rw [hℓ];exact List.Perm.refl _) trivial;refine fin (x:=.own n) (hr'.mono hU fun _ h=>h) hrun hd hX ⟨[_],⟨_,rfl,by cases ob <;> rfl,fun e' he'=>?_⟩,rfl⟩ hX h;rw [ZT,if_pos rfl] at he';cases he';exact ⟨_,_,Zlb,rfl⟩
theorem ZKl {t:TypeId} {q:EI} (h:ZXf P t=some q):Elem P t q.e q.sz q.by_ q.z∧0<q.by_:=by
 unfold ZXf at h;split at h
 ·rename_i e he;split at h
  ·rename_i i hi;split at h
   ·rename_i z hz;split at h
    ·rename_i h1 h2 h3
     cases h
     have h1:=Nat.eq_of_beq_eq_true h1;have h2:1≤i.size:=Nat.le_of_ble_eq_true h2;have h3:1≤i.bytes:=Nat.le_of_ble_eq_true h3;exact ⟨⟨he,by simp [hi,hz],by simpa using h1,h2⟩,h3⟩
    ·cases h
   ·cases h
  ·cases h
 ·cases h
theorem ZRo {ρ:Type} {g:Nat} {s:T} {c:V} {k:List s.den→Ev ρ} {Post:ρ→Fr→Lo→Prop} (h:Zq n (conv g (.slice s) (.agg c) k) f l Post):False:=by
 cases g with
 | zero=>exact h
 | succ g =>
  cases c with
  | cons x1 c =>
   cases c with
   | cons x2 r=>simp only [conv] at h;exact h
   | nl=>simp only [conv] at h;exact h
   | _=>simp only [conv] at h;exact h
  | _=>simp only [conv] at h;exact h
theorem ZAm {ρ:Type} {g:Nat} {s:T} {x:V} {k:List s.den→Ev ρ} {Post:ρ→Fr→Lo→Prop} (h:Zq n (conv g (.slice s) x k) f l Post):x.isAgg=false∧∀ c,x ≠ .tup c:=by
 cases x with
 | agg c=>exact (ZRo h).elim
 | tup c =>
  cases g with
  | zero=>exact h.elim
  | succ g=>simp only [conv] at h;exact h.elim
 | data t x =>
  refine ⟨?_,fun c e=>by cases e⟩
  cases g with
  | zero=>exact h.elim
  | succ g =>
   simp only [conv] at h;split at h
   ·rename_i y hy;obtain ⟨e,_⟩:=Zla hy;subst e;rfl
   ·split at h
    ·rfl
    ·rfl
    ·rfl
    ·rfl
    ·rfl
    ·split at h
     ·exact (ZRo h).elim
     ·exact h.elim
 | _=>exact ⟨rfl,fun c e=>by cases e⟩
theorem Zdh {x:V} {y:Value} (h:x.isAgg=false):x.val [y]=y:=by unfold V.val;rw [h];rfl
theorem ZUp {u2:Nat} {ty' ty2':TypeId} {s':T} {m':List (List s'.den)} {hv:Nat} {y:Operand} {st:Nat} (hq:RV v γ l (.own u2) (a.eval y)) (he:lkE l u2=some ⟨u2,st,.mat ty' ty2' s' m' hv⟩) {ob:Option Nat} {cap:Nat} {rows:List (Option Nat×Nat)} (q1:γ u2 = .mat ob cap rows):a.eval y = .slice (mkA ob) m'.length cap:=by
 obtain ⟨yq,hyq0,_,hyq⟩:=Zda hq (fun _ e=>by cases e) rfl rfl;obtain ⟨oq,cq,rq,gq1,gq2⟩:=hyq _ he;rw [q1] at gq1;cases gq1;exact ((List.cons.inj hyq0).1).trans gq2
theorem ZNr (hr:RelX N G w0 v0 U X f l a w γ v ℓ) (hU:∀ k,U k→X k) (hX:X n) (hn:¬ U n) {d:Option Nat} {t:TypeId} {x y:Operand} {o:Oper} {q:V} {pu:Option Nat} {ei:EI} {Post:Unit→Fr→Lo→Prop} (hE:Elem P t ei.e ei.sz ei.by_ ei.z) (hby:0<ei.by_) (ho:o=⟨d,.call ⟨.builtin .append,#[x,y],#[t,t]⟩,ty,pos,aft,g⟩) (hd:∀ k,o.dst=some k→k<N)
  (hp0:pu=none→a.eval x = .slice none 0 0) (hp1:∀ u,pu=some u→RV v γ l (.own u) (a.eval x)) (hq:RV v γ l q (a.eval y)) (h:Zq n (appM o n ei pu q) f l Post):ZHa P N G w0 v0 X o a w Post:=by
 unfold appM at h;split at h
 ·rename_i u2;obtain ⟨⟨k2,st2,L2⟩,he2,h⟩:=h;have hkk2:k2=u2:=(Zz he2).2;subst hkk2
  cases L2 with
  | mat ty' ty2' s' m' hv' =>
   simp only at h;obtain ⟨es,E',h1,h2,h2',h3,r2⟩:=hr.del he2;obtain ⟨ob2,cap2,rows2,es3,q1,q2,rfl⟩:=h1;have q1:γ k2 = .mat ob2 cap2 rows2:=q1;have hy0:=ZUp hq he2 q1;have hl2:=ZEd (ZWf q2);have hs:=hr.st.perm h3
   cases pu with
   | none =>
    simp only at h;split at h
    ·rename_i b1 b2;have b1:=Nat.eq_of_beq_eq_true b1;have b2:=Nat.eq_of_beq_eq_true b2;obtain ⟨_,hroom,h⟩:=h;obtain ⟨v',hv,hs1,hrel⟩:=hs.pubSlice (i:=0) (A:=Zwd) (l:=Zt rows2 m') rfl rfl hl2.symm (Zqm Z4l) rfl;have hs1:St N w0 v0 [] (es3++E'.flatten) v' a w:=hs1;obtain ⟨σ,hσ,e1,e2⟩:=(hs1.nilLoc ei.e 1).ev2 x y;have hE':Elem P t ei.e Zwd.n ei.by_ ei.z:=by rw [show Zwd.n=ei.sz from b2.symm];exact hE
     obtain ⟨b',cap',cs2,w',hrun,hst',hrel2⟩:=ZOf (ty:=ty) (A:=Zwd) hE' hσ (i:=0) rfl hrel (n':=([]++m').length) (by simp) (Zce hroom) hby;have hcs:=ZXl hrel2;subst hcs;rw [hp0 rfl] at e1;rw [hy0] at e2;have r3:=r2.go hv (hs1.drop (List.sublist_append_right _ _));obtain ⟨E3,hE3,hp3⟩:=r3.lr;have hst':=hst'.bare;have hst3:St N w0 v0 [] (.own b' ty' 1 ([]++m').length cap' (Zt rows2 ([]++m')) :: es3++E3.flatten) v' a w':=by
      rw [← b1];exact hst'.perm (by simp only [List.set_cons_zero,List.cons_append];exact List.Perm.cons _ (List.Perm.append_left _ hp3))
     subst ho;exact ZIj r3 hU hX hn hd hE3 rfl (Zbe hv q2) hst3 (Zqe hσ e1 e2 hrun) h
    ·exact h.elim
   | some u =>
    simp only at h;split at h
    ·exact h.elim
    ·rename_i hne;have hne:u≠k2:=fun e=>by subst e;simp at hne
     obtain ⟨⟨k1,st1,L1⟩,he1,h⟩:=h;have hkk1:k1=u:=(Zz he1).2;subst hkk1
     cases L1 with
     | mat ty1 ty2 s m hv =>
      simp only at h;split at h
      ·rename_i m2 hm2 b1 b2 b3 b4;have b1:=Nat.eq_of_beq_eq_true b1;have b2:=Nat.eq_of_beq_eq_true b2;have b3:=Nat.eq_of_beq_eq_true b3;have b4:=Nat.eq_of_beq_eq_true b4;obtain ⟨c3,c4⟩:=Zla hm2
       cases c3;cases c4
       subst b1 b2;obtain ⟨_,hroom,h⟩:=h;have he1':lkE (era l k2) k1=some ⟨k1,st1,.mat ty1 ty2 _ m hv⟩:=by
        rw [ZYb hr.nd,if_neg (fun e=>hne e.symm)];exact he1
       obtain ⟨es1,E1,g1,g2,g2',g3,r3⟩:=r2.del he1';obtain ⟨ob1,cap1,rows1,es4,p1,p2,rfl⟩:=g1;have p1:γ k1 = .mat ob1 cap1 rows1:=p1;have hx0:=ZUp (hp1 k1 rfl) he1 p1;have hl1:=ZWf p2;have hs:St N w0 v0 [] (.own ob2 ty1 1 m'.length cap2 (Zt rows2 m') :: (.own ob1 ty1 1 m.length cap1 (Zt rows1 m) :: (es4++es3++E1.flatten))) v a w:=by
        refine hs.perm ?_;simp only [List.cons_append];refine List.Perm.cons _ ((List.Perm.append_left _ g3).trans ?_);simp only [List.cons_append];refine List.perm_middle.trans (List.Perm.cons _ ?_);rw [← List.append_assoc];exact List.Perm.append_right _ List.perm_append_comm
       obtain ⟨v',hv,hs1,hrel⟩:=hs.pubSlice (i:=0) (A:=Zwd) (l:=Zt rows2 m') rfl rfl hl2.symm (Zqm Z4l) rfl;have hs1:St N w0 v0 [] (.own ob1 ty1 1 m.length cap1 (Zt rows1 m) :: (es4++es3++E1.flatten)) v' a w:=hs1;obtain ⟨σ,hσ,e1,e2⟩:=hs1.ev2 x y;have hE':Elem P t ty1 Zwd.n ei.by_ ei.z:=by rw [show Zwd.n=ei.sz from b4.symm,← b3];exact hE
       obtain ⟨b',cap',cs2,w',hrun,hst',hrel2⟩:=ZOf (ty:=ty) (A:=Zwd) hE' hσ (i:=0) rfl hrel (n':=(m++m').length) (by simp) (Zce hroom) hby;have hcs:=ZXl hrel2;subst hcs;rw [hx0] at e1;rw [hy0] at e2;have r4:=r3.go hv (hs1.drop ((List.sublist_append_right _ _).trans (List.sublist_cons_self _ _)));obtain ⟨E3,hE3,hp3⟩:=r4.lr;have hst':=hst'.bare;have hst3:St N w0 v0 [] (.own b' ty1 1 (m++m').length cap' (Zt (rows1++rows2) (m++m')) :: (es4++es3)++E3.flatten) v' a w':=by
        rw [Z7o hl1];exact hst'.perm (by simp only [List.set_cons_zero,List.cons_append];exact List.Perm.cons _ (List.Perm.append_left _ hp3))
       subst ho;exact ZIj r4 hU hX hn hd hE3 rfl (Zwp (Zbe hv p2) (Zbe hv q2)) hst3 (Zqe hσ e1 e2 hrun) h
      ·exact h.elim
     | box _ _=>exact h.elim
     | own _ _ _ _=>exact h.elim
     | mid _ _ _ _ _ _=>exact h.elim
  | box _ _=>exact h.elim
  | own _ _ _ _=>exact h.elim
  | mid _ _ _ _ _ _=>exact h.elim
 ·exact h.elim
theorem ZHu (hr:RelX N G w0 v0 U X f l a w γ v ℓ) (hU:∀ k,U k→X k) (hX:X n) (hn:¬ U n) {d:Option Nat} {t:TypeId} {x:Operand} {o:Oper} {p:V} {Post:Unit→Fr→Lo→Prop} (ho:o=⟨d,.load t x,ty,pos,aft,g⟩) (hd:∀ k,o.dst=some k→k<N) (hp:RV v γ l p (a.eval x))
  (h:Zq n (takeE P o n t p) f l Post):ZHa P N G w0 v0 X o a w Post:=by
 unfold takeE at h;split at h
 ·exact h.elim
 ·rename_i q hq;split at h
  ·rename_i u i hv cv e r hag;obtain ⟨⟨kk,st,L⟩,he,h⟩:=h;have hkk:kk=u:=(Zz he).2;subst hkk;obtain ⟨y,hy0,_,hy⟩:=Zda hp (fun _ e=>by cases e) rfl rfl;have hy0:a.eval x=y:=(List.cons.inj hy0).1;have hy:=hy _ he
   cases L with
   | mat ty0 ty2 s' m hv' =>
    simp only at h;split at h
    ·rename_i z b1 b2 hz;have b1:=Nat.eq_of_beq_eq_true b1;have b2:=Nat.eq_of_beq_eq_true b2;subst b1 b2;obtain ⟨c3,c4⟩:=Zla hz
     cases c3;cases c4
     obtain ⟨b,cap,rows,g1,rfl,g3,g4⟩:=hy;obtain ⟨m',c1,c2⟩:=g4 rfl;obtain ⟨c5,c6⟩:=Zla c1
     cases c5;cases c6
     obtain ⟨hkk,es,hes,hmem⟩:=hr.loc he;obtain ⟨ob,cap',rows',es2,q1,q2,rfl⟩:=hes;have q1:γ kk = .mat ob cap' rows':=q1;rw [g1] at q1;cases q1;obtain ⟨p,cs,r1,r2,r3⟩:=ZBf q2 c2;obtain ⟨j,hj⟩:=hmem _ List.mem_cons_self;have hh:=ZQh r1 c2;have hw:WAt w b (0+i*1) [.slice (mkA p.1) r.length p.2]:=by
      have hx:((Zt rows m).drop (i*1)).take 1=[.slice (mkA p.1) r.length p.2]:=by
       have hlt:=(List.getElem?_eq_some_iff.1 hh).1;rw [Nat.mul_one,List.drop_eq_getElem_cons hlt];simp [(List.getElem?_eq_some_iff.1 hh).2]
      have:=ZYc hr.st hj hx g3 0 [.slice (mkA p.1) r.length p.2] rfl (by simp)
      simpa using this
     obtain ⟨cs2,ℓ2,E2,k1,r4,k2,k3,hst⟩:=hr.take hX hn he g1 r1 c2;obtain ⟨σ,hs',e1⟩:=hr.st.ev1 x;rw [hy0] at e1;have ht:=Zyf hq;rw [hag] at ht;subst ho;exact Zch r4 hU hX hn hd k2 k3 hst k1 (Zha hs' e1 ht hw) h
    ·exact h.elim
   | box _ _=>exact h.elim
   | own _ _ _ _=>exact h.elim
   | mid _ _ _ _ _ _=>exact h.elim
  ·exact h.elim
theorem appE_ok {C:Cf} (hr:RelX N G w0 v0 U X f l a w γ v ℓ) (hU:∀ k,U k→X k) (hX:X n) (hn:¬ U n) {d:Option Nat} {t:TypeId} {x y:Operand} {o:Oper} {p q:V} {Post:Unit→Fr→Lo→Prop} (ho:o=⟨d,.call ⟨.builtin .append,#[x,y],#[t,t]⟩,ty,pos,aft,g⟩) (hd:∀ k,o.dst=some k→k<N) (hp:RV v γ l p (a.eval x)) (hq:RV v γ l q (a.eval y)) (hk:p.ok U) (hkq:q.ok U)
  (h:Zq n (appE C o n t p q) f l Post):ZHa C.P N G w0 v0 X o a w Post:=by
 unfold appE at h;split at h
 ·exact h.elim
 ·rename_i ei hei;obtain ⟨hE,hby⟩:=ZKl hei;split at h
  ·rename_i u;obtain ⟨en,he,h⟩:=h;obtain ⟨k0,st0,L⟩:=en
   cases L with
   | own ty0 s xs0 fz0 =>
    obtain ⟨ys,l1,γ1,v1,ℓ1,hB,r1,le1,q1⟩:=Zpd hn hX FU h hr hkq;obtain ⟨en,he1,hC⟩:=hB;have hp1:=ZDb le1 hk hp;obtain ⟨yy,hy0,_,hy⟩:=Zda hp1 (fun _ e=>by cases e) rfl rfl;have hy0:a.eval x=yy:=(List.cons.inj hy0).1;have hy:=hy en he1;obtain ⟨kk,st,L⟩:=en;obtain ⟨hm,hkk⟩:=Zz he1;have hkk:kk=u:=hkk;subst hkk
    cases L with
    | own ty1 s' xs fz =>
     cases fz with
     | true=>exact hC.elim
     | false =>
      simp only at hC;split at hC
      ·rename_i ys' hys ht hs;obtain ⟨c3,c4⟩:=Zla hys
       cases c3;cases c4
       have ht:=Nat.eq_of_beq_eq_true ht;have hs:=Nat.eq_of_beq_eq_true hs;obtain ⟨_,hroom,hC⟩:=hC;obtain ⟨ob,cap,g1,rfl⟩:=hy;obtain ⟨es,E',h1,_,h2,h3,r2⟩:=r1.del he1;obtain ⟨ob',cap',cs,f1,f2,rfl⟩:=h1;have f1:γ1 kk = .own ob' cap':=f1;rw [g1] at f1;cases f1;have hst:=r1.st.perm h3;obtain ⟨σ,hσ,e1,e2⟩:=hst.ev2 x y;obtain ⟨hq1,hq2⟩:=ZAm h;obtain ⟨csq,hcq,hqe⟩:=Zyb hq hq2;have hcq':(Zy s.rep).rel v1 csq ys:=q1 _ hcq;obtain ⟨qa,m,c,rfl⟩:=Znf hcq';rw [Zdh hq1] at hqe;have hml:m=ys.length:=by obtain ⟨_,_,e,_⟩:=hcq';cases e;rfl
       have hE':Elem C.P t ty1 s.rep.n ei.by_ ei.z:=by rw [ZQ,← hs,← ht];exact hE
       have hσ':St N w0 v0 σ (.own ob ty1 s.rep.n xs.length cap cs :: E'.flatten) v1 a w:=by rw [ZQ];exact hσ
       obtain ⟨b',cap',cs2,w',hrun,hst',hrel⟩:=ZOf (ty:=ty) (A:=s.rep) hE' hσ' (i:=0) rfl hcq' (n':=(xs++(show List s.den from ys)).length) (by rw [List.length_append,hml]) (Zce hroom) hby;rw [hy0] at e1;rw [hqe] at e2;have hst':=hst'.bare;rw [ZQ] at hst';subst ho;exact Zch r2 hU hX hn hd h2 rfl hst' (ZFc f2 hrel) (Zqe hσ e1 e2 hrun) hC
      ·exact hC.elim
    | box _ _=>exact hC.elim
    | mid _ _ _ _ _ _=>exact hC.elim
    | mat _ _ _ _ _=>exact hC.elim
   | box _ _=>exact h.elim
   | mid _ _ _ _ _ _=>exact h.elim
   | mat _ _ _ _ _=>exact ZNr hr hU hX hn hE hby ho hd (fun e=>by cases e) (fun u' e=>by cases e;exact hp) hq h
  · -- a row
   rename_i u i hv cv s r;obtain ⟨ys,l1,γ1,v1,ℓ1,hB,r1,le1,q1⟩:=Zpd hn hX FU h hr hkq;obtain ⟨⟨kk,st,L⟩,he1,hC⟩:=hB;have hkk:kk=u:=(Zz he1).2;subst hkk;have hp1:=ZDb le1 hk hp;obtain ⟨yy,hy0,_,hy⟩:=Zda hp1 (fun _ e=>by cases e) rfl rfl;have hy0:a.eval x=yy:=(List.cons.inj hy0).1;have hy:=hy _ he1
   cases L with
   | mat ty1 ty2 s' m hv' =>
    simp only at hC;split at hC
    ·rename_i z b1 b2 hz b3 b4;have b1:=Nat.eq_of_beq_eq_true b1;have b2:=Nat.eq_of_beq_eq_true b2;have b3:=Nat.eq_of_beq_eq_true b3;have b4:=Nat.eq_of_beq_eq_true b4;subst b1 b2;obtain ⟨c3,c4⟩:=Zla hz
     cases c3;cases c4
     obtain ⟨_,hroom,hC⟩:=hC;obtain ⟨ob,cap,rows,obi,capi,g1,g2,rfl,_,g6⟩:=hy rfl;obtain ⟨m',c1,c2⟩:=g6 rfl;obtain ⟨c5,c6⟩:=Zla c1
     cases c5;cases c6
     obtain ⟨cs,ℓ2,E2,k1,r2,k2,k3,hst⟩:=r1.take hX hn he1 g1 g2 c2;obtain ⟨σ,hσ,e1,e2⟩:=hst.ev2 x y;obtain ⟨hq1,hq2⟩:=ZAm h;obtain ⟨csq,hcq,hqe⟩:=Zyb hq hq2;have hcq':(Zy s.rep).rel v1 csq ys:=q1 _ hcq;obtain ⟨qa,mm,c,rfl⟩:=Znf hcq';rw [Zdh hq1] at hqe;have hml:mm=ys.length:=by obtain ⟨_,_,e,_⟩:=hcq';cases e;rfl
     have hE':Elem C.P t ty2 s.rep.n ei.by_ ei.z:=by rw [ZQ,← b4,← b3];exact hE
     have hσ':St N w0 v0 σ (.own obi ty2 s.rep.n r.length capi cs :: ℓ2) v1 a w:=by rw [ZQ];exact hσ
     obtain ⟨b',cap',cs2,w',hrun,hst',hrel⟩:=ZOf (ty:=ty) (A:=s.rep) hE' hσ' (i:=0) rfl hcq' (n':=(r++(show List s.den from ys)).length) (by rw [List.length_append,hml]) (Zce hroom) hby;rw [hy0] at e1;rw [hqe] at e2;have hst':=hst'.bare;rw [ZQ] at hst';subst ho;exact Zch r2 hU hX hn hd k2 k3 hst' (ZFc k1 hrel) (Zqe hσ e1 e2 hrun) hC
    ·exact hC.elim
   | box _ _=>exact hC.elim
   | own _ _ _ _=>exact hC.elim
   | mid _ _ _ _ _ _=>exact hC.elim
  ·split at h
   ·refine ZNr hr hU hX hn hE hby ho hd (fun _=>?_) (fun u' e=>by cases e) hq h;obtain ⟨cs,h1,h2⟩:=hp;have h1:cs=[.slice none 0 0]:=h1;subst h1;exact h2
   split at h
   ·rename_i s hs;split at h
    ·rename_i hsz;have hsz:=Nat.eq_of_beq_eq_true hsz;obtain ⟨ys,l1,γ1,v1,ℓ1,hB,r1,le1,q1⟩:=Zpd hn hX FU h hr hkq;obtain ⟨_,hroom,hC⟩:=hB;obtain ⟨E',h2,h3⟩:=r1.lr;have hx0:a.eval x = .slice none 0 0:=by
      obtain ⟨cs,h1,h2⟩:=hp;have h1:cs=[.slice none 0 0]:=h1;subst h1;exact h2
     have hst:=(r1.st.perm h3).nilLoc ei.e s.rep.n;obtain ⟨σ,hσ,e1,e2⟩:=hst.ev2 x y;obtain ⟨hq1,hq2⟩:=ZAm h;obtain ⟨csq,hcq,hqe⟩:=Zyb hq hq2;have hcq':(Zy s.rep).rel v1 csq ys:=q1 _ hcq;obtain ⟨qa,m,c,rfl⟩:=Znf hcq';rw [Zdh hq1] at hqe;have hml:m=ys.length:=by obtain ⟨_,_,e,_⟩:=hcq';cases e;rfl
     have hE':Elem C.P t ei.e s.rep.n ei.by_ ei.z:=by rw [ZQ,← hsz];exact hE
     obtain ⟨b',cap',cs2,w',hrun,hst',hrel⟩:=ZOf (ty:=ty) (A:=s.rep) hE' hσ (i:=0) rfl hcq' (n':=(([]:List s.den)++(show List s.den from ys)).length) (by rw [List.length_append,hml];rfl) (Zce hroom) hby;rw [hx0] at e1;rw [hqe] at e2;have hst':=hst'.bare;rw [ZQ] at hst';subst ho;exact Zch r1 hU hX hn hd h2 rfl hst' (ZFc ZYd hrel) (Zqe hσ e1 e2 hrun) hC
    ·exact h.elim
   ·exact h.elim
  ·exact h.elim
end
end Go.Eng
namespace Go.Eng
open Go.RowKit
variable {P:Program} {K:Nat} {w0:Base} {v0:Zb} {σ:List (Nat×Value)} {ℓ:List Loc} {v:Zb} {a:Act} {w:World}
variable {d:Option Nat} {ty:TypeId} {pos:String} {aft:Array Edge} {g:Option (Nat×Bool)}
theorem max2_eq (k:IntKind) (p q:Int):(Builtin.max2 (.int k p) (.int k q)).run P w = .ok (.int k (max p q)) w:=by
 simp only [Builtin.max2,Sem.run_pure];congr 2;by_cases h:q>p
 ·rw [if_pos h];omega
 ·rw [if_neg h];omega
theorem min2_eq (k:IntKind) (p q:Int):(Builtin.min2 (.int k p) (.int k q)).run P w = .ok (.int k (min p q)) w:=by
 simp only [Builtin.min2,Sem.run_pure];congr 2;by_cases h:q<p
 ·rw [if_pos h];omega
 ·rw [if_neg h];omega
theorem run_max (hS:St K w0 v0 σ ℓ v a w) {x y:Operand} {k:IntKind} {p q:Int} {ats:Array TypeId} (e:ev σ x=some (.int k p)) (e':ev σ y=some (.int k q)) :
  (execOp a.eval ⟨d,.call ⟨.builtin .max,#[x,y],ats⟩,ty,pos,aft,g⟩).run P w = .ok (.value (.int k (max p q))) w:=by
 simp [execOp,resolve,invoke,builtin,Builtin.max_,hS.eval e,hS.eval e',max2_eq]
theorem run_min (hS:St K w0 v0 σ ℓ v a w) {x y:Operand} {k:IntKind} {p q:Int} {ats:Array TypeId} (e:ev σ x=some (.int k p)) (e':ev σ y=some (.int k q)) :
  (execOp a.eval ⟨d,.call ⟨.builtin .min,#[x,y],ats⟩,ty,pos,aft,g⟩).run P w = .ok (.value (.int k (min p q))) w:=by
 simp [execOp,resolve,invoke,builtin,Builtin.min_,hS.eval e,hS.eval e',min2_eq]
end Go.Eng
namespace Go.Eng
open Go.RowKit
section
variable {Q:Exit→Act→World→Prop} {a:Act} {w:World}
end
end Go.Eng
namespace Go.Eng
open Go.RowKit
end Go.Eng
namespace Go.Eng
open Go.RowKit
theorem Z3w (off:Nat):∀ (l:List Value) (k:Nat) (acc:Array Value),off+k+l.length≤acc.size→(l.zipIdx k).foldl (fun cs (c,j)=>cs.setIfInBounds (off+j) c) acc=(acc.toList.take (off+k)++l++acc.toList.drop (off+k+l.length)).toArray:=by
 intro l
 induction l with
 | nil=>intro k acc h;simp
 | cons y l ih =>
  intro k acc h;simp only [List.zipIdx_cons,List.foldl_cons];rw [ih (k+1) _ (by simp at h ⊢;omega)];congr 1;simp only [Array.toList_setIfInBounds];simp only [List.length_cons] at h;have hlt:off+k<acc.toList.length:=by simp;omega
  rw [List.take_set,List.drop_set_of_lt (by omega)];rw [List.set_eq_take_append_cons_drop,if_pos (by simp;simp at hlt;omega)];rw [List.take_take,Nat.min_eq_left (by omega)];have e1:((acc.toList.take (off+(k+1))).drop (off+k+1))=[]:=List.drop_of_length_le (by simp;omega);rw [e1];simp;congr 1;omega
theorem ZCm {place:Nat→Option (Nat×Nat)} {cells:Array Value} {i:Nat} {x:Value} {cs:List Value} {rest:List (Nat×Value)} {off:Nat} (hp:place i=some (off,cs.length)) (hx:x.cells=cs.toArray) (hc:off+cs.length≤cells.size) :
  Instr.fill place cells ((i,x) :: rest)=Instr.fill place (cells.toList.take off++cs++cells.toList.drop (off+cs.length)).toArray rest:=by
 have h1:¬ (x.cells.size≠cs.length || decide (off+x.cells.size>cells.size)):=by simp [hx,hc]
 conv=>lhs;unfold Instr.fill
 simp only [hp];rw [if_neg h1,hx];have:=Z3w off cs 0 cells (by omega);rw [← Array.foldl_toList];congr 1
 simpa using this
section
variable {P:Program} {N:Nat} {G:V→Value→Prop} {w0:Base} {v0:Zb} {U X:Nat→Prop} {f:Fr} {l:Lo} {a:Act} {w:World} {γ:Nat→Gh} {v:Zb} {ℓ:List Loc} {n:Nat}
variable {ty:TypeId} {pos:String} {aft:Array Edge} {g:Option (Nat×Bool)}
theorem ZMf {ρ:Type} (hr:RelX N G w0 v0 U X f l a w γ v ℓ):∀ {xs:List Operand} {k:V→Ev ρ} {Post:ρ→Fr→Lo→Prop},Zq n (Z7d xs k) f l Post→∃ c,RR v γ l true c (xs.map a.eval)∧c.ok U∧Zq n (k c) f l Post
 | [],k,Post,h=>⟨.nl,rfl,trivial,h⟩
 | x :: xs,k,Post,h=>by
  obtain ⟨V',h1,h2,h3⟩:=ZY hr h
  have hnt:∀ c,V' ≠ .tup c:=fun c e=>by subst e;exact h3.elim
  have h3':Zq n (Z7d xs fun c=>k (.cons V' c)) f l Post:=by
   cases V' <;> first | exact h3 | exact h3.elim
  obtain ⟨c,k1,k2,k3⟩:=ZMf hr h3';obtain ⟨cs,q1,q2⟩:=Zyb h1 hnt;exact ⟨.cons V' c,⟨cs,_,by rw [List.map_cons,q2],q1,k1⟩,⟨h2,k2⟩,k3⟩
theorem ZPv {ρ:Type} {g:Nat} {t:T} {x:V} {k:t.den→Ev ρ} {Post:ρ→Fr→Lo→Prop} (h:Zq n (conv g t x k) f l Post):x.isAgg=true∨x.isAgg=false∧x.size=1:=by
 cases x with
 | data s x =>
  cases ha:s.agg with
  | true=>exact .inl ha
  | false=>exact .inr ⟨ha,T_one ha⟩
 | nilS=>exact .inr ⟨rfl,rfl⟩
 | own u=>exact .inr ⟨rfl,rfl⟩
 | agg c=>exact .inl rfl
 | _ =>
  cases g with
  | zero=>exact h.elim
  | succ g=>simp only [conv] at h;exact h.elim
theorem ZEw {x:V} {cs:List Value} (hf:x.isAgg=true∨x.isAgg=false∧x.size=1) (h:RR v γ l false x cs) (hp:cs.all plain=true):(x.val cs).cells=cs.toArray:=by
 rcases hf with ha | ⟨ha,hs⟩
 ·unfold V.val;rw [ha];rfl
 ·have e:=Zsg h hs ha;have hv:x.val cs=cs.headD undef:=by unfold V.val;rw [ha]
  rw [hv] at e ⊢;rw [e] at hp;have hp':plain (cs.headD undef)=true:=by simpa using hp
  have:=ZCb hp'
  conv=>rhs;rw [e]
  exact this
theorem ZCw {ρ:Type} {t:T} (hn:¬ U n) (hX:X n):∀ {c:V} {k:List t.den→Ev ρ} {l:Lo} {γ:Nat→Gh} {v:Zb} {ℓ:List Loc} {Post:ρ→Fr→Lo→Prop},Zq n (convS t c k) f l Post→RelX N G w0 v0 U X f l a w γ v ℓ→c.ok U →
  ∃ xs l' γ' v' ℓ',Zq n (k xs) f l' Post∧RelX N G w0 v0 U X f l' a w γ' v' ℓ'∧Le U v γ l v' γ' l'∧∀ vals,RR v γ l true c vals→∃ css:List (List Value),t.rep.rels v' css.flatten xs∧css.length=xs.length∧vals.map Value.cells=css.map List.toArray∧∀ cs ∈ css,cs.length=t.n:=by
 intro c
 induction c with
 | nl =>
  intro k l γ v ℓ Post h hr hk;obtain ⟨E,hE,_⟩:=hr.lr;exact ⟨[],l,γ,v,ℓ,h,hr,Le.refl hE (Zb.le_refl _),fun vals hv=>⟨[],rfl,rfl,by rw [show vals=[] from hv];rfl,fun _ h=>by cases h⟩⟩
 | cons x c _ ih =>
  intro k l γ v ℓ Post h hr hk;have hfit:=ZPv (n:=n) (f:=f) (l:=l) (g:=FU) (t:=t) (x:=x) h;obtain ⟨y,l1,γ1,v1,ℓ1,h,r1,le1,q1⟩:=Zpd hn hX FU h hr hk.1;obtain ⟨ys,l2,γ2,v2,ℓ2,h,r2,le2,q2⟩:=ih h r1 hk.2;refine ⟨y :: ys,l2,γ2,v2,ℓ2,h,r2,le1.trans le2,fun vals hv=>?_⟩;obtain ⟨cs,vs,rfl,h1,h2⟩:=hv;have hrel:=q1 cs h1;obtain ⟨css,k1,k2,k3,k4⟩:=q2 vs (Zrb le1 hk.2 h2);refine ⟨cs :: css,⟨cs,css.flatten,rfl,Rep.mono _ le2.v hrel,k1⟩,by simp [k2],?_,fun c hc=>?_⟩
  ·rw [List.map_cons,List.map_cons,k3,ZEw hfit h1 (Rep.flat _ hrel)]
  ·rcases List.mem_cons.1 hc with rfl | hc
   ·rw [Rep.len _ hrel,ZQ]
   ·exact k4 c hc
 | _=>intro k l γ v ℓ Post h;exact h.elim
theorem Zqn {sz:Nat}:∀ (css:List (List Value)) (vals:List Value) (k:Nat) (cells:Array Value),vals.map Value.cells=css.map List.toArray→(∀ cs ∈ css,cs.length=sz)→cells.size=(k+css.length)*sz →
  Instr.fill (fun i=>some (i*sz,sz)) cells (vals.zipIdx k |>.map fun p=>(p.2,p.1))=some (cells.toList.take (k*sz)++css.flatten).toArray
 | [],[],k,cells,_,_,hc=>by
  simp only [List.length_nil,Nat.add_zero] at hc
  simp only [List.zipIdx_nil,List.map_nil,Instr.fill,List.flatten_nil,List.append_nil]
  rw [List.take_of_length_le (by simp [hc])]
 | cs :: css,x :: vals,k,cells,h,hs,hc=>by
  simp only [List.map_cons,List.cons.injEq] at h
  have hl:=hs cs (by simp)
  simp only [List.length_cons] at hc
  have hb:k*sz+sz+css.length*sz=cells.size:=by rw [hc,Nat.add_mul,Nat.succ_mul];omega
  simp only [List.zipIdx_cons,List.map_cons]
  rw [ZCm (cs:=cs) (off:=k*sz) (by rw [hl]) h.1 (by omega)]
  rw [Zqn css vals (k+1) _ h.2 (fun c hc=>hs c (by simp [hc])) (by
   simp only [List.size_toArray,List.length_append,List.length_take,List.length_drop,Array.length_toList]
   rw [hl,Nat.min_eq_left (by omega),Nat.add_mul,Nat.succ_mul];omega)]
  congr 2
  have e1:(cells.toList.take (k*sz)).length=k*sz:=by simp;omega
  rw [List.flatten_cons,← List.append_assoc,Nat.succ_mul]
  congr 1
  rw [List.take_append,List.take_of_length_le (by simp [hl];omega)]
  rw [show k*sz+sz-(cells.toList.take (k*sz)++cs).length=0 by rw [List.length_append,e1,hl];omega]
  simp
 | [],_ :: _,_,_,h,_,_=>by simp at h
 | _ :: _,[],_,_,h,_,_=>by simp at h
theorem ZDq:∀ {ps:List (Nat×Operand)} {k:Nat},Z4k k ps=true→ps.map (fun p=>(p.1,a.eval p.2))=((ps.map fun p=>a.eval p.2).zipIdx k).map fun p=>(p.2,p.1)
 | [],_,_=>rfl
 | p :: ps,k,h=>by
  simp only [Z4k] at h
  split at h
  ·rename_i hb
   have hb:=Nat.eq_of_beq_eq_true hb
   simp only [List.map_cons,List.zipIdx_cons]
   rw [ZDq h,hb]
  ·cases h
theorem ZNl {t e:TypeId} {m sz:Nat} {inf:TypeInfo} {z:Value} {L:List (Nat×Value)} {cs:List Value} (ht:P.underlying t=some (.slice e)) (hi:P.info? e=some inf) (hz:inf.zero=some z) (hs:inf.size=sz) (hb:m*sz≤16777216)
  (hf:∀ zc:Array Value,Instr.fill (fun i=>some (i*sz,sz)) ((Array.range (m*sz)).map (fun i=>zc[i%zc.size]!)) L=some cs.toArray) (w:World):(Instr.buildSlice t m L.toArray).run P w = .ok (.slice (some ⟨w.heap.size,0,none⟩) m m) (w.alloc (.cells cs.toArray e)):=by
 subst hs;have hb:¬ (m*inf.size>2^24):=by omega
 unfold Instr.buildSlice;by_cases h0:m*inf.size=0
 ·have:=hf #[];simp only [h0] at this;simp [run_underlying ht,sizeOf,typeInfo,hi,h0] ; simp at this;simp [this,newRow]
 ·have:=hf z.cells;obtain ⟨A,hA⟩:∃ A,A=(Array.range (m*inf.size)).map (fun i=>z.cells[i%z.cells.size]!):=⟨_,rfl⟩;rw [← hA] at this;simp only [run_underlying ht,sizeOf,typeInfo,zeroValue];simp [run_underlying ht,typeInfo,hi,hz,h0,show ¬ (16777216<m*inf.size) by omega];rw [← hA,this];simp [newRow]
theorem ZLs {C:Cf} (hr:RelX N G w0 v0 U X f l a w γ v ℓ) (hU:∀ k,U k→X k) (hX:X n) (hn:¬ U n) {d:Option Nat} {t:TypeId} {m:Nat} {ps:Array (Nat×Operand)} {o:Oper} {Post:Unit→Fr→Lo→Prop} (ho:o=⟨d,.buildSlice t m ps,ty,pos,aft,g⟩) (hd:∀ k,o.dst=some k→k<N)
  (h:Zq n (ZZ C n o) f l Post):ZHa C.P N G w0 v0 X o a w Post:=by
 subst ho;simp only [ZZ] at h;split at h
 ·rename_i q hq;obtain ⟨hE,hby⟩:=ZKl hq;split at h
  ·split at h
   ·rename_i x hps hps2;have hps:=hps;obtain ⟨V1,h1,hk1,h⟩:=ZY hr h;split at h
    ·rename_i u2 q2 _ hq2 _;obtain ⟨⟨k2,st2,L2⟩,he2,h⟩:=h;have hkk2:k2=u2:=(Zz he2).2;subst hkk2
     cases L2 with
     | own ty2 s xs fz =>
      cases fz with
      | true=>exact h.elim
      | false =>
       simp only at h;split at h
       ·rename_i b1 b2 b3;have b3:=Nat.eq_of_beq_eq_true b3;obtain ⟨es,E',g1,g2,g2',g3,r2⟩:=hr.del he2;obtain ⟨ob2,cap2,cs2,f1,f2,rfl⟩:=g1;have f1:γ k2 = .own ob2 cap2:=f1;have hy0:a.eval x = .slice (mkA ob2) xs.length cap2:=by
         obtain ⟨yq,hyq0,_,hyq⟩:=Zda h1 (fun _ e=>by cases e) rfl rfl;obtain ⟨oq,cq,gq1,gq2⟩:=hyq _ he2;rw [f1] at gq1;cases gq1;exact ((List.cons.inj hyq0).1).trans gq2
        have hcells:(Value.slice (mkA ob2) xs.length cap2).cells=[Value.slice (mkA ob2) xs.length cap2].toArray:=by cases ob2 <;> rfl
        have hz:∀ w,(Instr.buildSlice t 1 (ps.toList.map fun p=>(p.1,a.eval p.2)).toArray).run C.P w = .ok (.slice (some ⟨w.heap.size,0,none⟩) 1 1) (w.alloc (.cells [Value.slice (mkA ob2) xs.length cap2].toArray q.e)):=by
         intro w;obtain ⟨inf,hinf,hzz,hsz',hby'⟩:=info_parts hE.info;rw [hps,List.map_singleton];simp only [hy0];refine ZNl (sz:=1) hE.ty hinf hzz (hsz'.trans b3) (by decide) (fun zc=>?_) w;have:=Zqn (sz:=1) [[Value.slice (mkA ob2) xs.length cap2]] [Value.slice (mkA ob2) xs.length cap2] 0 ((Array.range (1*1)).map (fun i=>zc[i%zc.size]!)) (by simp [hcells]) (fun cs hc=>by rw [List.mem_singleton.1 hc];rfl) (by simp)
         simpa using this
        have hst:=hr.st.perm g3;obtain ⟨σ,hσ,hev⟩:=hst.evs (ps.toList.map (·.2));obtain ⟨b,w',hrun,hst'⟩:=Zzf (P:=C.P) (t:=t) (e:=q.e) (sz:=1) hσ (by simp) (by decide) hz;have hev':ps.toList.map (fun p=>(ev σ p.2).map fun y=>(p.1,y))=(ps.toList.map fun p=>(p.1,a.eval p.2)).map some:=by
         rw [List.map_map];refine List.map_congr_left fun p hp=>?_;rw [hev p.2 (List.mem_map.2 ⟨p,hp,rfl⟩)];rfl
        exact ZIj (rows:=[(ob2,cap2)]) (m:=[xs]) r2 hU hX hn hd g2' rfl ⟨cs2,[],f2,rfl,rfl⟩ hst'.bare (hrun (d:=d) (ty:=ty) (pos:=pos) (aft:=aft) (g:=g) hev') h
       ·exact h.elim
     | box _ _=>exact h.elim
     | mat _ _ _ _ _=>exact h.elim
     | mid _ _ _ _ _ _=>exact h.elim
    ·exact h.elim
   ·exact h.elim
  split at h
  ·rename_i s hs ho hlen hbig;have hlen:=Nat.eq_of_beq_eq_true hlen;have hbig:=Nat.le_of_ble_eq_true hbig;split at h
   ·rename_i hsz;have hsz:=Nat.eq_of_beq_eq_true hsz;obtain ⟨c,h1,h2,h⟩:=ZMf hr h;obtain ⟨xs,l1,γ1,v1,ℓ1,h,r1,le1,q1⟩:=ZCw hn hX h hr h2;obtain ⟨css,k1,k2,k3,k4⟩:=q1 _ h1;obtain ⟨E,hEE,hp⟩:=r1.lr;have hvl:css.length=m:=by
     have:=congrArg List.length k3;simp only [List.length_map] at this;omega
    have hflat:css.flatten.length=m*q.sz:=by
     have:=Z9d k1;rw [ZQ,← k2,hvl,← hsz] at this;exact this
    have hz:∀ w,(Instr.buildSlice t m (ps.toList.map fun p=>(p.1,a.eval p.2)).toArray).run C.P w = .ok (.slice (some ⟨w.heap.size,0,none⟩) m m) (w.alloc (.cells css.flatten.toArray q.e)):=by
     intro w;obtain ⟨inf,hinf,hzz,hsz',hby'⟩:=info_parts hE.info;rw [ZDq ho];have hm:(ps.toList.map fun p=>a.eval p.2)=(ps.toList.map (·.2)).map a.eval:=by rw [List.map_map];rfl
     rw [hm];have hf:∀ zc:Array Value,Instr.fill (fun i=>some (i*q.sz,q.sz)) ((Array.range (m*q.sz)).map (fun i=>zc[i%zc.size]!)) ((((ps.toList.map (·.2)).map a.eval).zipIdx).map fun p=>(p.2,p.1))=some css.flatten.toArray:=fun zc=>by
      have:=Zqn (sz:=q.sz) css ((ps.toList.map (·.2)).map a.eval) 0 ((Array.range (m*q.sz)).map (fun i=>zc[i%zc.size]!)) k3 (fun cs hc=>by rw [k4 cs hc,hsz]) (by simp [hvl]);rw [Nat.zero_mul,List.take_zero,List.nil_append] at this;exact this
     obtain ⟨L,hL⟩:∃ L,L=((((ps.toList.map (·.2)).map a.eval).zipIdx).map fun p=>(p.2,p.1)):=⟨_,rfl⟩;rw [← hL] at hf ⊢;clear hL;exact ZNl hE.ty hinf hzz hsz' hbig hf w
    have hst:=r1.st.perm hp;obtain ⟨σ,hσ,hev⟩:=hst.evs (ps.toList.map (·.2));have hmax:m≤maxLen:=by
     have h1:m≤m*q.sz:=Nat.le_mul_of_pos_right _ hE.pos;unfold maxLen;omega
    obtain ⟨b,w',hrun,hst'⟩:=Zzf (P:=C.P) (t:=t) (e:=q.e) hσ hflat hmax hz;have hev':ps.toList.map (fun p=>(ev σ p.2).map fun y=>(p.1,y))=(ps.toList.map fun p=>(p.1,a.eval p.2)).map some:=by
     rw [List.map_map];refine List.map_congr_left fun p hp=>?_;rw [hev p.2 (List.mem_map.2 ⟨p,hp,rfl⟩)];rfl
    have hxl:m=xs.length:=by omega
    have hst':=hst'.bare;rw [hsz,hxl] at hst';have hrun':=hrun (d:=d) (ty:=ty) (pos:=pos) (aft:=aft) (g:=g) hev'
    conv at hrun'=>rhs;rw [hxl]
    exact Zch r1 hU hX hn hd hEE rfl hst' k1 hrun' h
   ·exact h.elim
  ·exact h.elim
 ·exact h.elim
end
end Go.Eng
namespace Go.Eng
open Go.RowKit
section
variable {P:Program} {K:Nat} {w0:Base} {v0:Zb} {σ:List (Nat×Value)} {ℓ:List Loc} {v:Zb} {a:Act} {w:World}
variable {d:Option Nat} {ty:TypeId} {pos:String} {aft:Array Edge} {g:Option (Nat×Bool)}
theorem Zct (w:World) (dT sT ty elem:TypeId) (i:TypeInfo) (g o dLen dCap:Nat) (a:Addr) (sLen sCap:Nat) (cur:Array Value) (t:TypeId) (cs:List Value)
  (hu:P.underlying dT=some (.slice elem)) (hi:P.info? elem=some i) (hg:w.heap[g]? = some (.cells cur t (0,0))) (hn:cs.length=Nat.min sLen dLen*i.size)
  (hsrc:∀ j v,cs[j]? = some v→w.cell? (a.add j)=some v) (hfit:o+cs.length≤cur.size) (h1:∀ v ∈ cs,v.oneCell'=true) :
  (Builtin.copy_ #[dT,sT] ty #[.slice (some ⟨g,o,none⟩) dLen dCap,.slice (some a) sLen sCap]).run P w =
   .ok (goInt (Nat.min sLen dLen)) (w.setRow g (cur.toList.take o++cs++cur.toList.drop (o+cs.length)).toArray):=by
 have hl:=run_loadCells_list (P:=P) w a cs hsrc;have hst:=run_storeCells_at P g o t cs 0 cur w hg (by simpa using hfit) h1;simp [Builtin.copy_,run_underlying hu,Builtin.lenOf,Builtin.firstCells,sizeOf,typeInfo,hi,← hn,hl,hst]
theorem Ziq {t e sT:TypeId} {sz bytes:Nat} {z:Value} (E:Elem P t e sz bytes z) (hS:St K w0 v0 σ ℓ v a w) {i n cap b:Nat} {cs:List Value} (hi:ℓ[i]? = some (.own (some b) e sz n cap cs)) {p k:Nat} {c:List Value}
  (hc:c.length=k*sz) (hp:p+k≤n) (hpl:c.all plain=true) {ad:Addr} {sLen sCap dLen dCap:Nat} (hsrc:∀ j u,c[j]? = some u→w.cell? (ad.add j)=some u) (hk:Nat.min sLen dLen=k) :
  ∃ w',(∀ ty,(Builtin.copy_ #[t,sT] ty #[.slice (some ⟨b,p*sz,none⟩) dLen dCap,.slice (some ad) sLen sCap]).run P w = .ok (.int .i64 k) w') ∧
   St K w0 v0 σ (ℓ.set i (.own (some b) e sz n cap (cs.take (p*sz)++c++cs.drop (p*sz+c.length)))) v a w':=by
 obtain ⟨inf,hinf,hz,hs,hby⟩:=info_parts E.info;obtain ⟨hcl,cur,hg,hnc,hcx,hcs,htake⟩:=(hS.loc _ (List.mem_of_getElem? hi)).1;have h1:p*sz+c.length≤n*sz:=by rw [hc,← Nat.add_mul];exact Nat.mul_le_mul_right _ hp
 have h2:n*sz≤cap*sz:=Nat.mul_le_mul_right _ hnc;have hcl2:cur.toList.length=cap*sz:=by simpa using hcs
 refine ⟨_,fun ty=>?_,hS.setRow hi rfl rfl (c:=(cur.toList.take (p*sz)++c++cur.toList.drop (p*sz+c.length)).toArray) ⟨?_,_,setRow_heap w b cur _ e _ hg,hnc,hcx,?_,?_⟩⟩
 ·have:=Zct (P:=P) w t sT ty e inf b (p*sz) dLen dCap ad sLen sCap cur e c E.ty hinf hg (by rw [hk,hs];exact hc) hsrc (by omega) (Zco hpl);rw [this,hk];rfl
 ·simp;omega
 ·simp;omega
 ·show List.take (n*sz) (_++_++_)=_;rw [ZJo _ _ _ _ h1 (by omega),htake]
end
end Go.Eng
namespace Go.Eng
open Go.RowKit
def OwnI {α:Type} (A:Rep α) (T:TypeId) (sz:Nat) (l:List α) (ob0:Option Nat) (w:World) (r:Value) (v':Zb) (w':World):Prop :=
 ∃ ob n cap cs,r = .slice (mkA ob) n cap∧(Loc.own ob T sz n cap cs).holds w'∧(∀ b,ob=some b→(w.heap.size≤b∨ob0=some b)∧v' b=none)∧A.rels v' cs l∧n=l.length
section
variable {P:Program} {K:Nat} {w0:Base} {v0:Zb} {σ:List (Nat×Value)} {ℓ:List Loc} {v:Zb} {a:Act} {w:World}
theorem St.afterI {v':Zb} {w':World} (h:St K w0 v0 σ ℓ v a w) {i:Nat} {e e':Loc} (hi:ℓ[i]? = some e) (x:ExtB ⟨w,e.blk.toList⟩ w') (s:VStepB ⟨w,e.blk.toList⟩ v w' v') (hh:e'.holds w') (hb':∀ b,e'.blk=some b→(w.heap.size≤b∨e.blk=some b)∧v' b=none) :
  St K w0 v0 σ (e' :: ℓ.eraseIdx i) v' a w':=by
 obtain ⟨he,hv⟩:=h.loc e (List.mem_of_getElem? hi);have nl:∀ k,k<w0.wd.heap.size→k ∉ w0.lent→k ∉ e.blk.toList:=fun k hk hl hm=>by
  have hm:e.blk=some k:=by simpa using hm
  rcases (hv k hm).1 with h' | h'
  ·omega
  ·exact hl h'
 have oth:∀ j y,ℓ[j]? = some y→j≠i→∀ b',y.blk=some b'→b'<w.heap.size∧e.blk≠some b'∧b' ∉ e.blk.toList:=fun j y hj hji b' hb2=>by
  obtain ⟨c2,T2,hg2⟩:=Loc.blk_get (h.loc y (List.mem_of_getElem? hj)).1 hb2;have hne:e.blk≠some b':=fun hb=>ZBh h.nd hi hb j y hj hji b' hb2 rfl;exact ⟨Zpf hg2,hne,by simpa using hne⟩
 refine ⟨h.size,h.dfr,h.fr,⟨x.os.trans h.ext.os,x.tape.trans h.ext.tape,x.output.trans h.ext.output,Nat.le_trans h.ext.size x.size,fun k hk hl=>?_⟩,⟨Zb.le_trans h.vst.le s.le,s.vin,fun k hk hl=>?_⟩,fun y hy=>?_,?_⟩
 ·rw [x.block k (Nat.lt_of_lt_of_le hk h.ext.size) (nl k hk hl)];exact h.ext.block k hk hl
 ·rw [s.old k (Nat.lt_of_lt_of_le hk h.ext.size) (nl k hk hl)];exact h.vst.old k hk hl
 ·rcases List.mem_cons.1 hy with rfl | hy
  ·refine ⟨hh,fun b hb=>⟨?_,(hb' b hb).2⟩⟩;rcases (hb' b hb).1 with h1 | h1
   ·exact .inl (Nat.le_trans h.ext.size h1)
   ·exact (hv b h1).1
  ·obtain ⟨j,hji,hj⟩:=List.mem_eraseIdx_iff_getElem?.1 hy;obtain ⟨h1,h2⟩:=h.loc y (List.mem_of_getElem? hj);have same:∀ b',y.blk=some b'→w'.heap[b']? = w.heap[b']?:=fun b' hb2=>by
    obtain ⟨o1,o2,o3⟩:=oth j y hj hji b' hb2;exact x.block b' o1 o3
   refine ⟨?_,fun b' hb2=>⟨(h2 b' hb2).1,?_⟩⟩
   ·cases y with
    | box b' T' cs=>show _=_;rw [same b' rfl];exact h1
    | own b' T' sz n cap cs =>
     cases b' with
     | none=>exact h1
     | some b'=>obtain ⟨k1,c',k2,k3⟩:=h1;exact ⟨k1,c',by rw [same b' rfl];exact k2,k3⟩
   ·obtain ⟨o1,o2,o3⟩:=oth j y hj hji b' hb2;rw [s.old b' o1 o3];exact (h2 b' hb2).2
 ·have hsub:((ℓ.eraseIdx i).filterMap Loc.blk).Nodup:=h.nd.sublist ((List.eraseIdx_sublist ..).filterMap _)
  cases hb:e'.blk with
  | none=>rw [List.filterMap_cons_none hb];exact hsub
  | some b =>
   rw [List.filterMap_cons_some hb];refine List.nodup_cons.2 ⟨fun hm=>?_,hsub⟩;obtain ⟨y,hy,hyb⟩:=List.mem_filterMap.1 hm;obtain ⟨j,hji,hj⟩:=List.mem_eraseIdx_iff_getElem?.1 hy;obtain ⟨o1,o2,o3⟩:=oth j y hj hji b hyb;rcases (hb' b hb).1 with h1 | h1
   ·omega
   ·exact o2 h1
variable {d:Option Nat} {ty:TypeId} {pos:String} {aft:Array Edge} {g:Option (Nat×Bool)}
theorem Zrw (hS:St K w0 v0 σ ℓ v a w) {t e:TypeId} {sz b o n cap p:Nat} {x lo:Operand} {k:IntKind} (ht:Z6c P t e sz) (e1:ev σ x=some (.slice (some ⟨b,o,none⟩) n cap)) (e2:ev σ lo=some (.int k (p:Int))) (hp:p≤n) (hc:p<cap) :
  (execOp a.eval ⟨d,.slice t x (some lo) none none,ty,pos,aft,g⟩).run P w = .ok (.value (.slice (some ⟨b,o+p*sz,none⟩) (n-p) (cap-p))) w:=by
 have h1:(0:Int)≤(p:Int)∧(p:Int)≤(n:Int):=by omega
 have h2:¬ cap=p:=by omega
 simp [execOp,Instr.sliceAt,Instr.slice,Instr.sliceBounds,Instr.sliceBound,asIntOf,hS.eval e1,hS.eval e2,ht.1,ht.2,hp,h2,Z0a]
theorem ZJw (hS:St K w0 v0 σ ℓ v a w) {t e:TypeId} {sz b n cap p:Nat} {x hi:Operand} {k:IntKind} (ht:Z6c P t e sz) (e1:ev σ x=some (.slice (some ⟨b,0,none⟩) n cap)) (e2:ev σ hi=some (.int k (p:Int))) (hp:p≤cap) (hc:0<cap) :
  (execOp a.eval ⟨d,.slice t x none (some hi) none,ty,pos,aft,g⟩).run P w = .ok (.value (.slice (some ⟨b,0,none⟩) p cap)) w:=by
 have h1:(0:Int)≤(p:Int)∧(p:Int)≤(cap:Int):=by omega
 have h2:¬ cap=0:=by omega
 simp [execOp,Instr.sliceAt,Instr.slice,Instr.sliceBounds,Instr.sliceBound,asIntOf,hS.eval e1,hS.eval e2,ht.1,ht.2,hp,h2,Z0a]
theorem Zur (hS:St K w0 v0 σ ℓ v a w) {t t':TypeId} {x y:Operand} {p q r:Value} {w':World} (e:ev σ x=some p) (e':ev σ y=some q) (h:(Builtin.copy_ #[t,t'] ty #[p,q]).run P w = .ok r w') :
  (execOp a.eval ⟨d,.call ⟨.builtin .copy,#[x,y],#[t,t']⟩,ty,pos,aft,g⟩).run P w = .ok (.value r) w':=by
 simp [execOp,resolve,invoke,builtin,hS.eval e,hS.eval e',h]
end
end Go.Eng
namespace Go.Eng
open Go.RowKit
def Zkf {α:Type} (by_:Nat) (l:List α):Option (List α):=bnd (ZO by_ l) fun _=>some l
theorem Ziv {α:Type} {by_:Nat} {l z:List α} (h:Zkf by_ l=some z):l.length*by_≤140737488355328∧z=l:=by
 obtain ⟨_,h1,h2⟩:=ZF h;exact ⟨Zce h1,(Option.some.inj h2).symm⟩
def repF {α:Type} (by_:Nat) (x:List α) (n:Int):Option (List α):=match x with
 | [z]=>bnd (mk by_ n n) fun _=>some (List.replicate n.toNat z)
 | _=>none
theorem Z8t {α:Type} {by_:Nat} {x r:List α} {n:Int} (h:repF by_ x n=some r):∃ z,x=[z]∧r=List.replicate n.toNat z∧mk by_ n n=some ():=by
 unfold repF at h;split at h
 ·obtain ⟨_,h1,h2⟩:=ZF h;exact ⟨_,rfl,(Option.some.inj h2).symm,h1⟩
 ·cases h
theorem Z7k {c:List Value} {sz:Nat} (h:c.length=sz) (n:Nat):((List.replicate n c).flatten).length=n*sz:=by
 rw [List.length_flatten,List.map_replicate,h,List.sum_replicate_nat]
theorem Zps {c:List Value} (h:c.all plain=true) (n:Nat):((List.replicate n c).flatten).all plain=true:=by
 rw [List.all_eq_true];intro x hx;obtain ⟨l,hl,hxl⟩:=List.mem_flatten.1 hx;rw [(List.mem_replicate.1 hl).2] at hxl;exact List.all_eq_true.1 h x hxl
theorem ZBq {c:List Value} {m n:Nat} (h:m≤n):(List.replicate n c).flatten=(List.replicate m c).flatten++(List.replicate (n-m) c).flatten:=by
 obtain ⟨k,rfl⟩:=Nat.exists_eq_add_of_le h;rw [Nat.add_sub_cancel_left,← List.flatten_append,List.replicate_append_replicate]
theorem rp_step {c z:List Value} {sz j m k:Nat} (hc:c.length=sz) (hz:z.length=sz) (h:j+m≤k):((List.replicate j c).flatten++(List.replicate (k-j) z).flatten).take (j*sz)++(List.replicate m c).flatten++((List.replicate j c).flatten++(List.replicate (k-j) z).flatten).drop (j*sz+((List.replicate m c).flatten).length)=(List.replicate (j+m) c).flatten++(List.replicate (k-(j+m)) z).flatten:=by
 have h1:=Z7k hc j;have h2:=Z7k hz m;rw [Z7k hc m,List.take_left' h1,← List.flatten_append,List.replicate_append_replicate,List.drop_append,h1,List.drop_of_length_le (by rw [h1];omega),List.nil_append,Nat.add_sub_cancel_left,ZBq (m:=m) (n:=k-j) (by omega),List.drop_left' h2,Nat.sub_sub]
section
variable {P:Program} {K:Nat} {w0:Base} {v0:Zb} {σ:List (Nat×Value)} {ℓ:List Loc} {v:Zb} {a:Act} {w:World}
variable {d:Option Nat} {ty:TypeId} {pos:String} {aft:Array Edge} {g:Option (Nat×Bool)}
theorem ZNu (hS:St K w0 v0 σ ℓ v a w) {t t2 e:TypeId} {x y:Operand} {q:Option Addr} {n c:Nat} (ht:P.underlying t=some (.slice e)) (e1:ev σ x=some (.slice q n c)) (e2:ev σ y=some (.slice none 0 0)) :
  (execOp a.eval ⟨d,.binOp .eql t x y t2,ty,pos,aft,g⟩).run P w = .ok (.value (.bool q.isNone)) w:=by
 have h:∀ w:World,(Op.equal t (.slice q n c) (.slice none 0 0)).run P w = .ok q.isNone w:=fun w=>by
  show (Op.equalIn (9999+1) t (.slice q n c) (.slice none 0 0)).run P w=_;unfold Op.equalIn
  cases q <;> simp [run_underlying ht]
 simp [execOp,hS.eval e1,hS.eval e2,eqGuard,binOp,h]
theorem ZBu {t e:TypeId} {sz by_:Nat} {z:Value} (E:Elem P t e sz by_ z) (hS:St K w0 v0 σ ℓ v a w) :
  ∃ b w',((execOp a.eval ⟨d,.buildSlice t 0 #[],ty,pos,aft,g⟩).run P w = .ok (.value (.slice (mkA (some b)) 0 0)) w')∧St K w0 v0 σ (.own (some b) e sz 0 0 [] :: ℓ) v a w':=by
 obtain ⟨i,h1,h2,h3,h4⟩:=info_parts E.info;obtain ⟨b,w',hrun,hst⟩:=Zzf (P:=P) (t:=t) (e:=e) (sz:=sz) (n:=0) (vals:=[]) (cs:=[]) hS (by simp) (by decide) (fun w=>ZNl E.ty h1 h2 h3 (by omega) (fun zc=>by simp [Instr.fill]) w);exact ⟨b,w',hrun (ps:=#[]) rfl,hst⟩
end
def vx {α:Type} (n:Nat) (f:Nat→α):List α:=(List.range n).map f
theorem Z7 {α:Type} (n:Nat) (f:Nat→α):(vx n f).length=n:=by simp [vx]
theorem Zvh {α:Type} {n i:Nat} (f:Nat→α) (h:i<n):(vx n f)[i]? = some (f i):=by simp [vx,h]
theorem ZCa {α:Type} {n i:Nat} (f:Nat→α) (h:i<n):idx (vx n f) (i:Int)=some (f i):=Z5q (Zvh f h)
theorem ZBa {α:Type} {n:Nat} {f g:Nat→α} (h:∀ i,i<n→f i=g i):vx n f=vx n g:=List.map_congr_left fun i hi=>h i (List.mem_range.1 hi)
theorem Z1c {α:Type} (n:Nat) (f:Nat→α) (i:Nat) (a:α):(vx n f).set i a=vx n (fun k=>if k=i then a else f k):=by
 apply List.ext_getElem?;intro k;by_cases hk:k<n
 ·rw [Zvh _ hk,List.getElem?_set,Zvh _ hk];by_cases e:i=k
  ·subst e;simp [hk,Z7]
  ·rw [if_neg e,if_neg (fun h=>e h.symm)]
 ·rw [List.getElem?_eq_none (by simp [Z7];omega),List.getElem?_eq_none (by simp [Z7];omega)]
theorem ZIf {α:Type} (n:Nat) (f:Nat→α):vx n f++[f n]=vx (n+1) f:=by simp [vx,List.range_succ]
theorem vx_nil {α:Type} (f:Nat→α):vx 0 f=[]:=rfl
theorem Zxi {α:Type} (n:Nat) (a:α):List.replicate n a=vx n (fun _=>a):=by
 apply List.ext_getElem?;intro k;by_cases hk:k<n
 ·rw [Zvh _ hk];simp [hk]
 ·rw [List.getElem?_eq_none (by simp;omega),List.getElem?_eq_none (by simp [Z7];omega)]
theorem ZHp {α:Type} (d:α) {n i:Nat} (f:Nat→α) (h:i<n):(vx n f).getD i d=f i:=by
 rw [List.getD_eq_getElem?_getD,Zvh _ h];rfl
def mx (R n:Nat) (M:Mx):List (List Rat):=vx R fun i=>vx n (M i)
theorem ZDa (R n:Nat) (M:Mx):(mx R n M).length=R:=Z7 _ _
theorem Z8d {R n:Nat} {M M':Mx} (h:∀ i,i<R→∀ j,j<n→M i j=M' i j):mx R n M=mx R n M':=ZBa fun i hi=>ZBa fun j hj=>h i hi j hj
theorem Zqb {R n i:Nat} (M:Mx) (h:i<R):idx (mx R n M) (i:Int)=some (vx n (M i)):=ZCa _ h
theorem Zuo {R n:Nat} (M:Mx) (i:Nat) (g:Nat→Rat):(mx R n M).set i (vx n g)=mx R n (fun k j=>if k=i then g j else M k j):=by
 unfold mx;rw [Z1c];exact ZBa fun k hk=>by by_cases e:k=i <;> simp [e]
theorem mx_swap {R n p q:Nat} (M:Mx) (hp:p<R) (hq:q<R):Zic (mx R n M) p q=mx R n (fun k=>if k=q then M p else if k=p then M q else M k):=by
 unfold Zic mx;rw [ZHp _ _ hp,ZHp _ _ hq,Z1c,Z1c];exact ZBa fun k hk=>by by_cases e:k=q <;> by_cases e2:k=p <;> simp [e,e2] <;> split <;> rfl
theorem ZZb {α β:Type} {P:β→Prop} {x:Option α} {y:α} {f:α→Option β} (h:x=some y) (h2:∃ z,f y=some z∧P z):∃ z,bnd x f=some z∧P z:=by subst h;exact h2
theorem Ztr {S R Z:Type} {P:Z→Prop} {body:S→Option (S ⊕ R)} {s:S} {f:R→Option Z} (I:Nat→S→Prop) (Q:R→Prop) (n:Nat) (h0:I 0 s) (hn:n<2^64)
  (h:∀ k s,k≤n→I k s→(∃ s',k<n∧body s=some (.inl s')∧I (k+1) s') ∨ ∃ r,body s=some (.inr r)∧Q r)
  (hf:∀ r,Q r→∃ z,f r=some z∧P z):∃ z,bnd (Zp body Zu s) f=some z∧P z:=by
 have key:∀ m g k s,k+m=n→m<g→I k s→∃ r,Zp body g s=some r∧Q r:=by
  intro m
  induction m with
  | zero =>
   intro g k s hk hg hi;obtain ⟨g,rfl⟩:∃ x,g=x+1:=⟨g-1,by omega⟩;rcases h k s (by omega) hi with ⟨s',h1,_⟩ | ⟨r,h1,h2⟩
   ·omega
   ·exact ⟨r,by unfold Zp;rw [h1,Za],h2⟩
  | succ m ih =>
   intro g k s hk hg hi;obtain ⟨g,rfl⟩:∃ x,g=x+1:=⟨g-1,by omega⟩;rcases h k s (by omega) hi with ⟨s',h1,h2,h3⟩ | ⟨r,h1,h2⟩
   ·obtain ⟨r,h4,h5⟩:=ih g (k+1) s' (by omega) (by omega) h3;exact ⟨r,by unfold Zp;rw [h2,Za];exact h4,h5⟩
   ·exact ⟨r,by unfold Zp;rw [h1,Za],h2⟩
 obtain ⟨r,h1,h2⟩:=key n Zu 0 s (by omega) (ZU (by omega)) h0;exact ZZb h1 (hf r h2)
theorem ZQk {k m:Nat} {x y:Rat} (h:sz k x) (h':sz m y) (hk:k≤1099511627776) (hm:m≤1099511627776):Zob x y=some (x+y):=by unfold Zob;rw [if_pos ⟨h.ok hk,h'.ok hm⟩]
theorem qsubB {k m:Nat} {x y:Rat} (h:sz k x) (h':sz m y) (hk:k≤1099511627776) (hm:m≤1099511627776):ZSb x y=some (x-y):=by unfold ZSb;rw [if_pos ⟨h.ok hk,h'.ok hm⟩]
theorem Zsi {k m:Nat} {x y:Rat} (h:sz k x) (h':sz m y) (hk:k≤1099511627776) (hm:m≤1099511627776):ZXa x y=some (x*y):=by unfold ZXa;rw [if_pos ⟨h.ok hk,h'.ok hm⟩]
theorem qdivB {k m:Nat} {x y:Rat} (h:sz k x) (h':sz m y) (hk:k≤1099511627776) (hm:m≤1099511627776) (hy:y≠0):Z2c x y=some (x / y,0):=by unfold Z2c;rw [if_pos ⟨h.ok hk,h'.ok hm⟩,if_neg hy]
theorem sz_frac {K:Nat} {x:Rat} {N D:Int} (hx:x=(N:Rat) / (D:Rat)) (hN:N.natAbs<2^K) (hD:D.natAbs<2^K) (h0:D≠0):sz K x:=by
 rw [hx,← Rat.divInt_eq_div,Zui];rcases Zxh (if D<0 then -N else N) D.natAbs with ⟨h1,h2⟩ | h1
 ·have h3:bl (if D<0 then -N else N).natAbs≤K:=Zkb (by split <;> omega);have h4:bl D.natAbs≤K:=Zkb hD;exact ⟨by omega,by omega⟩
 ·omega
def CD (K R n:Nat) (M:Mx):Prop:=∃ D:Int,D≠0∧D.natAbs<2^K∧∀ i j,i<R→j<n→∃ N:Int,M i j=(N:Rat) / (D:Rat)∧N.natAbs<2^K
theorem CD.sz {K R n:Nat} {M:Mx} (h:CD K R n M) {i j:Nat} (hi:i<R) (hj:j<n):sz K (M i j):=by
 obtain ⟨D,h0,h1,h2⟩:=h;obtain ⟨N,h3,h4⟩:=h2 i j hi hj;exact sz_frac h3 h4 h1 h0
theorem CD.mono {K K' R n:Nat} {M:Mx} (h:CD K R n M) (hk:K≤K'):CD K' R n M:=by
 obtain ⟨D,h0,h1,h2⟩:=h;have hp:=Nat.pow_le_pow_right (show 0<2 by omega) hk;exact ⟨D,h0,by omega,fun i j hi hj=>by
  obtain ⟨N,h3,h4⟩:=h2 i j hi hj;exact ⟨N,h3,by omega⟩⟩
theorem CD.congr {K R n:Nat} {M M':Mx} (h:CD K R n M) (e:∀ i,i<R→∀ j,j<n→M i j=M' i j):CD K R n M':=by
 obtain ⟨D,h0,h1,h2⟩:=h;exact ⟨D,h0,h1,fun i j hi hj=>by rw [← e i hi j hj];exact h2 i j hi hj⟩
theorem Zqf {a b:Int} {A B:Nat} (ha:a.natAbs<A) (hb:b.natAbs<B):(a*b).natAbs<A*B:=by
 rw [Int.natAbs_mul];exact Nat.mul_lt_mul'' ha hb
def Z7b (M:Mx) (c top p:Nat):Mx:=fun i j=>if i=top then M p j / M p c else (if i=p then M top j else M i j)-(if i=p then M top c else M i c)*(M p j / M p c)
theorem stepM_R {R n c top p:Nat} {M:Mx} (tp:top≤p) (pR:p<R) (cn:c<n) (nz:M p c≠0):StepR R n M (Z7b M c top p) c top p :=
 ⟨tp,pR,cn,nz,fun j hj=>by simp [Z7b],fun h j hj=>by simp [Z7b,h],fun i hi h1 h2 j hj=>by simp [Z7b,h1,h2]⟩
theorem CD.step {K R n c top p:Nat} {M:Mx} (h:CD K R n M) (tp:top≤p) (pR:p<R) (cn:c<n) (nz:M p c≠0):CD (2*K+1) R n (Z7b M c top p):=by
 obtain ⟨D,h0,h1,h2⟩:=h;obtain ⟨F,f1,f2⟩:=h2 p c pR cn;have e2:2^(2*K+1)=2*(2^K*2^K):=by rw [Nat.pow_succ,Nat.two_mul,Nat.pow_add];omega
 have hF:F≠0:=fun e=>nz (by rw [f1,e,Rat.div_def];exact Rat.zero_mul _);have hD':(D:Rat)≠0:=fun e=>h0 (Rat.intCast_inj.1 (by rw [e];rfl));have hF':(F:Rat)≠0:=fun e=>hF (Rat.intCast_inj.1 (by rw [e];rfl));refine ⟨D*F,fun e=>?_,?_,fun i j hi hj=>?_⟩
 ·rcases Int.mul_eq_zero.1 e with h | h
  ·exact h0 h
  ·exact hF h
 ·have:=Zqf h1 f2;omega
 ·obtain ⟨A,a1,a2⟩:=h2 p j pR hj;unfold Z7b;split
  ·refine ⟨A*D,?_,?_⟩
   ·rw [a1,f1,Rat.intCast_mul,Rat.intCast_mul];grind
   ·have:=Zqf a2 h1;omega
  ·have key:∀ i,i<R→∃ N:Int,M i j-M i c*(M p j / M p c)=(N:Rat) / ((D*F:Int):Rat)∧N.natAbs<2^(2*K+1):=fun i hi=>by
    obtain ⟨B,b1,b2⟩:=h2 i j hi hj;obtain ⟨C,c1,c2⟩:=h2 i c hi cn;refine ⟨B*F-C*A,?_,?_⟩
    ·rw [a1,b1,c1,f1,Rat.intCast_sub,Rat.intCast_mul,Rat.intCast_mul,Rat.intCast_mul];grind
    ·have:=Zqf b2 f2;have:=Zqf c2 a2;omega
   by_cases hp:i=p
   ·rw [if_pos hp,if_pos hp];exact key top (by omega)
   ·rw [if_neg hp,if_neg hp];exact key i hi
noncomputable def ZCj (x:Rat):Option (Rat) :=
 bnd (ZBb x) fun a =>
 bnd (Z8a (!(decide (x.num<0))) x.num.natAbs a) fun b =>
 some b
noncomputable def ZHj (x:Rat) (y:Rat):Option (Rat) :=
 bnd (ZBb x) fun a =>
 bnd (ZBb y) fun b =>
 bnd (Zia x.num.natAbs b) fun c =>
 bnd (Zia y.num.natAbs a) fun d =>
 ifb ((decide (x.num<0))==(decide (y.num<0)))
 (bnd (Zeg c d) fun e =>
 bnd (Zia a b) fun f =>
 bnd (Z8a (decide (x.num<0)) e f) fun g =>
 some g)
 (bnd (Zed c d) fun h =>
 ifb (decide ((0:Int)≤h))
 (bnd (ZLb c d) fun i =>
 bnd (Zia a b) fun j =>
 bnd (Z8a (decide (x.num<0)) i j) fun k =>
 some k)
 (bnd (ZLb d c) fun l =>
 bnd (Zia a b) fun m =>
 bnd (Z8a (decide (y.num<0)) l m) fun n =>
 some n))
noncomputable def ZNn (x:Rat) (y:Rat):Option (Rat) :=
 bnd (ZZh y) fun a =>
 bnd (ZWc x a) fun b =>
 some b
noncomputable def ZVn (x:Rat) (y:Rat):Option (Rat) :=
 bnd (Zia x.num.natAbs y.num.natAbs) fun a =>
 bnd (ZBb x) fun b =>
 bnd (ZBb y) fun c =>
 bnd (Zia b c) fun d =>
 bnd (Z8a ((decide (x.num<0)) != (decide (y.num<0))) a d) fun e =>
 some e
noncomputable def Zwm (x:Rat) (y:Rat):Option (Rat×Int) :=
 bnd (Zod y) fun a =>
 ifb (a)
 (bnd (ZWb (0:Int)) fun b =>
 some ((b,(3:Int))))
 (bnd (ZBb y) fun c =>
 bnd (Zia x.num.natAbs c) fun d =>
 bnd (ZBb x) fun e =>
 bnd (Zia e y.num.natAbs) fun f =>
 bnd (Z8a ((decide (x.num<0)) != (decide (y.num<0))) d f) fun g =>
 some ((g,(0:Int))))
noncomputable def rby_m (x:Rat) (y:Rat):Option (Rat) :=
 bnd (Zli x y) fun a =>
 some a.1
noncomputable def ZEm (x:Rat):Option ((List UInt8)) :=
 bnd (Zkg x.num.natAbs) fun b =>
 bnd (ifb (decide (x.num<0))
 (bnd (Zod x) fun d =>
 some (!(d)))
 (some false))
 (fun (e:Bool) =>
 (bnd (ifb (e)
 (bnd (Zdb ((([45]:List UInt8))++b)) fun j =>
 some (((([45]:List UInt8))++b)))
 (some b))
 (fun (a:(List UInt8)) =>
 (bnd (ZBb x) fun f =>
 bnd (ZPb ([(1:Int)])) fun g =>
 bnd (Zed f g) fun h =>
 bnd (ifb (decide ((0:Int)<h))
 (bnd (Zdb (a++(([47]:List UInt8)))) fun k =>
 bnd (Zkg x.den) fun c =>
 bnd (Zdb (((a++(([47]:List UInt8))))++c)) fun l =>
 some ((((a++(([47]:List UInt8))))++c)))
 (some a))
 (fun (i:(List UInt8)) =>
 (some i))))))
theorem ZVc {n:Nat} (h:bl n≤1099511627776):Zea n:=Z9o (by omega)
theorem Zcb {n:Nat} (h:bl n≤1099511627776):ZP n:=by have:=ZVc h;unfold Zea at this;unfold ZP;omega
theorem rneg_eq {x:Rat} (h:okQ x):ZCj x=some (-x):=by
 obtain ⟨h1,h2⟩:=h;unfold ZCj ZBb Z8a;rw [Za,if_pos ⟨ZVc h1,ZVc h2,x.den_nz⟩,Za];congr 1;have e:sgn (!(decide (x.num<0))) x.num.natAbs = -x.num:=by
  unfold sgn;by_cases h:x.num<0
  ·simp [h];omega
  ·simp [h];omega
 rw [e];exact Rat.mkRat_self (-x)
theorem ZEs {x z:Rat} (h:ZZh x=some z):ZCj x=some z:=by
 unfold ZZh at h;split at h
 ·rename_i hh;rw [rneg_eq hh,h]
 ·cases h
theorem radd_eq {x y:Rat} (h:smQ x) (h':smQ y):ZHj x y=some (x+y):=by
 obtain ⟨a1,a2⟩:=h;obtain ⟨b1,b2⟩:=h';unfold ZHj ZBb;have p1:=ZQa x.num.natAbs y.den;have p2:=ZQa y.num.natAbs x.den;have p3:=ZQa x.den y.den;have p4:=ZVj (x.num.natAbs*y.den) (y.num.natAbs*x.den);have hd:x.den*y.den≠0:=Nat.mul_ne_zero x.den_nz y.den_nz;have e1:Zia x.num.natAbs y.den=some (x.num.natAbs*y.den):=by unfold Zia;rw [if_pos ⟨Zcb (by omega),Zcb (by omega)⟩]
 have e2:Zia y.num.natAbs x.den=some (y.num.natAbs*x.den):=by unfold Zia;rw [if_pos ⟨Zcb (by omega),Zcb (by omega)⟩]
 have e3:Zia x.den y.den=some (x.den*y.den):=by unfold Zia;rw [if_pos ⟨Zcb (by omega),Zcb (by omega)⟩]
 have eN:((x.num.natAbs*y.den:Nat):Int)=(x.num.natAbs:Int)*y.den:=by simp
 have eM:((y.num.natAbs*x.den:Nat):Int)=(y.num.natAbs:Int)*x.den:=by simp
 have key:∀ (s:Bool) (n:Nat),bl n≤1099511627776→sgn s n=x.num*y.den+y.num*x.den→Z8a s n (x.den*y.den)=some (x+y):=by
  intro s n hn he;unfold Z8a;rw [if_pos ⟨ZVc hn,ZVc (by omega),hd⟩,he,← Rat.add_def']
 rw [Za,Za,e1,Za,e2,Za,e3];obtain ⟨N,hN⟩:∃ N,N=x.num.natAbs*y.den:=⟨_,rfl⟩;obtain ⟨M,hM⟩:∃ M,M=y.num.natAbs*x.den:=⟨_,rfl⟩;rw [← hN] at p1 p4 eN ⊢;rw [← hM] at p2 p4 eM ⊢;have sx:x.num*(y.den:Int)=if x.num<0 then -(N:Int) else N:=by
  split
  ·rw [eN,← Int.neg_mul];congr 1;omega
  ·rw [eN];congr 1;omega
 have sy:y.num*(x.den:Int)=if y.num<0 then -(M:Int) else M:=by
  split
  ·rw [eM,← Int.neg_mul];congr 1;omega
  ·rw [eM];congr 1;omega
 by_cases hs:(x.num<0)↔(y.num<0)
 ·have e4:Zeg N M=some (N+M):=by unfold Zeg;rw [if_pos ⟨Zcb (by omega),Zcb (by omega)⟩]
  have e5:((decide (x.num<0))==(decide (y.num<0)))=true:=by
   by_cases h:x.num<0
   ·simp [h,hs.1 h]
   ·have h2:¬ y.num<0:=fun k=>h (hs.2 k);simp [h,h2]
  rw [e5,Zh,e4,Za,Za,key _ _ (by omega) ?_,Za];rw [sx,sy];unfold sgn;by_cases h:x.num<0
  ·have h2:=hs.1 h;simp [h,h2];omega
  ·have h2:¬ y.num<0:=fun k=>h (hs.2 k);simp [h,h2]
 ·have e5:((decide (x.num<0))==(decide (y.num<0)))=false:=by
   apply beq_false_of_ne;intro h;exact hs (by by_cases k:x.num<0 <;> by_cases k2:y.num<0 <;> simp_all)
  rw [e5,Zf];unfold Zed;rw [Za];by_cases hle:M≤N
  ·have e6:decide ((0:Int)≤Zba N M)=true:=by
    unfold Zba;rw [if_neg (by omega)];split <;> rfl
   have e4:ZLb N M=some (N-M):=by unfold ZLb;rw [if_pos ⟨Zcb (by omega),hle⟩]
   have hb:bl (N-M)≤bl N:=ZLc (by omega);rw [e6,Zh,e4,Za,Za,key _ _ (by omega) ?_,Za];rw [sx,sy];unfold sgn;by_cases h:x.num<0
   ·have h2:¬ y.num<0:=fun k=>hs ⟨fun _=>k,fun _=>h⟩;simp [h,h2];omega
   ·have h2:y.num<0:=by
     rcases Int.lt_or_le y.num 0 with k | k
     ·exact k
     ·exact absurd ⟨fun q=>absurd q h,fun q=>absurd q (by omega)⟩ hs
    simp [h,h2];omega
  ·have e6:decide ((0:Int)≤Zba N M)=false:=by
    unfold Zba;rw [if_pos (by omega)];rfl
   have e4:ZLb M N=some (M-N):=by unfold ZLb;rw [if_pos ⟨Zcb (by omega),by omega⟩]
   have hb:bl (M-N)≤bl M:=ZLc (by omega);rw [e6,Zf,e4,Za,Za,key _ _ (by omega) ?_,Za];rw [sx,sy];unfold sgn;by_cases h:x.num<0
   ·have h2:¬ y.num<0:=fun k=>hs ⟨fun _=>k,fun _=>h⟩;simp [h,h2];omega
   ·have h2:y.num<0:=by
     rcases Int.lt_or_le y.num 0 with k | k
     ·exact k
     ·exact absurd ⟨fun q=>absurd q h,fun q=>absurd q (by omega)⟩ hs
    simp [h,h2];omega
theorem Zpx {x y z:Rat} (h:ZWc x y=some z):ZHj x y=some z:=by
 unfold ZWc at h;split at h
 ·rename_i hh;rw [radd_eq hh.1 hh.2,h]
 ·cases h
theorem smQ_neg {x:Rat} (h:smQ x):smQ (-x):=by
 unfold smQ at *;have:=ZXk x;rw [this.1,this.2];exact h
theorem smQ_ok {x:Rat} (h:smQ x):okQ x:=by unfold smQ at h;unfold okQ;omega
theorem ZDw {x y z:Rat} (h:Zwe x y=some z):ZNn x y=some z:=by
 unfold Zwe at h;split at h
 ·rename_i hh;unfold ZNn ZZh ZWc;rw [if_pos (smQ_ok hh.2),Za,if_pos ⟨hh.1,smQ_neg hh.2⟩,Za,← Rat.sub_eq_add_neg];exact h
 ·cases h
theorem Zjx {x y z:Rat} (h:ZOb x y=some z):ZVn x y=some z:=by
 unfold ZOb at h;split at h
 ·rename_i hh;obtain ⟨⟨a1,a2⟩,b1,b2⟩:=hh
  cases h
  unfold ZVn ZBb;have p1:=ZQa x.num.natAbs y.num.natAbs;have p3:=ZQa x.den y.den;have e1:Zia x.num.natAbs y.num.natAbs=some (x.num.natAbs*y.num.natAbs):=by unfold Zia;rw [if_pos ⟨Zcb (by omega),Zcb (by omega)⟩]
  have e3:Zia x.den y.den=some (x.den*y.den):=by unfold Zia;rw [if_pos ⟨Zcb (by omega),Zcb (by omega)⟩]
  rw [e1,Za,Za,Za,e3,Za];unfold Z8a;rw [if_pos ⟨ZVc (by omega),ZVc (by omega),Nat.mul_ne_zero x.den_nz y.den_nz⟩,Za];have e:sgn ((decide (x.num<0)) != (decide (y.num<0))) (x.num.natAbs*y.num.natAbs)=x.num*y.num:=by
   have eN:((x.num.natAbs*y.num.natAbs:Nat):Int)=(x.num.natAbs:Int)*y.num.natAbs:=by simp
   unfold sgn;rw [eN];by_cases h:x.num<0
   ·have hx:(x.num.natAbs:Int) = -x.num:=by omega
    by_cases h2:y.num<0
    ·have hy:(y.num.natAbs:Int) = -y.num:=by omega
     simp [h,h2,hx,hy,Int.neg_mul,Int.mul_neg]
    ·have hy:(y.num.natAbs:Int)=y.num:=by omega
     simp [h,h2,hx,hy,Int.neg_mul,Int.mul_neg]
   ·have hx:(x.num.natAbs:Int)=x.num:=by omega
    by_cases h2:y.num<0
    ·have hy:(y.num.natAbs:Int) = -y.num:=by omega
     simp [h,h2,hx,hy,Int.neg_mul,Int.mul_neg]
    ·have hy:(y.num.natAbs:Int)=y.num:=by omega
     simp [h,h2,hx,hy,Int.neg_mul,Int.mul_neg]
  rw [e,← Rat.mul_def']
 ·cases h
theorem Zwx {x y:Rat} {z:Rat×Int} (h:Zli x y=some z):Zwm x y=some z:=by
 unfold Zli at h;split at h
 ·rename_i hh;obtain ⟨⟨a1,a2⟩,b1,b2⟩:=hh
  cases h
  unfold Zwm Zod;rw [Za];by_cases h0:y=0
  ·subst h0;rfl
  ·rw [decide_eq_false h0,Zf,if_neg h0];unfold ZBb;have hn:=Zgm h0;have p1:=ZQa x.num.natAbs y.den;have p3:=ZQa x.den y.num.natAbs;have e1:Zia x.num.natAbs y.den=some (x.num.natAbs*y.den):=by unfold Zia;rw [if_pos ⟨Zcb (by omega),Zcb (by omega)⟩]
   have e3:Zia x.den y.num.natAbs=some (x.den*y.num.natAbs):=by unfold Zia;rw [if_pos ⟨Zcb (by omega),Zcb (by omega)⟩]
   rw [Za,e1,Za,Za,e3,Za];unfold Z8a;rw [if_pos ⟨ZVc (by omega),ZVc (by omega),Nat.mul_ne_zero x.den_nz (by omega)⟩,Za];have e:sgn ((decide (x.num<0)) != (decide (y.num<0))) (x.num.natAbs*y.den)=if y.num<0 then -(x.num*(y.den:Int)) else x.num*(y.den:Int):=by
    have eN:((x.num.natAbs*y.den:Nat):Int)=(x.num.natAbs:Int)*y.den:=by simp
    unfold sgn;rw [eN];by_cases h:x.num<0
    ·have hx:(x.num.natAbs:Int) = -x.num:=by omega
     by_cases h2:y.num<0 <;> simp [h,h2,hx,Int.neg_mul]
    ·have hx:(x.num.natAbs:Int)=x.num:=by omega
     by_cases h2:y.num<0 <;> simp [h,h2,hx,Int.neg_mul]
   rw [e,← Ztn h0]
 ·cases h
theorem rbyF_eq {x y z:Rat} (h:ZWd x y=some z):rby_m x y=some z:=by
 unfold ZWd at h;split at h
 ·rename_i hh
  cases h
  unfold rby_m Zli;rw [if_pos hh,Za];split <;> rfl
 ·cases h
theorem Z3u {x:Rat} {z:List UInt8} (h:ZHi x=some z):ZEm x=some z:=by
 unfold ZHi at h;split at h
 ·rename_i hh;obtain ⟨h1,h2⟩:=hh
  cases h
  unfold ZEm Zkg;have l1:=Zhk (n:=x.num.natAbs) (by omega);have l2:=Zhk (n:=x.den) (by omega);rw [if_pos (ZVc h1),Za];have e0:ifb (decide (x.num<0)) (bnd (Zod x) fun y136=>some (!(y136))) (some false)=some (decide (x.num<0)):=by
   unfold Zod;by_cases h:x.num<0
   ·have:x≠0:=fun e=>by subst e;simp at h
    rw [decide_eq_true h,Zh,Za,decide_eq_false this];rfl
   ·rw [decide_eq_false h,Zf]
  rw [e0,Za];have e1:ifb (decide (x.num<0)) (bnd (Zdb ([45]++ZKa x.num.natAbs)) fun y80=>some (([45]:List UInt8)++ZKa x.num.natAbs)) (some (ZKa x.num.natAbs))=some ((if x.num<0 then [45] else [])++ZKa x.num.natAbs):=by
   by_cases h:x.num<0
   ·rw [decide_eq_true h,Zh,Zge (by simp;omega),Za,if_pos h]
   ·rw [decide_eq_false h,Zf,if_neg h];rfl
  rw [e1,Za];unfold txtQ ZBb Zed;have l3:((if x.num<0 then [45] else [])++ZKa x.num.natAbs:List UInt8).length≤4398046511105:=by
   rw [List.length_append];split <;> simp <;> omega
  generalize ((if x.num<0 then [45] else [])++ZKa x.num.natAbs:List UInt8)=s at *;rw [Za,ZOn,Za,Za,Znq];by_cases hd:x.den=1
  ·rw [hd];simp [ifb,bnd]
  ·have:=x.den_nz;rw [decide_eq_true (by omega),Zh,Zge (by simp;omega),Za,if_pos (ZVc h2),Za,Zge (by simp;omega),Za,Za,if_neg hd];simp
 ·cases h
noncomputable def ZTe (x:Rat) (y:Rat):Option (Bool) :=
 bnd (Z6d x) fun a =>
 bnd (ZHi y) fun b =>
 some (a==b)
set_option maxRecDepth 100000
theorem Zml {k m:Nat} {x y:Rat} (h:sz k x) (h':sz m y) (hk:k+m≤1000000000):ZWc x y=some (x+y):=by unfold ZWc;rw [if_pos ⟨h.sm (by omega),h'.sm (by omega)⟩]
theorem ZUn {k m:Nat} {x y:Rat} (h:sz k x) (h':sz m y) (hk:k+m≤1000000000):Zwe x y=some (x-y):=by unfold Zwe;rw [if_pos ⟨h.sm (by omega),h'.sm (by omega)⟩]
theorem Z1f {k m:Nat} {x y:Rat} (h:sz k x) (h':sz m y) (hk:k+m≤1000000000):ZOb x y=some (x*y):=by unfold ZOb;rw [if_pos ⟨h.sm (by omega),h'.sm (by omega)⟩]
theorem Z0p {k m:Nat} {x y:Rat} (h:sz k x) (h':sz m y) (hk:k+m≤1000000000) (hy:y≠0):ZWd x y=some (x / y):=by unfold ZWd;rw [if_pos ⟨h.sm (by omega),h'.sm (by omega)⟩,if_neg hy]
theorem Zxq {k:Nat} {x:Rat} (h:sz k x) (hk:k≤1000000000):ZTe x x=some true:=by
 unfold ZTe Z6d ZHi;rw [if_pos (h.ok (by omega)),Za,Za];simp
theorem ZJq:sz 1 (1:Rat):=by constructor <;> decide
def cf (c:Nat→Int):Nat→Nat→Int
 | _,0=>0
 | i,m+1=>if c i≠0 then c i else cf c (i+1) m
end Go.Eng
namespace Go.Eng
open Go.RowKit
variable {P:Program} {K:Nat} {w0:Base} {v0:Zb} {σ:List (Nat×Value)} {ℓ:List Loc} {v:Zb} {a:Act} {w:World}
end Go.Eng

namespace Go.Eng
noncomputable def ZAk (x:Rat) (y:Rat):Option Rat :=
 some y
noncomputable def Z3e (n:Int):Option Rat :=
 bnd (ZCc n) fun a =>
 bnd (ZAk (0:Rat) a) fun b =>
 some b
noncomputable def Z4g (m:List (List Rat)):Option ((List (List Rat))×(List Int)×Rat) :=
 bnd (mk 24 (m.length:Int) (m.length:Int)) fun _ =>
 bnd (Zp (σ:=Int×(List (List Rat))) (ρ:=List (List Rat)) (fun e =>
 ifb (decide (e.1<(m.length:Int)))
 (bnd (idx m e.1) fun r =>
 bnd (Zkf 56 r) fun s =>
 bnd (idx e.2 e.1) fun y4 =>
 bnd (chk .i64 (e.1+(1:Int))) fun t =>
 some (.inl (t,e.2.set e.1.toNat s)))
 (some (.inr e.2)))
  Zu ((0:Int),List.replicate (m.length:Int).toNat ([]:List Rat))) fun i =>
 bnd (Z3e (1:Int)) fun u =>
 bnd (α:=Int)
 (ifb ((i.length:Int)==(0:Int))
 (some (0:Int))
 (bnd (idx i (0:Int)) fun v =>
 some (v.length:Int))) fun w =>
 bnd (Zp (σ:=(List Int)×Int×(List (List Rat))×Rat) (ρ:=(List Int)×(List (List Rat))×Rat) (fun a =>
 ifb (decide (a.2.1<w))
 (bnd (α:=(List Int)×(List (List Rat))×Rat)
 (bnd (Zp (σ:=Int) (ρ:=Int) (fun g =>
 bnd (α:=Bool)
 (ifb (decide (g<(a.2.2.1.length:Int)))
 (bnd (idx a.2.2.1 g) fun x =>
 bnd (idx x a.2.1) fun y =>
 bnd (Zbd y) fun z =>
 some z)
 (some false)) fun A =>
 ifb A
 (bnd (chk .i64 (g+(1:Int))) fun B =>
 some (.inl B))
 (some (.inr g)))
      Zu (a.1.length:Int)) fun f =>
 ifb (f==(a.2.2.1.length:Int))
 (bnd (Z3e (0:Int)) fun C =>
 some (a.1,a.2.2.1,C))
 (bnd (α:=(List (List Rat))×Rat)
 (ifb (f != (a.1.length:Int))
 (bnd (idx a.2.2.1 (a.1.length:Int)) fun ab =>
 bnd (idx a.2.2.1 f) fun ac =>
 bnd (idx a.2.2.1 f) fun ad =>
 bnd (idx a.2.2.1 (a.1.length:Int)) fun ae =>
 bnd (eqN ((a.1.length:Int).toNat) ((a.1.length:Int).toNat)) fun _ =>
 bnd (eqN f.toNat f.toNat) fun _ =>
 bnd (ZQf a.2.2.2) fun D =>
 some (Zic a.2.2.1 f.toNat ((a.1.length:Int).toNat),D))
 (some (a.2.2.1,a.2.2.2))) fun h =>
 bnd (idx h.1 (a.1.length:Int)) fun E =>
 bnd (idx E a.2.1) fun l =>
 bnd (ZXa h.2 l) fun F =>
 bnd (idx h.1 (a.1.length:Int)) fun G =>
 bnd (Zp (σ:=Int×(List (List Rat))) (ρ:=List (List Rat)) (fun d =>
 ifb (decide (d.1<(G.length:Int)))
 (bnd (idx d.2 (a.1.length:Int)) fun n =>
 bnd (idx d.2 (a.1.length:Int)) fun H =>
 bnd (idx H d.1) fun I =>
 bnd (Z2c I l) fun J =>
 bnd (idx n d.1) fun af =>
 bnd (chk .i64 (d.1+(1:Int))) fun K =>
 some (.inl (K,d.2.set ((a.1.length:Int).toNat) (n.set d.1.toNat J.1))))
 (some (.inr d.2)))
       Zu ((0:Int),h.1)) fun o =>
 bnd (Zp (σ:=Int×(List (List Rat))) (ρ:=List (List Rat)) (fun b =>
 ifb (decide (b.1<(o.length:Int)))
 (bnd (α:=List (List Rat))
 (bnd (idx b.2 b.1) fun L =>
 bnd (idx L a.2.1) fun p =>
 bnd (α:=Bool)
 (ifb (b.1==(a.1.length:Int))
 (some true)
 (bnd (Zbd p) fun M =>
 some M)) fun N =>
 ifb N
 (some b.2)
 (bnd (idx b.2 b.1) fun O =>
 bnd (Zp (σ:=Int×(List (List Rat))) (ρ:=List (List Rat)) (fun c =>
 ifb (decide (c.1<(O.length:Int)))
 (bnd (idx c.2 b.1) fun q =>
 bnd (idx c.2 b.1) fun P =>
 bnd (idx P c.1) fun Q =>
 bnd (idx c.2 (a.1.length:Int)) fun R =>
 bnd (idx R c.1) fun S =>
 bnd (ZXa p S) fun T =>
 bnd (ZSb Q T) fun U =>
 bnd (idx q c.1) fun ag =>
 bnd (chk .i64 (c.1+(1:Int))) fun V =>
 some (.inl (V,c.2.set b.1.toNat (q.set c.1.toNat U))))
 (some (.inr c.2)))
            Zu ((0:Int),b.2)) fun W =>
 some W)) fun X =>
 bnd (chk .i64 (b.1+(1:Int))) fun Y =>
 some (.inl (Y,X)))
 (some (.inr b.2)))
       Zu ((0:Int),o)) fun Z =>
 bnd (ZO 8 (a.1++[a.2.1])) fun _ =>
 some (a.1++[a.2.1],Z,F))) fun j =>
 bnd (chk .i64 (a.2.1+(1:Int))) fun aa =>
 some (.inl (j.1,aa,j.2.1,j.2.2)))
 (some (.inr (a.1,a.2.2.1,a.2.2.2))))
  Zu (([]:List Int),(0:Int),i,u)) fun k =>
 some (k.2.1,k.1,k.2.2)
noncomputable def Zmd (m:List (List Rat)):Option Int :=
 ifb ((m.length:Int)==(0:Int))
 (some (0:Int))
 (bnd (idx m (0:Int)) fun a =>
 some (a.length:Int))
noncomputable def ZZe (m:List (List Rat)):Option Bool :=
 bnd (Zmd m) fun b =>
 bnd (α:=Bool)
 (ifb (decide ((m.length:Int)≤(32:Int)))
 (ifb (decide (b≤(32:Int)))
 (bnd (α:=Int)
 (bnd (Zp (σ:=Int) (ρ:=Unit ⊕ Int) (fun a =>
 ifb (decide (a<(m.length:Int)))
 (bnd (idx m a) fun c =>
 ifb ((c.length:Int) != b)
 (some (.inr (.inr a)))
 (bnd (chk .i64 (a+(1:Int))) fun d =>
 some (.inl d)))
 (some (.inr (.inl ()))))
      Zu (0:Int)) fun e =>
     match e with
 | .inl i=>(some (-1:Int))
 | .inr f=>(some f)) fun g =>
 some (!(decide ((0:Int)≤g))))
 (some false))
 (some false)) fun h =>
 some h
theorem Zwk (n:Int):Z3e n=some (n:Rat):=by
 unfold Z3e ZAk;rfl
theorem Zoh {b n:Nat} (h:b*n≤281474976710656) (h2:n≤1000000000):mk b (n:Int) (n:Int)=some ():=by
 unfold mk;rw [if_pos ⟨by omega,by omega,by omega,by omega⟩]
theorem ZFi (i:Nat):eqN i i=some ():=by unfold eqN;rw [if_pos rfl]
theorem Zlx {α:Type} {b:Nat} {l:List α} (h:l.length*b≤140737488355328):Zkf b l=some l:=by
 unfold Zkf;rw [Zhb h,Za]
def Zkd (l:List Nat):List Int:=l.map fun (c:Nat)=>(c:Int)
theorem Zsh (l:List Nat):(Zkd l).length=l.length:=by simp [Zkd]
theorem ZPp {R n:Nat} (M:Mx) (hR:R≤1000) (hn:n≤1000):Zp (σ:=Int×(List (List Rat))) (ρ:=List (List Rat)) (fun s1 =>
   ifb (decide (s1.1<((mx R n M).length:Int)))
   (bnd (idx (mx R n M) s1.1) fun y2 =>
    bnd (Zkf 56 y2) fun y3 =>
    bnd (idx s1.2 s1.1) fun y4 =>
    bnd (chk .i64 (s1.1+(1:Int))) fun y5 =>
    some (.inl (y5,s1.2.set s1.1.toNat y3)))
   (some (.inr s1.2)))
  Zu ((0:Int),List.replicate ((mx R n M).length:Int).toNat ([]:List Rat))=some (mx R n M):=by
  refine Zjb (fun k=>((k:Int),vx R fun i=>if i<k then vx n (M i) else [])) R ?_ (by omega) (fun k hk=>?_) ?_
  · rw [ZDa];simp only [Int.toNat_natCast,Zxi];refine Prod.ext rfl (ZBa fun i hi=>?_);rw [if_neg (by omega)]
  · simp only [ZDa];rw [decide_eq_true (by omega),Zh,Zqb _ hk,Za,Zlx (by rw [Z7];omega),Za,ZCa _ hk,Za,ZB (by omega) (by omega),Za];simp only [Int.toNat_natCast];rw [Z1c];refine congrArg (fun x=>some (Sum.inl x)) (Prod.ext (by simp) (ZBa fun i hi=>?_));by_cases e:i=k
    · rw [if_pos e,if_pos (by omega),e]
    · rw [if_neg e];by_cases e2:i<k
      · rw [if_pos e2,if_pos (by omega)]
      · rw [if_neg e2,if_neg (by omega)]
  · simp only [ZDa];rw [decide_eq_false (by omega),Zf];exact congrArg (fun x=>some (Sum.inr x)) (ZBa fun i hi=>if_pos hi)
theorem Z2f {R n:Nat} (M:Mx) (h:R=0→n=0):Zmd (mx R n M)=some (n:Int):=by
 unfold Zmd;rw [ZDa];by_cases h0:R=0
 ·rw [show ((R:Int)==0)=true by simp [h0],Zh,h h0];rfl
 ·rw [show ((R:Int)==0)=false by simp [h0],Zf];refine Zra (Zqb (i:=0) M (by omega)) ?_;rw [Z7]
theorem ZUj {R n:Nat} (M:Mx) (h:R=0→n=0) (hR:R≤32) (hn:n≤32):ZZe (mx R n M)=some true:=by
 unfold ZZe;rw [Z2f M h,Za,ZDa,decide_eq_true (by omega),Zh,decide_eq_true (by omega),Zh];refine Zra (y:=true) ?_ rfl;refine Zra (y:=(-1:Int)) ?_ rfl;refine Zra (y:=Sum.inl ()) ?_ rfl;refine Zjb (fun k=>(k:Int)) R rfl (by omega) (fun k hk=>?_) ?_
 ·rw [decide_eq_true (by omega),Zh,Zqb _ hk,Za,Z7,show ((n:Int) != (n:Int))=false by simp,Zf,ZB (by omega) (by omega),Za];rfl
 ·rw [decide_eq_false (by omega),Zf]
def kk (K k:Nat):Nat:=2^k*(K+1)-1
theorem Zki {K k:Nat}:kk K (k+1)=2*kk K k+1:=by
 unfold kk;have:=Nat.mul_pos (Nat.two_pow_pos k) (show 0<K+1 by omega);rw [Nat.pow_succ,Nat.mul_comm (2^k) 2,Nat.mul_assoc];omega
theorem kk_le {K k n:Nat} (h:k≤n):kk K k≤kk K n:=by
 unfold kk;have:=Nat.mul_le_mul_right (K+1) (Nat.pow_le_pow_right (show 0<2 by omega) h);omega
theorem Z1g:sz 1 (0:Rat):=⟨by decide,by decide⟩
def swM (M:Mx) (top p:Nat):Mx:=fun k=>if k=top then M p else if k=p then M top else M k
def Znd (M:Mx) (c top p j:Nat):Mx:=fun i l=>if i=top∧l<j then M p l / M p c else swM M top p i l
def Zeb (M:Mx) (c top p n i j:Nat):Mx:=fun r l=>if r<i∨(r=i∧l<j) then Z7b M c top p r l else Znd M c top p n r l
theorem bnd_two {α β:Type} {P:β→Prop} (Q:α→Prop) {x:Option α} {f:α→Option β} (h:∃ y,x=some y∧Q y) (h2:∀ y,Q y→∃ z,f y=some z∧P z):∃ z,bnd x f=some z∧P z:=by
 obtain ⟨y,h,q⟩:=h;exact ZZb h (h2 y q)
set_option maxRecDepth 100000 in
theorem Zzq {R n K:Nat} {M0:Mx} (h0:R=0→n=0) (hR:R≤1000) (hn:n≤1000) (hK:1≤K) (hz:CD K R n M0) (hk:kk K n≤274877906944) :
  ∃ z,Z4g (mx R n M0)=some z∧∃ M piv d,z=(mx R n M,Zkd piv,d)∧Eli R n M0 M piv n∧CD (kk K n) R n M:=by
 unfold Z4g;refine ZZb (y:=()) (by rw [ZDa];exact Zoh (by omega) (by omega)) ?_;refine ZZb (ZPp M0 hR hn) ?_;refine ZZb (Zwk 1) ?_;refine ZZb (y:=(n:Int)) (Z2f M0 h0) ?_;refine Ztr (fun k s=>∃ M piv d,s=(Zkd piv,(k:Int),mx R n M,d)∧Eli R n M0 M piv k∧CD (kk K k) R n M∧sz (kk K k) d) (fun r=>∃ M piv d,r=(Zkd piv,mx R n M,d)∧Eli R n M0 M piv n∧CD (kk K n) R n M) n ⟨M0,[],((1:Int):Rat),rfl,Eli.start R n M0,by unfold kk;simpa using hz,(ZJq.mono (by unfold kk;simpa using hK):sz _ (1:Rat))⟩ (by omega) (fun k s hkn hi=>?_) (fun r hr=>?_)
 ·obtain ⟨M,piv,d,rfl,hI,hC,hd⟩:=hi;by_cases hlt:k<n
  ·left;have hkk:=kk_le (K:=K) (k:=k) (n:=n) hkn;have hk1:=kk_le (K:=K) (k:=k+1) (n:=n) hlt;rw [Zki] at hk1;simp only;rw [decide_eq_true (by omega),Zh];have pl:=hI.le
   suffices hx:∃ z,(bnd (α:=(List Int)×(List (List Rat))×Rat) _ _:Option (((List Int)×Int×(List (List Rat))×Rat) ⊕ ((List Int)×(List (List Rat))×Rat)))=some z∧∃ M' piv' d',z=Sum.inl (Zkd piv',((k+1:Nat):Int),mx R n M',d')∧Eli R n M0 M' piv' (k+1)∧CD (kk K (k+1)) R n M'∧sz (kk K (k+1)) d' by
    obtain ⟨z,h1,M',piv',d',rfl,h2⟩:=hx;exact ⟨_,hlt,h1,M',piv',d',rfl,h2⟩
   refine bnd_two (Q:=fun y=>∃ M' piv' d',y=(Zkd piv',mx R n M',d')∧Eli R n M0 M' piv' (k+1)∧CD (kk K (k+1)) R n M'∧sz (kk K (k+1)) d') ?_ (fun y hy=>?_)
   rotate_left
   ·obtain ⟨M',piv',d',rfl,h2⟩:=hy;exact ⟨Sum.inl (Zkd piv',((k+1:Nat):Int),mx R n M',d'),by rw [ZB (by omega) (by omega),Za];rfl,M',piv',d',rfl,h2⟩
   refine Ztr (fun q s=>s=((piv.length+q:Nat):Int)∧∀ i,piv.length≤i→i<piv.length+q→M i k=0) (fun r=>∃ p:Nat,r=(p:Int)∧piv.length≤p∧p≤R∧(∀ i,piv.length≤i→i<p→M i k=0)∧(p<R→M p k≠0)) (R-piv.length) ⟨by rw [Zsh];rfl,fun i h1 h2=>by omega⟩ (by omega) (fun q s hq hs=>?_) (fun r hr=>?_)
   ·obtain ⟨rfl,hz0⟩:=hs;rw [ZDa];by_cases hqR:piv.length+q<R
    ·rw [decide_eq_true (by omega),Zh,Zqb _ hqR,Za,ZCa _ hlt,Za];unfold Zbd;by_cases hz1:M (piv.length+q) k=0
     ·left;refine ⟨((piv.length+(q+1):Nat):Int),by omega,?_,rfl,fun i h1 h2=>?_⟩
      ·rw [decide_eq_true hz1,Za,Za,Zh,ZB (by omega) (by omega),Za];rfl
      ·by_cases e:i=piv.length+q
       ·rw [e];exact hz1
       ·exact hz0 i h1 (by omega)
     ·right;refine ⟨((piv.length+q:Nat):Int),by rw [decide_eq_false hz1,Za,Za,Zf],piv.length+q,rfl,by omega,by omega,hz0,fun _=>hz1⟩
    ·right;refine ⟨((piv.length+q:Nat):Int),by rw [decide_eq_false (by omega),Zf,Za,Zf],piv.length+q,rfl,by omega,by omega,hz0,fun h=>by omega⟩
   ·obtain ⟨p,rfl,h1,h2,h3,h4⟩:=hr;rw [ZDa];by_cases hpR:p=R
    ·rw [show ((p:Int)==(R:Int))=true by simp [hpR],Zh,Zwk,Za];refine ⟨_,rfl,M,piv,_,rfl,hI.skip fun i g1 g2=>h3 i g1 (by omega),hC.mono (by rw [Zki];omega),Z1g.mono (by rw [Zki];omega)⟩
    ·rw [show ((p:Int)==(R:Int))=false by simp;omega,Zf];have pR:p<R:=by omega
     have nz:=h4 pR;have tR:piv.length<R:=by omega
     have Cs:=hC.step h1 pR hlt nz;rw [Zsh];refine ZZb (y:=(mx R n (swM M piv.length p),if p=piv.length then d else -d)) ?_ ?_
     ·by_cases e:p=piv.length
      ·rw [show ((p:Int) != (piv.length:Int))=false by simp [e],Zf,if_pos e];refine congrArg some (Prod.ext (Z8d fun i hi j hj=>?_) rfl);unfold swM;by_cases e2:i=piv.length
       ·rw [if_pos e2,e2,e]
       ·rw [if_neg e2,if_neg (fun h=>e2 (h.trans e))]
      ·rw [show ((p:Int) != (piv.length:Int))=true by simp;omega,Zh,Zqb _ tR,Za,Zqb _ pR,Za,Za,Za,if_neg e];simp only [Int.toNat_natCast];rw [ZFi,Za,ZFi,Za];unfold ZQf;rw [Za,mx_swap _ pR tR];rfl
     have hrow:swM M piv.length p piv.length=M p:=by unfold swM;rw [if_pos rfl]
     have hd1:sz (kk K k) (if p=piv.length then d else -d):=by split;exact hd;exact sz_neg hd
     have zf:sz (kk K k) (M p k):=hC.sz pR hlt;simp only;refine ZZb (Zqb _ tR) ?_;rw [hrow];refine ZZb (ZCa _ hlt) ?_;refine ZZb (Zsi hd1 zf (by omega) (by omega)) ?_;refine ZZb (Zqb _ tR) ?_;rw [hrow,Z7];refine ZZb (y:=mx R n (Znd M k piv.length p n)) (Zjb (fun j=>((j:Int),mx R n (Znd M k piv.length p j))) n ?_ (by omega) (fun j hj=>?_) ?_) ?_
     ·refine Prod.ext rfl (Z8d fun i hi j hj=>?_);unfold Znd;rw [if_neg (by omega)]
     ·have hr:Znd M k piv.length p j piv.length j=M p j:=by unfold Znd swM;rw [if_neg (by omega),if_pos rfl]
      simp only;rw [decide_eq_true (by omega),Zh,Zqb _ tR,Za,Za,ZCa _ hj,Za,hr,qdivB (hC.sz pR hj) zf (by omega) (by omega) nz,Za,Za,ZB (by omega) (by omega),Za];simp only [Int.toNat_natCast];rw [Z1c,Zuo];refine congrArg (fun x=>some (Sum.inl x)) (Prod.ext (by simp) (Z8d fun i hi l hl=>?_));unfold Znd;by_cases e:i=piv.length
      ·rw [if_pos e];by_cases e2:l=j
       ·rw [if_pos e2,if_pos (by omega),e2]
       ·rw [if_neg e2,e];by_cases e3:l<j
        ·rw [if_pos (by omega),if_pos (by omega)]
        ·rw [if_neg (by omega),if_neg (by omega)]
      ·rw [if_neg e,if_neg (by omega),if_neg (by omega)]
     ·simp only;rw [decide_eq_false (by omega),Zf]
     rw [ZDa];refine ZZb (y:=mx R n (Z7b M k piv.length p)) (Zjb (fun i=>((i:Int),mx R n (Zeb M k piv.length p n i 0))) R ?_ (by omega) (fun i hi=>?_) ?_) ?_
     ·refine Prod.ext rfl (Z8d fun i hi j hj=>?_);unfold Zeb;rw [if_neg (by omega)]
     ·simp only;have rd:∀ r l,r≠piv.length→Znd M k piv.length p n r l=if r=p then M piv.length l else M r l:=fun r l hr=>by
       unfold Znd swM;rw [if_neg (by omega),if_neg hr];split <;> rfl
      have top0:∀ i j l,l<n→Zeb M k piv.length p n i j piv.length l=M p l / M p k:=fun i j l hl=>by
       unfold Zeb Z7b Znd;split
       ·rw [if_pos rfl]
       ·rw [if_pos ⟨rfl,hl⟩]
      have self0:∀ l,Zeb M k piv.length p n i 0 i l=Znd M k piv.length p n i l:=fun l=>by unfold Zeb;rw [if_neg (by omega)]
      rw [decide_eq_true (by omega),Zh];refine Zra (y:=mx R n (Zeb M k piv.length p n (i+1) 0)) ?_ ?_
      ·rw [Zqb _ hi,Za,ZCa _ hlt,Za];by_cases e:i=piv.length
       ·rw [show ((i:Int)==(piv.length:Int))=true by simp [e],Zh,Za,Zh];refine congrArg some (Z8d fun r hr l hl=>?_);by_cases e2:r=piv.length
        ·rw [e2,top0 _ _ _ hl,top0 _ _ _ hl]
        ·unfold Zeb;by_cases e3:r<i
         ·rw [if_pos (.inl e3),if_pos (.inl (by omega))]
         ·rw [if_neg (by omega),if_neg (by omega)]
       ·rw [show ((i:Int)==(piv.length:Int))=false by simp;omega,Zf];unfold Zbd;rw [Za,Za,self0,rd _ _ e];by_cases hz1:(if i=p then M piv.length k else M i k)=0
        ·rw [decide_eq_true hz1,Zh];refine congrArg some (Z8d fun r hr l hl=>?_);unfold Zeb;by_cases e3:r<i
         ·rw [if_pos (.inl e3),if_pos (.inl (by omega))]
         ·rw [if_neg (by omega)];by_cases e4:r=i
          ·subst e4;rw [if_pos (.inl (by omega)),rd _ _ e];unfold Z7b;rw [if_neg e,hz1];grind
          ·rw [if_neg (by omega)]
        ·rw [decide_eq_false hz1,Zf,Za,Z7];have zc:sz (kk K k) (if i=p then M piv.length k else M i k):=by split;exact hC.sz tR hlt;exact hC.sz hi hlt
         refine Zra (Zjb (fun j=>((j:Int),mx R n (Zeb M k piv.length p n i j))) n rfl (by omega) (fun j hj=>?_) ?_) rfl
         ·have zt:sz (2*kk K k+1) (M p j / M p k):=by
           have:=Cs.sz tR hj;unfold Z7b at this;rwa [if_pos rfl] at this
          have zi:sz (kk K k) (if i=p then M piv.length j else M i j):=by split;exact hC.sz tR hj;exact hC.sz hi hj
          have e5:Zeb M k piv.length p n i j i j=if i=p then M piv.length j else M i j:=by unfold Zeb;rw [if_neg (by omega),rd _ _ e]
          simp only;rw [decide_eq_true (by omega),Zh,Zqb _ hi,Za,Za,ZCa _ hj,Za,Zqb _ tR,Za,ZCa _ hj,Za,top0 _ _ _ hj,Zsi zc zt (by omega) (by omega),Za,e5,qsubB zi (Zoa zc zt) (by omega) (by omega),Za,Za,ZB (by omega) (by omega),Za];simp only [Int.toNat_natCast];rw [Z1c,Zuo];refine congrArg (fun x=>some (Sum.inl x)) (Prod.ext (by simp) (Z8d fun r hr l hl=>?_));by_cases e6:r=i
          ·subst e6;rw [if_pos rfl];by_cases e7:l=j
           ·subst e7;rw [if_pos rfl];have e9:Zeb M k piv.length p n r (l+1) r l=Z7b M k piv.length p r l:=by unfold Zeb;rw [if_pos (.inr ⟨rfl,by omega⟩)]
            rw [e9];unfold Z7b;rw [if_neg e]
           ·rw [if_neg e7];unfold Zeb;by_cases e8:l<j
            ·rw [if_pos (.inr ⟨rfl,e8⟩),if_pos (.inr ⟨rfl,by omega⟩)]
            ·rw [if_neg (by omega),if_neg (by omega)]
          ·rw [if_neg e6];unfold Zeb;by_cases e8:r<i
           ·rw [if_pos (.inl e8),if_pos (.inl e8)]
           ·rw [if_neg (by omega),if_neg (by omega)]
         ·simp only;rw [decide_eq_false (by omega),Zf];refine congrArg (fun x=>some (Sum.inr x)) (Z8d fun r hr l hl=>?_);unfold Zeb;by_cases e8:r<i+1
          ·rw [if_pos (by omega),if_pos (by omega)]
          ·rw [if_neg (by omega),if_neg (by omega)]
      ·rw [ZB (by omega) (by omega),Za];rfl
     ·simp only;rw [decide_eq_false (by omega),Zf];refine congrArg (fun x=>some (Sum.inr x)) (Z8d fun i hi j hj=>?_);unfold Zeb;rw [if_pos (by omega)]
     refine ZZb (y:=()) (Zhb (by simp [Zsh];omega)) ?_;refine ⟨_,rfl,Z7b M k piv.length p,piv++[k],_,?_,hI.step (stepM_R h1 pR hlt nz),Cs.mono (by rw [Zki];omega),(Zoa hd1 zf).mono (by rw [Zki];omega)⟩;simp [Zkd]
  ·right;obtain rfl:k=n:=by omega
   refine ⟨_,by simp only;rw [decide_eq_false (by omega),Zf],M,piv,d,rfl,hI,hC⟩
 ·obtain ⟨M,piv,d,rfl,hI,hC⟩:=hr;exact ⟨_,rfl,M,piv,d,rfl,hI,hC⟩
noncomputable def ZPh (m:List (List Rat)) (b:List (List Rat)):Option (List (List Rat)) :=
 bnd (mk 24 (m.length:Int) (m.length:Int)) fun _ =>
 bnd (Zp (σ:=Int×(List (List Rat))) (ρ:=List (List Rat)) (fun c =>
 ifb (decide (c.1<(m.length:Int)))
 (bnd (idx m c.1) fun g =>
 bnd (Zkf 56 g) fun h =>
 bnd (idx c.2 c.1) fun l =>
 bnd (chk .i64 (c.1+(1:Int))) fun i =>
 some (.inl (i,c.2.set c.1.toNat h)))
 (some (.inr c.2)))
  Zu ((0:Int),List.replicate (m.length:Int).toNat ([]:List Rat))) fun d =>
 bnd (Zp (σ:=Int×(List (List Rat))) (ρ:=List (List Rat)) (fun a =>
 ifb (decide (a.1<(d.length:Int)))
 (bnd (idx a.2 a.1) fun e =>
 bnd (idx b a.1) fun f =>
 bnd (ZO 56 (e++f)) fun _ =>
 bnd (idx a.2 a.1) fun n =>
 bnd (eqN a.1.toNat a.1.toNat) fun _ =>
 bnd (chk .i64 (a.1+(1:Int))) fun j =>
 some (.inl (j,a.2.set a.1.toNat (e++f))))
 (some (.inr a.2)))
  Zu ((0:Int),d)) fun k =>
 some k
noncomputable def ZGi (b:List Rat):Option (List (List Rat)) :=
 bnd (mk 24 (b.length:Int) (b.length:Int)) fun _ =>
 bnd (Zp (σ:=Int×(List (List Rat))) (ρ:=List (List Rat)) (fun a =>
 ifb (decide (a.1<(b.length:Int)))
 (bnd (idx b a.1) fun c =>
 bnd (idx a.2 a.1) fun f =>
 bnd (chk .i64 (a.1+(1:Int))) fun d =>
 some (.inl (d,a.2.set a.1.toNat [c])))
 (some (.inr a.2)))
  Zu ((0:Int),List.replicate (b.length:Int).toNat ([]:List Rat))) fun e =>
 some e
noncomputable def ZIi (m:List (List Rat)) (b:List Rat):Option ((List Rat)×Int) :=
 bnd (α:=Bool)
 (bnd (ZZe m) fun f =>
 ifb (!f)
 (some true)
 (some ((b.length:Int) != (m.length:Int)))) fun g =>
 ifb g
 (some (([]:List Rat),(4:Int)))
 (bnd (Zmd m) fun d =>
 bnd (ZGi b) fun h =>
 bnd (ZPh m h) fun i =>
 bnd (Z4g i) fun c =>
 bnd (α:=Bool)
 (ifb (decide ((0:Int)<(c.2.1.length:Int)))
 (bnd (chk .i64 ((c.2.1.length:Int)-(1:Int))) fun j =>
 bnd (idx c.2.1 j) fun k =>
 some (k==d))
 (some false)) fun l =>
 ifb l
 (some (([]:List Rat),(5:Int)))
 (bnd (Z3e (0:Int)) fun n =>
 bnd (repF 56 [n] d) fun o =>
 bnd (Zp (σ:=Int×(List Rat)) (ρ:=List Rat) (fun a =>
 ifb (decide (a.1<(c.2.1.length:Int)))
 (bnd (idx c.2.1 a.1) fun e =>
 bnd (idx c.1 a.1) fun p =>
 bnd (idx p d) fun q =>
 bnd (idx a.2 e) fun t =>
 bnd (chk .i64 (a.1+(1:Int))) fun r =>
 some (.inl (r,a.2.set e.toNat q)))
 (some (.inr a.2)))
    Zu ((0:Int),o)) fun s =>
 some (s,(0:Int))))
noncomputable def Zkl (m:List (List Rat)):Option ((List (List Rat))×(List Int)×Int) :=
 bnd (ZZe m) fun b =>
 ifb (!b)
 (some (([]:List (List Rat)),([]:List Int),(4:Int)))
 (bnd (Z4g m) fun a =>
 some (a.1,a.2.1,(0:Int)))
noncomputable def ZXg (m:List (List Rat)):Option (Int×Int) :=
 bnd (Zkl m) fun a =>
 some ((a.2.1.length:Int),a.2.2)
noncomputable def Z9h (m:List (List Rat)):Option Bool :=
 bnd (α:=Bool)
 (bnd (ZZe m) fun a =>
 ifb a
 (bnd (Zmd m) fun b =>
 some (b==(m.length:Int)))
 (some false)) fun c =>
 some c
noncomputable def ZCg (m:List (List Rat)) (b:List Rat):Option ((List Rat)×Int) :=
 bnd (α:=Bool)
 (bnd (Z9h m) fun c =>
 ifb (!c)
 (some true)
 (some ((b.length:Int) != (m.length:Int)))) fun d =>
 ifb d
 (some (([]:List Rat),(4:Int)))
 (bnd (ZXg m) fun e =>
 ifb (decide (e.1<(m.length:Int)))
 (some (([]:List Rat),(6:Int)))
 (bnd (ZIi m b) fun a =>
 some (a.1,a.2)))
theorem ZAe {k n:Nat} {f:Nat→Rat} (h:∀ j,j<n→sz k (f j)):sz (n*(k+1)+1) (sm n f):=by
 induction n with
 | zero=>exact Z1g.mono (by omega)
 | succ n ih =>
  have:=ZYf (ih fun j hj=>h j (by omega)) (h n (by omega));exact this.mono (by rw [Nat.succ_mul];omega)
theorem sz_lt {k:Nat} {x:Rat} (h:sz k x):x.num.natAbs<2^k∧x.den<2^k:=by
 have h1:=ZPd x.num.natAbs;have h2:=ZPd x.den;have h3:=Nat.pow_le_pow_right (show 0<2 by omega) h.1;have h4:=Nat.pow_le_pow_right (show 0<2 by omega) h.2;omega
theorem Zdp {k:Nat}:∀ l:List Rat,(∀ x,x ∈ l→sz k x)→∃ D:Int,D≠0∧D.natAbs<2^(k*l.length+1)∧∀ x,x ∈ l→∃ N:Int,x=(N:Rat) / (D:Rat)∧N.natAbs<2^(k*l.length+1)
 | [],_=>⟨1,by omega,by simp,fun x hx=>by simp at hx⟩
 | y :: l,h=>by
  obtain ⟨D,d0,d1,d2⟩:=Zdp l fun x hx=>h x (by simp [hx])
  obtain ⟨y1,y2⟩:=sz_lt (h y (by simp))
  have e:2^(k*(y :: l).length+1)=2^(k*l.length+1)*2^k:=by rw [← Nat.pow_add,List.length_cons,Nat.mul_succ];congr 1;omega
  have hD':(D:Rat)≠0:=fun e=>d0 (Rat.intCast_inj.1 (by rw [e];rfl))
  have hy:(y.den:Int)≠0:=by have:=y.den_nz;omega
  have hy':((y.den:Int):Rat)≠0:=fun e=>hy (Rat.intCast_inj.1 (by rw [e];rfl))
  have yv:y=(y.num:Rat) / ((y.den:Int):Rat):=by rw [← Rat.divInt_eq_div,Rat.num_divInt_den]
  refine ⟨D*y.den,fun e=>?_,?_,fun x hx=>?_⟩
  ·rcases Int.mul_eq_zero.1 e with h | h
   ·exact d0 h
   ·exact hy h
  ·have:=Zqf d1 (b:=(y.den:Int)) (B:=2^k) (by simpa using y2);omega
  ·rcases List.mem_cons.1 hx with rfl | hx
   ·refine ⟨D*x.num,?_,?_⟩
    ·rw [Rat.intCast_mul,Rat.intCast_mul]
     generalize ((x.den:Int):Rat)=d at *
     generalize (x.num:Rat)=m at *
     grind
    ·have:=Zqf d1 y1;omega
   ·obtain ⟨N,n1,n2⟩:=d2 x hx
    refine ⟨N*y.den,?_,?_⟩
    ·rw [Rat.intCast_mul,Rat.intCast_mul,n1]
     generalize ((y.den:Int):Rat)=d at *
     grind
    ·have:=Zqf n2 (b:=(y.den:Int)) (B:=2^k) (by simpa using y2);omega
theorem CD_of {k R n:Nat} {M:Mx} (h:∀ i j,i<R→j<n→sz k (M i j)):CD (k*(R*n)+1) R n M:=by
 have hl:∀ x,x ∈ (List.range (R*n)).map (fun t=>M (t / n) (t%n))→sz k x:=fun x hx=>by
  obtain ⟨t,ht,rfl⟩:=List.mem_map.1 hx;have ht:=List.mem_range.1 ht;have hn:0<n:=Nat.pos_of_ne_zero fun e=>by rw [e] at ht;simp at ht
  exact h _ _ (Nat.div_lt_of_lt_mul (by rw [Nat.mul_comm];exact ht)) (Nat.mod_lt _ hn)
 obtain ⟨D,d0,d1,d2⟩:=Zdp _ hl;simp only [List.length_map,List.length_range] at d1 d2;refine ⟨D,d0,d1,fun i j hi hj=>d2 _ (List.mem_map.2 ⟨i*n+j,List.mem_range.2 ?_,?_⟩)⟩
 ·have:=Nat.mul_le_mul_right n (show i+1≤R from hi);rw [Nat.succ_mul] at this;omega
 ·rw [Nat.mul_comm i n,Nat.mul_add_div (by omega),Nat.div_eq_of_lt hj,Nat.mul_add_mod,Nat.mod_eq_of_lt hj];simp
theorem Zpo {R n K:Nat} {M:Mx} (h0:R=0→n=0) (hR:R≤32) (hn:n≤32) (hK:1≤K) (hz:CD K R n M) (hk:kk K n≤274877906944) :
  ∃ M' piv,ZXg (mx R n M)=some (((piv.length:Nat):Int),0)∧Eli R n M M' piv n:=by
 obtain ⟨z,h1,M',piv,d,rfl,h2,_⟩:=Zzq h0 (by omega) (by omega) hK hz hk;refine ⟨M',piv,?_,h2⟩;unfold ZXg Zkl;rw [ZUj M h0 hR hn,Za,show (!true)=false from rfl,Zf,h1,Za,Za];simp only [Zsh]
theorem ZKu {R:Nat} (b:Nat→Rat) (hR:R≤1000):ZGi (vx R b)=some (vx R fun i=>[b i]):=by
 unfold ZGi;rw [Z7,Zoh (by omega) (by omega),Za];refine Zra (Zjb (fun k=>((k:Int),vx R fun i=>if i<k then [b i] else [])) R ?_ (by omega) (fun k hk=>?_) ?_) rfl
 ·simp only [Int.toNat_natCast,Zxi];refine Prod.ext rfl (ZBa fun i hi=>?_);rw [if_neg (by omega)]
 ·simp only;rw [decide_eq_true (by omega),Zh,ZCa _ hk,Za,ZCa _ hk,Za,ZB (by omega) (by omega),Za];simp only [Int.toNat_natCast];rw [Z1c];refine congrArg (fun x=>some (Sum.inl x)) (Prod.ext (by simp) (ZBa fun i hi=>?_));by_cases e:i=k
  ·rw [if_pos e,if_pos (by omega),e]
  ·rw [if_neg e];by_cases e2:i<k
   ·rw [if_pos e2,if_pos (by omega)]
   ·rw [if_neg e2,if_neg (by omega)]
 ·simp only;rw [decide_eq_false (by omega),Zf];exact congrArg (fun x=>some (Sum.inr x)) (ZBa fun i hi=>if_pos hi)
theorem aug_row {n:Nat} {M:Mx} {b:Nat→Rat} (i:Nat):vx n (M i)++[b i]=vx (n+1) (aug n M b i):=by
 rw [← ZIf];unfold aug;rw [if_pos rfl];congr 1;exact ZBa fun j hj=>by rw [if_neg (by omega)]
theorem Z3s {R n:Nat} (M:Mx) (b:Nat→Rat) (hR:R≤1000) (hn:n≤1000):ZPh (mx R n M) (vx R fun i=>[b i])=some (mx R (n+1) (aug n M b)):=by
 unfold ZPh;rw [ZDa,Zoh (by omega) (by omega),Za];have hc:=ZPp M hR hn;rw [ZDa] at hc;refine Zra hc ?_;refine Zra (Zjb (fun k=>((k:Int),vx R fun i=>if i<k then vx (n+1) (aug n M b i) else vx n (M i))) R ?_ (by omega) (fun k hk=>?_) ?_) rfl
 ·refine Prod.ext rfl (ZBa fun i hi=>?_);rw [if_neg (by omega)]
 ·simp only [ZDa];rw [decide_eq_true (by omega),Zh,ZCa _ hk,Za,ZCa _ hk,Za,if_neg (by omega),aug_row,Zhb (by rw [Z7];omega),Za,Za];simp only [Int.toNat_natCast];rw [ZFi,Za,ZB (by omega) (by omega),Za,Z1c];refine congrArg (fun x=>some (Sum.inl x)) (Prod.ext (by simp) (ZBa fun i hi=>?_));by_cases e:i=k
  ·rw [if_pos e,if_pos (by omega),e]
  ·rw [if_neg e];by_cases e2:i<k
   ·rw [if_pos e2,if_pos (by omega)]
   ·rw [if_neg e2,if_neg (by omega)]
 ·simp only [ZDa];rw [decide_eq_false (by omega),Zf];exact congrArg (fun x=>some (Sum.inr x)) (ZBa fun i hi=>if_pos hi)
theorem Zop {l:List Nat} {i c:Nat} (h:l[i]? = some c):idx (Zkd l) (i:Int)=some (c:Int):=Z5q (by simp [Zkd,h])
theorem rep_ok {b n:Nat} {a:Rat} (h:b*n≤281474976710656) (h2:n≤1000000000):repF b [a] (n:Int)=some (vx n fun _=>a):=by
 unfold repF;simp only;rw [Zoh h h2,Za,Int.toNat_natCast,Zxi]
theorem Zgt {R n:Nat} {N M:Mx} {piv:List Nat} (h:Eli R (n+1) N M piv (n+1)):n ∈ piv↔0<piv.length∧piv[piv.length-1]? = some n:=by
 constructor
 ·intro hm;obtain ⟨i,hi⟩:=List.getElem?_of_mem hm;have h1:=(List.getElem?_eq_some_iff.1 hi).1;refine ⟨by omega,?_⟩;by_cases e:i=piv.length-1
  ·rw [← e];exact hi
  ·have h2:piv[piv.length-1]? = some piv[piv.length-1]:=List.getElem?_eq_getElem (by omega);have h3:=Zmg h.inc hi h2 (by omega);have:=h.lt _ (List.mem_of_getElem? h2);omega
 ·exact fun hm=>List.mem_of_getElem? hm.2
theorem Any_ok {R n K:Nat} {M:Mx} {b:Nat→Rat} (h0:0<R) (hR:R≤32) (hn:n≤32) (hK:1≤K) (hz:CD K R (n+1) (aug n M b)) (hk:kk K (n+1)≤274877906944) :
  ∃ M' piv,Eli R (n+1) (aug n M b) M' piv (n+1)∧CD (kk K (n+1)) R (n+1) M'∧ZIi (mx R n M) (vx R b)=some (if n ∈ piv then ([],5) else (vx n (pv M' piv n),0)):=by
 obtain ⟨z,h1,M',piv,d,rfl,h2,h3⟩:=Zzq (R:=R) (n:=n+1) (fun e=>by omega) (by omega) (by omega) hK hz hk;refine ⟨M',piv,h2,h3,?_⟩;have hl:=Zgt h2;have pl:=Zsm h2.inc h2.lt;unfold ZIi;rw [ZUj M (fun e=>by omega) hR hn,Za,show (!true)=false from rfl,Zf,Z7,ZDa,Za,show ((R:Int) != (R:Int))=false by simp,Zf,Z2f M (fun e=>by omega),Za,ZKu b (by omega),Za,Z3s M b (by omega) (by omega),Za,h1,Za];simp only [Zsh];refine Zra (y:=decide (n ∈ piv)) ?_ ?_
 ·by_cases hp:0<piv.length
  ·rw [decide_eq_true (by omega),Zh,ZB (by omega) (by omega),Za];have h4:piv[piv.length-1]? = some piv[piv.length-1]:=List.getElem?_eq_getElem (by omega);rw [show ((piv.length:Int)-1)=((piv.length-1:Nat):Int) by omega,Zop h4,Za];refine congrArg some ?_;rw [Bool.eq_iff_iff];simp only [beq_iff_eq,decide_eq_true_eq,hl,h4,hp,true_and,Option.some.injEq];omega
  ·rw [decide_eq_false (by omega),Zf,decide_eq_false (by rw [hl];omega)]
 by_cases hm:n ∈ piv
 ·rw [decide_eq_true hm,Zh,if_pos hm]
 ·rw [decide_eq_false hm,Zf,if_neg hm,Zwk,Za,rep_ok (by omega) (by omega),Za];refine Zra (Zjb (fun k=>((k:Int),vx n fun d=>match piv.idxOf? d with
   | some i=>if i<k then M' i n else 0
   | none=>0)) piv.length ?_ (by omega) (fun k hkp=>?_) ?_) rfl
  ·refine Prod.ext rfl (ZBa fun i hi=>?_);split
   ·rw [if_neg (by omega)];rfl
   ·rfl
  ·have hc:piv[k]? = some piv[k]:=List.getElem?_eq_getElem hkp;have hcn:piv[k]<n:=by
    have:=h2.lt _ (List.mem_of_getElem? hc);have:piv[k]≠n:=fun e=>hm (e ▸ List.mem_of_getElem? hc);omega
   simp only;rw [decide_eq_true (by omega),Zh,Zop hc,Za,Zqb _ (by have:=h2.le;omega),Za,ZCa _ (by omega),Za,ZCa _ hcn,Za,ZB (by omega) (by omega),Za];simp only [Int.toNat_natCast];rw [Z1c];refine congrArg (fun x=>some (Sum.inl x)) (Prod.ext (by simp) (ZBa fun i hi=>?_));by_cases e:i=piv[k]
   ·rw [if_pos e,e,ZRn h2.inc hc];simp
   ·rw [if_neg e]
    cases hx:piv.idxOf? i with
    | none=>rfl
    | some q =>
     have:q≠k:=fun e2=>by
      subst e2;unfold List.idxOf? at hx;obtain ⟨_,h6,_⟩:=List.findIdx?_eq_some_iff_getElem.1 hx;simp at h6;exact e h6.symm
     simp only;by_cases e3:q<k
     ·rw [if_pos e3,if_pos (by omega)]
     ·rw [if_neg e3,if_neg (by omega)]
  ·simp only;rw [decide_eq_false (by omega),Zf];refine congrArg (fun x=>some (Sum.inr x)) (ZBa fun i hi=>?_);unfold pv
   cases hx:piv.idxOf? i with
   | none=>rfl
   | some q =>
    unfold List.idxOf? at hx;obtain ⟨h5,_⟩:=List.findIdx?_eq_some_iff_getElem.1 hx;simp only;rw [if_pos h5]
theorem ZWu {n:Nat} (M:Mx) (hn:n≤32):Z9h (mx n n M)=some true:=by
 unfold Z9h;rw [ZUj M (fun e=>e) hn hn,Za,Zh,Z2f M (fun e=>e),Za,Za,ZDa,beq_self_eq_true]
theorem Zdw {n:Nat} {M M':Mx} {b:Nat→Rat} {piv:List Nat} (h:Eli n (n+1) (aug n M b) M' piv (n+1)) (hk:∀ v,Ker n n M v→∀ j,j<n→v j=0):n ∉ piv:=fun hm=>by
 obtain ⟨j,hj,hp⟩:=ZOr h.inc h.lt (by have:=h.le;omega)
 have hjn:j≠n:=fun e=>hp (e ▸ hm)
 obtain ⟨i,hi⟩:=List.getElem?_of_mem hm
 have hv:=h.kv_ker hj hp
 have vn:kv M' piv j n=0:=by rw [Z5o h.inc hp hi,h.left i n hi j (by omega)];grind
 have:Ker n n M (kv M' piv j):=fun r hr=>by
  have:=hv r hr
  simp only [sm,vn] at this
  rw [Z5a (g:=fun j'=>M r j'*kv M' piv j j') fun l hl=>by unfold aug;rw [if_neg (by omega)]] at this
  grind
 have:=hk _ this j (by omega)
 rw [ZQl] at this
 exact absurd this (by decide)
theorem Zmt {n K:Nat} {M:Mx} {b:Nat→Rat} (h0:0<n) (hn:n≤32) (hK:1≤K) (hz:CD K n (n+1) (aug n M b)) (hk:kk K (n+1)≤274877906944) :
  (ZCg (mx n n M) (vx n b)=some ([],6)∧∃ v j,j<n∧v j≠0∧Ker n n M v)∨((∀ v,Ker n n M v→∀ j,j<n→v j=0)∧∃ x,Sol n n M b x∧ZCg (mx n n M) (vx n b)=some (vx n x,0)):=by
 have hz':CD K n n M:=by
  obtain ⟨D,d0,d1,d2⟩:=hz;refine ⟨D,d0,d1,fun i j hi hj=>?_⟩;have:=d2 i j hi (by omega);unfold aug at this
  rwa [if_neg (by omega)] at this
 obtain ⟨M',piv,h1,h2⟩:=Zpo (fun e=>e) hn hn hK hz' (Nat.le_trans (kk_le (by omega)) hk);have pl:=Zsm h2.inc h2.lt;unfold ZCg;rw [ZWu M hn,Za,show (!true)=false from rfl,Zf,Z7,ZDa,Za,show ((n:Int) != (n:Int))=false by simp,Zf,h1,Za];simp only;by_cases hr:piv.length<n
 ·left;refine ⟨by rw [decide_eq_true (by omega),Zh],h2.more hr⟩
 ·right;have hf:=h2.full (by omega);refine ⟨hf,?_⟩;obtain ⟨N,piv',h3,_,h4⟩:=Any_ok (R:=n) h0 hn hn hK hz hk;have hm:=Zdw h3 hf;refine ⟨_,h3.pv_sol hm,?_⟩;rw [decide_eq_false (by omega),Zf,h4,Za,if_neg hm]
noncomputable def ZMl (x:Rat):Option Rat :=
 some x
noncomputable def Z3k (x:Rat):Option Rat :=
 bnd (ZMl x) fun a =>
 some a
noncomputable def ZYg (x:List Rat) (y:List Rat):Option Rat :=
 bnd (Z3e (0:Int)) fun b =>
 bnd (Zp (σ:=Int×Rat) (ρ:=Rat) (fun a =>
 ifb (decide (a.1<(x.length:Int)))
 (bnd (idx x a.1) fun c =>
 bnd (idx y a.1) fun d =>
 bnd (ZXa c d) fun e =>
 bnd (Zob a.2 e) fun f =>
 bnd (chk .i64 (a.1+(1:Int))) fun g =>
 some (.inl (g,f)))
 (some (.inr a.2)))
  Zu ((0:Int),b)) fun h =>
 some h
noncomputable def ZYi (x:Rat):Option Rat :=
 some x
noncomputable def ZDh (a:List (List Rat)) (b:List (List Rat)):Option (List (List Rat)) :=
 bnd (α:=List (List Rat))
 (bnd (Zmd b) fun g =>
 bnd (mk 24 g g) fun _ =>
 bnd (Zp (σ:=Int×(List (List Rat))) (ρ:=List (List Rat)) (fun f =>
 ifb (decide (f.1<(b.length:Int)))
 (bnd (idx b f.1) fun h =>
 bnd (Zp (σ:=Int×(List (List Rat))) (ρ:=List (List Rat)) (fun c =>
 ifb (decide (c.1<(h.length:Int)))
 (bnd (idx h c.1) fun n =>
 bnd (idx c.2 c.1) fun i =>
 bnd (ZYi n) fun j =>
 bnd (ZO 56 (i++[j])) fun _ =>
 bnd (idx c.2 c.1) fun y =>
 bnd (eqN c.1.toNat c.1.toNat) fun _ =>
 bnd (chk .i64 (c.1+(1:Int))) fun o =>
 some (.inl (o,c.2.set c.1.toNat (i++[j]))))
 (some (.inr c.2)))
      Zu ((0:Int),f.2)) fun p =>
 bnd (chk .i64 (f.1+(1:Int))) fun q =>
 some (.inl (q,p)))
 (some (.inr f.2)))
   Zu ((0:Int),List.replicate g.toNat ([]:List Rat))) fun r =>
 some r) fun k =>
 bnd (mk 24 (a.length:Int) (a.length:Int)) fun _ =>
 bnd (Zp (σ:=Int×(List (List Rat))) (ρ:=List (List Rat)) (fun d =>
 ifb (decide (d.1<(a.length:Int)))
 (bnd (idx a d.1) fun s =>
 bnd (Zp (σ:=Int×(List (List Rat))) (ρ:=List (List Rat)) (fun e =>
 ifb (decide (e.1<(k.length:Int)))
 (bnd (idx k e.1) fun t =>
 bnd (idx e.2 d.1) fun l =>
 bnd (ZYg s t) fun m =>
 bnd (ZO 56 (l++[m])) fun _ =>
 bnd (idx e.2 d.1) fun z =>
 bnd (eqN d.1.toNat d.1.toNat) fun _ =>
 bnd (chk .i64 (e.1+(1:Int))) fun u =>
 some (.inl (u,e.2.set d.1.toNat (l++[m]))))
 (some (.inr e.2)))
     Zu ((0:Int),d.2)) fun v =>
 bnd (chk .i64 (d.1+(1:Int))) fun w =>
 some (.inl (w,v)))
 (some (.inr d.2)))
  Zu ((0:Int),List.replicate (a.length:Int).toNat ([]:List Rat))) fun x =>
 some x
noncomputable def Zgi (m:List (List Rat)) (x:List Rat):Option (List Rat) :=
 bnd (Zp (σ:=(List Rat)×Int) (ρ:=List Rat) (fun a =>
 ifb (decide (a.2<(m.length:Int)))
 (bnd (idx m a.2) fun c =>
 bnd (ZYg c x) fun b =>
 bnd (ZO 56 (a.1++[b])) fun _ =>
 bnd (chk .i64 (a.2+(1:Int))) fun d =>
 some (.inl (a.1++[b],d)))
 (some (.inr a.1)))
  Zu (([]:List Rat),(0:Int))) fun e =>
 some e
noncomputable def ZEh (m:List (List Rat)) (b:List Rat):Option ((List (List Rat))×(List Rat)) :=
 bnd (α:=List (List Rat))
 (bnd (Zmd m) fun d =>
 bnd (mk 24 d d) fun _ =>
 bnd (Zp (σ:=Int×(List (List Rat))) (ρ:=List (List Rat)) (fun c =>
 ifb (decide (c.1<(m.length:Int)))
 (bnd (idx m c.1) fun e =>
 bnd (Zp (σ:=Int×(List (List Rat))) (ρ:=List (List Rat)) (fun a =>
 ifb (decide (a.1<(e.length:Int)))
 (bnd (idx e a.1) fun i =>
 bnd (idx a.2 a.1) fun f =>
 bnd (Z3k i) fun g =>
 bnd (ZO 56 (f++[g])) fun _ =>
 bnd (idx a.2 a.1) fun q =>
 bnd (eqN a.1.toNat a.1.toNat) fun _ =>
 bnd (chk .i64 (a.1+(1:Int))) fun j =>
 some (.inl (j,a.2.set a.1.toNat (f++[g]))))
 (some (.inr a.2)))
      Zu ((0:Int),c.2)) fun k =>
 bnd (chk .i64 (c.1+(1:Int))) fun l =>
 some (.inl (l,k)))
 (some (.inr c.2)))
   Zu ((0:Int),List.replicate d.toNat ([]:List Rat))) fun n =>
 some n) fun h =>
 bnd (ZDh h m) fun o =>
 bnd (Zgi h b) fun p =>
 some (o,p)
noncomputable def Zjh (m:List (List Rat)) (b:List Rat):Option ((List Rat)×Int) :=
 bnd (α:=Bool)
 (bnd (ZZe m) fun d =>
 ifb (!d)
 (some true)
 (some ((b.length:Int) != (m.length:Int)))) fun e =>
 ifb e
 (some (([]:List Rat),(4:Int)))
 (bnd (ZXg m) fun f =>
 bnd (Zmd m) fun g =>
 ifb (decide (f.1<g))
 (some (([]:List Rat),(6:Int)))
 (bnd (ZEh m b) fun a =>
 bnd (ZCg a.1 a.2) fun c =>
 some (c.1,c.2)))
theorem Zqo {k m n:Nat} {f g:Nat→Rat} (hf:∀ j,j<n→sz k (f j)) (hg:∀ j,j<n→sz m (g j)) (hn:n≤1000) (hk:k+m≤500000000):ZYg (vx n f) (vx n g)=some (sm n fun j=>f j*g j):=by
 unfold ZYg;rw [Zwk,Za,Z7];refine Zra (Zjb (fun q=>((q:Int),sm q fun j=>f j*g j)) n rfl (by omega) (fun q hq=>?_) ?_) rfl
 ·have z1:=Zoa (hf q hq) (hg q hq);have z2:sz (q*(k+m+1)+1) (sm q fun j=>f j*g j):=ZAe fun j hj=>Zoa (hf j (by omega)) (hg j (by omega));have z3:q*(k+m+1)≤1000*(k+m+1):=Nat.mul_le_mul_right _ (by omega);simp only;rw [decide_eq_true (by omega),Zh,ZCa _ hq,Za,ZCa _ hq,Za,Zsi (hf q hq) (hg q hq) (by omega) (by omega),Za,ZQk z2 z1 (by omega) (by omega),Za,ZB (by omega) (by omega),Za];rfl
 ·simp only;rw [decide_eq_false (by omega),Zf]
theorem Zzo {R n:Nat} {M:Mx} {c:Rat→Option Rat} (hc:∀ x,c x=some x) (h0:R=0→n=0) (hR:R≤1000) (hn:n≤1000) :
 bnd (Zmd (mx R n M)) (fun y1 =>
  bnd (mk 24 y1 y1) fun _ =>
  bnd (Zp (σ:=Int×(List (List Rat))) (ρ:=List (List Rat)) (fun s2 =>
    ifb (decide (s2.1<((mx R n M).length:Int)))
    (bnd (idx (mx R n M) s2.1) fun y3 =>
     bnd (Zp (σ:=Int×(List (List Rat))) (ρ:=List (List Rat)) (fun s4 =>
       ifb (decide (s4.1<(y3.length:Int)))
       (bnd (idx y3 s4.1) fun y5 =>
        bnd (idx s4.2 s4.1) fun y6 =>
        bnd (c y5) fun y7 =>
        bnd (ZO 56 (y6++[y7])) fun _ =>
        bnd (idx s4.2 s4.1) fun y8 =>
        bnd (eqN s4.1.toNat s4.1.toNat) fun _ =>
        bnd (chk .i64 (s4.1+(1:Int))) fun y9 =>
        some (.inl (y9,s4.2.set s4.1.toNat (y6++[y7]))))
       (some (.inr s4.2)))
      Zu ((0:Int),s2.2)) fun x10 =>
     bnd (chk .i64 (s2.1+(1:Int))) fun y11 =>
     some (.inl (y11,x10)))
    (some (.inr s2.2)))
   Zu ((0:Int),List.replicate y1.toNat ([]:List Rat))) fun x12 =>
  some x12)=some (mx n R fun j i=>M i j):=by
  rw [Z2f M h0,Za,Zoh (by omega) (by omega),Za];refine Zra (Zjb (fun k=>((k:Int),vx n fun j=>vx k fun i=>M i j)) R ?_ (by omega) (fun k hk=>?_) ?_) rfl
  · simp only [Int.toNat_natCast,Zxi,vx_nil];rfl
  · simp only [ZDa];rw [decide_eq_true (by omega),Zh,Zqb _ hk,Za,Z7];refine Zra (y:=vx n fun j=>vx (k+1) fun i=>M i j) (Zjb (fun l=>((l:Int),vx n fun j=>if j<l then vx (k+1) (fun i=>M i j) else vx k (fun i=>M i j))) n ?_ (by omega) (fun l hl=>?_) ?_) ?_
    · refine Prod.ext rfl (ZBa fun j hj=>?_);rw [if_neg (by omega)]
    · simp only;rw [decide_eq_true (by omega),Zh,ZCa _ hl,Za,ZCa _ hl,Za,hc,Za,if_neg (by omega),ZIf k (fun i=>M i l),Zhb (by rw [Z7];omega),Za,Za];simp only [Int.toNat_natCast];rw [ZFi,Za,ZB (by omega) (by omega),Za,Z1c];refine congrArg (fun x=>some (Sum.inl x)) (Prod.ext (by simp) (ZBa fun j hj=>?_));by_cases e:j=l
      · rw [if_pos e,if_pos (by omega),e]
      · rw [if_neg e];by_cases e2:j<l
        · rw [if_pos e2,if_pos (by omega)]
        · rw [if_neg e2,if_neg (by omega)]
    · simp only;rw [decide_eq_false (by omega),Zf];exact congrArg (fun x=>some (Sum.inr x)) (ZBa fun j hj=>if_pos hj)
    · rw [ZB (by omega) (by omega),Za];rfl
  · simp only [ZDa];rw [decide_eq_false (by omega),Zf];rfl
theorem Z7t {k m Q R n:Nat} {A B:Mx} (hA:∀ i j,i<Q→j<R→sz k (A i j)) (hB:∀ i j,i<R→j<n→sz m (B i j)) (h0:R=0→n=0) (hQ:Q≤1000) (hR:R≤1000) (hn:n≤1000) (hk:k+m≤500000000) :
  ZDh (mx Q R A) (mx R n B)=some (mx Q n fun i j=>sm R fun l=>A i l*B l j):=by
 unfold ZDh;refine Zra (Zzo (c:=ZYi) (fun x=>rfl) h0 hR hn) ?_;rw [ZDa,ZDa,Zoh (by omega) (by omega),Za];refine Zra (Zjb (fun i=>((i:Int),vx Q fun r=>if r<i then vx n (fun j=>sm R fun l=>A r l*B l j) else [])) Q ?_ (by omega) (fun i hi=>?_) ?_) rfl
 ·simp only [Int.toNat_natCast,Zxi];refine Prod.ext rfl (ZBa fun r hr=>?_);rw [if_neg (by omega)]
 ·simp only;rw [decide_eq_true (by omega),Zh,Zqb _ hi,Za];refine Zra (y:=vx Q fun r=>if r<i+1 then vx n (fun j=>sm R fun l=>A r l*B l j) else []) (Zjb (fun q=>((q:Int),vx Q fun r=>if r<i then vx n (fun j=>sm R fun l=>A r l*B l j) else if r=i then vx q (fun j=>sm R fun l=>A r l*B l j) else [])) n ?_ (by omega) (fun q hq=>?_) ?_) ?_
  ·refine Prod.ext rfl (ZBa fun r hr=>?_);by_cases e:r<i
   ·rw [if_pos e,if_pos e]
   ·rw [if_neg e,if_neg e];split <;> rfl
  ·simp only;rw [decide_eq_true (by omega),Zh,Zqb _ hq,Za,ZCa _ hi,Za,Zqo (fun j hj=>hA i j hi hj) (fun j hj=>hB j q hj hq) hR hk,Za,if_neg (by omega),if_pos rfl,ZIf q (fun j=>sm R fun l=>A i l*B l j),Zhb (by rw [Z7];omega),Za,Za];simp only [Int.toNat_natCast];rw [ZFi,Za,ZB (by omega) (by omega),Za,Z1c];refine congrArg (fun x=>some (Sum.inl x)) (Prod.ext (by simp) (ZBa fun r hr=>?_));by_cases e:r=i
   ·subst e;rw [if_pos rfl,if_neg (by omega),if_pos rfl]
   ·rw [if_neg e,if_neg e,if_neg e]
  ·simp only;rw [decide_eq_false (by omega),Zf];refine congrArg (fun x=>some (Sum.inr x)) (ZBa fun r hr=>?_);by_cases e:r<i
   ·rw [if_pos e,if_pos (by omega)]
   ·rw [if_neg e];by_cases e2:r=i
    ·rw [if_pos e2,if_pos (by omega)]
    ·rw [if_neg e2,if_neg (by omega)]
  ·rw [ZB (by omega) (by omega),Za];rfl
 ·simp only;rw [decide_eq_false (by omega),Zf];exact congrArg (fun x=>some (Sum.inr x)) (ZBa fun r hr=>if_pos hr)
theorem ZSt {k m R n:Nat} {M:Mx} {x:Nat→Rat} (hM:∀ i j,i<R→j<n→sz k (M i j)) (hx:∀ j,j<n→sz m (x j)) (hR:R≤1000) (hn:n≤1000) (hk:k+m≤500000000) :
  Zgi (mx R n M) (vx n x)=some (vx R fun i=>sm n fun j=>M i j*x j):=by
 unfold Zgi;refine Zra (Zjb (fun i=>(vx i (fun i=>sm n fun j=>M i j*x j),(i:Int))) R rfl (by omega) (fun i hi=>?_) ?_) rfl
 ·simp only [ZDa];rw [decide_eq_true (by omega),Zh,Zqb _ hi,Za,Zqo (fun j hj=>hM i j hi hj) hx hn hk,Za,ZIf i (fun i=>sm n fun j=>M i j*x j),Zhb (by rw [Z7];omega),Za,ZB (by omega) (by omega),Za];rfl
 ·simp only [ZDa];rw [decide_eq_false (by omega),Zf]
def nmM (R:Nat) (M:Mx):Mx:=fun i j=>sm R fun l=>M l i*M l j
def nmB (R:Nat) (M:Mx) (b:Nat→Rat):Nat→Rat:=fun i=>sm R fun l=>M l i*b l
theorem Z5u {k R n:Nat} {M:Mx} {b:Nat→Rat} (hM:∀ i j,i<R→j<n→sz k (M i j)) (hb:∀ i,i<R→sz k (b i)) (h0:R=0→n=0) (hR:R≤1000) (hn:n≤1000) (hk:2*k≤500000000) :
  ZEh (mx R n M) (vx R b)=some (mx n n (nmM R M),vx n (nmB R M b)):=by
 unfold ZEh;refine Zra (Zzo (c:=Z3k) (fun x=>rfl) h0 hR hn) ?_;rw [Z7t (k:=k) (m:=k) (fun i j hi hj=>hM j i hj hi) hM h0 hn hR hn (by omega),Za,ZSt (k:=k) (m:=k) (fun i j hi hj=>hM j i hj hi) hb hn hR (by omega),Za];rfl
theorem ZZw {n:Nat} {f:Nat→Rat} (h:∀ j,j<n→0≤f j):0≤sm n f:=by
 induction n with
 | zero=>show (0:Rat)≤0;grind
 | succ n ih =>
  have h1:=ih fun j hj=>h j (by omega);have h2:=h n (by omega);show 0≤sm n f+f n;grind
theorem Z2u {n:Nat} {f:Nat→Rat} (h:∀ j,j<n→0≤f j) (hs:sm n f=0):∀ j,j<n→f j=0:=by
 induction n with
 | zero=>intro j hj;omega
 | succ n ih =>
  have h1:=ZZw fun j (hj:j<n)=>h j (by omega);have h2:=h n (by omega);have hs':sm n f+f n=0:=hs;intro j hj;rcases Nat.lt_or_ge j n with h3 | h3
  ·exact ih (fun j hj=>h j (by omega)) (by grind) j h3
  ·rw [show j=n by omega];grind
theorem Zfp (R n:Nat) (M:Mx) (v:Nat→Rat) (i:Nat):sm n (fun j=>nmM R M i j*v j)=sm R fun l=>M l i*sm n fun j=>M l j*v j:=by
 rw [Z5a (g:=fun j=>sm R fun l=>M l i*M l j*v j) fun j hj=>?_,ZYr]
 ·refine Z5a fun l hl=>?_;rw [← Zad];exact Z5a fun j hj=>by grind
 ·show sm R (fun l=>M l i*M l j)*v j=_;rw [Rat.mul_comm,← Zad];exact Z5a fun l hl=>by grind
theorem ZVq {R n:Nat} {M:Mx} {v:Nat→Rat} (h:Ker n n (nmM R M) v):Ker R n M v:=by
 have e:sm R (fun l=>(sm n fun j=>M l j*v j)*(sm n fun j=>M l j*v j))=0:=by
  have:sm n (fun i=>v i*sm n fun j=>nmM R M i j*v j)=0:=Zrf fun i hi=>by rw [h i hi];grind
  rw [Z5a (g:=fun i=>sm R fun l=>v i*M l i*sm n fun j=>M l j*v j) fun i hi=>by rw [Zfp,← Zad];exact Z5a fun l hl=>by grind,ZYr] at this;rw [← this];refine Z5a fun l hl=>?_;rw [← Zad];refine Z5a fun i hi=>?_;grind
 intro i hi;have:=Z2u (fun l hl=>Zis _) e i hi;rcases Rat.mul_eq_zero.1 this with h | h <;> exact h
theorem Z8r {k R n:Nat} {M:Mx} {b:Nat→Rat} (hM:∀ i j,i<R→j<n→sz k (M i j)) (hb:∀ i,i<R→sz k (b i)) (h0:0<R) (hn0:0<n) (hR:R≤32) (hn:n≤32) (hk:2*k≤500000000)
  (k1:kk (k*(R*n)+1) n≤274877906944) (k2:kk ((R*(k+k+1)+1)*(n*(n+1))+1) (n+1)≤274877906944) :
  (Zjh (mx R n M) (vx R b)=some ([],6)∧∃ v j,j<n∧v j≠0∧Ker R n M v)∨((∀ v,Ker R n M v→∀ j,j<n→v j=0)∧∃ x,Sol n n (nmM R M) (nmB R M b) x∧Zjh (mx R n M) (vx R b)=some (vx n x,0)):=by
 obtain ⟨M',piv,h1,h2⟩:=Zpo (fun e=>by omega) hR hn (by omega) (CD_of hM) k1;have pl:=Zsm h2.inc h2.lt;unfold Zjh;rw [ZUj M (fun e=>by omega) hR hn,Za,show (!true)=false from rfl,Zf,Z7,ZDa,Za,show ((R:Int) != (R:Int))=false by simp,Zf,h1,Za,Z2f M (fun e=>by omega),Za];simp only;by_cases hr:piv.length<n
 ·left;exact ⟨by rw [decide_eq_true (by omega),Zh],h2.more hr⟩
 ·right;have hf:=h2.full (by omega);refine ⟨hf,?_⟩;rw [decide_eq_false (by omega),Zf,Z5u hM hb (fun e=>by omega) (by omega) (by omega) hk,Za];have hz:CD ((R*(k+k+1)+1)*(n*(n+1))+1) n (n+1) (aug n (nmM R M) (nmB R M b)):=CD_of fun i j hi hj=>by
   unfold aug;split
   ·exact ZAe fun l hl=>Zoa (hM l i hl hi) (hb l hl)
   ·exact ZAe fun l hl=>Zoa (hM l i hl hi) (hM l j hl (by omega))
  rcases Zmt hn0 hn (by omega) hz k2 with ⟨_,v,j,hj,hv,hkv⟩ | ⟨_,x,hx,h3⟩
  ·exact absurd (hf v (ZVq hkv) j hj) hv
  ·exact ⟨x,hx,by rw [h3,Za]⟩
noncomputable def Zji (x:Rat) (y:Rat):Option (Rat) :=
 bnd (Z2c x y) fun a =>
 some a.1
noncomputable def Zgc (n:Int):Option (Rat) :=
 bnd (ZCc n) fun a =>
 some a
theorem Zfx (n:Int):Zgc n=some (n:Rat):=by unfold Zgc ZCc;rw [Za]
noncomputable def ZVe (x:List Rat) (y:List Rat):Option (Rat×Rat×Int) :=
 bnd (α:=Bool)
 (ifb ((x.length:Int) != (y.length:Int))
 (some true)
 (ifb (decide ((x.length:Int)<(2:Int)))
 (some true)
 (some (decide ((32:Int)<(x.length:Int)))))) fun e =>
 ifb e
 (some ((0:Rat),(0:Rat),(4:Int)))
 (bnd (Zp (σ:=(List (List Rat))×Int) (ρ:=List (List Rat)) (fun a =>
 ifb (decide (a.2<(x.length:Int)))
 (bnd (idx x a.2) fun c =>
 bnd (Zgc (1:Int)) fun d =>
 bnd (ZO 24 (a.1++[[c,d]])) fun _ =>
 bnd (chk .i64 (a.2+(1:Int))) fun f =>
 some (.inl (a.1++[[c,d]],f)))
 (some (.inr a.1)))
   Zu (([]:List (List Rat)),(0:Int))) fun g =>
 bnd (Zjh g y) fun b =>
 ifb (b.2 != (0:Int))
 (some ((0:Rat),(0:Rat),b.2))
 (bnd (idx b.1 (0:Int)) fun h =>
 bnd (idx b.1 (1:Int)) fun i =>
 some (h,i,(0:Int))))
noncomputable def ZGc  : Option (Rat) :=
 bnd (ZWb (0:Int)) fun a =>
 some a
noncomputable def ZLf (x:List Rat) (y:List Rat):Option (Rat×Rat×Int) :=
 bnd (α:=Bool)
 (ifb ((x.length:Int) != (y.length:Int))
 (some true)
 (ifb (decide ((x.length:Int)<(2:Int)))
 (some true)
 (some (decide ((32:Int)<(x.length:Int)))))) fun f =>
 ifb f
 (bnd ZGc fun g =>
 bnd ZGc fun h =>
 some (g,h,(4:Int)))
 (bnd (ZWb (x.length:Int)) fun c =>
 bnd ZGc fun i =>
 bnd ZGc fun j =>
 bnd ZGc fun k =>
 bnd ZGc fun l =>
 bnd (Zp (σ:=Int×Rat×Rat×Rat×Rat) (ρ:=Rat×Rat×Rat×Rat) (fun a =>
 ifb (decide (a.1<(x.length:Int)))
 (bnd (idx x a.1) fun m =>
 bnd (ZWc a.2.1 m) fun n =>
 bnd (idx y a.1) fun o =>
 bnd (ZWc a.2.2.1 o) fun p =>
 bnd (idx x a.1) fun q =>
 bnd (idx x a.1) fun r =>
 bnd (ZOb q r) fun s =>
 bnd (ZWc a.2.2.2.1 s) fun t =>
 bnd (idx x a.1) fun u =>
 bnd (idx y a.1) fun v =>
 bnd (ZOb u v) fun w =>
 bnd (ZWc a.2.2.2.2 w) fun z =>
 bnd (chk .i64 (a.1+(1:Int))) fun A =>
 some (.inl (A,n,p,t,z)))
 (some (.inr (a.2.1,a.2.2.1,a.2.2.2.1,a.2.2.2.2))))
   Zu ((0:Int),i,j,k,l)) fun b =>
 bnd (ZOb c b.2.2.1) fun B =>
 bnd (ZOb b.1 b.1) fun C =>
 bnd (Zwe B C) fun d =>
 bnd (Zod d) fun D =>
 ifb D
 (bnd ZGc fun E =>
 bnd ZGc fun F =>
 some (E,F,(6:Int)))
 (bnd (ZOb c b.2.2.2) fun G =>
 bnd (ZOb b.1 b.2.1) fun H =>
 bnd (Zwe G H) fun I =>
 bnd (ZWd I d) fun e =>
 bnd (ZOb e b.1) fun J =>
 bnd (Zwe b.2.1 J) fun K =>
 bnd (ZWd K c) fun L =>
 some (e,L,(0:Int))))
theorem ZSp (n:Nat):sm n (fun _=>(1:Rat))=(n:Rat):=by
 induction n with
 | zero=>rfl
 | succ n ih=>show sm n _+1=_;rw [ih];exact (Rat.natCast_add n 1).symm
def alM (x:Nat→Rat):Mx:=fun i j=>if j=0 then x i else 1
def alD (R:Nat) (x:Nat→Rat):Rat:=(R:Rat)*sm R (fun i=>x i*x i)-sm R x*sm R x
def alA (R:Nat) (x y:Nat→Rat):Rat:=((R:Rat)*sm R (fun i=>x i*y i)-sm R x*sm R y) / alD R x
def alB (R:Nat) (x y:Nat→Rat):Rat:=(sm R y-alA R x y*sm R x) / (R:Rat)
def alF (R:Nat) (x y:Nat→Rat):Rat×Rat×Int:=if alD R x=0 then (0,0,6) else (alA R x y,alB R x y,0)
theorem ZSg (R:Nat) (x v:Nat→Rat):sm 2 (fun j=>nmM R (alM x) 0 j*v j)=sm R (fun i=>x i*x i)*v 0+sm R x*v 1∧sm 2 (fun j=>nmM R (alM x) 1 j*v j)=sm R x*v 0+(R:Rat)*v 1:=by
 have e0:nmM R (alM x) 0 0=sm R fun i=>x i*x i:=rfl;have e1:nmM R (alM x) 0 1=sm R x:=Z5a fun i hi=>by show x i*1=x i;grind
 have e2:nmM R (alM x) 1 0=sm R x:=Z5a fun i hi=>by show 1*x i=x i;grind
 have e3:nmM R (alM x) 1 1=(R:Rat):=by
  rw [← ZSp];exact Z5a fun i hi=>by show (1:Rat)*1=1;grind
 constructor
 ·show 0+nmM R (alM x) 0 0*v 0+nmM R (alM x) 0 1*v 1=_;rw [e0,e1];grind
 ·show 0+nmM R (alM x) 1 0*v 0+nmM R (alM x) 1 1*v 1=_;rw [e2,e3];grind
theorem Zbo {R:Nat} (h:R≠0):(R:Rat)≠0:=fun e=>h (Rat.natCast_inj.1 (by rw [e];rfl))
theorem Zox {R:Nat} {x y:Nat→Rat} (h2:2≤R) (hR:R≤32) (hx:∀ i,i<R→sz 1000 (x i)) (hy:∀ i,i<R→sz 1000 (y i)):ZVe (vx R x) (vx R y)=some (alF R x y):=by
 have R0:(R:Rat)≠0:=Zbo (by omega);have hM:∀ i j,i<R→j<2→sz 1000 (alM x i j):=fun i j hi hj=>by
  unfold alM;split
  ·exact hx i hi
  ·exact ZJq.mono (by omega)
 have hL:=Z8r (k:=1000) hM hy (by omega) (by omega) hR (by omega) (by omega) (by unfold kk;omega) (by unfold kk;omega);unfold ZVe;rw [Z7,Z7,show ((R:Int) != (R:Int))=false by simp,Zf,decide_eq_false (by omega),Zf,Za,decide_eq_false (by omega),Zf];refine Zra (y:=mx R 2 (alM x)) (Zjb (fun k=>(mx k 2 (alM x),(k:Int))) R rfl (by omega) (fun k hk=>?_) ?_) ?_
 ·have e:mx k 2 (alM x)++[[x k,((1:Int):Rat)]]=mx (k+1) 2 (alM x):=ZIf k fun i=>vx 2 (alM x i);simp only;rw [decide_eq_true (by omega),Zh,ZCa _ hk,Za,Zfx,Za,e,Zhb (by rw [ZDa];omega),Za,ZB (by omega) (by omega),Za];rfl
 ·simp only;rw [decide_eq_false (by omega),Zf]
 rcases hL with ⟨h3,v,j,hj,hv,hk⟩ | ⟨hf,s,hs,h3⟩
 ·rw [h3,Za,show ((([]:List Rat),(6:Int)).2 != (0:Int))=true from rfl,Zh];have hn:Ker 2 2 (nmM R (alM x)) v:=fun i hi=>by
   rw [Zfp];exact Zrf fun l hl=>by rw [hk l hl];grind
  have k0:=hn 0 (by omega);have k1:=hn 1 (by omega);rw [(ZSg R x v).1] at k0;rw [(ZSg R x v).2] at k1;have d0:alD R x=0:=by
   unfold alD;generalize sm R (fun i=>x i*x i)=a at *;generalize sm R x=b at *;have j2:j=0∨j=1:=by omega
   rcases j2 with rfl | rfl
   ·have:((R:Rat)*a-b*b)*v 0=0:=by grind
    rcases Rat.mul_eq_zero.1 this with h | h
    ·exact h
    ·exact absurd h hv
   ·have:((R:Rat)*a-b*b)*v 1=0:=by grind
    rcases Rat.mul_eq_zero.1 this with h | h
    ·exact h
    ·exact absurd h hv
  unfold alF;rw [if_pos d0]
 ·rw [h3,Za,show (((vx 2 s),(0:Int)).2 != (0:Int))=false from rfl,Zf];have d0:alD R x≠0:=fun d0=>by
   have hn:Ker 2 2 (nmM R (alM x)) (fun j=>if j=0 then (R:Rat) else-sm R x):=fun i hi=>by
    have i2:i=0∨i=1:=by omega
    unfold alD at d0;rcases i2 with rfl | rfl
    ·rw [(ZSg R x _).1];simp only [if_pos];rw [if_neg (by omega)];grind
    ·rw [(ZSg R x _).2];simp only [if_pos];rw [if_neg (by omega)];grind
   exact R0 (hf _ (ZVq hn) 0 (by omega))
  have s0:=hs 0 (by omega);have s1:=hs 1 (by omega);rw [(ZSg R x s).1] at s0;rw [(ZSg R x s).2] at s1;have b0:nmB R (alM x) y 0=sm R fun i=>x i*y i:=rfl;have b1:nmB R (alM x) y 1=sm R y:=Z5a fun i hi=>by show 1*y i=y i;grind
  rw [b0] at s0;rw [b1] at s1;have ea:s 0=alA R x y:=by
   unfold alA;have:s 0*alD R x=(R:Rat)*sm R (fun i=>x i*y i)-sm R x*sm R y:=by
    unfold alD;rw [← s0,← s1];grind
   grind
  have eb:s 1=alB R x y:=by
   unfold alB;rw [← ea,← s1];grind
  rw [show vx 2 s=[s 0,s 1] from rfl];show bnd (some (s 0)) _=_;rw [Za];show bnd (some (s 1)) _=_;rw [Za,ea,eb];unfold alF;rw [if_neg d0]
theorem ZBp:ZGc=some (0:Rat):=by unfold ZGc ZWb;rw [Za];rfl
theorem ZLr {R:Nat} (h:R≤32):sz 64 (R:Rat):=Z9p (n:=(R:Int)) ⟨by omega,by omega⟩
theorem ZKj {R:Nat} {x y:Nat→Rat} (hR:R≤32) (hx:∀ i,i<R→sz 1000 (x i)) (hy:∀ i,i<R→sz 1000 (y i)):sz 32033 (sm R x)∧sz 32033 (sm R y)∧sz 64033 (sm R fun i=>x i*x i)∧sz 64033 (sm R fun i=>x i*y i)∧sz 200000 (alD R x)∧sz 400000 (alA R x y)∧sz 600000 (alB R x y):=by
 have a:=(ZAe hx).mono (m:=32033) (by omega);have b:=(ZAe hy).mono (m:=32033) (by omega);have c:=(ZAe (f:=fun i=>x i*x i) (k:=2000) fun i hi=>Zoa (hx i hi) (hx i hi)).mono (m:=64033) (by omega);have d:=(ZAe (f:=fun i=>x i*y i) (k:=2000) fun i hi=>Zoa (hx i hi) (hy i hi)).mono (m:=64033) (by omega);have r:=ZLr hR;have e:sz 200000 (alD R x):=(Z3g (Zoa r c) (Zoa a a)).mono (by omega);have f:sz 400000 (alA R x y):=(Ztq (Z3g (Zoa r d) (Zoa a b)) e).mono (by omega);exact ⟨a,b,c,d,e,f,(Ztq (Z3g b (Zoa f a)) r).mono (by omega)⟩
theorem ZAw {R:Nat} {x y:Nat→Rat} (h2:2≤R) (hR:R≤32) (hx:∀ i,i<R→sz 1000 (x i)) (hy:∀ i,i<R→sz 1000 (y i)):ZLf (vx R x) (vx R y)=some (alF R x y):=by
 have R0:(R:Rat)≠0:=Zbo (by omega);obtain ⟨a,b,c,d,e,f,g⟩:=ZKj hR hx hy;have r:=ZLr hR;unfold ZLf ZWb;simp only [ZBp];rw [Z7,Z7,show ((R:Int) != (R:Int))=false by simp,Zf,decide_eq_false (by omega),Zf,Za,decide_eq_false (by omega),Zf,Za,Za,Za,Za,Za];refine Zra (y:=(sm R x,sm R y,sm R (fun i=>x i*x i),sm R fun i=>x i*y i)) (Zjb (fun k=>((k:Int),sm k x,sm k y,sm k (fun i=>x i*x i),sm k fun i=>x i*y i)) R rfl (by omega) (fun k hk=>?_) ?_) ?_
 ·obtain ⟨a,b,c,d,_⟩:=ZKj (R:=k) (by omega) (fun i hi=>hx i (by omega)) (fun i hi=>hy i (by omega));have zx:=hx k hk;have zy:=hy k hk;simp only;rw [decide_eq_true (by omega),Zh,ZCa _ hk,Za,Zml a zx (by omega),Za,ZCa _ hk,Za,Zml b zy (by omega),Za,Za,Za,Z1f zx zx (by omega),Za,Zml c (Zoa zx zx) (by omega),Za,Za,Za,Z1f zx zy (by omega),Za,Zml d (Zoa zx zy) (by omega),Za,ZB (by omega) (by omega),Za];rfl
 ·simp only;rw [decide_eq_false (by omega),Zf]
 simp only;show bnd (ZOb (R:Rat) _) _=_;rw [Z1f r c (by omega),Za,Z1f a a (by omega),Za,ZUn (Zoa r c) (Zoa a a) (by omega),Za];change bnd (Zod (alD R x)) _=_;unfold Zod;rw [Za];unfold alF;by_cases h:alD R x=0
 ·rw [decide_eq_true h,Zh,if_pos h,Za,Za]
 ·rw [decide_eq_false h,Zf,if_neg h];show bnd (ZOb (R:Rat) _) _=_;rw [Z1f r d (by omega),Za,Z1f a b (by omega),Za,ZUn (Zoa r d) (Zoa a b) (by omega),Za];change bnd (ZWd _ (alD R x)) _=_;rw [Z0p (Z3g (Zoa r d) (Zoa a b)) e (by omega) h,Za];change bnd (ZOb (alA R x y) _) _=_;rw [Z1f f a (by omega),Za,ZUn b (Zoa f a) (by omega),Za];show bnd (ZWd _ (R:Rat)) _=_;rw [Z0p (Z3g b (Zoa f a)) r (by omega) R0,Za];rfl
noncomputable def ZJl (x:Rat):Option (Bool) :=
 bnd (ZCe x) fun a =>
 some (decide (a≤(0:Int)))
noncomputable def Znv (l:(List Rat)) (g:Unit):Option (Int) :=
 bnd (bnd (Zp (fun s:Int=>match s with
 | a =>
 (ifb (decide (a<(l.length:Int)))
 (bnd (idx l a) fun b =>
 bnd (ZJl b) fun c =>
 ifb (c)
 (some (.inr ((.inl a))))
 (bnd (chk .i64 (a+(1:Int))) fun d =>
 some (.inl d)))
 (some (.inr ((.inr (()))))))) Zu (0:Int))
 (fun (p:(Int) ⊕ (Unit))=>match p with
 | .inl e =>
 (some ((.inr e)))
 | .inr (()) =>
 (some ((.inl (()))))))
 (fun (p:(Unit) ⊕ (Int))=>match p with
 | .inl (()) =>
 (some (-1:Int))
 | .inr f =>
 (some f))
noncomputable def ZTs (l:(List Rat)) (g:Unit):Option (Bool) :=
 bnd (Znv l (())) fun a =>
 some (decide ((0:Int)≤a))
noncomputable def Zcl (l:(List Rat)):Option (Bool) :=
 bnd (ZTs l (())) fun a =>
 some (!(a))
noncomputable def ZSn (t:(Rat×(List Rat))):Option (Int) :=
 bnd (Zcl ([t.1])) fun b =>
 ifb (!(b))
 (some (1:Int))
 (bnd (ifb (((t.2.length:Int))==(0:Int))
 (some true)
 (some (decide ((16:Int)≤(t.2.length:Int)))))
 (fun (c:Bool) =>
 (ifb (c)
 (some (4:Int))
 (bnd (bnd (Zp (fun s:Int=>match s with
 | a =>
 (ifb (decide (a<(t.2.length:Int)))
 (bnd (idx t.2 a) fun d =>
 bnd (ifb (decide ((0:Int)<a))
 (bnd (chk .i64 (a-(1:Int))) fun e =>
 bnd (idx t.2 e) fun f =>
 bnd (ZIe d f) fun g =>
 some (decide (g≤(0:Int))))
 (some false))
 (fun (h:Bool) =>
 (ifb (h)
 (some (.inr ((.inl (7:Int)))))
 (bnd (chk .i64 (a+(1:Int))) fun i =>
 some (.inl i)))))
 (some (.inr ((.inr (()))))))) Zu (0:Int))
 (fun (p:(Int) ⊕ (Unit))=>match p with
 | .inl j =>
 (some ((.inr j)))
 | .inr (()) =>
 (some ((.inl (()))))))
 (fun (p:(Unit) ⊕ (Int))=>match p with
 | .inl (()) =>
 (some (0:Int))
 | .inr k =>
 (some k))))))
noncomputable def ZNs (y:Rat) (r:Rat):Option (Bool) :=
 bnd (ZIe y r) fun a =>
 some (decide ((0:Int)≤a))
noncomputable def ZYw (l:(List Rat)) (g:Rat):Option (Int) :=
 bnd (bnd (Zp (fun s:Int=>match s with
 | a =>
 (ifb (decide (a<(l.length:Int)))
 (bnd (idx l a) fun b =>
 bnd (ZNs b g) fun c =>
 ifb (c)
 (some (.inr ((.inl a))))
 (bnd (chk .i64 (a+(1:Int))) fun d =>
 some (.inl d)))
 (some (.inr ((.inr (()))))))) Zu (0:Int))
 (fun (p:(Int) ⊕ (Unit))=>match p with
 | .inl e =>
 (some ((.inr e)))
 | .inr (()) =>
 (some ((.inl (()))))))
 (fun (p:(Unit) ⊕ (Int))=>match p with
 | .inl (()) =>
 (some (-1:Int))
 | .inr f =>
 (some f))
noncomputable def ZSm (t:(Rat×(List Rat))) (x:Rat):Option (Int) :=
 bnd (Zfj x t.1) fun b =>
 bnd (ZYw t.2 b.1) fun a =>
 ifb (decide (a<(0:Int)))
 (some ((t.2.length:Int)))
 (some a)
noncomputable def Zkn (t:(Rat×(List Rat))) (x:Rat):Option (Int×Int) :=
 bnd (ZSn ((t.1,t.2))) fun a =>
 ifb (a != (0:Int))
 (some (((0:Int),a)))
 (bnd (ZSm ((t.1,t.2)) x) fun b =>
 some ((b,(0:Int))))
noncomputable def Z8n (d:((Int×Int)×(Int×Int)×(Int×Int))):Option ((Rat×Rat×Rat)×(Rat×Rat×Rat)) :=
 bnd (ZKb ((d.1.1,d.1.2))) fun a =>
 bnd (ZKb ((d.2.1.1,d.2.1.2))) fun b =>
 bnd (ZKb ((d.2.2.1,d.2.2.2))) fun c =>
 bnd (Zpe ((d.1.1,d.1.2))) fun e =>
 bnd (Zpe ((d.2.1.1,d.2.1.2))) fun f =>
 bnd (Zpe ((d.2.2.1,d.2.2.2))) fun g =>
 some (((a,b,c),(e,f,g)))
noncomputable def ZWm (d:(Rat×Rat×Rat)):Option (Bool) :=
 bnd (Zcl ([d.1,d.2.1,d.2.2])) fun a =>
 some a
noncomputable def ZCn (d:(Rat×Rat×Rat)) (x:Rat) (y:Rat):Option (Rat×Int) :=
 bnd (ZWm ((d.1,d.2.1,d.2.2))) fun a =>
 ifb (!(a))
 (some (((0:Rat),(1:Int))))
 (bnd (ZSb x y) fun b =>
 bnd (Zgc (1:Int)) fun c =>
 bnd (Zji d.2.1 d.1) fun e =>
 bnd (Zob c e) fun f =>
 bnd (ZXa b f) fun g =>
 some ((g,(0:Int))))
noncomputable def ZSk (i:Int) (k:Int):Option (Rat) :=
 ifb (i==k)
 (bnd (Zgc (1:Int)) fun a =>
 some a)
 (some ((0:Rat)))
noncomputable def Zxv (t:(List (List Int))) (n:Int) (g:Unit):Option (Rat×Rat) :=
 bnd (bnd (mk 8 ((t.length:Int)) ((t.length:Int))) fun an =>
 bnd (mk 8 ((t.length:Int)) ((t.length:Int))) fun ao =>
 some (((List.replicate ((t.length:Int)).toNat (0:Int)),(List.replicate ((t.length:Int)).toNat (0:Int)))))
 (fun (p:(List Int)×(List Int))=>match p with
 | (u,v) =>
 (bnd (bnd (Zp (fun s:(List Int)×(List Int)×Int=>match s with
 | (h,i,a) =>
 (ifb (decide (a<(t.length:Int)))
 (bnd (idx t a) fun j =>
 bnd (bnd (Zp (fun s:(List Int)×(List Int)×Int=>match s with
 | (e,f,b) =>
 (ifb (decide (b<(j.length:Int)))
 (bnd (idx j b) fun k =>
 bnd (idx e a) fun w =>
 bnd (chk .i64 (w+k)) fun x =>
 bnd (idx e a) fun ap =>
 bnd (idx f b) fun y =>
 bnd (chk .i64 (y+k)) fun z =>
 bnd (idx f b) fun aq =>
 bnd (chk .i64 (b+(1:Int))) fun A =>
 some (.inl (((e.set (a).toNat x),(f.set (b).toNat z),A))))
 (some (.inr ((e,f)))))) Zu ((h,i,(0:Int))))
 (fun (p:(List Int)×(List Int))=>match p with
 | (B,C) =>
 (some ((B,C)))))
 (fun (p:(List Int)×(List Int))=>match p with
 | (D,E) =>
 (bnd (chk .i64 (a+(1:Int))) fun F =>
 some (.inl ((D,E,F))))))
 (some (.inr ((h,i)))))) Zu ((u,v,(0:Int))))
 (fun (p:(List Int)×(List Int))=>match p with
 | (G,H) =>
 (some ((G,H)))))
 (fun (p:(List Int)×(List Int))=>match p with
 | (I,J) =>
 (bnd (bnd (Zp (fun s:Rat×Rat×Int=>match s with
 | (l,m,c) =>
 (ifb (decide (c<(t.length:Int)))
 (bnd (idx t c) fun o =>
 bnd (bnd (Zp (fun s:Rat×Rat×Int=>match s with
 | (q,r,d) =>
 (ifb (decide (d<(o.length:Int)))
 (bnd (idx o d) fun K =>
 bnd (ZSk c d) fun L =>
 bnd (Zgc K) fun M =>
 bnd (ZXa L M) fun N =>
 bnd (Zob q N) fun O =>
 bnd (ZSk c d) fun P =>
 bnd (idx I c) fun Q =>
 bnd (Zgc Q) fun R =>
 bnd (ZXa P R) fun S =>
 bnd (idx J d) fun T =>
 bnd (Zgc T) fun U =>
 bnd (ZXa S U) fun V =>
 bnd (Zob r V) fun W =>
 bnd (chk .i64 (d+(1:Int))) fun X =>
 some (.inl ((O,W,X))))
 (some (.inr ((q,r)))))) Zu ((l,m,(0:Int))))
 (fun (p:Rat×Rat)=>match p with
 | (Y,Z) =>
 (some ((Y,Z)))))
 (fun (p:Rat×Rat)=>match p with
 | (aa,ab) =>
 (bnd (chk .i64 (c+(1:Int))) fun ac =>
 some (.inl ((aa,ab,ac))))))
 (some (.inr ((l,m)))))) Zu (((0:Rat),(0:Rat),(0:Int))))
 (fun (p:Rat×Rat)=>match p with
 | (ad,ae) =>
 (some ((ad,ae)))))
 (fun (p:Rat×Rat)=>match p with
 | (af,ag) =>
 (bnd (Zgc n) fun ah =>
 bnd (Zji af ah) fun ai =>
 bnd (Zgc n) fun aj =>
 bnd (Zgc n) fun ak =>
 bnd (ZXa aj ak) fun al =>
 bnd (Zji ag al) fun am =>
 some ((ai,am))))))))
noncomputable def ZFu (r:(List Int)) (t:(List (List Int))):Option (Bool) :=
 some (((r.length:Int)) != ((t.length:Int)))
noncomputable def ZWw (l:(List (List Int))) (g:(List (List Int))):Option (Int) :=
 bnd (bnd (Zp (fun s:Int=>match s with
 | a =>
 (ifb (decide (a<(l.length:Int)))
 (bnd (idx l a) fun b =>
 bnd (ZFu b g) fun c =>
 ifb (c)
 (some (.inr ((.inl a))))
 (bnd (chk .i64 (a+(1:Int))) fun d =>
 some (.inl d)))
 (some (.inr ((.inr (()))))))) Zu (0:Int))
 (fun (p:(Int) ⊕ (Unit))=>match p with
 | .inl e =>
 (some ((.inr e)))
 | .inr (()) =>
 (some ((.inl (()))))))
 (fun (p:(Unit) ⊕ (Int))=>match p with
 | .inl (()) =>
 (some (-1:Int))
 | .inr f =>
 (some f))
noncomputable def Z9v (l:(List (List Int))) (g:(List (List Int))):Option (Bool) :=
 bnd (ZWw l g) fun a =>
 some (decide ((0:Int)≤a))
noncomputable def Z4m (t:(List (List Int))):Option (Int×Int) :=
 bnd (ifb (((t.length:Int))==(0:Int))
 (some ((t,true)))
 (ifb (decide ((8:Int)<(t.length:Int)))
 (some ((t,true)))
 (bnd (Z9v t t) fun i =>
 some ((t,i)))))
 (fun (p:(List (List Int))×Bool)=>match p with
 | (d,j) =>
 (ifb (j)
 (some (((0:Int),(4:Int))))
 (bnd (bnd (Zp (fun s:Int×Int=>match s with
 | (e,a) =>
 (ifb (decide (a<(d.length:Int)))
 (bnd (idx d a) fun f =>
 bnd (bnd (Zp (fun s:Int×Int=>match s with
 | (g,b) =>
 (ifb (decide (b<(f.length:Int)))
 (bnd (idx f b) fun c =>
 bnd (ifb (decide (c<(0:Int)))
 (some true)
 (some (decide ((1000000:Int)<c))))
 (fun (k:Bool) =>
 (ifb (k)
 (some (.inr ((.inl (((0:Int),(1:Int)))))))
 (bnd (chk .i64 (g+c)) fun l =>
 bnd (chk .i64 (b+(1:Int))) fun m =>
 some (.inl ((l,m)))))))
 (some (.inr ((.inr g)))))) Zu ((e,(0:Int))))
 (fun (p:(Int×Int) ⊕ (Int))=>match p with
 | .inl ((n,o)) =>
 (some ((.inr ((n,o)))))
 | .inr q =>
 (some ((.inl q)))))
 (fun (p:(Int) ⊕ (Int×Int))=>match p with
 | .inl r =>
 (bnd (chk .i64 (a+(1:Int))) fun u =>
 some (.inl ((r,u))))
 | .inr ((v,w)) =>
 (some (.inr ((.inl ((v,w))))))))
 (some (.inr ((.inr e)))))) Zu (((0:Int),(0:Int))))
 (fun (p:(Int×Int) ⊕ (Int))=>match p with
 | .inl ((x,y)) =>
 (some ((.inr ((x,y)))))
 | .inr z =>
 (some ((.inl z)))))
 (fun (p:(Int) ⊕ (Int×Int))=>match p with
 | .inl h =>
 (ifb (h==(0:Int))
 (some (((0:Int),(3:Int))))
 (some ((h,(0:Int)))))
 | .inr ((A,B)) =>
 (some ((A,B)))))))
noncomputable def ZOv (t:(List (List Int))) (g:Unit):Option (Rat×Int) :=
 bnd (Z4m t) fun a =>
 ifb (a.2 != (0:Int))
 (some (((0:Rat),a.2)))
 (bnd (Zxv t a.1 (())) fun b =>
 bnd (bnd (ZSb b.1 b.2) fun d =>
 bnd (Zgc (1:Int)) fun e =>
 bnd (ZSb e b.2) fun f =>
 bnd (Z2c d f) fun c =>
 some ((c.2,c.1)))
 (fun (p:Int×Rat)=>match p with
 | (h,i) =>
 (ifb (h != (0:Int))
 (some (((0:Rat),(5:Int))))
 (some ((i,(0:Int)))))))
noncomputable def Zfn (t:(List (List Int))):Option (Rat×Int) :=
 bnd (ZOv t (())) fun a =>
 some ((a.1,a.2))
noncomputable def ZVf (l:(List (Int×Int))):Option ((List Rat)×(List Rat)) :=
 bnd (bnd (Zp (fun s:(List Rat)×(List Rat)×Int=>match s with
 | (b,c,d) =>
 (ifb (decide (d<(l.length:Int)))
 (bnd (idx l d) fun a =>
 bnd (ZKb ((a.1,a.2))) fun e =>
 bnd (ZO 56 (b++[e])) fun m =>
 bnd (Zpe ((a.1,a.2))) fun f =>
 bnd (ZO 56 (c++[f])) fun n =>
 bnd (chk .i64 (d+(1:Int))) fun g =>
 some (.inl (((b++[e]),(c++[f]),g))))
 (some (.inr ((b,c)))))) Zu ((([]:(List Rat)),([]:(List Rat)),(0:Int))))
 (fun (p:(List Rat)×(List Rat))=>match p with
 | (h,i) =>
 (some ((h,i)))))
 (fun (p:(List Rat)×(List Rat))=>match p with
 | (j,k) =>
 (some ((j,k))))
noncomputable def Zyn (step:(Int×Int)) (limits:(List (Int×Int))):Option ((Rat×(List Rat))×(Rat×(List Rat))) :=
 bnd (ZVf limits) fun a =>
 bnd (ZKb ((step.1,step.2))) fun b =>
 bnd (Zpe ((step.1,step.2))) fun c =>
 some (((b,a.1),(c,a.2)))
noncomputable def ZZf  : Option (Bool) :=
 bnd (Z8n ((((2:Int),(0:Int)),((1:Int),(2:Int)),((4000:Int),(0:Int))))) fun a =>
 bnd (bnd (ZCc (48:Int)) fun f =>
 bnd (ZCc (8:Int)) fun g =>
 bnd (ZCn ((a.1.1,a.1.2.1,a.1.2.2)) f g) fun b =>
 some ((b.1,b.2)))
 (fun (p:Rat×Int)=>match p with
 | (h,i) =>
 (bnd (Zfn ([[(20:Int),(5:Int)],[(10:Int),(15:Int)]])) fun c =>
 bnd (Zyn (((1:Int),(10:Int))) ([((1:Int),(0:Int)),((2:Int),(0:Int))])) fun d =>
 bnd (ZKb (((206:Int),(100:Int)))) fun j =>
 bnd (Zkn ((d.1.1,d.1.2)) j) fun e =>
 bnd (ifb (i==(0:Int))
 (ifb (c.2==(0:Int))
 (ifb (e.2==(0:Int))
 (bnd (Z6d h) fun k =>
 ifb (k==(([53,48]:List UInt8)))
 (bnd (Z6d c.1) fun l =>
 ifb (l==(([50,47,53]:List UInt8)))
 (some (e.1==(2:Int)))
 (some false))
 (some false))
 (some false))
 (some false))
 (some false))
 (fun (m:Bool) =>
 (some m))))
set_option maxRecDepth 100000 in
theorem Z0n:ZZf=some true:=by
 unfold ZZf;rw [Z4s];decide +kernel
noncomputable def Zik (l:List (Int×Int)) (k:List (Int×Int)) (a:Int×Int) (b:Int×Int):Option Bool :=
 bnd (α:=Bool)
 (ifb (decide ((40:Int)<(l.length:Int)))
 (some true)
 (some (decide ((40:Int)<(k.length:Int))))) fun m =>
 ifb m
 (bnd ZZf fun n =>
 some n)
 (bnd (ZVf l) fun d =>
 bnd (ZVf k) fun f =>
 bnd (ZVe d.1 f.1) fun e =>
 bnd (ZLf d.2 f.2) fun g =>
 bnd (α:=Bool)
 (ifb (e.2.2 != g.2.2)
 (some true)
 (bnd (ZTe e.1 g.1) fun o =>
 ifb (!o)
 (some true)
 (bnd (ZTe e.2.1 g.2.1) fun p =>
 some (!p)))) fun q =>
 ifb q
 (some false)
 (ifb (e.2.2 != (0:Int))
 (bnd ZZf fun r =>
 some r)
 (bnd (Zp (σ:=(List Rat)×Int×Rat) (ρ:=(List Rat)×Rat) (fun c =>
 ifb (decide (c.2.1<(d.1.length:Int)))
 (bnd (idx d.1 c.2.1) fun s =>
 bnd (ZXa e.1 s) fun t =>
 bnd (Zob c.2.2 t) fun u =>
 bnd (Zob u e.2.1) fun v =>
 bnd (idx f.1 c.2.1) fun w =>
 bnd (ZSb v w) fun x =>
 bnd (ZKb a) fun y =>
 bnd (idx d.1 c.2.1) fun z =>
 bnd (ZXa y z) fun A =>
 bnd (ZKb b) fun B =>
 bnd (Zob A B) fun i =>
 bnd (ZO 56 (c.1++[i])) fun _ =>
 bnd (chk .i64 (c.2.1+(1:Int))) fun C =>
 some (.inl (c.1++[i],C,x)))
 (some (.inr (c.1,c.2.2))))
     Zu (([]:List Rat),(0:Int),(0:Rat))) fun j =>
 bnd (ZVe d.1 j.1) fun h =>
 bnd (α:=Bool)
 (ifb (h.2.2==(0:Int))
 (bnd (Zbd j.2) fun D =>
 ifb D
 (bnd (ZKb a) fun E =>
 bnd (ZIg h.1 E) fun F =>
 ifb F
 (bnd (ZKb b) fun G =>
 bnd (ZIg h.2.1 G) fun H =>
 ifb H
 (bnd ZZf fun I =>
 some I)
 (some false))
 (some false))
 (some false))
 (some false)) fun J =>
 some J)))
theorem ZCo (l:List (Int×Int)) (hl:l.length≤1000):ZVf l=some (vx l.length fun i=>ZE (l.getD i (0,0)),vx l.length fun i=>ZE (l.getD i (0,0))):=by
 unfold ZVf ZKb Zpe;refine Zra (y:=(vx l.length fun i=>ZE (l.getD i (0,0)),vx l.length fun i=>ZE (l.getD i (0,0)))) (Zra (y:=(vx l.length fun i=>ZE (l.getD i (0,0)),vx l.length fun i=>ZE (l.getD i (0,0)))) (Zjb (fun k=>(vx k fun i=>ZE (l.getD i (0,0)),vx k fun i=>ZE (l.getD i (0,0)),(k:Int))) l.length rfl (by omega) (fun k hk=>?_) ?_) rfl) rfl
 ·have e:vx k (fun i=>ZE (l.getD i (0,0)))++[ZE (l[k].1,l[k].2)]=vx (k+1) fun i=>ZE (l.getD i (0,0)):=by
   rw [← ZIf];simp [List.getD_eq_getElem?_getD,hk]
  have hroom:ZO 56 (vx (k+1) fun i=>ZE (l.getD i (0,0)))=some ():=Zhb (by rw [Z7];omega);simp only;rw [decide_eq_true (by omega),Zh,ZD hk,Za,Za,e,hroom,Za,Za,e,hroom,Za,ZB (by omega) (by omega),Za];rfl
 ·simp only;rw [decide_eq_false (by omega),Zf]
theorem Zoo (n:Nat) (c:Rat):sm n (fun _=>c)=c*(n:Rat):=by
 rw [← ZSp n,← Zad n c fun _=>1];exact Z5a fun i hi=>by grind
def alC (n m:Nat) (x y:Nat→Rat):Rat×Rat×Int:=if n≠m∨n<2∨32<n then (0,0,4) else alF n x y
theorem ZIq {n m:Nat} {x y:Nat→Rat} (hx:∀ i,i<n→sz 1000 (x i)) (hy:∀ i,i<m→sz 1000 (y i)):ZVe (vx n x) (vx m y)=some (alC n m x y):=by
 unfold alC;by_cases h:n≠m∨n<2∨32<n
 ·rw [if_pos h];unfold ZVe;rw [Z7,Z7];refine Zra (y:=true) ?_ (Zh _ _);by_cases h1:n=m
  ·rw [show ((n:Int) != (m:Int))=false by simp [h1],Zf];by_cases h2:n<2
   ·rw [decide_eq_true (by omega),Zh]
   ·rw [decide_eq_false (by omega),Zf,decide_eq_true (by omega)]
  ·rw [show ((n:Int) != (m:Int))=true by simp;omega,Zh]
 ·rw [if_neg h];obtain rfl:n=m:=by omega
  exact Zox (by omega) (by omega) hx hy
theorem ZBw {n m:Nat} {x y:Nat→Rat} (hx:∀ i,i<n→sz 1000 (x i)) (hy:∀ i,i<m→sz 1000 (y i)):ZLf (vx n x) (vx m y)=some (alC n m x y):=by
 unfold alC;by_cases h:n≠m∨n<2∨32<n
 ·rw [if_pos h];unfold ZLf;rw [Z7,Z7];refine Zra (y:=true) ?_ ?_
  ·by_cases h1:n=m
   ·rw [show ((n:Int) != (m:Int))=false by simp [h1],Zf];by_cases h2:n<2
    ·rw [decide_eq_true (by omega),Zh]
    ·rw [decide_eq_false (by omega),Zf,decide_eq_true (by omega)]
   ·rw [show ((n:Int) != (m:Int))=true by simp;omega,Zh]
  ·rw [Zh,ZBp,Za,Za]
 ·rw [if_neg h];obtain rfl:n=m:=by omega
  exact ZAw (by omega) (by omega) hx hy
theorem Z0u (l k:List (Int×Int)) (a b:Int×Int) (hl:∀ x ∈ l,i64 x) (hk:∀ x ∈ k,i64 x) (ha:i64 a) (hb:i64 b):Zik l k a b=some true:=by
 unfold Zik;by_cases h40:40<l.length∨40<k.length
 ·refine Zra (y:=true) ?_ ?_
  ·by_cases h:40<l.length
   ·rw [decide_eq_true (by omega),Zh]
   ·rw [decide_eq_false (by omega),Zf,decide_eq_true (by omega)]
  ·rw [Zh,Z0n,Za]
 ·rw [decide_eq_false (by omega),Zf,decide_eq_false (by omega),Za,Zf,ZCo l (by omega),Za,ZCo k (by omega),Za];have of:∀ (q:List (Int×Int)),(∀ x ∈ q,i64 x)→∀ i,i<q.length→sz 64 (ZE (q.getD i (0,0))):=fun q hq i hi=>by
   rw [show q.getD i (0,0)=q[i] by simp [List.getD_eq_getElem?_getD,hi]];exact ZFm (hq _ (List.getElem_mem _))
  have hx:=of l hl;have hy:=of k hk;generalize hX:(fun i=>ZE (l.getD i (0,0)))=x at *;generalize hY:(fun i=>ZE (k.getD i (0,0)))=y at *
  replace hx:∀ i,i<l.length→sz 64 (x i):=by rw [← hX];exact hx
  replace hy:∀ i,i<k.length→sz 64 (y i):=by rw [← hY];exact hy
  have hx':∀ i,i<l.length→sz 1000 (x i):=fun i hi=>(hx i hi).mono (by omega);have hy':∀ i,i<k.length→sz 1000 (y i):=fun i hi=>(hy i hi).mono (by omega);simp only;rw [ZIq hx' hy',Za,ZBw hx' hy',Za];have same:∀ z:Rat×Rat×Int,sz 600000 z.1→sz 600000 z.2.1→(ifb (z.2.2 != z.2.2) (some true) (bnd (ZTe z.1 z.1) fun y7=>ifb (!y7) (some true) (bnd (ZTe z.2.1 z.2.1) fun y8=>some (!y8))))=some false:=fun z h1 h2=>by
   rw [show (z.2.2 != z.2.2)=false by simp,Zf,Zxq h1 (by omega),Za,show (!true)=false from rfl,Zf,Zxq h2 (by omega),Za];rfl
  have zc:sz 600000 (alC l.length k.length x y).1∧sz 600000 (alC l.length k.length x y).2.1:=by
   unfold alC alF;split
   ·exact ⟨Z1g.mono (by omega),Z1g.mono (by omega)⟩
   ·split
    ·exact ⟨Z1g.mono (by omega),Z1g.mono (by omega)⟩
    ·have:=ZKj (R:=l.length) (by omega) hx' (fun i hi=>hy' i (by omega));exact ⟨this.2.2.2.2.2.1.mono (by omega),this.2.2.2.2.2.2⟩
  rw [same _ zc.1 zc.2,Za,Zf];by_cases hc:(alC l.length k.length x y).2.2=0
  ·rw [show ((alC l.length k.length x y).2.2 != (0:Int))=false by simp [hc],Zf];have hg:¬(l.length≠k.length∨l.length<2∨32<l.length):=fun h=>by
    unfold alC at hc;rw [if_pos h] at hc;exact absurd hc (by decide)
   have hn:k.length=l.length:=by omega
   have hd:alD l.length x≠0:=fun h=>by
    unfold alC at hc;rw [if_neg hg] at hc;unfold alF at hc;rw [if_pos h] at hc;exact absurd hc (by decide)
   have R0:(l.length:Rat)≠0:=Zbo (by omega);have ev:alC l.length k.length x y=(alA l.length x y,alB l.length x y,0):=by
    unfold alC;rw [if_neg hg];unfold alF;rw [if_neg hd]
   rw [ev,hn];rw [hn] at hy hy';obtain ⟨z1,z2,z3,z4,z5,z6,z7⟩:=ZKj (R:=l.length) (by omega) hx' hy';unfold ZKb;have sA:=ZFm ha;have sB:=ZFm hb;refine Zra (y:=(vx l.length fun i=>ZE a*x i+ZE b,sm l.length fun i=>alA l.length x y*x i+alB l.length x y-y i)) (Zjb (fun q=>(vx q fun i=>ZE a*x i+ZE b,(q:Int),sm q fun i=>alA l.length x y*x i+alB l.length x y-y i)) l.length rfl (by omega) (fun q hq=>?_) ?_) ?_
   ·have s1:=Zoa z6 (hx q hq);have s0:sz (q*(2000000+1)+1) (sm q fun i=>alA l.length x y*x i+alB l.length x y-y i):=ZAe fun j hj=>(Z3g (ZYf (Zoa z6 (hx j (by omega))) z7) (hy j (by omega))).mono (by omega);have s2:=Zoa sA (hx q hq);have s3:=ZYf s2 sB;simp only [Z7];rw [decide_eq_true (by omega),Zh,ZCa _ hq,Za,Zsi z6 (hx q hq) (by omega) (by omega),Za,ZQk s0 s1 (by omega) (by omega),Za,ZQk (ZYf s0 s1) z7 (by omega) (by omega),Za,ZCa _ hq,Za,qsubB (ZYf (ZYf s0 s1) z7) (hy q hq) (by omega) (by omega),Za,Za,Za,Zsi sA (hx q hq) (by omega) (by omega),Za,Za,ZQk s2 sB (by omega) (by omega),Za,ZIf q (fun i=>ZE a*x i+ZE b),Zhb (by rw [Z7];omega),Za,ZB (by omega) (by omega),Za];refine congrArg (fun x=>some (Sum.inl x)) (Prod.ext rfl (Prod.ext (by simp) ?_));show _=sm q _+(_+_-_);grind
   ·simp only [Z7];rw [decide_eq_false (by omega),Zf]
   ·simp only;have sw:∀ i,i<l.length→sz 1000 (ZE a*x i+ZE b):=fun i hi=>(ZYf (Zoa sA (hx i hi)) sB).mono (by omega);rw [ZIq hx' sw,Za];have e1:sm l.length (fun i=>ZE a*x i+ZE b)=ZE a*sm l.length x+ZE b*(l.length:Rat):=by
     rw [Z7h,Zad,Zoo]
    have e2:sm l.length (fun i=>x i*(ZE a*x i+ZE b))=ZE a*sm l.length (fun i=>x i*x i)+ZE b*sm l.length x:=by
     rw [← Zad,← Zad,← Z7h];exact Z5a fun i hi=>by grind
    have eA:alA l.length x (fun i=>ZE a*x i+ZE b)=ZE a:=by
     unfold alA;rw [e1,e2];unfold alD at hd ⊢;grind
    have eB:alB l.length x (fun i=>ZE a*x i+ZE b)=ZE b:=by
     unfold alB;rw [eA,e1];grind
    have e3:sm l.length (fun i=>alA l.length x y*x i+alB l.length x y-y i)=0:=by
     rw [ZZo,Z7h,Zad];have:sm l.length (fun _=>alB l.length x y)=alB l.length x y*(l.length:Rat):=Zoo _ _;rw [this];have:alB l.length x y*(l.length:Rat)=sm l.length y-alA l.length x y*sm l.length x:=by unfold alB;grind
     rw [this];grind
    have ev2:alC l.length l.length x (fun i=>ZE a*x i+ZE b)=(ZE a,ZE b,0):=by
     unfold alC;rw [if_neg (by omega)];unfold alF;rw [if_neg hd,eA,eB]
    rw [ev2,e3];unfold Zbd ZIg;rw [show (((ZE a,ZE b,(0:Int)):Rat×Rat×Int).2.2==(0:Int))=true from rfl,Zh,Za,decide_eq_true rfl,Zh,Za,Za,decide_eq_true rfl,Zh,Za,Za,decide_eq_true rfl,Zh,Z0n,Za,Za]
  ·rw [show ((alC l.length k.length x y).2.2 != (0:Int))=true by simp [hc],Zh,Z0n,Za]
theorem ZFo {α:Type} {A:Rep α} {v:Zb} {cs:List Value} {l:List α} (h:(Zy A).rel v cs l) {x:α} (hx:x ∈ l):∃ c,A.rel v c x:=by
 obtain ⟨q,cap,rfl,h1,h2,h3⟩:=h;rcases h3 with rfl | ⟨b,off,c,T,fr,e,hb,hr⟩
 ·cases hx
 ·obtain ⟨i,hi,rfl⟩:=List.getElem_of_mem hx;exact ⟨_,Zga hr (List.getElem?_eq_getElem hi)⟩
theorem ZQp {v:Zb} {c:List Value} {r:Int×Int} (h:Rep.rel (Zxa (Zd .i64) (Zd .i64)) v c r):i64 r:=by
 obtain ⟨c1,c2,_,⟨_,h1⟩,_,h2⟩:=h;exact ⟨ZMa.1 h1,ZMa.1 h2⟩
end Go.Eng
namespace Go.Eng
open Go.RowKit
section
variable {P:Program} {N:Nat} {G:V→Value→Prop} {w0:Base} {v0:Zb} {U X:Nat→Prop} {f:Fr} {l:Lo} {a:Act} {w:World} {γ:Nat→Gh} {v:Zb} {ℓ:List Loc} {n:Nat}
variable {d:Option Nat} {ty:TypeId} {pos:String} {aft:Array Edge} {g:Option (Nat×Bool)}
theorem Z3q {ty:TypeId} {t:T} (hs:St N w0 v0 [] ℓ v a w):∀ k:Nat,∃ es,Zwa v ty t (List.replicate k (none,0)) (List.replicate k ([]:List t.den)) es∧St N w0 v0 [] (es++ℓ) v a w
 | 0=>⟨[],rfl,hs⟩
 | k+1=>by
  obtain ⟨es,h1,h2⟩:=Z3q hs k
  exact ⟨.own none ty t.n 0 0 [] :: es,⟨[],es,rfl,rfl,h1⟩,h2.nilLoc ty t.n⟩
theorem Zjr {α:Type}:∀ k:Nat,Zt (List.replicate k ((none:Option Nat),0)) (List.replicate k ([]:List α))=(List.replicate k [Value.slice none 0 0]).flatten
 | 0=>rfl
 | k+1=>by simp only [List.replicate_succ,Zt,List.flatten_cons,Zjr k];rfl
theorem ZMv {C:Cf} (hr:RelX N G w0 v0 U X f l a w γ v ℓ) (hU:∀ k,U k→X k) (hX:X n) (hn:¬ U n) {t:TypeId} {x y:Operand} {o:Oper} {Post:Unit→Fr→Lo→Prop} (ho:o=⟨d,.makeSlice t x y,ty,pos,aft,g⟩) (hd:∀ k,o.dst=some k→k<N)
  (h:Zq n (ZZ C n o) f l Post):ZHa C.P N G w0 v0 X o a w Post:=by
 subst ho;simp only [ZZ] at h;obtain ⟨V1,h1,_,hA⟩:=ZY hr h;obtain ⟨V2,h2,_,hB⟩:=ZY hr hA;obtain ⟨κ,i,rfl,hC⟩:=ZAd hB;obtain ⟨κ',j,rfl,hD⟩:=ZAd hC;clear h hA hB hC;have h:=hD;obtain ⟨e1,_⟩:=Zrc h1;obtain ⟨e2,_⟩:=Zrc h2;split at h
 ·rename_i q dd hq;obtain ⟨hE,hby⟩:=ZKl hq;obtain ⟨_,hmk,h⟩:=h;obtain ⟨m0,m1,m2,m3⟩:=ZPa hmk;obtain ⟨E,hEE,hp⟩:=hr.lr;have hst:=hr.st.perm hp;obtain ⟨σ,hσ,ev1,ev2⟩:=hst.ev2 x y;rw [e1] at ev1;rw [e2] at ev2;obtain ⟨b,w',hrun,hst'⟩:=ZVl hE hσ m0 m1 m2 m3;have hrun':=hrun (d:=some dd) (ty:=ty) (pos:=pos) (aft:=aft) (g:=g) ev1 ev2;split at h
  ·split at h
   ·rename_i q2 r hq2 hz hs1;have hs1:=Nat.eq_of_beq_eq_true hs1;split at h
    ·rename_i s hs;split at h
     ·have hz1:q.z.cells.toList=[.slice none 0 0]:=by
       have h1:=ZKe hz;have h2:=hE.cells;rw [hs1] at h2;have h3:q.z.cells.toList.length=1:=by simpa using h2
       rw [h1] at h3 ⊢;simp at h3;rw [h3]
      obtain ⟨es,hR,hst2⟩:=Z3q (ty:=q2.e) (t:=s) hst'.bare i.toNat;have hst3:St N w0 v0 [] (.own (some b) q.e 1 (List.replicate i.toNat ([]:List s.den)).length j.toNat (Zt (List.replicate i.toNat ((none:Option Nat),0)) (List.replicate i.toNat ([]:List s.den))) :: es++E.flatten) v a w':=by
       rw [Zjr,List.length_replicate];rw [hs1,hz1] at hst2;exact hst2.perm List.perm_middle
      have hrun2:=hrun';rw [show (Value.slice (mkA (some b)) i.toNat j.toNat) = .slice (mkA (some b)) (List.replicate i.toNat ([]:List s.den)).length j.toNat by rw [List.length_replicate]] at hrun2;exact ZIj hr hU hX hn hd hEE rfl hR hst3 hrun2 h
     ·exact h.elim
    ·exact h.elim
   ·exact h.elim
  ·split at h
   ·rename_i s hs;split at h
    ·rename_i z r hz hzo hsz;have hsz:=Nat.eq_of_beq_eq_true hsz;obtain ⟨c1,k1,k2⟩:=Zfq (v:=v) hzo hz;have hl:=Rep.len _ k2;have hc:=hE.cells;have hr0:r=[]:=by
      have:q.z.cells.toList.length=q.sz:=by simpa using hc
      rw [k1,List.length_append,hl,ZQ,hsz] at this;exact List.length_eq_zero_iff.1 (by omega)
     rw [hr0,List.append_nil] at k1;have hrel:=Z1d k2 i.toNat;rw [k1] at hst';have hst2:St N w0 v0 [] (.own (some b) q.e s.n (List.replicate i.toNat z).length j.toNat (List.replicate i.toNat c1).flatten :: E.flatten) v a w':=by
      rw [List.length_replicate,← hsz];exact hst'.bare
     have hrun2:=hrun';rw [show (Value.slice (mkA (some b)) i.toNat j.toNat) = .slice (mkA (some b)) (List.replicate i.toNat z).length j.toNat by rw [List.length_replicate]] at hrun2;exact Zch hr hU hX hn hd hEE rfl hst2 hrel hrun2 h
    ·exact h.elim
   ·exact h.elim
 ·exact h.elim
theorem Zqq {x:V} {cs:List Value} (h:RR v γ l false x cs) (hk:x.ok U):RR v γ l false (ZDf x) cs∧(ZDf x).ok U:=by
 unfold ZDf;split
 ·split
  ·rename_i hc;obtain ⟨h1,h2⟩:=Zan (U:=U) (γ:=γ) (l:=l) hc h;exact ⟨h1,h2⟩
  ·exact ⟨h,hk⟩
 ·exact ⟨h,hk⟩
theorem ZOp:∀ {fs:List Field},Zzj P fs=true→∀ w,∃ L:List (Nat×Nat),(fs.mapM fun (f:Field)=>(do pure (f.offset,← sizeOf f.type):Sem (Nat×Nat))).run P w = .ok L w∧∀ (i:Nat) fd,fs[i]? = some fd→∃ inf,P.info? fd.type=some inf∧L[i]? = some (fd.offset,inf.size)
 | [],_,w=>⟨[],by simp,fun i fd h=>by simp at h⟩
 | fd :: fs,h,w=>by
  simp only [Zzj] at h
  split at h
  ·rename_i inf hinf
   obtain ⟨L,h1,h2⟩:=ZOp h w
   refine ⟨(fd.offset,inf.size) :: L,?_,fun i fd' hi=>?_⟩
   ·simp at h1
    simp [List.mapM_cons,ZXj hinf,h1]
   ·cases i with
    | zero=>simp at hi;subst hi;exact ⟨inf,hinf,rfl⟩
    | succ i=>simp at hi;simpa using h2 i fd' hi
  ·cases h
theorem ZSr {s:TypeId} {fs:Array Field} (hs:P.underlying s=some (.struct fs)) {places:Nat→Option (Nat×Nat)} (hp:∀ (i:Nat) (fd:Field),fs.toList[i]? = some fd→∃ inf,P.info? fd.type=some inf∧places i=some (fd.offset,inf.size)) :
  ∀ {ps:List (Nat×Operand)} {c z z':V} {cs:List Value} {vals:List Value},RR v γ l true c vals→c.ok U→vals.length=ps.length→RR v γ l false z cs→z.ok U→putF P s z (zipV ps c)=some z' →
  ∃ cs',Instr.fill places cs.toArray ((ps.map (·.1)).zip vals)=some cs'.toArray∧RR v γ l false z' cs'∧z'.ok U∧z'.isAgg=z.isAgg
 | [],c,z,z',cs,vals,hc,hk,hl,hz,hkz,h=>by
  have hv:vals=[]:=List.length_eq_zero_iff.1 hl
  subst hv
  have h:some z=some z':=by
   cases c <;> exact h
  cases h
  exact ⟨cs,rfl,hz,hkz,rfl⟩
 | p :: ps,c,z,z',cs,vals,hc,hk,hl,hz,hkz,h=>by
  cases vals with
  | nil=>simp at hl
  | cons y vals =>
   cases c with
   | cons x c =>
    obtain ⟨cx,vs,e,h1,h2⟩:=hc
    cases e
    simp only [zipV,putF] at h;split at h
    ·rename_i fd hfd;split at h
     ·rename_i q hq;split at h
      ·rename_i zz hsz hfit hput;have hsz:=Nat.eq_of_beq_eq_true hsz;obtain ⟨k1,k2,k3,k4⟩:=Z8e FU hput hz h1 hkz hk.1;have hfd':fs.toList[p.1]? = some fd:=by
        unfold fldT at hfd;rw [hs] at hfd;exact hfd
       obtain ⟨inf,hinf,hpl⟩:=hp _ _ hfd';have hlen:cx.length=inf.size:=by
        rw [ZDd h1,hsz];unfold szA at hq;rw [hinf] at hq;split at hq
        ·rename_i i d e1 e2;cases e1;cases hq;rfl
        ·cases hq
       obtain ⟨hcells,_⟩:=Z2i h1 hfit;obtain ⟨cs',q1,q2,q3,q4⟩:=ZSr hs hp (ps:=ps) h2 hk.2 (by simpa using hl) k1 k2 h;refine ⟨cs',?_,q2,q3,q4.trans k4⟩;simp only [List.map_cons,List.zip_cons_cons];rw [ZCm (cs:=cx) (off:=fd.offset) (by rw [hpl,hlen]) hcells (by simpa using k3)]
       simpa using q1
      ·cases h
     ·cases h
    ·cases h
   | nl=>cases (show (y :: vals)=[] from hc)
   | _=>exact (show False from hc).elim
theorem Zso {n sz:Nat} {places:Nat→Option (Nat×Nat)} (hp:∀ i,i<n→places i=some (i*sz,sz)) :
  ∀ {ps:List (Nat×Operand)} {c z z':V} {cs:List Value} {vals:List Value},RR v γ l true c vals→c.ok U→vals.length=ps.length→RR v γ l false z cs→z.ok U→putA n sz z (zipV ps c)=some z' →
  ∃ cs',Instr.fill places cs.toArray ((ps.map (·.1)).zip vals)=some cs'.toArray∧RR v γ l false z' cs'∧z'.ok U∧z'.isAgg=z.isAgg
 | [],c,z,z',cs,vals,hc,hk,hl,hz,hkz,h=>by
  have hv:vals=[]:=List.length_eq_zero_iff.1 hl
  subst hv
  have h:some z=some z':=by
   cases c <;> exact h
  cases h
  exact ⟨cs,rfl,hz,hkz,rfl⟩
 | p :: ps,c,z,z',cs,vals,hc,hk,hl,hz,hkz,h=>by
  cases vals with
  | nil=>simp at hl
  | cons y vals =>
   cases c with
   | cons x c =>
    obtain ⟨cx,vs,e,h1,h2⟩:=hc
    cases e
    simp only [zipV,putA] at h;split at h
    ·rename_i zz hlt hsz hfit hput;have hlt:p.1<n:=Nat.le_of_ble_eq_true hlt;have hsz:=Nat.eq_of_beq_eq_true hsz;obtain ⟨k1,k2,k3,k4⟩:=Z8e FU hput hz h1 hkz hk.1;have hlen:cx.length=sz:=by rw [ZDd h1,hsz]
     obtain ⟨hcells,_⟩:=Z2i h1 hfit;obtain ⟨cs',q1,q2,q3,q4⟩:=Zso hp (ps:=ps) h2 hk.2 (by simpa using hl) k1 k2 h;refine ⟨cs',?_,q2,q3,q4.trans k4⟩;simp only [List.map_cons,List.zip_cons_cons];rw [ZCm (cs:=cx) (off:=p.1*sz) (by rw [hp _ hlt,hlen]) hcells (by simpa using k3)]
     simpa using q1
    ·cases h
   | nl=>cases (show (y :: vals)=[] from hc)
   | _=>exact (show False from hc).elim
theorem ZMt {C:Cf} (hr:RelX N G w0 v0 U X f l a w γ v ℓ) (hU:∀ k,U k→X k) (hX:X n) {t:TypeId} {ps:Array (Nat×Operand)} {o:Oper} {Post:Unit→Fr→Lo→Prop} (ho:o=⟨d,.build t ps,ty,pos,aft,g⟩) (hd:∀ k,o.dst=some k→k<N)
  (h:Zq n (ZZ C n o) f l Post):ZHa C.P N G w0 v0 X o a w Post:=by
 subst ho;simp only [ZZ] at h;split at h
 ·rename_i z fs hz ht;split at h
  ·rename_i hfl hag1 hag2;obtain ⟨y,cs,hy,hcells,hzz,hkz,_⟩:=Zbn (v:=v) (γ:=γ) (l:=l) (U:=U) hz;obtain ⟨L,hL1,hL2⟩:=ZOp hfl w;have hA:(fs.mapM fun (f:Field)=>(do pure (f.offset,← sizeOf f.type):Sem (Nat×Nat))).run C.P w = .ok L.toArray w:=by
    rw [Array.mapM_eq_mapM_toList];simp at hL1;simp [hL1]
   have hplaces:∀ (i:Nat) (fd:Field),fs.toList[i]? = some fd→∃ inf,C.P.info? fd.type=some inf∧(L.toArray[·]?) i=some (fd.offset,inf.size):=fun i fd hi=>by
    obtain ⟨inf,h1,h2⟩:=hL2 i fd hi;exact ⟨inf,h1,by simpa using h2⟩
   have hev:∀ (vals:List (Nat×Value)) (cs':List Value),ps.toList.map (fun p=>(p.1,a.eval p.2))=vals→Instr.fill (L.toArray[·]?) cs.toArray vals=some cs'.toArray→(execOp a.eval ⟨d,.build t ps,ty,pos,aft,g⟩).run C.P w = .ok (.value (.agg cs'.toArray)) w:=by
    intro vals cs' hv hf;obtain ⟨σ,hσ,hev⟩:=hr.st.evs (ps.toList.map (·.2));refine Zsq hσ vals ?_ ?_
    ·rw [← hv,List.map_map];refine List.map_congr_left fun p hp=>?_;rw [hev p.2 (List.mem_map.2 ⟨p,hp,rfl⟩)];rfl
    ·simp at hA hf;simp [Instr.build,hy w,hcells,run_underlying ht,hA,hf]
   split at h
   ·rename_i hps;refine ZX hr hU (hev [] cs (by rw [hps];rfl) rfl) hd hX ?_ (V.ok.mono hU hkz) h;have:=Z2b hzz (fun c e=>by subst e;cases hag2);unfold V.val at this;rw [hag2] at this;exact this
   ·rename_i hps;obtain ⟨c,h1,h2,h⟩:=ZMf hr h;split at h
    ·rename_i z' hz';obtain ⟨o1,o2⟩:=Zqq hzz hkz;have hvl:=h1;rw [List.map_map] at h1;obtain ⟨cs',k1,k2,k3,k4⟩:=ZSr ht hplaces (ps:=ps.toList) h1 h2 (by simp) o1 o2 hz';refine ZX hr hU (hev _ cs' rfl ?_) hd hX ?_ (V.ok.mono hU k3) h
     ·rw [← k1];congr 1;rw [List.zip_map,← List.map_id (ps.toList.zip ps.toList)];simp [List.zip_eq_zipWith,List.zipWith_self,List.map_map]
     ·have:=Z2b k2 (fun c e=>by subst e;rw [hag1] at k4;cases k4);unfold V.val at this;rw [k4,hag1] at this;exact this
    ·exact h.elim
  ·exact h.elim
 ·rename_i z m e hz ht;split at h
  ·rename_i inf hinf hag1 hag2;obtain ⟨y,cs,hy,hcells,hzz,hkz,_⟩:=Zbn (v:=v) (γ:=γ) (l:=l) (U:=U) hz;obtain ⟨c,h1,h2,h⟩:=ZMf hr h;split at h
   ·rename_i z' hz';obtain ⟨o1,o2⟩:=Zqq hzz hkz;rw [List.map_map] at h1;obtain ⟨cs',k1,k2,k3,k4⟩:=Zso (places:=fun i=>some (i*inf.size,inf.size)) (fun i _=>rfl) (ps:=ps.toList) h1 h2 (by simp) o1 o2 hz';obtain ⟨σ,hσ,hev⟩:=hr.st.evs (ps.toList.map (·.2));have hk1:Instr.fill (fun i=>some (i*inf.size,inf.size)) cs.toArray (ps.toList.map fun p=>(p.1,a.eval p.2))=some cs'.toArray:=by
     rw [← k1];congr 1;rw [List.zip_map,← List.map_id (ps.toList.zip ps.toList)];simp [List.zip_eq_zipWith,List.zipWith_self,List.map_map]
    refine ZX hr hU (Zsq hσ (ps.toList.map fun p=>(p.1,a.eval p.2)) ?_ (z:=.agg cs'.toArray) ?_) hd hX ?_ (V.ok.mono hU k3) h
    ·rw [List.map_map];refine List.map_congr_left fun p hp=>?_;rw [hev p.2 (List.mem_map.2 ⟨p,hp,rfl⟩)];rfl
    ·simp [Instr.build,hy w,hcells,run_underlying ht,ZXj hinf,hk1]
    ·have:=Z2b k2 (fun c e=>by subst e;rw [hag1] at k4;cases k4);unfold V.val at this;rw [k4,hag1] at this;exact this
   ·exact h.elim
  ·exact h.elim
 ·exact h.elim
end
end Go.Eng
