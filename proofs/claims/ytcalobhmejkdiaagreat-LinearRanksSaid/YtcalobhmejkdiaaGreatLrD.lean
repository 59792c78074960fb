/- Lemmas towards the statement: the engine of the walks, the functions' models, laws and walks, part 4. Conditions: as each states. -/
import Derived.Laws.CopyRow
import Derived.Laws.IdiomStrings
import Derived.Lib.AppendZerosOnto
import Derived.Lib.Overlaps
import Derived.Scope
import Derived.Test.YtcalobhmejkdiaaGreatLrC
set_option linter.all false
set_option maxRecDepth 100000
namespace Go.Eng
open Go.RowKit
theorem St.bare {K:Nat} {w0:Base} {v0:Zb} {σ:List (Nat×Value)} {ℓ:List Loc} {v:Zb} {a:Act} {w:World} (h:St K w0 v0 σ ℓ v a w):St K w0 v0 [] ℓ v a w:=h.frame ZAw
theorem Zgk {v:Zb} {γ:Nat→Gh} {l:Lo} {x:V} {cs:List Value} (h:RR v γ l false x cs) (hf:x.fit=true):cellsOf (x.val cs) cs∧cs.all plain=true:=by
 unfold V.fit at hf;have hp:x.plain=true:=by
  cases hp:x.plain
  ·rw [hp] at hf;cases hf
  ·rfl
 have hpl:=ZLw hp h;refine ⟨?_,hpl⟩;rw [hp] at hf;unfold V.val
 cases ha:x.isAgg with
 | true=>exact Zxs cs
 | false =>
  rw [ha] at hf;have hs:=Nat.eq_of_beq_eq_true hf;have e:=Zbg h hs ha;have hv:x.val cs=cs.headD undef:=by unfold V.val;rw [ha]
  rw [hv] at e;rw [e] at hpl;have hpl':plain (cs.headD undef)=true:=by simpa using hpl
  have:=Zzb hpl';show cellsOf (cs.headD undef) cs
  conv=>arg 2;rw [e]
  exact this
theorem Zin {x:V} (hf:x.fit=true):∀ c,x ≠ .tup c:=fun c e=>by subst e;cases hf
section
variable {P:Program} {N:Nat} {G:V→Value→Prop} {w0:Base} {v0:Zb} {U X:Nat→Prop} {f:Fr} {l:Lo} {a:Act} {w:World} {γ:Nat→Gh} {v:Zb} {ℓ:List Loc} {n:Nat}
variable {ty:TypeId} {pos:String} {aft:Array Edge} {g:Option (Nat×Bool)}
theorem Zwf {o:Oper} {l':Lo} {w':World} {γ':Nat→Gh} {v':Zb} {ℓ':List Loc} {Post:Unit→Fr→Lo→Prop} (hr:RelX N G w0 v0 U X f l' a w' γ' v' ℓ') (hU:∀ k,U k→X k) (ho:o.dst=none) (hrun:(execOp a.eval o).run P w = .ok .skip w') (h:Post () f l'):ZCa P N G w0 v0 X o a w Post:=by
 refine Zrm hrun ?_;rw [ho];exact ⟨_,_,h,_,_,_,hr.mono hU fun _ h=>h⟩
theorem all_upd {cs0 cs:List Value} {off:Nat} (h0:cs0.all plain=true) (h1:cs.all plain=true):(cs0.take off++cs++cs0.drop (off+cs.length)).all plain=true:=by
 have h0':=List.all_eq_true.1 h0;refine List.all_eq_true.2 fun x hx=>?_;rcases List.mem_append.1 hx with hx | hx
 ·rcases List.mem_append.1 hx with hx | hx
  ·exact h0' x (List.mem_of_mem_take hx)
  ·exact List.all_eq_true.1 h1 x hx
 ·exact h0' x (List.mem_of_mem_drop hx)
theorem Zam {t:T} {x:t.den} {z x':V} {off:Nat} {cs cz:List Value} (hg:ZZa FU (.data t x) off z=some x') (hx:t.rep.rel v cs x) (hz:RR v γ l false z cz) (hkz:z.ok U) :
  RR v γ l false x' (cs.take off++cz++cs.drop (off+cz.length))∧x'.ok U∧off+cz.length≤t.n:=by
 obtain ⟨h1,h2,h3,_⟩:=ZTe FU hg (γ:=γ) (l:=l) (x:=.data t x) hx hz trivial hkz;refine ⟨h1,h2,?_⟩;have:=Rep.len _ hx;rw [ZR] at this;omega
theorem Zvp {t:T}:∀ {rows:List (Option Nat×Nat)} {m:List (List t.den)} {es:List Loc} {i:Nat} {p:Option Nat×Nat} {r:List t.den},Zoa v ty t rows m es→rows[i]? = some p→m[i]? = some r →
  ∃ cs e1 e2,es=e1 ++ .own p.1 ty t.n r.length p.2 cs :: e2∧t.rep.rels v cs r∧∀ (r':List t.den) (cs':List Value),r'.length=r.length→t.rep.rels v cs' r'→Zt rows (m.set i r')=Zt rows m∧Zoa v ty t rows (m.set i r') (e1 ++ .own p.1 ty t.n r.length p.2 cs' :: e2)
 | [],[],_,_,_,_,_,h,_=>by simp at h
 | q :: ps,r0 :: rs,es,0,p,r,⟨cs,es',h1,h2,h3⟩,hp,hr=>by
  simp at hp hr
  subst hp hr
  refine ⟨cs,[],es',by simpa using h2,h1,fun r' cs' hl hc=>⟨by simp [Zt,hl],?_⟩⟩
  exact ⟨cs',es',hc,by rw [← hl];rfl,h3⟩
 | q :: ps,r0 :: rs,es,i+1,p,r,⟨cs,es',h1,h2,h3⟩,hp,hr=>by
  simp only [List.getElem?_cons_succ] at hp hr
  obtain ⟨c2,e1,e2,k2,k3,k4⟩:=Zvp h3 hp hr
  subst k2
  refine ⟨c2,.own q.1 ty t.n r0.length q.2 cs :: e1,e2,by simpa using h2,k3,fun r' cs' hl hc=>?_⟩
  obtain ⟨k5,k6⟩:=k4 r' cs' hl hc
  exact ⟨by simp only [List.set_cons_succ,Zt,k5],cs,_,h1,rfl,k6⟩
 | [],_ :: _,_,_,_,_,k,_,_=>k.elim
 | _ :: _,[],_,_,_,_,k,_,_=>k.elim
theorem ZRp {t:T} {p:Option Nat×Nat} {r':List t.den} {cs':List Value}:∀ {rows:List (Option Nat×Nat)} {m:List (List t.den)} {es:List Loc} {i:Nat} {p0:Option Nat×Nat},Zoa v ty t rows m es→rows[i]? = some p0→t.rep.rels v cs' r' →
  (Zt rows m).take i++[Value.slice (mkA p.1) r'.length p.2]++(Zt rows m).drop (i+1)=Zt (rows.set i p) (m.set i r')∧∃ e1 e2 c,es=e1++c :: e2∧Zoa v ty t (rows.set i p) (m.set i r') (e1 ++ .own p.1 ty t.n r'.length p.2 cs' :: e2)
 | [],[],_,_,_,_,h,_=>by simp at h
 | q :: ps,r0 :: rs,es,0,p0,⟨cs,es',h1,h2,h3⟩,hp,hc=>by
  refine ⟨by simp [Zt],[],es',_,by simpa using h2,?_⟩
  exact ⟨cs',es',hc,rfl,h3⟩
 | q :: ps,r0 :: rs,es,i+1,p0,⟨cs,es',h1,h2,h3⟩,hp,hc=>by
  simp only [List.getElem?_cons_succ] at hp
  obtain ⟨k1,e1,e2,c,k2,k3⟩:=ZRp (p:=p) h3 hp hc
  subst k2
  refine ⟨by simp only [List.set_cons_succ,Zt,List.take_succ_cons,List.drop_succ_cons,List.cons_append,k1],.own q.1 ty t.n r0.length q.2 cs :: e1,e2,c,by simpa using h2,?_⟩
  exact ⟨cs,_,h1,rfl,k3⟩
 | [],_ :: _,_,_,_,k,_,_=>k.elim
 | _ :: _,[],_,_,_,k,_,_=>k.elim
theorem Zbs {α:Type} {m:List (List α)} {i:Nat} {r r':List α} (hr:m[i]? = some r) (hl:r'.length=r.length):(m.set i r').map List.length=m.map List.length:=by
 apply List.ext_getElem?;intro j;simp only [List.getElem?_map];by_cases h:i=j
 ·subst h;have hlt:=(List.getElem?_eq_some_iff.1 hr).1;rw [List.getElem?_set_self hlt,hr];simp [hl]
 ·rw [List.getElem?_set_ne h]
theorem ZYh:∀ (g:Nat) {x z x':V} {off:Nat},ZZa g x off z=some x'→x.ok U→z.ok U→x'.ok U
 | 0,_,_,_,_,h,_,_=>by cases h
 | g+1,x,z,x',off,h,hk,hkz=>by
  have whole:∀ {y:V},(match Nat.beq off 0,Nat.beq y.size z.size,eqB y.isAgg z.isAgg with
    | true,true,true=>some z
    | _,_,_=>match y with
     | .agg c=>match ZZa g c off z with
      | some c'=>some (.agg c')
      | none=>none
     | .data t x=>match ZHb t x with
      | some c=>match ZZa g c off z with
       | some c'=>some (.agg c')
       | none=>none
      | none=>none
     | _=>none)=some x'→y.ok U→x'.ok U:=by
   intro y hy hk;split at hy
   ·cases hy;exact hkz
   ·split at hy
    ·split at hy
     ·rename_i c' he;cases hy;exact (show V.ok U c' from ZYh g he hk hkz)
     ·cases hy
    ·split at hy
     ·rename_i c hc;split at hy
      ·rename_i c' he;cases hy;exact (show V.ok U c' from ZYh g he (Zqq hc) hkz)
      ·cases hy
     ·cases hy
    ·cases hy
  cases x with
  | nl=>simp only [ZZa] at h;cases h
  | cons a b =>
   simp only [ZZa] at h;split at h
   ·split at h
    ·rename_i he;cases h;exact ⟨ZYh g he hk.1 hkz,hk.2⟩
    ·cases h
   ·split at h
    ·split at h
     ·rename_i he;cases h;exact ⟨hk.1,ZYh g he hk.2 hkz⟩
     ·cases h
    ·cases h
  | data t x=>exact whole (y:=.data t x) h hk
  | agg c=>exact whole (y:=.agg c) h hk
  | nilS=>exact whole (y:=.nilS) h hk
  | own u=>exact whole (y:=.own u) h hk
  | row u i hv cv t r=>exact whole (y:=.row u i hv cv t r) h hk
  | ptr u o=>exact whole (y:=.ptr u o) h hk
  | el u i cv t x o=>exact whole (y:=.el u i cv t x o) h hk
  | rp u i hv cv t r=>exact whole (y:=.rp u i hv cv t r) h hk
  | rel u i j hv cv t r x o=>exact whole (y:=.rel u i j hv cv t r x o) h hk
  | vp t x o=>exact whole (y:=.vp t x o) h hk
  | tup c=>exact whole (y:=.tup c) h hk
  | fn f c=>exact whole (y:=.fn f c) h hk
  | ifc f c=>exact whole (y:=.ifc f c) h hk
  | undef=>exact whole (y:=.undef) h hk
theorem Zzk {b off:Nat} {c c':List Value} (h:WAt w b off c) (h':WAt w b off c') (hl:c.length=c'.length):c=c':=by
 obtain ⟨x,T,fr,h1,h2⟩:=h;obtain ⟨x',T',fr',h3,h4⟩:=h';rw [h1] at h3;cases h3;rw [← h2,← h4,hl]
theorem Zrq (hr:RelX N G w0 v0 U X f l a w γ v ℓ) {u k st:Nat} {ty0:TypeId} {t:T} {xs:List t.den} {fz:Bool} (he:lkE l u=some ⟨k,st,.own ty0 t xs fz⟩) {b cap i:Nat} {x:t.den} (hγ:γ u = .own (some b) cap) (hx:xs[i]? = some x):∃ c,t.rep.rel v c x∧WAt w b (0+i*t.n) c:=by
 obtain ⟨hkk,es,hes,hmem⟩:=hr.loc he;have hkk:k=u:=hkk;subst hkk
 cases fz with
 | false =>
  obtain ⟨ob,cap',cs,q1,q2,rfl⟩:=hes;have q1:γ k = .own ob cap':=q1;rw [hγ] at q1;cases q1;obtain ⟨j,hj⟩:=hmem _ (List.mem_singleton.2 rfl);have hrel:=Zja q2 hx;rw [ZR] at hrel;have hl:=Rep.len _ hrel;rw [ZR] at hl;refine ⟨_,hrel,?_⟩;have:=Zbd hr.st hj rfl (List.getElem?_eq_some_iff.1 hx).1 0 ((cs.drop (i*t.n)).take t.n) (by rw [hl,List.drop_zero,List.take_take,Nat.min_self]) (by omega)
  simpa using this
 | true =>
  obtain ⟨ob,cap',q1,q2,_⟩:=hes;have q1:γ k = .own ob cap':=q1;rw [hγ] at q1;cases q1;obtain ⟨_,b2,o2,cs2,e2,h2,h3⟩:=Z8a q2 hx
  cases e2
  rw [ZR] at h2;exact ⟨cs2,h3,hr.st.view h2⟩
theorem ZGr (hr:RelX N G w0 v0 U X f l a w γ v ℓ) {u k st hv:Nat} {ty0 ty2:TypeId} {t:T} {m:List (List t.den)} (he:lkE l u=some ⟨k,st,.mat ty0 ty2 t m hv⟩) {ob:Option Nat} {cap i j bi capi:Nat} {rows:List (Option Nat×Nat)} {r:List t.den} {x:t.den}
  (hγ:γ u = .mat ob cap rows) (hrow:rows[i]? = some (some bi,capi)) (hm:m[i]? = some r) (hx:r[j]? = some x):∃ c,t.rep.rel v c x∧WAt w bi (0+j*t.n) c:=by
 obtain ⟨hkk,es,hes,hmem⟩:=hr.loc he;have hkk:k=u:=hkk;subst hkk;obtain ⟨ob',cap',rows',es2,q1,q2,rfl⟩:=hes;have q1:γ k = .mat ob' cap' rows':=q1;rw [hγ] at q1;cases q1;obtain ⟨p',cs,r1,r2,r3⟩:=Z1e q2 hm;rw [hrow] at r1;cases r1;obtain ⟨jj,hj⟩:=hmem _ (List.mem_cons_of_mem _ r3);have hrel:=Zja r2 hx;rw [ZR] at hrel;have hl:=Rep.len _ hrel;rw [ZR] at hl;refine ⟨_,hrel,?_⟩;have:=Zbd hr.st hj rfl (List.getElem?_eq_some_iff.1 hx).1 0 ((cs.drop (j*t.n)).take t.n) (by rw [hl,List.drop_zero,List.take_take,Nat.min_self]) (by omega)
 simpa using this
theorem stE_ok (hr:RelX N G w0 v0 U X f l a w γ v ℓ) (hU:∀ k,U k→X k) (hX:X n) (hn:¬ U n) {t:TypeId} {x y:Operand} {o:Oper} {p q:V} {Post:Unit→Fr→Lo→Prop} (ho:o=⟨none,.store t x y,ty,pos,aft,g⟩) (hp:RV v γ l p (a.eval x)) (hq:RV v γ l q (a.eval y)) (hk:p.ok U) (hkq:q.ok U)
  (h:Zr n (stE P n t p q) f l Post):ZCa P N G w0 v0 X o a w Post:=by
 unfold stE at h;split at h
 ·exact h.elim
 ·rename_i sz hsz;split at h
  ·rename_i b1 b2 b3;have b1:=Nat.eq_of_beq_eq_true b1;have b2:=Z1l b2;obtain ⟨cs,hcs,hqe⟩:=Zpb hq (Zin b3);obtain ⟨hcells,hpl⟩:=Zgk hcs b3;have hlen:cs.length=sz.1:=(ZNd hcs).trans b1;have hS:=Ztf hsz;split at h
   · -- a variable
    rename_i u off;obtain ⟨en,he,h⟩:=h;obtain ⟨yy,hy0,_,hy⟩:=Zha hp (fun _ e=>by cases e) rfl rfl;have hy0:a.eval x=yy:=(List.cons.inj hy0).1;have hy:=hy en he;obtain ⟨kk,st,L⟩:=en;obtain ⟨hm,hkk⟩:=Zy he;have hkk:kk=u:=hkk;subst hkk
    cases L with
    | box ty0 c =>
     simp only at h;obtain ⟨b',g4,rfl⟩:=hy;split at h
     ·rename_i c' hc';obtain ⟨es,E',h1,h2,_,h3,_⟩:=hr.del he;obtain ⟨b,cs0,g1,g2,g3,rfl⟩:=h1;have g1:γ kk = .box b:=g1;rw [g1] at g4;cases g4;have hcok:c.ok U:=(hr.ul _ hm).2.2;obtain ⟨k1,k2,k3,_⟩:=ZTe FU hc' g2 hcs hcok hkq;rw [hlen] at k3;have hs:=hr.st.perm h3;obtain ⟨σ,hσ,e1,e2⟩:=hs.ev2 x y;rw [hy0] at e1;rw [hqe] at e2;obtain ⟨w',hrun,hst⟩:=ZTq (P:=P) hσ hS hcells hlen (i:=0) rfl (by omega) hpl;have hle:Le U v γ l v γ (⟨kk,n,.box ty0 c'⟩ :: era l kk):=Le.upd hr he (Zb.le_refl _) (fun _ _=>rfl) rfl;subst ho;refine Zwf (hr.upd hX (hr.ul _ hm).1 h2 hst.bare hle (fun _ _=>rfl) ⟨_,_,g1,Znb hle k2 k1,all_upd g3 hpl,rfl⟩ (List.Perm.refl _) k2) hU rfl (hrun e1 e2) h
     ·exact h.elim
    | own _ _ _ _=>exact h.elim
    | mid _ _ _ _ _ _=>exact h.elim
    | mat _ _ _ _ _=>exact h.elim
   · -- an element
    rename_i u i cv s x0 off;split at h
    ·rename_i z hz;obtain ⟨yy,hy0,_,⟨c0,hc0⟩,hy⟩:=Zha hp (fun _ e=>by cases e) rfl rfl;have hy0:a.eval x=yy:=(List.cons.inj hy0).1;obtain ⟨z1,z2,z3⟩:=Zam hz hc0 hcs hkq;obtain ⟨y1,l1,γ1,v1,ℓ1,h,r1,le1,q1⟩:=Zjd hn hX FU h hr z2;obtain ⟨en,he,h⟩:=h;have hp1:=ZDb le1 hk hp;obtain ⟨yy',hy0',_,_,hy⟩:=Zha hp1 (fun _ e=>by cases e) rfl rfl;have hy0':a.eval x=yy':=(List.cons.inj hy0').1;have hy:=hy en he;obtain ⟨kk,st,L⟩:=en;obtain ⟨hm,hkk⟩:=Zy he;have hkk:kk=u:=hkk;subst hkk
     cases L with
     | own ty0 s' xs fz =>
      cases fz with
      | true=>exact h.elim
      | false =>
       simp only at h;obtain ⟨b,cap,g1,rfl,g3,g4⟩:=hy;obtain ⟨es,E',h1,h2,_,h3,_⟩:=r1.del he;obtain ⟨ob,cap',cs1,f1,f2,rfl⟩:=h1;have f1:γ1 kk = .own ob cap':=f1;rw [g1] at f1;cases f1;have fin:∀ (c:List Value) (y':s'.den),(cs1.drop (i*s'.n)).take s'.n=c→off+sz.1≤s'.n→s'.rep.rel v1 (c.take off++cs++c.drop (off+sz.1)) y'→Post () f (⟨kk,n,.own ty0 s' (xs.set i y') false⟩ :: era l1 kk)→ZCa P N G w0 v0 X o a w Post:=by
        intro c y' hc hfit hrel hpost;have hs:=r1.st.perm h3;obtain ⟨σ,hσ,e1,e2⟩:=hs.ev2 x y;rw [hy0'] at e1;rw [hqe] at e2;have hset:=ZPp f2 g3 hc hrel (ZR s').symm hfit;have hcl:=Zle f2;rw [ZR] at hcl;have hfit2:0+i*s'.n+off+sz.1≤cs1.length:=Zhr hs (j:=0) rfl g3 hfit;obtain ⟨w',hrun,hst⟩:=ZNb (P:=P) hσ hS hcells hlen (i:=0) rfl hfit2 hpl;rw [hlen] at hst;have hle:Le U v1 γ1 l1 v1 γ1 (⟨kk,n,.own ty0 s' (xs.set i y') false⟩ :: era l1 kk):=Le.upd r1 he (Zb.le_refl _) (fun _ _=>rfl) ⟨rfl,rfl,by simp,fun e=>absurd e hn⟩;have hst':St N w0 v0 [] (.own (some b) ty0 s'.n (xs.set i y').length cap (cs1.take (0+i*s'.n+off)++cs++cs1.drop (0+i*s'.n+off+sz.1)) :: E'.flatten) v1 a w':=by
         rw [List.length_set];exact hst.bare
        subst ho;exact Zwf (r1.upd hX (r1.ul _ hm).1 h2 hst' hle (fun _ _=>rfl) ⟨some b,cap,_,g1,hset,rfl⟩ (List.Perm.refl _) trivial) hU rfl (hrun e1 e2) hpost
       have full:off=0→sz.1=s.n→∀ y',T.cast s s' y1=some y'→Post () f (⟨kk,n,.own ty0 s' (xs.set i y') false⟩ :: era l1 kk)→ZCa P N G w0 v0 X o a w Post:=by
        intro e0 e1 y' hc hpost;obtain ⟨c3,c4⟩:=Z6 hc;subst c3;subst c4;refine fin _ y1 rfl (by omega) ?_ hpost;have hl0:=Rep.len _ hc0;rw [ZR] at hl0;have hcl:=Zle f2;rw [ZR] at hcl;have hdl:((cs1.drop (i*s.n)).take s.n).length=s.n:=by
         have:i*s.n+s.n≤cs1.length:=by rw [hcl,← Nat.succ_mul];exact Nat.mul_le_mul_right _ g3
         simp;omega
        have q1:=q1 _ z1;rw [e0] at q1 ⊢;rw [List.take_zero,List.drop_of_length_le (by omega)] at q1 ⊢;exact q1
       split at h
       ·rename_i hh1 hh2;split at h
        ·rename_i y' hy';exact full (Nat.eq_of_beq_eq_true hh1) (b1.symm.trans (Nat.eq_of_beq_eq_true hh2)) y' hy' h
        ·exact h.elim
       ·rename_i hcv _;split at h
        ·rename_i y' hy';obtain ⟨ys,c1,c2⟩:=g4 (Nat.eq_of_beq_eq_true hcv);obtain ⟨c3,c4⟩:=Z6 c1
         cases c3;cases c4
         rw [Zkj] at hy';cases hy';have hrel:=Zja f2 c2;rw [ZR] at hrel;obtain ⟨⟨k0,st0,L0⟩,he0,hce⟩:=le1.l _ _ hk.1 he;have hst:U st:=(Nat.eq_of_beq_eq_true hcv) ▸ hk.2
         cases L0 with
         | own ty1 t1 xs1 fz1 =>
          obtain ⟨d1,d2,d3,d4⟩:=hce;obtain ⟨d5,d6⟩:=d4 hst
          cases d6
          rw [d1] at g1;obtain ⟨c,hc1,hc2⟩:=Zrq hr he0 g1 c2;obtain ⟨z1',_,_⟩:=Zam hz hc1 hcs hkq;have q2:=q1 _ z1';rw [hlen] at q2;refine fin c y1 ?_ (by omega) q2 h;have g1':γ1 kk = .own (some b) cap:=by rw [d1];exact g1
          obtain ⟨c',hc1',hc2'⟩:=Zrq r1 he g1' c2;have hl1:=Rep.len _ hc1;have hl2:=Rep.len _ hc1';have e1:=Zzk hc2 hc2' (hl1.trans hl2.symm);have hl3:=Rep.len _ hrel;rw [ZR] at hl1 hl3;obtain ⟨jj,hj⟩:∃ i:Nat,ℓ1[i]? = some (.own (some b) ty0 s.n xs.length cap cs1):=List.getElem?_of_mem (h3.mem_iff.2 (by simp));have hw:=Zbd r1.st hj rfl g3 0 ((cs1.drop (i*s.n)).take s.n) (by rw [hl3,List.drop_zero,List.take_take,Nat.min_self]) (by omega);exact Zzk (by simpa using hw) hc2 (hl3.trans hl1.symm)
         | box _ _=>exact hce.elim
         | mid _ _ _ _ _ _ =>
          obtain ⟨_,_,_,_,hyl⟩:=Zha hp (fun _ e=>by cases e) rfl rfl;exact (hyl _ he0).elim
         | mat _ _ _ _ _ =>
          obtain ⟨_,_,_,_,hyl⟩:=Zha hp (fun _ e=>by cases e) rfl rfl;exact (hyl _ he0).elim
        ·exact h.elim
       ·exact h.elim
     | box _ _=>exact h.elim
     | mid _ _ _ _ _ _=>exact h.elim
     | mat _ _ _ _ _=>exact h.elim
    ·exact h.elim
   · -- a row is put into its place
    rename_i u i hv0 cv0 s0 r0;split at h
    ·rename_i u2 _ _;obtain ⟨en,he,h⟩:=h;obtain ⟨yy,hy0,_,hy⟩:=Zha hp (fun _ e=>by cases e) rfl rfl;have hy0:a.eval x=yy:=(List.cons.inj hy0).1;have hy:=hy en he;obtain ⟨kk,st,L⟩:=en;obtain ⟨hm,hkk⟩:=Zy he;have hkk:kk=u:=hkk;subst hkk
     cases L with
     | mat ty0 ty2 s m hv =>
      obtain ⟨en2,he2,h⟩:=h;obtain ⟨k2,st2,L2⟩:=en2;obtain ⟨hm2,hkk2⟩:=Zy he2;have hkk2:k2=u2:=hkk2;subst hkk2
      cases L2 with
      | own ty3 s' xs fz =>
       cases fz with
       | true=>exact h.elim
       | false =>
        simp only at h;split at h
        ·rename_i l' ht3 hl';have ht3:=Nat.eq_of_beq_eq_true ht3;subst ht3;obtain ⟨c3,c4⟩:=Z6 hl'
         cases c3;cases c4
         have hne:kk≠k2:=fun e=>by subst e;rw [he] at he2;cases he2
         obtain ⟨b,cap,rows,g1,rfl,g3,g4⟩:=hy;obtain ⟨es2,E2,h1,h2,h2',h3,r2⟩:=hr.del he2;obtain ⟨ob2,cap2,cs2,f1,f2,rfl⟩:=h1;have he':lkE (era l k2) kk=some ⟨kk,st,.mat ty0 ty3 s m hv⟩:=by
          rw [ZZb hr.nd,if_neg (fun e=>hne e.symm)];exact he
         obtain ⟨esm,E',hsp1,hsp2,hsp3⟩:=ZBf h2' he';obtain ⟨ob',cap',rows,es3,q1,q2,rfl⟩:=hsp1;have q1:γ kk = .mat ob' cap' rows:=q1;rw [g1] at q1;cases q1;have hrl:=ZIf q2;obtain ⟨p',hp'⟩:∃ p',rows[i]? = some p':=⟨_,List.getElem?_eq_getElem (by omega)⟩;obtain ⟨hh,e1,e2,csx,k1,k3⟩:=ZRp q2 hp' (p:=(ob2,cap2)) (r':=xs) f2;have hq1:a.eval y = .slice (mkA ob2) xs.length cap2:=by
          obtain ⟨yq,hyq0,_,hyq⟩:=Zha hq (fun _ e=>by cases e) rfl rfl;obtain ⟨oq,cq,gq1,gq2⟩:=hyq _ he2;have f1:γ k2 = .own ob2 cap2:=f1;rw [f1] at gq1;cases gq1;exact ((List.cons.inj hyq0).1).trans gq2
         have hs:St N w0 v0 [] (.own (some b) ty0 1 m.length cap (Zt rows m) :: .own ob2 ty3 s.n xs.length cap2 cs2 :: (es3++E'.flatten)) v a w:=by
          refine hr.st.perm ((h3.trans (List.Perm.append_left _ hsp3)).trans ?_);simp only [List.cons_append];exact List.Perm.swap _ _ _
         obtain ⟨σ,hσ,ee1,ee2⟩:=hs.ev2 x y;rw [hy0] at ee1;rw [hq1] at ee2;have hS1:Sized P t ([Value.slice (mkA ob2) xs.length cap2]:List Value).length sz.2:=by
          have:sz.1=1:=b1.symm;rw [this] at hS;exact hS
         have hfit:0+i*1+([Value.slice (mkA ob2) xs.length cap2]:List Value).length≤(Zt rows m).length:=by
          rw [ZId hrl];simp only [List.length_singleton];omega
         obtain ⟨w',hrun,hst⟩:=ZNb (P:=P) hσ hS1 (cs:=[Value.slice (mkA ob2) xs.length cap2]) (z:=.slice (mkA ob2) xs.length cap2) (Zzb rfl) rfl (i:=0) rfl hfit rfl;have hh':(Zt rows m).take (0+i*1)++[Value.slice (mkA ob2) xs.length cap2]++(Zt rows m).drop (0+i*1+1)=Zt (rows.set i (ob2,cap2)) (m.set i xs):=by
          rw [Nat.zero_add,Nat.mul_one];exact hh
         have hst:=hst.bare;simp only [List.set_cons_zero,List.length_singleton] at hst;rw [hh'] at hst;subst k1;have hst':St N w0 v0 [] (.own (some b) ty0 1 (m.set i xs).length cap (Zt (rows.set i (ob2,cap2)) (m.set i xs)) :: (e1 ++ .own ob2 ty3 s.n xs.length cap2 cs2 :: e2)++E'.flatten) v a w':=by
          rw [List.length_set];refine (hst.drop (ℓ':=.own (some b) ty0 1 m.length cap (Zt (rows.set i (ob2,cap2)) (m.set i xs)) :: .own ob2 ty3 s.n xs.length cap2 cs2 :: ((e1++e2)++E'.flatten)) ?_).perm ?_
          ·refine List.Sublist.cons_cons _ (List.Sublist.cons_cons _ (List.Sublist.append (List.Sublist.append (List.Sublist.refl _) (List.sublist_cons_self _ _)) (List.Sublist.refl _)))
          ·simp only [List.cons_append];refine List.Perm.cons _ ?_;rw [← List.cons_append];exact List.Perm.append_right _ (List.perm_middle.symm)
         have hle:Le U v γ (era l k2) v (Zoc γ kk (.mat (some b) cap (rows.set i (ob2,cap2)))) (⟨kk,n,.mat ty0 ty3 s (m.set i xs) n⟩ :: era (era l k2) kk):=Le.upd r2 he' (Zb.le_refl _) (fun _ hne=>ZTb hne) ⟨rfl,by simp,⟨_,_,_,_,g1,Z5a,fun e=>absurd e hn⟩,fun e=>absurd e hn⟩;subst ho;refine Zwf (r2.upd hX (r2.ul _ (Zy he').1).1 hsp2 hst' hle (fun _ hne=>ZTb hne) ⟨some b,cap,rows.set i (ob2,cap2),_,Z5a,k3,rfl⟩ ?_ hX) hU rfl (hrun ee1 ee2) h;exact List.Perm.refl _
        ·exact h.elim
      | box _ _=>exact h.elim
      | mid _ _ _ _ _ _=>exact h.elim
      | mat _ _ _ _ _=>exact h.elim
     | mid ty0 ty2 s m hv sm =>
      cases sm with
      | swp _ _=>exact h.elim
      | hol i1 =>
       obtain ⟨_,heq,h⟩:=h;have heq:i=i1:=by
        unfold eqN at heq;split at heq
        ·assumption
        ·cases heq
       subst heq;obtain ⟨en2,he2,h⟩:=h;obtain ⟨k2,st2,L2⟩:=en2;obtain ⟨hm2,hkk2⟩:=Zy he2;have hkk2:k2=u2:=hkk2;subst hkk2
       cases L2 with
       | own ty3 s' xs fz =>
        cases fz with
        | true=>exact h.elim
        | false =>
         simp only at h;split at h
         ·rename_i l' ht3 hl';have ht3:=Nat.eq_of_beq_eq_true ht3;subst ht3;obtain ⟨c3,c4⟩:=Z6 hl'
          cases c3;cases c4
          have hne:kk≠k2:=fun e=>by subst e;rw [he] at he2;cases he2
          obtain ⟨b,cap,rows,g1,rfl,g3,g4⟩:=hy;obtain ⟨es2,E2,h1,h2,h2',h3,r2⟩:=hr.del he2;obtain ⟨ob2,cap2,cs2,f1,f2,rfl⟩:=h1;have he':lkE (era l k2) kk=some ⟨kk,st,.mid ty0 ty3 s m hv (.hol i)⟩:=by
           rw [ZZb hr.nd,if_neg (fun e=>hne e.symm)];exact he
          obtain ⟨esm,E',hsp1,hsp2,hsp3⟩:=ZBf h2' he';obtain ⟨ob',cap',rows,es3,hs,es4,q1,q2,⟨rfl,e1,c,e2,rfl,rfl,rfl⟩,rfl⟩:=hsp1;have q1:γ kk = .mat ob' cap' rows:=q1;rw [g1] at q1;cases q1;have hrl:=ZIf q2;obtain ⟨hh,k3⟩:=Zhw q2 (p:=(ob2,cap2)) (r':=xs) f2;have hq1:a.eval y = .slice (mkA ob2) xs.length cap2:=by
           obtain ⟨yq,hyq0,_,hyq⟩:=Zha hq (fun _ e=>by cases e) rfl rfl;obtain ⟨oq,cq,gq1,gq2⟩:=hyq _ he2;have f1:γ k2 = .own ob2 cap2:=f1;rw [f1] at gq1;cases gq1;exact ((List.cons.inj hyq0).1).trans gq2
          have hs:St N w0 v0 [] (.own (some b) ty0 1 m.length cap (Zt rows m) :: .own ob2 ty3 s.n xs.length cap2 cs2 :: (e1++e2++E'.flatten)) v a w:=by
           refine hr.st.perm ((h3.trans (List.Perm.append_left _ hsp3)).trans ?_);simp only [List.cons_append];exact List.Perm.swap _ _ _
          obtain ⟨σ,hσ,ee1,ee2⟩:=hs.ev2 x y;rw [hy0] at ee1;rw [hq1] at ee2;have hS1:Sized P t ([Value.slice (mkA ob2) xs.length cap2]:List Value).length sz.2:=by
           have:sz.1=1:=b1.symm;rw [this] at hS;exact hS
          have hfit:0+e1.length*1+([Value.slice (mkA ob2) xs.length cap2]:List Value).length≤(Zt rows m).length:=by
           rw [ZId hrl];simp only [List.length_singleton];omega
          obtain ⟨w',hrun,hst⟩:=ZNb (P:=P) hσ hS1 (cs:=[Value.slice (mkA ob2) xs.length cap2]) (z:=.slice (mkA ob2) xs.length cap2) (Zzb rfl) rfl (i:=0) rfl hfit rfl;have hh':(Zt rows m).take (0+e1.length*1)++[Value.slice (mkA ob2) xs.length cap2]++(Zt rows m).drop (0+e1.length*1+1)=Zt (rows.set e1.length (ob2,cap2)) (m.set e1.length xs):=by
           rw [Nat.zero_add,Nat.mul_one];exact hh
          have hst:=hst.bare;simp only [List.set_cons_zero,List.length_singleton] at hst;rw [hh'] at hst;have hst':St N w0 v0 [] (.own (some b) ty0 1 (m.set e1.length xs).length cap (Zt (rows.set e1.length (ob2,cap2)) (m.set e1.length xs)) :: (e1 ++ .own ob2 ty3 s.n xs.length cap2 cs2 :: e2)++E'.flatten) v a w':=by
           rw [List.length_set];refine hst.perm ?_;simp only [List.cons_append,List.append_assoc];exact List.Perm.cons _ List.perm_middle.symm
          have hle:Le U v γ (era l k2) v (Zoc γ kk (.mat (some b) cap (rows.set e1.length (ob2,cap2)))) (⟨kk,n,.mat ty0 ty3 s (m.set e1.length xs) n⟩ :: era (era l k2) kk):=Le.upd r2 he' (Zb.le_refl _) (fun _ hne=>ZTb hne) ⟨rfl,by simp,⟨_,_,_,_,g1,Z5a,fun e=>absurd e hn⟩,fun e=>absurd e hn⟩;subst ho;exact Zwf (r2.upd hX (r2.ul _ (Zy he').1).1 hsp2 hst' hle (fun _ hne=>ZTb hne) ⟨some b,cap,rows.set e1.length (ob2,cap2),_,Z5a,k3,rfl⟩ (List.Perm.refl _) hX) hU rfl (hrun ee1 ee2) h
         ·exact h.elim
       | box _ _=>exact h.elim
       | mid _ _ _ _ _ _=>exact h.elim
       | mat _ _ _ _ _=>exact h.elim
     | box _ _=>exact h.elim
     | own _ _ _ _=>exact h.elim
    · -- another row's header
     rename_i u2 j hv2 cv2 t2 r2 _ _;obtain ⟨en,he,h⟩:=h;obtain ⟨yy,hy0,_,hy⟩:=Zha hp (fun _ e=>by cases e) rfl rfl;have hy0:a.eval x=yy:=(List.cons.inj hy0).1;have hy:=hy en he;obtain ⟨yq,hq0,_,hqy⟩:=Zha hq (fun _ e=>by cases e) rfl rfl;have hq0:a.eval y=yq:=(List.cons.inj hq0).1;obtain ⟨kk,st,L⟩:=en;obtain ⟨hm,hkk⟩:=Zy he;have hkk:kk=u:=hkk;subst hkk;have hS1:∀ z:Value,Sized P t ([z]:List Value).length sz.2:=fun z=>by
      have:sz.1=1:=b1.symm;rw [this] at hS;exact hS
     cases L with
     | mat ty0 ty2 s m hv =>
      simp only at h;split at h
      ·rename_i bu bh;have bu:=Nat.eq_of_beq_eq_true bu;have bh:=Nat.eq_of_beq_eq_true bh;subst bu bh;obtain ⟨b,cap,rows,g1,rfl,g3,g4⟩:=hy;obtain ⟨ob',cap',rows',obi,capi,j1,j2,rfl,⟨rj,j3,j4⟩,_⟩:=hqy _ he rfl;rw [g1] at j1;cases j1;obtain ⟨es,E',h1,h2,_,h3,_⟩:=hr.del he;obtain ⟨ob2,cap2,rows2,es3,q1,q2,rfl⟩:=h1;have q1:γ u2 = .mat ob2 cap2 rows2:=q1;rw [g1] at q1;cases q1;have hrl:=ZIf q2;have hs:=hr.st.perm h3;obtain ⟨σ,hσ,ee1,ee2⟩:=hs.ev2 x y;rw [hy0] at ee1;rw [hq0] at ee2;have hfit:0+i*1+([Value.slice (mkA obi) r2.length capi]:List Value).length≤(Zt rows m).length:=by
        rw [ZId hrl];simp only [List.length_singleton];omega
       obtain ⟨w',hrun,hst⟩:=ZNb (P:=P) hσ (hS1 _) (cs:=[Value.slice (mkA obi) r2.length capi]) (z:=.slice (mkA obi) r2.length capi) (Zzb rfl) rfl (i:=0) rfl hfit rfl;have hst:=hst.bare;simp only [List.set_cons_zero,List.length_singleton,List.cons_append] at hst;have hset:(Zt rows m).take (0+i*1)++[Value.slice (mkA obi) r2.length capi]++(Zt rows m).drop (0+i*1+1)=(Zt rows m).set i (.slice (mkA obi) r2.length capi):=by
        rw [List.set_eq_take_append_cons_drop,if_pos (by rw [ZId hrl];exact g3)];simp
       rw [hset] at hst;have hjj:(Zt rows m)[j]? = some (.slice (mkA obi) r2.length capi):=by
        rw [Zfi j2 j3,j4]
       have hle:Le U v γ l v γ (⟨u2,n,.mid ty0 ty2 s m hv (.swp i j)⟩ :: era l u2):=Le.upd hr he (Zb.le_refl _) (fun _ _=>rfl) ⟨rfl,rfl,⟨_,_,_,_,g1,g1,fun _=>⟨rfl,rfl,rfl⟩⟩,fun e=>absurd e hn⟩;subst ho;exact Zwf (hr.upd hX (hr.ul _ hm).1 h2 hst hle (fun _ _=>rfl) ⟨some b,cap,rows,es3,_,es3,g1,q2,⟨rfl,g3,_,hjj,rfl⟩,rfl⟩ (List.Perm.refl _) (hr.ul _ hm).2.2) hU rfl (hrun ee1 ee2) h
      ·exact h.elim
     | mid ty0 ty2 s m hv sm =>
      cases sm with
      | hol _=>exact h.elim
      | swp i0 j0 =>
       simp only at h;split at h
       ·rename_i bu bh;have bu:=Nat.eq_of_beq_eq_true bu;have bh:=Nat.eq_of_beq_eq_true bh;subst bu bh;obtain ⟨_,q1,_,q2,h⟩:=h;have q1:i=j0:=by
         unfold eqN at q1;split at q1
         ·assumption
         ·cases q1
        have q2:j=i0:=by
         unfold eqN at q2;split at q2
         ·assumption
         ·cases q2
        subst q1 q2;obtain ⟨b,cap,rows,g1,rfl,g3,g4⟩:=hy;obtain ⟨ob',cap',rows',obi,capi,j1,j2,rfl,⟨rj,j3,j4⟩,_⟩:=hqy _ he rfl;rw [g1] at j1;cases j1;obtain ⟨es,E',h1,h2,_,h3,_⟩:=hr.del he;obtain ⟨ob2,cap2,rows2,es3,hs0,es4,q1,q2,⟨rfl,q3,hx,q4,rfl⟩,rfl⟩:=h1;have q1:γ u2 = .mat ob2 cap2 rows2:=q1;rw [g1] at q1;cases q1;have hrl:=ZIf q2;have hs:=hr.st.perm h3;obtain ⟨σ,hσ,ee1,ee2⟩:=hs.ev2 x y;rw [hy0] at ee1;rw [hq0] at ee2;have hfit:0+i*1+([Value.slice (mkA obi) r2.length capi]:List Value).length≤((Zt rows m).set j hx).length:=by
         rw [List.length_set,ZId hrl];simp only [List.length_singleton];omega
        obtain ⟨w',hrun,hst⟩:=ZNb (P:=P) hσ (hS1 _) (cs:=[Value.slice (mkA obi) r2.length capi]) (z:=.slice (mkA obi) r2.length capi) (Zzb rfl) rfl (i:=0) rfl hfit rfl;have hst:=hst.bare;simp only [List.set_cons_zero,List.length_singleton,List.cons_append] at hst;have hset:((Zt rows m).set j hx).take (0+i*1)++[Value.slice (mkA obi) r2.length capi]++((Zt rows m).set j hx).drop (0+i*1+1)=((Zt rows m).set j hx).set i (.slice (mkA obi) r2.length capi):=by
         rw [List.set_eq_take_append_cons_drop (l:=(Zt rows m).set j hx),if_pos (by rw [List.length_set,ZId hrl];exact g3)];simp
        rw [hset] at hst;obtain ⟨pi,hpi⟩:∃ p,rows[i]? = some p:=⟨_,List.getElem?_eq_getElem (by omega)⟩;obtain ⟨ri,hri⟩:∃ r,m[i]? = some r:=⟨_,List.getElem?_eq_getElem g3⟩;have hhx:hx=ZFd pi ri:=by
         rw [Zfi hpi hri] at q4;exact (Option.some.inj q4).symm
        have hhj:Value.slice (mkA obi) r2.length capi=ZFd (obi,capi) rj:=by unfold ZFd;rw [j4]
        obtain ⟨w1,es5,w2,w3⟩:=ZQw q2 j2 hpi j3 hri;rw [hhx,hhj,w1] at hst;have hln:(Zic m j i).length=m.length:=by unfold Zic;simp
        have hst':St N w0 v0 [] (.own (some b) ty0 1 (Zic m j i).length cap (Zt ((rows.set j pi).set i (obi,capi)) (Zic m j i)) :: es5++E'.flatten) v a w':=by
         rw [hln];refine hst.perm ?_;simp only [List.cons_append];exact List.Perm.cons _ (List.Perm.append_right _ w2.symm)
        have hle:Le U v γ l v (Zoc γ u2 (.mat (some b) cap ((rows.set j pi).set i (obi,capi)))) (⟨u2,n,.mat ty0 ty2 s (Zic m j i) n⟩ :: era l u2):=Le.upd hr he (Zb.le_refl _) (fun _ hne=>ZTb hne) ⟨rfl,hln,⟨_,_,_,_,g1,Z5a,fun e=>absurd e hn⟩,fun e=>absurd e hn⟩;subst ho;exact Zwf (hr.upd hX (hr.ul _ hm).1 h2 hst' hle (fun _ hne=>ZTb hne) ⟨some b,cap,_,_,Z5a,w3,rfl⟩ (List.Perm.refl _) hX) hU rfl (hrun ee1 ee2) h
       ·exact h.elim
     | box _ _=>exact h.elim
     | own _ _ _ _=>exact h.elim
    ·exact h.elim
   · -- an element of a row
    rename_i u i j hv cv s r x0 off;split at h
    ·rename_i z hz;obtain ⟨yy,hy0,_,hy⟩:=Zha hp (fun _ e=>by cases e) rfl rfl;have hy0:a.eval x=yy:=(List.cons.inj hy0).1;obtain ⟨⟨kz,sz0,Lz⟩,hez,h⟩:=h;have hLz:∃ ty ty2 t m hv,Lz = .mat ty ty2 t m hv:=by
      cases Lz with
      | mat ty ty2 t m hv=>exact ⟨_,_,_,_,_,rfl⟩
      | _=>exact h.elim
     obtain ⟨_,_,_,_,_,rfl⟩:=hLz;obtain ⟨y1,l1,γ1,v1,ℓ1,hB,r1,le1,q1⟩:=Zjd hn hX FU h hr (ZYh FU hz trivial hkq);obtain ⟨en,he,hC⟩:=hB;have hp1:=ZDb le1 hk hp;obtain ⟨yy',hy0',_,hy1⟩:=Zha hp1 (fun _ e=>by cases e) rfl rfl;have hy0':a.eval x=yy':=(List.cons.inj hy0').1;have hy1:=hy1 en he;obtain ⟨kk,st,L⟩:=en;obtain ⟨hm,hkk⟩:=Zy he;have hkk:kk=u:=hkk;subst hkk
     cases L with
     | mat ty0 ty2 s' m hv' =>
      simp only at hC;split at hC
      ·rename_i b4 b5;have b4:=Nat.eq_of_beq_eq_true b4;have b5:=Nat.eq_of_beq_eq_true b5;subst b4 b5;split at hC
       ·rename_i r' hr';obtain ⟨ob,cap,rows,bi,capi,g1,g2,rfl,_,g4,g6⟩:=hy1 rfl;obtain ⟨⟨m',c1,c2⟩,cx⟩:=g6 rfl;obtain ⟨c3,c4⟩:=Z6 c1
        cases c3;cases c4
        have hr':r.set j y1=r':=by
         obtain ⟨c5,c6⟩:=Z6 hr';exact c6
        subst hr';obtain ⟨⟨k0,st0,L0⟩,he0,hce⟩:=le1.l _ _ hk.1 he;obtain ⟨es,E',h1,h2,_,h3,_⟩:=r1.del he;obtain ⟨ob',cap',rows',es3,f1,f2,rfl⟩:=h1;have f1:γ1 kk = .mat ob' cap' rows':=f1;rw [g1] at f1;cases f1
        cases L0 with
        | mat ty1 ty3 t1 m1 hv1 =>
         obtain ⟨d1,d2,⟨obx,capx,rowsx,rowsy,d3,d4,d5⟩,d6⟩:=hce;obtain ⟨d7,d8⟩:=d6 hk.2.2
         cases d8
         obtain ⟨d9,d10,_⟩:=d5 hk.2.1;rw [g1] at d4;cases d4;subst d10;obtain ⟨c,hc1,hc2⟩:=ZGr hr he0 d3 g2 c2 cx;obtain ⟨c',hc1',hc2'⟩:=ZGr r1 he g1 g2 c2 cx;have e1:=Zzk hc2 hc2' ((Rep.len _ hc1).trans (Rep.len _ hc1').symm);obtain ⟨z1',_,zfit⟩:=Zam hz hc1 hcs hkq;have q2:=q1 _ z1';rw [hlen] at q2 zfit;obtain ⟨csx,ea,eb,k1,k2,k3⟩:=Zvp f2 g2 c2;subst k1;have hs:St N w0 v0 [] (.own (some bi) ty2 s.n r.length capi csx :: .own ob ty0 1 m.length cap (Zt rows m) :: (ea++eb++E'.flatten)) v1 a w:=by
          refine r1.st.perm (h3.trans ?_);simp only [List.cons_append,List.append_assoc];exact (List.Perm.cons _ List.perm_middle).trans (List.Perm.swap _ _ _)
         have hrel:=Zja k2 cx;rw [ZR] at hrel;have hl3:=Rep.len _ hrel;have hl1:=Rep.len _ hc1;rw [ZR] at hl3 hl1;have hcell:(csx.drop (j*s.n)).take s.n=c:=by
          have hw:=Zbd hs (j:=0) rfl rfl g4 0 ((csx.drop (j*s.n)).take s.n) (by rw [hl3,List.drop_zero,List.take_take,Nat.min_self]) (by omega);exact Zzk (by simpa using hw) hc2 (hl3.trans hl1.symm)
         obtain ⟨σ,hσ,e1,e2⟩:=hs.ev2 x y;rw [hy0'] at e1;rw [hqe] at e2;have hset:=ZPp k2 g4 hcell q2 (ZR s).symm (by omega);have hfit2:0+j*s.n+off+sz.1≤csx.length:=Zhr hs (j:=0) rfl g4 (by omega);obtain ⟨w',hrun,hst⟩:=ZNb (P:=P) hσ hS hcells hlen (i:=0) rfl hfit2 hpl;rw [hlen] at hst;have hst:=hst.bare;obtain ⟨k4,k5⟩:=k3 (r.set j y1) _ (List.length_set ..) hset;have hst':St N w0 v0 [] (.own ob ty0 1 (m.set i (r.set j y1)).length cap (Zt rows (m.set i (r.set j y1))) :: (ea ++ .own (some bi) ty2 s.n r.length capi (csx.take (0+j*s.n+off)++cs++csx.drop (0+j*s.n+off+sz.1)) :: eb)++E'.flatten) v1 a w':=by
          rw [List.length_set,k4];refine hst.perm ?_;simp only [List.set_cons_zero,List.cons_append,List.append_assoc];exact (List.Perm.swap _ _ _).trans (List.Perm.cons _ List.perm_middle.symm)
         have hle:Le U v1 γ1 l1 v1 γ1 (⟨kk,n,.mat ty0 ty2 s (m.set i (r.set j y1)) hv'⟩ :: era l1 kk):=Le.upd r1 he (Zb.le_refl _) (fun _ _=>rfl) ⟨rfl,by simp,⟨_,_,_,_,g1,g1,fun _=>⟨rfl,rfl,Zbs c2 (List.length_set ..)⟩⟩,fun e=>absurd e hn⟩;subst ho;exact Zwf (r1.upd hX (r1.ul _ hm).1 h2 hst' hle (fun _ _=>rfl) ⟨ob,cap,rows,_,g1,k5,rfl⟩ (List.Perm.refl _) (r1.ul _ hm).2.2) hU rfl (hrun e1 e2) hC
        | box _ _=>exact hce.elim
        | mid _ _ _ _ _ _=>rw [he0] at hez;cases hez
        | own _ _ _ _=>exact hce.elim
       ·exact hC.elim
      ·exact hC.elim
     | box _ _=>exact hC.elim
     | mid _ _ _ _ _ _=>exact hC.elim
     | own _ _ _ _=>exact hC.elim
    ·exact h.elim
   ·exact h.elim
  ·exact h.elim
end
end Go.Eng
namespace Go.Eng
open Go.RowKit
def ZHd:Rep Value where
 n:=1
 agg:=false
 rel _ cs x:=cs=[x]∧plain x=true
 len h:=by rw [h.1];rfl
 mono _ h:=h
 flat h:=by obtain ⟨h1,h2⟩:=h;rw [h1];simp [h2]
theorem ZZm {v:Zb}:∀ {l:List Value},l.all plain=true→ZHd.rels v l l
 | [],_=>rfl
 | x :: l,h=>by
  simp only [List.all_cons,Bool.and_eq_true] at h
  exact ⟨[x],l,rfl,⟨rfl,h.1⟩,ZZm h.2⟩
theorem Z7l {v:Zb}:∀ {l cs:List Value},ZHd.rels v cs l→cs=l
 | [],cs,h=>h
 | x :: l,cs,h=>by
  obtain ⟨c1,c2,h1,h2,h3⟩:=h
  rw [h1,h2.1,Z7l h3];rfl
theorem Z1m {α:Type}:∀ {rows:List (Option Nat×Nat)} {m:List (List α)},(Zt rows m).all plain=true
 | [],_=>rfl
 | _ :: _,[]=>rfl
 | p :: ps,r :: rs=>by
  have:=Z1m (rows:=ps) (m:=rs)
  simp only [Zt,List.all_cons,this,Bool.and_true]
  obtain ⟨ob,cap⟩:=p
  cases ob <;> rfl
theorem Zdr {α:Type}:∀ {rows rows2:List (Option Nat×Nat)} {m m2:List (List α)},rows.length=m.length→Zt (rows++rows2) (m++m2)=Zt rows m++Zt rows2 m2
 | [],_,[],_,_=>rfl
 | p :: ps,rows2,r :: rs,m2,h=>by
  have:=Zdr (rows:=ps) (rows2:=rows2) (m:=rs) (m2:=m2) (by simpa using h)
  simp [Zt,this]
 | [],_,_ :: _,_,h=>by cases h
 | _ :: _,_,[],_,h=>by cases h
theorem ZYq {v:Zb} {ty:TypeId} {t:T}:∀ {rows rows2:List (Option Nat×Nat)} {m m2:List (List t.den)} {es es2:List Loc},Zoa v ty t rows m es→Zoa v ty t rows2 m2 es2→Zoa v ty t (rows++rows2) (m++m2) (es++es2)
 | [],_,[],_,es,_,h,k=>by rw [show es=[] from h];exact k
 | p :: ps,rows2,r :: rs,m2,es,es2,⟨cs,es',h1,h2,h3⟩,k=>by
  subst h2
  exact ⟨cs,es'++es2,h1,rfl,ZYq h3 k⟩
 | [],_,_ :: _,_,_,_,h,_=>h.elim
 | _ :: _,_,[],_,_,_,h,_=>h.elim
theorem Z2s {v:Zb} {ty:TypeId} {t:T} {rows:List (Option Nat×Nat)} {m:List (List t.den)} {es:List Loc} {i:Nat} {p:Option Nat×Nat} {r:List t.den} (h:Zoa v ty t rows m es) (hp:rows[i]? = some p) (hr:m[i]? = some r) :
  ∃ cs e1 e2,es=e1 ++ .own p.1 ty t.n r.length p.2 cs :: e2∧e1.length=i∧t.rep.rels v cs r:=by
 obtain ⟨k1,k2,k3⟩:=ZRf.1 h;obtain ⟨cs,q1,q2⟩:=k3 i p r hp hr;have hlt:=(List.getElem?_eq_some_iff.1 q2).1;refine ⟨cs,es.take i,es.drop (i+1),?_,by simp;omega,q1⟩;rw [← (List.getElem?_eq_some_iff.1 q2).2,← List.drop_eq_getElem_cons hlt,List.take_append_drop]
section
variable {P:Program} {N:Nat} {G:V→Value→Prop} {w0:Base} {v0:Zb} {U X:Nat→Prop} {f:Fr} {l:Lo} {a:Act} {w:World} {γ:Nat→Gh} {v:Zb} {ℓ:List Loc} {n:Nat}
variable {ty:TypeId} {pos:String} {aft:Array Edge} {g:Option (Nat×Bool)}
theorem Z6i (hr:RelX N G w0 v0 U X f l a w γ v ℓ) (hU:∀ k,U k→X k) (hX:X n) (hn:¬ U n) {e e2:TypeId} {s:T} {m:List (List s.den)} {rows:List (Option Nat×Nat)} {o:Oper} {ob:Option Nat} {cap:Nat} {w':World} {es ℓ':List Loc} {E:List (List Loc)} {Post:Unit→Fr→Lo→Prop} (hd:∀ k,o.dst=some k→k<N) (hE:F2 (ZFa v γ l) l E) (hℓ:ℓ'=E.flatten)
  (hR:Zoa v e2 s rows m es) (hst:St N w0 v0 [] (.own ob e 1 m.length cap (Zt rows m) :: es++ℓ') v a w') (hrun:(execOp a.eval o).run P w = .ok (.value (.slice (mkA ob) m.length cap)) w') (h:Zr n (Ev.new n (.mat e e2 s m n) (ret o (.own n))) f l Post):ZCa P N G w0 v0 X o a w Post:=by
 obtain ⟨hnew,h⟩:=h;have hr':=hr.new (γ':=Zoc γ n (.mat ob cap rows)) (L':=.mat e e2 s m n) hX hX hn hnew hE hst (Zb.le_refl _) (fun _ h=>ZTb h) ⟨ob,cap,rows,es,Z5a,hR,rfl⟩ (by rw [hℓ]) hX;refine fin (x:=.own n) (hr'.mono hU fun _ h=>h) hrun hd hX ⟨[_],⟨_,rfl,by cases ob <;> rfl,fun e' he'=>?_⟩,rfl⟩ hX h;rw [ZS,if_pos rfl] at he';cases he';exact ⟨_,_,_,Z5a,rfl⟩
theorem RelX.take (hr:RelX N G w0 v0 U X f l a w γ v ℓ) (hX:X n) (hn:¬ U n) {u st hv i:Nat} {ty0 ty2:TypeId} {t:T} {m:List (List t.den)} {r:List t.den} (he:lkE l u=some ⟨u,st,.mat ty0 ty2 t m hv⟩) {ob:Option Nat} {cap:Nat} {rows:List (Option Nat×Nat)} {p:Option Nat×Nat} (hγ:γ u = .mat ob cap rows) (hp:rows[i]? = some p) (hm:m[i]? = some r) :
  ∃ cs ℓ' E',t.rep.rels v cs r∧RelX N G w0 v0 U X f (⟨u,n,.mid ty0 ty2 t m hv (.hol i)⟩ :: era l u) a w γ v ℓ'∧F2 (ZFa v γ (⟨u,n,.mid ty0 ty2 t m hv (.hol i)⟩ :: era l u)) (⟨u,n,.mid ty0 ty2 t m hv (.hol i)⟩ :: era l u) E'∧ℓ'=E'.flatten∧St N w0 v0 [] (.own p.1 ty2 t.n r.length p.2 cs :: ℓ') v a w:=by
 obtain ⟨es,E',h1,h2,_,h3,_⟩:=hr.del he;obtain ⟨ob',cap',rows',es3,f1,f2,rfl⟩:=h1;have f1:γ u = .mat ob' cap' rows':=f1;rw [hγ] at f1;cases f1;obtain ⟨cs,e1,e2,k1,k2,k3⟩:=Z2s f2 hp hm;subst k1;have hs:St N w0 v0 [] (.own p.1 ty2 t.n r.length p.2 cs :: (.own ob ty0 1 m.length cap (Zt rows m) :: (e1++e2)++E'.flatten)) v a w:=by
  refine hr.st.perm (h3.trans ?_);simp only [List.cons_append,List.append_assoc];exact (List.Perm.cons _ List.perm_middle).trans (List.Perm.swap _ _ _)
 have hle:Le U v γ l v γ (⟨u,n,.mid ty0 ty2 t m hv (.hol i)⟩ :: era l u):=Le.upd hr he (Zb.le_refl _) (fun _ _=>rfl) ⟨rfl,rfl,⟨_,_,_,_,hγ,hγ,fun _=>⟨rfl,rfl,rfl⟩⟩,fun e=>absurd e hn⟩;have hrl:ZFa v γ (⟨u,n,.mid ty0 ty2 t m hv (.hol i)⟩ :: era l u) ⟨u,n,.mid ty0 ty2 t m hv (.hol i)⟩ (.own ob ty0 1 m.length cap (Zt rows m) :: (e1++e2)):=⟨ob,cap,rows,_,_,_,hγ,f2,⟨rfl,e1,_,e2,rfl,k2,rfl⟩,rfl⟩;have r2:=hr.upd hX (hr.ul _ (Zy he).1).1 h2 (hs.drop (List.sublist_cons_self _ _)) hle (fun _ _=>rfl) hrl (List.Perm.refl _) (hr.ul _ (Zy he).1).2.2;obtain ⟨E2,hE2,hp2⟩:=r2.lr;exact ⟨cs,E2.flatten,E2,k3,⟨r2.st.perm hp2,r2.fr,⟨E2,hE2,List.Perm.refl _⟩,r2.nd,r2.uf,r2.ul,r2.gh⟩,hE2,rfl,hs.perm (List.Perm.cons _ hp2)⟩
end
end Go.Eng
namespace Go.Eng
open Go.RowKit
theorem Zff {cs r:List Value} (h:zSl cs=some r):cs = .slice none 0 0 :: r:=by
 unfold zSl at h;split at h
 ·cases h;rfl
 ·cases h
theorem Zlp {v:Zb}:∀ {t:T} {cs r:List Value} {x:t.den},zOK t cs=some r→Z1f t=some x→∃ c1,cs=c1++r∧t.rep.rel v c1 x:=by
 intro t
 induction t with
 | int k =>
  intro cs r x h hx;unfold zOK at h
  cases hx
  split at h <;> try (cases h;done)
  all_goals (rename_i heq;cases heq)
  rename_i k' n rest;split at h
  ·rename_i hk
   cases h
   have:=Zpc hk;subst this;exact ⟨[_],rfl,rfl,by cases k <;> decide⟩
  ·cases h
 | bool =>
  intro cs r x h hx;unfold zOK at h
  cases hx
  split at h <;> try (cases h;done)
  all_goals (rename_i heq;cases heq)
  cases h
  exact ⟨[_],rfl,rfl⟩
 | flt k =>
  intro cs r x h hx;unfold zOK at h
  cases hx
  split at h <;> try (cases h;done)
  all_goals (rename_i heq;cases heq)
  split at h
  ·rename_i hk
   cases h
   have:=ZNr hk;subst this;exact ⟨[_],rfl,rfl,by decide⟩
  ·cases h
 | str =>
  intro cs r x h hx;unfold zOK at h
  cases hx
  split at h <;> try (cases h;done)
  all_goals (rename_i heq;cases heq)
  rename_i s rest;split at h
  ·rename_i hs
   cases h
   refine ⟨[_],rfl,?_,by show ([]:List UInt8).length≤maxLen;exact Nat.zero_le _⟩;have:s=Zx []:=by
    cases s with
    | mk d=>show _=ByteArray.mk _;congr 1;exact Array.ext' hs
   rw [this]
  ·cases h
 | one a ih =>
  intro cs r x h hx;simp only [zOK] at h;obtain ⟨c1,h1,h2⟩:=ih h hx;exact ⟨c1,h1,h2⟩
 | pair a b ia ib =>
  intro cs r x h hx;simp only [zOK] at h;simp only [Z1f] at hx;split at hx
  ·rename_i x1 x2 hx1 hx2
   cases hx
   split at h
   ·rename_i r1 hr1;obtain ⟨c1,h1,h2⟩:=ia hr1 hx1;obtain ⟨c2,h3,h4⟩:=ib h hx2;exact ⟨c1++c2,by rw [h1,h3,List.append_assoc],c1,c2,rfl,h2,h4⟩
   ·cases h
  ·cases hx
 | ptr a _=>intro cs r x h hx;cases hx
 | slice a _ =>
  intro cs r x h hx
  cases hx
  simp only [zOK] at h;exact ⟨[_],Zff h,ZKh _ _⟩
 | leaf i =>
  intro cs r x h hx;unfold zOK at h;split at h <;> try (cases h;done)
  all_goals (rename_i heq;cases heq)
  ·cases hx;exact ⟨[_],Zff h,Zeh _⟩
  ·cases hx;exact ⟨[_],Zff h,ZMk _⟩
  ·cases hx;rw [Zff h];exact ⟨[_,_],rfl,ZNp _⟩
  ·cases hx
   split at h
   ·rename_i r1 hr1;rw [Zff hr1,Zff h];exact ⟨[_,_,_],rfl,ZBv _⟩
   ·cases h
section
variable {P:Program} {N:Nat} {G:V→Value→Prop} {w0:Base} {v0:Zb} {U X:Nat→Prop} {f:Fr} {l:Lo} {a:Act} {w:World} {γ:Nat→Gh} {v:Zb} {ℓ:List Loc} {n:Nat}
variable {ty:TypeId} {pos:String} {aft:Array Edge} {g:Option (Nat×Bool)}
theorem Zrh {t:T} {cs r:List Value} {z:V} (h:ZTf t cs=some (z,r)):∃ c1,cs=c1++r∧RR v γ l false z c1∧z.ok U∧c1.all plain=true:=by
 unfold ZTf at h;split at h
 ·rename_i x r' hx hr
  cases h
  obtain ⟨c1,h1,h2⟩:=Zlp (v:=v) hr hx;exact ⟨c1,h1,h2,trivial,Rep.flat _ h2⟩
 ·cases h
theorem ZEr {F:TypeId→List Value→Option (V×List Value)} (hF:∀ t cs z r,F t cs=some (z,r)→∃ c1,cs=c1++r∧RR v γ l false z c1∧z.ok U∧c1.all plain=true) :
  ∀ {fs:List Field} {cs r:List Value} {z:V},Zlj F fs cs=some (z,r)→∃ c1,cs=c1++r∧RR v γ l false z c1∧z.ok U∧c1.all plain=true
 | [],cs,r,z,h=>by cases h;exact ⟨[],rfl,rfl,trivial,rfl⟩
 | x :: fs,cs,r,z,h=>by
  simp only [Zlj] at h
  split at h
  ·rename_i y cs1 hy
   split at h
   ·rename_i c cs2 hc
    cases h
    obtain ⟨c1,h1,h2,h3,h4⟩:=hF _ _ _ _ hy
    obtain ⟨c2,k1,k2,k3,k4⟩:=ZEr hF hc
    exact ⟨c1++c2,by rw [h1,k1,List.append_assoc],⟨c1,c2,rfl,h2,k2⟩,⟨h3,k3⟩,by rw [List.all_append,h4,k4];rfl⟩
   ·cases h
  ·cases h
theorem ZUq {F:List Value→Option (V×List Value)} (hF:∀ cs z r,F cs=some (z,r)→∃ c1,cs=c1++r∧RR v γ l false z c1∧z.ok U∧c1.all plain=true):∀ {k:Nat} {cs r:List Value} {c:V},zRep F k cs=some (c,r)→∃ c1,cs=c1++r∧RR v γ l false c c1∧c.ok U∧c1.all plain=true
 | 0,cs,r,c,h=>by cases h;exact ⟨[],rfl,rfl,trivial,rfl⟩
 | k+1,cs,r,c,h=>by
  simp only [zRep] at h
  split at h
  ·rename_i x cs1 hx
   split at h
   ·rename_i c' cs2 hc
    cases h
    obtain ⟨c1,rfl,h2,h3,h4⟩:=hF _ _ _ hx
    obtain ⟨c2,rfl,k2,k3,k4⟩:=ZUq hF hc
    exact ⟨c1++c2,by simp,⟨c1,c2,rfl,h2,k2⟩,⟨h3,k3⟩,by rw [List.all_append,h4,k4];rfl⟩
   ·cases h
  ·cases h
theorem Zdo {C:Cf}:∀ (g:Nat) {t:TypeId} {cs r:List Value} {z:V},ZDh C g t cs=some (z,r)→∃ c1,cs=c1++r∧RR v γ l false z c1∧z.ok U∧c1.all plain=true
 | 0,_,_,_,_,h=>by cases h
 | g+1,t,cs,r,z,h=>by
  simp only [ZDh] at h
  split at h
  ·split at h
   ·cases h
    exact ⟨[_,_,_],rfl,⟨[_],[_,_],rfl,rfl,[_],[_],rfl,ZMk _,[_],[],rfl,ZMk _,rfl⟩,⟨trivial,trivial,trivial,trivial⟩,rfl⟩
   ·cases h
  ·exact Zrh h
  ·split at h
   ·exact Zrh h
   ·exact Zrh h
   ·exact Zrh h
   ·exact Zrh h
   ·split at h
    ·rename_i r' hr
     cases h
     exact ⟨[_],Zff hr,rfl,trivial,rfl⟩
    ·cases h
   ·split at h
    ·rename_i c r' hc
     cases h
     obtain ⟨c1,h1,h2,h3,h4⟩:=ZEr (fun t cs z r h=>Zdo g h) hc
     exact ⟨c1,h1,h2,h3,h4⟩
    ·cases h
   ·split at h
    ·rename_i c r' hc
     cases h
     obtain ⟨c1,h1,h2,h3,h4⟩:=ZUq (fun cs z r h=>Zdo g h) hc
     exact ⟨c1,h1,h2,h3,h4⟩
    ·cases h
   ·cases h
theorem ZDm {C:Cf} {t:TypeId} {z:V} (h:ZTi C t=some z):∃ y cs,(∀ w,(zeroValue t).run C.P w = .ok y w)∧y.cells=cs.toArray∧RR v γ l false z cs∧z.ok U∧cs.all plain=true:=by
 unfold ZTi at h;split at h
 ·rename_i i hi;split at h
  ·rename_i y hy;split at h
   ·rename_i x hx
    cases h
    obtain ⟨c1,h1,h2,h3,h4⟩:=Zdo (v:=v) (γ:=γ) (l:=l) (U:=U) FU hx;rw [List.append_nil] at h1;refine ⟨y,c1,fun w=>by simp [zeroValue,typeInfo,hi,hy],by rw [← h1],h2,h3,h4⟩
   ·cases h
  ·cases h
 ·cases h
theorem Z6o (hr:RelX N G w0 v0 U X f l a w γ v ℓ) (hU:∀ k,U k→X k) (hX:X n) (hn:¬ U n) {t:TypeId} {o:Oper} {c:V} {cs:List Value} {Post:Unit→Fr→Lo→Prop} (hd:∀ k,o.dst=some k→k<N) (hc:RR v γ l false c cs) (hk:c.ok U) (hp:cs.all plain=true)
  (hrun:(execOp a.eval o).run P w = .ok (.value (.pointer (some ⟨w.heap.size,0,none⟩))) (w.alloc (.cells cs.toArray t))) (h:Zr n (Ev.new n (.box t c) (ret o (.ptr n 0))) f l Post):ZCa P N G w0 v0 X o a w Post:=by
 obtain ⟨hnew,h⟩:=h;obtain ⟨E,hE,hpm⟩:=hr.lr;have hst:=(hr.st.perm hpm).newLoc (.cells cs.toArray t) (e:=.box w.heap.size t cs) rfl (heap_alloc_new w _);have hle:Le U v γ l v (Zoc γ n (.box w.heap.size)) (⟨n,n,.box t c⟩ :: l):=⟨Zb.le_refl _,fun k e' hk he=>by
  have hne:n≠k:=fun e=>hn (e ▸ hk);rw [ZS,if_neg hne] at he;refine ⟨e',he,?_⟩;obtain ⟨hm,hk'⟩:=Zy he;obtain ⟨es,hrr⟩:=ZAe hE hm;have:=ZKi (U:=U) (γ':=Zoc γ n (.box w.heap.size)) hrr (ZTb (by rw [hk'];exact fun e=>hne e.symm));rw [hk'] at this;exact this⟩
 have hr':=hr.new (γ':=Zoc γ n (.box w.heap.size)) (L':=.box t c) hX hX hn hnew hE hst (Zb.le_refl _) (fun _ h=>ZTb h) ⟨_,cs,Z5a,Znb hle hk hc,hp,rfl⟩ (List.Perm.refl _) hk;refine fin (x:=.ptr n 0) (hr'.mono hU fun _ h=>h) hrun hd hX ⟨[_],⟨_,rfl,Zre,fun e' he'=>?_⟩,rfl⟩ hX h;rw [ZS,if_pos rfl] at he';cases he';exact ⟨_,Z5a,rfl⟩
theorem Zkh (hr:RelX N G w0 v0 U X f l a w γ v ℓ) (hU:∀ k,U k→X k) (hX:X n) (hn:¬ U n) {e:TypeId} {s:T} {xs:List s.den} {o:Oper} {ob:Option Nat} {cap:Nat} {cs:List Value} {w':World} {ℓ':List Loc} {E:List (List Loc)} {Post:Unit→Fr→Lo→Prop} (hd:∀ k,o.dst=some k→k<N) (hE:F2 (ZFa v γ l) l E) (hℓ:ℓ'=E.flatten)
  (hst:St N w0 v0 [] (.own ob e s.n xs.length cap cs :: ℓ') v a w') (hc:s.rep.rels v cs xs) (hrun:(execOp a.eval o).run P w = .ok (.value (.slice (mkA ob) xs.length cap)) w') (h:Zr n (Ev.new n (.own e s xs false) (ret o (.own n))) f l Post):ZCa P N G w0 v0 X o a w Post:=by
 obtain ⟨hnew,h⟩:=h;have hr':=hr.new (γ':=Zoc γ n (.own ob cap)) (L':=.own e s xs false) hX hX hn hnew hE hst (Zb.le_refl _) (fun _ h=>ZTb h) ⟨ob,cap,cs,Z5a,hc,rfl⟩ (by rw [hℓ];exact List.Perm.refl _) trivial;refine fin (x:=.own n) (hr'.mono hU fun _ h=>h) hrun hd hX ⟨[_],⟨_,rfl,by cases ob <;> rfl,fun e' he'=>?_⟩,rfl⟩ hX h;rw [ZS,if_pos rfl] at he';cases he';exact ⟨_,_,Z5a,rfl⟩
theorem ZUn {t:TypeId} {q:EI} (h:Zzf P t=some q):Elem P t q.e q.sz q.by_ q.z∧0<q.by_:=by
 unfold Zzf at h;split at h
 ·rename_i e he;split at h
  ·rename_i i hi;split at h
   ·rename_i z hz;split at h
    ·rename_i h1 h2 h3
     cases h
     have h1:=Nat.eq_of_beq_eq_true h1;have h2:1≤i.size:=Nat.le_of_ble_eq_true h2;have h3:1≤i.bytes:=Nat.le_of_ble_eq_true h3;exact ⟨⟨he,by simp [hi,hz],by simpa using h1,h2⟩,h3⟩
    ·cases h
   ·cases h
  ·cases h
 ·cases h
theorem Ztr {ρ:Type} {g:Nat} {s:T} {c:V} {k:List s.den→Ev ρ} {Post:ρ→Fr→Lo→Prop} (h:Zr n (conv g (.slice s) (.agg c) k) f l Post):False:=by
 cases g with
 | zero=>exact h
 | succ g =>
  cases c with
  | cons x1 c =>
   cases c with
   | cons x2 r=>simp only [conv] at h;exact h
   | nl=>simp only [conv] at h;exact h
   | _=>simp only [conv] at h;exact h
  | _=>simp only [conv] at h;exact h
theorem Zqm {ρ:Type} {g:Nat} {s:T} {x:V} {k:List s.den→Ev ρ} {Post:ρ→Fr→Lo→Prop} (h:Zr n (conv g (.slice s) x k) f l Post):x.isAgg=false∧∀ c,x ≠ .tup c:=by
 cases x with
 | agg c=>exact (Ztr h).elim
 | tup c =>
  cases g with
  | zero=>exact h.elim
  | succ g=>simp only [conv] at h;exact h.elim
 | data t x =>
  refine ⟨?_,fun c e=>by cases e⟩
  cases g with
  | zero=>exact h.elim
  | succ g =>
   simp only [conv] at h;split at h
   ·rename_i y hy;obtain ⟨e,_⟩:=Z6 hy;subst e;rfl
   ·split at h
    ·rfl
    ·rfl
    ·rfl
    ·rfl
    ·rfl
    ·split at h
     ·exact (Ztr h).elim
     ·exact h.elim
 | _=>exact ⟨rfl,fun c e=>by cases e⟩
theorem ZYg {x:V} {y:Value} (h:x.isAgg=false):x.val [y]=y:=by unfold V.val;rw [h];rfl
theorem Z2p {u2:Nat} {ty' ty2':TypeId} {s':T} {m':List (List s'.den)} {hv:Nat} {y:Operand} {st:Nat} (hq:RV v γ l (.own u2) (a.eval y)) (he:lkE l u2=some ⟨u2,st,.mat ty' ty2' s' m' hv⟩) {ob:Option Nat} {cap:Nat} {rows:List (Option Nat×Nat)} (q1:γ u2 = .mat ob cap rows):a.eval y = .slice (mkA ob) m'.length cap:=by
 obtain ⟨yq,hyq0,_,hyq⟩:=Zha hq (fun _ e=>by cases e) rfl rfl;obtain ⟨oq,cq,rq,gq1,gq2⟩:=hyq _ he;rw [q1] at gq1;cases gq1;exact ((List.cons.inj hyq0).1).trans gq2
theorem ZXp (hr:RelX N G w0 v0 U X f l a w γ v ℓ) (hU:∀ k,U k→X k) (hX:X n) (hn:¬ U n) {d:Option Nat} {t:TypeId} {x y:Operand} {o:Oper} {q:V} {pu:Option Nat} {ei:EI} {Post:Unit→Fr→Lo→Prop} (hE:Elem P t ei.e ei.sz ei.by_ ei.z) (hby:0<ei.by_) (ho:o=⟨d,.call ⟨.builtin .append,#[x,y],#[t,t]⟩,ty,pos,aft,g⟩) (hd:∀ k,o.dst=some k→k<N)
  (hp0:pu=none→a.eval x = .slice none 0 0) (hp1:∀ u,pu=some u→RV v γ l (.own u) (a.eval x)) (hq:RV v γ l q (a.eval y)) (h:Zr n (appM o n ei pu q) f l Post):ZCa P N G w0 v0 X o a w Post:=by
 unfold appM at h;split at h
 ·rename_i u2;obtain ⟨⟨k2,st2,L2⟩,he2,h⟩:=h;have hkk2:k2=u2:=(Zy he2).2;subst hkk2
  cases L2 with
  | mat ty' ty2' s' m' hv' =>
   simp only at h;obtain ⟨es,E',h1,h2,h2',h3,r2⟩:=hr.del he2;obtain ⟨ob2,cap2,rows2,es3,q1,q2,rfl⟩:=h1;have q1:γ k2 = .mat ob2 cap2 rows2:=q1;have hy0:=Z2p hq he2 q1;have hl2:=ZId (ZIf q2);have hs:=hr.st.perm h3
   cases pu with
   | none =>
    simp only at h;split at h
    ·rename_i b1 b2;have b1:=Nat.eq_of_beq_eq_true b1;have b2:=Nat.eq_of_beq_eq_true b2;obtain ⟨_,hroom,h⟩:=h;obtain ⟨v',hv,hs1,hrel⟩:=hs.pubSlice (i:=0) (A:=ZHd) (l:=Zt rows2 m') rfl rfl hl2.symm (ZZm Z1m) rfl;have hs1:St N w0 v0 [] (es3++E'.flatten) v' a w:=hs1;obtain ⟨σ,hσ,e1,e2⟩:=(hs1.nilLoc ei.e 1).ev2 x y;have hE':Elem P t ei.e ZHd.n ei.by_ ei.z:=by rw [show ZHd.n=ei.sz from b2.symm];exact hE
     obtain ⟨b',cap',cs2,w',hrun,hst',hrel2⟩:=ZXf (ty:=ty) (A:=ZHd) hE' hσ (i:=0) rfl hrel (n':=([]++m').length) (by simp) (Zoe hroom) hby;have hcs:=Z7l hrel2;subst hcs;rw [hp0 rfl] at e1;rw [hy0] at e2;have r3:=r2.go hv (hs1.drop (List.sublist_append_right _ _));obtain ⟨E3,hE3,hp3⟩:=r3.lr;have hst':=hst'.bare;have hst3:St N w0 v0 [] (.own b' ty' 1 ([]++m').length cap' (Zt rows2 ([]++m')) :: es3++E3.flatten) v' a w':=by
      rw [← b1];exact hst'.perm (by simp only [List.set_cons_zero,List.cons_append];exact List.Perm.cons _ (List.Perm.append_left _ hp3))
     subst ho;exact Z6i r3 hU hX hn hd hE3 rfl (Zpd hv q2) hst3 (Z3d hσ e1 e2 hrun) h
    ·exact h.elim
   | some u =>
    simp only at h;split at h
    ·exact h.elim
    ·rename_i hne;have hne:u≠k2:=fun e=>by subst e;simp at hne
     obtain ⟨⟨k1,st1,L1⟩,he1,h⟩:=h;have hkk1:k1=u:=(Zy he1).2;subst hkk1
     cases L1 with
     | mat ty1 ty2 s m hv =>
      simp only at h;split at h
      ·rename_i m2 hm2 b1 b2 b3 b4;have b1:=Nat.eq_of_beq_eq_true b1;have b2:=Nat.eq_of_beq_eq_true b2;have b3:=Nat.eq_of_beq_eq_true b3;have b4:=Nat.eq_of_beq_eq_true b4;obtain ⟨c3,c4⟩:=Z6 hm2
       cases c3;cases c4
       subst b1 b2;obtain ⟨_,hroom,h⟩:=h;have he1':lkE (era l k2) k1=some ⟨k1,st1,.mat ty1 ty2 _ m hv⟩:=by
        rw [ZZb hr.nd,if_neg (fun e=>hne e.symm)];exact he1
       obtain ⟨es1,E1,g1,g2,g2',g3,r3⟩:=r2.del he1';obtain ⟨ob1,cap1,rows1,es4,p1,p2,rfl⟩:=g1;have p1:γ k1 = .mat ob1 cap1 rows1:=p1;have hx0:=Z2p (hp1 k1 rfl) he1 p1;have hl1:=ZIf p2;have hs:St N w0 v0 [] (.own ob2 ty1 1 m'.length cap2 (Zt rows2 m') :: (.own ob1 ty1 1 m.length cap1 (Zt rows1 m) :: (es4++es3++E1.flatten))) v a w:=by
        refine hs.perm ?_;simp only [List.cons_append];refine List.Perm.cons _ ((List.Perm.append_left _ g3).trans ?_);simp only [List.cons_append];refine List.perm_middle.trans (List.Perm.cons _ ?_);rw [← List.append_assoc];exact List.Perm.append_right _ List.perm_append_comm
       obtain ⟨v',hv,hs1,hrel⟩:=hs.pubSlice (i:=0) (A:=ZHd) (l:=Zt rows2 m') rfl rfl hl2.symm (ZZm Z1m) rfl;have hs1:St N w0 v0 [] (.own ob1 ty1 1 m.length cap1 (Zt rows1 m) :: (es4++es3++E1.flatten)) v' a w:=hs1;obtain ⟨σ,hσ,e1,e2⟩:=hs1.ev2 x y;have hE':Elem P t ty1 ZHd.n ei.by_ ei.z:=by rw [show ZHd.n=ei.sz from b4.symm,← b3];exact hE
       obtain ⟨b',cap',cs2,w',hrun,hst',hrel2⟩:=ZXf (ty:=ty) (A:=ZHd) hE' hσ (i:=0) rfl hrel (n':=(m++m').length) (by simp) (Zoe hroom) hby;have hcs:=Z7l hrel2;subst hcs;rw [hx0] at e1;rw [hy0] at e2;have r4:=r3.go hv (hs1.drop ((List.sublist_append_right _ _).trans (List.sublist_cons_self _ _)));obtain ⟨E3,hE3,hp3⟩:=r4.lr;have hst':=hst'.bare;have hst3:St N w0 v0 [] (.own b' ty1 1 (m++m').length cap' (Zt (rows1++rows2) (m++m')) :: (es4++es3)++E3.flatten) v' a w':=by
        rw [Zdr hl1];exact hst'.perm (by simp only [List.set_cons_zero,List.cons_append];exact List.Perm.cons _ (List.Perm.append_left _ hp3))
       subst ho;exact Z6i r4 hU hX hn hd hE3 rfl (ZYq (Zpd hv p2) (Zpd hv q2)) hst3 (Z3d hσ e1 e2 hrun) h
      ·exact h.elim
     | box _ _=>exact h.elim
     | own _ _ _ _=>exact h.elim
     | mid _ _ _ _ _ _=>exact h.elim
  | box _ _=>exact h.elim
  | own _ _ _ _=>exact h.elim
  | mid _ _ _ _ _ _=>exact h.elim
 ·exact h.elim
theorem Zgu (hr:RelX N G w0 v0 U X f l a w γ v ℓ) (hU:∀ k,U k→X k) (hX:X n) (hn:¬ U n) {d:Option Nat} {t:TypeId} {x:Operand} {o:Oper} {p:V} {Post:Unit→Fr→Lo→Prop} (ho:o=⟨d,.load t x,ty,pos,aft,g⟩) (hd:∀ k,o.dst=some k→k<N) (hp:RV v γ l p (a.eval x))
  (h:Zr n (takeE P o n t p) f l Post):ZCa P N G w0 v0 X o a w Post:=by
 unfold takeE at h;split at h
 ·exact h.elim
 ·rename_i q hq;split at h
  ·rename_i u i hv cv e r hag;obtain ⟨⟨kk,st,L⟩,he,h⟩:=h;have hkk:kk=u:=(Zy he).2;subst hkk;obtain ⟨y,hy0,_,hy⟩:=Zha hp (fun _ e=>by cases e) rfl rfl;have hy0:a.eval x=y:=(List.cons.inj hy0).1;have hy:=hy _ he
   cases L with
   | mat ty0 ty2 s' m hv' =>
    simp only at h;split at h
    ·rename_i z b1 b2 hz;have b1:=Nat.eq_of_beq_eq_true b1;have b2:=Nat.eq_of_beq_eq_true b2;subst b1 b2;obtain ⟨c3,c4⟩:=Z6 hz
     cases c3;cases c4
     obtain ⟨b,cap,rows,g1,rfl,g3,g4⟩:=hy;obtain ⟨m',c1,c2⟩:=g4 rfl;obtain ⟨c5,c6⟩:=Z6 c1
     cases c5;cases c6
     obtain ⟨hkk,es,hes,hmem⟩:=hr.loc he;obtain ⟨ob,cap',rows',es2,q1,q2,rfl⟩:=hes;have q1:γ kk = .mat ob cap' rows':=q1;rw [g1] at q1;cases q1;obtain ⟨p,cs,r1,r2,r3⟩:=Z1e q2 c2;obtain ⟨j,hj⟩:=hmem _ List.mem_cons_self;have hh:=Zfi r1 c2;have hw:WAt w b (0+i*1) [.slice (mkA p.1) r.length p.2]:=by
      have hx:((Zt rows m).drop (i*1)).take 1=[.slice (mkA p.1) r.length p.2]:=by
       have hlt:=(List.getElem?_eq_some_iff.1 hh).1;rw [Nat.mul_one,List.drop_eq_getElem_cons hlt];simp [(List.getElem?_eq_some_iff.1 hh).2]
      have:=Zbd hr.st hj hx g3 0 [.slice (mkA p.1) r.length p.2] rfl (by simp)
      simpa using this
     obtain ⟨cs2,ℓ2,E2,k1,r4,k2,k3,hst⟩:=hr.take hX hn he g1 r1 c2;obtain ⟨σ,hs',e1⟩:=hr.st.ev1 x;rw [hy0] at e1;have ht:=Ztf hq;rw [hag] at ht;subst ho;exact Zkh r4 hU hX hn hd k2 k3 hst k1 (Zka hs' e1 ht hw) h
    ·exact h.elim
   | box _ _=>exact h.elim
   | own _ _ _ _=>exact h.elim
   | mid _ _ _ _ _ _=>exact h.elim
  ·exact h.elim
theorem appE_ok {C:Cf} (hr:RelX N G w0 v0 U X f l a w γ v ℓ) (hU:∀ k,U k→X k) (hX:X n) (hn:¬ U n) {d:Option Nat} {t:TypeId} {x y:Operand} {o:Oper} {p q:V} {Post:Unit→Fr→Lo→Prop} (ho:o=⟨d,.call ⟨.builtin .append,#[x,y],#[t,t]⟩,ty,pos,aft,g⟩) (hd:∀ k,o.dst=some k→k<N) (hp:RV v γ l p (a.eval x)) (hq:RV v γ l q (a.eval y)) (hk:p.ok U) (hkq:q.ok U)
  (h:Zr n (appE C o n t p q) f l Post):ZCa C.P N G w0 v0 X o a w Post:=by
 unfold appE at h;split at h
 ·exact h.elim
 ·rename_i ei hei;obtain ⟨hE,hby⟩:=ZUn hei;split at h
  ·rename_i u;obtain ⟨en,he,h⟩:=h;obtain ⟨k0,st0,L⟩:=en
   cases L with
   | own ty0 s xs0 fz0 =>
    obtain ⟨ys,l1,γ1,v1,ℓ1,hB,r1,le1,q1⟩:=Zjd hn hX FU h hr hkq;obtain ⟨en,he1,hC⟩:=hB;have hp1:=ZDb le1 hk hp;obtain ⟨yy,hy0,_,hy⟩:=Zha hp1 (fun _ e=>by cases e) rfl rfl;have hy0:a.eval x=yy:=(List.cons.inj hy0).1;have hy:=hy en he1;obtain ⟨kk,st,L⟩:=en;obtain ⟨hm,hkk⟩:=Zy he1;have hkk:kk=u:=hkk;subst hkk
    cases L with
    | own ty1 s' xs fz =>
     cases fz with
     | true=>exact hC.elim
     | false =>
      simp only at hC;split at hC
      ·rename_i ys' hys ht hs;obtain ⟨c3,c4⟩:=Z6 hys
       cases c3;cases c4
       have ht:=Nat.eq_of_beq_eq_true ht;have hs:=Nat.eq_of_beq_eq_true hs;obtain ⟨_,hroom,hC⟩:=hC;obtain ⟨ob,cap,g1,rfl⟩:=hy;obtain ⟨es,E',h1,_,h2,h3,r2⟩:=r1.del he1;obtain ⟨ob',cap',cs,f1,f2,rfl⟩:=h1;have f1:γ1 kk = .own ob' cap':=f1;rw [g1] at f1;cases f1;have hst:=r1.st.perm h3;obtain ⟨σ,hσ,e1,e2⟩:=hst.ev2 x y;obtain ⟨hq1,hq2⟩:=Zqm h;obtain ⟨csq,hcq,hqe⟩:=Zpb hq hq2;have hcq':(Zw s.rep).rel v1 csq ys:=q1 _ hcq;obtain ⟨qa,m,c,rfl⟩:=ZQf hcq';rw [ZYg hq1] at hqe;have hml:m=ys.length:=by obtain ⟨_,_,e,_⟩:=hcq';cases e;rfl
       have hE':Elem C.P t ty1 s.rep.n ei.by_ ei.z:=by rw [ZR,← hs,← ht];exact hE
       have hσ':St N w0 v0 σ (.own ob ty1 s.rep.n xs.length cap cs :: E'.flatten) v1 a w:=by rw [ZR];exact hσ
       obtain ⟨b',cap',cs2,w',hrun,hst',hrel⟩:=ZXf (ty:=ty) (A:=s.rep) hE' hσ' (i:=0) rfl hcq' (n':=(xs++(show List s.den from ys)).length) (by rw [List.length_append,hml]) (Zoe hroom) hby;rw [hy0] at e1;rw [hqe] at e2;have hst':=hst'.bare;rw [ZR] at hst';subst ho;exact Zkh r2 hU hX hn hd h2 rfl hst' (ZBc f2 hrel) (Z3d hσ e1 e2 hrun) hC
      ·exact hC.elim
    | box _ _=>exact hC.elim
    | mid _ _ _ _ _ _=>exact hC.elim
    | mat _ _ _ _ _=>exact hC.elim
   | box _ _=>exact h.elim
   | mid _ _ _ _ _ _=>exact h.elim
   | mat _ _ _ _ _=>exact ZXp hr hU hX hn hE hby ho hd (fun e=>by cases e) (fun u' e=>by cases e;exact hp) hq h
  · -- a row
   rename_i u i hv cv s r;obtain ⟨ys,l1,γ1,v1,ℓ1,hB,r1,le1,q1⟩:=Zjd hn hX FU h hr hkq;obtain ⟨⟨kk,st,L⟩,he1,hC⟩:=hB;have hkk:kk=u:=(Zy he1).2;subst hkk;have hp1:=ZDb le1 hk hp;obtain ⟨yy,hy0,_,hy⟩:=Zha hp1 (fun _ e=>by cases e) rfl rfl;have hy0:a.eval x=yy:=(List.cons.inj hy0).1;have hy:=hy _ he1
   cases L with
   | mat ty1 ty2 s' m hv' =>
    simp only at hC;split at hC
    ·rename_i z b1 b2 hz b3 b4;have b1:=Nat.eq_of_beq_eq_true b1;have b2:=Nat.eq_of_beq_eq_true b2;have b3:=Nat.eq_of_beq_eq_true b3;have b4:=Nat.eq_of_beq_eq_true b4;subst b1 b2;obtain ⟨c3,c4⟩:=Z6 hz
     cases c3;cases c4
     obtain ⟨_,hroom,hC⟩:=hC;obtain ⟨ob,cap,rows,obi,capi,g1,g2,rfl,_,g6⟩:=hy rfl;obtain ⟨m',c1,c2⟩:=g6 rfl;obtain ⟨c5,c6⟩:=Z6 c1
     cases c5;cases c6
     obtain ⟨cs,ℓ2,E2,k1,r2,k2,k3,hst⟩:=r1.take hX hn he1 g1 g2 c2;obtain ⟨σ,hσ,e1,e2⟩:=hst.ev2 x y;obtain ⟨hq1,hq2⟩:=Zqm h;obtain ⟨csq,hcq,hqe⟩:=Zpb hq hq2;have hcq':(Zw s.rep).rel v1 csq ys:=q1 _ hcq;obtain ⟨qa,mm,c,rfl⟩:=ZQf hcq';rw [ZYg hq1] at hqe;have hml:mm=ys.length:=by obtain ⟨_,_,e,_⟩:=hcq';cases e;rfl
     have hE':Elem C.P t ty2 s.rep.n ei.by_ ei.z:=by rw [ZR,← b4,← b3];exact hE
     have hσ':St N w0 v0 σ (.own obi ty2 s.rep.n r.length capi cs :: ℓ2) v1 a w:=by rw [ZR];exact hσ
     obtain ⟨b',cap',cs2,w',hrun,hst',hrel⟩:=ZXf (ty:=ty) (A:=s.rep) hE' hσ' (i:=0) rfl hcq' (n':=(r++(show List s.den from ys)).length) (by rw [List.length_append,hml]) (Zoe hroom) hby;rw [hy0] at e1;rw [hqe] at e2;have hst':=hst'.bare;rw [ZR] at hst';subst ho;exact Zkh r2 hU hX hn hd k2 k3 hst' (ZBc k1 hrel) (Z3d hσ e1 e2 hrun) hC
    ·exact hC.elim
   | box _ _=>exact hC.elim
   | own _ _ _ _=>exact hC.elim
   | mid _ _ _ _ _ _=>exact hC.elim
  ·split at h
   ·refine ZXp hr hU hX hn hE hby ho hd (fun _=>?_) (fun u' e=>by cases e) hq h;obtain ⟨cs,h1,h2⟩:=hp;have h1:cs=[.slice none 0 0]:=h1;subst h1;exact h2
   split at h
   ·rename_i s hs;split at h
    ·rename_i hsz;have hsz:=Nat.eq_of_beq_eq_true hsz;obtain ⟨ys,l1,γ1,v1,ℓ1,hB,r1,le1,q1⟩:=Zjd hn hX FU h hr hkq;obtain ⟨_,hroom,hC⟩:=hB;obtain ⟨E',h2,h3⟩:=r1.lr;have hx0:a.eval x = .slice none 0 0:=by
      obtain ⟨cs,h1,h2⟩:=hp;have h1:cs=[.slice none 0 0]:=h1;subst h1;exact h2
     have hst:=(r1.st.perm h3).nilLoc ei.e s.rep.n;obtain ⟨σ,hσ,e1,e2⟩:=hst.ev2 x y;obtain ⟨hq1,hq2⟩:=Zqm h;obtain ⟨csq,hcq,hqe⟩:=Zpb hq hq2;have hcq':(Zw s.rep).rel v1 csq ys:=q1 _ hcq;obtain ⟨qa,m,c,rfl⟩:=ZQf hcq';rw [ZYg hq1] at hqe;have hml:m=ys.length:=by obtain ⟨_,_,e,_⟩:=hcq';cases e;rfl
     have hE':Elem C.P t ei.e s.rep.n ei.by_ ei.z:=by rw [ZR,← hsz];exact hE
     obtain ⟨b',cap',cs2,w',hrun,hst',hrel⟩:=ZXf (ty:=ty) (A:=s.rep) hE' hσ (i:=0) rfl hcq' (n':=(([]:List s.den)++(show List s.den from ys)).length) (by rw [List.length_append,hml];rfl) (Zoe hroom) hby;rw [hx0] at e1;rw [hqe] at e2;have hst':=hst'.bare;rw [ZR] at hst';subst ho;exact Zkh r1 hU hX hn hd h2 rfl hst' (ZBc ZVd hrel) (Z3d hσ e1 e2 hrun) hC
    ·exact h.elim
   ·exact h.elim
  ·exact h.elim
end
end Go.Eng
namespace Go.Eng
open Go.RowKit
variable {P:Program} {K:Nat} {w0:Base} {v0:Zb} {σ:List (Nat×Value)} {ℓ:List Loc} {v:Zb} {a:Act} {w:World}
variable {d:Option Nat} {ty:TypeId} {pos:String} {aft:Array Edge} {g:Option (Nat×Bool)}
theorem ZHn (k:IntKind) (p q:Int):(Builtin.max2 (.int k p) (.int k q)).run P w = .ok (.int k (max p q)) w:=by
 simp only [Builtin.max2,Sem.run_pure];congr 2;by_cases h:q>p
 ·rw [if_pos h];omega
 ·rw [if_neg h];omega
theorem min2_eq (k:IntKind) (p q:Int):(Builtin.min2 (.int k p) (.int k q)).run P w = .ok (.int k (min p q)) w:=by
 simp only [Builtin.min2,Sem.run_pure];congr 2;by_cases h:q<p
 ·rw [if_pos h];omega
 ·rw [if_neg h];omega
theorem run_max (hS:St K w0 v0 σ ℓ v a w) {x y:Operand} {k:IntKind} {p q:Int} {ats:Array TypeId} (e:ev σ x=some (.int k p)) (e':ev σ y=some (.int k q)) :
  (execOp a.eval ⟨d,.call ⟨.builtin .max,#[x,y],ats⟩,ty,pos,aft,g⟩).run P w = .ok (.value (.int k (max p q))) w:=by
 simp [execOp,resolve,invoke,builtin,Builtin.max_,hS.eval e,hS.eval e',ZHn]
theorem run_min (hS:St K w0 v0 σ ℓ v a w) {x y:Operand} {k:IntKind} {p q:Int} {ats:Array TypeId} (e:ev σ x=some (.int k p)) (e':ev σ y=some (.int k q)) :
  (execOp a.eval ⟨d,.call ⟨.builtin .min,#[x,y],ats⟩,ty,pos,aft,g⟩).run P w = .ok (.value (.int k (min p q))) w:=by
 simp [execOp,resolve,invoke,builtin,Builtin.min_,hS.eval e,hS.eval e',min2_eq]
theorem ZRv (hS:St K w0 v0 σ ℓ v a w) {x y z:Operand} {k:IntKind} {p q r:Int} {ats:Array TypeId} (e:ev σ x=some (.int k p)) (e':ev σ y=some (.int k q)) (e2:ev σ z=some (.int k r)) :
  (execOp a.eval ⟨d,.call ⟨.builtin .max,#[x,y,z],ats⟩,ty,pos,aft,g⟩).run P w = .ok (.value (.int k (max (max p q) r))) w:=by
 simp [execOp,resolve,invoke,builtin,Builtin.max_,hS.eval e,hS.eval e',hS.eval e2,ZHn]
end Go.Eng
namespace Go.Eng
open Go.RowKit
section
variable {Q:Exit→Act→World→Prop} {a:Act} {w:World}
end
end Go.Eng
namespace Go.Eng
open Go.RowKit
end Go.Eng
namespace Go.Eng
open Go.RowKit
theorem Z3s (off:Nat):∀ (l:List Value) (k:Nat) (acc:Array Value),off+k+l.length≤acc.size→(l.zipIdx k).foldl (fun cs (c,j)=>cs.setIfInBounds (off+j) c) acc=(acc.toList.take (off+k)++l++acc.toList.drop (off+k+l.length)).toArray:=by
 intro l
 induction l with
 | nil=>intro k acc h;simp
 | cons y l ih =>
  intro k acc h;simp only [List.zipIdx_cons,List.foldl_cons];rw [ih (k+1) _ (by simp at h ⊢;omega)];congr 1;simp only [Array.toList_setIfInBounds];simp only [List.length_cons] at h;have hlt:off+k<acc.toList.length:=by simp;omega
  rw [List.take_set,List.drop_set_of_lt (by omega)];rw [List.set_eq_take_append_cons_drop,if_pos (by simp;simp at hlt;omega)];rw [List.take_take,Nat.min_eq_left (by omega)];have e1:((acc.toList.take (off+(k+1))).drop (off+k+1))=[]:=List.drop_of_length_le (by simp;omega);rw [e1];simp;congr 1;omega
theorem ZVn {place:Nat→Option (Nat×Nat)} {cells:Array Value} {i:Nat} {x:Value} {cs:List Value} {rest:List (Nat×Value)} {off:Nat} (hp:place i=some (off,cs.length)) (hx:x.cells=cs.toArray) (hc:off+cs.length≤cells.size) :
  Instr.fill place cells ((i,x) :: rest)=Instr.fill place (cells.toList.take off++cs++cells.toList.drop (off+cs.length)).toArray rest:=by
 have h1:¬ (x.cells.size≠cs.length || decide (off+x.cells.size>cells.size)):=by simp [hx,hc]
 conv=>lhs;unfold Instr.fill
 simp only [hp];rw [if_neg h1,hx];have:=Z3s off cs 0 cells (by omega);rw [← Array.foldl_toList];congr 1
 simpa using this
section
variable {P:Program} {N:Nat} {G:V→Value→Prop} {w0:Base} {v0:Zb} {U X:Nat→Prop} {f:Fr} {l:Lo} {a:Act} {w:World} {γ:Nat→Gh} {v:Zb} {ℓ:List Loc} {n:Nat}
variable {ty:TypeId} {pos:String} {aft:Array Edge} {g:Option (Nat×Bool)}
theorem Zyf {ρ:Type} (hr:RelX N G w0 v0 U X f l a w γ v ℓ):∀ {xs:List Operand} {k:V→Ev ρ} {Post:ρ→Fr→Lo→Prop},Zr n (Zje xs k) f l Post→∃ c,RR v γ l true c (xs.map a.eval)∧c.ok U∧Zr n (k c) f l Post
 | [],k,Post,h=>⟨.nl,rfl,trivial,h⟩
 | x :: xs,k,Post,h=>by
  obtain ⟨V',h1,h2,h3⟩:=ZF hr h
  have hnt:∀ c,V' ≠ .tup c:=fun c e=>by subst e;exact h3.elim
  have h3':Zr n (Zje xs fun c=>k (.cons V' c)) f l Post:=by
   cases V' <;> first | exact h3 | exact h3.elim
  obtain ⟨c,k1,k2,k3⟩:=Zyf hr h3';obtain ⟨cs,q1,q2⟩:=Zpb h1 hnt;exact ⟨.cons V' c,⟨cs,_,by rw [List.map_cons,q2],q1,k1⟩,⟨h2,k2⟩,k3⟩
theorem Zdw {ρ:Type} {g:Nat} {t:T} {x:V} {k:t.den→Ev ρ} {Post:ρ→Fr→Lo→Prop} (h:Zr n (conv g t x k) f l Post):x.isAgg=true∨x.isAgg=false∧x.size=1:=by
 cases x with
 | data s x =>
  cases ha:s.agg with
  | true=>exact .inl ha
  | false=>exact .inr ⟨ha,T_one ha⟩
 | nilS=>exact .inr ⟨rfl,rfl⟩
 | own u=>exact .inr ⟨rfl,rfl⟩
 | ptr u o=>exact .inr ⟨rfl,rfl⟩
 | agg c=>exact .inl rfl
 | _ =>
  cases g with
  | zero=>exact h.elim
  | succ g=>simp only [conv] at h;exact h.elim
theorem Ziw {x:V} {cs:List Value} (hf:x.isAgg=true∨x.isAgg=false∧x.size=1) (h:RR v γ l false x cs) (hp:cs.all plain=true):(x.val cs).cells=cs.toArray:=by
 rcases hf with ha | ⟨ha,hs⟩
 ·unfold V.val;rw [ha];rfl
 ·have e:=Zbg h hs ha;have hv:x.val cs=cs.headD undef:=by unfold V.val;rw [ha]
  rw [hv] at e ⊢;rw [e] at hp;have hp':plain (cs.headD undef)=true:=by simpa using hp
  have:=Zzb hp'
  conv=>rhs;rw [e]
  exact this
theorem Z5v {ρ:Type} {t:T} (hn:¬ U n) (hX:X n):∀ {c:V} {k:List t.den→Ev ρ} {l:Lo} {γ:Nat→Gh} {v:Zb} {ℓ:List Loc} {Post:ρ→Fr→Lo→Prop},Zr n (convS t c k) f l Post→RelX N G w0 v0 U X f l a w γ v ℓ→c.ok U →
  ∃ xs l' γ' v' ℓ',Zr n (k xs) f l' Post∧RelX N G w0 v0 U X f l' a w γ' v' ℓ'∧Le U v γ l v' γ' l'∧∀ vals,RR v γ l true c vals→∃ css:List (List Value),t.rep.rels v' css.flatten xs∧css.length=xs.length∧vals.map Value.cells=css.map List.toArray∧∀ cs ∈ css,cs.length=t.n:=by
 intro c
 induction c with
 | nl =>
  intro k l γ v ℓ Post h hr hk;obtain ⟨E,hE,_⟩:=hr.lr;exact ⟨[],l,γ,v,ℓ,h,hr,Le.refl hE (Zb.le_refl _),fun vals hv=>⟨[],rfl,rfl,by rw [show vals=[] from hv];rfl,fun _ h=>by cases h⟩⟩
 | cons x c _ ih =>
  intro k l γ v ℓ Post h hr hk;have hfit:=Zdw (n:=n) (f:=f) (l:=l) (g:=FU) (t:=t) (x:=x) h;obtain ⟨y,l1,γ1,v1,ℓ1,h,r1,le1,q1⟩:=Zjd hn hX FU h hr hk.1;obtain ⟨ys,l2,γ2,v2,ℓ2,h,r2,le2,q2⟩:=ih h r1 hk.2;refine ⟨y :: ys,l2,γ2,v2,ℓ2,h,r2,le1.trans le2,fun vals hv=>?_⟩;obtain ⟨cs,vs,rfl,h1,h2⟩:=hv;have hrel:=q1 cs h1;obtain ⟨css,k1,k2,k3,k4⟩:=q2 vs (Znb le1 hk.2 h2);refine ⟨cs :: css,⟨cs,css.flatten,rfl,Rep.mono _ le2.v hrel,k1⟩,by simp [k2],?_,fun c hc=>?_⟩
  ·rw [List.map_cons,List.map_cons,k3,Ziw hfit h1 (Rep.flat _ hrel)]
  ·rcases List.mem_cons.1 hc with rfl | hc
   ·rw [Rep.len _ hrel,ZR]
   ·exact k4 c hc
 | _=>intro k l γ v ℓ Post h;exact h.elim
theorem Zzn {sz:Nat}:∀ (css:List (List Value)) (vals:List Value) (k:Nat) (cells:Array Value),vals.map Value.cells=css.map List.toArray→(∀ cs ∈ css,cs.length=sz)→cells.size=(k+css.length)*sz →
  Instr.fill (fun i=>some (i*sz,sz)) cells (vals.zipIdx k |>.map fun p=>(p.2,p.1))=some (cells.toList.take (k*sz)++css.flatten).toArray
 | [],[],k,cells,_,_,hc=>by
  simp only [List.length_nil,Nat.add_zero] at hc
  simp only [List.zipIdx_nil,List.map_nil,Instr.fill,List.flatten_nil,List.append_nil]
  rw [List.take_of_length_le (by simp [hc])]
 | cs :: css,x :: vals,k,cells,h,hs,hc=>by
  simp only [List.map_cons,List.cons.injEq] at h
  have hl:=hs cs (by simp)
  simp only [List.length_cons] at hc
  have hb:k*sz+sz+css.length*sz=cells.size:=by rw [hc,Nat.add_mul,Nat.succ_mul];omega
  simp only [List.zipIdx_cons,List.map_cons]
  rw [ZVn (cs:=cs) (off:=k*sz) (by rw [hl]) h.1 (by omega)]
  rw [Zzn css vals (k+1) _ h.2 (fun c hc=>hs c (by simp [hc])) (by
   simp only [List.size_toArray,List.length_append,List.length_take,List.length_drop,Array.length_toList]
   rw [hl,Nat.min_eq_left (by omega),Nat.add_mul,Nat.succ_mul];omega)]
  congr 2
  have e1:(cells.toList.take (k*sz)).length=k*sz:=by simp;omega
  rw [List.flatten_cons,← List.append_assoc,Nat.succ_mul]
  congr 1
  rw [List.take_append,List.take_of_length_le (by simp [hl];omega)]
  rw [show k*sz+sz-(cells.toList.take (k*sz)++cs).length=0 by rw [List.length_append,e1,hl];omega]
  simp
 | [],_ :: _,_,_,h,_,_=>by simp at h
 | _ :: _,[],_,_,h,_,_=>by simp at h
theorem Zsp:∀ {ps:List (Nat×Operand)} {k:Nat},Zvj k ps=true→ps.map (fun p=>(p.1,a.eval p.2))=((ps.map fun p=>a.eval p.2).zipIdx k).map fun p=>(p.2,p.1)
 | [],_,_=>rfl
 | p :: ps,k,h=>by
  simp only [Zvj] at h
  split at h
  ·rename_i hb
   have hb:=Nat.eq_of_beq_eq_true hb
   simp only [List.map_cons,List.zipIdx_cons]
   rw [Zsp h,hb]
  ·cases h
theorem ZZn {t e:TypeId} {m sz:Nat} {inf:TypeInfo} {z:Value} {L:List (Nat×Value)} {cs:List Value} (ht:P.underlying t=some (.slice e)) (hi:P.info? e=some inf) (hz:inf.zero=some z) (hs:inf.size=sz) (hb:m*sz≤16777216)
  (hf:∀ zc:Array Value,Instr.fill (fun i=>some (i*sz,sz)) ((Array.range (m*sz)).map (fun i=>zc[i%zc.size]!)) L=some cs.toArray) (w:World):(Instr.buildSlice t m L.toArray).run P w = .ok (.slice (some ⟨w.heap.size,0,none⟩) m m) (w.alloc (.cells cs.toArray e)):=by
 subst hs;have hb:¬ (m*inf.size>2^24):=by omega
 unfold Instr.buildSlice;by_cases h0:m*inf.size=0
 ·have:=hf #[];simp only [h0] at this;simp [run_underlying ht,sizeOf,typeInfo,hi,h0] ; simp at this;simp [this,newRow]
 ·have:=hf z.cells;obtain ⟨A,hA⟩:∃ A,A=(Array.range (m*inf.size)).map (fun i=>z.cells[i%z.cells.size]!):=⟨_,rfl⟩;rw [← hA] at this;simp only [run_underlying ht,sizeOf,typeInfo,zeroValue];simp [run_underlying ht,typeInfo,hi,hz,h0,show ¬ (16777216<m*inf.size) by omega];rw [← hA,this];simp [newRow]
theorem Z2v {C:Cf} (hr:RelX N G w0 v0 U X f l a w γ v ℓ) (hU:∀ k,U k→X k) (hX:X n) (hn:¬ U n) {d:Option Nat} {t:TypeId} {m:Nat} {ps:Array (Nat×Operand)} {o:Oper} {Post:Unit→Fr→Lo→Prop} (ho:o=⟨d,.buildSlice t m ps,ty,pos,aft,g⟩) (hd:∀ k,o.dst=some k→k<N)
  (h:Zr n (ZX C n o) f l Post):ZCa C.P N G w0 v0 X o a w Post:=by
 subst ho;simp only [ZX] at h;split at h
 ·rename_i q hq;obtain ⟨hE,hby⟩:=ZUn hq;split at h
  ·split at h
   ·rename_i x hps hps2;have hps:=hps;obtain ⟨V1,h1,hk1,h⟩:=ZF hr h;split at h
    ·rename_i u2 q2 _ hq2 _;obtain ⟨⟨k2,st2,L2⟩,he2,h⟩:=h;have hkk2:k2=u2:=(Zy he2).2;subst hkk2
     cases L2 with
     | own ty2 s xs fz =>
      cases fz with
      | true=>exact h.elim
      | false =>
       simp only at h;split at h
       ·rename_i b1 b2 b3;have b3:=Nat.eq_of_beq_eq_true b3;obtain ⟨es,E',g1,g2,g2',g3,r2⟩:=hr.del he2;obtain ⟨ob2,cap2,cs2,f1,f2,rfl⟩:=g1;have f1:γ k2 = .own ob2 cap2:=f1;have hy0:a.eval x = .slice (mkA ob2) xs.length cap2:=by
         obtain ⟨yq,hyq0,_,hyq⟩:=Zha h1 (fun _ e=>by cases e) rfl rfl;obtain ⟨oq,cq,gq1,gq2⟩:=hyq _ he2;rw [f1] at gq1;cases gq1;exact ((List.cons.inj hyq0).1).trans gq2
        have hcells:(Value.slice (mkA ob2) xs.length cap2).cells=[Value.slice (mkA ob2) xs.length cap2].toArray:=by cases ob2 <;> rfl
        have hz:∀ w,(Instr.buildSlice t 1 (ps.toList.map fun p=>(p.1,a.eval p.2)).toArray).run C.P w = .ok (.slice (some ⟨w.heap.size,0,none⟩) 1 1) (w.alloc (.cells [Value.slice (mkA ob2) xs.length cap2].toArray q.e)):=by
         intro w;obtain ⟨inf,hinf,hzz,hsz',hby'⟩:=info_parts hE.info;rw [hps,List.map_singleton];simp only [hy0];refine ZZn (sz:=1) hE.ty hinf hzz (hsz'.trans b3) (by decide) (fun zc=>?_) w;have:=Zzn (sz:=1) [[Value.slice (mkA ob2) xs.length cap2]] [Value.slice (mkA ob2) xs.length cap2] 0 ((Array.range (1*1)).map (fun i=>zc[i%zc.size]!)) (by simp [hcells]) (fun cs hc=>by rw [List.mem_singleton.1 hc];rfl) (by simp)
         simpa using this
        have hst:=hr.st.perm g3;obtain ⟨σ,hσ,hev⟩:=hst.evs (ps.toList.map (·.2));obtain ⟨b,w',hrun,hst'⟩:=ZFf (P:=C.P) (t:=t) (e:=q.e) (sz:=1) hσ (by simp) (by decide) hz;have hev':ps.toList.map (fun p=>(ev σ p.2).map fun y=>(p.1,y))=(ps.toList.map fun p=>(p.1,a.eval p.2)).map some:=by
         rw [List.map_map];refine List.map_congr_left fun p hp=>?_;rw [hev p.2 (List.mem_map.2 ⟨p,hp,rfl⟩)];rfl
        exact Z6i (rows:=[(ob2,cap2)]) (m:=[xs]) r2 hU hX hn hd g2' rfl ⟨cs2,[],f2,rfl,rfl⟩ hst'.bare (hrun (d:=d) (ty:=ty) (pos:=pos) (aft:=aft) (g:=g) hev') h
       ·exact h.elim
     | box _ _=>exact h.elim
     | mat _ _ _ _ _=>exact h.elim
     | mid _ _ _ _ _ _=>exact h.elim
    ·exact h.elim
   ·exact h.elim
  split at h
  ·rename_i s hs ho hlen hbig;have hlen:=Nat.eq_of_beq_eq_true hlen;have hbig:=Nat.le_of_ble_eq_true hbig;split at h
   ·rename_i hsz;have hsz:=Nat.eq_of_beq_eq_true hsz;obtain ⟨c,h1,h2,h⟩:=Zyf hr h;obtain ⟨xs,l1,γ1,v1,ℓ1,h,r1,le1,q1⟩:=Z5v hn hX h hr h2;obtain ⟨css,k1,k2,k3,k4⟩:=q1 _ h1;obtain ⟨E,hEE,hp⟩:=r1.lr;have hvl:css.length=m:=by
     have:=congrArg List.length k3;simp only [List.length_map] at this;omega
    have hflat:css.flatten.length=m*q.sz:=by
     have:=Zle k1;rw [ZR,← k2,hvl,← hsz] at this;exact this
    have hz:∀ w,(Instr.buildSlice t m (ps.toList.map fun p=>(p.1,a.eval p.2)).toArray).run C.P w = .ok (.slice (some ⟨w.heap.size,0,none⟩) m m) (w.alloc (.cells css.flatten.toArray q.e)):=by
     intro w;obtain ⟨inf,hinf,hzz,hsz',hby'⟩:=info_parts hE.info;rw [Zsp ho];have hm:(ps.toList.map fun p=>a.eval p.2)=(ps.toList.map (·.2)).map a.eval:=by rw [List.map_map];rfl
     rw [hm];have hf:∀ zc:Array Value,Instr.fill (fun i=>some (i*q.sz,q.sz)) ((Array.range (m*q.sz)).map (fun i=>zc[i%zc.size]!)) ((((ps.toList.map (·.2)).map a.eval).zipIdx).map fun p=>(p.2,p.1))=some css.flatten.toArray:=fun zc=>by
      have:=Zzn (sz:=q.sz) css ((ps.toList.map (·.2)).map a.eval) 0 ((Array.range (m*q.sz)).map (fun i=>zc[i%zc.size]!)) k3 (fun cs hc=>by rw [k4 cs hc,hsz]) (by simp [hvl]);rw [Nat.zero_mul,List.take_zero,List.nil_append] at this;exact this
     obtain ⟨L,hL⟩:∃ L,L=((((ps.toList.map (·.2)).map a.eval).zipIdx).map fun p=>(p.2,p.1)):=⟨_,rfl⟩;rw [← hL] at hf ⊢;clear hL;exact ZZn hE.ty hinf hzz hsz' hbig hf w
    have hst:=r1.st.perm hp;obtain ⟨σ,hσ,hev⟩:=hst.evs (ps.toList.map (·.2));have hmax:m≤maxLen:=by
     have h1:m≤m*q.sz:=Nat.le_mul_of_pos_right _ hE.pos;unfold maxLen;omega
    obtain ⟨b,w',hrun,hst'⟩:=ZFf (P:=C.P) (t:=t) (e:=q.e) hσ hflat hmax hz;have hev':ps.toList.map (fun p=>(ev σ p.2).map fun y=>(p.1,y))=(ps.toList.map fun p=>(p.1,a.eval p.2)).map some:=by
     rw [List.map_map];refine List.map_congr_left fun p hp=>?_;rw [hev p.2 (List.mem_map.2 ⟨p,hp,rfl⟩)];rfl
    have hxl:m=xs.length:=by omega
    have hst':=hst'.bare;rw [hsz,hxl] at hst';have hrun':=hrun (d:=d) (ty:=ty) (pos:=pos) (aft:=aft) (g:=g) hev'
    conv at hrun'=>rhs;rw [hxl]
    exact Zkh r1 hU hX hn hd hEE rfl hst' k1 hrun' h
   ·exact h.elim
  ·exact h.elim
 ·exact h.elim
end
end Go.Eng
namespace Go.Eng
open Go.RowKit
section
variable {P:Program} {K:Nat} {w0:Base} {v0:Zb} {σ:List (Nat×Value)} {ℓ:List Loc} {v:Zb} {a:Act} {w:World}
variable {d:Option Nat} {ty:TypeId} {pos:String} {aft:Array Edge} {g:Option (Nat×Bool)}
theorem Zqx (w:World) (dT sT ty elem:TypeId) (i:TypeInfo) (g o dLen dCap:Nat) (a:Addr) (sLen sCap:Nat) (cur:Array Value) (t:TypeId) (cs:List Value)
  (hu:P.underlying dT=some (.slice elem)) (hi:P.info? elem=some i) (hg:w.heap[g]? = some (.cells cur t (0,0))) (hn:cs.length=Nat.min sLen dLen*i.size)
  (hsrc:∀ j v,cs[j]? = some v→w.cell? (a.add j)=some v) (hfit:o+cs.length≤cur.size) (h1:∀ v ∈ cs,v.oneCell'=true) :
  (Builtin.copy_ #[dT,sT] ty #[.slice (some ⟨g,o,none⟩) dLen dCap,.slice (some a) sLen sCap]).run P w =
   .ok (goInt (Nat.min sLen dLen)) (w.setRow g (cur.toList.take o++cs++cur.toList.drop (o+cs.length)).toArray):=by
 have hl:=run_loadCells_list (P:=P) w a cs hsrc;have hst:=run_storeCells_at P g o t cs 0 cur w hg (by simpa using hfit) h1;simp [Builtin.copy_,run_underlying hu,Builtin.lenOf,Builtin.firstCells,sizeOf,typeInfo,hi,← hn,hl,hst]
theorem Z3o {t e sT:TypeId} {sz bytes:Nat} {z:Value} (E:Elem P t e sz bytes z) (hS:St K w0 v0 σ ℓ v a w) {i n cap b:Nat} {cs:List Value} (hi:ℓ[i]? = some (.own (some b) e sz n cap cs)) {p k:Nat} {c:List Value}
  (hc:c.length=k*sz) (hp:p+k≤n) (hpl:c.all plain=true) {ad:Addr} {sLen sCap dLen dCap:Nat} (hsrc:∀ j u,c[j]? = some u→w.cell? (ad.add j)=some u) (hk:Nat.min sLen dLen=k) :
  ∃ w',(∀ ty,(Builtin.copy_ #[t,sT] ty #[.slice (some ⟨b,p*sz,none⟩) dLen dCap,.slice (some ad) sLen sCap]).run P w = .ok (.int .i64 k) w') ∧
   St K w0 v0 σ (ℓ.set i (.own (some b) e sz n cap (cs.take (p*sz)++c++cs.drop (p*sz+c.length)))) v a w':=by
 obtain ⟨inf,hinf,hz,hs,hby⟩:=info_parts E.info;obtain ⟨hcl,cur,hg,hnc,hcx,hcs,htake⟩:=(hS.loc _ (List.mem_of_getElem? hi)).1;have h1:p*sz+c.length≤n*sz:=by rw [hc,← Nat.add_mul];exact Nat.mul_le_mul_right _ hp
 have h2:n*sz≤cap*sz:=Nat.mul_le_mul_right _ hnc;have hcl2:cur.toList.length=cap*sz:=by simpa using hcs
 refine ⟨_,fun ty=>?_,hS.setRow hi rfl rfl (c:=(cur.toList.take (p*sz)++c++cur.toList.drop (p*sz+c.length)).toArray) ⟨?_,_,setRow_heap w b cur _ e _ hg,hnc,hcx,?_,?_⟩⟩
 ·have:=Zqx (P:=P) w t sT ty e inf b (p*sz) dLen dCap ad sLen sCap cur e c E.ty hinf hg (by rw [hk,hs];exact hc) hsrc (by omega) (Z0m hpl);rw [this,hk];rfl
 ·simp;omega
 ·simp;omega
 ·show List.take (n*sz) (_++_++_)=_;rw [ZQo _ _ _ _ h1 (by omega),htake]
end
end Go.Eng
namespace Go.Eng
open Go.RowKit
def OwnI {α:Type} (A:Rep α) (T:TypeId) (sz:Nat) (l:List α) (ob0:Option Nat) (w:World) (r:Value) (v':Zb) (w':World):Prop :=
 ∃ ob n cap cs,r = .slice (mkA ob) n cap∧(Loc.own ob T sz n cap cs).holds w'∧(∀ b,ob=some b→(w.heap.size≤b∨ob0=some b)∧v' b=none)∧A.rels v' cs l∧n=l.length
section
variable {P:Program} {K:Nat} {w0:Base} {v0:Zb} {σ:List (Nat×Value)} {ℓ:List Loc} {v:Zb} {a:Act} {w:World}
theorem St.afterI {v':Zb} {w':World} (h:St K w0 v0 σ ℓ v a w) {i:Nat} {e e':Loc} (hi:ℓ[i]? = some e) (x:ExtB ⟨w,e.blk.toList⟩ w') (s:VStepB ⟨w,e.blk.toList⟩ v w' v') (hh:e'.holds w') (hb':∀ b,e'.blk=some b→(w.heap.size≤b∨e.blk=some b)∧v' b=none) :
  St K w0 v0 σ (e' :: ℓ.eraseIdx i) v' a w':=by
 obtain ⟨he,hv⟩:=h.loc e (List.mem_of_getElem? hi);have nl:∀ k,k<w0.wd.heap.size→k ∉ w0.lent→k ∉ e.blk.toList:=fun k hk hl hm=>by
  have hm:e.blk=some k:=by simpa using hm
  rcases (hv k hm).1 with h' | h'
  ·omega
  ·exact hl h'
 have oth:∀ j y,ℓ[j]? = some y→j≠i→∀ b',y.blk=some b'→b'<w.heap.size∧e.blk≠some b'∧b' ∉ e.blk.toList:=fun j y hj hji b' hb2=>by
  obtain ⟨c2,T2,hg2⟩:=Loc.blk_get (h.loc y (List.mem_of_getElem? hj)).1 hb2;have hne:e.blk≠some b':=fun hb=>ZGh h.nd hi hb j y hj hji b' hb2 rfl;exact ⟨Z4e hg2,hne,by simpa using hne⟩
 refine ⟨h.size,h.dfr,h.fr,⟨x.os.trans h.ext.os,x.tape.trans h.ext.tape,x.output.trans h.ext.output,Nat.le_trans h.ext.size x.size,fun k hk hl=>?_⟩,⟨Zb.le_trans h.vst.le s.le,s.vin,fun k hk hl=>?_⟩,fun y hy=>?_,?_⟩
 ·rw [x.block k (Nat.lt_of_lt_of_le hk h.ext.size) (nl k hk hl)];exact h.ext.block k hk hl
 ·rw [s.old k (Nat.lt_of_lt_of_le hk h.ext.size) (nl k hk hl)];exact h.vst.old k hk hl
 ·rcases List.mem_cons.1 hy with rfl | hy
  ·refine ⟨hh,fun b hb=>⟨?_,(hb' b hb).2⟩⟩;rcases (hb' b hb).1 with h1 | h1
   ·exact .inl (Nat.le_trans h.ext.size h1)
   ·exact (hv b h1).1
  ·obtain ⟨j,hji,hj⟩:=List.mem_eraseIdx_iff_getElem?.1 hy;obtain ⟨h1,h2⟩:=h.loc y (List.mem_of_getElem? hj);have same:∀ b',y.blk=some b'→w'.heap[b']? = w.heap[b']?:=fun b' hb2=>by
    obtain ⟨o1,o2,o3⟩:=oth j y hj hji b' hb2;exact x.block b' o1 o3
   refine ⟨?_,fun b' hb2=>⟨(h2 b' hb2).1,?_⟩⟩
   ·cases y with
    | box b' T' cs=>show _=_;rw [same b' rfl];exact h1
    | own b' T' sz n cap cs =>
     cases b' with
     | none=>exact h1
     | some b'=>obtain ⟨k1,c',k2,k3⟩:=h1;exact ⟨k1,c',by rw [same b' rfl];exact k2,k3⟩
   ·obtain ⟨o1,o2,o3⟩:=oth j y hj hji b' hb2;rw [s.old b' o1 o3];exact (h2 b' hb2).2
 ·have hsub:((ℓ.eraseIdx i).filterMap Loc.blk).Nodup:=h.nd.sublist ((List.eraseIdx_sublist ..).filterMap _)
  cases hb:e'.blk with
  | none=>rw [List.filterMap_cons_none hb];exact hsub
  | some b =>
   rw [List.filterMap_cons_some hb];refine List.nodup_cons.2 ⟨fun hm=>?_,hsub⟩;obtain ⟨y,hy,hyb⟩:=List.mem_filterMap.1 hm;obtain ⟨j,hji,hj⟩:=List.mem_eraseIdx_iff_getElem?.1 hy;obtain ⟨o1,o2,o3⟩:=oth j y hj hji b hyb;rcases (hb' b hb).1 with h1 | h1
   ·omega
   ·exact o2 h1
variable {d:Option Nat} {ty:TypeId} {pos:String} {aft:Array Edge} {g:Option (Nat×Bool)}
theorem Zou (hS:St K w0 v0 σ ℓ v a w) {t e:TypeId} {sz b o n cap p:Nat} {x lo:Operand} {k:IntKind} (ht:ZQc P t e sz) (e1:ev σ x=some (.slice (some ⟨b,o,none⟩) n cap)) (e2:ev σ lo=some (.int k (p:Int))) (hp:p≤n) (hc:p<cap) :
  (execOp a.eval ⟨d,.slice t x (some lo) none none,ty,pos,aft,g⟩).run P w = .ok (.value (.slice (some ⟨b,o+p*sz,none⟩) (n-p) (cap-p))) w:=by
 have h1:(0:Int)≤(p:Int)∧(p:Int)≤(n:Int):=by omega
 have h2:¬ cap=p:=by omega
 simp [execOp,Instr.sliceAt,Instr.slice,Instr.sliceBounds,Instr.sliceBound,asIntOf,hS.eval e1,hS.eval e2,ht.1,ht.2,hp,h2,ZXa]
theorem Zvw (hS:St K w0 v0 σ ℓ v a w) {t e:TypeId} {sz b n cap p:Nat} {x hi:Operand} {k:IntKind} (ht:ZQc P t e sz) (e1:ev σ x=some (.slice (some ⟨b,0,none⟩) n cap)) (e2:ev σ hi=some (.int k (p:Int))) (hp:p≤cap) (hc:0<cap) :
  (execOp a.eval ⟨d,.slice t x none (some hi) none,ty,pos,aft,g⟩).run P w = .ok (.value (.slice (some ⟨b,0,none⟩) p cap)) w:=by
 have h1:(0:Int)≤(p:Int)∧(p:Int)≤(cap:Int):=by omega
 have h2:¬ cap=0:=by omega
 simp [execOp,Instr.sliceAt,Instr.slice,Instr.sliceBounds,Instr.sliceBound,asIntOf,hS.eval e1,hS.eval e2,ht.1,ht.2,hp,h2,ZXa]
theorem Z3r (hS:St K w0 v0 σ ℓ v a w) {t t':TypeId} {x y:Operand} {p q r:Value} {w':World} (e:ev σ x=some p) (e':ev σ y=some q) (h:(Builtin.copy_ #[t,t'] ty #[p,q]).run P w = .ok r w') :
  (execOp a.eval ⟨d,.call ⟨.builtin .copy,#[x,y],#[t,t']⟩,ty,pos,aft,g⟩).run P w = .ok (.value r) w':=by
 simp [execOp,resolve,invoke,builtin,hS.eval e,hS.eval e',h]
end
end Go.Eng
namespace Go.Eng
open Go.RowKit
def Z5c {α:Type} (by_:Nat) (l:List α):Option (List α):=bnd (ZU by_ l) fun _=>some l
theorem ZUt {α:Type} {by_:Nat} {l z:List α} (h:Z5c by_ l=some z):l.length*by_≤140737488355328∧z=l:=by
 obtain ⟨_,h1,h2⟩:=ZE h;exact ⟨Zoe h1,(Option.some.inj h2).symm⟩
def Zqe {α:Type} (by_:Nat) (x:List α) (n:Int):Option (List α):=match x with
 | [z]=>bnd (mk by_ n n) fun _=>some (List.replicate n.toNat z)
 | _=>none
theorem Zms {α:Type} {by_:Nat} {x r:List α} {n:Int} (h:Zqe by_ x n=some r):∃ z,x=[z]∧r=List.replicate n.toNat z∧mk by_ n n=some ():=by
 unfold Zqe at h;split at h
 ·obtain ⟨_,h1,h2⟩:=ZE h;exact ⟨_,rfl,(Option.some.inj h2).symm,h1⟩
 ·cases h
theorem ZOj {c:List Value} {sz:Nat} (h:c.length=sz) (n:Nat):((List.replicate n c).flatten).length=n*sz:=by
 rw [List.length_flatten,List.map_replicate,h,List.sum_replicate_nat]
theorem ZYs {c:List Value} (h:c.all plain=true) (n:Nat):((List.replicate n c).flatten).all plain=true:=by
 rw [List.all_eq_true];intro x hx;obtain ⟨l,hl,hxl⟩:=List.mem_flatten.1 hx;rw [(List.mem_replicate.1 hl).2] at hxl;exact List.all_eq_true.1 h x hxl
theorem ZDp {c:List Value} {m n:Nat} (h:m≤n):(List.replicate n c).flatten=(List.replicate m c).flatten++(List.replicate (n-m) c).flatten:=by
 obtain ⟨k,rfl⟩:=Nat.exists_eq_add_of_le h;rw [Nat.add_sub_cancel_left,← List.flatten_append,List.replicate_append_replicate]
theorem rp_step {c z:List Value} {sz j m k:Nat} (hc:c.length=sz) (hz:z.length=sz) (h:j+m≤k):((List.replicate j c).flatten++(List.replicate (k-j) z).flatten).take (j*sz)++(List.replicate m c).flatten++((List.replicate j c).flatten++(List.replicate (k-j) z).flatten).drop (j*sz+((List.replicate m c).flatten).length)=(List.replicate (j+m) c).flatten++(List.replicate (k-(j+m)) z).flatten:=by
 have h1:=ZOj hc j;have h2:=ZOj hz m;rw [ZOj hc m,List.take_left' h1,← List.flatten_append,List.replicate_append_replicate,List.drop_append,h1,List.drop_of_length_le (by rw [h1];omega),List.nil_append,Nat.add_sub_cancel_left,ZDp (m:=m) (n:=k-j) (by omega),List.drop_left' h2,Nat.sub_sub]
section
variable {P:Program} {K:Nat} {w0:Base} {v0:Zb} {σ:List (Nat×Value)} {ℓ:List Loc} {v:Zb} {a:Act} {w:World}
variable {d:Option Nat} {ty:TypeId} {pos:String} {aft:Array Edge} {g:Option (Nat×Bool)}
theorem Zbu (hS:St K w0 v0 σ ℓ v a w) {t t2 e:TypeId} {x y:Operand} {q:Option Addr} {n c:Nat} (ht:P.underlying t=some (.slice e)) (e1:ev σ x=some (.slice q n c)) (e2:ev σ y=some (.slice none 0 0)) :
  (execOp a.eval ⟨d,.binOp .eql t x y t2,ty,pos,aft,g⟩).run P w = .ok (.value (.bool q.isNone)) w:=by
 have h:∀ w:World,(Op.equal t (.slice q n c) (.slice none 0 0)).run P w = .ok q.isNone w:=fun w=>by
  show (Op.equalIn (9999+1) t (.slice q n c) (.slice none 0 0)).run P w=_;unfold Op.equalIn
  cases q <;> simp [run_underlying ht]
 simp [execOp,hS.eval e1,hS.eval e2,eqGuard,binOp,h]
theorem Zcx {t e:TypeId} {sz by_:Nat} {z:Value} (E:Elem P t e sz by_ z) (hS:St K w0 v0 σ ℓ v a w) :
  ∃ b w',((execOp a.eval ⟨d,.buildSlice t 0 #[],ty,pos,aft,g⟩).run P w = .ok (.value (.slice (mkA (some b)) 0 0)) w')∧St K w0 v0 σ (.own (some b) e sz 0 0 [] :: ℓ) v a w':=by
 obtain ⟨i,h1,h2,h3,h4⟩:=info_parts E.info;obtain ⟨b,w',hrun,hst⟩:=ZFf (P:=P) (t:=t) (e:=e) (sz:=sz) (n:=0) (vals:=[]) (cs:=[]) hS (by simp) (by decide) (fun w=>ZZn E.ty h1 h2 h3 (by omega) (fun zc=>by simp [Instr.fill]) w);exact ⟨b,w',hrun (ps:=#[]) rfl,hst⟩
end
def vx {α:Type} (n:Nat) (f:Nat→α):List α:=(List.range n).map f
theorem ZEa {α:Type} (n:Nat) (f:Nat→α):(vx n f).length=n:=by simp [vx]
theorem Zyg {α:Type} {n i:Nat} (f:Nat→α) (h:i<n):(vx n f)[i]? = some (f i):=by simp [vx,h]
theorem Zua {α:Type} {n i:Nat} (f:Nat→α) (h:i<n):idx (vx n f) (i:Int)=some (f i):=ZWl (Zyg f h)
theorem Z3 {α:Type} {n:Nat} {f g:Nat→α} (h:∀ i,i<n→f i=g i):vx n f=vx n g:=List.map_congr_left fun i hi=>h i (List.mem_range.1 hi)
theorem ZUb {α:Type} (n:Nat) (f:Nat→α) (i:Nat) (a:α):(vx n f).set i a=vx n (fun k=>if k=i then a else f k):=by
 apply List.ext_getElem?;intro k;by_cases hk:k<n
 ·rw [Zyg _ hk,List.getElem?_set,Zyg _ hk];by_cases e:i=k
  ·subst e;simp [hk,ZEa]
  ·rw [if_neg e,if_neg (fun h=>e h.symm)]
 ·rw [List.getElem?_eq_none (by simp [ZEa];omega),List.getElem?_eq_none (by simp [ZEa];omega)]
theorem ZMm {α:Type} (n:Nat) (f:Nat→α):vx n f++[f n]=vx (n+1) f:=by simp [vx,List.range_succ]
theorem vx_nil {α:Type} (f:Nat→α):vx 0 f=[]:=rfl
theorem ZLf {α:Type} (n:Nat) (a:α):List.replicate n a=vx n (fun _=>a):=by
 apply List.ext_getElem?;intro k;by_cases hk:k<n
 ·rw [Zyg _ hk];simp [hk]
 ·rw [List.getElem?_eq_none (by simp;omega),List.getElem?_eq_none (by simp [ZEa];omega)]
theorem ZLo {α:Type} (d:α) {n i:Nat} (f:Nat→α) (h:i<n):(vx n f).getD i d=f i:=by
 rw [List.getD_eq_getElem?_getD,Zyg _ h];rfl
def mx (R n:Nat) (M:Mx):List (List Rat):=vx R fun i=>vx n (M i)
theorem Z7a (R n:Nat) (M:Mx):(mx R n M).length=R:=ZEa _ _
theorem ZYd {R n:Nat} {M M':Mx} (h:∀ i,i<R→∀ j,j<n→M i j=M' i j):mx R n M=mx R n M':=Z3 fun i hi=>Z3 fun j hj=>h i hi j hj
theorem Zdb {R n i:Nat} (M:Mx) (h:i<R):idx (mx R n M) (i:Int)=some (vx n (M i)):=Zua _ h
theorem ZGq {R n:Nat} (M:Mx) (i:Nat) (g:Nat→Rat):(mx R n M).set i (vx n g)=mx R n (fun k j=>if k=i then g j else M k j):=by
 unfold mx;rw [ZUb];exact Z3 fun k hk=>by by_cases e:k=i <;> simp [e]
theorem mx_swap {R n p q:Nat} (M:Mx) (hp:p<R) (hq:q<R):Zic (mx R n M) p q=mx R n (fun k=>if k=q then M p else if k=p then M q else M k):=by
 unfold Zic mx;rw [ZLo _ _ hp,ZLo _ _ hq,ZUb,ZUb];exact Z3 fun k hk=>by by_cases e:k=q <;> by_cases e2:k=p <;> simp [e,e2] <;> split <;> rfl
theorem Z9b {α β:Type} {P:β→Prop} {x:Option α} {y:α} {f:α→Option β} (h:x=some y) (h2:∃ z,f y=some z∧P z):∃ z,bnd x f=some z∧P z:=by subst h;exact h2
theorem ZZl {S R Z:Type} {P:Z→Prop} {body:S→Option (S ⊕ R)} {s:S} {f:R→Option Z} (I:Nat→S→Prop) (Q:R→Prop) (n:Nat) (h0:I 0 s) (hn:n<2^64)
  (h:∀ k s,k≤n→I k s→(∃ s',k<n∧body s=some (.inl s')∧I (k+1) s') ∨ ∃ r,body s=some (.inr r)∧Q r)
  (hf:∀ r,Q r→∃ z,f r=some z∧P z):∃ z,bnd (Zl body Zq s) f=some z∧P z:=by
 have key:∀ m g k s,k+m=n→m<g→I k s→∃ r,Zl body g s=some r∧Q r:=by
  intro m
  induction m with
  | zero =>
   intro g k s hk hg hi;obtain ⟨g,rfl⟩:∃ x,g=x+1:=⟨g-1,by omega⟩;rcases h k s (by omega) hi with ⟨s',h1,_⟩ | ⟨r,h1,h2⟩
   ·omega
   ·exact ⟨r,by unfold Zl;rw [h1,Za],h2⟩
  | succ m ih =>
   intro g k s hk hg hi;obtain ⟨g,rfl⟩:∃ x,g=x+1:=⟨g-1,by omega⟩;rcases h k s (by omega) hi with ⟨s',h1,h2,h3⟩ | ⟨r,h1,h2⟩
   ·obtain ⟨r,h4,h5⟩:=ih g (k+1) s' (by omega) (by omega) h3;exact ⟨r,by unfold Zl;rw [h2,Za];exact h4,h5⟩
   ·exact ⟨r,by unfold Zl;rw [h1,Za],h2⟩
 obtain ⟨r,h1,h2⟩:=key n Zq 0 s (by omega) (ZV (by omega)) h0;exact Z9b h1 (hf r h2)
theorem qaddB {k m:Nat} {x y:Rat} (h:sz k x) (h':sz m y) (hk:k≤1099511627776) (hm:m≤1099511627776):Z4c x y=some (x+y):=by unfold Z4c;rw [if_pos ⟨h.ok hk,h'.ok hm⟩]
theorem qsubB {k m:Nat} {x y:Rat} (h:sz k x) (h':sz m y) (hk:k≤1099511627776) (hm:m≤1099511627776):Zdd x y=some (x-y):=by unfold Zdd;rw [if_pos ⟨h.ok hk,h'.ok hm⟩]
theorem qmulB {k m:Nat} {x y:Rat} (h:sz k x) (h':sz m y) (hk:k≤1099511627776) (hm:m≤1099511627776):Zcb x y=some (x*y):=by unfold Zcb;rw [if_pos ⟨h.ok hk,h'.ok hm⟩]
theorem qdivB {k m:Nat} {x y:Rat} (h:sz k x) (h':sz m y) (hk:k≤1099511627776) (hm:m≤1099511627776) (hy:y≠0):Zmf x y=some (x / y,0):=by unfold Zmf;rw [if_pos ⟨h.ok hk,h'.ok hm⟩,if_neg hy]
theorem sz_frac {K:Nat} {x:Rat} {N D:Int} (hx:x=(N:Rat) / (D:Rat)) (hN:N.natAbs<2^K) (hD:D.natAbs<2^K) (h0:D≠0):sz K x:=by
 rw [hx,← Rat.divInt_eq_div,ZTh];rcases ZXi (if D<0 then -N else N) D.natAbs with ⟨h1,h2⟩ | h1
 ·have h3:bl (if D<0 then -N else N).natAbs≤K:=Zfb (by split <;> omega);have h4:bl D.natAbs≤K:=Zfb hD;exact ⟨by omega,by omega⟩
 ·omega
def CD (K R n:Nat) (M:Mx):Prop:=∃ D:Int,D≠0∧D.natAbs<2^K∧∀ i j,i<R→j<n→∃ N:Int,M i j=(N:Rat) / (D:Rat)∧N.natAbs<2^K
theorem CD.sz {K R n:Nat} {M:Mx} (h:CD K R n M) {i j:Nat} (hi:i<R) (hj:j<n):sz K (M i j):=by
 obtain ⟨D,h0,h1,h2⟩:=h;obtain ⟨N,h3,h4⟩:=h2 i j hi hj;exact sz_frac h3 h4 h1 h0
theorem CD.mono {K K' R n:Nat} {M:Mx} (h:CD K R n M) (hk:K≤K'):CD K' R n M:=by
 obtain ⟨D,h0,h1,h2⟩:=h;have hp:=Nat.pow_le_pow_right (show 0<2 by omega) hk;exact ⟨D,h0,by omega,fun i j hi hj=>by
  obtain ⟨N,h3,h4⟩:=h2 i j hi hj;exact ⟨N,h3,by omega⟩⟩
theorem CD.congr {K R n:Nat} {M M':Mx} (h:CD K R n M) (e:∀ i,i<R→∀ j,j<n→M i j=M' i j):CD K R n M':=by
 obtain ⟨D,h0,h1,h2⟩:=h;exact ⟨D,h0,h1,fun i j hi hj=>by rw [← e i hi j hj];exact h2 i j hi hj⟩
theorem ZVf {a b:Int} {A B:Nat} (ha:a.natAbs<A) (hb:b.natAbs<B):(a*b).natAbs<A*B:=by
 rw [Int.natAbs_mul];exact Nat.mul_lt_mul'' ha hb
def Z3b (M:Mx) (c top p:Nat):Mx:=fun i j=>if i=top then M p j / M p c else (if i=p then M top j else M i j)-(if i=p then M top c else M i c)*(M p j / M p c)
theorem Zln {R n c top p:Nat} {M:Mx} (tp:top≤p) (pR:p<R) (cn:c<n) (nz:M p c≠0):StepR R n M (Z3b M c top p) c top p :=
 ⟨tp,pR,cn,nz,fun j hj=>by simp [Z3b],fun h j hj=>by simp [Z3b,h],fun i hi h1 h2 j hj=>by simp [Z3b,h1,h2]⟩
theorem CD.step {K R n c top p:Nat} {M:Mx} (h:CD K R n M) (tp:top≤p) (pR:p<R) (cn:c<n) (nz:M p c≠0):CD (2*K+1) R n (Z3b M c top p):=by
 obtain ⟨D,h0,h1,h2⟩:=h;obtain ⟨F,f1,f2⟩:=h2 p c pR cn;have e2:2^(2*K+1)=2*(2^K*2^K):=by rw [Nat.pow_succ,Nat.two_mul,Nat.pow_add];omega
 have hF:F≠0:=fun e=>nz (by rw [f1,e,Rat.div_def];exact Rat.zero_mul _);have hD':(D:Rat)≠0:=fun e=>h0 (Rat.intCast_inj.1 (by rw [e];rfl));have hF':(F:Rat)≠0:=fun e=>hF (Rat.intCast_inj.1 (by rw [e];rfl));refine ⟨D*F,fun e=>?_,?_,fun i j hi hj=>?_⟩
 ·rcases Int.mul_eq_zero.1 e with h | h
  ·exact h0 h
  ·exact hF h
 ·have:=ZVf h1 f2;omega
 ·obtain ⟨A,a1,a2⟩:=h2 p j pR hj;unfold Z3b;split
  ·refine ⟨A*D,?_,?_⟩
   ·rw [a1,f1,Rat.intCast_mul,Rat.intCast_mul];grind
   ·have:=ZVf a2 h1;omega
  ·have key:∀ i,i<R→∃ N:Int,M i j-M i c*(M p j / M p c)=(N:Rat) / ((D*F:Int):Rat)∧N.natAbs<2^(2*K+1):=fun i hi=>by
    obtain ⟨B,b1,b2⟩:=h2 i j hi hj;obtain ⟨C,c1,c2⟩:=h2 i c hi cn;refine ⟨B*F-C*A,?_,?_⟩
    ·rw [a1,b1,c1,f1,Rat.intCast_sub,Rat.intCast_mul,Rat.intCast_mul,Rat.intCast_mul];grind
    ·have:=ZVf b2 f2;have:=ZVf c2 a2;omega
   by_cases hp:i=p
   ·rw [if_pos hp,if_pos hp];exact key top (by omega)
   ·rw [if_neg hp,if_neg hp];exact key i hi
noncomputable def is1_m (x:Rat) (y:Rat):Option (Bool) :=
 bnd (Zoi x) fun a =>
 bnd (Zhk y) fun b =>
 some (a==b)
set_option maxRecDepth 100000
theorem Ziq:sz 1 (1:Rat):=by constructor <;> decide
def cf (c:Nat→Int):Nat→Nat→Int
 | _,0=>0
 | i,m+1=>if c i≠0 then c i else cf c (i+1) m
end Go.Eng
namespace Go.Eng
open Go.RowKit
variable {P:Program} {K:Nat} {w0:Base} {v0:Zb} {σ:List (Nat×Value)} {ℓ:List Loc} {v:Zb} {a:Act} {w:World}
end Go.Eng

namespace Go.Eng
noncomputable def ZEl (x:Rat) (y:Rat):Option Rat :=
 some y
noncomputable def ZMb (n:Int):Option Rat :=
 bnd (Zah n) fun a =>
 bnd (ZEl (0:Rat) a) fun b =>
 some b
noncomputable def ZWe (m:List (List Rat)):Option ((List (List Rat))×(List Int)×Rat) :=
 bnd (mk 24 (m.length:Int) (m.length:Int)) fun _ =>
 bnd (Zl (σ:=Int×(List (List Rat))) (ρ:=List (List Rat)) (fun e =>
 ifb (decide (e.1<(m.length:Int)))
 (bnd (idx m e.1) fun r =>
 bnd (Z5c 56 r) fun s =>
 bnd (idx e.2 e.1) fun y4 =>
 bnd (chk .i64 (e.1+(1:Int))) fun t =>
 some (.inl (t,e.2.set e.1.toNat s)))
 (some (.inr e.2)))
  Zq ((0:Int),List.replicate (m.length:Int).toNat ([]:List Rat))) fun i =>
 bnd (ZMb (1:Int)) fun u =>
 bnd (α:=Int)
 (ifb ((i.length:Int)==(0:Int))
 (some (0:Int))
 (bnd (idx i (0:Int)) fun v =>
 some (v.length:Int))) fun w =>
 bnd (Zl (σ:=(List Int)×Int×(List (List Rat))×Rat) (ρ:=(List Int)×(List (List Rat))×Rat) (fun a =>
 ifb (decide (a.2.1<w))
 (bnd (α:=(List Int)×(List (List Rat))×Rat)
 (bnd (Zl (σ:=Int) (ρ:=Int) (fun g =>
 bnd (α:=Bool)
 (ifb (decide (g<(a.2.2.1.length:Int)))
 (bnd (idx a.2.2.1 g) fun x =>
 bnd (idx x a.2.1) fun y =>
 bnd (Zrc y) fun z =>
 some z)
 (some false)) fun A =>
 ifb A
 (bnd (chk .i64 (g+(1:Int))) fun B =>
 some (.inl B))
 (some (.inr g)))
      Zq (a.1.length:Int)) fun f =>
 ifb (f==(a.2.2.1.length:Int))
 (bnd (ZMb (0:Int)) fun C =>
 some (a.1,a.2.2.1,C))
 (bnd (α:=(List (List Rat))×Rat)
 (ifb (f != (a.1.length:Int))
 (bnd (idx a.2.2.1 (a.1.length:Int)) fun ab =>
 bnd (idx a.2.2.1 f) fun ac =>
 bnd (idx a.2.2.1 f) fun ad =>
 bnd (idx a.2.2.1 (a.1.length:Int)) fun ae =>
 bnd (eqN ((a.1.length:Int).toNat) ((a.1.length:Int).toNat)) fun _ =>
 bnd (eqN f.toNat f.toNat) fun _ =>
 bnd (Zcc a.2.2.2) fun D =>
 some (Zic a.2.2.1 f.toNat ((a.1.length:Int).toNat),D))
 (some (a.2.2.1,a.2.2.2))) fun h =>
 bnd (idx h.1 (a.1.length:Int)) fun E =>
 bnd (idx E a.2.1) fun l =>
 bnd (Zcb h.2 l) fun F =>
 bnd (idx h.1 (a.1.length:Int)) fun G =>
 bnd (Zl (σ:=Int×(List (List Rat))) (ρ:=List (List Rat)) (fun d =>
 ifb (decide (d.1<(G.length:Int)))
 (bnd (idx d.2 (a.1.length:Int)) fun n =>
 bnd (idx d.2 (a.1.length:Int)) fun H =>
 bnd (idx H d.1) fun I =>
 bnd (Zmf I l) fun J =>
 bnd (idx n d.1) fun af =>
 bnd (chk .i64 (d.1+(1:Int))) fun K =>
 some (.inl (K,d.2.set ((a.1.length:Int).toNat) (n.set d.1.toNat J.1))))
 (some (.inr d.2)))
       Zq ((0:Int),h.1)) fun o =>
 bnd (Zl (σ:=Int×(List (List Rat))) (ρ:=List (List Rat)) (fun b =>
 ifb (decide (b.1<(o.length:Int)))
 (bnd (α:=List (List Rat))
 (bnd (idx b.2 b.1) fun L =>
 bnd (idx L a.2.1) fun p =>
 bnd (α:=Bool)
 (ifb (b.1==(a.1.length:Int))
 (some true)
 (bnd (Zrc p) fun M =>
 some M)) fun N =>
 ifb N
 (some b.2)
 (bnd (idx b.2 b.1) fun O =>
 bnd (Zl (σ:=Int×(List (List Rat))) (ρ:=List (List Rat)) (fun c =>
 ifb (decide (c.1<(O.length:Int)))
 (bnd (idx c.2 b.1) fun q =>
 bnd (idx c.2 b.1) fun P =>
 bnd (idx P c.1) fun Q =>
 bnd (idx c.2 (a.1.length:Int)) fun R =>
 bnd (idx R c.1) fun S =>
 bnd (Zcb p S) fun T =>
 bnd (Zdd Q T) fun U =>
 bnd (idx q c.1) fun ag =>
 bnd (chk .i64 (c.1+(1:Int))) fun V =>
 some (.inl (V,c.2.set b.1.toNat (q.set c.1.toNat U))))
 (some (.inr c.2)))
            Zq ((0:Int),b.2)) fun W =>
 some W)) fun X =>
 bnd (chk .i64 (b.1+(1:Int))) fun Y =>
 some (.inl (Y,X)))
 (some (.inr b.2)))
       Zq ((0:Int),o)) fun Z =>
 bnd (ZU 8 (a.1++[a.2.1])) fun _ =>
 some (a.1++[a.2.1],Z,F))) fun j =>
 bnd (chk .i64 (a.2.1+(1:Int))) fun aa =>
 some (.inl (j.1,aa,j.2.1,j.2.2)))
 (some (.inr (a.1,a.2.2.1,a.2.2.2))))
  Zq (([]:List Int),(0:Int),i,u)) fun k =>
 some (k.2.1,k.1,k.2.2)
noncomputable def Zvd (m:List (List Rat)):Option Int :=
 ifb ((m.length:Int)==(0:Int))
 (some (0:Int))
 (bnd (idx m (0:Int)) fun a =>
 some (a.length:Int))
noncomputable def ZXe (m:List (List Rat)):Option Bool :=
 bnd (Zvd m) fun b =>
 bnd (α:=Bool)
 (ifb (decide ((m.length:Int)≤(32:Int)))
 (ifb (decide (b≤(32:Int)))
 (bnd (α:=Int)
 (bnd (Zl (σ:=Int) (ρ:=Unit ⊕ Int) (fun a =>
 ifb (decide (a<(m.length:Int)))
 (bnd (idx m a) fun c =>
 ifb ((c.length:Int) != b)
 (some (.inr (.inr a)))
 (bnd (chk .i64 (a+(1:Int))) fun d =>
 some (.inl d)))
 (some (.inr (.inl ()))))
      Zq (0:Int)) fun e =>
     match e with
 | .inl i=>(some (-1:Int))
 | .inr f=>(some f)) fun g =>
 some (!(decide ((0:Int)≤g))))
 (some false))
 (some false)) fun h =>
 some h
theorem Zuh (n:Int):ZMb n=some (n:Rat):=by
 unfold ZMb ZEl;rfl
theorem Z9e {b n:Nat} (h:b*n≤281474976710656) (h2:n≤1000000000):mk b (n:Int) (n:Int)=some ():=by
 unfold mk;rw [if_pos ⟨by omega,by omega,by omega,by omega⟩]
theorem ZHl (i:Nat):eqN i i=some ():=by unfold eqN;rw [if_pos rfl]
theorem Z2w {α:Type} {b:Nat} {l:List α} (h:l.length*b≤140737488355328):Z5c b l=some l:=by
 unfold Z5c;rw [ZAb h,Za]
def ZGb (l:List Nat):List Int:=l.map fun (c:Nat)=>(c:Int)
theorem ZPe (l:List Nat):(ZGb l).length=l.length:=by simp [ZGb]
theorem Zjr {R n:Nat} (M:Mx) (hR:R≤1000) (hn:n≤1000):Zl (σ:=Int×(List (List Rat))) (ρ:=List (List Rat)) (fun s1 =>
   ifb (decide (s1.1<((mx R n M).length:Int)))
   (bnd (idx (mx R n M) s1.1) fun y2 =>
    bnd (Z5c 56 y2) fun y3 =>
    bnd (idx s1.2 s1.1) fun y4 =>
    bnd (chk .i64 (s1.1+(1:Int))) fun y5 =>
    some (.inl (y5,s1.2.set s1.1.toNat y3)))
   (some (.inr s1.2)))
  Zq ((0:Int),List.replicate ((mx R n M).length:Int).toNat ([]:List Rat))=some (mx R n M):=by
  refine ZRa (fun k=>((k:Int),vx R fun i=>if i<k then vx n (M i) else [])) R ?_ (by omega) (fun k hk=>?_) ?_
  · rw [Z7a];simp only [Int.toNat_natCast,ZLf];refine Prod.ext rfl (Z3 fun i hi=>?_);rw [if_neg (by omega)]
  · simp only [Z7a];rw [decide_eq_true (by omega),Zh,Zdb _ hk,Za,Z2w (by rw [ZEa];omega),Za,Zua _ hk,Za,ZA (by omega) (by omega),Za];simp only [Int.toNat_natCast];rw [ZUb];refine congrArg (fun x=>some (Sum.inl x)) (Prod.ext (by simp) (Z3 fun i hi=>?_));by_cases e:i=k
    · rw [if_pos e,if_pos (by omega),e]
    · rw [if_neg e];by_cases e2:i<k
      · rw [if_pos e2,if_pos (by omega)]
      · rw [if_neg e2,if_neg (by omega)]
  · simp only [Z7a];rw [decide_eq_false (by omega),Zg];exact congrArg (fun x=>some (Sum.inr x)) (Z3 fun i hi=>if_pos hi)
theorem Z6h {R n:Nat} (M:Mx) (h:R=0→n=0):Zvd (mx R n M)=some (n:Int):=by
 unfold Zvd;rw [Z7a];by_cases h0:R=0
 ·rw [show ((R:Int)==0)=true by simp [h0],Zh,h h0];rfl
 ·rw [show ((R:Int)==0)=false by simp [h0],Zg];refine Z2 (Zdb (i:=0) M (by omega)) ?_;rw [ZEa]
theorem ZFi {R n:Nat} (M:Mx) (h:R=0→n=0) (hR:R≤32) (hn:n≤32):ZXe (mx R n M)=some true:=by
 unfold ZXe;rw [Z6h M h,Za,Z7a,decide_eq_true (by omega),Zh,decide_eq_true (by omega),Zh];refine Z2 (y:=true) ?_ rfl;refine Z2 (y:=(-1:Int)) ?_ rfl;refine Z2 (y:=Sum.inl ()) ?_ rfl;refine ZRa (fun k=>(k:Int)) R rfl (by omega) (fun k hk=>?_) ?_
 ·rw [decide_eq_true (by omega),Zh,Zdb _ hk,Za,ZEa,show ((n:Int) != (n:Int))=false by simp,Zg,ZA (by omega) (by omega),Za];rfl
 ·rw [decide_eq_false (by omega),Zg]
def kk (K k:Nat):Nat:=2^k*(K+1)-1
theorem Zfn {K k:Nat}:kk K (k+1)=2*kk K k+1:=by
 unfold kk;have:=Nat.mul_pos (Nat.two_pow_pos k) (show 0<K+1 by omega);rw [Nat.pow_succ,Nat.mul_comm (2^k) 2,Nat.mul_assoc];omega
theorem Zgj {K k n:Nat} (h:k≤n):kk K k≤kk K n:=by
 unfold kk;have:=Nat.mul_le_mul_right (K+1) (Nat.pow_le_pow_right (show 0<2 by omega) h);omega
theorem Zdj:sz 1 (0:Rat):=⟨by decide,by decide⟩
def swM (M:Mx) (top p:Nat):Mx:=fun k=>if k=top then M p else if k=p then M top else M k
def Z0c (M:Mx) (c top p j:Nat):Mx:=fun i l=>if i=top∧l<j then M p l / M p c else swM M top p i l
def Zbb (M:Mx) (c top p n i j:Nat):Mx:=fun r l=>if r<i∨(r=i∧l<j) then Z3b M c top p r l else Z0c M c top p n r l
theorem kk_pos' {K n:Nat} (h:1≤K):1≤kk K n:=by
 have:=Zgj (K:=K) (k:=0) (n:=n) (Nat.zero_le _);unfold kk at this;unfold kk;simp at this;omega
theorem bnd_two {α β:Type} {P:β→Prop} (Q:α→Prop) {x:Option α} {f:α→Option β} (h:∃ y,x=some y∧Q y) (h2:∀ y,Q y→∃ z,f y=some z∧P z):∃ z,bnd x f=some z∧P z:=by
 obtain ⟨y,h,q⟩:=h;exact Z9b h (h2 y q)
set_option maxRecDepth 100000 in
theorem Zcp {R n K r:Nat} {M0:Mx} (h0:R=0→n=0) (hR:R≤1000) (hn:n≤1000) (hK:1≤K) (hz:CD K R n M0) (hr:∀ k M piv,k≤n→Eli R n M0 M piv k→piv.length≤r) (hk:kk K r≤274877906944) :
  ∃ z,ZWe (mx R n M0)=some z∧∃ M piv d,z=(mx R n M,ZGb piv,d)∧Eli R n M0 M piv n∧CD (kk K r) R n M:=by
 unfold ZWe;refine Z9b (y:=()) (by rw [Z7a];exact Z9e (by omega) (by omega)) ?_;refine Z9b (Zjr M0 hR hn) ?_;refine Z9b (Zuh 1) ?_;refine Z9b (y:=(n:Int)) (Z6h M0 h0) ?_;refine ZZl (fun k s=>∃ M piv d,s=(ZGb piv,(k:Int),mx R n M,d)∧Eli R n M0 M piv k∧CD (kk K piv.length) R n M∧sz (kk K piv.length) d) (fun y=>∃ M piv d,y=(ZGb piv,mx R n M,d)∧Eli R n M0 M piv n∧CD (kk K r) R n M) n ⟨M0,[],((1:Int):Rat),rfl,Eli.start R n M0,by unfold kk;simpa using hz,(Ziq.mono (by unfold kk;simpa using hK):sz _ (1:Rat))⟩ (by omega) (fun k s hkn hi=>?_) (fun y hy=>?_)
 ·obtain ⟨M,piv,d,rfl,hI,hC,hd⟩:=hi;by_cases hlt:k<n
  ·left;have hkk:=Zgj (K:=K) (hr k M piv hkn hI);simp only;rw [decide_eq_true (by omega),Zh];have pl:=hI.le
   suffices hx:∃ z,(bnd (α:=(List Int)×(List (List Rat))×Rat) _ _:Option (((List Int)×Int×(List (List Rat))×Rat) ⊕ ((List Int)×(List (List Rat))×Rat)))=some z∧∃ M' piv' d',z=Sum.inl (ZGb piv',((k+1:Nat):Int),mx R n M',d')∧Eli R n M0 M' piv' (k+1)∧CD (kk K piv'.length) R n M'∧sz (kk K piv'.length) d' by
    obtain ⟨z,h1,M',piv',d',rfl,h2⟩:=hx;exact ⟨_,hlt,h1,M',piv',d',rfl,h2⟩
   refine bnd_two (Q:=fun y=>∃ M' piv' d',y=(ZGb piv',mx R n M',d')∧Eli R n M0 M' piv' (k+1)∧CD (kk K piv'.length) R n M'∧sz (kk K piv'.length) d') ?_ (fun y hy=>?_)
   rotate_left
   ·obtain ⟨M',piv',d',rfl,h2⟩:=hy;exact ⟨Sum.inl (ZGb piv',((k+1:Nat):Int),mx R n M',d'),by rw [ZA (by omega) (by omega),Za];rfl,M',piv',d',rfl,h2⟩
   refine ZZl (fun q s=>s=((piv.length+q:Nat):Int)∧∀ i,piv.length≤i→i<piv.length+q→M i k=0) (fun y=>∃ p:Nat,y=(p:Int)∧piv.length≤p∧p≤R∧(∀ i,piv.length≤i→i<p→M i k=0)∧(p<R→M p k≠0)) (R-piv.length) ⟨by rw [ZPe];rfl,fun i h1 h2=>by omega⟩ (by omega) (fun q s hq hs=>?_) (fun y hy=>?_)
   ·obtain ⟨rfl,hz0⟩:=hs;rw [Z7a];by_cases hqR:piv.length+q<R
    ·rw [decide_eq_true (by omega),Zh,Zdb _ hqR,Za,Zua _ hlt,Za];unfold Zrc;by_cases hz1:M (piv.length+q) k=0
     ·left;refine ⟨((piv.length+(q+1):Nat):Int),by omega,?_,rfl,fun i h1 h2=>?_⟩
      ·rw [decide_eq_true hz1,Za,Za,Zh,ZA (by omega) (by omega),Za];rfl
      ·by_cases e:i=piv.length+q
       ·rw [e];exact hz1
       ·exact hz0 i h1 (by omega)
     ·right;refine ⟨((piv.length+q:Nat):Int),by rw [decide_eq_false hz1,Za,Za,Zg],piv.length+q,rfl,by omega,by omega,hz0,fun _=>hz1⟩
    ·right;refine ⟨((piv.length+q:Nat):Int),by rw [decide_eq_false (by omega),Zg,Za,Zg],piv.length+q,rfl,by omega,by omega,hz0,fun h=>by omega⟩
   ·obtain ⟨p,rfl,h1,h2,h3,h4⟩:=hy;rw [Z7a];by_cases hpR:p=R
    ·rw [show ((p:Int)==(R:Int))=true by simp [hpR],Zh,Zuh,Za];refine ⟨_,rfl,M,piv,_,rfl,hI.skip fun i g1 g2=>h3 i g1 (by omega),hC,Zdj.mono (kk_pos' hK)⟩
    ·rw [show ((p:Int)==(R:Int))=false by simp;omega,Zg];have pR:p<R:=by omega
     have nz:=h4 pR;have tR:piv.length<R:=by omega
     have Cs:=hC.step h1 pR hlt nz;have hk1:=Zgj (K:=K) (hr (k+1) _ _ hlt (hI.step (Zln h1 pR hlt nz)));rw [List.length_append,List.length_singleton,Zfn] at hk1;rw [ZPe];refine Z9b (y:=(mx R n (swM M piv.length p),if p=piv.length then d else -d)) ?_ ?_
     ·by_cases e:p=piv.length
      ·rw [show ((p:Int) != (piv.length:Int))=false by simp [e],Zg,if_pos e];refine congrArg some (Prod.ext (ZYd fun i hi j hj=>?_) rfl);unfold swM;by_cases e2:i=piv.length
       ·rw [if_pos e2,e2,e]
       ·rw [if_neg e2,if_neg (fun h=>e2 (h.trans e))]
      ·rw [show ((p:Int) != (piv.length:Int))=true by simp;omega,Zh,Zdb _ tR,Za,Zdb _ pR,Za,Za,Za,if_neg e];simp only [Int.toNat_natCast];rw [ZHl,Za,ZHl,Za];unfold Zcc;rw [Za,mx_swap _ pR tR];rfl
     have hrow:swM M piv.length p piv.length=M p:=by unfold swM;rw [if_pos rfl]
     have hd1:sz (kk K piv.length) (if p=piv.length then d else -d):=by split;exact hd;exact Z1r hd
     have zf:sz (kk K piv.length) (M p k):=hC.sz pR hlt;simp only;refine Z9b (Zdb _ tR) ?_;rw [hrow];refine Z9b (Zua _ hlt) ?_;refine Z9b (qmulB hd1 zf (by omega) (by omega)) ?_;refine Z9b (Zdb _ tR) ?_;rw [hrow,ZEa];refine Z9b (y:=mx R n (Z0c M k piv.length p n)) (ZRa (fun j=>((j:Int),mx R n (Z0c M k piv.length p j))) n ?_ (by omega) (fun j hj=>?_) ?_) ?_
     ·refine Prod.ext rfl (ZYd fun i hi j hj=>?_);unfold Z0c;rw [if_neg (by omega)]
     ·have hr:Z0c M k piv.length p j piv.length j=M p j:=by unfold Z0c swM;rw [if_neg (by omega),if_pos rfl]
      simp only;rw [decide_eq_true (by omega),Zh,Zdb _ tR,Za,Za,Zua _ hj,Za,hr,qdivB (hC.sz pR hj) zf (by omega) (by omega) nz,Za,Za,ZA (by omega) (by omega),Za];simp only [Int.toNat_natCast];rw [ZUb,ZGq];refine congrArg (fun x=>some (Sum.inl x)) (Prod.ext (by simp) (ZYd fun i hi l hl=>?_));unfold Z0c;by_cases e:i=piv.length
      ·rw [if_pos e];by_cases e2:l=j
       ·rw [if_pos e2,if_pos (by omega),e2]
       ·rw [if_neg e2,e];by_cases e3:l<j
        ·rw [if_pos (by omega),if_pos (by omega)]
        ·rw [if_neg (by omega),if_neg (by omega)]
      ·rw [if_neg e,if_neg (by omega),if_neg (by omega)]
     ·simp only;rw [decide_eq_false (by omega),Zg]
     rw [Z7a];refine Z9b (y:=mx R n (Z3b M k piv.length p)) (ZRa (fun i=>((i:Int),mx R n (Zbb M k piv.length p n i 0))) R ?_ (by omega) (fun i hi=>?_) ?_) ?_
     ·refine Prod.ext rfl (ZYd fun i hi j hj=>?_);unfold Zbb;rw [if_neg (by omega)]
     ·simp only;have rd:∀ r l,r≠piv.length→Z0c M k piv.length p n r l=if r=p then M piv.length l else M r l:=fun r l hr=>by
       unfold Z0c swM;rw [if_neg (by omega),if_neg hr];split <;> rfl
      have top0:∀ i j l,l<n→Zbb M k piv.length p n i j piv.length l=M p l / M p k:=fun i j l hl=>by
       unfold Zbb Z3b Z0c;split
       ·rw [if_pos rfl]
       ·rw [if_pos ⟨rfl,hl⟩]
      have self0:∀ l,Zbb M k piv.length p n i 0 i l=Z0c M k piv.length p n i l:=fun l=>by unfold Zbb;rw [if_neg (by omega)]
      rw [decide_eq_true (by omega),Zh];refine Z2 (y:=mx R n (Zbb M k piv.length p n (i+1) 0)) ?_ ?_
      ·rw [Zdb _ hi,Za,Zua _ hlt,Za];by_cases e:i=piv.length
       ·rw [show ((i:Int)==(piv.length:Int))=true by simp [e],Zh,Za,Zh];refine congrArg some (ZYd fun r hr l hl=>?_);by_cases e2:r=piv.length
        ·rw [e2,top0 _ _ _ hl,top0 _ _ _ hl]
        ·unfold Zbb;by_cases e3:r<i
         ·rw [if_pos (.inl e3),if_pos (.inl (by omega))]
         ·rw [if_neg (by omega),if_neg (by omega)]
       ·rw [show ((i:Int)==(piv.length:Int))=false by simp;omega,Zg];unfold Zrc;rw [Za,Za,self0,rd _ _ e];by_cases hz1:(if i=p then M piv.length k else M i k)=0
        ·rw [decide_eq_true hz1,Zh];refine congrArg some (ZYd fun r hr l hl=>?_);unfold Zbb;by_cases e3:r<i
         ·rw [if_pos (.inl e3),if_pos (.inl (by omega))]
         ·rw [if_neg (by omega)];by_cases e4:r=i
          ·subst e4;rw [if_pos (.inl (by omega)),rd _ _ e];unfold Z3b;rw [if_neg e,hz1];grind
          ·rw [if_neg (by omega)]
        ·rw [decide_eq_false hz1,Zg,Za,ZEa];have zc:sz (kk K piv.length) (if i=p then M piv.length k else M i k):=by split;exact hC.sz tR hlt;exact hC.sz hi hlt
         refine Z2 (ZRa (fun j=>((j:Int),mx R n (Zbb M k piv.length p n i j))) n rfl (by omega) (fun j hj=>?_) ?_) rfl
         ·have zt:sz (2*kk K piv.length+1) (M p j / M p k):=by
           have:=Cs.sz tR hj;unfold Z3b at this;rwa [if_pos rfl] at this
          have zi:sz (kk K piv.length) (if i=p then M piv.length j else M i j):=by split;exact hC.sz tR hj;exact hC.sz hi hj
          have e5:Zbb M k piv.length p n i j i j=if i=p then M piv.length j else M i j:=by unfold Zbb;rw [if_neg (by omega),rd _ _ e]
          simp only;rw [decide_eq_true (by omega),Zh,Zdb _ hi,Za,Za,Zua _ hj,Za,Zdb _ tR,Za,Zua _ hj,Za,top0 _ _ _ hj,qmulB zc zt (by omega) (by omega),Za,e5,qsubB zi (ZIh zc zt) (by omega) (by omega),Za,Za,ZA (by omega) (by omega),Za];simp only [Int.toNat_natCast];rw [ZUb,ZGq];refine congrArg (fun x=>some (Sum.inl x)) (Prod.ext (by simp) (ZYd fun r hr l hl=>?_));by_cases e6:r=i
          ·subst e6;rw [if_pos rfl];by_cases e7:l=j
           ·subst e7;rw [if_pos rfl];have e9:Zbb M k piv.length p n r (l+1) r l=Z3b M k piv.length p r l:=by unfold Zbb;rw [if_pos (.inr ⟨rfl,by omega⟩)]
            rw [e9];unfold Z3b;rw [if_neg e]
           ·rw [if_neg e7];unfold Zbb;by_cases e8:l<j
            ·rw [if_pos (.inr ⟨rfl,e8⟩),if_pos (.inr ⟨rfl,by omega⟩)]
            ·rw [if_neg (by omega),if_neg (by omega)]
          ·rw [if_neg e6];unfold Zbb;by_cases e8:r<i
           ·rw [if_pos (.inl e8),if_pos (.inl e8)]
           ·rw [if_neg (by omega),if_neg (by omega)]
         ·simp only;rw [decide_eq_false (by omega),Zg];refine congrArg (fun x=>some (Sum.inr x)) (ZYd fun r hr l hl=>?_);unfold Zbb;by_cases e8:r<i+1
          ·rw [if_pos (by omega),if_pos (by omega)]
          ·rw [if_neg (by omega),if_neg (by omega)]
      ·rw [ZA (by omega) (by omega),Za];rfl
     ·simp only;rw [decide_eq_false (by omega),Zg];refine congrArg (fun x=>some (Sum.inr x)) (ZYd fun i hi j hj=>?_);unfold Zbb;rw [if_pos (by omega)]
     refine Z9b (y:=()) (ZAb (by simp [ZPe];omega)) ?_;refine ⟨_,rfl,Z3b M k piv.length p,piv++[k],_,?_,hI.step (Zln h1 pR hlt nz),Cs.mono (by rw [List.length_append,List.length_singleton,Zfn];omega),(ZIh hd1 zf).mono (by rw [List.length_append,List.length_singleton,Zfn];omega)⟩;simp [ZGb]
  ·right;obtain rfl:k=n:=by omega
   refine ⟨_,by simp only;rw [decide_eq_false (by omega),Zg],M,piv,d,rfl,hI,hC.mono (Zgj (hr k M piv (Nat.le_refl _) hI))⟩
 ·obtain ⟨M,piv,d,rfl,hI,hC⟩:=hy;exact ⟨_,rfl,M,piv,d,rfl,hI,hC⟩
theorem ZLn {R n K:Nat} {M0:Mx} (h0:R=0→n=0) (hR:R≤1000) (hn:n≤1000) (hK:1≤K) (hz:CD K R n M0) (hk:kk K n≤274877906944) :
  ∃ z,ZWe (mx R n M0)=some z∧∃ M piv d,z=(mx R n M,ZGb piv,d)∧Eli R n M0 M piv n∧CD (kk K n) R n M :=
 Zcp h0 hR hn hK hz (fun k M piv hk h=>Nat.le_trans (Z2h h.inc h.lt) hk) hk
noncomputable def Zai (m:List (List Rat)) (b:List (List Rat)):Option (List (List Rat)) :=
 bnd (mk 24 (m.length:Int) (m.length:Int)) fun _ =>
 bnd (Zl (σ:=Int×(List (List Rat))) (ρ:=List (List Rat)) (fun c =>
 ifb (decide (c.1<(m.length:Int)))
 (bnd (idx m c.1) fun g =>
 bnd (Z5c 56 g) fun h =>
 bnd (idx c.2 c.1) fun l =>
 bnd (chk .i64 (c.1+(1:Int))) fun i =>
 some (.inl (i,c.2.set c.1.toNat h)))
 (some (.inr c.2)))
  Zq ((0:Int),List.replicate (m.length:Int).toNat ([]:List Rat))) fun d =>
 bnd (Zl (σ:=Int×(List (List Rat))) (ρ:=List (List Rat)) (fun a =>
 ifb (decide (a.1<(d.length:Int)))
 (bnd (idx a.2 a.1) fun e =>
 bnd (idx b a.1) fun f =>
 bnd (ZU 56 (e++f)) fun _ =>
 bnd (idx a.2 a.1) fun n =>
 bnd (eqN a.1.toNat a.1.toNat) fun _ =>
 bnd (chk .i64 (a.1+(1:Int))) fun j =>
 some (.inl (j,a.2.set a.1.toNat (e++f))))
 (some (.inr a.2)))
  Zq ((0:Int),d)) fun k =>
 some k
noncomputable def Zgi (b:List Rat):Option (List (List Rat)) :=
 bnd (mk 24 (b.length:Int) (b.length:Int)) fun _ =>
 bnd (Zl (σ:=Int×(List (List Rat))) (ρ:=List (List Rat)) (fun a =>
 ifb (decide (a.1<(b.length:Int)))
 (bnd (idx b a.1) fun c =>
 bnd (idx a.2 a.1) fun f =>
 bnd (chk .i64 (a.1+(1:Int))) fun d =>
 some (.inl (d,a.2.set a.1.toNat [c])))
 (some (.inr a.2)))
  Zq ((0:Int),List.replicate (b.length:Int).toNat ([]:List Rat))) fun e =>
 some e
noncomputable def Ztg (m:List (List Rat)) (b:List Rat):Option ((List Rat)×Int) :=
 bnd (α:=Bool)
 (bnd (ZXe m) fun f =>
 ifb (!f)
 (some true)
 (some ((b.length:Int) != (m.length:Int)))) fun g =>
 ifb g
 (some (([]:List Rat),(4:Int)))
 (bnd (Zvd m) fun d =>
 bnd (Zgi b) fun h =>
 bnd (Zai m h) fun i =>
 bnd (ZWe i) fun c =>
 bnd (α:=Bool)
 (ifb (decide ((0:Int)<(c.2.1.length:Int)))
 (bnd (chk .i64 ((c.2.1.length:Int)-(1:Int))) fun j =>
 bnd (idx c.2.1 j) fun k =>
 some (k==d))
 (some false)) fun l =>
 ifb l
 (some (([]:List Rat),(5:Int)))
 (bnd (ZMb (0:Int)) fun n =>
 bnd (Zqe 56 [n] d) fun o =>
 bnd (Zl (σ:=Int×(List Rat)) (ρ:=List Rat) (fun a =>
 ifb (decide (a.1<(c.2.1.length:Int)))
 (bnd (idx c.2.1 a.1) fun e =>
 bnd (idx c.1 a.1) fun p =>
 bnd (idx p d) fun q =>
 bnd (idx a.2 e) fun t =>
 bnd (chk .i64 (a.1+(1:Int))) fun r =>
 some (.inl (r,a.2.set e.toNat q)))
 (some (.inr a.2)))
    Zq ((0:Int),o)) fun s =>
 some (s,(0:Int))))
noncomputable def ZXd (m:List (List Rat)):Option ((List (List Rat))×(List Int)×Int) :=
 bnd (ZXe m) fun b =>
 ifb (!b)
 (some (([]:List (List Rat)),([]:List Int),(4:Int)))
 (bnd (ZWe m) fun a =>
 some (a.1,a.2.1,(0:Int)))
noncomputable def ZGe (m:List (List Rat)):Option (Int×Int) :=
 bnd (ZXd m) fun a =>
 some ((a.2.1.length:Int),a.2.2)
theorem sm_sz {k n:Nat} {f:Nat→Rat} (h:∀ j,j<n→sz k (f j)):sz (n*(k+1)+1) (sm n f):=by
 induction n with
 | zero=>exact Zdj.mono (by omega)
 | succ n ih =>
  have:=sz_add (ih fun j hj=>h j (by omega)) (h n (by omega));exact this.mono (by rw [Nat.succ_mul];omega)
theorem sz_lt {k:Nat} {x:Rat} (h:sz k x):x.num.natAbs<2^k∧x.den<2^k:=by
 have h1:=Ztd x.num.natAbs;have h2:=Ztd x.den;have h3:=Nat.pow_le_pow_right (show 0<2 by omega) h.1;have h4:=Nat.pow_le_pow_right (show 0<2 by omega) h.2;omega
theorem Z2r {k:Nat}:∀ l:List Rat,(∀ x,x ∈ l→sz k x)→∃ D:Int,D≠0∧D.natAbs<2^(k*l.length+1)∧∀ x,x ∈ l→∃ N:Int,x=(N:Rat) / (D:Rat)∧N.natAbs<2^(k*l.length+1)
 | [],_=>⟨1,by omega,by simp,fun x hx=>by simp at hx⟩
 | y :: l,h=>by
  obtain ⟨D,d0,d1,d2⟩:=Z2r l fun x hx=>h x (by simp [hx])
  obtain ⟨y1,y2⟩:=sz_lt (h y (by simp))
  have e:2^(k*(y :: l).length+1)=2^(k*l.length+1)*2^k:=by rw [← Nat.pow_add,List.length_cons,Nat.mul_succ];congr 1;omega
  have hD':(D:Rat)≠0:=fun e=>d0 (Rat.intCast_inj.1 (by rw [e];rfl))
  have hy:(y.den:Int)≠0:=by have:=y.den_nz;omega
  have hy':((y.den:Int):Rat)≠0:=fun e=>hy (Rat.intCast_inj.1 (by rw [e];rfl))
  have yv:y=(y.num:Rat) / ((y.den:Int):Rat):=by rw [← Rat.divInt_eq_div,Rat.num_divInt_den]
  refine ⟨D*y.den,fun e=>?_,?_,fun x hx=>?_⟩
  ·rcases Int.mul_eq_zero.1 e with h | h
   ·exact d0 h
   ·exact hy h
  ·have:=ZVf d1 (b:=(y.den:Int)) (B:=2^k) (by simpa using y2);omega
  ·rcases List.mem_cons.1 hx with rfl | hx
   ·refine ⟨D*x.num,?_,?_⟩
    ·rw [Rat.intCast_mul,Rat.intCast_mul]
     generalize ((x.den:Int):Rat)=d at *
     generalize (x.num:Rat)=m at *
     grind
    ·have:=ZVf d1 y1;omega
   ·obtain ⟨N,n1,n2⟩:=d2 x hx
    refine ⟨N*y.den,?_,?_⟩
    ·rw [Rat.intCast_mul,Rat.intCast_mul,n1]
     generalize ((y.den:Int):Rat)=d at *
     grind
    ·have:=ZVf n2 (b:=(y.den:Int)) (B:=2^k) (by simpa using y2);omega
theorem CD_of {k R n:Nat} {M:Mx} (h:∀ i j,i<R→j<n→sz k (M i j)):CD (k*(R*n)+1) R n M:=by
 have hl:∀ x,x ∈ (List.range (R*n)).map (fun t=>M (t / n) (t%n))→sz k x:=fun x hx=>by
  obtain ⟨t,ht,rfl⟩:=List.mem_map.1 hx;have ht:=List.mem_range.1 ht;have hn:0<n:=Nat.pos_of_ne_zero fun e=>by rw [e] at ht;simp at ht
  exact h _ _ (Nat.div_lt_of_lt_mul (by rw [Nat.mul_comm];exact ht)) (Nat.mod_lt _ hn)
 obtain ⟨D,d0,d1,d2⟩:=Z2r _ hl;simp only [List.length_map,List.length_range] at d1 d2;refine ⟨D,d0,d1,fun i j hi hj=>d2 _ (List.mem_map.2 ⟨i*n+j,List.mem_range.2 ?_,?_⟩)⟩
 ·have:=Nat.mul_le_mul_right n (show i+1≤R from hi);rw [Nat.succ_mul] at this;omega
 ·rw [Nat.mul_comm i n,Nat.mul_add_div (by omega),Nat.div_eq_of_lt hj,Nat.mul_add_mod,Nat.mod_eq_of_lt hj];simp
theorem Zbp {R n K:Nat} {M:Mx} (h0:R=0→n=0) (hR:R≤32) (hn:n≤32) (hK:1≤K) (hz:CD K R n M) (hk:kk K n≤274877906944) :
  ∃ M' piv,ZGe (mx R n M)=some (((piv.length:Nat):Int),0)∧Eli R n M M' piv n:=by
 obtain ⟨z,h1,M',piv,d,rfl,h2,_⟩:=ZLn h0 (by omega) (by omega) hK hz hk;refine ⟨M',piv,?_,h2⟩;unfold ZGe ZXd;rw [ZFi M h0 hR hn,Za,show (!true)=false from rfl,Zg,h1,Za,Za];simp only [ZPe]
theorem ZEs {R:Nat} (b:Nat→Rat) (hR:R≤1000):Zgi (vx R b)=some (vx R fun i=>[b i]):=by
 unfold Zgi;rw [ZEa,Z9e (by omega) (by omega),Za];refine Z2 (ZRa (fun k=>((k:Int),vx R fun i=>if i<k then [b i] else [])) R ?_ (by omega) (fun k hk=>?_) ?_) rfl
 ·simp only [Int.toNat_natCast,ZLf];refine Prod.ext rfl (Z3 fun i hi=>?_);rw [if_neg (by omega)]
 ·simp only;rw [decide_eq_true (by omega),Zh,Zua _ hk,Za,Zua _ hk,Za,ZA (by omega) (by omega),Za];simp only [Int.toNat_natCast];rw [ZUb];refine congrArg (fun x=>some (Sum.inl x)) (Prod.ext (by simp) (Z3 fun i hi=>?_));by_cases e:i=k
  ·rw [if_pos e,if_pos (by omega),e]
  ·rw [if_neg e];by_cases e2:i<k
   ·rw [if_pos e2,if_pos (by omega)]
   ·rw [if_neg e2,if_neg (by omega)]
 ·simp only;rw [decide_eq_false (by omega),Zg];exact congrArg (fun x=>some (Sum.inr x)) (Z3 fun i hi=>if_pos hi)
theorem aug_row {n:Nat} {M:Mx} {b:Nat→Rat} (i:Nat):vx n (M i)++[b i]=vx (n+1) (aug n M b i):=by
 rw [← ZMm];unfold aug;rw [if_pos rfl];congr 1;exact Z3 fun j hj=>by rw [if_neg (by omega)]
theorem ZKu {R n:Nat} (M:Mx) (b:Nat→Rat) (hR:R≤1000) (hn:n≤1000):Zai (mx R n M) (vx R fun i=>[b i])=some (mx R (n+1) (aug n M b)):=by
 unfold Zai;rw [Z7a,Z9e (by omega) (by omega),Za];have hc:=Zjr M hR hn;rw [Z7a] at hc;refine Z2 hc ?_;refine Z2 (ZRa (fun k=>((k:Int),vx R fun i=>if i<k then vx (n+1) (aug n M b i) else vx n (M i))) R ?_ (by omega) (fun k hk=>?_) ?_) rfl
 ·refine Prod.ext rfl (Z3 fun i hi=>?_);rw [if_neg (by omega)]
 ·simp only [Z7a];rw [decide_eq_true (by omega),Zh,Zua _ hk,Za,Zua _ hk,Za,if_neg (by omega),aug_row,ZAb (by rw [ZEa];omega),Za,Za];simp only [Int.toNat_natCast];rw [ZHl,Za,ZA (by omega) (by omega),Za,ZUb];refine congrArg (fun x=>some (Sum.inl x)) (Prod.ext (by simp) (Z3 fun i hi=>?_));by_cases e:i=k
  ·rw [if_pos e,if_pos (by omega),e]
  ·rw [if_neg e];by_cases e2:i<k
   ·rw [if_pos e2,if_pos (by omega)]
   ·rw [if_neg e2,if_neg (by omega)]
 ·simp only [Z7a];rw [decide_eq_false (by omega),Zg];exact congrArg (fun x=>some (Sum.inr x)) (Z3 fun i hi=>if_pos hi)
theorem ZKk {l:List Nat} {i c:Nat} (h:l[i]? = some c):idx (ZGb l) (i:Int)=some (c:Int):=ZWl (by simp [ZGb,h])
theorem Zxr {b n:Nat} {a:Rat} (h:b*n≤281474976710656) (h2:n≤1000000000):Zqe b [a] (n:Int)=some (vx n fun _=>a):=by
 unfold Zqe;simp only;rw [Z9e h h2,Za,Int.toNat_natCast,ZLf]
theorem Z3t {R n:Nat} {N M:Mx} {piv:List Nat} (h:Eli R (n+1) N M piv (n+1)):n ∈ piv↔0<piv.length∧piv[piv.length-1]? = some n:=by
 constructor
 ·intro hm;obtain ⟨i,hi⟩:=List.getElem?_of_mem hm;have h1:=(List.getElem?_eq_some_iff.1 hi).1;refine ⟨by omega,?_⟩;by_cases e:i=piv.length-1
  ·rw [← e];exact hi
  ·have h2:piv[piv.length-1]? = some piv[piv.length-1]:=List.getElem?_eq_getElem (by omega);have h3:=ZTg h.inc hi h2 (by omega);have:=h.lt _ (List.mem_of_getElem? h2);omega
 ·exact fun hm=>List.mem_of_getElem? hm.2
theorem Any_r {R n K r:Nat} {M:Mx} {b:Nat→Rat} (h0:0<R) (hR:R≤32) (hn:n≤32) (hK:1≤K) (hz:CD K R (n+1) (aug n M b)) (hr:∀ k M' piv,k≤n+1→Eli R (n+1) (aug n M b) M' piv k→piv.length≤r) (hk:kk K r≤274877906944) :
  ∃ M' piv,Eli R (n+1) (aug n M b) M' piv (n+1)∧CD (kk K r) R (n+1) M'∧Ztg (mx R n M) (vx R b)=some (if n ∈ piv then ([],5) else (vx n (pv M' piv n),0)):=by
 obtain ⟨z,h1,M',piv,d,rfl,h2,h3⟩:=Zcp (R:=R) (n:=n+1) (fun e=>by omega) (by omega) (by omega) hK hz hr hk;refine ⟨M',piv,h2,h3,?_⟩;have hl:=Z3t h2;have pl:=Z2h h2.inc h2.lt;unfold Ztg;rw [ZFi M (fun e=>by omega) hR hn,Za,show (!true)=false from rfl,Zg,ZEa,Z7a,Za,show ((R:Int) != (R:Int))=false by simp,Zg,Z6h M (fun e=>by omega),Za,ZEs b (by omega),Za,ZKu M b (by omega) (by omega),Za,h1,Za];simp only [ZPe];refine Z2 (y:=decide (n ∈ piv)) ?_ ?_
 ·by_cases hp:0<piv.length
  ·rw [decide_eq_true (by omega),Zh,ZA (by omega) (by omega),Za];have h4:piv[piv.length-1]? = some piv[piv.length-1]:=List.getElem?_eq_getElem (by omega);rw [show ((piv.length:Int)-1)=((piv.length-1:Nat):Int) by omega,ZKk h4,Za];refine congrArg some ?_;rw [Bool.eq_iff_iff];simp only [beq_iff_eq,decide_eq_true_eq,hl,h4,hp,true_and,Option.some.injEq];omega
  ·rw [decide_eq_false (by omega),Zg,decide_eq_false (by rw [hl];omega)]
 by_cases hm:n ∈ piv
 ·rw [decide_eq_true hm,Zh,if_pos hm]
 ·rw [decide_eq_false hm,Zg,if_neg hm,Zuh,Za,Zxr (by omega) (by omega),Za];refine Z2 (ZRa (fun k=>((k:Int),vx n fun d=>match piv.idxOf? d with
   | some i=>if i<k then M' i n else 0
   | none=>0)) piv.length ?_ (by omega) (fun k hkp=>?_) ?_) rfl
  ·refine Prod.ext rfl (Z3 fun i hi=>?_);split
   ·rw [if_neg (by omega)];rfl
   ·rfl
  ·have hc:piv[k]? = some piv[k]:=List.getElem?_eq_getElem hkp;have hcn:piv[k]<n:=by
    have:=h2.lt _ (List.mem_of_getElem? hc);have:piv[k]≠n:=fun e=>hm (e ▸ List.mem_of_getElem? hc);omega
   simp only;rw [decide_eq_true (by omega),Zh,ZKk hc,Za,Zdb _ (by have:=h2.le;omega),Za,Zua _ (by omega),Za,Zua _ hcn,Za,ZA (by omega) (by omega),Za];simp only [Int.toNat_natCast];rw [ZUb];refine congrArg (fun x=>some (Sum.inl x)) (Prod.ext (by simp) (Z3 fun i hi=>?_));by_cases e:i=piv[k]
   ·rw [if_pos e,e,ZSl h2.inc hc];simp
   ·rw [if_neg e]
    cases hx:piv.idxOf? i with
    | none=>rfl
    | some q =>
     have:q≠k:=fun e2=>by
      subst e2;unfold List.idxOf? at hx;obtain ⟨_,h6,_⟩:=List.findIdx?_eq_some_iff_getElem.1 hx;simp at h6;exact e h6.symm
     simp only;by_cases e3:q<k
     ·rw [if_pos e3,if_pos (by omega)]
     ·rw [if_neg e3,if_neg (by omega)]
  ·simp only;rw [decide_eq_false (by omega),Zg];refine congrArg (fun x=>some (Sum.inr x)) (Z3 fun i hi=>?_);unfold pv
   cases hx:piv.idxOf? i with
   | none=>rfl
   | some q =>
    unfold List.idxOf? at hx;obtain ⟨h5,_⟩:=List.findIdx?_eq_some_iff_getElem.1 hx;simp only;rw [if_pos h5]
theorem Any_ok {R n K:Nat} {M:Mx} {b:Nat→Rat} (h0:0<R) (hR:R≤32) (hn:n≤32) (hK:1≤K) (hz:CD K R (n+1) (aug n M b)) (hk:kk K (n+1)≤274877906944) :
  ∃ M' piv,Eli R (n+1) (aug n M b) M' piv (n+1)∧CD (kk K (n+1)) R (n+1) M'∧Ztg (mx R n M) (vx R b)=some (if n ∈ piv then ([],5) else (vx n (pv M' piv n),0)) :=
 Any_r h0 hR hn hK hz (fun k M' piv hk h=>Nat.le_trans (Z2h h.inc h.lt) hk) hk
noncomputable def Zvn (x:Rat):Option Rat :=
 some x
noncomputable def ZOi (x:Rat):Option Rat :=
 bnd (Zvn x) fun a =>
 some a
noncomputable def ZNf (x:List Rat) (y:List Rat):Option Rat :=
 bnd (ZMb (0:Int)) fun b =>
 bnd (Zl (σ:=Int×Rat) (ρ:=Rat) (fun a =>
 ifb (decide (a.1<(x.length:Int)))
 (bnd (idx x a.1) fun c =>
 bnd (idx y a.1) fun d =>
 bnd (Zcb c d) fun e =>
 bnd (Z4c a.2 e) fun f =>
 bnd (chk .i64 (a.1+(1:Int))) fun g =>
 some (.inl (g,f)))
 (some (.inr a.2)))
  Zq ((0:Int),b)) fun h =>
 some h
noncomputable def Zsl (m:List (List Rat)) (x:List Rat):Option (List Rat) :=
 bnd (Zl (σ:=(List Rat)×Int) (ρ:=List Rat) (fun a =>
 ifb (decide (a.2<(m.length:Int)))
 (bnd (idx m a.2) fun c =>
 bnd (ZNf c x) fun b =>
 bnd (ZU 56 (a.1++[b])) fun _ =>
 bnd (chk .i64 (a.2+(1:Int))) fun d =>
 some (.inl (a.1++[b],d)))
 (some (.inr a.1)))
  Zq (([]:List Rat),(0:Int))) fun e =>
 some e
theorem lift_ok {R n:Nat} {M:Mx} {c:Rat→Option Rat} (hc:∀ x,c x=some x) (h0:R=0→n=0) (hR:R≤1000) (hn:n≤1000) :
 bnd (Zvd (mx R n M)) (fun y1 =>
  bnd (mk 24 y1 y1) fun _ =>
  bnd (Zl (σ:=Int×(List (List Rat))) (ρ:=List (List Rat)) (fun s2 =>
    ifb (decide (s2.1<((mx R n M).length:Int)))
    (bnd (idx (mx R n M) s2.1) fun y3 =>
     bnd (Zl (σ:=Int×(List (List Rat))) (ρ:=List (List Rat)) (fun s4 =>
       ifb (decide (s4.1<(y3.length:Int)))
       (bnd (idx y3 s4.1) fun y5 =>
        bnd (idx s4.2 s4.1) fun y6 =>
        bnd (c y5) fun y7 =>
        bnd (ZU 56 (y6++[y7])) fun _ =>
        bnd (idx s4.2 s4.1) fun y8 =>
        bnd (eqN s4.1.toNat s4.1.toNat) fun _ =>
        bnd (chk .i64 (s4.1+(1:Int))) fun y9 =>
        some (.inl (y9,s4.2.set s4.1.toNat (y6++[y7]))))
       (some (.inr s4.2)))
      Zq ((0:Int),s2.2)) fun x10 =>
     bnd (chk .i64 (s2.1+(1:Int))) fun y11 =>
     some (.inl (y11,x10)))
    (some (.inr s2.2)))
   Zq ((0:Int),List.replicate y1.toNat ([]:List Rat))) fun x12 =>
  some x12)=some (mx n R fun j i=>M i j):=by
  rw [Z6h M h0,Za,Z9e (by omega) (by omega),Za];refine Z2 (ZRa (fun k=>((k:Int),vx n fun j=>vx k fun i=>M i j)) R ?_ (by omega) (fun k hk=>?_) ?_) rfl
  · simp only [Int.toNat_natCast,ZLf,vx_nil];rfl
  · simp only [Z7a];rw [decide_eq_true (by omega),Zh,Zdb _ hk,Za,ZEa];refine Z2 (y:=vx n fun j=>vx (k+1) fun i=>M i j) (ZRa (fun l=>((l:Int),vx n fun j=>if j<l then vx (k+1) (fun i=>M i j) else vx k (fun i=>M i j))) n ?_ (by omega) (fun l hl=>?_) ?_) ?_
    · refine Prod.ext rfl (Z3 fun j hj=>?_);rw [if_neg (by omega)]
    · simp only;rw [decide_eq_true (by omega),Zh,Zua _ hl,Za,Zua _ hl,Za,hc,Za,if_neg (by omega),ZMm k (fun i=>M i l),ZAb (by rw [ZEa];omega),Za,Za];simp only [Int.toNat_natCast];rw [ZHl,Za,ZA (by omega) (by omega),Za,ZUb];refine congrArg (fun x=>some (Sum.inl x)) (Prod.ext (by simp) (Z3 fun j hj=>?_));by_cases e:j=l
      · rw [if_pos e,if_pos (by omega),e]
      · rw [if_neg e];by_cases e2:j<l
        · rw [if_pos e2,if_pos (by omega)]
        · rw [if_neg e2,if_neg (by omega)]
    · simp only;rw [decide_eq_false (by omega),Zg];exact congrArg (fun x=>some (Sum.inr x)) (Z3 fun j hj=>if_pos hj)
    · rw [ZA (by omega) (by omega),Za];rfl
  · simp only [Z7a];rw [decide_eq_false (by omega),Zg];rfl
noncomputable def ZDi (l:(List Int)) (v:Int):Option (Int) :=
 bnd (bnd (Zl (fun s:Int=>match s with
 | a =>
 (ifb (decide (a<(l.length:Int)))
 (bnd (idx l a) fun b =>
 ifb (v==b)
 (some (.inr ((.inl a))))
 (bnd (chk .i64 (a+(1:Int))) fun c =>
 some (.inl c)))
 (some (.inr ((.inr (()))))))) Zq (0:Int))
 (fun (p:(Int) ⊕ (Unit))=>match p with
 | .inl d =>
 (some ((.inr d)))
 | .inr (()) =>
 (some ((.inl (()))))))
 (fun (p:(Unit) ⊕ (Int))=>match p with
 | .inl (()) =>
 (some (-1:Int))
 | .inr e =>
 (some e))
noncomputable def Zzi (l:(List Int)) (v:Int):Option (Bool) :=
 bnd (ZDi l v) fun a =>
 some (decide ((0:Int)≤a))
noncomputable def ZNg (m:List (List Rat)):Option ((List (List Rat))×Int) :=
 bnd (ZXe m) fun g =>
 ifb (!g)
 (some (([]:List (List Rat)),(4:Int)))
 (bnd (ZWe m) fun c =>
 bnd (Zvd m) fun h =>
 bnd (Zl (σ:=(List (List Rat))×Int) (ρ:=List (List Rat)) (fun a =>
 ifb (decide (a.2<h))
 (bnd (α:=List (List Rat))
 (bnd (Zzi c.2.1 a.2) fun i =>
 ifb i
 (some a.1)
 (bnd (Zvd m) fun j =>
 bnd (ZMb (0:Int)) fun k =>
 bnd (Zqe 56 [k] j) fun d =>
 bnd (ZMb (1:Int)) fun l =>
 bnd (idx d a.2) fun u =>
 bnd (Zl (σ:=Int×(List Rat)) (ρ:=List Rat) (fun b =>
 ifb (decide (b.1<(c.2.1.length:Int)))
 (bnd (idx c.2.1 b.1) fun e =>
 bnd (idx c.1 b.1) fun n =>
 bnd (idx n a.2) fun o =>
 bnd (Zcc o) fun p =>
 bnd (idx b.2 e) fun v =>
 bnd (chk .i64 (b.1+(1:Int))) fun q =>
 some (.inl (q,b.2.set e.toNat p)))
 (some (.inr b.2)))
        Zq ((0:Int),d.set a.2.toNat l)) fun f =>
 bnd (ZU 24 (a.1++[f])) fun _ =>
 some (a.1++[f]))) fun r =>
 bnd (chk .i64 (a.2+(1:Int))) fun s =>
 some (.inl (r,s)))
 (some (.inr a.1)))
   Zq (([]:List (List Rat)),(0:Int))) fun t =>
 some (t,(0:Int)))
theorem ZTs (l:List Nat) (c:Nat) (hl:l.length≤1000):∃ z,ZDi (ZGb l) (c:Int)=some z∧(0≤z↔c ∈ l):=by
 unfold ZDi;rw [ZY];refine ZZl (fun k s=>s=(k:Int)∧∀ i,i<k→l[i]? ≠ some c) (fun r=>(∃ i:Nat,r = .inl (i:Int)∧l[i]? = some c)∨(r = .inr ()∧c ∉ l)) l.length ⟨rfl,fun i hi=>by omega⟩ (by omega) (fun k s hk hs=>?_) (fun r hr=>?_)
 ·obtain ⟨rfl,h⟩:=hs;simp only [ZPe];by_cases hlt:k<l.length
  ·have hc:l[k]? = some l[k]:=List.getElem?_eq_getElem hlt;rw [decide_eq_true (by omega),Zh,ZKk hc,Za];by_cases e:l[k]=c
   ·right;refine ⟨_,by rw [show ((c:Int)==((l[k]:Nat):Int))=true by simp [e],Zh],.inl ⟨k,rfl,by rw [hc,e]⟩⟩
   ·left;refine ⟨((k+1:Nat):Int),hlt,by rw [show ((c:Int)==((l[k]:Nat):Int))=false by simp;omega,Zg,ZA (by omega) (by omega),Za];rfl,rfl,fun i hi=>?_⟩;by_cases e2:i=k
    ·subst e2;rw [hc];exact fun h=>e (Option.some.inj h)
    ·exact h i (by omega)
  ·right;refine ⟨_,by rw [decide_eq_false (by omega),Zg],.inr ⟨rfl,fun hm=>?_⟩⟩;obtain ⟨i,hi⟩:=List.getElem?_of_mem hm;have:=(List.getElem?_eq_some_iff.1 hi).1;exact h i (by omega) hi
 ·rcases hr with ⟨i,rfl,h⟩ | ⟨rfl,h⟩
  ·exact ⟨(i:Int),rfl,⟨fun _=>List.mem_of_getElem? h,fun _=>by omega⟩⟩
  ·exact ⟨-1,rfl,⟨fun h2=>by omega,fun h2=>absurd h2 h⟩⟩
theorem Zfu (l:List Nat) (c:Nat) (hl:l.length≤1000):Zzi (ZGb l) (c:Int)=some (decide (c ∈ l)):=by
 obtain ⟨z,h1,h2⟩:=ZTs l c hl;unfold Zzi;rw [h1,Za];refine congrArg some ?_;rw [Bool.eq_iff_iff];simpa using h2
def ZHa (piv:List Nat) (k:Nat):List Nat:=(List.range k).filter fun j=>decide (j ∉ piv)
theorem Zyu {R n K:Nat} {M:Mx} (h0:R=0→n=0) (hR:R≤32) (hn:n≤32) (hK:1≤K) (hz:CD K R n M) (hk:kk K n≤274877906944) :
  ∃ M' piv,Eli R n M M' piv n∧CD (kk K n) R n M'∧ZNg (mx R n M)=some ((ZHa piv n).map (fun j=>vx n (kv M' piv j)),0):=by
 obtain ⟨z,h1,M',piv,d,rfl,h2,h3⟩:=ZLn h0 (by omega) (by omega) hK hz hk;refine ⟨M',piv,h2,h3,?_⟩;have pl:=Z2h h2.inc h2.lt;have pR:=h2.le;unfold ZNg;rw [ZFi M h0 hR hn,Za,show (!true)=false from rfl,Zg,h1,Za,Z6h M h0,Za];refine Z2 (ZRa (fun k=>((ZHa piv k).map (fun j=>vx n (kv M' piv j)),(k:Int))) n rfl (by omega) (fun k hkn=>?_) ?_) rfl
 ·simp only;rw [decide_eq_true (by omega),Zh];refine Z2 (y:=(ZHa piv (k+1)).map (fun j=>vx n (kv M' piv j))) ?_ ?_
  ·rw [Zfu _ _ (by omega),Za];have ef:ZHa piv (k+1)=ZHa piv k++if k ∈ piv then [] else [k]:=by
    unfold ZHa;rw [List.range_succ,List.filter_append];by_cases e:k ∈ piv <;> simp [e]
   by_cases hm:k ∈ piv
   ·rw [decide_eq_true hm,Zh,ef,if_pos hm,List.append_nil]
   ·rw [decide_eq_false hm,Zg,Za,Zuh,Za,Zxr (by omega) (by omega),Za,Zuh,Za,Zua _ hkn,Za];simp only [Int.toNat_natCast];refine Z2 (y:=vx n (kv M' piv k)) (ZRa (fun i=>((i:Int),vx n fun d=>if d=k then 1 else match piv.idxOf? d with
     | some q=>if q<i then-M' q k else 0
     | none=>0)) piv.length ?_ (by omega) (fun i hip=>?_) ?_) ?_
    ·rw [ZUb];refine Prod.ext rfl (Z3 fun d hd=>?_);by_cases e:d=k
     ·rw [if_pos e,if_pos e];rfl
     ·rw [if_neg e,if_neg e];split
      ·rw [if_neg (by omega)];rfl
      ·rfl
    ·have hc:piv[i]? = some piv[i]:=List.getElem?_eq_getElem hip;have hcn:piv[i]<n:=h2.lt _ (List.mem_of_getElem? hc);simp only [ZPe];rw [decide_eq_true (by omega),Zh,ZKk hc,Za,Zdb _ (by omega),Za,Zua _ hkn,Za];unfold Zcc;rw [Za,Zua _ hcn,Za,ZA (by omega) (by omega),Za];simp only [Int.toNat_natCast];rw [ZUb];refine congrArg (fun x=>some (Sum.inl x)) (Prod.ext (by simp) (Z3 fun d hd=>?_));by_cases e:d=piv[i]
     ·have hne:d≠k:=fun e2=>hm (by rw [← e2,e];exact List.mem_of_getElem? hc);rw [if_pos e,if_neg hne,e,ZSl h2.inc hc];simp
     ·rw [if_neg e];by_cases e1:d=k
      ·rw [if_pos e1,if_pos e1]
      ·rw [if_neg e1,if_neg e1]
       cases hx:piv.idxOf? d with
       | none=>rfl
       | some q =>
        have:q≠i:=fun e2=>by
         subst e2;unfold List.idxOf? at hx;obtain ⟨_,h6,_⟩:=List.findIdx?_eq_some_iff_getElem.1 hx;simp at h6;exact e h6.symm
        simp only;by_cases e3:q<i
        ·rw [if_pos e3,if_pos (by omega)]
        ·rw [if_neg e3,if_neg (by omega)]
    ·simp only [ZPe];rw [decide_eq_false (by omega),Zg];refine congrArg (fun x=>some (Sum.inr x)) (Z3 fun d hd=>?_);unfold kv;by_cases e:d=k
     ·rw [if_pos e,if_pos e]
     ·rw [if_neg e,if_neg e]
      cases hx:piv.idxOf? d with
      | none=>rfl
      | some q =>
       unfold List.idxOf? at hx;obtain ⟨h5,_⟩:=List.findIdx?_eq_some_iff_getElem.1 hx;simp only;rw [if_pos h5]
    ·have e4:(ZHa piv k).map (fun j=>vx n (kv M' piv j))++[vx n (kv M' piv k)]=(ZHa piv (k+1)).map (fun j=>vx n (kv M' piv j)):=by rw [ef,if_neg hm,List.map_append];rfl
     rw [e4];have hfl:(ZHa piv (k+1)).length≤k+1:=by
      unfold ZHa;have:=List.length_filter_le (fun j=>decide (j ∉ piv)) (List.range (k+1))
      rwa [List.length_range] at this
     rw [ZAb (by rw [List.length_map];omega),Za]
  ·rw [ZA (by omega) (by omega),Za];rfl
 ·simp only;rw [decide_eq_false (by omega),Zg]
theorem kv_sz {K R n:Nat} {M':Mx} {piv:List Nat} (hC:CD K R n M') (hK:1≤K) (hpl:piv.length≤R) {j:Nat} (hj:j<n) (d:Nat):sz K (kv M' piv j d):=by
 unfold kv;split
 ·exact Ziq.mono hK
 ·cases hx:piv.idxOf? d with
  | none=>exact Zdj.mono hK
  | some q =>
   unfold List.idxOf? at hx;obtain ⟨h5,_⟩:=List.findIdx?_eq_some_iff_getElem.1 hx;exact Z1r (hC.sz (by omega) hj)
def ind (p j:Nat):Rat:=if j=p then 1 else 0
theorem ZTn {n p:Nat} (h:p<n) (v:Nat→Rat):sm n (fun j=>ind p j*v j)=v p:=by
 rw [Zhe h fun j hj hne=>by unfold ind;rw [if_neg hne];grind];unfold ind;rw [if_pos rfl];grind
theorem ZNu (R n:Nat) (M0:Mx):∀ k,k≤n→∃ M piv,Eli R n M0 M piv k:=by
 intro k
 induction k with
 | zero=>exact fun _=>⟨M0,[],Eli.start R n M0⟩
 | succ k ih =>
  intro hk;obtain ⟨M,piv,h⟩:=ih (by omega);by_cases hp:∃ p,piv.length≤p∧p<R∧M p k≠0
  ·obtain ⟨p,h1,h2,h3⟩:=hp;exact ⟨_,_,h.step (Zln h1 h2 hk h3)⟩
  ·exact ⟨M,piv,h.skip fun i h1 h2=>Classical.byContradiction fun e=>hp ⟨i,h1,h2,e⟩⟩
theorem rank_le {R Q n:Nat} {N N' M:Mx} {piv:List Nat} (h:Eli R n N N' piv n) (hk:∀ v,Ker Q n M v→Ker R n N v):piv.length≤Q:=by
 refine Classical.byContradiction fun hc=>?_
 let P:Nat→Nat:=fun a=>piv.getD a 0
 have hP:∀ a,a<piv.length→piv[a]? = some (P a):=fun a ha=>by
  show piv[a]? = some (piv.getD a 0);rw [List.getD_eq_getElem?_getD,List.getElem?_eq_getElem ha];rfl
 have hPn:∀ a,a<piv.length→P a<n:=fun a ha=>h.lt _ (List.mem_of_getElem? (hP a ha));obtain ⟨G,pv',hG⟩:=ZNu Q piv.length (fun i a=>M i (P a)) piv.length (Nat.le_refl _);obtain ⟨u,a,ha,hu,hku⟩:=hG.more (by have:=hG.le;omega)
 let v:Nat→Rat:=fun j=>sm piv.length fun b=>ind (P b) j*u b
 have hv:Ker Q n M v:=fun i hi=>by
  rw [Z5b (g:=fun j=>sm piv.length fun b=>M i j*(ind (P b) j*u b)) fun j hj=>by rw [ZDd],ZSm];rw [Z5b (g:=fun b=>M i (P b)*u b) fun b hb=>?_]
  ·exact hku i hi
  ·rw [Z5b (g:=fun j=>u b*(ind (P b) j*M i j)) fun j hj=>by grind,ZDd,ZTn (hPn b hb)];grind
 have hva:v (P a)=u a:=by
  show sm piv.length (fun b=>ind (P b) (P a)*u b)=u a;rw [Zhe ha fun b hb hne=>?_]
  ·unfold ind;rw [if_pos rfl];grind
  ·unfold ind;rw [if_neg fun e=>hne (Z8m h.inc (hP b hb) (by rw [← e];exact hP a ha))];grind
 have hoff:∀ j,j ∉ piv→v j=0:=fun j hj=>Zwd fun b hb=>by
  unfold ind;rw [if_neg fun e=>hj (by rw [e];exact List.mem_of_getElem? (hP b hb))];grind
 have h1:=(h.ker_iff v).1 (hk v hv) a (P a) (hP a ha);rw [Zwd fun j hj=>by
  split
  ·rfl
  ·rename_i e;rw [hoff j e];grind,hva] at h1
 exact hu (by grind)
theorem Zjp:∀ {l l':List Nat},l.Pairwise (· < ·)→l'.Pairwise (· < ·)→(∀ c,c ∈ l↔c ∈ l')→l=l'
 | [],[],_,_,_=>rfl
 | [],b :: l',_,_,h=>by have:=(h b).2 (by simp);simp at this
 | a :: l,[],_,_,h=>by have:=(h a).1 (by simp);simp at this
 | a :: l,b :: l',h1,h2,h=>by
  have p1:=List.pairwise_cons.1 h1
  have p2:=List.pairwise_cons.1 h2
  have e:a=b:=by
   rcases List.mem_cons.1 ((h a).1 (by simp)) with e | e
   ·exact e
   ·rcases List.mem_cons.1 ((h b).2 (by simp)) with e' | e'
    ·exact e'.symm
    ·have:=p2.1 a e;have:=p1.1 b e';omega
  subst e;rw [Zjp p1.2 p2.2 fun c=>?_];constructor
  ·intro hc;rcases List.mem_cons.1 ((h c).1 (by simp [hc])) with e | e
   ·subst e;have:=p1.1 c hc;omega
   ·exact e
  ·intro hc;rcases List.mem_cons.1 ((h c).2 (by simp [hc])) with e | e
   ·subst e;have:=p2.1 c hc;omega
   ·exact e
section
variable {R n:Nat} {M0 M N0 N:Mx} {piv piv':List Nat}
theorem Eli.mem_iff (h:Eli R n M0 M piv n) {c:Nat} (hc:c<n):c ∉ piv ↔ ∃ v,Ker R n M0 v∧v c=1∧∀ d,c<d→d<n→v d=0:=by
 constructor
 ·intro hp;refine ⟨kv M piv c,h.kv_ker hc hp,Zwi,fun d hd hdn=>?_⟩;by_cases hm:d ∈ piv
  ·obtain ⟨i,hi⟩:=List.mem_iff_getElem?.1 hm;rw [ZUj h.inc hp hi,h.left i d hi c hd];grind
  ·exact Z1i hm (by omega)
 ·rintro ⟨v,hv,h1,h2⟩ hm;obtain ⟨i,hi⟩:=List.mem_iff_getElem?.1 hm;have h3:=(h.ker_iff v).1 hv i c hi;rw [Zwd fun j hj=>by
   split
   ·rfl
   ·rename_i e;by_cases hjc:j<c
    ·rw [h.left i c hi j hjc];grind
    ·rw [h2 j (by
      rcases Nat.lt_or_ge c j with q | q
      ·exact q
      ·have:j=c:=by omega
       subst this;exact absurd hm e) hj];grind] at h3
  rw [h1] at h3;grind
theorem Eli.piv_eq (h:Eli R n M0 M piv n) (h':Eli R n N0 N piv' n) (hk:∀ v,Ker R n M0 v↔Ker R n N0 v):piv=piv':=by
 refine Zjp h.inc h'.inc fun c=>?_;have key:c<n→(c ∉ piv↔c ∉ piv'):=fun hc=>by
  rw [h.mem_iff hc,h'.mem_iff hc];exact exists_congr fun v=>by rw [hk v]
 constructor
 ·intro hm;exact Classical.byContradiction fun e=>(key (h.lt c hm)).2 e hm
 ·intro hm;exact Classical.byContradiction fun e=>(key (h'.lt c hm)).1 e hm
theorem Eli.unique (h:Eli R n M0 M piv n) (h':Eli R n N0 N piv' n) (hk:∀ v,Ker R n M0 v↔Ker R n N0 v):∀ i,i<R→∀ j,j<n→N i j=M i j:=by
 have hp:=h.piv_eq h' hk;subst hp;intro i hi j hj;by_cases hl:i<piv.length
 ·have hc:piv[i]? = some piv[i]:=List.getElem?_eq_getElem hl;by_cases hm:j ∈ piv
  ·obtain ⟨i2,hi2⟩:=List.mem_iff_getElem?.1 hm;rw [h.one i2 j hi2 i hi,h'.one i2 j hi2 i hi]
  ·have h1:=(h'.ker_iff _).1 ((hk _).1 (h.kv_ker hj hm)) i _ hc;rw [ZUj h.inc hm hc,Zhe hj fun d hd hne=>by
    split
    ·rfl
    ·rename_i e;rw [Z1i e hne];grind] at h1
   rw [if_neg hm,Zwi] at h1;grind
 ·rw [h.low i (by omega) hi j hj,h'.low i (by omega) hi j hj]
theorem Eli.idem (h:Eli R n M0 M piv n) (h':Eli R n M N piv' n):∀ i,i<R→∀ j,j<n→N i j=M i j:=h.unique h' fun v=>(h.ker v).symm
theorem Eli.rank_eq (h:Eli R n M0 M piv n) (h':Eli R n M0 N piv' n):piv'.length=piv.length:=by rw [h.piv_eq h' fun v=>Iff.rfl]
theorem kv_sum (h:Eli R n M0 M piv n) {j:Nat} (hj:j ∉ piv) (d:Nat):kv M piv j d=ind j d-sm piv.length fun k=>ind (piv.getD k 0) d*M k j:=by
 have hP:∀ a,a<piv.length→piv[a]? = some (piv.getD a 0):=fun a ha=>by
  rw [List.getD_eq_getElem?_getD,List.getElem?_eq_getElem ha];rfl
 by_cases hd:d ∈ piv
 ·obtain ⟨i,hi⟩:=List.mem_iff_getElem?.1 hd;have hil:i<piv.length:=(List.getElem?_eq_some_iff.1 hi).1;have hid:piv.getD i 0=d:=by have:=hP i hil;rw [hi] at this;exact (Option.some.inj this).symm
  rw [ZUj h.inc hj hi,Zhe hil fun k hk hne=>by
   unfold ind;rw [if_neg fun e=>hne (Z8m h.inc (hP k hk) (by rw [← e];exact hi))];grind]
  unfold ind;rw [hid,if_pos rfl,if_neg (fun e=>hj (by rw [← e];exact hd))];grind
 ·rw [Zwd fun k hk=>by
   unfold ind;rw [if_neg fun e=>hd (by rw [e];exact List.mem_of_getElem? (hP k hk))];grind]
  unfold ind;by_cases e:d=j
  ·subst e;rw [if_pos rfl,Zwi];grind
  ·rw [if_neg e,Z1i hd e];grind
theorem Eli.factor (h:Eli R n M0 M piv n) {i j:Nat} (hi:i<R) (hj:j<n):M0 i j=sm piv.length fun k=>M0 i (piv.getD k 0)*M k j:=by
 have hP:∀ a,a<piv.length→piv[a]? = some (piv.getD a 0):=fun a ha=>by
  rw [List.getD_eq_getElem?_getD,List.getElem?_eq_getElem ha];rfl
 by_cases hm:j ∈ piv
 ·obtain ⟨k0,hk0⟩:=List.mem_iff_getElem?.1 hm;have hkl:k0<piv.length:=(List.getElem?_eq_some_iff.1 hk0).1;have hid:piv.getD k0 0=j:=by have:=hP k0 hkl;rw [hk0] at this;exact (Option.some.inj this).symm
  have hle:=h.le;rw [Zhe hkl fun k hk hne=>by rw [h.one k0 j hk0 k (by omega),if_neg hne];grind,h.one k0 j hk0 k0 (by omega),if_pos rfl,hid];grind
 ·have h1:=h.kv_ker hj hm i hi;rw [Z5b (g:=fun d=>ind j d*M0 i d-sm piv.length fun k=>M0 i d*(ind (piv.getD k 0) d*M k j)) fun d hd=>by
   rw [kv_sum h hm d,ZDd];grind,Z1n,ZTn hj,ZSm] at h1
  rw [Z5b (g:=fun k=>M0 i (piv.getD k 0)*M k j) (f:=fun k=>sm n fun d=>M0 i d*(ind (piv.getD k 0) d*M k j)) fun k hk=>by
   rw [Z5b (g:=fun d=>M k j*(ind (piv.getD k 0) d*M0 i d)) fun d hd=>by grind,ZDd,ZTn (h.lt _ (List.mem_of_getElem? (hP k hk)))];grind] at h1
  grind
theorem Eli.turned_le (h:Eli R n M0 M piv n) (h':Eli n R (fun j i=>M0 i j) N piv' R):piv'.length≤piv.length:=by
 refine rank_le (Q:=piv.length) (M:=fun k i=>M0 i (piv.getD k 0)) h' fun v hv j hj=>?_;rw [Z5b (g:=fun i=>sm piv.length fun k=>M k j*(M0 i (piv.getD k 0)*v i)) fun i hi=>by
  show M0 i j*v i=_;rw [h.factor hi hj,Rat.mul_comm,← ZDd];exact Z5b fun k hk=>by grind,ZSm]
 refine Zwd fun k hk=>?_;rw [ZDd,hv k hk];grind
theorem Eli.turned_eq (h:Eli R n M0 M piv n) (h':Eli n R (fun j i=>M0 i j) N piv' R):piv'.length=piv.length :=
 Nat.le_antisymm (h.turned_le h') (h'.turned_le (N:=M) h)
end
theorem ZWq {piv:List Nat} (hi:piv.Pairwise (· < ·)):∀ {n:Nat},(ZHa piv n).length+(piv.filter fun c=>decide (c<n)).length=n
 | 0=>by simp [ZHa]
 | n+1=>by
  have ih:=ZWq hi (n:=n)
  have e1:ZHa piv (n+1)=ZHa piv n++(if n ∈ piv then [] else [n]):=by
   unfold ZHa;rw [List.range_succ,List.filter_append];by_cases h:n ∈ piv <;> simp [h]
  have e2:(piv.filter fun c=>decide (c<n+1)).length=(piv.filter fun c=>decide (c<n)).length+(if n ∈ piv then 1 else 0):=by
   clear ih e1
   induction piv with
   | nil=>simp
   | cons a l ih =>
    obtain ⟨p1,p2⟩:=List.pairwise_cons.1 hi;have ih:=ih p2;by_cases ha:a=n
    ·subst ha;have hn:a ∉ l:=fun hm=>by have:=p1 a hm;omega
     rw [if_neg hn] at ih;simp [ih]
    ·by_cases hl:a<n
     ·have:(n ∈ a :: l)↔n ∈ l:=by simp;omega
      simp only [List.filter_cons,hl,show a<n+1 by omega,decide_true,if_true,List.length_cons,ih,this];omega
     ·have:(n ∈ a :: l)↔n ∈ l:=by simp;omega
      simp only [List.filter_cons,hl,show ¬ a<n+1 by omega,decide_false,Bool.false_eq_true,if_false,ih,this]
  rw [e1,e2,List.length_append];by_cases h:n ∈ piv
  ·simp only [h,if_true,List.length_nil];omega
  ·simp only [h,if_false,List.length_cons,List.length_nil];omega
theorem Z5s {piv:List Nat} {n:Nat} (hi:piv.Pairwise (· < ·)) (hn:∀ c,c ∈ piv→c<n):(ZHa piv n).length+piv.length=n:=by
 have:=ZWq hi (n:=n)
 rwa [List.filter_eq_self.2 fun c hc=>decide_eq_true (hn c hc)] at this
noncomputable def ZGg (x:Rat):Option (Rat×Rat×Rat×Rat) :=
 bnd (Z6b (0:Int)) fun a =>
 bnd (Z6b (0:Int)) fun b =>
 bnd (Z6b (0:Int)) fun c =>
 some (x,a,b,c)
noncomputable def Z6g (x:Rat):Option ((Rat×Rat×Rat×Rat)×Rat×Rat×Rat×Rat) :=
 bnd (ZGg x) fun a =>
 bnd (Z6b (0:Int)) fun b =>
 bnd (ZGg b) fun c =>
 some (a,c)
noncomputable def ZDe (l:List (Int×Int)):Option ((List Rat)×(List ((Rat×Rat×Rat×Rat)×Rat×Rat×Rat×Rat))) :=
 bnd (Zl (σ:=(List Rat)×(List ((Rat×Rat×Rat×Rat)×Rat×Rat×Rat×Rat))×Int) (ρ:=(List Rat)×(List ((Rat×Rat×Rat×Rat)×Rat×Rat×Rat×Rat))) (fun a =>
 ifb (decide (a.2.2<(l.length:Int)))
 (bnd (idx l a.2.2) fun b =>
 bnd (ZOh b) fun c =>
 bnd (ZU 56 (a.1++[c])) fun _ =>
 bnd (rofF b) fun f =>
 bnd (Z6g f) fun d =>
 bnd (ZU 448 (a.2.1++[d])) fun _ =>
 bnd (chk .i64 (a.2.2+(1:Int))) fun g =>
 some (.inl (a.1++[c],a.2.1++[d],g)))
 (some (.inr (a.1,a.2.1))))
  Zq (([]:List Rat),([]:List ((Rat×Rat×Rat×Rat)×Rat×Rat×Rat×Rat)),(0:Int))) fun e =>
 some (e.1,e.2)
noncomputable def Zve (m:List (List (Int×Int))):Option ((List (List Rat))×(List (List ((Rat×Rat×Rat×Rat)×Rat×Rat×Rat×Rat)))) :=
 bnd (mk 24 (m.length:Int) (m.length:Int)) fun _ =>
 bnd (mk 24 (m.length:Int) (m.length:Int)) fun _ =>
 bnd (Zl (σ:=Int×(List (List Rat))×(List (List ((Rat×Rat×Rat×Rat)×Rat×Rat×Rat×Rat)))) (ρ:=(List (List Rat))×(List (List ((Rat×Rat×Rat×Rat)×Rat×Rat×Rat×Rat)))) (fun a =>
 ifb (decide (a.1<(m.length:Int)))
 (bnd (idx m a.1) fun d =>
 bnd (ZDe d) fun b =>
 bnd (idx a.2.1 a.1) fun f =>
 bnd (idx a.2.2 a.1) fun g =>
 bnd (chk .i64 (a.1+(1:Int))) fun e =>
 some (.inl (e,a.2.1.set a.1.toNat b.1,a.2.2.set a.1.toNat b.2)))
 (some (.inr (a.2.1,a.2.2))))
  Zq ((0:Int),List.replicate (m.length:Int).toNat ([]:List Rat),List.replicate (m.length:Int).toNat ([]:List ((Rat×Rat×Rat×Rat)×Rat×Rat×Rat×Rat)))) fun c =>
 some (c.1,c.2)
noncomputable def Zqh (m:List (List (Int×Int))) (n:Int):Option Bool :=
 bnd (Zl (σ:=Int) (ρ:=Unit ⊕ Bool) (fun a =>
 ifb (decide (a<(m.length:Int)))
 (bnd (idx m a) fun b =>
 ifb ((b.length:Int) != n)
 (some (.inr (.inr false)))
 (bnd (chk .i64 (a+(1:Int))) fun c =>
 some (.inl c)))
 (some (.inr (.inl ()))))
  Zq (0:Int)) fun d =>
 match d with
 | .inl f=>(some (decide ((0:Int)<(m.length:Int))))
 | .inr e=>(some e)
noncomputable def ZBh (x:List Rat) (y:List Rat):Option Rat :=
 bnd (Zl (σ:=Int×Rat) (ρ:=Rat) (fun a =>
 ifb (decide (a.1<(x.length:Int)))
 (bnd (idx x a.1) fun b =>
 bnd (idx y a.1) fun c =>
 bnd (Zcb b c) fun d =>
 bnd (Z4c a.2 d) fun e =>
 bnd (chk .i64 (a.1+(1:Int))) fun f =>
 some (.inl (f,e)))
 (some (.inr a.2)))
  Zq ((0:Int),(0:Rat))) fun g =>
 some g
noncomputable def Z3f (m:List (List Rat)) (x:List Rat):Option (List Rat) :=
 bnd (mk 56 (m.length:Int) (m.length:Int)) fun _ =>
 bnd (Zl (σ:=Int×(List Rat)) (ρ:=List Rat) (fun a =>
 ifb (decide (a.1<(m.length:Int)))
 (bnd (idx m a.1) fun b =>
 bnd (ZBh b x) fun c =>
 bnd (idx a.2 a.1) fun f =>
 bnd (chk .i64 (a.1+(1:Int))) fun d =>
 some (.inl (d,a.2.set a.1.toNat c)))
 (some (.inr a.2)))
  Zq ((0:Int),List.replicate (m.length:Int).toNat (0:Rat))) fun e =>
 some e
noncomputable def ZAf (x:List Rat) (y:List Rat):Option Bool :=
 ifb ((x.length:Int) != (y.length:Int))
 (some false)
 (bnd (Zl (σ:=Int) (ρ:=Unit ⊕ Bool) (fun a =>
 ifb (decide (a<(x.length:Int)))
 (bnd (idx x a) fun b =>
 bnd (idx y a) fun c =>
 bnd (Zsf b c) fun d =>
 ifb (!d)
 (some (.inr (.inr false)))
 (bnd (chk .i64 (a+(1:Int))) fun e =>
 some (.inl e)))
 (some (.inr (.inl ()))))
   Zq (0:Int)) fun f =>
  match f with
 | .inl h=>(some true)
 | .inr g=>(some g))
noncomputable def Zei (x:List (List Rat)) (y:List (List Rat)):Option Bool :=
 ifb ((x.length:Int) != (y.length:Int))
 (some false)
 (bnd (Zl (σ:=Int) (ρ:=Unit ⊕ Bool) (fun a =>
 ifb (decide (a<(x.length:Int)))
 (bnd (idx x a) fun b =>
 bnd (idx y a) fun c =>
 bnd (ZAf b c) fun d =>
 ifb (!d)
 (some (.inr (.inr false)))
 (bnd (chk .i64 (a+(1:Int))) fun e =>
 some (.inl e)))
 (some (.inr (.inl ()))))
   Zq (0:Int)) fun f =>
  match f with
 | .inl h=>(some true)
 | .inr g=>(some g))
noncomputable def Zci (m:List (List Rat)):Option ((List (List Rat))×Int) :=
 bnd (ZXe m) fun g =>
 ifb (!g)
 (some (([]:List (List Rat)),(4:Int)))
 (bnd (α:=List (List Rat))
 (bnd (Zvd m) fun c =>
 bnd (mk 24 c c) fun _ =>
 bnd (Zl (σ:=Int×(List (List Rat))) (ρ:=List (List Rat)) (fun b =>
 ifb (decide (b.1<(m.length:Int)))
 (bnd (idx m b.1) fun d =>
 bnd (Zl (σ:=Int×(List (List Rat))) (ρ:=List (List Rat)) (fun a =>
 ifb (decide (a.1<(d.length:Int)))
 (bnd (idx d a.1) fun h =>
 bnd (idx a.2 a.1) fun e =>
 bnd (ZOi h) fun f =>
 bnd (ZU 56 (e++[f])) fun _ =>
 bnd (idx a.2 a.1) fun o =>
 bnd (eqN a.1.toNat a.1.toNat) fun _ =>
 bnd (chk .i64 (a.1+(1:Int))) fun i =>
 some (.inl (i,a.2.set a.1.toNat (e++[f]))))
 (some (.inr a.2)))
       Zq ((0:Int),b.2)) fun j =>
 bnd (chk .i64 (b.1+(1:Int))) fun k =>
 some (.inl (k,j)))
 (some (.inr b.2)))
    Zq ((0:Int),List.replicate c.toNat ([]:List Rat))) fun l =>
 some l) fun n =>
 some (n,(0:Int)))
set_option maxRecDepth 100000
abbrev SR:=Rat×Rat×Rat×Rat
abbrev WR:=(Rat×Rat×Rat×Rat)×Rat×Rat×Rat×Rat
def wq (q:Rat):WR:=((q,0,0,0),0,0,0,0)
theorem Zjx (q:Rat):Z6g q=some (wq q):=by
 unfold Z6g ZGg Z6b;rfl
theorem ZUf {α β:Type} (d:α) (f:α→β) (l:List α):l.map f=vx l.length fun i=>f (l.getD i d):=by
 apply List.ext_getElem?;intro i;by_cases hi:i<l.length
 ·rw [Zyg _ hi];simp [List.getD_eq_getElem?_getD,hi]
 ·rw [List.getElem?_eq_none (by simpa using hi),List.getElem?_eq_none (by rw [ZEa];omega)]
theorem ZOq (l:List (Int×Int)) (hl:l.length≤1000):ZDe l=some (l.map Zga,l.map fun r=>wq (Zga r)):=by
 unfold ZDe ZOh rofF;rw [ZUf (0,0) Zga,ZUf (0,0) fun r=>wq (Zga r)];have e:∀ {α:Type} (f:Int×Int→α) (k:Nat) (hk:k<l.length),vx k (fun i=>f (l.getD i (0,0)))++[f l[k]]=vx (k+1) fun i=>f (l.getD i (0,0)):=fun f k hk=>by
  rw [← ZMm];simp [List.getD_eq_getElem?_getD,hk]
 refine Z2 (y:=(vx l.length fun i=>Zga (l.getD i (0,0)),vx l.length fun i=>wq (Zga (l.getD i (0,0))))) (ZRa (fun k=>(vx k (fun i=>Zga (l.getD i (0,0))),vx k (fun i=>wq (Zga (l.getD i (0,0)))),(k:Int))) l.length rfl (by omega) (fun k hk=>?_) ?_) rfl
 ·simp only;rw [decide_eq_true (by omega),Zh,ZC hk,Za,Za,e Zga k hk,ZAb (by rw [ZEa];omega),Za,Za,Zjx,Za,e (fun r=>wq (Zga r)) k hk,ZAb (by rw [ZEa];omega),Za,ZA (by omega) (by omega),Za];rfl
 ·simp only;rw [decide_eq_false (by omega),Zg]
theorem ZSw (m:List (List (Int×Int))) (hm:m.length≤1000) (hr:∀ r,r ∈ m→r.length≤1000):Zve m=some (m.map (·.map Zga),m.map (·.map fun r=>wq (Zga r))):=by
 unfold Zve;rw [Z9e (by omega) (by omega),Za,Za,ZUf [] (·.map Zga) m,ZUf [] (·.map fun r=>wq (Zga r)) m];refine Z2 (y:=(vx m.length fun i=>(m.getD i []).map Zga,vx m.length fun i=>(m.getD i []).map fun r=>wq (Zga r))) (ZRa (fun k=>((k:Int),vx m.length (fun i=>if i<k then (m.getD i []).map Zga else []),vx m.length fun i=>if i<k then (m.getD i []).map (fun r=>wq (Zga r)) else [])) m.length ?_ (by omega) (fun k hk=>?_) ?_) rfl
 ·simp only [Int.toNat_natCast,ZLf];exact Prod.ext rfl (Prod.ext (Z3 fun i hi=>if_neg (by omega)) (Z3 fun i hi=>if_neg (by omega)))
 ·simp only;have hk':m.getD k []=m[k]:=by simp [List.getD_eq_getElem?_getD,hk]
  rw [decide_eq_true (by omega),Zh,ZC hk,Za,ZOq _ (hr _ (List.getElem_mem hk)),Za,Zua _ hk,Za,Zua _ hk,Za,ZA (by omega) (by omega),Za];simp only [Int.toNat_natCast,ZUb];refine congrArg (fun x=>some (Sum.inl x)) (Prod.ext (by simp) (Prod.ext (Z3 fun i hi=>?_) (Z3 fun i hi=>?_)))
  ·by_cases e:i=k
   ·rw [if_pos e,if_pos (by omega),e,hk']
   ·rw [if_neg e];by_cases e2:i<k
    ·rw [if_pos e2,if_pos (by omega)]
    ·rw [if_neg e2,if_neg (by omega)]
  ·by_cases e:i=k
   ·rw [if_pos e,if_pos (by omega),e,hk']
   ·rw [if_neg e];by_cases e2:i<k
    ·rw [if_pos e2,if_pos (by omega)]
    ·rw [if_neg e2,if_neg (by omega)]
 ·simp only;rw [decide_eq_false (by omega),Zg];exact congrArg (fun x=>some (Sum.inr x)) (Prod.ext (Z3 fun i hi=>if_pos hi) (Z3 fun i hi=>if_pos hi))
def rt (m:List (List (Int×Int))):Mx:=fun i j=>Zga ((m.getD i []).getD j (0,0))
def rv (l:List (Int×Int)):Nat→Rat:=fun j=>Zga (l.getD j (0,0))
theorem list_vx (l:List (Int×Int)):l.map Zga=vx l.length (rv l):=ZUf (0,0) Zga l
theorem rows_mx {m:List (List (Int×Int))} {n:Nat} (h:∀ r,r ∈ m→r.length=n):m.map (·.map Zga)=mx m.length n (rt m):=by
 rw [ZUf []];refine Z3 fun i hi=>?_;rw [ZUf (0,0) Zga];have hk':m.getD i []=m[i]:=by simp [List.getD_eq_getElem?_getD,hi]
 rw [hk',h _ (List.getElem_mem hi),← hk'];rfl
theorem Zbw (m:List (List (Int×Int))) (n:Nat) (hm:m.length≤1000):Zqh m (n:Int)=some (decide ((∀ r,r ∈ m→r.length=n)∧0<m.length)):=by
 unfold Zqh;by_cases h:∀ r,r ∈ m→r.length=n
 ·refine Z2 (y:=.inl ()) (ZRa (fun k=>(k:Int)) m.length rfl (by omega) (fun k hk=>?_) ?_) ?_
  ·rw [decide_eq_true (by omega),Zh,ZC hk,Za,h _ (List.getElem_mem hk),show ((n:Int) != (n:Int))=false by simp,Zg,ZA (by omega) (by omega),Za];rfl
  ·rw [decide_eq_false (by omega),Zg]
  ·show some (decide ((0:Int)<(m.length:Int)))=_;by_cases h3:0<m.length
   ·rw [decide_eq_true (by omega),decide_eq_true ⟨h,h3⟩]
   ·rw [decide_eq_false (by omega),decide_eq_false (fun hc=>h3 hc.2)]
 ·obtain ⟨k,hk,h1,h2⟩:∃ k,∃ hk:k<m.length,m[k].length≠n∧∀ i,(hi:i<k)→(m[i]'(by omega)).length=n:=by
   have:∀ q,q≤m.length→(∀ i,(hi:i<m.length)→i<q→m[i].length=n) ∨ ∃ k,∃ hk:k<m.length,m[k].length≠n∧∀ i,(hi:i<k)→(m[i]'(by omega)).length=n:=by
    intro q
    induction q with
    | zero=>intro _;exact .inl fun i hi h=>by omega
    | succ q ih =>
     intro hq;rcases ih (by omega) with h1 | h1
     ·by_cases e:(m[q]'(by omega)).length=n
      ·exact .inl fun i hi hlt=>by
        by_cases e2:i=q
        ·subst e2;exact e
        ·exact h1 i hi (by omega)
      ·exact .inr ⟨q,by omega,e,fun i hi=>h1 i (by omega) hi⟩
     ·exact .inr h1
   rcases this m.length (Nat.le_refl _) with h1 | h1
   ·refine absurd (fun r hr=>?_) h;obtain ⟨i,hi,rfl⟩:=List.getElem_of_mem hr;exact h1 i hi hi
   ·exact h1
  refine Z2 (y:=.inr false) (ZRa (fun k=>(k:Int)) k rfl (by omega) (fun i hi=>?_) ?_) ?_
  ·rw [decide_eq_true (by omega),Zh,ZC (show i<m.length by omega),Za,h2 i hi,show ((n:Int) != (n:Int))=false by simp,Zg,ZA (by omega) (by omega),Za];rfl
  ·rw [decide_eq_true (by omega),Zh,ZC hk,Za,show ((m[k].length:Int) != (n:Int))=true by simp;omega,Zh]
  ·show some false=_;rw [decide_eq_false (p:=(∀ r,r ∈ m→r.length=n)∧0<m.length) (fun hc=>h hc.1)]
theorem dot2_ok {k m n:Nat} {f g:Nat→Rat} (hf:∀ j,j<n→sz k (f j)) (hg:∀ j,j<n→sz m (g j)) (hn:n≤1000) (hk:(n+1)*(k+m+1)≤1099511627776):ZBh (vx n f) (vx n g)=some (sm n fun j=>f j*g j):=by
 unfold ZBh;rw [ZEa];refine Z2 (ZRa (fun q=>((q:Int),sm q fun j=>f j*g j)) n rfl (by omega) (fun q hq=>?_) ?_) rfl
 ·have z1:=ZIh (hf q hq) (hg q hq);have z2:sz (q*(k+m+1)+1) (sm q fun j=>f j*g j):=sm_sz fun j hj=>ZIh (hf j (by omega)) (hg j (by omega));have z3:q*(k+m+1)≤n*(k+m+1):=Nat.mul_le_mul_right _ (by omega);rw [Nat.succ_mul] at hk;simp only;rw [decide_eq_true (by omega),Zh,Zua _ hq,Za,Zua _ hq,Za,qmulB (hf q hq) (hg q hq) (by omega) (by omega),Za,qaddB z2 z1 (by omega) (by omega),Za,ZA (by omega) (by omega),Za];rfl
 ·simp only;rw [decide_eq_false (by omega),Zg]
theorem Zbn {k m R n:Nat} {M:Mx} {x:Nat→Rat} (hM:∀ i j,i<R→j<n→sz k (M i j)) (hx:∀ j,j<n→sz m (x j)) (hR:R≤1000) (hn:n≤1000) (hk:(n+1)*(k+m+1)≤1099511627776) :
  Z3f (mx R n M) (vx n x)=some (vx R fun i=>sm n fun j=>M i j*x j):=by
 unfold Z3f;rw [Z7a,Z9e (by omega) (by omega),Za];refine Z2 (ZRa (fun q=>((q:Int),vx R fun i=>if i<q then sm n (fun j=>M i j*x j) else 0)) R ?_ (by omega) (fun q hq=>?_) ?_) rfl
 ·simp only [Int.toNat_natCast,ZLf];exact Prod.ext rfl (Z3 fun i hi=>if_neg (by omega))
 ·simp only;rw [decide_eq_true (by omega),Zh,Zdb _ hq,Za,dot2_ok (fun j hj=>hM q j hq hj) hx hn hk,Za,Zua _ hq,Za,ZA (by omega) (by omega),Za];simp only [Int.toNat_natCast,ZUb];refine congrArg (fun x=>some (Sum.inl x)) (Prod.ext (by simp) (Z3 fun i hi=>?_));by_cases e:i=q
  ·rw [if_pos e,if_pos (by omega),e]
  ·rw [if_neg e];by_cases e2:i<q
   ·rw [if_pos e2,if_pos (by omega)]
   ·rw [if_neg e2,if_neg (by omega)]
 ·simp only;rw [decide_eq_false (by omega),Zg];exact congrArg (fun x=>some (Sum.inr x)) (Z3 fun i hi=>if_pos hi)
theorem Zen {n:Nat} {f g:Nat→Rat} (hn:n≤1000) (h:∀ j,j<n→f j=g j):ZAf (vx n f) (vx n g)=some true:=by
 unfold ZAf Zsf;rw [ZEa,ZEa,show ((n:Int) != (n:Int))=false by simp,Zg];refine Z2 (y:=.inl ()) (ZRa (fun k=>(k:Int)) n rfl (by omega) (fun k hk=>?_) ?_) rfl
 ·rw [decide_eq_true (by omega),Zh,Zua _ hk,Za,Zua _ hk,Za,Za,h k hk,decide_eq_true rfl];simp only [Bool.not_true];rw [Zg,ZA (by omega) (by omega),Za];rfl
 ·rw [decide_eq_false (by omega),Zg]
theorem ZHv {R n:Nat} {M M':Mx} (hR:R≤1000) (hn:n≤1000) (h:∀ i,i<R→∀ j,j<n→M i j=M' i j):Zei (mx R n M) (mx R n M')=some true:=by
 unfold Zei;rw [Z7a,Z7a,show ((R:Int) != (R:Int))=false by simp,Zg];refine Z2 (y:=.inl ()) (ZRa (fun k=>(k:Int)) R rfl (by omega) (fun k hk=>?_) ?_) rfl
 ·rw [decide_eq_true (by omega),Zh,Zdb _ hk,Za,Zdb _ hk,Za,Zen hn (h k hk),Za];simp only [Bool.not_true];rw [Zg,ZA (by omega) (by omega),Za];rfl
 ·rw [decide_eq_false (by omega),Zg]
theorem ZOt {R n:Nat} {M:Mx} (h0:R=0→n=0) (hR:R≤32) (hn:n≤32):Zci (mx R n M)=some (mx n R fun j i=>M i j,0):=by
 unfold Zci;rw [ZFi M h0 hR hn,Za];simp only [Bool.not_true];rw [Zg];refine Z2 (lift_ok (c:=ZOi) (fun x=>rfl) h0 (by omega) (by omega)) rfl
theorem Zfq {R n K:Nat} {M:Mx} (h0:R=0→n=0) (hR:R≤32) (hn:n≤32) (hK:1≤K) (hz:CD K R n M) (hk:kk K n≤274877906944) :
  ∃ M' piv,ZXd (mx R n M)=some (mx R n M',ZGb piv,0)∧Eli R n M M' piv n∧CD (kk K n) R n M':=by
 obtain ⟨z,h1,M',piv,d,rfl,h2,h3⟩:=ZLn h0 (by omega) (by omega) hK hz hk;refine ⟨M',piv,?_,h2,h3⟩;unfold ZXd;rw [ZFi M h0 hR hn,Za];simp only [Bool.not_true];rw [Zg,h1,Za]
noncomputable def Zbl (p:(List (List Rat))×(List Rat)×(List Rat)):Option Int :=
 bnd (α:=Bool)
 (ifb ((p.1.length:Int) != (p.2.1.length:Int))
 (some true)
 (ifb (decide ((12:Int)<(p.2.1.length:Int)))
 (some true)
 (ifb (decide ((48:Int)<(p.2.2.length:Int)))
 (some true)
 (bnd (α:=Int)
 (bnd (Zl (σ:=Int) (ρ:=Unit ⊕ Int) (fun a =>
 ifb (decide (a<(p.1.length:Int)))
 (bnd (idx p.1 a) fun b =>
 ifb ((b.length:Int) != (p.2.2.length:Int))
 (some (.inr (.inr a)))
 (bnd (chk .i64 (a+(1:Int))) fun c =>
 some (.inl c)))
 (some (.inr (.inl ()))))
       Zq (0:Int)) fun d =>
      match d with
 | .inl h=>(some (-1:Int))
 | .inr e=>(some e)) fun f =>
 some (decide ((0:Int)≤f)))))) fun g =>
 ifb g
 (some (4:Int))
 (some (0:Int))
noncomputable def Z7h (x:List Rat) (y:List Rat):Option Bool :=
 bnd (Zl (σ:=Int) (ρ:=Unit ⊕ Bool) (fun a =>
 ifb (decide (a<(x.length:Int)))
 (bnd (idx x a) fun b =>
 bnd (idx y a) fun c =>
 bnd (Zsg b c) fun d =>
 ifb (decide ((0:Int)<d))
 (some (.inr (.inr false)))
 (bnd (chk .i64 (a+(1:Int))) fun e =>
 some (.inl e)))
 (some (.inr (.inl ()))))
  Zq (0:Int)) fun f =>
 match f with
 | .inl h=>(some true)
 | .inr g=>(some g)
noncomputable def ZOf (x:List Rat):Option Bool :=
 bnd (α:=Int)
 (bnd (Zl (σ:=Int) (ρ:=Unit ⊕ Int) (fun a =>
 ifb (decide (a<(x.length:Int)))
 (bnd (idx x a) fun b =>
 bnd (ZLc b) fun c =>
 ifb (decide (c<(0:Int)))
 (some (.inr (.inr a)))
 (bnd (chk .i64 (a+(1:Int))) fun d =>
 some (.inl d)))
 (some (.inr (.inl ()))))
   Zq (0:Int)) fun e =>
  match e with
 | .inl h=>(some (-1:Int))
 | .inr f=>(some f)) fun g =>
 some (!(decide ((0:Int)≤g)))
noncomputable def ZGf (n:Int):Option (List Rat) :=
 bnd (ZMb (0:Int)) fun a =>
 bnd (Zqe 56 [a] n) fun b =>
 some b
noncomputable def ZOl (p:(List (List Rat))×(List Rat)×(List Rat)) (y:List Rat):Option (List Rat) :=
 bnd (ZGf (p.2.2.length:Int)) fun d =>
 bnd (Zl (σ:=Int×(List Rat)) (ρ:=List Rat) (fun b =>
 ifb (decide (b.1<(p.1.length:Int)))
 (bnd (idx p.1 b.1) fun c =>
 bnd (Zl (σ:=Int×(List Rat)) (ρ:=List Rat) (fun a =>
 ifb (decide (a.1<(c.length:Int)))
 (bnd (idx c a.1) fun e =>
 bnd (idx a.2 a.1) fun f =>
 bnd (idx y b.1) fun g =>
 bnd (Zcb g e) fun h =>
 bnd (Z4c f h) fun i =>
 bnd (idx a.2 a.1) fun n =>
 bnd (chk .i64 (a.1+(1:Int))) fun j =>
 some (.inl (j,a.2.set a.1.toNat i)))
 (some (.inr a.2)))
     Zq ((0:Int),b.2)) fun k =>
 bnd (chk .i64 (b.1+(1:Int))) fun l =>
 some (.inl (l,k)))
 (some (.inr b.2)))
  Zq ((0:Int),d)) fun m =>
 some m
noncomputable def ZVm (p:(List (List Rat))×(List Rat)×(List Rat)) (y:List Rat):Option Bool :=
 bnd (α:=Bool)
 (ifb ((y.length:Int)==(p.2.1.length:Int))
 (bnd (ZOf y) fun a =>
 ifb a
 (bnd (ZOl p y) fun b =>
 bnd (Z7h p.2.2 b) fun c =>
 some c)
 (some false))
 (some false)) fun d =>
 some d
noncomputable def Zan (p:(List (List Rat))×(List Rat)×(List Rat)) (x:List Rat):Option Bool :=
 bnd (α:=Bool)
 (bnd (ZOf x) fun a =>
 ifb a
 (bnd (Zsl p.1 x) fun b =>
 bnd (Z7h b p.2.1) fun c =>
 some c)
 (some false)) fun d =>
 some d
noncomputable def Z4n (p:(List (List Rat))×(List Rat)×(List Rat)) (a:Int×Rat×(List Rat)×(List Rat)×(List Rat)):Option Bool :=
 bnd (Zbl p) fun c =>
 ifb (c != (0:Int))
 (some false)
 (bnd (α:=Bool)
 (ifb ((a.2.2.1.length:Int)==(p.2.2.length:Int))
 (bnd (Zan p a.2.2.1) fun d =>
 some d)
 (some false)) fun b =>
 ifb (a.1==(1:Int))
 (bnd (α:=Bool)
 (ifb b
 (bnd (ZVm p a.2.2.2.1) fun e =>
 ifb e
 (ifb ((a.2.2.2.2.length:Int)==(0:Int))
 (bnd (ZNf p.2.2 a.2.2.1) fun f =>
 bnd (Zsf a.2.1 f) fun g =>
 ifb g
 (bnd (ZNf p.2.1 a.2.2.2.1) fun h =>
 bnd (Zsf a.2.1 h) fun i =>
 some i)
 (some false))
 (some false))
 (some false))
 (some false)) fun j =>
 some j)
 (ifb (a.1==(2:Int))
 (bnd (α:=Bool)
 (ifb ((a.2.2.1.length:Int)==(0:Int))
 (ifb ((a.2.2.2.2.length:Int)==(0:Int))
 (bnd (Zrc a.2.1) fun k =>
 ifb k
 (ifb ((a.2.2.2.1.length:Int)==(p.2.1.length:Int))
 (bnd (ZOf a.2.2.2.1) fun l =>
 ifb l
 (bnd (ZOl p a.2.2.2.1) fun m =>
 bnd (ZOf m) fun n =>
 ifb n
 (bnd (ZNf p.2.1 a.2.2.2.1) fun o =>
 bnd (ZLc o) fun q =>
 some (decide (q<(0:Int))))
 (some false))
 (some false))
 (some false))
 (some false))
 (some false))
 (some false)) fun r =>
 some r)
 (ifb (a.1==(3:Int))
 (bnd (α:=Bool)
 (ifb (!b)
 (some true)
 (ifb (decide ((0:Int)<(a.2.2.2.1.length:Int)))
 (some true)
 (bnd (Zrc a.2.1) fun s =>
 ifb (!s)
 (some true)
 (some ((a.2.2.2.2.length:Int) != (p.2.2.length:Int)))))) fun t =>
 ifb t
 (some false)
 (bnd (α:=Bool)
 (bnd (ZOf a.2.2.2.2) fun u =>
 ifb u
 (bnd (Zsl p.1 a.2.2.2.2) fun v =>
 bnd (ZGf (p.2.1.length:Int)) fun w =>
 bnd (Z7h v w) fun x =>
 ifb x
 (bnd (ZNf p.2.2 a.2.2.2.2) fun y =>
 bnd (ZLc y) fun z =>
 some (decide ((0:Int)<z)))
 (some false))
 (some false)) fun A =>
 some A))
 (some false))))
noncomputable def Zuo (m:List (List Rat)):Option (List (List Rat)) :=
 bnd (mk 24 (m.length:Int) (m.length:Int)) fun _ =>
 bnd (Zl (σ:=Int×(List (List Rat))) (ρ:=List (List Rat)) (fun a =>
 ifb (decide (a.1<(m.length:Int)))
 (bnd (idx m a.1) fun b =>
 bnd (Z5c 56 b) fun c =>
 bnd (idx a.2 a.1) fun f =>
 bnd (chk .i64 (a.1+(1:Int))) fun d =>
 some (.inl (d,a.2.set a.1.toNat c)))
 (some (.inr a.2)))
  Zq ((0:Int),List.replicate (m.length:Int).toNat ([]:List Rat))) fun e =>
 some e
noncomputable def Zpo (t:(List (List Rat))×(List Rat)×(List Rat)×Rat×(List Int)×(List Int)) (n:Int) (k:Int):Option (List Rat) :=
 bnd (ZGf k) fun d =>
 bnd (Zl (σ:=Int×(List Rat)) (ρ:=List Rat) (fun a =>
 ifb (decide (a.1<(t.2.2.2.2.2.length:Int)))
 (bnd (idx t.2.2.2.2.2 a.1) fun b =>
 bnd (α:=Bool)
 (ifb (decide (n≤b))
 (bnd (chk .i64 (n+k)) fun e =>
 some (decide (b<e)))
 (some false)) fun f =>
 bnd (α:=List Rat)
 (ifb f
 (bnd (chk .i64 (b-n)) fun c =>
 bnd (idx t.2.2.1 a.1) fun g =>
 bnd (Zcc g) fun h =>
 bnd (idx a.2 c) fun m =>
 some (a.2.set c.toNat h))
 (some a.2)) fun i =>
 bnd (chk .i64 (a.1+(1:Int))) fun j =>
 some (.inl (j,i)))
 (some (.inr a.2)))
  Zq ((0:Int),d)) fun l =>
 some l
noncomputable def ZGj (t:(List (List Rat))×(List Rat)×(List Rat)×Rat×(List Int)×(List Int)) (n:Int):Option (List Rat) :=
 bnd (ZGf n) fun c =>
 bnd (Zl (σ:=Int×(List Rat)) (ρ:=List Rat) (fun a =>
 ifb (decide (a.1<(t.2.2.2.2.1.length:Int)))
 (bnd (idx t.2.2.2.2.1 a.1) fun b =>
 bnd (α:=List Rat)
 (ifb (decide (b<n))
 (bnd (idx t.2.1 a.1) fun d =>
 bnd (idx a.2 b) fun h =>
 some (a.2.set b.toNat d))
 (some a.2)) fun e =>
 bnd (chk .i64 (a.1+(1:Int))) fun f =>
 some (.inl (f,e)))
 (some (.inr a.2)))
  Zq ((0:Int),c)) fun g =>
 some g
noncomputable def Z5m (p:(List (List Rat))×(List Rat)×(List Rat)):Option (Int×Rat×(List Rat)×(List Rat)×(List Rat)) :=
 bnd (Zuo p.1) fun O =>
 bnd (Z5c 56 p.2.1) fun P =>
 bnd (Z5c 56 p.2.2) fun Q =>
 bnd (ZMb (0:Int)) fun R =>
 bnd (Zl (σ:=Int×((List (List Rat))×(List Rat)×(List Rat)×Rat×(List Int)×(List Int))) (ρ:=(List (List Rat))×(List Rat)×(List Rat)×Rat×(List Int)×(List Int)) (fun f =>
 ifb (decide (f.1<(p.2.2.length:Int)))
 (bnd (ZU 8 (f.2.2.2.2.2.2++[f.1])) fun _ =>
 bnd (chk .i64 (f.1+(1:Int))) fun S =>
 some (.inl (S,f.2.1,f.2.2.1,f.2.2.2.1,f.2.2.2.2.1,f.2.2.2.2.2.1,f.2.2.2.2.2.2++[f.1])))
 (some (.inr (f.2.1,f.2.2.1,f.2.2.2.1,f.2.2.2.2.1,f.2.2.2.2.2.1,f.2.2.2.2.2.2))))
  Zq ((0:Int),O,P,Q,R,([]:List Int),([]:List Int))) fun r =>
 bnd (Zl (σ:=Int×((List (List Rat))×(List Rat)×(List Rat)×Rat×(List Int)×(List Int))) (ρ:=(List (List Rat))×(List Rat)×(List Rat)×Rat×(List Int)×(List Int)) (fun g =>
 ifb (decide (g.1<(p.2.1.length:Int)))
 (bnd (chk .i64 ((p.2.2.length:Int)+g.1)) fun A =>
 bnd (ZU 8 (g.2.2.2.2.2.1++[A])) fun _ =>
 bnd (chk .i64 (g.1+(1:Int))) fun T =>
 some (.inl (T,g.2.1,g.2.2.1,g.2.2.2.1,g.2.2.2.2.1,g.2.2.2.2.2.1++[A],g.2.2.2.2.2.2)))
 (some (.inr (g.2.1,g.2.2.1,g.2.2.2.1,g.2.2.2.2.1,g.2.2.2.2.2.1,g.2.2.2.2.2.2))))
  Zq ((0:Int),r.1,r.2.1,r.2.2.1,r.2.2.2.1,r.2.2.2.2.1,r.2.2.2.2.2)) fun k =>
 bnd (ZMb (0:Int)) fun U =>
 bnd (chk .i64 ((p.2.2.length:Int)+(p.2.1.length:Int))) fun bw =>
 bnd (Zl (σ:=Int×Int) (ρ:=Int) (fun n =>
 ifb (decide (n.2<(k.2.1.length:Int)))
 (bnd (idx k.2.1 n.2) fun B =>
 bnd (α:=Bool)
 (bnd (ZLc B) fun V =>
 ifb (decide (V<(0:Int)))
 (ifb (decide (n.1<(0:Int)))
 (some true)
 (bnd (idx k.2.1 n.1) fun W =>
 bnd (Zsg B W) fun X =>
 some (decide (X<(0:Int)))))
 (some false)) fun Y =>
 bnd (α:=Int)
 (ifb Y
 (some n.2)
 (some n.1)) fun Z =>
 bnd (chk .i64 (n.2+(1:Int))) fun aa =>
 some (.inl (Z,aa)))
 (some (.inr n.1)))
  Zq ((-1:Int),(0:Int))) fun ab =>
 ifb (decide (ab<(0:Int)))
 (bnd (α:=((List (List Rat))×(List Rat)×(List Rat)×Rat×(List Int)×(List Int))×Int)
 (bnd (Zl (σ:=(List (List Rat))×(List Rat)×(List Rat)×Rat×(List Int)×(List Int)) (ρ:=Int×((List (List Rat))×(List Rat)×(List Rat)×Rat×(List Int)×(List Int))) (fun a =>
 bnd (Zl (σ:=Int×Int) (ρ:=Int) (fun l =>
 ifb (decide (l.2<(a.2.2.1.length:Int)))
 (bnd (idx a.2.2.1 l.2) fun ac =>
 bnd (α:=Bool)
 (bnd (ZLc ac) fun ad =>
 ifb (decide ((0:Int)<ad))
 (ifb (decide (l.1<(0:Int)))
 (some true)
 (bnd (idx a.2.2.2.2.2 l.2) fun ae =>
 bnd (idx a.2.2.2.2.2 l.1) fun af =>
 some (decide (ae<af))))
 (some false)) fun ag =>
 bnd (α:=Int)
 (ifb ag
 (some l.2)
 (some l.1)) fun ah =>
 bnd (chk .i64 (l.2+(1:Int))) fun ai =>
 some (.inl (ah,ai)))
 (some (.inr l.1)))
      Zq ((-1:Int),(0:Int))) fun c =>
 ifb (decide (c<(0:Int)))
 (some (.inr ((-1:Int),a.1,a.2.1,a.2.2.1,a.2.2.2.1,a.2.2.2.2.1,a.2.2.2.2.2)))
 (bnd (Zl (σ:=Int×Int×Rat) (ρ:=Int) (fun e =>
 ifb (decide (e.2.1<(a.1.length:Int)))
 (bnd (α:=Int×Rat)
 (bnd (idx a.1 e.2.1) fun aj =>
 bnd (idx aj c) fun ak =>
 bnd (ZLc ak) fun al =>
 ifb (decide (al≤(0:Int)))
 (some (e.1,e.2.2))
 (bnd (idx a.2.1 e.2.1) fun am =>
 bnd (idx a.1 e.2.1) fun an =>
 bnd (idx an c) fun ao =>
 bnd (Zmf am ao) fun C =>
 bnd (α:=Int)
 (ifb (decide ((0:Int)≤e.1))
 (bnd (Zsg C.1 e.2.2) fun ap =>
 some ap)
 (some (0:Int))) fun D =>
 bnd (α:=Bool)
 (ifb (decide (e.1<(0:Int)))
 (some true)
 (ifb (decide (D<(0:Int)))
 (some true)
 (ifb (D==(0:Int))
 (bnd (idx a.2.2.2.2.1 e.1) fun aq =>
 ifb (aq != (-1:Int))
 (bnd (idx a.2.2.2.2.1 e.2.1) fun ar =>
 ifb (ar==(-1:Int))
 (some true)
 (bnd (idx a.2.2.2.2.1 e.2.1) fun au =>
 bnd (idx a.2.2.2.2.1 e.1) fun av =>
 some (decide (au<av))))
 (some false))
 (some false)))) fun aw =>
 bnd (α:=Int×Rat)
 (ifb aw
 (some (e.2.1,C.1))
 (some (e.1,e.2.2))) fun E =>
 some (E.1,E.2))) fun F =>
 bnd (chk .i64 (e.2.1+(1:Int))) fun ax =>
 some (.inl (F.1,ax,F.2)))
 (some (.inr e.1)))
       Zq ((-1:Int),(0:Int),(0:Rat))) fun d =>
 ifb (decide (d<(0:Int)))
 (some (.inr (c,a.1,a.2.1,a.2.2.1,a.2.2.2.1,a.2.2.2.2.1,a.2.2.2.2.2)))
 (bnd (ZMb (1:Int)) fun ay =>
 bnd (idx a.1 d) fun az =>
 bnd (idx az c) fun aA =>
 bnd (Zmf ay aA) fun t =>
 bnd (idx a.1 d) fun aB =>
 bnd (Zl (σ:=Int×(List (List Rat))) (ρ:=List (List Rat)) (fun m =>
 ifb (decide (m.1<(aB.length:Int)))
 (bnd (idx m.2 d) fun G =>
 bnd (idx m.2 d) fun aC =>
 bnd (idx aC m.1) fun aD =>
 bnd (Zcb aD t.1) fun aE =>
 bnd (idx G m.1) fun bx =>
 bnd (chk .i64 (m.1+(1:Int))) fun aF =>
 some (.inl (aF,m.2.set d.toNat (G.set m.1.toNat aE))))
 (some (.inr m.2)))
        Zq ((0:Int),a.1)) fun u =>
 bnd (idx u d) fun v =>
 bnd (idx v c) fun bz =>
 bnd (idx a.2.1 d) fun aG =>
 bnd (Zcb aG t.1) fun aH =>
 bnd (idx a.2.1 d) fun bA =>
 bnd (Zl (σ:=Int×(List (List Rat))×(List Rat)) (ρ:=(List (List Rat))×(List Rat)) (fun b =>
 ifb (decide (b.1<((u.set d.toNat (v.set c.toNat t.1)).length:Int)))
 (bnd (α:=(List (List Rat))×(List Rat))
 (bnd (α:=Bool)
 (ifb (b.1==d)
 (some true)
 (bnd (idx b.2.1 b.1) fun aI =>
 bnd (idx aI c) fun aJ =>
 bnd (Zrc aJ) fun aK =>
 some aK)) fun aL =>
 ifb aL
 (some (b.2.1,b.2.2))
 (bnd (idx b.2.1 b.1) fun aM =>
 bnd (idx aM c) fun aN =>
 bnd (idx b.2.2 b.1) fun aO =>
 bnd (idx b.2.2 d) fun aP =>
 bnd (Zcb aN aP) fun aQ =>
 bnd (Zdd aO aQ) fun aR =>
 bnd (idx b.2.2 b.1) fun bB =>
 bnd (idx b.2.1 b.1) fun H =>
 bnd (idx H c) fun I =>
 bnd (Zl (σ:=Int×(List (List Rat))) (ρ:=List (List Rat)) (fun h =>
 ifb (decide (h.1<(H.length:Int)))
 (bnd (idx h.2 ((b.1.toNat:Nat):Int)) fun aS =>
 bnd (idx aS h.1) fun aT =>
 bnd (idx h.2 d) fun aU =>
 bnd (idx aU h.1) fun aV =>
 bnd (Zcb I aV) fun aW =>
 bnd (Zdd aT aW) fun aX =>
 bnd (idx h.2 ((b.1.toNat:Nat):Int)) fun J =>
 bnd (idx J h.1) fun bC =>
 bnd (chk .i64 (h.1+(1:Int))) fun aY =>
 some (.inl (aY,h.2.set b.1.toNat (J.set h.1.toNat aX))))
 (some (.inr h.2)))
             Zq ((0:Int),b.2.1)) fun w =>
 bnd (idx w d) fun aZ =>
 bnd (idx aZ c) fun a0 =>
 bnd (Zcb I a0) fun a1 =>
 bnd (Zcc a1) fun a2 =>
 bnd (idx w ((b.1.toNat:Nat):Int)) fun K =>
 bnd (idx K c) fun bD =>
 some (w.set b.1.toNat (K.set c.toNat a2),b.2.2.set b.1.toNat aR))) fun L =>
 bnd (chk .i64 (b.1+(1:Int))) fun a3 =>
 some (.inl (a3,L.1,L.2)))
 (some (.inr (b.2.1,b.2.2))))
        Zq ((0:Int),u.set d.toNat (v.set c.toNat t.1),a.2.1.set d.toNat aH)) fun s =>
 bnd (idx a.2.2.1 c) fun a4 =>
 bnd (idx s.2 d) fun a5 =>
 bnd (Zcb a4 a5) fun a6 =>
 bnd (Z4c a.2.2.2.1 a6) fun a7 =>
 bnd (idx a.2.2.1 c) fun M =>
 bnd (Zl (σ:=Int×(List Rat)) (ρ:=List Rat) (fun j =>
 ifb (decide (j.1<(a.2.2.1.length:Int)))
 (bnd (idx j.2 j.1) fun a8 =>
 bnd (idx s.1 d) fun a9 =>
 bnd (idx a9 j.1) fun ba =>
 bnd (Zcb M ba) fun bb =>
 bnd (Zdd a8 bb) fun bc =>
 bnd (idx j.2 j.1) fun bE =>
 bnd (chk .i64 (j.1+(1:Int))) fun bd =>
 some (.inl (bd,j.2.set j.1.toNat bc)))
 (some (.inr j.2)))
        Zq ((0:Int),a.2.2.1)) fun N =>
 bnd (idx s.1 d) fun be =>
 bnd (idx be c) fun bf =>
 bnd (Zcb M bf) fun bg =>
 bnd (Zcc bg) fun bh =>
 bnd (idx N c) fun bG =>
 bnd (idx a.2.2.2.2.2 c) fun bi =>
 bnd (idx a.2.2.2.2.1 d) fun bj =>
 bnd (idx a.2.2.2.2.1 d) fun bH =>
 bnd (idx a.2.2.2.2.2 c) fun bI =>
 some (.inl (s.1,s.2,N.set c.toNat bh,a7,a.2.2.2.2.1.set d.toNat bi,a.2.2.2.2.2.set c.toNat bj)))))
    Zq (k.1,k.2.1,k.2.2.1,k.2.2.2.1,k.2.2.2.2.1,k.2.2.2.2.2)) fun q =>
 some ((q.2.1,q.2.2.1,q.2.2.2.1,q.2.2.2.2.1,q.2.2.2.2.2.1,q.2.2.2.2.2.2),q.1)) fun i =>
 ifb (decide (i.2<(0:Int)))
 (bnd (ZGj i.1 (p.2.2.length:Int)) fun bk =>
 bnd (Zpo i.1 (p.2.2.length:Int) (p.2.1.length:Int)) fun bm =>
 some ((1:Int),i.1.2.2.2.1,bk,bm,([]:List Rat)))
 (bnd (ZGf (p.2.2.length:Int)) fun x =>
 bnd (idx i.1.2.2.2.2.2 i.2) fun y =>
 bnd (α:=List Rat)
 (ifb (decide (y<(p.2.2.length:Int)))
 (bnd (ZMb (1:Int)) fun bn =>
 bnd (idx x y) fun bJ =>
 some (x.set y.toNat bn))
 (some x)) fun bo =>
 bnd (Zl (σ:=Int×(List Rat)) (ρ:=List Rat) (fun o =>
 ifb (decide (o.1<(i.1.2.2.2.2.1.length:Int)))
 (bnd (idx i.1.2.2.2.2.1 o.1) fun z =>
 bnd (α:=List Rat)
 (ifb (decide (z<(p.2.2.length:Int)))
 (bnd (idx i.1.1 o.1) fun bp =>
 bnd (idx bp i.2) fun bq =>
 bnd (Zcc bq) fun br =>
 bnd (idx o.2 z) fun bK =>
 some (o.2.set z.toNat br))
 (some o.2)) fun bs =>
 bnd (chk .i64 (o.1+(1:Int))) fun bt =>
 some (.inl (bt,bs)))
 (some (.inr o.2)))
    Zq ((0:Int),bo)) fun bu =>
 bnd (ZGj i.1 (p.2.2.length:Int)) fun bv =>
 some ((3:Int),U,bv,([]:List Rat),bu)))
 (none)
noncomputable def ZLm (p:(List (List Rat))×(List Rat)×(List Rat)):Option ((Int×Rat×(List Rat)×(List Rat)×(List Rat))×Int) :=
 bnd (Zbl p) fun a =>
 ifb (a != (0:Int))
 (some (((0:Int),(0:Rat),([]:List Rat),([]:List Rat),([]:List Rat)),a))
 (bnd (Z5m p) fun b =>
 some (b,(0:Int)))
noncomputable def Z5k (x:Rat) (y:Rat):Option (Rat) :=
 bnd (ZGd x) fun a =>
 bnd (ZGd y) fun b =>
 bnd (Ztb x.num.natAbs b) fun c =>
 bnd (Ztb y.num.natAbs a) fun d =>
 ifb ((decide (x.num<0))==(decide (y.num<0)))
 (bnd (Zlg c d) fun e =>
 bnd (Ztb a b) fun f =>
 bnd (ZRb (decide (x.num<0)) e f) fun g =>
 some g)
 (bnd (Z8c c d) fun h =>
 ifb (decide ((0:Int)≤h))
 (bnd (ZEb c d) fun i =>
 bnd (Ztb a b) fun j =>
 bnd (ZRb (decide (x.num<0)) i j) fun k =>
 some k)
 (bnd (ZEb d c) fun l =>
 bnd (Ztb a b) fun m =>
 bnd (ZRb (decide (y.num<0)) l m) fun n =>
 some n))
noncomputable def Z6m (x:Rat×Rat×Rat×Rat) (y:Rat×Rat×Rat×Rat):Option (Rat×Rat×Rat×Rat) :=
 bnd (Zvf x.1 y.1) fun a =>
 bnd (Zvf x.2.1 y.2.1) fun b =>
 bnd (Zvf x.2.2.1 y.2.2.1) fun c =>
 bnd (Zvf x.2.2.2 y.2.2.2) fun d =>
 some (a,b,c,d)
noncomputable def Zml (x:Rat):Option (Rat) :=
 bnd (ZGd x) fun a =>
 bnd (ZRb (!(decide (x.num<0))) x.num.natAbs a) fun b =>
 some b
noncomputable def Zem (x:Rat×Rat×Rat×Rat):Option (Rat×Rat×Rat×Rat) :=
 bnd (Z2f x.1) fun a =>
 bnd (Z2f x.2.1) fun b =>
 bnd (Z2f x.2.2.1) fun c =>
 bnd (Z2f x.2.2.2) fun d =>
 some (a,b,c,d)
noncomputable def Z8j (x:Rat×Rat×Rat×Rat) (y:Rat×Rat×Rat×Rat):Option (Rat×Rat×Rat×Rat) :=
 bnd (Zem y) fun a =>
 bnd (Z6m x a) fun b =>
 some b
noncomputable def ZPm (x:(Rat×Rat×Rat×Rat)×Rat×Rat×Rat×Rat) (y:(Rat×Rat×Rat×Rat)×Rat×Rat×Rat×Rat):Option ((Rat×Rat×Rat×Rat)×Rat×Rat×Rat×Rat) :=
 bnd (Z8j x.1 y.1) fun a =>
 bnd (Z8j x.2 y.2) fun b =>
 some (a,b)
noncomputable def ZHk (x:Rat×Rat×Rat×Rat):Option Bool :=
 bnd (α:=Bool)
 (bnd (ZAd x.1) fun a =>
 ifb a
 (bnd (ZAd x.2.1) fun b =>
 ifb b
 (bnd (ZAd x.2.2.1) fun c =>
 ifb c
 (bnd (ZAd x.2.2.2) fun d =>
 some d)
 (some false))
 (some false))
 (some false)) fun e =>
 some e
noncomputable def Zgo (x:(Rat×Rat×Rat×Rat)×Rat×Rat×Rat×Rat):Option Bool :=
 bnd (α:=Bool)
 (bnd (ZHk x.1) fun a =>
 ifb a
 (bnd (ZHk x.2) fun b =>
 some b)
 (some false)) fun c =>
 some c
noncomputable def Zhn (x:(Rat×Rat×Rat×Rat)×Rat×Rat×Rat×Rat) (y:(Rat×Rat×Rat×Rat)×Rat×Rat×Rat×Rat):Option Bool :=
 bnd (ZPm x y) fun a =>
 bnd (Zgo a) fun b =>
 some b
noncomputable def is2_m (x:List Rat) (y:List ((Rat×Rat×Rat×Rat)×Rat×Rat×Rat×Rat)):Option Bool :=
 ifb ((x.length:Int) != (y.length:Int))
 (some false)
 (bnd (Zl (σ:=Int) (ρ:=Unit ⊕ Bool) (fun a =>
 ifb (decide (a<(x.length:Int)))
 (bnd (α:=Bool)
 (bnd (idx x a) fun b =>
 bnd (idx y a) fun c =>
 bnd (is1_m b c.1.1) fun d =>
 ifb (!d)
 (some true)
 (bnd (idx y a) fun e =>
 bnd (idx y a) fun f =>
 bnd (Z6g f.1.1) fun g =>
 bnd (Zhn e g) fun h =>
 some (!h))) fun i =>
 ifb i
 (some (.inr (.inr false)))
 (bnd (chk .i64 (a+(1:Int))) fun j =>
 some (.inl j)))
 (some (.inr (.inl ()))))
   Zq (0:Int)) fun k =>
  match k with
 | .inl m=>(some true)
 | .inr l=>(some l))
noncomputable def Zaj (x:List (List Rat)) (y:List (List ((Rat×Rat×Rat×Rat)×Rat×Rat×Rat×Rat))):Option Bool :=
 ifb ((x.length:Int) != (y.length:Int))
 (some false)
 (bnd (Zl (σ:=Int) (ρ:=Unit ⊕ Bool) (fun a =>
 ifb (decide (a<(x.length:Int)))
 (bnd (idx x a) fun b =>
 bnd (idx y a) fun c =>
 bnd (is2_m b c) fun d =>
 ifb (!d)
 (some (.inr (.inr false)))
 (bnd (chk .i64 (a+(1:Int))) fun e =>
 some (.inl e)))
 (some (.inr (.inl ()))))
   Zq (0:Int)) fun f =>
  match f with
 | .inl h=>(some true)
 | .inr g=>(some g))
noncomputable def Zxh (l:List (Int×Int)):Option (List (Rat×Rat×Rat×Rat)) :=
 bnd (Zl (σ:=(List (Rat×Rat×Rat×Rat))×Int) (ρ:=List (Rat×Rat×Rat×Rat)) (fun a =>
 ifb (decide (a.2<(l.length:Int)))
 (bnd (idx l a.2) fun c =>
 bnd (rofF c) fun d =>
 bnd (ZGg d) fun b =>
 bnd (ZU 224 (a.1++[b])) fun _ =>
 bnd (chk .i64 (a.2+(1:Int))) fun e =>
 some (.inl (a.1++[b],e)))
 (some (.inr a.1)))
  Zq (([]:List (Rat×Rat×Rat×Rat)),(0:Int))) fun f =>
 some f
noncomputable def ZQm (m:List (List (Int×Int))):Option (List (List (Rat×Rat×Rat×Rat))) :=
 bnd (mk 24 (m.length:Int) (m.length:Int)) fun _ =>
 bnd (Zl (σ:=Int×(List (List (Rat×Rat×Rat×Rat)))) (ρ:=List (List (Rat×Rat×Rat×Rat))) (fun a =>
 ifb (decide (a.1<(m.length:Int)))
 (bnd (idx m a.1) fun b =>
 bnd (Zxh b) fun c =>
 bnd (idx a.2 a.1) fun f =>
 bnd (chk .i64 (a.1+(1:Int))) fun d =>
 some (.inl (d,a.2.set a.1.toNat c)))
 (some (.inr a.2)))
  Zq ((0:Int),List.replicate (m.length:Int).toNat ([]:List (Rat×Rat×Rat×Rat)))) fun e =>
 some e
noncomputable def ZAm (a:List (List (Int×Int))) (b:List (Int×Int)) (c:List (Int×Int)):Option (((List (List Rat))×(List Rat)×(List Rat))×((List (List (Rat×Rat×Rat×Rat)))×(List (Rat×Rat×Rat×Rat))×(List (Rat×Rat×Rat×Rat)))) :=
 bnd (Zve a) fun d =>
 bnd (ZDe b) fun e =>
 bnd (ZDe c) fun f =>
 bnd (ZQm a) fun g =>
 bnd (Zxh b) fun h =>
 bnd (Zxh c) fun i =>
 some ((d.1,e.1,f.1),(g,h,i))
noncomputable def Zhg  : Option Bool :=
 bnd (Zve [[((2:Int),(0:Int)),((4:Int),(0:Int)),((2:Int),(0:Int))],[((1:Int),(0:Int)),((2:Int),(0:Int)),((3:Int),(0:Int))]]) fun c =>
 bnd (ZXd c.1) fun a =>
 bnd (ZNg c.1) fun d =>
 bnd (Zve [[((1:Int),(0:Int)),((2:Int),(0:Int)),((0:Int),(0:Int))],[((0:Int),(0:Int)),((0:Int),(0:Int)),((1:Int),(0:Int))]]) fun f =>
 bnd (Zve [[((-2:Int),(0:Int)),((1:Int),(0:Int)),((0:Int),(0:Int))]]) fun g =>
 bnd (ZAm [[((1:Int),(0:Int)),((1:Int),(0:Int))],[((1:Int),(0:Int)),((0:Int),(0:Int))]] [((4:Int),(0:Int)),((2:Int),(0:Int))] [((3:Int),(0:Int)),((2:Int),(0:Int))]) fun e =>
 bnd (ZLm e.1) fun b =>
 bnd (α:=Bool)
 (ifb (a.2.2==(0:Int))
 (ifb (d.2==(0:Int))
 (ifb (b.2==(0:Int))
 (bnd (Zaj a.1 f.2) fun h =>
 ifb h
 (bnd (Zaj d.1 g.2) fun i =>
 ifb i
 (ifb ((a.2.1.length:Int)==(2:Int))
 (bnd (idx a.2.1 (1:Int)) fun j =>
 ifb (j==(2:Int))
 (ifb (b.1.1==(1:Int))
 (bnd (Zoi b.1.2.1) fun k =>
 ifb (k==([49,48]:List UInt8))
 (bnd (Z4n e.1 b.1) fun l =>
 some l)
 (some false))
 (some false))
 (some false))
 (some false))
 (some false))
 (some false))
 (some false))
 (some false))
 (some false)) fun m =>
 some m
theorem Zex:Zhg=some true:=by decide +kernel
noncomputable def ZQi (m:List (List (Int×Int))) (v:List (Int×Int)):Option Bool :=
 bnd (α:=Bool)
 (ifb (decide ((6:Int)<(m.length:Int)))
 (some true)
 (ifb (decide ((6:Int)<(v.length:Int)))
 (some true)
 (bnd (Zqh m (v.length:Int)) fun l =>
 some (!l)))) fun n =>
 ifb n
 (bnd Zhg fun o =>
 some o)
 (bnd (Zve m) fun a =>
 bnd (ZDe v) fun p =>
 bnd (ZXd a.1) fun d =>
 bnd (ZXd d.1) fun g =>
 bnd (Zci a.1) fun h =>
 bnd (ZGe a.1) fun e =>
 bnd (ZGe h.1) fun i =>
 bnd (ZNg a.1) fun c =>
 bnd (α:=Bool)
 (ifb ((max (max (max (max (max d.2.2 g.2.2) h.2) e.2) i.2) c.2) != (0:Int))
 (some true)
 (bnd (Zei d.1 g.1) fun q =>
 ifb (!q)
 (some true)
 (ifb (e.1 != i.1)
 (some true)
 (bnd (chk .i64 ((v.length:Int)-e.1)) fun r =>
 some ((c.1.length:Int) != r))))) fun s =>
 ifb s
 (some false)
 (bnd (mk 56 (m.length:Int) (m.length:Int)) fun _ =>
 bnd (Zl (σ:=(List Rat)×Int) (ρ:=Unit ⊕ Bool) (fun b =>
 ifb (decide (b.2<(c.1.length:Int)))
 (bnd (idx c.1 b.2) fun j =>
 bnd (α:=Bool)
 (ifb ((j.length:Int) != (v.length:Int))
 (some true)
 (bnd (Z3f a.1 j) fun t =>
 bnd (ZAf t b.1) fun u =>
 some (!u))) fun w =>
 ifb w
 (some (.inr (.inr false)))
 (bnd (chk .i64 (b.2+(1:Int))) fun x =>
 some (.inl (b.1,x))))
 (some (.inr (.inl ()))))
    Zq (List.replicate (m.length:Int).toNat (0:Rat),(0:Int))) fun y =>
   match y with
 | .inl E=>(bnd (Z3f a.1 p.1) fun k =>
 bnd (Ztg a.1 k) fun f =>
 bnd (α:=Bool)
 (ifb (f.2==(0:Int))
 (ifb ((f.1.length:Int)==(v.length:Int))
 (bnd (Z3f a.1 f.1) fun z =>
 bnd (ZAf z k) fun A =>
 ifb A
 (bnd Zhg fun B =>
 some B)
 (some false))
 (some false))
 (some false)) fun C =>
 some C)
 | .inr D=>(some D)))
set_option maxRecDepth 100000
theorem ZVj {K k B:Nat} (hK:K≤B) (hk:k≤7):kk K k≤128*(B+1):=by
 unfold kk;have h1:2^k≤2^7:=Nat.pow_le_pow_right (by decide) hk;have h2:2^k*(K+1)≤128*(B+1):=Nat.mul_le_mul (by simpa using h1) (by omega);omega
theorem rt_sz {m:List (List (Int×Int))} (hm:∀ r,r ∈ m→∀ x,x ∈ r→i64 x) (i j:Nat):sz 64 (rt m i j):=by
 unfold rt;refine Z9p ?_;rw [List.getD_eq_getElem?_getD]
 cases h:(m.getD i [])[j]? with
 | none=>exact ⟨by decide,by decide⟩
 | some x =>
  have hx:x ∈ m.getD i []:=List.mem_of_getElem? h;rw [List.getD_eq_getElem?_getD] at hx
  cases h2:m[i]? with
  | none=>rw [h2] at hx;simp at hx
  | some r=>rw [h2] at hx;exact hm r (List.mem_of_getElem? h2) x hx
theorem rv_sz {l:List (Int×Int)} (hl:∀ x,x ∈ l→i64 x) (j:Nat):sz 64 (rv l j):=by
 unfold rv;refine Z9p ?_;rw [List.getD_eq_getElem?_getD]
 cases h:l[j]? with
 | none=>exact ⟨by decide,by decide⟩
 | some x=>exact hl x (List.mem_of_getElem? h)
theorem pv_sz {K R n:Nat} {M':Mx} {piv:List Nat} (hC:CD K R (n+1) M') (hK:1≤K) (hpl:piv.length≤R) (d:Nat):sz K (pv M' piv n d):=by
 unfold pv;split
 ·rename_i i hi;have hil:i<piv.length:=by
   unfold List.idxOf? at hi;exact (List.findIdx?_eq_some_iff_getElem.1 hi).1
  exact hC.sz (by omega) (by omega)
 ·exact Zdj.mono hK
theorem Z3v {m:List (List (Int×Int))} {v:List (Int×Int)} (hm:∀ r,r ∈ m→∀ x,x ∈ r→i64 x) (hv:∀ x,x ∈ v→i64 x):ZQi m v=some true:=by
 unfold ZQi;have aw:bnd Zhg (fun y=>some y)=some true:=by rw [Zex,Za]
 by_cases hR:6<m.length
 ·refine Z2 (y:=true) (by rw [decide_eq_true (by omega),Zh]) ?_;rw [Zh,aw]
 rw [decide_eq_false (by omega),Zg];by_cases hn:6<v.length
 ·refine Z2 (y:=true) (by rw [decide_eq_true (by omega),Zh]) ?_;rw [Zh,aw]
 rw [decide_eq_false (by omega),Zg,Zbw m v.length (by omega)];rcases (Classical.em ((∀ r,r ∈ m→r.length=v.length)∧0<m.length)).symm with hf | hf
 ·rw [decide_eq_false hf];refine Z2 (y:=true) rfl ?_;rw [Zh,aw]
 rw [decide_eq_true hf];refine Z2 (y:=false) rfl ?_;rw [Zg];obtain ⟨hr,h0⟩:=hf;rw [ZSw m (by omega) (fun r h=>by have:=hr r h;omega),Za,ZOq v (by omega),Za];simp only [rows_mx hr];rw [list_vx];generalize hRe:m.length=R at *;generalize hne:v.length=n at *;have zM:∀ i j,i<R→j<n→sz 64 (rt m i j):=fun i j _ _=>rt_sz hm i j;have zv:∀ j,j<n→sz 64 (rv v j):=fun j _=>rv_sz hv j;generalize rt m=M at *;generalize rv v=x at *;have hRn:R*n≤36:=Nat.mul_le_mul (show R≤6 by omega) (show n≤6 by omega);have hC:CD (64*(R*n)+1) R n M:=CD_of zM;have hC:CD 2305 R n M:=hC.mono (by omega);have hh0:R=0→n=0:=fun e=>by omega
 have k1:kk 2305 n≤295168:=ZVj (B:=2305) (by omega) (by omega);obtain ⟨M1,p1,e1,E1,C1⟩:=Zfq hh0 (by omega) (by omega) (by omega) hC (by omega);have C1:=C1.mono k1;obtain ⟨M2,p2,e2,E2,C2⟩:=Zfq hh0 (by omega) (by omega) (by omega) C1 (by
  have:=ZVj (K:=295168) (k:=n) (B:=295168) (by omega) (by omega);omega)
 rw [e1,Za];simp only;rw [e2,Za];simp only;rw [ZOt hh0 (by omega) (by omega),Za];simp only;obtain ⟨M3,p3,e3,E3⟩:=Zbp hh0 (by omega) (by omega) (by omega) hC (by omega);rw [e3,Za];have e4:∃ p4:Nat,ZGe (mx n R fun j i=>M i j)=some ((p4:Int),0)∧p4=p3.length:=by
  by_cases hn0:n=0
  ·subst hn0;refine ⟨0,(show ZGe []=some (0,0) by decide +kernel),?_⟩;have:=Z2h E3.inc E3.lt;omega
  ·have hC':CD 2305 n R fun j i=>M i j:=by
    have:CD (64*(n*R)+1) n R fun j i=>M i j:=CD_of fun i j hi hj=>zM j i hj hi;exact this.mono (by rw [Nat.mul_comm n R];omega)
   obtain ⟨M4,p4,e4,E4⟩:=Zbp (M:=fun j i=>M i j) (fun e=>absurd e hn0) (by omega) (by omega) (by omega) hC' (by
    have:=ZVj (K:=2305) (k:=R) (B:=2305) (by omega) (by omega);omega)
   exact ⟨p4.length,e4,E3.turned_eq E4⟩
 obtain ⟨p4,e4,q4⟩:=e4;rw [e4,Za];obtain ⟨M5,p5,E5,C5,e5⟩:=Zyu hh0 (by omega) (by omega) (by omega) hC (by omega);have C5:=C5.mono k1;rw [e5,Za];simp only;have hcount:=Z5s E5.inc E5.lt;have h35:p3.length=p5.length:=E5.rank_eq E3;refine Z2 (y:=false) ?_ ?_
 ·rw [show ((max (max (max (max (max (0:Int) 0) 0) 0) 0) 0) != (0:Int))=false by decide,Zg,ZHv (by omega) (by omega) (fun i hi j hj=>(E1.idem E2 i hi j hj).symm),Za];simp only [Bool.not_true];rw [Zg,q4,show (((p3.length:Nat):Int) != ((p3.length:Nat):Int))=false by simp,Zg,ZA (by omega) (by omega),Za,List.length_map];refine congrArg some ?_;rw [bne_eq_false_iff_eq];omega
 ·rw [Zg,Z9e (by omega) (by omega),Za];have hkv:∀ j,j ∈ ZHa p5 n→j<n∧j ∉ p5:=fun j hj=>by
   unfold ZHa at hj;obtain ⟨q1,q2⟩:=List.mem_filter.1 hj;exact ⟨List.mem_range.1 q1,by simpa using q2⟩
  refine Z2 (y:=.inl ()) (ZRa (fun k=>(vx R (fun _=>(0:Rat)),(k:Int))) (ZHa p5 n).length ?_ (by omega) (fun k hk=>?_) ?_) ?_
  ·simp only [Int.toNat_natCast,ZLf];rfl
  ·simp only [List.length_map];have hidx:idx ((ZHa p5 n).map fun j=>vx n (kv M5 p5 j)) (k:Int)=some (vx n (kv M5 p5 (ZHa p5 n)[k])):=ZWl (by simp [hk]);obtain ⟨hj1,hj2⟩:=hkv _ (List.getElem_mem hk);have zk:∀ d,d<n→sz 295168 (kv M5 p5 (ZHa p5 n)[k] d):=fun d hd=>kv_sz C5 (by omega) E5.le hj1 d;rw [decide_eq_true (by omega),Zh,hidx,Za];refine Z2 (y:=false) ?_ ?_
   ·rw [ZEa,show ((n:Int) != (n:Int))=false by simp,Zg,Zbn zM zk (by omega) (by omega) (by
     have:(n+1)*(64+295168+1)≤7*(64+295168+1):=Nat.mul_le_mul_right _ (by omega);omega),Za,Zen (by omega) (fun i hi=>E5.kv_ker hj1 hj2 i hi),Za]
    rfl
   ·rw [Zg,ZA (by omega) (by omega),Za];rfl
  ·simp only [List.length_map];rw [decide_eq_false (by omega),Zg]
  ·simp only;rw [Zbn zM zv (by omega) (by omega) (by
    have:(n+1)*(64+64+1)≤7*(64+64+1):=Nat.mul_le_mul_right _ (by omega);omega),Za]
   have zb:∀ i,i<R→sz 800 (sm n fun j=>M i j*x j):=fun i hi=>(sm_sz (k:=128) fun j hj=>ZIh (zM i j hi hj) (zv j hj)).mono (by omega);have za:∀ i j,i<R→j<n+1→sz 800 (aug n M (fun i=>sm n fun j=>M i j*x j) i j):=fun i j hi hj=>by
    unfold aug;split
    ·exact zb i hi
    ·exact (zM i j hi (by omega)).mono (by omega)
   have hCa:CD 33601 R (n+1) (aug n M fun i=>sm n fun j=>M i j*x j):=(CD_of za).mono (by
    have:R*(n+1)≤42:=Nat.mul_le_mul (show R≤6 by omega) (show n+1≤7 by omega);omega)
   have ka:kk 33601 (n+1)≤4301056:=ZVj (B:=33601) (by omega) (by omega);obtain ⟨M6,p6,E6,C6,e6⟩:=Any_ok h0 (by omega) (by omega) (by omega) hCa (by omega);have C6:=C6.mono ka;have hnp:n ∉ p6:=fun hp=>E6.none hp x fun i hi=>rfl;rw [e6,if_neg hnp,Za];simp only;refine Z2 (y:=true) ?_ rfl;rw [show ((0:Int)==(0:Int))=true by rfl,Zh,ZEa,show ((n:Int)==(n:Int))=true by simp,Zh];have zp:∀ d,d<n→sz 4301056 (pv M6 p6 n d):=fun d hd=>pv_sz C6 (by omega) E6.le d;rw [Zbn zM zp (by omega) (by omega) (by
    have:(n+1)*(64+4301056+1)≤7*(64+4301056+1):=Nat.mul_le_mul_right _ (by omega);omega),Za,Zen (by omega) (fun i hi=>E6.pv_sol hnp i hi),Za,Zh,aw]
theorem Z9n {α:Type} {A:Rep α} {v:Zb} {cs:List Value} {l:List α} (h:(Zw A).rel v cs l) {x:α} (hx:x ∈ l):∃ c,A.rel v c x:=by
 obtain ⟨q,cap,rfl,h1,h2,h3⟩:=h;rcases h3 with rfl | ⟨b,off,c,T,fr,e,hb,hr⟩
 ·cases hx
 ·obtain ⟨i,hi,rfl⟩:=List.getElem_of_mem hx;exact ⟨_,Zja hr (List.getElem?_eq_getElem hi)⟩
end Go.Eng
namespace Go.Eng
open Go.RowKit
section
variable {P:Program} {N:Nat} {G:V→Value→Prop} {w0:Base} {v0:Zb} {U X:Nat→Prop} {f:Fr} {l:Lo} {a:Act} {w:World} {γ:Nat→Gh} {v:Zb} {ℓ:List Loc} {n:Nat}
variable {d:Option Nat} {ty:TypeId} {pos:String} {aft:Array Edge} {g:Option (Nat×Bool)}
theorem Z1p {ty:TypeId} {t:T} (hs:St N w0 v0 [] ℓ v a w):∀ k:Nat,∃ es,Zoa v ty t (List.replicate k (none,0)) (List.replicate k ([]:List t.den)) es∧St N w0 v0 [] (es++ℓ) v a w
 | 0=>⟨[],rfl,hs⟩
 | k+1=>by
  obtain ⟨es,h1,h2⟩:=Z1p hs k
  exact ⟨.own none ty t.n 0 0 [] :: es,⟨[],es,rfl,rfl,h1⟩,h2.nilLoc ty t.n⟩
theorem ZOr {α:Type}:∀ k:Nat,Zt (List.replicate k ((none:Option Nat),0)) (List.replicate k ([]:List α))=(List.replicate k [Value.slice none 0 0]).flatten
 | 0=>rfl
 | k+1=>by simp only [List.replicate_succ,Zt,List.flatten_cons,ZOr k];rfl
theorem ZNv {C:Cf} (hr:RelX N G w0 v0 U X f l a w γ v ℓ) (hU:∀ k,U k→X k) (hX:X n) (hn:¬ U n) {t:TypeId} {x y:Operand} {o:Oper} {Post:Unit→Fr→Lo→Prop} (ho:o=⟨d,.makeSlice t x y,ty,pos,aft,g⟩) (hd:∀ k,o.dst=some k→k<N)
  (h:Zr n (ZX C n o) f l Post):ZCa C.P N G w0 v0 X o a w Post:=by
 subst ho;simp only [ZX] at h;obtain ⟨V1,h1,_,hA⟩:=ZF hr h;obtain ⟨V2,h2,_,hB⟩:=ZF hr hA;obtain ⟨κ,i,rfl,hC⟩:=Z9a hB;obtain ⟨κ',j,rfl,hD⟩:=Z9a hC;clear h hA hB hC;have h:=hD;obtain ⟨e1,_⟩:=ZDa h1;obtain ⟨e2,_⟩:=ZDa h2;split at h
 ·rename_i q dd hq;obtain ⟨hE,hby⟩:=ZUn hq;obtain ⟨_,hmk,h⟩:=h;obtain ⟨m0,m1,m2,m3⟩:=ZNa hmk;obtain ⟨E,hEE,hp⟩:=hr.lr;have hst:=hr.st.perm hp;obtain ⟨σ,hσ,ev1,ev2⟩:=hst.ev2 x y;rw [e1] at ev1;rw [e2] at ev2;obtain ⟨b,w',hrun,hst'⟩:=Z2m hE hσ m0 m1 m2 m3;have hrun':=hrun (d:=some dd) (ty:=ty) (pos:=pos) (aft:=aft) (g:=g) ev1 ev2;split at h
  ·split at h
   ·rename_i q2 r hq2 hz hs1;have hs1:=Nat.eq_of_beq_eq_true hs1;split at h
    ·rename_i s hs;split at h
     ·have hz1:q.z.cells.toList=[.slice none 0 0]:=by
       have h1:=Zff hz;have h2:=hE.cells;rw [hs1] at h2;have h3:q.z.cells.toList.length=1:=by simpa using h2
       rw [h1] at h3 ⊢;simp at h3;rw [h3]
      obtain ⟨es,hR,hst2⟩:=Z1p (ty:=q2.e) (t:=s) hst'.bare i.toNat;have hst3:St N w0 v0 [] (.own (some b) q.e 1 (List.replicate i.toNat ([]:List s.den)).length j.toNat (Zt (List.replicate i.toNat ((none:Option Nat),0)) (List.replicate i.toNat ([]:List s.den))) :: es++E.flatten) v a w':=by
       rw [ZOr,List.length_replicate];rw [hs1,hz1] at hst2;exact hst2.perm List.perm_middle
      have hrun2:=hrun';rw [show (Value.slice (mkA (some b)) i.toNat j.toNat) = .slice (mkA (some b)) (List.replicate i.toNat ([]:List s.den)).length j.toNat by rw [List.length_replicate]] at hrun2;exact Z6i hr hU hX hn hd hEE rfl hR hst3 hrun2 h
     ·exact h.elim
    ·exact h.elim
   ·exact h.elim
  ·split at h
   ·rename_i s hs;split at h
    ·rename_i z r hz hzo hsz;have hsz:=Nat.eq_of_beq_eq_true hsz;obtain ⟨c1,k1,k2⟩:=Zlp (v:=v) hzo hz;have hl:=Rep.len _ k2;have hc:=hE.cells;have hr0:r=[]:=by
      have:q.z.cells.toList.length=q.sz:=by simpa using hc
      rw [k1,List.length_append,hl,ZR,hsz] at this;exact List.length_eq_zero_iff.1 (by omega)
     rw [hr0,List.append_nil] at k1;have hrel:=Z5d k2 i.toNat;rw [k1] at hst';have hst2:St N w0 v0 [] (.own (some b) q.e s.n (List.replicate i.toNat z).length j.toNat (List.replicate i.toNat c1).flatten :: E.flatten) v a w':=by
      rw [List.length_replicate,← hsz];exact hst'.bare
     have hrun2:=hrun';rw [show (Value.slice (mkA (some b)) i.toNat j.toNat) = .slice (mkA (some b)) (List.replicate i.toNat z).length j.toNat by rw [List.length_replicate]] at hrun2;exact Zkh hr hU hX hn hd hEE rfl hst2 hrel hrun2 h
    ·exact h.elim
   ·exact h.elim
 ·exact h.elim
theorem ZUo {x:V} {cs:List Value} (h:RR v γ l false x cs) (hk:x.ok U):RR v γ l false (Zxf x) cs∧(Zxf x).ok U:=by
 unfold Zxf;split
 ·split
  ·rename_i hc;obtain ⟨h1,h2⟩:=Z0l (U:=U) (γ:=γ) (l:=l) hc h;exact ⟨h1,h2⟩
  ·exact ⟨h,hk⟩
 ·exact ⟨h,hk⟩
theorem Zpq:∀ {fs:List Field},Zdl P fs=true→∀ w,∃ L:List (Nat×Nat),(fs.mapM fun (f:Field)=>(do pure (f.offset,← sizeOf f.type):Sem (Nat×Nat))).run P w = .ok L w∧∀ (i:Nat) fd,fs[i]? = some fd→∃ inf,P.info? fd.type=some inf∧L[i]? = some (fd.offset,inf.size)
 | [],_,w=>⟨[],by simp,fun i fd h=>by simp at h⟩
 | fd :: fs,h,w=>by
  simp only [Zdl] at h
  split at h
  ·rename_i inf hinf
   obtain ⟨L,h1,h2⟩:=Zpq h w
   refine ⟨(fd.offset,inf.size) :: L,?_,fun i fd' hi=>?_⟩
   ·simp at h1
    simp [List.mapM_cons,ZTj hinf,h1]
   ·cases i with
    | zero=>simp at hi;subst hi;exact ⟨inf,hinf,rfl⟩
    | succ i=>simp at hi;simpa using h2 i fd' hi
  ·cases h
theorem ZEp {s:TypeId} {fs:Array Field} (hs:P.underlying s=some (.struct fs)) {places:Nat→Option (Nat×Nat)} (hp:∀ (i:Nat) (fd:Field),fs.toList[i]? = some fd→∃ inf,P.info? fd.type=some inf∧places i=some (fd.offset,inf.size)) :
  ∀ {ps:List (Nat×Operand)} {c z z':V} {cs:List Value} {vals:List Value},RR v γ l true c vals→c.ok U→vals.length=ps.length→RR v γ l false z cs→z.ok U→putF P s z (zipV ps c)=some z' →
  ∃ cs',Instr.fill places cs.toArray ((ps.map (·.1)).zip vals)=some cs'.toArray∧RR v γ l false z' cs'∧z'.ok U∧z'.isAgg=z.isAgg
 | [],c,z,z',cs,vals,hc,hk,hl,hz,hkz,h=>by
  have hv:vals=[]:=List.length_eq_zero_iff.1 hl
  subst hv
  have h:some z=some z':=by
   cases c <;> exact h
  cases h
  exact ⟨cs,rfl,hz,hkz,rfl⟩
 | p :: ps,c,z,z',cs,vals,hc,hk,hl,hz,hkz,h=>by
  cases vals with
  | nil=>simp at hl
  | cons y vals =>
   cases c with
   | cons x c =>
    obtain ⟨cx,vs,e,h1,h2⟩:=hc
    cases e
    simp only [zipV,putF] at h;split at h
    ·rename_i fd hfd;split at h
     ·rename_i q hq;split at h
      ·rename_i zz hsz hfit hput;have hsz:=Nat.eq_of_beq_eq_true hsz;obtain ⟨k1,k2,k3,k4⟩:=ZTe FU hput hz h1 hkz hk.1;have hfd':fs.toList[p.1]? = some fd:=by
        unfold fldT at hfd;rw [hs] at hfd;exact hfd
       obtain ⟨inf,hinf,hpl⟩:=hp _ _ hfd';have hlen:cx.length=inf.size:=by
        rw [ZNd h1,hsz];unfold szA at hq;rw [hinf] at hq;split at hq
        ·rename_i i d e1 e2;cases e1;cases hq;rfl
        ·cases hq
       obtain ⟨hcells,_⟩:=Zgk h1 hfit;obtain ⟨cs',q1,q2,q3,q4⟩:=ZEp hs hp (ps:=ps) h2 hk.2 (by simpa using hl) k1 k2 h;refine ⟨cs',?_,q2,q3,q4.trans k4⟩;simp only [List.map_cons,List.zip_cons_cons];rw [ZVn (cs:=cx) (off:=fd.offset) (by rw [hpl,hlen]) hcells (by simpa using k3)]
       simpa using q1
      ·cases h
     ·cases h
    ·cases h
   | nl=>cases (show (y :: vals)=[] from hc)
   | _=>exact (show False from hc).elim
theorem ZWp {n sz:Nat} {places:Nat→Option (Nat×Nat)} (hp:∀ i,i<n→places i=some (i*sz,sz)) :
  ∀ {ps:List (Nat×Operand)} {c z z':V} {cs:List Value} {vals:List Value},RR v γ l true c vals→c.ok U→vals.length=ps.length→RR v γ l false z cs→z.ok U→putA n sz z (zipV ps c)=some z' →
  ∃ cs',Instr.fill places cs.toArray ((ps.map (·.1)).zip vals)=some cs'.toArray∧RR v γ l false z' cs'∧z'.ok U∧z'.isAgg=z.isAgg
 | [],c,z,z',cs,vals,hc,hk,hl,hz,hkz,h=>by
  have hv:vals=[]:=List.length_eq_zero_iff.1 hl
  subst hv
  have h:some z=some z':=by
   cases c <;> exact h
  cases h
  exact ⟨cs,rfl,hz,hkz,rfl⟩
 | p :: ps,c,z,z',cs,vals,hc,hk,hl,hz,hkz,h=>by
  cases vals with
  | nil=>simp at hl
  | cons y vals =>
   cases c with
   | cons x c =>
    obtain ⟨cx,vs,e,h1,h2⟩:=hc
    cases e
    simp only [zipV,putA] at h;split at h
    ·rename_i zz hlt hsz hfit hput;have hlt:p.1<n:=Nat.le_of_ble_eq_true hlt;have hsz:=Nat.eq_of_beq_eq_true hsz;obtain ⟨k1,k2,k3,k4⟩:=ZTe FU hput hz h1 hkz hk.1;have hlen:cx.length=sz:=by rw [ZNd h1,hsz]
     obtain ⟨hcells,_⟩:=Zgk h1 hfit;obtain ⟨cs',q1,q2,q3,q4⟩:=ZWp hp (ps:=ps) h2 hk.2 (by simpa using hl) k1 k2 h;refine ⟨cs',?_,q2,q3,q4.trans k4⟩;simp only [List.map_cons,List.zip_cons_cons];rw [ZVn (cs:=cx) (off:=p.1*sz) (by rw [hp _ hlt,hlen]) hcells (by simpa using k3)]
     simpa using q1
    ·cases h
   | nl=>cases (show (y :: vals)=[] from hc)
   | _=>exact (show False from hc).elim
theorem ZJs {C:Cf} (hr:RelX N G w0 v0 U X f l a w γ v ℓ) (hU:∀ k,U k→X k) (hX:X n) {t:TypeId} {ps:Array (Nat×Operand)} {o:Oper} {Post:Unit→Fr→Lo→Prop} (ho:o=⟨d,.build t ps,ty,pos,aft,g⟩) (hd:∀ k,o.dst=some k→k<N)
  (h:Zr n (ZX C n o) f l Post):ZCa C.P N G w0 v0 X o a w Post:=by
 subst ho;simp only [ZX] at h;split at h
 ·rename_i z fs hz ht;split at h
  ·rename_i hfl hag1 hag2;obtain ⟨y,cs,hy,hcells,hzz,hkz,_⟩:=ZDm (v:=v) (γ:=γ) (l:=l) (U:=U) hz;obtain ⟨L,hL1,hL2⟩:=Zpq hfl w;have hA:(fs.mapM fun (f:Field)=>(do pure (f.offset,← sizeOf f.type):Sem (Nat×Nat))).run C.P w = .ok L.toArray w:=by
    rw [Array.mapM_eq_mapM_toList];simp at hL1;simp [hL1]
   have hplaces:∀ (i:Nat) (fd:Field),fs.toList[i]? = some fd→∃ inf,C.P.info? fd.type=some inf∧(L.toArray[·]?) i=some (fd.offset,inf.size):=fun i fd hi=>by
    obtain ⟨inf,h1,h2⟩:=hL2 i fd hi;exact ⟨inf,h1,by simpa using h2⟩
   have hev:∀ (vals:List (Nat×Value)) (cs':List Value),ps.toList.map (fun p=>(p.1,a.eval p.2))=vals→Instr.fill (L.toArray[·]?) cs.toArray vals=some cs'.toArray→(execOp a.eval ⟨d,.build t ps,ty,pos,aft,g⟩).run C.P w = .ok (.value (.agg cs'.toArray)) w:=by
    intro vals cs' hv hf;obtain ⟨σ,hσ,hev⟩:=hr.st.evs (ps.toList.map (·.2));refine Z4o hσ vals ?_ ?_
    ·rw [← hv,List.map_map];refine List.map_congr_left fun p hp=>?_;rw [hev p.2 (List.mem_map.2 ⟨p,hp,rfl⟩)];rfl
    ·simp at hA hf;simp [Instr.build,hy w,hcells,run_underlying ht,hA,hf]
   split at h
   ·rename_i hps;refine ZO hr hU (hev [] cs (by rw [hps];rfl) rfl) hd hX ?_ (V.ok.mono hU hkz) h;have:=ZSb hzz (fun c e=>by subst e;cases hag2);unfold V.val at this;rw [hag2] at this;exact this
   ·rename_i hps;obtain ⟨c,h1,h2,h⟩:=Zyf hr h;split at h
    ·rename_i z' hz';obtain ⟨o1,o2⟩:=ZUo hzz hkz;have hvl:=h1;rw [List.map_map] at h1;obtain ⟨cs',k1,k2,k3,k4⟩:=ZEp ht hplaces (ps:=ps.toList) h1 h2 (by simp) o1 o2 hz';refine ZO hr hU (hev _ cs' rfl ?_) hd hX ?_ (V.ok.mono hU k3) h
     ·rw [← k1];congr 1;rw [List.zip_map,← List.map_id (ps.toList.zip ps.toList)];simp [List.zip_eq_zipWith,List.zipWith_self,List.map_map]
     ·have:=ZSb k2 (fun c e=>by subst e;rw [hag1] at k4;cases k4);unfold V.val at this;rw [k4,hag1] at this;exact this
    ·exact h.elim
  ·exact h.elim
 ·rename_i z m e hz ht;split at h
  ·rename_i inf hinf hag1 hag2;obtain ⟨y,cs,hy,hcells,hzz,hkz,_⟩:=ZDm (v:=v) (γ:=γ) (l:=l) (U:=U) hz;obtain ⟨c,h1,h2,h⟩:=Zyf hr h;split at h
   ·rename_i z' hz';obtain ⟨o1,o2⟩:=ZUo hzz hkz;rw [List.map_map] at h1;obtain ⟨cs',k1,k2,k3,k4⟩:=ZWp (places:=fun i=>some (i*inf.size,inf.size)) (fun i _=>rfl) (ps:=ps.toList) h1 h2 (by simp) o1 o2 hz';obtain ⟨σ,hσ,hev⟩:=hr.st.evs (ps.toList.map (·.2));have hk1:Instr.fill (fun i=>some (i*inf.size,inf.size)) cs.toArray (ps.toList.map fun p=>(p.1,a.eval p.2))=some cs'.toArray:=by
     rw [← k1];congr 1;rw [List.zip_map,← List.map_id (ps.toList.zip ps.toList)];simp [List.zip_eq_zipWith,List.zipWith_self,List.map_map]
    refine ZO hr hU (Z4o hσ (ps.toList.map fun p=>(p.1,a.eval p.2)) ?_ (z:=.agg cs'.toArray) ?_) hd hX ?_ (V.ok.mono hU k3) h
    ·rw [List.map_map];refine List.map_congr_left fun p hp=>?_;rw [hev p.2 (List.mem_map.2 ⟨p,hp,rfl⟩)];rfl
    ·simp [Instr.build,hy w,hcells,run_underlying ht,ZTj hinf,hk1]
    ·have:=ZSb k2 (fun c e=>by subst e;rw [hag1] at k4;cases k4);unfold V.val at this;rw [k4,hag1] at this;exact this
   ·exact h.elim
  ·exact h.elim
 ·exact h.elim
end
end Go.Eng
