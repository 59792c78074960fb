/- Lemmas towards the statement: the engine of the walks, the functions' models, laws and walks, part 4. Conditions: as each states. -/
import Derived.Laws.CopyRow
import Derived.Laws.IdiomStrings
import Derived.Lib.AppendZerosOnto
import Derived.Lib.Overlaps
import Derived.Scope
import Derived.Test.YtgbgdcffodhgcaaGreatMiC
set_option linter.all false
set_option maxRecDepth 100000
namespace Go.Eng
open Go.RowKit
theorem St.bare {K:Nat} {w0:Base} {v0:Zb} {σ:List (Nat×Value)} {ℓ:List Loc} {v:Zb} {a:Act} {w:World} (h:St K w0 v0 σ ℓ v a w):St K w0 v0 [] ℓ v a w:=h.frame ZKx
theorem Z3i {v:Zb} {γ:Nat→Gh} {l:Lo} {x:V} {cs:List Value} (h:RR v γ l false x cs) (hf:x.fit=true):cellsOf (x.val cs) cs∧cs.all plain=true:=by
 unfold V.fit at hf;have hp:x.plain=true:=by
  cases hp:x.plain
  ·rw [hp] at hf;cases hf
  ·rfl
 have hpl:=Zoy hp h;refine ⟨?_,hpl⟩;rw [hp] at hf;unfold V.val
 cases ha:x.isAgg with
 | true=>exact Zqy cs
 | false =>
  rw [ha] at hf;have hs:=Nat.eq_of_beq_eq_true hf;have e:=Zqg h hs ha;have hv:x.val cs=cs.headD undef:=by unfold V.val;rw [ha]
  rw [hv] at e;rw [e] at hpl;have hpl':plain (cs.headD undef)=true:=by simpa using hpl
  have:=Z1c hpl';show cellsOf (cs.headD undef) cs
  conv=>arg 2;rw [e]
  exact this
theorem Zxl {x:V} (hf:x.fit=true):∀ c,x ≠ .tup c:=fun c e=>by subst e;cases hf
section
variable {P:Program} {N:Nat} {G:V→Value→Prop} {w0:Base} {v0:Zb} {U X:Nat→Prop} {f:Fr} {l:Lo} {a:Act} {w:World} {γ:Nat→Gh} {v:Zb} {ℓ:List Loc} {n:Nat}
variable {ty:TypeId} {pos:String} {aft:Array Edge} {g:Option (Nat×Bool)}
theorem ZOf {o:Oper} {l':Lo} {w':World} {γ':Nat→Gh} {v':Zb} {ℓ':List Loc} {Post:Unit→Fr→Lo→Prop} (hr:RelX N G w0 v0 U X f l' a w' γ' v' ℓ') (hU:∀ k,U k→X k) (ho:o.dst=none) (hrun:(execOp a.eval o).run P w = .ok .skip w') (h:Post () f l'):Zqa P N G w0 v0 X o a w Post:=by
 refine ZNl hrun ?_;rw [ho];exact ⟨_,_,h,_,_,_,hr.mono hU fun _ h=>h⟩
theorem all_upd {cs0 cs:List Value} {off:Nat} (h0:cs0.all plain=true) (h1:cs.all plain=true):(cs0.take off++cs++cs0.drop (off+cs.length)).all plain=true:=by
 have h0':=List.all_eq_true.1 h0;refine List.all_eq_true.2 fun x hx=>?_;rcases List.mem_append.1 hx with hx | hx
 ·rcases List.mem_append.1 hx with hx | hx
  ·exact h0' x (List.mem_of_mem_take hx)
  ·exact List.all_eq_true.1 h1 x hx
 ·exact h0' x (List.mem_of_mem_drop hx)
theorem Zxm {t:T} {x:t.den} {z x':V} {off:Nat} {cs cz:List Value} (hg:ZZa FU (.data t x) off z=some x') (hx:t.rep.rel v cs x) (hz:RR v γ l false z cz) (hkz:z.ok U) :
  RR v γ l false x' (cs.take off++cz++cs.drop (off+cz.length))∧x'.ok U∧off+cz.length≤t.n:=by
 obtain ⟨h1,h2,h3,_⟩:=Zye FU hg (γ:=γ) (l:=l) (x:=.data t x) hx hz trivial hkz;refine ⟨h1,h2,?_⟩;have:=Rep.len _ hx;rw [ZR] at this;omega
theorem ZIo {t:T}:∀ {rows:List (Option Nat×Nat)} {m:List (List t.den)} {es:List Loc} {i:Nat} {p:Option Nat×Nat} {r:List t.den},Zja v ty t rows m es→rows[i]? = some p→m[i]? = some r →
  ∃ cs e1 e2,es=e1 ++ .own p.1 ty t.n r.length p.2 cs :: e2∧t.rep.rels v cs r∧∀ (r':List t.den) (cs':List Value),r'.length=r.length→t.rep.rels v cs' r'→Zm rows (m.set i r')=Zm rows m∧Zja v ty t rows (m.set i r') (e1 ++ .own p.1 ty t.n r.length p.2 cs' :: e2)
 | [],[],_,_,_,_,_,h,_=>by simp at h
 | q :: ps,r0 :: rs,es,0,p,r,⟨cs,es',h1,h2,h3⟩,hp,hr=>by
  simp at hp hr
  subst hp hr
  refine ⟨cs,[],es',by simpa using h2,h1,fun r' cs' hl hc=>⟨by simp [Zm,hl],?_⟩⟩
  exact ⟨cs',es',hc,by rw [← hl];rfl,h3⟩
 | q :: ps,r0 :: rs,es,i+1,p,r,⟨cs,es',h1,h2,h3⟩,hp,hr=>by
  simp only [List.getElem?_cons_succ] at hp hr
  obtain ⟨c2,e1,e2,k2,k3,k4⟩:=ZIo h3 hp hr
  subst k2
  refine ⟨c2,.own q.1 ty t.n r0.length q.2 cs :: e1,e2,by simpa using h2,k3,fun r' cs' hl hc=>?_⟩
  obtain ⟨k5,k6⟩:=k4 r' cs' hl hc
  exact ⟨by simp only [List.set_cons_succ,Zm,k5],cs,_,h1,rfl,k6⟩
 | [],_ :: _,_,_,_,_,k,_,_=>k.elim
 | _ :: _,[],_,_,_,_,k,_,_=>k.elim
theorem Zfo {t:T} {p:Option Nat×Nat} {r':List t.den} {cs':List Value}:∀ {rows:List (Option Nat×Nat)} {m:List (List t.den)} {es:List Loc} {i:Nat} {p0:Option Nat×Nat},Zja v ty t rows m es→rows[i]? = some p0→t.rep.rels v cs' r' →
  (Zm rows m).take i++[Value.slice (mkA p.1) r'.length p.2]++(Zm rows m).drop (i+1)=Zm (rows.set i p) (m.set i r')∧∃ e1 e2 c,es=e1++c :: e2∧Zja v ty t (rows.set i p) (m.set i r') (e1 ++ .own p.1 ty t.n r'.length p.2 cs' :: e2)
 | [],[],_,_,_,_,h,_=>by simp at h
 | q :: ps,r0 :: rs,es,0,p0,⟨cs,es',h1,h2,h3⟩,hp,hc=>by
  refine ⟨by simp [Zm],[],es',_,by simpa using h2,?_⟩
  exact ⟨cs',es',hc,rfl,h3⟩
 | q :: ps,r0 :: rs,es,i+1,p0,⟨cs,es',h1,h2,h3⟩,hp,hc=>by
  simp only [List.getElem?_cons_succ] at hp
  obtain ⟨k1,e1,e2,c,k2,k3⟩:=Zfo (p:=p) h3 hp hc
  subst k2
  refine ⟨by simp only [List.set_cons_succ,Zm,List.take_succ_cons,List.drop_succ_cons,List.cons_append,k1],.own q.1 ty t.n r0.length q.2 cs :: e1,e2,c,by simpa using h2,?_⟩
  exact ⟨cs,_,h1,rfl,k3⟩
 | [],_ :: _,_,_,_,k,_,_=>k.elim
 | _ :: _,[],_,_,_,k,_,_=>k.elim
theorem ZMt {α:Type} {m:List (List α)} {i:Nat} {r r':List α} (hr:m[i]? = some r) (hl:r'.length=r.length):(m.set i r').map List.length=m.map List.length:=by
 apply List.ext_getElem?;intro j;simp only [List.getElem?_map];by_cases h:i=j
 ·subst h;have hlt:=(List.getElem?_eq_some_iff.1 hr).1;rw [List.getElem?_set_self hlt,hr];simp [hl]
 ·rw [List.getElem?_set_ne h]
theorem Zni:∀ (g:Nat) {x z x':V} {off:Nat},ZZa g x off z=some x'→x.ok U→z.ok U→x'.ok U
 | 0,_,_,_,_,h,_,_=>by cases h
 | g+1,x,z,x',off,h,hk,hkz=>by
  have whole:∀ {y:V},(match Nat.beq off 0,Nat.beq y.size z.size,eqB y.isAgg z.isAgg with
    | true,true,true=>some z
    | _,_,_=>match y with
     | .agg c=>match ZZa g c off z with
      | some c'=>some (.agg c')
      | none=>none
     | .data t x=>match ZKb t x with
      | some c=>match ZZa g c off z with
       | some c'=>some (.agg c')
       | none=>none
      | none=>none
     | _=>none)=some x'→y.ok U→x'.ok U:=by
   intro y hy hk;split at hy
   ·cases hy;exact hkz
   ·split at hy
    ·split at hy
     ·rename_i c' he;cases hy;exact (show V.ok U c' from Zni g he hk hkz)
     ·cases hy
    ·split at hy
     ·rename_i c hc;split at hy
      ·rename_i c' he;cases hy;exact (show V.ok U c' from Zni g he (Zqs hc) hkz)
      ·cases hy
     ·cases hy
    ·cases hy
  cases x with
  | nl=>simp only [ZZa] at h;cases h
  | cons a b =>
   simp only [ZZa] at h;split at h
   ·split at h
    ·rename_i he;cases h;exact ⟨Zni g he hk.1 hkz,hk.2⟩
    ·cases h
   ·split at h
    ·split at h
     ·rename_i he;cases h;exact ⟨hk.1,Zni g he hk.2 hkz⟩
     ·cases h
    ·cases h
  | data t x=>exact whole (y:=.data t x) h hk
  | agg c=>exact whole (y:=.agg c) h hk
  | nilS=>exact whole (y:=.nilS) h hk
  | own u=>exact whole (y:=.own u) h hk
  | row u i hv cv t r=>exact whole (y:=.row u i hv cv t r) h hk
  | ptr u o=>exact whole (y:=.ptr u o) h hk
  | el u i cv t x o=>exact whole (y:=.el u i cv t x o) h hk
  | rp u i hv cv t r=>exact whole (y:=.rp u i hv cv t r) h hk
  | rel u i j hv cv t r x o=>exact whole (y:=.rel u i j hv cv t r x o) h hk
  | vp t x o=>exact whole (y:=.vp t x o) h hk
  | tup c=>exact whole (y:=.tup c) h hk
  | fn f c=>exact whole (y:=.fn f c) h hk
  | ifc f c=>exact whole (y:=.ifc f c) h hk
  | undef=>exact whole (y:=.undef) h hk
theorem Zjj {b off:Nat} {c c':List Value} (h:WAt w b off c) (h':WAt w b off c') (hl:c.length=c'.length):c=c':=by
 obtain ⟨x,T,fr,h1,h2⟩:=h;obtain ⟨x',T',fr',h3,h4⟩:=h';rw [h1] at h3;cases h3;rw [← h2,← h4,hl]
theorem ZRo (hr:RelX N G w0 v0 U X f l a w γ v ℓ) {u k st:Nat} {ty0:TypeId} {t:T} {xs:List t.den} {fz:Bool} (he:lkE l u=some ⟨k,st,.own ty0 t xs fz⟩) {b cap i:Nat} {x:t.den} (hγ:γ u = .own (some b) cap) (hx:xs[i]? = some x):∃ c,t.rep.rel v c x∧WAt w b (0+i*t.n) c:=by
 obtain ⟨hkk,es,hes,hmem⟩:=hr.loc he;have hkk:k=u:=hkk;subst hkk
 cases fz with
 | false =>
  obtain ⟨ob,cap',cs,q1,q2,rfl⟩:=hes;have q1:γ k = .own ob cap':=q1;rw [hγ] at q1;cases q1;obtain ⟨j,hj⟩:=hmem _ (List.mem_singleton.2 rfl);have hrel:=ZIa q2 hx;rw [ZR] at hrel;have hl:=Rep.len _ hrel;rw [ZR] at hl;refine ⟨_,hrel,?_⟩;have:=Z8d hr.st hj rfl (List.getElem?_eq_some_iff.1 hx).1 0 ((cs.drop (i*t.n)).take t.n) (by rw [hl,List.drop_zero,List.take_take,Nat.min_self]) (by omega)
  simpa using this
 | true =>
  obtain ⟨ob,cap',q1,q2,_⟩:=hes;have q1:γ k = .own ob cap':=q1;rw [hγ] at q1;cases q1;obtain ⟨_,b2,o2,cs2,e2,h2,h3⟩:=Zac q2 hx
  cases e2
  rw [ZR] at h2;exact ⟨cs2,h3,hr.st.view h2⟩
theorem ZXo (hr:RelX N G w0 v0 U X f l a w γ v ℓ) {u k st hv:Nat} {ty0 ty2:TypeId} {t:T} {m:List (List t.den)} (he:lkE l u=some ⟨k,st,.mat ty0 ty2 t m hv⟩) {ob:Option Nat} {cap i j bi capi:Nat} {rows:List (Option Nat×Nat)} {r:List t.den} {x:t.den}
  (hγ:γ u = .mat ob cap rows) (hrow:rows[i]? = some (some bi,capi)) (hm:m[i]? = some r) (hx:r[j]? = some x):∃ c,t.rep.rel v c x∧WAt w bi (0+j*t.n) c:=by
 obtain ⟨hkk,es,hes,hmem⟩:=hr.loc he;have hkk:k=u:=hkk;subst hkk;obtain ⟨ob',cap',rows',es2,q1,q2,rfl⟩:=hes;have q1:γ k = .mat ob' cap' rows':=q1;rw [hγ] at q1;cases q1;obtain ⟨p',cs,r1,r2,r3⟩:=ZSe q2 hm;rw [hrow] at r1;cases r1;obtain ⟨jj,hj⟩:=hmem _ (List.mem_cons_of_mem _ r3);have hrel:=ZIa r2 hx;rw [ZR] at hrel;have hl:=Rep.len _ hrel;rw [ZR] at hl;refine ⟨_,hrel,?_⟩;have:=Z8d hr.st hj rfl (List.getElem?_eq_some_iff.1 hx).1 0 ((cs.drop (j*t.n)).take t.n) (by rw [hl,List.drop_zero,List.take_take,Nat.min_self]) (by omega)
 simpa using this
theorem stE_ok (hr:RelX N G w0 v0 U X f l a w γ v ℓ) (hU:∀ k,U k→X k) (hX:X n) (hn:¬ U n) {t:TypeId} {x y:Operand} {o:Oper} {p q:V} {Post:Unit→Fr→Lo→Prop} (ho:o=⟨none,.store t x y,ty,pos,aft,g⟩) (hp:RV v γ l p (a.eval x)) (hq:RV v γ l q (a.eval y)) (hk:p.ok U) (hkq:q.ok U)
  (h:Zl n (stE P n t p q) f l Post):Zqa P N G w0 v0 X o a w Post:=by
 unfold stE at h;split at h
 ·exact h.elim
 ·rename_i sz hsz;split at h
  ·rename_i b1 b2 b3;have b1:=Nat.eq_of_beq_eq_true b1;have b2:=ZCn b2;obtain ⟨cs,hcs,hqe⟩:=Zmb hq (Zxl b3);obtain ⟨hcells,hpl⟩:=Z3i hcs b3;have hlen:cs.length=sz.1:=(Zdd hcs).trans b1;have hS:=ZUf hsz;split at h
   · -- a variable
    rename_i u off;obtain ⟨en,he,h⟩:=h;obtain ⟨yy,hy0,_,hy⟩:=Zea hp (fun _ e=>by cases e) rfl rfl;have hy0:a.eval x=yy:=(List.cons.inj hy0).1;have hy:=hy en he;obtain ⟨kk,st,L⟩:=en;obtain ⟨hm,hkk⟩:=Zq he;have hkk:kk=u:=hkk;subst hkk
    cases L with
    | box ty0 c =>
     simp only at h;obtain ⟨b',g4,rfl⟩:=hy;split at h
     ·rename_i c' hc';obtain ⟨es,E',h1,h2,_,h3,_⟩:=hr.del he;obtain ⟨b,cs0,g1,g2,g3,rfl⟩:=h1;have g1:γ kk = .box b:=g1;rw [g1] at g4;cases g4;have hcok:c.ok U:=(hr.ul _ hm).2.2;obtain ⟨k1,k2,k3,_⟩:=Zye FU hc' g2 hcs hcok hkq;rw [hlen] at k3;have hs:=hr.st.perm h3;obtain ⟨σ,hσ,e1,e2⟩:=hs.ev2 x y;rw [hy0] at e1;rw [hqe] at e2;obtain ⟨w',hrun,hst⟩:=Znr (P:=P) hσ hS hcells hlen (i:=0) rfl (by omega) hpl;have hle:Le U v γ l v γ (⟨kk,n,.box ty0 c'⟩ :: era l kk):=Le.upd hr he (Zb.le_refl _) (fun _ _=>rfl) rfl;subst ho;refine ZOf (hr.upd hX (hr.ul _ hm).1 h2 hst.bare hle (fun _ _=>rfl) ⟨_,_,g1,Zgb hle k2 k1,all_upd g3 hpl,rfl⟩ (List.Perm.refl _) k2) hU rfl (hrun e1 e2) h
     ·exact h.elim
    | own _ _ _ _=>exact h.elim
    | mid _ _ _ _ _ _=>exact h.elim
    | mat _ _ _ _ _=>exact h.elim
   · -- an element
    rename_i u i cv s x0 off;split at h
    ·rename_i z hz;obtain ⟨yy,hy0,_,⟨c0,hc0⟩,hy⟩:=Zea hp (fun _ e=>by cases e) rfl rfl;have hy0:a.eval x=yy:=(List.cons.inj hy0).1;obtain ⟨z1,z2,z3⟩:=Zxm hz hc0 hcs hkq;obtain ⟨y1,l1,γ1,v1,ℓ1,h,r1,le1,q1⟩:=Zgd hn hX FU h hr z2;obtain ⟨en,he,h⟩:=h;have hp1:=Zyb le1 hk hp;obtain ⟨yy',hy0',_,_,hy⟩:=Zea hp1 (fun _ e=>by cases e) rfl rfl;have hy0':a.eval x=yy':=(List.cons.inj hy0').1;have hy:=hy en he;obtain ⟨kk,st,L⟩:=en;obtain ⟨hm,hkk⟩:=Zq he;have hkk:kk=u:=hkk;subst hkk
     cases L with
     | own ty0 s' xs fz =>
      cases fz with
      | true=>exact h.elim
      | false =>
       simp only at h;obtain ⟨b,cap,g1,rfl,g3,g4⟩:=hy;obtain ⟨es,E',h1,h2,_,h3,_⟩:=r1.del he;obtain ⟨ob,cap',cs1,f1,f2,rfl⟩:=h1;have f1:γ1 kk = .own ob cap':=f1;rw [g1] at f1;cases f1;have fin:∀ (c:List Value) (y':s'.den),(cs1.drop (i*s'.n)).take s'.n=c→off+sz.1≤s'.n→s'.rep.rel v1 (c.take off++cs++c.drop (off+sz.1)) y'→Post () f (⟨kk,n,.own ty0 s' (xs.set i y') false⟩ :: era l1 kk)→Zqa P N G w0 v0 X o a w Post:=by
        intro c y' hc hfit hrel hpost;have hs:=r1.st.perm h3;obtain ⟨σ,hσ,e1,e2⟩:=hs.ev2 x y;rw [hy0'] at e1;rw [hqe] at e2;have hset:=Zgs f2 g3 hc hrel (ZR s').symm hfit;have hcl:=ZIc f2;rw [ZR] at hcl;have hfit2:0+i*s'.n+off+sz.1≤cs1.length:=Z8q hs (j:=0) rfl g3 hfit;obtain ⟨w',hrun,hst⟩:=Zhd (P:=P) hσ hS hcells hlen (i:=0) rfl hfit2 hpl;rw [hlen] at hst;have hle:Le U v1 γ1 l1 v1 γ1 (⟨kk,n,.own ty0 s' (xs.set i y') false⟩ :: era l1 kk):=Le.upd r1 he (Zb.le_refl _) (fun _ _=>rfl) ⟨rfl,rfl,by simp,fun e=>absurd e hn⟩;have hst':St N w0 v0 [] (.own (some b) ty0 s'.n (xs.set i y').length cap (cs1.take (0+i*s'.n+off)++cs++cs1.drop (0+i*s'.n+off+sz.1)) :: E'.flatten) v1 a w':=by
         rw [List.length_set];exact hst.bare
        subst ho;exact ZOf (r1.upd hX (r1.ul _ hm).1 h2 hst' hle (fun _ _=>rfl) ⟨some b,cap,_,g1,hset,rfl⟩ (List.Perm.refl _) trivial) hU rfl (hrun e1 e2) hpost
       have full:off=0→sz.1=s.n→∀ y',T.cast s s' y1=some y'→Post () f (⟨kk,n,.own ty0 s' (xs.set i y') false⟩ :: era l1 kk)→Zqa P N G w0 v0 X o a w Post:=by
        intro e0 e1 y' hc hpost;obtain ⟨c3,c4⟩:=Z1 hc;subst c3;subst c4;refine fin _ y1 rfl (by omega) ?_ hpost;have hl0:=Rep.len _ hc0;rw [ZR] at hl0;have hcl:=ZIc f2;rw [ZR] at hcl;have hdl:((cs1.drop (i*s.n)).take s.n).length=s.n:=by
         have:i*s.n+s.n≤cs1.length:=by rw [hcl,← Nat.succ_mul];exact Nat.mul_le_mul_right _ g3
         simp;omega
        have q1:=q1 _ z1;rw [e0] at q1 ⊢;rw [List.take_zero,List.drop_of_length_le (by omega)] at q1 ⊢;exact q1
       split at h
       ·rename_i hh1 hh2;split at h
        ·rename_i y' hy';exact full (Nat.eq_of_beq_eq_true hh1) (b1.symm.trans (Nat.eq_of_beq_eq_true hh2)) y' hy' h
        ·exact h.elim
       ·rename_i hcv _;split at h
        ·rename_i y' hy';obtain ⟨ys,c1,c2⟩:=g4 (Nat.eq_of_beq_eq_true hcv);obtain ⟨c3,c4⟩:=Z1 c1
         cases c3;cases c4
         rw [Zzj] at hy';cases hy';have hrel:=ZIa f2 c2;rw [ZR] at hrel;obtain ⟨⟨k0,st0,L0⟩,he0,hce⟩:=le1.l _ _ hk.1 he;have hst:U st:=(Nat.eq_of_beq_eq_true hcv) ▸ hk.2
         cases L0 with
         | own ty1 t1 xs1 fz1 =>
          obtain ⟨d1,d2,d3,d4⟩:=hce;obtain ⟨d5,d6⟩:=d4 hst
          cases d6
          rw [d1] at g1;obtain ⟨c,hc1,hc2⟩:=ZRo hr he0 g1 c2;obtain ⟨z1',_,_⟩:=Zxm hz hc1 hcs hkq;have q2:=q1 _ z1';rw [hlen] at q2;refine fin c y1 ?_ (by omega) q2 h;have g1':γ1 kk = .own (some b) cap:=by rw [d1];exact g1
          obtain ⟨c',hc1',hc2'⟩:=ZRo r1 he g1' c2;have hl1:=Rep.len _ hc1;have hl2:=Rep.len _ hc1';have e1:=Zjj hc2 hc2' (hl1.trans hl2.symm);have hl3:=Rep.len _ hrel;rw [ZR] at hl1 hl3;obtain ⟨jj,hj⟩:∃ i:Nat,ℓ1[i]? = some (.own (some b) ty0 s.n xs.length cap cs1):=List.getElem?_of_mem (h3.mem_iff.2 (by simp));have hw:=Z8d r1.st hj rfl g3 0 ((cs1.drop (i*s.n)).take s.n) (by rw [hl3,List.drop_zero,List.take_take,Nat.min_self]) (by omega);exact Zjj (by simpa using hw) hc2 (hl3.trans hl1.symm)
         | box _ _=>exact hce.elim
         | mid _ _ _ _ _ _ =>
          obtain ⟨_,_,_,_,hyl⟩:=Zea hp (fun _ e=>by cases e) rfl rfl;exact (hyl _ he0).elim
         | mat _ _ _ _ _ =>
          obtain ⟨_,_,_,_,hyl⟩:=Zea hp (fun _ e=>by cases e) rfl rfl;exact (hyl _ he0).elim
        ·exact h.elim
       ·exact h.elim
     | box _ _=>exact h.elim
     | mid _ _ _ _ _ _=>exact h.elim
     | mat _ _ _ _ _=>exact h.elim
    ·exact h.elim
   · -- a row is put into its place
    rename_i u i hv0 cv0 s0 r0;split at h
    ·rename_i u2 _ _;obtain ⟨en,he,h⟩:=h;obtain ⟨yy,hy0,_,hy⟩:=Zea hp (fun _ e=>by cases e) rfl rfl;have hy0:a.eval x=yy:=(List.cons.inj hy0).1;have hy:=hy en he;obtain ⟨kk,st,L⟩:=en;obtain ⟨hm,hkk⟩:=Zq he;have hkk:kk=u:=hkk;subst hkk
     cases L with
     | mat ty0 ty2 s m hv =>
      obtain ⟨en2,he2,h⟩:=h;obtain ⟨k2,st2,L2⟩:=en2;obtain ⟨hm2,hkk2⟩:=Zq he2;have hkk2:k2=u2:=hkk2;subst hkk2
      cases L2 with
      | own ty3 s' xs fz =>
       cases fz with
       | true=>exact h.elim
       | false =>
        simp only at h;split at h
        ·rename_i l' ht3 hl';have ht3:=Nat.eq_of_beq_eq_true ht3;subst ht3;obtain ⟨c3,c4⟩:=Z1 hl'
         cases c3;cases c4
         have hne:kk≠k2:=fun e=>by subst e;rw [he] at he2;cases he2
         obtain ⟨b,cap,rows,g1,rfl,g3,g4⟩:=hy;obtain ⟨es2,E2,h1,h2,h2',h3,r2⟩:=hr.del he2;obtain ⟨ob2,cap2,cs2,f1,f2,rfl⟩:=h1;have he':lkE (era l k2) kk=some ⟨kk,st,.mat ty0 ty3 s m hv⟩:=by
          rw [ZXb hr.nd,if_neg (fun e=>hne e.symm)];exact he
         obtain ⟨esm,E',hsp1,hsp2,hsp3⟩:=ZXf h2' he';obtain ⟨ob',cap',rows,es3,q1,q2,rfl⟩:=hsp1;have q1:γ kk = .mat ob' cap' rows:=q1;rw [g1] at q1;cases q1;have hrl:=ZZf q2;obtain ⟨p',hp'⟩:∃ p',rows[i]? = some p':=⟨_,List.getElem?_eq_getElem (by omega)⟩;obtain ⟨hh,e1,e2,csx,k1,k3⟩:=Zfo q2 hp' (p:=(ob2,cap2)) (r':=xs) f2;have hq1:a.eval y = .slice (mkA ob2) xs.length cap2:=by
          obtain ⟨yq,hyq0,_,hyq⟩:=Zea hq (fun _ e=>by cases e) rfl rfl;obtain ⟨oq,cq,gq1,gq2⟩:=hyq _ he2;have f1:γ k2 = .own ob2 cap2:=f1;rw [f1] at gq1;cases gq1;exact ((List.cons.inj hyq0).1).trans gq2
         have hs:St N w0 v0 [] (.own (some b) ty0 1 m.length cap (Zm rows m) :: .own ob2 ty3 s.n xs.length cap2 cs2 :: (es3++E'.flatten)) v a w:=by
          refine hr.st.perm ((h3.trans (List.Perm.append_left _ hsp3)).trans ?_);simp only [List.cons_append];exact List.Perm.swap _ _ _
         obtain ⟨σ,hσ,ee1,ee2⟩:=hs.ev2 x y;rw [hy0] at ee1;rw [hq1] at ee2;have hS1:Sized P t ([Value.slice (mkA ob2) xs.length cap2]:List Value).length sz.2:=by
          have:sz.1=1:=b1.symm;rw [this] at hS;exact hS
         have hfit:0+i*1+([Value.slice (mkA ob2) xs.length cap2]:List Value).length≤(Zm rows m).length:=by
          rw [Zpd hrl];simp only [List.length_singleton];omega
         obtain ⟨w',hrun,hst⟩:=Zhd (P:=P) hσ hS1 (cs:=[Value.slice (mkA ob2) xs.length cap2]) (z:=.slice (mkA ob2) xs.length cap2) (Z1c rfl) rfl (i:=0) rfl hfit rfl;have hh':(Zm rows m).take (0+i*1)++[Value.slice (mkA ob2) xs.length cap2]++(Zm rows m).drop (0+i*1+1)=Zm (rows.set i (ob2,cap2)) (m.set i xs):=by
          rw [Nat.zero_add,Nat.mul_one];exact hh
         have hst:=hst.bare;simp only [List.set_cons_zero,List.length_singleton] at hst;rw [hh'] at hst;subst k1;have hst':St N w0 v0 [] (.own (some b) ty0 1 (m.set i xs).length cap (Zm (rows.set i (ob2,cap2)) (m.set i xs)) :: (e1 ++ .own ob2 ty3 s.n xs.length cap2 cs2 :: e2)++E'.flatten) v a w':=by
          rw [List.length_set];refine (hst.drop (ℓ':=.own (some b) ty0 1 m.length cap (Zm (rows.set i (ob2,cap2)) (m.set i xs)) :: .own ob2 ty3 s.n xs.length cap2 cs2 :: ((e1++e2)++E'.flatten)) ?_).perm ?_
          ·refine List.Sublist.cons_cons _ (List.Sublist.cons_cons _ (List.Sublist.append (List.Sublist.append (List.Sublist.refl _) (List.sublist_cons_self _ _)) (List.Sublist.refl _)))
          ·simp only [List.cons_append];refine List.Perm.cons _ ?_;rw [← List.cons_append];exact List.Perm.append_right _ (List.perm_middle.symm)
         have hle:Le U v γ (era l k2) v (Zcc γ kk (.mat (some b) cap (rows.set i (ob2,cap2)))) (⟨kk,n,.mat ty0 ty3 s (m.set i xs) n⟩ :: era (era l k2) kk):=Le.upd r2 he' (Zb.le_refl _) (fun _ hne=>Z7b hne) ⟨rfl,by simp,⟨_,_,_,_,g1,Z3a,fun e=>absurd e hn⟩,fun e=>absurd e hn⟩;subst ho;refine ZOf (r2.upd hX (r2.ul _ (Zq he').1).1 hsp2 hst' hle (fun _ hne=>Z7b hne) ⟨some b,cap,rows.set i (ob2,cap2),_,Z3a,k3,rfl⟩ ?_ hX) hU rfl (hrun ee1 ee2) h;exact List.Perm.refl _
        ·exact h.elim
      | box _ _=>exact h.elim
      | mid _ _ _ _ _ _=>exact h.elim
      | mat _ _ _ _ _=>exact h.elim
     | mid ty0 ty2 s m hv sm =>
      cases sm with
      | swp _ _=>exact h.elim
      | hol i1 =>
       obtain ⟨_,heq,h⟩:=h;have heq:i=i1:=by
        unfold eqN at heq;split at heq
        ·assumption
        ·cases heq
       subst heq;obtain ⟨en2,he2,h⟩:=h;obtain ⟨k2,st2,L2⟩:=en2;obtain ⟨hm2,hkk2⟩:=Zq he2;have hkk2:k2=u2:=hkk2;subst hkk2
       cases L2 with
       | own ty3 s' xs fz =>
        cases fz with
        | true=>exact h.elim
        | false =>
         simp only at h;split at h
         ·rename_i l' ht3 hl';have ht3:=Nat.eq_of_beq_eq_true ht3;subst ht3;obtain ⟨c3,c4⟩:=Z1 hl'
          cases c3;cases c4
          have hne:kk≠k2:=fun e=>by subst e;rw [he] at he2;cases he2
          obtain ⟨b,cap,rows,g1,rfl,g3,g4⟩:=hy;obtain ⟨es2,E2,h1,h2,h2',h3,r2⟩:=hr.del he2;obtain ⟨ob2,cap2,cs2,f1,f2,rfl⟩:=h1;have he':lkE (era l k2) kk=some ⟨kk,st,.mid ty0 ty3 s m hv (.hol i)⟩:=by
           rw [ZXb hr.nd,if_neg (fun e=>hne e.symm)];exact he
          obtain ⟨esm,E',hsp1,hsp2,hsp3⟩:=ZXf h2' he';obtain ⟨ob',cap',rows,es3,hs,es4,q1,q2,⟨rfl,e1,c,e2,rfl,rfl,rfl⟩,rfl⟩:=hsp1;have q1:γ kk = .mat ob' cap' rows:=q1;rw [g1] at q1;cases q1;have hrl:=ZZf q2;obtain ⟨hh,k3⟩:=Zku q2 (p:=(ob2,cap2)) (r':=xs) f2;have hq1:a.eval y = .slice (mkA ob2) xs.length cap2:=by
           obtain ⟨yq,hyq0,_,hyq⟩:=Zea hq (fun _ e=>by cases e) rfl rfl;obtain ⟨oq,cq,gq1,gq2⟩:=hyq _ he2;have f1:γ k2 = .own ob2 cap2:=f1;rw [f1] at gq1;cases gq1;exact ((List.cons.inj hyq0).1).trans gq2
          have hs:St N w0 v0 [] (.own (some b) ty0 1 m.length cap (Zm rows m) :: .own ob2 ty3 s.n xs.length cap2 cs2 :: (e1++e2++E'.flatten)) v a w:=by
           refine hr.st.perm ((h3.trans (List.Perm.append_left _ hsp3)).trans ?_);simp only [List.cons_append];exact List.Perm.swap _ _ _
          obtain ⟨σ,hσ,ee1,ee2⟩:=hs.ev2 x y;rw [hy0] at ee1;rw [hq1] at ee2;have hS1:Sized P t ([Value.slice (mkA ob2) xs.length cap2]:List Value).length sz.2:=by
           have:sz.1=1:=b1.symm;rw [this] at hS;exact hS
          have hfit:0+e1.length*1+([Value.slice (mkA ob2) xs.length cap2]:List Value).length≤(Zm rows m).length:=by
           rw [Zpd hrl];simp only [List.length_singleton];omega
          obtain ⟨w',hrun,hst⟩:=Zhd (P:=P) hσ hS1 (cs:=[Value.slice (mkA ob2) xs.length cap2]) (z:=.slice (mkA ob2) xs.length cap2) (Z1c rfl) rfl (i:=0) rfl hfit rfl;have hh':(Zm rows m).take (0+e1.length*1)++[Value.slice (mkA ob2) xs.length cap2]++(Zm rows m).drop (0+e1.length*1+1)=Zm (rows.set e1.length (ob2,cap2)) (m.set e1.length xs):=by
           rw [Nat.zero_add,Nat.mul_one];exact hh
          have hst:=hst.bare;simp only [List.set_cons_zero,List.length_singleton] at hst;rw [hh'] at hst;have hst':St N w0 v0 [] (.own (some b) ty0 1 (m.set e1.length xs).length cap (Zm (rows.set e1.length (ob2,cap2)) (m.set e1.length xs)) :: (e1 ++ .own ob2 ty3 s.n xs.length cap2 cs2 :: e2)++E'.flatten) v a w':=by
           rw [List.length_set];refine hst.perm ?_;simp only [List.cons_append,List.append_assoc];exact List.Perm.cons _ List.perm_middle.symm
          have hle:Le U v γ (era l k2) v (Zcc γ kk (.mat (some b) cap (rows.set e1.length (ob2,cap2)))) (⟨kk,n,.mat ty0 ty3 s (m.set e1.length xs) n⟩ :: era (era l k2) kk):=Le.upd r2 he' (Zb.le_refl _) (fun _ hne=>Z7b hne) ⟨rfl,by simp,⟨_,_,_,_,g1,Z3a,fun e=>absurd e hn⟩,fun e=>absurd e hn⟩;subst ho;exact ZOf (r2.upd hX (r2.ul _ (Zq he').1).1 hsp2 hst' hle (fun _ hne=>Z7b hne) ⟨some b,cap,rows.set e1.length (ob2,cap2),_,Z3a,k3,rfl⟩ (List.Perm.refl _) hX) hU rfl (hrun ee1 ee2) h
         ·exact h.elim
       | box _ _=>exact h.elim
       | mid _ _ _ _ _ _=>exact h.elim
       | mat _ _ _ _ _=>exact h.elim
     | box _ _=>exact h.elim
     | own _ _ _ _=>exact h.elim
    · -- another row's header
     rename_i u2 j hv2 cv2 t2 r2 _ _;obtain ⟨en,he,h⟩:=h;obtain ⟨yy,hy0,_,hy⟩:=Zea hp (fun _ e=>by cases e) rfl rfl;have hy0:a.eval x=yy:=(List.cons.inj hy0).1;have hy:=hy en he;obtain ⟨yq,hq0,_,hqy⟩:=Zea hq (fun _ e=>by cases e) rfl rfl;have hq0:a.eval y=yq:=(List.cons.inj hq0).1;obtain ⟨kk,st,L⟩:=en;obtain ⟨hm,hkk⟩:=Zq he;have hkk:kk=u:=hkk;subst hkk;have hS1:∀ z:Value,Sized P t ([z]:List Value).length sz.2:=fun z=>by
      have:sz.1=1:=b1.symm;rw [this] at hS;exact hS
     cases L with
     | mat ty0 ty2 s m hv =>
      simp only at h;split at h
      ·rename_i bu bh;have bu:=Nat.eq_of_beq_eq_true bu;have bh:=Nat.eq_of_beq_eq_true bh;subst bu bh;obtain ⟨b,cap,rows,g1,rfl,g3,g4⟩:=hy;obtain ⟨ob',cap',rows',obi,capi,j1,j2,rfl,⟨rj,j3,j4⟩,_⟩:=hqy _ he rfl;rw [g1] at j1;cases j1;obtain ⟨es,E',h1,h2,_,h3,_⟩:=hr.del he;obtain ⟨ob2,cap2,rows2,es3,q1,q2,rfl⟩:=h1;have q1:γ u2 = .mat ob2 cap2 rows2:=q1;rw [g1] at q1;cases q1;have hrl:=ZZf q2;have hs:=hr.st.perm h3;obtain ⟨σ,hσ,ee1,ee2⟩:=hs.ev2 x y;rw [hy0] at ee1;rw [hq0] at ee2;have hfit:0+i*1+([Value.slice (mkA obi) r2.length capi]:List Value).length≤(Zm rows m).length:=by
        rw [Zpd hrl];simp only [List.length_singleton];omega
       obtain ⟨w',hrun,hst⟩:=Zhd (P:=P) hσ (hS1 _) (cs:=[Value.slice (mkA obi) r2.length capi]) (z:=.slice (mkA obi) r2.length capi) (Z1c rfl) rfl (i:=0) rfl hfit rfl;have hst:=hst.bare;simp only [List.set_cons_zero,List.length_singleton,List.cons_append] at hst;have hset:(Zm rows m).take (0+i*1)++[Value.slice (mkA obi) r2.length capi]++(Zm rows m).drop (0+i*1+1)=(Zm rows m).set i (.slice (mkA obi) r2.length capi):=by
        rw [List.set_eq_take_append_cons_drop,if_pos (by rw [Zpd hrl];exact g3)];simp
       rw [hset] at hst;have hjj:(Zm rows m)[j]? = some (.slice (mkA obi) r2.length capi):=by
        rw [Zih j2 j3,j4]
       have hle:Le U v γ l v γ (⟨u2,n,.mid ty0 ty2 s m hv (.swp i j)⟩ :: era l u2):=Le.upd hr he (Zb.le_refl _) (fun _ _=>rfl) ⟨rfl,rfl,⟨_,_,_,_,g1,g1,fun _=>⟨rfl,rfl,rfl⟩⟩,fun e=>absurd e hn⟩;subst ho;exact ZOf (hr.upd hX (hr.ul _ hm).1 h2 hst hle (fun _ _=>rfl) ⟨some b,cap,rows,es3,_,es3,g1,q2,⟨rfl,g3,_,hjj,rfl⟩,rfl⟩ (List.Perm.refl _) (hr.ul _ hm).2.2) hU rfl (hrun ee1 ee2) h
      ·exact h.elim
     | mid ty0 ty2 s m hv sm =>
      cases sm with
      | hol _=>exact h.elim
      | swp i0 j0 =>
       simp only at h;split at h
       ·rename_i bu bh;have bu:=Nat.eq_of_beq_eq_true bu;have bh:=Nat.eq_of_beq_eq_true bh;subst bu bh;obtain ⟨_,q1,_,q2,h⟩:=h;have q1:i=j0:=by
         unfold eqN at q1;split at q1
         ·assumption
         ·cases q1
        have q2:j=i0:=by
         unfold eqN at q2;split at q2
         ·assumption
         ·cases q2
        subst q1 q2;obtain ⟨b,cap,rows,g1,rfl,g3,g4⟩:=hy;obtain ⟨ob',cap',rows',obi,capi,j1,j2,rfl,⟨rj,j3,j4⟩,_⟩:=hqy _ he rfl;rw [g1] at j1;cases j1;obtain ⟨es,E',h1,h2,_,h3,_⟩:=hr.del he;obtain ⟨ob2,cap2,rows2,es3,hs0,es4,q1,q2,⟨rfl,q3,hx,q4,rfl⟩,rfl⟩:=h1;have q1:γ u2 = .mat ob2 cap2 rows2:=q1;rw [g1] at q1;cases q1;have hrl:=ZZf q2;have hs:=hr.st.perm h3;obtain ⟨σ,hσ,ee1,ee2⟩:=hs.ev2 x y;rw [hy0] at ee1;rw [hq0] at ee2;have hfit:0+i*1+([Value.slice (mkA obi) r2.length capi]:List Value).length≤((Zm rows m).set j hx).length:=by
         rw [List.length_set,Zpd hrl];simp only [List.length_singleton];omega
        obtain ⟨w',hrun,hst⟩:=Zhd (P:=P) hσ (hS1 _) (cs:=[Value.slice (mkA obi) r2.length capi]) (z:=.slice (mkA obi) r2.length capi) (Z1c rfl) rfl (i:=0) rfl hfit rfl;have hst:=hst.bare;simp only [List.set_cons_zero,List.length_singleton,List.cons_append] at hst;have hset:((Zm rows m).set j hx).take (0+i*1)++[Value.slice (mkA obi) r2.length capi]++((Zm rows m).set j hx).drop (0+i*1+1)=((Zm rows m).set j hx).set i (.slice (mkA obi) r2.length capi):=by
         rw [List.set_eq_take_append_cons_drop (l:=(Zm rows m).set j hx),if_pos (by rw [List.length_set,Zpd hrl];exact g3)];simp
        rw [hset] at hst;obtain ⟨pi,hpi⟩:∃ p,rows[i]? = some p:=⟨_,List.getElem?_eq_getElem (by omega)⟩;obtain ⟨ri,hri⟩:∃ r,m[i]? = some r:=⟨_,List.getElem?_eq_getElem g3⟩;have hhx:hx=Zld pi ri:=by
         rw [Zih hpi hri] at q4;exact (Option.some.inj q4).symm
        have hhj:Value.slice (mkA obi) r2.length capi=Zld (obi,capi) rj:=by unfold Zld;rw [j4]
        obtain ⟨w1,es5,w2,w3⟩:=Ztt q2 j2 hpi j3 hri;rw [hhx,hhj,w1] at hst;have hln:(ZWc m j i).length=m.length:=by unfold ZWc;simp
        have hst':St N w0 v0 [] (.own (some b) ty0 1 (ZWc m j i).length cap (Zm ((rows.set j pi).set i (obi,capi)) (ZWc m j i)) :: es5++E'.flatten) v a w':=by
         rw [hln];refine hst.perm ?_;simp only [List.cons_append];exact List.Perm.cons _ (List.Perm.append_right _ w2.symm)
        have hle:Le U v γ l v (Zcc γ u2 (.mat (some b) cap ((rows.set j pi).set i (obi,capi)))) (⟨u2,n,.mat ty0 ty2 s (ZWc m j i) n⟩ :: era l u2):=Le.upd hr he (Zb.le_refl _) (fun _ hne=>Z7b hne) ⟨rfl,hln,⟨_,_,_,_,g1,Z3a,fun e=>absurd e hn⟩,fun e=>absurd e hn⟩;subst ho;exact ZOf (hr.upd hX (hr.ul _ hm).1 h2 hst' hle (fun _ hne=>Z7b hne) ⟨some b,cap,_,_,Z3a,w3,rfl⟩ (List.Perm.refl _) hX) hU rfl (hrun ee1 ee2) h
       ·exact h.elim
     | box _ _=>exact h.elim
     | own _ _ _ _=>exact h.elim
    ·exact h.elim
   · -- an element of a row
    rename_i u i j hv cv s r x0 off;split at h
    ·rename_i z hz;obtain ⟨yy,hy0,_,hy⟩:=Zea hp (fun _ e=>by cases e) rfl rfl;have hy0:a.eval x=yy:=(List.cons.inj hy0).1;obtain ⟨⟨kz,sz0,Lz⟩,hez,h⟩:=h;have hLz:∃ ty ty2 t m hv,Lz = .mat ty ty2 t m hv:=by
      cases Lz with
      | mat ty ty2 t m hv=>exact ⟨_,_,_,_,_,rfl⟩
      | _=>exact h.elim
     obtain ⟨_,_,_,_,_,rfl⟩:=hLz;obtain ⟨y1,l1,γ1,v1,ℓ1,hB,r1,le1,q1⟩:=Zgd hn hX FU h hr (Zni FU hz trivial hkq);obtain ⟨en,he,hC⟩:=hB;have hp1:=Zyb le1 hk hp;obtain ⟨yy',hy0',_,hy1⟩:=Zea hp1 (fun _ e=>by cases e) rfl rfl;have hy0':a.eval x=yy':=(List.cons.inj hy0').1;have hy1:=hy1 en he;obtain ⟨kk,st,L⟩:=en;obtain ⟨hm,hkk⟩:=Zq he;have hkk:kk=u:=hkk;subst hkk
     cases L with
     | mat ty0 ty2 s' m hv' =>
      simp only at hC;split at hC
      ·rename_i b4 b5;have b4:=Nat.eq_of_beq_eq_true b4;have b5:=Nat.eq_of_beq_eq_true b5;subst b4 b5;split at hC
       ·rename_i r' hr';obtain ⟨ob,cap,rows,bi,capi,g1,g2,rfl,_,g4,g6⟩:=hy1 rfl;obtain ⟨⟨m',c1,c2⟩,cx⟩:=g6 rfl;obtain ⟨c3,c4⟩:=Z1 c1
        cases c3;cases c4
        have hr':r.set j y1=r':=by
         obtain ⟨c5,c6⟩:=Z1 hr';exact c6
        subst hr';obtain ⟨⟨k0,st0,L0⟩,he0,hce⟩:=le1.l _ _ hk.1 he;obtain ⟨es,E',h1,h2,_,h3,_⟩:=r1.del he;obtain ⟨ob',cap',rows',es3,f1,f2,rfl⟩:=h1;have f1:γ1 kk = .mat ob' cap' rows':=f1;rw [g1] at f1;cases f1
        cases L0 with
        | mat ty1 ty3 t1 m1 hv1 =>
         obtain ⟨d1,d2,⟨obx,capx,rowsx,rowsy,d3,d4,d5⟩,d6⟩:=hce;obtain ⟨d7,d8⟩:=d6 hk.2.2
         cases d8
         obtain ⟨d9,d10,_⟩:=d5 hk.2.1;rw [g1] at d4;cases d4;subst d10;obtain ⟨c,hc1,hc2⟩:=ZXo hr he0 d3 g2 c2 cx;obtain ⟨c',hc1',hc2'⟩:=ZXo r1 he g1 g2 c2 cx;have e1:=Zjj hc2 hc2' ((Rep.len _ hc1).trans (Rep.len _ hc1').symm);obtain ⟨z1',_,zfit⟩:=Zxm hz hc1 hcs hkq;have q2:=q1 _ z1';rw [hlen] at q2 zfit;obtain ⟨csx,ea,eb,k1,k2,k3⟩:=ZIo f2 g2 c2;subst k1;have hs:St N w0 v0 [] (.own (some bi) ty2 s.n r.length capi csx :: .own ob ty0 1 m.length cap (Zm rows m) :: (ea++eb++E'.flatten)) v1 a w:=by
          refine r1.st.perm (h3.trans ?_);simp only [List.cons_append,List.append_assoc];exact (List.Perm.cons _ List.perm_middle).trans (List.Perm.swap _ _ _)
         have hrel:=ZIa k2 cx;rw [ZR] at hrel;have hl3:=Rep.len _ hrel;have hl1:=Rep.len _ hc1;rw [ZR] at hl3 hl1;have hcell:(csx.drop (j*s.n)).take s.n=c:=by
          have hw:=Z8d hs (j:=0) rfl rfl g4 0 ((csx.drop (j*s.n)).take s.n) (by rw [hl3,List.drop_zero,List.take_take,Nat.min_self]) (by omega);exact Zjj (by simpa using hw) hc2 (hl3.trans hl1.symm)
         obtain ⟨σ,hσ,e1,e2⟩:=hs.ev2 x y;rw [hy0'] at e1;rw [hqe] at e2;have hset:=Zgs k2 g4 hcell q2 (ZR s).symm (by omega);have hfit2:0+j*s.n+off+sz.1≤csx.length:=Z8q hs (j:=0) rfl g4 (by omega);obtain ⟨w',hrun,hst⟩:=Zhd (P:=P) hσ hS hcells hlen (i:=0) rfl hfit2 hpl;rw [hlen] at hst;have hst:=hst.bare;obtain ⟨k4,k5⟩:=k3 (r.set j y1) _ (List.length_set ..) hset;have hst':St N w0 v0 [] (.own ob ty0 1 (m.set i (r.set j y1)).length cap (Zm rows (m.set i (r.set j y1))) :: (ea ++ .own (some bi) ty2 s.n r.length capi (csx.take (0+j*s.n+off)++cs++csx.drop (0+j*s.n+off+sz.1)) :: eb)++E'.flatten) v1 a w':=by
          rw [List.length_set,k4];refine hst.perm ?_;simp only [List.set_cons_zero,List.cons_append,List.append_assoc];exact (List.Perm.swap _ _ _).trans (List.Perm.cons _ List.perm_middle.symm)
         have hle:Le U v1 γ1 l1 v1 γ1 (⟨kk,n,.mat ty0 ty2 s (m.set i (r.set j y1)) hv'⟩ :: era l1 kk):=Le.upd r1 he (Zb.le_refl _) (fun _ _=>rfl) ⟨rfl,by simp,⟨_,_,_,_,g1,g1,fun _=>⟨rfl,rfl,ZMt c2 (List.length_set ..)⟩⟩,fun e=>absurd e hn⟩;subst ho;exact ZOf (r1.upd hX (r1.ul _ hm).1 h2 hst' hle (fun _ _=>rfl) ⟨ob,cap,rows,_,g1,k5,rfl⟩ (List.Perm.refl _) (r1.ul _ hm).2.2) hU rfl (hrun e1 e2) hC
        | box _ _=>exact hce.elim
        | mid _ _ _ _ _ _=>rw [he0] at hez;cases hez
        | own _ _ _ _=>exact hce.elim
       ·exact hC.elim
      ·exact hC.elim
     | box _ _=>exact hC.elim
     | mid _ _ _ _ _ _=>exact hC.elim
     | own _ _ _ _=>exact hC.elim
    ·exact h.elim
   ·exact h.elim
  ·exact h.elim
end
end Go.Eng
namespace Go.Eng
open Go.RowKit
def Zid:Rep Value where
 n:=1
 agg:=false
 rel _ cs x:=cs=[x]∧plain x=true
 len h:=by rw [h.1];rfl
 mono _ h:=h
 flat h:=by obtain ⟨h1,h2⟩:=h;rw [h1];simp [h2]
theorem ZNm {v:Zb}:∀ {l:List Value},l.all plain=true→Zid.rels v l l
 | [],_=>rfl
 | x :: l,h=>by
  simp only [List.all_cons,Bool.and_eq_true] at h
  exact ⟨[x],l,rfl,⟨rfl,h.1⟩,ZNm h.2⟩
theorem ZBl {v:Zb}:∀ {l cs:List Value},Zid.rels v cs l→cs=l
 | [],cs,h=>h
 | x :: l,cs,h=>by
  obtain ⟨c1,c2,h1,h2,h3⟩:=h
  rw [h1,h2.1,ZBl h3];rfl
theorem Zzm {α:Type}:∀ {rows:List (Option Nat×Nat)} {m:List (List α)},(Zm rows m).all plain=true
 | [],_=>rfl
 | _ :: _,[]=>rfl
 | p :: ps,r :: rs=>by
  have:=Zzm (rows:=ps) (m:=rs)
  simp only [Zm,List.all_cons,this,Bool.and_true]
  obtain ⟨ob,cap⟩:=p
  cases ob <;> rfl
theorem Zlr {α:Type}:∀ {rows rows2:List (Option Nat×Nat)} {m m2:List (List α)},rows.length=m.length→Zm (rows++rows2) (m++m2)=Zm rows m++Zm rows2 m2
 | [],_,[],_,_=>rfl
 | p :: ps,rows2,r :: rs,m2,h=>by
  have:=Zlr (rows:=ps) (rows2:=rows2) (m:=rs) (m2:=m2) (by simpa using h)
  simp [Zm,this]
 | [],_,_ :: _,_,h=>by cases h
 | _ :: _,_,[],_,h=>by cases h
theorem ZAr {v:Zb} {ty:TypeId} {t:T}:∀ {rows rows2:List (Option Nat×Nat)} {m m2:List (List t.den)} {es es2:List Loc},Zja v ty t rows m es→Zja v ty t rows2 m2 es2→Zja v ty t (rows++rows2) (m++m2) (es++es2)
 | [],_,[],_,es,_,h,k=>by rw [show es=[] from h];exact k
 | p :: ps,rows2,r :: rs,m2,es,es2,⟨cs,es',h1,h2,h3⟩,k=>by
  subst h2
  exact ⟨cs,es'++es2,h1,rfl,ZAr h3 k⟩
 | [],_,_ :: _,_,_,_,h,_=>h.elim
 | _ :: _,_,[],_,_,_,h,_=>h.elim
theorem ZHt {v:Zb} {ty:TypeId} {t:T} {rows:List (Option Nat×Nat)} {m:List (List t.den)} {es:List Loc} {i:Nat} {p:Option Nat×Nat} {r:List t.den} (h:Zja v ty t rows m es) (hp:rows[i]? = some p) (hr:m[i]? = some r) :
  ∃ cs e1 e2,es=e1 ++ .own p.1 ty t.n r.length p.2 cs :: e2∧e1.length=i∧t.rep.rels v cs r:=by
 obtain ⟨k1,k2,k3⟩:=ZIf.1 h;obtain ⟨cs,q1,q2⟩:=k3 i p r hp hr;have hlt:=(List.getElem?_eq_some_iff.1 q2).1;refine ⟨cs,es.take i,es.drop (i+1),?_,by simp;omega,q1⟩;rw [← (List.getElem?_eq_some_iff.1 q2).2,← List.drop_eq_getElem_cons hlt,List.take_append_drop]
section
variable {P:Program} {N:Nat} {G:V→Value→Prop} {w0:Base} {v0:Zb} {U X:Nat→Prop} {f:Fr} {l:Lo} {a:Act} {w:World} {γ:Nat→Gh} {v:Zb} {ℓ:List Loc} {n:Nat}
variable {ty:TypeId} {pos:String} {aft:Array Edge} {g:Option (Nat×Bool)}
theorem Zik (hr:RelX N G w0 v0 U X f l a w γ v ℓ) (hU:∀ k,U k→X k) (hX:X n) (hn:¬ U n) {e e2:TypeId} {s:T} {m:List (List s.den)} {rows:List (Option Nat×Nat)} {o:Oper} {ob:Option Nat} {cap:Nat} {w':World} {es ℓ':List Loc} {E:List (List Loc)} {Post:Unit→Fr→Lo→Prop} (hd:∀ k,o.dst=some k→k<N) (hE:F2 (Zva v γ l) l E) (hℓ:ℓ'=E.flatten)
  (hR:Zja v e2 s rows m es) (hst:St N w0 v0 [] (.own ob e 1 m.length cap (Zm rows m) :: es++ℓ') v a w') (hrun:(execOp a.eval o).run P w = .ok (.value (.slice (mkA ob) m.length cap)) w') (h:Zl n (Ev.new n (.mat e e2 s m n) (ret o (.own n))) f l Post):Zqa P N G w0 v0 X o a w Post:=by
 obtain ⟨hnew,h⟩:=h;have hr':=hr.new (γ':=Zcc γ n (.mat ob cap rows)) (L':=.mat e e2 s m n) hX hX hn hnew hE hst (Zb.le_refl _) (fun _ h=>Z7b h) ⟨ob,cap,rows,es,Z3a,hR,rfl⟩ (by rw [hℓ]) hX;refine fin (x:=.own n) (hr'.mono hU fun _ h=>h) hrun hd hX ⟨[_],⟨_,rfl,by cases ob <;> rfl,fun e' he'=>?_⟩,rfl⟩ hX h;rw [ZS,if_pos rfl] at he';cases he';exact ⟨_,_,_,Z3a,rfl⟩
theorem RelX.take (hr:RelX N G w0 v0 U X f l a w γ v ℓ) (hX:X n) (hn:¬ U n) {u st hv i:Nat} {ty0 ty2:TypeId} {t:T} {m:List (List t.den)} {r:List t.den} (he:lkE l u=some ⟨u,st,.mat ty0 ty2 t m hv⟩) {ob:Option Nat} {cap:Nat} {rows:List (Option Nat×Nat)} {p:Option Nat×Nat} (hγ:γ u = .mat ob cap rows) (hp:rows[i]? = some p) (hm:m[i]? = some r) :
  ∃ cs ℓ' E',t.rep.rels v cs r∧RelX N G w0 v0 U X f (⟨u,n,.mid ty0 ty2 t m hv (.hol i)⟩ :: era l u) a w γ v ℓ'∧F2 (Zva v γ (⟨u,n,.mid ty0 ty2 t m hv (.hol i)⟩ :: era l u)) (⟨u,n,.mid ty0 ty2 t m hv (.hol i)⟩ :: era l u) E'∧ℓ'=E'.flatten∧St N w0 v0 [] (.own p.1 ty2 t.n r.length p.2 cs :: ℓ') v a w:=by
 obtain ⟨es,E',h1,h2,_,h3,_⟩:=hr.del he;obtain ⟨ob',cap',rows',es3,f1,f2,rfl⟩:=h1;have f1:γ u = .mat ob' cap' rows':=f1;rw [hγ] at f1;cases f1;obtain ⟨cs,e1,e2,k1,k2,k3⟩:=ZHt f2 hp hm;subst k1;have hs:St N w0 v0 [] (.own p.1 ty2 t.n r.length p.2 cs :: (.own ob ty0 1 m.length cap (Zm rows m) :: (e1++e2)++E'.flatten)) v a w:=by
  refine hr.st.perm (h3.trans ?_);simp only [List.cons_append,List.append_assoc];exact (List.Perm.cons _ List.perm_middle).trans (List.Perm.swap _ _ _)
 have hle:Le U v γ l v γ (⟨u,n,.mid ty0 ty2 t m hv (.hol i)⟩ :: era l u):=Le.upd hr he (Zb.le_refl _) (fun _ _=>rfl) ⟨rfl,rfl,⟨_,_,_,_,hγ,hγ,fun _=>⟨rfl,rfl,rfl⟩⟩,fun e=>absurd e hn⟩;have hrl:Zva v γ (⟨u,n,.mid ty0 ty2 t m hv (.hol i)⟩ :: era l u) ⟨u,n,.mid ty0 ty2 t m hv (.hol i)⟩ (.own ob ty0 1 m.length cap (Zm rows m) :: (e1++e2)):=⟨ob,cap,rows,_,_,_,hγ,f2,⟨rfl,e1,_,e2,rfl,k2,rfl⟩,rfl⟩;have r2:=hr.upd hX (hr.ul _ (Zq he).1).1 h2 (hs.drop (List.sublist_cons_self _ _)) hle (fun _ _=>rfl) hrl (List.Perm.refl _) (hr.ul _ (Zq he).1).2.2;obtain ⟨E2,hE2,hp2⟩:=r2.lr;exact ⟨cs,E2.flatten,E2,k3,⟨r2.st.perm hp2,r2.fr,⟨E2,hE2,List.Perm.refl _⟩,r2.nd,r2.uf,r2.ul,r2.gh⟩,hE2,rfl,hs.perm (List.Perm.cons _ hp2)⟩
end
end Go.Eng
namespace Go.Eng
open Go.RowKit
theorem ZTe {cs r:List Value} (h:zSl cs=some r):cs = .slice none 0 0 :: r:=by
 unfold zSl at h;split at h
 ·cases h;rfl
 ·cases h
theorem ZAp {v:Zb}:∀ {t:T} {cs r:List Value} {x:t.den},zOK t cs=some r→Zwf t=some x→∃ c1,cs=c1++r∧t.rep.rel v c1 x:=by
 intro t
 induction t with
 | int k =>
  intro cs r x h hx;unfold zOK at h
  cases hx
  split at h <;> try (cases h;done)
  all_goals (rename_i heq;cases heq)
  rename_i k' n rest;split at h
  ·rename_i hk
   cases h
   have:=Zbc hk;subst this;exact ⟨[_],rfl,rfl,by cases k <;> decide⟩
  ·cases h
 | bool =>
  intro cs r x h hx;unfold zOK at h
  cases hx
  split at h <;> try (cases h;done)
  all_goals (rename_i heq;cases heq)
  cases h
  exact ⟨[_],rfl,rfl⟩
 | flt k =>
  intro cs r x h hx;unfold zOK at h
  cases hx
  split at h <;> try (cases h;done)
  all_goals (rename_i heq;cases heq)
  split at h
  ·rename_i hk
   cases h
   have:=Z3r hk;subst this;exact ⟨[_],rfl,rfl,by decide⟩
  ·cases h
 | str =>
  intro cs r x h hx;unfold zOK at h
  cases hx
  split at h <;> try (cases h;done)
  all_goals (rename_i heq;cases heq)
  rename_i s rest;split at h
  ·rename_i hs
   cases h
   refine ⟨[_],rfl,?_,by show ([]:List UInt8).length≤maxLen;exact Nat.zero_le _⟩;have:s=Zs []:=by
    cases s with
    | mk d=>show _=ByteArray.mk _;congr 1;exact Array.ext' hs
   rw [this]
  ·cases h
 | one a ih =>
  intro cs r x h hx;simp only [zOK] at h;obtain ⟨c1,h1,h2⟩:=ih h hx;exact ⟨c1,h1,h2⟩
 | pair a b ia ib =>
  intro cs r x h hx;simp only [zOK] at h;simp only [Zwf] at hx;split at hx
  ·rename_i x1 x2 hx1 hx2
   cases hx
   split at h
   ·rename_i r1 hr1;obtain ⟨c1,h1,h2⟩:=ia hr1 hx1;obtain ⟨c2,h3,h4⟩:=ib h hx2;exact ⟨c1++c2,by rw [h1,h3,List.append_assoc],c1,c2,rfl,h2,h4⟩
   ·cases h
  ·cases hx
 | ptr a _=>intro cs r x h hx;cases hx
 | slice a _ =>
  intro cs r x h hx
  cases hx
  simp only [zOK] at h;exact ⟨[_],ZTe h,ZFh _ _⟩
 | leaf i =>
  intro cs r x h hx;unfold zOK at h;split at h <;> try (cases h;done)
  all_goals (rename_i heq;cases heq)
  ·cases hx;exact ⟨[_],ZTe h,Z2h _⟩
  ·cases hx;exact ⟨[_],ZTe h,ZHi _⟩
  ·cases hx;rw [ZTe h];exact ⟨[_,_],rfl,Z2s _⟩
  ·cases hx
   split at h
   ·rename_i r1 hr1;rw [ZTe hr1,ZTe h];exact ⟨[_,_,_],rfl,Z7x _⟩
   ·cases h
section
variable {P:Program} {N:Nat} {G:V→Value→Prop} {w0:Base} {v0:Zb} {U X:Nat→Prop} {f:Fr} {l:Lo} {a:Act} {w:World} {γ:Nat→Gh} {v:Zb} {ℓ:List Loc} {n:Nat}
variable {ty:TypeId} {pos:String} {aft:Array Edge} {g:Option (Nat×Bool)}
theorem Zah {t:T} {cs r:List Value} {z:V} (h:Zmf t cs=some (z,r)):∃ c1,cs=c1++r∧RR v γ l false z c1∧z.ok U∧c1.all plain=true:=by
 unfold Zmf at h;split at h
 ·rename_i x r' hx hr
  cases h
  obtain ⟨c1,h1,h2⟩:=ZAp (v:=v) hr hx;exact ⟨c1,h1,h2,trivial,Rep.flat _ h2⟩
 ·cases h
theorem ZWq {F:TypeId→List Value→Option (V×List Value)} (hF:∀ t cs z r,F t cs=some (z,r)→∃ c1,cs=c1++r∧RR v γ l false z c1∧z.ok U∧c1.all plain=true) :
  ∀ {fs:List Field} {cs r:List Value} {z:V},Z2i F fs cs=some (z,r)→∃ c1,cs=c1++r∧RR v γ l false z c1∧z.ok U∧c1.all plain=true
 | [],cs,r,z,h=>by cases h;exact ⟨[],rfl,rfl,trivial,rfl⟩
 | x :: fs,cs,r,z,h=>by
  simp only [Z2i] at h
  split at h
  ·rename_i y cs1 hy
   split at h
   ·rename_i c cs2 hc
    cases h
    obtain ⟨c1,h1,h2,h3,h4⟩:=hF _ _ _ _ hy
    obtain ⟨c2,k1,k2,k3,k4⟩:=ZWq hF hc
    exact ⟨c1++c2,by rw [h1,k1,List.append_assoc],⟨c1,c2,rfl,h2,k2⟩,⟨h3,k3⟩,by rw [List.all_append,h4,k4];rfl⟩
   ·cases h
  ·cases h
theorem Z5q {F:List Value→Option (V×List Value)} (hF:∀ cs z r,F cs=some (z,r)→∃ c1,cs=c1++r∧RR v γ l false z c1∧z.ok U∧c1.all plain=true):∀ {k:Nat} {cs r:List Value} {c:V},zRep F k cs=some (c,r)→∃ c1,cs=c1++r∧RR v γ l false c c1∧c.ok U∧c1.all plain=true
 | 0,cs,r,c,h=>by cases h;exact ⟨[],rfl,rfl,trivial,rfl⟩
 | k+1,cs,r,c,h=>by
  simp only [zRep] at h
  split at h
  ·rename_i x cs1 hx
   split at h
   ·rename_i c' cs2 hc
    cases h
    obtain ⟨c1,rfl,h2,h3,h4⟩:=hF _ _ _ hx
    obtain ⟨c2,rfl,k2,k3,k4⟩:=Z5q hF hc
    exact ⟨c1++c2,by simp,⟨c1,c2,rfl,h2,k2⟩,⟨h3,k3⟩,by rw [List.all_append,h4,k4];rfl⟩
   ·cases h
  ·cases h
theorem Znm {C:Cf}:∀ (g:Nat) {t:TypeId} {cs r:List Value} {z:V},Zci C g t cs=some (z,r)→∃ c1,cs=c1++r∧RR v γ l false z c1∧z.ok U∧c1.all plain=true
 | 0,_,_,_,_,h=>by cases h
 | g+1,t,cs,r,z,h=>by
  simp only [Zci] at h
  split at h
  ·split at h
   ·cases h
    exact ⟨[_,_,_],rfl,⟨[_],[_,_],rfl,rfl,[_],[_],rfl,ZHi _,[_],[],rfl,ZHi _,rfl⟩,⟨trivial,trivial,trivial,trivial⟩,rfl⟩
   ·cases h
  ·exact Zah h
  ·split at h
   ·exact Zah h
   ·exact Zah h
   ·exact Zah h
   ·exact Zah h
   ·split at h
    ·rename_i r' hr
     cases h
     exact ⟨[_],ZTe hr,rfl,trivial,rfl⟩
    ·cases h
   ·split at h
    ·rename_i c r' hc
     cases h
     obtain ⟨c1,h1,h2,h3,h4⟩:=ZWq (fun t cs z r h=>Znm g h) hc
     exact ⟨c1,h1,h2,h3,h4⟩
    ·cases h
   ·split at h
    ·rename_i c r' hc
     cases h
     obtain ⟨c1,h1,h2,h3,h4⟩:=Z5q (fun cs z r h=>Znm g h) hc
     exact ⟨c1,h1,h2,h3,h4⟩
    ·cases h
   ·cases h
theorem Z0m {C:Cf} {t:TypeId} {z:V} (h:ZXi C t=some z):∃ y cs,(∀ w,(zeroValue t).run C.P w = .ok y w)∧y.cells=cs.toArray∧RR v γ l false z cs∧z.ok U∧cs.all plain=true:=by
 unfold ZXi at h;split at h
 ·rename_i i hi;split at h
  ·rename_i y hy;split at h
   ·rename_i x hx
    cases h
    obtain ⟨c1,h1,h2,h3,h4⟩:=Znm (v:=v) (γ:=γ) (l:=l) (U:=U) FU hx;rw [List.append_nil] at h1;refine ⟨y,c1,fun w=>by simp [zeroValue,typeInfo,hi,hy],by rw [← h1],h2,h3,h4⟩
   ·cases h
  ·cases h
 ·cases h
theorem ZZq (hr:RelX N G w0 v0 U X f l a w γ v ℓ) (hU:∀ k,U k→X k) (hX:X n) (hn:¬ U n) {t:TypeId} {o:Oper} {c:V} {cs:List Value} {Post:Unit→Fr→Lo→Prop} (hd:∀ k,o.dst=some k→k<N) (hc:RR v γ l false c cs) (hk:c.ok U) (hp:cs.all plain=true)
  (hrun:(execOp a.eval o).run P w = .ok (.value (.pointer (some ⟨w.heap.size,0,none⟩))) (w.alloc (.cells cs.toArray t))) (h:Zl n (Ev.new n (.box t c) (ret o (.ptr n 0))) f l Post):Zqa P N G w0 v0 X o a w Post:=by
 obtain ⟨hnew,h⟩:=h;obtain ⟨E,hE,hpm⟩:=hr.lr;have hst:=(hr.st.perm hpm).newLoc (.cells cs.toArray t) (e:=.box w.heap.size t cs) rfl (heap_alloc_new w _);have hle:Le U v γ l v (Zcc γ n (.box w.heap.size)) (⟨n,n,.box t c⟩ :: l):=⟨Zb.le_refl _,fun k e' hk he=>by
  have hne:n≠k:=fun e=>hn (e ▸ hk);rw [ZS,if_neg hne] at he;refine ⟨e',he,?_⟩;obtain ⟨hm,hk'⟩:=Zq he;obtain ⟨es,hrr⟩:=ZGe hE hm;have:=ZZh (U:=U) (γ':=Zcc γ n (.box w.heap.size)) hrr (Z7b (by rw [hk'];exact fun e=>hne e.symm));rw [hk'] at this;exact this⟩
 have hr':=hr.new (γ':=Zcc γ n (.box w.heap.size)) (L':=.box t c) hX hX hn hnew hE hst (Zb.le_refl _) (fun _ h=>Z7b h) ⟨_,cs,Z3a,Zgb hle hk hc,hp,rfl⟩ (List.Perm.refl _) hk;refine fin (x:=.ptr n 0) (hr'.mono hU fun _ h=>h) hrun hd hX ⟨[_],⟨_,rfl,Z9d,fun e' he'=>?_⟩,rfl⟩ hX h;rw [ZS,if_pos rfl] at he';cases he';exact ⟨_,Z3a,rfl⟩
theorem ZFg (hr:RelX N G w0 v0 U X f l a w γ v ℓ) (hU:∀ k,U k→X k) (hX:X n) (hn:¬ U n) {e:TypeId} {s:T} {xs:List s.den} {o:Oper} {ob:Option Nat} {cap:Nat} {cs:List Value} {w':World} {ℓ':List Loc} {E:List (List Loc)} {Post:Unit→Fr→Lo→Prop} (hd:∀ k,o.dst=some k→k<N) (hE:F2 (Zva v γ l) l E) (hℓ:ℓ'=E.flatten)
  (hst:St N w0 v0 [] (.own ob e s.n xs.length cap cs :: ℓ') v a w') (hc:s.rep.rels v cs xs) (hrun:(execOp a.eval o).run P w = .ok (.value (.slice (mkA ob) xs.length cap)) w') (h:Zl n (Ev.new n (.own e s xs false) (ret o (.own n))) f l Post):Zqa P N G w0 v0 X o a w Post:=by
 obtain ⟨hnew,h⟩:=h;have hr':=hr.new (γ':=Zcc γ n (.own ob cap)) (L':=.own e s xs false) hX hX hn hnew hE hst (Zb.le_refl _) (fun _ h=>Z7b h) ⟨ob,cap,cs,Z3a,hc,rfl⟩ (by rw [hℓ];exact List.Perm.refl _) trivial;refine fin (x:=.own n) (hr'.mono hU fun _ h=>h) hrun hd hX ⟨[_],⟨_,rfl,by cases ob <;> rfl,fun e' he'=>?_⟩,rfl⟩ hX h;rw [ZS,if_pos rfl] at he';cases he';exact ⟨_,_,Z3a,rfl⟩
theorem ZVm {t:TypeId} {q:EI} (h:Zjf P t=some q):Elem P t q.e q.sz q.by_ q.z∧0<q.by_:=by
 unfold Zjf at h;split at h
 ·rename_i e he;split at h
  ·rename_i i hi;split at h
   ·rename_i z hz;split at h
    ·rename_i h1 h2 h3
     cases h
     have h1:=Nat.eq_of_beq_eq_true h1;have h2:1≤i.size:=Nat.le_of_ble_eq_true h2;have h3:1≤i.bytes:=Nat.le_of_ble_eq_true h3;exact ⟨⟨he,by simp [hi,hz],by simpa using h1,h2⟩,h3⟩
    ·cases h
   ·cases h
  ·cases h
 ·cases h
theorem Z1r {ρ:Type} {g:Nat} {s:T} {c:V} {k:List s.den→Ev ρ} {Post:ρ→Fr→Lo→Prop} (h:Zl n (conv g (.slice s) (.agg c) k) f l Post):False:=by
 cases g with
 | zero=>exact h
 | succ g =>
  cases c with
  | cons x1 c =>
   cases c with
   | cons x2 r=>simp only [conv] at h;exact h
   | nl=>simp only [conv] at h;exact h
   | _=>simp only [conv] at h;exact h
  | _=>simp only [conv] at h;exact h
theorem ZJk {ρ:Type} {g:Nat} {s:T} {x:V} {k:List s.den→Ev ρ} {Post:ρ→Fr→Lo→Prop} (h:Zl n (conv g (.slice s) x k) f l Post):x.isAgg=false∧∀ c,x ≠ .tup c:=by
 cases x with
 | agg c=>exact (Z1r h).elim
 | tup c =>
  cases g with
  | zero=>exact h.elim
  | succ g=>simp only [conv] at h;exact h.elim
 | data t x =>
  refine ⟨?_,fun c e=>by cases e⟩
  cases g with
  | zero=>exact h.elim
  | succ g =>
   simp only [conv] at h;split at h
   ·rename_i y hy;obtain ⟨e,_⟩:=Z1 hy;subst e;rfl
   ·split at h
    ·rfl
    ·rfl
    ·rfl
    ·rfl
    ·rfl
    ·split at h
     ·exact (Z1r h).elim
     ·exact h.elim
 | _=>exact ⟨rfl,fun c e=>by cases e⟩
theorem Zxf {x:V} {y:Value} (h:x.isAgg=false):x.val [y]=y:=by unfold V.val;rw [h];rfl
theorem ZMq {u2:Nat} {ty' ty2':TypeId} {s':T} {m':List (List s'.den)} {hv:Nat} {y:Operand} {st:Nat} (hq:RV v γ l (.own u2) (a.eval y)) (he:lkE l u2=some ⟨u2,st,.mat ty' ty2' s' m' hv⟩) {ob:Option Nat} {cap:Nat} {rows:List (Option Nat×Nat)} (q1:γ u2 = .mat ob cap rows):a.eval y = .slice (mkA ob) m'.length cap:=by
 obtain ⟨yq,hyq0,_,hyq⟩:=Zea hq (fun _ e=>by cases e) rfl rfl;obtain ⟨oq,cq,rq,gq1,gq2⟩:=hyq _ he;rw [q1] at gq1;cases gq1;exact ((List.cons.inj hyq0).1).trans gq2
theorem Zdo (hr:RelX N G w0 v0 U X f l a w γ v ℓ) (hU:∀ k,U k→X k) (hX:X n) (hn:¬ U n) {d:Option Nat} {t:TypeId} {x y:Operand} {o:Oper} {q:V} {pu:Option Nat} {ei:EI} {Post:Unit→Fr→Lo→Prop} (hE:Elem P t ei.e ei.sz ei.by_ ei.z) (hby:0<ei.by_) (ho:o=⟨d,.call ⟨.builtin .append,#[x,y],#[t,t]⟩,ty,pos,aft,g⟩) (hd:∀ k,o.dst=some k→k<N)
  (hp0:pu=none→a.eval x = .slice none 0 0) (hp1:∀ u,pu=some u→RV v γ l (.own u) (a.eval x)) (hq:RV v γ l q (a.eval y)) (h:Zl n (appM o n ei pu q) f l Post):Zqa P N G w0 v0 X o a w Post:=by
 unfold appM at h;split at h
 ·rename_i u2;obtain ⟨⟨k2,st2,L2⟩,he2,h⟩:=h;have hkk2:k2=u2:=(Zq he2).2;subst hkk2
  cases L2 with
  | mat ty' ty2' s' m' hv' =>
   simp only at h;obtain ⟨es,E',h1,h2,h2',h3,r2⟩:=hr.del he2;obtain ⟨ob2,cap2,rows2,es3,q1,q2,rfl⟩:=h1;have q1:γ k2 = .mat ob2 cap2 rows2:=q1;have hy0:=ZMq hq he2 q1;have hl2:=Zpd (ZZf q2);have hs:=hr.st.perm h3
   cases pu with
   | none =>
    simp only at h;split at h
    ·rename_i b1 b2;have b1:=Nat.eq_of_beq_eq_true b1;have b2:=Nat.eq_of_beq_eq_true b2;obtain ⟨_,hroom,h⟩:=h;obtain ⟨v',hv,hs1,hrel⟩:=hs.pubSlice (i:=0) (A:=Zid) (l:=Zm rows2 m') rfl rfl hl2.symm (ZNm Zzm) rfl;have hs1:St N w0 v0 [] (es3++E'.flatten) v' a w:=hs1;obtain ⟨σ,hσ,e1,e2⟩:=(hs1.nilLoc ei.e 1).ev2 x y;have hE':Elem P t ei.e Zid.n ei.by_ ei.z:=by rw [show Zid.n=ei.sz from b2.symm];exact hE
     obtain ⟨b',cap',cs2,w',hrun,hst',hrel2⟩:=ZYf (ty:=ty) (A:=Zid) hE' hσ (i:=0) rfl hrel (n':=([]++m').length) (by simp) (Zke hroom) hby;have hcs:=ZBl hrel2;subst hcs;rw [hp0 rfl] at e1;rw [hy0] at e2;have r3:=r2.go hv (hs1.drop (List.sublist_append_right _ _));obtain ⟨E3,hE3,hp3⟩:=r3.lr;have hst':=hst'.bare;have hst3:St N w0 v0 [] (.own b' ty' 1 ([]++m').length cap' (Zm rows2 ([]++m')) :: es3++E3.flatten) v' a w':=by
      rw [← b1];exact hst'.perm (by simp only [List.set_cons_zero,List.cons_append];exact List.Perm.cons _ (List.Perm.append_left _ hp3))
     subst ho;exact Zik r3 hU hX hn hd hE3 rfl (Znc hv q2) hst3 (ZRd hσ e1 e2 hrun) h
    ·exact h.elim
   | some u =>
    simp only at h;split at h
    ·exact h.elim
    ·rename_i hne;have hne:u≠k2:=fun e=>by subst e;simp at hne
     obtain ⟨⟨k1,st1,L1⟩,he1,h⟩:=h;have hkk1:k1=u:=(Zq he1).2;subst hkk1
     cases L1 with
     | mat ty1 ty2 s m hv =>
      simp only at h;split at h
      ·rename_i m2 hm2 b1 b2 b3 b4;have b1:=Nat.eq_of_beq_eq_true b1;have b2:=Nat.eq_of_beq_eq_true b2;have b3:=Nat.eq_of_beq_eq_true b3;have b4:=Nat.eq_of_beq_eq_true b4;obtain ⟨c3,c4⟩:=Z1 hm2
       cases c3;cases c4
       subst b1 b2;obtain ⟨_,hroom,h⟩:=h;have he1':lkE (era l k2) k1=some ⟨k1,st1,.mat ty1 ty2 _ m hv⟩:=by
        rw [ZXb hr.nd,if_neg (fun e=>hne e.symm)];exact he1
       obtain ⟨es1,E1,g1,g2,g2',g3,r3⟩:=r2.del he1';obtain ⟨ob1,cap1,rows1,es4,p1,p2,rfl⟩:=g1;have p1:γ k1 = .mat ob1 cap1 rows1:=p1;have hx0:=ZMq (hp1 k1 rfl) he1 p1;have hl1:=ZZf p2;have hs:St N w0 v0 [] (.own ob2 ty1 1 m'.length cap2 (Zm rows2 m') :: (.own ob1 ty1 1 m.length cap1 (Zm rows1 m) :: (es4++es3++E1.flatten))) v a w:=by
        refine hs.perm ?_;simp only [List.cons_append];refine List.Perm.cons _ ((List.Perm.append_left _ g3).trans ?_);simp only [List.cons_append];refine List.perm_middle.trans (List.Perm.cons _ ?_);rw [← List.append_assoc];exact List.Perm.append_right _ List.perm_append_comm
       obtain ⟨v',hv,hs1,hrel⟩:=hs.pubSlice (i:=0) (A:=Zid) (l:=Zm rows2 m') rfl rfl hl2.symm (ZNm Zzm) rfl;have hs1:St N w0 v0 [] (.own ob1 ty1 1 m.length cap1 (Zm rows1 m) :: (es4++es3++E1.flatten)) v' a w:=hs1;obtain ⟨σ,hσ,e1,e2⟩:=hs1.ev2 x y;have hE':Elem P t ty1 Zid.n ei.by_ ei.z:=by rw [show Zid.n=ei.sz from b4.symm,← b3];exact hE
       obtain ⟨b',cap',cs2,w',hrun,hst',hrel2⟩:=ZYf (ty:=ty) (A:=Zid) hE' hσ (i:=0) rfl hrel (n':=(m++m').length) (by simp) (Zke hroom) hby;have hcs:=ZBl hrel2;subst hcs;rw [hx0] at e1;rw [hy0] at e2;have r4:=r3.go hv (hs1.drop ((List.sublist_append_right _ _).trans (List.sublist_cons_self _ _)));obtain ⟨E3,hE3,hp3⟩:=r4.lr;have hst':=hst'.bare;have hst3:St N w0 v0 [] (.own b' ty1 1 (m++m').length cap' (Zm (rows1++rows2) (m++m')) :: (es4++es3)++E3.flatten) v' a w':=by
        rw [Zlr hl1];exact hst'.perm (by simp only [List.set_cons_zero,List.cons_append];exact List.Perm.cons _ (List.Perm.append_left _ hp3))
       subst ho;exact Zik r4 hU hX hn hd hE3 rfl (ZAr (Znc hv p2) (Znc hv q2)) hst3 (ZRd hσ e1 e2 hrun) h
      ·exact h.elim
     | box _ _=>exact h.elim
     | own _ _ _ _=>exact h.elim
     | mid _ _ _ _ _ _=>exact h.elim
  | box _ _=>exact h.elim
  | own _ _ _ _=>exact h.elim
  | mid _ _ _ _ _ _=>exact h.elim
 ·exact h.elim
theorem ZFx (hr:RelX N G w0 v0 U X f l a w γ v ℓ) (hU:∀ k,U k→X k) (hX:X n) (hn:¬ U n) {d:Option Nat} {t:TypeId} {x:Operand} {o:Oper} {p:V} {Post:Unit→Fr→Lo→Prop} (ho:o=⟨d,.load t x,ty,pos,aft,g⟩) (hd:∀ k,o.dst=some k→k<N) (hp:RV v γ l p (a.eval x))
  (h:Zl n (takeE P o n t p) f l Post):Zqa P N G w0 v0 X o a w Post:=by
 unfold takeE at h;split at h
 ·exact h.elim
 ·rename_i q hq;split at h
  ·rename_i u i hv cv e r hag;obtain ⟨⟨kk,st,L⟩,he,h⟩:=h;have hkk:kk=u:=(Zq he).2;subst hkk;obtain ⟨y,hy0,_,hy⟩:=Zea hp (fun _ e=>by cases e) rfl rfl;have hy0:a.eval x=y:=(List.cons.inj hy0).1;have hy:=hy _ he
   cases L with
   | mat ty0 ty2 s' m hv' =>
    simp only at h;split at h
    ·rename_i z b1 b2 hz;have b1:=Nat.eq_of_beq_eq_true b1;have b2:=Nat.eq_of_beq_eq_true b2;subst b1 b2;obtain ⟨c3,c4⟩:=Z1 hz
     cases c3;cases c4
     obtain ⟨b,cap,rows,g1,rfl,g3,g4⟩:=hy;obtain ⟨m',c1,c2⟩:=g4 rfl;obtain ⟨c5,c6⟩:=Z1 c1
     cases c5;cases c6
     obtain ⟨hkk,es,hes,hmem⟩:=hr.loc he;obtain ⟨ob,cap',rows',es2,q1,q2,rfl⟩:=hes;have q1:γ kk = .mat ob cap' rows':=q1;rw [g1] at q1;cases q1;obtain ⟨p,cs,r1,r2,r3⟩:=ZSe q2 c2;obtain ⟨j,hj⟩:=hmem _ List.mem_cons_self;have hh:=Zih r1 c2;have hw:WAt w b (0+i*1) [.slice (mkA p.1) r.length p.2]:=by
      have hx:((Zm rows m).drop (i*1)).take 1=[.slice (mkA p.1) r.length p.2]:=by
       have hlt:=(List.getElem?_eq_some_iff.1 hh).1;rw [Nat.mul_one,List.drop_eq_getElem_cons hlt];simp [(List.getElem?_eq_some_iff.1 hh).2]
      have:=Z8d hr.st hj hx g3 0 [.slice (mkA p.1) r.length p.2] rfl (by simp)
      simpa using this
     obtain ⟨cs2,ℓ2,E2,k1,r4,k2,k3,hst⟩:=hr.take hX hn he g1 r1 c2;obtain ⟨σ,hs',e1⟩:=hr.st.ev1 x;rw [hy0] at e1;have ht:=ZUf hq;rw [hag] at ht;subst ho;exact ZFg r4 hU hX hn hd k2 k3 hst k1 (Zeb hs' e1 ht hw) h
    ·exact h.elim
   | box _ _=>exact h.elim
   | own _ _ _ _=>exact h.elim
   | mid _ _ _ _ _ _=>exact h.elim
  ·exact h.elim
theorem appE_ok {C:Cf} (hr:RelX N G w0 v0 U X f l a w γ v ℓ) (hU:∀ k,U k→X k) (hX:X n) (hn:¬ U n) {d:Option Nat} {t:TypeId} {x y:Operand} {o:Oper} {p q:V} {Post:Unit→Fr→Lo→Prop} (ho:o=⟨d,.call ⟨.builtin .append,#[x,y],#[t,t]⟩,ty,pos,aft,g⟩) (hd:∀ k,o.dst=some k→k<N) (hp:RV v γ l p (a.eval x)) (hq:RV v γ l q (a.eval y)) (hk:p.ok U) (hkq:q.ok U)
  (h:Zl n (appE C o n t p q) f l Post):Zqa C.P N G w0 v0 X o a w Post:=by
 unfold appE at h;split at h
 ·exact h.elim
 ·rename_i ei hei;obtain ⟨hE,hby⟩:=ZVm hei;split at h
  ·rename_i u;obtain ⟨en,he,h⟩:=h;obtain ⟨k0,st0,L⟩:=en
   cases L with
   | own ty0 s xs0 fz0 =>
    obtain ⟨ys,l1,γ1,v1,ℓ1,hB,r1,le1,q1⟩:=Zgd hn hX FU h hr hkq;obtain ⟨en,he1,hC⟩:=hB;have hp1:=Zyb le1 hk hp;obtain ⟨yy,hy0,_,hy⟩:=Zea hp1 (fun _ e=>by cases e) rfl rfl;have hy0:a.eval x=yy:=(List.cons.inj hy0).1;have hy:=hy en he1;obtain ⟨kk,st,L⟩:=en;obtain ⟨hm,hkk⟩:=Zq he1;have hkk:kk=u:=hkk;subst hkk
    cases L with
    | own ty1 s' xs fz =>
     cases fz with
     | true=>exact hC.elim
     | false =>
      simp only at hC;split at hC
      ·rename_i ys' hys ht hs;obtain ⟨c3,c4⟩:=Z1 hys
       cases c3;cases c4
       have ht:=Nat.eq_of_beq_eq_true ht;have hs:=Nat.eq_of_beq_eq_true hs;obtain ⟨_,hroom,hC⟩:=hC;obtain ⟨ob,cap,g1,rfl⟩:=hy;obtain ⟨es,E',h1,_,h2,h3,r2⟩:=r1.del he1;obtain ⟨ob',cap',cs,f1,f2,rfl⟩:=h1;have f1:γ1 kk = .own ob' cap':=f1;rw [g1] at f1;cases f1;have hst:=r1.st.perm h3;obtain ⟨σ,hσ,e1,e2⟩:=hst.ev2 x y;obtain ⟨hq1,hq2⟩:=ZJk h;obtain ⟨csq,hcq,hqe⟩:=Zmb hq hq2;have hcq':(Zv s.rep).rel v1 csq ys:=q1 _ hcq;obtain ⟨qa,m,c,rfl⟩:=Zkf hcq';rw [Zxf hq1] at hqe;have hml:m=ys.length:=by obtain ⟨_,_,e,_⟩:=hcq';cases e;rfl
       have hE':Elem C.P t ty1 s.rep.n ei.by_ ei.z:=by rw [ZR,← hs,← ht];exact hE
       have hσ':St N w0 v0 σ (.own ob ty1 s.rep.n xs.length cap cs :: E'.flatten) v1 a w:=by rw [ZR];exact hσ
       obtain ⟨b',cap',cs2,w',hrun,hst',hrel⟩:=ZYf (ty:=ty) (A:=s.rep) hE' hσ' (i:=0) rfl hcq' (n':=(xs++(show List s.den from ys)).length) (by rw [List.length_append,hml]) (Zke hroom) hby;rw [hy0] at e1;rw [hqe] at e2;have hst':=hst'.bare;rw [ZR] at hst';subst ho;exact ZFg r2 hU hX hn hd h2 rfl hst' (Z4b f2 hrel) (ZRd hσ e1 e2 hrun) hC
      ·exact hC.elim
    | box _ _=>exact hC.elim
    | mid _ _ _ _ _ _=>exact hC.elim
    | mat _ _ _ _ _=>exact hC.elim
   | box _ _=>exact h.elim
   | mid _ _ _ _ _ _=>exact h.elim
   | mat _ _ _ _ _=>exact Zdo hr hU hX hn hE hby ho hd (fun e=>by cases e) (fun u' e=>by cases e;exact hp) hq h
  · -- a row
   rename_i u i hv cv s r;obtain ⟨ys,l1,γ1,v1,ℓ1,hB,r1,le1,q1⟩:=Zgd hn hX FU h hr hkq;obtain ⟨⟨kk,st,L⟩,he1,hC⟩:=hB;have hkk:kk=u:=(Zq he1).2;subst hkk;have hp1:=Zyb le1 hk hp;obtain ⟨yy,hy0,_,hy⟩:=Zea hp1 (fun _ e=>by cases e) rfl rfl;have hy0:a.eval x=yy:=(List.cons.inj hy0).1;have hy:=hy _ he1
   cases L with
   | mat ty1 ty2 s' m hv' =>
    simp only at hC;split at hC
    ·rename_i z b1 b2 hz b3 b4;have b1:=Nat.eq_of_beq_eq_true b1;have b2:=Nat.eq_of_beq_eq_true b2;have b3:=Nat.eq_of_beq_eq_true b3;have b4:=Nat.eq_of_beq_eq_true b4;subst b1 b2;obtain ⟨c3,c4⟩:=Z1 hz
     cases c3;cases c4
     obtain ⟨_,hroom,hC⟩:=hC;obtain ⟨ob,cap,rows,obi,capi,g1,g2,rfl,_,g6⟩:=hy rfl;obtain ⟨m',c1,c2⟩:=g6 rfl;obtain ⟨c5,c6⟩:=Z1 c1
     cases c5;cases c6
     obtain ⟨cs,ℓ2,E2,k1,r2,k2,k3,hst⟩:=r1.take hX hn he1 g1 g2 c2;obtain ⟨σ,hσ,e1,e2⟩:=hst.ev2 x y;obtain ⟨hq1,hq2⟩:=ZJk h;obtain ⟨csq,hcq,hqe⟩:=Zmb hq hq2;have hcq':(Zv s.rep).rel v1 csq ys:=q1 _ hcq;obtain ⟨qa,mm,c,rfl⟩:=Zkf hcq';rw [Zxf hq1] at hqe;have hml:mm=ys.length:=by obtain ⟨_,_,e,_⟩:=hcq';cases e;rfl
     have hE':Elem C.P t ty2 s.rep.n ei.by_ ei.z:=by rw [ZR,← b4,← b3];exact hE
     have hσ':St N w0 v0 σ (.own obi ty2 s.rep.n r.length capi cs :: ℓ2) v1 a w:=by rw [ZR];exact hσ
     obtain ⟨b',cap',cs2,w',hrun,hst',hrel⟩:=ZYf (ty:=ty) (A:=s.rep) hE' hσ' (i:=0) rfl hcq' (n':=(r++(show List s.den from ys)).length) (by rw [List.length_append,hml]) (Zke hroom) hby;rw [hy0] at e1;rw [hqe] at e2;have hst':=hst'.bare;rw [ZR] at hst';subst ho;exact ZFg r2 hU hX hn hd k2 k3 hst' (Z4b k1 hrel) (ZRd hσ e1 e2 hrun) hC
    ·exact hC.elim
   | box _ _=>exact hC.elim
   | own _ _ _ _=>exact hC.elim
   | mid _ _ _ _ _ _=>exact hC.elim
  ·split at h
   ·refine Zdo hr hU hX hn hE hby ho hd (fun _=>?_) (fun u' e=>by cases e) hq h;obtain ⟨cs,h1,h2⟩:=hp;have h1:cs=[.slice none 0 0]:=h1;subst h1;exact h2
   split at h
   ·rename_i s hs;split at h
    ·rename_i hsz;have hsz:=Nat.eq_of_beq_eq_true hsz;obtain ⟨ys,l1,γ1,v1,ℓ1,hB,r1,le1,q1⟩:=Zgd hn hX FU h hr hkq;obtain ⟨_,hroom,hC⟩:=hB;obtain ⟨E',h2,h3⟩:=r1.lr;have hx0:a.eval x = .slice none 0 0:=by
      obtain ⟨cs,h1,h2⟩:=hp;have h1:cs=[.slice none 0 0]:=h1;subst h1;exact h2
     have hst:=(r1.st.perm h3).nilLoc ei.e s.rep.n;obtain ⟨σ,hσ,e1,e2⟩:=hst.ev2 x y;obtain ⟨hq1,hq2⟩:=ZJk h;obtain ⟨csq,hcq,hqe⟩:=Zmb hq hq2;have hcq':(Zv s.rep).rel v1 csq ys:=q1 _ hcq;obtain ⟨qa,m,c,rfl⟩:=Zkf hcq';rw [Zxf hq1] at hqe;have hml:m=ys.length:=by obtain ⟨_,_,e,_⟩:=hcq';cases e;rfl
     have hE':Elem C.P t ei.e s.rep.n ei.by_ ei.z:=by rw [ZR,← hsz];exact hE
     obtain ⟨b',cap',cs2,w',hrun,hst',hrel⟩:=ZYf (ty:=ty) (A:=s.rep) hE' hσ (i:=0) rfl hcq' (n':=(([]:List s.den)++(show List s.den from ys)).length) (by rw [List.length_append,hml];rfl) (Zke hroom) hby;rw [hx0] at e1;rw [hqe] at e2;have hst':=hst'.bare;rw [ZR] at hst';subst ho;exact ZFg r1 hU hX hn hd h2 rfl hst' (Z4b ZMe hrel) (ZRd hσ e1 e2 hrun) hC
    ·exact h.elim
   ·exact h.elim
  ·exact h.elim
end
end Go.Eng
namespace Go.Eng
open Go.RowKit
variable {P:Program} {K:Nat} {w0:Base} {v0:Zb} {σ:List (Nat×Value)} {ℓ:List Loc} {v:Zb} {a:Act} {w:World}
variable {d:Option Nat} {ty:TypeId} {pos:String} {aft:Array Edge} {g:Option (Nat×Bool)}
theorem Zjm (k:IntKind) (p q:Int):(Builtin.max2 (.int k p) (.int k q)).run P w = .ok (.int k (max p q)) w:=by
 simp only [Builtin.max2,Sem.run_pure];congr 2;by_cases h:q>p
 ·rw [if_pos h];omega
 ·rw [if_neg h];omega
theorem min2_eq (k:IntKind) (p q:Int):(Builtin.min2 (.int k p) (.int k q)).run P w = .ok (.int k (min p q)) w:=by
 simp only [Builtin.min2,Sem.run_pure];congr 2;by_cases h:q<p
 ·rw [if_pos h];omega
 ·rw [if_neg h];omega
theorem run_max (hS:St K w0 v0 σ ℓ v a w) {x y:Operand} {k:IntKind} {p q:Int} {ats:Array TypeId} (e:ev σ x=some (.int k p)) (e':ev σ y=some (.int k q)) :
  (execOp a.eval ⟨d,.call ⟨.builtin .max,#[x,y],ats⟩,ty,pos,aft,g⟩).run P w = .ok (.value (.int k (max p q))) w:=by
 simp [execOp,resolve,invoke,builtin,Builtin.max_,hS.eval e,hS.eval e',Zjm]
theorem run_min (hS:St K w0 v0 σ ℓ v a w) {x y:Operand} {k:IntKind} {p q:Int} {ats:Array TypeId} (e:ev σ x=some (.int k p)) (e':ev σ y=some (.int k q)) :
  (execOp a.eval ⟨d,.call ⟨.builtin .min,#[x,y],ats⟩,ty,pos,aft,g⟩).run P w = .ok (.value (.int k (min p q))) w:=by
 simp [execOp,resolve,invoke,builtin,Builtin.min_,hS.eval e,hS.eval e',min2_eq]
theorem Zew (hS:St K w0 v0 σ ℓ v a w) {x y z:Operand} {k:IntKind} {p q r:Int} {ats:Array TypeId} (e:ev σ x=some (.int k p)) (e':ev σ y=some (.int k q)) (e2:ev σ z=some (.int k r)) :
  (execOp a.eval ⟨d,.call ⟨.builtin .max,#[x,y,z],ats⟩,ty,pos,aft,g⟩).run P w = .ok (.value (.int k (max (max p q) r))) w:=by
 simp [execOp,resolve,invoke,builtin,Builtin.max_,hS.eval e,hS.eval e',hS.eval e2,Zjm]
end Go.Eng
namespace Go.Eng
open Go.RowKit
section
variable {Q:Exit→Act→World→Prop} {a:Act} {w:World}
end
end Go.Eng
namespace Go.Eng
open Go.RowKit
end Go.Eng
namespace Go.Eng
open Go.RowKit
theorem Z0t (off:Nat):∀ (l:List Value) (k:Nat) (acc:Array Value),off+k+l.length≤acc.size→(l.zipIdx k).foldl (fun cs (c,j)=>cs.setIfInBounds (off+j) c) acc=(acc.toList.take (off+k)++l++acc.toList.drop (off+k+l.length)).toArray:=by
 intro l
 induction l with
 | nil=>intro k acc h;simp
 | cons y l ih =>
  intro k acc h;simp only [List.zipIdx_cons,List.foldl_cons];rw [ih (k+1) _ (by simp at h ⊢;omega)];congr 1;simp only [Array.toList_setIfInBounds];simp only [List.length_cons] at h;have hlt:off+k<acc.toList.length:=by simp;omega
  rw [List.take_set,List.drop_set_of_lt (by omega)];rw [List.set_eq_take_append_cons_drop,if_pos (by simp;simp at hlt;omega)];rw [List.take_take,Nat.min_eq_left (by omega)];have e1:((acc.toList.take (off+(k+1))).drop (off+k+1))=[]:=List.drop_of_length_le (by simp;omega);rw [e1];simp;congr 1;omega
theorem Zln {place:Nat→Option (Nat×Nat)} {cells:Array Value} {i:Nat} {x:Value} {cs:List Value} {rest:List (Nat×Value)} {off:Nat} (hp:place i=some (off,cs.length)) (hx:x.cells=cs.toArray) (hc:off+cs.length≤cells.size) :
  Instr.fill place cells ((i,x) :: rest)=Instr.fill place (cells.toList.take off++cs++cells.toList.drop (off+cs.length)).toArray rest:=by
 have h1:¬ (x.cells.size≠cs.length || decide (off+x.cells.size>cells.size)):=by simp [hx,hc]
 conv=>lhs;unfold Instr.fill
 simp only [hp];rw [if_neg h1,hx];have:=Z0t off cs 0 cells (by omega);rw [← Array.foldl_toList];congr 1
 simpa using this
section
variable {P:Program} {N:Nat} {G:V→Value→Prop} {w0:Base} {v0:Zb} {U X:Nat→Prop} {f:Fr} {l:Lo} {a:Act} {w:World} {γ:Nat→Gh} {v:Zb} {ℓ:List Loc} {n:Nat}
variable {ty:TypeId} {pos:String} {aft:Array Edge} {g:Option (Nat×Bool)}
theorem Zzf {ρ:Type} (hr:RelX N G w0 v0 U X f l a w γ v ℓ):∀ {xs:List Operand} {k:V→Ev ρ} {Post:ρ→Fr→Lo→Prop},Zl n (Z5d xs k) f l Post→∃ c,RR v γ l true c (xs.map a.eval)∧c.ok U∧Zl n (k c) f l Post
 | [],k,Post,h=>⟨.nl,rfl,trivial,h⟩
 | x :: xs,k,Post,h=>by
  obtain ⟨V',h1,h2,h3⟩:=ZE hr h
  have hnt:∀ c,V' ≠ .tup c:=fun c e=>by subst e;exact h3.elim
  have h3':Zl n (Z5d xs fun c=>k (.cons V' c)) f l Post:=by
   cases V' <;> first | exact h3 | exact h3.elim
  obtain ⟨c,k1,k2,k3⟩:=Zzf hr h3';obtain ⟨cs,q1,q2⟩:=Zmb h1 hnt;exact ⟨.cons V' c,⟨cs,_,by rw [List.map_cons,q2],q1,k1⟩,⟨h2,k2⟩,k3⟩
theorem Zvw {ρ:Type} {g:Nat} {t:T} {x:V} {k:t.den→Ev ρ} {Post:ρ→Fr→Lo→Prop} (h:Zl n (conv g t x k) f l Post):x.isAgg=true∨x.isAgg=false∧x.size=1:=by
 cases x with
 | data s x =>
  cases ha:s.agg with
  | true=>exact .inl ha
  | false=>exact .inr ⟨ha,T_one ha⟩
 | nilS=>exact .inr ⟨rfl,rfl⟩
 | own u=>exact .inr ⟨rfl,rfl⟩
 | ptr u o=>exact .inr ⟨rfl,rfl⟩
 | agg c=>exact .inl rfl
 | _ =>
  cases g with
  | zero=>exact h.elim
  | succ g=>simp only [conv] at h;exact h.elim
theorem ZOu {x:V} {cs:List Value} (hf:x.isAgg=true∨x.isAgg=false∧x.size=1) (h:RR v γ l false x cs) (hp:cs.all plain=true):(x.val cs).cells=cs.toArray:=by
 rcases hf with ha | ⟨ha,hs⟩
 ·unfold V.val;rw [ha];rfl
 ·have e:=Zqg h hs ha;have hv:x.val cs=cs.headD undef:=by unfold V.val;rw [ha]
  rw [hv] at e ⊢;rw [e] at hp;have hp':plain (cs.headD undef)=true:=by simpa using hp
  have:=Z1c hp'
  conv=>rhs;rw [e]
  exact this
theorem Zwt {ρ:Type} {t:T} (hn:¬ U n) (hX:X n):∀ {c:V} {k:List t.den→Ev ρ} {l:Lo} {γ:Nat→Gh} {v:Zb} {ℓ:List Loc} {Post:ρ→Fr→Lo→Prop},Zl n (convS t c k) f l Post→RelX N G w0 v0 U X f l a w γ v ℓ→c.ok U →
  ∃ xs l' γ' v' ℓ',Zl n (k xs) f l' Post∧RelX N G w0 v0 U X f l' a w γ' v' ℓ'∧Le U v γ l v' γ' l'∧∀ vals,RR v γ l true c vals→∃ css:List (List Value),t.rep.rels v' css.flatten xs∧css.length=xs.length∧vals.map Value.cells=css.map List.toArray∧∀ cs ∈ css,cs.length=t.n:=by
 intro c
 induction c with
 | nl =>
  intro k l γ v ℓ Post h hr hk;obtain ⟨E,hE,_⟩:=hr.lr;exact ⟨[],l,γ,v,ℓ,h,hr,Le.refl hE (Zb.le_refl _),fun vals hv=>⟨[],rfl,rfl,by rw [show vals=[] from hv];rfl,fun _ h=>by cases h⟩⟩
 | cons x c _ ih =>
  intro k l γ v ℓ Post h hr hk;have hfit:=Zvw (n:=n) (f:=f) (l:=l) (g:=FU) (t:=t) (x:=x) h;obtain ⟨y,l1,γ1,v1,ℓ1,h,r1,le1,q1⟩:=Zgd hn hX FU h hr hk.1;obtain ⟨ys,l2,γ2,v2,ℓ2,h,r2,le2,q2⟩:=ih h r1 hk.2;refine ⟨y :: ys,l2,γ2,v2,ℓ2,h,r2,le1.trans le2,fun vals hv=>?_⟩;obtain ⟨cs,vs,rfl,h1,h2⟩:=hv;have hrel:=q1 cs h1;obtain ⟨css,k1,k2,k3,k4⟩:=q2 vs (Zgb le1 hk.2 h2);refine ⟨cs :: css,⟨cs,css.flatten,rfl,Rep.mono _ le2.v hrel,k1⟩,by simp [k2],?_,fun c hc=>?_⟩
  ·rw [List.map_cons,List.map_cons,k3,ZOu hfit h1 (Rep.flat _ hrel)]
  ·rcases List.mem_cons.1 hc with rfl | hc
   ·rw [Rep.len _ hrel,ZR]
   ·exact k4 c hc
 | _=>intro k l γ v ℓ Post h;exact h.elim
theorem ZQm {sz:Nat}:∀ (css:List (List Value)) (vals:List Value) (k:Nat) (cells:Array Value),vals.map Value.cells=css.map List.toArray→(∀ cs ∈ css,cs.length=sz)→cells.size=(k+css.length)*sz →
  Instr.fill (fun i=>some (i*sz,sz)) cells (vals.zipIdx k |>.map fun p=>(p.2,p.1))=some (cells.toList.take (k*sz)++css.flatten).toArray
 | [],[],k,cells,_,_,hc=>by
  simp only [List.length_nil,Nat.add_zero] at hc
  simp only [List.zipIdx_nil,List.map_nil,Instr.fill,List.flatten_nil,List.append_nil]
  rw [List.take_of_length_le (by simp [hc])]
 | cs :: css,x :: vals,k,cells,h,hs,hc=>by
  simp only [List.map_cons,List.cons.injEq] at h
  have hl:=hs cs (by simp)
  simp only [List.length_cons] at hc
  have hb:k*sz+sz+css.length*sz=cells.size:=by rw [hc,Nat.add_mul,Nat.succ_mul];omega
  simp only [List.zipIdx_cons,List.map_cons]
  rw [Zln (cs:=cs) (off:=k*sz) (by rw [hl]) h.1 (by omega)]
  rw [ZQm css vals (k+1) _ h.2 (fun c hc=>hs c (by simp [hc])) (by
   simp only [List.size_toArray,List.length_append,List.length_take,List.length_drop,Array.length_toList]
   rw [hl,Nat.min_eq_left (by omega),Nat.add_mul,Nat.succ_mul];omega)]
  congr 2
  have e1:(cells.toList.take (k*sz)).length=k*sz:=by simp;omega
  rw [List.flatten_cons,← List.append_assoc,Nat.succ_mul]
  congr 1
  rw [List.take_append,List.take_of_length_le (by simp [hl];omega)]
  rw [show k*sz+sz-(cells.toList.take (k*sz)++cs).length=0 by rw [List.length_append,e1,hl];omega]
  simp
 | [],_ :: _,_,_,h,_,_=>by simp at h
 | _ :: _,[],_,_,h,_,_=>by simp at h
theorem ZGr:∀ {ps:List (Nat×Operand)} {k:Nat},Zzi k ps=true→ps.map (fun p=>(p.1,a.eval p.2))=((ps.map fun p=>a.eval p.2).zipIdx k).map fun p=>(p.2,p.1)
 | [],_,_=>rfl
 | p :: ps,k,h=>by
  simp only [Zzi] at h
  split at h
  ·rename_i hb
   have hb:=Nat.eq_of_beq_eq_true hb
   simp only [List.map_cons,List.zipIdx_cons]
   rw [ZGr h,hb]
  ·cases h
theorem Z1l {t e:TypeId} {m sz:Nat} {inf:TypeInfo} {z:Value} {L:List (Nat×Value)} {cs:List Value} (ht:P.underlying t=some (.slice e)) (hi:P.info? e=some inf) (hz:inf.zero=some z) (hs:inf.size=sz) (hb:m*sz≤16777216)
  (hf:∀ zc:Array Value,Instr.fill (fun i=>some (i*sz,sz)) ((Array.range (m*sz)).map (fun i=>zc[i%zc.size]!)) L=some cs.toArray) (w:World):(Instr.buildSlice t m L.toArray).run P w = .ok (.slice (some ⟨w.heap.size,0,none⟩) m m) (w.alloc (.cells cs.toArray e)):=by
 subst hs;have hb:¬ (m*inf.size>2^24):=by omega
 unfold Instr.buildSlice;by_cases h0:m*inf.size=0
 ·have:=hf #[];simp only [h0] at this;simp [run_underlying ht,sizeOf,typeInfo,hi,h0] ; simp at this;simp [this,newRow]
 ·have:=hf z.cells;obtain ⟨A,hA⟩:∃ A,A=(Array.range (m*inf.size)).map (fun i=>z.cells[i%z.cells.size]!):=⟨_,rfl⟩;rw [← hA] at this;simp only [run_underlying ht,sizeOf,typeInfo,zeroValue];simp [run_underlying ht,typeInfo,hi,hz,h0,show ¬ (16777216<m*inf.size) by omega];rw [← hA,this];simp [newRow]
theorem Zdv {C:Cf} (hr:RelX N G w0 v0 U X f l a w γ v ℓ) (hU:∀ k,U k→X k) (hX:X n) (hn:¬ U n) {d:Option Nat} {t:TypeId} {m:Nat} {ps:Array (Nat×Operand)} {o:Oper} {Post:Unit→Fr→Lo→Prop} (ho:o=⟨d,.buildSlice t m ps,ty,pos,aft,g⟩) (hd:∀ k,o.dst=some k→k<N)
  (h:Zl n (ZW C n o) f l Post):Zqa C.P N G w0 v0 X o a w Post:=by
 subst ho;simp only [ZW] at h;split at h
 ·rename_i q hq;obtain ⟨hE,hby⟩:=ZVm hq;split at h
  ·split at h
   ·rename_i x hps hps2;have hps:=hps;obtain ⟨V1,h1,hk1,h⟩:=ZE hr h;split at h
    ·rename_i u2 q2 _ hq2 _;obtain ⟨⟨k2,st2,L2⟩,he2,h⟩:=h;have hkk2:k2=u2:=(Zq he2).2;subst hkk2
     cases L2 with
     | own ty2 s xs fz =>
      cases fz with
      | true=>exact h.elim
      | false =>
       simp only at h;split at h
       ·rename_i b1 b2 b3;have b3:=Nat.eq_of_beq_eq_true b3;obtain ⟨es,E',g1,g2,g2',g3,r2⟩:=hr.del he2;obtain ⟨ob2,cap2,cs2,f1,f2,rfl⟩:=g1;have f1:γ k2 = .own ob2 cap2:=f1;have hy0:a.eval x = .slice (mkA ob2) xs.length cap2:=by
         obtain ⟨yq,hyq0,_,hyq⟩:=Zea h1 (fun _ e=>by cases e) rfl rfl;obtain ⟨oq,cq,gq1,gq2⟩:=hyq _ he2;rw [f1] at gq1;cases gq1;exact ((List.cons.inj hyq0).1).trans gq2
        have hcells:(Value.slice (mkA ob2) xs.length cap2).cells=[Value.slice (mkA ob2) xs.length cap2].toArray:=by cases ob2 <;> rfl
        have hz:∀ w,(Instr.buildSlice t 1 (ps.toList.map fun p=>(p.1,a.eval p.2)).toArray).run C.P w = .ok (.slice (some ⟨w.heap.size,0,none⟩) 1 1) (w.alloc (.cells [Value.slice (mkA ob2) xs.length cap2].toArray q.e)):=by
         intro w;obtain ⟨inf,hinf,hzz,hsz',hby'⟩:=info_parts hE.info;rw [hps,List.map_singleton];simp only [hy0];refine Z1l (sz:=1) hE.ty hinf hzz (hsz'.trans b3) (by decide) (fun zc=>?_) w;have:=ZQm (sz:=1) [[Value.slice (mkA ob2) xs.length cap2]] [Value.slice (mkA ob2) xs.length cap2] 0 ((Array.range (1*1)).map (fun i=>zc[i%zc.size]!)) (by simp [hcells]) (fun cs hc=>by rw [List.mem_singleton.1 hc];rfl) (by simp)
         simpa using this
        have hst:=hr.st.perm g3;obtain ⟨σ,hσ,hev⟩:=hst.evs (ps.toList.map (·.2));obtain ⟨b,w',hrun,hst'⟩:=Z2g (P:=C.P) (t:=t) (e:=q.e) (sz:=1) hσ (by simp) (by decide) hz;have hev':ps.toList.map (fun p=>(ev σ p.2).map fun y=>(p.1,y))=(ps.toList.map fun p=>(p.1,a.eval p.2)).map some:=by
         rw [List.map_map];refine List.map_congr_left fun p hp=>?_;rw [hev p.2 (List.mem_map.2 ⟨p,hp,rfl⟩)];rfl
        exact Zik (rows:=[(ob2,cap2)]) (m:=[xs]) r2 hU hX hn hd g2' rfl ⟨cs2,[],f2,rfl,rfl⟩ hst'.bare (hrun (d:=d) (ty:=ty) (pos:=pos) (aft:=aft) (g:=g) hev') h
       ·exact h.elim
     | box _ _=>exact h.elim
     | mat _ _ _ _ _=>exact h.elim
     | mid _ _ _ _ _ _=>exact h.elim
    ·exact h.elim
   ·exact h.elim
  split at h
  ·rename_i s hs ho hlen hbig;have hlen:=Nat.eq_of_beq_eq_true hlen;have hbig:=Nat.le_of_ble_eq_true hbig;split at h
   ·rename_i hsz;have hsz:=Nat.eq_of_beq_eq_true hsz;obtain ⟨c,h1,h2,h⟩:=Zzf hr h;obtain ⟨xs,l1,γ1,v1,ℓ1,h,r1,le1,q1⟩:=Zwt hn hX h hr h2;obtain ⟨css,k1,k2,k3,k4⟩:=q1 _ h1;obtain ⟨E,hEE,hp⟩:=r1.lr;have hvl:css.length=m:=by
     have:=congrArg List.length k3;simp only [List.length_map] at this;omega
    have hflat:css.flatten.length=m*q.sz:=by
     have:=ZIc k1;rw [ZR,← k2,hvl,← hsz] at this;exact this
    have hz:∀ w,(Instr.buildSlice t m (ps.toList.map fun p=>(p.1,a.eval p.2)).toArray).run C.P w = .ok (.slice (some ⟨w.heap.size,0,none⟩) m m) (w.alloc (.cells css.flatten.toArray q.e)):=by
     intro w;obtain ⟨inf,hinf,hzz,hsz',hby'⟩:=info_parts hE.info;rw [ZGr ho];have hm:(ps.toList.map fun p=>a.eval p.2)=(ps.toList.map (·.2)).map a.eval:=by rw [List.map_map];rfl
     rw [hm];have hf:∀ zc:Array Value,Instr.fill (fun i=>some (i*q.sz,q.sz)) ((Array.range (m*q.sz)).map (fun i=>zc[i%zc.size]!)) ((((ps.toList.map (·.2)).map a.eval).zipIdx).map fun p=>(p.2,p.1))=some css.flatten.toArray:=fun zc=>by
      have:=ZQm (sz:=q.sz) css ((ps.toList.map (·.2)).map a.eval) 0 ((Array.range (m*q.sz)).map (fun i=>zc[i%zc.size]!)) k3 (fun cs hc=>by rw [k4 cs hc,hsz]) (by simp [hvl]);rw [Nat.zero_mul,List.take_zero,List.nil_append] at this;exact this
     obtain ⟨L,hL⟩:∃ L,L=((((ps.toList.map (·.2)).map a.eval).zipIdx).map fun p=>(p.2,p.1)):=⟨_,rfl⟩;rw [← hL] at hf ⊢;clear hL;exact Z1l hE.ty hinf hzz hsz' hbig hf w
    have hst:=r1.st.perm hp;obtain ⟨σ,hσ,hev⟩:=hst.evs (ps.toList.map (·.2));have hmax:m≤maxLen:=by
     have h1:m≤m*q.sz:=Nat.le_mul_of_pos_right _ hE.pos;unfold maxLen;omega
    obtain ⟨b,w',hrun,hst'⟩:=Z2g (P:=C.P) (t:=t) (e:=q.e) hσ hflat hmax hz;have hev':ps.toList.map (fun p=>(ev σ p.2).map fun y=>(p.1,y))=(ps.toList.map fun p=>(p.1,a.eval p.2)).map some:=by
     rw [List.map_map];refine List.map_congr_left fun p hp=>?_;rw [hev p.2 (List.mem_map.2 ⟨p,hp,rfl⟩)];rfl
    have hxl:m=xs.length:=by omega
    have hst':=hst'.bare;rw [hsz,hxl] at hst';have hrun':=hrun (d:=d) (ty:=ty) (pos:=pos) (aft:=aft) (g:=g) hev'
    conv at hrun'=>rhs;rw [hxl]
    exact ZFg r1 hU hX hn hd hEE rfl hst' k1 hrun' h
   ·exact h.elim
  ·exact h.elim
 ·exact h.elim
end
end Go.Eng
namespace Go.Eng
open Go.RowKit
section
variable {P:Program} {K:Nat} {w0:Base} {v0:Zb} {σ:List (Nat×Value)} {ℓ:List Loc} {v:Zb} {a:Act} {w:World}
variable {d:Option Nat} {ty:TypeId} {pos:String} {aft:Array Edge} {g:Option (Nat×Bool)}
theorem Ziu (w:World) (dT sT ty elem:TypeId) (i:TypeInfo) (g o dLen dCap:Nat) (a:Addr) (sLen sCap:Nat) (cur:Array Value) (t:TypeId) (cs:List Value)
  (hu:P.underlying dT=some (.slice elem)) (hi:P.info? elem=some i) (hg:w.heap[g]? = some (.cells cur t (0,0))) (hn:cs.length=Nat.min sLen dLen*i.size)
  (hsrc:∀ j v,cs[j]? = some v→w.cell? (a.add j)=some v) (hfit:o+cs.length≤cur.size) (h1:∀ v ∈ cs,v.oneCell'=true) :
  (Builtin.copy_ #[dT,sT] ty #[.slice (some ⟨g,o,none⟩) dLen dCap,.slice (some a) sLen sCap]).run P w =
   .ok (goInt (Nat.min sLen dLen)) (w.setRow g (cur.toList.take o++cs++cur.toList.drop (o+cs.length)).toArray):=by
 have hl:=run_loadCells_list (P:=P) w a cs hsrc;have hst:=run_storeCells_at P g o t cs 0 cur w hg (by simpa using hfit) h1;simp [Builtin.copy_,run_underlying hu,Builtin.lenOf,Builtin.firstCells,sizeOf,typeInfo,hi,← hn,hl,hst]
theorem ZCs {t e sT:TypeId} {sz bytes:Nat} {z:Value} (E:Elem P t e sz bytes z) (hS:St K w0 v0 σ ℓ v a w) {i n cap b:Nat} {cs:List Value} (hi:ℓ[i]? = some (.own (some b) e sz n cap cs)) {p k:Nat} {c:List Value}
  (hc:c.length=k*sz) (hp:p+k≤n) (hpl:c.all plain=true) {ad:Addr} {sLen sCap dLen dCap:Nat} (hsrc:∀ j u,c[j]? = some u→w.cell? (ad.add j)=some u) (hk:Nat.min sLen dLen=k) :
  ∃ w',(∀ ty,(Builtin.copy_ #[t,sT] ty #[.slice (some ⟨b,p*sz,none⟩) dLen dCap,.slice (some ad) sLen sCap]).run P w = .ok (.int .i64 k) w') ∧
   St K w0 v0 σ (ℓ.set i (.own (some b) e sz n cap (cs.take (p*sz)++c++cs.drop (p*sz+c.length)))) v a w':=by
 obtain ⟨inf,hinf,hz,hs,hby⟩:=info_parts E.info;obtain ⟨hcl,cur,hg,hnc,hcx,hcs,htake⟩:=(hS.loc _ (List.mem_of_getElem? hi)).1;have h1:p*sz+c.length≤n*sz:=by rw [hc,← Nat.add_mul];exact Nat.mul_le_mul_right _ hp
 have h2:n*sz≤cap*sz:=Nat.mul_le_mul_right _ hnc;have hcl2:cur.toList.length=cap*sz:=by simpa using hcs
 refine ⟨_,fun ty=>?_,hS.setRow hi rfl rfl (c:=(cur.toList.take (p*sz)++c++cur.toList.drop (p*sz+c.length)).toArray) ⟨?_,_,setRow_heap w b cur _ e _ hg,hnc,hcx,?_,?_⟩⟩
 ·have:=Ziu (P:=P) w t sT ty e inf b (p*sz) dLen dCap ad sLen sCap cur e c E.ty hinf hg (by rw [hk,hs];exact hc) hsrc (by omega) (ZOi hpl);rw [this,hk];rfl
 ·simp;omega
 ·simp;omega
 ·show List.take (n*sz) (_++_++_)=_;rw [Zsk _ _ _ _ h1 (by omega),htake]
end
end Go.Eng
namespace Go.Eng
open Go.RowKit
def OwnI {α:Type} (A:Rep α) (T:TypeId) (sz:Nat) (l:List α) (ob0:Option Nat) (w:World) (r:Value) (v':Zb) (w':World):Prop :=
 ∃ ob n cap cs,r = .slice (mkA ob) n cap∧(Loc.own ob T sz n cap cs).holds w'∧(∀ b,ob=some b→(w.heap.size≤b∨ob0=some b)∧v' b=none)∧A.rels v' cs l∧n=l.length
section
variable {P:Program} {K:Nat} {w0:Base} {v0:Zb} {σ:List (Nat×Value)} {ℓ:List Loc} {v:Zb} {a:Act} {w:World}
theorem ZUs {f:FuncId} {fn:Func} {c:Code} {args:List Value} {w:World} {v:Zb} {ob:Option Nat} {T:TypeId} {sz n cap:Nat} {cs:List Value} {R:Value→Zb→World→Prop} (hv:VIn v w) (hh:(Loc.own ob T sz n cap cs).holds w) (hn:∀ b,ob=some b→v b=none)
  (hf:P.funcs[f]? = some fn) (hb:fn.body=some c) (hK:fn.ntmps=K) (hl:args.length≤K)
  (h:∀ a,St K ⟨w,ob.toList⟩ v (Z8b 0 args) [.own ob T sz n cap cs] v a w→c.wp P (bodyPost P fn fun e w'=>∃ r v',e = .returned r∧ExtB ⟨w,ob.toList⟩ w'∧VStepB ⟨w,ob.toList⟩ v w' v'∧R r v' w') a w):Z4c P f args.toArray w v ob.toList R:=by
 refine calls_of_wp hf hb ?_;subst hK;refine h _ ?_;have h0:=St.enter (K:=fn.ntmps) hv args hl;refine ⟨h0.size,h0.dfr,h0.fr,ExtB.refl ⟨w,ob.toList⟩,⟨Zb.le_refl _,hv,fun _ _ _=>rfl⟩,fun e he=>?_,?_⟩
 ·rcases List.mem_singleton.1 he with rfl;refine ⟨hh,fun b' hb'=>?_⟩;have hb':ob=some b':=hb';subst hb';exact ⟨.inr (by simp),hn b' rfl⟩
 ·cases ob with
  | none=>exact List.nodup_nil
  | some b=>exact List.nodup_cons.2 ⟨by simp,List.nodup_nil⟩
theorem Z3p {α:Type} {A:Rep α} {w0:World} {ob0:Option Nat} {fn:Func} (hS:St K ⟨w0,ob0.toList⟩ v0 σ ℓ v a w) {i n cap sz:Nat} {ob:Option Nat} {T:TypeId} {cs:List Value} {l:List α} (hi:ℓ[i]? = some (.own ob T sz n cap cs)) (hr:(results fn a.tmps).run P w = .ok (.slice (mkA ob) n cap) w) (hA:A.rels v cs l) (hn:n=l.length) :
  bodyPost P fn (fun e w'=>∃ r v',e = .returned r∧ExtB ⟨w0,ob0.toList⟩ w'∧VStepB ⟨w0,ob0.toList⟩ v0 w' v'∧OwnI A T sz l ob0 w0 r v' w') .ret a w:=by
 obtain ⟨hh,hb⟩:=hS.loc _ (List.mem_of_getElem? hi);refine ⟨hS.dfr,_,hr,_,v,rfl,hS.ext,hS.vst,ob,n,cap,cs,rfl,hh,fun b e=>?_,hA,hn⟩;obtain ⟨h1,h2⟩:=hb b e;refine ⟨?_,h2⟩;rcases h1 with h1 | h1
 ·exact .inl h1
 ·exact .inr (by simpa using h1)
theorem St.afterI {v':Zb} {w':World} (h:St K w0 v0 σ ℓ v a w) {i:Nat} {e e':Loc} (hi:ℓ[i]? = some e) (x:ExtB ⟨w,e.blk.toList⟩ w') (s:VStepB ⟨w,e.blk.toList⟩ v w' v') (hh:e'.holds w') (hb':∀ b,e'.blk=some b→(w.heap.size≤b∨e.blk=some b)∧v' b=none) :
  St K w0 v0 σ (e' :: ℓ.eraseIdx i) v' a w':=by
 obtain ⟨he,hv⟩:=h.loc e (List.mem_of_getElem? hi);have nl:∀ k,k<w0.wd.heap.size→k ∉ w0.lent→k ∉ e.blk.toList:=fun k hk hl hm=>by
  have hm:e.blk=some k:=by simpa using hm
  rcases (hv k hm).1 with h' | h'
  ·omega
  ·exact hl h'
 have oth:∀ j y,ℓ[j]? = some y→j≠i→∀ b',y.blk=some b'→b'<w.heap.size∧e.blk≠some b'∧b' ∉ e.blk.toList:=fun j y hj hji b' hb2=>by
  obtain ⟨c2,T2,hg2⟩:=Loc.blk_get (h.loc y (List.mem_of_getElem? hj)).1 hb2;have hne:e.blk≠some b':=fun hb=>Zch h.nd hi hb j y hj hji b' hb2 rfl;exact ⟨Zoe hg2,hne,by simpa using hne⟩
 refine ⟨h.size,h.dfr,h.fr,⟨x.os.trans h.ext.os,x.tape.trans h.ext.tape,x.output.trans h.ext.output,Nat.le_trans h.ext.size x.size,fun k hk hl=>?_⟩,⟨Zb.le_trans h.vst.le s.le,s.vin,fun k hk hl=>?_⟩,fun y hy=>?_,?_⟩
 ·rw [x.block k (Nat.lt_of_lt_of_le hk h.ext.size) (nl k hk hl)];exact h.ext.block k hk hl
 ·rw [s.old k (Nat.lt_of_lt_of_le hk h.ext.size) (nl k hk hl)];exact h.vst.old k hk hl
 ·rcases List.mem_cons.1 hy with rfl | hy
  ·refine ⟨hh,fun b hb=>⟨?_,(hb' b hb).2⟩⟩;rcases (hb' b hb).1 with h1 | h1
   ·exact .inl (Nat.le_trans h.ext.size h1)
   ·exact (hv b h1).1
  ·obtain ⟨j,hji,hj⟩:=List.mem_eraseIdx_iff_getElem?.1 hy;obtain ⟨h1,h2⟩:=h.loc y (List.mem_of_getElem? hj);have same:∀ b',y.blk=some b'→w'.heap[b']? = w.heap[b']?:=fun b' hb2=>by
    obtain ⟨o1,o2,o3⟩:=oth j y hj hji b' hb2;exact x.block b' o1 o3
   refine ⟨?_,fun b' hb2=>⟨(h2 b' hb2).1,?_⟩⟩
   ·cases y with
    | box b' T' cs=>show _=_;rw [same b' rfl];exact h1
    | own b' T' sz n cap cs =>
     cases b' with
     | none=>exact h1
     | some b'=>obtain ⟨k1,c',k2,k3⟩:=h1;exact ⟨k1,c',by rw [same b' rfl];exact k2,k3⟩
   ·obtain ⟨o1,o2,o3⟩:=oth j y hj hji b' hb2;rw [s.old b' o1 o3];exact (h2 b' hb2).2
 ·have hsub:((ℓ.eraseIdx i).filterMap Loc.blk).Nodup:=h.nd.sublist ((List.eraseIdx_sublist ..).filterMap _)
  cases hb:e'.blk with
  | none=>rw [List.filterMap_cons_none hb];exact hsub
  | some b =>
   rw [List.filterMap_cons_some hb];refine List.nodup_cons.2 ⟨fun hm=>?_,hsub⟩;obtain ⟨y,hy,hyb⟩:=List.mem_filterMap.1 hm;obtain ⟨j,hji,hj⟩:=List.mem_eraseIdx_iff_getElem?.1 hy;obtain ⟨o1,o2,o3⟩:=oth j y hj hji b hyb;rcases (hb' b hb).1 with h1 | h1
   ·omega
   ·exact o2 h1
variable {d:Option Nat} {ty:TypeId} {pos:String} {aft:Array Edge} {g:Option (Nat×Bool)}
theorem ZHw (hS:St K w0 v0 σ ℓ v a w) {t e:TypeId} {sz b o n cap p:Nat} {x lo:Operand} {k:IntKind} (ht:ZHb P t e sz) (e1:ev σ x=some (.slice (some ⟨b,o,none⟩) n cap)) (e2:ev σ lo=some (.int k (p:Int))) (hp:p≤n) (hc:p<cap) :
  (execOp a.eval ⟨d,.slice t x (some lo) none none,ty,pos,aft,g⟩).run P w = .ok (.value (.slice (some ⟨b,o+p*sz,none⟩) (n-p) (cap-p))) w:=by
 have h1:(0:Int)≤(p:Int)∧(p:Int)≤(n:Int):=by omega
 have h2:¬ cap=p:=by omega
 simp [execOp,Instr.sliceAt,Instr.slice,Instr.sliceBounds,Instr.sliceBound,asIntOf,hS.eval e1,hS.eval e2,ht.1,ht.2,hp,h2,Zxa]
theorem Znt (hS:St K w0 v0 σ ℓ v a w) {t e:TypeId} {sz n cap p:Nat} {q:Option Addr} {x lo:Operand} {k:IntKind} (ht:ZHb P t e sz) (e1:ev σ x=some (.slice q n cap)) (e2:ev σ lo=some (.int k (p:Int))) (hp:p≤n) :
  (execOp a.eval ⟨d,.slice t x (some lo) none none,ty,pos,aft,g⟩).run P w = .ok (.value (.slice (if cap=p then q else q.map (·.add (p*sz))) (n-p) (cap-p))) w:=by
 have h1:(0:Int)≤(p:Int)∧(p:Int)≤(n:Int):=by omega
 simp [execOp,Instr.sliceAt,Instr.slice,Instr.sliceBounds,Instr.sliceBound,asIntOf,hS.eval e1,hS.eval e2,ht.1,ht.2,hp]
theorem Zdn (hS:St K w0 v0 σ ℓ v a w) {t e:TypeId} {sz b n cap p:Nat} {x hi:Operand} {k:IntKind} (ht:ZHb P t e sz) (e1:ev σ x=some (.slice (some ⟨b,0,none⟩) n cap)) (e2:ev σ hi=some (.int k (p:Int))) (hp:p≤cap) (hc:0<cap) :
  (execOp a.eval ⟨d,.slice t x none (some hi) none,ty,pos,aft,g⟩).run P w = .ok (.value (.slice (some ⟨b,0,none⟩) p cap)) w:=by
 have h1:(0:Int)≤(p:Int)∧(p:Int)≤(cap:Int):=by omega
 have h2:¬ cap=0:=by omega
 simp [execOp,Instr.sliceAt,Instr.slice,Instr.sliceBounds,Instr.sliceBound,asIntOf,hS.eval e1,hS.eval e2,ht.1,ht.2,hp,h2,Zxa]
theorem Zks (hS:St K w0 v0 σ ℓ v a w) {t t':TypeId} {x y:Operand} {p q r:Value} {w':World} (e:ev σ x=some p) (e':ev σ y=some q) (h:(Builtin.append_ #[t,t'] ty #[p,q]).run P w = .ok r w') :
  (execOp a.eval ⟨d,.call ⟨.builtin .append,#[x,y],#[t,t']⟩,ty,pos,aft,g⟩).run P w = .ok (.value r) w':=by
 simp [execOp,resolve,invoke,builtin,hS.eval e,hS.eval e',h]
theorem ZWo (hS:St K w0 v0 σ ℓ v a w) {t t':TypeId} {x y:Operand} {p q r:Value} {w':World} (e:ev σ x=some p) (e':ev σ y=some q) (h:(Builtin.copy_ #[t,t'] ty #[p,q]).run P w = .ok r w') :
  (execOp a.eval ⟨d,.call ⟨.builtin .copy,#[x,y],#[t,t']⟩,ty,pos,aft,g⟩).run P w = .ok (.value r) w':=by
 simp [execOp,resolve,invoke,builtin,hS.eval e,hS.eval e',h]
end
end Go.Eng
namespace Go.Eng
open Go.RowKit
def Zcb {α:Type} (by_:Nat) (l:List α):Option (List α):=bnd (ZA by_ l) fun _=>some l
theorem Ziw {α:Type} {by_:Nat} {l z:List α} (h:Zcb by_ l=some z):l.length*by_≤140737488355328∧z=l:=by
 obtain ⟨_,h1,h2⟩:=Zha h;exact ⟨Zke h1,(Option.some.inj h2).symm⟩
def Zvc {α:Type} (by_:Nat) (x:List α) (n:Int):Option (List α):=match x with
 | [z]=>bnd (mk by_ n n) fun _=>some (List.replicate n.toNat z)
 | _=>none
theorem ZFy {α:Type} {by_:Nat} {x r:List α} {n:Int} (h:Zvc by_ x n=some r):∃ z,x=[z]∧r=List.replicate n.toNat z∧mk by_ n n=some ():=by
 unfold Zvc at h;split at h
 ·obtain ⟨_,h1,h2⟩:=Zha h;exact ⟨_,rfl,(Option.some.inj h2).symm,h1⟩
 ·cases h
def Z8c {α:Type} (l:List α) (i j:Int):Option (List α):=if 0≤i∧i<l.length∧j=i+1 then some (l.take i.toNat++l.drop (i.toNat+1)) else none
theorem Zbr {α:Type} {l z:List α} {i j:Int} (h:Z8c l i j=some z):∃ k:Nat,i=k∧j=((k+1:Nat):Int)∧k<l.length∧z=l.take k++l.drop (k+1):=by
 unfold Z8c at h;split at h
 ·rename_i hc;obtain ⟨h1,h2,h3⟩:=hc;obtain ⟨k,rfl⟩:=Int.eq_ofNat_of_zero_le h1;exact ⟨k,rfl,by omega,by omega,(Option.some.inj h).symm⟩
 ·cases h
theorem Zyi {c:List Value} {sz:Nat} (h:c.length=sz) (n:Nat):((List.replicate n c).flatten).length=n*sz:=by
 rw [List.length_flatten,List.map_replicate,h,List.sum_replicate_nat]
theorem ZPu {c:List Value} (h:c.all plain=true) (n:Nat):((List.replicate n c).flatten).all plain=true:=by
 rw [List.all_eq_true];intro x hx;obtain ⟨l,hl,hxl⟩:=List.mem_flatten.1 hx;rw [(List.mem_replicate.1 hl).2] at hxl;exact List.all_eq_true.1 h x hxl
theorem ZLo {c:List Value} {m n:Nat} (h:m≤n):(List.replicate n c).flatten=(List.replicate m c).flatten++(List.replicate (n-m) c).flatten:=by
 obtain ⟨k,rfl⟩:=Nat.exists_eq_add_of_le h;rw [Nat.add_sub_cancel_left,← List.flatten_append,List.replicate_append_replicate]
theorem rp_step {c z:List Value} {sz j m k:Nat} (hc:c.length=sz) (hz:z.length=sz) (h:j+m≤k):((List.replicate j c).flatten++(List.replicate (k-j) z).flatten).take (j*sz)++(List.replicate m c).flatten++((List.replicate j c).flatten++(List.replicate (k-j) z).flatten).drop (j*sz+((List.replicate m c).flatten).length)=(List.replicate (j+m) c).flatten++(List.replicate (k-(j+m)) z).flatten:=by
 have h1:=Zyi hc j;have h2:=Zyi hz m;rw [Zyi hc m,List.take_left' h1,← List.flatten_append,List.replicate_append_replicate,List.drop_append,h1,List.drop_of_length_le (by rw [h1];omega),List.nil_append,Nat.add_sub_cancel_left,ZLo (m:=m) (n:=k-j) (by omega),List.drop_left' h2,Nat.sub_sub]
section
variable {P:Program} {K:Nat} {w0:Base} {v0:Zb} {σ:List (Nat×Value)} {ℓ:List Loc} {v:Zb} {a:Act} {w:World}
variable {d:Option Nat} {ty:TypeId} {pos:String} {aft:Array Edge} {g:Option (Nat×Bool)}
theorem Zpu (hS:St K w0 v0 σ ℓ v a w) {t t2 e:TypeId} {x y:Operand} {q:Option Addr} {n c:Nat} (ht:P.underlying t=some (.slice e)) (e1:ev σ x=some (.slice q n c)) (e2:ev σ y=some (.slice none 0 0)) :
  (execOp a.eval ⟨d,.binOp .eql t x y t2,ty,pos,aft,g⟩).run P w = .ok (.value (.bool q.isNone)) w:=by
 have h:∀ w:World,(Op.equal t (.slice q n c) (.slice none 0 0)).run P w = .ok q.isNone w:=fun w=>by
  show (Op.equalIn (9999+1) t (.slice q n c) (.slice none 0 0)).run P w=_;unfold Op.equalIn
  cases q <;> simp [run_underlying ht]
 simp [execOp,hS.eval e1,hS.eval e2,eqGuard,binOp,h]
theorem Zgx {t e:TypeId} {sz by_:Nat} {z:Value} (E:Elem P t e sz by_ z) (hS:St K w0 v0 σ ℓ v a w) :
  ∃ b w',((execOp a.eval ⟨d,.buildSlice t 0 #[],ty,pos,aft,g⟩).run P w = .ok (.value (.slice (mkA (some b)) 0 0)) w')∧St K w0 v0 σ (.own (some b) e sz 0 0 [] :: ℓ) v a w':=by
 obtain ⟨i,h1,h2,h3,h4⟩:=info_parts E.info;obtain ⟨b,w',hrun,hst⟩:=Z2g (P:=P) (t:=t) (e:=e) (sz:=sz) (n:=0) (vals:=[]) (cs:=[]) hS (by simp) (by decide) (fun w=>Z1l E.ty h1 h2 h3 (by omega) (fun zc=>by simp [Instr.fill]) w);exact ⟨b,w',hrun (ps:=#[]) rfl,hst⟩
end
def vx {α:Type} (n:Nat) (f:Nat→α):List α:=(List.range n).map f
theorem Zh {α:Type} (n:Nat) (f:Nat→α):(vx n f).length=n:=by simp [vx]
theorem Zkc {α:Type} {n i:Nat} (f:Nat→α) (h:i<n):(vx n f)[i]? = some (f i):=by simp [vx,h]
theorem Zr {α:Type} {n i:Nat} (f:Nat→α) (h:i<n):idx (vx n f) (i:Int)=some (f i):=idx_eq (Zkc f h)
theorem ZB {α:Type} {n:Nat} {f g:Nat→α} (h:∀ i,i<n→f i=g i):vx n f=vx n g:=List.map_congr_left fun i hi=>h i (List.mem_range.1 hi)
theorem ZPa {α:Type} (n:Nat) (f:Nat→α) (i:Nat) (a:α):(vx n f).set i a=vx n (fun k=>if k=i then a else f k):=by
 apply List.ext_getElem?;intro k;by_cases hk:k<n
 ·rw [Zkc _ hk,List.getElem?_set,Zkc _ hk];by_cases e:i=k
  ·subst e;simp [hk,Zh]
  ·rw [if_neg e,if_neg (fun h=>e h.symm)]
 ·rw [List.getElem?_eq_none (by simp [Zh];omega),List.getElem?_eq_none (by simp [Zh];omega)]
theorem Zvb {α:Type} (n:Nat) (f:Nat→α):vx n f++[f n]=vx (n+1) f:=by simp [vx,List.range_succ]
theorem ZOm {α:Type} (n:Nat) (a:α):List.replicate n a=vx n (fun _=>a):=by
 apply List.ext_getElem?;intro k;by_cases hk:k<n
 ·rw [Zkc _ hk];simp [hk]
 ·rw [List.getElem?_eq_none (by simp;omega),List.getElem?_eq_none (by simp [Zh];omega)]
def mx (R n:Nat) (M:Mx):List (List Rat):=vx R fun i=>vx n (M i)
theorem Z1a (R n:Nat) (M:Mx):(mx R n M).length=R:=Zh _ _
theorem Zse {R n:Nat} {M M':Mx} (h:∀ i,i<R→∀ j,j<n→M i j=M' i j):mx R n M=mx R n M':=ZB fun i hi=>ZB fun j hj=>h i hi j hj
theorem ZWa {R n i:Nat} (M:Mx) (h:i<R):idx (mx R n M) (i:Int)=some (vx n (M i)):=Zr _ h
theorem Zlk {R n:Nat} (M:Mx) (i:Nat) (g:Nat→Rat):(mx R n M).set i (vx n g)=mx R n (fun k j=>if k=i then g j else M k j):=by
 unfold mx;rw [ZPa];exact ZB fun k hk=>by by_cases e:k=i <;> simp [e]
theorem ZF {α β:Type} {P:β→Prop} {x:Option α} {y:α} {f:α→Option β} (h:x=some y) (h2:∃ z,f y=some z∧P z):∃ z,bnd x f=some z∧P z:=by subst h;exact h2
theorem ZRi {S R Z:Type} {P:Z→Prop} {body:S→Option (S ⊕ R)} {s:S} {f:R→Option Z} (I:Nat→S→Prop) (Q:R→Prop) (n:Nat) (h0:I 0 s) (hn:n<2^64)
  (h:∀ k s,k≤n→I k s→(∃ s',k<n∧body s=some (.inl s')∧I (k+1) s') ∨ ∃ r,body s=some (.inr r)∧Q r)
  (hf:∀ r,Q r→∃ z,f r=some z∧P z):∃ z,bnd (Zg body Zi s) f=some z∧P z:=by
 have key:∀ m g k s,k+m=n→m<g→I k s→∃ r,Zg body g s=some r∧Q r:=by
  intro m
  induction m with
  | zero =>
   intro g k s hk hg hi;obtain ⟨g,rfl⟩:∃ x,g=x+1:=⟨g-1,by omega⟩;rcases h k s (by omega) hi with ⟨s',h1,_⟩ | ⟨r,h1,h2⟩
   ·omega
   ·exact ⟨r,by unfold Zg;rw [h1,Za],h2⟩
  | succ m ih =>
   intro g k s hk hg hi;obtain ⟨g,rfl⟩:∃ x,g=x+1:=⟨g-1,by omega⟩;rcases h k s (by omega) hi with ⟨s',h1,h2,h3⟩ | ⟨r,h1,h2⟩
   ·obtain ⟨r,h4,h5⟩:=ih g (k+1) s' (by omega) (by omega) h3;exact ⟨r,by unfold Zg;rw [h2,Za];exact h4,h5⟩
   ·exact ⟨r,by unfold Zg;rw [h1,Za],h2⟩
 obtain ⟨r,h1,h2⟩:=key n Zi 0 s (by omega) (ZQ (by omega)) h0;exact ZF h1 (hf r h2)
theorem ZJh {k m:Nat} {x y:Rat} (h:sz k x) (h':sz m y) (hk:k≤1099511627776) (hm:m≤1099511627776):ZFb x y=some (x+y):=by unfold ZFb;rw [if_pos ⟨h.ok hk,h'.ok hm⟩]
theorem ZGg {k m:Nat} {x y:Rat} (h:sz k x) (h':sz m y) (hk:k≤1099511627776) (hm:m≤1099511627776):ZRb x y=some (x-y):=by unfold ZRb;rw [if_pos ⟨h.ok hk,h'.ok hm⟩]
theorem Zjd {k m:Nat} {x y:Rat} (h:sz k x) (h':sz m y) (hk:k≤1099511627776) (hm:m≤1099511627776):ZQa x y=some (x*y):=by unfold ZQa;rw [if_pos ⟨h.ok hk,h'.ok hm⟩]
theorem qdivB {k m:Nat} {x y:Rat} (h:sz k x) (h':sz m y) (hk:k≤1099511627776) (hm:m≤1099511627776) (hy:y≠0):Zwe x y=some (x / y,0):=by unfold Zwe;rw [if_pos ⟨h.ok hk,h'.ok hm⟩,if_neg hy]
theorem Zqp {K:Nat} {x:Rat} {N D:Int} (hx:x=(N:Rat) / (D:Rat)) (hN:N.natAbs<2^K) (hD:D.natAbs<2^K) (h0:D≠0):sz K x:=by
 rw [hx,← Rat.divInt_eq_div,Zii];rcases Zth (if D<0 then -N else N) D.natAbs with ⟨h1,h2⟩ | h1
 ·have h3:bl (if D<0 then -N else N).natAbs≤K:=Zdb (by split <;> omega);have h4:bl D.natAbs≤K:=Zdb hD;exact ⟨by omega,by omega⟩
 ·omega
def CD (K R n:Nat) (M:Mx):Prop:=∃ D:Int,D≠0∧D.natAbs<2^K∧∀ i j,i<R→j<n→∃ N:Int,M i j=(N:Rat) / (D:Rat)∧N.natAbs<2^K
theorem CD.sz {K R n:Nat} {M:Mx} (h:CD K R n M) {i j:Nat} (hi:i<R) (hj:j<n):sz K (M i j):=by
 obtain ⟨D,h0,h1,h2⟩:=h;obtain ⟨N,h3,h4⟩:=h2 i j hi hj;exact Zqp h3 h4 h1 h0
theorem CD.mono {K K' R n:Nat} {M:Mx} (h:CD K R n M) (hk:K≤K'):CD K' R n M:=by
 obtain ⟨D,h0,h1,h2⟩:=h;have hp:=Nat.pow_le_pow_right (show 0<2 by omega) hk;exact ⟨D,h0,by omega,fun i j hi hj=>by
  obtain ⟨N,h3,h4⟩:=h2 i j hi hj;exact ⟨N,h3,by omega⟩⟩
theorem Zpc {a b:Int} {A B:Nat} (ha:a.natAbs<A) (hb:b.natAbs<B):(a*b).natAbs<A*B:=by
 rw [Int.natAbs_mul];exact Nat.mul_lt_mul'' ha hb
def stepM (M:Mx) (c top p:Nat):Mx:=fun i j=>if i=top then M p j / M p c else (if i=p then M top j else M i j)-(if i=p then M top c else M i c)*(M p j / M p c)
theorem CD.step {K R n c top p:Nat} {M:Mx} (h:CD K R n M) (tp:top≤p) (pR:p<R) (cn:c<n) (nz:M p c≠0):CD (2*K+1) R n (stepM M c top p):=by
 obtain ⟨D,h0,h1,h2⟩:=h;obtain ⟨F,f1,f2⟩:=h2 p c pR cn;have e2:2^(2*K+1)=2*(2^K*2^K):=by rw [Nat.pow_succ,Nat.two_mul,Nat.pow_add];omega
 have hF:F≠0:=fun e=>nz (by rw [f1,e,Rat.div_def];exact Rat.zero_mul _);have hD':(D:Rat)≠0:=fun e=>h0 (Rat.intCast_inj.1 (by rw [e];rfl));have hF':(F:Rat)≠0:=fun e=>hF (Rat.intCast_inj.1 (by rw [e];rfl));refine ⟨D*F,fun e=>?_,?_,fun i j hi hj=>?_⟩
 ·rcases Int.mul_eq_zero.1 e with h | h
  ·exact h0 h
  ·exact hF h
 ·have:=Zpc h1 f2;omega
 ·obtain ⟨A,a1,a2⟩:=h2 p j pR hj;unfold stepM;split
  ·refine ⟨A*D,?_,?_⟩
   ·rw [a1,f1,Rat.intCast_mul,Rat.intCast_mul];grind
   ·have:=Zpc a2 h1;omega
  ·have key:∀ i,i<R→∃ N:Int,M i j-M i c*(M p j / M p c)=(N:Rat) / ((D*F:Int):Rat)∧N.natAbs<2^(2*K+1):=fun i hi=>by
    obtain ⟨B,b1,b2⟩:=h2 i j hi hj;obtain ⟨C,c1,c2⟩:=h2 i c hi cn;refine ⟨B*F-C*A,?_,?_⟩
    ·rw [a1,b1,c1,f1,Rat.intCast_sub,Rat.intCast_mul,Rat.intCast_mul,Rat.intCast_mul];grind
    ·have:=Zpc b2 f2;have:=Zpc c2 a2;omega
   by_cases hp:i=p
   ·rw [if_pos hp,if_pos hp];exact key top (by omega)
   ·rw [if_neg hp,if_neg hp];exact key i hi
noncomputable def is1_m (x:Rat) (y:Rat):Option (Bool) :=
 bnd (ZSh x) fun a =>
 bnd (Z9j y) fun b =>
 some (a==b)
set_option maxRecDepth 100000
theorem Zlg:sz 1 (1:Rat):=by constructor <;> decide
def cf (c:Nat→Int):Nat→Nat→Int
 | _,0=>0
 | i,m+1=>if c i≠0 then c i else cf c (i+1) m
end Go.Eng
namespace Go.Eng
open Go.RowKit
variable {P:Program} {K:Nat} {w0:Base} {v0:Zb} {σ:List (Nat×Value)} {ℓ:List Loc} {v:Zb} {a:Act} {w:World}
end Go.Eng

namespace Go.Eng
noncomputable def qOf_m (x:Rat) (y:Rat):Option Rat :=
 some y
noncomputable def ZDa (n:Int):Option Rat :=
 bnd (ZZd n) fun a =>
 bnd (qOf_m (0:Rat) a) fun b =>
 some b
noncomputable def Zqn (m:List (List Rat)):Option ((List (List Rat))×(List Int)×Rat) :=
 bnd (mk 24 (m.length:Int) (m.length:Int)) fun _ =>
 bnd (Zg (σ:=Int×(List (List Rat))) (ρ:=List (List Rat)) (fun e =>
 ifb (decide (e.1<(m.length:Int)))
 (bnd (idx m e.1) fun r =>
 bnd (Zcb 56 r) fun s =>
 bnd (idx e.2 e.1) fun y4 =>
 bnd (chk .i64 (e.1+(1:Int))) fun t =>
 some (.inl (t,e.2.set e.1.toNat s)))
 (some (.inr e.2)))
  Zi ((0:Int),List.replicate (m.length:Int).toNat ([]:List Rat))) fun i =>
 bnd (ZDa (1:Int)) fun u =>
 bnd (α:=Int)
 (ifb ((i.length:Int)==(0:Int))
 (some (0:Int))
 (bnd (idx i (0:Int)) fun v =>
 some (v.length:Int))) fun w =>
 bnd (Zg (σ:=(List Int)×Int×(List (List Rat))×Rat) (ρ:=(List Int)×(List (List Rat))×Rat) (fun a =>
 ifb (decide (a.2.1<w))
 (bnd (α:=(List Int)×(List (List Rat))×Rat)
 (bnd (Zg (σ:=Int) (ρ:=Int) (fun g =>
 bnd (α:=Bool)
 (ifb (decide (g<(a.2.2.1.length:Int)))
 (bnd (idx a.2.2.1 g) fun x =>
 bnd (idx x a.2.1) fun y =>
 bnd (Z5b y) fun z =>
 some z)
 (some false)) fun A =>
 ifb A
 (bnd (chk .i64 (g+(1:Int))) fun B =>
 some (.inl B))
 (some (.inr g)))
      Zi (a.1.length:Int)) fun f =>
 ifb (f==(a.2.2.1.length:Int))
 (bnd (ZDa (0:Int)) fun C =>
 some (a.1,a.2.2.1,C))
 (bnd (α:=(List (List Rat))×Rat)
 (ifb (f != (a.1.length:Int))
 (bnd (idx a.2.2.1 (a.1.length:Int)) fun ab =>
 bnd (idx a.2.2.1 f) fun ac =>
 bnd (idx a.2.2.1 f) fun ad =>
 bnd (idx a.2.2.1 (a.1.length:Int)) fun ae =>
 bnd (eqN ((a.1.length:Int).toNat) ((a.1.length:Int).toNat)) fun _ =>
 bnd (eqN f.toNat f.toNat) fun _ =>
 bnd (ZFa a.2.2.2) fun D =>
 some (ZWc a.2.2.1 f.toNat ((a.1.length:Int).toNat),D))
 (some (a.2.2.1,a.2.2.2))) fun h =>
 bnd (idx h.1 (a.1.length:Int)) fun E =>
 bnd (idx E a.2.1) fun l =>
 bnd (ZQa h.2 l) fun F =>
 bnd (idx h.1 (a.1.length:Int)) fun G =>
 bnd (Zg (σ:=Int×(List (List Rat))) (ρ:=List (List Rat)) (fun d =>
 ifb (decide (d.1<(G.length:Int)))
 (bnd (idx d.2 (a.1.length:Int)) fun n =>
 bnd (idx d.2 (a.1.length:Int)) fun H =>
 bnd (idx H d.1) fun I =>
 bnd (Zwe I l) fun J =>
 bnd (idx n d.1) fun af =>
 bnd (chk .i64 (d.1+(1:Int))) fun K =>
 some (.inl (K,d.2.set ((a.1.length:Int).toNat) (n.set d.1.toNat J.1))))
 (some (.inr d.2)))
       Zi ((0:Int),h.1)) fun o =>
 bnd (Zg (σ:=Int×(List (List Rat))) (ρ:=List (List Rat)) (fun b =>
 ifb (decide (b.1<(o.length:Int)))
 (bnd (α:=List (List Rat))
 (bnd (idx b.2 b.1) fun L =>
 bnd (idx L a.2.1) fun p =>
 bnd (α:=Bool)
 (ifb (b.1==(a.1.length:Int))
 (some true)
 (bnd (Z5b p) fun M =>
 some M)) fun N =>
 ifb N
 (some b.2)
 (bnd (idx b.2 b.1) fun O =>
 bnd (Zg (σ:=Int×(List (List Rat))) (ρ:=List (List Rat)) (fun c =>
 ifb (decide (c.1<(O.length:Int)))
 (bnd (idx c.2 b.1) fun q =>
 bnd (idx c.2 b.1) fun P =>
 bnd (idx P c.1) fun Q =>
 bnd (idx c.2 (a.1.length:Int)) fun R =>
 bnd (idx R c.1) fun S =>
 bnd (ZQa p S) fun T =>
 bnd (ZRb Q T) fun U =>
 bnd (idx q c.1) fun ag =>
 bnd (chk .i64 (c.1+(1:Int))) fun V =>
 some (.inl (V,c.2.set b.1.toNat (q.set c.1.toNat U))))
 (some (.inr c.2)))
            Zi ((0:Int),b.2)) fun W =>
 some W)) fun X =>
 bnd (chk .i64 (b.1+(1:Int))) fun Y =>
 some (.inl (Y,X)))
 (some (.inr b.2)))
       Zi ((0:Int),o)) fun Z =>
 bnd (ZA 8 (a.1++[a.2.1])) fun _ =>
 some (a.1++[a.2.1],Z,F))) fun j =>
 bnd (chk .i64 (a.2.1+(1:Int))) fun aa =>
 some (.inl (j.1,aa,j.2.1,j.2.2)))
 (some (.inr (a.1,a.2.2.1,a.2.2.2))))
  Zi (([]:List Int),(0:Int),i,u)) fun k =>
 some (k.2.1,k.1,k.2.2)
noncomputable def Zfe (m:List (List Rat)):Option Int :=
 ifb ((m.length:Int)==(0:Int))
 (some (0:Int))
 (bnd (idx m (0:Int)) fun a =>
 some (a.length:Int))
noncomputable def Zfg (m:List (List Rat)):Option Bool :=
 bnd (Zfe m) fun b =>
 bnd (α:=Bool)
 (ifb (decide ((m.length:Int)≤(32:Int)))
 (ifb (decide (b≤(32:Int)))
 (bnd (α:=Int)
 (bnd (Zg (σ:=Int) (ρ:=Unit ⊕ Int) (fun a =>
 ifb (decide (a<(m.length:Int)))
 (bnd (idx m a) fun c =>
 ifb ((c.length:Int) != b)
 (some (.inr (.inr a)))
 (bnd (chk .i64 (a+(1:Int))) fun d =>
 some (.inl d)))
 (some (.inr (.inl ()))))
      Zi (0:Int)) fun e =>
     match e with
| .inl i=>(some (-1:Int))
| .inr f=>(some f)) fun g =>
 some (!(decide ((0:Int)≤g))))
 (some false))
 (some false)) fun h =>
 some h
theorem Zic (n:Int):ZDa n=some (n:Rat):=by
 unfold ZDa qOf_m;rfl
theorem mk_ok {b n:Nat} (h:b*n≤281474976710656) (h2:n≤1000000000):mk b (n:Int) (n:Int)=some ():=by
 unfold mk;rw [if_pos ⟨by omega,by omega,by omega,by omega⟩]
theorem Zro (i:Nat):eqN i i=some ():=by unfold eqN;rw [if_pos rfl]
theorem ZZc {α:Type} {b:Nat} {l:List α} (h:l.length*b≤140737488355328):Zcb b l=some l:=by
 unfold Zcb;rw [Zfa h,Za]
theorem copy_ok {R n:Nat} (M:Mx) (hR:R≤1000) (hn:n≤1000):Zg (σ:=Int×(List (List Rat))) (ρ:=List (List Rat)) (fun s1 =>
   ifb (decide (s1.1<((mx R n M).length:Int)))
   (bnd (idx (mx R n M) s1.1) fun y2 =>
    bnd (Zcb 56 y2) fun y3 =>
    bnd (idx s1.2 s1.1) fun y4 =>
    bnd (chk .i64 (s1.1+(1:Int))) fun y5 =>
    some (.inl (y5,s1.2.set s1.1.toNat y3)))
   (some (.inr s1.2)))
  Zi ((0:Int),List.replicate ((mx R n M).length:Int).toNat ([]:List Rat))=some (mx R n M):=by
  refine Zra (fun k=>((k:Int),vx R fun i=>if i<k then vx n (M i) else [])) R ?_ (by omega) (fun k hk=>?_) ?_
  · rw [Z1a];simp only [Int.toNat_natCast,ZOm];refine Prod.ext rfl (ZB fun i hi=>?_);rw [if_neg (by omega)]
  · simp only [Z1a];rw [decide_eq_true (by omega),Ze,ZWa _ hk,Za,ZZc (by rw [Zh];omega),Za,Zr _ hk,Za,Zo (by omega) (by omega),Za];simp only [Int.toNat_natCast];rw [ZPa];refine congrArg (fun x=>some (Sum.inl x)) (Prod.ext (by simp) (ZB fun i hi=>?_));by_cases e:i=k
    · rw [if_pos e,if_pos (by omega),e]
    · rw [if_neg e];by_cases e2:i<k
      · rw [if_pos e2,if_pos (by omega)]
      · rw [if_neg e2,if_neg (by omega)]
  · simp only [Z1a];rw [decide_eq_false (by omega),Zf];exact congrArg (fun x=>some (Sum.inr x)) (ZB fun i hi=>if_pos hi)
theorem Ztk {R n:Nat} (M:Mx) (h:R=0→n=0):Zfe (mx R n M)=some (n:Int):=by
 unfold Zfe;rw [Z1a];by_cases h0:R=0
 ·rw [show ((R:Int)==0)=true by simp [h0],Ze,h h0];rfl
 ·rw [show ((R:Int)==0)=false by simp [h0],Zf];refine Zu (ZWa (i:=0) M (by omega)) ?_;rw [Zh]
theorem Zrw {R n:Nat} (M:Mx) (h:R=0→n=0) (hR:R≤32) (hn:n≤32):Zfg (mx R n M)=some true:=by
 unfold Zfg;rw [Ztk M h,Za,Z1a,decide_eq_true (by omega),Ze,decide_eq_true (by omega),Ze];refine Zu (y:=true) ?_ rfl;refine Zu (y:=(-1:Int)) ?_ rfl;refine Zu (y:=Sum.inl ()) ?_ rfl;refine Zra (fun k=>(k:Int)) R rfl (by omega) (fun k hk=>?_) ?_
 ·rw [decide_eq_true (by omega),Ze,ZWa _ hk,Za,Zh,show ((n:Int) != (n:Int))=false by simp,Zf,Zo (by omega) (by omega),Za];rfl
 ·rw [decide_eq_false (by omega),Zf]
def kk (K k:Nat):Nat:=2^k*(K+1)-1
theorem kk_succ {K k:Nat}:kk K (k+1)=2*kk K k+1:=by
 unfold kk;have:=Nat.mul_pos (Nat.two_pow_pos k) (show 0<K+1 by omega);rw [Nat.pow_succ,Nat.mul_comm (2^k) 2,Nat.mul_assoc];omega
theorem kk_le {K k n:Nat} (h:k≤n):kk K k≤kk K n:=by
 unfold kk;have:=Nat.mul_le_mul_right (K+1) (Nat.pow_le_pow_right (show 0<2 by omega) h);omega
theorem Zle:sz 1 (0:Rat):=⟨by decide,by decide⟩
theorem Zlm {K n:Nat} (h:1≤K):1≤kk K n:=by
 have:=kk_le (K:=K) (k:=0) (n:=n) (Nat.zero_le _);unfold kk at this;unfold kk;simp at this;omega
theorem Zeq {α β:Type} {P:β→Prop} (Q:α→Prop) {x:Option α} {f:α→Option β} (h:∃ y,x=some y∧Q y) (h2:∀ y,Q y→∃ z,f y=some z∧P z):∃ z,bnd x f=some z∧P z:=by
 obtain ⟨y,h,q⟩:=h;exact ZF h (h2 y q)
def ovr (D:Int) (K:Nat) (q:Rat):Prop:=∃ N:Int,q=(N:Rat) / (D:Rat)∧N.natAbs<2^K
theorem Z9i {D F:Int} {K:Nat} (hD:D≠0) (hF:F≠0) (f2:F.natAbs<2^K) {x y w:Rat} (hx:ovr D K x) (hy:ovr D K y) (hw:ovr D K w):ovr (D*F) (2*K+1) (x-y*(w*(1 / ((F:Rat) / (D:Rat))))):=by
 obtain ⟨X,x1,x2⟩:=hx;obtain ⟨Y,y1,y2⟩:=hy;obtain ⟨W,w1,w2⟩:=hw;have e2:2^(2*K+1)=2*(2^K*2^K):=by rw [Nat.pow_succ,Nat.two_mul,Nat.pow_add];omega
 have hD':(D:Rat)≠0:=fun e=>hD (Rat.intCast_inj.1 (by rw [e];rfl));have hF':(F:Rat)≠0:=fun e=>hF (Rat.intCast_inj.1 (by rw [e];rfl));refine ⟨X*F-Y*W,?_,?_⟩
 ·rw [x1,y1,w1,Rat.intCast_sub,Rat.intCast_mul,Rat.intCast_mul,Rat.intCast_mul];grind
 ·have h1:=Zpc x2 f2;have h2:=Zpc y2 w2;omega
theorem ovr_add {D F:Int} {K:Nat} (hD:D≠0) (hF:F≠0) (f2:F.natAbs<2^K) {x y w:Rat} (hx:ovr D K x) (hy:ovr D K y) (hw:ovr D K w):ovr (D*F) (2*K+1) (x+y*(w*(1 / ((F:Rat) / (D:Rat))))):=by
 obtain ⟨Y,y1,y2⟩:=hy;have:=Z9i hD hF f2 hx ⟨-Y,rfl,by rwa [Int.natAbs_neg]⟩ hw;obtain ⟨N,n1,n2⟩:=this;refine ⟨N,?_,n2⟩;rw [← n1,y1,Rat.intCast_neg];grind
theorem ZLi {D F:Int} {K:Nat} (hD:D≠0) (hF:F≠0) (d2:D.natAbs<2^K) {x:Rat} (hx:ovr D K x):ovr (D*F) (2*K+1) (x*(1 / ((F:Rat) / (D:Rat)))):=by
 obtain ⟨X,x1,x2⟩:=hx;have e2:2^(2*K+1)=2*(2^K*2^K):=by rw [Nat.pow_succ,Nat.two_mul,Nat.pow_add];omega
 have hD':(D:Rat)≠0:=fun e=>hD (Rat.intCast_inj.1 (by rw [e];rfl));have hF':(F:Rat)≠0:=fun e=>hF (Rat.intCast_inj.1 (by rw [e];rfl));refine ⟨X*D,?_,?_⟩
 ·rw [x1,Rat.intCast_mul,Rat.intCast_mul];grind
 ·have:=Zpc x2 d2;omega
theorem ZHo {D:Int} {K:Nat} {x:Rat} (hx:ovr D K x):ovr D K (-x):=by
 obtain ⟨X,x1,x2⟩:=hx;exact ⟨-X,by rw [x1,Rat.intCast_neg];grind,by rwa [Int.natAbs_neg]⟩
theorem ovr_inv {D F:Int} {K:Nat} (hD:D≠0) (hF:F≠0) (d2:D.natAbs<2^K):ovr (D*F) (2*K+1) (1 / ((F:Rat) / (D:Rat))):=by
 have e2:2^(2*K+1)=2*(2^K*2^K):=by rw [Nat.pow_succ,Nat.two_mul,Nat.pow_add];omega
 have hD':(D:Rat)≠0:=fun e=>hD (Rat.intCast_inj.1 (by rw [e];rfl));have hF':(F:Rat)≠0:=fun e=>hF (Rat.intCast_inj.1 (by rw [e];rfl));refine ⟨D*D,?_,?_⟩
 ·rw [Rat.intCast_mul,Rat.intCast_mul];grind
 ·have:=Zpc d2 d2;omega
noncomputable def cnt (p:Nat→Prop):Nat→Nat
 | 0=>0
 | n+1=>cnt p n+(open Classical in if p n then 1 else 0)
theorem cnt_le (p:Nat→Prop) (n:Nat):cnt p n≤n:=by
 induction n with
 | zero=>exact Nat.le_refl 0
 | succ n ih=>simp only [cnt];split <;> omega
theorem ZNt {p:Nat→Prop} {n:Nat} (h:cnt p n=0):∀ k,k<n→¬ p k:=by
 induction n with
 | zero=>intro k hk;omega
 | succ n ih =>
  simp only [cnt] at h;intro k hk;split at h
  ·omega
  ·rename_i hn;by_cases e:k=n
   ·rw [e];exact hn
   ·exact ih (by omega) k (by omega)
theorem Z1k {p:Nat→Prop} {n:Nat} (h:0<cnt p n):∃ k,k<n∧p k:=Classical.byContradiction fun hn=>by
 have:cnt p n=0:=by
  clear h
  induction n with
  | zero=>rfl
  | succ n ih =>
   simp only [cnt];rw [ih fun ⟨k,hk,h⟩=>hn ⟨k,by omega,h⟩,if_neg fun h=>hn ⟨n,by omega,h⟩]
 omega
theorem Zbo {p q:Nat→Prop} {n:Nat} (h:∀ k,k<n→(p k↔q k)):cnt p n=cnt q n:=by
 induction n with
 | zero=>rfl
 | succ n ih =>
  simp only [cnt];rw [ih fun k hk=>h k (by omega)];by_cases e:p n
  ·rw [if_pos e,if_pos ((h n (by omega)).1 e)]
  ·rw [if_neg e,if_neg fun e2=>e ((h n (by omega)).2 e2)]
theorem ZRx {p q:Nat→Prop} {n k:Nat} (hk:k<n) (hp:p k) (hq:¬ q k) (h:∀ l,l<n→l≠k→(p l↔q l)):cnt p n=cnt q n+1:=by
 induction n with
 | zero=>omega
 | succ n ih =>
  simp only [cnt];by_cases e:k=n
  ·subst e;rw [if_pos hp,if_neg hq,Zbo fun l hl=>h l (by omega) (by omega)]
  ·have:=ih (by omega) fun l hl=>h l (by omega);by_cases e2:p n
   ·rw [if_pos e2,if_pos ((h n (by omega) (fun e3=>e e3.symm)).1 e2)];omega
   ·rw [if_neg e2,if_neg fun e3=>e2 ((h n (by omega) (fun e3=>e e3.symm)).2 e3)];omega
theorem all_met {n:Nat} {f:Nat→Nat} (h:∀ i,i<n→f i<n) (hi:∀ i j,i<n→j<n→f i=f j→i=j):∀ y,y<n→∃ i,i<n∧f i=y:=fun y hy=>Classical.byContradiction fun hn=>by
 have hlt:∀ i,i≤n→(if i<n then f i else y)<n:=fun i _=>by
  by_cases e:i<n
  ·rw [if_pos e];exact h i e
  ·rw [if_neg e];exact hy
 obtain ⟨i,j,h1,h2,h3⟩:=ZIk n (fun i=>if i<n then f i else y) hlt
 have h3:(if i<n then f i else y)=(if j<n then f j else y):=h3
 rw [if_pos (by omega)] at h3
 split at h3
 ·have:=hi i j (by omega) (by omega) h3;omega
 ·exact hn ⟨i,by omega,h3⟩
namespace Tb
structure all (P:Rat→Prop) (T:Tb) (m n:Nat):Prop where
 a:∀ i k,i<m→k<n→P (T.a i k)
 b:∀ i,i<m→P (T.b i)
 z:∀ k,k<n→P (T.z k)
 v:P T.v
def cd (K:Nat) (T:Tb) (m n:Nat):Prop:=∃ D:Int,D≠0∧D.natAbs<2^K∧T.all (ovr D K) m n
variable {T T0:Tb} {m n N r c K:Nat}
theorem cd.mono {K':Nat} (h:T.cd K m n) (hk:K≤K'):T.cd K' m n:=by
 obtain ⟨D,h0,h1,h2⟩:=h;have hp:=Nat.pow_le_pow_right (show 0<2 by omega) hk;have up:∀ q,ovr D K q→ovr D K' q:=fun q ⟨N,n1,n2⟩=>⟨N,n1,by omega⟩;exact ⟨D,h0,by omega,fun i k hi hk=>up _ (h2.a i k hi hk),fun i hi=>up _ (h2.b i hi),fun k hk=>up _ (h2.z k hk),up _ h2.v⟩
theorem cd.sz (h:T.cd K m n):T.all (sz K) m n:=by
 obtain ⟨D,h0,h1,h2⟩:=h;have up:∀ q,ovr D K q→Go.Eng.sz K q:=fun q ⟨N,n1,n2⟩=>Zqp n1 n2 h1 h0;exact ⟨fun i k hi hk=>up _ (h2.a i k hi hk),fun i hi=>up _ (h2.b i hi),fun k hk=>up _ (h2.z k hk),up _ h2.v⟩
theorem cd.piv (h:T.cd K m n) (hr:r<m) (hc:c<n) (h0:T.a r c≠0):(T.piv r c).cd (2*K+1) m n:=by
 obtain ⟨D,hD,h1,h2⟩:=h;obtain ⟨F,f1,f2⟩:=h2.a r c hr hc;have hF:F≠0:=fun e=>h0 (by rw [f1,e,Rat.div_def];exact Rat.zero_mul _);have e2:2^(2*K+1)=2*(2^K*2^K):=by rw [Nat.pow_succ,Nat.two_mul,Nat.pow_add];omega
 refine ⟨D*F,fun e=>?_,?_,fun i k hi hk=>?_,fun i hi=>?_,fun k hk=>?_,?_⟩
 ·rcases Int.mul_eq_zero.1 e with h | h
  ·exact hD h
  ·exact hF h
 ·have:=Zpc h1 f2;omega
 ·show ovr _ _ (if i=r then (if k=c then 1 / T.a r c else T.a r k*(1 / T.a r c)) else (if k=c then -(T.a i c*(1 / T.a r c)) else T.a i k-T.a i c*(T.a r k*(1 / T.a r c))));rw [f1];split <;> split
  ·exact ovr_inv hD hF h1
  ·exact ZLi hD hF h1 (h2.a r k hr hk)
  ·exact ZHo (ZLi hD hF h1 (h2.a i c hi hc))
  ·exact Z9i hD hF f2 (h2.a i k hi hk) (h2.a i c hi hc) (h2.a r k hr hk)
 ·show ovr _ _ (if i=r then T.b r*(1 / T.a r c) else T.b i-T.a i c*(T.b r*(1 / T.a r c)));rw [f1];split
  ·exact ZLi hD hF h1 (h2.b r hr)
  ·exact Z9i hD hF f2 (h2.b i hi) (h2.a i c hi hc) (h2.b r hr)
 ·show ovr _ _ (if k=c then -(T.z c*(1 / T.a r c)) else T.z k-T.z c*(T.a r k*(1 / T.a r c)));rw [f1];split
  ·exact ZHo (ZLi hD hF h1 (h2.z c hc))
  ·exact Z9i hD hF f2 (h2.z k hk) (h2.z c hc) (h2.a r k hr hk)
 ·show ovr _ _ (T.v+T.z c*(T.b r*(1 / T.a r c)));rw [f1];exact ovr_add hD hF f2 h2.v (h2.z c hc) (h2.b r hr)
theorem piv_piv (h0:T.a r c≠0):(T.piv r c).piv r c=T:=by
 have hi:(1:Rat) / (1 / T.a r c)=T.a r c:=by grind
 have e:(T.piv r c).a r c=1 / T.a r c:=by simp [piv]
 cases T with
 | mk a b z v bs fr =>
  simp only [piv] at *;simp only [Tb.mk.injEq];simp only [if_true,e];refine ⟨?_,?_,?_,?_,?_,?_⟩
  ·funext i k
   by_cases hi':i=r <;> by_cases hk':k=c <;> simp [hi',hk'] <;> grind
  ·funext i
   by_cases hi':i=r <;> simp [hi'] <;> grind
  ·funext k
   by_cases hk':k=c <;> simp [hk'] <;> grind
  ·grind
  ·funext i
   by_cases hi':i=r <;> simp [hi']
  ·funext k
   by_cases hk':k=c <;> simp [hk']
theorem row_ex (h0:T0.arr m n N) (h:T.arr m n N) (he:T.eqv T0 m n) {k:Nat} (hk:k<n) (hB:T0.inB m (T.fr k)):∃ i,i<m∧¬ T0.inB m (T.bs i)∧T.a i k≠0:=Classical.byContradiction fun hn=>by
 have hz:∀ i,i<m→¬ T0.inB m (T.bs i)→T.a i k=0:=fun i hi hb=>Classical.byContradiction fun e=>hn ⟨i,hi,hb,e⟩
 obtain ⟨x0,s0,f0,b0⟩:=h.pt fun _=>0
 obtain ⟨x1,s1,f1,b1⟩:=h.pt fun l=>if l=k then 1 else 0
 have key:=h0.uni ((he.sol x0).1 s0) ((he.sol x1).1 s1) (fun l hl=>by
  have hnB:¬ T0.inB m (T0.fr l):=fun ⟨a,ha,e⟩=>h0.d a l ha hl e
  rcases h.cov _ (h0.fl l hl) with ⟨i,hi,e⟩ | ⟨q,hq,e⟩
  ·rw [← e] at hnB ⊢
   have hb0:sm n (fun l=>T.a i l*(0:Rat))=0:=Z8 fun l _=>Rat.mul_zero _
   have hb1:sm n (fun l=>T.a i l*(if l=k then (1:Rat) else 0))=T.a i k:=by
    rw [ZCa hk fun l _ hne=>by rw [if_neg hne];exact Rat.mul_zero _,if_pos rfl,Rat.mul_one]
   rw [b0 i hi,b1 i hi,hb0,hb1,hz i hi hnB]
  ·rw [← e] at hnB ⊢;rw [f0 q hq,f1 q hq,if_neg fun e2=>hnB (by rw [e2];exact hB)]) (T.fr k) (h.fl k hk)
 rw [f0 k hk,f1 k hk,if_pos rfl] at key;exact absurd key (by decide)
theorem Zyu {P:Rat→Prop} (h0:T0.arr m n N) (h:T.arr m n N) (he:T.eqv T0 m n) (hf:∀ k,k<n→¬ T0.inB m (T.fr k)) (ha:T0.all P m n):T.all P m n:=by
 have hfr:∀ k,∃ l,k<n→l<n∧T.fr k=T0.fr l:=fun k=>by
  by_cases hk:k<n
  ·rcases h0.cov _ (h.fl k hk) with ⟨i,hi,e⟩ | ⟨l,hl,e⟩
   ·exact absurd ⟨i,hi,e⟩ (hf k hk)
   ·exact ⟨l,fun _=>⟨hl,e.symm⟩⟩
  ·exact ⟨0,fun e=>absurd e hk⟩
 obtain ⟨σ,hσ⟩:=Classical.axiomOfChoice hfr;have hinj:∀ i j,i<n→j<n→σ i=σ j→i=j:=fun i j hi hj e=>h.fi i j hi hj (by rw [(hσ i hi).2,(hσ j hj).2,e]);have hmet:=all_met (fun i hi=>(hσ i hi).1) hinj;have hbs:∀ i,i<m→∃ i0,i0<m∧T.bs i=T0.bs i0:=fun i hi=>by
  rcases h0.cov _ (h.bl i hi) with ⟨a,ha,e⟩ | ⟨l,hl,e⟩
  ·exact ⟨a,ha,e.symm⟩
  ·obtain ⟨k,hk,e2⟩:=hmet l hl;exact absurd (by rw [← e,← e2,(hσ k hk).2]:T.bs i=T.fr k) (h.d i k hi hk)
 obtain ⟨x0,s0,f0,b0⟩:=h0.pt fun _=>0;have f0':∀ k,k<n→x0 (T.fr k)=0:=fun k hk=>by rw [(hσ k hk).2];exact f0 _ (hσ k hk).1
 have hb:∀ i i0,i<m→i0<m→T.bs i=T0.bs i0→T.b i=T0.b i0:=fun i i0 hi hi0 e=>by
  have h1:=(he.sol x0).2 s0 i hi;rw [Z8 fun k hk=>by rw [f0' k hk];exact Rat.mul_zero _,e,b0 i0 hi0,Z8 fun k hk=>Rat.mul_zero _] at h1;grind
 have hv:T.v=T0.v:=by
  have:=he.obj x0 s0;rw [Zui f0',Zui f0] at this;exact this
 have unit:∀ k,k<n→∃ x,T0.sol m n x∧(∀ k',k'<n→x (T.fr k')=if k'=k then 1 else 0)∧(∀ l,l<n→x (T0.fr l)=if l=σ k then 1 else 0)∧∀ i,i<m→x (T0.bs i)=T0.b i-T0.a i (σ k):=fun k hk=>by
  obtain ⟨x1,s1,f1,b1⟩:=h0.pt fun l=>if l=σ k then 1 else 0;refine ⟨x1,s1,fun k' hk'=>?_,f1,fun i hi=>?_⟩
  ·rw [(hσ k' hk').2,f1 _ (hσ k' hk').1];by_cases e:k'=k
   ·rw [e,if_pos rfl,if_pos rfl]
   ·rw [if_neg e,if_neg fun e2=>e (hinj k' k hk' hk e2)]
  ·rw [b1 i hi,ZCa (hσ k hk).1 fun l _ hne=>by rw [if_neg hne];exact Rat.mul_zero _,if_pos rfl,Rat.mul_one]
 refine ⟨fun i k hi hk=>?_,fun i hi=>?_,fun k hk=>?_,by rw [hv];exact ha.v⟩
 ·obtain ⟨i0,hi0,e⟩:=hbs i hi;obtain ⟨x1,s1,f1,g1,b1⟩:=unit k hk;have h1:=(he.sol x1).2 s1 i hi;rw [ZCa hk fun l hl hne=>by rw [f1 l hl,if_neg hne];exact Rat.mul_zero _,f1 k hk,if_pos rfl,e,b1 i0 hi0,hb i i0 hi hi0 e] at h1;have:T.a i k=T0.a i0 (σ k):=by grind
  rw [this];exact ha.a i0 _ hi0 (hσ k hk).1
 ·obtain ⟨i0,hi0,e⟩:=hbs i hi;rw [hb i i0 hi hi0 e];exact ha.b i0 hi0
 ·obtain ⟨x1,s1,f1,g1,b1⟩:=unit k hk;have h1:=he.obj x1 s1;unfold obj at h1;rw [ZCa hk fun l hl hne=>by rw [f1 l hl,if_neg hne];exact Rat.mul_zero _,f1 k hk,if_pos rfl,ZCa (hσ k hk).1 fun l hl hne=>by rw [g1 l hl,if_neg hne];exact Rat.mul_zero _,g1 _ (hσ k hk).1,if_pos rfl] at h1;have:T.z k=T0.z (σ k):=by grind
  rw [this];exact ha.z _ (hσ k hk).1
theorem Zjq (h0:T0.arr m n N) (c0:T0.cd K m n):∀ (d:Nat) (T:Tb),cnt (fun k=>T0.inB m (T.fr k)) n=d→T.arr m n N→T.eqv T0 m n→T.cd (kk K d) m n
 | 0,T,hd,h,he=>by
  obtain ⟨D,h1,h2,h3⟩:=c0
  have e:kk K 0=K:=by unfold kk;omega
  rw [e]
  exact ⟨D,h1,h2,Zyu h0 h he (ZNt hd) h3⟩
 | d+1,T,hd,h,he=>by
  obtain ⟨k,hk,hB⟩:=Z1k (show 0<cnt (fun k=>T0.inB m (T.fr k)) n by omega)
  obtain ⟨i,hi,hnB,hne⟩:=row_ex h0 h he hk hB
  have h':=h.piv hi hk
  have he':=(Z1i hi hk hne).trans he
  have hc:cnt (fun k=>T0.inB m (T.fr k)) n=cnt (fun l=>T0.inB m ((T.piv i k).fr l)) n+1:=ZRx hk hB (by rw [Zrd,if_pos rfl];exact hnB) fun l _ hl=>by rw [Zrd,if_neg hl]
  have:=Zjq h0 c0 d (T.piv i k) (by omega) h' he'
  have h2:=this.piv hi hk (show (T.piv i k).a i k≠0 by simp [piv];grind)
  rw [piv_piv hne,← kk_succ] at h2
  exact h2
theorem cnt_one {f:Nat→Nat} {u:Nat} {n:Nat} (hi:∀ i j,i<n→j<n→f i=f j→i=j):cnt (fun k=>f k=u) n≤1:=by
 induction n with
 | zero=>exact Nat.zero_le 1
 | succ n ih =>
  simp only [cnt];have:=ih fun i j a b=>hi i j (by omega) (by omega);split
  ·rename_i e;have:cnt (fun k=>f k=u) n=0:=Classical.byContradiction fun h=>by
    obtain ⟨k,hk,e2⟩:=Z1k (show 0<cnt (fun k=>f k=u) n by omega);have:=hi k n (by omega) (by omega) (e2.trans e.symm);omega
   omega
  ·omega
theorem cnt_or (p q:Nat→Prop) (n:Nat):cnt (fun k=>p k∨q k) n≤cnt p n+cnt q n:=by
 induction n with
 | zero=>exact Nat.zero_le _
 | succ n ih =>
  simp only [cnt];by_cases h1:p n
  ·rw [if_pos (Or.inl h1),if_pos h1];omega
  ·by_cases h2:q n
   ·rw [if_pos (Or.inr h2),if_pos h2];omega
   ·rw [if_neg (fun h=>h.elim h1 h2)];omega
theorem ZPq {f g:Nat→Nat} {n:Nat} (hi:∀ i j,i<n→j<n→f i=f j→i=j):∀ m,cnt (fun k=>∃ i,i<m∧g i=f k) n≤m
 | 0=>by
  refine Nat.le_of_eq (Classical.byContradiction fun h=>?_)
  obtain ⟨k,_,i,hi,_⟩:=Z1k (Nat.pos_of_ne_zero h)
  omega
 | m+1=>by
  have h1:=ZPq (g:=g) hi m
  have h2:=cnt_one (f:=f) (u:=g m) hi
  have h3:=cnt_or (fun k=>∃ i,i<m∧g i=f k) (fun k=>f k=g m) n
  have h4:cnt (fun k=>∃ i,i<m+1∧g i=f k) n=cnt (fun k=>(∃ i,i<m∧g i=f k)∨f k=g m) n:=Zbo fun k _=>by
   constructor
   ·rintro ⟨i,hi,e⟩
    by_cases e2:i=m
    ·exact .inr (by rw [← e,e2])
    ·exact .inl ⟨i,by omega,e⟩
   ·rintro (⟨i,hi,e⟩ | e)
    ·exact ⟨i,by omega,e⟩
    ·exact ⟨m,by omega,e.symm⟩
  omega
theorem ZRj {R:Nat} (hr:m≤R∨n≤R) (h0:T0.arr m n N) (c0:T0.cd K m n) (h:T.arr m n N) (he:T.eqv T0 m n):T.cd (kk K R) m n:=(Zjq h0 c0 _ T rfl h he).mono (kk_le (by
 have h1:=cnt_le (fun k=>T0.inB m (T.fr k)) n
 have h2:cnt (fun k=>T0.inB m (T.fr k)) n≤m:=ZPq h.fi m
 omega))
end Tb
noncomputable def Z5e (t:(List (List Rat))×(List Rat)×(List Rat)×Rat×(List Int)×(List Int)) (r:Int) (c:Int):Option (((List (List Rat))×(List Rat)×(List Rat)×Rat×(List Int)×(List Int))×Unit) :=
 bnd (ZDa (1:Int)) fun u =>
 bnd (idx t.1 r) fun v =>
 bnd (idx v c) fun w =>
 bnd (Zwe u w) fun g =>
 bnd (idx t.1 r) fun x =>
 bnd (Zg (σ:=Int×(List (List Rat))) (ρ:=List (List Rat)) (fun e =>
 ifb (decide (e.1<(x.length:Int)))
 (bnd (idx e.2 r) fun k =>
 bnd (idx e.2 r) fun y =>
 bnd (idx y e.1) fun z =>
 bnd (ZQa z g.1) fun A =>
 bnd (idx k e.1) fun aq =>
 bnd (chk .i64 (e.1+(1:Int))) fun B =>
 some (.inl (B,e.2.set r.toNat (k.set e.1.toNat A))))
 (some (.inr e.2)))
  Zi ((0:Int),t.1)) fun h =>
 bnd (idx h r) fun i =>
 bnd (idx i c) fun ar =>
 bnd (idx t.2.1 r) fun C =>
 bnd (ZQa C g.1) fun D =>
 bnd (idx t.2.1 r) fun au =>
 bnd (Zg (σ:=Int×(List (List Rat))×(List Rat)) (ρ:=(List (List Rat))×(List Rat)) (fun a =>
 ifb (decide (a.1<((h.set r.toNat (i.set c.toNat g.1)).length:Int)))
 (bnd (α:=(List (List Rat))×(List Rat))
 (bnd (α:=Bool)
 (ifb (a.1==r)
 (some true)
 (bnd (idx a.2.1 a.1) fun E =>
 bnd (idx E c) fun F =>
 bnd (Z5b F) fun G =>
 some G)) fun H =>
 ifb H
 (some (a.2.1,a.2.2))
 (bnd (idx a.2.1 a.1) fun I =>
 bnd (idx I c) fun J =>
 bnd (idx a.2.2 a.1) fun K =>
 bnd (idx a.2.2 r) fun L =>
 bnd (ZQa J L) fun M =>
 bnd (ZRb K M) fun N =>
 bnd (idx a.2.2 a.1) fun av =>
 bnd (idx a.2.1 a.1) fun l =>
 bnd (idx l c) fun m =>
 bnd (Zg (σ:=Int×(List (List Rat))) (ρ:=List (List Rat)) (fun b =>
 ifb (decide (b.1<(l.length:Int)))
 (bnd (idx b.2 ((a.1.toNat:Nat):Int)) fun O =>
 bnd (idx O b.1) fun P =>
 bnd (idx b.2 r) fun Q =>
 bnd (idx Q b.1) fun R =>
 bnd (ZQa m R) fun S =>
 bnd (ZRb P S) fun T =>
 bnd (idx b.2 ((a.1.toNat:Nat):Int)) fun n =>
 bnd (idx n b.1) fun ax =>
 bnd (chk .i64 (b.1+(1:Int))) fun U =>
 some (.inl (U,b.2.set a.1.toNat (n.set b.1.toNat T))))
 (some (.inr b.2)))
       Zi ((0:Int),a.2.1)) fun j =>
 bnd (idx j r) fun V =>
 bnd (idx V c) fun W =>
 bnd (ZQa m W) fun X =>
 bnd (ZFa X) fun Y =>
 bnd (idx j ((a.1.toNat:Nat):Int)) fun o =>
 bnd (idx o c) fun ay =>
 some (j.set a.1.toNat (o.set c.toNat Y),a.2.2.set a.1.toNat N))) fun p =>
 bnd (chk .i64 (a.1+(1:Int))) fun Z =>
 some (.inl (Z,p.1,p.2)))
 (some (.inr (a.2.1,a.2.2))))
  Zi ((0:Int),h.set r.toNat (i.set c.toNat g.1),t.2.1.set r.toNat D)) fun f =>
 bnd (idx t.2.2.1 c) fun aa =>
 bnd (idx f.2 r) fun ab =>
 bnd (ZQa aa ab) fun ac =>
 bnd (ZFb t.2.2.2.1 ac) fun ad =>
 bnd (idx t.2.2.1 c) fun q =>
 bnd (Zg (σ:=Int×(List Rat)) (ρ:=List Rat) (fun d =>
 ifb (decide (d.1<(t.2.2.1.length:Int)))
 (bnd (idx d.2 d.1) fun ae =>
 bnd (idx f.1 r) fun af =>
 bnd (idx af d.1) fun ag =>
 bnd (ZQa q ag) fun ah =>
 bnd (ZRb ae ah) fun ai =>
 bnd (idx d.2 d.1) fun az =>
 bnd (chk .i64 (d.1+(1:Int))) fun aj =>
 some (.inl (aj,d.2.set d.1.toNat ai)))
 (some (.inr d.2)))
  Zi ((0:Int),t.2.2.1)) fun s =>
 bnd (idx f.1 r) fun ak =>
 bnd (idx ak c) fun al =>
 bnd (ZQa q al) fun am =>
 bnd (ZFa am) fun an =>
 bnd (idx s c) fun aA =>
 bnd (idx t.2.2.2.2.2 c) fun ao =>
 bnd (idx t.2.2.2.2.1 r) fun ap =>
 bnd (idx t.2.2.2.2.1 r) fun aB =>
 bnd (idx t.2.2.2.2.2 c) fun aC =>
 some ((f.1,f.2,s.set c.toNat an,ad,t.2.2.2.2.1.set r.toNat ao,t.2.2.2.2.2.set c.toNat ap),())
abbrev TbL:=(List (List Rat))×(List Rat)×(List Rat)×Rat×(List Int)×(List Int)
def tbl (m n:Nat) (T:Tb):TbL:=(mx m n T.a,vx m T.b,vx n T.z,T.v,vx m (fun i=>(T.bs i:Int)),vx n (fun k=>(T.fr k:Int)))
theorem ZCy:((1:Int):Rat)=1:=rfl
namespace Tb
variable {T:Tb} {m n r c K:Nat}
theorem Zog (T:Tb) (r c k:Nat):(T.piv r c).a r k=if k=c then 1 / T.a r c else T.a r k*(1 / T.a r c):=if_pos rfl
theorem Z4p (T:Tb) {r i:Nat} (c k:Nat) (h:i≠r):(T.piv r c).a i k=if k=c then -(T.a i c*(1 / T.a r c)) else T.a i k-T.a i c*(T.a r k*(1 / T.a r c)):=if_neg h
theorem Z5j (T:Tb) (r c:Nat):(T.piv r c).b r=T.b r*(1 / T.a r c):=if_pos rfl
theorem ZKo (T:Tb) {r i:Nat} (c:Nat) (h:i≠r):(T.piv r c).b i=T.b i-T.a i c*(T.b r*(1 / T.a r c)):=if_neg h
theorem piv_z (T:Tb) (r c k:Nat):(T.piv r c).z k=if k=c then -(T.z c*(1 / T.a r c)) else T.z k-T.z c*(T.a r k*(1 / T.a r c)):=rfl
def ZOb (T:Tb) (r c i:Nat):Mx:=fun i' k=>if i'=r then (T.piv r c).a r k else if i'<i then (T.piv r c).a i' k else T.a i' k
def Zsc (T:Tb) (r c i:Nat):Nat→Rat:=fun i'=>if i'=r then (T.piv r c).b r else if i'<i then (T.piv r c).b i' else T.b i'
end Tb
open Tb
set_option maxRecDepth 100000 in
theorem ZFk {T:Tb} {m n r c K:Nat} (hr:r<m) (hc:c<n) (h0:T.a r c≠0) (hz:T.all (sz K) m n) (hm:m≤1000) (hn:n≤1000) (hK:K≤137438953472) (hK1:1≤K):Z5e (tbl m n T) (r:Int) (c:Int)=some (tbl m n (T.piv r c),()):=by
 have zf:sz (K+2) (1 / T.a r c):=(Zmq Zlg (hz.a r c hr hc)).mono (by omega);have zr:∀ k,k<n→sz (2*K+2) ((T.piv r c).a r k):=fun k hk=>by
  rw [Zog];split
  ·exact zf.mono (by omega)
  ·exact (Zwd (hz.a r k hr hk) zf).mono (by omega)
 have zbr:sz (2*K+2) ((T.piv r c).b r):=by rw [Z5j];exact (Zwd (hz.b r hr) zf).mono (by omega)
 unfold Z5e tbl;refine Zu (Zic 1) ?_;refine Zu (ZWa _ hr) ?_;refine Zu (Zr _ hc) ?_;refine Zu (y:=(1 / T.a r c,0)) (by rw [ZCy];exact qdivB Zlg (hz.a r c hr hc) (by omega) (by omega) h0) ?_;refine Zu (ZWa _ hr) ?_;refine Zu (y:=mx m n (fun i k=>if i=r∧k<n then T.a r k*(1 / T.a r c) else T.a i k)) (Zra (fun j=>((j:Int),mx m n (fun i k=>if i=r∧k<j then T.a r k*(1 / T.a r c) else T.a i k))) n ?_ (by omega) (fun j hj=>?_) ?_) ?_
 ·exact Prod.ext rfl (Zse fun i hi k hk=>if_neg (by omega))
 ·simp only;rw [Zh,decide_eq_true (by omega),Ze,ZWa _ hr,Za,Za,Zr _ hj,Za,if_neg (by omega),Zjd (hz.a r j hr hj) zf (by omega) (by omega),Za,Za,Zo (by omega) (by omega),Za];simp only [Int.toNat_natCast];rw [ZPa,Zlk];refine congrArg (fun x=>some (Sum.inl x)) (Prod.ext (by simp) (Zse fun i hi k hk=>?_));by_cases e:i=r
  ·rw [if_pos e];by_cases e2:k=j
   ·rw [if_pos e2,if_pos ⟨e,by omega⟩,e2]
   ·rw [if_neg e2,e];by_cases e3:k<j
    ·rw [if_pos ⟨trivial,e3⟩,if_pos ⟨rfl,by omega⟩]
    ·rw [if_neg (by omega),if_neg (by omega)]
  ·rw [if_neg e,if_neg (by omega),if_neg (by omega)]
 ·simp only;rw [Zh,decide_eq_false (by omega),Zf]
 refine Zu (ZWa _ hr) ?_;refine Zu (Zr _ hc) ?_;refine Zu (Zr _ hr) ?_;refine Zu (Zjd (hz.b r hr) zf (by omega) (by omega)) ?_;refine Zu (Zr _ hr) ?_;simp only [Int.toNat_natCast];rw [ZPa,Zlk,ZPa];have eA:mx m n (fun k j=>if k=r then (if j=c then 1 / T.a r c else if True∧j<n then T.a r j*(1 / T.a r c) else T.a r j) else if k=r∧j<n then T.a r j*(1 / T.a r c) else T.a k j)=mx m n (ZOb T r c 0):=Zse fun i hi k hk=>by
  unfold ZOb;by_cases e:i=r
  ·rw [if_pos e,if_pos e,Zog];split
   ·rfl
   ·rw [if_pos ⟨trivial,hk⟩]
  ·rw [if_neg e,if_neg e,if_neg (by omega),if_neg (by omega)]
 have eB:vx m (fun k=>if k=r then T.b r*(1 / T.a r c) else T.b k)=vx m (Zsc T r c 0):=ZB fun i hi=>by
  unfold Zsc;by_cases e:i=r
  ·rw [if_pos e,if_pos e,Z5j]
  ·rw [if_neg e,if_neg e,if_neg (by omega)]
 rw [eA,eB];have rA:∀ i k,ZOb T r c i r k=(T.piv r c).a r k:=fun i k=>if_pos rfl;have rB:∀ i,Zsc T r c i r=(T.piv r c).b r:=fun i=>if_pos rfl;refine Zu (y:=(mx m n (ZOb T r c m),vx m (Zsc T r c m))) (Zra (fun i=>((i:Int),mx m n (ZOb T r c i),vx m (Zsc T r c i))) m rfl (by omega) (fun i hi=>?_) ?_) ?_
 ·simp only;rw [Z1a,decide_eq_true (by omega),Ze];refine Zu (y:=(mx m n (ZOb T r c (i+1)),vx m (Zsc T r c (i+1)))) ?_ (by rw [Zo (by omega) (by omega),Za];rfl);by_cases e:i=r
  ·rw [show ((i:Int)==(r:Int))=true by simp [e],Ze,Za,Ze];refine congrArg some (Prod.ext (Zse fun i' hi' k hk=>?_) (ZB fun i' hi'=>?_))
   ·unfold ZOb;by_cases e2:i'=r
    ·rw [if_pos e2,if_pos e2]
    ·rw [if_neg e2,if_neg e2];by_cases e3:i'<i
     ·rw [if_pos e3,if_pos (by omega)]
     ·rw [if_neg e3,if_neg (by omega)]
   ·unfold Zsc;by_cases e2:i'=r
    ·rw [if_pos e2,if_pos e2]
    ·rw [if_neg e2,if_neg e2];by_cases e3:i'<i
     ·rw [if_pos e3,if_pos (by omega)]
     ·rw [if_neg e3,if_neg (by omega)]
  ·have iA:∀ k,ZOb T r c i i k=T.a i k:=fun k=>by unfold ZOb;rw [if_neg e,if_neg (by omega)]
   have iB:Zsc T r c i i=T.b i:=by unfold Zsc;rw [if_neg e,if_neg (by omega)]
   rw [show ((i:Int)==(r:Int))=false by simp;omega,Zf,ZWa _ hi,Za,Zr _ hc,Za,iA];unfold Z5b;by_cases hz0:T.a i c=0
   ·rw [decide_eq_true hz0,Za,Za,Ze];refine congrArg some (Prod.ext (Zse fun i' hi' k hk=>?_) (ZB fun i' hi'=>?_))
    ·unfold ZOb;by_cases e2:i'=r
     ·rw [if_pos e2,if_pos e2]
     ·rw [if_neg e2,if_neg e2];by_cases e3:i'<i
      ·rw [if_pos e3,if_pos (by omega)]
      ·rw [if_neg e3];by_cases e4:i'=i
       ·rw [if_pos (by omega),e4,Z4p T c k e,hz0];split
        ·rename_i hkc;rw [hkc,hz0];grind
        ·grind
       ·rw [if_neg (by omega)]
    ·unfold Zsc;by_cases e2:i'=r
     ·rw [if_pos e2,if_pos e2]
     ·rw [if_neg e2,if_neg e2];by_cases e3:i'<i
      ·rw [if_pos e3,if_pos (by omega)]
      ·rw [if_neg e3];by_cases e4:i'=i
       ·rw [if_pos (by omega),e4,ZKo T c e,hz0];grind
       ·rw [if_neg (by omega)]
   ·have zg:sz K (T.a i c):=hz.a i c hi hc;rw [decide_eq_false hz0,Za,Za,Zf,Za,Zr _ hc,Za,Zr _ hi,Za,iB,Zr _ hr,Za,rB,iA,Zjd zg zbr (by omega) (by omega),Za,ZGg (hz.b i hi) (Zwd zg zbr) (by omega) (by omega),Za,Za,Za,Zr _ hc,Za,iA];simp only [Int.toNat_natCast]
    let inn:Nat→Mx:=fun j i' k=>if i'=i∧k<j then T.a i k-T.a i c*(T.piv r c).a r k else ZOb T r c i i' k
    have innr:∀ j k,inn j r k=(T.piv r c).a r k:=fun j k=>by show (if _ then _ else _)=_;rw [if_neg (by omega)];exact rA i k
    refine Zu (y:=mx m n (inn n)) (Zra (fun j=>((j:Int),mx m n (inn j))) n ?_ (by omega) (fun j hj=>?_) ?_) ?_
    ·exact Prod.ext rfl (Zse fun i' hi' k hk=>if_neg (by omega))
    ·have ij:inn j i j=T.a i j:=by show (if _ then _ else _)=_;rw [if_neg (by omega)];exact iA j
     simp only;rw [Zh,decide_eq_true (by omega),Ze,ZWa _ hi,Za,Zr _ hj,Za,ZWa _ hr,Za,Zr _ hj,Za,innr,ij,Zjd zg (zr j hj) (by omega) (by omega),Za,ZGg (hz.a i j hi hj) (Zwd zg (zr j hj)) (by omega) (by omega),Za,Za,Zr _ hj,Za,Zo (by omega) (by omega),Za];simp only [Int.toNat_natCast];rw [ZPa,Zlk];refine congrArg (fun x=>some (Sum.inl x)) (Prod.ext (by simp) (Zse fun i' hi' k hk=>?_));show _=if _ then _ else _;by_cases e2:i'=i
     ·rw [if_pos e2];by_cases e3:k=j
      ·rw [if_pos e3,if_pos ⟨e2,by omega⟩,e3]
      ·rw [if_neg e3];show (if _ then _ else _)=_;by_cases e4:k<j
       ·rw [if_pos ⟨rfl,e4⟩,if_pos ⟨e2,by omega⟩]
       ·rw [if_neg (by omega),if_neg (by omega),e2]
     ·rw [if_neg e2];show (if _ then _ else _)=_;rw [if_neg (by omega),if_neg (by omega)]
    ·simp only;rw [Zh,decide_eq_false (by omega),Zf]
    rw [ZWa _ hr,Za,Zr _ hc,Za,innr,Zjd zg (zr c hc) (by omega) (by omega),Za];unfold ZFa;rw [Za,ZWa _ hi,Za,Zr _ hc,Za,ZPa,Zlk,ZPa];refine congrArg some (Prod.ext (Zse fun i' hi' k hk=>?_) (ZB fun i' hi'=>?_))
    ·by_cases e2:i'=i
     ·have hR:ZOb T r c (i+1) i' k=(T.piv r c).a i k:=by unfold ZOb;rw [if_neg (by omega),if_pos (by omega),e2]
      rw [if_pos e2,hR,Z4p T c k e];by_cases e3:k=c
      ·rw [if_pos e3,if_pos e3,Zog,if_pos rfl]
      ·rw [if_neg e3,if_neg e3];show (if _ then _ else _)=_;rw [if_pos ⟨rfl,hk⟩,Zog,if_neg e3]
     ·rw [if_neg e2];show (if _ then _ else _)=_;rw [if_neg (by omega)];unfold ZOb;by_cases e3:i'=r
      ·rw [if_pos e3,if_pos e3]
      ·rw [if_neg e3,if_neg e3];by_cases e4:i'<i
       ·rw [if_pos e4,if_pos (by omega)]
       ·rw [if_neg e4,if_neg (by omega)]
    ·unfold Zsc;by_cases e2:i'=i
     ·rw [if_pos e2,if_neg (by omega),if_pos (by omega),e2,ZKo T c e,Z5j]
     ·rw [if_neg e2];by_cases e3:i'=r
      ·rw [if_pos e3,if_pos e3]
      ·rw [if_neg e3,if_neg e3];by_cases e4:i'<i
       ·rw [if_pos e4,if_pos (by omega)]
       ·rw [if_neg e4,if_neg (by omega)]
 ·simp only;rw [Z1a,decide_eq_false (by omega),Zf]
 have zz:sz K (T.z c):=hz.z c hc;refine Zu (Zr _ hc) ?_;refine Zu (Zr _ hr) ?_;rw [rB];refine Zu (Zjd zz zbr (by omega) (by omega)) ?_;refine Zu (ZJh hz.v (Zwd zz zbr) (by omega) (by omega)) ?_;refine Zu (Zr _ hc) ?_;refine Zu (y:=vx n (fun k=>T.z k-T.z c*(T.piv r c).a r k)) (Zra (fun j=>((j:Int),vx n (fun k=>if k<j then T.z k-T.z c*(T.piv r c).a r k else T.z k))) n ?_ (by omega) (fun j hj=>?_) ?_) ?_
 ·exact Prod.ext rfl (ZB fun k hk=>if_neg (by omega))
 ·simp only;rw [Zh,decide_eq_true (by omega),Ze,Zr _ hj,Za,ZWa _ hr,Za,Zr _ hj,Za,rA,if_neg (by omega),Zjd zz (zr j hj) (by omega) (by omega),Za,ZGg (hz.z j hj) (Zwd zz (zr j hj)) (by omega) (by omega),Za,Za,Zo (by omega) (by omega),Za];simp only [Int.toNat_natCast];rw [ZPa];refine congrArg (fun x=>some (Sum.inl x)) (Prod.ext (by simp) (ZB fun k hk=>?_));by_cases e2:k=j
  ·rw [if_pos e2,if_pos (by omega),e2]
  ·rw [if_neg e2];by_cases e3:k<j
   ·rw [if_pos e3,if_pos (by omega)]
   ·rw [if_neg e3,if_neg (by omega)]
 ·simp only;rw [Zh,decide_eq_false (by omega),Zf];exact congrArg (fun x=>some (Sum.inr x)) (ZB fun k hk=>if_pos hk)
 refine Zu (ZWa _ hr) ?_;refine Zu (Zr _ hc) ?_;rw [rA];refine Zu (Zjd zz (zr c hc) (by omega) (by omega)) ?_;refine Zu (y:=-(T.z c*(T.piv r c).a r c)) rfl ?_;refine Zu (Zr _ hc) ?_;refine Zu (Zr _ hc) ?_;refine Zu (Zr _ hr) ?_;refine Zu (Zr _ hr) ?_;refine Zu (Zr _ hc) ?_;simp only [Int.toNat_natCast];rw [ZPa,ZPa,ZPa];refine congrArg (fun x=>some (x,())) (Prod.ext (Zse fun i hi k hk=>?_) (Prod.ext (ZB fun i hi=>?_) (Prod.ext (ZB fun k hk=>?_) (Prod.ext ?_ (Prod.ext (ZB fun i hi=>?_) (ZB fun k hk=>?_))))))
 ·unfold ZOb;by_cases e:i=r
  ·rw [if_pos e,e]
  ·rw [if_neg e,if_pos hi]
 ·unfold Zsc;by_cases e:i=r
  ·rw [if_pos e,e]
  ·rw [if_neg e,if_pos hi]
 ·rw [piv_z];by_cases e:k=c
  ·rw [if_pos e,if_pos e,Zog,if_pos rfl]
  ·rw [if_neg e,if_neg e,Zog,if_neg e]
 ·show T.v+T.z c*(T.piv r c).b r=_;rw [Z5j];rfl
 ·rw [ZXc];split <;> rfl
 ·rw [Zrd];split <;> rfl
noncomputable def ZQg (t:(List (List Rat))×(List Rat)×(List Rat)×Rat×(List Int)×(List Int)):Option (((List (List Rat))×(List Rat)×(List Rat)×Rat×(List Int)×(List Int))×Int) :=
 bnd (Zg (σ:=Int×Int) (ρ:=Int) (fun a =>
 ifb (decide (a.2<(t.2.2.1.length:Int)))
 (bnd (idx t.2.2.1 a.2) fun b =>
 bnd (α:=Bool)
 (bnd (Zua b) fun c =>
 ifb (decide ((0:Int)<c))
 (ifb (decide (a.1<(0:Int)))
 (some true)
 (bnd (idx t.2.2.2.2.2 a.2) fun d =>
 bnd (idx t.2.2.2.2.2 a.1) fun e =>
 some (decide (d<e))))
 (some false)) fun f =>
 bnd (α:=Int)
 (ifb f
 (some a.2)
 (some a.1)) fun g =>
 bnd (chk .i64 (a.2+(1:Int))) fun h =>
 some (.inl (g,h)))
 (some (.inr a.1)))
  Zi ((-1:Int),(0:Int))) fun i =>
 some ((t.1,t.2.1,t.2.2.1,t.2.2.2.1,t.2.2.2.2.1,t.2.2.2.2.2),i)
noncomputable def ZZg (t:(List (List Rat))×(List Rat)×(List Rat)×Rat×(List Int)×(List Int)) (c:Int) (last:Int):Option (((List (List Rat))×(List Rat)×(List Rat)×Rat×(List Int)×(List Int))×Int) :=
 bnd (Zg (σ:=Int×Int×Rat) (ρ:=Int) (fun a =>
 ifb (decide (a.2.1<(t.1.length:Int)))
 (bnd (α:=Int×Rat)
 (bnd (idx t.1 a.2.1) fun g =>
 bnd (idx g c) fun h =>
 bnd (Zua h) fun i =>
 ifb (decide (i≤(0:Int)))
 (some (a.1,a.2.2))
 (bnd (idx t.2.1 a.2.1) fun j =>
 bnd (idx t.1 a.2.1) fun k =>
 bnd (idx k c) fun l =>
 bnd (Zwe j l) fun b =>
 bnd (α:=Int)
 (ifb (decide ((0:Int)≤a.1))
 (bnd (ZRc b.1 a.2.2) fun m =>
 some m)
 (some (0:Int))) fun d =>
 bnd (α:=Bool)
 (ifb (decide (a.1<(0:Int)))
 (some true)
 (ifb (decide (d<(0:Int)))
 (some true)
 (ifb (d==(0:Int))
 (bnd (idx t.2.2.2.2.1 a.1) fun n =>
 ifb (n != last)
 (bnd (idx t.2.2.2.2.1 a.2.1) fun o =>
 ifb (o==last)
 (some true)
 (bnd (idx t.2.2.2.2.1 a.2.1) fun p =>
 bnd (idx t.2.2.2.2.1 a.1) fun q =>
 some (decide (p<q))))
 (some false))
 (some false)))) fun r =>
 bnd (α:=Int×Rat)
 (ifb r
 (some (a.2.1,b.1))
 (some (a.1,a.2.2))) fun e =>
 some (e.1,e.2))) fun f =>
 bnd (chk .i64 (a.2.1+(1:Int))) fun s =>
 some (.inl (f.1,s,f.2)))
 (some (.inr a.1)))
  Zi ((-1:Int),(0:Int),(0:Rat))) fun u =>
 some ((t.1,t.2.1,t.2.2.1,t.2.2.2.1,t.2.2.2.2.1,t.2.2.2.2.2),u)
noncomputable def ZQh (t:(List (List Rat))×(List Rat)×(List Rat)×Rat×(List Int)×(List Int)) (last:Int):Option (((List (List Rat))×(List Rat)×(List Rat)×Rat×(List Int)×(List Int))×Int) :=
 bnd (Zg (σ:=(List (List Rat))×(List Rat)×(List Rat)×Rat×(List Int)×(List Int)) (ρ:=Int×((List (List Rat))×(List Rat)×(List Rat)×Rat×(List Int)×(List Int))) (fun d =>
 bnd (ZQg (d.1,d.2.1,d.2.2.1,d.2.2.2.1,d.2.2.2.2.1,d.2.2.2.2.2)) fun a =>
 ifb (decide (a.2<(0:Int)))
 (some (.inr ((-1:Int),a.1.1,a.1.2.1,a.1.2.2.1,a.1.2.2.2.1,a.1.2.2.2.2.1,a.1.2.2.2.2.2)))
 (bnd (ZZg (a.1.1,a.1.2.1,a.1.2.2.1,a.1.2.2.2.1,a.1.2.2.2.2.1,a.1.2.2.2.2.2) a.2 last) fun b =>
 ifb (decide (b.2<(0:Int)))
 (some (.inr (a.2,b.1.1,b.1.2.1,b.1.2.2.1,b.1.2.2.2.1,b.1.2.2.2.2.1,b.1.2.2.2.2.2)))
 (bnd (Z5e (b.1.1,b.1.2.1,b.1.2.2.1,b.1.2.2.2.1,b.1.2.2.2.2.1,b.1.2.2.2.2.2) b.2 a.2) fun e =>
 some (.inl (e.1.1,e.1.2.1,e.1.2.2.1,e.1.2.2.2.1,e.1.2.2.2.2.1,e.1.2.2.2.2.2)))))
  Zi (t.1,t.2.1,t.2.2.1,t.2.2.2.1,t.2.2.2.2.1,t.2.2.2.2.2)) fun c =>
 some ((c.2.1,c.2.2.1,c.2.2.2.1,c.2.2.2.2.1,c.2.2.2.2.2.1,c.2.2.2.2.2.2),c.1)
theorem Zvd (x:Rat):0<x.num.sign↔0<x:=by rw [Int.sign_pos_iff,num_pos]
theorem Z2e (x:Rat):x.num.sign<0↔x<0:=by rw [Int.sign_neg_iff,num_neg]
theorem ZNs (x:Rat):x.num.sign=0↔x=0:=by rw [Int.sign_eq_zero_iff_zero,Rat.num_eq_zero]
theorem qcmpB {k m:Nat} {x y:Rat} (h:sz k x) (h':sz m y) (hk:k≤1099511627776) (hm:m≤1099511627776):ZRc x y=some (x-y).num.sign:=by unfold ZRc;rw [if_pos ⟨h.ok hk,h'.ok hm⟩]
open Tb
set_option maxRecDepth 100000 in
theorem Zjx {T:Tb} {m n:Nat} (hn:n≤1000):∃ z,ZQg (tbl m n T)=some z∧∃ e,z=(tbl m n T,e)∧(e = -1∧(∀ k,k<n→¬ 0<T.z k) ∨ ∃ c:Nat,e=(c:Int)∧T.ent n c):=by
 unfold ZQg tbl;refine ZRi (fun k s=>∃ e,s=(e,(k:Int))∧(e = -1∧(∀ j,j<k→¬ 0<T.z j) ∨ ∃ c:Nat,e=(c:Int)∧c<k∧0<T.z c∧∀ j,j<k→0<T.z j→T.fr c≤T.fr j)) (fun e=>e = -1∧(∀ k,k<n→¬ 0<T.z k) ∨ ∃ c:Nat,e=(c:Int)∧T.ent n c) n ⟨-1,rfl,.inl ⟨rfl,fun j hj=>by omega⟩⟩ (by omega) (fun k s hk hi=>?_) (fun e he=>⟨_,rfl,e,rfl,he⟩);obtain ⟨e,rfl,hI⟩:=hi;by_cases hlt:k<n
 ·left;simp only;rw [Zh,decide_eq_true (by omega),Ze,Zr _ hlt,Za];unfold Zua;rw [Za];obtain ⟨b,hb,hbt⟩:∃ b:Bool,(ifb (decide ((0:Int)<(T.z k).num.sign)) (ifb (decide (e<(0:Int))) (some true) (bnd (idx (vx n (fun k=>(T.fr k:Int))) (k:Int)) fun y4=>bnd (idx (vx n (fun k=>(T.fr k:Int))) e) fun y5=>some (decide (y4<y5)))) (some false))=some b∧(b=true↔0<T.z k∧(e<0 ∨ ∃ c:Nat,e=(c:Int)∧T.fr k<T.fr c)):=by
   by_cases hp:0<T.z k
   ·rw [decide_eq_true ((Zvd _).2 hp),Ze];rcases hI with ⟨rfl,_⟩ | ⟨c,rfl,hc,_⟩
    ·exact ⟨true,by rw [decide_eq_true (by omega),Ze],by simp [hp]⟩
    ·refine ⟨decide ((T.fr k:Int)<(T.fr c:Int)),by rw [decide_eq_false (by omega),Zf,Zr _ hlt,Za,Zr _ (by omega),Za],?_⟩;rw [decide_eq_true_iff];constructor
     ·intro h;exact ⟨hp,.inr ⟨c,rfl,by omega⟩⟩
     ·rintro ⟨_,h | ⟨c',h1,h2⟩⟩
      ·omega
      ·have:c'=c:=by omega
       subst this;omega
   ·exact ⟨false,by rw [decide_eq_false (fun h=>hp ((Zvd _).1 h)),Zf],by simp [hp]⟩
  rw [hb,Za]
  cases b with
  | true =>
   obtain ⟨hp,hc⟩:=hbt.1 rfl;refine ⟨((k:Int),((k+1:Nat):Int)),hlt,by rw [Ze,Za,Zo (by omega) (by omega),Za];rfl,_,rfl,.inr ⟨k,rfl,by omega,hp,fun j hj hpj=>?_⟩⟩;by_cases e2:j=k
   ·rw [e2];exact Nat.le_refl _
   ·rcases hI with ⟨rfl,hno⟩ | ⟨c,rfl,hcl,hpc,hle⟩
    ·exact absurd hpj (hno j (Nat.lt_of_le_of_ne (Nat.lt_succ_iff.1 hj) e2))
    ·rcases hc with h | ⟨c',h1,h2⟩
     ·omega
     ·have:c'=c:=by omega
      subst this;exact Nat.le_of_lt (Nat.lt_of_lt_of_le h2 (hle j (Nat.lt_of_le_of_ne (Nat.lt_succ_iff.1 hj) e2) hpj))
  | false =>
   have hnt:¬ (0<T.z k∧(e<0 ∨ ∃ c:Nat,e=(c:Int)∧T.fr k<T.fr c)):=fun h=>by simpa using hbt.2 h
   refine ⟨(e,((k+1:Nat):Int)),hlt,by rw [Zf,Za,Zo (by omega) (by omega),Za];rfl,_,rfl,?_⟩;rcases hI with ⟨rfl,hno⟩ | ⟨c,rfl,hcl,hpc,hle⟩
   ·refine .inl ⟨rfl,fun j hj=>?_⟩;by_cases e2:j=k
    ·rw [e2];exact fun h=>hnt ⟨h,.inl (by omega)⟩
    ·exact hno j (by omega)
   ·refine .inr ⟨c,rfl,by omega,hpc,fun j hj hpj=>?_⟩;by_cases e2:j=k
    ·rw [e2] at hpj ⊢;exact Nat.le_of_not_lt fun h=>hnt ⟨hpj,.inr ⟨c,rfl,h⟩⟩
    ·exact hle j (by omega) hpj
 ·right;have:k=n:=by omega
  subst this;refine ⟨e,by simp only;rw [Zh,decide_eq_false (by omega),Zf],?_⟩;rcases hI with ⟨rfl,hno⟩ | ⟨c,rfl,hcl,hpc,hle⟩
  ·exact .inl ⟨rfl,hno⟩
  ·exact .inr ⟨c,rfl,hcl,hpc,hle⟩
set_option maxRecDepth 100000 in
theorem Z3w {T:Tb} {m n c lst K:Nat} {last:Int} (hc:c<n) (hz:T.all (sz K) m n) (hm:m≤1000) (hn:n≤1000) (hK:K≤137438953472) (hl:∀ i,i<m→((T.bs i:Int)=last↔T.bs i=lst)) :
  ∃ z,ZZg (tbl m n T) (c:Int) last=some z∧∃ e,z=(tbl m n T,e)∧(e = -1∧(∀ i,i<m→¬ 0<T.a i c) ∨ ∃ r:Nat,e=(r:Int)∧T.lea m c lst r):=by
 let q:Nat→Rat:=fun i=>T.b i / T.a i c
 have zq:∀ i,i<m→sz (2*K+1) (q i):=fun i hi=>(Zmq (hz.b i hi) (hz.a i c hi hc)).mono (by omega);unfold ZZg tbl;refine ZRi (fun i s=>∃ e,∃ w,s=(e,(i:Int),w)∧(e = -1∧(∀ j,j<i→¬ 0<T.a j c) ∨ ∃ r:Nat,e=(r:Int)∧w=q r∧r<i∧0<T.a r c∧∀ j,j<i→0<T.a j c→q r≤q j∧(q j=q r→T.bs r≠lst→T.bs r≤T.bs j))) (fun e=>e = -1∧(∀ i,i<m→¬ 0<T.a i c) ∨ ∃ r:Nat,e=(r:Int)∧T.lea m c lst r) m ⟨-1,_,rfl,.inl ⟨rfl,fun j hj=>by omega⟩⟩ (by omega) (fun i s hi hI=>?_) (fun e he=>⟨_,rfl,e,rfl,he⟩);obtain ⟨e,w,rfl,hI⟩:=hI;by_cases hlt:i<m
 ·left;simp only;rw [Z1a,decide_eq_true (by omega),Ze]
  suffices hs:∃ e' w',(bnd (α:=Int×Rat) _ (fun x17=>bnd (chk .i64 ((i:Int)+(1:Int))) fun y18=>some (.inl (x17.1,y18,x17.2))):Option ((Int×Int×Rat) ⊕ Int))=some (.inl (e',((i+1:Nat):Int),w'))∧(e' = -1∧(∀ j,j<i+1→¬ 0<T.a j c) ∨ ∃ r:Nat,e'=(r:Int)∧w'=q r∧r<i+1∧0<T.a r c∧∀ j,j<i+1→0<T.a j c→q r≤q j∧(q j=q r→T.bs r≠lst→T.bs r≤T.bs j)) by
   obtain ⟨e',w',h1,h2⟩:=hs;exact ⟨_,hlt,h1,e',w',rfl,h2⟩
  have fin:∀ {X:Option (Int×Rat)} {e':Int} {w':Rat},X=some (e',w')→(bnd X (fun x17=>bnd (chk .i64 ((i:Int)+(1:Int))) fun y18=>some (.inl (x17.1,y18,x17.2))):Option ((Int×Int×Rat) ⊕ Int))=some (.inl (e',((i+1:Nat):Int),w')):=fun h=>by
   rw [h,Za,Zo (by omega) (by omega),Za];rfl
  rw [ZWa _ hlt,Za,Zr _ hc,Za];unfold Zua;rw [Za];by_cases hp:0<T.a i c
  ·rw [decide_eq_false (show ¬ (T.a i c).num.sign≤0 from fun h=>by have:=(Zvd _).2 hp;omega),Zf,Zr _ hlt,Za,Za,Zr _ hc,Za,qdivB (hz.b i hlt) (hz.a i c hlt hc) (by omega) (by omega) (fun h=>by rw [h] at hp;exact Rat.lt_irrefl hp),Za];have take:∀ (h:∀ j,j<i→0<T.a j c→q i≤q j∧(q j=q i→T.bs i≠lst→T.bs i≤T.bs j)),(((i:Nat):Int) = -1∧(∀ j,j<i+1→¬ 0<T.a j c) ∨ ∃ r:Nat,((i:Nat):Int)=(r:Int)∧q i=q r∧r<i+1∧0<T.a r c∧∀ j,j<i+1→0<T.a j c→q r≤q j∧(q j=q r→T.bs r≠lst→T.bs r≤T.bs j)):=fun h=>.inr ⟨i,rfl,rfl,by omega,hp,fun j hj hpj=>by
    by_cases e2:j=i
    ·rw [e2];exact ⟨Rat.le_refl,fun _ _=>Nat.le_refl _⟩
    ·exact h j (by omega) hpj⟩
   rcases hI with ⟨rfl,hno⟩ | ⟨r,rfl,rfl,hrl,hpr,hle⟩
   ·refine ⟨(i:Int),q i,fin ?_,take fun j hj hpj=>absurd hpj (hno j hj)⟩;rw [show (decide ((0:Int)≤-1))=false from rfl,Zf,Za,show (decide ((-1:Int)<0))=true from rfl,Ze,Za,Ze,Za]
   ·rw [decide_eq_true (show (0:Int)≤(r:Int) by omega),Ze,qcmpB (zq i hlt) (zq r (by omega)) (by omega) (by omega),Za,Za,decide_eq_false (show ¬ (r:Int)<0 by omega),Zf];have keep:(∀ (h:q r≤q i∧(q i=q r→T.bs r≠lst→T.bs r≤T.bs i)),(((r:Nat):Int) = -1∧(∀ j,j<i+1→¬ 0<T.a j c) ∨ ∃ r':Nat,((r:Nat):Int)=(r':Int)∧q r=q r'∧r'<i+1∧0<T.a r' c∧∀ j,j<i+1→0<T.a j c→q r'≤q j∧(q j=q r'→T.bs r'≠lst→T.bs r'≤T.bs j))):=fun h=>.inr ⟨r,rfl,rfl,by omega,hpr,fun j hj hpj=>by
     by_cases e2:j=i
     ·rw [e2];exact h
     ·exact hle j (by omega) hpj⟩
    by_cases hd:q i<q r
    ·refine ⟨(i:Int),q i,fin ?_,take fun j hj hpj=>?_⟩
     ·rw [decide_eq_true ((Z2e _).2 (by show q i-q r<0;grind)),Ze,Za,Ze,Za]
     ·have:=(hle j hj hpj).1;exact ⟨by grind,fun e2=>absurd e2 (by grind)⟩
    ·rw [decide_eq_false (fun h=>hd (by have:=(Z2e _).1 h;show q i<q r;have h3:q i-q r<0:=this;grind)),Zf];by_cases he:q i=q r
     ·rw [show ((q i-q r).num.sign==0)=true by rw [beq_iff_eq,ZNs,he];grind,Ze,Zr _ (show r<m by omega),Za];by_cases hrl2:T.bs r=lst
      ·refine ⟨(r:Int),q r,fin ?_,keep ⟨by rw [he];exact Rat.le_refl,fun _ h=>absurd hrl2 h⟩⟩;rw [show ((T.bs r:Int) != last)=false by rw [bne_eq_false_iff_eq];exact (hl r (by omega)).2 hrl2,Zf,Za,Zf,Za]
      ·rw [show ((T.bs r:Int) != last)=true by rw [bne_iff_ne];exact fun h=>hrl2 ((hl r (by omega)).1 h),Ze,Zr _ hlt,Za];by_cases hil:T.bs i=lst
       ·refine ⟨(i:Int),q i,fin ?_,take fun j hj hpj=>⟨by rw [he];exact (hle j hj hpj).1,fun _ h=>absurd hil h⟩⟩;rw [show ((T.bs i:Int)==last)=true by rw [beq_iff_eq];exact (hl i hlt).2 hil,Ze,Za,Ze,Za]
       ·rw [show ((T.bs i:Int)==last)=false by rw [beq_eq_false_iff_ne];exact fun h=>hil ((hl i hlt).1 h),Zf,Za];by_cases hb:T.bs i<T.bs r
        ·refine ⟨(i:Int),q i,fin ?_,take fun j hj hpj=>⟨by rw [he];exact (hle j hj hpj).1,fun e2 h=>?_⟩⟩
         ·rw [Za,decide_eq_true (by omega),Za,Ze,Za]
         ·exact Nat.le_of_lt (Nat.lt_of_lt_of_le hb ((hle j hj hpj).2 (by rw [e2,he]) hrl2))
        ·refine ⟨(r:Int),q r,fin ?_,keep ⟨by rw [he];exact Rat.le_refl,fun _ _=>by omega⟩⟩;rw [Za,decide_eq_false (by omega),Za,Zf,Za]
     ·refine ⟨(r:Int),q r,fin ?_,keep ⟨by grind,fun h=>absurd h he⟩⟩;rw [show ((q i-q r).num.sign==0)=false by rw [beq_eq_false_iff_ne];exact fun h=>he (by have:=(ZNs _).1 h;grind),Zf,Za,Zf,Za]
  ·refine ⟨e,w,fin ?_,?_⟩
   ·rw [decide_eq_true (show (T.a i c).num.sign≤0 from Int.not_lt.1 fun h=>hp ((Zvd _).1 h)),Ze]
   ·rcases hI with ⟨rfl,hno⟩ | ⟨r,rfl,rfl,hrl,hpr,hle⟩
    ·refine .inl ⟨rfl,fun j hj=>?_⟩;by_cases e2:j=i
     ·rw [e2];exact hp
     ·exact hno j (by omega)
    ·refine .inr ⟨r,rfl,rfl,by omega,hpr,fun j hj hpj=>?_⟩;by_cases e2:j=i
     ·rw [e2] at hpj;exact absurd hpj hp
     ·exact hle j (by omega) hpj
 ·right;have:i=m:=by omega
  subst this;refine ⟨e,by simp only;rw [Z1a,decide_eq_false (by omega),Zf],?_⟩;rcases hI with ⟨rfl,hno⟩ | ⟨r,rfl,rfl,hrl,hpr,hle⟩
  ·exact .inl ⟨rfl,hno⟩
  ·exact .inr ⟨r,rfl,hrl,hpr,fun j hj hpj=>(hle j hj hpj).1,fun j hj hpj=>(hle j hj hpj).2⟩
end Go.Eng
namespace Go.Eng
open Tb
namespace Tb
theorem Steps.more {st:Nat→Tb} {rr cc:Nat→Nat} {m n N lst k:Nat} (h:Steps st rr cc m n N lst k) {r c:Nat} (h1:(st k).ent n c) (h2:(st k).lea m c lst r) (h3:∀ j,j<n→(st k).fr j≠lst) :
  Steps (fun j=>if j=k+1 then (st k).piv r c else st j) (fun j=>if j=k then r else rr j) (fun j=>if j=k then c else cc j) m n N lst (k+1):=by
 have e0:∀ j,j<k+1→(if j=k+1 then (st k).piv r c else st j)=st j:=fun j hj=>if_neg (by omega);refine ⟨fun j hj=>?_,fun j hj=>?_,fun j hj=>?_,?_,?_,fun j hj=>?_⟩
 ·rw [e0 j hj];show (if j+1=k+1 then (st k).piv r c else st (j+1))=(st j).piv (if j=k then r else rr j) (if j=k then c else cc j);by_cases e:j=k
  ·rw [if_pos (by omega),if_pos e,if_pos e,e]
  ·rw [if_neg (by omega),if_neg e,if_neg e];exact h.step j (by omega)
 ·rw [e0 j hj];show (st j).ent n (if j=k then c else cc j);by_cases e:j=k
  ·rw [if_pos e,e];exact h1
  ·rw [if_neg e];exact h.ent j (by omega)
 ·rw [e0 j hj];show (st j).lea m (if j=k then c else cc j) lst (if j=k then r else rr j);by_cases e:j=k
  ·rw [if_pos e,if_pos e,e];exact h2
  ·rw [if_neg e,if_neg e];exact h.lea j (by omega)
 ·rw [e0 0 (by omega)];exact h.arr0
 ·rw [e0 0 (by omega)];exact h.fea0
 ·rw [e0 j hj];by_cases e:j=k
  ·rw [e];exact h3
  ·exact h.nl j (by omega)
end Tb
theorem ZQw {N:Nat} (h:N≤60):2^N<2^64:=Nat.pow_lt_pow_right (by omega) (by omega)
def RunQ (m n N:Nat) (T0 T':Tb) (e:Int):Prop:=T'.arr m n N∧T'.eqv T0 m n∧T'.fea m∧(e = -1∧(∀ k,k<n→¬ 0<T'.z k) ∨ ∃ c:Nat,e=(c:Int)∧T'.ent n c∧∀ i,i<m→¬ 0<T'.a i c)
set_option maxRecDepth 100000 in
theorem ZJo {T T0:Tb} {m n N lst K R:Nat} {last:Int} (hr:m≤R∨n≤R) (h0:T0.arr m n N) (c0:T0.cd K m n) (he:T.eqv T0 m n) (ha:T.arr m n N) (hf:T.fea m) (hN:N≤60) (hm:m≤1000) (hn:n≤1000) (hK:kk K R≤137438953472) (hK1:1≤K) (hl:∀ u,u<N→((u:Int)=last↔u=lst))
    (nl:∀ T':Tb,T'.arr m n N→T'.eqv T0 m n→(∃ c,T'.ent n c)→∀ j,j<n→T'.fr j≠lst):∃ z,ZQh (tbl m n T) last=some z∧∃ T' e,z=(tbl m n T',e)∧RunQ m n N T0 T' e:=by
  unfold ZQh;refine Zeq (Q:=fun r=>∃ T' e,r=(e,tbl m n T')∧RunQ m n N T0 T' e) ?_ (fun y hy=>?_)
  · have key:∀ d k (st:Nat→Tb) (rr cc:Nat→Nat) f,Tb.Steps st rr cc m n N lst k→st 0=T→2^N≤d+k→d<f→∃ r,Zg (σ:=TbL) (ρ:=Int×TbL) (fun s1 =>
       bnd (ZQg (s1.1,s1.2.1,s1.2.2.1,s1.2.2.2.1,s1.2.2.2.2.1,s1.2.2.2.2.2)) fun y2 =>
       ifb (decide (y2.2<(0:Int)))
       (some (.inr ((-1:Int),y2.1.1,y2.1.2.1,y2.1.2.2.1,y2.1.2.2.2.1,y2.1.2.2.2.2.1,y2.1.2.2.2.2.2)))
       (bnd (ZZg (y2.1.1,y2.1.2.1,y2.1.2.2.1,y2.1.2.2.2.1,y2.1.2.2.2.2.1,y2.1.2.2.2.2.2) y2.2 last) fun y3 =>
        ifb (decide (y3.2<(0:Int)))
        (some (.inr (y2.2,y3.1.1,y3.1.2.1,y3.1.2.2.1,y3.1.2.2.2.1,y3.1.2.2.2.2.1,y3.1.2.2.2.2.2)))
        (bnd (Z5e (y3.1.1,y3.1.2.1,y3.1.2.2.1,y3.1.2.2.2.1,y3.1.2.2.2.2.1,y3.1.2.2.2.2.2) y3.2 y2.2) fun y4 =>
         some (.inl (y4.1.1,y4.1.2.1,y4.1.2.2.1,y4.1.2.2.2.1,y4.1.2.2.2.2.1,y4.1.2.2.2.2.2))))) f (tbl m n (st k))=some r∧∃ T' e,r=(e,tbl m n T')∧RunQ m n N T0 T' e:=by
      intro d
      induction d with
      | zero =>
        intro k st rr cc f hS _ h2 _;have:=hS.bound;omega
      | succ d ih =>
        intro k st rr cc f hS h1 h2 h3;obtain ⟨f,rfl⟩:∃ g,f=g+1:=⟨f-1,by omega⟩;have hA:=hS.arr k (Nat.le_refl k);have hE:(st k).eqv T0 m n:=by
          have:=hS.eqv k (Nat.le_refl k);rw [h1] at this;exact this.trans he
        have hF:=hS.fea k (Nat.le_refl k);have hz:=(ZRj hr h0 c0 hA hE).sz;unfold Zg;obtain ⟨z1,g1,e,rfl,g2⟩:=Zjx (T:=st k) (m:=m) hn;have g1:ZQg ((tbl m n (st k)).1,(tbl m n (st k)).2.1,(tbl m n (st k)).2.2.1,(tbl m n (st k)).2.2.2.1,(tbl m n (st k)).2.2.2.2.1,(tbl m n (st k)).2.2.2.2.2)=some (tbl m n (st k),e):=g1;rw [g1,Za];rcases g2 with ⟨rfl,g2⟩ | ⟨c,rfl,g2⟩
        · rw [show (decide ((-1:Int)<0))=true from rfl,Ze,Za];exact ⟨_,rfl,st k,-1,rfl,hA,hE,hF,.inl ⟨rfl,g2⟩⟩
        · rw [decide_eq_false (show ¬ (c:Int)<0 by omega),Zf];obtain ⟨z2,g3,e2,rfl,g4⟩:=Z3w (T:=st k) (m:=m) (n:=n) (lst:=lst) (last:=last) g2.lt hz hm hn hK fun i hi=>hl _ (hA.bl i hi);have g3:ZZg ((tbl m n (st k)).1,(tbl m n (st k)).2.1,(tbl m n (st k)).2.2.1,(tbl m n (st k)).2.2.2.1,(tbl m n (st k)).2.2.2.2.1,(tbl m n (st k)).2.2.2.2.2) (c:Int) last=some (tbl m n (st k),e2):=g3;simp only;rw [g3,Za];rcases g4 with ⟨rfl,g4⟩ | ⟨r,rfl,g4⟩
          · rw [show (decide ((-1:Int)<0))=true from rfl,Ze,Za];exact ⟨_,rfl,st k,(c:Int),rfl,hA,hE,hF,.inr ⟨c,rfl,g2,g4⟩⟩
          · rw [decide_eq_false (show ¬ (r:Int)<0 by omega),Zf];have hne:(st k).a r c≠0:=fun e=>by have:=g4.pos;rw [e] at this;exact Rat.lt_irrefl this
            have g5:Z5e ((tbl m n (st k)).1,(tbl m n (st k)).2.1,(tbl m n (st k)).2.2.1,(tbl m n (st k)).2.2.2.1,(tbl m n (st k)).2.2.2.2.1,(tbl m n (st k)).2.2.2.2.2) (r:Int) (c:Int)=some (tbl m n ((st k).piv r c),()):=ZFk g4.lt g2.lt hne hz hm hn hK (Zlm hK1);simp only;rw [g5,Za,Za];have hS':=hS.more g2 g4 (nl _ hA hE ⟨c,g2⟩);obtain ⟨r',q1,q2⟩:=ih (k+1) _ _ _ f hS' (by show (if 0=k+1 then _ else st 0)=T;rw [if_neg (by omega)];exact h1) (by omega) (by omega);rw [if_pos rfl] at q1;exact ⟨r',q1,q2⟩
    exact key (2^N) 0 (fun _=>T) (fun _=>0) (fun _=>0) Zi ⟨fun k hk=>by omega,fun k hk=>by omega,fun k hk=>by omega,ha,hf,fun k hk=>by omega⟩ rfl (by omega) (ZQ (Nat.lt_trans (ZQw hN) (by decide)))
  · obtain ⟨T',e,rfl,hq⟩:=hy;exact ⟨_,rfl,T',e,rfl,hq⟩
theorem Zwr (n m:Nat) (f:Nat→Rat):sm (n+m) f=sm n f+sm m (fun i=>f (n+i)):=by
 induction m with
 | zero=>show sm n f=sm n f+0;exact (Rat.add_zero _).symm
 | succ m ih =>
  show sm (n+m) f+f (n+m)=sm n f+(sm m (fun i=>f (n+i))+f (n+m));rw [ih];grind
def zz (n:Nat) (z:Nat→Rat) (fr:Nat→Nat) (u:Nat):Rat:=sm n fun k=>if fr k=u then z k else 0
theorem zz_sum {n N:Nat} {z:Nat→Rat} {fr:Nat→Nat} (h:∀ k,k<n→fr k<N) (g:Nat→Rat):sm n (fun k=>z k*g (fr k))=sm N (fun u=>zz n z fr u*g u):=by
 have e1:sm N (fun u=>zz n z fr u*g u)=sm N (fun u=>sm n fun k=>(if fr k=u then z k else 0)*g u):=ZG fun u _=>by
  unfold zz;rw [Rat.mul_comm,← ZEb];exact ZG fun k _=>Rat.mul_comm _ _
 rw [e1,ZDm];refine ZG fun k hk=>?_;rw [ZCa (h k hk) fun u _ hne=>by rw [if_neg fun e=>hne e.symm];exact Rat.zero_mul _,if_pos rfl]
theorem Zum {n:Nat} {z:Nat→Rat} {fr:Nat→Nat} (h:∀ k,k<n→¬ 0<z k) (u:Nat):zz n z fr u≤0:=by
 have:0≤sm n fun k=>-(if fr k=u then z k else 0):=Znf fun k hk=>by
  have:=h k hk;split <;> grind
 have e:sm n (fun k=>-(if fr k=u then z k else 0)) = - zz n z fr u:=by
  have:sm n (fun k=>-(if fr k=u then z k else 0))=sm n (fun k=>(-1)*(if fr k=u then z k else 0)):=ZG fun k _=>by grind
  rw [this,ZEb];unfold zz;grind
 grind
open Tb
def st0 (n:Nat) (A:Mx) (B C:Nat→Rat):Tb:={ a:=A,b:=B,z:=C,v:=0,bs:=fun i=>n+i,fr:=fun k=>k }
def st1 (m n:Nat) (A:Mx) (B:Nat→Rat):Tb:={ a:=fun i k=>if k<n then A i k else -1,b:=B,z:=fun k=>if k<n then 0 else -1,v:=0,bs:=fun i=>n+i,fr:=fun k=>if k<n then k else n+m }
variable {m n:Nat} {A:Mx} {B C:Nat→Rat}
theorem ZMm:(st0 n A B C).arr m n (n+m) :=
 ⟨fun i hi=>by show n+i<n+m;omega,fun k hk=>by show k<n+m;omega,fun i j _ _ e=>by have e:n+i=n+j:=e;omega,fun i j _ _ e=>e,fun i k _ hk e=>by have e:n+i=k:=e;omega,fun u hu=>by
  by_cases h:u<n
  ·exact .inr ⟨u,h,rfl⟩
  ·exact .inl ⟨u-n,by omega,by show n+(u-n)=u;omega⟩⟩
theorem ZUi:(st1 m n A B).arr m (n+1) (n+m+1) :=
 ⟨fun i hi=>by show n+i<n+m+1;omega,fun k hk=>by show (if k<n then k else n+m)<n+m+1;split <;> omega,fun i j _ _ e=>by have e:n+i=n+j:=e;omega,fun i j hi hj e=>by
  have e:(if i<n then i else n+m)=(if j<n then j else n+m):=e
  split at e <;> split at e <;> omega,fun i k hi hk e=>by
  have e:n+i=(if k<n then k else n+m):=e
  split at e <;> omega,fun u hu=>by
  by_cases h:u<n
  ·exact .inr ⟨u,by omega,if_pos h⟩
  ·by_cases h2:u=n+m
   ·exact .inr ⟨n,by omega,by show (if n<n then n else n+m)=u;rw [if_neg (by omega),h2]⟩
   ·exact .inl ⟨u-n,by omega,by show n+(u-n)=u;omega⟩⟩
theorem Zji (x:Nat→Rat):(st0 n A B C).sol m n x ↔ ∀ i,i<m→x (n+i)+sm n (fun k=>A i k*x k)=B i:=Iff.rfl
theorem ZIh (x:Nat→Rat):(st0 n A B C).obj n x=sm n (fun k=>C k*x k):=by
 show (0:Rat)+sm n (fun k=>C k*x k)=_;exact Rat.zero_add _
theorem ZUq (i:Nat) (x:Nat→Rat):sm (n+1) (fun k=>(st1 m n A B).a i k*x ((st1 m n A B).fr k))=sm n (fun k=>A i k*x k)-x (n+m):=by
 show sm n (fun k=>(st1 m n A B).a i k*x ((st1 m n A B).fr k))+(st1 m n A B).a i n*x ((st1 m n A B).fr n)=_;rw [ZG (g:=fun k=>A i k*x k) fun k hk=>by show (if k<n then A i k else -1)*x (if k<n then k else n+m)=_;rw [if_pos hk,if_pos hk]];show _+(if n<n then A i n else -1)*x (if n<n then n else n+m)=_;rw [if_neg (by omega),if_neg (by omega)];grind
theorem ZYm (x:Nat→Rat):(st1 m n A B).sol m (n+1) x ↔ ∀ i,i<m→x (n+i)+(sm n (fun k=>A i k*x k)-x (n+m))=B i:=by
 constructor
 ·intro h i hi;have:=h i hi;rw [ZUq] at this;exact this
 ·intro h i hi;rw [ZUq];exact h i hi
theorem Zgn (x:Nat→Rat):(st1 m n A B).obj (n+1) x = - x (n+m):=by
 show (0:Rat)+(sm n (fun k=>(st1 m n A B).z k*x ((st1 m n A B).fr k))+(st1 m n A B).z n*x ((st1 m n A B).fr n))=_;rw [Z8 fun k hk=>by show (if k<n then (0:Rat) else -1)*_=0;rw [if_pos hk];exact Rat.zero_mul _];show (0:Rat)+(0+(if n<n then (0:Rat) else -1)*x (if n<n then n else n+m))=_;rw [if_neg (by omega),if_neg (by omega)];grind
def ext (m n:Nat) (A:Mx) (B:Nat→Rat) (s:Rat) (u:Nat→Rat):Nat→Rat:=fun v=>if v<n then u v else if v<n+m then B (v-n)-sm n (fun k=>A (v-n) k*u k)+s else s
theorem ext_lo {s:Rat} {u:Nat→Rat} {k:Nat} (hk:k<n):ext m n A B s u k=u k:=if_pos hk
theorem Zkk {s:Rat} {u:Nat→Rat} {i:Nat} (hi:i<m):ext m n A B s u (n+i)=B i-sm n (fun k=>A i k*u k)+s:=by
 unfold ext;rw [if_neg (by omega),if_pos (by omega),show n+i-n=i by omega]
theorem Zmh {s:Rat} {u:Nat→Rat}:ext m n A B s u (n+m)=s:=by
 unfold ext;rw [if_neg (by omega),if_neg (by omega)]
theorem Zsh {s:Rat} {u:Nat→Rat} (f:Nat→Rat):sm n (fun k=>f k*ext m n A B s u k)=sm n (fun k=>f k*u k):=ZG fun k hk=>by rw [ext_lo hk]
def ZZ (n:Nat) (T:Tb) (n':Nat) (i:Nat):Rat:=- zz n' T.z T.fr (n+i)
theorem Z4n {T:Tb} {n' N:Nat} (hf:∀ k,k<n'→T.fr k<N) (hN:N=n+m∨N=n+m+1) (s:Rat) (hs:N=n+m→s=0) (u:Nat→Rat) :
  sm n' (fun k=>T.z k*ext m n A B s u (T.fr k))=sm n (fun k=>zz n' T.z T.fr k*u k)-sm m (fun i=>ZZ n T n' i*(B i-sm n (fun k=>A i k*u k)+s))+(if N=n+m then 0 else zz n' T.z T.fr (n+m)*s):=by
 rw [zz_sum hf];have mid:sm (n+m) (fun v=>zz n' T.z T.fr v*ext m n A B s u v)=sm n (fun k=>zz n' T.z T.fr k*u k)-sm m (fun i=>ZZ n T n' i*(B i-sm n (fun k=>A i k*u k)+s)):=by
  rw [Zwr,Zsh];have:sm m (fun i=>zz n' T.z T.fr (n+i)*ext m n A B s u (n+i))=sm m (fun i=>(-1)*(ZZ n T n' i*(B i-sm n (fun k=>A i k*u k)+s))):=ZG fun i hi=>by
   rw [Zkk hi];unfold ZZ;grind
  rw [this,ZEb];grind
 rcases hN with rfl | rfl
 ·rw [mid,if_pos rfl];grind
 ·show sm (n+m) _+zz n' T.z T.fr (n+m)*ext m n A B s u (n+m)=_;rw [mid,if_neg (by omega),Zmh]
theorem Zys {T:Tb} {n':Nat} (h:∀ k,k<n'→¬ 0<T.z k) (i:Nat):0≤ZZ n T n' i:=by
 have:=Zum (fr:=T.fr) h (n+i);unfold ZZ;grind
theorem Zzq (m:Nat) (f g:Nat→Rat) (h:∀ i,i<m→f i = - g i):sm m f = - sm m g:=by
 have:sm m f=sm m (fun i=>(-1)*g i):=ZG fun i hi=>by rw [h i hi];grind
 rw [this,ZEb];grind
structure Dual (m n:Nat) (A:Mx) (B C:Nat→Rat) (y:Nat→Rat):Prop where
 nn:∀ i,i<m→0≤y i
 le:∀ k,k<n→C k≤sm m (fun i=>y i*A i k)
theorem dual_of {T:Tb} (h:T.arr m n (n+m)) (he:T.eqv (st0 n A B C) m n) (hz:∀ k,k<n→¬ 0<T.z k):Dual m n A B C (ZZ n T n)∧T.v=sm m (fun i=>B i*ZZ n T n i):=by
 have id:∀ u:Nat→Rat,sm n (fun k=>C k*u k)=T.v+(sm n (fun k=>zz n T.z T.fr k*u k)-sm m (fun i=>ZZ n T n i*(B i-sm n (fun k=>A i k*u k)+0))+0):=fun u=>by
  have h1:=he.obj (ext m n A B 0 u) ((Zji _).2 fun i hi=>by rw [Zkk hi,Zsh];grind);rw [ZIh,Zsh] at h1;rw [← h1];unfold obj;rw [Z4n h.fl (.inl rfl) 0 (fun _=>rfl) u,if_pos rfl]
 have h0:=id fun _=>0;have z1:sm n (fun k=>C k*(0:Rat))=0:=Z8 fun k _=>Rat.mul_zero _;have z2:sm n (fun k=>zz n T.z T.fr k*(0:Rat))=0:=Z8 fun k _=>Rat.mul_zero _;have z3:sm m (fun i=>ZZ n T n i*(B i-sm n (fun k=>A i k*(0:Rat))+0))=sm m (fun i=>B i*ZZ n T n i):=ZG fun i _=>by
  rw [Z8 (f:=fun k=>A i k*(0:Rat)) fun k _=>Rat.mul_zero _];grind
 rw [z1,z2,z3] at h0;have hv:T.v=sm m (fun i=>B i*ZZ n T n i):=by grind
 refine ⟨⟨fun i _=>Zys hz i,fun k hk=>?_⟩,hv⟩;have h1:=id fun j=>if j=k then 1 else 0;have u1:∀ f:Nat→Rat,sm n (fun j=>f j*(if j=k then (1:Rat) else 0))=f k:=fun f=>by
  rw [ZCa hk fun j _ hne=>by rw [if_neg hne];exact Rat.mul_zero _,if_pos rfl,Rat.mul_one]
 rw [u1,u1] at h1;have u2:sm m (fun i=>ZZ n T n i*(B i-sm n (fun j=>A i j*(if j=k then (1:Rat) else 0))+0))=sm m (fun i=>B i*ZZ n T n i)-sm m (fun i=>ZZ n T n i*A i k):=by
  rw [← Zuf];exact ZG fun i _=>by rw [u1 (A i)];grind
 rw [u2] at h1;have:=Zum (fr:=T.fr) hz k;grind
structure Farkas (m n:Nat) (A:Mx) (B:Nat→Rat) (y:Nat→Rat):Prop where
 nn:∀ i,i<m→0≤y i
 le:∀ k,k<n→0≤sm m (fun i=>y i*A i k)
 neg:sm m (fun i=>B i*y i)<0
theorem Zgu {T:Tb} (h:T.arr m (n+1) (n+m+1)) (he:T.eqv (st1 m n A B) m (n+1)) (hz:∀ k,k<n+1→¬ 0<T.z k) (hv:T.v<0):Farkas m n A B (ZZ n T (n+1)):=by
 have id:∀ u:Nat→Rat,(0:Rat)=T.v+(sm n (fun k=>zz (n+1) T.z T.fr k*u k)-sm m (fun i=>ZZ n T (n+1) i*(B i-sm n (fun k=>A i k*u k)+0))+zz (n+1) T.z T.fr (n+m)*0):=fun u=>by
  have h1:=he.obj (ext m n A B 0 u) ((ZYm _).2 fun i hi=>by rw [Zkk hi,Zsh,Zmh];grind);rw [Zgn,Zmh] at h1;have h2:T.obj (n+1) (ext m n A B 0 u)=T.v+(sm n (fun k=>zz (n+1) T.z T.fr k*u k)-sm m (fun i=>ZZ n T (n+1) i*(B i-sm n (fun k=>A i k*u k)+0))+zz (n+1) T.z T.fr (n+m)*0):=by
   unfold obj;rw [Z4n h.fl (.inr rfl) 0 (fun e=>by omega) u,if_neg (by omega)]
  rw [← h2,h1];grind
 have h0:=id fun _=>0;have z2:sm n (fun k=>zz (n+1) T.z T.fr k*(0:Rat))=0:=Z8 fun k _=>Rat.mul_zero _;have z3:sm m (fun i=>ZZ n T (n+1) i*(B i-sm n (fun k=>A i k*(0:Rat))+0))=sm m (fun i=>B i*ZZ n T (n+1) i):=ZG fun i _=>by
  rw [Z8 (f:=fun k=>A i k*(0:Rat)) fun k _=>Rat.mul_zero _];grind
 rw [z2,z3] at h0;have hvv:T.v=sm m (fun i=>B i*ZZ n T (n+1) i):=by grind
 refine ⟨fun i _=>Zys hz i,fun k hk=>?_,by rw [← hvv];exact hv⟩;have h1:=id fun j=>if j=k then 1 else 0;have u1:∀ f:Nat→Rat,sm n (fun j=>f j*(if j=k then (1:Rat) else 0))=f k:=fun f=>by
  rw [ZCa hk fun j _ hne=>by rw [if_neg hne];exact Rat.mul_zero _,if_pos rfl,Rat.mul_one]
 rw [u1] at h1;have u2:sm m (fun i=>ZZ n T (n+1) i*(B i-sm n (fun j=>A i j*(if j=k then (1:Rat) else 0))+0))=sm m (fun i=>B i*ZZ n T (n+1) i)-sm m (fun i=>ZZ n T (n+1) i*A i k):=by
  rw [← Zuf];exact ZG fun i _=>by rw [u1 (A i)];grind
 rw [u2] at h1;have:=Zum (fr:=T.fr) hz k;grind
def ZT (m:Nat) (T:Tb) (u:Nat):Rat:=sm m fun i=>if T.bs i=u then T.b i else 0
theorem ZFd {T:Tb} {n' N:Nat} (h:T.arr m n' N) {k:Nat} (hk:k<n'):ZT m T (T.fr k)=0:=Z8 fun i hi=>if_neg (h.d i k hi hk)
theorem Zcf {T:Tb} {n' N:Nat} (h:T.arr m n' N) {i:Nat} (hi:i<m):ZT m T (T.bs i)=T.b i:=by
 unfold ZT;rw [ZCa hi fun j hj hne=>if_neg fun e=>hne (h.bi j i hj hi e),if_pos rfl]
theorem ZJi {T:Tb} {n' N:Nat} (h:T.arr m n' N):T.sol m n' (ZT m T):=fun i hi=>by
 rw [Zcf h hi,Z8 fun k hk=>by rw [ZFd h hk];exact Rat.mul_zero _];exact Rat.add_zero _
theorem ZHk {T:Tb} (hf:T.fea m) (u:Nat):0≤ZT m T u:=Znf fun i hi=>by
 show 0≤if T.bs i=u then T.b i else 0
 split
 ·exact hf i hi
 ·exact Rat.le_refl
theorem Zun {T:Tb} {n' N:Nat} (h:T.arr m n' N):T.obj n' (ZT m T)=T.v:=Zui fun k hk=>ZFd h hk
structure Feas (m n:Nat) (A:Mx) (B:Nat→Rat) (x:Nat→Rat):Prop where
 nn:∀ k,k<n→0≤x k
 le:∀ i,i<m→sm n (fun k=>A i k*x k)≤B i
theorem feas_of {T:Tb} (h:T.arr m n (n+m)) (he:T.eqv (st0 n A B C) m n) (hf:T.fea m):Feas m n A B (ZT m T)∧T.v=sm n (fun k=>C k*ZT m T k):=by
 have hs:=(he.sol _).1 (ZJi h);refine ⟨⟨fun k _=>ZHk hf k,fun i hi=>?_⟩,?_⟩
 ·have h1:=(Zji _).1 hs i hi;have h2:=ZHk (m:=m) hf (n+i);grind
 ·have:=he.obj _ hs;rw [Zun h,ZIh] at this;exact this
def dir (m:Nat) (T:Tb) (c u:Nat):Rat:=if T.fr c=u then 1 else-sm m fun i=>if T.bs i=u then T.a i c else 0
theorem ZHp {T:Tb} {n' N c:Nat} (h:T.arr m n' N) (hc:c<n') {i:Nat} (hi:i<m):dir m T c (T.bs i) = - T.a i c:=by
 unfold dir;rw [if_neg fun e=>h.d i c hi hc e.symm,ZCa hi fun j hj hne=>if_neg fun e=>hne (h.bi j i hj hi e),if_pos rfl]
theorem ZTg {T:Tb} {n' N c:Nat} (h:T.arr m n' N) (hc:c<n') {k:Nat} (hk:k<n'):dir m T c (T.fr k)=if k=c then 1 else 0:=by
 unfold dir;by_cases e:k=c
 ·rw [e,if_pos rfl,if_pos rfl]
 ·rw [if_neg fun e2=>e (h.fi k c hk hc e2.symm),if_neg e,Z8 fun i hi=>if_neg (h.d i k hi hk)];rfl
theorem Zlo {T:Tb} {n' N c:Nat} (h:T.arr m n' N) (hc:c<n'):T.sol m n' (fun u=>ZT m T u+dir m T c u):=fun i hi=>by
 have e:sm n' (fun k=>T.a i k*(ZT m T (T.fr k)+dir m T c (T.fr k)))=T.a i c:=by
  rw [ZCa hc fun k hk hne=>by rw [ZFd h hk,ZTg h hc hk,if_neg hne];grind];rw [ZFd h hc,ZTg h hc hc,if_pos rfl];grind
 rw [e];show ZT m T (T.bs i)+dir m T c (T.bs i)+T.a i c=T.b i;rw [Zcf h hi,ZHp h hc hi];grind
theorem Z3o {T:Tb} {n' N c:Nat} (h:T.arr m n' N) (hc:c<n'):T.obj n' (fun u=>ZT m T u+dir m T c u)=T.v+T.z c:=by
 unfold obj;have e:sm n' (fun k=>T.z k*(ZT m T (T.fr k)+dir m T c (T.fr k)))=T.z c:=by
  rw [ZCa hc fun k hk hne=>by rw [ZFd h hk,ZTg h hc hk,if_neg hne];grind];rw [ZFd h hc,ZTg h hc hc,if_pos rfl];grind
 rw [e]
theorem Zpm {T:Tb} {c:Nat} (h:∀ i,i<m→¬ 0<T.a i c) (u:Nat):0≤dir m T c u:=by
 unfold dir;split
 ·decide
 ·have:0≤sm m fun i=>-(if T.bs i=u then T.a i c else 0):=Znf fun i hi=>by
   have:=h i hi;split <;> grind
  rw [Zzq m _ (fun i=>if T.bs i=u then T.a i c else 0) fun i _=>rfl] at this;exact this
structure IsRay (m n:Nat) (A:Mx) (C:Nat→Rat) (d:Nat→Rat):Prop where
 nn:∀ k,k<n→0≤d k
 le:∀ i,i<m→sm n (fun k=>A i k*d k)≤0
 pos:0<sm n (fun k=>C k*d k)
theorem ray_of {T:Tb} {c:Nat} (h:T.arr m n (n+m)) (he:T.eqv (st0 n A B C) m n) (hc:T.ent n c) (hu:∀ i,i<m→¬ 0<T.a i c):IsRay m n A C (dir m T c):=by
 have hs:=(Zji (C:=C) _).1 ((he.sol _).1 (ZJi h));have hd:=(he.sol _).1 (Zlo h hc.lt);have hd2:=(Zji (C:=C) _).1 hd;have add:∀ f:Nat→Rat,sm n (fun k=>f k*(ZT m T k+dir m T c k))=sm n (fun k=>f k*ZT m T k)+sm n (fun k=>f k*dir m T c k):=fun f=>by
  rw [← Zgf];exact ZG fun k _=>by grind
 refine ⟨fun k _=>Zpm hu k,fun i hi=>?_,?_⟩
 ·have h1:=hs i hi;have h2:=hd2 i hi;rw [add (A i)] at h2;have h3:=Zpm hu (n+i);grind
 ·have h1:=he.obj _ hd;rw [Z3o h hc.lt,ZIh,add C] at h1;have h2:=he.obj _ ((he.sol _).1 (ZJi h));rw [Zun h,ZIh] at h2;have:=hc.pos;grind
end Go.Eng
namespace Go.Eng
open Tb
variable {m n:Nat} {A:Mx} {B C:Nat→Rat} {T:Tb}
theorem p1_v (h:T.arr m (n+1) (n+m+1)) (he:T.eqv (st1 m n A B) m (n+1)):T.v = - ZT m T (n+m):=by
 have:=he.obj _ ((he.sol _).1 (ZJi h));rw [Zun h,Zgn] at this;exact this
theorem p1_z (h:T.arr m (n+1) (n+m+1)) (he:T.eqv (st1 m n A B) m (n+1)) {k:Nat} (hk:k<n+1):T.z k = - dir m T k (n+m):=by
 have h1:=he.obj _ ((he.sol _).1 (Zlo h hk));rw [Z3o h hk,Zgn] at h1;have h2:=p1_v h he;grind
theorem p1_end (h:T.arr m (n+1) (n+m+1)) (he:T.eqv (st1 m n A B) m (n+1)) {j:Nat} (hj:j<n+1) (e:T.fr j=n+m):∀ k,k<n+1→¬ 0<T.z k:=fun k hk=>by
 rw [p1_z h he hk,← e,ZTg h hk hj]
 split <;> decide
theorem ZTx (h:T.arr m (n+1) (n+m+1)) (he:T.eqv (st1 m n A B) m (n+1)) (hf:T.fea m) {c:Nat} (hc:T.ent (n+1) c) (hu:∀ i,i<m→¬ 0<T.a i c):False:=by
 have h1:=Zpm hu (n+m);have h2:=p1_z h he hc.lt;have h3:=hc.pos;grind
theorem p1_row (h:T.arr m (n+1) (n+m+1)) (he:T.eqv (st1 m n A B) m (n+1)) {r:Nat} (hr:r<m) (e:T.bs r=n+m):∃ k,k<n+1∧T.a r k≠0:=Classical.byContradiction fun hn=>by
 have hz:∀ k,k<n+1→T.a r k=0:=fun k hk=>Classical.byContradiction fun e=>hn ⟨k,hk,e⟩
 have key:∀ s:Rat,s=T.b r:=fun s=>by
  have h1:=(he.sol (ext m n A B s fun _=>0)).2 ((ZYm _).2 fun i hi=>by rw [Zkk hi,Zsh,Zmh];grind) r hr
  rw [Z8 fun k hk=>by rw [hz k hk];exact Rat.zero_mul _,e,Zmh] at h1
  grind
 have h0:=key 0
 have h1:=key 1
 rw [← h0] at h1
 exact absurd h1 (by decide)
def sk (c k:Nat):Nat:=if k<c then k else k+1
theorem sm_skip {n c:Nat} (hc:c<n+1) (f:Nat→Rat):sm (n+1) f=f c+sm n (fun k=>f (sk c k)):=by
 induction n with
 | zero=>rw [show c=0 by omega];show (0:Rat)+f 0=f 0+0;grind
 | succ n ih =>
  by_cases e:c=n+1
  ·have:sm (n+1) (fun k=>f (sk c k))=sm (n+1) f:=ZG fun k hk=>by unfold sk;rw [if_pos (by omega)]
   rw [this,e];show sm (n+1) f+f (n+1)=_;grind
  ·show sm (n+1) f+f (n+1)=f c+(sm n (fun k=>f (sk c k))+f (sk c n));rw [ih (by omega),show sk c n=n+1 from if_neg (by omega)];grind
def cfv (m:Nat) (T:Tb) (u f:Nat):Rat:=(if T.fr f=u then 1 else 0)-sm m fun i=>if T.bs i=u then T.a i f else 0
theorem Ziy {n N:Nat} (h:T.arr m n N) {x:Nat→Rat} (hx:T.sol m n x) {u:Nat} (hu:u<N):x u=ZT m T u+sm n (fun f=>cfv m T u f*x (T.fr f)):=by
 rcases h.cov u hu with ⟨i,hi,rfl⟩ | ⟨k,hk,rfl⟩
 ·have e:sm n (fun f=>cfv m T (T.bs i) f*x (T.fr f)) = - sm n (fun f=>T.a i f*x (T.fr f)):=Zzq n _ _ fun f hf=>by
   unfold cfv;rw [if_neg fun e=>h.d i f hi hf e.symm,ZCa hi fun j hj hne=>if_neg fun e=>hne (h.bi j i hj hi e),if_pos rfl];grind
  rw [e,Zcf h hi];have:=hx i hi;grind
 ·have e:sm n (fun f=>cfv m T (T.fr k) f*x (T.fr f))=x (T.fr k):=by
   rw [ZCa hk fun f hf hne=>by
    unfold cfv;rw [if_neg fun e=>hne (h.fi f k hf hk e),Z8 fun i hi=>if_neg (h.d i k hi hk)];grind]
   unfold cfv;rw [if_pos rfl,Z8 fun i hi=>if_neg (h.d i k hi hk)];grind
  rw [e,ZFd h hk];grind
def drop (m n:Nat) (C:Nat→Rat) (T:Tb) (c:Nat):Tb :=
 let D:Tb:={ a:=fun i k=>T.a i (sk c k),b:=T.b,z:=fun _=>0,v:=0,bs:=T.bs,fr:=fun k=>T.fr (sk c k) }
 { D with z:=fun f=>sm n (fun k=>C k*cfv m D k f),v:=sm n (fun k=>C k*ZT m D k) }
theorem sk_inj {c i j:Nat} (h:sk c i=sk c j):i=j:=by
 unfold sk at h;split at h <;> split at h <;> omega
theorem Z7e {n c k:Nat} (hk:k<n):sk c k<n+1:=by unfold sk;split <;> omega
theorem sk_ne (c k:Nat):sk c k≠c:=by unfold sk;split <;> omega
theorem sk_ex {n c l:Nat} (hl:l<n+1) (hc:c<n+1) (h:l≠c):∃ k,k<n∧sk c k=l:=by
 by_cases e:l<c
 ·exact ⟨l,by omega,by unfold sk;rw [if_pos e]⟩
 ·exact ⟨l-1,by omega,by unfold sk;rw [if_neg (by omega)];omega⟩
theorem Z1o (h:T.arr m (n+1) (n+m+1)) {c:Nat} (hc:c<n+1) (e:T.fr c=n+m):(drop m n C T c).arr m n (n+m):=by
 refine ⟨fun i hi=>?_,fun k hk=>?_,fun i j hi hj e2=>h.bi i j hi hj e2,fun i j hi hj e2=>sk_inj (h.fi _ _ (Z7e hi) (Z7e hj) e2),fun i k hi hk=>h.d i _ hi (Z7e hk),fun u hu=>?_⟩
 ·have h1:=h.bl i hi;have h2:=h.d i c hi hc;show T.bs i<n+m;omega
 ·have h1:=h.fl _ (Z7e (c:=c) hk);have h2:T.fr (sk c k)≠T.fr c:=fun e2=>sk_ne c k (h.fi _ _ (Z7e hk) hc e2);show T.fr (sk c k)<n+m;omega
 ·rcases h.cov u (by omega) with h1 | ⟨l,hl,e2⟩
  ·exact .inl h1
  ·have hne:l≠c:=fun e3=>by rw [e3,e] at e2;omega
   obtain ⟨k,hk,e3⟩:=sk_ex hl hc hne;exact .inr ⟨k,hk,by show T.fr (sk c k)=u;rw [e3,e2]⟩
theorem ZPs (h:T.arr m (n+1) (n+m+1)) (he:T.eqv (st1 m n A B) m (n+1)) {c:Nat} (hc:c<n+1) (e:T.fr c=n+m) (x:Nat→Rat):(drop m n C T c).sol m n x↔(st0 n A B C).sol m n x:=by
 let x':Nat→Rat:=fun u=>if u=n+m then 0 else x u
 have xl:∀ u,u≠n+m→x' u=x u:=fun u hu=>if_neg hu;have xe:x' (n+m)=0:=if_pos rfl;have nf:∀ k,k<n→T.fr (sk c k)≠n+m:=fun k hk e2=>sk_ne c k (h.fi _ _ (Z7e hk) hc (e2.trans e.symm));have nb:∀ i,i<m→T.bs i≠n+m:=fun i hi e2=>h.d i c hi hc (e2.trans e.symm);have row:∀ i,sm (n+1) (fun k=>T.a i k*x' (T.fr k))=sm n (fun k=>T.a i (sk c k)*x (T.fr (sk c k))):=fun i=>by
  rw [sm_skip hc,e,xe,ZG (g:=fun k=>T.a i (sk c k)*x (T.fr (sk c k))) fun k hk=>by rw [xl _ (nf k hk)]];grind
 have h1:(drop m n C T c).sol m n x↔T.sol m (n+1) x':=by
  constructor
  ·intro hs i hi;rw [row i,xl _ (nb i hi)];exact hs i hi
  ·intro hs i hi;have:=hs i hi;rw [row i,xl _ (nb i hi)] at this;exact this
 rw [h1,he.sol x',ZYm,Zji];have s:∀ i,sm n (fun k=>A i k*x' k)=sm n (fun k=>A i k*x k):=fun i=>ZG fun k hk=>by rw [xl k (by omega)]
 constructor
 ·intro hs i hi;have:=hs i hi;rw [s i,xe,xl _ (by omega)] at this;grind
 ·intro hs i hi;rw [s i,xe,xl _ (by omega)];have:=hs i hi;grind
theorem Zhv (h:T.arr m (n+1) (n+m+1)) (he:T.eqv (st1 m n A B) m (n+1)) {c:Nat} (hc:c<n+1) (e:T.fr c=n+m):(drop m n C T c).eqv (st0 n A B C) m n:=by
 refine ⟨ZPs h he hc e,fun x hx=>?_⟩;have hx':=(ZPs (C:=C) h he hc e x).2 hx;have ha:=Z1o (C:=C) h hc e;rw [ZIh];have e1:sm n (fun k=>C k*x k)=sm n (fun k=>C k*ZT m (drop m n C T c) k+C k*sm n (fun f=>cfv m (drop m n C T c) k f*x ((drop m n C T c).fr f))):=ZG fun k hk=>by
  have:=Ziy ha hx' (u:=k) (by omega);grind
 rw [e1,Zgf];have e2:sm n (fun f=>(drop m n C T c).z f*x ((drop m n C T c).fr f))=sm n (fun k=>C k*sm n (fun f=>cfv m (drop m n C T c) k f*x ((drop m n C T c).fr f))):=by
  have e3:sm n (fun f=>(drop m n C T c).z f*x ((drop m n C T c).fr f))=sm n (fun f=>sm n (fun k=>C k*(cfv m (drop m n C T c) k f*x ((drop m n C T c).fr f)))):=ZG fun f _=>by
   show sm n (fun k=>C k*cfv m (drop m n C T c) k f)*_=_;rw [Rat.mul_comm,← ZEb];exact ZG fun k _=>by grind
  rw [e3,ZDm];exact ZG fun k _=>by rw [ZEb]
 unfold obj;rw [e2];rfl
noncomputable def Z4d (n:Int):Option (List Rat) :=
 bnd (ZDa (0:Int)) fun a =>
 bnd (Zvc 56 [a] n) fun b =>
 some b
noncomputable def Zoi (t:(List (List Rat))×(List Rat)×(List Rat)×Rat×(List Int)×(List Int)) (n:Int):Option (List Rat) :=
 bnd (Z4d n) fun c =>
 bnd (Zg (σ:=Int×(List Rat)) (ρ:=List Rat) (fun a =>
 ifb (decide (a.1<(t.2.2.2.2.1.length:Int)))
 (bnd (idx t.2.2.2.2.1 a.1) fun b =>
 bnd (α:=List Rat)
 (ifb (decide (b<n))
 (bnd (idx t.2.1 a.1) fun d =>
 bnd (idx a.2 b) fun h =>
 some (a.2.set b.toNat d))
 (some a.2)) fun e =>
 bnd (chk .i64 (a.1+(1:Int))) fun f =>
 some (.inl (f,e)))
 (some (.inr a.2)))
  Zi ((0:Int),c)) fun g =>
 some g
noncomputable def Zdj (t:(List (List Rat))×(List Rat)×(List Rat)×Rat×(List Int)×(List Int)) (n:Int) (k:Int):Option (List Rat) :=
 bnd (Z4d k) fun d =>
 bnd (Zg (σ:=Int×(List Rat)) (ρ:=List Rat) (fun a =>
 ifb (decide (a.1<(t.2.2.2.2.2.length:Int)))
 (bnd (idx t.2.2.2.2.2 a.1) fun b =>
 bnd (α:=Bool)
 (ifb (decide (n≤b))
 (bnd (chk .i64 (n+k)) fun e =>
 some (decide (b<e)))
 (some false)) fun f =>
 bnd (α:=List Rat)
 (ifb f
 (bnd (chk .i64 (b-n)) fun c =>
 bnd (idx t.2.2.1 a.1) fun g =>
 bnd (ZFa g) fun h =>
 bnd (idx a.2 c) fun m =>
 some (a.2.set c.toNat h))
 (some a.2)) fun i =>
 bnd (chk .i64 (a.1+(1:Int))) fun j =>
 some (.inl (j,i)))
 (some (.inr a.2)))
  Zi ((0:Int),d)) fun l =>
 some l
noncomputable def Zxi (t:(List (List Rat))×(List Rat)×(List Rat)×Rat×(List Int)×(List Int)) (n:Int) (k:Int):Option (((List (List Rat))×(List Rat)×(List Rat)×Rat×(List Int)×(List Int))×(List Rat)) :=
 bnd (ZDa (0:Int)) fun d =>
 bnd (Zvc 56 [d] k) fun e =>
 bnd (Zg (σ:=Int×(List Rat)) (ρ:=List Rat) (fun a =>
 ifb (decide (a.1<(t.2.2.2.2.2.length:Int)))
 (bnd (idx t.2.2.2.2.2 a.1) fun b =>
 bnd (α:=Bool)
 (ifb (decide (n≤b))
 (bnd (chk .i64 (n+k)) fun f =>
 some (decide (b<f)))
 (some false)) fun g =>
 bnd (α:=List Rat)
 (ifb g
 (bnd (chk .i64 (b-n)) fun c =>
 bnd (idx t.2.2.1 a.1) fun h =>
 bnd (ZFa h) fun i =>
 bnd (idx a.2 c) fun o =>
 some (a.2.set c.toNat i))
 (some a.2)) fun j =>
 bnd (chk .i64 (a.1+(1:Int))) fun l =>
 some (.inl (l,j)))
 (some (.inr a.2)))
  Zi ((0:Int),e)) fun m =>
 some ((t.1,t.2.1,t.2.2.1,t.2.2.2.1,t.2.2.2.2.1,t.2.2.2.2.2),m)
end Go.Eng
namespace Go.Eng
open Tb
theorem ZMh {n:Nat} (hn:n≤1000):Zvc 56 [((0:Int):Rat)] (n:Int)=some (vx n fun _=>(0:Rat)):=by
 unfold Zvc;simp only;rw [mk_ok (by omega) (by omega),Za,Int.toNat_natCast,ZOm];rfl
theorem ZZi {n:Nat} (hn:n≤1000):Z4d (n:Int)=some (vx n fun _=>(0:Rat)):=by
 unfold Z4d;rw [Zic,Za,ZMh hn,Za]
theorem smz {k n:Nat} {f:Nat→Rat} (h:∀ j,j<n→sz k (f j)):sz (n*(k+1)+1) (sm n f):=by
 induction n with
 | zero=>exact Zle.mono (by omega)
 | succ n ih =>
  have:=Zrr (ih fun j hj=>h j (by omega)) (h n (by omega));exact this.mono (by rw [Nat.succ_mul];omega)
theorem Zjg {body:Int→Option (Int ⊕ (Unit ⊕ Int))} (k:Nat) (hk:k≤1000) (p:Nat→Prop) (h1:∀ i,i<k→(p i∧body (i:Int)=some (.inr (.inr (i:Int))))∨(¬ p i∧body (i:Int)=some (.inl ((i+1:Nat):Int)))) (h2:body (k:Int)=some (.inr (.inl ()))) :
  ∃ e:Int,(bnd (Zg body Zi (0:Int)) fun x=>match x with | .inl _=>some (-1:Int) | .inr r=>some r)=some e∧((e = -1∧∀ i,i<k→¬ p i) ∨ ∃ i,i<k∧e=(i:Int)∧p i):=by
 refine ZRi (fun i s=>s=(i:Int)∧∀ j,j<i→¬ p j) (fun r=>(r = .inl ()∧∀ i,i<k→¬ p i) ∨ ∃ i,i<k∧r = .inr (i:Int)∧p i) k ⟨rfl,fun j hj=>by omega⟩ (by omega) (fun i s hi hI=>?_) (fun r hr=>?_)
 ·obtain ⟨rfl,hI⟩:=hI;by_cases hlt:i<k
  ·rcases h1 i hlt with ⟨g1,g2⟩ | ⟨g1,g2⟩
   ·exact .inr ⟨_,g2,.inr ⟨i,hlt,rfl,g1⟩⟩
   ·refine .inl ⟨_,hlt,g2,rfl,fun j hj=>?_⟩;by_cases e:j=i
    ·rw [e];exact g1
    ·exact hI j (by omega)
  ·have:i=k:=by omega
   subst this;exact .inr ⟨_,h2,.inl ⟨rfl,hI⟩⟩
 ·rcases hr with ⟨rfl,h⟩ | ⟨i,hi,rfl,h⟩
  ·exact ⟨-1,rfl,.inl ⟨rfl,h⟩⟩
  ·exact ⟨(i:Int),rfl,.inr ⟨i,hi,rfl,h⟩⟩
theorem ZAo {α:Type} {n c:Nat} (f:Nat→α) (hc:c<n+1):Z8c (vx (n+1) f) (c:Int) ((c+1:Nat):Int)=some (vx n fun k=>f (sk c k)):=by
 unfold Z8c;rw [if_pos ⟨by omega,by rw [Zh];omega,rfl⟩];refine congrArg some (List.ext_getElem? fun i=>?_);have hl:(List.take c (vx (n+1) f)).length=c:=by rw [List.length_take,Zh];omega
 simp only [Int.toNat_natCast];by_cases h1:i<c
 ·rw [List.getElem?_append_left (by rw [hl];exact h1),List.getElem?_take,if_pos h1,Zkc f (by omega),Zkc _ (by omega)];unfold sk;rw [if_pos h1]
 ·rw [List.getElem?_append_right (by rw [hl];omega),hl,List.getElem?_drop];by_cases h2:i<n
  ·rw [Zkc _ (by omega),Zkc _ h2];unfold sk;rw [if_neg h1];congr 2;omega
  ·rw [List.getElem?_eq_none (by rw [Zh];omega),List.getElem?_eq_none (by rw [Zh];omega)]
set_option maxRecDepth 100000 in
theorem ZHs {T:Tb} {m n n' N:Nat} (h:T.arr m n' N) (hm:m≤1000) (hn:n≤1000):Zoi (tbl m n' T) (n:Int)=some (vx n (ZT m T)):=by
 unfold Zoi tbl;refine Zu (ZZi hn) ?_;refine Zu (y:=vx n (ZT m T)) (Zra (fun i=>((i:Int),vx n (ZT i T))) m ?_ (by omega) (fun i hi=>?_) ?_) rfl
 ·rfl
 ·simp only;rw [Zh,decide_eq_true (by omega),Ze,Zr _ hi,Za];refine Zu (y:=vx n (ZT (i+1) T)) ?_ (by rw [Zo (by omega) (by omega),Za];rfl);have z0:ZT i T (T.bs i)=0:=Z8 fun j hj=>if_neg fun e=>by have:=h.bi j i (by omega) hi e;omega
  by_cases hb:T.bs i<n
  ·rw [decide_eq_true (by omega),Ze,Zr _ hi,Za,Zr _ hb,Za];simp only [Int.toNat_natCast];rw [ZPa];refine congrArg some (ZB fun u hu=>?_);show _=ZT i T u+(if T.bs i=u then T.b i else 0);by_cases e:u=T.bs i
   ·rw [if_pos e,if_pos e.symm,e,z0];grind
   ·rw [if_neg e,if_neg fun e2=>e e2.symm];grind
  ·rw [decide_eq_false (by omega),Zf];refine congrArg some (ZB fun u hu=>?_);show _=ZT i T u+(if T.bs i=u then T.b i else 0);rw [if_neg (by omega)];grind
 ·simp only;rw [Zh,decide_eq_false (by omega),Zf]
theorem Zxp {T:Tb} {m n n' N k:Nat} (h:T.arr m n' N) (hm:m≤1000) (hn':n'≤1000) (hn:n≤1000) (hk:k≤1000) :
   Zg (σ:=Int×(List Rat)) (ρ:=List Rat) (fun s2 =>
   ifb (decide (s2.1<((vx n' fun k=>(T.fr k:Int)).length:Int)))
   (bnd (idx (vx n' fun k=>(T.fr k:Int)) s2.1) fun y3 =>
    bnd (α:=Bool)
    (ifb (decide ((n:Int)≤y3))
     (bnd (chk .i64 ((n:Int)+(k:Int))) fun y4 =>
      some (decide (y3<y4)))
     (some false)) fun x5 =>
    bnd (α:=List Rat)
    (ifb x5
     (bnd (chk .i64 (y3-(n:Int))) fun y6 =>
      bnd (idx (vx n' T.z) s2.1) fun y7 =>
      bnd (ZFa y7) fun y8 =>
      bnd (idx s2.2 y6) fun y9 =>
      some (s2.2.set y6.toNat y8))
     (some s2.2)) fun x10 =>
    bnd (chk .i64 (s2.1+(1:Int))) fun y11 =>
    some (.inl (y11,x10)))
   (some (.inr s2.2)))
  Zi ((0:Int),vx k fun _=>(0:Rat))=some (vx k (ZZ n T n')):=by
  refine Zra (fun j=>((j:Int),vx k (ZZ n T j))) n' ?_ (by omega) (fun j hj=>?_) ?_
  · refine Prod.ext rfl (ZB fun i _=>?_);show -(0:Rat)=0;rfl
  · simp only;rw [Zh,decide_eq_true (by omega),Ze,Zr _ hj,Za];have step:∀ i,ZZ n T (j+1) i=ZZ n T j i-(if T.fr j=n+i then T.z j else 0):=fun i=>by
      show -(zz j T.z T.fr (n+i)+(if T.fr j=n+i then T.z j else 0)) = -(zz j T.z T.fr (n+i))-_;grind
    refine Zu (y:=decide (n≤T.fr j∧T.fr j<n+k)) ?_ ?_
    · by_cases h1:n≤T.fr j
      · rw [decide_eq_true (by omega),Ze,Zo (by omega) (by omega),Za];refine congrArg some ?_;rw [decide_eq_decide];omega
      · rw [decide_eq_false (by omega),Zf,decide_eq_false (by omega)]
    · refine Zu (y:=vx k (ZZ n T (j+1))) ?_ (by rw [Zo (by omega) (by omega),Za];rfl);by_cases hc:n≤T.fr j∧T.fr j<n+k
      · have e1:(T.fr j:Int)-(n:Int)=((T.fr j-n:Nat):Int):=by omega
        rw [decide_eq_true hc,Ze,e1,Zo (by omega) (by omega),Za,Zr _ hj,Za];unfold ZFa;rw [Za,Zr _ (by omega),Za];simp only [Int.toNat_natCast];rw [ZPa];refine congrArg some (ZB fun i hi=>?_);rw [step i];by_cases e:i=T.fr j-n
        · have z0:ZZ n T j i=0:=by
            show -(zz j T.z T.fr (n+i))=0;have:zz j T.z T.fr (n+i)=0:=Z8 fun q hq=>if_neg fun e2=>by have:=h.fi q j (by omega) hj (by omega);omega
            rw [this];rfl
          rw [if_pos e,if_pos (by omega),z0];grind
        · rw [if_neg e,if_neg (by omega)];grind
      · rw [decide_eq_false hc,Zf];refine congrArg some (ZB fun i hi=>?_);rw [step i,if_neg (by omega)];grind
  · simp only;rw [Zh,decide_eq_false (by omega),Zf]
theorem Ztx {T:Tb} {m n n' N k:Nat} (h:T.arr m n' N) (hm:m≤1000) (hn':n'≤1000) (hn:n≤1000) (hk:k≤1000):Zdj (tbl m n' T) (n:Int) (k:Int)=some (vx k (ZZ n T n')):=by
 unfold Zdj tbl;refine Zu (ZZi hk) ?_;exact Zu (Zxp h hm hn' hn hk) rfl
theorem ZYt {T:Tb} {m n n' N k:Nat} (h:T.arr m n' N) (hm:m≤1000) (hn':n'≤1000) (hn:n≤1000) (hk:k≤1000):Zxi (tbl m n' T) (n:Int) (k:Int)=some (tbl m n' T,vx k (ZZ n T n')):=by
 unfold Zxi tbl;refine Zu (Zic 0) ?_;refine Zu (ZMh hk) ?_;exact Zu (Zxp h hm hn' hn hk) rfl
noncomputable def Zzk (t:(List (List Rat))×(List Rat)×(List Rat)×Rat×(List Int)×(List Int)) (p:(List (List Rat))×(List Rat)×(List Rat)):Option (((List (List Rat))×(List Rat)×(List Rat)×Rat×(List Int)×(List Int))×(List Rat)×Bool) :=
 bnd (chk .i64 ((p.2.2.length:Int)+(p.2.1.length:Int))) fun m =>
 bnd (Zg (σ:=Int×Int) (ρ:=Int) (fun f =>
 ifb (decide (f.2<(t.2.1.length:Int)))
 (bnd (idx t.2.1 f.2) fun y =>
 bnd (α:=Bool)
 (bnd (Zua y) fun I =>
 ifb (decide (I<(0:Int)))
 (ifb (decide (f.1<(0:Int)))
 (some true)
 (bnd (idx t.2.1 f.1) fun J =>
 bnd (ZRc y J) fun K =>
 some (decide (K<(0:Int)))))
 (some false)) fun L =>
 bnd (α:=Int)
 (ifb L
 (some f.2)
 (some f.1)) fun M =>
 bnd (chk .i64 (f.2+(1:Int))) fun N =>
 some (.inl (M,N)))
 (some (.inr f.1)))
  Zi ((-1:Int),(0:Int))) fun z =>
 ifb (decide (z<(0:Int)))
 (some ((t.1,t.2.1,t.2.2.1,t.2.2.2.1,t.2.2.2.2.1,t.2.2.2.2.2),([]:List Rat),true))
 (bnd (Zg (σ:=Int×(List (List Rat))) (ρ:=List (List Rat)) (fun c =>
 ifb (decide (c.1<(t.1.length:Int)))
 (bnd (idx c.2 c.1) fun A =>
 bnd (ZDa (-1:Int)) fun B =>
 bnd (ZA 56 (A++[B])) fun _ =>
 bnd (idx c.2 c.1) fun aM =>
 bnd (eqN c.1.toNat c.1.toNat) fun _ =>
 bnd (chk .i64 (c.1+(1:Int))) fun O =>
 some (.inl (O,c.2.set c.1.toNat (A++[B]))))
 (some (.inr c.2)))
   Zi ((0:Int),t.1)) fun P =>
 bnd (ZA 8 (t.2.2.2.2.2++[m])) fun _ =>
 bnd (ZDa (0:Int)) fun Q =>
 bnd (Zvc 56 [Q] (p.2.2.length:Int)) fun C =>
 bnd (ZDa (-1:Int)) fun D =>
 bnd (ZA 56 (C++[D])) fun _ =>
 bnd (Z5e (P,t.2.1,C++[D],t.2.2.2.1,t.2.2.2.2.1,t.2.2.2.2.2++[m]) z (p.2.2.length:Int)) fun i =>
 bnd (ZQh (i.1.1,i.1.2.1,i.1.2.2.1,i.1.2.2.2.1,i.1.2.2.2.2.1,i.1.2.2.2.2.2) m) fun b =>
 bnd (Zua b.1.2.2.2.1) fun R =>
 ifb (decide (R<(0:Int)))
 (bnd (Zxi (b.1.1,b.1.2.1,b.1.2.2.1,b.1.2.2.2.1,b.1.2.2.2.2.1,b.1.2.2.2.2.2) (p.2.2.length:Int) (p.2.1.length:Int)) fun g =>
 some ((g.1.1,g.1.2.1,g.1.2.2.1,g.1.2.2.2.1,g.1.2.2.2.2.1,g.1.2.2.2.2.2),g.2,false))
 (bnd (α:=Int)
 (bnd (Zg (σ:=Int) (ρ:=Unit ⊕ Int) (fun n =>
 ifb (decide (n<(b.1.2.2.2.2.1.length:Int)))
 (bnd (idx b.1.2.2.2.2.1 n) fun S =>
 ifb (m==S)
 (some (.inr (.inr n)))
 (bnd (chk .i64 (n+(1:Int))) fun T =>
 some (.inl T)))
 (some (.inr (.inl ()))))
     Zi (0:Int)) fun U =>
    match U with
| .inl aN=>(some (-1:Int))
| .inr V=>(some V)) fun w =>
 bnd (α:=(List (List Rat))×(List Rat)×(List Rat)×Rat×(List Int)×(List Int))
 (ifb (decide ((0:Int)≤w))
 (bnd (idx b.1.1 w) fun E =>
 bnd (α:=Int)
 (bnd (Zg (σ:=Int) (ρ:=Unit ⊕ Int) (fun o =>
 ifb (decide (o<(E.length:Int)))
 (bnd (idx E o) fun W =>
 bnd (Z5b W) fun X =>
 ifb (!X)
 (some (.inr (.inr o)))
 (bnd (chk .i64 (o+(1:Int))) fun Y =>
 some (.inl Y)))
 (some (.inr (.inl ()))))
       Zi (0:Int)) fun Z =>
      match Z with
| .inl aO=>(some (-1:Int))
| .inr aa=>(some aa)) fun ab =>
 bnd (Z5e (b.1.1,b.1.2.1,b.1.2.2.1,b.1.2.2.2.1,b.1.2.2.2.2.1,b.1.2.2.2.2.2) w ab) fun j =>
 some (j.1.1,j.1.2.1,j.1.2.2.1,j.1.2.2.2.1,j.1.2.2.2.2.1,j.1.2.2.2.2.2))
 (some (b.1.1,b.1.2.1,b.1.2.2.1,b.1.2.2.2.1,b.1.2.2.2.2.1,b.1.2.2.2.2.2))) fun h =>
 bnd (α:=Int)
 (bnd (Zg (σ:=Int) (ρ:=Unit ⊕ Int) (fun q =>
 ifb (decide (q<(h.2.2.2.2.2.length:Int)))
 (bnd (idx h.2.2.2.2.2 q) fun ac =>
 ifb (m==ac)
 (some (.inr (.inr q)))
 (bnd (chk .i64 (q+(1:Int))) fun ad =>
 some (.inl ad)))
 (some (.inr (.inl ()))))
     Zi (0:Int)) fun ae =>
    match ae with
| .inl aP=>(some (-1:Int))
| .inr af=>(some af)) fun r =>
 bnd (chk .i64 (r+(1:Int))) fun ag =>
 bnd (Z8c h.2.2.2.2.2 r ag) fun F =>
 bnd (Zg (σ:=Int×(List (List Rat))) (ρ:=List (List Rat)) (fun d =>
 ifb (decide (d.1<(h.1.length:Int)))
 (bnd (idx d.2 d.1) fun ah =>
 bnd (chk .i64 (r+(1:Int))) fun ai =>
 bnd (Z8c ah r ai) fun aj =>
 bnd (idx d.2 d.1) fun aQ =>
 bnd (eqN d.1.toNat d.1.toNat) fun _ =>
 bnd (chk .i64 (d.1+(1:Int))) fun ak =>
 some (.inl (ak,d.2.set d.1.toNat aj)))
 (some (.inr d.2)))
    Zi ((0:Int),h.1)) fun al =>
 bnd (ZDa (0:Int)) fun am =>
 bnd (Zvc 56 [am] (F.length:Int)) fun an =>
 bnd (ZDa (0:Int)) fun ao =>
 bnd (Zg (σ:=Int×((List (List Rat))×(List Rat)×(List Rat)×Rat×(List Int)×(List Int))) (ρ:=(List (List Rat))×(List Rat)×(List Rat)×Rat×(List Int)×(List Int)) (fun a =>
 ifb (decide (a.1<(p.2.2.length:Int)))
 (bnd (α:=(List (List Rat))×(List Rat)×(List Rat)×Rat×(List Int)×(List Int))
 (bnd (idx p.2.2 a.1) fun x =>
 bnd (α:=Int)
 (bnd (Zg (σ:=Int) (ρ:=Unit ⊕ Int) (fun s =>
 ifb (decide (s<(a.2.2.2.2.2.2.length:Int)))
 (bnd (idx a.2.2.2.2.2.2 s) fun ap =>
 ifb (a.1==ap)
 (some (.inr (.inr s)))
 (bnd (chk .i64 (s+(1:Int))) fun aq =>
 some (.inl aq)))
 (some (.inr (.inl ()))))
         Zi (0:Int)) fun ar =>
        match ar with
| .inl aR=>(some (-1:Int))
| .inr au=>(some au)) fun u =>
 ifb (decide ((0:Int)≤u))
 (bnd (idx a.2.2.2.1 u) fun av =>
 bnd (ZFb av x) fun ax =>
 bnd (idx a.2.2.2.1 u) fun aS =>
 some (a.2.1,a.2.2.1,a.2.2.2.1.set u.toNat ax,a.2.2.2.2.1,a.2.2.2.2.2.1,a.2.2.2.2.2.2))
 (bnd (α:=Int)
 (bnd (Zg (σ:=Int) (ρ:=Unit ⊕ Int) (fun v =>
 ifb (decide (v<(a.2.2.2.2.2.1.length:Int)))
 (bnd (idx a.2.2.2.2.2.1 v) fun ay =>
 ifb (a.1==ay)
 (some (.inr (.inr v)))
 (bnd (chk .i64 (v+(1:Int))) fun az =>
 some (.inl az)))
 (some (.inr (.inl ()))))
          Zi (0:Int)) fun aA =>
         match aA with
| .inl aT=>(some (-1:Int))
| .inr aB=>(some aB)) fun G =>
 bnd (idx a.2.2.1 G) fun aC =>
 bnd (ZQa x aC) fun aD =>
 bnd (ZFb a.2.2.2.2.1 aD) fun aE =>
 bnd (idx a.2.1 G) fun H =>
 bnd (Zg (σ:=Int×(List Rat)) (ρ:=List Rat) (fun e =>
 ifb (decide (e.1<(H.length:Int)))
 (bnd (idx H e.1) fun aF =>
 bnd (idx e.2 e.1) fun aG =>
 bnd (ZQa x aF) fun aH =>
 bnd (ZRb aG aH) fun aI =>
 bnd (idx e.2 e.1) fun aU =>
 bnd (chk .i64 (e.1+(1:Int))) fun aJ =>
 some (.inl (aJ,e.2.set e.1.toNat aI)))
 (some (.inr e.2)))
         Zi ((0:Int),a.2.2.2.1)) fun aK =>
 some (a.2.1,a.2.2.1,aK,aE,a.2.2.2.2.2.1,a.2.2.2.2.2.2))) fun k =>
 bnd (chk .i64 (a.1+(1:Int))) fun aL =>
 some (.inl (aL,k.1,k.2.1,k.2.2.1,k.2.2.2.1,k.2.2.2.2.1,k.2.2.2.2.2)))
 (some (.inr (a.2.1,a.2.2.1,a.2.2.2.1,a.2.2.2.2.1,a.2.2.2.2.2.1,a.2.2.2.2.2.2))))
    Zi ((0:Int),al,h.2.1,an,ao,h.2.2.2.2.1,F)) fun l =>
 some ((l.1,l.2.1,l.2.2.1,l.2.2.2.1,l.2.2.2.2.1,l.2.2.2.2.2),([]:List Rat),true)))
end Go.Eng
namespace Go.Eng
open Tb
variable {m n:Nat} {A:Mx} {B C:Nat→Rat} {T:Tb}
set_option maxRecDepth 100000 in
theorem ZNx {K:Nat} (hz:∀ i,i<m→sz K (B i)) (hm:m≤1000) (hK:K≤137438953472):∃ e:Int,Zg (σ:=Int×Int) (ρ:=Int) (fun s2 =>
   ifb (decide (s2.2<((vx m B).length:Int)))
   (bnd (idx (vx m B) s2.2) fun y3 =>
    bnd (α:=Bool)
    (bnd (Zua y3) fun y4 =>
     ifb (decide (y4<(0:Int)))
     (ifb (decide (s2.1<(0:Int)))
      (some true)
      (bnd (idx (vx m B) s2.1) fun y5 =>
       bnd (ZRc y3 y5) fun y6 =>
       some (decide (y6<(0:Int)))))
     (some false)) fun x7 =>
    bnd (α:=Int)
    (ifb x7
     (some s2.2)
     (some s2.1)) fun x8 =>
    bnd (chk .i64 (s2.2+(1:Int))) fun y9 =>
    some (.inl (x8,y9)))
   (some (.inr s2.1)))
  Zi ((-1:Int),(0:Int))=some e∧(e = -1∧(∀ i,i<m→¬ B i<0) ∨ ∃ w:Nat,e=(w:Int)∧w<m∧B w<0∧∀ i,i<m→B i<0→B w≤B i):=by
  suffices h:∃ z,bnd (Zg _ Zi ((-1:Int),(0:Int))) (fun e=>some e)=some z∧(z = -1∧(∀ i,i<m→¬ B i<0) ∨ ∃ w:Nat,z=(w:Int)∧w<m∧B w<0∧∀ i,i<m→B i<0→B w≤B i) by
    obtain ⟨z,h1,h2⟩:=h;obtain ⟨y,h3,h4⟩:=Zha h1
    cases h4
    exact ⟨_,h3,h2⟩
  refine ZRi (fun k s=>∃ e,s=(e,(k:Int))∧(e = -1∧(∀ j,j<k→¬ B j<0) ∨ ∃ w:Nat,e=(w:Int)∧w<k∧B w<0∧∀ j,j<k→B j<0→B w≤B j)) (fun e=>e = -1∧(∀ i,i<m→¬ B i<0) ∨ ∃ w:Nat,e=(w:Int)∧w<m∧B w<0∧∀ i,i<m→B i<0→B w≤B i) m ⟨-1,rfl,.inl ⟨rfl,fun j hj=>by omega⟩⟩ (by omega) (fun k s hk hI=>?_) (fun e he=>⟨_,rfl,he⟩);obtain ⟨e,rfl,hI⟩:=hI;by_cases hlt:k<m
  · left;simp only;rw [Zh,decide_eq_true (by omega),Ze,Zr _ hlt,Za];unfold Zua;rw [Za];have fin:∀ {X:Option Bool} {b:Bool} ,X=some b→(bnd (α:=Bool) X fun x7=>bnd (α:=Int) (ifb x7 (some (k:Int)) (some e)) fun x8=>bnd (chk .i64 ((k:Int)+(1:Int))) fun y9=>(some (.inl (x8,y9)):Option ((Int×Int) ⊕ Int)))=some (.inl (if b then (k:Int) else e,((k+1:Nat):Int))):=fun {X b} h=>by
      rw [h,Za]
      cases b
      · rw [Zf,Za,Zo (by omega) (by omega),Za];rfl
      · rw [Ze,Za,Zo (by omega) (by omega),Za];rfl
    by_cases hp:B k<0
    · rw [decide_eq_true ((Z2e _).2 hp),Ze];rcases hI with ⟨rfl,hno⟩ | ⟨w,rfl,hw,hb,hle⟩
      · refine ⟨_,hlt,fin (b:=true) (by rfl),_,rfl,.inr ⟨k,rfl,by omega,hp,fun j hj hj0=>?_⟩⟩;by_cases e2:j=k
        · rw [e2];exact Rat.le_refl
        · exact absurd hj0 (hno j (by omega))
      · rw [decide_eq_false (show ¬ (w:Int)<0 by omega),Zf,Zr _ (by omega),Za,qcmpB (hz k hlt) (hz w (by omega)) (by omega) (by omega),Za];refine ⟨_,hlt,fin rfl,_,rfl,.inr ?_⟩;by_cases hc:B k<B w
        · rw [decide_eq_true ((Z2e _).2 (by grind)),if_pos rfl];refine ⟨k,rfl,by omega,hp,fun j hj hj0=>?_⟩;by_cases e2:j=k
          · rw [e2];exact Rat.le_refl
          · have:=hle j (by omega) hj0;grind
        · rw [decide_eq_false (fun h=>hc (by have:=(Z2e _).1 h;grind)),if_neg (by decide)];refine ⟨w,rfl,by omega,hb,fun j hj hj0=>?_⟩;by_cases e2:j=k
          · rw [e2];grind
          · exact hle j (by omega) hj0
    · rw [decide_eq_false (fun h=>hp ((Z2e _).1 h)),Zf];refine ⟨_,hlt,fin rfl,_,rfl,?_⟩;rw [if_neg (by decide)];rcases hI with ⟨rfl,hno⟩ | ⟨w,rfl,hw,hb,hle⟩
      · refine .inl ⟨rfl,fun j hj=>?_⟩;by_cases e2:j=k
        · rw [e2];exact hp
        · exact hno j (by omega)
      · refine .inr ⟨w,rfl,by omega,hb,fun j hj hj0=>?_⟩;by_cases e2:j=k
        · rw [e2] at hj0;exact absurd hj0 hp
        · exact hle j (by omega) hj0
  · right;have:k=m:=by omega
    subst this;exact ⟨e,by simp only;rw [Zh,decide_eq_false (by omega),Zf],hI⟩
theorem Z3t (hm:m≤1000) (hn:n≤1000):Zg (σ:=Int×(List (List Rat))) (ρ:=List (List Rat)) (fun s11 =>
    ifb (decide (s11.1<((mx m n A).length:Int)))
    (bnd (idx s11.2 s11.1) fun y12 =>
     bnd (ZDa (-1:Int)) fun y13 =>
     bnd (ZA 56 (y12++[y13])) fun _ =>
     bnd (idx s11.2 s11.1) fun y14 =>
     bnd (eqN s11.1.toNat s11.1.toNat) fun _ =>
     bnd (chk .i64 (s11.1+(1:Int))) fun y15 =>
     some (.inl (y15,s11.2.set s11.1.toNat (y12++[y13]))))
    (some (.inr s11.2)))
   Zi ((0:Int),mx m n A)=some (mx m (n+1) (st1 m n A B).a):=by
  refine Zra (fun k=>((k:Int),vx m fun i=>if i<k then vx (n+1) ((st1 m n A B).a i) else vx n (A i))) m ?_ (by omega) (fun k hk=>?_) ?_
  · exact Prod.ext rfl (ZB fun i hi=>if_neg (by omega))
  · simp only;rw [Z1a,decide_eq_true (by omega),Ze,Zr _ hk,Za,if_neg (by omega),Zic,Za];have e:vx n (A k)++[((-1:Int):Rat)]=vx (n+1) ((st1 m n A B).a k):=by
      rw [← Zvb];refine congr (congrArg _ (ZB fun j hj=>?_)) (congrArg (fun x=>[x]) ?_)
      · show A k j=if j<n then A k j else -1;rw [if_pos hj]
      · show _=if n<n then A k n else -1;rw [if_neg (by omega)];rfl
    rw [e,Zfa (by rw [Zh];omega),Za,Za,Zro,Za,Zo (by omega) (by omega),Za];simp only [Int.toNat_natCast];rw [ZPa];refine congrArg (fun x=>some (Sum.inl x)) (Prod.ext (by simp) (ZB fun i hi=>?_));by_cases e2:i=k
    · rw [if_pos e2,if_pos (by omega),e2]
    · rw [if_neg e2];by_cases e3:i<k
      · rw [if_pos e3,if_pos (by omega)]
      · rw [if_neg e3,if_neg (by omega)]
  · simp only;rw [Z1a,decide_eq_false (by omega),Zf];exact congrArg (fun x=>some (Sum.inr x)) (ZB fun i hi=>if_pos hi)
theorem Z5x {c:Nat} {M:Mx} (hm:m≤1000) (hn:n≤1000) (hc:c<n+1):Zg (σ:=Int×(List (List Rat))) (ρ:=List (List Rat)) (fun s51 =>
     ifb (decide (s51.1<((mx m (n+1) M).length:Int)))
     (bnd (idx s51.2 s51.1) fun y52 =>
      bnd (chk .i64 ((c:Int)+(1:Int))) fun y53 =>
      bnd (Z8c y52 (c:Int) y53) fun y54 =>
      bnd (idx s51.2 s51.1) fun y55 =>
      bnd (eqN s51.1.toNat s51.1.toNat) fun _ =>
      bnd (chk .i64 (s51.1+(1:Int))) fun y56 =>
      some (.inl (y56,s51.2.set s51.1.toNat y54)))
     (some (.inr s51.2)))
    Zi ((0:Int),mx m (n+1) M)=some (mx m n fun i k=>M i (sk c k)):=by
  refine Zra (fun k=>((k:Int),vx m fun i=>if i<k then vx n (fun j=>M i (sk c j)) else vx (n+1) (M i))) m ?_ (by omega) (fun k hk=>?_) ?_
  · exact Prod.ext rfl (ZB fun i hi=>if_neg (by omega))
  · simp only;rw [Z1a,decide_eq_true (by omega),Ze,Zr _ hk,Za,if_neg (by omega),Zo (by omega) (by omega),Za];have:=ZAo (M k) hc;rw [show (c:Int)+1=((c+1:Nat):Int) by omega,this,Za,Za,Zro,Za,Zo (by omega) (by omega),Za];simp only [Int.toNat_natCast];rw [ZPa];refine congrArg (fun x=>some (Sum.inl x)) (Prod.ext (by simp) (ZB fun i hi=>?_));by_cases e2:i=k
    · rw [if_pos e2,if_pos (by omega),e2]
    · rw [if_neg e2];by_cases e3:i<k
      · rw [if_pos e3,if_pos (by omega)]
      · rw [if_neg e3,if_neg (by omega)]
  · simp only;rw [Z1a,decide_eq_false (by omega),Zf];exact congrArg (fun x=>some (Sum.inr x)) (ZB fun i hi=>if_pos hi)
def Zbb (m:Nat) (C:Nat→Rat) (D:Tb) (k:Nat):Tb:={ D with z:=fun f=>sm k (fun j=>C j*cfv m D j f),v:=sm k (fun j=>C j*ZT m D j) }
theorem cfv_sz {D:Tb} {N W:Nat} (h:D.arr m n N) (ha:∀ i k,i<m→k<n→sz W (D.a i k)) (hW:1≤W) {u f:Nat} (hu:u<N) (hf:f<n):sz W (cfv m D u f):=by
 unfold cfv;rcases h.cov u hu with ⟨i,hi,rfl⟩ | ⟨k,hk,rfl⟩
 ·rw [if_neg fun e=>h.d i f hi hf e.symm,ZCa hi fun j hj hne=>if_neg fun e=>hne (h.bi j i hj hi e),if_pos rfl];have:(0:Rat)-D.a i f = - D.a i f:=by grind
  rw [this];exact Zyd (ha i f hi hf)
 ·rw [Z8 (f:=fun i=>if D.bs i=D.fr k then D.a i f else 0) fun i hi=>if_neg (h.d i k hi hk)];split
  ·rw [show (1:Rat)-0=1 by grind];exact Zlg.mono hW
  ·rw [show (0:Rat)-0=0 by grind];exact Zle.mono hW
set_option maxRecDepth 100000 in
theorem objs_ok {D:Tb} {K W:Nat} (h:D.arr m n (n+m)) (ha:∀ i k,i<m→k<n→sz W (D.a i k)) (hb:∀ i,i<m→sz W (D.b i)) (hC:∀ k,k<n→sz K (C k)) (hW:1≤W) (hK1:1≤K) (hm:m≤1000) (hn:n≤1000) (hS:(n+1)*(K+W+2)≤137438953472) :
   Zg (σ:=Int×((List (List Rat))×(List Rat)×(List Rat)×Rat×(List Int)×(List Int))) (ρ:=(List (List Rat))×(List Rat)×(List Rat)×Rat×(List Int)×(List Int)) (fun s61 =>
     ifb (decide (s61.1<((vx n C).length:Int)))
     (bnd (α:=(List (List Rat))×(List Rat)×(List Rat)×Rat×(List Int)×(List Int))
      (bnd (idx (vx n C) s61.1) fun y62 =>
       bnd (α:=Int)
       (bnd (Zg (σ:=Int) (ρ:=Unit ⊕ Int) (fun s63 =>
          ifb (decide (s63<(s61.2.2.2.2.2.2.length:Int)))
          (bnd (idx s61.2.2.2.2.2.2 s63) fun y64 =>
           ifb (s61.1==y64)
           (some (.inr (.inr s63)))
           (bnd (chk .i64 (s63+(1:Int))) fun y65 =>
            some (.inl y65)))
          (some (.inr (.inl ()))))
         Zi (0:Int)) fun x66 =>
        match x66 with
        | .inl r67=>(some (-1:Int))
        | .inr r68=>(some r68)) fun x69 =>
       ifb (decide ((0:Int)≤x69))
       (bnd (idx s61.2.2.2.1 x69) fun y70 =>
        bnd (ZFb y70 y62) fun y71 =>
        bnd (idx s61.2.2.2.1 x69) fun y72 =>
        some (s61.2.1,s61.2.2.1,s61.2.2.2.1.set x69.toNat y71,s61.2.2.2.2.1,s61.2.2.2.2.2.1,s61.2.2.2.2.2.2))
       (bnd (α:=Int)
        (bnd (Zg (σ:=Int) (ρ:=Unit ⊕ Int) (fun s73 =>
           ifb (decide (s73<(s61.2.2.2.2.2.1.length:Int)))
           (bnd (idx s61.2.2.2.2.2.1 s73) fun y74 =>
            ifb (s61.1==y74)
            (some (.inr (.inr s73)))
            (bnd (chk .i64 (s73+(1:Int))) fun y75 =>
             some (.inl y75)))
           (some (.inr (.inl ()))))
          Zi (0:Int)) fun x76 =>
         match x76 with
         | .inl r77=>(some (-1:Int))
         | .inr r78=>(some r78)) fun x79 =>
        bnd (idx s61.2.2.1 x79) fun y80 =>
        bnd (ZQa y62 y80) fun y81 =>
        bnd (ZFb s61.2.2.2.2.1 y81) fun y82 =>
        bnd (idx s61.2.1 x79) fun y83 =>
        bnd (Zg (σ:=Int×(List Rat)) (ρ:=List Rat) (fun s84 =>
          ifb (decide (s84.1<(y83.length:Int)))
          (bnd (idx y83 s84.1) fun y85 =>
           bnd (idx s84.2 s84.1) fun y86 =>
           bnd (ZQa y62 y85) fun y87 =>
           bnd (ZRb y86 y87) fun y88 =>
           bnd (idx s84.2 s84.1) fun y89 =>
           bnd (chk .i64 (s84.1+(1:Int))) fun y90 =>
           some (.inl (y90,s84.2.set s84.1.toNat y88)))
          (some (.inr s84.2)))
         Zi ((0:Int),s61.2.2.2.1)) fun x91 =>
        some (s61.2.1,s61.2.2.1,x91,y82,s61.2.2.2.2.2.1,s61.2.2.2.2.2.2))) fun x92 =>
      bnd (chk .i64 (s61.1+(1:Int))) fun y93 =>
      some (.inl (y93,x92.1,x92.2.1,x92.2.2.1,x92.2.2.2.1,x92.2.2.2.2.1,x92.2.2.2.2.2)))
     (some (.inr (s61.2.1,s61.2.2.1,s61.2.2.2.1,s61.2.2.2.2.1,s61.2.2.2.2.2.1,s61.2.2.2.2.2.2))))
    Zi ((0:Int),tbl m n (Zbb m C D 0))=some (tbl m n (Zbb m C D n)):=by
  have zS:∀ k f,k≤n→f<n→sz ((n+1)*(K+W+2)) ((Zbb m C D k).z f):=fun k f hk hf=>by
    have:=smz (k:=K+W) (f:=fun j=>C j*cfv m D j f) (n:=k) fun j hj=>Zwd (hC j (by omega)) (cfv_sz h ha hW (by omega) hf);refine this.mono ?_;have:=Nat.mul_le_mul (show k+1≤n+1 by omega) (show K+W+1≤K+W+2 by omega);rw [Nat.add_mul,Nat.one_mul] at this;omega
  have vS:∀ k,k≤n→sz ((n+1)*(K+W+2)) ((Zbb m C D k).v):=fun k hk=>by
    have hv:∀ u,u<n+m→sz W (ZT m D u):=fun u hu=>by
      rcases h.cov u hu with ⟨i,hi,rfl⟩ | ⟨q,hq,rfl⟩
      · rw [Zcf h hi];exact hb i hi
      · rw [ZFd h hq];exact Zle.mono hW
    have:=smz (k:=K+W) (f:=fun j=>C j*ZT m D j) (n:=k) fun j hj=>Zwd (hC j (by omega)) (hv j (by omega));refine this.mono ?_;have:=Nat.mul_le_mul (show k+1≤n+1 by omega) (show K+W+1≤K+W+2 by omega);rw [Nat.add_mul,Nat.one_mul] at this;omega
  have hKW:K+W+2≤137438953472:=Nat.le_trans (Nat.le_mul_of_pos_left _ (by omega)) hS;refine Zra (fun k=>((k:Int),tbl m n (Zbb m C D k))) n rfl (by omega) (fun k hk=>?_) ?_
  · show ifb (decide ((k:Int)<((vx n C).length:Int))) _ _=_;rw [Zh,decide_eq_true (by omega),Ze];refine Zu (y:=tbl m n (Zbb m C D (k+1))) ?_ (by rw [Zo (by omega) (by omega),Za];rfl);rw [Zr _ hk,Za];obtain ⟨e,g1,g2⟩:=Zjg (body:=fun s63 =>
          ifb (decide (s63<((vx n fun f=>(D.fr f:Int)).length:Int)))
          (bnd (idx (vx n fun f=>(D.fr f:Int)) s63) fun y64 =>
           ifb ((k:Int)==y64)
           (some (.inr (.inr s63)))
           (bnd (chk .i64 (s63+(1:Int))) fun y65 =>
            some (.inl y65)))
          (some (.inr (.inl ())))) n hn (fun f=>D.fr f=k) (fun f hf=>by
            rw [Zh,decide_eq_true (by omega),Ze,Zr _ hf,Za];by_cases e:D.fr f=k
            · exact .inl ⟨e,by rw [show ((k:Int)==(D.fr f:Int))=true by simp [e],Ze]⟩
            · exact .inr ⟨e,by rw [show ((k:Int)==(D.fr f:Int))=false by simp;omega,Zf,Zo (by omega) (by omega),Za];rfl⟩) (by rw [Zh,decide_eq_false (by omega),Zf])
    refine Zu g1 ?_;rcases g2 with ⟨rfl,g2⟩ | ⟨f,hf,rfl,g2⟩
    · rw [show (decide ((0:Int)≤-1))=false from rfl,Zf];obtain ⟨r,hr,hrk⟩:∃ r,r<m∧D.bs r=k:=by
        rcases h.cov k (by omega) with h1 | ⟨f,hf,e⟩
        · exact h1
        · exact absurd e (g2 f hf)
      obtain ⟨e,g3,g4⟩:=Zjg (body:=fun s63 =>
          ifb (decide (s63<((vx m fun f=>(D.bs f:Int)).length:Int)))
          (bnd (idx (vx m fun f=>(D.bs f:Int)) s63) fun y64 =>
           ifb ((k:Int)==y64)
           (some (.inr (.inr s63)))
           (bnd (chk .i64 (s63+(1:Int))) fun y65 =>
            some (.inl y65)))
          (some (.inr (.inl ())))) m hm (fun f=>D.bs f=k) (fun f hf=>by
            rw [Zh,decide_eq_true (by omega),Ze,Zr _ hf,Za];by_cases e:D.bs f=k
            · exact .inl ⟨e,by rw [show ((k:Int)==(D.bs f:Int))=true by simp [e],Ze]⟩
            · exact .inr ⟨e,by rw [show ((k:Int)==(D.bs f:Int))=false by simp;omega,Zf,Zo (by omega) (by omega),Za];rfl⟩) (by rw [Zh,decide_eq_false (by omega),Zf])
      refine Zu g3 ?_;rcases g4 with ⟨_,g4⟩ | ⟨r',hr',rfl,g4⟩
      · exact absurd hrk (g4 r hr)
      · have zC:=hC k hk;have hcf:∀ f,f<n→cfv m D k f = - D.a r' f:=fun f hf=>by
          unfold cfv;rw [if_neg (g2 f hf),← g4,ZCa hr' fun j hj hne=>if_neg fun e=>hne (h.bi j r' hj hr' e),if_pos rfl];grind
        have hva:ZT m D k=D.b r':=by rw [← g4];exact Zcf h hr'
        refine Zu (Zr _ hr') ?_;refine Zu (Zjd zC (hb r' hr') (by omega) (by omega)) ?_;refine Zu (ZJh (vS k (by omega)) (Zwd zC (hb r' hr')) (by omega) (by omega)) ?_;refine Zu (ZWa _ hr') ?_;refine Zu (y:=vx n (Zbb m C D (k+1)).z) (Zra (fun f=>((f:Int),vx n fun f'=>if f'<f then (Zbb m C D (k+1)).z f' else (Zbb m C D k).z f')) n ?_ (by omega) (fun f hf=>?_) ?_) ?_
        · exact Prod.ext rfl (ZB fun f' _=>if_neg (by omega))
        · simp only;rw [Zh,decide_eq_true (by omega),Ze,Zr _ hf,Za,Zr _ hf,Za,if_neg (by omega)];rw [show (Zbb m C D k).a r' f=D.a r' f from rfl,Zjd zC (ha r' f hr' hf) (by omega) (by omega),Za,ZGg (zS k f (by omega) hf) (Zwd zC (ha r' f hr' hf)) (by omega) (by omega),Za,Za,Zo (by omega) (by omega),Za];simp only [Int.toNat_natCast];rw [ZPa];refine congrArg (fun x=>some (Sum.inl x)) (Prod.ext (by simp) (ZB fun f' hf'=>?_));by_cases e2:f'=f
          · rw [if_pos e2,if_pos (by omega),e2];show _=(Zbb m C D k).z f+C k*cfv m D k f;rw [hcf f hf];grind
          · rw [if_neg e2];by_cases e3:f'<f
            · rw [if_pos e3,if_pos (by omega)]
            · rw [if_neg e3,if_neg (by omega)]
        · simp only;rw [Zh,decide_eq_false (by omega),Zf];exact congrArg (fun x=>some (Sum.inr x)) (ZB fun f' hf'=>if_pos hf')
        refine congrArg some (Prod.ext rfl (Prod.ext rfl (Prod.ext rfl (Prod.ext ?_ rfl))));show (Zbb m C D k).v+C k*D.b r'=(Zbb m C D k).v+C k*ZT m D k;rw [hva]
    · rw [decide_eq_true (show (0:Int)≤(f:Int) by omega),Ze];have hcf:∀ f',f'<n→cfv m D k f'=if f'=f then 1 else 0:=fun f' hf'=>by
        unfold cfv;rw [Z8 (f:=fun i=>if D.bs i=k then D.a i f' else 0) fun i hi=>if_neg (by rw [← g2];exact h.d i f hi hf)];by_cases e:f'=f
        · rw [e,if_pos g2,if_pos rfl];grind
        · rw [if_neg fun e2=>e (h.fi f' f hf' hf (e2.trans g2.symm)),if_neg e];grind
      have hva:ZT m D k=0:=by rw [← g2];exact ZFd h hf
      refine Zu (Zr _ hf) ?_;refine Zu (ZJh (zS k f (by omega) hf) (hC k hk) (by omega) (by omega)) ?_;refine Zu (Zr _ hf) ?_;simp only [Int.toNat_natCast];refine congrArg some (Prod.ext rfl (Prod.ext rfl (Prod.ext ?_ (Prod.ext ?_ rfl))))
      · show (vx n (Zbb m C D k).z).set f ((Zbb m C D k).z f+C k)=vx n (Zbb m C D (k+1)).z;rw [ZPa];refine ZB fun f' hf'=>?_;show _=(Zbb m C D k).z f'+C k*cfv m D k f';rw [hcf f' hf'];by_cases e:f'=f
        · rw [if_pos e,if_pos e,e];grind
        · rw [if_neg e,if_neg e];grind
      · show (Zbb m C D k).v=(Zbb m C D k).v+C k*ZT m D k;rw [hva];grind
  · show ifb (decide ((n:Int)<((vx n C).length:Int))) _ _=_;rw [Zh,decide_eq_false (by omega),Zf]
end Go.Eng
namespace Go.Eng
open Tb
variable {m n:Nat} {A:Mx} {B C:Nat→Rat} {T:Tb}
theorem st1_cd {K:Nat} (h:(st0 n A B C).cd K m n):(st1 m n A B).cd K m (n+1):=by
 obtain ⟨D,h0,h1,h2⟩:=h;have z0:ovr D K 0:=⟨0,by rw [Rat.div_def];exact (Rat.zero_mul _).symm,Nat.two_pow_pos K⟩;have hD':(D:Rat)≠0:=fun e=>h0 (Rat.intCast_inj.1 (by rw [e];rfl));have n1:ovr D K (-1):=⟨-D,by rw [Rat.intCast_neg];grind,by rwa [Int.natAbs_neg]⟩;refine ⟨D,h0,h1,fun i k hi hk=>?_,h2.b,fun k hk=>?_,z0⟩
 ·show ovr D K (if k<n then A i k else -1);split
  ·rename_i hlt;exact h2.a i k hi hlt
  ·exact n1
 ·show ovr D K (if k<n then 0 else -1);split
  ·exact z0
  ·exact n1
theorem zz_sz {W n' N:Nat} (h:T.arr m n' N) (hz:∀ k,k<n'→sz W (T.z k)) (hW:1≤W) (u:Nat):sz W (zz n' T.z T.fr u):=by
 by_cases hx:∃ k,k<n'∧T.fr k=u
 ·obtain ⟨k,hk,rfl⟩:=hx;unfold zz;rw [ZCa hk fun j hj hne=>if_neg fun e=>hne (h.fi j k hj hk e),if_pos rfl];exact hz k hk
 ·unfold zz;rw [Z8 fun k hk=>if_neg fun e=>hx ⟨k,hk,e⟩];exact Zle.mono hW
theorem Zky {w:Nat} (hw:w<m) (hb:B w<0) (hl:∀ i,i<m→B i<0→B w≤B i):((st1 m n A B).piv w n).fea m:=by
 have ea:∀ i,(st1 m n A B).a i n = -1:=fun i=>if_neg (by omega);intro i hi;show 0≤if i=w then B w*(1 / (st1 m n A B).a w n) else B i-(st1 m n A B).a i n*(B w*(1 / (st1 m n A B).a w n));rw [ea,ea];have e1:B w*(1 / (-1:Rat)) = - B w:=by grind
 split
 ·rw [e1];grind
 ·rw [e1];by_cases h:B i<0
  ·have:=hl i hi h;grind
  ·grind
set_option maxRecDepth 100000 in
theorem ZSw {K R:Nat} (hr:m≤R∨n+1≤R) {P:(List (List Rat))×(List Rat)×(List Rat)} (hP:P=(mx m n A,vx m B,vx n C)) (c0:(st0 n A B C).cd K m n) (hK1:1≤K) (hm:m≤100) (hn:n≤100) (hN:n+m+1≤60) (hS:(n+1)*(K+kk K R+2)≤137438953472) :
    ∃ z,Zzk (tbl m n (st0 n A B C)) P=some z∧((∃ T4,z=(tbl m n T4,[],true)∧T4.arr m n (n+m)∧T4.eqv (st0 n A B C) m n∧T4.fea m) ∨ ∃ t y,z=(t,vx m y,false)∧Farkas m n A B y∧∀ i,i<m→sz (kk K R) (y i)):=by
  subst hP;have hKW:K+kk K R+2≤137438953472:=Nat.le_trans (Nat.le_mul_of_pos_left _ (by omega)) hS;have hWk:1≤kk K R:=Zlm hK1;have c1:(st1 m n A B).cd K m (n+1):=st1_cd c0;have s0:=c0.sz;have s1:=c1.sz;have e1:(n:Int)+(m:Int)=((n+m:Nat):Int):=by omega
  unfold Zzk;refine ZF (y:=((n+m:Nat):Int)) (by simp only [Zh];rw [e1,Zo (by omega) (by omega)]) ?_;obtain ⟨e,g1,g2⟩:=ZNx (m:=m) (B:=B) (K:=K) s0.b (by omega) (by omega);refine ZF g1 ?_;rcases g2 with ⟨rfl,g2⟩ | ⟨w,rfl,hw,hb,hl⟩
  · rw [show (decide ((-1:Int)<0))=true from rfl,Ze];exact ⟨_,rfl,.inl ⟨st0 n A B C,rfl,ZMm,eqv.refl,fun i hi=>Rat.not_lt.1 (g2 i hi)⟩⟩
  · rw [decide_eq_false (show ¬ (w:Int)<0 by omega),Zf];refine ZF (Z3t (A:=A) (B:=B) (by omega) (by omega)) ?_;refine ZF (y:=()) (Zfa (by show (vx n _++[_]).length*8≤_;rw [List.length_append,Zh,List.length_singleton];omega)) ?_;refine ZF (Zic 0) ?_;refine ZF (y:=vx n fun _=>(0:Rat)) (by simp only [Zh];exact ZMh (by omega)) ?_;refine ZF (Zic (-1)) ?_;have ez:(vx n fun _=>(0:Rat))++[((-1:Int):Rat)]=vx (n+1) (st1 m n A B).z:=by
      rw [← Zvb];refine congr (congrArg _ (ZB fun k hk=>?_)) (congrArg (fun x=>[x]) ?_)
      · show (0:Rat)=if k<n then 0 else -1;rw [if_pos hk]
      · show _=if n<n then (0:Rat) else -1;rw [if_neg (by omega)];rfl
    have ef:(vx n fun k=>(k:Int))++[((n+m:Nat):Int)]=vx (n+1) fun k=>((st1 m n A B).fr k:Int):=by
      rw [← Zvb];refine congr (congrArg _ (ZB fun k hk=>?_)) (congrArg (fun x=>[x]) ?_)
      · show (k:Int)=((if k<n then k else n+m:Nat):Int);rw [if_pos hk]
      · show _=((if n<n then n else n+m:Nat):Int);rw [if_neg (by omega)]
    rw [ez];refine ZF (y:=()) (Zfa (by rw [Zh];omega)) ?_;have et:(mx m (n+1) (st1 m n A B).a,(tbl m n (st0 n A B C)).2.1,vx (n+1) (st1 m n A B).z,(tbl m n (st0 n A B C)).2.2.2.1,(tbl m n (st0 n A B C)).2.2.2.2.1,(tbl m n (st0 n A B C)).2.2.2.2.2++[((n+m:Nat):Int)])=tbl m (n+1) (st1 m n A B):=Prod.ext rfl (Prod.ext rfl (Prod.ext rfl (Prod.ext rfl (Prod.ext rfl ef))));rw [et];have ne:(st1 m n A B).a w n≠0:=by
      show (if n<n then A w n else (-1:Rat))≠0;rw [if_neg (by omega)];decide
    refine ZF (y:=(tbl m (n+1) ((st1 m n A B).piv w n),())) (by simp only [Zh];exact ZFk hw (by omega) ne s1 (by omega) (by omega) (by omega) hK1) ?_;have hE1:((st1 m n A B).piv w n).eqv (st1 m n A B) m (n+1):=Z1i hw (by omega) ne;have hA1:((st1 m n A B).piv w n).arr m (n+1) (n+m+1):=ZUi.piv hw (by omega);obtain ⟨z,r1,T2,e,rfl,hA2,hE2,hF2,hend⟩:=ZJo hr (last:=((n+m:Nat):Int)) (lst:=n+m) ZUi c1 hE1 hA1 (Zky hw hb hl) hN (by omega) (by omega) (by omega) hK1 (fun u _=>by omega) (fun T' a1 a2 ⟨c,a3⟩ j hj e=>p1_end a1 a2 hj e c a3.lt a3.pos);refine ZF r1 ?_;have hz2:∀ k,k<n+1→¬ 0<T2.z k:=by
      rcases hend with ⟨_,h⟩ | ⟨c,_,h1,h2⟩
      · exact h
      · exact (ZTx hA2 hE2 hF2 h1 h2).elim
    have s2:=(ZRj hr ZUi c1 hA2 hE2).sz;refine ZF (y:=T2.v.num.sign) rfl ?_;by_cases hv:T2.v<0
    · rw [decide_eq_true ((Z2e _).2 hv),Ze];refine ZF (y:=(tbl m (n+1) T2,vx m (ZZ n T2 (n+1)))) (by simp only [Zh];exact ZYt hA2 (by omega) (by omega) (by omega) (by omega)) ?_;exact ⟨_,rfl,.inr ⟨_,_,rfl,Zgu hA2 hE2 hz2 hv,fun i hi=>Zyd (zz_sz hA2 s2.z hWk _)⟩⟩
    · rw [decide_eq_false (fun h=>hv ((Z2e _).1 h)),Zf];have hv0:ZT m T2 (n+m)=0:=by
        have h1:=p1_v hA2 hE2;have h2:=ZHk (m:=m) hF2 (n+m);grind
      obtain ⟨e3,g3,g4⟩:=Zjg (body:=fun s63 =>
          ifb (decide (s63<((vx m fun f=>(T2.bs f:Int)).length:Int)))
          (bnd (idx (vx m fun f=>(T2.bs f:Int)) s63) fun y64 =>
           ifb (((n+m:Nat):Int)==y64)
           (some (.inr (.inr s63)))
           (bnd (chk .i64 (s63+(1:Int))) fun y65 =>
            some (.inl y65)))
          (some (.inr (.inl ())))) m (by omega) (fun f=>T2.bs f=n+m) (fun f hf=>by
            rw [Zh,decide_eq_true (by omega),Ze,Zr _ hf,Za];by_cases e:T2.bs f=n+m
            · exact .inl ⟨e,by rw [show (((n+m:Nat):Int)==(T2.bs f:Int))=true by rw [beq_iff_eq];omega,Ze]⟩
            · exact .inr ⟨e,by rw [show (((n+m:Nat):Int)==(T2.bs f:Int))=false by rw [beq_eq_false_iff_ne];omega,Zf,Zo (by omega) (by omega),Za];rfl⟩) (by rw [Zh,decide_eq_false (by omega),Zf])
      refine ZF g3 ?_;refine Zeq (Q:=fun t=>∃ T3:Tb,t=tbl m (n+1) T3∧T3.arr m (n+1) (n+m+1)∧T3.eqv (st1 m n A B) m (n+1)∧T3.fea m∧∀ i,i<m→T3.bs i≠n+m) ?_ (fun t ht=>?_)
      · rcases g4 with ⟨rfl,g4⟩ | ⟨r,hr,rfl,g4⟩
        · rw [show (decide ((0:Int)≤-1))=false from rfl,Zf];exact ⟨_,rfl,T2,rfl,hA2,hE2,hF2,g4⟩
        · rw [decide_eq_true (show (0:Int)≤(r:Int) by omega),Ze];refine ZF (ZWa _ hr) ?_;obtain ⟨e5,g5,g6⟩:=Zjg (body:=fun s32 =>
        ifb (decide (s32<((vx (n+1) (T2.a r)).length:Int)))
        (bnd (idx (vx (n+1) (T2.a r)) s32) fun y33 =>
         bnd (Z5b y33) fun y34 =>
         ifb (!y34)
         (some (.inr (.inr s32)))
         (bnd (chk .i64 (s32+(1:Int))) fun y35 =>
          some (.inl y35)))
        (some (.inr (.inl ())))) (n+1) (by omega) (fun k=>T2.a r k≠0) (fun k hk=>by
            rw [Zh,decide_eq_true (by omega),Ze,Zr _ hk,Za];unfold Z5b;rw [Za];by_cases e:T2.a r k=0
            · exact .inr ⟨fun h=>h e,by rw [decide_eq_true e];show ifb false _ _=_;rw [Zf,Zo (by omega) (by omega),Za];rfl⟩
            · exact .inl ⟨e,by rw [decide_eq_false e];show ifb true _ _=_;rw [Ze]⟩) (by rw [Zh,decide_eq_false (by omega),Zf])
          refine ZF g5 ?_;rcases g6 with ⟨_,g6⟩ | ⟨k,hk,rfl,g6⟩
          · obtain ⟨k,hk,h⟩:=p1_row hA2 hE2 hr g4;exact absurd h (g6 k hk)
          · refine ZF (ZFk hr hk g6 s2 (by omega) (by omega) (by omega) hWk) ?_;have hbr:T2.b r=0:=by rw [← Zcf hA2 hr,g4];exact hv0
            refine ⟨_,rfl,T2.piv r k,rfl,hA2.piv hr hk,(Z1i hr hk g6).trans hE2,fun i hi=>?_,fun i hi=>?_⟩
            · show 0≤if i=r then T2.b r*(1 / T2.a r k) else T2.b i-T2.a i k*(T2.b r*(1 / T2.a r k));rw [hbr];have:=hF2 i hi;split <;> grind
            · rw [ZXc];split
              · rw [← g4];exact fun e=>hA2.d r k hr hk e.symm
              · rename_i hne;exact fun e=>hne (hA2.bi i r hi hr (e.trans g4.symm))
      · obtain ⟨T3,rfl,hA3,hE3,hF3,hnb⟩:=ht;obtain ⟨e7,g7,g8⟩:=Zjg (body:=fun s63 =>
          ifb (decide (s63<((vx (n+1) fun f=>(T3.fr f:Int)).length:Int)))
          (bnd (idx (vx (n+1) fun f=>(T3.fr f:Int)) s63) fun y64 =>
           ifb (((n+m:Nat):Int)==y64)
           (some (.inr (.inr s63)))
           (bnd (chk .i64 (s63+(1:Int))) fun y65 =>
            some (.inl y65)))
          (some (.inr (.inl ())))) (n+1) (by omega) (fun f=>T3.fr f=n+m) (fun f hf=>by
            rw [Zh,decide_eq_true (by omega),Ze,Zr _ hf,Za];by_cases e:T3.fr f=n+m
            · exact .inl ⟨e,by rw [show (((n+m:Nat):Int)==(T3.fr f:Int))=true by rw [beq_iff_eq];omega,Ze]⟩
            · exact .inr ⟨e,by rw [show (((n+m:Nat):Int)==(T3.fr f:Int))=false by rw [beq_eq_false_iff_ne];omega,Zf,Zo (by omega) (by omega),Za];rfl⟩) (by rw [Zh,decide_eq_false (by omega),Zf])
        refine ZF g7 ?_;rcases g8 with ⟨_,g8⟩ | ⟨c,hc,rfl,g8⟩
        · rcases hA3.cov (n+m) (by omega) with ⟨i,hi,e⟩ | ⟨k,hk,e⟩
          · exact absurd e (hnb i hi)
          · exact absurd e (g8 k hk)
        · refine ZF (y:=((c+1:Nat):Int)) (Zo (by omega) (by omega)) ?_;refine ZF (ZAo _ hc) ?_;refine ZF (Z5x (by omega) (by omega) hc) ?_;refine ZF (Zic 0) ?_;refine ZF (y:=vx n fun _=>(0:Rat)) (by rw [Zh];exact ZMh (by omega)) ?_;refine ZF (Zic 0) ?_;have s3:=(ZRj hr ZUi c1 hA3 hE3).sz;have hA4:=Z1o (C:=C) hA3 hc g8;have hE4:=Zhv (C:=C) hA3 hE3 hc g8;refine ZF (objs_ok (D:={ a:=fun i k=>T3.a i (sk c k),b:=T3.b,z:=fun _=>0,v:=0,bs:=T3.bs,fr:=fun k=>T3.fr (sk c k) }) (C:=C) (K:=K) (W:=kk K R) ⟨hA4.bl,hA4.fl,hA4.bi,hA4.fi,hA4.d,hA4.cov⟩ (fun i k hi hk=>s3.a i _ hi (Z7e hk)) s3.b s0.z hWk hK1 (by omega) (by omega) hS) ?_;exact ⟨_,rfl,.inl ⟨drop m n C T3 c,rfl,hA4,hE4,hF3⟩⟩
noncomputable def ZLh (m:List (List Rat)):Option (List (List Rat)) :=
 bnd (mk 24 (m.length:Int) (m.length:Int)) fun _ =>
 bnd (Zg (σ:=Int×(List (List Rat))) (ρ:=List (List Rat)) (fun a =>
 ifb (decide (a.1<(m.length:Int)))
 (bnd (idx m a.1) fun b =>
 bnd (Zcb 56 b) fun c =>
 bnd (idx a.2 a.1) fun f =>
 bnd (chk .i64 (a.1+(1:Int))) fun d =>
 some (.inl (d,a.2.set a.1.toNat c)))
 (some (.inr a.2)))
  Zi ((0:Int),List.replicate (m.length:Int).toNat ([]:List Rat))) fun e =>
 some e
noncomputable def Zff (p:(List (List Rat))×(List Rat)×(List Rat)):Option (Int×Rat×(List Rat)×(List Rat)×(List Rat)) :=
 bnd (ZLh p.1) fun n =>
 bnd (Zcb 56 p.2.1) fun o =>
 bnd (Zcb 56 p.2.2) fun q =>
 bnd (ZDa (0:Int)) fun r =>
 bnd (Zg (σ:=Int×((List (List Rat))×(List Rat)×(List Rat)×Rat×(List Int)×(List Int))) (ρ:=(List (List Rat))×(List Rat)×(List Rat)×Rat×(List Int)×(List Int)) (fun a =>
 ifb (decide (a.1<(p.2.2.length:Int)))
 (bnd (ZA 8 (a.2.2.2.2.2.2++[a.1])) fun _ =>
 bnd (chk .i64 (a.1+(1:Int))) fun s =>
 some (.inl (s,a.2.1,a.2.2.1,a.2.2.2.1,a.2.2.2.2.1,a.2.2.2.2.2.1,a.2.2.2.2.2.2++[a.1])))
 (some (.inr (a.2.1,a.2.2.1,a.2.2.2.1,a.2.2.2.2.1,a.2.2.2.2.2.1,a.2.2.2.2.2.2))))
  Zi ((0:Int),n,o,q,r,([]:List Int),([]:List Int))) fun g =>
 bnd (Zg (σ:=Int×((List (List Rat))×(List Rat)×(List Rat)×Rat×(List Int)×(List Int))) (ρ:=(List (List Rat))×(List Rat)×(List Rat)×Rat×(List Int)×(List Int)) (fun b =>
 ifb (decide (b.1<(p.2.1.length:Int)))
 (bnd (chk .i64 ((p.2.2.length:Int)+b.1)) fun l =>
 bnd (ZA 8 (b.2.2.2.2.2.1++[l])) fun _ =>
 bnd (chk .i64 (b.1+(1:Int))) fun t =>
 some (.inl (t,b.2.1,b.2.2.1,b.2.2.2.1,b.2.2.2.2.1,b.2.2.2.2.2.1++[l],b.2.2.2.2.2.2)))
 (some (.inr (b.2.1,b.2.2.1,b.2.2.2.1,b.2.2.2.2.1,b.2.2.2.2.2.1,b.2.2.2.2.2.2))))
  Zi ((0:Int),g.1,g.2.1,g.2.2.1,g.2.2.2.1,g.2.2.2.2.1,g.2.2.2.2.2)) fun h =>
 bnd (ZDa (0:Int)) fun m =>
 bnd (Zzk (h.1,h.2.1,h.2.2.1,h.2.2.2.1,h.2.2.2.2.1,h.2.2.2.2.2) p) fun d =>
 ifb (!d.2.2)
 (some ((2:Int),m,([]:List Rat),d.2.1,([]:List Rat)))
 (bnd (α:=((List (List Rat))×(List Rat)×(List Rat)×Rat×(List Int)×(List Int))×Int)
 (bnd (ZQh (d.1.1,d.1.2.1,d.1.2.2.1,d.1.2.2.2.1,d.1.2.2.2.2.1,d.1.2.2.2.2.2) (-1:Int)) fun f =>
 some ((f.1.1,f.1.2.1,f.1.2.2.1,f.1.2.2.2.1,f.1.2.2.2.2.1,f.1.2.2.2.2.2),f.2)) fun c =>
 ifb (decide (c.2<(0:Int)))
 (bnd (Zoi c.1 (p.2.2.length:Int)) fun u =>
 bnd (Zdj c.1 (p.2.2.length:Int) (p.2.1.length:Int)) fun v =>
 some ((1:Int),c.1.2.2.2.1,u,v,([]:List Rat)))
 (bnd (ZDa (0:Int)) fun w =>
 bnd (Zvc 56 [w] (p.2.2.length:Int)) fun i =>
 bnd (idx c.1.2.2.2.2.2 c.2) fun j =>
 bnd (α:=List Rat)
 (ifb (decide (j<(p.2.2.length:Int)))
 (bnd (ZDa (1:Int)) fun x =>
 bnd (idx i j) fun G =>
 some (i.set j.toNat x))
 (some i)) fun y =>
 bnd (Zg (σ:=Int×(List Rat)) (ρ:=List Rat) (fun e =>
 ifb (decide (e.1<(c.1.2.2.2.2.1.length:Int)))
 (bnd (idx c.1.2.2.2.2.1 e.1) fun k =>
 bnd (α:=List Rat)
 (ifb (decide (k<(p.2.2.length:Int)))
 (bnd (idx c.1.1 e.1) fun z =>
 bnd (idx z c.2) fun A =>
 bnd (ZFa A) fun B =>
 bnd (idx e.2 k) fun H =>
 some (e.2.set k.toNat B))
 (some e.2)) fun C =>
 bnd (chk .i64 (e.1+(1:Int))) fun D =>
 some (.inl (D,C)))
 (some (.inr e.2)))
    Zi ((0:Int),y)) fun E =>
 bnd (Zoi c.1 (p.2.2.length:Int)) fun F =>
 some ((3:Int),m,F,([]:List Rat),E)))
end Go.Eng
namespace Go.Eng
open Tb
variable {m n:Nat} {A:Mx} {B C:Nat→Rat} {T:Tb}
theorem Ziq (hm:m≤1000) (hn:n≤1000):ZLh (mx m n A)=some (mx m n A):=by
 unfold ZLh;refine Zu (y:=()) (by rw [Z1a];exact mk_ok (by omega) (by omega)) ?_;exact Zu (copy_ok A hm hn) rfl
def ZXd (m n W:Nat) (A:Mx) (B C:Nat→Rat) (z:Int×Rat×(List Rat)×(List Rat)×(List Rat)):Prop :=
 (∃ y,z=(2,0,[],vx m y,[])∧Farkas m n A B y∧∀ i,i<m→sz W (y i)) ∨
 (∃ x y v,z=(1,v,vx n x,vx m y,[])∧Feas m n A B x∧v=sm n (fun k=>C k*x k)∧Dual m n A B C y∧v=sm m (fun i=>B i*y i)∧(∀ k,k<n→sz W (x k))∧(∀ i,i<m→sz W (y i))∧sz W v) ∨
 ∃ x d,z=(3,0,vx n x,[],vx n d)∧Feas m n A B x∧IsRay m n A C d∧(∀ k,k<n→sz W (x k))∧(∀ k,k<n→sz W (d k))
theorem valu_sz {W n' N:Nat} (h:T.arr m n' N) (hb:∀ i,i<m→sz W (T.b i)) (hW:1≤W) {u:Nat} (hu:u<N):sz W (ZT m T u):=by
 rcases h.cov u hu with ⟨i,hi,rfl⟩ | ⟨q,hq,rfl⟩
 ·rw [Zcf h hi];exact hb i hi
 ·rw [ZFd h hq];exact Zle.mono hW
theorem dir_sz {W n' N c:Nat} (h:T.arr m n' N) (hc:c<n') (ha:∀ i,i<m→sz W (T.a i c)) (hW:1≤W) {u:Nat} (hu:u<N):sz W (dir m T c u):=by
 rcases h.cov u hu with ⟨i,hi,rfl⟩ | ⟨q,hq,rfl⟩
 ·rw [ZHp h hc hi];exact Zyd (ha i hi)
 ·rw [ZTg h hc hq];split
  ·exact Zlg.mono hW
  ·exact Zle.mono hW
set_option maxRecDepth 100000 in
theorem Zru {K R:Nat} (hr:m≤R∨n+1≤R) (c0:(st0 n A B C).cd K m n) (hK1:1≤K) (hm:m≤100) (hn:n≤100) (hN:n+m+1≤60) (hS:(n+1)*(K+kk K R+2)≤137438953472):∃ z,Zff (mx m n A,vx m B,vx n C)=some z∧ZXd m n (kk K R) A B C z:=by
 have hKW:K+kk K R+2≤137438953472:=Nat.le_trans (Nat.le_mul_of_pos_left _ (by omega)) hS;have hWk:1≤kk K R:=Zlm hK1;have hr2:m≤R∨n≤R:=by omega
 have hW1:=hWk;have hWle:=Nat.le_refl (kk K R);unfold Zff;refine ZF (Ziq (by omega) (by omega)) ?_;refine ZF (y:=vx m B) (ZZc (by rw [Zh];omega)) ?_;refine ZF (y:=vx n C) (ZZc (by rw [Zh];omega)) ?_;refine ZF (Zic 0) ?_;refine ZF (y:=(mx m n A,vx m B,vx n C,((0:Int):Rat),[],vx n fun k=>(k:Int))) (Zra (fun k=>((k:Int),mx m n A,vx m B,vx n C,((0:Int):Rat),[],vx k fun k=>(k:Int))) n rfl (by omega) (fun k hk=>?_) ?_) ?_
 ·show ifb (decide ((k:Int)<((vx n C).length:Int))) _ _=_;rw [Zh,decide_eq_true (by omega),Ze];have e:(vx k fun k=>(k:Int))++[(k:Int)]=vx (k+1) fun k=>(k:Int):=Zvb k _;show bnd (ZA 8 ((vx k fun k=>(k:Int))++[(k:Int)])) _=_;rw [Zfa (by rw [e,Zh];omega),Za,Zo (by omega) (by omega),Za];exact congrArg (fun x=>some (Sum.inl ((_:Int),_,_,_,_,_,x))) e
 ·show ifb (decide ((n:Int)<((vx n C).length:Int))) _ _=_;rw [Zh,decide_eq_false (by omega),Zf]
 refine ZF (y:=tbl m n (st0 n A B C)) (Zra (fun i=>((i:Int),mx m n A,vx m B,vx n C,((0:Int):Rat),(vx i fun i=>((n+i:Nat):Int)),vx n fun k=>(k:Int))) m rfl (by omega) (fun i hi=>?_) ?_) ?_
 ·show ifb (decide ((i:Int)<((vx m B).length:Int))) _ _=_;rw [Zh,decide_eq_true (by omega),Ze];have e:(vx i fun i=>((n+i:Nat):Int))++[((n+i:Nat):Int)]=vx (i+1) fun i=>((n+i:Nat):Int):=Zvb i _;simp only [Zh];rw [show (n:Int)+(i:Int)=((n+i:Nat):Int) by omega,Zo (by omega) (by omega),Za,Zfa (by rw [e,Zh];omega),Za,Zo (by omega) (by omega),Za];exact congrArg (fun x=>some (Sum.inl ((_:Int),_,_,_,_,x,_))) e
 ·show ifb (decide ((m:Int)<((vx m B).length:Int))) _ _=_;rw [Zh,decide_eq_false (by omega),Zf];rfl
 refine ZF (Zic 0) ?_;obtain ⟨z,g1,g2⟩:=ZSw hr (C:=C) (P:=(mx m n A,vx m B,vx n C)) rfl c0 hK1 hm hn hN hS;refine ZF g1 ?_;rcases g2 with ⟨T4,rfl,hA4,hE4,hF4⟩ | ⟨t,y,rfl,hy,hys⟩
 ·show ∃ z,ifb false _ _=some z∧_;rw [Zf];obtain ⟨z,r1,T5,e,rfl,hA5,hE5,hF5,hend⟩:=ZJo hr2 (last:=(-1:Int)) (lst:=n+m) (ZMm (A:=A) (B:=B) (C:=C)) c0 hE4 hA4 hF4 (by omega) (by omega) (by omega) (by omega) hK1 (fun u _=>by omega) (fun T' a1 a2 _ j hj e=>by have:=a1.fl j hj;omega);refine ZF (y:=(tbl m n T5,e)) (Zu r1 rfl) ?_;have s5:=(ZRj hr2 ZMm c0 hA5 hE5).sz;obtain ⟨hfe,hvx⟩:=feas_of hA5 hE5 hF5;have hxs:∀ k,k<n→sz (kk K R) (ZT m T5 k):=fun k hk=>(valu_sz hA5 s5.b hW1 (by omega)).mono hWle;rcases hend with ⟨rfl,hz⟩ | ⟨c,rfl,hc,hu⟩
  ·rw [show (decide ((-1:Int)<0))=true from rfl,Ze];refine ZF (y:=vx n (ZT m T5)) (by simp only [Zh];exact ZHs hA5 (by omega) (by omega)) ?_;refine ZF (y:=vx m (ZZ n T5 n)) (by simp only [Zh];exact Ztx hA5 (by omega) (by omega) (by omega) (by omega)) ?_;obtain ⟨hd,hvy⟩:=dual_of hA5 hE5 hz;exact ⟨_,rfl,.inr (.inl ⟨_,_,T5.v,rfl,hfe,hvx,hd,hvy,hxs,fun i hi=>(Zyd (zz_sz hA5 s5.z hW1 _)).mono hWle,s5.v.mono hWle⟩)⟩
  ·rw [decide_eq_false (show ¬ (c:Int)<0 by omega),Zf];refine ZF (Zic 0) ?_;refine ZF (y:=vx n fun _=>(0:Rat)) (by simp only [Zh];exact ZMh (by omega)) ?_;refine ZF (Zr _ hc.lt) ?_
   let dk:Nat→Nat→Rat:=fun i u=>if T5.fr c=u then 1 else-sm i fun i=>if T5.bs i=u then T5.a i c else 0
   refine ZF (y:=vx n (dk 0)) ?_ ?_
   ·by_cases hcn:T5.fr c<n
    ·simp only [Zh];rw [decide_eq_true (by omega),Ze,Zic,Za,Zr _ hcn,Za];simp only [Int.toNat_natCast];rw [ZPa];refine congrArg some (ZB fun u hu=>?_);show _=if T5.fr c=u then (1:Rat) else -0;by_cases e:u=T5.fr c
     ·rw [if_pos e,if_pos e.symm];rfl
     ·rw [if_neg e,if_neg fun e2=>e e2.symm];rfl
    ·simp only [Zh];rw [decide_eq_false (by omega),Zf];refine congrArg some (ZB fun u hu=>?_);show _=if T5.fr c=u then (1:Rat) else -0;rw [if_neg (by omega)];rfl
   ·refine ZF (y:=vx n (dir m T5 c)) (Zra (fun i=>((i:Int),vx n (dk i))) m rfl (by omega) (fun i hi=>?_) ?_) ?_
    ·show ifb (decide ((i:Int)<((vx m fun i=>(T5.bs i:Int)).length:Int))) (bnd (idx (vx m fun i=>(T5.bs i:Int)) (i:Int)) _) _=_;rw [Zh,decide_eq_true (by omega),Ze,Zr _ hi,Za];refine Zu (y:=vx n (dk (i+1))) ?_ (by rw [Zo (by omega) (by omega),Za];rfl);have hne:T5.fr c≠T5.bs i:=fun e=>hA5.d i c hi hc.lt e.symm;have step:∀ u,dk (i+1) u=if T5.bs i=u then-T5.a i c else dk i u:=fun u=>by
      show (if T5.fr c=u then (1:Rat) else-(sm i (fun i=>if T5.bs i=u then T5.a i c else 0)+if T5.bs i=u then T5.a i c else 0))=_;by_cases e:T5.bs i=u
      ·rw [if_pos e,if_pos e,if_neg (by rw [← e];exact hne),Z8 fun j hj=>if_neg fun e2=>by have:=hA5.bi j i (by omega) hi (e2.trans e.symm);omega];grind
      ·rw [if_neg e,if_neg e];show _=if T5.fr c=u then (1:Rat) else-sm i fun i=>if T5.bs i=u then T5.a i c else 0;rw [Rat.add_zero]
     by_cases hb:T5.bs i<n
     ·simp only [Zh];rw [decide_eq_true (by omega),Ze];show bnd (idx (mx m n T5.a) (i:Int)) _=_;rw [ZWa _ hi,Za,Zr _ hc.lt,Za];unfold ZFa;rw [Za,Zr _ hb,Za];simp only [Int.toNat_natCast];rw [ZPa];refine congrArg some (ZB fun u hu=>?_);rw [step u];by_cases e:u=T5.bs i
      ·rw [if_pos e,if_pos e.symm]
      ·rw [if_neg e,if_neg fun e2=>e e2.symm]
     ·simp only [Zh];rw [decide_eq_false (by omega),Zf];refine congrArg some (ZB fun u hu=>?_);rw [step u,if_neg (by omega)]
    ·show ifb (decide ((m:Int)<((vx m fun i=>(T5.bs i:Int)).length:Int))) _ _=_;rw [Zh,decide_eq_false (by omega),Zf];rfl
    refine ZF (y:=vx n (ZT m T5)) (by simp only [Zh];exact ZHs hA5 (by omega) (by omega)) ?_;exact ⟨_,rfl,.inr (.inr ⟨_,_,rfl,hfe,ray_of hA5 hE5 hc hu,hxs,fun k hk=>(dir_sz hA5 hc.lt (fun i hi=>s5.a i c hi hc.lt) hW1 (by omega)).mono hWle⟩)⟩
 ·show ∃ z,ifb true _ _=some z∧_;rw [Ze];exact ⟨_,rfl,.inl ⟨y,rfl,hy,hys⟩⟩
end Go.Eng
