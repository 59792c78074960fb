/- Lemmas towards the statement: the engine of the walks, the functions' models, laws and walks, part 4. Conditions: as each states. -/
import Derived.Laws.CopyRow
import Derived.Laws.IdiomStrings
import Derived.Lib.AppendZerosOnto
import Derived.Lib.Overlaps
import Derived.Scope
import Derived.Test.YtnmoidpfdhalbaaGreatRoC
set_option linter.all false
set_option maxRecDepth 100000
namespace Go.Eng
open Go.RowKit
theorem St.bare {K:Nat} {w0:Base} {v0:Zb} {σ:List (Nat×Value)} {ℓ:List Loc} {v:Zb} {a:Act} {w:World} (h:St K w0 v0 σ ℓ v a w):St K w0 v0 [] ℓ v a w:=h.frame Ziu
theorem Zuj {v:Zb} {γ:Nat→Gh} {l:Lo} {x:V} {cs:List Value} (h:RR v γ l false x cs) (hf:x.fit=true):ZSd (x.val cs) cs∧cs.all plain=true:=by
 unfold V.fit at hf;have hp:x.plain=true:=by
  cases hp:x.plain
  ·rw [hp] at hf;cases hf
  ·rfl
 have hpl:=Zas hp h;refine ⟨?_,hpl⟩;rw [hp] at hf;unfold V.val
 cases ha:x.isAgg with
 | true=>exact ZIr cs
 | false =>
  rw [ha] at hf;have hs:=Nat.eq_of_beq_eq_true hf;have e:=Z9f h hs ha;have hv:x.val cs=cs.headD undef:=by unfold V.val;rw [ha]
  rw [hv] at e;rw [e] at hpl;have hpl':plain (cs.headD undef)=true:=by simpa using hpl
  have:=Zib hpl';show ZSd (cs.headD undef) cs
  conv=>arg 2;rw [e]
  exact this
theorem Z3m {x:V} (hf:x.fit=true):∀ c,x ≠ .tup c:=fun c e=>by subst e;cases hf
section
variable {P:Program} {N:Nat} {G:V→Value→Prop} {w0:Base} {v0:Zb} {U X:Nat→Prop} {f:Fr} {l:Lo} {a:Act} {w:World} {γ:Nat→Gh} {v:Zb} {ℓ:List Loc} {n:Nat}
variable {ty:TypeId} {pos:String} {aft:Array Edge} {g:Option (Nat×Bool)}
theorem Zzf {o:Oper} {l':Lo} {w':World} {γ':Nat→Gh} {v':Zb} {ℓ':List Loc} {Post:Unit→Fr→Lo→Prop} (hr:RelX N G w0 v0 U X f l' a w' γ' v' ℓ') (hU:∀ k,U k→X k) (ho:o.dst=none) (hrun:(execOp a.eval o).run P w = .ok .skip w') (h:Post () f l'):Zya P N G w0 v0 X o a w Post:=by
 refine ZRl hrun ?_;rw [ho];exact ⟨_,_,h,_,_,_,hr.mono hU fun _ h=>h⟩
theorem all_upd {cs0 cs:List Value} {off:Nat} (h0:cs0.all plain=true) (h1:cs.all plain=true):(cs0.take off++cs++cs0.drop (off+cs.length)).all plain=true:=by
 have h0':=List.all_eq_true.1 h0;refine List.all_eq_true.2 fun x hx=>?_;rcases List.mem_append.1 hx with hx | hx
 ·rcases List.mem_append.1 hx with hx | hx
  ·exact h0' x (List.mem_of_mem_take hx)
  ·exact List.all_eq_true.1 h1 x hx
 ·exact h0' x (List.mem_of_mem_drop hx)
theorem ZQm {t:T} {x:t.den} {z x':V} {off:Nat} {cs cz:List Value} (hg:ZPa FU (.data t x) off z=some x') (hx:t.rep.rel v cs x) (hz:RR v γ l false z cz) (hkz:z.ok U) :
  RR v γ l false x' (cs.take off++cz++cs.drop (off+cz.length))∧x'.ok U∧off+cz.length≤t.n:=by
 obtain ⟨h1,h2,h3,_⟩:=Zwe FU hg (γ:=γ) (l:=l) (x:=.data t x) hx hz trivial hkz;refine ⟨h1,h2,?_⟩;have:=Rep.len _ hx;rw [ZN] at this;omega
theorem ZGn {t:T}:∀ {rows:List (Option Nat×Nat)} {m:List (List t.den)} {es:List Loc} {i:Nat} {p:Option Nat×Nat} {r:List t.den},Zqa v ty t rows m es→rows[i]? = some p→m[i]? = some r →
  ∃ cs e1 e2,es=e1 ++ .own p.1 ty t.n r.length p.2 cs :: e2∧t.rep.rels v cs r∧∀ (r':List t.den) (cs':List Value),r'.length=r.length→t.rep.rels v cs' r'→Zs rows (m.set i r')=Zs rows m∧Zqa v ty t rows (m.set i r') (e1 ++ .own p.1 ty t.n r.length p.2 cs' :: e2)
 | [],[],_,_,_,_,_,h,_=>by simp at h
 | q :: ps,r0 :: rs,es,0,p,r,⟨cs,es',h1,h2,h3⟩,hp,hr=>by
  simp at hp hr
  subst hp hr
  refine ⟨cs,[],es',by simpa using h2,h1,fun r' cs' hl hc=>⟨by simp [Zs,hl],?_⟩⟩
  exact ⟨cs',es',hc,by rw [← hl];rfl,h3⟩
 | q :: ps,r0 :: rs,es,i+1,p,r,⟨cs,es',h1,h2,h3⟩,hp,hr=>by
  simp only [List.getElem?_cons_succ] at hp hr
  obtain ⟨c2,e1,e2,k2,k3,k4⟩:=ZGn h3 hp hr
  subst k2
  refine ⟨c2,.own q.1 ty t.n r0.length q.2 cs :: e1,e2,by simpa using h2,k3,fun r' cs' hl hc=>?_⟩
  obtain ⟨k5,k6⟩:=k4 r' cs' hl hc
  exact ⟨by simp only [List.set_cons_succ,Zs,k5],cs,_,h1,rfl,k6⟩
 | [],_ :: _,_,_,_,_,k,_,_=>k.elim
 | _ :: _,[],_,_,_,_,k,_,_=>k.elim
theorem Zsn {t:T} {p:Option Nat×Nat} {r':List t.den} {cs':List Value}:∀ {rows:List (Option Nat×Nat)} {m:List (List t.den)} {es:List Loc} {i:Nat} {p0:Option Nat×Nat},Zqa v ty t rows m es→rows[i]? = some p0→t.rep.rels v cs' r' →
  (Zs rows m).take i++[Value.slice (mkA p.1) r'.length p.2]++(Zs rows m).drop (i+1)=Zs (rows.set i p) (m.set i r')∧∃ e1 e2 c,es=e1++c :: e2∧Zqa v ty t (rows.set i p) (m.set i r') (e1 ++ .own p.1 ty t.n r'.length p.2 cs' :: e2)
 | [],[],_,_,_,_,h,_=>by simp at h
 | q :: ps,r0 :: rs,es,0,p0,⟨cs,es',h1,h2,h3⟩,hp,hc=>by
  refine ⟨by simp [Zs],[],es',_,by simpa using h2,?_⟩
  exact ⟨cs',es',hc,rfl,h3⟩
 | q :: ps,r0 :: rs,es,i+1,p0,⟨cs,es',h1,h2,h3⟩,hp,hc=>by
  simp only [List.getElem?_cons_succ] at hp
  obtain ⟨k1,e1,e2,c,k2,k3⟩:=Zsn (p:=p) h3 hp hc
  subst k2
  refine ⟨by simp only [List.set_cons_succ,Zs,List.take_succ_cons,List.drop_succ_cons,List.cons_append,k1],.own q.1 ty t.n r0.length q.2 cs :: e1,e2,c,by simpa using h2,?_⟩
  exact ⟨cs,_,h1,rfl,k3⟩
 | [],_ :: _,_,_,_,k,_,_=>k.elim
 | _ :: _,[],_,_,_,k,_,_=>k.elim
theorem ZZu {α:Type} {m:List (List α)} {i:Nat} {r r':List α} (hr:m[i]? = some r) (hl:r'.length=r.length):(m.set i r').map List.length=m.map List.length:=by
 apply List.ext_getElem?;intro j;simp only [List.getElem?_map];by_cases h:i=j
 ·subst h;have hlt:=(List.getElem?_eq_some_iff.1 hr).1;rw [List.getElem?_set_self hlt,hr];simp [hl]
 ·rw [List.getElem?_set_ne h]
theorem Zah:∀ (g:Nat) {x z x':V} {off:Nat},ZPa g x off z=some x'→x.ok U→z.ok U→x'.ok U
 | 0,_,_,_,_,h,_,_=>by cases h
 | g+1,x,z,x',off,h,hk,hkz=>by
  have whole:∀ {y:V},(match Nat.beq off 0,Nat.beq y.size z.size,eqB y.isAgg z.isAgg with
    | true,true,true=>some z
    | _,_,_=>match y with
     | .agg c=>match ZPa g c off z with
      | some c'=>some (.agg c')
      | none=>none
     | .data t x=>match Zyb t x with
      | some c=>match ZPa g c off z with
       | some c'=>some (.agg c')
       | none=>none
      | none=>none
     | _=>none)=some x'→y.ok U→x'.ok U:=by
   intro y hy hk;split at hy
   ·cases hy;exact hkz
   ·split at hy
    ·split at hy
     ·rename_i c' he;cases hy;exact (show V.ok U c' from Zah g he hk hkz)
     ·cases hy
    ·split at hy
     ·rename_i c hc;split at hy
      ·rename_i c' he;cases hy;exact (show V.ok U c' from Zah g he (Z7o hc) hkz)
      ·cases hy
     ·cases hy
    ·cases hy
  cases x with
  | nl=>simp only [ZPa] at h;cases h
  | cons a b =>
   simp only [ZPa] at h;split at h
   ·split at h
    ·rename_i he;cases h;exact ⟨Zah g he hk.1 hkz,hk.2⟩
    ·cases h
   ·split at h
    ·split at h
     ·rename_i he;cases h;exact ⟨hk.1,Zah g he hk.2 hkz⟩
     ·cases h
    ·cases h
  | data t x=>exact whole (y:=.data t x) h hk
  | agg c=>exact whole (y:=.agg c) h hk
  | nilS=>exact whole (y:=.nilS) h hk
  | own u=>exact whole (y:=.own u) h hk
  | row u i hv cv t r=>exact whole (y:=.row u i hv cv t r) h hk
  | ptr u o=>exact whole (y:=.ptr u o) h hk
  | el u i cv t x o=>exact whole (y:=.el u i cv t x o) h hk
  | rp u i hv cv t r=>exact whole (y:=.rp u i hv cv t r) h hk
  | rel u i j hv cv t r x o=>exact whole (y:=.rel u i j hv cv t r x o) h hk
  | vp t x o=>exact whole (y:=.vp t x o) h hk
  | tup c=>exact whole (y:=.tup c) h hk
  | fn f c=>exact whole (y:=.fn f c) h hk
  | ifc f c=>exact whole (y:=.ifc f c) h hk
  | undef=>exact whole (y:=.undef) h hk
theorem Zuk {b off:Nat} {c c':List Value} (h:WAt w b off c) (h':WAt w b off c') (hl:c.length=c'.length):c=c':=by
 obtain ⟨x,T,fr,h1,h2⟩:=h;obtain ⟨x',T',fr',h3,h4⟩:=h';rw [h1] at h3;cases h3;rw [← h2,← h4,hl]
theorem ZEo (hr:RelX N G w0 v0 U X f l a w γ v ℓ) {u k st:Nat} {ty0:TypeId} {t:T} {xs:List t.den} {fz:Bool} (he:lkE l u=some ⟨k,st,.own ty0 t xs fz⟩) {b cap i:Nat} {x:t.den} (hγ:γ u = .own (some b) cap) (hx:xs[i]? = some x):∃ c,t.rep.rel v c x∧WAt w b (0+i*t.n) c:=by
 obtain ⟨hkk,es,hes,hmem⟩:=hr.loc he;have hkk:k=u:=hkk;subst hkk
 cases fz with
 | false =>
  obtain ⟨ob,cap',cs,q1,q2,rfl⟩:=hes;have q1:γ k = .own ob cap':=q1;rw [hγ] at q1;cases q1;obtain ⟨j,hj⟩:=hmem _ (List.mem_singleton.2 rfl);have hrel:=Zea q2 hx;rw [ZN] at hrel;have hl:=Rep.len _ hrel;rw [ZN] at hl;refine ⟨_,hrel,?_⟩;have:=ZCc hr.st hj rfl (List.getElem?_eq_some_iff.1 hx).1 0 ((cs.drop (i*t.n)).take t.n) (by rw [hl,List.drop_zero,List.take_take,Nat.min_self]) (by omega)
  simpa using this
 | true =>
  obtain ⟨ob,cap',q1,q2,_⟩:=hes;have q1:γ k = .own ob cap':=q1;rw [hγ] at q1;cases q1;obtain ⟨_,b2,o2,cs2,e2,h2,h3⟩:=ZRa q2 hx
  cases e2
  rw [ZN] at h2;exact ⟨cs2,h3,hr.st.view h2⟩
theorem ZPo (hr:RelX N G w0 v0 U X f l a w γ v ℓ) {u k st hv:Nat} {ty0 ty2:TypeId} {t:T} {m:List (List t.den)} (he:lkE l u=some ⟨k,st,.mat ty0 ty2 t m hv⟩) {ob:Option Nat} {cap i j bi capi:Nat} {rows:List (Option Nat×Nat)} {r:List t.den} {x:t.den}
  (hγ:γ u = .mat ob cap rows) (hrow:rows[i]? = some (some bi,capi)) (hm:m[i]? = some r) (hx:r[j]? = some x):∃ c,t.rep.rel v c x∧WAt w bi (0+j*t.n) c:=by
 obtain ⟨hkk,es,hes,hmem⟩:=hr.loc he;have hkk:k=u:=hkk;subst hkk;obtain ⟨ob',cap',rows',es2,q1,q2,rfl⟩:=hes;have q1:γ k = .mat ob' cap' rows':=q1;rw [hγ] at q1;cases q1;obtain ⟨p',cs,r1,r2,r3⟩:=Zrf q2 hm;rw [hrow] at r1;cases r1;obtain ⟨jj,hj⟩:=hmem _ (List.mem_cons_of_mem _ r3);have hrel:=Zea r2 hx;rw [ZN] at hrel;have hl:=Rep.len _ hrel;rw [ZN] at hl;refine ⟨_,hrel,?_⟩;have:=ZCc hr.st hj rfl (List.getElem?_eq_some_iff.1 hx).1 0 ((cs.drop (j*t.n)).take t.n) (by rw [hl,List.drop_zero,List.take_take,Nat.min_self]) (by omega)
 simpa using this
theorem stE_ok (hr:RelX N G w0 v0 U X f l a w γ v ℓ) (hU:∀ k,U k→X k) (hX:X n) (hn:¬ U n) {t:TypeId} {x y:Operand} {o:Oper} {p q:V} {Post:Unit→Fr→Lo→Prop} (ho:o=⟨none,.store t x y,ty,pos,aft,g⟩) (hp:RV v γ l p (a.eval x)) (hq:RV v γ l q (a.eval y)) (hk:p.ok U) (hkq:q.ok U)
  (h:Zo n (stE P n t p q) f l Post):Zya P N G w0 v0 X o a w Post:=by
 unfold stE at h;split at h
 ·exact h.elim
 ·rename_i sz hsz;split at h
  ·rename_i b1 b2 b3;have b1:=Nat.eq_of_beq_eq_true b1;have b2:=Zmm b2;obtain ⟨cs,hcs,hqe⟩:=Zgb hq (Z3m b3);obtain ⟨hcells,hpl⟩:=Zuj hcs b3;have hlen:cs.length=sz.1:=(Zfd hcs).trans b1;have hS:=ZYe hsz;split at h
   · -- a variable
    rename_i u off;obtain ⟨en,he,h⟩:=h;obtain ⟨yy,hy0,_,hy⟩:=Z8 hp (fun _ e=>by cases e) rfl rfl;have hy0:a.eval x=yy:=(List.cons.inj hy0).1;have hy:=hy en he;obtain ⟨kk,st,L⟩:=en;obtain ⟨hm,hkk⟩:=Zy he;have hkk:kk=u:=hkk;subst hkk
    cases L with
    | box ty0 c =>
     simp only at h;obtain ⟨b',g4,rfl⟩:=hy;split at h
     ·rename_i c' hc';obtain ⟨es,E',h1,h2,_,h3,_⟩:=hr.del he;obtain ⟨b,cs0,g1,g2,g3,rfl⟩:=h1;have g1:γ kk = .box b:=g1;rw [g1] at g4;cases g4;have hcok:c.ok U:=(hr.ul _ hm).2.2;obtain ⟨k1,k2,k3,_⟩:=Zwe FU hc' g2 hcs hcok hkq;rw [hlen] at k3;have hs:=hr.st.perm h3;obtain ⟨σ,hσ,e1,e2⟩:=hs.ev2 x y;rw [hy0] at e1;rw [hqe] at e2;obtain ⟨w',hrun,hst⟩:=ZEn (P:=P) hσ hS hcells hlen (i:=0) rfl (by omega) hpl;have hle:Le U v γ l v γ (⟨kk,n,.box ty0 c'⟩ :: era l kk):=Le.upd hr he (Zb.le_refl _) (fun _ _=>rfl) rfl;subst ho;refine Zzf (hr.upd hX (hr.ul _ hm).1 h2 hst.bare hle (fun _ _=>rfl) ⟨_,_,g1,Z5a hle k2 k1,all_upd g3 hpl,rfl⟩ (List.Perm.refl _) k2) hU rfl (hrun e1 e2) h
     ·exact h.elim
    | own _ _ _ _=>exact h.elim
    | mid _ _ _ _ _ _=>exact h.elim
    | mat _ _ _ _ _=>exact h.elim
   · -- an element
    rename_i u i cv s x0 off;split at h
    ·rename_i z hz;obtain ⟨yy,hy0,_,⟨c0,hc0⟩,hy⟩:=Z8 hp (fun _ e=>by cases e) rfl rfl;have hy0:a.eval x=yy:=(List.cons.inj hy0).1;obtain ⟨z1,z2,z3⟩:=ZQm hz hc0 hcs hkq;obtain ⟨y1,l1,γ1,v1,ℓ1,h,r1,le1,q1⟩:=Zod hn hX FU h hr z2;obtain ⟨en,he,h⟩:=h;have hp1:=Zfb le1 hk hp;obtain ⟨yy',hy0',_,_,hy⟩:=Z8 hp1 (fun _ e=>by cases e) rfl rfl;have hy0':a.eval x=yy':=(List.cons.inj hy0').1;have hy:=hy en he;obtain ⟨kk,st,L⟩:=en;obtain ⟨hm,hkk⟩:=Zy he;have hkk:kk=u:=hkk;subst hkk
     cases L with
     | own ty0 s' xs fz =>
      cases fz with
      | true=>exact h.elim
      | false =>
       simp only at h;obtain ⟨b,cap,g1,rfl,g3,g4⟩:=hy;obtain ⟨es,E',h1,h2,_,h3,_⟩:=r1.del he;obtain ⟨ob,cap',cs1,f1,f2,rfl⟩:=h1;have f1:γ1 kk = .own ob cap':=f1;rw [g1] at f1;cases f1;have fin:∀ (c:List Value) (y':s'.den),(cs1.drop (i*s'.n)).take s'.n=c→off+sz.1≤s'.n→s'.rep.rel v1 (c.take off++cs++c.drop (off+sz.1)) y'→Post () f (⟨kk,n,.own ty0 s' (xs.set i y') false⟩ :: era l1 kk)→Zya P N G w0 v0 X o a w Post:=by
        intro c y' hc hfit hrel hpost;have hs:=r1.st.perm h3;obtain ⟨σ,hσ,e1,e2⟩:=hs.ev2 x y;rw [hy0'] at e1;rw [hqe] at e2;have hset:=Zbq f2 g3 hc hrel (ZN s').symm hfit;have hcl:=ZGd f2;rw [ZN] at hcl;have hfit2:0+i*s'.n+off+sz.1≤cs1.length:=Zjn hs (j:=0) rfl g3 hfit;obtain ⟨w',hrun,hst⟩:=Zrb (P:=P) hσ hS hcells hlen (i:=0) rfl hfit2 hpl;rw [hlen] at hst;have hle:Le U v1 γ1 l1 v1 γ1 (⟨kk,n,.own ty0 s' (xs.set i y') false⟩ :: era l1 kk):=Le.upd r1 he (Zb.le_refl _) (fun _ _=>rfl) ⟨rfl,rfl,by simp,fun e=>absurd e hn⟩;have hst':St N w0 v0 [] (.own (some b) ty0 s'.n (xs.set i y').length cap (cs1.take (0+i*s'.n+off)++cs++cs1.drop (0+i*s'.n+off+sz.1)) :: E'.flatten) v1 a w':=by
         rw [List.length_set];exact hst.bare
        subst ho;exact Zzf (r1.upd hX (r1.ul _ hm).1 h2 hst' hle (fun _ _=>rfl) ⟨some b,cap,_,g1,hset,rfl⟩ (List.Perm.refl _) trivial) hU rfl (hrun e1 e2) hpost
       have full:off=0→sz.1=s.n→∀ y',T.cast s s' y1=some y'→Post () f (⟨kk,n,.own ty0 s' (xs.set i y') false⟩ :: era l1 kk)→Zya P N G w0 v0 X o a w Post:=by
        intro e0 e1 y' hc hpost;obtain ⟨c3,c4⟩:=Zda hc;subst c3;subst c4;refine fin _ y1 rfl (by omega) ?_ hpost;have hl0:=Rep.len _ hc0;rw [ZN] at hl0;have hcl:=ZGd f2;rw [ZN] at hcl;have hdl:((cs1.drop (i*s.n)).take s.n).length=s.n:=by
         have:i*s.n+s.n≤cs1.length:=by rw [hcl,← Nat.succ_mul];exact Nat.mul_le_mul_right _ g3
         simp;omega
        have q1:=q1 _ z1;rw [e0] at q1 ⊢;rw [List.take_zero,List.drop_of_length_le (by omega)] at q1 ⊢;exact q1
       split at h
       ·rename_i hh1 hh2;split at h
        ·rename_i y' hy';exact full (Nat.eq_of_beq_eq_true hh1) (b1.symm.trans (Nat.eq_of_beq_eq_true hh2)) y' hy' h
        ·exact h.elim
       ·rename_i hcv _;split at h
        ·rename_i y' hy';obtain ⟨ys,c1,c2⟩:=g4 (Nat.eq_of_beq_eq_true hcv);obtain ⟨c3,c4⟩:=Zda c1
         cases c3;cases c4
         rw [ZIk] at hy';cases hy';have hrel:=Zea f2 c2;rw [ZN] at hrel;obtain ⟨⟨k0,st0,L0⟩,he0,hce⟩:=le1.l _ _ hk.1 he;have hst:U st:=(Nat.eq_of_beq_eq_true hcv) ▸ hk.2
         cases L0 with
         | own ty1 t1 xs1 fz1 =>
          obtain ⟨d1,d2,d3,d4⟩:=hce;obtain ⟨d5,d6⟩:=d4 hst
          cases d6
          rw [d1] at g1;obtain ⟨c,hc1,hc2⟩:=ZEo hr he0 g1 c2;obtain ⟨z1',_,_⟩:=ZQm hz hc1 hcs hkq;have q2:=q1 _ z1';rw [hlen] at q2;refine fin c y1 ?_ (by omega) q2 h;have g1':γ1 kk = .own (some b) cap:=by rw [d1];exact g1
          obtain ⟨c',hc1',hc2'⟩:=ZEo r1 he g1' c2;have hl1:=Rep.len _ hc1;have hl2:=Rep.len _ hc1';have e1:=Zuk hc2 hc2' (hl1.trans hl2.symm);have hl3:=Rep.len _ hrel;rw [ZN] at hl1 hl3;obtain ⟨jj,hj⟩:∃ i:Nat,ℓ1[i]? = some (.own (some b) ty0 s.n xs.length cap cs1):=List.getElem?_of_mem (h3.mem_iff.2 (by simp));have hw:=ZCc r1.st hj rfl g3 0 ((cs1.drop (i*s.n)).take s.n) (by rw [hl3,List.drop_zero,List.take_take,Nat.min_self]) (by omega);exact Zuk (by simpa using hw) hc2 (hl3.trans hl1.symm)
         | box _ _=>exact hce.elim
         | mid _ _ _ _ _ _ =>
          obtain ⟨_,_,_,_,hyl⟩:=Z8 hp (fun _ e=>by cases e) rfl rfl;exact (hyl _ he0).elim
         | mat _ _ _ _ _ =>
          obtain ⟨_,_,_,_,hyl⟩:=Z8 hp (fun _ e=>by cases e) rfl rfl;exact (hyl _ he0).elim
        ·exact h.elim
       ·exact h.elim
     | box _ _=>exact h.elim
     | mid _ _ _ _ _ _=>exact h.elim
     | mat _ _ _ _ _=>exact h.elim
    ·exact h.elim
   · -- a row is put into its place
    rename_i u i hv0 cv0 s0 r0;split at h
    ·rename_i u2 _ _;obtain ⟨en,he,h⟩:=h;obtain ⟨yy,hy0,_,hy⟩:=Z8 hp (fun _ e=>by cases e) rfl rfl;have hy0:a.eval x=yy:=(List.cons.inj hy0).1;have hy:=hy en he;obtain ⟨kk,st,L⟩:=en;obtain ⟨hm,hkk⟩:=Zy he;have hkk:kk=u:=hkk;subst hkk
     cases L with
     | mat ty0 ty2 s m hv =>
      obtain ⟨en2,he2,h⟩:=h;obtain ⟨k2,st2,L2⟩:=en2;obtain ⟨hm2,hkk2⟩:=Zy he2;have hkk2:k2=u2:=hkk2;subst hkk2
      cases L2 with
      | own ty3 s' xs fz =>
       cases fz with
       | true=>exact h.elim
       | false =>
        simp only at h;split at h
        ·rename_i l' ht3 hl';have ht3:=Nat.eq_of_beq_eq_true ht3;subst ht3;obtain ⟨c3,c4⟩:=Zda hl'
         cases c3;cases c4
         have hne:kk≠k2:=fun e=>by subst e;rw [he] at he2;cases he2
         obtain ⟨b,cap,rows,g1,rfl,g3,g4⟩:=hy;obtain ⟨es2,E2,h1,h2,h2',h3,r2⟩:=hr.del he2;obtain ⟨ob2,cap2,cs2,f1,f2,rfl⟩:=h1;have he':lkE (era l k2) kk=some ⟨kk,st,.mat ty0 ty3 s m hv⟩:=by
          rw [ZPb hr.nd,if_neg (fun e=>hne e.symm)];exact he
         obtain ⟨esm,E',hsp1,hsp2,hsp3⟩:=Z2f h2' he';obtain ⟨ob',cap',rows,es3,q1,q2,rfl⟩:=hsp1;have q1:γ kk = .mat ob' cap' rows:=q1;rw [g1] at q1;cases q1;have hrl:=Zxf q2;obtain ⟨p',hp'⟩:∃ p',rows[i]? = some p':=⟨_,List.getElem?_eq_getElem (by omega)⟩;obtain ⟨hh,e1,e2,csx,k1,k3⟩:=Zsn q2 hp' (p:=(ob2,cap2)) (r':=xs) f2;have hq1:a.eval y = .slice (mkA ob2) xs.length cap2:=by
          obtain ⟨yq,hyq0,_,hyq⟩:=Z8 hq (fun _ e=>by cases e) rfl rfl;obtain ⟨oq,cq,gq1,gq2⟩:=hyq _ he2;have f1:γ k2 = .own ob2 cap2:=f1;rw [f1] at gq1;cases gq1;exact ((List.cons.inj hyq0).1).trans gq2
         have hs:St N w0 v0 [] (.own (some b) ty0 1 m.length cap (Zs rows m) :: .own ob2 ty3 s.n xs.length cap2 cs2 :: (es3++E'.flatten)) v a w:=by
          refine hr.st.perm ((h3.trans (List.Perm.append_left _ hsp3)).trans ?_);simp only [List.cons_append];exact List.Perm.swap _ _ _
         obtain ⟨σ,hσ,ee1,ee2⟩:=hs.ev2 x y;rw [hy0] at ee1;rw [hq1] at ee2;have hS1:Sized P t ([Value.slice (mkA ob2) xs.length cap2]:List Value).length sz.2:=by
          have:sz.1=1:=b1.symm;rw [this] at hS;exact hS
         have hfit:0+i*1+([Value.slice (mkA ob2) xs.length cap2]:List Value).length≤(Zs rows m).length:=by
          rw [Zad hrl];simp only [List.length_singleton];omega
         obtain ⟨w',hrun,hst⟩:=Zrb (P:=P) hσ hS1 (cs:=[Value.slice (mkA ob2) xs.length cap2]) (z:=.slice (mkA ob2) xs.length cap2) (Zib rfl) rfl (i:=0) rfl hfit rfl;have hh':(Zs rows m).take (0+i*1)++[Value.slice (mkA ob2) xs.length cap2]++(Zs rows m).drop (0+i*1+1)=Zs (rows.set i (ob2,cap2)) (m.set i xs):=by
          rw [Nat.zero_add,Nat.mul_one];exact hh
         have hst:=hst.bare;simp only [List.set_cons_zero,List.length_singleton] at hst;rw [hh'] at hst;subst k1;have hst':St N w0 v0 [] (.own (some b) ty0 1 (m.set i xs).length cap (Zs (rows.set i (ob2,cap2)) (m.set i xs)) :: (e1 ++ .own ob2 ty3 s.n xs.length cap2 cs2 :: e2)++E'.flatten) v a w':=by
          rw [List.length_set];refine (hst.drop (ℓ':=.own (some b) ty0 1 m.length cap (Zs (rows.set i (ob2,cap2)) (m.set i xs)) :: .own ob2 ty3 s.n xs.length cap2 cs2 :: ((e1++e2)++E'.flatten)) ?_).perm ?_
          ·refine List.Sublist.cons_cons _ (List.Sublist.cons_cons _ (List.Sublist.append (List.Sublist.append (List.Sublist.refl _) (List.sublist_cons_self _ _)) (List.Sublist.refl _)))
          ·simp only [List.cons_append];refine List.Perm.cons _ ?_;rw [← List.cons_append];exact List.Perm.append_right _ (List.perm_middle.symm)
         have hle:Le U v γ (era l k2) v (Zwc γ kk (.mat (some b) cap (rows.set i (ob2,cap2)))) (⟨kk,n,.mat ty0 ty3 s (m.set i xs) n⟩ :: era (era l k2) kk):=Le.upd r2 he' (Zb.le_refl _) (fun _ hne=>Z4b hne) ⟨rfl,by simp,⟨_,_,_,_,g1,Zbb,fun e=>absurd e hn⟩,fun e=>absurd e hn⟩;subst ho;refine Zzf (r2.upd hX (r2.ul _ (Zy he').1).1 hsp2 hst' hle (fun _ hne=>Z4b hne) ⟨some b,cap,rows.set i (ob2,cap2),_,Zbb,k3,rfl⟩ ?_ hX) hU rfl (hrun ee1 ee2) h;exact List.Perm.refl _
        ·exact h.elim
      | box _ _=>exact h.elim
      | mid _ _ _ _ _ _=>exact h.elim
      | mat _ _ _ _ _=>exact h.elim
     | mid ty0 ty2 s m hv sm =>
      cases sm with
      | swp _ _=>exact h.elim
      | hol i1 =>
       obtain ⟨_,heq,h⟩:=h;have heq:i=i1:=by
        unfold eqN at heq;split at heq
        ·assumption
        ·cases heq
       subst heq;obtain ⟨en2,he2,h⟩:=h;obtain ⟨k2,st2,L2⟩:=en2;obtain ⟨hm2,hkk2⟩:=Zy he2;have hkk2:k2=u2:=hkk2;subst hkk2
       cases L2 with
       | own ty3 s' xs fz =>
        cases fz with
        | true=>exact h.elim
        | false =>
         simp only at h;split at h
         ·rename_i l' ht3 hl';have ht3:=Nat.eq_of_beq_eq_true ht3;subst ht3;obtain ⟨c3,c4⟩:=Zda hl'
          cases c3;cases c4
          have hne:kk≠k2:=fun e=>by subst e;rw [he] at he2;cases he2
          obtain ⟨b,cap,rows,g1,rfl,g3,g4⟩:=hy;obtain ⟨es2,E2,h1,h2,h2',h3,r2⟩:=hr.del he2;obtain ⟨ob2,cap2,cs2,f1,f2,rfl⟩:=h1;have he':lkE (era l k2) kk=some ⟨kk,st,.mid ty0 ty3 s m hv (.hol i)⟩:=by
           rw [ZPb hr.nd,if_neg (fun e=>hne e.symm)];exact he
          obtain ⟨esm,E',hsp1,hsp2,hsp3⟩:=Z2f h2' he';obtain ⟨ob',cap',rows,es3,hs,es4,q1,q2,⟨rfl,e1,c,e2,rfl,rfl,rfl⟩,rfl⟩:=hsp1;have q1:γ kk = .mat ob' cap' rows:=q1;rw [g1] at q1;cases q1;have hrl:=Zxf q2;obtain ⟨hh,k3⟩:=ZHq q2 (p:=(ob2,cap2)) (r':=xs) f2;have hq1:a.eval y = .slice (mkA ob2) xs.length cap2:=by
           obtain ⟨yq,hyq0,_,hyq⟩:=Z8 hq (fun _ e=>by cases e) rfl rfl;obtain ⟨oq,cq,gq1,gq2⟩:=hyq _ he2;have f1:γ k2 = .own ob2 cap2:=f1;rw [f1] at gq1;cases gq1;exact ((List.cons.inj hyq0).1).trans gq2
          have hs:St N w0 v0 [] (.own (some b) ty0 1 m.length cap (Zs rows m) :: .own ob2 ty3 s.n xs.length cap2 cs2 :: (e1++e2++E'.flatten)) v a w:=by
           refine hr.st.perm ((h3.trans (List.Perm.append_left _ hsp3)).trans ?_);simp only [List.cons_append];exact List.Perm.swap _ _ _
          obtain ⟨σ,hσ,ee1,ee2⟩:=hs.ev2 x y;rw [hy0] at ee1;rw [hq1] at ee2;have hS1:Sized P t ([Value.slice (mkA ob2) xs.length cap2]:List Value).length sz.2:=by
           have:sz.1=1:=b1.symm;rw [this] at hS;exact hS
          have hfit:0+e1.length*1+([Value.slice (mkA ob2) xs.length cap2]:List Value).length≤(Zs rows m).length:=by
           rw [Zad hrl];simp only [List.length_singleton];omega
          obtain ⟨w',hrun,hst⟩:=Zrb (P:=P) hσ hS1 (cs:=[Value.slice (mkA ob2) xs.length cap2]) (z:=.slice (mkA ob2) xs.length cap2) (Zib rfl) rfl (i:=0) rfl hfit rfl;have hh':(Zs rows m).take (0+e1.length*1)++[Value.slice (mkA ob2) xs.length cap2]++(Zs rows m).drop (0+e1.length*1+1)=Zs (rows.set e1.length (ob2,cap2)) (m.set e1.length xs):=by
           rw [Nat.zero_add,Nat.mul_one];exact hh
          have hst:=hst.bare;simp only [List.set_cons_zero,List.length_singleton] at hst;rw [hh'] at hst;have hst':St N w0 v0 [] (.own (some b) ty0 1 (m.set e1.length xs).length cap (Zs (rows.set e1.length (ob2,cap2)) (m.set e1.length xs)) :: (e1 ++ .own ob2 ty3 s.n xs.length cap2 cs2 :: e2)++E'.flatten) v a w':=by
           rw [List.length_set];refine hst.perm ?_;simp only [List.cons_append,List.append_assoc];exact List.Perm.cons _ List.perm_middle.symm
          have hle:Le U v γ (era l k2) v (Zwc γ kk (.mat (some b) cap (rows.set e1.length (ob2,cap2)))) (⟨kk,n,.mat ty0 ty3 s (m.set e1.length xs) n⟩ :: era (era l k2) kk):=Le.upd r2 he' (Zb.le_refl _) (fun _ hne=>Z4b hne) ⟨rfl,by simp,⟨_,_,_,_,g1,Zbb,fun e=>absurd e hn⟩,fun e=>absurd e hn⟩;subst ho;exact Zzf (r2.upd hX (r2.ul _ (Zy he').1).1 hsp2 hst' hle (fun _ hne=>Z4b hne) ⟨some b,cap,rows.set e1.length (ob2,cap2),_,Zbb,k3,rfl⟩ (List.Perm.refl _) hX) hU rfl (hrun ee1 ee2) h
         ·exact h.elim
       | box _ _=>exact h.elim
       | mid _ _ _ _ _ _=>exact h.elim
       | mat _ _ _ _ _=>exact h.elim
     | box _ _=>exact h.elim
     | own _ _ _ _=>exact h.elim
    · -- another row's header
     rename_i u2 j hv2 cv2 t2 r2 _ _;obtain ⟨en,he,h⟩:=h;obtain ⟨yy,hy0,_,hy⟩:=Z8 hp (fun _ e=>by cases e) rfl rfl;have hy0:a.eval x=yy:=(List.cons.inj hy0).1;have hy:=hy en he;obtain ⟨yq,hq0,_,hqy⟩:=Z8 hq (fun _ e=>by cases e) rfl rfl;have hq0:a.eval y=yq:=(List.cons.inj hq0).1;obtain ⟨kk,st,L⟩:=en;obtain ⟨hm,hkk⟩:=Zy he;have hkk:kk=u:=hkk;subst hkk;have hS1:∀ z:Value,Sized P t ([z]:List Value).length sz.2:=fun z=>by
      have:sz.1=1:=b1.symm;rw [this] at hS;exact hS
     cases L with
     | mat ty0 ty2 s m hv =>
      simp only at h;split at h
      ·rename_i bu bh;have bu:=Nat.eq_of_beq_eq_true bu;have bh:=Nat.eq_of_beq_eq_true bh;subst bu bh;obtain ⟨b,cap,rows,g1,rfl,g3,g4⟩:=hy;obtain ⟨ob',cap',rows',obi,capi,j1,j2,rfl,⟨rj,j3,j4⟩,_⟩:=hqy _ he rfl;rw [g1] at j1;cases j1;obtain ⟨es,E',h1,h2,_,h3,_⟩:=hr.del he;obtain ⟨ob2,cap2,rows2,es3,q1,q2,rfl⟩:=h1;have q1:γ u2 = .mat ob2 cap2 rows2:=q1;rw [g1] at q1;cases q1;have hrl:=Zxf q2;have hs:=hr.st.perm h3;obtain ⟨σ,hσ,ee1,ee2⟩:=hs.ev2 x y;rw [hy0] at ee1;rw [hq0] at ee2;have hfit:0+i*1+([Value.slice (mkA obi) r2.length capi]:List Value).length≤(Zs rows m).length:=by
        rw [Zad hrl];simp only [List.length_singleton];omega
       obtain ⟨w',hrun,hst⟩:=Zrb (P:=P) hσ (hS1 _) (cs:=[Value.slice (mkA obi) r2.length capi]) (z:=.slice (mkA obi) r2.length capi) (Zib rfl) rfl (i:=0) rfl hfit rfl;have hst:=hst.bare;simp only [List.set_cons_zero,List.length_singleton,List.cons_append] at hst;have hset:(Zs rows m).take (0+i*1)++[Value.slice (mkA obi) r2.length capi]++(Zs rows m).drop (0+i*1+1)=(Zs rows m).set i (.slice (mkA obi) r2.length capi):=by
        rw [List.set_eq_take_append_cons_drop,if_pos (by rw [Zad hrl];exact g3)];simp
       rw [hset] at hst;have hjj:(Zs rows m)[j]? = some (.slice (mkA obi) r2.length capi):=by
        rw [Zbh j2 j3,j4]
       have hle:Le U v γ l v γ (⟨u2,n,.mid ty0 ty2 s m hv (.swp i j)⟩ :: era l u2):=Le.upd hr he (Zb.le_refl _) (fun _ _=>rfl) ⟨rfl,rfl,⟨_,_,_,_,g1,g1,fun _=>⟨rfl,rfl,rfl⟩⟩,fun e=>absurd e hn⟩;subst ho;exact Zzf (hr.upd hX (hr.ul _ hm).1 h2 hst hle (fun _ _=>rfl) ⟨some b,cap,rows,es3,_,es3,g1,q2,⟨rfl,g3,_,hjj,rfl⟩,rfl⟩ (List.Perm.refl _) (hr.ul _ hm).2.2) hU rfl (hrun ee1 ee2) h
      ·exact h.elim
     | mid ty0 ty2 s m hv sm =>
      cases sm with
      | hol _=>exact h.elim
      | swp i0 j0 =>
       simp only at h;split at h
       ·rename_i bu bh;have bu:=Nat.eq_of_beq_eq_true bu;have bh:=Nat.eq_of_beq_eq_true bh;subst bu bh;obtain ⟨_,q1,_,q2,h⟩:=h;have q1:i=j0:=by
         unfold eqN at q1;split at q1
         ·assumption
         ·cases q1
        have q2:j=i0:=by
         unfold eqN at q2;split at q2
         ·assumption
         ·cases q2
        subst q1 q2;obtain ⟨b,cap,rows,g1,rfl,g3,g4⟩:=hy;obtain ⟨ob',cap',rows',obi,capi,j1,j2,rfl,⟨rj,j3,j4⟩,_⟩:=hqy _ he rfl;rw [g1] at j1;cases j1;obtain ⟨es,E',h1,h2,_,h3,_⟩:=hr.del he;obtain ⟨ob2,cap2,rows2,es3,hs0,es4,q1,q2,⟨rfl,q3,hx,q4,rfl⟩,rfl⟩:=h1;have q1:γ u2 = .mat ob2 cap2 rows2:=q1;rw [g1] at q1;cases q1;have hrl:=Zxf q2;have hs:=hr.st.perm h3;obtain ⟨σ,hσ,ee1,ee2⟩:=hs.ev2 x y;rw [hy0] at ee1;rw [hq0] at ee2;have hfit:0+i*1+([Value.slice (mkA obi) r2.length capi]:List Value).length≤((Zs rows m).set j hx).length:=by
         rw [List.length_set,Zad hrl];simp only [List.length_singleton];omega
        obtain ⟨w',hrun,hst⟩:=Zrb (P:=P) hσ (hS1 _) (cs:=[Value.slice (mkA obi) r2.length capi]) (z:=.slice (mkA obi) r2.length capi) (Zib rfl) rfl (i:=0) rfl hfit rfl;have hst:=hst.bare;simp only [List.set_cons_zero,List.length_singleton,List.cons_append] at hst;have hset:((Zs rows m).set j hx).take (0+i*1)++[Value.slice (mkA obi) r2.length capi]++((Zs rows m).set j hx).drop (0+i*1+1)=((Zs rows m).set j hx).set i (.slice (mkA obi) r2.length capi):=by
         rw [List.set_eq_take_append_cons_drop (l:=(Zs rows m).set j hx),if_pos (by rw [List.length_set,Zad hrl];exact g3)];simp
        rw [hset] at hst;obtain ⟨pi,hpi⟩:∃ p,rows[i]? = some p:=⟨_,List.getElem?_eq_getElem (by omega)⟩;obtain ⟨ri,hri⟩:∃ r,m[i]? = some r:=⟨_,List.getElem?_eq_getElem g3⟩;have hhx:hx=ZXc pi ri:=by
         rw [Zbh hpi hri] at q4;exact (Option.some.inj q4).symm
        have hhj:Value.slice (mkA obi) r2.length capi=ZXc (obi,capi) rj:=by unfold ZXc;rw [j4]
        obtain ⟨w1,es5,w2,w3⟩:=ZYq q2 j2 hpi j3 hri;rw [hhx,hhj,w1] at hst;have hln:(ZXb m j i).length=m.length:=by unfold ZXb;simp
        have hst':St N w0 v0 [] (.own (some b) ty0 1 (ZXb m j i).length cap (Zs ((rows.set j pi).set i (obi,capi)) (ZXb m j i)) :: es5++E'.flatten) v a w':=by
         rw [hln];refine hst.perm ?_;simp only [List.cons_append];exact List.Perm.cons _ (List.Perm.append_right _ w2.symm)
        have hle:Le U v γ l v (Zwc γ u2 (.mat (some b) cap ((rows.set j pi).set i (obi,capi)))) (⟨u2,n,.mat ty0 ty2 s (ZXb m j i) n⟩ :: era l u2):=Le.upd hr he (Zb.le_refl _) (fun _ hne=>Z4b hne) ⟨rfl,hln,⟨_,_,_,_,g1,Zbb,fun e=>absurd e hn⟩,fun e=>absurd e hn⟩;subst ho;exact Zzf (hr.upd hX (hr.ul _ hm).1 h2 hst' hle (fun _ hne=>Z4b hne) ⟨some b,cap,_,_,Zbb,w3,rfl⟩ (List.Perm.refl _) hX) hU rfl (hrun ee1 ee2) h
       ·exact h.elim
     | box _ _=>exact h.elim
     | own _ _ _ _=>exact h.elim
    ·exact h.elim
   · -- an element of a row
    rename_i u i j hv cv s r x0 off;split at h
    ·rename_i z hz;obtain ⟨yy,hy0,_,hy⟩:=Z8 hp (fun _ e=>by cases e) rfl rfl;have hy0:a.eval x=yy:=(List.cons.inj hy0).1;obtain ⟨⟨kz,sz0,Lz⟩,hez,h⟩:=h;have hLz:∃ ty ty2 t m hv,Lz = .mat ty ty2 t m hv:=by
      cases Lz with
      | mat ty ty2 t m hv=>exact ⟨_,_,_,_,_,rfl⟩
      | _=>exact h.elim
     obtain ⟨_,_,_,_,_,rfl⟩:=hLz;obtain ⟨y1,l1,γ1,v1,ℓ1,hB,r1,le1,q1⟩:=Zod hn hX FU h hr (Zah FU hz trivial hkq);obtain ⟨en,he,hC⟩:=hB;have hp1:=Zfb le1 hk hp;obtain ⟨yy',hy0',_,hy1⟩:=Z8 hp1 (fun _ e=>by cases e) rfl rfl;have hy0':a.eval x=yy':=(List.cons.inj hy0').1;have hy1:=hy1 en he;obtain ⟨kk,st,L⟩:=en;obtain ⟨hm,hkk⟩:=Zy he;have hkk:kk=u:=hkk;subst hkk
     cases L with
     | mat ty0 ty2 s' m hv' =>
      simp only at hC;split at hC
      ·rename_i b4 b5;have b4:=Nat.eq_of_beq_eq_true b4;have b5:=Nat.eq_of_beq_eq_true b5;subst b4 b5;split at hC
       ·rename_i r' hr';obtain ⟨ob,cap,rows,bi,capi,g1,g2,rfl,_,g4,g6⟩:=hy1 rfl;obtain ⟨⟨m',c1,c2⟩,cx⟩:=g6 rfl;obtain ⟨c3,c4⟩:=Zda c1
        cases c3;cases c4
        have hr':r.set j y1=r':=by
         obtain ⟨c5,c6⟩:=Zda hr';exact c6
        subst hr';obtain ⟨⟨k0,st0,L0⟩,he0,hce⟩:=le1.l _ _ hk.1 he;obtain ⟨es,E',h1,h2,_,h3,_⟩:=r1.del he;obtain ⟨ob',cap',rows',es3,f1,f2,rfl⟩:=h1;have f1:γ1 kk = .mat ob' cap' rows':=f1;rw [g1] at f1;cases f1
        cases L0 with
        | mat ty1 ty3 t1 m1 hv1 =>
         obtain ⟨d1,d2,⟨obx,capx,rowsx,rowsy,d3,d4,d5⟩,d6⟩:=hce;obtain ⟨d7,d8⟩:=d6 hk.2.2
         cases d8
         obtain ⟨d9,d10,_⟩:=d5 hk.2.1;rw [g1] at d4;cases d4;subst d10;obtain ⟨c,hc1,hc2⟩:=ZPo hr he0 d3 g2 c2 cx;obtain ⟨c',hc1',hc2'⟩:=ZPo r1 he g1 g2 c2 cx;have e1:=Zuk hc2 hc2' ((Rep.len _ hc1).trans (Rep.len _ hc1').symm);obtain ⟨z1',_,zfit⟩:=ZQm hz hc1 hcs hkq;have q2:=q1 _ z1';rw [hlen] at q2 zfit;obtain ⟨csx,ea,eb,k1,k2,k3⟩:=ZGn f2 g2 c2;subst k1;have hs:St N w0 v0 [] (.own (some bi) ty2 s.n r.length capi csx :: .own ob ty0 1 m.length cap (Zs rows m) :: (ea++eb++E'.flatten)) v1 a w:=by
          refine r1.st.perm (h3.trans ?_);simp only [List.cons_append,List.append_assoc];exact (List.Perm.cons _ List.perm_middle).trans (List.Perm.swap _ _ _)
         have hrel:=Zea k2 cx;rw [ZN] at hrel;have hl3:=Rep.len _ hrel;have hl1:=Rep.len _ hc1;rw [ZN] at hl3 hl1;have hcell:(csx.drop (j*s.n)).take s.n=c:=by
          have hw:=ZCc hs (j:=0) rfl rfl g4 0 ((csx.drop (j*s.n)).take s.n) (by rw [hl3,List.drop_zero,List.take_take,Nat.min_self]) (by omega);exact Zuk (by simpa using hw) hc2 (hl3.trans hl1.symm)
         obtain ⟨σ,hσ,e1,e2⟩:=hs.ev2 x y;rw [hy0'] at e1;rw [hqe] at e2;have hset:=Zbq k2 g4 hcell q2 (ZN s).symm (by omega);have hfit2:0+j*s.n+off+sz.1≤csx.length:=Zjn hs (j:=0) rfl g4 (by omega);obtain ⟨w',hrun,hst⟩:=Zrb (P:=P) hσ hS hcells hlen (i:=0) rfl hfit2 hpl;rw [hlen] at hst;have hst:=hst.bare;obtain ⟨k4,k5⟩:=k3 (r.set j y1) _ (List.length_set ..) hset;have hst':St N w0 v0 [] (.own ob ty0 1 (m.set i (r.set j y1)).length cap (Zs rows (m.set i (r.set j y1))) :: (ea ++ .own (some bi) ty2 s.n r.length capi (csx.take (0+j*s.n+off)++cs++csx.drop (0+j*s.n+off+sz.1)) :: eb)++E'.flatten) v1 a w':=by
          rw [List.length_set,k4];refine hst.perm ?_;simp only [List.set_cons_zero,List.cons_append,List.append_assoc];exact (List.Perm.swap _ _ _).trans (List.Perm.cons _ List.perm_middle.symm)
         have hle:Le U v1 γ1 l1 v1 γ1 (⟨kk,n,.mat ty0 ty2 s (m.set i (r.set j y1)) hv'⟩ :: era l1 kk):=Le.upd r1 he (Zb.le_refl _) (fun _ _=>rfl) ⟨rfl,by simp,⟨_,_,_,_,g1,g1,fun _=>⟨rfl,rfl,ZZu c2 (List.length_set ..)⟩⟩,fun e=>absurd e hn⟩;subst ho;exact Zzf (r1.upd hX (r1.ul _ hm).1 h2 hst' hle (fun _ _=>rfl) ⟨ob,cap,rows,_,g1,k5,rfl⟩ (List.Perm.refl _) (r1.ul _ hm).2.2) hU rfl (hrun e1 e2) hC
        | box _ _=>exact hce.elim
        | mid _ _ _ _ _ _=>rw [he0] at hez;cases hez
        | own _ _ _ _=>exact hce.elim
       ·exact hC.elim
      ·exact hC.elim
     | box _ _=>exact hC.elim
     | mid _ _ _ _ _ _=>exact hC.elim
     | own _ _ _ _=>exact hC.elim
    ·exact h.elim
   ·exact h.elim
  ·exact h.elim
end
end Go.Eng
namespace Go.Eng
open Go.RowKit
def Z7c:Rep Value where
 n:=1
 agg:=false
 rel _ cs x:=cs=[x]∧plain x=true
 len h:=by rw [h.1];rfl
 mono _ h:=h
 flat h:=by obtain ⟨h1,h2⟩:=h;rw [h1];simp [h2]
theorem ZCm {v:Zb}:∀ {l:List Value},l.all plain=true→Z7c.rels v l l
 | [],_=>rfl
 | x :: l,h=>by
  simp only [List.all_cons,Bool.and_eq_true] at h
  exact ⟨[x],l,rfl,⟨rfl,h.1⟩,ZCm h.2⟩
theorem Zim {v:Zb}:∀ {l cs:List Value},Z7c.rels v cs l→cs=l
 | [],cs,h=>h
 | x :: l,cs,h=>by
  obtain ⟨c1,c2,h1,h2,h3⟩:=h
  rw [h1,h2.1,Zim h3];rfl
theorem Zhm {α:Type}:∀ {rows:List (Option Nat×Nat)} {m:List (List α)},(Zs rows m).all plain=true
 | [],_=>rfl
 | _ :: _,[]=>rfl
 | p :: ps,r :: rs=>by
  have:=Zhm (rows:=ps) (m:=rs)
  simp only [Zs,List.all_cons,this,Bool.and_true]
  obtain ⟨ob,cap⟩:=p
  cases ob <;> rfl
theorem Ztq {α:Type}:∀ {rows rows2:List (Option Nat×Nat)} {m m2:List (List α)},rows.length=m.length→Zs (rows++rows2) (m++m2)=Zs rows m++Zs rows2 m2
 | [],_,[],_,_=>rfl
 | p :: ps,rows2,r :: rs,m2,h=>by
  have:=Ztq (rows:=ps) (rows2:=rows2) (m:=rs) (m2:=m2) (by simpa using h)
  simp [Zs,this]
 | [],_,_ :: _,_,h=>by cases h
 | _ :: _,_,[],_,h=>by cases h
theorem ZRn {v:Zb} {ty:TypeId} {t:T}:∀ {rows rows2:List (Option Nat×Nat)} {m m2:List (List t.den)} {es es2:List Loc},Zqa v ty t rows m es→Zqa v ty t rows2 m2 es2→Zqa v ty t (rows++rows2) (m++m2) (es++es2)
 | [],_,[],_,es,_,h,k=>by rw [show es=[] from h];exact k
 | p :: ps,rows2,r :: rs,m2,es,es2,⟨cs,es',h1,h2,h3⟩,k=>by
  subst h2
  exact ⟨cs,es'++es2,h1,rfl,ZRn h3 k⟩
 | [],_,_ :: _,_,_,_,h,_=>h.elim
 | _ :: _,_,[],_,_,_,h,_=>h.elim
theorem Z6q {v:Zb} {ty:TypeId} {t:T} {rows:List (Option Nat×Nat)} {m:List (List t.den)} {es:List Loc} {i:Nat} {p:Option Nat×Nat} {r:List t.den} (h:Zqa v ty t rows m es) (hp:rows[i]? = some p) (hr:m[i]? = some r) :
  ∃ cs e1 e2,es=e1 ++ .own p.1 ty t.n r.length p.2 cs :: e2∧e1.length=i∧t.rep.rels v cs r:=by
 obtain ⟨k1,k2,k3⟩:=Z5e.1 h;obtain ⟨cs,q1,q2⟩:=k3 i p r hp hr;have hlt:=(List.getElem?_eq_some_iff.1 q2).1;refine ⟨cs,es.take i,es.drop (i+1),?_,by simp;omega,q1⟩;rw [← (List.getElem?_eq_some_iff.1 q2).2,← List.drop_eq_getElem_cons hlt,List.take_append_drop]
section
variable {P:Program} {N:Nat} {G:V→Value→Prop} {w0:Base} {v0:Zb} {U X:Nat→Prop} {f:Fr} {l:Lo} {a:Act} {w:World} {γ:Nat→Gh} {v:Zb} {ℓ:List Loc} {n:Nat}
variable {ty:TypeId} {pos:String} {aft:Array Edge} {g:Option (Nat×Bool)}
theorem RelX.go (h:RelX N G w0 v0 U X f l a w γ v ℓ) {v':Zb} {w':World} (hle:v.le v') (hst:St N w0 v0 [] ℓ v' a w'):RelX N G w0 v0 U X f l a w' γ v' ℓ:=by
 obtain ⟨E,hE,hp⟩:=h.lr;have hl:Le U v γ l v' γ l:=Le.refl hE hle;exact ⟨hst,fun t e he=>Zfb hl (h.uf t e he).1 (h.fr t e he),⟨E,hE.imp fun e he es hr=>Zkh hl (h.ul e he).2.2 rfl hr,hp⟩,h.nd,h.uf,h.ul,fun x y hg=>⟨Zfb hl (h.gh x y hg).2 (h.gh x y hg).1,(h.gh x y hg).2⟩⟩
theorem Z3j (hr:RelX N G w0 v0 U X f l a w γ v ℓ) (hU:∀ k,U k→X k) (hX:X n) (hn:¬ U n) {e e2:TypeId} {s:T} {m:List (List s.den)} {rows:List (Option Nat×Nat)} {o:Oper} {ob:Option Nat} {cap:Nat} {w':World} {es ℓ':List Loc} {E:List (List Loc)} {Post:Unit→Fr→Lo→Prop} (hd:∀ k,o.dst=some k→k<N) (hE:F2 (Zza v γ l) l E) (hℓ:ℓ'=E.flatten)
  (hR:Zqa v e2 s rows m es) (hst:St N w0 v0 [] (.own ob e 1 m.length cap (Zs rows m) :: es++ℓ') v a w') (hrun:(execOp a.eval o).run P w = .ok (.value (.slice (mkA ob) m.length cap)) w') (h:Zo n (Ev.new n (.mat e e2 s m n) (ret o (.own n))) f l Post):Zya P N G w0 v0 X o a w Post:=by
 obtain ⟨hnew,h⟩:=h;have hr':=hr.new (γ':=Zwc γ n (.mat ob cap rows)) (L':=.mat e e2 s m n) hX hX hn hnew hE hst (Zb.le_refl _) (fun _ h=>Z4b h) ⟨ob,cap,rows,es,Zbb,hR,rfl⟩ (by rw [hℓ]) hX;refine fin (x:=.own n) (hr'.mono hU fun _ h=>h) hrun hd hX ⟨[_],⟨_,rfl,by cases ob <;> rfl,fun e' he'=>?_⟩,rfl⟩ hX h;rw [ZP,if_pos rfl] at he';cases he';exact ⟨_,_,_,Zbb,rfl⟩
theorem RelX.take (hr:RelX N G w0 v0 U X f l a w γ v ℓ) (hX:X n) (hn:¬ U n) {u st hv i:Nat} {ty0 ty2:TypeId} {t:T} {m:List (List t.den)} {r:List t.den} (he:lkE l u=some ⟨u,st,.mat ty0 ty2 t m hv⟩) {ob:Option Nat} {cap:Nat} {rows:List (Option Nat×Nat)} {p:Option Nat×Nat} (hγ:γ u = .mat ob cap rows) (hp:rows[i]? = some p) (hm:m[i]? = some r) :
  ∃ cs ℓ' E',t.rep.rels v cs r∧RelX N G w0 v0 U X f (⟨u,n,.mid ty0 ty2 t m hv (.hol i)⟩ :: era l u) a w γ v ℓ'∧F2 (Zza v γ (⟨u,n,.mid ty0 ty2 t m hv (.hol i)⟩ :: era l u)) (⟨u,n,.mid ty0 ty2 t m hv (.hol i)⟩ :: era l u) E'∧ℓ'=E'.flatten∧St N w0 v0 [] (.own p.1 ty2 t.n r.length p.2 cs :: ℓ') v a w:=by
 obtain ⟨es,E',h1,h2,_,h3,_⟩:=hr.del he;obtain ⟨ob',cap',rows',es3,f1,f2,rfl⟩:=h1;have f1:γ u = .mat ob' cap' rows':=f1;rw [hγ] at f1;cases f1;obtain ⟨cs,e1,e2,k1,k2,k3⟩:=Z6q f2 hp hm;subst k1;have hs:St N w0 v0 [] (.own p.1 ty2 t.n r.length p.2 cs :: (.own ob ty0 1 m.length cap (Zs rows m) :: (e1++e2)++E'.flatten)) v a w:=by
  refine hr.st.perm (h3.trans ?_);simp only [List.cons_append,List.append_assoc];exact (List.Perm.cons _ List.perm_middle).trans (List.Perm.swap _ _ _)
 have hle:Le U v γ l v γ (⟨u,n,.mid ty0 ty2 t m hv (.hol i)⟩ :: era l u):=Le.upd hr he (Zb.le_refl _) (fun _ _=>rfl) ⟨rfl,rfl,⟨_,_,_,_,hγ,hγ,fun _=>⟨rfl,rfl,rfl⟩⟩,fun e=>absurd e hn⟩;have hrl:Zza v γ (⟨u,n,.mid ty0 ty2 t m hv (.hol i)⟩ :: era l u) ⟨u,n,.mid ty0 ty2 t m hv (.hol i)⟩ (.own ob ty0 1 m.length cap (Zs rows m) :: (e1++e2)):=⟨ob,cap,rows,_,_,_,hγ,f2,⟨rfl,e1,_,e2,rfl,k2,rfl⟩,rfl⟩;have r2:=hr.upd hX (hr.ul _ (Zy he).1).1 h2 (hs.drop (List.sublist_cons_self _ _)) hle (fun _ _=>rfl) hrl (List.Perm.refl _) (hr.ul _ (Zy he).1).2.2;obtain ⟨E2,hE2,hp2⟩:=r2.lr;exact ⟨cs,E2.flatten,E2,k3,⟨r2.st.perm hp2,r2.fr,⟨E2,hE2,List.Perm.refl _⟩,r2.nd,r2.uf,r2.ul,r2.gh⟩,hE2,rfl,hs.perm (List.Perm.cons _ hp2)⟩
end
end Go.Eng
namespace Go.Eng
open Go.RowKit
theorem ZOe {cs r:List Value} (h:zSl cs=some r):cs = .slice none 0 0 :: r:=by
 unfold zSl at h;split at h
 ·cases h;rfl
 ·cases h
theorem Zrq {v:Zb}:∀ {t:T} {cs r:List Value} {x:t.den},zOK t cs=some r→Z3e t=some x→∃ c1,cs=c1++r∧t.rep.rel v c1 x:=by
 intro t
 induction t with
 | int k =>
  intro cs r x h hx;unfold zOK at h
  cases hx
  split at h <;> try (cases h;done)
  all_goals (rename_i heq;cases heq)
  rename_i k' n rest;split at h
  ·rename_i hk
   cases h
   have:=ZMf hk;subst this;exact ⟨[_],rfl,rfl,by cases k <;> decide⟩
  ·cases h
 | bool =>
  intro cs r x h hx;unfold zOK at h
  cases hx
  split at h <;> try (cases h;done)
  all_goals (rename_i heq;cases heq)
  cases h
  exact ⟨[_],rfl,rfl⟩
 | flt k =>
  intro cs r x h hx;unfold zOK at h
  cases hx
  split at h <;> try (cases h;done)
  all_goals (rename_i heq;cases heq)
  split at h
  ·rename_i hk
   cases h
   have:=Z3o hk;subst this;exact ⟨[_],rfl,rfl,by decide⟩
  ·cases h
 | str =>
  intro cs r x h hx;unfold zOK at h
  cases hx
  split at h <;> try (cases h;done)
  all_goals (rename_i heq;cases heq)
  rename_i s rest;split at h
  ·rename_i hs
   cases h
   refine ⟨[_],rfl,?_,by show ([]:List UInt8).length≤maxLen;exact Nat.zero_le _⟩;have:s=Zv []:=by
    cases s with
    | mk d=>show _=ByteArray.mk _;congr 1;exact Array.ext' hs
   rw [this]
  ·cases h
 | one a ih =>
  intro cs r x h hx;simp only [zOK] at h;obtain ⟨c1,h1,h2⟩:=ih h hx;exact ⟨c1,h1,h2⟩
 | pair a b ia ib =>
  intro cs r x h hx;simp only [zOK] at h;simp only [Z3e] at hx;split at hx
  ·rename_i x1 x2 hx1 hx2
   cases hx
   split at h
   ·rename_i r1 hr1;obtain ⟨c1,h1,h2⟩:=ia hr1 hx1;obtain ⟨c2,h3,h4⟩:=ib h hx2;exact ⟨c1++c2,by rw [h1,h3,List.append_assoc],c1,c2,rfl,h2,h4⟩
   ·cases h
  ·cases hx
 | slice a _ =>
  intro cs r x h hx
  cases hx
  simp only [zOK] at h;exact ⟨[_],ZOe h,ZYi _ _⟩
 | leaf i =>
  intro cs r x h hx;unfold zOK at h;split at h <;> try (cases h;done)
  all_goals (rename_i heq;cases heq)
  ·cases hx;exact ⟨[_],ZOe h,ZOf _⟩
  ·cases hx;exact ⟨[_],ZOe h,Zhk _⟩
  ·cases hx;rw [ZOe h];exact ⟨[_,_],rfl,Zan _⟩
  ·cases hx
   split at h
   ·rename_i r1 hr1;rw [ZOe hr1,ZOe h];exact ⟨[_,_,_],rfl,Zhu _⟩
   ·cases h
section
variable {P:Program} {N:Nat} {G:V→Value→Prop} {w0:Base} {v0:Zb} {U X:Nat→Prop} {f:Fr} {l:Lo} {a:Act} {w:World} {γ:Nat→Gh} {v:Zb} {ℓ:List Loc} {n:Nat}
variable {ty:TypeId} {pos:String} {aft:Array Edge} {g:Option (Nat×Bool)}
theorem ZOh {t:T} {cs r:List Value} {z:V} (h:Zyf t cs=some (z,r)):∃ c1,cs=c1++r∧RR v γ l false z c1∧z.ok U∧c1.all plain=true:=by
 unfold Zyf at h;split at h
 ·rename_i x r' hx hr
  cases h
  obtain ⟨c1,h1,h2⟩:=Zrq (v:=v) hr hx;exact ⟨c1,h1,h2,trivial,Rep.flat _ h2⟩
 ·cases h
theorem Zwo {F:TypeId→List Value→Option (V×List Value)} (hF:∀ t cs z r,F t cs=some (z,r)→∃ c1,cs=c1++r∧RR v γ l false z c1∧z.ok U∧c1.all plain=true) :
  ∀ {fs:List Field} {cs r:List Value} {z:V},Zwj F fs cs=some (z,r)→∃ c1,cs=c1++r∧RR v γ l false z c1∧z.ok U∧c1.all plain=true
 | [],cs,r,z,h=>by cases h;exact ⟨[],rfl,rfl,trivial,rfl⟩
 | x :: fs,cs,r,z,h=>by
  simp only [Zwj] at h
  split at h
  ·rename_i y cs1 hy
   split at h
   ·rename_i c cs2 hc
    cases h
    obtain ⟨c1,h1,h2,h3,h4⟩:=hF _ _ _ _ hy
    obtain ⟨c2,k1,k2,k3,k4⟩:=Zwo hF hc
    exact ⟨c1++c2,by rw [h1,k1,List.append_assoc],⟨c1,c2,rfl,h2,k2⟩,⟨h3,k3⟩,by rw [List.all_append,h4,k4];rfl⟩
   ·cases h
  ·cases h
theorem ZZo {F:List Value→Option (V×List Value)} (hF:∀ cs z r,F cs=some (z,r)→∃ c1,cs=c1++r∧RR v γ l false z c1∧z.ok U∧c1.all plain=true):∀ {k:Nat} {cs r:List Value} {c:V},zRep F k cs=some (c,r)→∃ c1,cs=c1++r∧RR v γ l false c c1∧c.ok U∧c1.all plain=true
 | 0,cs,r,c,h=>by cases h;exact ⟨[],rfl,rfl,trivial,rfl⟩
 | k+1,cs,r,c,h=>by
  simp only [zRep] at h
  split at h
  ·rename_i x cs1 hx
   split at h
   ·rename_i c' cs2 hc
    cases h
    obtain ⟨c1,rfl,h2,h3,h4⟩:=hF _ _ _ hx
    obtain ⟨c2,rfl,k2,k3,k4⟩:=ZZo hF hc
    exact ⟨c1++c2,by simp,⟨c1,c2,rfl,h2,k2⟩,⟨h3,k3⟩,by rw [List.all_append,h4,k4];rfl⟩
   ·cases h
  ·cases h
theorem ZGm {C:Cf}:∀ (g:Nat) {t:TypeId} {cs r:List Value} {z:V},Zgh C g t cs=some (z,r)→∃ c1,cs=c1++r∧RR v γ l false z c1∧z.ok U∧c1.all plain=true
 | 0,_,_,_,_,h=>by cases h
 | g+1,t,cs,r,z,h=>by
  simp only [Zgh] at h
  split at h
  ·split at h
   ·cases h
    exact ⟨[_,_,_],rfl,⟨[_],[_,_],rfl,rfl,[_],[_],rfl,Zhk _,[_],[],rfl,Zhk _,rfl⟩,⟨trivial,trivial,trivial,trivial⟩,rfl⟩
   ·cases h
  ·exact ZOh h
  ·split at h
   ·exact ZOh h
   ·exact ZOh h
   ·exact ZOh h
   ·exact ZOh h
   ·split at h
    ·rename_i r' hr
     cases h
     exact ⟨[_],ZOe hr,rfl,trivial,rfl⟩
    ·cases h
   ·split at h
    ·rename_i c r' hc
     cases h
     obtain ⟨c1,h1,h2,h3,h4⟩:=Zwo (fun t cs z r h=>ZGm g h) hc
     exact ⟨c1,h1,h2,h3,h4⟩
    ·cases h
   ·split at h
    ·rename_i c r' hc
     cases h
     obtain ⟨c1,h1,h2,h3,h4⟩:=ZZo (fun cs z r h=>ZGm g h) hc
     exact ⟨c1,h1,h2,h3,h4⟩
    ·cases h
   ·cases h
theorem Z1k {C:Cf} {t:TypeId} {z:V} (h:Z2h C t=some z):∃ y cs,(∀ w,(zeroValue t).run C.P w = .ok y w)∧y.cells=cs.toArray∧RR v γ l false z cs∧z.ok U∧cs.all plain=true:=by
 unfold Z2h at h;split at h
 ·rename_i i hi;split at h
  ·rename_i y hy;split at h
   ·rename_i x hx
    cases h
    obtain ⟨c1,h1,h2,h3,h4⟩:=ZGm (v:=v) (γ:=γ) (l:=l) (U:=U) FU hx;rw [List.append_nil] at h1;refine ⟨y,c1,fun w=>by simp [zeroValue,typeInfo,hi,hy],by rw [← h1],h2,h3,h4⟩
   ·cases h
  ·cases h
 ·cases h
theorem ZFn (hr:RelX N G w0 v0 U X f l a w γ v ℓ) (hU:∀ k,U k→X k) (hX:X n) (hn:¬ U n) {t:TypeId} {o:Oper} {c:V} {cs:List Value} {Post:Unit→Fr→Lo→Prop} (hd:∀ k,o.dst=some k→k<N) (hc:RR v γ l false c cs) (hk:c.ok U) (hp:cs.all plain=true)
  (hrun:(execOp a.eval o).run P w = .ok (.value (.pointer (some ⟨w.heap.size,0,none⟩))) (w.alloc (.cells cs.toArray t))) (h:Zo n (Ev.new n (.box t c) (ret o (.ptr n 0))) f l Post):Zya P N G w0 v0 X o a w Post:=by
 obtain ⟨hnew,h⟩:=h;obtain ⟨E,hE,hpm⟩:=hr.lr;have hst:=(hr.st.perm hpm).newLoc (.cells cs.toArray t) (e:=.box w.heap.size t cs) rfl (heap_alloc_new w _);have hle:Le U v γ l v (Zwc γ n (.box w.heap.size)) (⟨n,n,.box t c⟩ :: l):=⟨Zb.le_refl _,fun k e' hk he=>by
  have hne:n≠k:=fun e=>hn (e ▸ hk);rw [ZP,if_neg hne] at he;refine ⟨e',he,?_⟩;obtain ⟨hm,hk'⟩:=Zy he;obtain ⟨es,hrr⟩:=Zpe hE hm;have:=ZLh (U:=U) (γ':=Zwc γ n (.box w.heap.size)) hrr (Z4b (by rw [hk'];exact fun e=>hne e.symm));rw [hk'] at this;exact this⟩
 have hr':=hr.new (γ':=Zwc γ n (.box w.heap.size)) (L':=.box t c) hX hX hn hnew hE hst (Zb.le_refl _) (fun _ h=>Z4b h) ⟨_,cs,Zbb,Z5a hle hk hc,hp,rfl⟩ (List.Perm.refl _) hk;refine fin (x:=.ptr n 0) (hr'.mono hU fun _ h=>h) hrun hd hX ⟨[_],⟨_,rfl,Zme,fun e' he'=>?_⟩,rfl⟩ hX h;rw [ZP,if_pos rfl] at he';cases he';exact ⟨_,Zbb,rfl⟩
theorem ZBg (hr:RelX N G w0 v0 U X f l a w γ v ℓ) (hU:∀ k,U k→X k) (hX:X n) (hn:¬ U n) {e:TypeId} {s:T} {xs:List s.den} {o:Oper} {ob:Option Nat} {cap:Nat} {cs:List Value} {w':World} {ℓ':List Loc} {E:List (List Loc)} {Post:Unit→Fr→Lo→Prop} (hd:∀ k,o.dst=some k→k<N) (hE:F2 (Zza v γ l) l E) (hℓ:ℓ'=E.flatten)
  (hst:St N w0 v0 [] (.own ob e s.n xs.length cap cs :: ℓ') v a w') (hc:s.rep.rels v cs xs) (hrun:(execOp a.eval o).run P w = .ok (.value (.slice (mkA ob) xs.length cap)) w') (h:Zo n (Ev.new n (.own e s xs false) (ret o (.own n))) f l Post):Zya P N G w0 v0 X o a w Post:=by
 obtain ⟨hnew,h⟩:=h;have hr':=hr.new (γ':=Zwc γ n (.own ob cap)) (L':=.own e s xs false) hX hX hn hnew hE hst (Zb.le_refl _) (fun _ h=>Z4b h) ⟨ob,cap,cs,Zbb,hc,rfl⟩ (by rw [hℓ];exact List.Perm.refl _) trivial;refine fin (x:=.own n) (hr'.mono hU fun _ h=>h) hrun hd hX ⟨[_],⟨_,rfl,by cases ob <;> rfl,fun e' he'=>?_⟩,rfl⟩ hX h;rw [ZP,if_pos rfl] at he';cases he';exact ⟨_,_,Zbb,rfl⟩
theorem Z3l {t:TypeId} {q:EI} (h:Ztf P t=some q):Elem P t q.e q.sz q.by_ q.z∧0<q.by_:=by
 unfold Ztf at h;split at h
 ·rename_i e he;split at h
  ·rename_i i hi;split at h
   ·rename_i z hz;split at h
    ·rename_i h1 h2 h3
     cases h
     have h1:=Nat.eq_of_beq_eq_true h1;have h2:1≤i.size:=Nat.le_of_ble_eq_true h2;have h3:1≤i.bytes:=Nat.le_of_ble_eq_true h3;exact ⟨⟨he,by simp [hi,hz],by simpa using h1,h2⟩,h3⟩
    ·cases h
   ·cases h
  ·cases h
 ·cases h
theorem Z6p {ρ:Type} {g:Nat} {s:T} {c:V} {k:List s.den→Ev ρ} {Post:ρ→Fr→Lo→Prop} (h:Zo n (conv g (.slice s) (.agg c) k) f l Post):False:=by
 cases g with
 | zero=>exact h
 | succ g =>
  cases c with
  | cons x1 c =>
   cases c with
   | cons x2 r=>simp only [conv] at h;exact h
   | nl=>simp only [conv] at h;exact h
   | _=>simp only [conv] at h;exact h
  | _=>simp only [conv] at h;exact h
theorem Z6l {ρ:Type} {g:Nat} {s:T} {x:V} {k:List s.den→Ev ρ} {Post:ρ→Fr→Lo→Prop} (h:Zo n (conv g (.slice s) x k) f l Post):x.isAgg=false∧∀ c,x ≠ .tup c:=by
 cases x with
 | agg c=>exact (Z6p h).elim
 | tup c =>
  cases g with
  | zero=>exact h.elim
  | succ g=>simp only [conv] at h;exact h.elim
 | data t x =>
  refine ⟨?_,fun c e=>by cases e⟩
  cases g with
  | zero=>exact h.elim
  | succ g =>
   simp only [conv] at h;split at h
   ·rename_i y hy;obtain ⟨e,_⟩:=Zda hy;subst e;rfl
   ·split at h
    ·rfl
    ·rfl
    ·rfl
    ·rfl
    ·rfl
    ·split at h
     ·exact (Z6p h).elim
     ·exact h.elim
 | _=>exact ⟨rfl,fun c e=>by cases e⟩
theorem ZYf {x:V} {y:Value} (h:x.isAgg=false):x.val [y]=y:=by unfold V.val;rw [h];rfl
theorem ZCn {u2:Nat} {ty' ty2':TypeId} {s':T} {m':List (List s'.den)} {hv:Nat} {y:Operand} {st:Nat} (hq:RV v γ l (.own u2) (a.eval y)) (he:lkE l u2=some ⟨u2,st,.mat ty' ty2' s' m' hv⟩) {ob:Option Nat} {cap:Nat} {rows:List (Option Nat×Nat)} (q1:γ u2 = .mat ob cap rows):a.eval y = .slice (mkA ob) m'.length cap:=by
 obtain ⟨yq,hyq0,_,hyq⟩:=Z8 hq (fun _ e=>by cases e) rfl rfl;obtain ⟨oq,cq,rq,gq1,gq2⟩:=hyq _ he;rw [q1] at gq1;cases gq1;exact ((List.cons.inj hyq0).1).trans gq2
theorem ZPn (hr:RelX N G w0 v0 U X f l a w γ v ℓ) (hU:∀ k,U k→X k) (hX:X n) (hn:¬ U n) {d:Option Nat} {t:TypeId} {x y:Operand} {o:Oper} {q:V} {pu:Option Nat} {ei:EI} {Post:Unit→Fr→Lo→Prop} (hE:Elem P t ei.e ei.sz ei.by_ ei.z) (hby:0<ei.by_) (ho:o=⟨d,.call ⟨.builtin .append,#[x,y],#[t,t]⟩,ty,pos,aft,g⟩) (hd:∀ k,o.dst=some k→k<N)
  (hp0:pu=none→a.eval x = .slice none 0 0) (hp1:∀ u,pu=some u→RV v γ l (.own u) (a.eval x)) (hq:RV v γ l q (a.eval y)) (h:Zo n (appM o n ei pu q) f l Post):Zya P N G w0 v0 X o a w Post:=by
 unfold appM at h;split at h
 ·rename_i u2;obtain ⟨⟨k2,st2,L2⟩,he2,h⟩:=h;have hkk2:k2=u2:=(Zy he2).2;subst hkk2
  cases L2 with
  | mat ty' ty2' s' m' hv' =>
   simp only at h;obtain ⟨es,E',h1,h2,h2',h3,r2⟩:=hr.del he2;obtain ⟨ob2,cap2,rows2,es3,q1,q2,rfl⟩:=h1;have q1:γ k2 = .mat ob2 cap2 rows2:=q1;have hy0:=ZCn hq he2 q1;have hl2:=Zad (Zxf q2);have hs:=hr.st.perm h3
   cases pu with
   | none =>
    simp only at h;split at h
    ·rename_i b1 b2;have b1:=Nat.eq_of_beq_eq_true b1;have b2:=Nat.eq_of_beq_eq_true b2;obtain ⟨_,hroom,h⟩:=h;obtain ⟨v',hv,hs1,hrel⟩:=hs.pubSlice (i:=0) (A:=Z7c) (l:=Zs rows2 m') rfl rfl hl2.symm (ZCm Zhm) rfl;have hs1:St N w0 v0 [] (es3++E'.flatten) v' a w:=hs1;obtain ⟨σ,hσ,e1,e2⟩:=(hs1.nilLoc ei.e 1).ev2 x y;have hE':Elem P t ei.e Z7c.n ei.by_ ei.z:=by rw [show Z7c.n=ei.sz from b2.symm];exact hE
     obtain ⟨b',cap',cs2,w',hrun,hst',hrel2⟩:=Zuf (ty:=ty) (A:=Z7c) hE' hσ (i:=0) rfl hrel (n':=([]++m').length) (by simp) (ZBd hroom) hby;have hcs:=Zim hrel2;subst hcs;rw [hp0 rfl] at e1;rw [hy0] at e2;have r3:=r2.go hv (hs1.drop (List.sublist_append_right _ _));obtain ⟨E3,hE3,hp3⟩:=r3.lr;have hst':=hst'.bare;have hst3:St N w0 v0 [] (.own b' ty' 1 ([]++m').length cap' (Zs rows2 ([]++m')) :: es3++E3.flatten) v' a w':=by
      rw [← b1];exact hst'.perm (by simp only [List.set_cons_zero,List.cons_append];exact List.Perm.cons _ (List.Perm.append_left _ hp3))
     subst ho;exact Z3j r3 hU hX hn hd hE3 rfl (Zud hv q2) hst3 (ZRd hσ e1 e2 hrun) h
    ·exact h.elim
   | some u =>
    simp only at h;split at h
    ·exact h.elim
    ·rename_i hne;have hne:u≠k2:=fun e=>by subst e;simp at hne
     obtain ⟨⟨k1,st1,L1⟩,he1,h⟩:=h;have hkk1:k1=u:=(Zy he1).2;subst hkk1
     cases L1 with
     | mat ty1 ty2 s m hv =>
      simp only at h;split at h
      ·rename_i m2 hm2 b1 b2 b3 b4;have b1:=Nat.eq_of_beq_eq_true b1;have b2:=Nat.eq_of_beq_eq_true b2;have b3:=Nat.eq_of_beq_eq_true b3;have b4:=Nat.eq_of_beq_eq_true b4;obtain ⟨c3,c4⟩:=Zda hm2
       cases c3;cases c4
       subst b1 b2;obtain ⟨_,hroom,h⟩:=h;have he1':lkE (era l k2) k1=some ⟨k1,st1,.mat ty1 ty2 _ m hv⟩:=by
        rw [ZPb hr.nd,if_neg (fun e=>hne e.symm)];exact he1
       obtain ⟨es1,E1,g1,g2,g2',g3,r3⟩:=r2.del he1';obtain ⟨ob1,cap1,rows1,es4,p1,p2,rfl⟩:=g1;have p1:γ k1 = .mat ob1 cap1 rows1:=p1;have hx0:=ZCn (hp1 k1 rfl) he1 p1;have hl1:=Zxf p2;have hs:St N w0 v0 [] (.own ob2 ty1 1 m'.length cap2 (Zs rows2 m') :: (.own ob1 ty1 1 m.length cap1 (Zs rows1 m) :: (es4++es3++E1.flatten))) v a w:=by
        refine hs.perm ?_;simp only [List.cons_append];refine List.Perm.cons _ ((List.Perm.append_left _ g3).trans ?_);simp only [List.cons_append];refine List.perm_middle.trans (List.Perm.cons _ ?_);rw [← List.append_assoc];exact List.Perm.append_right _ List.perm_append_comm
       obtain ⟨v',hv,hs1,hrel⟩:=hs.pubSlice (i:=0) (A:=Z7c) (l:=Zs rows2 m') rfl rfl hl2.symm (ZCm Zhm) rfl;have hs1:St N w0 v0 [] (.own ob1 ty1 1 m.length cap1 (Zs rows1 m) :: (es4++es3++E1.flatten)) v' a w:=hs1;obtain ⟨σ,hσ,e1,e2⟩:=hs1.ev2 x y;have hE':Elem P t ty1 Z7c.n ei.by_ ei.z:=by rw [show Z7c.n=ei.sz from b4.symm,← b3];exact hE
       obtain ⟨b',cap',cs2,w',hrun,hst',hrel2⟩:=Zuf (ty:=ty) (A:=Z7c) hE' hσ (i:=0) rfl hrel (n':=(m++m').length) (by simp) (ZBd hroom) hby;have hcs:=Zim hrel2;subst hcs;rw [hx0] at e1;rw [hy0] at e2;have r4:=r3.go hv (hs1.drop ((List.sublist_append_right _ _).trans (List.sublist_cons_self _ _)));obtain ⟨E3,hE3,hp3⟩:=r4.lr;have hst':=hst'.bare;have hst3:St N w0 v0 [] (.own b' ty1 1 (m++m').length cap' (Zs (rows1++rows2) (m++m')) :: (es4++es3)++E3.flatten) v' a w':=by
        rw [Ztq hl1];exact hst'.perm (by simp only [List.set_cons_zero,List.cons_append];exact List.Perm.cons _ (List.Perm.append_left _ hp3))
       subst ho;exact Z3j r4 hU hX hn hd hE3 rfl (ZRn (Zud hv p2) (Zud hv q2)) hst3 (ZRd hσ e1 e2 hrun) h
      ·exact h.elim
     | box _ _=>exact h.elim
     | own _ _ _ _=>exact h.elim
     | mid _ _ _ _ _ _=>exact h.elim
  | box _ _=>exact h.elim
  | own _ _ _ _=>exact h.elim
  | mid _ _ _ _ _ _=>exact h.elim
 ·exact h.elim
theorem Zcs (hr:RelX N G w0 v0 U X f l a w γ v ℓ) (hU:∀ k,U k→X k) (hX:X n) (hn:¬ U n) {d:Option Nat} {t:TypeId} {x:Operand} {o:Oper} {p:V} {Post:Unit→Fr→Lo→Prop} (ho:o=⟨d,.load t x,ty,pos,aft,g⟩) (hd:∀ k,o.dst=some k→k<N) (hp:RV v γ l p (a.eval x))
  (h:Zo n (takeE P o n t p) f l Post):Zya P N G w0 v0 X o a w Post:=by
 unfold takeE at h;split at h
 ·exact h.elim
 ·rename_i q hq;split at h
  ·rename_i u i hv cv e r hag;obtain ⟨⟨kk,st,L⟩,he,h⟩:=h;have hkk:kk=u:=(Zy he).2;subst hkk;obtain ⟨y,hy0,_,hy⟩:=Z8 hp (fun _ e=>by cases e) rfl rfl;have hy0:a.eval x=y:=(List.cons.inj hy0).1;have hy:=hy _ he
   cases L with
   | mat ty0 ty2 s' m hv' =>
    simp only at h;split at h
    ·rename_i z b1 b2 hz;have b1:=Nat.eq_of_beq_eq_true b1;have b2:=Nat.eq_of_beq_eq_true b2;subst b1 b2;obtain ⟨c3,c4⟩:=Zda hz
     cases c3;cases c4
     obtain ⟨b,cap,rows,g1,rfl,g3,g4⟩:=hy;obtain ⟨m',c1,c2⟩:=g4 rfl;obtain ⟨c5,c6⟩:=Zda c1
     cases c5;cases c6
     obtain ⟨hkk,es,hes,hmem⟩:=hr.loc he;obtain ⟨ob,cap',rows',es2,q1,q2,rfl⟩:=hes;have q1:γ kk = .mat ob cap' rows':=q1;rw [g1] at q1;cases q1;obtain ⟨p,cs,r1,r2,r3⟩:=Zrf q2 c2;obtain ⟨j,hj⟩:=hmem _ List.mem_cons_self;have hh:=Zbh r1 c2;have hw:WAt w b (0+i*1) [.slice (mkA p.1) r.length p.2]:=by
      have hx:((Zs rows m).drop (i*1)).take 1=[.slice (mkA p.1) r.length p.2]:=by
       have hlt:=(List.getElem?_eq_some_iff.1 hh).1;rw [Nat.mul_one,List.drop_eq_getElem_cons hlt];simp [(List.getElem?_eq_some_iff.1 hh).2]
      have:=ZCc hr.st hj hx g3 0 [.slice (mkA p.1) r.length p.2] rfl (by simp)
      simpa using this
     obtain ⟨cs2,ℓ2,E2,k1,r4,k2,k3,hst⟩:=hr.take hX hn he g1 r1 c2;obtain ⟨σ,hs',e1⟩:=hr.st.ev1 x;rw [hy0] at e1;have ht:=ZYe hq;rw [hag] at ht;subst ho;exact ZBg r4 hU hX hn hd k2 k3 hst k1 (Zca hs' e1 ht hw) h
    ·exact h.elim
   | box _ _=>exact h.elim
   | own _ _ _ _=>exact h.elim
   | mid _ _ _ _ _ _=>exact h.elim
  ·exact h.elim
theorem appE_ok {C:Cf} (hr:RelX N G w0 v0 U X f l a w γ v ℓ) (hU:∀ k,U k→X k) (hX:X n) (hn:¬ U n) {d:Option Nat} {t:TypeId} {x y:Operand} {o:Oper} {p q:V} {Post:Unit→Fr→Lo→Prop} (ho:o=⟨d,.call ⟨.builtin .append,#[x,y],#[t,t]⟩,ty,pos,aft,g⟩) (hd:∀ k,o.dst=some k→k<N) (hp:RV v γ l p (a.eval x)) (hq:RV v γ l q (a.eval y)) (hk:p.ok U) (hkq:q.ok U)
  (h:Zo n (appE C o n t p q) f l Post):Zya C.P N G w0 v0 X o a w Post:=by
 unfold appE at h;split at h
 ·exact h.elim
 ·rename_i ei hei;obtain ⟨hE,hby⟩:=Z3l hei;split at h
  ·rename_i u;obtain ⟨en,he,h⟩:=h;obtain ⟨k0,st0,L⟩:=en
   cases L with
   | own ty0 s xs0 fz0 =>
    obtain ⟨ys,l1,γ1,v1,ℓ1,hB,r1,le1,q1⟩:=Zod hn hX FU h hr hkq;obtain ⟨en,he1,hC⟩:=hB;have hp1:=Zfb le1 hk hp;obtain ⟨yy,hy0,_,hy⟩:=Z8 hp1 (fun _ e=>by cases e) rfl rfl;have hy0:a.eval x=yy:=(List.cons.inj hy0).1;have hy:=hy en he1;obtain ⟨kk,st,L⟩:=en;obtain ⟨hm,hkk⟩:=Zy he1;have hkk:kk=u:=hkk;subst hkk
    cases L with
    | own ty1 s' xs fz =>
     cases fz with
     | true=>exact hC.elim
     | false =>
      simp only at hC;split at hC
      ·rename_i ys' hys ht hs;obtain ⟨c3,c4⟩:=Zda hys
       cases c3;cases c4
       have ht:=Nat.eq_of_beq_eq_true ht;have hs:=Nat.eq_of_beq_eq_true hs;obtain ⟨_,hroom,hC⟩:=hC;obtain ⟨ob,cap,g1,rfl⟩:=hy;obtain ⟨es,E',h1,_,h2,h3,r2⟩:=r1.del he1;obtain ⟨ob',cap',cs,f1,f2,rfl⟩:=h1;have f1:γ1 kk = .own ob' cap':=f1;rw [g1] at f1;cases f1;have hst:=r1.st.perm h3;obtain ⟨σ,hσ,e1,e2⟩:=hst.ev2 x y;obtain ⟨hq1,hq2⟩:=Z6l h;obtain ⟨csq,hcq,hqe⟩:=Zgb hq hq2;have hcq':(ZA s.rep).rel v1 csq ys:=q1 _ hcq;obtain ⟨qa,m,c,rfl⟩:=Z0e hcq';rw [ZYf hq1] at hqe;have hml:m=ys.length:=by obtain ⟨_,_,e,_⟩:=hcq';cases e;rfl
       have hE':Elem C.P t ty1 s.rep.n ei.by_ ei.z:=by rw [ZN,← hs,← ht];exact hE
       have hσ':St N w0 v0 σ (.own ob ty1 s.rep.n xs.length cap cs :: E'.flatten) v1 a w:=by rw [ZN];exact hσ
       obtain ⟨b',cap',cs2,w',hrun,hst',hrel⟩:=Zuf (ty:=ty) (A:=s.rep) hE' hσ' (i:=0) rfl hcq' (n':=(xs++(show List s.den from ys)).length) (by rw [List.length_append,hml]) (ZBd hroom) hby;rw [hy0] at e1;rw [hqe] at e2;have hst':=hst'.bare;rw [ZN] at hst';subst ho;exact ZBg r2 hU hX hn hd h2 rfl hst' (ZVc f2 hrel) (ZRd hσ e1 e2 hrun) hC
      ·exact hC.elim
    | box _ _=>exact hC.elim
    | mid _ _ _ _ _ _=>exact hC.elim
    | mat _ _ _ _ _=>exact hC.elim
   | box _ _=>exact h.elim
   | mid _ _ _ _ _ _=>exact h.elim
   | mat _ _ _ _ _=>exact ZPn hr hU hX hn hE hby ho hd (fun e=>by cases e) (fun u' e=>by cases e;exact hp) hq h
  · -- a row
   rename_i u i hv cv s r;obtain ⟨ys,l1,γ1,v1,ℓ1,hB,r1,le1,q1⟩:=Zod hn hX FU h hr hkq;obtain ⟨⟨kk,st,L⟩,he1,hC⟩:=hB;have hkk:kk=u:=(Zy he1).2;subst hkk;have hp1:=Zfb le1 hk hp;obtain ⟨yy,hy0,_,hy⟩:=Z8 hp1 (fun _ e=>by cases e) rfl rfl;have hy0:a.eval x=yy:=(List.cons.inj hy0).1;have hy:=hy _ he1
   cases L with
   | mat ty1 ty2 s' m hv' =>
    simp only at hC;split at hC
    ·rename_i z b1 b2 hz b3 b4;have b1:=Nat.eq_of_beq_eq_true b1;have b2:=Nat.eq_of_beq_eq_true b2;have b3:=Nat.eq_of_beq_eq_true b3;have b4:=Nat.eq_of_beq_eq_true b4;subst b1 b2;obtain ⟨c3,c4⟩:=Zda hz
     cases c3;cases c4
     obtain ⟨_,hroom,hC⟩:=hC;obtain ⟨ob,cap,rows,obi,capi,g1,g2,rfl,_,g6⟩:=hy rfl;obtain ⟨m',c1,c2⟩:=g6 rfl;obtain ⟨c5,c6⟩:=Zda c1
     cases c5;cases c6
     obtain ⟨cs,ℓ2,E2,k1,r2,k2,k3,hst⟩:=r1.take hX hn he1 g1 g2 c2;obtain ⟨σ,hσ,e1,e2⟩:=hst.ev2 x y;obtain ⟨hq1,hq2⟩:=Z6l h;obtain ⟨csq,hcq,hqe⟩:=Zgb hq hq2;have hcq':(ZA s.rep).rel v1 csq ys:=q1 _ hcq;obtain ⟨qa,mm,c,rfl⟩:=Z0e hcq';rw [ZYf hq1] at hqe;have hml:mm=ys.length:=by obtain ⟨_,_,e,_⟩:=hcq';cases e;rfl
     have hE':Elem C.P t ty2 s.rep.n ei.by_ ei.z:=by rw [ZN,← b4,← b3];exact hE
     have hσ':St N w0 v0 σ (.own obi ty2 s.rep.n r.length capi cs :: ℓ2) v1 a w:=by rw [ZN];exact hσ
     obtain ⟨b',cap',cs2,w',hrun,hst',hrel⟩:=Zuf (ty:=ty) (A:=s.rep) hE' hσ' (i:=0) rfl hcq' (n':=(r++(show List s.den from ys)).length) (by rw [List.length_append,hml]) (ZBd hroom) hby;rw [hy0] at e1;rw [hqe] at e2;have hst':=hst'.bare;rw [ZN] at hst';subst ho;exact ZBg r2 hU hX hn hd k2 k3 hst' (ZVc k1 hrel) (ZRd hσ e1 e2 hrun) hC
    ·exact hC.elim
   | box _ _=>exact hC.elim
   | own _ _ _ _=>exact hC.elim
   | mid _ _ _ _ _ _=>exact hC.elim
  ·split at h
   ·refine ZPn hr hU hX hn hE hby ho hd (fun _=>?_) (fun u' e=>by cases e) hq h;obtain ⟨cs,h1,h2⟩:=hp;have h1:cs=[.slice none 0 0]:=h1;subst h1;exact h2
   split at h
   ·rename_i s hs;split at h
    ·rename_i hsz;have hsz:=Nat.eq_of_beq_eq_true hsz;obtain ⟨ys,l1,γ1,v1,ℓ1,hB,r1,le1,q1⟩:=Zod hn hX FU h hr hkq;obtain ⟨_,hroom,hC⟩:=hB;obtain ⟨E',h2,h3⟩:=r1.lr;have hx0:a.eval x = .slice none 0 0:=by
      obtain ⟨cs,h1,h2⟩:=hp;have h1:cs=[.slice none 0 0]:=h1;subst h1;exact h2
     have hst:=(r1.st.perm h3).nilLoc ei.e s.rep.n;obtain ⟨σ,hσ,e1,e2⟩:=hst.ev2 x y;obtain ⟨hq1,hq2⟩:=Z6l h;obtain ⟨csq,hcq,hqe⟩:=Zgb hq hq2;have hcq':(ZA s.rep).rel v1 csq ys:=q1 _ hcq;obtain ⟨qa,m,c,rfl⟩:=Z0e hcq';rw [ZYf hq1] at hqe;have hml:m=ys.length:=by obtain ⟨_,_,e,_⟩:=hcq';cases e;rfl
     have hE':Elem C.P t ei.e s.rep.n ei.by_ ei.z:=by rw [ZN,← hsz];exact hE
     obtain ⟨b',cap',cs2,w',hrun,hst',hrel⟩:=Zuf (ty:=ty) (A:=s.rep) hE' hσ (i:=0) rfl hcq' (n':=(([]:List s.den)++(show List s.den from ys)).length) (by rw [List.length_append,hml];rfl) (ZBd hroom) hby;rw [hx0] at e1;rw [hqe] at e2;have hst':=hst'.bare;rw [ZN] at hst';subst ho;exact ZBg r1 hU hX hn hd h2 rfl hst' (ZVc ZXe hrel) (ZRd hσ e1 e2 hrun) hC
    ·exact h.elim
   ·exact h.elim
  ·exact h.elim
end
end Go.Eng
namespace Go.Eng
open Go.RowKit
variable {P:Program} {K:Nat} {w0:Base} {v0:Zb} {σ:List (Nat×Value)} {ℓ:List Loc} {v:Zb} {a:Act} {w:World}
variable {d:Option Nat} {ty:TypeId} {pos:String} {aft:Array Edge} {g:Option (Nat×Bool)}
theorem max2_eq (k:IntKind) (p q:Int):(Builtin.max2 (.int k p) (.int k q)).run P w = .ok (.int k (max p q)) w:=by
 simp only [Builtin.max2,Sem.run_pure];congr 2;by_cases h:q>p
 ·rw [if_pos h];omega
 ·rw [if_neg h];omega
theorem min2_eq (k:IntKind) (p q:Int):(Builtin.min2 (.int k p) (.int k q)).run P w = .ok (.int k (min p q)) w:=by
 simp only [Builtin.min2,Sem.run_pure];congr 2;by_cases h:q<p
 ·rw [if_pos h];omega
 ·rw [if_neg h];omega
theorem run_max (hS:St K w0 v0 σ ℓ v a w) {x y:Operand} {k:IntKind} {p q:Int} {ats:Array TypeId} (e:ev σ x=some (.int k p)) (e':ev σ y=some (.int k q)) :
  (execOp a.eval ⟨d,.call ⟨.builtin .max,#[x,y],ats⟩,ty,pos,aft,g⟩).run P w = .ok (.value (.int k (max p q))) w:=by
 simp [execOp,resolve,invoke,builtin,Builtin.max_,hS.eval e,hS.eval e',max2_eq]
theorem run_min (hS:St K w0 v0 σ ℓ v a w) {x y:Operand} {k:IntKind} {p q:Int} {ats:Array TypeId} (e:ev σ x=some (.int k p)) (e':ev σ y=some (.int k q)) :
  (execOp a.eval ⟨d,.call ⟨.builtin .min,#[x,y],ats⟩,ty,pos,aft,g⟩).run P w = .ok (.value (.int k (min p q))) w:=by
 simp [execOp,resolve,invoke,builtin,Builtin.min_,hS.eval e,hS.eval e',min2_eq]
end Go.Eng
namespace Go.Eng
open Go.RowKit
section
variable {Q:Exit→Act→World→Prop} {a:Act} {w:World}
end
end Go.Eng
namespace Go.Eng
open Go.RowKit
end Go.Eng
namespace Go.Eng
open Go.RowKit
theorem Zos (off:Nat):∀ (l:List Value) (k:Nat) (acc:Array Value),off+k+l.length≤acc.size→(l.zipIdx k).foldl (fun cs (c,j)=>cs.setIfInBounds (off+j) c) acc=(acc.toList.take (off+k)++l++acc.toList.drop (off+k+l.length)).toArray:=by
 intro l
 induction l with
 | nil=>intro k acc h;simp
 | cons y l ih =>
  intro k acc h;simp only [List.zipIdx_cons,List.foldl_cons];rw [ih (k+1) _ (by simp at h ⊢;omega)];congr 1;simp only [Array.toList_setIfInBounds];simp only [List.length_cons] at h;have hlt:off+k<acc.toList.length:=by simp;omega
  rw [List.take_set,List.drop_set_of_lt (by omega)];rw [List.set_eq_take_append_cons_drop,if_pos (by simp;simp at hlt;omega)];rw [List.take_take,Nat.min_eq_left (by omega)];have e1:((acc.toList.take (off+(k+1))).drop (off+k+1))=[]:=List.drop_of_length_le (by simp;omega);rw [e1];simp;congr 1;omega
theorem ZLk {place:Nat→Option (Nat×Nat)} {cells:Array Value} {i:Nat} {x:Value} {cs:List Value} {rest:List (Nat×Value)} {off:Nat} (hp:place i=some (off,cs.length)) (hx:x.cells=cs.toArray) (hc:off+cs.length≤cells.size) :
  Instr.fill place cells ((i,x) :: rest)=Instr.fill place (cells.toList.take off++cs++cells.toList.drop (off+cs.length)).toArray rest:=by
 have h1:¬ (x.cells.size≠cs.length || decide (off+x.cells.size>cells.size)):=by simp [hx,hc]
 conv=>lhs;unfold Instr.fill
 simp only [hp];rw [if_neg h1,hx];have:=Zos off cs 0 cells (by omega);rw [← Array.foldl_toList];congr 1
 simpa using this
section
variable {P:Program} {N:Nat} {G:V→Value→Prop} {w0:Base} {v0:Zb} {U X:Nat→Prop} {f:Fr} {l:Lo} {a:Act} {w:World} {γ:Nat→Gh} {v:Zb} {ℓ:List Loc} {n:Nat}
variable {ty:TypeId} {pos:String} {aft:Array Edge} {g:Option (Nat×Bool)}
theorem Zqf {ρ:Type} (hr:RelX N G w0 v0 U X f l a w γ v ℓ):∀ {xs:List Operand} {k:V→Ev ρ} {Post:ρ→Fr→Lo→Prop},Zo n (ZPd xs k) f l Post→∃ c,RR v γ l true c (xs.map a.eval)∧c.ok U∧Zo n (k c) f l Post
 | [],k,Post,h=>⟨.nl,rfl,trivial,h⟩
 | x :: xs,k,Post,h=>by
  obtain ⟨V',h1,h2,h3⟩:=ZT hr h
  have hnt:∀ c,V' ≠ .tup c:=fun c e=>by subst e;exact h3.elim
  have h3':Zo n (ZPd xs fun c=>k (.cons V' c)) f l Post:=by
   cases V' <;> first | exact h3 | exact h3.elim
  obtain ⟨c,k1,k2,k3⟩:=Zqf hr h3';obtain ⟨cs,q1,q2⟩:=Zgb h1 hnt;exact ⟨.cons V' c,⟨cs,_,by rw [List.map_cons,q2],q1,k1⟩,⟨h2,k2⟩,k3⟩
theorem Z3q {ρ:Type} {g:Nat} {t:T} {x:V} {k:t.den→Ev ρ} {Post:ρ→Fr→Lo→Prop} (h:Zo n (conv g t x k) f l Post):x.isAgg=true∨x.isAgg=false∧x.size=1:=by
 cases x with
 | data s x =>
  cases ha:s.agg with
  | true=>exact .inl ha
  | false=>exact .inr ⟨ha,T_one ha⟩
 | nilS=>exact .inr ⟨rfl,rfl⟩
 | own u=>exact .inr ⟨rfl,rfl⟩
 | agg c=>exact .inl rfl
 | _ =>
  cases g with
  | zero=>exact h.elim
  | succ g=>simp only [conv] at h;exact h.elim
theorem Zyv {x:V} {cs:List Value} (hf:x.isAgg=true∨x.isAgg=false∧x.size=1) (h:RR v γ l false x cs) (hp:cs.all plain=true):(x.val cs).cells=cs.toArray:=by
 rcases hf with ha | ⟨ha,hs⟩
 ·unfold V.val;rw [ha];rfl
 ·have e:=Z9f h hs ha;have hv:x.val cs=cs.headD undef:=by unfold V.val;rw [ha]
  rw [hv] at e ⊢;rw [e] at hp;have hp':plain (cs.headD undef)=true:=by simpa using hp
  have:=Zib hp'
  conv=>rhs;rw [e]
  exact this
theorem ZOq {ρ:Type} {t:T} (hn:¬ U n) (hX:X n):∀ {c:V} {k:List t.den→Ev ρ} {l:Lo} {γ:Nat→Gh} {v:Zb} {ℓ:List Loc} {Post:ρ→Fr→Lo→Prop},Zo n (convS t c k) f l Post→RelX N G w0 v0 U X f l a w γ v ℓ→c.ok U →
  ∃ xs l' γ' v' ℓ',Zo n (k xs) f l' Post∧RelX N G w0 v0 U X f l' a w γ' v' ℓ'∧Le U v γ l v' γ' l'∧∀ vals,RR v γ l true c vals→∃ css:List (List Value),t.rep.rels v' css.flatten xs∧css.length=xs.length∧vals.map Value.cells=css.map List.toArray∧∀ cs ∈ css,cs.length=t.n:=by
 intro c
 induction c with
 | nl =>
  intro k l γ v ℓ Post h hr hk;obtain ⟨E,hE,_⟩:=hr.lr;exact ⟨[],l,γ,v,ℓ,h,hr,Le.refl hE (Zb.le_refl _),fun vals hv=>⟨[],rfl,rfl,by rw [show vals=[] from hv];rfl,fun _ h=>by cases h⟩⟩
 | cons x c _ ih =>
  intro k l γ v ℓ Post h hr hk;have hfit:=Z3q (n:=n) (f:=f) (l:=l) (g:=FU) (t:=t) (x:=x) h;obtain ⟨y,l1,γ1,v1,ℓ1,h,r1,le1,q1⟩:=Zod hn hX FU h hr hk.1;obtain ⟨ys,l2,γ2,v2,ℓ2,h,r2,le2,q2⟩:=ih h r1 hk.2;refine ⟨y :: ys,l2,γ2,v2,ℓ2,h,r2,le1.trans le2,fun vals hv=>?_⟩;obtain ⟨cs,vs,rfl,h1,h2⟩:=hv;have hrel:=q1 cs h1;obtain ⟨css,k1,k2,k3,k4⟩:=q2 vs (Z5a le1 hk.2 h2);refine ⟨cs :: css,⟨cs,css.flatten,rfl,Rep.mono _ le2.v hrel,k1⟩,by simp [k2],?_,fun c hc=>?_⟩
  ·rw [List.map_cons,List.map_cons,k3,Zyv hfit h1 (Rep.flat _ hrel)]
  ·rcases List.mem_cons.1 hc with rfl | hc
   ·rw [Rep.len _ hrel,ZN]
   ·exact k4 c hc
 | _=>intro k l γ v ℓ Post h;exact h.elim
theorem Zrm {sz:Nat}:∀ (css:List (List Value)) (vals:List Value) (k:Nat) (cells:Array Value),vals.map Value.cells=css.map List.toArray→(∀ cs ∈ css,cs.length=sz)→cells.size=(k+css.length)*sz →
  Instr.fill (fun i=>some (i*sz,sz)) cells (vals.zipIdx k |>.map fun p=>(p.2,p.1))=some (cells.toList.take (k*sz)++css.flatten).toArray
 | [],[],k,cells,_,_,hc=>by
  simp only [List.length_nil,Nat.add_zero] at hc
  simp only [List.zipIdx_nil,List.map_nil,Instr.fill,List.flatten_nil,List.append_nil]
  rw [List.take_of_length_le (by simp [hc])]
 | cs :: css,x :: vals,k,cells,h,hs,hc=>by
  simp only [List.map_cons,List.cons.injEq] at h
  have hl:=hs cs (by simp)
  simp only [List.length_cons] at hc
  have hb:k*sz+sz+css.length*sz=cells.size:=by rw [hc,Nat.add_mul,Nat.succ_mul];omega
  simp only [List.zipIdx_cons,List.map_cons]
  rw [ZLk (cs:=cs) (off:=k*sz) (by rw [hl]) h.1 (by omega)]
  rw [Zrm css vals (k+1) _ h.2 (fun c hc=>hs c (by simp [hc])) (by
   simp only [List.size_toArray,List.length_append,List.length_take,List.length_drop,Array.length_toList]
   rw [hl,Nat.min_eq_left (by omega),Nat.add_mul,Nat.succ_mul];omega)]
  congr 2
  have e1:(cells.toList.take (k*sz)).length=k*sz:=by simp;omega
  rw [List.flatten_cons,← List.append_assoc,Nat.succ_mul]
  congr 1
  rw [List.take_append,List.take_of_length_le (by simp [hl];omega)]
  rw [show k*sz+sz-(cells.toList.take (k*sz)++cs).length=0 by rw [List.length_append,e1,hl];omega]
  simp
 | [],_ :: _,_,_,h,_,_=>by simp at h
 | _ :: _,[],_,_,h,_,_=>by simp at h
theorem ZMp:∀ {ps:List (Nat×Operand)} {k:Nat},Z9i k ps=true→ps.map (fun p=>(p.1,a.eval p.2))=((ps.map fun p=>a.eval p.2).zipIdx k).map fun p=>(p.2,p.1)
 | [],_,_=>rfl
 | p :: ps,k,h=>by
  simp only [Z9i] at h
  split at h
  ·rename_i hb
   have hb:=Nat.eq_of_beq_eq_true hb
   simp only [List.map_cons,List.zipIdx_cons]
   rw [ZMp h,hb]
  ·cases h
theorem ZXm {t e:TypeId} {m sz:Nat} {inf:TypeInfo} {z:Value} {L:List (Nat×Value)} {cs:List Value} (ht:P.underlying t=some (.slice e)) (hi:P.info? e=some inf) (hz:inf.zero=some z) (hs:inf.size=sz) (hb:m*sz≤16777216)
  (hf:∀ zc:Array Value,Instr.fill (fun i=>some (i*sz,sz)) ((Array.range (m*sz)).map (fun i=>zc[i%zc.size]!)) L=some cs.toArray) (w:World):(Instr.buildSlice t m L.toArray).run P w = .ok (.slice (some ⟨w.heap.size,0,none⟩) m m) (w.alloc (.cells cs.toArray e)):=by
 subst hs;have hb:¬ (m*inf.size>2^24):=by omega
 unfold Instr.buildSlice;by_cases h0:m*inf.size=0
 ·have:=hf #[];simp only [h0] at this;simp [run_underlying ht,sizeOf,typeInfo,hi,h0] ; simp at this;simp [this,newRow]
 ·have:=hf z.cells;obtain ⟨A,hA⟩:∃ A,A=(Array.range (m*inf.size)).map (fun i=>z.cells[i%z.cells.size]!):=⟨_,rfl⟩;rw [← hA] at this;simp only [run_underlying ht,sizeOf,typeInfo,zeroValue];simp [run_underlying ht,typeInfo,hi,hz,h0,show ¬ (16777216<m*inf.size) by omega];rw [← hA,this];simp [newRow]
theorem ZBs {C:Cf} (hr:RelX N G w0 v0 U X f l a w γ v ℓ) (hU:∀ k,U k→X k) (hX:X n) (hn:¬ U n) {d:Option Nat} {t:TypeId} {m:Nat} {ps:Array (Nat×Operand)} {o:Oper} {Post:Unit→Fr→Lo→Prop} (ho:o=⟨d,.buildSlice t m ps,ty,pos,aft,g⟩) (hd:∀ k,o.dst=some k→k<N)
  (h:Zo n (ZY C n o) f l Post):Zya C.P N G w0 v0 X o a w Post:=by
 subst ho;simp only [ZY] at h;split at h
 ·rename_i q hq;obtain ⟨hE,hby⟩:=Z3l hq;split at h
  ·split at h
   ·rename_i x hps hps2;have hps:=hps;obtain ⟨V1,h1,hk1,h⟩:=ZT hr h;split at h
    ·rename_i u2 q2 _ hq2 _;obtain ⟨⟨k2,st2,L2⟩,he2,h⟩:=h;have hkk2:k2=u2:=(Zy he2).2;subst hkk2
     cases L2 with
     | own ty2 s xs fz =>
      cases fz with
      | true=>exact h.elim
      | false =>
       simp only at h;split at h
       ·rename_i b1 b2 b3;have b3:=Nat.eq_of_beq_eq_true b3;obtain ⟨es,E',g1,g2,g2',g3,r2⟩:=hr.del he2;obtain ⟨ob2,cap2,cs2,f1,f2,rfl⟩:=g1;have f1:γ k2 = .own ob2 cap2:=f1;have hy0:a.eval x = .slice (mkA ob2) xs.length cap2:=by
         obtain ⟨yq,hyq0,_,hyq⟩:=Z8 h1 (fun _ e=>by cases e) rfl rfl;obtain ⟨oq,cq,gq1,gq2⟩:=hyq _ he2;rw [f1] at gq1;cases gq1;exact ((List.cons.inj hyq0).1).trans gq2
        have hcells:(Value.slice (mkA ob2) xs.length cap2).cells=[Value.slice (mkA ob2) xs.length cap2].toArray:=by cases ob2 <;> rfl
        have hz:∀ w,(Instr.buildSlice t 1 (ps.toList.map fun p=>(p.1,a.eval p.2)).toArray).run C.P w = .ok (.slice (some ⟨w.heap.size,0,none⟩) 1 1) (w.alloc (.cells [Value.slice (mkA ob2) xs.length cap2].toArray q.e)):=by
         intro w;obtain ⟨inf,hinf,hzz,hsz',hby'⟩:=info_parts hE.info;rw [hps,List.map_singleton];simp only [hy0];refine ZXm (sz:=1) hE.ty hinf hzz (hsz'.trans b3) (by decide) (fun zc=>?_) w;have:=Zrm (sz:=1) [[Value.slice (mkA ob2) xs.length cap2]] [Value.slice (mkA ob2) xs.length cap2] 0 ((Array.range (1*1)).map (fun i=>zc[i%zc.size]!)) (by simp [hcells]) (fun cs hc=>by rw [List.mem_singleton.1 hc];rfl) (by simp)
         simpa using this
        have hst:=hr.st.perm g3;obtain ⟨σ,hσ,hev⟩:=hst.evs (ps.toList.map (·.2));obtain ⟨b,w',hrun,hst'⟩:=Zlf (P:=C.P) (t:=t) (e:=q.e) (sz:=1) hσ (by simp) (by decide) hz;have hev':ps.toList.map (fun p=>(ev σ p.2).map fun y=>(p.1,y))=(ps.toList.map fun p=>(p.1,a.eval p.2)).map some:=by
         rw [List.map_map];refine List.map_congr_left fun p hp=>?_;rw [hev p.2 (List.mem_map.2 ⟨p,hp,rfl⟩)];rfl
        exact Z3j (rows:=[(ob2,cap2)]) (m:=[xs]) r2 hU hX hn hd g2' rfl ⟨cs2,[],f2,rfl,rfl⟩ hst'.bare (hrun (d:=d) (ty:=ty) (pos:=pos) (aft:=aft) (g:=g) hev') h
       ·exact h.elim
     | box _ _=>exact h.elim
     | mat _ _ _ _ _=>exact h.elim
     | mid _ _ _ _ _ _=>exact h.elim
    ·exact h.elim
   ·exact h.elim
  split at h
  ·rename_i s hs ho hlen hbig;have hlen:=Nat.eq_of_beq_eq_true hlen;have hbig:=Nat.le_of_ble_eq_true hbig;split at h
   ·rename_i hsz;have hsz:=Nat.eq_of_beq_eq_true hsz;obtain ⟨c,h1,h2,h⟩:=Zqf hr h;obtain ⟨xs,l1,γ1,v1,ℓ1,h,r1,le1,q1⟩:=ZOq hn hX h hr h2;obtain ⟨css,k1,k2,k3,k4⟩:=q1 _ h1;obtain ⟨E,hEE,hp⟩:=r1.lr;have hvl:css.length=m:=by
     have:=congrArg List.length k3;simp only [List.length_map] at this;omega
    have hflat:css.flatten.length=m*q.sz:=by
     have:=ZGd k1;rw [ZN,← k2,hvl,← hsz] at this;exact this
    have hz:∀ w,(Instr.buildSlice t m (ps.toList.map fun p=>(p.1,a.eval p.2)).toArray).run C.P w = .ok (.slice (some ⟨w.heap.size,0,none⟩) m m) (w.alloc (.cells css.flatten.toArray q.e)):=by
     intro w;obtain ⟨inf,hinf,hzz,hsz',hby'⟩:=info_parts hE.info;rw [ZMp ho];have hm:(ps.toList.map fun p=>a.eval p.2)=(ps.toList.map (·.2)).map a.eval:=by rw [List.map_map];rfl
     rw [hm];have hf:∀ zc:Array Value,Instr.fill (fun i=>some (i*q.sz,q.sz)) ((Array.range (m*q.sz)).map (fun i=>zc[i%zc.size]!)) ((((ps.toList.map (·.2)).map a.eval).zipIdx).map fun p=>(p.2,p.1))=some css.flatten.toArray:=fun zc=>by
      have:=Zrm (sz:=q.sz) css ((ps.toList.map (·.2)).map a.eval) 0 ((Array.range (m*q.sz)).map (fun i=>zc[i%zc.size]!)) k3 (fun cs hc=>by rw [k4 cs hc,hsz]) (by simp [hvl]);rw [Nat.zero_mul,List.take_zero,List.nil_append] at this;exact this
     obtain ⟨L,hL⟩:∃ L,L=((((ps.toList.map (·.2)).map a.eval).zipIdx).map fun p=>(p.2,p.1)):=⟨_,rfl⟩;rw [← hL] at hf ⊢;clear hL;exact ZXm hE.ty hinf hzz hsz' hbig hf w
    have hst:=r1.st.perm hp;obtain ⟨σ,hσ,hev⟩:=hst.evs (ps.toList.map (·.2));have hmax:m≤maxLen:=by
     have h1:m≤m*q.sz:=Nat.le_mul_of_pos_right _ hE.pos;unfold maxLen;omega
    obtain ⟨b,w',hrun,hst'⟩:=Zlf (P:=C.P) (t:=t) (e:=q.e) hσ hflat hmax hz;have hev':ps.toList.map (fun p=>(ev σ p.2).map fun y=>(p.1,y))=(ps.toList.map fun p=>(p.1,a.eval p.2)).map some:=by
     rw [List.map_map];refine List.map_congr_left fun p hp=>?_;rw [hev p.2 (List.mem_map.2 ⟨p,hp,rfl⟩)];rfl
    have hxl:m=xs.length:=by omega
    have hst':=hst'.bare;rw [hsz,hxl] at hst';have hrun':=hrun (d:=d) (ty:=ty) (pos:=pos) (aft:=aft) (g:=g) hev'
    conv at hrun'=>rhs;rw [hxl]
    exact ZBg r1 hU hX hn hd hEE rfl hst' k1 hrun' h
   ·exact h.elim
  ·exact h.elim
 ·exact h.elim
end
end Go.Eng
namespace Go.Eng
open Go.RowKit
section
variable {P:Program} {K:Nat} {w0:Base} {v0:Zb} {σ:List (Nat×Value)} {ℓ:List Loc} {v:Zb} {a:Act} {w:World}
variable {d:Option Nat} {ty:TypeId} {pos:String} {aft:Array Edge} {g:Option (Nat×Bool)}
theorem ZLs (w:World) (dT sT ty elem:TypeId) (i:TypeInfo) (g o dLen dCap:Nat) (a:Addr) (sLen sCap:Nat) (cur:Array Value) (t:TypeId) (cs:List Value)
  (hu:P.underlying dT=some (.slice elem)) (hi:P.info? elem=some i) (hg:w.heap[g]? = some (.cells cur t (0,0))) (hn:cs.length=Nat.min sLen dLen*i.size)
  (hsrc:∀ j v,cs[j]? = some v→w.cell? (a.add j)=some v) (hfit:o+cs.length≤cur.size) (h1:∀ v ∈ cs,v.oneCell'=true) :
  (Builtin.copy_ #[dT,sT] ty #[.slice (some ⟨g,o,none⟩) dLen dCap,.slice (some a) sLen sCap]).run P w =
   .ok (goInt (Nat.min sLen dLen)) (w.setRow g (cur.toList.take o++cs++cur.toList.drop (o+cs.length)).toArray):=by
 have hl:=run_loadCells_list (P:=P) w a cs hsrc;have hst:=run_storeCells_at P g o t cs 0 cur w hg (by simpa using hfit) h1;simp [Builtin.copy_,run_underlying hu,Builtin.lenOf,Builtin.firstCells,sizeOf,typeInfo,hi,← hn,hl,hst]
theorem Z6o {t e sT:TypeId} {sz bytes:Nat} {z:Value} (E:Elem P t e sz bytes z) (hS:St K w0 v0 σ ℓ v a w) {i n cap b:Nat} {cs:List Value} (hi:ℓ[i]? = some (.own (some b) e sz n cap cs)) {p k:Nat} {c:List Value}
  (hc:c.length=k*sz) (hp:p+k≤n) (hpl:c.all plain=true) {ad:Addr} {sLen sCap dLen dCap:Nat} (hsrc:∀ j u,c[j]? = some u→w.cell? (ad.add j)=some u) (hk:Nat.min sLen dLen=k) :
  ∃ w',(∀ ty,(Builtin.copy_ #[t,sT] ty #[.slice (some ⟨b,p*sz,none⟩) dLen dCap,.slice (some ad) sLen sCap]).run P w = .ok (.int .i64 k) w') ∧
   St K w0 v0 σ (ℓ.set i (.own (some b) e sz n cap (cs.take (p*sz)++c++cs.drop (p*sz+c.length)))) v a w':=by
 obtain ⟨inf,hinf,hz,hs,hby⟩:=info_parts E.info;obtain ⟨hcl,cur,hg,hnc,hcx,hcs,htake⟩:=(hS.loc _ (List.mem_of_getElem? hi)).1;have h1:p*sz+c.length≤n*sz:=by rw [hc,← Nat.add_mul];exact Nat.mul_le_mul_right _ hp
 have h2:n*sz≤cap*sz:=Nat.mul_le_mul_right _ hnc;have hcl2:cur.toList.length=cap*sz:=by simpa using hcs
 refine ⟨_,fun ty=>?_,hS.setRow hi rfl rfl (c:=(cur.toList.take (p*sz)++c++cur.toList.drop (p*sz+c.length)).toArray) ⟨?_,_,setRow_heap w b cur _ e _ hg,hnc,hcx,?_,?_⟩⟩
 ·have:=ZLs (P:=P) w t sT ty e inf b (p*sz) dLen dCap ad sLen sCap cur e c E.ty hinf hg (by rw [hk,hs];exact hc) hsrc (by omega) (ZZm hpl);rw [this,hk];rfl
 ·simp;omega
 ·simp;omega
 ·show List.take (n*sz) (_++_++_)=_;rw [Zln _ _ _ _ h1 (by omega),htake]
end
end Go.Eng
namespace Go.Eng
open Go.RowKit
def OwnI {α:Type} (A:Rep α) (T:TypeId) (sz:Nat) (l:List α) (ob0:Option Nat) (w:World) (r:Value) (v':Zb) (w':World):Prop :=
 ∃ ob n cap cs,r = .slice (mkA ob) n cap∧(Loc.own ob T sz n cap cs).holds w'∧(∀ b,ob=some b→(w.heap.size≤b∨ob0=some b)∧v' b=none)∧A.rels v' cs l∧n=l.length
section
variable {P:Program} {K:Nat} {w0:Base} {v0:Zb} {σ:List (Nat×Value)} {ℓ:List Loc} {v:Zb} {a:Act} {w:World}
theorem St.afterI {v':Zb} {w':World} (h:St K w0 v0 σ ℓ v a w) {i:Nat} {e e':Loc} (hi:ℓ[i]? = some e) (x:ExtB ⟨w,e.blk.toList⟩ w') (s:VStepB ⟨w,e.blk.toList⟩ v w' v') (hh:e'.holds w') (hb':∀ b,e'.blk=some b→(w.heap.size≤b∨e.blk=some b)∧v' b=none) :
  St K w0 v0 σ (e' :: ℓ.eraseIdx i) v' a w':=by
 obtain ⟨he,hv⟩:=h.loc e (List.mem_of_getElem? hi);have nl:∀ k,k<w0.wd.heap.size→k ∉ w0.lent→k ∉ e.blk.toList:=fun k hk hl hm=>by
  have hm:e.blk=some k:=by simpa using hm
  rcases (hv k hm).1 with h' | h'
  ·omega
  ·exact hl h'
 have oth:∀ j y,ℓ[j]? = some y→j≠i→∀ b',y.blk=some b'→b'<w.heap.size∧e.blk≠some b'∧b' ∉ e.blk.toList:=fun j y hj hji b' hb2=>by
  obtain ⟨c2,T2,hg2⟩:=Loc.blk_get (h.loc y (List.mem_of_getElem? hj)).1 hb2;have hne:e.blk≠some b':=fun hb=>ZGh h.nd hi hb j y hj hji b' hb2 rfl;exact ⟨Zef hg2,hne,by simpa using hne⟩
 refine ⟨h.size,h.dfr,h.fr,⟨x.os.trans h.ext.os,x.tape.trans h.ext.tape,x.output.trans h.ext.output,Nat.le_trans h.ext.size x.size,fun k hk hl=>?_⟩,⟨Zb.le_trans h.vst.le s.le,s.vin,fun k hk hl=>?_⟩,fun y hy=>?_,?_⟩
 ·rw [x.block k (Nat.lt_of_lt_of_le hk h.ext.size) (nl k hk hl)];exact h.ext.block k hk hl
 ·rw [s.old k (Nat.lt_of_lt_of_le hk h.ext.size) (nl k hk hl)];exact h.vst.old k hk hl
 ·rcases List.mem_cons.1 hy with rfl | hy
  ·refine ⟨hh,fun b hb=>⟨?_,(hb' b hb).2⟩⟩;rcases (hb' b hb).1 with h1 | h1
   ·exact .inl (Nat.le_trans h.ext.size h1)
   ·exact (hv b h1).1
  ·obtain ⟨j,hji,hj⟩:=List.mem_eraseIdx_iff_getElem?.1 hy;obtain ⟨h1,h2⟩:=h.loc y (List.mem_of_getElem? hj);have same:∀ b',y.blk=some b'→w'.heap[b']? = w.heap[b']?:=fun b' hb2=>by
    obtain ⟨o1,o2,o3⟩:=oth j y hj hji b' hb2;exact x.block b' o1 o3
   refine ⟨?_,fun b' hb2=>⟨(h2 b' hb2).1,?_⟩⟩
   ·cases y with
    | box b' T' cs=>show _=_;rw [same b' rfl];exact h1
    | own b' T' sz n cap cs =>
     cases b' with
     | none=>exact h1
     | some b'=>obtain ⟨k1,c',k2,k3⟩:=h1;exact ⟨k1,c',by rw [same b' rfl];exact k2,k3⟩
   ·obtain ⟨o1,o2,o3⟩:=oth j y hj hji b' hb2;rw [s.old b' o1 o3];exact (h2 b' hb2).2
 ·have hsub:((ℓ.eraseIdx i).filterMap Loc.blk).Nodup:=h.nd.sublist ((List.eraseIdx_sublist ..).filterMap _)
  cases hb:e'.blk with
  | none=>rw [List.filterMap_cons_none hb];exact hsub
  | some b =>
   rw [List.filterMap_cons_some hb];refine List.nodup_cons.2 ⟨fun hm=>?_,hsub⟩;obtain ⟨y,hy,hyb⟩:=List.mem_filterMap.1 hm;obtain ⟨j,hji,hj⟩:=List.mem_eraseIdx_iff_getElem?.1 hy;obtain ⟨o1,o2,o3⟩:=oth j y hj hji b hyb;rcases (hb' b hb).1 with h1 | h1
   ·omega
   ·exact o2 h1
variable {d:Option Nat} {ty:TypeId} {pos:String} {aft:Array Edge} {g:Option (Nat×Bool)}
theorem Z7s (hS:St K w0 v0 σ ℓ v a w) {t e:TypeId} {sz b o n cap p:Nat} {x lo:Operand} {k:IntKind} (ht:ZQc P t e sz) (e1:ev σ x=some (.slice (some ⟨b,o,none⟩) n cap)) (e2:ev σ lo=some (.int k (p:Int))) (hp:p≤n) (hc:p<cap) :
  (execOp a.eval ⟨d,.slice t x (some lo) none none,ty,pos,aft,g⟩).run P w = .ok (.value (.slice (some ⟨b,o+p*sz,none⟩) (n-p) (cap-p))) w:=by
 have h1:(0:Int)≤(p:Int)∧(p:Int)≤(n:Int):=by omega
 have h2:¬ cap=p:=by omega
 simp [execOp,Instr.sliceAt,Instr.slice,Instr.sliceBounds,Instr.sliceBound,asIntOf,hS.eval e1,hS.eval e2,ht.1,ht.2,hp,h2,Zjb]
theorem Z9t (hS:St K w0 v0 σ ℓ v a w) {t e:TypeId} {sz b n cap p:Nat} {x hi:Operand} {k:IntKind} (ht:ZQc P t e sz) (e1:ev σ x=some (.slice (some ⟨b,0,none⟩) n cap)) (e2:ev σ hi=some (.int k (p:Int))) (hp:p≤cap) (hc:0<cap) :
  (execOp a.eval ⟨d,.slice t x none (some hi) none,ty,pos,aft,g⟩).run P w = .ok (.value (.slice (some ⟨b,0,none⟩) p cap)) w:=by
 have h1:(0:Int)≤(p:Int)∧(p:Int)≤(cap:Int):=by omega
 have h2:¬ cap=0:=by omega
 simp [execOp,Instr.sliceAt,Instr.slice,Instr.sliceBounds,Instr.sliceBound,asIntOf,hS.eval e1,hS.eval e2,ht.1,ht.2,hp,h2,Zjb]
theorem ZCp (hS:St K w0 v0 σ ℓ v a w) {t t':TypeId} {x y:Operand} {p q r:Value} {w':World} (e:ev σ x=some p) (e':ev σ y=some q) (h:(Builtin.copy_ #[t,t'] ty #[p,q]).run P w = .ok r w') :
  (execOp a.eval ⟨d,.call ⟨.builtin .copy,#[x,y],#[t,t']⟩,ty,pos,aft,g⟩).run P w = .ok (.value r) w':=by
 simp [execOp,resolve,invoke,builtin,hS.eval e,hS.eval e',h]
end
end Go.Eng
namespace Go.Eng
open Go.RowKit
def Zjf {α:Type} (by_:Nat) (l:List α):Option (List α):=bnd (Z5 by_ l) fun _=>some l
theorem Z9r {α:Type} {by_:Nat} {l z:List α} (h:Zjf by_ l=some z):l.length*by_≤140737488355328∧z=l:=by
 obtain ⟨_,h1,h2⟩:=ZE h;exact ⟨ZBd h1,(Option.some.inj h2).symm⟩
def repF {α:Type} (by_:Nat) (x:List α) (n:Int):Option (List α):=match x with
 | [z]=>bnd (mk by_ n n) fun _=>some (List.replicate n.toNat z)
 | _=>none
theorem ZPq {α:Type} {by_:Nat} {x r:List α} {n:Int} (h:repF by_ x n=some r):∃ z,x=[z]∧r=List.replicate n.toNat z∧mk by_ n n=some ():=by
 unfold repF at h;split at h
 ·obtain ⟨_,h1,h2⟩:=ZE h;exact ⟨_,rfl,(Option.some.inj h2).symm,h1⟩
 ·cases h
theorem Zpj {c:List Value} {sz:Nat} (h:c.length=sz) (n:Nat):((List.replicate n c).flatten).length=n*sz:=by
 rw [List.length_flatten,List.map_replicate,h,List.sum_replicate_nat]
theorem Z6s {c:List Value} (h:c.all plain=true) (n:Nat):((List.replicate n c).flatten).all plain=true:=by
 rw [List.all_eq_true];intro x hx;obtain ⟨l,hl,hxl⟩:=List.mem_flatten.1 hx;rw [(List.mem_replicate.1 hl).2] at hxl;exact List.all_eq_true.1 h x hxl
theorem Zfp {c:List Value} {m n:Nat} (h:m≤n):(List.replicate n c).flatten=(List.replicate m c).flatten++(List.replicate (n-m) c).flatten:=by
 obtain ⟨k,rfl⟩:=Nat.exists_eq_add_of_le h;rw [Nat.add_sub_cancel_left,← List.flatten_append,List.replicate_append_replicate]
theorem rp_step {c z:List Value} {sz j m k:Nat} (hc:c.length=sz) (hz:z.length=sz) (h:j+m≤k):((List.replicate j c).flatten++(List.replicate (k-j) z).flatten).take (j*sz)++(List.replicate m c).flatten++((List.replicate j c).flatten++(List.replicate (k-j) z).flatten).drop (j*sz+((List.replicate m c).flatten).length)=(List.replicate (j+m) c).flatten++(List.replicate (k-(j+m)) z).flatten:=by
 have h1:=Zpj hc j;have h2:=Zpj hz m;rw [Zpj hc m,List.take_left' h1,← List.flatten_append,List.replicate_append_replicate,List.drop_append,h1,List.drop_of_length_le (by rw [h1];omega),List.nil_append,Nat.add_sub_cancel_left,Zfp (m:=m) (n:=k-j) (by omega),List.drop_left' h2,Nat.sub_sub]
section
variable {P:Program} {K:Nat} {w0:Base} {v0:Zb} {σ:List (Nat×Value)} {ℓ:List Loc} {v:Zb} {a:Act} {w:World}
variable {d:Option Nat} {ty:TypeId} {pos:String} {aft:Array Edge} {g:Option (Nat×Bool)}
theorem ZYt (hS:St K w0 v0 σ ℓ v a w) {t t2 e:TypeId} {x y:Operand} {q:Option Addr} {n c:Nat} (ht:P.underlying t=some (.slice e)) (e1:ev σ x=some (.slice q n c)) (e2:ev σ y=some (.slice none 0 0)) :
  (execOp a.eval ⟨d,.binOp .eql t x y t2,ty,pos,aft,g⟩).run P w = .ok (.value (.bool q.isNone)) w:=by
 have h:∀ w:World,(Op.equal t (.slice q n c) (.slice none 0 0)).run P w = .ok q.isNone w:=fun w=>by
  show (Op.equalIn (9999+1) t (.slice q n c) (.slice none 0 0)).run P w=_;unfold Op.equalIn
  cases q <;> simp [run_underlying ht]
 simp [execOp,hS.eval e1,hS.eval e2,eqGuard,binOp,h]
theorem Znt {t e:TypeId} {sz by_:Nat} {z:Value} (E:Elem P t e sz by_ z) (hS:St K w0 v0 σ ℓ v a w) :
  ∃ b w',((execOp a.eval ⟨d,.buildSlice t 0 #[],ty,pos,aft,g⟩).run P w = .ok (.value (.slice (mkA (some b)) 0 0)) w')∧St K w0 v0 σ (.own (some b) e sz 0 0 [] :: ℓ) v a w':=by
 obtain ⟨i,h1,h2,h3,h4⟩:=info_parts E.info;obtain ⟨b,w',hrun,hst⟩:=Zlf (P:=P) (t:=t) (e:=e) (sz:=sz) (n:=0) (vals:=[]) (cs:=[]) hS (by simp) (by decide) (fun w=>ZXm E.ty h1 h2 h3 (by omega) (fun zc=>by simp [Instr.fill]) w);exact ⟨b,w',hrun (ps:=#[]) rfl,hst⟩
end
def vx {α:Type} (n:Nat) (f:Nat→α):List α:=(List.range n).map f
theorem Zxc {α:Type} (n:Nat) (f:Nat→α):(vx n f).length=n:=by simp [vx]
theorem ZOg {α:Type} {n i:Nat} (f:Nat→α) (h:i<n):(vx n f)[i]? = some (f i):=by simp [vx,h]
theorem Znb {α:Type} {n i:Nat} (f:Nat→α) (h:i<n):idx (vx n f) (i:Int)=some (f i):=Zxl (ZOg f h)
theorem ZOc {α:Type} {n:Nat} {f g:Nat→α} (h:∀ i,i<n→f i=g i):vx n f=vx n g:=List.map_congr_left fun i hi=>h i (List.mem_range.1 hi)
theorem Zed {α:Type} (n:Nat) (f:Nat→α) (i:Nat) (a:α):(vx n f).set i a=vx n (fun k=>if k=i then a else f k):=by
 apply List.ext_getElem?;intro k;by_cases hk:k<n
 ·rw [ZOg _ hk,List.getElem?_set,ZOg _ hk];by_cases e:i=k
  ·subst e;simp [hk,Zxc]
  ·rw [if_neg e,if_neg (fun h=>e h.symm)]
 ·rw [List.getElem?_eq_none (by simp [Zxc];omega),List.getElem?_eq_none (by simp [Zxc];omega)]
theorem Zcl {α:Type} (n:Nat) (a:α):List.replicate n a=vx n (fun _=>a):=by
 apply List.ext_getElem?;intro k;by_cases hk:k<n
 ·rw [ZOg _ hk];simp [hk]
 ·rw [List.getElem?_eq_none (by simp;omega),List.getElem?_eq_none (by simp [Zxc];omega)]
theorem Zon {α:Type} (d:α) {n i:Nat} (f:Nat→α) (h:i<n):(vx n f).getD i d=f i:=by
 rw [List.getD_eq_getElem?_getD,ZOg _ h];rfl
def mx (R n:Nat) (M:Mx):List (List Rat):=vx R fun i=>vx n (M i)
theorem ZWd (R n:Nat) (M:Mx):(mx R n M).length=R:=Zxc _ _
theorem Z2d {R n:Nat} {M M':Mx} (h:∀ i,i<R→∀ j,j<n→M i j=M' i j):mx R n M=mx R n M':=ZOc fun i hi=>ZOc fun j hj=>h i hi j hj
theorem Zcc {R n i:Nat} (M:Mx) (h:i<R):idx (mx R n M) (i:Int)=some (vx n (M i)):=Znb _ h
theorem Z7m {R n:Nat} (M:Mx) (i:Nat) (g:Nat→Rat):(mx R n M).set i (vx n g)=mx R n (fun k j=>if k=i then g j else M k j):=by
 unfold mx;rw [Zed];exact ZOc fun k hk=>by by_cases e:k=i <;> simp [e]
theorem mx_swap {R n p q:Nat} (M:Mx) (hp:p<R) (hq:q<R):ZXb (mx R n M) p q=mx R n (fun k=>if k=q then M p else if k=p then M q else M k):=by
 unfold ZXb mx;rw [Zon _ _ hp,Zon _ _ hq,Zed,Zed];exact ZOc fun k hk=>by by_cases e:k=q <;> by_cases e2:k=p <;> simp [e,e2] <;> split <;> rfl
theorem Zpb {α β:Type} {P:β→Prop} {x:Option α} {y:α} {f:α→Option β} (h:x=some y) (h2:∃ z,f y=some z∧P z):∃ z,bnd x f=some z∧P z:=by subst h;exact h2
theorem ZUi {S R Z:Type} {P:Z→Prop} {body:S→Option (S ⊕ R)} {s:S} {f:R→Option Z} (I:Nat→S→Prop) (Q:R→Prop) (n:Nat) (h0:I 0 s) (hn:n<2^64)
  (h:∀ k s,k≤n→I k s→(∃ s',k<n∧body s=some (.inl s')∧I (k+1) s') ∨ ∃ r,body s=some (.inr r)∧Q r)
  (hf:∀ r,Q r→∃ z,f r=some z∧P z):∃ z,bnd (Zp body Zw s) f=some z∧P z:=by
 have key:∀ m g k s,k+m=n→m<g→I k s→∃ r,Zp body g s=some r∧Q r:=by
  intro m
  induction m with
  | zero =>
   intro g k s hk hg hi;obtain ⟨g,rfl⟩:∃ x,g=x+1:=⟨g-1,by omega⟩;rcases h k s (by omega) hi with ⟨s',h1,_⟩ | ⟨r,h1,h2⟩
   ·omega
   ·exact ⟨r,by unfold Zp;rw [h1,Za],h2⟩
  | succ m ih =>
   intro g k s hk hg hi;obtain ⟨g,rfl⟩:∃ x,g=x+1:=⟨g-1,by omega⟩;rcases h k s (by omega) hi with ⟨s',h1,h2,h3⟩ | ⟨r,h1,h2⟩
   ·obtain ⟨r,h4,h5⟩:=ih g (k+1) s' (by omega) (by omega) h3;exact ⟨r,by unfold Zp;rw [h2,Za];exact h4,h5⟩
   ·exact ⟨r,by unfold Zp;rw [h1,Za],h2⟩
 obtain ⟨r,h1,h2⟩:=key n Zw 0 s (by omega) (ZX (by omega)) h0;exact Zpb h1 (hf r h2)
theorem qaddB {k m:Nat} {x y:Rat} (h:sz k x) (h':sz m y) (hk:k≤1099511627776) (hm:m≤1099511627776):ZBb x y=some (x+y):=by unfold ZBb;rw [if_pos ⟨h.ok hk,h'.ok hm⟩]
theorem qsubB {k m:Nat} {x y:Rat} (h:sz k x) (h':sz m y) (hk:k≤1099511627776) (hm:m≤1099511627776):Zxb x y=some (x-y):=by unfold Zxb;rw [if_pos ⟨h.ok hk,h'.ok hm⟩]
theorem qmulB {k m:Nat} {x y:Rat} (h:sz k x) (h':sz m y) (hk:k≤1099511627776) (hm:m≤1099511627776):Z1a x y=some (x*y):=by unfold Z1a;rw [if_pos ⟨h.ok hk,h'.ok hm⟩]
theorem qdivB {k m:Nat} {x y:Rat} (h:sz k x) (h':sz m y) (hk:k≤1099511627776) (hm:m≤1099511627776) (hy:y≠0):ZIc x y=some (x / y,0):=by unfold ZIc;rw [if_pos ⟨h.ok hk,h'.ok hm⟩,if_neg hy]
theorem sz_frac {K:Nat} {x:Rat} {N D:Int} (hx:x=(N:Rat) / (D:Rat)) (hN:N.natAbs<2^K) (hD:D.natAbs<2^K) (h0:D≠0):sz K x:=by
 rw [hx,← Rat.divInt_eq_div,ZJk];rcases ZBk (if D<0 then -N else N) D.natAbs with ⟨h1,h2⟩ | h1
 ·have h3:bl (if D<0 then -N else N).natAbs≤K:=ZCb (by split <;> omega);have h4:bl D.natAbs≤K:=ZCb hD;exact ⟨by omega,by omega⟩
 ·omega
def CD (K R n:Nat) (M:Mx):Prop:=∃ D:Int,D≠0∧D.natAbs<2^K∧∀ i j,i<R→j<n→∃ N:Int,M i j=(N:Rat) / (D:Rat)∧N.natAbs<2^K
theorem CD.sz {K R n:Nat} {M:Mx} (h:CD K R n M) {i j:Nat} (hi:i<R) (hj:j<n):sz K (M i j):=by
 obtain ⟨D,h0,h1,h2⟩:=h;obtain ⟨N,h3,h4⟩:=h2 i j hi hj;exact sz_frac h3 h4 h1 h0
theorem CD.mono {K K' R n:Nat} {M:Mx} (h:CD K R n M) (hk:K≤K'):CD K' R n M:=by
 obtain ⟨D,h0,h1,h2⟩:=h;have hp:=Nat.pow_le_pow_right (show 0<2 by omega) hk;exact ⟨D,h0,by omega,fun i j hi hj=>by
  obtain ⟨N,h3,h4⟩:=h2 i j hi hj;exact ⟨N,h3,by omega⟩⟩
theorem CD.congr {K R n:Nat} {M M':Mx} (h:CD K R n M) (e:∀ i,i<R→∀ j,j<n→M i j=M' i j):CD K R n M':=by
 obtain ⟨D,h0,h1,h2⟩:=h;exact ⟨D,h0,h1,fun i j hi hj=>by rw [← e i hi j hj];exact h2 i j hi hj⟩
theorem Zhi {a b:Int} {A B:Nat} (ha:a.natAbs<A) (hb:b.natAbs<B):(a*b).natAbs<A*B:=by
 rw [Int.natAbs_mul];exact Nat.mul_lt_mul'' ha hb
def ZSb (M:Mx) (c top p:Nat):Mx:=fun i j=>if i=top then M p j / M p c else (if i=p then M top j else M i j)-(if i=p then M top c else M i c)*(M p j / M p c)
theorem stepM_R {R n c top p:Nat} {M:Mx} (tp:top≤p) (pR:p<R) (cn:c<n) (nz:M p c≠0):StepR R n M (ZSb M c top p) c top p :=
 ⟨tp,pR,cn,nz,fun j hj=>by simp [ZSb],fun h j hj=>by simp [ZSb,h],fun i hi h1 h2 j hj=>by simp [ZSb,h1,h2]⟩
theorem CD.step {K R n c top p:Nat} {M:Mx} (h:CD K R n M) (tp:top≤p) (pR:p<R) (cn:c<n) (nz:M p c≠0):CD (2*K+1) R n (ZSb M c top p):=by
 obtain ⟨D,h0,h1,h2⟩:=h;obtain ⟨F,f1,f2⟩:=h2 p c pR cn;have e2:2^(2*K+1)=2*(2^K*2^K):=by rw [Nat.pow_succ,Nat.two_mul,Nat.pow_add];omega
 have hF:F≠0:=fun e=>nz (by rw [f1,e,Rat.div_def];exact Rat.zero_mul _);have hD':(D:Rat)≠0:=fun e=>h0 (Rat.intCast_inj.1 (by rw [e];rfl));have hF':(F:Rat)≠0:=fun e=>hF (Rat.intCast_inj.1 (by rw [e];rfl));refine ⟨D*F,fun e=>?_,?_,fun i j hi hj=>?_⟩
 ·rcases Int.mul_eq_zero.1 e with h | h
  ·exact h0 h
  ·exact hF h
 ·have:=Zhi h1 f2;omega
 ·obtain ⟨A,a1,a2⟩:=h2 p j pR hj;unfold ZSb;split
  ·refine ⟨A*D,?_,?_⟩
   ·rw [a1,f1,Rat.intCast_mul,Rat.intCast_mul];grind
   ·have:=Zhi a2 h1;omega
  ·have key:∀ i,i<R→∃ N:Int,M i j-M i c*(M p j / M p c)=(N:Rat) / ((D*F:Int):Rat)∧N.natAbs<2^(2*K+1):=fun i hi=>by
    obtain ⟨B,b1,b2⟩:=h2 i j hi hj;obtain ⟨C,c1,c2⟩:=h2 i c hi cn;refine ⟨B*F-C*A,?_,?_⟩
    ·rw [a1,b1,c1,f1,Rat.intCast_sub,Rat.intCast_mul,Rat.intCast_mul,Rat.intCast_mul];grind
    ·have:=Zhi b2 f2;have:=Zhi c2 a2;omega
   by_cases hp:i=p
   ·rw [if_pos hp,if_pos hp];exact key top (by omega)
   ·rw [if_neg hp,if_neg hp];exact key i hi
set_option maxRecDepth 100000
theorem ZFh:sz 1 (1:Rat):=by constructor <;> decide
def cf (c:Nat→Int):Nat→Nat→Int
 | _,0=>0
 | i,m+1=>if c i≠0 then c i else cf c (i+1) m
end Go.Eng
namespace Go.Eng
open Go.RowKit
variable {P:Program} {K:Nat} {w0:Base} {v0:Zb} {σ:List (Nat×Value)} {ℓ:List Loc} {v:Zb} {a:Act} {w:World}
end Go.Eng

namespace Go.Eng
noncomputable def Zhj (x:Rat) (y:Rat):Option Rat :=
 some y
noncomputable def ZHd (n:Int):Option Rat :=
 bnd (Zlc n) fun a =>
 bnd (Zhj (0:Rat) a) fun b =>
 some b
noncomputable def ZMg (m:List (List Rat)):Option ((List (List Rat))×(List Int)×Rat) :=
 bnd (mk 24 (m.length:Int) (m.length:Int)) fun _ =>
 bnd (Zp (σ:=Int×(List (List Rat))) (ρ:=List (List Rat)) (fun e =>
 ifb (decide (e.1<(m.length:Int)))
 (bnd (idx m e.1) fun r =>
 bnd (Zjf 56 r) fun s =>
 bnd (idx e.2 e.1) fun y4 =>
 bnd (chk .i64 (e.1+(1:Int))) fun t =>
 some (.inl (t,e.2.set e.1.toNat s)))
 (some (.inr e.2)))
  Zw ((0:Int),List.replicate (m.length:Int).toNat ([]:List Rat))) fun i =>
 bnd (ZHd (1:Int)) fun u =>
 bnd (α:=Int)
 (ifb ((i.length:Int)==(0:Int))
 (some (0:Int))
 (bnd (idx i (0:Int)) fun v =>
 some (v.length:Int))) fun w =>
 bnd (Zp (σ:=(List Int)×Int×(List (List Rat))×Rat) (ρ:=(List Int)×(List (List Rat))×Rat) (fun a =>
 ifb (decide (a.2.1<w))
 (bnd (α:=(List Int)×(List (List Rat))×Rat)
 (bnd (Zp (σ:=Int) (ρ:=Int) (fun g =>
 bnd (α:=Bool)
 (ifb (decide (g<(a.2.2.1.length:Int)))
 (bnd (idx a.2.2.1 g) fun x =>
 bnd (idx x a.2.1) fun y =>
 bnd (Ztc y) fun z =>
 some z)
 (some false)) fun A =>
 ifb A
 (bnd (chk .i64 (g+(1:Int))) fun B =>
 some (.inl B))
 (some (.inr g)))
      Zw (a.1.length:Int)) fun f =>
 ifb (f==(a.2.2.1.length:Int))
 (bnd (ZHd (0:Int)) fun C =>
 some (a.1,a.2.2.1,C))
 (bnd (α:=(List (List Rat))×Rat)
 (ifb (f != (a.1.length:Int))
 (bnd (idx a.2.2.1 (a.1.length:Int)) fun ab =>
 bnd (idx a.2.2.1 f) fun ac =>
 bnd (idx a.2.2.1 f) fun ad =>
 bnd (idx a.2.2.1 (a.1.length:Int)) fun ae =>
 bnd (eqN ((a.1.length:Int).toNat) ((a.1.length:Int).toNat)) fun _ =>
 bnd (eqN f.toNat f.toNat) fun _ =>
 bnd (Zvd a.2.2.2) fun D =>
 some (ZXb a.2.2.1 f.toNat ((a.1.length:Int).toNat),D))
 (some (a.2.2.1,a.2.2.2))) fun h =>
 bnd (idx h.1 (a.1.length:Int)) fun E =>
 bnd (idx E a.2.1) fun l =>
 bnd (Z1a h.2 l) fun F =>
 bnd (idx h.1 (a.1.length:Int)) fun G =>
 bnd (Zp (σ:=Int×(List (List Rat))) (ρ:=List (List Rat)) (fun d =>
 ifb (decide (d.1<(G.length:Int)))
 (bnd (idx d.2 (a.1.length:Int)) fun n =>
 bnd (idx d.2 (a.1.length:Int)) fun H =>
 bnd (idx H d.1) fun I =>
 bnd (ZIc I l) fun J =>
 bnd (idx n d.1) fun af =>
 bnd (chk .i64 (d.1+(1:Int))) fun K =>
 some (.inl (K,d.2.set ((a.1.length:Int).toNat) (n.set d.1.toNat J.1))))
 (some (.inr d.2)))
       Zw ((0:Int),h.1)) fun o =>
 bnd (Zp (σ:=Int×(List (List Rat))) (ρ:=List (List Rat)) (fun b =>
 ifb (decide (b.1<(o.length:Int)))
 (bnd (α:=List (List Rat))
 (bnd (idx b.2 b.1) fun L =>
 bnd (idx L a.2.1) fun p =>
 bnd (α:=Bool)
 (ifb (b.1==(a.1.length:Int))
 (some true)
 (bnd (Ztc p) fun M =>
 some M)) fun N =>
 ifb N
 (some b.2)
 (bnd (idx b.2 b.1) fun O =>
 bnd (Zp (σ:=Int×(List (List Rat))) (ρ:=List (List Rat)) (fun c =>
 ifb (decide (c.1<(O.length:Int)))
 (bnd (idx c.2 b.1) fun q =>
 bnd (idx c.2 b.1) fun P =>
 bnd (idx P c.1) fun Q =>
 bnd (idx c.2 (a.1.length:Int)) fun R =>
 bnd (idx R c.1) fun S =>
 bnd (Z1a p S) fun T =>
 bnd (Zxb Q T) fun U =>
 bnd (idx q c.1) fun ag =>
 bnd (chk .i64 (c.1+(1:Int))) fun V =>
 some (.inl (V,c.2.set b.1.toNat (q.set c.1.toNat U))))
 (some (.inr c.2)))
            Zw ((0:Int),b.2)) fun W =>
 some W)) fun X =>
 bnd (chk .i64 (b.1+(1:Int))) fun Y =>
 some (.inl (Y,X)))
 (some (.inr b.2)))
       Zw ((0:Int),o)) fun Z =>
 bnd (Z5 8 (a.1++[a.2.1])) fun _ =>
 some (a.1++[a.2.1],Z,F))) fun j =>
 bnd (chk .i64 (a.2.1+(1:Int))) fun aa =>
 some (.inl (j.1,aa,j.2.1,j.2.2)))
 (some (.inr (a.1,a.2.2.1,a.2.2.2))))
  Zw (([]:List Int),(0:Int),i,u)) fun k =>
 some (k.2.1,k.1,k.2.2)
noncomputable def Zde (m:List (List Rat)):Option Int :=
 ifb ((m.length:Int)==(0:Int))
 (some (0:Int))
 (bnd (idx m (0:Int)) fun a =>
 some (a.length:Int))
noncomputable def Zng (m:List (List Rat)):Option Bool :=
 bnd (Zde m) fun b =>
 bnd (α:=Bool)
 (ifb (decide ((m.length:Int)≤(32:Int)))
 (ifb (decide (b≤(32:Int)))
 (bnd (α:=Int)
 (bnd (Zp (σ:=Int) (ρ:=Unit ⊕ Int) (fun a =>
 ifb (decide (a<(m.length:Int)))
 (bnd (idx m a) fun c =>
 ifb ((c.length:Int) != b)
 (some (.inr (.inr a)))
 (bnd (chk .i64 (a+(1:Int))) fun d =>
 some (.inl d)))
 (some (.inr (.inl ()))))
      Zw (0:Int)) fun e =>
     match e with
 | .inl i=>(some (-1:Int))
 | .inr f=>(some f)) fun g =>
 some (!(decide ((0:Int)≤g))))
 (some false))
 (some false)) fun h =>
 some h
theorem ZTg (n:Int):ZHd n=some (n:Rat):=by
 unfold ZHd Zhj;rfl
theorem mk_ok {b n:Nat} (h:b*n≤281474976710656) (h2:n≤1000000000):mk b (n:Int) (n:Int)=some ():=by
 unfold mk;rw [if_pos ⟨by omega,by omega,by omega,by omega⟩]
theorem Zxo (i:Nat):eqN i i=some ():=by unfold eqN;rw [if_pos rfl]
theorem ZHs {α:Type} {b:Nat} {l:List α} (h:l.length*b≤140737488355328):Zjf b l=some l:=by
 unfold Zjf;rw [Zbd h,Za]
def Zdc (l:List Nat):List Int:=l.map fun (c:Nat)=>(c:Int)
theorem ZCg (l:List Nat):(Zdc l).length=l.length:=by simp [Zdc]
theorem copy_ok {R n:Nat} (M:Mx) (hR:R≤1000) (hn:n≤1000):Zp (σ:=Int×(List (List Rat))) (ρ:=List (List Rat)) (fun s1 =>
   ifb (decide (s1.1<((mx R n M).length:Int)))
   (bnd (idx (mx R n M) s1.1) fun y2 =>
    bnd (Zjf 56 y2) fun y3 =>
    bnd (idx s1.2 s1.1) fun y4 =>
    bnd (chk .i64 (s1.1+(1:Int))) fun y5 =>
    some (.inl (y5,s1.2.set s1.1.toNat y3)))
   (some (.inr s1.2)))
  Zw ((0:Int),List.replicate ((mx R n M).length:Int).toNat ([]:List Rat))=some (mx R n M):=by
  refine Zke (fun k=>((k:Int),vx R fun i=>if i<k then vx n (M i) else [])) R ?_ (by omega) (fun k hk=>?_) ?_
  · rw [ZWd];simp only [Int.toNat_natCast,Zcl];refine Prod.ext rfl (ZOc fun i hi=>?_);rw [if_neg (by omega)]
  · simp only [ZWd];rw [decide_eq_true (by omega),Zi,Zcc _ hk,Za,ZHs (by rw [Zxc];omega),Za,Znb _ hk,Za,ZC (by omega) (by omega),Za];simp only [Int.toNat_natCast];rw [Zed];refine congrArg (fun x=>some (Sum.inl x)) (Prod.ext (by simp) (ZOc fun i hi=>?_));by_cases e:i=k
    · rw [if_pos e,if_pos (by omega),e]
    · rw [if_neg e];by_cases e2:i<k
      · rw [if_pos e2,if_pos (by omega)]
      · rw [if_neg e2,if_neg (by omega)]
  · simp only [ZWd];rw [decide_eq_false (by omega),Zh];exact congrArg (fun x=>some (Sum.inr x)) (ZOc fun i hi=>if_pos hi)
theorem Zkj {R n:Nat} (M:Mx) (h:R=0→n=0):Zde (mx R n M)=some (n:Int):=by
 unfold Zde;rw [ZWd];by_cases h0:R=0
 ·rw [show ((R:Int)==0)=true by simp [h0],Zi,h h0];rfl
 ·rw [show ((R:Int)==0)=false by simp [h0],Zh];refine ZOa (Zcc (i:=0) M (by omega)) ?_;rw [Zxc]
theorem Z9p {R n:Nat} (M:Mx) (h:R=0→n=0) (hR:R≤32) (hn:n≤32):Zng (mx R n M)=some true:=by
 unfold Zng;rw [Zkj M h,Za,ZWd,decide_eq_true (by omega),Zi,decide_eq_true (by omega),Zi];refine ZOa (y:=true) ?_ rfl;refine ZOa (y:=(-1:Int)) ?_ rfl;refine ZOa (y:=Sum.inl ()) ?_ rfl;refine Zke (fun k=>(k:Int)) R rfl (by omega) (fun k hk=>?_) ?_
 ·rw [decide_eq_true (by omega),Zi,Zcc _ hk,Za,Zxc,show ((n:Int) != (n:Int))=false by simp,Zh,ZC (by omega) (by omega),Za];rfl
 ·rw [decide_eq_false (by omega),Zh]
def kk (K k:Nat):Nat:=2^k*(K+1)-1
theorem ZKh {K k:Nat}:kk K (k+1)=2*kk K k+1:=by
 unfold kk;have:=Nat.mul_pos (Nat.two_pow_pos k) (show 0<K+1 by omega);rw [Nat.pow_succ,Nat.mul_comm (2^k) 2,Nat.mul_assoc];omega
theorem ZIi {K k n:Nat} (h:k≤n):kk K k≤kk K n:=by
 unfold kk;have:=Nat.mul_le_mul_right (K+1) (Nat.pow_le_pow_right (show 0<2 by omega) h);omega
theorem Z8g:sz 1 (0:Rat):=⟨by decide,by decide⟩
def swM (M:Mx) (top p:Nat):Mx:=fun k=>if k=top then M p else if k=p then M top else M k
def ZLc (M:Mx) (c top p j:Nat):Mx:=fun i l=>if i=top∧l<j then M p l / M p c else swM M top p i l
def Z2a (M:Mx) (c top p n i j:Nat):Mx:=fun r l=>if r<i∨(r=i∧l<j) then ZSb M c top p r l else ZLc M c top p n r l
theorem bnd_two {α β:Type} {P:β→Prop} (Q:α→Prop) {x:Option α} {f:α→Option β} (h:∃ y,x=some y∧Q y) (h2:∀ y,Q y→∃ z,f y=some z∧P z):∃ z,bnd x f=some z∧P z:=by
 obtain ⟨y,h,q⟩:=h;exact Zpb h (h2 y q)
set_option maxRecDepth 100000 in
theorem Zkv {R n K:Nat} {M0:Mx} (h0:R=0→n=0) (hR:R≤1000) (hn:n≤1000) (hK:1≤K) (hz:CD K R n M0) (hk:kk K n≤274877906944) :
  ∃ z,ZMg (mx R n M0)=some z∧∃ M piv d,z=(mx R n M,Zdc piv,d)∧Eli R n M0 M piv n∧CD (kk K n) R n M:=by
 unfold ZMg;refine Zpb (y:=()) (by rw [ZWd];exact mk_ok (by omega) (by omega)) ?_;refine Zpb (copy_ok M0 hR hn) ?_;refine Zpb (ZTg 1) ?_;refine Zpb (y:=(n:Int)) (Zkj M0 h0) ?_;refine ZUi (fun k s=>∃ M piv d,s=(Zdc piv,(k:Int),mx R n M,d)∧Eli R n M0 M piv k∧CD (kk K k) R n M∧sz (kk K k) d) (fun r=>∃ M piv d,r=(Zdc piv,mx R n M,d)∧Eli R n M0 M piv n∧CD (kk K n) R n M) n ⟨M0,[],((1:Int):Rat),rfl,Eli.start R n M0,by unfold kk;simpa using hz,(ZFh.mono (by unfold kk;simpa using hK):sz _ (1:Rat))⟩ (by omega) (fun k s hkn hi=>?_) (fun r hr=>?_)
 ·obtain ⟨M,piv,d,rfl,hI,hC,hd⟩:=hi;by_cases hlt:k<n
  ·left;have hkk:=ZIi (K:=K) (k:=k) (n:=n) hkn;have hk1:=ZIi (K:=K) (k:=k+1) (n:=n) hlt;rw [ZKh] at hk1;simp only;rw [decide_eq_true (by omega),Zi];have pl:=hI.le
   suffices hx:∃ z,(bnd (α:=(List Int)×(List (List Rat))×Rat) _ _:Option (((List Int)×Int×(List (List Rat))×Rat) ⊕ ((List Int)×(List (List Rat))×Rat)))=some z∧∃ M' piv' d',z=Sum.inl (Zdc piv',((k+1:Nat):Int),mx R n M',d')∧Eli R n M0 M' piv' (k+1)∧CD (kk K (k+1)) R n M'∧sz (kk K (k+1)) d' by
    obtain ⟨z,h1,M',piv',d',rfl,h2⟩:=hx;exact ⟨_,hlt,h1,M',piv',d',rfl,h2⟩
   refine bnd_two (Q:=fun y=>∃ M' piv' d',y=(Zdc piv',mx R n M',d')∧Eli R n M0 M' piv' (k+1)∧CD (kk K (k+1)) R n M'∧sz (kk K (k+1)) d') ?_ (fun y hy=>?_)
   rotate_left
   ·obtain ⟨M',piv',d',rfl,h2⟩:=hy;exact ⟨Sum.inl (Zdc piv',((k+1:Nat):Int),mx R n M',d'),by rw [ZC (by omega) (by omega),Za];rfl,M',piv',d',rfl,h2⟩
   refine ZUi (fun q s=>s=((piv.length+q:Nat):Int)∧∀ i,piv.length≤i→i<piv.length+q→M i k=0) (fun r=>∃ p:Nat,r=(p:Int)∧piv.length≤p∧p≤R∧(∀ i,piv.length≤i→i<p→M i k=0)∧(p<R→M p k≠0)) (R-piv.length) ⟨by rw [ZCg];rfl,fun i h1 h2=>by omega⟩ (by omega) (fun q s hq hs=>?_) (fun r hr=>?_)
   ·obtain ⟨rfl,hz0⟩:=hs;rw [ZWd];by_cases hqR:piv.length+q<R
    ·rw [decide_eq_true (by omega),Zi,Zcc _ hqR,Za,Znb _ hlt,Za];unfold Ztc;by_cases hz1:M (piv.length+q) k=0
     ·left;refine ⟨((piv.length+(q+1):Nat):Int),by omega,?_,rfl,fun i h1 h2=>?_⟩
      ·rw [decide_eq_true hz1,Za,Za,Zi,ZC (by omega) (by omega),Za];rfl
      ·by_cases e:i=piv.length+q
       ·rw [e];exact hz1
       ·exact hz0 i h1 (by omega)
     ·right;refine ⟨((piv.length+q:Nat):Int),by rw [decide_eq_false hz1,Za,Za,Zh],piv.length+q,rfl,by omega,by omega,hz0,fun _=>hz1⟩
    ·right;refine ⟨((piv.length+q:Nat):Int),by rw [decide_eq_false (by omega),Zh,Za,Zh],piv.length+q,rfl,by omega,by omega,hz0,fun h=>by omega⟩
   ·obtain ⟨p,rfl,h1,h2,h3,h4⟩:=hr;rw [ZWd];by_cases hpR:p=R
    ·rw [show ((p:Int)==(R:Int))=true by simp [hpR],Zi,ZTg,Za];refine ⟨_,rfl,M,piv,_,rfl,hI.skip fun i g1 g2=>h3 i g1 (by omega),hC.mono (by rw [ZKh];omega),Z8g.mono (by rw [ZKh];omega)⟩
    ·rw [show ((p:Int)==(R:Int))=false by simp;omega,Zh];have pR:p<R:=by omega
     have nz:=h4 pR;have tR:piv.length<R:=by omega
     have Cs:=hC.step h1 pR hlt nz;rw [ZCg];refine Zpb (y:=(mx R n (swM M piv.length p),if p=piv.length then d else -d)) ?_ ?_
     ·by_cases e:p=piv.length
      ·rw [show ((p:Int) != (piv.length:Int))=false by simp [e],Zh,if_pos e];refine congrArg some (Prod.ext (Z2d fun i hi j hj=>?_) rfl);unfold swM;by_cases e2:i=piv.length
       ·rw [if_pos e2,e2,e]
       ·rw [if_neg e2,if_neg (fun h=>e2 (h.trans e))]
      ·rw [show ((p:Int) != (piv.length:Int))=true by simp;omega,Zi,Zcc _ tR,Za,Zcc _ pR,Za,Za,Za,if_neg e];simp only [Int.toNat_natCast];rw [Zxo,Za,Zxo,Za];unfold Zvd;rw [Za,mx_swap _ pR tR];rfl
     have hrow:swM M piv.length p piv.length=M p:=by unfold swM;rw [if_pos rfl]
     have hd1:sz (kk K k) (if p=piv.length then d else -d):=by split;exact hd;exact Z4n hd
     have zf:sz (kk K k) (M p k):=hC.sz pR hlt;simp only;refine Zpb (Zcc _ tR) ?_;rw [hrow];refine Zpb (Znb _ hlt) ?_;refine Zpb (qmulB hd1 zf (by omega) (by omega)) ?_;refine Zpb (Zcc _ tR) ?_;rw [hrow,Zxc];refine Zpb (y:=mx R n (ZLc M k piv.length p n)) (Zke (fun j=>((j:Int),mx R n (ZLc M k piv.length p j))) n ?_ (by omega) (fun j hj=>?_) ?_) ?_
     ·refine Prod.ext rfl (Z2d fun i hi j hj=>?_);unfold ZLc;rw [if_neg (by omega)]
     ·have hr:ZLc M k piv.length p j piv.length j=M p j:=by unfold ZLc swM;rw [if_neg (by omega),if_pos rfl]
      simp only;rw [decide_eq_true (by omega),Zi,Zcc _ tR,Za,Za,Znb _ hj,Za,hr,qdivB (hC.sz pR hj) zf (by omega) (by omega) nz,Za,Za,ZC (by omega) (by omega),Za];simp only [Int.toNat_natCast];rw [Zed,Z7m];refine congrArg (fun x=>some (Sum.inl x)) (Prod.ext (by simp) (Z2d fun i hi l hl=>?_));unfold ZLc;by_cases e:i=piv.length
      ·rw [if_pos e];by_cases e2:l=j
       ·rw [if_pos e2,if_pos (by omega),e2]
       ·rw [if_neg e2,e];by_cases e3:l<j
        ·rw [if_pos (by omega),if_pos (by omega)]
        ·rw [if_neg (by omega),if_neg (by omega)]
      ·rw [if_neg e,if_neg (by omega),if_neg (by omega)]
     ·simp only;rw [decide_eq_false (by omega),Zh]
     rw [ZWd];refine Zpb (y:=mx R n (ZSb M k piv.length p)) (Zke (fun i=>((i:Int),mx R n (Z2a M k piv.length p n i 0))) R ?_ (by omega) (fun i hi=>?_) ?_) ?_
     ·refine Prod.ext rfl (Z2d fun i hi j hj=>?_);unfold Z2a;rw [if_neg (by omega)]
     ·simp only;have rd:∀ r l,r≠piv.length→ZLc M k piv.length p n r l=if r=p then M piv.length l else M r l:=fun r l hr=>by
       unfold ZLc swM;rw [if_neg (by omega),if_neg hr];split <;> rfl
      have top0:∀ i j l,l<n→Z2a M k piv.length p n i j piv.length l=M p l / M p k:=fun i j l hl=>by
       unfold Z2a ZSb ZLc;split
       ·rw [if_pos rfl]
       ·rw [if_pos ⟨rfl,hl⟩]
      have self0:∀ l,Z2a M k piv.length p n i 0 i l=ZLc M k piv.length p n i l:=fun l=>by unfold Z2a;rw [if_neg (by omega)]
      rw [decide_eq_true (by omega),Zi];refine ZOa (y:=mx R n (Z2a M k piv.length p n (i+1) 0)) ?_ ?_
      ·rw [Zcc _ hi,Za,Znb _ hlt,Za];by_cases e:i=piv.length
       ·rw [show ((i:Int)==(piv.length:Int))=true by simp [e],Zi,Za,Zi];refine congrArg some (Z2d fun r hr l hl=>?_);by_cases e2:r=piv.length
        ·rw [e2,top0 _ _ _ hl,top0 _ _ _ hl]
        ·unfold Z2a;by_cases e3:r<i
         ·rw [if_pos (.inl e3),if_pos (.inl (by omega))]
         ·rw [if_neg (by omega),if_neg (by omega)]
       ·rw [show ((i:Int)==(piv.length:Int))=false by simp;omega,Zh];unfold Ztc;rw [Za,Za,self0,rd _ _ e];by_cases hz1:(if i=p then M piv.length k else M i k)=0
        ·rw [decide_eq_true hz1,Zi];refine congrArg some (Z2d fun r hr l hl=>?_);unfold Z2a;by_cases e3:r<i
         ·rw [if_pos (.inl e3),if_pos (.inl (by omega))]
         ·rw [if_neg (by omega)];by_cases e4:r=i
          ·subst e4;rw [if_pos (.inl (by omega)),rd _ _ e];unfold ZSb;rw [if_neg e,hz1];grind
          ·rw [if_neg (by omega)]
        ·rw [decide_eq_false hz1,Zh,Za,Zxc];have zc:sz (kk K k) (if i=p then M piv.length k else M i k):=by split;exact hC.sz tR hlt;exact hC.sz hi hlt
         refine ZOa (Zke (fun j=>((j:Int),mx R n (Z2a M k piv.length p n i j))) n rfl (by omega) (fun j hj=>?_) ?_) rfl
         ·have zt:sz (2*kk K k+1) (M p j / M p k):=by
           have:=Cs.sz tR hj;unfold ZSb at this;rwa [if_pos rfl] at this
          have zi:sz (kk K k) (if i=p then M piv.length j else M i j):=by split;exact hC.sz tR hj;exact hC.sz hi hj
          have e5:Z2a M k piv.length p n i j i j=if i=p then M piv.length j else M i j:=by unfold Z2a;rw [if_neg (by omega),rd _ _ e]
          simp only;rw [decide_eq_true (by omega),Zi,Zcc _ hi,Za,Za,Znb _ hj,Za,Zcc _ tR,Za,Znb _ hj,Za,top0 _ _ _ hj,qmulB zc zt (by omega) (by omega),Za,e5,qsubB zi (Zei zc zt) (by omega) (by omega),Za,Za,ZC (by omega) (by omega),Za];simp only [Int.toNat_natCast];rw [Zed,Z7m];refine congrArg (fun x=>some (Sum.inl x)) (Prod.ext (by simp) (Z2d fun r hr l hl=>?_));by_cases e6:r=i
          ·subst e6;rw [if_pos rfl];by_cases e7:l=j
           ·subst e7;rw [if_pos rfl];have e9:Z2a M k piv.length p n r (l+1) r l=ZSb M k piv.length p r l:=by unfold Z2a;rw [if_pos (.inr ⟨rfl,by omega⟩)]
            rw [e9];unfold ZSb;rw [if_neg e]
           ·rw [if_neg e7];unfold Z2a;by_cases e8:l<j
            ·rw [if_pos (.inr ⟨rfl,e8⟩),if_pos (.inr ⟨rfl,by omega⟩)]
            ·rw [if_neg (by omega),if_neg (by omega)]
          ·rw [if_neg e6];unfold Z2a;by_cases e8:r<i
           ·rw [if_pos (.inl e8),if_pos (.inl e8)]
           ·rw [if_neg (by omega),if_neg (by omega)]
         ·simp only;rw [decide_eq_false (by omega),Zh];refine congrArg (fun x=>some (Sum.inr x)) (Z2d fun r hr l hl=>?_);unfold Z2a;by_cases e8:r<i+1
          ·rw [if_pos (by omega),if_pos (by omega)]
          ·rw [if_neg (by omega),if_neg (by omega)]
      ·rw [ZC (by omega) (by omega),Za];rfl
     ·simp only;rw [decide_eq_false (by omega),Zh];refine congrArg (fun x=>some (Sum.inr x)) (Z2d fun i hi j hj=>?_);unfold Z2a;rw [if_pos (by omega)]
     refine Zpb (y:=()) (Zbd (by simp [ZCg];omega)) ?_;refine ⟨_,rfl,ZSb M k piv.length p,piv++[k],_,?_,hI.step (stepM_R h1 pR hlt nz),Cs.mono (by rw [ZKh];omega),(Zei hd1 zf).mono (by rw [ZKh];omega)⟩;simp [Zdc]
  ·right;obtain rfl:k=n:=by omega
   refine ⟨_,by simp only;rw [decide_eq_false (by omega),Zh],M,piv,d,rfl,hI,hC⟩
 ·obtain ⟨M,piv,d,rfl,hI,hC⟩:=hr;exact ⟨_,rfl,M,piv,d,rfl,hI,hC⟩
theorem sm_sz {k n:Nat} {f:Nat→Rat} (h:∀ j,j<n→sz k (f j)):sz (n*(k+1)+1) (sm n f):=by
 induction n with
 | zero=>exact Z8g.mono (by omega)
 | succ n ih =>
  have:=sz_add (ih fun j hj=>h j (by omega)) (h n (by omega));exact this.mono (by rw [Nat.succ_mul];omega)
theorem Zio {l:List Nat} {i c:Nat} (h:l[i]? = some c):idx (Zdc l) (i:Int)=some (c:Int):=Zxl (by simp [Zdc,h])
theorem rep_ok {b n:Nat} {a:Rat} (h:b*n≤281474976710656) (h2:n≤1000000000):repF b [a] (n:Int)=some (vx n fun _=>a):=by
 unfold repF;simp only;rw [mk_ok h h2,Za,Int.toNat_natCast,Zcl]
noncomputable def Zph (x:List Rat) (y:List Rat):Option Rat :=
 bnd (ZHd (0:Int)) fun b =>
 bnd (Zp (σ:=Int×Rat) (ρ:=Rat) (fun a =>
 ifb (decide (a.1<(x.length:Int)))
 (bnd (idx x a.1) fun c =>
 bnd (idx y a.1) fun d =>
 bnd (Z1a c d) fun e =>
 bnd (ZBb a.2 e) fun f =>
 bnd (chk .i64 (a.1+(1:Int))) fun g =>
 some (.inl (g,f)))
 (some (.inr a.2)))
  Zw ((0:Int),b)) fun h =>
 some h
theorem dot_big {k m n:Nat} {f g:Nat→Rat} (hf:∀ j,j<n→sz k (f j)) (hg:∀ j,j<n→sz m (g j)) (hn:n≤1000) (hk:(n+1)*(k+m+1)≤1099511627776):Zph (vx n f) (vx n g)=some (sm n fun j=>f j*g j):=by
 unfold Zph;rw [ZTg,Za,Zxc];refine ZOa (Zke (fun q=>((q:Int),sm q fun j=>f j*g j)) n rfl (by omega) (fun q hq=>?_) ?_) rfl
 ·have z1:=Zei (hf q hq) (hg q hq);have z2:sz (q*(k+m+1)+1) (sm q fun j=>f j*g j):=sm_sz fun j hj=>Zei (hf j (by omega)) (hg j (by omega));have z3:q*(k+m+1)≤n*(k+m+1):=Nat.mul_le_mul_right _ (by omega);rw [Nat.succ_mul] at hk;simp only;rw [decide_eq_true (by omega),Zi,Znb _ hq,Za,Znb _ hq,Za,qmulB (hf q hq) (hg q hq) (by omega) (by omega),Za,qaddB z2 z1 (by omega) (by omega),Za,ZC (by omega) (by omega),Za];rfl
 ·simp only;rw [decide_eq_false (by omega),Zh]
noncomputable def ZVh (l:(List Int)) (v:Int):Option (Int) :=
 bnd (bnd (Zp (fun s:Int=>match s with
 | a =>
 (ifb (decide (a<(l.length:Int)))
 (bnd (idx l a) fun b =>
 ifb (v==b)
 (some (.inr ((.inl a))))
 (bnd (chk .i64 (a+(1:Int))) fun c =>
 some (.inl c)))
 (some (.inr ((.inr (()))))))) Zw (0:Int))
 (fun (p:(Int) ⊕ (Unit))=>match p with
 | .inl d =>
 (some ((.inr d)))
 | .inr (()) =>
 (some ((.inl (()))))))
 (fun (p:(Unit) ⊕ (Int))=>match p with
 | .inl (()) =>
 (some (-1:Int))
 | .inr e =>
 (some e))
noncomputable def Zfh (l:(List Int)) (v:Int):Option (Bool) :=
 bnd (ZVh l v) fun a =>
 some (decide ((0:Int)≤a))
noncomputable def Zjh (m:List (List Rat)):Option ((List (List Rat))×Int) :=
 bnd (Zng m) fun g =>
 ifb (!g)
 (some (([]:List (List Rat)),(4:Int)))
 (bnd (ZMg m) fun c =>
 bnd (Zde m) fun h =>
 bnd (Zp (σ:=(List (List Rat))×Int) (ρ:=List (List Rat)) (fun a =>
 ifb (decide (a.2<h))
 (bnd (α:=List (List Rat))
 (bnd (Zfh c.2.1 a.2) fun i =>
 ifb i
 (some a.1)
 (bnd (Zde m) fun j =>
 bnd (ZHd (0:Int)) fun k =>
 bnd (repF 56 [k] j) fun d =>
 bnd (ZHd (1:Int)) fun l =>
 bnd (idx d a.2) fun u =>
 bnd (Zp (σ:=Int×(List Rat)) (ρ:=List Rat) (fun b =>
 ifb (decide (b.1<(c.2.1.length:Int)))
 (bnd (idx c.2.1 b.1) fun e =>
 bnd (idx c.1 b.1) fun n =>
 bnd (idx n a.2) fun o =>
 bnd (Zvd o) fun p =>
 bnd (idx b.2 e) fun v =>
 bnd (chk .i64 (b.1+(1:Int))) fun q =>
 some (.inl (q,b.2.set e.toNat p)))
 (some (.inr b.2)))
        Zw ((0:Int),d.set a.2.toNat l)) fun f =>
 bnd (Z5 24 (a.1++[f])) fun _ =>
 some (a.1++[f]))) fun r =>
 bnd (chk .i64 (a.2+(1:Int))) fun s =>
 some (.inl (r,s)))
 (some (.inr a.1)))
   Zw (([]:List (List Rat)),(0:Int))) fun t =>
 some (t,(0:Int)))
noncomputable def Zch (m:List (List Rat)) (c:List Rat):Option (Bool×(List Rat)×Int) :=
 bnd (α:=Bool)
 (bnd (Zng m) fun f =>
 ifb (!f)
 (some true)
 (bnd (Zde m) fun g =>
 some ((c.length:Int) != g))) fun h =>
 ifb h
 (some (false,([]:List Rat),(4:Int)))
 (bnd (Zjh m) fun d =>
 bnd (Zp (σ:=Int) (ρ:=Unit ⊕ (Bool×(List Rat)×Int)) (fun a =>
 ifb (decide (a<(d.1.length:Int)))
 (bnd (idx d.1 a) fun e =>
 bnd (Zph c e) fun i =>
 bnd (Ztc i) fun j =>
 ifb (!j)
 (some (.inr (.inr (false,e,(0:Int)))))
 (bnd (chk .i64 (a+(1:Int))) fun k =>
 some (.inl k)))
 (some (.inr (.inl ()))))
   Zw (0:Int)) fun l =>
  match l with
 | .inl n=>(some (true,([]:List Rat),(0:Int)))
 | .inr b=>(some (b.1,b.2.1,b.2.2)))
theorem ZYr (l:List Nat) (c:Nat) (hl:l.length≤1000):∃ z,ZVh (Zdc l) (c:Int)=some z∧(0≤z↔c ∈ l):=by
 unfold ZVh;rw [Z4];refine ZUi (fun k s=>s=(k:Int)∧∀ i,i<k→l[i]? ≠ some c) (fun r=>(∃ i:Nat,r = .inl (i:Int)∧l[i]? = some c)∨(r = .inr ()∧c ∉ l)) l.length ⟨rfl,fun i hi=>by omega⟩ (by omega) (fun k s hk hs=>?_) (fun r hr=>?_)
 ·obtain ⟨rfl,h⟩:=hs;simp only [ZCg];by_cases hlt:k<l.length
  ·have hc:l[k]? = some l[k]:=List.getElem?_eq_getElem hlt;rw [decide_eq_true (by omega),Zi,Zio hc,Za];by_cases e:l[k]=c
   ·right;refine ⟨_,by rw [show ((c:Int)==((l[k]:Nat):Int))=true by simp [e],Zi],.inl ⟨k,rfl,by rw [hc,e]⟩⟩
   ·left;refine ⟨((k+1:Nat):Int),hlt,by rw [show ((c:Int)==((l[k]:Nat):Int))=false by simp;omega,Zh,ZC (by omega) (by omega),Za];rfl,rfl,fun i hi=>?_⟩;by_cases e2:i=k
    ·subst e2;rw [hc];exact fun h=>e (Option.some.inj h)
    ·exact h i (by omega)
  ·right;refine ⟨_,by rw [decide_eq_false (by omega),Zh],.inr ⟨rfl,fun hm=>?_⟩⟩;obtain ⟨i,hi⟩:=List.getElem?_of_mem hm;have:=(List.getElem?_eq_some_iff.1 hi).1;exact h i (by omega) hi
 ·rcases hr with ⟨i,rfl,h⟩ | ⟨rfl,h⟩
  ·exact ⟨(i:Int),rfl,⟨fun _=>List.mem_of_getElem? h,fun _=>by omega⟩⟩
  ·exact ⟨-1,rfl,⟨fun h2=>by omega,fun h2=>absurd h2 h⟩⟩
theorem Zds (l:List Nat) (c:Nat) (hl:l.length≤1000):Zfh (Zdc l) (c:Int)=some (decide (c ∈ l)):=by
 obtain ⟨z,h1,h2⟩:=ZYr l c hl;unfold Zfh;rw [h1,Za];refine congrArg some ?_;rw [Bool.eq_iff_iff];simpa using h2
def ZAa (piv:List Nat) (k:Nat):List Nat:=(List.range k).filter fun j=>decide (j ∉ piv)
theorem Zjs {R n K:Nat} {M:Mx} (h0:R=0→n=0) (hR:R≤32) (hn:n≤32) (hK:1≤K) (hz:CD K R n M) (hk:kk K n≤274877906944) :
  ∃ M' piv,Eli R n M M' piv n∧CD (kk K n) R n M'∧Zjh (mx R n M)=some ((ZAa piv n).map (fun j=>vx n (kv M' piv j)),0):=by
 obtain ⟨z,h1,M',piv,d,rfl,h2,h3⟩:=Zkv h0 (by omega) (by omega) hK hz hk;refine ⟨M',piv,h2,h3,?_⟩;have pl:=inc_len h2.inc h2.lt;have pR:=h2.le;unfold Zjh;rw [Z9p M h0 hR hn,Za,show (!true)=false from rfl,Zh,h1,Za,Zkj M h0,Za];refine ZOa (Zke (fun k=>((ZAa piv k).map (fun j=>vx n (kv M' piv j)),(k:Int))) n rfl (by omega) (fun k hkn=>?_) ?_) rfl
 ·simp only;rw [decide_eq_true (by omega),Zi];refine ZOa (y:=(ZAa piv (k+1)).map (fun j=>vx n (kv M' piv j))) ?_ ?_
  ·rw [Zds _ _ (by omega),Za];have ef:ZAa piv (k+1)=ZAa piv k++if k ∈ piv then [] else [k]:=by
    unfold ZAa;rw [List.range_succ,List.filter_append];by_cases e:k ∈ piv <;> simp [e]
   by_cases hm:k ∈ piv
   ·rw [decide_eq_true hm,Zi,ef,if_pos hm,List.append_nil]
   ·rw [decide_eq_false hm,Zh,Za,ZTg,Za,rep_ok (by omega) (by omega),Za,ZTg,Za,Znb _ hkn,Za];simp only [Int.toNat_natCast];refine ZOa (y:=vx n (kv M' piv k)) (Zke (fun i=>((i:Int),vx n fun d=>if d=k then 1 else match piv.idxOf? d with
     | some q=>if q<i then-M' q k else 0
     | none=>0)) piv.length ?_ (by omega) (fun i hip=>?_) ?_) ?_
    ·rw [Zed];refine Prod.ext rfl (ZOc fun d hd=>?_);by_cases e:d=k
     ·rw [if_pos e,if_pos e];rfl
     ·rw [if_neg e,if_neg e];split
      ·rw [if_neg (by omega)];rfl
      ·rfl
    ·have hc:piv[i]? = some piv[i]:=List.getElem?_eq_getElem hip;have hcn:piv[i]<n:=h2.lt _ (List.mem_of_getElem? hc);simp only [ZCg];rw [decide_eq_true (by omega),Zi,Zio hc,Za,Zcc _ (by omega),Za,Znb _ hkn,Za];unfold Zvd;rw [Za,Znb _ hcn,Za,ZC (by omega) (by omega),Za];simp only [Int.toNat_natCast];rw [Zed];refine congrArg (fun x=>some (Sum.inl x)) (Prod.ext (by simp) (ZOc fun d hd=>?_));by_cases e:d=piv[i]
     ·have hne:d≠k:=fun e2=>hm (by rw [← e2,e];exact List.mem_of_getElem? hc);rw [if_pos e,if_neg hne,e,ZJo h2.inc hc];simp
     ·rw [if_neg e];by_cases e1:d=k
      ·rw [if_pos e1,if_pos e1]
      ·rw [if_neg e1,if_neg e1]
       cases hx:piv.idxOf? d with
       | none=>rfl
       | some q =>
        have:q≠i:=fun e2=>by
         subst e2;unfold List.idxOf? at hx;obtain ⟨_,h6,_⟩:=List.findIdx?_eq_some_iff_getElem.1 hx;simp at h6;exact e h6.symm
        simp only;by_cases e3:q<i
        ·rw [if_pos e3,if_pos (by omega)]
        ·rw [if_neg e3,if_neg (by omega)]
    ·simp only [ZCg];rw [decide_eq_false (by omega),Zh];refine congrArg (fun x=>some (Sum.inr x)) (ZOc fun d hd=>?_);unfold kv;by_cases e:d=k
     ·rw [if_pos e,if_pos e]
     ·rw [if_neg e,if_neg e]
      cases hx:piv.idxOf? d with
      | none=>rfl
      | some q =>
       unfold List.idxOf? at hx;obtain ⟨h5,_⟩:=List.findIdx?_eq_some_iff_getElem.1 hx;simp only;rw [if_pos h5]
    ·have e4:(ZAa piv k).map (fun j=>vx n (kv M' piv j))++[vx n (kv M' piv k)]=(ZAa piv (k+1)).map (fun j=>vx n (kv M' piv j)):=by rw [ef,if_neg hm,List.map_append];rfl
     rw [e4];have hfl:(ZAa piv (k+1)).length≤k+1:=by
      unfold ZAa;have:=List.length_filter_le (fun j=>decide (j ∉ piv)) (List.range (k+1))
      rwa [List.length_range] at this
     rw [Zbd (by rw [List.length_map];omega),Za]
  ·rw [ZC (by omega) (by omega),Za];rfl
 ·simp only;rw [decide_eq_false (by omega),Zh]
theorem kv_sz {K R n:Nat} {M':Mx} {piv:List Nat} (hC:CD K R n M') (hK:1≤K) (hpl:piv.length≤R) {j:Nat} (hj:j<n) (d:Nat):sz K (kv M' piv j d):=by
 unfold kv;split
 ·exact ZFh.mono hK
 ·cases hx:piv.idxOf? d with
  | none=>exact Z8g.mono hK
  | some q =>
   unfold List.idxOf? at hx;obtain ⟨h5,_⟩:=List.findIdx?_eq_some_iff_getElem.1 hx;exact Z4n (hC.sz (by omega) hj)
theorem kk_pos {K n:Nat} (h:1≤K):1≤kk K n:=by
 have:=ZIi (K:=K) (k:=0) (n:=n) (Nat.zero_le _);unfold kk at this;unfold kk;simp at this;omega
theorem Zzt {R n K m:Nat} {M:Mx} {c:Nat→Rat} (h0:R=0→n=0) (hR:R≤32) (hn:n≤32) (hK:1≤K) (hz:CD K R n M) (hk:kk K n≤17179869184) (hc:∀ j,j<n→sz m (c j)) (hm:m≤10000000000) :
  ∃ z,Zch (mx R n M) (vx n c)=some z∧((z=(true,[],0)∧∀ v,Ker R n M v→sm n (fun j=>c j*v j)=0) ∨ ∃ v,Ker R n M v∧sm n (fun j=>c j*v j)≠0∧z=(false,vx n v,0)):=by
 obtain ⟨M',piv,h2,h3,h4⟩:=Zjs h0 hR hn hK hz (by omega);unfold Zch;refine Zpb (y:=false) ?_ ?_
 ·rw [Z9p M h0 hR hn,Za,show (!true)=false from rfl,Zh,Zkj M h0,Za,Zxc];exact congrArg some (by simp)
 rw [Zh,h4,Za];have hf:∀ j,j ∈ ZAa piv n→j<n∧j ∉ piv:=fun j hj=>by
  unfold ZAa at hj;have:=List.mem_filter.1 hj;exact ⟨List.mem_range.1 this.1,by simpa using this.2⟩
 have hfl:(ZAa piv n).length≤n:=by
  unfold ZAa;have:=List.length_filter_le (fun j=>decide (j ∉ piv)) (List.range n)
  rwa [List.length_range] at this
 refine ZUi (fun k s=>s=(k:Int)∧∀ i,i<k→∀ j,(ZAa piv n)[i]? = some j→sm n (fun d=>c d*kv M' piv j d)=0) (fun r=>(r = .inl ()∧∀ j,j ∈ ZAa piv n→sm n (fun d=>c d*kv M' piv j d)=0) ∨ ∃ v,Ker R n M v∧sm n (fun j=>c j*v j)≠0∧r = .inr (false,vx n v,0)) (ZAa piv n).length ⟨rfl,fun i hi=>by omega⟩ (by omega) (fun k s hkl hs=>?_) (fun r hr=>?_)
 ·obtain ⟨rfl,h⟩:=hs;simp only [List.length_map];by_cases hlt:k<(ZAa piv n).length
  ·have hg:(ZAa piv n)[k]? = some (ZAa piv n)[k]:=List.getElem?_eq_getElem hlt;obtain ⟨g1,g2⟩:=hf _ (List.mem_of_getElem? hg);have hdot:=dot_big (f:=c) (g:=kv M' piv (ZAa piv n)[k]) (k:=m) (m:=kk K n) hc (fun j hj=>kv_sz h3 (kk_pos hK) h2.le g1 j) (by omega) (by
    have:(n+1)*(m+kk K n+1)≤33*(m+kk K n+1):=Nat.mul_le_mul_right _ (by omega);omega)
   rw [decide_eq_true (by omega),Zi,Zxl (x:=vx n (kv M' piv (ZAa piv n)[k])) (by rw [List.getElem?_map,hg];rfl),Za,hdot,Za];unfold Ztc;rw [Za];by_cases e:sm n (fun d=>c d*kv M' piv (ZAa piv n)[k] d)=0
   ·left;refine ⟨((k+1:Nat):Int),hlt,by rw [decide_eq_true e,show (!true)=false from rfl,Zh,ZC (by omega) (by omega),Za];rfl,rfl,fun i hi j hj=>?_⟩;by_cases e2:i=k
    ·subst e2;rw [hg] at hj;cases hj;exact e
    ·exact h i (by omega) j hj
   ·right;exact ⟨_,by rw [decide_eq_false e,show (!false)=true from rfl,Zi],.inr ⟨_,h2.kv_ker g1 g2,e,rfl⟩⟩
  ·right;refine ⟨_,by rw [decide_eq_false (by omega),Zh],.inl ⟨rfl,fun j hj=>?_⟩⟩;obtain ⟨i,hi⟩:=List.getElem?_of_mem hj;have:=(List.getElem?_eq_some_iff.1 hi).1;exact h i (by omega) j hi
 ·rcases hr with ⟨rfl,h⟩ | ⟨v,h5,h6,rfl⟩
  ·refine ⟨_,rfl,.inl ⟨rfl,fun v hv=>?_⟩⟩;rw [ZZc (g:=fun d=>sm n fun j=>if j ∈ piv then 0 else v j*(c d*kv M' piv j d)) fun d hd=>?_,sm_swap]
   ·refine Zdf fun j hj=>?_;by_cases e:j ∈ piv
    ·exact Zdf fun d hd=>by rw [if_pos e]
    ·rw [ZZc (g:=fun d=>v j*(c d*kv M' piv j d)) fun d hd=>by rw [if_neg e],ZSg,h j (List.mem_filter.2 ⟨List.mem_range.2 hj,by simpa using e⟩)];grind
   ·rw [h2.span hv d hd,← ZSg];refine ZZc fun j hj=>?_;split <;> grind
  ·exact ⟨_,rfl,.inr ⟨v,h5,h6,rfl⟩⟩
noncomputable def Z0g (x:Rat) (y:Rat):Option (Rat) :=
 bnd (ZIc x y) fun a =>
 some a.1
noncomputable def ZXa (n:Int):Option (Rat) :=
 bnd (Zlc n) fun a =>
 some a
theorem ZRt (n:Int):ZXa n=some (n:Rat):=by unfold ZXa Zlc;rw [Za]
noncomputable def ZJj (z:Int×Int×Int×Int×Rat):Option (Int×Int×Int×Int) :=
 some (z.1,z.2.1,z.2.2.1,z.2.2.2.1)
noncomputable def Zbf (z:Int×Int×Int×Int):Option (Int×Int×Int×Int) :=
 some (z.1,z.2.1,z.2.2.1,z.2.2.2)
noncomputable def Ztm (z:Int×Int×Int×Int) (l:List (Int×Int×Int×Int×Rat)):Option Int :=
 bnd (Zbf z) fun a =>
 bnd (α:=Int)
 (bnd (Zp (σ:=Int) (ρ:=Unit ⊕ Int) (fun c =>
 ifb (decide (c<([a.1,a.2.1,a.2.2.1,a.2.2.2].length:Int)))
 (bnd (idx [a.1,a.2.1,a.2.2.1,a.2.2.2] c) fun e =>
 bnd (α:=Bool)
 (ifb (decide (e<(1:Int)))
 (some true)
 (some (decide ((8:Int)<e)))) fun f =>
 ifb f
 (some (.inr (.inr c)))
 (bnd (chk .i64 (c+(1:Int))) fun g =>
 some (.inl g)))
 (some (.inr (.inl ()))))
   Zw (0:Int)) fun h =>
  match h with
 | .inl u=>(some (-1:Int))
 | .inr i=>(some i)) fun j =>
 ifb (decide ((0:Int)≤j))
 (some (1:Int))
 (bnd (α:=Bool)
 (ifb ((l.length:Int)==(0:Int))
 (some true)
 (some (decide ((32:Int)<(l.length:Int))))) fun k =>
 ifb k
 (some (4:Int))
 (bnd (Zp (σ:=Int) (ρ:=Unit ⊕ Int) (fun d =>
 ifb (decide (d<(l.length:Int)))
 (bnd (idx l d) fun m =>
 bnd (ZJj m) fun b =>
 bnd (α:=Bool)
 (ifb (decide (b.1<(0:Int)))
 (some true)
 (some (decide (a.1≤b.1)))) fun n =>
 ifb n
 (some (.inr (.inr (1:Int))))
 (bnd (α:=Bool)
 (ifb (decide (b.2.1<(0:Int)))
 (some true)
 (some (decide (a.2.1≤b.2.1)))) fun o =>
 ifb o
 (some (.inr (.inr (1:Int))))
 (bnd (α:=Bool)
 (ifb (decide (b.2.2.1<(0:Int)))
 (some true)
 (some (decide (a.2.2.1≤b.2.2.1)))) fun p =>
 ifb p
 (some (.inr (.inr (1:Int))))
 (bnd (α:=Bool)
 (ifb (decide (b.2.2.2<(0:Int)))
 (some true)
 (some (decide (a.2.2.2≤b.2.2.2)))) fun q =>
 ifb q
 (some (.inr (.inr (1:Int))))
 (bnd (chk .i64 (d+(1:Int))) fun r =>
 some (.inl r))))))
 (some (.inr (.inl ()))))
    Zw (0:Int)) fun s =>
   match s with
 | .inl v=>(some (0:Int))
 | .inr t=>(some t)))
noncomputable def Z9d (z:Int×Int×Int×Int):Option Int :=
 bnd (chk .i64 (z.1+z.2.1)) fun a =>
 bnd (chk .i64 (a+z.2.2.1)) fun b =>
 bnd (chk .i64 (b+z.2.2.2)) fun c =>
 some c
noncomputable def Zxe (z:Int×Int×Int×Int) (l:List (Int×Int×Int×Int×Rat)):Option ((List (List Rat))×Int) :=
 bnd (Ztm z l) fun k =>
 ifb (k != (0:Int))
 (some (([]:List (List Rat)),k))
 (bnd (Zp (σ:=(List (List Rat))×Int) (ρ:=List (List Rat)) (fun b =>
 ifb (decide (b.2<(l.length:Int)))
 (bnd (idx l b.2) fun q =>
 bnd (Z9d z) fun a =>
 bnd (mk 56 a a) fun _ =>
 bnd (ZJj q) fun f =>
 bnd (chk .i64 ((0:Int)+f.1)) fun c =>
 bnd (ZXa (1:Int)) fun d =>
 bnd (idx (List.replicate a.toNat (0:Rat)) c) fun x =>
 bnd (Zbf z) fun r =>
 bnd (chk .i64 ((0:Int)+r.1)) fun m =>
 bnd (chk .i64 (m+f.2.1)) fun e =>
 bnd (ZXa (1:Int)) fun g =>
 bnd (idx ((List.replicate a.toNat (0:Rat)).set c.toNat d) e) fun y =>
 bnd (Zbf z) fun s =>
 bnd (chk .i64 (m+s.2.1)) fun n =>
 bnd (chk .i64 (n+f.2.2.1)) fun h =>
 bnd (ZXa (1:Int)) fun i =>
 bnd (idx (((List.replicate a.toNat (0:Rat)).set c.toNat d).set e.toNat g) h) fun A =>
 bnd (Zbf z) fun t =>
 bnd (chk .i64 (n+t.2.2.1)) fun o =>
 bnd (chk .i64 (o+f.2.2.2)) fun j =>
 bnd (ZXa (1:Int)) fun p =>
 bnd (idx ((((List.replicate a.toNat (0:Rat)).set c.toNat d).set e.toNat g).set h.toNat i) j) fun B =>
 bnd (Zbf z) fun u =>
 bnd (chk .i64 (o+u.2.2.2)) fun C =>
 bnd (Z5 24 (b.1++[((((List.replicate a.toNat (0:Rat)).set c.toNat d).set e.toNat g).set h.toNat i).set j.toNat p])) fun _ =>
 bnd (chk .i64 (b.2+(1:Int))) fun v =>
 some (.inl (b.1++[((((List.replicate a.toNat (0:Rat)).set c.toNat d).set e.toNat g).set h.toNat i).set j.toNat p],v)))
 (some (.inr b.1)))
   Zw (([]:List (List Rat)),(0:Int))) fun w =>
 some (w,(0:Int)))
noncomputable def ZXg (z:Int×Int×Int×Int) (l:List (Int×Int×Int×Int×Rat)) (a:Int) (b:Int):Option ((List (List Rat))×(List Rat)×Int) :=
 bnd (Zxe z l) fun d =>
 bnd (α:=Bool)
 (ifb (d.2==(0:Int))
 (ifb (decide (a<(0:Int)))
 (some true)
 (ifb (decide (z.1≤a))
 (some true)
 (ifb (decide (b<(0:Int)))
 (some true)
 (some (decide (z.1≤b))))))
 (some false)) fun g =>
 bnd (α:=Int)
 (ifb g
 (some (1:Int))
 (some d.2)) fun f =>
 ifb (f != (0:Int))
 (some (([]:List (List Rat)),([]:List Rat),f))
 (bnd (Z9d z) fun c =>
 bnd (mk 56 c c) fun _ =>
 bnd (idx (List.replicate c.toNat (0:Rat)) a) fun h =>
 bnd (ZXa (1:Int)) fun i =>
 bnd (ZBb h i) fun e =>
 bnd (idx (List.replicate c.toNat (0:Rat)) a) fun n =>
 bnd (idx ((List.replicate c.toNat (0:Rat)).set a.toNat e) b) fun j =>
 bnd (ZXa (1:Int)) fun k =>
 bnd (Zxb j k) fun m =>
 bnd (idx ((List.replicate c.toNat (0:Rat)).set a.toNat e) b) fun o =>
 some (d.1,((List.replicate c.toNat (0:Rat)).set a.toNat e).set b.toNat m,(0:Int)))
noncomputable def ZAe (z:Int×Int×Int×Int) (l:List (Int×Int×Int×Int×Rat)) (a:Int) (b:Int):Option (Bool×(List Rat)×Int) :=
 bnd (ZXg z l a b) fun c =>
 ifb (c.2.2 != (0:Int))
 (some (false,([]:List Rat),c.2.2))
 (bnd (Zch c.1 c.2.1) fun d =>
 some (d.1,d.2.1,d.2.2))
def ind (p j:Nat):Rat:=if j=p then 1 else 0
theorem ZPf {n p:Nat} (h:p<n) (v:Nat→Rat):sm n (fun j=>ind p j*v j)=v p:=by
 rw [ZHi h fun j hj hne=>by unfold ind;rw [if_neg hne];grind];unfold ind;rw [if_pos rfl];grind
theorem ZLm (p j:Nat):sz 1 (ind p j):=by unfold ind;split;exact ZFh;exact Z8g
def ctr (a b:Nat):Nat→Rat:=fun j=>ind a j-ind b j
theorem ctr_sz (a b j:Nat):sz 3 (ctr a b j):=sz_sub (ZLm a j) (ZLm b j)
theorem ZAn {n a b:Nat} (ha:a<n) (hb:b<n) (v:Nat→Rat):sm n (fun j=>ctr a b j*v j)=v a-v b:=by
 rw [← ZPf ha v,← ZPf hb v,← Zko];exact ZZc fun j hj=>by unfold ctr;grind
theorem Zlt {z:Int×Int×Int×Int} {l:List (Int×Int×Int×Int×Rat)} {R n a b:Nat} {M:Mx} (hD:Zxe z l=some (mx R n M,0)) (hs:Z9d z=some (n:Int)) (hn:n≤32) (hz:z.1≤n) (ha:(a:Int)<z.1) (hb:(b:Int)<z.1) :
  ZXg z l (a:Int) (b:Int)=some (mx R n M,vx n (ctr a b),0):=by
 have han:a<n:=by omega
 have hbn:b<n:=by omega
 unfold ZXg;rw [hD,Za];refine ZOa (y:=false) ?_ ?_
 ·rw [show (((mx R n M),(0:Int)).2==(0:Int))=true from rfl,Zi,decide_eq_false (by omega),Zh,decide_eq_false (by omega),Zh,decide_eq_false (by omega),Zh,decide_eq_false (by omega)]
 have e0:((1:Int):Rat)=(1:Rat):=rfl;rw [Zh,Za,show (((mx R n M),(0:Int)).2 != (0:Int))=false from rfl,Zh,hs,Za,mk_ok (by omega) (by omega),Za,Int.toNat_natCast,Zcl,Znb _ han,Za,ZRt,Za,e0,qaddB Z8g ZFh (by omega) (by omega),Za,Za,Int.toNat_natCast,Zed,Znb _ hbn,Za,Za];have e1:(if b=a then (0:Rat)+1 else 0)=ind a b:=by unfold ind;split <;> grind
 rw [e1,qsubB (ZLm a b) ZFh (by omega) (by omega),Za,Za,Int.toNat_natCast,Zed];refine congrArg some (Prod.ext rfl (Prod.ext (ZOc fun j hj=>?_) rfl));show _=ind a j-ind b j;unfold ind;by_cases e:j=b
 ·rw [if_pos e,if_pos e,e]
 ·rw [if_neg e,if_neg e];by_cases e2:j=a
  ·rw [if_pos e2,if_pos e2];grind
  ·rw [if_neg e2,if_neg e2];grind
theorem Zyl {z:Int×Int×Int×Int} {l:List (Int×Int×Int×Int×Rat)} {R n a b:Nat} {M:Mx} (hD:Zxe z l=some (mx R n M,0)) (hs:Z9d z=some (n:Int)) (h0:R=0→n=0) (hR:R≤32) (hn:n≤32) (hz:z.1≤n) (ha:(a:Int)<z.1) (hb:(b:Int)<z.1) (hC:CD 1 R n M) :
  ∃ y,ZAe z l (a:Int) (b:Int)=some y∧((y=(true,[],0)∧∀ v,Ker R n M v→v a=v b) ∨ ∃ v,Ker R n M v∧v a≠v b∧y=(false,vx n v,0)):=by
 have han:a<n:=by omega
 have hbn:b<n:=by omega
 have hk:kk 1 n≤17179869184:=by
  have:=ZIi (K:=1) (k:=n) (n:=32) hn;have e:kk 1 32=8589934591:=by decide
  omega
 obtain ⟨y,h1,h2⟩:=Zzt (c:=ctr a b) (m:=3) h0 hR hn (by omega) hC hk (fun j hj=>ctr_sz a b j) (by omega);refine ⟨y,?_,?_⟩
 ·unfold ZAe;rw [Zlt hD hs hn hz ha hb,Za,show (((mx R n M),vx n (ctr a b),(0:Int)).2.2 != (0:Int))=false from rfl,Zh,h1,Za]
 ·rcases h2 with ⟨rfl,h2⟩ | ⟨v,h2,h3,rfl⟩
  ·refine .inl ⟨rfl,fun v hv=>?_⟩;have:=h2 v hv;rw [ZAn han hbn] at this;grind
  ·refine .inr ⟨v,h2,fun e=>h3 ?_,rfl⟩;rw [ZAn han hbn,e];grind
noncomputable def ZIl (x:Rat):Option (Bool) :=
 bnd (ZVe x) fun a =>
 some (decide (a≤(0:Int)))
noncomputable def Z1s (l:(List Rat)) (g:Unit):Option (Int) :=
 bnd (bnd (Zp (fun s:Int=>match s with
 | a =>
 (ifb (decide (a<(l.length:Int)))
 (bnd (idx l a) fun b =>
 bnd (ZIl b) fun c =>
 ifb (c)
 (some (.inr ((.inl a))))
 (bnd (chk .i64 (a+(1:Int))) fun d =>
 some (.inl d)))
 (some (.inr ((.inr (()))))))) Zw (0:Int))
 (fun (p:(Int) ⊕ (Unit))=>match p with
 | .inl e =>
 (some ((.inr e)))
 | .inr (()) =>
 (some ((.inl (()))))))
 (fun (p:(Unit) ⊕ (Int))=>match p with
 | .inl (()) =>
 (some (-1:Int))
 | .inr f =>
 (some f))
noncomputable def Z5t (l:(List Rat)) (g:Unit):Option (Bool) :=
 bnd (Z1s l (())) fun a =>
 some (decide ((0:Int)≤a))
noncomputable def Zgk (l:(List Rat)):Option (Bool) :=
 bnd (Z5t l (())) fun a =>
 some (!(a))
noncomputable def Z1l (t:(Rat×(List Rat))):Option (Int) :=
 bnd (Zgk ([t.1])) fun b =>
 ifb (!(b))
 (some (1:Int))
 (bnd (ifb (((t.2.length:Int))==(0:Int))
 (some true)
 (some (decide ((16:Int)≤(t.2.length:Int)))))
 (fun (c:Bool) =>
 (ifb (c)
 (some (4:Int))
 (bnd (bnd (Zp (fun s:Int=>match s with
 | a =>
 (ifb (decide (a<(t.2.length:Int)))
 (bnd (idx t.2 a) fun d =>
 bnd (ifb (decide ((0:Int)<a))
 (bnd (chk .i64 (a-(1:Int))) fun e =>
 bnd (idx t.2 e) fun f =>
 bnd (Zqe d f) fun g =>
 some (decide (g≤(0:Int))))
 (some false))
 (fun (h:Bool) =>
 (ifb (h)
 (some (.inr ((.inl (7:Int)))))
 (bnd (chk .i64 (a+(1:Int))) fun i =>
 some (.inl i)))))
 (some (.inr ((.inr (()))))))) Zw (0:Int))
 (fun (p:(Int) ⊕ (Unit))=>match p with
 | .inl j =>
 (some ((.inr j)))
 | .inr (()) =>
 (some ((.inl (()))))))
 (fun (p:(Unit) ⊕ (Int))=>match p with
 | .inl (()) =>
 (some (0:Int))
 | .inr k =>
 (some k))))))
noncomputable def ZIq (y:Rat) (r:Rat):Option (Bool) :=
 bnd (Zqe y r) fun a =>
 some (decide ((0:Int)≤a))
noncomputable def ZVu (l:(List Rat)) (g:Rat):Option (Int) :=
 bnd (bnd (Zp (fun s:Int=>match s with
 | a =>
 (ifb (decide (a<(l.length:Int)))
 (bnd (idx l a) fun b =>
 bnd (ZIq b g) fun c =>
 ifb (c)
 (some (.inr ((.inl a))))
 (bnd (chk .i64 (a+(1:Int))) fun d =>
 some (.inl d)))
 (some (.inr ((.inr (()))))))) Zw (0:Int))
 (fun (p:(Int) ⊕ (Unit))=>match p with
 | .inl e =>
 (some ((.inr e)))
 | .inr (()) =>
 (some ((.inl (()))))))
 (fun (p:(Unit) ⊕ (Int))=>match p with
 | .inl (()) =>
 (some (-1:Int))
 | .inr f =>
 (some f))
noncomputable def Z9l (t:(Rat×(List Rat))) (x:Rat):Option (Int) :=
 bnd (Z5h x t.1) fun b =>
 bnd (ZVu t.2 b.1) fun a =>
 ifb (decide (a<(0:Int)))
 (some ((t.2.length:Int)))
 (some a)
noncomputable def Zal (t:(Rat×(List Rat))) (x:Rat):Option (Int×Int) :=
 bnd (Z1l ((t.1,t.2))) fun a =>
 ifb (a != (0:Int))
 (some (((0:Int),a)))
 (bnd (Z9l ((t.1,t.2)) x) fun b =>
 some ((b,(0:Int))))
noncomputable def ZPl (d:((Int×Int)×(Int×Int)×(Int×Int))):Option ((Rat×Rat×Rat)×(Rat×Rat×Rat)) :=
 bnd (ZMd ((d.1.1,d.1.2))) fun a =>
 bnd (ZMd ((d.2.1.1,d.2.1.2))) fun b =>
 bnd (ZMd ((d.2.2.1,d.2.2.2))) fun c =>
 bnd (Zle ((d.1.1,d.1.2))) fun e =>
 bnd (Zle ((d.2.1.1,d.2.1.2))) fun f =>
 bnd (Zle ((d.2.2.1,d.2.2.2))) fun g =>
 some (((a,b,c),(e,f,g)))
noncomputable def ZPm (d:(Rat×Rat×Rat)):Option (Bool) :=
 bnd (Zgk ([d.1,d.2.1,d.2.2])) fun a =>
 some a
noncomputable def ZFl (d:(Rat×Rat×Rat)) (x:Rat) (y:Rat):Option (Rat×Int) :=
 bnd (ZPm ((d.1,d.2.1,d.2.2))) fun a =>
 ifb (!(a))
 (some (((0:Rat),(1:Int))))
 (bnd (Zxb x y) fun b =>
 bnd (ZXa (1:Int)) fun c =>
 bnd (Z0g d.2.1 d.1) fun e =>
 bnd (ZBb c e) fun f =>
 bnd (Z1a b f) fun g =>
 some ((g,(0:Int))))
noncomputable def Z7h (i:Int) (k:Int):Option (Rat) :=
 ifb (i==k)
 (bnd (ZXa (1:Int)) fun a =>
 some a)
 (some ((0:Rat)))
noncomputable def Zou (t:(List (List Int))) (n:Int) (g:Unit):Option (Rat×Rat) :=
 bnd (bnd (mk 8 ((t.length:Int)) ((t.length:Int))) fun an =>
 bnd (mk 8 ((t.length:Int)) ((t.length:Int))) fun ao =>
 some (((List.replicate ((t.length:Int)).toNat (0:Int)),(List.replicate ((t.length:Int)).toNat (0:Int)))))
 (fun (p:(List Int)×(List Int))=>match p with
 | (u,v) =>
 (bnd (bnd (Zp (fun s:(List Int)×(List Int)×Int=>match s with
 | (h,i,a) =>
 (ifb (decide (a<(t.length:Int)))
 (bnd (idx t a) fun j =>
 bnd (bnd (Zp (fun s:(List Int)×(List Int)×Int=>match s with
 | (e,f,b) =>
 (ifb (decide (b<(j.length:Int)))
 (bnd (idx j b) fun k =>
 bnd (idx e a) fun w =>
 bnd (chk .i64 (w+k)) fun x =>
 bnd (idx e a) fun ap =>
 bnd (idx f b) fun y =>
 bnd (chk .i64 (y+k)) fun z =>
 bnd (idx f b) fun aq =>
 bnd (chk .i64 (b+(1:Int))) fun A =>
 some (.inl (((e.set (a).toNat x),(f.set (b).toNat z),A))))
 (some (.inr ((e,f)))))) Zw ((h,i,(0:Int))))
 (fun (p:(List Int)×(List Int))=>match p with
 | (B,C) =>
 (some ((B,C)))))
 (fun (p:(List Int)×(List Int))=>match p with
 | (D,E) =>
 (bnd (chk .i64 (a+(1:Int))) fun F =>
 some (.inl ((D,E,F))))))
 (some (.inr ((h,i)))))) Zw ((u,v,(0:Int))))
 (fun (p:(List Int)×(List Int))=>match p with
 | (G,H) =>
 (some ((G,H)))))
 (fun (p:(List Int)×(List Int))=>match p with
 | (I,J) =>
 (bnd (bnd (Zp (fun s:Rat×Rat×Int=>match s with
 | (l,m,c) =>
 (ifb (decide (c<(t.length:Int)))
 (bnd (idx t c) fun o =>
 bnd (bnd (Zp (fun s:Rat×Rat×Int=>match s with
 | (q,r,d) =>
 (ifb (decide (d<(o.length:Int)))
 (bnd (idx o d) fun K =>
 bnd (Z7h c d) fun L =>
 bnd (ZXa K) fun M =>
 bnd (Z1a L M) fun N =>
 bnd (ZBb q N) fun O =>
 bnd (Z7h c d) fun P =>
 bnd (idx I c) fun Q =>
 bnd (ZXa Q) fun R =>
 bnd (Z1a P R) fun S =>
 bnd (idx J d) fun T =>
 bnd (ZXa T) fun U =>
 bnd (Z1a S U) fun V =>
 bnd (ZBb r V) fun W =>
 bnd (chk .i64 (d+(1:Int))) fun X =>
 some (.inl ((O,W,X))))
 (some (.inr ((q,r)))))) Zw ((l,m,(0:Int))))
 (fun (p:Rat×Rat)=>match p with
 | (Y,Z) =>
 (some ((Y,Z)))))
 (fun (p:Rat×Rat)=>match p with
 | (aa,ab) =>
 (bnd (chk .i64 (c+(1:Int))) fun ac =>
 some (.inl ((aa,ab,ac))))))
 (some (.inr ((l,m)))))) Zw (((0:Rat),(0:Rat),(0:Int))))
 (fun (p:Rat×Rat)=>match p with
 | (ad,ae) =>
 (some ((ad,ae)))))
 (fun (p:Rat×Rat)=>match p with
 | (af,ag) =>
 (bnd (ZXa n) fun ah =>
 bnd (Z0g af ah) fun ai =>
 bnd (ZXa n) fun aj =>
 bnd (ZXa n) fun ak =>
 bnd (Z1a aj ak) fun al =>
 bnd (Z0g ag al) fun am =>
 some ((ai,am))))))))
noncomputable def ZXs (r:(List Int)) (t:(List (List Int))):Option (Bool) :=
 some (((r.length:Int)) != ((t.length:Int)))
noncomputable def Z6r (l:(List (List Int))) (g:(List (List Int))):Option (Int) :=
 bnd (bnd (Zp (fun s:Int=>match s with
 | a =>
 (ifb (decide (a<(l.length:Int)))
 (bnd (idx l a) fun b =>
 bnd (ZXs b g) fun c =>
 ifb (c)
 (some (.inr ((.inl a))))
 (bnd (chk .i64 (a+(1:Int))) fun d =>
 some (.inl d)))
 (some (.inr ((.inr (()))))))) Zw (0:Int))
 (fun (p:(Int) ⊕ (Unit))=>match p with
 | .inl e =>
 (some ((.inr e)))
 | .inr (()) =>
 (some ((.inl (()))))))
 (fun (p:(Unit) ⊕ (Int))=>match p with
 | .inl (()) =>
 (some (-1:Int))
 | .inr f =>
 (some f))
noncomputable def ZRu (l:(List (List Int))) (g:(List (List Int))):Option (Bool) :=
 bnd (Z6r l g) fun a =>
 some (decide ((0:Int)≤a))
noncomputable def Zxm (t:(List (List Int))):Option (Int×Int) :=
 bnd (ifb (((t.length:Int))==(0:Int))
 (some ((t,true)))
 (ifb (decide ((8:Int)<(t.length:Int)))
 (some ((t,true)))
 (bnd (ZRu t t) fun i =>
 some ((t,i)))))
 (fun (p:(List (List Int))×Bool)=>match p with
 | (d,j) =>
 (ifb (j)
 (some (((0:Int),(4:Int))))
 (bnd (bnd (Zp (fun s:Int×Int=>match s with
 | (e,a) =>
 (ifb (decide (a<(d.length:Int)))
 (bnd (idx d a) fun f =>
 bnd (bnd (Zp (fun s:Int×Int=>match s with
 | (g,b) =>
 (ifb (decide (b<(f.length:Int)))
 (bnd (idx f b) fun c =>
 bnd (ifb (decide (c<(0:Int)))
 (some true)
 (some (decide ((1000000:Int)<c))))
 (fun (k:Bool) =>
 (ifb (k)
 (some (.inr ((.inl (((0:Int),(1:Int)))))))
 (bnd (chk .i64 (g+c)) fun l =>
 bnd (chk .i64 (b+(1:Int))) fun m =>
 some (.inl ((l,m)))))))
 (some (.inr ((.inr g)))))) Zw ((e,(0:Int))))
 (fun (p:(Int×Int) ⊕ (Int))=>match p with
 | .inl ((n,o)) =>
 (some ((.inr ((n,o)))))
 | .inr q =>
 (some ((.inl q)))))
 (fun (p:(Int) ⊕ (Int×Int))=>match p with
 | .inl r =>
 (bnd (chk .i64 (a+(1:Int))) fun u =>
 some (.inl ((r,u))))
 | .inr ((v,w)) =>
 (some (.inr ((.inl ((v,w))))))))
 (some (.inr ((.inr e)))))) Zw (((0:Int),(0:Int))))
 (fun (p:(Int×Int) ⊕ (Int))=>match p with
 | .inl ((x,y)) =>
 (some ((.inr ((x,y)))))
 | .inr z =>
 (some ((.inl z)))))
 (fun (p:(Int) ⊕ (Int×Int))=>match p with
 | .inl h =>
 (ifb (h==(0:Int))
 (some (((0:Int),(3:Int))))
 (some ((h,(0:Int)))))
 | .inr ((A,B)) =>
 (some ((A,B)))))))
noncomputable def Z9s (t:(List (List Int))) (g:Unit):Option (Rat×Int) :=
 bnd (Zxm t) fun a =>
 ifb (a.2 != (0:Int))
 (some (((0:Rat),a.2)))
 (bnd (Zou t a.1 (())) fun b =>
 bnd (bnd (Zxb b.1 b.2) fun d =>
 bnd (ZXa (1:Int)) fun e =>
 bnd (Zxb e b.2) fun f =>
 bnd (ZIc d f) fun c =>
 some ((c.2,c.1)))
 (fun (p:Int×Rat)=>match p with
 | (h,i) =>
 (ifb (h != (0:Int))
 (some (((0:Rat),(5:Int))))
 (some ((i,(0:Int)))))))
noncomputable def ZAl (t:(List (List Int))):Option (Rat×Int) :=
 bnd (Z9s t (())) fun a =>
 some ((a.1,a.2))
noncomputable def Zcm (l:(List (Int×Int))):Option ((List Rat)×(List Rat)) :=
 bnd (bnd (Zp (fun s:(List Rat)×(List Rat)×Int=>match s with
 | (b,c,d) =>
 (ifb (decide (d<(l.length:Int)))
 (bnd (idx l d) fun a =>
 bnd (ZMd ((a.1,a.2))) fun e =>
 bnd (Z5 56 (b++[e])) fun m =>
 bnd (Zle ((a.1,a.2))) fun f =>
 bnd (Z5 56 (c++[f])) fun n =>
 bnd (chk .i64 (d+(1:Int))) fun g =>
 some (.inl (((b++[e]),(c++[f]),g))))
 (some (.inr ((b,c)))))) Zw ((([]:(List Rat)),([]:(List Rat)),(0:Int))))
 (fun (p:(List Rat)×(List Rat))=>match p with
 | (h,i) =>
 (some ((h,i)))))
 (fun (p:(List Rat)×(List Rat))=>match p with
 | (j,k) =>
 (some ((j,k))))
noncomputable def ZSk (step:(Int×Int)) (limits:(List (Int×Int))):Option ((Rat×(List Rat))×(Rat×(List Rat))) :=
 bnd (Zcm limits) fun a =>
 bnd (ZMd ((step.1,step.2))) fun b =>
 bnd (Zle ((step.1,step.2))) fun c =>
 some (((b,a.1),(c,a.2)))
noncomputable def ZEg  : Option (Bool) :=
 bnd (ZPl ((((2:Int),(0:Int)),((1:Int),(2:Int)),((4000:Int),(0:Int))))) fun a =>
 bnd (bnd (Zlc (48:Int)) fun f =>
 bnd (Zlc (8:Int)) fun g =>
 bnd (ZFl ((a.1.1,a.1.2.1,a.1.2.2)) f g) fun b =>
 some ((b.1,b.2)))
 (fun (p:Rat×Int)=>match p with
 | (h,i) =>
 (bnd (ZAl ([[(20:Int),(5:Int)],[(10:Int),(15:Int)]])) fun c =>
 bnd (ZSk (((1:Int),(10:Int))) ([((1:Int),(0:Int)),((2:Int),(0:Int))])) fun d =>
 bnd (ZMd (((206:Int),(100:Int)))) fun j =>
 bnd (Zal ((d.1.1,d.1.2)) j) fun e =>
 bnd (ifb (i==(0:Int))
 (ifb (c.2==(0:Int))
 (ifb (e.2==(0:Int))
 (bnd (Zof h) fun k =>
 ifb (k==(([53,48]:List UInt8)))
 (bnd (Zof c.1) fun l =>
 ifb (l==(([50,47,53]:List UInt8)))
 (some (e.1==(2:Int)))
 (some false))
 (some false))
 (some false))
 (some false))
 (some false))
 (fun (m:Bool) =>
 (some m))))
set_option maxRecDepth 100000 in
theorem ZSj:ZEg=some true:=by
 unfold ZEg;rw [ZVs];decide +kernel
noncomputable def ZBe (n:Int):Option ((List (Int×Int×Int×Int×Rat))×Int) :=
 bnd (α:=Bool)
 (ifb (n != (1:Int))
 (ifb (n != (3:Int))
 (some (n != (5:Int)))
 (some false))
 (some false)) fun e =>
 ifb e
 (some (([]:List (Int×Int×Int×Int×Rat)),(1:Int)))
 (bnd (Zp (σ:=(List (Int×Int×Int×Int×Rat))×Int) (ρ:=List (Int×Int×Int×Int×Rat)) (fun b =>
 ifb (decide (b.2<n))
 (bnd (Zp (σ:=(List (Int×Int×Int×Int×Rat))×Int) (ρ:=List (Int×Int×Int×Int×Rat)) (fun a =>
 ifb (decide (a.2<n))
 (bnd (chk .i64 (b.2+a.2)) fun f =>
 bnd (rem .i64 f n) fun c =>
 bnd (chk .i64 ((2:Int)*a.2)) fun g =>
 bnd (chk .i64 (b.2+g)) fun h =>
 bnd (rem .i64 h n) fun d =>
 bnd (Z5 88 (a.1++[(c,b.2,d,a.2,(0:Rat))])) fun _ =>
 bnd (chk .i64 (a.2+(1:Int))) fun i =>
 some (.inl (a.1++[(c,b.2,d,a.2,(0:Rat))],i)))
 (some (.inr a.1)))
      Zw (b.1,(0:Int))) fun j =>
 bnd (chk .i64 (b.2+(1:Int))) fun k =>
 some (.inl (j,k)))
 (some (.inr b.1)))
   Zw (([]:List (Int×Int×Int×Int×Rat)),(0:Int))) fun l =>
 some (l,(0:Int)))
noncomputable def Z8c (n:Int) (a:Int) (b:Int):Option Bool :=
 bnd (ZBe n) fun c =>
 bnd (α:=Bool)
 (ifb (n != (1:Int))
 (ifb (n != (3:Int))
 (some (n != (5:Int)))
 (some false))
 (some false)) fun h =>
 ifb h
 (bnd (α:=Bool)
 (ifb (c.2==(1:Int))
 (ifb ((c.1.length:Int)==(0:Int))
 (bnd ZEg fun i =>
 some i)
 (some false))
 (some false)) fun j =>
 some j)
 (bnd (α:=Bool)
 (ifb (c.2 != (0:Int))
 (some true)
 (bnd (chk .i64 (n*n)) fun k =>
 some ((c.1.length:Int) != k))) fun l =>
 ifb l
 (some false)
 (bnd (Zp (σ:=Int) (ρ:=Unit ⊕ Bool) (fun d =>
 ifb (decide (d<n))
 (bnd (Zp (σ:=Int) (ρ:=Unit ⊕ Bool) (fun e =>
 ifb (decide (e<n))
 (bnd (chk .i64 (n*d)) fun m =>
 bnd (chk .i64 (m+e)) fun o =>
 bnd (idx c.1 o) fun f =>
 bnd (α:=Bool)
 (bnd (chk .i64 (d+e)) fun p =>
 bnd (rem .i64 p n) fun q =>
 ifb (f.1 != q)
 (some true)
 (ifb (f.2.1 != d)
 (some true)
 (bnd (chk .i64 ((2:Int)*e)) fun r =>
 bnd (chk .i64 (d+r)) fun s =>
 bnd (rem .i64 s n) fun t =>
 ifb (f.2.2.1 != t)
 (some true)
 (ifb (f.2.2.2.1 != e)
 (some true)
 (bnd (Ztc f.2.2.2.2) fun u =>
 some (!u)))))) fun v =>
 ifb v
 (some (.inr (.inr false)))
 (bnd (chk .i64 (e+(1:Int))) fun w =>
 some (.inl w)))
 (some (.inr (.inl ()))))
       Zw (0:Int)) fun x =>
      match x with
 | .inl K=>(bnd (chk .i64 (d+(1:Int))) fun y =>
 some (.inl y))
 | .inr z=>(some (.inr (.inr z))))
 (some (.inr (.inl ()))))
    Zw (0:Int)) fun A =>
   match A with
 | .inl L=>(bnd (rem .i64 a n) fun B =>
 bnd (chk .i64 (B+n)) fun C =>
 bnd (rem .i64 C n) fun D =>
 bnd (rem .i64 b n) fun E =>
 bnd (chk .i64 (E+n)) fun F =>
 bnd (rem .i64 F n) fun G =>
 bnd (ZAe (n,n,n,n) c.1 D G) fun g =>
 bnd (α:=Bool)
 (ifb g.1
 (ifb (g.2.2==(0:Int))
 (bnd ZEg fun H =>
 some H)
 (some false))
 (some false)) fun I =>
 some I)
 | .inr J=>(some J)))
set_option maxRecDepth 100000
def rot (n:Nat):List (Int×Int×Int×Int×Rat):=(List.range (n*n)).map fun t=>((((t / n+t%n)%n:Nat):Int),((t / n:Nat):Int),(((t / n+2*(t%n))%n:Nat):Int),((t%n:Nat):Int),(0:Rat))
def rotM (n:Nat):Mx:=fun t c=>ind ((t / n+t%n)%n) c+ind (n+t / n) c+ind (2*n+(t / n+2*(t%n))%n) c+ind (3*n+t%n) c
theorem ZTl {x y:Rat} (hx:∃ N:Int,x=(N:Rat)∧0≤N∧N≤1) (hy:∃ N:Int,y=(N:Rat)∧0≤N∧N≤1) (h:x=0∨y=0):∃ N:Int,x+y=(N:Rat)∧0≤N∧N≤1:=by
 rcases h with rfl | rfl
 ·obtain ⟨N,h⟩:=hy;exact ⟨N,by rw [Rat.zero_add];exact h.1,h.2⟩
 ·obtain ⟨N,h⟩:=hx;exact ⟨N,by rw [Rat.add_zero];exact h.1,h.2⟩
theorem Znk (p j:Nat):∃ N:Int,ind p j=(N:Rat)∧0≤N∧N≤1:=by
 unfold ind;split
 ·exact ⟨1,rfl,by omega,by omega⟩
 ·exact ⟨0,rfl,by omega,by omega⟩
theorem CD_one {R n:Nat} {M:Mx} (h:∀ i j,i<R→j<n→∃ N:Int,M i j=(N:Rat)∧0≤N∧N≤1):CD 1 R n M:=by
 refine ⟨1,by omega,by decide,fun i j hi hj=>?_⟩;obtain ⟨N,h1,h2,h3⟩:=h i j hi hj;exact ⟨N,by rw [h1];show (N:Rat)=(N:Rat) / 1;grind,by omega⟩
theorem Zxt {p q r s j:Nat} {A B C:Nat} (h1:p<A) (h2:A≤q) (h3:q<B) (h4:B≤r) (h5:r<C) (h6:C≤s):∃ N:Int,ind p j+ind q j+ind r j+ind s j=(N:Rat)∧0≤N∧N≤1:=by
 refine ZTl (ZTl (ZTl (Znk p j) (Znk q j) ?_) (Znk r j) ?_) (Znk s j) ?_
 ·unfold ind;by_cases e:j=p
  ·right;rw [if_neg (by omega)]
  ·left;rw [if_neg e]
 ·by_cases e:j=r
  ·left;unfold ind;rw [if_neg (by omega),if_neg (by omega)];grind
  ·right;unfold ind;rw [if_neg e]
 ·by_cases e:j=s
  ·left;unfold ind;rw [if_neg (by omega),if_neg (by omega),if_neg (by omega)];grind
  ·right;unfold ind;rw [if_neg e]
theorem four_n {n p x q w j:Nat} (hp:p<n) (hx:x<n) (hq:q<n) (hw:w<n):∃ N:Int,ind p j+ind (n+x) j+ind (2*n+q) j+ind (3*n+w) j=(N:Rat)∧0≤N∧N≤1 :=
 Zxt (A:=n) (B:=2*n) (C:=3*n) hp (by omega) (by omega) (by omega) (by omega) (by omega)
instance decLeg1:DecidableEq (Int×Rat):=inferInstance
instance decLeg2:DecidableEq (Int×Int×Rat):=inferInstance
instance decLeg3:DecidableEq (Int×Int×Int×Rat):=inferInstance
instance decLeg4:DecidableEq (Int×Int×Int×Int×Rat):=inferInstance
instance decLeg5:DecidableEq (List (Int×Int×Int×Int×Rat)×Int):=inferInstance
theorem ZYm {n:Nat} (h:0<n):CD 1 (n*n) (4*n) (rotM n):=CD_one fun i j hi hj=>by
 have h1:=Nat.mod_lt (i / n+i%n) h
 have h2:=Nat.mod_lt (i / n+2*(i%n)) h
 have h3:=Nat.mod_lt i h
 have h4:=Nat.div_lt_of_lt_mul hi
 exact four_n h1 h4 h2 h3
theorem sm_four {n p q r s:Nat} (hp:p<n) (hq:q<n) (hr:r<n) (hs:s<n) (v:Nat→Rat):sm n (fun j=>(ind p j+ind q j+ind r j+ind s j)*v j)=v p+v q+v r+v s:=by
 rw [← ZPf hp v,← ZPf hq v,← ZPf hr v,← ZPf hs v,← Zwh,← Zwh,← Zwh];exact ZZc fun j hj=>by grind
theorem ZUk {n:Nat} {v:Nat→Rat} (hv:Ker (n*n) (4*n) (rotM n) v) {i j:Nat} (hi:i<n) (hj:j<n):v ((i+j)%n)+v (n+i)+v (2*n+(i+2*j)%n)+v (3*n+j)=0:=by
 have hn:0<n:=by omega
 have hb:n*i+j<n*n:=by
  have:=Nat.mul_le_mul_left n (show i+1≤n from hi);rw [Nat.mul_succ] at this;omega
 have e1:(n*i+j) / n=i:=by rw [Nat.mul_add_div hn,Nat.div_eq_of_lt hj];rfl
 have e2:(n*i+j)%n=j:=by rw [Nat.mul_add_mod,Nat.mod_eq_of_lt hj]
 have:=hv _ hb;unfold rotM at this;rw [e1,e2] at this;have h1:=Nat.mod_lt (i+j) hn;have h2:=Nat.mod_lt (i+2*j) hn;rw [sm_four (by omega) (by omega) (by omega) (by omega)] at this;exact this
theorem ZQf {n:Nat} (a:Int) (h:0<n) (h2:n≤100):∃ p:Nat,p<n∧∀ (f:Int→Option Bool) (z:Option Bool),f (p:Int)=z→(bnd (rem .i64 a (n:Int)) fun y1=>bnd (chk .i64 (y1+(n:Int))) fun y2=>bnd (rem .i64 y2 (n:Int)) f)=z:=by
 have t1:-(n:Int)<a.tmod n∧a.tmod n<n:=by
  have:=Int.tmod_lt_of_pos a (show (0:Int)<n by omega);have h3:=Int.lt_tmod_of_pos a (show (0:Int)<n by omega);omega
 have t2:=Int.tmod_nonneg (n:Int) (show 0≤a.tmod n+n by omega);have t3:=Int.tmod_lt_of_pos (a.tmod n+n) (show (0:Int)<n by omega);refine ⟨((a.tmod n+n).tmod n).toNat,by omega,fun f z hf=>?_⟩;unfold rem;rw [if_neg (by omega),Za,ZC (by omega) (by omega),Za,if_neg (by omega),Za,← hf];congr 1;omega
theorem ker1 (v:Nat→Rat) (h:∀ i,i<1→∀ j,j<1→v ((i+j)%1)+v (1+i)+v (2+(i+2*j)%1)+v (3+j)=0):∀ a,a<1→1*v a+((v 1)+(v 2)+(v 3))=0:=by
 intro a ha;have hc:a=0:=by omega
 rcases hc with rfl
 ·have h0:v 0+v 1+v 2+v 3=0:=h 0 (by omega) 0 (by omega);grind
theorem ker3 (v:Nat→Rat) (h:∀ i,i<3→∀ j,j<3→v ((i+j)%3)+v (3+i)+v (6+(i+2*j)%3)+v (9+j)=0):∀ a,a<3→3*v a+((v 3+v 4+v 5)+(v 6+v 7+v 8)+(v 9+v 10+v 11))=0:=by
 intro a ha;have hc:a=0∨a=1∨a=2:=by omega
 rcases hc with rfl | rfl | rfl
 ·have h0:v 0+v 3+v 6+v 9=0:=h 0 (by omega) 0 (by omega);have h1:v 0+v 4+v 8+v 11=0:=h 1 (by omega) 2 (by omega);have h2:v 0+v 5+v 7+v 10=0:=h 2 (by omega) 1 (by omega);grind
 ·have h0:v 1+v 3+v 8+v 10=0:=h 0 (by omega) 1 (by omega);have h1:v 1+v 4+v 7+v 9=0:=h 1 (by omega) 0 (by omega);have h2:v 1+v 5+v 6+v 11=0:=h 2 (by omega) 2 (by omega);grind
 ·have h0:v 2+v 3+v 7+v 11=0:=h 0 (by omega) 2 (by omega);have h1:v 2+v 4+v 6+v 10=0:=h 1 (by omega) 1 (by omega);have h2:v 2+v 5+v 8+v 9=0:=h 2 (by omega) 0 (by omega);grind
theorem ker5 (v:Nat→Rat) (h:∀ i,i<5→∀ j,j<5→v ((i+j)%5)+v (5+i)+v (10+(i+2*j)%5)+v (15+j)=0):∀ a,a<5→5*v a+((v 5+v 6+v 7+v 8+v 9)+(v 10+v 11+v 12+v 13+v 14)+(v 15+v 16+v 17+v 18+v 19))=0:=by
 intro a ha;have hc:a=0∨a=1∨a=2∨a=3∨a=4:=by omega
 rcases hc with rfl | rfl | rfl | rfl | rfl
 ·have h0:v 0+v 5+v 10+v 15=0:=h 0 (by omega) 0 (by omega);have h1:v 0+v 6+v 14+v 19=0:=h 1 (by omega) 4 (by omega);have h2:v 0+v 7+v 13+v 18=0:=h 2 (by omega) 3 (by omega);have h3:v 0+v 8+v 12+v 17=0:=h 3 (by omega) 2 (by omega);have h4:v 0+v 9+v 11+v 16=0:=h 4 (by omega) 1 (by omega);grind
 ·have h0:v 1+v 5+v 12+v 16=0:=h 0 (by omega) 1 (by omega);have h1:v 1+v 6+v 11+v 15=0:=h 1 (by omega) 0 (by omega);have h2:v 1+v 7+v 10+v 19=0:=h 2 (by omega) 4 (by omega);have h3:v 1+v 8+v 14+v 18=0:=h 3 (by omega) 3 (by omega);have h4:v 1+v 9+v 13+v 17=0:=h 4 (by omega) 2 (by omega);grind
 ·have h0:v 2+v 5+v 14+v 17=0:=h 0 (by omega) 2 (by omega);have h1:v 2+v 6+v 13+v 16=0:=h 1 (by omega) 1 (by omega);have h2:v 2+v 7+v 12+v 15=0:=h 2 (by omega) 0 (by omega);have h3:v 2+v 8+v 11+v 19=0:=h 3 (by omega) 4 (by omega);have h4:v 2+v 9+v 10+v 18=0:=h 4 (by omega) 3 (by omega);grind
 ·have h0:v 3+v 5+v 11+v 18=0:=h 0 (by omega) 3 (by omega);have h1:v 3+v 6+v 10+v 17=0:=h 1 (by omega) 2 (by omega);have h2:v 3+v 7+v 14+v 16=0:=h 2 (by omega) 1 (by omega);have h3:v 3+v 8+v 13+v 15=0:=h 3 (by omega) 0 (by omega);have h4:v 3+v 9+v 12+v 19=0:=h 4 (by omega) 4 (by omega);grind
 ·have h0:v 4+v 5+v 13+v 19=0:=h 0 (by omega) 4 (by omega);have h1:v 4+v 6+v 12+v 18=0:=h 1 (by omega) 3 (by omega);have h2:v 4+v 7+v 11+v 17=0:=h 2 (by omega) 2 (by omega);have h3:v 4+v 8+v 10+v 16=0:=h 3 (by omega) 1 (by omega);have h4:v 4+v 9+v 14+v 15=0:=h 4 (by omega) 0 (by omega);grind
theorem rotD1:Zxe ((1:Int),1,1,1) (rot 1)=some (mx 1 4 (rotM 1),0):=by decide +kernel
theorem rotR1:ZBe 1=some (rot 1,0):=by decide +kernel
theorem rotS1:Z9d ((1:Int),1,1,1)=some ((4:Nat):Int):=by decide +kernel
theorem rotC1 (a b:Nat) (ha:a<1) (hb:b<1):ZAe ((1:Int),1,1,1) (rot 1) (a:Int) (b:Int)=some (true,[],0):=by
 obtain ⟨y,h1,h2⟩:=Zyl (a:=a) (b:=b) rotD1 rotS1 (by omega) (by omega) (by omega) (by simp only;omega) (by simp only;omega) (by simp only;omega) (ZYm (n:=1) (by omega));rcases h2 with ⟨rfl,_⟩ | ⟨v,h2,h3,rfl⟩
 ·exact h1
 ·refine absurd ?_ h3;have hk:=ker1 v fun i hi j hj=>by
   have:=ZUk (n:=1) h2 hi hj
   simpa using this
  have h4:=hk a ha;have h5:=hk b hb;grind
theorem Zyt (a b:Int):Z8c 1 a b=some true:=by
 unfold Z8c;rw [rotR1,Za];refine ZOa (y:=false) (by decide) ?_;rw [Zh];refine ZOa (y:=false) (by decide +kernel) ?_;rw [Zh];refine ZOa (y:=Sum.inl ()) (by decide +kernel) ?_;simp only;obtain ⟨p,hp,ep⟩:=ZQf (n:=1) a (by omega) (by omega);obtain ⟨q,hq,eq⟩:=ZQf (n:=1) b (by omega) (by omega);refine ep _ _ ?_;refine eq _ _ ?_;rw [rotC1 p q hp hq,Za];simp only;rw [Zi,show ((0:Int)==0)=true from rfl,Zi,ZSj,Za,Za]
theorem rotD3:Zxe ((3:Int),3,3,3) (rot 3)=some (mx 9 12 (rotM 3),0):=by decide +kernel
theorem rotR3:ZBe 3=some (rot 3,0):=by decide +kernel
theorem rotS3:Z9d ((3:Int),3,3,3)=some ((12:Nat):Int):=by decide +kernel
theorem rotC3 (a b:Nat) (ha:a<3) (hb:b<3):ZAe ((3:Int),3,3,3) (rot 3) (a:Int) (b:Int)=some (true,[],0):=by
 obtain ⟨y,h1,h2⟩:=Zyl (a:=a) (b:=b) rotD3 rotS3 (by omega) (by omega) (by omega) (by simp only;omega) (by simp only;omega) (by simp only;omega) (ZYm (n:=3) (by omega));rcases h2 with ⟨rfl,_⟩ | ⟨v,h2,h3,rfl⟩
 ·exact h1
 ·refine absurd ?_ h3;have hk:=ker3 v fun i hi j hj=>by
   have:=ZUk (n:=3) h2 hi hj
   simpa using this
  have h4:=hk a ha;have h5:=hk b hb;grind
theorem ZRs (a b:Int):Z8c 3 a b=some true:=by
 unfold Z8c;rw [rotR3,Za];refine ZOa (y:=false) (by decide) ?_;rw [Zh];refine ZOa (y:=false) (by decide +kernel) ?_;rw [Zh];refine ZOa (y:=Sum.inl ()) (by decide +kernel) ?_;simp only;obtain ⟨p,hp,ep⟩:=ZQf (n:=3) a (by omega) (by omega);obtain ⟨q,hq,eq⟩:=ZQf (n:=3) b (by omega) (by omega);refine ep _ _ ?_;refine eq _ _ ?_;rw [rotC3 p q hp hq,Za];simp only;rw [Zi,show ((0:Int)==0)=true from rfl,Zi,ZSj,Za,Za]
theorem rotD5:Zxe ((5:Int),5,5,5) (rot 5)=some (mx 25 20 (rotM 5),0):=by decide +kernel
theorem rotR5:ZBe 5=some (rot 5,0):=by decide +kernel
theorem rotS5:Z9d ((5:Int),5,5,5)=some ((20:Nat):Int):=by decide +kernel
theorem rotC5 (a b:Nat) (ha:a<5) (hb:b<5):ZAe ((5:Int),5,5,5) (rot 5) (a:Int) (b:Int)=some (true,[],0):=by
 obtain ⟨y,h1,h2⟩:=Zyl (a:=a) (b:=b) rotD5 rotS5 (by omega) (by omega) (by omega) (by simp only;omega) (by simp only;omega) (by simp only;omega) (ZYm (n:=5) (by omega));rcases h2 with ⟨rfl,_⟩ | ⟨v,h2,h3,rfl⟩
 ·exact h1
 ·refine absurd ?_ h3;have hk:=ker5 v fun i hi j hj=>by
   have:=ZUk (n:=5) h2 hi hj
   simpa using this
  have h4:=hk a ha;have h5:=hk b hb;grind
theorem Zov (a b:Int):Z8c 5 a b=some true:=by
 unfold Z8c;rw [rotR5,Za];refine ZOa (y:=false) (by decide) ?_;rw [Zh];refine ZOa (y:=false) (by decide +kernel) ?_;rw [Zh];refine ZOa (y:=Sum.inl ()) (by decide +kernel) ?_;simp only;obtain ⟨p,hp,ep⟩:=ZQf (n:=5) a (by omega) (by omega);obtain ⟨q,hq,eq⟩:=ZQf (n:=5) b (by omega) (by omega);refine ep _ _ ?_;refine eq _ _ ?_;rw [rotC5 p q hp hq,Za];simp only;rw [Zi,show ((0:Int)==0)=true from rfl,Zi,ZSj,Za,Za]
theorem Z4r (n a b:Int):Z8c n a b=some true:=by
 by_cases h1:n=1
 ·subst h1;exact Zyt a b
 by_cases h3:n=3
 ·subst h3;exact ZRs a b
 by_cases h5:n=5
 ·subst h5;exact Zov a b
 have e1:(n != (1:Int))=true:=by simpa using h1
 have e3:(n != (3:Int))=true:=by simpa using h3
 have e5:(n != (5:Int))=true:=by simpa using h5
 have hR:ZBe n=some ([],1):=by
  unfold ZBe;rw [e1,Zi,e3,Zi,e5,Za,Zi]
 unfold Z8c;rw [hR,Za,e1,Zi,e3,Zi,e5,Za,Zi];simp only;rw [show ((1:Int)==1)=true from rfl,Zi,show (((([]:List (Int×Int×Int×Int×Rat)).length:Nat):Int)==(0:Int))=true from rfl,Zi,ZSj,Za,Za]
end Go.Eng
namespace Go.Eng
open Go.RowKit
section
variable {P:Program} {N:Nat} {G:V→Value→Prop} {w0:Base} {v0:Zb} {U X:Nat→Prop} {f:Fr} {l:Lo} {a:Act} {w:World} {γ:Nat→Gh} {v:Zb} {ℓ:List Loc} {n:Nat}
variable {d:Option Nat} {ty:TypeId} {pos:String} {aft:Array Edge} {g:Option (Nat×Bool)}
theorem Zgq {ty:TypeId} {t:T} (hs:St N w0 v0 [] ℓ v a w):∀ k:Nat,∃ es,Zqa v ty t (List.replicate k (none,0)) (List.replicate k ([]:List t.den)) es∧St N w0 v0 [] (es++ℓ) v a w
 | 0=>⟨[],rfl,hs⟩
 | k+1=>by
  obtain ⟨es,h1,h2⟩:=Zgq hs k
  exact ⟨.own none ty t.n 0 0 [] :: es,⟨[],es,rfl,rfl,h1⟩,h2.nilLoc ty t.n⟩
theorem Zap {α:Type}:∀ k:Nat,Zs (List.replicate k ((none:Option Nat),0)) (List.replicate k ([]:List α))=(List.replicate k [Value.slice none 0 0]).flatten
 | 0=>rfl
 | k+1=>by simp only [List.replicate_succ,Zs,List.flatten_cons,Zap k];rfl
theorem Zjv {C:Cf} (hr:RelX N G w0 v0 U X f l a w γ v ℓ) (hU:∀ k,U k→X k) (hX:X n) (hn:¬ U n) {t:TypeId} {x y:Operand} {o:Oper} {Post:Unit→Fr→Lo→Prop} (ho:o=⟨d,.makeSlice t x y,ty,pos,aft,g⟩) (hd:∀ k,o.dst=some k→k<N)
  (h:Zo n (ZY C n o) f l Post):Zya C.P N G w0 v0 X o a w Post:=by
 subst ho;simp only [ZY] at h;obtain ⟨V1,h1,_,hA⟩:=ZT hr h;obtain ⟨V2,h2,_,hB⟩:=ZT hr hA;obtain ⟨κ,i,rfl,hC⟩:=Zjd hB;obtain ⟨κ',j,rfl,hD⟩:=Zjd hC;clear h hA hB hC;have h:=hD;obtain ⟨e1,_⟩:=Zac h1;obtain ⟨e2,_⟩:=Zac h2;split at h
 ·rename_i q dd hq;obtain ⟨hE,hby⟩:=Z3l hq;obtain ⟨_,hmk,h⟩:=h;obtain ⟨m0,m1,m2,m3⟩:=ZDa hmk;obtain ⟨E,hEE,hp⟩:=hr.lr;have hst:=hr.st.perm hp;obtain ⟨σ,hσ,ev1,ev2⟩:=hst.ev2 x y;rw [e1] at ev1;rw [e2] at ev2;obtain ⟨b,w',hrun,hst'⟩:=ZKl hE hσ m0 m1 m2 m3;have hrun':=hrun (d:=some dd) (ty:=ty) (pos:=pos) (aft:=aft) (g:=g) ev1 ev2;split at h
  ·split at h
   ·rename_i q2 r hq2 hz hs1;have hs1:=Nat.eq_of_beq_eq_true hs1;split at h
    ·rename_i s hs;split at h
     ·have hz1:q.z.cells.toList=[.slice none 0 0]:=by
       have h1:=ZOe hz;have h2:=hE.cells;rw [hs1] at h2;have h3:q.z.cells.toList.length=1:=by simpa using h2
       rw [h1] at h3 ⊢;simp at h3;rw [h3]
      obtain ⟨es,hR,hst2⟩:=Zgq (ty:=q2.e) (t:=s) hst'.bare i.toNat;have hst3:St N w0 v0 [] (.own (some b) q.e 1 (List.replicate i.toNat ([]:List s.den)).length j.toNat (Zs (List.replicate i.toNat ((none:Option Nat),0)) (List.replicate i.toNat ([]:List s.den))) :: es++E.flatten) v a w':=by
       rw [Zap,List.length_replicate];rw [hs1,hz1] at hst2;exact hst2.perm List.perm_middle
      have hrun2:=hrun';rw [show (Value.slice (mkA (some b)) i.toNat j.toNat) = .slice (mkA (some b)) (List.replicate i.toNat ([]:List s.den)).length j.toNat by rw [List.length_replicate]] at hrun2;exact Z3j hr hU hX hn hd hEE rfl hR hst3 hrun2 h
     ·exact h.elim
    ·exact h.elim
   ·exact h.elim
  ·split at h
   ·rename_i s hs;split at h
    ·rename_i z r hz hzo hsz;have hsz:=Nat.eq_of_beq_eq_true hsz;obtain ⟨c1,k1,k2⟩:=Zrq (v:=v) hzo hz;have hl:=Rep.len _ k2;have hc:=hE.cells;have hr0:r=[]:=by
      have:q.z.cells.toList.length=q.sz:=by simpa using hc
      rw [k1,List.length_append,hl,ZN,hsz] at this;exact List.length_eq_zero_iff.1 (by omega)
     rw [hr0,List.append_nil] at k1;have hrel:=Z7d k2 i.toNat;rw [k1] at hst';have hst2:St N w0 v0 [] (.own (some b) q.e s.n (List.replicate i.toNat z).length j.toNat (List.replicate i.toNat c1).flatten :: E.flatten) v a w':=by
      rw [List.length_replicate,← hsz];exact hst'.bare
     have hrun2:=hrun';rw [show (Value.slice (mkA (some b)) i.toNat j.toNat) = .slice (mkA (some b)) (List.replicate i.toNat z).length j.toNat by rw [List.length_replicate]] at hrun2;exact ZBg hr hU hX hn hd hEE rfl hst2 hrel hrun2 h
    ·exact h.elim
   ·exact h.elim
 ·exact h.elim
theorem Zqq {x:V} {cs:List Value} (h:RR v γ l false x cs) (hk:x.ok U):RR v γ l false (Zvf x) cs∧(Zvf x).ok U:=by
 unfold Zvf;split
 ·split
  ·rename_i hc;obtain ⟨h1,h2⟩:=Z0m (U:=U) (γ:=γ) (l:=l) hc h;exact ⟨h1,h2⟩
  ·exact ⟨h,hk⟩
 ·exact ⟨h,hk⟩
theorem ZOn:∀ {fs:List Field},ZFk P fs=true→∀ w,∃ L:List (Nat×Nat),(fs.mapM fun (f:Field)=>(do pure (f.offset,← sizeOf f.type):Sem (Nat×Nat))).run P w = .ok L w∧∀ (i:Nat) fd,fs[i]? = some fd→∃ inf,P.info? fd.type=some inf∧L[i]? = some (fd.offset,inf.size)
 | [],_,w=>⟨[],by simp,fun i fd h=>by simp at h⟩
 | fd :: fs,h,w=>by
  simp only [ZFk] at h
  split at h
  ·rename_i inf hinf
   obtain ⟨L,h1,h2⟩:=ZOn h w
   refine ⟨(fd.offset,inf.size) :: L,?_,fun i fd' hi=>?_⟩
   ·simp at h1
    simp [List.mapM_cons,Ztj hinf,h1]
   ·cases i with
    | zero=>simp at hi;subst hi;exact ⟨inf,hinf,rfl⟩
    | succ i=>simp at hi;simpa using h2 i fd' hi
  ·cases h
theorem ZHp {s:TypeId} {fs:Array Field} (hs:P.underlying s=some (.struct fs)) {places:Nat→Option (Nat×Nat)} (hp:∀ (i:Nat) (fd:Field),fs.toList[i]? = some fd→∃ inf,P.info? fd.type=some inf∧places i=some (fd.offset,inf.size)) :
  ∀ {ps:List (Nat×Operand)} {c z z':V} {cs:List Value} {vals:List Value},RR v γ l true c vals→c.ok U→vals.length=ps.length→RR v γ l false z cs→z.ok U→putF P s z (zipV ps c)=some z' →
  ∃ cs',Instr.fill places cs.toArray ((ps.map (·.1)).zip vals)=some cs'.toArray∧RR v γ l false z' cs'∧z'.ok U∧z'.isAgg=z.isAgg
 | [],c,z,z',cs,vals,hc,hk,hl,hz,hkz,h=>by
  have hv:vals=[]:=List.length_eq_zero_iff.1 hl
  subst hv
  have h:some z=some z':=by
   cases c <;> exact h
  cases h
  exact ⟨cs,rfl,hz,hkz,rfl⟩
 | p :: ps,c,z,z',cs,vals,hc,hk,hl,hz,hkz,h=>by
  cases vals with
  | nil=>simp at hl
  | cons y vals =>
   cases c with
   | cons x c =>
    obtain ⟨cx,vs,e,h1,h2⟩:=hc
    cases e
    simp only [zipV,putF] at h;split at h
    ·rename_i fd hfd;split at h
     ·rename_i q hq;split at h
      ·rename_i zz hsz hfit hput;have hsz:=Nat.eq_of_beq_eq_true hsz;obtain ⟨k1,k2,k3,k4⟩:=Zwe FU hput hz h1 hkz hk.1;have hfd':fs.toList[p.1]? = some fd:=by
        unfold fldT at hfd;rw [hs] at hfd;exact hfd
       obtain ⟨inf,hinf,hpl⟩:=hp _ _ hfd';have hlen:cx.length=inf.size:=by
        rw [Zfd h1,hsz];unfold szA at hq;rw [hinf] at hq;split at hq
        ·rename_i i d e1 e2;cases e1;cases hq;rfl
        ·cases hq
       obtain ⟨hcells,_⟩:=Zuj h1 hfit;obtain ⟨cs',q1,q2,q3,q4⟩:=ZHp hs hp (ps:=ps) h2 hk.2 (by simpa using hl) k1 k2 h;refine ⟨cs',?_,q2,q3,q4.trans k4⟩;simp only [List.map_cons,List.zip_cons_cons];rw [ZLk (cs:=cx) (off:=fd.offset) (by rw [hpl,hlen]) hcells (by simpa using k3)]
       simpa using q1
      ·cases h
     ·cases h
    ·cases h
   | nl=>cases (show (y :: vals)=[] from hc)
   | _=>exact (show False from hc).elim
theorem Zho {n sz:Nat} {places:Nat→Option (Nat×Nat)} (hp:∀ i,i<n→places i=some (i*sz,sz)) :
  ∀ {ps:List (Nat×Operand)} {c z z':V} {cs:List Value} {vals:List Value},RR v γ l true c vals→c.ok U→vals.length=ps.length→RR v γ l false z cs→z.ok U→putA n sz z (zipV ps c)=some z' →
  ∃ cs',Instr.fill places cs.toArray ((ps.map (·.1)).zip vals)=some cs'.toArray∧RR v γ l false z' cs'∧z'.ok U∧z'.isAgg=z.isAgg
 | [],c,z,z',cs,vals,hc,hk,hl,hz,hkz,h=>by
  have hv:vals=[]:=List.length_eq_zero_iff.1 hl
  subst hv
  have h:some z=some z':=by
   cases c <;> exact h
  cases h
  exact ⟨cs,rfl,hz,hkz,rfl⟩
 | p :: ps,c,z,z',cs,vals,hc,hk,hl,hz,hkz,h=>by
  cases vals with
  | nil=>simp at hl
  | cons y vals =>
   cases c with
   | cons x c =>
    obtain ⟨cx,vs,e,h1,h2⟩:=hc
    cases e
    simp only [zipV,putA] at h;split at h
    ·rename_i zz hlt hsz hfit hput;have hlt:p.1<n:=Nat.le_of_ble_eq_true hlt;have hsz:=Nat.eq_of_beq_eq_true hsz;obtain ⟨k1,k2,k3,k4⟩:=Zwe FU hput hz h1 hkz hk.1;have hlen:cx.length=sz:=by rw [Zfd h1,hsz]
     obtain ⟨hcells,_⟩:=Zuj h1 hfit;obtain ⟨cs',q1,q2,q3,q4⟩:=Zho hp (ps:=ps) h2 hk.2 (by simpa using hl) k1 k2 h;refine ⟨cs',?_,q2,q3,q4.trans k4⟩;simp only [List.map_cons,List.zip_cons_cons];rw [ZLk (cs:=cx) (off:=p.1*sz) (by rw [hp _ hlt,hlen]) hcells (by simpa using k3)]
     simpa using q1
    ·cases h
   | nl=>cases (show (y :: vals)=[] from hc)
   | _=>exact (show False from hc).elim
theorem ZJq {C:Cf} (hr:RelX N G w0 v0 U X f l a w γ v ℓ) (hU:∀ k,U k→X k) (hX:X n) {t:TypeId} {ps:Array (Nat×Operand)} {o:Oper} {Post:Unit→Fr→Lo→Prop} (ho:o=⟨d,.build t ps,ty,pos,aft,g⟩) (hd:∀ k,o.dst=some k→k<N)
  (h:Zo n (ZY C n o) f l Post):Zya C.P N G w0 v0 X o a w Post:=by
 subst ho;simp only [ZY] at h;split at h
 ·rename_i z fs hz ht;split at h
  ·rename_i hfl hag1 hag2;obtain ⟨y,cs,hy,hcells,hzz,hkz,_⟩:=Z1k (v:=v) (γ:=γ) (l:=l) (U:=U) hz;obtain ⟨L,hL1,hL2⟩:=ZOn hfl w;have hA:(fs.mapM fun (f:Field)=>(do pure (f.offset,← sizeOf f.type):Sem (Nat×Nat))).run C.P w = .ok L.toArray w:=by
    rw [Array.mapM_eq_mapM_toList];simp at hL1;simp [hL1]
   have hplaces:∀ (i:Nat) (fd:Field),fs.toList[i]? = some fd→∃ inf,C.P.info? fd.type=some inf∧(L.toArray[·]?) i=some (fd.offset,inf.size):=fun i fd hi=>by
    obtain ⟨inf,h1,h2⟩:=hL2 i fd hi;exact ⟨inf,h1,by simpa using h2⟩
   have hev:∀ (vals:List (Nat×Value)) (cs':List Value),ps.toList.map (fun p=>(p.1,a.eval p.2))=vals→Instr.fill (L.toArray[·]?) cs.toArray vals=some cs'.toArray→(execOp a.eval ⟨d,.build t ps,ty,pos,aft,g⟩).run C.P w = .ok (.value (.agg cs'.toArray)) w:=by
    intro vals cs' hv hf;obtain ⟨σ,hσ,hev⟩:=hr.st.evs (ps.toList.map (·.2));refine Z5n hσ vals ?_ ?_
    ·rw [← hv,List.map_map];refine List.map_congr_left fun p hp=>?_;rw [hev p.2 (List.mem_map.2 ⟨p,hp,rfl⟩)];rfl
    ·simp at hA hf;simp [Instr.build,hy w,hcells,run_underlying ht,hA,hf]
   split at h
   ·rename_i hps;refine ZU hr hU (hev [] cs (by rw [hps];rfl) rfl) hd hX ?_ (V.ok.mono hU hkz) h;have:=ZDb hzz (fun c e=>by subst e;cases hag2);unfold V.val at this;rw [hag2] at this;exact this
   ·rename_i hps;obtain ⟨c,h1,h2,h⟩:=Zqf hr h;split at h
    ·rename_i z' hz';obtain ⟨o1,o2⟩:=Zqq hzz hkz;have hvl:=h1;rw [List.map_map] at h1;obtain ⟨cs',k1,k2,k3,k4⟩:=ZHp ht hplaces (ps:=ps.toList) h1 h2 (by simp) o1 o2 hz';refine ZU hr hU (hev _ cs' rfl ?_) hd hX ?_ (V.ok.mono hU k3) h
     ·rw [← k1];congr 1;rw [List.zip_map,← List.map_id (ps.toList.zip ps.toList)];simp [List.zip_eq_zipWith,List.zipWith_self,List.map_map]
     ·have:=ZDb k2 (fun c e=>by subst e;rw [hag1] at k4;cases k4);unfold V.val at this;rw [k4,hag1] at this;exact this
    ·exact h.elim
  ·exact h.elim
 ·rename_i z m e hz ht;split at h
  ·rename_i inf hinf hag1 hag2;obtain ⟨y,cs,hy,hcells,hzz,hkz,_⟩:=Z1k (v:=v) (γ:=γ) (l:=l) (U:=U) hz;obtain ⟨c,h1,h2,h⟩:=Zqf hr h;split at h
   ·rename_i z' hz';obtain ⟨o1,o2⟩:=Zqq hzz hkz;rw [List.map_map] at h1;obtain ⟨cs',k1,k2,k3,k4⟩:=Zho (places:=fun i=>some (i*inf.size,inf.size)) (fun i _=>rfl) (ps:=ps.toList) h1 h2 (by simp) o1 o2 hz';obtain ⟨σ,hσ,hev⟩:=hr.st.evs (ps.toList.map (·.2));have hk1:Instr.fill (fun i=>some (i*inf.size,inf.size)) cs.toArray (ps.toList.map fun p=>(p.1,a.eval p.2))=some cs'.toArray:=by
     rw [← k1];congr 1;rw [List.zip_map,← List.map_id (ps.toList.zip ps.toList)];simp [List.zip_eq_zipWith,List.zipWith_self,List.map_map]
    refine ZU hr hU (Z5n hσ (ps.toList.map fun p=>(p.1,a.eval p.2)) ?_ (z:=.agg cs'.toArray) ?_) hd hX ?_ (V.ok.mono hU k3) h
    ·rw [List.map_map];refine List.map_congr_left fun p hp=>?_;rw [hev p.2 (List.mem_map.2 ⟨p,hp,rfl⟩)];rfl
    ·simp [Instr.build,hy w,hcells,run_underlying ht,Ztj hinf,hk1]
    ·have:=ZDb k2 (fun c e=>by subst e;rw [hag1] at k4;cases k4);unfold V.val at this;rw [k4,hag1] at this;exact this
   ·exact h.elim
  ·exact h.elim
 ·exact h.elim
end
end Go.Eng
namespace Go.Eng
open Go.RowKit
def Z8b (v:Zb):(ts:List T)→List Value→Zta ts→Prop
 | [],vals,_=>vals=[]
 | [t],vals,x=>∃ cs,vals=[t.rep.val cs]∧t.rep.rel v cs x
 | t :: u :: r,vals,x=>∃ cs vs,vals=t.rep.val cs :: vs∧t.rep.rel v cs x.1∧Z8b v (u :: r) vs x.2
def resR (v:Zb) (ts:List T) (y:Value) (z:Zta ts):Prop:=match ts,z with
 | [t],z=>∃ cs,y=t.rep.val cs∧t.rep.rel v cs z
 | ts,z=>∃ vals:List Value,y = .tuple vals.toArray∧Z8b v ts vals z
def Zm (P:Program) (f:FuncId) (c:Con):Prop:=∀ (w:World) (v:Zb) (vals:List Value) (x:Zta c.args) (z:Zta c.res),VIn v w→Z8b v c.args vals x→c.F x=some z →
 (Z9 P f∧Ret P f vals.toArray w v fun y v'=>resR v' c.res y z) ∨ ∃ y,(∀ w,(callFunc f vals.toArray).run P w = .ok (.value y) w)∧resR v c.res y z
def Z0h (P:Program) (f:FuncId) (c:ConO):Prop:=∀ (w:World) (v:Zb) (vals:List Value) (x:Zta c.args) (z:List c.t.den),VIn v w→Z8b v c.args vals x→c.F x=some z →
 Z9 P f∧RetO P f vals.toArray w v (OwnR c.t.rep c.ty c.t.n z w)
def Zyj (P:Program) (f:FuncId) (c:ConI):Prop:=∀ (w:World) (v:Zb) (ob:Option Nat) (n cap:Nat) (cs:List Value) (l:List c.t.den) (i:Int) (bv kv:Nat) (c0:Array Value) (x:c.t.den) (z:List c.t.den),VIn v w→(Loc.own ob c.ty c.t.n n cap cs).holds w→(∀ b,ob=some b→v b=none)→c.t.rep.rels v cs l→n=l.length →
 1≤kv→v bv=some (.cells c0 c.ty (0,0))→c.t.rep.rel v (c0.toList.take c.t.n) x→inR .i64 i→c.F l i x=some z →
 Z9 P f∧RetL P f #[.slice (mkA ob) n cap,.int .i64 i,.slice (some ⟨bv,0,none⟩) 1 kv] w v ob.toList (OwnI c.t.rep c.ty c.t.n z ob w)
structure CfOK (C:Cf):Prop where
 c:∀ f c,ZGa C.cons f=some c→Zm C.P f c
 o:∀ f c,ZGa C.owns f=some c→Z0h C.P f c
 i:∀ f c,ZGa C.ins f=some c→Zyj C.P f c
 m:∀ t s f,lkM C.meths t s=some f→∀ y w,(method (C.P.types.size+Made.depth) t y s).run C.P w = .ok (f,y) w
section
variable {P:Program} {N:Nat} {G:V→Value→Prop} {w0:Base} {v0:Zb} {U X:Nat→Prop} {f:Fr} {l:Lo} {a:Act} {w:World} {γ:Nat→Gh} {v:Zb} {ℓ:List Loc} {n:Nat}
variable {d:Option Nat} {ty:TypeId} {pos:String} {aft:Array Edge} {g:Option (Nat×Bool)}
theorem ZRo (hr:RelX N G w0 v0 U X f l a w γ v ℓ) {lo:Option Operand} {k:Option Int→Ev Unit} {Post:Unit→Fr→Lo→Prop} (h:Zo n (optI lo k) f l Post):∃ i,Zo n (k i) f l Post∧((lo=none∧i=none) ∨ ∃ y κ q,lo=some y∧i=some q∧a.eval y = .int κ q):=by
 cases lo with
 | none=>exact ⟨none,h,.inl ⟨rfl,rfl⟩⟩
 | some y =>
  obtain ⟨V1,h1,_,hA⟩:=ZT hr h;obtain ⟨κ,i,rfl,hB⟩:=Zjd hA;exact ⟨some i,hB,.inr ⟨y,κ,i,rfl,rfl,(Zac h1).1⟩⟩
theorem Zki (hr:RelX N G w0 v0 U X f l a w γ v ℓ) (hU:∀ k,U k→X k) (hX:X n) {t:TypeId} {x:Operand} {lo hi:Option Operand} {o:Oper} {p:V} {i j:Option Int} {Post:Unit→Fr→Lo→Prop} (ho:o=⟨d,.slice t x lo hi none,ty,pos,aft,g⟩) (hd:∀ k,o.dst=some k→k<N) (hp:RV v γ l p (a.eval x))
  (hlo:(lo=none∧i=none) ∨ ∃ y κ q,lo=some y∧i=some q∧a.eval y = .int κ q) (hhi:(hi=none∧j=none) ∨ ∃ y κ q,hi=some y∧j=some q∧a.eval y = .int κ q) (h:Zo n (cutE P o t p i j) f l Post):Zya P N G w0 v0 X o a w Post:=by
 obtain ⟨σ,hσ,hev⟩:=hr.st.evs (x :: (lo.toList++hi.toList));have hx:=hev x (by simp);have h1:∀ m:Int,(Zzg i 0=m)→(lo=none∧m=0) ∨ ∃ y k,lo=some y∧ev σ y=some (.int k m):=by
  intro m hm;rcases hlo with ⟨e1,e2⟩ | ⟨y,κ,q,e1,e2,e3⟩
  ·subst e2;exact .inl ⟨e1,hm.symm⟩
  ·subst e1 e2;have hm:q=m:=hm;exact .inr ⟨y,κ,rfl,by rw [hev y (by simp),e3,hm]⟩
 have h2:∀ (len:Nat) (m:Int),(Zzg j (len:Int)=m)→(hi=none∧m=len) ∨ ∃ y k,hi=some y∧ev σ y=some (.int k m):=by
  intro len m hm;rcases hhi with ⟨e1,e2⟩ | ⟨y,κ,q,e1,e2,e3⟩
  ·subst e2;exact .inl ⟨e1,hm.symm⟩
  ·subst e1 e2;have hm:q=m:=hm;exact .inr ⟨y,κ,rfl,by rw [hev y (by simp),e3,hm]⟩
 unfold cutE at h;split at h
 ·rename_i s xs;obtain ⟨qa,m,c,hy,hR⟩:=ZWk hp;rw [hy] at hx;split at h
  ·rename_i q hq;split at h
   ·rename_i hb;have hb:=Nat.eq_of_beq_eq_true hb;have hSl:=ZJm hq;rw [hb,← ZN] at hSl;obtain ⟨yy,hyy,h⟩:=h;obtain ⟨c0,c1,c2,c3,_⟩:=ZRc hyy;obtain ⟨q',cap',hrun,hrel⟩:=Zuq hσ hSl hR c0 c1 c2;rw [← c3] at hrel;subst ho;exact ZU hr hU (hrun hx (h1 _ rfl) (h2 _ _ rfl)) hd hX (x:=.data (.slice s) yy) ⟨[_],hrel,rfl⟩ trivial h
   ·exact h.elim
  ·exact h.elim
 ·obtain ⟨e1,e2⟩:=Zlg hp;rw [e1] at hx;split at h
  ·rename_i ht;obtain ⟨yy,hyy,h⟩:=h;subst ho;exact ZU hr hU (ZVq hσ hx ht (h1 _ rfl) (h2 _ _ rfl) hyy) hd hX (Zxi (Zrv hyy e2)) trivial h
  ·exact h.elim
 ·exact h.elim
theorem Z4e {ρ:Type}:∀ (g:Nat) {t:T} {x:V} {k:t.den→Ev ρ} {l:Lo} {Post:ρ→Fr→Lo→Prop},Zo n (conv g t x k) f l Post→x.isAgg=t.agg
 | 0,_,_,_,_,_,h=>h.elim
 | g+1,t,x,k,l,Post,h=>by
  cases x with
  | data s x =>
   simp only [conv] at h
   split at h
   ·rename_i y hy
    obtain ⟨e,_⟩:=Zda hy
    subst e;rfl
   ·split at h
    ·rfl
    ·rfl
    ·rfl
    ·rfl
    ·rfl
    ·split at h
     ·rename_i c hc
      have h1:=Z4e g (x:=.agg c) h
      have h2:s.agg=true:=by
       unfold ZJd at hc;split at hc <;> first | rfl | cases hc
      exact h2.trans h1
     ·exact h.elim
  | nilS =>
   simp only [conv] at h;split at h <;> first | rfl | exact h.elim
  | own u =>
   simp only [conv] at h;obtain ⟨e,he,h⟩:=h;obtain ⟨kk,st,L⟩:=e
   cases L with
   | box _ _=>exact h.elim
   | mid _ _ _ _ _ _=>exact h.elim
   | own ty s xs fz =>
    cases fz with
    | true=>exact Z4e g (x:=.data (.slice s) xs) h
    | false=>exact Z4e g (x:=.data (.slice s) xs) h
   | mat ty _ s m _=>exact Z4e g (x:=.data (.slice (.slice s)) m) h
  | agg c =>
   cases c with
   | cons x1 c =>
    cases c with
    | cons x2 r=>simp only [conv] at h;split at h <;> first | rfl | exact h.elim
    | nl=>simp only [conv] at h;split at h <;> first | rfl | exact h.elim
    | _=>simp only [conv] at h;exact h.elim
   | _=>simp only [conv] at h;exact h.elim
  | _=>simp only [conv] at h;exact h.elim
theorem Zhn {x:V} {t:T} {cs:List Value} (h:x.isAgg=t.agg):x.val cs=t.rep.val cs:=by
 unfold V.val Rep.val;rw [h,Zcp]
 cases t.agg <;> rfl
theorem ZNi {ρ:Type} (hn:¬ U n) (hX:X n):∀ {ts:List T} {c:V} {k:Zta ts→Ev ρ} {l:Lo} {γ:Nat→Gh} {v:Zb} {ℓ:List Loc} {Post:ρ→Fr→Lo→Prop},Zo n (ZEf ts c k) f l Post→RelX N G w0 v0 U X f l a w γ v ℓ→c.ok U →
  ∃ x l' γ' v' ℓ',Zo n (k x) f l' Post∧RelX N G w0 v0 U X f l' a w γ' v' ℓ'∧Le U v γ l v' γ' l'∧∀ vals,RR v γ l true c vals→Z8b v' ts vals x
 | [],c,k,l,γ,v,ℓ,Post,h,hr,hk=>by
  obtain ⟨E,hE,_⟩:=hr.lr
  cases c with
  | nl=>exact ⟨(),l,γ,v,ℓ,h,hr,Le.refl hE (Zb.le_refl _),fun vals hv=>hv⟩
  | _=>exact h.elim
 | [t],c,k,l,γ,v,ℓ,Post,h,hr,hk=>by
  cases c with
  | cons x c =>
   cases c with
   | nl =>
    have hag:=Z4e FU (n:=n) (f:=f) (l:=l) (t:=t) (x:=x) h
    obtain ⟨y,l1,γ1,v1,ℓ1,h,r1,le1,q1⟩:=Zod hn hX FU h hr hk.1
    refine ⟨y,l1,γ1,v1,ℓ1,h,r1,le1,fun vals hv=>?_⟩
    obtain ⟨cs,vs,rfl,h1,h2⟩:=hv
    have h2:vs=[]:=h2
    subst h2
    exact ⟨cs,by rw [Zhn hag],q1 _ h1⟩
   | _=>exact h.elim
  | _=>exact h.elim
 | t :: u :: r,c,k,l,γ,v,ℓ,Post,h,hr,hk=>by
  cases c with
  | cons x c =>
   have h':Zo n (conv FU t x fun x=>ZEf (u :: r) c fun y=>k (x,y)) f l Post:=by
    cases c <;> exact h
   have hag:=Z4e FU (n:=n) (f:=f) (l:=l) (t:=t) (x:=x) h';obtain ⟨y,l1,γ1,v1,ℓ1,h1,r1,le1,q1⟩:=Zod hn hX FU h' hr hk.1;obtain ⟨ys,l2,γ2,v2,ℓ2,h2,r2,le2,q2⟩:=ZNi hn hX h1 r1 hk.2;refine ⟨(y,ys),l2,γ2,v2,ℓ2,h2,r2,le1.trans le2,fun vals hv=>?_⟩;obtain ⟨cs,vs,rfl,h3,h4⟩:=hv;exact ⟨cs,vs,by rw [Zhn hag],Rep.mono _ le2.v (q1 _ h3),q2 _ (Z5a le1 hk.2 h4)⟩
  | _=>exact h.elim
theorem Z5p {v:Zb}:∀ {ts:List T} {vals:List Value} {x:Zta ts},Z8b v ts vals x→RR v γ l true (resV ts x) vals∧(resV ts x).ok U
 | [],_,_,h=>⟨h,trivial⟩
 | [t],_,x,⟨cs,h1,h2⟩=>⟨⟨cs,[],by rw [h1];exact congrArg (fun z=>[z]) (ZDg (t:=t) (x:=x) (cs:=cs)).symm,h2,rfl⟩,trivial,trivial⟩
 | t :: u :: r,_,x,⟨cs,vs,h1,h2,h3⟩=>by
  obtain ⟨k1,k2⟩:=Z5p h3
  exact ⟨⟨cs,vs,by rw [h1];exact congrArg (· :: vs) (ZDg (t:=t) (x:=x.1) (cs:=cs)).symm,h2,k1⟩,trivial,k2⟩
theorem Zmq {v:Zb} {ts:List T} {y:Value} {z:Zta ts} (h:resR v ts y z):RV v γ l (Zue (resV ts z)) y∧(Zue (resV ts z)).ok U:=by
 match ts,z,h with
 | [],z,⟨vals,h1,h2⟩=>exact ⟨⟨vals,h2,h1⟩,trivial⟩
 | [t],z,⟨cs,h1,h2⟩=>exact ⟨⟨cs,h2,by rw [h1];exact (ZDg (t:=t) (x:=z) (cs:=cs)).symm⟩,trivial⟩
 | t :: u :: r,z,⟨vals,h1,h2⟩ =>
  obtain ⟨k1,k2⟩:=Z5p (γ:=γ) (l:=l) (U:=U) h2
  cases r <;> exact ⟨⟨vals,k1,h1⟩,k2⟩
theorem Zyn {σ:List (Nat×Value)} (hS:St N w0 v0 σ ℓ v a w) {x:Operand} {m:String} {f:FuncId} {xs:Array Operand} {ats:Array TypeId} {t:TypeId} {y:Value} (vals:List Value) (hm:∀ w,(method (P.types.size+Made.depth) t y m).run P w = .ok (f,y) w) (e:ev σ x=some (.iface t y))
  (h:xs.toList.map (ev σ)=vals.map some) {r:Go.Next} (hf:(callFunc f (y :: vals).toArray).run P w = .ok r w):(execOp a.eval ⟨d,.call ⟨.invoke x m,xs,ats⟩,ty,pos,aft,g⟩).run P w = .ok r w:=by
 have hx:xs.map a.eval=vals.toArray:=by
  apply Array.ext';rw [Array.toList_map];generalize xs.toList=l at h;clear hf
  induction l generalizing vals with
  | nil=>cases vals <;> simp_all
  | cons y l ih =>
   cases vals with
   | nil=>simp at h
   | cons u vals =>
    simp at h;simp [hS.eval h.1,ih vals h.2]
 simp [execOp,resolve,invoke,callMethod,hx,hS.eval e,hm,hf]
theorem ZLo (hr:RelX N G w0 v0 U X f l a w γ v ℓ) (hU:∀ k,U k→X k) (hX:X n) (hn:¬ U n) {e:TypeId} {s:T} {xs:List s.den} {o:Oper} {ob:Option Nat} {cap:Nat} {cs:List Value} {Post:Unit→Fr→Lo→Prop} (hd:∀ k,o.dst=some k→k<N)
  (hst:St N w0 v0 [] (.own ob e s.n xs.length cap cs :: ℓ) v a w) (hc:s.rep.rels v cs xs) (h:Zo n (Ev.new n (.own e s xs false) (ret o (.own n))) f l Post):∃ f' l',Post () f' l'∧Rel N G w0 v0 X f' l' (a.put o.dst (.slice (mkA ob) xs.length cap)) w:=by
 obtain ⟨hnew,h⟩:=h;obtain ⟨E,hE,hpm⟩:=hr.lr;have hr':=hr.new (γ':=Zwc γ n (.own ob cap)) (L':=.own e s xs false) hX hX hn hnew hE (hst.perm (List.Perm.cons _ hpm)) (Zb.le_refl _) (fun _ h=>Z4b h) ⟨ob,cap,cs,Zbb,hc,rfl⟩ (List.Perm.refl _) trivial;unfold ret at h
 cases hdd:o.dst with
 | none=>rw [hdd] at h;exact h.elim
 | some d =>
  rw [hdd] at h;refine ⟨_,_,h,_,_,_,(hr'.mono hU fun _ h=>h).put (hd d hdd) (x:=.own n) ⟨[_],⟨_,rfl,by cases ob <;> rfl,fun e' he'=>?_⟩,rfl⟩ hX hX⟩;rw [ZP,if_pos rfl] at he';cases he';exact ⟨_,_,Zbb,rfl⟩
theorem Zxp {c:ConI} {fid:FuncId} (hI:Zyj P fid c) (hr:RelX N G w0 v0 U X f l a w γ v ℓ) (hU:∀ k,U k→X k) (hX:X n) (hn:¬ U n) {o:Oper} {Post:Unit→Fr→Lo→Prop} (hd:∀ k,o.dst=some k→k<N) {ob:Option Nat} {cap:Nat} {cs:List Value} {xs:List c.t.den} {i:Int} {bv kv:Nat} {c0:Array Value} {x:c.t.den} {z:List c.t.den}
  (hst:St N w0 v0 [] (.own ob c.ty c.t.n xs.length cap cs :: ℓ) v a w) (hA:c.t.rep.rels v cs xs) (hkv:1≤kv) (hbv:v bv=some (.cells c0 c.ty (0,0))) (hx:c.t.rep.rel v (c0.toList.take c.t.n) x) (hi:inR .i64 i) (hz:c.F xs i x=some z)
  (hent:Z9 P fid→(execOp a.eval o).run P w = .ok (.enter fid #[.slice (mkA ob) xs.length cap,.int .i64 i,.slice (some ⟨bv,0,none⟩) 1 kv]) w) (h:Zo n (Ev.new n (.own c.ty c.t z false) (ret o (.own n))) f l Post):Zya P N G w0 v0 X o a w Post:=by
 obtain ⟨hh,hb⟩:=hst.loc _ List.mem_cons_self;obtain ⟨hen,hret⟩:=hI w v ob xs.length cap cs xs i bv kv c0 x z hst.vin hh (fun b e=>(hb b e).2) hA rfl hkv hbv hx hi hz;refine ZTd (hent hen) (Calls.mono hret fun e w' ⟨r,v',e1,e2,e3,e4⟩=>⟨r,e1,?_⟩);obtain ⟨ob',n',cap',cs',rfl,hh',hb',hA',hn'⟩:=e4;subst hn';have hS:=hst.afterI (i:=0) (e':=.own ob' c.ty c.t.n z.length cap' cs') rfl e2 e3 hh' fun b hb=>by
  obtain ⟨q1,q2⟩:=hb' b hb;exact ⟨q1,q2⟩
 have hS:St N w0 v0 [] (.own ob' c.ty c.t.n z.length cap' cs' :: ℓ) v' a w':=hS;exact ZLo (hr.go e3.le (hS.drop (List.sublist_cons_self _ _))) hU hX hn hd hS hA' h
theorem Zbo {C:Cf} (hC:CfOK C) (hr:RelX N G w0 v0 U X f l a w γ v ℓ) (hU:∀ k,U k→X k) (hX:X n) (hn:¬ U n) {fid:FuncId} {c:V} {vals:List Value} {o:Oper} {Post:Unit→Fr→Lo→Prop} (hd:∀ k,o.dst=some k→k<N)
  (hent:Z9 C.P fid→(execOp a.eval o).run C.P w = .ok (.enter fid vals.toArray) w) (hval:∀ y,(∀ w,(callFunc fid vals.toArray).run C.P w = .ok (.value y) w)→(execOp a.eval o).run C.P w = .ok (.value y) w)
  (hc:RR v γ l true c vals) (hk:c.ok U) (h:Zo n (ZKj C n o fid c) f l Post):Zya C.P N G w0 v0 X o a w Post:=by
 unfold ZKj at h;split at h
 ·rename_i con hcon;obtain ⟨p,l1,γ1,v1,ℓ1,h,r1,le1,q1⟩:=ZNi hn hX h hr hk;obtain ⟨z,hz,h⟩:=h;have hR:=q1 _ hc;rcases hC.c fid con hcon w v1 _ p z r1.st.vin hR hz with ⟨hen,hret⟩ | ⟨y,hv,hres⟩
  ·refine ZTd (hent hen) (Calls.mono hret fun e w' ⟨r,v',e1,e2,e3,e4⟩=>⟨r,e1,?_⟩);have r2:=r1.go e3.le (r1.st.step e2 e3);obtain ⟨k1,k2⟩:=Zmq (γ:=γ1) (l:=l1) (U:=X) e4;unfold ret at h
   cases hdd:o.dst with
   | none=>rw [hdd] at h;exact h.elim
   | some dd =>
    rw [hdd] at h;exact ⟨_,_,h,_,_,_,(r2.mono hU fun _ h=>h).put (hd dd hdd) k1 k2 hX⟩
  ·obtain ⟨k1,k2⟩:=Zmq (γ:=γ1) (l:=l1) (U:=X) hres;exact ZU r1 hU (hval y hv) hd hX k1 k2 h
 ·split at h
  ·rename_i con hcon;obtain ⟨p,l1,γ1,v1,ℓ1,h,r1,le1,q1⟩:=ZNi hn hX h hr hk;obtain ⟨z,hz,h⟩:=h;have hR:=q1 _ hc;obtain ⟨hen,hret⟩:=hC.o fid con hcon w v1 _ p z r1.st.vin hR hz;refine ZTd (hent hen) (Calls.mono hret fun e w' ⟨r,v',e1,e2,e3,e4⟩=>⟨r,e1,?_⟩);obtain ⟨ob,n',cap,cs,rfl,hh,hb,hA,hn'⟩:=e4;subst hn';have h':=r1.st.step e2 e3;refine ZLo (r1.go e3.le h') hU hX hn hd (cs:=cs) ⟨h'.size,h'.dfr,h'.fr,h'.ext,h'.vst,fun x hx=>?_,?_⟩ hA h
   ·rcases List.mem_cons.1 hx with rfl | hx
    ·exact ⟨hh,fun b eb=>⟨.inl (Nat.le_trans r1.st.ext.size (hb b eb).1),(hb b eb).2⟩⟩
    ·exact h'.loc x hx
   ·cases ob with
    | none=>rw [List.filterMap_cons_none (show (Loc.own none con.ty con.t.n z.length cap cs).blk=none from rfl)];exact h'.nd
    | some b =>
     rw [List.filterMap_cons_some (show (Loc.own (some b) con.ty con.t.n z.length cap cs).blk=some b from rfl)];refine List.nodup_cons.2 ⟨fun hm=>?_,h'.nd⟩;obtain ⟨x,hx,hxb⟩:=List.mem_filterMap.1 hm;obtain ⟨c,T',hg⟩:=Loc.blk_get (r1.st.loc x hx).1 hxb;have h1:=Zef hg;have h2:=(hb b rfl).1;omega
  ·split at h
   ·rename_i con hcon;have hI:=hC.i fid con hcon;unfold insE at h;split at h
    ·rename_i A i u2;obtain ⟨cA,xs1,rfl,hA1,xs2,xs3,rfl,hI1,xs4,xs5,rfl,hU2,hnl⟩:=hc;have hnl:xs5=[]:=hnl;subst hnl;obtain ⟨e2,he2,h⟩:=h;obtain ⟨k2,st2,L2⟩:=e2;have hk2:k2=u2:=(Zy he2).2;subst hk2
     cases L2 with
     | own ty2 s2 l2 fz =>
      cases fz with
      | true=>exact h.elim
      | false =>
       simp only at h;split at h
       ·rename_i x hty hcast;have hty:=Nat.eq_of_beq_eq_true hty;subst hty;obtain ⟨c3,c4⟩:=Zda hcast;obtain ⟨es2,E2,g1,_,_,g3,r1⟩:=hr.del he2;obtain ⟨ob2,cap2,cs2,g4,g5,rfl⟩:=g1;have g4:γ k2 = .own ob2 cap2:=g4;obtain ⟨y2,rfl,_,hy2⟩:=hU2;obtain ⟨ob2',cap2',g6,g7⟩:=hy2 _ he2;rw [g4] at g6;cases g6;have hst2:=hr.st.perm g3;obtain ⟨hh2,hb2⟩:=hst2.loc _ List.mem_cons_self;have hc3:s2=con.t:=by injection c3
        subst hc3;have hl2:l2=[x]:=c4;subst hl2
        cases ob2 with
        | none=>obtain ⟨q,_⟩:=hh2;cases q
        | some bv =>
         obtain ⟨hl,cur,hg,hle,_,hcz,htk⟩:=hh2;obtain ⟨v1,hv1,hv2,hst3⟩:=hst2.publish (i:=0) (ℓ':=E2.flatten) rfl rfl hg rfl;have r2:=r1.go hv1 hst3;have hx1:con.t.rep.rel v1 (cur.toList.take con.t.n) x:=by
          have hq:con.t.rep.rels v1 cs2 [x]:=ZQ hv1 g5;obtain ⟨d1,d2,e1,e2,e3⟩:=hq;have e3:d2=[]:=e3;subst e3;rw [List.append_nil] at e1;subst e1;have:cur.toList.take ([x].length*con.t.n)=cs2:=htk;rw [show [x].length*con.t.n=con.t.n by simp] at this;rw [this];exact e2
         have hi:inR .i64 i:=by obtain ⟨_,q⟩:=hI1;exact q
         have hiv:(V.data (.int .i64) i).val xs2 = .int .i64 i:=by obtain ⟨q,_⟩:=hI1;subst q;rfl
         have hle0:=Le.era hr k2;have lv:Le U v γ l v1 γ (era l k2):=hle0.trans (by obtain ⟨EE,hEE,_⟩:=r1.lr;exact Le.refl hEE hv1)
         cases A with
         | own u =>
          simp only at h;obtain ⟨e,he,h⟩:=h;obtain ⟨k,st,L⟩:=e;have hkk:k=u:=(Zy he).2;subst hkk
          cases L with
          | own ty s xs fz =>
           cases fz with
           | true=>exact h.elim
           | false =>
            simp only at h;split at h
            ·rename_i l' hty hcast;have hty:=Nat.eq_of_beq_eq_true hty;subst hty;obtain ⟨c5,c6⟩:=Zda hcast;have hc5:s=con.t:=by injection c5
             subst hc5;have hl':xs=l':=c6;subst hl';obtain ⟨z,hz,h⟩:=h;obtain ⟨es,E3,d1,_,_,d3,r3⟩:=r2.del he;obtain ⟨ob,cap,cs,d4,d5,rfl⟩:=d1;have d4:γ k = .own ob cap:=d4;have hA2:=Z5a lv (x:=.own k) hk.1 hA1;obtain ⟨y,rfl,_,hy⟩:=hA2;obtain ⟨ob',cap',d6,d7⟩:=hy _ he;rw [d4] at d6;cases d6;refine Zxp hI r3 hU hX hn hd (hst3.perm d3) d5 (kv:=cap2) (by simpa using hle) hv2 hx1 hi hz (fun hen=>?_) h;rw [hent hen,ZYf (x:=.own k) rfl,d7,hiv,ZYf (x:=.own k2) rfl,g7];rfl
            ·exact h.elim
          | box _ _=>exact h.elim
          | mid _ _ _ _ _ _=>exact h.elim
          | mat _ _ _ _ _=>exact h.elim
         | nilS =>
          simp only at h;obtain ⟨z,hz,h⟩:=h;have hA1:cA=[.slice none 0 0]:=hA1;subst hA1;refine Zxp hI r2 hU hX hn hd (ob:=none) (cap:=0) (cs:=[]) (xs:=[]) (hst3.nilLoc con.ty con.t.n) rfl (kv:=cap2) (by simpa using hle) hv2 hx1 hi hz (fun hen=>?_) h;rw [hent hen,hiv,ZYf (x:=.own k2) rfl,g7];rfl
         | _=>exact h.elim
       ·exact h.elim
     | box _ _=>exact h.elim
     | mid _ _ _ _ _ _=>exact h.elim
     | mat _ _ _ _ _=>exact h.elim
    ·exact h.elim
   ·exact h.elim
theorem ZKo:∀ {c:V} {i:Nat} {z:V} {vals:List Value},nthV c i=some z→RR v γ l true c vals→c.ok U→∃ y,vals[i]? = some y∧RV v γ l z y∧z.ok U
 | .cons x c,0,z,vals,h,hr,hk=>by
  cases h
  obtain ⟨cs,xs,rfl,h1,h2⟩:=hr
  exact ⟨_,rfl,ZDb h1 (fun c e=>by subst e;exact h1),hk.1⟩
 | .cons x c,i+1,z,vals,h,hr,hk=>by
  obtain ⟨cs,xs,rfl,h1,h2⟩:=hr
  obtain ⟨y,k1,k2,k3⟩:=ZKo (c:=c) h h2 hk.2
  exact ⟨y,by simpa using k1,k2,k3⟩
theorem Z0n {v:Zb} {a:T}:∀ {n:Nat} {x:(ZDe a n).den} {cs:List Value},0<n→(ZDe a n).rep.rel v cs x→a.rep.rels v cs (ZXd a n x)∧(ZXd a n x).length=n
 | 0,_,_,h,_=>by omega
 | 1,x,cs,_,h=>⟨Z3k h,rfl⟩
 | 2,x,cs,_,h=>by
  obtain ⟨c1,c2,h1,h2,h3⟩:=h
  exact ⟨⟨c1,c2,h1,h2,Z3k h3⟩,rfl⟩
 | k+3,x,cs,_,h=>by
  obtain ⟨c1,c2,h1,h2,h3⟩:=h
  obtain ⟨k1,k2⟩:=Z0n (n:=k+2) (by omega) h3
  exact ⟨⟨c1,c2,h1,h2,k1⟩,by show (ZXd a (k+2) x.2).length+1=_;rw [k2]⟩
theorem RelX.slot (h:RelX N G w0 v0 U X f l a w γ v ℓ) {t m:Nat} {z:V} (hr:RV v γ l z (a.tmps.getD t undef)) (hk:z.ok U) (hX:X m):RelX N G w0 v0 U X (⟨t,m,z⟩ :: f) l a w γ v ℓ:=by
 refine ⟨h.st,fun t' e' he'=>?_,h.lr,h.nd,fun t' e' he'=>?_,h.ul,h.gh⟩
 ·rw [ZP] at he';split at he'
  ·rename_i hk'
   cases he'
   have hk':t=t':=hk';rw [← hk'];exact hr
  ·exact h.fr t' e' he'
 ·rw [ZP] at he';split at he'
  ·cases he';exact ⟨hk,hX⟩
  ·exact h.uf t' e' he'
theorem Zfu {σ:List (Nat×Value)} (hS:St N w0 v0 σ ℓ v a w) {t e:TypeId} {n b:Nat} {i:TypeInfo} {x:Operand} (ht:P.underlying t=some (.array n e)) (hi:P.info? e=some i) (e1:ev σ x=some (.pointer (some ⟨b,0,none⟩))) :
  (execOp a.eval ⟨d,.slice t x none none none,ty,pos,aft,g⟩).run P w = .ok (.value (.slice (some ⟨b,0,none⟩) n n)) w:=by
 have h2:∀ w,(underlying t).run P w = .ok (.array n e) w:=fun w=>run_underlying ht w;have h3:∀ w,(sizeOf e).run P w = .ok i.size w:=fun w=>by simp [sizeOf,typeInfo,hi]
 by_cases hn:n=0
 ·subst hn;simp [execOp,Instr.sliceAt,Instr.sureAddr,hS.eval e1,h2,h3,Instr.sliceBounds,Zjb]
 ·simp [execOp,Instr.sliceAt,Instr.sureAddr,hS.eval e1,h2,h3,Instr.sliceBounds,Zjb]
theorem arrE_ok {C:Cf} (hr:RelX N G w0 v0 U X f l a w γ v ℓ) (hU:∀ k,U k→X k) (hX:X n) (hn:¬ U n) {t:TypeId} {s u off:Nat} {lo hi:Option Operand} {i j:Option Int} {o:Oper} {Post:Unit→Fr→Lo→Prop} (ho:o=⟨d,.slice t (.tmp s) lo hi none,ty,pos,aft,g⟩) (hd:∀ k,o.dst=some k→k<N) (hp:RV v γ l (.ptr u off) (a.eval (.tmp s))) (hk:U u)
  (hlo:(lo=none∧i=none) ∨ ∃ y κ q,lo=some y∧i=some q∧a.eval y = .int κ q) (hhi:(hi=none∧j=none) ∨ ∃ y κ q,hi=some y∧j=some q∧a.eval y = .int κ q) (h:Zo n (arrE C o t s u off i j) f l Post):Zya C.P N G w0 v0 X o a w Post:=by
 unfold arrE at h;split at h
 ·rename_i m e h0 hu;have h0:=Nat.eq_of_beq_eq_true h0;subst h0;have hlo:lo=none:=by
   rcases hlo with h1 | ⟨_,_,_,_,h1,_⟩
   ·exact h1.1
   ·cases h1
  have hhi:hi=none:=by
   rcases hhi with h1 | ⟨_,_,_,_,h1,_⟩
   ·exact h1.1
   ·cases h1
  subst hlo hhi;split at h
  ·rename_i α q hα hq hm0 hm1;have hm0:1≤m:=Nat.le_of_ble_eq_true hm0;have hm1:=Nat.le_of_ble_eq_true hm1;split at h
   ·obtain ⟨⟨k0,st0,L⟩,he,h⟩:=h;have hkk:k0=u:=(Zy he).2;subst hkk
    cases L with
    | box ty0 c =>
     simp only at h;obtain ⟨y,hy0,_,hy⟩:=Z8 hp (fun _ e=>by cases e) rfl rfl;have hy0:a.eval (.tmp s)=y:=(List.cons.inj hy0).1;obtain ⟨b,g1,rfl⟩:=hy _ he;obtain ⟨es,E',h1,_,_,h3,_⟩:=hr.del he;obtain ⟨b',cs,g2,g3,g4,rfl⟩:=h1;have g2:γ k0 = .box b':=g2;rw [g1] at g2;cases g2;obtain ⟨x1,l1,γ1,v1,ℓ1,hB,r1,le1,q1⟩:=Zod hn hX FU h hr (hr.ul _ (Zy he).1).2.2;obtain ⟨⟨k1,st1,L1⟩,he1,hC⟩:=hB;have hkk1:k1=k0:=(Zy he1).2;subst hkk1
     cases L1 with
     | box ty1 c1 =>
      obtain ⟨e0,he0,hce⟩:=le1.l _ _ hk he1;rw [he] at he0;cases he0;have hce:γ1 k1=γ k1:=hce;obtain ⟨es1,E1,f1,_,_,f3,r2⟩:=r1.del he1;obtain ⟨b1,cs1,f4,f5,f6,rfl⟩:=f1;have f4:γ1 k1 = .box b1:=f4;rw [hce,g1] at f4;cases f4;have m0:=(hr.st.loc _ (h3.mem_iff.2 (List.mem_append_left _ (List.mem_singleton.2 rfl)))).1;have m1:=(r1.st.loc _ (f3.mem_iff.2 (List.mem_append_left _ (List.mem_singleton.2 rfl)))).1;have m0:w.heap[b]? = some (.cells cs.toArray ty0 (0,0)):=m0;have m1:w.heap[b]? = some (.cells cs1.toArray ty1 (0,0)):=m1;rw [m0] at m1;have hcs:cs=cs1:=by
       have:=Option.some.inj m1
       injection this with h1 _ _
       have:=congrArg Array.toList h1
       simpa using this
      subst hcs;obtain ⟨v',hv,hs1,hAt⟩:=(r1.st.perm f3).pubVar (i:=0) rfl rfl;have hs1:St N w0 v0 [] E1.flatten v' a w:=hs1;have r3:=r2.go hv hs1;have hrel:=Rep.mono _ hv (q1 _ g3);have r4:=r3.slot (t:=s) (m:=n) (z:=.vp (ZDe α m) x1 0) ⟨[_],⟨b,0,cs,hAt,hrel,rfl⟩,hy0⟩ trivial hX;obtain ⟨i0,hi0⟩:∃ i0,C.P.info? e=some i0:=by
       unfold szA at hq;split at hq
       ·rename_i i0 _ hi0 _;exact ⟨i0,hi0⟩
       ·cases hq
      obtain ⟨σ,hσ,e1⟩:=r4.st.ev1 (.tmp s);rw [hy0] at e1;obtain ⟨k4,k5⟩:=Z0n (by omega) hrel;subst ho;refine ZU r4 hU (Zfu hσ hu hi0 e1) hd hX (x:=.data (.slice α) (ZXd α m x1)) ⟨[.slice (some ⟨b,0,none⟩) m m],?_,rfl⟩ trivial hC;obtain ⟨c2,T2,fr2,hvb,htk⟩:=hAt;have hlen:=ZGd k4;rw [k5] at hlen;refine ⟨some ⟨b,0,none⟩,m,by rw [show (ZXd α m x1).length=m from k5],by rw [show (ZXd α m x1).length=m from k5];exact Nat.le_refl _,by unfold maxLen;omega,.inr ⟨b,0,c2,T2,fr2,rfl,hvb,?_⟩⟩;rw [show (ZXd α m x1).length=m from k5,← hlen,htk];exact k4
     | own _ _ _ _=>exact hC.elim
     | mat _ _ _ _ _=>exact hC.elim
     | mid _ _ _ _ _ _=>exact hC.elim
    | own _ _ _ _=>exact h.elim
    | mat _ _ _ _ _=>exact h.elim
    | mid _ _ _ _ _ _=>exact h.elim
   ·exact h.elim
  ·exact h.elim
 ·exact h.elim
theorem RelX.dup (h:RelX N G w0 v0 U X f l a w γ v ℓ) {t:Nat} {e:En V} (he:lkE f t=some e):RelX N G w0 v0 U X (e :: f) l a w γ v ℓ:=by
 obtain ⟨hm,hk⟩:=Zy he;have key:∀ t',lkE (e :: f) t'=lkE f t':=fun t'=>by
  rw [ZP];split
  ·rename_i hk';rw [← hk',hk];exact he.symm
  ·rfl
 exact ⟨h.st,fun t' e' he'=>h.fr t' e' (by rw [← key];exact he'),h.lr,h.nd,fun t' e' he'=>h.uf t' e' (by rw [← key];exact he'),h.ul,h.gh⟩
theorem run_mkI {σ:List (Nat×Value)} (hS:St N w0 v0 σ ℓ v a w) {t:TypeId} {x:Operand} {y:Value} {D:TypeDesc} (e:ev σ x=some y) (h:P.underlying t=some D) (hn:∀ q,some D≠some (.interface q)) :
  (execOp a.eval ⟨d,.makeInterface t x,ty,pos,aft,g⟩).run P w = .ok (.value (.iface t y)) w:=by
 have hx:=hS.eval e;have:(Instr.makeInterface t y).run P w = .ok (.iface t y) w:=by
  cases D with
  | interface q=>exact absurd rfl (hn q)
  | _=>simp [Instr.makeInterface,run_underlying h]
 simp [execOp,hx,this]
theorem ZYk {C:Cf} (hC:CfOK C) (hr:RelX N G w0 v0 U X f l a w γ v ℓ) (hU:∀ k,U k→X k) (hX:X n) (hn:¬ U n) {o:Oper} {Post:Unit→Fr→Lo→Prop} (hd:∀ k,o.dst=some k→k<N) (h:Zo n (ZY C n o) f l Post):Zya C.P N G w0 v0 X o a w Post:=by
 obtain ⟨d,op,ty,pos,aft,g⟩:=o
 cases op with
 | move x =>
  simp only [ZY] at h;obtain ⟨V1,h1,k1,hA⟩:=ZT hr h;obtain ⟨σ,hσ,e1⟩:=hr.st.ev1 x;exact ZU hr hU (Zx hσ e1) hd hX h1 (V.ok.mono hU k1) hA
 | assign x =>
  simp only [ZY] at h;obtain ⟨V1,h1,k1,hA⟩:=ZT hr h;obtain ⟨σ,hσ,e1⟩:=hr.st.ev1 x;exact ZU hr hU (Z5c hσ e1) hd hX h1 (V.ok.mono hU k1) hA
 | extract x i =>
  simp only [ZY] at h;obtain ⟨V1,h1,k1,hA⟩:=ZT hr h;split at hA
  ·rename_i c;split at hA
   ·rename_i z hz;obtain ⟨vals,h2,h3⟩:=h1;obtain ⟨y,q1,q2,q3⟩:=ZKo hz h2 k1;obtain ⟨σ,hσ,e1⟩:=hr.st.ev1 x;rw [h3] at e1;exact ZU hr hU (Zna hσ e1 (by simpa using q1)) hd hX q2 (V.ok.mono hU q3) hA
   ·exact hA.elim
  ·exact hA.elim
 | alloc t =>
  simp only [ZY] at h;split at h
  ·rename_i z hz;obtain ⟨y,cs,hy,hcells,hzz,hkz,hp⟩:=Z1k (v:=v) (γ:=γ) (l:=l) (U:=U) hz;refine ZFn hr hU hX hn hd hzz hkz hp ?_ h;have:=ZXk (a:=a) (w:=w) (d:=d) (ty:=ty) (pos:=pos) (aft:=aft) (g:=g) hy;rw [hcells] at this;exact this
  ·exact h.elim
 | box t x =>
  simp only [ZY] at h;obtain ⟨V1,h1,k1,hA⟩:=ZT hr h;split at hA
  ·rename_i hfit;obtain ⟨cs,hcs,hqe⟩:=Zgb h1 (Z3m hfit);obtain ⟨hcells,hpl⟩:=Zuj hcs hfit;obtain ⟨σ,hσ,e1⟩:=hr.st.ev1 x;rw [hqe] at e1;refine ZFn hr hU hX hn hd hcs k1 hpl ?_ hA;have:=Zbp (t:=t) (d:=d) (ty:=ty) (pos:=pos) (aft:=aft) (g:=g) (P:=C.P) hσ e1;rw [show (V1.val cs).cells=cs.toArray from hcells] at this;exact this
  ·exact hA.elim
 | load t x =>
  simp only [ZY] at h;obtain ⟨V1,h1,k1,hA⟩:=ZT hr h;split at hA
  ·exact Zcs hr hU hX hn rfl hd h1 hA
  obtain ⟨z,y,q1,q2,q3,hB⟩:=ldE_ok (d:=d) (ty:=ty) (pos:=pos) (aft:=aft) (g:=g) hr h1 k1 hA;exact ZU hr hU q1 hd hX q2 (V.ok.mono hU q3) hB
 | store t x y =>
  simp only [ZY] at h
  cases d with
  | some d=>exact h.elim
  | none =>
   obtain ⟨V1,h1,k1,hA⟩:=ZT hr h;obtain ⟨V2,h2,k2,hB⟩:=ZT hr hA;exact stE_ok hr hU hX hn rfl h1 h2 k1 k2 hB
 | fieldAddr s x i =>
  simp only [ZY] at h;obtain ⟨V1,h1,k1,hA⟩:=ZT hr h;obtain ⟨z,y,q1,q2,q3,hB⟩:=fldE_ok (d:=d) (ty:=ty) (pos:=pos) (aft:=aft) (g:=g) hr h1 k1 hA;exact ZU hr hU q1 hd hX q2 (V.ok.mono hU q3) hB
 | field s x i =>
  simp only [ZY] at h;obtain ⟨V1,h1,k1,hA⟩:=ZT hr h;split at hA
  ·rename_i fd hfd hag;split at hA
   ·rename_i q hq;split at hA
    ·rename_i z hz;obtain ⟨cs,hcs,hqe⟩:=Zgb h1 (fun c e=>by subst e;cases hag);obtain ⟨q1,q2,q3⟩:=ZYo hq hz hcs k1 w;obtain ⟨σ,hσ,e1⟩:=hr.st.ev1 x;have hv:V1.val cs = .agg cs.toArray:=by unfold V.val;rw [hag]
     rw [hqe,hv] at e1;refine ZU hr hU (ZHv hσ e1 ?_) hd hX (ZDb q2 (fun c e=>by subst e;exact q2)) (V.ok.mono hU q3) hA;unfold fldT at hfd;split at hfd
     ·rename_i fs hfs;have hfd':fs[i]? = some fd:=by rw [← Array.getElem?_toList];exact hfd
      simp [Instr.field,run_underlying hfs,hfd',asAgg,q1]
     ·cases hfd
    ·exact hA.elim
   ·exact hA.elim
  ·exact hA.elim
 | indexAddr t x i =>
  simp only [ZY] at h;obtain ⟨V1,h1,k1,hA⟩:=ZT hr h;obtain ⟨V2,h2,k2,hB⟩:=ZT hr hA;obtain ⟨κ,j,rfl,hC'⟩:=Zjd hB;exact ixE_ok hr hU hX rfl hd h1 k1 (Zac h2).1 hC'
 | index t x i =>
  simp only [ZY] at h;obtain ⟨V1,h1,k1,hA⟩:=ZT hr h;obtain ⟨V2,h2,k2,hB⟩:=ZT hr hA;obtain ⟨κ,j,rfl,hC'⟩:=Zjd hB;obtain ⟨e2,_⟩:=Zac h2;obtain ⟨σ,hσ,ev1,ev2⟩:=hr.st.ev2 x i;rw [e2] at ev2;split at hC'
  ·obtain ⟨e1,_⟩:=Zlg h1;rw [e1] at ev1;split at hC'
   ·rename_i ht;obtain ⟨y,hy,hC'⟩:=hC';exact ZU hr hU (Zco hσ ev1 ev2 ht hy) hd hX (ZLa (u8_inR y)) trivial hC'
   ·exact hC'.elim
  ·split at hC'
   ·rename_i m e ht;split at hC'
    ·rename_i q hq hag b0 b1;have b0:(0:Int)≤j:=by simpa using b0
     have b1:@LT.lt Int _ j (m:Int):=by simpa using b1
     split at hC'
     ·rename_i z hz;obtain ⟨cs,hcs,hqe⟩:=Zgb h1 (fun c e=>by subst e;cases hag);obtain ⟨q1,q2,q3⟩:=ZYo hq hz hcs k1 w;have hv:V1.val cs = .agg cs.toArray:=by unfold V.val;rw [hag]
      rw [hqe,hv] at ev1;refine ZU hr hU (ZCs hσ ev1 ev2 ?_) hd hX (ZDb q2 (fun c e=>by subst e;exact q2)) (V.ok.mono hU q3) hC';simp [Instr.index,asIntOf,run_underlying ht,b0,b1,(ZYe hq).size,q1]
     ·exact hC'.elim
    ·exact hC'.elim
   ·exact hC'.elim
 | binOp op t x y t' =>
  simp only [ZY] at h;obtain ⟨V1,h1,k1,hA⟩:=ZT hr h;obtain ⟨V2,h2,k2,hB⟩:=ZT hr hA;obtain ⟨z,q,q1,q2,q3,hC'⟩:=binE_ok (d:=d) (ty:=ty) (pos:=pos) (aft:=aft) (g:=g) (t':=t') hr h1 h2 hB;exact ZU hr hU q1 hd hX q2 (V.ok.mono hU q3) hC'
 | unOp u t x =>
  cases u with
  | not =>
   simp only [ZY] at h;obtain ⟨V1,h1,k1,hA⟩:=ZT hr h;obtain ⟨b,rfl,hB⟩:=Zrs hA;obtain ⟨σ,hσ,e1⟩:=hr.st.ev1 x;rw [Zff h1] at e1;exact ZU hr hU (ZUn hσ e1) hd hX Zgc trivial hB
  | neg =>
   simp only [ZY] at h;obtain ⟨V1,h1,k1,hA⟩:=ZT hr h;obtain ⟨κ,i,rfl,hB⟩:=Zjd hA;obtain ⟨σ,hσ,e1⟩:=hr.st.ev1 x;rw [(Zac h1).1] at e1;exact ZU hr hU (run_neg hσ e1) hd hX (ZLa (Zga _ _)) trivial hB
  | _=>exact h.elim
 | convert s t x =>
  simp only [ZY] at h;obtain ⟨V1,h1,k1,hA⟩:=ZT hr h;obtain ⟨σ,hσ,e1⟩:=hr.st.ev1 x;split at hA
  ·rename_i κ i ds κ' hs ht;obtain ⟨q1,q2⟩:=Zac h1;rw [q1] at e1;have hcv:∀ w,(convert s t (.int κ i)).run C.P w = .ok (.int κ' (κ'.wrap i)) w:=fun w=>by
    simp [convert,run_underlying hs,run_underlying ht,Conv.intToInt]
   split at hA
   ·rename_i hk;have hk:=ZMf hk;subst hk;refine ZU hr hU (Znd hσ e1 hcv) hd hX (x:=.data (.int κ) i) ?_ trivial hA;rw [Z8d q2];exact ZLa q2
   ·exact ZU hr hU (Znd hσ e1 hcv) hd hX (ZLa (Zga _ _)) trivial hA
  ·rename_i hs ht;obtain ⟨q1,q2⟩:=Zlg h1;rw [q1] at e1;exact ZU hr hU (Znd hσ e1 (fun w=>by simp [convert,run_underlying hs,run_underlying ht])) hd hX (Zxi q2) trivial hA
  ·exact hA.elim
 | makeInterface t x =>
  simp only [ZY] at h;obtain ⟨V1,h1,k1,hA⟩:=ZT hr h;split at hA
  ·rename_i hfit;split at hA
   ·exact hA.elim
   ·rename_i D hni hD;obtain ⟨cs,hcs,hqe⟩:=Zgb h1 (Z3m hfit);obtain ⟨σ,hσ,e1⟩:=hr.st.ev1 x;rw [hqe] at e1;refine ZU hr hU (run_mkI hσ e1 hD fun q e=>hni q (Option.some.inj e)) hd hX (x:=.ifc t V1) ⟨[_],⟨cs,hcs,rfl⟩,rfl⟩ (V.ok.mono hU k1) hA
   ·exact hA.elim
  ·exact hA.elim
 | makeFunc fn first cap =>
  cases fn with
  | func fi =>
   simp only [ZY] at h;split at h
   ·rename_i hfirst;obtain ⟨c,h1,k1,hA⟩:=Zqf hr h;obtain ⟨σ,hσ,hev⟩:=hr.st.evs cap.toList;have hargs:cap.toList.map (ev σ)=(cap.toList.map a.eval).map some:=by
     rw [List.map_map];exact List.map_congr_left fun y hy=>hev y hy
    have hf:first = #[]:=by
     apply Array.ext';simpa using hfirst
    subst hf;exact ZU hr hU (ZZt hσ _ hargs) hd hX (x:=.fn fi c) ⟨[_],⟨_,h1,rfl⟩,rfl⟩ (V.ok.mono hU k1) hA
   ·exact h.elim
  | _=>exact h.elim
 | makeSlice t x y=>exact Zjv hr hU hX hn rfl hd h
 | buildSlice t m ps=>exact ZBs hr hU hX hn rfl hd h
 | build t ps=>exact ZJq hr hU hX rfl hd h
 | slice t x lo hi mx =>
  cases mx with
  | some _=>exact h.elim
  | none =>
   simp only [ZY] at h;obtain ⟨i,hA,hlo⟩:=ZRo hr h;obtain ⟨j,hB,hhi⟩:=ZRo hr hA;obtain ⟨V1,h1,k1,hC'⟩:=ZT hr hB;split at hC'
   ·rename_i u;obtain ⟨en,he,hC'⟩:=hC';obtain ⟨kk,st,L⟩:=en
    cases L with
    | own ty0 s xs fz =>
     obtain ⟨ys,l1,γ1,v1,ℓ1,hD,r1,le1,q1⟩:=Zod hn hX FU hC' hr k1;obtain ⟨cs,hcs,hqe⟩:=Zgb h1 (fun c e=>by cases e);have hrel:=q1 _ hcs;exact Zki (p:=.data (.slice s) ys) r1 hU hX rfl hd ⟨cs,hrel,hqe⟩ hlo hhi hD
    | box _ _=>exact hC'.elim
    | mid _ _ _ _ _ _=>exact hC'.elim
    | mat _ _ _ _ _=>exact hC'.elim
   ·obtain ⟨cs,hcs,hqe⟩:=Zog h1;exact Zki (p:=.data (.slice (.int .u64)) (Zc 18446744073709551616 _)) hr hU hX rfl hd ⟨cs,hcs,hqe⟩ hlo hhi hC'
   ·obtain ⟨cs,hcs,hqe⟩:=Zog h1;exact Zki (p:=.data (.slice (.int .u32)) (Zc 4294967296 _)) hr hU hX rfl hd ⟨cs,hcs,hqe⟩ hlo hhi hC'
   ·split at hC'
    ·exact arrE_ok hr hU hX hn rfl hd h1 k1 hlo hhi hC'
    ·exact hC'.elim
   ·exact Zki hr hU hX rfl hd h1 hlo hhi hC'
 | pick c x y =>
  cases c with
  | tmp c =>
   simp only [ZY] at h;obtain ⟨s,b,hf,h1,h2⟩:=h;have hr':=RelX.dup hr hf;have hc:=Zff (hr.fr c _ hf);obtain ⟨σ,hσ,hev⟩:=hr.st.evs [.tmp c,x,y];have e0:=hev (.tmp c) (by simp);have e0:ev σ (.tmp c)=some (.bool b):=e0.trans (congrArg some hc);have ex:=hev x (by simp);have ey:=hev y (by simp)
   cases b with
   | true =>
    obtain ⟨V1,q1,k1,hA⟩:=ZT hr' (h1 rfl);exact ZU hr' hU (Zcb hσ e0 (by rw [if_pos rfl];exact ex)) hd hX q1 (V.ok.mono hU k1) hA
   | false =>
    obtain ⟨V1,q1,k1,hA⟩:=ZT hr' (h2 rfl);exact ZU hr' hU (Zcb hσ e0 (by rw [if_neg (by decide)];exact ey)) hd hX q1 (V.ok.mono hU k1) hA
  | _=>exact h.elim
 | call c =>
  obtain ⟨callee,args,ats⟩:=c
  cases callee with
  | value x =>
   simp only [ZY] at h;obtain ⟨V1,h1,k1,hA⟩:=ZT hr h;obtain ⟨c,h2,k2,hB⟩:=Zqf hr hA;split at hB
   ·rename_i fi;obtain ⟨cs,⟨vs,q1,rfl⟩,q3⟩:=h1;have q1:vs=[]:=q1;subst q1;have q3:a.eval x = .func (.func fi) #[] #[]:=q3;obtain ⟨σ,hσ,hev⟩:=hr.st.evs (x :: args.toList);have hfx:=hev x (by simp);rw [q3] at hfx;have hargs:args.toList.map (ev σ)=(args.toList.map a.eval).map some:=by
     rw [List.map_map];exact List.map_congr_left fun y hy=>hev y (by simp [hy])
    exact Zbo hC hr hU hX hn hd (fun hen=>Z3 hσ _ hen hfx hargs) (fun y hv=>Z6h hσ _ hv hfx hargs) h2 k2 hB
   ·exact hB.elim
  | invoke r m =>
   simp only [ZY] at h;obtain ⟨V1,h1,k1,hA⟩:=ZT hr h;obtain ⟨c,h2,k2,hB⟩:=Zqf hr hA;split at hB
   ·rename_i t x;split at hB
    ·rename_i fi hfi;obtain ⟨cs,⟨cc,q1,rfl⟩,q3⟩:=h1;have q3:a.eval r = .iface t (x.val cc):=q3;obtain ⟨σ,hσ,hev⟩:=hr.st.evs (r :: args.toList);have hfx:=hev r (by simp);rw [q3] at hfx;have hargs:args.toList.map (ev σ)=(args.toList.map a.eval).map some:=by
      rw [List.map_map];exact List.map_congr_left fun y hy=>hev y (by simp [hy])
     exact Zbo hC hr hU hX hn (c:=.cons x c) (vals:=x.val cc :: args.toList.map a.eval) hd (fun hen=>Zyn hσ _ (fun w=>hC.m t m fi hfi _ w) hfx hargs (hen _ w)) (fun y hv=>Zyn hσ _ (fun w=>hC.m t m fi hfi _ w) hfx hargs (by
      have:=hv w;exact this)) ⟨cc,_,rfl,q1,h2⟩ ⟨k1,k2⟩ hB
    ·exact hB.elim
   ·exact hB.elim
  | builtin b =>
   cases b with
   | len =>
    simp only [ZY] at h;split at h
    ·rename_i x t hx ht;have hx:args = #[x]:=by apply Array.ext';exact hx
     have ht:ats = #[t]:=by apply Array.ext';exact ht
     subst hx ht;obtain ⟨V1,h1,k1,hA⟩:=ZT hr h;obtain ⟨m,q1,q2,hB⟩:=lenE_ok (d:=d) (ty:=ty) (pos:=pos) (aft:=aft) (g:=g) hr h1 hA;exact ZU hr hU q1 hd hX (ZLa q2) trivial hB
    ·exact h.elim
   | append =>
    simp only [ZY] at h;split at h
    ·rename_i x y t t' hx ht;split at h
     ·rename_i hb;have hb:=Nat.eq_of_beq_eq_true hb;subst hb;have hx:args = #[x,y]:=by apply Array.ext';exact hx
      have ht:ats = #[t,t]:=by apply Array.ext';exact ht
      subst hx ht;obtain ⟨V1,h1,k1,hA⟩:=ZT hr h;obtain ⟨V2,h2,k2,hB⟩:=ZT hr hA;exact appE_ok hr hU hX hn rfl hd h1 h2 k1 k2 hB
     ·exact h.elim
    ·exact h.elim
   | max =>
    simp only [ZY] at h;split at h
    ·rename_i x y hx;have hx:args = #[x,y]:=by apply Array.ext';exact hx
     subst hx;obtain ⟨V1,h1,k1,hA⟩:=ZT hr h;obtain ⟨V2,h2,k2,hB⟩:=ZT hr hA;obtain ⟨κ,i,rfl,hC'⟩:=Zjd hB;obtain ⟨κ',j,rfl,hD⟩:=Zjd hC';split at hD
     ·rename_i hk;have hk:=ZMf hk;subst hk;obtain ⟨e1,r1⟩:=Zac h1;obtain ⟨e2,r2⟩:=Zac h2;obtain ⟨σ,hσ,ev1,ev2⟩:=hr.st.ev2 x y;rw [e1] at ev1;rw [e2] at ev2;exact ZU hr hU (run_max hσ ev1 ev2) hd hX (ZLa (max_inR r1 r2)) trivial hD
     ·exact hD.elim
    ·exact h.elim
   | min =>
    simp only [ZY] at h;split at h
    ·rename_i x y hx;have hx:args = #[x,y]:=by apply Array.ext';exact hx
     subst hx;obtain ⟨V1,h1,k1,hA⟩:=ZT hr h;obtain ⟨V2,h2,k2,hB⟩:=ZT hr hA;obtain ⟨κ,i,rfl,hC'⟩:=Zjd hB;obtain ⟨κ',j,rfl,hD⟩:=Zjd hC';split at hD
     ·rename_i hk;have hk:=ZMf hk;subst hk;obtain ⟨e1,r1⟩:=Zac h1;obtain ⟨e2,r2⟩:=Zac h2;obtain ⟨σ,hσ,ev1,ev2⟩:=hr.st.ev2 x y;rw [e1] at ev1;rw [e2] at ev2;exact ZU hr hU (run_min hσ ev1 ev2) hd hX (ZLa (min_inR r1 r2)) trivial hD
     ·exact hD.elim
    ·exact h.elim
   | _=>exact h.elim
 | _=>exact h.elim
end
end Go.Eng
namespace Go.Eng
open Go.RowKit
def Old (m:Nat) (f:Fr) (l:Lo) (f':Fr) (l':Lo):Prop:=(∀ t e,lkE f' t=some e→e.st<m→lkE f t=some e)∧∀ u e,lkE l' u=some e→e.st<m→lkE l u=some e
theorem Old.refl {m:Nat} {f:Fr} {l:Lo}:Old m f l f l:=⟨fun _ _ h _=>h,fun _ _ h _=>h⟩
theorem Old.trans {m m':Nat} {f f' f'':Fr} {l l' l'':Lo} (h:Old m f l f' l') (k:Old m' f' l' f'' l'') (hm:m≤m'):Old m f l f'' l'' :=
 ⟨fun t e he hs=>h.1 t e (k.1 t e he (by omega)) hs,fun t e he hs=>h.2 t e (k.2 t e he (by omega)) hs⟩
theorem Old.mono {m m':Nat} {f f':Fr} {l l':Lo} (h:Old m' f l f' l') (hm:m≤m'):Old m f l f' l':=⟨fun t e he hs=>h.1 t e he (by omega),fun t e he hs=>h.2 t e he (by omega)⟩
theorem Old.put {m n:Nat} {f:Fr} {l:Lo} {d:Nat} {x:V} (h:m≤n):Old m f l (⟨d,n,x⟩ :: f) l:=by
 refine ⟨fun t e he hs=>?_,fun _ _ h _=>h⟩;rw [ZP] at he;split at he
 ·cases he;exact absurd hs (by show ¬ n<m;omega)
 ·exact he
theorem Old.dup {m:Nat} {f:Fr} {l:Lo} {t:Nat} {e:En V} (h:lkE f t=some e):Old m f l (e :: f) l:=by
 obtain ⟨_,hk⟩:=Zy h;refine ⟨fun t' e' he _=>?_,fun _ _ h _=>h⟩;rw [ZP] at he;split at he
 ·rename_i hk';cases he;rw [← hk',hk];exact h
 ·exact he
theorem ZEh {ρ:Type} {n m:Nat} (hm:m≤n) {f0:Fr} {l0:Lo}:∀ {e:Ev ρ} {f:Fr} {l:Lo} {K:ρ→Fr→Lo→Prop},Old m f0 l0 f l→(l.map En.k).Nodup→Zo n e f l K→Zo n e f l fun x f' l'=>K x f' l'∧Old m f0 l0 f' l':=by
 intro e;have wr:∀ {f:Fr} {l:Lo} {u:Nat} {L:LV},Old m f0 l0 f l→(l.map En.k).Nodup→Old m f0 l0 f (⟨u,n,L⟩ :: era l u)∧((⟨u,n,L⟩ :: era l u:Lo).map En.k).Nodup:=by
  intro f l u L ho hn;obtain ⟨n1,n2⟩:=ZAb (t:=u) hn;refine ⟨⟨ho.1,fun k e he hs=>?_⟩,List.nodup_cons.2 ⟨n2,n1⟩⟩;rw [ZP] at he;split at he
  ·cases he;exact absurd hs (by show ¬ n<m;omega)
  ·rw [ZPb hn] at he;split at he
   ·cases he
   ·exact ho.2 k e he hs
 induction e with
 | fail=>intro f l K ho hn h;exact h
 | done x=>intro f l K ho hn h;exact ⟨h,ho⟩
 | rdS t q ih=>intro f l K ho hn h;obtain ⟨x,hx,h⟩:=h;exact ⟨x,hx,ih _ ho hn h⟩
 | rdL u q ih=>intro f l K ho hn h;obtain ⟨x,hx,h⟩:=h;exact ⟨x,hx,ih _ _ ho hn h⟩
 | wrS t x e ih=>intro f l K ho hn h;exact ih (ho.trans (Old.put hm) (Nat.le_refl m)) hn h
 | wrL u L e ih=>intro f l K ho hn h;exact ih (wr ho hn).1 (wr ho hn).2 h
 | new u L e ih =>
  intro f l K ho hn h;refine ⟨h.1,ih ⟨ho.1,fun k e he hs=>?_⟩ (List.nodup_cons.2 ⟨Zsh h.1,hn⟩) h.2⟩;rw [ZP] at he;split at he
  ·cases he;exact absurd hs (by show ¬ n<m;omega)
  ·exact ho.2 k e he hs
 | del u e ih =>
  intro f l K ho hn h;refine ih ⟨ho.1,fun k e he hs=>?_⟩ (ZAb hn).1 h;rw [ZPb hn] at he;split at he
  ·cases he
  ·exact ho.2 k e he hs
 | bind x q ih=>intro f l K ho hn h;obtain ⟨x,hx,h⟩:=h;exact ⟨x,hx,ih _ ho hn h⟩
 | test t e1 e2 i1 i2 =>
  intro f l K ho hn h;obtain ⟨s,b,h1,h2,h3⟩:=h;have hd:=ho.trans (Old.dup (m:=m) (l:=l) h1) (Nat.le_refl m);exact ⟨s,b,h1,fun e=>i1 hd hn (h2 e),fun e=>i2 hd hn (h3 e)⟩
section
variable {N:Nat} {G:V→Value→Prop} {w0:Base} {v0:Zb} {U X:Nat→Prop} {f:Fr} {l:Lo} {a:Act} {w:World} {γ:Nat→Gh} {v:Zb} {ℓ:List Loc} {n:Nat}
def GoodG (P:Program) (ops:Array Oper) (N:Nat) (G:V→Value→Prop) (w0:Base) (v0:Zb) (X:Nat→Prop) (o:Oper) (a:Act) (w:World) (Post:Unit→Fr→Lo→Prop):Prop :=
 (Region.wanted o (yielded ops a.tmps)=true∧Zya P N G w0 v0 X o a w Post)∨(Region.wanted o (yielded ops a.tmps)=false∧∃ f' l',Post () f' l'∧Rel N G w0 v0 X f' l' (a.put o.dst undef) w)
theorem Z3i (hr:RelX N G w0 v0 U X f l a w γ v ℓ) (hU:∀ k,U k→X k) (hX:X n) {o:Oper} {Post:Unit→Fr→Lo→Prop} (hd:∀ k,o.dst=some k→k<N) (h:Zo n (Z3f o) f l Post):∃ f' l',Post () f' l'∧Rel N G w0 v0 X f' l' (a.put o.dst undef) w:=by
 unfold Z3f at h
 cases hdd:o.dst with
 | none=>rw [hdd] at h;exact ⟨f,l,h,γ,v,ℓ,hr.mono hU fun _ h=>h⟩
 | some d=>rw [hdd] at h;exact ⟨_,l,h,γ,v,ℓ,(hr.mono hU fun _ h=>h).put (hd d hdd) (x:=.undef) ⟨[undef],rfl,rfl⟩ trivial hX⟩
theorem ZBl {C:Cf} (hC:CfOK C) {ops:Array Oper} (hr:RelX N G w0 v0 U X f l a w γ v ℓ) (hU:∀ k,U k→X k) (hX:X n) (hn:¬ U n) {o:Oper} {Post:Unit→Fr→Lo→Prop} (hds:∀ o ∈ ops.toList,∀ k,o.dst=some k→k<N) (hd:∀ k,o.dst=some k→k<N)
  (h:Zo n (gop C ops.toList n o) f l Post):GoodG C.P ops N G w0 v0 X o a w Post:=by
 unfold gop at h;split at h
 ·rename_i hg;exact .inl ⟨ZLb hg,ZYk hC hr hU hX hn hd h⟩
 ·rename_i j want hg;split at h
  ·rename_i q hq;split at h
   ·rename_i t ht;have htN:t<N:=hds q (List.mem_of_getElem? hq) t ht;have hgd:(ops[j]?).bind (·.dst)=some t:=by rw [← Array.getElem?_toList,hq];exact ht
    obtain ⟨e,he,h⟩:=h;obtain ⟨σ,hσ,hev⟩:=hr.st.evs [.tmp t];have hl:look σ t=some (a.tmps.getD t undef):=hev (.tmp t) (by simp);have hrv:=hr.fr t e he;obtain ⟨ek,est,ex⟩:=e;have hk:ek=t:=(Zy he).2;subst hk
    cases ex with
    | undef =>
     obtain ⟨cs,h1,h2⟩:=hrv;have h1:cs=[undef]:=h1;subst h1;have h2:a.tmps.getD ek undef=undef:=h2;rw [h2] at hl;exact .inr ⟨ZUd hσ hg hgd hl htN,Z3i hr hU hX hd h⟩
    | data tt b =>
     cases tt with
     | bool =>
      have h2:=Zff hrv;have h2:a.tmps.getD ek undef = .bool b:=h2;rw [h2] at hl
      cases want with
      | true =>
       obtain ⟨s,b',h3,h4,h5⟩:=h;rw [he] at h3
       cases h3
       cases b with
       | true=>exact .inl ⟨Zgf hσ hg hgd hl htN,ZYk hC (RelX.dup hr he) hU hX hn hd (h4 rfl)⟩
       | false=>exact .inr ⟨ZDh hσ hg hgd hl htN,Z3i (RelX.dup hr he) hU hX hd (h5 rfl)⟩
      | false =>
       obtain ⟨s,b',h3,h4,h5⟩:=h;rw [he] at h3
       cases h3
       cases b with
       | true=>exact .inr ⟨ZDh hσ hg hgd hl htN,Z3i (RelX.dup hr he) hU hX hd (h4 rfl)⟩
       | false=>exact .inl ⟨Zgf hσ hg hgd hl htN,ZYk hC (RelX.dup hr he) hU hX hn hd (h5 rfl)⟩
     | _=>exact h.elim
    | _=>exact h.elim
   ·exact h.elim
  ·exact h.elim
theorem GoodG.list {P:Program} {ops:Array Oper} {Q:Exit→Act→World→Prop} {o:Oper} {rest:List Oper} {Post:Unit→Fr→Lo→Prop} (h:GoodG P ops N G w0 v0 X o a w Post)
  (k:∀ f' l' a' w',Post () f' l'→Rel N G w0 v0 X f' l' a' w'→wpList P ops Q rest a' w'):wpList P ops Q (o :: rest) a w:=by
 rcases h with ⟨hw,hg⟩ | ⟨hw,f',l',h1,h2⟩
 ·exact ZSc hw (Zhl hg fun x w' ⟨f',l',h1,h2⟩=>k f' l' _ w' h1 h2)
 ·unfold wpList;rw [if_neg (by rw [hw];decide)];exact k f' l' _ w h1 h2
end
end Go.Eng
