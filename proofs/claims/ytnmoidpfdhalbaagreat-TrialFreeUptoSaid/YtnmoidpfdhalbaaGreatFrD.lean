/- Lemmas towards the statement: the engine of the walks, the functions' models, laws and walks, part 4. Conditions: as each states. -/
import Derived.Laws.CopyRow
import Derived.Laws.IdiomStrings
import Derived.Lib.AppendZerosOnto
import Derived.Lib.Overlaps
import Derived.Scope
import Derived.Test.YtnmoidpfdhalbaaGreatFrC
set_option linter.all false
set_option maxRecDepth 100000
namespace Go.Eng
open Go.RowKit
theorem St.bare {K:Nat} {w0:Base} {v0:Zb} {σ:List (Nat×Value)} {ℓ:List Loc} {v:Zb} {a:Act} {w:World} (h:St K w0 v0 σ ℓ v a w):St K w0 v0 [] ℓ v a w:=h.frame ZQu
theorem Zal {v:Zb} {γ:Nat→Gh} {l:Lo} {x:V} {cs:List Value} (h:RR v γ l false x cs) (hf:x.fit=true):cellsOf (x.val cs) cs∧cs.all plain=true:=by
 unfold V.fit at hf;have hp:x.plain=true:=by
  cases hp:x.plain
  ·rw [hp] at hf;cases hf
  ·rfl
 have hpl:=ZYu hp h;refine ⟨?_,hpl⟩;rw [hp] at hf;unfold V.val
 cases ha:x.isAgg with
 | true=>exact ZEw cs
 | false =>
  rw [ha] at hf;have hs:=Nat.eq_of_beq_eq_true hf;have e:=ZJg h hs ha;have hv:x.val cs=cs.headD undef:=by unfold V.val;rw [ha]
  rw [hv] at e;rw [e] at hpl;have hpl':plain (cs.headD undef)=true:=by simpa using hpl
  have:=ZEb hpl';show cellsOf (cs.headD undef) cs
  conv=>arg 2;rw [e]
  exact this
theorem ZFm {x:V} (hf:x.fit=true):∀ c,x ≠ .tup c:=fun c e=>by subst e;cases hf
section
variable {P:Program} {N:Nat} {G:V→Value→Prop} {w0:Base} {v0:Zb} {U X:Nat→Prop} {f:Fr} {l:Lo} {a:Act} {w:World} {γ:Nat→Gh} {v:Zb} {ℓ:List Loc} {n:Nat}
variable {ty:TypeId} {pos:String} {aft:Array Edge} {g:Option (Nat×Bool)}
theorem Zvf {o:Oper} {l':Lo} {w':World} {γ':Nat→Gh} {v':Zb} {ℓ':List Loc} {Post:Unit→Fr→Lo→Prop} (hr:RelX N G w0 v0 U X f l' a w' γ' v' ℓ') (hU:∀ k,U k→X k) (ho:o.dst=none) (hrun:(execOp a.eval o).run P w = .ok .skip w') (h:Post () f l'):ZGa P N G w0 v0 X o a w Post:=by
 refine Zwm hrun ?_;rw [ho];exact ⟨_,_,h,_,_,_,hr.mono hU fun _ h=>h⟩
theorem all_upd {cs0 cs:List Value} {off:Nat} (h0:cs0.all plain=true) (h1:cs.all plain=true):(cs0.take off++cs++cs0.drop (off+cs.length)).all plain=true:=by
 have h0':=List.all_eq_true.1 h0;refine List.all_eq_true.2 fun x hx=>?_;rcases List.mem_append.1 hx with hx | hx
 ·rcases List.mem_append.1 hx with hx | hx
  ·exact h0' x (List.mem_of_mem_take hx)
  ·exact List.all_eq_true.1 h1 x hx
 ·exact h0' x (List.mem_of_mem_drop hx)
theorem Zym {t:T} {x:t.den} {z x':V} {off:Nat} {cs cz:List Value} (hg:Z2a FU (.data t x) off z=some x') (hx:t.rep.rel v cs x) (hz:RR v γ l false z cz) (hkz:z.ok U) :
  RR v γ l false x' (cs.take off++cz++cs.drop (off+cz.length))∧x'.ok U∧off+cz.length≤t.n:=by
 obtain ⟨h1,h2,h3,_⟩:=ZIe FU hg (γ:=γ) (l:=l) (x:=.data t x) hx hz trivial hkz;refine ⟨h1,h2,?_⟩;have:=Rep.len _ hx;rw [ZU] at this;omega
theorem Znq {t:T}:∀ {rows:List (Option Nat×Nat)} {m:List (List t.den)} {es:List Loc} {i:Nat} {p:Option Nat×Nat} {r:List t.den},ZBa v ty t rows m es→rows[i]? = some p→m[i]? = some r →
  ∃ cs e1 e2,es=e1 ++ .own p.1 ty t.n r.length p.2 cs :: e2∧t.rep.rels v cs r∧∀ (r':List t.den) (cs':List Value),r'.length=r.length→t.rep.rels v cs' r'→Zw rows (m.set i r')=Zw rows m∧ZBa v ty t rows (m.set i r') (e1 ++ .own p.1 ty t.n r.length p.2 cs' :: e2)
 | [],[],_,_,_,_,_,h,_=>by simp at h
 | q :: ps,r0 :: rs,es,0,p,r,⟨cs,es',h1,h2,h3⟩,hp,hr=>by
  simp at hp hr
  subst hp hr
  refine ⟨cs,[],es',by simpa using h2,h1,fun r' cs' hl hc=>⟨by simp [Zw,hl],?_⟩⟩
  exact ⟨cs',es',hc,by rw [← hl];rfl,h3⟩
 | q :: ps,r0 :: rs,es,i+1,p,r,⟨cs,es',h1,h2,h3⟩,hp,hr=>by
  simp only [List.getElem?_cons_succ] at hp hr
  obtain ⟨c2,e1,e2,k2,k3,k4⟩:=Znq h3 hp hr
  subst k2
  refine ⟨c2,.own q.1 ty t.n r0.length q.2 cs :: e1,e2,by simpa using h2,k3,fun r' cs' hl hc=>?_⟩
  obtain ⟨k5,k6⟩:=k4 r' cs' hl hc
  exact ⟨by simp only [List.set_cons_succ,Zw,k5],cs,_,h1,rfl,k6⟩
 | [],_ :: _,_,_,_,_,k,_,_=>k.elim
 | _ :: _,[],_,_,_,_,k,_,_=>k.elim
theorem Zmo {t:T} {p:Option Nat×Nat} {r':List t.den} {cs':List Value}:∀ {rows:List (Option Nat×Nat)} {m:List (List t.den)} {es:List Loc} {i:Nat} {p0:Option Nat×Nat},ZBa v ty t rows m es→rows[i]? = some p0→t.rep.rels v cs' r' →
  (Zw rows m).take i++[Value.slice (mkA p.1) r'.length p.2]++(Zw rows m).drop (i+1)=Zw (rows.set i p) (m.set i r')∧∃ e1 e2 c,es=e1++c :: e2∧ZBa v ty t (rows.set i p) (m.set i r') (e1 ++ .own p.1 ty t.n r'.length p.2 cs' :: e2)
 | [],[],_,_,_,_,h,_=>by simp at h
 | q :: ps,r0 :: rs,es,0,p0,⟨cs,es',h1,h2,h3⟩,hp,hc=>by
  refine ⟨by simp [Zw],[],es',_,by simpa using h2,?_⟩
  exact ⟨cs',es',hc,rfl,h3⟩
 | q :: ps,r0 :: rs,es,i+1,p0,⟨cs,es',h1,h2,h3⟩,hp,hc=>by
  simp only [List.getElem?_cons_succ] at hp
  obtain ⟨k1,e1,e2,c,k2,k3⟩:=Zmo (p:=p) h3 hp hc
  subst k2
  refine ⟨by simp only [List.set_cons_succ,Zw,List.take_succ_cons,List.drop_succ_cons,List.cons_append,k1],.own q.1 ty t.n r0.length q.2 cs :: e1,e2,c,by simpa using h2,?_⟩
  exact ⟨cs,_,h1,rfl,k3⟩
 | [],_ :: _,_,_,_,k,_,_=>k.elim
 | _ :: _,[],_,_,_,k,_,_=>k.elim
theorem ZEs {α:Type} {m:List (List α)} {i:Nat} {r r':List α} (hr:m[i]? = some r) (hl:r'.length=r.length):(m.set i r').map List.length=m.map List.length:=by
 apply List.ext_getElem?;intro j;simp only [List.getElem?_map];by_cases h:i=j
 ·subst h;have hlt:=(List.getElem?_eq_some_iff.1 hr).1;rw [List.getElem?_set_self hlt,hr];simp [hl]
 ·rw [List.getElem?_set_ne h]
theorem Zvh:∀ (g:Nat) {x z x':V} {off:Nat},Z2a g x off z=some x'→x.ok U→z.ok U→x'.ok U
 | 0,_,_,_,_,h,_,_=>by cases h
 | g+1,x,z,x',off,h,hk,hkz=>by
  have whole:∀ {y:V},(match Nat.beq off 0,Nat.beq y.size z.size,eqB y.isAgg z.isAgg with
    | true,true,true=>some z
    | _,_,_=>match y with
     | .agg c=>match Z2a g c off z with
      | some c'=>some (.agg c')
      | none=>none
     | .data t x=>match ZXb t x with
      | some c=>match Z2a g c off z with
       | some c'=>some (.agg c')
       | none=>none
      | none=>none
     | _=>none)=some x'→y.ok U→x'.ok U:=by
   intro y hy hk;split at hy
   ·cases hy;exact hkz
   ·split at hy
    ·split at hy
     ·rename_i c' he;cases hy;exact (show V.ok U c' from Zvh g he hk hkz)
     ·cases hy
    ·split at hy
     ·rename_i c hc;split at hy
      ·rename_i c' he;cases hy;exact (show V.ok U c' from Zvh g he (ZRo hc) hkz)
      ·cases hy
     ·cases hy
    ·cases hy
  cases x with
  | nl=>simp only [Z2a] at h;cases h
  | cons a b =>
   simp only [Z2a] at h;split at h
   ·split at h
    ·rename_i he;cases h;exact ⟨Zvh g he hk.1 hkz,hk.2⟩
    ·cases h
   ·split at h
    ·split at h
     ·rename_i he;cases h;exact ⟨hk.1,Zvh g he hk.2 hkz⟩
     ·cases h
    ·cases h
  | data t x=>exact whole (y:=.data t x) h hk
  | agg c=>exact whole (y:=.agg c) h hk
  | nilS=>exact whole (y:=.nilS) h hk
  | own u=>exact whole (y:=.own u) h hk
  | row u i hv cv t r=>exact whole (y:=.row u i hv cv t r) h hk
  | ptr u o=>exact whole (y:=.ptr u o) h hk
  | el u i cv t x o=>exact whole (y:=.el u i cv t x o) h hk
  | rp u i hv cv t r=>exact whole (y:=.rp u i hv cv t r) h hk
  | rel u i j hv cv t r x o=>exact whole (y:=.rel u i j hv cv t r x o) h hk
  | vp t x o=>exact whole (y:=.vp t x o) h hk
  | tup c=>exact whole (y:=.tup c) h hk
  | fn f c=>exact whole (y:=.fn f c) h hk
  | ifc f c=>exact whole (y:=.ifc f c) h hk
  | undef=>exact whole (y:=.undef) h hk
theorem ZKk {b off:Nat} {c c':List Value} (h:WAt w b off c) (h':WAt w b off c') (hl:c.length=c'.length):c=c':=by
 obtain ⟨x,T,fr,h1,h2⟩:=h;obtain ⟨x',T',fr',h3,h4⟩:=h';rw [h1] at h3;cases h3;rw [← h2,← h4,hl]
theorem ZEr (hr:RelX N G w0 v0 U X f l a w γ v ℓ) {u k st:Nat} {ty0:TypeId} {t:T} {xs:List t.den} {fz:Bool} (he:lkE l u=some ⟨k,st,.own ty0 t xs fz⟩) {b cap i:Nat} {x:t.den} (hγ:γ u = .own (some b) cap) (hx:xs[i]? = some x):∃ c,t.rep.rel v c x∧WAt w b (0+i*t.n) c:=by
 obtain ⟨hkk,es,hes,hmem⟩:=hr.loc he;have hkk:k=u:=hkk;subst hkk
 cases fz with
 | false =>
  obtain ⟨ob,cap',cs,q1,q2,rfl⟩:=hes;have q1:γ k = .own ob cap':=q1;rw [hγ] at q1;cases q1;obtain ⟨j,hj⟩:=hmem _ (List.mem_singleton.2 rfl);have hrel:=Zma q2 hx;rw [ZU] at hrel;have hl:=Rep.len _ hrel;rw [ZU] at hl;refine ⟨_,hrel,?_⟩;have:=Z2c hr.st hj rfl (List.getElem?_eq_some_iff.1 hx).1 0 ((cs.drop (i*t.n)).take t.n) (by rw [hl,List.drop_zero,List.take_take,Nat.min_self]) (by omega)
  simpa using this
 | true =>
  obtain ⟨ob,cap',q1,q2,_⟩:=hes;have q1:γ k = .own ob cap':=q1;rw [hγ] at q1;cases q1;obtain ⟨_,b2,o2,cs2,e2,h2,h3⟩:=Z9a q2 hx
  cases e2
  rw [ZU] at h2;exact ⟨cs2,h3,hr.st.view h2⟩
theorem ZZq (hr:RelX N G w0 v0 U X f l a w γ v ℓ) {u k st hv:Nat} {ty0 ty2:TypeId} {t:T} {m:List (List t.den)} (he:lkE l u=some ⟨k,st,.mat ty0 ty2 t m hv⟩) {ob:Option Nat} {cap i j bi capi:Nat} {rows:List (Option Nat×Nat)} {r:List t.den} {x:t.den}
  (hγ:γ u = .mat ob cap rows) (hrow:rows[i]? = some (some bi,capi)) (hm:m[i]? = some r) (hx:r[j]? = some x):∃ c,t.rep.rel v c x∧WAt w bi (0+j*t.n) c:=by
 obtain ⟨hkk,es,hes,hmem⟩:=hr.loc he;have hkk:k=u:=hkk;subst hkk;obtain ⟨ob',cap',rows',es2,q1,q2,rfl⟩:=hes;have q1:γ k = .mat ob' cap' rows':=q1;rw [hγ] at q1;cases q1;obtain ⟨p',cs,r1,r2,r3⟩:=Zpf q2 hm;rw [hrow] at r1;cases r1;obtain ⟨jj,hj⟩:=hmem _ (List.mem_cons_of_mem _ r3);have hrel:=Zma r2 hx;rw [ZU] at hrel;have hl:=Rep.len _ hrel;rw [ZU] at hl;refine ⟨_,hrel,?_⟩;have:=Z2c hr.st hj rfl (List.getElem?_eq_some_iff.1 hx).1 0 ((cs.drop (j*t.n)).take t.n) (by rw [hl,List.drop_zero,List.take_take,Nat.min_self]) (by omega)
 simpa using this
theorem stE_ok (hr:RelX N G w0 v0 U X f l a w γ v ℓ) (hU:∀ k,U k→X k) (hX:X n) (hn:¬ U n) {t:TypeId} {x y:Operand} {o:Oper} {p q:V} {Post:Unit→Fr→Lo→Prop} (ho:o=⟨none,.store t x y,ty,pos,aft,g⟩) (hp:RV v γ l p (a.eval x)) (hq:RV v γ l q (a.eval y)) (hk:p.ok U) (hkq:q.ok U)
  (h:Zr n (stE P n t p q) f l Post):ZGa P N G w0 v0 X o a w Post:=by
 unfold stE at h;split at h
 ·exact h.elim
 ·rename_i sz hsz;split at h
  ·rename_i b1 b2 b3;have b1:=Nat.eq_of_beq_eq_true b1;have b2:=ZYn b2;obtain ⟨cs,hcs,hqe⟩:=ZCb hq (ZFm b3);obtain ⟨hcells,hpl⟩:=Zal hcs b3;have hlen:cs.length=sz.1:=(ZDd hcs).trans b1;have hS:=Zxf hsz;split at h
   · -- a variable
    rename_i u off;obtain ⟨en,he,h⟩:=h;obtain ⟨yy,hy0,_,hy⟩:=Zja hp (fun _ e=>by cases e) rfl rfl;have hy0:a.eval x=yy:=(List.cons.inj hy0).1;have hy:=hy en he;obtain ⟨kk,st,L⟩:=en;obtain ⟨hm,hkk⟩:=ZD he;have hkk:kk=u:=hkk;subst hkk
    cases L with
    | box ty0 c =>
     simp only at h;obtain ⟨b',g4,rfl⟩:=hy;split at h
     ·rename_i c' hc';obtain ⟨es,E',h1,h2,_,h3,_⟩:=hr.del he;obtain ⟨b,cs0,g1,g2,g3,rfl⟩:=h1;have g1:γ kk = .box b:=g1;rw [g1] at g4;cases g4;have hcok:c.ok U:=(hr.ul _ hm).2.2;obtain ⟨k1,k2,k3,_⟩:=ZIe FU hc' g2 hcs hcok hkq;rw [hlen] at k3;have hs:=hr.st.perm h3;obtain ⟨σ,hσ,e1,e2⟩:=hs.ev2 x y;rw [hy0] at e1;rw [hqe] at e2;obtain ⟨w',hrun,hst⟩:=Zup (P:=P) hσ hS hcells hlen (i:=0) rfl (by omega) hpl;have hle:Le U v γ l v γ (⟨kk,n,.box ty0 c'⟩ :: era l kk):=Le.upd hr he (Zb.le_refl _) (fun _ _=>rfl) rfl;subst ho;refine Zvf (hr.upd hX (hr.ul _ hm).1 h2 hst.bare hle (fun _ _=>rfl) ⟨_,_,g1,Zsb hle k2 k1,all_upd g3 hpl,rfl⟩ (List.Perm.refl _) k2) hU rfl (hrun e1 e2) h
     ·exact h.elim
    | own _ _ _ _=>exact h.elim
    | mid _ _ _ _ _ _=>exact h.elim
    | mat _ _ _ _ _=>exact h.elim
   · -- an element
    rename_i u i cv s x0 off;split at h
    ·rename_i z hz;obtain ⟨yy,hy0,_,⟨c0,hc0⟩,hy⟩:=Zja hp (fun _ e=>by cases e) rfl rfl;have hy0:a.eval x=yy:=(List.cons.inj hy0).1;obtain ⟨z1,z2,z3⟩:=Zym hz hc0 hcs hkq;obtain ⟨y1,l1,γ1,v1,ℓ1,h,r1,le1,q1⟩:=ZLd hn hX FU h hr z2;obtain ⟨en,he,h⟩:=h;have hp1:=ZDb le1 hk hp;obtain ⟨yy',hy0',_,_,hy⟩:=Zja hp1 (fun _ e=>by cases e) rfl rfl;have hy0':a.eval x=yy':=(List.cons.inj hy0').1;have hy:=hy en he;obtain ⟨kk,st,L⟩:=en;obtain ⟨hm,hkk⟩:=ZD he;have hkk:kk=u:=hkk;subst hkk
     cases L with
     | own ty0 s' xs fz =>
      cases fz with
      | true=>exact h.elim
      | false =>
       simp only at h;obtain ⟨b,cap,g1,rfl,g3,g4⟩:=hy;obtain ⟨es,E',h1,h2,_,h3,_⟩:=r1.del he;obtain ⟨ob,cap',cs1,f1,f2,rfl⟩:=h1;have f1:γ1 kk = .own ob cap':=f1;rw [g1] at f1;cases f1;have fin:∀ (c:List Value) (y':s'.den),(cs1.drop (i*s'.n)).take s'.n=c→off+sz.1≤s'.n→s'.rep.rel v1 (c.take off++cs++c.drop (off+sz.1)) y'→Post () f (⟨kk,n,.own ty0 s' (xs.set i y') false⟩ :: era l1 kk)→ZGa P N G w0 v0 X o a w Post:=by
        intro c y' hc hfit hrel hpost;have hs:=r1.st.perm h3;obtain ⟨σ,hσ,e1,e2⟩:=hs.ev2 x y;rw [hy0'] at e1;rw [hqe] at e2;have hset:=Z5q f2 g3 hc hrel (ZU s').symm hfit;have hcl:=ZWd f2;rw [ZU] at hcl;have hfit2:0+i*s'.n+off+sz.1≤cs1.length:=Zfr hs (j:=0) rfl g3 hfit;obtain ⟨w',hrun,hst⟩:=ZQb (P:=P) hσ hS hcells hlen (i:=0) rfl hfit2 hpl;rw [hlen] at hst;have hle:Le U v1 γ1 l1 v1 γ1 (⟨kk,n,.own ty0 s' (xs.set i y') false⟩ :: era l1 kk):=Le.upd r1 he (Zb.le_refl _) (fun _ _=>rfl) ⟨rfl,rfl,by simp,fun e=>absurd e hn⟩;have hst':St N w0 v0 [] (.own (some b) ty0 s'.n (xs.set i y').length cap (cs1.take (0+i*s'.n+off)++cs++cs1.drop (0+i*s'.n+off+sz.1)) :: E'.flatten) v1 a w':=by
         rw [List.length_set];exact hst.bare
        subst ho;exact Zvf (r1.upd hX (r1.ul _ hm).1 h2 hst' hle (fun _ _=>rfl) ⟨some b,cap,_,g1,hset,rfl⟩ (List.Perm.refl _) trivial) hU rfl (hrun e1 e2) hpost
       have full:off=0→sz.1=s.n→∀ y',T.cast s s' y1=some y'→Post () f (⟨kk,n,.own ty0 s' (xs.set i y') false⟩ :: era l1 kk)→ZGa P N G w0 v0 X o a w Post:=by
        intro e0 e1 y' hc hpost;obtain ⟨c3,c4⟩:=Zpa hc;subst c3;subst c4;refine fin _ y1 rfl (by omega) ?_ hpost;have hl0:=Rep.len _ hc0;rw [ZU] at hl0;have hcl:=ZWd f2;rw [ZU] at hcl;have hdl:((cs1.drop (i*s.n)).take s.n).length=s.n:=by
         have:i*s.n+s.n≤cs1.length:=by rw [hcl,← Nat.succ_mul];exact Nat.mul_le_mul_right _ g3
         simp;omega
        have q1:=q1 _ z1;rw [e0] at q1 ⊢;rw [List.take_zero,List.drop_of_length_le (by omega)] at q1 ⊢;exact q1
       split at h
       ·rename_i hh1 hh2;split at h
        ·rename_i y' hy';exact full (Nat.eq_of_beq_eq_true hh1) (b1.symm.trans (Nat.eq_of_beq_eq_true hh2)) y' hy' h
        ·exact h.elim
       ·rename_i hcv _;split at h
        ·rename_i y' hy';obtain ⟨ys,c1,c2⟩:=g4 (Nat.eq_of_beq_eq_true hcv);obtain ⟨c3,c4⟩:=Zpa c1
         cases c3;cases c4
         rw [ZDl] at hy';cases hy';have hrel:=Zma f2 c2;rw [ZU] at hrel;obtain ⟨⟨k0,st0,L0⟩,he0,hce⟩:=le1.l _ _ hk.1 he;have hst:U st:=(Nat.eq_of_beq_eq_true hcv) ▸ hk.2
         cases L0 with
         | own ty1 t1 xs1 fz1 =>
          obtain ⟨d1,d2,d3,d4⟩:=hce;obtain ⟨d5,d6⟩:=d4 hst
          cases d6
          rw [d1] at g1;obtain ⟨c,hc1,hc2⟩:=ZEr hr he0 g1 c2;obtain ⟨z1',_,_⟩:=Zym hz hc1 hcs hkq;have q2:=q1 _ z1';rw [hlen] at q2;refine fin c y1 ?_ (by omega) q2 h;have g1':γ1 kk = .own (some b) cap:=by rw [d1];exact g1
          obtain ⟨c',hc1',hc2'⟩:=ZEr r1 he g1' c2;have hl1:=Rep.len _ hc1;have hl2:=Rep.len _ hc1';have e1:=ZKk hc2 hc2' (hl1.trans hl2.symm);have hl3:=Rep.len _ hrel;rw [ZU] at hl1 hl3;obtain ⟨jj,hj⟩:∃ i:Nat,ℓ1[i]? = some (.own (some b) ty0 s.n xs.length cap cs1):=List.getElem?_of_mem (h3.mem_iff.2 (by simp));have hw:=Z2c r1.st hj rfl g3 0 ((cs1.drop (i*s.n)).take s.n) (by rw [hl3,List.drop_zero,List.take_take,Nat.min_self]) (by omega);exact ZKk (by simpa using hw) hc2 (hl3.trans hl1.symm)
         | box _ _=>exact hce.elim
         | mid _ _ _ _ _ _ =>
          obtain ⟨_,_,_,_,hyl⟩:=Zja hp (fun _ e=>by cases e) rfl rfl;exact (hyl _ he0).elim
         | mat _ _ _ _ _ =>
          obtain ⟨_,_,_,_,hyl⟩:=Zja hp (fun _ e=>by cases e) rfl rfl;exact (hyl _ he0).elim
        ·exact h.elim
       ·exact h.elim
     | box _ _=>exact h.elim
     | mid _ _ _ _ _ _=>exact h.elim
     | mat _ _ _ _ _=>exact h.elim
    ·exact h.elim
   · -- a row is put into its place
    rename_i u i hv0 cv0 s0 r0;split at h
    ·rename_i u2 _ _;obtain ⟨en,he,h⟩:=h;obtain ⟨yy,hy0,_,hy⟩:=Zja hp (fun _ e=>by cases e) rfl rfl;have hy0:a.eval x=yy:=(List.cons.inj hy0).1;have hy:=hy en he;obtain ⟨kk,st,L⟩:=en;obtain ⟨hm,hkk⟩:=ZD he;have hkk:kk=u:=hkk;subst hkk
     cases L with
     | mat ty0 ty2 s m hv =>
      obtain ⟨en2,he2,h⟩:=h;obtain ⟨k2,st2,L2⟩:=en2;obtain ⟨hm2,hkk2⟩:=ZD he2;have hkk2:k2=u2:=hkk2;subst hkk2
      cases L2 with
      | own ty3 s' xs fz =>
       cases fz with
       | true=>exact h.elim
       | false =>
        simp only at h;split at h
        ·rename_i l' ht3 hl';have ht3:=Nat.eq_of_beq_eq_true ht3;subst ht3;obtain ⟨c3,c4⟩:=Zpa hl'
         cases c3;cases c4
         have hne:kk≠k2:=fun e=>by subst e;rw [he] at he2;cases he2
         obtain ⟨b,cap,rows,g1,rfl,g3,g4⟩:=hy;obtain ⟨es2,E2,h1,h2,h2',h3,r2⟩:=hr.del he2;obtain ⟨ob2,cap2,cs2,f1,f2,rfl⟩:=h1;have he':lkE (era l k2) kk=some ⟨kk,st,.mat ty0 ty3 s m hv⟩:=by
          rw [Z2b hr.nd,if_neg (fun e=>hne e.symm)];exact he
         obtain ⟨esm,E',hsp1,hsp2,hsp3⟩:=Ztg h2' he';obtain ⟨ob',cap',rows,es3,q1,q2,rfl⟩:=hsp1;have q1:γ kk = .mat ob' cap' rows:=q1;rw [g1] at q1;cases q1;have hrl:=ZFf q2;obtain ⟨p',hp'⟩:∃ p',rows[i]? = some p':=⟨_,List.getElem?_eq_getElem (by omega)⟩;obtain ⟨hh,e1,e2,csx,k1,k3⟩:=Zmo q2 hp' (p:=(ob2,cap2)) (r':=xs) f2;have hq1:a.eval y = .slice (mkA ob2) xs.length cap2:=by
          obtain ⟨yq,hyq0,_,hyq⟩:=Zja hq (fun _ e=>by cases e) rfl rfl;obtain ⟨oq,cq,gq1,gq2⟩:=hyq _ he2;have f1:γ k2 = .own ob2 cap2:=f1;rw [f1] at gq1;cases gq1;exact ((List.cons.inj hyq0).1).trans gq2
         have hs:St N w0 v0 [] (.own (some b) ty0 1 m.length cap (Zw rows m) :: .own ob2 ty3 s.n xs.length cap2 cs2 :: (es3++E'.flatten)) v a w:=by
          refine hr.st.perm ((h3.trans (List.Perm.append_left _ hsp3)).trans ?_);simp only [List.cons_append];exact List.Perm.swap _ _ _
         obtain ⟨σ,hσ,ee1,ee2⟩:=hs.ev2 x y;rw [hy0] at ee1;rw [hq1] at ee2;have hS1:Sized P t ([Value.slice (mkA ob2) xs.length cap2]:List Value).length sz.2:=by
          have:sz.1=1:=b1.symm;rw [this] at hS;exact hS
         have hfit:0+i*1+([Value.slice (mkA ob2) xs.length cap2]:List Value).length≤(Zw rows m).length:=by
          rw [Zmd hrl];simp only [List.length_singleton];omega
         obtain ⟨w',hrun,hst⟩:=ZQb (P:=P) hσ hS1 (cs:=[Value.slice (mkA ob2) xs.length cap2]) (z:=.slice (mkA ob2) xs.length cap2) (ZEb rfl) rfl (i:=0) rfl hfit rfl;have hh':(Zw rows m).take (0+i*1)++[Value.slice (mkA ob2) xs.length cap2]++(Zw rows m).drop (0+i*1+1)=Zw (rows.set i (ob2,cap2)) (m.set i xs):=by
          rw [Nat.zero_add,Nat.mul_one];exact hh
         have hst:=hst.bare;simp only [List.set_cons_zero,List.length_singleton] at hst;rw [hh'] at hst;subst k1;have hst':St N w0 v0 [] (.own (some b) ty0 1 (m.set i xs).length cap (Zw (rows.set i (ob2,cap2)) (m.set i xs)) :: (e1 ++ .own ob2 ty3 s.n xs.length cap2 cs2 :: e2)++E'.flatten) v a w':=by
          rw [List.length_set];refine (hst.drop (ℓ':=.own (some b) ty0 1 m.length cap (Zw (rows.set i (ob2,cap2)) (m.set i xs)) :: .own ob2 ty3 s.n xs.length cap2 cs2 :: ((e1++e2)++E'.flatten)) ?_).perm ?_
          ·refine List.Sublist.cons_cons _ (List.Sublist.cons_cons _ (List.Sublist.append (List.Sublist.append (List.Sublist.refl _) (List.sublist_cons_self _ _)) (List.Sublist.refl _)))
          ·simp only [List.cons_append];refine List.Perm.cons _ ?_;rw [← List.cons_append];exact List.Perm.append_right _ (List.perm_middle.symm)
         have hle:Le U v γ (era l k2) v (ZLc γ kk (.mat (some b) cap (rows.set i (ob2,cap2)))) (⟨kk,n,.mat ty0 ty3 s (m.set i xs) n⟩ :: era (era l k2) kk):=Le.upd r2 he' (Zb.le_refl _) (fun _ hne=>Zmc hne) ⟨rfl,by simp,⟨_,_,_,_,g1,Zqb,fun e=>absurd e hn⟩,fun e=>absurd e hn⟩;subst ho;refine Zvf (r2.upd hX (r2.ul _ (ZD he').1).1 hsp2 hst' hle (fun _ hne=>Zmc hne) ⟨some b,cap,rows.set i (ob2,cap2),_,Zqb,k3,rfl⟩ ?_ hX) hU rfl (hrun ee1 ee2) h;exact List.Perm.refl _
        ·exact h.elim
      | box _ _=>exact h.elim
      | mid _ _ _ _ _ _=>exact h.elim
      | mat _ _ _ _ _=>exact h.elim
     | mid ty0 ty2 s m hv sm =>
      cases sm with
      | swp _ _=>exact h.elim
      | hol i1 =>
       obtain ⟨_,heq,h⟩:=h;have heq:i=i1:=by
        unfold eqN at heq;split at heq
        ·assumption
        ·cases heq
       subst heq;obtain ⟨en2,he2,h⟩:=h;obtain ⟨k2,st2,L2⟩:=en2;obtain ⟨hm2,hkk2⟩:=ZD he2;have hkk2:k2=u2:=hkk2;subst hkk2
       cases L2 with
       | own ty3 s' xs fz =>
        cases fz with
        | true=>exact h.elim
        | false =>
         simp only at h;split at h
         ·rename_i l' ht3 hl';have ht3:=Nat.eq_of_beq_eq_true ht3;subst ht3;obtain ⟨c3,c4⟩:=Zpa hl'
          cases c3;cases c4
          have hne:kk≠k2:=fun e=>by subst e;rw [he] at he2;cases he2
          obtain ⟨b,cap,rows,g1,rfl,g3,g4⟩:=hy;obtain ⟨es2,E2,h1,h2,h2',h3,r2⟩:=hr.del he2;obtain ⟨ob2,cap2,cs2,f1,f2,rfl⟩:=h1;have he':lkE (era l k2) kk=some ⟨kk,st,.mid ty0 ty3 s m hv (.hol i)⟩:=by
           rw [Z2b hr.nd,if_neg (fun e=>hne e.symm)];exact he
          obtain ⟨esm,E',hsp1,hsp2,hsp3⟩:=Ztg h2' he';obtain ⟨ob',cap',rows,es3,hs,es4,q1,q2,⟨rfl,e1,c,e2,rfl,rfl,rfl⟩,rfl⟩:=hsp1;have q1:γ kk = .mat ob' cap' rows:=q1;rw [g1] at q1;cases q1;have hrl:=ZFf q2;obtain ⟨hh,k3⟩:=ZUs q2 (p:=(ob2,cap2)) (r':=xs) f2;have hq1:a.eval y = .slice (mkA ob2) xs.length cap2:=by
           obtain ⟨yq,hyq0,_,hyq⟩:=Zja hq (fun _ e=>by cases e) rfl rfl;obtain ⟨oq,cq,gq1,gq2⟩:=hyq _ he2;have f1:γ k2 = .own ob2 cap2:=f1;rw [f1] at gq1;cases gq1;exact ((List.cons.inj hyq0).1).trans gq2
          have hs:St N w0 v0 [] (.own (some b) ty0 1 m.length cap (Zw rows m) :: .own ob2 ty3 s.n xs.length cap2 cs2 :: (e1++e2++E'.flatten)) v a w:=by
           refine hr.st.perm ((h3.trans (List.Perm.append_left _ hsp3)).trans ?_);simp only [List.cons_append];exact List.Perm.swap _ _ _
          obtain ⟨σ,hσ,ee1,ee2⟩:=hs.ev2 x y;rw [hy0] at ee1;rw [hq1] at ee2;have hS1:Sized P t ([Value.slice (mkA ob2) xs.length cap2]:List Value).length sz.2:=by
           have:sz.1=1:=b1.symm;rw [this] at hS;exact hS
          have hfit:0+e1.length*1+([Value.slice (mkA ob2) xs.length cap2]:List Value).length≤(Zw rows m).length:=by
           rw [Zmd hrl];simp only [List.length_singleton];omega
          obtain ⟨w',hrun,hst⟩:=ZQb (P:=P) hσ hS1 (cs:=[Value.slice (mkA ob2) xs.length cap2]) (z:=.slice (mkA ob2) xs.length cap2) (ZEb rfl) rfl (i:=0) rfl hfit rfl;have hh':(Zw rows m).take (0+e1.length*1)++[Value.slice (mkA ob2) xs.length cap2]++(Zw rows m).drop (0+e1.length*1+1)=Zw (rows.set e1.length (ob2,cap2)) (m.set e1.length xs):=by
           rw [Nat.zero_add,Nat.mul_one];exact hh
          have hst:=hst.bare;simp only [List.set_cons_zero,List.length_singleton] at hst;rw [hh'] at hst;have hst':St N w0 v0 [] (.own (some b) ty0 1 (m.set e1.length xs).length cap (Zw (rows.set e1.length (ob2,cap2)) (m.set e1.length xs)) :: (e1 ++ .own ob2 ty3 s.n xs.length cap2 cs2 :: e2)++E'.flatten) v a w':=by
           rw [List.length_set];refine hst.perm ?_;simp only [List.cons_append,List.append_assoc];exact List.Perm.cons _ List.perm_middle.symm
          have hle:Le U v γ (era l k2) v (ZLc γ kk (.mat (some b) cap (rows.set e1.length (ob2,cap2)))) (⟨kk,n,.mat ty0 ty3 s (m.set e1.length xs) n⟩ :: era (era l k2) kk):=Le.upd r2 he' (Zb.le_refl _) (fun _ hne=>Zmc hne) ⟨rfl,by simp,⟨_,_,_,_,g1,Zqb,fun e=>absurd e hn⟩,fun e=>absurd e hn⟩;subst ho;exact Zvf (r2.upd hX (r2.ul _ (ZD he').1).1 hsp2 hst' hle (fun _ hne=>Zmc hne) ⟨some b,cap,rows.set e1.length (ob2,cap2),_,Zqb,k3,rfl⟩ (List.Perm.refl _) hX) hU rfl (hrun ee1 ee2) h
         ·exact h.elim
       | box _ _=>exact h.elim
       | mid _ _ _ _ _ _=>exact h.elim
       | mat _ _ _ _ _=>exact h.elim
     | box _ _=>exact h.elim
     | own _ _ _ _=>exact h.elim
    · -- another row's header
     rename_i u2 j hv2 cv2 t2 r2 _ _;obtain ⟨en,he,h⟩:=h;obtain ⟨yy,hy0,_,hy⟩:=Zja hp (fun _ e=>by cases e) rfl rfl;have hy0:a.eval x=yy:=(List.cons.inj hy0).1;have hy:=hy en he;obtain ⟨yq,hq0,_,hqy⟩:=Zja hq (fun _ e=>by cases e) rfl rfl;have hq0:a.eval y=yq:=(List.cons.inj hq0).1;obtain ⟨kk,st,L⟩:=en;obtain ⟨hm,hkk⟩:=ZD he;have hkk:kk=u:=hkk;subst hkk;have hS1:∀ z:Value,Sized P t ([z]:List Value).length sz.2:=fun z=>by
      have:sz.1=1:=b1.symm;rw [this] at hS;exact hS
     cases L with
     | mat ty0 ty2 s m hv =>
      simp only at h;split at h
      ·rename_i bu bh;have bu:=Nat.eq_of_beq_eq_true bu;have bh:=Nat.eq_of_beq_eq_true bh;subst bu bh;obtain ⟨b,cap,rows,g1,rfl,g3,g4⟩:=hy;obtain ⟨ob',cap',rows',obi,capi,j1,j2,rfl,⟨rj,j3,j4⟩,_⟩:=hqy _ he rfl;rw [g1] at j1;cases j1;obtain ⟨es,E',h1,h2,_,h3,_⟩:=hr.del he;obtain ⟨ob2,cap2,rows2,es3,q1,q2,rfl⟩:=h1;have q1:γ u2 = .mat ob2 cap2 rows2:=q1;rw [g1] at q1;cases q1;have hrl:=ZFf q2;have hs:=hr.st.perm h3;obtain ⟨σ,hσ,ee1,ee2⟩:=hs.ev2 x y;rw [hy0] at ee1;rw [hq0] at ee2;have hfit:0+i*1+([Value.slice (mkA obi) r2.length capi]:List Value).length≤(Zw rows m).length:=by
        rw [Zmd hrl];simp only [List.length_singleton];omega
       obtain ⟨w',hrun,hst⟩:=ZQb (P:=P) hσ (hS1 _) (cs:=[Value.slice (mkA obi) r2.length capi]) (z:=.slice (mkA obi) r2.length capi) (ZEb rfl) rfl (i:=0) rfl hfit rfl;have hst:=hst.bare;simp only [List.set_cons_zero,List.length_singleton,List.cons_append] at hst;have hset:(Zw rows m).take (0+i*1)++[Value.slice (mkA obi) r2.length capi]++(Zw rows m).drop (0+i*1+1)=(Zw rows m).set i (.slice (mkA obi) r2.length capi):=by
        rw [List.set_eq_take_append_cons_drop,if_pos (by rw [Zmd hrl];exact g3)];simp
       rw [hset] at hst;have hjj:(Zw rows m)[j]? = some (.slice (mkA obi) r2.length capi):=by
        rw [ZAh j2 j3,j4]
       have hle:Le U v γ l v γ (⟨u2,n,.mid ty0 ty2 s m hv (.swp i j)⟩ :: era l u2):=Le.upd hr he (Zb.le_refl _) (fun _ _=>rfl) ⟨rfl,rfl,⟨_,_,_,_,g1,g1,fun _=>⟨rfl,rfl,rfl⟩⟩,fun e=>absurd e hn⟩;subst ho;exact Zvf (hr.upd hX (hr.ul _ hm).1 h2 hst hle (fun _ _=>rfl) ⟨some b,cap,rows,es3,_,es3,g1,q2,⟨rfl,g3,_,hjj,rfl⟩,rfl⟩ (List.Perm.refl _) (hr.ul _ hm).2.2) hU rfl (hrun ee1 ee2) h
      ·exact h.elim
     | mid ty0 ty2 s m hv sm =>
      cases sm with
      | hol _=>exact h.elim
      | swp i0 j0 =>
       simp only at h;split at h
       ·rename_i bu bh;have bu:=Nat.eq_of_beq_eq_true bu;have bh:=Nat.eq_of_beq_eq_true bh;subst bu bh;obtain ⟨_,q1,_,q2,h⟩:=h;have q1:i=j0:=by
         unfold eqN at q1;split at q1
         ·assumption
         ·cases q1
        have q2:j=i0:=by
         unfold eqN at q2;split at q2
         ·assumption
         ·cases q2
        subst q1 q2;obtain ⟨b,cap,rows,g1,rfl,g3,g4⟩:=hy;obtain ⟨ob',cap',rows',obi,capi,j1,j2,rfl,⟨rj,j3,j4⟩,_⟩:=hqy _ he rfl;rw [g1] at j1;cases j1;obtain ⟨es,E',h1,h2,_,h3,_⟩:=hr.del he;obtain ⟨ob2,cap2,rows2,es3,hs0,es4,q1,q2,⟨rfl,q3,hx,q4,rfl⟩,rfl⟩:=h1;have q1:γ u2 = .mat ob2 cap2 rows2:=q1;rw [g1] at q1;cases q1;have hrl:=ZFf q2;have hs:=hr.st.perm h3;obtain ⟨σ,hσ,ee1,ee2⟩:=hs.ev2 x y;rw [hy0] at ee1;rw [hq0] at ee2;have hfit:0+i*1+([Value.slice (mkA obi) r2.length capi]:List Value).length≤((Zw rows m).set j hx).length:=by
         rw [List.length_set,Zmd hrl];simp only [List.length_singleton];omega
        obtain ⟨w',hrun,hst⟩:=ZQb (P:=P) hσ (hS1 _) (cs:=[Value.slice (mkA obi) r2.length capi]) (z:=.slice (mkA obi) r2.length capi) (ZEb rfl) rfl (i:=0) rfl hfit rfl;have hst:=hst.bare;simp only [List.set_cons_zero,List.length_singleton,List.cons_append] at hst;have hset:((Zw rows m).set j hx).take (0+i*1)++[Value.slice (mkA obi) r2.length capi]++((Zw rows m).set j hx).drop (0+i*1+1)=((Zw rows m).set j hx).set i (.slice (mkA obi) r2.length capi):=by
         rw [List.set_eq_take_append_cons_drop (l:=(Zw rows m).set j hx),if_pos (by rw [List.length_set,Zmd hrl];exact g3)];simp
        rw [hset] at hst;obtain ⟨pi,hpi⟩:∃ p,rows[i]? = some p:=⟨_,List.getElem?_eq_getElem (by omega)⟩;obtain ⟨ri,hri⟩:∃ r,m[i]? = some r:=⟨_,List.getElem?_eq_getElem g3⟩;have hhx:hx=ZKd pi ri:=by
         rw [ZAh hpi hri] at q4;exact (Option.some.inj q4).symm
        have hhj:Value.slice (mkA obi) r2.length capi=ZKd (obi,capi) rj:=by unfold ZKd;rw [j4]
        obtain ⟨w1,es5,w2,w3⟩:=Z1r q2 j2 hpi j3 hri;rw [hhx,hhj,w1] at hst;have hln:(Zrc m j i).length=m.length:=by unfold Zrc;simp
        have hst':St N w0 v0 [] (.own (some b) ty0 1 (Zrc m j i).length cap (Zw ((rows.set j pi).set i (obi,capi)) (Zrc m j i)) :: es5++E'.flatten) v a w':=by
         rw [hln];refine hst.perm ?_;simp only [List.cons_append];exact List.Perm.cons _ (List.Perm.append_right _ w2.symm)
        have hle:Le U v γ l v (ZLc γ u2 (.mat (some b) cap ((rows.set j pi).set i (obi,capi)))) (⟨u2,n,.mat ty0 ty2 s (Zrc m j i) n⟩ :: era l u2):=Le.upd hr he (Zb.le_refl _) (fun _ hne=>Zmc hne) ⟨rfl,hln,⟨_,_,_,_,g1,Zqb,fun e=>absurd e hn⟩,fun e=>absurd e hn⟩;subst ho;exact Zvf (hr.upd hX (hr.ul _ hm).1 h2 hst' hle (fun _ hne=>Zmc hne) ⟨some b,cap,_,_,Zqb,w3,rfl⟩ (List.Perm.refl _) hX) hU rfl (hrun ee1 ee2) h
       ·exact h.elim
     | box _ _=>exact h.elim
     | own _ _ _ _=>exact h.elim
    ·exact h.elim
   · -- an element of a row
    rename_i u i j hv cv s r x0 off;split at h
    ·rename_i z hz;obtain ⟨yy,hy0,_,hy⟩:=Zja hp (fun _ e=>by cases e) rfl rfl;have hy0:a.eval x=yy:=(List.cons.inj hy0).1;obtain ⟨⟨kz,sz0,Lz⟩,hez,h⟩:=h;have hLz:∃ ty ty2 t m hv,Lz = .mat ty ty2 t m hv:=by
      cases Lz with
      | mat ty ty2 t m hv=>exact ⟨_,_,_,_,_,rfl⟩
      | _=>exact h.elim
     obtain ⟨_,_,_,_,_,rfl⟩:=hLz;obtain ⟨y1,l1,γ1,v1,ℓ1,hB,r1,le1,q1⟩:=ZLd hn hX FU h hr (Zvh FU hz trivial hkq);obtain ⟨en,he,hC⟩:=hB;have hp1:=ZDb le1 hk hp;obtain ⟨yy',hy0',_,hy1⟩:=Zja hp1 (fun _ e=>by cases e) rfl rfl;have hy0':a.eval x=yy':=(List.cons.inj hy0').1;have hy1:=hy1 en he;obtain ⟨kk,st,L⟩:=en;obtain ⟨hm,hkk⟩:=ZD he;have hkk:kk=u:=hkk;subst hkk
     cases L with
     | mat ty0 ty2 s' m hv' =>
      simp only at hC;split at hC
      ·rename_i b4 b5;have b4:=Nat.eq_of_beq_eq_true b4;have b5:=Nat.eq_of_beq_eq_true b5;subst b4 b5;split at hC
       ·rename_i r' hr';obtain ⟨ob,cap,rows,bi,capi,g1,g2,rfl,_,g4,g6⟩:=hy1 rfl;obtain ⟨⟨m',c1,c2⟩,cx⟩:=g6 rfl;obtain ⟨c3,c4⟩:=Zpa c1
        cases c3;cases c4
        have hr':r.set j y1=r':=by
         obtain ⟨c5,c6⟩:=Zpa hr';exact c6
        subst hr';obtain ⟨⟨k0,st0,L0⟩,he0,hce⟩:=le1.l _ _ hk.1 he;obtain ⟨es,E',h1,h2,_,h3,_⟩:=r1.del he;obtain ⟨ob',cap',rows',es3,f1,f2,rfl⟩:=h1;have f1:γ1 kk = .mat ob' cap' rows':=f1;rw [g1] at f1;cases f1
        cases L0 with
        | mat ty1 ty3 t1 m1 hv1 =>
         obtain ⟨d1,d2,⟨obx,capx,rowsx,rowsy,d3,d4,d5⟩,d6⟩:=hce;obtain ⟨d7,d8⟩:=d6 hk.2.2
         cases d8
         obtain ⟨d9,d10,_⟩:=d5 hk.2.1;rw [g1] at d4;cases d4;subst d10;obtain ⟨c,hc1,hc2⟩:=ZZq hr he0 d3 g2 c2 cx;obtain ⟨c',hc1',hc2'⟩:=ZZq r1 he g1 g2 c2 cx;have e1:=ZKk hc2 hc2' ((Rep.len _ hc1).trans (Rep.len _ hc1').symm);obtain ⟨z1',_,zfit⟩:=Zym hz hc1 hcs hkq;have q2:=q1 _ z1';rw [hlen] at q2 zfit;obtain ⟨csx,ea,eb,k1,k2,k3⟩:=Znq f2 g2 c2;subst k1;have hs:St N w0 v0 [] (.own (some bi) ty2 s.n r.length capi csx :: .own ob ty0 1 m.length cap (Zw rows m) :: (ea++eb++E'.flatten)) v1 a w:=by
          refine r1.st.perm (h3.trans ?_);simp only [List.cons_append,List.append_assoc];exact (List.Perm.cons _ List.perm_middle).trans (List.Perm.swap _ _ _)
         have hrel:=Zma k2 cx;rw [ZU] at hrel;have hl3:=Rep.len _ hrel;have hl1:=Rep.len _ hc1;rw [ZU] at hl3 hl1;have hcell:(csx.drop (j*s.n)).take s.n=c:=by
          have hw:=Z2c hs (j:=0) rfl rfl g4 0 ((csx.drop (j*s.n)).take s.n) (by rw [hl3,List.drop_zero,List.take_take,Nat.min_self]) (by omega);exact ZKk (by simpa using hw) hc2 (hl3.trans hl1.symm)
         obtain ⟨σ,hσ,e1,e2⟩:=hs.ev2 x y;rw [hy0'] at e1;rw [hqe] at e2;have hset:=Z5q k2 g4 hcell q2 (ZU s).symm (by omega);have hfit2:0+j*s.n+off+sz.1≤csx.length:=Zfr hs (j:=0) rfl g4 (by omega);obtain ⟨w',hrun,hst⟩:=ZQb (P:=P) hσ hS hcells hlen (i:=0) rfl hfit2 hpl;rw [hlen] at hst;have hst:=hst.bare;obtain ⟨k4,k5⟩:=k3 (r.set j y1) _ (List.length_set ..) hset;have hst':St N w0 v0 [] (.own ob ty0 1 (m.set i (r.set j y1)).length cap (Zw rows (m.set i (r.set j y1))) :: (ea ++ .own (some bi) ty2 s.n r.length capi (csx.take (0+j*s.n+off)++cs++csx.drop (0+j*s.n+off+sz.1)) :: eb)++E'.flatten) v1 a w':=by
          rw [List.length_set,k4];refine hst.perm ?_;simp only [List.set_cons_zero,List.cons_append,List.append_assoc];exact (List.Perm.swap _ _ _).trans (List.Perm.cons _ List.perm_middle.symm)
         have hle:Le U v1 γ1 l1 v1 γ1 (⟨kk,n,.mat ty0 ty2 s (m.set i (r.set j y1)) hv'⟩ :: era l1 kk):=Le.upd r1 he (Zb.le_refl _) (fun _ _=>rfl) ⟨rfl,by simp,⟨_,_,_,_,g1,g1,fun _=>⟨rfl,rfl,ZEs c2 (List.length_set ..)⟩⟩,fun e=>absurd e hn⟩;subst ho;exact Zvf (r1.upd hX (r1.ul _ hm).1 h2 hst' hle (fun _ _=>rfl) ⟨ob,cap,rows,_,g1,k5,rfl⟩ (List.Perm.refl _) (r1.ul _ hm).2.2) hU rfl (hrun e1 e2) hC
        | box _ _=>exact hce.elim
        | mid _ _ _ _ _ _=>rw [he0] at hez;cases hez
        | own _ _ _ _=>exact hce.elim
       ·exact hC.elim
      ·exact hC.elim
     | box _ _=>exact hC.elim
     | mid _ _ _ _ _ _=>exact hC.elim
     | own _ _ _ _=>exact hC.elim
    ·exact h.elim
   ·exact h.elim
  ·exact h.elim
end
end Go.Eng
namespace Go.Eng
open Go.RowKit
def Zxd:Rep Value where
 n:=1
 agg:=false
 rel _ cs x:=cs=[x]∧plain x=true
 len h:=by rw [h.1];rfl
 mono _ h:=h
 flat h:=by obtain ⟨h1,h2⟩:=h;rw [h1];simp [h2]
theorem Z7m {v:Zb}:∀ {l:List Value},l.all plain=true→Zxd.rels v l l
 | [],_=>rfl
 | x :: l,h=>by
  simp only [List.all_cons,Bool.and_eq_true] at h
  exact ⟨[x],l,rfl,⟨rfl,h.1⟩,Z7m h.2⟩
theorem Zfm {v:Zb}:∀ {l cs:List Value},Zxd.rels v cs l→cs=l
 | [],cs,h=>h
 | x :: l,cs,h=>by
  obtain ⟨c1,c2,h1,h2,h3⟩:=h
  rw [h1,h2.1,Zfm h3];rfl
theorem ZFl {α:Type}:∀ {rows:List (Option Nat×Nat)} {m:List (List α)},(Zw rows m).all plain=true
 | [],_=>rfl
 | _ :: _,[]=>rfl
 | p :: ps,r :: rs=>by
  have:=ZFl (rows:=ps) (m:=rs)
  simp only [Zw,List.all_cons,this,Bool.and_true]
  obtain ⟨ob,cap⟩:=p
  cases ob <;> rfl
theorem Z2o {α:Type}:∀ {rows rows2:List (Option Nat×Nat)} {m m2:List (List α)},rows.length=m.length→Zw (rows++rows2) (m++m2)=Zw rows m++Zw rows2 m2
 | [],_,[],_,_=>rfl
 | p :: ps,rows2,r :: rs,m2,h=>by
  have:=Z2o (rows:=ps) (rows2:=rows2) (m:=rs) (m2:=m2) (by simpa using h)
  simp [Zw,this]
 | [],_,_ :: _,_,h=>by cases h
 | _ :: _,_,[],_,h=>by cases h
theorem ZKp {v:Zb} {ty:TypeId} {t:T}:∀ {rows rows2:List (Option Nat×Nat)} {m m2:List (List t.den)} {es es2:List Loc},ZBa v ty t rows m es→ZBa v ty t rows2 m2 es2→ZBa v ty t (rows++rows2) (m++m2) (es++es2)
 | [],_,[],_,es,_,h,k=>by rw [show es=[] from h];exact k
 | p :: ps,rows2,r :: rs,m2,es,es2,⟨cs,es',h1,h2,h3⟩,k=>by
  subst h2
  exact ⟨cs,es'++es2,h1,rfl,ZKp h3 k⟩
 | [],_,_ :: _,_,_,_,h,_=>h.elim
 | _ :: _,_,[],_,_,_,h,_=>h.elim
theorem ZIw {v:Zb} {ty:TypeId} {t:T} {rows:List (Option Nat×Nat)} {m:List (List t.den)} {es:List Loc} {i:Nat} {p:Option Nat×Nat} {r:List t.den} (h:ZBa v ty t rows m es) (hp:rows[i]? = some p) (hr:m[i]? = some r) :
  ∃ cs e1 e2,es=e1 ++ .own p.1 ty t.n r.length p.2 cs :: e2∧e1.length=i∧t.rep.rels v cs r:=by
 obtain ⟨k1,k2,k3⟩:=Z4f.1 h;obtain ⟨cs,q1,q2⟩:=k3 i p r hp hr;have hlt:=(List.getElem?_eq_some_iff.1 q2).1;refine ⟨cs,es.take i,es.drop (i+1),?_,by simp;omega,q1⟩;rw [← (List.getElem?_eq_some_iff.1 q2).2,← List.drop_eq_getElem_cons hlt,List.take_append_drop]
section
variable {P:Program} {N:Nat} {G:V→Value→Prop} {w0:Base} {v0:Zb} {U X:Nat→Prop} {f:Fr} {l:Lo} {a:Act} {w:World} {γ:Nat→Gh} {v:Zb} {ℓ:List Loc} {n:Nat}
variable {ty:TypeId} {pos:String} {aft:Array Edge} {g:Option (Nat×Bool)}
theorem RelX.go (h:RelX N G w0 v0 U X f l a w γ v ℓ) {v':Zb} {w':World} (hle:v.le v') (hst:St N w0 v0 [] ℓ v' a w'):RelX N G w0 v0 U X f l a w' γ v' ℓ:=by
 obtain ⟨E,hE,hp⟩:=h.lr;have hl:Le U v γ l v' γ l:=Le.refl hE hle;exact ⟨hst,fun t e he=>ZDb hl (h.uf t e he).1 (h.fr t e he),⟨E,hE.imp fun e he es hr=>Zti hl (h.ul e he).2.2 rfl hr,hp⟩,h.nd,h.uf,h.ul,fun x y hg=>⟨ZDb hl (h.gh x y hg).2 (h.gh x y hg).1,(h.gh x y hg).2⟩⟩
theorem ZVi (hr:RelX N G w0 v0 U X f l a w γ v ℓ) (hU:∀ k,U k→X k) (hX:X n) (hn:¬ U n) {e e2:TypeId} {s:T} {m:List (List s.den)} {rows:List (Option Nat×Nat)} {o:Oper} {ob:Option Nat} {cap:Nat} {w':World} {es ℓ':List Loc} {E:List (List Loc)} {Post:Unit→Fr→Lo→Prop} (hd:∀ k,o.dst=some k→k<N) (hE:F2 (ZLa v γ l) l E) (hℓ:ℓ'=E.flatten)
  (hR:ZBa v e2 s rows m es) (hst:St N w0 v0 [] (.own ob e 1 m.length cap (Zw rows m) :: es++ℓ') v a w') (hrun:(execOp a.eval o).run P w = .ok (.value (.slice (mkA ob) m.length cap)) w') (h:Zr n (Ev.new n (.mat e e2 s m n) (ret o (.own n))) f l Post):ZGa P N G w0 v0 X o a w Post:=by
 obtain ⟨hnew,h⟩:=h;have hr':=hr.new (γ':=ZLc γ n (.mat ob cap rows)) (L':=.mat e e2 s m n) hX hX hn hnew hE hst (Zb.le_refl _) (fun _ h=>Zmc h) ⟨ob,cap,rows,es,Zqb,hR,rfl⟩ (by rw [hℓ]) hX;refine fin (x:=.own n) (hr'.mono hU fun _ h=>h) hrun hd hX ⟨[_],⟨_,rfl,by cases ob <;> rfl,fun e' he'=>?_⟩,rfl⟩ hX h;rw [ZV,if_pos rfl] at he';cases he';exact ⟨_,_,_,Zqb,rfl⟩
theorem RelX.take (hr:RelX N G w0 v0 U X f l a w γ v ℓ) (hX:X n) (hn:¬ U n) {u st hv i:Nat} {ty0 ty2:TypeId} {t:T} {m:List (List t.den)} {r:List t.den} (he:lkE l u=some ⟨u,st,.mat ty0 ty2 t m hv⟩) {ob:Option Nat} {cap:Nat} {rows:List (Option Nat×Nat)} {p:Option Nat×Nat} (hγ:γ u = .mat ob cap rows) (hp:rows[i]? = some p) (hm:m[i]? = some r) :
  ∃ cs ℓ' E',t.rep.rels v cs r∧RelX N G w0 v0 U X f (⟨u,n,.mid ty0 ty2 t m hv (.hol i)⟩ :: era l u) a w γ v ℓ'∧F2 (ZLa v γ (⟨u,n,.mid ty0 ty2 t m hv (.hol i)⟩ :: era l u)) (⟨u,n,.mid ty0 ty2 t m hv (.hol i)⟩ :: era l u) E'∧ℓ'=E'.flatten∧St N w0 v0 [] (.own p.1 ty2 t.n r.length p.2 cs :: ℓ') v a w:=by
 obtain ⟨es,E',h1,h2,_,h3,_⟩:=hr.del he;obtain ⟨ob',cap',rows',es3,f1,f2,rfl⟩:=h1;have f1:γ u = .mat ob' cap' rows':=f1;rw [hγ] at f1;cases f1;obtain ⟨cs,e1,e2,k1,k2,k3⟩:=ZIw f2 hp hm;subst k1;have hs:St N w0 v0 [] (.own p.1 ty2 t.n r.length p.2 cs :: (.own ob ty0 1 m.length cap (Zw rows m) :: (e1++e2)++E'.flatten)) v a w:=by
  refine hr.st.perm (h3.trans ?_);simp only [List.cons_append,List.append_assoc];exact (List.Perm.cons _ List.perm_middle).trans (List.Perm.swap _ _ _)
 have hle:Le U v γ l v γ (⟨u,n,.mid ty0 ty2 t m hv (.hol i)⟩ :: era l u):=Le.upd hr he (Zb.le_refl _) (fun _ _=>rfl) ⟨rfl,rfl,⟨_,_,_,_,hγ,hγ,fun _=>⟨rfl,rfl,rfl⟩⟩,fun e=>absurd e hn⟩;have hrl:ZLa v γ (⟨u,n,.mid ty0 ty2 t m hv (.hol i)⟩ :: era l u) ⟨u,n,.mid ty0 ty2 t m hv (.hol i)⟩ (.own ob ty0 1 m.length cap (Zw rows m) :: (e1++e2)):=⟨ob,cap,rows,_,_,_,hγ,f2,⟨rfl,e1,_,e2,rfl,k2,rfl⟩,rfl⟩;have r2:=hr.upd hX (hr.ul _ (ZD he).1).1 h2 (hs.drop (List.sublist_cons_self _ _)) hle (fun _ _=>rfl) hrl (List.Perm.refl _) (hr.ul _ (ZD he).1).2.2;obtain ⟨E2,hE2,hp2⟩:=r2.lr;exact ⟨cs,E2.flatten,E2,k3,⟨r2.st.perm hp2,r2.fr,⟨E2,hE2,List.Perm.refl _⟩,r2.nd,r2.uf,r2.ul,r2.gh⟩,hE2,rfl,hs.perm (List.Perm.cons _ hp2)⟩
end
end Go.Eng
namespace Go.Eng
open Go.RowKit
theorem Z4e {cs r:List Value} (h:zSl cs=some r):cs = .slice none 0 0 :: r:=by
 unfold zSl at h;split at h
 ·cases h;rfl
 ·cases h
theorem ZRq {v:Zb}:∀ {t:T} {cs r:List Value} {x:t.den},zOK t cs=some r→Zmf t=some x→∃ c1,cs=c1++r∧t.rep.rel v c1 x:=by
 intro t
 induction t with
 | int k =>
  intro cs r x h hx;unfold zOK at h
  cases hx
  split at h <;> try (cases h;done)
  all_goals (rename_i heq;cases heq)
  rename_i k' n rest;split at h
  ·rename_i hk
   cases h
   have:=ZSe hk;subst this;exact ⟨[_],rfl,rfl,by cases k <;> decide⟩
  ·cases h
 | bool =>
  intro cs r x h hx;unfold zOK at h
  cases hx
  split at h <;> try (cases h;done)
  all_goals (rename_i heq;cases heq)
  cases h
  exact ⟨[_],rfl,rfl⟩
 | flt k =>
  intro cs r x h hx;unfold zOK at h
  cases hx
  split at h <;> try (cases h;done)
  all_goals (rename_i heq;cases heq)
  split at h
  ·rename_i hk
   cases h
   have:=Z9p hk;subst this;exact ⟨[_],rfl,rfl,by decide⟩
  ·cases h
 | str =>
  intro cs r x h hx;unfold zOK at h
  cases hx
  split at h <;> try (cases h;done)
  all_goals (rename_i heq;cases heq)
  rename_i s rest;split at h
  ·rename_i hs
   cases h
   refine ⟨[_],rfl,?_,by show ([]:List UInt8).length≤maxLen;exact Nat.zero_le _⟩;have:s=ZA []:=by
    cases s with
    | mk d=>show _=ByteArray.mk _;congr 1;exact Array.ext' hs
   rw [this]
  ·cases h
 | one a ih =>
  intro cs r x h hx;simp only [zOK] at h;obtain ⟨c1,h1,h2⟩:=ih h hx;exact ⟨c1,h1,h2⟩
 | pair a b ia ib =>
  intro cs r x h hx;simp only [zOK] at h;simp only [Zmf] at hx;split at hx
  ·rename_i x1 x2 hx1 hx2
   cases hx
   split at h
   ·rename_i r1 hr1;obtain ⟨c1,h1,h2⟩:=ia hr1 hx1;obtain ⟨c2,h3,h4⟩:=ib h hx2;exact ⟨c1++c2,by rw [h1,h3,List.append_assoc],c1,c2,rfl,h2,h4⟩
   ·cases h
  ·cases hx
 | slice a _ =>
  intro cs r x h hx
  cases hx
  simp only [zOK] at h;exact ⟨[_],Z4e h,Z1h _ _⟩
 | leaf i =>
  intro cs r x h hx;unfold zOK at h;split at h <;> try (cases h;done)
  all_goals (rename_i heq;cases heq)
  ·cases hx;exact ⟨[_],Z4e h,Z9g _⟩
  ·cases hx;exact ⟨[_],Z4e h,ZYk _⟩
  ·cases hx;rw [Z4e h];exact ⟨[_,_],rfl,Zrq _⟩
  ·cases hx
   split at h
   ·rename_i r1 hr1;rw [Z4e hr1,Z4e h];exact ⟨[_,_,_],rfl,Zcv _⟩
   ·cases h
section
variable {P:Program} {N:Nat} {G:V→Value→Prop} {w0:Base} {v0:Zb} {U X:Nat→Prop} {f:Fr} {l:Lo} {a:Act} {w:World} {γ:Nat→Gh} {v:Zb} {ℓ:List Loc} {n:Nat}
variable {ty:TypeId} {pos:String} {aft:Array Edge} {g:Option (Nat×Bool)}
theorem ZEi {t:T} {cs r:List Value} {z:V} (h:ZHf t cs=some (z,r)):∃ c1,cs=c1++r∧RR v γ l false z c1∧z.ok U∧c1.all plain=true:=by
 unfold ZHf at h;split at h
 ·rename_i x r' hx hr
  cases h
  obtain ⟨c1,h1,h2⟩:=ZRq (v:=v) hr hx;exact ⟨c1,h1,h2,trivial,Rep.flat _ h2⟩
 ·cases h
theorem Zgo {F:TypeId→List Value→Option (V×List Value)} (hF:∀ t cs z r,F t cs=some (z,r)→∃ c1,cs=c1++r∧RR v γ l false z c1∧z.ok U∧c1.all plain=true) :
  ∀ {fs:List Field} {cs r:List Value} {z:V},ZXi F fs cs=some (z,r)→∃ c1,cs=c1++r∧RR v γ l false z c1∧z.ok U∧c1.all plain=true
 | [],cs,r,z,h=>by cases h;exact ⟨[],rfl,rfl,trivial,rfl⟩
 | x :: fs,cs,r,z,h=>by
  simp only [ZXi] at h
  split at h
  ·rename_i y cs1 hy
   split at h
   ·rename_i c cs2 hc
    cases h
    obtain ⟨c1,h1,h2,h3,h4⟩:=hF _ _ _ _ hy
    obtain ⟨c2,k1,k2,k3,k4⟩:=Zgo hF hc
    exact ⟨c1++c2,by rw [h1,k1,List.append_assoc],⟨c1,c2,rfl,h2,k2⟩,⟨h3,k3⟩,by rw [List.all_append,h4,k4];rfl⟩
   ·cases h
  ·cases h
theorem Zro {F:List Value→Option (V×List Value)} (hF:∀ cs z r,F cs=some (z,r)→∃ c1,cs=c1++r∧RR v γ l false z c1∧z.ok U∧c1.all plain=true):∀ {k:Nat} {cs r:List Value} {c:V},zRep F k cs=some (c,r)→∃ c1,cs=c1++r∧RR v γ l false c c1∧c.ok U∧c1.all plain=true
 | 0,cs,r,c,h=>by cases h;exact ⟨[],rfl,rfl,trivial,rfl⟩
 | k+1,cs,r,c,h=>by
  simp only [zRep] at h
  split at h
  ·rename_i x cs1 hx
   split at h
   ·rename_i c' cs2 hc
    cases h
    obtain ⟨c1,rfl,h2,h3,h4⟩:=hF _ _ _ hx
    obtain ⟨c2,rfl,k2,k3,k4⟩:=Zro hF hc
    exact ⟨c1++c2,by simp,⟨c1,c2,rfl,h2,k2⟩,⟨h3,k3⟩,by rw [List.all_append,h4,k4];rfl⟩
   ·cases h
  ·cases h
theorem Zxn {C:Cf}:∀ (g:Nat) {t:TypeId} {cs r:List Value} {z:V},ZUh C g t cs=some (z,r)→∃ c1,cs=c1++r∧RR v γ l false z c1∧z.ok U∧c1.all plain=true
 | 0,_,_,_,_,h=>by cases h
 | g+1,t,cs,r,z,h=>by
  simp only [ZUh] at h
  split at h
  ·split at h
   ·cases h
    exact ⟨[_,_,_],rfl,⟨[_],[_,_],rfl,rfl,[_],[_],rfl,ZYk _,[_],[],rfl,ZYk _,rfl⟩,⟨trivial,trivial,trivial,trivial⟩,rfl⟩
   ·cases h
  ·exact ZEi h
  ·split at h
   ·exact ZEi h
   ·exact ZEi h
   ·exact ZEi h
   ·exact ZEi h
   ·split at h
    ·rename_i r' hr
     cases h
     exact ⟨[_],Z4e hr,rfl,trivial,rfl⟩
    ·cases h
   ·split at h
    ·rename_i c r' hc
     cases h
     obtain ⟨c1,h1,h2,h3,h4⟩:=Zgo (fun t cs z r h=>Zxn g h) hc
     exact ⟨c1,h1,h2,h3,h4⟩
    ·cases h
   ·split at h
    ·rename_i c r' hc
     cases h
     obtain ⟨c1,h1,h2,h3,h4⟩:=Zro (fun cs z r h=>Zxn g h) hc
     exact ⟨c1,h1,h2,h3,h4⟩
    ·cases h
   ·cases h
theorem ZUn {C:Cf} {t:TypeId} {z:V} (h:ZUj C t=some z):∃ y cs,(∀ w,(zeroValue t).run C.P w = .ok y w)∧y.cells=cs.toArray∧RR v γ l false z cs∧z.ok U∧cs.all plain=true:=by
 unfold ZUj at h;split at h
 ·rename_i i hi;split at h
  ·rename_i y hy;split at h
   ·rename_i x hx
    cases h
    obtain ⟨c1,h1,h2,h3,h4⟩:=Zxn (v:=v) (γ:=γ) (l:=l) (U:=U) FU hx;rw [List.append_nil] at h1;refine ⟨y,c1,fun w=>by simp [zeroValue,typeInfo,hi,hy],by rw [← h1],h2,h3,h4⟩
   ·cases h
  ·cases h
 ·cases h
theorem Zcr (hr:RelX N G w0 v0 U X f l a w γ v ℓ) (hU:∀ k,U k→X k) (hX:X n) (hn:¬ U n) {t:TypeId} {o:Oper} {c:V} {cs:List Value} {Post:Unit→Fr→Lo→Prop} (hd:∀ k,o.dst=some k→k<N) (hc:RR v γ l false c cs) (hk:c.ok U) (hp:cs.all plain=true)
  (hrun:(execOp a.eval o).run P w = .ok (.value (.pointer (some ⟨w.heap.size,0,none⟩))) (w.alloc (.cells cs.toArray t))) (h:Zr n (Ev.new n (.box t c) (ret o (.ptr n 0))) f l Post):ZGa P N G w0 v0 X o a w Post:=by
 obtain ⟨hnew,h⟩:=h;obtain ⟨E,hE,hpm⟩:=hr.lr;have hst:=(hr.st.perm hpm).newLoc (.cells cs.toArray t) (e:=.box w.heap.size t cs) rfl (heap_alloc_new w _);have hle:Le U v γ l v (ZLc γ n (.box w.heap.size)) (⟨n,n,.box t c⟩ :: l):=⟨Zb.le_refl _,fun k e' hk he=>by
  have hne:n≠k:=fun e=>hn (e ▸ hk);rw [ZV,if_neg hne] at he;refine ⟨e',he,?_⟩;obtain ⟨hm,hk'⟩:=ZD he;obtain ⟨es,hrr⟩:=ZVe hE hm;have:=ZDh (U:=U) (γ':=ZLc γ n (.box w.heap.size)) hrr (Zmc (by rw [hk'];exact fun e=>hne e.symm));rw [hk'] at this;exact this⟩
 have hr':=hr.new (γ':=ZLc γ n (.box w.heap.size)) (L':=.box t c) hX hX hn hnew hE hst (Zb.le_refl _) (fun _ h=>Zmc h) ⟨_,cs,Zqb,Zsb hle hk hc,hp,rfl⟩ (List.Perm.refl _) hk;refine fin (x:=.ptr n 0) (hr'.mono hU fun _ h=>h) hrun hd hX ⟨[_],⟨_,rfl,ZRe,fun e' he'=>?_⟩,rfl⟩ hX h;rw [ZV,if_pos rfl] at he';cases he';exact ⟨_,Zqb,rfl⟩
theorem Zgh (hr:RelX N G w0 v0 U X f l a w γ v ℓ) (hU:∀ k,U k→X k) (hX:X n) (hn:¬ U n) {e:TypeId} {s:T} {xs:List s.den} {o:Oper} {ob:Option Nat} {cap:Nat} {cs:List Value} {w':World} {ℓ':List Loc} {E:List (List Loc)} {Post:Unit→Fr→Lo→Prop} (hd:∀ k,o.dst=some k→k<N) (hE:F2 (ZLa v γ l) l E) (hℓ:ℓ'=E.flatten)
  (hst:St N w0 v0 [] (.own ob e s.n xs.length cap cs :: ℓ') v a w') (hc:s.rep.rels v cs xs) (hrun:(execOp a.eval o).run P w = .ok (.value (.slice (mkA ob) xs.length cap)) w') (h:Zr n (Ev.new n (.own e s xs false) (ret o (.own n))) f l Post):ZGa P N G w0 v0 X o a w Post:=by
 obtain ⟨hnew,h⟩:=h;have hr':=hr.new (γ':=ZLc γ n (.own ob cap)) (L':=.own e s xs false) hX hX hn hnew hE hst (Zb.le_refl _) (fun _ h=>Zmc h) ⟨ob,cap,cs,Zqb,hc,rfl⟩ (by rw [hℓ];exact List.Perm.refl _) trivial;refine fin (x:=.own n) (hr'.mono hU fun _ h=>h) hrun hd hX ⟨[_],⟨_,rfl,by cases ob <;> rfl,fun e' he'=>?_⟩,rfl⟩ hX h;rw [ZV,if_pos rfl] at he';cases he';exact ⟨_,_,Zqb,rfl⟩
theorem ZYm {t:TypeId} {q:EI} (h:ZOf P t=some q):Elem P t q.e q.sz q.by_ q.z∧0<q.by_:=by
 unfold ZOf at h;split at h
 ·rename_i e he;split at h
  ·rename_i i hi;split at h
   ·rename_i z hz;split at h
    ·rename_i h1 h2 h3
     cases h
     have h1:=Nat.eq_of_beq_eq_true h1;have h2:1≤i.size:=Nat.le_of_ble_eq_true h2;have h3:1≤i.bytes:=Nat.le_of_ble_eq_true h3;exact ⟨⟨he,by simp [hi,hz],by simpa using h1,h2⟩,h3⟩
    ·cases h
   ·cases h
  ·cases h
 ·cases h
theorem Ztq {ρ:Type} {g:Nat} {s:T} {c:V} {k:List s.den→Ev ρ} {Post:ρ→Fr→Lo→Prop} (h:Zr n (conv g (.slice s) (.agg c) k) f l Post):False:=by
 cases g with
 | zero=>exact h
 | succ g =>
  cases c with
  | cons x1 c =>
   cases c with
   | cons x2 r=>simp only [conv] at h;exact h
   | nl=>simp only [conv] at h;exact h
   | _=>simp only [conv] at h;exact h
  | _=>simp only [conv] at h;exact h
theorem Zim {ρ:Type} {g:Nat} {s:T} {x:V} {k:List s.den→Ev ρ} {Post:ρ→Fr→Lo→Prop} (h:Zr n (conv g (.slice s) x k) f l Post):x.isAgg=false∧∀ c,x ≠ .tup c:=by
 cases x with
 | agg c=>exact (Ztq h).elim
 | tup c =>
  cases g with
  | zero=>exact h.elim
  | succ g=>simp only [conv] at h;exact h.elim
 | data t x =>
  refine ⟨?_,fun c e=>by cases e⟩
  cases g with
  | zero=>exact h.elim
  | succ g =>
   simp only [conv] at h;split at h
   ·rename_i y hy;obtain ⟨e,_⟩:=Zpa hy;subst e;rfl
   ·split at h
    ·rfl
    ·rfl
    ·rfl
    ·rfl
    ·rfl
    ·split at h
     ·exact (Ztq h).elim
     ·exact h.elim
 | _=>exact ⟨rfl,fun c e=>by cases e⟩
theorem Z7f {x:V} {y:Value} (h:x.isAgg=false):x.val [y]=y:=by unfold V.val;rw [h];rfl
theorem Z7o {u2:Nat} {ty' ty2':TypeId} {s':T} {m':List (List s'.den)} {hv:Nat} {y:Operand} {st:Nat} (hq:RV v γ l (.own u2) (a.eval y)) (he:lkE l u2=some ⟨u2,st,.mat ty' ty2' s' m' hv⟩) {ob:Option Nat} {cap:Nat} {rows:List (Option Nat×Nat)} (q1:γ u2 = .mat ob cap rows):a.eval y = .slice (mkA ob) m'.length cap:=by
 obtain ⟨yq,hyq0,_,hyq⟩:=Zja hq (fun _ e=>by cases e) rfl rfl;obtain ⟨oq,cq,rq,gq1,gq2⟩:=hyq _ he;rw [q1] at gq1;cases gq1;exact ((List.cons.inj hyq0).1).trans gq2
theorem ZUq (hr:RelX N G w0 v0 U X f l a w γ v ℓ) (hU:∀ k,U k→X k) (hX:X n) (hn:¬ U n) {d:Option Nat} {t:TypeId} {x y:Operand} {o:Oper} {q:V} {pu:Option Nat} {ei:EI} {Post:Unit→Fr→Lo→Prop} (hE:Elem P t ei.e ei.sz ei.by_ ei.z) (hby:0<ei.by_) (ho:o=⟨d,.call ⟨.builtin .append,#[x,y],#[t,t]⟩,ty,pos,aft,g⟩) (hd:∀ k,o.dst=some k→k<N)
  (hp0:pu=none→a.eval x = .slice none 0 0) (hp1:∀ u,pu=some u→RV v γ l (.own u) (a.eval x)) (hq:RV v γ l q (a.eval y)) (h:Zr n (appM o n ei pu q) f l Post):ZGa P N G w0 v0 X o a w Post:=by
 unfold appM at h;split at h
 ·rename_i u2;obtain ⟨⟨k2,st2,L2⟩,he2,h⟩:=h;have hkk2:k2=u2:=(ZD he2).2;subst hkk2
  cases L2 with
  | mat ty' ty2' s' m' hv' =>
   simp only at h;obtain ⟨es,E',h1,h2,h2',h3,r2⟩:=hr.del he2;obtain ⟨ob2,cap2,rows2,es3,q1,q2,rfl⟩:=h1;have q1:γ k2 = .mat ob2 cap2 rows2:=q1;have hy0:=Z7o hq he2 q1;have hl2:=Zmd (ZFf q2);have hs:=hr.st.perm h3
   cases pu with
   | none =>
    simp only at h;split at h
    ·rename_i b1 b2;have b1:=Nat.eq_of_beq_eq_true b1;have b2:=Nat.eq_of_beq_eq_true b2;obtain ⟨_,hroom,h⟩:=h;obtain ⟨v',hv,hs1,hrel⟩:=hs.pubSlice (i:=0) (A:=Zxd) (l:=Zw rows2 m') rfl rfl hl2.symm (Z7m ZFl) rfl;have hs1:St N w0 v0 [] (es3++E'.flatten) v' a w:=hs1;obtain ⟨σ,hσ,e1,e2⟩:=(hs1.nilLoc ei.e 1).ev2 x y;have hE':Elem P t ei.e Zxd.n ei.by_ ei.z:=by rw [show Zxd.n=ei.sz from b2.symm];exact hE
     obtain ⟨b',cap',cs2,w',hrun,hst',hrel2⟩:=ZSf (ty:=ty) (A:=Zxd) hE' hσ (i:=0) rfl hrel (n':=([]++m').length) (by simp) (Zxe hroom) hby;have hcs:=Zfm hrel2;subst hcs;rw [hp0 rfl] at e1;rw [hy0] at e2;have r3:=r2.go hv (hs1.drop (List.sublist_append_right _ _));obtain ⟨E3,hE3,hp3⟩:=r3.lr;have hst':=hst'.bare;have hst3:St N w0 v0 [] (.own b' ty' 1 ([]++m').length cap' (Zw rows2 ([]++m')) :: es3++E3.flatten) v' a w':=by
      rw [← b1];exact hst'.perm (by simp only [List.set_cons_zero,List.cons_append];exact List.Perm.cons _ (List.Perm.append_left _ hp3))
     subst ho;exact ZVi r3 hU hX hn hd hE3 rfl (Zhe hv q2) hst3 (Zve hσ e1 e2 hrun) h
    ·exact h.elim
   | some u =>
    simp only at h;split at h
    ·exact h.elim
    ·rename_i hne;have hne:u≠k2:=fun e=>by subst e;simp at hne
     obtain ⟨⟨k1,st1,L1⟩,he1,h⟩:=h;have hkk1:k1=u:=(ZD he1).2;subst hkk1
     cases L1 with
     | mat ty1 ty2 s m hv =>
      simp only at h;split at h
      ·rename_i m2 hm2 b1 b2 b3 b4;have b1:=Nat.eq_of_beq_eq_true b1;have b2:=Nat.eq_of_beq_eq_true b2;have b3:=Nat.eq_of_beq_eq_true b3;have b4:=Nat.eq_of_beq_eq_true b4;obtain ⟨c3,c4⟩:=Zpa hm2
       cases c3;cases c4
       subst b1 b2;obtain ⟨_,hroom,h⟩:=h;have he1':lkE (era l k2) k1=some ⟨k1,st1,.mat ty1 ty2 _ m hv⟩:=by
        rw [Z2b hr.nd,if_neg (fun e=>hne e.symm)];exact he1
       obtain ⟨es1,E1,g1,g2,g2',g3,r3⟩:=r2.del he1';obtain ⟨ob1,cap1,rows1,es4,p1,p2,rfl⟩:=g1;have p1:γ k1 = .mat ob1 cap1 rows1:=p1;have hx0:=Z7o (hp1 k1 rfl) he1 p1;have hl1:=ZFf p2;have hs:St N w0 v0 [] (.own ob2 ty1 1 m'.length cap2 (Zw rows2 m') :: (.own ob1 ty1 1 m.length cap1 (Zw rows1 m) :: (es4++es3++E1.flatten))) v a w:=by
        refine hs.perm ?_;simp only [List.cons_append];refine List.Perm.cons _ ((List.Perm.append_left _ g3).trans ?_);simp only [List.cons_append];refine List.perm_middle.trans (List.Perm.cons _ ?_);rw [← List.append_assoc];exact List.Perm.append_right _ List.perm_append_comm
       obtain ⟨v',hv,hs1,hrel⟩:=hs.pubSlice (i:=0) (A:=Zxd) (l:=Zw rows2 m') rfl rfl hl2.symm (Z7m ZFl) rfl;have hs1:St N w0 v0 [] (.own ob1 ty1 1 m.length cap1 (Zw rows1 m) :: (es4++es3++E1.flatten)) v' a w:=hs1;obtain ⟨σ,hσ,e1,e2⟩:=hs1.ev2 x y;have hE':Elem P t ty1 Zxd.n ei.by_ ei.z:=by rw [show Zxd.n=ei.sz from b4.symm,← b3];exact hE
       obtain ⟨b',cap',cs2,w',hrun,hst',hrel2⟩:=ZSf (ty:=ty) (A:=Zxd) hE' hσ (i:=0) rfl hrel (n':=(m++m').length) (by simp) (Zxe hroom) hby;have hcs:=Zfm hrel2;subst hcs;rw [hx0] at e1;rw [hy0] at e2;have r4:=r3.go hv (hs1.drop ((List.sublist_append_right _ _).trans (List.sublist_cons_self _ _)));obtain ⟨E3,hE3,hp3⟩:=r4.lr;have hst':=hst'.bare;have hst3:St N w0 v0 [] (.own b' ty1 1 (m++m').length cap' (Zw (rows1++rows2) (m++m')) :: (es4++es3)++E3.flatten) v' a w':=by
        rw [Z2o hl1];exact hst'.perm (by simp only [List.set_cons_zero,List.cons_append];exact List.Perm.cons _ (List.Perm.append_left _ hp3))
       subst ho;exact ZVi r4 hU hX hn hd hE3 rfl (ZKp (Zhe hv p2) (Zhe hv q2)) hst3 (Zve hσ e1 e2 hrun) h
      ·exact h.elim
     | box _ _=>exact h.elim
     | own _ _ _ _=>exact h.elim
     | mid _ _ _ _ _ _=>exact h.elim
  | box _ _=>exact h.elim
  | own _ _ _ _=>exact h.elim
  | mid _ _ _ _ _ _=>exact h.elim
 ·exact h.elim
theorem Z1t (hr:RelX N G w0 v0 U X f l a w γ v ℓ) (hU:∀ k,U k→X k) (hX:X n) (hn:¬ U n) {d:Option Nat} {t:TypeId} {x:Operand} {o:Oper} {p:V} {Post:Unit→Fr→Lo→Prop} (ho:o=⟨d,.load t x,ty,pos,aft,g⟩) (hd:∀ k,o.dst=some k→k<N) (hp:RV v γ l p (a.eval x))
  (h:Zr n (takeE P o n t p) f l Post):ZGa P N G w0 v0 X o a w Post:=by
 unfold takeE at h;split at h
 ·exact h.elim
 ·rename_i q hq;split at h
  ·rename_i u i hv cv e r hag;obtain ⟨⟨kk,st,L⟩,he,h⟩:=h;have hkk:kk=u:=(ZD he).2;subst hkk;obtain ⟨y,hy0,_,hy⟩:=Zja hp (fun _ e=>by cases e) rfl rfl;have hy0:a.eval x=y:=(List.cons.inj hy0).1;have hy:=hy _ he
   cases L with
   | mat ty0 ty2 s' m hv' =>
    simp only at h;split at h
    ·rename_i z b1 b2 hz;have b1:=Nat.eq_of_beq_eq_true b1;have b2:=Nat.eq_of_beq_eq_true b2;subst b1 b2;obtain ⟨c3,c4⟩:=Zpa hz
     cases c3;cases c4
     obtain ⟨b,cap,rows,g1,rfl,g3,g4⟩:=hy;obtain ⟨m',c1,c2⟩:=g4 rfl;obtain ⟨c5,c6⟩:=Zpa c1
     cases c5;cases c6
     obtain ⟨hkk,es,hes,hmem⟩:=hr.loc he;obtain ⟨ob,cap',rows',es2,q1,q2,rfl⟩:=hes;have q1:γ kk = .mat ob cap' rows':=q1;rw [g1] at q1;cases q1;obtain ⟨p,cs,r1,r2,r3⟩:=Zpf q2 c2;obtain ⟨j,hj⟩:=hmem _ List.mem_cons_self;have hh:=ZAh r1 c2;have hw:WAt w b (0+i*1) [.slice (mkA p.1) r.length p.2]:=by
      have hx:((Zw rows m).drop (i*1)).take 1=[.slice (mkA p.1) r.length p.2]:=by
       have hlt:=(List.getElem?_eq_some_iff.1 hh).1;rw [Nat.mul_one,List.drop_eq_getElem_cons hlt];simp [(List.getElem?_eq_some_iff.1 hh).2]
      have:=Z2c hr.st hj hx g3 0 [.slice (mkA p.1) r.length p.2] rfl (by simp)
      simpa using this
     obtain ⟨cs2,ℓ2,E2,k1,r4,k2,k3,hst⟩:=hr.take hX hn he g1 r1 c2;obtain ⟨σ,hs',e1⟩:=hr.st.ev1 x;rw [hy0] at e1;have ht:=Zxf hq;rw [hag] at ht;subst ho;exact Zgh r4 hU hX hn hd k2 k3 hst k1 (Zoa hs' e1 ht hw) h
    ·exact h.elim
   | box _ _=>exact h.elim
   | own _ _ _ _=>exact h.elim
   | mid _ _ _ _ _ _=>exact h.elim
  ·exact h.elim
theorem appE_ok {C:Cf} (hr:RelX N G w0 v0 U X f l a w γ v ℓ) (hU:∀ k,U k→X k) (hX:X n) (hn:¬ U n) {d:Option Nat} {t:TypeId} {x y:Operand} {o:Oper} {p q:V} {Post:Unit→Fr→Lo→Prop} (ho:o=⟨d,.call ⟨.builtin .append,#[x,y],#[t,t]⟩,ty,pos,aft,g⟩) (hd:∀ k,o.dst=some k→k<N) (hp:RV v γ l p (a.eval x)) (hq:RV v γ l q (a.eval y)) (hk:p.ok U) (hkq:q.ok U)
  (h:Zr n (appE C o n t p q) f l Post):ZGa C.P N G w0 v0 X o a w Post:=by
 unfold appE at h;split at h
 ·exact h.elim
 ·rename_i ei hei;obtain ⟨hE,hby⟩:=ZYm hei;split at h
  ·rename_i u;obtain ⟨en,he,h⟩:=h;obtain ⟨k0,st0,L⟩:=en
   cases L with
   | own ty0 s xs0 fz0 =>
    obtain ⟨ys,l1,γ1,v1,ℓ1,hB,r1,le1,q1⟩:=ZLd hn hX FU h hr hkq;obtain ⟨en,he1,hC⟩:=hB;have hp1:=ZDb le1 hk hp;obtain ⟨yy,hy0,_,hy⟩:=Zja hp1 (fun _ e=>by cases e) rfl rfl;have hy0:a.eval x=yy:=(List.cons.inj hy0).1;have hy:=hy en he1;obtain ⟨kk,st,L⟩:=en;obtain ⟨hm,hkk⟩:=ZD he1;have hkk:kk=u:=hkk;subst hkk
    cases L with
    | own ty1 s' xs fz =>
     cases fz with
     | true=>exact hC.elim
     | false =>
      simp only at hC;split at hC
      ·rename_i ys' hys ht hs;obtain ⟨c3,c4⟩:=Zpa hys
       cases c3;cases c4
       have ht:=Nat.eq_of_beq_eq_true ht;have hs:=Nat.eq_of_beq_eq_true hs;obtain ⟨_,hroom,hC⟩:=hC;obtain ⟨ob,cap,g1,rfl⟩:=hy;obtain ⟨es,E',h1,_,h2,h3,r2⟩:=r1.del he1;obtain ⟨ob',cap',cs,f1,f2,rfl⟩:=h1;have f1:γ1 kk = .own ob' cap':=f1;rw [g1] at f1;cases f1;have hst:=r1.st.perm h3;obtain ⟨σ,hσ,e1,e2⟩:=hst.ev2 x y;obtain ⟨hq1,hq2⟩:=Zim h;obtain ⟨csq,hcq,hqe⟩:=ZCb hq hq2;have hcq':(Zz s.rep).rel v1 csq ys:=q1 _ hcq;obtain ⟨qa,m,c,rfl⟩:=ZZf hcq';rw [Z7f hq1] at hqe;have hml:m=ys.length:=by obtain ⟨_,_,e,_⟩:=hcq';cases e;rfl
       have hE':Elem C.P t ty1 s.rep.n ei.by_ ei.z:=by rw [ZU,← hs,← ht];exact hE
       have hσ':St N w0 v0 σ (.own ob ty1 s.rep.n xs.length cap cs :: E'.flatten) v1 a w:=by rw [ZU];exact hσ
       obtain ⟨b',cap',cs2,w',hrun,hst',hrel⟩:=ZSf (ty:=ty) (A:=s.rep) hE' hσ' (i:=0) rfl hcq' (n':=(xs++(show List s.den from ys)).length) (by rw [List.length_append,hml]) (Zxe hroom) hby;rw [hy0] at e1;rw [hqe] at e2;have hst':=hst'.bare;rw [ZU] at hst';subst ho;exact Zgh r2 hU hX hn hd h2 rfl hst' (ZDc f2 hrel) (Zve hσ e1 e2 hrun) hC
      ·exact hC.elim
    | box _ _=>exact hC.elim
    | mid _ _ _ _ _ _=>exact hC.elim
    | mat _ _ _ _ _=>exact hC.elim
   | box _ _=>exact h.elim
   | mid _ _ _ _ _ _=>exact h.elim
   | mat _ _ _ _ _=>exact ZUq hr hU hX hn hE hby ho hd (fun e=>by cases e) (fun u' e=>by cases e;exact hp) hq h
  · -- a row
   rename_i u i hv cv s r;obtain ⟨ys,l1,γ1,v1,ℓ1,hB,r1,le1,q1⟩:=ZLd hn hX FU h hr hkq;obtain ⟨⟨kk,st,L⟩,he1,hC⟩:=hB;have hkk:kk=u:=(ZD he1).2;subst hkk;have hp1:=ZDb le1 hk hp;obtain ⟨yy,hy0,_,hy⟩:=Zja hp1 (fun _ e=>by cases e) rfl rfl;have hy0:a.eval x=yy:=(List.cons.inj hy0).1;have hy:=hy _ he1
   cases L with
   | mat ty1 ty2 s' m hv' =>
    simp only at hC;split at hC
    ·rename_i z b1 b2 hz b3 b4;have b1:=Nat.eq_of_beq_eq_true b1;have b2:=Nat.eq_of_beq_eq_true b2;have b3:=Nat.eq_of_beq_eq_true b3;have b4:=Nat.eq_of_beq_eq_true b4;subst b1 b2;obtain ⟨c3,c4⟩:=Zpa hz
     cases c3;cases c4
     obtain ⟨_,hroom,hC⟩:=hC;obtain ⟨ob,cap,rows,obi,capi,g1,g2,rfl,_,g6⟩:=hy rfl;obtain ⟨m',c1,c2⟩:=g6 rfl;obtain ⟨c5,c6⟩:=Zpa c1
     cases c5;cases c6
     obtain ⟨cs,ℓ2,E2,k1,r2,k2,k3,hst⟩:=r1.take hX hn he1 g1 g2 c2;obtain ⟨σ,hσ,e1,e2⟩:=hst.ev2 x y;obtain ⟨hq1,hq2⟩:=Zim h;obtain ⟨csq,hcq,hqe⟩:=ZCb hq hq2;have hcq':(Zz s.rep).rel v1 csq ys:=q1 _ hcq;obtain ⟨qa,mm,c,rfl⟩:=ZZf hcq';rw [Z7f hq1] at hqe;have hml:mm=ys.length:=by obtain ⟨_,_,e,_⟩:=hcq';cases e;rfl
     have hE':Elem C.P t ty2 s.rep.n ei.by_ ei.z:=by rw [ZU,← b4,← b3];exact hE
     have hσ':St N w0 v0 σ (.own obi ty2 s.rep.n r.length capi cs :: ℓ2) v1 a w:=by rw [ZU];exact hσ
     obtain ⟨b',cap',cs2,w',hrun,hst',hrel⟩:=ZSf (ty:=ty) (A:=s.rep) hE' hσ' (i:=0) rfl hcq' (n':=(r++(show List s.den from ys)).length) (by rw [List.length_append,hml]) (Zxe hroom) hby;rw [hy0] at e1;rw [hqe] at e2;have hst':=hst'.bare;rw [ZU] at hst';subst ho;exact Zgh r2 hU hX hn hd k2 k3 hst' (ZDc k1 hrel) (Zve hσ e1 e2 hrun) hC
    ·exact hC.elim
   | box _ _=>exact hC.elim
   | own _ _ _ _=>exact hC.elim
   | mid _ _ _ _ _ _=>exact hC.elim
  ·split at h
   ·refine ZUq hr hU hX hn hE hby ho hd (fun _=>?_) (fun u' e=>by cases e) hq h;obtain ⟨cs,h1,h2⟩:=hp;have h1:cs=[.slice none 0 0]:=h1;subst h1;exact h2
   split at h
   ·rename_i s hs;split at h
    ·rename_i hsz;have hsz:=Nat.eq_of_beq_eq_true hsz;obtain ⟨ys,l1,γ1,v1,ℓ1,hB,r1,le1,q1⟩:=ZLd hn hX FU h hr hkq;obtain ⟨_,hroom,hC⟩:=hB;obtain ⟨E',h2,h3⟩:=r1.lr;have hx0:a.eval x = .slice none 0 0:=by
      obtain ⟨cs,h1,h2⟩:=hp;have h1:cs=[.slice none 0 0]:=h1;subst h1;exact h2
     have hst:=(r1.st.perm h3).nilLoc ei.e s.rep.n;obtain ⟨σ,hσ,e1,e2⟩:=hst.ev2 x y;obtain ⟨hq1,hq2⟩:=Zim h;obtain ⟨csq,hcq,hqe⟩:=ZCb hq hq2;have hcq':(Zz s.rep).rel v1 csq ys:=q1 _ hcq;obtain ⟨qa,m,c,rfl⟩:=ZZf hcq';rw [Z7f hq1] at hqe;have hml:m=ys.length:=by obtain ⟨_,_,e,_⟩:=hcq';cases e;rfl
     have hE':Elem C.P t ei.e s.rep.n ei.by_ ei.z:=by rw [ZU,← hsz];exact hE
     obtain ⟨b',cap',cs2,w',hrun,hst',hrel⟩:=ZSf (ty:=ty) (A:=s.rep) hE' hσ (i:=0) rfl hcq' (n':=(([]:List s.den)++(show List s.den from ys)).length) (by rw [List.length_append,hml];rfl) (Zxe hroom) hby;rw [hx0] at e1;rw [hqe] at e2;have hst':=hst'.bare;rw [ZU] at hst';subst ho;exact Zgh r1 hU hX hn hd h2 rfl hst' (ZDc ZXd hrel) (Zve hσ e1 e2 hrun) hC
    ·exact h.elim
   ·exact h.elim
  ·exact h.elim
end
end Go.Eng
namespace Go.Eng
open Go.RowKit
variable {P:Program} {K:Nat} {w0:Base} {v0:Zb} {σ:List (Nat×Value)} {ℓ:List Loc} {v:Zb} {a:Act} {w:World}
variable {d:Option Nat} {ty:TypeId} {pos:String} {aft:Array Edge} {g:Option (Nat×Bool)}
theorem Zjo (k:IntKind) (p q:Int):(Builtin.max2 (.int k p) (.int k q)).run P w = .ok (.int k (max p q)) w:=by
 simp only [Builtin.max2,Sem.run_pure];congr 2;by_cases h:q>p
 ·rw [if_pos h];omega
 ·rw [if_neg h];omega
theorem min2_eq (k:IntKind) (p q:Int):(Builtin.min2 (.int k p) (.int k q)).run P w = .ok (.int k (min p q)) w:=by
 simp only [Builtin.min2,Sem.run_pure];congr 2;by_cases h:q<p
 ·rw [if_pos h];omega
 ·rw [if_neg h];omega
theorem run_max (hS:St K w0 v0 σ ℓ v a w) {x y:Operand} {k:IntKind} {p q:Int} {ats:Array TypeId} (e:ev σ x=some (.int k p)) (e':ev σ y=some (.int k q)) :
  (execOp a.eval ⟨d,.call ⟨.builtin .max,#[x,y],ats⟩,ty,pos,aft,g⟩).run P w = .ok (.value (.int k (max p q))) w:=by
 simp [execOp,resolve,invoke,builtin,Builtin.max_,hS.eval e,hS.eval e',Zjo]
theorem run_min (hS:St K w0 v0 σ ℓ v a w) {x y:Operand} {k:IntKind} {p q:Int} {ats:Array TypeId} (e:ev σ x=some (.int k p)) (e':ev σ y=some (.int k q)) :
  (execOp a.eval ⟨d,.call ⟨.builtin .min,#[x,y],ats⟩,ty,pos,aft,g⟩).run P w = .ok (.value (.int k (min p q))) w:=by
 simp [execOp,resolve,invoke,builtin,Builtin.min_,hS.eval e,hS.eval e',min2_eq]
theorem Z2v (hS:St K w0 v0 σ ℓ v a w) {x y z:Operand} {k:IntKind} {p q r:Int} {ats:Array TypeId} (e:ev σ x=some (.int k p)) (e':ev σ y=some (.int k q)) (e2:ev σ z=some (.int k r)) :
  (execOp a.eval ⟨d,.call ⟨.builtin .max,#[x,y,z],ats⟩,ty,pos,aft,g⟩).run P w = .ok (.value (.int k (max (max p q) r))) w:=by
 simp [execOp,resolve,invoke,builtin,Builtin.max_,hS.eval e,hS.eval e',hS.eval e2,Zjo]
end Go.Eng
namespace Go.Eng
open Go.RowKit
section
variable {Q:Exit→Act→World→Prop} {a:Act} {w:World}
end
end Go.Eng
namespace Go.Eng
open Go.RowKit
end Go.Eng
namespace Go.Eng
open Go.RowKit
theorem Z6w (off:Nat):∀ (l:List Value) (k:Nat) (acc:Array Value),off+k+l.length≤acc.size→(l.zipIdx k).foldl (fun cs (c,j)=>cs.setIfInBounds (off+j) c) acc=(acc.toList.take (off+k)++l++acc.toList.drop (off+k+l.length)).toArray:=by
 intro l
 induction l with
 | nil=>intro k acc h;simp
 | cons y l ih =>
  intro k acc h;simp only [List.zipIdx_cons,List.foldl_cons];rw [ih (k+1) _ (by simp at h ⊢;omega)];congr 1;simp only [Array.toList_setIfInBounds];simp only [List.length_cons] at h;have hlt:off+k<acc.toList.length:=by simp;omega
  rw [List.take_set,List.drop_set_of_lt (by omega)];rw [List.set_eq_take_append_cons_drop,if_pos (by simp;simp at hlt;omega)];rw [List.take_take,Nat.min_eq_left (by omega)];have e1:((acc.toList.take (off+(k+1))).drop (off+k+1))=[]:=List.drop_of_length_le (by simp;omega);rw [e1];simp;congr 1;omega
theorem Zsn {place:Nat→Option (Nat×Nat)} {cells:Array Value} {i:Nat} {x:Value} {cs:List Value} {rest:List (Nat×Value)} {off:Nat} (hp:place i=some (off,cs.length)) (hx:x.cells=cs.toArray) (hc:off+cs.length≤cells.size) :
  Instr.fill place cells ((i,x) :: rest)=Instr.fill place (cells.toList.take off++cs++cells.toList.drop (off+cs.length)).toArray rest:=by
 have h1:¬ (x.cells.size≠cs.length || decide (off+x.cells.size>cells.size)):=by simp [hx,hc]
 conv=>lhs;unfold Instr.fill
 simp only [hp];rw [if_neg h1,hx];have:=Z6w off cs 0 cells (by omega);rw [← Array.foldl_toList];congr 1
 simpa using this
section
variable {P:Program} {N:Nat} {G:V→Value→Prop} {w0:Base} {v0:Zb} {U X:Nat→Prop} {f:Fr} {l:Lo} {a:Act} {w:World} {γ:Nat→Gh} {v:Zb} {ℓ:List Loc} {n:Nat}
variable {ty:TypeId} {pos:String} {aft:Array Edge} {g:Option (Nat×Bool)}
theorem Z2f {ρ:Type} (hr:RelX N G w0 v0 U X f l a w γ v ℓ):∀ {xs:List Operand} {k:V→Ev ρ} {Post:ρ→Fr→Lo→Prop},Zr n (Zde xs k) f l Post→∃ c,RR v γ l true c (xs.map a.eval)∧c.ok U∧Zr n (k c) f l Post
 | [],k,Post,h=>⟨.nl,rfl,trivial,h⟩
 | x :: xs,k,Post,h=>by
  obtain ⟨V',h1,h2,h3⟩:=ZR hr h
  have hnt:∀ c,V' ≠ .tup c:=fun c e=>by subst e;exact h3.elim
  have h3':Zr n (Zde xs fun c=>k (.cons V' c)) f l Post:=by
   cases V' <;> first | exact h3 | exact h3.elim
  obtain ⟨c,k1,k2,k3⟩:=Z2f hr h3';obtain ⟨cs,q1,q2⟩:=ZCb h1 hnt;exact ⟨.cons V' c,⟨cs,_,by rw [List.map_cons,q2],q1,k1⟩,⟨h2,k2⟩,k3⟩
theorem Z1w {ρ:Type} {g:Nat} {t:T} {x:V} {k:t.den→Ev ρ} {Post:ρ→Fr→Lo→Prop} (h:Zr n (conv g t x k) f l Post):x.isAgg=true∨x.isAgg=false∧x.size=1:=by
 cases x with
 | data s x =>
  cases ha:s.agg with
  | true=>exact .inl ha
  | false=>exact .inr ⟨ha,T_one ha⟩
 | nilS=>exact .inr ⟨rfl,rfl⟩
 | own u=>exact .inr ⟨rfl,rfl⟩
 | agg c=>exact .inl rfl
 | _ =>
  cases g with
  | zero=>exact h.elim
  | succ g=>simp only [conv] at h;exact h.elim
theorem Z4w {x:V} {cs:List Value} (hf:x.isAgg=true∨x.isAgg=false∧x.size=1) (h:RR v γ l false x cs) (hp:cs.all plain=true):(x.val cs).cells=cs.toArray:=by
 rcases hf with ha | ⟨ha,hs⟩
 ·unfold V.val;rw [ha];rfl
 ·have e:=ZJg h hs ha;have hv:x.val cs=cs.headD undef:=by unfold V.val;rw [ha]
  rw [hv] at e ⊢;rw [e] at hp;have hp':plain (cs.headD undef)=true:=by simpa using hp
  have:=ZEb hp'
  conv=>rhs;rw [e]
  exact this
theorem Zjw {ρ:Type} {t:T} (hn:¬ U n) (hX:X n):∀ {c:V} {k:List t.den→Ev ρ} {l:Lo} {γ:Nat→Gh} {v:Zb} {ℓ:List Loc} {Post:ρ→Fr→Lo→Prop},Zr n (convS t c k) f l Post→RelX N G w0 v0 U X f l a w γ v ℓ→c.ok U →
  ∃ xs l' γ' v' ℓ',Zr n (k xs) f l' Post∧RelX N G w0 v0 U X f l' a w γ' v' ℓ'∧Le U v γ l v' γ' l'∧∀ vals,RR v γ l true c vals→∃ css:List (List Value),t.rep.rels v' css.flatten xs∧css.length=xs.length∧vals.map Value.cells=css.map List.toArray∧∀ cs ∈ css,cs.length=t.n:=by
 intro c
 induction c with
 | nl =>
  intro k l γ v ℓ Post h hr hk;obtain ⟨E,hE,_⟩:=hr.lr;exact ⟨[],l,γ,v,ℓ,h,hr,Le.refl hE (Zb.le_refl _),fun vals hv=>⟨[],rfl,rfl,by rw [show vals=[] from hv];rfl,fun _ h=>by cases h⟩⟩
 | cons x c _ ih =>
  intro k l γ v ℓ Post h hr hk;have hfit:=Z1w (n:=n) (f:=f) (l:=l) (g:=FU) (t:=t) (x:=x) h;obtain ⟨y,l1,γ1,v1,ℓ1,h,r1,le1,q1⟩:=ZLd hn hX FU h hr hk.1;obtain ⟨ys,l2,γ2,v2,ℓ2,h,r2,le2,q2⟩:=ih h r1 hk.2;refine ⟨y :: ys,l2,γ2,v2,ℓ2,h,r2,le1.trans le2,fun vals hv=>?_⟩;obtain ⟨cs,vs,rfl,h1,h2⟩:=hv;have hrel:=q1 cs h1;obtain ⟨css,k1,k2,k3,k4⟩:=q2 vs (Zsb le1 hk.2 h2);refine ⟨cs :: css,⟨cs,css.flatten,rfl,Rep.mono _ le2.v hrel,k1⟩,by simp [k2],?_,fun c hc=>?_⟩
  ·rw [List.map_cons,List.map_cons,k3,Z4w hfit h1 (Rep.flat _ hrel)]
  ·rcases List.mem_cons.1 hc with rfl | hc
   ·rw [Rep.len _ hrel,ZU]
   ·exact k4 c hc
 | _=>intro k l γ v ℓ Post h;exact h.elim
theorem Zon {sz:Nat}:∀ (css:List (List Value)) (vals:List Value) (k:Nat) (cells:Array Value),vals.map Value.cells=css.map List.toArray→(∀ cs ∈ css,cs.length=sz)→cells.size=(k+css.length)*sz →
  Instr.fill (fun i=>some (i*sz,sz)) cells (vals.zipIdx k |>.map fun p=>(p.2,p.1))=some (cells.toList.take (k*sz)++css.flatten).toArray
 | [],[],k,cells,_,_,hc=>by
  simp only [List.length_nil,Nat.add_zero] at hc
  simp only [List.zipIdx_nil,List.map_nil,Instr.fill,List.flatten_nil,List.append_nil]
  rw [List.take_of_length_le (by simp [hc])]
 | cs :: css,x :: vals,k,cells,h,hs,hc=>by
  simp only [List.map_cons,List.cons.injEq] at h
  have hl:=hs cs (by simp)
  simp only [List.length_cons] at hc
  have hb:k*sz+sz+css.length*sz=cells.size:=by rw [hc,Nat.add_mul,Nat.succ_mul];omega
  simp only [List.zipIdx_cons,List.map_cons]
  rw [Zsn (cs:=cs) (off:=k*sz) (by rw [hl]) h.1 (by omega)]
  rw [Zon css vals (k+1) _ h.2 (fun c hc=>hs c (by simp [hc])) (by
   simp only [List.size_toArray,List.length_append,List.length_take,List.length_drop,Array.length_toList]
   rw [hl,Nat.min_eq_left (by omega),Nat.add_mul,Nat.succ_mul];omega)]
  congr 2
  have e1:(cells.toList.take (k*sz)).length=k*sz:=by simp;omega
  rw [List.flatten_cons,← List.append_assoc,Nat.succ_mul]
  congr 1
  rw [List.take_append,List.take_of_length_le (by simp [hl];omega)]
  rw [show k*sz+sz-(cells.toList.take (k*sz)++cs).length=0 by rw [List.length_append,e1,hl];omega]
  simp
 | [],_ :: _,_,_,h,_,_=>by simp at h
 | _ :: _,[],_,_,h,_,_=>by simp at h
theorem Ztp:∀ {ps:List (Nat×Operand)} {k:Nat},Zej k ps=true→ps.map (fun p=>(p.1,a.eval p.2))=((ps.map fun p=>a.eval p.2).zipIdx k).map fun p=>(p.2,p.1)
 | [],_,_=>rfl
 | p :: ps,k,h=>by
  simp only [Zej] at h
  split at h
  ·rename_i hb
   have hb:=Nat.eq_of_beq_eq_true hb
   simp only [List.map_cons,List.zipIdx_cons]
   rw [Ztp h,hb]
  ·cases h
theorem ZEm {t e:TypeId} {m sz:Nat} {inf:TypeInfo} {z:Value} {L:List (Nat×Value)} {cs:List Value} (ht:P.underlying t=some (.slice e)) (hi:P.info? e=some inf) (hz:inf.zero=some z) (hs:inf.size=sz) (hb:m*sz≤16777216)
  (hf:∀ zc:Array Value,Instr.fill (fun i=>some (i*sz,sz)) ((Array.range (m*sz)).map (fun i=>zc[i%zc.size]!)) L=some cs.toArray) (w:World):(Instr.buildSlice t m L.toArray).run P w = .ok (.slice (some ⟨w.heap.size,0,none⟩) m m) (w.alloc (.cells cs.toArray e)):=by
 subst hs;have hb:¬ (m*inf.size>2^24):=by omega
 unfold Instr.buildSlice;by_cases h0:m*inf.size=0
 ·have:=hf #[];simp only [h0] at this;simp [run_underlying ht,sizeOf,typeInfo,hi,h0] ; simp at this;simp [this,newRow]
 ·have:=hf z.cells;obtain ⟨A,hA⟩:∃ A,A=(Array.range (m*inf.size)).map (fun i=>z.cells[i%z.cells.size]!):=⟨_,rfl⟩;rw [← hA] at this;simp only [run_underlying ht,sizeOf,typeInfo,zeroValue];simp [run_underlying ht,typeInfo,hi,hz,h0,show ¬ (16777216<m*inf.size) by omega];rw [← hA,this];simp [newRow]
theorem Z8v {C:Cf} (hr:RelX N G w0 v0 U X f l a w γ v ℓ) (hU:∀ k,U k→X k) (hX:X n) (hn:¬ U n) {d:Option Nat} {t:TypeId} {m:Nat} {ps:Array (Nat×Operand)} {o:Oper} {Post:Unit→Fr→Lo→Prop} (ho:o=⟨d,.buildSlice t m ps,ty,pos,aft,g⟩) (hd:∀ k,o.dst=some k→k<N)
  (h:Zr n (Z6 C n o) f l Post):ZGa C.P N G w0 v0 X o a w Post:=by
 subst ho;simp only [Z6] at h;split at h
 ·rename_i q hq;obtain ⟨hE,hby⟩:=ZYm hq;split at h
  ·split at h
   ·rename_i x hps hps2;have hps:=hps;obtain ⟨V1,h1,hk1,h⟩:=ZR hr h;split at h
    ·rename_i u2 q2 _ hq2 _;obtain ⟨⟨k2,st2,L2⟩,he2,h⟩:=h;have hkk2:k2=u2:=(ZD he2).2;subst hkk2
     cases L2 with
     | own ty2 s xs fz =>
      cases fz with
      | true=>exact h.elim
      | false =>
       simp only at h;split at h
       ·rename_i b1 b2 b3;have b3:=Nat.eq_of_beq_eq_true b3;obtain ⟨es,E',g1,g2,g2',g3,r2⟩:=hr.del he2;obtain ⟨ob2,cap2,cs2,f1,f2,rfl⟩:=g1;have f1:γ k2 = .own ob2 cap2:=f1;have hy0:a.eval x = .slice (mkA ob2) xs.length cap2:=by
         obtain ⟨yq,hyq0,_,hyq⟩:=Zja h1 (fun _ e=>by cases e) rfl rfl;obtain ⟨oq,cq,gq1,gq2⟩:=hyq _ he2;rw [f1] at gq1;cases gq1;exact ((List.cons.inj hyq0).1).trans gq2
        have hcells:(Value.slice (mkA ob2) xs.length cap2).cells=[Value.slice (mkA ob2) xs.length cap2].toArray:=by cases ob2 <;> rfl
        have hz:∀ w,(Instr.buildSlice t 1 (ps.toList.map fun p=>(p.1,a.eval p.2)).toArray).run C.P w = .ok (.slice (some ⟨w.heap.size,0,none⟩) 1 1) (w.alloc (.cells [Value.slice (mkA ob2) xs.length cap2].toArray q.e)):=by
         intro w;obtain ⟨inf,hinf,hzz,hsz',hby'⟩:=info_parts hE.info;rw [hps,List.map_singleton];simp only [hy0];refine ZEm (sz:=1) hE.ty hinf hzz (hsz'.trans b3) (by decide) (fun zc=>?_) w;have:=Zon (sz:=1) [[Value.slice (mkA ob2) xs.length cap2]] [Value.slice (mkA ob2) xs.length cap2] 0 ((Array.range (1*1)).map (fun i=>zc[i%zc.size]!)) (by simp [hcells]) (fun cs hc=>by rw [List.mem_singleton.1 hc];rfl) (by simp)
         simpa using this
        have hst:=hr.st.perm g3;obtain ⟨σ,hσ,hev⟩:=hst.evs (ps.toList.map (·.2));obtain ⟨b,w',hrun,hst'⟩:=ZRf (P:=C.P) (t:=t) (e:=q.e) (sz:=1) hσ (by simp) (by decide) hz;have hev':ps.toList.map (fun p=>(ev σ p.2).map fun y=>(p.1,y))=(ps.toList.map fun p=>(p.1,a.eval p.2)).map some:=by
         rw [List.map_map];refine List.map_congr_left fun p hp=>?_;rw [hev p.2 (List.mem_map.2 ⟨p,hp,rfl⟩)];rfl
        exact ZVi (rows:=[(ob2,cap2)]) (m:=[xs]) r2 hU hX hn hd g2' rfl ⟨cs2,[],f2,rfl,rfl⟩ hst'.bare (hrun (d:=d) (ty:=ty) (pos:=pos) (aft:=aft) (g:=g) hev') h
       ·exact h.elim
     | box _ _=>exact h.elim
     | mat _ _ _ _ _=>exact h.elim
     | mid _ _ _ _ _ _=>exact h.elim
    ·exact h.elim
   ·exact h.elim
  split at h
  ·rename_i s hs ho hlen hbig;have hlen:=Nat.eq_of_beq_eq_true hlen;have hbig:=Nat.le_of_ble_eq_true hbig;split at h
   ·rename_i hsz;have hsz:=Nat.eq_of_beq_eq_true hsz;obtain ⟨c,h1,h2,h⟩:=Z2f hr h;obtain ⟨xs,l1,γ1,v1,ℓ1,h,r1,le1,q1⟩:=Zjw hn hX h hr h2;obtain ⟨css,k1,k2,k3,k4⟩:=q1 _ h1;obtain ⟨E,hEE,hp⟩:=r1.lr;have hvl:css.length=m:=by
     have:=congrArg List.length k3;simp only [List.length_map] at this;omega
    have hflat:css.flatten.length=m*q.sz:=by
     have:=ZWd k1;rw [ZU,← k2,hvl,← hsz] at this;exact this
    have hz:∀ w,(Instr.buildSlice t m (ps.toList.map fun p=>(p.1,a.eval p.2)).toArray).run C.P w = .ok (.slice (some ⟨w.heap.size,0,none⟩) m m) (w.alloc (.cells css.flatten.toArray q.e)):=by
     intro w;obtain ⟨inf,hinf,hzz,hsz',hby'⟩:=info_parts hE.info;rw [Ztp ho];have hm:(ps.toList.map fun p=>a.eval p.2)=(ps.toList.map (·.2)).map a.eval:=by rw [List.map_map];rfl
     rw [hm];have hf:∀ zc:Array Value,Instr.fill (fun i=>some (i*q.sz,q.sz)) ((Array.range (m*q.sz)).map (fun i=>zc[i%zc.size]!)) ((((ps.toList.map (·.2)).map a.eval).zipIdx).map fun p=>(p.2,p.1))=some css.flatten.toArray:=fun zc=>by
      have:=Zon (sz:=q.sz) css ((ps.toList.map (·.2)).map a.eval) 0 ((Array.range (m*q.sz)).map (fun i=>zc[i%zc.size]!)) k3 (fun cs hc=>by rw [k4 cs hc,hsz]) (by simp [hvl]);rw [Nat.zero_mul,List.take_zero,List.nil_append] at this;exact this
     obtain ⟨L,hL⟩:∃ L,L=((((ps.toList.map (·.2)).map a.eval).zipIdx).map fun p=>(p.2,p.1)):=⟨_,rfl⟩;rw [← hL] at hf ⊢;clear hL;exact ZEm hE.ty hinf hzz hsz' hbig hf w
    have hst:=r1.st.perm hp;obtain ⟨σ,hσ,hev⟩:=hst.evs (ps.toList.map (·.2));have hmax:m≤maxLen:=by
     have h1:m≤m*q.sz:=Nat.le_mul_of_pos_right _ hE.pos;unfold maxLen;omega
    obtain ⟨b,w',hrun,hst'⟩:=ZRf (P:=C.P) (t:=t) (e:=q.e) hσ hflat hmax hz;have hev':ps.toList.map (fun p=>(ev σ p.2).map fun y=>(p.1,y))=(ps.toList.map fun p=>(p.1,a.eval p.2)).map some:=by
     rw [List.map_map];refine List.map_congr_left fun p hp=>?_;rw [hev p.2 (List.mem_map.2 ⟨p,hp,rfl⟩)];rfl
    have hxl:m=xs.length:=by omega
    have hst':=hst'.bare;rw [hsz,hxl] at hst';have hrun':=hrun (d:=d) (ty:=ty) (pos:=pos) (aft:=aft) (g:=g) hev'
    conv at hrun'=>rhs;rw [hxl]
    exact Zgh r1 hU hX hn hd hEE rfl hst' k1 hrun' h
   ·exact h.elim
  ·exact h.elim
 ·exact h.elim
end
end Go.Eng
namespace Go.Eng
open Go.RowKit
section
variable {P:Program} {K:Nat} {w0:Base} {v0:Zb} {σ:List (Nat×Value)} {ℓ:List Loc} {v:Zb} {a:Act} {w:World}
variable {d:Option Nat} {ty:TypeId} {pos:String} {aft:Array Edge} {g:Option (Nat×Bool)}
theorem ZTt (w:World) (dT sT ty elem:TypeId) (i:TypeInfo) (g o dLen dCap:Nat) (a:Addr) (sLen sCap:Nat) (cur:Array Value) (t:TypeId) (cs:List Value)
  (hu:P.underlying dT=some (.slice elem)) (hi:P.info? elem=some i) (hg:w.heap[g]? = some (.cells cur t (0,0))) (hn:cs.length=Nat.min sLen dLen*i.size)
  (hsrc:∀ j v,cs[j]? = some v→w.cell? (a.add j)=some v) (hfit:o+cs.length≤cur.size) (h1:∀ v ∈ cs,v.oneCell'=true) :
  (Builtin.copy_ #[dT,sT] ty #[.slice (some ⟨g,o,none⟩) dLen dCap,.slice (some a) sLen sCap]).run P w =
   .ok (goInt (Nat.min sLen dLen)) (w.setRow g (cur.toList.take o++cs++cur.toList.drop (o+cs.length)).toArray):=by
 have hl:=run_loadCells_list (P:=P) w a cs hsrc;have hst:=run_storeCells_at P g o t cs 0 cur w hg (by simpa using hfit) h1;simp [Builtin.copy_,run_underlying hu,Builtin.lenOf,Builtin.firstCells,sizeOf,typeInfo,hi,← hn,hl,hst]
theorem Zxo {t e sT:TypeId} {sz bytes:Nat} {z:Value} (E:Elem P t e sz bytes z) (hS:St K w0 v0 σ ℓ v a w) {i n cap b:Nat} {cs:List Value} (hi:ℓ[i]? = some (.own (some b) e sz n cap cs)) {p k:Nat} {c:List Value}
  (hc:c.length=k*sz) (hp:p+k≤n) (hpl:c.all plain=true) {ad:Addr} {sLen sCap dLen dCap:Nat} (hsrc:∀ j u,c[j]? = some u→w.cell? (ad.add j)=some u) (hk:Nat.min sLen dLen=k) :
  ∃ w',(∀ ty,(Builtin.copy_ #[t,sT] ty #[.slice (some ⟨b,p*sz,none⟩) dLen dCap,.slice (some ad) sLen sCap]).run P w = .ok (.int .i64 k) w') ∧
   St K w0 v0 σ (ℓ.set i (.own (some b) e sz n cap (cs.take (p*sz)++c++cs.drop (p*sz+c.length)))) v a w':=by
 obtain ⟨inf,hinf,hz,hs,hby⟩:=info_parts E.info;obtain ⟨hcl,cur,hg,hnc,hcx,hcs,htake⟩:=(hS.loc _ (List.mem_of_getElem? hi)).1;have h1:p*sz+c.length≤n*sz:=by rw [hc,← Nat.add_mul];exact Nat.mul_le_mul_right _ hp
 have h2:n*sz≤cap*sz:=Nat.mul_le_mul_right _ hnc;have hcl2:cur.toList.length=cap*sz:=by simpa using hcs
 refine ⟨_,fun ty=>?_,hS.setRow hi rfl rfl (c:=(cur.toList.take (p*sz)++c++cur.toList.drop (p*sz+c.length)).toArray) ⟨?_,_,setRow_heap w b cur _ e _ hg,hnc,hcx,?_,?_⟩⟩
 ·have:=ZTt (P:=P) w t sT ty e inf b (p*sz) dLen dCap ad sLen sCap cur e c E.ty hinf hg (by rw [hk,hs];exact hc) hsrc (by omega) (Z6l hpl);rw [this,hk];rfl
 ·simp;omega
 ·simp;omega
 ·show List.take (n*sz) (_++_++_)=_;rw [Zmq _ _ _ _ h1 (by omega),htake]
end
end Go.Eng
namespace Go.Eng
open Go.RowKit
def OwnI {α:Type} (A:Rep α) (T:TypeId) (sz:Nat) (l:List α) (ob0:Option Nat) (w:World) (r:Value) (v':Zb) (w':World):Prop :=
 ∃ ob n cap cs,r = .slice (mkA ob) n cap∧(Loc.own ob T sz n cap cs).holds w'∧(∀ b,ob=some b→(w.heap.size≤b∨ob0=some b)∧v' b=none)∧A.rels v' cs l∧n=l.length
section
variable {P:Program} {K:Nat} {w0:Base} {v0:Zb} {σ:List (Nat×Value)} {ℓ:List Loc} {v:Zb} {a:Act} {w:World}
theorem St.afterI {v':Zb} {w':World} (h:St K w0 v0 σ ℓ v a w) {i:Nat} {e e':Loc} (hi:ℓ[i]? = some e) (x:ExtB ⟨w,e.blk.toList⟩ w') (s:VStepB ⟨w,e.blk.toList⟩ v w' v') (hh:e'.holds w') (hb':∀ b,e'.blk=some b→(w.heap.size≤b∨e.blk=some b)∧v' b=none) :
  St K w0 v0 σ (e' :: ℓ.eraseIdx i) v' a w':=by
 obtain ⟨he,hv⟩:=h.loc e (List.mem_of_getElem? hi);have nl:∀ k,k<w0.wd.heap.size→k ∉ w0.lent→k ∉ e.blk.toList:=fun k hk hl hm=>by
  have hm:e.blk=some k:=by simpa using hm
  rcases (hv k hm).1 with h' | h'
  ·omega
  ·exact hl h'
 have oth:∀ j y,ℓ[j]? = some y→j≠i→∀ b',y.blk=some b'→b'<w.heap.size∧e.blk≠some b'∧b' ∉ e.blk.toList:=fun j y hj hji b' hb2=>by
  obtain ⟨c2,T2,hg2⟩:=Loc.blk_get (h.loc y (List.mem_of_getElem? hj)).1 hb2;have hne:e.blk≠some b':=fun hb=>ZGi h.nd hi hb j y hj hji b' hb2 rfl;exact ⟨Zsf hg2,hne,by simpa using hne⟩
 refine ⟨h.size,h.dfr,h.fr,⟨x.os.trans h.ext.os,x.tape.trans h.ext.tape,x.output.trans h.ext.output,Nat.le_trans h.ext.size x.size,fun k hk hl=>?_⟩,⟨Zb.le_trans h.vst.le s.le,s.vin,fun k hk hl=>?_⟩,fun y hy=>?_,?_⟩
 ·rw [x.block k (Nat.lt_of_lt_of_le hk h.ext.size) (nl k hk hl)];exact h.ext.block k hk hl
 ·rw [s.old k (Nat.lt_of_lt_of_le hk h.ext.size) (nl k hk hl)];exact h.vst.old k hk hl
 ·rcases List.mem_cons.1 hy with rfl | hy
  ·refine ⟨hh,fun b hb=>⟨?_,(hb' b hb).2⟩⟩;rcases (hb' b hb).1 with h1 | h1
   ·exact .inl (Nat.le_trans h.ext.size h1)
   ·exact (hv b h1).1
  ·obtain ⟨j,hji,hj⟩:=List.mem_eraseIdx_iff_getElem?.1 hy;obtain ⟨h1,h2⟩:=h.loc y (List.mem_of_getElem? hj);have same:∀ b',y.blk=some b'→w'.heap[b']? = w.heap[b']?:=fun b' hb2=>by
    obtain ⟨o1,o2,o3⟩:=oth j y hj hji b' hb2;exact x.block b' o1 o3
   refine ⟨?_,fun b' hb2=>⟨(h2 b' hb2).1,?_⟩⟩
   ·cases y with
    | box b' T' cs=>show _=_;rw [same b' rfl];exact h1
    | own b' T' sz n cap cs =>
     cases b' with
     | none=>exact h1
     | some b'=>obtain ⟨k1,c',k2,k3⟩:=h1;exact ⟨k1,c',by rw [same b' rfl];exact k2,k3⟩
   ·obtain ⟨o1,o2,o3⟩:=oth j y hj hji b' hb2;rw [s.old b' o1 o3];exact (h2 b' hb2).2
 ·have hsub:((ℓ.eraseIdx i).filterMap Loc.blk).Nodup:=h.nd.sublist ((List.eraseIdx_sublist ..).filterMap _)
  cases hb:e'.blk with
  | none=>rw [List.filterMap_cons_none hb];exact hsub
  | some b =>
   rw [List.filterMap_cons_some hb];refine List.nodup_cons.2 ⟨fun hm=>?_,hsub⟩;obtain ⟨y,hy,hyb⟩:=List.mem_filterMap.1 hm;obtain ⟨j,hji,hj⟩:=List.mem_eraseIdx_iff_getElem?.1 hy;obtain ⟨o1,o2,o3⟩:=oth j y hj hji b hyb;rcases (hb' b hb).1 with h1 | h1
   ·omega
   ·exact o2 h1
variable {d:Option Nat} {ty:TypeId} {pos:String} {aft:Array Edge} {g:Option (Nat×Bool)}
theorem Z7t (hS:St K w0 v0 σ ℓ v a w) {t e:TypeId} {sz b o n cap p:Nat} {x lo:Operand} {k:IntKind} (ht:Zid P t e sz) (e1:ev σ x=some (.slice (some ⟨b,o,none⟩) n cap)) (e2:ev σ lo=some (.int k (p:Int))) (hp:p≤n) (hc:p<cap) :
  (execOp a.eval ⟨d,.slice t x (some lo) none none,ty,pos,aft,g⟩).run P w = .ok (.value (.slice (some ⟨b,o+p*sz,none⟩) (n-p) (cap-p))) w:=by
 have h1:(0:Int)≤(p:Int)∧(p:Int)≤(n:Int):=by omega
 have h2:¬ cap=p:=by omega
 simp [execOp,Instr.sliceAt,Instr.slice,Instr.sliceBounds,Instr.sliceBound,asIntOf,hS.eval e1,hS.eval e2,ht.1,ht.2,hp,h2,Z1a]
theorem Zdt (hS:St K w0 v0 σ ℓ v a w) {t e:TypeId} {sz b n cap p:Nat} {x hi:Operand} {k:IntKind} (ht:Zid P t e sz) (e1:ev σ x=some (.slice (some ⟨b,0,none⟩) n cap)) (e2:ev σ hi=some (.int k (p:Int))) (hp:p≤cap) (hc:0<cap) :
  (execOp a.eval ⟨d,.slice t x none (some hi) none,ty,pos,aft,g⟩).run P w = .ok (.value (.slice (some ⟨b,0,none⟩) p cap)) w:=by
 have h1:(0:Int)≤(p:Int)∧(p:Int)≤(cap:Int):=by omega
 have h2:¬ cap=0:=by omega
 simp [execOp,Instr.sliceAt,Instr.slice,Instr.sliceBounds,Instr.sliceBound,asIntOf,hS.eval e1,hS.eval e2,ht.1,ht.2,hp,h2,Z1a]
theorem ZJq (hS:St K w0 v0 σ ℓ v a w) {t t':TypeId} {x y:Operand} {p q r:Value} {w':World} (e:ev σ x=some p) (e':ev σ y=some q) (h:(Builtin.copy_ #[t,t'] ty #[p,q]).run P w = .ok r w') :
  (execOp a.eval ⟨d,.call ⟨.builtin .copy,#[x,y],#[t,t']⟩,ty,pos,aft,g⟩).run P w = .ok (.value r) w':=by
 simp [execOp,resolve,invoke,builtin,hS.eval e,hS.eval e',h]
end
end Go.Eng
namespace Go.Eng
open Go.RowKit
def ZMe {α:Type} (by_:Nat) (l:List α):Option (List α):=bnd (ZN by_ l) fun _=>some l
theorem ZBu {α:Type} {by_:Nat} {l z:List α} (h:ZMe by_ l=some z):l.length*by_≤140737488355328∧z=l:=by
 obtain ⟨_,h1,h2⟩:=ZH h;exact ⟨Zxe h1,(Option.some.inj h2).symm⟩
def ZYe {α:Type} (by_:Nat) (x:List α) (n:Int):Option (List α):=match x with
 | [z]=>bnd (mk by_ n n) fun _=>some (List.replicate n.toNat z)
 | _=>none
theorem ZWu {α:Type} {by_:Nat} {x r:List α} {n:Int} (h:ZYe by_ x n=some r):∃ z,x=[z]∧r=List.replicate n.toNat z∧mk by_ n n=some ():=by
 unfold ZYe at h;split at h
 ·obtain ⟨_,h1,h2⟩:=ZH h;exact ⟨_,rfl,(Option.some.inj h2).symm,h1⟩
 ·cases h
theorem Z0i {c:List Value} {sz:Nat} (h:c.length=sz) (n:Nat):((List.replicate n c).flatten).length=n*sz:=by
 rw [List.length_flatten,List.map_replicate,h,List.sum_replicate_nat]
theorem Ziw {c:List Value} (h:c.all plain=true) (n:Nat):((List.replicate n c).flatten).all plain=true:=by
 rw [List.all_eq_true];intro x hx;obtain ⟨l,hl,hxl⟩:=List.mem_flatten.1 hx;rw [(List.mem_replicate.1 hl).2] at hxl;exact List.all_eq_true.1 h x hxl
theorem ZEq {c:List Value} {m n:Nat} (h:m≤n):(List.replicate n c).flatten=(List.replicate m c).flatten++(List.replicate (n-m) c).flatten:=by
 obtain ⟨k,rfl⟩:=Nat.exists_eq_add_of_le h;rw [Nat.add_sub_cancel_left,← List.flatten_append,List.replicate_append_replicate]
theorem rp_step {c z:List Value} {sz j m k:Nat} (hc:c.length=sz) (hz:z.length=sz) (h:j+m≤k):((List.replicate j c).flatten++(List.replicate (k-j) z).flatten).take (j*sz)++(List.replicate m c).flatten++((List.replicate j c).flatten++(List.replicate (k-j) z).flatten).drop (j*sz+((List.replicate m c).flatten).length)=(List.replicate (j+m) c).flatten++(List.replicate (k-(j+m)) z).flatten:=by
 have h1:=Z0i hc j;have h2:=Z0i hz m;rw [Z0i hc m,List.take_left' h1,← List.flatten_append,List.replicate_append_replicate,List.drop_append,h1,List.drop_of_length_le (by rw [h1];omega),List.nil_append,Nat.add_sub_cancel_left,ZEq (m:=m) (n:=k-j) (by omega),List.drop_left' h2,Nat.sub_sub]
section
variable {P:Program} {K:Nat} {w0:Base} {v0:Zb} {σ:List (Nat×Value)} {ℓ:List Loc} {v:Zb} {a:Act} {w:World}
variable {d:Option Nat} {ty:TypeId} {pos:String} {aft:Array Edge} {g:Option (Nat×Bool)}
theorem Zww (hS:St K w0 v0 σ ℓ v a w) {t t2 e:TypeId} {x y:Operand} {q:Option Addr} {n c:Nat} (ht:P.underlying t=some (.slice e)) (e1:ev σ x=some (.slice q n c)) (e2:ev σ y=some (.slice none 0 0)) :
  (execOp a.eval ⟨d,.binOp .eql t x y t2,ty,pos,aft,g⟩).run P w = .ok (.value (.bool q.isNone)) w:=by
 have h:∀ w:World,(Op.equal t (.slice q n c) (.slice none 0 0)).run P w = .ok q.isNone w:=fun w=>by
  show (Op.equalIn (9999+1) t (.slice q n c) (.slice none 0 0)).run P w=_;unfold Op.equalIn
  cases q <;> simp [run_underlying ht]
 simp [execOp,hS.eval e1,hS.eval e2,eqGuard,binOp,h]
theorem ZWr {t e:TypeId} {sz by_:Nat} {z:Value} (E:Elem P t e sz by_ z) (hS:St K w0 v0 σ ℓ v a w) :
  ∃ b w',((execOp a.eval ⟨d,.buildSlice t 0 #[],ty,pos,aft,g⟩).run P w = .ok (.value (.slice (mkA (some b)) 0 0)) w')∧St K w0 v0 σ (.own (some b) e sz 0 0 [] :: ℓ) v a w':=by
 obtain ⟨i,h1,h2,h3,h4⟩:=info_parts E.info;obtain ⟨b,w',hrun,hst⟩:=ZRf (P:=P) (t:=t) (e:=e) (sz:=sz) (n:=0) (vals:=[]) (cs:=[]) hS (by simp) (by decide) (fun w=>ZEm E.ty h1 h2 h3 (by omega) (fun zc=>by simp [Instr.fill]) w);exact ⟨b,w',hrun (ps:=#[]) rfl,hst⟩
end
def vx {α:Type} (n:Nat) (f:Nat→α):List α:=(List.range n).map f
theorem ZT {α:Type} (n:Nat) (f:Nat→α):(vx n f).length=n:=by simp [vx]
theorem Z6h {α:Type} {n i:Nat} (f:Nat→α) (h:i<n):(vx n f)[i]? = some (f i):=by simp [vx,h]
theorem Z5 {α:Type} {n i:Nat} (f:Nat→α) (h:i<n):idx (vx n f) (i:Int)=some (f i):=Zam (Z6h f h)
theorem Zia {α:Type} {n:Nat} {f g:Nat→α} (h:∀ i,i<n→f i=g i):vx n f=vx n g:=List.map_congr_left fun i hi=>h i (List.mem_range.1 hi)
theorem Zcb {α:Type} (n:Nat) (f:Nat→α) (i:Nat) (a:α):(vx n f).set i a=vx n (fun k=>if k=i then a else f k):=by
 apply List.ext_getElem?;intro k;by_cases hk:k<n
 ·rw [Z6h _ hk,List.getElem?_set,Z6h _ hk];by_cases e:i=k
  ·subst e;simp [hk,ZT]
  ·rw [if_neg e,if_neg (fun h=>e h.symm)]
 ·rw [List.getElem?_eq_none (by simp [ZT];omega),List.getElem?_eq_none (by simp [ZT];omega)]
theorem Zzb {α:Type} (n:Nat) (f:Nat→α):vx n f++[f n]=vx (n+1) f:=by simp [vx,List.range_succ]
theorem vx_nil {α:Type} (f:Nat→α):vx 0 f=[]:=rfl
theorem Zkf {α:Type} (n:Nat) (a:α):List.replicate n a=vx n (fun _=>a):=by
 apply List.ext_getElem?;intro k;by_cases hk:k<n
 ·rw [Z6h _ hk];simp [hk]
 ·rw [List.getElem?_eq_none (by simp;omega),List.getElem?_eq_none (by simp [ZT];omega)]
theorem Zqr {α:Type} (d:α) {n i:Nat} (f:Nat→α) (h:i<n):(vx n f).getD i d=f i:=by
 rw [List.getD_eq_getElem?_getD,Z6h _ h];rfl
def mx (R n:Nat) (M:Mx):List (List Rat):=vx R fun i=>vx n (M i)
theorem ZRa (R n:Nat) (M:Mx):(mx R n M).length=R:=ZT _ _
theorem ZQd {R n:Nat} {M M':Mx} (h:∀ i,i<R→∀ j,j<n→M i j=M' i j):mx R n M=mx R n M':=Zia fun i hi=>Zia fun j hj=>h i hi j hj
theorem Zhb {R n i:Nat} (M:Mx) (h:i<R):idx (mx R n M) (i:Int)=some (vx n (M i)):=Z5 _ h
theorem ZVq {R n:Nat} (M:Mx) (i:Nat) (g:Nat→Rat):(mx R n M).set i (vx n g)=mx R n (fun k j=>if k=i then g j else M k j):=by
 unfold mx;rw [Zcb];exact Zia fun k hk=>by by_cases e:k=i <;> simp [e]
theorem mx_swap {R n p q:Nat} (M:Mx) (hp:p<R) (hq:q<R):Zrc (mx R n M) p q=mx R n (fun k=>if k=q then M p else if k=p then M q else M k):=by
 unfold Zrc mx;rw [Zqr _ _ hp,Zqr _ _ hq,Zcb,Zcb];exact Zia fun k hk=>by by_cases e:k=q <;> by_cases e2:k=p <;> simp [e,e2] <;> split <;> rfl
theorem ZZb {α β:Type} {P:β→Prop} {x:Option α} {y:α} {f:α→Option β} (h:x=some y) (h2:∃ z,f y=some z∧P z):∃ z,bnd x f=some z∧P z:=by subst h;exact h2
theorem ZTh {S R Z:Type} {P:Z→Prop} {body:S→Option (S ⊕ R)} {s:S} {f:R→Option Z} (I:Nat→S→Prop) (Q:R→Prop) (n:Nat) (h0:I 0 s) (hn:n<2^64)
  (h:∀ k s,k≤n→I k s→(∃ s',k<n∧body s=some (.inl s')∧I (k+1) s') ∨ ∃ r,body s=some (.inr r)∧Q r)
  (hf:∀ r,Q r→∃ z,f r=some z∧P z):∃ z,bnd (Zp body Zu s) f=some z∧P z:=by
 have key:∀ m g k s,k+m=n→m<g→I k s→∃ r,Zp body g s=some r∧Q r:=by
  intro m
  induction m with
  | zero =>
   intro g k s hk hg hi;obtain ⟨g,rfl⟩:∃ x,g=x+1:=⟨g-1,by omega⟩;rcases h k s (by omega) hi with ⟨s',h1,_⟩ | ⟨r,h1,h2⟩
   ·omega
   ·exact ⟨r,by unfold Zp;rw [h1,Za],h2⟩
  | succ m ih =>
   intro g k s hk hg hi;obtain ⟨g,rfl⟩:∃ x,g=x+1:=⟨g-1,by omega⟩;rcases h k s (by omega) hi with ⟨s',h1,h2,h3⟩ | ⟨r,h1,h2⟩
   ·obtain ⟨r,h4,h5⟩:=ih g (k+1) s' (by omega) (by omega) h3;exact ⟨r,by unfold Zp;rw [h2,Za];exact h4,h5⟩
   ·exact ⟨r,by unfold Zp;rw [h1,Za],h2⟩
 obtain ⟨r,h1,h2⟩:=key n Zu 0 s (by omega) (Z4 (by omega)) h0;exact ZZb h1 (hf r h2)
theorem ZWa {k m:Nat} {x y:Rat} (h:sz k x) (h':sz m y) (hk:k≤1099511627776) (hm:m≤1099511627776):Zfa x y=some (x+y):=by unfold Zfa;rw [if_pos ⟨h.ok hk,h'.ok hm⟩]
theorem Zwi {k m:Nat} {x y:Rat} (h:sz k x) (h':sz m y) (hk:k≤1099511627776) (hm:m≤1099511627776):Z5a x y=some (x-y):=by unfold Z5a;rw [if_pos ⟨h.ok hk,h'.ok hm⟩]
theorem qmulB {k m:Nat} {x y:Rat} (h:sz k x) (h':sz m y) (hk:k≤1099511627776) (hm:m≤1099511627776):Zkb x y=some (x*y):=by unfold Zkb;rw [if_pos ⟨h.ok hk,h'.ok hm⟩]
theorem qdivB {k m:Nat} {x y:Rat} (h:sz k x) (h':sz m y) (hk:k≤1099511627776) (hm:m≤1099511627776) (hy:y≠0):Zbd x y=some (x / y,0):=by unfold Zbd;rw [if_pos ⟨h.ok hk,h'.ok hm⟩,if_neg hy]
theorem sz_frac {K:Nat} {x:Rat} {N D:Int} (hx:x=(N:Rat) / (D:Rat)) (hN:N.natAbs<2^K) (hD:D.natAbs<2^K) (h0:D≠0):sz K x:=by
 rw [hx,← Rat.divInt_eq_div,Z5h];rcases Zji (if D<0 then -N else N) D.natAbs with ⟨h1,h2⟩ | h1
 ·have h3:bl (if D<0 then -N else N).natAbs≤K:=Zgb (by split <;> omega);have h4:bl D.natAbs≤K:=Zgb hD;exact ⟨by omega,by omega⟩
 ·omega
def CD (K R n:Nat) (M:Mx):Prop:=∃ D:Int,D≠0∧D.natAbs<2^K∧∀ i j,i<R→j<n→∃ N:Int,M i j=(N:Rat) / (D:Rat)∧N.natAbs<2^K
theorem CD.sz {K R n:Nat} {M:Mx} (h:CD K R n M) {i j:Nat} (hi:i<R) (hj:j<n):sz K (M i j):=by
 obtain ⟨D,h0,h1,h2⟩:=h;obtain ⟨N,h3,h4⟩:=h2 i j hi hj;exact sz_frac h3 h4 h1 h0
theorem CD.mono {K K' R n:Nat} {M:Mx} (h:CD K R n M) (hk:K≤K'):CD K' R n M:=by
 obtain ⟨D,h0,h1,h2⟩:=h;have hp:=Nat.pow_le_pow_right (show 0<2 by omega) hk;exact ⟨D,h0,by omega,fun i j hi hj=>by
  obtain ⟨N,h3,h4⟩:=h2 i j hi hj;exact ⟨N,h3,by omega⟩⟩
theorem CD.congr {K R n:Nat} {M M':Mx} (h:CD K R n M) (e:∀ i,i<R→∀ j,j<n→M i j=M' i j):CD K R n M':=by
 obtain ⟨D,h0,h1,h2⟩:=h;exact ⟨D,h0,h1,fun i j hi hj=>by rw [← e i hi j hj];exact h2 i j hi hj⟩
theorem ZKf {a b:Int} {A B:Nat} (ha:a.natAbs<A) (hb:b.natAbs<B):(a*b).natAbs<A*B:=by
 rw [Int.natAbs_mul];exact Nat.mul_lt_mul'' ha hb
def Zcc (M:Mx) (c top p:Nat):Mx:=fun i j=>if i=top then M p j / M p c else (if i=p then M top j else M i j)-(if i=p then M top c else M i c)*(M p j / M p c)
theorem ZNm {R n c top p:Nat} {M:Mx} (tp:top≤p) (pR:p<R) (cn:c<n) (nz:M p c≠0):StepR R n M (Zcc M c top p) c top p :=
 ⟨tp,pR,cn,nz,fun j hj=>by simp [Zcc],fun h j hj=>by simp [Zcc,h],fun i hi h1 h2 j hj=>by simp [Zcc,h1,h2]⟩
theorem CD.step {K R n c top p:Nat} {M:Mx} (h:CD K R n M) (tp:top≤p) (pR:p<R) (cn:c<n) (nz:M p c≠0):CD (2*K+1) R n (Zcc M c top p):=by
 obtain ⟨D,h0,h1,h2⟩:=h;obtain ⟨F,f1,f2⟩:=h2 p c pR cn;have e2:2^(2*K+1)=2*(2^K*2^K):=by rw [Nat.pow_succ,Nat.two_mul,Nat.pow_add];omega
 have hF:F≠0:=fun e=>nz (by rw [f1,e,Rat.div_def];exact Rat.zero_mul _);have hD':(D:Rat)≠0:=fun e=>h0 (Rat.intCast_inj.1 (by rw [e];rfl));have hF':(F:Rat)≠0:=fun e=>hF (Rat.intCast_inj.1 (by rw [e];rfl));refine ⟨D*F,fun e=>?_,?_,fun i j hi hj=>?_⟩
 ·rcases Int.mul_eq_zero.1 e with h | h
  ·exact h0 h
  ·exact hF h
 ·have:=ZKf h1 f2;omega
 ·obtain ⟨A,a1,a2⟩:=h2 p j pR hj;unfold Zcc;split
  ·refine ⟨A*D,?_,?_⟩
   ·rw [a1,f1,Rat.intCast_mul,Rat.intCast_mul];grind
   ·have:=ZKf a2 h1;omega
  ·have key:∀ i,i<R→∃ N:Int,M i j-M i c*(M p j / M p c)=(N:Rat) / ((D*F:Int):Rat)∧N.natAbs<2^(2*K+1):=fun i hi=>by
    obtain ⟨B,b1,b2⟩:=h2 i j hi hj;obtain ⟨C,c1,c2⟩:=h2 i c hi cn;refine ⟨B*F-C*A,?_,?_⟩
    ·rw [a1,b1,c1,f1,Rat.intCast_sub,Rat.intCast_mul,Rat.intCast_mul,Rat.intCast_mul];grind
    ·have:=ZKf b2 f2;have:=ZKf c2 a2;omega
   by_cases hp:i=p
   ·rw [if_pos hp,if_pos hp];exact key top (by omega)
   ·rw [if_neg hp,if_neg hp];exact key i hi
set_option maxRecDepth 100000
theorem Z2h:sz 1 (1:Rat):=by constructor <;> decide
def cf (c:Nat→Int):Nat→Nat→Int
 | _,0=>0
 | i,m+1=>if c i≠0 then c i else cf c (i+1) m
end Go.Eng
namespace Go.Eng
open Go.RowKit
variable {P:Program} {K:Nat} {w0:Base} {v0:Zb} {σ:List (Nat×Value)} {ℓ:List Loc} {v:Zb} {a:Act} {w:World}
end Go.Eng

namespace Go.Eng
noncomputable def ZGj (x:Rat) (y:Rat):Option Rat :=
 some y
noncomputable def Zqd (n:Int):Option Rat :=
 bnd (ZJc n) fun a =>
 bnd (ZGj (0:Rat) a) fun b =>
 some b
noncomputable def Z3f (m:List (List Rat)):Option ((List (List Rat))×(List Int)×Rat) :=
 bnd (mk 24 (m.length:Int) (m.length:Int)) fun _ =>
 bnd (Zp (σ:=Int×(List (List Rat))) (ρ:=List (List Rat)) (fun e =>
 ifb (decide (e.1<(m.length:Int)))
 (bnd (idx m e.1) fun r =>
 bnd (ZMe 56 r) fun s =>
 bnd (idx e.2 e.1) fun y4 =>
 bnd (chk .i64 (e.1+(1:Int))) fun t =>
 some (.inl (t,e.2.set e.1.toNat s)))
 (some (.inr e.2)))
  Zu ((0:Int),List.replicate (m.length:Int).toNat ([]:List Rat))) fun i =>
 bnd (Zqd (1:Int)) fun u =>
 bnd (α:=Int)
 (ifb ((i.length:Int)==(0:Int))
 (some (0:Int))
 (bnd (idx i (0:Int)) fun v =>
 some (v.length:Int))) fun w =>
 bnd (Zp (σ:=(List Int)×Int×(List (List Rat))×Rat) (ρ:=(List Int)×(List (List Rat))×Rat) (fun a =>
 ifb (decide (a.2.1<w))
 (bnd (α:=(List Int)×(List (List Rat))×Rat)
 (bnd (Zp (σ:=Int) (ρ:=Int) (fun g =>
 bnd (α:=Bool)
 (ifb (decide (g<(a.2.2.1.length:Int)))
 (bnd (idx a.2.2.1 g) fun x =>
 bnd (idx x a.2.1) fun y =>
 bnd (Zad y) fun z =>
 some z)
 (some false)) fun A =>
 ifb A
 (bnd (chk .i64 (g+(1:Int))) fun B =>
 some (.inl B))
 (some (.inr g)))
      Zu (a.1.length:Int)) fun f =>
 ifb (f==(a.2.2.1.length:Int))
 (bnd (Zqd (0:Int)) fun C =>
 some (a.1,a.2.2.1,C))
 (bnd (α:=(List (List Rat))×Rat)
 (ifb (f != (a.1.length:Int))
 (bnd (idx a.2.2.1 (a.1.length:Int)) fun ab =>
 bnd (idx a.2.2.1 f) fun ac =>
 bnd (idx a.2.2.1 f) fun ad =>
 bnd (idx a.2.2.1 (a.1.length:Int)) fun ae =>
 bnd (eqN ((a.1.length:Int).toNat) ((a.1.length:Int).toNat)) fun _ =>
 bnd (eqN f.toNat f.toNat) fun _ =>
 bnd (Zne a.2.2.2) fun D =>
 some (Zrc a.2.2.1 f.toNat ((a.1.length:Int).toNat),D))
 (some (a.2.2.1,a.2.2.2))) fun h =>
 bnd (idx h.1 (a.1.length:Int)) fun E =>
 bnd (idx E a.2.1) fun l =>
 bnd (Zkb h.2 l) fun F =>
 bnd (idx h.1 (a.1.length:Int)) fun G =>
 bnd (Zp (σ:=Int×(List (List Rat))) (ρ:=List (List Rat)) (fun d =>
 ifb (decide (d.1<(G.length:Int)))
 (bnd (idx d.2 (a.1.length:Int)) fun n =>
 bnd (idx d.2 (a.1.length:Int)) fun H =>
 bnd (idx H d.1) fun I =>
 bnd (Zbd I l) fun J =>
 bnd (idx n d.1) fun af =>
 bnd (chk .i64 (d.1+(1:Int))) fun K =>
 some (.inl (K,d.2.set ((a.1.length:Int).toNat) (n.set d.1.toNat J.1))))
 (some (.inr d.2)))
       Zu ((0:Int),h.1)) fun o =>
 bnd (Zp (σ:=Int×(List (List Rat))) (ρ:=List (List Rat)) (fun b =>
 ifb (decide (b.1<(o.length:Int)))
 (bnd (α:=List (List Rat))
 (bnd (idx b.2 b.1) fun L =>
 bnd (idx L a.2.1) fun p =>
 bnd (α:=Bool)
 (ifb (b.1==(a.1.length:Int))
 (some true)
 (bnd (Zad p) fun M =>
 some M)) fun N =>
 ifb N
 (some b.2)
 (bnd (idx b.2 b.1) fun O =>
 bnd (Zp (σ:=Int×(List (List Rat))) (ρ:=List (List Rat)) (fun c =>
 ifb (decide (c.1<(O.length:Int)))
 (bnd (idx c.2 b.1) fun q =>
 bnd (idx c.2 b.1) fun P =>
 bnd (idx P c.1) fun Q =>
 bnd (idx c.2 (a.1.length:Int)) fun R =>
 bnd (idx R c.1) fun S =>
 bnd (Zkb p S) fun T =>
 bnd (Z5a Q T) fun U =>
 bnd (idx q c.1) fun ag =>
 bnd (chk .i64 (c.1+(1:Int))) fun V =>
 some (.inl (V,c.2.set b.1.toNat (q.set c.1.toNat U))))
 (some (.inr c.2)))
            Zu ((0:Int),b.2)) fun W =>
 some W)) fun X =>
 bnd (chk .i64 (b.1+(1:Int))) fun Y =>
 some (.inl (Y,X)))
 (some (.inr b.2)))
       Zu ((0:Int),o)) fun Z =>
 bnd (ZN 8 (a.1++[a.2.1])) fun _ =>
 some (a.1++[a.2.1],Z,F))) fun j =>
 bnd (chk .i64 (a.2.1+(1:Int))) fun aa =>
 some (.inl (j.1,aa,j.2.1,j.2.2)))
 (some (.inr (a.1,a.2.2.1,a.2.2.2))))
  Zu (([]:List Int),(0:Int),i,u)) fun k =>
 some (k.2.1,k.1,k.2.2)
noncomputable def Z5b (m:List (List Rat)):Option Int :=
 ifb ((m.length:Int)==(0:Int))
 (some (0:Int))
 (bnd (idx m (0:Int)) fun a =>
 some (a.length:Int))
noncomputable def ZVd (m:List (List Rat)):Option Bool :=
 bnd (Z5b m) fun b =>
 bnd (α:=Bool)
 (ifb (decide ((m.length:Int)≤(32:Int)))
 (ifb (decide (b≤(32:Int)))
 (bnd (α:=Int)
 (bnd (Zp (σ:=Int) (ρ:=Unit ⊕ Int) (fun a =>
 ifb (decide (a<(m.length:Int)))
 (bnd (idx m a) fun c =>
 ifb ((c.length:Int) != b)
 (some (.inr (.inr a)))
 (bnd (chk .i64 (a+(1:Int))) fun d =>
 some (.inl d)))
 (some (.inr (.inl ()))))
      Zu (0:Int)) fun e =>
     match e with
 | .inl i=>(some (-1:Int))
 | .inr f=>(some f)) fun g =>
 some (!(decide ((0:Int)≤g))))
 (some false))
 (some false)) fun h =>
 some h
theorem ZTg (n:Int):Zqd n=some (n:Rat):=by
 unfold Zqd ZGj;rfl
theorem ZZe {b n:Nat} (h:b*n≤281474976710656) (h2:n≤1000000000):mk b (n:Int) (n:Int)=some ():=by
 unfold mk;rw [if_pos ⟨by omega,by omega,by omega,by omega⟩]
theorem Zzi (i:Nat):eqN i i=some ():=by unfold eqN;rw [if_pos rfl]
theorem ZLs {α:Type} {b:Nat} {l:List α} (h:l.length*b≤140737488355328):ZMe b l=some l:=by
 unfold ZMe;rw [Zsa h,Za]
def Z3b (l:List Nat):List Int:=l.map fun (c:Nat)=>(c:Int)
theorem Zqf (l:List Nat):(Z3b l).length=l.length:=by simp [Z3b]
theorem ZPo {R n:Nat} (M:Mx) (hR:R≤1000) (hn:n≤1000):Zp (σ:=Int×(List (List Rat))) (ρ:=List (List Rat)) (fun s1 =>
   ifb (decide (s1.1<((mx R n M).length:Int)))
   (bnd (idx (mx R n M) s1.1) fun y2 =>
    bnd (ZMe 56 y2) fun y3 =>
    bnd (idx s1.2 s1.1) fun y4 =>
    bnd (chk .i64 (s1.1+(1:Int))) fun y5 =>
    some (.inl (y5,s1.2.set s1.1.toNat y3)))
   (some (.inr s1.2)))
  Zu ((0:Int),List.replicate ((mx R n M).length:Int).toNat ([]:List Rat))=some (mx R n M):=by
  refine ZJa (fun k=>((k:Int),vx R fun i=>if i<k then vx n (M i) else [])) R ?_ (by omega) (fun k hk=>?_) ?_
  · rw [ZRa];simp only [Int.toNat_natCast,Zkf];refine Prod.ext rfl (Zia fun i hi=>?_);rw [if_neg (by omega)]
  · simp only [ZRa];rw [decide_eq_true (by omega),Zf,Zhb _ hk,Za,ZLs (by rw [ZT];omega),Za,Z5 _ hk,Za,Zm (by omega) (by omega),Za];simp only [Int.toNat_natCast];rw [Zcb];refine congrArg (fun x=>some (Sum.inl x)) (Prod.ext (by simp) (Zia fun i hi=>?_));by_cases e:i=k
    · rw [if_pos e,if_pos (by omega),e]
    · rw [if_neg e];by_cases e2:i<k
      · rw [if_pos e2,if_pos (by omega)]
      · rw [if_neg e2,if_neg (by omega)]
  · simp only [ZRa];rw [decide_eq_false (by omega),Ze];exact congrArg (fun x=>some (Sum.inr x)) (Zia fun i hi=>if_pos hi)
theorem ZGf {R n:Nat} (M:Mx) (h:R=0→n=0):Z5b (mx R n M)=some (n:Int):=by
 unfold Z5b;rw [ZRa];by_cases h0:R=0
 ·rw [show ((R:Int)==0)=true by simp [h0],Zf,h h0];rfl
 ·rw [show ((R:Int)==0)=false by simp [h0],Ze];refine Zx (Zhb (i:=0) M (by omega)) ?_;rw [ZT]
theorem ZPk {R n:Nat} (M:Mx) (h:R=0→n=0) (hR:R≤32) (hn:n≤32):ZVd (mx R n M)=some true:=by
 unfold ZVd;rw [ZGf M h,Za,ZRa,decide_eq_true (by omega),Zf,decide_eq_true (by omega),Zf];refine Zx (y:=true) ?_ rfl;refine Zx (y:=(-1:Int)) ?_ rfl;refine Zx (y:=Sum.inl ()) ?_ rfl;refine ZJa (fun k=>(k:Int)) R rfl (by omega) (fun k hk=>?_) ?_
 ·rw [decide_eq_true (by omega),Zf,Zhb _ hk,Za,ZT,show ((n:Int) != (n:Int))=false by simp,Ze,Zm (by omega) (by omega),Za];rfl
 ·rw [decide_eq_false (by omega),Ze]
def kk (K k:Nat):Nat:=2^k*(K+1)-1
theorem ZGn {K k:Nat}:kk K (k+1)=2*kk K k+1:=by
 unfold kk;have:=Nat.mul_pos (Nat.two_pow_pos k) (show 0<K+1 by omega);rw [Nat.pow_succ,Nat.mul_comm (2^k) 2,Nat.mul_assoc];omega
theorem ZAf {K k n:Nat} (h:k≤n):kk K k≤kk K n:=by
 unfold kk;have:=Nat.mul_le_mul_right (K+1) (Nat.pow_le_pow_right (show 0<2 by omega) h);omega
theorem Zqg:sz 1 (0:Rat):=⟨by decide,by decide⟩
def swM (M:Mx) (top p:Nat):Mx:=fun k=>if k=top then M p else if k=p then M top else M k
def Zhd (M:Mx) (c top p j:Nat):Mx:=fun i l=>if i=top∧l<j then M p l / M p c else swM M top p i l
def Zmb (M:Mx) (c top p n i j:Nat):Mx:=fun r l=>if r<i∨(r=i∧l<j) then Zcc M c top p r l else Zhd M c top p n r l
theorem kk_pos' {K n:Nat} (h:1≤K):1≤kk K n:=by
 have:=ZAf (K:=K) (k:=0) (n:=n) (Nat.zero_le _);unfold kk at this;unfold kk;simp at this;omega
theorem bnd_two {α β:Type} {P:β→Prop} (Q:α→Prop) {x:Option α} {f:α→Option β} (h:∃ y,x=some y∧Q y) (h2:∀ y,Q y→∃ z,f y=some z∧P z):∃ z,bnd x f=some z∧P z:=by
 obtain ⟨y,h,q⟩:=h;exact ZZb h (h2 y q)
set_option maxRecDepth 100000 in
theorem Z5o {R n K r:Nat} {M0:Mx} (h0:R=0→n=0) (hR:R≤1000) (hn:n≤1000) (hK:1≤K) (hz:CD K R n M0) (hr:∀ k M piv,k≤n→Eli R n M0 M piv k→piv.length≤r) (hk:kk K r≤274877906944) :
  ∃ z,Z3f (mx R n M0)=some z∧∃ M piv d,z=(mx R n M,Z3b piv,d)∧Eli R n M0 M piv n∧CD (kk K r) R n M:=by
 unfold Z3f;refine ZZb (y:=()) (by rw [ZRa];exact ZZe (by omega) (by omega)) ?_;refine ZZb (ZPo M0 hR hn) ?_;refine ZZb (ZTg 1) ?_;refine ZZb (y:=(n:Int)) (ZGf M0 h0) ?_;refine ZTh (fun k s=>∃ M piv d,s=(Z3b piv,(k:Int),mx R n M,d)∧Eli R n M0 M piv k∧CD (kk K piv.length) R n M∧sz (kk K piv.length) d) (fun y=>∃ M piv d,y=(Z3b piv,mx R n M,d)∧Eli R n M0 M piv n∧CD (kk K r) R n M) n ⟨M0,[],((1:Int):Rat),rfl,Eli.start R n M0,by unfold kk;simpa using hz,(Z2h.mono (by unfold kk;simpa using hK):sz _ (1:Rat))⟩ (by omega) (fun k s hkn hi=>?_) (fun y hy=>?_)
 ·obtain ⟨M,piv,d,rfl,hI,hC,hd⟩:=hi;by_cases hlt:k<n
  ·left;have hkk:=ZAf (K:=K) (hr k M piv hkn hI);simp only;rw [decide_eq_true (by omega),Zf];have pl:=hI.le
   suffices hx:∃ z,(bnd (α:=(List Int)×(List (List Rat))×Rat) _ _:Option (((List Int)×Int×(List (List Rat))×Rat) ⊕ ((List Int)×(List (List Rat))×Rat)))=some z∧∃ M' piv' d',z=Sum.inl (Z3b piv',((k+1:Nat):Int),mx R n M',d')∧Eli R n M0 M' piv' (k+1)∧CD (kk K piv'.length) R n M'∧sz (kk K piv'.length) d' by
    obtain ⟨z,h1,M',piv',d',rfl,h2⟩:=hx;exact ⟨_,hlt,h1,M',piv',d',rfl,h2⟩
   refine bnd_two (Q:=fun y=>∃ M' piv' d',y=(Z3b piv',mx R n M',d')∧Eli R n M0 M' piv' (k+1)∧CD (kk K piv'.length) R n M'∧sz (kk K piv'.length) d') ?_ (fun y hy=>?_)
   rotate_left
   ·obtain ⟨M',piv',d',rfl,h2⟩:=hy;exact ⟨Sum.inl (Z3b piv',((k+1:Nat):Int),mx R n M',d'),by rw [Zm (by omega) (by omega),Za];rfl,M',piv',d',rfl,h2⟩
   refine ZTh (fun q s=>s=((piv.length+q:Nat):Int)∧∀ i,piv.length≤i→i<piv.length+q→M i k=0) (fun y=>∃ p:Nat,y=(p:Int)∧piv.length≤p∧p≤R∧(∀ i,piv.length≤i→i<p→M i k=0)∧(p<R→M p k≠0)) (R-piv.length) ⟨by rw [Zqf];rfl,fun i h1 h2=>by omega⟩ (by omega) (fun q s hq hs=>?_) (fun y hy=>?_)
   ·obtain ⟨rfl,hz0⟩:=hs;rw [ZRa];by_cases hqR:piv.length+q<R
    ·rw [decide_eq_true (by omega),Zf,Zhb _ hqR,Za,Z5 _ hlt,Za];unfold Zad;by_cases hz1:M (piv.length+q) k=0
     ·left;refine ⟨((piv.length+(q+1):Nat):Int),by omega,?_,rfl,fun i h1 h2=>?_⟩
      ·rw [decide_eq_true hz1,Za,Za,Zf,Zm (by omega) (by omega),Za];rfl
      ·by_cases e:i=piv.length+q
       ·rw [e];exact hz1
       ·exact hz0 i h1 (by omega)
     ·right;refine ⟨((piv.length+q:Nat):Int),by rw [decide_eq_false hz1,Za,Za,Ze],piv.length+q,rfl,by omega,by omega,hz0,fun _=>hz1⟩
    ·right;refine ⟨((piv.length+q:Nat):Int),by rw [decide_eq_false (by omega),Ze,Za,Ze],piv.length+q,rfl,by omega,by omega,hz0,fun h=>by omega⟩
   ·obtain ⟨p,rfl,h1,h2,h3,h4⟩:=hy;rw [ZRa];by_cases hpR:p=R
    ·rw [show ((p:Int)==(R:Int))=true by simp [hpR],Zf,ZTg,Za];refine ⟨_,rfl,M,piv,_,rfl,hI.skip fun i g1 g2=>h3 i g1 (by omega),hC,Zqg.mono (kk_pos' hK)⟩
    ·rw [show ((p:Int)==(R:Int))=false by simp;omega,Ze];have pR:p<R:=by omega
     have nz:=h4 pR;have tR:piv.length<R:=by omega
     have Cs:=hC.step h1 pR hlt nz;have hk1:=ZAf (K:=K) (hr (k+1) _ _ hlt (hI.step (ZNm h1 pR hlt nz)));rw [List.length_append,List.length_singleton,ZGn] at hk1;rw [Zqf];refine ZZb (y:=(mx R n (swM M piv.length p),if p=piv.length then d else -d)) ?_ ?_
     ·by_cases e:p=piv.length
      ·rw [show ((p:Int) != (piv.length:Int))=false by simp [e],Ze,if_pos e];refine congrArg some (Prod.ext (ZQd fun i hi j hj=>?_) rfl);unfold swM;by_cases e2:i=piv.length
       ·rw [if_pos e2,e2,e]
       ·rw [if_neg e2,if_neg (fun h=>e2 (h.trans e))]
      ·rw [show ((p:Int) != (piv.length:Int))=true by simp;omega,Zf,Zhb _ tR,Za,Zhb _ pR,Za,Za,Za,if_neg e];simp only [Int.toNat_natCast];rw [Zzi,Za,Zzi,Za];unfold Zne;rw [Za,mx_swap _ pR tR];rfl
     have hrow:swM M piv.length p piv.length=M p:=by unfold swM;rw [if_pos rfl]
     have hd1:sz (kk K piv.length) (if p=piv.length then d else -d):=by split;exact hd;exact Z3q hd
     have zf:sz (kk K piv.length) (M p k):=hC.sz pR hlt;simp only;refine ZZb (Zhb _ tR) ?_;rw [hrow];refine ZZb (Z5 _ hlt) ?_;refine ZZb (qmulB hd1 zf (by omega) (by omega)) ?_;refine ZZb (Zhb _ tR) ?_;rw [hrow,ZT];refine ZZb (y:=mx R n (Zhd M k piv.length p n)) (ZJa (fun j=>((j:Int),mx R n (Zhd M k piv.length p j))) n ?_ (by omega) (fun j hj=>?_) ?_) ?_
     ·refine Prod.ext rfl (ZQd fun i hi j hj=>?_);unfold Zhd;rw [if_neg (by omega)]
     ·have hr:Zhd M k piv.length p j piv.length j=M p j:=by unfold Zhd swM;rw [if_neg (by omega),if_pos rfl]
      simp only;rw [decide_eq_true (by omega),Zf,Zhb _ tR,Za,Za,Z5 _ hj,Za,hr,qdivB (hC.sz pR hj) zf (by omega) (by omega) nz,Za,Za,Zm (by omega) (by omega),Za];simp only [Int.toNat_natCast];rw [Zcb,ZVq];refine congrArg (fun x=>some (Sum.inl x)) (Prod.ext (by simp) (ZQd fun i hi l hl=>?_));unfold Zhd;by_cases e:i=piv.length
      ·rw [if_pos e];by_cases e2:l=j
       ·rw [if_pos e2,if_pos (by omega),e2]
       ·rw [if_neg e2,e];by_cases e3:l<j
        ·rw [if_pos (by omega),if_pos (by omega)]
        ·rw [if_neg (by omega),if_neg (by omega)]
      ·rw [if_neg e,if_neg (by omega),if_neg (by omega)]
     ·simp only;rw [decide_eq_false (by omega),Ze]
     rw [ZRa];refine ZZb (y:=mx R n (Zcc M k piv.length p)) (ZJa (fun i=>((i:Int),mx R n (Zmb M k piv.length p n i 0))) R ?_ (by omega) (fun i hi=>?_) ?_) ?_
     ·refine Prod.ext rfl (ZQd fun i hi j hj=>?_);unfold Zmb;rw [if_neg (by omega)]
     ·simp only;have rd:∀ r l,r≠piv.length→Zhd M k piv.length p n r l=if r=p then M piv.length l else M r l:=fun r l hr=>by
       unfold Zhd swM;rw [if_neg (by omega),if_neg hr];split <;> rfl
      have top0:∀ i j l,l<n→Zmb M k piv.length p n i j piv.length l=M p l / M p k:=fun i j l hl=>by
       unfold Zmb Zcc Zhd;split
       ·rw [if_pos rfl]
       ·rw [if_pos ⟨rfl,hl⟩]
      have self0:∀ l,Zmb M k piv.length p n i 0 i l=Zhd M k piv.length p n i l:=fun l=>by unfold Zmb;rw [if_neg (by omega)]
      rw [decide_eq_true (by omega),Zf];refine Zx (y:=mx R n (Zmb M k piv.length p n (i+1) 0)) ?_ ?_
      ·rw [Zhb _ hi,Za,Z5 _ hlt,Za];by_cases e:i=piv.length
       ·rw [show ((i:Int)==(piv.length:Int))=true by simp [e],Zf,Za,Zf];refine congrArg some (ZQd fun r hr l hl=>?_);by_cases e2:r=piv.length
        ·rw [e2,top0 _ _ _ hl,top0 _ _ _ hl]
        ·unfold Zmb;by_cases e3:r<i
         ·rw [if_pos (.inl e3),if_pos (.inl (by omega))]
         ·rw [if_neg (by omega),if_neg (by omega)]
       ·rw [show ((i:Int)==(piv.length:Int))=false by simp;omega,Ze];unfold Zad;rw [Za,Za,self0,rd _ _ e];by_cases hz1:(if i=p then M piv.length k else M i k)=0
        ·rw [decide_eq_true hz1,Zf];refine congrArg some (ZQd fun r hr l hl=>?_);unfold Zmb;by_cases e3:r<i
         ·rw [if_pos (.inl e3),if_pos (.inl (by omega))]
         ·rw [if_neg (by omega)];by_cases e4:r=i
          ·subst e4;rw [if_pos (.inl (by omega)),rd _ _ e];unfold Zcc;rw [if_neg e,hz1];grind
          ·rw [if_neg (by omega)]
        ·rw [decide_eq_false hz1,Ze,Za,ZT];have zc:sz (kk K piv.length) (if i=p then M piv.length k else M i k):=by split;exact hC.sz tR hlt;exact hC.sz hi hlt
         refine Zx (ZJa (fun j=>((j:Int),mx R n (Zmb M k piv.length p n i j))) n rfl (by omega) (fun j hj=>?_) ?_) rfl
         ·have zt:sz (2*kk K piv.length+1) (M p j / M p k):=by
           have:=Cs.sz tR hj;unfold Zcc at this;rwa [if_pos rfl] at this
          have zi:sz (kk K piv.length) (if i=p then M piv.length j else M i j):=by split;exact hC.sz tR hj;exact hC.sz hi hj
          have e5:Zmb M k piv.length p n i j i j=if i=p then M piv.length j else M i j:=by unfold Zmb;rw [if_neg (by omega),rd _ _ e]
          simp only;rw [decide_eq_true (by omega),Zf,Zhb _ hi,Za,Za,Z5 _ hj,Za,Zhb _ tR,Za,Z5 _ hj,Za,top0 _ _ _ hj,qmulB zc zt (by omega) (by omega),Za,e5,Zwi zi (ZAl zc zt) (by omega) (by omega),Za,Za,Zm (by omega) (by omega),Za];simp only [Int.toNat_natCast];rw [Zcb,ZVq];refine congrArg (fun x=>some (Sum.inl x)) (Prod.ext (by simp) (ZQd fun r hr l hl=>?_));by_cases e6:r=i
          ·subst e6;rw [if_pos rfl];by_cases e7:l=j
           ·subst e7;rw [if_pos rfl];have e9:Zmb M k piv.length p n r (l+1) r l=Zcc M k piv.length p r l:=by unfold Zmb;rw [if_pos (.inr ⟨rfl,by omega⟩)]
            rw [e9];unfold Zcc;rw [if_neg e]
           ·rw [if_neg e7];unfold Zmb;by_cases e8:l<j
            ·rw [if_pos (.inr ⟨rfl,e8⟩),if_pos (.inr ⟨rfl,by omega⟩)]
            ·rw [if_neg (by omega),if_neg (by omega)]
          ·rw [if_neg e6];unfold Zmb;by_cases e8:r<i
           ·rw [if_pos (.inl e8),if_pos (.inl e8)]
           ·rw [if_neg (by omega),if_neg (by omega)]
         ·simp only;rw [decide_eq_false (by omega),Ze];refine congrArg (fun x=>some (Sum.inr x)) (ZQd fun r hr l hl=>?_);unfold Zmb;by_cases e8:r<i+1
          ·rw [if_pos (by omega),if_pos (by omega)]
          ·rw [if_neg (by omega),if_neg (by omega)]
      ·rw [Zm (by omega) (by omega),Za];rfl
     ·simp only;rw [decide_eq_false (by omega),Ze];refine congrArg (fun x=>some (Sum.inr x)) (ZQd fun i hi j hj=>?_);unfold Zmb;rw [if_pos (by omega)]
     refine ZZb (y:=()) (Zsa (by simp [Zqf];omega)) ?_;refine ⟨_,rfl,Zcc M k piv.length p,piv++[k],_,?_,hI.step (ZNm h1 pR hlt nz),Cs.mono (by rw [List.length_append,List.length_singleton,ZGn];omega),(ZAl hd1 zf).mono (by rw [List.length_append,List.length_singleton,ZGn];omega)⟩;simp [Z3b]
  ·right;obtain rfl:k=n:=by omega
   refine ⟨_,by simp only;rw [decide_eq_false (by omega),Ze],M,piv,d,rfl,hI,hC.mono (ZAf (hr k M piv (Nat.le_refl _) hI))⟩
 ·obtain ⟨M,piv,d,rfl,hI,hC⟩:=hy;exact ⟨_,rfl,M,piv,d,rfl,hI,hC⟩
theorem Z4u {R n K:Nat} {M0:Mx} (h0:R=0→n=0) (hR:R≤1000) (hn:n≤1000) (hK:1≤K) (hz:CD K R n M0) (hk:kk K n≤274877906944) :
  ∃ z,Z3f (mx R n M0)=some z∧∃ M piv d,z=(mx R n M,Z3b piv,d)∧Eli R n M0 M piv n∧CD (kk K n) R n M :=
 Z5o h0 hR hn hK hz (fun k M piv hk h=>Nat.le_trans (ZMl h.inc h.lt) hk) hk
noncomputable def ZBh (m:List (List Rat)) (b:List (List Rat)):Option (List (List Rat)) :=
 bnd (mk 24 (m.length:Int) (m.length:Int)) fun _ =>
 bnd (Zp (σ:=Int×(List (List Rat))) (ρ:=List (List Rat)) (fun c =>
 ifb (decide (c.1<(m.length:Int)))
 (bnd (idx m c.1) fun g =>
 bnd (ZMe 56 g) fun h =>
 bnd (idx c.2 c.1) fun l =>
 bnd (chk .i64 (c.1+(1:Int))) fun i =>
 some (.inl (i,c.2.set c.1.toNat h)))
 (some (.inr c.2)))
  Zu ((0:Int),List.replicate (m.length:Int).toNat ([]:List Rat))) fun d =>
 bnd (Zp (σ:=Int×(List (List Rat))) (ρ:=List (List Rat)) (fun a =>
 ifb (decide (a.1<(d.length:Int)))
 (bnd (idx a.2 a.1) fun e =>
 bnd (idx b a.1) fun f =>
 bnd (ZN 56 (e++f)) fun _ =>
 bnd (idx a.2 a.1) fun n =>
 bnd (eqN a.1.toNat a.1.toNat) fun _ =>
 bnd (chk .i64 (a.1+(1:Int))) fun j =>
 some (.inl (j,a.2.set a.1.toNat (e++f))))
 (some (.inr a.2)))
  Zu ((0:Int),d)) fun k =>
 some k
noncomputable def ZJh (b:List Rat):Option (List (List Rat)) :=
 bnd (mk 24 (b.length:Int) (b.length:Int)) fun _ =>
 bnd (Zp (σ:=Int×(List (List Rat))) (ρ:=List (List Rat)) (fun a =>
 ifb (decide (a.1<(b.length:Int)))
 (bnd (idx b a.1) fun c =>
 bnd (idx a.2 a.1) fun f =>
 bnd (chk .i64 (a.1+(1:Int))) fun d =>
 some (.inl (d,a.2.set a.1.toNat [c])))
 (some (.inr a.2)))
  Zu ((0:Int),List.replicate (b.length:Int).toNat ([]:List Rat))) fun e =>
 some e
noncomputable def Zrh (m:List (List Rat)) (b:List Rat):Option ((List Rat)×Int) :=
 bnd (α:=Bool)
 (bnd (ZVd m) fun f =>
 ifb (!f)
 (some true)
 (some ((b.length:Int) != (m.length:Int)))) fun g =>
 ifb g
 (some (([]:List Rat),(4:Int)))
 (bnd (Z5b m) fun d =>
 bnd (ZJh b) fun h =>
 bnd (ZBh m h) fun i =>
 bnd (Z3f i) fun c =>
 bnd (α:=Bool)
 (ifb (decide ((0:Int)<(c.2.1.length:Int)))
 (bnd (chk .i64 ((c.2.1.length:Int)-(1:Int))) fun j =>
 bnd (idx c.2.1 j) fun k =>
 some (k==d))
 (some false)) fun l =>
 ifb l
 (some (([]:List Rat),(5:Int)))
 (bnd (Zqd (0:Int)) fun n =>
 bnd (ZYe 56 [n] d) fun o =>
 bnd (Zp (σ:=Int×(List Rat)) (ρ:=List Rat) (fun a =>
 ifb (decide (a.1<(c.2.1.length:Int)))
 (bnd (idx c.2.1 a.1) fun e =>
 bnd (idx c.1 a.1) fun p =>
 bnd (idx p d) fun q =>
 bnd (idx a.2 e) fun t =>
 bnd (chk .i64 (a.1+(1:Int))) fun r =>
 some (.inl (r,a.2.set e.toNat q)))
 (some (.inr a.2)))
    Zu ((0:Int),o)) fun s =>
 some (s,(0:Int))))
theorem sm_sz {k n:Nat} {f:Nat→Rat} (h:∀ j,j<n→sz k (f j)):sz (n*(k+1)+1) (sm n f):=by
 induction n with
 | zero=>exact Zqg.mono (by omega)
 | succ n ih =>
  have:=ZAb (ih fun j hj=>h j (by omega)) (h n (by omega));exact this.mono (by rw [Nat.succ_mul];omega)
theorem sz_lt {k:Nat} {x:Rat} (h:sz k x):x.num.natAbs<2^k∧x.den<2^k:=by
 have h1:=ZEd x.num.natAbs;have h2:=ZEd x.den;have h3:=Nat.pow_le_pow_right (show 0<2 by omega) h.1;have h4:=Nat.pow_le_pow_right (show 0<2 by omega) h.2;omega
theorem Zvq {k:Nat}:∀ l:List Rat,(∀ x,x ∈ l→sz k x)→∃ D:Int,D≠0∧D.natAbs<2^(k*l.length+1)∧∀ x,x ∈ l→∃ N:Int,x=(N:Rat) / (D:Rat)∧N.natAbs<2^(k*l.length+1)
 | [],_=>⟨1,by omega,by simp,fun x hx=>by simp at hx⟩
 | y :: l,h=>by
  obtain ⟨D,d0,d1,d2⟩:=Zvq l fun x hx=>h x (by simp [hx])
  obtain ⟨y1,y2⟩:=sz_lt (h y (by simp))
  have e:2^(k*(y :: l).length+1)=2^(k*l.length+1)*2^k:=by rw [← Nat.pow_add,List.length_cons,Nat.mul_succ];congr 1;omega
  have hD':(D:Rat)≠0:=fun e=>d0 (Rat.intCast_inj.1 (by rw [e];rfl))
  have hy:(y.den:Int)≠0:=by have:=y.den_nz;omega
  have hy':((y.den:Int):Rat)≠0:=fun e=>hy (Rat.intCast_inj.1 (by rw [e];rfl))
  have yv:y=(y.num:Rat) / ((y.den:Int):Rat):=by rw [← Rat.divInt_eq_div,Rat.num_divInt_den]
  refine ⟨D*y.den,fun e=>?_,?_,fun x hx=>?_⟩
  ·rcases Int.mul_eq_zero.1 e with h | h
   ·exact d0 h
   ·exact hy h
  ·have:=ZKf d1 (b:=(y.den:Int)) (B:=2^k) (by simpa using y2);omega
  ·rcases List.mem_cons.1 hx with rfl | hx
   ·refine ⟨D*x.num,?_,?_⟩
    ·rw [Rat.intCast_mul,Rat.intCast_mul]
     generalize ((x.den:Int):Rat)=d at *
     generalize (x.num:Rat)=m at *
     grind
    ·have:=ZKf d1 y1;omega
   ·obtain ⟨N,n1,n2⟩:=d2 x hx
    refine ⟨N*y.den,?_,?_⟩
    ·rw [Rat.intCast_mul,Rat.intCast_mul,n1]
     generalize ((y.den:Int):Rat)=d at *
     grind
    ·have:=ZKf n2 (b:=(y.den:Int)) (B:=2^k) (by simpa using y2);omega
theorem ZUw {R:Nat} (b:Nat→Rat) (hR:R≤1000):ZJh (vx R b)=some (vx R fun i=>[b i]):=by
 unfold ZJh;rw [ZT,ZZe (by omega) (by omega),Za];refine Zx (ZJa (fun k=>((k:Int),vx R fun i=>if i<k then [b i] else [])) R ?_ (by omega) (fun k hk=>?_) ?_) rfl
 ·simp only [Int.toNat_natCast,Zkf];refine Prod.ext rfl (Zia fun i hi=>?_);rw [if_neg (by omega)]
 ·simp only;rw [decide_eq_true (by omega),Zf,Z5 _ hk,Za,Z5 _ hk,Za,Zm (by omega) (by omega),Za];simp only [Int.toNat_natCast];rw [Zcb];refine congrArg (fun x=>some (Sum.inl x)) (Prod.ext (by simp) (Zia fun i hi=>?_));by_cases e:i=k
  ·rw [if_pos e,if_pos (by omega),e]
  ·rw [if_neg e];by_cases e2:i<k
   ·rw [if_pos e2,if_pos (by omega)]
   ·rw [if_neg e2,if_neg (by omega)]
 ·simp only;rw [decide_eq_false (by omega),Ze];exact congrArg (fun x=>some (Sum.inr x)) (Zia fun i hi=>if_pos hi)
theorem aug_row {n:Nat} {M:Mx} {b:Nat→Rat} (i:Nat):vx n (M i)++[b i]=vx (n+1) (aug n M b i):=by
 rw [← Zzb];unfold aug;rw [if_pos rfl];congr 1;exact Zia fun j hj=>by rw [if_neg (by omega)]
theorem ZNu {R n:Nat} (M:Mx) (b:Nat→Rat) (hR:R≤1000) (hn:n≤1000):ZBh (mx R n M) (vx R fun i=>[b i])=some (mx R (n+1) (aug n M b)):=by
 unfold ZBh;rw [ZRa,ZZe (by omega) (by omega),Za];have hc:=ZPo M hR hn;rw [ZRa] at hc;refine Zx hc ?_;refine Zx (ZJa (fun k=>((k:Int),vx R fun i=>if i<k then vx (n+1) (aug n M b i) else vx n (M i))) R ?_ (by omega) (fun k hk=>?_) ?_) rfl
 ·refine Prod.ext rfl (Zia fun i hi=>?_);rw [if_neg (by omega)]
 ·simp only [ZRa];rw [decide_eq_true (by omega),Zf,Z5 _ hk,Za,Z5 _ hk,Za,if_neg (by omega),aug_row,Zsa (by rw [ZT];omega),Za,Za];simp only [Int.toNat_natCast];rw [Zzi,Za,Zm (by omega) (by omega),Za,Zcb];refine congrArg (fun x=>some (Sum.inl x)) (Prod.ext (by simp) (Zia fun i hi=>?_));by_cases e:i=k
  ·rw [if_pos e,if_pos (by omega),e]
  ·rw [if_neg e];by_cases e2:i<k
   ·rw [if_pos e2,if_pos (by omega)]
   ·rw [if_neg e2,if_neg (by omega)]
 ·simp only [ZRa];rw [decide_eq_false (by omega),Ze];exact congrArg (fun x=>some (Sum.inr x)) (Zia fun i hi=>if_pos hi)
theorem Zxk {l:List Nat} {i c:Nat} (h:l[i]? = some c):idx (Z3b l) (i:Int)=some (c:Int):=Zam (by simp [Z3b,h])
theorem ZAq {b n:Nat} {a:Rat} (h:b*n≤281474976710656) (h2:n≤1000000000):ZYe b [a] (n:Int)=some (vx n fun _=>a):=by
 unfold ZYe;simp only;rw [ZZe h h2,Za,Int.toNat_natCast,Zkf]
theorem Zjt {R n:Nat} {N M:Mx} {piv:List Nat} (h:Eli R (n+1) N M piv (n+1)):n ∈ piv↔0<piv.length∧piv[piv.length-1]? = some n:=by
 constructor
 ·intro hm;obtain ⟨i,hi⟩:=List.getElem?_of_mem hm;have h1:=(List.getElem?_eq_some_iff.1 hi).1;refine ⟨by omega,?_⟩;by_cases e:i=piv.length-1
  ·rw [← e];exact hi
  ·have h2:piv[piv.length-1]? = some piv[piv.length-1]:=List.getElem?_eq_getElem (by omega);have h3:=Zmg h.inc hi h2 (by omega);have:=h.lt _ (List.mem_of_getElem? h2);omega
 ·exact fun hm=>List.mem_of_getElem? hm.2
theorem Any_r {R n K r:Nat} {M:Mx} {b:Nat→Rat} (h0:0<R) (hR:R≤32) (hn:n≤32) (hK:1≤K) (hz:CD K R (n+1) (aug n M b)) (hr:∀ k M' piv,k≤n+1→Eli R (n+1) (aug n M b) M' piv k→piv.length≤r) (hk:kk K r≤274877906944) :
  ∃ M' piv,Eli R (n+1) (aug n M b) M' piv (n+1)∧CD (kk K r) R (n+1) M'∧Zrh (mx R n M) (vx R b)=some (if n ∈ piv then ([],5) else (vx n (pv M' piv n),0)):=by
 obtain ⟨z,h1,M',piv,d,rfl,h2,h3⟩:=Z5o (R:=R) (n:=n+1) (fun e=>by omega) (by omega) (by omega) hK hz hr hk;refine ⟨M',piv,h2,h3,?_⟩;have hl:=Zjt h2;have pl:=ZMl h2.inc h2.lt;unfold Zrh;rw [ZPk M (fun e=>by omega) hR hn,Za,show (!true)=false from rfl,Ze,ZT,ZRa,Za,show ((R:Int) != (R:Int))=false by simp,Ze,ZGf M (fun e=>by omega),Za,ZUw b (by omega),Za,ZNu M b (by omega) (by omega),Za,h1,Za];simp only [Zqf];refine Zx (y:=decide (n ∈ piv)) ?_ ?_
 ·by_cases hp:0<piv.length
  ·rw [decide_eq_true (by omega),Zf,Zm (by omega) (by omega),Za];have h4:piv[piv.length-1]? = some piv[piv.length-1]:=List.getElem?_eq_getElem (by omega);rw [show ((piv.length:Int)-1)=((piv.length-1:Nat):Int) by omega,Zxk h4,Za];refine congrArg some ?_;rw [Bool.eq_iff_iff];simp only [beq_iff_eq,decide_eq_true_eq,hl,h4,hp,true_and,Option.some.injEq];omega
  ·rw [decide_eq_false (by omega),Ze,decide_eq_false (by rw [hl];omega)]
 by_cases hm:n ∈ piv
 ·rw [decide_eq_true hm,Zf,if_pos hm]
 ·rw [decide_eq_false hm,Ze,if_neg hm,ZTg,Za,ZAq (by omega) (by omega),Za];refine Zx (ZJa (fun k=>((k:Int),vx n fun d=>match piv.idxOf? d with
   | some i=>if i<k then M' i n else 0
   | none=>0)) piv.length ?_ (by omega) (fun k hkp=>?_) ?_) rfl
  ·refine Prod.ext rfl (Zia fun i hi=>?_);split
   ·rw [if_neg (by omega)];rfl
   ·rfl
  ·have hc:piv[k]? = some piv[k]:=List.getElem?_eq_getElem hkp;have hcn:piv[k]<n:=by
    have:=h2.lt _ (List.mem_of_getElem? hc);have:piv[k]≠n:=fun e=>hm (e ▸ List.mem_of_getElem? hc);omega
   simp only;rw [decide_eq_true (by omega),Zf,Zxk hc,Za,Zhb _ (by have:=h2.le;omega),Za,Z5 _ (by omega),Za,Z5 _ hcn,Za,Zm (by omega) (by omega),Za];simp only [Int.toNat_natCast];rw [Zcb];refine congrArg (fun x=>some (Sum.inl x)) (Prod.ext (by simp) (Zia fun i hi=>?_));by_cases e:i=piv[k]
   ·rw [if_pos e,e,ZOi h2.inc hc];simp
   ·rw [if_neg e]
    cases hx:piv.idxOf? i with
    | none=>rfl
    | some q =>
     have:q≠k:=fun e2=>by
      subst e2;unfold List.idxOf? at hx;obtain ⟨_,h6,_⟩:=List.findIdx?_eq_some_iff_getElem.1 hx;simp at h6;exact e h6.symm
     simp only;by_cases e3:q<k
     ·rw [if_pos e3,if_pos (by omega)]
     ·rw [if_neg e3,if_neg (by omega)]
  ·simp only;rw [decide_eq_false (by omega),Ze];refine congrArg (fun x=>some (Sum.inr x)) (Zia fun i hi=>?_);unfold pv
   cases hx:piv.idxOf? i with
   | none=>rfl
   | some q =>
    unfold List.idxOf? at hx;obtain ⟨h5,_⟩:=List.findIdx?_eq_some_iff_getElem.1 hx;simp only;rw [if_pos h5]
noncomputable def Zgn (x:Rat):Option Rat :=
 some x
noncomputable def Z2i (x:Rat):Option Rat :=
 bnd (Zgn x) fun a =>
 some a
noncomputable def Z5d (x:List Rat) (y:List Rat):Option Rat :=
 bnd (Zqd (0:Int)) fun b =>
 bnd (Zp (σ:=Int×Rat) (ρ:=Rat) (fun a =>
 ifb (decide (a.1<(x.length:Int)))
 (bnd (idx x a.1) fun c =>
 bnd (idx y a.1) fun d =>
 bnd (Zkb c d) fun e =>
 bnd (Zfa a.2 e) fun f =>
 bnd (chk .i64 (a.1+(1:Int))) fun g =>
 some (.inl (g,f)))
 (some (.inr a.2)))
  Zu ((0:Int),b)) fun h =>
 some h
noncomputable def Zuj (x:Rat):Option Rat :=
 some x
noncomputable def Zhi (a:List (List Rat)) (b:List (List Rat)):Option (List (List Rat)) :=
 bnd (α:=List (List Rat))
 (bnd (Z5b b) fun g =>
 bnd (mk 24 g g) fun _ =>
 bnd (Zp (σ:=Int×(List (List Rat))) (ρ:=List (List Rat)) (fun f =>
 ifb (decide (f.1<(b.length:Int)))
 (bnd (idx b f.1) fun h =>
 bnd (Zp (σ:=Int×(List (List Rat))) (ρ:=List (List Rat)) (fun c =>
 ifb (decide (c.1<(h.length:Int)))
 (bnd (idx h c.1) fun n =>
 bnd (idx c.2 c.1) fun i =>
 bnd (Zuj n) fun j =>
 bnd (ZN 56 (i++[j])) fun _ =>
 bnd (idx c.2 c.1) fun y =>
 bnd (eqN c.1.toNat c.1.toNat) fun _ =>
 bnd (chk .i64 (c.1+(1:Int))) fun o =>
 some (.inl (o,c.2.set c.1.toNat (i++[j]))))
 (some (.inr c.2)))
      Zu ((0:Int),f.2)) fun p =>
 bnd (chk .i64 (f.1+(1:Int))) fun q =>
 some (.inl (q,p)))
 (some (.inr f.2)))
   Zu ((0:Int),List.replicate g.toNat ([]:List Rat))) fun r =>
 some r) fun k =>
 bnd (mk 24 (a.length:Int) (a.length:Int)) fun _ =>
 bnd (Zp (σ:=Int×(List (List Rat))) (ρ:=List (List Rat)) (fun d =>
 ifb (decide (d.1<(a.length:Int)))
 (bnd (idx a d.1) fun s =>
 bnd (Zp (σ:=Int×(List (List Rat))) (ρ:=List (List Rat)) (fun e =>
 ifb (decide (e.1<(k.length:Int)))
 (bnd (idx k e.1) fun t =>
 bnd (idx e.2 d.1) fun l =>
 bnd (Z5d s t) fun m =>
 bnd (ZN 56 (l++[m])) fun _ =>
 bnd (idx e.2 d.1) fun z =>
 bnd (eqN d.1.toNat d.1.toNat) fun _ =>
 bnd (chk .i64 (e.1+(1:Int))) fun u =>
 some (.inl (u,e.2.set d.1.toNat (l++[m]))))
 (some (.inr e.2)))
     Zu ((0:Int),d.2)) fun v =>
 bnd (chk .i64 (d.1+(1:Int))) fun w =>
 some (.inl (w,v)))
 (some (.inr d.2)))
  Zu ((0:Int),List.replicate (a.length:Int).toNat ([]:List Rat))) fun x =>
 some x
noncomputable def ZVh (m:List (List Rat)) (x:List Rat):Option (List Rat) :=
 bnd (Zp (σ:=(List Rat)×Int) (ρ:=List Rat) (fun a =>
 ifb (decide (a.2<(m.length:Int)))
 (bnd (idx m a.2) fun c =>
 bnd (Z5d c x) fun b =>
 bnd (ZN 56 (a.1++[b])) fun _ =>
 bnd (chk .i64 (a.2+(1:Int))) fun d =>
 some (.inl (a.1++[b],d)))
 (some (.inr a.1)))
  Zu (([]:List Rat),(0:Int))) fun e =>
 some e
noncomputable def ZJi (m:List (List Rat)) (b:List Rat):Option ((List (List Rat))×(List Rat)) :=
 bnd (α:=List (List Rat))
 (bnd (Z5b m) fun d =>
 bnd (mk 24 d d) fun _ =>
 bnd (Zp (σ:=Int×(List (List Rat))) (ρ:=List (List Rat)) (fun c =>
 ifb (decide (c.1<(m.length:Int)))
 (bnd (idx m c.1) fun e =>
 bnd (Zp (σ:=Int×(List (List Rat))) (ρ:=List (List Rat)) (fun a =>
 ifb (decide (a.1<(e.length:Int)))
 (bnd (idx e a.1) fun i =>
 bnd (idx a.2 a.1) fun f =>
 bnd (Z2i i) fun g =>
 bnd (ZN 56 (f++[g])) fun _ =>
 bnd (idx a.2 a.1) fun q =>
 bnd (eqN a.1.toNat a.1.toNat) fun _ =>
 bnd (chk .i64 (a.1+(1:Int))) fun j =>
 some (.inl (j,a.2.set a.1.toNat (f++[g]))))
 (some (.inr a.2)))
      Zu ((0:Int),c.2)) fun k =>
 bnd (chk .i64 (c.1+(1:Int))) fun l =>
 some (.inl (l,k)))
 (some (.inr c.2)))
   Zu ((0:Int),List.replicate d.toNat ([]:List Rat))) fun n =>
 some n) fun h =>
 bnd (Zhi h m) fun o =>
 bnd (ZVh h b) fun p =>
 some (o,p)
theorem ZIm {k m n:Nat} {f g:Nat→Rat} (hf:∀ j,j<n→sz k (f j)) (hg:∀ j,j<n→sz m (g j)) (hn:n≤1000) (hk:(n+1)*(k+m+1)≤1099511627776):Z5d (vx n f) (vx n g)=some (sm n fun j=>f j*g j):=by
 unfold Z5d;rw [ZTg,Za,ZT];refine Zx (ZJa (fun q=>((q:Int),sm q fun j=>f j*g j)) n rfl (by omega) (fun q hq=>?_) ?_) rfl
 ·have z1:=ZAl (hf q hq) (hg q hq);have z2:sz (q*(k+m+1)+1) (sm q fun j=>f j*g j):=sm_sz fun j hj=>ZAl (hf j (by omega)) (hg j (by omega));have z3:q*(k+m+1)≤n*(k+m+1):=Nat.mul_le_mul_right _ (by omega);rw [Nat.succ_mul] at hk;simp only;rw [decide_eq_true (by omega),Zf,Z5 _ hq,Za,Z5 _ hq,Za,qmulB (hf q hq) (hg q hq) (by omega) (by omega),Za,ZWa z2 z1 (by omega) (by omega),Za,Zm (by omega) (by omega),Za];rfl
 ·simp only;rw [decide_eq_false (by omega),Ze]
theorem Zwp {k m n:Nat} {f g:Nat→Rat} (hf:∀ j,j<n→sz k (f j)) (hg:∀ j,j<n→sz m (g j)) (hn:n≤1000) (hk:k+m≤500000000):Z5d (vx n f) (vx n g)=some (sm n fun j=>f j*g j) :=
 ZIm hf hg hn (by
  have:(n+1)*(k+m+1)≤1001*(k+m+1):=Nat.mul_le_mul_right _ (by omega)
  omega)
theorem Z8p {R n:Nat} {M:Mx} {c:Rat→Option Rat} (hc:∀ x,c x=some x) (h0:R=0→n=0) (hR:R≤1000) (hn:n≤1000) :
 bnd (Z5b (mx R n M)) (fun y1 =>
  bnd (mk 24 y1 y1) fun _ =>
  bnd (Zp (σ:=Int×(List (List Rat))) (ρ:=List (List Rat)) (fun s2 =>
    ifb (decide (s2.1<((mx R n M).length:Int)))
    (bnd (idx (mx R n M) s2.1) fun y3 =>
     bnd (Zp (σ:=Int×(List (List Rat))) (ρ:=List (List Rat)) (fun s4 =>
       ifb (decide (s4.1<(y3.length:Int)))
       (bnd (idx y3 s4.1) fun y5 =>
        bnd (idx s4.2 s4.1) fun y6 =>
        bnd (c y5) fun y7 =>
        bnd (ZN 56 (y6++[y7])) fun _ =>
        bnd (idx s4.2 s4.1) fun y8 =>
        bnd (eqN s4.1.toNat s4.1.toNat) fun _ =>
        bnd (chk .i64 (s4.1+(1:Int))) fun y9 =>
        some (.inl (y9,s4.2.set s4.1.toNat (y6++[y7]))))
       (some (.inr s4.2)))
      Zu ((0:Int),s2.2)) fun x10 =>
     bnd (chk .i64 (s2.1+(1:Int))) fun y11 =>
     some (.inl (y11,x10)))
    (some (.inr s2.2)))
   Zu ((0:Int),List.replicate y1.toNat ([]:List Rat))) fun x12 =>
  some x12)=some (mx n R fun j i=>M i j):=by
  rw [ZGf M h0,Za,ZZe (by omega) (by omega),Za];refine Zx (ZJa (fun k=>((k:Int),vx n fun j=>vx k fun i=>M i j)) R ?_ (by omega) (fun k hk=>?_) ?_) rfl
  · simp only [Int.toNat_natCast,Zkf,vx_nil];rfl
  · simp only [ZRa];rw [decide_eq_true (by omega),Zf,Zhb _ hk,Za,ZT];refine Zx (y:=vx n fun j=>vx (k+1) fun i=>M i j) (ZJa (fun l=>((l:Int),vx n fun j=>if j<l then vx (k+1) (fun i=>M i j) else vx k (fun i=>M i j))) n ?_ (by omega) (fun l hl=>?_) ?_) ?_
    · refine Prod.ext rfl (Zia fun j hj=>?_);rw [if_neg (by omega)]
    · simp only;rw [decide_eq_true (by omega),Zf,Z5 _ hl,Za,Z5 _ hl,Za,hc,Za,if_neg (by omega),Zzb k (fun i=>M i l),Zsa (by rw [ZT];omega),Za,Za];simp only [Int.toNat_natCast];rw [Zzi,Za,Zm (by omega) (by omega),Za,Zcb];refine congrArg (fun x=>some (Sum.inl x)) (Prod.ext (by simp) (Zia fun j hj=>?_));by_cases e:j=l
      · rw [if_pos e,if_pos (by omega),e]
      · rw [if_neg e];by_cases e2:j<l
        · rw [if_pos e2,if_pos (by omega)]
        · rw [if_neg e2,if_neg (by omega)]
    · simp only;rw [decide_eq_false (by omega),Ze];exact congrArg (fun x=>some (Sum.inr x)) (Zia fun j hj=>if_pos hj)
    · rw [Zm (by omega) (by omega),Za];rfl
  · simp only [ZRa];rw [decide_eq_false (by omega),Ze];rfl
theorem ZVt {k m Q R n:Nat} {A B:Mx} (hA:∀ i j,i<Q→j<R→sz k (A i j)) (hB:∀ i j,i<R→j<n→sz m (B i j)) (h0:R=0→n=0) (hQ:Q≤1000) (hR:R≤1000) (hn:n≤1000) (hk:k+m≤500000000) :
  Zhi (mx Q R A) (mx R n B)=some (mx Q n fun i j=>sm R fun l=>A i l*B l j):=by
 unfold Zhi;refine Zx (Z8p (c:=Zuj) (fun x=>rfl) h0 hR hn) ?_;rw [ZRa,ZRa,ZZe (by omega) (by omega),Za];refine Zx (ZJa (fun i=>((i:Int),vx Q fun r=>if r<i then vx n (fun j=>sm R fun l=>A r l*B l j) else [])) Q ?_ (by omega) (fun i hi=>?_) ?_) rfl
 ·simp only [Int.toNat_natCast,Zkf];refine Prod.ext rfl (Zia fun r hr=>?_);rw [if_neg (by omega)]
 ·simp only;rw [decide_eq_true (by omega),Zf,Zhb _ hi,Za];refine Zx (y:=vx Q fun r=>if r<i+1 then vx n (fun j=>sm R fun l=>A r l*B l j) else []) (ZJa (fun q=>((q:Int),vx Q fun r=>if r<i then vx n (fun j=>sm R fun l=>A r l*B l j) else if r=i then vx q (fun j=>sm R fun l=>A r l*B l j) else [])) n ?_ (by omega) (fun q hq=>?_) ?_) ?_
  ·refine Prod.ext rfl (Zia fun r hr=>?_);by_cases e:r<i
   ·rw [if_pos e,if_pos e]
   ·rw [if_neg e,if_neg e];split <;> rfl
  ·simp only;rw [decide_eq_true (by omega),Zf,Zhb _ hq,Za,Z5 _ hi,Za,Zwp (fun j hj=>hA i j hi hj) (fun j hj=>hB j q hj hq) hR hk,Za,if_neg (by omega),if_pos rfl,Zzb q (fun j=>sm R fun l=>A i l*B l j),Zsa (by rw [ZT];omega),Za,Za];simp only [Int.toNat_natCast];rw [Zzi,Za,Zm (by omega) (by omega),Za,Zcb];refine congrArg (fun x=>some (Sum.inl x)) (Prod.ext (by simp) (Zia fun r hr=>?_));by_cases e:r=i
   ·subst e;rw [if_pos rfl,if_neg (by omega),if_pos rfl]
   ·rw [if_neg e,if_neg e,if_neg e]
  ·simp only;rw [decide_eq_false (by omega),Ze];refine congrArg (fun x=>some (Sum.inr x)) (Zia fun r hr=>?_);by_cases e:r<i
   ·rw [if_pos e,if_pos (by omega)]
   ·rw [if_neg e];by_cases e2:r=i
    ·rw [if_pos e2,if_pos (by omega)]
    ·rw [if_neg e2,if_neg (by omega)]
  ·rw [Zm (by omega) (by omega),Za];rfl
 ·simp only;rw [decide_eq_false (by omega),Ze];exact congrArg (fun x=>some (Sum.inr x)) (Zia fun r hr=>if_pos hr)
theorem ZPu {k m R n:Nat} {M:Mx} {x:Nat→Rat} (hM:∀ i j,i<R→j<n→sz k (M i j)) (hx:∀ j,j<n→sz m (x j)) (hR:R≤1000) (hn:n≤1000) (hk:k+m≤500000000) :
  ZVh (mx R n M) (vx n x)=some (vx R fun i=>sm n fun j=>M i j*x j):=by
 unfold ZVh;refine Zx (ZJa (fun i=>(vx i (fun i=>sm n fun j=>M i j*x j),(i:Int))) R rfl (by omega) (fun i hi=>?_) ?_) rfl
 ·simp only [ZRa];rw [decide_eq_true (by omega),Zf,Zhb _ hi,Za,Zwp (fun j hj=>hM i j hi hj) hx hn hk,Za,Zzb i (fun i=>sm n fun j=>M i j*x j),Zsa (by rw [ZT];omega),Za,Zm (by omega) (by omega),Za];rfl
 ·simp only [ZRa];rw [decide_eq_false (by omega),Ze]
def nmM (R:Nat) (M:Mx):Mx:=fun i j=>sm R fun l=>M l i*M l j
def nmB (R:Nat) (M:Mx) (b:Nat→Rat):Nat→Rat:=fun i=>sm R fun l=>M l i*b l
theorem ZSv {k R n:Nat} {M:Mx} {b:Nat→Rat} (hM:∀ i j,i<R→j<n→sz k (M i j)) (hb:∀ i,i<R→sz k (b i)) (h0:R=0→n=0) (hR:R≤1000) (hn:n≤1000) (hk:2*k≤500000000) :
  ZJi (mx R n M) (vx R b)=some (mx n n (nmM R M),vx n (nmB R M b)):=by
 unfold ZJi;refine Zx (Z8p (c:=Z2i) (fun x=>rfl) h0 hR hn) ?_;rw [ZVt (k:=k) (m:=k) (fun i j hi hj=>hM j i hj hi) hM h0 hn hR hn (by omega),Za,ZPu (k:=k) (m:=k) (fun i j hi hj=>hM j i hj hi) hb hn hR (by omega),Za];rfl
theorem Zex {n:Nat} {f:Nat→Rat} (h:∀ j,j<n→0≤f j):0≤sm n f:=by
 induction n with
 | zero=>show (0:Rat)≤0;grind
 | succ n ih =>
  have h1:=ih fun j hj=>h j (by omega);have h2:=h n (by omega);show 0≤sm n f+f n;grind
theorem Z7s {n:Nat} {f:Nat→Rat} (h:∀ j,j<n→0≤f j) (hs:sm n f=0):∀ j,j<n→f j=0:=by
 induction n with
 | zero=>intro j hj;omega
 | succ n ih =>
  have h1:=Zex fun j (hj:j<n)=>h j (by omega);have h2:=h n (by omega);have hs':sm n f+f n=0:=hs;intro j hj;rcases Nat.lt_or_ge j n with h3 | h3
  ·exact ih (fun j hj=>h j (by omega)) (by grind) j h3
  ·rw [show j=n by omega];grind
theorem ZYq (R n:Nat) (M:Mx) (v:Nat→Rat) (i:Nat):sm n (fun j=>nmM R M i j*v j)=sm R fun l=>M l i*sm n fun j=>M l j*v j:=by
 rw [Z7 (g:=fun j=>sm R fun l=>M l i*M l j*v j) fun j hj=>?_,Zhg]
 ·refine Z7 fun l hl=>?_;rw [← Znb];exact Z7 fun j hj=>by grind
 ·show sm R (fun l=>M l i*M l j)*v j=_;rw [Rat.mul_comm,← Znb];exact Z7 fun l hl=>by grind
theorem ZNo {R n:Nat} {M:Mx} {v:Nat→Rat} (h:Ker n n (nmM R M) v):Ker R n M v:=by
 have e:sm R (fun l=>(sm n fun j=>M l j*v j)*(sm n fun j=>M l j*v j))=0:=by
  have:sm n (fun i=>v i*sm n fun j=>nmM R M i j*v j)=0:=Z1b fun i hi=>by rw [h i hi];grind
  rw [Z7 (g:=fun i=>sm R fun l=>v i*M l i*sm n fun j=>M l j*v j) fun i hi=>by rw [ZYq,← Znb];exact Z7 fun l hl=>by grind,Zhg] at this;rw [← this];refine Z7 fun l hl=>?_;rw [← Znb];refine Z7 fun i hi=>?_;grind
 intro i hi;have:=Z7s (fun l hl=>Zhv _) e i hi;rcases Rat.mul_eq_zero.1 this with h | h <;> exact h
noncomputable def ZBi (l:(List Int)) (v:Int):Option (Int) :=
 bnd (bnd (Zp (fun s:Int=>match s with
 | a =>
 (ifb (decide (a<(l.length:Int)))
 (bnd (idx l a) fun b =>
 ifb (v==b)
 (some (.inr ((.inl a))))
 (bnd (chk .i64 (a+(1:Int))) fun c =>
 some (.inl c)))
 (some (.inr ((.inr (()))))))) Zu (0:Int))
 (fun (p:(Int) ⊕ (Unit))=>match p with
 | .inl d =>
 (some ((.inr d)))
 | .inr (()) =>
 (some ((.inl (()))))))
 (fun (p:(Unit) ⊕ (Int))=>match p with
 | .inl (()) =>
 (some (-1:Int))
 | .inr e =>
 (some e))
noncomputable def Zli (l:(List Int)) (v:Int):Option (Bool) :=
 bnd (ZBi l v) fun a =>
 some (decide ((0:Int)≤a))
noncomputable def Zoh (m:List (List Rat)):Option ((List (List Rat))×Int) :=
 bnd (ZVd m) fun g =>
 ifb (!g)
 (some (([]:List (List Rat)),(4:Int)))
 (bnd (Z3f m) fun c =>
 bnd (Z5b m) fun h =>
 bnd (Zp (σ:=(List (List Rat))×Int) (ρ:=List (List Rat)) (fun a =>
 ifb (decide (a.2<h))
 (bnd (α:=List (List Rat))
 (bnd (Zli c.2.1 a.2) fun i =>
 ifb i
 (some a.1)
 (bnd (Z5b m) fun j =>
 bnd (Zqd (0:Int)) fun k =>
 bnd (ZYe 56 [k] j) fun d =>
 bnd (Zqd (1:Int)) fun l =>
 bnd (idx d a.2) fun u =>
 bnd (Zp (σ:=Int×(List Rat)) (ρ:=List Rat) (fun b =>
 ifb (decide (b.1<(c.2.1.length:Int)))
 (bnd (idx c.2.1 b.1) fun e =>
 bnd (idx c.1 b.1) fun n =>
 bnd (idx n a.2) fun o =>
 bnd (Zne o) fun p =>
 bnd (idx b.2 e) fun v =>
 bnd (chk .i64 (b.1+(1:Int))) fun q =>
 some (.inl (q,b.2.set e.toNat p)))
 (some (.inr b.2)))
        Zu ((0:Int),d.set a.2.toNat l)) fun f =>
 bnd (ZN 24 (a.1++[f])) fun _ =>
 some (a.1++[f]))) fun r =>
 bnd (chk .i64 (a.2+(1:Int))) fun s =>
 some (.inl (r,s)))
 (some (.inr a.1)))
   Zu (([]:List (List Rat)),(0:Int))) fun t =>
 some (t,(0:Int)))
noncomputable def ZVg (m:List (List Rat)) (c:List Rat):Option (Bool×(List Rat)×Int) :=
 bnd (α:=Bool)
 (bnd (ZVd m) fun f =>
 ifb (!f)
 (some true)
 (bnd (Z5b m) fun g =>
 some ((c.length:Int) != g))) fun h =>
 ifb h
 (some (false,([]:List Rat),(4:Int)))
 (bnd (Zoh m) fun d =>
 bnd (Zp (σ:=Int) (ρ:=Unit ⊕ (Bool×(List Rat)×Int)) (fun a =>
 ifb (decide (a<(d.1.length:Int)))
 (bnd (idx d.1 a) fun e =>
 bnd (Z5d c e) fun i =>
 bnd (Zad i) fun j =>
 ifb (!j)
 (some (.inr (.inr (false,e,(0:Int)))))
 (bnd (chk .i64 (a+(1:Int))) fun k =>
 some (.inl k)))
 (some (.inr (.inl ()))))
   Zu (0:Int)) fun l =>
  match l with
 | .inl n=>(some (true,([]:List Rat),(0:Int)))
 | .inr b=>(some (b.1,b.2.1,b.2.2)))
theorem Zbu (l:List Nat) (c:Nat) (hl:l.length≤1000):∃ z,ZBi (Z3b l) (c:Int)=some z∧(0≤z↔c ∈ l):=by
 unfold ZBi;rw [Zga];refine ZTh (fun k s=>s=(k:Int)∧∀ i,i<k→l[i]? ≠ some c) (fun r=>(∃ i:Nat,r = .inl (i:Int)∧l[i]? = some c)∨(r = .inr ()∧c ∉ l)) l.length ⟨rfl,fun i hi=>by omega⟩ (by omega) (fun k s hk hs=>?_) (fun r hr=>?_)
 ·obtain ⟨rfl,h⟩:=hs;simp only [Zqf];by_cases hlt:k<l.length
  ·have hc:l[k]? = some l[k]:=List.getElem?_eq_getElem hlt;rw [decide_eq_true (by omega),Zf,Zxk hc,Za];by_cases e:l[k]=c
   ·right;refine ⟨_,by rw [show ((c:Int)==((l[k]:Nat):Int))=true by simp [e],Zf],.inl ⟨k,rfl,by rw [hc,e]⟩⟩
   ·left;refine ⟨((k+1:Nat):Int),hlt,by rw [show ((c:Int)==((l[k]:Nat):Int))=false by simp;omega,Ze,Zm (by omega) (by omega),Za];rfl,rfl,fun i hi=>?_⟩;by_cases e2:i=k
    ·subst e2;rw [hc];exact fun h=>e (Option.some.inj h)
    ·exact h i (by omega)
  ·right;refine ⟨_,by rw [decide_eq_false (by omega),Ze],.inr ⟨rfl,fun hm=>?_⟩⟩;obtain ⟨i,hi⟩:=List.getElem?_of_mem hm;have:=(List.getElem?_eq_some_iff.1 hi).1;exact h i (by omega) hi
 ·rcases hr with ⟨i,rfl,h⟩ | ⟨rfl,h⟩
  ·exact ⟨(i:Int),rfl,⟨fun _=>List.mem_of_getElem? h,fun _=>by omega⟩⟩
  ·exact ⟨-1,rfl,⟨fun h2=>by omega,fun h2=>absurd h2 h⟩⟩
theorem Zmt (l:List Nat) (c:Nat) (hl:l.length≤1000):Zli (Z3b l) (c:Int)=some (decide (c ∈ l)):=by
 obtain ⟨z,h1,h2⟩:=Zbu l c hl;unfold Zli;rw [h1,Za];refine congrArg some ?_;rw [Bool.eq_iff_iff];simpa using h2
def ZNa (piv:List Nat) (k:Nat):List Nat:=(List.range k).filter fun j=>decide (j ∉ piv)
theorem Z9v {R n K:Nat} {M:Mx} (h0:R=0→n=0) (hR:R≤32) (hn:n≤32) (hK:1≤K) (hz:CD K R n M) (hk:kk K n≤274877906944) :
  ∃ M' piv,Eli R n M M' piv n∧CD (kk K n) R n M'∧Zoh (mx R n M)=some ((ZNa piv n).map (fun j=>vx n (kv M' piv j)),0):=by
 obtain ⟨z,h1,M',piv,d,rfl,h2,h3⟩:=Z4u h0 (by omega) (by omega) hK hz hk;refine ⟨M',piv,h2,h3,?_⟩;have pl:=ZMl h2.inc h2.lt;have pR:=h2.le;unfold Zoh;rw [ZPk M h0 hR hn,Za,show (!true)=false from rfl,Ze,h1,Za,ZGf M h0,Za];refine Zx (ZJa (fun k=>((ZNa piv k).map (fun j=>vx n (kv M' piv j)),(k:Int))) n rfl (by omega) (fun k hkn=>?_) ?_) rfl
 ·simp only;rw [decide_eq_true (by omega),Zf];refine Zx (y:=(ZNa piv (k+1)).map (fun j=>vx n (kv M' piv j))) ?_ ?_
  ·rw [Zmt _ _ (by omega),Za];have ef:ZNa piv (k+1)=ZNa piv k++if k ∈ piv then [] else [k]:=by
    unfold ZNa;rw [List.range_succ,List.filter_append];by_cases e:k ∈ piv <;> simp [e]
   by_cases hm:k ∈ piv
   ·rw [decide_eq_true hm,Zf,ef,if_pos hm,List.append_nil]
   ·rw [decide_eq_false hm,Ze,Za,ZTg,Za,ZAq (by omega) (by omega),Za,ZTg,Za,Z5 _ hkn,Za];simp only [Int.toNat_natCast];refine Zx (y:=vx n (kv M' piv k)) (ZJa (fun i=>((i:Int),vx n fun d=>if d=k then 1 else match piv.idxOf? d with
     | some q=>if q<i then-M' q k else 0
     | none=>0)) piv.length ?_ (by omega) (fun i hip=>?_) ?_) ?_
    ·rw [Zcb];refine Prod.ext rfl (Zia fun d hd=>?_);by_cases e:d=k
     ·rw [if_pos e,if_pos e];rfl
     ·rw [if_neg e,if_neg e];split
      ·rw [if_neg (by omega)];rfl
      ·rfl
    ·have hc:piv[i]? = some piv[i]:=List.getElem?_eq_getElem hip;have hcn:piv[i]<n:=h2.lt _ (List.mem_of_getElem? hc);simp only [Zqf];rw [decide_eq_true (by omega),Zf,Zxk hc,Za,Zhb _ (by omega),Za,Z5 _ hkn,Za];unfold Zne;rw [Za,Z5 _ hcn,Za,Zm (by omega) (by omega),Za];simp only [Int.toNat_natCast];rw [Zcb];refine congrArg (fun x=>some (Sum.inl x)) (Prod.ext (by simp) (Zia fun d hd=>?_));by_cases e:d=piv[i]
     ·have hne:d≠k:=fun e2=>hm (by rw [← e2,e];exact List.mem_of_getElem? hc);rw [if_pos e,if_neg hne,e,ZOi h2.inc hc];simp
     ·rw [if_neg e];by_cases e1:d=k
      ·rw [if_pos e1,if_pos e1]
      ·rw [if_neg e1,if_neg e1]
       cases hx:piv.idxOf? d with
       | none=>rfl
       | some q =>
        have:q≠i:=fun e2=>by
         subst e2;unfold List.idxOf? at hx;obtain ⟨_,h6,_⟩:=List.findIdx?_eq_some_iff_getElem.1 hx;simp at h6;exact e h6.symm
        simp only;by_cases e3:q<i
        ·rw [if_pos e3,if_pos (by omega)]
        ·rw [if_neg e3,if_neg (by omega)]
    ·simp only [Zqf];rw [decide_eq_false (by omega),Ze];refine congrArg (fun x=>some (Sum.inr x)) (Zia fun d hd=>?_);unfold kv;by_cases e:d=k
     ·rw [if_pos e,if_pos e]
     ·rw [if_neg e,if_neg e]
      cases hx:piv.idxOf? d with
      | none=>rfl
      | some q =>
       unfold List.idxOf? at hx;obtain ⟨h5,_⟩:=List.findIdx?_eq_some_iff_getElem.1 hx;simp only;rw [if_pos h5]
    ·have e4:(ZNa piv k).map (fun j=>vx n (kv M' piv j))++[vx n (kv M' piv k)]=(ZNa piv (k+1)).map (fun j=>vx n (kv M' piv j)):=by rw [ef,if_neg hm,List.map_append];rfl
     rw [e4];have hfl:(ZNa piv (k+1)).length≤k+1:=by
      unfold ZNa;have:=List.length_filter_le (fun j=>decide (j ∉ piv)) (List.range (k+1))
      rwa [List.length_range] at this
     rw [Zsa (by rw [List.length_map];omega),Za]
  ·rw [Zm (by omega) (by omega),Za];rfl
 ·simp only;rw [decide_eq_false (by omega),Ze]
theorem kv_sz {K R n:Nat} {M':Mx} {piv:List Nat} (hC:CD K R n M') (hK:1≤K) (hpl:piv.length≤R) {j:Nat} (hj:j<n) (d:Nat):sz K (kv M' piv j d):=by
 unfold kv;split
 ·exact Z2h.mono hK
 ·cases hx:piv.idxOf? d with
  | none=>exact Zqg.mono hK
  | some q =>
   unfold List.idxOf? at hx;obtain ⟨h5,_⟩:=List.findIdx?_eq_some_iff_getElem.1 hx;exact Z3q (hC.sz (by omega) hj)
theorem Z8l {K n:Nat} (h:1≤K):1≤kk K n:=by
 have:=ZAf (K:=K) (k:=0) (n:=n) (Nat.zero_le _);unfold kk at this;unfold kk;simp at this;omega
theorem Zpo {R n K m:Nat} {M:Mx} {c:Nat→Rat} (h0:R=0→n=0) (hR:R≤32) (hn:n≤32) (hK:1≤K) (hz:CD K R n M) (hk:kk K n≤17179869184) (hc:∀ j,j<n→sz m (c j)) (hm:m≤10000000000) :
  ∃ z,ZVg (mx R n M) (vx n c)=some z∧((z=(true,[],0)∧∀ v,Ker R n M v→sm n (fun j=>c j*v j)=0) ∨ ∃ v,Ker R n M v∧sm n (fun j=>c j*v j)≠0∧z=(false,vx n v,0)∧∀ j,j<n→sz (kk K n) (v j)):=by
 obtain ⟨M',piv,h2,h3,h4⟩:=Z9v h0 hR hn hK hz (by omega);unfold ZVg;refine ZZb (y:=false) ?_ ?_
 ·rw [ZPk M h0 hR hn,Za,show (!true)=false from rfl,Ze,ZGf M h0,Za,ZT];exact congrArg some (by simp)
 rw [Ze,h4,Za];have hf:∀ j,j ∈ ZNa piv n→j<n∧j ∉ piv:=fun j hj=>by
  unfold ZNa at hj;have:=List.mem_filter.1 hj;exact ⟨List.mem_range.1 this.1,by simpa using this.2⟩
 have hfl:(ZNa piv n).length≤n:=by
  unfold ZNa;have:=List.length_filter_le (fun j=>decide (j ∉ piv)) (List.range n)
  rwa [List.length_range] at this
 refine ZTh (fun k s=>s=(k:Int)∧∀ i,i<k→∀ j,(ZNa piv n)[i]? = some j→sm n (fun d=>c d*kv M' piv j d)=0) (fun r=>(r = .inl ()∧∀ j,j ∈ ZNa piv n→sm n (fun d=>c d*kv M' piv j d)=0) ∨ ∃ v,Ker R n M v∧sm n (fun j=>c j*v j)≠0∧r = .inr (false,vx n v,0)∧∀ j,j<n→sz (kk K n) (v j)) (ZNa piv n).length ⟨rfl,fun i hi=>by omega⟩ (by omega) (fun k s hkl hs=>?_) (fun r hr=>?_)
 ·obtain ⟨rfl,h⟩:=hs;simp only [List.length_map];by_cases hlt:k<(ZNa piv n).length
  ·have hg:(ZNa piv n)[k]? = some (ZNa piv n)[k]:=List.getElem?_eq_getElem hlt;obtain ⟨g1,g2⟩:=hf _ (List.mem_of_getElem? hg);have hdot:=ZIm (f:=c) (g:=kv M' piv (ZNa piv n)[k]) (k:=m) (m:=kk K n) hc (fun j hj=>kv_sz h3 (Z8l hK) h2.le g1 j) (by omega) (by
    have:(n+1)*(m+kk K n+1)≤33*(m+kk K n+1):=Nat.mul_le_mul_right _ (by omega);omega)
   rw [decide_eq_true (by omega),Zf,Zam (x:=vx n (kv M' piv (ZNa piv n)[k])) (by rw [List.getElem?_map,hg];rfl),Za,hdot,Za];unfold Zad;rw [Za];by_cases e:sm n (fun d=>c d*kv M' piv (ZNa piv n)[k] d)=0
   ·left;refine ⟨((k+1:Nat):Int),hlt,by rw [decide_eq_true e,show (!true)=false from rfl,Ze,Zm (by omega) (by omega),Za];rfl,rfl,fun i hi j hj=>?_⟩;by_cases e2:i=k
    ·subst e2;rw [hg] at hj;cases hj;exact e
    ·exact h i (by omega) j hj
   ·right;exact ⟨_,by rw [decide_eq_false e,show (!false)=true from rfl,Zf],.inr ⟨_,h2.kv_ker g1 g2,e,rfl,fun j hj=>kv_sz h3 (Z8l hK) h2.le g1 j⟩⟩
  ·right;refine ⟨_,by rw [decide_eq_false (by omega),Ze],.inl ⟨rfl,fun j hj=>?_⟩⟩;obtain ⟨i,hi⟩:=List.getElem?_of_mem hj;have:=(List.getElem?_eq_some_iff.1 hi).1;exact h i (by omega) j hi
 ·rcases hr with ⟨rfl,h⟩ | ⟨v,h5,h6,rfl,h7⟩
  ·refine ⟨_,rfl,.inl ⟨rfl,fun v hv=>?_⟩⟩;rw [Z7 (g:=fun d=>sm n fun j=>if j ∈ piv then 0 else v j*(c d*kv M' piv j d)) fun d hd=>?_,Zhg]
   ·refine Z1b fun j hj=>?_;by_cases e:j ∈ piv
    ·exact Z1b fun d hd=>by rw [if_pos e]
    ·rw [Z7 (g:=fun d=>v j*(c d*kv M' piv j d)) fun d hd=>by rw [if_neg e],Znb,h j (List.mem_filter.2 ⟨List.mem_range.2 hj,by simpa using e⟩)];grind
   ·rw [h2.span hv d hd,← Znb];refine Z7 fun j hj=>?_;split <;> grind
  ·exact ⟨_,rfl,.inr ⟨v,h5,h6,rfl,h7⟩⟩
noncomputable def Zqh (x:Rat) (y:Rat):Option (Rat) :=
 bnd (Zbd x y) fun a =>
 some a.1
noncomputable def Zdb (n:Int):Option (Rat) :=
 bnd (ZJc n) fun a =>
 some a
theorem Zyr (n:Int):Zdb n=some (n:Rat):=by unfold Zdb ZJc;rw [Za]
noncomputable def Zah (z:Int×Int×Int×Int×Rat):Option (Int×Int×Int×Int) :=
 some (z.1,z.2.1,z.2.2.1,z.2.2.2.1)
noncomputable def ZTd (z:Int×Int×Int×Int):Option (Int×Int×Int×Int) :=
 some (z.1,z.2.1,z.2.2.1,z.2.2.2)
noncomputable def ZPh (z:Int×Int×Int×Int) (l:List (Int×Int×Int×Int×Rat)):Option Int :=
 bnd (ZTd z) fun a =>
 bnd (α:=Int)
 (bnd (Zp (σ:=Int) (ρ:=Unit ⊕ Int) (fun c =>
 ifb (decide (c<([a.1,a.2.1,a.2.2.1,a.2.2.2].length:Int)))
 (bnd (idx [a.1,a.2.1,a.2.2.1,a.2.2.2] c) fun e =>
 bnd (α:=Bool)
 (ifb (decide (e<(1:Int)))
 (some true)
 (some (decide ((8:Int)<e)))) fun f =>
 ifb f
 (some (.inr (.inr c)))
 (bnd (chk .i64 (c+(1:Int))) fun g =>
 some (.inl g)))
 (some (.inr (.inl ()))))
   Zu (0:Int)) fun h =>
  match h with
 | .inl u=>(some (-1:Int))
 | .inr i=>(some i)) fun j =>
 ifb (decide ((0:Int)≤j))
 (some (1:Int))
 (bnd (α:=Bool)
 (ifb ((l.length:Int)==(0:Int))
 (some true)
 (some (decide ((32:Int)<(l.length:Int))))) fun k =>
 ifb k
 (some (4:Int))
 (bnd (Zp (σ:=Int) (ρ:=Unit ⊕ Int) (fun d =>
 ifb (decide (d<(l.length:Int)))
 (bnd (idx l d) fun m =>
 bnd (Zah m) fun b =>
 bnd (α:=Bool)
 (ifb (decide (b.1<(0:Int)))
 (some true)
 (some (decide (a.1≤b.1)))) fun n =>
 ifb n
 (some (.inr (.inr (1:Int))))
 (bnd (α:=Bool)
 (ifb (decide (b.2.1<(0:Int)))
 (some true)
 (some (decide (a.2.1≤b.2.1)))) fun o =>
 ifb o
 (some (.inr (.inr (1:Int))))
 (bnd (α:=Bool)
 (ifb (decide (b.2.2.1<(0:Int)))
 (some true)
 (some (decide (a.2.2.1≤b.2.2.1)))) fun p =>
 ifb p
 (some (.inr (.inr (1:Int))))
 (bnd (α:=Bool)
 (ifb (decide (b.2.2.2<(0:Int)))
 (some true)
 (some (decide (a.2.2.2≤b.2.2.2)))) fun q =>
 ifb q
 (some (.inr (.inr (1:Int))))
 (bnd (chk .i64 (d+(1:Int))) fun r =>
 some (.inl r))))))
 (some (.inr (.inl ()))))
    Zu (0:Int)) fun s =>
   match s with
 | .inl v=>(some (0:Int))
 | .inr t=>(some t)))
noncomputable def ZWe (z:Int×Int×Int×Int):Option Int :=
 bnd (chk .i64 (z.1+z.2.1)) fun a =>
 bnd (chk .i64 (a+z.2.2.1)) fun b =>
 bnd (chk .i64 (b+z.2.2.2)) fun c =>
 some c
noncomputable def Zzf (z:Int×Int×Int×Int) (l:List (Int×Int×Int×Int×Rat)):Option ((List (List Rat))×Int) :=
 bnd (ZPh z l) fun k =>
 ifb (k != (0:Int))
 (some (([]:List (List Rat)),k))
 (bnd (Zp (σ:=(List (List Rat))×Int) (ρ:=List (List Rat)) (fun b =>
 ifb (decide (b.2<(l.length:Int)))
 (bnd (idx l b.2) fun q =>
 bnd (ZWe z) fun a =>
 bnd (mk 56 a a) fun _ =>
 bnd (Zah q) fun f =>
 bnd (chk .i64 ((0:Int)+f.1)) fun c =>
 bnd (Zdb (1:Int)) fun d =>
 bnd (idx (List.replicate a.toNat (0:Rat)) c) fun x =>
 bnd (ZTd z) fun r =>
 bnd (chk .i64 ((0:Int)+r.1)) fun m =>
 bnd (chk .i64 (m+f.2.1)) fun e =>
 bnd (Zdb (1:Int)) fun g =>
 bnd (idx ((List.replicate a.toNat (0:Rat)).set c.toNat d) e) fun y =>
 bnd (ZTd z) fun s =>
 bnd (chk .i64 (m+s.2.1)) fun n =>
 bnd (chk .i64 (n+f.2.2.1)) fun h =>
 bnd (Zdb (1:Int)) fun i =>
 bnd (idx (((List.replicate a.toNat (0:Rat)).set c.toNat d).set e.toNat g) h) fun A =>
 bnd (ZTd z) fun t =>
 bnd (chk .i64 (n+t.2.2.1)) fun o =>
 bnd (chk .i64 (o+f.2.2.2)) fun j =>
 bnd (Zdb (1:Int)) fun p =>
 bnd (idx ((((List.replicate a.toNat (0:Rat)).set c.toNat d).set e.toNat g).set h.toNat i) j) fun B =>
 bnd (ZTd z) fun u =>
 bnd (chk .i64 (o+u.2.2.2)) fun C =>
 bnd (ZN 24 (b.1++[((((List.replicate a.toNat (0:Rat)).set c.toNat d).set e.toNat g).set h.toNat i).set j.toNat p])) fun _ =>
 bnd (chk .i64 (b.2+(1:Int))) fun v =>
 some (.inl (b.1++[((((List.replicate a.toNat (0:Rat)).set c.toNat d).set e.toNat g).set h.toNat i).set j.toNat p],v)))
 (some (.inr b.1)))
   Zu (([]:List (List Rat)),(0:Int))) fun w =>
 some (w,(0:Int)))
noncomputable def ZWg (z:Int×Int×Int×Int) (l:List (Int×Int×Int×Int×Rat)) (a:Int) (b:Int):Option ((List (List Rat))×(List Rat)×Int) :=
 bnd (Zzf z l) fun d =>
 bnd (α:=Bool)
 (ifb (d.2==(0:Int))
 (ifb (decide (a<(0:Int)))
 (some true)
 (ifb (decide (z.1≤a))
 (some true)
 (ifb (decide (b<(0:Int)))
 (some true)
 (some (decide (z.1≤b))))))
 (some false)) fun g =>
 bnd (α:=Int)
 (ifb g
 (some (1:Int))
 (some d.2)) fun f =>
 ifb (f != (0:Int))
 (some (([]:List (List Rat)),([]:List Rat),f))
 (bnd (ZWe z) fun c =>
 bnd (mk 56 c c) fun _ =>
 bnd (idx (List.replicate c.toNat (0:Rat)) a) fun h =>
 bnd (Zdb (1:Int)) fun i =>
 bnd (Zfa h i) fun e =>
 bnd (idx (List.replicate c.toNat (0:Rat)) a) fun n =>
 bnd (idx ((List.replicate c.toNat (0:Rat)).set a.toNat e) b) fun j =>
 bnd (Zdb (1:Int)) fun k =>
 bnd (Z5a j k) fun m =>
 bnd (idx ((List.replicate c.toNat (0:Rat)).set a.toNat e) b) fun o =>
 some (d.1,((List.replicate c.toNat (0:Rat)).set a.toNat e).set b.toNat m,(0:Int)))
noncomputable def ZAi (z:Int×Int×Int×Int) (l:List (Int×Int×Int×Int×Rat)) (a:Int) (b:Int):Option (Bool×(List Rat)×Int) :=
 bnd (ZWg z l a b) fun c =>
 ifb (c.2.2 != (0:Int))
 (some (false,([]:List Rat),c.2.2))
 (bnd (ZVg c.1 c.2.1) fun d =>
 some (d.1,d.2.1,d.2.2))
def ind (p j:Nat):Rat:=if j=p then 1 else 0
theorem ZQf {n p:Nat} (h:p<n) (v:Nat→Rat):sm n (fun j=>ind p j*v j)=v p:=by
 rw [ZNf h fun j hj hne=>by unfold ind;rw [if_neg hne];grind];unfold ind;rw [if_pos rfl];grind
theorem ZWn (p j:Nat):sz 1 (ind p j):=by unfold ind;split;exact Z2h;exact Zqg
def ctr (a b:Nat):Nat→Rat:=fun j=>ind a j-ind b j
theorem Zvr (a b j:Nat):sz 3 (ctr a b j):=ZZn (ZWn a j) (ZWn b j)
theorem Zuf {n a b:Nat} (ha:a<n) (hb:b<n) (v:Nat→Rat):sm n (fun j=>ctr a b j*v j)=v a-v b:=by
 rw [← ZQf ha v,← ZQf hb v,← ZQh];exact Z7 fun j hj=>by unfold ctr;grind
theorem ZKr {z:Int×Int×Int×Int} {l:List (Int×Int×Int×Int×Rat)} {R n a b:Nat} {M:Mx} (hD:Zzf z l=some (mx R n M,0)) (hs:ZWe z=some (n:Int)) (hn:n≤32) (hz:z.1≤n) (ha:(a:Int)<z.1) (hb:(b:Int)<z.1) :
  ZWg z l (a:Int) (b:Int)=some (mx R n M,vx n (ctr a b),0):=by
 have han:a<n:=by omega
 have hbn:b<n:=by omega
 unfold ZWg;rw [hD,Za];refine Zx (y:=false) ?_ ?_
 ·rw [show (((mx R n M),(0:Int)).2==(0:Int))=true from rfl,Zf,decide_eq_false (by omega),Ze,decide_eq_false (by omega),Ze,decide_eq_false (by omega),Ze,decide_eq_false (by omega)]
 have e0:((1:Int):Rat)=(1:Rat):=rfl;rw [Ze,Za,show (((mx R n M),(0:Int)).2 != (0:Int))=false from rfl,Ze,hs,Za,ZZe (by omega) (by omega),Za,Int.toNat_natCast,Zkf,Z5 _ han,Za,Zyr,Za,e0,ZWa Zqg Z2h (by omega) (by omega),Za,Za,Int.toNat_natCast,Zcb,Z5 _ hbn,Za,Za];have e1:(if b=a then (0:Rat)+1 else 0)=ind a b:=by unfold ind;split <;> grind
 rw [e1,Zwi (ZWn a b) Z2h (by omega) (by omega),Za,Za,Int.toNat_natCast,Zcb];refine congrArg some (Prod.ext rfl (Prod.ext (Zia fun j hj=>?_) rfl));show _=ind a j-ind b j;unfold ind;by_cases e:j=b
 ·rw [if_pos e,if_pos e,e]
 ·rw [if_neg e,if_neg e];by_cases e2:j=a
  ·rw [if_pos e2,if_pos e2];grind
  ·rw [if_neg e2,if_neg e2];grind
theorem ZZt {z:Int×Int×Int×Int} {l:List (Int×Int×Int×Int×Rat)} {R n a b:Nat} {M:Mx} (hD:Zzf z l=some (mx R n M,0)) (hs:ZWe z=some (n:Int)) (h0:R=0→n=0) (hR:R≤32) (hn:n≤32) (hz:z.1≤n) (ha:(a:Int)<z.1) (hb:(b:Int)<z.1) (hC:CD 1 R n M) :
  ∃ y,ZAi z l (a:Int) (b:Int)=some y∧((y=(true,[],0)∧∀ v,Ker R n M v→v a=v b) ∨ ∃ v,Ker R n M v∧v a≠v b∧y=(false,vx n v,0)∧∀ j,j<n→sz (kk 1 n) (v j)):=by
 have han:a<n:=by omega
 have hbn:b<n:=by omega
 have hk:kk 1 n≤17179869184:=by
  have:=ZAf (K:=1) (k:=n) (n:=32) hn;have e:kk 1 32=8589934591:=by decide
  omega
 obtain ⟨y,h1,h2⟩:=Zpo (c:=ctr a b) (m:=3) h0 hR hn (by omega) hC hk (fun j hj=>Zvr a b j) (by omega);refine ⟨y,?_,?_⟩
 ·unfold ZAi;rw [ZKr hD hs hn hz ha hb,Za,show (((mx R n M),vx n (ctr a b),(0:Int)).2.2 != (0:Int))=false from rfl,Ze,h1,Za]
 ·rcases h2 with ⟨rfl,h2⟩ | ⟨v,h2,h3,rfl,h4⟩
  ·refine .inl ⟨rfl,fun v hv=>?_⟩;have:=h2 v hv;rw [Zuf han hbn] at this;grind
  ·refine .inr ⟨v,h2,fun e=>h3 ?_,rfl,h4⟩;rw [Zuf han hbn,e];grind
noncomputable def Zwf (m:List (List Rat)) (b:List Rat) (c:List Rat):Option (Rat×Int) :=
 bnd (α:=Bool)
 (bnd (ZVd m) fun d =>
 ifb (!d)
 (some true)
 (ifb ((b.length:Int) != (m.length:Int))
 (some true)
 (bnd (Z5b m) fun e =>
 some ((c.length:Int) != e)))) fun f =>
 ifb f
 (some ((0:Rat),(4:Int)))
 (bnd (ZVg m c) fun g =>
 ifb (!g.1)
 (some ((0:Rat),(5:Int)))
 (bnd (ZJi m b) fun a =>
 bnd (Zrh a.1 a.2) fun h =>
 bnd (Z5d c h.1) fun i =>
 some (i,(0:Int))))
noncomputable def Zeb (z:Int×Int×Int×Int) (l:List (Int×Int×Int×Int×Rat)) (a:Int) (b:Int):Option (Rat×Int) :=
 bnd (ZWg z l a b) fun d =>
 ifb (d.2.2 != (0:Int))
 (some ((0:Rat),d.2.2))
 (bnd (Zp (σ:=(List Rat)×Int) (ρ:=List Rat) (fun c =>
 ifb (decide (c.2<(l.length:Int)))
 (bnd (idx l c.2) fun e =>
 bnd (ZN 56 (c.1++[e.2.2.2.2])) fun _ =>
 bnd (chk .i64 (c.2+(1:Int))) fun g =>
 some (.inl (c.1++[e.2.2.2.2],g)))
 (some (.inr c.1)))
   Zu (([]:List Rat),(0:Int))) fun h =>
 bnd (Zwf d.1 h d.2.1) fun f =>
 some (f.1,f.2))
theorem nm_sym (R:Nat) (M:Mx) (i j:Nat):nmM R M i j=nmM R M j i:=Z7 fun l hl=>by grind
theorem Zjx {R n:Nat} {M M':Mx} {b:Nat→Rat} {piv:List Nat} (h:Eli n (n+1) (aug n (nmM R M) (nmB R M b)) M' piv (n+1)):n ∉ piv:=fun hm=>by
 obtain ⟨i,hi⟩:=List.getElem?_of_mem hm
 have hin:i<n:=by have:=(List.getElem?_eq_some_iff.1 hi).1;have:=h.le;omega
 obtain ⟨E,hE⟩:=h.rsp
 have hu:Ker n n (nmM R M) (E i):=fun j hj=>by
  have:=hE i hin j (by omega)
  rw [h.left i n hi j hj] at this
  rw [this]
  refine Z7 fun k hk=>?_
  unfold aug
  rw [if_neg (by omega),nm_sym,Rat.mul_comm]
 have hk:=ZNo hu
 have h1:=hE i hin n (by omega)
 rw [h.one i n hi i hin,if_pos rfl] at h1
 have h2:sm n (fun k=>E i k*aug n (nmM R M) (nmB R M b) k n)=0:=by
  rw [Z7 (g:=fun k=>sm R fun l=>E i k*(M l k*b l)) fun k hk=>by unfold aug nmB;rw [if_pos rfl,← Znb],Zhg];refine Z1b fun l hl=>?_;rw [Z7 (g:=fun k=>b l*(M l k*E i k)) fun k hk=>by grind,Znb,hk l hl];grind
 rw [h2] at h1;exact absurd h1 (by decide)
theorem Zrs {R n:Nat} {M:Mx} {w w' x x' e c:Nat→Rat} (h:Sol n n (nmM R M) (nmB R M w) x) (h':Sol n n (nmM R M) (nmB R M w') x') (hw:∀ i,i<R→w' i=w i+sm n fun j=>M i j*e j) (hc:∀ v,Ker R n M v→sm n (fun j=>c j*v j)=0) :
  sm n (fun j=>c j*x' j)=sm n (fun j=>c j*x j)+sm n fun j=>c j*e j:=by
 have hk:Ker n n (nmM R M) (fun j=>x' j-(x j+e j)):=fun i hi=>by
  have h1:=h i hi;have h2:=h' i hi;have h3:=ZYq R n M e i;have h4:nmB R M w' i=nmB R M w i+sm R fun l=>M l i*sm n fun j=>M l j*e j:=by
   unfold nmB;rw [← Zef];exact Z7 fun l hl=>by rw [hw l hl];grind
  rw [Z7 (g:=fun j=>nmM R M i j*x' j-(nmM R M i j*x j+nmM R M i j*e j)) fun j hj=>by grind,ZQh,Zef,h1,h2,h3,h4];grind
 have:=hc _ (ZNo hk);rw [Z7 (g:=fun j=>c j*x' j-(c j*x j+c j*e j)) fun j hj=>by grind,ZQh,Zef] at this;grind
theorem CD_szM {R n:Nat} {M:Mx} (h:CD 1 R n M) (k:Nat) (hk:1≤k):∀ i j,i<R→j<n→sz k (M i j):=fun i j hi hj=>(h.sz hi hj).mono hk
theorem Z5r {R n k Kb r:Nat} {M:Mx} {w:Nat→Rat} (h0:0<R) (hn0:0<n) (hR:R≤32) (hn:n≤32) (hC:CD 1 R n M) (hk1:1≤k) (hw:∀ i,i<R→sz k (w i)) (hk:k≤100000000) (hKb:1≤Kb)
  (hb:CD Kb n (n+1) (aug n (nmM R M) (nmB R M w))) (hr:∀ q M' piv,q≤n+1→Eli n (n+1) (aug n (nmM R M) (nmB R M w)) M' piv q→piv.length≤r) (hkb:kk Kb r≤17179869184) :
  ∃ x,Sol n n (nmM R M) (nmB R M w) x∧(∀ j,j<n→sz (kk Kb r) (x j))∧∀ (c:Nat→Rat) (m:Nat),(∀ j,j<n→sz m (c j))→m≤1000 →
   (Zwf (mx R n M) (vx R w) (vx n c)=some (sm n (fun j=>c j*x j),0)∧∀ v,Ker R n M v→sm n (fun j=>c j*v j)=0)∨(Zwf (mx R n M) (vx R w) (vx n c)=some (0,5)∧∃ v,Ker R n M v∧sm n (fun j=>c j*v j)≠0):=by
 obtain ⟨M',piv,h1,h2,h3⟩:=Any_r (R:=n) hn0 hn hn hKb hb hr (by omega);have hm:=Zjx h1;rw [if_neg hm] at h3;have hx:∀ j,j<n→sz (kk Kb r) (pv M' piv n j):=fun j hj=>by
  unfold pv
  cases hx:piv.idxOf? j with
  | none=>exact Zqg.mono (Z8l hKb)
  | some q =>
   unfold List.idxOf? at hx;obtain ⟨h5,_⟩:=List.findIdx?_eq_some_iff_getElem.1 hx;exact h2.sz (by have:=h1.le;omega) (by omega)
 refine ⟨pv M' piv n,h1.pv_sol hm,hx,fun c m hc hm'=>?_⟩;have hkk:kk 1 n≤17179869184:=by
  have:=ZAf (K:=1) (k:=n) (n:=32) hn;have e:kk 1 32=8589934591:=by decide
  omega
 obtain ⟨y,h4,h5⟩:=Zpo (c:=c) (m:=m) (fun e=>by omega) hR hn (by omega) hC hkk hc (by omega);have pre:∀ f:Bool→Option (Rat×Int),bnd (α:=Bool) (bnd (ZVd (mx R n M)) fun y1=>ifb (!y1) (some true) (ifb (((vx R w).length:Int) != ((mx R n M).length:Int)) (some true) (bnd (Z5b (mx R n M)) fun y2=>some (((vx n c).length:Int) != y2)))) f=f false:=fun f=>by
  rw [ZPk M (fun e=>by omega) hR hn,Za,show (!true)=false from rfl,Ze,ZT,ZRa,show ((R:Int) != (R:Int))=false by simp,Ze,ZGf M (fun e=>by omega),Za,ZT,show ((n:Int) != (n:Int))=false by simp,Za]
 unfold Zwf;rw [pre,Ze,h4,Za];rcases h5 with ⟨rfl,h5⟩ | ⟨v,h5,h6,rfl,_⟩
 ·left;refine ⟨?_,h5⟩;rw [show (!((true,([]:List Rat),(0:Int)).1))=false from rfl,Ze,ZSv (k:=k) (CD_szM hC k hk1) hw (fun e=>by omega) (by omega) (by omega) (by omega),Za,h3,Za,ZIm (k:=m) (m:=kk Kb r) hc hx (by omega) (by
   have:(n+1)*(m+kk Kb r+1)≤33*(m+kk Kb r+1):=Nat.mul_le_mul_right _ (by omega);omega),Za]
 ·right;refine ⟨?_,v,h5,h6⟩;rw [show (!((false,vx n v,(0:Int)).1))=true from rfl,Zf]
def Z0 (t c d:Nat) (A B C D:Nat→Nat):Mx:=fun i j=>ind (A i) j+ind (t+B i) j+ind (t+c+C i) j+ind (t+c+d+D i) j
def lgs (R:Nat) (A B C D:Nat→Nat) (w:Nat→Rat):List (Int×Int×Int×Int×Rat):=vx R fun i=>((A i:Int),(B i:Int),(C i:Int),(D i:Int),w i)
structure Legs (t c d p R:Nat) (A B C D:Nat→Nat):Prop where
 t1:1≤t∧t≤8
 c1:1≤c∧c≤8
 d1:1≤d∧d≤8
 p1:1≤p∧p≤8
 r1:1≤R∧R≤32
 a:∀ i,i<R→A i<t
 b:∀ i,i<R→B i<c
 cc:∀ i,i<R→C i<d
 dd:∀ i,i<R→D i<p
section
variable {t c d p R:Nat} {A B C D:Nat→Nat} {w:Nat→Rat}
theorem Legs.check (h:Legs t c d p R A B C D):ZPh ((t:Int),(c:Int),(d:Int),(p:Int)) (lgs R A B C D w)=some 0:=by
 have t1:=h.t1;have c1:=h.c1;have d1:=h.d1;have p1:=h.p1;have r1:=h.r1;unfold ZPh ZTd;rw [Za];refine Zx (y:=(-1:Int)) ?_ ?_
 ·refine Zx (y:=Sum.inl ()) (ZJa (fun k=>(k:Int)) 4 rfl (by omega) (fun k hk=>?_) ?_) rfl
  ·have hg:∃ q:Nat,idx [((t:Int),(c:Int),(d:Int),(p:Int)).1,((t:Int),(c:Int),(d:Int),(p:Int)).2.1,((t:Int),(c:Int),(d:Int),(p:Int)).2.2.1,((t:Int),(c:Int),(d:Int),(p:Int)).2.2.2] (k:Int)=some (q:Int)∧1≤q∧q≤8:=by
    have:k=0∨k=1∨k=2∨k=3:=by omega
    rcases this with rfl | rfl | rfl | rfl
    ·exact ⟨t,rfl,t1⟩
    ·exact ⟨c,rfl,c1⟩
    ·exact ⟨d,rfl,d1⟩
    ·exact ⟨p,rfl,p1⟩
   obtain ⟨q,h1,h2,h3⟩:=hg;rw [decide_eq_true (by simp only [List.length_cons,List.length_nil];omega),Zf,h1,Za,decide_eq_false (by omega),Ze,decide_eq_false (by omega),Za,Ze,Zm (by omega) (by omega),Za];rfl
  ·rfl
 rw [decide_eq_false (by omega),Ze];have hl:(lgs R A B C D w).length=R:=ZT _ _;rw [hl];refine Zx (y:=false) ?_ ?_
 ·rw [show ((R:Int)==0)=false by simp;omega,Ze,decide_eq_false (by omega)]
 rw [Ze];refine Zx (y:=Sum.inl ()) (ZJa (fun k=>(k:Int)) R rfl (by omega) (fun k hk=>?_) ?_) rfl
 ·have ha:=h.a k hk;have hb:=h.b k hk;have hc:=h.cc k hk;have hd:=h.dd k hk;unfold Zah;rw [decide_eq_true (by omega),Zf,lgs,Z5 _ hk,Za,Za];simp only;rw [decide_eq_false (by omega),Ze,decide_eq_false (by omega),Za,Ze,decide_eq_false (by omega),Ze,decide_eq_false (by omega),Za,Ze,decide_eq_false (by omega),Ze,decide_eq_false (by omega),Za,Ze,decide_eq_false (by omega),Ze,decide_eq_false (by omega),Za,Ze,Zm (by omega) (by omega),Za];rfl
 ·rw [decide_eq_false (by omega),Ze]
theorem Legs.cols (h:Legs t c d p R A B C D):ZWe ((t:Int),(c:Int),(d:Int),(p:Int))=some ((t+c+d+p:Nat):Int):=by
 have t1:=h.t1;have c1:=h.c1;have d1:=h.d1;have p1:=h.p1;unfold ZWe;simp only;rw [Zm (by omega) (by omega),Za,Zm (by omega) (by omega),Za,Zm (by omega) (by omega),Za];rfl
theorem Legs.design (h:Legs t c d p R A B C D):Zzf ((t:Int),(c:Int),(d:Int),(p:Int)) (lgs R A B C D w)=some (mx R (t+c+d+p) (Z0 t c d A B C D),0):=by
 have t1:=h.t1;have c1:=h.c1;have d1:=h.d1;have p1:=h.p1;have r1:=h.r1;have hl:(lgs R A B C D w).length=R:=ZT _ _;unfold Zzf;rw [h.check,Za,show ((0:Int) != 0)=false from rfl,Ze,hl];refine Zx (y:=mx R (t+c+d+p) (Z0 t c d A B C D)) (ZJa (fun k=>(mx k (t+c+d+p) (Z0 t c d A B C D),(k:Int))) R rfl (by omega) (fun k hk=>?_) ?_) rfl
 ·have ha:=h.a k hk;have hb:=h.b k hk;have hc:=h.cc k hk;have hd:=h.dd k hk;have e0:((1:Int):Rat)=(1:Rat):=rfl;simp only;rw [decide_eq_true (by omega),Zf,lgs,Z5 _ hk,Za,h.cols,Za,ZZe (by omega) (by omega),Za];unfold Zah ZTd;simp only [Zyr,e0,Za,Int.toNat_natCast,Zkf];have z1:(0:Int)+(A k:Int)=((A k:Nat):Int):=by omega
  have z2:(0:Int)+(t:Int)=((t:Nat):Int):=by omega
  rw [z1,Zm (by omega) (by omega),Za,Z5 _ (by omega),Za,z2,Zm (by omega) (by omega),Za,Zm (by omega) (by omega),Za,Int.toNat_natCast,Zcb];have z3:(t:Int)+(B k:Int)=((t+B k:Nat):Int):=by omega
  have z4:(t:Int)+(c:Int)=((t+c:Nat):Int):=by omega
  have z5:((t+c:Nat):Int)+(C k:Int)=((t+c+C k:Nat):Int):=by omega
  have z6:((t+c:Nat):Int)+(d:Int)=((t+c+d:Nat):Int):=by omega
  have z7:((t+c+d:Nat):Int)+(D k:Int)=((t+c+d+D k:Nat):Int):=by omega
  rw [z3,Z5 _ (by omega),Za,z4,Zm (by omega) (by omega),Za,Int.toNat_natCast,Zcb,z5,Zm (by omega) (by omega),Za,Z5 _ (by omega),Za,Int.toNat_natCast,Zcb,z6,Zm (by omega) (by omega),Za,z7,Zm (by omega) (by omega),Za,Z5 _ (by omega),Za,Int.toNat_natCast,Zcb,Zm (by omega) (by omega),Za];have er:(vx (t+c+d+p) fun k_1=>if k_1=t+c+d+D k then (1:Rat) else if k_1=t+c+C k then 1 else if k_1=t+B k then 1 else if k_1=A k then 1 else 0)=vx (t+c+d+p) (Z0 t c d A B C D k):=Zia fun j hj=>by
   unfold Z0 ind;by_cases e1:j=t+c+d+D k
   ·rw [if_pos e1,if_neg (by omega),if_neg (by omega),if_neg (by omega),if_pos e1];grind
   ·rw [if_neg e1,if_neg e1];by_cases e2:j=t+c+C k
    ·rw [if_pos e2,if_neg (by omega),if_neg (by omega),if_pos e2];grind
    ·rw [if_neg e2,if_neg e2];by_cases e3:j=t+B k
     ·rw [if_pos e3,if_neg (by omega),if_pos e3];grind
     ·rw [if_neg e3,if_neg e3];by_cases e4:j=A k
      ·rw [if_pos e4];grind
      ·rw [if_neg e4];grind
  rw [er,show mx k (t+c+d+p) (Z0 t c d A B C D)++[vx (t+c+d+p) (Z0 t c d A B C D k)]=mx (k+1) (t+c+d+p) (Z0 t c d A B C D) from Zzb k fun i=>vx (t+c+d+p) (Z0 t c d A B C D i),Zsa (by rw [ZRa];omega),Za,Zm (by omega) (by omega),Za];rfl
 ·simp only;rw [decide_eq_false (by omega),Ze]
theorem Legs.diff_r (h:Legs t c d p R A B C D) {k Kb r:Nat} (hw:∀ i,i<R→sz k (w i)) (hk1:1≤k) (hk:k≤100000000) (hC:CD 1 R (t+c+d+p) (Z0 t c d A B C D)) (hKb:1≤Kb)
  (hb:CD Kb (t+c+d+p) (t+c+d+p+1) (aug (t+c+d+p) (nmM R (Z0 t c d A B C D)) (nmB R (Z0 t c d A B C D) w))) (hr:∀ q M' piv,q≤t+c+d+p+1→Eli (t+c+d+p) (t+c+d+p+1) (aug (t+c+d+p) (nmM R (Z0 t c d A B C D)) (nmB R (Z0 t c d A B C D) w)) M' piv q→piv.length≤r) (hkb:kk Kb r≤17179869184) :
  ∃ x,Sol (t+c+d+p) (t+c+d+p) (nmM R (Z0 t c d A B C D)) (nmB R (Z0 t c d A B C D) w) x∧(∀ j,j<t+c+d+p→sz (kk Kb r) (x j))∧∀ a b:Nat,a<t→b<t →
   (Zeb ((t:Int),(c:Int),(d:Int),(p:Int)) (lgs R A B C D w) (a:Int) (b:Int)=some (x a-x b,0)∧∀ v,Ker R (t+c+d+p) (Z0 t c d A B C D) v→v a=v b)∨(Zeb ((t:Int),(c:Int),(d:Int),(p:Int)) (lgs R A B C D w) (a:Int) (b:Int)=some (0,5)∧∃ v,Ker R (t+c+d+p) (Z0 t c d A B C D) v∧v a≠v b):=by
 have t1:=h.t1;have c1:=h.c1;have d1:=h.d1;have p1:=h.p1;have r1:=h.r1;obtain ⟨x,h1,h2,h3⟩:=Z5r (R:=R) (n:=t+c+d+p) (by omega) (by omega) r1.2 (by omega) hC hk1 hw hk hKb hb hr hkb;refine ⟨x,h1,h2,fun a b ha hb=>?_⟩;have hl:(lgs R A B C D w).length=R:=ZT _ _;have e:Zeb ((t:Int),(c:Int),(d:Int),(p:Int)) (lgs R A B C D w) (a:Int) (b:Int)=bnd (Zwf (mx R (t+c+d+p) (Z0 t c d A B C D)) (vx R w) (vx (t+c+d+p) (ctr a b))) fun y=>some (y.1,y.2):=by
  unfold Zeb;rw [ZKr (h.design (w:=w)) h.cols (by omega) (by simp only;omega) (by simp only;omega) (by simp only;omega),Za,show ((mx R (t+c+d+p) (Z0 t c d A B C D),vx (t+c+d+p) (ctr a b),(0:Int)).2.2 != (0:Int))=false from rfl,Ze,hl];refine Zx (y:=vx R w) (ZJa (fun q=>(vx q w,(q:Int))) R rfl (by omega) (fun q hq=>?_) ?_) rfl
  ·simp only;rw [decide_eq_true (by omega),Zf,lgs,Z5 _ hq,Za];simp only;rw [Zzb q w,Zsa (by rw [ZT];omega),Za,Zm (by omega) (by omega),Za];rfl
  ·simp only;rw [decide_eq_false (by omega),Ze]
 have key:∀ v:Nat→Rat,sm (t+c+d+p) (fun j=>ctr a b j*v j)=v a-v b:=fun v=>Zuf (by omega) (by omega) v;rcases h3 (ctr a b) 3 (fun j hj=>Zvr a b j) (by omega) with ⟨h4,h5⟩ | ⟨h4,v,h5,h6⟩
 ·left;refine ⟨by rw [e,h4,Za,key],fun v hv=>?_⟩;have:=h5 v hv;rw [key] at this;grind
 ·right;refine ⟨by rw [e,h4,Za],v,h5,fun e=>h6 ?_⟩;rw [key,e];grind
end
theorem ZCs (R n:Nat) (M0:Mx):∀ k,k≤n→∃ M piv,Eli R n M0 M piv k:=by
 intro k
 induction k with
 | zero=>exact fun _=>⟨M0,[],Eli.start R n M0⟩
 | succ k ih =>
  intro hk;obtain ⟨M,piv,h⟩:=ih (by omega);by_cases hp:∃ p,piv.length≤p∧p<R∧M p k≠0
  ·obtain ⟨p,h1,h2,h3⟩:=hp;exact ⟨_,_,h.step (ZNm h1 h2 hk h3)⟩
  ·exact ⟨M,piv,h.skip fun i h1 h2=>Classical.byContradiction fun e=>hp ⟨i,h1,h2,e⟩⟩
theorem sm_pad {k n:Nat} (h:k≤n) {f:Nat→Rat} (hz:∀ j,k≤j→f j=0):sm n f=sm k f:=by
 induction n with
 | zero =>
  obtain rfl:k=0:=by omega
  rfl
 | succ n ih =>
  by_cases e:k=n+1
  ·rw [e]
  ·show sm n f+f n=sm k f;rw [ih (by omega),hz n (by omega)];grind
theorem Eli.restrict {R n k:Nat} {M0 M:Mx} {piv:List Nat} (h:Eli R n M0 M piv k) (hk:k≤n):Eli R k M0 M piv k:=by
 have ext:∀ (N:Mx) (v:Nat→Rat),Ker R k N v↔Ker R n N (fun j=>if j<k then v j else 0):=fun N v=>by
  refine forall_congr' fun i=>forall_congr' fun hi=>?_;have e:sm n (fun j=>N i j*(if j<k then v j else 0))=sm k fun j=>N i j*v j:=by
   rw [sm_pad (k:=k) hk (fun j hj=>by rw [if_neg (by omega)];grind)];exact Z7 fun j hj=>by rw [if_pos hj]
  show _↔sm n (fun j=>N i j*(if j<k then v j else 0))=0;rw [e]
 refine ⟨h.le,h.lt,h.inc,h.one,h.low,h.left,fun v=>?_,?_⟩
 ·rw [ext,ext];exact h.ker _
 ·obtain ⟨E,hE⟩:=h.rsp;exact ⟨E,fun i hi j hj=>hE i hi j (by omega)⟩
theorem rank_le {R Q n:Nat} {N N' M:Mx} {piv:List Nat} (h:Eli R n N N' piv n) (hk:∀ v,Ker Q n M v→Ker R n N v):piv.length≤Q:=by
 refine Classical.byContradiction fun hc=>?_
 let P:Nat→Nat:=fun a=>piv.getD a 0
 have hP:∀ a,a<piv.length→piv[a]? = some (P a):=fun a ha=>by
  show piv[a]? = some (piv.getD a 0);rw [List.getD_eq_getElem?_getD,List.getElem?_eq_getElem ha];rfl
 have hPn:∀ a,a<piv.length→P a<n:=fun a ha=>h.lt _ (List.mem_of_getElem? (hP a ha));obtain ⟨G,pv',hG⟩:=ZCs Q piv.length (fun i a=>M i (P a)) piv.length (Nat.le_refl _);obtain ⟨u,a,ha,hu,hku⟩:=hG.more (by have:=hG.le;omega)
 let v:Nat→Rat:=fun j=>sm piv.length fun b=>ind (P b) j*u b
 have hv:Ker Q n M v:=fun i hi=>by
  rw [Z7 (g:=fun j=>sm piv.length fun b=>M i j*(ind (P b) j*u b)) fun j hj=>by rw [Znb],Zhg];rw [Z7 (g:=fun b=>M i (P b)*u b) fun b hb=>?_]
  ·exact hku i hi
  ·rw [Z7 (g:=fun j=>u b*(ind (P b) j*M i j)) fun j hj=>by grind,Znb,ZQf (hPn b hb)];grind
 have hva:v (P a)=u a:=by
  show sm piv.length (fun b=>ind (P b) (P a)*u b)=u a;rw [ZNf ha fun b hb hne=>?_]
  ·unfold ind;rw [if_pos rfl];grind
  ·unfold ind;rw [if_neg fun e=>hne (Zyo h.inc (hP b hb) (by rw [← e];exact hP a ha))];grind
 have hoff:∀ j,j ∉ piv→v j=0:=fun j hj=>Z1b fun b hb=>by
  unfold ind;rw [if_neg fun e=>hj (by rw [e];exact List.mem_of_getElem? (hP b hb))];grind
 have h1:=(h.ker_iff v).1 (hk v hv) a (P a) (hP a ha);rw [Z1b fun j hj=>by
  split
  ·rfl
  ·rename_i e;rw [hoff j e];grind,hva] at h1
 exact hu (by grind)
theorem Zgv {R n q:Nat} {M M':Mx} {w:Nat→Rat} {piv:List Nat} (hq:q≤n+1) (h:Eli n (n+1) (aug n (nmM R M) (nmB R M w)) M' piv q):piv.length≤R:=by
 refine rank_le (Q:=R) (M:=aug n M w) (h.restrict hq) fun v hv i hi=>?_;rw [Z7 (g:=fun j=>sm R fun l=>M l i*(aug n M w l j*v j)) fun j hj=>?_,Zhg]
 ·refine Z1b fun l hl=>?_;rw [Znb,hv l hl];grind
 ·unfold aug;split
  ·unfold nmB;rw [Rat.mul_comm,← Znb];exact Z7 fun l hl=>by grind
  ·unfold nmM;rw [Rat.mul_comm,← Znb];exact Z7 fun l hl=>by grind
theorem sm_frac {D:Int} (hD:D≠0) {B:Nat}:∀ {n:Nat} {f:Nat→Rat},(∀ l,l<n→∃ N:Int,f l=(N:Rat) / (D:Rat)∧N.natAbs<B)→∃ N:Int,sm n f=(N:Rat) / (D:Rat)∧N.natAbs≤n*B:=by
 intro n
 induction n with
 | zero=>exact fun {f} _=>⟨0,by show (0:Rat)=_;rw [Rat.div_def];exact (Rat.zero_mul _).symm,by simp⟩
 | succ n ih =>
  intro f h;obtain ⟨N,h1,h2⟩:=ih fun l hl=>h l (by omega);obtain ⟨N',h3,h4⟩:=h n (by omega);refine ⟨N+N',?_,?_⟩
  ·show sm n f+f n=_;rw [h1,h3,Rat.intCast_add,Rat.div_def,Rat.div_def,Rat.div_def];grind
  ·rw [Nat.succ_mul];omega
theorem nm_cd2 {R n k:Nat} {M:Mx} {w:Nat→Rat} (hR:R≤31) (hM:∀ i j,i<R→j<n→∃ N:Int,M i j=(N:Rat)∧0≤N∧N≤1) (hw:∀ i,i<R→sz k (w i)):CD (k*R+6) n (n+1) (aug n (nmM R M) (nmB R M w)):=by
 obtain ⟨D,d0,d1,d2⟩:=Zvq (vx R w) fun x hx=>by
  obtain ⟨i,hi,rfl⟩:=List.mem_map.1 hx;exact hw i (List.mem_range.1 hi)
 rw [ZT] at d1 d2;have d2':∀ i,i<R→∃ N:Int,w i=(N:Rat) / (D:Rat)∧N.natAbs<2^(k*R+1):=fun i hi=>d2 _ (List.mem_map.2 ⟨i,List.mem_range.2 hi,rfl⟩);have e:2^(k*R+6)=2^(k*R+1)*32:=by rw [show k*R+6=k*R+1+5 by omega,Nat.pow_add]
 have hD':(D:Rat)≠0:=fun e=>d0 (Rat.intCast_inj.1 (by rw [e];rfl));have up:R*2^(k*R+1)≤31*2^(k*R+1):=Nat.mul_le_mul_right _ hR;have pos:=Nat.two_pow_pos (k*R+1);have key:∀ f:Nat→Rat,(∀ l,l<R→∃ N:Int,f l=(N:Rat) / (D:Rat)∧N.natAbs<2^(k*R+1))→∃ N:Int,sm R f=(N:Rat) / (D:Rat)∧N.natAbs<2^(k*R+6):=fun f hf=>by
  obtain ⟨N,h1,h2⟩:=sm_frac (B:=2^(k*R+1)) d0 hf;exact ⟨N,h1,by rw [e];generalize 2^(k*R+1)=b at *;omega⟩
 refine ⟨D,d0,by rw [e];generalize 2^(k*R+1)=b at *;omega,fun i j hi hj=>?_⟩;unfold aug;split
 ·refine key _ fun l hl=>?_;obtain ⟨m,m1,m2,m3⟩:=hM l i hl hi;obtain ⟨N,n1,n2⟩:=d2' l hl;refine ⟨m*N,by rw [m1,n1,Rat.intCast_mul,Rat.div_def,Rat.div_def];grind,?_⟩;have:m=0∨m=1:=by omega
  rcases this with rfl | rfl
  ·rw [Int.zero_mul];exact pos
  ·rw [Int.one_mul];exact n2
 ·refine key _ fun l hl=>?_;obtain ⟨m,m1,m2,m3⟩:=hM l i hl hi;obtain ⟨m',q1,q2,q3⟩:=hM l j hl (by omega);refine ⟨m*m'*D,by rw [m1,q1,Rat.intCast_mul,Rat.intCast_mul];grind,?_⟩;have a1:m=0∨m=1:=by omega
  have a2:m'=0∨m'=1:=by omega
  rcases a1 with rfl | rfl
  ·rw [Int.zero_mul,Int.zero_mul];exact pos
  ·rcases a2 with rfl | rfl
   ·rw [Int.mul_zero,Int.zero_mul];exact pos
   ·rw [Int.one_mul,Int.one_mul];exact d1
theorem ZTn {x y:Rat} (hx:∃ N:Int,x=(N:Rat)∧0≤N∧N≤1) (hy:∃ N:Int,y=(N:Rat)∧0≤N∧N≤1) (h:x=0∨y=0):∃ N:Int,x+y=(N:Rat)∧0≤N∧N≤1:=by
 rcases h with rfl | rfl
 ·obtain ⟨N,h⟩:=hy;exact ⟨N,by rw [Rat.zero_add];exact h.1,h.2⟩
 ·obtain ⟨N,h⟩:=hx;exact ⟨N,by rw [Rat.add_zero];exact h.1,h.2⟩
theorem ZQi (p j:Nat):∃ N:Int,ind p j=(N:Rat)∧0≤N∧N≤1:=by
 unfold ind;split
 ·exact ⟨1,rfl,by omega,by omega⟩
 ·exact ⟨0,rfl,by omega,by omega⟩
theorem CD_one' {R n:Nat} {M:Mx} (h:∀ i j,i<R→j<n→∃ N:Int,M i j=(N:Rat)∧0≤N∧N≤1):CD 1 R n M:=by
 refine ⟨1,by omega,by decide,fun i j hi hj=>?_⟩;obtain ⟨N,h1,h2,h3⟩:=h i j hi hj;exact ⟨N,by rw [h1];show (N:Rat)=(N:Rat) / 1;grind,by omega⟩
theorem ZZp {p q r s j:Nat} {A B C:Nat} (h1:p<A) (h2:A≤q) (h3:q<B) (h4:B≤r) (h5:r<C) (h6:C≤s):∃ N:Int,ind p j+ind q j+ind r j+ind s j=(N:Rat)∧0≤N∧N≤1:=by
 refine ZTn (ZTn (ZTn (ZQi p j) (ZQi q j) ?_) (ZQi r j) ?_) (ZQi s j) ?_
 ·unfold ind;by_cases e:j=p
  ·right;rw [if_neg (by omega)]
  ·left;rw [if_neg e]
 ·by_cases e:j=r
  ·left;unfold ind;rw [if_neg (by omega),if_neg (by omega)];grind
  ·right;unfold ind;rw [if_neg e]
 ·by_cases e:j=s
  ·left;unfold ind;rw [if_neg (by omega),if_neg (by omega),if_neg (by omega)];grind
  ·right;unfold ind;rw [if_neg e]
theorem Legs.cd {t c d p R:Nat} {A B C D:Nat→Nat} (h:Legs t c d p R A B C D):CD 1 R (t+c+d+p) (Z0 t c d A B C D):=CD_one' fun i j hi hj=>by
 have ha:=h.a i hi;have hb:=h.b i hi;have hc:=h.cc i hi;have hd:=h.dd i hi
 exact ZZp (A:=t) (B:=t+c) (C:=t+c+d) ha (by omega) (by omega) (by omega) (by omega) (by omega)
theorem Zvv {n p q r s:Nat} (hp:p<n) (hq:q<n) (hr:r<n) (hs:s<n) (v:Nat→Rat):sm n (fun j=>(ind p j+ind q j+ind r j+ind s j)*v j)=v p+v q+v r+v s:=by
 rw [← ZQf hp v,← ZQf hq v,← ZQf hr v,← ZQf hs v,← Zef,← Zef,← Zef];exact Z7 fun j hj=>by grind
theorem Legs.row {t c d p R:Nat} {A B C D:Nat→Nat} (h:Legs t c d p R A B C D) {i:Nat} (hi:i<R) (v:Nat→Rat):sm (t+c+d+p) (fun j=>Z0 t c d A B C D i j*v j)=v (A i)+v (t+B i)+v (t+c+C i)+v (t+c+d+D i):=by
 have ha:=h.a i hi;have hb:=h.b i hi;have hc:=h.cc i hi;have hd:=h.dd i hi;exact Zvv (by omega) (by omega) (by omega) (by omega) v
theorem Zui {x:Int} (h:-1000≤x∧x≤1000):IntKind.i64.wrap x=x:=Zrd (ZMa.2 (by omega))
noncomputable def Zci (l:List ((Int×Int×Int×Int)×Int×Int)):Option ((List (Int×Int×Int×Int×Rat))×(List ((Int×Int×Int×Int)×Rat))) :=
 bnd (Zp (σ:=(List (Int×Int×Int×Int×Rat))×(List ((Int×Int×Int×Int)×Rat))×Int) (ρ:=(List (Int×Int×Int×Int×Rat))×(List ((Int×Int×Int×Int)×Rat))) (fun b =>
 ifb (decide (b.2.2<(l.length:Int)))
 (bnd (idx l b.2.2) fun a =>
 bnd (Z1 a.2) fun c =>
 bnd (ZN 88 (b.1++[(a.1.1,a.1.2.1,a.1.2.2.1,a.1.2.2.2,c)])) fun _ =>
 bnd (ZFd a.2) fun d =>
 bnd (ZN 88 (b.2.1++[(a.1,d)])) fun _ =>
 bnd (chk .i64 (b.2.2+(1:Int))) fun f =>
 some (.inl (b.1++[(a.1.1,a.1.2.1,a.1.2.2.1,a.1.2.2.2,c)],b.2.1++[(a.1,d)],f)))
 (some (.inr (b.1,b.2.1))))
  Zu (([]:List (Int×Int×Int×Int×Rat)),([]:List ((Int×Int×Int×Int)×Rat)),(0:Int))) fun e =>
 some (e.1,e.2)
noncomputable def Z3h (t:Int×Int×Int×Int) (l:List ((Int×Int×Int×Int)×Rat)):Option Int :=
 bnd (α:=Bool)
 (ifb (decide (t.1<(1:Int)))
 (some true)
 (some (decide ((8:Int)<t.1)))) fun b =>
 ifb b
 (some (1:Int))
 (bnd (α:=Bool)
 (ifb (decide (t.2.1<(1:Int)))
 (some true)
 (some (decide ((8:Int)<t.2.1)))) fun c =>
 ifb c
 (some (1:Int))
 (bnd (α:=Bool)
 (ifb (decide (t.2.2.1<(1:Int)))
 (some true)
 (some (decide ((8:Int)<t.2.2.1)))) fun d =>
 ifb d
 (some (1:Int))
 (bnd (α:=Bool)
 (ifb (decide (t.2.2.2<(1:Int)))
 (some true)
 (some (decide ((8:Int)<t.2.2.2)))) fun e =>
 ifb e
 (some (1:Int))
 (bnd (α:=Bool)
 (ifb (decide ((l.length:Int)<(1:Int)))
 (some true)
 (some (decide ((32:Int)<(l.length:Int))))) fun f =>
 ifb f
 (some (4:Int))
 (bnd (Zp (σ:=Int) (ρ:=Unit ⊕ Int) (fun a =>
 ifb (decide (a<(l.length:Int)))
 (bnd (α:=Bool)
 (bnd (idx l a) fun g =>
 ifb (decide (g.1.1<(0:Int)))
 (some true)
 (bnd (idx l a) fun h =>
 some (decide (t.1≤h.1.1)))) fun i =>
 ifb i
 (some (.inr (.inr (1:Int))))
 (bnd (α:=Bool)
 (bnd (idx l a) fun j =>
 ifb (decide (j.1.2.1<(0:Int)))
 (some true)
 (bnd (idx l a) fun k =>
 some (decide (t.2.1≤k.1.2.1)))) fun m =>
 ifb m
 (some (.inr (.inr (1:Int))))
 (bnd (α:=Bool)
 (bnd (idx l a) fun n =>
 ifb (decide (n.1.2.2.1<(0:Int)))
 (some true)
 (bnd (idx l a) fun o =>
 some (decide (t.2.2.1≤o.1.2.2.1)))) fun p =>
 ifb p
 (some (.inr (.inr (1:Int))))
 (bnd (α:=Bool)
 (bnd (idx l a) fun q =>
 ifb (decide (q.1.2.2.2<(0:Int)))
 (some true)
 (bnd (idx l a) fun r =>
 some (decide (t.2.2.2≤r.1.2.2.2)))) fun s =>
 ifb s
 (some (.inr (.inr (1:Int))))
 (bnd (chk .i64 (a+(1:Int))) fun u =>
 some (.inl u))))))
 (some (.inr (.inl ()))))
       Zu (0:Int)) fun v =>
      match v with
 | .inl x=>(some (0:Int))
 | .inr w=>(some w))))))
abbrev LG:=(Int×Int×Int×Int)×Int×Int
def gL (l:List LG) (i:Nat):LG:=l.getD i ((0,0,0,0),0,0)
theorem Zjl {l:List LG} {i:Nat} (h:i<l.length):idx l (i:Int)=some (gL l i):=by
 unfold gL;rw [ZG h];simp [List.getD_eq_getElem?_getD,h]
theorem ZOv (l:List LG) (hl:l.length≤1048576):Zci l=some (vx l.length (fun i=>((gL l i).1.1,(gL l i).1.2.1,(gL l i).1.2.2.1,(gL l i).1.2.2.2,ZC (gL l i).2)),vx l.length fun i=>((gL l i).1,ZC (gL l i).2)):=by
 unfold Zci Z1 ZFd;refine Zx (y:=(vx l.length (fun i=>((gL l i).1.1,(gL l i).1.2.1,(gL l i).1.2.2.1,(gL l i).1.2.2.2,ZC (gL l i).2)),vx l.length fun i=>((gL l i).1,ZC (gL l i).2))) (ZJa (fun k=>(vx k (fun i=>((gL l i).1.1,(gL l i).1.2.1,(gL l i).1.2.2.1,(gL l i).1.2.2.2,ZC (gL l i).2)),vx k (fun i=>((gL l i).1,ZC (gL l i).2)),(k:Int))) l.length rfl (by omega) (fun k hk=>?_) ?_) rfl
 ·simp only;rw [decide_eq_true (by omega),Zf,Zjl hk,Za,Za,Zzb k (fun i=>((gL l i).1.1,(gL l i).1.2.1,(gL l i).1.2.2.1,(gL l i).1.2.2.2,ZC (gL l i).2)),Zsa (by rw [ZT];omega),Za,Za,Zzb k (fun i=>((gL l i).1,ZC (gL l i).2)),Zsa (by rw [ZT];omega),Za,Zm (by omega) (by omega),Za];rfl
 ·simp only;rw [decide_eq_false (by omega),Ze]
def inS (t:Int×Int×Int×Int):Prop:=(1≤t.1∧t.1≤8)∧(1≤t.2.1∧t.2.1≤8)∧(1≤t.2.2.1∧t.2.2.1≤8)∧1≤t.2.2.2∧t.2.2.2≤8
def inL (t o:Int×Int×Int×Int):Prop:=(0≤o.1∧o.1<t.1)∧(0≤o.2.1∧o.2.1<t.2.1)∧(0≤o.2.2.1∧o.2.2.1<t.2.2.1)∧0≤o.2.2.2∧o.2.2.2<t.2.2.2
theorem Zok {P:Option Int→Prop} {x:Int} {f:Bool→Option Int} (h1:(x<1∨8<x)→P (f true)) (h2:1≤x∧x≤8→P (f false)):P (bnd (α:=Bool) (ifb (decide (x<(1:Int))) (some true) (some (decide ((8:Int)<x)))) f):=by
 by_cases a:x<1
 ·rw [decide_eq_true a,Zf,Za];exact h1 (.inl a)
 ·rw [decide_eq_false a,Ze,Za];by_cases b:8<x
  ·rw [decide_eq_true b];exact h1 (.inr b)
  ·rw [decide_eq_false b];exact h2 ⟨by omega,by omega⟩
theorem ZKs (t:Int×Int×Int×Int) (n:Nat) (o:Nat→Int×Int×Int×Int) (w:Nat→Rat) (hn:n≤1000):∃ z,Z3h t (vx n fun i=>(o i,w i))=some z∧(z=0→inS t∧1≤n∧∀ i,i<n→inL t (o i)):=by
 let PP:Option Int→Prop:=fun y=>∃ z,y=some z∧(z=0→inS t∧1≤n∧∀ i,i<n→inL t (o i))
 show PP _;unfold Z3h;refine Zok (P:=PP) (fun _=>?_) (fun s1=>?_)
 ·rw [Zf];exact ⟨1,rfl,fun h=>by omega⟩
 rw [Ze];refine Zok (P:=PP) (fun _=>?_) (fun s2=>?_)
 ·rw [Zf];exact ⟨1,rfl,fun h=>by omega⟩
 rw [Ze];refine Zok (P:=PP) (fun _=>?_) (fun s3=>?_)
 ·rw [Zf];exact ⟨1,rfl,fun h=>by omega⟩
 rw [Ze];refine Zok (P:=PP) (fun _=>?_) (fun s4=>?_)
 ·rw [Zf];exact ⟨1,rfl,fun h=>by omega⟩
 rw [Ze,ZT];by_cases h0:n<1
 ·rw [decide_eq_true (by omega),Zf,Za,Zf];exact ⟨4,rfl,fun h=>by omega⟩
 rw [decide_eq_false (by omega),Ze,Za];by_cases h32:32<n
 ·rw [decide_eq_true (by omega),Zf];exact ⟨4,rfl,fun h=>by omega⟩
 rw [decide_eq_false (by omega),Ze];refine ZTh (fun k s=>s=(k:Int)∧∀ i,i<k→inL t (o i)) (fun r=>(r = .inl ()∧∀ i,i<n→inL t (o i))∨r = .inr 1) n ⟨rfl,fun i hi=>by omega⟩ (by omega) (fun k s hk hs=>?_) (fun r hr=>?_)
 ·obtain ⟨rfl,h⟩:=hs;by_cases hlt:k<n
  ·have two:∀ {x y:Int} {f:Bool→Option (Int ⊕ (Unit ⊕ Int))} {Q:Option (Int ⊕ (Unit ⊕ Int))→Prop} {g g':(Int×Int×Int×Int)×Rat→Int},g (o k,w k)=x→g' (o k,w k)=x→((x<0∨y≤x)→Q (f true))→(0≤x∧x<y→Q (f false))→Q (bnd (α:=Bool) (bnd (idx (vx n fun i=>(o i,w i)) (k:Int)) fun y7=>ifb (decide (g y7<(0:Int))) (some true) (bnd (idx (vx n fun i=>(o i,w i)) (k:Int)) fun y8=>some (decide (y≤g' y8)))) f):=by
    intro x y f Q g g' e1 e2 h1 h2;rw [Z5 _ hlt,Za,Za,e1,e2];by_cases a:x<0
    ·rw [decide_eq_true a,Zf,Za];exact h1 (.inl a)
    ·rw [decide_eq_false a,Ze,Za];by_cases b:y≤x
     ·rw [decide_eq_true b];exact h1 (.inr b)
     ·rw [decide_eq_false b];exact h2 ⟨by omega,by omega⟩
   rw [decide_eq_true (by omega),Zf]
   let Q:Option (Int ⊕ (Unit ⊕ Int))→Prop:=fun y=>(∃ s',k<n∧y=some (.inl s')∧s'=((k+1:Nat):Int)∧∀ i,i<k+1→inL t (o i)) ∨ ∃ r,y=some (.inr r)∧((r = .inl ()∧∀ i,i<n→inL t (o i))∨r = .inr 1)
   refine two (Q:=Q) (g:=fun y=>y.1.1) (g':=fun y=>y.1.1) rfl rfl (fun _=>?_) (fun u1=>?_)
   ·rw [Zf];exact .inr ⟨_,rfl,.inr rfl⟩
   rw [Ze];refine two (Q:=Q) (g:=fun y=>y.1.2.1) (g':=fun y=>y.1.2.1) rfl rfl (fun _=>?_) (fun u2=>?_)
   ·rw [Zf];exact .inr ⟨_,rfl,.inr rfl⟩
   rw [Ze];refine two (Q:=Q) (g:=fun y=>y.1.2.2.1) (g':=fun y=>y.1.2.2.1) rfl rfl (fun _=>?_) (fun u3=>?_)
   ·rw [Zf];exact .inr ⟨_,rfl,.inr rfl⟩
   rw [Ze];refine two (Q:=Q) (g:=fun y=>y.1.2.2.2) (g':=fun y=>y.1.2.2.2) rfl rfl (fun _=>?_) (fun u4=>?_)
   ·rw [Zf];exact .inr ⟨_,rfl,.inr rfl⟩
   rw [Ze,Zm (by omega) (by omega),Za];refine .inl ⟨_,hlt,rfl,rfl,fun i hi=>?_⟩;by_cases e:i=k
   ·subst e;exact ⟨u1,u2,u3,u4⟩
   ·exact h i (by omega)
  ·right;obtain rfl:k=n:=by omega
   exact ⟨_,by rw [decide_eq_false (by omega),Ze],.inl ⟨rfl,h⟩⟩
 ·rcases hr with ⟨rfl,h⟩ | rfl
  ·exact ⟨0,rfl,fun _=>⟨⟨s1,s2,s3,s4⟩,by omega,h⟩⟩
  ·exact ⟨1,rfl,fun h=>by omega⟩
noncomputable def ZBn (x:Rat):Option (Bool) :=
 bnd (Zbf x) fun a =>
 some (decide (a≤(0:Int)))
noncomputable def ZIs (l:(List Rat)) (g:Unit):Option (Int) :=
 bnd (bnd (Zp (fun s:Int=>match s with
 | a =>
 (ifb (decide (a<(l.length:Int)))
 (bnd (idx l a) fun b =>
 bnd (ZBn b) fun c =>
 ifb (c)
 (some (.inr ((.inl a))))
 (bnd (chk .i64 (a+(1:Int))) fun d =>
 some (.inl d)))
 (some (.inr ((.inr (()))))))) Zu (0:Int))
 (fun (p:(Int) ⊕ (Unit))=>match p with
 | .inl e =>
 (some ((.inr e)))
 | .inr (()) =>
 (some ((.inl (()))))))
 (fun (p:(Unit) ⊕ (Int))=>match p with
 | .inl (()) =>
 (some (-1:Int))
 | .inr f =>
 (some f))
noncomputable def Zru (l:(List Rat)) (g:Unit):Option (Bool) :=
 bnd (ZIs l (())) fun a =>
 some (decide ((0:Int)≤a))
noncomputable def ZFj (l:(List Rat)):Option (Bool) :=
 bnd (Zru l (())) fun a =>
 some (!(a))
noncomputable def ZZm (t:(Rat×(List Rat))):Option (Int) :=
 bnd (ZFj ([t.1])) fun b =>
 ifb (!(b))
 (some (1:Int))
 (bnd (ifb (((t.2.length:Int))==(0:Int))
 (some true)
 (some (decide ((16:Int)≤(t.2.length:Int)))))
 (fun (c:Bool) =>
 (ifb (c)
 (some (4:Int))
 (bnd (bnd (Zp (fun s:Int=>match s with
 | a =>
 (ifb (decide (a<(t.2.length:Int)))
 (bnd (idx t.2 a) fun d =>
 bnd (ifb (decide ((0:Int)<a))
 (bnd (chk .i64 (a-(1:Int))) fun e =>
 bnd (idx t.2 e) fun f =>
 bnd (Zff d f) fun g =>
 some (decide (g≤(0:Int))))
 (some false))
 (fun (h:Bool) =>
 (ifb (h)
 (some (.inr ((.inl (7:Int)))))
 (bnd (chk .i64 (a+(1:Int))) fun i =>
 some (.inl i)))))
 (some (.inr ((.inr (()))))))) Zu (0:Int))
 (fun (p:(Int) ⊕ (Unit))=>match p with
 | .inl j =>
 (some ((.inr j)))
 | .inr (()) =>
 (some ((.inl (()))))))
 (fun (p:(Unit) ⊕ (Int))=>match p with
 | .inl (()) =>
 (some (0:Int))
 | .inr k =>
 (some k))))))
noncomputable def Zjs (y:Rat) (r:Rat):Option (Bool) :=
 bnd (Zff y r) fun a =>
 some (decide ((0:Int)≤a))
noncomputable def ZYs (l:(List Rat)) (g:Rat):Option (Int) :=
 bnd (bnd (Zp (fun s:Int=>match s with
 | a =>
 (ifb (decide (a<(l.length:Int)))
 (bnd (idx l a) fun b =>
 bnd (Zjs b g) fun c =>
 ifb (c)
 (some (.inr ((.inl a))))
 (bnd (chk .i64 (a+(1:Int))) fun d =>
 some (.inl d)))
 (some (.inr ((.inr (()))))))) Zu (0:Int))
 (fun (p:(Int) ⊕ (Unit))=>match p with
 | .inl e =>
 (some ((.inr e)))
 | .inr (()) =>
 (some ((.inl (()))))))
 (fun (p:(Unit) ⊕ (Int))=>match p with
 | .inl (()) =>
 (some (-1:Int))
 | .inr f =>
 (some f))
noncomputable def Z0m (t:(Rat×(List Rat))) (x:Rat):Option (Int) :=
 bnd (ZNk x t.1) fun b =>
 bnd (ZYs t.2 b.1) fun a =>
 ifb (decide (a<(0:Int)))
 (some ((t.2.length:Int)))
 (some a)
noncomputable def ZOn (t:(Rat×(List Rat))) (x:Rat):Option (Int×Int) :=
 bnd (ZZm ((t.1,t.2))) fun a =>
 ifb (a != (0:Int))
 (some (((0:Int),a)))
 (bnd (Z0m ((t.1,t.2)) x) fun b =>
 some ((b,(0:Int))))
noncomputable def ZSm (d:((Int×Int)×(Int×Int)×(Int×Int))):Option ((Rat×Rat×Rat)×(Rat×Rat×Rat)) :=
 bnd (Z1 ((d.1.1,d.1.2))) fun a =>
 bnd (Z1 ((d.2.1.1,d.2.1.2))) fun b =>
 bnd (Z1 ((d.2.2.1,d.2.2.2))) fun c =>
 bnd (ZFd ((d.1.1,d.1.2))) fun e =>
 bnd (ZFd ((d.2.1.1,d.2.1.2))) fun f =>
 bnd (ZFd ((d.2.2.1,d.2.2.2))) fun g =>
 some (((a,b,c),(e,f,g)))
noncomputable def ZKl (d:(Rat×Rat×Rat)):Option (Bool) :=
 bnd (ZFj ([d.1,d.2.1,d.2.2])) fun a =>
 some a
noncomputable def Zjn (d:(Rat×Rat×Rat)) (x:Rat) (y:Rat):Option (Rat×Int) :=
 bnd (ZKl ((d.1,d.2.1,d.2.2))) fun a =>
 ifb (!(a))
 (some (((0:Rat),(1:Int))))
 (bnd (Z5a x y) fun b =>
 bnd (Zdb (1:Int)) fun c =>
 bnd (Zqh d.2.1 d.1) fun e =>
 bnd (Zfa c e) fun f =>
 bnd (Zkb b f) fun g =>
 some ((g,(0:Int))))
noncomputable def Zvl (i:Int) (k:Int):Option (Rat) :=
 ifb (i==k)
 (bnd (Zdb (1:Int)) fun a =>
 some a)
 (some ((0:Rat)))
noncomputable def Z3v (t:(List (List Int))) (n:Int) (g:Unit):Option (Rat×Rat) :=
 bnd (bnd (mk 8 ((t.length:Int)) ((t.length:Int))) fun an =>
 bnd (mk 8 ((t.length:Int)) ((t.length:Int))) fun ao =>
 some (((List.replicate ((t.length:Int)).toNat (0:Int)),(List.replicate ((t.length:Int)).toNat (0:Int)))))
 (fun (p:(List Int)×(List Int))=>match p with
 | (u,v) =>
 (bnd (bnd (Zp (fun s:(List Int)×(List Int)×Int=>match s with
 | (h,i,a) =>
 (ifb (decide (a<(t.length:Int)))
 (bnd (idx t a) fun j =>
 bnd (bnd (Zp (fun s:(List Int)×(List Int)×Int=>match s with
 | (e,f,b) =>
 (ifb (decide (b<(j.length:Int)))
 (bnd (idx j b) fun k =>
 bnd (idx e a) fun w =>
 bnd (chk .i64 (w+k)) fun x =>
 bnd (idx e a) fun ap =>
 bnd (idx f b) fun y =>
 bnd (chk .i64 (y+k)) fun z =>
 bnd (idx f b) fun aq =>
 bnd (chk .i64 (b+(1:Int))) fun A =>
 some (.inl (((e.set (a).toNat x),(f.set (b).toNat z),A))))
 (some (.inr ((e,f)))))) Zu ((h,i,(0:Int))))
 (fun (p:(List Int)×(List Int))=>match p with
 | (B,C) =>
 (some ((B,C)))))
 (fun (p:(List Int)×(List Int))=>match p with
 | (D,E) =>
 (bnd (chk .i64 (a+(1:Int))) fun F =>
 some (.inl ((D,E,F))))))
 (some (.inr ((h,i)))))) Zu ((u,v,(0:Int))))
 (fun (p:(List Int)×(List Int))=>match p with
 | (G,H) =>
 (some ((G,H)))))
 (fun (p:(List Int)×(List Int))=>match p with
 | (I,J) =>
 (bnd (bnd (Zp (fun s:Rat×Rat×Int=>match s with
 | (l,m,c) =>
 (ifb (decide (c<(t.length:Int)))
 (bnd (idx t c) fun o =>
 bnd (bnd (Zp (fun s:Rat×Rat×Int=>match s with
 | (q,r,d) =>
 (ifb (decide (d<(o.length:Int)))
 (bnd (idx o d) fun K =>
 bnd (Zvl c d) fun L =>
 bnd (Zdb K) fun M =>
 bnd (Zkb L M) fun N =>
 bnd (Zfa q N) fun O =>
 bnd (Zvl c d) fun P =>
 bnd (idx I c) fun Q =>
 bnd (Zdb Q) fun R =>
 bnd (Zkb P R) fun S =>
 bnd (idx J d) fun T =>
 bnd (Zdb T) fun U =>
 bnd (Zkb S U) fun V =>
 bnd (Zfa r V) fun W =>
 bnd (chk .i64 (d+(1:Int))) fun X =>
 some (.inl ((O,W,X))))
 (some (.inr ((q,r)))))) Zu ((l,m,(0:Int))))
 (fun (p:Rat×Rat)=>match p with
 | (Y,Z) =>
 (some ((Y,Z)))))
 (fun (p:Rat×Rat)=>match p with
 | (aa,ab) =>
 (bnd (chk .i64 (c+(1:Int))) fun ac =>
 some (.inl ((aa,ab,ac))))))
 (some (.inr ((l,m)))))) Zu (((0:Rat),(0:Rat),(0:Int))))
 (fun (p:Rat×Rat)=>match p with
 | (ad,ae) =>
 (some ((ad,ae)))))
 (fun (p:Rat×Rat)=>match p with
 | (af,ag) =>
 (bnd (Zdb n) fun ah =>
 bnd (Zqh af ah) fun ai =>
 bnd (Zdb n) fun aj =>
 bnd (Zdb n) fun ak =>
 bnd (Zkb aj ak) fun al =>
 bnd (Zqh ag al) fun am =>
 some ((ai,am))))))))
noncomputable def ZTs (r:(List Int)) (t:(List (List Int))):Option (Bool) :=
 some (((r.length:Int)) != ((t.length:Int)))
noncomputable def ZGu (l:(List (List Int))) (g:(List (List Int))):Option (Int) :=
 bnd (bnd (Zp (fun s:Int=>match s with
 | a =>
 (ifb (decide (a<(l.length:Int)))
 (bnd (idx l a) fun b =>
 bnd (ZTs b g) fun c =>
 ifb (c)
 (some (.inr ((.inl a))))
 (bnd (chk .i64 (a+(1:Int))) fun d =>
 some (.inl d)))
 (some (.inr ((.inr (()))))))) Zu (0:Int))
 (fun (p:(Int) ⊕ (Unit))=>match p with
 | .inl e =>
 (some ((.inr e)))
 | .inr (()) =>
 (some ((.inl (()))))))
 (fun (p:(Unit) ⊕ (Int))=>match p with
 | .inl (()) =>
 (some (-1:Int))
 | .inr f =>
 (some f))
noncomputable def Z3r (l:(List (List Int))) (g:(List (List Int))):Option (Bool) :=
 bnd (ZGu l g) fun a =>
 some (decide ((0:Int)≤a))
noncomputable def ZHl (t:(List (List Int))):Option (Int×Int) :=
 bnd (ifb (((t.length:Int))==(0:Int))
 (some ((t,true)))
 (ifb (decide ((8:Int)<(t.length:Int)))
 (some ((t,true)))
 (bnd (Z3r t t) fun i =>
 some ((t,i)))))
 (fun (p:(List (List Int))×Bool)=>match p with
 | (d,j) =>
 (ifb (j)
 (some (((0:Int),(4:Int))))
 (bnd (bnd (Zp (fun s:Int×Int=>match s with
 | (e,a) =>
 (ifb (decide (a<(d.length:Int)))
 (bnd (idx d a) fun f =>
 bnd (bnd (Zp (fun s:Int×Int=>match s with
 | (g,b) =>
 (ifb (decide (b<(f.length:Int)))
 (bnd (idx f b) fun c =>
 bnd (ifb (decide (c<(0:Int)))
 (some true)
 (some (decide ((1000000:Int)<c))))
 (fun (k:Bool) =>
 (ifb (k)
 (some (.inr ((.inl (((0:Int),(1:Int)))))))
 (bnd (chk .i64 (g+c)) fun l =>
 bnd (chk .i64 (b+(1:Int))) fun m =>
 some (.inl ((l,m)))))))
 (some (.inr ((.inr g)))))) Zu ((e,(0:Int))))
 (fun (p:(Int×Int) ⊕ (Int))=>match p with
 | .inl ((n,o)) =>
 (some ((.inr ((n,o)))))
 | .inr q =>
 (some ((.inl q)))))
 (fun (p:(Int) ⊕ (Int×Int))=>match p with
 | .inl r =>
 (bnd (chk .i64 (a+(1:Int))) fun u =>
 some (.inl ((r,u))))
 | .inr ((v,w)) =>
 (some (.inr ((.inl ((v,w))))))))
 (some (.inr ((.inr e)))))) Zu (((0:Int),(0:Int))))
 (fun (p:(Int×Int) ⊕ (Int))=>match p with
 | .inl ((x,y)) =>
 (some ((.inr ((x,y)))))
 | .inr z =>
 (some ((.inl z)))))
 (fun (p:(Int) ⊕ (Int×Int))=>match p with
 | .inl h =>
 (ifb (h==(0:Int))
 (some (((0:Int),(3:Int))))
 (some ((h,(0:Int)))))
 | .inr ((A,B)) =>
 (some ((A,B)))))))
noncomputable def ZMt (t:(List (List Int))) (g:Unit):Option (Rat×Int) :=
 bnd (ZHl t) fun a =>
 ifb (a.2 != (0:Int))
 (some (((0:Rat),a.2)))
 (bnd (Z3v t a.1 (())) fun b =>
 bnd (bnd (Z5a b.1 b.2) fun d =>
 bnd (Zdb (1:Int)) fun e =>
 bnd (Z5a e b.2) fun f =>
 bnd (Zbd d f) fun c =>
 some ((c.2,c.1)))
 (fun (p:Int×Rat)=>match p with
 | (h,i) =>
 (ifb (h != (0:Int))
 (some (((0:Rat),(5:Int))))
 (some ((i,(0:Int)))))))
noncomputable def ZSn (t:(List (List Int))):Option (Rat×Int) :=
 bnd (ZMt t (())) fun a =>
 some ((a.1,a.2))
noncomputable def ZWm (l:(List (Int×Int))):Option ((List Rat)×(List Rat)) :=
 bnd (bnd (Zp (fun s:(List Rat)×(List Rat)×Int=>match s with
 | (b,c,d) =>
 (ifb (decide (d<(l.length:Int)))
 (bnd (idx l d) fun a =>
 bnd (Z1 ((a.1,a.2))) fun e =>
 bnd (ZN 56 (b++[e])) fun m =>
 bnd (ZFd ((a.1,a.2))) fun f =>
 bnd (ZN 56 (c++[f])) fun n =>
 bnd (chk .i64 (d+(1:Int))) fun g =>
 some (.inl (((b++[e]),(c++[f]),g))))
 (some (.inr ((b,c)))))) Zu ((([]:(List Rat)),([]:(List Rat)),(0:Int))))
 (fun (p:(List Rat)×(List Rat))=>match p with
 | (h,i) =>
 (some ((h,i)))))
 (fun (p:(List Rat)×(List Rat))=>match p with
 | (j,k) =>
 (some ((j,k))))
noncomputable def ZDm (step:(Int×Int)) (limits:(List (Int×Int))):Option ((Rat×(List Rat))×(Rat×(List Rat))) :=
 bnd (ZWm limits) fun a =>
 bnd (Z1 ((step.1,step.2))) fun b =>
 bnd (ZFd ((step.1,step.2))) fun c =>
 some (((b,a.1),(c,a.2)))
noncomputable def Zwd  : Option (Bool) :=
 bnd (ZSm ((((2:Int),(0:Int)),((1:Int),(2:Int)),((4000:Int),(0:Int))))) fun a =>
 bnd (bnd (ZJc (48:Int)) fun f =>
 bnd (ZJc (8:Int)) fun g =>
 bnd (Zjn ((a.1.1,a.1.2.1,a.1.2.2)) f g) fun b =>
 some ((b.1,b.2)))
 (fun (p:Rat×Int)=>match p with
 | (h,i) =>
 (bnd (ZSn ([[(20:Int),(5:Int)],[(10:Int),(15:Int)]])) fun c =>
 bnd (ZDm (((1:Int),(10:Int))) ([((1:Int),(0:Int)),((2:Int),(0:Int))])) fun d =>
 bnd (Z1 (((206:Int),(100:Int)))) fun j =>
 bnd (ZOn ((d.1.1,d.1.2)) j) fun e =>
 bnd (ifb (i==(0:Int))
 (ifb (c.2==(0:Int))
 (ifb (e.2==(0:Int))
 (bnd (ZMf h) fun k =>
 ifb (k==(([53,48]:List UInt8)))
 (bnd (ZMf c.1) fun l =>
 ifb (l==(([50,47,53]:List UInt8)))
 (some (e.1==(2:Int)))
 (some false))
 (some false))
 (some false))
 (some false))
 (some false))
 (fun (m:Bool) =>
 (some m))))
set_option maxRecDepth 100000 in
theorem ZPg:Zwd=some true:=by
 unfold Zwd;rw [Zvx];decide +kernel
noncomputable def Zol (t:Int×Int×Int×Int):Option (Int×Int×Int×Int) :=
 some (t.1,t.2.1,t.2.2.1,t.2.2.2)
noncomputable def ZUk (t:Int×Int×Int×Int) (l:List ((Int×Int×Int×Int)×Int×Int)) (pick:Int×Int×Int×Int×Int) (eff:List (Int×Int)) (more:Int×Int):Option Bool :=
 bnd (Zci l) fun c =>
 bnd (α:=Bool)
 (ifb (decide ((20:Int)<(l.length:Int)))
 (some true)
 (bnd (Z3h t c.2) fun z =>
 ifb (z != (0:Int))
 (some true)
 (bnd (chk .i64 (t.1+t.2.1)) fun A =>
 bnd (chk .i64 (A+t.2.2.1)) fun B =>
 bnd (chk .i64 (B+t.2.2.2)) fun C =>
 some (decide ((eff.length:Int)<C))))) fun D =>
 ifb D
 (bnd Zwd fun E =>
 some E)
 (bnd (Zol t) fun g =>
 bnd (rem .i64 (IntKind.i64.wrap pick.1) t.1) fun d =>
 bnd (rem .i64 (IntKind.i64.wrap pick.2.1) t.1) fun e =>
 bnd (rem .i64 (IntKind.i64.wrap pick.2.2.1) t.1) fun q =>
 bnd (Zeb g c.1 d e) fun i =>
 bnd (ZAi g c.1 d e) fun k =>
 bnd (α:=Bool)
 (ifb (k.2.2 != (0:Int))
 (some true)
 (ifb (k.1 != (i.2==(0:Int)))
 (some true)
 (ifb (!k.1)
 (some (i.2 != (5:Int)))
 (some false)))) fun F =>
 ifb F
 (some false)
 (ifb (!k.1)
 (bnd Zwd fun G =>
 some G)
 (bnd (rem .i64 (IntKind.i64.wrap pick.2.2.2.1) (3:Int)) fun H =>
 bnd (chk .i64 ((1:Int)+H)) fun f =>
 bnd (α:=Int)
 (ifb (decide (f=(0:Int)))
 (bnd (rem .i64 (IntKind.i64.wrap pick.2.2.2.2) t.1) fun I =>
 some I)
 (ifb (decide (f=(1:Int)))
 (bnd (rem .i64 (IntKind.i64.wrap pick.2.2.2.2) t.2.1) fun J =>
 some J)
 (ifb (decide (f=(2:Int)))
 (bnd (rem .i64 (IntKind.i64.wrap pick.2.2.2.2) t.2.2.1) fun K =>
 some K)
 (ifb (decide (f=(3:Int)))
 (bnd (rem .i64 (IntKind.i64.wrap pick.2.2.2.2) t.2.2.2) fun L =>
 some L)
        (none))))) fun m =>
 bnd (Zp (σ:=(List (Int×Int×Int×Int×Rat))×(List (Int×Int×Int×Int×Rat))×(List (Int×Int×Int×Int×Rat))×Int) (ρ:=(List (Int×Int×Int×Int×Rat))×(List (Int×Int×Int×Int×Rat))×(List (Int×Int×Int×Int×Rat))) (fun a =>
 ifb (decide (a.2.2.2<(c.1.length:Int)))
 (bnd (idx c.1 a.2.2.2) fun j =>
 bnd (idx c.1 a.2.2.2) fun h =>
 bnd (idx c.1 a.2.2.2) fun b =>
 bnd (α:=Bool)
 (bnd (idx l a.2.2.2) fun n =>
 ifb (decide (f=(0:Int)))
 (some (n.1.1==m))
 (ifb (decide (f=(1:Int)))
 (some (n.1.2.1==m))
 (ifb (decide (f=(2:Int)))
 (some (n.1.2.2.1==m))
 (ifb (decide (f=(3:Int)))
 (some (n.1.2.2.2==m))
           (none))))) fun M =>
 bnd (α:=Int×Int×Int×Int×Rat)
 (ifb M
 (bnd (Z1 more) fun N =>
 bnd (Zfa j.2.2.2.2 N) fun O =>
 some (j.1,j.2.1,j.2.2.1,j.2.2.2.1,O))
 (some j)) fun r =>
 bnd (α:=Int×Int×Int×Int×Rat)
 (ifb (h.1==d)
 (bnd (Z1 more) fun P =>
 bnd (Zfa h.2.2.2.2 P) fun Q =>
 some (h.1,h.2.1,h.2.2.1,h.2.2.2.1,Q))
 (some h)) fun s =>
 bnd (idx eff b.1) fun R =>
 bnd (Z1 R) fun S =>
 bnd (chk .i64 (t.1+b.2.1)) fun T =>
 bnd (idx eff T) fun U =>
 bnd (Z1 U) fun V =>
 bnd (Zfa S V) fun W =>
 bnd (chk .i64 (t.1+t.2.1)) fun X =>
 bnd (chk .i64 (X+b.2.2.1)) fun Y =>
 bnd (idx eff Y) fun Z =>
 bnd (Z1 Z) fun aa =>
 bnd (Zfa W aa) fun ab =>
 bnd (chk .i64 (t.1+t.2.1)) fun ac =>
 bnd (chk .i64 (ac+t.2.2.1)) fun ad =>
 bnd (chk .i64 (ad+b.2.2.2.1)) fun ae =>
 bnd (idx eff ae) fun af =>
 bnd (Z1 af) fun ag =>
 bnd (Zfa ab ag) fun u =>
 bnd (ZN 88 (a.1++[r])) fun _ =>
 bnd (ZN 88 (a.2.1++[s])) fun _ =>
 bnd (ZN 88 (a.2.2.1++[(b.1,b.2.1,b.2.2.1,b.2.2.2.1,u)])) fun _ =>
 bnd (chk .i64 (a.2.2.2+(1:Int))) fun ah =>
 some (.inl (a.1++[r],a.2.1++[s],a.2.2.1++[(b.1,b.2.1,b.2.2.1,b.2.2.2.1,u)],ah)))
 (some (.inr (a.1,a.2.1,a.2.2.1))))
     Zu (([]:List (Int×Int×Int×Int×Rat)),([]:List (Int×Int×Int×Int×Rat)),([]:List (Int×Int×Int×Int×Rat)),(0:Int))) fun o =>
 bnd (Zeb g o.1 d e) fun v =>
 bnd (Zeb g o.2.1 d e) fun w =>
 bnd (Zeb g o.2.2 d e) fun x =>
 bnd (α:=Rat)
 (ifb (d != e)
 (bnd (Z1 more) fun ai =>
 bnd (Zfa i.1 ai) fun aj =>
 some aj)
 (some i.1)) fun ak =>
 bnd (α:=Bool)
 (ifb ((max (max v.2 w.2) x.2) != (0:Int))
 (some true)
 (bnd (ZTc v.1 i.1) fun al =>
 ifb (!al)
 (some true)
 (bnd (ZTc w.1 ak) fun am =>
 ifb (!am)
 (some true)
 (bnd (idx eff d) fun an =>
 bnd (Z1 an) fun ao =>
 bnd (idx eff e) fun ap =>
 bnd (Z1 ap) fun aq =>
 bnd (Z5a ao aq) fun ar =>
 bnd (ZTc x.1 ar) fun au =>
 some (!au))))) fun av =>
 ifb av
 (some false)
 (bnd (Zeb g c.1 e q) fun p =>
 bnd (Zeb g c.1 d q) fun y =>
 bnd (α:=Bool)
 (ifb (p.2==y.2)
 (ifb (p.2 != (0:Int))
 (bnd Zwd fun aw =>
 some aw)
 (bnd (Zfa i.1 p.1) fun ax =>
 bnd (ZTc y.1 ax) fun ay =>
 ifb ay
 (bnd Zwd fun az =>
 some az)
 (some false)))
 (some false)) fun aA =>
 some aA))))
end Go.Eng
