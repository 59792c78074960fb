/- Lemmas towards the statement: the engine of the walks, the functions' models, laws and walks, part 4. Conditions: as each states. -/
import Derived.Laws.CopyRow
import Derived.Lib.AppendZerosOnto
import Derived.Lib.Join
import Derived.Lib.Overlaps
import Derived.Scope
import Derived.Test.YtinpjekdhmadcaaGreatDoorPpC
set_option linter.all false
set_option maxRecDepth 100000
namespace Go.Eng
open Go.RowKit
def ZDd {α:Type} (p:Option Nat×Nat) (r:List α):Value:=.slice (mkA p.1) r.length p.2
section
variable {v:Zb} {ty:TypeId} {t:T}
theorem ZRh {α:Type}:∀ {rows:List (Option Nat×Nat)} {m:List (List α)} (k:Nat),(Zq rows m)[k]? = (rows[k]?).bind λp=>(m[k]?).map λr=>ZDd p r
 | [],_,_=>by simp[Zq]
 | _ :: _,[],k=>by cases h:(_ :: _:List (Option Nat×Nat))[k]? <;> simp[Zq]
 | p :: ps,r :: rs,0=>by simp[Zq,ZDd]
 | p :: ps,r :: rs,k+1=>by simpa [Zq] using ZRh (rows:=ps) (m:=rs) k
theorem Zsf:∀ {rows:List (Option Nat×Nat)} {m:List (List t.den)} {es:List Loc},Zra v ty t rows m es↔rows.length=m.length∧es.length=m.length∧∀ (k:Nat) (p:Option Nat×Nat) (r:List t.den),rows[k]? = some p→m[k]? = some r→∃ cs,t.rep.rels v cs r∧es[k]? = some (Loc.own p.1 ty t.n r.length p.2 cs)
 | [],[],es=>by
  constructor
  ·intro h
   rw[show es=[] from h]
   exact⟨rfl,rfl,λk p r h=>by simp at h⟩
  ·rintro⟨_,h,_⟩
   exact List.length_eq_zero_iff.1 h
 | p :: ps,r :: rs,es=>by
  constructor
  ·rintro⟨cs,es',h1,rfl,h3⟩
   obtain⟨k1,k2,k3⟩:=Zsf.1 h3
   refine⟨by simp[k1],by simp[k2],λk p' r' hp hr=>?_⟩
   cases k with
   | zero=>simp at hp hr;subst hp hr;exact⟨cs,h1,rfl⟩
   | succ k=>simp only[List.getElem?_cons_succ]at hp hr ⊢;exact k3 k p' r' hp hr
  ·rintro⟨h1,h2,h3⟩
   cases es with
   | nil=>simp at h2
   | cons x es' =>
    obtain⟨cs,q1,q2⟩:=h3 0 p r rfl rfl
    simp at q2
    refine⟨cs,es',q1,by rw[q2],Zsf.2 ⟨by simpa using h1,by simpa using h2,λk p' r' hp hr=>?_⟩⟩
    have:=h3 (k+1) p' r' (by simpa using hp) (by simpa using hr)
    simpa using this
 | [],_ :: _,es=>⟨λk=>k.elim,λk=>by simp at k⟩
 | _ :: _,[],es=>⟨λk=>k.elim,λk=>by simp at k⟩
theorem Zrz {rows:List (Option Nat×Nat)} {m:List (List t.den)} {e1 e2:List Loc} {c:Loc} {p:Option Nat×Nat} {r':List t.den} {cs':List Value} (h:Zra v ty t rows m (e1++c :: e2)) (hr:t.rep.rels v cs' r') :
  (Zq rows m).take e1.length++[ZDd p r']++(Zq rows m).drop (e1.length+1)=Zq (rows.set e1.length p) (m.set e1.length r')∧Zra v ty t (rows.set e1.length p) (m.set e1.length r') (e1 ++ .own p.1 ty t.n r'.length p.2 cs' :: e2):=by
 obtain⟨k1,k2,k3⟩:=Zsf.1 h;have hlt:e1.length<m.length:=by rw[← k2];simp
 have hl:=ZTd k1;constructor
 ·have e:(Zq rows m).take e1.length++[ZDd p r']++(Zq rows m).drop (e1.length+1)=(Zq rows m).set e1.length (ZDd p r'):=by
   rw[List.set_eq_take_append_cons_drop,iP (by omega)];simp
  rw[e];apply List.ext_getElem?;intro k;rw[ZRh,List.getElem?_set,List.getElem?_set,List.getElem?_set];by_cases hk:e1.length=k
  ·rw[iP hk,iP hk,iP hk,iP (by omega),iP (by omega),iP (by omega)];rfl
  ·rw[iN hk,iN hk,iN hk,ZRh]
 ·refine Zsf.2 ⟨by simpa using k1,by simpa using k2,λk p' r2 hp hr2=>?_⟩;rw[List.getElem?_set]at hp hr2;by_cases hk:e1.length=k
  ·subst hk;rw[iP rfl,iP (by omega)]at hp hr2
   cases hp;cases hr2
   exact⟨cs',hr,by rw[List.getElem?_append_right (Nat.le_refl _)];simp⟩
  ·rw[iN hk]at hp hr2;obtain⟨cs,q1,q2⟩:=k3 k p' r2 hp hr2;refine⟨cs,q1,?_⟩;rw[← q2];by_cases hlt2:k<e1.length
   ·rw[List.getElem?_append_left hlt2,List.getElem?_append_left hlt2]
   ·rw[List.getElem?_append_right (by omega),List.getElem?_append_right (by omega)];obtain⟨j,hj⟩:∃ j,k-e1.length=j+1:=⟨k-e1.length-1,by omega⟩;rw[hj,List.getElem?_cons_succ,List.getElem?_cons_succ]
theorem Zru {rows:List (Option Nat×Nat)} {m:List (List t.den)} {es:List Loc} {i j:Nat} {pi pj:Option Nat×Nat} {ri rj:List t.den} (h:Zra v ty t rows m es) (hi:rows[i]? = some pi) (hj:rows[j]? = some pj) (gi:m[i]? = some ri) (gj:m[j]? = some rj) :
  ((Zq rows m).set i (ZDd pj rj)).set j (ZDd pi ri)=Zq ((rows.set i pj).set j pi) (ZOd m i j)∧∃ es',es'.Perm es∧Zra v ty t ((rows.set i pj).set j pi) (ZOd m i j) es':=by
 obtain⟨k1,k2,k3⟩:=Zsf.1 h;have hl:=ZTd k1;have li:i<m.length:=(List.getElem?_eq_some_iff.1 gi).1;have lj:j<m.length:=(List.getElem?_eq_some_iff.1 gj).1;have hm:ZOd m i j=(m.set i rj).set j ri:=by
  unfold ZOd;rw[List.getD_eq_getElem?_getD,List.getD_eq_getElem?_getD,gi,gj];rfl
 obtain⟨ci,ri1,ri2⟩:=k3 i pi ri hi gi;obtain⟨cj,rj1,rj2⟩:=k3 j pj rj hj gj;have ei:i<es.length:=by omega
 have ej:j<es.length:=by omega
 have hei:es[i] = .own pi.1 ty t.n ri.length pi.2 ci:=(List.getElem?_eq_some_iff.1 ri2).2;have hej:es[j] = .own pj.1 ty t.n rj.length pj.2 cj:=(List.getElem?_eq_some_iff.1 rj2).2;rw[hm];refine⟨?_,(es.set i es[j]).set j es[i],List.set_set_perm ei ej,?_⟩
 ·apply List.ext_getElem?;intro k;rw[ZRh,List.getElem?_set,List.getElem?_set,List.getElem?_set,List.getElem?_set,List.getElem?_set,List.getElem?_set];simp only[List.length_set];by_cases hk:j=k
  ·rw[iP hk,iP hk,iP hk,iP (by omega),iP (by omega),iP (by omega)];rfl
  ·rw[iN hk,iN hk,iN hk];by_cases hk2:i=k
   ·rw[iP hk2,iP hk2,iP hk2,iP (by omega),iP (by omega),iP (by omega)];rfl
   ·rw[iN hk2,iN hk2,iN hk2,ZRh]
 ·refine Zsf.2 ⟨by simpa using k1,by simpa using k2,λk p' r2 hp hr2=>?_⟩;rw[List.getElem?_set,List.getElem?_set]at hp hr2 ⊢;simp only[List.length_set]at hp hr2 ⊢;by_cases hk:j=k
  ·rw[iP hk,iP (by omega)]at hp hr2
   cases hp;cases hr2
   exact⟨ci,ri1,by rw[iP hk,iP (by omega),hei]⟩
  ·rw[iN hk]at hp hr2 ⊢;by_cases hk2:i=k
   ·rw[iP hk2,iP (by omega)]at hp hr2
    cases hp;cases hr2
    exact⟨cj,rj1,by rw[iP hk2,iP (by omega),hej]⟩
   ·rw[iN hk2]at hp hr2 ⊢;exact k3 k p' r2 hp hr2
end
end Go.Eng
namespace Go.Eng
open Go.RowKit
variable {K:Nat} {w0:Base} {v0:Zb} {σ:List (Nat×Value)} {ℓ:List Loc} {v:Zb} {a:Act} {w:World}
theorem ZAq {α:Type} {A:Rep α} {v:Zb} {cs c d:List Value} {l:List α} {i sz m p:Nat} {x:α} (h:A.rels v cs l) (hi:i<l.length) (hc:(cs.drop (i*sz)).take sz=c)
  (hx:A.rel v (c.take p++d++c.drop (p+m)) x) (hsz:sz=A.n) (hp:p+m≤sz) :
  A.rels v (cs.take (0+i*sz+p)++d++cs.drop (0+i*sz+p+m)) (l.set i x):=by
 have hl:=Z6a h;have h1:i*sz+sz≤cs.length:=by
  rw[hl,← hsz,← Nat.succ_mul];exact mR _ hi
 have key:=ZGf (sz:=sz) (m:=sz) h hi hx hsz hsz;have e1:cs.take (0+i*sz+p)=cs.take (0+i*sz)++c.take p:=by
  rw[← hc,List.take_take,Nat.min_eq_left (by omega),Nat.zero_add,List.take_add]
 have e2:cs.drop (0+i*sz+p+m)=c.drop (p+m)++cs.drop (0+i*sz+sz):=by
  rw[← hc,List.drop_take,List.drop_drop,Nat.zero_add,show i*sz+p+m=i*sz+(p+m) by omega];have e3:cs.drop (i*sz+sz)=(cs.drop (i*sz+(p+m))).drop (sz-(p+m)):=by
   rw[List.drop_drop];congr 1;omega
  rw[e3,List.take_append_drop]
 rw[e1,e2]
 simpa [aAq] using key
theorem Zpq (hS:St K w0 v0 σ ℓ v a w) {j n cap sz:Nat} {b:Option Nat} {T:TypeId} {cs:List Value} (hj:ℓ[j]? = some (.own b T sz n cap cs)) {i p m:Nat} (h:i<n) (hp:p+m≤sz):0+i*sz+p+m≤cs.length:=by
 have:=Zkh hS hj h;omega
end Go.Eng
namespace Go.Eng
open Go.RowKit
theorem St.bare {K:Nat} {w0:Base} {v0:Zb} {σ:List (Nat×Value)} {ℓ:List Loc} {v:Zb} {a:Act} {w:World} (h:St K w0 v0 σ ℓ v a w):St K w0 v0 [] ℓ v a w:=h.frame Zev
theorem Zii {v:Zb} {γ:Nat→Gh} {l:Lo} {x:V} {cs:List Value} (h:RR v γ l false x cs) (hf:x.fit=true):cellsOf (x.val cs) cs∧cs.all plain=true:=by
 unfold V.fit at hf;have hp:x.plain=true:=by
  cases hp:x.plain
  ·rw[hp]at hf;cases hf
  ·rfl
 have hpl:=Zrx hp h;refine⟨?_,hpl⟩;rw[hp]at hf;unfold V.val
 cases ha:x.isAgg with
 | true=>exact ZVl cs
 | false =>
  rw[ha]at hf;have hs:=eQ hf;have e:=Z0g h hs ha;have hv:x.val cs=cs.headD undef:=by unfold V.val;rw[ha]
  rw[hv]at e;rw[e]at hpl;have hpl':plain (cs.headD undef)=true:=by simpa using hpl
  have:=Zmd hpl';show cellsOf (cs.headD undef) cs
  conv=>arg 2;rw[e]
  exact this
theorem Zbk {x:V} (hf:x.fit=true):∀ c,x ≠ .tup c:=λc e=>by subst e;cases hf
section
variable {P:Program} {N:Nat} {G:V→Value→Prop} {w0:Base} {v0:Zb} {U X:Nat→Prop} {f:Fr} {l:Lo} {a:Act} {w:World} {γ:Nat→Gh} {v:Zb} {ℓ:List Loc} {n:Nat}
variable {ty:TypeId} {pos:String} {aft:Array Edge} {g:Option (Nat×Bool)}
theorem ZSd {o:Oper} {l':Lo} {w':World} {γ':Nat→Gh} {v':Zb} {ℓ':List Loc} {Post:Unit→Fr→Lo→Prop} (hr:RelX N G w0 v0 U X f l' a w' γ' v' ℓ') (hU:∀ k,U k→X k) (ho:o.dst=none) (hrun:(execOp a.eval o).run P w = .ok .skip w') (h:Post () f l'):Z8 P N G w0 v0 X o a w Post:=by
 refine Zjm hrun ?_;rw[ho];exact⟨_,_,h,_,_,_,hr.mono hU λ_ h=>h⟩
theorem Z2l {cs0 cs:List Value} {off:Nat} (h0:cs0.all plain=true) (h1:cs.all plain=true):(cs0.take off++cs++cs0.drop (off+cs.length)).all plain=true:=by
 have h0':=List.all_eq_true.1 h0;refine List.all_eq_true.2 λx hx=>?_;rcases List.mem_append.1 hx with hx | hx
 ·rcases List.mem_append.1 hx with hx | hx
  ·exact h0' x (List.mem_of_mem_take hx)
  ·exact List.all_eq_true.1 h1 x hx
 ·exact h0' x (List.mem_of_mem_drop hx)
theorem ZFn {t:T} {x:t.den} {z x':V} {off:Nat} {cs cz:List Value} (hg:Z2a FU (.data t x) off z=some x') (hx:t.rep.rel v cs x) (hz:RR v γ l false z cz) (hkz:z.ok U) :
  RR v γ l false x' (cs.take off++cz++cs.drop (off+cz.length))∧x'.ok U∧off+cz.length≤t.n:=by
 obtain⟨h1,h2,h3,_⟩:=Z1d FU hg (γ:=γ) (l:=l) (x:=.data t x) hx hz trivial hkz;refine⟨h1,h2,?_⟩;have:=Rep.len _ hx;rw[ZK]at this;omega
theorem Zlp {t:T}:∀ {rows:List (Option Nat×Nat)} {m:List (List t.den)} {es:List Loc} {i:Nat} {p:Option Nat×Nat} {r:List t.den},Zra v ty t rows m es→rows[i]? = some p→m[i]? = some r →
  ∃ cs e1 e2,es=e1 ++ .own p.1 ty t.n r.length p.2 cs :: e2∧t.rep.rels v cs r∧∀ (r':List t.den) (cs':List Value),r'.length=r.length→t.rep.rels v cs' r'→Zq rows (m.set i r')=Zq rows m∧Zra v ty t rows (m.set i r') (e1 ++ .own p.1 ty t.n r.length p.2 cs' :: e2)
 | [],[],_,_,_,_,_,h,_=>by simp at h
 | q :: ps,r0 :: rs,es,0,p,r,⟨cs,es',h1,h2,h3⟩,hp,hr=>by
  simp at hp hr
  subst hp hr
  refine⟨cs,[],es',by simpa using h2,h1,λr' cs' hl hc=>⟨by simp[Zq,hl],?_⟩⟩
  exact⟨cs',es',hc,by rw[← hl];rfl,h3⟩
 | q :: ps,r0 :: rs,es,i+1,p,r,⟨cs,es',h1,h2,h3⟩,hp,hr=>by
  simp only[List.getElem?_cons_succ]at hp hr
  obtain⟨c2,e1,e2,k2,k3,k4⟩:=Zlp h3 hp hr
  subst k2
  refine⟨c2,.own q.1 ty t.n r0.length q.2 cs :: e1,e2,by simpa using h2,k3,λr' cs' hl hc=>?_⟩
  obtain⟨k5,k6⟩:=k4 r' cs' hl hc
  exact⟨by simp only[List.set_cons_succ,Zq,k5],cs,_,h1,rfl,k6⟩
 | [],_ :: _,_,_,_,_,k,_,_=>k.elim
 | _ :: _,[],_,_,_,_,k,_,_=>k.elim
theorem Zhq {t:T} {p:Option Nat×Nat} {r':List t.den} {cs':List Value}:∀ {rows:List (Option Nat×Nat)} {m:List (List t.den)} {es:List Loc} {i:Nat} {p0:Option Nat×Nat},Zra v ty t rows m es→rows[i]? = some p0→t.rep.rels v cs' r' →
  (Zq rows m).take i++[Value.slice (mkA p.1) r'.length p.2]++(Zq rows m).drop (i+1)=Zq (rows.set i p) (m.set i r')∧∃ e1 e2 c,es=e1++c :: e2∧Zra v ty t (rows.set i p) (m.set i r') (e1 ++ .own p.1 ty t.n r'.length p.2 cs' :: e2)
 | [],[],_,_,_,_,h,_=>by simp at h
 | q :: ps,r0 :: rs,es,0,p0,⟨cs,es',h1,h2,h3⟩,hp,hc=>by
  refine⟨by simp[Zq],[],es',_,by simpa using h2,?_⟩
  exact⟨cs',es',hc,rfl,h3⟩
 | q :: ps,r0 :: rs,es,i+1,p0,⟨cs,es',h1,h2,h3⟩,hp,hc=>by
  simp only[List.getElem?_cons_succ]at hp
  obtain⟨k1,e1,e2,c,k2,k3⟩:=Zhq (p:=p) h3 hp hc
  subst k2
  refine⟨by simp only[List.set_cons_succ,Zq,List.take_succ_cons,List.drop_succ_cons,List.cons_append,k1],.own q.1 ty t.n r0.length q.2 cs :: e1,e2,c,by simpa using h2,?_⟩
  exact⟨cs,_,h1,rfl,k3⟩
 | [],_ :: _,_,_,_,k,_,_=>k.elim
 | _ :: _,[],_,_,_,k,_,_=>k.elim
theorem Z9w {α:Type} {m:List (List α)} {i:Nat} {r r':List α} (hr:m[i]? = some r) (hl:r'.length=r.length):(m.set i r').map List.length=m.map List.length:=by
 apply List.ext_getElem?;intro j;simp only[List.getElem?_map];by_cases h:i=j
 ·subst h;have hlt:=(List.getElem?_eq_some_iff.1 hr).1;rw[List.getElem?_set_self hlt,hr];simp[hl]
 ·rw[List.getElem?_set_ne h]
theorem Zvi:∀ (g:Nat) {x z x':V} {off:Nat},Z2a g x off z=some x'→x.ok U→z.ok U→x'.ok U
 | 0,_,_,_,_,h,_,_=>by cases h
 | g+1,x,z,x',off,h,hk,hkz=>by
  have whole:∀ {y:V},(match Nat.beq off 0,Nat.beq y.size z.size,eqB y.isAgg z.isAgg with
    | true,true,true=>some z
    | _,_,_=>match y with
     | .agg c=>match Z2a g c off z with
      | some c'=>some (.agg c')
      | none=>none
     | .data t x=>match Zac t x with
      | some c=>match Z2a g c off z with
       | some c'=>some (.agg c')
       | none=>none
      | none=>none
     | _=>none)=some x'→y.ok U→x'.ok U:=by
   intro y hy hk;split at hy
   ·cases hy;exact hkz
   ·split at hy
    ·split at hy
     ·rename_i c' he;cases hy;exact (show V.ok U c' from Zvi g he hk hkz)
     ·cases hy
    ·split at hy
     ·rename_i c hc;split at hy
      ·rename_i c' he;cases hy;exact (show V.ok U c' from Zvi g he (Znt hc) hkz)
      ·cases hy
     ·cases hy
    ·cases hy
  cases x with
  | nl=>simp only[Z2a]at h;cases h
  | cons a b =>
   simp only[Z2a]at h;split at h
   ·split at h
    ·rename_i he;cases h;exact⟨Zvi g he hk.1 hkz,hk.2⟩
    ·cases h
   ·split at h
    ·split at h
     ·rename_i he;cases h;exact⟨hk.1,Zvi g he hk.2 hkz⟩
     ·cases h
    ·cases h
  | data t x=>exact whole (y:=.data t x) h hk
  | agg c=>exact whole (y:=.agg c) h hk
  | nilS=>exact whole (y:=.nilS) h hk
  | own u=>exact whole (y:=.own u) h hk
  | row u i hv cv t r=>exact whole (y:=.row u i hv cv t r) h hk
  | ptr u o=>exact whole (y:=.ptr u o) h hk
  | el u i cv t x o=>exact whole (y:=.el u i cv t x o) h hk
  | rp u i hv cv t r=>exact whole (y:=.rp u i hv cv t r) h hk
  | rel u i j hv cv t r x o=>exact whole (y:=.rel u i j hv cv t r x o) h hk
  | vp t x o=>exact whole (y:=.vp t x o) h hk
  | tup c=>exact whole (y:=.tup c) h hk
  | fn f c=>exact whole (y:=.fn f c) h hk
  | ifc f c=>exact whole (y:=.ifc f c) h hk
  | undef=>exact whole (y:=.undef) h hk
theorem ZWi {b off:Nat} {c c':List Value} (h:WAt w b off c) (h':WAt w b off c') (hl:c.length=c'.length):c=c':=by
 obtain⟨x,T,fr,h1,h2⟩:=h;obtain⟨x',T',fr',h3,h4⟩:=h';rw[h1]at h3;cases h3;rw[← h2,← h4,hl]
theorem Zzr (hr:RelX N G w0 v0 U X f l a w γ v ℓ) {u k st:Nat} {ty0:TypeId} {t:T} {xs:List t.den} {fz:Bool} (he:lkE l u=some ⟨k,st,.own ty0 t xs fz⟩) {b cap i:Nat} {x:t.den} (hγ:γ u = .own (some b) cap) (hx:xs[i]? = some x):∃ c,t.rep.rel v c x∧WAt w b (0+i*t.n) c:=by
 obtain⟨hkk,es,hes,hmem⟩:=hr.loc he;have hkk:k=u:=hkk;subst hkk
 cases fz with
 | false =>
  obtain⟨ob,cap',cs,q1,q2,rfl⟩:=hes;have q1:γ k = .own ob cap':=q1;rw[hγ]at q1;cases q1;obtain⟨j,hj⟩:=hmem _ (List.mem_singleton.2 rfl);have hrel:=ZHa q2 hx;rw[ZK]at hrel;have hl:=Rep.len _ hrel;rw[ZK]at hl;refine⟨_,hrel,?_⟩;have:=ZGd hr.st hj rfl (List.getElem?_eq_some_iff.1 hx).1 0 ((cs.drop (i*t.n)).take t.n) (by rw[hl,List.drop_zero,List.take_take,Nat.min_self]) (by omega)
  simpa using this
 | true =>
  obtain⟨ob,cap',q1,q2,_⟩:=hes;have q1:γ k = .own ob cap':=q1;rw[hγ]at q1;cases q1;obtain⟨_,b2,o2,cs2,e2,h2,h3⟩:=ZIb q2 hx
  cases e2
  rw[ZK]at h2;exact⟨cs2,h3,hr.st.view h2⟩
theorem ZQs (hr:RelX N G w0 v0 U X f l a w γ v ℓ) {u k st hv:Nat} {ty0 ty2:TypeId} {t:T} {m:List (List t.den)} (he:lkE l u=some ⟨k,st,.mat ty0 ty2 t m hv⟩) {ob:Option Nat} {cap i j bi capi:Nat} {rows:List (Option Nat×Nat)} {r:List t.den} {x:t.den}
  (hγ:γ u = .mat ob cap rows) (hrow:rows[i]? = some (some bi,capi)) (hm:m[i]? = some r) (hx:r[j]? = some x):∃ c,t.rep.rel v c x∧WAt w bi (0+j*t.n) c:=by
 obtain⟨hkk,es,hes,hmem⟩:=hr.loc he;have hkk:k=u:=hkk;subst hkk;obtain⟨ob',cap',rows',es2,q1,q2,rfl⟩:=hes;have q1:γ k = .mat ob' cap' rows':=q1;rw[hγ]at q1;cases q1;obtain⟨p',cs,r1,r2,r3⟩:=ZPe q2 hm;rw[hrow]at r1;cases r1;obtain⟨jj,hj⟩:=hmem _ (List.mem_cons_of_mem _ r3);have hrel:=ZHa r2 hx;rw[ZK]at hrel;have hl:=Rep.len _ hrel;rw[ZK]at hl;refine⟨_,hrel,?_⟩;have:=ZGd hr.st hj rfl (List.getElem?_eq_some_iff.1 hx).1 0 ((cs.drop (j*t.n)).take t.n) (by rw[hl,List.drop_zero,List.take_take,Nat.min_self]) (by omega)
 simpa using this
theorem stE_ok (hr:RelX N G w0 v0 U X f l a w γ v ℓ) (hU:∀ k,U k→X k) (hX:X n) (hn:¬ U n) {t:TypeId} {x y:Operand} {o:Oper} {p q:V} {Post:Unit→Fr→Lo→Prop} (ho:o=⟨none,.store t x y,ty,pos,aft,g⟩) (hp:RV v γ l p (a.eval x)) (hq:RV v γ l q (a.eval y)) (hk:p.ok U) (hkq:q.ok U)
  (h:Zj n (stE P n t p q) f l Post):Z8 P N G w0 v0 X o a w Post:=by
 unfold stE at h;split at h
 ·exact h.elim
 ·rename_i sz hsz;split at h
  ·rename_i b1 b2 b3;have b1:=eQ b1;have b2:=ZDi b2;obtain⟨cs,hcs,hqe⟩:=Z8a hq (Zbk b3);obtain⟨hcells,hpl⟩:=Zii hcs b3;have hlen:cs.length=sz.1:=(Z1c hcs).trans b1;have hS:=Zde hsz;split at h
   · -- a variable
    rename_i u off;obtain⟨en,he,h⟩:=h;obtain⟨yy,hy0,_,hy⟩:=Z6 hp (λ_ e=>by cases e) rfl rfl;have hy0:a.eval x=yy:=(List.cons.inj hy0).1;have hy:=hy en he;obtain⟨kk,st,L⟩:=en;obtain⟨hm,hkk⟩:=Zk he;have hkk:kk=u:=hkk;subst hkk
    cases L with
    | box ty0 c =>
     simp only at h;obtain⟨b',g4,rfl⟩:=hy;split at h
     ·rename_i c' hc';obtain⟨es,E',h1,h2,_,h3,_⟩:=hr.del he;obtain⟨b,cs0,g1,g2,g3,rfl⟩:=h1;have g1:γ kk = .box b:=g1;rw[g1]at g4;cases g4;have hcok:c.ok U:=(hr.ul _ hm).2.2;obtain⟨k1,k2,k3,_⟩:=Z1d FU hc' g2 hcs hcok hkq;rw[hlen]at k3;have hs:=hr.st.perm h3;obtain⟨σ,hσ,e1,e2⟩:=hs.ev2 x y;rw[hy0]at e1;rw[hqe]at e2;obtain⟨w',hrun,hst⟩:=Z8h (P:=P) hσ hS hcells hlen (i:=0) rfl (by omega) hpl;have hle:Le U v γ l v γ (⟨kk,n,.box ty0 c'⟩ :: era l kk):=Le.upd hr he (Zb.le_refl _) (λ_ _=>rfl) rfl;subst ho;refine ZSd (hr.upd hX (hr.ul _ hm).1 h2 hst.bare hle (λ_ _=>rfl) ⟨_,_,g1,ZAa hle k2 k1,Z2l g3 hpl,rfl⟩ (List.Perm.refl _) k2) hU rfl (hrun e1 e2) h
     ·exact h.elim
    | own _ _ _ _=>exact h.elim
    | mid _ _ _ _ _ _=>exact h.elim
    | mp _=>exact h.elim
    | it _ _=>exact h.elim
    | lst ty0 s xs c =>
     simp only at h;obtain⟨b',cap',g4,rfl⟩:=hy;split at h
     ·rename_i c' hc';obtain⟨es,E',h1,h2,_,h3,_⟩:=hr.del he;obtain⟨b,cap,cs0,cl,g1,g2,g3,g5,g6,rfl⟩:=h1;have g1:γ kk = .own (some b) cap:=g1;rw[g1]at g4;cases g4;have hcok:c.ok U:=(hr.ul _ hm).2.2;obtain⟨k1,k2,k3,_⟩:=Z1d FU hc' g3 hcs hcok hkq;rw[hlen]at k3;have hs:=hr.st.perm h3;obtain⟨σ,hσ,e1,e2⟩:=hs.ev2 x y;rw[hy0]at e1;rw[hqe]at e2;have hl0:=Z6a g2;rw[ZK]at hl0;obtain⟨w',hrun,hst⟩:=Zfd (P:=P) (off:=xs.length*s.n+off) hσ hS hcells hlen (i:=0) rfl (by rw[lA];omega) hpl;have e3:(cs0++cl).take (xs.length*s.n+off)++cs++(cs0++cl).drop (xs.length*s.n+off+cs.length)=cs0++(cl.take off++cs++cl.drop (off+cs.length)):=by
       rw[← hl0,Nat.add_assoc,List.take_append,List.drop_append,List.take_of_length_le (by omega),List.drop_of_length_le (by omega),Nat.add_sub_cancel_left,Nat.add_sub_cancel_left];simp
      rw[e3]at hst;have hle:Le U v γ l v γ (⟨kk,n,.lst ty0 s xs c'⟩ :: era l kk):=Le.upd hr he (Zb.le_refl _) (λ_ _=>rfl) ⟨rfl,rfl,rfl⟩;subst ho;refine ZSd (hr.upd hX (hr.ul _ hm).1 h2 hst.bare hle (λ_ _=>rfl) ⟨_,_,cs0,_,g1,g2,ZAa hle k2 k1,Z2l g5 hpl,by simp;omega,rfl⟩ (List.Perm.refl _) k2) hU rfl (hrun e1 e2) h
     ·exact h.elim
    | mat _ _ _ _ _=>exact h.elim
   · -- an element
    rename_i u i cv s x0 off;split at h
    ·rename_i z hz;obtain⟨yy,hy0,_,⟨c0,hc0⟩,hy⟩:=Z6 hp (λ_ e=>by cases e) rfl rfl;have hy0:a.eval x=yy:=(List.cons.inj hy0).1;obtain⟨z1,z2,z3⟩:=ZFn hz hc0 hcs hkq;obtain⟨y1,l1,γ1,v1,ℓ1,h,r1,le1,q1⟩:=ZSc hn hX FU h hr z2;obtain⟨en,he,h⟩:=h;have hp1:=ZVa le1 hk hp;obtain⟨yy',hy0',_,_,hy⟩:=Z6 hp1 (λ_ e=>by cases e) rfl rfl;have hy0':a.eval x=yy':=(List.cons.inj hy0').1;have hy:=hy en he;obtain⟨kk,st,L⟩:=en;obtain⟨hm,hkk⟩:=Zk he;have hkk:kk=u:=hkk;subst hkk
     cases L with
     | own ty0 s' xs fz =>
      cases fz with
      | true=>exact h.elim
      | false =>
       simp only at h;obtain⟨b,cap,g1,rfl,g3,g4⟩:=hy;obtain⟨es,E',h1,h2,_,h3,_⟩:=r1.del he;obtain⟨ob,cap',cs1,f1,f2,rfl⟩:=h1;have f1:γ1 kk = .own ob cap':=f1;rw[g1]at f1;cases f1;have fin:∀ (c:List Value) (y':s'.den),(cs1.drop (i*s'.n)).take s'.n=c→off+sz.1≤s'.n→s'.rep.rel v1 (c.take off++cs++c.drop (off+sz.1)) y'→Post () f (⟨kk,n,.own ty0 s' (xs.set i y') false⟩ :: era l1 kk)→Z8 P N G w0 v0 X o a w Post:=by
        intro c y' hc hfit hrel hpost;have hs:=r1.st.perm h3;obtain⟨σ,hσ,e1,e2⟩:=hs.ev2 x y;rw[hy0']at e1;rw[hqe]at e2;have hset:=ZAq f2 g3 hc hrel (ZK s').symm hfit;have hcl:=Z6a f2;rw[ZK]at hcl;have hfit2:0+i*s'.n+off+sz.1≤cs1.length:=Zpq hs (j:=0) rfl g3 hfit;obtain⟨w',hrun,hst⟩:=Zfd (P:=P) hσ hS hcells hlen (i:=0) rfl hfit2 hpl;rw[hlen]at hst;have hle:Le U v1 γ1 l1 v1 γ1 (⟨kk,n,.own ty0 s' (xs.set i y') false⟩ :: era l1 kk):=Le.upd r1 he (Zb.le_refl _) (λ_ _=>rfl) ⟨rfl,rfl,by simp,λe=>absurd e hn⟩;have hst':St N w0 v0 [] (.own (some b) ty0 s'.n (xs.set i y').length cap (cs1.take (0+i*s'.n+off)++cs++cs1.drop (0+i*s'.n+off+sz.1)) :: E'.flatten) v1 a w':=by
         rw[List.length_set];exact hst.bare
        subst ho;exact ZSd (r1.upd hX (r1.ul _ hm).1 h2 hst' hle (λ_ _=>rfl) ⟨some b,cap,_,g1,hset,rfl⟩ (List.Perm.refl _) trivial) hU rfl (hrun e1 e2) hpost
       have full:off=0→sz.1=s.n→∀ y',T.cast s s' y1=some y'→Post () f (⟨kk,n,.own ty0 s' (xs.set i y') false⟩ :: era l1 kk)→Z8 P N G w0 v0 X o a w Post:=by
        intro e0 e1 y' hc hpost;obtain⟨c3,c4⟩:=Z2 hc;subst c3;subst c4;refine fin _ y1 rfl (by omega) ?_ hpost;have hl0:=Rep.len _ hc0;rw[ZK]at hl0;have hcl:=Z6a f2;rw[ZK]at hcl;have hdl:((cs1.drop (i*s.n)).take s.n).length=s.n:=by
         have:i*s.n+s.n≤cs1.length:=by rw[hcl,← Nat.succ_mul];exact mR _ g3
         simp;omega
        have q1:=q1 _ z1;rw[e0]at q1 ⊢;rw[List.take_zero,List.drop_of_length_le (by omega)]at q1 ⊢;exact q1
       split at h
       ·rename_i hh1 hh2;split at h
        ·rename_i y' hy';exact full (eQ hh1) (b1.symm.trans (eQ hh2)) y' hy' h
        ·exact h.elim
       ·rename_i hcv _;split at h
        ·rename_i y' hy';obtain⟨ys,c1,c2⟩:=g4 (eQ hcv);obtain⟨c3,c4⟩:=Z2 c1
         cases c3;cases c4
         rw[ZWh]at hy';cases hy';have hrel:=ZHa f2 c2;rw[ZK]at hrel;obtain⟨⟨k0,st0,L0⟩,he0,hce⟩:=le1.l _ _ hk.1 he;have hst:U st:=(eQ hcv) ▸ hk.2
         cases L0 with
         | own ty1 t1 xs1 fz1 =>
          obtain⟨d1,d2,d3,d4⟩:=hce;obtain⟨d5,d6⟩:=d4 hst
          cases d6
          rw[d1]at g1;obtain⟨c,hc1,hc2⟩:=Zzr hr he0 g1 c2;obtain⟨z1',_,_⟩:=ZFn hz hc1 hcs hkq;have q2:=q1 _ z1';rw[hlen]at q2;refine fin c y1 ?_ (by omega) q2 h;have g1':γ1 kk = .own (some b) cap:=by rw[d1];exact g1
          obtain⟨c',hc1',hc2'⟩:=Zzr r1 he g1' c2;have hl1:=Rep.len _ hc1;have hl2:=Rep.len _ hc1';have e1:=ZWi hc2 hc2' (hl1.trans hl2.symm);have hl3:=Rep.len _ hrel;rw[ZK]at hl1 hl3;obtain⟨jj,hj⟩:∃ i:Nat,ℓ1[i]? = some (.own (some b) ty0 s.n xs.length cap cs1):=List.getElem?_of_mem (h3.mem_iff.2 (by simp));have hw:=ZGd r1.st hj rfl g3 0 ((cs1.drop (i*s.n)).take s.n) (by rw[hl3,List.drop_zero,List.take_take,Nat.min_self]) (by omega);exact ZWi (by simpa using hw) hc2 (hl3.trans hl1.symm)
         | box _ _=>exact hce.elim
         | mp _=>exact hce.elim
         | it _ _=>exact hce.elim
         | lst _ _ _ _ =>
          obtain⟨_,_,_,_,hyl⟩:=Z6 hp (λ_ e=>by cases e) rfl rfl;exact (hyl _ he0).elim
         | mid _ _ _ _ _ _ =>
          obtain⟨_,_,_,_,hyl⟩:=Z6 hp (λ_ e=>by cases e) rfl rfl;exact (hyl _ he0).elim
         | mat _ _ _ _ _ =>
          obtain⟨_,_,_,_,hyl⟩:=Z6 hp (λ_ e=>by cases e) rfl rfl;exact (hyl _ he0).elim
        ·exact h.elim
       ·exact h.elim
     | box ty1 c1 =>
      cases c1 with
      | data t' w' =>
       simp only at h;split at h
       ·rename_i m e' hu;split at h
        ·rename_i w2 hof hvs hw2 hm0;obtain⟨⟨⟩,hin,h⟩:=h
         dsimp only at h
         split at h
         ·rename_i w3 hw3;have hof:=eQ hof;have hvs:=eQ hvs;subst hof;obtain⟨c3,c4⟩:=Z2 hw2;subst c3;subst c4;have hw3:T.cast (Zpa s m) (Zpa s m) (arrS s m w' i y1)=some w3:=hw3;rw[ZWh]at hw3
          cases hw3
          have him:i<m:=by
           unfold inN at hin;split at hin
           ·assumption
           ·cases hin
          obtain⟨b,g1,rfl⟩:=hy;obtain⟨es,E',h1,h2,_,h3,_⟩:=r1.del he;obtain⟨b',cs1,f1,f2,f3,rfl⟩:=h1;have f1:γ1 kk = .box b':=f1;rw[g1]at f1;cases f1;have hm0:0<m:=lB hm0;have f2:(Zpa s m).rep.rel v1 cs1 w':=f2;obtain⟨k1,k2⟩:=ZQg hm0 f2;have hcl:=Z6a k1;rw[ZK,k2]at hcl;have hl0:=Rep.len _ hc0;rw[ZK]at hl0;have hsn:sz.1=s.n:=b1.symm.trans hvs;have hy1:s.rep.rel v1 cs y1:=by
           have q1:=q1 _ z1;rw[List.take_zero,List.drop_of_length_le (by omega)]at q1
           simpa using q1
          have hset:=ZGf k1 (by rw[k2];exact him) hy1 (ZK s).symm (hlen.trans (hsn.trans (ZK s).symm));rw[← Zhp him]at hset;have hrel:=Zgp hm0 hset;have hs:=r1.st.perm h3;obtain⟨σ,hσ,e1,e2⟩:=hs.ev2 x y;rw[hy0']at e1;rw[hqe]at e2;have hle0:i*s.n+s.n≤cs1.length:=by rw[hcl,← Nat.succ_mul];exact mR _ him
          obtain⟨w4,hrun,hst⟩:=Z8h (P:=P) hσ hS hcells hlen (i:=0) rfl (off:=0+i*s.n+0) (by omega) hpl;have hle:Le U v1 γ1 l1 v1 γ1 (⟨kk,n,.box ty1 (.data (Zpa s m) (arrS s m w' i y1))⟩ :: era l1 kk):=Le.upd r1 he (Zb.le_refl _) (λ_ _=>rfl) rfl;subst ho;exact ZSd (r1.upd hX (r1.ul _ hm).1 h2 hst.bare hle (λ_ _=>rfl) ⟨_,_,g1,hrel,Z2l f3 hpl,rfl⟩ (List.Perm.refl _) trivial) hU rfl (hrun e1 e2) h
         ·exact h.elim
        ·exact h.elim
       ·exact h.elim
      | _=>exact h.elim
     | mid _ _ _ _ _ _=>exact h.elim
     | mp _=>exact h.elim
     | it _ _=>exact h.elim
     | lst _ _ _ _=>exact h.elim
     | mat _ _ _ _ _=>exact h.elim
    ·exact h.elim
   · -- a row is put into its place
    rename_i u i hv0 cv0 s0 r0;split at h
    ·rename_i u2 _ _;obtain⟨en,he,h⟩:=h;obtain⟨yy,hy0,_,hy⟩:=Z6 hp (λ_ e=>by cases e) rfl rfl;have hy0:a.eval x=yy:=(List.cons.inj hy0).1;have hy:=hy en he;obtain⟨kk,st,L⟩:=en;obtain⟨hm,hkk⟩:=Zk he;have hkk:kk=u:=hkk;subst hkk
     cases L with
     | mat ty0 ty2 s m hv =>
      obtain⟨en2,he2,h⟩:=h;obtain⟨k2,st2,L2⟩:=en2;obtain⟨hm2,hkk2⟩:=Zk he2;have hkk2:k2=u2:=hkk2;subst hkk2
      cases L2 with
      | own ty3 s' xs fz =>
       cases fz with
       | true=>exact h.elim
       | false =>
        simp only at h;split at h
        ·rename_i l' ht3 hl';have ht3:=eQ ht3;subst ht3;obtain⟨c3,c4⟩:=Z2 hl'
         cases c3;cases c4
         have hne:kk≠k2:=λe=>by subst e;rw[he]at he2;cases he2
         obtain⟨b,cap,rows,g1,rfl,g3,g4⟩:=hy;obtain⟨es2,E2,h1,h2,h2',h3,r2⟩:=hr.del he2;obtain⟨ob2,cap2,cs2,f1,f2,rfl⟩:=h1;have he':lkE (era l k2) kk=some ⟨kk,st,.mat ty0 ty3 s m hv⟩:=by
          rw[ZVb hr.nd,iN (λe=>hne e.symm)];exact he
         obtain⟨esm,E',hsp1,hsp2,hsp3⟩:=Zzf h2' he';obtain⟨ob',cap',rows,es3,q1,q2,rfl⟩:=hsp1;have q1:γ kk = .mat ob' cap' rows:=q1;rw[g1]at q1;cases q1;have hrl:=ZNf q2;obtain⟨p',hp'⟩:∃ p',rows[i]? = some p':=⟨_,List.getElem?_eq_getElem (by omega)⟩;obtain⟨hh,e1,e2,csx,k1,k3⟩:=Zhq q2 hp' (p:=(ob2,cap2)) (r':=xs) f2;have hq1:a.eval y = .slice (mkA ob2) xs.length cap2:=by
          obtain⟨yq,hyq0,_,hyq⟩:=Z6 hq (λ_ e=>by cases e) rfl rfl;obtain⟨oq,cq,gq1,gq2⟩:=hyq _ he2;have f1:γ k2 = .own ob2 cap2:=f1;rw[f1]at gq1;cases gq1;exact ((List.cons.inj hyq0).1).trans gq2
         have hs:St N w0 v0 [] (.own (some b) ty0 1 m.length cap (Zq rows m) :: .own ob2 ty3 s.n xs.length cap2 cs2 :: (es3++E'.flatten)) v a w:=by
          refine hr.st.perm ((h3.trans (List.Perm.append_left _ hsp3)).trans ?_);simp only[List.cons_append];exact List.Perm.swap _ _ _
         obtain⟨σ,hσ,ee1,ee2⟩:=hs.ev2 x y;rw[hy0]at ee1;rw[hq1]at ee2;have hS1:Sized P t ([Value.slice (mkA ob2) xs.length cap2]:List Value).length sz.2:=by
          have:sz.1=1:=b1.symm;rw[this]at hS;exact hS
         have hfit:0+i*1+([Value.slice (mkA ob2) xs.length cap2]:List Value).length≤(Zq rows m).length:=by
          rw[ZTd hrl];simp only[List.length_singleton];omega
         obtain⟨w',hrun,hst⟩:=Zfd (P:=P) hσ hS1 (cs:=[Value.slice (mkA ob2) xs.length cap2]) (z:=.slice (mkA ob2) xs.length cap2) (Zmd rfl) rfl (i:=0) rfl hfit rfl;have hh':(Zq rows m).take (0+i*1)++[Value.slice (mkA ob2) xs.length cap2]++(Zq rows m).drop (0+i*1+1)=Zq (rows.set i (ob2,cap2)) (m.set i xs):=by
          rw[Nat.zero_add,Nat.mul_one];exact hh
         have hst:=hst.bare;simp only[List.set_cons_zero,List.length_singleton]at hst;rw[hh']at hst;subst k1;have hst':St N w0 v0 [] (.own (some b) ty0 1 (m.set i xs).length cap (Zq (rows.set i (ob2,cap2)) (m.set i xs)) :: (e1 ++ .own ob2 ty3 s.n xs.length cap2 cs2 :: e2)++E'.flatten) v a w':=by
          rw[List.length_set];refine (hst.drop (ℓ':=.own (some b) ty0 1 m.length cap (Zq (rows.set i (ob2,cap2)) (m.set i xs)) :: .own ob2 ty3 s.n xs.length cap2 cs2 :: ((e1++e2)++E'.flatten)) ?_).perm ?_
          ·refine List.Sublist.cons_cons _ (List.Sublist.cons_cons _ (List.Sublist.append (List.Sublist.append (List.Sublist.refl _) (List.sublist_cons_self _ _)) (List.Sublist.refl _)))
          ·simp only[List.cons_append];refine List.Perm.cons _ ?_;rw[← List.cons_append];exact List.Perm.append_right _ (List.perm_middle.symm)
         have hle:Le U v γ (era l k2) v (ZPa γ kk (.mat (some b) cap (rows.set i (ob2,cap2)))) (⟨kk,n,.mat ty0 ty3 s (m.set i xs) n⟩ :: era (era l k2) kk):=Le.upd r2 he' (Zb.le_refl _) (λ_ hne=>Z9a hne) ⟨rfl,by simp,⟨_,_,_,_,g1,Zla,λe=>absurd e hn⟩,λe=>absurd e hn⟩;subst ho;refine ZSd (r2.upd hX (r2.ul _ (Zk he').1).1 hsp2 hst' hle (λ_ hne=>Z9a hne) ⟨some b,cap,rows.set i (ob2,cap2),_,Zla,k3,rfl⟩ ?_ hX) hU rfl (hrun ee1 ee2) h;exact List.Perm.refl _
        ·exact h.elim
      | box _ _=>exact h.elim
      | mid _ _ _ _ _ _=>exact h.elim
      | mp _=>exact h.elim
      | it _ _=>exact h.elim
      | lst _ _ _ _=>exact h.elim
      | mat _ _ _ _ _=>exact h.elim
     | mp _=>exact h.elim
     | it _ _=>exact h.elim
     | lst _ _ _ _=>exact h.elim
     | mid ty0 ty2 s m hv sm =>
      cases sm with
      | swp _ _=>exact h.elim
      | hol i1 =>
       obtain⟨_,heq,h⟩:=h;have heq:i=i1:=by
        unfold eqN at heq;split at heq
        ·assumption
        ·cases heq
       subst heq;obtain⟨en2,he2,h⟩:=h;obtain⟨k2,st2,L2⟩:=en2;obtain⟨hm2,hkk2⟩:=Zk he2;have hkk2:k2=u2:=hkk2;subst hkk2
       cases L2 with
       | own ty3 s' xs fz =>
        cases fz with
        | true=>exact h.elim
        | false =>
         simp only at h;split at h
         ·rename_i l' ht3 hl';have ht3:=eQ ht3;subst ht3;obtain⟨c3,c4⟩:=Z2 hl'
          cases c3;cases c4
          have hne:kk≠k2:=λe=>by subst e;rw[he]at he2;cases he2
          obtain⟨b,cap,rows,g1,rfl,g3,g4⟩:=hy;obtain⟨es2,E2,h1,h2,h2',h3,r2⟩:=hr.del he2;obtain⟨ob2,cap2,cs2,f1,f2,rfl⟩:=h1;have he':lkE (era l k2) kk=some ⟨kk,st,.mid ty0 ty3 s m hv (.hol i)⟩:=by
           rw[ZVb hr.nd,iN (λe=>hne e.symm)];exact he
          obtain⟨esm,E',hsp1,hsp2,hsp3⟩:=Zzf h2' he';obtain⟨ob',cap',rows,es3,hs,es4,q1,q2,⟨rfl,e1,c,e2,rfl,rfl,rfl⟩,rfl⟩:=hsp1;have q1:γ kk = .mat ob' cap' rows:=q1;rw[g1]at q1;cases q1;have hrl:=ZNf q2;obtain⟨hh,k3⟩:=Zrz q2 (p:=(ob2,cap2)) (r':=xs) f2;have hq1:a.eval y = .slice (mkA ob2) xs.length cap2:=by
           obtain⟨yq,hyq0,_,hyq⟩:=Z6 hq (λ_ e=>by cases e) rfl rfl;obtain⟨oq,cq,gq1,gq2⟩:=hyq _ he2;have f1:γ k2 = .own ob2 cap2:=f1;rw[f1]at gq1;cases gq1;exact ((List.cons.inj hyq0).1).trans gq2
          have hs:St N w0 v0 [] (.own (some b) ty0 1 m.length cap (Zq rows m) :: .own ob2 ty3 s.n xs.length cap2 cs2 :: (e1++e2++E'.flatten)) v a w:=by
           refine hr.st.perm ((h3.trans (List.Perm.append_left _ hsp3)).trans ?_);simp only[List.cons_append];exact List.Perm.swap _ _ _
          obtain⟨σ,hσ,ee1,ee2⟩:=hs.ev2 x y;rw[hy0]at ee1;rw[hq1]at ee2;have hS1:Sized P t ([Value.slice (mkA ob2) xs.length cap2]:List Value).length sz.2:=by
           have:sz.1=1:=b1.symm;rw[this]at hS;exact hS
          have hfit:0+e1.length*1+([Value.slice (mkA ob2) xs.length cap2]:List Value).length≤(Zq rows m).length:=by
           rw[ZTd hrl];simp only[List.length_singleton];omega
          obtain⟨w',hrun,hst⟩:=Zfd (P:=P) hσ hS1 (cs:=[Value.slice (mkA ob2) xs.length cap2]) (z:=.slice (mkA ob2) xs.length cap2) (Zmd rfl) rfl (i:=0) rfl hfit rfl;have hh':(Zq rows m).take (0+e1.length*1)++[Value.slice (mkA ob2) xs.length cap2]++(Zq rows m).drop (0+e1.length*1+1)=Zq (rows.set e1.length (ob2,cap2)) (m.set e1.length xs):=by
           rw[Nat.zero_add,Nat.mul_one];exact hh
          have hst:=hst.bare;simp only[List.set_cons_zero,List.length_singleton]at hst;rw[hh']at hst;have hst':St N w0 v0 [] (.own (some b) ty0 1 (m.set e1.length xs).length cap (Zq (rows.set e1.length (ob2,cap2)) (m.set e1.length xs)) :: (e1 ++ .own ob2 ty3 s.n xs.length cap2 cs2 :: e2)++E'.flatten) v a w':=by
           rw[List.length_set];refine hst.perm ?_;simp only[List.cons_append,aAq];exact List.Perm.cons _ List.perm_middle.symm
          have hle:Le U v γ (era l k2) v (ZPa γ kk (.mat (some b) cap (rows.set e1.length (ob2,cap2)))) (⟨kk,n,.mat ty0 ty3 s (m.set e1.length xs) n⟩ :: era (era l k2) kk):=Le.upd r2 he' (Zb.le_refl _) (λ_ hne=>Z9a hne) ⟨rfl,by simp,⟨_,_,_,_,g1,Zla,λe=>absurd e hn⟩,λe=>absurd e hn⟩;subst ho;exact ZSd (r2.upd hX (r2.ul _ (Zk he').1).1 hsp2 hst' hle (λ_ hne=>Z9a hne) ⟨some b,cap,rows.set e1.length (ob2,cap2),_,Zla,k3,rfl⟩ (List.Perm.refl _) hX) hU rfl (hrun ee1 ee2) h
         ·exact h.elim
       | box _ _=>exact h.elim
       | mid _ _ _ _ _ _=>exact h.elim
       | mp _=>exact h.elim
       | it _ _=>exact h.elim
       | lst _ _ _ _=>exact h.elim
       | mat _ _ _ _ _=>exact h.elim
     | box _ _=>exact h.elim
     | own _ _ _ _=>exact h.elim
    · -- another row's header
     rename_i u2 j hv2 cv2 t2 r2 _ _;obtain⟨en,he,h⟩:=h;obtain⟨yy,hy0,_,hy⟩:=Z6 hp (λ_ e=>by cases e) rfl rfl;have hy0:a.eval x=yy:=(List.cons.inj hy0).1;have hy:=hy en he;obtain⟨yq,hq0,_,hqy⟩:=Z6 hq (λ_ e=>by cases e) rfl rfl;have hq0:a.eval y=yq:=(List.cons.inj hq0).1;obtain⟨kk,st,L⟩:=en;obtain⟨hm,hkk⟩:=Zk he;have hkk:kk=u:=hkk;subst hkk;have hS1:∀ z:Value,Sized P t ([z]:List Value).length sz.2:=λz=>by
      have:sz.1=1:=b1.symm;rw[this]at hS;exact hS
     cases L with
     | mat ty0 ty2 s m hv =>
      simp only at h;split at h
      ·rename_i bu bh;have bu:=eQ bu;have bh:=eQ bh;subst bu bh;obtain⟨b,cap,rows,g1,rfl,g3,g4⟩:=hy;obtain⟨ob',cap',rows',obi,capi,j1,j2,rfl,⟨rj,j3,j4⟩,_⟩:=hqy _ he rfl;rw[g1]at j1;cases j1;obtain⟨es,E',h1,h2,_,h3,_⟩:=hr.del he;obtain⟨ob2,cap2,rows2,es3,q1,q2,rfl⟩:=h1;have q1:γ u2 = .mat ob2 cap2 rows2:=q1;rw[g1]at q1;cases q1;have hrl:=ZNf q2;have hs:=hr.st.perm h3;obtain⟨σ,hσ,ee1,ee2⟩:=hs.ev2 x y;rw[hy0]at ee1;rw[hq0]at ee2;have hfit:0+i*1+([Value.slice (mkA obi) r2.length capi]:List Value).length≤(Zq rows m).length:=by
        rw[ZTd hrl];simp only[List.length_singleton];omega
       obtain⟨w',hrun,hst⟩:=Zfd (P:=P) hσ (hS1 _) (cs:=[Value.slice (mkA obi) r2.length capi]) (z:=.slice (mkA obi) r2.length capi) (Zmd rfl) rfl (i:=0) rfl hfit rfl;have hst:=hst.bare;simp only[List.set_cons_zero,List.length_singleton,List.cons_append]at hst;have hset:(Zq rows m).take (0+i*1)++[Value.slice (mkA obi) r2.length capi]++(Zq rows m).drop (0+i*1+1)=(Zq rows m).set i (.slice (mkA obi) r2.length capi):=by
        rw[List.set_eq_take_append_cons_drop,iP (by rw[ZTd hrl];exact g3)];simp
       rw[hset]at hst;have hjj:(Zq rows m)[j]? = some (.slice (mkA obi) r2.length capi):=by
        rw[Z4g j2 j3,j4]
       have hle:Le U v γ l v γ (⟨u2,n,.mid ty0 ty2 s m hv (.swp i j)⟩ :: era l u2):=Le.upd hr he (Zb.le_refl _) (λ_ _=>rfl) ⟨rfl,rfl,⟨_,_,_,_,g1,g1,λ_=>⟨rfl,rfl,rfl⟩⟩,λe=>absurd e hn⟩;subst ho;exact ZSd (hr.upd hX (hr.ul _ hm).1 h2 hst hle (λ_ _=>rfl) ⟨some b,cap,rows,es3,_,es3,g1,q2,⟨rfl,g3,_,hjj,rfl⟩,rfl⟩ (List.Perm.refl _) (hr.ul _ hm).2.2) hU rfl (hrun ee1 ee2) h
      ·exact h.elim
     | mp _=>exact h.elim
     | it _ _=>exact h.elim
     | lst _ _ _ _=>exact h.elim
     | mid ty0 ty2 s m hv sm =>
      cases sm with
      | hol _=>exact h.elim
      | swp i0 j0 =>
       simp only at h;split at h
       ·rename_i bu bh;have bu:=eQ bu;have bh:=eQ bh;subst bu bh;obtain⟨_,q1,_,q2,h⟩:=h;have q1:i=j0:=by
         unfold eqN at q1;split at q1
         ·assumption
         ·cases q1
        have q2:j=i0:=by
         unfold eqN at q2;split at q2
         ·assumption
         ·cases q2
        subst q1 q2;obtain⟨b,cap,rows,g1,rfl,g3,g4⟩:=hy;obtain⟨ob',cap',rows',obi,capi,j1,j2,rfl,⟨rj,j3,j4⟩,_⟩:=hqy _ he rfl;rw[g1]at j1;cases j1;obtain⟨es,E',h1,h2,_,h3,_⟩:=hr.del he;obtain⟨ob2,cap2,rows2,es3,hs0,es4,q1,q2,⟨rfl,q3,hx,q4,rfl⟩,rfl⟩:=h1;have q1:γ u2 = .mat ob2 cap2 rows2:=q1;rw[g1]at q1;cases q1;have hrl:=ZNf q2;have hs:=hr.st.perm h3;obtain⟨σ,hσ,ee1,ee2⟩:=hs.ev2 x y;rw[hy0]at ee1;rw[hq0]at ee2;have hfit:0+i*1+([Value.slice (mkA obi) r2.length capi]:List Value).length≤((Zq rows m).set j hx).length:=by
         rw[List.length_set,ZTd hrl];simp only[List.length_singleton];omega
        obtain⟨w',hrun,hst⟩:=Zfd (P:=P) hσ (hS1 _) (cs:=[Value.slice (mkA obi) r2.length capi]) (z:=.slice (mkA obi) r2.length capi) (Zmd rfl) rfl (i:=0) rfl hfit rfl;have hst:=hst.bare;simp only[List.set_cons_zero,List.length_singleton,List.cons_append]at hst;have hset:((Zq rows m).set j hx).take (0+i*1)++[Value.slice (mkA obi) r2.length capi]++((Zq rows m).set j hx).drop (0+i*1+1)=((Zq rows m).set j hx).set i (.slice (mkA obi) r2.length capi):=by
         rw[List.set_eq_take_append_cons_drop (l:=(Zq rows m).set j hx),iP (by rw[List.length_set,ZTd hrl];exact g3)];simp
        rw[hset]at hst;obtain⟨pi,hpi⟩:∃ p,rows[i]? = some p:=⟨_,List.getElem?_eq_getElem (by omega)⟩;obtain⟨ri,hri⟩:∃ r,m[i]? = some r:=⟨_,List.getElem?_eq_getElem g3⟩;have hhx:hx=ZDd pi ri:=by
         rw[Z4g hpi hri]at q4;exact (Option.some.inj q4).symm
        have hhj:Value.slice (mkA obi) r2.length capi=ZDd (obi,capi) rj:=by unfold ZDd;rw[j4]
        obtain⟨w1,es5,w2,w3⟩:=Zru q2 j2 hpi j3 hri;rw[hhx,hhj,w1]at hst;have hln:(ZOd m j i).length=m.length:=by unfold ZOd;simp
        have hst':St N w0 v0 [] (.own (some b) ty0 1 (ZOd m j i).length cap (Zq ((rows.set j pi).set i (obi,capi)) (ZOd m j i)) :: es5++E'.flatten) v a w':=by
         rw[hln];refine hst.perm ?_;simp only[List.cons_append];exact List.Perm.cons _ (List.Perm.append_right _ w2.symm)
        have hle:Le U v γ l v (ZPa γ u2 (.mat (some b) cap ((rows.set j pi).set i (obi,capi)))) (⟨u2,n,.mat ty0 ty2 s (ZOd m j i) n⟩ :: era l u2):=Le.upd hr he (Zb.le_refl _) (λ_ hne=>Z9a hne) ⟨rfl,hln,⟨_,_,_,_,g1,Zla,λe=>absurd e hn⟩,λe=>absurd e hn⟩;subst ho;exact ZSd (hr.upd hX (hr.ul _ hm).1 h2 hst' hle (λ_ hne=>Z9a hne) ⟨some b,cap,_,_,Zla,w3,rfl⟩ (List.Perm.refl _) hX) hU rfl (hrun ee1 ee2) h
       ·exact h.elim
     | box _ _=>exact h.elim
     | own _ _ _ _=>exact h.elim
    ·exact h.elim
   · -- an element of a row
    rename_i u i j hv cv s r x0 off;split at h
    ·rename_i z hz;obtain⟨yy,hy0,_,hy⟩:=Z6 hp (λ_ e=>by cases e) rfl rfl;have hy0:a.eval x=yy:=(List.cons.inj hy0).1;obtain⟨⟨kz,sz0,Lz⟩,hez,h⟩:=h;have hLz:∃ ty ty2 t m hv,Lz = .mat ty ty2 t m hv:=by
      cases Lz with
      | mat ty ty2 t m hv=>exact⟨_,_,_,_,_,rfl⟩
      | _=>exact h.elim
     obtain⟨_,_,_,_,_,rfl⟩:=hLz;obtain⟨y1,l1,γ1,v1,ℓ1,hB,r1,le1,q1⟩:=ZSc hn hX FU h hr (Zvi FU hz trivial hkq);obtain⟨en,he,hC⟩:=hB;have hp1:=ZVa le1 hk hp;obtain⟨yy',hy0',_,hy1⟩:=Z6 hp1 (λ_ e=>by cases e) rfl rfl;have hy0':a.eval x=yy':=(List.cons.inj hy0').1;have hy1:=hy1 en he;obtain⟨kk,st,L⟩:=en;obtain⟨hm,hkk⟩:=Zk he;have hkk:kk=u:=hkk;subst hkk
     cases L with
     | mat ty0 ty2 s' m hv' =>
      simp only at hC;split at hC
      ·rename_i b4 b5;have b4:=eQ b4;have b5:=eQ b5;subst b4 b5;split at hC
       ·rename_i r' hr';obtain⟨ob,cap,rows,bi,capi,g1,g2,rfl,_,g4,g6⟩:=hy1 rfl;obtain⟨⟨m',c1,c2⟩,cx⟩:=g6 rfl;obtain⟨c3,c4⟩:=Z2 c1
        cases c3;cases c4
        have hr':r.set j y1=r':=by
         obtain⟨c5,c6⟩:=Z2 hr';exact c6
        subst hr';obtain⟨⟨k0,st0,L0⟩,he0,hce⟩:=le1.l _ _ hk.1 he;obtain⟨es,E',h1,h2,_,h3,_⟩:=r1.del he;obtain⟨ob',cap',rows',es3,f1,f2,rfl⟩:=h1;have f1:γ1 kk = .mat ob' cap' rows':=f1;rw[g1]at f1;cases f1
        cases L0 with
        | mat ty1 ty3 t1 m1 hv1 =>
         obtain⟨d1,d2,⟨obx,capx,rowsx,rowsy,d3,d4,d5⟩,d6⟩:=hce;obtain⟨d7,d8⟩:=d6 hk.2.2
         cases d8
         obtain⟨d9,d10,_⟩:=d5 hk.2.1;rw[g1]at d4;cases d4;subst d10;obtain⟨c,hc1,hc2⟩:=ZQs hr he0 d3 g2 c2 cx;obtain⟨c',hc1',hc2'⟩:=ZQs r1 he g1 g2 c2 cx;have e1:=ZWi hc2 hc2' ((Rep.len _ hc1).trans (Rep.len _ hc1').symm);obtain⟨z1',_,zfit⟩:=ZFn hz hc1 hcs hkq;have q2:=q1 _ z1';rw[hlen]at q2 zfit;obtain⟨csx,ea,eb,k1,k2,k3⟩:=Zlp f2 g2 c2;subst k1;have hs:St N w0 v0 [] (.own (some bi) ty2 s.n r.length capi csx :: .own ob ty0 1 m.length cap (Zq rows m) :: (ea++eb++E'.flatten)) v1 a w:=by
          refine r1.st.perm (h3.trans ?_);simp only[List.cons_append,aAq];exact (List.Perm.cons _ List.perm_middle).trans (List.Perm.swap _ _ _)
         have hrel:=ZHa k2 cx;rw[ZK]at hrel;have hl3:=Rep.len _ hrel;have hl1:=Rep.len _ hc1;rw[ZK]at hl3 hl1;have hcell:(csx.drop (j*s.n)).take s.n=c:=by
          have hw:=ZGd hs (j:=0) rfl rfl g4 0 ((csx.drop (j*s.n)).take s.n) (by rw[hl3,List.drop_zero,List.take_take,Nat.min_self]) (by omega);exact ZWi (by simpa using hw) hc2 (hl3.trans hl1.symm)
         obtain⟨σ,hσ,e1,e2⟩:=hs.ev2 x y;rw[hy0']at e1;rw[hqe]at e2;have hset:=ZAq k2 g4 hcell q2 (ZK s).symm (by omega);have hfit2:0+j*s.n+off+sz.1≤csx.length:=Zpq hs (j:=0) rfl g4 (by omega);obtain⟨w',hrun,hst⟩:=Zfd (P:=P) hσ hS hcells hlen (i:=0) rfl hfit2 hpl;rw[hlen]at hst;have hst:=hst.bare;obtain⟨k4,k5⟩:=k3 (r.set j y1) _ (List.length_set ..) hset;have hst':St N w0 v0 [] (.own ob ty0 1 (m.set i (r.set j y1)).length cap (Zq rows (m.set i (r.set j y1))) :: (ea ++ .own (some bi) ty2 s.n r.length capi (csx.take (0+j*s.n+off)++cs++csx.drop (0+j*s.n+off+sz.1)) :: eb)++E'.flatten) v1 a w':=by
          rw[List.length_set,k4];refine hst.perm ?_;simp only[List.set_cons_zero,List.cons_append,aAq];exact (List.Perm.swap _ _ _).trans (List.Perm.cons _ List.perm_middle.symm)
         have hle:Le U v1 γ1 l1 v1 γ1 (⟨kk,n,.mat ty0 ty2 s (m.set i (r.set j y1)) hv'⟩ :: era l1 kk):=Le.upd r1 he (Zb.le_refl _) (λ_ _=>rfl) ⟨rfl,by simp,⟨_,_,_,_,g1,g1,λ_=>⟨rfl,rfl,Z9w c2 (List.length_set ..)⟩⟩,λe=>absurd e hn⟩;subst ho;exact ZSd (r1.upd hX (r1.ul _ hm).1 h2 hst' hle (λ_ _=>rfl) ⟨ob,cap,rows,_,g1,k5,rfl⟩ (List.Perm.refl _) (r1.ul _ hm).2.2) hU rfl (hrun e1 e2) hC
        | box _ _=>exact hce.elim
        | mid _ _ _ _ _ _=>rw[he0]at hez;cases hez
        | mp _=>exact hce.elim
        | it _ _=>exact hce.elim
        | lst _ _ _ _=>exact hce.elim
        | own _ _ _ _=>exact hce.elim
       ·exact hC.elim
      ·exact hC.elim
     | box _ _=>exact hC.elim
     | mid _ _ _ _ _ _=>exact hC.elim
     | mp _=>exact hC.elim
     | it _ _=>exact hC.elim
     | lst _ _ _ _=>exact hC.elim
     | own _ _ _ _=>exact hC.elim
    ·exact h.elim
   ·exact h.elim
  ·exact h.elim
end
end Go.Eng
namespace Go.Eng
open Go.RowKit
def ZKd:Rep Value where
 n:=1
 agg:=false
 rel _ cs x:=cs=[x]∧plain x=true
 len h:=by rw[h.1];rfl
 mono _ h:=h
 flat h:=by obtain⟨h1,h2⟩:=h;rw[h1];simp[h2]
theorem Z9l {v:Zb}:∀ {l:List Value},l.all plain=true→ZKd.rels v l l
 | [],_=>rfl
 | x :: l,h=>by
  simp only[List.all_cons,Bool.and_eq_true]at h
  exact⟨[x],l,rfl,⟨rfl,h.1⟩,Z9l h.2⟩
theorem Z3l {v:Zb}:∀ {l cs:List Value},ZKd.rels v cs l→cs=l
 | [],cs,h=>h
 | x :: l,cs,h=>by
  obtain⟨c1,c2,h1,h2,h3⟩:=h
  rw[h1,h2.1,Z3l h3];rfl
theorem Zkl {α:Type}:∀ {rows:List (Option Nat×Nat)} {m:List (List α)},(Zq rows m).all plain=true
 | [],_=>rfl
 | _ :: _,[]=>rfl
 | p :: ps,r :: rs=>by
  have:=Zkl (rows:=ps) (m:=rs)
  simp only[Zq,List.all_cons,this,Bool.and_true]
  obtain⟨ob,cap⟩:=p
  cases ob <;> rfl
theorem Zot {α:Type}:∀ {rows rows2:List (Option Nat×Nat)} {m m2:List (List α)},rows.length=m.length→Zq (rows++rows2) (m++m2)=Zq rows m++Zq rows2 m2
 | [],_,[],_,_=>rfl
 | p :: ps,rows2,r :: rs,m2,h=>by
  have:=Zot (rows:=ps) (rows2:=rows2) (m:=rs) (m2:=m2) (by simpa using h)
  simp[Zq,this]
 | [],_,_ :: _,_,h=>by cases h
 | _ :: _,_,[],_,h=>by cases h
theorem Zhs {v:Zb} {ty:TypeId} {t:T}:∀ {rows rows2:List (Option Nat×Nat)} {m m2:List (List t.den)} {es es2:List Loc},Zra v ty t rows m es→Zra v ty t rows2 m2 es2→Zra v ty t (rows++rows2) (m++m2) (es++es2)
 | [],_,[],_,es,_,h,k=>by rw[show es=[] from h];exact k
 | p :: ps,rows2,r :: rs,m2,es,es2,⟨cs,es',h1,h2,h3⟩,k=>by
  subst h2
  exact⟨cs,es'++es2,h1,rfl,Zhs h3 k⟩
 | [],_,_ :: _,_,_,_,h,_=>h.elim
 | _ :: _,_,[],_,_,_,h,_=>h.elim
theorem Zhy {v:Zb} {ty:TypeId} {t:T} {rows:List (Option Nat×Nat)} {m:List (List t.den)} {es:List Loc} {i:Nat} {p:Option Nat×Nat} {r:List t.den} (h:Zra v ty t rows m es) (hp:rows[i]? = some p) (hr:m[i]? = some r) :
  ∃ cs e1 e2,es=e1 ++ .own p.1 ty t.n r.length p.2 cs :: e2∧e1.length=i∧t.rep.rels v cs r:=by
 obtain⟨k1,k2,k3⟩:=Zsf.1 h;obtain⟨cs,q1,q2⟩:=k3 i p r hp hr;have hlt:=(List.getElem?_eq_some_iff.1 q2).1;refine⟨cs,es.take i,es.drop (i+1),?_,by simp;omega,q1⟩;rw[← (List.getElem?_eq_some_iff.1 q2).2,← List.drop_eq_getElem_cons hlt,List.take_append_drop]
section
variable {P:Program} {N:Nat} {G:V→Value→Prop} {w0:Base} {v0:Zb} {U X:Nat→Prop} {f:Fr} {l:Lo} {a:Act} {w:World} {γ:Nat→Gh} {v:Zb} {ℓ:List Loc} {n:Nat}
variable {ty:TypeId} {pos:String} {aft:Array Edge} {g:Option (Nat×Bool)}
theorem ZQj (hr:RelX N G w0 v0 U X f l a w γ v ℓ) (hU:∀ k,U k→X k) (hX:X n) (hn:¬ U n) {e e2:TypeId} {s:T} {m:List (List s.den)} {rows:List (Option Nat×Nat)} {o:Oper} {ob:Option Nat} {cap:Nat} {w':World} {es ℓ':List Loc} {E:List (List Loc)} {Post:Unit→Fr→Lo→Prop} (hd:∀ k,o.dst=some k→k<N) (hE:F2 (Zsa v γ l) l E) (hℓ:ℓ'=E.flatten)
  (hR:Zra v e2 s rows m es) (hst:St N w0 v0 [] (.own ob e 1 m.length cap (Zq rows m) :: es++ℓ') v a w') (hrun:(execOp a.eval o).run P w = .ok (.value (.slice (mkA ob) m.length cap)) w') (h:Zj n (Ev.new n (.mat e e2 s m n) (ret o (.own n))) f l Post):Z8 P N G w0 v0 X o a w Post:=by
 obtain⟨hnew,h⟩:=h;have hr':=hr.new (γ':=ZPa γ n (.mat ob cap rows)) (L':=.mat e e2 s m n) hX hX hn hnew hE hst (Zb.le_refl _) (λ_ h=>Z9a h) ⟨ob,cap,rows,es,Zla,hR,rfl⟩ (by rw[hℓ]) hX;refine fin (x:=.own n) (hr'.mono hU λ_ h=>h) hrun hd hX ⟨[_],⟨_,rfl,by cases ob <;> rfl,λe' he'=>?_⟩,rfl⟩ hX h;rw[ZL,iP rfl]at he';cases he';exact⟨_,_,_,Zla,rfl⟩
theorem RelX.take (hr:RelX N G w0 v0 U X f l a w γ v ℓ) (hX:X n) (hn:¬ U n) {u st hv i:Nat} {ty0 ty2:TypeId} {t:T} {m:List (List t.den)} {r:List t.den} (he:lkE l u=some ⟨u,st,.mat ty0 ty2 t m hv⟩) {ob:Option Nat} {cap:Nat} {rows:List (Option Nat×Nat)} {p:Option Nat×Nat} (hγ:γ u = .mat ob cap rows) (hp:rows[i]? = some p) (hm:m[i]? = some r) :
  ∃ cs ℓ' E',t.rep.rels v cs r∧RelX N G w0 v0 U X f (⟨u,n,.mid ty0 ty2 t m hv (.hol i)⟩ :: era l u) a w γ v ℓ'∧F2 (Zsa v γ (⟨u,n,.mid ty0 ty2 t m hv (.hol i)⟩ :: era l u)) (⟨u,n,.mid ty0 ty2 t m hv (.hol i)⟩ :: era l u) E'∧ℓ'=E'.flatten∧St N w0 v0 [] (.own p.1 ty2 t.n r.length p.2 cs :: ℓ') v a w:=by
 obtain⟨es,E',h1,h2,_,h3,_⟩:=hr.del he;obtain⟨ob',cap',rows',es3,f1,f2,rfl⟩:=h1;have f1:γ u = .mat ob' cap' rows':=f1;rw[hγ]at f1;cases f1;obtain⟨cs,e1,e2,k1,k2,k3⟩:=Zhy f2 hp hm;subst k1;have hs:St N w0 v0 [] (.own p.1 ty2 t.n r.length p.2 cs :: (.own ob ty0 1 m.length cap (Zq rows m) :: (e1++e2)++E'.flatten)) v a w:=by
  refine hr.st.perm (h3.trans ?_);simp only[List.cons_append,aAq];exact (List.Perm.cons _ List.perm_middle).trans (List.Perm.swap _ _ _)
 have hle:Le U v γ l v γ (⟨u,n,.mid ty0 ty2 t m hv (.hol i)⟩ :: era l u):=Le.upd hr he (Zb.le_refl _) (λ_ _=>rfl) ⟨rfl,rfl,⟨_,_,_,_,hγ,hγ,λ_=>⟨rfl,rfl,rfl⟩⟩,λe=>absurd e hn⟩;have hrl:Zsa v γ (⟨u,n,.mid ty0 ty2 t m hv (.hol i)⟩ :: era l u) ⟨u,n,.mid ty0 ty2 t m hv (.hol i)⟩ (.own ob ty0 1 m.length cap (Zq rows m) :: (e1++e2)):=⟨ob,cap,rows,_,_,_,hγ,f2,⟨rfl,e1,_,e2,rfl,k2,rfl⟩,rfl⟩;have r2:=hr.upd hX (hr.ul _ (Zk he).1).1 h2 (hs.drop (List.sublist_cons_self _ _)) hle (λ_ _=>rfl) hrl (List.Perm.refl _) (hr.ul _ (Zk he).1).2.2;obtain⟨E2,hE2,hp2⟩:=r2.lr;exact⟨cs,E2.flatten,E2,k3,⟨r2.st.perm hp2,r2.fr,⟨E2,hE2,List.Perm.refl _⟩,r2.nd,r2.uf,r2.ul,r2.gh⟩,hE2,rfl,hs.perm (List.Perm.cons _ hp2)⟩
end
end Go.Eng
namespace Go.Eng
open Go.RowKit
theorem ZUe {cs r:List Value} (h:zSl cs=some r):cs = .slice none 0 0 :: r:=by
 unfold zSl at h;split at h
 ·cases h;rfl
 ·cases h
theorem Z9o {v:Zb}:∀ {t:T} {cs r:List Value} {x:t.den},zOK t cs=some r→Zrf t=some x→∃ c1,cs=c1++r∧t.rep.rel v c1 x:=by
 intro t
 induction t with
 | int k =>
  intro cs r x h hx;unfold zOK at h
  cases hx
  split at h <;> try (cases h;done)
  all_goals (rename_i heq;cases heq)
  rename_i k' n rest;split at h
  ·rename_i hk
   cases h
   have:=ZAc hk;subst this;exact⟨[_],rfl,rfl,by cases k <;> decide⟩
  ·cases h
 | bool =>
  intro cs r x h hx;unfold zOK at h
  cases hx
  split at h <;> try (cases h;done)
  all_goals (rename_i heq;cases heq)
  cases h
  exact⟨[_],rfl,rfl⟩
 | flt k =>
  intro cs r x h hx;unfold zOK at h
  cases hx
  split at h <;> try (cases h;done)
  all_goals (rename_i heq;cases heq)
  split at h
  ·rename_i hk
   cases h
   have:=Z1o hk;subst this;exact⟨[_],rfl,rfl,by decide⟩
  ·cases h
 | str =>
  intro cs r x h hx;unfold zOK at h
  cases hx
  split at h <;> try (cases h;done)
  all_goals (rename_i heq;cases heq)
  rename_i s rest;split at h
  ·rename_i hs
   cases h
   refine⟨[_],rfl,?_,by show ([]:List UInt8).length≤maxLen;exact Nat.zero_le _⟩;have:s=Zg []:=by
    cases s with
    | mk d=>show _=ByteArray.mk _;congr 1;exact Array.ext' hs
   rw[this]
  ·cases h
 | one a ih =>
  intro cs r x h hx;simp only[zOK]at h;obtain⟨c1,h1,h2⟩:=ih h hx;exact⟨c1,h1,h2⟩
 | pair a b ia ib =>
  intro cs r x h hx;simp only[zOK]at h;simp only[Zrf]at hx;split at hx
  ·rename_i x1 x2 hx1 hx2
   cases hx
   split at h
   ·rename_i r1 hr1;obtain⟨c1,h1,h2⟩:=ia hr1 hx1;obtain⟨c2,h3,h4⟩:=ib h hx2;exact⟨c1++c2,by rw[h1,h3,aAq],c1,c2,rfl,h2,h4⟩
   ·cases h
  ·cases hx
 | ptr a _=>intro cs r x h hx;cases hx
 | slice a _ =>
  intro cs r x h hx
  cases hx
  simp only[zOK]at h;exact⟨[_],ZUe h,ZEf _ _⟩
 | leaf i =>
  intro cs r x h hx;unfold zOK at h;split at h <;> try (cases h;done)
  all_goals (rename_i heq;cases heq)
  ·cases h;cases hx;exact⟨[_],rfl,rfl⟩
  ·cases hx;exact⟨[_],ZUe h,Zvg _⟩
  ·cases hx;exact⟨[_],ZUe h,Zmk _⟩
  ·cases hx;rw[ZUe h];exact⟨[_,_],rfl,ZGr _⟩
  ·cases hx
   split at h
   ·rename_i r1 hr1;rw[ZUe hr1,ZUe h];exact⟨[_,_,_],rfl,Z2q _⟩
   ·cases h
section
variable {P:Program} {N:Nat} {G:V→Value→Prop} {w0:Base} {v0:Zb} {U X:Nat→Prop} {f:Fr} {l:Lo} {a:Act} {w:World} {γ:Nat→Gh} {v:Zb} {ℓ:List Loc} {n:Nat}
variable {ty:TypeId} {pos:String} {aft:Array Edge} {g:Option (Nat×Bool)}
theorem ZYh {t:T} {cs r:List Value} {z:V} (h:Zvf t cs=some (z,r)):∃ c1,cs=c1++r∧RR v γ l false z c1∧z.ok U∧c1.all plain=true:=by
 unfold Zvf at h;split at h
 ·rename_i x r' hx hr
  cases h
  obtain⟨c1,h1,h2⟩:=Z9o (v:=v) hr hx;exact⟨c1,h1,h2,trivial,Rep.flat _ h2⟩
 ·cases h
theorem ZOq {F:TypeId→List Value→Option (V×List Value)} (hF:∀ t cs z r,F t cs=some (z,r)→∃ c1,cs=c1++r∧RR v γ l false z c1∧z.ok U∧c1.all plain=true) :
  ∀ {fs:List Field} {cs r:List Value} {z:V},Z1i F fs cs=some (z,r)→∃ c1,cs=c1++r∧RR v γ l false z c1∧z.ok U∧c1.all plain=true
 | [],cs,r,z,h=>by cases h;exact⟨[],rfl,rfl,trivial,rfl⟩
 | x :: fs,cs,r,z,h=>by
  simp only[Z1i]at h
  split at h
  ·rename_i y cs1 hy
   split at h
   ·rename_i c cs2 hc
    cases h
    obtain⟨c1,h1,h2,h3,h4⟩:=hF _ _ _ _ hy
    obtain⟨c2,k1,k2,k3,k4⟩:=ZOq hF hc
    exact⟨c1++c2,by rw[h1,k1,aAq],⟨c1,c2,rfl,h2,k2⟩,⟨h3,k3⟩,by rw[List.all_append,h4,k4];rfl⟩
   ·cases h
  ·cases h
theorem ZSs {F:List Value→Option (V×List Value)} (hF:∀ cs z r,F cs=some (z,r)→∃ c1,cs=c1++r∧RR v γ l false z c1∧z.ok U∧c1.all plain=true):∀ {k:Nat} {cs r:List Value} {c:V},zRep F k cs=some (c,r)→∃ c1,cs=c1++r∧RR v γ l false c c1∧c.ok U∧c1.all plain=true
 | 0,cs,r,c,h=>by cases h;exact⟨[],rfl,rfl,trivial,rfl⟩
 | k+1,cs,r,c,h=>by
  simp only[zRep]at h
  split at h
  ·rename_i x cs1 hx
   split at h
   ·rename_i c' cs2 hc
    cases h
    obtain⟨c1,rfl,h2,h3,h4⟩:=hF _ _ _ hx
    obtain⟨c2,rfl,k2,k3,k4⟩:=ZSs hF hc
    exact⟨c1++c2,by simp,⟨c1,c2,rfl,h2,k2⟩,⟨h3,k3⟩,by rw[List.all_append,h4,k4];rfl⟩
   ·cases h
  ·cases h
theorem Zil {C:Cf}:∀ (g:Nat) {t:TypeId} {cs r:List Value} {z:V},ZVh C g t cs=some (z,r)→∃ c1,cs=c1++r∧RR v γ l false z c1∧z.ok U∧c1.all plain=true
 | 0,_,_,_,_,h=>by cases h
 | g+1,t,cs,r,z,h=>by
  simp only[ZVh]at h
  split at h
  ·split at h
   ·cases h
    exact⟨[_,_,_],rfl,⟨[_],[_,_],rfl,rfl,[_],[_],rfl,Zmk _,[_],[],rfl,Zmk _,rfl⟩,⟨trivial,trivial,trivial,trivial⟩,rfl⟩
   ·cases h
  ·exact ZYh h
  ·split at h
   ·exact ZYh h
   ·exact ZYh h
   ·exact ZYh h
   ·exact ZYh h
   ·split at h
    ·rename_i r' hr
     cases h
     exact⟨[_],ZUe hr,rfl,trivial,rfl⟩
    ·cases h
   ·split at h
    ·rename_i c r' hc
     cases h
     obtain⟨c1,h1,h2,h3,h4⟩:=ZOq (λt cs z r h=>Zil g h) hc
     exact⟨c1,h1,h2,h3,h4⟩
    ·cases h
   ·split at h
    ·rename_i c r' hc
     cases h
     obtain⟨c1,h1,h2,h3,h4⟩:=ZSs (λcs z r h=>Zil g h) hc
     exact⟨c1,h1,h2,h3,h4⟩
    ·cases h
   ·cases h
theorem ZGl {C:Cf} {t:TypeId} {z:V} (h:ZFk C t=some z):∃ y cs,(∀ w,(zeroValue t).run C.P w = .ok y w)∧y.cells=cs.toArray∧RR v γ l false z cs∧z.ok U∧cs.all plain=true:=by
 unfold ZFk at h;split at h
 ·rename_i i hi;split at h
  ·rename_i y hy;split at h
   ·rename_i x hx
    cases h
    obtain⟨c1,h1,h2,h3,h4⟩:=Zil (v:=v) (γ:=γ) (l:=l) (U:=U) FU hx;rw[List.append_nil]at h1;refine⟨y,c1,λw=>by simp[zeroValue,typeInfo,hi,hy],by rw[← h1],h2,h3,h4⟩
   ·cases h
  ·cases h
 ·cases h
theorem ZTr (hr:RelX N G w0 v0 U X f l a w γ v ℓ) (hU:∀ k,U k→X k) (hX:X n) (hn:¬ U n) {t:TypeId} {o:Oper} {c:V} {cs:List Value} {Post:Unit→Fr→Lo→Prop} (hd:∀ k,o.dst=some k→k<N) (hc:RR v γ l false c cs) (hk:c.ok U) (hp:cs.all plain=true)
  (hrun:(execOp a.eval o).run P w = .ok (.value (.pointer (some ⟨w.heap.size,0,none⟩))) (w.alloc (.cells cs.toArray t))) (h:Zj n (Ev.new n (.box t c) (ret o (.ptr n 0))) f l Post):Z8 P N G w0 v0 X o a w Post:=by
 obtain⟨hnew,h⟩:=h;obtain⟨E,hE,hpm⟩:=hr.lr;have hst:=(hr.st.perm hpm).newLoc (.cells cs.toArray t) (e:=.box w.heap.size t cs) rfl (heap_alloc_new w _);have hle:Le U v γ l v (ZPa γ n (.box w.heap.size)) (⟨n,n,.box t c⟩ :: l):=⟨Zb.le_refl _,λk e' hk he=>by
  have hne:n≠k:=λe=>hn (e ▸ hk);rw[ZL,iN hne]at he;refine⟨e',he,?_⟩;obtain⟨hm,hk'⟩:=Zk he;obtain⟨es,hrr⟩:=ZCd hE hm;have:=Zkf (U:=U) (γ':=ZPa γ n (.box w.heap.size)) hrr (Z9a (by rw[hk'];exact λe=>hne e.symm));rw[hk']at this;exact this⟩
 have hr':=hr.new (γ':=ZPa γ n (.box w.heap.size)) (L':=.box t c) hX hX hn hnew hE hst (Zb.le_refl _) (λ_ h=>Z9a h) ⟨_,cs,Zla,ZAa hle hk hc,hp,rfl⟩ (List.Perm.refl _) hk;refine fin (x:=.ptr n 0) (hr'.mono hU λ_ h=>h) hrun hd hX ⟨[_],⟨_,rfl,Zsc,λe' he'=>?_⟩,rfl⟩ hX h;rw[ZL,iP rfl]at he';cases he';exact⟨_,Zla,rfl⟩
theorem Zxg (hr:RelX N G w0 v0 U X f l a w γ v ℓ) (hU:∀ k,U k→X k) (hX:X n) (hn:¬ U n) {e:TypeId} {s:T} {xs:List s.den} {o:Oper} {ob:Option Nat} {cap:Nat} {cs:List Value} {w':World} {ℓ':List Loc} {E:List (List Loc)} {Post:Unit→Fr→Lo→Prop} (hd:∀ k,o.dst=some k→k<N) (hE:F2 (Zsa v γ l) l E) (hℓ:ℓ'=E.flatten)
  (hst:St N w0 v0 [] (.own ob e s.n xs.length cap cs :: ℓ') v a w') (hc:s.rep.rels v cs xs) (hrun:(execOp a.eval o).run P w = .ok (.value (.slice (mkA ob) xs.length cap)) w') (h:Zj n (Ev.new n (.own e s xs false) (ret o (.own n))) f l Post):Z8 P N G w0 v0 X o a w Post:=by
 obtain⟨hnew,h⟩:=h;have hr':=hr.new (γ':=ZPa γ n (.own ob cap)) (L':=.own e s xs false) hX hX hn hnew hE hst (Zb.le_refl _) (λ_ h=>Z9a h) ⟨ob,cap,cs,Zla,hc,rfl⟩ (by rw[hℓ];exact List.Perm.refl _) trivial;refine fin (x:=.own n) (hr'.mono hU λ_ h=>h) hrun hd hX ⟨[_],⟨_,rfl,by cases ob <;> rfl,λe' he'=>?_⟩,rfl⟩ hX h;rw[ZL,iP rfl]at he';cases he';exact⟨_,_,Zla,rfl⟩
theorem ZOk {t:TypeId} {q:EI} (h:ZFf P t=some q):Elem P t q.e q.sz q.by_ q.z∧0<q.by_:=by
 unfold ZFf at h;split at h
 ·rename_i e he;split at h
  ·rename_i i hi;split at h
   ·rename_i z hz;split at h
    ·rename_i h1 h2 h3
     cases h
     have h1:=eQ h1;have h2:1≤i.size:=lB h2;have h3:1≤i.bytes:=lB h3;exact⟨⟨he,by simp[hi,hz],by simpa using h1,h2⟩,h3⟩
    ·cases h
   ·cases h
  ·cases h
 ·cases h
theorem Z4o {ρ:Type} {g:Nat} {s:T} {c:V} {k:List s.den→Ev ρ} {Post:ρ→Fr→Lo→Prop} (h:Zj n (conv g (.slice s) (.agg c) k) f l Post):False:=by
 cases g with
 | zero=>exact h
 | succ g =>
  cases c with
  | cons x1 c =>
   cases c with
   | cons x2 r=>simp only[conv]at h;exact h
   | nl=>simp only[conv]at h;exact h
   | _=>simp only[conv]at h;exact h
  | _=>simp only[conv]at h;exact h
theorem Zvl {ρ:Type} {g:Nat} {s:T} {x:V} {k:List s.den→Ev ρ} {Post:ρ→Fr→Lo→Prop} (h:Zj n (conv g (.slice s) x k) f l Post):x.isAgg=false∧∀ c,x ≠ .tup c:=by
 cases x with
 | agg c=>exact (Z4o h).elim
 | tup c =>
  cases g with
  | zero=>exact h.elim
  | succ g=>simp only[conv]at h;exact h.elim
 | data t x =>
  refine⟨?_,λc e=>by cases e⟩
  cases g with
  | zero=>exact h.elim
  | succ g =>
   simp only[conv]at h;split at h
   ·rename_i y hy;obtain⟨e,_⟩:=Z2 hy;subst e;rfl
   ·split at h
    ·rfl
    ·rfl
    ·rfl
    ·rfl
    ·rfl
    ·rfl
    ·split at h
     ·exact (Z4o h).elim
     ·exact h.elim
 | _=>exact⟨rfl,λc e=>by cases e⟩
theorem ZJf {x:V} {y:Value} (h:x.isAgg=false):x.val [y]=y:=by unfold V.val;rw[h];rfl
theorem Zir {u2:Nat} {ty' ty2':TypeId} {s':T} {m':List (List s'.den)} {hv:Nat} {y:Operand} {st:Nat} (hq:RV v γ l (.own u2) (a.eval y)) (he:lkE l u2=some ⟨u2,st,.mat ty' ty2' s' m' hv⟩) {ob:Option Nat} {cap:Nat} {rows:List (Option Nat×Nat)} (q1:γ u2 = .mat ob cap rows):a.eval y = .slice (mkA ob) m'.length cap:=by
 obtain⟨yq,hyq0,_,hyq⟩:=Z6 hq (λ_ e=>by cases e) rfl rfl;obtain⟨oq,cq,rq,gq1,gq2⟩:=hyq _ he;rw[q1]at gq1;cases gq1;exact ((List.cons.inj hyq0).1).trans gq2
theorem ZVn (hr:RelX N G w0 v0 U X f l a w γ v ℓ) (hU:∀ k,U k→X k) (hX:X n) (hn:¬ U n) {d:Option Nat} {t:TypeId} {x y:Operand} {o:Oper} {q:V} {pu:Option Nat} {ei:EI} {Post:Unit→Fr→Lo→Prop} (hE:Elem P t ei.e ei.sz ei.by_ ei.z) (hby:0<ei.by_) (ho:o=⟨d,.call ⟨.builtin .append,#[x,y],#[t,t]⟩,ty,pos,aft,g⟩) (hd:∀ k,o.dst=some k→k<N)
  (hp0:pu=none→a.eval x = .slice none 0 0) (hp1:∀ u,pu=some u→RV v γ l (.own u) (a.eval x)) (hq:RV v γ l q (a.eval y)) (h:Zj n (appM o n ei pu q) f l Post):Z8 P N G w0 v0 X o a w Post:=by
 unfold appM at h;split at h
 ·rename_i u2;obtain⟨⟨k2,st2,L2⟩,he2,h⟩:=h;have hkk2:k2=u2:=(Zk he2).2;subst hkk2
  cases L2 with
  | mat ty' ty2' s' m' hv' =>
   simp only at h;obtain⟨es,E',h1,h2,h2',h3,r2⟩:=hr.del he2;obtain⟨ob2,cap2,rows2,es3,q1,q2,rfl⟩:=h1;have q1:γ k2 = .mat ob2 cap2 rows2:=q1;have hy0:=Zir hq he2 q1;have hl2:=ZTd (ZNf q2);have hs:=hr.st.perm h3
   cases pu with
   | none =>
    simp only at h;split at h
    ·rename_i b1 b2;have b1:=eQ b1;have b2:=eQ b2;obtain⟨_,hroom,h⟩:=h;obtain⟨v',hv,hs1,hrel⟩:=hs.pubSlice (i:=0) (A:=ZKd) (l:=Zq rows2 m') rfl rfl hl2.symm (Z9l Zkl) rfl;have hs1:St N w0 v0 [] (es3++E'.flatten) v' a w:=hs1;obtain⟨σ,hσ,e1,e2⟩:=(hs1.nilLoc ei.e 1).ev2 x y;have hE':Elem P t ei.e ZKd.n ei.by_ ei.z:=by rw[show ZKd.n=ei.sz from b2.symm];exact hE
     obtain⟨b',cap',cs2,w',hrun,hst',hrel2⟩:=ZDe (ty:=ty) (A:=ZKd) hE' hσ (i:=0) rfl hrel (n':=([]++m').length) (by simp) (ZFd hroom) hby;have hcs:=Z3l hrel2;subst hcs;rw[hp0 rfl]at e1;rw[hy0]at e2;have r3:=r2.go hv (hs1.drop (List.sublist_append_right _ _));obtain⟨E3,hE3,hp3⟩:=r3.lr;have hst':=hst'.bare;have hst3:St N w0 v0 [] (.own b' ty' 1 ([]++m').length cap' (Zq rows2 ([]++m')) :: es3++E3.flatten) v' a w':=by
      rw[← b1];exact hst'.perm (by simp only[List.set_cons_zero,List.cons_append];exact List.Perm.cons _ (List.Perm.append_left _ hp3))
     subst ho;exact ZQj r3 hU hX hn hd hE3 rfl (Zqc hv q2) hst3 (Zvd hσ e1 e2 hrun) h
    ·exact h.elim
   | some u =>
    simp only at h;split at h
    ·exact h.elim
    ·rename_i hne;have hne:u≠k2:=λe=>by subst e;simp at hne
     obtain⟨⟨k1,st1,L1⟩,he1,h⟩:=h;have hkk1:k1=u:=(Zk he1).2;subst hkk1
     cases L1 with
     | mat ty1 ty2 s m hv =>
      simp only at h;split at h
      ·rename_i m2 hm2 b1 b2 b3 b4;have b1:=eQ b1;have b2:=eQ b2;have b3:=eQ b3;have b4:=eQ b4;obtain⟨c3,c4⟩:=Z2 hm2
       cases c3;cases c4
       subst b1 b2;obtain⟨_,hroom,h⟩:=h;have he1':lkE (era l k2) k1=some ⟨k1,st1,.mat ty1 ty2 _ m hv⟩:=by
        rw[ZVb hr.nd,iN (λe=>hne e.symm)];exact he1
       obtain⟨es1,E1,g1,g2,g2',g3,r3⟩:=r2.del he1';obtain⟨ob1,cap1,rows1,es4,p1,p2,rfl⟩:=g1;have p1:γ k1 = .mat ob1 cap1 rows1:=p1;have hx0:=Zir (hp1 k1 rfl) he1 p1;have hl1:=ZNf p2;have hs:St N w0 v0 [] (.own ob2 ty1 1 m'.length cap2 (Zq rows2 m') :: (.own ob1 ty1 1 m.length cap1 (Zq rows1 m) :: (es4++es3++E1.flatten))) v a w:=by
        refine hs.perm ?_;simp only[List.cons_append];refine List.Perm.cons _ ((List.Perm.append_left _ g3).trans ?_);simp only[List.cons_append];refine List.perm_middle.trans (List.Perm.cons _ ?_);rw[← aAq];exact List.Perm.append_right _ List.perm_append_comm
       obtain⟨v',hv,hs1,hrel⟩:=hs.pubSlice (i:=0) (A:=ZKd) (l:=Zq rows2 m') rfl rfl hl2.symm (Z9l Zkl) rfl;have hs1:St N w0 v0 [] (.own ob1 ty1 1 m.length cap1 (Zq rows1 m) :: (es4++es3++E1.flatten)) v' a w:=hs1;obtain⟨σ,hσ,e1,e2⟩:=hs1.ev2 x y;have hE':Elem P t ty1 ZKd.n ei.by_ ei.z:=by rw[show ZKd.n=ei.sz from b4.symm,← b3];exact hE
       obtain⟨b',cap',cs2,w',hrun,hst',hrel2⟩:=ZDe (ty:=ty) (A:=ZKd) hE' hσ (i:=0) rfl hrel (n':=(m++m').length) (by simp) (ZFd hroom) hby;have hcs:=Z3l hrel2;subst hcs;rw[hx0]at e1;rw[hy0]at e2;have r4:=r3.go hv (hs1.drop ((List.sublist_append_right _ _).trans (List.sublist_cons_self _ _)));obtain⟨E3,hE3,hp3⟩:=r4.lr;have hst':=hst'.bare;have hst3:St N w0 v0 [] (.own b' ty1 1 (m++m').length cap' (Zq (rows1++rows2) (m++m')) :: (es4++es3)++E3.flatten) v' a w':=by
        rw[Zot hl1];exact hst'.perm (by simp only[List.set_cons_zero,List.cons_append];exact List.Perm.cons _ (List.Perm.append_left _ hp3))
       subst ho;exact ZQj r4 hU hX hn hd hE3 rfl (Zhs (Zqc hv p2) (Zqc hv q2)) hst3 (Zvd hσ e1 e2 hrun) h
      ·exact h.elim
     | box _ _=>exact h.elim
     | own _ _ _ _=>exact h.elim
     | mid _ _ _ _ _ _=>exact h.elim
     | mp _=>exact h.elim
     | it _ _=>exact h.elim
     | lst _ _ _ _=>exact h.elim
  | box _ _=>exact h.elim
  | own _ _ _ _=>exact h.elim
  | mid _ _ _ _ _ _=>exact h.elim
  | mp _=>exact h.elim
  | it _ _=>exact h.elim
  | lst _ _ _ _=>exact h.elim
 ·exact h.elim
theorem ZCw (hr:RelX N G w0 v0 U X f l a w γ v ℓ) (hU:∀ k,U k→X k) (hX:X n) (hn:¬ U n) {d:Option Nat} {t:TypeId} {x:Operand} {o:Oper} {p:V} {Post:Unit→Fr→Lo→Prop} (ho:o=⟨d,.load t x,ty,pos,aft,g⟩) (hd:∀ k,o.dst=some k→k<N) (hp:RV v γ l p (a.eval x))
  (h:Zj n (takeE P o n t p) f l Post):Z8 P N G w0 v0 X o a w Post:=by
 unfold takeE at h;split at h
 ·exact h.elim
 ·rename_i q hq;split at h
  ·rename_i u i hv cv e r hag;obtain⟨⟨kk,st,L⟩,he,h⟩:=h;have hkk:kk=u:=(Zk he).2;subst hkk;obtain⟨y,hy0,_,hy⟩:=Z6 hp (λ_ e=>by cases e) rfl rfl;have hy0:a.eval x=y:=(List.cons.inj hy0).1;have hy:=hy _ he
   cases L with
   | mat ty0 ty2 s' m hv' =>
    simp only at h;split at h
    ·rename_i z b1 b2 hz;have b1:=eQ b1;have b2:=eQ b2;subst b1 b2;obtain⟨c3,c4⟩:=Z2 hz
     cases c3;cases c4
     obtain⟨b,cap,rows,g1,rfl,g3,g4⟩:=hy;obtain⟨m',c1,c2⟩:=g4 rfl;obtain⟨c5,c6⟩:=Z2 c1
     cases c5;cases c6
     obtain⟨hkk,es,hes,hmem⟩:=hr.loc he;obtain⟨ob,cap',rows',es2,q1,q2,rfl⟩:=hes;have q1:γ kk = .mat ob cap' rows':=q1;rw[g1]at q1;cases q1;obtain⟨p,cs,r1,r2,r3⟩:=ZPe q2 c2;obtain⟨j,hj⟩:=hmem _ List.mem_cons_self;have hh:=Z4g r1 c2;have hw:WAt w b (0+i*1) [.slice (mkA p.1) r.length p.2]:=by
      have hx:((Zq rows m).drop (i*1)).take 1=[.slice (mkA p.1) r.length p.2]:=by
       have hlt:=(List.getElem?_eq_some_iff.1 hh).1;rw[Nat.mul_one,List.drop_eq_getElem_cons hlt];simp[(List.getElem?_eq_some_iff.1 hh).2]
      have:=ZGd hr.st hj hx g3 0 [.slice (mkA p.1) r.length p.2] rfl (by simp)
      simpa using this
     obtain⟨cs2,ℓ2,E2,k1,r4,k2,k3,hst⟩:=hr.take hX hn he g1 r1 c2;obtain⟨σ,hs',e1⟩:=hr.st.ev1 x;rw[hy0]at e1;have ht:=Zde hq;rw[hag]at ht;subst ho;exact Zxg r4 hU hX hn hd k2 k3 hst k1 (Zob hs' e1 ht hw) h
    ·exact h.elim
   | box _ _=>exact h.elim
   | own _ _ _ _=>exact h.elim
   | mid _ _ _ _ _ _=>exact h.elim
   | mp _=>exact h.elim
   | it _ _=>exact h.elim
   | lst _ _ _ _=>exact h.elim
  ·exact h.elim
def ZHd (k:Nat):Rep (List Value) where
 n:=k
 agg:=true
 rel _ cs x:=cs=x∧x.length=k∧x.all plain=true
 len h:=by rw[h.1];exact h.2.1
 mono _ h:=h
 flat h:=by rw[h.1];exact h.2.2
theorem ZOp {k:Nat} {v:Zb} {c:List Value} (h:c.length=k) (hp:c.all plain=true):(ZHd k).rels v c [c]:=Zmh ⟨rfl,h,hp⟩
theorem Z3s {k:Nat} {v:Zb} {c cs:List Value} (h:(ZHd k).rels v cs [c]):cs=c:=by
 obtain⟨c1,c2,rfl,h2,h3⟩:=h;have h3:c2=[]:=h3;rw[h3,h2.1,List.append_nil]
theorem Zlm (hr:RelX N G w0 v0 U X f l a w γ v ℓ) (hU:∀ k,U k→X k) (hX:X n) (hn:¬ U n) {e:TypeId} {s:T} {xs:List s.den} {c:V} {o:Oper} {b cap:Nat} {cs cl:List Value} {w':World} {ℓ':List Loc} {E:List (List Loc)} {Post:Unit→Fr→Lo→Prop} (hd:∀ k,o.dst=some k→k<N) (hE:F2 (Zsa v γ l) l E) (hℓ:ℓ'=E.flatten)
  (hst:St N w0 v0 [] (.own (some b) e s.n (xs.length+1) cap (cs++cl) :: ℓ') v a w') (hc:s.rep.rels v cs xs) (hcl:RR v γ l false c cl) (hco:c.ok U) (hp:cl.all plain=true) (hl:cl.length=s.n) (hrun:(execOp a.eval o).run P w = .ok (.value (.slice (mkA (some b)) (xs.length+1) cap)) w') (h:Zj n (Ev.new n (.lst e s xs c) (ret o (.own n))) f l Post):Z8 P N G w0 v0 X o a w Post:=by
 obtain⟨hnew,h⟩:=h;have hle:Le U v γ l v (ZPa γ n (.own (some b) cap)) (⟨n,n,.lst e s xs c⟩ :: l):=⟨Zb.le_refl _,λk e' hk he=>by
  have hne:n≠k:=λe=>hn (e ▸ hk);rw[ZL,iN hne]at he;refine⟨e',he,?_⟩;obtain⟨hm,hk'⟩:=Zk he;obtain⟨es,hrr⟩:=ZCd hE hm;have:=Zkf (U:=U) (γ':=ZPa γ n (.own (some b) cap)) hrr (Z9a (by rw[hk'];exact λe=>hne e.symm));rw[hk']at this;exact this⟩
 have hr':=hr.new (γ':=ZPa γ n (.own (some b) cap)) (L':=.lst e s xs c) hX hX hn hnew hE hst (Zb.le_refl _) (λ_ h=>Z9a h) ⟨b,cap,cs,cl,Zla,hc,ZAa hle hco hcl,hp,hl,rfl⟩ (by rw[hℓ];exact List.Perm.refl _) hco;refine fin (x:=.own n) (hr'.mono hU λ_ h=>h) hrun hd hX ⟨[_],⟨_,rfl,rfl,λe' he'=>?_⟩,rfl⟩ hX h;rw[ZL,iP rfl]at he';cases he';exact⟨_,_,Zla,rfl⟩
theorem ZYl {u2:Nat} {ty':TypeId} {s':T} {xs:List s'.den} {c:V} {y:Operand} {st:Nat} (hq:RV v γ l (.own u2) (a.eval y)) (he:lkE l u2=some ⟨u2,st,.lst ty' s' xs c⟩) {b cap:Nat} (q1:γ u2 = .own (some b) cap):a.eval y = .slice (mkA (some b)) (xs.length+1) cap:=by
 obtain⟨yq,hyq0,_,hyq⟩:=Z6 hq (λ_ e=>by cases e) rfl rfl;obtain⟨oq,cq,gq1,gq2⟩:=hyq _ he;rw[q1]at gq1;cases gq1;exact ((List.cons.inj hyq0).1).trans gq2
theorem ZQp (hr:RelX N G w0 v0 U X f l a w γ v ℓ) (hU:∀ k,U k→X k) (hX:X n) (hn:¬ U n) {d:Option Nat} {t:TypeId} {x y:Operand} {o:Oper} {q:V} {pu:Option Nat} {ei:EI} {Post:Unit→Fr→Lo→Prop} (hE:Elem P t ei.e ei.sz ei.by_ ei.z) (hby:0<ei.by_) (ho:o=⟨d,.call ⟨.builtin .append,#[x,y],#[t,t]⟩,ty,pos,aft,g⟩) (hd:∀ k,o.dst=some k→k<N)
  (hp0:pu=none→a.eval x = .slice none 0 0) (hp1:∀ u,pu=some u→RV v γ l (.own u) (a.eval x)∧U u) (hq:RV v γ l q (a.eval y)) (hkq:q.ok U) (h:Zj n (ZLj o n ei pu q) f l Post):Z8 P N G w0 v0 X o a w Post:=by
 unfold ZLj at h;split at h
 ·rename_i u2;obtain⟨⟨k2,st2,L2⟩,he2,h⟩:=h;have hkk2:k2=u2:=(Zk he2).2;subst hkk2
  cases L2 with
  | lst ty' s' xs2 c2 =>
   cases xs2 with
   | cons _ _=>exact h.elim
   | nil =>
   simp only at h
   cases pu with
   | none =>
    obtain⟨es,E',h1,h2,h2',h3,r2⟩:=hr.del he2;obtain⟨b2,cap2,cs2,cl2,q1,q2,q3,q4,q5,rfl⟩:=h1;have q1:γ k2 = .own (some b2) cap2:=q1;have q2:cs2=[]:=q2;subst q2;have hy0:=ZYl hq he2 q1;have hs:=hr.st.perm h3;have hco:c2.ok U:=(hr.ul _ (Zk he2).1).2.2;have hle:=Le.era hr k2;simp only at h;split at h
    ·rename_i b1 b2';have b1:=eQ b1;have b2':=eQ b2';obtain⟨_,hroom,h⟩:=h;obtain⟨v',hv,hs1,hrel⟩:=hs.pubSlice (i:=0) (A:=ZHd s'.n) (l:=[cl2]) rfl rfl rfl (ZOp q5 q4) rfl;have hs1:St N w0 v0 [] E'.flatten v' a w:=hs1;obtain⟨σ,hσ,e1,e2⟩:=(hs1.nilLoc ei.e s'.n).ev2 x y;have hE':Elem P t ei.e (ZHd s'.n).n ei.by_ ei.z:=by rw[show (ZHd s'.n).n=ei.sz from b2'.symm];exact hE
     obtain⟨b',cap',cs3,w',hrun,hst',hrel2⟩:=ZDe (ty:=ty) (A:=ZHd s'.n) hE' hσ (i:=0) rfl hrel (n':=1) (by simp) (ZFd hroom) hby;have hcs:=Z3s hrel2;subst hcs;rw[hp0 rfl]at e1;rw[hy0]at e2;have r3:=r2.go hv hs1;obtain⟨E3,hE3,hp3⟩:=r3.lr;have hst':=hst'.bare;obtain⟨b3,rfl⟩:=Z5c hst' (j:=0) rfl (by omega);have hst3:St N w0 v0 [] (.own (some b3) ty' s'.n (([]:List s'.den).length+1) cap' ([]++cs3) :: E3.flatten) v' a w':=by
      rw[← b1];exact hst'.perm (by simp only[List.set_cons_zero];exact List.Perm.cons _ hp3)
     subst ho;exact Zlm r3 hU hX hn hd hE3 rfl hst3 Zve (ZAa (Le.trans hle (Le.refl h2' hv)) hco q3) hco q4 q5 (Zvd hσ e1 e2 hrun) h
    ·exact h.elim
   | some u =>
    simp only at h;split at h
    ·exact h.elim
    ·rename_i hne;have hne:u≠k2:=λe=>by subst e;simp at hne
     obtain⟨⟨k1,st1,L1⟩,he1,h⟩:=h;have hkk1:k1=u:=(Zk he1).2;subst hkk1;obtain⟨hpu,hUk⟩:=hp1 k1 rfl
     cases L1 with
     | lst ty1 s xs c =>
      simp only at h;obtain⟨xx,l1,γ1,v1,ℓ1,hB,r1,le1,q1⟩:=ZSc hn hX FU h hr (hr.ul _ (Zk he1).1).2.2;obtain⟨⟨k3,st3,L3⟩,he3,hC⟩:=hB;have hkk3:k3=k1:=(Zk he3).2;subst hkk3;obtain⟨e0,he0,hce⟩:=le1.l _ _ hUk he3;rw[he1]at he0;cases he0;have hpu1:=ZVa le1 (show (V.own k3).ok U from hUk) hpu;have hq1:=ZVa le1 hkq hq
      cases L3 with
      | lst ty3 s3 l3 c3 =>
       simp only at hC;obtain⟨⟨k4,st4,L4⟩,he4,hC⟩:=hC;have hkk4:k4=k2:=(Zk he4).2;subst hkk4
       cases L4 with
       | lst ty4 s4 xs4 c4 =>
        cases xs4 with
        | cons _ _=>exact hC.elim
        | nil =>
        simp only at hC;split at hC
        ·rename_i x' hx' hs4 hy34 hy3 hsz;have hs4:=T.beq_eq hs4;have hy34:=eQ hy34;have hy3:=eQ hy3;have hsz:=eQ hsz;obtain⟨c5,c6⟩:=Z2 hx'
         cases c5;cases c6
         subst hs4 hy34;obtain⟨_,hroom,hC⟩:=hC;obtain⟨hce1,hce2,hce3⟩:γ1 k3=γ k3∧_∧l3.length=xs.length:=hce;obtain⟨esa,Ea,a1,a2,a2',a3,_⟩:=hr.del he1;obtain⟨ba,capa,csa,cla,a4,a5,a6,a7,a8,rfl⟩:=a1;have a4:γ k3 = .own (some ba) capa:=a4;obtain⟨es3,E3,f1,f2,f2',f3,r3⟩:=r1.del he3;obtain⟨b3,cap3,cs3,cl3,g1,g2,g3,g4,g5,rfl⟩:=f1;have g1:γ1 k3 = .own (some b3) cap3:=g1;have hb:b3=ba∧cap3=capa:=by rw[hce1,a4]at g1;cases g1;exact⟨rfl,rfl⟩
         obtain⟨rfl,rfl⟩:=hb;have m0:=(hr.st.loc _ (a3.mem_iff.2 (List.mem_append_left _ (List.mem_singleton.2 rfl)))).1;have m1:=(r1.st.loc _ (f3.mem_iff.2 (List.mem_append_left _ (List.mem_singleton.2 rfl)))).1;have hcl:cla=cl3:=by
          obtain⟨_,cur0,t1,_,_,_,t2⟩:=m0;obtain⟨_,cur1,t3,_,_,_,t4⟩:=m1;rw[t1]at t3;cases t3;rw[hce3,t2]at t4;have l0:=Z6a a5;have l1:=Z6a g2;rw[hce3]at l1;exact (List.append_inj t4 (l0.trans l1.symm)).2
         subst hcl;have hxx:=q1 _ a6;have he4':lkE (era l1 k3) k4=some ⟨k4,st4,.lst ty3 s4 [] c4⟩:=by
          rw[ZVb r1.nd,iN hne];exact he4
         obtain⟨es4,E4,j1,j2,j2',j3,r4⟩:=r3.del he4';obtain⟨b4,cap4,cs4,cl4,p1,p2,p3,p4,p5,rfl⟩:=j1;have p1:γ1 k4 = .own (some b4) cap4:=p1;have p2:cs4=[]:=p2;subst p2;have hx0:=ZYl hpu1 he3 g1;have hy0:=ZYl hq1 he4 p1;have hs:St N w0 v0 [] (.own (some b4) ty3 s4.n 1 cap4 ([]++cl4) :: (.own (some b3) ty3 s4.n (l3.length+1) cap3 (cs3++cla) :: E4.flatten)) v1 a w:=by
          refine (r1.st.perm f3).perm ?_;simp only[List.singleton_append];exact (List.Perm.cons _ (j3.trans (by simp only[List.singleton_append];exact List.Perm.refl _))).trans (List.Perm.swap _ _ _)
         obtain⟨v',hv,hs1,hrel⟩:=hs.pubSlice (i:=0) (A:=ZHd s4.n) (l:=[cl4]) rfl rfl rfl (ZOp p5 p4) rfl;have hs1:St N w0 v0 [] (.own (some b3) ty3 s4.n (l3.length+1) cap3 (cs3++cla) :: E4.flatten) v' a w:=hs1;obtain⟨σ,hσ,e1,e2⟩:=hs1.ev2 x y;have hE':Elem P t ty3 (ZHd s4.n).n ei.by_ ei.z:=by rw[show (ZHd s4.n).n=ei.sz from hsz.symm,← hy3];exact hE
         obtain⟨b',cap',cs5,w',hrun,hst',hrel2⟩:=ZDe (ty:=ty) (A:=ZHd s4.n) hE' hσ (i:=0) rfl hrel (n':=l3.length+1+1) (by simp) (by have:=ZFd hroom;simpa using this) hby;have hcs:=Z3s hrel2;subst hcs;rw[hx0]at e1;rw[hy0]at e2;have r5:=r4.go hv (hs1.drop (List.sublist_cons_self _ _));obtain⟨E5,hE5,hp5⟩:=r5.lr;have hst':=hst'.bare;obtain⟨b5,rfl⟩:=Z5c hst' (j:=0) rfl (by omega);have hxl:(l3++[xx]).length=l3.length+1:=by simp
         have hst3:St N w0 v0 [] (.own (some b5) ty3 s4.n ((l3++[xx]).length+1) cap' ((cs3++cla)++cs5) :: E5.flatten) v' a w':=by
          rw[hxl];exact hst'.perm (by simp only[List.set_cons_zero];exact List.Perm.cons _ hp5)
         have hle3:=Le.era r1 k3;have hle4:=Le.era r3 k4;have hco4:c4.ok U:=(r1.ul _ (Zk he4).1).2.2;subst ho;refine Zlm r5 hU hX hn hd hE5 rfl hst3 (Z1m (ZR hv g2) (Rep.mono _ hv hxx)) (ZAa (hle4.trans (Le.refl j2' hv)) hco4 p3) hco4 p4 p5 (by rw[hxl];exact Zvd hσ e1 e2 hrun) hC
        ·exact hC.elim
       | _=>exact hC.elim
      | _=>exact hC.elim
     | _=>exact h.elim
  | _=>exact h.elim
 ·exact h.elim
theorem appE_ok {C:Cf} (hr:RelX N G w0 v0 U X f l a w γ v ℓ) (hU:∀ k,U k→X k) (hX:X n) (hn:¬ U n) {d:Option Nat} {t:TypeId} {x y:Operand} {o:Oper} {p q:V} {Post:Unit→Fr→Lo→Prop} (ho:o=⟨d,.call ⟨.builtin .append,#[x,y],#[t,t]⟩,ty,pos,aft,g⟩) (hd:∀ k,o.dst=some k→k<N) (hp:RV v γ l p (a.eval x)) (hq:RV v γ l q (a.eval y)) (hk:p.ok U) (hkq:q.ok U)
  (h:Zj n (appE C o n t p q) f l Post):Z8 C.P N G w0 v0 X o a w Post:=by
 unfold appE at h;split at h
 ·exact h.elim
 ·rename_i ei hei;obtain⟨hE,hby⟩:=ZOk hei;split at h
  ·rename_i u;obtain⟨en,he,h⟩:=h;obtain⟨k0,st0,L⟩:=en
   cases L with
   | own ty0 s xs0 fz0 =>
    obtain⟨ys,l1,γ1,v1,ℓ1,hB,r1,le1,q1⟩:=ZSc hn hX FU h hr hkq;obtain⟨en,he1,hC⟩:=hB;have hp1:=ZVa le1 hk hp;obtain⟨yy,hy0,_,hy⟩:=Z6 hp1 (λ_ e=>by cases e) rfl rfl;have hy0:a.eval x=yy:=(List.cons.inj hy0).1;have hy:=hy en he1;obtain⟨kk,st,L⟩:=en;obtain⟨hm,hkk⟩:=Zk he1;have hkk:kk=u:=hkk;subst hkk
    cases L with
    | own ty1 s' xs fz =>
     cases fz with
     | true=>exact hC.elim
     | false =>
      simp only at hC;split at hC
      ·rename_i ys' hys ht hs;obtain⟨c3,c4⟩:=Z2 hys
       cases c3;cases c4
       have ht:=eQ ht;have hs:=eQ hs;obtain⟨_,hroom,hC⟩:=hC;obtain⟨ob,cap,g1,rfl⟩:=hy;obtain⟨es,E',h1,_,h2,h3,r2⟩:=r1.del he1;obtain⟨ob',cap',cs,f1,f2,rfl⟩:=h1;have f1:γ1 kk = .own ob' cap':=f1;rw[g1]at f1;cases f1;have hst:=r1.st.perm h3;obtain⟨σ,hσ,e1,e2⟩:=hst.ev2 x y;obtain⟨hq1,hq2⟩:=Zvl h;obtain⟨csq,hcq,hqe⟩:=Z8a hq hq2;have hcq':(Zs s.rep).rel v1 csq ys:=q1 _ hcq;obtain⟨qa,m,c,rfl⟩:=Zkg hcq';rw[ZJf hq1]at hqe;have hml:m=ys.length:=by obtain⟨_,_,e,_⟩:=hcq';cases e;rfl
       have hE':Elem C.P t ty1 s.rep.n ei.by_ ei.z:=by rw[ZK,← hs,← ht];exact hE
       have hσ':St N w0 v0 σ (.own ob ty1 s.rep.n xs.length cap cs :: E'.flatten) v1 a w:=by rw[ZK];exact hσ
       obtain⟨b',cap',cs2,w',hrun,hst',hrel⟩:=ZDe (ty:=ty) (A:=s.rep) hE' hσ' (i:=0) rfl hcq' (n':=(xs++(show List s.den from ys)).length) (by rw[lA,hml]) (ZFd hroom) hby;rw[hy0]at e1;rw[hqe]at e2;have hst':=hst'.bare;rw[ZK]at hst';subst ho;exact Zxg r2 hU hX hn hd h2 rfl hst' (Zuc f2 hrel) (Zvd hσ e1 e2 hrun) hC
      ·exact hC.elim
    | box _ _=>exact hC.elim
    | mid _ _ _ _ _ _=>exact hC.elim
    | mp _=>exact hC.elim
    | it _ _=>exact hC.elim
    | lst _ _ _ _=>exact hC.elim
    | mat _ _ _ _ _=>exact hC.elim
   | box _ _=>exact h.elim
   | mid _ _ _ _ _ _=>exact h.elim
   | mp _=>exact h.elim
   | it _ _=>exact h.elim
   | lst _ _ _ _=>exact ZQp hr hU hX hn hE hby ho hd (λe=>by cases e) (λu' e=>by cases e;exact⟨hp,hk⟩) hq hkq h
   | mat _ _ _ _ _=>exact ZVn hr hU hX hn hE hby ho hd (λe=>by cases e) (λu' e=>by cases e;exact hp) hq h
  · -- a row
   rename_i u i hv cv s r;obtain⟨ys,l1,γ1,v1,ℓ1,hB,r1,le1,q1⟩:=ZSc hn hX FU h hr hkq;obtain⟨⟨kk,st,L⟩,he1,hC⟩:=hB;have hkk:kk=u:=(Zk he1).2;subst hkk;have hp1:=ZVa le1 hk hp;obtain⟨yy,hy0,_,hy⟩:=Z6 hp1 (λ_ e=>by cases e) rfl rfl;have hy0:a.eval x=yy:=(List.cons.inj hy0).1;have hy:=hy _ he1
   cases L with
   | mat ty1 ty2 s' m hv' =>
    simp only at hC;split at hC
    ·rename_i z b1 b2 hz b3 b4;have b1:=eQ b1;have b2:=eQ b2;have b3:=eQ b3;have b4:=eQ b4;subst b1 b2;obtain⟨c3,c4⟩:=Z2 hz
     cases c3;cases c4
     obtain⟨_,hroom,hC⟩:=hC;obtain⟨ob,cap,rows,obi,capi,g1,g2,rfl,_,g6⟩:=hy rfl;obtain⟨m',c1,c2⟩:=g6 rfl;obtain⟨c5,c6⟩:=Z2 c1
     cases c5;cases c6
     obtain⟨cs,ℓ2,E2,k1,r2,k2,k3,hst⟩:=r1.take hX hn he1 g1 g2 c2;obtain⟨σ,hσ,e1,e2⟩:=hst.ev2 x y;obtain⟨hq1,hq2⟩:=Zvl h;obtain⟨csq,hcq,hqe⟩:=Z8a hq hq2;have hcq':(Zs s.rep).rel v1 csq ys:=q1 _ hcq;obtain⟨qa,mm,c,rfl⟩:=Zkg hcq';rw[ZJf hq1]at hqe;have hml:mm=ys.length:=by obtain⟨_,_,e,_⟩:=hcq';cases e;rfl
     have hE':Elem C.P t ty2 s.rep.n ei.by_ ei.z:=by rw[ZK,← b4,← b3];exact hE
     have hσ':St N w0 v0 σ (.own obi ty2 s.rep.n r.length capi cs :: ℓ2) v1 a w:=by rw[ZK];exact hσ
     obtain⟨b',cap',cs2,w',hrun,hst',hrel⟩:=ZDe (ty:=ty) (A:=s.rep) hE' hσ' (i:=0) rfl hcq' (n':=(r++(show List s.den from ys)).length) (by rw[lA,hml]) (ZFd hroom) hby;rw[hy0]at e1;rw[hqe]at e2;have hst':=hst'.bare;rw[ZK]at hst';subst ho;exact Zxg r2 hU hX hn hd k2 k3 hst' (Zuc k1 hrel) (Zvd hσ e1 e2 hrun) hC
    ·exact hC.elim
   | box _ _=>exact hC.elim
   | own _ _ _ _=>exact hC.elim
   | mid _ _ _ _ _ _=>exact hC.elim
   | mp _=>exact hC.elim
   | it _ _=>exact hC.elim
   | lst _ _ _ _=>exact hC.elim
  ·split at h
   ·refine ZVn hr hU hX hn hE hby ho hd (λ_=>?_) (λu' e=>by cases e) hq h;obtain⟨cs,h1,h2⟩:=hp;have h1:cs=[.slice none 0 0]:=h1;subst h1;exact h2
   ·refine ZQp hr hU hX hn hE hby ho hd (λ_=>?_) (λu' e=>by cases e) hq hkq h;obtain⟨cs,h1,h2⟩:=hp;have h1:cs=[.slice none 0 0]:=h1;subst h1;exact h2
   split at h
   ·rename_i s hs;split at h
    ·rename_i hsz;have hsz:=eQ hsz;obtain⟨ys,l1,γ1,v1,ℓ1,hB,r1,le1,q1⟩:=ZSc hn hX FU h hr hkq;obtain⟨_,hroom,hC⟩:=hB;obtain⟨E',h2,h3⟩:=r1.lr;have hx0:a.eval x = .slice none 0 0:=by
      obtain⟨cs,h1,h2⟩:=hp;have h1:cs=[.slice none 0 0]:=h1;subst h1;exact h2
     have hst:=(r1.st.perm h3).nilLoc ei.e s.rep.n;obtain⟨σ,hσ,e1,e2⟩:=hst.ev2 x y;obtain⟨hq1,hq2⟩:=Zvl h;obtain⟨csq,hcq,hqe⟩:=Z8a hq hq2;have hcq':(Zs s.rep).rel v1 csq ys:=q1 _ hcq;obtain⟨qa,m,c,rfl⟩:=Zkg hcq';rw[ZJf hq1]at hqe;have hml:m=ys.length:=by obtain⟨_,_,e,_⟩:=hcq';cases e;rfl
     have hE':Elem C.P t ei.e s.rep.n ei.by_ ei.z:=by rw[ZK,← hsz];exact hE
     obtain⟨b',cap',cs2,w',hrun,hst',hrel⟩:=ZDe (ty:=ty) (A:=s.rep) hE' hσ (i:=0) rfl hcq' (n':=(([]:List s.den)++(show List s.den from ys)).length) (by rw[lA,hml];rfl) (ZFd hroom) hby;rw[hx0]at e1;rw[hqe]at e2;have hst':=hst'.bare;rw[ZK]at hst';subst ho;exact Zxg r1 hU hX hn hd h2 rfl hst' (Zuc Zve hrel) (Zvd hσ e1 e2 hrun) hC
    ·exact h.elim
   ·exact h.elim
  ·exact h.elim
end
end Go.Eng
namespace Go.Eng
open Go.RowKit
variable {P:Program} {K:Nat} {w0:Base} {v0:Zb} {σ:List (Nat×Value)} {ℓ:List Loc} {v:Zb} {a:Act} {w:World}
variable {d:Option Nat} {ty:TypeId} {pos:String} {aft:Array Edge} {g:Option (Nat×Bool)}
theorem ZLk (k:IntKind) (p q:Int):(Builtin.max2 (.int k p) (.int k q)).run P w = .ok (.int k (max p q)) w:=by
 simp only[Builtin.max2,Sem.run_pure];congr 2;by_cases h:q>p
 ·rw[iP h];omega
 ·rw[iN h];omega
theorem min2_eq (k:IntKind) (p q:Int):(Builtin.min2 (.int k p) (.int k q)).run P w = .ok (.int k (min p q)) w:=by
 simp only[Builtin.min2,Sem.run_pure];congr 2;by_cases h:q<p
 ·rw[iP h];omega
 ·rw[iN h];omega
theorem run_max (hS:St K w0 v0 σ ℓ v a w) {x y:Operand} {k:IntKind} {p q:Int} {ats:Array TypeId} (e:ev σ x=some (.int k p)) (e':ev σ y=some (.int k q)) :
  (execOp a.eval ⟨d,.call ⟨.builtin .max,#[x,y],ats⟩,ty,pos,aft,g⟩).run P w = .ok (.value (.int k (max p q))) w:=by
 simp[execOp,resolve,invoke,builtin,Builtin.max_,hS.eval e,hS.eval e',ZLk]
theorem run_min (hS:St K w0 v0 σ ℓ v a w) {x y:Operand} {k:IntKind} {p q:Int} {ats:Array TypeId} (e:ev σ x=some (.int k p)) (e':ev σ y=some (.int k q)) :
  (execOp a.eval ⟨d,.call ⟨.builtin .min,#[x,y],ats⟩,ty,pos,aft,g⟩).run P w = .ok (.value (.int k (min p q))) w:=by
 simp[execOp,resolve,invoke,builtin,Builtin.min_,hS.eval e,hS.eval e',min2_eq]
theorem Zcw (hS:St K w0 v0 σ ℓ v a w) {x y z:Operand} {k:IntKind} {p q r:Int} {ats:Array TypeId} (e:ev σ x=some (.int k p)) (e':ev σ y=some (.int k q)) (e2:ev σ z=some (.int k r)) :
  (execOp a.eval ⟨d,.call ⟨.builtin .max,#[x,y,z],ats⟩,ty,pos,aft,g⟩).run P w = .ok (.value (.int k (max (max p q) r))) w:=by
 simp[execOp,resolve,invoke,builtin,Builtin.max_,hS.eval e,hS.eval e',hS.eval e2,ZLk]
end Go.Eng
namespace Go.Eng
open Go.RowKit
section
variable {Q:Exit→Act→World→Prop} {a:Act} {w:World}
end
end Go.Eng
namespace Go.Eng
open Go.RowKit
theorem Zdu (off:Nat):∀ (l:List Value) (k:Nat) (acc:Array Value),off+k+l.length≤acc.size→(l.zipIdx k).foldl (λcs (c,j)=>cs.setIfInBounds (off+j) c) acc=(acc.toList.take (off+k)++l++acc.toList.drop (off+k+l.length)).toArray:=by
 intro l
 induction l with
 | nil=>intro k acc h;simp
 | cons y l ih =>
  intro k acc h;simp only[List.zipIdx_cons,List.foldl_cons];rw[ih (k+1) _ (by simp at h ⊢;omega)];congr 1;simp only[Array.toList_setIfInBounds];simp only[List.length_cons]at h;have hlt:off+k<acc.toList.length:=by simp;omega
  rw[List.take_set,List.drop_set_of_lt (by omega)];rw[List.set_eq_take_append_cons_drop,iP (by simp;simp at hlt;omega)];rw[List.take_take,Nat.min_eq_left (by omega)];have e1:((acc.toList.take (off+(k+1))).drop (off+k+1))=[]:=List.drop_of_length_le (by simp;omega);rw[e1];simp;congr 1;omega
theorem ZWm {place:Nat→Option (Nat×Nat)} {cells:Array Value} {i:Nat} {x:Value} {cs:List Value} {rest:List (Nat×Value)} {off:Nat} (hp:place i=some (off,cs.length)) (hx:x.cells=cs.toArray) (hc:off+cs.length≤cells.size) :
  Instr.fill place cells ((i,x) :: rest)=Instr.fill place (cells.toList.take off++cs++cells.toList.drop (off+cs.length)).toArray rest:=by
 have h1:¬ (x.cells.size≠cs.length || decide (off+x.cells.size>cells.size)):=by simp[hx,hc]
 conv=>lhs;unfold Instr.fill
 simp only[hp];rw[iN h1,hx];have:=Zdu off cs 0 cells (by omega);rw[← Array.foldl_toList];congr 1
 simpa using this
section
variable {P:Program} {N:Nat} {G:V→Value→Prop} {w0:Base} {v0:Zb} {U X:Nat→Prop} {f:Fr} {l:Lo} {a:Act} {w:World} {γ:Nat→Gh} {v:Zb} {ℓ:List Loc} {n:Nat}
variable {ty:TypeId} {pos:String} {aft:Array Edge} {g:Option (Nat×Bool)}
theorem Z6e {ρ:Type} (hr:RelX N G w0 v0 U X f l a w γ v ℓ):∀ {xs:List Operand} {k:V→Ev ρ} {Post:ρ→Fr→Lo→Prop},Zj n (Z0d xs k) f l Post→∃ c,RR v γ l true c (xs.map a.eval)∧c.ok U∧Zj n (k c) f l Post
 | [],k,Post,h=>⟨.nl,rfl,trivial,h⟩
 | x :: xs,k,Post,h=>by
  obtain⟨V',h1,h2,h3⟩:=ZA hr h
  have hnt:∀ c,V' ≠ .tup c:=λc e=>by subst e;exact h3.elim
  have h3':Zj n (Z0d xs λc=>k (.cons V' c)) f l Post:=by
   cases V' <;> first | exact h3 | exact h3.elim
  obtain⟨c,k1,k2,k3⟩:=Z6e hr h3';obtain⟨cs,q1,q2⟩:=Z8a h1 hnt;exact⟨.cons V' c,⟨cs,_,by rw[List.map_cons,q2],q1,k1⟩,⟨h2,k2⟩,k3⟩
theorem Z4w {ρ:Type} {g:Nat} {t:T} {x:V} {k:t.den→Ev ρ} {Post:ρ→Fr→Lo→Prop} (h:Zj n (conv g t x k) f l Post):x.isAgg=true∨x.isAgg=false∧x.size=1:=by
 cases x with
 | data s x =>
  cases ha:s.agg with
  | true=>exact .inl ha
  | false=>exact .inr ⟨ha,T_one ha⟩
 | nilS=>exact .inr ⟨rfl,rfl⟩
 | own u=>exact .inr ⟨rfl,rfl⟩
 | ptr u o=>exact .inr ⟨rfl,rfl⟩
 | agg c=>exact .inl rfl
 | _ =>
  cases g with
  | zero=>exact h.elim
  | succ g=>simp only[conv]at h;exact h.elim
theorem Zvy {x:V} {cs:List Value} (hf:x.isAgg=true∨x.isAgg=false∧x.size=1) (h:RR v γ l false x cs) (hp:cs.all plain=true):(x.val cs).cells=cs.toArray:=by
 rcases hf with ha | ⟨ha,hs⟩
 ·unfold V.val;rw[ha];rfl
 ·have e:=Z0g h hs ha;have hv:x.val cs=cs.headD undef:=by unfold V.val;rw[ha]
  rw[hv]at e ⊢;rw[e]at hp;have hp':plain (cs.headD undef)=true:=by simpa using hp
  have:=Zmd hp'
  conv=>rhs;rw[e]
  exact this
theorem ZFv {ρ:Type} {t:T} (hn:¬ U n) (hX:X n):∀ {c:V} {k:List t.den→Ev ρ} {l:Lo} {γ:Nat→Gh} {v:Zb} {ℓ:List Loc} {Post:ρ→Fr→Lo→Prop},Zj n (convS t c k) f l Post→RelX N G w0 v0 U X f l a w γ v ℓ→c.ok U →
  ∃ xs l' γ' v' ℓ',Zj n (k xs) f l' Post∧RelX N G w0 v0 U X f l' a w γ' v' ℓ'∧Le U v γ l v' γ' l'∧∀ vals,RR v γ l true c vals→∃ css:List (List Value),t.rep.rels v' css.flatten xs∧css.length=xs.length∧vals.map Value.cells=css.map List.toArray∧∀ cs ∈ css,cs.length=t.n:=by
 intro c
 induction c with
 | nl =>
  intro k l γ v ℓ Post h hr hk;obtain⟨E,hE,_⟩:=hr.lr;exact⟨[],l,γ,v,ℓ,h,hr,Le.refl hE (Zb.le_refl _),λvals hv=>⟨[],rfl,rfl,by rw[show vals=[] from hv];rfl,λ_ h=>by cases h⟩⟩
 | cons x c _ ih =>
  intro k l γ v ℓ Post h hr hk;have hfit:=Z4w (n:=n) (f:=f) (l:=l) (g:=FU) (t:=t) (x:=x) h;obtain⟨y,l1,γ1,v1,ℓ1,h,r1,le1,q1⟩:=ZSc hn hX FU h hr hk.1;obtain⟨ys,l2,γ2,v2,ℓ2,h,r2,le2,q2⟩:=ih h r1 hk.2;refine⟨y :: ys,l2,γ2,v2,ℓ2,h,r2,le1.trans le2,λvals hv=>?_⟩;obtain⟨cs,vs,rfl,h1,h2⟩:=hv;have hrel:=q1 cs h1;obtain⟨css,k1,k2,k3,k4⟩:=q2 vs (ZAa le1 hk.2 h2);refine⟨cs :: css,⟨cs,css.flatten,rfl,Rep.mono _ le2.v hrel,k1⟩,by simp[k2],?_,λc hc=>?_⟩
  ·rw[List.map_cons,List.map_cons,k3,Zvy hfit h1 (Rep.flat _ hrel)]
  ·rcases List.mem_cons.1 hc with rfl | hc
   ·rw[Rep.len _ hrel,ZK]
   ·exact k4 c hc
 | _=>intro k l γ v ℓ Post h;exact h.elim
theorem ZYi {sz:Nat}:∀ (css:List (List Value)) (vals:List Value) (k:Nat) (cells:Array Value),vals.map Value.cells=css.map List.toArray→(∀ cs ∈ css,cs.length=sz)→cells.size=(k+css.length)*sz →
  Instr.fill (λi=>some (i*sz,sz)) cells (vals.zipIdx k |>.map λp=>(p.2,p.1))=some (cells.toList.take (k*sz)++css.flatten).toArray
 | [],[],k,cells,_,_,hc=>by
  simp only[List.length_nil,Nat.add_zero]at hc
  simp only[List.zipIdx_nil,List.map_nil,Instr.fill,List.flatten_nil,List.append_nil]
  rw[List.take_of_length_le (by simp[hc])]
 | cs :: css,x :: vals,k,cells,h,hs,hc=>by
  simp only[List.map_cons,List.cons.injEq]at h
  have hl:=hs cs (by simp)
  simp only[List.length_cons]at hc
  have hb:k*sz+sz+css.length*sz=cells.size:=by rw[hc,Nat.add_mul,Nat.succ_mul];omega
  simp only[List.zipIdx_cons,List.map_cons]
  rw[ZWm (cs:=cs) (off:=k*sz) (by rw[hl]) h.1 (by omega)]
  rw[ZYi css vals (k+1) _ h.2 (λc hc=>hs c (by simp[hc])) (by
   simp only[List.size_toArray,lA,List.length_take,List.length_drop,Array.length_toList]
   rw[hl,Nat.min_eq_left (by omega),Nat.add_mul,Nat.succ_mul];omega)]
  congr 2
  have e1:(cells.toList.take (k*sz)).length=k*sz:=by simp;omega
  rw[List.flatten_cons,← aAq,Nat.succ_mul]
  congr 1
  rw[List.take_append,List.take_of_length_le (by simp[hl];omega)]
  rw[show k*sz+sz-(cells.toList.take (k*sz)++cs).length=0 by rw[lA,e1,hl];omega]
  simp
 | [],_ :: _,_,_,h,_,_=>by simp at h
 | _ :: _,[],_,_,h,_,_=>by simp at h
theorem ZRq:∀ {ps:List (Nat×Operand)} {k:Nat},Zyj k ps=true→ps.map (λp=>(p.1,a.eval p.2))=((ps.map λp=>a.eval p.2).zipIdx k).map λp=>(p.2,p.1)
 | [],_,_=>rfl
 | p :: ps,k,h=>by
  simp only[Zyj]at h
  split at h
  ·rename_i hb
   have hb:=eQ hb
   simp only[List.map_cons,List.zipIdx_cons]
   rw[ZRq h,hb]
  ·cases h
theorem ZEl {t e:TypeId} {m sz:Nat} {inf:TypeInfo} {z:Value} {L:List (Nat×Value)} {cs:List Value} (ht:P.underlying t=some (.slice e)) (hi:P.info? e=some inf) (hz:inf.zero=some z) (hs:inf.size=sz) (hb:m*sz≤16777216)
  (hf:∀ zc:Array Value,Instr.fill (λi=>some (i*sz,sz)) ((Array.range (m*sz)).map (λi=>zc[i%zc.size]!)) L=some cs.toArray) (w:World):(Instr.buildSlice t m L.toArray).run P w = .ok (.slice (some ⟨w.heap.size,0,none⟩) m m) (w.alloc (.cells cs.toArray e)):=by
 subst hs;have hb:¬ (m*inf.size>2^24):=by omega
 unfold Instr.buildSlice;by_cases h0:m*inf.size=0
 ·have:=hf #[];simp only[h0]at this;simp[run_underlying ht,sizeOf,typeInfo,hi,h0] ; simp at this;simp[this,newRow]
 ·have:=hf z.cells;obtain⟨A,hA⟩:∃ A,A=(Array.range (m*inf.size)).map (λi=>z.cells[i%z.cells.size]!):=⟨_,rfl⟩;rw[← hA]at this;simp only[run_underlying ht,sizeOf,typeInfo,zeroValue];simp[run_underlying ht,typeInfo,hi,hz,h0,show ¬ (16777216<m*inf.size) by omega];rw[← hA,this];simp[newRow]
theorem Zpw {C:Cf} (hr:RelX N G w0 v0 U X f l a w γ v ℓ) (hU:∀ k,U k→X k) (hX:X n) (hn:¬ U n) {d:Option Nat} {t:TypeId} {m:Nat} {ps:Array (Nat×Operand)} {o:Oper} {Post:Unit→Fr→Lo→Prop} (ho:o=⟨d,.buildSlice t m ps,ty,pos,aft,g⟩) (hd:∀ k,o.dst=some k→k<N)
  (h:Zj n (ZM C n o) f l Post):Z8 C.P N G w0 v0 X o a w Post:=by
 subst ho;simp only[ZM]at h;split at h
 ·rename_i q hq;obtain⟨hE,hby⟩:=ZOk hq;split at h
  ·split at h
   ·rename_i x hps _ _;have hps:=hps;obtain⟨V1,h1,hk1,h⟩:=ZA hr h;split at h
    ·rename_i s hs;split at h
     ·rename_i b1 b2 b3 b4;have b1:=eQ b1;have b2:=eQ b2;have b4:=lB b4;obtain⟨cs,hcs,hqe⟩:=Z8a h1 (Zbk b3);obtain⟨hcells,hpl⟩:=Zii hcs b3;have hcells:(V1.val cs).cells=cs.toArray:=hcells;have hlen:cs.length=s.n:=(Z1c hcs).trans b2;obtain⟨E,hEE,hp⟩:=hr.lr;have hz:∀ w,(Instr.buildSlice t 1 (ps.toList.map λp=>(p.1,a.eval p.2)).toArray).run C.P w = .ok (.slice (some ⟨w.heap.size,0,none⟩) 1 1) (w.alloc (.cells cs.toArray q.e)):=by
       intro w;obtain⟨inf,hinf,hzz,hsz',hby'⟩:=info_parts hE.info;rw[hps,List.map_singleton];simp only[hqe];refine ZEl (sz:=q.sz) hE.ty hinf hzz hsz' (by omega) (λzc=>?_) w;have:=ZYi (sz:=q.sz) [cs] [V1.val cs] 0 ((Array.range (1*q.sz)).map (λi=>zc[i%zc.size]!)) (by simp[hcells]) (λc hc=>by rw[List.mem_singleton.1 hc,b1];exact hlen) (by simp)
       simpa using this
      have hst:=hr.st.perm hp;obtain⟨σ,hσ,hev⟩:=hst.evs (ps.toList.map (·.2));obtain⟨b,w',hrun,hst'⟩:=ZJg (P:=C.P) (t:=t) (e:=q.e) (sz:=s.n) (n:=1) hσ (by omega) (by decide) hz;have hev':ps.toList.map (λp=>(ev σ p.2).map λy=>(p.1,y))=(ps.toList.map λp=>(p.1,a.eval p.2)).map some:=by
       rw[List.map_map];refine List.map_congr_left λp hp=>?_;rw[hev p.2 (List.mem_map.2 ⟨p,hp,rfl⟩)];rfl
      exact Zlm (xs:=[]) (cs:=[]) hr hU hX hn hd hEE rfl hst'.bare Zve hcs hk1 hpl hlen (hrun (d:=d) (ty:=ty) (pos:=pos) (aft:=aft) (g:=g) hev') h
     ·exact h.elim
    ·exact h.elim
   ·exact h.elim
  ·split at h
   ·rename_i x hps hps2;have hps:=hps;obtain⟨V1,h1,hk1,h⟩:=ZA hr h;split at h
    ·rename_i u2 q2 _ hq2 _;obtain⟨⟨k2,st2,L2⟩,he2,h⟩:=h;have hkk2:k2=u2:=(Zk he2).2;subst hkk2
     cases L2 with
     | own ty2 s xs fz =>
      cases fz with
      | true=>exact h.elim
      | false =>
       simp only at h;split at h
       ·rename_i b1 b2 b3;have b3:=eQ b3;obtain⟨es,E',g1,g2,g2',g3,r2⟩:=hr.del he2;obtain⟨ob2,cap2,cs2,f1,f2,rfl⟩:=g1;have f1:γ k2 = .own ob2 cap2:=f1;have hy0:a.eval x = .slice (mkA ob2) xs.length cap2:=by
         obtain⟨yq,hyq0,_,hyq⟩:=Z6 h1 (λ_ e=>by cases e) rfl rfl;obtain⟨oq,cq,gq1,gq2⟩:=hyq _ he2;rw[f1]at gq1;cases gq1;exact ((List.cons.inj hyq0).1).trans gq2
        have hcells:(Value.slice (mkA ob2) xs.length cap2).cells=[Value.slice (mkA ob2) xs.length cap2].toArray:=by cases ob2 <;> rfl
        have hz:∀ w,(Instr.buildSlice t 1 (ps.toList.map λp=>(p.1,a.eval p.2)).toArray).run C.P w = .ok (.slice (some ⟨w.heap.size,0,none⟩) 1 1) (w.alloc (.cells [Value.slice (mkA ob2) xs.length cap2].toArray q.e)):=by
         intro w;obtain⟨inf,hinf,hzz,hsz',hby'⟩:=info_parts hE.info;rw[hps,List.map_singleton];simp only[hy0];refine ZEl (sz:=1) hE.ty hinf hzz (hsz'.trans b3) (by decide) (λzc=>?_) w;have:=ZYi (sz:=1) [[Value.slice (mkA ob2) xs.length cap2]] [Value.slice (mkA ob2) xs.length cap2] 0 ((Array.range (1*1)).map (λi=>zc[i%zc.size]!)) (by simp[hcells]) (λcs hc=>by rw[List.mem_singleton.1 hc];rfl) (by simp)
         simpa using this
        have hst:=hr.st.perm g3;obtain⟨σ,hσ,hev⟩:=hst.evs (ps.toList.map (·.2));obtain⟨b,w',hrun,hst'⟩:=ZJg (P:=C.P) (t:=t) (e:=q.e) (sz:=1) hσ (by simp) (by decide) hz;have hev':ps.toList.map (λp=>(ev σ p.2).map λy=>(p.1,y))=(ps.toList.map λp=>(p.1,a.eval p.2)).map some:=by
         rw[List.map_map];refine List.map_congr_left λp hp=>?_;rw[hev p.2 (List.mem_map.2 ⟨p,hp,rfl⟩)];rfl
        exact ZQj (rows:=[(ob2,cap2)]) (m:=[xs]) r2 hU hX hn hd g2' rfl ⟨cs2,[],f2,rfl,rfl⟩ hst'.bare (hrun (d:=d) (ty:=ty) (pos:=pos) (aft:=aft) (g:=g) hev') h
       ·exact h.elim
     | box _ _=>exact h.elim
     | mat _ _ _ _ _=>exact h.elim
     | mid _ _ _ _ _ _=>exact h.elim
     | mp _=>exact h.elim
     | it _ _=>exact h.elim
     | lst _ _ _ _=>exact h.elim
    ·exact h.elim
   ·exact h.elim
  split at h
  ·rename_i s hs ho hlen hbig;have hlen:=eQ hlen;have hbig:=lB hbig;split at h
   ·rename_i hsz;have hsz:=eQ hsz;obtain⟨c,h1,h2,h⟩:=Z6e hr h;obtain⟨xs,l1,γ1,v1,ℓ1,h,r1,le1,q1⟩:=ZFv hn hX h hr h2;obtain⟨css,k1,k2,k3,k4⟩:=q1 _ h1;obtain⟨E,hEE,hp⟩:=r1.lr;have hvl:css.length=m:=by
     have:=congrArg List.length k3;simp only[List.length_map]at this;omega
    have hflat:css.flatten.length=m*q.sz:=by
     have:=Z6a k1;rw[ZK,← k2,hvl,← hsz]at this;exact this
    have hz:∀ w,(Instr.buildSlice t m (ps.toList.map λp=>(p.1,a.eval p.2)).toArray).run C.P w = .ok (.slice (some ⟨w.heap.size,0,none⟩) m m) (w.alloc (.cells css.flatten.toArray q.e)):=by
     intro w;obtain⟨inf,hinf,hzz,hsz',hby'⟩:=info_parts hE.info;rw[ZRq ho];have hm:(ps.toList.map λp=>a.eval p.2)=(ps.toList.map (·.2)).map a.eval:=by rw[List.map_map];rfl
     rw[hm];have hf:∀ zc:Array Value,Instr.fill (λi=>some (i*q.sz,q.sz)) ((Array.range (m*q.sz)).map (λi=>zc[i%zc.size]!)) ((((ps.toList.map (·.2)).map a.eval).zipIdx).map λp=>(p.2,p.1))=some css.flatten.toArray:=λzc=>by
      have:=ZYi (sz:=q.sz) css ((ps.toList.map (·.2)).map a.eval) 0 ((Array.range (m*q.sz)).map (λi=>zc[i%zc.size]!)) k3 (λcs hc=>by rw[k4 cs hc,hsz]) (by simp[hvl]);rw[Nat.zero_mul,List.take_zero,List.nil_append]at this;exact this
     obtain⟨L,hL⟩:∃ L,L=((((ps.toList.map (·.2)).map a.eval).zipIdx).map λp=>(p.2,p.1)):=⟨_,rfl⟩;rw[← hL]at hf ⊢;clear hL;exact ZEl hE.ty hinf hzz hsz' hbig hf w
    have hst:=r1.st.perm hp;obtain⟨σ,hσ,hev⟩:=hst.evs (ps.toList.map (·.2));have hmax:m≤maxLen:=by
     have h1:m≤m*q.sz:=Nat.le_mul_of_pos_right _ hE.pos;unfold maxLen;omega
    obtain⟨b,w',hrun,hst'⟩:=ZJg (P:=C.P) (t:=t) (e:=q.e) hσ hflat hmax hz;have hev':ps.toList.map (λp=>(ev σ p.2).map λy=>(p.1,y))=(ps.toList.map λp=>(p.1,a.eval p.2)).map some:=by
     rw[List.map_map];refine List.map_congr_left λp hp=>?_;rw[hev p.2 (List.mem_map.2 ⟨p,hp,rfl⟩)];rfl
    have hxl:m=xs.length:=by omega
    have hst':=hst'.bare;rw[hsz,hxl]at hst';have hrun':=hrun (d:=d) (ty:=ty) (pos:=pos) (aft:=aft) (g:=g) hev'
    conv at hrun'=>rhs;rw[hxl]
    exact Zxg r1 hU hX hn hd hEE rfl hst' k1 hrun' h
   ·exact h.elim
  ·exact h.elim
 ·exact h.elim
end
end Go.Eng
namespace Go.Eng
open Go.RowKit
section
variable {P:Program} {K:Nat} {w0:Base} {v0:Zb} {σ:List (Nat×Value)} {ℓ:List Loc} {v:Zb} {a:Act} {w:World}
variable {d:Option Nat} {ty:TypeId} {pos:String} {aft:Array Edge} {g:Option (Nat×Bool)}
end
end Go.Eng
namespace Go.Eng
open Go.RowKit
def OwnI {α:Type} (A:Rep α) (T:TypeId) (sz:Nat) (l:List α) (ob0:Option Nat) (w:World) (r:Value) (v':Zb) (w':World):Prop :=
 ∃ ob n cap cs,r = .slice (mkA ob) n cap∧(Loc.own ob T sz n cap cs).holds w'∧(∀ b,ob=some b→(w.heap.size≤b∨ob0=some b)∧v' b=none)∧A.rels v' cs l∧n=l.length
section
variable {P:Program} {K:Nat} {w0:Base} {v0:Zb} {σ:List (Nat×Value)} {ℓ:List Loc} {v:Zb} {a:Act} {w:World}
theorem St.afterI {v':Zb} {w':World} (h:St K w0 v0 σ ℓ v a w) {i:Nat} {e e':Loc} (hi:ℓ[i]? = some e) (x:ExtB ⟨w,e.blk.toList⟩ w') (s:VStepB ⟨w,e.blk.toList⟩ v w' v') (hh:e'.holds w') (hb':∀ b,e'.blk=some b→(w.heap.size≤b∨e.blk=some b)∧v' b=none) :
  St K w0 v0 σ (e' :: ℓ.eraseIdx i) v' a w':=by
 obtain⟨he,hv⟩:=h.loc e (mG hi);have nl:∀ k,k<w0.wd.heap.size→k ∉ w0.lent→k ∉ e.blk.toList:=λk hk hl hm=>by
  have hm:e.blk=some k:=by simpa using hm
  rcases (hv k hm).1 with h' | h'
  ·omega
  ·exact hl h'
 have oth:∀ j y,ℓ[j]? = some y→j≠i→∀ b',y.blk=some b'→b'<w.heap.size∧e.blk≠some b'∧b' ∉ e.blk.toList:=λj y hj hji b' hb2=>by
  obtain⟨_,hg2⟩:=Loc.blk_get (h.loc y (mG hj)).1 hb2;have hne:e.blk≠some b':=λhb=>Zph h.nd hi hb j y hj hji b' hb2 rfl;exact⟨Z5b hg2,hne,by simpa using hne⟩
 refine⟨h.size,h.dfr,h.fr,⟨x.os.trans h.ext.os,x.tape.trans h.ext.tape,x.output.trans h.ext.output,Nat.le_trans h.ext.size x.size,λk hk hl=>?_⟩,⟨Zb.le_trans h.vst.le s.le,s.vin,λk hk hl=>?_⟩,λy hy=>?_,?_⟩
 ·rw[x.block k (Nat.lt_of_lt_of_le hk h.ext.size) (nl k hk hl)];exact h.ext.block k hk hl
 ·rw[s.old k (Nat.lt_of_lt_of_le hk h.ext.size) (nl k hk hl)];exact h.vst.old k hk hl
 ·rcases List.mem_cons.1 hy with rfl | hy
  ·refine⟨hh,λb hb=>⟨?_,(hb' b hb).2⟩⟩;rcases (hb' b hb).1 with h1 | h1
   ·exact .inl (Nat.le_trans h.ext.size h1)
   ·exact (hv b h1).1
  ·obtain⟨j,hji,hj⟩:=List.mem_eraseIdx_iff_getElem?.1 hy;obtain⟨h1,h2⟩:=h.loc y (mG hj);have same:∀ b',y.blk=some b'→w'.heap[b']? = w.heap[b']?:=λb' hb2=>by
    obtain⟨o1,o2,o3⟩:=oth j y hj hji b' hb2;exact x.block b' o1 o3
   refine⟨?_,λb' hb2=>⟨(h2 b' hb2).1,?_⟩⟩
   ·cases y with
    | box b' T' cs=>show _=_;rw[same b' rfl];exact h1
    | own b' T' sz n cap cs =>
     cases b' with
     | none=>exact h1
     | some b'=>obtain⟨k1,c',k2,k3⟩:=h1;exact⟨k1,c',by rw[same b' rfl];exact k2,k3⟩
    | mp b' l=>obtain⟨es,c',k1,k2⟩:=h1;exact⟨es,c',by rw[same b' rfl];exact k1,k2⟩
    | it b' s p=>show _=_;rw[same b' rfl];exact h1
   ·obtain⟨o1,o2,o3⟩:=oth j y hj hji b' hb2;rw[s.old b' o1 o3];exact (h2 b' hb2).2
 ·have hsub:((ℓ.eraseIdx i).filterMap Loc.blk).Nodup:=h.nd.sublist ((List.eraseIdx_sublist ..).filterMap _)
  cases hb:e'.blk with
  | none=>rw[List.filterMap_cons_none hb];exact hsub
  | some b =>
   rw[List.filterMap_cons_some hb];refine List.nodup_cons.2 ⟨λhm=>?_,hsub⟩;obtain⟨y,hy,hyb⟩:=List.mem_filterMap.1 hm;obtain⟨j,hji,hj⟩:=List.mem_eraseIdx_iff_getElem?.1 hy;obtain⟨o1,o2,o3⟩:=oth j y hj hji b hyb;rcases (hb' b hb).1 with h1 | h1
   ·omega
   ·exact o2 h1
variable {d:Option Nat} {ty:TypeId} {pos:String} {aft:Array Edge} {g:Option (Nat×Bool)}
end
end Go.Eng
namespace Go.Eng
open Go.RowKit
section
variable {P:Program} {K:Nat} {w0:Base} {v0:Zb} {σ:List (Nat×Value)} {ℓ:List Loc} {v:Zb} {a:Act} {w:World}
variable {d:Option Nat} {ty:TypeId} {pos:String} {aft:Array Edge} {g:Option (Nat×Bool)}
end
end Go.Eng

namespace Go.Eng
noncomputable def ZIh (str:List UInt8) (plain:Bool):Option ((List UInt8)×(List UInt8)×Bool) :=
 bnd (Zi (σ:=Int) (ρ:=Int) (λa =>
 bnd (α:=Bool)
 (ifb (decide (a<(str.length:Int)))
 (bnd (idx str a) λf =>
 ifb (decide ((48:Int)≤((f.toNat:Nat):Int)))
 (bnd (idx str a) λg =>
 some (decide (((g.toNat:Nat):Int)≤(57:Int))))
 (some false))
 (some false)) λh =>
 ifb h
 (bnd (chk .i64 (a+(1:Int))) λi =>
 some (.inl i))
 (some (.inr a)))
  Zm (0:Int)) λb =>
 bnd (α:=(List UInt8)×(List UInt8)×Bool)
 (bnd (ZI str (0:Int) b) λc =>
 bnd (ZI str b (str.length:Int)) λd =>
 ifb (decide ((0:Int)<b))
 (ifb (!plain)
 (some (c,d,true))
 (ifb (b==(1:Int))
 (some (c,d,true))
 (bnd (idx str (0:Int)) λj =>
 some (c,d,((j.toNat:Nat):Int) != (48:Int)))))
 (some (c,d,false))) λe =>
 some (e.1,e.2.1,e.2.2)
noncomputable def Zdg (str:List UInt8):Option Nat :=
 bnd (Zi (σ:=(List UInt8)×Nat) (ρ:=Nat) (λa =>
 ifb (decide ((0:Int)<(a.1.length:Int)))
 (bnd (ZI a.1 (0:Int) (min (a.1.length:Int) (19:Int))) λc =>
 bnd (Zi (σ:=Int×Int×Int) (ρ:=Int×Int) (λb =>
 ifb (decide (b.2.2<((ZTa c).length:Int)))
 (bnd (idx (ZTa c) b.2.2) λe =>
 bnd (chk .i64 (b.2.2+(1:Int))) λf =>
 some (.inl (IntKind.u64.wrap ((IntKind.u64.wrap ((10:Int)*b.1))+(IntKind.u64.wrap (IntKind.u8.wrap (e-(48:Int))))),IntKind.u64.wrap (b.2.1*(10:Int)),f)))
 (some (.inr (b.1,b.2.1))))
     Zm ((0:Int),(1:Int),(0:Int))) λd =>
 bnd (Zgb d.2) λg =>
 bnd (ZDb a.2 g) λh =>
 bnd (Zgb d.1) λi =>
 bnd (Zyf h i) λj =>
 bnd (ZI a.1 (min (a.1.length:Int) (19:Int)) (a.1.length:Int)) λk =>
 some (.inl (k,j)))
 (some (.inr a.2)))
  Zm (str,(0:Nat))) λl =>
 some l
theorem Zhh {l:List UInt8} (h:Zvc l) (hl:l.length≤4096):okN (dv 0 l):=by
 refine Zua (Nat.le_trans (Zsb (k:=4*l.length) ?_) (by omega));have a:=dv_lt l h;have b:10^l.length≤16^l.length:=Nat.pow_le_pow_left (by decide) _;have d:(16:Nat)^l.length=2^(4*l.length):=(Nat.pow_mul 2 4 l.length).symm;omega
theorem ZGt {k:Nat} (h:k≤19):10^k≤10000000000000000000:=Nat.le_trans (Nat.pow_le_pow_right (by decide) h) (by decide)
theorem Zsw {y:List UInt8} (h:Zvc y) (hl:y.length≤19):Zi (σ:=Int×Int×Int) (ρ:=Int×Int) (λs3 =>
      ifb (decide (s3.2.2<((ZTa y).length:Int)))
      (bnd (idx (ZTa y) s3.2.2) λy4 =>
       bnd (chk .i64 (s3.2.2+(1:Int))) λy5 =>
       some (.inl (IntKind.u64.wrap ((IntKind.u64.wrap ((10:Int)*s3.1))+(IntKind.u64.wrap (IntKind.u8.wrap (y4-(48:Int))))),IntKind.u64.wrap (s3.2.1*(10:Int)),y5)))
      (some (.inr (s3.1,s3.2.1)))) Zm ((0:Int),(1:Int),(0:Int))=some (((dv 0 y:Nat):Int),((10^y.length:Nat):Int)):=by
  refine ZNd (r:=(((dv 0 y:Nat):Int),((10^y.length:Nat):Int))) (λk=>(((dv 0 (y.take k):Nat):Int),((10^k:Nat):Int),(k:Int))) y.length rfl (by omega) (λk hk=>?_) ?_
  · have hk':k<(ZTa y).length:=by rw[ZVc];exact hk
    have e:(ZTa y)[k]=(y[k].toNat:Int):=by simp[ZTa]
    have hc:=h y[k] (List.getElem_mem hk);have hd:Zvc (y.take k):=λc hc=>h c (List.mem_of_mem_take hc);have b:=dv_lt _ hd;have tl:(y.take k).length=k:=by simp;omega
    rw[tl]at b;have p1:=ZGt (k:=k+1) (by omega);have p2:10^(k+1)=10^k*10:=Nat.pow_succ ..;have nx:dv 0 (y.take (k+1))=10*dv 0 (y.take k)+(y[k].toNat-48):=by rw[List.take_succ_eq_append_getElem hk,ZHm];rfl
    simp only;rw[ZVc,dT (by omega),Zf,Zn hk',Za,e,Zv (by omega) (by omega),Za,nx,p2];rw[show IntKind.u8.wrap ((y[k].toNat:Int)-48)=((y[k].toNat-48:Nat):Int) by rw[Zze (Zhl.2 ⟨by omega,by omega⟩)];omega];rw[ZMd (show y[k].toNat-48<18446744073709551616 by omega),show (10:Int)*((dv 0 (y.take k):Nat):Int)=((10*dv 0 (y.take k):Nat):Int) by omega,ZMd (by omega),
      show ((10*dv 0 (y.take k):Nat):Int)+((y[k].toNat-48:Nat):Int)=((10*dv 0 (y.take k)+(y[k].toNat-48):Nat):Int) by omega,ZMd (by omega),
      show ((10^k:Nat):Int)*10=((10^k*10:Nat):Int) by omega,ZMd (by omega)]
    rfl
  · simp only;rw[ZVc,dFq (by omega),Ze,List.take_length]
def isD (c:UInt8):Bool:=decide ((48:Int)≤(c.toNat:Int))&&decide ((c.toNat:Int)≤57)
def ZJ (s:List UInt8):Nat:=(s.takeWhile isD).length
theorem Zlj {c:UInt8} {s:List UInt8} (h:isD c=true):ZJ (c :: s)=ZJ s+1:=by simp[ZJ,List.takeWhile_cons,h]
theorem Zok {c:UInt8} {s:List UInt8} (h:isD c=false):ZJ (c :: s)=0:=by simp[ZJ,List.takeWhile_cons,h]
theorem Z5h:∀ s:List UInt8,ZJ s≤s.length
 | []=>Nat.le_refl _
 | c :: s=>by
  cases h:isD c with
  | true=>rw[Zlj h];have:=Z5h s;simp;omega
  | false=>rw[Zok h];omega
theorem ZMk:∀ (s:List UInt8) (k:Nat) (h:k<s.length),k<ZJ s→isD s[k]=true
 | [],k,h,_=>by cases h
 | c :: s,k,h,hk=>by
  cases hc:isD c with
  | true =>
   rw[Zlj hc]at hk
   cases k with
   | zero=>exact hc
   | succ k=>exact ZMk s k (by simpa using h) (by omega)
  | false=>rw[Zok hc]at hk;omega
theorem ZYq:∀ (s:List UInt8) (h:ZJ s<s.length),isD s[ZJ s]=false
 | [],h=>by cases h
 | c :: s,h=>by
  cases hc:isD c with
  | true =>
   have e:=Zlj (s:=s) hc
   have h2:ZJ s<s.length:=by rw[e]at h;simpa using h
   have:=ZYq s h2
   simp only[e,List.getElem_cons_succ]
   exact this
  | false =>
   have e:=Zok (s:=s) hc
   simp only[e,List.getElem_cons_zero]
   exact hc
theorem Zrr (s:List UInt8):Zvc (s.take (ZJ s)):=by
 intro c hc;obtain⟨k,hk,e⟩:=List.getElem_of_mem hc;rw[List.length_take]at hk;have:=ZMk s k (by omega) (by omega);rw[List.getElem_take]at e;rw[← e];unfold isD at this;simp at this;omega
theorem isD_m (s:List UInt8) (i:Nat):(ifb (decide ((i:Int)<(s.length:Int)))
 (bnd (idx s (i:Int)) λy73 =>
 ifb (decide ((48:Int)≤(y73.toNat:Int)))
 (bnd (idx s (i:Int)) λy76 =>
 some (decide ((y76.toNat:Int)≤(57:Int))))
 (some false))
 (some false))=some (if h:i<s.length then isD s[i] else false):=by
 by_cases h:i<s.length
 ·rw[dT (by omega),Zf,Zn h,dif_pos h];simp only[Za];unfold isD
  cases decide ((48:Int)≤(s[i].toNat:Int)) <;> rfl
 ·rw[dFq (by omega),Ze,dif_neg h]
theorem ZZy (s:List UInt8) (hl:s.length≤4096):Zi (σ:=Int) (ρ:=Int) (λs1 =>
   bnd (α:=Bool)
   (ifb (decide (s1<(s.length:Int)))
    (bnd (idx s s1) λy2 =>
     ifb (decide ((48:Int)≤((y2.toNat:Nat):Int)))
     (bnd (idx s s1) λy3 =>
      some (decide (((y3.toNat:Nat):Int)≤(57:Int))))
     (some false))
    (some false)) λx4 =>
   ifb x4
   (bnd (chk .i64 (s1+(1:Int))) λy5 =>
    some (.inl y5))
   (some (.inr s1)))
  Zm (0:Int)=some ((ZJ s:Nat):Int):=by
  have hle:=Z5h s;refine ZNd (λk=>(k:Int)) (ZJ s) rfl (by omega) (λk hk=>?_) ?_
  · try simp only
    have hk':k<s.length:=by omega
    rw[isD_m,Za,dif_pos hk',ZMk s k hk' hk,Zf,Zv (by omega) (by omega),Za];rfl
  · try simp only
    rw[isD_m,Za];by_cases h0:ZJ s<s.length
    · rw[dif_pos h0,ZYq s h0,Ze]
    · rw[dif_neg h0,Ze]
def okS (s:List UInt8) (plain:Bool):Bool:=decide (0<ZJ s)&&(!plain || (decide (ZJ s=1) || decide (s.getD 0 0≠48)))
theorem head48 {s:List UInt8} (h:0<s.length):(((s[0].toNat:Nat):Int) != (48:Int))=decide (s.getD 0 0≠48):=by
 rw[Zfb h];by_cases e:s[0]=48
 ·rw[e];rfl
 ·rw[dT e];simp only[bne_iff_ne,ne_eq];exact λk=>e (UInt8.toNat.inj (by exact_mod_cast k))
theorem Zxo (s:List UInt8) (plain:Bool) (hl:s.length≤4096):ZIh s plain=some (s.take (ZJ s),s.drop (ZJ s),okS s plain):=by
 have hle:=Z5h s;unfold ZIh;refine ZQ (ZZy s hl) ?_;have c1:ZI s (0:Int) (ZJ s:Int)=some (s.take (ZJ s)):=by unfold ZI;rw[iP ⟨by omega,by omega,by omega⟩];simp
 have c2:ZI s (ZJ s:Int) (s.length:Int)=some (s.drop (ZJ s)):=by unfold ZI;rw[iP ⟨by omega,by omega,by omega⟩,tN,tN,List.take_of_length_le (Nat.le_refl _)]
 refine ZQ (y:=(s.take (ZJ s),s.drop (ZJ s),okS s plain)) ?_ rfl;rw[c1,Za,c2,Za];unfold okS;by_cases h0:0<ZJ s
 ·rw[dT (show (0:Int)<(ZJ s:Int) by omega),Zf,dT h0]
  cases plain with
  | false=>rfl
  | true =>
   rw[Bool.not_true,Ze];by_cases h1:ZJ s=1
   ·rw[h1];rfl
   ·rw[show ((ZJ s:Int)==1)=false from beq_false_of_ne (by omega),Ze,show idx s (0:Int)=some s[0] from Zn (i:=0) (by omega),Za,head48 (by omega),dFq h1];rfl
 ·rw[dFq (by omega),Ze,dFq h0];rfl
theorem px_loop {σ R:Type} {body:σ→Option (σ ⊕ R)} {F:Nat} {s:σ} {r:R} (I:σ→Prop) (μ:σ→Nat) (h0:I s) (hF:μ s<F)
  (h1:∀ s,I s→(∃ s',body s=some (.inl s')∧I s'∧μ s'<μ s)∨body s=some (.inr r)):Zi body F s=some r:=by
 induction F generalizing s with
 | zero=>omega
 | succ F ih =>
  unfold Zi;rcases h1 s h0 with ⟨s',e,hI,hm⟩ | e
  ·rw[e,Za];exact ih hI (by omega)
  ·rw[e,Za]
theorem Zvp {l:List UInt8} (h:Zvc l) (hl:l.length≤4096):Zdg l=some (dv 0 l):=by
 unfold Zdg;refine ZQ (y:=dv 0 l) ?_ rfl;refine px_loop (r:=dv 0 l) (s:=(l,0)) (λs:List UInt8×Nat=>∃ j,j≤l.length∧s=(l.drop j,dv 0 (l.take j))) (λs=>s.1.length) ⟨0,by omega,by simp[dv]⟩ (ZX (by simp only;omega)) ?_
 ·rintro⟨s,a⟩ ⟨j,hj,e⟩
  cases e
  have dl:(l.drop j).length=l.length-j:=List.length_drop;by_cases h0:j=l.length
  ·right;subst h0;simp only;rw[dFq (by omega),Ze,List.take_length]
  ·left;obtain⟨m,hm,hm1,hm2,hm3⟩:∃ m:Nat,min ((l.drop j).length:Int) (19:Int)=m∧0<m∧m≤19∧j+m≤l.length:=⟨min (l.drop j).length 19,by omega,by omega,by omega,by omega⟩;have c1:ZI (l.drop j) (0:Int) (m:Int)=some ((l.drop j).take m):=by unfold ZI;rw[iP ⟨by omega,by omega,by omega⟩];simp
   have c2:ZI (l.drop j) (m:Int) ((l.drop j).length:Int)=some (l.drop (j+m)):=by unfold ZI;rw[iP ⟨by omega,by omega,by omega⟩,tN,tN,List.take_of_length_le (Nat.le_refl _),List.drop_drop]
   have hD:Zvc ((l.drop j).take m):=λc hc=>h c (List.mem_of_mem_drop (List.mem_of_mem_take hc));have hT:Zvc (l.take j):=λc hc=>h c (List.mem_of_mem_take hc);have tl:((l.drop j).take m).length=m:=by simp;omega
   have hv:dv 0 (l.take (j+m))=dv 0 (l.take j)*10^m+dv 0 ((l.drop j).take m):=by rw[List.take_add,ZHm,ZIj,tl]
   have o1:okN (dv 0 (l.take j)):=Zhh hT (by simp;omega);have o2:okN (10^m):=ZVg (ZGt hm2) (by decide +kernel);have o3:okN (dv 0 (l.take j)*10^m):=ZVg (by omega) (Zhh (l:=l.take (j+m)) (λc hc=>h c (List.mem_of_mem_take hc)) (by simp;omega));have o4:okN (dv 0 ((l.drop j).take m)):=Zhh hD (by omega);refine⟨(l.drop (j+m),dv 0 (l.take (j+m))),?_,⟨j+m,hm3,rfl⟩,by simp only[List.length_drop];omega⟩;simp only;rw[dT (by omega),Zf,hm,c1,Za,Zsw hD (by omega)]
   try simp only
   unfold Zgb;simp only[Za,tN];rw[tl];unfold ZDb Zyf;rw[iP ⟨o1,o2⟩,Za,iP ⟨o3,o4⟩,Za,c2,Za,hv]
theorem Zdp {α:Type} {l:List α} {i j:Nat} (h:i≤j) (hj:j≤l.length):ZI l (i:Int) (j:Int)=some ((l.take j).drop i):=by
 unfold ZI;rw[iP ⟨by omega,by omega,by omega⟩,tN,tN]
noncomputable def Zek (str:List UInt8):Option (Rat×Int) :=
 ifb (decide ((4096:Int)<(str.length:Int)))
 (some ((0:Rat),(4:Int)))
 (bnd (α:=Bool)
 (ifb (decide ((0:Int)<(str.length:Int)))
 (bnd (idx str (0:Int)) λk =>
 some (((k.toNat:Nat):Int)==(45:Int)))
 (some false)) λg =>
 bnd (α:=List UInt8)
 (ifb g
 (bnd (ZI str (1:Int) (str.length:Int)) λl =>
 some l)
 (some str)) λm =>
 bnd (ZIh m true) λb =>
 ifb (!b.2.2)
 (some ((0:Rat),(2:Int)))
 (bnd (Zgb (1:Int)) λh =>
 bnd (α:=(Rat×Int) ⊕ ((List UInt8)×Nat))
 (ifb (b.2.1 != ([]:List UInt8))
 (bnd (idx b.2.1 (0:Int)) λd =>
 bnd (ZI b.2.1 (1:Int) (b.2.1.length:Int)) λn =>
 bnd (ZIh n (((d.toNat:Nat):Int)==(47:Int))) λc =>
 bnd (α:=Bool)
 (ifb (!c.2.2)
 (some true)
 (ifb (c.2.1 != ([]:List UInt8))
 (some true)
 (ifb (((d.toNat:Nat):Int) != (47:Int))
 (some (((d.toNat:Nat):Int) != (46:Int)))
 (some false)))) λo =>
 ifb o
 (some (.inl ((0:Rat),(2:Int))))
 (bnd (α:=(List UInt8)×Nat)
 (ifb (((d.toNat:Nat):Int)==(47:Int))
 (bnd (Zdg c.1) λp =>
 some (b.1,p))
 (bnd (Z4 (b.1++c.1)) λ_ =>
 bnd (Zi (σ:=Nat×(List UInt8×Nat)) (ρ:=Nat) (λa =>
 bnd (α:=Bool×(List UInt8×Nat))
 (ifb (decide (a.2.2<a.2.1.length))
 (bnd (ZYg a.2.1 a.2.2) λx =>
 some (true,a.2.1,(a.2.2+1)))
 (some (false,a.2.1,a.2.2))) λe =>
 ifb e.1
 (bnd (Zgb (10:Int)) λq =>
 bnd (ZDb a.1 q) λr =>
 some (.inl (r,e.2.1,e.2.2)))
 (some (.inr a.1)))
         Zm (h,c.1,0)) λs =>
 some (b.1++c.1,s))) λi =>
 some (.inr (i.1,i.2))))
 (some (.inr (b.1,h)))) λt =>
   match t with
| .inl j=>(some (j.1,j.2))
| .inr f=>(ifb (((Zc 18446744073709551616 f.2).length:Int)==(0:Int))
 (some ((0:Rat),(3:Int)))
 (bnd (Zdg f.1) λu =>
 bnd (ZOa g u) λv =>
 bnd (ZQb v f.2) λw =>
 some (w,(0:Int))))))
def num (g:Bool) (ds:List UInt8) (d:Nat):Rat:=mkRat (sgn g (dv 0 ds)) d
def prs0 (g:Bool) (b:List UInt8):Rat×Int :=
 if okS b true=false then (0,2) else match b.drop (ZJ b) with
 | []=>(num g (b.take (ZJ b)) 1,0)
 | c :: u=>if c=47 then (if okS u true=true∧ZJ u=u.length then (if dv 0 u=0 then (0,3) else (num g (b.take (ZJ b)) (dv 0 u),0)) else (0,2))
  else if c=46 then (if 0<ZJ u∧ZJ u=u.length then (num g (b.take (ZJ b)++u) (10^u.length),0) else (0,2)) else (0,2)
def Ztd (s:List UInt8):Bool:=match s with | c :: _=>c==45 | []=>false
def prs (s:List UInt8):Rat×Int:=prs0 (Ztd s) (if Ztd s=true then s.drop 1 else s)
theorem Zsk {c k:UInt8}:(((c.toNat:Nat):Int)==((k.toNat:Nat):Int))=(c==k):=by
 by_cases e:c=k
 ·subst e;simp
 ·rw[show (c==k)=false by simpa using e];refine beq_false_of_ne λh=>e (UInt8.toNat.inj (by exact_mod_cast h))
theorem hd45_m (s:List UInt8):(ifb (decide ((0:Int)<(s.length:Int)))
   (bnd (idx s (0:Int)) λy1 =>
    some (((y1.toNat:Nat):Int)==(45:Int)))
   (some false))=some (Ztd s):=by
  cases s with
  | nil=>rfl
  | cons c s=>rw[dT (by simp),Zf,show idx (c :: s) (0:Int)=some c from Zn (l:=c :: s) (i:=0) (by simp),Za];exact congrArg some (Zsk (k:=45))
theorem cut1 {s:List UInt8} (h:0<s.length):ZI s (1:Int) (s.length:Int)=some (s.drop 1):=by
 have:=Zdp (l:=s) (i:=1) (j:=s.length) (by omega) (Nat.le_refl _);rw[List.take_length]at this;exact this
theorem strip_m (s:List UInt8):(ifb (Ztd s)
   (bnd (ZI s (1:Int) (s.length:Int)) λy3 =>
    some y3)
   (some s))=some (if Ztd s=true then s.drop 1 else s):=by
  cases s with
  | nil=>rfl
  | cons c s =>
    cases h:Ztd (c :: s) with
    | true=>rw[Zf,cut1 (by simp),Za];rfl
    | false=>rw[Ze];rfl
theorem digsZ {B n:Nat} (hB:1<B):(((Zc B n).length:Int)==(0:Int))=decide (n=0):=by
 by_cases h:n=0
 ·subst h;rw[Z5];rfl
 ·rw[dFq h];have:=List.length_pos_iff.2 ((Zwc (n:=n) (B:=B) hB).2 h);exact beq_false_of_ne (by omega)
theorem p10 {k:Nat} (h:k≤4096):okN (10^k):=by
 refine Zua (Nat.le_trans (Zsb (k:=4*k+1) ?_) (by omega));have b:10^k≤16^k:=Nat.pow_le_pow_left (by decide) _;have d:(16:Nat)^k=2^(4*k):=(Nat.pow_mul 2 4 k).symm;rw[Nat.pow_succ];have:0<2^(4*k):=Nat.two_pow_pos _;omega
theorem Z4m {g:Bool} {ds:List UInt8} {d:Nat} (h:Zvc ds) (hl:ds.length≤4096) (hd:okN d) (d0:d≠0):(bnd (Zdg ds) λy22=>bnd (ZOa g y22) λy23=>bnd (ZQb y23 d) λy24=>some (y24,(0:Int)))=some (num g ds d,0):=by
 rw[Zvp h hl,Za];unfold ZOa;rw[Za];unfold ZQb;have hn:okN (if g then -((dv 0 ds:Nat):Int) else ((dv 0 ds:Nat):Int)).natAbs:=by
  have:=Zhh h hl
  cases g with
  | true=>simpa using this
  | false=>simpa using this
 rw[iP ⟨hn,hd,d0⟩,Za];rfl
theorem ZJt (s:List UInt8) (hl:s.length≤4096):Zek s=some (prs s):=by
 unfold Zek prs;rw[dFq (by omega),Ze,hd45_m,Za,strip_m,Za];have hb:(if Ztd s=true then s.drop 1 else s).length≤4096:=by
  split
  ·simp;omega
  ·exact hl
 generalize (if Ztd s=true then s.drop 1 else s)=b at *;generalize Ztd s=g at *;rw[Zxo b true hb,Za];unfold prs0;simp only
 cases hk:okS b true with
 | false=>rfl
 | true =>
 simp only[Bool.not_true,Ze];rw[iN (by decide)];have hle:=Z5h b;have hD:=Zrr b;have hdl:(b.take (ZJ b)).length≤4096:=by simp;omega
 have hrest:(b.drop (ZJ b)).length≤4096:=by simp;omega
 have hsum:(b.take (ZJ b)).length+(b.drop (ZJ b)).length≤4096:=by simp;omega
 generalize b.take (ZJ b)=ds at *;generalize b.drop (ZJ b)=t at *;unfold Zgb;rw[Za]
 cases t with
 | nil =>
  refine ZQ (y:=.inr (ds,1)) rfl ?_;simp only;rw[digsZ (by decide),show decide (1=0)=false from rfl,Ze];exact Z4m hD hdl (ZVg (m:=10) (by omega) (p10 (k:=1) (by omega))) (by decide)
 | cons c u =>
  have hu:u.length≤4096:=by simp at hrest;omega
  have hul:=Z5h u;have hUD:=Zrr u;have c0:idx (c :: u) (0:Int)=some c:=Zn (l:=c :: u) (i:=0) (by simp);have c1:ZI (c :: u) (1:Int) ((c :: u).length:Int)=some u:=cut1 (s:=c :: u) (by simp);rw[show ((c :: u) != ([]:List UInt8))=true from rfl,Zf,c0,Za,c1,Za,Zxo u _ hu,Za];simp only;rw[show (((c.toNat:Nat):Int)==(47:Int))=(c==47) from Zsk (k:=47),show (((c.toNat:Nat):Int) != (47:Int))=(c != 47) by simp only[bne];rw[show (((c.toNat:Nat):Int)==(47:Int))=(c==47) from Zsk (k:=47)],show (((c.toNat:Nat):Int) != (46:Int))=(c != 46) by simp only[bne];rw[show (((c.toNat:Nat):Int)==(46:Int))=(c==46) from Zsk (k:=46)]];by_cases hfull:ZJ u=u.length
  ·have ht:u.take (ZJ u)=u:=by rw[hfull];exact List.take_length
   have hd:u.drop (ZJ u)=[]:=by rw[hfull];exact List.drop_length
   have hU:Zvc u:=by rw[ht]at hUD;exact hUD
   rw[ht,hd];by_cases hc:c=47
   ·subst hc;simp only[if_true,beq_self_eq_true]
    cases ho:okS u true with
    | false=>rfl
    | true =>
     rw[iP ⟨rfl,hfull⟩];refine ZQ (y:=.inr (ds,dv 0 u)) ?_ ?_
     ·refine ZQ (y:=false) rfl ?_;rw[Ze];refine ZQ (y:=(ds,dv 0 u)) ?_ rfl;rw[Zf,Zvp hU hu,Za]
     simp only;rw[digsZ (by decide)];by_cases hz:dv 0 u=0
     ·rw[dT hz,Zf,iP hz]
     ·rw[dFq hz,Ze,iN hz];exact Z4m hD hdl (Zhh hU hu) hz
   ·rw[iN hc,show (c==47)=false by simpa using hc,show (c != 47)=true by simpa using hc];by_cases h2:c=46
    ·subst h2;rw[iP rfl];by_cases h0:0<ZJ u
     ·rw[iP ⟨h0,hfull⟩];have ho:okS u false=true:=by unfold okS;rw[dT h0];rfl
      rw[ho];refine ZQ (y:=.inr (ds++u,10^u.length)) ?_ ?_
      ·refine ZQ (y:=false) rfl ?_;rw[Ze];refine ZQ (y:=(ds++u,10^u.length)) ?_ rfl;rw[Ze];simp at hsum;unfold Z4;rw[iP (by unfold maxLen;simp;omega),Za];refine ZQ (ZNd (r:=10^u.length) (λk=>(10^k,(u,k))) u.length rfl (by omega) (λk hk=>?_) ?_) rfl
       ·have hA:ZYg u k=some ((u[k].toNat:Nat):Int):=by
         have:=hU u[k] (List.getElem_mem hk);unfold ZYg;rw[List.getElem?_eq_getElem hk];simp only;rw[show Nat.blt u[k].toNat 128=true by simp[Nat.blt_eq];omega,show Nat.ble u.length maxLen=true by unfold maxLen;simp;omega]
        try simp only
        rw[dT (by omega),Zf,hA,Za,Za,Zf];unfold ZDb;rw[Za,iP ⟨p10 (by omega),p10 (k:=1) (by omega)⟩,Za,Nat.pow_succ];rfl
       ·try simp only
        rw[dFq (by omega),Ze,Za,Ze]
      simp only;rw[digsZ (by decide),dFq (by have:=Nat.pow_pos (n:=u.length) (show 0<10 by decide);omega),Ze];refine Z4m (λc hc=>?_) (by simp;simp at hsum;omega) (p10 hu) (by have:=Nat.pow_pos (n:=u.length) (show 0<10 by decide);omega);rcases List.mem_append.1 hc with h | h
      ·exact hD c h
      ·exact hU c h
     ·rw[iN (λh=>h0 h.1)];have ho:okS u false=false:=by unfold okS;rw[dFq h0];rfl
      rw[ho];rfl
    ·rw[iN h2,show (c != 46)=true by simpa using h2]
     cases okS u false <;> rfl
  ·have hd:u.drop (ZJ u)≠[]:=by
    intro h;have:=congrArg List.length h;simp at this;omega
   rw[show (u.drop (ZJ u) != [])=true by simpa using hd];rw[iN (show ¬ (okS u true=true∧ZJ u=u.length) from λh=>hfull h.2),iN (show ¬ (0<ZJ u∧ZJ u=u.length) from λh=>hfull h.2)];have hr:(if c=47 then ((0:Rat),(2:Int)) else if c=46 then (0,2) else (0,2))=(0,2):=by split <;> simp
   rw[hr]
   cases okS u (c==47) <;> rfl
def Zy (c:UInt8):List UInt8→List (List UInt8)
| []=>[[]]
| x :: r=>if x=c then [] :: Zy c r else match Zy c r with
| []=>[[x]]
| h :: t=>(x :: h) :: t
def Zod (str sep:List UInt8):Option (List (List UInt8)):=match sep with
| [c]=>if str.length<4294967281 then some (Zy c str) else none
| _=>none
theorem ZLu {σ R:Type} {body:σ→Option (σ ⊕ R)} {F:Nat} {s:σ} (Q:R→Prop) (I:σ→Prop) (μ:σ→Nat) (h0:I s) (hF:μ s<F)
  (h1:∀ s,I s→(∃ s',body s=some (.inl s')∧I s'∧μ s'<μ s) ∨ ∃ r,body s=some (.inr r)∧Q r):∃ r,Zi body F s=some r∧Q r:=by
 induction F generalizing s with
 | zero=>omega
 | succ F ih =>
  unfold Zi;rcases h1 s h0 with ⟨s',e,hI,hm⟩ | ⟨r,e,hQ⟩
  ·rw[e,Za];exact ih hI (by omega)
  ·rw[e,Za];exact⟨r,rfl,hQ⟩
def noE (l:List (List UInt8)):List (List UInt8):=if [] ∈ l then [] else l
def ws (s:List UInt8):List (List UInt8):=noE (Zy 32 s)
noncomputable def ZPj (nam:(List UInt8)):Option (Bool) :=
 bnd (ifb (decide ((nam.length:Int)<(1:Int)))
 (some true)
 (some (decide ((24:Int)<(nam.length:Int)))))
 (λ(c:Bool) =>
 (ifb (c)
 (some false)
 (bnd (bnd (Zi (λs:Int=>match s with
| b =>
 (ifb (decide (b<(((ZTa nam)).length:Int)))
 (bnd (idx ((ZTa nam)) b) λa =>
 bnd (ifb (decide (a<(97:Int)))
 (ifb (decide (a<(48:Int)))
 (some (a != (45:Int)))
 (ifb (decide ((57:Int)<a))
 (some (a != (45:Int)))
 (some false)))
 (ifb (decide ((122:Int)<a))
 (ifb (decide (a<(48:Int)))
 (some (a != (45:Int)))
 (ifb (decide ((57:Int)<a))
 (some (a != (45:Int)))
 (some false)))
 (some false)))
 (λ(d:Bool) =>
 (ifb (d)
 (some (.inr ((.inl false))))
 (bnd (chk .i64 (b+(1:Int))) λe =>
 some (.inl e)))))
 (some (.inr ((.inr (()))))))) Zm (0:Int))
 (λ(p:(Bool) ⊕ (Unit))=>match p with
| .inl f =>
 (some ((.inr f)))
| .inr (()) =>
 (some ((.inl (()))))))
 (λ(p:(Unit) ⊕ (Bool))=>match p with
| .inl (()) =>
 (some true)
| .inr g =>
 (some g)))))
noncomputable def ZLi (nam:(List UInt8)):Option (Bool) :=
 bnd (ifb (decide ((nam.length:Int)<(1:Int)))
 (some true)
 (some (decide ((24:Int)<(nam.length:Int)))))
 (λ(b:Bool) =>
 (ifb (b)
 (some false)
 (bnd (bnd (Zi (λs:Int=>match s with
| a =>
 (ifb (decide (a<(nam.length:Int)))
 (bnd (bnd (idx nam a) λc =>
 ifb (decide ((97:Int)≤(c.toNat:Int)))
 (bnd (idx nam a) λd =>
 ifb (decide ((d.toNat:Int)≤(122:Int)))
 (some false)
 (bnd (idx nam a) λe =>
 ifb (decide ((48:Int)≤(e.toNat:Int)))
 (bnd (idx nam a) λf =>
 ifb (decide ((f.toNat:Int)≤(57:Int)))
 (some false)
 (bnd (idx nam a) λg =>
 some (!(((g.toNat:Int))==(45:Int)))))
 (bnd (idx nam a) λh =>
 some (!(((h.toNat:Int))==(45:Int))))))
 (bnd (idx nam a) λi =>
 ifb (decide ((48:Int)≤(i.toNat:Int)))
 (bnd (idx nam a) λj =>
 ifb (decide ((j.toNat:Int)≤(57:Int)))
 (some false)
 (bnd (idx nam a) λk =>
 some (!(((k.toNat:Int))==(45:Int)))))
 (bnd (idx nam a) λl =>
 some (!(((l.toNat:Int))==(45:Int))))))
 (λ(m:Bool) =>
 (ifb (m)
 (some (.inr ((.inl false))))
 (bnd (chk .i64 (a+(1:Int))) λn =>
 some (.inl n)))))
 (some (.inr ((.inr (()))))))) Zm (0:Int))
 (λ(p:(Bool) ⊕ (Unit))=>match p with
| .inl o =>
 (some ((.inr o)))
| .inr (()) =>
 (some ((.inl (()))))))
 (λ(p:(Unit) ⊕ (Bool))=>match p with
| .inl (()) =>
 (some true)
| .inr q =>
 (some q)))))
noncomputable def ZGi (str:(List UInt8)):Option (Bool) :=
 bnd (ifb (decide ((str.length:Int)<(1:Int)))
 (some true)
 (some (decide ((60:Int)<(str.length:Int)))))
 (λ(c:Bool) =>
 (ifb (c)
 (some false)
 (bnd (bnd (Zi (λs:Int=>match s with
| a =>
 (ifb (decide (a<(((ZTa str)).length:Int)))
 (bnd (bnd (idx ((ZTa str)) a) λb =>
 bnd (ifb (b==(32:Int))
 (ifb (decide ((0:Int)<a))
 (bnd (chk .i64 (((str.length:Int))-(1:Int))) λd =>
 ifb (decide (a<d))
 (bnd (chk .i64 (a-(1:Int))) λe =>
 bnd (idx str e) λf =>
 some (((f.toNat:Int)) != (32:Int)))
 (some false))
 (some false))
 (some false))
 (λ(g:Bool) =>
 (ifb (g)
 (some ((.inl (()))))
 (bnd (ifb (decide (b<(33:Int)))
 (some true)
 (some (decide ((126:Int)<b))))
 (λ(h:Bool) =>
 (ifb (h)
 (some ((.inr false)))
 (some ((.inl (()))))))))))
 (λ(p:(Unit) ⊕ (Bool))=>match p with
| .inl (()) =>
 (bnd (chk .i64 (a+(1:Int))) λi =>
 some (.inl i))
| .inr j =>
 (some (.inr ((.inl j))))))
 (some (.inr ((.inr (()))))))) Zm (0:Int))
 (λ(p:(Bool) ⊕ (Unit))=>match p with
| .inl k =>
 (some ((.inr k)))
| .inr (()) =>
 (some ((.inl (()))))))
 (λ(p:(Unit) ⊕ (Bool))=>match p with
| .inl (()) =>
 (some true)
| .inr l =>
 (some l)))))
noncomputable def Z5j (str:(List UInt8)):Option (Bool) :=
 bnd (ifb (decide ((str.length:Int)<(1:Int)))
 (some true)
 (ifb (decide ((60:Int)<(str.length:Int)))
 (some true)
 (bnd (idx str (0:Int)) λb =>
 ifb (((b.toNat:Int))==(32:Int))
 (some true)
 (bnd (chk .i64 (((str.length:Int))-(1:Int))) λc =>
 bnd (idx str c) λd =>
 some (((d.toNat:Int))==(32:Int))))))
 (λ(e:Bool) =>
 (ifb (e)
 (some false)
 (bnd (bnd (Zi (λs:Int=>match s with
| a =>
 (ifb (decide (a<(str.length:Int)))
 (bnd (bnd (idx str a) λf =>
 ifb (decide ((f.toNat:Int)<(32:Int)))
 (some true)
 (bnd (idx str a) λg =>
 ifb (decide ((126:Int)<(g.toNat:Int)))
 (some true)
 (bnd (idx str a) λh =>
 ifb (((h.toNat:Int))==(32:Int))
 (bnd (chk .i64 (a-(1:Int))) λi =>
 bnd (idx str i) λj =>
 some (((j.toNat:Int))==(32:Int)))
 (some false))))
 (λ(k:Bool) =>
 (ifb (k)
 (some (.inr ((.inl false))))
 (bnd (chk .i64 (a+(1:Int))) λl =>
 some (.inl l)))))
 (some (.inr ((.inr (()))))))) Zm (0:Int))
 (λ(p:(Bool) ⊕ (Unit))=>match p with
| .inl m =>
 (some ((.inr m)))
| .inr (()) =>
 (some ((.inl (()))))))
 (λ(p:(Unit) ⊕ (Bool))=>match p with
| .inl (()) =>
 (some true)
| .inr n =>
 (some n)))))
noncomputable def Zgi (l:(List ((List UInt8)×(List (List UInt8))×(List (Int×Rat×(List UInt8)))))) (nam:(List UInt8)):Option (Int) :=
 bnd (bnd (Zi (λs:Int=>match s with
| a =>
 (ifb (decide (a<(l.length:Int)))
 (bnd (idx l a) λb =>
 ifb (b.1==nam)
 (some (.inr ((.inl a))))
 (bnd (chk .i64 (a+(1:Int))) λc =>
 some (.inl c)))
 (some (.inr ((.inr (()))))))) Zm (0:Int))
 (λ(p:(Int) ⊕ (Unit))=>match p with
| .inl d =>
 (some ((.inr d)))
| .inr (()) =>
 (some ((.inl (()))))))
 (λ(p:(Unit) ⊕ (Int))=>match p with
| .inl (()) =>
 (some (-1:Int))
| .inr e =>
 (some e))
noncomputable def ZEg (k:Int):Option ((List UInt8)) :=
 ifb (k==(0:Int))
 (some (([116,105,109,101]:List UInt8)))
 (ifb (k==(1:Int))
 (some (([116,111,116,97,108]:List UInt8)))
 (ifb (k==(2:Int))
 (some (([116,101,109,112]:List UInt8)))
 (ifb (k==(3:Int))
 (some (([99,111,111,108]:List UInt8)))
 (ifb (k==(4:Int))
 (some (([101,110,101,114,103,121]:List UInt8)))
 (some (([]:List UInt8)))))))
theorem Z3i {E β:Type} {l:List E} {body:Int→Option (Int ⊕ (β ⊕ Unit))} (p:E→Bool) (g:Nat→β) (hl:l.length<2^62)
  (h1:∀ i,(hi:i<l.length)→body (i:Int)=if p l[i]=true then some (.inr (.inl (g i))) else some (.inl ((i:Int)+1))) (he:body (l.length:Int)=some (.inr (.inr ()))) :
  Zi body Zm 0=some (match l.findIdx? p with | some k=>.inl (g k) | none=>.inr ()):=by
 have key:∀ m F i,i+m=l.length→m<F→Zi body F (i:Int)=some (match (l.drop i).findIdx? p with | some k=>.inl (g (i+k)) | none=>.inr ()):=by
  intro m
  induction m with
  | zero =>
   intro F i hi hF;obtain⟨F,rfl⟩:∃ g,F=g+1:=⟨F-1,by omega⟩;obtain rfl:i=l.length:=by omega
   unfold Zi;rw[he,Za,List.drop_length];rfl
  | succ m ih =>
   intro F i hi hF;obtain⟨F,rfl⟩:∃ g,F=g+1:=⟨F-1,by omega⟩;have hi':i<l.length:=by omega
   unfold Zi;rw[h1 i hi',List.drop_eq_getElem_cons hi',List.findIdx?_cons];by_cases h:p l[i]=true
   ·rw[iP h,Za,iP h];rfl
   ·rw[iN h,Za,iN h];have:=ih F (i+1) (by omega) (by omega);rw[show ((i:Int)+1)=((i+1:Nat):Int) by omega];refine this.trans ?_
    cases List.findIdx? p (l.drop (i+1)) with
    | none=>rfl
    | some k=>simp only[Option.map_some];rw[show i+1+k=i+(k+1) by omega]
 have:=key l.length Zm 0 (by omega) (ZX (by omega));rw[List.drop_zero]at this;refine this.trans ?_
 cases List.findIdx? p l with
 | none=>rfl
 | some k=>simp only[Nat.zero_add]
abbrev BS:=List UInt8
def Zxb (y:Int):Bool:=bif decide (y<97) then (bif decide (y<48) then y != 45 else bif decide (57<y) then y != 45 else false) else bif decide (122<y) then (bif decide (y<48) then y != 45 else bif decide (57<y) then y != 45 else false) else false
theorem bad1_m (y:Int):(ifb (decide (y<(97:Int)))
 (ifb (decide (y<(48:Int)))
 (some (y != ((45:Int))))
 (ifb (decide ((57:Int)<y))
 (some (y != ((45:Int))))
 (some false)))
 (ifb (decide ((122:Int)<y))
 (ifb (decide (y<(48:Int)))
 (some (y != ((45:Int))))
 (ifb (decide ((57:Int)<y))
 (some (y != ((45:Int))))
 (some false)))
 (some false)))=some (Zxb y):=by
 unfold Zxb;generalize decide (y<97)=a;generalize decide (y<48)=b;generalize decide (57<y)=c;generalize decide (122<y)=d
 cases a <;> cases b <;> cases c <;> cases d <;> rfl
theorem bad2_m (y:Int):(ifb (decide ((97:Int)≤y))
 (ifb (decide (y≤(122:Int)))
 (some false)
 (ifb (decide ((48:Int)≤y))
 (ifb (decide (y≤(57:Int)))
 (some false)
 (some (!(y==((45:Int))))))
 (some (!(y==((45:Int)))))))
 (ifb (decide ((48:Int)≤y))
 (ifb (decide (y≤(57:Int)))
 (some false)
 (some (!(y==((45:Int))))))
 (some (!(y==((45:Int)))))))=some (Zxb y):=by
 unfold Zxb;rw[show decide ((97:Int)≤y) = !decide (y<97) by rw[← decide_not];exact decide_eq_decide.2 (by omega),show decide (y≤(122:Int)) = !decide (122<y) by rw[← decide_not];exact decide_eq_decide.2 (by omega),
  show decide ((48:Int)≤y) = !decide (y<48) by rw[← decide_not];exact decide_eq_decide.2 (by omega),show decide (y≤(57:Int)) = !decide (57<y) by rw[← decide_not];exact decide_eq_decide.2 (by omega)]
 generalize decide (y<97)=a;generalize decide (y<48)=b;generalize decide (57<y)=c;generalize decide (122<y)=d
 cases a <;> cases b <;> cases c <;> cases d <;> rfl
def Z9b (s:BS):Bool:=bif decide ((s.length:Int)<1) || decide ((24:Int)<s.length) then false else (s.findIdx? λc=>Zxb c.toNat).isNone
theorem or_m (a b:Bool):ifb a (some true) (some b)=some (a || b):=by cases a <;> rfl
theorem Zzw (s:BS) (h:s.length≤maxLen):ZPj s=some (Z9b s):=by
 unfold ZPj Z9b;unfold maxLen at h;rw[or_m,Za];generalize hb:(decide ((s.length:Int)<1) || decide ((24:Int)<s.length))=b
 cases b with
 | true=>rw[Zf];rfl
 | false =>
  have hlen:s.length≤24:=by simp at hb;omega
  rw[Ze];refine ZQ (y:=match s.findIdx? λc=>Zxb c.toNat with | some k=>.inr false | none=>.inl ()) (ZQ (Z3i (l:=s) (λc=>Zxb c.toNat) (λ_=>false) (by omega) (λi hi=>?_) ?_) ?_) ?_
  ·have hi':i<(ZTa s).length:=by rw[ZVc];exact hi
   have e:(ZTa s)[i]=(s[i].toNat:Int):=by simp[ZTa]
   simp only;rw[ZVc,dT (by omega),Zf,Zn hi',Za,e,bad1_m,Za]
   cases Zxb s[i].toNat with
   | true=>rw[Zf,iP rfl]
   | false=>rw[Ze,Zv (by omega) (by omega),Za,iN (by decide)]
  ·simp only;rw[ZVc,dFq (by omega),Ze]
  ·cases s.findIdx? λc=>Zxb c.toNat <;> rfl
  ·cases s.findIdx? λc=>Zxb c.toNat <;> rfl
theorem Z8v (s:BS) (h:s.length≤maxLen):ZLi s=some (Z9b s):=by
 unfold ZLi Z9b;unfold maxLen at h;rw[or_m,Za];generalize hb:(decide ((s.length:Int)<1) || decide ((24:Int)<s.length))=b
 cases b with
 | true=>rw[Zf];rfl
 | false =>
  have hlen:s.length≤24:=by simp at hb;omega
  rw[Ze];refine ZQ (y:=match s.findIdx? λc=>Zxb c.toNat with | some k=>.inr false | none=>.inl ()) (ZQ (Z3i (l:=s) (λc=>Zxb c.toNat) (λ_=>false) (by omega) (λi hi=>?_) ?_) ?_) ?_
  ·simp only;rw[dT (by omega),Zf,Zn hi];simp only[Za];rw[bad2_m,Za]
   cases Zxb s[i].toNat with
   | true=>rw[Zf,iP rfl]
   | false=>rw[Ze,Zv (by omega) (by omega),Za,iN (by decide)]
  ·simp only;rw[dFq (by omega),Ze]
  ·cases s.findIdx? λc=>Zxb c.toNat <;> rfl
  ·cases s.findIdx? λc=>Zxb c.toNat <;> rfl
def Zrd {α:Type} (l:List (BS×α)) (s:BS):Int:=match l.findIdx? λx=>x.1==s with | some k=>k | none=>-1
theorem ZJw {α:Type} {l:List (BS×α)} {s:BS} {body:Int→Option (Int ⊕ (Int ⊕ Unit))} (hl:l.length<2^62)
  (h1:∀ i,(hi:i<l.length)→body (i:Int)=if (l[i].1==s)=true then some (.inr (.inl (i:Int))) else some (.inl ((i:Int)+1))) (he:body (l.length:Int)=some (.inr (.inr ()))) :
  bnd (bnd (Zi body Zm 0) (λ(p:(Int) ⊕ (Unit))=>match p with
 | .inl x55 =>
 (some ((.inr x55)))
 | .inr (()) =>
 (some ((.inl (())))))) (λ(p:(Unit) ⊕ (Int))=>match p with
 | .inl (()) =>
 (some ((-1:Int)))
 | .inr x42 =>
 (some x42))=some (Zrd l s):=by
 rw[Z3i (l:=l) (λx=>x.1==s) (λi=>(i:Int)) hl h1 he];unfold Zrd
 cases l.findIdx? λx=>x.1==s <;> rfl
theorem Zai (b:Int) (hx:True):(match (if b≠0 then (.inl b:Int ⊕ Unit) else .inr ()) with | .inl x=>some (.inr x:Unit ⊕ Int) | .inr ()=>some (.inl ()))=some (if b≠0 then .inr b else .inl ()):=by
 by_cases h:b≠0
 ·rw[iP h,iP h]
 ·rw[iN h,iN h]
theorem Zdn {α:Type} (l:List α) {k:Nat} (h:k≤l.length):ZI l (0:Int) (k:Int)=some (l.take k):=by
 unfold ZI;rw[iP ⟨by omega,by omega,by omega⟩];simp
theorem Z1h {σ R:Type} {body:σ→Option (σ ⊕ R)} {s:σ} (enc:Nat→σ) (hs:enc 0=s) (c:Nat→Int) (g:Int→R) (fin:R) (n:Nat) (hn:n<2^62) (h1:∀ i,i<n→body (enc i)=if c i≠0 then some (.inr (g (c i))) else some (.inl (enc (i+1)))) (he:body (enc n)=some (.inr fin)) :
  Zi body Zm s=some (if cf c 0 n≠0 then g (cf c 0 n) else fin):=by
 rw[← hs];have key:∀ m F i,i+m=n→m<F→Zi body F (enc i)=some (if cf c i m≠0 then g (cf c i m) else fin):=by
  intro m
  induction m with
  | zero =>
   intro F i hi hF;obtain⟨F,rfl⟩:∃ g,F=g+1:=⟨F-1,by omega⟩;obtain rfl:i=n:=by omega
   unfold Zi;rw[he,Za];rfl
  | succ m ih =>
   intro F i hi hF;obtain⟨F,rfl⟩:∃ g,F=g+1:=⟨F-1,by omega⟩;unfold Zi;rw[h1 i (by omega)];unfold cf;by_cases h:c i≠0
   ·rw[iP h,Za,iP h,iP h]
   ·rw[iN h,Za,iN h];exact ih F (i+1) (by omega) (by omega)
 exact key n Zm 0 (by omega) (ZX (by omega))
theorem ZDo {β:Type} {n:Nat} {body:Int→Option (Int ⊕ (β ⊕ Unit))} (p:Nat→Bool) (g:Nat→β) (hn:n<2^62)
  (h1:∀ i,i<n→body (i:Int)=if p i=true then some (.inr (.inl (g i))) else some (.inl ((i:Int)+1))) (he:body (n:Int)=some (.inr (.inr ()))) :
  Zi body Zm 0=some (match (List.range n).findIdx? p with | some k=>.inl (g k) | none=>.inr ()) :=
 Z3i (l:=List.range n) p g (by simpa using hn) (λi hi=>by rw[List.getElem_range];exact h1 i (by simpa using hi)) (by simpa using he)
def cN (s:BS) (i:Nat):Int:=((s.getD i 0).toNat:Int)
theorem Zxf {s:BS} {i:Nat} (h:i<s.length):((s[i].toNat:Nat):Int)=cN s i:=by unfold cN;rw[Zfb h]
def sp (s:BS) (i:Nat):Bool:=(cN s i==32)&&(decide ((0:Int)<i)&&(decide ((i:Int)<(s.length:Int)-1)&&(cN s (i-1) != 32)))
def ZKb (s:BS) (i:Nat):Bool:=!sp s i&&(decide (cN s i<33) || decide (126<cN s i))
def doB (s:BS):Bool:=bif decide ((s.length:Int)<1) || decide ((60:Int)<s.length) then false else ((List.range s.length).findIdx? (ZKb s)).isNone
theorem isDo_eq (s:BS) (h:s.length≤maxLen):ZGi s=some (doB s):=by
 unfold ZGi doB;unfold maxLen at h;rw[or_m,Za];generalize hb:(decide ((s.length:Int)<1) || decide ((60:Int)<s.length))=b
 cases b with
 | true=>rw[Zf];rfl
 | false =>
  have hlen:s.length≤60:=by simp at hb;omega
  rw[Ze];refine ZQ (y:=match (List.range s.length).findIdx? (ZKb s) with | some k=>.inr false | none=>.inl ()) (ZQ (ZDo (n:=s.length) (ZKb s) (λ_=>false) (by omega) (λi hi=>?_) ?_) ?_) ?_
  ·have hi':i<(ZTa s).length:=by rw[ZVc];exact hi
   have e:(ZTa s)[i]=cN s i:=by rw[← Zxf hi];simp[ZTa]
   have hsp:(ifb (cN s i==((32:Int)))
 (ifb (decide ((0:Int)<(i:Int)))
 (bnd (chk .i64 (((s.length:Int))-((1:Int)))) λy125 =>
 ifb (decide ((i:Int)<y125))
 (bnd (chk .i64 ((i:Int)-((1:Int)))) λy128 =>
 bnd (idx s y128) λy130 =>
 some (((y130.toNat:Int)) != ((32:Int))))
 (some false))
 (some false))
 (some false))=some (sp s i):=by
    unfold sp
    cases cN s i==32 with
    | false=>rfl
    | true =>
     rw[Zf];by_cases h0:(0:Int)<i
     ·rw[dT h0,Zf,Zv (by omega) (by omega),Za];by_cases h1:(i:Int)<(s.length:Int)-1
      ·have hj:i-1<s.length:=by omega
       rw[dT h1,Zf,Zv (by omega) (by omega),Za,show (i:Int)-1=((i-1:Nat):Int) by omega,Zn hj,Za,Zxf hj];rfl
      ·rw[dFq h1,Ze];rfl
     ·rw[dFq h0,Ze];rfl
   simp only;rw[ZVc,dT (by omega),Zf,Zn hi',Za,e,hsp,Za];unfold ZKb
   cases sp s i with
   | true=>rw[Zf,Za,Zv (by omega) (by omega),Za];rfl
   | false =>
    rw[Ze,or_m,Za]
    cases decide (cN s i<33) || decide (126<cN s i) with
    | true=>rw[Zf,Za];rfl
    | false=>rw[Ze,Za,Zv (by omega) (by omega),Za];rfl
  ·simp only;rw[ZVc,dFq (by omega),Ze]
  ·cases (List.range s.length).findIdx? (ZKb s) <;> rfl
  ·cases (List.range s.length).findIdx? (ZKb s) <;> rfl
def offR (s:BS) (i:Nat):Bool:=decide (cN s i<32) || (decide (126<cN s i) || ((cN s i==32)&&(cN s (i-1)==32)))
theorem Z3k {n:Nat} {p:Nat→Bool}:((List.range n).findIdx? p).isNone=true ↔ ∀ i,i<n→p i=false:=by
 rw[Option.isNone_iff_eq_none,List.findIdx?_eq_none_iff];constructor
 ·intro h i hi;exact h i (List.mem_range.2 hi)
 ·intro h i hi;exact h i (List.mem_range.1 hi)
theorem ZDw {s:BS} (h0:cN s 0≠32) (h1:cN s (s.length-1)≠32) {i:Nat} (hi:i<s.length):ZKb s i=offR s i:=by
 unfold ZKb offR sp;by_cases hc:cN s i=32
 ·have i0:i≠0:=λe=>h0 (by rw[← e];exact hc);have i1:i≠s.length-1:=λe=>h1 (by rw[← e];exact hc);rw[hc,dT (show (0:Int)<i by omega),dT (show (i:Int)<(s.length:Int)-1 by omega)];by_cases hp:cN s (i-1)=32
  ·rw[hp];rfl
  ·rw[show (cN s (i-1) != 32)=true by simpa using hp,show (cN s (i-1)==32)=false by simpa using hp];rfl
 ·rw[show (cN s i==32)=false by simpa using hc];rw[show decide (cN s i<33)=decide (cN s i<32) from decide_eq_decide.2 (by omega)];simp
theorem ZQx (s:BS) (h:s.length≤maxLen):Z5j s=some (doB s):=by
 unfold Z5j doB;unfold maxLen at h;by_cases ha:(s.length:Int)<1
 ·rw[dT ha,Zf,Za,Zf];rfl
 rw[dFq ha,Ze];by_cases hb:(60:Int)<s.length
 ·rw[dT hb,Zf,Za,Zf];rfl
 rw[dFq hb,Ze];have l0:0<s.length:=by omega
 have lz:s.length-1<s.length:=by omega
 have i0:idx s ((0:Int))=some s[0]:=Zn (i:=0) l0;have i1:idx s ((s.length:Int)-1)=some s[s.length-1]:=by rw[show (s.length:Int)-1=((s.length-1:Nat):Int) by omega];exact Zn lz
 rw[i0,Za,Zxf l0];simp only[Bool.or_self,cond_false];by_cases hc:cN s 0=32
 ·rw[hc];simp only[beq_self_eq_true,Zf,Za];congr 1;symm;rw[Bool.eq_false_iff];intro hn;have:=Z3k.1 hn 0 l0;unfold ZKb sp at this;rw[hc,dFq (show ¬ (0:Int)<((0:Nat):Int) by decide)]at this;simp at this
 rw[show (cN s 0==32)=false by simpa using hc,Ze,Zv (by omega) (by omega),Za,i1,Za,Zxf lz];by_cases hd:cN s (s.length-1)=32
 ·rw[hd];simp only[beq_self_eq_true,Zf,Za];congr 1;symm;rw[Bool.eq_false_iff];intro hn;have:=Z3k.1 hn (s.length-1) lz;unfold ZKb sp at this;rw[hd,dFq (show ¬ ((s.length-1:Nat):Int)<(s.length:Int)-1 by omega)]at this;simp at this
 rw[show (cN s (s.length-1)==32)=false by simpa using hd,Za,Ze];refine ZQ (y:=match (List.range s.length).findIdx? (ZKb s) with | some k=>.inr false | none=>.inl ()) (ZQ (ZDo (n:=s.length) (ZKb s) (λ_=>false) (by omega) (λi hi=>?_) ?_) ?_) ?_
 ·have hx:(ifb (decide (((s[i].toNat:Nat):Int)<(32:Int)))
 (some true)
 (bnd (idx s (i:Int)) λy74 =>
 ifb (decide ((126:Int)<(y74.toNat:Int)))
 (some true)
 (bnd (idx s (i:Int)) λy77 =>
 ifb (((y77.toNat:Int))==((32:Int)))
 (bnd (chk .i64 ((i:Int)-((1:Int)))) λy80 =>
 bnd (idx s y80) λy82 =>
 some (((y82.toNat:Int))==((32:Int))))
 (some false))))=some (offR s i):=by
   unfold offR;rw[Zn hi];simp only[Za];rw[Zxf hi]
   cases decide (cN s i<32) with
   | true=>rfl
   | false =>
    rw[Ze]
    cases decide (126<cN s i) with
    | true=>rfl
    | false =>
     rw[Ze];by_cases hq:cN s i=32
     ·have hi0:i≠0:=λe=>hc (by rw[← e];exact hq);have hj:i-1<s.length:=by omega
      rw[hq];simp only[beq_self_eq_true,Zf];rw[Zv (by omega) (by omega),Za,show (i:Int)-1=((i-1:Nat):Int) by omega,Zn hj,Za,Zxf hj];rfl
     ·rw[show (cN s i==32)=false by simpa using hq,Ze];rfl
  skip
  rw[dT (by omega),Zf,Zn hi,Za];rw[Zn hi]at hx;rw[hx,Za,← ZDw hc hd hi]
  cases ZKb s i with
  | true=>rw[Zf,iP rfl]
  | false=>rw[Ze,Zv (by omega) (by omega),Za,iN (by decide)]
 ·skip
  rw[dFq (by omega),Ze]
 ·cases (List.range s.length).findIdx? (ZKb s) <;> rfl
 ·cases (List.range s.length).findIdx? (ZKb s) <;> rfl
abbrev GD:=Int×Rat×BS
abbrev STP:=BS×List BS×List GD
theorem ZPs (l:List STP) (s:BS) (hl:l.length≤100000):Zgi l s=some (Zrd l s):=by
 unfold Zgi;refine ZJw (by omega) (λi hi=>?_) ?_
 ·simp only;rw[dT (by omega),Zf,Zn hi,Za]
  cases l[i].1==s with
  | true=>rw[Zf,iP rfl]
  | false=>rw[Ze,Zv (by omega) (by omega),Za,iN (by decide)]
 ·simp only;rw[dFq (by omega),Ze]
theorem Zft {E R:Type} {l:List E} {body:Int→Option (Int ⊕ R)} (p:E→Bool) (g:Nat→R) (fin:R) (hl:l.length<2^62)
  (h1:∀ i,(hi:i<l.length)→body (i:Int)=if p l[i]=true then some (.inr (g i)) else some (.inl ((i:Int)+1))) (he:body (l.length:Int)=some (.inr fin)) :
  Zi body Zm 0=some (match l.findIdx? p with | some k=>g k | none=>fin):=by
 have key:∀ m F i,i+m=l.length→m<F→Zi body F (i:Int)=some (match (l.drop i).findIdx? p with | some k=>g (i+k) | none=>fin):=by
  intro m
  induction m with
  | zero =>
   intro F i hi hF;obtain⟨F,rfl⟩:∃ g,F=g+1:=⟨F-1,by omega⟩;obtain rfl:i=l.length:=by omega
   unfold Zi;rw[he,Za,List.drop_length];rfl
  | succ m ih =>
   intro F i hi hF;obtain⟨F,rfl⟩:∃ g,F=g+1:=⟨F-1,by omega⟩;have hi':i<l.length:=by omega
   unfold Zi;rw[h1 i hi',List.drop_eq_getElem_cons hi',List.findIdx?_cons];by_cases h:p l[i]=true
   ·rw[iP h,Za,iP h];rfl
   ·rw[iN h,Za,iN h];have:=ih F (i+1) (by omega) (by omega);rw[show ((i:Int)+1)=((i+1:Nat):Int) by omega];refine this.trans ?_
    cases List.findIdx? p (l.drop (i+1)) with
    | none=>rfl
    | some k=>simp only[Option.map_some];rw[show i+1+k=i+(k+1) by omega]
 have:=key l.length Zm 0 (by omega) (ZX (by omega));rw[List.drop_zero]at this;refine this.trans ?_
 cases List.findIdx? p l with
 | none=>rfl
 | some k=>simp only[Nat.zero_add]
def qn:List BS:=[[116,105,109,101],[116,111,116,97,108],[116,101,109,112],[99,111,111,108],[101,110,101,114,103,121]]
abbrev stepW:BS:=[115,116,101,112]
abbrev whenW:BS:=[119,104,101,110]
abbrev goW:BS:=[103,111]
abbrev doW:BS:=[100,111,32]
theorem idxD {α:Type} {l:List α} {i:Nat} {d:α} (h:i<l.length):idx l (i:Int)=some (l.getD i d):=by rw[Zn h,Zfb h]
def ZAb (s:BS):Bool:=decide (3<s.length)&&(s.take 3==doW)
def rl (p:List STP) (s:BS):List STP×Bool :=
 if ZAb s=true then (match p.getLast? with
  | none=>(p,false)
  | some y=>if y.2.2.length=0 then (p.dropLast++[(y.1,y.2.1++[s.drop 3],y.2.2)],true) else (p,false))
 else if (Zy 32 s).length=2∧(Zy 32 s).getD 0 []=stepW∧(Zy 32 s).getD 1 []≠[] then (p++[((Zy 32 s).getD 1 [],[],[])],true)
 else match p.getLast? with
  | none=>(p,false)
  | some y=>if (Zy 32 s).length=5∧(Zy 32 s).getD 0 []=whenW∧(Zy 32 s).getD 3 []=goW∧(Zy 32 s).getD 4 []≠[]∧(prs ((Zy 32 s).getD 2 [])).2=0 then
    (match qn.findIdx? (λx=>x==(Zy 32 s).getD 1 []) with
     | some k=>(p.dropLast++[(y.1,y.2.1,y.2.2++[((k:Int),(prs ((Zy 32 s).getD 2 [])).1,(Zy 32 s).getD 4 [])])],true)
     | none=>(p,false))
   else (p,false)
theorem Znj {α:Type} {k:Nat} {l:List α} (hk:k≤100) (h:l.length≤1000000):ZT k l=some ():=by
 unfold ZT;rw[iP];have:l.length*k≤1000000*100:=Nat.mul_le_mul h hk;omega
theorem ZRm (c:UInt8):∀ (l:BS),∀ x ∈ Zy c l,x.length≤l.length
 | [],x,hx=>by simp[Zy]at hx;simp[hx]
 | y :: r,x,hx=>by
  have ih:=ZRm c r
  unfold Zy at hx
  split at hx
  ·rcases List.mem_cons.1 hx with rfl | hx
   ·simp
   ·have:=ih x hx;simp;omega
  ·split at hx
   ·simp at hx;subst hx;simp
   ·rename_i h t e
    rw[e]at ih
    rcases List.mem_cons.1 hx with rfl | hx
    ·have:=ih h (by simp);simp;omega
    ·have:=ih x (by simp[hx]);simp;omega
noncomputable def ZWe (k:Int):Option (List UInt8) :=
 ifb (k==(0:Int))
 (some ([116,105,109,101]:List UInt8))
 (ifb (k==(1:Int))
 (some ([116,111,116,97,108]:List UInt8))
 (ifb (k==(2:Int))
 (some ([116,101,109,112]:List UInt8))
 (ifb (k==(3:Int))
 (some ([99,111,111,108]:List UInt8))
 (some ([101,110,101,114,103,121]:List UInt8)))))
noncomputable def ZTj (str:List UInt8) (p:List UInt8):Option ((List UInt8)×Bool) :=
 bnd (α:=(List UInt8)×Bool)
 (bnd (α:=Bool)
 (ifb (decide ((p.length:Int)≤(str.length:Int)))
 (bnd (ZI str (0:Int) (p.length:Int)) λb =>
 some (b==p))
 (some false)) λc =>
 ifb (!c)
 (some (str,false))
 (bnd (ZI str (p.length:Int) (str.length:Int)) λd =>
 some (d,true))) λa =>
 some (a.1,a.2)
noncomputable def Zmf (p:Option ((List ((List UInt8)×(List (List UInt8))×(List (Int×Rat×(List UInt8)))))×(List UInt8)×(List (List UInt8))×(List (Int×Rat×(List UInt8))))) (line:List UInt8):Option ((Option ((List ((List UInt8)×(List (List UInt8))×(List (Int×Rat×(List UInt8)))))×(List UInt8)×(List (List UInt8))×(List (Int×Rat×(List UInt8)))))×Bool) :=
 match p with
| none =>
 (bnd (Zod line ([32]:List UInt8)) λa =>
 bnd (idx a (0:Int)) λd =>
 ifb (d==([115,116,101,112]:List UInt8))
 (ifb ((a.length:Int)==(2:Int))
 (bnd (idx a (1:Int)) λe =>
 ifb (e != ([]:List UInt8))
 (bnd (idx a (1:Int)) λf =>
 bnd (ZT 64 ([()]:List Unit)) λ_ =>
 some ((some (([]:List ((List UInt8)×(List (List UInt8))×(List (Int×Rat×(List UInt8))))),f,([]:List (List UInt8)),([]:List (Int×Rat×(List UInt8))))),true))
 (some ((none:Option ((List ((List UInt8)×(List (List UInt8))×(List (Int×Rat×(List UInt8)))))×(List UInt8)×(List (List UInt8))×(List (Int×Rat×(List UInt8))))),false)))
 (some ((none:Option ((List ((List UInt8)×(List (List UInt8))×(List (Int×Rat×(List UInt8)))))×(List UInt8)×(List (List UInt8))×(List (Int×Rat×(List UInt8))))),false)))
 (some ((none:Option ((List ((List UInt8)×(List (List UInt8))×(List (Int×Rat×(List UInt8)))))×(List UInt8)×(List (List UInt8))×(List (Int×Rat×(List UInt8))))),false)))
| some qq =>
 (bnd (Zod line ([32]:List UInt8)) λa =>
 bnd (idx a (0:Int)) λd =>
 ifb (d==([115,116,101,112]:List UInt8))
 (ifb ((a.length:Int)==(2:Int))
 (bnd (idx a (1:Int)) λe =>
 ifb (e != ([]:List UInt8))
 (bnd (idx a (1:Int)) λf =>
 bnd (ZT 64 (qq.1++[(qq.2.1,qq.2.2.1,qq.2.2.2),(qq.2.1,qq.2.2.1,qq.2.2.2)])) λ_ =>
 some ((some (qq.1++[(qq.2.1,qq.2.2.1,qq.2.2.2)],f,([]:List (List UInt8)),([]:List (Int×Rat×(List UInt8))))),true))
 (some ((some (qq.1,qq.2.1,qq.2.2.1,qq.2.2.2)),false)))
 (some ((some (qq.1,qq.2.1,qq.2.2.1,qq.2.2.2)),false)))
 (ifb (decide ((0:Int)<((qq.1.length+1:Nat):Int)))
 (bnd (chk .i64 (((qq.1.length+1:Nat):Int)-(1:Int))) λj =>
 bnd (Z6h qq.1 j) λ_ =>
 bnd (ZTj line ([100,111,32]:List UInt8)) λb =>
 ifb b.2
 (ifb (b.1 != ([]:List UInt8))
 (ifb ((qq.2.2.2.length:Int)==(0:Int))
 (bnd (ZT 16 (qq.2.2.1++[b.1])) λ_ =>
 some ((some (qq.1,qq.2.1,qq.2.2.1++[b.1],qq.2.2.2)),true))
 (some ((some (qq.1,qq.2.1,qq.2.2.1,qq.2.2.2)),false)))
 (some ((some (qq.1,qq.2.1,qq.2.2.1,qq.2.2.2)),false)))
 (ifb ((a.length:Int)==(5:Int))
 (bnd (idx a (0:Int)) λk =>
 ifb (k==([119,104,101,110]:List UInt8))
 (bnd (idx a (3:Int)) λl =>
 ifb (l==([103,111]:List UInt8))
 (bnd (idx a (4:Int)) λm =>
 ifb (m != ([]:List UInt8))
 (bnd (α:=Int)
 (bnd (Zi (σ:=Int) (ρ:=Unit ⊕ Int) (λc =>
 ifb (decide (c<([(0:Int),(1:Int),(2:Int),(3:Int),(4:Int)].length:Int)))
 (bnd (idx [(0:Int),(1:Int),(2:Int),(3:Int),(4:Int)] c) λn =>
 bnd (ZWe n) λo =>
 bnd (idx a (1:Int)) λq =>
 ifb (o==q)
 (some (.inr (.inr c)))
 (bnd (chk .i64 (c+(1:Int))) λr =>
 some (.inl r)))
 (some (.inr (.inl ()))))
           Zm (0:Int)) λs =>
          match s with
| .inl v=>(some (-1:Int))
| .inr t=>(some t)) λg =>
 bnd (idx a (2:Int)) λu =>
 bnd (Zek u) λh =>
 ifb (decide ((0:Int)≤g))
 (ifb (h.2==(0:Int))
 (bnd (idx a (4:Int)) λi =>
 bnd (ZT 80 (qq.2.2.2++[(g,h.1,i)])) λ_ =>
 some ((some (qq.1,qq.2.1,qq.2.2.1,qq.2.2.2++[(g,h.1,i)])),true))
 (some ((some (qq.1,qq.2.1,qq.2.2.1,qq.2.2.2)),false)))
 (some ((some (qq.1,qq.2.1,qq.2.2.1,qq.2.2.2)),false)))
 (some ((some (qq.1,qq.2.1,qq.2.2.1,qq.2.2.2)),false)))
 (some ((some (qq.1,qq.2.1,qq.2.2.1,qq.2.2.2)),false)))
 (some ((some (qq.1,qq.2.1,qq.2.2.1,qq.2.2.2)),false)))
 (some ((some (qq.1,qq.2.1,qq.2.2.1,qq.2.2.2)),false))))
 (some ((some (qq.1,qq.2.1,qq.2.2.1,qq.2.2.2)),false))))
abbrev PSt:Type:=Option ((List StepD)×StepD)
noncomputable def ZNb:List (List UInt8)→Nat→PSt→Option (PSt×Int×Int)
| [],_,z=>some (z,0,0)
| s :: r,k,z=>if s=[]∨s.head? = some 35 then ZNb r (k+1) z else
 bnd (Zmf z s) λy=>if y.2=true then ZNb r (k+1) y.1 else some (y.1,((k+1:Nat):Int),2)
def Zab:PSt→List StepD
| none=>[]
| some q=>q.1++[q.2]
noncomputable def Zhn (p:List StepD) (lines:List (List UInt8)):Option ((List StepD)×Int×Int):=match p with
| []=>bnd (ZNb lines 0 none) λy=>some (Zab y.1,y.2.1,y.2.2)
| _ :: _=>none
theorem cutP_m (s:BS) (hs:s.length≤4096):ZTj s ([100,111,32]:List UInt8)=some (if 3≤s.length∧s.take 3=doW then (s.drop 3,true) else (s,false)):=by
 unfold ZTj;rw[show ((([100,111,32]:List UInt8).length:Nat):Int)=(3:Int) from rfl];by_cases h:3≤s.length
 ·have c3:ZI s (3:Int) (s.length:Int)=some (s.drop 3):=by
   have:=Zdp (l:=s) (i:=3) (j:=s.length) (by omega) (Nat.le_refl _);rw[List.take_length]at this;exact this
  rw[dT (by omega),Zf,show ZI s (0:Int) (3:Int)=some (s.take 3) from Zdn (k:=3) s (by omega),Za,Za];by_cases e:s.take 3=doW
  ·rw[iP ⟨h,e⟩,e,show (!(doW==([100,111,32]:List UInt8)))=false from rfl,Ze,c3,Za,Za]
  ·rw[iN (λk=>e k.2),show (!(s.take 3==([100,111,32]:List UInt8)))=true by simpa using e,Zf,Za]
 ·rw[dFq (by omega),Ze,Za,iN (λk=>h k.1)];rfl
theorem Zfp (r:BS):(Zy 32 (100 :: 111 :: 32 :: r)).getD 0 []=[100,111]:=by
 rw[Zy,iN (by decide),Zy,iN (by decide),Zy,iP rfl];rfl
theorem take3 {s:BS} (h:s.take 3=doW):∃ r,s=100 :: 111 :: 32 :: r:=by
 rcases s with _ | ⟨a,_ | ⟨b,_ | ⟨c,r⟩⟩⟩
 ·cases h
 ·cases h
 ·cases h
 ·simp at h;obtain⟨rfl,rfl,rfl⟩:=h;exact⟨r,rfl⟩
theorem quant_q:∀ i,(hi:i<qn.length)→ZWe (i:Int)=some qn[i]:=by
 intro i hi;have:i<5:=hi;rcases (by omega:i=0∨i=1∨i=2∨i=3∨i=4) with rfl | rfl | rfl | rfl | rfl <;> rfl
theorem ix5 {i:Nat} (h:i<5):idx [(0:Int),(1:Int),(2:Int),(3:Int),(4:Int)] (i:Int)=some (i:Int):=by
 rcases (by omega:i=0∨i=1∨i=2∨i=3∨i=4) with rfl | rfl | rfl | rfl | rfl <;> rfl
theorem ZVw:∀ (c:UInt8) (l:BS),0<(Zy c l).length
 | c,[]=>by simp[Zy]
 | c,x :: r=>by unfold Zy;split <;> (try split) <;> simp
theorem Zmw (z:PSt) (s:BS) (hs:s.length≤4096) (hp:(Zab z).length≤10000) (hy:∀ y ∈ Zab z,y.2.1.length≤10000∧y.2.2.length≤10000) :
    ∃ y,Zmf z s=some (y,(rl (Zab z) s).2)∧Zab y=(rl (Zab z) s).1:=by
  have ht:Zod s ([32]:List UInt8)=some (Zy 32 s):=by unfold Zod;simp only;rw[iP (by omega)]
  have hW:=ZRm 32 s;have hl:=ZVw 32 s;have hd0:ZAb s=true→(Zy 32 s).getD 0 []≠stepW:=λh e=>by
    unfold ZAb at h;simp at h;obtain⟨r,rfl⟩:=take3 h.2;rw[Zfp]at e
    cases e
  have i0:idx (Zy 32 s) (0:Int)=some ((Zy 32 s).getD 0 []):=idxD (i:=0) hl
  cases z with
  | none =>
    unfold Zmf rl;simp only[Zab] at *;rw[ht,Za,i0,Za];generalize Zy 32 s=W at *;by_cases hst:W.getD 0 []=stepW
    · have hnd:ZAb s=false:=by cases h:ZAb s with
        | false=>rfl
        | true=>exact absurd hst (hd0 h)
      rw[hst,show (stepW==([115,116,101,112]:List UInt8))=true from rfl,Zf,hnd,iN (by decide)];by_cases h2:W.length=2
      · have i1:idx W (1:Int)=some (W.getD 1 []):=idxD (i:=1) (by omega);rw[show ((W.length:Int)==(2:Int))=true by rw[h2];rfl,Zf,i1,Za];by_cases h1:W.getD 1 []=[]
        · rw[h1,show (([]:BS) != ([]:List UInt8))=false from rfl,Ze,iN (λh=>h.2.2 rfl)];exact⟨_,rfl,rfl⟩
        · rw[show (W.getD 1 [] != ([]:List UInt8))=true by simpa using h1,Zf,Za,Znj (by omega) (by simp),Za,iP ⟨h2,rfl,h1⟩];exact⟨_,rfl,rfl⟩
      · rw[show ((W.length:Int)==(2:Int))=false from beq_false_of_ne (by omega),Ze,iN (λh=>h2 h.1)];exact⟨_,rfl,rfl⟩
    · rw[show (W.getD 0 []==([115,116,101,112]:List UInt8))=false by simpa using hst,Ze,iN (show ¬ (W.length=2∧W.getD 0 []=stepW∧W.getD 1 []≠[]) from λh=>hst h.2.1)];refine⟨none,?_,?_⟩
      · cases ZAb s <;> rfl
      · cases ZAb s <;> rfl
  | some qq =>
    obtain⟨q,y⟩:=qq;obtain⟨y1,y2,y3⟩:=y;have hql:q.length≤10000:=by simp[Zab]at hp;omega
    have hq:=hy (y1,y2,y3) (by simp[Zab]);simp only at hq;unfold Zmf rl;simp only[Zab] at *;simp only[List.getLast?_append,List.getLast?_singleton,Option.some_or,List.dropLast_concat];rw[ht,Za,i0,Za,cutP_m s hs];have hdo:ZAb s=true↔3<s.length∧s.take 3=doW:=by unfold ZAb;simp
    have hdoW:s.take 3=doW→(Zy 32 s).getD 0 []=[100,111]:=λh=>by
      obtain⟨r,rfl⟩:=take3 h;exact Zfp r
    generalize Zy 32 s=W at *;by_cases hst:W.getD 0 []=stepW
    · have hnd:ZAb s=false:=by cases h:ZAb s with
        | false=>rfl
        | true=>exact absurd hst (hd0 h)
      have hnw:¬ (W.length=5∧stepW=whenW∧W.getD 3 []=goW∧W.getD 4 []≠[]∧(prs (W.getD 2 [])).2=0):=λh=>absurd h.2.1 (by decide);rw[hst,show (stepW==([115,116,101,112]:List UInt8))=true from rfl,Zf,hnd,iN (by decide),iN hnw];by_cases h2:W.length=2
      · have i1:idx W (1:Int)=some (W.getD 1 []):=idxD (i:=1) (by omega);rw[show ((W.length:Int)==(2:Int))=true by rw[h2];rfl,Zf,i1,Za];by_cases h1:W.getD 1 []=[]
        · rw[h1,show (([]:BS) != ([]:List UInt8))=false from rfl,Ze,iN (λh=>h.2.2 rfl)];exact⟨_,rfl,rfl⟩
        · rw[show (W.getD 1 [] != ([]:List UInt8))=true by simpa using h1,Zf,Za,Znj (by omega) (by simp;omega),Za,iP ⟨h2,rfl,h1⟩];exact⟨_,rfl,rfl⟩
      · rw[show ((W.length:Int)==(2:Int))=false from beq_false_of_ne (by omega),Ze,iN (λh=>h2 h.1)];exact⟨_,rfl,rfl⟩
    have hch:chk .i64 (((q.length+1:Nat):Int)-(1:Int))=some (((q.length+1:Nat):Int)-(1:Int)):=Zv (by omega) (by omega);have hla:Z6h q (((q.length+1:Nat):Int)-(1:Int))=some ():=by unfold Z6h;rw[iP (by omega)]
    rw[show (W.getD 0 []==([115,116,101,112]:List UInt8))=false by simpa using hst,Ze,dT (by omega),Zf,hch,Za,hla,Za,Za,iN (show ¬ (W.length=2∧W.getD 0 []=stepW∧W.getD 1 []≠[]) from λh=>hst h.2.1)];by_cases hdd:3≤s.length∧s.take 3=doW
    · rw[iP hdd];simp only;rw[Zf];have hnw:¬ (W.length=5∧W.getD 0 []=whenW∧W.getD 3 []=goW∧W.getD 4 []≠[]∧(prs (W.getD 2 [])).2=0):=λh=>by
        have:=h.2.1;rw[hdoW hdd.2]at this
        cases this
      rw[iN hnw];by_cases h3:3<s.length
      · have hne:s.drop 3≠[]:=λe=>by have:=congrArg List.length e;simp at this;omega
        rw[iP (hdo.2 ⟨h3,hdd.2⟩),show (s.drop 3 != ([]:List UInt8))=true by simpa using hne,Zf];by_cases hz:y3.length=0
        · rw[iP hz,show ((y3.length:Int)==(0:Int))=true by rw[hz];rfl,Zf,Znj (by omega) (by simp;omega),Za];exact⟨_,rfl,rfl⟩
        · rw[iN hz,show ((y3.length:Int)==(0:Int))=false from beq_false_of_ne (by omega),Ze];exact⟨_,rfl,rfl⟩
      · have hn:s.drop 3=[]:=List.drop_eq_nil_of_le (by omega);rw[iN (λh=>h3 (hdo.1 h).1),hn,show (([]:BS) != ([]:List UInt8))=false from rfl,Ze];exact⟨_,rfl,rfl⟩
    · rw[iN hdd,iN (λh=>hdd ⟨by have:=(hdo.1 h).1;omega,(hdo.1 h).2⟩)];simp only;rw[Ze];by_cases h5:W.length=5
      · have i1:idx W (1:Int)=some (W.getD 1 []):=idxD (i:=1) (by omega);have i2:idx W (2:Int)=some (W.getD 2 []):=idxD (i:=2) (by omega);have i3:idx W (3:Int)=some (W.getD 3 []):=idxD (i:=3) (by omega);have i4:idx W (4:Int)=some (W.getD 4 []):=idxD (i:=4) (by omega);have h2:(W.getD 2 []).length≤4096:=by rw[Zfb (by omega)];exact Nat.le_trans (hW _ (List.getElem_mem _)) hs
        rw[show ((W.length:Int)==(5:Int))=true by rw[h5];rfl,Zf,Za];by_cases hw:W.getD 0 []=whenW
        · rw[hw,show (whenW==([119,104,101,110]:List UInt8))=true from rfl,Zf,i3,Za];by_cases hg:W.getD 3 []=goW
          · rw[hg,show (goW==([103,111]:List UInt8))=true from rfl,Zf,i4,Za];by_cases h4:W.getD 4 []=[]
            · rw[h4,show (([]:BS) != ([]:List UInt8))=false from rfl,Ze,iN (λh=>h.2.2.2.1 rfl)];exact⟨_,rfl,rfl⟩
            rw[show (W.getD 4 [] != ([]:List UInt8))=true by simpa using h4,Zf];have hloop:Zi (σ:=Int) (ρ:=Unit ⊕ Int) (λs10 =>
                ifb (decide (s10<([(0:Int),(1:Int),(2:Int),(3:Int),(4:Int)].length:Int)))
                (bnd (idx [(0:Int),(1:Int),(2:Int),(3:Int),(4:Int)] s10) λy11 =>
                 bnd (ZWe y11) λy12 =>
                 bnd (idx W (1:Int)) λy13 =>
                 ifb (y12==y13)
                 (some (.inr (.inr s10)))
                 (bnd (chk .i64 (s10+(1:Int))) λy14 =>
                  some (.inl y14)))
                  (some (.inr (.inl ())))) Zm (0:Int)=some (match qn.findIdx? (λx=>x==W.getD 1 []) with | some k=>Sum.inr (k:Int) | none=>Sum.inl ()):=by
              refine Zft (l:=qn) (λx=>x==W.getD 1 []) (λi=>(Sum.inr (i:Int):Unit ⊕ Int)) (Sum.inl ()) (by decide) (λi hi=>?_) ?_
              · have h5':i<5:=hi
                try simp only
                rw[dT (by simp;omega),Zf,ix5 h5',Za,quant_q i hi,Za,i1,Za,Zv (by omega) (by omega),Za]
                cases qn[i]==W.getD 1 [] with
                | true=>rfl
                | false=>rfl
              · rfl
            rw[hloop,Za,i2]
            cases hf:qn.findIdx? (λx=>x==W.getD 1 []) with
            | none =>
              simp only;rw[Za,Za,ZJt _ h2,Za,show decide ((0:Int)≤-1)=false from rfl,Ze];have hif:(if W.length=5∧True∧True∧W.getD 4 []≠[]∧(prs (W.getD 2 [])).2=0 then ((q++[(y1,y2,y3)]:List STP),false) else (q++[(y1,y2,y3)],false))=(q++[(y1,y2,y3)],false):=ite_self _;rw[hif];exact⟨_,rfl,rfl⟩
            | some k =>
              simp only;rw[Za,Za,ZJt _ h2,Za,dT (by omega),Zf];by_cases hz:(prs (W.getD 2 [])).2=0
              · rw[iP ⟨h5,trivial,trivial,h4,hz⟩,hz,show ((0:Int)==0)=true from rfl,Zf,Za,Znj (by omega) (by simp;omega),Za];exact⟨_,rfl,rfl⟩
              · rw[iN (λh=>hz h.2.2.2.2),show ((prs (W.getD 2 [])).2==(0:Int))=false by simpa using hz,Ze];exact⟨_,rfl,rfl⟩
          · rw[show (W.getD 3 []==([103,111]:List UInt8))=false by simpa using hg,Ze,iN (λh=>hg h.2.2.1)];exact⟨_,rfl,rfl⟩
        · rw[show (W.getD 0 []==([119,104,101,110]:List UInt8))=false by simpa using hw,Ze,iN (λh=>hw h.2.1)];exact⟨_,rfl,rfl⟩
      · rw[show ((W.length:Int)==(5:Int))=false from beq_false_of_ne (by omega),Ze,iN (λh=>h5 h.1)];exact⟨_,rfl,rfl⟩
noncomputable def Zsj (y:(List UInt8)×(List (List UInt8))×(List (Int×Rat×(List UInt8)))) (ahead:List ((List UInt8)×(List (List UInt8))×(List (Int×Rat×(List UInt8))))):Option Int :=
 bnd (ZPj y.1) λf =>
 ifb (!f)
 (some (2:Int))
 (bnd (α:=Bool)
 (ifb (y.1==([101,110,100]:List UInt8))
 (some true)
 (ifb (y.1==([115,99,114,97,112]:List UInt8))
 (some true)
 (bnd (α:=Int)
 (bnd (Zi (σ:=Int) (ρ:=Unit ⊕ Int) (λb =>
 ifb (decide (b<(ahead.length:Int)))
 (bnd (idx ahead b) λg =>
 ifb (g.1==y.1)
 (some (.inr (.inr b)))
 (bnd (chk .i64 (b+(1:Int))) λh =>
 some (.inl h)))
 (some (.inr (.inl ()))))
       Zm (0:Int)) λi =>
      match i with
| .inl A=>(some (-1:Int))
| .inr j=>(some j)) λk =>
 some (decide ((0:Int)≤k))))) λl =>
 ifb l
 (some (8:Int))
 (bnd (α:=Bool)
 (ifb (decide ((16:Int)<(y.2.1.length:Int)))
 (some true)
 (some (decide ((8:Int)<(y.2.2.length:Int))))) λm =>
 ifb m
 (some (4:Int))
 (bnd (Zi (σ:=Int) (ρ:=Unit ⊕ Int) (λd =>
 ifb (decide (d<(y.2.1.length:Int)))
 (bnd (idx y.2.1 d) λn =>
 bnd (ZGi n) λo =>
 ifb (!o)
 (some (.inr (.inr (2:Int))))
 (bnd (chk .i64 (d+(1:Int))) λp =>
 some (.inl p)))
 (some (.inr (.inl ()))))
     Zm (0:Int)) λq =>
    match q with
| .inl B=>(bnd (Zi (σ:=Int) (ρ:=Unit ⊕ Int) (λe =>
 ifb (decide (e<(y.2.2.length:Int)))
 (bnd (idx y.2.2 e) λa =>
 bnd (α:=Bool)
 (ifb (a.1==(0:Int))
 (some true)
 (ifb (a.1==(1:Int))
 (some true)
 (some (a.1==(4:Int))))) λc =>
 bnd (α:=Bool)
 (ifb (!c)
 (ifb (a.1 != (2:Int))
 (ifb (a.1 != (3:Int))
 (some true)
 (ifb c
 (bnd (ZMb a.2.1) λr =>
 some (decide (r<(0:Int))))
 (some false)))
 (ifb c
 (bnd (ZMb a.2.1) λs =>
 some (decide (s<(0:Int))))
 (some false)))
 (ifb c
 (bnd (ZMb a.2.1) λt =>
 some (decide (t<(0:Int))))
 (some false))) λu =>
 ifb u
 (some (.inr (.inr (1:Int))))
 (bnd (chk .i64 (e+(1:Int))) λv =>
 some (.inl v)))
 (some (.inr (.inl ()))))
      Zm (0:Int)) λw =>
     match w with
| .inl C=>(some (0:Int))
| .inr x=>(some x))
| .inr z=>(some z))))
noncomputable def ZZj (prg:List ((List UInt8)×(List (List UInt8))×(List (Int×Rat×(List UInt8))))) (nam:List UInt8):Option Int :=
 bnd (α:=Int)
 (bnd (Zi (σ:=Int) (ρ:=Unit ⊕ Int) (λa =>
 ifb (decide (a<(prg.length:Int)))
 (bnd (idx prg a) λb =>
 ifb (b.1==nam)
 (some (.inr (.inr a)))
 (bnd (chk .i64 (a+(1:Int))) λc =>
 some (.inl c)))
 (some (.inr (.inl ()))))
   Zm (0:Int)) λd =>
  match d with
| .inl g=>(some (-1:Int))
| .inr e=>(some e)) λf =>
 some f
noncomputable def Zpg (prg:List ((List UInt8)×(List (List UInt8))×(List (Int×Rat×(List UInt8))))):Option Int :=
 bnd (α:=Bool)
 (ifb (decide ((prg.length:Int)<(1:Int)))
 (some true)
 (some (decide ((24:Int)<(prg.length:Int))))) λg =>
 ifb g
 (some (4:Int))
 (bnd (Zi (σ:=Int) (ρ:=Unit ⊕ Int) (λa =>
 ifb (decide (a<(prg.length:Int)))
 (bnd (idx prg a) λh =>
 bnd (ZI prg (0:Int) a) λi =>
 bnd (Zsj h i) λe =>
 ifb (e != (0:Int))
 (some (.inr (.inr e)))
 (bnd (chk .i64 (a+(1:Int))) λj =>
 some (.inl j)))
 (some (.inr (.inl ()))))
   Zm (0:Int)) λk =>
  match k with
| .inl u=>(bnd (Zi (σ:=Int) (ρ:=Unit ⊕ Int) (λb =>
 ifb (decide (b<(prg.length:Int)))
 (bnd (idx prg b) λf =>
 bnd (Zi (σ:=Int) (ρ:=Unit ⊕ Int) (λc =>
 ifb (decide (c<(f.2.2.length:Int)))
 (bnd (idx f.2.2 c) λd =>
 bnd (α:=Bool)
 (ifb (d.2.2 != ([101,110,100]:List UInt8))
 (ifb (d.2.2 != ([115,99,114,97,112]:List UInt8))
 (bnd (ZZj prg d.2.2) λl =>
 some (decide (l<(0:Int))))
 (some false))
 (some false)) λm =>
 ifb m
 (some (.inr (.inr (5:Int))))
 (bnd (chk .i64 (c+(1:Int))) λn =>
 some (.inl n)))
 (some (.inr (.inl ()))))
       Zm (0:Int)) λo =>
      match o with
| .inl v=>(bnd (chk .i64 (b+(1:Int))) λp =>
 some (.inl p))
| .inr q=>(some (.inr (.inr q))))
 (some (.inr (.inl ()))))
    Zm (0:Int)) λr =>
   match r with
| .inl w=>(some (0:Int))
| .inr s=>(some s))
| .inr t=>(some t))
noncomputable def ZKk (l:(List ((List UInt8)×(List (List UInt8))×(List (Int×Rat×(List UInt8)))))) (i:Int):Option (Int) :=
 bnd (idx l i) λa =>
 bnd (ZLi a.1) λe =>
 ifb (!(e))
 (some (2:Int))
 (bnd (ifb (a.1==(([101,110,100]:List UInt8)))
 (some true)
 (ifb (a.1==(([115,99,114,97,112]:List UInt8)))
 (some true)
 (bnd (ZI l (0:Int) i) λf =>
 bnd (Zgi f a.1) λg =>
 some (decide ((0:Int)≤g)))))
 (λ(h:Bool) =>
 (ifb (h)
 (some (8:Int))
 (bnd (ifb (decide ((16:Int)<(a.2.1.length:Int)))
 (some true)
 (some (decide ((8:Int)<(a.2.2.length:Int)))))
 (λ(j:Bool) =>
 (ifb (j)
 (some (4:Int))
 (bnd (bnd (Zi (λs:Int=>match s with
| c =>
 (ifb (decide (c<(a.2.1.length:Int)))
 (bnd (idx a.2.1 c) λk =>
 bnd (Z5j k) λm =>
 ifb (!(m))
 (some (.inr ((.inl (2:Int)))))
 (bnd (chk .i64 (c+(1:Int))) λn =>
 some (.inl n)))
 (some (.inr ((.inr (()))))))) Zm (0:Int))
 (λ(p:(Int) ⊕ (Unit))=>match p with
| .inl o =>
 (some ((.inr o)))
| .inr (()) =>
 (some ((.inl (()))))))
 (λ(p:(Unit) ⊕ (Int))=>match p with
| .inl (()) =>
 (bnd (bnd (Zi (λs:Int=>match s with
| d =>
 (ifb (decide (d<(a.2.2.length:Int)))
 (bnd (idx a.2.2 d) λb =>
 bnd (bnd (ZEg b.1) λq =>
 ifb (q==(([]:List UInt8)))
 (some true)
 (ifb (b.1 != (2:Int))
 (ifb (b.1 != (3:Int))
 (bnd (ZOg b.2.1) λr =>
 some (decide (r<(0:Int))))
 (some false))
 (some false)))
 (λ(t:Bool) =>
 (ifb (t)
 (some (.inr ((.inl (1:Int)))))
 (bnd (chk .i64 (d+(1:Int))) λu =>
 some (.inl u)))))
 (some (.inr ((.inr (()))))))) Zm (0:Int))
 (λ(p:(Int) ⊕ (Unit))=>match p with
| .inl v =>
 (some ((.inr v)))
| .inr (()) =>
 (some ((.inl (()))))))
 (λ(p:(Unit) ⊕ (Int))=>match p with
| .inl (()) =>
 (some (0:Int))
| .inr w =>
 (some w)))
| .inr x =>
 (some x)))))))))
noncomputable def Zvj (l:(List ((List UInt8)×(List (List UInt8))×(List (Int×Rat×(List UInt8)))))):Option (Int) :=
 bnd (ifb (decide ((l.length:Int)<(1:Int)))
 (some true)
 (some (decide ((24:Int)<(l.length:Int)))))
 (λ(f:Bool) =>
 (ifb (f)
 (some (4:Int))
 (bnd (bnd (Zi (λs:Int=>match s with
| b =>
 (ifb (decide (b<(l.length:Int)))
 (bnd (ZKk l b) λe =>
 ifb (e != (0:Int))
 (some (.inr ((.inl e))))
 (bnd (chk .i64 (b+(1:Int))) λg =>
 some (.inl g)))
 (some (.inr ((.inr (()))))))) Zm (0:Int))
 (λ(p:(Int) ⊕ (Unit))=>match p with
| .inl h =>
 (some ((.inr h)))
| .inr (()) =>
 (some ((.inl (()))))))
 (λ(p:(Unit) ⊕ (Int))=>match p with
| .inl (()) =>
 (bnd (bnd (Zi (λs:Int=>match s with
| a =>
 (ifb (decide (a<(l.length:Int)))
 (bnd (bnd (Zi (λs:Int=>match s with
| c =>
 (bnd (idx l a) λi =>
 ifb (decide (c<(i.2.2.length:Int)))
 (bnd (idx l a) λj =>
 bnd (idx j.2.2 c) λd =>
 bnd (ifb (d.2.2 != (([101,110,100]:List UInt8)))
 (ifb (d.2.2 != (([115,99,114,97,112]:List UInt8)))
 (bnd (Zgi l d.2.2) λk =>
 some (decide (k<(0:Int))))
 (some false))
 (some false))
 (λ(m:Bool) =>
 (ifb (m)
 (some (.inr ((.inl (5:Int)))))
 (bnd (chk .i64 (c+(1:Int))) λn =>
 some (.inl n)))))
 (some (.inr ((.inr (()))))))) Zm (0:Int))
 (λ(p:(Int) ⊕ (Unit))=>match p with
| .inl o =>
 (some ((.inr o)))
| .inr (()) =>
 (some ((.inl (()))))))
 (λ(p:(Unit) ⊕ (Int))=>match p with
| .inl (()) =>
 (bnd (chk .i64 (a+(1:Int))) λq =>
 some (.inl q))
| .inr r =>
 (some (.inr ((.inl r))))))
 (some (.inr ((.inr (()))))))) Zm (0:Int))
 (λ(p:(Int) ⊕ (Unit))=>match p with
| .inl t =>
 (some ((.inr t)))
| .inr (()) =>
 (some ((.inl (()))))))
 (λ(p:(Unit) ⊕ (Int))=>match p with
| .inl (()) =>
 (some (0:Int))
| .inr u =>
 (some u)))
| .inr v =>
 (some v)))))
abbrev endW:BS:=[101,110,100]
abbrev scrS:BS:=[115,99,114,97,112]
abbrev dG:GD:=(0,0,[])
abbrev dS:STP:=([],[],[])
def Zcd (g:GD):Bool:=if g.1=2∨g.1=3 then false else if g.1=0∨g.1=1∨g.1=4 then decide (g.2.1<0) else true
theorem badG_r (g:GD):(bnd (ZEg g.1) λy211 =>
 ifb (y211==(([]:List UInt8)))
 (some true)
 (ifb (g.1 != ((2:Int)))
 (ifb (g.1 != ((3:Int)))
 (bnd (ZOg g.2.1) λy221 =>
 some (decide (y221<(0:Int))))
 (some false))
 (some false)))=some (Zcd g):=by
 obtain⟨k,v,s⟩:=g;unfold Zcd ZEg;simp only;rw[rsg];simp only[Za];rw[neg_d];by_cases h0:k=0
 ·subst h0;rfl
 by_cases h1:k=1
 ·subst h1;rfl
 by_cases h2:k=2
 ·subst h2;rfl
 by_cases h3:k=3
 ·subst h3;rfl
 by_cases h4:k=4
 ·subst h4;rfl
 rw[show (k==(0:Int))=false by simpa using h0,show (k==(1:Int))=false by simpa using h1,show (k==(2:Int))=false by simpa using h2,show (k==(3:Int))=false by simpa using h3,show (k==(4:Int))=false by simpa using h4];simp only[Ze,Za];rw[iN (by omega),iN (by omega)];rfl
def e8 (ahead:List STP) (y:STP):Bool:=(y.1==endW) || ((y.1==scrS) || decide (0≤Zrd ahead y.1))
def dC (l:List BS) (i:Nat):Int:=if doB (l.getD i [])=true then 0 else 2
def gC (l:List GD) (i:Nat):Int:=if Zcd (l.getD i dG)=true then 1 else 0
def Zwe (ahead:List STP) (y:STP):Int:=if Z9b y.1=false then 2 else if e8 ahead y=true then 8 else if 16<y.2.1.length∨8<y.2.2.length then 4 else if cf (dC y.2.1) 0 y.2.1.length≠0 then cf (dC y.2.1) 0 y.2.1.length else cf (gC y.2.2) 0 y.2.2.length
structure SzS (y:STP):Prop where
 nam:y.1.length≤maxLen
 dos:∀ d ∈ y.2.1,d.length≤maxLen
 nd:y.2.1.length≤100000
 ng:y.2.2.length≤100000
theorem Zyx {l:List STP} {i:Nat} (hi:i<l.length) (h:SzS l[i]) (ha:l.length≤100000):ZKk l (i:Int)=some (Zwe (l.take i) l[i]):=by
 have nd:=h.nd;have ng:=h.ng;unfold ZKk Zwe;rw[Zn hi,Za,Zdn _ (by omega)];generalize l[i]=y at *;rw[Z8v _ h.nam,Za]
 cases hn:Z9b y.1 with
 | false=>rw[iP rfl];rfl
 | true =>
 simp only[Bool.not_true,Ze];rw[iN (by decide)];refine ZQ (y:=e8 (l.take i) y) ?_ ?_
 ·unfold e8;rw[Za,ZPs _ _ (by simp;omega),Za]
  cases y.1==endW with
  | true=>rfl
  | false =>
   cases y.1==scrS with
   | true=>rfl
   | false=>rfl
 cases e8 (l.take i) y with
 | true=>rw[Zf,iP rfl]
 | false =>
 rw[Ze,iN (by decide),or2,Za];by_cases h0:16<y.2.1.length∨8<y.2.2.length
 ·rw[dT (by omega),Zf,iP h0]
 rw[dFq (by omega),Ze,iN h0];refine ZQ (y:=if cf (dC y.2.1) 0 y.2.1.length≠0 then .inr (cf (dC y.2.1) 0 y.2.1.length) else .inl ()) (ZQ (Zki (dC y.2.1) y.2.1.length (by omega) (λi hi=>?_) ?_) (Zai _ trivial)) ?_
 ·have g:=Zfb (l:=y.2.1) (d:=[]) hi
  try simp only
  rw[dT (by omega),Zf,Zn hi,Za,ZQx _ (h.dos _ (List.getElem_mem hi)),Za];unfold dC;rw[g]
  cases doB y.2.1[i] with
  | false=>rfl
  | true =>
   simp only[Bool.not_true,Ze];rw[Zv (by omega) (by omega),Za];rfl
 ·try simp only
  rw[dFq (by omega),Ze]
 ·generalize cf (dC y.2.1) 0 y.2.1.length=b;by_cases hb:b≠0
  ·rw[iP hb,iP hb]
  rw[iN hb,iN hb];refine ZQ (y:=if cf (gC y.2.2) 0 y.2.2.length≠0 then .inr (cf (gC y.2.2) 0 y.2.2.length) else .inl ()) (ZQ (Zki (gC y.2.2) y.2.2.length (by omega) (λi hi=>?_) ?_) (Zai _ trivial)) ?_
  ·have g:=Zfb (l:=y.2.2) (d:=dG) hi
   try simp only
   rw[dT (by omega),Zf,Zn hi,Za,badG_r,Za];unfold gC;rw[g]
   cases Zcd y.2.2[i] with
   | true=>rfl
   | false=>rw[Ze,Zv (by omega) (by omega),Za];rfl
  ·try simp only
   rw[dFq (by omega),Ze]
  ·generalize cf (gC y.2.2) 0 y.2.2.length=b;by_cases hb:b≠0
   ·rw[iP hb]
   ·rw[iN hb,Decidable.not_not.1 hb]
abbrev gP (P:List STP) (i:Nat):STP:=P.getD i dS
abbrev gG (G:List GD) (k:Nat):GD:=G.getD k dG
def Zbf (P:List STP) (g:GD):Bool:=(g.2.2 != endW)&&((g.2.2 != scrS)&&decide (Zrd P g.2.2<0))
theorem Zmp {P:List STP} (g:GD):(ifb (g.2.2 != (([101,110,100]:List UInt8)))
 (ifb (g.2.2 != (([115,99,114,97,112]:List UInt8)))
 (bnd (some (Zrd P g.2.2)) λy214 =>
 some (decide (y214<(0:Int))))
 (some false))
 (some false))=some (Zbf P g):=by
 unfold Zbf;rw[Za]
 cases g.2.2 != endW with
 | false=>rfl
 | true =>
  cases g.2.2 != scrS with
  | false=>rfl
  | true=>rfl
def sC (P:List STP) (i:Nat):Int:=Zwe (P.take i) (gP P i)
def tC (P:List STP) (G:List GD) (k:Nat):Int:=if Zbf P (gG G k)=true then 5 else 0
def nC (P:List STP) (i:Nat):Int:=cf (tC P (gP P i).2.2) 0 (gP P i).2.2.length
def Z4a (P:List STP):Int:=if P.length<1∨24<P.length then 4 else if cf (sC P) 0 P.length≠0 then cf (sC P) 0 P.length else cf (nC P) 0 P.length
theorem Zbx {P:List STP} (h:∀ x ∈ P,SzS x) (hn:P.length≤100000):Zvj P=some (Z4a P):=by
 unfold Zvj Z4a;rw[or2,Za];by_cases h0:P.length<1∨24<P.length
 ·rw[dT (by omega),Zf,iP h0]
 rw[dFq (by omega),Ze,iN h0];refine ZQ (y:=if cf (sC P) 0 P.length≠0 then .inr (cf (sC P) 0 P.length) else .inl ()) (ZQ (Zki (sC P) P.length (by omega) (λi hi=>?_) ?_) (Zai _ trivial)) ?_
 ·have g:=Zfb (l:=P) (d:=dS) hi
  try simp only
  rw[dT (by omega),Zf,Zyx hi (h _ (List.getElem_mem hi)) (by omega),Za];unfold sC gP;rw[g];generalize Zwe (P.take i) P[i]=b;by_cases hb:b≠0
  ·rw[iP hb,show (b != 0)=true by simpa using hb,Zf]
  ·rw[iN hb,show (b != 0)=false by simpa using hb,Ze,Zv (by omega) (by omega),Za]
 ·try simp only
  rw[dFq (by omega),Ze]
 ·generalize cf (sC P) 0 P.length=b;by_cases hb:b≠0
  ·rw[iP hb,iP hb]
  rw[iN hb,iN hb];refine ZQ (y:=if cf (nC P) 0 P.length≠0 then .inr (cf (nC P) 0 P.length) else .inl ()) (ZQ (Zki (nC P) P.length (by omega) (λi hi=>?_) ?_) (Zai _ trivial)) ?_
  ·have g:=Zfb (l:=P) (d:=dS) hi;have ng:=(h _ (List.getElem_mem hi)).ng
   try simp only
   rw[dT (by omega),Zf,Zn hi];unfold nC gP;rw[g];generalize P[i]=y at *;simp only[Za];refine ZQ (y:=if cf (tC P y.2.2) 0 y.2.2.length≠0 then .inr (cf (tC P y.2.2) 0 y.2.2.length) else .inl ()) (ZQ (Zki (tC P y.2.2) y.2.2.length (by omega) (λk hk=>?_) ?_) (Zai _ trivial)) ?_
   ·have g2:=Zfb (l:=y.2.2) (d:=dG) hk
    try simp only
    rw[dT (by omega),Zf,Zn hk,Za,ZPs _ _ (by omega),Zmp,Za];unfold tC gG;rw[g2]
    cases Zbf P y.2.2[k] with
    | true=>rfl
    | false=>rw[Ze,Zv (by omega) (by omega),Za];rfl
   ·try simp only
    rw[dFq (by omega),Ze]
   ·generalize cf (tC P y.2.2) 0 y.2.2.length=b;by_cases hb:b≠0
    ·rw[iP hb,iP hb]
    ·rw[iN hb,iN hb];simp only;rw[Zv (by omega) (by omega),Za]
  ·try simp only
   rw[dFq (by omega),Ze]
  ·generalize cf (nC P) 0 P.length=b;by_cases hb:b≠0
   ·rw[iP hb]
   ·rw[iN hb,Decidable.not_not.1 hb]
theorem fnd2 {l:List STP} {s:BS} {body:Int→Option (Int ⊕ (Unit ⊕ Int))} (hl:l.length<2^62)
  (h1:∀ i,(hi:i<l.length)→body (i:Int)=if (l[i].1==s)=true then some (.inr (.inr (i:Int))) else some (.inl ((i:Int)+1))) (he:body (l.length:Int)=some (.inr (.inl ()))) :
  bnd (Zi body Zm (0:Int)) (λx=>match x with
   | .inl r6=>(some (-1:Int))
   | .inr r7=>(some r7))=some (Zrd l s):=by
 rw[Zft (l:=l) (λx=>x.1==s) (λi=>.inr (i:Int)) (.inl ()) hl h1 he];unfold Zrd
 cases l.findIdx? λx=>x.1==s <;> rfl
theorem Zuu (l:List STP) (s:BS) (hl:l.length≤100000):ZZj l s=some (Zrd l s):=by
 unfold ZZj;refine ZQ (fnd2 (by omega) (λi hi=>?_) ?_) rfl
 ·try simp only
  rw[dT (by omega),Zf,Zn hi,Za]
  cases l[i].1==s with
  | true=>rw[Zf,iP rfl]
  | false=>rw[Ze,Zv (by omega) (by omega),Za,iN (by decide)]
 ·try simp only
  rw[dFq (by omega),Ze]
theorem badG_q (g:GD) {α:Type} (f:Bool→Option α):(bnd (α:=Bool)
        (ifb (g.1==(0:Int))
         (some true)
         (ifb (g.1==(1:Int))
          (some true)
          (some (g.1==(4:Int))))) λx19 =>
        bnd (α:=Bool)
        (ifb (!x19)
         (ifb (g.1 != (2:Int))
          (ifb (g.1 != (3:Int))
           (some true)
           (ifb x19
            (bnd (ZMb g.2.1) λy20 =>
             some (decide (y20<(0:Int))))
            (some false)))
          (ifb x19
           (bnd (ZMb g.2.1) λy21 =>
            some (decide (y21<(0:Int))))
           (some false)))
         (ifb x19
          (bnd (ZMb g.2.1) λy22 =>
           some (decide (y22<(0:Int))))
          (some false))) f)=f (Zcd g):=by
  obtain⟨k,v,s⟩:=g;unfold Zcd;simp only;rw[sg];simp only[Za];rw[neg_d];by_cases h0:k=0
  · subst h0;rfl
  by_cases h1:k=1
  · subst h1;rfl
  by_cases h4:k=4
  · subst h4;rfl
  rw[show (k==(0:Int))=false by simpa using h0,show (k==(1:Int))=false by simpa using h1,show (k==(4:Int))=false by simpa using h4];simp only[Ze,Za,Bool.not_false,Zf];by_cases h2:k=2
  · subst h2;rfl
  by_cases h3:k=3
  · subst h3;rfl
  rw[show (k != (2:Int))=true by simpa using h2,show (k != (3:Int))=true by simpa using h3,Zf,Zf,Za,iN (by omega),iN (by omega)]
theorem out2 (b:Int):(match (if b≠0 then (.inr b:Unit ⊕ Int) else .inl ()) with | .inl _=>some (0:Int) | .inr r=>some r)=some b:=by
 by_cases h:b≠0
 ·rw[iP h]
 ·rw[iN h,Decidable.not_not.1 h]
theorem Zxu {y:STP} {ahead:List STP} (h:SzS y) (ha:ahead.length≤100000):Zsj y ahead=some (Zwe ahead y):=by
 have nd:=h.nd;have ng:=h.ng;unfold Zsj Zwe;rw[Zzw _ h.nam,Za]
 cases hn:Z9b y.1 with
 | false=>rw[iP rfl];rfl
 | true =>
 simp only[Bool.not_true,Ze];rw[iN (by decide)];refine ZQ (y:=e8 ahead y) ?_ ?_
 ·unfold e8
  cases y.1==endW with
  | true=>rfl
  | false =>
   cases y.1==scrS with
   | true=>rfl
   | false =>
    rw[Ze,Ze];refine ZQ (fnd2 (by omega) (λi hi=>?_) ?_) rfl
    ·try simp only
     rw[dT (by omega),Zf,Zn hi,Za]
     cases ahead[i].1==y.1 with
     | true=>rw[Zf,iP rfl]
     | false=>rw[Ze,Zv (by omega) (by omega),Za,iN (by decide)]
    ·try simp only
     rw[dFq (by omega),Ze]
 cases e8 ahead y with
 | true=>rw[Zf,iP rfl]
 | false =>
 rw[Ze,iN (by decide),or2,Za];by_cases h0:16<y.2.1.length∨8<y.2.2.length
 ·rw[dT (by omega),Zf,iP h0]
 rw[dFq (by omega),Ze,iN h0];refine ZQ (Z1h (λi=>(i:Int)) rfl (dC y.2.1) (λc=>.inr c) (.inl ()) y.2.1.length (by omega) (λi hi=>?_) ?_) ?_
 ·have g:=Zfb (l:=y.2.1) (d:=[]) hi
  try simp only
  rw[dT (by omega),Zf,Zn hi,Za,isDo_eq _ (h.dos _ (List.getElem_mem hi)),Za];unfold dC;rw[g]
  cases doB y.2.1[i] with
  | false=>rfl
  | true =>
   simp only[Bool.not_true,Ze];rw[Zv (by omega) (by omega),Za];rfl
 ·try simp only
  rw[dFq (by omega),Ze]
 generalize cf (dC y.2.1) 0 y.2.1.length=b;by_cases hb:b≠0
 ·rw[iP hb,iP hb]
 rw[iN hb,iN hb]
 try simp only
 refine ZQ (Z1h (λi=>(i:Int)) rfl (gC y.2.2) (λc=>.inr c) (.inl ()) y.2.2.length (by omega) (λi hi=>?_) ?_) (out2 _)
 ·have g:=Zfb (l:=y.2.2) (d:=dG) hi
  try simp only
  rw[dT (by omega),Zf,Zn hi,Za,badG_q];unfold gC;rw[g]
  cases Zcd y.2.2[i] with
  | true=>rfl
  | false=>rw[Ze,Zv (by omega) (by omega),Za];rfl
 ·try simp only
  rw[dFq (by omega),Ze]
theorem Zst {P:List STP} (h:∀ x ∈ P,SzS x) (hn:P.length≤100000):Zpg P=some (Z4a P):=by
 unfold Zpg Z4a;rw[or2,Za];by_cases h0:P.length<1∨24<P.length
 ·rw[dT (by omega),Zf,iP h0]
 rw[dFq (by omega),Ze,iN h0];refine ZQ (Z1h (λi=>(i:Int)) rfl (sC P) (λc=>.inr c) (.inl ()) P.length (by omega) (λi hi=>?_) ?_) ?_
 ·have g:=Zfb (l:=P) (d:=dS) hi
  try simp only
  rw[dT (by omega),Zf,Zn hi,Za,Zdn _ (by omega),Za,Zxu (h _ (List.getElem_mem hi)) (by simp;omega),Za];unfold sC gP;rw[g];generalize Zwe (P.take i) P[i]=b;by_cases hb:b≠0
  ·rw[iP hb,show (b != 0)=true by simpa using hb,Zf]
  ·rw[iN hb,show (b != 0)=false by simpa using hb,Ze,Zv (by omega) (by omega),Za];rfl
 ·try simp only
  rw[dFq (by omega),Ze]
 generalize cf (sC P) 0 P.length=b;by_cases hb:b≠0
 ·rw[iP hb,iP hb]
 rw[iN hb,iN hb]
 try simp only
 refine ZQ (Z1h (λi=>(i:Int)) rfl (nC P) (λc=>.inr c) (.inl ()) P.length (by omega) (λi hi=>?_) ?_) (out2 _)
 ·have g:=Zfb (l:=P) (d:=dS) hi;have ng:=(h _ (List.getElem_mem hi)).ng
  try simp only
  rw[dT (by omega),Zf,Zn hi,Za];unfold nC gP;rw[g];generalize P[i]=y at *;refine ZQ (Z1h (λi=>(i:Int)) rfl (tC P y.2.2) (λc=>.inr c) (.inl ()) y.2.2.length (by omega) (λk hk=>?_) ?_) ?_
  ·have g2:=Zfb (l:=y.2.2) (d:=dG) hk
   try simp only
   rw[dT (by omega),Zf,Zn hk,Za,Zuu _ _ (by omega),Zmp,Za];unfold tC gG;rw[g2]
   cases Zbf P y.2.2[k] with
   | true=>rfl
   | false=>rw[Ze,Zv (by omega) (by omega),Za];rfl
  ·try simp only
   rw[dFq (by omega),Ze]
  generalize cf (tC P y.2.2) 0 y.2.2.length=b;by_cases hb:b≠0
  ·rw[iP hb,iP hb]
  ·rw[iN hb,iN hb]
   try simp only
   rw[Zv (by omega) (by omega),Za];rfl
 ·try simp only
  rw[dFq (by omega),Ze]
noncomputable def ZKj (text:List UInt8):Option ((List ((List UInt8)×(List (List UInt8))×(List (Int×Rat×(List UInt8)))))×Int×Int) :=
 ifb (decide ((65536:Int)<(text.length:Int)))
 (some (([]:List ((List UInt8)×(List (List UInt8))×(List (Int×Rat×(List UInt8))))),(0:Int),(4:Int)))
 (bnd (Zod text ([10]:List UInt8)) λc =>
 bnd (Zhn ([]:List StepD) c) λa =>
 ifb (a.2.2 != (0:Int))
 (some (([]:List ((List UInt8)×(List (List UInt8))×(List (Int×Rat×(List UInt8))))),a.2.1,a.2.2))
 (bnd (Zpg a.1) λb =>
 ifb (b != (0:Int))
 (some (([]:List ((List UInt8)×(List (List UInt8))×(List (Int×Rat×(List UInt8))))),(0:Int),b))
 (some (a.1,(0:Int),(0:Int)))))
def Z1e (s:BS):Prop:=s=[]∨s.head? = some 35
instance (s:BS):Decidable (Z1e s):=inferInstanceAs (Decidable (_∨_))
def RL (p:List STP) (k:Nat):List BS→List STP ⊕ Nat
 | []=>.inl p
 | s :: r=>if Z1e s then RL p (k+1) r else if (rl p s).2=true then RL (rl p s).1 (k+1) r else .inr (k+1)
structure InvP (p:List STP) (k:Nat):Prop where
 len:p.length≤k
 at_:∀ y ∈ p,y.1.length≤4096∧(∀ d ∈ y.2.1,d.length≤4096)∧y.2.1.length≤k∧y.2.2.length≤k
theorem InvP.mono {p:List STP} {k m:Nat} (h:InvP p k) (hk:k≤m):InvP p m:=⟨by have:=h.len;omega,λy hy=>by obtain⟨a,b,c,d⟩:=h.at_ y hy;exact⟨a,b,by omega,by omega⟩⟩
theorem Zuq {l:List BS} {n i:Nat} (h:∀ x ∈ l,x.length≤n):(l.getD i []).length≤n:=by
 by_cases hi:i<l.length
 ·rw[Zfb hi];exact h _ (List.getElem_mem hi)
 ·rw[List.getD_eq_getElem?_getD,List.getElem?_eq_none (by omega)];simp
theorem Zfq {p:List STP} {k:Nat} {s:BS} (h:InvP p k) (hs:s.length≤4096):InvP (rl p s).1 (k+1):=by
 have h1:=h.mono (Nat.le_succ k);have hW:∀ x ∈ Zy 32 s,x.length≤4096:=λx hx=>Nat.le_trans (ZRm 32 s x hx) hs;have hl:∀ (q:List STP) (y y':STP),p=q++[y]→y'.1.length≤4096→(∀ d ∈ y'.2.1,d.length≤4096)→y'.2.1.length≤k+1→y'.2.2.length≤k+1→InvP (q++[y']) (k+1):=by
  intro q y y' e a b c d;subst e;refine⟨by have:=h.len;simp at this ⊢;omega,λx hx=>?_⟩;rcases List.mem_append.1 hx with hx | hx
  ·exact h1.at_ x (List.mem_append_left _ hx)
  ·rw[List.mem_singleton]at hx;subst hx;exact⟨a,b,c,d⟩
 unfold rl;rcases List.eq_nil_or_concat p with rfl | ⟨q,y,rfl⟩
 ·simp only[List.getLast?_nil];split
  ·exact h1
  ·split
   ·refine⟨by simp,λx hx=>?_⟩;simp at hx;subst hx;exact⟨Zuq hW,by simp,by simp,by simp⟩
   ·exact h1
 simp only[List.concat_eq_append] at *;simp only[List.getLast?_append,List.getLast?_singleton,Option.some_or,List.dropLast_concat];obtain⟨a,b,c,d⟩:=h.at_ y (by simp);split
 ·split
  ·refine hl q y _ rfl a (λx hx=>?_) (by simp;omega) (by simp only;omega);rcases List.mem_append.1 hx with hx | hx
   ·exact b x hx
   ·rw[List.mem_singleton]at hx;subst hx;simp;omega
  ·exact h1
 ·split
  ·refine⟨by have:=h.len;simp at this ⊢;omega,λx hx=>?_⟩;rcases List.mem_append.1 hx with hx | hx
   ·exact h1.at_ x hx
   ·rw[List.mem_singleton]at hx;subst hx;exact⟨Zuq hW,by simp,by simp,by simp⟩
  ·split
   ·split
    ·exact hl q y _ rfl a b (by simp only;omega) (by simp;omega)
    ·exact h1
   ·exact h1
theorem Zxl:∀ (ls:List BS) (p:List STP) (k:Nat) {p':List STP},InvP p k→(∀ s ∈ ls,s.length≤4096)→RL p k ls = .inl p'→InvP p' (k+ls.length)
 | [],p,k,p',h,_,e=>by cases e;exact h
 | s :: r,p,k,p',h,hs,e=>by
  unfold RL at e
  have hr:∀ x ∈ r,x.length≤4096:=λx hx=>hs x (List.mem_cons_of_mem _ hx)
  have hk:k+1+r.length=k+(s :: r).length:=by simp;omega
  split at e
  ·rw[← hk];exact Zxl r p (k+1) (h.mono (Nat.le_succ k)) hr e
  ·split at e
   ·rw[← hk];exact Zxl r _ (k+1) (Zfq h (hs s (by simp))) hr e
   ·cases e
theorem ZMn:∀ (ls:List BS) (k:Nat) (z:PSt),InvP (Zab z) k→k+ls.length≤10000→(∀ s ∈ ls,s.length≤4096) →
  ∃ z',ZNb ls k z=some (z',(match RL (Zab z) k ls with | .inl _=>0 | .inr n=>(n:Int)),(match RL (Zab z) k ls with | .inl _=>0 | .inr n=>2))∧∀ p,RL (Zab z) k ls = .inl p→Zab z'=p
 | [],k,z,h,_,_=>⟨z,rfl,λp e=>by cases e;rfl⟩
 | s :: r,k,z,h,hk,hs=>by
  have hr:∀ x ∈ r,x.length≤4096:=λx hx=>hs x (List.mem_cons_of_mem _ hx)
  have hk1:k+1+r.length≤10000:=by simp at hk;omega
  unfold ZNb RL
  by_cases h0:Z1e s
  ·rw[iP h0,iP (show s=[]∨s.head? = some 35 from h0)]
   exact ZMn r (k+1) z (h.mono (Nat.le_succ k)) hk1 hr
  ·rw[iN h0,iN (show ¬ (s=[]∨s.head? = some 35) from h0)]
   obtain⟨y,e1,e2⟩:=Zmw z s (hs s (by simp)) (by have:=h.len;omega) (λy hy=>by obtain⟨_,_,c,d⟩:=h.at_ y hy;exact⟨by omega,by omega⟩)
   rw[e1,Za]
   cases h2:(rl (Zab z) s).2 with
   | true =>
    rw[iP rfl,iP rfl]
    have:=ZMn r (k+1) y (by rw[e2];exact Zfq h (hs s (by simp))) hk1 hr
    rw[e2]at this
    exact this
   | false =>
    rw[iN (by decide),iN (by decide)]
    exact⟨y,rfl,λp e=>by cases e⟩
theorem SzS_of {p:List STP} {k:Nat} (h:InvP p k) (hk:k≤10000):∀ x ∈ p,SzS x:=λx hx=>by
 obtain⟨a,b,c,d⟩:=h.at_ x hx
 exact⟨by unfold maxLen;omega,λy hy=>by have:=b y hy;unfold maxLen;omega,by omega,by omega⟩
def PP (text:BS):List STP×Int×Int:=match RL [] 0 (Zy 10 text) with
 | .inr n=>([],(n:Int),2)
 | .inl p=>if Z4a p≠0 then ([],0,Z4a p) else (p,0,0)
noncomputable def ZAk (a:List ((List UInt8)×(List (List UInt8))×(List (Int×Rat×(List UInt8))))) (b:List ((List UInt8)×(List (List UInt8))×(List (Int×Rat×(List UInt8))))):Option Bool :=
 ifb ((a.length:Int) != (b.length:Int))
 (some false)
 (bnd (Zi (σ:=Int) (ρ:=Unit ⊕ Bool) (λe =>
 ifb (decide (e<(a.length:Int)))
 (bnd (idx a e) λc =>
 bnd (idx b e) λd =>
 bnd (α:=Bool)
 (ifb (c.1 != d.1)
 (some true)
 (ifb ((c.2.1.length:Int) != (d.2.1.length:Int))
 (some true)
 (some ((c.2.2.length:Int) != (d.2.2.length:Int))))) λj =>
 ifb j
 (some (.inr (.inr false)))
 (bnd (Zi (σ:=Int) (ρ:=Unit ⊕ Bool) (λf =>
 ifb (decide (f<(c.2.1.length:Int)))
 (bnd (idx c.2.1 f) λk =>
 bnd (idx d.2.1 f) λl =>
 ifb (k != l)
 (some (.inr (.inr false)))
 (bnd (chk .i64 (f+(1:Int))) λm =>
 some (.inl m)))
 (some (.inr (.inl ()))))
       Zm (0:Int)) λn =>
      match n with
| .inl x=>(bnd (Zi (σ:=Int) (ρ:=Unit ⊕ Bool) (λg =>
 ifb (decide (g<(c.2.2.length:Int)))
 (bnd (idx c.2.2 g) λh =>
 bnd (idx d.2.2 g) λi =>
 bnd (α:=Bool)
 (ifb (h.1 != i.1)
 (some true)
 (ifb (h.2.2 != i.2.2)
 (some true)
 (bnd (Zej h.2.1 i.2.1) λo =>
 some (!o)))) λp =>
 ifb p
 (some (.inr (.inr false)))
 (bnd (chk .i64 (g+(1:Int))) λq =>
 some (.inl q)))
 (some (.inr (.inl ()))))
        Zm (0:Int)) λr =>
       match r with
| .inl y=>(bnd (chk .i64 (e+(1:Int))) λs =>
 some (.inl s))
| .inr t=>(some (.inr (.inr t))))
| .inr u=>(some (.inr (.inr u)))))
 (some (.inr (.inl ()))))
   Zm (0:Int)) λv =>
  match v with
| .inl z=>(some true)
| .inr w=>(some w))
noncomputable def Zox (p:(Rat×Rat)) (t:Rat):Option (Bool) :=
 bnd (Ztf p.2 t) λa =>
 some (decide ((0:Int)≤a))
noncomputable def ZOy (l:(List (Rat×Rat))) (g:Rat):Option (Int) :=
 bnd (bnd (Zi (λs:Int=>match s with
| a =>
 (ifb (decide (a<(l.length:Int)))
 (bnd (idx l a) λb =>
 bnd (Zox ((b.1,b.2)) g) λc =>
 ifb (c)
 (some (.inr ((.inl a))))
 (bnd (chk .i64 (a+(1:Int))) λd =>
 some (.inl d)))
 (some (.inr ((.inr (()))))))) Zm (0:Int))
 (λ(p:(Int) ⊕ (Unit))=>match p with
| .inl e =>
 (some ((.inr e)))
| .inr (()) =>
 (some ((.inl (()))))))
 (λ(p:(Unit) ⊕ (Int))=>match p with
| .inl (()) =>
 (some (-1:Int))
| .inr f =>
 (some f))
noncomputable def ZHq (p:(Rat×Rat)) (q:(Rat×Rat)):Option (Rat) :=
 bnd (bnd (ZNe q.2 p.2) λa =>
 bnd (ZNe q.1 p.1) λb =>
 bnd (ZBf a b) λc =>
 some c.1)
 (λ(d:Rat) =>
 (some d))
noncomputable def Zjo (l:(List (Rat×Rat))) (t:Rat):Option (Rat×Int) :=
 bnd (ZOy l t) λa =>
 ifb (decide (a<(0:Int)))
 (some (((0:Rat),(5:Int))))
 (ifb (a==(0:Int))
 (bnd (idx l (0:Int)) λd =>
 some ((d.1,(0:Int))))
 (bnd (chk .i64 (a-(1:Int))) λe =>
 bnd (idx l e) λb =>
 bnd (bnd (ZNe t b.2) λf =>
 bnd (idx l a) λc =>
 bnd (ZHq ((b.1,b.2)) ((c.1,c.2))) λg =>
 bnd (ZBf f g) λh =>
 some h.1)
 (λ(i:Rat) =>
 (bnd (Z4d b.1 i) λj =>
 some ((j,(0:Int)))))))
noncomputable def Z4j (fv:Nat):Option (Nat) :=
 some ((Zpc .u64 ((fv:Int)) (9223372036854775808:Int)).toNat)
noncomputable def Zwk (x:Nat):Option (Nat×Int) :=
 bnd (Z4j x) λa =>
 ifb (fLt .f64 a ((4503599627370496:Nat)))
 (bnd (fMul .f64 x ((4841369599423283200:Nat))) λb =>
 some ((b,(-52:Int))))
 (some ((x,(0:Int))))
noncomputable def Z6f (fv:Nat) (sign:Int):Option (Bool) :=
 bnd (ifb (sign==(0:Int))
 (bnd (Z4j fv) λa =>
 some a)
 (bnd (ifb (decide (sign<(0:Int)))
 (bnd (fNeg .f64 fv) λb =>
 some b)
 (some fv))
 (λ(c:Nat) =>
 (some c))))
 (λ(d:Nat) =>
 (some (fGt .f64 d ((9218868437227405311:Nat)))))
noncomputable def ZSe (fv:Nat):Option (Bool) :=
 some (fNe .f64 fv fv)
noncomputable def ZEn (fv:Nat):Option (Nat×Int) :=
 ifb (fEq .f64 fv ((0:Nat)))
 (some ((fv,(0:Int))))
 (bnd (bnd (Z6f fv (0:Int)) λb =>
 ifb (b)
 (some true)
 (bnd (ZSe fv) λc =>
 some c))
 (λ(d:Bool) =>
 (ifb (d)
 (some ((fv,(0:Int))))
 (bnd (Zwk fv) λa =>
 bnd (ZW .u64 ((a.1:Int)) (52:Int)) λe =>
 bnd (chk .i64 ((IntKind.i64.wrap (ZEa .u64 e (2047:Int)))-(1023:Int))) λf =>
 bnd (chk .i64 (f+(1:Int))) λg =>
 bnd (chk .i64 (a.2+g)) λh =>
 some (((orI .u64 (Zpc .u64 ((a.1:Int)) (9218868437227405312:Int)) (4602678819172646912:Int)).toNat,h))))))
noncomputable def ZHl (fv:Nat):Option (Nat×Int) :=
 bnd (ZEn fv) λa =>
 some ((a.1,a.2))
noncomputable def ZVm (fv:Nat) (sign:Nat):Option (Nat) :=
 some ((orI .u64 (Zpc .u64 ((fv:Int)) (9223372036854775808:Int)) (ZEa .u64 ((sign:Int)) (9223372036854775808:Int))).toNat)
noncomputable def ZJi (sign:Int):Option (Nat) :=
 bnd (ifb (decide ((0:Int)≤sign))
 (some (9218868437227405312:Int))
 (some (18442240474082181120:Int)))
 (λ(a:Int) =>
 (some a.toNat))
noncomputable def Zsn (frac:Nat) (ex:Int):Option (Nat) :=
 ifb (fEq .f64 frac ((0:Nat)))
 (some frac)
 (bnd (bnd (Z6f frac (0:Int)) λc =>
 ifb (c)
 (some true)
 (bnd (ZSe frac) λd =>
 some d))
 (λ(e:Bool) =>
 (ifb (e)
 (some frac)
 (bnd (Zwk frac) λa =>
 bnd (chk .i64 (ex+a.2)) λf =>
 bnd (ZW .u64 ((a.1:Int)) (52:Int)) λg =>
 bnd (chk .i64 ((ZEa .i64 (IntKind.i64.wrap g) (2047:Int))-(1023:Int))) λh =>
 bnd (chk .i64 (f+h)) λb =>
 ifb (decide (b<(-1075:Int)))
 (bnd (ZVm ((0:Nat)) a.1) λi =>
 some i)
 (ifb (decide ((1023:Int)<b))
 (ifb (fLt .f64 a.1 ((0:Nat)))
 (bnd (ZJi (-1:Int)) λj =>
 some j)
 (bnd (ZJi (1:Int)) λk =>
 some k))
 (bnd (ifb (decide (b<(-1022:Int)))
 (bnd (chk .i64 (b+(53:Int))) λl =>
 some ((l,(4368491638549381120:Nat))))
 (some ((b,(4607182418800017408:Nat)))))
 (λ(p:Int×Nat)=>match p with
| (m,n) =>
 (bnd (chk .i64 (m+(1023:Int))) λo =>
 bnd (ZQa .u64 (IntKind.u64.wrap o) (52:Int)) λq =>
 bnd (fMul .f64 n ((orI .u64 (Zpc .u64 ((a.1:Int)) (9218868437227405312:Int)) q).toNat)) λr =>
 some r))))))))
noncomputable def ZNn (frac:Nat) (ex:Int):Option (Nat) :=
 bnd (Zsn frac ex) λa =>
 some a
noncomputable def Zje (fv:Nat):Option (Rat×Int) :=
 bnd (bnd (ZSe fv) λd =>
 ifb (d)
 (some true)
 (bnd (Z6f fv (0:Int)) λe =>
 some e))
 (λ(f:Bool) =>
 (ifb (f)
 (some (((0:Rat),(1:Int))))
 (bnd (ZHl fv) λc =>
 bnd (ZNn c.1 (53:Int)) λg =>
 bnd (Zri .f64 .i64 g) λh =>
 bnd (ofF h) λa =>
 bnd (chk .i64 (c.2-(53:Int))) λb =>
 ifb (decide ((0:Int)≤b))
 (bnd (ZKc a.natAbs b) λi =>
 bnd (ZOa (decide (a<0)) i) λj =>
 bnd (Zne j ((0:Nat))) λk =>
 some ((k,(0:Int))))
 (bnd (Zgb (1:Int)) λl =>
 bnd (ZKc l (IntKind.i64.wrap (-b))) λm =>
 bnd (ZQb a m) λn =>
 some ((n,(0:Int)))))))
section
variable {P:Program} {K:Nat} {w0:Base} {v0:Zb} {σ:List (Nat×Value)} {ℓ:List Loc} {v:Zb} {a:Act} {w:World} {ops:Array Oper} {Q:Exit→Act→World→Prop} {rest:List Oper}
def ZCf (r:Nat):Prop:=r<18446744073709551616∧9218868437227405312<r%9223372036854775808
theorem Zax {s t:TypeId} {k0:FloatKind} {b f:Nat} {g:Bool} (hs:P.underlying s=some (.float k0)) (ht:P.underlying t=some (.float .f64)) (h:FloatKind.f32.decode b = .nan g f) (w:World) :
  ∃ r,ZCf r∧(convert s t (.float .f32 b)).run P w = .ok (.float .f64 r) w.drew:=by
 refine⟨(Question.nanConv .f64 b).cut (w.tape w.drawn (Question.nanConv .f64 b)),?_,?_⟩
 ·generalize w.tape w.drawn (Question.nanConv .f64 b)=n;show ZCf ((n%2)*2^63+0x7ff0000000000000+1+(n / 2)%(2^52-1));have e1:(2:Nat)^63=9223372036854775808:=by decide
  have e2:(2:Nat)^52=4503599627370496:=by decide
  rw[e1,e2];unfold ZCf;have h1:=Nat.mod_lt (n / 2) (show 0<4503599627370496-1 by decide);have h2:=Nat.mod_lt n (show 0<2 by decide);generalize n / 2%(4503599627370496-1)=x at *;generalize n%2=y at *;rcases (show y=0∨y=1 by omega) with rfl | rfl
  ·refine⟨by omega,by omega⟩
  ·refine⟨by omega,by omega⟩
 ·simp[convert,run_underlying hs,run_underlying ht,Conv.floatToFloat,h,choose,Sem.run,Question.forced]
theorem Zmu {s t:TypeId} {k0:FloatKind} {b:Nat} {g:Bool} (hs:P.underlying s=some (.float k0)) (ht:P.underlying t=some (.float .f64)) (h:FloatKind.f32.decode b = .infinity g) (w:World) :
  (convert s t (.float .f32 b)).run P w = .ok (.float .f64 (FloatKind.f64.encode (.infinity g))) w:=by
 simp[convert,run_underlying hs,run_underlying ht,Conv.floatToFloat,h]
theorem Zbt (hS:St K w0 v0 σ ℓ v a w) {s t ty:TypeId} {d:Option Nat} {pos:String} {aft:Array Edge} {g:Option (Nat×Bool)} {x:Operand} {y z:Value} {w':World} (e:ev σ x=some y) (h:(convert s t y).run P w = .ok z w') :
  (execOp a.eval ⟨d,.convert s t x,ty,pos,aft,g⟩).run P w = .ok (.value z) w':=by
 simp[execOp,hS.eval e,h]
theorem ovd {o:Oper} {d:Nat} {x:Value} (hS:St K w0 v0 σ ℓ v a w) (hc:(o.dst,o.guard,Nat.ble (d+1) K)=(some d,none,true)) (hrun:(execOp a.eval o).run P w = .ok (.value x) w.drew)
  (h:∀ a,St K w0 v0 ((d,x) :: σ) ℓ v a w.drew→wpList P ops Q rest a w.drew):wpList P ops Q (o :: rest) a w :=
 ZQc (ZRa (Prod.mk.inj (Prod.mk.inj hc).2).1) (ZYe hrun (by
  rw[(Prod.mk.inj hc).1]
  exact h _ (hS.drew.put x (lB (Prod.mk.inj (Prod.mk.inj hc).2).2))))
end
abbrev canon64:Nat:=9221120237041090560
def Ztj (b:Nat):Option Nat:=match FloatKind.f32.decode b with
 | .number _ _ _=>ZEh .f32 .f64 b
 | _=>some canon64
def as64 (y r:Nat):Prop:=r=y∨(y=canon64∧(ZCf r ∨ ∃ g,r=FloatKind.f64.encode (.infinity g)))
section
variable {P:Program} {K:Nat} {w0:Base} {v0:Zb} {σ:List (Nat×Value)} {ℓ:List Loc} {v:Zb} {a:Act} {w:World} {ops:Array Oper} {Q:Exit→Act→World→Prop} {rest:List Oper}
theorem convN {s t:TypeId} {k0:FloatKind} {b y:Nat} (hs:P.underlying s=some (.float k0)) (ht:P.underlying t=some (.float .f64)) (h:Ztj b=some y) (w:World) :
  ∃ r,as64 y r∧r<18446744073709551616∧((convert s t (.float .f32 b)).run P w = .ok (.float .f64 r) w∨(convert s t (.float .f32 b)).run P w = .ok (.float .f64 r) w.drew):=by
 unfold Ztj at h
 cases hd:FloatKind.f32.decode b with
 | number sg m e =>
  rw[hd]at h;exact⟨y,.inl rfl,Ztx h,.inl (conv_ff hs ht h w)⟩
 | infinity g =>
  rw[hd]at h;refine⟨_,.inr ⟨(Option.some.inj h).symm,.inr ⟨g,rfl⟩⟩,?_,.inl (Zmu hs ht hd w)⟩
  cases g <;> decide
 | nan g f =>
  rw[hd]at h;obtain⟨r,h1,h2⟩:=Zax hs ht hd w;exact⟨r,.inr ⟨(Option.some.inj h).symm,.inl h1⟩,h1.1,.inr h2⟩
theorem ovn {s t ty:TypeId} {k0:FloatKind} {d:Nat} {pos:String} {aft:Array Edge} {x:Operand} {b y:Nat} (hS:St K w0 v0 σ ℓ v a w) (hc:(ev σ x,Nat.ble (d+1) K)=(some (.float .f32 b),true))
  (hs:P.underlying s=some (.float k0)) (ht:P.underlying t=some (.float .f64)) (hy:Ztj b=some y)
  (h:∀ r,as64 y r→r<18446744073709551616→∀ a w',St K w0 v0 ((d,.float .f64 r) :: σ) ℓ v a w'→wpList P ops Q rest a w'):wpList P ops Q (⟨some d,.convert s t x,ty,pos,aft,none⟩ :: rest) a w:=by
 have e:=(Prod.mk.inj hc).1;have k:=(Prod.mk.inj hc).2;obtain⟨r,h1,h2,hrun⟩:=convN hs ht hy w;rcases hrun with hr | hr
 ·exact ov hS (by rw[k]) (Zbt hS e hr) λa hS=>h r h1 h2 a _ hS
 ·exact ovd hS (by rw[k]) (Zbt hS e hr) λa hS=>h r h1 h2 a _ hS
end
noncomputable def Zdi (fv:Nat):Option (Rat×Int) :=
 bnd (Ztj fv) λb =>
 bnd (Zje b) λa =>
 some ((a.1,a.2))
noncomputable def Z2n (l:(List (Nat×Nat))):Option ((List (Rat×Rat))×Int) :=
 bnd (ifb (decide ((l.length:Int)<(2:Int)))
 (some true)
 (some (decide ((1000:Int)<(l.length:Int)))))
 (λ(h:Bool) =>
 (ifb (h)
 (some ((([]:(List (Rat×Rat))),(4:Int))))
 (bnd (bnd (Zi (λs:(List (Rat×Rat))×Int×Int=>match s with
| (c,a,e) =>
 (ifb (decide (a<(l.length:Int)))
 (bnd (idx l a) λf =>
 bnd (Zdi f.1) λb =>
 bnd (Zdi f.2) λd =>
 bnd (ifb (b.2 != (0:Int))
 (some true)
 (ifb (d.2 != (0:Int))
 (some true)
 (bnd (ZMb b.1) λi =>
 some (decide (i<(0:Int))))))
 (λ(j:Bool) =>
 (ifb (j)
 (some (.inr ((.inl ((([]:(List (Rat×Rat))),(1:Int)))))))
 (bnd (ifb (decide ((0:Int)<a))
 (bnd (chk .i64 (a-(1:Int))) λk =>
 bnd (idx c k) λm =>
 bnd (Ztf b.1 m.1) λn =>
 some (decide (n≤(0:Int))))
 (some false))
 (λ(o:Bool) =>
 (ifb (o)
 (some (.inr ((.inl ((([]:(List (Rat×Rat))),(7:Int)))))))
 (bnd (ZT 112 (c++[(b.1,d.1)])) λD =>
 bnd (idx ((c++[(b.1,d.1)])) e) λq =>
 bnd (Ztf d.1 q.2) λr =>
 bnd (ifb (decide (r<(0:Int)))
 (some a)
 (some e))
 (λ(t:Int) =>
 (bnd (chk .i64 (a+(1:Int))) λu =>
 some (.inl (((c++[(b.1,d.1)]),u,t))))))))))))
 (some (.inr ((.inr ((c,e)))))))) Zm ((([]:(List (Rat×Rat))),(0:Int),(0:Int))))
 (λ(p:((List (Rat×Rat))×Int) ⊕ ((List (Rat×Rat))×Int))=>match p with
| .inl ((v,w)) =>
 (some ((.inr ((v,w)))))
| .inr ((x,y)) =>
 (some ((.inl ((x,y)))))))
 (λ(p:((List (Rat×Rat))×Int) ⊕ ((List (Rat×Rat))×Int))=>match p with
| .inl ((g,z)) =>
 (bnd (ZI g z ((g.length:Int))) λA =>
 some ((A,(0:Int))))
| .inr ((B,C)) =>
 (some ((B,C)))))))
noncomputable def ZTn (l:(List (Nat×Nat))) (t:Rat):Option (Rat×Int) :=
 bnd (Z2n l) λa =>
 ifb (a.2 != (0:Int))
 (some (((0:Rat),a.2)))
 (bnd (Zjo a.1 t) λb =>
 some ((b.1,b.2)))
noncomputable def Z7o (r:(Rat×(List (Rat×Rat)))):Option (Int) :=
 ifb (decide ((10:Int)<(r.2.length:Int)))
 (some (4:Int))
 (bnd (ZMb r.1) λc =>
 ifb (decide (c<(0:Int)))
 (some (1:Int))
 (bnd (bnd (Zi (λs:Int=>match s with
| a =>
 (ifb (decide (a<(r.2.length:Int)))
 (bnd (idx r.2 a) λb =>
 bnd (bnd (ZMb b.1) λd =>
 ifb (decide (d<(0:Int)))
 (some true)
 (bnd (ZMb b.2) λe =>
 some (decide (e≤(0:Int)))))
 (λ(f:Bool) =>
 (ifb (f)
 (some (.inr ((.inl (1:Int)))))
 (bnd (ifb (decide ((0:Int)<a))
 (bnd (chk .i64 (a-(1:Int))) λg =>
 bnd (idx r.2 g) λh =>
 bnd (Ztf b.2 h.2) λi =>
 some (decide (i≤(0:Int))))
 (some false))
 (λ(j:Bool) =>
 (ifb (j)
 (some (.inr ((.inl (7:Int)))))
 (bnd (chk .i64 (a+(1:Int))) λk =>
 some (.inl k))))))))
 (some (.inr ((.inr (()))))))) Zm (0:Int))
 (λ(p:(Int) ⊕ (Unit))=>match p with
| .inl l =>
 (some ((.inr l)))
| .inr (()) =>
 (some ((.inl (()))))))
 (λ(p:(Unit) ⊕ (Int))=>match p with
| .inl (()) =>
 (some (0:Int))
| .inr m =>
 (some m))))
noncomputable def ZPn (t:Rat) (fw:Rat):Option (Rat×Rat) :=
 bnd (ZMf fw t) λa =>
 bnd (ZMf a a) λb =>
 bnd (bnd (Zsd (1:Int)) λd =>
 bnd (Z4d b d) λe =>
 some e)
 (λ(c:Rat) =>
 (bnd (ZBf b c) λf =>
 bnd (ZBf a c) λg =>
 some ((f.1,g.1))))
noncomputable def Zcs (r:(Rat×(List (Rat×Rat)))) (fw:Rat):Option (Rat×Rat) :=
 bnd (bnd (Zi (λs:Rat×Rat×Int=>match s with
| (c,d,a) =>
 (ifb (decide (a<(r.2.length:Int)))
 (bnd (idx r.2 a) λb =>
 bnd (ZPn b.2 fw) λe =>
 bnd (ZMf e.1 b.1) λf =>
 bnd (Z4d c f) λg =>
 bnd (ZMf e.2 b.1) λh =>
 bnd (Z4d d h) λi =>
 bnd (chk .i64 (a+(1:Int))) λj =>
 some (.inl ((g,i,j))))
 (some (.inr ((c,d)))))) Zm ((r.1,(0:Rat),(0:Int))))
 (λ(p:Rat×Rat)=>match p with
| (k,l) =>
 (some ((k,l)))))
 (λ(p:Rat×Rat)=>match p with
| (m,n) =>
 (some ((m,n))))
noncomputable def Zoo (r:(Rat×(List (Rat×Rat)))) (fw:Rat):Option (Rat×Rat×Int) :=
 bnd (Z7o ((r.1,r.2))) λa =>
 ifb (a != (0:Int))
 (some (((0:Rat),(0:Rat),a)))
 (bnd (ZMb fw) λc =>
 ifb (decide (c<(0:Int)))
 (some (((0:Rat),(0:Rat),(1:Int))))
 (bnd (Zcs ((r.1,r.2)) fw) λb =>
 some ((b.1,b.2,(0:Int)))))
noncomputable def Zag  : Option (Bool) :=
 bnd (Zsd (1:Int)) λc =>
 bnd (Zsd (2:Int)) λd =>
 bnd (Zsd (1:Int)) λe =>
 bnd (Zsd (1:Int)) λf =>
 bnd (Zoo ((c,[(d,e)])) f) λa =>
 bnd (Zsd (4:Int)) λg =>
 bnd (ZTn ([((0:Nat),(1084227584:Nat)),((1092616192:Nat),(1073741824:Nat)),((1101004800:Nat),(1073741824:Nat)),((1106247680:Nat),(1092616192:Nat))]) g) λb =>
 bnd (ifb (a.2.2==(0:Int))
 (ifb (b.2==(0:Int))
 (bnd (Zbc a.1) λh =>
 ifb (h==(([50]:List UInt8)))
 (bnd (Zbc a.2.1) λi =>
 ifb (i==(([49]:List UInt8)))
 (bnd (Zbc b.1) λj =>
 some (j==(([52,53,47,50]:List UInt8))))
 (some false))
 (some false))
 (some false))
 (some false))
 (λ(k:Bool) =>
 (some k))
set_option maxRecDepth 100000 in
theorem ZBn:Zag=some true:=by
 unfold Zag;rw[Zsx];decide +kernel
def QS (p:List STP):Prop:=∀ y ∈ p,∀ g ∈ y.2.2,sz 40000 g.2.1
theorem ZBx (P:List STP) (hn:P.length≤10000) (h:∀ y ∈ P,y.2.1.length≤10000∧y.2.2.length≤10000) (hq:QS P):ZAk P P=some true:=by
 unfold ZAk;rw[show ((P.length:Int) != (P.length:Int))=false by simp,Ze];refine ZQ (ZNd (r:=.inl ()) (λk=>(k:Int)) P.length rfl (by omega) (λk hk=>?_) ?_) rfl
 ·try simp only
  have hb:=h _ (List.getElem_mem hk);have hg:=hq _ (List.getElem_mem hk);rw[dT (by omega),Zf,Zn hk,Za,Za];generalize P[k]=y at *;rw[show (y.1 != y.1)=false by simp,Ze,show ((y.2.1.length:Int) != (y.2.1.length:Int))=false by simp,Ze,show ((y.2.2.length:Int) != (y.2.2.length:Int))=false by simp,Za,Ze];refine ZQ (ZNd (r:=.inl ()) (λk=>(k:Int)) y.2.1.length rfl (by omega) (λj hj=>?_) ?_) ?_
  ·try simp only
   rw[dT (by omega),Zf,Zn hj,Za,Za,show (y.2.1[j] != y.2.1[j])=false by simp,Ze,Zv (by omega) (by omega),Za];rfl
  ·try simp only
   rw[dFq (by omega),Ze]
  try simp only
  refine ZQ (ZNd (r:=.inl ()) (λk=>(k:Int)) y.2.2.length rfl (by omega) (λj hj=>?_) ?_) ?_
  ·try simp only
   have hs:=hg _ (List.getElem_mem hj);rw[dT (by omega),Zf,Zn hj,Za,Za,is1_ok hs (by omega),Za,show (y.2.2[j].1 != y.2.2[j].1)=false by simp,Ze,show (y.2.2[j].2.2 != y.2.2[j].2.2)=false by simp,Ze,Za,Bool.not_true,Ze,Zv (by omega) (by omega),Za];rfl
  ·try simp only
   rw[dFq (by omega),Ze]
  try simp only
  rw[Zv (by omega) (by omega),Za];rfl
 ·try simp only
  rw[dFq (by omega),Ze]
theorem isD_ofD {c:UInt8} (h:48≤c.toNat∧c.toNat≤57):isD c=true:=by
 unfold isD;rw[dT (by omega),dT (by omega)];rfl
theorem ZKt:∀ (a t:List UInt8),Zvc a→(∀ c u,t=c :: u→isD c=false)→ZJ (a++t)=a.length
 | [],[],_,_=>rfl
 | [],c :: u,_,h=>Zok (h c u rfl)
 | x :: a,t,ha,h=>by
  rw[List.cons_append,Zlj (isD_ofD (ha x (by simp))),ZKt a t (λc hc=>ha c (List.mem_cons_of_mem _ hc)) h];rfl
theorem Zzm (n:Nat) (t:List UInt8) (ht:∀ c u,t=c :: u→isD c=false):okS (ZU n++t) true=true∧ZJ (ZU n++t)=(ZU n).length:=by
 obtain⟨a,b,c,d⟩:=Z5g n;have hr:=ZKt (ZU n) t a ht;refine⟨?_,hr⟩;unfold okS;rw[hr,dT c];have hg:(ZU n++t).getD 0 0=(ZU n).getD 0 0:=by
  rw[List.getD_eq_getElem?_getD,List.getD_eq_getElem?_getD,List.getElem?_append_left c]
 rw[hg];rcases d with d | d
 ·rw[dT d];rfl
 ·rw[dT d];simp
theorem prs_txt (x:Rat):prs (ZLa x)=(x,0):=by
 obtain⟨a1,a2,a3,a4⟩:=Z5g x.num.natAbs;obtain⟨b1,b2,b3,b4⟩:=Z5g x.den;have hsg:sgn (decide (x.num<0)) x.num.natAbs=x.num:=by
  unfold sgn;by_cases h:x.num<0
  ·rw[dT h];simp;omega
  ·rw[dFq h];simp;omega
 have hbody:prs0 (decide (x.num<0)) (ZU x.num.natAbs++(if x.den=1 then [] else 47 :: ZU x.den))=(x,0):=by
  unfold prs0;by_cases h1:x.den=1
  ·rw[iP h1];obtain⟨c1,c2⟩:=Zzm x.num.natAbs [] (λc u h=>by cases h);rw[c1,iN (by decide),c2,List.append_nil,List.drop_length,List.take_length];show (num _ _ 1,(0:Int))=_;unfold num;rw[a2,hsg,← h1,Rat.mkRat_self]
  ·rw[iN h1];obtain⟨c1,c2⟩:=Zzm x.num.natAbs (47 :: ZU x.den) (λc u h=>by cases h;decide);rw[c1,iN (by decide),c2,List.drop_left,List.take_left];obtain⟨d1,d2⟩:=Zzm x.den [] (λc u h=>by cases h);rw[List.append_nil]at d1 d2;simp only;rw[iP trivial,iP ⟨d1,d2⟩,b2,iN x.den_nz];unfold num;rw[a2,hsg,Rat.mkRat_self]
 have hh:Ztd (ZU x.num.natAbs++(if x.den=1 then [] else 47 :: ZU x.den))=false:=by
  cases hd:ZU x.num.natAbs with
  | nil=>rw[hd]at a3;simp at a3
  | cons c l =>
   rw[hd]at a1;have:=a1 c (by simp);show (c==45)=false;refine beq_false_of_ne λe=>?_;rw[e]at this;exact absurd this.1 (by decide)
 unfold prs ZLa;rw[aAq];by_cases h:x.num<0
 ·rw[iP h,show Ztd ([45]++(ZU x.num.natAbs++if x.den=1 then [] else 47 :: ZU x.den))=true from rfl,iP rfl];rw[dT h]at hbody;exact hbody
 ·rw[iN h,List.nil_append,hh,iN (by decide)];rw[dFq h]at hbody;exact hbody
theorem Znp (x:Rat):∀ c ∈ ZLa x,c=45∨c=47∨(48≤c.toNat∧c.toNat≤57):=by
 intro c hc;unfold ZLa at hc;rcases List.mem_append.1 hc with hc | hc
 ·rcases List.mem_append.1 hc with hc | hc
  ·split at hc
   ·exact .inl (List.mem_singleton.1 hc)
   ·cases hc
  ·exact .inr (.inr ((Z5g x.num.natAbs).1 c hc))
 ·split at hc
  ·cases hc
  ·rcases List.mem_cons.1 hc with hc | hc
   ·exact .inr (.inl hc)
   ·exact .inr (.inr ((Z5g x.den).1 c hc))
theorem Zzp (x:Rat):(32:UInt8) ∉ ZLa x∧(10:UInt8) ∉ ZLa x:=by
 constructor
 ·intro h;rcases Znp x _ h with h | h | h
  ·exact absurd h (by decide)
  ·exact absurd h (by decide)
  ·exact absurd h.1 (by decide)
 ·intro h;rcases Znp x _ h with h | h | h
  ·exact absurd h (by decide)
  ·exact absurd h (by decide)
  ·exact absurd h.1 (by decide)
theorem Zqf (c:UInt8):∀ (a r:BS),c ∉ a→Zy c (a++c :: r)=a :: Zy c r
 | [],r,_=>by rw[List.nil_append,Zy,iP rfl]
 | x :: a,r,h=>by
  have hx:x≠c:=λe=>h (by simp[e])
  rw[List.cons_append,Zy,iN hx,Zqf c a r (λk=>h (List.mem_cons_of_mem _ k))]
theorem ZYm (c:UInt8):∀ (a:BS),c ∉ a→Zy c a=[a]
 | [],_=>rfl
 | x :: a,h=>by
  have hx:x≠c:=λe=>h (by simp[e])
  rw[Zy,iN hx,ZYm c a (λk=>h (List.mem_cons_of_mem _ k))]
theorem Zzo:∀ (ls:List BS),(∀ x ∈ ls,(10:UInt8) ∉ x)→Zy 10 (ls.flatMap (· ++ [10]))=ls++[[]]
 | [],_=>rfl
 | x :: r,h=>by
  rw[List.flatMap_cons,aAq,List.singleton_append,Zqf 10 x _ (h x (by simp)),Zzo r (λy hy=>h y (List.mem_cons_of_mem _ hy))];rfl
abbrev doS:BS:=[100,111]
def Zbb (n:BS):BS:=stepW++32 :: n
def doL (d:BS):BS:=doS++32 :: d
def kW (k:Int):BS:=qn.getD k.toNat []
def Zia (g:GD):BS:=whenW++32 :: (kW g.1++32 :: (ZLa g.2.1++32 :: (goW++32 :: g.2.2)))
def Zic (s:STP):List BS:=Zbb s.1 :: (s.2.1.map doL++s.2.2.map Zia)
def ZRb (p:List STP):List BS:=p.flatMap Zic
def ZP (ls:List BS):BS:=ls.flatMap (· ++ [10])
def ZZa (p:List STP):BS:=ZP (ZRb p)
structure StOK (s:STP):Prop where
 nm:s.1≠[]∧(32:UInt8) ∉ s.1∧(10:UInt8) ∉ s.1∧s.1.length≤24
 dos:∀ d ∈ s.2.1,d≠[]∧(10:UInt8) ∉ d∧d.length≤60
 gus:∀ g ∈ s.2.2,0≤g.1∧g.1<5∧g.2.2≠[]∧(32:UInt8) ∉ g.2.2∧(10:UInt8) ∉ g.2.2∧g.2.2.length≤24
 ld:s.2.1.length≤16
 lg:s.2.2.length≤8
theorem Zzh:∀ (a b:List BS) (p:List STP) (k:Nat) {p':List STP},RL p k a = .inl p'→RL p k (a++b)=RL p' (k+a.length) b
 | [],b,p,k,p',h=>by cases h;rfl
 | s :: a,b,p,k,p',h=>by
  unfold RL at h
  rw[List.cons_append,RL,show k+(s :: a).length=k+1+a.length by simp;omega]
  split at h
  ·rename_i hs;rw[iP hs];exact Zzh a b p (k+1) h
  ·rename_i hs;rw[iN hs]
   split at h
   ·rename_i h2;rw[iP h2];exact Zzh a b _ (k+1) h
   ·cases h
theorem rl_step {p:List STP} {n:BS} (h0:n≠[]) (h:(32:UInt8) ∉ n):rl p (Zbb n)=(p++[(n,[],[])],true):=by
 have e:Zy 32 (Zbb n)=[stepW,n]:=by
  unfold Zbb;rw[Zqf 32 stepW n (by decide),ZYm 32 n h]
 unfold rl;rw[show ZAb (Zbb n)=false from by unfold ZAb Zbb;simp[doW],iN (by decide),e,iP ⟨rfl,rfl,h0⟩];rfl
theorem rl_do {q:List STP} {n:BS} {ds:List BS} {d:BS} (h0:d≠[]):rl (q++[(n,ds,[])]) (doL d)=(q++[(n,ds++[d],[])],true):=by
 have hd:ZAb (doL d)=true:=by
  unfold ZAb doL
  cases d with
  | nil=>exact absurd rfl h0
  | cons x r=>simp[doW]
 unfold rl;rw[iP hd,List.getLast?_append];simp only[List.getLast?_singleton,Option.some_or,List.dropLast_concat];rfl
theorem Zym {k:Int} (h0:0≤k) (h5:k<5):qn.findIdx? (λx=>x==kW k)=some k.toNat∧(32:UInt8) ∉ kW k∧(10:UInt8) ∉ kW k∧(kW k).length≤6:=by
 obtain⟨n,rfl⟩:∃ n:Nat,k=n:=⟨k.toNat,by omega⟩;have:n=0∨n=1∨n=2∨n=3∨n=4:=by omega
 rcases this with rfl | rfl | rfl | rfl | rfl <;> decide
theorem rl_when {q:List STP} {n:BS} {ds:List BS} {gs:List GD} {g:GD} (h0:0≤g.1) (h5:g.1<5) (hg:g.2.2≠[]) (h32:(32:UInt8) ∉ g.2.2) :
  rl (q++[(n,ds,gs)]) (Zia g)=(q++[(n,ds,gs++[g])],true):=by
 obtain⟨k1,k2,_,_⟩:=Zym h0 h5;have e:Zy 32 (Zia g)=[whenW,kW g.1,ZLa g.2.1,goW,g.2.2]:=by
  unfold Zia;rw[Zqf 32 whenW _ (by decide),Zqf 32 _ _ k2,Zqf 32 _ _ (Zzp g.2.1).1,Zqf 32 goW _ (by decide),ZYm 32 _ h32]
 unfold rl;rw[show ZAb (Zia g)=false from by unfold ZAb Zia;simp[doW],iN (by decide),e,iN (λh=>absurd h.1 (by decide:¬ (5=2))),List.getLast?_append];simp only[List.getLast?_singleton,Option.some_or,List.dropLast_concat];have hp:=prs_txt g.2.1;rw[iP ⟨rfl,rfl,rfl,hg,by show (prs (ZLa g.2.1)).2=0;rw[hp]⟩];show (match qn.findIdx? (λx=>x==kW g.1) with | some k=>(q++[(n,ds,gs++[((k:Int),(prs (ZLa g.2.1)).1,g.2.2)])],true) | none=>_)=_;rw[k1,hp];simp only;rw[Int.toNat_of_nonneg h0]
theorem ZPk {c:UInt8} {s:BS} (h:c≠35):¬ Z1e (c :: s):=by
 rintro (h' | h')
 ·cases h'
 ·simp at h';exact h h'
theorem skip_st (n:BS):¬ Z1e (Zbb n):=by unfold Zbb;exact ZPk (c:=115) (by decide)
theorem skip_do (n:BS):¬ Z1e (doL n):=by unfold doL;exact ZPk (c:=100) (by decide)
theorem skip_wh (g:GD):¬ Z1e (Zia g):=by unfold Zia;exact ZPk (c:=119) (by decide)
theorem Zck {a b:BS} (h:(10:UInt8) ∉ a) (k:(10:UInt8) ∉ b):(10:UInt8) ∉ a++32 :: b:=by
 intro hm;rcases List.mem_append.1 hm with hm | hm
 ·exact h hm
 ·rcases List.mem_cons.1 hm with e | hm
  ·exact absurd e (by decide)
  ·exact k hm
theorem Zno (q:List STP) (n:BS):∀ (l ds:List BS) (k:Nat),(∀ d ∈ l,d≠[])→RL (q++[(n,ds,[])]) k (l.map doL) = .inl (q++[(n,ds++l,[])])
 | [],ds,k,_=>by simp[RL]
 | d :: l,ds,k,h=>by
  rw[List.map_cons,RL,iN (skip_do d),rl_do (h d (by simp)),iP rfl,Zno q n l (ds++[d]) (k+1) (λx hx=>h x (List.mem_cons_of_mem _ hx))]
  simp
theorem Z8o (q:List STP) (n:BS) (ds:List BS):∀ (l gs:List GD) (k:Nat),(∀ g ∈ l,0≤g.1∧g.1<5∧g.2.2≠[]∧(32:UInt8) ∉ g.2.2)→RL (q++[(n,ds,gs)]) k (l.map Zia) = .inl (q++[(n,ds,gs++l)])
 | [],gs,k,_=>by simp[RL]
 | g :: l,gs,k,h=>by
  obtain⟨a,b,c,d⟩:=h g (by simp)
  rw[List.map_cons,RL,iN (skip_wh g),rl_when a b c d,iP rfl,Z8o q n ds l (gs++[g]) (k+1) (λx hx=>h x (List.mem_cons_of_mem _ hx))]
  simp
theorem RL_st (q:List STP) (s:STP) (k:Nat) (h:StOK s):RL q k (Zic s) = .inl (q++[s]):=by
 unfold Zic;rw[RL,iN (skip_st s.1),rl_step h.nm.1 h.nm.2.1,iP rfl];show RL (q++[(s.1,[],[])]) (k+1) (s.2.1.map doL++s.2.2.map Zia)=_;rw[Zzh _ _ _ _ (Zno q s.1 s.2.1 [] (k+1) λd hd=>(h.dos d hd).1)];rw[Z8o q s.1 ([]++s.2.1) s.2.2 [] _ λg hg=>⟨(h.gus g hg).1,(h.gus g hg).2.1,(h.gus g hg).2.2.1,(h.gus g hg).2.2.2.1⟩];rfl
theorem Zwt:∀ (p q:List STP) (k:Nat),(∀ s ∈ p,StOK s)→RL q k (ZRb p) = .inl (q++p)
 | [],q,k,_=>by simp[ZRb,RL]
 | s :: p,q,k,h=>by
  show RL q k (Zic s++ZRb p)=_
  rw[Zzh _ _ _ _ (RL_st q s k (h s (by simp))),Zwt p (q++[s]) _ (λx hx=>h x (List.mem_cons_of_mem _ hx))]
  simp
theorem ten_no {s:STP} (h:StOK s):∀ x ∈ Zic s,(10:UInt8) ∉ x:=by
 intro x hx;unfold Zic at hx;rcases List.mem_cons.1 hx with rfl | hx
 ·unfold Zbb;simp only[List.mem_append,List.mem_cons,not_or];exact⟨by decide,by decide,h.nm.2.2.1⟩
 rcases List.mem_append.1 hx with hx | hx
 ·obtain⟨d,hd,rfl⟩:=List.mem_map.1 hx;unfold doL;simp only[List.mem_append,List.mem_cons,not_or];exact⟨by decide,by decide,(h.dos d hd).2.1⟩
 ·obtain⟨g,hg,rfl⟩:=List.mem_map.1 hx;obtain⟨a,b,c,d,e,f⟩:=h.gus g hg;unfold Zia;exact Zck (by decide) (Zck (Zym a b).2.2.1 (Zck (Zzp g.2.1).2 (Zck (by decide) e)))
theorem Zor {p:List STP} (h:∀ s ∈ p,StOK s):Zy 10 (ZZa p)=ZRb p++[[]] :=
 Zzo (ZRb p) λx hx=>by
  obtain⟨s,hs,hx⟩:=List.mem_flatMap.1 hx
  exact ten_no (h s hs) x hx
theorem PP_txt {p:List STP} (h:∀ s ∈ p,StOK s) (hc:Z4a p=0):PP (ZZa p)=(p,0,0):=by
 unfold PP;rw[Zor h,Zzh _ _ _ _ (Zwt p [] 0 h),List.nil_append];rw[RL,iP (show Z1e [] from Or.inl rfl),RL];simp only;rw[hc,iN (by decide)]
theorem Zat {y:Int} (h:Zxb y=false):y≠32∧y≠10:=by
 constructor
 ·rintro rfl;exact absurd h (by decide)
 ·rintro rfl;exact absurd h (by decide)
theorem Zwo {s:BS} (h:Z9b s=true):s≠[]∧(32:UInt8) ∉ s∧(10:UInt8) ∉ s∧s.length≤24:=by
 unfold Z9b at h
 cases hb:decide ((s.length:Int)<1) || decide ((24:Int)<s.length) with
 | true=>rw[hb]at h;cases h
 | false =>
  rw[hb]at h;simp only[Bool.or_eq_false_iff,decide_eq_false_iff_not]at hb;have hn:s.findIdx? (λc=>Zxb c.toNat)=none:=by simpa using h
  rw[List.findIdx?_eq_none_iff]at hn;refine⟨λe=>?_,λhm=>(Zat (hn _ hm)).1 rfl,λhm=>(Zat (hn _ hm)).2 rfl,by omega⟩;subst e;exact hb.1 (by decide)
theorem doB_ok {s:BS} (h:doB s=true):s≠[]∧(10:UInt8) ∉ s∧s.length≤60:=by
 unfold doB at h
 cases hb:decide ((s.length:Int)<1) || decide ((60:Int)<s.length) with
 | true=>rw[hb]at h;cases h
 | false =>
  rw[hb]at h;simp only[Bool.or_eq_false_iff,decide_eq_false_iff_not]at hb;have hn:=Z3k.1 (show ((List.range s.length).findIdx? (ZKb s)).isNone=true from h);refine⟨λe=>?_,λhm=>?_,by omega⟩
  ·subst e;exact hb.1 (by decide)
  ·obtain⟨i,hi,e⟩:=List.getElem_of_mem hm;have:=hn i hi;have hc:cN s i=10:=by rw[← Zxf hi,e];rfl
   unfold ZKb sp at this;rw[hc]at this
   cases this
theorem ZVo {g:GD} (h:Zcd g=false):0≤g.1∧g.1<5:=by
 unfold Zcd at h;split at h
 ·omega
 ·split at h
  ·omega
  ·cases h
theorem Zoi {c:Nat→Int} {n:Nat} (h:cf c 0 n=0):∀ i,i<n→c i=0:=λi hi=>by
 have:=Z1q n 0 h i hi
 rwa [Nat.zero_add]at this
theorem Z2w {ahead:List STP} {y:STP} (h:Zwe ahead y=0):Z9b y.1=true∧y.2.1.length≤16∧y.2.2.length≤8∧(∀ d ∈ y.2.1,doB d=true)∧∀ g ∈ y.2.2,Zcd g=false:=by
 unfold Zwe at h;split at h
 ·cases h
 rename_i h1;split at h
 ·cases h
 split at h
 ·cases h
 rename_i h3;split at h
 ·rename_i h4;exact absurd h h4
 rename_i h4;have e1:=Zoi (Decidable.not_not.1 h4);have e2:=Zoi h;refine⟨by simpa using h1,by omega,by omega,λd hd=>?_,λg hg=>?_⟩
 ·obtain⟨i,hi,rfl⟩:=List.getElem_of_mem hd;have:=e1 i hi;unfold dC at this;rw[Zfb hi]at this;split at this
  ·rename_i hx;exact hx
  ·cases this
 ·obtain⟨i,hi,rfl⟩:=List.getElem_of_mem hg;have:=e2 i hi;unfold gC at this;rw[Zfb hi]at this;split at this
  ·cases this
  ·rename_i hx;simpa using hx
theorem ZIk {p:List STP} (h:Z4a p=0):1≤p.length∧p.length≤24∧(∀ i,i<p.length→sC p i=0)∧∀ i,i<p.length→nC p i=0:=by
 unfold Z4a at h;split at h
 ·cases h
 rename_i h0;split at h
 ·rename_i h1;exact absurd h h1
 rename_i h1;exact⟨by omega,by omega,Zoi (Decidable.not_not.1 h1),Zoi h⟩
theorem Zmz {p:List STP} {n:BS} (hp:∀ s ∈ p,Z9b s.1=true) (h:¬ Zrd p n<0):Z9b n=true:=by
 unfold Zrd at h
 cases hf:p.findIdx? (λx=>x.1==n) with
 | none=>rw[hf]at h;exact absurd (by decide) h
 | some k =>
  rw[List.findIdx?_eq_some_iff_getElem]at hf;obtain⟨hk,e,_⟩:=hf;have e':p[k].1=n:=by simpa using e
  rw[← e'];exact hp _ (List.getElem_mem hk)
theorem ZKw {p:List STP} {g:GD} (hp:∀ s ∈ p,Z9b s.1=true) (h:Zbf p g=false):Z9b g.2.2=true:=by
 unfold Zbf at h
 cases h1:(g.2.2 != endW) with
 | false =>
  have:g.2.2=endW:=by simpa using h1
  rw[this];decide
 | true =>
  cases h2:(g.2.2 != scrS) with
  | false =>
   have:g.2.2=scrS:=by simpa using h2
   rw[this];decide
  | true =>
   rw[h1,h2]at h;refine Zmz hp λhn=>?_;rw[dT hn]at h
   cases h
theorem Zzn {p:List STP} (h:Z4a p=0):∀ s ∈ p,StOK s:=by
 obtain⟨_,_,h1,h2⟩:=ZIk h;have hS:∀ s ∈ p,Z9b s.1=true∧s.2.1.length≤16∧s.2.2.length≤8∧(∀ d ∈ s.2.1,doB d=true)∧∀ g ∈ s.2.2,Zcd g=false:=λs hs=>by
  obtain⟨i,hi,rfl⟩:=List.getElem_of_mem hs;have:=h1 i hi;unfold sC at this;rw[show gP p i=p[i] from Zfb hi]at this;exact Z2w this
 intro s hs;obtain⟨a,b,c,d,e⟩:=hS s hs;refine⟨Zwo a,λx hx=>doB_ok (d x hx),λg hg=>?_,b,c⟩;have hl:Zbf p g=false:=by
  obtain⟨i,hi,rfl⟩:=List.getElem_of_mem hs;have:=h2 i hi;unfold nC at this;rw[show gP p i=p[i] from Zfb hi]at this;obtain⟨k,hk,rfl⟩:=List.getElem_of_mem hg;have:=Zoi this k hk;unfold tC at this;rw[show gG p[i].2.2 k=p[i].2.2[k] from Zfb hk]at this;split at this
  ·cases this
  ·rename_i hx;simpa using hx
 obtain⟨n1,n2,n3,n4⟩:=Zwo (ZKw (λs hs=>(hS s hs).1) hl);exact⟨(ZVo (e g hg)).1,(ZVo (e g hg)).2,n1,n2,n3,n4⟩
def lnM (m:List UInt8) (ws:List (List UInt8)):Option (List UInt8):=if (m++(Lib.join ws [32]++[10])).length≤140737488355328 then some (m++(Lib.join ws [32]++[10])) else none
def doM:List (List UInt8)→List UInt8→Option (List UInt8)
| [],m=>some m
| d :: r,m=>bnd (lnM m [[100,111],d]) λm'=>doM r m'
noncomputable def guM:List (Int×Rat×List UInt8)→List UInt8→Option (List UInt8)
| [],m=>some m
| g :: r,m=>bnd (ZWe g.1) λq=>bnd (Zbc g.2.1) λt=>bnd (lnM m [[119,104,101,110],q,t,[103,111],g.2.2]) λm'=>guM r m'
noncomputable def stM:List (List UInt8×List (List UInt8)×List (Int×Rat×List UInt8))→List UInt8→Option (List UInt8)
| [],m=>some m
| s :: r,m=>bnd (lnM m [[115,116,101,112],s.1]) λa=>bnd (doM s.2.1 a) λb=>bnd (guM s.2.2 b) λc=>stM r c
noncomputable def Zcf (prg:List (List UInt8×List (List UInt8)×List (Int×Rat×List UInt8))):Option (List UInt8×Int) :=
 bnd (Zpg prg) λe=>ifb (e != 0) (some ([],e)) (bnd (stM prg []) λt=>some (t,0))
noncomputable def Ztr (x:Rat):Option ((List UInt8)) :=
 bnd (Zrg x.num.natAbs) λb =>
 bnd (ifb (decide (x.num<0))
 (bnd (ZTe x) λd =>
 some (!(d)))
 (some false))
 (λ(e:Bool) =>
 (bnd (ifb (e)
 (bnd (Z4 ((([45]:List UInt8))++b)) λj =>
 some (((([45]:List UInt8))++b)))
 (some b))
 (λ(a:(List UInt8)) =>
 (bnd (Z9g x) λf =>
 bnd (Z7b ([(1:Int)])) λg =>
 bnd (Z7d f g) λh =>
 bnd (ifb (decide ((0:Int)<h))
 (bnd (Z4 (a++(([47]:List UInt8)))) λk =>
 bnd (Zrg x.den) λc =>
 bnd (Z4 (((a++(([47]:List UInt8))))++c)) λl =>
 some ((((a++(([47]:List UInt8))))++c)))
 (some a))
 (λ(i:(List UInt8)) =>
 (some i))))))
end Go.Eng
