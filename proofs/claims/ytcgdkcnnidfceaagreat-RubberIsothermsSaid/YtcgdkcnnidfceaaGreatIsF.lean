/- Lemmas towards the statement: the engine of the walks, the functions' models, laws and walks, part 6. Conditions: as each states. -/
import Derived.Shelf.Strings.Builder1
import Derived.Shelf.Strings.Repeat
import Derived.Test.YtcgdkcnnidfceaaGreatProg
import Derived.Test.YtcgdkcnnidfceaaGreatIsE
set_option linter.all false
set_option maxRecDepth 100000
namespace Go.Eng
open Go.RowKit
section
variable {N:Nat} {G:V→Value→Prop} {w0:Base} {v0:Zb} {a:Act} {w:World}
theorem ZSv {n0 n m:Nat} {f f0 fI:Fr} {l l0 l2 s lN:Lo} {γ γ2 γ0:Nat→Gh} {v v2:Zb} {ℓ ℓ2 es:List Loc} {us ks:List Nat}
  (h0:H0 G n0 f0 l0) (hn:n0≤n) (hr:RelX N G w0 v0 (· < n) (· < n) f l a w γ v ℓ) (hr2:RelX N G w0 v0 (· < n) (· < n+1) f l2 a w γ2 v2 ℓ2) (hst:St N w0 v0 [] (es++ℓ2) v2 a w) (hle:Le (· < n) v γ l v2 γ2 l2)
  (ho1:Old n f l f l2) (ho:Old n0 f0 l0 f l) (hs:s.Sublist l0) (hsu:∀ e ∈ s,e.k ∉ us) (hss:ZTh n0 l2 s=true) (hus:∀ u ∈ us,u<n0) (hI:IV a v2 γ l n0 us n0 m fI lN es γ0) (hks:ZFh n0 f ks=true) :
  ∃ γN ℓN,(∀ e ∈ lN,γN e.k=γ0 e.k∧lkE (lN++s) e.k=some e)∧RelX N G w0 v0 (· < m) (· < m) (fI++Z0c f0 ks) (lN++s) a w γN v2 ℓN∧Old n0 f0 l0 (fI++Z0c f0 ks) (lN++s):=by
 have hsm:∀ e ∈ s,e ∈ l0:=fun e he=>hs.subset he;have hsn:(s.map En.k).Nodup:=(hs.map _).nodup h0.nd;have hs2:∀ e ∈ s,lkE l2 e.k=some e∧lkE l e.k=some e:=fun e he=>by
  obtain ⟨e',h1,h2⟩:=Zqq hss e he;have h3:=ho1.2 e.k e' h1 (Nat.lt_of_lt_of_le h2 hn);have h4:=ho.2 e.k e' h3 h2;rw [ZAd h0.nd (hsm e he)] at h4
  cases h4
  exact ⟨h1,h3⟩
 have hdis:∀ e ∈ s,e.k ∉ lN.map En.k:=fun e he hm=>by
  obtain ⟨e',he',hk⟩:=List.mem_map.1 hm;have h1:=(h0.l e (hsm e he)).1;rcases (hI.l e' he').1 with h2 | h2
  ·exact hsu e he (hk ▸ h2)
  ·omega
 have hnd:((lN++s).map En.k).Nodup:=Zuk hI.nd hsn hdis
 let γN:Nat→Gh:=fun k=>if k ∈ lN.map En.k then γ0 k else γ2 k
 have hγ:∀ e ∈ lN,γN e.k=γ0 e.k∧lkE (lN++s) e.k=some e:=fun e he =>
  ⟨if_pos (List.mem_map.2 ⟨e,he,rfl⟩),ZAd hnd (List.mem_append_left _ he)⟩
 have hγs:∀ e ∈ s,γN e.k=γ2 e.k:=fun e he=>if_neg (hdis e he);obtain ⟨r1,⟨EN,r2,r3⟩,r4⟩:=hI.r γN (lN++s) hγ;obtain ⟨E,hE,hpE⟩:=hr.lr;have leN:Le (· < n0) v γ l v2 γN (lN++s):=⟨hle.v,fun u e' hu he'=>by
  have hmem:=(Zs he').1;have hk:=(Zs he').2;rcases List.mem_append.1 hmem with hm | hm
  ·obtain ⟨e0,q1,q2⟩:=r4 e' hm (by rw [hk];exact hu);rw [hk] at q1 q2;exact ⟨e0,q1,q2⟩
  ·obtain ⟨q1,q2⟩:=hs2 e' hm;rw [hk] at q1 q2;obtain ⟨e,q3,q4⟩:=hle.l u e' (Nat.lt_of_lt_of_le hu hn) q1;refine ⟨e,q3,Zfn (fun k hk=>Nat.lt_of_lt_of_le hk hn) ?_ q4⟩;have:=hγs e' hm;rw [hk] at this;exact this⟩
 have up:∀ k,k<n0→k<m:=fun k hk=>Nat.lt_of_lt_of_le hk hI.le;obtain ⟨E2,hE2,hpE2⟩:=hr2.lr;obtain ⟨Es,rest,t1,t2⟩:=Zgs hsn (fun e he=>(hs2 e he).1) hr2.nd hE2;have hS:F2 (ZAa v2 γN (lN++s)) s Es:=t1.impm fun e he es' hes hR=>by
  have hin:∀ x ∈ es',x ∈ ℓ2:=fun x hx=>hpE2.mem_iff.2 (t2.mem_iff.2 (List.mem_append_left _ (List.mem_flatten.2 ⟨es',hes,hx⟩)));have hg:=hγs e he;obtain ⟨q1,q2⟩:=hs2 e he;have hU:=h0.l e (hsm e he);obtain ⟨eE,q3,q4⟩:=hle.l e.k e (Nat.lt_of_lt_of_le hU.1 hn) q1;rw [q2] at q3;cases q3;obtain ⟨kk,st,L⟩:=e
  cases L with
  | box ty c =>
   obtain ⟨b,cs,g1,g2,g3,rfl⟩:=hR;obtain ⟨es0,hes0⟩:=ZUe hE (Zs q2).1;obtain ⟨jj,es1,k1,k2⟩:=hr.loc q2;obtain ⟨b0,cs0,d1,d2,d3,rfl⟩:=k1;have g1:γ2 kk = .box b:=g1;have d1:γ kk = .box b0:=d1;have q4:γ2 kk=γ kk:=q4;have hb:b=b0:=by rw [g1,d1] at q4;cases q4;rfl
   subst hb;obtain ⟨i,hi⟩:=k2 _ (List.mem_singleton.2 rfl);have m1:=(hr.st.loc _ (List.mem_of_getElem? hi)).1;have m2:=(hr2.st.loc _ (hin _ (List.mem_singleton.2 rfl))).1;have m1:w.heap[b]? = some (.cells cs0.toArray ty (0,0)):=m1;have m2:w.heap[b]? = some (.cells cs.toArray ty (0,0)):=m2;rw [m1] at m2;have hcs:cs0=cs:=by
    have:=Option.some.inj m2
    injection this with h1 _ _
    have:=congrArg Array.toList h1
    simpa using this
   subst hcs;exact ⟨b,cs0,by rw [show γN kk=γ2 kk from hg];exact g1,Zqb leN hU.2.2 d2,d3,rfl⟩
  | own ty t xs fz =>
   cases fz with
   | false=>obtain ⟨ob,cap,d,g1,g2⟩:=hR;exact ⟨ob,cap,d,by rw [show γN kk=γ2 kk from hg];exact g1,g2⟩
   | true=>obtain ⟨ob,cap,g1,g2⟩:=hR;exact ⟨ob,cap,by rw [show γN kk=γ2 kk from hg];exact g1,g2⟩
  | mat ty ty2 t mm hv=>obtain ⟨ob,cap,rows,es2,g1,g2⟩:=hR;exact ⟨ob,cap,rows,es2,by rw [show γN kk=γ2 kk from hg];exact g1,g2⟩
  | mid ty ty2 t mm hv s=>obtain ⟨ob,cap,rows,es2,hs,es3,g1,g2⟩:=hR;exact ⟨ob,cap,rows,es2,hs,es3,by rw [show γN kk=γ2 kk from hg];exact g1,g2⟩
 have hstN:St N w0 v0 [] (EN.flatten++Es.flatten) v2 a w:=by
  have h1:=hst.perm ((List.Perm.append r3 (hpE2.trans t2)));refine h1.drop ?_;rw [← List.append_assoc];exact List.sublist_append_left _ _
 have hkeep:∀ t e,lkE (Z0c f0 ks) t=some e→lkE f t=some e∧lkE f0 t=some e:=fun t e he=>by
  obtain ⟨q1,q2⟩:=ZPm he;obtain ⟨e',q3,q4⟩:=Zvq hks t q2;have:=ho.1 t e' q3 q4;rw [q1] at this;cases this;exact ⟨q3,q1⟩
 refine ⟨γN,_,hγ,⟨hstN,fun t e he=>?_,⟨EN++Es,r2.append hS,by rw [List.flatten_append]⟩,hnd,fun t e he=>?_,fun e he=>?_,fun x y hg=>?_⟩,fun t e he hst=>?_,fun u e he hst=>?_⟩
 ·rw [ZIk] at he
  cases hx:lkE fI t with
  | some e1 =>
   rw [hx] at he;cases he;obtain ⟨q1,q2⟩:=Zs hx;rw [← q2];exact r1 e q1
  | none =>
   rw [hx] at he;obtain ⟨q1,q2⟩:=hkeep t e he;exact ZEb leN (h0.f t e q2).1 (hr.fr t e q1)
 ·rw [ZIk] at he
  cases hx:lkE fI t with
  | some e1 =>
   rw [hx] at he;cases he;obtain ⟨q1,q2,q3⟩:=hI.f e (Zs hx).1;exact ⟨q1,q3⟩
  | none =>
   rw [hx] at he;obtain ⟨q1,q2⟩:=hkeep t e he;obtain ⟨q3,q4⟩:=h0.f t e q2;exact ⟨V.ok.mono up q3,up _ q4⟩
 ·rcases List.mem_append.1 he with he | he
  ·obtain ⟨q1,q2,q3,q4⟩:=hI.l e he;refine ⟨?_,q3,q4⟩;rcases q1 with q1 | q1
   ·exact up _ (hus _ q1)
   ·exact q1.2
  ·obtain ⟨q1,q2,q3⟩:=h0.l e (hsm e he);exact ⟨up _ q1,up _ q2,LV.ok.mono up up q3⟩
 ·exact ⟨ZEb leN (h0.g x y hg) (hr.gh x y hg).1,V.ok.mono up (h0.g x y hg)⟩
 ·rw [ZIk] at he
  cases hx:lkE fI t with
  | some e1 =>
   rw [hx] at he;cases he;have:=(hI.f e (Zs hx).1).2.1;omega
  | none =>
   rw [hx] at he;exact (hkeep t e he).2
 ·rcases List.mem_append.1 (Zs he).1 with hm | hm
  ·have:=(hI.l e hm).2.1;omega
  ·have:=ZAd h0.nd (hsm e hm);rw [(Zs he).2] at this;exact this
def bF (f0:Fr) (l0:Lo) (j:Js) (x:jT j) (n:Nat):Fr:=(ZKb f0 l0 j.vs x n).1++Z0c f0 j.keep
def bL (b:Nat) (f0:Fr) (l0:Lo) (j:Js) (x:jT j) (n:Nat):Lo:=(ZKb f0 l0 j.vs x n).2.1++stayL b f0 l0 j j.vs
def bN (f0:Fr) (l0:Lo) (j:Js) (x:jT j) (n:Nat):Nat:=(ZKb f0 l0 j.vs x n).2.2
theorem Z1j {α:Type} {b:Nat} {f0:Fr} {l0:Lo} {j:Js} {x:jT j} {n:Nat} {K:Fr→Lo→Nat→α}:build b f0 l0 j x n K=K (bF f0 l0 j x n) (bL b f0 l0 j x n) (bN f0 l0 j x n):=rfl
theorem Z9j {α:Type} {r:α} {b n0 n:Nat} {f0 f:Fr} {l0 l:Lo} {j:Js} {K:jT j→Option α} (h0:H0 G n0 f0 l0) (hn:n0≤n) (hr:Rel N G w0 v0 (· < n) f l a w) (ho:Old n0 f0 l0 f l) (h:Z8d b n0 n f0 l0 f l j K=some r) :
  ∃ x,K x=some r∧n0≤bN f0 l0 j x n0∧Rel N G w0 v0 (· < bN f0 l0 j x n0) (bF f0 l0 j x n0) (bL b f0 l0 j x n0) a w∧Old n0 f0 l0 (bF f0 l0 j x n0) (bL b f0 l0 j x n0):=by
 obtain ⟨γ,v,ℓ,hr⟩:=hr;have h1:=Zwi (Nat.le_refl n) Old.refl hr.nd (ZXg h);have hr':RelX N G w0 v0 (· < n) (· < n+1) f l a w γ v ℓ:=hr.mono (fun _ h=>h) fun k h=>(show k<n+1 by have:k<n:=h;omega);obtain ⟨E,hE,_⟩:=hr.lr;obtain ⟨x,l2,γ2,v2,ℓ2,es,us,k1,k2,k3,k4,k5,k6,k7⟩:=Z0m (ex:=[]) h0 hn h1 hr' hr.st (Le.refl hE (Zb.le_refl _));obtain ⟨q1,q2⟩:=k1;split at q1
 ·rename_i hS hL;obtain ⟨γ0,hI⟩:=Zdm k5 k6 (fun u hu=>(k7 u hu).1) (Nat.le_refl n0) (hvOf_le h0);have hsub:=ZBq (b:=b) (rs:=Znh l0 50 (idsF (Z0c f0 j.keep)) []) (us:=gone f0 l0 j.drop j.vs) (l:=l0);obtain ⟨γN,ℓN,_,p2,p3⟩:=ZSv h0 hn hr k2 k3 k4 q2 ho hsub.1 (fun e he hu=>hsub.2 e he (List.mem_append_right _ (k7 _ hu).2.2)) hL (fun u hu=>(k7 u hu).1) hI hS;exact ⟨x,q1,hI.le,⟨γN,v2,ℓN,p2⟩,p3⟩
 ·cases q1
def Ress (P:Program) (tmps:Array Value) (w:World) (rs:List ResultVar) (vals:List Value):Prop:=F2 (fun r y=>Res P tmps w r y) rs vals
def RetR (P:Program) (rs:List ResultVar) (N:Nat) (G:V→Value→Prop) (w0:Base) (v0:Zb) (c:V) (l:Lo) (n:Nat) (a:Act) (w:World):Prop :=
 ∃ γ v ℓ vals,RelX N G w0 v0 (· < n) (· < n) [] l a w γ v ℓ∧RR v γ l true c vals∧c.ok (· < n)∧Ress P a.tmps w rs vals
def Zpc (m:Nat) (l l':Lo):Prop:=∀ u e,lkE l' u=some e→e.st<m→lkE l u=some e
theorem Old.l {m:Nat} {f f':Fr} {l l':Lo} (h:Old m f l f' l'):Zpc m l l':=h.2
theorem Zpc.trans {m m':Nat} {l l' l'':Lo} (h:Zpc m l l') (k:Zpc m' l' l'') (hm:m≤m'):Zpc m l l'':=fun u e he hs=>h u e (k u e he (by omega)) hs
theorem Zpc.mono {m m':Nat} {l l':Lo} (h:Zpc m' l l') (hm:m≤m'):Zpc m l l':=fun u e he hs=>h u e he (by omega)
end
theorem ZTb {v:Zb} {γ:Nat→Gh} {l:Lo} {U:Nat→Prop} {n:Nat}:∀ {c:V} {k t:Nat} {e:En V} {vals:List Value},RR v γ l true c vals→c.ok U→lkE (Z0a n k c) t=some e→∃ y,k≤t∧vals[t-k]? = some y∧RV v γ l e.x y∧e.x.ok U∧e.st=n:=by
 intro c
 induction c with
 | cons a b ia ib =>
  intro k t e vals h hk he;obtain ⟨cs,xs,rfl,h1,h2⟩:=h;simp only [Z0a] at he;rw [ZQ] at he;split at he
  ·rename_i hkt
   cases he
   have hkt:k=t:=hkt;subst hkt;exact ⟨a.val cs,Nat.le_refl _,by simp,Zfc h1 (fun c e=>by subst e;exact h1),hk.1,rfl⟩
  ·rename_i hkt;have hkt:¬ k=t:=hkt;obtain ⟨y,q1,q2,q3⟩:=ib h2 hk.2 he;refine ⟨y,by omega,?_,q3⟩;have:t-k=(t-(k+1))+1:=by omega
   rw [this];simpa using q2
 | _=>intro k t e vals h hk he;cases he
theorem Zlq {v:Zb} {γ:Nat→Gh} {l:Lo}:∀ {c:V} {vals:List Value},RR v γ l true c vals→vals.length=lenV c:=by
 intro c
 induction c with
 | nl=>intro vals h;rw [show vals=[] from h];rfl
 | cons a b ia ib=>intro vals h;obtain ⟨cs,xs,rfl,h1,h2⟩:=h;simp [ib h2,lenV]
 | _=>intro vals h;exact h.elim
theorem Z3t {N N':Nat} {G:V→Value→Prop} {w0:Base} {v0:Zb} {a:Act} {w:World} {γ:Nat→Gh} {v:Zb} {ℓ:List Loc} {ags:V} {l:Lo} {n:Nat} {vals:List Value} (hr:RelX N G w0 v0 (· < n) (· < n) [] l a w γ v ℓ) (has:RR v γ l true ags vals) (hk:ags.ok (· < n)) (hN:vals.length≤N') :
  RelX N' G w0 v0 (· < n+1) (· < n+1) (Z0a n 0 ags) l { tmps:=vals.toArray++Array.replicate (N'-vals.toArray.size) undef,defers:=[] } w γ v ℓ:=by
 have hm:=hr.mono (U':=(· < n+1)) (X':=(· < n+1)) (fun k h=>(show k<n+1 by have:k<n:=h;omega)) fun k h=>(show k<n+1 by have:k<n:=h;omega);refine ⟨⟨by simp;omega,rfl,fun t x h=>(by cases h),hr.st.ext,hr.st.vst,hr.st.loc,hr.st.nd⟩,fun t e he=>?_,hm.lr,hm.nd,fun t e he=>?_,hm.ul,hm.gh⟩
 ·obtain ⟨y,h1,h2,h3,h4,h5⟩:=ZTb has hk he;have hlt:t<vals.length:=(List.getElem?_eq_some_iff.1 h2).1;have h3':vals[t]=y:=(List.getElem?_eq_some_iff.1 h2).2;have:((vals.toArray++Array.replicate (N'-vals.toArray.size) undef).getD t undef)=y:=by
   simp [Array.getElem?_append,hlt,h3']
  rw [this];exact h3
 ·obtain ⟨y,h1,h2,h3,h4,h5⟩:=ZTb has hk he;exact ⟨V.ok.mono (fun k h=>(show k<n+1 by have:k<n:=h;omega)) h4,by show e.st<n+1;omega⟩
theorem Z4s {N:Nat} {G:V→Value→Prop} {w0:Base} {v0:Zb} {a:Act} {w:World} {γ:Nat→Gh} {v:Zb} {ℓ:List Loc} {ags:V} {l:Lo} {n k:Nat} {vals:List Value} (hr:RelX N G w0 v0 (· < n) (· < n) [] l a w γ v ℓ) (has:RR v γ l true ags vals) (hk:ags.ok (· < n)) :
  RelX (k+vals.length) G w0 v0 (· < n+1) (· < n+1) (Z0a n k ags) l { tmps:=(List.replicate k undef++vals).toArray,defers:=[] } w γ v ℓ:=by
 have hm:=hr.mono (U':=(· < n+1)) (X':=(· < n+1)) (fun k h=>(show k<n+1 by have:k<n:=h;omega)) fun k h=>(show k<n+1 by have:k<n:=h;omega);refine ⟨⟨by simp,rfl,fun t x h=>(by cases h),hr.st.ext,hr.st.vst,hr.st.loc,hr.st.nd⟩,fun t e he=>?_,hm.lr,hm.nd,fun t e he=>?_,hm.ul,hm.gh⟩
 ·obtain ⟨y,h1,h2,h3,h4,h5⟩:=ZTb has hk he;have:((List.replicate k undef++vals).toArray.getD t undef)=y:=by
   rw [Array.getD_eq_getD_getElem?,List.getElem?_toArray,List.getElem?_append_right (by simpa using h1)];simp [h2]
  rw [this];exact h3
 ·obtain ⟨y,h1,h2,h3,h4,h5⟩:=ZTb has hk he;exact ⟨V.ok.mono (fun k h=>(show k<n+1 by have:k<n:=h;omega)) h4,by show e.st<n+1;omega⟩
theorem getRep {vals:List Value} {k i:Nat} {y:Value} (h:vals[i]? = some y):(List.replicate k undef++vals).toArray.getD (k+i) undef=y:=by
 rw [Array.getD_eq_getD_getElem?,List.getElem?_toArray,List.getElem?_append_right (by simp)];simp [h]
theorem Zlp {v:Zb} {γ:Nat→Gh} {l:Lo} {U:Nat→Prop} {f:Fr} {tm:Array Value} (hf:∀ t e,lkE f t=some e→RV v γ l e.x (tm.getD t undef)∧e.x.ok U):∀ {vals:List Value} {t:Nat} {c:V},Z6i f vals.length t=some c→(∀ i y,vals[i]? = some y→tm.getD (t+i) undef=y)→RR v γ l true c vals∧c.ok U
 | [],t,c,h,_=>by cases h;exact ⟨rfl,trivial⟩
 | y :: vals,t,c,h,hv=>by
  simp only [List.length_cons,Z6i] at h
  split at h
  ·cases h
  ·rename_i e c' hnt hc he
   cases h
   obtain ⟨h1,h2⟩:=hf t e hc
   obtain ⟨cs,hcs,hy⟩:=Zzb h1 (fun q hq=>by obtain ⟨k,s,x⟩:=e;have hq:x = .tup q:=hq;subst hq;exact hnt _ _ _ rfl)
   obtain ⟨k1,k2⟩:=Zlp hf (vals:=vals) he fun i y hi=>by
    have:=hv (i+1) y (by simpa using hi)
    rwa [show t+(i+1)=t+1+i by omega] at this
   have h0:=hv 0 y (by simp)
   rw [Nat.add_zero] at h0
   exact ⟨⟨cs,vals,by rw [← h0,hy],hcs,k1⟩,h2,k2⟩
  ·cases h
section
variable {N:Nat} {G:V→Value→Prop} {w0:Base} {v0:Zb} {a:Act} {w:World}
theorem Z9t {α β:Type} {r:α} {P:Program} {rs:List ResultVar} {b n0 n:Nat} {f0:Fr} {l0 l:Lo} {c:V} {j:Js} {K:jT j→Option α} (h0:H0 G n0 f0 l0) (hn:n0≤n) (hr:RetR P rs N G w0 v0 c l n a w) (ho:Zpc n0 l0 l) (h:ZJh b n0 n f0 l0 c l j K=some r) :
  ∃ x,K x=some r∧∀ {KR:V→Lo→Nat→Option β} {q:β},build b f0 l0 j x n0 (retK j.vs KR)=some q→∃ c' l' m,KR c' l' m=some q∧n0≤m∧RetR P rs N G w0 v0 c' l' m a w∧Zpc n0 l0 l':=by
 obtain ⟨γ,v,ℓ,vals,hr,hc,hk,hres⟩:=hr;unfold ZJh at h;split at h
 ·rename_i k hkeep hord;split at h
  ·rename_i hlen;have hlen:=Nat.eq_of_beq_eq_true hlen;have hvl:=Zlq hc;have hx:=Z4s (k:=1000) hr hc hk;obtain ⟨x,k1,k2,k3,k4⟩:=Z9j h0 (Nat.le_succ_of_le hn) ⟨_,_,_,hx⟩ ⟨fun t e he hst=>by
    obtain ⟨y,h1,h2,h3,h4,h5⟩:=ZTb hc hk he;omega,ho⟩ h
   refine ⟨x,k1,fun {KR q} hq=>?_⟩;rw [Z1j] at hq;unfold retK at hq;rw [hord] at hq;simp only at hq;split at hq
   ·rename_i c' hc';obtain ⟨γ',v',ℓ',hr'⟩:=k3;refine ⟨c',_,_,hq,k2,⟨γ',v',ℓ',vals,⟨⟨hr.st.size,hr.st.dfr,fun t x h=>(by cases h),hr'.st.ext,hr'.st.vst,hr'.st.loc,hr'.st.nd⟩,fun t e he=>(by cases he),hr'.lr,hr'.nd,fun t e he=>(by cases he),hr'.ul,hr'.gh⟩,?_⟩,k4.l⟩;rw [show k-1000=vals.length by omega] at hc';obtain ⟨g1,g2⟩:=Zlp (U:=(· < bN f0 l0 j x n0)) (fun t e he=>⟨hr'.fr t e he,(hr'.uf t e he).1⟩) hc' fun i y hi=>by
     exact getRep hi
    exact ⟨g1,g2,hres⟩
   ·cases hq
  ·cases h
 ·cases h
end
end Go.Eng
namespace Go.Eng
open Go.RowKit
section
variable {N:Nat} {G:V→Value→Prop} {w0:Base} {v0:Zb}
structure KOK (P:Program) (rs:List ResultVar) (N:Nat) (G:V→Value→Prop) (w0:Base) (v0:Zb) {α:Type} (n:Nat) (f:Fr) (l:Lo) (K:Kt α) (r:α) (Q:Exit→Act→World→Prop):Prop where
 norm:ZUd N G w0 v0 n f l (fun f l n=>K.norm f l n=some r) (Q .normal)
 exit:∀ i,ZUd N G w0 v0 n f l (fun f l n=>K.exit i f l n=some r) (Q (.exit i))
 ret:∀ c l' n' a' w',K.ret c l' n'=some r→n≤n'→Zpc n l l'→RetR P rs N G w0 v0 c l' n' a' w'→Q .ret a' w'
theorem KOK.step {P:Program} {rs:List ResultVar} {α:Type} {n n1:Nat} {f f1:Fr} {l l1:Lo} {K:Kt α} {r:α} {Q:Exit→Act→World→Prop} (h:KOK P rs N G w0 v0 n f l K r Q) (hn:n≤n1) (ho:Old n f l f1 l1):KOK P rs N G w0 v0 n1 f1 l1 K r Q :=
 ⟨h.norm.step hn ho,fun i=>(h.exit i).step hn ho,fun c l' n' a' w' hk hn' ho' hr=>h.ret c l' n' a' w' hk (by omega) (ho.l.trans ho' hn) hr⟩
def kdE:Kd→Exit
 | .norm=>.normal
 | .exit i=>.exit i
 | .ret=>.ret
theorem Zxk {a b:Kd} (h:kdEq a b=true):a=b:=by
 cases a <;> cases b <;> first | rfl | (cases h;done) | (rw [Nat.eq_of_beq_eq_true h])
theorem Zas {P:Program} {rs:List ResultVar} {α β:Type} {b n0 n:Nat} {f0 f:Fr} {l0 l:Lo} {o:Kd×Js} {K:jT o.2→Option α} {x':α} {a:Act} {w:World} {Q:Exit→Act→World→Prop} (h0:H0 G n0 f0 l0) (hn:n0≤n) (hk:o.1 ≠ .ret) (hr:Rel N G w0 v0 (· < n) f l a w) (ho:Old n0 f0 l0 f l) (h:Z8d b n0 n f0 l0 f l o.2 K=some x') :
  ∃ y,K y=some x'∧∀ {Kout:Kt β} {r:β},Z2f b f0 l0 n0 Kout o y=some r→KOK P rs N G w0 v0 n0 f0 l0 Kout r Q→Q (kdE o.1) a w:=by
 obtain ⟨y,h1,h2,h3,h4⟩:=Z9j h0 hn hr ho h;refine ⟨y,h1,fun {Kout r} hx hK=>?_⟩;unfold Z2f at hx;split at hx
 ·rename_i e;rw [Z1j] at hx;rw [e];exact hK.norm _ _ _ a w hx h2 h4 h3
 ·rename_i i e;rw [Z1j] at hx;rw [e];exact hK.exit i _ _ _ a w hx h2 h4 h3
 ·rename_i e;exact absurd e hk
theorem ZRo {P:Program} {rs:List ResultVar} {α β:Type} {b n0 n:Nat} {f0:Fr} {l0 l:Lo} {c:V} {o:Kd×Js} {K:jT o.2→Option α} {x':α} {a:Act} {w:World} {Q:Exit→Act→World→Prop} (h0:H0 G n0 f0 l0) (hn:n0≤n) (hk:o.1 = .ret) (hr:RetR P rs N G w0 v0 c l n a w) (ho:Zpc n0 l0 l) (h:ZJh b n0 n f0 l0 c l o.2 K=some x') :
  ∃ y,K y=some x'∧∀ {Kout:Kt β} {r:β},Z2f b f0 l0 n0 Kout o y=some r→KOK P rs N G w0 v0 n0 f0 l0 Kout r Q→Q .ret a w:=by
 obtain ⟨y,h1,h2⟩:=Z9t (β:=β) h0 hn hr ho h;refine ⟨y,h1,fun {Kout r} hx hK=>?_⟩;unfold Z2f at hx;split at hx
 ·rename_i e;rw [hk] at e;cases e
 ·rename_i e;rw [hk] at e;cases e
 ·obtain ⟨c',l',m,k0,k1,k2,k3⟩:=h2 hx;exact hK.ret _ _ _ a w k0 k1 k3 k2
theorem Ztj {P:Program} {rs:List ResultVar} {β:Type} {b n0 n:Nat} {f0 f:Fr} {l0 l:Lo} {a:Act} {w:World} {Q:Exit→Act→World→Prop} {kd:Kd} {c:V} (h0:H0 G n0 f0 l0) (hn:n0≤n) (hk:kd ≠ .ret) (hr:Rel N G w0 v0 (· < n) f l a w) (ho:Old n0 f0 l0 f l) :
  ∀ {os:List (Kd×Js)} {α:Type} {K:sumT os→Option α} {x':α},ZQc b n0 n f0 l0 kd c f l os K=some x' →
  ∃ y,K y=some x'∧∀ {Kout:Kt β} {r:β},arms b f0 l0 n0 Kout os y=some r→KOK P rs N G w0 v0 n0 f0 l0 Kout r Q→Q (kdE kd) a w
 | [],α,K,x',h=>by cases h
 | [o],α,K,x',h=>by
  simp only [ZQc] at h
  split at h
  ·rename_i he
   have he:=Zxk he
   have h:Z8d b n0 n f0 l0 f l o.2 K=some x':=by cases kd <;> first | exact h | exact absurd rfl hk
   obtain ⟨y,h1,h2⟩:=Zas (P:=P) (rs:=rs) (β:=β) (Q:=Q) h0 hn (by rw [he];exact hk) hr ho h
   exact ⟨y,h1,fun {Kout r} hx hK=>he ▸ h2 hx hK⟩
  ·cases h
 | o :: p :: os,α,K,x',h=>by
  simp only [ZQc] at h
  split at h
  ·rename_i he
   have he:=Zxk he
   have h:Z8d b n0 n f0 l0 f l o.2 (fun x=>K (.inl x))=some x':=by cases kd <;> first | exact h | exact absurd rfl hk
   obtain ⟨y,h1,h2⟩:=Zas (P:=P) (rs:=rs) (β:=β) (Q:=Q) h0 hn (by rw [he];exact hk) hr ho h
   exact ⟨.inl y,h1,fun {Kout r} hx hK=>he ▸ h2 hx hK⟩
  ·obtain ⟨y,h1,h2⟩:=Ztj h0 hn hk hr ho (os:=p :: os) h
   exact ⟨.inr y,h1,fun {Kout r} hx hK=>h2 hx hK⟩
theorem Zcl {P:Program} {rs:List ResultVar} {β:Type} {b n0 n:Nat} {f0 f:Fr} {l0 l:Lo} {a:Act} {w:World} {Q:Exit→Act→World→Prop} {c:V} (h0:H0 G n0 f0 l0) (hn:n0≤n) (hr:RetR P rs N G w0 v0 c l n a w) (ho:Zpc n0 l0 l) :
  ∀ {os:List (Kd×Js)} {α:Type} {K:sumT os→Option α} {x':α},ZQc b n0 n f0 l0 .ret c f l os K=some x' →
  ∃ y,K y=some x'∧∀ {Kout:Kt β} {r:β},arms b f0 l0 n0 Kout os y=some r→KOK P rs N G w0 v0 n0 f0 l0 Kout r Q→Q .ret a w
 | [],α,K,x',h=>by cases h
 | [o],α,K,x',h=>by
  simp only [ZQc] at h
  split at h
  ·rename_i he
   exact ZRo h0 hn (Zxk he) hr ho h
  ·cases h
 | o :: p :: os,α,K,x',h=>by
  simp only [ZQc] at h
  split at h
  ·rename_i he
   obtain ⟨y,h1,h2⟩:=ZRo (P:=P) (rs:=rs) (β:=β) (Q:=Q) h0 hn (Zxk he) hr ho h
   exact ⟨.inl y,h1,fun {Kout r} hx hK=>h2 hx hK⟩
  ·obtain ⟨y,h1,h2⟩:=Zcl h0 hn hr ho (os:=p :: os) h
   exact ⟨.inr y,h1,fun {Kout r} hx hK=>h2 hx hK⟩
theorem ZWj {P:Program} {rs:List ResultVar} {c:Code} {α:Type} {b n:Nat} {ann:Ann} {f:Fr} {l:Lo} {K:Kt α} {g:(β:Type)→Go β} {r:α} {a:Act} {w:World} {Q:Exit→Act→World→Prop} (h:ZZg b ann f l n K g=some r) (hr:Rel N G w0 v0 (· < n) f l a w) (hK:KOK P rs N G w0 v0 n f l K r Q)
  (ih:∀ {β:Type} {a':Ann} {K':Kt β} {r':β},g β a' f l n K'=some r'→KOK P rs N G w0 v0 n f l K' r' Q→c.wp P Q a w):c.wp P Q a w:=by
 unfold ZZg at h;split at h
 ·rename_i j a';obtain ⟨x,hx,harms⟩:=Z0 h;have h0:=hr.h0;refine ih hx ⟨fun f' l' n' a' w' hp hn' ho' hr'=>?_,fun i f' l' n' a' w' hp hn' ho' hr'=>?_,fun c l' n' a' w' hp hn' ho' hr'=>?_⟩
  ·obtain ⟨y,h1,h2⟩:=Ztj (P:=P) (rs:=rs) (β:=α) (Q:=Q) (kd:=.norm) h0 hn' (fun e=>by cases e) hr' ho' hp
   cases h1
   exact h2 harms hK
  ·obtain ⟨y,h1,h2⟩:=Ztj (P:=P) (rs:=rs) (β:=α) (Q:=Q) (kd:=.exit i) h0 hn' (fun e=>by cases e) hr' ho' hp
   cases h1
   exact h2 harms hK
  ·obtain ⟨y,h1,h2⟩:=Zcl (P:=P) (rs:=rs) (β:=α) (Q:=Q) h0 hn' hr' ho' hp
   cases h1
   exact h2 harms hK
 ·exact ih h hK
theorem Zyr {P:Program} {rs:List ResultVar} {c:Code} {α:Type} {a':Ann} {g:(β:Type)→Go β} {r:α}:∀ (k:Nat) {n:Nat} {f:Fr} {l:Lo} {K:Kt α} {a:Act} {w:World} {Q:Exit→Act→World→Prop},rounds g a' k f l n K=some r→Rel N G w0 v0 (· < n) f l a w→KOK P rs N G w0 v0 n f l K r Q →
  (∀ {β:Type} {a':Ann} {f':Fr} {l':Lo} {n':Nat} {K':Kt β} {r':β} {a:Act} {w:World} {Q':Exit→Act→World→Prop},g β a' f' l' n' K'=some r'→Rel N G w0 v0 (· < n') f' l' a w→KOK P rs N G w0 v0 n' f' l' K' r' Q'→c.wp P Q' a w)→Code.rounds P c Q k a w
 | 0,n,f,l,K,a,w,Q,h,_,_,_=>by cases h
 | k+1,n,f,l,K,a,w,Q,h,hr,hK,ih =>
  ZSw (ih (Q':=Exit.then (Code.rounds P c Q k) Q) h hr ⟨fun f' l' n' a' w' hp hn' ho' hr'=>Zyr k hp hr' (hK.step hn' ho') ih,fun i=>hK.exit i,hK.ret⟩)
theorem Z5u {P:Program} {rs:List ResultVar} {c:Code} {α:Type} {b n:Nat} {ann:Ann} {f:Fr} {l:Lo} {K:Kt α} {g:(β:Type)→Go β} {r:α} {a:Act} {w:World} {Q:Exit→Act→World→Prop} (h:loopI b ann f l n K g=some r) (hr:Rel N G w0 v0 (· < n) f l a w) (hK:KOK P rs N G w0 v0 n f l K r Q)
  (ih:∀ {β:Type} {a':Ann} {f':Fr} {l':Lo} {n':Nat} {K':Kt β} {r':β} {a:Act} {w:World} {Q':Exit→Act→World→Prop},g β a' f' l' n' K'=some r'→Rel N G w0 v0 (· < n') f' l' a w→KOK P rs N G w0 v0 n' f' l' K' r' Q'→c.wp P Q' a w):(Code.loop c).wp P Q a w:=by
 unfold loopI at h;split at h
 ·rename_i j ann';have h0:=hr.h0;obtain ⟨z,h1,h2,h3,h4⟩:=Z9j h0 (Nat.le_refl n) hr Old.refl h;obtain ⟨y,hl,harms⟩:=Z0 h1;refine Z7d hl (fun s a w=>n≤bN f l j.head s n∧Rel N G w0 v0 (· < bN f l j.head s n) (bF f l j.head s n) (bL b f l j.head s n) a w∧Old n f l (bF f l j.head s n) (bL b f l j.head s n)) ⟨h2,h3,h4⟩ ?_;rintro s a w st ⟨i1,i2,i3⟩ hst N' hN hR;rw [Z1j] at hst;refine ih hst i2 ⟨fun f' l' n' a' w' hp hn' ho' hr'=>?_,fun i f' l' n' a' w' hp hn' ho' hr'=>?_,fun c l' n' a' w' hp hn' ho' hr'=>?_⟩
  ·obtain ⟨x,k1,k2,k3,k4⟩:=Z9j h0 (Nat.le_trans i1 hn') hr' (i3.trans ho' i1) hp
   cases k1
   exact hN x rfl a' w' ⟨k2,k3,k4⟩
  ·obtain ⟨y',k1,k2⟩:=Ztj (P:=P) (rs:=rs) (β:=α) (Q:=Q) (kd:=.exit i) h0 (Nat.le_trans i1 hn') (fun e=>by cases e) hr' (i3.trans ho' i1) hp
   cases k1
   have:=hR y' rfl;subst this;exact k2 harms hK
  ·obtain ⟨y',k1,k2⟩:=Zcl (P:=P) (rs:=rs) (β:=α) (Q:=Q) h0 (Nat.le_trans i1 hn') hr' (i3.l.trans ho' i1) hp
   cases k1
   have:=hR y' rfl;subst this;exact k2 harms hK
 ·rename_i k ann';exact wp_loop_rounds k (Zyr k h hr hK ih)
 ·cases h
theorem Z8x {P:Program} {f:Fr} {l:Lo} {a:Act} {w:World} {γ:Nat→Gh} {v:Zb} {ℓ:List Loc} {n:Nat} (hr:RelX N G w0 v0 (· < n) (· < n) f l a w γ v ℓ) {q:ResultVar} {z:V} (h:Z1l f l P q=some z) (hz:∀ c,z ≠ .tup c):∃ cs,RR v γ l false z cs∧z.ok (· < n)∧Res P a.tmps w q (z.val cs):=by
 unfold Z1l at h;split at h
 ·rename_i t;split at h
  ·rename_i e he
   cases h
   obtain ⟨cs,h1,h2⟩:=Zzb (hr.fr t e he) hz;obtain ⟨σ,hσ,hev⟩:=hr.st.ev1 (.tmp t);exact ⟨cs,h1,(hr.uf t e he).1,by rw [← h2];exact ZK hσ hev⟩
  ·cases h
 ·rename_i x t;split at h
  ·rename_i k st u he;split at h
   ·rename_i k2 st2 ty c hu;split at h
    ·rename_i q hq;have hrv:=hr.fr x _ he;obtain ⟨y,hy0,_,hy⟩:=Zia hrv (fun _ e=>by cases e) rfl rfl
     cases hy0
     obtain ⟨b',g4,g5⟩:=hy _ hu;obtain ⟨hkk,es,hes,hmem⟩:=hr.loc hu;obtain ⟨b,cs,g1,g2,g3,rfl⟩:=hes;have hkk:k2=u:=hkk;subst hkk;have g1:γ k2 = .box b:=g1;rw [g1] at g4;cases g4;have hc:c.ok (· < n):=(hr.ul _ (Zs hu).1).2.2;obtain ⟨k1,k2',k3,k4,k5⟩:=ZBd FU h g2 hc;obtain ⟨i,hi⟩:=hmem _ (List.mem_singleton.2 rfl);have hlen:((cs.drop 0).take q.1).length=q.1:=by simp at k5 ⊢;omega
     have hw:=hr.st.box hi 0 ((cs.drop 0).take q.1) (by rw [hlen]);obtain ⟨σ,hσ,hev⟩:=hr.st.ev1 (.tmp x);have g5:a.eval (.tmp x)=_:=g5;rw [g5] at hev;have ht:=ZDf hq;refine ⟨_,k1,k2',?_⟩
     cases hag:z.isAgg with
     | true =>
      rw [← k4,hag] at ht;unfold V.val;rw [hag];exact ZOp hσ hev ht hlen hw
     | false =>
      rw [← k4,hag] at ht;have h1:=ZCd FU h hag;have e3:=Zhg k1 h1 hag;rw [← k3,h1] at ht;rw [e3] at hw;exact res_one hσ hev ht hw
    ·cases h
   ·cases h
  ·cases h
theorem Z9p {P:Program} {f:Fr} {l:Lo} {a:Act} {w:World} {γ:Nat→Gh} {v:Zb} {ℓ:List Loc} {n:Nat} (hr:RelX N G w0 v0 (· < n) (· < n) f l a w γ v ℓ):∀ {rs:List ResultVar} {c:V},ZMi f l P rs=some c→∃ vals,RR v γ l true c vals∧c.ok (· < n)∧Ress P a.tmps w rs vals
 | [],c,h=>by cases h;exact ⟨[],rfl,trivial,trivial⟩
 | q :: rs,c,h=>by
  simp only [ZMi] at h
  split at h
  ·cases h
  ·rename_i z c1 hnt h1 h2
   cases h
   obtain ⟨cs,k1,k2,k3⟩:=Z8x hr h1 (fun c e=>hnt c (by rw [e]))
   obtain ⟨vals,q1,q2,q3⟩:=Z9p hr h2
   exact ⟨_,⟨cs,vals,rfl,k1,q1⟩,⟨k2,q2⟩,k3,q3⟩
  ·cases h
theorem Zvt {id i:Nat} {Q:Exit→Act→World→Prop} {a:Act} {w:World} (h:(Nat.beq i id=true→Q .normal a w)∧(Nat.beq i id=false→Q (.exit i) a w)):Exit.inBlock id Q (.exit i) a w:=by
 cases hb:Nat.beq i id
 ·have hne:¬ i=id:=fun e=>by rw [e] at hb;simp at hb
  simp only [Exit.inBlock,if_neg hne];exact h.2 hb
 ·simp only [Exit.inBlock,if_pos (Nat.eq_of_beq_eq_true hb)];exact h.1 hb
theorem Z0f {C:Cf} (hC:CfOK C) {cf:CallF} (hcf:Zwg C cf) {rs:List ResultVar} {b:Nat}:∀ (c:Code) {α:Type} {ann:Ann} {f:Fr} {l:Lo} {n:Nat} {K:Kt α} {r:α} {Q:Exit→Act→World→Prop} {a:Act} {w:World},
  Zkb C cf rs b N c α ann f l n K=some r→Rel N G w0 v0 (· < n) f l a w→KOK C.P rs N G w0 v0 n f l K r Q→c.wp C.P Q a w:=by
 intro c
 induction c with
 | skip=>intro α ann f l n K r Q a w h hr hK;exact wp_skip (hK.norm f l n a w h (Nat.le_refl n) Old.refl hr)
 | label i=>intro α ann f l n K r Q a w h hr hK;exact wp_label (hK.norm f l n a w h (Nat.le_refl n) Old.refl hr)
 | region id ops draw =>
  intro α ann f l n K r Q a w hh hr hK;refine ZWj hh hr hK fun {β a' K' r'} h hK2=>?_;clear hh;split at h
  ·rename_i hds;exact wp_region_list (ZEi hC hcf (Z0i hds) h (fun o ho=>ho) hr hK2.norm)
  ·rename_i hds;split at h
   ·rename_i hm hb;split at h
    ·exact draw_ok hC hm hb (Z0i hds) h hr hK2.norm
    ·rename_i o ho;exact ZNx hC hcf ho hm hb (Z0i hds) h hr hK2.norm
   ·cases h
  ·cases h
 | seq x y ix iy =>
  intro α ann f l n K r Q a w h hr hK;refine ZWj h hr hK fun {β a' K' r'} h hK=>?_;refine wp_seq (ix h hr ⟨fun f' l' n' a' w' hp hn' ho' hr'=>iy hp hr' (hK.step hn' ho'),fun i=>hK.exit i,hK.ret⟩)
 | cond c x y ix iy =>
  intro α ann f l n K r Q a w h hr hK;refine ZWj h hr hK fun {β a' K' r'} h hK=>?_
  cases c with
  | tmp t =>
   simp only at h;split at h
   ·rename_i k s q he;have hk:k=t:=(Zs he).2;subst hk;obtain ⟨γ,v,ℓ,hr⟩:=hr;have hev:a.eval (.tmp k) = .bool q:=ZKf (hr.fr k _ he);have hdup:=RelX.dup hr he;have hold:=Old.dup (m:=n) (l:=l) he
    cases q with
    | true=>exact wp_cond_true hev (ix h ⟨γ,v,ℓ,hdup⟩ (hK.step (Nat.le_refl n) hold))
    | false=>exact wp_cond_false hev (iy h ⟨γ,v,ℓ,hdup⟩ (hK.step (Nat.le_refl n) hold))
   ·cases h
  | const v =>
   cases v with
   | bool b=>cases b with
    | true=>exact wp_cond_true rfl (ix h hr hK)
    | false=>exact wp_cond_false rfl (iy h hr hK)
   | _=>cases h
  | _=>cases h
 | block id x ix =>
  intro α ann f l n K r Q a w h hr hK;refine ZWj h hr hK fun {β a' K' r'} h hK=>?_;refine wp_block (ix h hr ⟨hK.norm,fun i f' l' n' a' w' hp hn' ho' hr'=>Zvt ⟨fun e=>?_,fun e=>?_⟩,hK.ret⟩)
  ·simp only [e] at hp;exact hK.norm f' l' n' a' w' hp hn' ho' hr'
  ·simp only [e] at hp;exact hK.exit i f' l' n' a' w' hp hn' ho' hr'
 | loop x ix =>
  intro α ann f l n K r Q a w h hr hK;exact Z5u h hr hK fun h hr hK=>ix h hr hK
 | scope x ix =>
  intro α ann f l n K r Q a w h hr hK;exact wp_scope_straight (ix h hr ⟨hK.norm,hK.exit,hK.ret⟩)
 | exit i=>intro α ann f l n K r Q a w h hr hK;exact wp_exit (hK.exit i f l n a w h (Nat.le_refl n) Old.refl hr)
 | ret =>
  intro α ann f l n K r Q a w h hr hK;simp only [Zkb] at h;split at h
  ·rename_i c hc;obtain ⟨γ,v,ℓ,hr⟩:=hr;obtain ⟨vals,k1,k2,k3⟩:=Z9p hr hc;exact wp_ret (hK.ret c l n a w h (Nat.le_refl n) (fun u e he _=>he) ⟨γ,v,ℓ,vals,⟨hr.st,fun t e he=>(by cases he),hr.lr,hr.nd,fun t e he=>(by cases he),hr.ul,hr.gh⟩,k1,k2,k3⟩)
  ·cases h
 | _=>intro α ann f l n K r Q a w h hr hK;cases h
end
end Go.Eng
namespace Go.Eng
open Go.RowKit
theorem St.afterB {K:Nat} {w0:Base} {v0:Zb} {σ:List (Nat×Value)} {ℓ es es':List Loc} {v v':Zb} {a:Act} {w w':World} (h:St K w0 v0 σ (es++ℓ) v a w) (x:ExtB ⟨w,es.filterMap Loc.blk⟩ w') (s:VStepB ⟨w,es.filterMap Loc.blk⟩ v w' v')
  (hh:∀ e ∈ es',e.holds w'∧∀ k,e.blk=some k→(w.heap.size≤k∨k ∈ es.filterMap Loc.blk)∧v' k=none) (hnd:(es'.filterMap Loc.blk).Nodup):St K w0 v0 σ (es'++ℓ) v' a w':=by
 have lentIn:∀ k,k ∈ es.filterMap Loc.blk→(w0.wd.heap.size≤k∨k ∈ w0.lent):=fun k hk=>by
  obtain ⟨e,he,hb⟩:=List.mem_filterMap.1 hk;exact ((h.loc e (List.mem_append_left _ he)).2 k hb).1
 have nl:∀ k,k<w0.wd.heap.size→k ∉ w0.lent→k ∉ es.filterMap Loc.blk:=fun k hk hl hm=>by
  rcases lentIn k hm with h' | h'
  ·omega
  ·exact hl h'
 have nd:=h.nd;rw [List.filterMap_append] at nd;have dis:=(List.nodup_append.1 nd).2.2;have oth:∀ y ∈ ℓ,∀ b',y.blk=some b'→b'<w.heap.size∧b' ∉ es.filterMap Loc.blk:=fun y hy b' hb=>by
  obtain ⟨c2,T2,hg2⟩:=Loc.blk_get (h.loc y (List.mem_append_right _ hy)).1 hb;refine ⟨Zvd hg2,fun hm=>?_⟩;exact dis b' hm b' (List.mem_filterMap.2 ⟨y,hy,hb⟩) rfl
 refine ⟨h.size,h.dfr,h.fr,⟨x.os.trans h.ext.os,x.tape.trans h.ext.tape,x.output.trans h.ext.output,Nat.le_trans h.ext.size x.size,fun k hk hl=>?_⟩,⟨Zb.le_trans h.vst.le s.le,s.vin,fun k hk hl=>?_⟩,fun y hy=>?_,?_⟩
 ·rw [x.block k (Nat.lt_of_lt_of_le hk h.ext.size) (nl k hk hl)];exact h.ext.block k hk hl
 ·rw [s.old k (Nat.lt_of_lt_of_le hk h.ext.size) (nl k hk hl)];exact h.vst.old k hk hl
 ·rcases List.mem_append.1 hy with hy | hy
  ·obtain ⟨h1,h2⟩:=hh y hy;refine ⟨h1,fun b hb=>⟨?_,(h2 b hb).2⟩⟩;rcases (h2 b hb).1 with h3 | h3
   ·exact .inl (Nat.le_trans h.ext.size h3)
   ·exact lentIn b h3
  ·obtain ⟨h1,h2⟩:=h.loc y (List.mem_append_right _ hy);have same:∀ b',y.blk=some b'→w'.heap[b']? = w.heap[b']?:=fun b' hb2=>by
    obtain ⟨o1,o3⟩:=oth y hy b' hb2;exact x.block b' o1 o3
   refine ⟨?_,fun b' hb2=>⟨(h2 b' hb2).1,?_⟩⟩
   ·cases y with
    | box b' T' cs=>show _=_;rw [same b' rfl];exact h1
    | own b' T' sz n cap cs =>
     cases b' with
     | none=>exact h1
     | some b' =>
      obtain ⟨q1,c,q2,q3⟩:=h1;exact ⟨q1,c,by rw [same b' rfl];exact q2,q3⟩
   ·obtain ⟨o1,o3⟩:=oth y hy b' hb2;rw [s.old b' o1 o3];exact (h2 b' hb2).2
 ·rw [List.filterMap_append];refine List.nodup_append.2 ⟨hnd,(List.nodup_append.1 nd).2.1,fun k hk k2 hk2 e=>?_⟩;subst e;obtain ⟨e',he',hb'⟩:=List.mem_filterMap.1 hk;obtain ⟨y,hy,hyb⟩:=List.mem_filterMap.1 hk2;obtain ⟨o1,o3⟩:=oth y hy k hyb;rcases ((hh e' he').2 k hb').1 with h3 | h3
  ·omega
  ·exact o3 h3
theorem Z6k {n:Nat}:∀ {l:Lo},Zei n l=true→∀ e ∈ l,∀ ty c,e.x = .box ty c→e.st<n
 | [],_,e,he,_,_,_=>by cases he
 | p :: r,h,e,he,ty,c,hx=>by
  unfold Zei at h
  rcases List.mem_cons.1 he with rfl | he
  ·split at h
   ·split at h
    ·rename_i hb
     exact of_decide_eq_true (by simpa [Nat.blt_eq] using hb)
    ·cases h
   ·rename_i hne
    exact absurd hx (hne ty c)
  ·split at h
   ·split at h
    ·exact Z6k h e he ty c hx
    ·cases h
   ·exact Z6k h e he ty c hx
theorem Z1v {P:Program} {g:FuncId} {cb:ConB} (hB:Zzf P g cb) {α:Type} {ags:V} {l:Lo} {n:Nat} {K:V→Lo→Nat→Option α} {r:α} (h:callB cb ags l n K=some r) {N:Nat} {G:V→Value→Prop} {w0:Base} {v0:Zb} {a:Act} {w:World} {γ:Nat→Gh} {v:Zb} {ℓ:List Loc} {vals:List Value}
  (hr:RelX N G w0 v0 (· < n) (· < n) [] l a w γ v ℓ) (has:RR v γ l true ags vals) (hk:ags.ok (· < n)):ZC P g∧Calls P g vals.toArray w fun e w'=>∃ y c l' n' γ' v' ℓ',e = .returned y∧K c l' n'=some r∧n≤n'∧(∀ f,Old n f l f l')∧RelX N G w0 v0 (· < n') (· < n') [] l' a w' γ' v' ℓ'∧RV v' γ' l' (ZJd c) y∧(ZJd c).ok (· < n'):=by
 unfold callB at h;split at h
 ·rename_i u rest;obtain ⟨cs,xs,rfl,hp,hrest⟩:=has;obtain ⟨y,rfl,_,hy⟩:=hp;have hu:u<n:=hk.1;have h1:=Zwi (Nat.le_refl n) Old.refl hr.nd (ZXg h);have hr1:RelX N G w0 v0 (· < n) (· < n+1) [] l a w γ v ℓ:=hr.mono (fun _ h=>h) fun k h=>(show k<n+1 by have:k<n:=h;omega);obtain ⟨x,l1,γ1,v1,ℓ1,h2,r1,le1,q1⟩:=ZSe (U:=(· < n)) (X:=(· < n+1)) (Nat.lt_irrefl n) (Nat.lt_succ_self n) h1 hr1 hk.2;obtain ⟨z,l2,γ2,v2,ℓ2,es,e0,h3,r2,hst,le2,hcrl,he0,hnone,hhead⟩:=ZGk (U:=(· < n)) (X:=(· < n+1)) (Nat.lt_irrefl n) (Nat.lt_succ_self n) (ex:=[]) hu h2 r1 r1.st;have hst:St N w0 v0 [] (es++ℓ2) v2 a w:=hst;obtain ⟨res,hF,h4,hold⟩:=h3;have le:=le1.trans le2;obtain ⟨b,c1,e1,hgb,hcr,hpl,hes⟩:=hcrl;obtain ⟨xh,hxh⟩:=hhead;obtain ⟨ey,hey,hce⟩:=le1.l u e0 hu he0;obtain ⟨b',hb1,hb2⟩:∃ b',γ u = .box b'∧y = .pointer (some ⟨b',0,none⟩):=by
   have hy:=hy ey hey;obtain ⟨kk,st,L⟩:=ey
   cases L with
   | box ty c=>exact hy
   | _=>exact hy.elim
  have hg1:γ1 u=γ u:=by
   rw [hxh] at hce;obtain ⟨kk,st,L⟩:=ey
   cases L with
   | box ty c=>exact hce
   | _=>exact hce.elim
  have hbb:b'=b:=by rw [hgb,hb1] at hg1;cases hg1;rfl
  subst hbb;subst hb2;have harg:=Zzm le2.v (q1 _ hrest);have hloc:∀ e ∈ es,e.holds w∧∀ k,e.blk=some k→v2 k=none:=fun e he=>by
   obtain ⟨t1,t2⟩:=hst.loc e (List.mem_append_left _ he);exact ⟨t1,fun k hk=>(t2 k hk).2⟩
  have hndes:(es.filterMap Loc.blk).Nodup:=by
   have:=hst.nd;rw [List.filterMap_append] at this;exact (List.nodup_append.1 this).1
  obtain ⟨hen,hret⟩:=hB w v2 b' es xs z x res hst.vin ⟨b',c1,e1,rfl,hcr,hpl,hes⟩ hloc hndes harg hF;refine ⟨hen,Calls.mono hret fun e w' ⟨y,v',e2,hext,hvs,hres,es',hcrl',hes',hnd'⟩=>?_⟩;have hstN:St N w0 v0 [] (es'++ℓ2) v' a w':=hst.afterB hext hvs hes' hnd';split at h4
  ·rename_i hbo;have hn1:∀ k,k<n→k<n+1:=fun k h=>by omega
   obtain ⟨k1,k2,k3,γ0,k4,k5⟩:=Zcn (hh:=0) hcrl' (Nat.lt_succ_of_lt hu) (Nat.zero_le _) (l2:=(Zba 0 (.box cb.ty cb.c) res.1 u (n+1)).1) (n2:=(Zba 0 (.box cb.ty cb.c) res.1 u (n+1)).2) rfl;have h4:K (ZYc cb.res res.2) ((Zba 0 (.box cb.ty cb.c) res.1 u (n+1)).1++l2) (Zba 0 (.box cb.ty cb.c) res.1 u (n+1)).2=some r:=h4;generalize (Zba 0 (.box cb.ty cb.c) res.1 u (n+1)).1=lI at k2 k3 k5 h4;generalize (Zba 0 (.box cb.ty cb.c) res.1 u (n+1)).2=m at k1 k2 h4;have hdis:∀ e ∈ l2,e.k ∉ lI.map En.k:=fun e he hm=>by
    obtain ⟨e',he',hkk⟩:=List.mem_map.1 hm;have h1:e.k<n+1:=(r2.ul e he).1;rcases (k2 e' he').1 with ⟨q,_⟩ | q
    ·have:=ZMg hnone;exact this (List.mem_map.2 ⟨e,he,by rw [← hkk,q]⟩)
    ·omega
   have hnd:((lI++l2).map En.k).Nodup:=Zuk k3 r2.nd hdis
   let γN:Nat→Gh:=fun k=>if k ∈ lI.map En.k then γ0 k else γ2 k
   have hγI:∀ e ∈ lI,γN e.k=γ0 e.k∧lkE (lI++l2) e.k=some e:=fun e he=>⟨if_pos (List.mem_map.2 ⟨e,he,rfl⟩),ZAd hnd (List.mem_append_left _ he)⟩;have hγ2:∀ e ∈ l2,γN e.k=γ2 e.k:=fun e he=>if_neg (hdis e he);obtain ⟨EI,hEI,hpI⟩:=k5 γN (lI++l2) hγI;obtain ⟨E2,hE2,hp2⟩:=r2.lr;have leN:Le (· < n) v γ l v' γN (lI++l2):=⟨Zb.le_trans le.v hvs.le,fun q e' hq he'=>by
    obtain ⟨hmem,hkk⟩:=Zs he';rcases List.mem_append.1 hmem with hm | hm
    ·rcases (k2 e' hm).1 with ⟨q1,xh2,q2⟩ | q1
     ·have hqu:q=u:=by rw [← hkk,q1]
      subst hqu;refine ⟨ey,hey,?_⟩;obtain ⟨ky,sy,Ly⟩:=ey;obtain ⟨k',s',L'⟩:=e';have q2:L' = .box cb.ty xh2:=q2;subst q2;have hyy:=hy _ hey
      cases Ly with
      | box ty c =>
       show γN q=γ q;have:=(hγI _ hm).1;have hkk:k'=q:=hkk;subst hkk;rw [this,hb1];exact k4
      | _=>exact hyy.elim
     ·have hq:q<n:=hq;omega
    ·have hl2:lkE l2 q=some e':=by rw [← hkk];exact ZAd r2.nd hm
     obtain ⟨e,q3,q4⟩:=le.l q e' hq hl2;refine ⟨e,q3,Zfn (fun k hk=>hk) ?_ q4⟩;rw [← hkk];exact hγ2 e' hm⟩
   have hS2:F2 (ZAa v' γN (lI++l2)) l2 E2:=hE2.impm fun e he es2 hes2 hR=>by
    have hin:∀ x ∈ es2,x ∈ ℓ2:=fun x hx=>hp2.mem_iff.2 (List.mem_flatten.2 ⟨es2,hes2,hx⟩);have hg:=hγ2 e he;obtain ⟨kk,st,L⟩:=e
    cases L with
    | box ty c =>
     obtain ⟨bb,cs2,g1,g2,g3,rfl⟩:=hR;have hst':st<n:=Z6k hbo _ he ty c rfl;have hlk:=ZAd r2.nd he;have hlk0:=hold.2 kk _ hlk hst';obtain ⟨jj,es0,t1,t2⟩:=hr.loc hlk0;obtain ⟨b0,cs0,d1,d2,d3,rfl⟩:=t1;have g1:γ2 kk = .box bb:=g1;have d1:γ kk = .box b0:=d1;have hkn:kk<n:=(hr.ul _ (Zs hlk0).1).1;obtain ⟨eE,q3,q4⟩:=le.l kk _ hkn hlk;rw [hlk0] at q3;cases q3;have q4:γ2 kk=γ kk:=q4;have hbb:bb=b0:=by rw [g1,d1] at q4;cases q4;rfl
     subst hbb;obtain ⟨i,hi⟩:=t2 _ (List.mem_singleton.2 rfl);have m1:=(hr.st.loc _ (List.mem_of_getElem? hi)).1;have m2:=(hst.loc _ (List.mem_append_right _ (hin _ (List.mem_singleton.2 rfl)))).1;have m1:w.heap[bb]? = some (.cells cs0.toArray ty (0,0)):=m1;have m2:w.heap[bb]? = some (.cells cs2.toArray ty (0,0)):=m2;rw [m1] at m2;have hcs:cs0=cs2:=by
      have:=Option.some.inj m2
      injection this with h1 _ _
      have:=congrArg Array.toList h1
      simpa using this
     subst hcs;exact ⟨bb,cs0,by rw [show γN kk=γ2 kk from hg];exact g1,Zqb leN (hr.ul _ (Zs hlk0).1).2.2 d2,d3,rfl⟩
    | own ty t xs fz =>
     cases fz with
     | false=>obtain ⟨ob,cap,d,g1,g2,g3⟩:=hR;exact ⟨ob,cap,d,by rw [show γN kk=γ2 kk from hg];exact g1,ZP hvs.le g2,g3⟩
     | true=>obtain ⟨ob,cap,g1,g2,g3⟩:=hR;exact ⟨ob,cap,by rw [show γN kk=γ2 kk from hg];exact g1,Rep.mono _ hvs.le g2,g3⟩
    | mat ty ty2 t mm hv=>obtain ⟨ob,cap,rows,es3,g1,g2,g3⟩:=hR;exact ⟨ob,cap,rows,es3,by rw [show γN kk=γ2 kk from hg];exact g1,ZUc hvs.le g2,g3⟩
    | mid ty ty2 t mm hv s=>obtain ⟨ob,cap,rows,es3,hs,es4,g1,g2,g3⟩:=hR;exact ⟨ob,cap,rows,es3,hs,es4,by rw [show γN kk=γ2 kk from hg];exact g1,ZUc hvs.le g2,g3⟩
   obtain ⟨t1,t2⟩:=ZLk (γ:=γN) (l:=lI++l2) (U:=(· < m)) hres;have up:∀ k,k<n→k<m:=fun k h=>by omega
   have up1:∀ k,k<n+1→k<m:=fun k h=>by omega
   refine ⟨y,_,_,_,γN,v',_,e2,h4,by omega,fun f=>⟨fun _ _ h _=>h,fun q e' he' hsq=>?_⟩,⟨hstN.perm (List.Perm.append hpI hp2),fun t e he=>(by cases he),⟨EI++E2,hEI.append hS2,by rw [List.flatten_append]⟩,hnd,fun t e he=>(by cases he),fun e he=>?_,fun x y hg=>⟨ZEb leN (hr.gh x y hg).2 (hr.gh x y hg).1,V.ok.mono up (hr.gh x y hg).2⟩⟩,t1,t2⟩
   ·obtain ⟨hmem,hkk⟩:=Zs he';rcases List.mem_append.1 hmem with hm | hm
    ·have:=(k2 e' hm).2.1;omega
    ·have hl2:lkE l2 q=some e':=by rw [← hkk];exact ZAd r2.nd hm
     exact hold.2 q e' hl2 hsq
   ·rcases List.mem_append.1 he with he | he
    ·obtain ⟨p1,p2,p3,p4⟩:=k2 e he;refine ⟨?_,p3,p4⟩;rcases p1 with ⟨p1,_⟩ | p1
     ·show e.k<m;omega
     ·exact p1.2
    ·obtain ⟨p1,p2,p3⟩:=r2.ul e he;exact ⟨up1 _ p1,up1 _ p2,LV.ok.mono up up1 p3⟩
  ·cases h4
 ·cases h
def Zfe:List Value→Value
 | [x]=>x
 | vs=>.tuple vs.toArray
theorem Zfs {P:Program} {tmps:Array Value} {w:World}:∀ {rs:List ResultVar} {vals:List Value},Ress P tmps w rs vals→(rs.mapM (ZOi tmps)).run P w = .ok vals w
 | [],[],_=>by simp
 | q :: rs,y :: vals,h=>by
  have h1:=ZQi h.1
  have h2:=Zfs (rs:=rs) (vals:=vals) h.2
  simp [List.mapM_cons,h1,h2]
 | [],_ :: _,h=>h.elim
 | _ :: _,[],h=>h.elim
theorem ZYe {P:Program} {fn:Func} {tmps:Array Value} {w:World} {vals:List Value} (h:Ress P tmps w fn.results.toList vals):(results fn tmps).run P w = .ok (Zfe vals) w:=by
 have h1:=Zfs h;rw [Zll];rw [Array.mapM_eq_mapM_toList]
 match vals with
 | []=>simp [h1,Zfe]
 | [x]=>simp [h1,Zfe]
 | x :: y :: r=>simp [h1,Zfe]
theorem oneV_ok {v:Zb} {γ:Nat→Gh} {l:Lo} {U:Nat→Prop} {c:V} {vals:List Value} (h:RR v γ l true c vals) (hk:c.ok U):RV v γ l (ZJd c) (Zfe vals)∧(ZJd c).ok U:=by
 cases c with
 | nl=>rw [show vals=[] from h];exact ⟨⟨[],rfl,rfl⟩,trivial⟩
 | cons a b =>
  obtain ⟨cs,xs,rfl,h1,h2⟩:=h
  cases b with
  | nl =>
   rw [show xs=[] from h2];exact ⟨Zfc h1 (fun c e=>by subst e;exact h1),hk.1⟩
  | cons a2 b2 =>
   obtain ⟨cs2,xs2,rfl,h3,h4⟩:=h2;exact ⟨⟨_,⟨cs,_,rfl,h1,cs2,xs2,rfl,h3,h4⟩,rfl⟩,hk⟩
  | _=>exact h2.elim
 | _=>exact h.elim
theorem ZFg:∀ {l:List Value} {k t:Nat} {y:Value},l[t]? = some y→look (Zbc k l) (k+t)=some y
 | [],_,_,_,h=>by simp at h
 | x :: l,k,0,y,h=>by
  simp at h;subst h
  exact Zve rfl
 | x :: l,k,t+1,y,h=>by
  have h1:=ZFg (l:=l) (k:=k+1) (t:=t) (y:=y) (by simpa using h)
  rw [show Zbc k (x :: l)=(k,x) :: Zbc (k+1) l from rfl,ZYg (by omega),show k+(t+1)=k+1+t by omega]
  exact h1
def ZLb (C:Cf) (inl:Inl):Prop:=∀ g p,ZR inl g=some p→C.P.funcs[g]? = some p.1∧ZC C.P g
theorem Zsi {C:Cf} (hC:CfOK C) {inl:Inl} (hinl:ZLb C inl) (d:Nat):Zwg C (Z6d C inl d):=by
 induction d with
 | zero=>intro α g ags l n K r h;cases h
 | succ d ih =>
  intro α g ags l n K r h N G w0 v0 a w γ v ℓ vals hr has hk;simp only [Z6d] at h;split at h
  ·rename_i cb hcb;exact Z1v (hC.b g cb hcb) h hr has hk
  ·split at h
   ·rename_i fn ann hg;obtain ⟨hf,hen⟩:=hinl g _ hg;split at h
    ·rename_i c hc hb;have hlen:=Zlq has;have hb:=Nat.le_of_ble_eq_true hb;have hx:=Z3t (N':=fn.ntmps) hr has hk (by rw [hlen];exact hb);refine ⟨hen,calls_of_wp hf hc ?_⟩;refine Z0f hC ih c h ⟨γ,v,ℓ,hx⟩ ⟨fun f' l' n' a' w' hp hn' ho' hr'=>?_,fun i f' l' n' a' w' hp hn' ho' hr'=>(by cases hp),fun c l' n' a' w' hp hn' ho' hr'=>?_⟩
     ·unfold endN at hp;split at hp
      ·rename_i hres;obtain ⟨γ',v',ℓ',hr'⟩:=hr';refine ⟨hr'.st.dfr,_,ZYe (vals:=[]) (by rw [hres];exact trivial),_,.nl,l',n',γ',v',ℓ',rfl,hp,by omega,fun f=>⟨fun _ _ h _=>h,ho'.l.mono (by omega)⟩,⟨⟨hr.st.size,hr.st.dfr,fun t x h=>(by cases h),hr'.st.ext,hr'.st.vst,hr'.st.loc,hr'.st.nd⟩,fun t e he=>(by cases he),hr'.lr,hr'.nd,fun t e he=>(by cases he),hr'.ul,hr'.gh⟩,?_⟩;exact ⟨⟨[],rfl,rfl⟩,trivial⟩
      ·cases hp
     ·obtain ⟨γ',v',ℓ',vals',hr',hc',hk',hres⟩:=hr';exact ⟨hr'.st.dfr,_,ZYe hres,_,c,l',n',γ',v',ℓ',rfl,hp,by omega,fun f=>⟨fun _ _ h _=>h,ho'.mono (by omega)⟩,⟨⟨hr.st.size,hr.st.dfr,fun t x h=>(by cases h),hr'.st.ext,hr'.st.vst,hr'.st.loc,hr'.st.nd⟩,fun t e he=>(by cases he),hr'.lr,hr'.nd,fun t e he=>(by cases he),hr'.ul,hr'.gh⟩,oneV_ok hc' hk'⟩
    ·cases h
   ·cases h
theorem ZMe {v:Zb} {γ:Nat→Gh} {l:Lo} {U:Nat→Prop}:∀ {ts:List T} {vals:List Value} {x:Zy ts},Zoa v ts vals x→RR v γ l true (ZMb ts x) vals∧(ZMb ts x).ok U∧vals.length=ts.length
 | [],_,_,h=>⟨h,trivial,by rw [show _=[] from h];rfl⟩
 | [t],_,x,⟨cs,h1,h2⟩=>⟨⟨cs,[],by rw [h1];exact congrArg (fun z=>[z]) (ZDe (t:=t) (x:=x) (cs:=cs)).symm,h2,rfl⟩,⟨trivial,trivial⟩,by rw [h1];rfl⟩
 | t :: u :: r,_,x,⟨cs,vs,h1,h2,h3⟩=>by
  obtain ⟨k1,k2,k3⟩:=ZMe (γ:=γ) (l:=l) (U:=U) h3
  exact ⟨⟨cs,vs,by rw [h1];exact congrArg (· :: vs) (ZDe (t:=t) (x:=x.1) (cs:=cs)).symm,h2,k1⟩,⟨trivial,k2⟩,by rw [h1];simp [k3]⟩
theorem ZTq {v:Zb}:∀ {ts:List T} {vals:List Value} {z:Zy ts},Zoa v ts vals z→Z3d v ts (Zfe vals) z
 | [],_,_,h=>by rw [show _=[] from h];exact ⟨[],rfl,rfl⟩
 | [t],_,x,⟨cs,h1,h2⟩=>by rw [h1];exact ⟨cs,rfl,h2⟩
 | t :: u :: r,vals,x,h=>by
  obtain ⟨cs,vs,h1,h2,h3⟩:=h
  have hl:1≤vs.length:=by
   cases r with
   | nil=>obtain ⟨cs2,e,_⟩:=h3;rw [e];simp
   | cons u2 r2=>obtain ⟨cs2,vs2,e,_⟩:=h3;rw [e];simp
  have e:Zfe vals = .tuple vals.toArray:=by
   subst h1
   cases vs with
   | nil=>simp at hl
   | cons y ys=>rfl
  rw [e];exact ⟨vals,rfl,cs,vs,h1,h2,h3⟩
theorem ZMk {C:Cf} (hC:CfOK C) {inl:Inl} (hinl:ZLb C inl) {f:FuncId} {fn:Func} {ann:Ann} {ats rts:List T} {x:Zy ats} {z:Zy rts} (hf:C.P.funcs[f]? = some fn) (hl:Nat.ble ats.length fn.ntmps=true) (h:ZYh C inl fn ann ats rts x=some z)
  {w:World} {v:Zb} {vals:List Value} (hv:VIn v w) (ha:Zoa v ats vals x):Ret C.P f vals.toArray w v fun y v'=>Z3d v' rts y z:=by
 unfold ZYh at h;split at h
 ·rename_i c hc;obtain ⟨h1,h2,h3⟩:=ZMe (γ:=fun _=>.box 0) (l:=[]) (U:=(· < 0)) ha;have hK:vals.length≤fn.ntmps:=by rw [h3];exact Nat.le_of_ble_eq_true hl
  refine Ztb hv hf hc rfl hK fun a hS=>?_;have hr:RelX fn.ntmps (fun _ _=>False) w v (· < 1) (· < 1) (Z0a 0 0 (ZMb ats x)) [] a w (fun _=>.box 0) v []:=by
   refine ⟨⟨hS.size,hS.dfr,fun t x h=>(by cases h),hS.ext,hS.vst,hS.loc,hS.nd⟩,fun t e he=>?_,⟨[],trivial,List.Perm.refl _⟩,List.nodup_nil,fun t e he=>?_,fun e he=>(by cases he),fun x y h=>h.elim⟩
   ·obtain ⟨y,q1,q2,q3,q4,q5⟩:=ZTb h1 h2 he;have:=hS.fr t y ?_
    ·rw [this];exact q3
    ·have q2:vals[t-0]? = some y:=q2;have:=ZFg (k:=0) (t:=t) (y:=y) (by simpa using q2)
     rwa [Nat.zero_add] at this
   ·obtain ⟨y,q1,q2,q3,q4,q5⟩:=ZTb h1 h2 he;exact ⟨V.ok.mono (fun k h=>absurd h (Nat.not_lt_zero k)) q4,by show e.st<1;omega⟩
  refine Z0f hC (Zsi hC hinl 20) c h ⟨_,_,_,hr⟩ ⟨fun f' l' n' a' w' hp hn' ho' hr'=>(by cases hp),fun i f' l' n' a' w' hp hn' ho' hr'=>(by cases hp),fun c l' n' a' w' hp hn' ho' hr'=>?_⟩;obtain ⟨γ',v',ℓ',vals',hr',hc',hk',hres⟩:=hr';have hr2:RelX fn.ntmps (fun _ _=>False) w v (· < n') (· < n'+1) [] l' a' w' γ' v' ℓ':=hr'.mono (fun _ h=>h) fun k h=>(show k<n'+1 by have:k<n':=h;omega);obtain ⟨y,l2,γ2,v2,ℓ2,k1,k2,k3,k4⟩:=ZSe (U:=(· < n')) (X:=(· < n'+1)) (Nat.lt_irrefl n') (Nat.lt_succ_self n') (ZXg hp) hr2 hk';have k1:some y=some z:=k1
  cases k1
  exact ⟨k2.st.dfr,_,ZYe hres,_,v2,rfl,k2.st.ext.ext,k2.st.vst.ext,ZTq (k4 _ hc')⟩
 ·cases h
def CL (P:Program):List (FuncId×Con)→Prop
 | []=>True
 | p :: r=>ZId P p.1 p.2∧CL P r
def OL (P:Program):List (FuncId×ConO)→Prop
 | []=>True
 | p :: r=>ZBe P p.1 p.2∧OL P r
def IL (P:Program):List (FuncId×ConI)→Prop
 | []=>True
 | p :: r=>Zmk P p.1 p.2∧IL P r
def ML (P:Program):List ((TypeId×String)×FuncId)→Prop
 | []=>True
 | p :: r=>(∀ y w,(method (P.types.size+Made.depth) p.1.1 y p.1.2).run P w = .ok (p.2,y) w)∧ML P r
def NL (P:Program):Inl→Prop
 | []=>True
 | p :: r=>(P.funcs[p.1]? = some p.2.1∧ZC P p.1)∧NL P r
theorem CL_ok {P:Program}:∀ {l:List (FuncId×Con)},CL P l→∀ f c,ZR l f=some c→ZId P f c
 | [],_,_,_,h=>by cases h
 | p :: r,hl,f,c,h=>by
  simp only [ZR] at h
  split at h
  ·rename_i hb;cases h;rw [← Nat.eq_of_beq_eq_true hb];exact hl.1
  ·exact CL_ok hl.2 f c h
theorem OL_ok {P:Program}:∀ {l:List (FuncId×ConO)},OL P l→∀ f c,ZR l f=some c→ZBe P f c
 | [],_,_,_,h=>by cases h
 | p :: r,hl,f,c,h=>by
  simp only [ZR] at h
  split at h
  ·rename_i hb;cases h;rw [← Nat.eq_of_beq_eq_true hb];exact hl.1
  ·exact OL_ok hl.2 f c h
theorem IL_ok {P:Program}:∀ {l:List (FuncId×ConI)},IL P l→∀ f c,ZR l f=some c→Zmk P f c
 | [],_,_,_,h=>by cases h
 | p :: r,hl,f,c,h=>by
  simp only [ZR] at h
  split at h
  ·rename_i hb;cases h;rw [← Nat.eq_of_beq_eq_true hb];exact hl.1
  ·exact IL_ok hl.2 f c h
theorem ML_ok {P:Program}:∀ {l:List ((TypeId×String)×FuncId)},ML P l→∀ t s f,lkM l t s=some f→∀ y w,(method (P.types.size+Made.depth) t y s).run P w = .ok (f,y) w
 | [],_,_,_,_,h=>by cases h
 | p :: r,hl,t,s,f,h=>by
  simp only [lkM] at h
  split at h
  ·rename_i hb hs
   cases h
   rw [← Nat.eq_of_beq_eq_true hb,← eq_of_beq hs];exact hl.1
  ·exact ML_ok hl.2 t s f h
def QL (P:Program):List (FuncId×ConM)→Prop
 | []=>True
 | p :: r=>ZAg P p.1 p.2∧QL P r
theorem QL_ok {P:Program}:∀ {l:List (FuncId×ConM)},QL P l→∀ f c,ZR l f=some c→ZAg P f c
 | [],_,_,_,h=>by cases h
 | p :: r,hl,f,c,h=>by
  simp only [ZR] at h
  split at h
  ·rename_i hb;cases h;rw [← Nat.eq_of_beq_eq_true hb];exact hl.1
  ·exact QL_ok hl.2 f c h
def BL (P:Program):List (FuncId×ConB)→Prop
 | []=>True
 | p :: r=>Zzf P p.1 p.2∧BL P r
theorem BL_ok {P:Program}:∀ {l:List (FuncId×ConB)},BL P l→∀ f c,ZR l f=some c→Zzf P f c
 | [],_,_,_,h=>by cases h
 | p :: r,k,f,c,h=>by
  simp only [ZR] at h
  split at h
  ·rename_i hb
   cases h
   rw [← Nat.eq_of_beq_eq_true hb];exact k.1
  ·exact BL_ok k.2 f c h
def DL (P:Program):List (FuncId×ConD)→Prop
 | []=>True
 | p :: r=>Zlg P p.1 p.2∧DL P r
theorem DL_ok {P:Program}:∀ {l:List (FuncId×ConD)},DL P l→∀ f c,ZR l f=some c→Zlg P f c
 | [],_,_,_,h=>by cases h
 | p :: r,k,f,c,h=>by
  simp only [ZR] at h
  split at h
  ·rename_i hb
   cases h
   rw [← Nat.eq_of_beq_eq_true hb];exact k.1
  ·exact DL_ok k.2 f c h
def PL (P:Program):List (FuncId×ConP)→Prop
 | []=>True
 | p :: r=>Zgg P p.1 p.2∧PL P r
theorem PL_ok {P:Program}:∀ {l:List (FuncId×ConP)},PL P l→∀ f c,ZR l f=some c→Zgg P f c
 | [],_,_,_,h=>by cases h
 | p :: r,k,f,c,h=>by
  simp only [ZR] at h
  split at h
  ·rename_i hb
   cases h
   rw [← Nat.eq_of_beq_eq_true hb];exact k.1
  ·exact PL_ok k.2 f c h
theorem CfOK.of {C:Cf} (hc:CL C.P C.cons) (ho:OL C.P C.owns) (hi:IL C.P C.ins) (hm:ML C.P C.meths) (hq:QL C.P C.omats:=by exact trivial) (hb:BL C.P C.boxs:=by exact trivial) (hd:DL C.P C.dels:=by exact trivial) (hpo:PL C.P C.pows:=by exact trivial):CfOK C:=⟨CL_ok hc,OL_ok ho,IL_ok hi,ML_ok hm,QL_ok hq,BL_ok hb,DL_ok hd,PL_ok hpo⟩
theorem ZLb.of {C:Cf}:∀ {l:Inl},NL C.P l→ZLb C l
 | [],_,_,_,h=>by cases h
 | p :: r,hl,g,q,h=>by
  simp only [ZR] at h
  split at h
  ·rename_i hb;cases h;rw [← Nat.eq_of_beq_eq_true hb];exact hl.1
  ·exact ZLb.of (l:=r) hl.2 g q h
def endO (ty:TypeId) (t:T) (c:V) (l:Lo):Option (List t.den):=match c with
 | .cons (.own u) .nl=>match lkE l u with
  | some ⟨_,_,.own ty' t' xs false⟩=>match Nat.beq ty' ty with
   | true=>Z4b t' t xs
   | false=>none
  | _=>none
 | _=>none
def ZSj (C:Cf) (inl:Inl) (fn:Func) (ann:Ann) (ats:List T) (ty:TypeId) (t:T) (x:Zy ats):Option (List t.den):=match fn.body with
 | some c=>Zkb C (Z6d C inl 20) fn.results.toList 0 fn.ntmps c _ ann (Z0a 0 0 (ZMb ats x)) [] 1 ⟨fun _ _ _=>none,fun _ _ _ _=>none,fun c l _=>endO ty t c l⟩
 | none=>none
theorem ZWw {C:Cf} (hC:CfOK C) {inl:Inl} (hinl:ZLb C inl) {f:FuncId} {fn:Func} {ann:Ann} {ats:List T} {ty:TypeId} {t:T} {x:Zy ats} {z:List t.den} (hf:C.P.funcs[f]? = some fn) (hl:Nat.ble ats.length fn.ntmps=true) (h:ZSj C inl fn ann ats ty t x=some z)
  {w:World} {v:Zb} {vals:List Value} (hv:VIn v w) (ha:Zoa v ats vals x):RetO C.P f vals.toArray w v fun y v' w'=>OwnR t.rep ty t.n z w y v' w':=by
 unfold ZSj at h;split at h
 ·rename_i c hc;obtain ⟨h1,h2,h3⟩:=ZMe (γ:=fun _=>.box 0) (l:=[]) (U:=(· < 0)) ha;have hK:vals.length≤fn.ntmps:=by rw [h3];exact Nat.le_of_ble_eq_true hl
  refine ZKh hv hf hc rfl hK fun a hS=>?_;have hr:RelX fn.ntmps (fun _ _=>False) w v (· < 1) (· < 1) (Z0a 0 0 (ZMb ats x)) [] a w (fun _=>.box 0) v []:=by
   refine ⟨⟨hS.size,hS.dfr,fun t x h=>(by cases h),hS.ext,hS.vst,hS.loc,hS.nd⟩,fun t e he=>?_,⟨[],trivial,List.Perm.refl _⟩,List.nodup_nil,fun t e he=>?_,fun e he=>(by cases he),fun x y h=>h.elim⟩
   ·obtain ⟨y,q1,q2,q3,q4,q5⟩:=ZTb h1 h2 he;have:=hS.fr t y ?_
    ·rw [this];exact q3
    ·have q2:vals[t-0]? = some y:=q2;have:=ZFg (k:=0) (t:=t) (y:=y) (by simpa using q2)
     rwa [Nat.zero_add] at this
   ·obtain ⟨y,q1,q2,q3,q4,q5⟩:=ZTb h1 h2 he;exact ⟨V.ok.mono (fun k h=>absurd h (Nat.not_lt_zero k)) q4,by show e.st<1;omega⟩
  refine Z0f hC (Zsi hC hinl 20) c h ⟨_,_,_,hr⟩ ⟨fun f' l' n' a' w' hp hn' ho' hr'=>(by cases hp),fun i f' l' n' a' w' hp hn' ho' hr'=>(by cases hp),fun c l' n' a' w' hp hn' ho' hr'=>?_⟩;obtain ⟨γ',v',ℓ',vals',hr',hc',hk',hres⟩:=hr';have hp:endO ty t c l'=some z:=hp;unfold endO at hp;split at hp
  ·rename_i u;split at hp
   ·rename_i kk st ty' t' xs he;split at hp
    ·rename_i hty;have hty:=Nat.eq_of_beq_eq_true hty;subst hty;obtain ⟨e1,e2⟩:=ZZ hp
     cases e1;cases e2
     obtain ⟨c1,xs1,rfl,⟨y,rfl,_,hy⟩,hx1⟩:=hc';have hx1:xs1=[]:=hx1;subst hx1;obtain ⟨ob,cap,g1,rfl⟩:=hy _ he;obtain ⟨hkk,es,hes,hmem⟩:=hr'.loc he;have hkk:kk=_:=hkk;subst hkk;obtain ⟨ob',cap',cs,q1,q2,rfl⟩:=hes;have q1:γ' kk = .own ob' cap':=q1;rw [g1] at q1;cases q1;obtain ⟨jj,hj⟩:=hmem _ List.mem_cons_self;obtain ⟨hh,hb⟩:=hr'.st.loc _ (List.mem_of_getElem? hj);refine ⟨hr'.st.dfr,_,ZYe hres,_,v',rfl,hr'.st.ext.ext,hr'.st.vst.ext,ob,_,cap,cs,rfl,hh,fun b e=>?_,q2,rfl⟩;obtain ⟨h1,h2⟩:=hb b e;rcases h1 with h1 | h1
     ·exact ⟨h1,h2⟩
     ·cases h1
    ·cases hp
   ·cases hp
  ·cases hp
 ·cases h
theorem cono_k {C:Cf} (hc:CL C.P C.cons) (ho:OL C.P C.owns) (hi:IL C.P C.ins) (hm:ML C.P C.meths) {inl:Inl} (hn:NL C.P inl) {f:FuncId} {fn:Func} {ann:Ann} {con:ConO} (hf:C.P.funcs[f]? = some fn) (hen:ZC C.P f) (hl:Nat.ble con.args.length fn.ntmps=true)
  (h:∀ x z,con.F x=some z→ZSj C inl fn ann con.args con.ty con.t x=some z) (hq:QL C.P C.omats:=by exact trivial) (hb:BL C.P C.boxs:=by exact trivial) (hd:DL C.P C.dels:=by exact trivial) (hpo:PL C.P C.pows:=by exact trivial):ZBe C.P f con :=
 fun _ _ _ x z hv ha hz=>⟨hen,ZWw (CfOK.of hc ho hi hm hq hb hd hpo) (ZLb.of hn) hf hl (h x z hz) hv ha⟩
def ZDk:(ts:List T)→V→Option (Zy ts)
 | [],.nl=>some ()
 | [t],.cons (.data s x) .nl=>T.cast s t x
 | t :: u :: r,.cons (.data s x) c=>Z0g (T.cast s t x) (ZDk (u :: r) c)
 | _,_=>none
theorem Zro {v:Zb} {γ:Nat→Gh} {l:Lo}:∀ {ts:List T} {c:V} {z:Zy ts} {vals:List Value},ZDk ts c=some z→RR v γ l true c vals→Zoa v ts vals z
 | [],c,z,vals,h,hr=>by
  cases c with
  | nl=>exact hr
  | _=>cases h
 | [t],c,z,vals,h,hr=>by
  cases c with
  | cons a b =>
   cases a with
   | data s x =>
    cases b with
    | nl =>
     obtain ⟨cs,xs,rfl,h1,h2⟩:=hr
     have h2:xs=[]:=h2
     subst h2
     have h:T.cast s t x=some z:=h
     obtain ⟨e1,e2⟩:=ZZ h
     subst e1
     have e2:x=z:=e2
     subst e2
     exact ⟨cs,congrArg (fun z=>[z]) (ZDe (t:=s) (x:=x) (cs:=cs)),h1⟩
    | _=>cases h
   | _=>cases h
  | _=>cases h
 | t :: u :: r,c,z,vals,h,hr=>by
  cases c with
  | cons a b =>
   cases a with
   | data s x =>
    obtain ⟨cs,xs,rfl,h1,h2⟩:=hr
    have h:Z0g (T.cast s t x) (ZDk (u :: r) b)=some z:=h
    obtain ⟨y1,y2⟩:=z
    obtain ⟨k1,k2⟩:=Z2m h
    obtain ⟨e1,e2⟩:=ZZ k1
    subst e1
    have e2:x=y1:=e2
    subst e2
    exact ⟨cs,xs,congrArg (· :: xs) (ZDe (t:=s) (x:=x) (cs:=cs)),h1,Zro k2 h2⟩
   | _=>cases h
  | _=>cases h
def endP (ty:TypeId) (t:T) (rts:List T) (c:V) (l:Lo):Option (List t.den×Zy rts):=match c with
 | .cons (.own u) rest=>match lkE l u with
  | some ⟨_,_,.own ty' t' xs false⟩=>match Nat.beq ty' ty with
   | true=>Z0g (Z4b t' t xs) (ZDk rts rest)
   | false=>none
  | _=>none
 | _=>none
def Zyi (C:Cf) (inl:Inl) (fn:Func) (ann:Ann) (ats:List T) (ty:TypeId) (t:T) (rts:List T) (x:Zy ats):Option (List t.den×Zy rts):=match fn.body with
 | some c=>Zkb C (Z6d C inl 20) fn.results.toList 0 fn.ntmps c _ ann (Z0a 0 0 (ZMb ats x)) [] 1 ⟨fun _ _ _=>none,fun _ _ _ _=>none,fun c l _=>endP ty t rts c l⟩
 | none=>none
theorem Zqt {y:Value} {xs:List Value} {v:Zb} {ts:List T} {z:Zy ts} (hne:ts≠[]) (h:Zoa v ts xs z):Zfe (y :: xs) = .tuple (y :: xs).toArray:=by
 cases ts with
 | nil=>exact absurd rfl hne
 | cons t r =>
  cases r with
  | nil =>
   obtain ⟨cs,h1,_⟩:=h;rw [h1];rfl
  | cons u r =>
   obtain ⟨cs,vs,h1,_⟩:=h;rw [h1];rfl
theorem Zov {C:Cf} (hC:CfOK C) {inl:Inl} (hinl:ZLb C inl) {f:FuncId} {fn:Func} {ann:Ann} {ats:List T} {ty:TypeId} {t:T} {rts:List T} {x:Zy ats} {z:List t.den×Zy rts} (hf:C.P.funcs[f]? = some fn) (hl:Nat.ble ats.length fn.ntmps=true) (hne:rts≠[]) (h:Zyi C inl fn ann ats ty t rts x=some z)
  {w:World} {v:Zb} {vals:List Value} (hv:VIn v w) (ha:Zoa v ats vals x):RetO C.P f vals.toArray w v (OwnPR ty t rts z w):=by
 unfold Zyi at h;split at h
 ·rename_i c hc;obtain ⟨h1,h2,h3⟩:=ZMe (γ:=fun _=>.box 0) (l:=[]) (U:=(· < 0)) ha;have hK:vals.length≤fn.ntmps:=by rw [h3];exact Nat.le_of_ble_eq_true hl
  refine ZKh hv hf hc rfl hK fun a hS=>?_;have hr:RelX fn.ntmps (fun _ _=>False) w v (· < 1) (· < 1) (Z0a 0 0 (ZMb ats x)) [] a w (fun _=>.box 0) v []:=by
   refine ⟨⟨hS.size,hS.dfr,fun t x h=>(by cases h),hS.ext,hS.vst,hS.loc,hS.nd⟩,fun t e he=>?_,⟨[],trivial,List.Perm.refl _⟩,List.nodup_nil,fun t e he=>?_,fun e he=>(by cases he),fun x y h=>h.elim⟩
   ·obtain ⟨y,q1,q2,q3,q4,q5⟩:=ZTb h1 h2 he;have:=hS.fr t y ?_
    ·rw [this];exact q3
    ·have q2:vals[t-0]? = some y:=q2;have:=ZFg (k:=0) (t:=t) (y:=y) (by simpa using q2)
     rwa [Nat.zero_add] at this
   ·obtain ⟨y,q1,q2,q3,q4,q5⟩:=ZTb h1 h2 he;exact ⟨V.ok.mono (fun k h=>absurd h (Nat.not_lt_zero k)) q4,by show e.st<1;omega⟩
  refine Z0f hC (Zsi hC hinl 20) c h ⟨_,_,_,hr⟩ ⟨fun f' l' n' a' w' hp hn' ho' hr'=>(by cases hp),fun i f' l' n' a' w' hp hn' ho' hr'=>(by cases hp),fun c l' n' a' w' hp hn' ho' hr'=>?_⟩;obtain ⟨γ',v',ℓ',vals',hr',hc',hk',hres⟩:=hr';have hp:endP ty t rts c l'=some z:=hp;unfold endP at hp;split at hp
  ·rename_i u rest;split at hp
   ·rename_i kk st ty' t' xs he;split at hp
    ·rename_i hty;have hty:=Nat.eq_of_beq_eq_true hty;subst hty;obtain ⟨z1,z2⟩:=z;obtain ⟨hz1,hz2⟩:=Z2m hp;obtain ⟨e1,e2⟩:=ZZ hz1
     cases e1;cases e2
     obtain ⟨c1,xs1,rfl,⟨y,rfl,_,hy⟩,hx1⟩:=hc';have hd2:=Zro hz2 hx1;obtain ⟨ob,cap,g1,rfl⟩:=hy _ he;obtain ⟨hkk,es,hes,hmem⟩:=hr'.loc he;have hkk:kk=_:=hkk;subst hkk;obtain ⟨ob',cap',cs,q1,q2,rfl⟩:=hes;have q1:γ' kk = .own ob' cap':=q1;rw [g1] at q1;cases q1;obtain ⟨jj,hj⟩:=hmem _ List.mem_cons_self;obtain ⟨hh,hb⟩:=hr'.st.loc _ (List.mem_of_getElem? hj);refine ⟨hr'.st.dfr,_,ZYe hres,_,v',congrArg Ending.returned (Zqt (xs:=xs1) hne hd2),hr'.st.ext.ext,hr'.st.vst.ext,_,xs1,rfl,⟨ob,_,cap,cs,rfl,hh,fun b e=>?_,q2,rfl⟩,hd2⟩;obtain ⟨h1,h2⟩:=hb b e;rcases h1 with h1 | h1
     ·exact ⟨h1,h2⟩
     ·cases h1
    ·cases hp
   ·cases hp
  ·cases hp
 ·cases h
theorem conp_k {C:Cf} (hc:CL C.P C.cons) (ho:OL C.P C.owns) (hi:IL C.P C.ins) (hm:ML C.P C.meths) {inl:Inl} (hn:NL C.P inl) {f:FuncId} {fn:Func} {ann:Ann} {con:ConP} (hf:C.P.funcs[f]? = some fn) (hen:ZC C.P f) (hl:Nat.ble con.args.length fn.ntmps=true) (hne:con.res≠[])
  (h:∀ x z,con.F x=some z→Zyi C inl fn ann con.args con.ty con.t con.res x=some z) (hq:QL C.P C.omats:=by exact trivial) (hb:BL C.P C.boxs:=by exact trivial) (hd:DL C.P C.dels:=by exact trivial) (hpo:PL C.P C.pows:=by exact trivial):Zgg C.P f con :=
 fun _ _ _ x z hv ha hz=>⟨hen,Zov (CfOK.of hc ho hi hm hq hb hd hpo) (ZLb.of hn) hf hl hne (h x z hz) hv ha⟩
def endM (ty ty2:TypeId) (t:T) (c:V) (l:Lo):Option (List (List t.den)):=match c with
 | .cons (.own u) .nl=>match lkE l u with
  | some ⟨_,_,.mat ty' ty2' t' m _⟩=>match Nat.beq ty' ty,Nat.beq ty2' ty2 with
   | true,true=>ZAb t' t m
   | _,_=>none
  | _=>none
 | _=>none
def ZOj (C:Cf) (inl:Inl) (fn:Func) (ann:Ann) (ats:List T) (ty ty2:TypeId) (t:T) (x:Zy ats):Option (List (List t.den)):=match fn.body with
 | some c=>Zkb C (Z6d C inl 20) fn.results.toList 0 fn.ntmps c _ ann (Z0a 0 0 (ZMb ats x)) [] 1 ⟨fun _ _ _=>none,fun _ _ _ _=>none,fun c l _=>endM ty ty2 t c l⟩
 | none=>none
theorem Zlx {ℓ es:List Loc} {E:List Loc} (h:(ℓ.filterMap Loc.blk).Nodup) (hp:ℓ.Perm (es++E)):(es.filterMap Loc.blk).Nodup:=by
 have h1:=(hp.filterMap Loc.blk).nodup_iff.1 h;rw [List.filterMap_append] at h1;exact (List.nodup_append.1 h1).1
theorem Zww {C:Cf} (hC:CfOK C) {inl:Inl} (hinl:ZLb C inl) {f:FuncId} {fn:Func} {ann:Ann} {ats:List T} {ty ty2:TypeId} {t:T} {x:Zy ats} {z:List (List t.den)} (hf:C.P.funcs[f]? = some fn) (hl:Nat.ble ats.length fn.ntmps=true) (h:ZOj C inl fn ann ats ty ty2 t x=some z)
  {w:World} {v:Zb} {vals:List Value} (hv:VIn v w) (ha:Zoa v ats vals x):RetO C.P f vals.toArray w v (OwnM ty ty2 t z w):=by
 unfold ZOj at h;split at h
 ·rename_i c hc;obtain ⟨h1,h2,h3⟩:=ZMe (γ:=fun _=>.box 0) (l:=[]) (U:=(· < 0)) ha;have hK:vals.length≤fn.ntmps:=by rw [h3];exact Nat.le_of_ble_eq_true hl
  refine ZKh hv hf hc rfl hK fun a hS=>?_;have hr:RelX fn.ntmps (fun _ _=>False) w v (· < 1) (· < 1) (Z0a 0 0 (ZMb ats x)) [] a w (fun _=>.box 0) v []:=by
   refine ⟨⟨hS.size,hS.dfr,fun t x h=>(by cases h),hS.ext,hS.vst,hS.loc,hS.nd⟩,fun t e he=>?_,⟨[],trivial,List.Perm.refl _⟩,List.nodup_nil,fun t e he=>?_,fun e he=>(by cases he),fun x y h=>h.elim⟩
   ·obtain ⟨y,q1,q2,q3,q4,q5⟩:=ZTb h1 h2 he;have:=hS.fr t y ?_
    ·rw [this];exact q3
    ·have q2:vals[t-0]? = some y:=q2;have:=ZFg (k:=0) (t:=t) (y:=y) (by simpa using q2)
     rwa [Nat.zero_add] at this
   ·obtain ⟨y,q1,q2,q3,q4,q5⟩:=ZTb h1 h2 he;exact ⟨V.ok.mono (fun k h=>absurd h (Nat.not_lt_zero k)) q4,by show e.st<1;omega⟩
  refine Z0f hC (Zsi hC hinl 20) c h ⟨_,_,_,hr⟩ ⟨fun f' l' n' a' w' hp hn' ho' hr'=>(by cases hp),fun i f' l' n' a' w' hp hn' ho' hr'=>(by cases hp),fun c l' n' a' w' hp hn' ho' hr'=>?_⟩;obtain ⟨γ',v',ℓ',vals',hr',hc',hk',hres⟩:=hr';have hp:endM ty ty2 t c l'=some z:=hp;unfold endM at hp;split at hp
  ·rename_i u;split at hp
   ·rename_i kk st ty' ty2' t' m' hv' he;split at hp
    ·rename_i hty hty2;have hty:=Nat.eq_of_beq_eq_true hty;have hty2:=Nat.eq_of_beq_eq_true hty2;subst hty hty2;obtain ⟨e1,e2⟩:=ZZ hp
     cases e1;cases e2
     obtain ⟨c1,xs1,rfl,⟨y,rfl,_,hy⟩,hx1⟩:=hc';have hx1:xs1=[]:=hx1;subst hx1;obtain ⟨ob,cap,rows0,g1,rfl⟩:=hy _ he;obtain ⟨E,hE,hpm⟩:=hr'.lr;obtain ⟨es,E',r1,r2,r3⟩:=Zwf hE he;obtain ⟨ob',cap',rows,es2,q1,q2,rfl⟩:=r1;have hkk:kk=_:=(Zs he).2;subst hkk;have q1:γ' kk = .mat ob' cap' rows:=q1;rw [g1] at q1;cases q1;refine ⟨hr'.st.dfr,_,ZYe hres,_,v',rfl,hr'.st.ext.ext,hr'.st.vst.ext,_,_,_,es2,rfl,q2,fun x hx=>?_,Zlx hr'.st.nd (hpm.trans r3)⟩;obtain ⟨hh,hb⟩:=hr'.st.loc x ((hpm.trans r3).mem_iff.2 (List.mem_append_left _ hx));refine ⟨hh,fun b e=>?_⟩;obtain ⟨h1,h2⟩:=hb b e;rcases h1 with h1 | h1
     ·exact ⟨h1,h2⟩
     ·cases h1
    ·cases hp
   ·cases hp
  ·cases hp
 ·cases h
theorem conm_k {C:Cf} (hc:CL C.P C.cons) (ho:OL C.P C.owns) (hi:IL C.P C.ins) (hm:ML C.P C.meths) {inl:Inl} (hn:NL C.P inl) {f:FuncId} {fn:Func} {ann:Ann} {con:ConM} (hf:C.P.funcs[f]? = some fn) (hen:ZC C.P f) (hl:Nat.ble con.args.length fn.ntmps=true)
  (h:∀ x z,con.F x=some z→ZOj C inl fn ann con.args con.ty con.ty2 con.t x=some z) (hq:QL C.P C.omats:=by exact trivial) (hb:BL C.P C.boxs:=by exact trivial) (hd:DL C.P C.dels:=by exact trivial) (hpo:PL C.P C.pows:=by exact trivial):ZAg C.P f con :=
 fun _ _ _ x z hv ha hz=>⟨hen,Zww (CfOK.of hc ho hi hm hq hb hd hpo) (ZLb.of hn) hf hl (h x z hz) hv ha⟩
def endB (ty:TypeId) (c:CT) (rts:List T) (cv:V) (l:Lo) (n:Nat):Option (c.den×Zy rts):=ZMa n (Zyd rts cv fun y=>ZTc 0 (.box ty c) 0 fun z=>.done (z,y)) [] l fun r _ _=>some r
def ZMj (C:Cf) (inl:Inl) (fn:Func) (ann:Ann) (ty:TypeId) (c:CT) (ats rts:List T) (z:c.den) (x:Zy ats):Option (c.den×Zy rts):=match fn.body with
 | some cd=>match Zba 0 (.box ty c) z 0 1 with
  | (l,m)=>Zkb C (Z6d C inl 20) fn.results.toList m fn.ntmps cd _ ann (Z0a 0 0 (.cons (.ptr 0 0) (ZMb ats x))) l m ⟨endN fn (endB ty c rts),fun _ _ _ _=>none,endB ty c rts⟩
 | none=>none
theorem ZTu {C:Cf} (hC:CfOK C) {inl:Inl} (hinl:ZLb C inl) {f:FuncId} {fn:Func} {ann:Ann} {ty:TypeId} {c:CT} {ats rts:List T} {z:c.den} {x:Zy ats} {r:c.den×Zy rts} (hf:C.P.funcs[f]? = some fn) (hl:Nat.ble (ats.length+1) fn.ntmps=true) (h:ZMj C inl fn ann ty c ats rts z x=some r)
  {w:World} {v:Zb} {b:Nat} {es:List Loc} {vals:List Value} (hv:VIn v w) (hz:CRL v (.box ty c) z (.box b) es) (hes:∀ e ∈ es,e.holds w∧∀ k,e.blk=some k→v k=none) (hnd:(es.filterMap Loc.blk).Nodup) (ha:Zoa v ats vals x) :
  Z9c C.P f (Value.pointer (some ⟨b,0,none⟩) :: vals).toArray w v (es.filterMap Loc.blk) (OwnB ty c rts b r (es.filterMap Loc.blk) w):=by
 unfold ZMj at h;split at h
 ·rename_i cd hc;obtain ⟨k1,k2,k3,γ0,k4,k5⟩:=Zcn (hh:=0) (u:=0) (n:=1) hz (by omega) (by omega) (l2:=(Zba 0 (.box ty c) z 0 1).1) (n2:=(Zba 0 (.box ty c) z 0 1).2) rfl;have hkk:∀ e ∈ (Zba 0 (.box ty c) z 0 1).1,lkE (Zba 0 (.box ty c) z 0 1).1 e.k=some e:=fun e he=>ZAd k3 he;obtain ⟨E,hE,hpE⟩:=k5 γ0 _ fun e he=>⟨rfl,hkk e he⟩;have hhd:∀ e,lkE (Zba 0 (.box ty c) z 0 1).1 0=some e→∃ xh,e.x = .box ty xh:=fun e he=>by
   obtain ⟨hm,hk0⟩:=Zs he;rcases (k2 e hm).1 with ⟨_,q⟩ | q
   ·exact q
   ·omega
  have h:Zkb C (Z6d C inl 20) fn.results.toList (Zba 0 (.box ty c) z 0 1).2 fn.ntmps cd _ ann (Z0a 0 0 (.cons (.ptr 0 0) (ZMb ats x))) (Zba 0 (.box ty c) z 0 1).1 (Zba 0 (.box ty c) z 0 1).2 _=some r:=h;generalize (Zba 0 (.box ty c) z 0 1).1=lI at k2 k3 hE hkk hhd h;generalize (Zba 0 (.box ty c) z 0 1).2=m at k1 k2 h;have hargs:RR v γ0 lI true (.cons (.ptr 0 0) (ZMb ats x)) (Value.pointer (some ⟨b,0,none⟩) :: vals):=by
   obtain ⟨q1,q2,q3⟩:=ZMe (γ:=γ0) (l:=lI) (U:=(· < 0)) ha;refine ⟨[.pointer (some ⟨b,0,none⟩)],vals,rfl,⟨_,rfl,rfl,fun e he=>?_⟩,q1⟩;obtain ⟨xh,hx⟩:=hhd e he;rw [hx];exact ⟨b,k4,rfl⟩
  have hok:(V.cons (.ptr 0 0) (ZMb ats x)).ok (· < m):=⟨(show 0<m by omega),V.ok.mono (fun k h=>absurd h (Nat.not_lt_zero k)) (ZMe (γ:=γ0) (l:=lI) (U:=(· < 0)) ha).2.1⟩;have hlen:=(ZMe (γ:=γ0) (l:=lI) (U:=(· < 0)) ha).2.2;have hK:vals.length+1≤fn.ntmps:=by rw [hlen];exact Nat.le_of_ble_eq_true hl
  refine calls_of_wp hf hc ?_;have hS:=St.enter (K:=fn.ntmps) hv (Value.pointer (some ⟨b,0,none⟩) :: vals) (by simpa using hK);have hlent:∀ e ∈ es,∀ k,e.blk=some k→k ∈ es.filterMap Loc.blk:=fun e he k hk=>List.mem_filterMap.2 ⟨e,he,hk⟩;have hr:RelX fn.ntmps (fun x y=>x = .ptr 0 0∧y = .pointer (some ⟨b,0,none⟩)) ⟨w,es.filterMap Loc.blk⟩ v (· < m) (· < m) (Z0a 0 0 (.cons (.ptr 0 0) (ZMb ats x))) lI { tmps:=(Value.pointer (some ⟨b,0,none⟩) :: vals).toArray++Array.replicate (fn.ntmps-(Value.pointer (some ⟨b,0,none⟩) :: vals).toArray.size) undef,defers:=[] } w γ0 v es:=by
   refine ⟨⟨hS.size,hS.dfr,fun t x h=>(by cases h),ExtB.refl ⟨w,es.filterMap Loc.blk⟩,⟨Zb.le_refl _,hv,fun _ _ _=>rfl⟩,fun e he=>⟨(hes e he).1,fun k hk=>⟨.inr (hlent e he k hk),(hes e he).2 k hk⟩⟩,hnd⟩,fun t e he=>?_,⟨E,hE,hpE⟩,k3,fun t e he=>?_,fun e he=>?_,fun x y hg=>?_⟩
   ·obtain ⟨y,q1,q2,q3,q4,q5⟩:=ZTb hargs hok he;have:=hS.fr t y ?_
    ·rw [this];exact q3
    ·have:=ZFg (k:=0) (t:=t) (y:=y) (by simpa using q2)
     rwa [Nat.zero_add] at this
   ·obtain ⟨y,q1,q2,q3,q4,q5⟩:=ZTb hargs hok he;exact ⟨q4,by show e.st<m;omega⟩
   ·obtain ⟨q1,q2,q3,q4⟩:=k2 e he;refine ⟨?_,q3,q4⟩;rcases q1 with ⟨q1,_⟩ | q1
    ·show e.k<m;omega
    ·exact q1.2
   ·obtain ⟨rfl,rfl⟩:=hg;obtain ⟨c1,xs1,q1,q2,q3⟩:=hargs;obtain ⟨yy,rfl,q4⟩:=q2;have q1:Value.pointer (some ⟨b,0,none⟩)=yy:=(List.cons.inj q1).1;subst q1;exact ⟨⟨_,⟨_,rfl,q4⟩,rfl⟩,(show 0<m by omega)⟩
  have fin:∀ {cv:V} {l':Lo} {n':Nat} {a':Act} {w':World} {γ':Nat→Gh} {v':Zb} {ℓ':List Loc} {vals':List Value},endB ty c rts cv l' n'=some r→m≤n'→RelX fn.ntmps (fun x y=>x = .ptr 0 0∧y = .pointer (some ⟨b,0,none⟩)) ⟨w,es.filterMap Loc.blk⟩ v (· < n') (· < n') [] l' a' w' γ' v' ℓ'→RR v' γ' l' true cv vals'→cv.ok (· < n') →
    ∃ v2,ExtB ⟨w,es.filterMap Loc.blk⟩ w'∧VStepB ⟨w,es.filterMap Loc.blk⟩ v w' v2∧OwnB ty c rts b r (es.filterMap Loc.blk) w (Zfe vals') v2 w':=by
   intro cv l' n' a' w' γ' v' ℓ' vals' hx hmn hr' hcv hck;have h1:=ZXg hx;have hr1:RelX fn.ntmps (fun x y=>x = .ptr 0 0∧y = .pointer (some ⟨b,0,none⟩)) ⟨w,es.filterMap Loc.blk⟩ v (· < n') (· < n'+1) [] l' a' w' γ' v' ℓ':=hr'.mono (fun _ h=>h) fun k h=>(show k<n'+1 by have:k<n':=h;omega);obtain ⟨y,l1,γ1,v1,ℓ1,h2,r1,le1,q1⟩:=ZSe (U:=(· < n')) (X:=(· < n'+1)) (Nat.lt_irrefl n') (Nat.lt_succ_self n') h1 hr1 hck;obtain ⟨z2,l2,γ2,v2,ℓ2,es2,e0,h3,r2,hst,le2,hcrl,he0,hnone,hhead⟩:=ZGk (U:=(· < n')) (X:=(· < n'+1)) (Nat.lt_irrefl n') (Nat.lt_succ_self n') (ex:=[]) (show 0<n' by omega) h2 r1 r1.st;have h3:some (z2,y)=some r:=h3
   cases h3
   have hst:St fn.ntmps ⟨w,es.filterMap Loc.blk⟩ v [] (es2++ℓ2) v2 a' w':=hst;obtain ⟨b2,c1,e1,hg,hcr,hpl,hes2⟩:=hcrl;have hbb:b2=b:=by
    obtain ⟨⟨cs,⟨yy,rfl,_,hy⟩,hyy⟩,_⟩:=r1.gh _ _ ⟨rfl,rfl⟩;have hyy:Value.pointer (some ⟨b,0,none⟩)=yy:=hyy;subst hyy;obtain ⟨xh,hxh⟩:=hhead;have hy:=hy _ he0;rw [hxh] at hy;obtain ⟨b3,t1,t2⟩:=hy;rw [hg] at t1;cases t1;cases t2;rfl
   subst hbb;refine ⟨v2,hst.ext,hst.vst,ZTq (Zzm le2.v (q1 _ hcv)),es2,⟨b2,c1,e1,rfl,hcr,hpl,hes2⟩,fun e he=>?_,?_⟩
   ·exact hst.loc e (List.mem_append_left _ he)
   ·have:=hst.nd;rw [List.filterMap_append] at this;exact (List.nodup_append.1 this).1
  refine Z0f hC (Zsi hC hinl 20) cd h ⟨_,_,_,hr⟩ ⟨fun f' l' n' a' w' hp hn' ho' hr'=>?_,fun i f' l' n' a' w' hp hn' ho' hr'=>(by cases hp),fun cv l' n' a' w' hp hn' ho' hr'=>?_⟩
  ·unfold endN at hp;split at hp
   ·rename_i hres;obtain ⟨γ',v',ℓ',hr'⟩:=hr';have hr2:RelX fn.ntmps (fun x y=>x = .ptr 0 0∧y = .pointer (some ⟨b,0,none⟩)) ⟨w,es.filterMap Loc.blk⟩ v (· < n') (· < n') [] l' a' w' γ' v' ℓ':=⟨⟨hr'.st.size,hr'.st.dfr,fun t x h=>(by cases h),hr'.st.ext,hr'.st.vst,hr'.st.loc,hr'.st.nd⟩,fun t e he=>(by cases he),hr'.lr,hr'.nd,fun t e he=>(by cases he),hr'.ul,hr'.gh⟩;obtain ⟨v2,t1,t2,t3⟩:=fin hp hn' hr2 (vals':=[]) rfl trivial;exact ⟨hr'.st.dfr,_,ZYe (vals:=[]) (by rw [hres];exact trivial),_,v2,rfl,t1,t2,t3⟩
   ·cases hp
  ·obtain ⟨γ',v',ℓ',vals',hr',hc',hk',hres⟩:=hr';obtain ⟨v2,t1,t2,t3⟩:=fin hp hn' hr' hc' hk';exact ⟨hr'.st.dfr,_,ZYe hres,_,v2,rfl,t1,t2,t3⟩
 ·cases h
theorem conb_k {C:Cf} (hc:CL C.P C.cons) (ho:OL C.P C.owns) (hi:IL C.P C.ins) (hm:ML C.P C.meths) {inl:Inl} (hn:NL C.P inl) {f:FuncId} {fn:Func} {ann:Ann} {con:ConB} (hf:C.P.funcs[f]? = some fn) (hen:ZC C.P f) (hl:Nat.ble (con.args.length+1) fn.ntmps=true)
  (h:∀ z x r,con.F z x=some r→ZMj C inl fn ann con.ty con.c con.args con.res z x=some r) (hq:QL C.P C.omats:=by exact trivial) (hb:BL C.P C.boxs:=by exact trivial) (hd:DL C.P C.dels:=by exact trivial) (hpo:PL C.P C.pows:=by exact trivial):Zzf C.P f con :=
 fun _ _ _ _ _ z x r hv hz hes hnd ha hF=>⟨hen,ZTu (CfOK.of hc ho hi hm hq hb hd hpo) (ZLb.of hn) hf hl (h z x r hF) hv hz hes hnd ha⟩
theorem tr:True:=trivial
abbrev Ann.n (a:Ann):Ann:=.two .no a
abbrev Ann.f (a:Ann):Ann:=.two a .no
abbrev Ann.j (s:List Nat) (p:List Pl) (v:List Vr) (a:Ann):Ann:=.cut ⟨⟨[],[],[]⟩,[(.norm,⟨s,p,v⟩)]⟩ a
abbrev Ann.r (s:List Nat) (p:List Pl) (v:List Vr) (a:Ann):Ann:=.cut ⟨⟨[],[],[]⟩,[(.ret,⟨s,p,v⟩)]⟩ a
abbrev Ann.l (s:List Nat) (p:List Pl) (v:List Vr) (k:Nat) (s':List Nat) (p':List Pl) (v':List Vr) (a:Ann):Ann:=.cut ⟨⟨s,p,v⟩,[(.exit k,⟨s',p',v'⟩)]⟩ a
def ConR (P:Program) (f:FuncId) (c:Con):Prop:=∀ (w:World) (v:Zb) (vals:List Value) (x:Zy c.args) (z:Zy c.res),VIn v w→Zoa v c.args vals x→c.F x=some z→ZC P f∧Ret P f vals.toArray w v fun y v'=>Z3d v' c.res y z
theorem ZA {P:Program} {f:FuncId} {c:Con} (h:ConR P f c):ZId P f c:=fun w v vals x z hv ha hz=>.inl (h w v vals x z hv ha hz)
theorem Zea {f:FuncId} {ats rts:List T} {F:Zy ats→Option (Zy rts)} {C:Cf} (ann:Ann) {fn:Func} (hf:C.P.funcs[f]? = some fn) (inl:Inl) (h:∀ x,ZYh C inl fn ann ats rts x=F x) (hc:CL C.P C.cons:=by exact tr) (ho:OL C.P C.owns:=by exact tr) (hm:ML C.P C.meths:=by exact tr) (hn:NL C.P inl:=by exact tr)
  (hq:QL C.P C.omats:=by exact tr) (hb:BL C.P C.boxs:=by exact tr) (hd:DL C.P C.dels:=by exact tr) (hpo:PL C.P C.pows:=by exact tr) (hi:IL C.P C.ins:=by exact tr) (hen:ZC C.P f:=by exact fun _ _=>by kernel_rfl) (hl:Nat.ble ats.length fn.ntmps=true:=by exact rfl):ConR C.P f ⟨ats,rts,F⟩ :=
 fun _ _ _ x _ hv ha hz=>⟨hen,ZMk (CfOK.of hc ho hi hm hq hb hd hpo) (ZLb.of hn) hf hl ((h x).trans hz) hv ha⟩
theorem Z6 {f:FuncId} {ats rts:List T} {F:Zy ats→Option (Zy rts)} {C:Cf} (ann:Ann) {fn:Func} (hf:C.P.funcs[f]? = some fn) (inl:Inl) (h:∀ v vals x z,Zoa v ats vals x→F x=some z→ZYh C inl fn ann ats rts x=some z) (hc:CL C.P C.cons:=by exact tr) (ho:OL C.P C.owns:=by exact tr) (hm:ML C.P C.meths:=by exact tr) (hn:NL C.P inl:=by exact tr)
  (hq:QL C.P C.omats:=by exact tr) (hb:BL C.P C.boxs:=by exact tr) (hd:DL C.P C.dels:=by exact tr) (hpo:PL C.P C.pows:=by exact tr) (hi:IL C.P C.ins:=by exact tr) (hen:ZC C.P f:=by exact fun _ _=>by kernel_rfl) (hl:Nat.ble ats.length fn.ntmps=true:=by exact rfl):ConR C.P f ⟨ats,rts,F⟩ :=
 fun _ v vals x z hv ha hz=>⟨hen,ZMk (CfOK.of hc ho hi hm hq hb hd hpo) (ZLb.of hn) hf hl (h v vals x z ha hz) hv ha⟩
theorem Zjm {f:FuncId} {ax rs:List T} {F:Zy ax→Option (Zy rs)} {C:Cf} (ann:Ann) {fn:Func} (hf:C.P.funcs[f]? = some fn) (inl:Inl) (ats rts:List T) (gA:Zy ax→Zy ats) (gR:Zy rs→Zy rts) (h:∀ v vals x z,Zoa v ax vals x→F x=some z→ZYh C inl fn ann ats rts (gA x)=some (gR z))
  (hc:CL C.P C.cons:=by exact tr) (ho:OL C.P C.owns:=by exact tr) (hm:ML C.P C.meths:=by exact tr) (hn:NL C.P inl:=by exact tr)
  (hA:∀ v vals x,Zoa v ax vals x→Zoa v ats vals (gA x):=by exact fun _ _ _ h=>h) (hR:∀ v y z,Z3d v rts y (gR z)→Z3d v rs y z:=by exact fun _ _ _ h=>h)
  (hq:QL C.P C.omats:=by exact tr) (hb:BL C.P C.boxs:=by exact tr) (hd:DL C.P C.dels:=by exact tr) (hpo:PL C.P C.pows:=by exact tr) (hi:IL C.P C.ins:=by exact tr) (hen:ZC C.P f:=by exact fun _ _=>by kernel_rfl) (hl:Nat.ble ats.length fn.ntmps=true:=by exact rfl):ConR C.P f ⟨ax,rs,F⟩ :=
 fun _ v vals x z hv ha hz=>⟨hen,(ZMk (CfOK.of hc ho hi hm hq hb hd hpo) (ZLb.of hn) hf hl (h v vals x z ha hz) hv (hA v vals x ha)).mono fun y v' _ hy=>hR v' y z hy⟩
theorem ZNr {f:FuncId} {ats:List T} {ty:TypeId} {t:T} {F:Zy ats→Option (List t.den)} {C:Cf} (ann:Ann) {fn:Func} (hf:C.P.funcs[f]? = some fn) (inl:Inl) (h:∀ x,ZSj C inl fn ann ats ty t x=F x) (hc:CL C.P C.cons:=by exact tr) (ho:OL C.P C.owns:=by exact tr) (hm:ML C.P C.meths:=by exact tr) (hn:NL C.P inl:=by exact tr)
  (hq:QL C.P C.omats:=by exact tr) (hb:BL C.P C.boxs:=by exact tr) (hd:DL C.P C.dels:=by exact tr) (hpo:PL C.P C.pows:=by exact tr) (hi:IL C.P C.ins:=by exact tr) (hen:ZC C.P f:=by exact fun _ _=>by kernel_rfl) (hl:Nat.ble ats.length fn.ntmps=true:=by exact rfl):ZBe C.P f ⟨ats,ty,t,F⟩ :=
 cono_k hc ho hi hm hn hf hen hl (fun x _ hz=>(h x).trans hz) hq hb hd hpo
theorem conp_z {f:FuncId} {ats:List T} {ty:TypeId} {t:T} {rts:List T} {F:Zy ats→Option (List t.den×Zy rts)} {C:Cf} (ann:Ann) {fn:Func} (hf:C.P.funcs[f]? = some fn) (inl:Inl) (h:∀ x,Zyi C inl fn ann ats ty t rts x=F x) (hc:CL C.P C.cons:=by exact tr) (ho:OL C.P C.owns:=by exact tr) (hm:ML C.P C.meths:=by exact tr) (hn:NL C.P inl:=by exact tr)
  (hq:QL C.P C.omats:=by exact tr) (hb:BL C.P C.boxs:=by exact tr) (hd:DL C.P C.dels:=by exact tr) (hpo:PL C.P C.pows:=by exact tr) (hi:IL C.P C.ins:=by exact tr) (hen:ZC C.P f:=by exact fun _ _=>by kernel_rfl) (hl:Nat.ble ats.length fn.ntmps=true:=by exact rfl) (hne:rts≠[]:=by exact fun h=>by cases h):Zgg C.P f ⟨ats,ty,t,rts,F⟩ :=
 conp_k hc ho hi hm hn hf hen hl hne (fun x _ hz=>(h x).trans hz) hq hb hd hpo
theorem conm_z {f:FuncId} {ats:List T} {ty ty2:TypeId} {t:T} {F:Zy ats→Option (List (List t.den))} {C:Cf} (ann:Ann) {fn:Func} (hf:C.P.funcs[f]? = some fn) (inl:Inl) (h:∀ x,ZOj C inl fn ann ats ty ty2 t x=F x) (hc:CL C.P C.cons:=by exact tr) (ho:OL C.P C.owns:=by exact tr) (hm:ML C.P C.meths:=by exact tr) (hn:NL C.P inl:=by exact tr)
  (hq:QL C.P C.omats:=by exact tr) (hb:BL C.P C.boxs:=by exact tr) (hd:DL C.P C.dels:=by exact tr) (hpo:PL C.P C.pows:=by exact tr) (hi:IL C.P C.ins:=by exact tr) (hen:ZC C.P f:=by exact fun _ _=>by kernel_rfl) (hl:Nat.ble ats.length fn.ntmps=true:=by exact rfl):ZAg C.P f ⟨ats,ty,ty2,t,F⟩ :=
 conm_k hc ho hi hm hn hf hen hl (fun x _ hz=>(h x).trans hz) hq hb hd hpo
theorem ZHg {f:FuncId} {ty:TypeId} {c:CT} {ats rts:List T} {F:c.den→Zy ats→Option (c.den×Zy rts)} {C:Cf} (ann:Ann) {fn:Func} (hf:C.P.funcs[f]? = some fn) (inl:Inl) (h:∀ z x,ZMj C inl fn ann ty c ats rts z x=F z x) (hc:CL C.P C.cons:=by exact tr) (ho:OL C.P C.owns:=by exact tr) (hm:ML C.P C.meths:=by exact tr) (hn:NL C.P inl:=by exact tr)
  (hq:QL C.P C.omats:=by exact tr) (hb:BL C.P C.boxs:=by exact tr) (hd:DL C.P C.dels:=by exact tr) (hpo:PL C.P C.pows:=by exact tr) (hi:IL C.P C.ins:=by exact tr) (hen:ZC C.P f:=by exact fun _ _=>by kernel_rfl) (hl:Nat.ble (ats.length+1) fn.ntmps=true:=by exact rfl):Zzf C.P f ⟨ty,c,ats,rts,F⟩ :=
 conb_k hc ho hi hm hn hf hen hl (fun z x _ hz=>(h z x).trans hz) hq hb hd hpo
end Go.Eng
namespace Go.Eng
open Go.Proofs Go.RowKit
abbrev lf:List (TypeId×Nat):=[(28,0),(30,2),(32,3),(100,1),(102,4)]
noncomputable abbrev cf0 (c:List (FuncId×Con)) (m:List Nat) (o:List (FuncId×ConO)) (s:List ((TypeId×String)×FuncId)):Cf:=⟨Tryz.prog,lf,c,m,o,[],s,{}⟩
noncomputable abbrev cf2 (l:List (TypeId×Nat)) (c:List (FuncId×Con)):Cf:=⟨Tryz.prog,l,c,[],[],[],[],{}⟩
noncomputable abbrev cf1 (c:List (FuncId×Con)) (m:List Nat) (o:List (FuncId×ConO)) (s:List ((TypeId×String)×FuncId)) (q:List (FuncId×ConM)) (b:List (FuncId×ConB)) (d:List (FuncId×ConD)):Cf:=⟨Tryz.prog,lf,c,m,o,[],s,⟨[],q,b,d⟩⟩
noncomputable abbrev cf3 (c:List (FuncId×Con)) (m:List Nat) (o:List (FuncId×ConO)) (s:List ((TypeId×String)×FuncId)) (q:List (FuncId×ConM)) (b:List (FuncId×ConB)) (d:List (FuncId×ConD)) (p:List (FuncId×ConP)):Cf:=⟨Tryz.prog,lf,c,m,o,[],s,⟨p,q,b,d⟩⟩
abbrev KPw (q:FuncId×ConP):=Zgg Tryz.prog q.1 q.2
abbrev KQ (q:FuncId×Con):=ZId Tryz.prog q.1 q.2
abbrev KR (q:FuncId×Con):=ConR Tryz.prog q.1 q.2
abbrev KO (q:FuncId×ConO):=ZBe Tryz.prog q.1 q.2
abbrev KW (q:FuncId×ConM):=ZAg Tryz.prog q.1 q.2
abbrev KB (q:FuncId×ConB):=Zzf Tryz.prog q.1 q.2
end Go.Eng
set_option maxRecDepth 100000
set_option maxHeartbeats 4000000
namespace Go.Eng
open Go.Proofs Go.RowKit
noncomputable def Z4e:FuncId×Con:=(61,⟨[.slice (.int .u64)],[.leaf 0],fun p=>ZIa p⟩)
theorem cut_r:KR Z4e:=Zjm (C:=cf2 [] []) (.n (.f (.j [] [] [.s 0 (.dat (.slice (.int .u64)))] (.f (.l [] [] [.s 0 (.dat (.slice (.int .u64)))] 0 [] [] [.s 0 (.dat (.slice (.int .u64)))] (.f (.f (.f (.j [0] [] [.s 14 (.dat .bool)] .no))))))))) Tryz.func61 [] [.slice (.int .u64)] [.slice (.int .u64)] (fun x=>(x)) (fun z=>(Zd 18446744073709551616 z)) (fun v vals x z ha hz=>by obtain ⟨c0,e0,p0⟩:=ha;exact .trans (by kernel_rfl) (by cases hz;exact (cut_eq (Ztm p0).1 (Ztm p0).2)))
theorem Zrg:KQ Z4e:=ZA cut_r
end Go.Eng
set_option maxRecDepth 100000
set_option maxHeartbeats 4000000
namespace Go.Eng
open Go.Proofs Go.RowKit
noncomputable def Z3h:FuncId×Con:=(51,⟨[.int .u64],[.leaf 0],fun p=>Zjc p⟩)
theorem Zpr:KR Z3h:=Z6 (C:=cf2 [(28,0)] [Z4e]) .no Tryz.func51 [] (fun v vals x z ha hz=>.trans (by kernel_rfl) (ZRx hz)) ⟨Zrg,tr⟩
theorem ZTk:KQ Z3h:=ZA Zpr
end Go.Eng
set_option maxRecDepth 100000
set_option maxHeartbeats 4000000
namespace Go.Eng
open Go.Proofs Go.RowKit
noncomputable def of_q:FuncId×Con:=(27,⟨[.int .i64],[.leaf 2],fun p=>ofF p⟩)
theorem of_r:KR of_q:=Z6 (C:=cf0 [Z3h] [] [] []) .no Tryz.func27 [] (fun v vals x z ha hz=>by obtain ⟨c0,e0,p0⟩:=ha;exact .trans (by kernel_rfl) (ofF_eq p0.2 hz)) ⟨ZTk,tr⟩
theorem of_k:KQ of_q:=ZA of_r
end Go.Eng
set_option maxRecDepth 100000
set_option maxHeartbeats 4000000
namespace Go.Eng
open Go.Proofs Go.RowKit
noncomputable def Zxe:FuncId×Con:=(9,⟨[.int .i64],[.leaf 3],fun p=>Zsa p⟩)
theorem ZGf:KQ Zxe:=ZA (Z6 (C:=cf0 [of_q] [] [] []) .no Tryz.func9 [] (fun v vals x z ha hz=>.trans (by kernel_rfl) (Zxu hz)) ⟨of_k,tr⟩)
end Go.Eng
set_option maxRecDepth 100000
set_option maxHeartbeats 4000000
namespace Go.Eng
open Go.Proofs Go.RowKit
noncomputable def ZIr:FuncId×Con:=(37,⟨[.leaf 2],[.int .i64],fun p=>ZGh p⟩)
theorem isign_k:KQ ZIr:=ZA (Z6 (C:=cf0 [] [] [] []) .no Tryz.func37 [] (fun v vals x z ha hz=>.trans (by kernel_rfl) (Zfv hz)))
end Go.Eng
set_option maxRecDepth 100000
set_option maxHeartbeats 4000000
namespace Go.Eng
open Go.Proofs Go.RowKit
noncomputable def Zzc:FuncId×Con:=(15,⟨[.leaf 3],[.int .i64],fun p=>Zfa p⟩)
theorem ZSc:KQ Zzc:=ZA (Z6 (C:=cf0 [ZIr] [] [] []) .no Tryz.func15 [] (fun v vals x z ha hz=>.trans (by kernel_rfl) (ZVv hz)) ⟨isign_k,tr⟩)
end Go.Eng
set_option maxRecDepth 100000
set_option maxHeartbeats 4000000
namespace Go.Eng
open Go.Proofs Go.RowKit
noncomputable def Zwk:FuncId×Con:=(31,⟨[.leaf 0],[.leaf 0],fun p=>ZNc p⟩)
theorem ZVk:KQ Zwk:=ZA (Z6 (C:=cf0 [Z3h] [] [] []) .no Tryz.func31 [] (fun v vals x z ha hz=>.trans (by kernel_rfl) (ZMu hz)) ⟨ZTk,tr⟩)
end Go.Eng
set_option maxRecDepth 100000
set_option maxHeartbeats 4000000
namespace Go.Eng
open Go.Proofs Go.RowKit
noncomputable def ZHq:FuncId×Con:=(109,⟨[.int .u64],[.int .i64],fun p=>ZHh p⟩)
theorem len64_k:KQ ZHq:=ZA (Z6 (C:=cf2 [] []) (.n (.two (.n (.j [] [] [.s 0 (.dat (.int .u64)),.s 2 (.dat (.int .i64))] .no)) (.two (.n (.j [] [] [.s 0 (.dat (.int .u64)),.s 2 (.dat (.int .i64))] .no)) (.f (.n (.j [] [] [.s 0 (.dat (.int .u64)),.s 2 (.dat (.int .i64))] .no)))))) Tryz.func109 [] (fun v vals x z ha hz=>.trans (by kernel_rfl) (ZHt hz)))
end Go.Eng
set_option maxRecDepth 100000
set_option maxHeartbeats 4000000
namespace Go.Eng
open Go.Proofs Go.RowKit
noncomputable def ZBl:FuncId×Con:=(85,⟨[.int .u64],[.int .i64],fun p=>Zpd p⟩)
theorem Zlo:KR ZBl:=Z6 (C:=cf2 [] [ZHq]) .no Tryz.func85 [] (fun v vals x z ha hz=>.trans (by kernel_rfl) (Zwt hz)) ⟨len64_k,tr⟩
theorem lz64_k:KQ ZBl:=ZA Zlo
end Go.Eng
set_option maxRecDepth 100000
set_option maxHeartbeats 4000000
namespace Go.Eng
open Go.Proofs Go.RowKit
noncomputable def Zkl:FuncId×Con:=(94,⟨[.int .u64,.int .u64,.int .u64],[.int .u64,.int .u64],fun p=>ZXc p.1 p.2.1 p.2.2⟩)
theorem Z6n:KR Zkl:=Z6 (C:=cf2 [] [ZBl]) (.n (.n (.n (.n (.n (.n (.n (.n (.n (.n (.n (.n (.n (.n (.two (.j [2,8,9,10,11,13,14] [] [.s 15 (.dat (.int .u64))] (.f (.l [2,8,9,10,11,13,14] [] [.s 15 (.dat (.int .u64)),.s 16 (.dat (.int .u64))] 0 [2,8,9,10,11,13,14] [] [.s 15 (.dat (.int .u64))] (.f (.f (.f (.j [2,8,9,10,11,13,14,15,16] [] [.s 78 (.dat .bool)] .no))))))) (.n (.n (.n (.f (.j [2,8,14,15,17] [] [.s 18 (.dat (.int .u64))] (.f (.l [2,8,9,10,14,15,17] [] [.s 16 (.dat (.int .u64)),.s 18 (.dat (.int .u64))] 2 [2,8,14,15,17] [] [.s 18 (.dat (.int .u64))] (.f (.f (.f (.j [2,8,9,10,14,15,16,17,18] [] [.s 113 (.dat .bool)] .no)))))))))))))))))))))))))) Tryz.func94 [] (fun v vals x z ha hz=>.trans (by kernel_rfl) (Zvu hz)) ⟨lz64_k,tr⟩
theorem div64_k:KQ Zkl:=ZA Z6n
end Go.Eng
set_option maxRecDepth 100000
set_option maxHeartbeats 4000000
namespace Go.Eng
open Go.Proofs Go.RowKit
noncomputable def Zkx:FuncId×Con:=(71,⟨[.leaf 0,.int .u64],[.leaf 0,.int .u64],fun p=>ZHd p.1 p.2⟩)
theorem Z4v:KR Zkx:=Z6 (C:=cf2 [(28,0)] [Z4e,Zkl]) (.n (.n (.n (.f (.n (.j [] [] [.s 6 (.own 119 (.int .u64)),.s 7 (.dat (.int .u64))] (.f (.l [0,1] [] [.s 6 (.own 119 (.int .u64)),.s 7 (.dat (.int .u64)),.s 8 (.dat (.int .i64))] 0 [] [] [.s 6 (.own 119 (.int .u64)),.s 7 (.dat (.int .u64))] .no)))))))) Tryz.func71 [] (fun v vals x z ha hz=>by obtain ⟨c0,w0,e0,p0,c1,e1,p1⟩:=ha;exact .trans (by kernel_rfl) (Zix p1.2 hz)) ⟨Zrg,div64_k,tr⟩
end Go.Eng
namespace Go.Eng
open Go.Proofs Go.RowKit
theorem Zor {h:World} {b:Zb} (hv:VIn b h) {c:List Value} {a:Nat} (i:Rep.rel Zu b c a) {d:List Value} {n:Int} (j:Rep.rel (Zc .u64) b d n) {z:Nat×Int} (hm:ZHd a n=some z) :
  Ret Tryz.prog 71 #[Zu.val c,(Zc .u64).val d] h b (fun y v'=>∃ f g,y=Value.tuple #[Zu.val f,(Zc .u64).val g]∧Zu.rel v' f z.1∧(Zc .u64).rel v' g z.2) :=
 (Z4v h b [Zu.val c,(Zc .u64).val d] (a,n) z hv ⟨c,_,rfl,i,d,rfl,j⟩ hm).2.mono fun y v' _ ⟨_,e,f,_,q,k,g,q',l⟩=>by subst q';subst q;exact ⟨f,g,e,k,l⟩
end Go.Eng
set_option maxRecDepth 100000
set_option maxHeartbeats 4000000
namespace Go.Eng
open Go.Proofs Go.RowKit
noncomputable def cmp_q:FuncId×Con:=(42,⟨[.leaf 0,.leaf 0],[.int .i64],fun p=>Z6e p.1 p.2⟩)
theorem cmp_r:KR cmp_q:=Zjm (C:=cf2 [] []) (.n (.n (.f (.n (.cut ⟨⟨[],[],[]⟩,[(.norm,⟨[],[],[]⟩),(.ret,⟨[],[],[.s 1000 (.dat (.int .i64))]⟩)]⟩ (.f (.cut ⟨⟨[0,1],[],[.s 5 (.dat (.int .i64))]⟩,[(.ret,⟨[],[],[.s 1000 (.dat (.int .i64))]⟩),(.exit 0,⟨[],[],[]⟩)]⟩ .no))))))) Tryz.func42 [] [.slice (.int .u64),.slice (.int .u64)] [.int .i64] (fun x=>((Zd 18446744073709551616 x.1),(Zd 18446744073709551616 x.2))) (fun z=>z) (fun v vals x z ha hz=>by obtain ⟨c0,w0,e0,p0,c1,e1,p1⟩:=ha;exact .trans (by kernel_rfl) ((cmp_eq (ZWp p0) (ZWp p1)).trans hz))
theorem cmp_k:KQ cmp_q:=ZA cmp_r
end Go.Eng
namespace Go.Eng
open Go.Proofs Go.RowKit
theorem cmp_c {f:World} {c:Zb} (hv:VIn c f) {d:List Value} {a:Nat} (h:Rep.rel Zu c d a) {e:List Value} {b:Nat} (i:Rep.rel Zu c e b) {z:Int} (hm:Z6e a b=some z) :
  Ret Tryz.prog 42 #[Zu.val d,Zu.val e] f c (fun y v'=>∃ g,y=(Zc .i64).val g∧(Zc .i64).rel v' g z) :=
 (cmp_r f c [Zu.val d,Zu.val e] (a,b) z hv ⟨d,_,rfl,h,e,rfl,i⟩ hm).2
theorem ZSi {d:World} {b:Zb} (hv:VIn b d) {c:List Value} {a:(List Int)} (f:Rep.rel (ZB (Zc .u64)) b c a) {z:Nat} (hm:ZIa a=some z) :
  Ret Tryz.prog 61 #[(ZB (Zc .u64)).val c] d b (fun y v'=>∃ e,y=Zu.val e∧Zu.rel v' e z) :=
 (cut_r d b [(ZB (Zc .u64)).val c] (a) z hv ⟨c,rfl,f⟩ hm).2
theorem div64_c {h:World} {a:Zb} (hv:VIn a h) {b:List Value} {hi:Int} (i:Rep.rel (Zc .u64) a b hi) {c:List Value} {lo:Int} (j:Rep.rel (Zc .u64) a c lo) {d:List Value} {y:Int} (k:Rep.rel (Zc .u64) a d y) {z:Int×Int} (hm:ZXc hi lo y=some z) :
  Ret Tryz.prog 94 #[(Zc .u64).val b,(Zc .u64).val c,(Zc .u64).val d] h a (fun y v'=>∃ f g,y=Value.tuple #[(Zc .u64).val f,(Zc .u64).val g]∧(Zc .u64).rel v' f z.1∧(Zc .u64).rel v' g z.2) :=
 (Z6n h a [(Zc .u64).val b,(Zc .u64).val c,(Zc .u64).val d] (hi,lo,y) z hv ⟨b,_,rfl,i,c,_,rfl,j,d,rfl,k⟩ hm).2.mono fun y v' _ ⟨_,e,f,_,q,l,g,q',m⟩=>by subst q';subst q;exact ⟨f,g,e,l,m⟩
end Go.Eng
set_option maxRecDepth 100000
set_option maxHeartbeats 4000000
namespace Go.Eng
open Go.Proofs Go.RowKit
noncomputable def Zcm:FuncId×Con:=(59,⟨[.int .u64,.int .u64],[.int .u64,.int .u64],fun p=>ZBc p.1 p.2⟩)
theorem ZXr:KR Zcm:=Z6 (C:=cf2 [] []) .no Tryz.func59 [] (fun v vals x z ha hz=>.trans (by kernel_rfl) (Ztx hz))
theorem mul64_k:KQ Zcm:=ZA ZXr
end Go.Eng
namespace Go.Eng
open Go.Proofs Go.RowKit
theorem ZSm {g:World} {a:Zb} (hv:VIn a g) {b:List Value} {x:Int} (h:Rep.rel (Zc .u64) a b x) {c:List Value} {y:Int} (i:Rep.rel (Zc .u64) a c y) {z:Int×Int} (hm:ZBc x y=some z) :
  Ret Tryz.prog 59 #[(Zc .u64).val b,(Zc .u64).val c] g a (fun y v'=>∃ d f,y=Value.tuple #[(Zc .u64).val d,(Zc .u64).val f]∧(Zc .u64).rel v' d z.1∧(Zc .u64).rel v' f z.2) :=
 (ZXr g a [(Zc .u64).val b,(Zc .u64).val c] (x,y) z hv ⟨b,_,rfl,h,c,rfl,i⟩ hm).2.mono fun y v' _ ⟨_,e,d,_,q,j,f,q',k⟩=>by subst q';subst q;exact ⟨d,f,e,j,k⟩
end Go.Eng
namespace Go.Eng
open Go.RowKit
theorem Zt {α:Type _} {a b:α} (h:some a=some b):a=b:=Option.some.inj h
theorem Z3 (b:Bool):b=true∨b=false:=(Bool.eq_false_or_eq_true b)
theorem leT {a b c:Zb} (h:a.le b) (k:b.le c):a.le c:=Zb.le_trans h k
theorem leR (v:Zb):v.le v:=Zb.le_refl v
theorem bO {α β:Type _} {x:Option α} {f:α→Option β} {z:β} {G:Prop} (h:bnd x f=some z) (k:∀ y,x=some y→f y=some z→G):G:=by obtain ⟨y,e,h⟩:=Z0 h;exact k y e h
theorem Zz {P:Program} {Q:Exit→Act→World→Prop} {a:Act} {w:World} {id:Nat} {l:List Oper} (h:wpList P l.toArray Q l a w):(Code.region id l.toArray false).wp P Q a w:=wp_region_lit h
theorem Zn {P:Program} {Q:Exit→Act→World→Prop} {a:Act} {w:World} {x y:Code} (h:∀ K:Act→World→Prop,(∀ a w,y.wp P Q a w→K a w)→x.wp P (Exit.then K Q) a w):(Code.seq x y).wp P Q a w:=wp_seq_k h
theorem ZBa {α:Type} {A:Rep α} {v v':Zb} {cs:List Value} {x:α} (hv:v.le v') (h:A.rel v cs x):A.rel v' cs x:=A.mono hv h
theorem Rflat {α:Type} (A:Rep α) {v:Zb} {cs:List Value} {x:α} (h:A.rel v cs x):cs.all plain=true:=A.flat h
theorem Atm {v v':Zb} {b off:Nat} {cs:List Value} (h:v.le v') (k:At v b off cs):At v' b off cs:=At.mono h k
end Go.Eng
namespace Go.Eng
open Go.Proofs Go.RowKit
theorem Zup:ZVh Tryz.prog 174 20 1:=⟨5,fun _=>by kernel_rfl,fun _=>by kernel_rfl⟩
theorem ZWs:ZPh Tryz.prog 119 3 .u64 .i64:=fun _ _=>by kernel_rfl
theorem Ztt:ZPh Tryz.prog 119 5 .u64 .u8:=fun _ _=>by kernel_rfl
theorem Zku:ZPh Tryz.prog 3 119 .i64 .u64:=fun _ _=>by kernel_rfl
theorem ZFo:Elem Tryz.prog 143 9 1 16 (Value.string (Zw [])):=⟨Tryz.underlying143,by kernel_rfl,rfl,by decide⟩
theorem Z7h:Elem Tryz.prog 28 119 1 8 (Value.int IntKind.u64 0):=⟨Tryz.underlying28,by kernel_rfl,rfl,by decide⟩
theorem k_en110:ZC Tryz.prog 110:=fun _ _=>by kernel_rfl
theorem ZEl:ZC Tryz.prog 114:=fun _ _=>by kernel_rfl
theorem Z9l:ZC Tryz.prog 115:=fun _ _=>by kernel_rfl
theorem k_en116:ZC Tryz.prog 116:=fun _ _=>by kernel_rfl
theorem k_en117:ZC Tryz.prog 117:=fun _ _=>by kernel_rfl
theorem ZTp:ZC Tryz.prog 140:=fun _ _=>by kernel_rfl
theorem k_en142:ZC Tryz.prog 142:=fun _ _=>by kernel_rfl
theorem k_en144:ZC Tryz.prog 144:=fun _ _=>by kernel_rfl
theorem ZFn:ZC Tryz.prog 150:=fun _ _=>by kernel_rfl
theorem k_en151:ZC Tryz.prog 151:=fun _ _=>by kernel_rfl
theorem Z7q:ZC Tryz.prog 152:=fun _ _=>by kernel_rfl
theorem k_en27:ZC Tryz.prog 27:=fun _ _=>by kernel_rfl
theorem k_en32:ZC Tryz.prog 32:=fun _ _=>by kernel_rfl
theorem ZUs:ZC Tryz.prog 42:=fun _ _=>by kernel_rfl
theorem k_en43:ZC Tryz.prog 43:=fun _ _=>by kernel_rfl
theorem Zws:ZC Tryz.prog 51:=fun _ _=>by kernel_rfl
theorem Z9m:ZC Tryz.prog 59:=fun _ _=>by kernel_rfl
theorem Zbj:ZC Tryz.prog 61:=fun _ _=>by kernel_rfl
theorem Zzp:ZC Tryz.prog 71:=fun _ _=>by kernel_rfl
theorem k_en72:ZC Tryz.prog 72:=fun _ _=>by kernel_rfl
theorem k_en73:ZC Tryz.prog 73:=fun _ _=>by kernel_rfl
theorem k_en74:ZC Tryz.prog 74:=fun _ _=>by kernel_rfl
theorem k_en75:ZC Tryz.prog 75:=fun _ _=>by kernel_rfl
theorem k_en85:ZC Tryz.prog 85:=fun _ _=>by kernel_rfl
theorem ZKj:ZC Tryz.prog 86:=fun _ _=>by kernel_rfl
theorem k_en87:ZC Tryz.prog 87:=fun _ _=>by kernel_rfl
theorem k_en88:ZC Tryz.prog 88:=fun _ _=>by kernel_rfl
theorem k_en93:ZC Tryz.prog 93:=fun _ _=>by kernel_rfl
theorem k_en94:ZC Tryz.prog 94:=fun _ _=>by kernel_rfl
theorem Zyh:ZGc Tryz.prog 148 Extern.MathFloatBits.float64frombits:=⟨_,Tryz.func148,by kernel_rfl,by kernel_rfl,by kernel_rfl,by kernel_rfl⟩
theorem ZWh:ZGc Tryz.prog 149 Extern.MathFloatBits.float64bits:=⟨_,Tryz.func149,by kernel_rfl,by kernel_rfl,by kernel_rfl,by kernel_rfl⟩
theorem ZAo:ZGc Tryz.prog 60 add64Entry:=⟨_,Tryz.func60,by kernel_rfl,by kernel_rfl,by kernel_rfl,by kernel_rfl⟩
theorem k_ext89:ZGc Tryz.prog 89 Zaj:=⟨_,Tryz.func89,by kernel_rfl,by kernel_rfl,by kernel_rfl,by kernel_rfl⟩
theorem ZJo:Zdj Tryz.prog 30 0 0:=fun _ _ _=>by kernel_rfl
theorem Zqv:Zdj Tryz.prog 30 1 1:=fun _ _ _=>by kernel_rfl
theorem Zuh:Tryz.prog.follows .mixedOrders=true:=by kernel_rfl
theorem ZOl:ZGb Tryz.prog 143 9 1:=⟨fun _=>by kernel_rfl,fun _=>by kernel_rfl⟩
theorem Zga:ZGb Tryz.prog 28 119 1:=⟨fun _=>by kernel_rfl,fun _=>by kernel_rfl⟩
theorem Zwb:Sized Tryz.prog 119 1 false:=⟨fun _=>by kernel_rfl,fun _=>by kernel_rfl⟩
theorem k_sz28:Sized Tryz.prog 28 1 false:=⟨fun _=>by kernel_rfl,fun _=>by kernel_rfl⟩
theorem Zhj:Sized Tryz.prog 30 2 true:=⟨fun _=>by kernel_rfl,fun _=>by kernel_rfl⟩
theorem ZVe:Sized Tryz.prog 32 3 true:=⟨fun _=>by kernel_rfl,fun _=>by kernel_rfl⟩
theorem k_sz4:Sized Tryz.prog 4 1 false:=⟨fun _=>by kernel_rfl,fun _=>by kernel_rfl⟩
theorem k_sz5:Sized Tryz.prog 5 1 false:=⟨fun _=>by kernel_rfl,fun _=>by kernel_rfl⟩
theorem k_sz9:Sized Tryz.prog 9 1 false:=⟨fun _=>by kernel_rfl,fun _=>by kernel_rfl⟩
theorem k_zv150:∀ w,(zeroValue 150).run Tryz.prog w = .ok (Value.agg #[Value.pointer none,Value.slice none 0 0]) w:=fun _=>by kernel_rfl
theorem k_zv174:∀ w,(zeroValue 174).run Tryz.prog w = .ok (Value.agg #[Value.int IntKind.u8 0,Value.int IntKind.u8 0,Value.int IntKind.u8 0,Value.int IntKind.u8 0,Value.int IntKind.u8 0,Value.int IntKind.u8 0,Value.int IntKind.u8 0,Value.int IntKind.u8 0,Value.int IntKind.u8 0,Value.int IntKind.u8 0,Value.int IntKind.u8 0,Value.int IntKind.u8 0,Value.int IntKind.u8 0,Value.int IntKind.u8 0,Value.int IntKind.u8 0,Value.int IntKind.u8 0,Value.int IntKind.u8 0,Value.int IntKind.u8 0,Value.int IntKind.u8 0,Value.int IntKind.u8 0]) w:=fun _=>by kernel_rfl
theorem k_zv30:∀ w,(zeroValue 30).run Tryz.prog w = .ok (Value.agg #[Value.bool false,Value.slice none 0 0]) w:=fun _=>by kernel_rfl
theorem ZQs:∀ w,(zeroValue 32).run Tryz.prog w = .ok (Value.agg #[Value.bool false,Value.slice none 0 0,Value.slice none 0 0]) w:=fun _=>by kernel_rfl
theorem take_w {R:World} {o:Zb} (hv:VIn o R) {a off0 g C:Nat} {E:TypeId} {pre0 cs0 post0:List Value} {u:(List Int)} (bg:R.heap[a]? = some (.cells (pre0++cs0++post0).toArray E (0,0))) (aH:off0=pre0.length) (bh:o a=none) (au:g=u.length) (bi:g≤C∧C≤maxLen) (r:Rep.rels (Zc .u64) o cs0 u) {c1:List Value} {v:Nat} (D:Rep.rel Zu o c1 v) {c2:List Value} {q:Int} (p2:Rep.rel (Zc .u64) o c2 q) {z:Bool×(List Int)} (H:Zbi u v q=some z):Z9c Tryz.prog 110 #[.slice (some ⟨a,off0,none⟩) g C,Zu.val c1,(Zc .u64).val c2] R o [a] (fun y v' w'=>(∃ r0,y=Z3a.val r0∧Z3a.rel v' r0 z.1)∧v' a=none∧∃ cs,w'.heap[a]? = some (.cells (pre0++cs++post0).toArray E (0,0))∧g=z.2.length∧Rep.rels (Zc .u64) v' cs z.2):=by
 obtain ⟨q1,V,W,rfl⟩:=Zua D;obtain ⟨rfl,r4⟩:=p2;refine Zss (K:=79) (args:=[.slice (some ⟨a,off0,none⟩) (g) C,.slice q1 V W,.int .u64 q]) hv bg bh Tryz.func110 rfl rfl zl fun f S=>?_;unfold Zbi at H;refine sr (mw S rfl fun f S=>oe (Zn fun _ bj=>bO H fun J bk H=>bO H fun cJ av H=>Zz (mv S rfl fun f S=>ov S rfl (Z6b S (Zdb D) rfl rfl Zga) fun f S=>ov S rfl (Zr S rfl rfl (Zuc bk)) fun f S=>?_)));obtain ⟨aI,aR⟩:∃ c:List Value,c=(List.replicate (J).toNat [.int .u64 0]).flatten:=⟨_,rfl⟩;obtain ⟨aS,w,bm,S⟩:=Zdr Z7h S (l:=J) (c:=J) (ZKd av).1 (ZKd av).2.1 (ZKd av).2.2.1 (ZKd av).2.2.2 aR;have bn:Rep.rels (Zc .u64) o aI (List.replicate (J).toNat (0:Int)):=by rw [aR];exact ZEg (show Rep.rel (Zc .u64) _ [.int .u64 0] _ from (ZE (by decide))) _
 refine ZIc wn rfl zl (bm rfl rfl) S fun f S=>mw S rfl fun f S=>Zx (Zg (bj _ _ (sr (mw S rfl fun f S=>oe (Zn fun _ bo=>sr (mv S rfl fun f S=>ov S rfl (Z6b S (Zdb D) rfl rfl Zga) fun f S=>mv S rfl fun f S=>oe ?_))))));obtain ⟨bp,bq,br⟩:=Z0 H;refine Zmb (fun f w=>∃ L b aJ s G h X,(L,b)=bp∧Zb.le o X∧St 79 ⟨R,[a]⟩ o [(0,.slice (some ⟨a,off0,none⟩) (g) C),(1,.slice q1 V W),(7,.slice (mkA aJ) s G),(8,.int .u64 b)] [Loc.box a E (pre0++cs0++post0),Loc.own aJ 119 1 s G h] X f w∧Rep.rels (Zc .u64) X h L∧s=L.length∧inR .u64 b) (fun _ bs=>?_) ?_
 ·have H:=bq;refine wp_block ?_;obtain ⟨cK,bt,bu⟩:=Z0 H;have S:=S.reorder (ℓ':=[Loc.box a E (pre0++cs0++post0),Loc.own (some aS) 119 1 ((J).toNat) (J).toNat aI]) [1,0] rfl (by decide);refine Z7d bt (fun bv f w=>∃ Y ag m ax M Z I ay,(Y,ag,m)=bv∧Zb.le o ay∧St 79 ⟨R,[a]⟩ o [(0,.slice (some ⟨a,off0,none⟩) (g) C),(1,.slice q1 V W),(2,.int .u64 q),(7,.slice (mkA ax) M Z),(8,.int .u64 ag),(20,.slice q1 V W),(21,.int .i64 ((((Zd 18446744073709551616 v)).length:Int))),(22,.int .i64 m)] [Loc.box a E (pre0++cs0++post0),Loc.own ax 119 1 M Z I] ay f w∧Rep.rels (Zc .u64) ay I Y∧M=Y.length∧inR .u64 ag∧inR .i64 m) ⟨_,_,_,some aS,(J).toNat,(J).toNat,aI,_,rfl,(leR _),(S.fr' rfl),bn,(repN (x:=(0:Int))),(by decide),(by decide)⟩ ?_;rintro _ f w st ⟨Y,ag,m,ax,M,Z,I,ay,hq,az,S,ah,ai,bw,cL⟩ H cM bx bz;subst hq;have r:=ZP az r;refine sr (ov S rfl (Zr S rfl rfl ZKc) fun f S=>oe (Zn fun _ bA=>?_));rcases Z3 (decide (m<(((Zd 18446744073709551616 v)).length:Int))) with aj | aj
  ·have H:=Z2 H aj;refine Zda S rfl aj (wp_skip (Zg (bA _ _ (Zn fun _ bB=>wp_block (Zn fun _ bC=>bO H fun aK aL H=>Zz (mv S rfl fun f S=>?_))))));have D:=ZBa az D;obtain ⟨_,aT,aU,cN,rfl,bD,bE⟩:=Zsc D (Zp aL).2.1;obtain ⟨rfl,bG⟩:=bE;refine ov S rfl (Zra S rfl rfl Zga (Zp aL).1 (ltI (Zdb D) (Zp aL).2.2.1)) fun f S=>ov S rfl (Zib S rfl Zwb (S.view bD)) fun f S=>mw S rfl fun f S=>mw S rfl fun f S=>Zx (Zg (bC _ _ (Zn fun _ bH=>bO H fun aV bI H=>Zz (mv S rfl fun f S=>mv S rfl fun f S=>opc S rfl (ZJ S [.int .u64 aK,.int .u64 q] Z9m rfl rfl) (ZSm S.vin (show Rep.rel (Zc .u64) _ [.int .u64 aK] aK from (ZE bG)) (show Rep.rel (Zc .u64) _ [.int .u64 q] q from (ZE r4)) bI) ?_))));rintro _ aW f w aM ⟨cO,cP,rfl,bJ,bK⟩ S;have r:=ZP aM r;have ah:=ZP aM ah;obtain ⟨rfl,cQ⟩:=bJ;obtain ⟨rfl,cR⟩:=bK;refine mv S rfl fun f S=>ov S rfl (Z8 S rfl rfl) fun f S=>ov S rfl (Z8 S rfl rfl) fun f S=>mw S rfl fun f S=>mw S rfl fun f S=>Zx (Zg (bH _ _ (sr (mw S rfl fun f S=>oe (Zn fun _ bM=>bO H fun N aX H=>bO H fun cS aa H=>Zz ?_)))));refine mv S rfl fun f S=>mv S rfl fun f S=>mv S rfl fun f S=>mv S rfl fun f S=>ov S rfl (Zhc S [.int .u64 (aV.2),.int .u64 ag,.int .u64 0] (Zjl ZAo aX) rfl rfl) fun f S=>mv S rfl fun f S=>ov S rfl (Z8 S rfl rfl) fun f S=>ov S rfl (Z8 S rfl rfl) fun f S=>?_
   obtain ⟨aY,rfl⟩:=Zgd S (j:=1) rfl (posN ai (Zp aa).2.2.2);have aZ:=ZPa ah (Zp aa).2.1;obtain ⟨cU,bP⟩:∃ c,(List.take (Zc .u64).n (List.drop ((m).toNat*(Zc .u64).n) I))=c:=⟨_,rfl⟩;rw [bP] at aZ;obtain ⟨rfl,cV⟩:=aZ;refine ov S rfl (Zra S rfl rfl Zga (Zp aa).1 (ltI ai (Zp aa).2.2.1)) fun f S=>?_;obtain ⟨w,bQ,S⟩:=Zmd S Zwb (off:=0+(m).toNat*1) (z:=.int .u64 (N.1)) (cs:=[.int .u64 (N.1)]) (Zhd rfl) rfl (i:=1) rfl (Zii S (j:=1) rfl (ltN ai (Zp aa).2.2.2)) (by first | rfl | simp [plain]);have bR:Rep.rels (Zc .u64) aW (List.take (0+(m).toNat*1) I++[Value.int IntKind.u64 (N.1)]++List.drop (0+(m).toNat*1+1) I) (Y.set (m).toNat N.1):=Zbg ah (Zp aa).2.2.2 (show Rep.rel (Zc .u64) aW [.int .u64 (N.1)] _ from (ZE (ZHk aX))) rfl rfl;have bS:M=(Y.set (m).toNat N.1).length:=setN ai;refine Zrf wn rfl (bQ rfl rfl) (mw S rfl fun f S=>Zx ?_);have S:=S.fr' (σ':=[(0,.slice (some ⟨a,off0,none⟩) (g) C),(1,.slice (some ⟨aT,aU,none⟩) V W),(2,.int .u64 q),(7,.slice (mkA (some aY)) (M) Z),(11,.int .u64 (aV.1)),(13,.int .u64 (N.2)),(20,.slice (some ⟨aT,aU,none⟩) V W),(21,.int .i64 ((((Zd 18446744073709551616 v)).length:Int))),(22,.int .i64 m)]) rfl
   refine Zg (bM _ _ (Zz (mv S rfl fun f S=>mv S rfl fun f S=>ov S rfl (Zr S rfl rfl Zbm) fun f S=>mw S rfl fun f S=>Zx (ZRc (Zg (bB _ _ (bO H fun cW a0 H=>Zz (ov S rfl (Zr S rfl rfl (Zuc a0)) fun f S=>mv S rfl fun f S=>Zx ?_))))))));obtain rfl:=Zt H;refine bx _ rfl _ _ ⟨_,_,_,some aY,M,Z,(List.take (0+(m).toNat*1) I++[Value.int IntKind.u64 (N.1)]++List.drop (0+(m).toNat*1+1) I),_,rfl,(leT az aM),(S.fr' rfl),bR,bS,(Zjb _ _),(ZZa a0).2⟩
  have H:=Z4 H aj;refine ZV S rfl aj (wp_exit (Zgb ?_));obtain rfl:=Zt H;have hq:=bz _ rfl;subst hq;have H:=bu;refine Zgb (ZMd ?_);obtain rfl:=Zt H;refine Zg (bs _ _ ⟨_,_,ax,M,Z,I,_,rfl,(leT (leR _) az),(S.fr' rfl),ah,ai,bw⟩)
 rintro f w ⟨L,b,aJ,s,G,h,X,hq,a1,S,a2,aA,bT⟩;subst hq;have H:=br;have r:=ZP a1 r;refine Zg (bo _ _ (Zn fun _ bU=>bO H fun cX ab H=>Zz (mv S rfl fun f S=>mv S rfl fun f S=>?_)));have D:=ZBa a1 D;refine ov S rfl (Z6b S (Zdb D) rfl rfl Zga) fun f S=>mv S rfl fun f S=>?_;obtain ⟨ac,rfl⟩:=Zgd S (j:=1) rfl (posN aA (Zp ab).2.2.2);have a3:=ZPa a2 (Zp ab).2.1;obtain ⟨cY,bV⟩:∃ c,(List.take (Zc .u64).n (List.drop (((((Zd 18446744073709551616 v)).length:Int)).toNat*(Zc .u64).n) h))=c:=⟨_,rfl⟩;rw [bV] at a3;obtain ⟨rfl,cZ⟩:=a3;refine ov S rfl (Zra S rfl rfl Zga (Zp ab).1 (ltI aA (Zp ab).2.2.1)) fun f S=>?_;obtain ⟨w,bW,S⟩:=Zmd S Zwb (off:=0+((((Zd 18446744073709551616 v)).length:Int)).toNat*1) (z:=.int .u64 b) (cs:=[.int .u64 b]) (Zhd rfl) rfl (i:=1) rfl (Zii S (j:=1) rfl (ltN aA (Zp ab).2.2.2)) (by first | rfl | simp [plain]);have p:Rep.rels (Zc .u64) X (List.take (0+((((Zd 18446744073709551616 v)).length:Int)).toNat*1) h++[Value.int IntKind.u64 (b)]++List.drop (0+((((Zd 18446744073709551616 v)).length:Int)).toNat*1+1) h) (L.set ((((Zd 18446744073709551616 v)).length:Int)).toNat b):=Zbg a2 (Zp ab).2.2.2 (show Rep.rel (Zc .u64) X [.int .u64 b] _ from (ZE bT)) rfl rfl
 have aN:s=(L.set ((((Zd 18446744073709551616 v)).length:Int)).toNat b).length:=setN aA;refine Zrf wn rfl (bW rfl rfl) (Zx (Zg (bU _ _ (Zn fun _ bX=>Zn fun _ bY=>bO H fun c0 bZ H=>bO H fun c3 b1 H=>bO H fun b2 b3 H=>Zz (mv S rfl fun f S=>?_)))));have p0s120:=r;have h69s120:=p;have b4:=S.vst.le;obtain ⟨c4,c5,a4,t,S,b5,b6,b7,T⟩:=S.lendSeg (i:=0) (A:=(Zc .u64)) (l:=u) (ℓ':=[Loc.own (some ac) 119 1 s G ((List.take (0+((((Zd 18446744073709551616 v)).length:Int)).toNat*1) h++[Value.int IntKind.u64 (b)]++List.drop (0+((((Zd 18446744073709551616 v)).length:Int)).toNat*1+1) h))]) rfl rfl aH r au bi;have p:=ZP a4 p;refine opc S rfl (ZJ S [.slice (some ⟨a,off0,none⟩) (g) C] Zbj rfl rfl) (ZSi S.vin (show Rep.rel (ZB (Zc .u64)) _ [.slice (some ⟨a,off0,none⟩) (g) C] u from T) bZ) ?_;rintro _ c6 f w aB ⟨c7,rfl,P⟩ S;have p:=ZP aB p;have t:=aB _ _ t;obtain ⟨b8,b9,ca,rfl⟩:=Zua P;refine mv S rfl fun f S=>?_;have T:=ZBa aB T;have h128s137:=T;have h69s137:=p;have h133s137:=P;have h124s137:=t;have cb:=S.vst.le;obtain ⟨c8,c9,aC,ak,S,cc,ce,cg,ch⟩:=S.lendSlice (i:=0) (A:=(Zc .u64)) (l:=(L.set ((((Zd 18446744073709551616 v)).length:Int)).toNat b)) (ℓ':=[]) rfl rfl rfl p aN
 have t:=aC _ _ t;refine opc S rfl (ZJ S [.slice (mkA (some ac)) (s) G] Zbj rfl rfl) (ZSi S.vin (show Rep.rel (ZB (Zc .u64)) _ [.slice (mkA (some ac)) (s) G] ((L.set ((((Zd 18446744073709551616 v)).length:Int)).toNat b)) from ch) b1) ?_;rintro _ da f w al ⟨db,rfl,a5⟩ S;have t:=al _ _ t;have ak:=al _ _ ak;obtain ⟨ci,cj,ck,rfl⟩:=Zua a5;have P:=ZBa (leT aC al) P;refine opc S rfl (ZJ S [.slice b8 b9 ca,.slice ci cj ck] ZUs rfl rfl) (cmp_c S.vin P a5 b3) ?_;rintro _ dc f w am ⟨dd,rfl,cl⟩ S;have t:=am _ _ t;have ak:=am _ _ ak;obtain ⟨rfl,de⟩:=cl;refine ov S rfl (Zr S rfl rfl ZKc) fun f S=>Zx ?_;obtain ⟨df,an,S⟩:=S.takeBack (e:=Loc.own (some ac) 119 1 s G ((List.take (0+((((Zd 18446744073709551616 v)).length:Int)).toNat*1) h++[Value.int IntKind.u64 (b)]++List.drop (0+((((Zd 18446744073709551616 v)).length:Int)).toNat*1+1) h))) (leT (leT aC al) am) rfl ak cc ce cb cg;have T:=ZBa (leT (leT aC al) am) T;have T:=ZBa an h128s137;have p:=ZP an h69s137;have P:=ZBa am P;have P:=ZBa an h133s137;have t:=an _ _ h124s137;obtain ⟨a6,a7,S⟩:=S.takeBack (e:=Loc.box a E (pre0++cs0++post0)) (leT (leT a4 aB) an) rfl t b5 b6 b4 b7;have r:=ZP a7 p0s120
 have p:=ZP a7 h69s120;refine Zg (bY _ _ ?_);rcases Z3 (decide (b2<(0:Int))) with ao | ao
 ·have H:=Z2 H ao;refine Zda S rfl ao (sr (mw S rfl fun f S=>oe (wp_ret (ZHb ?_))));obtain rfl:=Zt H;refine Ztn S (ZHa rfl (ZK S rfl)) ⟨⟨[.bool false],rfl,Zhh⟩,(S.boxAt (j:=0) rfl).2,_,(S.boxAt (j:=0) rfl).1,au,r⟩
 have H:=Z4 H ao;refine ZV S rfl ao (wp_skip (Zg (bX _ _ (sr (mw S rfl fun f S=>oe (Zn fun _ cm=>sr (mv S rfl fun f S=>ov S rfl (Z6b S au rfl rfl Zga) fun f S=>mv S rfl fun f S=>oe ?_)))))));obtain ⟨cn,co,cp⟩:=Z0 H;refine Zmb (fun f w=>∃ aD aO aE,aD=cn∧Zb.le a6 aE∧St 79 ⟨R,[a]⟩ o [] [Loc.box a E (pre0++aO++post0)] aE f w∧Rep.rels (Zc .u64) aE aO aD∧g=aD.length) (fun _ cq=>?_) ?_
 ·have H:=co;refine wp_block ?_;obtain ⟨dg,cr,ct⟩:=Z0 H;refine Z7d cr (fun cu f w=>∃ ad ap d B ae,(ad,ap,d)=cu∧Zb.le a6 ae∧St 79 ⟨R,[a]⟩ o [(0,.slice (some ⟨a,off0,none⟩) (g) C),(7,.slice (mkA (some ac)) (s) G),(14,.int .u64 ap),(58,.int .i64 ((u.length:Int))),(59,.int .i64 d)] [Loc.box a E (pre0++B++post0),Loc.own (some ac) 119 1 s G ((List.take (0+((((Zd 18446744073709551616 v)).length:Int)).toNat*1) h++[Value.int IntKind.u64 (b)]++List.drop (0+((((Zd 18446744073709551616 v)).length:Int)).toNat*1+1) h))] ae f w∧Rep.rels (Zc .u64) ae B ad∧g=ad.length∧inR .u64 ap∧inR .i64 d) ⟨_,_,_,cs0,_,rfl,(leR _),(S.fr' rfl),r,au,(by decide),(by decide)⟩ ?_;rintro _ f w st ⟨ad,ap,d,B,ae,hq,aP,S,af,Q,dh,di⟩ H dj cv cw;subst hq;have p:=ZP aP p;refine sr (ov S rfl (Zr S rfl rfl ZKc) fun f S=>oe (Zn fun _ cx=>?_));rcases Z3 (decide (d<(u.length:Int))) with aq | aq
  ·have H:=Z2 H aq;refine Zda S rfl aq (wp_skip (Zg (cx _ _ (Zn fun _ cy=>wp_block (sr (mv S rfl fun f S=>mw S rfl fun f S=>oe (bO H fun a8 aF H=>bO H fun a9 aG H=>bO H fun U aQ H=>bO H fun dk ar H=>Z8e (fl:=#[true,true,true,true,true,true,true,true,true,true,true,false,true,true,true,true,false,false]) Zuh (by kernel_rfl) S ?_)))))));intro ops O F w S;refine rfa O F 0 rfl rfl S (ZH S rfl) fun f S=>rfa O F 1 rfl rfl S (ZH S rfl) fun f S=>rfa O F 2 rfl rfl S (ZH S rfl) fun f S=>rfa O F 3 rfl rfl S (ZH S rfl) fun f S=>?_;have ba:=ZPa af (Zp aF).2.1;obtain ⟨dl,bb⟩:∃ c,(List.take (Zc .u64).n (List.drop ((d).toNat*(Zc .u64).n) B))=c:=⟨_,rfl⟩;rw [bb] at ba;obtain ⟨rfl,cz⟩:=ba;refine rfa O F 4 rfl rfl S (Zra S rfl rfl Zga (Zp aF).1 (ltI Q (Zp aF).2.2.1)) fun f S=>rfa O F 5 rfl rfl S (Zib S rfl Zwb (Zvh S (j:=0) rfl aH (Zie af Q) bb (ltN Q (Zp aF).2.2.2) 0 [.int .u64 a8] rfl zl)) fun f S=>rfa O F 6 rfl rfl S (ZH S rfl) fun f S=>rfa O F 7 rfl rfl S (ZH S rfl) fun f S=>?_;have bc:=ZPa p (Zp aG).2.1;obtain ⟨dm,bd⟩:∃ c,(List.take (Zc .u64).n (List.drop ((d).toNat*(Zc .u64).n) (List.take (0+((((Zd 18446744073709551616 v)).length:Int)).toNat*1) h++[Value.int IntKind.u64 (b)]++List.drop (0+((((Zd 18446744073709551616 v)).length:Int)).toNat*1+1) h)))=c:=⟨_,rfl⟩
   rw [bd] at bc;obtain ⟨rfl,cA⟩:=bc;refine rfa O F 8 rfl rfl S (Zra S rfl rfl Zga (Zp aG).1 (ltI aN (Zp aG).2.2.1)) fun f S=>rfa O F 9 rfl rfl S (Zib S rfl Zwb (Zpe S (j:=1) rfl bd (ltN aN (Zp aG).2.2.2) 0 [.int .u64 a9] rfl zl)) fun f S=>rfa O F 10 rfl rfl S (ZH S rfl) fun f S=>go1 O F 11 (nva [5,9,10,4,8,2,3,6,7] [0,1] O rfl rfl S (Zhc S [.int .u64 a8,.int .u64 a9,.int .u64 ap] (Zzq k_ext89 cz cA aQ) rfl rfl) fun f S=>⟨(py S rfl rfl (ZH S rfl) (py S rfl rfl (ZH S rfl) ZKa)),rfa O F 12 rfl rfl S (ZH S rfl) fun f S=>rfa O F 13 rfl rfl S (Z8 S rfl rfl) fun f S=>rfa O F 14 rfl rfl S (Z8 S rfl rfl) fun f S=>?_⟩);have be:=ZPa af (Zp ar).2.1;obtain ⟨dn,cC⟩:∃ c,(List.take (Zc .u64).n (List.drop ((d).toNat*(Zc .u64).n) B))=c:=⟨_,rfl⟩;rw [cC] at be;obtain ⟨rfl,dp⟩:=be;refine rfa O F 15 rfl rfl S (Zra S rfl rfl Zga (Zp ar).1 (ltI Q (Zp ar).2.2.1)) fun f S=>go1 O F 16 ?_;obtain ⟨w,cD,S⟩:=ZVu S (k:=(d).toNat) Zwb (z:=.int .u64 (U.1)) (c:=[.int .u64 (U.1)]) (Zhd rfl) rfl (i:=0) rfl aH (Zie af Q) (ltN Q (Zp ar).2.2.2) rfl (by first | rfl | simp [plain]);have cE:Rep.rels (Zc .u64) ae (List.take (0+(d).toNat*1) B++[Value.int IntKind.u64 (U.1)]++List.drop (0+(d).toNat*1+1) B) (ad.set (d).toNat U.1):=Zbg af (Zp ar).2.2.2 (show Rep.rel (Zc .u64) ae [.int .u64 (U.1)] _ from (ZE (ZDo aQ))) rfl rfl
   have cF:g=(ad.set (d).toNat U.1).length:=setN Q;refine nxs [0,1,2,3,4,5,6,7,8,9,10,11,12,13,15] [14] O rfl rfl (cD rfl rfl) (⟨(py S rfl rfl (Z8 S rfl rfl) ZKa),go1 O F 17 (nva [0,1,2,3,4,5,6,7,8,9,10,11,12,13,14,15,16] [] O rfl rfl S (ZLc S rfl) fun f S=>⟨ZKa,fin1 O F (ZRc (Zg (cy _ _ (bO H fun dq bf H=>Zz (ov S rfl (Zr S rfl rfl (Zuc bf)) fun f S=>mv S rfl fun f S=>Zx ?_)))))⟩)⟩);obtain rfl:=Zt H;refine cv _ rfl _ _ ⟨_,_,_,(List.take (0+(d).toNat*1) B++[Value.int IntKind.u64 (U.1)]++List.drop (0+(d).toNat*1+1) B),_,rfl,aP,(S.fr' rfl),cE,cF,(Zio aQ),(ZZa bf).2⟩
  have H:=Z4 H aq;refine ZV S rfl aq (wp_exit (Zgb ?_));obtain rfl:=Zt H;have hq:=cw _ rfl;subst hq;have H:=ct;refine Zgb (ZMd ?_);obtain rfl:=Zt H;have S:=S.reorder (ℓ':=[Loc.box a E (pre0++B++post0)]) [0] rfl (by decide);refine Zg (cq _ _ ⟨_,B,_,rfl,(leT (leR _) aP),(S.fr' rfl),af,Q⟩)
 rintro f w ⟨aD,aO,aE,hq,dr,S,cH,cI⟩;subst hq;have H:=cp;refine Zg (cm _ _ (sr (mw S rfl fun f S=>oe (wp_ret ?_))));obtain rfl:=Zt H;refine Ztn S (ZHa rfl (ZK S rfl)) ⟨⟨[.bool true],rfl,Zhh⟩,(S.boxAt (j:=0) rfl).2,_,(S.boxAt (j:=0) rfl).1,cI,cH⟩
theorem take_c {d:World} {a:Zb} (hv:VIn a d) {b off0 c e:Nat} {f:TypeId} {pre0 cs0 post0:List Value} {u:(List Int)} (l:d.heap[b]? = some (.cells (pre0++cs0++post0).toArray f (0,0))) (m:off0=pre0.length) (n:a b=none) (o:c=u.length) (p:c≤e∧e≤maxLen) (g:Rep.rels (Zc .u64) a cs0 u) {h:List Value} {v:Nat} (r:Rep.rel Zu a h v) {i:List Value} {q:Int} (j:Rep.rel (Zc .u64) a i q) {z:Bool×(List Int)} (hm:ZOg u v q=some z) :
  Z9c Tryz.prog 110 #[Value.slice (some ⟨b,off0,none⟩) c e,Zu.val h,(Zc .u64).val i] d a [b] (fun y v' w'=>(∃ k,y=Z3a.val k∧Z3a.rel v' k z.1)∧v' b=none∧∃ cs,w'.heap[b]? = some (.cells (pre0++cs++post0).toArray f (0,0))∧c=z.2.length∧Rep.rels (Zc .u64) v' cs z.2) :=
 take_w hv l m n o p g r j (ZNw (Zqm g) j.2 hm)
theorem digit_w {x:World} {m:Zb} (hv:VIn m x) {a off0 e h:Nat} {A:TypeId} {pre0 cs0 post0:List Value} {u:(List Int)} (a1:x.heap[a]? = some (.cells (pre0++cs0++post0).toArray A (0,0))) (G:off0=pre0.length) (a2:m a=none) (k:e=u.length) (a3:e≤h∧h≤maxLen) (d:Rep.rels (Zc .u64) m cs0 u) {c1:List Value} {v:Nat} (g:Rep.rel Zu m c1 v) {z:Int×(List Int)} (H:Zfh u v=some z):Z9c Tryz.prog 87 #[.slice (some ⟨a,off0,none⟩) e h,Zu.val c1] x m [a] (fun y v' w'=>(∃ r0,y=(Zc .u64).val r0∧(Zc .u64).rel v' r0 z.1)∧v' a=none∧∃ cs,w'.heap[a]? = some (.cells (pre0++cs++post0).toArray A (0,0))∧e=z.2.length∧Rep.rels (Zc .u64) v' cs z.2):=by
 obtain ⟨q1,o,p,rfl⟩:=Zua g;refine Zss (K:=90) (args:=[.slice (some ⟨a,off0,none⟩) (e) h,.slice q1 o p]) hv a1 a2 Tryz.func87 rfl rfl zl fun f S=>?_;unfold Zfh at H;refine sr (mw S rfl fun f S=>oe (sr (mv S rfl fun f S=>ov S rfl (Z6b S (Zdb g) rfl rfl Zga) fun f S=>mw S rfl fun f S=>oe (sr (mw S rfl fun f S=>oe (Zn fun _ a4=>Zn fun _ a5=>bO H fun aF V H=>?_))))));refine bO H fun cm a6 H=>bO H fun a7 aj H=>Z8e (fl:=#[true,true,true,true,true,true,true,true,true,true]) Zuh (by kernel_rfl) S ?_;intro ops O F w S;refine rfa O F 0 rfl rfl S (ZH S rfl) fun f S=>rfa O F 1 rfl rfl S (ZH S rfl) fun f S=>?_;have aG:=ZPa d (Zp V).2.1;obtain ⟨cn,aH⟩:∃ c,(List.take (Zc .u64).n (List.drop (((((Zd 18446744073709551616 v)).length:Int)).toNat*(Zc .u64).n) cs0))=c:=⟨_,rfl⟩;rw [aH] at aG;obtain ⟨rfl,co⟩:=aG;refine rfa O F 2 rfl rfl S (Zra S rfl rfl Zga (Zp V).1 (ltI k (Zp V).2.2.1)) fun f S=>rfa O F 3 rfl rfl S (Zib S rfl Zwb (Zvh S (j:=0) rfl G (Zie d k) aH (ltN k (Zp V).2.2.2) 0 [.int .u64 aF] rfl zl)) fun f S=>rfa O F 4 rfl rfl S (ZH S rfl) fun f S=>rfa O F 5 rfl rfl S (ZH S rfl) fun f S=>rfa O F 6 rfl rfl S (Zr S rfl rfl (Zrb a6)) fun f S=>?_;obtain ⟨_,r,s,cp,rfl,a8,a9⟩:=Zsc g (Zp aj).2.1
 obtain ⟨rfl,cq⟩:=a9;refine rfa O F 7 rfl rfl S (Zra S rfl rfl Zga (Zp aj).1 (ltI (Zdb g) (Zp aj).2.2.1)) fun f S=>rfa O F 8 rfl rfl S (Zib S rfl Zwb (S.view a8)) fun f S=>rfa O F 9 rfl rfl S (Zr S rfl rfl ZKc) fun f S=>fin1 O F (Zg (a5 _ _ ?_));obtain ⟨ba,bb,bc⟩:=Z0 H;refine Zmb (fun f w=>∃ W I,W=ba∧Zb.le m I∧St 90 ⟨x,[a]⟩ m [(0,.slice (some ⟨a,off0,none⟩) (e) h),(1,.slice (some ⟨r,s,none⟩) o p),(6,.int .u64 W)] [Loc.box a A (pre0++cs0++post0)] I f w∧inR .u64 W) (fun _ aI=>?_) ?_
 ·have H:=bb;rcases Z3 (decide (aF<a7)) with J | J
  ·have H:=Z2 H J;refine Zda S rfl J (sr (mw S rfl fun f S=>oe (Zn fun _ bd=>bO H fun X Y H=>bO H fun be bf H=>bO H fun Z aa H=>bO H fun cr bg H=>bO H fun ak al H=>bO H fun aJ bh H=>Z8e (fl:=#[true,true,true,true,true,true,true,true,true,true,true,true,true,true,false,true,true,true,false,false]) Zuh (by kernel_rfl) S ?_)));intro ops O F w S;refine rfa O F 0 rfl rfl S (ZH S rfl) fun f S=>rfa O F 1 rfl rfl S (ZH S rfl) fun f S=>?_;have aK:=ZPa d (Zp Y).2.1;obtain ⟨ct,aL⟩:∃ c,(List.take (Zc .u64).n (List.drop (((((Zd 18446744073709551616 v)).length:Int)).toNat*(Zc .u64).n) cs0))=c:=⟨_,rfl⟩;rw [aL] at aK;obtain ⟨rfl,bi⟩:=aK;refine rfa O F 2 rfl rfl S (Zra S rfl rfl Zga (Zp Y).1 (ltI k (Zp Y).2.2.1)) fun f S=>rfa O F 3 rfl rfl S (Zib S rfl Zwb (Zvh S (j:=0) rfl G (Zie d k) aL (ltN k (Zp Y).2.2.2) 0 [.int .u64 X] rfl zl)) fun f S=>rfa O F 4 rfl rfl S (ZH S rfl) fun f S=>rfa O F 5 rfl rfl S (ZH S rfl) fun f S=>rfa O F 6 rfl rfl S (Zr S rfl rfl (Zrb bf)) fun f S=>?_;have aM:=ZPa d (Zp aa).2.1;obtain ⟨cu,aN⟩:∃ c,(List.take (Zc .u64).n (List.drop ((be).toNat*(Zc .u64).n) cs0))=c:=⟨_,rfl⟩;rw [aN] at aM;obtain ⟨rfl,bj⟩:=aM;refine rfa O F 7 rfl rfl S (Zra S rfl rfl Zga (Zp aa).1 (ltI k (Zp aa).2.2.1)) fun f S=>rfa O F 8 rfl rfl S (Zib S rfl Zwb (Zvh S (j:=0) rfl G (Zie d k) aN (ltN k (Zp aa).2.2.2) 0 [.int .u64 Z] rfl zl)) fun f S=>rfa O F 9 rfl rfl S (ZH S rfl) fun f S=>rfa O F 10 rfl rfl S (ZH S rfl) fun f S=>rfa O F 11 rfl rfl S (Zr S rfl rfl (Zrb bg)) fun f S=>?_
   obtain ⟨cv,am,bk⟩:=ZYm g (Zp al).2.1;obtain ⟨rfl,bm⟩:=bk;refine rfa O F 12 rfl rfl S (Zra S rfl rfl Zga (Zp al).1 (ltI (Zdb g) (Zp al).2.2.1)) fun f S=>rfa O F 13 rfl rfl S (Zib S rfl Zwb (S.view am)) fun f S=>go1 O F 14 (nxc [3,8,13,2,7,12,0,1,4,6,9,11,5,10] [] O rfl S rfl (ZJ S [.int .u64 X,.int .u64 Z,.int .u64 ak] k_en94 rfl rfl) (div64_c S.vin (show Rep.rel (Zc .u64) _ [.int .u64 X] X from (ZE bi)) (show Rep.rel (Zc .u64) _ [.int .u64 Z] Z from (ZE bj)) (show Rep.rel (Zc .u64) _ [.int .u64 ak] ak from (ZE bm)) bh) ?_);rintro _ aO f w ab ⟨cw,cx,rfl,bn,bo⟩ S;have d:=ZP ab d;have am:=Atm ab am;obtain ⟨rfl,bp⟩:=bn;obtain ⟨rfl,bq⟩:=bo;refine ⟨ZKa,rfa O F 15 rfl rfl S (ZH S rfl) fun f S=>rfa O F 16 rfl rfl S (Z8 S rfl rfl) fun f S=>rfa O F 17 rfl rfl S (Z8 S rfl rfl) fun f S=>go1 O F 18 (nva [0,1,2,3,4,5,6,7,8,9,10,11,12,13,14,15,16] [17] O rfl rfl S (ZLc S rfl) fun f S=>⟨(py S rfl rfl (Z8 S rfl rfl) ZKa),go1 O F 19 (nva [0,1,2,3,4,5,6,7,8,9,10,11,12,13,14,15,16,17,18] [] O rfl rfl S (ZLc S rfl) fun f S=>⟨ZKa,fin1 O F ?_⟩)⟩)⟩;have S:=S.fr' (σ':=[(0,.slice (some ⟨a,off0,none⟩) (e) h),(1,.slice (some ⟨r,s,none⟩) o p),(5,.int .i64 ((((Zd 18446744073709551616 v)).length:Int))),(6,.int .u64 (aJ.1)),(7,.int .u64 (aJ.2))]) rfl
   refine Zg (bd _ _ ?_);obtain ⟨br,bs,bt⟩:=Z0 H;refine Zmb (fun f w=>∃ ac an,ac=br∧Zb.le aO an∧St 90 ⟨x,[a]⟩ m [(0,.slice (some ⟨a,off0,none⟩) (e) h),(1,.slice (some ⟨r,s,none⟩) o p),(6,.int .u64 ac)] [Loc.box a A (pre0++cs0++post0)] an f w∧inR .u64 ac) (fun _ aP=>?_) ?_
   ·have H:=bs;refine wp_block ?_;obtain ⟨cy,bu,aQ⟩:=Z0 H;refine Z7d bu (fun bv f w=>∃ q l ao,(q,l)=bv∧Zb.le aO ao∧St 90 ⟨x,[a]⟩ m [(0,.slice (some ⟨a,off0,none⟩) (e) h),(1,.slice (some ⟨r,s,none⟩) o p),(5,.int .i64 ((((Zd 18446744073709551616 v)).length:Int))),(6,.int .u64 q),(7,.int .u64 l)] [Loc.box a A (pre0++cs0++post0)] ao f w∧inR .u64 q∧inR .u64 l) ⟨_,_,_,rfl,(leR _),(S.fr' rfl),bp,bq⟩ ?_;rintro _ f w st ⟨q,l,ao,hq,L,S,aR,cz⟩ H cA bw aS;subst hq;have d:=ZP L d;refine wp_block (Zn fun _ bx=>bO H fun cC bz H=>bO H fun ap aq H=>bO H fun B bA H=>Zz (mv S rfl fun f S=>mv S rfl fun f S=>mv S rfl fun f S=>ov S rfl (Zr S rfl rfl (Zrb bz)) fun f S=>?_));have g:=ZBa (leT ab L) g;obtain ⟨cD,ar,bB⟩:=ZYm g (Zp aq).2.1;obtain ⟨rfl,bC⟩:=bB;refine ov S rfl (Zra S rfl rfl Zga (Zp aq).1 (ltI (Zdb g) (Zp aq).2.2.1)) fun f S=>ov S rfl (Zib S rfl Zwb (S.view ar)) fun f S=>opc S rfl (ZJ S [.int .u64 q,.int .u64 ap] Z9m rfl rfl) (ZSm S.vin (show Rep.rel (Zc .u64) _ [.int .u64 q] q from (ZE aR)) (show Rep.rel (Zc .u64) _ [.int .u64 ap] ap from (ZE bC)) bA) ?_;rintro _ bD f w E ⟨cE,cF,rfl,bE,bG⟩ S
    have d:=ZP E d;have ar:=Atm E ar;obtain ⟨rfl,cH⟩:=bE;obtain ⟨rfl,cI⟩:=bG;refine mv S rfl fun f S=>ov S rfl (Z8 S rfl rfl) fun f S=>ov S rfl (Z8 S rfl rfl) fun f S=>mw S rfl fun f S=>mw S rfl fun f S=>Zx (Zg (bx _ _ (Zn fun _ bH=>Zn fun _ bI=>?_)));obtain ⟨bJ,bK,bM⟩:=Z0 H;refine Zmb (fun f w=>∃ ad au,ad=bJ∧Zb.le bD au∧St 90 ⟨x,[a]⟩ m [(0,.slice (some ⟨a,off0,none⟩) (e) h),(1,.slice (some ⟨r,s,none⟩) o p),(5,.int .i64 ((((Zd 18446744073709551616 v)).length:Int))),(6,.int .u64 q),(7,.int .u64 l),(67,.bool ad)] [Loc.box a A (pre0++cs0++post0)] au f w) (fun _ av=>?_) ?_
    ·have H:=bK;refine Zz (mv S rfl fun f S=>mv S rfl fun f S=>ov S rfl (Zr S rfl rfl ZKc) fun f S=>mv S rfl fun f S=>?_);rcases Z3 (decide (B.1<l)) with M | M
     ·have H:=Z2 H M;have S:=S.bool (t:=54) rfl M;refine opn S rfl rfl rfl rfl fun f S=>opn S rfl rfl rfl rfl fun f S=>opn S rfl rfl rfl rfl fun f S=>opn S rfl rfl rfl rfl fun f S=>ZIe S (ZVd S rfl rfl rfl zl) rfl zl fun f S=>ZIe S (ZVd S rfl rfl rfl zl) rfl zl fun f S=>ZIe S (ZVd S rfl rfl rfl zl) rfl zl fun f S=>ZIe S (ZVd S rfl rfl rfl zl) rfl zl fun f S=>ZIe S (ZVd S rfl rfl rfl zl) rfl zl fun f S=>ZIe S (ZVd S rfl rfl rfl zl) rfl zl fun f S=>ZIe S (ZVd S rfl rfl rfl zl) rfl zl fun f S=>opn S rfl rfl rfl rfl fun f S=>ov S rfl (Z7b S (b:=true) rfl rfl) fun f S=>Zx ?_;have S:=S.fr' (σ':=[(0,.slice (some ⟨a,off0,none⟩) (e) h),(1,.slice (some ⟨r,s,none⟩) o p),(5,.int .i64 ((((Zd 18446744073709551616 v)).length:Int))),(6,.int .u64 q),(7,.int .u64 l),(55,undef),(56,undef),(57,undef),(58,undef),(59,undef),(60,undef),(61,undef),(62,undef),(63,undef),(64,undef),(65,undef),(66,undef),(67,.bool true)]) rfl;obtain rfl:=Zt H;refine Zg (av _ _ ⟨_,_,rfl,(leR _),(S.fr' rfl)⟩)
     have H:=Z4 H M;have S:=S.bool (t:=54) rfl M;refine opy S rfl rfl rfl rfl (ZH S rfl) fun f S=>opy S rfl rfl rfl rfl (ZH S rfl) fun f S=>opy S rfl rfl rfl rfl (Zr S rfl rfl ZRf) fun f S=>opy S rfl rfl rfl rfl (ZH S rfl) fun f S=>?_;rcases Z3 (B.1==l) with C | C
     ·have H:=Z2 H C;have S:=S.bool (t:=57) rfl C;have S:=S.bool (t:=58) rfl C;refine bO H fun ax bP H=>bO H fun N ae H=>opy S rfl rfl rfl rfl (ZH S rfl) fun f S=>opy S rfl rfl rfl rfl (ZH S rfl) fun f S=>opy S rfl rfl rfl rfl (ZH S rfl) fun f S=>opy S rfl rfl rfl rfl (Zr S rfl rfl (Zrb bP)) fun f S=>?_;have aT:=ZPa d (Zp ae).2.1;obtain ⟨cJ,aU⟩:∃ c,(List.take (Zc .u64).n (List.drop ((ax).toNat*(Zc .u64).n) cs0))=c:=⟨_,rfl⟩;rw [aU] at aT;obtain ⟨rfl,cK⟩:=aT;refine opy S rfl rfl rfl rfl (Zra S rfl rfl Zga (Zp ae).1 (ltI k (Zp ae).2.2.1)) fun f S=>opy S rfl rfl rfl rfl (Zib S rfl Zwb (Zvh S (j:=0) rfl G (Zie d k) aU (ltN k (Zp ae).2.2.2) 0 [.int .u64 N] rfl zl)) fun f S=>opy S rfl rfl rfl rfl (Zr S rfl rfl ZZo) fun f S=>opy S rfl rfl rfl rfl (Z7b S (b:=true) rfl rfl) fun f S=>ov S rfl (Z7b S (b:=false) rfl rfl) fun f S=>Zx ?_;have S:=S.fr' (σ':=[(0,.slice (some ⟨a,off0,none⟩) (e) h),(1,.slice (some ⟨r,s,none⟩) o p),(5,.int .i64 ((((Zd 18446744073709551616 v)).length:Int))),(6,.int .u64 q),(7,.int .u64 l),(55,.int .u64 (B.1)),(56,.int .u64 l),(57,.bool true),(58,.bool true),(59,.int .u64 (B.2)),(60,.slice (some ⟨a,off0,none⟩) (e) h),(61,.int .i64 ((((Zd 18446744073709551616 v)).length:Int))),(62,.int .i64 ax),(63,.pointer (some ⟨a,off0+(ax).toNat*1,none⟩)),(64,.int .u64 N),(65,.bool (decide (B.2≤N))),(66,.bool (decide (B.2≤N))),(67,.bool (decide (B.2≤N)))]) rfl
      obtain rfl:=Zt H;refine Zg (av _ _ ⟨_,_,rfl,(leR _),(S.fr' rfl)⟩)
     have H:=Z4 H C;have S:=S.bool (t:=57) rfl C;have S:=S.bool (t:=58) rfl C;refine opn S rfl rfl rfl rfl fun f S=>opn S rfl rfl rfl rfl fun f S=>opn S rfl rfl rfl rfl fun f S=>opn S rfl rfl rfl rfl fun f S=>opn S rfl rfl rfl rfl fun f S=>opn S rfl rfl rfl rfl fun f S=>opn S rfl rfl rfl rfl fun f S=>opy S rfl rfl rfl rfl (Z7b S (b:=false) rfl rfl) fun f S=>ov S rfl (Z7b S (b:=false) rfl rfl) fun f S=>Zx ?_;have S:=S.fr' (σ':=[(0,.slice (some ⟨a,off0,none⟩) (e) h),(1,.slice (some ⟨r,s,none⟩) o p),(5,.int .i64 ((((Zd 18446744073709551616 v)).length:Int))),(6,.int .u64 q),(7,.int .u64 l),(55,.int .u64 (B.1)),(56,.int .u64 l),(57,.bool false),(58,.bool false),(59,undef),(60,undef),(61,undef),(62,undef),(63,undef),(64,undef),(65,undef),(66,.bool false),(67,.bool false)]) rfl;obtain rfl:=Zt H;refine Zg (av _ _ ⟨_,_,rfl,(leR _),(S.fr' rfl)⟩)
    rintro f w ⟨ad,au,hq,P,S⟩;subst hq;have H:=bM;have d:=ZP P d;refine Zg (bI _ _ ?_);rcases Z3 (ad) with Q | Q
    ·have H:=Z2 H Q;refine Zda S rfl Q (wp_exit (Zgb (Zyp rfl ?_)));obtain rfl:=Zt H;have hq:=aS _ rfl;subst hq;have H:=aQ;refine Zgb (ZMd ?_);obtain rfl:=Zt H;refine Zg (aP _ _ ⟨_,_,rfl,(leT (leT (leT (leR _) L) E) P),(S.fr' rfl),aR⟩)
    have H:=Z4 H Q;refine ZV S rfl Q (wp_skip (Zg (bH _ _ (sr (mv S rfl fun f S=>ov S rfl (Zr S rfl rfl Z1k) fun f S=>mw S rfl fun f S=>oe (sr (mw S rfl fun f S=>oe (Zn fun _ bQ=>bO H fun cL bR H=>bO H fun bS ay H=>?_))))))));refine bO H fun bT aV H=>Zz (mv S rfl fun f S=>mv S rfl fun f S=>mv S rfl fun f S=>ov S rfl (Zr S rfl rfl (Zrb bR)) fun f S=>?_);have g:=ZBa (leT E P) g;obtain ⟨cM,bU,bV⟩:=ZYm g (Zp ay).2.1;obtain ⟨rfl,cN⟩:=bV;refine ov S rfl (Zra S rfl rfl Zga (Zp ay).1 (ltI (Zdb g) (Zp ay).2.2.1)) fun f S=>ov S rfl (Zib S rfl Zwb (S.view bU)) fun f S=>ov S rfl (Zhc S [.int .u64 l,.int .u64 bS,.int .u64 0] (Zjl ZAo aV) rfl rfl) fun f S=>mv S rfl fun f S=>ov S rfl (Z8 S rfl rfl) fun f S=>ov S rfl (Z8 S rfl rfl) fun f S=>mw S rfl fun f S=>mw S rfl fun f S=>Zx (Zg (bQ _ _ (sr (mv S rfl fun f S=>ov S rfl (Zr S rfl rfl Z7e) fun f S=>oe ?_))));rcases Z3 (decide ((0:Int)<bT.2)) with R | R
    ·have H:=Z2 H R;refine Zda S rfl R (wp_exit (Zyp rfl ?_));obtain rfl:=Zt H;have hq:=aS _ rfl;subst hq;have H:=aQ;refine Zgb (ZMd ?_);obtain rfl:=Zt H;refine Zg (aP _ _ ⟨_,_,rfl,(leT (leT (leT (leR _) L) E) P),(S.fr' rfl),(Zjb _ _)⟩)
    have H:=Z4 H R;refine ZV S rfl R (wp_skip (ZRc ?_));obtain rfl:=Zt H;refine bw _ rfl _ _ ⟨_,_,_,rfl,(leT (leT L E) P),(S.fr' rfl),(Zjb _ _),(ZHk aV)⟩
   rintro f w ⟨ac,an,hq,aW,S,bW⟩;subst hq;have H:=bt;have d:=ZP aW d;obtain rfl:=Zt H;refine Zg (aI _ _ ⟨_,_,rfl,(leT (leT (leR _) ab) aW),(S.fr' rfl),bW⟩)
  have H:=Z4 H J;refine ZV S rfl J (wp_skip ?_);obtain rfl:=Zt H;refine Zg (aI _ _ ⟨_,_,rfl,(leR _),(S.fr' rfl),(by decide)⟩)
 rintro f w ⟨W,I,hq,aX,S,bX⟩;subst hq;have H:=bc;have d:=ZP aX d;refine Zg (a4 _ _ (Zn fun _ bY=>?_));obtain ⟨bZ,b1,b2⟩:=Z0 H;refine Zmb (fun f w=>∃ af T az ag,(af,T)=bZ∧Zb.le I ag∧St 90 ⟨x,[a]⟩ m [(6,.int .u64 T)] [Loc.box a A (pre0++az++post0)] ag f w∧Rep.rels (Zc .u64) ag az af∧e=af.length∧inR .u64 T) (fun _ b3=>?_) ?_
 ·have H:=b1;refine wp_block ?_;obtain ⟨cO,b4,b5⟩:=Z0 H;refine Z7d b4 (fun b6 f w=>∃ ah D aA ai,(ah,D)=b6∧Zb.le I ai∧St 90 ⟨x,[a]⟩ m [(0,.slice (some ⟨a,off0,none⟩) (e) h),(1,.slice (some ⟨r,s,none⟩) o p),(6,.int .u64 D)] [Loc.box a A (pre0++aA++post0)] ai f w∧Rep.rels (Zc .u64) ai aA ah∧e=ah.length∧inR .u64 D) ⟨_,_,cs0,_,rfl,(leR _),(S.fr' rfl),d,k,bX⟩ ?_;rintro _ f w st ⟨ah,D,aA,ai,hq,aB,S,aC,b7,aY⟩ H cP b8 b9;subst hq;refine Zn fun _ ca=>Zn fun _ cb=>bO H fun cc ce H=>Zz (mv S rfl fun f S=>mv S rfl fun f S=>mv S rfl fun f S=>?_);have g:=ZBa (leT aX aB) g;refine ZTn S wn rfl zl (ZJ S [.slice (some ⟨a,off0,none⟩) (e) h,.slice (some ⟨r,s,none⟩) o p,.int .u64 D] k_en110 rfl rfl) (i:=0) rfl rfl (take_c S.vin (S.boxAt (j:=0) rfl).1 G (S.boxAt (j:=0) rfl).2 b7 a3 aC g (show Rep.rel (Zc .u64) _ [.int .u64 D] D from (ZE aY)) ce) ?_;rintro _ cQ f w aD ⟨⟨cR,rfl,cg⟩,ch,aE,ci,aZ,a0⟩ hSf;have aC:=ZP aD aC;have S:=hSf (Loc.box a A (pre0++aE++post0)) rfl ci ch;obtain rfl:=cg;refine ov S rfl (Z5q S rfl) fun f S=>Zx (Zg (cb _ _ ?_));rcases Z3 (!(cc.1)) with U | U
  ·have H:=Z2 H U;refine Zda S rfl U (wp_skip (Zg (ca _ _ (wp_block (Zz (mv S rfl fun f S=>ov S rfl (Zr S rfl rfl Z1k) fun f S=>mw S rfl fun f S=>Zx (ZRc ?_)))))));obtain rfl:=Zt H;refine b8 _ rfl _ _ ⟨_,_,aE,_,rfl,(leT aB aD),(S.fr' rfl),a0,aZ,(Zjb _ _)⟩
  have H:=Z4 H U;refine ZV S rfl U (wp_exit (Zgb ?_));obtain rfl:=Zt H;have hq:=b9 _ rfl;subst hq;have H:=b5;refine Zgb (ZMd ?_);obtain rfl:=Zt H;refine Zg (b3 _ _ ⟨_,_,aE,_,rfl,(leT (leT (leR _) aB) aD),(S.fr' rfl),a0,aZ,aY⟩)
 rintro f w ⟨af,T,az,ag,hq,cS,S,cj,ck,cl⟩;subst hq;have H:=b2;refine Zg (bY _ _ (sr (mv S rfl fun f S=>mw S rfl fun f S=>oe (wp_ret ?_))));obtain rfl:=Zt H;refine Ztn S (ZHa rfl (ZK S rfl)) ⟨⟨[.int .u64 T],rfl,(ZE cl)⟩,(S.boxAt (j:=0) rfl).2,_,(S.boxAt (j:=0) rfl).1,ck,cj⟩
theorem digit_c {d:World} {b:Zb} (hv:VIn b d) {a off0 c e:Nat} {f:TypeId} {pre0 cs0 post0:List Value} {u:(List Int)} (j:d.heap[a]? = some (.cells (pre0++cs0++post0).toArray f (0,0))) (k:off0=pre0.length) (l:b a=none) (m:c=u.length) (n:c≤e∧e≤maxLen) (g:Rep.rels (Zc .u64) b cs0 u) {h:List Value} {v:Nat} (o:Rep.rel Zu b h v) {z:Int×(List Int)} (hm:ZCg u v=some z) :
  Z9c Tryz.prog 87 #[Value.slice (some ⟨a,off0,none⟩) c e,Zu.val h] d b [a] (fun y v' w'=>(∃ i,y=(Zc .u64).val i∧(Zc .u64).rel v' i z.1)∧v' a=none∧∃ cs,w'.heap[a]? = some (.cells (pre0++cs++post0).toArray f (0,0))∧c=z.2.length∧Rep.rels (Zc .u64) v' cs z.2) :=
 digit_w hv j k l m n g o (ZBx (Zqm g) hm)
end Go.Eng
set_option maxRecDepth 100000
set_option maxHeartbeats 4000000
namespace Go.Eng
open Go.Proofs Go.RowKit
noncomputable def left_q:FuncId×Con:=(86,⟨[.leaf 0,.int .i64],[.leaf 0],fun p=>ZDc p.1 p.2⟩)
theorem left_r:KR left_q:=Z6 (C:=cf2 [(28,0)] [Z4e]) (.n (.two (.f (.j [0,1] [] [.s 14 (.dat .bool)] .no)) (.n (.f (.n (.j [] [] [.s 5 (.own 119 (.int .u64))] (.f (.l [1,23,24] [] [.s 5 (.own 119 (.int .u64)),.s 25 (.dat (.int .i64))] 0 [] [] [.s 5 (.own 119 (.int .u64))] .no)))))))) Tryz.func86 [] (fun v vals x z ha hz=>.trans (by kernel_rfl) (Z6t hz)) ⟨Zrg,tr⟩
end Go.Eng
namespace Go.Eng
open Go.Proofs Go.RowKit
theorem Z2i {e:World} {b:Zb} (hv:VIn b e) {c:List Value} {a:Nat} (g:Rep.rel Zu b c a) {d:List Value} {n:Int} (h:Rep.rel (Zc .i64) b d n) {z:Nat} (hm:ZDc a n=some z) :
  Ret Tryz.prog 86 #[Zu.val c,(Zc .i64).val d] e b (fun y v'=>∃ f,y=Zu.val f∧Zu.rel v' f z) :=
 (left_r e b [Zu.val c,(Zc .i64).val d] (a,n) z hv ⟨c,_,rfl,g,d,rfl,h⟩ hm).2
theorem lz64_c {c:World} {a:Zb} (hv:VIn a c) {b:List Value} {x:Int} (e:Rep.rel (Zc .u64) a b x) {z:Int} (hm:Zpd x=some z) :
  Ret Tryz.prog 85 #[(Zc .u64).val b] c a (fun y v'=>∃ d,y=(Zc .i64).val d∧(Zc .i64).rel v' d z) :=
 (Zlo c a [(Zc .u64).val b] (x) z hv ⟨b,rfl,e⟩ hm).2
end Go.Eng
set_option maxRecDepth 100000
set_option maxHeartbeats 4000000
namespace Go.Eng
open Go.Proofs Go.RowKit
noncomputable def right_q:FuncId×Con:=(88,⟨[.leaf 0,.int .i64],[.leaf 0],fun p=>ZNf p.1 p.2⟩)
theorem right_r:KR right_q:=Z6 (C:=cf2 [(28,0)] [Z4e]) (.n (.n (.n (.f (.n (.j [] [] [.s 5 (.own 119 (.int .u64))] (.f (.l [0,1,19] [] [.s 5 (.own 119 (.int .u64)),.s 20 (.dat (.int .i64))] 0 [] [] [.s 5 (.own 119 (.int .u64))] (.f (.n (.n (.f (.f (.n (.n (.n (.j [0,1,19,20] [] [.s 5 (.own 119 (.int .u64))] .no))))))))))))))))) Tryz.func88 [] (fun v vals x z ha hz=>by obtain ⟨c0,w0,e0,p0,c1,e1,p1⟩:=ha;exact .trans (by kernel_rfl) (ZBt p1.2 hz)) ⟨Zrg,tr⟩
end Go.Eng
namespace Go.Eng
open Go.Proofs Go.RowKit
theorem right_c {e:World} {b:Zb} (hv:VIn b e) {c:List Value} {a:Nat} (g:Rep.rel Zu b c a) {d:List Value} {n:Int} (h:Rep.rel (Zc .i64) b d n) {z:Nat} (hm:ZNf a n=some z) :
  Ret Tryz.prog 88 #[Zu.val c,(Zc .i64).val d] e b (fun y v'=>∃ f,y=Zu.val f∧Zu.rel v' f z) :=
 (right_r e b [Zu.val c,(Zc .i64).val d] (a,n) z hv ⟨c,_,rfl,g,d,rfl,h⟩ hm).2
theorem Zfp {c:World} {a:Zb} (hv:VIn a c) {b:List Value} {n:Int} (e:Rep.rel (Zc .u64) a b n) {z:Nat} (hm:Zjc n=some z) :
  Ret Tryz.prog 51 #[(Zc .u64).val b] c a (fun y v'=>∃ d,y=Zu.val d∧Zu.rel v' d z) :=
 (Zpr c a [(Zc .u64).val b] (n) z hv ⟨b,rfl,e⟩ hm).2
theorem Zcu {w0:World} {F:Zb} (hv:VIn F w0) {c0:List Value} {a:Nat} (m:Rep.rel Zu F c0 a) {c1:List Value} {b:Nat} (g:Rep.rel Zu F c1 b) {z:Nat×Nat} (H:Zmi a b=some z):Ret Tryz.prog 56 #[Zu.val c0,Zu.val c1] w0 F (fun y v'=>∃ r0 r1,y = .tuple #[Zu.val r0,Zu.val r1]∧Zu.rel v' r0 z.1∧Zu.rel v' r1 z.2):=by
 obtain ⟨R,T,U,rfl⟩:=Zua m;obtain ⟨q4,n5,k6,rfl⟩:=Zua g;refine Ztb (K:=84) (args:=[.slice R T U,.slice q4 n5 k6]) hv Tryz.func56 rfl rfl zl fun f S=>?_;unfold Zmi at H;refine sr (mw S rfl fun f S=>mw S rfl fun f S=>oe (Zn fun _ bc=>wp_block (Zn fun _ bd=>bO H fun be bf H=>Zz (mv S rfl fun f S=>mv S rfl fun f S=>opc S rfl (ZJ S [.slice R T U,.slice q4 n5 k6] ZUs rfl rfl) (cmp_c S.vin m g bf) ?_))));rintro _ c2 f w aj ⟨c3,rfl,bg⟩ S;obtain ⟨rfl,c4⟩:=bg;refine ov S rfl (Zr S rfl rfl ZKc) fun f S=>mw S rfl fun f S=>Zx (Zg (bd _ _ ?_));rcases Z3 (decide (be<(0:Int))) with V | V
 ·have H:=Z2 H V;refine Zda S rfl V (sr (mv S rfl fun f S=>mw S rfl fun f S=>mw S rfl fun f S=>oe (wp_ret (Z7f (ZHb ?_)))));obtain rfl:=Zt H;have m:=ZBa aj m;refine Zka S (Zkc rfl (ZK S rfl) (ZK S rfl)) ⟨[.slice none 0 0],[.slice R T U],rfl,(Z2g _),m⟩
 have H:=Z4 H V;refine ZV S rfl V (sr (mv S rfl fun f S=>?_));have g:=ZBa aj g;refine ov S rfl (Z6b S (Zdb g) rfl rfl Zga) fun f S=>ov S rfl (Zr S rfl rfl ZRf) fun f S=>mw S rfl fun f S=>oe ?_;rcases Z3 (((((Zd 18446744073709551616 b)).length:Int))==(1:Int)) with W | W
 ·have H:=Z2 H W;refine Zda S rfl W (Zn fun _ bh=>bO H fun au av H=>bO H fun ax bi H=>Zz (mv S rfl fun f S=>mv S rfl fun f S=>?_));obtain ⟨_,c5,c6,c7,rfl,ay,bj⟩:=Zsc g (Zp av).2.1;obtain ⟨rfl,bk⟩:=bj;refine ov S rfl (Zra S rfl rfl Zga (Zp av).1 (ltI (Zdb g) (Zp av).2.2.1)) fun f S=>ov S rfl (Zib S rfl Zwb (S.view ay)) fun f S=>?_;have m:=ZBa aj m;refine opc S rfl (ZJ S [.slice R T U,.int .u64 au] Zzp rfl rfl) (Zor S.vin m (show Rep.rel (Zc .u64) _ [.int .u64 au] au from (ZE bk)) bi) ?_;rintro _ c8 f w bm ⟨c9,da,rfl,ak,bn⟩ S;have ay:=Atm bm ay;obtain ⟨aT,aU,aV,rfl⟩:=Zua ak;obtain ⟨rfl,bo⟩:=bn;refine mv S rfl fun f S=>ov S rfl (Z8 S rfl rfl) fun f S=>ov S rfl (Z8 S rfl rfl) fun f S=>mw S rfl fun f S=>mw S rfl fun f S=>Zx (Zg (bh _ _ (Zn fun _ bp=>bO H fun db bq H=>Zz (mv S rfl fun f S=>mv S rfl fun f S=>opc S rfl (ZJ S [.int .u64 (ax.2)] Zws rfl rfl) (Zfp S.vin (show Rep.rel (Zc .u64) _ [.int .u64 (ax.2)] ax.2 from (ZE bo)) bq) ?_))));rintro _ dc f w br ⟨dd,rfl,aW⟩ S;obtain ⟨aX,aY,aZ,rfl⟩:=Zua aW;refine mw S rfl fun f S=>mw S rfl fun f S=>Zx ?_;have S:=S.fr' (σ':=[(4,.slice aT aU aV),(5,.slice aX aY aZ)]) rfl;refine Zg (bp _ _ (wp_ret (Z7f (ZHb ?_))))
  obtain rfl:=Zt H;have ak:=ZBa br ak;refine Zka S (Zkc rfl (ZK S rfl) (ZK S rfl)) ⟨[.slice aT aU aV],[.slice aX aY aZ],rfl,ak,aW⟩
 have H:=Z4 H W;refine ZV S rfl W (wp_skip (ZRc (Zg (bc _ _ (Zn fun _ bs=>bO H fun de bt H=>bO H fun az aA H=>bO H fun k bu H=>Zz (mv S rfl fun f S=>mv S rfl fun f S=>ov S rfl (Z6b S (Zdb g) rfl rfl Zga) fun f S=>ov S rfl (Zr S rfl rfl (Zrb bt)) fun f S=>?_))))));obtain ⟨_,bv,bw,df,rfl,aB,bx⟩:=Zsc g (Zp aA).2.1;obtain ⟨rfl,bz⟩:=bx;refine ov S rfl (Zra S rfl rfl Zga (Zp aA).1 (ltI (Zdb g) (Zp aA).2.2.1)) fun f S=>ov S rfl (Zib S rfl Zwb (S.view aB)) fun f S=>opc S rfl (ZJ S [.int .u64 az] k_en85 rfl rfl) (lz64_c S.vin (show Rep.rel (Zc .u64) _ [.int .u64 az] az from (ZE bz)) bu) ?_;rintro _ dg f w aC ⟨dh,rfl,bA⟩ S;have aB:=Atm aC aB;obtain ⟨rfl,aD⟩:=bA;refine mw S rfl fun f S=>Zx (Zg (bs _ _ (Zn fun _ bB=>bO H fun bC bD H=>Zz (mv S rfl fun f S=>mv S rfl fun f S=>?_))));have g:=ZBa aC g;refine opc S rfl (ZJ S [.slice (some ⟨bv,bw,none⟩) n5 k6,.int .i64 k] ZKj rfl rfl) (Z2i S.vin g (show Rep.rel (Zc .i64) _ [.int .i64 k] k from (ZE aD)) bD) ?_;rintro _ bE f w bG ⟨di,rfl,v⟩ S;obtain ⟨aE,aF,aG,rfl⟩:=Zua v;refine mw S rfl fun f S=>Zx (Zg (bB _ _ (Zn fun _ bH=>bO H fun X bI H=>bO H fun dj bJ H=>bO H fun dk bK H=>Zz ?_)))
 obtain ⟨dl,w,bM,S⟩:=ZNg (P:=Tryz.prog) (t:=28) (e:=119) S (n:=0) (cs:=[]) (vals:=[]) (sz:=1) rfl (by decide) (fun _=>by kernel_rfl);have aH:Rep.rels (Zc .u64) bE [] []:=Zdf;refine ZIc wn rfl zl (bM rfl) S fun f S=>mv S rfl fun f S=>mv S rfl fun f S=>?_;have m:=ZBa (leT (leT aj aC) bG) m;refine opc S rfl (ZJ S [.slice R T U,.int .i64 k] ZKj rfl rfl) (Z2i S.vin m (show Rep.rel (Zc .i64) _ [.int .i64 k] k from (ZE aD)) bI) ?_;rintro _ al f w a0 ⟨dm,rfl,aI⟩ S;have aH:=ZP a0 aH;obtain ⟨dn,dp,dq,rfl⟩:=Zua aI;have aJ:=S;obtain ⟨dr,ds,a1,w,bP,S,bQ⟩:=Zsf (ty:=28) (A:=(Zc .u64)) Z7h S (i:=0) (n':=(([]:(List Int))++((Zd 18446744073709551616 X))).length) rfl aI (appN rfl (Zdb aI)) (ZXd bJ) (by decide);have bR:=Zcc aH bQ;refine ZIc wn rfl zl (Zhe aJ rfl rfl bP) S fun f S=>?_;obtain ⟨dt,w,bS,S⟩:=ZNg S (n:=1) (cs:=[.int .u64 0]) (vals:=[(0,.int .u64 0)]) (sz:=1) rfl (by decide) (Z5n Z7h (x:=.int .u64 0) (cs:=[.int .u64 0]) rfl rfl (by decide));have aK:Rep.rels (Zc .u64) al [.int .u64 0] [(0:Int)]:=(Zip (ZE (by decide)) Zdf);refine ZIc wn rfl zl (bS rfl) S fun f S=>?_;have aJ:=S;obtain ⟨aL,aM,w,bT,S⟩:=Znj (ty:=28) Z7h S (i:=1) (n':=((([]:(List Int))++((Zd 18446744073709551616 X)))++[(0:Int)]).length) rfl (Zie aK rfl) (ZZf S (j:=0) rfl) (ZIg aK) (appN rfl rfl) (ZXd bK) (by decide)
 have bU:=Zcc bR aK;refine ZIc wn rfl zl (Zhe aJ rfl rfl bT) S fun f S=>mw S rfl fun f S=>Zx ?_;have S:=S.fr' (σ':=[(8,.int .i64 k),(9,.slice aE aF aG),(10,.slice (mkA aL) (((([]:(List Int))++((Zd 18446744073709551616 X)))++[(0:Int)]).length) aM)]) rfl;refine Zg (bH _ _ (sr (mv S rfl fun f S=>?_)));have v:=ZBa a0 v;refine ov S rfl (Z6b S (Zdb v) rfl rfl Zga) fun f S=>mw S rfl fun f S=>oe (Zn fun _ bV=>bO H fun q bW H=>bO H fun du am H=>Zz (mv S rfl fun f S=>ov S rfl (Z6b S rfl rfl rfl Zga) fun f S=>mv S rfl fun f S=>ov S rfl (Zr S rfl rfl (Zrb bW)) fun f S=>?_));obtain ⟨aN,a2⟩:∃ c:List Value,c=(List.replicate (q).toNat [.int .u64 0]).flatten:=⟨_,rfl⟩;obtain ⟨a3,w,bX,S⟩:=Zdr Z7h S (l:=q) (c:=q) (ZKd am).1 (ZKd am).2.1 (ZKd am).2.2.1 (ZKd am).2.2.2 a2;have bY:Rep.rels (Zc .u64) al aN (List.replicate (q).toNat (0:Int)):=by rw [a2];exact ZEg (show Rep.rel (Zc .u64) _ [.int .u64 0] _ from (ZE (by decide))) _
 refine ZIc wn rfl zl (bX rfl rfl) S fun f S=>mw S rfl fun f S=>Zx (Zg (bV _ _ (Zn fun _ bZ=>Zn fun _ b0=>bO H fun dv a4 H=>Zz (mv S rfl fun f S=>ov S rfl (Z6b S (repN (x:=(0:Int))) rfl rfl Zga) fun f S=>ov S rfl (Zr S rfl rfl (Zrb a4)) fun f S=>mw S rfl fun f S=>Zx (Zg (b0 _ _ ?_))))));obtain ⟨b1,b2,b3⟩:=Z0 H;refine Zmb (fun f w=>∃ G I J B L an Y M Z aO aa,(G,I)=b1∧Zb.le al aa∧St 84 w0 F [(8,.int .i64 k),(10,.slice (mkA J) B L),(12,.slice (mkA Y) M Z)] [Loc.own J 119 1 B L an,Loc.own Y 119 1 M Z aO] aa f w∧Rep.rels (Zc .u64) aa an G∧B=G.length∧Rep.rels (Zc .u64) aa aO I∧M=I.length) (fun _ b4=>?_) ?_
 ·have H:=b2;refine wp_block ?_;obtain ⟨dw,b5,b6⟩:=Z0 H;have S:=S.reorder (ℓ':=[Loc.own aL 119 1 (((([]:(List Int))++((Zd 18446744073709551616 X)))++[(0:Int)]).length) aM ((([]++a1)++[.int .u64 0])),Loc.own (some a3) 119 1 ((q).toNat) (q).toNat aN]) [2,0] rfl (by decide);refine Z7d b5 (fun b7 f w=>∃ ao N d ap C D s aq E ab o ac,(ao,N,d)=b7∧Zb.le al ac∧St 84 w0 F [(8,.int .i64 k),(9,.slice aE aF aG),(10,.slice (mkA ap) C D),(11,.int .i64 ((((Zd 18446744073709551616 bC)).length:Int))),(12,.slice (mkA aq) E ab),(13,.int .i64 d)] [Loc.own ap 119 1 C D s,Loc.own aq 119 1 E ab o] ac f w∧Rep.rels (Zc .u64) ac s ao∧C=ao.length∧Rep.rels (Zc .u64) ac o N∧E=N.length∧inR .i64 d) ⟨_,_,_,aL,((([]:(List Int))++((Zd 18446744073709551616 X)))++[(0:Int)]).length,aM,(([]++a1)++[.int .u64 0]),some a3,(q).toNat,(q).toNat,aN,_,rfl,(leR _),(S.fr' rfl),bU,rfl,bY,(repN (x:=(0:Int))),(ZZa a4).2⟩ ?_;rintro _ f w st ⟨ao,N,d,ap,C,D,s,aq,E,ab,o,ac,hq,aP,S,ad,ae,af,ag,dx⟩ H dy b8 b9
  subst hq;refine Zn fun _ ca=>sr (mv S rfl fun f S=>ov S rfl (Zr S rfl rfl Zjh) fun f S=>oe ?_);rcases Z3 (decide ((0:Int)≤d)) with ah | ah
  ·have H:=Z2 H ah;refine Zda S rfl ah (wp_skip (Zg (ca _ _ (Zn fun _ cb=>wp_block (bO H fun dz cc H=>bO H fun O ce H=>bO H fun dA h H=>bO H fun u cg H=>bO H fun dB Q H=>Zz (mv S rfl fun f S=>mv S rfl fun f S=>mv S rfl fun f S=>?_))))));refine mv S rfl fun f S=>mv S rfl fun f S=>mv S rfl fun f S=>ov S rfl (Zr S rfl rfl (Zuc cc)) fun f S=>ov S rfl (Zr S rfl rfl (Zuc ce)) fun f S=>?_;obtain ⟨aQ,rfl⟩:=Zgd S (j:=0) rfl (by have:=Zvc h;have:=ae;omega);refine ov S rfl (ZSt S (j:=0) rfl Zga (Zvc h).1 (Zvc h).2.1 (by have:=(Zvc h).2.2.1;have:=ae;omega) rfl rfl rfl) fun f S=>mv S rfl fun f S=>?_;obtain ⟨pre399,post400,ch,ci,cj,ck,cl,cm⟩:=Zpu S (i:=0) (lo:=(d).toNat) (hi:=(O).toNat) rfl (Zvc h).2.2.2.2.2.1 (by have:=(Zvc h).2.2.2.2.2.2;have:=ae;omega);have v:=ZBa aP v;refine ZTn S wn rfl zl (ZJ S [.slice (some ⟨aQ,(d).toNat*1,none⟩) ((O-d).toNat) (D-(d).toNat),.slice aE aF aG] k_en87 rfl rfl) (i:=0) rfl rfl (digit_c S.vin ch cj ci (Zvc h).2.2.2.2.1 ⟨ZFt (Zvc h).1 (Zvc h).2.1 ck,cl⟩ (Zkt ad rfl (Zvc h).2.2.2.1) v cg) ?_;rintro _ a5 f w aR ⟨⟨dC,rfl,cn⟩,co,aS,cp,cq,a6⟩ hSf;have ad:=ZP aR ad
   have af:=ZP aR af;have a7:((O).toNat-(d).toNat)=u.2.length:=by have:=cq;have:=Zvc h;omega
   have S:=hSf (Loc.own (some aQ) 119 1 C D (List.take ((d).toNat*1) s++aS++List.drop ((O).toNat*1) s)) rfl (cm _ aS (Zie a6 a7) cp) co;have cr:=Zrv (p:=(d).toNat) (r:=(O).toNat) (sz:=1) ad a6 rfl;have ct:=Z4x ae (Zvc h).2.2.2.2.2.1 (Zvc h).2.2.2.2.2.2 a7;obtain ⟨rfl,cu⟩:=cn;obtain ⟨cv,rfl⟩:=Zgd S (j:=1) rfl (posN ag (Zp Q).2.2.2);have a8:=ZPa af (Zp Q).2.1;obtain ⟨dD,cw⟩:∃ c,(List.take (Zc .u64).n (List.drop ((d).toNat*(Zc .u64).n) o))=c:=⟨_,rfl⟩;rw [cw] at a8;obtain ⟨rfl,dE⟩:=a8;refine ov S rfl (Zra S rfl rfl Zga (Zp Q).1 (ltI ag (Zp Q).2.2.1)) fun f S=>?_;obtain ⟨w,cx,S⟩:=Zmd S Zwb (off:=0+(d).toNat*1) (z:=.int .u64 (u.1)) (cs:=[.int .u64 (u.1)]) (Zhd rfl) rfl (i:=1) rfl (Zii S (j:=1) rfl (ltN ag (Zp Q).2.2.2)) (by first | rfl | simp [plain]);have cy:Rep.rels (Zc .u64) a5 (List.take (0+(d).toNat*1) o++[Value.int IntKind.u64 (u.1)]++List.drop (0+(d).toNat*1+1) o) (N.set (d).toNat u.1):=Zbg af (Zp Q).2.2.2 (show Rep.rel (Zc .u64) a5 [.int .u64 (u.1)] _ from (ZE cu)) rfl rfl;have cz:E=(N.set (d).toNat u.1).length:=setN ag;refine Zrf wn rfl (cx rfl rfl) (Zx (ZRc (Zg (cb _ _ (bO H fun dF a9 H=>Zz (mv S rfl fun f S=>ov S rfl (Zr S rfl rfl (Zrb a9)) fun f S=>mw S rfl fun f S=>Zx ?_))))))
   obtain rfl:=Zt H;refine b8 _ rfl _ _ ⟨_,_,_,some aQ,C,D,(List.take ((d).toNat*1) s++aS++List.drop ((O).toNat*1) s),some cv,E,ab,(List.take (0+(d).toNat*1) o++[Value.int IntKind.u64 (u.1)]++List.drop (0+(d).toNat*1+1) o),_,rfl,(leT aP aR),(S.fr' rfl),cr,ct,cy,cz,(ZZa a9).2⟩
  have H:=Z4 H ah;refine ZV S rfl ah (wp_exit (Zgb ?_));obtain rfl:=Zt H;have hq:=b9 _ rfl;subst hq;have H:=b6;refine Zgb (ZMd ?_);obtain rfl:=Zt H;refine Zg (b4 _ _ ⟨_,_,ap,C,D,s,aq,E,ab,o,_,rfl,(leT (leR _) aP),(S.fr' rfl),ad,ae,af,ag⟩)
 rintro f w ⟨G,I,J,B,L,an,Y,M,Z,aO,aa,hq,dG,S,ai,cA,cC,cD⟩;subst hq;have H:=b3;refine Zg (bZ _ _ (Zn fun _ cE=>bO H fun dH cF H=>bO H fun dI cH H=>bO H fun dJ cI H=>Zz (mv S rfl fun f S=>?_)));obtain ⟨dK,cJ,S,cK⟩:=S.pubSlice (i:=1) (A:=(Zc .u64)) (l:=I) (ℓ':=[Loc.own J 119 1 B L an]) rfl rfl cD cC rfl;have ai:=ZP cJ ai;refine opc S rfl (ZJ S [.slice (mkA Y) M Z] Zbj rfl rfl) (ZSi S.vin (show Rep.rel (ZB (Zc .u64)) _ [.slice (mkA Y) M Z] I from cK) cF) ?_;rintro _ dL f w cL ⟨dM,rfl,ar⟩ S;have ai:=ZP cL ai;obtain ⟨cM,cN,cO,rfl⟩:=Zua ar;refine mv S rfl fun f S=>?_;obtain ⟨dN,cP,S,cQ⟩:=S.pubSlice (i:=0) (A:=(Zc .u64)) (l:=G) (ℓ':=[]) rfl rfl cA ai rfl;refine opc S rfl (ZJ S [.slice (mkA J) B L] Zbj rfl rfl) (ZSi S.vin (show Rep.rel (ZB (Zc .u64)) _ [.slice (mkA J) B L] G from cQ) cH) ?_;rintro _ dO f w cR ⟨dP,rfl,ba⟩ S;obtain ⟨cS,cU,cV,rfl⟩:=Zua ba;refine mv S rfl fun f S=>opc S rfl (ZJ S [.slice cS cU cV,.int .i64 k] k_en88 rfl rfl) (right_c S.vin ba (show Rep.rel (Zc .i64) _ [.int .i64 k] k from (ZE aD)) cI) ?_;rintro _ dQ f w cW ⟨dR,rfl,bb⟩ S;obtain ⟨cX,cY,cZ,rfl⟩:=Zua bb
 refine mw S rfl fun f S=>mw S rfl fun f S=>Zx (Zg (cE _ _ (wp_ret ?_)));obtain rfl:=Zt H;have ar:=ZBa (leT (leT cP cR) cW) ar;refine Zka S (Zkc rfl (ZK S rfl) (ZK S rfl)) ⟨[.slice cM cN cO],[.slice cX cY cZ],rfl,ar,bb⟩
theorem Zfw {d:World} {c:Zb} (hv:VIn c d) {e:List Value} {a:Nat} (i:Rep.rel Zu c e a) {f:List Value} {b:Nat} (j:Rep.rel Zu c f b) {z:Nat×Nat} (hm:Ztd a b=some z) :
  Ret Tryz.prog 56 #[Zu.val e,Zu.val f] d c (fun y v'=>∃ g h,y=Value.tuple #[Zu.val g,Zu.val h]∧Zu.rel v' g z.1∧Zu.rel v' h z.2) :=
 Zcu hv i j (ZFw hm)
end Go.Eng
set_option maxRecDepth 100000
set_option maxHeartbeats 4000000
namespace Go.Eng
open Go.Proofs Go.RowKit
noncomputable def ZZi:FuncId×Con:=(56,⟨[.leaf 0,.leaf 0],[.leaf 0,.leaf 0],fun p=>Ztd p.1 p.2⟩)
theorem Zno:ZId Tryz.prog ZZi.1 ZZi.2:=fun w v vals x z hv ha hz=>by
 obtain ⟨c0,w0,e0,p0,c1,e1,p1⟩:=ha;subst e0;subst e1
 exact .inl ⟨fun _ _=>by kernel_rfl,Ret.mono (Zfw hv p0 p1 hz) fun y v' _ ⟨r0,r1,e,h0,h1⟩=>⟨_,e,r0,_,rfl,h0,r1,rfl,h1⟩⟩
end Go.Eng
set_option maxRecDepth 100000
set_option maxHeartbeats 4000000
namespace Go.Eng
open Go.Proofs Go.RowKit
noncomputable def Zbs:FuncId×Con:=(84,⟨[.leaf 0,.leaf 0],[.int .u64],fun p=>ZUg p.1 p.2⟩)
theorem small_k:KQ Zbs:=ZA (Z6 (C:=cf2 [(28,0)] []) (.n (.n (.two (.n (.j [1] [] [.s 5 (.dat (.int .u64))] .no)) (.n (.f (.j [] [] [.s 5 (.dat (.int .u64))] (.f (.l [] [] [.s 5 (.dat (.int .u64)),.s 6 (.dat (.int .u64))] 0 [] [] [.s 5 (.dat (.int .u64))] .no)))))))) Tryz.func84 [] (fun v vals x z ha hz=>.trans (by kernel_rfl) (Z5t hz)))
end Go.Eng
set_option maxRecDepth 100000
set_option maxHeartbeats 4000000
namespace Go.Eng
open Go.Proofs Go.RowKit
noncomputable def gcd_q:FuncId×Con:=(54,⟨[.leaf 0,.leaf 0],[.leaf 0],fun p=>gcdF p.1 p.2⟩)
theorem gcd_k:KQ gcd_q:=ZA (Z6 (C:=cf2 [(28,0)] [Z3h,ZZi,Zbs]) (.n (.f (.cut ⟨⟨[],[],[]⟩,[(.norm,⟨[],[],[.s 0 (.dat (.leaf 0))]⟩),(.ret,⟨[],[],[.s 1000 (.dat (.leaf 0))]⟩)]⟩ (.f (.cut ⟨⟨[],[],[.s 0 (.dat (.leaf 0)),.s 1 (.dat (.leaf 0))]⟩,[(.ret,⟨[],[],[.s 1000 (.dat (.leaf 0))]⟩),(.exit 0,⟨[],[],[.s 0 (.dat (.leaf 0))]⟩)]⟩ (.f (.n (.f (.f (.f (.j [0,1] [] [.s 17 (.dat .bool)] .no))))))))))) Tryz.func54 [] (fun v vals x z ha hz=>.trans (by kernel_rfl) (gcdF_eq hz)) ⟨ZTk,Zno,small_k,tr⟩)
end Go.Eng
set_option maxRecDepth 100000
set_option maxHeartbeats 4000000
namespace Go.Eng
open Go.Proofs Go.RowKit
noncomputable def ZBm:FuncId×Con:=(55,⟨[.leaf 0],[.bool],fun p=>Zjf p⟩)
theorem ZRn:KQ ZBm:=ZA (Zjm (C:=cf2 [] []) (.n (.f (.j [] [] [.s 2 (.dat .bool)] .no))) Tryz.func55 [] [.slice (.int .u64)] [.bool] (fun x=>((Zd 18446744073709551616 x))) (fun z=>z) (fun v vals x z ha hz=>.trans (by kernel_rfl) (ZQv.trans hz)))
end Go.Eng
set_option maxRecDepth 100000
set_option maxHeartbeats 4000000
namespace Go.Eng
open Go.Proofs Go.RowKit
noncomputable def Zcg:FuncId×Con:=(32,⟨[.leaf 2,.leaf 0],[.leaf 3],fun p=>Zxc p.1 p.2⟩)
theorem ZFq:KR Zcg:=Z6 (C:=cf0 [gcd_q,ZBm,ZZi] [] [] []) (.n (.two (.n (.n (.j [2,4] [] [.s 1 (.dat (.leaf 0)),.l (.sl 2) (.box 30 (.dat (.pair .bool (.leaf 0))))] .no))) (.f (.n (.j [2,4] [] [.s 1 (.dat (.leaf 0))] .no))))) Tryz.func32 [] (fun v vals x z ha hz=>.trans (by kernel_rfl) (ZXx hz)) ⟨gcd_k,ZRn,Zno,tr⟩
theorem ZCk:KQ Zcg:=ZA ZFq
end Go.Eng
set_option maxRecDepth 100000
set_option maxHeartbeats 4000000
namespace Go.Eng
open Go.Proofs Go.RowKit
noncomputable def Zyj:FuncId×Con:=(60,⟨[.int .u64,.int .u64,.int .u64],[.int .u64,.int .u64],fun p=>ZCb p.1 p.2.1 p.2.2⟩)
theorem Znp:ZId Tryz.prog Zyj.1 Zyj.2:=fun w v vals x z _ ha hz=>by
 obtain ⟨c0,w0,e0,p0,c1,w1,e1,p1,c2,e2,p2⟩:=ha
 subst e0 e1 e2
 obtain ⟨rfl,h0⟩:=p0
 obtain ⟨rfl,h1⟩:=p1
 obtain ⟨rfl,h2⟩:=p2
 have p0:(Zc .u64).rel v [.int .u64 x.1] x.1:=⟨rfl,h0⟩
 have p1:(Zc .u64).rel v [.int .u64 x.2.1] x.2.1:=⟨rfl,h1⟩
 exact .inr ⟨.tuple #[.int .u64 z.1,.int .u64 z.2],fun w=>Zjl (show ZGc Tryz.prog 60 add64Entry from ⟨_,Tryz.func60,by kernel_rfl,by kernel_rfl,by kernel_rfl,by kernel_rfl⟩) hz w,_,rfl,_,_,rfl,⟨rfl,ZHk hz⟩,_,rfl,⟨rfl,addW_hi p0.2 p1.2 hz⟩⟩
end Go.Eng
set_option maxRecDepth 100000
set_option maxHeartbeats 4000000
namespace Go.Eng
open Go.Proofs Go.RowKit
noncomputable def ZTg:FuncId×Con:=(35,⟨[.leaf 0,.leaf 0],[.leaf 0],fun p=>ZCc p.1 p.2⟩)
theorem Zti:KQ ZTg:=ZA (Z6 (C:=cf2 [(28,0)] [ZBm,Zcm,Zyj,Z4e]) (.n (.n (.n (.n (.f (.n (.j [] [] [.s 5 (.own 119 (.int .u64))] (.f (.l [1,26,27] [] [.s 5 (.own 119 (.int .u64)),.s 28 (.dat (.int .i64))] 0 [] [] [.s 5 (.own 119 (.int .u64))] (.f (.n (.n (.f (.f (.n (.n (.f (.n (.j [1,6,26,27,28] [] [.s 5 (.own 119 (.int .u64)),.s 8 (.dat (.int .u64))] (.f (.l [1,6,7,26,27,28,33,34] [] [.s 5 (.own 119 (.int .u64)),.s 8 (.dat (.int .u64)),.s 35 (.dat (.int .i64))] 2 [1,6,26,27,28] [] [.s 5 (.own 119 (.int .u64)),.s 8 (.dat (.int .u64))] .no))))))))))))))))))))) Tryz.func35 [] (fun v vals x z ha hz=>.trans (by kernel_rfl) (Zct hz)) ⟨ZRn,mul64_k,Znp,Zrg,tr⟩)
end Go.Eng
set_option maxRecDepth 100000
set_option maxHeartbeats 4000000
namespace Go.Eng
open Go.Proofs Go.RowKit
noncomputable def ZCe:FuncId×Con:=(43,⟨[.bool,.leaf 0],[.leaf 2],fun p=>Z4a p.1 p.2⟩)
theorem ZIn:KR ZCe:=Z6 (C:=cf0 [] [] [] []) (.n (.f (.j [4] [] [.l (.sl 4) (.box 30 (.dat (.pair .bool (.leaf 0))))] .no))) Tryz.func43 [] (fun v vals x z ha hz=>.trans (by kernel_rfl) (Zlt hz))
theorem ZPg:KQ ZCe:=ZA ZIn
end Go.Eng
set_option maxRecDepth 100000
set_option maxHeartbeats 4000000
namespace Go.Eng
open Go.Proofs Go.RowKit
noncomputable def ZJm:FuncId×Con:=(33,⟨[.leaf 2,.leaf 0],[.leaf 2],fun p=>ZHe p.1 p.2⟩)
theorem ZEn:KQ ZJm:=ZA (Z6 (C:=cf0 [ZTg,ZCe] [] [] []) .no Tryz.func33 [] (fun v vals x z ha hz=>.trans (by kernel_rfl) (Z6w hz)) ⟨Zti,ZPg,tr⟩)
end Go.Eng
set_option maxRecDepth 100000
set_option maxHeartbeats 4000000
namespace Go.Eng
open Go.Proofs Go.RowKit
noncomputable def ZDn:FuncId×Con:=(57,⟨[.leaf 0,.leaf 0],[.leaf 0],fun p=>ZXh p.1 p.2⟩)
theorem plus_k:KQ ZDn:=ZA (Z6 (C:=cf2 [(28,0)] [Zyj]) (.n (.two (.n (.j [] [] [.s 0 (.dat (.leaf 0)),.s 1 (.dat (.leaf 0))] .no)) (.n (.n (.two (.n (.j [] [] [.s 5 (.own 119 (.int .u64)),.s 6 (.dat (.int .u64))] (.f (.l [1,23,24] [] [.s 5 (.own 119 (.int .u64)),.s 6 (.dat (.int .u64)),.s 25 (.dat (.int .i64))] 0 [] [] [.s 5 (.own 119 (.int .u64)),.s 6 (.dat (.int .u64))] (.f (.n (.n (.f (.f (.n (.n (.f (.n (.j [1,5,6,7,8,23,24,25] [] [.s 9 (.dat (.int .u64))] .no)))))))))))))) (.f (.n (.j [] [] [.s 5 (.own 119 (.int .u64))] .no)))))))) Tryz.func57 [] (fun v vals x z ha hz=>.trans (by kernel_rfl) (Z9u hz)) ⟨Znp,tr⟩)
end Go.Eng
set_option maxRecDepth 100000
set_option maxHeartbeats 4000000
namespace Go.Eng
open Go.Proofs Go.RowKit
noncomputable def Z7m:FuncId×Con:=(89,⟨[.int .u64,.int .u64,.int .u64],[.int .u64,.int .u64],fun p=>Z5c p.1 p.2.1 p.2.2⟩)
theorem sub64_k:ZId Tryz.prog Z7m.1 Z7m.2:=fun w v vals x z _ ha hz=>by
 obtain ⟨c0,w0,e0,p0,c1,w1,e1,p1,c2,e2,p2⟩:=ha
 subst e0 e1 e2
 obtain ⟨rfl,h0⟩:=p0
 obtain ⟨rfl,h1⟩:=p1
 obtain ⟨rfl,h2⟩:=p2
 have p0:(Zc .u64).rel v [.int .u64 x.1] x.1:=⟨rfl,h0⟩
 have p1:(Zc .u64).rel v [.int .u64 x.2.1] x.2.1:=⟨rfl,h1⟩
 exact .inr ⟨.tuple #[.int .u64 z.1,.int .u64 z.2],fun w=>Zzq (show ZGc Tryz.prog 89 Zaj from ⟨_,Tryz.func89,by kernel_rfl,by kernel_rfl,by kernel_rfl,by kernel_rfl⟩) p0.2 p1.2 hz w,_,rfl,_,_,rfl,⟨rfl,ZDo hz⟩,_,rfl,⟨rfl,Zio hz⟩⟩
end Go.Eng
set_option maxRecDepth 100000
set_option maxHeartbeats 4000000
namespace Go.Eng
open Go.Proofs Go.RowKit
noncomputable def ZFp:FuncId×Con:=(58,⟨[.leaf 0,.leaf 0],[.leaf 0],fun p=>ZSg p.1 p.2⟩)
theorem minus_k:KQ ZFp:=ZA (Z6 (C:=cf2 [(28,0)] [Z4e,Z7m]) (.n (.n (.n (.f (.n (.j [] [] [.s 5 (.own 119 (.int .u64))] (.f (.l [1,13,14] [] [.s 5 (.own 119 (.int .u64)),.s 6 (.dat (.int .u64)),.s 15 (.dat (.int .i64))] 0 [] [] [.s 5 (.own 119 (.int .u64))] (.f (.n (.n (.f (.f (.n (.n (.f (.n (.j [1,5,6,7,8,13,14,15] [] [.s 9 (.dat (.int .u64))] .no)))))))))))))))))) Tryz.func58 [] (fun v vals x z ha hz=>.trans (by kernel_rfl) (ZDw hz)) ⟨Zrg,sub64_k,tr⟩)
end Go.Eng
set_option maxRecDepth 100000
set_option maxHeartbeats 4000000
namespace Go.Eng
open Go.Proofs Go.RowKit
noncomputable def Zys:FuncId×Con:=(34,⟨[.leaf 2,.leaf 2],[.leaf 2],fun p=>Z7g p.1 p.2⟩)
theorem iplus_k:KQ Zys:=ZA (Z6 (C:=cf0 [cmp_q,ZCe,ZDn,ZFp] [] [] []) .no Tryz.func34 [] (fun v vals x z ha hz=>.trans (by kernel_rfl) (ZIv hz)) ⟨cmp_k,ZPg,plus_k,minus_k,tr⟩)
end Go.Eng
set_option maxRecDepth 100000
set_option maxHeartbeats 4000000
namespace Go.Eng
open Go.Proofs Go.RowKit
noncomputable def ZCf:FuncId×Con:=(12,⟨[.leaf 3,.leaf 3],[.leaf 3],fun p=>ZOb p.1 p.2⟩)
theorem ZJg:KQ ZCf:=ZA (Z6 (C:=cf0 [Zwk,Zcg,ZJm,Zys,ZTg] [] [] []) .no Tryz.func12 [] (fun v vals x z ha hz=>.trans (by kernel_rfl) (Z3x hz)) ⟨ZVk,ZCk,ZEn,iplus_k,Zti,tr⟩)
end Go.Eng
set_option maxRecDepth 100000
set_option maxHeartbeats 4000000
namespace Go.Eng
open Go.Proofs Go.RowKit
noncomputable def ZOr:FuncId×Con:=(62,⟨[.leaf 2],[.leaf 2],fun p=>Zsh p⟩)
theorem Ztu:KQ ZOr:=ZA (Z6 (C:=cf0 [ZCe] [] [] []) .no Tryz.func62 [] (fun v vals x z ha hz=>.trans (by kernel_rfl) (Zlu hz)) ⟨ZPg,tr⟩)
end Go.Eng
set_option maxRecDepth 100000
set_option maxHeartbeats 4000000
namespace Go.Eng
open Go.Proofs Go.RowKit
noncomputable def ZYd:FuncId×Con:=(38,⟨[.leaf 3],[.leaf 3],fun p=>ZUa p⟩)
theorem ZJe:KQ ZYd:=ZA (Z6 (C:=cf0 [ZOr] [] [] []) .no Tryz.func38 [] (fun v vals x z ha hz=>.trans (by kernel_rfl) (ZRw hz)) ⟨Ztu,tr⟩)
end Go.Eng
set_option maxRecDepth 100000
set_option maxHeartbeats 4000000
namespace Go.Eng
open Go.Proofs Go.RowKit
noncomputable def Zue:FuncId×Con:=(16,⟨[.leaf 3,.leaf 3],[.leaf 3],fun p=>Z8a p.1 p.2⟩)
theorem ZLf:KQ Zue:=ZA (Z6 (C:=cf0 [ZCf,ZYd] [] [] []) .no Tryz.func16 [] (fun v vals x z ha hz=>.trans (by kernel_rfl) (Zpx hz)) ⟨ZJg,ZJe,tr⟩)
end Go.Eng
set_option maxRecDepth 100000
set_option maxHeartbeats 4000000
namespace Go.Eng
open Go.Proofs Go.RowKit
noncomputable def Zbe:FuncId×Con:=(13,⟨[.leaf 3,.leaf 3],[.int .i64],fun p=>ZPb p.1 p.2⟩)
theorem Zcf:KQ Zbe:=ZA (Z6 (C:=cf0 [Zzc,Zue] [] [] []) .no Tryz.func13 [] (fun v vals x z ha hz=>.trans (by kernel_rfl) (Zbu hz)) ⟨ZSc,ZLf,tr⟩)
end Go.Eng
set_option maxRecDepth 100000
set_option maxHeartbeats 4000000
namespace Go.Eng
open Go.Proofs Go.RowKit
noncomputable def ZGq:FuncId×Con:=(40,⟨[.pair (.leaf 3) (.slice (.pair (.leaf 3) (.leaf 3)))],[.int .i64],fun p=>Zoj p⟩)
theorem ZSu:KQ ZGq:=ZA (Zea (C:=cf0 [Zbe,Zzc] [] [] []) (.n (.n (.f (.n (.cut ⟨⟨[],[],[]⟩,[(.norm,⟨[],[],[]⟩),(.ret,⟨[],[],[.s 1000 (.dat (.int .i64))]⟩)]⟩ (.f (.cut ⟨⟨[1,16,17],[],[.s 18 (.dat (.int .i64))]⟩,[(.ret,⟨[],[],[.s 1000 (.dat (.int .i64))]⟩),(.exit 1,⟨[],[],[]⟩)]⟩ (.f (.n (.n (.f (.f (.n (.two (.f (.j [1,3,4,16,17,18] [] [.s 32 (.dat .bool)] .no)) (.f (.j [1,16,17,18] [] [.s 47 (.dat .bool)] .no)))))))))))))))) Tryz.func40 [] (fun _=>by kernel_rfl) ⟨Zcf,ZSc,tr⟩)
end Go.Eng
set_option maxRecDepth 100000
set_option maxHeartbeats 4000000
namespace Go.Eng
open Go.Proofs Go.RowKit
noncomputable def Zvi:FuncId×Con:=(11,⟨[.leaf 3],[.bool],fun p=>Zlc p⟩)
theorem ZAk:KQ Zvi:=ZA (Z6 (C:=cf0 [] [] [] []) .no Tryz.func11 [] (fun v vals x z ha hz=>.trans (by kernel_rfl) (ZKw hz)))
end Go.Eng
set_option maxRecDepth 100000
set_option maxHeartbeats 4000000
namespace Go.Eng
open Go.Proofs Go.RowKit
noncomputable def Zse:FuncId×Con:=(21,⟨[.leaf 3,.leaf 3],[.leaf 3,.int .i64],fun p=>ZAc p.1 p.2⟩)
theorem ZJf:KQ Zse:=ZA (Z6 (C:=cf0 [Zvi,Zwk,Zcg,ZJm,ZTg,ZCe] [] [] []) (.n (.n (.f (.j [2,3,4] [] [.s 6 (.box 30 (.dat (.leaf 2)))] .no)))) Tryz.func21 [] (fun v vals x z ha hz=>.trans (by kernel_rfl) (Zuv hz)) ⟨ZAk,ZVk,ZCk,ZEn,Zti,ZPg,tr⟩)
end Go.Eng
set_option maxRecDepth 100000
set_option maxHeartbeats 4000000
namespace Go.Eng
open Go.Proofs Go.RowKit
noncomputable def Zho:FuncId×Con:=(92,⟨[.leaf 2,.leaf 2],[.leaf 2],fun p=>Zrh p.1 p.2⟩)
theorem Zqu:KQ Zho:=ZA (Z6 (C:=cf0 [ZTg,ZCe] [] [] []) .no Tryz.func92 [] (fun v vals x z ha hz=>.trans (by kernel_rfl) (Zau hz)) ⟨Zti,ZPg,tr⟩)
end Go.Eng
set_option maxRecDepth 100000
set_option maxHeartbeats 4000000
namespace Go.Eng
open Go.Proofs Go.RowKit
noncomputable def Zag:FuncId×Con:=(66,⟨[.leaf 3,.leaf 3],[.leaf 3],fun p=>ZNa p.1 p.2⟩)
theorem Zoh:KQ Zag:=ZA (Z6 (C:=cf0 [Zwk,Zcg,ZTg,Zho] [] [] []) .no Tryz.func66 [] (fun v vals x z ha hz=>.trans (by kernel_rfl) (ZOv hz)) ⟨ZVk,ZCk,Zti,Zqu,tr⟩)
end Go.Eng
set_option maxRecDepth 100000
set_option maxHeartbeats 4000000
namespace Go.Eng
open Go.Proofs Go.RowKit
noncomputable def Zam:FuncId×Con:=(52,⟨[.leaf 3,.leaf 3],[.leaf 3,.leaf 3],fun p=>ZQh p.1 p.2⟩)
theorem Zzn:KQ Zam:=ZA (Zea (C:=cf0 [Zxe,ZCf,Zse,Zag] [] [] []) (.n (.n (.n (.f (.j [4,5,6,7] [] [.s 8 (.box 32 (.dat (.leaf 3)))] .no))))) Tryz.func52 [] (fun _=>by kernel_rfl) ⟨ZGf,ZJg,ZJf,Zoh,tr⟩)
end Go.Eng
set_option maxRecDepth 100000
set_option maxHeartbeats 4000000
namespace Go.Eng
open Go.Proofs Go.RowKit
noncomputable def ZGl:FuncId×Con:=(47,⟨[.pair (.leaf 3) (.slice (.pair (.leaf 3) (.leaf 3))),.leaf 3],[.leaf 3,.leaf 3],fun p=>Z3g p.1 p.2⟩)
theorem Z2o:KQ ZGl:=ZA (Zea (C:=cf0 [ZCf,Zam,Zag] [] [] []) (.n (.n (.f (.n (.j [4,5,6,7] [] [.l (.sl 6) (.box 32 (.dat (.leaf 3))),.l (.sl 7) (.box 32 (.dat (.leaf 3)))] (.f (.l [3,4,5,6,7,16,17] [] [.l (.sl 6) (.box 32 (.dat (.leaf 3))),.l (.sl 7) (.box 32 (.dat (.leaf 3))),.s 18 (.dat (.int .i64))] 0 [4,5,6,7] [] [.l (.sl 6) (.box 32 (.dat (.leaf 3))),.l (.sl 7) (.box 32 (.dat (.leaf 3)))] .no))))))) Tryz.func47 [] (fun _=>by kernel_rfl) ⟨ZJg,Zzn,Zoh,tr⟩)
end Go.Eng
set_option maxRecDepth 100000
set_option maxHeartbeats 4000000
namespace Go.Eng
open Go.Proofs Go.RowKit
noncomputable def Z4l:FuncId×Con:=(24,⟨[.pair (.leaf 3) (.slice (.pair (.leaf 3) (.leaf 3))),.leaf 3],[.leaf 3,.leaf 3,.int .i64],fun p=>Zif p.1 p.2⟩)
theorem Z4n:KQ Z4l:=ZA (Zea (C:=cf0 [Zzc,ZGq,ZGl] [] [] []) .no Tryz.func24 [] (fun _=>by kernel_rfl) ⟨ZSc,ZSu,Z2o,tr⟩)
end Go.Eng
namespace Go.Eng
open Go.Proofs Go.RowKit
theorem of_c {c:World} {a:Zb} (hv:VIn a c) {b:List Value} {n:Int} (e:Rep.rel (Zc .i64) a b n) {z:Int} (hm:ofF n=some z) :
  Ret Tryz.prog 27 #[(Zc .i64).val b] c a (fun y v'=>∃ d,y=Z9a.val d∧Z9a.rel v' d z) :=
 (of_r c a [(Zc .i64).val b] (n) z hv ⟨b,rfl,e⟩ hm).2
theorem over_c {e:World} {a:Zb} (hv:VIn a e) {b:List Value} {n:Int} (g:Rep.rel Z9a a b n) {c:List Value} {d:Nat} (h:Rep.rel Zu a c d) {z:Rat} (hm:Zxc n d=some z) :
  Ret Tryz.prog 32 #[Z9a.val b,Zu.val c] e a (fun y v'=>∃ f,y=ZN.val f∧ZN.rel v' f z) :=
 (ZFq e a [Z9a.val b,Zu.val c] (n,d) z hv ⟨b,_,rfl,g,c,rfl,h⟩ hm).2
theorem whole_c {d:World} {a:Zb} (hv:VIn a d) {b:List Value} {s:Bool} (f:Rep.rel Z3a a b s) {c:List Value} {n:Nat} (g:Rep.rel Zu a c n) {z:Int} (hm:Z4a s n=some z) :
  Ret Tryz.prog 43 #[Z3a.val b,Zu.val c] d a (fun y v'=>∃ e,y=Z9a.val e∧Z9a.rel v' e z) :=
 (ZIn d a [Z3a.val b,Zu.val c] (s,n) z hv ⟨b,_,rfl,f,c,rfl,g⟩ hm).2
theorem ZGp {b:World} {a:Zb} (hv:VIn a b) {c:List Value} {fv:Nat} (e:Rep.rel (ZD .f64) a c fv) {z:Nat} (H:Zzj fv=some z):Ret Tryz.prog 140 #[(ZD .f64).val c] b a (fun y v'=>∃ d,y=(ZD .f64).val d∧(ZD .f64).rel v' d z):=by
 obtain ⟨rfl,g⟩:=e;refine Ztb (K:=7) (args:=[.float .f64 fv]) hv Tryz.func140 rfl rfl zl fun f S=>?_;unfold Zzj at H;refine sr (mw S rfl fun f S=>oe (sr (mv S rfl fun f S=>ov S rfl (Zhc S [.float .f64 fv] (ZDh ZWh) rfl rfl) fun f S=>ov S rfl (Zr S rfl rfl Z3i) fun f S=>ov S rfl (Zhc S [.int .u64 (Zic .u64 ((fv:Int)) (9223372036854775808:Int))] (ZMh Zyh) rfl rfl) fun f S=>mw S rfl fun f S=>oe (wp_ret ?_))));obtain rfl:=Zt H;refine Zka S (ZHa rfl (ZK S rfl)) ⟨[.float .f64 ((Zic .u64 ((fv:Int)) (9223372036854775808:Int)).toNat)],rfl,(Z7 (Zck (Zjb _ _)))⟩
theorem ZOs {d:World} {c:Zb} (hv:VIn c d) {e:List Value} {x:Nat} (i:Rep.rel (ZD .f64) c e x) {z:Nat×Int} (H:Zfj x=some z):Ret Tryz.prog 150 #[(ZD .f64).val e] d c (fun y v'=>∃ g a,y = .tuple #[(ZD .f64).val g,(Zc .i64).val a]∧(ZD .f64).rel v' g z.1∧(Zc .i64).rel v' a z.2):=by
 obtain ⟨rfl,a⟩:=i;refine Ztb (K:=10) (args:=[.float .f64 x]) hv Tryz.func150 rfl rfl zl fun f S=>?_;unfold Zfj at H;refine sr (mw S rfl fun f S=>mw S rfl fun f S=>oe (Zn fun _ j=>Zn fun _ k=>bO H fun l m H=>Zz (mv S rfl fun f S=>opc S rfl (ZJ S [.float .f64 x] ZTp rfl rfl) (ZGp S.vin (show Rep.rel (ZD .f64) _ [.float .f64 x] x from (Z7 a)) m) ?_)));rintro _ q f w r ⟨s,rfl,n⟩ S;obtain ⟨rfl,t⟩:=n;refine ov S rfl (ZZq S rfl rfl) fun f S=>Zx (Zg (k _ _ ?_));rcases Z3 (fLt .f64 l ((4503599627370496:Nat))) with b | b
 ·have H:=Z2 H b;refine Zda S rfl b (Zn fun _ o=>bO H fun p h H=>Zz (mv S rfl fun f S=>ov S rfl (ZGr S rfl rfl h) fun f S=>mw S rfl fun f S=>mw S rfl fun f S=>Zx (Zg (o _ _ (wp_ret (ZHb ?_))))));obtain rfl:=Zt H;refine Zka S (Zkc rfl (ZK S rfl) (ZK S rfl)) ⟨[.float .f64 p],[.int .i64 (-52:Int)],rfl,(Z7 (Zle h).2),(ZE (by decide))⟩
 have H:=Z4 H b;refine ZV S rfl b (wp_skip (Zg (j _ _ (sr (mv S rfl fun f S=>mw S rfl fun f S=>mw S rfl fun f S=>oe (wp_ret ?_))))));obtain rfl:=Zt H;refine Zka S (Zkc rfl (ZK S rfl) (ZK S rfl)) ⟨[.float .f64 x],[.int .i64 0],rfl,(Z7 a),(ZE (by decide))⟩
theorem Zpm {e:World} {a:Zb} (hv:VIn a e) {j:List Value} {fv:Nat} (q:Rep.rel (ZD .f64) a j fv) {k:List Value} {sign:Int} (r:Rep.rel (Zc .i64) a k sign) {z:Bool} (H:Zng fv sign=some z):Ret Tryz.prog 115 #[(ZD .f64).val j,(Zc .i64).val k] e a (fun y v'=>∃ l,y=Z3a.val l∧Z3a.rel v' l z):=by
 obtain ⟨rfl,m⟩:=q;obtain ⟨rfl,J⟩:=r;refine Ztb (K:=15) (args:=[.float .f64 fv,.int .i64 sign]) hv Tryz.func115 rfl rfl zl fun f S=>?_;unfold Zng at H;refine sr (mw S rfl fun f S=>oe (Zn fun _ s=>sr (mv S rfl fun f S=>ov S rfl (Zr S rfl rfl ZRf) fun f S=>oe ?_)));obtain ⟨t,u,v⟩:=Z0 H;refine Zmb (fun f w=>∃ b h,b=t∧Zb.le a h∧St 15 e a [(0,.float .f64 b)] [] h f w∧b<18446744073709551616) (fun _ n=>?_) ?_
 ·have H:=u;rcases Z3 (sign==(0:Int)) with c | c
  ·have H:=Z2 H c;refine Zda S rfl c (bO H fun L x H=>Zz (mv S rfl fun f S=>opc S rfl (ZJ S [.float .f64 fv] ZTp rfl rfl) (ZGp S.vin (show Rep.rel (ZD .f64) _ [.float .f64 fv] fv from (Z7 m)) x) ?_));rintro _ M f w A ⟨N,rfl,B⟩ S;obtain ⟨rfl,C⟩:=B;refine mw S rfl fun f S=>Zx ?_;obtain rfl:=Zt H;refine Zg (n _ _ ⟨_,_,rfl,(leT (leR _) A),(S.fr' rfl),C⟩)
  have H:=Z4 H c;refine ZV S rfl c (sr (mv S rfl fun f S=>ov S rfl (Zr S rfl rfl ZKc) fun f S=>oe ?_));obtain ⟨D,E,F⟩:=Z0 H;refine Zmb (fun f w=>∃ g i,g=D∧Zb.le a i∧St 15 e a [(0,.float .f64 g)] [] i f w∧g<18446744073709551616) (fun _ o=>?_) ?_
  ·have H:=E;rcases Z3 (decide (sign<(0:Int))) with d | d
   ·have H:=Z2 H d;refine Zda S rfl d (bO H fun O p H=>Zz (mv S rfl fun f S=>ov S rfl (Zpv S rfl p) fun f S=>mw S rfl fun f S=>Zx ?_));obtain rfl:=Zt H;refine Zg (o _ _ ⟨_,_,rfl,(leR _),(S.fr' rfl),(Zle p).2⟩)
   have H:=Z4 H d;refine ZV S rfl d (wp_skip ?_);obtain rfl:=Zt H;refine Zg (o _ _ ⟨_,_,rfl,(leR _),(S.fr' rfl),m⟩)
  rintro f w ⟨g,i,hq,G,S,I⟩;subst hq;have H:=F;obtain rfl:=Zt H;refine Zg (n _ _ ⟨_,_,rfl,(leT (leR _) G),(S.fr' rfl),I⟩)
 rintro f w ⟨b,h,hq,P,S,Q⟩;subst hq;have H:=v;refine Zg (s _ _ (sr (mv S rfl fun f S=>ov S rfl (run_fGt S rfl rfl) fun f S=>mw S rfl fun f S=>oe (wp_ret ?_))));obtain rfl:=Zt H;refine Zka S (ZHa rfl (ZK S rfl)) ⟨[.bool (fGt .f64 b ((9218868437227405311:Nat)))],rfl,Zhh⟩
theorem Zdl {b:World} {a:Zb} (hv:VIn a b) {c:List Value} {fv:Nat} (e:Rep.rel (ZD .f64) a c fv) {z:Bool} (H:ZTe fv=some z):Ret Tryz.prog 114 #[(ZD .f64).val c] b a (fun y v'=>∃ d,y=Z3a.val d∧Z3a.rel v' d z):=by
 obtain ⟨rfl,g⟩:=e;refine Ztb (K:=6) (args:=[.float .f64 fv]) hv Tryz.func114 rfl rfl zl fun f S=>?_;unfold ZTe at H;refine sr (mw S rfl fun f S=>oe (sr (mv S rfl fun f S=>mv S rfl fun f S=>ov S rfl (run_fNe S rfl rfl) fun f S=>mw S rfl fun f S=>oe (wp_ret ?_))));obtain rfl:=Zt H;refine Zka S (ZHa rfl (ZK S rfl)) ⟨[.bool (fNe .f64 fv fv)],rfl,Zhh⟩
theorem frexp_w {j:World} {c:Zb} (hv:VIn c j) {l:List Value} {fv:Nat} (r:Rep.rel (ZD .f64) c l fv) {z:Nat×Int} (H:Zzl fv=some z):Ret Tryz.prog 142 #[(ZD .f64).val l] j c (fun y v'=>∃ m a,y = .tuple #[(ZD .f64).val m,(Zc .i64).val a]∧(ZD .f64).rel v' m z.1∧(Zc .i64).rel v' a z.2):=by
 obtain ⟨rfl,a⟩:=r;refine Ztb (K:=38) (args:=[.float .f64 fv]) hv Tryz.func142 rfl rfl zl fun f S=>?_;unfold Zzl at H;refine sr (mw S rfl fun f S=>mw S rfl fun f S=>oe (Zn fun _ s=>wp_block (sr (mv S rfl fun f S=>ov S rfl (ZVp S rfl rfl) fun f S=>mw S rfl fun f S=>oe ?_))));rcases Z3 (fEq .f64 fv ((0:Nat))) with d | d
 ·have H:=Z2 H d;refine Zda S rfl d (sr (mv S rfl fun f S=>mw S rfl fun f S=>mw S rfl fun f S=>oe (wp_ret (Z7f (ZHb ?_)))));obtain rfl:=Zt H;refine Zka S (Zkc rfl (ZK S rfl) (ZK S rfl)) ⟨[.float .f64 fv],[.int .i64 0],rfl,(Z7 a),(ZE (by decide))⟩
 have H:=Z4 H d;refine ZV S rfl d (Zn fun _ u=>?_);obtain ⟨v,x,A⟩:=Z0 H;refine Zmb (fun f w=>∃ h k,h=v∧Zb.le c k∧St 38 j c [(0,.float .f64 fv),(9,.bool h)] [] k f w) (fun _ n=>?_) ?_
 ·have H:=x;refine bO H fun B C H=>Zz (mv S rfl fun f S=>opc S rfl (ZJ S [.float .f64 fv,.int .i64 0] Z9l rfl rfl) (Zpm S.vin (show Rep.rel (ZD .f64) _ [.float .f64 fv] fv from (Z7 a)) (show Rep.rel (Zc .i64) _ [.int .i64 0] (0:Int) from (ZE (by decide))) C) ?_);rintro _ R f w o ⟨T,rfl,D⟩ S;obtain rfl:=D;refine mv S rfl fun f S=>?_;rcases Z3 (B) with e | e
  ·have H:=Z2 H e;have S:=S.bool (t:=12) rfl e;refine opn S rfl rfl rfl rfl fun f S=>opn S rfl rfl rfl rfl fun f S=>ov S rfl (Z7b S (b:=true) rfl rfl) fun f S=>mw S rfl fun f S=>Zx ?_;obtain rfl:=Zt H;refine Zg (n _ _ ⟨_,_,rfl,(leT (leR _) o),(S.fr' rfl)⟩)
  have H:=Z4 H e;have S:=S.bool (t:=12) rfl e;refine bO H fun U E H=>opy S rfl rfl rfl rfl (ZH S rfl) fun f S=>Zih S (ZGd S rfl rfl rfl zl) rfl zl (ZJ S [.float .f64 fv] ZEl rfl rfl) (Zdl S.vin (show Rep.rel (ZD .f64) _ [.float .f64 fv] fv from (Z7 a)) E) ?_;rintro _ V f w F ⟨W,rfl,G⟩ S;obtain rfl:=G;refine ov S rfl (Z7b S (b:=false) rfl rfl) fun f S=>mw S rfl fun f S=>Zx ?_;obtain rfl:=Zt H;refine Zg (n _ _ ⟨_,_,rfl,(leT (leT (leR _) o) F),(S.fr' rfl)⟩)
 rintro f w ⟨h,k,hq,X,S⟩;subst hq;have H:=A;refine Zg (u _ _ ?_);rcases Z3 (h) with g | g
 ·have H:=Z2 H g;refine Zda S rfl g (sr (mv S rfl fun f S=>mw S rfl fun f S=>mw S rfl fun f S=>oe (wp_ret (Z7f (ZHb ?_)))));obtain rfl:=Zt H;refine Zka S (Zkc rfl (ZK S rfl) (ZK S rfl)) ⟨[.float .f64 fv],[.int .i64 0],rfl,(Z7 a),(ZE (by decide))⟩
 have H:=Z4 H g;refine ZV S rfl g (wp_skip (ZRc (Zg (s _ _ (Zn fun _ I=>bO H fun i J H=>Zz (mv S rfl fun f S=>opc S rfl (ZJ S [.float .f64 fv] ZFn rfl rfl) (ZOs S.vin (show Rep.rel (ZD .f64) _ [.float .f64 fv] fv from (Z7 a)) J) ?_))))));rintro _ Y f w Z ⟨aa,ab,rfl,L,M⟩ S;obtain ⟨rfl,ac⟩:=L;obtain ⟨rfl,ad⟩:=M;refine mv S rfl fun f S=>ov S rfl (Z8 S rfl rfl) fun f S=>ov S rfl (Z8 S rfl rfl) fun f S=>mw S rfl fun f S=>mw S rfl fun f S=>Zx (Zg (I _ _ (sr (mv S rfl fun f S=>ov S rfl (Zhc S [.float .f64 i.1] (ZDh ZWh) rfl rfl) fun f S=>mw S rfl fun f S=>oe (Zn fun _ N=>bO H fun ae O H=>?_)))));refine bO H fun af P H=>bO H fun ag Q H=>bO H fun p q H=>Zz (mv S rfl fun f S=>mv S rfl fun f S=>ov S rfl (Zr S rfl rfl (ZGm O)) fun f S=>ov S rfl (Zr S rfl rfl ZJi) fun f S=>ov S rfl (Z2c S rfl (ZWs _)) fun f S=>ov S rfl (Zr S rfl rfl (Zrb P)) fun f S=>ov S rfl (Zr S rfl rfl (Zuc Q)) fun f S=>ov S rfl (Zr S rfl rfl (Zuc q)) fun f S=>mw S rfl fun f S=>Zx ?_);refine Zg (N _ _ (sr (mv S rfl fun f S=>ov S rfl (Zr S rfl rfl Z3i) fun f S=>mw S rfl fun f S=>oe (sr (mv S rfl fun f S=>ov S rfl (Zr S rfl rfl ZJj) fun f S=>mw S rfl fun f S=>?_)))));have S:=S.fr' (σ':=[(3,.int .i64 p),(4,.int .u64 (orI .u64 (Zic .u64 ((i.1:Int)) (9218868437227405312:Int)) (4602678819172646912:Int)))]) rfl
 refine oe (sr (mv S rfl fun f S=>ov S rfl (Zhc S [.int .u64 (orI .u64 (Zic .u64 ((i.1:Int)) (9218868437227405312:Int)) (4602678819172646912:Int))] (ZMh Zyh) rfl rfl) fun f S=>mw S rfl fun f S=>oe (wp_ret ?_)));obtain rfl:=Zt H;refine Zka S (Zkc rfl (ZK S rfl) (ZK S rfl)) ⟨[.float .f64 ((orI .u64 (Zic .u64 ((i.1:Int)) (9218868437227405312:Int)) (4602678819172646912:Int)).toNat)],[.int .i64 p],rfl,(Z7 (Zck (Zjb _ _))),(ZE (ZZa q).2)⟩
theorem Frexp_w {c:World} {b:Zb} (hv:VIn b c) {d:List Value} {fv:Nat} (h:Rep.rel (ZD .f64) b d fv) {z:Nat×Int} (H:Zvm fv=some z):Ret Tryz.prog 116 #[(ZD .f64).val d] c b (fun y v'=>∃ e a,y = .tuple #[(ZD .f64).val e,(Zc .i64).val a]∧(ZD .f64).rel v' e z.1∧(Zc .i64).rel v' a z.2):=by
 obtain ⟨rfl,a⟩:=h;refine Ztb (K:=12) (args:=[.float .f64 fv]) hv Tryz.func116 rfl rfl zl fun f S=>?_;unfold Zvm at H;refine sr (mw S rfl fun f S=>mw S rfl fun f S=>oe (Zn fun _ i=>ZV S rfl rfl (wp_skip (Zg (i _ _ (Zn fun _ j=>bO H fun g k H=>Zz (mv S rfl fun f S=>opc S rfl (ZJ S [.float .f64 fv] k_en142 rfl rfl) (frexp_w S.vin (show Rep.rel (ZD .f64) _ [.float .f64 fv] fv from (Z7 a)) k) ?_)))))));rintro _ p f w q ⟨r,s,rfl,l,m⟩ S;obtain ⟨rfl,n⟩:=l;obtain ⟨rfl,o⟩:=m;refine ov S rfl (Z8 S rfl rfl) fun f S=>ov S rfl (Z8 S rfl rfl) fun f S=>mw S rfl fun f S=>mw S rfl fun f S=>Zx (Zg (j _ _ (wp_ret ?_)));obtain rfl:=Zt H;refine Zka S (Zkc rfl (ZK S rfl) (ZK S rfl)) ⟨[.float .f64 g.1],[.int .i64 (g.2)],rfl,(Z7 n),(ZE o)⟩
theorem Zwv {b:World} {a:Zb} (hv:VIn a b) {c:List Value} {fv:Nat} (g:Rep.rel (ZD .f64) a c fv) {d:List Value} {sign:Nat} (h:Rep.rel (ZD .f64) a d sign) {z:Nat} (H:Z0k fv sign=some z):Ret Tryz.prog 151 #[(ZD .f64).val c,(ZD .f64).val d] b a (fun y v'=>∃ e,y=(ZD .f64).val e∧(ZD .f64).rel v' e z):=by
 obtain ⟨rfl,i⟩:=g;obtain ⟨rfl,j⟩:=h;refine Ztb (K:=13) (args:=[.float .f64 fv,.float .f64 sign]) hv Tryz.func151 rfl rfl zl fun f S=>?_;unfold Z0k at H;refine sr (mw S rfl fun f S=>oe (sr (mv S rfl fun f S=>ov S rfl (Zhc S [.float .f64 fv] (ZDh ZWh) rfl rfl) fun f S=>ov S rfl (Zr S rfl rfl Z3i) fun f S=>mv S rfl fun f S=>ov S rfl (Zhc S [.float .f64 sign] (ZDh ZWh) rfl rfl) fun f S=>ov S rfl (Zr S rfl rfl ZJi) fun f S=>ov S rfl (Zr S rfl rfl ZJj) fun f S=>ov S rfl (Zhc S [.int .u64 (orI .u64 (Zic .u64 ((fv:Int)) (9223372036854775808:Int)) (Zya .u64 ((sign:Int)) (9223372036854775808:Int)))] (ZMh Zyh) rfl rfl) fun f S=>mw S rfl fun f S=>oe ?_)));refine wp_ret ?_;obtain rfl:=Zt H;refine Zka S (ZHa rfl (ZK S rfl)) ⟨[.float .f64 ((orI .u64 (Zic .u64 ((fv:Int)) (9223372036854775808:Int)) (Zya .u64 ((sign:Int)) (9223372036854775808:Int))).toNat)],rfl,(Z7 (Zck (Zjb _ _)))⟩
theorem Z1q {d:World} {b:Zb} (hv:VIn b d) {g:List Value} {sign:Int} (j:Rep.rel (Zc .i64) b g sign) {z:Nat} (H:Zgj sign=some z):Ret Tryz.prog 152 #[(Zc .i64).val g] d b (fun y v'=>∃ h,y=(ZD .f64).val h∧(ZD .f64).rel v' h z):=by
 obtain ⟨rfl,p⟩:=j;refine Ztb (K:=8) (args:=[.int .i64 sign]) hv Tryz.func152 rfl rfl zl fun f S=>?_;unfold Zgj at H;refine sr (mw S rfl fun f S=>oe (sr (mw S rfl fun f S=>oe (Zn fun _ k=>sr (mv S rfl fun f S=>ov S rfl (Zr S rfl rfl Zjh) fun f S=>oe ?_)))));obtain ⟨l,m,n⟩:=Z0 H;refine Zmb (fun f w=>∃ a e,a=l∧Zb.le b e∧St 8 d b [(3,.int .u64 a)] [] e f w∧inR .u64 a) (fun _ i=>?_) ?_
 ·have H:=m;rcases Z3 (decide ((0:Int)≤sign)) with c | c
  ·have H:=Z2 H c;refine Zda S rfl c (Zz (mw S rfl fun f S=>Zx ?_));obtain rfl:=Zt H;refine Zg (i _ _ ⟨_,_,rfl,(leR _),(S.fr' rfl),(by decide)⟩)
  have H:=Z4 H c;refine ZV S rfl c (Zz (mw S rfl fun f S=>Zx ?_));obtain rfl:=Zt H;refine Zg (i _ _ ⟨_,_,rfl,(leR _),(S.fr' rfl),(by decide)⟩)
 rintro f w ⟨a,e,hq,q,S,o⟩;subst hq;have H:=n;refine Zg (k _ _ (sr (mv S rfl fun f S=>ov S rfl (Zhc S [.int .u64 a] (ZMh Zyh) rfl rfl) fun f S=>mw S rfl fun f S=>oe (wp_ret ?_))));obtain rfl:=Zt H;refine Zka S (ZHa rfl (ZK S rfl)) ⟨[.float .f64 a.toNat],rfl,(Z7 (Zck o))⟩
theorem ldexp_w {n:World} {c:Zb} (hv:VIn c n) {u:List Value} {frac:Nat} (I:Rep.rel (ZD .f64) c u frac) {v:List Value} {ex:Int} (J:Rep.rel (Zc .i64) c v ex) {z:Nat} (H:Z8l frac ex=some z):Ret Tryz.prog 144 #[(ZD .f64).val u,(Zc .i64).val v] n c (fun y v'=>∃ x,y=(ZD .f64).val x∧(ZD .f64).rel v' x z):=by
 obtain ⟨rfl,d⟩:=I;obtain ⟨rfl,r2⟩:=J;refine Ztb (K:=63) (args:=[.float .f64 frac,.int .i64 ex]) hv Tryz.func144 rfl rfl zl fun f S=>?_;unfold Z8l at H;refine sr (mw S rfl fun f S=>oe (Zn fun _ L=>wp_block (sr (mv S rfl fun f S=>ov S rfl (ZVp S rfl rfl) fun f S=>mw S rfl fun f S=>oe ?_))));rcases Z3 (fEq .f64 frac ((0:Nat))) with e | e
 ·have H:=Z2 H e;refine Zda S rfl e (sr (mv S rfl fun f S=>mw S rfl fun f S=>oe (wp_ret (Z7f (ZHb ?_)))));obtain rfl:=Zt H;refine Zka S (ZHa rfl (ZK S rfl)) ⟨[.float .f64 frac],rfl,(Z7 d)⟩
 have H:=Z4 H e;refine ZV S rfl e (Zn fun _ M=>?_);obtain ⟨N,O,P⟩:=Z0 H;refine Zmb (fun f w=>∃ o r,o=N∧Zb.le c r∧St 63 n c [(0,.float .f64 frac),(1,.int .i64 ex),(12,.bool o)] [] r f w) (fun _ A=>?_) ?_
 ·have H:=O;refine bO H fun Q R H=>Zz (mv S rfl fun f S=>opc S rfl (ZJ S [.float .f64 frac,.int .i64 0] Z9l rfl rfl) (Zpm S.vin (show Rep.rel (ZD .f64) _ [.float .f64 frac] frac from (Z7 d)) (show Rep.rel (Zc .i64) _ [.int .i64 0] (0:Int) from (ZE (by decide))) R) ?_);rintro _ aN f w B ⟨aO,rfl,T⟩ S;obtain rfl:=T;refine mv S rfl fun f S=>?_;rcases Z3 (Q) with g | g
  ·have H:=Z2 H g;have S:=S.bool (t:=15) rfl g;refine opn S rfl rfl rfl rfl fun f S=>opn S rfl rfl rfl rfl fun f S=>ov S rfl (Z7b S (b:=true) rfl rfl) fun f S=>mw S rfl fun f S=>Zx ?_;obtain rfl:=Zt H;refine Zg (A _ _ ⟨_,_,rfl,(leT (leR _) B),(S.fr' rfl)⟩)
  have H:=Z4 H g;have S:=S.bool (t:=15) rfl g;refine bO H fun aP U H=>opy S rfl rfl rfl rfl (ZH S rfl) fun f S=>Zih S (ZGd S rfl rfl rfl zl) rfl zl (ZJ S [.float .f64 frac] ZEl rfl rfl) (Zdl S.vin (show Rep.rel (ZD .f64) _ [.float .f64 frac] frac from (Z7 d)) U) ?_;rintro _ aQ f w V ⟨aR,rfl,W⟩ S;obtain rfl:=W;refine ov S rfl (Z7b S (b:=false) rfl rfl) fun f S=>mw S rfl fun f S=>Zx ?_;obtain rfl:=Zt H;refine Zg (A _ _ ⟨_,_,rfl,(leT (leT (leR _) B) V),(S.fr' rfl)⟩)
 rintro f w ⟨o,r,hq,aS,S⟩;subst hq;have H:=P;refine Zg (M _ _ ?_);rcases Z3 (o) with h | h
 ·have H:=Z2 H h;refine Zda S rfl h (sr (mv S rfl fun f S=>mw S rfl fun f S=>oe (wp_ret (Z7f (ZHb ?_)))));obtain rfl:=Zt H;refine Zka S (ZHa rfl (ZK S rfl)) ⟨[.float .f64 frac],rfl,(Z7 d)⟩
 have H:=Z4 H h;refine ZV S rfl h (wp_skip (ZRc (Zg (L _ _ (Zn fun _ X=>bO H fun a Y H=>Zz (mv S rfl fun f S=>opc S rfl (ZJ S [.float .f64 frac] ZFn rfl rfl) (ZOs S.vin (show Rep.rel (ZD .f64) _ [.float .f64 frac] frac from (Z7 d)) Y) ?_))))));rintro _ Z f w aT ⟨aU,aV,rfl,aa,ab⟩ S;obtain ⟨rfl,ac⟩:=aa;obtain ⟨rfl,aW⟩:=ab;refine mv S rfl fun f S=>ov S rfl (Z8 S rfl rfl) fun f S=>ov S rfl (Z8 S rfl rfl) fun f S=>mw S rfl fun f S=>mw S rfl fun f S=>Zx (Zg (X _ _ (Zn fun _ ad=>bO H fun aX ae H=>Zz (mv S rfl fun f S=>mv S rfl fun f S=>ov S rfl (Zr S rfl rfl (Zuc ae)) fun f S=>mw S rfl fun f S=>?_))));refine Zx (Zg (ad _ _ (sr (mv S rfl fun f S=>ov S rfl (Zhc S [.float .f64 a.1] (ZDh ZWh) rfl rfl) fun f S=>mw S rfl fun f S=>oe (Zn fun _ af=>bO H fun aY ag H=>bO H fun aZ ah H=>bO H fun i C H=>Zz (mv S rfl fun f S=>mv S rfl fun f S=>?_))))));refine ov S rfl (Zr S rfl rfl (ZGm ag)) fun f S=>ov S rfl (Z2c S rfl (ZWs _)) fun f S=>ov S rfl (Zr S rfl rfl ZJi) fun f S=>ov S rfl (Zr S rfl rfl (Zrb ah)) fun f S=>ov S rfl (Zr S rfl rfl (Zuc C)) fun f S=>mw S rfl fun f S=>Zx (Zg (af _ _ (Zn fun _ ai=>sr (mv S rfl fun f S=>ov S rfl (Zr S rfl rfl ZKc) fun f S=>oe ?_))))
 rcases Z3 (decide (i<(-1075:Int))) with j | j
 ·have H:=Z2 H j;refine Zda S rfl j (Zn fun _ aj=>bO H fun D ak H=>Zz (mv S rfl fun f S=>opc S rfl (ZJ S [.float .f64 ((0:Nat)),.float .f64 a.1] k_en151 rfl rfl) (Zwv S.vin (show Rep.rel (ZD .f64) _ [.float .f64 ((0:Nat))] ((0:Nat)) from (Z7 (by decide))) (show Rep.rel (ZD .f64) _ [.float .f64 a.1] a.1 from (Z7 ac)) ak) ?_));rintro _ a0 f w a1 ⟨a2,rfl,al⟩ S;obtain ⟨rfl,am⟩:=al;refine mw S rfl fun f S=>Zx ?_;have S:=S.fr' (σ':=[(4,.float .f64 D)]) rfl;refine Zg (aj _ _ (wp_ret (ZHb ?_)));obtain rfl:=Zt H;refine Zka S (ZHa rfl (ZK S rfl)) ⟨[.float .f64 D],rfl,(Z7 am)⟩
 have H:=Z4 H j;refine ZV S rfl j (wp_skip (Zg (ai _ _ (Zn fun _ an=>sr (mv S rfl fun f S=>ov S rfl (Zr S rfl rfl Z7e) fun f S=>?_)))));have S:=S.fr' (σ':=[(0,.float .f64 a.1),(1,.int .i64 i),(6,.int .u64 ((a.1:Int))),(42,.bool (decide ((1023:Int)<i)))]) rfl;refine oe ?_;rcases Z3 (decide ((1023:Int)<i)) with k | k
 ·have H:=Z2 H k;refine Zda S rfl k (Zn fun _ ao=>sr (mv S rfl fun f S=>ov S rfl (ZZq S rfl rfl) fun f S=>oe ?_));rcases Z3 (fLt .f64 a.1 ((0:Nat))) with l | l
  ·have H:=Z2 H l;refine Zda S rfl l (Zn fun _ ap=>bO H fun aq ar H=>Zz (opc S rfl (ZJ S [.int .i64 (-1:Int)] Z7q rfl rfl) (Z1q S.vin (show Rep.rel (Zc .i64) _ [.int .i64 (-1:Int)] (-1:Int) from (ZE (by decide))) ar) ?_));rintro _ a3 f w a4 ⟨a5,rfl,au⟩ S;obtain ⟨rfl,av⟩:=au;refine mw S rfl fun f S=>Zx (Zg (ap _ _ (wp_ret (ZHb (ZHb ?_)))));obtain rfl:=Zt H;refine Zka S (ZHa rfl (ZK S rfl)) ⟨[.float .f64 aq],rfl,(Z7 av)⟩
  have H:=Z4 H l;refine ZV S rfl l (wp_skip (Zg (ao _ _ (Zn fun _ ax=>bO H fun ay az H=>Zz (opc S rfl (ZJ S [.int .i64 1] Z7q rfl rfl) (Z1q S.vin (show Rep.rel (Zc .i64) _ [.int .i64 1] (1:Int) from (ZE (by decide))) az) ?_)))));rintro _ a6 f w a7 ⟨a8,rfl,aA⟩ S;obtain ⟨rfl,aB⟩:=aA;refine mw S rfl fun f S=>Zx (Zg (ax _ _ (wp_ret (ZHb ?_))));obtain rfl:=Zt H;refine Zka S (ZHa rfl (ZK S rfl)) ⟨[.float .f64 ay],rfl,(Z7 aB)⟩
 have H:=Z4 H k;refine ZV S rfl k (wp_skip (Zg (an _ _ (sr (mw S rfl fun f S=>oe (Zn fun _ aC=>sr (mv S rfl fun f S=>ov S rfl (Zr S rfl rfl ZKc) fun f S=>oe ?_)))))));obtain ⟨aD,aE,aF⟩:=Z0 H;refine Zmb (fun f w=>∃ p q s,(p,q)=aD∧Zb.le Z s∧St 63 n c [(1,.int .i64 p),(6,.int .u64 ((a.1:Int))),(7,.float .f64 q)] [] s f w∧inR .i64 p∧q<18446744073709551616) (fun _ E=>?_) ?_
 ·have H:=aE;rcases Z3 (decide (i<(-1022:Int))) with m | m
  ·have H:=Z2 H m;refine Zda S rfl m (Zn fun _ aG=>bO H fun a9 F H=>Zz (mv S rfl fun f S=>ov S rfl (Zr S rfl rfl (Zuc F)) fun f S=>mw S rfl fun f S=>Zx (Zg (aG _ _ (Zz (mw S rfl fun f S=>Zx ?_))))));obtain rfl:=Zt H;refine Zg (E _ _ ⟨_,_,_,rfl,(leR _),(S.fr' rfl),(ZZa F).2,(by decide)⟩)
  have H:=Z4 H m;refine ZV S rfl m (wp_skip ?_);obtain rfl:=Zt H;refine Zg (E _ _ ⟨_,_,_,rfl,(leR _),(S.fr' rfl),(ZZa C).2,(by decide)⟩)
 rintro f w ⟨p,q,s,hq,ba,S,bb,bc⟩;subst hq;have H:=aF;refine Zg (aC _ _ (sr (mv S rfl fun f S=>ov S rfl (Zr S rfl rfl Z3i) fun f S=>mw S rfl fun f S=>oe (Zn fun _ aH=>bO H fun bd aI H=>bO H fun aJ aK H=>Zz (mv S rfl fun f S=>mv S rfl fun f S=>ov S rfl (Zr S rfl rfl (Zuc aI)) fun f S=>ov S rfl (Z2c S rfl (Zku _)) fun f S=>?_)))));refine ov S rfl (Zr S rfl rfl (ZPo aK)) fun f S=>ov S rfl (Zr S rfl rfl ZJj) fun f S=>mw S rfl fun f S=>Zx (Zg (aH _ _ (Zn fun _ aL=>bO H fun aM G H=>Zz (mv S rfl fun f S=>mv S rfl fun f S=>ov S rfl (Zhc S [.int .u64 (orI .u64 (Zic .u64 ((a.1:Int)) (9218868437227405312:Int)) aJ)] (ZMh Zyh) rfl rfl) fun f S=>ov S rfl (ZGr S rfl rfl G) fun f S=>mw S rfl fun f S=>Zx ?_))));refine Zg (aL _ _ (wp_ret ?_));obtain rfl:=Zt H;refine Zka S (ZHa rfl (ZK S rfl)) ⟨[.float .f64 aM],rfl,(Z7 (Zle G).2)⟩
theorem Ldexp_w {b:World} {a:Zb} (hv:VIn a b) {c:List Value} {frac:Nat} (g:Rep.rel (ZD .f64) a c frac) {d:List Value} {ex:Int} (h:Rep.rel (Zc .i64) a d ex) {z:Nat} (H:ZXm frac ex=some z):Ret Tryz.prog 117 #[(ZD .f64).val c,(Zc .i64).val d] b a (fun y v'=>∃ e,y=(ZD .f64).val e∧(ZD .f64).rel v' e z):=by
 obtain ⟨rfl,i⟩:=g;obtain ⟨rfl,j⟩:=h;refine Ztb (K:=11) (args:=[.float .f64 frac,.int .i64 ex]) hv Tryz.func117 rfl rfl zl fun f S=>?_;unfold ZXm at H;refine sr (mw S rfl fun f S=>oe (Zn fun _ k=>ZV S rfl rfl (wp_skip (Zg (k _ _ (Zn fun _ l=>bO H fun m n H=>Zz (mv S rfl fun f S=>mv S rfl fun f S=>opc S rfl (ZJ S [.float .f64 frac,.int .i64 ex] k_en144 rfl rfl) (ldexp_w S.vin (show Rep.rel (ZD .f64) _ [.float .f64 frac] frac from (Z7 i)) (show Rep.rel (Zc .i64) _ [.int .i64 ex] ex from (ZE j)) n) ?_)))))));rintro _ q f w r ⟨s,rfl,o⟩ S;obtain ⟨rfl,p⟩:=o;refine mw S rfl fun f S=>Zx (Zg (l _ _ (wp_ret ?_)));obtain rfl:=Zt H;refine Zka S (ZHa rfl (ZK S rfl)) ⟨[.float .f64 m],rfl,(Z7 p)⟩
theorem Z3w {u:World} {h:Zb} (hv:VIn h u) {D:List Value} {fv:Nat} (V:Rep.rel (ZD .f64) h D fv) {z:Rat×Int} (H:ZSd fv=some z):Ret Tryz.prog 93 #[(ZD .f64).val D] u h (fun y v'=>∃ E c,y = .tuple #[ZN.val E,(Zc .i64).val c]∧ZN.rel v' E z.1∧(Zc .i64).rel v' c z.2):=by
 obtain ⟨rfl,c⟩:=V;refine Ztb (K:=41) (args:=[.float .f64 fv]) hv Tryz.func93 rfl rfl zl fun f S=>?_;unfold ZSd at H;refine sr (Zli S wn rfl zl (cs:=[.bool false,.slice none 0 0,.slice none 0 0]) (Zmg ZQs) fun n f w S=>mw S rfl fun f S=>oe (Zn fun _ W=>Zn fun _ X=>?_));obtain ⟨Y,Z,aa⟩:=Z0 H;refine Zmb (fun f w=>∃ o v,o=Y∧Zb.le h v∧St 41 u h [(0,.float .f64 fv),(2,.pointer (some ⟨n,0,none⟩)),(12,.bool o)] [Loc.box n 32 [.bool false,.slice none 0 0,.slice none 0 0]] v f w) (fun _ G=>?_) ?_
 ·have H:=Z;refine bO H fun ab ac H=>Zz (mv S rfl fun f S=>opc S rfl (ZJ S [.float .f64 fv] ZEl rfl rfl) (Zdl S.vin (show Rep.rel (ZD .f64) _ [.float .f64 fv] fv from (Z7 c)) ac) ?_);rintro _ aU f w I ⟨aV,rfl,ad⟩ S;obtain rfl:=ad;refine mv S rfl fun f S=>?_;rcases Z3 (ab) with i | i
  ·have H:=Z2 H i;have S:=S.bool (t:=9) rfl i;refine opn S rfl rfl rfl rfl fun f S=>opn S rfl rfl rfl rfl fun f S=>ov S rfl (Z7b S (b:=true) rfl rfl) fun f S=>Zx ?_;obtain rfl:=Zt H;refine Zg (G _ _ ⟨_,_,rfl,(leT (leR _) I),(S.fr' rfl)⟩)
  have H:=Z4 H i;have S:=S.bool (t:=9) rfl i;refine bO H fun aW ae H=>opy S rfl rfl rfl rfl (ZH S rfl) fun f S=>Zih S (ZGd S rfl rfl rfl zl) rfl zl (ZJ S [.float .f64 fv,.int .i64 0] Z9l rfl rfl) (Zpm S.vin (show Rep.rel (ZD .f64) _ [.float .f64 fv] fv from (Z7 c)) (show Rep.rel (Zc .i64) _ [.int .i64 0] (0:Int) from (ZE (by decide))) ae) ?_;rintro _ aX f w af ⟨aY,rfl,ag⟩ S;obtain rfl:=ag;refine ov S rfl (Z7b S (b:=false) rfl rfl) fun f S=>Zx ?_;obtain rfl:=Zt H;refine Zg (G _ _ ⟨_,_,rfl,(leT (leT (leR _) I) af),(S.fr' rfl)⟩)
 rintro f w ⟨o,v,hq,aZ,S⟩;subst hq;have H:=aa;refine Zg (X _ _ ?_);rcases Z3 (o) with j | j
 ·have H:=Z2 H j;refine Zda S rfl j (sr (ov S rfl (ZPi S [] rfl (z:=.agg #[.bool false,.slice none 0 0,.slice none 0 0]) (by kernel_rfl)) fun f S=>?_));obtain ⟨w,ah,S⟩:=sbp S [.bool false,.slice none 0 0,.slice none 0 0] ZVe 0 0 rfl;refine Zrf wn rfl (ah rfl rfl) (mw S rfl fun f S=>oe (wp_ret (ZHb ?_)));obtain rfl:=Zt H;refine Zka S (Zkc rfl (rag3 S rfl ZVe 0 rfl rfl) (ZK S rfl)) ⟨[.bool false,.slice none 0 0,.slice none 0 0],[.int .i64 1],rfl,(Zbp _),(ZE (by decide))⟩
 have H:=Z4 H j;refine ZV S rfl j (wp_skip (Zg (W _ _ (Zn fun _ ai=>bO H fun x aj H=>Zz (mv S rfl fun f S=>opc S rfl (ZJ S [.float .f64 fv] k_en116 rfl rfl) (Frexp_w S.vin (show Rep.rel (ZD .f64) _ [.float .f64 fv] fv from (Z7 c)) aj) ?_)))));rintro _ a0 f w a1 ⟨a2,a3,rfl,ak,al⟩ S;obtain ⟨rfl,am⟩:=ak;obtain ⟨rfl,a4⟩:=al;refine mv S rfl fun f S=>ov S rfl (Z8 S rfl rfl) fun f S=>ov S rfl (Z8 S rfl rfl) fun f S=>mw S rfl fun f S=>mw S rfl fun f S=>Zx (Zg (ai _ _ (Zn fun _ an=>bO H fun a5 ao H=>bO H fun A J H=>bO H fun B ap H=>Zz (mv S rfl fun f S=>opc S rfl (ZJ S [.float .f64 x.1,.int .i64 53] k_en117 rfl rfl) (Ldexp_w S.vin (show Rep.rel (ZD .f64) _ [.float .f64 x.1] x.1 from (Z7 am)) (show Rep.rel (Zc .i64) _ [.int .i64 53] (53:Int) from (ZE (by decide))) ao) ?_))));rintro _ a6 f w a7 ⟨a8,rfl,aq⟩ S;obtain ⟨rfl,a9⟩:=aq;refine ov S rfl (Z2c S rfl (conv_fI Tryz.underlying173 Tryz.underlying2 J)) fun f S=>opc S rfl (ZJ S [.int .i64 A] k_en27 rfl rfl) (of_c S.vin (show Rep.rel (Zc .i64) _ [.int .i64 A] A from (ZE (Zzv J))) ap) ?_;rintro _ ba f w bb ⟨bc,rfl,k⟩ S;obtain ⟨l,d,e,g,rfl⟩:=ZDg k;refine Zli S wn rfl zl (cs:=[.bool false,.slice none 0 0]) (Zmg k_zv30) fun bd f w S=>?_
 obtain ⟨w,ar,S⟩:=sbp S [.bool l,.slice d e g] Zhj 0 0 rfl;refine Zrf wn rfl (ar rfl rfl) (Zx (Zg (an _ _ (Zn fun _ au=>Zn fun _ av=>bO H fun a L H=>Zz (mv S rfl fun f S=>ov S rfl (Zr S rfl rfl (Zrb L)) fun f S=>mw S rfl fun f S=>Zx (Zg (av _ _ (sr (mv S rfl fun f S=>?_)))))))));refine ov S rfl (Zr S rfl rfl Zjh) fun f S=>oe ?_;rcases Z3 (decide ((0:Int)≤a)) with m | m
 ·have H:=Z2 H m;refine Zda S rfl m (Zn fun _ ax=>bO H fun be ay H=>bO H fun bf az H=>Z8e (fl:=#[true,true,true,true,true,false,false,true,false,false]) Zuh (by kernel_rfl) S ?_);intro ops O F w S;refine rfa O F 0 rfl rfl S (ZRj S rfl ZJo) fun f S=>?_;obtain ⟨rfl,aA⟩:=ZXs k;refine rfa O F 1 rfl rfl S (lo S rfl k_sz4 0 rfl rfl) fun f S=>rfa O F 2 rfl rfl S (ZRj S rfl Zqv) fun f S=>rfa O F 3 rfl rfl S (lo S rfl k_sz28 0 rfl rfl) fun f S=>rfa O F 4 rfl rfl S (ZH S rfl) fun f S=>go1 O F 5 (nxc [3,4,2] [0,1] O rfl S rfl (ZJ S [.slice d e g,.int .i64 a] ZKj rfl rfl) (Z2i S.vin aA (show Rep.rel (Zc .i64) _ [.int .i64 a] a from (ZE (ZZa L).2)) ay) ?_);rintro _ bg f w bh ⟨bi,rfl,M⟩ S;obtain ⟨aB,aC,aD,rfl⟩:=Zua M;refine ⟨(py S rfl rfl (ZRj S rfl ZJo) (py S rfl rfl (lo S rfl k_sz4 0 rfl rfl) ZKa)),go1 O F 6 (nxc [1,5,0,3,4,2] [] O rfl S rfl (ZJ S [.bool (decide (B<0)),.slice aB aC aD] k_en43 rfl rfl) (whole_c S.vin (show Rep.rel Z3a _ [.bool (decide (B<0))] (decide (B<0)) from Zhh) M az) ?_)⟩;rintro _ bj f w bk ⟨bm,rfl,N⟩ S;obtain ⟨p,q,r,s,rfl⟩:=ZDg N;refine ⟨ZKa,rfa O F 7 rfl rfl S (ZPi S [(0,.agg #[.bool p,.slice q r s])] rfl (z:=.agg #[.bool p,.slice q r s,.slice none 0 0]) (by kernel_rfl)) fun f S=>go1 O F 8 ?_⟩
  obtain ⟨w,aE,S⟩:=sbp S [.bool p,.slice q r s,.slice none 0 0] ZVe 0 1 rfl;refine nxs [0,1,2,3,4,5,6,7] [] O rfl rfl (aE rfl rfl) (⟨ZKa,go1 O F 9 (nva [0,1,2,3,4,5,6,7,8] [] O rfl rfl S (ZLc S rfl) fun f S=>⟨ZKa,fin1 O F ?_⟩)⟩);have S:=S.fr' (σ':=[(2,.pointer (some ⟨n,0,none⟩)),(3,.int .i64 0)]) rfl;refine Zg (ax _ _ (wp_ret (ZHb (bO H fun bn aF H=>?_))));have aG:=Zks N (Z2g _) aF;obtain rfl:=Zt H;refine Zka S (Zkc rfl (rag3 S rfl ZVe 1 rfl rfl) (ZK S rfl)) ⟨[.bool p,.slice q r s,.slice none 0 0],[.int .i64 0],rfl,aG,(ZE (by decide))⟩
 have H:=Z4 H m;refine ZV S rfl m (wp_skip (Zg (au _ _ (Zn fun _ aH=>bO H fun bo aI H=>bO H fun bp aJ H=>bO H fun bq aK H=>Z8e (fl:=#[true,false,true,true,false,false,false,false]) Zuh (by kernel_rfl) S ?_))));intro ops O F w S;refine rfa O F 0 rfl rfl S (la S (cs:=[.bool l,.slice d e g]) rfl Zhj 0 rfl rfl rfl) fun f S=>rfa O F 2 rfl rfl S (ZH S rfl) fun f S=>rfa O F 3 rfl rfl S (Z3k S rfl) fun f S=>go1 O F 1 (nxc [] [0,2,3] O rfl S rfl (ZJ S [.int .u64 1] Zws rfl rfl) (Zfp S.vin (show Rep.rel (Zc .u64) _ [.int .u64 1] (1:Int) from (ZE (by decide))) aI) ?_);rintro _ br f w aL ⟨bs,rfl,P⟩ S;obtain ⟨aM,aN,aO,rfl⟩:=Zua P;refine ⟨(py S rfl rfl (la S (cs:=[.bool l,.slice d e g]) rfl Zhj 0 rfl rfl rfl) (py S rfl rfl (ZH S rfl) (py S rfl rfl (Z3k S rfl) ZKa))),go1 O F 4 (nxc [1,3,2] [0] O rfl S rfl (ZJ S [.slice aM aN aO,.int .i64 (IntKind.i64.wrap (-a))] ZKj rfl rfl) (Z2i S.vin P (show Rep.rel (Zc .i64) _ [.int .i64 (IntKind.i64.wrap (-a))] (IntKind.i64.wrap (-a)) from (ZE (Zjb _ _))) aJ) ?_)⟩;rintro _ bt f w aP ⟨bu,rfl,Q⟩ S;obtain ⟨aQ,aR,aS,rfl⟩:=Zua Q;refine ⟨(py S rfl rfl (la S (cs:=[.bool l,.slice d e g]) rfl Zhj 0 rfl rfl rfl) ZKa),go1 O F 5 ?_⟩;have k:=ZBa (leT aL aP) k
 refine nxc [0,4,1,3,2] [] O rfl S rfl (ZJ S [.agg #[.bool l,.slice d e g],.slice aQ aR aS] k_en32 rfl rfl) (over_c S.vin k Q aK) ?_;rintro _ bv f w bw ⟨bx,rfl,C⟩ S;obtain ⟨R,T,U,rfl⟩:=len3 ZN C;refine ⟨ZKa,go1 O F 6 ?_⟩;obtain ⟨w,aT,S⟩:=sba S (cs:=[R,T,U]) ZVe 0 1 rfl (Rflat ZN C);refine nxs [0,1,2,3,4,5] [] O rfl rfl (aT rfl rfl) (⟨ZKa,go1 O F 7 (nva [0,1,2,3,4,5,6] [] O rfl rfl S (ZLc S rfl) fun f S=>⟨ZKa,fin1 O F ?_⟩)⟩);have S:=S.fr' (σ':=[(2,.pointer (some ⟨n,0,none⟩)),(3,.int .i64 0)]) rfl;refine Zg (aH _ _ (wp_ret ?_));obtain rfl:=Zt H;refine Zka S (Zkc rfl (rag3 S rfl ZVe 1 rfl rfl) (ZK S rfl)) ⟨[R,T,U],[.int .i64 0],rfl,C,(ZE (by decide))⟩
set_option maxRecDepth 1000000
set_option maxRecDepth 100000
theorem d_sw:FloatKind.f64.format.signWeight=9223372036854775808:=by decide
theorem d_bi:FloatKind.f64.format.binade=4503599627370496:=by decide
theorem d_in:FloatKind.f64.format.infRung=9218868437227405312:=by decide
theorem d_lp:FloatKind.f64.format.leastPlace = -1074:=by decide
section
variable {s:Bool} {E M:Nat}
end
set_option maxRecDepth 100000
section
variable {s:Bool} {E M:Nat} (h1:1≤E) (h2:E≤2046) (h3:M<4503599627370496)
include h1 h2 h3
end
section
variable {s:Bool} {M:Nat} (h3:M<4503599627370496)
include h3
end
set_option maxRecDepth 100000
section
variable {s:Bool} {E M:Nat} (h1:1≤E) (h2:E≤2046) (h3:M<4503599627370496)
include h1 h2 h3
end
section
variable {m L:Nat} (h0:m≠0) (hL:m.log2=L) (h23:L≤23)
include h0 hL h23
end
set_option maxRecDepth 100000
theorem Zdv {r:Nat} (h:ZVf r):∃ g f,FloatKind.f64.format.read r = .nan g f:=by
 obtain ⟨_,h2⟩:=h;unfold Ieee.Format.read;simp only [d_sw,d_bi,d_in,d_lp];rw [if_neg (by omega),if_neg (by omega),if_neg (by omega)];exact ⟨_,_,rfl⟩
theorem ZFm {r:Nat} (h:ZVf r):ZSd r=some (0,1):=by
 obtain ⟨g,f,hr⟩:=Zdv h;have hn:ZTe r=some true:=by
  unfold ZTe fNe Ieee.Format.order;rw [hr];rfl
 unfold ZSd;rw [hn,Za,Zf,Za,Zf]
theorem Zlv (g:Bool):ZSd (FloatKind.f64.encode (.infinity g))=some (0,1):=by
 have h1:∀ g,ZTe (FloatKind.f64.encode (.infinity g))=some false∧Zng (FloatKind.f64.encode (.infinity g)) 0=some true:=by
  intro g
  cases g
  ·decide +kernel
  ·decide +kernel
 obtain ⟨a,b⟩:=h1 g;unfold ZSd;rw [a,Za,Ze,b,Za,Za,Zf]
theorem ZFr:ZVf canon64:=⟨by decide,by decide⟩
theorem Zit {y r:Nat} {z:Rat×Int} (h:as64 y r) (e:ZSd y=some z):ZSd r=some z:=by
 rcases h with rfl | ⟨rfl,h | ⟨g,rfl⟩⟩
 ·exact e
 ·rw [ZFm h,← e,ZFm ZFr]
 ·rw [Zlv,← e,ZFm ZFr]
end Go.Eng
namespace Go.Eng
open Go.Proofs Go.RowKit
theorem ZZx {d:World} {a:Zb} (hv:VIn a d) {e:List Value} {fv:Nat} (k:Rep.rel (ZD .f32) a e fv) {z:Rat×Int} (H:ZUh fv=some z):Ret Tryz.prog 67 #[(ZD .f32).val e] d a (fun y v'=>∃ g b,y = .tuple #[ZN.val g,(Zc .i64).val b]∧ZN.rel v' g z.1∧(Zc .i64).rel v' b z.2):=by
 obtain ⟨rfl,b⟩:=k;refine Ztb (K:=9) (args:=[.float .f32 fv]) hv Tryz.func67 rfl rfl zl fun f S=>?_;unfold ZUh at H;refine sr (Zli S wn rfl zl (cs:=[.bool false,.slice none 0 0,.slice none 0 0]) (Zmg ZQs) fun s f w S=>mw S rfl fun f S=>oe (Zn fun _ l=>bO H fun t m H=>bO H fun n o H=>Zz (mv S rfl fun f S=>ovn S rfl Tryz.underlying84 Tryz.underlying173 m fun yr asr ltr f w S=>opc S rfl (ZJ S [.float .f64 yr] k_en93 rfl rfl) (Z3w S.vin (show Rep.rel (ZD .f64) _ [.float .f64 yr] yr from (Z7 ltr)) (Zit asr o)) ?_)));rintro _ u f w v ⟨x,A,rfl,c,p⟩ S;obtain ⟨h,i,j,rfl⟩:=len3 ZN c;obtain ⟨rfl,q⟩:=p;refine ov S rfl (Z8 S rfl rfl) fun f S=>ov S rfl (Z8 S rfl rfl) fun f S=>?_;obtain ⟨w,r,S⟩:=sba S (cs:=[h,i,j]) ZVe 0 0 rfl (Rflat ZN c);refine Zrf wn rfl (r rfl rfl) (mw S rfl fun f S=>Zx (Zg (l _ _ (wp_ret ?_))));obtain rfl:=Zt H;refine Zka S (Zkc rfl (rag3 S rfl ZVe 0 rfl rfl) (ZK S rfl)) ⟨[h,i,j],[.int .i64 (n.2)],rfl,c,(ZE q)⟩
end Go.Eng
set_option maxRecDepth 100000
set_option maxHeartbeats 4000000
namespace Go.Eng
open Go.Proofs Go.RowKit
noncomputable def ZKk:FuncId×Con:=(67,⟨[.flt .f32],[.leaf 3,.int .i64],fun p=>ZUh p⟩)
theorem Zmt:ZId Tryz.prog ZKk.1 ZKk.2:=fun w v vals x z hv ha hz=>by
 obtain ⟨c0,e0,p0⟩:=ha;subst e0
 exact .inl ⟨fun _ _=>by kernel_rfl,Ret.mono (ZZx hv p0 hz) fun y v' _ ⟨r0,r1,e,h0,h1⟩=>⟨_,e,r0,_,rfl,h0,r1,rfl,h1⟩⟩
end Go.Eng
set_option maxRecDepth 100000
set_option maxHeartbeats 4000000
namespace Go.Eng
open Go.Proofs Go.RowKit
noncomputable def Zwp:FuncId×Con:=(48,⟨[.slice (.pair (.flt .f32) (.flt .f32))],[.slice (.pair (.leaf 3) (.leaf 3)),.int .i64],fun p=>Zkq p⟩)
theorem rise_k:KQ Zwp:=ZA (Zea (C:=cf0 [Zbe,Zzc,ZKk] [] [] []) (.n (.two (.f (.j [0] [] [.s 19 (.dat .bool)] .no)) (.n (.n (.f (.n (.cut ⟨⟨[],[],[]⟩,[(.norm,⟨[],[],[.s 4 (.own 139 (.pair (.leaf 3) (.leaf 3))),.s 5 (.dat (.int .i64))]⟩),(.ret,⟨[],[],[.s 1000 (.dat (.slice (.pair (.leaf 3) (.leaf 3)))),.s 1001 (.dat (.int .i64))]⟩)]⟩ (.f (.cut ⟨⟨[20,21],[],[.s 4 (.own 139 (.pair (.leaf 3) (.leaf 3))),.s 22 (.dat (.int .i64)),.s 5 (.dat (.int .i64))]⟩,[(.ret,⟨[],[],[.s 1000 (.dat (.slice (.pair (.leaf 3) (.leaf 3)))),.s 1001 (.dat (.int .i64))]⟩),(.exit 0,⟨[],[],[.s 4 (.own 139 (.pair (.leaf 3) (.leaf 3))),.s 5 (.dat (.int .i64))]⟩)]⟩ (.f (.n (.n (.f (.f (.n (.n (.n (.two (.f (.two (.j [4,5,6,8,10,20,21,22] [] [.s 39 (.dat .bool)] .no) (.n (.f (.j [4,5,6,8,10,20,21,22] [] [.s 51 (.dat .bool)] .no))))) (.n (.n (.j [4,20,21,22] [] [.s 5 (.dat (.int .i64))] .no))))))))))))))))))))) Tryz.func48 [] (fun _=>by kernel_rfl) ⟨Zcf,ZSc,Zmt,tr⟩)
end Go.Eng
set_option maxRecDepth 100000
set_option maxHeartbeats 4000000
namespace Go.Eng
open Go.Proofs Go.RowKit
noncomputable def Zvs:FuncId×Con:=(70,⟨[.pair (.leaf 3) (.leaf 3),.pair (.leaf 3) (.leaf 3)],[.leaf 3],fun p=>ZBr p.1 p.2⟩)
theorem Z5x:KQ Zvs:=ZA (Zea (C:=cf0 [Zue,Zse] [] [] []) (.n (.f (.j [4] [] [.s 5 (.box 32 (.dat (.leaf 3)))] .no))) Tryz.func70 [] (fun _=>by kernel_rfl) ⟨ZLf,ZJf,tr⟩)
end Go.Eng
set_option maxRecDepth 100000
set_option maxHeartbeats 4000000
namespace Go.Eng
open Go.Proofs Go.RowKit
noncomputable def ZAr:FuncId×Con:=(49,⟨[.slice (.pair (.leaf 3) (.leaf 3)),.leaf 3],[.leaf 3,.int .i64],fun p=>Zir p.1 p.2⟩)
theorem reach_k:KQ ZAr:=ZA (Zea (C:=cf0 [ZCf,Zue,Zse,Zvs,Zbe] [] [] []) (.n (.n (.n (.n (.f (.j [4,7] [] [.s 8 (.box 32 (.dat (.leaf 3)))] .no)))))) Tryz.func49 [(68,Tryz.f68,.r [] [] [.s 1000 (.dat (.int .i64))] (.n (.f (.n (.cut ⟨⟨[],[],[]⟩,[(.norm,⟨[],[],[]⟩),(.ret,⟨[],[],[.s 1000 (.dat (.int .i64))]⟩)]⟩ (.f (.cut ⟨⟨[0,1,7],[],[.s 8 (.dat (.int .i64))]⟩,[(.ret,⟨[],[],[.s 1000 (.dat (.int .i64))]⟩),(.exit 0,⟨[],[],[]⟩)]⟩ .no))))))),(69,Tryz.f69,.r [] [] [.s 1000 (.dat .bool)] .no)] (fun _=>by kernel_rfl) ⟨ZJg,ZLf,ZJf,Z5x,Zcf,tr⟩ tr tr ⟨⟨Tryz.func68,fun _ _=>by kernel_rfl⟩,⟨Tryz.func69,fun _ _=>by kernel_rfl⟩,tr⟩)
end Go.Eng
set_option maxRecDepth 100000
set_option maxHeartbeats 4000000
namespace Go.Eng
open Go.Proofs Go.RowKit
noncomputable def ZDs:FuncId×Con:=(25,⟨[.slice (.pair (.flt .f32) (.flt .f32)),.leaf 3],[.leaf 3,.int .i64],fun p=>Z2r p.1 p.2⟩)
theorem Reach_k:KQ ZDs:=ZA (Zea (C:=cf0 [Zwp,ZAr] [] [] []) .no Tryz.func25 [] (fun _=>by kernel_rfl) ⟨rise_k,reach_k,tr⟩)
end Go.Eng
namespace Go.Eng
open Go.Proofs Go.RowKit
theorem Z0t {r:World} {d:Zb} (hv:VIn d r) {D:List Value} {n:Int} (L:Rep.rel (Zc .u64) d D n) {z:(List UInt8)} (H:Z8j n=some z):Ret Tryz.prog 72 #[(Zc .u64).val D] r d (fun y v'=>∃ E,y=Zbb.val E∧Zbb.rel v' E z):=by
 obtain ⟨rfl,M⟩:=L;refine Ztb (K:=20) (args:=[.int .u64 n]) hv Tryz.func72 rfl rfl zl fun f S=>?_;unfold Z8j at H;refine sr (mw S rfl fun f S=>oe (sr (Zli S wn rfl zl (cs:=[.int .u8 0,.int .u8 0,.int .u8 0,.int .u8 0,.int .u8 0,.int .u8 0,.int .u8 0,.int .u8 0,.int .u8 0,.int .u8 0,.int .u8 0,.int .u8 0,.int .u8 0,.int .u8 0,.int .u8 0,.int .u8 0,.int .u8 0,.int .u8 0,.int .u8 0,.int .u8 0]) (Zmg k_zv174) fun s f w S=>?_)));have S:=S.boxOwn 1 20 rfl zl;have N:Rep.rels (Zc .u8) d [.int .u8 0,.int .u8 0,.int .u8 0,.int .u8 0,.int .u8 0,.int .u8 0,.int .u8 0,.int .u8 0,.int .u8 0,.int .u8 0,.int .u8 0,.int .u8 0,.int .u8 0,.int .u8 0,.int .u8 0,.int .u8 0,.int .u8 0,.int .u8 0,.int .u8 0,.int .u8 0] (List.replicate 20 (0:Int)):=ZEg (show Rep.rel (Zc .u8) _ [Value.int .u8 0] 0 from ⟨rfl,by decide⟩) 20;refine oe (sr (mw S rfl fun f S=>oe (Zn fun _ O=>?_)));obtain ⟨P,Q,R⟩:=Z0 H;refine Zmb (fun f w=>∃ l m B t,(l,m)=P∧Zb.le d t∧St 20 r d [(3,.pointer (some ⟨s,0,none⟩)),(4,.int .i64 m)] [Loc.own (some s) 174 1 20 20 B] t f w∧Rep.rels (Zc .u8) t B l∧20=l.length∧inR .i64 m) (fun _ T=>?_) ?_
 ·have H:=Q;refine wp_block ?_;obtain ⟨ak,U,V⟩:=Z0 H;refine Z7d U (fun W f w=>∃ h o u b k,(h,o,u)=W∧Zb.le d k∧St 20 r d [(0,.int .u64 o),(3,.pointer (some ⟨s,0,none⟩)),(4,.int .i64 u)] [Loc.own (some s) 174 1 20 20 b] k f w∧Rep.rels (Zc .u8) k b h∧20=h.length∧inR .u64 o∧inR .i64 u) ⟨_,_,_,[.int .u8 0,.int .u8 0,.int .u8 0,.int .u8 0,.int .u8 0,.int .u8 0,.int .u8 0,.int .u8 0,.int .u8 0,.int .u8 0,.int .u8 0,.int .u8 0,.int .u8 0,.int .u8 0,.int .u8 0,.int .u8 0,.int .u8 0,.int .u8 0,.int .u8 0,.int .u8 0],_,rfl,(leR _),(S.fr' rfl),N,(List.length_replicate (n:=20) (a:=(0:Int))).symm,M,(by decide)⟩ ?_;rintro _ f w st ⟨h,o,u,b,k,hq,F,S,C,v,al,X⟩ H am Y Z;subst hq;refine Zn fun _ aa=>sr (mv S rfl fun f S=>ov S rfl (Zr S rfl rfl Z7e) fun f S=>oe ?_);rcases Z3 (decide ((0:Int)<o)) with p | p
  ·have H:=Z2 H p;refine Zda S rfl p (wp_skip (Zg (aa _ _ (Zn fun _ ab=>wp_block (Zn fun _ ac=>bO H fun e G H=>Zz (mv S rfl fun f S=>ov S rfl (Zr S rfl rfl (Zrb G)) fun f S=>mw S rfl fun f S=>Zx (Zg (ac _ _ (bO H fun g ad H=>?_)))))))));refine bO H fun an q H=>Zz (mv S rfl fun f S=>mv S rfl fun f S=>ov S rfl (Zr S rfl rfl (Z6p ad)) fun f S=>ov S rfl (Zr S rfl rfl Zbm) fun f S=>ov S rfl (Z2c S rfl (Ztt _)) fun f S=>?_);have I:=ZPa C (Zp q).2.1;obtain ⟨ao,ae⟩:∃ c,(List.take (Zc .u8).n (List.drop ((e).toNat*(Zc .u8).n) b))=c:=⟨_,rfl⟩;rw [ae] at I;obtain ⟨rfl,ap⟩:=I;refine ov S rfl (ZUp S Zup rfl rfl (Zp q).1 (ltI v (Zp q).2.2.1)) fun f S=>?_;obtain ⟨w,af,S⟩:=Zmd S k_sz5 (off:=0+(e).toNat*1) (z:=.int .u8 (IntKind.u8.wrap (IntKind.u64.wrap ((48:Int)+g)))) (cs:=[.int .u8 (IntKind.u8.wrap (IntKind.u64.wrap ((48:Int)+g)))]) (Zhd rfl) rfl (i:=0) rfl (Zii S (j:=0) rfl (ltN v (Zp q).2.2.2)) (by first | rfl | simp [plain]);have ag:Rep.rels (Zc .u8) k (List.take (0+(e).toNat*1) b++[Value.int IntKind.u8 (IntKind.u8.wrap (IntKind.u64.wrap ((48:Int)+g)))]++List.drop (0+(e).toNat*1+1) b) (h.set (e).toNat (IntKind.u8.wrap (IntKind.u64.wrap ((48:Int)+g)))):=Zbg C (Zp q).2.2.2 (show Rep.rel (Zc .u8) k [.int .u8 (IntKind.u8.wrap (IntKind.u64.wrap ((48:Int)+g)))] _ from (ZE (Zjb _ _))) rfl rfl
   have ah:20=(h.set (e).toNat (IntKind.u8.wrap (IntKind.u64.wrap ((48:Int)+g)))).length:=setN v;refine Zrf wn rfl (af rfl rfl) (Zx (ZRc (Zg (ab _ _ (bO H fun aq J H=>Zz (mv S rfl fun f S=>ov S rfl (Zr S rfl rfl (ZEs J)) fun f S=>mw S rfl fun f S=>Zx ?_))))));obtain rfl:=Zt H;refine Y _ rfl _ _ ⟨_,_,_,(List.take (0+(e).toNat*1) b++[Value.int IntKind.u8 (IntKind.u8.wrap (IntKind.u64.wrap ((48:Int)+g)))]++List.drop (0+(e).toNat*1+1) b),_,rfl,F,(S.fr' rfl),ag,ah,(Z3p J),(ZZa G).2⟩
  have H:=Z4 H p;refine ZV S rfl p (wp_exit (Zgb ?_));obtain rfl:=Zt H;have hq:=Z _ rfl;subst hq;have H:=V;refine Zgb (ZMd ?_);obtain rfl:=Zt H;refine Zg (T _ _ ⟨_,_,b,_,rfl,(leT (leR _) F),(S.fr' rfl),C,v,X⟩)
 rintro f w ⟨l,m,B,t,hq,ar,S,ai,x,au⟩;subst hq;have H:=R;refine Zg (O _ _ (Zn fun _ aj=>bO H fun av A H=>Zz (mv S rfl fun f S=>ov S rfl (Z4t S Zup rfl rfl (Zff A).1 (by have:=(Zff A).2.1;have:=x;omega)) fun f S=>ov S rfl (Z0v S (j:=0) rfl ai x (by have:=(Zff A).2.1;have:=(Zff A).1;have:=x;omega) rfl Tryz.underlying23 Tryz.underlying5 Tryz.underlying9) fun f S=>mw S rfl fun f S=>Zx (Zg (aj _ _ (wp_ret ?_))))));obtain rfl:=Zt H;refine Zka S (ZHa rfl (ZK S rfl)) ⟨[.string (Zw ((ZDd (l.drop ((m).toNat)))))],rfl,(ZCh (by have:=x;simp only [Z6v,List.length_drop];unfold maxLen;omega))⟩
theorem ZGt {b:World} {a:Zb} (hv:VIn a b) {c:List Value} {n:Int} (d:Rep.rel (Zc .u64) a c n) {z:(List UInt8)} (hm:Zfg n=some z) :
  Ret Tryz.prog 72 #[(Zc .u64).val c] b a (fun y v'=>∃ e,y=Zbb.val e∧Zbb.rel v' e z) :=
 Z0t hv d (Zdx d.2 hm)
end Go.Eng
namespace Go.Proofs
open Go.Shelf
def Tryz.lays105_ren:Go.Shelf.Ren:=⟨fun | 105=>73 | 212=>95 | 99=>96 | 165=>97 | 166=>74 | 170=>98 | 169=>75 | 263=>118 | 264=>59 | 206=>119 | 240=>99 | 241=>120 | 276=>121 | 277=>145 | n=>n,fun | 9=>9 | 3=>3 | 4=>4 | 20=>20 | 0=>0 | 46=>168 | 109=>175 | 5=>5 | 72=>150 | 76=>153 | 51=>171 | 146=>201 | 53=>119 | 148=>129 | 70=>148 | 37=>23 | 75=>152 | 127=>179 | 164=>203 | 80=>88 | n=>n,fun | n=>n⟩
theorem Tryz.lays105:Go.Proofs.Lays.n105 Tryz.prog Tryz.lays105_ren:={
 mixed:=by kernel_rfl
 f99:=Tryz.func96.trans (congrArg some (by kernel_rfl))
 f105:=Tryz.func73.trans (congrArg some (by kernel_rfl))
 f165:=Tryz.func97.trans (congrArg some (by kernel_rfl))
 f166:=Tryz.func74.trans (congrArg some (by kernel_rfl))
 f169:=Tryz.func75.trans (congrArg some (by kernel_rfl))
 f170:=Tryz.func98.trans (congrArg some (by kernel_rfl))
 f206:=Tryz.func119.trans (congrArg some (by kernel_rfl))
 f212:=Tryz.func95.trans (congrArg some (by kernel_rfl))
 f240:=Tryz.func99.trans (congrArg some (by kernel_rfl))
 f241:=Tryz.func120.trans (congrArg some (by kernel_rfl))
 f263:=Tryz.func118.trans (congrArg some (by kernel_rfl))
 f264:=Tryz.func59.trans (congrArg some (by kernel_rfl))
 f276:=Tryz.func121.trans (congrArg some (by kernel_rfl))
 f277:=Tryz.func145.trans (congrArg some (by kernel_rfl))
 t0:=Tryz.underlying0
 a0:=Tryz.isAgg0
 z0:=Tryz.sizeOf0
 v0:=Tryz.zeroValue0
 t3:=Tryz.underlying3
 a3:=Tryz.isAgg3
 z3:=Tryz.sizeOf3
 v3:=Tryz.zeroValue3
 t4:=Tryz.underlying4
 a4:=Tryz.isAgg4
 z4:=Tryz.sizeOf4
 v4:=Tryz.zeroValue4
 t5:=Tryz.underlying5
 a5:=Tryz.isAgg5
 z5:=Tryz.sizeOf5
 v5:=Tryz.zeroValue5
 t9:=Tryz.underlying9
 a9:=Tryz.isAgg9
 z9:=Tryz.sizeOf9
 v9:=Tryz.zeroValue9
 t20:=Tryz.underlying20
 a20:=Tryz.isAgg20
 z20:=Tryz.sizeOf20
 v20:=Tryz.zeroValue20
 t37:=Tryz.underlying23
 a37:=Tryz.isAgg23
 z37:=Tryz.sizeOf23
 v37:=Tryz.zeroValue23
 t46:=Tryz.underlying168
 a46:=Tryz.isAgg168
 z46:=Tryz.sizeOf168
 v46:=Tryz.zeroValue168
 t51:=Tryz.underlying171
 a51:=Tryz.isAgg171
 z51:=Tryz.sizeOf171
 v51:=Tryz.zeroValue171
 t53:=Tryz.underlying119
 a53:=Tryz.isAgg119
 z53:=Tryz.sizeOf119
 v53:=Tryz.zeroValue119
 t70:=Tryz.underlying148
 a70:=Tryz.isAgg148
 z70:=Tryz.sizeOf148
 v70:=Tryz.zeroValue148
 t72:=Tryz.underlying150
 a72:=Tryz.isAgg150
 z72:=Tryz.sizeOf150
 v72:=Tryz.zeroValue150
 t75:=Tryz.underlying152
 a75:=Tryz.isAgg152
 z75:=Tryz.sizeOf152
 v75:=Tryz.zeroValue152
 t76:=Tryz.underlying153
 a76:=Tryz.isAgg153
 z76:=Tryz.sizeOf153
 v76:=Tryz.zeroValue153
 t109:=Tryz.underlying175
 a109:=Tryz.isAgg175
 z109:=Tryz.sizeOf175
 v109:=Tryz.zeroValue175
 t127:=Tryz.underlying179
 a127:=Tryz.isAgg179
 z127:=Tryz.sizeOf179
 v127:=Tryz.zeroValue179
 t146:=Tryz.underlying201
 a146:=Tryz.isAgg201
 z146:=Tryz.sizeOf201
 v146:=Tryz.zeroValue201
 t148:=Tryz.underlying129
 a148:=Tryz.isAgg129
 z148:=Tryz.sizeOf129
 v148:=Tryz.zeroValue129
 t164:=Tryz.underlying203
 a164:=Tryz.isAgg203
 z164:=Tryz.sizeOf203
 v164:=Tryz.zeroValue203 }
theorem Tryz.Builder_Extra_105:Builder.Extra Tryz.prog Tryz.lays105_ren:={
 sizeBuilder:=by kernel_rfl
 liesBuilder:=by kernel_rfl
 t5:=Tryz.underlying5
 a5:=Tryz.isAgg5
 z5:=Tryz.sizeOf5
 v5:=Tryz.zeroValue5
 infoByte:=by kernel_rfl
 cellsByte:=by kernel_rfl
 sizeByte:=by kernel_rfl
 neB5:=by decide }
end Go.Proofs
namespace Go.Eng
open Go.Proofs Go.RowKit Go.Shelf
theorem writes:Z3q Tryz.prog 74 150 5:=fun B b bs s w h hl hB=>Any.Builder_WriteString { Tryz.lays105 with } Tryz.Builder_Extra_105 B b bs s w h hl hB
theorem tells:Tells Tryz.prog 75 150 5:=fun B b l w h hB=>Any.Builder_String_any { Tryz.lays105 with } Tryz.Builder_Extra_105 B b l w h hB
end Go.Eng
namespace Go.Eng
open Go.Proofs Go.RowKit
theorem Zju (l:List UInt8) (c:Nat):Lib.repeatL l c=(List.replicate c l).flatten:=by
 induction c with
 | zero=>rfl
 | succ c ih=>simp [Lib.repeatL,List.replicate_succ,ih]
theorem ZDx {b:World} {a:Zb} (hv:VIn a b) {f:List Value} {s:List UInt8} (k:Rep.rel Zbb a f s) {g:List Value} {c:Int} (l:Rep.rel (Zc .i64) a g c) {z:List UInt8} (hm:ZBg s c=some z) :
  Ret Tryz.prog 73 #[Zbb.val f,(Zc .i64).val g] b a (fun y v'=>∃ h,y=Zbb.val h∧Zbb.rel v' h z):=by
 obtain ⟨rfl,hs⟩:=k;obtain ⟨rfl,hc⟩:=l;unfold ZBg at hm;split at hm
 ·rename_i hh
  cases hm
  obtain ⟨C,rfl⟩:=Int.eq_ofNat_of_zero_le hh.1;have hc:=Zpb.1 hc;have d:=hh.2;rw [Int.toNat_natCast] at d;have:=Any.strings_Repeat Tryz.lays105 Tryz.Builder_Extra_105 (Zw s) C b (by omega) (by rw [Zad];exact d);refine Calls.mono this fun e w' ⟨i,j⟩=>?_;have m:(⟨(Lib.repeatL (Zw s).data.toList C).toArray⟩:ByteArray)=Zw (List.replicate C s).flatten:=by
   rw [Zju];rfl
  rw [m] at i;exact ⟨_,a,i,j,VStep.ext hv j,[.string (Zw (List.replicate C s).flatten)],rfl,rfl,by simp only [Int.toNat_natCast];rw [List.length_flatten];simp;unfold maxLen;rw [Nat.mul_comm] at d;omega⟩
 ·cases hm
theorem text_w {e:World} {c:Zb} (hv:VIn c e) {c0:List Value} {a:Nat} (p0:Rep.rel Zu c c0 a) {z:(List UInt8)} (H:Zci a=some z):Ret Tryz.prog 50 #[Zu.val c0] e c (fun y v'=>∃ r0,y=Zbb.val r0∧Zbb.rel v' r0 z):=by
 obtain ⟨q1,n2,k3,rfl⟩:=Zua p0;refine Ztb (K:=49) (args:=[.slice q1 n2 k3]) hv Tryz.func50 rfl rfl zl fun f S=>?_;unfold Zci at H;refine sr (mw S rfl fun f S=>oe (sr ?_));have S:=S.nilLoc 9 1;refine ov S rfl (ZLc S (y:=.slice (mkA none) 0 0) rfl) fun f S=>oe (Zn fun _ ar=>?_);obtain ⟨au,av,ax⟩:=Z0 H;refine Zmb (fun f w=>∃ o F s G U I,o=au∧Zb.le c I∧St 49 e c [(3,.slice (mkA F) s G)] [Loc.own F 9 1 s G U] I f w∧Rep.rels Zbb I U o∧s=o.length) (fun _ ay=>?_) ?_
 ·have H:=av;refine wp_block ?_;obtain ⟨bt,az,aA⟩:=Z0 H;refine Z7d az (fun aB f w=>∃ J g L M N p h q k t,(J,g)=aB∧Zb.le c t∧St 49 e c [(0,.slice L M N),(3,.slice (mkA p) h q)] [Loc.own p 9 1 h q k] t f w∧Rep.rel Zu t [.slice L M N] J∧Rep.rels Zbb t k g∧h=g.length) ⟨_,_,_,_,_,none,0,0,[],_,rfl,(leR _),(S.fr' rfl),p0,Zdf,rfl⟩ ?_;rintro _ f w st ⟨J,g,L,M,N,p,h,q,k,t,hq,ac,S,ad,d,ae⟩ H bu aC aD;subst hq;refine Zn fun _ aE=>sr (mv S rfl fun f S=>ov S rfl (Z6b S (Zdb ad) rfl rfl Zga) fun f S=>ov S rfl (Zr S rfl rfl Z7e) fun f S=>oe ?_);rcases Z3 (decide ((0:Int)<(((Zd 18446744073709551616 J)).length:Int))) with u | u
  ·have H:=Z2 H u;refine Zda S rfl u (wp_skip (Zg (aE _ _ (wp_block (Zn fun _ aF=>bO H fun O aG H=>Zz (mv S rfl fun f S=>opc S rfl (ZJ S [.slice L M N,.int .u64 10000000000000000000] Zzp rfl rfl) (Zor S.vin ad (show Rep.rel (Zc .u64) _ [.int .u64 10000000000000000000] (10000000000000000000:Int) from (ZE (by decide))) aG) ?_))))));rintro _ bv f w af ⟨bw,bx,rfl,m,aH⟩ S;have d:=ZP af d;obtain ⟨aI,aJ,aK,rfl⟩:=Zua m;obtain ⟨rfl,aL⟩:=aH;refine mv S rfl fun f S=>ov S rfl (Z8 S rfl rfl) fun f S=>ov S rfl (Z8 S rfl rfl) fun f S=>mw S rfl fun f S=>mw S rfl fun f S=>Zx (Zg (aF _ _ (Zn fun _ aM=>bO H fun bz aN H=>Zz (mv S rfl fun f S=>opc S rfl (ZJ S [.int .u64 (O.2)] k_en72 rfl rfl) (ZGt S.vin (show Rep.rel (Zc .u64) _ [.int .u64 (O.2)] O.2 from (ZE aL)) aN) ?_))));rintro _ aO f w V ⟨bA,rfl,aP⟩ S;have d:=ZP V d;obtain ⟨rfl,aQ⟩:=aP;refine mw S rfl fun f S=>Zx (Zg (aM _ _ (Zn fun _ aR=>sr (mv S rfl fun f S=>?_))));have m:=ZBa V m;refine ov S rfl (Z6b S (Zdb m) rfl rfl Zga) fun f S=>ov S rfl (Zr S rfl rfl Z7e) fun f S=>oe ?_;obtain ⟨aS,aT,aU⟩:=Z0 H;refine Zmb (fun f w=>∃ b P,b=aS∧Zb.le aO P∧St 49 e c [(3,.slice (mkA p) h q),(4,.slice aI aJ aK),(6,.string (Zw b))] [Loc.own p 9 1 h q k] P f w∧b.length≤maxLen) (fun _ ag=>?_) ?_
   ·have H:=aT;rcases Z3 (decide ((0:Int)<(((Zd 18446744073709551616 O.1)).length:Int))) with v | v
    ·have H:=Z2 H v;refine Zda S rfl v (bO H fun W ah H=>bO H fun bB aV H=>bO H fun bC ai H=>Zz (mv S rfl fun f S=>ov S rfl (ZUq S rfl rfl Tryz.underlying9) fun f S=>ov S rfl (Zr S rfl rfl (Zrb ah)) fun f S=>opc S rfl (ZJ S [.string (Zw (([48]:List UInt8))),.int .i64 W] k_en73 rfl rfl) (ZDx S.vin (show Rep.rel Zbb _ [.string (Zw (([48]:List UInt8)))] (([48]:List UInt8)) from (ZCh zl)) (show Rep.rel (Zc .i64) _ [.int .i64 W] W from (ZE (ZZa ah).2)) aV) ?_));rintro _ bD f w aj ⟨bE,rfl,aW⟩ S;have d:=ZP aj d;obtain ⟨rfl,bG⟩:=aW;refine mv S rfl fun f S=>ov S rfl (ZFi S rfl rfl (ZLp ai)) fun f S=>mw S rfl fun f S=>Zx ?_;obtain rfl:=Zt H;refine Zg (ag _ _ ⟨_,_,rfl,(leT (leR _) aj),(S.fr' rfl),(Zyk ai)⟩)
    have H:=Z4 H v;refine ZV S rfl v (wp_skip ?_);obtain rfl:=Zt H;refine Zg (ag _ _ ⟨_,_,rfl,(leR _),(S.fr' rfl),aQ⟩)
   rintro f w ⟨b,P,hq,X,S,aX⟩;subst hq;have H:=aU;have d:=ZP X d;refine Zg (aR _ _ (bO H fun bH aY H=>Zz (mv S rfl fun f S=>mv S rfl fun f S=>?_)));obtain ⟨bI,w,aZ,S⟩:=ZNg S (n:=1) (cs:=[.string (Zw b)]) (vals:=[(0,.string (Zw b))]) (sz:=1) rfl (by decide) (Z5n ZFo (x:=.string (Zw b)) (cs:=[.string (Zw b)]) rfl rfl (by decide));have Y:Rep.rels Zbb P [.string (Zw b)] [b]:=(Zip (ZCh aX) Zdf);refine ZIc wn rfl zl (aZ rfl) S fun f S=>?_;have a0:=S;obtain ⟨ak,al,w,a1,S⟩:=Znj (ty:=143) ZFo S (i:=1) (n':=(g++[b]).length) rfl (Zie Y rfl) (ZZf S (j:=0) rfl) (ZIg Y) (appN ae rfl) (ZXd aY) (by decide);have a2:=Zcc d Y;refine ZIc wn rfl zl (Zhe a0 rfl rfl a1) S fun f S=>mv S rfl fun f S=>mw S rfl fun f S=>mw S rfl fun f S=>Zx (ZRc ?_);obtain rfl:=Zt H;have S:=S.reorder (ℓ':=[Loc.own ak 9 1 ((g++[b]).length) al ((k++[.string (Zw b)]))]) [1] rfl (by decide);have m:=ZBa X m;refine aC _ rfl _ _ ⟨_,_,_,_,_,ak,(g++[b]).length,al,(k++[.string (Zw b)]),_,rfl,(leT (leT (leT ac af) V) X),(S.fr' rfl),m,a2,rfl⟩
  have H:=Z4 H u;refine ZV S rfl u (wp_exit (Zgb ?_));obtain rfl:=Zt H;have hq:=aD _ rfl;subst hq;have H:=aA;refine Zgb (ZMd ?_);obtain rfl:=Zt H;refine Zg (ay _ _ ⟨_,p,h,q,k,_,rfl,(leT (leR _) ac),(S.fr' rfl),d,ae⟩)
 rintro f w ⟨o,F,s,G,U,I,hq,bJ,S,a3,am⟩;subst hq;have H:=ax;refine Zg (ar _ _ (Zn fun _ a4=>sr (mv S rfl fun f S=>ov S rfl (Z6b S am rfl rfl ZOl) fun f S=>ov S rfl (Zr S rfl rfl ZRf) fun f S=>oe ?_)));rcases Z3 (((o.length:Int))==(0:Int)) with B | B
 ·have H:=Z2 H B;refine Zda S rfl B (sr (mw S rfl fun f S=>oe (wp_ret (ZHb ?_))));obtain rfl:=Zt H;refine Zka S (ZHa rfl (ZK S rfl)) ⟨[.string (Zw (([48]:List UInt8)))],rfl,(ZCh zl)⟩
 have H:=Z4 H B;refine ZV S rfl B (wp_skip (Zg (a4 _ _ (sr ?_))));obtain ⟨an,bK,S,C⟩:=S.pubSlice (i:=0) (A:=Zbb) (l:=o) (ℓ':=[]) rfl rfl am a3 rfl;refine op_newB 5 S wn rfl zl (Zmg k_zv150) fun r f w S a5=>oe (Zn fun _ a6=>Zn fun _ a7=>bO H fun bM ao H=>Zz (mv S rfl fun f S=>ov S rfl (Z6b S (Zdb C) rfl rfl ZOl) fun f S=>ov S rfl (Zr S rfl rfl (Zrb ao)) fun f S=>mw S rfl fun f S=>Zx (Zg (a7 _ _ ?_))));obtain ⟨a8,a9,ba⟩:=Z0 H;refine Zmb (fun f w=>∃ Q R,Q=a8∧Zb.le an R∧St 49 e c [(7,.pointer (some ⟨r,0,none⟩))] [] R f w∧Bld 150 5 r e R Q w) (fun _ bb=>?_) ?_
 ·have H:=a9;refine wp_block ?_;obtain ⟨bP,bc,bd⟩:=Z0 H;refine Z7d bc (fun be f w=>∃ Z D T,(Z,D)=be∧Zb.le an T∧St 49 e c [(3,.slice (mkA F) s G),(7,.pointer (some ⟨r,0,none⟩)),(8,.int .i64 D)] [] T f w∧Bld 150 5 r e T Z w∧inR .i64 D) ⟨_,_,_,rfl,(leR _),(S.fr' rfl),a5,(ZZa ao).2⟩ ?_;rintro _ f w st ⟨Z,D,T,hq,aa,S,ap,bQ⟩ H bR bf bg;subst hq;refine Zn fun _ bh=>sr (mv S rfl fun f S=>ov S rfl (Zr S rfl rfl Zjh) fun f S=>oe ?_);rcases Z3 (decide ((0:Int)≤D)) with E | E
  ·have H:=Z2 H E;refine Zda S rfl E (wp_skip (Zg (bh _ _ (Zn fun _ bi=>wp_block (bO H fun bj ab H=>bO H fun bS bk H=>Zz (mv S rfl fun f S=>mv S rfl fun f S=>?_))))));have C:=ZBa aa C;obtain ⟨_,bT,bU,bV,bm,bn,bo⟩:=Zsc C (Zp ab).2.1;obtain ⟨rfl,rfl⟩:=Zxv bm;obtain ⟨rfl,bW⟩:=bo;refine ov S rfl (Zra S rfl rfl ZOl (Zp ab).1 (ltI (Zdb C) (Zp ab).2.2.1)) fun f S=>ov S rfl (Zib S rfl k_sz9 (S.view bn)) fun f S=>Z6u writes ap (Z8w bk) S wn rfl zl (ZJ S [.pointer (some ⟨r,0,none⟩),.string (Zw bj)] k_en74 rfl rfl) fun f w S bp=>Zx (ZRc (Zg (bi _ _ (bO H fun bX aq H=>Zz (mv S rfl fun f S=>ov S rfl (Zr S rfl rfl (Zrb aq)) fun f S=>mw S rfl fun f S=>Zx ?_)))));obtain rfl:=Zt H;refine bf _ rfl _ _ ⟨_,_,_,rfl,aa,(S.fr' rfl),bp,(ZZa aq).2⟩
  have H:=Z4 H E;refine ZV S rfl E (wp_exit (Zgb ?_));obtain rfl:=Zt H;have hq:=bg _ rfl;subst hq;have H:=bd;refine Zgb (ZMd ?_);obtain rfl:=Zt H;refine Zg (bb _ _ ⟨_,_,rfl,(leT (leR _) aa),(S.fr' rfl),ap⟩)
 rintro f w ⟨Q,R,hq,bY,S,bq⟩;subst hq;have H:=ba;refine Zg (a6 _ _ (Zn fun _ br=>bO H fun bZ bs H=>Zz (op_tell tells bq S wn rfl zl (ZJ S [.pointer (some ⟨r,0,none⟩)] k_en75 rfl rfl) fun f w S=>mw S rfl fun f S=>Zx (Zg (br _ _ (wp_ret ?_))))));obtain rfl:=Zt H;refine Zka S (ZHa rfl (ZK S rfl)) ⟨[.string (Zw Q)],rfl,(ZCh (Zyk bs))⟩
theorem text_c {c:World} {b:Zb} (hv:VIn b c) {d:List Value} {a:Nat} (f:Rep.rel Zu b d a) {z:(List UInt8)} (hm:Zuf a=some z) :
  Ret Tryz.prog 50 #[Zu.val d] c b (fun y v'=>∃ e,y=Zbb.val e∧Zbb.rel v' e z) :=
 text_w hv f (ZDu hm)
end Go.Eng
set_option maxRecDepth 100000
set_option maxHeartbeats 4000000
namespace Go.Eng
open Go.Proofs Go.RowKit
noncomputable def Zvl:FuncId×Con:=(50,⟨[.leaf 0],[.str],fun p=>Zuf p⟩)
theorem text_k:ZId Tryz.prog Zvl.1 Zvl.2:=fun w v vals x z hv ha hz=>by
 obtain ⟨c0,e0,p0⟩:=ha;subst e0
 exact .inl ⟨fun _ _=>by kernel_rfl,Ret.mono (text_c hv p0 hz) fun y v' _ ⟨r0,e,h0⟩=>⟨r0,e,h0⟩⟩
end Go.Eng
set_option maxRecDepth 100000
set_option maxHeartbeats 4000000
namespace Go.Eng
open Go.Proofs Go.RowKit
noncomputable def Zyo:FuncId×Con:=(26,⟨[.leaf 3],[.str],fun p=>Zaf p⟩)
theorem qtext_k:KQ Zyo:=ZA (Z6 (C:=cf0 [Zvl] [] [] []) (.n (.n (.two (.n (.j [1] [] [.s 3 (.dat .str)] .no)) (.f (.n (.j [] [] [.s 3 (.dat .str)] .no)))))) Tryz.func26 [] (fun v vals x z ha hz=>.trans (by kernel_rfl) (Zbx hz)) ⟨text_k,tr⟩)
end Go.Eng
set_option maxRecDepth 100000
set_option maxHeartbeats 4000000
namespace Go.Eng
open Go.Proofs Go.RowKit
noncomputable def ZJp:FuncId×Con:=(6,⟨[],[.bool],fun _=>Zsg⟩)
theorem Z2w:KQ ZJp:=ZA (Zea (C:=cf0 [Zxe,Z4l,ZDs,Zyo] [] [] []) (.n (.n (.n (.n (.f (.j [] [] [.s 0 (.dat .bool)] .no)))))) Tryz.func6 [] (fun _=>by kernel_rfl) ⟨ZGf,Z4n,Reach_k,qtext_k,tr⟩)
end Go.Eng
set_option maxRecDepth 100000
set_option maxHeartbeats 4000000
namespace Go.Eng
open Go.Proofs Go.RowKit
noncomputable def Z2p:FuncId×Con:=(36,⟨[.int .i64,.int .i64],[.leaf 3,.int .i64],fun p=>ZEh p.1 p.2⟩)
theorem qnew_k:KQ Z2p:=ZA (Z6 (C:=cf0 [of_q,Zcg,ZCe] [] [] []) .no Tryz.func36 [] (fun v vals x z ha hz=>by obtain ⟨c0,w0,e0,p0,c1,e1,p1⟩:=ha;exact .trans (by kernel_rfl) (ZYt p0.2 p1.2 hz)) ⟨of_k,ZCk,ZPg,tr⟩)
end Go.Eng
set_option maxRecDepth 100000
set_option maxHeartbeats 4000000
namespace Go.Eng
open Go.Proofs Go.RowKit
noncomputable def Zrj:FuncId×Con:=(14,⟨[.pair (.int .i64) (.int .i64)],[.leaf 3],fun p=>ZQd p⟩)
theorem Zpl:KQ Zrj:=ZA (Z6 (C:=cf0 [Zxe,Z2p] [] [] []) .no Tryz.func14 [] (fun v vals x z ha hz=>.trans (by kernel_rfl) (Zwu hz)) ⟨ZGf,qnew_k,tr⟩)
end Go.Eng
set_option maxRecDepth 100000
set_option maxHeartbeats 4000000
namespace Go.Eng
open Go.Proofs Go.RowKit
noncomputable def ZBs:FuncId×Con:=(7,⟨[.pair (.int .u8) (.pair (.int .u8) (.pair (.int .u8) (.int .u8))),.int .u8],[.pair (.leaf 3) (.slice (.pair (.leaf 3) (.leaf 3))),.slice (.leaf 3)],fun p=>ZCi p.1 p.2⟩)
theorem Z3v:KQ ZBs:=ZA (Zea (C:=cf0 [Zxe,Zrj] [200039] [] []) (.n (.n (.n (.n (.f (.n (.f (.l [2,4,6,7,27,28] [] [.s 29 (.dat (.int .i64)),.l (.sl 7) (.box 35 (.agg (.cons (.dat (.leaf 3)) (.one (.own 50 (.pair (.leaf 3) (.leaf 3)))))))] 0 [4,6,7] [] [.l (.sl 7) (.box 35 (.agg (.cons (.dat (.leaf 3)) (.one (.own 50 (.pair (.leaf 3) (.leaf 3)))))))] (.f (.n (.n (.f (.f (.n (.j [2,4,6,7,27,28,29] [.fld (.sl 7) 3] [.l (.sl 7) (.box 35 (.agg (.cons (.dat (.leaf 3)) (.one (.own 50 (.pair (.leaf 3) (.leaf 3)))))))] .no))))))))))))))) Tryz.func7 [] (fun _=>by kernel_rfl) ⟨ZGf,Zpl,tr⟩)
end Go.Eng
set_option maxRecDepth 100000
set_option maxHeartbeats 4000000
namespace Go.Eng
open Go.Proofs Go.RowKit
noncomputable def Zhn:FuncId×Con:=(28,⟨[.slice (.pair (.leaf 3) (.pair (.leaf 3) (.pair (.leaf 3) (.leaf 3))))],[.int .i64],fun p=>Zlh p⟩)
theorem ZKo:KQ Zhn:=ZA (Zea (C:=cf0 [Zzc] [] [] []) (.n (.two (.f (.j [0] [] [.s 12 (.dat .bool)] .no)) (.f (.n (.cut ⟨⟨[],[],[]⟩,[(.norm,⟨[],[],[]⟩),(.ret,⟨[],[],[.s 1000 (.dat (.int .i64))]⟩)]⟩ (.f (.cut ⟨⟨[13,14],[],[.s 15 (.dat (.int .i64))]⟩,[(.ret,⟨[],[],[.s 1000 (.dat (.int .i64))]⟩),(.exit 0,⟨[],[],[]⟩)]⟩ (.f (.n (.n (.f (.f (.n (.f (.j [13,14,15] [] [.s 40 (.dat .bool)] .no))))))))))))))) Tryz.func28 [] (fun _=>by kernel_rfl) ⟨ZSc,tr⟩)
end Go.Eng
set_option maxRecDepth 100000
set_option maxHeartbeats 4000000
namespace Go.Eng
open Go.Proofs Go.RowKit
noncomputable def ZZl:FuncId×Con:=(29,⟨[.slice (.leaf 3)],[.int .i64],fun p=>ZIh p⟩)
theorem ZRq:KQ ZZl:=ZA (Zea (C:=cf0 [Zbe,Zzc] [] [] []) (.n (.two (.f (.j [0] [] [.s 12 (.dat .bool)] .no)) (.f (.n (.cut ⟨⟨[],[],[]⟩,[(.norm,⟨[],[],[]⟩),(.ret,⟨[],[],[.s 1000 (.dat (.int .i64))]⟩)]⟩ (.f (.cut ⟨⟨[0,13,14],[],[.s 15 (.dat (.int .i64))]⟩,[(.ret,⟨[],[],[.s 1000 (.dat (.int .i64))]⟩),(.exit 0,⟨[],[],[]⟩)]⟩ (.f (.n (.n (.f (.f (.n (.n (.f (.j [0,13,14,15] [] [.s 34 (.dat .bool)] .no)))))))))))))))) Tryz.func29 [] (fun _=>by kernel_rfl) ⟨Zcf,ZSc,tr⟩)
end Go.Eng
set_option maxRecDepth 100000
set_option maxHeartbeats 4000000
namespace Go.Eng
open Go.Proofs Go.RowKit
noncomputable def Zyl:FuncId×Con:=(44,⟨[.slice (.leaf 3)],[.int .i64],fun p=>Zre p⟩)
theorem Zdp:KQ Zyl:=ZA (Zea (C:=cf0 [Zzc] [] [] []) (.n (.two (.f (.j [0] [] [.s 12 (.dat .bool)] .no)) (.f (.n (.f (.cut ⟨⟨[13,14],[],[.s 15 (.dat (.int .i64))]⟩,[(.exit 0,⟨[],[],[]⟩),(.ret,⟨[],[],[.s 1000 (.dat (.int .i64))]⟩)]⟩ .no)))))) Tryz.func44 [] (fun _=>by kernel_rfl) ⟨ZSc,tr⟩)
end Go.Eng
set_option maxRecDepth 100000
set_option maxHeartbeats 4000000
namespace Go.Eng
open Go.Proofs Go.RowKit
noncomputable def Zpq:FuncId×Con:=(65,⟨[.leaf 3],[.leaf 3],fun p=>Zxi p⟩)
theorem rsize_k:KQ Zpq:=ZA (Zea (C:=cf0 [Zzc,ZYd] [] [] []) .no Tryz.func65 [] (fun _=>by kernel_rfl) ⟨ZSc,ZJe,tr⟩)
end Go.Eng
set_option maxRecDepth 100000
set_option maxHeartbeats 4000000
namespace Go.Eng
open Go.Proofs Go.RowKit
noncomputable def ZCs:FuncId×Con:=(41,⟨[.pair (.leaf 3) (.slice (.pair (.leaf 3) (.leaf 3))),.slice (.pair (.leaf 3) (.pair (.leaf 3) (.pair (.leaf 3) (.leaf 3))))],[.leaf 3],fun p=>ZXf p.1 p.2⟩)
theorem ZWx:KQ ZCs:=ZA (Zea (C:=cf0 [Zbe,Zue,Zse,ZGl,Zpq] [200038] [] []) (.n (.n (.f (.n (.f (.l [2,4,5,14,15] [] [.s 16 (.dat (.int .i64)),.l (.sl 5) (.box 32 (.dat (.leaf 3)))] 0 [4,5] [] [.l (.sl 5) (.box 32 (.dat (.leaf 3)))] (.f (.n (.n (.f (.f (.n (.n (.n (.f (.l [2,4,5,7,14,15,16,35] [] [.s 36 (.dat (.int .i64)),.l (.sl 5) (.box 32 (.dat (.leaf 3)))] 2 [2,4,5,14,15,16] [] [.l (.sl 5) (.box 32 (.dat (.leaf 3)))] (.f (.n (.n (.f (.f (.two (.j [2,4,5,7,14,15,16,35,36] [] [.s 11 (.box 32 (.dat (.leaf 3)))] .no) (.n (.n (.j [2,4,5,7,14,15,16,35,36] [] [.l (.sl 5) (.box 32 (.dat (.leaf 3)))] .no))))))))))))))))))))))))) Tryz.func41 [] (fun _=>by kernel_rfl) ⟨Zcf,ZLf,ZJf,Z2o,rsize_k,tr⟩)
end Go.Eng
set_option maxRecDepth 100000
set_option maxHeartbeats 4000000
namespace Go.Eng
open Go.Proofs Go.RowKit
noncomputable def Zak:FuncId×Con:=(78,⟨[.slice (.slice (.leaf 3))],[.int .i64],fun p=>Zyg p⟩)
theorem ZFl:KQ Zak:=ZA (Zea (C:=cf0 [] [] [] []) .no Tryz.func78 [] (fun _=>by kernel_rfl))
end Go.Eng
set_option maxRecDepth 100000
set_option maxHeartbeats 4000000
namespace Go.Eng
open Go.Proofs Go.RowKit
noncomputable def ZGs:FuncId×Con:=(100,⟨[.slice (.slice (.leaf 3))],[.bool],fun p=>Zhk p⟩)
theorem ZUv:KQ ZGs:=ZA (Zea (C:=cf0 [Zak] [] [] []) (.n (.n (.f (.j [] [] [.s 2 (.dat .bool)] .no)))) Tryz.func100 [(122,Tryz.f122,.no),(123,Tryz.f123,.no),(146,Tryz.f146,.r [] [] [.s 1000 (.dat (.int .i64))] (.n (.f (.n (.f (.cut ⟨⟨[0,1,7],[],[.s 8 (.dat (.int .i64))]⟩,[(.exit 0,⟨[],[],[]⟩),(.ret,⟨[],[],[.s 1000 (.dat (.int .i64))]⟩)]⟩ .no))))))] (fun _=>by kernel_rfl) ⟨ZFl,tr⟩ tr tr ⟨⟨Tryz.func122,fun _ _=>by kernel_rfl⟩,⟨Tryz.func123,fun _ _=>by kernel_rfl⟩,⟨Tryz.func146,fun _ _=>by kernel_rfl⟩,tr⟩)
end Go.Eng
set_option maxRecDepth 100000
set_option maxHeartbeats 4000000
namespace Go.Eng
open Go.Proofs Go.RowKit
noncomputable def Zes:FuncId×Con:=(76,⟨[.slice (.slice (.leaf 3)),.slice (.leaf 3),.slice (.leaf 3)],[.bool],fun p=>Zuj p.1 p.2.1 p.2.2⟩)
theorem ZHw:KQ Zes:=ZA (Zea (C:=cf0 [Zak,ZGs] [] [] []) (.n (.f (.j [] [] [.s 6 (.dat .bool)] .no))) Tryz.func76 [] (fun _=>by kernel_rfl) ⟨ZFl,ZUv,tr⟩)
end Go.Eng
set_option maxRecDepth 100000
namespace Go.Eng
open Go.Proofs Go.RowKit
theorem ZWn : ∀ y w, (method (Tryz.prog.types.size + Made.depth) 32 y "Add").run Tryz.prog w = .ok (12, y) w := fun _ _ => by kernel_rfl
theorem Zjs : ∀ y w, (method (Tryz.prog.types.size + Made.depth) 32 y "Cmp").run Tryz.prog w = .ok (13, y) w := fun _ _ => by kernel_rfl
theorem ZFs : ∀ y w, (method (Tryz.prog.types.size + Made.depth) 32 y "Div").run Tryz.prog w = .ok (21, y) w := fun _ _ => by kernel_rfl
theorem ZRs : ∀ y w, (method (Tryz.prog.types.size + Made.depth) 32 y "Mul").run Tryz.prog w = .ok (66, y) w := fun _ _ => by kernel_rfl
theorem Z8f : ∀ y w, (method (Tryz.prog.types.size + Made.depth) 32 y "Neg").run Tryz.prog w = .ok (38, y) w := fun _ _ => by kernel_rfl
theorem ZYv : ∀ y w, (method (Tryz.prog.types.size + Made.depth) 32 y "Of").run Tryz.prog w = .ok (169, y) w := fun _ _ => by kernel_rfl
theorem ZFk : ∀ y w, (method (Tryz.prog.types.size + Made.depth) 32 y "Sign").run Tryz.prog w = .ok (15, y) w := fun _ _ => by kernel_rfl
theorem Zgr : ∀ y w, (method (Tryz.prog.types.size + Made.depth) 32 y "Sub").run Tryz.prog w = .ok (16, y) w := fun _ _ => by kernel_rfl
theorem Zvp : ∀ y w, (method (Tryz.prog.types.size + Made.depth) 32 y "Zero").run Tryz.prog w = .ok (11, y) w := fun _ _ => by kernel_rfl
end Go.Eng
set_option maxRecDepth 100000
set_option maxHeartbeats 4000000
namespace Go.Eng
open Go.Proofs Go.RowKit
noncomputable def Zvr:FuncId×Con:=(77,⟨[.slice (.leaf 3)],[.bool],fun p=>Znk p⟩)
theorem Z2u : KQ Zvr := ZA (Zea (C := cf0 [Zzc] [] [] [((32, "Sign"), 15)]) .no Tryz.func77 [(101, Tryz.f101, .no), (102, Tryz.f102, .no), (124, Tryz.f124, .r [] [] [.s 1000 (.dat (.int .i64))] (.n (.f (.n (.f (.cut ⟨⟨[0, 1, 7], [], [.s 8 (.dat (.int .i64))]⟩, [(.exit 0, ⟨[], [], []⟩), (.ret, ⟨[], [], [.s 1000 (.dat (.int .i64))]⟩)]⟩ .no))))))] (fun _ => by kernel_rfl) ⟨ZSc, tr⟩ tr ⟨ZFk, tr⟩ ⟨⟨Tryz.func101, fun _ _ => by kernel_rfl⟩, ⟨Tryz.func102, fun _ _ => by kernel_rfl⟩, ⟨Tryz.func124, fun _ _ => by kernel_rfl⟩, tr⟩)
end Go.Eng
namespace Go.Eng
open Go.Proofs Go.RowKit
set_option maxRecDepth 100000
theorem Zzr:Elem Tryz.prog 36 32 (ZN).n 56 (Value.agg #[Value.bool false,Value.slice none 0 0,Value.slice none 0 0]):=⟨Tryz.underlying36,by kernel_rfl,rfl,by decide⟩
noncomputable def Z9h:FuncId×ConO:=(79,⟨[.slice (.leaf 3)],32,.leaf 3,fun p=>Z9b 56 p⟩)
theorem ZUl:ZBe Tryz.prog Z9h.1 Z9h.2:=fun w v vals x z hv ha hz=>by
 obtain ⟨cs,rfl,p0⟩:=ha
 have hz:Z9b 56 (show List Rat from x)=some z:=hz
 obtain ⟨hb,rfl⟩:=ZYx hz
 obtain ⟨q,n,c,rfl⟩:=ZHf (show (ZB ZN).rel v cs z from p0)
 refine ⟨fun _ _=>by kernel_rfl,?_⟩
 have hn:n=(show List Rat from z).length:=by obtain ⟨_,_,e,_⟩:=p0;cases e;rfl
 refine ZKh (K:=8) (args:=[.slice q n c]) hv Tryz.func79 rfl rfl zl fun fa hS=>?_
 refine sr ?_
 refine mw hS rfl fun fa hS=>?_
 refine oe ?_
 refine wp_seq_k fun N1 hN1=>?_
 refine sr ?_
 refine mv hS rfl fun fa hS=>?_
 refine ov hS rfl (Z6s hS Tryz.underlying36 rfl rfl) fun fa hS=>?_
 refine oe ?_
 cases q with
 | none =>
  refine Zda hS rfl rfl ?_
  have hx:(show List Rat from z)=[]:=by
   obtain ⟨q',c',e,_,_,h3⟩:=p0
   cases e
   rcases h3 with h3 | ⟨_,_,_,_,_,h4,_⟩
   ·exact h3
   ·cases h4
  have hx0:n=0:=by rw [hn,hx];rfl
  refine sr ?_;refine mw hS rfl fun fa hS=>?_;refine oe ?_;refine wp_ret ?_;refine ZHb ?_;have hS2:=hS.nilLoc 32 (ZN).n;have:=Zem (P:=Tryz.prog) (A:=ZN) hS2 (i:=0) (ob:=none) (n:=0) (cap:=0) (cs:=[]) rfl (ZHa (fn:=Tryz.f79) (r:=.tmp 2) rfl (ZK (t:=2) (y:=.slice (mkA none) 0 0) hS2 rfl)) (l:=([]:List Rat)) Zdf rfl;rw [hx];exact this
 | some ad =>
  refine ZV hS rfl rfl ?_;refine wp_skip ?_;refine Zg (hN1 _ _ ?_);refine sr ?_;obtain ⟨b,wo,hrun,hS⟩:=Zgv Zzr hS;refine ZIc wn rfl zl hrun hS fun fa hS=>?_;refine mv hS rfl fun fa hS=>?_;obtain ⟨b',cap',cs2,wo,hr,hS',hrel⟩:=Zsf (ty:=36) (A:=ZN) Zzr hS (i:=0) rfl (Rep.mono (ZB ZN) hS.vst.le p0) (n':=n) (by omega) (by rw [hn];exact hb) (by decide);refine ZIc wn rfl zl (Zhe hS rfl rfl hr) hS' fun fa hS=>?_;refine mw hS rfl fun fa hS=>?_;refine oe ?_;refine wp_ret ?_;exact Zem hS (i:=0) rfl (ZHa rfl (ZK hS rfl)) hrel hn
end Go.Eng
set_option maxRecDepth 100000
set_option maxHeartbeats 4000000
namespace Go.Eng
open Go.Proofs Go.RowKit
noncomputable def Zxp:FuncId×ConO:=(80,⟨[.slice (.leaf 3)],32,.leaf 3,fun p=>Zqh p⟩)
theorem Zcx : KO Zxp := ZNr (C := cf0 [ZYd] [] [] [((32, "Neg"), 38)]) (.n (.n (.f (.n (.f (.l [6, 7] [] [.s 3 (.own 32 (.leaf 3)), .s 8 (.dat (.int .i64))] 0 [] [] [.s 3 (.own 32 (.leaf 3))] .no)))))) Tryz.func80 [] (fun _ => by kernel_rfl) ⟨ZJe, tr⟩ tr ⟨Z8f, tr⟩
end Go.Eng
set_option maxRecDepth 100000
set_option maxHeartbeats 4000000
namespace Go.Eng
open Go.Proofs Go.RowKit
noncomputable def qOf_q:FuncId×Con:=(169,⟨[.leaf 3,.leaf 3],[.leaf 3],fun p=>qOf_m p.1 p.2⟩)
theorem qOf_k:KQ qOf_q:=ZA (Zea (C:=cf0 [] [] [] []) .no Tryz.func169 [] (fun _=>by kernel_rfl))
end Go.Eng
set_option maxRecDepth 100000
set_option maxHeartbeats 4000000
namespace Go.Eng
open Go.Proofs Go.RowKit
noncomputable def ZAf:FuncId×Con:=(82,⟨[.int .i64],[.leaf 3],fun p=>ZDb p⟩)
theorem Zjg : KQ ZAf := ZA (Zea (C := cf0 [Zxe, qOf_q] [] [] [((32, "Of"), 169)]) .no Tryz.func82 [] (fun _ => by kernel_rfl) ⟨ZGf, qOf_k, tr⟩ tr ⟨ZYv, tr⟩)
noncomputable def Z4j (x:Int) (y:Int):Option (Int×Int) :=
 bnd (ZBc x y) fun a =>
 some ((a.1,a.2))
end Go.Eng
namespace Go.Eng
open Go.Proofs Go.RowKit
theorem bmul_w {c:World} {a:Zb} (hv:VIn a c) {d:List Value} {x:Int} (i:Rep.rel (Zc .u64) a d x) {e:List Value} {y:Int} (j:Rep.rel (Zc .u64) a e y) {z:Int×Int} (H:Z4j x y=some z):Ret Tryz.prog 95 #[(Zc .u64).val d,(Zc .u64).val e] c a (fun y v'=>∃ g b,y = .tuple #[(Zc .u64).val g,(Zc .u64).val b]∧(Zc .u64).rel v' g z.1∧(Zc .u64).rel v' b z.2):=by
 obtain ⟨rfl,b⟩:=i;obtain ⟨rfl,k⟩:=j;refine Ztb (K:=30) (args:=[.int .u64 x,.int .u64 y]) hv Tryz.func95 rfl rfl zl fun f S=>?_;unfold Z4j at H;refine sr (mw S rfl fun f S=>mw S rfl fun f S=>oe (Zn fun _ l=>ZV S rfl rfl (wp_skip (Zg (l _ _ (Zn fun _ m=>bO H fun h n H=>Zz (mv S rfl fun f S=>mv S rfl fun f S=>opc S rfl (ZJ S [.int .u64 x,.int .u64 y] Z9m rfl rfl) (ZSm S.vin (show Rep.rel (Zc .u64) _ [.int .u64 x] x from (ZE b)) (show Rep.rel (Zc .u64) _ [.int .u64 y] y from (ZE k)) n) ?_)))))));rintro _ s f w t ⟨u,v,rfl,o,p⟩ S;obtain ⟨rfl,q⟩:=o;obtain ⟨rfl,r⟩:=p;refine mv S rfl fun f S=>ov S rfl (Z8 S rfl rfl) fun f S=>ov S rfl (Z8 S rfl rfl) fun f S=>mw S rfl fun f S=>mw S rfl fun f S=>Zx (Zg (m _ _ (sr (mv S rfl fun f S=>mv S rfl fun f S=>mw S rfl fun f S=>mw S rfl fun f S=>oe (wp_ret ?_)))));obtain rfl:=Zt H;refine Zka S (Zkc rfl (ZK S rfl) (ZK S rfl)) ⟨[.int .u64 (h.1)],[.int .u64 (h.2)],rfl,(ZE q),(ZE r)⟩
end Go.Eng
