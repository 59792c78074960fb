/- Lemmas towards the statement: the engine of the walks, the functions' models, laws and walks, part 6. Conditions: as each states. -/
import Derived.Test.YtcalobhmejkdiaaGreatProg
import Derived.Test.YtcalobhmejkdiaaGreatLlE
set_option linter.all false
set_option maxRecDepth 100000
namespace Go.Eng
open Go.RowKit
section
variable {N:Nat} {G:V→Value→Prop} {w0:Base} {v0:Zb} {a:Act} {w:World}
theorem Zey {n0 n m:Nat} {f f0 fI:Fr} {l l0 l2 s lN:Lo} {γ γ2 γ0:Nat→Gh} {v v2:Zb} {ℓ ℓ2 es:List Loc} {us ks:List Nat}
  (h0:H0 G n0 f0 l0) (hn:n0≤n) (hr:RelX N G w0 v0 (· < n) (· < n) f l a w γ v ℓ) (hr2:RelX N G w0 v0 (· < n) (· < n+1) f l2 a w γ2 v2 ℓ2) (hst:St N w0 v0 [] (es++ℓ2) v2 a w) (hle:Le (· < n) v γ l v2 γ2 l2)
  (ho1:Old n f l f l2) (ho:Old n0 f0 l0 f l) (hs:s.Sublist l0) (hsu:∀ e ∈ s,e.k ∉ us) (hss:ZYi n0 l2 s=true) (hus:∀ u ∈ us,u<n0) (hI:IV a v2 γ l n0 us n0 m fI lN es γ0) (hks:ZSi n0 f ks=true) :
  ∃ γN ℓN,(∀ e ∈ lN,γN e.k=γ0 e.k∧lkE (lN++s) e.k=some e)∧RelX N G w0 v0 (· < m) (· < m) (fI++Zrd f0 ks) (lN++s) a w γN v2 ℓN∧Old n0 f0 l0 (fI++Zrd f0 ks) (lN++s):=by
 have hsm:∀ e ∈ s,e ∈ l0:=fun e he=>hs.subset he;have hsn:(s.map En.k).Nodup:=(hs.map _).nodup h0.nd;have hs2:∀ e ∈ s,lkE l2 e.k=some e∧lkE l e.k=some e:=fun e he=>by
  obtain ⟨e',h1,h2⟩:=ZFq hss e he;have h3:=ho1.2 e.k e' h1 (Nat.lt_of_lt_of_le h2 hn);have h4:=ho.2 e.k e' h3 h2;rw [Zej h0.nd (hsm e he)] at h4
  cases h4
  exact ⟨h1,h3⟩
 have hdis:∀ e ∈ s,e.k ∉ lN.map En.k:=fun e he hm=>by
  obtain ⟨e',he',hk⟩:=List.mem_map.1 hm;have h1:=(h0.l e (hsm e he)).1;rcases (hI.l e' he').1 with h2 | h2
  ·exact hsu e he (hk ▸ h2)
  ·omega
 have hnd:((lN++s).map En.k).Nodup:=ZXo hI.nd hsn hdis
 let γN:Nat→Gh:=fun k=>if k ∈ lN.map En.k then γ0 k else γ2 k
 have hγ:∀ e ∈ lN,γN e.k=γ0 e.k∧lkE (lN++s) e.k=some e:=fun e he =>
  ⟨if_pos (List.mem_map.2 ⟨e,he,rfl⟩),Zej hnd (List.mem_append_left _ he)⟩
 have hγs:∀ e ∈ s,γN e.k=γ2 e.k:=fun e he=>if_neg (hdis e he);obtain ⟨r1,⟨EN,r2,r3⟩,r4⟩:=hI.r γN (lN++s) hγ;obtain ⟨E,hE,hpE⟩:=hr.lr;have leN:Le (· < n0) v γ l v2 γN (lN++s):=⟨hle.v,fun u e' hu he'=>by
  have hmem:=(Zz he').1;have hk:=(Zz he').2;rcases List.mem_append.1 hmem with hm | hm
  ·obtain ⟨e0,q1,q2⟩:=r4 e' hm (by rw [hk];exact hu);rw [hk] at q1 q2;exact ⟨e0,q1,q2⟩
  ·obtain ⟨q1,q2⟩:=hs2 e' hm;rw [hk] at q1 q2;obtain ⟨e,q3,q4⟩:=hle.l u e' (Nat.lt_of_lt_of_le hu hn) q1;refine ⟨e,q3,ZQs (fun k hk=>Nat.lt_of_lt_of_le hk hn) ?_ q4⟩;have:=hγs e' hm;rw [hk] at this;exact this⟩
 have up:∀ k,k<n0→k<m:=fun k hk=>Nat.lt_of_lt_of_le hk hI.le;obtain ⟨E2,hE2,hpE2⟩:=hr2.lr;obtain ⟨Es,rest,t1,t2⟩:=Zpq hsn (fun e he=>(hs2 e he).1) hr2.nd hE2;have hS:F2 (ZVa v2 γN (lN++s)) s Es:=t1.impm fun e he es' hes hR=>by
  have hin:∀ x ∈ es',x ∈ ℓ2:=fun x hx=>hpE2.mem_iff.2 (t2.mem_iff.2 (List.mem_append_left _ (List.mem_flatten.2 ⟨es',hes,hx⟩)));have hg:=hγs e he;obtain ⟨q1,q2⟩:=hs2 e he;have hU:=h0.l e (hsm e he);obtain ⟨eE,q3,q4⟩:=hle.l e.k e (Nat.lt_of_lt_of_le hU.1 hn) q1;rw [q2] at q3;cases q3;obtain ⟨kk,st,L⟩:=e
  cases L with
  | box ty c =>
   obtain ⟨b,cs,g1,g2,g3,rfl⟩:=hR;obtain ⟨es0,hes0⟩:=ZJf hE (Zz q2).1;obtain ⟨jj,es1,k1,k2⟩:=hr.loc q2;obtain ⟨b0,cs0,d1,d2,d3,rfl⟩:=k1;have g1:γ2 kk = .box b:=g1;have d1:γ kk = .box b0:=d1;have q4:γ2 kk=γ kk:=q4;have hb:b=b0:=by rw [g1,d1] at q4;cases q4;rfl
   subst hb;obtain ⟨i,hi⟩:=k2 _ (List.mem_singleton.2 rfl);have m1:=(hr.st.loc _ (List.mem_of_getElem? hi)).1;have m2:=(hr2.st.loc _ (hin _ (List.mem_singleton.2 rfl))).1;have m1:w.heap[b]? = some (.cells cs0.toArray ty (0,0)):=m1;have m2:w.heap[b]? = some (.cells cs.toArray ty (0,0)):=m2;rw [m1] at m2;have hcs:cs0=cs:=by
    have:=Option.some.inj m2
    injection this with h1 _ _
    have:=congrArg Array.toList h1
    simpa using this
   subst hcs;exact ⟨b,cs0,by rw [show γN kk=γ2 kk from hg];exact g1,ZOb leN hU.2.2 d2,d3,rfl⟩
  | own ty t xs fz =>
   cases fz with
   | false=>obtain ⟨ob,cap,d,g1,g2⟩:=hR;exact ⟨ob,cap,d,by rw [show γN kk=γ2 kk from hg];exact g1,g2⟩
   | true=>obtain ⟨ob,cap,g1,g2⟩:=hR;exact ⟨ob,cap,by rw [show γN kk=γ2 kk from hg];exact g1,g2⟩
  | mat ty ty2 t mm hv=>obtain ⟨ob,cap,rows,es2,g1,g2⟩:=hR;exact ⟨ob,cap,rows,es2,by rw [show γN kk=γ2 kk from hg];exact g1,g2⟩
  | mid ty ty2 t mm hv s=>obtain ⟨ob,cap,rows,es2,hs,es3,g1,g2⟩:=hR;exact ⟨ob,cap,rows,es2,hs,es3,by rw [show γN kk=γ2 kk from hg];exact g1,g2⟩
 have hstN:St N w0 v0 [] (EN.flatten++Es.flatten) v2 a w:=by
  have h1:=hst.perm ((List.Perm.append r3 (hpE2.trans t2)));refine h1.drop ?_;rw [← List.append_assoc];exact List.sublist_append_left _ _
 have hkeep:∀ t e,lkE (Zrd f0 ks) t=some e→lkE f t=some e∧lkE f0 t=some e:=fun t e he=>by
  obtain ⟨q1,q2⟩:=Z1o he;obtain ⟨e',q3,q4⟩:=Z9r hks t q2;have:=ho.1 t e' q3 q4;rw [q1] at this;cases this;exact ⟨q3,q1⟩
 refine ⟨γN,_,hγ,⟨hstN,fun t e he=>?_,⟨EN++Es,r2.append hS,by rw [List.flatten_append]⟩,hnd,fun t e he=>?_,fun e he=>?_,fun x y hg=>?_⟩,fun t e he hst=>?_,fun u e he hst=>?_⟩
 ·rw [Zpo] at he
  cases hx:lkE fI t with
  | some e1 =>
   rw [hx] at he;cases he;obtain ⟨q1,q2⟩:=Zz hx;rw [← q2];exact r1 e q1
  | none =>
   rw [hx] at he;obtain ⟨q1,q2⟩:=hkeep t e he;exact ZXb leN (h0.f t e q2).1 (hr.fr t e q1)
 ·rw [Zpo] at he
  cases hx:lkE fI t with
  | some e1 =>
   rw [hx] at he;cases he;obtain ⟨q1,q2,q3⟩:=hI.f e (Zz hx).1;exact ⟨q1,q3⟩
  | none =>
   rw [hx] at he;obtain ⟨q1,q2⟩:=hkeep t e he;obtain ⟨q3,q4⟩:=h0.f t e q2;exact ⟨V.ok.mono up q3,up _ q4⟩
 ·rcases List.mem_append.1 he with he | he
  ·obtain ⟨q1,q2,q3,q4⟩:=hI.l e he;refine ⟨?_,q3,q4⟩;rcases q1 with q1 | q1
   ·exact up _ (hus _ q1)
   ·exact q1.2
  ·obtain ⟨q1,q2,q3⟩:=h0.l e (hsm e he);exact ⟨up _ q1,up _ q2,LV.ok.mono up up q3⟩
 ·exact ⟨ZXb leN (h0.g x y hg) (hr.gh x y hg).1,V.ok.mono up (h0.g x y hg)⟩
 ·rw [Zpo] at he
  cases hx:lkE fI t with
  | some e1 =>
   rw [hx] at he;cases he;have:=(hI.f e (Zz hx).1).2.1;omega
  | none =>
   rw [hx] at he;exact (hkeep t e he).2
 ·rcases List.mem_append.1 (Zz he).1 with hm | hm
  ·have:=(hI.l e hm).2.1;omega
  ·have:=Zej h0.nd (hsm e hm);rw [(Zz he).2] at this;exact this
def bF (f0:Fr) (l0:Lo) (j:Js) (x:jT j) (n:Nat):Fr:=(ZZb f0 l0 j.vs x n).1++Zrd f0 j.keep
def bL (b:Nat) (f0:Fr) (l0:Lo) (j:Js) (x:jT j) (n:Nat):Lo:=(ZZb f0 l0 j.vs x n).2.1++stayL b f0 l0 j j.vs
def bN (f0:Fr) (l0:Lo) (j:Js) (x:jT j) (n:Nat):Nat:=(ZZb f0 l0 j.vs x n).2.2
theorem Zpl {α:Type} {b:Nat} {f0:Fr} {l0:Lo} {j:Js} {x:jT j} {n:Nat} {K:Fr→Lo→Nat→α}:build b f0 l0 j x n K=K (bF f0 l0 j x n) (bL b f0 l0 j x n) (bN f0 l0 j x n):=rfl
theorem ZRk {α:Type} {r:α} {b n0 n:Nat} {f0 f:Fr} {l0 l:Lo} {j:Js} {K:jT j→Option α} (h0:H0 G n0 f0 l0) (hn:n0≤n) (hr:Rel N G w0 v0 (· < n) f l a w) (ho:Old n0 f0 l0 f l) (h:ZQe b n0 n f0 l0 f l j K=some r) :
  ∃ x,K x=some r∧n0≤bN f0 l0 j x n0∧Rel N G w0 v0 (· < bN f0 l0 j x n0) (bF f0 l0 j x n0) (bL b f0 l0 j x n0) a w∧Old n0 f0 l0 (bF f0 l0 j x n0) (bL b f0 l0 j x n0):=by
 obtain ⟨γ,v,ℓ,hr⟩:=hr;have h1:=Zsm (Nat.le_refl n) Old.refl hr.nd (Z5l h);have hr':RelX N G w0 v0 (· < n) (· < n+1) f l a w γ v ℓ:=hr.mono (fun _ h=>h) fun k h=>(show k<n+1 by have:k<n:=h;omega);obtain ⟨E,hE,_⟩:=hr.lr;obtain ⟨x,l2,γ2,v2,ℓ2,es,us,k1,k2,k3,k4,k5,k6,k7⟩:=ZVp (ex:=[]) h0 hn h1 hr' hr.st (Le.refl hE (Zb.le_refl _));obtain ⟨q1,q2⟩:=k1;split at q1
 ·rename_i hS hL;obtain ⟨γ0,hI⟩:=Z3n k5 k6 (fun u hu=>(k7 u hu).1) (Nat.le_refl n0) (hvOf_le h0);have hsub:=ZKs (b:=b) (rs:=ZJj l0 50 (idsF (Zrd f0 j.keep)) []) (us:=gone f0 l0 j.drop j.vs) (l:=l0);obtain ⟨γN,ℓN,_,p2,p3⟩:=Zey h0 hn hr k2 k3 k4 q2 ho hsub.1 (fun e he hu=>hsub.2 e he (List.mem_append_right _ (k7 _ hu).2.2)) hL (fun u hu=>(k7 u hu).1) hI hS;exact ⟨x,q1,hI.le,⟨γN,v2,ℓN,p2⟩,p3⟩
 ·cases q1
def Ress (P:Program) (tmps:Array Value) (w:World) (rs:List ResultVar) (vals:List Value):Prop:=F2 (fun r y=>Res P tmps w r y) rs vals
def RetR (P:Program) (rs:List ResultVar) (N:Nat) (G:V→Value→Prop) (w0:Base) (v0:Zb) (c:V) (l:Lo) (n:Nat) (a:Act) (w:World):Prop :=
 ∃ γ v ℓ vals,RelX N G w0 v0 (· < n) (· < n) [] l a w γ v ℓ∧RR v γ l true c vals∧c.ok (· < n)∧Ress P a.tmps w rs vals
def Zzc (m:Nat) (l l':Lo):Prop:=∀ u e,lkE l' u=some e→e.st<m→lkE l u=some e
theorem Old.l {m:Nat} {f f':Fr} {l l':Lo} (h:Old m f l f' l'):Zzc m l l':=h.2
theorem Zzc.trans {m m':Nat} {l l' l'':Lo} (h:Zzc m l l') (k:Zzc m' l' l'') (hm:m≤m'):Zzc m l l'':=fun u e he hs=>h u e (k u e he (by omega)) hs
theorem Zzc.mono {m m':Nat} {l l':Lo} (h:Zzc m' l l') (hm:m≤m'):Zzc m l l':=fun u e he hs=>h u e he (by omega)
end
theorem Zod {v:Zb} {γ:Nat→Gh} {l:Lo} {U:Nat→Prop} {n:Nat}:∀ {c:V} {k t:Nat} {e:En V} {vals:List Value},RR v γ l true c vals→c.ok U→lkE (Zqc n k c) t=some e→∃ y,k≤t∧vals[t-k]? = some y∧RV v γ l e.x y∧e.x.ok U∧e.st=n:=by
 intro c
 induction c with
 | cons a b ia ib =>
  intro k t e vals h hk he;obtain ⟨cs,xs,rfl,h1,h2⟩:=h;simp only [Zqc] at he;rw [ZY] at he;split at he
  ·rename_i hkt
   cases he
   have hkt:k=t:=hkt;subst hkt;exact ⟨a.val cs,Nat.le_refl _,by simp,Zgc h1 (fun c e=>by subst e;exact h1),hk.1,rfl⟩
  ·rename_i hkt;have hkt:¬ k=t:=hkt;obtain ⟨y,q1,q2,q3⟩:=ib h2 hk.2 he;refine ⟨y,by omega,?_,q3⟩;have:t-k=(t-(k+1))+1:=by omega
   rw [this];simpa using q2
 | _=>intro k t e vals h hk he;cases he
theorem Zar {v:Zb} {γ:Nat→Gh} {l:Lo}:∀ {c:V} {vals:List Value},RR v γ l true c vals→vals.length=lenV c:=by
 intro c
 induction c with
 | nl=>intro vals h;rw [show vals=[] from h];rfl
 | cons a b ia ib=>intro vals h;obtain ⟨cs,xs,rfl,h1,h2⟩:=h;simp [ib h2,lenV]
 | _=>intro vals h;exact h.elim
theorem ZYu {N N':Nat} {G:V→Value→Prop} {w0:Base} {v0:Zb} {a:Act} {w:World} {γ:Nat→Gh} {v:Zb} {ℓ:List Loc} {ags:V} {l:Lo} {n:Nat} {vals:List Value} (hr:RelX N G w0 v0 (· < n) (· < n) [] l a w γ v ℓ) (has:RR v γ l true ags vals) (hk:ags.ok (· < n)) (hN:vals.length≤N') :
  RelX N' G w0 v0 (· < n+1) (· < n+1) (Zqc n 0 ags) l { tmps:=vals.toArray++Array.replicate (N'-vals.toArray.size) undef,defers:=[] } w γ v ℓ:=by
 have hm:=hr.mono (U':=(· < n+1)) (X':=(· < n+1)) (fun k h=>(show k<n+1 by have:k<n:=h;omega)) fun k h=>(show k<n+1 by have:k<n:=h;omega);refine ⟨⟨by simp;omega,rfl,fun t x h=>(by cases h),hr.st.ext,hr.st.vst,hr.st.loc,hr.st.nd⟩,fun t e he=>?_,hm.lr,hm.nd,fun t e he=>?_,hm.ul,hm.gh⟩
 ·obtain ⟨y,h1,h2,h3,h4,h5⟩:=Zod has hk he;have hlt:t<vals.length:=(List.getElem?_eq_some_iff.1 h2).1;have h3':vals[t]=y:=(List.getElem?_eq_some_iff.1 h2).2;have:((vals.toArray++Array.replicate (N'-vals.toArray.size) undef).getD t undef)=y:=by
   simp [Array.getElem?_append,hlt,h3']
  rw [this];exact h3
 ·obtain ⟨y,h1,h2,h3,h4,h5⟩:=Zod has hk he;exact ⟨V.ok.mono (fun k h=>(show k<n+1 by have:k<n:=h;omega)) h4,by show e.st<n+1;omega⟩
theorem Zzy {N:Nat} {G:V→Value→Prop} {w0:Base} {v0:Zb} {a:Act} {w:World} {γ:Nat→Gh} {v:Zb} {ℓ:List Loc} {ags:V} {l:Lo} {n k:Nat} {vals:List Value} (hr:RelX N G w0 v0 (· < n) (· < n) [] l a w γ v ℓ) (has:RR v γ l true ags vals) (hk:ags.ok (· < n)) :
  RelX (k+vals.length) G w0 v0 (· < n+1) (· < n+1) (Zqc n k ags) l { tmps:=(List.replicate k undef++vals).toArray,defers:=[] } w γ v ℓ:=by
 have hm:=hr.mono (U':=(· < n+1)) (X':=(· < n+1)) (fun k h=>(show k<n+1 by have:k<n:=h;omega)) fun k h=>(show k<n+1 by have:k<n:=h;omega);refine ⟨⟨by simp,rfl,fun t x h=>(by cases h),hr.st.ext,hr.st.vst,hr.st.loc,hr.st.nd⟩,fun t e he=>?_,hm.lr,hm.nd,fun t e he=>?_,hm.ul,hm.gh⟩
 ·obtain ⟨y,h1,h2,h3,h4,h5⟩:=Zod has hk he;have:((List.replicate k undef++vals).toArray.getD t undef)=y:=by
   rw [Array.getD_eq_getD_getElem?,List.getElem?_toArray,List.getElem?_append_right (by simpa using h1)];simp [h2]
  rw [this];exact h3
 ·obtain ⟨y,h1,h2,h3,h4,h5⟩:=Zod has hk he;exact ⟨V.ok.mono (fun k h=>(show k<n+1 by have:k<n:=h;omega)) h4,by show e.st<n+1;omega⟩
theorem getRep {vals:List Value} {k i:Nat} {y:Value} (h:vals[i]? = some y):(List.replicate k undef++vals).toArray.getD (k+i) undef=y:=by
 rw [Array.getD_eq_getD_getElem?,List.getElem?_toArray,List.getElem?_append_right (by simp)];simp [h]
theorem Zbr {v:Zb} {γ:Nat→Gh} {l:Lo} {U:Nat→Prop} {f:Fr} {tm:Array Value} (hf:∀ t e,lkE f t=some e→RV v γ l e.x (tm.getD t undef)∧e.x.ok U):∀ {vals:List Value} {t:Nat} {c:V},ZOm f vals.length t=some c→(∀ i y,vals[i]? = some y→tm.getD (t+i) undef=y)→RR v γ l true c vals∧c.ok U
 | [],t,c,h,_=>by cases h;exact ⟨rfl,trivial⟩
 | y :: vals,t,c,h,hv=>by
  simp only [List.length_cons,ZOm] at h
  split at h
  ·cases h
  ·rename_i e c' hnt hc he
   cases h
   obtain ⟨h1,h2⟩:=hf t e hc
   obtain ⟨cs,hcs,hy⟩:=ZFb h1 (fun q hq=>by obtain ⟨k,s,x⟩:=e;have hq:x = .tup q:=hq;subst hq;exact hnt _ _ _ rfl)
   obtain ⟨k1,k2⟩:=Zbr hf (vals:=vals) he fun i y hi=>by
    have:=hv (i+1) y (by simpa using hi)
    rwa [show t+(i+1)=t+1+i by omega] at this
   have h0:=hv 0 y (by simp)
   rw [Nat.add_zero] at h0
   exact ⟨⟨cs,vals,by rw [← h0,hy],hcs,k1⟩,h2,k2⟩
  ·cases h
section
variable {N:Nat} {G:V→Value→Prop} {w0:Base} {v0:Zb} {a:Act} {w:World}
theorem Zwz {α β:Type} {r:α} {P:Program} {rs:List ResultVar} {b n0 n:Nat} {f0:Fr} {l0 l:Lo} {c:V} {j:Js} {K:jT j→Option α} (h0:H0 G n0 f0 l0) (hn:n0≤n) (hr:RetR P rs N G w0 v0 c l n a w) (ho:Zzc n0 l0 l) (h:Zui b n0 n f0 l0 c l j K=some r) :
  ∃ x,K x=some r∧∀ {KR:V→Lo→Nat→Option β} {q:β},build b f0 l0 j x n0 (retK j.vs KR)=some q→∃ c' l' m,KR c' l' m=some q∧n0≤m∧RetR P rs N G w0 v0 c' l' m a w∧Zzc n0 l0 l':=by
 obtain ⟨γ,v,ℓ,vals,hr,hc,hk,hres⟩:=hr;unfold Zui at h;split at h
 ·rename_i k hkeep hord;split at h
  ·rename_i hlen;have hlen:=Nat.eq_of_beq_eq_true hlen;have hvl:=Zar hc;have hx:=Zzy (k:=1000) hr hc hk;obtain ⟨x,k1,k2,k3,k4⟩:=ZRk h0 (Nat.le_succ_of_le hn) ⟨_,_,_,hx⟩ ⟨fun t e he hst=>by
    obtain ⟨y,h1,h2,h3,h4,h5⟩:=Zod hc hk he;omega,ho⟩ h
   refine ⟨x,k1,fun {KR q} hq=>?_⟩;rw [Zpl] at hq;unfold retK at hq;rw [hord] at hq;simp only at hq;split at hq
   ·rename_i c' hc';obtain ⟨γ',v',ℓ',hr'⟩:=k3;refine ⟨c',_,_,hq,k2,⟨γ',v',ℓ',vals,⟨⟨hr.st.size,hr.st.dfr,fun t x h=>(by cases h),hr'.st.ext,hr'.st.vst,hr'.st.loc,hr'.st.nd⟩,fun t e he=>(by cases he),hr'.lr,hr'.nd,fun t e he=>(by cases he),hr'.ul,hr'.gh⟩,?_⟩,k4.l⟩;rw [show k-1000=vals.length by omega] at hc';obtain ⟨g1,g2⟩:=Zbr (U:=(· < bN f0 l0 j x n0)) (fun t e he=>⟨hr'.fr t e he,(hr'.uf t e he).1⟩) hc' fun i y hi=>by
     exact getRep hi
    exact ⟨g1,g2,hres⟩
   ·cases hq
  ·cases h
 ·cases h
end
end Go.Eng
namespace Go.Eng
open Go.RowKit
section
variable {N:Nat} {G:V→Value→Prop} {w0:Base} {v0:Zb}
structure KOK (P:Program) (rs:List ResultVar) (N:Nat) (G:V→Value→Prop) (w0:Base) (v0:Zb) {α:Type} (n:Nat) (f:Fr) (l:Lo) (K:Kt α) (r:α) (Q:Exit→Act→World→Prop):Prop where
 norm:ZCe N G w0 v0 n f l (fun f l n=>K.norm f l n=some r) (Q .normal)
 exit:∀ i,ZCe N G w0 v0 n f l (fun f l n=>K.exit i f l n=some r) (Q (.exit i))
 ret:∀ c l' n' a' w',K.ret c l' n'=some r→n≤n'→Zzc n l l'→RetR P rs N G w0 v0 c l' n' a' w'→Q .ret a' w'
theorem KOK.step {P:Program} {rs:List ResultVar} {α:Type} {n n1:Nat} {f f1:Fr} {l l1:Lo} {K:Kt α} {r:α} {Q:Exit→Act→World→Prop} (h:KOK P rs N G w0 v0 n f l K r Q) (hn:n≤n1) (ho:Old n f l f1 l1):KOK P rs N G w0 v0 n1 f1 l1 K r Q :=
 ⟨h.norm.step hn ho,fun i=>(h.exit i).step hn ho,fun c l' n' a' w' hk hn' ho' hr=>h.ret c l' n' a' w' hk (by omega) (ho.l.trans ho' hn) hr⟩
def kdE:Kd→Exit
 | .norm=>.normal
 | .exit i=>.exit i
 | .ret=>.ret
theorem Zml {a b:Kd} (h:kdEq a b=true):a=b:=by
 cases a <;> cases b <;> first | rfl | (cases h;done) | (rw [Nat.eq_of_beq_eq_true h])
theorem Zmq {P:Program} {rs:List ResultVar} {α β:Type} {b n0 n:Nat} {f0 f:Fr} {l0 l:Lo} {o:Kd×Js} {K:jT o.2→Option α} {x':α} {a:Act} {w:World} {Q:Exit→Act→World→Prop} (h0:H0 G n0 f0 l0) (hn:n0≤n) (hk:o.1 ≠ .ret) (hr:Rel N G w0 v0 (· < n) f l a w) (ho:Old n0 f0 l0 f l) (h:ZQe b n0 n f0 l0 f l o.2 K=some x') :
  ∃ y,K y=some x'∧∀ {Kout:Kt β} {r:β},Znh b f0 l0 n0 Kout o y=some r→KOK P rs N G w0 v0 n0 f0 l0 Kout r Q→Q (kdE o.1) a w:=by
 obtain ⟨y,h1,h2,h3,h4⟩:=ZRk h0 hn hr ho h;refine ⟨y,h1,fun {Kout r} hx hK=>?_⟩;unfold Znh at hx;split at hx
 ·rename_i e;rw [Zpl] at hx;rw [e];exact hK.norm _ _ _ a w hx h2 h4 h3
 ·rename_i i e;rw [Zpl] at hx;rw [e];exact hK.exit i _ _ _ a w hx h2 h4 h3
 ·rename_i e;exact absurd e hk
theorem ZJs {P:Program} {rs:List ResultVar} {α β:Type} {b n0 n:Nat} {f0:Fr} {l0 l:Lo} {c:V} {o:Kd×Js} {K:jT o.2→Option α} {x':α} {a:Act} {w:World} {Q:Exit→Act→World→Prop} (h0:H0 G n0 f0 l0) (hn:n0≤n) (hk:o.1 = .ret) (hr:RetR P rs N G w0 v0 c l n a w) (ho:Zzc n0 l0 l) (h:Zui b n0 n f0 l0 c l o.2 K=some x') :
  ∃ y,K y=some x'∧∀ {Kout:Kt β} {r:β},Znh b f0 l0 n0 Kout o y=some r→KOK P rs N G w0 v0 n0 f0 l0 Kout r Q→Q .ret a w:=by
 obtain ⟨y,h1,h2⟩:=Zwz (β:=β) h0 hn hr ho h;refine ⟨y,h1,fun {Kout r} hx hK=>?_⟩;unfold Znh at hx;split at hx
 ·rename_i e;rw [hk] at e;cases e
 ·rename_i e;rw [hk] at e;cases e
 ·obtain ⟨c',l',m,k0,k1,k2,k3⟩:=h2 hx;exact hK.ret _ _ _ a w k0 k1 k3 k2
theorem ZCl {P:Program} {rs:List ResultVar} {β:Type} {b n0 n:Nat} {f0 f:Fr} {l0 l:Lo} {a:Act} {w:World} {Q:Exit→Act→World→Prop} {kd:Kd} {c:V} (h0:H0 G n0 f0 l0) (hn:n0≤n) (hk:kd ≠ .ret) (hr:Rel N G w0 v0 (· < n) f l a w) (ho:Old n0 f0 l0 f l) :
  ∀ {os:List (Kd×Js)} {α:Type} {K:sumT os→Option α} {x':α},Z7c b n0 n f0 l0 kd c f l os K=some x' →
  ∃ y,K y=some x'∧∀ {Kout:Kt β} {r:β},arms b f0 l0 n0 Kout os y=some r→KOK P rs N G w0 v0 n0 f0 l0 Kout r Q→Q (kdE kd) a w
 | [],α,K,x',h=>by cases h
 | [o],α,K,x',h=>by
  simp only [Z7c] at h
  split at h
  ·rename_i he
   have he:=Zml he
   have h:ZQe b n0 n f0 l0 f l o.2 K=some x':=by cases kd <;> first | exact h | exact absurd rfl hk
   obtain ⟨y,h1,h2⟩:=Zmq (P:=P) (rs:=rs) (β:=β) (Q:=Q) h0 hn (by rw [he];exact hk) hr ho h
   exact ⟨y,h1,fun {Kout r} hx hK=>he ▸ h2 hx hK⟩
  ·cases h
 | o :: p :: os,α,K,x',h=>by
  simp only [Z7c] at h
  split at h
  ·rename_i he
   have he:=Zml he
   have h:ZQe b n0 n f0 l0 f l o.2 (fun x=>K (.inl x))=some x':=by cases kd <;> first | exact h | exact absurd rfl hk
   obtain ⟨y,h1,h2⟩:=Zmq (P:=P) (rs:=rs) (β:=β) (Q:=Q) h0 hn (by rw [he];exact hk) hr ho h
   exact ⟨.inl y,h1,fun {Kout r} hx hK=>he ▸ h2 hx hK⟩
  ·obtain ⟨y,h1,h2⟩:=ZCl h0 hn hk hr ho (os:=p :: os) h
   exact ⟨.inr y,h1,fun {Kout r} hx hK=>h2 hx hK⟩
theorem ZZo {P:Program} {rs:List ResultVar} {β:Type} {b n0 n:Nat} {f0 f:Fr} {l0 l:Lo} {a:Act} {w:World} {Q:Exit→Act→World→Prop} {c:V} (h0:H0 G n0 f0 l0) (hn:n0≤n) (hr:RetR P rs N G w0 v0 c l n a w) (ho:Zzc n0 l0 l) :
  ∀ {os:List (Kd×Js)} {α:Type} {K:sumT os→Option α} {x':α},Z7c b n0 n f0 l0 .ret c f l os K=some x' →
  ∃ y,K y=some x'∧∀ {Kout:Kt β} {r:β},arms b f0 l0 n0 Kout os y=some r→KOK P rs N G w0 v0 n0 f0 l0 Kout r Q→Q .ret a w
 | [],α,K,x',h=>by cases h
 | [o],α,K,x',h=>by
  simp only [Z7c] at h
  split at h
  ·rename_i he
   exact ZJs h0 hn (Zml he) hr ho h
  ·cases h
 | o :: p :: os,α,K,x',h=>by
  simp only [Z7c] at h
  split at h
  ·rename_i he
   obtain ⟨y,h1,h2⟩:=ZJs (P:=P) (rs:=rs) (β:=β) (Q:=Q) h0 hn (Zml he) hr ho h
   exact ⟨.inl y,h1,fun {Kout r} hx hK=>h2 hx hK⟩
  ·obtain ⟨y,h1,h2⟩:=ZZo h0 hn hr ho (os:=p :: os) h
   exact ⟨.inr y,h1,fun {Kout r} hx hK=>h2 hx hK⟩
theorem ZYk {P:Program} {rs:List ResultVar} {c:Code} {α:Type} {b n:Nat} {ann:Ann} {f:Fr} {l:Lo} {K:Kt α} {g:(β:Type)→Go β} {r:α} {a:Act} {w:World} {Q:Exit→Act→World→Prop} (h:Zoi b ann f l n K g=some r) (hr:Rel N G w0 v0 (· < n) f l a w) (hK:KOK P rs N G w0 v0 n f l K r Q)
  (ih:∀ {β:Type} {a':Ann} {K':Kt β} {r':β},g β a' f l n K'=some r'→KOK P rs N G w0 v0 n f l K' r' Q→c.wp P Q a w):c.wp P Q a w:=by
 unfold Zoi at h;split at h
 ·rename_i j a';obtain ⟨x,hx,harms⟩:=ZI h;have h0:=hr.h0;refine ih hx ⟨fun f' l' n' a' w' hp hn' ho' hr'=>?_,fun i f' l' n' a' w' hp hn' ho' hr'=>?_,fun c l' n' a' w' hp hn' ho' hr'=>?_⟩
  ·obtain ⟨y,h1,h2⟩:=ZCl (P:=P) (rs:=rs) (β:=α) (Q:=Q) (kd:=.norm) h0 hn' (fun e=>by cases e) hr' ho' hp
   cases h1
   exact h2 harms hK
  ·obtain ⟨y,h1,h2⟩:=ZCl (P:=P) (rs:=rs) (β:=α) (Q:=Q) (kd:=.exit i) h0 hn' (fun e=>by cases e) hr' ho' hp
   cases h1
   exact h2 harms hK
  ·obtain ⟨y,h1,h2⟩:=ZZo (P:=P) (rs:=rs) (β:=α) (Q:=Q) h0 hn' hr' ho' hp
   cases h1
   exact h2 harms hK
 ·exact ih h hK
theorem Zps {P:Program} {rs:List ResultVar} {c:Code} {α:Type} {a':Ann} {g:(β:Type)→Go β} {r:α}:∀ (k:Nat) {n:Nat} {f:Fr} {l:Lo} {K:Kt α} {a:Act} {w:World} {Q:Exit→Act→World→Prop},rounds g a' k f l n K=some r→Rel N G w0 v0 (· < n) f l a w→KOK P rs N G w0 v0 n f l K r Q →
  (∀ {β:Type} {a':Ann} {f':Fr} {l':Lo} {n':Nat} {K':Kt β} {r':β} {a:Act} {w:World} {Q':Exit→Act→World→Prop},g β a' f' l' n' K'=some r'→Rel N G w0 v0 (· < n') f' l' a w→KOK P rs N G w0 v0 n' f' l' K' r' Q'→c.wp P Q' a w)→Code.rounds P c Q k a w
 | 0,n,f,l,K,a,w,Q,h,_,_,_=>by cases h
 | k+1,n,f,l,K,a,w,Q,h,hr,hK,ih =>
  Zlv (ih (Q':=Exit.then (Code.rounds P c Q k) Q) h hr ⟨fun f' l' n' a' w' hp hn' ho' hr'=>Zps k hp hr' (hK.step hn' ho') ih,fun i=>hK.exit i,hK.ret⟩)
theorem Z0z {P:Program} {rs:List ResultVar} {c:Code} {α:Type} {b n:Nat} {ann:Ann} {f:Fr} {l:Lo} {K:Kt α} {g:(β:Type)→Go β} {r:α} {a:Act} {w:World} {Q:Exit→Act→World→Prop} (h:loopI b ann f l n K g=some r) (hr:Rel N G w0 v0 (· < n) f l a w) (hK:KOK P rs N G w0 v0 n f l K r Q)
  (ih:∀ {β:Type} {a':Ann} {f':Fr} {l':Lo} {n':Nat} {K':Kt β} {r':β} {a:Act} {w:World} {Q':Exit→Act→World→Prop},g β a' f' l' n' K'=some r'→Rel N G w0 v0 (· < n') f' l' a w→KOK P rs N G w0 v0 n' f' l' K' r' Q'→c.wp P Q' a w):(Code.loop c).wp P Q a w:=by
 unfold loopI at h;split at h
 ·rename_i j ann';have h0:=hr.h0;obtain ⟨z,h1,h2,h3,h4⟩:=ZRk h0 (Nat.le_refl n) hr Old.refl h;obtain ⟨y,hl,harms⟩:=ZI h1;refine ZRb hl (fun s a w=>n≤bN f l j.head s n∧Rel N G w0 v0 (· < bN f l j.head s n) (bF f l j.head s n) (bL b f l j.head s n) a w∧Old n f l (bF f l j.head s n) (bL b f l j.head s n)) ⟨h2,h3,h4⟩ ?_;rintro s a w st ⟨i1,i2,i3⟩ hst N' hN hR;rw [Zpl] at hst;refine ih hst i2 ⟨fun f' l' n' a' w' hp hn' ho' hr'=>?_,fun i f' l' n' a' w' hp hn' ho' hr'=>?_,fun c l' n' a' w' hp hn' ho' hr'=>?_⟩
  ·obtain ⟨x,k1,k2,k3,k4⟩:=ZRk h0 (Nat.le_trans i1 hn') hr' (i3.trans ho' i1) hp
   cases k1
   exact hN x rfl a' w' ⟨k2,k3,k4⟩
  ·obtain ⟨y',k1,k2⟩:=ZCl (P:=P) (rs:=rs) (β:=α) (Q:=Q) (kd:=.exit i) h0 (Nat.le_trans i1 hn') (fun e=>by cases e) hr' (i3.trans ho' i1) hp
   cases k1
   have:=hR y' rfl;subst this;exact k2 harms hK
  ·obtain ⟨y',k1,k2⟩:=ZZo (P:=P) (rs:=rs) (β:=α) (Q:=Q) h0 (Nat.le_trans i1 hn') hr' (i3.l.trans ho' i1) hp
   cases k1
   have:=hR y' rfl;subst this;exact k2 harms hK
 ·rename_i k ann';exact wp_loop_rounds k (Zps k h hr hK ih)
 ·cases h
theorem Zry {P:Program} {f:Fr} {l:Lo} {a:Act} {w:World} {γ:Nat→Gh} {v:Zb} {ℓ:List Loc} {n:Nat} (hr:RelX N G w0 v0 (· < n) (· < n) f l a w γ v ℓ) {q:ResultVar} {z:V} (h:Z2n f l P q=some z) (hz:∀ c,z ≠ .tup c):∃ cs,RR v γ l false z cs∧z.ok (· < n)∧Res P a.tmps w q (z.val cs):=by
 unfold Z2n at h;split at h
 ·rename_i t;split at h
  ·rename_i e he
   cases h
   obtain ⟨cs,h1,h2⟩:=ZFb (hr.fr t e he) hz;obtain ⟨σ,hσ,hev⟩:=hr.st.ev1 (.tmp t);exact ⟨cs,h1,(hr.uf t e he).1,by rw [← h2];exact Z0 hσ hev⟩
  ·cases h
 ·rename_i x t;split at h
  ·rename_i k st u he;split at h
   ·rename_i k2 st2 ty c hu;split at h
    ·rename_i q hq;have hrv:=hr.fr x _ he;obtain ⟨y,hy0,_,hy⟩:=Zma hrv (fun _ e=>by cases e) rfl rfl
     cases hy0
     obtain ⟨b',g4,g5⟩:=hy _ hu;obtain ⟨hkk,es,hes,hmem⟩:=hr.loc hu;obtain ⟨b,cs,g1,g2,g3,rfl⟩:=hes;have hkk:k2=u:=hkk;subst hkk;have g1:γ k2 = .box b:=g1;rw [g1] at g4;cases g4;have hc:c.ok (· < n):=(hr.ul _ (Zz hu).1).2.2;obtain ⟨k1,k2',k3,k4,k5⟩:=Zae FU h g2 hc;obtain ⟨i,hi⟩:=hmem _ (List.mem_singleton.2 rfl);have hlen:((cs.drop 0).take q.1).length=q.1:=by simp at k5 ⊢;omega
     have hw:=hr.st.box hi 0 ((cs.drop 0).take q.1) (by rw [hlen]);obtain ⟨σ,hσ,hev⟩:=hr.st.ev1 (.tmp x);have g5:a.eval (.tmp x)=_:=g5;rw [g5] at hev;have ht:=Zgg hq;refine ⟨_,k1,k2',?_⟩
     cases hag:z.isAgg with
     | true =>
      rw [← k4,hag] at ht;unfold V.val;rw [hag];exact res_agg hσ hev ht hlen hw
     | false =>
      rw [← k4,hag] at ht;have h1:=Zee FU h hag;have e3:=Z5h k1 h1 hag;rw [← k3,h1] at ht;rw [e3] at hw;exact res_one hσ hev ht hw
    ·cases h
   ·cases h
  ·cases h
theorem Zjq {P:Program} {f:Fr} {l:Lo} {a:Act} {w:World} {γ:Nat→Gh} {v:Zb} {ℓ:List Loc} {n:Nat} (hr:RelX N G w0 v0 (· < n) (· < n) f l a w γ v ℓ):∀ {rs:List ResultVar} {c:V},ZGl f l P rs=some c→∃ vals,RR v γ l true c vals∧c.ok (· < n)∧Ress P a.tmps w rs vals
 | [],c,h=>by cases h;exact ⟨[],rfl,trivial,trivial⟩
 | q :: rs,c,h=>by
  simp only [ZGl] at h
  split at h
  ·cases h
  ·rename_i z c1 hnt h1 h2
   cases h
   obtain ⟨cs,k1,k2,k3⟩:=Zry hr h1 (fun c e=>hnt c (by rw [e]))
   obtain ⟨vals,q1,q2,q3⟩:=Zjq hr h2
   exact ⟨_,⟨cs,vals,rfl,k1,q1⟩,⟨k2,q2⟩,k3,q3⟩
  ·cases h
theorem Z1w {id i:Nat} {Q:Exit→Act→World→Prop} {a:Act} {w:World} (h:(Nat.beq i id=true→Q .normal a w)∧(Nat.beq i id=false→Q (.exit i) a w)):Exit.inBlock id Q (.exit i) a w:=by
 cases hb:Nat.beq i id
 ·have hne:¬ i=id:=fun e=>by rw [e] at hb;simp at hb
  simp only [Exit.inBlock,if_neg hne];exact h.2 hb
 ·simp only [Exit.inBlock,if_pos (Nat.eq_of_beq_eq_true hb)];exact h.1 hb
theorem ZBk {C:Cf} (hC:CfOK C) {cf:CallF} (hcf:Z8g C cf) {rs:List ResultVar} {b:Nat}:∀ (c:Code) {α:Type} {ann:Ann} {f:Fr} {l:Lo} {n:Nat} {K:Kt α} {r:α} {Q:Exit→Act→World→Prop} {a:Act} {w:World},
  Zbc C cf rs b N c α ann f l n K=some r→Rel N G w0 v0 (· < n) f l a w→KOK C.P rs N G w0 v0 n f l K r Q→c.wp C.P Q a w:=by
 intro c
 induction c with
 | skip=>intro α ann f l n K r Q a w h hr hK;exact wp_skip (hK.norm f l n a w h (Nat.le_refl n) Old.refl hr)
 | label i=>intro α ann f l n K r Q a w h hr hK;exact wp_label (hK.norm f l n a w h (Nat.le_refl n) Old.refl hr)
 | region id ops draw =>
  intro α ann f l n K r Q a w hh hr hK;refine ZYk hh hr hK fun {β a' K' r'} h hK2=>?_;clear hh;split at h
  ·rename_i hds;exact wp_region_list (Zvm hC hcf (ZIk hds) h (fun o ho=>ho) hr hK2.norm)
  ·rename_i hds;split at h
   ·rename_i hm hb;split at h
    ·exact draw_ok hC hm hb (ZIk hds) h hr hK2.norm
    ·rename_i o ho;exact Z9u hC hcf ho hm hb (ZIk hds) h hr hK2.norm
   ·cases h
  ·cases h
 | seq x y ix iy =>
  intro α ann f l n K r Q a w h hr hK;refine ZYk h hr hK fun {β a' K' r'} h hK=>?_;refine wp_seq (ix h hr ⟨fun f' l' n' a' w' hp hn' ho' hr'=>iy hp hr' (hK.step hn' ho'),fun i=>hK.exit i,hK.ret⟩)
 | cond c x y ix iy =>
  intro α ann f l n K r Q a w h hr hK;refine ZYk h hr hK fun {β a' K' r'} h hK=>?_
  cases c with
  | tmp t =>
   simp only at h;split at h
   ·rename_i k s q he;have hk:k=t:=(Zz he).2;subst hk;obtain ⟨γ,v,ℓ,hr⟩:=hr;have hev:a.eval (.tmp k) = .bool q:=ZAg (hr.fr k _ he);have hdup:=RelX.dup hr he;have hold:=Old.dup (m:=n) (l:=l) he
    cases q with
    | true=>exact wp_cond_true hev (ix h ⟨γ,v,ℓ,hdup⟩ (hK.step (Nat.le_refl n) hold))
    | false=>exact wp_cond_false hev (iy h ⟨γ,v,ℓ,hdup⟩ (hK.step (Nat.le_refl n) hold))
   ·cases h
  | const v =>
   cases v with
   | bool b=>cases b with
    | true=>exact wp_cond_true rfl (ix h hr hK)
    | false=>exact wp_cond_false rfl (iy h hr hK)
   | _=>cases h
  | _=>cases h
 | block id x ix =>
  intro α ann f l n K r Q a w h hr hK;refine ZYk h hr hK fun {β a' K' r'} h hK=>?_;refine wp_block (ix h hr ⟨hK.norm,fun i f' l' n' a' w' hp hn' ho' hr'=>Z1w ⟨fun e=>?_,fun e=>?_⟩,hK.ret⟩)
  ·simp only [e] at hp;exact hK.norm f' l' n' a' w' hp hn' ho' hr'
  ·simp only [e] at hp;exact hK.exit i f' l' n' a' w' hp hn' ho' hr'
 | loop x ix =>
  intro α ann f l n K r Q a w h hr hK;exact Z0z h hr hK fun h hr hK=>ix h hr hK
 | scope x ix =>
  intro α ann f l n K r Q a w h hr hK;exact wp_scope_straight (ix h hr ⟨hK.norm,hK.exit,hK.ret⟩)
 | exit i=>intro α ann f l n K r Q a w h hr hK;exact wp_exit (hK.exit i f l n a w h (Nat.le_refl n) Old.refl hr)
 | ret =>
  intro α ann f l n K r Q a w h hr hK;simp only [Zbc] at h;split at h
  ·rename_i c hc;obtain ⟨γ,v,ℓ,hr⟩:=hr;obtain ⟨vals,k1,k2,k3⟩:=Zjq hr hc;exact wp_ret (hK.ret c l n a w h (Nat.le_refl n) (fun u e he _=>he) ⟨γ,v,ℓ,vals,⟨hr.st,fun t e he=>(by cases he),hr.lr,hr.nd,fun t e he=>(by cases he),hr.ul,hr.gh⟩,k1,k2,k3⟩)
  ·cases h
 | _=>intro α ann f l n K r Q a w h hr hK;cases h
end
end Go.Eng
namespace Go.Eng
open Go.RowKit
def oneR:List Value→Value
 | [x]=>x
 | vs=>.tuple vs.toArray
theorem ZOs {P:Program} {tmps:Array Value} {w:World}:∀ {rs:List ResultVar} {vals:List Value},Ress P tmps w rs vals→(rs.mapM (Z3m tmps)).run P w = .ok vals w
 | [],[],_=>by simp
 | q :: rs,y :: vals,h=>by
  have h1:=ZXl h.1
  have h2:=ZOs (rs:=rs) (vals:=vals) h.2
  simp [List.mapM_cons,h1,h2]
 | [],_ :: _,h=>h.elim
 | _ :: _,[],h=>h.elim
theorem ZWi {P:Program} {fn:Func} {tmps:Array Value} {w:World} {vals:List Value} (h:Ress P tmps w fn.results.toList vals):(results fn tmps).run P w = .ok (oneR vals) w:=by
 have h1:=ZOs h;rw [Zfo];rw [Array.mapM_eq_mapM_toList]
 match vals with
 | []=>simp [h1,oneR]
 | [x]=>simp [h1,oneR]
 | x :: y :: r=>simp [h1,oneR]
theorem oneV_ok {v:Zb} {γ:Nat→Gh} {l:Lo} {U:Nat→Prop} {c:V} {vals:List Value} (h:RR v γ l true c vals) (hk:c.ok U):RV v γ l (Zzf c) (oneR vals)∧(Zzf c).ok U:=by
 cases c with
 | nl=>rw [show vals=[] from h];exact ⟨⟨[],rfl,rfl⟩,trivial⟩
 | cons a b =>
  obtain ⟨cs,xs,rfl,h1,h2⟩:=h
  cases b with
  | nl =>
   rw [show xs=[] from h2];exact ⟨Zgc h1 (fun c e=>by subst e;exact h1),hk.1⟩
  | cons a2 b2 =>
   obtain ⟨cs2,xs2,rfl,h3,h4⟩:=h2;exact ⟨⟨_,⟨cs,_,rfl,h1,cs2,xs2,rfl,h3,h4⟩,rfl⟩,hk⟩
  | _=>exact h2.elim
 | _=>exact h.elim
theorem Zkk:∀ {l:List Value} {k t:Nat} {y:Value},l[t]? = some y→look (ZAc k l) (k+t)=some y
 | [],_,_,_,h=>by simp at h
 | x :: l,k,0,y,h=>by
  simp at h;subst h
  exact Ztf rfl
 | x :: l,k,t+1,y,h=>by
  have h1:=Zkk (l:=l) (k:=k+1) (t:=t) (y:=y) (by simpa using h)
  rw [show ZAc k (x :: l)=(k,x) :: ZAc (k+1) l from rfl,Zxh (by omega),show k+(t+1)=k+1+t by omega]
  exact h1
def Z9c (C:Cf) (inl:Inl):Prop:=∀ g p,ZEa inl g=some p→C.P.funcs[g]? = some p.1∧Z8 C.P g
theorem Z2p {C:Cf} (hC:CfOK C) {inl:Inl} (hinl:Z9c C inl) (d:Nat):Z8g C (Zah C inl d):=by
 induction d with
 | zero=>intro α g ags l n K r h;cases h
 | succ d ih =>
  intro α g ags l n K r h N G w0 v0 a w γ v ℓ vals hr has hk;simp only [Zah] at h;split at h
  ·rename_i fn ann hg;obtain ⟨hf,hen⟩:=hinl g _ hg;split at h
   ·rename_i c hc hb;have hlen:=Zar has;have hb:=Nat.le_of_ble_eq_true hb;have hx:=ZYu (N':=fn.ntmps) hr has hk (by rw [hlen];exact hb);refine ⟨hen,calls_of_wp hf hc ?_⟩;refine ZBk hC ih c h ⟨γ,v,ℓ,hx⟩ ⟨fun f' l' n' a' w' hp hn' ho' hr'=>?_,fun i f' l' n' a' w' hp hn' ho' hr'=>(by cases hp),fun c l' n' a' w' hp hn' ho' hr'=>?_⟩
    ·unfold endN at hp;split at hp
     ·rename_i hres;obtain ⟨γ',v',ℓ',hr'⟩:=hr';refine ⟨hr'.st.dfr,_,ZWi (vals:=[]) (by rw [hres];exact trivial),_,.nl,l',n',γ',v',ℓ',rfl,hp,by omega,fun f=>⟨fun _ _ h _=>h,ho'.l.mono (by omega)⟩,⟨⟨hr.st.size,hr.st.dfr,fun t x h=>(by cases h),hr'.st.ext,hr'.st.vst,hr'.st.loc,hr'.st.nd⟩,fun t e he=>(by cases he),hr'.lr,hr'.nd,fun t e he=>(by cases he),hr'.ul,hr'.gh⟩,?_⟩;exact ⟨⟨[],rfl,rfl⟩,trivial⟩
     ·cases hp
    ·obtain ⟨γ',v',ℓ',vals',hr',hc',hk',hres⟩:=hr';exact ⟨hr'.st.dfr,_,ZWi hres,_,c,l',n',γ',v',ℓ',rfl,hp,by omega,fun f=>⟨fun _ _ h _=>h,ho'.mono (by omega)⟩,⟨⟨hr.st.size,hr.st.dfr,fun t x h=>(by cases h),hr'.st.ext,hr'.st.vst,hr'.st.loc,hr'.st.nd⟩,fun t e he=>(by cases he),hr'.lr,hr'.nd,fun t e he=>(by cases he),hr'.ul,hr'.gh⟩,oneV_ok hc' hk'⟩
   ·cases h
  ·cases h
theorem Zfl {v:Zb} {γ:Nat→Gh} {l:Lo} {U:Nat→Prop}:∀ {ts:List T} {vals:List Value} {x:Zka ts},ZQb v ts vals x→RR v γ l true (Z4e ts x) vals∧(Z4e ts x).ok U∧vals.length=ts.length
 | [],_,_,h=>⟨h,trivial,by rw [show _=[] from h];rfl⟩
 | [t],_,x,⟨cs,h1,h2⟩=>⟨⟨cs,[],by rw [h1];exact congrArg (fun z=>[z]) (Zfh (t:=t) (x:=x) (cs:=cs)).symm,h2,rfl⟩,⟨trivial,trivial⟩,by rw [h1];rfl⟩
 | t :: u :: r,_,x,⟨cs,vs,h1,h2,h3⟩=>by
  obtain ⟨k1,k2,k3⟩:=Zfl (γ:=γ) (l:=l) (U:=U) h3
  exact ⟨⟨cs,vs,by rw [h1];exact congrArg (· :: vs) (Zfh (t:=t) (x:=x.1) (cs:=cs)).symm,h2,k1⟩,⟨trivial,k2⟩,by rw [h1];simp [k3]⟩
theorem resR_of {v:Zb}:∀ {ts:List T} {vals:List Value} {z:Zka ts},ZQb v ts vals z→resR v ts (oneR vals) z
 | [],_,_,h=>by rw [show _=[] from h];exact ⟨[],rfl,rfl⟩
 | [t],_,x,⟨cs,h1,h2⟩=>by rw [h1];exact ⟨cs,rfl,h2⟩
 | t :: u :: r,vals,x,h=>by
  obtain ⟨cs,vs,h1,h2,h3⟩:=h
  have hl:1≤vs.length:=by
   cases r with
   | nil=>obtain ⟨cs2,e,_⟩:=h3;rw [e];simp
   | cons u2 r2=>obtain ⟨cs2,vs2,e,_⟩:=h3;rw [e];simp
  have e:oneR vals = .tuple vals.toArray:=by
   subst h1
   cases vs with
   | nil=>simp at hl
   | cons y ys=>rfl
  rw [e];exact ⟨vals,rfl,cs,vs,h1,h2,h3⟩
theorem Zso {C:Cf} (hC:CfOK C) {inl:Inl} (hinl:Z9c C inl) {f:FuncId} {fn:Func} {ann:Ann} {ats rts:List T} {x:Zka ats} {z:Zka rts} (hf:C.P.funcs[f]? = some fn) (hl:Nat.ble ats.length fn.ntmps=true) (h:Zl C inl fn ann ats rts x=some z)
  {w:World} {v:Zb} {vals:List Value} (hv:VIn v w) (ha:ZQb v ats vals x):Ret C.P f vals.toArray w v fun y v'=>resR v' rts y z:=by
 unfold Zl at h;split at h
 ·rename_i c hc;obtain ⟨h1,h2,h3⟩:=Zfl (γ:=fun _=>.box 0) (l:=[]) (U:=(· < 0)) ha;have hK:vals.length≤fn.ntmps:=by rw [h3];exact Nat.le_of_ble_eq_true hl
  refine Z3b hv hf hc rfl hK fun a hS=>?_;have hr:RelX fn.ntmps (fun _ _=>False) w v (· < 1) (· < 1) (Zqc 0 0 (Z4e ats x)) [] a w (fun _=>.box 0) v []:=by
   refine ⟨⟨hS.size,hS.dfr,fun t x h=>(by cases h),hS.ext,hS.vst,hS.loc,hS.nd⟩,fun t e he=>?_,⟨[],trivial,List.Perm.refl _⟩,List.nodup_nil,fun t e he=>?_,fun e he=>(by cases he),fun x y h=>h.elim⟩
   ·obtain ⟨y,q1,q2,q3,q4,q5⟩:=Zod h1 h2 he;have:=hS.fr t y ?_
    ·rw [this];exact q3
    ·have q2:vals[t-0]? = some y:=q2;have:=Zkk (k:=0) (t:=t) (y:=y) (by simpa using q2)
     rwa [Nat.zero_add] at this
   ·obtain ⟨y,q1,q2,q3,q4,q5⟩:=Zod h1 h2 he;exact ⟨V.ok.mono (fun k h=>absurd h (Nat.not_lt_zero k)) q4,by show e.st<1;omega⟩
  refine ZBk hC (Z2p hC hinl 20) c h ⟨_,_,_,hr⟩ ⟨fun f' l' n' a' w' hp hn' ho' hr'=>(by cases hp),fun i f' l' n' a' w' hp hn' ho' hr'=>(by cases hp),fun c l' n' a' w' hp hn' ho' hr'=>?_⟩;obtain ⟨γ',v',ℓ',vals',hr',hc',hk',hres⟩:=hr';have hr2:RelX fn.ntmps (fun _ _=>False) w v (· < n') (· < n'+1) [] l' a' w' γ' v' ℓ':=hr'.mono (fun _ h=>h) fun k h=>(show k<n'+1 by have:k<n':=h;omega);obtain ⟨y,l2,γ2,v2,ℓ2,k1,k2,k3,k4⟩:=Zsj (U:=(· < n')) (X:=(· < n'+1)) (Nat.lt_irrefl n') (Nat.lt_succ_self n') (Z5l hp) hr2 hk';have k1:some y=some z:=k1
  cases k1
  exact ⟨k2.st.dfr,_,ZWi hres,_,v2,rfl,k2.st.ext.ext,k2.st.vst.ext,resR_of (k4 _ hc')⟩
 ·cases h
def CL (P:Program):List (FuncId×Con)→Prop
 | []=>True
 | p :: r=>Zk P p.1 p.2∧CL P r
def OL (P:Program):List (FuncId×ConO)→Prop
 | []=>True
 | p :: r=>Ztg P p.1 p.2∧OL P r
def IL (P:Program):List (FuncId×ConI)→Prop
 | []=>True
 | p :: r=>ZEk P p.1 p.2∧IL P r
def ML (P:Program):List ((TypeId×String)×FuncId)→Prop
 | []=>True
 | p :: r=>(∀ y w,(method (P.types.size+Made.depth) p.1.1 y p.1.2).run P w = .ok (p.2,y) w)∧ML P r
def NL (P:Program):Inl→Prop
 | []=>True
 | p :: r=>(P.funcs[p.1]? = some p.2.1∧Z8 P p.1)∧NL P r
theorem CL_ok {P:Program}:∀ {l:List (FuncId×Con)},CL P l→∀ f c,ZEa l f=some c→Zk P f c
 | [],_,_,_,h=>by cases h
 | p :: r,hl,f,c,h=>by
  simp only [ZEa] at h
  split at h
  ·rename_i hb;cases h;rw [← Nat.eq_of_beq_eq_true hb];exact hl.1
  ·exact CL_ok hl.2 f c h
theorem OL_ok {P:Program}:∀ {l:List (FuncId×ConO)},OL P l→∀ f c,ZEa l f=some c→Ztg P f c
 | [],_,_,_,h=>by cases h
 | p :: r,hl,f,c,h=>by
  simp only [ZEa] at h
  split at h
  ·rename_i hb;cases h;rw [← Nat.eq_of_beq_eq_true hb];exact hl.1
  ·exact OL_ok hl.2 f c h
theorem IL_ok {P:Program}:∀ {l:List (FuncId×ConI)},IL P l→∀ f c,ZEa l f=some c→ZEk P f c
 | [],_,_,_,h=>by cases h
 | p :: r,hl,f,c,h=>by
  simp only [ZEa] at h
  split at h
  ·rename_i hb;cases h;rw [← Nat.eq_of_beq_eq_true hb];exact hl.1
  ·exact IL_ok hl.2 f c h
theorem ML_ok {P:Program}:∀ {l:List ((TypeId×String)×FuncId)},ML P l→∀ t s f,lkM l t s=some f→∀ y w,(method (P.types.size+Made.depth) t y s).run P w = .ok (f,y) w
 | [],_,_,_,_,h=>by cases h
 | p :: r,hl,t,s,f,h=>by
  simp only [lkM] at h
  split at h
  ·rename_i hb hs
   cases h
   rw [← Nat.eq_of_beq_eq_true hb,← eq_of_beq hs];exact hl.1
  ·exact ML_ok hl.2 t s f h
def QL (P:Program):List (FuncId×ConM)→Prop
 | []=>True
 | p :: r=>ZUg P p.1 p.2∧QL P r
theorem QL_ok {P:Program}:∀ {l:List (FuncId×ConM)},QL P l→∀ f c,ZEa l f=some c→ZUg P f c
 | [],_,_,_,h=>by cases h
 | p :: r,hl,f,c,h=>by
  simp only [ZEa] at h
  split at h
  ·rename_i hb;cases h;rw [← Nat.eq_of_beq_eq_true hb];exact hl.1
  ·exact QL_ok hl.2 f c h
theorem CfOK.of {C:Cf} (hc:CL C.P C.cons) (ho:OL C.P C.owns) (hi:IL C.P C.ins) (hm:ML C.P C.meths) (hq:QL C.P C.omats:=by exact trivial):CfOK C:=⟨CL_ok hc,OL_ok ho,IL_ok hi,ML_ok hm,QL_ok hq⟩
theorem Z9c.of {C:Cf}:∀ {l:Inl},NL C.P l→Z9c C l
 | [],_,_,_,h=>by cases h
 | p :: r,hl,g,q,h=>by
  simp only [ZEa] at h
  split at h
  ·rename_i hb;cases h;rw [← Nat.eq_of_beq_eq_true hb];exact hl.1
  ·exact Z9c.of (l:=r) hl.2 g q h
theorem Zm {C:Cf} (hc:CL C.P C.cons) (ho:OL C.P C.owns) (hi:IL C.P C.ins) (hm:ML C.P C.meths) {inl:Inl} (hn:NL C.P inl) {f:FuncId} {fn:Func} {ann:Ann} {con:Con} (hf:C.P.funcs[f]? = some fn) (hen:Z8 C.P f) (hl:Nat.ble con.args.length fn.ntmps=true)
  (h:∀ v vals x z,ZQb v con.args vals x→con.F x=some z→Zl C inl fn ann con.args con.res x=some z) (hq:QL C.P C.omats:=by exact trivial):Zk C.P f con :=
 fun _ v vals x z hv ha hz=>.inl ⟨hen,Zso (CfOK.of hc ho hi hm hq) (Z9c.of hn) hf hl (h v vals x z ha hz) hv ha⟩
theorem ZTl {C:Cf} (hc:CL C.P C.cons) (ho:OL C.P C.owns) (hi:IL C.P C.ins) (hm:ML C.P C.meths) {inl:Inl} (hn:NL C.P inl) {f:FuncId} {fn:Func} {ann:Ann} {ats rts:List T} {con:Con} (gA:Zka con.args→Zka ats) (gR:Zka con.res→Zka rts) (hA:∀ v vals x,ZQb v con.args vals x→ZQb v ats vals (gA x)) (hR:∀ v y z,resR v rts y (gR z)→resR v con.res y z)
  (hf:C.P.funcs[f]? = some fn) (hen:Z8 C.P f) (hl:Nat.ble ats.length fn.ntmps=true) (h:∀ v vals x z,ZQb v con.args vals x→con.F x=some z→Zl C inl fn ann ats rts (gA x)=some (gR z)) (hq:QL C.P C.omats:=by exact trivial):Zk C.P f con :=
 fun _ v vals x z hv ha hz=>.inl ⟨hen,(Zso (CfOK.of hc ho hi hm hq) (Z9c.of hn) hf hl (h v vals x z ha hz) hv (hA v vals x ha)).mono fun y v' _ hy=>hR v' y z hy⟩
end Go.Eng
set_option maxRecDepth 100000
set_option maxHeartbeats 4000000
namespace Go.Eng
open Go.Proofs Go.RowKit
noncomputable def ZFf:FuncId×Con:=(108,⟨[.slice (.int .u64)],[.leaf 0],fun p=>ZTa p⟩)
theorem cut_i (a:(List Int)):Zl ⟨Tryz.prog,[],[],[],[],[],[],[]⟩ [] Tryz.f108 (.two .no (.two (.cut ⟨⟨[],[],[]⟩,[(.norm,⟨[],[],[.s 0 (.dat (.slice (.int .u64)))]⟩)]⟩ (.two (.cut ⟨⟨[],[],[.s 0 (.dat (.slice (.int .u64)))]⟩,[(.exit 0,⟨[],[],[.s 0 (.dat (.slice (.int .u64)))]⟩)]⟩ (.two (.two (.two (.cut ⟨⟨[],[],[]⟩,[(.norm,⟨[0],[],[.s 14 (.dat .bool)]⟩)]⟩ .no) .no) .no) .no)) .no)) .no)) [.slice (.int .u64)] [.slice (.int .u64)] (a)=ZCi a:=by kernel_rfl
theorem cut_k:Zk Tryz.prog ZFf.1 ZFf.2:=ZTl (C:=⟨Tryz.prog,[],[],[],[],[],[],[]⟩) trivial trivial trivial trivial (inl:=[]) trivial (ann:=.two .no (.two (.cut ⟨⟨[],[],[]⟩,[(.norm,⟨[],[],[.s 0 (.dat (.slice (.int .u64)))]⟩)]⟩ (.two (.cut ⟨⟨[],[],[.s 0 (.dat (.slice (.int .u64)))]⟩,[(.exit 0,⟨[],[],[.s 0 (.dat (.slice (.int .u64)))]⟩)]⟩ (.two (.two (.two (.cut ⟨⟨[],[],[]⟩,[(.norm,⟨[0],[],[.s 14 (.dat .bool)]⟩)]⟩ .no) .no) .no) .no)) .no)) .no)) (ats:=[.slice (.int .u64)]) (rts:=[.slice (.int .u64)]) (fun x=>(x)) (fun z=>(Zc 18446744073709551616 z)) (fun _ _ _ h=>h) (fun _ _ _ h=>h) Tryz.func108 (fun _ _=>by kernel_rfl) rfl fun v vals x z ha hz=>by obtain ⟨c0,e0,p0⟩:=ha;exact (cut_i x).trans (by cases hz;exact (Zgs (ZRi p0).1 (ZRi p0).2))
end Go.Eng
set_option maxRecDepth 100000
set_option maxHeartbeats 4000000
namespace Go.Eng
open Go.Proofs Go.RowKit
noncomputable def Z4f:FuncId×Con:=(99,⟨[.int .u64],[.leaf 0],fun p=>Zvc p⟩)
theorem word_i (n:Int):Zl ⟨Tryz.prog,[(39,0)],[ZFf],[],[],[],[],[]⟩ [] Tryz.f99 .no [.int .u64] [.leaf 0] (n)=Zjj n:=by kernel_rfl
theorem ZYn:Zk Tryz.prog Z4f.1 Z4f.2:=Zm (C:=⟨Tryz.prog,[(39,0)],[ZFf],[],[],[],[],[]⟩) ⟨cut_k,trivial⟩ trivial trivial trivial (inl:=[]) trivial (ann:=.no) Tryz.func99 (fun _ _=>by kernel_rfl) rfl fun v vals x z ha hz=>(word_i x).trans (ZUs hz)
end Go.Eng
set_option maxRecDepth 100000
set_option maxHeartbeats 4000000
namespace Go.Eng
open Go.Proofs Go.RowKit
noncomputable def of_q:FuncId×Con:=(134,⟨[.int .i64],[.leaf 2],fun p=>ofF p⟩)
theorem of_i (n:Int):Zl ⟨Tryz.prog,[(39,0),(41,2),(43,3)],[Z4f],[],[],[],[],[]⟩ [] Tryz.f134 .no [.int .i64] [.leaf 2] (n)=of_m n:=by kernel_rfl
theorem of_k:Zk Tryz.prog of_q.1 of_q.2:=Zm (C:=⟨Tryz.prog,[(39,0),(41,2),(43,3)],[Z4f],[],[],[],[],[]⟩) ⟨ZYn,trivial⟩ trivial trivial trivial (inl:=[]) trivial (ann:=.no) Tryz.func134 (fun _ _=>by kernel_rfl) rfl fun v vals x z ha hz=>by obtain ⟨c0,e0,p0⟩:=ha;exact (of_i x).trans (ofF_eq p0.2 hz)
end Go.Eng
set_option maxRecDepth 100000
set_option maxHeartbeats 4000000
namespace Go.Eng
open Go.Proofs Go.RowKit
noncomputable def Zji:FuncId×Con:=(88,⟨[.int .i64],[.leaf 3],fun p=>ZFh p⟩)
theorem qint_i (n:Int):Zl ⟨Tryz.prog,[(39,0),(41,2),(43,3)],[of_q],[],[],[],[],[]⟩ [] Tryz.f88 .no [.int .i64] [.leaf 3] (n)=ZYp n:=by kernel_rfl
theorem ZNq:Zk Tryz.prog Zji.1 Zji.2:=Zm (C:=⟨Tryz.prog,[(39,0),(41,2),(43,3)],[of_q],[],[],[],[],[]⟩) ⟨of_k,trivial⟩ trivial trivial trivial (inl:=[]) trivial (ann:=.no) Tryz.func88 (fun _ _=>by kernel_rfl) rfl fun v vals x z ha hz=>(qint_i x).trans (Zkw hz)
end Go.Eng
namespace Go.Eng
open Go.RowKit
theorem Zp {α:Type _} {a b:α} (h:some a=some b):a=b:=Option.some.inj h
theorem ZP (b:Bool):b=true∨b=false:=(Bool.eq_false_or_eq_true b)
theorem leT {a b c:Zb} (h:a.le b) (k:b.le c):a.le c:=Zb.le_trans h k
theorem leR (v:Zb):v.le v:=Zb.le_refl v
theorem bO {α β:Type _} {x:Option α} {f:α→Option β} {z:β} {G:Prop} (h:bnd x f=some z) (k:∀ y,x=some y→f y=some z→G):G:=by obtain ⟨y,e,h⟩:=ZI h;exact k y e h
theorem Zw {P:Program} {Q:Exit→Act→World→Prop} {a:Act} {w:World} {id:Nat} {l:List Oper} (h:wpList P l.toArray Q l a w):(Code.region id l.toArray false).wp P Q a w:=wp_region_lit h
theorem Zo {P:Program} {Q:Exit→Act→World→Prop} {a:Act} {w:World} {x y:Code} (h:∀ K:Act→World→Prop,(∀ a w,y.wp P Q a w→K a w)→x.wp P (Exit.then K Q) a w):(Code.seq x y).wp P Q a w:=wp_seq_k h
theorem Zba {α:Type} {A:Rep α} {v v':Zb} {cs:List Value} {x:α} (hv:v.le v') (h:A.rel v cs x):A.rel v' cs x:=A.mono hv h
theorem Rflat {α:Type} (A:Rep α) {v:Zb} {cs:List Value} {x:α} (h:A.rel v cs x):cs.all plain=true:=A.flat h
theorem Atm {v v':Zb} {b off:Nat} {cs:List Value} (h:v.le v') (k:At v b off cs):At v' b off cs:=At.mono h k
end Go.Eng
namespace Go.Eng
open Go.Proofs Go.RowKit
theorem ZKt:Z2i Tryz.prog 208 20 1:=⟨5,fun _=>by kernel_rfl,fun _=>by kernel_rfl⟩
theorem Zft:Zvj Tryz.prog 148 5 .u64 .u8:=fun _ _=>by kernel_rfl
theorem Z4z:Zvj Tryz.prog 3 187 .i64 .u64:=fun _ _=>by kernel_rfl
theorem k_cv5_3:Zvj Tryz.prog 5 3 .u8 .i64:=fun _ _=>by kernel_rfl
theorem Z6r:Elem Tryz.prog 168 9 1 16 (Value.string (Zy [])):=⟨Tryz.underlying168,by kernel_rfl,rfl,by decide⟩
theorem Zqe:Elem Tryz.prog 39 148 1 8 (Value.int IntKind.u64 0):=⟨Tryz.underlying39,by kernel_rfl,rfl,by decide⟩
theorem Zkp:Z8 Tryz.prog 106:=fun _ _=>by kernel_rfl
theorem ZRf:Z8 Tryz.prog 108:=fun _ _=>by kernel_rfl
theorem ZUt:Z8 Tryz.prog 127:=fun _ _=>by kernel_rfl
theorem k_en128:Z8 Tryz.prog 128:=fun _ _=>by kernel_rfl
theorem k_en129:Z8 Tryz.prog 129:=fun _ _=>by kernel_rfl
theorem k_en130:Z8 Tryz.prog 130:=fun _ _=>by kernel_rfl
theorem k_en131:Z8 Tryz.prog 131:=fun _ _=>by kernel_rfl
theorem Zrs:Z8 Tryz.prog 142:=fun _ _=>by kernel_rfl
theorem ZTq:Z8 Tryz.prog 143:=fun _ _=>by kernel_rfl
theorem k_en144:Z8 Tryz.prog 144:=fun _ _=>by kernel_rfl
theorem k_en145:Z8 Tryz.prog 145:=fun _ _=>by kernel_rfl
theorem Z5r:Z8 Tryz.prog 166:=fun _ _=>by kernel_rfl
theorem k_en175:Z8 Tryz.prog 175:=fun _ _=>by kernel_rfl
theorem k_en176:Z8 Tryz.prog 176:=fun _ _=>by kernel_rfl
theorem ZNr:Z8 Tryz.prog 60:=fun _ _=>by kernel_rfl
theorem k_en99:Z8 Tryz.prog 99:=fun _ _=>by kernel_rfl
theorem Zms:ZVf Tryz.prog 107 add64Entry:=⟨_,Tryz.func107,by kernel_rfl,by kernel_rfl,by kernel_rfl,by kernel_rfl⟩
theorem ZQx:ZVf Tryz.prog 146 Z7m:=⟨_,Tryz.func146,by kernel_rfl,by kernel_rfl,by kernel_rfl,by kernel_rfl⟩
theorem Zff:Tryz.prog.follows .mixedOrders=true:=by kernel_rfl
theorem ZFp:Zkd Tryz.prog 168 9 1:=⟨fun _=>by kernel_rfl,fun _=>by kernel_rfl⟩
theorem ZD:Zkd Tryz.prog 39 148 1:=⟨fun _=>by kernel_rfl,fun _=>by kernel_rfl⟩
theorem Z9:Sized Tryz.prog 148 1 false:=⟨fun _=>by kernel_rfl,fun _=>by kernel_rfl⟩
theorem k_sz5:Sized Tryz.prog 5 1 false:=⟨fun _=>by kernel_rfl,fun _=>by kernel_rfl⟩
theorem k_sz9:Sized Tryz.prog 9 1 false:=⟨fun _=>by kernel_rfl,fun _=>by kernel_rfl⟩
theorem k_zv176:∀ w,(zeroValue 176).run Tryz.prog w = .ok (Value.agg #[Value.pointer none,Value.slice none 0 0]) w:=fun _=>by kernel_rfl
theorem k_zv208:∀ w,(zeroValue 208).run Tryz.prog w = .ok (Value.agg #[Value.int IntKind.u8 0,Value.int IntKind.u8 0,Value.int IntKind.u8 0,Value.int IntKind.u8 0,Value.int IntKind.u8 0,Value.int IntKind.u8 0,Value.int IntKind.u8 0,Value.int IntKind.u8 0,Value.int IntKind.u8 0,Value.int IntKind.u8 0,Value.int IntKind.u8 0,Value.int IntKind.u8 0,Value.int IntKind.u8 0,Value.int IntKind.u8 0,Value.int IntKind.u8 0,Value.int IntKind.u8 0,Value.int IntKind.u8 0,Value.int IntKind.u8 0,Value.int IntKind.u8 0,Value.int IntKind.u8 0]) w:=fun _=>by kernel_rfl
theorem cut_w {e:World} {d:Zb} (hv:VIn d e) {E:List Value} {a:(List Int)} (F:Rep.rel (Zv (Zd .u64)) d E a) {z:(List Int)} (H:ZCi a=some z):Ret Tryz.prog 108 #[(Zv (Zd .u64)).val E] e d (fun y v'=>∃ G,y=(Zv (Zd .u64)).val G∧(Zv (Zd .u64)).rel v' G z):=by
 obtain ⟨M,N,O,rfl⟩:=ZRo F;refine Z3b (K:=21) (args:=[.slice M N O]) hv Tryz.func108 rfl rfl zl fun f S=>?_;unfold ZCi at H;refine sr ?_;have S:=S.nilLoc 148 1;refine ov S rfl (Znd S (y:=.slice (mkA none) 0 0) rfl) fun f S=>oe (Zo fun _ P=>?_);obtain ⟨Q,R,T⟩:=ZI H;refine ZDa (fun f w=>∃ B j k l m,B=Q∧Zb.le d m∧St 21 e d [(0,.slice j k l)] [] m f w∧Rep.rel (Zv (Zd .u64)) m [.slice j k l] B) (fun _ U=>?_) ?_
 ·have H:=R;refine wp_block ?_;obtain ⟨am,V,W⟩:=ZI H;have S:=S.reorder (ℓ':=[]) [] rfl (by decide);refine ZRb V (fun X f w=>∃ n o q s g,n=X∧Zb.le d g∧St 21 e d [(0,.slice o q s)] [] g f w∧Rep.rel (Zv (Zd .u64)) g [.slice o q s] n) ⟨_,_,_,_,_,rfl,(leR _),(S.fr' rfl),F⟩ ?_;rintro _ f w st ⟨n,o,q,s,g,hq,I,S,c⟩ H an Y Z;subst hq;refine Zo fun _ aa=>Zo fun _ ab=>?_;obtain ⟨ac,ad,ae⟩:=ZI H;refine ZDa (fun f w=>∃ u C,u=ac∧Zb.le g C∧St 21 e d [(0,.slice o q s),(14,.bool u)] [] C f w) (fun _ J=>?_) ?_
  ·have H:=ad;refine Zw (mv S rfl fun f S=>ov S rfl (Zga S (ZN c) rfl rfl ZD) fun f S=>ov S rfl (Zg S rfl rfl ZDd) fun f S=>mv S rfl fun f S=>?_);rcases ZP (decide ((0:Int)<(n.length:Int))) with h | h
   ·have H:=ZS H h;have S:=S.bool (t:=6) rfl h;refine bO H fun ao af H=>bO H fun ap D H=>opy S rfl rfl rfl rfl (ZA S rfl) fun f S=>opy S rfl rfl rfl rfl (ZA S rfl) fun f S=>opy S rfl rfl rfl rfl (Zga S (ZN c) rfl rfl ZD) fun f S=>opy S rfl rfl rfl rfl (Zg S rfl rfl (ZIa af)) fun f S=>?_;obtain ⟨_,aq,ar,au,rfl,ag,ah⟩:=Zmb c (Zi D).2.1;obtain ⟨rfl,av⟩:=ah;refine opy S rfl rfl rfl rfl (ZV S rfl rfl ZD (Zi D).1 (ltI (ZN c) (Zi D).2.2.1)) fun f S=>opy S rfl rfl rfl rfl (Zqa S rfl Z9 (S.view ag)) fun f S=>opy S rfl rfl rfl rfl (Zg S rfl rfl ZFe) fun f S=>ov S rfl (ZYb S (b:=true) rfl rfl) fun f S=>Zt ?_;obtain rfl:=Zp H;refine Zh (J _ _ ⟨_,_,rfl,(leR _),(S.fr' rfl)⟩)
   have H:=ZQ H h;have S:=S.bool (t:=6) rfl h;refine opn S rfl rfl rfl rfl fun f S=>opn S rfl rfl rfl rfl fun f S=>opn S rfl rfl rfl rfl fun f S=>opn S rfl rfl rfl rfl fun f S=>opn S rfl rfl rfl rfl fun f S=>opn S rfl rfl rfl rfl fun f S=>opn S rfl rfl rfl rfl fun f S=>ov S rfl (ZYb S (b:=false) rfl rfl) fun f S=>Zt ?_;obtain rfl:=Zp H;refine Zh (J _ _ ⟨_,_,rfl,(leR _),(S.fr' rfl)⟩)
  rintro f w ⟨u,C,hq,v,S⟩;subst hq;have H:=ae;refine Zh (ab _ _ ?_);rcases ZP (u) with i | i
  ·have H:=ZS H i;refine ZZ S rfl i (wp_skip (Zh (aa _ _ (wp_block (bO H fun ai aj H=>bO H fun aw x H=>Zw (mv S rfl fun f S=>mv S rfl fun f S=>?_))))));have c:=Zba v c;refine ov S rfl (Zga S (ZN c) rfl rfl ZD) fun f S=>ov S rfl (Zg S rfl rfl (ZIa aj)) fun f S=>?_;obtain ⟨ax,ay,ak,L⟩:=ZJq S (A:=(Zd .u64)) (p:=(0:Int)) (r:=ai) ZD c (Zwd x).1 (Zwd x).2.1 (Zwd x).2.2.1;rw [← (Zwd x).2.2.2.1] at L;refine ov S rfl (ak rfl (.inl ⟨rfl,rfl⟩) (.inr ⟨_,_,rfl,rfl⟩)) fun f S=>mw S rfl fun f S=>Zt (ZPb ?_);obtain rfl:=Zp H;refine Y _ rfl _ _ ⟨_,_,_,_,_,rfl,(leT I v),(S.fr' rfl),L⟩
  have H:=ZQ H i;refine ZU S rfl i (wp_exit (Z4 ?_));obtain rfl:=Zp H;have hq:=Z _ rfl;subst hq;have H:=W;refine Z4 (Zub ?_);obtain rfl:=Zp H;have c:=Zba v c;refine Zh (U _ _ ⟨_,_,_,_,_,rfl,(leT (leT (leR _) I) v),(S.fr' rfl),c⟩)
 rintro f w ⟨B,j,k,l,m,hq,az,S,al⟩;subst hq;have H:=T;refine Zh (P _ _ (sr (mv S rfl fun f S=>mw S rfl fun f S=>oe (wp_ret ?_))));obtain rfl:=Zp H;refine ZQa S (Z3a rfl (Z0 S rfl)) ⟨[.slice j k l],rfl,al⟩
theorem Z3f {d:World} {b:Zb} (hv:VIn b d) {e:List Value} {a:(List Int)} (c:Rep.rel (Zv (Zd .u64)) b e a) {z:Nat} (hm:ZTa a=some z) :
  Ret Tryz.prog 108 #[(Zv (Zd .u64)).val e] d b (fun y v'=>∃ f,y=Zx.val f∧Zx.rel v' f z) :=
 by cases hm;exact cut_w hv c (Zgs (ZRi c).1 (ZRi c).2)
theorem len64_w {b:World} {a:Zb} (hv:VIn a b) {q:List Value} {x:Int} (J:Rep.rel (Zd .u64) a q x) {z:Int} (H:ZQj x=some z):Ret Tryz.prog 175 #[(Zd .u64).val q] b a (fun y v'=>∃ r,y=(Zd .i64).val r∧(Zd .i64).rel v' r z):=by
 obtain ⟨rfl,s⟩:=J;refine Z3b (K:=25) (args:=[.int .u64 x]) hv Tryz.func175 rfl rfl zl fun f S=>?_;unfold ZQj at H;refine sr (mw S rfl fun f S=>oe (Zo fun _ L=>sr (mv S rfl fun f S=>ov S rfl (Zg S rfl rfl Zyc) fun f S=>oe ?_)));obtain ⟨M,N,O⟩:=ZI H;refine ZDa (fun f w=>∃ c i j,(c,i)=M∧Zb.le a j∧St 25 b a [(0,.int .u64 c),(2,.int .i64 i)] [] j f w∧inR .u64 c∧inR .i64 i) (fun _ t=>?_) ?_
 ·have H:=N;rcases ZP (decide ((4294967296:Int)≤x)) with d | d
  ·have H:=ZS H d;refine ZZ S rfl d (Zo fun _ P=>bO H fun ag u H=>Zw (mv S rfl fun f S=>ov S rfl (Zg S rfl rfl (Z5b u)) fun f S=>mw S rfl fun f S=>Zt (Zh (P _ _ (Zw (mw S rfl fun f S=>Zt ?_))))));obtain rfl:=Zp H;refine Zh (t _ _ ⟨_,_,_,rfl,(leR _),(S.fr' rfl),(Zog s u),(by decide)⟩)
  have H:=ZQ H d;refine ZU S rfl d (wp_skip ?_);obtain rfl:=Zp H;refine Zh (t _ _ ⟨_,_,_,rfl,(leR _),(S.fr' rfl),s,(by decide)⟩)
 rintro f w ⟨c,i,j,hq,ah,S,v,Q⟩;subst hq;have H:=O;refine Zh (L _ _ (Zo fun _ R=>sr (mv S rfl fun f S=>ov S rfl (Zg S rfl rfl Zyc) fun f S=>oe ?_)));obtain ⟨T,U,V⟩:=ZI H;refine ZDa (fun f w=>∃ e k m,(e,k)=T∧Zb.le j m∧St 25 b a [(0,.int .u64 e),(2,.int .i64 k)] [] m f w∧inR .u64 e∧inR .i64 k) (fun _ A=>?_) ?_
 ·have H:=U;rcases ZP (decide ((65536:Int)≤c)) with g | g
  ·have H:=ZS H g;refine ZZ S rfl g (Zo fun _ W=>bO H fun ai B H=>Zw (mv S rfl fun f S=>ov S rfl (Zg S rfl rfl (Z5b B)) fun f S=>mw S rfl fun f S=>Zt (Zh (W _ _ (bO H fun aj C H=>Zw (mv S rfl fun f S=>ov S rfl (Zg S rfl rfl (ZYa C)) fun f S=>mw S rfl fun f S=>?_))))));refine Zt ?_;obtain rfl:=Zp H;refine Zh (A _ _ ⟨_,_,_,rfl,(leR _),(S.fr' rfl),(Zog v B),(ZHa C).2⟩)
  have H:=ZQ H g;refine ZU S rfl g (wp_skip ?_);obtain rfl:=Zp H;refine Zh (A _ _ ⟨_,_,_,rfl,(leR _),(S.fr' rfl),v,Q⟩)
 rintro f w ⟨e,k,m,hq,ak,S,D,X⟩;subst hq;have H:=V;refine Zh (R _ _ (Zo fun _ Y=>sr (mv S rfl fun f S=>ov S rfl (Zg S rfl rfl Zyc) fun f S=>oe ?_)));obtain ⟨Z,aa,ab⟩:=ZI H;refine ZDa (fun f w=>∃ n o p,(n,o)=Z∧Zb.le m p∧St 25 b a [(0,.int .u64 n),(2,.int .i64 o)] [] p f w∧inR .u64 n∧inR .i64 o) (fun _ E=>?_) ?_
 ·have H:=aa;rcases ZP (decide ((256:Int)≤e)) with h | h
  ·have H:=ZS H h;refine ZZ S rfl h (Zo fun _ ac=>bO H fun al F H=>Zw (mv S rfl fun f S=>ov S rfl (Zg S rfl rfl (Z5b F)) fun f S=>mw S rfl fun f S=>Zt (Zh (ac _ _ (bO H fun am G H=>Zw (mv S rfl fun f S=>ov S rfl (Zg S rfl rfl (ZYa G)) fun f S=>mw S rfl fun f S=>?_))))));refine Zt ?_;obtain rfl:=Zp H;refine Zh (E _ _ ⟨_,_,_,rfl,(leR _),(S.fr' rfl),(Zog D F),(ZHa G).2⟩)
  have H:=ZQ H h;refine ZU S rfl h (wp_skip ?_);obtain rfl:=Zp H;refine Zh (E _ _ ⟨_,_,_,rfl,(leR _),(S.fr' rfl),D,X⟩)
 rintro f w ⟨n,o,p,hq,an,S,ao,ap⟩;subst hq;have H:=ab;refine Zh (Y _ _ (Zo fun _ ad=>bO H fun aq ae H=>bO H fun af I H=>Zw (mv S rfl fun f S=>mv S rfl fun f S=>ov S rfl (ZNd S rfl (Zft _)) fun f S=>ov S rfl (ZMq S (l:=([0,1,2,2,3,3,3,3,4,4,4,4,4,4,4,4,5,5,5,5,5,5,5,5,5,5,5,5,5,5,5,5,6,6,6,6,6,6,6,6,6,6,6,6,6,6,6,6,6,6,6,6,6,6,6,6,6,6,6,6,6,6,6,6,7,7,7,7,7,7,7,7,7,7,7,7,7,7,7,7,7,7,7,7,7,7,7,7,7,7,7,7,7,7,7,7,7,7,7,7,7,7,7,7,7,7,7,7,7,7,7,7,7,7,7,7,7,7,7,7,7,7,7,7,7,7,7,7,8,8,8,8,8,8,8,8,8,8,8,8,8,8,8,8,8,8,8,8,8,8,8,8,8,8,8,8,8,8,8,8,8,8,8,8,8,8,8,8,8,8,8,8,8,8,8,8,8,8,8,8,8,8,8,8,8,8,8,8,8,8,8,8,8,8,8,8,8,8,8,8,8,8,8,8,8,8,8,8,8,8,8,8,8,8,8,8,8,8,8,8,8,8,8,8,8,8,8,8,8,8,8,8,8,8,8,8,8,8,8,8,8,8,8,8,8,8,8,8,8,8,8,8,8,8,8,8]:List UInt8)) (by kernel_rfl) rfl Tryz.underlying9 ae) fun f S=>ov S rfl (ZNd S rfl (k_cv5_3 _)) fun f S=>ov S rfl (Zg S rfl rfl (ZYa I)) fun f S=>mw S rfl fun f S=>Zt (Zh (ad _ _ ?_)))));refine wp_ret ?_;obtain rfl:=Zp H;refine ZQa S (Z3a rfl (Z0 S rfl)) ⟨[.int .i64 af],rfl,(ZE (ZHa I).2)⟩
theorem len64_c {b:World} {a:Zb} (hv:VIn a b) {c:List Value} {x:Int} (e:Rep.rel (Zd .u64) a c x) {z:Int} (hm:ZVj x=some z) :
  Ret Tryz.prog 175 #[(Zd .u64).val c] b a (fun y v'=>∃ d,y=(Zd .i64).val d∧(Zd .i64).rel v' d z) :=
 len64_w hv e (ZGu hm)
theorem lz64_w {b:World} {a:Zb} (hv:VIn a b) {c:List Value} {x:Int} (g:Rep.rel (Zd .u64) a c x) {z:Int} (H:Zhn x=some z):Ret Tryz.prog 142 #[(Zd .u64).val c] b a (fun y v'=>∃ d,y=(Zd .i64).val d∧(Zd .i64).rel v' d z):=by
 obtain ⟨rfl,h⟩:=g;refine Z3b (K:=6) (args:=[.int .u64 x]) hv Tryz.func142 rfl rfl zl fun f S=>?_;unfold Zhn at H;refine sr (mw S rfl fun f S=>oe (Zo fun _ i=>bO H fun m j H=>bO H fun k e H=>Zw (mv S rfl fun f S=>opc S rfl (Zea S [.int .u64 x] k_en175 rfl rfl) (len64_c S.vin (show Rep.rel (Zd .u64) _ [.int .u64 x] x from (ZE h)) j) ?_)));rintro _ n f w o ⟨p,rfl,l⟩ S;obtain ⟨rfl,q⟩:=l;refine ov S rfl (Zg S rfl rfl (ZIa e)) fun f S=>mw S rfl fun f S=>Zt (Zh (i _ _ (wp_ret ?_)));obtain rfl:=Zp H;refine ZQa S (Z3a rfl (Z0 S rfl)) ⟨[.int .i64 k],rfl,(ZE (ZHa e).2)⟩
theorem Zts {b:World} {a:Zb} (hv:VIn a b) {c:List Value} {x:Int} (e:Rep.rel (Zd .u64) a c x) {z:Int} (hm:ZTe x=some z) :
  Ret Tryz.prog 142 #[(Zd .u64).val c] b a (fun y v'=>∃ d,y=(Zd .i64).val d∧(Zd .i64).rel v' d z) :=
 lz64_w hv e (Z2w hm)
theorem div64_w {e:World} {c:Zb} (hv:VIn c e) {X:List Value} {hi:Int} (p0:Rep.rel (Zd .u64) c X hi) {Y:List Value} {lo:Int} (p1:Rep.rel (Zd .u64) c Y lo) {Z:List Value} {y:Int} (p2:Rep.rel (Zd .u64) c Z y) {z:Int×Int} (H:ZMj hi lo y=some z):Ret Tryz.prog 166 #[(Zd .u64).val X,(Zd .u64).val Y,(Zd .u64).val Z] e c (fun y v'=>∃ r0 M,y = .tuple #[(Zd .u64).val r0,(Zd .u64).val M]∧(Zd .u64).rel v' r0 z.1∧(Zd .u64).rel v' M z.2):=by
 obtain ⟨rfl,M⟩:=p0;obtain ⟨rfl,r2⟩:=p1;obtain ⟨rfl,r3⟩:=p2;refine Z3b (K:=135) (args:=[.int .u64 hi,.int .u64 lo,.int .u64 y]) hv Tryz.func166 rfl rfl zl fun f S=>?_;unfold ZMj at H;refine sr (mw S rfl fun f S=>mw S rfl fun f S=>oe (Zo fun _ an=>sr (mv S rfl fun f S=>ov S rfl (Zg S rfl rfl ZFe) fun f S=>oe ?_)));rcases ZP (y==(0:Int)) with q | q
 ·have H:=ZS H q;refine ZZ S rfl q ?_
  cases H
 have H:=ZQ H q;refine ZU S rfl q (wp_skip (Zh (an _ _ (Zo fun _ ao=>sr (mv S rfl fun f S=>mv S rfl fun f S=>ov S rfl (Zg S rfl rfl ZJo) fun f S=>oe ?_)))));rcases ZP (decide (y≤hi)) with r | r
 ·have H:=ZS H r;refine ZZ S rfl r ?_
  cases H
 have H:=ZQ H r;refine ZU S rfl r (wp_skip (Zh (ao _ _ (Zo fun _ ap=>sr (mv S rfl fun f S=>ov S rfl (Zg S rfl rfl ZFe) fun f S=>oe ?_)))));rcases ZP (hi==(0:Int)) with s | s
 ·have H:=ZS H s;refine ZZ S rfl s (Zo fun _ aq=>bO H fun ar aa H=>bO H fun au N H=>ZOe (fl:=#[true,true,true,true,true,true,false,false]) Zff (by kernel_rfl) S ?_);intro ops O F w S;refine rfa O F 0 rfl rfl S (ZA S rfl) fun f S=>rfa O F 1 rfl rfl S (ZA S rfl) fun f S=>rfa O F 2 rfl rfl S (Zg S rfl rfl (ZBc aa)) fun f S=>rfa O F 3 rfl rfl S (ZA S rfl) fun f S=>rfa O F 4 rfl rfl S (ZA S rfl) fun f S=>rfa O F 5 rfl rfl S (Zg S rfl rfl (ZYf N)) fun f S=>go1 O F 6 (nva [0,1,2] [3,4,5] O rfl rfl S (Znd S rfl) fun f S=>⟨(py S rfl rfl (ZA S rfl) (py S rfl rfl (ZA S rfl) (py S rfl rfl (Zg S rfl rfl (ZYf N)) ZCc))),go1 O F 7 (nva [0,1,2,3,4,5,6] [] O rfl rfl S (Znd S rfl) fun f S=>⟨ZCc,Zvf O F (Zh (aq _ _ ?_))⟩)⟩);refine wp_ret (Zbb ?_);obtain rfl:=Zp H;refine ZQa S (ZGf rfl (Z0 S rfl) (Z0 S rfl)) ⟨[.int .u64 ar],[.int .u64 au],rfl,(ZE (ZOi aa)),(ZE (Zer r2 N))⟩
 have H:=ZQ H s;refine ZU S rfl s (wp_skip (Zh (ap _ _ (Zo fun _ av=>bO H fun h aw H=>Zw (mv S rfl fun f S=>opc S rfl (Zea S [.int .u64 y] Zrs rfl rfl) (Zts S.vin (show Rep.rel (Zd .u64) _ [.int .u64 y] y from (ZE r3)) aw) ?_)))));rintro _ ab f w bd ⟨be,rfl,ax⟩ S;obtain ⟨rfl,bf⟩:=ax;refine ov S rfl (ZNd S rfl (Z4z _)) fun f S=>mw S rfl fun f S=>Zt (Zh (av _ _ (Zo fun _ ay=>bO H fun a az H=>Zw (mv S rfl fun f S=>mv S rfl fun f S=>ov S rfl (Zg S rfl rfl (Zdh az)) fun f S=>mw S rfl fun f S=>Zt (Zh (ay _ _ (Zo fun _ aA=>?_)))))));refine bO H fun g aB H=>Zw (mv S rfl fun f S=>ov S rfl (Zg S rfl rfl (Z5b aB)) fun f S=>mw S rfl fun f S=>Zt (Zh (aA _ _ (sr (mv S rfl fun f S=>ov S rfl (Zg S rfl rfl Z9g) fun f S=>mw S rfl fun f S=>oe (Zo fun _ aC=>bO H fun i aD H=>?_))))));refine bO H fun j aE H=>Zw (mv S rfl fun f S=>mv S rfl fun f S=>ov S rfl (Zg S rfl rfl (Zdh aD)) fun f S=>mv S rfl fun f S=>mv S rfl fun f S=>ov S rfl (Zg S rfl rfl ZRd) fun f S=>ov S rfl (Zg S rfl rfl (Z5b aE)) fun f S=>ov S rfl (Zg S rfl rfl Zbl) fun f S=>mw S rfl fun f S=>Zt ?_);have S:=S.fr' (σ':=[(1,.int .u64 lo),(2,.int .u64 a),(8,.int .u64 (IntKind.u64.wrap h)),(9,.int .u64 g),(10,.int .u64 (ZK .u64 a (4294967295:Int))),(11,.int .u64 (orI .u64 i j))]) rfl
 refine Zh (aC _ _ (Zo fun _ aF=>bO H fun k aG H=>Zw (mv S rfl fun f S=>mv S rfl fun f S=>ov S rfl (Zg S rfl rfl (Zdh aG)) fun f S=>mw S rfl fun f S=>Zt (Zh (aF _ _ (Zo fun _ aH=>bO H fun l aI H=>Zw (mv S rfl fun f S=>?_)))))));refine ov S rfl (Zg S rfl rfl (Z5b aI)) fun f S=>mw S rfl fun f S=>Zt (Zh (aH _ _ (sr (mv S rfl fun f S=>ov S rfl (Zg S rfl rfl Z9g) fun f S=>mw S rfl fun f S=>oe (Zo fun _ aJ=>bO H fun bg ac H=>Zw (mv S rfl fun f S=>mv S rfl fun f S=>?_))))));refine ov S rfl (Zg S rfl rfl (ZBc ac)) fun f S=>mw S rfl fun f S=>Zt (Zh (aJ _ _ (sr (mv S rfl fun f S=>mv S rfl fun f S=>mv S rfl fun f S=>ov S rfl (Zg S rfl rfl ZJb) fun f S=>ov S rfl (Zg S rfl rfl ZRd) fun f S=>mw S rfl fun f S=>oe (Zo fun _ aK=>?_)))));obtain ⟨aL,aM,aN⟩:=ZI H;refine ZDa (fun f w=>∃ d u,d=aL∧Zb.le ab u∧St 135 e c [(2,.int .u64 a),(8,.int .u64 (IntKind.u64.wrap h)),(9,.int .u64 g),(10,.int .u64 (ZK .u64 a (4294967295:Int))),(11,.int .u64 (orI .u64 i j)),(13,.int .u64 l),(14,.int .u64 (ZK .u64 k (4294967295:Int))),(15,.int .u64 d)] [] u f w∧inR .u64 d) (fun _ ad=>?_) ?_
 ·have H:=aM;refine wp_block ?_;obtain ⟨bh,aO,ae⟩:=ZI H;refine ZRb aO (fun aP f w=>∃ m n G,(m,n)=aP∧Zb.le ab G∧St 135 e c [(2,.int .u64 a),(8,.int .u64 (IntKind.u64.wrap h)),(9,.int .u64 g),(10,.int .u64 (ZK .u64 a (4294967295:Int))),(11,.int .u64 (orI .u64 i j)),(13,.int .u64 l),(14,.int .u64 (ZK .u64 k (4294967295:Int))),(15,.int .u64 m),(16,.int .u64 n)] [] G f w∧inR .u64 m∧inR .u64 n) ⟨_,_,_,rfl,(leR _),(S.fr' rfl),(ZOi ac),(Zza _ _)⟩ ?_;rintro _ f w st ⟨m,n,G,hq,P,S,aQ,bi⟩ H bj aR af;subst hq;refine Zo fun _ aS=>Zo fun _ aT=>?_;obtain ⟨aU,aV,aW⟩:=ZI H;refine ZDa (fun f w=>∃ I Q,I=aU∧Zb.le G Q∧St 135 e c [(2,.int .u64 a),(8,.int .u64 (IntKind.u64.wrap h)),(9,.int .u64 g),(10,.int .u64 (ZK .u64 a (4294967295:Int))),(11,.int .u64 (orI .u64 i j)),(13,.int .u64 l),(14,.int .u64 (ZK .u64 k (4294967295:Int))),(15,.int .u64 m),(16,.int .u64 n),(78,.bool I)] [] Q f w) (fun _ ag=>?_) ?_
  ·have H:=aV;refine Zw (mv S rfl fun f S=>ov S rfl (Zg S rfl rfl Zyc) fun f S=>mv S rfl fun f S=>?_);rcases ZP (decide ((4294967296:Int)≤m)) with v | v
   ·have H:=ZS H v;have S:=S.bool (t:=69) rfl v;refine opn S rfl rfl rfl rfl fun f S=>opn S rfl rfl rfl rfl fun f S=>opn S rfl rfl rfl rfl fun f S=>opn S rfl rfl rfl rfl fun f S=>opn S rfl rfl rfl rfl fun f S=>opn S rfl rfl rfl rfl fun f S=>opn S rfl rfl rfl rfl fun f S=>opn S rfl rfl rfl rfl fun f S=>ov S rfl (ZYb S (b:=true) rfl rfl) fun f S=>Zt ?_;obtain rfl:=Zp H;refine Zh (ag _ _ ⟨_,_,rfl,(leR _),(S.fr' rfl)⟩)
   have H:=ZQ H v;have S:=S.bool (t:=69) rfl v;refine opy S rfl rfl rfl rfl (ZA S rfl) fun f S=>opy S rfl rfl rfl rfl (ZA S rfl) fun f S=>opy S rfl rfl rfl rfl (Zg S rfl rfl ZJb) fun f S=>opy S rfl rfl rfl rfl (ZA S rfl) fun f S=>opy S rfl rfl rfl rfl (Zg S rfl rfl ZJb) fun f S=>opy S rfl rfl rfl rfl (ZA S rfl) fun f S=>opy S rfl rfl rfl rfl (Zg S rfl rfl Zlc) fun f S=>opy S rfl rfl rfl rfl (Zg S rfl rfl ZDd) fun f S=>ov S rfl (ZYb S (b:=false) rfl rfl) fun f S=>Zt ?_;obtain rfl:=Zp H;refine Zh (ag _ _ ⟨_,_,rfl,(leR _),(S.fr' rfl)⟩)
  rintro f w ⟨I,Q,hq,R,S⟩;subst hq;have H:=aW;refine Zh (aT _ _ ?_);rcases ZP (I) with x | x
  ·have H:=ZS H x;refine ZZ S rfl x (wp_skip (Zh (aS _ _ (wp_block (sr (mv S rfl fun f S=>ov S rfl (Zg S rfl rfl ZRd) fun f S=>mw S rfl fun f S=>oe (sr (mv S rfl fun f S=>mv S rfl fun f S=>ov S rfl (Zg S rfl rfl Zlc) fun f S=>mw S rfl fun f S=>?_))))))));refine oe (sr (mv S rfl fun f S=>ov S rfl (Zg S rfl rfl Zyc) fun f S=>oe ?_));rcases ZP (decide ((4294967296:Int)≤IntKind.u64.wrap (n+g))) with A | A
   ·have H:=ZS H A;refine ZZ S rfl A (wp_exit (Zal rfl ?_));obtain rfl:=Zp H;have hq:=af _ rfl;subst hq;have H:=ae;refine Z4 (Zub ?_);obtain rfl:=Zp H;refine Zh (ad _ _ ⟨_,_,rfl,(leT (leT (leR _) P) R),(S.fr' rfl),(Zza _ _)⟩)
   have H:=ZQ H A;refine ZU S rfl A (wp_skip (ZPb ?_));obtain rfl:=Zp H;refine aR _ rfl _ _ ⟨_,_,_,rfl,(leT P R),(S.fr' rfl),(Zza _ _),(Zza _ _)⟩
  have H:=ZQ H x;refine ZU S rfl x (wp_exit (Z4 ?_));obtain rfl:=Zp H;have hq:=af _ rfl;subst hq;have H:=ae;refine Z4 (Zub ?_);obtain rfl:=Zp H;refine Zh (ad _ _ ⟨_,_,rfl,(leT (leT (leR _) P) R),(S.fr' rfl),aQ⟩)
 rintro f w ⟨d,u,hq,bk,S,bm⟩;subst hq;have H:=aN;refine Zh (aK _ _ (sr (mv S rfl fun f S=>ov S rfl (Zg S rfl rfl ZJb) fun f S=>mv S rfl fun f S=>ov S rfl (Zg S rfl rfl Zlc) fun f S=>mv S rfl fun f S=>mv S rfl fun f S=>ov S rfl (Zg S rfl rfl ZJb) fun f S=>ov S rfl (Zg S rfl rfl ZRd) fun f S=>mw S rfl fun f S=>oe (Zo fun _ aX=>bO H fun bn ah H=>?_))));refine Zw (mv S rfl fun f S=>mv S rfl fun f S=>ov S rfl (Zg S rfl rfl (ZBc ah)) fun f S=>mw S rfl fun f S=>Zt (Zh (aX _ _ (sr (mv S rfl fun f S=>mv S rfl fun f S=>mv S rfl fun f S=>ov S rfl (Zg S rfl rfl ZJb) fun f S=>ov S rfl (Zg S rfl rfl ZRd) fun f S=>mw S rfl fun f S=>?_)))));refine oe (Zo fun _ aY=>?_);obtain ⟨aZ,a0,a1⟩:=ZI H;refine ZDa (fun f w=>∃ B T,B=aZ∧Zb.le u T∧St 135 e c [(2,.int .u64 a),(8,.int .u64 (IntKind.u64.wrap h)),(14,.int .u64 (ZK .u64 k (4294967295:Int))),(15,.int .u64 d),(17,.int .u64 (IntKind.u64.wrap ((IntKind.u64.wrap ((IntKind.u64.wrap ((orI .u64 i j)*(4294967296:Int)))+l))-(IntKind.u64.wrap (d*a))))),(18,.int .u64 B)] [] T f w∧inR .u64 B) (fun _ ai=>?_) ?_
 ·have H:=a0;refine wp_block ?_;obtain ⟨bo,a2,aj⟩:=ZI H;refine ZRb a2 (fun a3 f w=>∃ o p J,(o,p)=a3∧Zb.le u J∧St 135 e c [(2,.int .u64 a),(8,.int .u64 (IntKind.u64.wrap h)),(9,.int .u64 g),(10,.int .u64 (ZK .u64 a (4294967295:Int))),(14,.int .u64 (ZK .u64 k (4294967295:Int))),(15,.int .u64 d),(16,.int .u64 o),(17,.int .u64 (IntKind.u64.wrap ((IntKind.u64.wrap ((IntKind.u64.wrap ((orI .u64 i j)*(4294967296:Int)))+l))-(IntKind.u64.wrap (d*a))))),(18,.int .u64 p)] [] J f w∧inR .u64 o∧inR .u64 p) ⟨_,_,_,rfl,(leR _),(S.fr' rfl),(Zza _ _),(ZOi ah)⟩ ?_;rintro _ f w st ⟨o,p,J,hq,U,S,bp,a4⟩ H bq a5 ak;subst hq;refine Zo fun _ a6=>Zo fun _ a7=>?_;obtain ⟨a8,a9,ba⟩:=ZI H;refine ZDa (fun f w=>∃ L V,L=a8∧Zb.le J V∧St 135 e c [(2,.int .u64 a),(8,.int .u64 (IntKind.u64.wrap h)),(9,.int .u64 g),(10,.int .u64 (ZK .u64 a (4294967295:Int))),(14,.int .u64 (ZK .u64 k (4294967295:Int))),(15,.int .u64 d),(16,.int .u64 o),(17,.int .u64 (IntKind.u64.wrap ((IntKind.u64.wrap ((IntKind.u64.wrap ((orI .u64 i j)*(4294967296:Int)))+l))-(IntKind.u64.wrap (d*a))))),(18,.int .u64 p),(113,.bool L)] [] V f w) (fun _ al=>?_) ?_
  ·have H:=a9;refine Zw (mv S rfl fun f S=>ov S rfl (Zg S rfl rfl Zyc) fun f S=>mv S rfl fun f S=>?_);rcases ZP (decide ((4294967296:Int)≤p)) with C | C
   ·have H:=ZS H C;have S:=S.bool (t:=104) rfl C;refine opn S rfl rfl rfl rfl fun f S=>opn S rfl rfl rfl rfl fun f S=>opn S rfl rfl rfl rfl fun f S=>opn S rfl rfl rfl rfl fun f S=>opn S rfl rfl rfl rfl fun f S=>opn S rfl rfl rfl rfl fun f S=>opn S rfl rfl rfl rfl fun f S=>opn S rfl rfl rfl rfl fun f S=>ov S rfl (ZYb S (b:=true) rfl rfl) fun f S=>Zt ?_;obtain rfl:=Zp H;refine Zh (al _ _ ⟨_,_,rfl,(leR _),(S.fr' rfl)⟩)
   have H:=ZQ H C;have S:=S.bool (t:=104) rfl C;refine opy S rfl rfl rfl rfl (ZA S rfl) fun f S=>opy S rfl rfl rfl rfl (ZA S rfl) fun f S=>opy S rfl rfl rfl rfl (Zg S rfl rfl ZJb) fun f S=>opy S rfl rfl rfl rfl (ZA S rfl) fun f S=>opy S rfl rfl rfl rfl (Zg S rfl rfl ZJb) fun f S=>opy S rfl rfl rfl rfl (ZA S rfl) fun f S=>opy S rfl rfl rfl rfl (Zg S rfl rfl Zlc) fun f S=>opy S rfl rfl rfl rfl (Zg S rfl rfl ZDd) fun f S=>ov S rfl (ZYb S (b:=false) rfl rfl) fun f S=>Zt ?_;obtain rfl:=Zp H;refine Zh (al _ _ ⟨_,_,rfl,(leR _),(S.fr' rfl)⟩)
  rintro f w ⟨L,V,hq,W,S⟩;subst hq;have H:=ba;refine Zh (a7 _ _ ?_);rcases ZP (L) with D | D
  ·have H:=ZS H D;refine ZZ S rfl D (wp_skip (Zh (a6 _ _ (wp_block (sr (mv S rfl fun f S=>ov S rfl (Zg S rfl rfl ZRd) fun f S=>mw S rfl fun f S=>oe (sr (mv S rfl fun f S=>mv S rfl fun f S=>ov S rfl (Zg S rfl rfl Zlc) fun f S=>mw S rfl fun f S=>?_))))))));refine oe (sr (mv S rfl fun f S=>ov S rfl (Zg S rfl rfl Zyc) fun f S=>oe ?_));rcases ZP (decide ((4294967296:Int)≤IntKind.u64.wrap (o+g))) with E | E
   ·have H:=ZS H E;refine ZZ S rfl E (wp_exit (Zal rfl ?_));obtain rfl:=Zp H;have hq:=ak _ rfl;subst hq;have H:=aj;refine Z4 (Zub ?_);obtain rfl:=Zp H;refine Zh (ai _ _ ⟨_,_,rfl,(leT (leT (leR _) U) W),(S.fr' rfl),(Zza _ _)⟩)
   have H:=ZQ H E;refine ZU S rfl E (wp_skip (ZPb ?_));obtain rfl:=Zp H;refine a5 _ rfl _ _ ⟨_,_,_,rfl,(leT U W),(S.fr' rfl),(Zza _ _),(Zza _ _)⟩
  have H:=ZQ H D;refine ZU S rfl D (wp_exit (Z4 ?_));obtain rfl:=Zp H;have hq:=ak _ rfl;subst hq;have H:=aj;refine Z4 (Zub ?_);obtain rfl:=Zp H;refine Zh (ai _ _ ⟨_,_,rfl,(leT (leT (leR _) U) W),(S.fr' rfl),a4⟩)
 rintro f w ⟨B,T,hq,br,S,bs⟩;subst hq;have H:=a1;refine Zh (aY _ _ (Zo fun _ bb=>bO H fun bc am H=>Zw (mv S rfl fun f S=>ov S rfl (Zg S rfl rfl ZJb) fun f S=>mv S rfl fun f S=>ov S rfl (Zg S rfl rfl Zlc) fun f S=>mv S rfl fun f S=>ov S rfl (Zg S rfl rfl ZJb) fun f S=>mv S rfl fun f S=>ov S rfl (Zg S rfl rfl Zlc) fun f S=>mv S rfl fun f S=>mv S rfl fun f S=>?_)));refine ov S rfl (Zg S rfl rfl ZJb) fun f S=>ov S rfl (Zg S rfl rfl ZRd) fun f S=>mv S rfl fun f S=>ov S rfl (Zg S rfl rfl (Z5b am)) fun f S=>mw S rfl fun f S=>mw S rfl fun f S=>Zt (Zh (bb _ _ (wp_ret ?_)));obtain rfl:=Zp H;refine ZQa S (ZGf rfl (Z0 S rfl) (Z0 S rfl)) ⟨[.int .u64 (IntKind.u64.wrap ((IntKind.u64.wrap (d*(4294967296:Int)))+B))],[.int .u64 bc],rfl,(ZE (Zza _ _)),(ZE (Zog (Zza _ _) am))⟩
theorem ZQq {b:World} {a:Zb} (hv:VIn a b) {c:List Value} {hi:Int} (h:Rep.rel (Zd .u64) a c hi) {d:List Value} {lo:Int} (i:Rep.rel (Zd .u64) a d lo) {e:List Value} {y:Int} (j:Rep.rel (Zd .u64) a e y) {z:Int×Int} (hm:Zfe hi lo y=some z) :
  Ret Tryz.prog 166 #[(Zd .u64).val c,(Zd .u64).val d,(Zd .u64).val e] b a (fun y v'=>∃ f g,y=Value.tuple #[(Zd .u64).val f,(Zd .u64).val g]∧(Zd .u64).rel v' f z.1∧(Zd .u64).rel v' g z.2) :=
 div64_w hv h i j (Zrv hm)
theorem Zjy {E:World} {d:Zb} (hv:VIn d E) {R:List Value} {a:Nat} (g:Rep.rel Zx d R a) {T:List Value} {n:Int} (p1:Rep.rel (Zd .u64) d T n) {z:Nat×Int} (H:ZVi a n=some z):Ret Tryz.prog 127 #[Zx.val R,(Zd .u64).val T] E d (fun y v'=>∃ U V,y = .tuple #[Zx.val U,(Zd .u64).val V]∧Zx.rel v' U z.1∧(Zd .u64).rel v' V z.2):=by
 obtain ⟨W,X,Y,rfl⟩:=Zsa g;obtain ⟨rfl,r4⟩:=p1;refine Z3b (K:=35) (args:=[.slice W X Y,.int .u64 n]) hv Tryz.func127 rfl rfl zl fun f S=>?_;unfold ZVi at H;refine sr (mw S rfl fun f S=>mw S rfl fun f S=>oe (Zo fun _ ah=>bO H fun y9 F H=>Zw (mv S rfl fun f S=>ov S rfl (Zga S (ZN g) rfl rfl ZD) fun f S=>?_)));obtain ⟨Z,aa⟩:∃ c:List Value,c=(List.replicate ((((Zc 18446744073709551616 a)).length:Int)).toNat [.int .u64 0]).flatten:=⟨_,rfl⟩;obtain ⟨ai,w,aj,S⟩:=ZBi Zqe S (l:=(((Zc 18446744073709551616 a)).length:Int)) (c:=(((Zc 18446744073709551616 a)).length:Int)) (Z2a F).1 (Z2a F).2.1 (Z2a F).2.2.1 (Z2a F).2.2.2 aa;have ak:Rep.rels (Zd .u64) d Z (List.replicate ((((Zc 18446744073709551616 a)).length:Int)).toNat (0:Int)):=by rw [aa];exact Z1e (show Rep.rel (Zd .u64) _ [.int .u64 0] _ from (ZE (by decide))) _
 refine ZTb wn rfl zl (aj rfl rfl) S fun f S=>mw S rfl fun f S=>Zt (Zh (ah _ _ (sr (mw S rfl fun f S=>oe (Zo fun _ al=>Zo fun _ am=>bO H fun aV ab H=>Zw (mv S rfl fun f S=>ov S rfl (Zga S (ZN g) rfl rfl ZD) fun f S=>ov S rfl (Zg S rfl rfl (ZIa ab)) fun f S=>?_))))));refine mw S rfl fun f S=>Zt (Zh (am _ _ ?_));obtain ⟨an,ao,ap⟩:=ZI H;refine ZDa (fun f w=>∃ o s t p u L G,(o,s)=an∧Zb.le d G∧St 35 E d [(6,.slice (mkA t) p u),(7,.int .u64 s)] [Loc.own t 148 1 p u L] G f w∧Rep.rels (Zd .u64) G L o∧p=o.length∧inR .u64 s) (fun _ aq=>?_) ?_
 ·have H:=ao;refine wp_block ?_;obtain ⟨aW,ar,au⟩:=ZI H;refine ZRb ar (fun av f w=>∃ q h b I k v e J,(q,h,b)=av∧Zb.le d J∧St 35 E d [(0,.slice W X Y),(1,.int .u64 n),(6,.slice (mkA I) k v),(7,.int .u64 h),(8,.int .i64 b)] [Loc.own I 148 1 k v e] J f w∧Rep.rels (Zd .u64) J e q∧k=q.length∧inR .u64 h∧inR .i64 b) ⟨_,_,_,some ai,((((Zc 18446744073709551616 a)).length:Int)).toNat,((((Zc 18446744073709551616 a)).length:Int)).toNat,Z,_,rfl,(leR _),(S.fr' rfl),ak,(repN (x:=(0:Int))),(by decide),(ZHa ab).2⟩ ?_;rintro _ f w st ⟨q,h,b,I,k,v,e,J,hq,M,S,B,C,ac,aX⟩ H aY aw ax;subst hq;refine Zo fun _ ay=>sr (mv S rfl fun f S=>ov S rfl (Zg S rfl rfl Zyc) fun f S=>oe ?_);rcases ZP (decide ((0:Int)≤b)) with D | D
  ·have H:=ZS H D;refine ZZ S rfl D (wp_skip (Zh (ay _ _ (Zo fun _ az=>wp_block (bO H fun N O H=>bO H fun m aA H=>bO H fun aZ r H=>Zw (mv S rfl fun f S=>mv S rfl fun f S=>mv S rfl fun f S=>mv S rfl fun f S=>mv S rfl fun f S=>?_))))));have g:=Zba M g;obtain ⟨_,a0,a1,a2,rfl,P,aB⟩:=Zmb g (Zi O).2.1;obtain ⟨rfl,aC⟩:=aB;refine ov S rfl (ZV S rfl rfl ZD (Zi O).1 (ltI (ZN g) (Zi O).2.2.1)) fun f S=>ov S rfl (Zqa S rfl Z9 (S.view P)) fun f S=>mv S rfl fun f S=>opc S rfl (Zea S [.int .u64 h,.int .u64 N,.int .u64 n] Z5r rfl rfl) (ZQq S.vin (show Rep.rel (Zd .u64) _ [.int .u64 h] h from (ZE ac)) (show Rep.rel (Zd .u64) _ [.int .u64 N] N from (ZE aC)) (show Rep.rel (Zd .u64) _ [.int .u64 n] n from (ZE r4)) aA) ?_;rintro _ ad f w Q ⟨a3,a4,rfl,aD,aE⟩ S;have B:=Z2 Q B;have P:=Atm Q P;obtain ⟨rfl,aF⟩:=aD;obtain ⟨rfl,aG⟩:=aE;refine mv S rfl fun f S=>ov S rfl (ZJa S rfl rfl) fun f S=>ov S rfl (ZJa S rfl rfl) fun f S=>?_;obtain ⟨aH,rfl⟩:=ZYc S (j:=0) rfl (posN C (Zi r).2.2.2);have ae:=Zoa B (Zi r).2.1;obtain ⟨a5,aI⟩:∃ c,(List.take (Zd .u64).n (List.drop ((b).toNat*(Zd .u64).n) e))=c:=⟨_,rfl⟩
   rw [aI] at ae;obtain ⟨rfl,a6⟩:=ae;refine ov S rfl (ZV S rfl rfl ZD (Zi r).1 (ltI C (Zi r).2.2.1)) fun f S=>?_;obtain ⟨w,aJ,S⟩:=Z6b S Z9 (off:=0+(b).toNat*1) (z:=.int .u64 (m.1)) (cs:=[.int .u64 (m.1)]) (ZVb rfl) rfl (i:=0) rfl (Zie S (j:=0) rfl (ltN C (Zi r).2.2.2)) (by first | rfl | simp [plain]);have aK:Rep.rels (Zd .u64) ad (List.take (0+(b).toNat*1) e++[Value.int IntKind.u64 (m.1)]++List.drop (0+(b).toNat*1+1) e) (q.set (b).toNat m.1):=Zyd B (Zi r).2.2.2 (show Rep.rel (Zd .u64) ad [.int .u64 (m.1)] _ from (ZE aF)) rfl rfl;have aL:k=(q.set (b).toNat m.1).length:=Z5d C;refine Zjg wn rfl (aJ rfl rfl) (mw S rfl fun f S=>Zt (ZPb (Zh (az _ _ (bO H fun a7 af H=>Zw (mv S rfl fun f S=>ov S rfl (Zg S rfl rfl (ZIa af)) fun f S=>mw S rfl fun f S=>Zt ?_))))));obtain rfl:=Zp H;refine aw _ rfl _ _ ⟨_,_,_,some aH,k,v,(List.take (0+(b).toNat*1) e++[Value.int IntKind.u64 (m.1)]++List.drop (0+(b).toNat*1+1) e),_,rfl,(leT M Q),(S.fr' rfl),aK,aL,aG,(ZHa af).2⟩
  have H:=ZQ H D;refine ZU S rfl D (wp_exit (Z4 ?_));obtain rfl:=Zp H;have hq:=ax _ rfl;subst hq;have H:=au;refine Z4 (Zub ?_);obtain rfl:=Zp H;refine Zh (aq _ _ ⟨_,_,I,k,v,e,_,rfl,(leT (leR _) M),(S.fr' rfl),B,C,ac⟩)
 rintro f w ⟨o,s,t,p,u,L,G,hq,a8,S,aM,aN,aO⟩;subst hq;have H:=ap;refine Zh (al _ _ (Zo fun _ aP=>bO H fun a9 aQ H=>Zw (mv S rfl fun f S=>?_)));obtain ⟨ba,bb,S,aR⟩:=S.pubSlice (i:=0) (A:=(Zd .u64)) (l:=o) (ℓ':=[]) rfl rfl aN aM rfl;refine opc S rfl (Zea S [.slice (mkA t) p u] ZRf rfl rfl) (Z3f S.vin (show Rep.rel (Zv (Zd .u64)) _ [.slice (mkA t) p u] o from aR) aQ) ?_;rintro _ bc f w bd ⟨be,rfl,ag⟩ S;obtain ⟨aS,aT,aU,rfl⟩:=Zsa ag;refine mv S rfl fun f S=>mw S rfl fun f S=>mw S rfl fun f S=>Zt (Zh (aP _ _ (wp_ret ?_)));obtain rfl:=Zp H;refine ZQa S (ZGf rfl (Z0 S rfl) (Z0 S rfl)) ⟨[.slice aS aT aU],[.int .u64 s],rfl,ag,(ZE aO)⟩
theorem Zkq {c:World} {b:Zb} (hv:VIn b c) {d:List Value} {a:Nat} (i:Rep.rel Zx b d a) {e:List Value} {n:Int} (f:Rep.rel (Zd .u64) b e n) {z:Nat×Int} (hm:ZGe a n=some z) :
  Ret Tryz.prog 127 #[Zx.val d,(Zd .u64).val e] c b (fun y v'=>∃ g h,y=Value.tuple #[Zx.val g,(Zd .u64).val h]∧Zx.rel v' g z.1∧(Zd .u64).rel v' h z.2) :=
 Zjy hv i f (ZHw f.2 hm)
theorem cmp_w {m:World} {e:Zb} (hv:VIn e m) {A:List Value} {a:(List Int)} (c:Rep.rel (Zv (Zd .u64)) e A a) {B:List Value} {b:(List Int)} (d:Rep.rel (Zv (Zd .u64)) e B b) {z:Int} (H:ZKi a b=some z):Ret Tryz.prog 60 #[(Zv (Zd .u64)).val A,(Zv (Zd .u64)).val B] m e (fun y v'=>∃ C,y=(Zd .i64).val C∧(Zd .i64).rel v' C z):=by
 obtain ⟨D,E,G,rfl⟩:=ZRo c;obtain ⟨I,J,L,rfl⟩:=ZRo d;refine Z3b (K:=41) (args:=[.slice D E G,.slice I J L]) hv Tryz.func60 rfl rfl zl fun f S=>?_;unfold ZKi at H;refine sr (mw S rfl fun f S=>oe (Zo fun _ P=>sr (mv S rfl fun f S=>ov S rfl (Zga S (ZN c) rfl rfl ZD) fun f S=>mv S rfl fun f S=>ov S rfl (Zga S (ZN d) rfl rfl ZD) fun f S=>ov S rfl (Zg S rfl rfl Zws) fun f S=>oe ?_)));rcases ZP (((a.length:Int)) != ((b.length:Int))) with g | g
 ·have H:=ZS H g;refine ZZ S rfl g (Zo fun _ Q=>sr (mv S rfl fun f S=>ov S rfl (Zga S (ZN c) rfl rfl ZD) fun f S=>mv S rfl fun f S=>ov S rfl (Zga S (ZN d) rfl rfl ZD) fun f S=>ov S rfl (Zg S rfl rfl Zkc) fun f S=>oe ?_));rcases ZP (decide ((a.length:Int)<(b.length:Int))) with h | h
  ·have H:=ZS H h;refine ZZ S rfl h (sr (mw S rfl fun f S=>oe (wp_ret (Zbb (Zbb ?_)))));obtain rfl:=Zp H;refine ZQa S (Z3a rfl (Z0 S rfl)) ⟨[.int .i64 (-1:Int)],rfl,(ZE (by decide))⟩
  have H:=ZQ H h;refine ZU S rfl h (wp_skip (Zh (Q _ _ (sr (mw S rfl fun f S=>oe (wp_ret (Zbb ?_)))))));obtain rfl:=Zp H;refine ZQa S (Z3a rfl (Z0 S rfl)) ⟨[.int .i64 1],rfl,(ZE (by decide))⟩
 have H:=ZQ H g;refine ZU S rfl g (wp_skip (Zh (P _ _ (Zo fun _ R=>Zo fun _ T=>bO H fun ar M H=>Zw (mv S rfl fun f S=>ov S rfl (Zga S (ZN c) rfl rfl ZD) fun f S=>ov S rfl (Zg S rfl rfl (ZIa M)) fun f S=>mw S rfl fun f S=>Zt (Zh (T _ _ ?_)))))));obtain ⟨U,V,o⟩:=ZI H;refine ZDa (fun f w=>∃  (p:Zb),(.inl (()))=U∧Zb.le e p∧St 41 m e [] [] p f w) (fun _ W=>?_) ?_
 ·have H:=V;refine wp_block ?_;obtain ⟨au,X,q⟩:=ZI H;refine ZRb X (fun Y f w=>∃ i r,i=Y∧Zb.le e r∧St 41 m e [(0,.slice D E G),(1,.slice I J L),(5,.int .i64 i)] [] r f w∧inR .i64 i) ⟨_,_,rfl,(leR _),(S.fr' rfl),(ZHa M).2⟩ ?_;rintro _ f w st ⟨i,r,hq,n,S,av⟩ H aw Z s;subst hq;refine Zo fun _ aa=>sr (mv S rfl fun f S=>ov S rfl (Zg S rfl rfl Zyc) fun f S=>oe ?_);rcases ZP (decide ((0:Int)≤i)) with j | j
  ·have H:=ZS H j;refine ZZ S rfl j (wp_skip (Zh (aa _ _ (Zo fun _ ab=>wp_block (Zo fun _ ac=>Zo fun _ ad=>bO H fun ae t H=>bO H fun af u H=>ZOe (fl:=#[true,true,true,true,true,true,true,true,true]) Zff (by kernel_rfl) S ?_)))));intro ops O F w S;refine rfa O F 0 rfl rfl S (ZA S rfl) fun f S=>rfa O F 1 rfl rfl S (ZA S rfl) fun f S=>?_;have c:=Zba n c;obtain ⟨_,ax,ay,az,rfl,ag,ah⟩:=Zmb c (Zi t).2.1;obtain ⟨rfl,aA⟩:=ah;refine rfa O F 2 rfl rfl S (ZV S rfl rfl ZD (Zi t).1 (ltI (ZN c) (Zi t).2.2.1)) fun f S=>rfa O F 3 rfl rfl S (Zqa S rfl Z9 (S.view ag)) fun f S=>rfa O F 4 rfl rfl S (ZA S rfl) fun f S=>rfa O F 5 rfl rfl S (ZA S rfl) fun f S=>?_;have d:=Zba n d;obtain ⟨_,aB,aC,aD,rfl,ai,aj⟩:=Zmb d (Zi u).2.1;obtain ⟨rfl,aE⟩:=aj;refine rfa O F 6 rfl rfl S (ZV S rfl rfl ZD (Zi u).1 (ltI (ZN d) (Zi u).2.2.1)) fun f S=>rfa O F 7 rfl rfl S (Zqa S rfl Z9 (S.view ai)) fun f S=>rfa O F 8 rfl rfl S (Zg S rfl rfl Zkc) fun f S=>Zvf O F (Zh (ad _ _ ?_));rcases ZP (decide (ae<af)) with k | k
   ·have H:=ZS H k;refine ZZ S rfl k (sr (mw S rfl fun f S=>oe (wp_ret (Zbb (ZIh (Zbb ?_))))));obtain rfl:=Zp H;have hq:=s _ rfl;subst hq;have H:=q;refine Zbb (ZIh ?_);obtain rfl:=Zp H;have H:=o;refine Zbb (Zbb ?_);obtain rfl:=Zp H;refine ZQa S (Z3a rfl (Z0 S rfl)) ⟨[.int .i64 (-1:Int)],rfl,(ZE (by decide))⟩
   have H:=ZQ H k;refine ZU S rfl k (wp_skip (Zh (ac _ _ (Zo fun _ ak=>bO H fun al v H=>bO H fun am x H=>ZOe (fl:=#[true,true,true,true,true,true,true,true,true]) Zff (by kernel_rfl) S ?_))));intro ops O F w S;refine rfa O F 0 rfl rfl S (ZA S rfl) fun f S=>rfa O F 1 rfl rfl S (ZA S rfl) fun f S=>?_;obtain ⟨aF,an,ao⟩:=ZZh c (Zi v).2.1;obtain ⟨rfl,aG⟩:=ao;refine rfa O F 2 rfl rfl S (ZV S rfl rfl ZD (Zi v).1 (ltI (ZN c) (Zi v).2.2.1)) fun f S=>rfa O F 3 rfl rfl S (Zqa S rfl Z9 (S.view an)) fun f S=>rfa O F 4 rfl rfl S (ZA S rfl) fun f S=>rfa O F 5 rfl rfl S (ZA S rfl) fun f S=>?_;obtain ⟨aH,ap,aq⟩:=ZZh d (Zi x).2.1;obtain ⟨rfl,aI⟩:=aq;refine rfa O F 6 rfl rfl S (ZV S rfl rfl ZD (Zi x).1 (ltI (ZN d) (Zi x).2.2.1)) fun f S=>rfa O F 7 rfl rfl S (Zqa S rfl Z9 (S.view ap)) fun f S=>rfa O F 8 rfl rfl S (Zg S rfl rfl ZDd) fun f S=>Zvf O F (Zh (ak _ _ ?_));rcases ZP (decide (am<al)) with l | l
   ·have H:=ZS H l;refine ZZ S rfl l (sr (mw S rfl fun f S=>oe (wp_ret (ZIh (Zbb ?_)))));obtain rfl:=Zp H;have hq:=s _ rfl;subst hq;have H:=q;refine Zbb (ZIh ?_);obtain rfl:=Zp H;have H:=o;refine Zbb (Zbb ?_);obtain rfl:=Zp H;refine ZQa S (Z3a rfl (Z0 S rfl)) ⟨[.int .i64 1],rfl,(ZE (by decide))⟩
   have H:=ZQ H l;refine ZU S rfl l (wp_skip (ZPb (Zh (ab _ _ (bO H fun aJ N H=>Zw (mv S rfl fun f S=>ov S rfl (Zg S rfl rfl (ZIa N)) fun f S=>mw S rfl fun f S=>Zt ?_))))));obtain rfl:=Zp H;refine Z _ rfl _ _ ⟨_,_,rfl,n,(S.fr' rfl),(ZHa N).2⟩
  have H:=ZQ H j;refine ZU S rfl j (wp_exit (Z4 ?_));obtain rfl:=Zp H;have hq:=s _ rfl;subst hq;have H:=q;refine Z4 (Zub ?_);obtain rfl:=Zp H;refine Zh (W _ _ ⟨_,rfl,(leT (leR _) n),(S.fr' rfl)⟩)
 rintro f w ⟨p,hq,aK,S⟩;subst hq;have H:=o;refine Zh (R _ _ (sr (mw S rfl fun f S=>oe (wp_ret ?_))));obtain rfl:=Zp H;refine ZQa S (Z3a rfl (Z0 S rfl)) ⟨[.int .i64 0],rfl,(ZE (by decide))⟩
theorem cmp_c {d:World} {c:Zb} (hv:VIn c d) {e:List Value} {a:Nat} (f:Rep.rel Zx c e a) {g:List Value} {b:Nat} (h:Rep.rel Zx c g b) {z:Int} (hm:Zed a b=some z) :
  Ret Tryz.prog 60 #[Zx.val e,Zx.val g] d c (fun y v'=>∃ i,y=(Zd .i64).val i∧(Zd .i64).rel v' i z) :=
 cmp_w hv f h ((Z4s (ZOl f) (ZOl h)).trans hm)
theorem mul64_w {e:World} {a:Zb} (hv:VIn a e) {g:List Value} {x:Int} (l:Rep.rel (Zd .u64) a g x) {h:List Value} {y:Int} (m:Rep.rel (Zd .u64) a h y) {z:Int×Int} (H:Zii x y=some z):Ret Tryz.prog 106 #[(Zd .u64).val g,(Zd .u64).val h] e a (fun y v'=>∃ i c,y = .tuple #[(Zd .u64).val i,(Zd .u64).val c]∧(Zd .u64).rel v' i z.1∧(Zd .u64).rel v' c z.2):=by
 obtain ⟨rfl,c⟩:=l;obtain ⟨rfl,B⟩:=m;refine Z3b (K:=51) (args:=[.int .u64 x,.int .u64 y]) hv Tryz.func106 rfl rfl zl fun f S=>?_;unfold Zii at H;refine sr (mw S rfl fun f S=>mw S rfl fun f S=>oe (sr (mv S rfl fun f S=>ov S rfl (Zg S rfl rfl Z9g) fun f S=>mw S rfl fun f S=>oe (Zo fun _ n=>bO H fun b o H=>Zw (mv S rfl fun f S=>ov S rfl (Zg S rfl rfl (Z5b o)) fun f S=>?_)))));refine mw S rfl fun f S=>Zt (Zh (n _ _ (sr (mv S rfl fun f S=>ov S rfl (Zg S rfl rfl Z9g) fun f S=>mw S rfl fun f S=>oe (Zo fun _ p=>bO H fun d q H=>Zw (mv S rfl fun f S=>ov S rfl (Zg S rfl rfl (Z5b q)) fun f S=>mw S rfl fun f S=>?_))))));refine Zt (Zh (p _ _ (sr (mv S rfl fun f S=>mv S rfl fun f S=>ov S rfl (Zg S rfl rfl ZJb) fun f S=>mw S rfl fun f S=>oe (Zo fun _ r=>bO H fun s t H=>Zw (mv S rfl fun f S=>mv S rfl fun f S=>ov S rfl (Zg S rfl rfl ZJb) fun f S=>?_))))));refine mv S rfl fun f S=>ov S rfl (Zg S rfl rfl (Z5b t)) fun f S=>ov S rfl (Zg S rfl rfl Zlc) fun f S=>mw S rfl fun f S=>Zt ?_;have S:=S.fr' (σ':=[(0,.int .u64 x),(1,.int .u64 y),(6,.int .u64 (ZK .u64 x (4294967295:Int))),(7,.int .u64 b),(9,.int .u64 d),(11,.int .u64 (IntKind.u64.wrap ((IntKind.u64.wrap (b*(ZK .u64 y (4294967295:Int))))+s)))]) rfl;refine Zh (r _ _ (sr (mv S rfl fun f S=>ov S rfl (Zg S rfl rfl Z9g) fun f S=>mw S rfl fun f S=>oe (Zo fun _ u=>bO H fun j v H=>Zw (mv S rfl fun f S=>ov S rfl (Zg S rfl rfl (Z5b v)) fun f S=>mw S rfl fun f S=>Zt (Zh (u _ _ ?_)))))))
 refine sr (mv S rfl fun f S=>mv S rfl fun f S=>mv S rfl fun f S=>ov S rfl (Zg S rfl rfl ZJb) fun f S=>ov S rfl (Zg S rfl rfl Zlc) fun f S=>mw S rfl fun f S=>oe (Zo fun _ w=>bO H fun k A H=>Zw (mv S rfl fun f S=>mv S rfl fun f S=>ov S rfl (Zg S rfl rfl ZJb) fun f S=>?_)));refine mv S rfl fun f S=>ov S rfl (Zg S rfl rfl Zlc) fun f S=>mv S rfl fun f S=>ov S rfl (Zg S rfl rfl (Z5b A)) fun f S=>ov S rfl (Zg S rfl rfl Zlc) fun f S=>mw S rfl fun f S=>Zt (Zh (w _ _ (sr (mv S rfl fun f S=>mv S rfl fun f S=>ov S rfl (Zg S rfl rfl ZJb) fun f S=>mw S rfl fun f S=>?_))));have S:=S.fr' (σ':=[(4,.int .u64 (IntKind.u64.wrap ((IntKind.u64.wrap ((IntKind.u64.wrap (b*d))+j))+k))),(5,.int .u64 (IntKind.u64.wrap (x*y)))]) rfl;refine oe (wp_ret ?_);obtain rfl:=Zp H;refine ZQa S (ZGf rfl (Z0 S rfl) (Z0 S rfl)) ⟨[.int .u64 (IntKind.u64.wrap ((IntKind.u64.wrap ((IntKind.u64.wrap (b*d))+j))+k))],[.int .u64 (IntKind.u64.wrap (x*y))],rfl,(ZE (Zza _ _)),(ZE (Zza _ _))⟩
theorem Z1p {b:World} {a:Zb} (hv:VIn a b) {c:List Value} {x:Int} (g:Rep.rel (Zd .u64) a c x) {d:List Value} {y:Int} (h:Rep.rel (Zd .u64) a d y) {z:Int×Int} (hm:ZEc x y=some z) :
  Ret Tryz.prog 106 #[(Zd .u64).val c,(Zd .u64).val d] b a (fun y v'=>∃ e f,y=Value.tuple #[(Zd .u64).val e,(Zd .u64).val f]∧(Zd .u64).rel v' e z.1∧(Zd .u64).rel v' f z.2) :=
 mul64_w hv g h (ZOq hm)
theorem take_w {R:World} {o:Zb} (hv:VIn o R) {a off0 g C:Nat} {E:TypeId} {pre0 cs0 post0:List Value} {u:(List Int)} (bf:R.heap[a]? = some (.cells (pre0++cs0++post0).toArray E (0,0))) (aG:off0=pre0.length) (bg:o a=none) (au:g=u.length) (bh:g≤C∧C≤maxLen) (r:Rep.rels (Zd .u64) o cs0 u) {c1:List Value} {v:Nat} (D:Rep.rel Zx o c1 v) {c2:List Value} {q:Int} (p2:Rep.rel (Zd .u64) o c2 q) {z:Bool×(List Int)} (H:ZTi u v q=some z):RetL Tryz.prog 176 #[.slice (some ⟨a,off0,none⟩) g C,Zx.val c1,(Zd .u64).val c2] R o [a] (fun y v' w'=>(∃ r0,y=ZCd.val r0∧ZCd.rel v' r0 z.1)∧v' a=none∧∃ cs,w'.heap[a]? = some (.cells (pre0++cs++post0).toArray E (0,0))∧g=z.2.length∧Rep.rels (Zd .u64) v' cs z.2):=by
 obtain ⟨q1,V,W,rfl⟩:=Zsa D;obtain ⟨rfl,r4⟩:=p2;refine Zvr (K:=79) (args:=[.slice (some ⟨a,off0,none⟩) (g) C,.slice q1 V W,.int .u64 q]) hv bf bg Tryz.func176 rfl rfl zl fun f S=>?_;unfold ZTi at H;refine sr (mw S rfl fun f S=>oe (Zo fun _ bi=>bO H fun J bj H=>bO H fun cF av H=>Zw (mv S rfl fun f S=>ov S rfl (Zga S (ZN D) rfl rfl ZD) fun f S=>ov S rfl (Zg S rfl rfl (ZYa bj)) fun f S=>?_)));obtain ⟨aH,aQ⟩:∃ c:List Value,c=(List.replicate (J).toNat [.int .u64 0]).flatten:=⟨_,rfl⟩;obtain ⟨aR,w,bk,S⟩:=ZBi Zqe S (l:=J) (c:=J) (Z2a av).1 (Z2a av).2.1 (Z2a av).2.2.1 (Z2a av).2.2.2 aQ;have bm:Rep.rels (Zd .u64) o aH (List.replicate (J).toNat (0:Int)):=by rw [aQ];exact Z1e (show Rep.rel (Zd .u64) _ [.int .u64 0] _ from (ZE (by decide))) _
 refine ZTb wn rfl zl (bk rfl rfl) S fun f S=>mw S rfl fun f S=>Zt (Zh (bi _ _ (sr (mw S rfl fun f S=>oe (Zo fun _ bn=>sr (mv S rfl fun f S=>ov S rfl (Zga S (ZN D) rfl rfl ZD) fun f S=>mv S rfl fun f S=>oe ?_))))));obtain ⟨bo,bp,bq⟩:=ZI H;refine ZDa (fun f w=>∃ L b aI s G h X,(L,b)=bo∧Zb.le o X∧St 79 ⟨R,[a]⟩ o [(0,.slice (some ⟨a,off0,none⟩) (g) C),(1,.slice q1 V W),(7,.slice (mkA aI) s G),(8,.int .u64 b)] [Loc.box a E (pre0++cs0++post0),Loc.own aI 148 1 s G h] X f w∧Rep.rels (Zd .u64) X h L∧s=L.length∧inR .u64 b) (fun _ br=>?_) ?_
 ·have H:=bp;refine wp_block ?_;obtain ⟨cG,bs,bt⟩:=ZI H;have S:=S.reorder (ℓ':=[Loc.box a E (pre0++cs0++post0),Loc.own (some aR) 148 1 ((J).toNat) (J).toNat aH]) [1,0] rfl (by decide);refine ZRb bs (fun bu f w=>∃ Y ag m aw M Z I ax,(Y,ag,m)=bu∧Zb.le o ax∧St 79 ⟨R,[a]⟩ o [(0,.slice (some ⟨a,off0,none⟩) (g) C),(1,.slice q1 V W),(2,.int .u64 q),(7,.slice (mkA aw) M Z),(8,.int .u64 ag),(20,.slice q1 V W),(21,.int .i64 ((((Zc 18446744073709551616 v)).length:Int))),(22,.int .i64 m)] [Loc.box a E (pre0++cs0++post0),Loc.own aw 148 1 M Z I] ax f w∧Rep.rels (Zd .u64) ax I Y∧M=Y.length∧inR .u64 ag∧inR .i64 m) ⟨_,_,_,some aR,(J).toNat,(J).toNat,aH,_,rfl,(leR _),(S.fr' rfl),bm,(repN (x:=(0:Int))),(by decide),(by decide)⟩ ?_;rintro _ f w st ⟨Y,ag,m,aw,M,Z,I,ax,hq,ay,S,ah,ai,bv,cH⟩ H cI bw bx;subst hq;have r:=Z2 ay r;refine sr (ov S rfl (Zg S rfl rfl Zkc) fun f S=>oe (Zo fun _ bz=>?_));rcases ZP (decide (m<(((Zc 18446744073709551616 v)).length:Int))) with aj | aj
  ·have H:=ZS H aj;refine ZZ S rfl aj (wp_skip (Zh (bz _ _ (Zo fun _ bA=>wp_block (Zo fun _ bB=>bO H fun aJ aK H=>Zw (mv S rfl fun f S=>?_))))));have D:=Zba ay D;obtain ⟨_,aS,aT,cJ,rfl,bC,bD⟩:=Zmb D (Zi aK).2.1;obtain ⟨rfl,bE⟩:=bD;refine ov S rfl (ZV S rfl rfl ZD (Zi aK).1 (ltI (ZN D) (Zi aK).2.2.1)) fun f S=>ov S rfl (Zqa S rfl Z9 (S.view bC)) fun f S=>mw S rfl fun f S=>mw S rfl fun f S=>Zt (Zh (bB _ _ (Zo fun _ bG=>bO H fun aU bH H=>Zw (mv S rfl fun f S=>mv S rfl fun f S=>opc S rfl (Zea S [.int .u64 aJ,.int .u64 q] Zkp rfl rfl) (Z1p S.vin (show Rep.rel (Zd .u64) _ [.int .u64 aJ] aJ from (ZE bE)) (show Rep.rel (Zd .u64) _ [.int .u64 q] q from (ZE r4)) bH) ?_))));rintro _ aV f w aL ⟨cK,cL,rfl,bI,bJ⟩ S;have r:=Z2 aL r;have ah:=Z2 aL ah;obtain ⟨rfl,cM⟩:=bI;obtain ⟨rfl,cN⟩:=bJ;refine mv S rfl fun f S=>ov S rfl (ZJa S rfl rfl) fun f S=>ov S rfl (ZJa S rfl rfl) fun f S=>mw S rfl fun f S=>mw S rfl fun f S=>Zt (Zh (bG _ _ (sr (mw S rfl fun f S=>oe (Zo fun _ bK=>bO H fun N aW H=>bO H fun cO aa H=>Zw ?_)))));refine mv S rfl fun f S=>mv S rfl fun f S=>mv S rfl fun f S=>mv S rfl fun f S=>ov S rfl (Z2j S [.int .u64 (aU.2),.int .u64 ag,.int .u64 0] (Zuo Zms aW) rfl rfl) fun f S=>mv S rfl fun f S=>ov S rfl (ZJa S rfl rfl) fun f S=>ov S rfl (ZJa S rfl rfl) fun f S=>?_
   obtain ⟨aX,rfl⟩:=ZYc S (j:=1) rfl (posN ai (Zi aa).2.2.2);have aY:=Zoa ah (Zi aa).2.1;obtain ⟨cP,bM⟩:∃ c,(List.take (Zd .u64).n (List.drop ((m).toNat*(Zd .u64).n) I))=c:=⟨_,rfl⟩;rw [bM] at aY;obtain ⟨rfl,cQ⟩:=aY;refine ov S rfl (ZV S rfl rfl ZD (Zi aa).1 (ltI ai (Zi aa).2.2.1)) fun f S=>?_;obtain ⟨w,bP,S⟩:=Z6b S Z9 (off:=0+(m).toNat*1) (z:=.int .u64 (N.1)) (cs:=[.int .u64 (N.1)]) (ZVb rfl) rfl (i:=1) rfl (Zie S (j:=1) rfl (ltN ai (Zi aa).2.2.2)) (by first | rfl | simp [plain]);have bQ:Rep.rels (Zd .u64) aV (List.take (0+(m).toNat*1) I++[Value.int IntKind.u64 (N.1)]++List.drop (0+(m).toNat*1+1) I) (Y.set (m).toNat N.1):=Zyd ah (Zi aa).2.2.2 (show Rep.rel (Zd .u64) aV [.int .u64 (N.1)] _ from (ZE (Zvp aW))) rfl rfl;have bR:M=(Y.set (m).toNat N.1).length:=Z5d ai;refine Zjg wn rfl (bP rfl rfl) (mw S rfl fun f S=>Zt ?_);have S:=S.fr' (σ':=[(0,.slice (some ⟨a,off0,none⟩) (g) C),(1,.slice (some ⟨aS,aT,none⟩) V W),(2,.int .u64 q),(7,.slice (mkA (some aX)) (M) Z),(11,.int .u64 (aU.1)),(13,.int .u64 (N.2)),(20,.slice (some ⟨aS,aT,none⟩) V W),(21,.int .i64 ((((Zc 18446744073709551616 v)).length:Int))),(22,.int .i64 m)]) rfl
   refine Zh (bK _ _ (Zw (mv S rfl fun f S=>mv S rfl fun f S=>ov S rfl (Zg S rfl rfl Zlc) fun f S=>mw S rfl fun f S=>Zt (ZPb (Zh (bA _ _ (bO H fun cR aZ H=>Zw (ov S rfl (Zg S rfl rfl (ZYa aZ)) fun f S=>mv S rfl fun f S=>Zt ?_))))))));obtain rfl:=Zp H;refine bw _ rfl _ _ ⟨_,_,_,some aX,M,Z,(List.take (0+(m).toNat*1) I++[Value.int IntKind.u64 (N.1)]++List.drop (0+(m).toNat*1+1) I),_,rfl,(leT ay aL),(S.fr' rfl),bQ,bR,(Zza _ _),(ZHa aZ).2⟩
  have H:=ZQ H aj;refine ZU S rfl aj (wp_exit (Z4 ?_));obtain rfl:=Zp H;have hq:=bx _ rfl;subst hq;have H:=bt;refine Z4 (Zub ?_);obtain rfl:=Zp H;refine Zh (br _ _ ⟨_,_,aw,M,Z,I,_,rfl,(leT (leR _) ay),(S.fr' rfl),ah,ai,bv⟩)
 rintro f w ⟨L,b,aI,s,G,h,X,hq,a0,S,a1,az,bS⟩;subst hq;have H:=bq;have r:=Z2 a0 r;refine Zh (bn _ _ (Zo fun _ bT=>bO H fun cS ab H=>Zw (mv S rfl fun f S=>mv S rfl fun f S=>?_)));have D:=Zba a0 D;refine ov S rfl (Zga S (ZN D) rfl rfl ZD) fun f S=>mv S rfl fun f S=>?_;obtain ⟨ac,rfl⟩:=ZYc S (j:=1) rfl (posN az (Zi ab).2.2.2);have a2:=Zoa a1 (Zi ab).2.1;obtain ⟨cT,bU⟩:∃ c,(List.take (Zd .u64).n (List.drop (((((Zc 18446744073709551616 v)).length:Int)).toNat*(Zd .u64).n) h))=c:=⟨_,rfl⟩;rw [bU] at a2;obtain ⟨rfl,cU⟩:=a2;refine ov S rfl (ZV S rfl rfl ZD (Zi ab).1 (ltI az (Zi ab).2.2.1)) fun f S=>?_;obtain ⟨w,bV,S⟩:=Z6b S Z9 (off:=0+((((Zc 18446744073709551616 v)).length:Int)).toNat*1) (z:=.int .u64 b) (cs:=[.int .u64 b]) (ZVb rfl) rfl (i:=1) rfl (Zie S (j:=1) rfl (ltN az (Zi ab).2.2.2)) (by first | rfl | simp [plain]);have p:Rep.rels (Zd .u64) X (List.take (0+((((Zc 18446744073709551616 v)).length:Int)).toNat*1) h++[Value.int IntKind.u64 (b)]++List.drop (0+((((Zc 18446744073709551616 v)).length:Int)).toNat*1+1) h) (L.set ((((Zc 18446744073709551616 v)).length:Int)).toNat b):=Zyd a1 (Zi ab).2.2.2 (show Rep.rel (Zd .u64) X [.int .u64 b] _ from (ZE bS)) rfl rfl
 have aM:s=(L.set ((((Zc 18446744073709551616 v)).length:Int)).toNat b).length:=Z5d az;refine Zjg wn rfl (bV rfl rfl) (Zt (Zh (bT _ _ (Zo fun _ bW=>Zo fun _ bX=>bO H fun cV bY H=>bO H fun cW bZ H=>bO H fun b1 b2 H=>Zw (mv S rfl fun f S=>?_)))));have p0s120:=r;have h69s120:=p;have b3:=S.vst.le;obtain ⟨cX,cY,a3,t,S,b4,b5,b6,T⟩:=S.lendSeg (i:=0) (A:=(Zd .u64)) (l:=u) (ℓ':=[Loc.own (some ac) 148 1 s G ((List.take (0+((((Zc 18446744073709551616 v)).length:Int)).toNat*1) h++[Value.int IntKind.u64 (b)]++List.drop (0+((((Zc 18446744073709551616 v)).length:Int)).toNat*1+1) h))]) rfl rfl aG r au bh;have p:=Z2 a3 p;refine opc S rfl (Zea S [.slice (some ⟨a,off0,none⟩) (g) C] ZRf rfl rfl) (Z3f S.vin (show Rep.rel (Zv (Zd .u64)) _ [.slice (some ⟨a,off0,none⟩) (g) C] u from T) bY) ?_;rintro _ cZ f w aA ⟨c0,rfl,P⟩ S;have p:=Z2 aA p;have t:=aA _ _ t;obtain ⟨b7,b8,b9,rfl⟩:=Zsa P;refine mv S rfl fun f S=>?_;have T:=Zba aA T;have h128s137:=T;have h69s137:=p;have h133s137:=P;have h124s137:=t;have ca:=S.vst.le;obtain ⟨c3,c4,aB,ak,S,cb,cc,cd,ce⟩:=S.lendSlice (i:=0) (A:=(Zd .u64)) (l:=(L.set ((((Zc 18446744073709551616 v)).length:Int)).toNat b)) (ℓ':=[]) rfl rfl rfl p aM
 have t:=aB _ _ t;refine opc S rfl (Zea S [.slice (mkA (some ac)) (s) G] ZRf rfl rfl) (Z3f S.vin (show Rep.rel (Zv (Zd .u64)) _ [.slice (mkA (some ac)) (s) G] ((L.set ((((Zc 18446744073709551616 v)).length:Int)).toNat b)) from ce) bZ) ?_;rintro _ c5 f w al ⟨c6,rfl,a4⟩ S;have t:=al _ _ t;have ak:=al _ _ ak;obtain ⟨cg,ch,ci,rfl⟩:=Zsa a4;have P:=Zba (leT aB al) P;refine opc S rfl (Zea S [.slice b7 b8 b9,.slice cg ch ci] ZNr rfl rfl) (cmp_c S.vin P a4 b2) ?_;rintro _ c7 f w am ⟨c8,rfl,cj⟩ S;have t:=am _ _ t;have ak:=am _ _ ak;obtain ⟨rfl,c9⟩:=cj;refine ov S rfl (Zg S rfl rfl Zkc) fun f S=>Zt ?_;obtain ⟨da,an,S⟩:=S.takeBack (e:=Loc.own (some ac) 148 1 s G ((List.take (0+((((Zc 18446744073709551616 v)).length:Int)).toNat*1) h++[Value.int IntKind.u64 (b)]++List.drop (0+((((Zc 18446744073709551616 v)).length:Int)).toNat*1+1) h))) (leT (leT aB al) am) rfl ak cb cc ca cd;have T:=Zba (leT (leT aB al) am) T;have T:=Zba an h128s137;have p:=Z2 an h69s137;have P:=Zba am P;have P:=Zba an h133s137;have t:=an _ _ h124s137;obtain ⟨a5,a6,S⟩:=S.takeBack (e:=Loc.box a E (pre0++cs0++post0)) (leT (leT a3 aA) an) rfl t b4 b5 b3 b6;have r:=Z2 a6 p0s120
 have p:=Z2 a6 h69s120;refine Zh (bX _ _ ?_);rcases ZP (decide (b1<(0:Int))) with ao | ao
 ·have H:=ZS H ao;refine ZZ S rfl ao (sr (mw S rfl fun f S=>oe (wp_ret (Zbb ?_))));obtain rfl:=Zp H;refine ZTn S (Z3a rfl (Z0 S rfl)) ⟨⟨[.bool false],rfl,Z4q⟩,(S.boxAt (j:=0) rfl).2,_,(S.boxAt (j:=0) rfl).1,au,r⟩
 have H:=ZQ H ao;refine ZU S rfl ao (wp_skip (Zh (bW _ _ (sr (mw S rfl fun f S=>oe (Zo fun _ ck=>sr (mv S rfl fun f S=>ov S rfl (Zga S au rfl rfl ZD) fun f S=>mv S rfl fun f S=>oe ?_)))))));obtain ⟨cl,cm,cn⟩:=ZI H;refine ZDa (fun f w=>∃ aC aN aD,aC=cl∧Zb.le a5 aD∧St 79 ⟨R,[a]⟩ o [] [Loc.box a E (pre0++aN++post0)] aD f w∧Rep.rels (Zd .u64) aD aN aC∧g=aC.length) (fun _ co=>?_) ?_
 ·have H:=cm;refine wp_block ?_;obtain ⟨db,cp,cq⟩:=ZI H;refine ZRb cp (fun cr f w=>∃ ad ap d B ae,(ad,ap,d)=cr∧Zb.le a5 ae∧St 79 ⟨R,[a]⟩ o [(0,.slice (some ⟨a,off0,none⟩) (g) C),(7,.slice (mkA (some ac)) (s) G),(14,.int .u64 ap),(58,.int .i64 ((u.length:Int))),(59,.int .i64 d)] [Loc.box a E (pre0++B++post0),Loc.own (some ac) 148 1 s G ((List.take (0+((((Zc 18446744073709551616 v)).length:Int)).toNat*1) h++[Value.int IntKind.u64 (b)]++List.drop (0+((((Zc 18446744073709551616 v)).length:Int)).toNat*1+1) h))] ae f w∧Rep.rels (Zd .u64) ae B ad∧g=ad.length∧inR .u64 ap∧inR .i64 d) ⟨_,_,_,cs0,_,rfl,(leR _),(S.fr' rfl),r,au,(by decide),(by decide)⟩ ?_;rintro _ f w st ⟨ad,ap,d,B,ae,hq,aO,S,af,Q,dc,dd⟩ H de ct cu;subst hq;have p:=Z2 aO p;refine sr (ov S rfl (Zg S rfl rfl Zkc) fun f S=>oe (Zo fun _ cv=>?_));rcases ZP (decide (d<(u.length:Int))) with aq | aq
  ·have H:=ZS H aq;refine ZZ S rfl aq (wp_skip (Zh (cv _ _ (Zo fun _ cw=>wp_block (sr (mv S rfl fun f S=>mw S rfl fun f S=>oe (bO H fun a7 aE H=>bO H fun a8 aF H=>bO H fun U aP H=>bO H fun df ar H=>ZOe (fl:=#[true,true,true,true,true,true,true,true,true,true,true,false,true,true,true,true,false,false]) Zff (by kernel_rfl) S ?_)))))));intro ops O F w S;refine rfa O F 0 rfl rfl S (ZA S rfl) fun f S=>rfa O F 1 rfl rfl S (ZA S rfl) fun f S=>rfa O F 2 rfl rfl S (ZA S rfl) fun f S=>rfa O F 3 rfl rfl S (ZA S rfl) fun f S=>?_;have a9:=Zoa af (Zi aE).2.1;obtain ⟨dg,ba⟩:∃ c,(List.take (Zd .u64).n (List.drop ((d).toNat*(Zd .u64).n) B))=c:=⟨_,rfl⟩;rw [ba] at a9;obtain ⟨rfl,cx⟩:=a9;refine rfa O F 4 rfl rfl S (ZV S rfl rfl ZD (Zi aE).1 (ltI Q (Zi aE).2.2.1)) fun f S=>rfa O F 5 rfl rfl S (Zqa S rfl Z9 (Zqj S (j:=0) rfl aG (Z3e af Q) ba (ltN Q (Zi aE).2.2.2) 0 [.int .u64 a7] rfl zl)) fun f S=>rfa O F 6 rfl rfl S (ZA S rfl) fun f S=>rfa O F 7 rfl rfl S (ZA S rfl) fun f S=>?_;have bb:=Zoa p (Zi aF).2.1;obtain ⟨dh,bc⟩:∃ c,(List.take (Zd .u64).n (List.drop ((d).toNat*(Zd .u64).n) (List.take (0+((((Zc 18446744073709551616 v)).length:Int)).toNat*1) h++[Value.int IntKind.u64 (b)]++List.drop (0+((((Zc 18446744073709551616 v)).length:Int)).toNat*1+1) h)))=c:=⟨_,rfl⟩
   rw [bc] at bb;obtain ⟨rfl,cy⟩:=bb;refine rfa O F 8 rfl rfl S (ZV S rfl rfl ZD (Zi aF).1 (ltI aM (Zi aF).2.2.1)) fun f S=>rfa O F 9 rfl rfl S (Zqa S rfl Z9 (Zpd S (j:=1) rfl bc (ltN aM (Zi aF).2.2.2) 0 [.int .u64 a8] rfl zl)) fun f S=>rfa O F 10 rfl rfl S (ZA S rfl) fun f S=>go1 O F 11 (nva [5,9,10,4,8,2,3,6,7] [0,1] O rfl rfl S (Z2j S [.int .u64 a7,.int .u64 a8,.int .u64 ap] (Z9s ZQx cx cy aP) rfl rfl) fun f S=>⟨(py S rfl rfl (ZA S rfl) (py S rfl rfl (ZA S rfl) ZCc)),rfa O F 12 rfl rfl S (ZA S rfl) fun f S=>rfa O F 13 rfl rfl S (ZJa S rfl rfl) fun f S=>rfa O F 14 rfl rfl S (ZJa S rfl rfl) fun f S=>?_⟩);have bd:=Zoa af (Zi ar).2.1;obtain ⟨di,cz⟩:∃ c,(List.take (Zd .u64).n (List.drop ((d).toNat*(Zd .u64).n) B))=c:=⟨_,rfl⟩;rw [cz] at bd;obtain ⟨rfl,dj⟩:=bd;refine rfa O F 15 rfl rfl S (ZV S rfl rfl ZD (Zi ar).1 (ltI Q (Zi ar).2.2.1)) fun f S=>go1 O F 16 ?_;obtain ⟨w,cA,S⟩:=ZPz S (k:=(d).toNat) Z9 (z:=.int .u64 (U.1)) (c:=[.int .u64 (U.1)]) (ZVb rfl) rfl (i:=0) rfl aG (Z3e af Q) (ltN Q (Zi ar).2.2.2) rfl (by first | rfl | simp [plain]);have cB:Rep.rels (Zd .u64) ae (List.take (0+(d).toNat*1) B++[Value.int IntKind.u64 (U.1)]++List.drop (0+(d).toNat*1+1) B) (ad.set (d).toNat U.1):=Zyd af (Zi ar).2.2.2 (show Rep.rel (Zd .u64) ae [.int .u64 (U.1)] _ from (ZE (Zxq aP))) rfl rfl
   have cC:g=(ad.set (d).toNat U.1).length:=Z5d Q;refine nxs [0,1,2,3,4,5,6,7,8,9,10,11,12,13,15] [14] O rfl rfl (cA rfl rfl) (⟨(py S rfl rfl (ZJa S rfl rfl) ZCc),go1 O F 17 (nva [0,1,2,3,4,5,6,7,8,9,10,11,12,13,14,15,16] [] O rfl rfl S (Znd S rfl) fun f S=>⟨ZCc,Zvf O F (ZPb (Zh (cw _ _ (bO H fun dk be H=>Zw (ov S rfl (Zg S rfl rfl (ZYa be)) fun f S=>mv S rfl fun f S=>Zt ?_)))))⟩)⟩);obtain rfl:=Zp H;refine ct _ rfl _ _ ⟨_,_,_,(List.take (0+(d).toNat*1) B++[Value.int IntKind.u64 (U.1)]++List.drop (0+(d).toNat*1+1) B),_,rfl,aO,(S.fr' rfl),cB,cC,(Zvt aP),(ZHa be).2⟩
  have H:=ZQ H aq;refine ZU S rfl aq (wp_exit (Z4 ?_));obtain rfl:=Zp H;have hq:=cu _ rfl;subst hq;have H:=cq;refine Z4 (Zub ?_);obtain rfl:=Zp H;have S:=S.reorder (ℓ':=[Loc.box a E (pre0++B++post0)]) [0] rfl (by decide);refine Zh (co _ _ ⟨_,B,_,rfl,(leT (leR _) aO),(S.fr' rfl),af,Q⟩)
 rintro f w ⟨aC,aN,aD,hq,dl,S,cD,cE⟩;subst hq;have H:=cn;refine Zh (ck _ _ (sr (mw S rfl fun f S=>oe (wp_ret ?_))));obtain rfl:=Zp H;refine ZTn S (Z3a rfl (Z0 S rfl)) ⟨⟨[.bool true],rfl,Z4q⟩,(S.boxAt (j:=0) rfl).2,_,(S.boxAt (j:=0) rfl).1,cE,cD⟩
theorem take_c {d:World} {a:Zb} (hv:VIn a d) {b off0 c e:Nat} {f:TypeId} {pre0 cs0 post0:List Value} {u:(List Int)} (l:d.heap[b]? = some (.cells (pre0++cs0++post0).toArray f (0,0))) (m:off0=pre0.length) (n:a b=none) (o:c=u.length) (p:c≤e∧e≤maxLen) (g:Rep.rels (Zd .u64) a cs0 u) {h:List Value} {v:Nat} (r:Rep.rel Zx a h v) {i:List Value} {q:Int} (j:Rep.rel (Zd .u64) a i q) {z:Bool×(List Int)} (hm:Zqi u v q=some z) :
  RetL Tryz.prog 176 #[Value.slice (some ⟨b,off0,none⟩) c e,Zx.val h,(Zd .u64).val i] d a [b] (fun y v' w'=>(∃ k,y=ZCd.val k∧ZCd.rel v' k z.1)∧v' b=none∧∃ cs,w'.heap[b]? = some (.cells (pre0++cs++post0).toArray f (0,0))∧c=z.2.length∧Rep.rels (Zd .u64) v' cs z.2) :=
 take_w hv l m n o p g r j (Zkx (Zpp g) j.2 hm)
theorem digit_w {x:World} {m:Zb} (hv:VIn m x) {a off0 e h:Nat} {A:TypeId} {pre0 cs0 post0:List Value} {u:(List Int)} (a0:x.heap[a]? = some (.cells (pre0++cs0++post0).toArray A (0,0))) (G:off0=pre0.length) (a1:m a=none) (k:e=u.length) (a2:e≤h∧h≤maxLen) (d:Rep.rels (Zd .u64) m cs0 u) {c1:List Value} {v:Nat} (g:Rep.rel Zx m c1 v) {z:Int×(List Int)} (H:ZAi u v=some z):RetL Tryz.prog 144 #[.slice (some ⟨a,off0,none⟩) e h,Zx.val c1] x m [a] (fun y v' w'=>(∃ r0,y=(Zd .u64).val r0∧(Zd .u64).rel v' r0 z.1)∧v' a=none∧∃ cs,w'.heap[a]? = some (.cells (pre0++cs++post0).toArray A (0,0))∧e=z.2.length∧Rep.rels (Zd .u64) v' cs z.2):=by
 obtain ⟨q1,o,p,rfl⟩:=Zsa g;refine Zvr (K:=90) (args:=[.slice (some ⟨a,off0,none⟩) (e) h,.slice q1 o p]) hv a0 a1 Tryz.func144 rfl rfl zl fun f S=>?_;unfold ZAi at H;refine sr (mw S rfl fun f S=>oe (sr (mv S rfl fun f S=>ov S rfl (Zga S (ZN g) rfl rfl ZD) fun f S=>mw S rfl fun f S=>oe (sr (mw S rfl fun f S=>oe (Zo fun _ a3=>Zo fun _ a4=>bO H fun aE V H=>?_))))));refine bO H fun ck a5 H=>bO H fun a6 aj H=>ZOe (fl:=#[true,true,true,true,true,true,true,true,true,true]) Zff (by kernel_rfl) S ?_;intro ops O F w S;refine rfa O F 0 rfl rfl S (ZA S rfl) fun f S=>rfa O F 1 rfl rfl S (ZA S rfl) fun f S=>?_;have aF:=Zoa d (Zi V).2.1;obtain ⟨cl,aG⟩:∃ c,(List.take (Zd .u64).n (List.drop (((((Zc 18446744073709551616 v)).length:Int)).toNat*(Zd .u64).n) cs0))=c:=⟨_,rfl⟩;rw [aG] at aF;obtain ⟨rfl,cm⟩:=aF;refine rfa O F 2 rfl rfl S (ZV S rfl rfl ZD (Zi V).1 (ltI k (Zi V).2.2.1)) fun f S=>rfa O F 3 rfl rfl S (Zqa S rfl Z9 (Zqj S (j:=0) rfl G (Z3e d k) aG (ltN k (Zi V).2.2.2) 0 [.int .u64 aE] rfl zl)) fun f S=>rfa O F 4 rfl rfl S (ZA S rfl) fun f S=>rfa O F 5 rfl rfl S (ZA S rfl) fun f S=>rfa O F 6 rfl rfl S (Zg S rfl rfl (ZIa a5)) fun f S=>?_;obtain ⟨_,r,s,cn,rfl,a7,a8⟩:=Zmb g (Zi aj).2.1
 obtain ⟨rfl,co⟩:=a8;refine rfa O F 7 rfl rfl S (ZV S rfl rfl ZD (Zi aj).1 (ltI (ZN g) (Zi aj).2.2.1)) fun f S=>rfa O F 8 rfl rfl S (Zqa S rfl Z9 (S.view a7)) fun f S=>rfa O F 9 rfl rfl S (Zg S rfl rfl Zkc) fun f S=>Zvf O F (Zh (a4 _ _ ?_));obtain ⟨a9,ba,bb⟩:=ZI H;refine ZDa (fun f w=>∃ W I,W=a9∧Zb.le m I∧St 90 ⟨x,[a]⟩ m [(0,.slice (some ⟨a,off0,none⟩) (e) h),(1,.slice (some ⟨r,s,none⟩) o p),(6,.int .u64 W)] [Loc.box a A (pre0++cs0++post0)] I f w∧inR .u64 W) (fun _ aH=>?_) ?_
 ·have H:=ba;rcases ZP (decide (aE<a6)) with J | J
  ·have H:=ZS H J;refine ZZ S rfl J (sr (mw S rfl fun f S=>oe (Zo fun _ bc=>bO H fun X Y H=>bO H fun bd be H=>bO H fun Z aa H=>bO H fun cp bf H=>bO H fun ak al H=>bO H fun aI bg H=>ZOe (fl:=#[true,true,true,true,true,true,true,true,true,true,true,true,true,true,false,true,true,true,false,false]) Zff (by kernel_rfl) S ?_)));intro ops O F w S;refine rfa O F 0 rfl rfl S (ZA S rfl) fun f S=>rfa O F 1 rfl rfl S (ZA S rfl) fun f S=>?_;have aJ:=Zoa d (Zi Y).2.1;obtain ⟨cq,aK⟩:∃ c,(List.take (Zd .u64).n (List.drop (((((Zc 18446744073709551616 v)).length:Int)).toNat*(Zd .u64).n) cs0))=c:=⟨_,rfl⟩;rw [aK] at aJ;obtain ⟨rfl,bh⟩:=aJ;refine rfa O F 2 rfl rfl S (ZV S rfl rfl ZD (Zi Y).1 (ltI k (Zi Y).2.2.1)) fun f S=>rfa O F 3 rfl rfl S (Zqa S rfl Z9 (Zqj S (j:=0) rfl G (Z3e d k) aK (ltN k (Zi Y).2.2.2) 0 [.int .u64 X] rfl zl)) fun f S=>rfa O F 4 rfl rfl S (ZA S rfl) fun f S=>rfa O F 5 rfl rfl S (ZA S rfl) fun f S=>rfa O F 6 rfl rfl S (Zg S rfl rfl (ZIa be)) fun f S=>?_;have aL:=Zoa d (Zi aa).2.1;obtain ⟨cr,aM⟩:∃ c,(List.take (Zd .u64).n (List.drop ((bd).toNat*(Zd .u64).n) cs0))=c:=⟨_,rfl⟩;rw [aM] at aL;obtain ⟨rfl,bi⟩:=aL;refine rfa O F 7 rfl rfl S (ZV S rfl rfl ZD (Zi aa).1 (ltI k (Zi aa).2.2.1)) fun f S=>rfa O F 8 rfl rfl S (Zqa S rfl Z9 (Zqj S (j:=0) rfl G (Z3e d k) aM (ltN k (Zi aa).2.2.2) 0 [.int .u64 Z] rfl zl)) fun f S=>rfa O F 9 rfl rfl S (ZA S rfl) fun f S=>rfa O F 10 rfl rfl S (ZA S rfl) fun f S=>rfa O F 11 rfl rfl S (Zg S rfl rfl (ZIa bf)) fun f S=>?_
   obtain ⟨ct,am,bj⟩:=ZZh g (Zi al).2.1;obtain ⟨rfl,bk⟩:=bj;refine rfa O F 12 rfl rfl S (ZV S rfl rfl ZD (Zi al).1 (ltI (ZN g) (Zi al).2.2.1)) fun f S=>rfa O F 13 rfl rfl S (Zqa S rfl Z9 (S.view am)) fun f S=>go1 O F 14 (nxc [3,8,13,2,7,12,0,1,4,6,9,11,5,10] [] O rfl S rfl (Zea S [.int .u64 X,.int .u64 Z,.int .u64 ak] Z5r rfl rfl) (ZQq S.vin (show Rep.rel (Zd .u64) _ [.int .u64 X] X from (ZE bh)) (show Rep.rel (Zd .u64) _ [.int .u64 Z] Z from (ZE bi)) (show Rep.rel (Zd .u64) _ [.int .u64 ak] ak from (ZE bk)) bg) ?_);rintro _ aN f w ab ⟨cu,cv,rfl,bm,bn⟩ S;have d:=Z2 ab d;have am:=Atm ab am;obtain ⟨rfl,bo⟩:=bm;obtain ⟨rfl,bp⟩:=bn;refine ⟨ZCc,rfa O F 15 rfl rfl S (ZA S rfl) fun f S=>rfa O F 16 rfl rfl S (ZJa S rfl rfl) fun f S=>rfa O F 17 rfl rfl S (ZJa S rfl rfl) fun f S=>go1 O F 18 (nva [0,1,2,3,4,5,6,7,8,9,10,11,12,13,14,15,16] [17] O rfl rfl S (Znd S rfl) fun f S=>⟨(py S rfl rfl (ZJa S rfl rfl) ZCc),go1 O F 19 (nva [0,1,2,3,4,5,6,7,8,9,10,11,12,13,14,15,16,17,18] [] O rfl rfl S (Znd S rfl) fun f S=>⟨ZCc,Zvf O F ?_⟩)⟩)⟩;have S:=S.fr' (σ':=[(0,.slice (some ⟨a,off0,none⟩) (e) h),(1,.slice (some ⟨r,s,none⟩) o p),(5,.int .i64 ((((Zc 18446744073709551616 v)).length:Int))),(6,.int .u64 (aI.1)),(7,.int .u64 (aI.2))]) rfl
   refine Zh (bc _ _ ?_);obtain ⟨bq,br,bs⟩:=ZI H;refine ZDa (fun f w=>∃ ac an,ac=bq∧Zb.le aN an∧St 90 ⟨x,[a]⟩ m [(0,.slice (some ⟨a,off0,none⟩) (e) h),(1,.slice (some ⟨r,s,none⟩) o p),(6,.int .u64 ac)] [Loc.box a A (pre0++cs0++post0)] an f w∧inR .u64 ac) (fun _ aO=>?_) ?_
   ·have H:=br;refine wp_block ?_;obtain ⟨cw,bt,aP⟩:=ZI H;refine ZRb bt (fun bu f w=>∃ q l ao,(q,l)=bu∧Zb.le aN ao∧St 90 ⟨x,[a]⟩ m [(0,.slice (some ⟨a,off0,none⟩) (e) h),(1,.slice (some ⟨r,s,none⟩) o p),(5,.int .i64 ((((Zc 18446744073709551616 v)).length:Int))),(6,.int .u64 q),(7,.int .u64 l)] [Loc.box a A (pre0++cs0++post0)] ao f w∧inR .u64 q∧inR .u64 l) ⟨_,_,_,rfl,(leR _),(S.fr' rfl),bo,bp⟩ ?_;rintro _ f w st ⟨q,l,ao,hq,L,S,aQ,cx⟩ H cy bv aR;subst hq;have d:=Z2 L d;refine wp_block (Zo fun _ bw=>bO H fun cz bx H=>bO H fun ap aq H=>bO H fun B bz H=>Zw (mv S rfl fun f S=>mv S rfl fun f S=>mv S rfl fun f S=>ov S rfl (Zg S rfl rfl (ZIa bx)) fun f S=>?_));have g:=Zba (leT ab L) g;obtain ⟨cA,ar,bA⟩:=ZZh g (Zi aq).2.1;obtain ⟨rfl,bB⟩:=bA;refine ov S rfl (ZV S rfl rfl ZD (Zi aq).1 (ltI (ZN g) (Zi aq).2.2.1)) fun f S=>ov S rfl (Zqa S rfl Z9 (S.view ar)) fun f S=>opc S rfl (Zea S [.int .u64 q,.int .u64 ap] Zkp rfl rfl) (Z1p S.vin (show Rep.rel (Zd .u64) _ [.int .u64 q] q from (ZE aQ)) (show Rep.rel (Zd .u64) _ [.int .u64 ap] ap from (ZE bB)) bz) ?_;rintro _ bC f w E ⟨cB,cC,rfl,bD,bE⟩ S
    have d:=Z2 E d;have ar:=Atm E ar;obtain ⟨rfl,cD⟩:=bD;obtain ⟨rfl,cE⟩:=bE;refine mv S rfl fun f S=>ov S rfl (ZJa S rfl rfl) fun f S=>ov S rfl (ZJa S rfl rfl) fun f S=>mw S rfl fun f S=>mw S rfl fun f S=>Zt (Zh (bw _ _ (Zo fun _ bG=>Zo fun _ bH=>?_)));obtain ⟨bI,bJ,bK⟩:=ZI H;refine ZDa (fun f w=>∃ ad au,ad=bI∧Zb.le bC au∧St 90 ⟨x,[a]⟩ m [(0,.slice (some ⟨a,off0,none⟩) (e) h),(1,.slice (some ⟨r,s,none⟩) o p),(5,.int .i64 ((((Zc 18446744073709551616 v)).length:Int))),(6,.int .u64 q),(7,.int .u64 l),(67,.bool ad)] [Loc.box a A (pre0++cs0++post0)] au f w) (fun _ av=>?_) ?_
    ·have H:=bJ;refine Zw (mv S rfl fun f S=>mv S rfl fun f S=>ov S rfl (Zg S rfl rfl Zkc) fun f S=>mv S rfl fun f S=>?_);rcases ZP (decide (B.1<l)) with M | M
     ·have H:=ZS H M;have S:=S.bool (t:=54) rfl M;refine opn S rfl rfl rfl rfl fun f S=>opn S rfl rfl rfl rfl fun f S=>opn S rfl rfl rfl rfl fun f S=>opn S rfl rfl rfl rfl fun f S=>ZKf S (ZAe S rfl rfl rfl zl) rfl zl fun f S=>ZKf S (ZAe S rfl rfl rfl zl) rfl zl fun f S=>ZKf S (ZAe S rfl rfl rfl zl) rfl zl fun f S=>ZKf S (ZAe S rfl rfl rfl zl) rfl zl fun f S=>ZKf S (ZAe S rfl rfl rfl zl) rfl zl fun f S=>ZKf S (ZAe S rfl rfl rfl zl) rfl zl fun f S=>ZKf S (ZAe S rfl rfl rfl zl) rfl zl fun f S=>opn S rfl rfl rfl rfl fun f S=>ov S rfl (ZYb S (b:=true) rfl rfl) fun f S=>Zt ?_;have S:=S.fr' (σ':=[(0,.slice (some ⟨a,off0,none⟩) (e) h),(1,.slice (some ⟨r,s,none⟩) o p),(5,.int .i64 ((((Zc 18446744073709551616 v)).length:Int))),(6,.int .u64 q),(7,.int .u64 l),(55,undef),(56,undef),(57,undef),(58,undef),(59,undef),(60,undef),(61,undef),(62,undef),(63,undef),(64,undef),(65,undef),(66,undef),(67,.bool true)]) rfl;obtain rfl:=Zp H;refine Zh (av _ _ ⟨_,_,rfl,(leR _),(S.fr' rfl)⟩)
     have H:=ZQ H M;have S:=S.bool (t:=54) rfl M;refine opy S rfl rfl rfl rfl (ZA S rfl) fun f S=>opy S rfl rfl rfl rfl (ZA S rfl) fun f S=>opy S rfl rfl rfl rfl (Zg S rfl rfl ZFe) fun f S=>opy S rfl rfl rfl rfl (ZA S rfl) fun f S=>?_;rcases ZP (B.1==l) with C | C
     ·have H:=ZS H C;have S:=S.bool (t:=57) rfl C;have S:=S.bool (t:=58) rfl C;refine bO H fun aw bM H=>bO H fun N ae H=>opy S rfl rfl rfl rfl (ZA S rfl) fun f S=>opy S rfl rfl rfl rfl (ZA S rfl) fun f S=>opy S rfl rfl rfl rfl (ZA S rfl) fun f S=>opy S rfl rfl rfl rfl (Zg S rfl rfl (ZIa bM)) fun f S=>?_;have aS:=Zoa d (Zi ae).2.1;obtain ⟨cF,aT⟩:∃ c,(List.take (Zd .u64).n (List.drop ((aw).toNat*(Zd .u64).n) cs0))=c:=⟨_,rfl⟩;rw [aT] at aS;obtain ⟨rfl,cG⟩:=aS;refine opy S rfl rfl rfl rfl (ZV S rfl rfl ZD (Zi ae).1 (ltI k (Zi ae).2.2.1)) fun f S=>opy S rfl rfl rfl rfl (Zqa S rfl Z9 (Zqj S (j:=0) rfl G (Z3e d k) aT (ltN k (Zi ae).2.2.2) 0 [.int .u64 N] rfl zl)) fun f S=>opy S rfl rfl rfl rfl (Zg S rfl rfl ZJo) fun f S=>opy S rfl rfl rfl rfl (ZYb S (b:=true) rfl rfl) fun f S=>ov S rfl (ZYb S (b:=false) rfl rfl) fun f S=>Zt ?_;have S:=S.fr' (σ':=[(0,.slice (some ⟨a,off0,none⟩) (e) h),(1,.slice (some ⟨r,s,none⟩) o p),(5,.int .i64 ((((Zc 18446744073709551616 v)).length:Int))),(6,.int .u64 q),(7,.int .u64 l),(55,.int .u64 (B.1)),(56,.int .u64 l),(57,.bool true),(58,.bool true),(59,.int .u64 (B.2)),(60,.slice (some ⟨a,off0,none⟩) (e) h),(61,.int .i64 ((((Zc 18446744073709551616 v)).length:Int))),(62,.int .i64 aw),(63,.pointer (some ⟨a,off0+(aw).toNat*1,none⟩)),(64,.int .u64 N),(65,.bool (decide (B.2≤N))),(66,.bool (decide (B.2≤N))),(67,.bool (decide (B.2≤N)))]) rfl
      obtain rfl:=Zp H;refine Zh (av _ _ ⟨_,_,rfl,(leR _),(S.fr' rfl)⟩)
     have H:=ZQ H C;have S:=S.bool (t:=57) rfl C;have S:=S.bool (t:=58) rfl C;refine opn S rfl rfl rfl rfl fun f S=>opn S rfl rfl rfl rfl fun f S=>opn S rfl rfl rfl rfl fun f S=>opn S rfl rfl rfl rfl fun f S=>opn S rfl rfl rfl rfl fun f S=>opn S rfl rfl rfl rfl fun f S=>opn S rfl rfl rfl rfl fun f S=>opy S rfl rfl rfl rfl (ZYb S (b:=false) rfl rfl) fun f S=>ov S rfl (ZYb S (b:=false) rfl rfl) fun f S=>Zt ?_;have S:=S.fr' (σ':=[(0,.slice (some ⟨a,off0,none⟩) (e) h),(1,.slice (some ⟨r,s,none⟩) o p),(5,.int .i64 ((((Zc 18446744073709551616 v)).length:Int))),(6,.int .u64 q),(7,.int .u64 l),(55,.int .u64 (B.1)),(56,.int .u64 l),(57,.bool false),(58,.bool false),(59,undef),(60,undef),(61,undef),(62,undef),(63,undef),(64,undef),(65,undef),(66,.bool false),(67,.bool false)]) rfl;obtain rfl:=Zp H;refine Zh (av _ _ ⟨_,_,rfl,(leR _),(S.fr' rfl)⟩)
    rintro f w ⟨ad,au,hq,P,S⟩;subst hq;have H:=bK;have d:=Z2 P d;refine Zh (bH _ _ ?_);rcases ZP (ad) with Q | Q
    ·have H:=ZS H Q;refine ZZ S rfl Q (wp_exit (Z4 (Zal rfl ?_)));obtain rfl:=Zp H;have hq:=aR _ rfl;subst hq;have H:=aP;refine Z4 (Zub ?_);obtain rfl:=Zp H;refine Zh (aO _ _ ⟨_,_,rfl,(leT (leT (leT (leR _) L) E) P),(S.fr' rfl),aQ⟩)
    have H:=ZQ H Q;refine ZU S rfl Q (wp_skip (Zh (bG _ _ (sr (mv S rfl fun f S=>ov S rfl (Zg S rfl rfl ZRd) fun f S=>mw S rfl fun f S=>oe (sr (mw S rfl fun f S=>oe (Zo fun _ bP=>bO H fun cH bQ H=>bO H fun bR ax H=>?_))))))));refine bO H fun bS aU H=>Zw (mv S rfl fun f S=>mv S rfl fun f S=>mv S rfl fun f S=>ov S rfl (Zg S rfl rfl (ZIa bQ)) fun f S=>?_);have g:=Zba (leT E P) g;obtain ⟨cI,bT,bU⟩:=ZZh g (Zi ax).2.1;obtain ⟨rfl,cJ⟩:=bU;refine ov S rfl (ZV S rfl rfl ZD (Zi ax).1 (ltI (ZN g) (Zi ax).2.2.1)) fun f S=>ov S rfl (Zqa S rfl Z9 (S.view bT)) fun f S=>ov S rfl (Z2j S [.int .u64 l,.int .u64 bR,.int .u64 0] (Zuo Zms aU) rfl rfl) fun f S=>mv S rfl fun f S=>ov S rfl (ZJa S rfl rfl) fun f S=>ov S rfl (ZJa S rfl rfl) fun f S=>mw S rfl fun f S=>mw S rfl fun f S=>Zt (Zh (bP _ _ (sr (mv S rfl fun f S=>ov S rfl (Zg S rfl rfl ZDd) fun f S=>oe ?_))));rcases ZP (decide ((0:Int)<bS.2)) with R | R
    ·have H:=ZS H R;refine ZZ S rfl R (wp_exit (Zal rfl ?_));obtain rfl:=Zp H;have hq:=aR _ rfl;subst hq;have H:=aP;refine Z4 (Zub ?_);obtain rfl:=Zp H;refine Zh (aO _ _ ⟨_,_,rfl,(leT (leT (leT (leR _) L) E) P),(S.fr' rfl),(Zza _ _)⟩)
    have H:=ZQ H R;refine ZU S rfl R (wp_skip (ZPb ?_));obtain rfl:=Zp H;refine bv _ rfl _ _ ⟨_,_,_,rfl,(leT (leT L E) P),(S.fr' rfl),(Zza _ _),(Zvp aU)⟩
   rintro f w ⟨ac,an,hq,aV,S,bV⟩;subst hq;have H:=bs;have d:=Z2 aV d;obtain rfl:=Zp H;refine Zh (aH _ _ ⟨_,_,rfl,(leT (leT (leR _) ab) aV),(S.fr' rfl),bV⟩)
  have H:=ZQ H J;refine ZU S rfl J (wp_skip ?_);obtain rfl:=Zp H;refine Zh (aH _ _ ⟨_,_,rfl,(leR _),(S.fr' rfl),(by decide)⟩)
 rintro f w ⟨W,I,hq,aW,S,bW⟩;subst hq;have H:=bb;have d:=Z2 aW d;refine Zh (a3 _ _ (Zo fun _ bX=>?_));obtain ⟨bY,bZ,b1⟩:=ZI H;refine ZDa (fun f w=>∃ af T ay ag,(af,T)=bY∧Zb.le I ag∧St 90 ⟨x,[a]⟩ m [(6,.int .u64 T)] [Loc.box a A (pre0++ay++post0)] ag f w∧Rep.rels (Zd .u64) ag ay af∧e=af.length∧inR .u64 T) (fun _ b2=>?_) ?_
 ·have H:=bZ;refine wp_block ?_;obtain ⟨cK,b3,b4⟩:=ZI H;refine ZRb b3 (fun b5 f w=>∃ ah D az ai,(ah,D)=b5∧Zb.le I ai∧St 90 ⟨x,[a]⟩ m [(0,.slice (some ⟨a,off0,none⟩) (e) h),(1,.slice (some ⟨r,s,none⟩) o p),(6,.int .u64 D)] [Loc.box a A (pre0++az++post0)] ai f w∧Rep.rels (Zd .u64) ai az ah∧e=ah.length∧inR .u64 D) ⟨_,_,cs0,_,rfl,(leR _),(S.fr' rfl),d,k,bW⟩ ?_;rintro _ f w st ⟨ah,D,az,ai,hq,aA,S,aB,b6,aX⟩ H cL b7 b8;subst hq;refine Zo fun _ b9=>Zo fun _ ca=>bO H fun cb cc H=>Zw (mv S rfl fun f S=>mv S rfl fun f S=>mv S rfl fun f S=>?_);have g:=Zba (leT aW aA) g;refine ZAs S wn rfl zl (Zea S [.slice (some ⟨a,off0,none⟩) (e) h,.slice (some ⟨r,s,none⟩) o p,.int .u64 D] k_en176 rfl rfl) (i:=0) rfl rfl (take_c S.vin (S.boxAt (j:=0) rfl).1 G (S.boxAt (j:=0) rfl).2 b6 a2 aB g (show Rep.rel (Zd .u64) _ [.int .u64 D] D from (ZE aX)) cc) ?_;rintro _ cM f w aC ⟨⟨cN,rfl,cd⟩,ce,aD,cg,aY,aZ⟩ hSf;have aB:=Z2 aC aB;have S:=hSf (Loc.box a A (pre0++aD++post0)) rfl cg ce;obtain rfl:=cd;refine ov S rfl (Zgt S rfl) fun f S=>Zt (Zh (ca _ _ ?_));rcases ZP (!(cb.1)) with U | U
  ·have H:=ZS H U;refine ZZ S rfl U (wp_skip (Zh (b9 _ _ (wp_block (Zw (mv S rfl fun f S=>ov S rfl (Zg S rfl rfl ZRd) fun f S=>mw S rfl fun f S=>Zt (ZPb ?_)))))));obtain rfl:=Zp H;refine b7 _ rfl _ _ ⟨_,_,aD,_,rfl,(leT aA aC),(S.fr' rfl),aZ,aY,(Zza _ _)⟩
  have H:=ZQ H U;refine ZU S rfl U (wp_exit (Z4 ?_));obtain rfl:=Zp H;have hq:=b8 _ rfl;subst hq;have H:=b4;refine Z4 (Zub ?_);obtain rfl:=Zp H;refine Zh (b2 _ _ ⟨_,_,aD,_,rfl,(leT (leT (leR _) aA) aC),(S.fr' rfl),aZ,aY,aX⟩)
 rintro f w ⟨af,T,ay,ag,hq,cO,S,ch,ci,cj⟩;subst hq;have H:=b1;refine Zh (bX _ _ (sr (mv S rfl fun f S=>mw S rfl fun f S=>oe (wp_ret ?_))));obtain rfl:=Zp H;refine ZTn S (Z3a rfl (Z0 S rfl)) ⟨⟨[.int .u64 T],rfl,(ZE cj)⟩,(S.boxAt (j:=0) rfl).2,_,(S.boxAt (j:=0) rfl).1,ci,ch⟩
theorem digit_c {d:World} {b:Zb} (hv:VIn b d) {a off0 c e:Nat} {f:TypeId} {pre0 cs0 post0:List Value} {u:(List Int)} (j:d.heap[a]? = some (.cells (pre0++cs0++post0).toArray f (0,0))) (k:off0=pre0.length) (l:b a=none) (m:c=u.length) (n:c≤e∧e≤maxLen) (g:Rep.rels (Zd .u64) b cs0 u) {h:List Value} {v:Nat} (o:Rep.rel Zx b h v) {z:Int×(List Int)} (hm:ZUh u v=some z) :
  RetL Tryz.prog 144 #[Value.slice (some ⟨a,off0,none⟩) c e,Zx.val h] d b [a] (fun y v' w'=>(∃ i,y=(Zd .u64).val i∧(Zd .u64).rel v' i z.1)∧v' a=none∧∃ cs,w'.heap[a]? = some (.cells (pre0++cs++post0).toArray f (0,0))∧c=z.2.length∧Rep.rels (Zd .u64) v' cs z.2) :=
 digit_w hv j k l m n g o (Zwx (Zpp g) hm)
theorem left_w {I:World} {o:Zb} (hv:VIn o I) {c0:List Value} {a:Nat} (h:Rep.rel Zx o c0 a) {c1:List Value} {n:Int} (p1:Rep.rel (Zd .i64) o c1 n) {z:Nat} (H:ZDj a n=some z):Ret Tryz.prog 143 #[Zx.val c0,(Zd .i64).val c1] I o (fun y v'=>∃ r0,y=Zx.val r0∧Zx.rel v' r0 z):=by
 obtain ⟨W,J,L,rfl⟩:=Zsa h;obtain ⟨rfl,r4⟩:=p1;refine Z3b (K:=58) (args:=[.slice W J L,.int .i64 n]) hv Tryz.func143 rfl rfl zl fun f S=>?_;unfold ZDj at H;refine sr (mw S rfl fun f S=>oe (Zo fun _ av=>Zo fun _ aw=>?_));obtain ⟨ax,ay,az⟩:=ZI H;refine ZDa (fun f w=>∃ X v,X=ax∧Zb.le o v∧St 58 I o [(0,.slice W J L),(1,.int .i64 n),(14,.bool X)] [] v f w) (fun _ ag=>?_) ?_
 ·have H:=ay;refine Zw (mv S rfl fun f S=>ov S rfl (Zga S (ZN h) rfl rfl ZD) fun f S=>ov S rfl (Zg S rfl rfl ZFe) fun f S=>mv S rfl fun f S=>?_);rcases ZP (((((Zc 18446744073709551616 a)).length:Int))==(0:Int)) with M | M
  ·have H:=ZS H M;have S:=S.bool (t:=11) rfl M;refine opn S rfl rfl rfl rfl fun f S=>opn S rfl rfl rfl rfl fun f S=>ov S rfl (ZYb S (b:=true) rfl rfl) fun f S=>Zt ?_;obtain rfl:=Zp H;refine Zh (ag _ _ ⟨_,_,rfl,(leR _),(S.fr' rfl)⟩)
  have H:=ZQ H M;have S:=S.bool (t:=11) rfl M;refine opy S rfl rfl rfl rfl (ZA S rfl) fun f S=>opy S rfl rfl rfl rfl (Zg S rfl rfl ZFe) fun f S=>ov S rfl (ZYb S (b:=false) rfl rfl) fun f S=>Zt ?_;obtain rfl:=Zp H;refine Zh (ag _ _ ⟨_,_,rfl,(leR _),(S.fr' rfl)⟩)
 rintro f w ⟨X,v,hq,ah,S⟩;subst hq;have H:=az;refine Zh (aw _ _ ?_);rcases ZP (X) with N | N
 ·have H:=ZS H N;refine ZZ S rfl N (sr (mv S rfl fun f S=>mw S rfl fun f S=>oe (wp_ret (Zbb ?_))));obtain rfl:=Zp H;have h:=Zba ah h;refine ZQa S (Z3a rfl (Z0 S rfl)) ⟨[.slice W J L],rfl,h⟩
 have H:=ZQ H N;refine ZU S rfl N (wp_skip (Zh (av _ _ (Zo fun _ aA=>bO H fun bo aB H=>bO H fun bp aC H=>bO H fun B aD H=>bO H fun bq Y H=>Zw (mv S rfl fun f S=>?_)))));have h:=Zba ah h;refine ov S rfl (Zga S (ZN h) rfl rfl ZD) fun f S=>mv S rfl fun f S=>ov S rfl (Zg S rfl rfl (ZBc aB)) fun f S=>ov S rfl (Zg S rfl rfl (ZYa aC)) fun f S=>ov S rfl (Zg S rfl rfl (ZYa aD)) fun f S=>?_;obtain ⟨ai,aj⟩:∃ c:List Value,c=(List.replicate (B).toNat [.int .u64 0]).flatten:=⟨_,rfl⟩;obtain ⟨aE,w,aF,S⟩:=ZBi Zqe S (l:=B) (c:=B) (Z2a Y).1 (Z2a Y).2.1 (Z2a Y).2.2.1 (Z2a Y).2.2.2 aj;have aG:Rep.rels (Zd .u64) v ai (List.replicate (B).toNat (0:Int)):=by rw [aj];exact Z1e (show Rep.rel (Zd .u64) _ [.int .u64 0] _ from (ZE (by decide))) _
 refine ZTb wn rfl zl (aF rfl rfl) S fun f S=>mw S rfl fun f S=>Zt (Zh (aA _ _ (Zo fun _ aH=>sr (mv S rfl fun f S=>ov S rfl (Zga S (ZN h) rfl rfl ZD) fun f S=>mv S rfl fun f S=>oe ?_))));obtain ⟨aI,aJ,aK⟩:=ZI H;refine ZDa (fun f w=>∃ C P D Q ac Z,C=aI∧Zb.le v Z∧St 58 I o [(5,.slice (mkA P) D Q)] [Loc.own P 148 1 D Q ac] Z f w∧Rep.rels (Zd .u64) Z ac C∧D=C.length) (fun _ aL=>?_) ?_
 ·have H:=aJ;refine wp_block ?_;obtain ⟨br,aM,aN⟩:=ZI H;refine ZRb aM (fun aO f w=>∃ p E aa m G e q,(p,E)=aO∧Zb.le v q∧St 58 I o [(1,.int .i64 n),(5,.slice (mkA aa) m G),(23,.slice W J L),(24,.int .i64 ((((Zc 18446744073709551616 a)).length:Int))),(25,.int .i64 E)] [Loc.own aa 148 1 m G e] q f w∧Rep.rels (Zd .u64) q e p∧m=p.length∧inR .i64 E) ⟨_,_,some aE,(B).toNat,(B).toNat,ai,_,rfl,(leR _),(S.fr' rfl),aG,(repN (x:=(0:Int))),(by decide)⟩ ?_;rintro _ f w st ⟨p,E,aa,m,G,e,q,hq,ad,S,ab,s,bs⟩ H bt aP aQ;subst hq;refine sr (ov S rfl (Zg S rfl rfl Zkc) fun f S=>oe (Zo fun _ aR=>?_));rcases ZP (decide (E<(((Zc 18446744073709551616 a)).length:Int))) with R | R
  ·have H:=ZS H R;refine ZZ S rfl R (wp_skip (Zh (aR _ _ (Zo fun _ aS=>wp_block (Zo fun _ aT=>bO H fun bu ae H=>Zw (mv S rfl fun f S=>?_))))));have h:=Zba ad h;obtain ⟨_,aU,aV,bv,rfl,aW,aX⟩:=Zmb h (Zi ae).2.1;obtain ⟨rfl,aY⟩:=aX;refine ov S rfl (ZV S rfl rfl ZD (Zi ae).1 (ltI (ZN h) (Zi ae).2.2.1)) fun f S=>ov S rfl (Zqa S rfl Z9 (S.view aW)) fun f S=>mw S rfl fun f S=>mw S rfl fun f S=>Zt (Zh (aT _ _ (Zo fun _ aZ=>bO H fun bw a0 H=>bO H fun d a1 H=>bO H fun g T H=>bO H fun bx a2 H=>bO H fun k a3 H=>bO H fun bz U H=>ZOe (fl:=#[true,true,true,true,true,true,true,true,true,true,true,true,true,false]) Zff (by kernel_rfl) S ?_)));intro ops O F w S;refine rfa O F 0 rfl rfl S (ZA S rfl) fun f S=>rfa O F 1 rfl rfl S (ZA S rfl) fun f S=>rfa O F 2 rfl rfl S (ZA S rfl) fun f S=>rfa O F 3 rfl rfl S (Zg S rfl rfl (ZBc a0)) fun f S=>rfa O F 4 rfl rfl S (Zg S rfl rfl (ZYa a1)) fun f S=>?_;obtain ⟨ak,rfl⟩:=ZYc S (j:=0) rfl (posN s (Zi T).2.2.2);have al:=Zoa ab (Zi T).2.1;obtain ⟨bA,am⟩:∃ c,(List.take (Zd .u64).n (List.drop ((d).toNat*(Zd .u64).n) e))=c:=⟨_,rfl⟩;rw [am] at al;obtain ⟨rfl,bB⟩:=al;refine rfa O F 5 rfl rfl S (ZV S rfl rfl ZD (Zi T).1 (ltI s (Zi T).2.2.1)) fun f S=>rfa O F 6 rfl rfl S (Zqa S rfl Z9 (Zpd S (j:=0) rfl am (ltN s (Zi T).2.2.2) 0 [.int .u64 g] rfl zl)) fun f S=>rfa O F 7 rfl rfl S (ZA S rfl) fun f S=>rfa O F 8 rfl rfl S (ZA S rfl) fun f S=>rfa O F 9 rfl rfl S (Zg S rfl rfl (ZYf a2)) fun f S=>rfa O F 10 rfl rfl S (Zg S rfl rfl (Zdh a3)) fun f S=>rfa O F 11 rfl rfl S (Zg S rfl rfl Zbl) fun f S=>?_
   have an:=Zoa ab (Zi U).2.1;obtain ⟨bC,a4⟩:∃ c,(List.take (Zd .u64).n (List.drop ((d).toNat*(Zd .u64).n) e))=c:=⟨_,rfl⟩;rw [a4] at an;obtain ⟨rfl,bD⟩:=an;refine rfa O F 12 rfl rfl S (ZV S rfl rfl ZD (Zi U).1 (ltI s (Zi U).2.2.1)) fun f S=>go1 O F 13 ?_;obtain ⟨w,a5,S⟩:=Z6b S Z9 (off:=0+(d).toNat*1) (z:=.int .u64 (orI .u64 g k)) (cs:=[.int .u64 (orI .u64 g k)]) (ZVb rfl) rfl (i:=0) rfl (Zie S (j:=0) rfl (ltN s (Zi U).2.2.2)) (by first | rfl | simp [plain]);have ao:Rep.rels (Zd .u64) q (List.take (0+(d).toNat*1) e++[Value.int IntKind.u64 (orI .u64 g k)]++List.drop (0+(d).toNat*1+1) e) (p.set (d).toNat (orI .u64 g k)):=Zyd ab (Zi U).2.2.2 (show Rep.rel (Zd .u64) q [.int .u64 (orI .u64 g k)] _ from (ZE (Zza _ _))) rfl rfl;have af:m=(p.set (d).toNat (orI .u64 g k)).length:=Z5d s;refine nxs [0,1,2,3,4,5,6,7,8,9,10,11,12] [] O rfl rfl (a5 rfl rfl) (⟨ZCc,Zvf O F (Zh (aZ _ _ (bO H fun bE a6 H=>bO H fun bG a7 H=>bO H fun r a8 H=>bO H fun bH a9 H=>bO H fun bI ba H=>bO H fun u ap H=>bO H fun bJ V H=>Zw (mv S rfl fun f S=>mv S rfl fun f S=>?_))))⟩);refine mv S rfl fun f S=>ov S rfl (Zg S rfl rfl (ZBc a6)) fun f S=>ov S rfl (Zg S rfl rfl (ZYa a7)) fun f S=>ov S rfl (Zg S rfl rfl (ZYa a8)) fun f S=>mv S rfl fun f S=>mv S rfl fun f S=>ov S rfl (Zg S rfl rfl (ZYf a9)) fun f S=>ov S rfl (Zg S rfl rfl (ZIa ba)) fun f S=>ov S rfl (Zg S rfl rfl (Z5b ap)) fun f S=>?_
   have aq:=Zoa ao (Zi V).2.1;obtain ⟨bK,bb⟩:∃ c,(List.take (Zd .u64).n (List.drop ((r).toNat*(Zd .u64).n) (List.take (0+(d).toNat*1) e++[Value.int IntKind.u64 (orI .u64 g k)]++List.drop (0+(d).toNat*1+1) e)))=c:=⟨_,rfl⟩;rw [bb] at aq;obtain ⟨rfl,bM⟩:=aq;refine ov S rfl (ZV S rfl rfl ZD (Zi V).1 (ltI af (Zi V).2.2.1)) fun f S=>?_;obtain ⟨w,bc,S⟩:=Z6b S Z9 (off:=0+(r).toNat*1) (z:=.int .u64 u) (cs:=[.int .u64 u]) (ZVb rfl) rfl (i:=0) rfl (Zie S (j:=0) rfl (ltN af (Zi V).2.2.2)) (by first | rfl | simp [plain]);have bd:Rep.rels (Zd .u64) q (List.take (0+(r).toNat*1) ((List.take (0+(d).toNat*1) e++[Value.int IntKind.u64 (orI .u64 g k)]++List.drop (0+(d).toNat*1+1) e))++[Value.int IntKind.u64 (u)]++List.drop (0+(r).toNat*1+1) ((List.take (0+(d).toNat*1) e++[Value.int IntKind.u64 (orI .u64 g k)]++List.drop (0+(d).toNat*1+1) e))) (((p.set (d).toNat (orI .u64 g k))).set (r).toNat u):=Zyd ao (Zi V).2.2.2 (show Rep.rel (Zd .u64) q [.int .u64 u] _ from (ZE (Zog aY ap))) rfl rfl;have be:m=(((p.set (d).toNat (orI .u64 g k))).set (r).toNat u).length:=Z5d af;refine Zjg wn rfl (bc rfl rfl) (Zt ?_);have S:=S.fr' (σ':=[(1,.int .i64 n),(5,.slice (mkA (some ak)) (m) G),(23,.slice (some ⟨aU,aV,none⟩) J L),(24,.int .i64 ((((Zc 18446744073709551616 a)).length:Int))),(25,.int .i64 E)]) rfl
   refine ZPb (Zh (aS _ _ (bO H fun bP ar H=>Zw (ov S rfl (Zg S rfl rfl (ZYa ar)) fun f S=>mv S rfl fun f S=>Zt ?_))));obtain rfl:=Zp H;refine aP _ rfl _ _ ⟨_,_,some ak,m,G,(List.take (0+(r).toNat*1) ((List.take (0+(d).toNat*1) e++[Value.int IntKind.u64 (orI .u64 g k)]++List.drop (0+(d).toNat*1+1) e))++[Value.int IntKind.u64 (u)]++List.drop (0+(r).toNat*1+1) ((List.take (0+(d).toNat*1) e++[Value.int IntKind.u64 (orI .u64 g k)]++List.drop (0+(d).toNat*1+1) e))),_,rfl,ad,(S.fr' rfl),bd,be,(ZHa ar).2⟩
  have H:=ZQ H R;refine ZU S rfl R (wp_exit (Z4 ?_));obtain rfl:=Zp H;have hq:=aQ _ rfl;subst hq;have H:=aN;refine Z4 (Zub ?_);obtain rfl:=Zp H;refine Zh (aL _ _ ⟨_,aa,m,G,e,_,rfl,(leT (leR _) ad),(S.fr' rfl),ab,s⟩)
 rintro f w ⟨C,P,D,Q,ac,Z,hq,bQ,S,bf,bg⟩;subst hq;have H:=aK;refine Zh (aH _ _ (Zo fun _ bh=>bO H fun bR bi H=>Zw (mv S rfl fun f S=>?_)));obtain ⟨bS,bT,S,bj⟩:=S.pubSlice (i:=0) (A:=(Zd .u64)) (l:=C) (ℓ':=[]) rfl rfl bg bf rfl;refine opc S rfl (Zea S [.slice (mkA P) D Q] ZRf rfl rfl) (Z3f S.vin (show Rep.rel (Zv (Zd .u64)) _ [.slice (mkA P) D Q] C from bj) bi) ?_;rintro _ bU f w bV ⟨bW,rfl,au⟩ S;obtain ⟨bk,bm,bn,rfl⟩:=Zsa au;refine mw S rfl fun f S=>Zt (Zh (bh _ _ (wp_ret ?_)));obtain rfl:=Zp H;refine ZQa S (Z3a rfl (Z0 S rfl)) ⟨[.slice bk bm bn],rfl,au⟩
theorem ZBt {c:World} {b:Zb} (hv:VIn b c) {d:List Value} {a:Nat} (g:Rep.rel Zx b d a) {e:List Value} {n:Int} (h:Rep.rel (Zd .i64) b e n) {z:Nat} (hm:Zve a n=some z) :
  Ret Tryz.prog 143 #[Zx.val d,(Zd .i64).val e] c b (fun y v'=>∃ f,y=Zx.val f∧Zx.rel v' f z) :=
 left_w hv g h (Z3v hm)
theorem right_w {C:World} {g:Zb} (hv:VIn g C) {c0:List Value} {a:Nat} (h:Rep.rel Zx g c0 a) {c1:List Value} {n:Int} (p1:Rep.rel (Zd .i64) g c1 n) {z:Nat} (H:ZUj a n=some z):Ret Tryz.prog 145 #[Zx.val c0,(Zd .i64).val c1] C g (fun y v'=>∃ r0,y=Zx.val r0∧Zx.rel v' r0 z):=by
 obtain ⟨q1,P,Q,rfl⟩:=Zsa h;obtain ⟨rfl,r4⟩:=p1;refine Z3b (K:=65) (args:=[.slice q1 P Q,.int .i64 n]) hv Tryz.func145 rfl rfl zl fun f S=>?_;unfold ZUj at H;refine sr (mw S rfl fun f S=>oe (Zo fun _ ax=>Zo fun _ ay=>bO H fun az aA H=>Zw (mv S rfl fun f S=>ov S rfl (Zg S rfl rfl (ZBc aA)) fun f S=>mv S rfl fun f S=>ov S rfl (Zga S (ZN h) rfl rfl ZD) fun f S=>ov S rfl (Zg S rfl rfl Zyc) fun f S=>Zt (Zh (ay _ _ ?_)))));rcases ZP (decide ((((Zc 18446744073709551616 a)).length:Int)≤az)) with D | D
 ·have H:=ZS H D;refine ZZ S rfl D (sr (mw S rfl fun f S=>oe (wp_ret (Zbb ?_))));obtain rfl:=Zp H;refine ZQa S (Z3a rfl (Z0 S rfl)) ⟨[.slice none 0 0],rfl,(ZCh _)⟩
 have H:=ZQ H D;refine ZU S rfl D (wp_skip (Zh (ax _ _ (Zo fun _ aB=>bO H fun bx aC H=>bO H fun k aD H=>bO H fun bz R H=>Zw (mv S rfl fun f S=>ov S rfl (Zga S (ZN h) rfl rfl ZD) fun f S=>mv S rfl fun f S=>ov S rfl (Zg S rfl rfl (ZBc aC)) fun f S=>ov S rfl (Zg S rfl rfl (ZIa aD)) fun f S=>?_)))));obtain ⟨ai,aj⟩:∃ c:List Value,c=(List.replicate (k).toNat [.int .u64 0]).flatten:=⟨_,rfl⟩;obtain ⟨aE,w,aF,S⟩:=ZBi Zqe S (l:=k) (c:=k) (Z2a R).1 (Z2a R).2.1 (Z2a R).2.2.1 (Z2a R).2.2.2 aj;have aG:Rep.rels (Zd .u64) g ai (List.replicate (k).toNat (0:Int)):=by rw [aj];exact Z1e (show Rep.rel (Zd .u64) _ [.int .u64 0] _ from (ZE (by decide))) _
 refine ZTb wn rfl zl (aF rfl rfl) S fun f S=>mw S rfl fun f S=>Zt (Zh (aB _ _ (Zo fun _ aH=>sr (mv S rfl fun f S=>ov S rfl (Zga S (repN (x:=(0:Int))) rfl rfl ZD) fun f S=>mv S rfl fun f S=>oe ?_))));obtain ⟨aI,aJ,aK⟩:=ZI H;refine ZDa (fun f w=>∃ t E u G ac T,t=aI∧Zb.le g T∧St 65 C g [(5,.slice (mkA E) u G)] [Loc.own E 148 1 u G ac] T f w∧Rep.rels (Zd .u64) T ac t∧u=t.length) (fun _ aL=>?_) ?_
 ·have H:=aJ;refine wp_block ?_;obtain ⟨bA,aM,aN⟩:=ZI H;refine ZRb aM (fun aO f w=>∃ p b U m r d o,(p,b)=aO∧Zb.le g o∧St 65 C g [(0,.slice q1 P Q),(1,.int .i64 n),(5,.slice (mkA U) m r),(19,.int .i64 ((((List.replicate (k).toNat (0:Int))).length:Int))),(20,.int .i64 b)] [Loc.own U 148 1 m r d] o f w∧Rep.rels (Zd .u64) o d p∧m=p.length∧inR .i64 b) ⟨_,_,some aE,(k).toNat,(k).toNat,ai,_,rfl,(leR _),(S.fr' rfl),aG,(repN (x:=(0:Int))),(by decide)⟩ ?_;rintro _ f w st ⟨p,b,U,m,r,d,o,hq,ad,S,ae,I,bB⟩ H bC aP aQ;subst hq;refine sr (ov S rfl (Zg S rfl rfl Zkc) fun f S=>oe (Zo fun _ aR=>?_));rcases ZP (decide (b<(((List.replicate (k).toNat (0:Int))).length:Int))) with J | J
  ·have H:=ZS H J;refine ZZ S rfl J (wp_skip (Zh (aR _ _ (Zo fun _ aS=>wp_block (sr (mv S rfl fun f S=>mw S rfl fun f S=>oe (Zo fun _ aT=>bO H fun bD aU H=>bO H fun bE aV H=>bO H fun bG af H=>bO H fun bH aW H=>?_)))))));refine bO H fun e ak H=>bO H fun bI v H=>Zw (mv S rfl fun f S=>mv S rfl fun f S=>mv S rfl fun f S=>mv S rfl fun f S=>mv S rfl fun f S=>ov S rfl (Zg S rfl rfl (ZBc aU)) fun f S=>ov S rfl (Zg S rfl rfl (ZYa aV)) fun f S=>?_);have h:=Zba ad h;obtain ⟨_,al,am,bJ,rfl,aX,aY⟩:=Zmb h (Zi af).2.1;obtain ⟨rfl,aZ⟩:=aY;refine ov S rfl (ZV S rfl rfl ZD (Zi af).1 (ltI (ZN h) (Zi af).2.2.1)) fun f S=>ov S rfl (Zqa S rfl Z9 (S.view aX)) fun f S=>mv S rfl fun f S=>ov S rfl (Zg S rfl rfl (ZYf aW)) fun f S=>ov S rfl (Zg S rfl rfl (Z5b ak)) fun f S=>?_;obtain ⟨ag,rfl⟩:=ZYc S (j:=0) rfl (posN I (Zi v).2.2.2);have an:=Zoa ae (Zi v).2.1;obtain ⟨bK,a0⟩:∃ c,(List.take (Zd .u64).n (List.drop ((b).toNat*(Zd .u64).n) d))=c:=⟨_,rfl⟩;rw [a0] at an;obtain ⟨rfl,bM⟩:=an;refine ov S rfl (ZV S rfl rfl ZD (Zi v).1 (ltI I (Zi v).2.2.1)) fun f S=>?_;obtain ⟨w,a1,S⟩:=Z6b S Z9 (off:=0+(b).toNat*1) (z:=.int .u64 e) (cs:=[.int .u64 e]) (ZVb rfl) rfl (i:=0) rfl (Zie S (j:=0) rfl (ltN I (Zi v).2.2.2)) (by first | rfl | simp [plain])
   have V:Rep.rels (Zd .u64) o (List.take (0+(b).toNat*1) d++[Value.int IntKind.u64 (e)]++List.drop (0+(b).toNat*1+1) d) (p.set (b).toNat e):=Zyd ae (Zi v).2.2.2 (show Rep.rel (Zd .u64) o [.int .u64 e] _ from (ZE (Zog aZ ak))) rfl rfl;have B:m=(p.set (b).toNat e).length:=Z5d I;refine Zjg wn rfl (a1 rfl rfl) (Zt (Zh (aT _ _ (Zo fun _ a2=>bO H fun bP a3 H=>bO H fun bQ a4 H=>bO H fun ao a5 H=>Zw (mv S rfl fun f S=>mv S rfl fun f S=>ov S rfl (Zg S rfl rfl (ZBc a3)) fun f S=>ov S rfl (Zg S rfl rfl (ZYa a4)) fun f S=>ov S rfl (Zg S rfl rfl (ZYa a5)) fun f S=>mv S rfl fun f S=>?_)))));refine ov S rfl (Zga S (ZN h) rfl rfl ZD) fun f S=>ov S rfl (Zg S rfl rfl Zkc) fun f S=>Zt ?_;have S:=S.fr' (σ':=[(0,.slice (some ⟨al,am,none⟩) P Q),(1,.int .i64 n),(5,.slice (mkA (some ag)) (m) r),(6,.int .i64 b),(19,.int .i64 ((((List.replicate (k).toNat (0:Int))).length:Int))),(20,.int .i64 b),(43,.bool (decide (ao<(((Zc 18446744073709551616 a)).length:Int))))]) rfl;refine Zh (a2 _ _ ?_);obtain ⟨a6,a7,a8⟩:=ZI H;refine ZDa (fun f w=>∃ W X L Y Z aa,W=a6∧Zb.le o aa∧St 65 C g [(0,.slice (some ⟨al,am,none⟩) P Q),(1,.int .i64 n),(5,.slice (mkA X) L Y),(19,.int .i64 ((((List.replicate (k).toNat (0:Int))).length:Int))),(20,.int .i64 b)] [Loc.own X 148 1 L Y Z] aa f w∧Rep.rels (Zd .u64) aa Z W∧L=W.length) (fun _ ap=>?_) ?_
   ·have H:=a7;rcases ZP (decide (ao<(((Zc 18446744073709551616 a)).length:Int))) with M | M
    ·have H:=ZS H M;refine ZZ S rfl M (bO H fun q ab H=>bO H fun bR a9 H=>bO H fun bS ba H=>bO H fun bT bb H=>bO H fun bU ah H=>bO H fun bV bc H=>bO H fun bW bd H=>bO H fun s be H=>bO H fun bX N H=>ZOe (fl:=#[true,true,true,true,true,true,true,true,true,true,true,true,true,true,true,true,true,true,false]) Zff (by kernel_rfl) S ?_);intro ops O F w S;refine rfa O F 0 rfl rfl S (ZA S rfl) fun f S=>rfa O F 1 rfl rfl S (ZA S rfl) fun f S=>?_;have aq:=Zoa V (Zi ab).2.1;obtain ⟨bY,ar⟩:∃ c,(List.take (Zd .u64).n (List.drop ((b).toNat*(Zd .u64).n) (List.take (0+(b).toNat*1) d++[Value.int IntKind.u64 (e)]++List.drop (0+(b).toNat*1+1) d)))=c:=⟨_,rfl⟩;rw [ar] at aq;obtain ⟨rfl,bZ⟩:=aq;refine rfa O F 2 rfl rfl S (ZV S rfl rfl ZD (Zi ab).1 (ltI B (Zi ab).2.2.1)) fun f S=>rfa O F 3 rfl rfl S (Zqa S rfl Z9 (Zpd S (j:=0) rfl ar (ltN B (Zi ab).2.2.2) 0 [.int .u64 q] rfl zl)) fun f S=>rfa O F 4 rfl rfl S (ZA S rfl) fun f S=>rfa O F 5 rfl rfl S (ZA S rfl) fun f S=>rfa O F 6 rfl rfl S (ZA S rfl) fun f S=>rfa O F 7 rfl rfl S (Zg S rfl rfl (ZBc a9)) fun f S=>rfa O F 8 rfl rfl S (Zg S rfl rfl (ZYa ba)) fun f S=>rfa O F 9 rfl rfl S (Zg S rfl rfl (ZYa bb)) fun f S=>?_
     obtain ⟨b0,bf,bg⟩:=ZZh h (Zi ah).2.1;obtain ⟨rfl,b1⟩:=bg;refine rfa O F 10 rfl rfl S (ZV S rfl rfl ZD (Zi ah).1 (ltI (ZN h) (Zi ah).2.2.1)) fun f S=>rfa O F 11 rfl rfl S (Zqa S rfl Z9 (S.view bf)) fun f S=>rfa O F 12 rfl rfl S (ZA S rfl) fun f S=>rfa O F 13 rfl rfl S (Zg S rfl rfl (ZYf bc)) fun f S=>rfa O F 14 rfl rfl S (Zg S rfl rfl (ZIa bd)) fun f S=>rfa O F 15 rfl rfl S (Zg S rfl rfl (Zdh be)) fun f S=>rfa O F 16 rfl rfl S (Zg S rfl rfl Zbl) fun f S=>?_;have au:=Zoa V (Zi N).2.1;obtain ⟨b2,bh⟩:∃ c,(List.take (Zd .u64).n (List.drop ((b).toNat*(Zd .u64).n) (List.take (0+(b).toNat*1) d++[Value.int IntKind.u64 (e)]++List.drop (0+(b).toNat*1+1) d)))=c:=⟨_,rfl⟩;rw [bh] at au;obtain ⟨rfl,b3⟩:=au;refine rfa O F 17 rfl rfl S (ZV S rfl rfl ZD (Zi N).1 (ltI B (Zi N).2.2.1)) fun f S=>go1 O F 18 ?_;obtain ⟨w,bi,S⟩:=Z6b S Z9 (off:=0+(b).toNat*1) (z:=.int .u64 (orI .u64 q s)) (cs:=[.int .u64 (orI .u64 q s)]) (ZVb rfl) rfl (i:=0) rfl (Zie S (j:=0) rfl (ltN B (Zi N).2.2.2)) (by first | rfl | simp [plain]);have bj:Rep.rels (Zd .u64) o (List.take (0+(b).toNat*1) ((List.take (0+(b).toNat*1) d++[Value.int IntKind.u64 (e)]++List.drop (0+(b).toNat*1+1) d))++[Value.int IntKind.u64 (orI .u64 q s)]++List.drop (0+(b).toNat*1+1) ((List.take (0+(b).toNat*1) d++[Value.int IntKind.u64 (e)]++List.drop (0+(b).toNat*1+1) d))) (((p.set (b).toNat e)).set (b).toNat (orI .u64 q s)):=Zyd V (Zi N).2.2.2 (show Rep.rel (Zd .u64) o [.int .u64 (orI .u64 q s)] _ from (ZE (Zza _ _))) rfl rfl
     have bk:m=(((p.set (b).toNat e)).set (b).toNat (orI .u64 q s)).length:=Z5d B;refine nxs [0,1,2,3,4,5,6,7,8,9,10,11,12,13,14,15,16,17] [] O rfl rfl (bi rfl rfl) (⟨ZCc,Zvf O F ?_⟩);obtain rfl:=Zp H;refine Zh (ap _ _ ⟨_,some ag,m,r,(List.take (0+(b).toNat*1) ((List.take (0+(b).toNat*1) d++[Value.int IntKind.u64 (e)]++List.drop (0+(b).toNat*1+1) d))++[Value.int IntKind.u64 (orI .u64 q s)]++List.drop (0+(b).toNat*1+1) ((List.take (0+(b).toNat*1) d++[Value.int IntKind.u64 (e)]++List.drop (0+(b).toNat*1+1) d))),_,rfl,(leR _),(S.fr' rfl),bj,bk⟩)
    have H:=ZQ H M;refine ZU S rfl M (wp_skip ?_);obtain rfl:=Zp H;refine Zh (ap _ _ ⟨_,some ag,m,r,(List.take (0+(b).toNat*1) d++[Value.int IntKind.u64 (e)]++List.drop (0+(b).toNat*1+1) d),_,rfl,(leR _),(S.fr' rfl),V,B⟩)
   rintro f w ⟨W,X,L,Y,Z,aa,hq,bm,S,bn,bo⟩;subst hq;have H:=a8;refine ZPb (Zh (aS _ _ (bO H fun b4 av H=>Zw (ov S rfl (Zg S rfl rfl (ZYa av)) fun f S=>mv S rfl fun f S=>Zt ?_))));obtain rfl:=Zp H;refine aP _ rfl _ _ ⟨_,_,X,L,Y,Z,_,rfl,(leT ad bm),(S.fr' rfl),bn,bo,(ZHa av).2⟩
  have H:=ZQ H J;refine ZU S rfl J (wp_exit (Z4 ?_));obtain rfl:=Zp H;have hq:=aQ _ rfl;subst hq;have H:=aN;refine Z4 (Zub ?_);obtain rfl:=Zp H;refine Zh (aL _ _ ⟨_,U,m,r,d,_,rfl,(leT (leR _) ad),(S.fr' rfl),ae,I⟩)
 rintro f w ⟨t,E,u,G,ac,T,hq,b5,S,bp,bq⟩;subst hq;have H:=aK;refine Zh (aH _ _ (Zo fun _ br=>bO H fun b6 bs H=>Zw (mv S rfl fun f S=>?_)));obtain ⟨b7,b8,S,bt⟩:=S.pubSlice (i:=0) (A:=(Zd .u64)) (l:=t) (ℓ':=[]) rfl rfl bq bp rfl;refine opc S rfl (Zea S [.slice (mkA E) u G] ZRf rfl rfl) (Z3f S.vin (show Rep.rel (Zv (Zd .u64)) _ [.slice (mkA E) u G] t from bt) bs) ?_;rintro _ b9 f w ca ⟨cb,rfl,aw⟩ S;obtain ⟨bu,bv,bw,rfl⟩:=Zsa aw;refine mw S rfl fun f S=>Zt (Zh (br _ _ (wp_ret ?_)));obtain rfl:=Zp H;refine ZQa S (Z3a rfl (Z0 S rfl)) ⟨[.slice bu bv bw],rfl,aw⟩
theorem right_c {c:World} {b:Zb} (hv:VIn b c) {d:List Value} {a:Nat} (h:Rep.rel Zx b d a) {e:List Value} {n:Int} (f:Rep.rel (Zd .i64) b e n) {z:Nat} (hm:Z6g a n=some z) :
  Ret Tryz.prog 145 #[Zx.val d,(Zd .i64).val e] c b (fun y v'=>∃ g,y=Zx.val g∧Zx.rel v' g z) :=
 right_w hv h f (ZUu f.2 hm)
theorem word_w {b:World} {a:Zb} (hv:VIn a b) {c:List Value} {n:Int} (h:Rep.rel (Zd .u64) a c n) {z:Nat} (H:Zjj n=some z):Ret Tryz.prog 99 #[(Zd .u64).val c] b a (fun y v'=>∃ d,y=Zx.val d∧Zx.rel v' d z):=by
 obtain ⟨rfl,j⟩:=h;refine Z3b (K:=6) (args:=[.int .u64 n]) hv Tryz.func99 rfl rfl zl fun f S=>?_;unfold Zjj at H;refine sr (mw S rfl fun f S=>oe (Zo fun _ k=>bO H fun u m H=>Zw (mv S rfl fun f S=>?_)));obtain ⟨e,w,o,S⟩:=ZDg S (n:=1) (cs:=[.int .u64 n]) (vals:=[(0,.int .u64 n)]) (sz:=1) rfl (by decide) (ZUp Zqe (x:=.int .u64 n) (cs:=[.int .u64 n]) rfl rfl (by decide));have p:Rep.rels (Zd .u64) a [.int .u64 n] [n]:=(ZJp (ZE j) Zmd);refine ZTb wn rfl zl (o rfl) S fun f S=>?_;obtain ⟨v,B,S,q⟩:=S.pubSlice (i:=0) (A:=(Zd .u64)) (l:=[n]) (ℓ':=[]) rfl rfl rfl p rfl;refine opc S rfl (Zea S [.slice (mkA (some e)) (1) 1] ZRf rfl rfl) (Z3f S.vin (show Rep.rel (Zv (Zd .u64)) _ [.slice (mkA (some e)) (1) 1] ([n]) from q) m) ?_;rintro _ C f w D ⟨E,rfl,g⟩ S;obtain ⟨r,s,t,rfl⟩:=Zsa g;refine mw S rfl fun f S=>Zt (Zh (k _ _ (wp_ret ?_)));obtain rfl:=Zp H;refine ZQa S (Z3a rfl (Z0 S rfl)) ⟨[.slice r s t],rfl,g⟩
theorem word_c {b:World} {a:Zb} (hv:VIn a b) {c:List Value} {n:Int} (e:Rep.rel (Zd .u64) a c n) {z:Nat} (hm:Zvc n=some z) :
  Ret Tryz.prog 99 #[(Zd .u64).val c] b a (fun y v'=>∃ d,y=Zx.val d∧Zx.rel v' d z) :=
 word_w hv e (ZUs hm)
theorem ZOz {w0:World} {F:Zb} (hv:VIn F w0) {c0:List Value} {a:Nat} (m:Rep.rel Zx F c0 a) {c1:List Value} {b:Nat} (g:Rep.rel Zx F c1 b) {z:Nat×Nat} (H:Z0i a b=some z):Ret Tryz.prog 102 #[Zx.val c0,Zx.val c1] w0 F (fun y v'=>∃ r0 r1,y = .tuple #[Zx.val r0,Zx.val r1]∧Zx.rel v' r0 z.1∧Zx.rel v' r1 z.2):=by
 obtain ⟨R,T,U,rfl⟩:=Zsa m;obtain ⟨q4,n5,k6,rfl⟩:=Zsa g;refine Z3b (K:=84) (args:=[.slice R T U,.slice q4 n5 k6]) hv Tryz.func102 rfl rfl zl fun f S=>?_;unfold Z0i at H;refine sr (mw S rfl fun f S=>mw S rfl fun f S=>oe (Zo fun _ bb=>wp_block (Zo fun _ bc=>bO H fun bd be H=>Zw (mv S rfl fun f S=>mv S rfl fun f S=>opc S rfl (Zea S [.slice R T U,.slice q4 n5 k6] ZNr rfl rfl) (cmp_c S.vin m g be) ?_))));rintro _ cV f w aj ⟨cW,rfl,bf⟩ S;obtain ⟨rfl,cX⟩:=bf;refine ov S rfl (Zg S rfl rfl Zkc) fun f S=>mw S rfl fun f S=>Zt (Zh (bc _ _ ?_));rcases ZP (decide (bd<(0:Int))) with V | V
 ·have H:=ZS H V;refine ZZ S rfl V (sr (mv S rfl fun f S=>mw S rfl fun f S=>mw S rfl fun f S=>oe (wp_ret (ZIh (Zbb ?_)))));obtain rfl:=Zp H;have m:=Zba aj m;refine ZQa S (ZGf rfl (Z0 S rfl) (Z0 S rfl)) ⟨[.slice none 0 0],[.slice R T U],rfl,(ZCh _),m⟩
 have H:=ZQ H V;refine ZU S rfl V (sr (mv S rfl fun f S=>?_));have g:=Zba aj g;refine ov S rfl (Zga S (ZN g) rfl rfl ZD) fun f S=>ov S rfl (Zg S rfl rfl ZFe) fun f S=>mw S rfl fun f S=>oe ?_;rcases ZP (((((Zc 18446744073709551616 b)).length:Int))==(1:Int)) with W | W
 ·have H:=ZS H W;refine ZZ S rfl W (Zo fun _ bg=>bO H fun au av H=>bO H fun aw bh H=>Zw (mv S rfl fun f S=>mv S rfl fun f S=>?_));obtain ⟨_,cY,cZ,c2,rfl,ax,bi⟩:=Zmb g (Zi av).2.1;obtain ⟨rfl,bj⟩:=bi;refine ov S rfl (ZV S rfl rfl ZD (Zi av).1 (ltI (ZN g) (Zi av).2.2.1)) fun f S=>ov S rfl (Zqa S rfl Z9 (S.view ax)) fun f S=>?_;have m:=Zba aj m;refine opc S rfl (Zea S [.slice R T U,.int .u64 au] ZUt rfl rfl) (Zkq S.vin m (show Rep.rel (Zd .u64) _ [.int .u64 au] au from (ZE bj)) bh) ?_;rintro _ c3 f w bk ⟨c4,c5,rfl,ak,bm⟩ S;have ax:=Atm bk ax;obtain ⟨aS,aT,aU,rfl⟩:=Zsa ak;obtain ⟨rfl,bn⟩:=bm;refine mv S rfl fun f S=>ov S rfl (ZJa S rfl rfl) fun f S=>ov S rfl (ZJa S rfl rfl) fun f S=>mw S rfl fun f S=>mw S rfl fun f S=>Zt (Zh (bg _ _ (Zo fun _ bo=>bO H fun c6 bp H=>Zw (mv S rfl fun f S=>mv S rfl fun f S=>opc S rfl (Zea S [.int .u64 (aw.2)] k_en99 rfl rfl) (word_c S.vin (show Rep.rel (Zd .u64) _ [.int .u64 (aw.2)] aw.2 from (ZE bn)) bp) ?_))));rintro _ c7 f w bq ⟨c8,rfl,aV⟩ S;obtain ⟨aW,aX,aY,rfl⟩:=Zsa aV;refine mw S rfl fun f S=>mw S rfl fun f S=>Zt ?_;have S:=S.fr' (σ':=[(4,.slice aS aT aU),(5,.slice aW aX aY)]) rfl;refine Zh (bo _ _ (wp_ret (ZIh (Zbb ?_))))
  obtain rfl:=Zp H;have ak:=Zba bq ak;refine ZQa S (ZGf rfl (Z0 S rfl) (Z0 S rfl)) ⟨[.slice aS aT aU],[.slice aW aX aY],rfl,ak,aV⟩
 have H:=ZQ H W;refine ZU S rfl W (wp_skip (ZPb (Zh (bb _ _ (Zo fun _ br=>bO H fun c9 bs H=>bO H fun ay az H=>bO H fun k bt H=>Zw (mv S rfl fun f S=>mv S rfl fun f S=>ov S rfl (Zga S (ZN g) rfl rfl ZD) fun f S=>ov S rfl (Zg S rfl rfl (ZIa bs)) fun f S=>?_))))));obtain ⟨_,bu,bv,da,rfl,aA,bw⟩:=Zmb g (Zi az).2.1;obtain ⟨rfl,bx⟩:=bw;refine ov S rfl (ZV S rfl rfl ZD (Zi az).1 (ltI (ZN g) (Zi az).2.2.1)) fun f S=>ov S rfl (Zqa S rfl Z9 (S.view aA)) fun f S=>opc S rfl (Zea S [.int .u64 ay] Zrs rfl rfl) (Zts S.vin (show Rep.rel (Zd .u64) _ [.int .u64 ay] ay from (ZE bx)) bt) ?_;rintro _ db f w aB ⟨dc,rfl,bz⟩ S;have aA:=Atm aB aA;obtain ⟨rfl,aC⟩:=bz;refine mw S rfl fun f S=>Zt (Zh (br _ _ (Zo fun _ bA=>bO H fun bB bC H=>Zw (mv S rfl fun f S=>mv S rfl fun f S=>?_))));have g:=Zba aB g;refine opc S rfl (Zea S [.slice (some ⟨bu,bv,none⟩) n5 k6,.int .i64 k] ZTq rfl rfl) (ZBt S.vin g (show Rep.rel (Zd .i64) _ [.int .i64 k] k from (ZE aC)) bC) ?_;rintro _ bD f w bE ⟨dd,rfl,v⟩ S;obtain ⟨aD,aE,aF,rfl⟩:=Zsa v;refine mw S rfl fun f S=>Zt (Zh (bA _ _ (Zo fun _ bG=>bO H fun X bH H=>bO H fun de bI H=>bO H fun df bJ H=>Zw ?_)))
 obtain ⟨dg,w,bK,S⟩:=ZDg (P:=Tryz.prog) (t:=39) (e:=148) S (n:=0) (cs:=[]) (vals:=[]) (sz:=1) rfl (by decide) (fun _=>by kernel_rfl);have aG:Rep.rels (Zd .u64) bD [] []:=Zmd;refine ZTb wn rfl zl (bK rfl) S fun f S=>mv S rfl fun f S=>mv S rfl fun f S=>?_;have m:=Zba (leT (leT aj aB) bE) m;refine opc S rfl (Zea S [.slice R T U,.int .i64 k] ZTq rfl rfl) (ZBt S.vin m (show Rep.rel (Zd .i64) _ [.int .i64 k] k from (ZE aC)) bH) ?_;rintro _ al f w aZ ⟨dh,rfl,aH⟩ S;have aG:=Z2 aZ aG;obtain ⟨di,dj,dk,rfl⟩:=Zsa aH;have aI:=S;obtain ⟨dl,dm,a0,w,bM,S,bP⟩:=Zqg (ty:=39) (A:=(Zd .u64)) Zqe S (i:=0) (n':=(([]:(List Int))++((Zc 18446744073709551616 X))).length) rfl aH (appN rfl (ZN aH)) (ZLe bI) (by decide);have bQ:=ZDc aG bP;refine ZTb wn rfl zl (ZKe aI rfl rfl bM) S fun f S=>?_;obtain ⟨dn,w,bR,S⟩:=ZDg S (n:=1) (cs:=[.int .u64 0]) (vals:=[(0,.int .u64 0)]) (sz:=1) rfl (by decide) (ZUp Zqe (x:=.int .u64 0) (cs:=[.int .u64 0]) rfl rfl (by decide));have aJ:Rep.rels (Zd .u64) al [.int .u64 0] [(0:Int)]:=(ZJp (ZE (by decide)) Zmd);refine ZTb wn rfl zl (bR rfl) S fun f S=>?_;have aI:=S;obtain ⟨aK,aL,w,bS,S⟩:=Z9k (ty:=39) Zqe S (i:=1) (n':=((([]:(List Int))++((Zc 18446744073709551616 X)))++[(0:Int)]).length) rfl (Z3e aJ rfl) (ZBm S (j:=0) rfl) (ZMk aJ) (appN rfl rfl) (ZLe bJ) (by decide)
 have bT:=ZDc bQ aJ;refine ZTb wn rfl zl (ZKe aI rfl rfl bS) S fun f S=>mw S rfl fun f S=>Zt ?_;have S:=S.fr' (σ':=[(8,.int .i64 k),(9,.slice aD aE aF),(10,.slice (mkA aK) (((([]:(List Int))++((Zc 18446744073709551616 X)))++[(0:Int)]).length) aL)]) rfl;refine Zh (bG _ _ (sr (mv S rfl fun f S=>?_)));have v:=Zba aZ v;refine ov S rfl (Zga S (ZN v) rfl rfl ZD) fun f S=>mw S rfl fun f S=>oe (Zo fun _ bU=>bO H fun q bV H=>bO H fun dp am H=>Zw (mv S rfl fun f S=>ov S rfl (Zga S rfl rfl rfl ZD) fun f S=>mv S rfl fun f S=>ov S rfl (Zg S rfl rfl (ZIa bV)) fun f S=>?_));obtain ⟨aM,a1⟩:∃ c:List Value,c=(List.replicate (q).toNat [.int .u64 0]).flatten:=⟨_,rfl⟩;obtain ⟨a2,w,bW,S⟩:=ZBi Zqe S (l:=q) (c:=q) (Z2a am).1 (Z2a am).2.1 (Z2a am).2.2.1 (Z2a am).2.2.2 a1;have bX:Rep.rels (Zd .u64) al aM (List.replicate (q).toNat (0:Int)):=by rw [a1];exact Z1e (show Rep.rel (Zd .u64) _ [.int .u64 0] _ from (ZE (by decide))) _
 refine ZTb wn rfl zl (bW rfl rfl) S fun f S=>mw S rfl fun f S=>Zt (Zh (bU _ _ (Zo fun _ bY=>Zo fun _ bZ=>bO H fun dq a3 H=>Zw (mv S rfl fun f S=>ov S rfl (Zga S (repN (x:=(0:Int))) rfl rfl ZD) fun f S=>ov S rfl (Zg S rfl rfl (ZIa a3)) fun f S=>mw S rfl fun f S=>Zt (Zh (bZ _ _ ?_))))));obtain ⟨b0,b1,b2⟩:=ZI H;refine ZDa (fun f w=>∃ G I J B L an Y M Z aN aa,(G,I)=b0∧Zb.le al aa∧St 84 w0 F [(8,.int .i64 k),(10,.slice (mkA J) B L),(12,.slice (mkA Y) M Z)] [Loc.own J 148 1 B L an,Loc.own Y 148 1 M Z aN] aa f w∧Rep.rels (Zd .u64) aa an G∧B=G.length∧Rep.rels (Zd .u64) aa aN I∧M=I.length) (fun _ b3=>?_) ?_
 ·have H:=b1;refine wp_block ?_;obtain ⟨dr,b4,b5⟩:=ZI H;have S:=S.reorder (ℓ':=[Loc.own aK 148 1 (((([]:(List Int))++((Zc 18446744073709551616 X)))++[(0:Int)]).length) aL ((([]++a0)++[.int .u64 0])),Loc.own (some a2) 148 1 ((q).toNat) (q).toNat aM]) [2,0] rfl (by decide);refine ZRb b4 (fun b6 f w=>∃ ao N d ap C D s aq E ab o ac,(ao,N,d)=b6∧Zb.le al ac∧St 84 w0 F [(8,.int .i64 k),(9,.slice aD aE aF),(10,.slice (mkA ap) C D),(11,.int .i64 ((((Zc 18446744073709551616 bB)).length:Int))),(12,.slice (mkA aq) E ab),(13,.int .i64 d)] [Loc.own ap 148 1 C D s,Loc.own aq 148 1 E ab o] ac f w∧Rep.rels (Zd .u64) ac s ao∧C=ao.length∧Rep.rels (Zd .u64) ac o N∧E=N.length∧inR .i64 d) ⟨_,_,_,aK,((([]:(List Int))++((Zc 18446744073709551616 X)))++[(0:Int)]).length,aL,(([]++a0)++[.int .u64 0]),some a2,(q).toNat,(q).toNat,aM,_,rfl,(leR _),(S.fr' rfl),bT,rfl,bX,(repN (x:=(0:Int))),(ZHa a3).2⟩ ?_;rintro _ f w st ⟨ao,N,d,ap,C,D,s,aq,E,ab,o,ac,hq,aO,S,ad,ae,af,ag,ds⟩ H dt b7 b8
  subst hq;refine Zo fun _ b9=>sr (mv S rfl fun f S=>ov S rfl (Zg S rfl rfl Zyc) fun f S=>oe ?_);rcases ZP (decide ((0:Int)≤d)) with ah | ah
  ·have H:=ZS H ah;refine ZZ S rfl ah (wp_skip (Zh (b9 _ _ (Zo fun _ ca=>wp_block (bO H fun du cb H=>bO H fun O cc H=>bO H fun dv h H=>bO H fun u cd H=>bO H fun dw Q H=>Zw (mv S rfl fun f S=>mv S rfl fun f S=>mv S rfl fun f S=>?_))))));refine mv S rfl fun f S=>mv S rfl fun f S=>mv S rfl fun f S=>ov S rfl (Zg S rfl rfl (ZYa cb)) fun f S=>ov S rfl (Zg S rfl rfl (ZYa cc)) fun f S=>?_;obtain ⟨aP,rfl⟩:=ZYc S (j:=0) rfl (by have:=ZJc h;have:=ae;omega);refine ov S rfl (ZYv S (j:=0) rfl ZD (ZJc h).1 (ZJc h).2.1 (by have:=(ZJc h).2.2.1;have:=ae;omega) rfl rfl rfl) fun f S=>mv S rfl fun f S=>?_;obtain ⟨pre399,post400,ce,cg,ch,ci,cj,ck⟩:=ZYz S (i:=0) (lo:=(d).toNat) (hi:=(O).toNat) rfl (ZJc h).2.2.2.2.2.1 (by have:=(ZJc h).2.2.2.2.2.2;have:=ae;omega);have v:=Zba aO v;refine ZAs S wn rfl zl (Zea S [.slice (some ⟨aP,(d).toNat*1,none⟩) ((O-d).toNat) (D-(d).toNat),.slice aD aE aF] k_en144 rfl rfl) (i:=0) rfl rfl (digit_c S.vin ce ch cg (ZJc h).2.2.2.2.1 ⟨Zhx (ZJc h).1 (ZJc h).2.1 ci,cj⟩ (Zay ad rfl (ZJc h).2.2.2.1) v cd) ?_;rintro _ a4 f w aQ ⟨⟨dx,rfl,cl⟩,cm,aR,cn,co,a5⟩ hSf;have ad:=Z2 aQ ad
   have af:=Z2 aQ af;have a6:((O).toNat-(d).toNat)=u.2.length:=by have:=co;have:=ZJc h;omega
   have S:=hSf (Loc.own (some aP) 148 1 C D (List.take ((d).toNat*1) s++aR++List.drop ((O).toNat*1) s)) rfl (ck _ aR (Z3e a5 a6) cn) cm;have cp:=ZMv (p:=(d).toNat) (r:=(O).toNat) (sz:=1) ad a5 rfl;have cq:=Zjv ae (ZJc h).2.2.2.2.2.1 (ZJc h).2.2.2.2.2.2 a6;obtain ⟨rfl,cr⟩:=cl;obtain ⟨ct,rfl⟩:=ZYc S (j:=1) rfl (posN ag (Zi Q).2.2.2);have a7:=Zoa af (Zi Q).2.1;obtain ⟨dy,cu⟩:∃ c,(List.take (Zd .u64).n (List.drop ((d).toNat*(Zd .u64).n) o))=c:=⟨_,rfl⟩;rw [cu] at a7;obtain ⟨rfl,dz⟩:=a7;refine ov S rfl (ZV S rfl rfl ZD (Zi Q).1 (ltI ag (Zi Q).2.2.1)) fun f S=>?_;obtain ⟨w,cv,S⟩:=Z6b S Z9 (off:=0+(d).toNat*1) (z:=.int .u64 (u.1)) (cs:=[.int .u64 (u.1)]) (ZVb rfl) rfl (i:=1) rfl (Zie S (j:=1) rfl (ltN ag (Zi Q).2.2.2)) (by first | rfl | simp [plain]);have cw:Rep.rels (Zd .u64) a4 (List.take (0+(d).toNat*1) o++[Value.int IntKind.u64 (u.1)]++List.drop (0+(d).toNat*1+1) o) (N.set (d).toNat u.1):=Zyd af (Zi Q).2.2.2 (show Rep.rel (Zd .u64) a4 [.int .u64 (u.1)] _ from (ZE cr)) rfl rfl;have cx:E=(N.set (d).toNat u.1).length:=Z5d ag;refine Zjg wn rfl (cv rfl rfl) (Zt (ZPb (Zh (ca _ _ (bO H fun dA a8 H=>Zw (mv S rfl fun f S=>ov S rfl (Zg S rfl rfl (ZIa a8)) fun f S=>mw S rfl fun f S=>Zt ?_))))))
   obtain rfl:=Zp H;refine b7 _ rfl _ _ ⟨_,_,_,some aP,C,D,(List.take ((d).toNat*1) s++aR++List.drop ((O).toNat*1) s),some ct,E,ab,(List.take (0+(d).toNat*1) o++[Value.int IntKind.u64 (u.1)]++List.drop (0+(d).toNat*1+1) o),_,rfl,(leT aO aQ),(S.fr' rfl),cp,cq,cw,cx,(ZHa a8).2⟩
  have H:=ZQ H ah;refine ZU S rfl ah (wp_exit (Z4 ?_));obtain rfl:=Zp H;have hq:=b8 _ rfl;subst hq;have H:=b5;refine Z4 (Zub ?_);obtain rfl:=Zp H;refine Zh (b3 _ _ ⟨_,_,ap,C,D,s,aq,E,ab,o,_,rfl,(leT (leR _) aO),(S.fr' rfl),ad,ae,af,ag⟩)
 rintro f w ⟨G,I,J,B,L,an,Y,M,Z,aN,aa,hq,dB,S,ai,cy,cz,cA⟩;subst hq;have H:=b2;refine Zh (bY _ _ (Zo fun _ cB=>bO H fun dC cC H=>bO H fun dD cD H=>bO H fun dE cE H=>Zw (mv S rfl fun f S=>?_)));obtain ⟨dF,cF,S,cG⟩:=S.pubSlice (i:=1) (A:=(Zd .u64)) (l:=I) (ℓ':=[Loc.own J 148 1 B L an]) rfl rfl cA cz rfl;have ai:=Z2 cF ai;refine opc S rfl (Zea S [.slice (mkA Y) M Z] ZRf rfl rfl) (Z3f S.vin (show Rep.rel (Zv (Zd .u64)) _ [.slice (mkA Y) M Z] I from cG) cC) ?_;rintro _ dG f w cH ⟨dH,rfl,ar⟩ S;have ai:=Z2 cH ai;obtain ⟨cI,cJ,cK,rfl⟩:=Zsa ar;refine mv S rfl fun f S=>?_;obtain ⟨dI,cL,S,cM⟩:=S.pubSlice (i:=0) (A:=(Zd .u64)) (l:=G) (ℓ':=[]) rfl rfl cy ai rfl;refine opc S rfl (Zea S [.slice (mkA J) B L] ZRf rfl rfl) (Z3f S.vin (show Rep.rel (Zv (Zd .u64)) _ [.slice (mkA J) B L] G from cM) cD) ?_;rintro _ dJ f w cN ⟨dK,rfl,a9⟩ S;obtain ⟨cO,cP,cQ,rfl⟩:=Zsa a9;refine mv S rfl fun f S=>opc S rfl (Zea S [.slice cO cP cQ,.int .i64 k] k_en145 rfl rfl) (right_c S.vin a9 (show Rep.rel (Zd .i64) _ [.int .i64 k] k from (ZE aC)) cE) ?_;rintro _ dL f w cR ⟨dM,rfl,ba⟩ S;obtain ⟨cS,cT,cU,rfl⟩:=Zsa ba
 refine mw S rfl fun f S=>mw S rfl fun f S=>Zt (Zh (cB _ _ (wp_ret ?_)));obtain rfl:=Zp H;have ar:=Zba (leT (leT cL cN) cR) ar;refine ZQa S (ZGf rfl (Z0 S rfl) (Z0 S rfl)) ⟨[.slice cI cJ cK],[.slice cS cT cU],rfl,ar,ba⟩
theorem ZIz {d:World} {c:Zb} (hv:VIn c d) {e:List Value} {a:Nat} (i:Rep.rel Zx c e a) {f:List Value} {b:Nat} (j:Rep.rel Zx c f b) {z:Nat×Nat} (hm:ZJd a b=some z) :
  Ret Tryz.prog 102 #[Zx.val e,Zx.val f] d c (fun y v'=>∃ g h,y=Value.tuple #[Zx.val g,Zx.val h]∧Zx.rel v' g z.1∧Zx.rel v' h z.2) :=
 ZOz hv i j (ZOu hm)
end Go.Eng
set_option maxRecDepth 100000
set_option maxHeartbeats 4000000
namespace Go.Eng
open Go.Proofs Go.RowKit
noncomputable def Zpi:FuncId×Con:=(102,⟨[.leaf 0,.leaf 0],[.leaf 0,.leaf 0],fun p=>ZJd p.1 p.2⟩)
theorem ZYt:Zk Tryz.prog Zpi.1 Zpi.2:=fun w v vals x z hv ha hz=>by
 obtain ⟨c0,w0,e0,p0,c1,e1,p1⟩:=ha;subst e0;subst e1
 exact .inl ⟨fun _ _=>by kernel_rfl,Ret.mono (ZIz hv p0 p1 hz) fun y v' _ ⟨r0,r1,e,h0,h1⟩=>⟨_,e,r0,_,rfl,h0,r1,rfl,h1⟩⟩
end Go.Eng
set_option maxRecDepth 100000
set_option maxHeartbeats 4000000
namespace Go.Eng
open Go.Proofs Go.RowKit
noncomputable def Zil:FuncId×Con:=(141,⟨[.leaf 0,.leaf 0],[.int .u64],fun p=>Z9h p.1 p.2⟩)
theorem small_i (a:Nat) (b:Nat):Zl ⟨Tryz.prog,[(39,0)],[],[],[],[],[],[]⟩ [] Tryz.f141 (.two .no (.two .no (.two (.two .no (.cut ⟨⟨[],[],[]⟩,[(.norm,⟨[1],[],[.s 5 (.dat (.int .u64))]⟩)]⟩ .no)) (.two .no (.two (.cut ⟨⟨[],[],[]⟩,[(.norm,⟨[],[],[.s 5 (.dat (.int .u64))]⟩)]⟩ (.two (.cut ⟨⟨[],[],[.s 5 (.dat (.int .u64)),.s 6 (.dat (.int .u64))]⟩,[(.exit 0,⟨[],[],[.s 5 (.dat (.int .u64))]⟩)]⟩ .no) .no)) .no))))) [.leaf 0,.leaf 0] [.int .u64] (a,b)=Zwm a b:=by kernel_rfl
theorem small_k:Zk Tryz.prog Zil.1 Zil.2:=Zm (C:=⟨Tryz.prog,[(39,0)],[],[],[],[],[],[]⟩) trivial trivial trivial trivial (inl:=[]) trivial (ann:=.two .no (.two .no (.two (.two .no (.cut ⟨⟨[],[],[]⟩,[(.norm,⟨[1],[],[.s 5 (.dat (.int .u64))]⟩)]⟩ .no)) (.two .no (.two (.cut ⟨⟨[],[],[]⟩,[(.norm,⟨[],[],[.s 5 (.dat (.int .u64))]⟩)]⟩ (.two (.cut ⟨⟨[],[],[.s 5 (.dat (.int .u64)),.s 6 (.dat (.int .u64))]⟩,[(.exit 0,⟨[],[],[.s 5 (.dat (.int .u64))]⟩)]⟩ .no) .no)) .no))))) Tryz.func141 (fun _ _=>by kernel_rfl) rfl fun v vals x z ha hz=>(small_i x.1 x.2).trans (Z9t hz)
end Go.Eng
set_option maxRecDepth 100000
set_option maxHeartbeats 4000000
namespace Go.Eng
open Go.Proofs Go.RowKit
noncomputable def ZHl:FuncId×Con:=(100,⟨[.leaf 0,.leaf 0],[.leaf 0],fun p=>gcdF p.1 p.2⟩)
theorem gcd_i (a:Nat) (b:Nat):Zl ⟨Tryz.prog,[(39,0)],[Z4f,Zpi,Zil],[],[],[],[],[]⟩ [] Tryz.f100 (.two .no (.two (.cut ⟨⟨[],[],[]⟩,[(.norm,⟨[],[],[.s 0 (.dat (.leaf 0))]⟩),(.ret,⟨[],[],[.s 1000 (.dat (.leaf 0))]⟩)]⟩ (.two (.cut ⟨⟨[],[],[.s 0 (.dat (.leaf 0)),.s 1 (.dat (.leaf 0))]⟩,[(.ret,⟨[],[],[.s 1000 (.dat (.leaf 0))]⟩),(.exit 0,⟨[],[],[.s 0 (.dat (.leaf 0))]⟩)]⟩ (.two (.two .no (.two (.two (.two (.cut ⟨⟨[],[],[]⟩,[(.norm,⟨[0,1],[],[.s 17 (.dat .bool)]⟩)]⟩ .no) .no) .no) .no)) .no)) .no)) .no)) [.leaf 0,.leaf 0] [.leaf 0] (a,b)=Zen a b:=by kernel_rfl
theorem gcd_k:Zk Tryz.prog ZHl.1 ZHl.2:=Zm (C:=⟨Tryz.prog,[(39,0)],[Z4f,Zpi,Zil],[],[],[],[],[]⟩) ⟨ZYn,ZYt,small_k,trivial⟩ trivial trivial trivial (inl:=[]) trivial (ann:=.two .no (.two (.cut ⟨⟨[],[],[]⟩,[(.norm,⟨[],[],[.s 0 (.dat (.leaf 0))]⟩),(.ret,⟨[],[],[.s 1000 (.dat (.leaf 0))]⟩)]⟩ (.two (.cut ⟨⟨[],[],[.s 0 (.dat (.leaf 0)),.s 1 (.dat (.leaf 0))]⟩,[(.ret,⟨[],[],[.s 1000 (.dat (.leaf 0))]⟩),(.exit 0,⟨[],[],[.s 0 (.dat (.leaf 0))]⟩)]⟩ (.two (.two .no (.two (.two (.two (.cut ⟨⟨[],[],[]⟩,[(.norm,⟨[0,1],[],[.s 17 (.dat .bool)]⟩)]⟩ .no) .no) .no) .no)) .no)) .no)) .no)) Tryz.func100 (fun _ _=>by kernel_rfl) rfl fun v vals x z ha hz=>(gcd_i x.1 x.2).trans (gcdF_eq hz)
end Go.Eng
set_option maxRecDepth 100000
set_option maxHeartbeats 4000000
namespace Go.Eng
open Go.Proofs Go.RowKit
noncomputable def Zch:FuncId×Con:=(101,⟨[.leaf 0],[.bool],fun p=>ZRg p⟩)
theorem isOne_i (a:(List Int)):Zl ⟨Tryz.prog,[],[],[],[],[],[],[]⟩ [] Tryz.f101 (.two .no (.two (.cut ⟨⟨[],[],[]⟩,[(.norm,⟨[],[],[.s 2 (.dat .bool)]⟩)]⟩ .no) .no)) [.slice (.int .u64)] [.bool] (a)=Z3o a:=by kernel_rfl
theorem ZBs:Zk Tryz.prog Zch.1 Zch.2:=ZTl (C:=⟨Tryz.prog,[],[],[],[],[],[],[]⟩) trivial trivial trivial trivial (inl:=[]) trivial (ann:=.two .no (.two (.cut ⟨⟨[],[],[]⟩,[(.norm,⟨[],[],[.s 2 (.dat .bool)]⟩)]⟩ .no) .no)) (ats:=[.slice (.int .u64)]) (rts:=[.bool]) (fun x=>((Zc 18446744073709551616 x))) (fun z=>z) (fun _ _ _ h=>h) (fun _ _ _ h=>h) Tryz.func101 (fun _ _=>by kernel_rfl) rfl fun v vals x z ha hz=>(isOne_i (Zc 18446744073709551616 x)).trans (Znv.trans hz)
end Go.Eng
set_option maxRecDepth 100000
set_option maxHeartbeats 4000000
namespace Go.Eng
open Go.Proofs Go.RowKit
noncomputable def ZXd:FuncId×Con:=(56,⟨[.leaf 2,.leaf 0],[.leaf 3],fun p=>Ztd p.1 p.2⟩)
theorem over_i (n:Int) (d:Nat):Zl ⟨Tryz.prog,[(39,0),(41,2),(43,3)],[ZHl,Zch,Zpi],[],[],[],[],[]⟩ [] Tryz.f56 (.two .no (.two (.two .no (.two .no (.cut ⟨⟨[],[],[]⟩,[(.norm,⟨[2,4],[],[.s 1 (.dat (.leaf 0)),.l (.sl 2) (.box 41 (.dat (.pair .bool (.leaf 0))))]⟩)]⟩ .no))) (.two (.two .no (.cut ⟨⟨[],[],[]⟩,[(.norm,⟨[2,4],[],[.s 1 (.dat (.leaf 0))]⟩)]⟩ .no)) .no))) [.leaf 2,.leaf 0] [.leaf 3] (n,d)=ZFn n d:=by kernel_rfl
theorem Zzl:Zk Tryz.prog ZXd.1 ZXd.2:=Zm (C:=⟨Tryz.prog,[(39,0),(41,2),(43,3)],[ZHl,Zch,Zpi],[],[],[],[],[]⟩) ⟨gcd_k,ZBs,ZYt,trivial⟩ trivial trivial trivial (inl:=[]) trivial (ann:=.two .no (.two (.two .no (.two .no (.cut ⟨⟨[],[],[]⟩,[(.norm,⟨[2,4],[],[.s 1 (.dat (.leaf 0)),.l (.sl 2) (.box 41 (.dat (.pair .bool (.leaf 0))))]⟩)]⟩ .no))) (.two (.two .no (.cut ⟨⟨[],[],[]⟩,[(.norm,⟨[2,4],[],[.s 1 (.dat (.leaf 0))]⟩)]⟩ .no)) .no))) Tryz.func56 (fun _ _=>by kernel_rfl) rfl fun v vals x z ha hz=>(over_i x.1 x.2).trans (Zgz hz)
end Go.Eng
set_option maxRecDepth 100000
set_option maxHeartbeats 4000000
namespace Go.Eng
open Go.Proofs Go.RowKit
noncomputable def Zec:FuncId×Con:=(103,⟨[.bool,.leaf 0],[.leaf 2],fun p=>ZCb p.1 p.2⟩)
theorem whole_i (s:Bool) (n:Nat):Zl ⟨Tryz.prog,[(39,0),(41,2),(43,3)],[],[],[],[],[],[]⟩ [] Tryz.f103 (.two .no (.two (.cut ⟨⟨[],[],[]⟩,[(.norm,⟨[4],[],[.l (.sl 4) (.box 41 (.dat (.pair .bool (.leaf 0))))]⟩)]⟩ .no) .no)) [.bool,.leaf 0] [.leaf 2] (s,n)=Zyn s n:=by kernel_rfl
theorem Z6h:Zk Tryz.prog Zec.1 Zec.2:=Zm (C:=⟨Tryz.prog,[(39,0),(41,2),(43,3)],[],[],[],[],[],[]⟩) trivial trivial trivial trivial (inl:=[]) trivial (ann:=.two .no (.two (.cut ⟨⟨[],[],[]⟩,[(.norm,⟨[4],[],[.l (.sl 4) (.box 41 (.dat (.pair .bool (.leaf 0))))]⟩)]⟩ .no) .no)) Tryz.func103 (fun _ _=>by kernel_rfl) rfl fun v vals x z ha hz=>(whole_i x.1 x.2).trans (Zhz hz)
end Go.Eng
set_option maxRecDepth 100000
set_option maxHeartbeats 4000000
namespace Go.Eng
open Go.Proofs Go.RowKit
noncomputable def Zmn:FuncId×Con:=(89,⟨[.int .i64,.int .i64],[.leaf 3,.int .i64],fun p=>ZEi p.1 p.2⟩)
theorem qnew_i (n:Int) (d:Int):Zl ⟨Tryz.prog,[(39,0),(41,2),(43,3)],[ZXd,Zec,of_q],[],[],[],[],[]⟩ [] Tryz.f89 .no [.int .i64,.int .i64] [.leaf 3,.int .i64] (n,d)=ZCp n d:=by kernel_rfl
theorem qnew_k:Zk Tryz.prog Zmn.1 Zmn.2:=Zm (C:=⟨Tryz.prog,[(39,0),(41,2),(43,3)],[ZXd,Zec,of_q],[],[],[],[],[]⟩) ⟨Zzl,Z6h,of_k,trivial⟩ trivial trivial trivial (inl:=[]) trivial (ann:=.no) Tryz.func89 (fun _ _=>by kernel_rfl) rfl fun v vals x z ha hz=>by obtain ⟨c0,w0,e0,p0,c1,e1,p1⟩:=ha;exact (qnew_i x.1 x.2).trans (Z4u p0.2 p1.2 hz)
end Go.Eng
set_option maxRecDepth 100000
set_option maxHeartbeats 4000000
namespace Go.Eng
open Go.Proofs Go.RowKit
noncomputable def ZBl:FuncId×Con:=(40,⟨[.pair (.int .i64) (.int .i64)],[.leaf 3],fun p=>Z9i p⟩)
theorem ZSx (r:(Int×Int)):Zl ⟨Tryz.prog,[(39,0),(41,2),(43,3)],[Zji,Zmn],[],[],[],[],[]⟩ [] Tryz.f40 .no [.pair (.int .i64) (.int .i64)] [.leaf 3] (r)=Z8o r:=by kernel_rfl
theorem Zxy:Zk Tryz.prog ZBl.1 ZBl.2:=Zm (C:=⟨Tryz.prog,[(39,0),(41,2),(43,3)],[Zji,Zmn],[],[],[],[],[]⟩) ⟨ZNq,qnew_k,trivial⟩ trivial trivial trivial (inl:=[]) trivial (ann:=.no) Tryz.func40 (fun _ _=>by kernel_rfl) rfl fun v vals x z ha hz=>(ZSx x).trans (Zpz hz)
end Go.Eng
set_option maxRecDepth 100000
set_option maxHeartbeats 4000000
namespace Go.Eng
open Go.Proofs Go.RowKit
noncomputable def Zxb:FuncId×Con:=(173,⟨[.slice (.int .u32)],[.leaf 1],fun p=>Zib p⟩)
theorem rcut_i (a:(List Int)):Zl ⟨Tryz.prog,[],[],[],[],[],[],[]⟩ [] Tryz.f173 (.two .no (.two .no (.two (.cut ⟨⟨[],[],[]⟩,[(.norm,⟨[0],[],[.s 3 (.dat (.int .i64))]⟩)]⟩ (.two (.cut ⟨⟨[0],[],[.s 3 (.dat (.int .i64))]⟩,[(.exit 0,⟨[0],[],[.s 3 (.dat (.int .i64))]⟩)]⟩ (.two (.two (.two (.cut ⟨⟨[],[],[]⟩,[(.norm,⟨[0,3],[],[.s 15 (.dat .bool)]⟩)]⟩ .no) .no) .no) .no)) .no)) .no))) [.slice (.int .u32)] [.slice (.int .u32)] (a)=Z0o a:=by kernel_rfl
theorem Z5f:Zk Tryz.prog Zxb.1 Zxb.2:=ZTl (C:=⟨Tryz.prog,[],[],[],[],[],[],[]⟩) trivial trivial trivial trivial (inl:=[]) trivial (ann:=.two .no (.two .no (.two (.cut ⟨⟨[],[],[]⟩,[(.norm,⟨[0],[],[.s 3 (.dat (.int .i64))]⟩)]⟩ (.two (.cut ⟨⟨[0],[],[.s 3 (.dat (.int .i64))]⟩,[(.exit 0,⟨[0],[],[.s 3 (.dat (.int .i64))]⟩)]⟩ (.two (.two (.two (.cut ⟨⟨[],[],[]⟩,[(.norm,⟨[0,3],[],[.s 15 (.dat .bool)]⟩)]⟩ .no) .no) .no) .no)) .no)) .no))) (ats:=[.slice (.int .u32)]) (rts:=[.slice (.int .u32)]) (fun x=>(x)) (fun z=>(Zc 4294967296 z)) (fun _ _ _ h=>h) (fun _ _ _ h=>h) Tryz.func173 (fun _ _=>by kernel_rfl) rfl fun v vals x z ha hz=>by obtain ⟨c0,e0,p0⟩:=ha;exact (rcut_i x).trans (by cases hz;exact (rcut_eq (ZNo p0).1 (ZNo p0).2))
end Go.Eng
set_option maxRecDepth 100000
set_option maxHeartbeats 4000000
namespace Go.Eng
open Go.Proofs Go.RowKit
noncomputable def Zmh:FuncId×Con:=(136,⟨[.int .u64],[.leaf 1],fun p=>Zqd p⟩)
theorem rnat_i (n:Int):Zl ⟨Tryz.prog,[(91,1),(93,4)],[Zxb],[],[],[],[],[]⟩ [] Tryz.f136 .no [.int .u64] [.leaf 1] (n)=ZLp n:=by kernel_rfl
theorem ZLq:Zk Tryz.prog Zmh.1 Zmh.2:=Zm (C:=⟨Tryz.prog,[(91,1),(93,4)],[Zxb],[],[],[],[],[]⟩) ⟨Z5f,trivial⟩ trivial trivial trivial (inl:=[]) trivial (ann:=.no) Tryz.func136 (fun _ _=>by kernel_rfl) rfl fun v vals x z ha hz=>by obtain ⟨c0,e0,p0⟩:=ha;exact (rnat_i x).trans (Zgy p0.2 hz)
end Go.Eng
set_option maxRecDepth 100000
set_option maxHeartbeats 4000000
namespace Go.Eng
open Go.Proofs Go.RowKit
noncomputable def Zwf:FuncId×Con:=(155,⟨[.leaf 1,.leaf 1],[.int .i64],fun p=>Zxd p.1 p.2⟩)
theorem Zeu (a:Nat) (b:Nat):Zl ⟨Tryz.prog,[(91,1),(93,4)],[],[],[],[],[],[]⟩ [] Tryz.f155 (.two .no (.two .no (.two .no (.two (.two .no (.cut ⟨⟨[],[],[]⟩,[(.norm,⟨[],[],[]⟩),(.ret,⟨[],[],[.s 1000 (.dat (.int .i64))]⟩)]⟩ (.two (.cut ⟨⟨[0,1],[],[.s 5 (.dat (.int .i64))]⟩,[(.ret,⟨[],[],[.s 1000 (.dat (.int .i64))]⟩),(.exit 0,⟨[],[],[]⟩)]⟩ .no) .no))) .no)))) [.leaf 1,.leaf 1] [.int .i64] (a,b)=ZHo a b:=by kernel_rfl
theorem ZRn:Zk Tryz.prog Zwf.1 Zwf.2:=Zm (C:=⟨Tryz.prog,[(91,1),(93,4)],[],[],[],[],[],[]⟩) trivial trivial trivial trivial (inl:=[]) trivial (ann:=.two .no (.two .no (.two .no (.two (.two .no (.cut ⟨⟨[],[],[]⟩,[(.norm,⟨[],[],[]⟩),(.ret,⟨[],[],[.s 1000 (.dat (.int .i64))]⟩)]⟩ (.two (.cut ⟨⟨[0,1],[],[.s 5 (.dat (.int .i64))]⟩,[(.ret,⟨[],[],[.s 1000 (.dat (.int .i64))]⟩),(.exit 0,⟨[],[],[]⟩)]⟩ .no) .no))) .no)))) Tryz.func155 (fun _ _=>by kernel_rfl) rfl fun v vals x z ha hz=>by obtain ⟨c0,w0,e0,p0,c1,e1,p1⟩:=ha;exact (Zeu x.1 x.2).trans ((ZZz (Znr p0) (Znr p1)).trans hz)
end Go.Eng
set_option maxRecDepth 100000
set_option maxHeartbeats 4000000
namespace Go.Eng
open Go.Proofs Go.RowKit
noncomputable def Z1h:FuncId×Con:=(181,⟨[.leaf 1,.int .u32],[.leaf 1,.int .u32],fun p=>ZCf p.1 p.2⟩)
theorem Zex (a:Nat) (b:Int):Zl ⟨Tryz.prog,[(91,1),(93,4)],[Zxb],[],[],[],[],[]⟩ [] Tryz.f181 (.two .no (.two .no (.two .no (.two (.two .no (.cut ⟨⟨[],[],[]⟩,[(.norm,⟨[],[],[.s 6 (.own 185 (.int .u32)),.s 7 (.dat (.int .u64))]⟩)]⟩ (.two (.cut ⟨⟨[0,1],[],[.s 6 (.own 185 (.int .u32)),.s 7 (.dat (.int .u64)),.s 8 (.dat (.int .i64))]⟩,[(.exit 0,⟨[],[],[.s 6 (.own 185 (.int .u32)),.s 7 (.dat (.int .u64))]⟩)]⟩ .no) .no))) .no)))) [.leaf 1,.int .u32] [.leaf 1,.int .u32] (a,b)=Zyk a b:=by kernel_rfl
theorem ZWt:Zk Tryz.prog Z1h.1 Z1h.2:=Zm (C:=⟨Tryz.prog,[(91,1),(93,4)],[Zxb],[],[],[],[],[]⟩) ⟨Z5f,trivial⟩ trivial trivial trivial (inl:=[]) trivial (ann:=.two .no (.two .no (.two .no (.two (.two .no (.cut ⟨⟨[],[],[]⟩,[(.norm,⟨[],[],[.s 6 (.own 185 (.int .u32)),.s 7 (.dat (.int .u64))]⟩)]⟩ (.two (.cut ⟨⟨[0,1],[],[.s 6 (.own 185 (.int .u32)),.s 7 (.dat (.int .u64)),.s 8 (.dat (.int .i64))]⟩,[(.exit 0,⟨[],[],[.s 6 (.own 185 (.int .u32)),.s 7 (.dat (.int .u64))]⟩)]⟩ .no) .no))) .no)))) Tryz.func181 (fun _ _=>by kernel_rfl) rfl fun v vals x z ha hz=>by obtain ⟨c0,w0,e0,p0,c1,e1,p1⟩:=ha;exact (Zex x.1 x.2).trans (Zvv p1.2 hz)
end Go.Eng
set_option maxRecDepth 100000
set_option maxHeartbeats 4000000
namespace Go.Eng
open Go.Proofs Go.RowKit
noncomputable def Zwl:FuncId×Con:=(186,⟨[.leaf 1],[.int .i64],fun p=>ZYg p⟩)
theorem rbits_i (a:Nat):Zl ⟨Tryz.prog,[(91,1),(93,4)],[],[],[],[],[],[]⟩ [] Tryz.f186 (.two .no (.two .no (.two .no (.two (.two .no (.cut ⟨⟨[],[],[]⟩,[(.norm,⟨[],[],[.s 3 (.dat (.int .i64))]⟩)]⟩ (.two (.cut ⟨⟨[],[],[.s 3 (.dat (.int .i64)),.s 4 (.dat (.int .u32))]⟩,[(.exit 0,⟨[],[],[.s 3 (.dat (.int .i64))]⟩)]⟩ .no) .no))) .no)))) [.leaf 1] [.int .i64] (a)=Zvk a:=by kernel_rfl
theorem rbits_k:Zk Tryz.prog Zwl.1 Zwl.2:=Zm (C:=⟨Tryz.prog,[(91,1),(93,4)],[],[],[],[],[],[]⟩) trivial trivial trivial trivial (inl:=[]) trivial (ann:=.two .no (.two .no (.two .no (.two (.two .no (.cut ⟨⟨[],[],[]⟩,[(.norm,⟨[],[],[.s 3 (.dat (.int .i64))]⟩)]⟩ (.two (.cut ⟨⟨[],[],[.s 3 (.dat (.int .i64)),.s 4 (.dat (.int .u32))]⟩,[(.exit 0,⟨[],[],[.s 3 (.dat (.int .i64))]⟩)]⟩ .no) .no))) .no)))) Tryz.func186 (fun _ _=>by kernel_rfl) rfl fun v vals x z ha hz=>(rbits_i x).trans (ZFw hz)
end Go.Eng
set_option maxRecDepth 100000
set_option maxHeartbeats 4000000
namespace Go.Eng
open Go.Proofs Go.RowKit
noncomputable def Zol:FuncId×Con:=(187,⟨[.leaf 1,.int .i64],[.leaf 1],fun p=>Zse p.1 p.2⟩)
theorem Z8t (a:Nat) (n:Int):Zl ⟨Tryz.prog,[(91,1),(93,4)],[Zxb],[],[],[],[],[]⟩ [] Tryz.f187 (.two .no (.two .no (.two .no (.two .no (.two (.two .no (.cut ⟨⟨[],[],[]⟩,[(.norm,⟨[],[],[.s 5 (.own 185 (.int .u32)),.s 6 (.dat (.int .u64))]⟩)]⟩ (.two (.cut ⟨⟨[0,1],[],[.s 5 (.own 185 (.int .u32)),.s 6 (.dat (.int .u64)),.s 7 (.dat (.int .i64))]⟩,[(.exit 0,⟨[],[],[.s 5 (.own 185 (.int .u32)),.s 6 (.dat (.int .u64))]⟩)]⟩ .no) .no))) .no))))) [.leaf 1,.int .i64] [.leaf 1] (a,n)=Zzk a n:=by kernel_rfl
theorem ZGx:Zk Tryz.prog Zol.1 Zol.2:=Zm (C:=⟨Tryz.prog,[(91,1),(93,4)],[Zxb],[],[],[],[],[]⟩) ⟨Z5f,trivial⟩ trivial trivial trivial (inl:=[]) trivial (ann:=.two .no (.two .no (.two .no (.two .no (.two (.two .no (.cut ⟨⟨[],[],[]⟩,[(.norm,⟨[],[],[.s 5 (.own 185 (.int .u32)),.s 6 (.dat (.int .u64))]⟩)]⟩ (.two (.cut ⟨⟨[0,1],[],[.s 5 (.own 185 (.int .u32)),.s 6 (.dat (.int .u64)),.s 7 (.dat (.int .i64))]⟩,[(.exit 0,⟨[],[],[.s 5 (.own 185 (.int .u32)),.s 6 (.dat (.int .u64))]⟩)]⟩ .no) .no))) .no))))) Tryz.func187 (fun _ _=>by kernel_rfl) rfl fun v vals x z ha hz=>(Z8t x.1 x.2).trans (Zmu hz)
end Go.Eng
set_option maxRecDepth 100000
set_option maxHeartbeats 4000000
namespace Go.Eng
open Go.Proofs Go.RowKit
noncomputable def Z2d:FuncId×Con:=(188,⟨[.leaf 1,.leaf 1],[.leaf 1],fun p=>Zra p.1 p.2⟩)
theorem rprod_i (a:Nat) (b:Nat):Zl ⟨Tryz.prog,[(91,1),(93,4)],[Zxb],[],[],[],[],[]⟩ [] Tryz.f188 (.two .no (.two .no (.two (.two .no (.cut ⟨⟨[],[],[]⟩,[(.norm,⟨[],[],[.s 5 (.own 185 (.int .u32))]⟩)]⟩ (.two (.cut ⟨⟨[0,1],[],[.s 5 (.own 185 (.int .u32)),.s 6 (.dat (.int .i64))]⟩,[(.exit 0,⟨[],[],[.s 5 (.own 185 (.int .u32))]⟩)]⟩ (.two (.two .no (.two (.two (.two .no (.two (.two .no (.cut ⟨⟨[],[],[]⟩,[(.norm,⟨[0,1,6],[],[.s 5 (.own 185 (.int .u32)),.s 7 (.dat (.int .u64))]⟩)]⟩ (.two (.cut ⟨⟨[0,1,6],[],[.s 5 (.own 185 (.int .u32)),.s 7 (.dat (.int .u64)),.s 8 (.dat (.int .i64))]⟩,[(.exit 2,⟨[0,1,6],[],[.s 5 (.own 185 (.int .u32)),.s 7 (.dat (.int .u64))]⟩)]⟩ .no) .no))) .no)) .no) .no)) .no)) .no))) .no))) [.leaf 1,.leaf 1] [.leaf 1] (a,b)=ZZk a b:=by kernel_rfl
theorem Zwk:Zk Tryz.prog Z2d.1 Z2d.2:=Zm (C:=⟨Tryz.prog,[(91,1),(93,4)],[Zxb],[],[],[],[],[]⟩) ⟨Z5f,trivial⟩ trivial trivial trivial (inl:=[]) trivial (ann:=.two .no (.two .no (.two (.two .no (.cut ⟨⟨[],[],[]⟩,[(.norm,⟨[],[],[.s 5 (.own 185 (.int .u32))]⟩)]⟩ (.two (.cut ⟨⟨[0,1],[],[.s 5 (.own 185 (.int .u32)),.s 6 (.dat (.int .i64))]⟩,[(.exit 0,⟨[],[],[.s 5 (.own 185 (.int .u32))]⟩)]⟩ (.two (.two .no (.two (.two (.two .no (.two (.two .no (.cut ⟨⟨[],[],[]⟩,[(.norm,⟨[0,1,6],[],[.s 5 (.own 185 (.int .u32)),.s 7 (.dat (.int .u64))]⟩)]⟩ (.two (.cut ⟨⟨[0,1,6],[],[.s 5 (.own 185 (.int .u32)),.s 7 (.dat (.int .u64)),.s 8 (.dat (.int .i64))]⟩,[(.exit 2,⟨[0,1,6],[],[.s 5 (.own 185 (.int .u32)),.s 7 (.dat (.int .u64))]⟩)]⟩ .no) .no))) .no)) .no) .no)) .no)) .no))) .no))) Tryz.func188 (fun _ _=>by kernel_rfl) rfl fun v vals x z ha hz=>(rprod_i x.1 x.2).trans (Zsy hz)
end Go.Eng
set_option maxRecDepth 100000
set_option maxHeartbeats 4000000
namespace Go.Eng
open Go.Proofs Go.RowKit
noncomputable def Zri:FuncId×Con:=(189,⟨[.leaf 1,.leaf 1],[.leaf 1],fun p=>Z7b p.1 p.2⟩)
theorem rdif_i (a:Nat) (b:Nat):Zl ⟨Tryz.prog,[(91,1),(93,4)],[Zxb],[],[],[],[],[]⟩ [] Tryz.f189 (.two .no (.two .no (.two .no (.two (.two .no (.cut ⟨⟨[],[],[]⟩,[(.norm,⟨[],[],[.s 5 (.own 185 (.int .u32))]⟩)]⟩ (.two (.cut ⟨⟨[0,1],[],[.s 5 (.own 185 (.int .u32)),.s 6 (.dat (.int .i64)),.s 7 (.dat (.int .i64))]⟩,[(.exit 0,⟨[],[],[.s 5 (.own 185 (.int .u32))]⟩)]⟩ (.two (.two .no (.two (.two (.two .no (.two (.two .no (.cut ⟨⟨[],[],[]⟩,[(.norm,⟨[0,1,5,7],[],[.s 8 (.dat (.int .i64))]⟩)]⟩ .no)) (.two .no (.two (.two .no (.cut ⟨⟨[],[],[]⟩,[(.norm,⟨[0,1,5,7],[],[.s 6 (.dat (.int .i64)),.s 8 (.dat (.int .i64))]⟩)]⟩ .no)) .no)))) .no) .no)) .no)) .no))) .no)))) [.leaf 1,.leaf 1] [.leaf 1] (a,b)=ZLm a b:=by kernel_rfl
theorem Zhs:Zk Tryz.prog Zri.1 Zri.2:=Zm (C:=⟨Tryz.prog,[(91,1),(93,4)],[Zxb],[],[],[],[],[]⟩) ⟨Z5f,trivial⟩ trivial trivial trivial (inl:=[]) trivial (ann:=.two .no (.two .no (.two .no (.two (.two .no (.cut ⟨⟨[],[],[]⟩,[(.norm,⟨[],[],[.s 5 (.own 185 (.int .u32))]⟩)]⟩ (.two (.cut ⟨⟨[0,1],[],[.s 5 (.own 185 (.int .u32)),.s 6 (.dat (.int .i64)),.s 7 (.dat (.int .i64))]⟩,[(.exit 0,⟨[],[],[.s 5 (.own 185 (.int .u32))]⟩)]⟩ (.two (.two .no (.two (.two (.two .no (.two (.two .no (.cut ⟨⟨[],[],[]⟩,[(.norm,⟨[0,1,5,7],[],[.s 8 (.dat (.int .i64))]⟩)]⟩ .no)) (.two .no (.two (.two .no (.cut ⟨⟨[],[],[]⟩,[(.norm,⟨[0,1,5,7],[],[.s 6 (.dat (.int .i64)),.s 8 (.dat (.int .i64))]⟩)]⟩ .no)) .no)))) .no) .no)) .no)) .no))) .no)))) Tryz.func189 (fun _ _=>by kernel_rfl) rfl fun v vals x z ha hz=>(rdif_i x.1 x.2).trans (Zaz hz)
end Go.Eng
set_option maxRecDepth 100000
set_option maxHeartbeats 4000000
namespace Go.Eng
open Go.Proofs Go.RowKit
noncomputable def Zql:FuncId×Con:=(190,⟨[.leaf 1,.int .i64],[.leaf 1],fun p=>Zfi p.1 p.2⟩)
theorem Z2z (a:Nat) (n:Int):Zl ⟨Tryz.prog,[(91,1),(93,4)],[Zxb],[],[],[],[],[]⟩ [] Tryz.f190 (.two .no (.two .no (.two (.two .no (.cut ⟨⟨[],[],[]⟩,[(.norm,⟨[],[],[.s 5 (.own 185 (.int .u32))]⟩)]⟩ (.two (.cut ⟨⟨[0,1],[],[.s 5 (.own 185 (.int .u32)),.s 6 (.dat (.int .i64))]⟩,[(.exit 0,⟨[],[],[.s 5 (.own 185 (.int .u32))]⟩)]⟩ (.two (.two .no (.two (.two (.two .no (.two (.two .no (.cut ⟨⟨[],[],[]⟩,[(.norm,⟨[0,1,5,6],[],[.s 7 (.dat (.int .u64))]⟩)]⟩ .no)) .no)) .no) .no)) .no)) .no))) .no))) [.leaf 1,.int .i64] [.leaf 1] (a,n)=ZEm a n:=by kernel_rfl
theorem ZAx:Zk Tryz.prog Zql.1 Zql.2:=Zm (C:=⟨Tryz.prog,[(91,1),(93,4)],[Zxb],[],[],[],[],[]⟩) ⟨Z5f,trivial⟩ trivial trivial trivial (inl:=[]) trivial (ann:=.two .no (.two .no (.two (.two .no (.cut ⟨⟨[],[],[]⟩,[(.norm,⟨[],[],[.s 5 (.own 185 (.int .u32))]⟩)]⟩ (.two (.cut ⟨⟨[0,1],[],[.s 5 (.own 185 (.int .u32)),.s 6 (.dat (.int .i64))]⟩,[(.exit 0,⟨[],[],[.s 5 (.own 185 (.int .u32))]⟩)]⟩ (.two (.two .no (.two (.two (.two .no (.two (.two .no (.cut ⟨⟨[],[],[]⟩,[(.norm,⟨[0,1,5,6],[],[.s 7 (.dat (.int .u64))]⟩)]⟩ .no)) .no)) .no) .no)) .no)) .no))) .no))) Tryz.func190 (fun _ _=>by kernel_rfl) rfl fun v vals x z ha hz=>by obtain ⟨c0,w0,e0,p0,c1,e1,p1⟩:=ha;exact (Z2z x.1 x.2).trans (ZUx p1.2 hz)
end Go.Eng
set_option maxRecDepth 100000
set_option maxHeartbeats 4000000
namespace Go.Eng
open Go.Proofs Go.RowKit
noncomputable def ZAh:FuncId×Con:=(172,⟨[.leaf 1,.leaf 1],[.leaf 1,.leaf 1],fun p=>ZVc p.1 p.2⟩)
theorem rquot_i (a:Nat) (b:Nat):Zl ⟨Tryz.prog,[(91,1),(93,4)],[Zmh,Zwf,Zxb,Z1h,Zwl,Zol,Z2d,Zri,Zql],[],[],[],[],[]⟩ [] Tryz.f172 (.two .no (.two .no (.two .no (.two .no (.two .no (.two .no (.two .no (.two (.two .no (.cut ⟨⟨[],[],[]⟩,[(.norm,⟨[8],[],[.s 10 (.dat (.leaf 1)),.s 12 (.own 185 (.int .u32))]⟩)]⟩ (.two (.cut ⟨⟨[8,9,11],[],[.s 10 (.dat (.leaf 1)),.s 12 (.own 185 (.int .u32)),.s 13 (.dat (.int .i64))]⟩,[(.exit 0,⟨[8],[],[.s 10 (.dat (.leaf 1)),.s 12 (.own 185 (.int .u32))]⟩)]⟩ (.two (.two .no (.two (.cut ⟨⟨[],[],[]⟩,[(.norm,⟨[8,9,11,13],[],[.s 10 (.dat (.leaf 1)),.s 12 (.own 185 (.int .u32))]⟩)]⟩ (.two (.two .no (.two (.two .no (.cut ⟨⟨[],[],[]⟩,[(.norm,⟨[8,9,10,11,12,13],[],[.s 14 (.dat (.slice (.int .u32)))]⟩)]⟩ .no)) (.two .no (.two .no (.two (.two .no (.cut ⟨⟨[],[],[]⟩,[(.norm,⟨[8,9,10,11,12,13,14],[],[.s 15 (.dat (.int .u64))]⟩)]⟩ .no)) (.two .no (.two (.two .no (.cut ⟨⟨[],[],[]⟩,[(.norm,⟨[8,9,10,11,12,13,14],[],[.s 16 (.dat (.int .u64))]⟩)]⟩ .no)) (.two .no (.two (.cut ⟨⟨[],[],[]⟩,[(.norm,⟨[8,9,10,11,12,13,14],[],[.s 16 (.dat (.int .u64)),.s 17 (.dat (.leaf 1))]⟩)]⟩ (.two (.cut ⟨⟨[8,9,10,11,12,13,14],[],[.s 16 (.dat (.int .u64)),.s 17 (.dat (.leaf 1))]⟩,[(.exit 2,⟨[8,9,10,11,12,13,14],[],[.s 16 (.dat (.int .u64)),.s 17 (.dat (.leaf 1))]⟩)]⟩ .no) .no)) .no))))))))) .no)) .no)) .no)) .no))) .no)))))))) [.leaf 1,.leaf 1] [.leaf 1,.leaf 1] (a,b)=ZPl a b:=by kernel_rfl
theorem Zlt:Zk Tryz.prog ZAh.1 ZAh.2:=Zm (C:=⟨Tryz.prog,[(91,1),(93,4)],[Zmh,Zwf,Zxb,Z1h,Zwl,Zol,Z2d,Zri,Zql],[],[],[],[],[]⟩) ⟨ZLq,ZRn,Z5f,ZWt,rbits_k,ZGx,Zwk,Zhs,ZAx,trivial⟩ trivial trivial trivial (inl:=[]) trivial (ann:=.two .no (.two .no (.two .no (.two .no (.two .no (.two .no (.two .no (.two (.two .no (.cut ⟨⟨[],[],[]⟩,[(.norm,⟨[8],[],[.s 10 (.dat (.leaf 1)),.s 12 (.own 185 (.int .u32))]⟩)]⟩ (.two (.cut ⟨⟨[8,9,11],[],[.s 10 (.dat (.leaf 1)),.s 12 (.own 185 (.int .u32)),.s 13 (.dat (.int .i64))]⟩,[(.exit 0,⟨[8],[],[.s 10 (.dat (.leaf 1)),.s 12 (.own 185 (.int .u32))]⟩)]⟩ (.two (.two .no (.two (.cut ⟨⟨[],[],[]⟩,[(.norm,⟨[8,9,11,13],[],[.s 10 (.dat (.leaf 1)),.s 12 (.own 185 (.int .u32))]⟩)]⟩ (.two (.two .no (.two (.two .no (.cut ⟨⟨[],[],[]⟩,[(.norm,⟨[8,9,10,11,12,13],[],[.s 14 (.dat (.slice (.int .u32)))]⟩)]⟩ .no)) (.two .no (.two .no (.two (.two .no (.cut ⟨⟨[],[],[]⟩,[(.norm,⟨[8,9,10,11,12,13,14],[],[.s 15 (.dat (.int .u64))]⟩)]⟩ .no)) (.two .no (.two (.two .no (.cut ⟨⟨[],[],[]⟩,[(.norm,⟨[8,9,10,11,12,13,14],[],[.s 16 (.dat (.int .u64))]⟩)]⟩ .no)) (.two .no (.two (.cut ⟨⟨[],[],[]⟩,[(.norm,⟨[8,9,10,11,12,13,14],[],[.s 16 (.dat (.int .u64)),.s 17 (.dat (.leaf 1))]⟩)]⟩ (.two (.cut ⟨⟨[8,9,10,11,12,13,14],[],[.s 16 (.dat (.int .u64)),.s 17 (.dat (.leaf 1))]⟩,[(.exit 2,⟨[8,9,10,11,12,13,14],[],[.s 16 (.dat (.int .u64)),.s 17 (.dat (.leaf 1))]⟩)]⟩ .no) .no)) .no))))))))) .no)) .no)) .no)) .no))) .no)))))))) Tryz.func172 (fun _ _=>by kernel_rfl) rfl fun v vals x z ha hz=>(rquot_i x.1 x.2).trans (Z6w hz)
end Go.Eng
set_option maxRecDepth 100000
set_option maxHeartbeats 4000000
namespace Go.Eng
open Go.Proofs Go.RowKit
noncomputable def ZIm:FuncId×Con:=(171,⟨[.leaf 1,.leaf 1],[.leaf 1],fun p=>rgcF p.1 p.2⟩)
theorem rgcd_i (a:Nat) (b:Nat):Zl ⟨Tryz.prog,[(91,1),(93,4)],[ZAh],[],[],[],[],[]⟩ [] Tryz.f171 (.two .no (.two (.cut ⟨⟨[],[],[]⟩,[(.norm,⟨[],[],[.s 0 (.dat (.leaf 1))]⟩)]⟩ (.two (.cut ⟨⟨[],[],[.s 0 (.dat (.leaf 1)),.s 1 (.dat (.leaf 1))]⟩,[(.exit 0,⟨[],[],[.s 0 (.dat (.leaf 1))]⟩)]⟩ .no) .no)) .no)) [.leaf 1,.leaf 1] [.leaf 1] (a,b)=ZMl a b:=by kernel_rfl
theorem rgcd_k:Zk Tryz.prog ZIm.1 ZIm.2:=Zm (C:=⟨Tryz.prog,[(91,1),(93,4)],[ZAh],[],[],[],[],[]⟩) ⟨Zlt,trivial⟩ trivial trivial trivial (inl:=[]) trivial (ann:=.two .no (.two (.cut ⟨⟨[],[],[]⟩,[(.norm,⟨[],[],[.s 0 (.dat (.leaf 1))]⟩)]⟩ (.two (.cut ⟨⟨[],[],[.s 0 (.dat (.leaf 1)),.s 1 (.dat (.leaf 1))]⟩,[(.exit 0,⟨[],[],[.s 0 (.dat (.leaf 1))]⟩)]⟩ .no) .no)) .no)) Tryz.func171 (fun _ _=>by kernel_rfl) rfl fun v vals x z ha hz=>(rgcd_i x.1 x.2).trans (rgcF_eq hz)
end Go.Eng
set_option maxRecDepth 100000
set_option maxHeartbeats 4000000
namespace Go.Eng
open Go.Proofs Go.RowKit
noncomputable def Zfc:FuncId×Con:=(135,⟨[.bool,.leaf 1,.leaf 1],[.leaf 4],fun p=>Zvb p.1 p.2.1 p.2.2⟩)
theorem rfrac_i (s:Bool) (n:Nat) (d:Nat):Zl ⟨Tryz.prog,[(91,1),(93,4)],[ZIm,ZAh],[],[],[],[],[]⟩ [] Tryz.f135 .no [.bool,.leaf 1,.leaf 1] [.leaf 4] (s,n,d)=ZKo s n d:=by kernel_rfl
theorem Zlh:Zk Tryz.prog Zfc.1 Zfc.2:=Zm (C:=⟨Tryz.prog,[(91,1),(93,4)],[ZIm,ZAh],[],[],[],[],[]⟩) ⟨rgcd_k,Zlt,trivial⟩ trivial trivial trivial (inl:=[]) trivial (ann:=.no) Tryz.func135 (fun _ _=>by kernel_rfl) rfl fun v vals x z ha hz=>(rfrac_i x.1 x.2.1 x.2.2).trans (ZSv hz)
end Go.Eng
set_option maxRecDepth 100000
set_option maxHeartbeats 4000000
namespace Go.Eng
open Go.Proofs Go.RowKit
noncomputable def Zcb:FuncId×Con:=(91,⟨[.int .i64],[.leaf 4],fun p=>Zla p⟩)
theorem ZYy (n:Int):Zl ⟨Tryz.prog,[(91,1),(93,4)],[Zfc,Zmh],[],[],[],[],[]⟩ [] Tryz.f91 .no [.int .i64] [.leaf 4] (n)=Zdk n:=by kernel_rfl
theorem Z6e:Zk Tryz.prog Zcb.1 Zcb.2:=Zm (C:=⟨Tryz.prog,[(91,1),(93,4)],[Zfc,Zmh],[],[],[],[],[]⟩) ⟨Zlh,ZLq,trivial⟩ trivial trivial trivial (inl:=[]) trivial (ann:=.no) Tryz.func91 (fun _ _=>by kernel_rfl) rfl fun v vals x z ha hz=>by obtain ⟨c0,e0,p0⟩:=ha;exact (ZYy x).trans (ZBx p0.2 hz)
end Go.Eng
set_option maxRecDepth 100000
set_option maxHeartbeats 4000000
namespace Go.Eng
open Go.Proofs Go.RowKit
noncomputable def ZLd:FuncId×Con:=(90,⟨[.leaf 4],[.pair (.leaf 4) (.pair (.leaf 4) (.pair (.leaf 4) (.leaf 4)))],fun p=>Zbe p⟩)
theorem sReal_i (x:Rat):Zl ⟨Tryz.prog,[(39,0),(41,2),(43,3),(91,1),(93,4)],[Zcb],[],[],[],[],[]⟩ [] Tryz.f90 .no [.leaf 4] [.pair (.leaf 4) (.pair (.leaf 4) (.pair (.leaf 4) (.leaf 4)))] (x)=Zbe x:=by kernel_rfl
theorem ZGm:Zk Tryz.prog ZLd.1 ZLd.2:=Zm (C:=⟨Tryz.prog,[(39,0),(41,2),(43,3),(91,1),(93,4)],[Zcb],[],[],[],[],[]⟩) ⟨Z6e,trivial⟩ trivial trivial trivial (inl:=[]) trivial (ann:=.no) Tryz.func90 (fun _ _=>by kernel_rfl) rfl (fun v vals x z ha hz=>(sReal_i x).trans hz)
end Go.Eng
set_option maxRecDepth 100000
set_option maxHeartbeats 4000000
namespace Go.Eng
open Go.Proofs Go.RowKit
noncomputable def Z1d:FuncId×Con:=(41,⟨[.leaf 4],[.pair (.pair (.leaf 4) (.pair (.leaf 4) (.pair (.leaf 4) (.leaf 4)))) (.pair (.leaf 4) (.pair (.leaf 4) (.pair (.leaf 4) (.leaf 4))))],fun p=>Zgf p⟩)
theorem wReal_i (x:Rat):Zl ⟨Tryz.prog,[(39,0),(41,2),(43,3),(91,1),(93,4)],[ZLd,Zcb],[],[],[],[],[]⟩ [] Tryz.f41 .no [.leaf 4] [.pair (.pair (.leaf 4) (.pair (.leaf 4) (.pair (.leaf 4) (.leaf 4)))) (.pair (.leaf 4) (.pair (.leaf 4) (.pair (.leaf 4) (.leaf 4))))] (x)=Zgf x:=by kernel_rfl
theorem Z4l:Zk Tryz.prog Z1d.1 Z1d.2:=Zm (C:=⟨Tryz.prog,[(39,0),(41,2),(43,3),(91,1),(93,4)],[ZLd,Zcb],[],[],[],[],[]⟩) ⟨ZGm,Z6e,trivial⟩ trivial trivial trivial (inl:=[]) trivial (ann:=.no) Tryz.func41 (fun _ _=>by kernel_rfl) rfl (fun v vals x z ha hz=>(wReal_i x).trans hz)
end Go.Eng
set_option maxRecDepth 100000
set_option maxHeartbeats 4000000
namespace Go.Eng
open Go.Proofs Go.RowKit
noncomputable def Z5j:FuncId×Con:=(92,⟨[.int .i64,.int .i64],[.leaf 4,.int .i64],fun p=>Zwi p.1 p.2⟩)
theorem rnew_i (n:Int) (d:Int):Zl ⟨Tryz.prog,[(91,1),(93,4)],[Zcb,Zfc],[],[],[],[],[]⟩ [] Tryz.f92 .no [.int .i64,.int .i64] [.leaf 4,.int .i64] (n,d)=ZSn n d:=by kernel_rfl
theorem rnew_k:Zk Tryz.prog Z5j.1 Z5j.2:=Zm (C:=⟨Tryz.prog,[(91,1),(93,4)],[Zcb,Zfc],[],[],[],[],[]⟩) ⟨Z6e,Zlh,trivial⟩ trivial trivial trivial (inl:=[]) trivial (ann:=.no) Tryz.func92 (fun _ _=>by kernel_rfl) rfl fun v vals x z ha hz=>by obtain ⟨c0,w0,e0,p0,c1,e1,p1⟩:=ha;exact (rnew_i x.1 x.2).trans (Zvw p0.2 p1.2 hz)
end Go.Eng
set_option maxRecDepth 100000
set_option maxHeartbeats 4000000
namespace Go.Eng
open Go.Proofs Go.RowKit
noncomputable def Z2h:FuncId×Con:=(42,⟨[.pair (.int .i64) (.int .i64)],[.leaf 4],fun p=>rofF p⟩)
theorem rof_i (r:(Int×Int)):Zl ⟨Tryz.prog,[(91,1),(93,4)],[Zcb,Z5j],[],[],[],[],[]⟩ [] Tryz.f42 .no [.pair (.int .i64) (.int .i64)] [.leaf 4] (r)=rof_m r:=by kernel_rfl
theorem rof_k:Zk Tryz.prog Z2h.1 Z2h.2:=Zm (C:=⟨Tryz.prog,[(91,1),(93,4)],[Zcb,Z5j],[],[],[],[],[]⟩) ⟨Z6e,rnew_k,trivial⟩ trivial trivial trivial (inl:=[]) trivial (ann:=.no) Tryz.func42 (fun _ _=>by kernel_rfl) rfl fun v vals x z ha hz=>(rof_i x).trans (rofF_eq hz)
end Go.Eng
set_option maxRecDepth 100000
set_option maxHeartbeats 4000000
namespace Go.Eng
open Go.Proofs Go.RowKit
noncomputable def ZOf:FuncId×Con:=(10,⟨[.slice (.pair (.int .i64) (.int .i64))],[.slice (.leaf 3),.slice (.pair (.pair (.leaf 4) (.pair (.leaf 4) (.pair (.leaf 4) (.leaf 4)))) (.pair (.leaf 4) (.pair (.leaf 4) (.pair (.leaf 4) (.leaf 4)))))],fun p=>ZEe p⟩)
theorem list2_i (l:List (Int×Int)):Zl ⟨Tryz.prog,[(39,0),(41,2),(43,3),(91,1),(93,4)],[ZBl,Z1d,Z2h],[],[],[],[],[]⟩ [] Tryz.f10 (.two .no (.two .no (.two .no (.two (.two .no (.two (.cut ⟨⟨[8,9],[],[.s 4 (.own 43 (.leaf 3)),.s 5 (.own 97 (.pair (.pair (.leaf 4) (.pair (.leaf 4) (.pair (.leaf 4) (.leaf 4)))) (.pair (.leaf 4) (.pair (.leaf 4) (.pair (.leaf 4) (.leaf 4)))))),.s 10 (.dat (.int .i64))]⟩,[(.exit 0,⟨[],[],[.s 4 (.own 43 (.leaf 3)),.s 5 (.own 97 (.pair (.pair (.leaf 4) (.pair (.leaf 4) (.pair (.leaf 4) (.leaf 4)))) (.pair (.leaf 4) (.pair (.leaf 4) (.pair (.leaf 4) (.leaf 4))))))]⟩)]⟩ .no) .no)) .no)))) [.slice (.pair (.int .i64) (.int .i64))] [.slice (.leaf 3),.slice (.pair (.pair (.leaf 4) (.pair (.leaf 4) (.pair (.leaf 4) (.leaf 4)))) (.pair (.leaf 4) (.pair (.leaf 4) (.pair (.leaf 4) (.leaf 4)))))] (l)=ZEe l:=by kernel_rfl
theorem Zao:Zk Tryz.prog ZOf.1 ZOf.2:=Zm (C:=⟨Tryz.prog,[(39,0),(41,2),(43,3),(91,1),(93,4)],[ZBl,Z1d,Z2h],[],[],[],[],[]⟩) ⟨Zxy,Z4l,rof_k,trivial⟩ trivial trivial trivial (inl:=[]) trivial (ann:=(.two .no (.two .no (.two .no (.two (.two .no (.two (.cut ⟨⟨[8,9],[],[.s 4 (.own 43 (.leaf 3)),.s 5 (.own 97 (.pair (.pair (.leaf 4) (.pair (.leaf 4) (.pair (.leaf 4) (.leaf 4)))) (.pair (.leaf 4) (.pair (.leaf 4) (.pair (.leaf 4) (.leaf 4)))))),.s 10 (.dat (.int .i64))]⟩,[(.exit 0,⟨[],[],[.s 4 (.own 43 (.leaf 3)),.s 5 (.own 97 (.pair (.pair (.leaf 4) (.pair (.leaf 4) (.pair (.leaf 4) (.leaf 4)))) (.pair (.leaf 4) (.pair (.leaf 4) (.pair (.leaf 4) (.leaf 4))))))]⟩)]⟩ .no) .no)) .no))))) Tryz.func10 (fun _ _=>by kernel_rfl) rfl (fun v vals x z ha hz=>(list2_i x).trans hz)
end Go.Eng
set_option maxRecDepth 100000
set_option maxHeartbeats 4000000
namespace Go.Eng
open Go.Proofs Go.RowKit
noncomputable def ZDf:FuncId×Con:=(9,⟨[.slice (.slice (.pair (.int .i64) (.int .i64)))],[.slice (.slice (.leaf 3)),.slice (.slice (.pair (.pair (.leaf 4) (.pair (.leaf 4) (.pair (.leaf 4) (.leaf 4)))) (.pair (.leaf 4) (.pair (.leaf 4) (.pair (.leaf 4) (.leaf 4))))))],fun p=>Zre p⟩)
theorem rows2_i (m:List (List (Int×Int))):Zl ⟨Tryz.prog,[(39,0),(41,2),(43,3),(91,1),(93,4)],[ZOf],[],[],[],[],[]⟩ [] Tryz.f9 (.two .no (.two .no (.two (.two .no (.two (.cut ⟨⟨[0,4,5,14],[],[.s 15 (.dat (.int .i64)),.l (.sl 4) (.own 30 (.slice (.leaf 3))),.l (.sl 5) (.own 31 (.slice (.pair (.pair (.leaf 4) (.pair (.leaf 4) (.pair (.leaf 4) (.leaf 4)))) (.pair (.leaf 4) (.pair (.leaf 4) (.pair (.leaf 4) (.leaf 4)))))))]⟩,[(.exit 0,⟨[4,5],[],[.l (.sl 4) (.own 30 (.slice (.leaf 3))),.l (.sl 5) (.own 31 (.slice (.pair (.pair (.leaf 4) (.pair (.leaf 4) (.pair (.leaf 4) (.leaf 4)))) (.pair (.leaf 4) (.pair (.leaf 4) (.pair (.leaf 4) (.leaf 4)))))))]⟩)]⟩ .no) .no)) .no))) [.slice (.slice (.pair (.int .i64) (.int .i64)))] [.slice (.slice (.leaf 3)),.slice (.slice (.pair (.pair (.leaf 4) (.pair (.leaf 4) (.pair (.leaf 4) (.leaf 4)))) (.pair (.leaf 4) (.pair (.leaf 4) (.pair (.leaf 4) (.leaf 4))))))] (m)=Zre m:=by kernel_rfl
theorem ZVo:Zk Tryz.prog ZDf.1 ZDf.2:=Zm (C:=⟨Tryz.prog,[(39,0),(41,2),(43,3),(91,1),(93,4)],[ZOf],[],[],[],[],[]⟩) ⟨Zao,trivial⟩ trivial trivial trivial (inl:=[]) trivial (ann:=(.two .no (.two .no (.two (.two .no (.two (.cut ⟨⟨[0,4,5,14],[],[.s 15 (.dat (.int .i64)),.l (.sl 4) (.own 30 (.slice (.leaf 3))),.l (.sl 5) (.own 31 (.slice (.pair (.pair (.leaf 4) (.pair (.leaf 4) (.pair (.leaf 4) (.leaf 4)))) (.pair (.leaf 4) (.pair (.leaf 4) (.pair (.leaf 4) (.leaf 4)))))))]⟩,[(.exit 0,⟨[4,5],[],[.l (.sl 4) (.own 30 (.slice (.leaf 3))),.l (.sl 5) (.own 31 (.slice (.pair (.pair (.leaf 4) (.pair (.leaf 4) (.pair (.leaf 4) (.leaf 4)))) (.pair (.leaf 4) (.pair (.leaf 4) (.pair (.leaf 4) (.leaf 4)))))))]⟩)]⟩ .no) .no)) .no)))) Tryz.func9 (fun _ _=>by kernel_rfl) rfl (fun v vals x z ha hz=>(rows2_i x).trans hz)
end Go.Eng
set_option maxRecDepth 100000
set_option maxHeartbeats 4000000
namespace Go.Eng
open Go.Proofs Go.RowKit
noncomputable def Zwb:FuncId×Con:=(47,⟨[.slice (.slice (.leaf 3))],[.int .i64],fun p=>ZIb p⟩)
theorem ZDu (m:List (List Rat)):Zl ⟨Tryz.prog,[(39,0),(41,2),(43,3),(91,1),(93,4)],[],[],[],[],[],[]⟩ [] Tryz.f47 .no [.slice (.slice (.leaf 3))] [.int .i64] (m)=ZIb m:=by kernel_rfl
theorem Zxf:Zk Tryz.prog Zwb.1 Zwb.2:=Zm (C:=⟨Tryz.prog,[(39,0),(41,2),(43,3),(91,1),(93,4)],[],[],[],[],[],[]⟩) trivial trivial trivial trivial (inl:=[]) trivial (ann:=.no) Tryz.func47 (fun _ _=>by kernel_rfl) rfl (fun v vals x z ha hz=>(ZDu x).trans hz)
end Go.Eng
set_option maxRecDepth 100000
set_option maxHeartbeats 4000000
namespace Go.Eng
open Go.Proofs Go.RowKit
noncomputable def Zsc:FuncId×Con:=(43,⟨[.slice (.slice (.leaf 3))],[.bool],fun p=>Zdc p⟩)
theorem ZWz (m:List (List Rat)):Zl ⟨Tryz.prog,[(39,0),(41,2),(43,3),(91,1),(93,4)],[Zwb],[],[],[],[],[]⟩ [(93,Tryz.f93,.no),(94,Tryz.f94,.no),(137,Tryz.f137,.cut ⟨⟨[],[],[]⟩,[(.ret,⟨[],[],[.s 1000 (.dat (.int .i64))]⟩)]⟩ (.two .no (.two (.two .no (.two (.cut ⟨⟨[0,1,7],[],[.s 8 (.dat (.int .i64))]⟩,[(.exit 0,⟨[],[],[]⟩),(.ret,⟨[],[],[.s 1000 (.dat (.int .i64))]⟩)]⟩ .no) .no)) .no)))] Tryz.f43 (.two .no (.two .no (.two (.cut ⟨⟨[],[],[]⟩,[(.norm,⟨[],[],[.s 2 (.dat .bool)]⟩)]⟩ .no) .no))) [.slice (.slice (.leaf 3))] [.bool] (m)=Zdc m:=by kernel_rfl
theorem ZKh:Zk Tryz.prog Zsc.1 Zsc.2:=Zm (C:=⟨Tryz.prog,[(39,0),(41,2),(43,3),(91,1),(93,4)],[Zwb],[],[],[],[],[]⟩) ⟨Zxf,trivial⟩ trivial trivial trivial (inl:=[(93,Tryz.f93,.no),(94,Tryz.f94,.no),(137,Tryz.f137,.cut ⟨⟨[],[],[]⟩,[(.ret,⟨[],[],[.s 1000 (.dat (.int .i64))]⟩)]⟩ (.two .no (.two (.two .no (.two (.cut ⟨⟨[0,1,7],[],[.s 8 (.dat (.int .i64))]⟩,[(.exit 0,⟨[],[],[]⟩),(.ret,⟨[],[],[.s 1000 (.dat (.int .i64))]⟩)]⟩ .no) .no)) .no)))]) ⟨⟨Tryz.func93,fun _ _=>by kernel_rfl⟩,⟨Tryz.func94,fun _ _=>by kernel_rfl⟩,⟨Tryz.func137,fun _ _=>by kernel_rfl⟩,trivial⟩ (ann:=(.two .no (.two .no (.two (.cut ⟨⟨[],[],[]⟩,[(.norm,⟨[],[],[.s 2 (.dat .bool)]⟩)]⟩ .no) .no)))) Tryz.func43 (fun _ _=>by kernel_rfl) rfl (fun v vals x z ha hz=>(ZWz x).trans hz)
end Go.Eng
set_option maxRecDepth 100000
set_option maxHeartbeats 4000000
namespace Go.Eng
open Go.Proofs Go.RowKit
noncomputable def ZQc:FuncId×Con:=(22,⟨[.leaf 3],[.bool],fun p=>Z1b p⟩)
theorem qzero_i (x:Rat):Zl ⟨Tryz.prog,[(39,0),(41,2),(43,3)],[],[],[],[],[],[]⟩ [] Tryz.f22 .no [.leaf 3] [.bool] (x)=ZFo x:=by kernel_rfl
theorem ZZi:Zk Tryz.prog ZQc.1 ZQc.2:=Zm (C:=⟨Tryz.prog,[(39,0),(41,2),(43,3)],[],[],[],[],[],[]⟩) trivial trivial trivial trivial (inl:=[]) trivial (ann:=.no) Tryz.func22 (fun _ _=>by kernel_rfl) rfl fun v vals x z ha hz=>(qzero_i x).trans (Zyx hz)
end Go.Eng
set_option maxRecDepth 100000
set_option maxHeartbeats 4000000
namespace Go.Eng
open Go.Proofs Go.RowKit
noncomputable def ZHf:FuncId×Con:=(55,⟨[.leaf 0],[.leaf 0],fun p=>ZWc p⟩)
theorem under_i (d:Nat):Zl ⟨Tryz.prog,[(39,0),(41,2),(43,3)],[Z4f],[],[],[],[],[]⟩ [] Tryz.f55 .no [.leaf 0] [.leaf 0] (d)=ZWn d:=by kernel_rfl
theorem ZAn:Zk Tryz.prog ZHf.1 ZHf.2:=Zm (C:=⟨Tryz.prog,[(39,0),(41,2),(43,3)],[Z4f],[],[],[],[],[]⟩) ⟨ZYn,trivial⟩ trivial trivial trivial (inl:=[]) trivial (ann:=.no) Tryz.func55 (fun _ _=>by kernel_rfl) rfl fun v vals x z ha hz=>(under_i x).trans (Zrx hz)
end Go.Eng
set_option maxRecDepth 100000
set_option maxHeartbeats 4000000
namespace Go.Eng
open Go.Proofs Go.RowKit
noncomputable def Zlk:FuncId×Con:=(106,⟨[.int .u64,.int .u64],[.int .u64,.int .u64],fun p=>ZEc p.1 p.2⟩)
theorem mul64_i (x:Int) (y:Int):Zl ⟨Tryz.prog,[],[],[],[],[],[],[]⟩ [] Tryz.f106 .no [.int .u64,.int .u64] [.int .u64,.int .u64] (x,y)=Zii x y:=by kernel_rfl
theorem mul64_k:Zk Tryz.prog Zlk.1 Zlk.2:=Zm (C:=⟨Tryz.prog,[],[],[],[],[],[],[]⟩) trivial trivial trivial trivial (inl:=[]) trivial (ann:=.no) Tryz.func106 (fun _ _=>by kernel_rfl) rfl fun v vals x z ha hz=>(mul64_i x.1 x.2).trans (ZOq hz)
end Go.Eng
set_option maxRecDepth 100000
set_option maxHeartbeats 4000000
namespace Go.Eng
open Go.Proofs Go.RowKit
noncomputable def ZJh:FuncId×Con:=(107,⟨[.int .u64,.int .u64,.int .u64],[.int .u64,.int .u64],fun p=>ZMb p.1 p.2.1 p.2.2⟩)
theorem ZBr:Zk Tryz.prog ZJh.1 ZJh.2:=fun w v vals x z _ ha hz=>by
 obtain ⟨c0,w0,e0,p0,c1,w1,e1,p1,c2,e2,p2⟩:=ha
 subst e0 e1 e2
 obtain ⟨rfl,h0⟩:=p0
 obtain ⟨rfl,h1⟩:=p1
 obtain ⟨rfl,h2⟩:=p2
 have p0:(Zd .u64).rel v [.int .u64 x.1] x.1:=⟨rfl,h0⟩
 have p1:(Zd .u64).rel v [.int .u64 x.2.1] x.2.1:=⟨rfl,h1⟩
 exact .inr ⟨.tuple #[.int .u64 z.1,.int .u64 z.2],fun w=>Zuo (show ZVf Tryz.prog 107 add64Entry from ⟨_,Tryz.func107,by kernel_rfl,by kernel_rfl,by kernel_rfl,by kernel_rfl⟩) hz w,_,rfl,_,_,rfl,⟨rfl,Zvp hz⟩,_,rfl,⟨rfl,addW_hi p0.2 p1.2 hz⟩⟩
end Go.Eng
set_option maxRecDepth 100000
set_option maxHeartbeats 4000000
namespace Go.Eng
open Go.Proofs Go.RowKit
noncomputable def Z5c:FuncId×Con:=(59,⟨[.leaf 0,.leaf 0],[.leaf 0],fun p=>ZNc p.1 p.2⟩)
theorem times_i (a:Nat) (b:Nat):Zl ⟨Tryz.prog,[(39,0)],[Zch,Zlk,ZJh,ZFf],[],[],[],[],[]⟩ [] Tryz.f59 (.two .no (.two .no (.two .no (.two .no (.two (.two .no (.cut ⟨⟨[],[],[]⟩,[(.norm,⟨[],[],[.s 5 (.own 148 (.int .u64))]⟩)]⟩ (.two (.cut ⟨⟨[1,26,27],[],[.s 5 (.own 148 (.int .u64)),.s 28 (.dat (.int .i64))]⟩,[(.exit 0,⟨[],[],[.s 5 (.own 148 (.int .u64))]⟩)]⟩ (.two (.two .no (.two .no (.two (.two (.two .no (.two .no (.two (.two .no (.cut ⟨⟨[],[],[]⟩,[(.norm,⟨[1,6,26,27,28],[],[.s 5 (.own 148 (.int .u64)),.s 8 (.dat (.int .u64))]⟩)]⟩ (.two (.cut ⟨⟨[1,6,7,26,27,28,33,34],[],[.s 5 (.own 148 (.int .u64)),.s 8 (.dat (.int .u64)),.s 35 (.dat (.int .i64))]⟩,[(.exit 2,⟨[1,6,26,27,28],[],[.s 5 (.own 148 (.int .u64)),.s 8 (.dat (.int .u64))]⟩)]⟩ .no) .no))) .no))) .no) .no))) .no)) .no))) .no))))) [.leaf 0,.leaf 0] [.leaf 0] (a,b)=Z0l a b:=by kernel_rfl
theorem Zhj:Zk Tryz.prog Z5c.1 Z5c.2:=Zm (C:=⟨Tryz.prog,[(39,0)],[Zch,Zlk,ZJh,ZFf],[],[],[],[],[]⟩) ⟨ZBs,mul64_k,ZBr,cut_k,trivial⟩ trivial trivial trivial (inl:=[]) trivial (ann:=.two .no (.two .no (.two .no (.two .no (.two (.two .no (.cut ⟨⟨[],[],[]⟩,[(.norm,⟨[],[],[.s 5 (.own 148 (.int .u64))]⟩)]⟩ (.two (.cut ⟨⟨[1,26,27],[],[.s 5 (.own 148 (.int .u64)),.s 28 (.dat (.int .i64))]⟩,[(.exit 0,⟨[],[],[.s 5 (.own 148 (.int .u64))]⟩)]⟩ (.two (.two .no (.two .no (.two (.two (.two .no (.two .no (.two (.two .no (.cut ⟨⟨[],[],[]⟩,[(.norm,⟨[1,6,26,27,28],[],[.s 5 (.own 148 (.int .u64)),.s 8 (.dat (.int .u64))]⟩)]⟩ (.two (.cut ⟨⟨[1,6,7,26,27,28,33,34],[],[.s 5 (.own 148 (.int .u64)),.s 8 (.dat (.int .u64)),.s 35 (.dat (.int .i64))]⟩,[(.exit 2,⟨[1,6,26,27,28],[],[.s 5 (.own 148 (.int .u64)),.s 8 (.dat (.int .u64))]⟩)]⟩ .no) .no))) .no))) .no) .no))) .no)) .no))) .no))))) Tryz.func59 (fun _ _=>by kernel_rfl) rfl fun v vals x z ha hz=>(times_i x.1 x.2).trans (Zzz hz)
end Go.Eng
set_option maxRecDepth 100000
set_option maxHeartbeats 4000000
namespace Go.Eng
open Go.Proofs Go.RowKit
noncomputable def Zom:FuncId×Con:=(70,⟨[.leaf 2,.leaf 2],[.leaf 2],fun p=>Zbj p.1 p.2⟩)
theorem Znw (x:Int) (y:Int):Zl ⟨Tryz.prog,[(39,0),(41,2),(43,3)],[Z5c,Zec],[],[],[],[],[]⟩ [] Tryz.f70 .no [.leaf 2,.leaf 2] [.leaf 2] (x,y)=ZDn x y:=by kernel_rfl
theorem Zlx:Zk Tryz.prog Zom.1 Zom.2:=Zm (C:=⟨Tryz.prog,[(39,0),(41,2),(43,3)],[Z5c,Zec],[],[],[],[],[]⟩) ⟨Zhj,Z6h,trivial⟩ trivial trivial trivial (inl:=[]) trivial (ann:=.no) Tryz.func70 (fun _ _=>by kernel_rfl) rfl fun v vals x z ha hz=>(Znw x.1 x.2).trans (Zou hz)
end Go.Eng
set_option maxRecDepth 100000
set_option maxHeartbeats 4000000
namespace Go.Eng
open Go.Proofs Go.RowKit
noncomputable def ZXc:FuncId×Con:=(30,⟨[.leaf 3,.leaf 3],[.leaf 3],fun p=>Z9a p.1 p.2⟩)
theorem qmul_i (x:Rat) (y:Rat):Zl ⟨Tryz.prog,[(39,0),(41,2),(43,3)],[ZHf,ZXd,Z5c,Zom],[],[],[],[],[]⟩ [] Tryz.f30 .no [.leaf 3,.leaf 3] [.leaf 3] (x,y)=ZGp x y:=by kernel_rfl
theorem Z1i:Zk Tryz.prog ZXc.1 ZXc.2:=Zm (C:=⟨Tryz.prog,[(39,0),(41,2),(43,3)],[ZHf,ZXd,Z5c,Zom],[],[],[],[],[]⟩) ⟨ZAn,Zzl,Zhj,Zlx,trivial⟩ trivial trivial trivial (inl:=[]) trivial (ann:=.no) Tryz.func30 (fun _ _=>by kernel_rfl) rfl fun v vals x z ha hz=>(qmul_i x.1 x.2).trans (Zfz hz)
end Go.Eng
set_option maxRecDepth 100000
set_option maxHeartbeats 4000000
namespace Go.Eng
open Go.Proofs Go.RowKit
noncomputable def Zbk:FuncId×Con:=(215,⟨[.leaf 3,.leaf 3],[.leaf 3],fun p=>Zmk p.1 p.2⟩)
theorem qOf_i (x:Rat) (y:Rat):Zl ⟨Tryz.prog,[(39,0),(41,2),(43,3),(91,1),(93,4)],[],[],[],[],[],[]⟩ [] Tryz.f215 .no [.leaf 3,.leaf 3] [.leaf 3] (x,y)=Zmk x y:=by kernel_rfl
theorem qOf_k:Zk Tryz.prog Zbk.1 Zbk.2:=Zm (C:=⟨Tryz.prog,[(39,0),(41,2),(43,3),(91,1),(93,4)],[],[],[],[],[],[]⟩) trivial trivial trivial trivial (inl:=[]) trivial (ann:=.no) Tryz.func215 (fun _ _=>by kernel_rfl) rfl (fun v vals x z ha hz=>(qOf_i x.1 x.2).trans hz)
end Go.Eng
set_option maxRecDepth 100000
namespace Go.Eng
open Go.Proofs Go.RowKit
theorem Zup : ∀ y w, (method (Tryz.prog.types.size + Made.depth) 43 y "Add").run Tryz.prog w = .ok (23, y) w := fun _ _ => by kernel_rfl
theorem ZAt : ∀ y w, (method (Tryz.prog.types.size + Made.depth) 43 y "Cmp").run Tryz.prog w = .ok (31, y) w := fun _ _ => by kernel_rfl
theorem Zfu : ∀ y w, (method (Tryz.prog.types.size + Made.depth) 43 y "Conj").run Tryz.prog w = .ok (212, y) w := fun _ _ => by kernel_rfl
theorem Z6s : ∀ y w, (method (Tryz.prog.types.size + Made.depth) 43 y "Div").run Tryz.prog w = .ok (213, y) w := fun _ _ => by kernel_rfl
theorem Zck : ∀ y w, (method (Tryz.prog.types.size + Made.depth) 43 y "Mul").run Tryz.prog w = .ok (30, y) w := fun _ _ => by kernel_rfl
theorem Zqm : ∀ y w, (method (Tryz.prog.types.size + Made.depth) 43 y "Neg").run Tryz.prog w = .ok (117, y) w := fun _ _ => by kernel_rfl
theorem ZMw : ∀ y w, (method (Tryz.prog.types.size + Made.depth) 43 y "Of").run Tryz.prog w = .ok (215, y) w := fun _ _ => by kernel_rfl
theorem Zcw : ∀ y w, (method (Tryz.prog.types.size + Made.depth) 43 y "Same").run Tryz.prog w = .ok (24, y) w := fun _ _ => by kernel_rfl
theorem Zzn : ∀ y w, (method (Tryz.prog.types.size + Made.depth) 43 y "Sign").run Tryz.prog w = .ok (72, y) w := fun _ _ => by kernel_rfl
theorem ZGo : ∀ y w, (method (Tryz.prog.types.size + Made.depth) 43 y "Sub").run Tryz.prog w = .ok (71, y) w := fun _ _ => by kernel_rfl
theorem Zsn : ∀ y w, (method (Tryz.prog.types.size + Made.depth) 43 y "Zero").run Tryz.prog w = .ok (22, y) w := fun _ _ => by kernel_rfl
end Go.Eng
set_option maxRecDepth 100000
set_option maxHeartbeats 4000000
namespace Go.Eng
open Go.Proofs Go.RowKit
noncomputable def Zmc:FuncId×Con:=(50,⟨[.int .i64],[.leaf 3],fun p=>Z0b p⟩)
theorem Zow (n : Int) : Zl ⟨Tryz.prog, [(39, 0), (41, 2), (43, 3), (91, 1), (93, 4)], [Zji, Zbk], [], [], [], [((43, "Of"), 215)], []⟩ [] Tryz.f50 .no [.int .i64] [.leaf 3] (n) = Z0b n := by kernel_rfl
theorem Zrh : Zk Tryz.prog Zmc.1 Zmc.2 := Zm (C := ⟨Tryz.prog, [(39, 0), (41, 2), (43, 3), (91, 1), (93, 4)], [Zji, Zbk], [], [], [], [((43, "Of"), 215)], []⟩) ⟨ZNq, qOf_k, trivial⟩ trivial trivial ⟨ZMw, trivial⟩ (inl := []) trivial (ann := .no) Tryz.func50 (fun _ _ => by kernel_rfl) rfl (fun v vals x z ha hz => (Zow x).trans hz)
end Go.Eng
set_option maxRecDepth 100000
set_option maxHeartbeats 4000000
namespace Go.Eng
open Go.Proofs Go.RowKit
noncomputable def Z7g:FuncId×Con:=(57,⟨[.leaf 2,.leaf 0],[.leaf 2],fun p=>ZQf p.1 p.2⟩)
theorem Zsu (x:Int) (n:Nat):Zl ⟨Tryz.prog,[(39,0),(41,2),(43,3)],[Z5c,Zec],[],[],[],[],[]⟩ [] Tryz.f57 .no [.leaf 2,.leaf 0] [.leaf 2] (x,n)=ZMp x n:=by kernel_rfl
theorem Z9p:Zk Tryz.prog Z7g.1 Z7g.2:=Zm (C:=⟨Tryz.prog,[(39,0),(41,2),(43,3)],[Z5c,Zec],[],[],[],[],[]⟩) ⟨Zhj,Z6h,trivial⟩ trivial trivial trivial (inl:=[]) trivial (ann:=.no) Tryz.func57 (fun _ _=>by kernel_rfl) rfl fun v vals x z ha hz=>(Zsu x.1 x.2).trans (Z9w hz)
end Go.Eng
set_option maxRecDepth 100000
set_option maxHeartbeats 4000000
namespace Go.Eng
open Go.Proofs Go.RowKit
noncomputable def Zyh:FuncId×Con:=(60,⟨[.leaf 0,.leaf 0],[.int .i64],fun p=>Zed p.1 p.2⟩)
theorem cmp_i (a:(List Int)) (b:(List Int)):Zl ⟨Tryz.prog,[],[],[],[],[],[],[]⟩ [] Tryz.f60 (.two .no (.two .no (.two (.two .no (.cut ⟨⟨[],[],[]⟩,[(.norm,⟨[],[],[]⟩),(.ret,⟨[],[],[.s 1000 (.dat (.int .i64))]⟩)]⟩ (.two (.cut ⟨⟨[0,1],[],[.s 5 (.dat (.int .i64))]⟩,[(.ret,⟨[],[],[.s 1000 (.dat (.int .i64))]⟩),(.exit 0,⟨[],[],[]⟩)]⟩ .no) .no))) .no))) [.slice (.int .u64),.slice (.int .u64)] [.int .i64] (a,b)=ZKi a b:=by kernel_rfl
theorem cmp_k:Zk Tryz.prog Zyh.1 Zyh.2:=ZTl (C:=⟨Tryz.prog,[],[],[],[],[],[],[]⟩) trivial trivial trivial trivial (inl:=[]) trivial (ann:=.two .no (.two .no (.two (.two .no (.cut ⟨⟨[],[],[]⟩,[(.norm,⟨[],[],[]⟩),(.ret,⟨[],[],[.s 1000 (.dat (.int .i64))]⟩)]⟩ (.two (.cut ⟨⟨[0,1],[],[.s 5 (.dat (.int .i64))]⟩,[(.ret,⟨[],[],[.s 1000 (.dat (.int .i64))]⟩),(.exit 0,⟨[],[],[]⟩)]⟩ .no) .no))) .no))) (ats:=[.slice (.int .u64),.slice (.int .u64)]) (rts:=[.int .i64]) (fun x=>((Zc 18446744073709551616 x.1),(Zc 18446744073709551616 x.2))) (fun z=>z) (fun _ _ _ h=>h) (fun _ _ _ h=>h) Tryz.func60 (fun _ _=>by kernel_rfl) rfl fun v vals x z ha hz=>by obtain ⟨c0,w0,e0,p0,c1,e1,p1⟩:=ha;exact (cmp_i (Zc 18446744073709551616 x.1) (Zc 18446744073709551616 x.2)).trans ((Z4s (ZOl p0) (ZOl p1)).trans hz)
end Go.Eng
set_option maxRecDepth 100000
set_option maxHeartbeats 4000000
namespace Go.Eng
open Go.Proofs Go.RowKit
noncomputable def Zxl:FuncId×Con:=(104,⟨[.leaf 0,.leaf 0],[.leaf 0],fun p=>Zti p.1 p.2⟩)
theorem plus_i (a:Nat) (b:Nat):Zl ⟨Tryz.prog,[(39,0)],[ZJh],[],[],[],[],[]⟩ [] Tryz.f104 (.two .no (.two (.two .no (.cut ⟨⟨[],[],[]⟩,[(.norm,⟨[],[],[.s 0 (.dat (.leaf 0)),.s 1 (.dat (.leaf 0))]⟩)]⟩ .no)) (.two .no (.two .no (.two (.two .no (.cut ⟨⟨[],[],[]⟩,[(.norm,⟨[],[],[.s 5 (.own 148 (.int .u64)),.s 6 (.dat (.int .u64))]⟩)]⟩ (.two (.cut ⟨⟨[1,23,24],[],[.s 5 (.own 148 (.int .u64)),.s 6 (.dat (.int .u64)),.s 25 (.dat (.int .i64))]⟩,[(.exit 0,⟨[],[],[.s 5 (.own 148 (.int .u64)),.s 6 (.dat (.int .u64))]⟩)]⟩ (.two (.two .no (.two .no (.two (.two (.two .no (.two .no (.two (.two .no (.cut ⟨⟨[],[],[]⟩,[(.norm,⟨[1,5,6,7,8,23,24,25],[],[.s 9 (.dat (.int .u64))]⟩)]⟩ .no)) .no))) .no) .no))) .no)) .no))) (.two (.two .no (.cut ⟨⟨[],[],[]⟩,[(.norm,⟨[],[],[.s 5 (.own 148 (.int .u64))]⟩)]⟩ .no)) .no)))))) [.leaf 0,.leaf 0] [.leaf 0] (a,b)=ZRl a b:=by kernel_rfl
theorem plus_k:Zk Tryz.prog Zxl.1 Zxl.2:=Zm (C:=⟨Tryz.prog,[(39,0)],[ZJh],[],[],[],[],[]⟩) ⟨ZBr,trivial⟩ trivial trivial trivial (inl:=[]) trivial (ann:=.two .no (.two (.two .no (.cut ⟨⟨[],[],[]⟩,[(.norm,⟨[],[],[.s 0 (.dat (.leaf 0)),.s 1 (.dat (.leaf 0))]⟩)]⟩ .no)) (.two .no (.two .no (.two (.two .no (.cut ⟨⟨[],[],[]⟩,[(.norm,⟨[],[],[.s 5 (.own 148 (.int .u64)),.s 6 (.dat (.int .u64))]⟩)]⟩ (.two (.cut ⟨⟨[1,23,24],[],[.s 5 (.own 148 (.int .u64)),.s 6 (.dat (.int .u64)),.s 25 (.dat (.int .i64))]⟩,[(.exit 0,⟨[],[],[.s 5 (.own 148 (.int .u64)),.s 6 (.dat (.int .u64))]⟩)]⟩ (.two (.two .no (.two .no (.two (.two (.two .no (.two .no (.two (.two .no (.cut ⟨⟨[],[],[]⟩,[(.norm,⟨[1,5,6,7,8,23,24,25],[],[.s 9 (.dat (.int .u64))]⟩)]⟩ .no)) .no))) .no) .no))) .no)) .no))) (.two (.two .no (.cut ⟨⟨[],[],[]⟩,[(.norm,⟨[],[],[.s 5 (.own 148 (.int .u64))]⟩)]⟩ .no)) .no)))))) Tryz.func104 (fun _ _=>by kernel_rfl) rfl fun v vals x z ha hz=>(plus_i x.1 x.2).trans (ZZx hz)
end Go.Eng
set_option maxRecDepth 100000
set_option maxHeartbeats 4000000
namespace Go.Eng
open Go.Proofs Go.RowKit
noncomputable def ZZl:FuncId×Con:=(146,⟨[.int .u64,.int .u64,.int .u64],[.int .u64,.int .u64],fun p=>Zjd p.1 p.2.1 p.2.2⟩)
theorem sub64_k:Zk Tryz.prog ZZl.1 ZZl.2:=fun w v vals x z _ ha hz=>by
 obtain ⟨c0,w0,e0,p0,c1,w1,e1,p1,c2,e2,p2⟩:=ha
 subst e0 e1 e2
 obtain ⟨rfl,h0⟩:=p0
 obtain ⟨rfl,h1⟩:=p1
 obtain ⟨rfl,h2⟩:=p2
 have p0:(Zd .u64).rel v [.int .u64 x.1] x.1:=⟨rfl,h0⟩
 have p1:(Zd .u64).rel v [.int .u64 x.2.1] x.2.1:=⟨rfl,h1⟩
 exact .inr ⟨.tuple #[.int .u64 z.1,.int .u64 z.2],fun w=>Z9s (show ZVf Tryz.prog 146 Z7m from ⟨_,Tryz.func146,by kernel_rfl,by kernel_rfl,by kernel_rfl,by kernel_rfl⟩) p0.2 p1.2 hz w,_,rfl,_,_,rfl,⟨rfl,Zxq hz⟩,_,rfl,⟨rfl,Zvt hz⟩⟩
end Go.Eng
set_option maxRecDepth 100000
set_option maxHeartbeats 4000000
namespace Go.Eng
open Go.Proofs Go.RowKit
noncomputable def Zel:FuncId×Con:=(105,⟨[.leaf 0,.leaf 0],[.leaf 0],fun p=>ZDh p.1 p.2⟩)
theorem minus_i (a:Nat) (b:Nat):Zl ⟨Tryz.prog,[(39,0)],[ZFf,ZZl],[],[],[],[],[]⟩ [] Tryz.f105 (.two .no (.two .no (.two .no (.two (.two .no (.cut ⟨⟨[],[],[]⟩,[(.norm,⟨[],[],[.s 5 (.own 148 (.int .u64))]⟩)]⟩ (.two (.cut ⟨⟨[1,13,14],[],[.s 5 (.own 148 (.int .u64)),.s 6 (.dat (.int .u64)),.s 15 (.dat (.int .i64))]⟩,[(.exit 0,⟨[],[],[.s 5 (.own 148 (.int .u64))]⟩)]⟩ (.two (.two .no (.two .no (.two (.two (.two .no (.two .no (.two (.two .no (.cut ⟨⟨[],[],[]⟩,[(.norm,⟨[1,5,6,7,8,13,14,15],[],[.s 9 (.dat (.int .u64))]⟩)]⟩ .no)) .no))) .no) .no))) .no)) .no))) .no)))) [.leaf 0,.leaf 0] [.leaf 0] (a,b)=Z2m a b:=by kernel_rfl
theorem minus_k:Zk Tryz.prog Zel.1 Zel.2:=Zm (C:=⟨Tryz.prog,[(39,0)],[ZFf,ZZl],[],[],[],[],[]⟩) ⟨cut_k,sub64_k,trivial⟩ trivial trivial trivial (inl:=[]) trivial (ann:=.two .no (.two .no (.two .no (.two (.two .no (.cut ⟨⟨[],[],[]⟩,[(.norm,⟨[],[],[.s 5 (.own 148 (.int .u64))]⟩)]⟩ (.two (.cut ⟨⟨[1,13,14],[],[.s 5 (.own 148 (.int .u64)),.s 6 (.dat (.int .u64)),.s 15 (.dat (.int .i64))]⟩,[(.exit 0,⟨[],[],[.s 5 (.own 148 (.int .u64))]⟩)]⟩ (.two (.two .no (.two .no (.two (.two (.two .no (.two .no (.two (.two .no (.cut ⟨⟨[],[],[]⟩,[(.norm,⟨[1,5,6,7,8,13,14,15],[],[.s 9 (.dat (.int .u64))]⟩)]⟩ .no)) .no))) .no) .no))) .no)) .no))) .no)))) Tryz.func105 (fun _ _=>by kernel_rfl) rfl fun v vals x z ha hz=>(minus_i x.1 x.2).trans (Z6y hz)
end Go.Eng
set_option maxRecDepth 100000
set_option maxHeartbeats 4000000
namespace Go.Eng
open Go.Proofs Go.RowKit
noncomputable def ZAm:FuncId×Con:=(58,⟨[.leaf 2,.leaf 2],[.leaf 2],fun p=>ZNj p.1 p.2⟩)
theorem iplus_i (x:Int) (y:Int):Zl ⟨Tryz.prog,[(39,0),(41,2),(43,3)],[Zyh,Zec,Zxl,Zel],[],[],[],[],[]⟩ [] Tryz.f58 .no [.leaf 2,.leaf 2] [.leaf 2] (x,y)=Zun x y:=by kernel_rfl
theorem iplus_k:Zk Tryz.prog ZAm.1 ZAm.2:=Zm (C:=⟨Tryz.prog,[(39,0),(41,2),(43,3)],[Zyh,Zec,Zxl,Zel],[],[],[],[],[]⟩) ⟨cmp_k,Z6h,plus_k,minus_k,trivial⟩ trivial trivial trivial (inl:=[]) trivial (ann:=.no) Tryz.func58 (fun _ _=>by kernel_rfl) rfl fun v vals x z ha hz=>(iplus_i x.1 x.2).trans (Zjz hz)
end Go.Eng
set_option maxRecDepth 100000
set_option maxHeartbeats 4000000
namespace Go.Eng
open Go.Proofs Go.RowKit
noncomputable def Z0c:FuncId×Con:=(23,⟨[.leaf 3,.leaf 3],[.leaf 3],fun p=>ZFc p.1 p.2⟩)
theorem qadd_i (x:Rat) (y:Rat):Zl ⟨Tryz.prog,[(39,0),(41,2),(43,3)],[ZHf,ZXd,Z7g,ZAm,Z5c],[],[],[],[],[]⟩ [] Tryz.f23 .no [.leaf 3,.leaf 3] [.leaf 3] (x,y)=ZOp x y:=by kernel_rfl
theorem ZPj:Zk Tryz.prog Z0c.1 Z0c.2:=Zm (C:=⟨Tryz.prog,[(39,0),(41,2),(43,3)],[ZHf,ZXd,Z7g,ZAm,Z5c],[],[],[],[],[]⟩) ⟨ZAn,Zzl,Z9p,iplus_k,Zhj,trivial⟩ trivial trivial trivial (inl:=[]) trivial (ann:=.no) Tryz.func23 (fun _ _=>by kernel_rfl) rfl fun v vals x z ha hz=>(qadd_i x.1 x.2).trans (ZFx hz)
end Go.Eng
set_option maxRecDepth 100000
set_option maxHeartbeats 4000000
namespace Go.Eng
open Go.Proofs Go.RowKit
noncomputable def Zul:FuncId×Con:=(157,⟨[.leaf 2],[.leaf 2],fun p=>ZKj p⟩)
theorem ZXw (x:Int):Zl ⟨Tryz.prog,[(39,0),(41,2),(43,3)],[Zec],[],[],[],[],[]⟩ [] Tryz.f157 .no [.leaf 2] [.leaf 2] (x)=Zep x:=by kernel_rfl
theorem Zuz:Zk Tryz.prog Zul.1 Zul.2:=Zm (C:=⟨Tryz.prog,[(39,0),(41,2),(43,3)],[Zec],[],[],[],[],[]⟩) ⟨Z6h,trivial⟩ trivial trivial trivial (inl:=[]) trivial (ann:=.no) Tryz.func157 (fun _ _=>by kernel_rfl) rfl fun v vals x z ha hz=>(ZXw x).trans (Zpy hz)
end Go.Eng
set_option maxRecDepth 100000
set_option maxHeartbeats 4000000
namespace Go.Eng
open Go.Proofs Go.RowKit
noncomputable def ZRc:FuncId×Con:=(117,⟨[.leaf 3],[.leaf 3],fun p=>ZPc p⟩)
theorem qneg_i (x:Rat):Zl ⟨Tryz.prog,[(39,0),(41,2),(43,3)],[Zul],[],[],[],[],[]⟩ [] Tryz.f117 .no [.leaf 3] [.leaf 3] (x)=Z6n x:=by kernel_rfl
theorem Zij:Zk Tryz.prog ZRc.1 ZRc.2:=Zm (C:=⟨Tryz.prog,[(39,0),(41,2),(43,3)],[Zul],[],[],[],[],[]⟩) ⟨Zuz,trivial⟩ trivial trivial trivial (inl:=[]) trivial (ann:=.no) Tryz.func117 (fun _ _=>by kernel_rfl) rfl fun v vals x z ha hz=>(qneg_i x).trans (Z3y hz)
end Go.Eng
set_option maxRecDepth 100000
set_option maxHeartbeats 4000000
namespace Go.Eng
open Go.Proofs Go.RowKit
noncomputable def Zme:FuncId×Con:=(71,⟨[.leaf 3,.leaf 3],[.leaf 3],fun p=>Z3c p.1 p.2⟩)
theorem qsub_i (x:Rat) (y:Rat):Zl ⟨Tryz.prog,[(39,0),(41,2),(43,3)],[Z0c,ZRc],[],[],[],[],[]⟩ [] Tryz.f71 .no [.leaf 3,.leaf 3] [.leaf 3] (x,y)=ZLn x y:=by kernel_rfl
theorem Zok:Zk Tryz.prog Zme.1 Zme.2:=Zm (C:=⟨Tryz.prog,[(39,0),(41,2),(43,3)],[Z0c,ZRc],[],[],[],[],[]⟩) ⟨ZPj,Zij,trivial⟩ trivial trivial trivial (inl:=[]) trivial (ann:=.no) Tryz.func71 (fun _ _=>by kernel_rfl) rfl fun v vals x z ha hz=>(qsub_i x.1 x.2).trans (ZOw hz)
end Go.Eng
namespace Go.Eng
open Go.Proofs Go.RowKit
set_option maxRecDepth 100000
theorem Z0q:Elem Tryz.prog 30 43 (Zzb).n 56 (Value.agg #[Value.bool false,Value.slice none 0 0,Value.slice none 0 0]):=⟨Tryz.underlying30,by kernel_rfl,rfl,by decide⟩
noncomputable def ZOd:FuncId×ConO:=(138,⟨[.slice (.leaf 3)],43,.leaf 3,fun p=>Zhd 56 p⟩)
theorem ZSl:Ztg Tryz.prog ZOd.1 ZOd.2:=fun w v vals x z hv ha hz=>by
 obtain ⟨cs,rfl,p0⟩:=ha
 have hz:Zhd 56 (show List Rat from x)=some z:=hz
 obtain ⟨hb,rfl⟩:=Zlz hz
 obtain ⟨q,n,c,rfl⟩:=ZQg (show (Zv Zzb).rel v cs z from p0)
 refine ⟨fun _ _=>by kernel_rfl,?_⟩
 have hn:n=(show List Rat from z).length:=by obtain ⟨_,_,e,_⟩:=p0;cases e;rfl
 refine Zum (K:=8) (args:=[.slice q n c]) hv Tryz.func138 rfl rfl zl fun fa hS=>?_
 refine sr ?_
 refine mw hS rfl fun fa hS=>?_
 refine oe ?_
 refine wp_seq_k fun N1 hN1=>?_
 refine sr ?_
 refine mv hS rfl fun fa hS=>?_
 refine ov hS rfl (Z2y hS Tryz.underlying30 rfl rfl) fun fa hS=>?_
 refine oe ?_
 cases q with
 | none =>
  refine ZZ hS rfl rfl ?_
  have hx:(show List Rat from z)=[]:=by
   obtain ⟨q',c',e,_,_,h3⟩:=p0
   cases e
   rcases h3 with h3 | ⟨_,_,_,_,_,h4,_⟩
   ·exact h3
   ·cases h4
  have hx0:n=0:=by rw [hn,hx];rfl
  refine sr ?_;refine mw hS rfl fun fa hS=>?_;refine oe ?_;refine wp_ret ?_;refine Zbb ?_;have hS2:=hS.nilLoc 43 (Zzb).n;have:=Z6p (P:=Tryz.prog) (A:=Zzb) hS2 (i:=0) (ob:=none) (n:=0) (cap:=0) (cs:=[]) rfl (Z3a (fn:=Tryz.f138) (r:=.tmp 2) rfl (Z0 (t:=2) (y:=.slice (mkA none) 0 0) hS2 rfl)) (l:=([]:List Rat)) Zmd rfl;rw [hx];exact this
 | some ad =>
  refine ZU hS rfl rfl ?_;refine wp_skip ?_;refine Zh (hN1 _ _ ?_);refine sr ?_;obtain ⟨b,wo,hrun,hS⟩:=Zvy Z0q hS;refine ZTb wn rfl zl hrun hS fun fa hS=>?_;refine mv hS rfl fun fa hS=>?_;obtain ⟨b',cap',cs2,wo,hr,hS',hrel⟩:=Zqg (ty:=30) (A:=Zzb) Z0q hS (i:=0) rfl (Rep.mono (Zv Zzb) hS.vst.le p0) (n':=n) (by omega) (by rw [hn];exact hb) (by decide);refine ZTb wn rfl zl (ZKe hS rfl rfl hr) hS' fun fa hS=>?_;refine mw hS rfl fun fa hS=>?_;refine oe ?_;refine wp_ret ?_;exact Z6p hS (i:=0) rfl (Z3a rfl (Z0 hS rfl)) hrel hn
end Go.Eng
set_option maxRecDepth 100000
set_option maxHeartbeats 4000000
namespace Go.Eng
open Go.Proofs Go.RowKit
noncomputable def Zki:FuncId×Con:=(213,⟨[.leaf 3,.leaf 3],[.leaf 3,.int .i64],fun p=>Z2f p.1 p.2⟩)
theorem qdiv_i (x:Rat) (y:Rat):Zl ⟨Tryz.prog,[(39,0),(41,2),(43,3)],[ZQc,ZHf,ZXd,Z7g,Z5c,Zec],[],[],[],[],[]⟩ [] Tryz.f213 (.two .no (.two .no (.two (.cut ⟨⟨[],[],[]⟩,[(.norm,⟨[2,3,4],[],[.s 6 (.box 41 (.dat (.leaf 2)))]⟩)]⟩ .no) .no))) [.leaf 3,.leaf 3] [.leaf 3,.int .i64] (x,y)=Zlp x y:=by kernel_rfl
theorem Zks:Zk Tryz.prog Zki.1 Zki.2:=Zm (C:=⟨Tryz.prog,[(39,0),(41,2),(43,3)],[ZQc,ZHf,ZXd,Z7g,Z5c,Zec],[],[],[],[],[]⟩) ⟨ZZi,ZAn,Zzl,Z9p,Zhj,Z6h,trivial⟩ trivial trivial trivial (inl:=[]) trivial (ann:=.two .no (.two .no (.two (.cut ⟨⟨[],[],[]⟩,[(.norm,⟨[2,3,4],[],[.s 6 (.box 41 (.dat (.leaf 2)))]⟩)]⟩ .no) .no))) Tryz.func213 (fun _ _=>by kernel_rfl) rfl fun v vals x z ha hz=>(qdiv_i x.1 x.2).trans (Zxu hz)
end Go.Eng
set_option maxRecDepth 100000
set_option maxHeartbeats 4000000
namespace Go.Eng
open Go.Proofs Go.RowKit
noncomputable def ZNf:FuncId×Con:=(44,⟨[.slice (.slice (.leaf 3))],[.slice (.slice (.leaf 3)),.slice (.int .i64),.leaf 3],fun p=>ZMf p⟩)
theorem Z5t (m : List (List Rat)) : Zl ⟨Tryz.prog, [(39, 0), (41, 2), (43, 3), (91, 1), (93, 4)], [ZQc, ZXc, Zmc, Zme, ZRc, Zki], [8], [ZOd], [], [((43, "Div"), 213), ((43, "Mul"), 30), ((43, "Neg"), 117), ((43, "Sub"), 71), ((43, "Zero"), 22)], []⟩ [(47, Tryz.f47, .cut ⟨⟨[], [], []⟩, [(.ret, ⟨[], [], [.s 1000 (.dat (.int .i64))]⟩)]⟩ .no), (95, Tryz.f95, .two .no (.two .no (.two (.two .no (.two (.cut ⟨⟨[3, 9, 10], [], [.s 11 (.dat (.int .i64)), .l (.sl 3) (.mat 30 43 (.leaf 3))]⟩, [(.exit 0, ⟨[3], [], [.l (.sl 3) (.mat 30 43 (.leaf 3))]⟩)]⟩ .no) .no)) .no)))] Tryz.f44 (.two .no (.two .no (.two .no (.two .no (.two (.two .no (.two (.cut ⟨⟨[0, 4, 6, 19], [], [.s 5 (.own 3 (.int .i64)), .s 20 (.dat (.int .i64)), .l (.sl 0) (.mat 30 43 (.leaf 3)), .l (.sl 6) (.box 43 (.dat (.leaf 3)))]⟩, [(.exit 0, ⟨[0, 4, 6], [], [.s 5 (.own 3 (.int .i64)), .l (.sl 0) (.mat 30 43 (.leaf 3)), .l (.sl 6) (.box 43 (.dat (.leaf 3)))]⟩)]⟩ (.two (.two .no (.two .no (.two (.cut ⟨⟨[], [], []⟩, [(.norm, ⟨[0, 4, 6, 19, 20], [], [.s 5 (.own 3 (.int .i64)), .l (.sl 0) (.mat 30 43 (.leaf 3)), .l (.sl 6) (.box 43 (.dat (.leaf 3)))]⟩)]⟩ (.two (.two .no (.two .no (.two .no (.two (.two (.cut ⟨⟨[0, 4, 5, 6, 7, 8, 19, 20], [], [.s 9 (.dat (.int .i64))]⟩, [(.exit 2, ⟨[0, 4, 5, 6, 7, 8, 19, 20], [], [.s 9 (.dat (.int .i64))]⟩)]⟩ (.two (.two (.two (.cut ⟨⟨[], [], []⟩, [(.norm, ⟨[0, 4, 5, 6, 7, 8, 9, 19, 20], [], [.s 40 (.dat .bool)]⟩)]⟩ .no) .no) .no) .no)) .no) (.two .no (.two (.two .no (.cut ⟨⟨[], [], []⟩, [(.norm, ⟨[0, 4, 5, 6, 7, 8, 19, 20], [], [.l (.sl 0) (.mat 30 43 (.leaf 3)), .l (.sl 6) (.box 43 (.dat (.leaf 3)))]⟩)]⟩ .no)) (.two .no (.two .no (.two (.two .no (.two (.cut ⟨⟨[0, 4, 5, 6, 7, 8, 10, 19, 20, 83], [], [.s 84 (.dat (.int .i64)), .l (.sl 0) (.mat 30 43 (.leaf 3))]⟩, [(.exit 4, ⟨[0, 4, 5, 6, 7, 8, 19, 20], [], [.l (.sl 0) (.mat 30 43 (.leaf 3))]⟩)]⟩ .no) .no)) (.two (.two .no (.two (.cut ⟨⟨[0, 4, 5, 6, 7, 8, 19, 20, 108], [], [.s 109 (.dat (.int .i64)), .l (.sl 0) (.mat 30 43 (.leaf 3))]⟩, [(.exit 6, ⟨[0, 4, 5, 6, 7, 19, 20], [], [.l (.sl 0) (.mat 30 43 (.leaf 3))]⟩)]⟩ (.two (.two .no (.two .no (.two (.cut ⟨⟨[], [], []⟩, [(.norm, ⟨[0, 4, 5, 6, 7, 8, 19, 20, 108, 109], [], [.l (.sl 0) (.mat 30 43 (.leaf 3))]⟩)]⟩ (.two (.two .no (.two .no (.two (.two (.cut ⟨⟨[], [], []⟩, [(.norm, ⟨[0, 4, 5, 6, 7, 8, 12, 13, 19, 20, 108, 109], [], [.s 126 (.dat .bool)]⟩)]⟩ .no) .no) (.two .no (.two (.cut ⟨⟨[0, 4, 5, 6, 7, 8, 12, 13, 19, 20, 108, 109, 131], [], [.s 132 (.dat (.int .i64)), .l (.sl 0) (.mat 30 43 (.leaf 3))]⟩, [(.exit 8, ⟨[0, 4, 5, 6, 7, 8, 19, 20, 108, 109], [], [.l (.sl 0) (.mat 30 43 (.leaf 3))]⟩)]⟩ .no) .no))))) .no)) .no))) .no)) .no)) .no)))))))))) .no)) .no))) .no)) .no)) .no))))) [.slice (.slice (.leaf 3))] [.slice (.slice (.leaf 3)), .slice (.int .i64), .leaf 3] (m) = ZMf m := by kernel_rfl
theorem ZXn : Zk Tryz.prog ZNf.1 ZNf.2 := Zm (C := ⟨Tryz.prog, [(39, 0), (41, 2), (43, 3), (91, 1), (93, 4)], [ZQc, ZXc, Zmc, Zme, ZRc, Zki], [8], [ZOd], [], [((43, "Div"), 213), ((43, "Mul"), 30), ((43, "Neg"), 117), ((43, "Sub"), 71), ((43, "Zero"), 22)], []⟩) ⟨ZZi, Z1i, Zrh, Zok, Zij, Zks, trivial⟩ ⟨ZSl, trivial⟩ trivial ⟨Z6s, Zck, Zqm, ZGo, Zsn, trivial⟩ (inl := [(47, Tryz.f47, .cut ⟨⟨[], [], []⟩, [(.ret, ⟨[], [], [.s 1000 (.dat (.int .i64))]⟩)]⟩ .no), (95, Tryz.f95, .two .no (.two .no (.two (.two .no (.two (.cut ⟨⟨[3, 9, 10], [], [.s 11 (.dat (.int .i64)), .l (.sl 3) (.mat 30 43 (.leaf 3))]⟩, [(.exit 0, ⟨[3], [], [.l (.sl 3) (.mat 30 43 (.leaf 3))]⟩)]⟩ .no) .no)) .no)))]) ⟨⟨Tryz.func47, fun _ _ => by kernel_rfl⟩, ⟨Tryz.func95, fun _ _ => by kernel_rfl⟩, trivial⟩ (ann := (.two .no (.two .no (.two .no (.two .no (.two (.two .no (.two (.cut ⟨⟨[0, 4, 6, 19], [], [.s 5 (.own 3 (.int .i64)), .s 20 (.dat (.int .i64)), .l (.sl 0) (.mat 30 43 (.leaf 3)), .l (.sl 6) (.box 43 (.dat (.leaf 3)))]⟩, [(.exit 0, ⟨[0, 4, 6], [], [.s 5 (.own 3 (.int .i64)), .l (.sl 0) (.mat 30 43 (.leaf 3)), .l (.sl 6) (.box 43 (.dat (.leaf 3)))]⟩)]⟩ (.two (.two .no (.two .no (.two (.cut ⟨⟨[], [], []⟩, [(.norm, ⟨[0, 4, 6, 19, 20], [], [.s 5 (.own 3 (.int .i64)), .l (.sl 0) (.mat 30 43 (.leaf 3)), .l (.sl 6) (.box 43 (.dat (.leaf 3)))]⟩)]⟩ (.two (.two .no (.two .no (.two .no (.two (.two (.cut ⟨⟨[0, 4, 5, 6, 7, 8, 19, 20], [], [.s 9 (.dat (.int .i64))]⟩, [(.exit 2, ⟨[0, 4, 5, 6, 7, 8, 19, 20], [], [.s 9 (.dat (.int .i64))]⟩)]⟩ (.two (.two (.two (.cut ⟨⟨[], [], []⟩, [(.norm, ⟨[0, 4, 5, 6, 7, 8, 9, 19, 20], [], [.s 40 (.dat .bool)]⟩)]⟩ .no) .no) .no) .no)) .no) (.two .no (.two (.two .no (.cut ⟨⟨[], [], []⟩, [(.norm, ⟨[0, 4, 5, 6, 7, 8, 19, 20], [], [.l (.sl 0) (.mat 30 43 (.leaf 3)), .l (.sl 6) (.box 43 (.dat (.leaf 3)))]⟩)]⟩ .no)) (.two .no (.two .no (.two (.two .no (.two (.cut ⟨⟨[0, 4, 5, 6, 7, 8, 10, 19, 20, 83], [], [.s 84 (.dat (.int .i64)), .l (.sl 0) (.mat 30 43 (.leaf 3))]⟩, [(.exit 4, ⟨[0, 4, 5, 6, 7, 8, 19, 20], [], [.l (.sl 0) (.mat 30 43 (.leaf 3))]⟩)]⟩ .no) .no)) (.two (.two .no (.two (.cut ⟨⟨[0, 4, 5, 6, 7, 8, 19, 20, 108], [], [.s 109 (.dat (.int .i64)), .l (.sl 0) (.mat 30 43 (.leaf 3))]⟩, [(.exit 6, ⟨[0, 4, 5, 6, 7, 19, 20], [], [.l (.sl 0) (.mat 30 43 (.leaf 3))]⟩)]⟩ (.two (.two .no (.two .no (.two (.cut ⟨⟨[], [], []⟩, [(.norm, ⟨[0, 4, 5, 6, 7, 8, 19, 20, 108, 109], [], [.l (.sl 0) (.mat 30 43 (.leaf 3))]⟩)]⟩ (.two (.two .no (.two .no (.two (.two (.cut ⟨⟨[], [], []⟩, [(.norm, ⟨[0, 4, 5, 6, 7, 8, 12, 13, 19, 20, 108, 109], [], [.s 126 (.dat .bool)]⟩)]⟩ .no) .no) (.two .no (.two (.cut ⟨⟨[0, 4, 5, 6, 7, 8, 12, 13, 19, 20, 108, 109, 131], [], [.s 132 (.dat (.int .i64)), .l (.sl 0) (.mat 30 43 (.leaf 3))]⟩, [(.exit 8, ⟨[0, 4, 5, 6, 7, 8, 19, 20, 108, 109], [], [.l (.sl 0) (.mat 30 43 (.leaf 3))]⟩)]⟩ .no) .no))))) .no)) .no))) .no)) .no)) .no)))))))))) .no)) .no))) .no)) .no)) .no)))))) Tryz.func44 (fun _ _ => by kernel_rfl) rfl (fun v vals x z ha hz => (Z5t x).trans hz)
end Go.Eng
set_option maxRecDepth 100000
set_option maxHeartbeats 4000000
namespace Go.Eng
open Go.Proofs Go.RowKit
noncomputable def Zei:FuncId×Con:=(11,⟨[.slice (.slice (.leaf 3))],[.slice (.slice (.leaf 3)),.slice (.int .i64),.int .i64],fun p=>ZUi p⟩)
theorem ZDv (m:List (List Rat)):Zl ⟨Tryz.prog,[(39,0),(41,2),(43,3),(91,1),(93,4)],[Zsc,ZNf],[],[],[],[],[]⟩ [] Tryz.f11 .no [.slice (.slice (.leaf 3))] [.slice (.slice (.leaf 3)),.slice (.int .i64),.int .i64] (m)=ZUi m:=by kernel_rfl
theorem Zos:Zk Tryz.prog Zei.1 Zei.2:=Zm (C:=⟨Tryz.prog,[(39,0),(41,2),(43,3),(91,1),(93,4)],[Zsc,ZNf],[],[],[],[],[]⟩) ⟨ZKh,ZXn,trivial⟩ trivial trivial trivial (inl:=[]) trivial (ann:=.no) Tryz.func11 (fun _ _=>by kernel_rfl) rfl (fun v vals x z ha hz=>(ZDv x).trans hz)
end Go.Eng
set_option maxRecDepth 100000
set_option maxHeartbeats 4000000
namespace Go.Eng
open Go.Proofs Go.RowKit
noncomputable def ZWm:FuncId×Con:=(96,⟨[.slice (.int .i64),.int .i64],[.int .i64],fun p=>Zto p.1 p.2⟩)
theorem Zcy (l:(List Int)) (v:Int):Zl ⟨Tryz.prog,[(39,0),(41,2),(43,3),(91,1),(93,4)],[],[],[],[],[],[]⟩ [] Tryz.f96 (.two .no (.two (.two .no (.cut ⟨⟨[],[],[]⟩,[(.norm,⟨[],[],[]⟩),(.ret,⟨[],[],[.s 1000 (.dat (.int .i64))]⟩)]⟩ (.two (.cut ⟨⟨[0,1,7],[],[.s 8 (.dat (.int .i64))]⟩,[(.ret,⟨[],[],[.s 1000 (.dat (.int .i64))]⟩),(.exit 0,⟨[],[],[]⟩)]⟩ .no) .no))) .no)) [.slice (.int .i64),.int .i64] [.int .i64] (l,v)=Zto l v:=by kernel_rfl
theorem ZQz:Zk Tryz.prog ZWm.1 ZWm.2:=Zm (C:=⟨Tryz.prog,[(39,0),(41,2),(43,3),(91,1),(93,4)],[],[],[],[],[],[]⟩) trivial trivial trivial trivial (inl:=[]) trivial (ann:=.two .no (.two (.two .no (.cut ⟨⟨[],[],[]⟩,[(.norm,⟨[],[],[]⟩),(.ret,⟨[],[],[.s 1000 (.dat (.int .i64))]⟩)]⟩ (.two (.cut ⟨⟨[0,1,7],[],[.s 8 (.dat (.int .i64))]⟩,[(.ret,⟨[],[],[.s 1000 (.dat (.int .i64))]⟩),(.exit 0,⟨[],[],[]⟩)]⟩ .no) .no))) .no)) Tryz.func96 (fun _ _=>by kernel_rfl) rfl fun v vals x z ha hz=>(Zcy x.1 x.2).trans (hz)
end Go.Eng
set_option maxRecDepth 100000
set_option maxHeartbeats 4000000
namespace Go.Eng
open Go.Proofs Go.RowKit
noncomputable def Zyl:FuncId×Con:=(48,⟨[.slice (.int .i64),.int .i64],[.bool],fun p=>Zgp p.1 p.2⟩)
theorem Zqv (l:(List Int)) (v:Int):Zl ⟨Tryz.prog,[(39,0),(41,2),(43,3),(91,1),(93,4)],[ZWm],[],[],[],[],[]⟩ [] Tryz.f48 .no [.slice (.int .i64),.int .i64] [.bool] (l,v)=Zgp l v:=by kernel_rfl
theorem ZZu:Zk Tryz.prog Zyl.1 Zyl.2:=Zm (C:=⟨Tryz.prog,[(39,0),(41,2),(43,3),(91,1),(93,4)],[ZWm],[],[],[],[],[]⟩) ⟨ZQz,trivial⟩ trivial trivial trivial (inl:=[]) trivial (ann:=.no) Tryz.func48 (fun _ _=>by kernel_rfl) rfl fun v vals x z ha hz=>(Zqv x.1 x.2).trans (hz)
noncomputable def ZYm (x:Int) (y:Int):Option (Int×Int) :=
 bnd (ZEc x y) fun a =>
 some ((a.1,a.2))
end Go.Eng
namespace Go.Eng
open Go.Proofs Go.RowKit
theorem bmul_w {c:World} {a:Zb} (hv:VIn a c) {d:List Value} {x:Int} (i:Rep.rel (Zd .u64) a d x) {e:List Value} {y:Int} (j:Rep.rel (Zd .u64) a e y) {z:Int×Int} (H:ZYm x y=some z):Ret Tryz.prog 139 #[(Zd .u64).val d,(Zd .u64).val e] c a (fun y v'=>∃ g b,y = .tuple #[(Zd .u64).val g,(Zd .u64).val b]∧(Zd .u64).rel v' g z.1∧(Zd .u64).rel v' b z.2):=by
 obtain ⟨rfl,b⟩:=i;obtain ⟨rfl,k⟩:=j;refine Z3b (K:=30) (args:=[.int .u64 x,.int .u64 y]) hv Tryz.func139 rfl rfl zl fun f S=>?_;unfold ZYm at H;refine sr (mw S rfl fun f S=>mw S rfl fun f S=>oe (Zo fun _ l=>ZU S rfl rfl (wp_skip (Zh (l _ _ (Zo fun _ m=>bO H fun h n H=>Zw (mv S rfl fun f S=>mv S rfl fun f S=>opc S rfl (Zea S [.int .u64 x,.int .u64 y] Zkp rfl rfl) (Z1p S.vin (show Rep.rel (Zd .u64) _ [.int .u64 x] x from (ZE b)) (show Rep.rel (Zd .u64) _ [.int .u64 y] y from (ZE k)) n) ?_)))))));rintro _ s f w t ⟨u,v,rfl,o,p⟩ S;obtain ⟨rfl,q⟩:=o;obtain ⟨rfl,r⟩:=p;refine mv S rfl fun f S=>ov S rfl (ZJa S rfl rfl) fun f S=>ov S rfl (ZJa S rfl rfl) fun f S=>mw S rfl fun f S=>mw S rfl fun f S=>Zt (Zh (m _ _ (sr (mv S rfl fun f S=>mv S rfl fun f S=>mw S rfl fun f S=>mw S rfl fun f S=>oe (wp_ret ?_)))));obtain rfl:=Zp H;refine ZQa S (ZGf rfl (Z0 S rfl) (Z0 S rfl)) ⟨[.int .u64 (h.1)],[.int .u64 (h.2)],rfl,(ZE q),(ZE r)⟩
end Go.Eng
