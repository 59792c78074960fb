/- Lemmas towards the statement: the engine of the walks, the functions' models, laws and walks, part 5. Conditions: as each states. -/
import Derived.Test.YteieminegehfdaaGreatDeD
set_option linter.all false
set_option maxRecDepth 100000
namespace Go.Eng
theorem CD.cols {K R n n':Nat} {M M':Mx} (h:CD K R n M) (hn:n'≤n) (e:∀ i j,i<R→j<n'→M' i j=M i j):CD K R n' M':=by
 obtain⟨D,d0,d1,d2⟩:=h;exact⟨D,d0,d1,λi j hi hj=>by rw[e i j hi hj];exact d2 i j hi (by omega)⟩
theorem rDot_ok {k m n:Nat} {f g:Nat→Rat} (hf:∀ j,j<n→sz k (f j)) (hg:∀ j,j<n→sz m (g j)) (hn:n≤1000) (hk:(n+1)*(k+m+1)≤300000000):Zee (vx n λj=>wq (f j)) (vx n λj=>wq (g j))=some (wq (sm n λj=>f j*g j)):=by
 unfold Zee;rw[Zbg,Za,Zw];refine Zq (Zv (λq=>((q:Int),wq (sm q λj=>f j*g j))) n rfl (by omega) (λq hq=>?_) ?_) rfl
 ·have z1:=Zxa (hf q hq) (hg q hq);have z2:sz (q*(k+m+1)+1) (sm q λj=>f j*g j):=Ztk λj hj=>Zxa (hf j (by omega)) (hg j (by omega));have z3:q*(k+m+1)≤n*(k+m+1):=mR _ (by omega);rw[Nat.succ_mul]at hk;simp only;rw[dTq (by omega),Ze,ZBa _ hq,Za,ZBa _ hq,Za,wMul_wq (hf q hq) (hg q hq) (by omega),Za,wAdd_wq z2 z1 (by omega),Za,Zi (by omega) (by omega),Za];rfl
 ·simp only;rw[dFq (by omega),Zd]
theorem Z7x {k m R n:Nat} {M:Mx} {x:Nat→Rat} (hM:∀ i j,i<R→j<n→sz k (M i j)) (hx:∀ j,j<n→sz m (x j)) (hR:R≤1000) (hn:n≤1000) (hk:(n+1)*(k+m+1)≤300000000) :
  ZTj (mxW R n M) (vx n λj=>wq (x j))=some (vx R λi=>wq (sm n λj=>M i j*x j)):=by
 unfold ZTj;refine Zq (Zv (λi=>(vx i (λi=>wq (sm n λj=>M i j*x j)),(i:Int))) R rfl (by omega) (λi hi=>?_) ?_) rfl
 ·simp only[Zza];rw[dTq (by omega),Ze,ZCa _ hi,Za,rDot_ok (λj hj=>hM i j hi hj) hx hn hk,Za,ZBb i (λi=>wq (sm n λj=>M i j*x j)),Z6 (by rw[Zw];omega),Za,Zi (by omega) (by omega),Za];rfl
 ·simp only[Zza];rw[dFq (by omega),Zd]
theorem Zen {r n:Nat} (hr:r≤1000) (hn:n≤1000):ZPd (r:Int) (n:Int)=some (mxW r n λ_ _=>0):=by
 unfold ZPd;rw[ZAd (by omega) (by omega),Za];refine Zq (Zv (λk=>((k:Int),vx r λi=>if i<k then vx n (λ_=>wq 0) else [])) r ?_ (by omega) (λk hk=>?_) ?_) rfl
 ·simp only[tN,Zvf];exact Prod.ext rfl (ZG λi hi=>iN (by omega))
 ·simp only;rw[dTq (by omega),Ze];refine Zq (y:=vx r λi=>if i<k+1 then vx n (λ_=>wq 0) else []) (Zv (λj=>((j:Int),vx r λi=>if i<k then vx n (λ_=>wq 0) else if i=k then vx j (λ_=>wq 0) else [])) n ?_ (by omega) (λj hj=>?_) ?_) ?_
  ·refine Prod.ext rfl (ZG λi hi=>?_);by_cases e:i<k
   ·rw[iP e,iP e]
   ·rw[iN e,iN e];split <;> rfl
  ·simp only;rw[dTq (by omega),Ze,ZF _ hk,Za,Zbg,Za,iN (by omega),iP rfl,ZBb j (λ_=>wq 0),Z6 (by rw[Zw];omega),Za,Za,Z6c,Za,Zi (by omega) (by omega),Za];simp only[tN];rw[Zea];refine congrArg (λx=>some (Sum.inl x)) (Prod.ext (by simp) (ZG λi hi=>?_));by_cases e:i=k
   ·rw[iP e,iN (by omega),iP e]
   ·rw[iN e];by_cases e2:i<k
    ·rw[iP e2,iP e2]
    ·rw[iN e2,iN e2,iN e,iN e]
  ·simp only;rw[dFq (by omega),Zd];refine congrArg (λx=>some (Sum.inr x)) (ZG λi hi=>?_);by_cases e:i<k
   ·rw[iP e,iP (by omega)]
   ·rw[iN e];by_cases e2:i=k
    ·rw[iP e2,iP (by omega)]
    ·rw[iN e2,iN (by omega)]
  ·rw[Zi (by omega) (by omega),Za];rfl
 ·simp only;rw[dFq (by omega),Zd];exact congrArg (λx=>some (Sum.inr x)) (ZG λi hi=>iP hi)
theorem Z3z {R n:Nat} {M:Mx} (h0:R=0→n=0) (hR:R≤32) (hn:n≤32):ZEl (mxW R n M)=some (mxW n R λj i=>M i j,0):=by
 unfold ZEl;rw[Zui _ (by rw[Zza];omega),dTq (Ztj M h0 hR hn),Za,Z6b,ZGh,ZAf M h0,Za,Zza,Zen (by omega) (by omega),Za];refine Zq (Zv (λk=>((k:Int),mxW n R λj i=>if i<k then M i j else 0)) R ?_ (by omega) (λk hk=>?_) ?_) rfl
 ·exact Prod.ext rfl (Zec λj hj i hi=>(iN (by omega)))
 ·simp only;rw[dTq (by omega),Ze];refine Zq (y:=mxW n R λj i=>if i<k+1 then M i j else 0) (Zv (λl=>((l:Int),mxW n R λj i=>if i<k∨(i=k∧j<l) then M i j else 0)) n ?_ (by omega) (λl hl=>?_) ?_) ?_
  ·refine Prod.ext rfl (Zec λj hj i hi=>?_);by_cases e:i<k
   ·rw[iP (.inl e),iP e]
   ·rw[iN (by omega),iN e]
  ·simp only;rw[Za,dTq (by omega),Ze,ZCa _ hl,Za,ZCa _ hk,Za,ZBa _ hl,Za,Zyq,Za,ZBa _ hk,Za,Zi (by omega) (by omega),Za];simp only[tN];rw[ZEj];refine congrArg (λx=>some (Sum.inl x)) (Prod.ext (by simp) (Zec λj hj i hi=>?_));by_cases e:j=l
   ·rw[iP e];by_cases e2:i=k
    ·rw[iP e2,iP (.inr ⟨e2,by omega⟩),e,e2]
    ·rw[iN e2];by_cases e3:i<k
     ·rw[iP (.inl e3),iP (.inl e3),e]
     ·rw[iN (by omega),iN (by omega)]
   ·rw[iN e];by_cases e3:i<k∨(i=k∧j<l)
    ·rw[iP e3,iP (by omega)]
    ·rw[iN e3,iN (by omega)]
  ·simp only;rw[Za,dFq (by omega),Zd];refine congrArg (λx=>some (Sum.inr x)) (Zec λj hj i hi=>?_);by_cases e3:i<k+1
   ·rw[iP (by omega),iP e3]
   ·rw[iN (by omega),iN e3]
  ·rw[Zi (by omega) (by omega),Za];rfl
 ·simp only;rw[dFq (by omega),Zd];exact congrArg (λx=>some (Sum.inr x)) (Zec λj hj i hi=>iP hi)
def fr (n:Nat) (piv:List Nat) (i:Nat):Nat:=(ZC piv n).getD i 0
def bs (n:Nat) (M':Mx) (piv:List Nat) (c:Nat→Rat) (i:Nat):Rat:=sm n λj=>c j*kv M' piv (fr n piv i) j
theorem Zaj {piv:List Nat} {n i:Nat} (hi:i<(ZC piv n).length):fr n piv i<n:=by
 have hg:fr n piv i=(ZC piv n)[i]:=by simp[fr,List.getD_eq_getElem?_getD,hi]
 rw[hg];have:=List.getElem_mem hi;unfold ZC at this;exact List.mem_range.1 (List.mem_filter.1 this).1
theorem Z3t (piv:List Nat) (n:Nat):(ZC piv n).length≤n:=by unfold ZC;exact Nat.le_trans (List.length_filter_le _ _) (by simp)
theorem CD.toW {δ m K R n:Nat} {M:Mx} (h:CD K R n M):CdW δ m K R n M:=λj hj=>by
 obtain⟨D,h0,h1,h2⟩:=h
 have hp:2^K≤2^(K+if j<m then 0 else δ):=Nat.pow_le_pow_right (show 0<2 by omega) (by omega)
 exact⟨D,h0,Nat.lt_of_lt_of_le h1 hp,λi hi=>by
  obtain⟨N,h3,h4⟩:=h2 i j hi hj
  exact⟨N,h3,Nat.lt_of_lt_of_le h4 hp⟩⟩
theorem kvW_sz {δ m K R n:Nat} {M':Mx} {piv:List Nat} (hC:CdW δ m K R n M') (hK:1≤K) (hpl:piv.length≤R) {j:Nat} (hj:j<n) (d:Nat):sz (K+δ) (kv M' piv j d):=by
 unfold kv;split
 ·exact ZKf.mono (by omega)
 ·split
  ·rename_i q hq;unfold List.idxOf? at hq;obtain⟨h5,_⟩:=List.findIdx?_eq_some_iff_getElem.1 hq;exact ZLg (hC.sz (by omega) hj)
  ·exact ZH.mono (by omega)
theorem pvW_sz {δ m K R n:Nat} {M':Mx} {piv:List Nat} (hC:CdW δ m K R (n+1) M') (hK:1≤K) (hpl:piv.length≤R) (d:Nat):sz (K+δ) (pv M' piv n d):=by
 unfold pv;split
 ·rename_i q hq;unfold List.idxOf? at hq;obtain⟨h5,_⟩:=List.findIdx?_eq_some_iff_getElem.1 hq;exact hC.sz (by omega) (by omega)
 ·exact ZH.mono (by omega)
theorem ZAx {K n a b:Nat} {v:Nat→Rat} (ha:a<n) (hb:b<n) (hv:∀ j,j<n→sz K (v j)) (hK:1≤K):∀ q,q≤n→sz (2*K+1) (sm q λj=>ctr a b j*v j):=λq hq=>by
 have e:sm q (λj=>ctr a b j*v j)=(if a<q then v a else 0)-(if b<q then v b else 0):=by
  have one:∀ p,sm q (λj=>ind p j*v j)=if p<q then v p else 0:=λp=>by
   by_cases h:p<q
   ·rw[iP h,ZEd h]
   ·rw[iN h];exact Zvc λj hj=>by
     unfold ind;rw[iN (by omega)];grind
  rw[← one a,← one b,← Zqh];exact ZR λj hj=>by unfold ctr;grind
 have z:∀ p,p<n→sz K (if p<q then v p else 0):=λp hp=>by
  split
  ·exact hv p hp
  ·exact ZH.mono hK
 rw[e];exact (Zxm (z a ha) (z b hb)).mono (by omega)
theorem Z9q {K n a b:Nat} {v:Nat→Rat} (ha:a<n) (hb:b<n) (hn:n≤1000) (hv:∀ j,j<n→sz K (v j)) (hK:1≤K) (hk:K≤10000000000):Zee (vx n λj=>wq (ctr a b j)) (vx n λj=>wq (v j))=some (wq (sm n λj=>ctr a b j*v j)):=by
 unfold Zee;rw[Zbg,Za,Zw];refine Zq (Zv (λq=>((q:Int),wq (sm q λj=>ctr a b j*v j))) n rfl (by omega) (λq hq=>?_) ?_) rfl
 ·have z1:=Zxa (ZHi a b q) (hv q hq);have z2:=ZAx ha hb hv hK q (by omega);simp only;rw[dTq (by omega),Ze,ZBa _ hq,Za,ZBa _ hq,Za,Zgk (ZHi a b q) (hv q hq) (by omega),Za,Znr z2 z1 (by omega),Za,Zi (by omega) (by omega),Za];rfl
 ·simp only;rw[dFq (by omega),Zd]
theorem Z7v {r R n K:Nat} {M:Mx} (h0:R=0→n=0) (hR:R≤32) (hn:n≤32) (hK:1≤K) (hz:CD K R n M) (hr:∀ k N piv,k≤n→Eli R n M N piv k→piv.length≤r) (hk:8*kk K r≤38000000000) :
  ∃ M' piv,Eli R n M M' piv n∧CdW 0 n (kk K r) R n M'∧ZWl (mxW R n M)=some ((ZC piv n).map (λj=>vx n λd=>wq (kv M' piv j d)),0):=by
 obtain⟨z,h1,M',piv,rfl,h2,h3⟩:=ZOr (δ:=0) (m:=n) (Nat.le_refl n) (Nat.le_refl n) (show R≤1000 by omega) (by omega) hK hz.toW hr (by omega);refine⟨M',piv,h2,h3,?_⟩;have pl:=Zch h2.inc h2.lt;have pR:=h2.le;unfold ZWl;rw[Zui _ (by rw[Zza];omega),dTq (Ztj M h0 hR hn),Za,Z6b,ZGh,ZAf M h0,Za,h1,Za];refine Zq (Zv (λk=>((ZC piv k).map (λj=>vx n λd=>wq (kv M' piv j d)),(k:Int))) n rfl (by omega) (λk hkn=>?_) ?_) rfl
 ·simp only;rw[dTq (by omega),Ze];refine Zq (y:=(ZC piv (k+1)).map (λj=>vx n λd=>wq (kv M' piv j d))) ?_ ?_
  ·have ef:ZC piv (k+1)=ZC piv k++if k ∈ piv then [] else [k]:=by
    unfold ZC;rw[List.range_succ,List.filter_append];by_cases e:k ∈ piv <;> simp[e]
   refine Zq (y:=decide (k ∈ piv)) (Zv (λq=>(decide (k ∈ piv.take q),(q:Int))) piv.length rfl (by omega) (λq hq=>?_) ?_) ?_
   ·simp only[Zkb];have hc:piv[q]? = some piv[q]:=List.getElem?_eq_getElem hq;rw[dTq (show (q:Int)<(piv.length:Int) by omega),Ze];have ht:piv.take (q+1)=piv.take q++[piv[q]]:=by rw[List.take_succ,hc];rfl
    refine Zq (y:=decide (k ∈ piv.take (q+1))) ?_ ?_
    ·by_cases e:k ∈ piv.take q
     ·rw[dTq e,Ze,dTq (p:=k ∈ piv.take (q+1)) (by rw[ht];exact List.mem_append_left _ e)]
     ·rw[dFq e,Zd,Zxg hc,Za,ht];refine congrArg some ?_;rw[Bool.eq_iff_iff];simp only[beq_iff_eq,decide_eq_true_eq,List.mem_append,e,false_or,List.mem_singleton];omega
    ·rw[Zi (by omega) (by omega),Za];rfl
   ·simp only[Zkb];rw[dFq (show ¬ (piv.length:Int)<(piv.length:Int) by omega),Zd,List.take_length]
   by_cases hm:k ∈ piv
   ·rw[dTq hm,Ze,ef,iP hm,List.append_nil]
   ·rw[dFq hm,Zd,rEmpty1 (by omega),Za,show (0:Int)=((0:Nat):Int) from rfl,Zu (show 0<[vx n λ_=>wq 0].length by simp),Za,ZWy,Za];simp only[List.getElem_cons_zero];rw[ZF _ hkn,Za];simp only[tN];refine Zq (y:=vx n λd=>wq (kv M' piv k d)) (Zv (λi=>((i:Int),vx n λd=>wq (if d=k then 1 else match piv.idxOf? d with
     | some q=>if q<i then-M' q k else 0
     | none=>0))) piv.length ?_ (by omega) (λi hip=>?_) ?_) ?_
    ·rw[Zea];refine Prod.ext rfl (ZG λd hd=>?_);by_cases e:d=k
     ·rw[iP e,iP e]
     ·rw[iN e,iN e];refine congrArg wq ?_;split
      ·rw[iN (by omega)]
      ·rfl
    ·have hc:piv[i]? = some piv[i]:=List.getElem?_eq_getElem hip;have hcn:piv[i]<n:=h2.lt _ (mG hc);simp only[Zkb];rw[dTq (by omega),Ze,Zxg hc,Za,ZCa _ (by omega),Za,ZBa _ hkn,Za,Z9x (h3.sz (show i<R by omega) hkn) (by omega),Za,ZBa _ hcn,Za,Zi (by omega) (by omega),Za];simp only[tN];rw[Zea];refine congrArg (λx=>some (Sum.inl x)) (Prod.ext (by simp) (ZG λd hd=>?_));by_cases e:d=piv[i]
     ·have hne:d≠k:=λe2=>hm (by rw[← e2,e];exact mG hc);rw[iP e,iN hne,e,ZCh h2.inc hc];simp
     ·rw[iN e];by_cases e1:d=k
      ·rw[iP e1,iP e1]
      ·rw[iN e1,iN e1];refine congrArg wq ?_
       cases hx:piv.idxOf? d with
       | none=>rfl
       | some q =>
        have:q≠i:=λe2=>by
         subst e2;unfold List.idxOf? at hx;obtain⟨_,h6,_⟩:=List.findIdx?_eq_some_iff_getElem.1 hx;simp at h6;exact e h6.symm
        simp only;by_cases e3:q<i
        ·rw[iP e3,iP (by omega)]
        ·rw[iN e3,iN (by omega)]
    ·simp only[Zkb];rw[dFq (by omega),Zd];refine congrArg (λx=>some (Sum.inr x)) (ZG λd hd=>congrArg wq ?_);unfold kv;by_cases e:d=k
     ·rw[iP e,iP e]
     ·rw[iN e,iN e]
      cases hx:piv.idxOf? d with
      | none=>rfl
      | some q =>
       unfold List.idxOf? at hx;obtain⟨h5,_⟩:=List.findIdx?_eq_some_iff_getElem.1 hx;simp only;rw[iP h5]
    ·have hfl:(ZC piv k).length≤k:=by unfold ZC;exact Nat.le_trans (List.length_filter_le _ _) (by simp)
     rw[Z6 (by simp;omega),Za,ef,iN hm,List.map_append];rfl
  ·rw[Zi (by omega) (by omega),Za];rfl
 ·simp only;rw[dFq (by omega),Zd]
theorem rAny_w {δ r R n K:Nat} {M:Mx} {b:Nat→Rat} (h0:0<R) (hR:R≤32) (hn:n≤32) (hK:1≤K) (hz:CdW δ n K R (n+1) (aug n M b)) (hr:∀ k N piv,k≤n→Eli R (n+1) (aug n M b) N piv k→piv.length≤r) (hk:8*kk K r+2*δ≤39000000000) :
    ∃ M' piv,Eli R (n+1) (aug n M b) M' piv (n+1)∧(n ∉ piv→CdW δ n (kk K r) R (n+1) M')∧ZNg (mxW R n M) (vx R λi=>wq (b i))=some (if n ∈ piv then ([],5) else (vx n λd=>wq (pv M' piv n d),0)):=by
  obtain⟨z,h1,M',piv,rfl,h2,h3⟩:=ZOr (Nat.le_succ n) (Nat.le_refl n) (show R≤1000 by omega) (by omega) hK hz hr hk;have hh0:R=0→n=0:=λe=>by omega
  have pl:=Zch h2.inc h2.lt;have pR:=h2.le;have hwide:∀ (f:List (List WR)→Option (List WR×Int)),bnd (Zh (σ:=(List (List WR))×Int) (ρ:=List (List WR)) (λs4 =>
    ifb (decide (s4.2<((mxW R n M).length:Int)))
    (bnd (idx (mxW R n M) s4.2) λy5 =>
     bnd (Zy 448 (([]:List WR)++y5)) λ_ =>
     bnd (idx (vx R λi=>wq (b i)) s4.2) λy6 =>
     bnd (Zy 448 ((([]:List WR)++y5)++[y6])) λ_ =>
     bnd (Zy 24 (s4.1++[(([]:List WR)++y5)++[y6]])) λ_ =>
     bnd (chk .i64 (s4.2+(1:Int))) λy7 =>
     some (.inl (s4.1++[(([]:List WR)++y5)++[y6]],y7)))
    (some (.inr s4.1)))
   Zj (([]:List (List WR)),(0:Int))) f=f (mxW R (n+1) (aug n M b)):=λf=>by
    have row:∀ i,(vx n λj=>wq (M i j))++[wq (b i)]=vx (n+1) λj=>wq (aug n M b i j):=λi=>by
      rw[← ZBb];unfold aug;rw[iP rfl];congr 1;exact ZG λj hj=>by rw[iN (by omega)]
    refine Zq (Zv (λk=>(vx k λi=>vx (n+1) λj=>wq (aug n M b i j),(k:Int))) R rfl (by omega) (λk hk=>?_) ?_) rfl
    · simp only;rw[Zza,dTq (by omega),Ze,ZCa _ hk,Za,List.nil_append,Z6 (by rw[Zw];omega),Za,ZBa _ hk,Za,row k,Z6 (by rw[Zw];omega),Za,ZBb k (λi=>vx (n+1) λj=>wq (aug n M b i j)),Z6 (by rw[Zw];omega),Za,Zi (by omega) (by omega),Za];rfl
    · simp only;rw[Zza,dFq (by omega),Zd];rfl
  have pre:∀ (f:Bool→Option (List WR×Int)),bnd (α:=Bool) (bnd (Zzd (mxW R n M)) λy1=>ifb (!y1) (some true) (some (((vx R λi=>wq (b i)).length:Int) != ((mxW R n M).length:Int)))) f=f false:=λf=>by
    rw[Zui _ (by rw[Zza];omega),dTq (Ztj M hh0 hR hn),Za,Z6b,Zw,Zza,show ((R:Int) != (R:Int))=false by simp,Za]
  rcases Zvh (λi=>piv.length≤i→M' i n=0) R with hall | ⟨p,pR',hp,hbef⟩
  · have E:=h2.skip λi g1 g2=>hall i g2 g1;have hnp:n ∉ piv:=λhm=>by have:=h2.lt n hm;omega
    refine⟨M',piv,E,λ_=>h3,?_⟩;rw[iN hnp];unfold ZNg;rw[pre,Zd,ZGh,ZAf M hh0,Za,hwide,h1,Za];simp only[Zkb];refine Zq (y:=.inl ()) (Zv (λq=>((piv.length+q:Nat):Int)) (R-piv.length) rfl (by omega) (λq hq=>?_) ?_) ?_
    · rw[Zza,dTq (by omega),Ze,ZCa _ (by omega),Za,ZBa _ (by omega),Za,ZFf,Za,dTq (hall _ (by omega) (by omega)),Z6b,Zi (by omega) (by omega),Za];rfl
    · rw[Zza,dFq (by omega),Zd]
    · refine Zq (y:=vx n λ_=>wq 0) (Zv (λq=>(vx q λ_=>wq 0,(q:Int))) n rfl (by omega) (λq hq=>?_) ?_) ?_
      · simp only;rw[dTq (by omega),Ze,Zbg,Za,ZBb q (λ_=>wq 0),Z6 (by rw[Zw];omega),Za,Zi (by omega) (by omega),Za];rfl
      · simp only;rw[dFq (by omega),Zd]
      · refine Zq (Zv (λk=>((k:Int),vx n λd=>wq (match piv.idxOf? d with
          | some i=>if i<k then M' i n else 0
          | none=>0))) piv.length ?_ (by omega) (λk hkp=>?_) ?_) rfl
        · refine Prod.ext rfl (ZG λi hi=>congrArg wq ?_);split
          · rw[iN (by omega)]
          · rfl
        · have hc:piv[k]? = some piv[k]:=List.getElem?_eq_getElem hkp;have hcn:piv[k]<n:=h2.lt _ (mG hc);simp only;rw[dTq (by omega),Ze,Zxg hc,Za,ZCa _ (by omega),Za,ZBa _ (by omega),Za,ZBa _ hcn,Za,Zi (by omega) (by omega),Za];simp only[tN];rw[Zea];refine congrArg (λx=>some (Sum.inl x)) (Prod.ext (by simp) (ZG λi hi=>?_));by_cases e:i=piv[k]
          · rw[iP e,e,ZCh h2.inc hc];simp
          · rw[iN e];refine congrArg wq ?_
            cases hx:piv.idxOf? i with
            | none=>rfl
            | some q =>
              have:q≠k:=λe2=>by
                subst e2;unfold List.idxOf? at hx;obtain⟨_,h6,_⟩:=List.findIdx?_eq_some_iff_getElem.1 hx;simp at h6;exact e h6.symm
              simp only;by_cases e3:q<k
              · rw[iP e3,iP (by omega)]
              · rw[iN e3,iN (by omega)]
        · simp only;rw[dFq (by omega),Zd];refine congrArg (λx=>some (Sum.inr x)) (ZG λi hi=>congrArg wq ?_);unfold pv
          cases hx:piv.idxOf? i with
          | none=>rfl
          | some q =>
            unfold List.idxOf? at hx;obtain⟨h5,_⟩:=List.findIdx?_eq_some_iff_getElem.1 hx;simp only;rw[iP h5]
  · have hpl:piv.length≤p:=Classical.byContradiction λe=>hp λh=>absurd h e;have hpn:M' p n≠0:=λe=>hp λ_=>e;refine⟨_,_,h2.step (ZPe hpl pR' (Nat.lt_succ_self n) hpn),λh=>absurd (List.mem_append_right _ (List.mem_singleton.2 rfl)) h,?_⟩;rw[iP (by simp)];unfold ZNg;rw[pre,Zd,ZGh,ZAf M hh0,Za,hwide,h1,Za];simp only[Zkb];refine Zq (y:=.inr ([],5)) (Zv (λq=>((piv.length+q:Nat):Int)) (p-piv.length) rfl (by omega) (λq hq=>?_) ?_) rfl
    · rw[Zza,dTq (by omega),Ze,ZCa _ (by omega),Za,ZBa _ (by omega),Za,ZFf,Za,dTq (hbef _ (by omega) (by omega)),Z6b,Zi (by omega) (by omega),Za];rfl
    · rw[show piv.length+(p-piv.length)=p by omega,Zza,dTq (by omega),Ze,ZCa _ pR',Za,ZBa _ (by omega),Za,ZFf,Za,dFq hpn,ZKh]
theorem Zlv {δ r K R n k:Nat} {M:Mx} {w:Nat→Rat} (h00:R=0→n=0) (hn0:0<n) (hR:R≤32) (hn:n≤32) (hM:∀ i j,i<R→j<n→sz 64 (M i j)) (hk:k≤900) (hw:∀ i,i<R→sz k (w i)) (hK:1≤K) (hCa:CdW δ n K n (n+1) (aug n (nmM R M) (nmB R M w))) (hr:∀ k N piv,k≤n→Eli n (n+1) (aug n (nmM R M) (nmB R M w)) N piv k→piv.length≤r) (hkk:8*kk K r+2*δ≤39000000000) :
    ∃ y,Sol n n (nmM R M) (nmB R M w) y∧(∀ j,j<n→sz (kk K r+δ) (y j))∧Zxj (mxW R n M) (vx R λi=>wq (w i))=some (vx n λj=>wq (y j)):=by
  unfold Zxj;rw[Z3z h00 (by omega) (by omega),Za];simp only[Zza];have hsq:∀ (f:List (List WR)→Option (List WR)),bnd (Zh (σ:=(List (List WR))×Int) (ρ:=List (List WR)) (λs2 =>
   ifb (decide (s2.2<(n:Int)))
   (bnd (Zh (σ:=(List WR)×Int) (ρ:=List WR) (λs3 =>
      ifb (decide (s3.2<(n:Int)))
      (bnd Z4d λy4 =>
       bnd (Zh (σ:=Int×WR) (ρ:=WR) (λs5 =>
         ifb (decide (s5.1<(R:Int)))
         (bnd (idx (mxW n R λj i=>M i j) s2.2) λy6 =>
          bnd (idx y6 s5.1) λy7 =>
          bnd (idx (mxW R n M) s5.1) λy8 =>
          bnd (idx y8 s3.2) λy9 =>
          bnd (ZId y7 y9) λy10 =>
          bnd (Z9e s5.2 y10) λy11 =>
          bnd (chk .i64 (s5.1+(1:Int))) λy12 =>
          some (.inl (y12,y11)))
         (some (.inr s5.2)))
        Zj ((0:Int),y4)) λx13 =>
       bnd (Zy 448 (s3.1++[x13])) λ_ =>
       bnd (chk .i64 (s3.2+(1:Int))) λy14 =>
       some (.inl (s3.1++[x13],y14)))
      (some (.inr s3.1)))
     Zj (([]:List WR),(0:Int))) λx15 =>
    bnd (Zy 24 (s2.1++[x15])) λ_ =>
    bnd (chk .i64 (s2.2+(1:Int))) λy16 =>
    some (.inl (s2.1++[x15],y16)))
   (some (.inr s2.1)))
  Zj (([]:List (List WR)),(0:Int))) f=f (mxW n n (nmM R M)):=λf=>by
    refine Zq (Zv (λi=>(vx i λi=>vx n λj=>wq (nmM R M i j),(i:Int))) n rfl (by omega) (λi hi=>?_) ?_) rfl
    · simp only;rw[dTq (by omega),Ze];refine Zq (y:=vx n λj=>wq (nmM R M i j)) (Zv (λj=>(vx j λj=>wq (nmM R M i j),(j:Int))) n rfl (by omega) (λj hj=>?_) ?_) ?_
      · simp only;rw[dTq (by omega),Ze,Zbg,Za];refine Zq (y:=wq (nmM R M i j)) (Zv (λq=>((q:Int),wq (sm q λl=>M l i*M l j))) R rfl (by omega) (λq hq=>?_) ?_) ?_
        · have z1:=Zxa (hM q i hq hi) (hM q j hq hj);have z2:sz (q*(64+64+1)+1) (sm q λl=>M l i*M l j):=Ztk λl hl=>Zxa (hM l i (by omega) hi) (hM l j (by omega) hj);simp only;rw[dTq (by omega),Ze,ZCa _ hi,Za,ZBa (λl=>M l i) hq,Za,ZCa _ hq,Za,ZBa _ hj,Za,Zgk (hM q i hq hi) (hM q j hq hj) (by omega),Za,Znr z2 z1 (by omega),Za,Zi (by omega) (by omega),Za];rfl
        · simp only;rw[dFq (by omega),Zd];rfl
        · rw[ZBb j (λj=>wq (nmM R M i j)),Z6 (by rw[Zw];omega),Za,Zi (by omega) (by omega),Za];rfl
      · simp only;rw[dFq (by omega),Zd]
      · rw[ZBb i (λi=>vx n λj=>wq (nmM R M i j)),Z6 (by rw[Zw];omega),Za,Zi (by omega) (by omega),Za];rfl
    · simp only;rw[dFq (by omega),Zd];rfl
  rw[hsq,Z7x (k:=64) (m:=k) (λi j hi hj=>hM j i hj hi) hw (by omega) (by omega) (by
    have:(R+1)*(64+k+1)≤33*(64+k+1):=mR _ (by omega);omega),Za]
  obtain⟨M7,p7,E7,C7,e7⟩:=rAny_w hn0 (by omega) (by omega) hK hCa hr hkk;have hm:=ZJk E7;rw[iN hm]at e7;refine⟨pv M7 p7 n,E7.pv_sol hm,λj hj=>pvW_sz (C7 hm) (Zth hK) E7.le j,?_⟩;have e7':ZNg (mxW n n (nmM R M)) (vx n λi=>wq (sm R λj=>M j i*w j))=some (vx n λd=>wq (pv M7 p7 n d),0):=e7;rw[e7',Za]
theorem Est_c {R n a b:Nat} {M:Mx} (h00:R=0→n=0) (hR:R≤32) (hn:n≤32) (hC:CD 1 R n M) (ha:a<n) (hb:b<n) :
  ∃ M' piv,Eli R n M M' piv n∧CD 8589934591 R n M'∧((∀ i,i<(ZC piv n).length→bs n M' piv (ctr a b) i=0)∧Znd (mx R n M) (vx n (ctr a b))=some (true,[],0) ∨ ∃ k,k<(ZC piv n).length∧bs n M' piv (ctr a b) k≠0∧(∀ i,i<k→bs n M' piv (ctr a b) i=0)∧Znd (mx R n M) (vx n (ctr a b))=some (false,vx n (kv M' piv (fr n piv k)),0)):=by
 have k1:kk 1 n≤8589934591:=by
  have:=Zoc (K:=1) (k:=n) (n:=32) hn;have e:kk 1 32=8589934591:=by decide
  omega
 obtain⟨M',piv,E,C,e⟩:=Z1t h00 (by omega) (by omega) (by omega) hC (by omega);have C:=C.mono k1;refine⟨M',piv,E,C,?_⟩;have hfl:=Z3t piv n;have pre:∀ f:Bool→Option (Bool×(List Rat)×Int),bnd (α:=Bool) (bnd (ZFe (mx R n M)) λy1=>ifb (!y1) (some true) (bnd (Zkc (mx R n M)) λy2=>some (((vx n (ctr a b)).length:Int) != y2))) f=f false:=λf=>by
  rw[Zlj M h00 (by omega) (by omega),Za,Z6b,ZGe M h00,Za,Zw,show ((n:Int) != (n:Int))=false by simp,Za]
 unfold Znd;rw[pre,Zd,e,Za];simp only[List.length_map];have hidx:∀ i,i<(ZC piv n).length→idx ((ZC piv n).map λj=>vx n (kv M' piv j)) (i:Int)=some (vx n (kv M' piv (fr n piv i))):=λi hi=>ZNi (by simp[fr,List.getD_eq_getElem?_getD,hi]);have hdot:∀ i,i<(ZC piv n).length→Zfe (vx n (ctr a b)) (vx n (kv M' piv (fr n piv i)))=some (bs n M' piv (ctr a b) i):=λi hi=>ZRj (k:=3) (m:=8589934591) (λj hj=>ZHi a b j) (λj hj=>ZPl C (by omega) E.le (Zaj hi) j) (by omega) (by
  have:(n+1)*(3+8589934591+1)≤33*(3+8589934591+1):=mR _ (by omega);omega)
 rcases Zvh (λi=>bs n M' piv (ctr a b) i=0) (ZC piv n).length with h | ⟨k,hk,h1,h2⟩
 ·left;refine⟨h,Zq (y:=.inl ()) (Zv (λk=>(k:Int)) (ZC piv n).length rfl (by omega) (λk hk=>?_) ?_) rfl⟩
  ·rw[dTq (by omega),Ze,hidx k hk,Za,hdot k hk,Za,h k hk,show ZUa 0=some true by unfold ZUa;rw[dTq rfl],Za,Z6b,Zi (by omega) (by omega),Za];rfl
  ·rw[dFq (by omega),Zd]
 ·right;refine⟨k,hk,h1,h2,Zq (y:=.inr (false,vx n (kv M' piv (fr n piv k)),0)) (Zv (λk=>(k:Int)) k rfl (by omega) (λi hi=>?_) ?_) rfl⟩
  ·rw[dTq (by omega),Ze,hidx i (by omega),Za,hdot i (by omega),Za,h2 i hi,show ZUa 0=some true by unfold ZUa;rw[dTq rfl],Za,Z6b,Zi (by omega) (by omega),Za];rfl
  ·rw[dTq (by omega),Ze,hidx k hk,Za,hdot k hk,Za,Z6v h1,Za,ZKh]
theorem rEst_c {r R n a b:Nat} {M:Mx} (h00:R=0→n=0) (hR:R≤32) (hn:n≤32) (hC:CD 1 R n M) (ha:a<n) (hb:b<n) (hr:∀ k N piv,k≤n→Eli R n M N piv k→piv.length≤r) (hkr:8*kk 1 r≤38000000000) :
  ∃ M' piv,Eli R n M M' piv n∧((∀ i,i<(ZC piv n).length→bs n M' piv (ctr a b) i=0)∧Z0c (mxW R n M) (vx n λj=>wq (ctr a b j))=some (true,[],0) ∨ ∃ k,k<(ZC piv n).length∧bs n M' piv (ctr a b) k≠0∧(∀ i,i<k→bs n M' piv (ctr a b) i=0)∧Z0c (mxW R n M) (vx n λj=>wq (ctr a b j))=some (false,vx n (λd=>wq (kv M' piv (fr n piv k) d)),0)):=by
 obtain⟨M',piv,E,C,e⟩:=Z7v h00 (by omega) (by omega) (by omega) hC hr hkr;refine⟨M',piv,E,?_⟩;have hfl:=Z3t piv n;have pre:∀ f:Bool→Option (Bool×(List WR)×Int),bnd (α:=Bool) (bnd (Zzd (mxW R n M)) λy1=>ifb (!y1) (some true) (bnd (Ztd (mxW R n M)) λy2=>some (((vx n λj=>wq (ctr a b j)).length:Int) != y2))) f=f false:=λf=>by
  rw[Zui _ (by rw[Zza];omega),dTq (Ztj M h00 (by omega) (by omega)),Za,Z6b,ZGh,ZAf M h00,Za,Zw,show ((n:Int) != (n:Int))=false by simp,Za]
 unfold Z0c;rw[pre,Zd,e,Za];simp only[List.length_map];have hidx:∀ i,i<(ZC piv n).length→idx ((ZC piv n).map λj=>vx n λd=>wq (kv M' piv j d)) (i:Int)=some (vx n λd=>wq (kv M' piv (fr n piv i) d)):=λi hi=>ZNi (by simp[fr,List.getD_eq_getElem?_getD,hi]);have hdot:∀ i,i<(ZC piv n).length→Zee (vx n λj=>wq (ctr a b j)) (vx n λd=>wq (kv M' piv (fr n piv i) d))=some (wq (bs n M' piv (ctr a b) i)):=λi hi=>Z9q ha hb (by omega) (λj hj=>kvW_sz C (Zth (by omega)) E.le (Zaj hi) j) (Nat.le_trans (Zth (by omega)) (Nat.le_add_right _ _)) (by omega);rcases Zvh (λi=>bs n M' piv (ctr a b) i=0) (ZC piv n).length with h | ⟨k,hk,h1,h2⟩
 ·left;refine⟨h,Zq (y:=.inl ()) (Zv (λk=>(k:Int)) (ZC piv n).length rfl (by omega) (λk hk=>?_) ?_) rfl⟩
  ·rw[dTq (by omega),Ze,hidx k hk,Za,hdot k hk,Za,ZFf,Za,dTq (h k hk),Z6b,Zi (by omega) (by omega),Za];rfl
  ·rw[dFq (by omega),Zd]
 ·right;refine⟨k,hk,h1,h2,Zq (y:=.inr (false,vx n (λd=>wq (kv M' piv (fr n piv k) d)),0)) (Zv (λk=>(k:Int)) k rfl (by omega) (λi hi=>?_) ?_) rfl⟩
  ·rw[dTq (by omega),Ze,hidx i (by omega),Za,hdot i (by omega),Za,ZFf,Za,dTq (h2 i hi),Z6b,Zi (by omega) (by omega),Za];rfl
  ·rw[dTq (by omega),Ze,hidx k hk,Za,hdot k hk,Za,ZFf,Za,dFq h1,ZKh,Za]
theorem ZUx {r R n a b:Nat} {M:Mx} (h00:R=0→n=0) (hR:R≤32) (hn:n≤32) (hC:CD 1 R n M) (ha:a<n) (hb:b<n) (hr:∀ k N piv,k≤n→Eli R n M N piv k→piv.length≤r) (hkr:8*kk 1 r≤38000000000) :
  (Znd (mx R n M) (vx n (ctr a b))=some (true,[],0)∧Z0c (mxW R n M) (vx n λj=>wq (ctr a b j))=some (true,[],0)) ∨ ∃ v,(∀ j,j<n→sz 8589934591 (v j))∧Znd (mx R n M) (vx n (ctr a b))=some (false,vx n v,0)∧Z0c (mxW R n M) (vx n λj=>wq (ctr a b j))=some (false,vx n (λd=>wq (v d)),0):=by
 obtain⟨M1,p1,E1,C1,h1⟩:=Est_c h00 hR hn hC ha hb;obtain⟨M2,p2,E2,h2⟩:=rEst_c h00 hR hn hC ha hb hr hkr;have hp:p2=p1:=(E1.piv_eq E2 λv=>Iff.rfl).symm;have hbb:∀ i,i<(ZC p1 n).length→bs n M2 p2 (ctr a b) i=bs n M1 p1 (ctr a b) i:=λi hi=>by
  unfold bs;refine ZR λj hj=>?_;rw[show fr n p2 i=fr n p1 i by rw[hp],kv_eq E1 E2 (Zaj hi)]
 have hf:=ZBA hp n;rcases h1 with ⟨g1,e1⟩ | ⟨k,hk,g1,g2,e1⟩
 ·rcases h2 with ⟨_,e2⟩ | ⟨k,hk,g3,_,_⟩
  ·exact .inl ⟨e1,e2⟩
  ·rw[hf]at hk;exact absurd (by rw[hbb k hk];exact g1 k hk) g3
 ·rcases h2 with ⟨g3,_⟩ | ⟨k',hk',g3,g4,e2⟩
  ·rw[hf]at g3;exact absurd (by rw[← hbb k hk];exact g3 k hk) g1
  ·rw[hf]at hk';have hkk:k'=k:=by
    rcases Nat.lt_trichotomy k' k with q | q | q
    ·exact absurd (by rw[hbb k' hk'];exact g2 k' q) g3
    ·exact q
    ·exact absurd (by rw[← hbb k hk];exact g4 k q) g1
   subst hkk;refine .inr ⟨_,λj hj=>ZPl C1 (by omega) E1.le (Zaj hk) j,e1,?_⟩;have hfr:fr n p2 k'=fr n p1 k':=by rw[hp]
   rw[e2,hfr,ZG (f:=λd=>wq (kv M2 p2 (fr n p1 k') d)) (g:=λd=>wq (kv M1 p1 (fr n p1 k') d)) λd hd=>by rw[kv_eq E1 E2 (Zaj hk)]]
noncomputable def Z5j (x:Rat) (y:Rat):Option (Rat) :=
 bnd (Zfd x y) λa =>
 some a.1
noncomputable def ZEb (n:Int):Option (Rat) :=
 bnd (Z1c n) λa =>
 some a
theorem ZDs (n:Int):ZEb n=some (n:Rat):=by unfold ZEb Z1c;rw[Za]
noncomputable def Zyf (z:Int×Int×Int×Int×Rat):Option (Int×Int×Int×Int) :=
 some (z.1,z.2.1,z.2.2.1,z.2.2.2.1)
noncomputable def Zoe (z:Int×Int×Int×Int):Option (Int×Int×Int×Int) :=
 some (z.1,z.2.1,z.2.2.1,z.2.2.2)
noncomputable def ZGg (z:Int×Int×Int×Int) (l:List (Int×Int×Int×Int×Rat)):Option Int :=
 bnd (Zoe z) λa =>
 bnd (α:=Int)
 (bnd (Zh (σ:=Int) (ρ:=Unit ⊕ Int) (λc =>
 ifb (decide (c<([a.1,a.2.1,a.2.2.1,a.2.2.2].length:Int)))
 (bnd (idx [a.1,a.2.1,a.2.2.1,a.2.2.2] c) λe =>
 bnd (α:=Bool)
 (ifb (decide (e<(1:Int)))
 (some true)
 (some (decide ((8:Int)<e)))) λf =>
 ifb f
 (some (.inr (.inr c)))
 (bnd (chk .i64 (c+(1:Int))) λg =>
 some (.inl g)))
 (some (.inr (.inl ()))))
   Zj (0:Int)) λh =>
  match h with
| .inl u=>(some (-1:Int))
| .inr i=>(some i)) λj =>
 ifb (decide ((0:Int)≤j))
 (some (1:Int))
 (bnd (α:=Bool)
 (ifb ((l.length:Int)==(0:Int))
 (some true)
 (some (decide ((32:Int)<(l.length:Int))))) λk =>
 ifb k
 (some (4:Int))
 (bnd (Zh (σ:=Int) (ρ:=Unit ⊕ Int) (λd =>
 ifb (decide (d<(l.length:Int)))
 (bnd (idx l d) λm =>
 bnd (Zyf m) λb =>
 bnd (α:=Bool)
 (ifb (decide (b.1<(0:Int)))
 (some true)
 (some (decide (a.1≤b.1)))) λn =>
 ifb n
 (some (.inr (.inr (1:Int))))
 (bnd (α:=Bool)
 (ifb (decide (b.2.1<(0:Int)))
 (some true)
 (some (decide (a.2.1≤b.2.1)))) λo =>
 ifb o
 (some (.inr (.inr (1:Int))))
 (bnd (α:=Bool)
 (ifb (decide (b.2.2.1<(0:Int)))
 (some true)
 (some (decide (a.2.2.1≤b.2.2.1)))) λp =>
 ifb p
 (some (.inr (.inr (1:Int))))
 (bnd (α:=Bool)
 (ifb (decide (b.2.2.2<(0:Int)))
 (some true)
 (some (decide (a.2.2.2≤b.2.2.2)))) λq =>
 ifb q
 (some (.inr (.inr (1:Int))))
 (bnd (chk .i64 (d+(1:Int))) λr =>
 some (.inl r))))))
 (some (.inr (.inl ()))))
    Zj (0:Int)) λs =>
   match s with
| .inl v=>(some (0:Int))
| .inr t=>(some t)))
noncomputable def Ztg (z:Int×Int×Int×Int):Option Int :=
 bnd (chk .i64 (z.1+z.2.1)) λa =>
 bnd (chk .i64 (a+z.2.2.1)) λb =>
 bnd (chk .i64 (b+z.2.2.2)) λc =>
 some c
noncomputable def Z7c (z:Int×Int×Int×Int) (l:List (Int×Int×Int×Int×Rat)):Option ((List (List Rat))×Int) :=
 bnd (ZGg z l) λk =>
 ifb (k != (0:Int))
 (some (([]:List (List Rat)),k))
 (bnd (Zh (σ:=(List (List Rat))×Int) (ρ:=List (List Rat)) (λb =>
 ifb (decide (b.2<(l.length:Int)))
 (bnd (idx l b.2) λq =>
 bnd (Ztg z) λa =>
 bnd (mk 56 a a) λ_ =>
 bnd (Zyf q) λf =>
 bnd (chk .i64 ((0:Int)+f.1)) λc =>
 bnd (ZEb (1:Int)) λd =>
 bnd (idx (List.replicate a.toNat (0:Rat)) c) λx =>
 bnd (Zoe z) λr =>
 bnd (chk .i64 ((0:Int)+r.1)) λm =>
 bnd (chk .i64 (m+f.2.1)) λe =>
 bnd (ZEb (1:Int)) λg =>
 bnd (idx ((List.replicate a.toNat (0:Rat)).set c.toNat d) e) λy =>
 bnd (Zoe z) λs =>
 bnd (chk .i64 (m+s.2.1)) λn =>
 bnd (chk .i64 (n+f.2.2.1)) λh =>
 bnd (ZEb (1:Int)) λi =>
 bnd (idx (((List.replicate a.toNat (0:Rat)).set c.toNat d).set e.toNat g) h) λA =>
 bnd (Zoe z) λt =>
 bnd (chk .i64 (n+t.2.2.1)) λo =>
 bnd (chk .i64 (o+f.2.2.2)) λj =>
 bnd (ZEb (1:Int)) λp =>
 bnd (idx ((((List.replicate a.toNat (0:Rat)).set c.toNat d).set e.toNat g).set h.toNat i) j) λB =>
 bnd (Zoe z) λu =>
 bnd (chk .i64 (o+u.2.2.2)) λC =>
 bnd (Zy 24 (b.1++[((((List.replicate a.toNat (0:Rat)).set c.toNat d).set e.toNat g).set h.toNat i).set j.toNat p])) λ_ =>
 bnd (chk .i64 (b.2+(1:Int))) λv =>
 some (.inl (b.1++[((((List.replicate a.toNat (0:Rat)).set c.toNat d).set e.toNat g).set h.toNat i).set j.toNat p],v)))
 (some (.inr b.1)))
   Zj (([]:List (List Rat)),(0:Int))) λw =>
 some (w,(0:Int)))
noncomputable def Z2d (z:Int×Int×Int×Int) (l:List (Int×Int×Int×Int×Rat)) (a:Int) (b:Int):Option ((List (List Rat))×(List Rat)×Int) :=
 bnd (Z7c z l) λd =>
 bnd (α:=Bool)
 (ifb (d.2==(0:Int))
 (ifb (decide (a<(0:Int)))
 (some true)
 (ifb (decide (z.1≤a))
 (some true)
 (ifb (decide (b<(0:Int)))
 (some true)
 (some (decide (z.1≤b))))))
 (some false)) λg =>
 bnd (α:=Int)
 (ifb g
 (some (1:Int))
 (some d.2)) λf =>
 ifb (f != (0:Int))
 (some (([]:List (List Rat)),([]:List Rat),f))
 (bnd (Ztg z) λc =>
 bnd (mk 56 c c) λ_ =>
 bnd (idx (List.replicate c.toNat (0:Rat)) a) λh =>
 bnd (ZEb (1:Int)) λi =>
 bnd (Z3b h i) λe =>
 bnd (idx (List.replicate c.toNat (0:Rat)) a) λn =>
 bnd (idx ((List.replicate c.toNat (0:Rat)).set a.toNat e) b) λj =>
 bnd (ZEb (1:Int)) λk =>
 bnd (Z8b j k) λm =>
 bnd (idx ((List.replicate c.toNat (0:Rat)).set a.toNat e) b) λo =>
 some (d.1,((List.replicate c.toNat (0:Rat)).set a.toNat e).set b.toNat m,(0:Int)))
noncomputable def Zsd (z:Int×Int×Int×Int) (l:List (Int×Int×Int×Int×Rat)) (a:Int) (b:Int):Option (Bool×(List Rat)×Int) :=
 bnd (Z2d z l a b) λc =>
 ifb (c.2.2 != (0:Int))
 (some (false,([]:List Rat),c.2.2))
 (bnd (Znd c.1 c.2.1) λd =>
 some (d.1,d.2.1,d.2.2))
theorem Z7l {z:Int×Int×Int×Int} {l:List (Int×Int×Int×Int×Rat)} {R n a b:Nat} {M:Mx} (hD:Z7c z l=some (mx R n M,0)) (hs:Ztg z=some (n:Int)) (hn:n≤32) (hz:z.1≤n) (ha:(a:Int)<z.1) (hb:(b:Int)<z.1) :
  Z2d z l (a:Int) (b:Int)=some (mx R n M,vx n (ctr a b),0):=by
 have han:a<n:=by omega
 have hbn:b<n:=by omega
 unfold Z2d;rw[hD,Za];refine Zq (y:=false) ?_ ?_
 ·rw[show (((mx R n M),(0:Int)).2==(0:Int))=true from rfl,Ze,dFq (by omega),Zd,dFq (by omega),Zd,dFq (by omega),Zd,dFq (by omega)]
 have e0:((1:Int):Rat)=(1:Rat):=rfl;rw[Zd,Za,show (((mx R n M),(0:Int)).2 != (0:Int))=false from rfl,Zd,hs,Za,ZAd (by omega) (by omega),Za,tN,Zvf,ZF _ han,Za,ZDs,Za,e0,qaddB ZH ZKf (by omega) (by omega),Za,Za,tN,Zea,ZF _ hbn,Za,Za];have e1:(if b=a then (0:Rat)+1 else 0)=ind a b:=by unfold ind;split <;> grind
 rw[e1,qsubB (ZHo a b) ZKf (by omega) (by omega),Za,Za,tN,Zea];refine congrArg some (Prod.ext rfl (Prod.ext (ZG λj hj=>?_) rfl));show _=ind a j-ind b j;unfold ind;by_cases e:j=b
 ·rw[iP e,iP e,e]
 ·rw[iN e,iN e];by_cases e2:j=a
  ·rw[iP e2,iP e2];grind
  ·rw[iN e2,iN e2];grind
theorem Ztz {z:Int×Int×Int×Int} {l:List (Int×Int×Int×Int×Rat)} {R n a b:Nat} {M:Mx} (hD:Z7c z l=some (mx R n M,0)) (hs:Ztg z=some (n:Int)) (h0:R=0→n=0) (hR:R≤32) (hn:n≤32) (hz:z.1≤n) (ha:(a:Int)<z.1) (hb:(b:Int)<z.1) (hC:CD 1 R n M) :
  ∃ y,Zsd z l (a:Int) (b:Int)=some y∧((y=(true,[],0)∧∀ v,Ker R n M v→v a=v b) ∨ ∃ v,Ker R n M v∧v a≠v b∧y=(false,vx n v,0)∧∀ j,j<n→sz (kk 1 n) (v j)):=by
 have han:a<n:=by omega
 have hbn:b<n:=by omega
 have hk:kk 1 n≤17179869184:=by
  have:=Zoc (K:=1) (k:=n) (n:=32) hn;have e:kk 1 32=8589934591:=by decide
  omega
 obtain⟨y,h1,h2⟩:=Zlr (c:=ctr a b) (m:=3) h0 hR hn (by omega) hC hk (λj hj=>ZHi a b j) (by omega);refine⟨y,?_,?_⟩
 ·unfold Zsd;rw[Z7l hD hs hn hz ha hb,Za,show (((mx R n M),vx n (ctr a b),(0:Int)).2.2 != (0:Int))=false from rfl,Zd,h1,Za]
 ·rcases h2 with ⟨rfl,h2⟩ | ⟨v,h2,h3,rfl,h4⟩
  ·refine .inl ⟨rfl,λv hv=>?_⟩;have:=h2 v hv;rw[ZXl han hbn]at this;grind
  ·refine .inr ⟨v,h2,λe=>h3 ?_,rfl,h4⟩;rw[ZXl han hbn,e];grind
noncomputable def ZNe (z:Int×Int×Int×Int) (l:List (Int×Int×Int×Int×Rat)) (a:Int) (b:Int):Option (Rat×Int) :=
 bnd (Z2d z l a b) λd =>
 ifb (d.2.2 != (0:Int))
 (some ((0:Rat),d.2.2))
 (bnd (Zh (σ:=(List Rat)×Int) (ρ:=List Rat) (λc =>
 ifb (decide (c.2<(l.length:Int)))
 (bnd (idx l c.2) λe =>
 bnd (Zy 56 (c.1++[e.2.2.2.2])) λ_ =>
 bnd (chk .i64 (c.2+(1:Int))) λg =>
 some (.inl (c.1++[e.2.2.2.2],g)))
 (some (.inr c.1)))
   Zj (([]:List Rat),(0:Int))) λh =>
 bnd (ZIg d.1 h d.2.1) λf =>
 some (f.1,f.2))
def Zz (t c d:Nat) (A B C D:Nat→Nat):Mx:=λi j=>ind (A i) j+ind (t+B i) j+ind (t+c+C i) j+ind (t+c+d+D i) j
def lgs (R:Nat) (A B C D:Nat→Nat) (w:Nat→Rat):List (Int×Int×Int×Int×Rat):=vx R λi=>((A i:Int),(B i:Int),(C i:Int),(D i:Int),w i)
structure Legs (t c d p R:Nat) (A B C D:Nat→Nat):Prop where
 t1:1≤t∧t≤8
 c1:1≤c∧c≤8
 d1:1≤d∧d≤8
 p1:1≤p∧p≤8
 r1:1≤R∧R≤32
 a:∀ i,i<R→A i<t
 b:∀ i,i<R→B i<c
 cc:∀ i,i<R→C i<d
 dd:∀ i,i<R→D i<p
section
variable {t c d p R:Nat} {A B C D:Nat→Nat} {w:Nat→Rat}
theorem Legs.check (h:Legs t c d p R A B C D):ZGg ((t:Int),(c:Int),(d:Int),(p:Int)) (lgs R A B C D w)=some 0:=by
 have t1:=h.t1;have c1:=h.c1;have d1:=h.d1;have p1:=h.p1;have r1:=h.r1;unfold ZGg Zoe;rw[Za];refine Zq (y:=(-1:Int)) ?_ ?_
 ·refine Zq (y:=Sum.inl ()) (Zv (λk=>(k:Int)) 4 rfl (by omega) (λk hk=>?_) ?_) rfl
  ·have hg:∃ q:Nat,idx [((t:Int),(c:Int),(d:Int),(p:Int)).1,((t:Int),(c:Int),(d:Int),(p:Int)).2.1,((t:Int),(c:Int),(d:Int),(p:Int)).2.2.1,((t:Int),(c:Int),(d:Int),(p:Int)).2.2.2] (k:Int)=some (q:Int)∧1≤q∧q≤8:=by
    have:k=0∨k=1∨k=2∨k=3:=by omega
    rcases this with rfl | rfl | rfl | rfl
    ·exact⟨t,rfl,t1⟩
    ·exact⟨c,rfl,c1⟩
    ·exact⟨d,rfl,d1⟩
    ·exact⟨p,rfl,p1⟩
   obtain⟨q,h1,h2,h3⟩:=hg;rw[dTq (by simp only[List.length_cons,List.length_nil];omega),Ze,h1,Za,dFq (by omega),Zd,dFq (by omega),Za,Zd,Zi (by omega) (by omega),Za];rfl
  ·rfl
 rw[dFq (by omega),Zd];have hl:(lgs R A B C D w).length=R:=Zw _ _;rw[hl];refine Zq (y:=false) ?_ ?_
 ·rw[show ((R:Int)==0)=false by simp;omega,Zd,dFq (by omega)]
 rw[Zd];refine Zq (y:=Sum.inl ()) (Zv (λk=>(k:Int)) R rfl (by omega) (λk hk=>?_) ?_) rfl
 ·have ha:=h.a k hk;have hb:=h.b k hk;have hc:=h.cc k hk;have hd:=h.dd k hk;unfold Zyf;rw[dTq (by omega),Ze,lgs,ZF _ hk,Za,Za];simp only;rw[dFq (by omega),Zd,dFq (by omega),Za,Zd,dFq (by omega),Zd,dFq (by omega),Za,Zd,dFq (by omega),Zd,dFq (by omega),Za,Zd,dFq (by omega),Zd,dFq (by omega),Za,Zd,Zi (by omega) (by omega),Za];rfl
 ·rw[dFq (by omega),Zd]
theorem Legs.cols (h:Legs t c d p R A B C D):Ztg ((t:Int),(c:Int),(d:Int),(p:Int))=some ((t+c+d+p:Nat):Int):=by
 have t1:=h.t1;have c1:=h.c1;have d1:=h.d1;have p1:=h.p1;unfold Ztg;simp only;rw[Zi (by omega) (by omega),Za,Zi (by omega) (by omega),Za,Zi (by omega) (by omega),Za];rfl
theorem Legs.design (h:Legs t c d p R A B C D):Z7c ((t:Int),(c:Int),(d:Int),(p:Int)) (lgs R A B C D w)=some (mx R (t+c+d+p) (Zz t c d A B C D),0):=by
 have t1:=h.t1;have c1:=h.c1;have d1:=h.d1;have p1:=h.p1;have r1:=h.r1;have hl:(lgs R A B C D w).length=R:=Zw _ _;unfold Z7c;rw[h.check,Za,show ((0:Int) != 0)=false from rfl,Zd,hl];refine Zq (y:=mx R (t+c+d+p) (Zz t c d A B C D)) (Zv (λk=>(mx k (t+c+d+p) (Zz t c d A B C D),(k:Int))) R rfl (by omega) (λk hk=>?_) ?_) rfl
 ·have ha:=h.a k hk;have hb:=h.b k hk;have hc:=h.cc k hk;have hd:=h.dd k hk;have e0:((1:Int):Rat)=(1:Rat):=rfl;simp only;rw[dTq (by omega),Ze,lgs,ZF _ hk,Za,h.cols,Za,ZAd (by omega) (by omega),Za];unfold Zyf Zoe;simp only[ZDs,e0,Za,tN,Zvf];have z1:(0:Int)+(A k:Int)=((A k:Nat):Int):=by omega
  have z2:(0:Int)+(t:Int)=((t:Nat):Int):=by omega
  rw[z1,Zi (by omega) (by omega),Za,ZF _ (by omega),Za,z2,Zi (by omega) (by omega),Za,Zi (by omega) (by omega),Za,tN,Zea];have z3:(t:Int)+(B k:Int)=((t+B k:Nat):Int):=by omega
  have z4:(t:Int)+(c:Int)=((t+c:Nat):Int):=by omega
  have z5:((t+c:Nat):Int)+(C k:Int)=((t+c+C k:Nat):Int):=by omega
  have z6:((t+c:Nat):Int)+(d:Int)=((t+c+d:Nat):Int):=by omega
  have z7:((t+c+d:Nat):Int)+(D k:Int)=((t+c+d+D k:Nat):Int):=by omega
  rw[z3,ZF _ (by omega),Za,z4,Zi (by omega) (by omega),Za,tN,Zea,z5,Zi (by omega) (by omega),Za,ZF _ (by omega),Za,tN,Zea,z6,Zi (by omega) (by omega),Za,z7,Zi (by omega) (by omega),Za,ZF _ (by omega),Za,tN,Zea,Zi (by omega) (by omega),Za];have er:(vx (t+c+d+p) λk_1=>if k_1=t+c+d+D k then (1:Rat) else if k_1=t+c+C k then 1 else if k_1=t+B k then 1 else if k_1=A k then 1 else 0)=vx (t+c+d+p) (Zz t c d A B C D k):=ZG λj hj=>by
   unfold Zz ind;by_cases e1:j=t+c+d+D k
   ·rw[iP e1,iN (by omega),iN (by omega),iN (by omega),iP e1];grind
   ·rw[iN e1,iN e1];by_cases e2:j=t+c+C k
    ·rw[iP e2,iN (by omega),iN (by omega),iP e2];grind
    ·rw[iN e2,iN e2];by_cases e3:j=t+B k
     ·rw[iP e3,iN (by omega),iP e3];grind
     ·rw[iN e3,iN e3];by_cases e4:j=A k
      ·rw[iP e4];grind
      ·rw[iN e4];grind
  rw[er,show mx k (t+c+d+p) (Zz t c d A B C D)++[vx (t+c+d+p) (Zz t c d A B C D k)]=mx (k+1) (t+c+d+p) (Zz t c d A B C D) from ZBb k λi=>vx (t+c+d+p) (Zz t c d A B C D i),Z6 (by rw[Zka];omega),Za,Zi (by omega) (by omega),Za];rfl
 ·simp only;rw[dFq (by omega),Zd]
end
theorem Legs.diff_w {t c d p R:Nat} {A B C D:Nat→Nat} {w:Nat→Rat} (h:Legs t c d p R A B C D) {δ m0 k Kb r:Nat} (hw:∀ i,i<R→sz k (w i)) (hk1:1≤k) (hk:k≤100000000) (hC:CD 1 R (t+c+d+p) (Zz t c d A B C D)) (hKb:1≤Kb)
  (hb:CdW δ m0 Kb (t+c+d+p) (t+c+d+p+1) (aug (t+c+d+p) (nmM R (Zz t c d A B C D)) (nmB R (Zz t c d A B C D) w))) (hr:∀ q M' piv,q≤t+c+d+p+1→Eli (t+c+d+p) (t+c+d+p+1) (aug (t+c+d+p) (nmM R (Zz t c d A B C D)) (nmB R (Zz t c d A B C D) w)) M' piv q→piv.length≤r∧∀ c,c ∈ piv→c<m0) (hkb:kk Kb r+δ≤17179869184) :
  ∃ x,Sol (t+c+d+p) (t+c+d+p) (nmM R (Zz t c d A B C D)) (nmB R (Zz t c d A B C D) w) x∧(∀ j,j<t+c+d+p→sz (kk Kb r+δ) (x j))∧∀ a b:Nat,a<t→b<t →
   (ZNe ((t:Int),(c:Int),(d:Int),(p:Int)) (lgs R A B C D w) (a:Int) (b:Int)=some (x a-x b,0)∧∀ v,Ker R (t+c+d+p) (Zz t c d A B C D) v→v a=v b)∨(ZNe ((t:Int),(c:Int),(d:Int),(p:Int)) (lgs R A B C D w) (a:Int) (b:Int)=some (0,5)∧∃ v,Ker R (t+c+d+p) (Zz t c d A B C D) v∧v a≠v b):=by
 have t1:=h.t1;have c1:=h.c1;have d1:=h.d1;have p1:=h.p1;have r1:=h.r1;obtain⟨x,h1,h2,h3⟩:=ZAv (R:=R) (n:=t+c+d+p) (by omega) (by omega) r1.2 (by omega) hC hk1 hw hk hKb hb hr hkb;refine⟨x,h1,h2,λa b ha hb=>?_⟩;have hl:(lgs R A B C D w).length=R:=Zw _ _;have e:ZNe ((t:Int),(c:Int),(d:Int),(p:Int)) (lgs R A B C D w) (a:Int) (b:Int)=bnd (ZIg (mx R (t+c+d+p) (Zz t c d A B C D)) (vx R w) (vx (t+c+d+p) (ctr a b))) λy=>some (y.1,y.2):=by
  unfold ZNe;rw[Z7l (h.design (w:=w)) h.cols (by omega) (by simp only;omega) (by simp only;omega) (by simp only;omega),Za,show ((mx R (t+c+d+p) (Zz t c d A B C D),vx (t+c+d+p) (ctr a b),(0:Int)).2.2 != (0:Int))=false from rfl,Zd,hl];refine Zq (y:=vx R w) (Zv (λq=>(vx q w,(q:Int))) R rfl (by omega) (λq hq=>?_) ?_) rfl
  ·simp only;rw[dTq (by omega),Ze,lgs,ZF _ hq,Za];simp only;rw[ZBb q w,Z6 (by rw[Zw];omega),Za,Zi (by omega) (by omega),Za];rfl
  ·simp only;rw[dFq (by omega),Zd]
 have key:∀ v:Nat→Rat,sm (t+c+d+p) (λj=>ctr a b j*v j)=v a-v b:=λv=>ZXl (by omega) (by omega) v;rcases h3 (ctr a b) 3 (λj hj=>ZHi a b j) (by omega) with ⟨h4,h5⟩ | ⟨h4,v,h5,h6⟩
 ·left;refine⟨by rw[e,h4,Za,key],λv hv=>?_⟩;have:=h5 v hv;rw[key]at this;grind
 ·right;refine⟨by rw[e,h4,Za],v,h5,λe=>h6 ?_⟩;rw[key,e];grind
theorem ZZo {x y:Rat} (hx:∃ N:Int,x=(N:Rat)∧0≤N∧N≤1) (hy:∃ N:Int,y=(N:Rat)∧0≤N∧N≤1) (h:x=0∨y=0):∃ N:Int,x+y=(N:Rat)∧0≤N∧N≤1:=by
 rcases h with rfl | rfl
 ·obtain⟨N,h⟩:=hy;exact⟨N,by rw[Rat.zero_add];exact h.1,h.2⟩
 ·obtain⟨N,h⟩:=hx;exact⟨N,by rw[Rat.add_zero];exact h.1,h.2⟩
theorem ZCj (p j:Nat):∃ N:Int,ind p j=(N:Rat)∧0≤N∧N≤1:=by
 unfold ind;split
 ·exact⟨1,rfl,by omega,by omega⟩
 ·exact⟨0,rfl,by omega,by omega⟩
theorem CD_one' {R n:Nat} {M:Mx} (h:∀ i j,i<R→j<n→∃ N:Int,M i j=(N:Rat)∧0≤N∧N≤1):CD 1 R n M:=by
 refine⟨1,by omega,by decide,λi j hi hj=>?_⟩;obtain⟨N,h1,h2,h3⟩:=h i j hi hj;exact⟨N,by rw[h1];show (N:Rat)=(N:Rat) / 1;grind,by omega⟩
theorem ZDq {p q r s j:Nat} {A B C:Nat} (h1:p<A) (h2:A≤q) (h3:q<B) (h4:B≤r) (h5:r<C) (h6:C≤s):∃ N:Int,ind p j+ind q j+ind r j+ind s j=(N:Rat)∧0≤N∧N≤1:=by
 refine ZZo (ZZo (ZZo (ZCj p j) (ZCj q j) ?_) (ZCj r j) ?_) (ZCj s j) ?_
 ·unfold ind;by_cases e:j=p
  ·right;rw[iN (by omega)]
  ·left;rw[iN e]
 ·by_cases e:j=r
  ·left;unfold ind;rw[iN (by omega),iN (by omega)];grind
  ·right;unfold ind;rw[iN e]
 ·by_cases e:j=s
  ·left;unfold ind;rw[iN (by omega),iN (by omega),iN (by omega)];grind
  ·right;unfold ind;rw[iN e]
theorem Legs.cd {t c d p R:Nat} {A B C D:Nat→Nat} (h:Legs t c d p R A B C D):CD 1 R (t+c+d+p) (Zz t c d A B C D):=CD_one' λi j hi hj=>by
 have ha:=h.a i hi;have hb:=h.b i hi;have hc:=h.cc i hi;have hd:=h.dd i hi
 exact ZDq (A:=t) (B:=t+c) (C:=t+c+d) ha (by omega) (by omega) (by omega) (by omega) (by omega)
theorem Zxp {n p q r s:Nat} (hp:p<n) (hq:q<n) (hr:r<n) (hs:s<n) (v:Nat→Rat):sm n (λj=>(ind p j+ind q j+ind r j+ind s j)*v j)=v p+v q+v r+v s:=by
 rw[← ZEd hp v,← ZEd hq v,← ZEd hr v,← ZEd hs v,← ZUf,← ZUf,← ZUf];exact ZR λj hj=>by grind
theorem Legs.row {t c d p R:Nat} {A B C D:Nat→Nat} (h:Legs t c d p R A B C D) {i:Nat} (hi:i<R) (v:Nat→Rat):sm (t+c+d+p) (λj=>Zz t c d A B C D i j*v j)=v (A i)+v (t+B i)+v (t+c+C i)+v (t+c+d+D i):=by
 have ha:=h.a i hi;have hb:=h.b i hi;have hc:=h.cc i hi;have hd:=h.dd i hi;exact Zxp (by omega) (by omega) (by omega) (by omega) v
theorem sm_frac {D:Int} (hD:D≠0) {B:Nat}:∀ {n:Nat} {f:Nat→Rat},(∀ l,l<n→∃ N:Int,f l=(N:Rat) / (D:Rat)∧N.natAbs<B)→∃ N:Int,sm n f=(N:Rat) / (D:Rat)∧N.natAbs≤n*B:=by
 intro n
 induction n with
 | zero=>exact λ{f} _=>⟨0,by show (0:Rat)=_;rw[Rat.div_def];exact (Rat.zero_mul _).symm,by simp⟩
 | succ n ih =>
  intro f h;obtain⟨N,h1,h2⟩:=ih λl hl=>h l (by omega);obtain⟨N',h3,h4⟩:=h n (by omega);refine⟨N+N',?_,?_⟩
  ·show sm n f+f n=_;rw[h1,h3,Rat.intCast_add,Rat.div_def,Rat.div_def,Rat.div_def];grind
  ·rw[Nat.succ_mul];omega
def fnM (t c d:Nat):Mx:=λq j=>if q<t then (if q=0 then ind 0 j+ind t j+ind (t+c) j+ind (t+c+d) j else ind q j-ind 0 j) else if q+1<t+c then ind (q+1) j-ind t j else if q+2<t+c+d then ind (q+2) j-ind (t+c) j else ind (q+3) j-ind (t+c+d) j
theorem Z7j {n p q:Nat} (hp:p<n) (hq:q<n) (u:Nat→Rat):sm n (λj=>(ind p j-ind q j)*u j)=u p-u q:=by
 rw[← ZEd hp u,← ZEd hq u,← Zqh];exact ZR λj hj=>by grind
section
variable {t c d p R:Nat} {A B C D:Nat→Nat} {w:Nat→Rat}
theorem Legs.fn (h:Legs t c d p R A B C D) {u:Nat→Rat} (hu:Ker (t+c+d+p-3) (t+c+d+p) (fnM t c d) u):Ker R (t+c+d+p) (Zz t c d A B C D) u:=by
 have t1:=h.t1;have c1:=h.c1;have d1:=h.d1;have p1:=h.p1;have e0:u 0+u t+u (t+c)+u (t+c+d)=0:=by
  have:=hu 0 (by omega);rw[ZR (g:=λj=>(ind 0 j+ind t j+ind (t+c) j+ind (t+c+d) j)*u j) λj hj=>by unfold fnM;rw[iP (by omega),iP rfl],Zxp (by omega) (by omega) (by omega) (by omega)]at this;exact this
 have ea:∀ a,a<t→u a=u 0:=λa ha=>by
  by_cases h0:a=0
  ·rw[h0]
  have:=hu a (by omega);rw[ZR (g:=λj=>(ind a j-ind 0 j)*u j) λj hj=>by unfold fnM;rw[iP ha,iN h0],Z7j (by omega) (by omega)]at this;grind
 have eb:∀ b,b<c→u (t+b)=u t:=λb hb=>by
  by_cases h0:b=0
  ·rw[h0,Nat.add_zero]
  have:=hu (t+b-1) (by omega);rw[ZR (g:=λj=>(ind (t+b) j-ind t j)*u j) λj hj=>by unfold fnM;rw[iN (by omega),iP (by omega),show t+b-1+1=t+b by omega],Z7j (by omega) (by omega)]at this;grind
 have ec:∀ b,b<d→u (t+c+b)=u (t+c):=λb hb=>by
  by_cases h0:b=0
  ·rw[h0,Nat.add_zero]
  have:=hu (t+c+b-2) (by omega);rw[ZR (g:=λj=>(ind (t+c+b) j-ind (t+c) j)*u j) λj hj=>by unfold fnM;rw[iN (by omega),iN (by omega),iP (by omega),show t+c+b-2+2=t+c+b by omega],Z7j (by omega) (by omega)]at this;grind
 have ed:∀ b,b<p→u (t+c+d+b)=u (t+c+d):=λb hb=>by
  by_cases h0:b=0
  ·rw[h0,Nat.add_zero]
  have:=hu (t+c+d+b-3) (by omega);rw[ZR (g:=λj=>(ind (t+c+d+b) j-ind (t+c+d) j)*u j) λj hj=>by unfold fnM;rw[iN (by omega),iN (by omega),iN (by omega),show t+c+d+b-3+3=t+c+d+b by omega],Z7j (by omega) (by omega)]at this;grind
 intro i hi;rw[h.row hi,ea _ (h.a i hi),eb _ (h.b i hi),ec _ (h.cc i hi),ed _ (h.dd i hi)];exact e0
end
theorem ZRs {R n k:Nat} (hk:k≤n) (N:Mx) (v:Nat→Rat):Ker R k N v↔Ker R n N (λj=>if j<k then v j else 0):=by
 refine forall_congr' λi=>forall_congr' λhi=>?_;have e:sm n (λj=>N i j*(if j<k then v j else 0))=sm k λj=>N i j*v j:=by
  rw[Z2q (k:=k) hk (λj hj=>by rw[iN (by omega)];grind)];exact ZR λj hj=>by rw[iP hj]
 show _↔sm n (λj=>N i j*(if j<k then v j else 0))=0;rw[e]
theorem Zrt {R Q n q:Nat} {N N' M:Mx} {piv:List Nat} (hq:q≤n) (h:Eli R n N N' piv q) (hk:∀ v,Ker Q n M v→Ker R n N v):piv.length≤Q :=
 rank_le (M:=M) (h.restrict hq) λv hv=>(ZRs hq N v).2 (hk _ ((ZRs hq M v).1 hv))
section
variable {t c d p R:Nat} {A B C D:Nat→Nat} {w:Nat→Rat}
theorem Legs.rank (h:Legs t c d p R A B C D) {N:Mx} {piv:List Nat} {k:Nat} (hk:k≤t+c+d+p) (e:Eli R (t+c+d+p) (Zz t c d A B C D) N piv k):piv.length≤29:=by
 have t1:=h.t1;have c1:=h.c1;have d1:=h.d1;have p1:=h.p1;exact Nat.le_trans (Zrt (Q:=t+c+d+p-3) (M:=fnM t c d) hk e λv hv=>h.fn hv) (by omega)
theorem Legs.nrank (h:Legs t c d p R A B C D) {N:Mx} {piv:List Nat} {k:Nat} (hk:k≤t+c+d+p+1) (e:Eli (t+c+d+p) (t+c+d+p+1) (aug (t+c+d+p) (nmM R (Zz t c d A B C D)) (nmB R (Zz t c d A B C D) w)) N piv k):piv.length≤29∧∀ c',c' ∈ piv→c'<t+c+d+p:=by
 have t1:=h.t1;have c1:=h.c1;have d1:=h.d1;have p1:=h.p1;refine⟨?_,λc' hc=>?_⟩
 ·obtain⟨F,pf,hF⟩:=Zpp (t+c+d+p) (t+c+d+p+1) (aug (t+c+d+p) (nmM R (Zz t c d A B C D)) (nmB R (Zz t c d A B C D) w)) _ (Nat.le_refl _);have hx:=hF.pv_sol (ZJk hF);generalize pv F pf (t+c+d+p)=x at hx;have hfn:∀ u,Ker (t+c+d+p-3) (t+c+d+p) (fnM t c d) u→Ker R (t+c+d+p) (Zz t c d A B C D) u:=λu hu=>h.fn hu;have hns:t+c+d+p-3≤29:=by omega
  generalize t+c+d+p=n at *;refine Nat.le_trans (Zrt (Q:=n-3) (M:=λi j=>if j=n then sm n (λl=>fnM t c d i l*x l) else fnM t c d i j) hk e λv hv=>?_) hns;have hu:Ker (n-3) n (fnM t c d) (λj=>v j+x j*v n):=λi hi=>by
   have:=hv i hi;simp only[sm]at this;rw[iP trivial,ZR (g:=λj=>fnM t c d i j*v j) λj hj=>by rw[iN (by omega)]]at this;show sm n (λj=>fnM t c d i j*(v j+x j*v n))=0;rw[ZR (g:=λj=>fnM t c d i j*v j+v n*(fnM t c d i j*x j)) λj hj=>by grind,ZUf,ZFb];grind
  have hn:=ZHA (hfn _ hu);intro i hi;have a:=hn i hi;rw[ZR (g:=λj=>nmM R (Zz t c d A B C D) i j*v j+v n*(nmM R (Zz t c d A B C D) i j*x j)) λj hj=>by grind,ZUf,ZFb,hx i hi]at a;simp only[sm];rw[ZR (g:=λj=>nmM R (Zz t c d A B C D) i j*v j) λj hj=>by unfold aug;rw[iN (by omega)]];unfold aug;rw[iP rfl];grind
 ·have h1:=e.lt c' hc;by_cases hk2:k≤t+c+d+p
  ·omega
  ·obtain rfl:k=t+c+d+p+1:=by omega
   have:=ZJk e;have:c'≠t+c+d+p:=λe2=>this (e2 ▸ hc);omega
end
theorem Zsp:∀ {R:Nat} {f:Nat→Rat},(∀ l,l<R→∃ N:Int,f l=(N:Rat)∧0≤N∧N≤1)→∃ N:Int,sm R f=(N:Rat)∧0≤N∧N≤(R:Int)
 | 0,f,_=>⟨0,rfl,by omega,by omega⟩
 | R+1,f,h=>by
  obtain⟨N,h1,h2,h3⟩:=Zsp (R:=R) (f:=f) λl hl=>h l (by omega)
  obtain⟨N',h4,h5,h6⟩:=h R (by omega)
  exact⟨N+N',by show sm R f+f R=_;rw[h1,h4,Rat.intCast_add],by omega,by omega⟩
theorem nm_w {R n k:Nat} {M:Mx} {w:Nat→Rat} (hR:R≤32) (hM:∀ i j,i<R→j<n→∃ N:Int,M i j=(N:Rat)∧0≤N∧N≤1) (hw:∀ i,i<R→sz k (w i)):CdW (k*R) n 7 n (n+1) (aug n (nmM R M) (nmB R M w)):=by
 intro j hj;by_cases hjn:j<n
 ·refine⟨1,by omega,?_,λi hi=>?_⟩
  ·rw[iP hjn];decide
  ·obtain⟨N,h1,h2,h3⟩:=Zsp (R:=R) (f:=λl=>M l i*M l j) λl hl=>by
    obtain⟨m,m1,m2,m3⟩:=hM l i hl hi;obtain⟨m',q1,q2,q3⟩:=hM l j hl hjn;refine⟨m*m',by rw[m1,q1,Rat.intCast_mul],Int.mul_nonneg m2 q2,?_⟩;have:m=0∨m=1:=by omega
    rcases this with rfl | rfl
    ·omega
    ·omega
   refine⟨N,?_,?_⟩
   ·unfold aug;rw[iN (by omega)];show sm R (λl=>M l i*M l j)=_;rw[h1,show ((1:Int):Rat)=1 from rfl,Rat.div_def];have:(1:Rat)⁻¹=1:=by decide +kernel
    rw[this,Rat.mul_one]
   ·rw[iP hjn,show 2^(7+0)=128 from rfl];omega
 ·obtain rfl:j=n:=by omega
  obtain⟨D,d0,d1,d2⟩:=ZRu (vx R w) λx hx=>by
   obtain⟨i,hi,rfl⟩:=List.mem_map.1 hx;exact hw i (List.mem_range.1 hi)
  rw[Zw]at d1 d2;have d2':∀ i,i<R→∃ N:Int,w i=(N:Rat) / (D:Rat)∧N.natAbs<2^(k*R+1):=λi hi=>d2 _ (List.mem_map.2 ⟨i,List.mem_range.2 hi,rfl⟩);have e:2^(7+k*R)=2^(k*R+1)*64:=by rw[show 7+k*R=k*R+1+6 by omega,Nat.pow_add]
  have up:R*2^(k*R+1)≤32*2^(k*R+1):=mR _ hR;have pos:=Nat.two_pow_pos (k*R+1);rw[iN (by omega)];refine⟨D,d0,by rw[e];generalize 2^(k*R+1)=b at *;omega,λi hi=>?_⟩;obtain⟨N,h1,h2⟩:=sm_frac (n:=R) (B:=2^(k*R+1)) (f:=λl=>M l i*w l) d0 λl hl=>by
   obtain⟨m,m1,m2,m3⟩:=hM l i hl hi;obtain⟨N,n1,n2⟩:=d2' l hl;refine⟨m*N,by rw[m1,n1,Rat.intCast_mul,Rat.div_def,Rat.div_def];grind,?_⟩;have:m=0∨m=1:=by omega
   rcases this with rfl | rfl
   ·rw[Int.zero_mul];exact pos
   ·rw[Int.one_mul];exact n2
  refine⟨N,?_,?_⟩
  ·unfold aug;rw[iP rfl];exact h1
  ·rw[e];generalize 2^(k*R+1)=b at *;omega
noncomputable def Zxk (l:List ((Int×Int×Int×Int)×Int×Int)):Option ((List (Int×Int×Int×Int×Rat))×(List ((Int×Int×Int×Int)×Rat))) :=
 bnd (Zh (σ:=(List (Int×Int×Int×Int×Rat))×(List ((Int×Int×Int×Int)×Rat))×Int) (ρ:=(List (Int×Int×Int×Int×Rat))×(List ((Int×Int×Int×Int)×Rat))) (λb =>
 ifb (decide (b.2.2<(l.length:Int)))
 (bnd (idx l b.2.2) λa =>
 bnd (Zqd a.2) λc =>
 bnd (Zy 88 (b.1++[(a.1.1,a.1.2.1,a.1.2.2.1,a.1.2.2.2,c)])) λ_ =>
 bnd (ZJd a.2) λd =>
 bnd (Zy 88 (b.2.1++[(a.1,d)])) λ_ =>
 bnd (chk .i64 (b.2.2+(1:Int))) λf =>
 some (.inl (b.1++[(a.1.1,a.1.2.1,a.1.2.2.1,a.1.2.2.2,c)],b.2.1++[(a.1,d)],f)))
 (some (.inr (b.1,b.2.1))))
  Zj (([]:List (Int×Int×Int×Int×Rat)),([]:List ((Int×Int×Int×Int)×Rat)),(0:Int))) λe =>
 some (e.1,e.2)
noncomputable def Zqf (t:Int×Int×Int×Int) (l:List ((Int×Int×Int×Int)×Rat)):Option Int :=
 bnd (α:=Bool)
 (ifb (decide (t.1<(1:Int)))
 (some true)
 (some (decide ((8:Int)<t.1)))) λb =>
 ifb b
 (some (1:Int))
 (bnd (α:=Bool)
 (ifb (decide (t.2.1<(1:Int)))
 (some true)
 (some (decide ((8:Int)<t.2.1)))) λc =>
 ifb c
 (some (1:Int))
 (bnd (α:=Bool)
 (ifb (decide (t.2.2.1<(1:Int)))
 (some true)
 (some (decide ((8:Int)<t.2.2.1)))) λd =>
 ifb d
 (some (1:Int))
 (bnd (α:=Bool)
 (ifb (decide (t.2.2.2<(1:Int)))
 (some true)
 (some (decide ((8:Int)<t.2.2.2)))) λe =>
 ifb e
 (some (1:Int))
 (bnd (α:=Bool)
 (ifb (decide ((l.length:Int)<(1:Int)))
 (some true)
 (some (decide ((32:Int)<(l.length:Int))))) λf =>
 ifb f
 (some (4:Int))
 (bnd (Zh (σ:=Int) (ρ:=Unit ⊕ Int) (λa =>
 ifb (decide (a<(l.length:Int)))
 (bnd (α:=Bool)
 (bnd (idx l a) λg =>
 ifb (decide (g.1.1<(0:Int)))
 (some true)
 (bnd (idx l a) λh =>
 some (decide (t.1≤h.1.1)))) λi =>
 ifb i
 (some (.inr (.inr (1:Int))))
 (bnd (α:=Bool)
 (bnd (idx l a) λj =>
 ifb (decide (j.1.2.1<(0:Int)))
 (some true)
 (bnd (idx l a) λk =>
 some (decide (t.2.1≤k.1.2.1)))) λm =>
 ifb m
 (some (.inr (.inr (1:Int))))
 (bnd (α:=Bool)
 (bnd (idx l a) λn =>
 ifb (decide (n.1.2.2.1<(0:Int)))
 (some true)
 (bnd (idx l a) λo =>
 some (decide (t.2.2.1≤o.1.2.2.1)))) λp =>
 ifb p
 (some (.inr (.inr (1:Int))))
 (bnd (α:=Bool)
 (bnd (idx l a) λq =>
 ifb (decide (q.1.2.2.2<(0:Int)))
 (some true)
 (bnd (idx l a) λr =>
 some (decide (t.2.2.2≤r.1.2.2.2)))) λs =>
 ifb s
 (some (.inr (.inr (1:Int))))
 (bnd (chk .i64 (a+(1:Int))) λu =>
 some (.inl u))))))
 (some (.inr (.inl ()))))
       Zj (0:Int)) λv =>
      match v with
| .inl x=>(some (0:Int))
| .inr w=>(some w))))))
abbrev LG:=(Int×Int×Int×Int)×Int×Int
def gL (l:List LG) (i:Nat):LG:=l.getD i ((0,0,0,0),0,0)
theorem idx_gL {l:List LG} {i:Nat} (h:i<l.length):idx l (i:Int)=some (gL l i):=by
 unfold gL;rw[Zu h];simp[List.getD_eq_getElem?_getD,h]
theorem Z7A (l:List LG) (hl:l.length≤1048576):Zxk l=some (vx l.length (λi=>((gL l i).1.1,(gL l i).1.2.1,(gL l i).1.2.2.1,(gL l i).1.2.2.2,ZMa (gL l i).2)),vx l.length λi=>((gL l i).1,ZMa (gL l i).2)):=by
 unfold Zxk Zqd ZJd;refine Zq (y:=(vx l.length (λi=>((gL l i).1.1,(gL l i).1.2.1,(gL l i).1.2.2.1,(gL l i).1.2.2.2,ZMa (gL l i).2)),vx l.length λi=>((gL l i).1,ZMa (gL l i).2))) (Zv (λk=>(vx k (λi=>((gL l i).1.1,(gL l i).1.2.1,(gL l i).1.2.2.1,(gL l i).1.2.2.2,ZMa (gL l i).2)),vx k (λi=>((gL l i).1,ZMa (gL l i).2)),(k:Int))) l.length rfl (by omega) (λk hk=>?_) ?_) rfl
 ·simp only;rw[dTq (by omega),Ze,idx_gL hk,Za,Za,ZBb k (λi=>((gL l i).1.1,(gL l i).1.2.1,(gL l i).1.2.2.1,(gL l i).1.2.2.2,ZMa (gL l i).2)),Z6 (by rw[Zw];omega),Za,Za,ZBb k (λi=>((gL l i).1,ZMa (gL l i).2)),Z6 (by rw[Zw];omega),Za,Zi (by omega) (by omega),Za];rfl
 ·simp only;rw[dFq (by omega),Zd]
def inS (t:Int×Int×Int×Int):Prop:=(1≤t.1∧t.1≤8)∧(1≤t.2.1∧t.2.1≤8)∧(1≤t.2.2.1∧t.2.2.1≤8)∧1≤t.2.2.2∧t.2.2.2≤8
def inL (t o:Int×Int×Int×Int):Prop:=(0≤o.1∧o.1<t.1)∧(0≤o.2.1∧o.2.1<t.2.1)∧(0≤o.2.2.1∧o.2.2.1<t.2.2.1)∧0≤o.2.2.2∧o.2.2.2<t.2.2.2
theorem ZVl {P:Option Int→Prop} {x:Int} {f:Bool→Option Int} (h1:(x<1∨8<x)→P (f true)) (h2:1≤x∧x≤8→P (f false)):P (bnd (α:=Bool) (ifb (decide (x<(1:Int))) (some true) (some (decide ((8:Int)<x)))) f):=by
 by_cases a:x<1
 ·rw[dTq a,Ze,Za];exact h1 (.inl a)
 ·rw[dFq a,Zd,Za];by_cases b:8<x
  ·rw[dTq b];exact h1 (.inr b)
  ·rw[dFq b];exact h2 ⟨by omega,by omega⟩
theorem ZDA (t:Int×Int×Int×Int) (n:Nat) (o:Nat→Int×Int×Int×Int) (w:Nat→Rat) (hn:n≤1000):∃ z,Zqf t (vx n λi=>(o i,w i))=some z∧(z=0→inS t∧1≤n∧∀ i,i<n→inL t (o i)):=by
 let PP:Option Int→Prop:=λy=>∃ z,y=some z∧(z=0→inS t∧1≤n∧∀ i,i<n→inL t (o i))
 show PP _;unfold Zqf;refine ZVl (P:=PP) (λ_=>?_) (λs1=>?_)
 ·rw[Ze];exact⟨1,rfl,λh=>by omega⟩
 rw[Zd];refine ZVl (P:=PP) (λ_=>?_) (λs2=>?_)
 ·rw[Ze];exact⟨1,rfl,λh=>by omega⟩
 rw[Zd];refine ZVl (P:=PP) (λ_=>?_) (λs3=>?_)
 ·rw[Ze];exact⟨1,rfl,λh=>by omega⟩
 rw[Zd];refine ZVl (P:=PP) (λ_=>?_) (λs4=>?_)
 ·rw[Ze];exact⟨1,rfl,λh=>by omega⟩
 rw[Zd,Zw];by_cases h0:n<1
 ·rw[dTq (by omega),Ze,Za,Ze];exact⟨4,rfl,λh=>by omega⟩
 rw[dFq (by omega),Zd,Za];by_cases h32:32<n
 ·rw[dTq (by omega),Ze];exact⟨4,rfl,λh=>by omega⟩
 rw[dFq (by omega),Zd];refine Zye (λk s=>s=(k:Int)∧∀ i,i<k→inL t (o i)) (λr=>(r = .inl ()∧∀ i,i<n→inL t (o i))∨r = .inr 1) n ⟨rfl,λi hi=>by omega⟩ (by omega) (λk s hk hs=>?_) (λr hr=>?_)
 ·obtain⟨rfl,h⟩:=hs;by_cases hlt:k<n
  ·have two:∀ {x y:Int} {f:Bool→Option (Int ⊕ (Unit ⊕ Int))} {Q:Option (Int ⊕ (Unit ⊕ Int))→Prop} {g g':(Int×Int×Int×Int)×Rat→Int},g (o k,w k)=x→g' (o k,w k)=x→((x<0∨y≤x)→Q (f true))→(0≤x∧x<y→Q (f false))→Q (bnd (α:=Bool) (bnd (idx (vx n λi=>(o i,w i)) (k:Int)) λy7=>ifb (decide (g y7<(0:Int))) (some true) (bnd (idx (vx n λi=>(o i,w i)) (k:Int)) λy8=>some (decide (y≤g' y8)))) f):=by
    intro x y f Q g g' e1 e2 h1 h2;rw[ZF _ hlt,Za,Za,e1,e2];by_cases a:x<0
    ·rw[dTq a,Ze,Za];exact h1 (.inl a)
    ·rw[dFq a,Zd,Za];by_cases b:y≤x
     ·rw[dTq b];exact h1 (.inr b)
     ·rw[dFq b];exact h2 ⟨by omega,by omega⟩
   rw[dTq (by omega),Ze]
   let Q:Option (Int ⊕ (Unit ⊕ Int))→Prop:=λy=>(∃ s',k<n∧y=some (.inl s')∧s'=((k+1:Nat):Int)∧∀ i,i<k+1→inL t (o i)) ∨ ∃ r,y=some (.inr r)∧((r = .inl ()∧∀ i,i<n→inL t (o i))∨r = .inr 1)
   refine two (Q:=Q) (g:=λy=>y.1.1) (g':=λy=>y.1.1) rfl rfl (λ_=>?_) (λu1=>?_)
   ·rw[Ze];exact .inr ⟨_,rfl,.inr rfl⟩
   rw[Zd];refine two (Q:=Q) (g:=λy=>y.1.2.1) (g':=λy=>y.1.2.1) rfl rfl (λ_=>?_) (λu2=>?_)
   ·rw[Ze];exact .inr ⟨_,rfl,.inr rfl⟩
   rw[Zd];refine two (Q:=Q) (g:=λy=>y.1.2.2.1) (g':=λy=>y.1.2.2.1) rfl rfl (λ_=>?_) (λu3=>?_)
   ·rw[Ze];exact .inr ⟨_,rfl,.inr rfl⟩
   rw[Zd];refine two (Q:=Q) (g:=λy=>y.1.2.2.2) (g':=λy=>y.1.2.2.2) rfl rfl (λ_=>?_) (λu4=>?_)
   ·rw[Ze];exact .inr ⟨_,rfl,.inr rfl⟩
   rw[Zd,Zi (by omega) (by omega),Za];refine .inl ⟨_,hlt,rfl,rfl,λi hi=>?_⟩;by_cases e:i=k
   ·subst e;exact⟨u1,u2,u3,u4⟩
   ·exact h i (by omega)
  ·right;obtain rfl:k=n:=by omega
   exact⟨_,by rw[dFq (by omega),Zd],.inl ⟨rfl,h⟩⟩
 ·rcases hr with ⟨rfl,h⟩ | rfl
  ·exact⟨0,rfl,λ_=>⟨⟨s1,s2,s3,s4⟩,by omega,h⟩⟩
  ·exact⟨1,rfl,λh=>by omega⟩
noncomputable def Zdf  : Option (Rat) :=
 bnd (Z0 (1:Int)) λa =>
 some a
noncomputable def Zah (sizes:Int×Int×Int×Int) (l:List ((Int×Int×Int×Int)×Rat)):Option (List (List ((Rat×Rat×Rat×Rat)×Rat×Rat×Rat×Rat))) :=
 bnd (chk .i64 (sizes.1+sizes.2.1)) λq =>
 bnd (chk .i64 (q+sizes.2.2.1)) λr =>
 bnd (chk .i64 (r+sizes.2.2.2)) λs =>
 bnd (ZPd (l.length:Int) s) λt =>
 bnd (Zh (σ:=Int×(List (List ((Rat×Rat×Rat×Rat)×Rat×Rat×Rat×Rat)))) (ρ:=List (List ((Rat×Rat×Rat×Rat)×Rat×Rat×Rat×Rat))) (λa =>
 ifb (decide (a.1<(l.length:Int)))
 (bnd (idx a.2 a.1) λb =>
 bnd (idx l a.1) λu =>
 bnd (chk .i64 ((0:Int)+u.1.1)) λc =>
 bnd Zdf λv =>
 bnd (ZBc v) λd =>
 bnd (idx b c) λF =>
 bnd (chk .i64 ((0:Int)+sizes.1)) λj =>
 bnd (idx (a.2.set a.1.toNat (b.set c.toNat d)) a.1) λe =>
 bnd (idx l a.1) λw =>
 bnd (chk .i64 (j+w.1.2.1)) λf =>
 bnd Zdf λx =>
 bnd (ZBc x) λg =>
 bnd (idx e f) λG =>
 bnd (chk .i64 (j+sizes.2.1)) λk =>
 bnd (idx ((a.2.set a.1.toNat (b.set c.toNat d)).set a.1.toNat (e.set f.toNat g)) a.1) λh =>
 bnd (idx l a.1) λy =>
 bnd (chk .i64 (k+y.1.2.2.1)) λi =>
 bnd Zdf λz =>
 bnd (ZBc z) λm =>
 bnd (idx h i) λH =>
 bnd (chk .i64 (k+sizes.2.2.1)) λn =>
 bnd (idx (((a.2.set a.1.toNat (b.set c.toNat d)).set a.1.toNat (e.set f.toNat g)).set a.1.toNat (h.set i.toNat m)) a.1) λo =>
 bnd (idx l a.1) λA =>
 bnd (chk .i64 (n+A.1.2.2.2)) λp =>
 bnd Zdf λB =>
 bnd (ZBc B) λC =>
 bnd (idx o p) λI =>
 bnd (chk .i64 (n+sizes.2.2.2)) λJ =>
 bnd (chk .i64 (a.1+(1:Int))) λD =>
 some (.inl (D,(((a.2.set a.1.toNat (b.set c.toNat d)).set a.1.toNat (e.set f.toNat g)).set a.1.toNat (h.set i.toNat m)).set a.1.toNat (o.set p.toNat C))))
 (some (.inr a.2)))
  Zj ((0:Int),t)) λE =>
 some E
noncomputable def Zej (sizes:Int×Int×Int×Int) (a:Int) (b:Int):Option (List ((Rat×Rat×Rat×Rat)×Rat×Rat×Rat×Rat)) :=
 bnd (chk .i64 (sizes.1+sizes.2.1)) λe =>
 bnd (chk .i64 (e+sizes.2.2.1)) λf =>
 bnd (chk .i64 (f+sizes.2.2.2)) λg =>
 bnd (ZPd (1:Int) g) λh =>
 bnd (idx h (0:Int)) λc =>
 bnd (α:=List ((Rat×Rat×Rat×Rat)×Rat×Rat×Rat×Rat))
 (ifb (a != b)
 (bnd Zdf λi =>
 bnd (ZBc i) λd =>
 bnd (idx c a) λm =>
 bnd (Z0 (-1:Int)) λj =>
 bnd (ZBc j) λk =>
 bnd (idx (c.set a.toNat d) b) λn =>
 some ((c.set a.toNat d).set b.toNat k))
 (some c)) λl =>
 some l
noncomputable def Zli (sizes:Int×Int×Int×Int) (l:List ((Int×Int×Int×Int)×Rat)) (a:Int) (b:Int):Option (Bool×(List ((Rat×Rat×Rat×Rat)×Rat×Rat×Rat×Rat))) :=
 bnd (Zah sizes l) λd =>
 bnd (Zej sizes a b) λe =>
 bnd (Z0c d e) λc =>
 some (c.1,c.2.1)
noncomputable def Z0h (sizes:Int×Int×Int×Int) (l:List ((Int×Int×Int×Int)×Rat)) (a:Int) (b:Int):Option (Rat×Int) :=
 bnd (Zh (σ:=(List ((Rat×Rat×Rat×Rat)×Rat×Rat×Rat×Rat))×Int) (ρ:=List ((Rat×Rat×Rat×Rat)×Rat×Rat×Rat×Rat)) (λc =>
 ifb (decide (c.2<(l.length:Int)))
 (bnd (idx l c.2) λf =>
 bnd (ZBc f.2) λd =>
 bnd (Zy 448 (c.1++[d])) λ_ =>
 bnd (chk .i64 (c.2+(1:Int))) λg =>
 some (.inl (c.1++[d],g)))
 (some (.inr c.1)))
  Zj (([]:List ((Rat×Rat×Rat×Rat)×Rat×Rat×Rat×Rat)),(0:Int))) λh =>
 bnd (Zah sizes l) λi =>
 bnd (Zej sizes a b) λj =>
 bnd (ZKo i h j) λe =>
 some (e.1.1.1,e.2)
def putM (M:Mx) (k a:Nat) (v:Rat):Mx:=λr l=>if r=k then (if l=a then v else M k l) else M r l
theorem Zwk {R n:Nat} (M:Mx) (k a:Nat) (v:Rat):(mxW R n M).set k ((vx n λj=>wq (M k j)).set a (wq v))=mxW R n (putM M k a v):=ZEj M k a v
theorem ZIp:Zdf=some (1:Rat):=by unfold Zdf Z0;rw[Za];rfl
section
variable {t c d p R:Nat} {A B C D:Nat→Nat} {w:Nat→Rat}
def rlg (R:Nat) (A B C D:Nat→Nat) (w:Nat→Rat):List ((Int×Int×Int×Int)×Rat):=vx R λi=>(((A i:Int),(B i:Int),(C i:Int),(D i:Int)),w i)
theorem Legs.rdes (h:Legs t c d p R A B C D):Zah ((t:Int),(c:Int),(d:Int),(p:Int)) (rlg R A B C D w)=some (mxW R (t+c+d+p) (Zz t c d A B C D)):=by
 have t1:=h.t1;have c1:=h.c1;have d1:=h.d1;have p1:=h.p1;have r1:=h.r1;have s1:(t:Int)+(c:Int)=((t+c:Nat):Int):=by omega
 have s2:((t+c:Nat):Int)+(d:Int)=((t+c+d:Nat):Int):=by omega
 have s3:((t+c+d:Nat):Int)+(p:Int)=((t+c+d+p:Nat):Int):=by omega
 have hl:(rlg R A B C D w).length=R:=Zw _ _;unfold Zah;simp only;rw[s1,Zi (by omega) (by omega),Za,s2,Zi (by omega) (by omega),Za,s3,Zi (by omega) (by omega),Za,hl,Zen (by omega) (by omega),Za];refine Zq (y:=mxW R (t+c+d+p) (Zz t c d A B C D)) (Zv (λk=>((k:Int),mxW R (t+c+d+p) (λi j=>if i<k then Zz t c d A B C D i j else 0))) R ?_ (by omega) (λk hk=>?_) ?_) rfl
 ·exact Prod.ext rfl (Zec λi hi j hj=>iN (by omega))
 ·have ha:=h.a k hk;have hb:=h.b k hk;have hc:=h.cc k hk;have hd:=h.dd k hk;have hli:idx (rlg R A B C D w) (k:Int)=some (((A k:Int),(B k:Int),(C k:Int),(D k:Int)),w k):=ZF _ hk;have hrow:∀ M:Mx,idx (mxW R (t+c+d+p) M) (k:Int)=some (vx (t+c+d+p) λj=>wq (M k j)):=λM=>ZCa M hk;have c0:chk .i64 ((0:Int)+(A k:Int))=some ((A k:Nat):Int):=by rw[show (0:Int)+(A k:Int)=((A k:Nat):Int) by omega];exact Zi (by omega) (by omega)
  have c2:chk .i64 ((0:Int)+(t:Int))=some ((t:Nat):Int):=by rw[show (0:Int)+(t:Int)=((t:Nat):Int) by omega];exact Zi (by omega) (by omega)
  have c3:chk .i64 ((t:Int)+(B k:Int))=some ((t+B k:Nat):Int):=by rw[show (t:Int)+(B k:Int)=((t+B k:Nat):Int) by omega];exact Zi (by omega) (by omega)
  have c4:chk .i64 ((t:Int)+(c:Int))=some ((t+c:Nat):Int):=by rw[s1];exact Zi (by omega) (by omega)
  have c5:chk .i64 (((t+c:Nat):Int)+(C k:Int))=some ((t+c+C k:Nat):Int):=by rw[show ((t+c:Nat):Int)+(C k:Int)=((t+c+C k:Nat):Int) by omega];exact Zi (by omega) (by omega)
  have c6:chk .i64 (((t+c:Nat):Int)+(d:Int))=some ((t+c+d:Nat):Int):=by rw[s2];exact Zi (by omega) (by omega)
  have c7:chk .i64 (((t+c+d:Nat):Int)+(D k:Int))=some ((t+c+d+D k:Nat):Int):=by rw[show ((t+c+d:Nat):Int)+(D k:Int)=((t+c+d+D k:Nat):Int) by omega];exact Zi (by omega) (by omega)
  have c8:chk .i64 (((t+c+d:Nat):Int)+(p:Int))=some ((t+c+d+p:Nat):Int):=by rw[s3];exact Zi (by omega) (by omega)
  have c9:chk .i64 ((k:Int)+1)=some ((k+1:Nat):Int):=by rw[Zi (by omega) (by omega)];rfl
  have v0:∀ f:Nat→Rat,idx (vx (t+c+d+p) λj=>wq (f j)) ((A k:Nat):Int)=some (wq (f (A k))):=λf=>ZBa f (by omega);have v1:∀ f:Nat→Rat,idx (vx (t+c+d+p) λj=>wq (f j)) ((t+B k:Nat):Int)=some (wq (f (t+B k))):=λf=>ZBa f (by omega);have v2:∀ f:Nat→Rat,idx (vx (t+c+d+p) λj=>wq (f j)) ((t+c+C k:Nat):Int)=some (wq (f (t+c+C k))):=λf=>ZBa f (by omega);have v3:∀ f:Nat→Rat,idx (vx (t+c+d+p) λj=>wq (f j)) ((t+c+d+D k:Nat):Int)=some (wq (f (t+c+d+D k))):=λf=>ZBa f (by omega);simp only;generalize hM:(λi j=>if i<k then Zz t c d A B C D i j else (0:Rat))=M;rw[dTq (by omega),Ze,hrow,Za,hli];simp only[Za];rw[c0,Za,ZIp];simp only[Za];rw[Zwh];simp only[Za];rw[v0,Za,c2,Za,tN,tN,Zwk,hrow,Za,c3,Za,v1,Za,c4,Za,tN,Zwk,hrow,Za,c5,Za,v2,Za,c6,Za,tN,Zwk,hrow,Za,c7,Za,v3,Za,c8,Za,c9,Za,tN,Zwk];refine congrArg (λx=>some (Sum.inl x)) (Prod.ext rfl (Zec λi hi j hj=>?_));unfold putM;by_cases e:i=k
  ·subst e;rw[iP rfl,iP (Nat.lt_succ_self i),← hM];simp only[iP];rw[iN (Nat.lt_irrefl i)];unfold Zz ind;by_cases e1:j=t+c+d+D i
   ·rw[iP e1,iN (by omega),iN (by omega),iN (by omega),iP e1];grind
   ·rw[iN e1,iN e1];by_cases e2:j=t+c+C i
    ·rw[iP e2,iN (by omega),iN (by omega),iP e2];grind
    ·rw[iN e2,iN e2];by_cases e3:j=t+B i
     ·rw[iP e3,iN (by omega),iP e3];grind
     ·rw[iN e3,iN e3];by_cases e4:j=A i
      ·rw[iP e4];grind
      ·rw[iN e4];grind
  ·rw[iN e,iN e,iN e,iN e,← hM];simp only;by_cases e3:i<k
   ·rw[iP e3,iP (by omega)]
   ·rw[iN e3,iN (by omega)]
 ·simp only;rw[dFq (by omega),Zd];exact congrArg (λx=>some (Sum.inr x)) (Zec λi hi j hj=>iP hi)
theorem Legs.rctr (h:Legs t c d p R A B C D) {a b:Nat} (ha:a<t) (hb:b<t):Zej ((t:Int),(c:Int),(d:Int),(p:Int)) (a:Int) (b:Int)=some (vx (t+c+d+p) λj=>wq (ctr a b j)):=by
 have t1:=h.t1;have c1:=h.c1;have d1:=h.d1;have p1:=h.p1;have s1:(t:Int)+(c:Int)=((t+c:Nat):Int):=by omega
 have s2:((t+c:Nat):Int)+(d:Int)=((t+c+d:Nat):Int):=by omega
 have s3:((t+c+d:Nat):Int)+(p:Int)=((t+c+d+p:Nat):Int):=by omega
 have hE:ZPd (1:Int) ((t+c+d+p:Nat):Int)=some (mxW 1 (t+c+d+p) λ_ _=>0):=Zen (r:=1) (by omega) (by omega);have h0:idx (mxW 1 (t+c+d+p) λ_ _=>0) (0:Int)=some (vx (t+c+d+p) λj=>wq 0):=ZCa (R:=1) (n:=t+c+d+p) (i:=0) (λ_ _=>0) (by omega);unfold Zej;simp only;rw[s1,Zi (by omega) (by omega),Za,s2,Zi (by omega) (by omega),Za,s3,Zi (by omega) (by omega),Za,hE,Za,h0,Za];refine Zq (y:=vx (t+c+d+p) λj=>wq (ctr a b j)) ?_ rfl;by_cases e:a=b
 ·subst e;rw[show ((a:Int) != (a:Int))=false by simp,Zd];refine congrArg some (ZG λj hj=>congrArg wq ?_);unfold ctr;grind
 ·rw[show ((a:Int) != (b:Int))=true by simp only[bne_iff_ne,ne_eq];omega,Ze,ZIp,Za,Zwh,Za,ZF _ (show a<t+c+d+p by omega),Za,show Z0 (-1:Int)=some ((-1:Int):Rat) from rfl,Za,Zwh,Za,tN,tN,Zea,ZF _ (show b<t+c+d+p by omega),Za,Zea];refine congrArg some (ZG λj hj=>?_);unfold ctr ind;by_cases e1:j=b
  ·rw[iP e1,iP e1,iN (by omega)];exact congrArg wq (by show ((-1:Int):Rat)=0-1;decide +kernel)
  ·rw[iN e1,iN e1];by_cases e2:j=a
   ·rw[iP e2,iP e2];exact congrArg wq (by decide +kernel)
   ·rw[iN e2,iN e2];exact congrArg wq (by decide +kernel)
end
theorem Zra {β:Type} {a t:Int} {bd nx:Option β} (h:0≤a∧a<t):bnd (α:=Bool) (ifb (decide (a<(0:Int))) (some true) (some (decide (t≤a)))) (λx=>ifb x bd nx)=nx:=by
 rw[dFq (by omega),Zd,Za,dFq (by omega),Zd]
theorem Z4e {β:Type} {a t:Int} {bd nx:Option β} (h:¬ (0≤a∧a<t)):bnd (α:=Bool) (ifb (decide (a<(0:Int))) (some true) (some (decide (t≤a)))) (λx=>ifb x bd nx)=bd:=by
 by_cases h1:a<0
 ·rw[dTq h1,Ze,Za,Ze]
 ·rw[dFq h1,Zd,Za,dTq (by omega),Ze]
theorem Zac {β:Type} {a:Int} {bd nx:Option β} (h:1≤a∧a≤8):bnd (α:=Bool) (ifb (decide (a<(1:Int))) (some true) (some (decide ((8:Int)<a)))) (λx=>ifb x bd nx)=nx:=by
 rw[dFq (by omega),Zd,Za,dFq (by omega),Zd]
theorem ZEi {β:Type} {a:Int} {bd nx:Option β} (h:¬ (1≤a∧a≤8)):bnd (α:=Bool) (ifb (decide (a<(1:Int))) (some true) (some (decide ((8:Int)<a)))) (λx=>ifb x bd nx)=bd:=by
 by_cases h1:a<1
 ·rw[dTq h1,Ze,Za,Ze]
 ·rw[dFq h1,Zd,Za,dTq (by omega),Ze]
theorem ZOv (T:Int×Int×Int×Int) (n:Nat) (o:Nat→Int×Int×Int×Int) (w:Nat→Rat) (hn:n≤1000):∃ z,Zqf T (vx n λi=>(o i,w i))=some z∧ZGg T (vx n λi=>((o i).1,(o i).2.1,(o i).2.2.1,(o i).2.2.2,w i))=some z:=by
  obtain⟨a,b,c,d⟩:=T;unfold Zqf ZGg Zoe;simp only[Za];have lp:∀ k:Nat,k≤4→(∀ i,i<k→1≤[a,b,c,d].getD i 0∧[a,b,c,d].getD i 0≤8)→(k<4→¬ (1≤[a,b,c,d].getD k 0∧[a,b,c,d].getD k 0≤8))→Zh (σ:=Int) (ρ:=Unit ⊕ Int) (λs2 =>
      ifb (decide (s2<([a,b,c,d].length:Int)))
      (bnd (idx [a,b,c,d] s2) λy3 =>
       bnd (α:=Bool)
       (ifb (decide (y3<(1:Int)))
        (some true)
        (some (decide ((8:Int)<y3)))) λx4 =>
       ifb x4
       (some (.inr (.inr s2)))
       (bnd (chk .i64 (s2+(1:Int))) λy5 =>
        some (.inl y5)))
      (some (.inr (.inl ())))) Zj (0:Int)=some (if k<4 then .inr (k:Int) else .inl ()):=λk hk hg hb=>by
    have hi:∀ i:Nat,i<4→idx [a,b,c,d] (i:Int)=some ([a,b,c,d].getD i 0):=λi hi=>by
      have:i=0∨i=1∨i=2∨i=3:=by omega
      rcases this with rfl | rfl | rfl | rfl <;> rfl
    have hlen:(([a,b,c,d].length:Nat):Int)=4:=rfl;refine Zv (λk=>(k:Int)) k rfl (by omega) (λi hik=>?_) ?_
    · rw[hlen,dTq (by omega),Ze,hi i (by omega),Za,Zac (hg i hik),Zi (by omega) (by omega),Za];rfl
    · by_cases h4:k<4
      · rw[iP h4,hlen,dTq (by omega),Ze,hi k h4,Za,ZEi (hb h4)]
      · rw[iN h4,hlen,dFq (by omega),Zd]
  have bad:∀ k:Nat,k<4→Zh (σ:=Int) (ρ:=Unit ⊕ Int) (λs2 =>
      ifb (decide (s2<([a,b,c,d].length:Int)))
      (bnd (idx [a,b,c,d] s2) λy3 =>
       bnd (α:=Bool)
       (ifb (decide (y3<(1:Int)))
        (some true)
        (some (decide ((8:Int)<y3)))) λx4 =>
       ifb x4
       (some (.inr (.inr s2)))
       (bnd (chk .i64 (s2+(1:Int))) λy5 =>
        some (.inl y5)))
      (some (.inr (.inl ())))) Zj (0:Int)=some (if k<4 then .inr (k:Int) else .inl ())→∀ f:Int→Option Int,(f (k:Int)=some 1)→∀ L,L=Zh (σ:=Int) (ρ:=Unit ⊕ Int) (λs2 =>
      ifb (decide (s2<([a,b,c,d].length:Int)))
      (bnd (idx [a,b,c,d] s2) λy3 =>
       bnd (α:=Bool)
       (ifb (decide (y3<(1:Int)))
        (some true)
        (some (decide ((8:Int)<y3)))) λx4 =>
       ifb x4
       (some (.inr (.inr s2)))
       (bnd (chk .i64 (s2+(1:Int))) λy5 =>
        some (.inl y5)))
      (some (.inr (.inl ())))) Zj (0:Int)→bnd (bnd L λx6=>match x6 with | .inl r7=>(some (-1:Int)) | .inr r8=>(some r8)) f=some 1:=λk hk e f hf L hL=>by
    rw[hL,e,iP hk,Za];simp only;rw[Za,hf]
  by_cases h1:1≤a∧a≤8
  case neg=>exact⟨1,ZEi h1,bad 0 (by omega) (lp 0 (by omega) (λi hi=>by omega) λ_=>h1) _ (by exact rfl) _ (by exact rfl)⟩
  by_cases h2:1≤b∧b≤8
  case neg=>exact⟨1,by rw[Zac h1];exact ZEi h2,bad 1 (by omega) (lp 1 (by omega) (λi hi=>by have e:i=0:=(by omega);subst e;exact h1) λ_=>h2) _ (by exact rfl) _ (by exact rfl)⟩
  by_cases h3:1≤c∧c≤8
  case neg=>exact⟨1,by rw[Zac h1,Zac h2];exact ZEi h3,bad 2 (by omega) (lp 2 (by omega) (λi hi=>by
    rcases (show i=0∨i=1 by omega) with rfl | rfl
    · exact h1
    · exact h2) λ_=>h3) _ (by exact rfl) _ (by exact rfl)⟩
  by_cases h4:1≤d∧d≤8
  case neg=>exact⟨1,by rw[Zac h1,Zac h2,Zac h3];exact ZEi h4,bad 3 (by omega) (lp 3 (by omega) (λi hi=>by
    rcases (show i=0∨i=1∨i=2 by omega) with rfl | rfl | rfl
    · exact h1
    · exact h2
    · exact h3) λ_=>h4) _ (by exact rfl) _ (by exact rfl)⟩
  have l4:=lp 4 (by omega) (λi hi=>by
    rcases (show i=0∨i=1∨i=2∨i=3 by omega) with rfl | rfl | rfl | rfl
    · exact h1
    · exact h2
    · exact h3
    · exact h4) (λh=>by omega)
  rw[Zac h1,Zac h2,Zac h3,Zac h4,l4,iN (by omega),Za];simp only;rw[Za,show decide ((0:Int)≤-1)=false from rfl,Zd,Zw,Zw];by_cases h0:n<1
  · exact⟨4,by rw[dTq (by omega),Ze,Za,Ze],by rw[show ((n:Int)==(0:Int))=true by rw[beq_iff_eq];omega,Ze,Za,Ze]⟩
  rw[dFq (by omega:¬ (n:Int)<1),Zd,Za,show ((n:Int)==(0:Int))=false by rw[beq_eq_false_iff_ne];omega,Zd,Za];by_cases h32:32<n
  · exact⟨4,by rw[dTq (by omega),Ze],by rw[dTq (by omega),Ze]⟩
  rw[dFq (by omega),Zd,Zd];rcases Zvh (λi=>inL (a,b,c,d) (o i)) n with hall | ⟨k,hk,hb,hbef⟩
  · refine⟨0,Zq (y:=.inl ()) (Zv (λk=>(k:Int)) n rfl (by omega) (λi hi=>?_) ?_) rfl,Zq (y:=.inl ()) (Zv (λk=>(k:Int)) n rfl (by omega) (λi hi=>?_) ?_) rfl⟩
    · obtain⟨u1,u2,u3,u4⟩:=hall i hi;rw[dTq (by omega),Ze,ZF _ hi];simp only[Za];rw[Zra u1,Zra u2,Zra u3,Zra u4,Zi (by omega) (by omega),Za];rfl
    · rw[dFq (by omega),Zd]
    · obtain⟨u1,u2,u3,u4⟩:=hall i hi;unfold Zyf;rw[dTq (by omega),Ze,ZF _ hi];simp only[Za];rw[Zra u1,Zra u2,Zra u3,Zra u4,Zi (by omega) (by omega),Za];rfl
    · rw[dFq (by omega),Zd]
  · refine⟨1,Zq (y:=.inr 1) (Zv (λk=>(k:Int)) k rfl (by omega) (λi hi=>?_) ?_) rfl,Zq (y:=.inr 1) (Zv (λk=>(k:Int)) k rfl (by omega) (λi hi=>?_) ?_) rfl⟩
    · obtain⟨u1,u2,u3,u4⟩:=hbef i hi;rw[dTq (by omega),Ze,ZF _ (show i<n by omega)];simp only[Za];rw[Zra u1,Zra u2,Zra u3,Zra u4,Zi (by omega) (by omega),Za];rfl
    · rw[dTq (by omega),Ze,ZF _ hk];simp only[Za];by_cases u1:0≤(o k).1∧(o k).1<a
      case neg=>rw[Z4e u1]
      by_cases u2:0≤(o k).2.1∧(o k).2.1<b
      case neg=>rw[Zra u1,Z4e u2]
      by_cases u3:0≤(o k).2.2.1∧(o k).2.2.1<c
      case neg=>rw[Zra u1,Zra u2,Z4e u3]
      by_cases u4:0≤(o k).2.2.2∧(o k).2.2.2<d
      case neg=>rw[Zra u1,Zra u2,Zra u3,Z4e u4]
      exact absurd ⟨u1,u2,u3,u4⟩ hb
    · obtain⟨u1,u2,u3,u4⟩:=hbef i hi;unfold Zyf;rw[dTq (by omega),Ze,ZF _ (show i<n by omega)];simp only[Za];rw[Zra u1,Zra u2,Zra u3,Zra u4,Zi (by omega) (by omega),Za];rfl
    · unfold Zyf;rw[dTq (by omega),Ze,ZF _ hk];simp only[Za];by_cases u1:0≤(o k).1∧(o k).1<a
      case neg=>rw[Z4e u1]
      by_cases u2:0≤(o k).2.1∧(o k).2.1<b
      case neg=>rw[Zra u1,Z4e u2]
      by_cases u3:0≤(o k).2.2.1∧(o k).2.2.1<c
      case neg=>rw[Zra u1,Zra u2,Z4e u3]
      by_cases u4:0≤(o k).2.2.2∧(o k).2.2.2<d
      case neg=>rw[Zra u1,Zra u2,Zra u3,Z4e u4]
      exact absurd ⟨u1,u2,u3,u4⟩ hb
section
variable {t c d p R:Nat} {A B C D:Nat→Nat} {w:Nat→Rat}
theorem Legs.comp (h:Legs t c d p R A B C D) {a b:Nat} (ha:a<t) (hb:b<t) :
  (Zsd ((t:Int),(c:Int),(d:Int),(p:Int)) (lgs R A B C D w) (a:Int) (b:Int)=some (true,[],0)∧Z0c (mxW R (t+c+d+p) (Zz t c d A B C D)) (vx (t+c+d+p) λj=>wq (ctr a b j))=some (true,[],0)∧∀ v,Ker R (t+c+d+p) (Zz t c d A B C D) v→v a=v b) ∨
  ∃ v,(∀ j,j<t+c+d+p→sz 8589934591 (v j))∧Zsd ((t:Int),(c:Int),(d:Int),(p:Int)) (lgs R A B C D w) (a:Int) (b:Int)=some (false,vx (t+c+d+p) v,0)∧Z0c (mxW R (t+c+d+p) (Zz t c d A B C D)) (vx (t+c+d+p) λj=>wq (ctr a b j))=some (false,vx (t+c+d+p) (λj=>wq (v j)),0)∧∃ u,Ker R (t+c+d+p) (Zz t c d A B C D) u∧u a≠u b:=by
 have t1:=h.t1;have c1:=h.c1;have d1:=h.d1;have p1:=h.p1;have r1:=h.r1;have k29:8*kk 1 29≤38000000000:=by decide
 obtain⟨y,hy,hcase⟩:=Ztz (h.design (w:=w)) h.cols (λe=>by omega) r1.2 (by omega) (by simp only;omega) (show (a:Int)<(t:Int) by omega) (show (b:Int)<(t:Int) by omega) h.cd;have hE:∀ z,Znd (mx R (t+c+d+p) (Zz t c d A B C D)) (vx (t+c+d+p) (ctr a b))=some z→Zsd ((t:Int),(c:Int),(d:Int),(p:Int)) (lgs R A B C D w) (a:Int) (b:Int)=some z:=λz hz=>by
  unfold Zsd;rw[Z7l (h.design (w:=w)) h.cols (by omega) (by simp only;omega) (by simp only;omega) (by simp only;omega),Za,show ((mx R (t+c+d+p) (Zz t c d A B C D),vx (t+c+d+p) (ctr a b),(0:Int)).2.2 != (0:Int))=false from rfl,Zd];simp only;rw[hz,Za]
 rcases ZUx (r:=29) (M:=Zz t c d A B C D) (λe=>by omega) r1.2 (by omega) h.cd (show a<t+c+d+p by omega) (show b<t+c+d+p by omega) (λk N piv hk e=>h.rank hk e) k29 with ⟨e1,e2⟩ | ⟨v,hv,e1,e2⟩
 ·left;have e1:=hE _ e1;refine⟨e1,e2,?_⟩;rw[hy]at e1;rcases hcase with ⟨_,hk⟩ | ⟨v,_,_,rfl,_⟩
  ·exact hk
  ·cases Option.some.inj e1
 ·right;have e1:=hE _ e1;refine⟨v,hv,e1,e2,?_⟩;rw[hy]at e1;rcases hcase with ⟨rfl,_⟩ | ⟨u,h1,h2,_,_⟩
  ·cases Option.some.inj e1
  ·exact⟨u,h1,h2⟩
theorem Legs.rcomp (h:Legs t c d p R A B C D) {a b:Nat} (ha:a<t) (hb:b<t) {o:Bool} {l:List WR} {z:Int} (e:Z0c (mxW R (t+c+d+p) (Zz t c d A B C D)) (vx (t+c+d+p) λj=>wq (ctr a b j))=some (o,l,z)):Zli ((t:Int),(c:Int),(d:Int),(p:Int)) (rlg R A B C D w) (a:Int) (b:Int)=some (o,l):=by
 unfold Zli;rw[h.rdes,Za,h.rctr ha hb,Za,e,Za]
theorem Legs.both (h:Legs t c d p R A B C D) (hw:∀ i,i<R→sz 64 (w i)) {a b:Nat} (ha:a<t) (hb:b<t) :
  ∃ q z,sz 10000000000 q∧ZNe ((t:Int),(c:Int),(d:Int),(p:Int)) (lgs R A B C D w) (a:Int) (b:Int)=some (q,z)∧Z0h ((t:Int),(c:Int),(d:Int),(p:Int)) (rlg R A B C D w) (a:Int) (b:Int)=some (q,z):=by
 have t1:=h.t1;have c1:=h.c1;have d1:=h.d1;have p1:=h.p1;have r1:=h.r1;have hM:∀ i j,i<R→j<t+c+d+p→∃ N:Int,Zz t c d A B C D i j=(N:Rat)∧0≤N∧N≤1:=λi j hi hj=>ZDq (h.a i hi) (Nat.le_add_right _ _) (Nat.add_lt_add_left (h.b i hi) t) (Nat.le_add_right _ _) (Nat.add_lt_add_left (h.cc i hi) (t+c)) (Nat.le_add_right _ _);have hnm:=nm_w (k:=64) r1.2 hM hw;have hδ:64*R≤2048:=by omega
 have k29:kk 7 29=4294967295:=by decide
 obtain⟨x,hx,zx,hX⟩:=h.diff_w (k:=64) (r:=29) hw (by omega) (by omega) h.cd (by omega) hnm (λq M' piv hq e=>h.nrank hq e) (by rw[k29];omega);obtain⟨y,hy,zy,hY⟩:=Zlv (k:=64) (r:=29) (M:=Zz t c d A B C D) (λe=>by omega) (show 0<t+c+d+p by omega) r1.2 (by omega) (λi j hi hj=>ZIo h.cd 64 (by omega) i j hi hj) (by omega) hw (by omega) hnm (λk N piv hk e=>(h.nrank (by omega) e).1) (by rw[k29];omega);rw[k29]at zx zy;have hR:∀ (o:Bool) (l:List WR) (z:Int),Z0c (mxW R (t+c+d+p) (Zz t c d A B C D)) (vx (t+c+d+p) λj=>wq (ctr a b j))=some (o,l,z)→Z0h ((t:Int),(c:Int),(d:Int),(p:Int)) (rlg R A B C D w) (a:Int) (b:Int)=if o=true then some (y a-y b,0) else some (0,5):=λo l z e=>by
  have hl:(rlg R A B C D w).length=R:=Zw _ _;unfold Z0h;rw[hl];refine Zq (y:=vx R λi=>wq (w i)) (Zv (λk=>(vx k (λi=>wq (w i)),(k:Int))) R rfl (by omega) (λk hk=>?_) ?_) ?_
  ·simp only;rw[dTq (by omega),Ze,show idx (rlg R A B C D w) (k:Int)=some (((A k:Int),(B k:Int),(C k:Int),(D k:Int)),w k) from ZF _ hk,Za];simp only;rw[Zwh,Za,ZBb k (λi=>wq (w i)),Z6 (by rw[Zw];omega),Za,Zi (by omega) (by omega),Za];rfl
  ·simp only;rw[dFq (by omega),Zd]
  ·rw[h.rdes,Za,h.rctr ha hb,Za];have pre:∀ f:Bool→Option (WR×Int),bnd (α:=Bool) (bnd (Zzd (mxW R (t+c+d+p) (Zz t c d A B C D))) λy1=>ifb (!y1) (some true) (ifb (((vx R λi=>wq (w i)).length:Int) != ((mxW R (t+c+d+p) (Zz t c d A B C D)).length:Int)) (some true) (bnd (Ztd (mxW R (t+c+d+p) (Zz t c d A B C D))) λy2=>some (((vx (t+c+d+p) λj=>wq (ctr a b j)).length:Int) != y2)))) f=f false:=λf=>by
    rw[Zui _ (by rw[Zza];omega),dTq (Ztj _ (λe=>by omega) r1.2 (by omega)),Za,Z6b,Zw,Zza,show ((R:Int) != (R:Int))=false by simp,Zd,ZGh,ZAf _ (λe=>by omega),Za,Zw,show (((t+c+d+p:Nat):Int) != ((t+c+d+p:Nat):Int))=false by simp,Za]
   unfold ZKo;rw[pre,Zd,e,Za]
   cases o with
   | true =>
    rw[Z6b,hY,Za,Z9q (K:=4294967295+2048) (by omega) (by omega) (by omega) (λj hj=>(zy j hj).mono (by omega)) (by omega) (by omega),Za,Za,ZXl (by omega) (by omega)];rfl
   | false =>
    rw[ZKh,Zbg,Za,Za];rfl
 rcases h.comp (w:=w) ha hb with ⟨_,e2,hk⟩ | ⟨v,_,_,e2,u,hu,hne⟩
 ·have e3:=hR _ _ _ e2;rw[iP rfl]at e3;rcases hX a b ha hb with ⟨e4,_⟩ | ⟨_,u,hu,hne⟩
  ·have hxy:x a-x b=y a-y b:=by
    have hker:Ker R (t+c+d+p) (Zz t c d A B C D) (λj=>x j-y j):=Zku λi hi=>by
     rw[ZR (g:=λj=>nmM R (Zz t c d A B C D) i j*x j-nmM R (Zz t c d A B C D) i j*y j) λj hj=>by grind,Zqh,hx i hi,hy i hi];grind
    have:=hk _ hker
    try simp only at this
    grind
   refine⟨x a-x b,0,(Zxm (zx a (by omega)) (zx b (by omega))).mono (by omega),e4,by rw[e3,hxy]⟩
  ·exact absurd (hk u hu) hne
 ·have e3:=hR _ _ _ e2;rw[iN (by decide)]at e3;rcases hX a b ha hb with ⟨_,hk⟩ | ⟨e4,_⟩
  ·exact absurd (hk u hu) hne
  ·exact⟨0,5,ZH.mono (by omega),e4,e3⟩
end
noncomputable def Zyp (x:Rat):Option (Bool) :=
 bnd (Zzf x) λa =>
 some (decide (a≤(0:Int)))
noncomputable def ZSv (l:(List Rat)) (g:Unit):Option (Int) :=
 bnd (bnd (Zh (λs:Int=>match s with
| a =>
 (ifb (decide (a<(l.length:Int)))
 (bnd (idx l a) λb =>
 bnd (Zyp b) λc =>
 ifb (c)
 (some (.inr ((.inl a))))
 (bnd (chk .i64 (a+(1:Int))) λd =>
 some (.inl d)))
 (some (.inr ((.inr (()))))))) Zj (0:Int))
 (λ(p:(Int) ⊕ (Unit))=>match p with
| .inl e =>
 (some ((.inr e)))
| .inr (()) =>
 (some ((.inl (()))))))
 (λ(p:(Unit) ⊕ (Int))=>match p with
| .inl (()) =>
 (some (-1:Int))
| .inr f =>
 (some f))
noncomputable def Zry (l:(List Rat)) (g:Unit):Option (Bool) :=
 bnd (ZSv l (())) λa =>
 some (decide ((0:Int)≤a))
noncomputable def ZLm (l:(List Rat)):Option (Bool) :=
 bnd (Zry l (())) λa =>
 some (!(a))
noncomputable def Zju (t:(Rat×(List Rat))):Option (Int) :=
 bnd (ZLm ([t.1])) λb =>
 ifb (!(b))
 (some (1:Int))
 (bnd (ifb (((t.2.length:Int))==(0:Int))
 (some true)
 (some (decide ((16:Int)≤(t.2.length:Int)))))
 (λ(c:Bool) =>
 (ifb (c)
 (some (4:Int))
 (bnd (bnd (Zh (λs:Int=>match s with
| a =>
 (ifb (decide (a<(t.2.length:Int)))
 (bnd (idx t.2 a) λd =>
 bnd (ifb (decide ((0:Int)<a))
 (bnd (chk .i64 (a-(1:Int))) λe =>
 bnd (idx t.2 e) λf =>
 bnd (Zgf d f) λg =>
 some (decide (g≤(0:Int))))
 (some false))
 (λ(h:Bool) =>
 (ifb (h)
 (some (.inr ((.inl (7:Int)))))
 (bnd (chk .i64 (a+(1:Int))) λi =>
 some (.inl i)))))
 (some (.inr ((.inr (()))))))) Zj (0:Int))
 (λ(p:(Int) ⊕ (Unit))=>match p with
| .inl j =>
 (some ((.inr j)))
| .inr (()) =>
 (some ((.inl (()))))))
 (λ(p:(Unit) ⊕ (Int))=>match p with
| .inl (()) =>
 (some (0:Int))
| .inr k =>
 (some k))))))
noncomputable def Zqy (y:Rat) (r:Rat):Option (Bool) :=
 bnd (Zgf y r) λa =>
 some (decide ((0:Int)≤a))
noncomputable def Zsz (l:(List Rat)) (g:Rat):Option (Int) :=
 bnd (bnd (Zh (λs:Int=>match s with
| a =>
 (ifb (decide (a<(l.length:Int)))
 (bnd (idx l a) λb =>
 bnd (Zqy b g) λc =>
 ifb (c)
 (some (.inr ((.inl a))))
 (bnd (chk .i64 (a+(1:Int))) λd =>
 some (.inl d)))
 (some (.inr ((.inr (()))))))) Zj (0:Int))
 (λ(p:(Int) ⊕ (Unit))=>match p with
| .inl e =>
 (some ((.inr e)))
| .inr (()) =>
 (some ((.inl (()))))))
 (λ(p:(Unit) ⊕ (Int))=>match p with
| .inl (()) =>
 (some (-1:Int))
| .inr f =>
 (some f))
noncomputable def Zmp (t:(Rat×(List Rat))) (x:Rat):Option (Int) :=
 bnd (ZTk x t.1) λb =>
 bnd (Zsz t.2 b.1) λa =>
 ifb (decide (a<(0:Int)))
 (some ((t.2.length:Int)))
 (some a)
noncomputable def Zts (t:(Rat×(List Rat))) (x:Rat):Option (Int×Int) :=
 bnd (Zju ((t.1,t.2))) λa =>
 ifb (a != (0:Int))
 (some (((0:Int),a)))
 (bnd (Zmp ((t.1,t.2)) x) λb =>
 some ((b,(0:Int))))
noncomputable def Z6p (d:((Int×Int)×(Int×Int)×(Int×Int))):Option ((Rat×Rat×Rat)×(Rat×Rat×Rat)) :=
 bnd (Zqd ((d.1.1,d.1.2))) λa =>
 bnd (Zqd ((d.2.1.1,d.2.1.2))) λb =>
 bnd (Zqd ((d.2.2.1,d.2.2.2))) λc =>
 bnd (ZJd ((d.1.1,d.1.2))) λe =>
 bnd (ZJd ((d.2.1.1,d.2.1.2))) λf =>
 bnd (ZJd ((d.2.2.1,d.2.2.2))) λg =>
 some (((a,b,c),(e,f,g)))
noncomputable def Ztr (d:(Rat×Rat×Rat)):Option (Bool) :=
 bnd (ZLm ([d.1,d.2.1,d.2.2])) λa =>
 some a
noncomputable def Zir (d:(Rat×Rat×Rat)) (x:Rat) (y:Rat):Option (Rat×Int) :=
 bnd (Ztr ((d.1,d.2.1,d.2.2))) λa =>
 ifb (!(a))
 (some (((0:Rat),(1:Int))))
 (bnd (Z8b x y) λb =>
 bnd (ZEb (1:Int)) λc =>
 bnd (Z5j d.2.1 d.1) λe =>
 bnd (Z3b c e) λf =>
 bnd (Zvb b f) λg =>
 some ((g,(0:Int))))
noncomputable def Zio (i:Int) (k:Int):Option (Rat) :=
 ifb (i==k)
 (bnd (ZEb (1:Int)) λa =>
 some a)
 (some ((0:Rat)))
noncomputable def Zzv (t:(List (List Int))) (n:Int) (g:Unit):Option (Rat×Rat) :=
 bnd (bnd (mk 8 ((t.length:Int)) ((t.length:Int))) λan =>
 bnd (mk 8 ((t.length:Int)) ((t.length:Int))) λao =>
 some (((List.replicate ((t.length:Int)).toNat (0:Int)),(List.replicate ((t.length:Int)).toNat (0:Int)))))
 (λ(p:(List Int)×(List Int))=>match p with
| (u,v) =>
 (bnd (bnd (Zh (λs:(List Int)×(List Int)×Int=>match s with
| (h,i,a) =>
 (ifb (decide (a<(t.length:Int)))
 (bnd (idx t a) λj =>
 bnd (bnd (Zh (λs:(List Int)×(List Int)×Int=>match s with
| (e,f,b) =>
 (ifb (decide (b<(j.length:Int)))
 (bnd (idx j b) λk =>
 bnd (idx e a) λw =>
 bnd (chk .i64 (w+k)) λx =>
 bnd (idx e a) λap =>
 bnd (idx f b) λy =>
 bnd (chk .i64 (y+k)) λz =>
 bnd (idx f b) λaq =>
 bnd (chk .i64 (b+(1:Int))) λA =>
 some (.inl (((e.set (a).toNat x),(f.set (b).toNat z),A))))
 (some (.inr ((e,f)))))) Zj ((h,i,(0:Int))))
 (λ(p:(List Int)×(List Int))=>match p with
| (B,C) =>
 (some ((B,C)))))
 (λ(p:(List Int)×(List Int))=>match p with
| (D,E) =>
 (bnd (chk .i64 (a+(1:Int))) λF =>
 some (.inl ((D,E,F))))))
 (some (.inr ((h,i)))))) Zj ((u,v,(0:Int))))
 (λ(p:(List Int)×(List Int))=>match p with
| (G,H) =>
 (some ((G,H)))))
 (λ(p:(List Int)×(List Int))=>match p with
| (I,J) =>
 (bnd (bnd (Zh (λs:Rat×Rat×Int=>match s with
| (l,m,c) =>
 (ifb (decide (c<(t.length:Int)))
 (bnd (idx t c) λo =>
 bnd (bnd (Zh (λs:Rat×Rat×Int=>match s with
| (q,r,d) =>
 (ifb (decide (d<(o.length:Int)))
 (bnd (idx o d) λK =>
 bnd (Zio c d) λL =>
 bnd (ZEb K) λM =>
 bnd (Zvb L M) λN =>
 bnd (Z3b q N) λO =>
 bnd (Zio c d) λP =>
 bnd (idx I c) λQ =>
 bnd (ZEb Q) λR =>
 bnd (Zvb P R) λS =>
 bnd (idx J d) λT =>
 bnd (ZEb T) λU =>
 bnd (Zvb S U) λV =>
 bnd (Z3b r V) λW =>
 bnd (chk .i64 (d+(1:Int))) λX =>
 some (.inl ((O,W,X))))
 (some (.inr ((q,r)))))) Zj ((l,m,(0:Int))))
 (λ(p:Rat×Rat)=>match p with
| (Y,Z) =>
 (some ((Y,Z)))))
 (λ(p:Rat×Rat)=>match p with
| (aa,ab) =>
 (bnd (chk .i64 (c+(1:Int))) λac =>
 some (.inl ((aa,ab,ac))))))
 (some (.inr ((l,m)))))) Zj (((0:Rat),(0:Rat),(0:Int))))
 (λ(p:Rat×Rat)=>match p with
| (ad,ae) =>
 (some ((ad,ae)))))
 (λ(p:Rat×Rat)=>match p with
| (af,ag) =>
 (bnd (ZEb n) λah =>
 bnd (Z5j af ah) λai =>
 bnd (ZEb n) λaj =>
 bnd (ZEb n) λak =>
 bnd (Zvb aj ak) λal =>
 bnd (Z5j ag al) λam =>
 some ((ai,am))))))))
noncomputable def ZIy (r:(List Int)) (t:(List (List Int))):Option (Bool) :=
 some (((r.length:Int)) != ((t.length:Int)))
noncomputable def Z0y (l:(List (List Int))) (g:(List (List Int))):Option (Int) :=
 bnd (bnd (Zh (λs:Int=>match s with
| a =>
 (ifb (decide (a<(l.length:Int)))
 (bnd (idx l a) λb =>
 bnd (ZIy b g) λc =>
 ifb (c)
 (some (.inr ((.inl a))))
 (bnd (chk .i64 (a+(1:Int))) λd =>
 some (.inl d)))
 (some (.inr ((.inr (()))))))) Zj (0:Int))
 (λ(p:(Int) ⊕ (Unit))=>match p with
| .inl e =>
 (some ((.inr e)))
| .inr (()) =>
 (some ((.inl (()))))))
 (λ(p:(Unit) ⊕ (Int))=>match p with
| .inl (()) =>
 (some (-1:Int))
| .inr f =>
 (some f))
noncomputable def Zuy (l:(List (List Int))) (g:(List (List Int))):Option (Bool) :=
 bnd (Z0y l g) λa =>
 some (decide ((0:Int)≤a))
noncomputable def Zps (t:(List (List Int))):Option (Int×Int) :=
 bnd (ifb (((t.length:Int))==(0:Int))
 (some ((t,true)))
 (ifb (decide ((8:Int)<(t.length:Int)))
 (some ((t,true)))
 (bnd (Zuy t t) λi =>
 some ((t,i)))))
 (λ(p:(List (List Int))×Bool)=>match p with
| (d,j) =>
 (ifb (j)
 (some (((0:Int),(4:Int))))
 (bnd (bnd (Zh (λs:Int×Int=>match s with
| (e,a) =>
 (ifb (decide (a<(d.length:Int)))
 (bnd (idx d a) λf =>
 bnd (bnd (Zh (λs:Int×Int=>match s with
| (g,b) =>
 (ifb (decide (b<(f.length:Int)))
 (bnd (idx f b) λc =>
 bnd (ifb (decide (c<(0:Int)))
 (some true)
 (some (decide ((1000000:Int)<c))))
 (λ(k:Bool) =>
 (ifb (k)
 (some (.inr ((.inl (((0:Int),(1:Int)))))))
 (bnd (chk .i64 (g+c)) λl =>
 bnd (chk .i64 (b+(1:Int))) λm =>
 some (.inl ((l,m)))))))
 (some (.inr ((.inr g)))))) Zj ((e,(0:Int))))
 (λ(p:(Int×Int) ⊕ (Int))=>match p with
| .inl ((n,o)) =>
 (some ((.inr ((n,o)))))
| .inr q =>
 (some ((.inl q)))))
 (λ(p:(Int) ⊕ (Int×Int))=>match p with
| .inl r =>
 (bnd (chk .i64 (a+(1:Int))) λu =>
 some (.inl ((r,u))))
| .inr ((v,w)) =>
 (some (.inr ((.inl ((v,w))))))))
 (some (.inr ((.inr e)))))) Zj (((0:Int),(0:Int))))
 (λ(p:(Int×Int) ⊕ (Int))=>match p with
| .inl ((x,y)) =>
 (some ((.inr ((x,y)))))
| .inr z =>
 (some ((.inl z)))))
 (λ(p:(Int) ⊕ (Int×Int))=>match p with
| .inl h =>
 (ifb (h==(0:Int))
 (some (((0:Int),(3:Int))))
 (some ((h,(0:Int)))))
| .inr ((A,B)) =>
 (some ((A,B)))))))
noncomputable def ZCv (t:(List (List Int))) (g:Unit):Option (Rat×Int) :=
 bnd (Zps t) λa =>
 ifb (a.2 != (0:Int))
 (some (((0:Rat),a.2)))
 (bnd (Zzv t a.1 (())) λb =>
 bnd (bnd (Z8b b.1 b.2) λd =>
 bnd (ZEb (1:Int)) λe =>
 bnd (Z8b e b.2) λf =>
 bnd (Zfd d f) λc =>
 some ((c.2,c.1)))
 (λ(p:Int×Rat)=>match p with
| (h,i) =>
 (ifb (h != (0:Int))
 (some (((0:Rat),(5:Int))))
 (some ((i,(0:Int)))))))
noncomputable def Z8s (t:(List (List Int))):Option (Rat×Int) :=
 bnd (ZCv t (())) λa =>
 some ((a.1,a.2))
noncomputable def Zpu (l:(List (Int×Int))):Option ((List Rat)×(List Rat)) :=
 bnd (bnd (Zh (λs:(List Rat)×(List Rat)×Int=>match s with
| (b,c,d) =>
 (ifb (decide (d<(l.length:Int)))
 (bnd (idx l d) λa =>
 bnd (Zqd ((a.1,a.2))) λe =>
 bnd (Zy 56 (b++[e])) λm =>
 bnd (ZJd ((a.1,a.2))) λf =>
 bnd (Zy 56 (c++[f])) λn =>
 bnd (chk .i64 (d+(1:Int))) λg =>
 some (.inl (((b++[e]),(c++[f]),g))))
 (some (.inr ((b,c)))))) Zj ((([]:(List Rat)),([]:(List Rat)),(0:Int))))
 (λ(p:(List Rat)×(List Rat))=>match p with
| (h,i) =>
 (some ((h,i)))))
 (λ(p:(List Rat)×(List Rat))=>match p with
| (j,k) =>
 (some ((j,k))))
noncomputable def Zkt (step:(Int×Int)) (limits:(List (Int×Int))):Option ((Rat×(List Rat))×(Rat×(List Rat))) :=
 bnd (Zpu limits) λa =>
 bnd (Zqd ((step.1,step.2))) λb =>
 bnd (ZJd ((step.1,step.2))) λc =>
 some (((b,a.1),(c,a.2)))
noncomputable def Z0e  : Option (Bool) :=
 bnd (Z6p ((((2:Int),(0:Int)),((1:Int),(2:Int)),((4000:Int),(0:Int))))) λa =>
 bnd (bnd (Z1c (48:Int)) λf =>
 bnd (Z1c (8:Int)) λg =>
 bnd (Zir ((a.1.1,a.1.2.1,a.1.2.2)) f g) λb =>
 some ((b.1,b.2)))
 (λ(p:Rat×Int)=>match p with
| (h,i) =>
 (bnd (Z8s ([[(20:Int),(5:Int)],[(10:Int),(15:Int)]])) λc =>
 bnd (Zkt (((1:Int),(10:Int))) ([((1:Int),(0:Int)),((2:Int),(0:Int))])) λd =>
 bnd (Zqd (((206:Int),(100:Int)))) λj =>
 bnd (Zts ((d.1.1,d.1.2)) j) λe =>
 bnd (ifb (i==(0:Int))
 (ifb (c.2==(0:Int))
 (ifb (e.2==(0:Int))
 (bnd (Zxe h) λk =>
 ifb (k==(([53,48]:List UInt8)))
 (bnd (Zxe c.1) λl =>
 ifb (l==(([50,47,53]:List UInt8)))
 (some (e.1==(2:Int)))
 (some false))
 (some false))
 (some false))
 (some false))
 (some false))
 (λ(m:Bool) =>
 (some m))))
noncomputable def ZQf (x:List Rat) (y:List ((Rat×Rat×Rat×Rat)×Rat×Rat×Rat×Rat)):Option Bool :=
 ifb ((x.length:Int) != (y.length:Int))
 (some false)
 (bnd (Zh (σ:=Int) (ρ:=Unit ⊕ Bool) (λa =>
 ifb (decide (a<(x.length:Int)))
 (bnd (idx x a) λb =>
 bnd (idx y a) λc =>
 bnd (Zhi b c.1.1) λd =>
 ifb (!d)
 (some (.inr (.inr false)))
 (bnd (chk .i64 (a+(1:Int))) λe =>
 some (.inl e)))
 (some (.inr (.inl ()))))
   Zj (0:Int)) λf =>
  match f with
| .inl h=>(some true)
| .inr g=>(some g))
noncomputable def ZDi (t:Int×Int×Int×Int):Option (Int×Int×Int×Int) :=
 some (t.1,t.2.1,t.2.2.1,t.2.2.2)
noncomputable def ZBl (s:Int×Int×Int×Int) (l:List ((Int×Int×Int×Int)×Int×Int)) (a:Int) (b:Int):Option Bool :=
 ifb (decide ((100:Int)<(l.length:Int)))
 (bnd Z0e λm =>
 some m)
 (bnd (Zxk l) λd =>
 bnd (ZDi s) λn =>
 bnd (Z7c n d.1) λe =>
 bnd (ZDi s) λo =>
 bnd (Zsd o d.1 a b) λc =>
 bnd (ZDi s) λp =>
 bnd (ZNe p d.1 a b) λf =>
 bnd (Zqf s d.2) λg =>
 ifb (g != (0:Int))
 (bnd (α:=Bool)
 (ifb (e.2==g)
 (ifb (c.2.2==g)
 (ifb (f.2==g)
 (ifb ((e.1.length:Int)==(0:Int))
 (ifb ((c.2.1.length:Int)==(0:Int))
 (ifb (!c.1)
 (bnd (ZUa f.1) λq =>
 ifb q
 (bnd Z0e λr =>
 some r)
 (some false))
 (some false))
 (some false))
 (some false))
 (some false))
 (some false))
 (some false)) λt =>
 some t)
 (bnd (Zah s d.2) λi =>
 bnd (α:=Bool)
 (ifb (e.2 != (0:Int))
 (some true)
 (some ((e.1.length:Int) != (i.length:Int)))) λu =>
 ifb u
 (some false)
 (bnd (Zh (σ:=Int) (ρ:=Unit ⊕ Bool) (λh =>
 ifb (decide (h<(e.1.length:Int)))
 (bnd (idx e.1 h) λv =>
 bnd (idx i h) λw =>
 bnd (ZQf v w) λx =>
 ifb (!x)
 (some (.inr (.inr false)))
 (bnd (chk .i64 (h+(1:Int))) λy =>
 some (.inl y)))
 (some (.inr (.inl ()))))
     Zj (0:Int)) λz =>
    match z with
| .inl J=>(bnd (α:=Bool)
 (ifb (decide (a<(0:Int)))
 (some true)
 (ifb (decide (b<(0:Int)))
 (some true)
 (ifb (decide (s.1≤a))
 (some true)
 (some (decide (s.1≤b)))))) λA =>
 ifb A
 (bnd (α:=Bool)
 (ifb (c.2.2==(1:Int))
 (ifb (f.2==(1:Int))
 (ifb (!c.1)
 (ifb ((c.2.1.length:Int)==(0:Int))
 (bnd (ZUa f.1) λB =>
 ifb B
 (bnd Z0e λC =>
 some C)
 (some false))
 (some false))
 (some false))
 (some false))
 (some false)) λD =>
 some D)
 (bnd (Zli s d.2 a b) λj =>
 bnd (Z0h s d.2 a b) λk =>
 bnd (α:=Bool)
 (ifb (c.2.2==(0:Int))
 (ifb (c.1==j.1)
 (bnd (ZQf c.2.1 j.2) λE =>
 ifb E
 (ifb (f.2==k.2)
 (bnd (Zhi f.1 k.1) λF =>
 ifb F
 (bnd Z0e λG =>
 some G)
 (some false))
 (some false))
 (some false))
 (some false))
 (some false)) λH =>
 some H))
| .inr I=>(some I))))
set_option maxRecDepth 100000 in
theorem Ziw:Z0e=some true:=by
 unfold Z0e;rw[ZgA];decide +kernel
theorem Zns {k:Nat} {x:Rat} (h:sz k x) (hk:k≤1099511627776):Zhi x x=some true:=by
 unfold Zhi Zxe ZXh;rw[iP (h.ok hk),Za,Za];simp
theorem Zur {n k:Nat} {f:Nat→Rat} (hn:n≤1000) (hf:∀ j,j<n→sz k (f j)) (hk:k≤1099511627776):ZQf (vx n f) (vx n λj=>wq (f j))=some true:=by
 unfold ZQf;rw[Zw,Zw,show ((n:Int) != (n:Int))=false by simp,Zd];refine Zq (y:=.inl ()) (Zv (λk=>(k:Int)) n rfl (by omega) (λj hj=>?_) ?_) rfl
 ·rw[dTq (by omega),Ze,ZF _ hj,Za,ZBa _ hj,Za,show ((wq (f j)).1).1=f j from rfl,Zns (hf j hj) hk,Za,Z6b,Zi (by omega) (by omega),Za];rfl
 ·rw[dFq (by omega),Zd]
theorem Zhw {T:Int×Int×Int×Int} {l:List (Int×Int×Int×Int×Rat)} {a b z:Int} (hz:z≠0) (h:Z7c T l=some ([],z)):Z2d T l a b=some ([],[],z):=by
 unfold Z2d;rw[h,Za];refine Zq (y:=false) (by simp only;rw[show (z==0)=false by simpa using hz,Zd]) ?_;refine Zq (y:=z) (by rw[Zd]) ?_;rw[show (z != 0)=true by simpa using hz,Ze]
theorem Z1A {t c d p:Int} {l:List (Int×Int×Int×Int×Rat)} {m:List (List Rat)} {a b:Int} (h:Z7c (t,c,d,p) l=some (m,0)) (ho:a<0∨b<0∨t≤a∨t≤b):Z2d (t,c,d,p) l a b=some ([],[],1):=by
 unfold Z2d;rw[h,Za];refine Zq (y:=true) ?_ ?_
 ·simp only;rw[show ((0:Int)==0)=true from rfl,Ze];by_cases h1:a<0
  ·rw[dTq h1,Ze]
  rw[dFq h1,Zd];by_cases h2:t≤a
  ·rw[dTq h2,Ze]
  rw[dFq h2,Zd];by_cases h3:b<0
  ·rw[dTq h3,Ze]
  rw[dFq h3,Zd,dTq (by omega)]
 ·exact Zq (y:=1) (by rw[Ze]) rfl
theorem ZFt {T:Int×Int×Int×Int} {l:List (Int×Int×Int×Int×Rat)} {a b z:Int} (hz:z≠0) (h:Z2d T l a b=some ([],[],z)):Zsd T l a b=some (false,[],z)∧ZNe T l a b=some (0,z):=by
 unfold Zsd ZNe;rw[h,Za,Za,show ((([]:List (List Rat)),([]:List Rat),z).2.2 != (0:Int))=true by simpa using hz,Ze,Ze];exact⟨rfl,rfl⟩
theorem ZLw {s:Int×Int×Int×Int} {l:List LG} {a b:Int} (hl:∀ x ∈ l,i64 x.2):ZBl s l a b=some true:=by
  have aw:bnd Z0e (λy=>some y)=some true:=by rw[Ziw,Za]
  have z0:ZUa 0=some true:=by unfold ZUa;rw[dTq rfl]
  unfold ZBl;by_cases h100:100<l.length
  · rw[dTq (by omega),Ze,aw]
  rw[dFq (by omega),Zd,Z7A l (by omega),Za];unfold ZDi;rw[Za];simp only;obtain⟨z,hz,hs⟩:=ZOv s l.length (λi=>(gL l i).1) (λi=>ZMa (gL l i).2) (by omega);obtain⟨z',hz',hz0⟩:=ZDA s l.length (λi=>(gL l i).1) (λi=>ZMa (gL l i).2) (by omega);rw[hz]at hz';obtain rfl:=Option.some.inj hz';rcases s with ⟨t1,t2,t3,t4⟩;by_cases hz1:z=0
  rotate_left
  · have hD:Z7c (t1,t2,t3,t4) (vx l.length λi=>((gL l i).1.1,(gL l i).1.2.1,(gL l i).1.2.2.1,(gL l i).1.2.2.2,ZMa (gL l i).2))=some ([],z):=by
      unfold Z7c;rw[hs,Za,show (z != 0)=true by simpa using hz1,Ze]
    obtain⟨hC,hF⟩:=ZFt hz1 (Zhw (a:=a) (b:=b) hz1 hD);rw[hD,Za,Za,hC,Za,Za,hF,Za,hz,Za,show (z != 0)=true by simpa using hz1,Ze];refine Zq (y:=true) ?_ rfl;simp only;rw[beq_self_eq_true,Ze,Ze,Ze,show (((([]:List (List Rat)).length:Nat):Int)==0)=true from rfl,Ze,show (((([]:List Rat).length:Nat):Int)==0)=true from rfl,Ze,ZKh,z0,Za,Ze,aw]
  obtain⟨⟨b1,b2,b3,b4⟩,hR1,hin⟩:=hz0 hz1;have hR32:l.length≤32:=Classical.byContradiction λh=>by
    unfold Zqf at hz;simp only at hz b1 b2 b3 b4;rw[Zac b1,Zac b2,Zac b3,Zac ⟨b4.1,b4.2⟩,Zw,dFq (by omega:¬ (l.length:Int)<1),Zd,Za,dTq (by omega:(32:Int)<(l.length:Int)),Ze]at hz;have:=Option.some.inj hz;omega
  simp only at b1 b2 b3 b4;obtain⟨tn,rfl⟩:=oZ (show 0≤t1 by omega);obtain⟨cn,rfl⟩:=oZ (show 0≤t2 by omega);obtain⟨dn,rfl⟩:=oZ (show 0≤t3 by omega);obtain⟨pn,rfl⟩:=oZ (show 0≤t4 by omega);generalize hA:(λi=>(gL l i).1.1.toNat)=A;generalize hB:(λi=>(gL l i).1.2.1.toNat)=B;generalize hC:(λi=>(gL l i).1.2.2.1.toNat)=C;generalize hD:(λi=>(gL l i).1.2.2.2.toNat)=D;generalize hW:(λi=>ZMa (gL l i).2)=w;have eq:∀ i,i<l.length→(gL l i).1=((A i:Int),(B i:Int),(C i:Int),(D i:Int))∧A i<tn∧B i<cn∧C i<dn∧D i<pn:=λi hi=>by
    obtain⟨u1,u2,u3,u4⟩:=hin i hi;simp only at u1 u2 u3 u4;rw[← hA,← hB,← hC,← hD];simp only;refine⟨Prod.ext ?_ (Prod.ext ?_ (Prod.ext ?_ ?_)),by omega,by omega,by omega,by omega⟩ <;> simp only <;> omega
  have zw:∀ i,i<l.length→sz 64 (w i):=λi hi=>by
    rw[← hW];have e:gL l i=l[i]:=by unfold gL;simp[List.getD_eq_getElem?_getD,hi]
    show sz 64 (ZMa (gL l i).2);rw[e];exact ZuA (hl _ (List.getElem_mem hi))
  have el:vx l.length (λi=>((gL l i).1.1,(gL l i).1.2.1,(gL l i).1.2.2.1,(gL l i).1.2.2.2,ZMa (gL l i).2))=lgs l.length A B C D w:=ZG λi hi=>by
    have e2:ZMa (gL l i).2=w i:=by rw[← hW]
    rw[e2,(eq i hi).1]
  have er:vx l.length (λi=>((gL l i).1,ZMa (gL l i).2))=rlg l.length A B C D w:=ZG λi hi=>by
    have e2:ZMa (gL l i).2=w i:=by rw[← hW]
    rw[e2,(eq i hi).1]
  have hL:Legs tn cn dn pn l.length A B C D:=⟨by omega,by omega,by omega,by omega,by omega,λi hi=>(eq i hi).2.1,λi hi=>(eq i hi).2.2.1,λi hi=>(eq i hi).2.2.2.1,λi hi=>(eq i hi).2.2.2.2⟩;have hz2:Zqf ((tn:Int),(cn:Int),(dn:Int),(pn:Int)) (vx l.length λi=>((gL l i).1,ZMa (gL l i).2))=some 0:=by rw[hz1]at hz;exact hz
  rw[el,er];rw[er]at hz2;generalize hn:l.length=R at *;have hDes:=hL.design (w:=w);have hrows:∀ f:Unit ⊕ Bool→Option Bool,bnd (Zh (σ:=Int) (ρ:=Unit ⊕ Bool) (λs15 =>
      ifb (decide (s15<((mx R (tn+cn+dn+pn) (Zz tn cn dn A B C D)).length:Int)))
      (bnd (idx (mx R (tn+cn+dn+pn) (Zz tn cn dn A B C D)) s15) λy16 =>
       bnd (idx (mxW R (tn+cn+dn+pn) (Zz tn cn dn A B C D)) s15) λy17 =>
       bnd (ZQf y16 y17) λy18 =>
       ifb (!y18)
       (some (.inr (.inr false)))
       (bnd (chk .i64 (s15+(1:Int))) λy19 =>
        some (.inl y19)))
      (some (.inr (.inl ()))))
     Zj (0:Int)) f=f (.inl ()):=λf=>by
    refine Zq (Zv (λk=>(k:Int)) R rfl (by omega) (λi hi=>?_) ?_) rfl
    · rw[Zka,dTq (by omega),Ze,Zqa _ hi,Za,ZCa _ hi,Za,Zur (k:=64) (by omega) (λj hj=>ZIo hL.cd 64 (by omega) i j hi hj) (by omega),Za,Z6b,Zi (by omega) (by omega),Za];rfl
    · rw[Zka,dFq (by omega),Zd]
  rw[hDes,Za,Za];by_cases ho:a<0∨b<0∨(tn:Int)≤a∨(tn:Int)≤b
  · obtain⟨hCo,hF⟩:=ZFt (by omega) (Z1A hDes ho);rw[hCo,Za,Za,hF,Za,hz2,Za,show ((0:Int) != 0)=false from rfl,Zd,hL.rdes,Za];refine Zq (y:=false) (by rw[Zd,Zka,Zza];simp) ?_;rw[Zd,hrows];simp only;refine Zq (y:=true) ?_ ?_
    · by_cases g1:a<0
      · rw[dTq g1,Ze]
      rw[dFq g1,Zd];by_cases g2:b<0
      · rw[dTq g2,Ze]
      rw[dFq g2,Zd];by_cases g3:(tn:Int)≤a
      · rw[dTq g3,Ze]
      rw[dFq g3,Zd,dTq (by omega)]
    · rw[Ze];refine Zq (y:=true) ?_ rfl;rw[show ((1:Int)==1)=true from rfl,Ze,Ze,ZKh,show (((([]:List Rat).length:Nat):Int)==0)=true from rfl,Ze,z0,Za,Ze,aw]
  obtain⟨an,rfl⟩:=oZ (show 0≤a by omega);obtain⟨bn,rfl⟩:=oZ (show 0≤b by omega);have ha:an<tn:=by omega
  have hb:bn<tn:=by omega
  obtain⟨q,e,zq,hF,hG⟩:=hL.both zw ha hb;have hcmp:∃ (o:Bool) (v:List Rat) (v':List WR),Zsd ((tn:Int),(cn:Int),(dn:Int),(pn:Int)) (lgs R A B C D w) (an:Int) (bn:Int)=some (o,v,0)∧Zli ((tn:Int),(cn:Int),(dn:Int),(pn:Int)) (rlg R A B C D w) (an:Int) (bn:Int)=some (o,v')∧ZQf v v'=some true:=by
    rcases hL.comp (w:=w) ha hb with ⟨e1,e2,_⟩ | ⟨v,hv,e1,e2,_⟩
    · exact⟨true,[],[],e1,hL.rcomp ha hb e2,by decide +kernel⟩
    · exact⟨false,_,_,e1,hL.rcomp ha hb e2,Zur (by omega) hv (by omega)⟩
  obtain⟨o,v,v',hCo,hCr,hsame⟩:=hcmp;rw[hCo,Za,Za,hF,Za,hz2,Za,show ((0:Int) != 0)=false from rfl,Zd,hL.rdes,Za];refine Zq (y:=false) (by rw[Zd,Zka,Zza];simp) ?_;rw[Zd,hrows];simp only;refine Zq (y:=false) (by rw[dFq (by omega),Zd,dFq (by omega),Zd,dFq (by omega),Zd,dFq (by omega)]) ?_;rw[Zd,hCr,Za,hG,Za];refine Zq (y:=true) ?_ rfl;simp only;rw[show ((0:Int)==0)=true from rfl,Ze,beq_self_eq_true,Ze,hsame,Za,Ze,beq_self_eq_true,Ze,Zns zq (by omega),Za,Ze,aw]
theorem ZNz {α:Type} {A:Rep α} {v:Zb} {cs:List Value} {l:List α} (h:(ZB A).rel v cs l) {x:α} (hx:x ∈ l):∃ c,A.rel v c x:=by
 obtain⟨q,cap,rfl,h1,h2,h3⟩:=h;rcases h3 with rfl | ⟨b,off,c,T,fr,e,hb,hr⟩
 ·cases hx
 ·obtain⟨i,hi,rfl⟩:=List.getElem_of_mem hx;exact⟨_,ZJa hr (List.getElem?_eq_getElem hi)⟩
theorem i64_of {v:Zb} {c:List Value} {r:Int×Int} (h:Rep.rel (ZA (Zf .i64) (Zf .i64)) v c r):i64 r:=by
 obtain⟨c1,c2,_,⟨_,h1⟩,_,h2⟩:=h;exact⟨ZXa.1 h1,ZXa.1 h2⟩
end Go.Eng
namespace Go.Eng
open Go.RowKit Go.WideShapes Go.ChangeShapes
theorem dropN {cs:List Value} (m n:Nat):cs.drop m=(cs.drop m).take n++cs.drop (m+n):=by
 rw[← List.drop_drop,List.take_append_drop]
theorem Ziz {P:Program} {t e:TypeId} {α:Type} {A:Rep α} (ht:P.underlying t=some (.array 4 e)) (hA:Zzc P e A) (ce:P.cellsOf e=A.n) (ct:P.cellsOf t=A.n+(A.n+(A.n+A.n))):Zzc P t (ZA A (ZA A (ZA A A))):=by
 intro H enc W fuel cs x h;obtain⟨xs,m,_,_,hl,hx,hf⟩:=DataW.trod_array ht h;have h0:=hf 0 (by omega);have h1:=hf 1 (by omega);have h2:=hf 2 (by omega);have h3:=hf 3 (by omega);rw[ce]at h0 h1 h2 h3;rw[List.getElem?_eq_getElem (by omega)]at h0 h1 h2 h3;rw[Nat.zero_mul,List.drop_zero]at h0;rw[Nat.one_mul]at h1;obtain⟨a,ha⟩:=hA _ _ _ _ _ _ h0;obtain⟨b,hb⟩:=hA _ _ _ _ _ _ h1;obtain⟨c,hc⟩:=hA _ _ _ _ _ _ h2;obtain⟨d,hd⟩:=hA _ _ _ _ _ _ h3;rw[List.take_of_length_le (by rw[List.length_drop,hl,ct];omega)]at hd;refine⟨(a,b,c,d),cs.take A.n,cs.drop A.n,(List.take_append_drop _ _).symm,ha,(cs.drop A.n).take A.n,cs.drop (2*A.n),?_,hb,(cs.drop (2*A.n)).take A.n,cs.drop (3*A.n),?_,hc,hd⟩
 ·rw[show 2*A.n=A.n+A.n by omega];exact dropN _ _
 ·rw[show 3*A.n=2*A.n+A.n by omega];exact dropN _ _
end Go.Eng
namespace Go.Eng
open Go.RowKit
section
variable {P:Program} {N:Nat} {G:V→Value→Prop} {w0:Base} {v0:Zb} {U X:Nat→Prop} {f:Fr} {l:Lo} {a:Act} {w:World} {γ:Nat→Gh} {v:Zb} {ℓ:List Loc} {n:Nat}
variable {d:Option Nat} {ty:TypeId} {pos:String} {aft:Array Edge} {g:Option (Nat×Bool)}
theorem Zzp {ty:TypeId} {t:T} (hs:St N w0 v0 [] ℓ v a w):∀ k:Nat,∃ es,Zva v ty t (List.replicate k (none,0)) (List.replicate k ([]:List t.den)) es∧St N w0 v0 [] (es++ℓ) v a w
 | 0=>⟨[],rfl,hs⟩
 | k+1=>by
  obtain⟨es,h1,h2⟩:=Zzp hs k
  exact⟨.own none ty t.n 0 0 [] :: es,⟨[],es,rfl,rfl,h1⟩,h2.nilLoc ty t.n⟩
theorem Zzq {α:Type}:∀ k:Nat,Zn (List.replicate k ((none:Option Nat),0)) (List.replicate k ([]:List α))=(List.replicate k [Value.slice none 0 0]).flatten
 | 0=>rfl
 | k+1=>by simp only[List.replicate_succ,Zn,List.flatten_cons,Zzq k];rfl
theorem ZMv {C:Cf} (hr:RelX N G w0 v0 U X f l a w γ v ℓ) (hU:∀ k,U k→X k) (hX:X n) (hn:¬ U n) {t:TypeId} {x y:Operand} {o:Oper} {Post:Unit→Fr→Lo→Prop} (ho:o=⟨d,.makeSlice t x y,ty,pos,aft,g⟩) (hd:∀ k,o.dst=some k→k<N)
  (h:Zk n (Z3 C n o) f l Post):Zpa C.P N G w0 v0 X o a w Post:=by
 subst ho;simp only[Z3]at h;obtain⟨V1,h1,_,hA⟩:=ZM hr h;obtain⟨V2,h2,_,hB⟩:=ZM hr hA;obtain⟨κ,i,rfl,hC⟩:=Znb hB;obtain⟨κ',j,rfl,hD⟩:=Znb hC;clear h hA hB hC;have h:=hD;obtain⟨e1,_⟩:=ZLa h1;obtain⟨e2,_⟩:=ZLa h2;split at h
 ·rename_i q dd hq;obtain⟨hE,hby⟩:=Zon hq;obtain⟨_,hmk,h⟩:=h;obtain⟨m0,m1,m2,m3⟩:=ZLd hmk;obtain⟨E,hEE,hp⟩:=hr.lr;have hst:=hr.st.perm hp;obtain⟨σ,hσ,ev1,ev2⟩:=hst.ev2 x y;rw[e1]at ev1;rw[e2]at ev2;obtain⟨b,w',hrun,hst'⟩:=Z2n hE hσ m0 m1 m2 m3;have hrun':=hrun (d:=some dd) (ty:=ty) (pos:=pos) (aft:=aft) (g:=g) ev1 ev2;split at h
  ·split at h
   ·rename_i q2 r hq2 hz hs1;have hs1:=eQ hs1;split at h
    ·rename_i s hs;split at h
     ·have hz1:q.z.cells.toList=[.slice none 0 0]:=by
       have h1:=Zif hz;have h2:=hE.cells;rw[hs1]at h2;have h3:q.z.cells.toList.length=1:=by simpa using h2
       rw[h1]at h3 ⊢;simp at h3;rw[h3]
      obtain⟨es,hR,hst2⟩:=Zzp (ty:=q2.e) (t:=s) hst'.bare i.toNat;have hst3:St N w0 v0 [] (.own (some b) q.e 1 (List.replicate i.toNat ([]:List s.den)).length j.toNat (Zn (List.replicate i.toNat ((none:Option Nat),0)) (List.replicate i.toNat ([]:List s.den))) :: es++E.flatten) v a w':=by
       rw[Zzq,List.length_replicate];rw[hs1,hz1]at hst2;exact hst2.perm List.perm_middle
      have hrun2:=hrun';rw[show (Value.slice (mkA (some b)) i.toNat j.toNat) = .slice (mkA (some b)) (List.replicate i.toNat ([]:List s.den)).length j.toNat by rw[List.length_replicate]]at hrun2;exact ZSl hr hU hX hn hd hEE rfl hR hst3 hrun2 h
     ·exact h.elim
    ·exact h.elim
   ·exact h.elim
  ·split at h
   ·rename_i s hs;split at h
    ·rename_i z r hz hzo hsz;have hsz:=eQ hsz;obtain⟨c1,k1,k2⟩:=ZHu (v:=v) hzo hz;have hl:=Rep.len _ k2;have hc:=hE.cells;have hr0:r=[]:=by
      have:q.z.cells.toList.length=q.sz:=by simpa using hc
      rw[k1,lA,hl,ZK,hsz]at this;exact List.length_eq_zero_iff.1 (by omega)
     rw[hr0,List.append_nil]at k1;have hrel:=ZKg k2 i.toNat;rw[k1]at hst';have hst2:St N w0 v0 [] (.own (some b) q.e s.n (List.replicate i.toNat z).length j.toNat (List.replicate i.toNat c1).flatten :: E.flatten) v a w':=by
      rw[List.length_replicate,← hsz];exact hst'.bare
     have hrun2:=hrun';rw[show (Value.slice (mkA (some b)) i.toNat j.toNat) = .slice (mkA (some b)) (List.replicate i.toNat z).length j.toNat by rw[List.length_replicate]]at hrun2;exact ZPg hr hU hX hn hd hEE rfl hst2 hrel hrun2 h
    ·exact h.elim
   ·exact h.elim
 ·exact h.elim
theorem ZJu {x:V} {cs:List Value} (h:RR v γ l false x cs) (hk:x.ok U):RR v γ l false (Zog x) cs∧(Zog x).ok U:=by
 unfold Zog;split
 ·split
  ·rename_i hc;obtain⟨h1,h2⟩:=Zkm (U:=U) (γ:=γ) (l:=l) hc h;exact⟨h1,h2⟩
  ·exact⟨h,hk⟩
 ·exact⟨h,hk⟩
theorem ZZs:∀ {fs:List Field},Zxl P fs=true→∀ w,∃ L:List (Nat×Nat),(fs.mapM λ(f:Field)=>(do pure (f.offset,← sizeOf f.type):Sem (Nat×Nat))).run P w = .ok L w∧∀ (i:Nat) fd,fs[i]? = some fd→∃ inf,P.info? fd.type=some inf∧L[i]? = some (fd.offset,inf.size)
 | [],_,w=>⟨[],by simp,λi fd h=>by simp at h⟩
 | fd :: fs,h,w=>by
  simp only[Zxl]at h
  split at h
  ·rename_i inf hinf
   obtain⟨L,h1,h2⟩:=ZZs h w
   refine⟨(fd.offset,inf.size) :: L,?_,λi fd' hi=>?_⟩
   ·simp at h1
    simp[List.mapM_cons,Z7i hinf,h1]
   ·cases i with
    | zero=>simp at hi;subst hi;exact⟨inf,hinf,rfl⟩
    | succ i=>simp at hi;simpa using h2 i fd' hi
  ·cases h
theorem ZNu {s:TypeId} {fs:Array Field} (hs:P.underlying s=some (.struct fs)) {places:Nat→Option (Nat×Nat)} (hp:∀ (i:Nat) (fd:Field),fs.toList[i]? = some fd→∃ inf,P.info? fd.type=some inf∧places i=some (fd.offset,inf.size)) :
  ∀ {ps:List (Nat×Operand)} {c z z':V} {cs:List Value} {vals:List Value},RR v γ l true c vals→c.ok U→vals.length=ps.length→RR v γ l false z cs→z.ok U→putF P s z (zipV ps c)=some z' →
  ∃ cs',Instr.fill places cs.toArray ((ps.map (·.1)).zip vals)=some cs'.toArray∧RR v γ l false z' cs'∧z'.ok U∧z'.isAgg=z.isAgg
 | [],c,z,z',cs,vals,hc,hk,hl,hz,hkz,h=>by
  have hv:vals=[]:=List.length_eq_zero_iff.1 hl
  subst hv
  have h:some z=some z':=by
   cases c <;> exact h
  cases h
  exact⟨cs,rfl,hz,hkz,rfl⟩
 | p :: ps,c,z,z',cs,vals,hc,hk,hl,hz,hkz,h=>by
  cases vals with
  | nil=>simp at hl
  | cons y vals =>
   cases c with
   | cons x c =>
    obtain⟨cx,vs,e,h1,h2⟩:=hc
    cases e
    simp only[zipV,putF]at h;split at h
    ·rename_i fd hfd;split at h
     ·rename_i q hq;split at h
      ·rename_i zz hsz hfit hput;have hsz:=eQ hsz;obtain⟨k1,k2,k3,k4⟩:=Zcf FU hput hz h1 hkz hk.1;have hfd':fs.toList[p.1]? = some fd:=by
        unfold fldT at hfd;rw[hs]at hfd;exact hfd
       obtain⟨inf,hinf,hpl⟩:=hp _ _ hfd';have hlen:cx.length=inf.size:=by
        rw[ZBd h1,hsz];unfold szA at hq;rw[hinf]at hq;split at hq
        ·rename_i i d e1 e2;cases e1;cases hq;rfl
        ·cases hq
       obtain⟨hcells,_⟩:=ZFj h1 hfit;obtain⟨cs',q1,q2,q3,q4⟩:=ZNu hs hp (ps:=ps) h2 hk.2 (by simpa using hl) k1 k2 h;refine⟨cs',?_,q2,q3,q4.trans k4⟩;simp only[List.map_cons,List.zip_cons_cons];rw[Z1o (cs:=cx) (off:=fd.offset) (by rw[hpl,hlen]) hcells (by simpa using k3)]
       simpa using q1
      ·cases h
     ·cases h
    ·cases h
   | nl=>cases (show (y :: vals)=[] from hc)
   | _=>exact (show False from hc).elim
theorem ZLr {n sz:Nat} {places:Nat→Option (Nat×Nat)} (hp:∀ i,i<n→places i=some (i*sz,sz)) :
  ∀ {ps:List (Nat×Operand)} {c z z':V} {cs:List Value} {vals:List Value},RR v γ l true c vals→c.ok U→vals.length=ps.length→RR v γ l false z cs→z.ok U→putA n sz z (zipV ps c)=some z' →
  ∃ cs',Instr.fill places cs.toArray ((ps.map (·.1)).zip vals)=some cs'.toArray∧RR v γ l false z' cs'∧z'.ok U∧z'.isAgg=z.isAgg
 | [],c,z,z',cs,vals,hc,hk,hl,hz,hkz,h=>by
  have hv:vals=[]:=List.length_eq_zero_iff.1 hl
  subst hv
  have h:some z=some z':=by
   cases c <;> exact h
  cases h
  exact⟨cs,rfl,hz,hkz,rfl⟩
 | p :: ps,c,z,z',cs,vals,hc,hk,hl,hz,hkz,h=>by
  cases vals with
  | nil=>simp at hl
  | cons y vals =>
   cases c with
   | cons x c =>
    obtain⟨cx,vs,e,h1,h2⟩:=hc
    cases e
    simp only[zipV,putA]at h;split at h
    ·rename_i zz hlt hsz hfit hput;have hlt:p.1<n:=lB hlt;have hsz:=eQ hsz;obtain⟨k1,k2,k3,k4⟩:=Zcf FU hput hz h1 hkz hk.1;have hlen:cx.length=sz:=by rw[ZBd h1,hsz]
     obtain⟨hcells,_⟩:=ZFj h1 hfit;obtain⟨cs',q1,q2,q3,q4⟩:=ZLr hp (ps:=ps) h2 hk.2 (by simpa using hl) k1 k2 h;refine⟨cs',?_,q2,q3,q4.trans k4⟩;simp only[List.map_cons,List.zip_cons_cons];rw[Z1o (cs:=cx) (off:=p.1*sz) (by rw[hp _ hlt,hlen]) hcells (by simpa using k3)]
     simpa using q1
    ·cases h
   | nl=>cases (show (y :: vals)=[] from hc)
   | _=>exact (show False from hc).elim
theorem Zdy {C:Cf} (hr:RelX N G w0 v0 U X f l a w γ v ℓ) (hU:∀ k,U k→X k) (hX:X n) {t:TypeId} {ps:Array (Nat×Operand)} {o:Oper} {Post:Unit→Fr→Lo→Prop} (ho:o=⟨d,.build t ps,ty,pos,aft,g⟩) (hd:∀ k,o.dst=some k→k<N)
  (h:Zk n (Z3 C n o) f l Post):Zpa C.P N G w0 v0 X o a w Post:=by
 subst ho;simp only[Z3]at h;split at h
 ·rename_i z fs hz ht;split at h
  ·rename_i hfl hag1 hag2;obtain⟨y,cs,hy,hcells,hzz,hkz,_⟩:=ZWn (v:=v) (γ:=γ) (l:=l) (U:=U) hz;obtain⟨L,hL1,hL2⟩:=ZZs hfl w;have hA:(fs.mapM λ(f:Field)=>(do pure (f.offset,← sizeOf f.type):Sem (Nat×Nat))).run C.P w = .ok L.toArray w:=by
    rw[Array.mapM_eq_mapM_toList];simp at hL1;simp[hL1]
   have hplaces:∀ (i:Nat) (fd:Field),fs.toList[i]? = some fd→∃ inf,C.P.info? fd.type=some inf∧(L.toArray[·]?) i=some (fd.offset,inf.size):=λi fd hi=>by
    obtain⟨inf,h1,h2⟩:=hL2 i fd hi;exact⟨inf,h1,by simpa using h2⟩
   have hev:∀ (vals:List (Nat×Value)) (cs':List Value),ps.toList.map (λp=>(p.1,a.eval p.2))=vals→Instr.fill (L.toArray[·]?) cs.toArray vals=some cs'.toArray→(execOp a.eval ⟨d,.build t ps,ty,pos,aft,g⟩).run C.P w = .ok (.value (.agg cs'.toArray)) w:=by
    intro vals cs' hv hf;obtain⟨σ,hσ,hev⟩:=hr.st.evs (ps.toList.map (·.2));refine Zdq hσ vals ?_ ?_
    ·rw[← hv,List.map_map];refine List.map_congr_left λp hp=>?_;rw[hev p.2 (List.mem_map.2 ⟨p,hp,rfl⟩)];rfl
    ·simp at hA hf;simp[Instr.build,hy w,hcells,run_underlying ht,hA,hf]
   split at h
   ·rename_i hps;refine ZO hr hU (hev [] cs (by rw[hps];rfl) rfl) hd hX ?_ (V.ok.mono hU hkz) h;have:=Z4b hzz (λc e=>by subst e;cases hag2);unfold V.val at this;rw[hag2]at this;exact this
   ·rename_i hps;obtain⟨c,h1,h2,h⟩:=ZWf hr h;split at h
    ·rename_i z' hz';obtain⟨o1,o2⟩:=ZJu hzz hkz;have hvl:=h1;rw[List.map_map]at h1;obtain⟨cs',k1,k2,k3,k4⟩:=ZNu ht hplaces (ps:=ps.toList) h1 h2 (by simp) o1 o2 hz';refine ZO hr hU (hev _ cs' rfl ?_) hd hX ?_ (V.ok.mono hU k3) h
     ·rw[← k1];congr 1;rw[List.zip_map,← List.map_id (ps.toList.zip ps.toList)];simp[List.zip_eq_zipWith,List.zipWith_self,List.map_map]
     ·have:=Z4b k2 (λc e=>by subst e;rw[hag1]at k4;cases k4);unfold V.val at this;rw[k4,hag1]at this;exact this
    ·exact h.elim
  ·exact h.elim
 ·rename_i z m e hz ht;split at h
  ·rename_i inf hinf hag1 hag2;obtain⟨y,cs,hy,hcells,hzz,hkz,_⟩:=ZWn (v:=v) (γ:=γ) (l:=l) (U:=U) hz;obtain⟨c,h1,h2,h⟩:=ZWf hr h;split at h
   ·rename_i z' hz';obtain⟨o1,o2⟩:=ZJu hzz hkz;rw[List.map_map]at h1;obtain⟨cs',k1,k2,k3,k4⟩:=ZLr (places:=λi=>some (i*inf.size,inf.size)) (λi _=>rfl) (ps:=ps.toList) h1 h2 (by simp) o1 o2 hz';obtain⟨σ,hσ,hev⟩:=hr.st.evs (ps.toList.map (·.2));have hk1:Instr.fill (λi=>some (i*inf.size,inf.size)) cs.toArray (ps.toList.map λp=>(p.1,a.eval p.2))=some cs'.toArray:=by
     rw[← k1];congr 1;rw[List.zip_map,← List.map_id (ps.toList.zip ps.toList)];simp[List.zip_eq_zipWith,List.zipWith_self,List.map_map]
    refine ZO hr hU (Zdq hσ (ps.toList.map λp=>(p.1,a.eval p.2)) ?_ (z:=.agg cs'.toArray) ?_) hd hX ?_ (V.ok.mono hU k3) h
    ·rw[List.map_map];refine List.map_congr_left λp hp=>?_;rw[hev p.2 (List.mem_map.2 ⟨p,hp,rfl⟩)];rfl
    ·simp[Instr.build,hy w,hcells,run_underlying ht,Z7i hinf,hk1]
    ·have:=Z4b k2 (λc e=>by subst e;rw[hag1]at k4;cases k4);unfold V.val at this;rw[k4,hag1]at this;exact this
   ·exact h.elim
  ·exact h.elim
 ·exact h.elim
end
end Go.Eng
namespace Go.Eng
open Go.RowKit
def CT.isAgg:CT→Bool
 | .dat t=>t.agg
 | .agg _=>true
 | _=>false
def CT.vl (c:CT) (cs:List Value):Value:=match c.isAgg with
 | true=>.agg cs.toArray
 | false=>cs.headD Go.undef
def CR (v:Zb):(c:CT)→Bool→c.den→List Value→List Loc→Prop
 | .dat t,false,x,cs,es=>t.rep.rel v cs x∧es=[]
 | .own ty t,false,(xs:List t.den),cs,es=>∃ ob cap d,cs=[.slice (mkA ob) xs.length cap]∧t.rep.rels v d xs∧es=[.own ob ty t.n xs.length cap d]
 | .mat ty ty2 t,false,(m:List (List t.den)),cs,es=>∃ ob cap rows es2,cs=[.slice (mkA ob) m.length cap]∧Zva v ty2 t rows m es2∧es = .own ob ty 1 m.length cap (Zn rows m) :: es2
 | .nl,_,_,cs,es=>cs=[]∧es=[]
 | .one a,false,x,cs,es=>CR v a false x cs es
 | .one a,true,x,cs,es=>∃ c,cs=[a.vl c]∧CR v a false x c es
 | .cons a b,false,x,cs,es=>∃ c1 c2 e1 e2,cs=c1++c2∧es=e1++e2∧CR v a false x.1 c1 e1∧CR v b false x.2 c2 e2
 | .cons a b,true,x,cs,es=>∃ c1 xs e1 e2,cs=a.vl c1 :: xs∧es=e1++e2∧CR v a false x.1 c1 e1∧CR v b true x.2 xs e2
 | .agg c,false,x,cs,es=>CR v c false x cs es
 | .box ty c,false,x,cs,es=>∃ b c1 e1,cs=[.pointer (some ⟨b,0,none⟩)]∧CR v c false x c1 e1∧c1.all plain=true∧es = .box b ty c1 :: e1
 | _,_,_,_,_=>False
def CRL (v:Zb):(c:CT)→c.den→Gh→List Loc→Prop
 | .own ty t,(xs:List t.den),g,es=>∃ ob cap d,g = .own ob cap∧t.rep.rels v d xs∧es=[.own ob ty t.n xs.length cap d]
 | .mat ty ty2 t,(m:List (List t.den)),g,es=>∃ ob cap rows es2,g = .mat ob cap rows∧Zva v ty2 t rows m es2∧es = .own ob ty 1 m.length cap (Zn rows m) :: es2
 | .box ty c,z,g,es=>∃ b c1 e1,g = .box b∧CR v c false z c1 e1∧c1.all plain=true∧es = .box b ty c1 :: e1
 | .agg (.mat ty ty2 t),(m:List (List t.den)),g,es=>∃ ob cap rows es2,g = .mat ob cap rows∧Zva v ty2 t rows m es2∧es = .own ob ty 1 m.length cap (Zn rows m) :: es2
 | _,_,_,_=>False
def Z1a (v:Zb):(ts:List T)→List Value→ZI ts→Prop
 | [],vals,_=>vals=[]
 | [t],vals,x=>∃ cs,vals=[t.rep.val cs]∧t.rep.rel v cs x
 | t :: u :: r,vals,x=>∃ cs vs,vals=t.rep.val cs :: vs∧t.rep.rel v cs x.1∧Z1a v (u :: r) vs x.2
def ZUe (v:Zb) (ts:List T) (y:Value) (z:ZI ts):Prop:=match ts,z with
 | [t],z=>∃ cs,y=t.rep.val cs∧t.rep.rel v cs z
 | ts,z=>∃ vals:List Value,y = .tuple vals.toArray∧Z1a v ts vals z
def Zre (P:Program) (f:FuncId) (c:Con):Prop:=∀ (w:World) (v:Zb) (vals:List Value) (x:ZI c.args) (z:ZI c.res),VIn v w→Z1a v c.args vals x→c.F x=some z →
 (ZV P f∧Ret P f vals.toArray w v λy v'=>ZUe v' c.res y z) ∨ ∃ y,(∀ w,(callFunc f vals.toArray).run P w = .ok (.value y) w)∧ZUe v c.res y z
def Zrj (P:Program) (f:FuncId) (c:ConO):Prop:=∀ (w:World) (v:Zb) (vals:List Value) (x:ZI c.args) (z:List c.t.den),VIn v w→Z1a v c.args vals x→c.F x=some z →
 ZV P f∧RetO P f vals.toArray w v (OwnR c.t.rep c.ty c.t.n z w)
def Ztl (P:Program) (f:FuncId) (c:ConI):Prop:=∀ (w:World) (v:Zb) (ob:Option Nat) (n cap:Nat) (cs:List Value) (l:List c.t.den) (i:Int) (bv kv:Nat) (c0:Array Value) (x:c.t.den) (z:List c.t.den),VIn v w→(Loc.own ob c.ty c.t.n n cap cs).holds w→(∀ b,ob=some b→v b=none)→c.t.rep.rels v cs l→n=l.length →
 1≤kv→v bv=some (.cells c0 c.ty (0,0))→c.t.rep.rel v (c0.toList.take c.t.n) x→inR .i64 i→c.F l i x=some z →
 ZV P f∧ZLe P f #[.slice (mkA ob) n cap,.int .i64 i,.slice (some ⟨bv,0,none⟩) 1 kv] w v ob.toList (OwnI c.t.rep c.ty c.t.n z ob w)
def OwnM (ty ty2:TypeId) (t:T) (m:List (List t.den)) (w:World) (r:Value) (v':Zb) (w':World):Prop :=
 ∃ ob cap rows es,r = .slice (mkA ob) m.length cap∧Zva v' ty2 t rows m es∧(∀ x ∈ Loc.own ob ty 1 m.length cap (Zn rows m) :: es,x.holds w'∧∀ b,x.blk=some b→w.heap.size≤b∧v' b=none)∧((Loc.own ob ty 1 m.length cap (Zn rows m) :: es).filterMap Loc.blk).Nodup
def Z8g (P:Program) (f:FuncId) (c:ConM):Prop:=∀ (w:World) (v:Zb) (vals:List Value) (x:ZI c.args) (z:List (List c.t.den)),VIn v w→Z1a v c.args vals x→c.F x=some z →
 ZV P f∧RetO P f vals.toArray w v (OwnM c.ty c.ty2 c.t z w)
def OwnB (ty:TypeId) (c:CT) (res:List T) (b:Nat) (r:c.den×ZI res) (lent:List Nat) (w:World) (y:Value) (v':Zb) (w':World):Prop :=
 ZUe v' res y r.2∧∃ es',CRL v' (.box ty c) r.1 (.box b) es'∧(∀ e ∈ es',e.holds w'∧∀ k,e.blk=some k→(w.heap.size≤k∨k ∈ lent)∧v' k=none)∧(es'.filterMap Loc.blk).Nodup
def Zdk (P:Program) (f:FuncId) (c:ConB):Prop:=∀ (w:World) (v:Zb) (b:Nat) (es:List Loc) (vals:List Value) (z:c.c.den) (x:ZI c.args) (r:c.c.den×ZI c.res),VIn v w→CRL v (.box c.ty c.c) z (.box b) es→(∀ e ∈ es,e.holds w∧∀ k,e.blk=some k→v k=none)→(es.filterMap Loc.blk).Nodup→Z1a v c.args vals x→c.F z x=some r →
 ZV P f∧ZLe P f (Value.pointer (some ⟨b,0,none⟩) :: vals).toArray w v (es.filterMap Loc.blk) (OwnB c.ty c.c c.res b r (es.filterMap Loc.blk) w)
def ZQj (P:Program) (f:FuncId) (c:ConD):Prop:=∀ (w:World) (v:Zb) (ob:Option Nat) (n cap:Nat) (cs:List Value) (l:List c.t.den) (i j:Int) (z:List c.t.den),VIn v w→(Loc.own ob c.ty c.t.n n cap cs).holds w→(∀ b,ob=some b→v b=none)→c.t.rep.rels v cs l→n=l.length→inR .i64 i→inR .i64 j→c.F l i j=some z →
 ZV P f∧ZLe P f #[.slice (mkA ob) n cap,.int .i64 i,.int .i64 j] w v ob.toList (OwnI c.t.rep c.ty c.t.n z ob w)
def OwnPR (ty:TypeId) (t:T) (res:List T) (z:List t.den×ZI res) (w:World) (y:Value) (v':Zb) (w':World):Prop :=
 ∃ r0 rest,y = .tuple (r0 :: rest).toArray∧OwnR t.rep ty t.n z.1 w r0 v' w'∧Z1a v' res rest z.2
def Z8m (P:Program) (f:FuncId) (c:ConP):Prop:=∀ (w:World) (v:Zb) (vals:List Value) (x:ZI c.args) (z:List c.t.den×ZI c.res),VIn v w→Z1a v c.args vals x→c.F x=some z →
 ZV P f∧RetO P f vals.toArray w v (OwnPR c.ty c.t c.res z w)
structure CfOK (C:Cf):Prop where
 c:∀ f c,ZT C.cons f=some c→Zre C.P f c
 o:∀ f c,ZT C.owns f=some c→Zrj C.P f c
 i:∀ f c,ZT C.ins f=some c→Ztl C.P f c
 m:∀ t s f,lkM C.meths t s=some f→∀ y w,(method (C.P.types.size+Made.depth) t y s).run C.P w = .ok (f,y) w
 q:∀ f c,ZT C.omats f=some c→Z8g C.P f c
 b:∀ f c,ZT C.boxs f=some c→Zdk C.P f c
 d:∀ f c,ZT C.dels f=some c→ZQj C.P f c
 p:∀ f c,ZT C.pows f=some c→Z8m C.P f c
section
variable {P:Program} {N:Nat} {G:V→Value→Prop} {w0:Base} {v0:Zb} {U X:Nat→Prop} {f:Fr} {l:Lo} {a:Act} {w:World} {γ:Nat→Gh} {v:Zb} {ℓ:List Loc} {n:Nat}
variable {d:Option Nat} {ty:TypeId} {pos:String} {aft:Array Edge} {g:Option (Nat×Bool)}
theorem ZHs (hr:RelX N G w0 v0 U X f l a w γ v ℓ) {lo:Option Operand} {k:Option Int→Ev Unit} {Post:Unit→Fr→Lo→Prop} (h:Zk n (optI lo k) f l Post):∃ i,Zk n (k i) f l Post∧((lo=none∧i=none) ∨ ∃ y κ q,lo=some y∧i=some q∧a.eval y = .int κ q):=by
 cases lo with
 | none=>exact⟨none,h,.inl ⟨rfl,rfl⟩⟩
 | some y =>
  obtain⟨V1,h1,_,hA⟩:=ZM hr h;obtain⟨κ,i,rfl,hB⟩:=Znb hA;exact⟨some i,hB,.inr ⟨y,κ,i,rfl,rfl,(ZLa h1).1⟩⟩
theorem Z9j (hr:RelX N G w0 v0 U X f l a w γ v ℓ) (hU:∀ k,U k→X k) (hX:X n) {t:TypeId} {x:Operand} {lo hi:Option Operand} {o:Oper} {p:V} {i j:Option Int} {Post:Unit→Fr→Lo→Prop} (ho:o=⟨d,.slice t x lo hi none,ty,pos,aft,g⟩) (hd:∀ k,o.dst=some k→k<N) (hp:RV v γ l p (a.eval x))
  (hlo:(lo=none∧i=none) ∨ ∃ y κ q,lo=some y∧i=some q∧a.eval y = .int κ q) (hhi:(hi=none∧j=none) ∨ ∃ y κ q,hi=some y∧j=some q∧a.eval y = .int κ q) (h:Zk n (cutE P o t p i j) f l Post):Zpa P N G w0 v0 X o a w Post:=by
 obtain⟨σ,hσ,hev⟩:=hr.st.evs (x :: (lo.toList++hi.toList));have hx:=hev x (by simp);have h1:∀ m:Int,(ZHh i 0=m)→(lo=none∧m=0) ∨ ∃ y k,lo=some y∧ev σ y=some (.int k m):=by
  intro m hm;rcases hlo with ⟨e1,e2⟩ | ⟨y,κ,q,e1,e2,e3⟩
  ·subst e2;exact .inl ⟨e1,hm.symm⟩
  ·subst e1 e2;have hm:q=m:=hm;exact .inr ⟨y,κ,rfl,by rw[hev y (by simp),e3,hm]⟩
 have h2:∀ (len:Nat) (m:Int),(ZHh j (len:Int)=m)→(hi=none∧m=len) ∨ ∃ y k,hi=some y∧ev σ y=some (.int k m):=by
  intro len m hm;rcases hhi with ⟨e1,e2⟩ | ⟨y,κ,q,e1,e2,e3⟩
  ·subst e2;exact .inl ⟨e1,hm.symm⟩
  ·subst e1 e2;have hm:q=m:=hm;exact .inr ⟨y,κ,rfl,by rw[hev y (by simp),e3,hm]⟩
 unfold cutE at h;split at h
 ·rename_i s xs;obtain⟨qa,m,c,hy,hR⟩:=ZPn hp;rw[hy]at hx;split at h
  ·rename_i q hq;split at h
   ·rename_i hb;have hb:=eQ hb;have hSl:=ZGm hq;rw[hb,← ZK]at hSl;obtain⟨yy,hyy,h⟩:=h;obtain⟨c0,c1,c2,c3,_⟩:=Zsg hyy;obtain⟨q',cap',hrun,hrel⟩:=Zjy hσ hSl hR c0 c1 c2;rw[← c3]at hrel;subst ho;exact ZO hr hU (hrun hx (h1 _ rfl) (h2 _ _ rfl)) hd hX (x:=.data (.slice s) yy) ⟨[_],hrel,rfl⟩ trivial h
   ·exact h.elim
  ·exact h.elim
 ·obtain⟨e1,e2⟩:=Z1g hp;rw[e1]at hx;split at h
  ·rename_i ht;obtain⟨yy,hyy,h⟩:=h;subst ho;exact ZO hr hU (ZRw hσ hx ht (h1 _ rfl) (h2 _ _ rfl) hyy) hd hX (ZUl (ZJx hyy e2)) trivial h
  ·exact h.elim
 ·exact h.elim
theorem ZVf {ρ:Type}:∀ (g:Nat) {t:T} {x:V} {k:t.den→Ev ρ} {l:Lo} {Post:ρ→Fr→Lo→Prop},Zk n (conv g t x k) f l Post→x.isAgg=t.agg
 | 0,_,_,_,_,_,h=>h.elim
 | g+1,t,x,k,l,Post,h=>by
  cases x with
  | data s x =>
   simp only[conv]at h
   split at h
   ·rename_i y hy
    obtain⟨e,_⟩:=Z2 hy
    subst e;rfl
   ·split at h
    ·rfl
    ·rfl
    ·rfl
    ·rfl
    ·rfl
    ·split at h
     ·rename_i c hc
      have h1:=ZVf g (x:=.agg c) h
      have h2:s.agg=true:=by
       unfold ZEe at hc;split at hc <;> first | rfl | cases hc
      exact h2.trans h1
     ·exact h.elim
  | nilS =>
   simp only[conv]at h;split at h <;> first | rfl | exact h.elim
  | own u =>
   simp only[conv]at h;obtain⟨e,he,h⟩:=h;obtain⟨kk,st,L⟩:=e
   cases L with
   | box _ _=>exact h.elim
   | mid _ _ _ _ _ _=>exact h.elim
   | own ty s xs fz =>
    cases fz with
    | true=>exact ZVf g (x:=.data (.slice s) xs) h
    | false=>exact ZVf g (x:=.data (.slice s) xs) h
   | mat ty _ s m _=>exact ZVf g (x:=.data (.slice (.slice s)) m) h
  | agg c =>
   cases c with
   | cons x1 c =>
    cases c with
    | cons x2 r=>simp only[conv]at h;split at h <;> first | rfl | exact h.elim
    | nl=>simp only[conv]at h;split at h <;> first | rfl | exact h.elim
    | _=>simp only[conv]at h;exact h.elim
   | _=>simp only[conv]at h;exact h.elim
  | ptr u o =>
   cases o with
   | succ _=>simp only[conv]at h;exact h.elim
   | zero=>simp only[conv]at h;split at h <;> first | rfl | exact h.elim
  | _=>simp only[conv]at h;exact h.elim
theorem Zzu {x:V} {t:T} {cs:List Value} (h:x.isAgg=t.agg):x.val cs=t.rep.val cs:=by
 unfold V.val Rep.val;rw[h,Zfq]
 cases t.agg <;> rfl
theorem ZKq {v v':Zb} (h:v.le v'):∀ {ts:List T} {vals:List Value} {x:ZI ts},Z1a v ts vals x→Z1a v' ts vals x
 | [],_,_,k=>k
 | [_],_,_,⟨cs,h1,h2⟩=>⟨cs,h1,Rep.mono _ h h2⟩
 | _ :: _ :: _,_,_,⟨cs,vs,h1,h2,h3⟩=>⟨cs,vs,h1,Rep.mono _ h h2,ZKq h h3⟩
theorem ZOf {ρ:Type} (hn:¬ U n) (hX:X n):∀ {ts:List T} {c:V} {k:ZI ts→Ev ρ} {l:Lo} {γ:Nat→Gh} {v:Zb} {ℓ:List Loc} {Post:ρ→Fr→Lo→Prop},Zk n (ZRe ts c k) f l Post→RelX N G w0 v0 U X f l a w γ v ℓ→c.ok U →
  ∃ x l' γ' v' ℓ',Zk n (k x) f l' Post∧RelX N G w0 v0 U X f l' a w γ' v' ℓ'∧Le U v γ l v' γ' l'∧∀ vals,RR v γ l true c vals→Z1a v' ts vals x
 | [],c,k,l,γ,v,ℓ,Post,h,hr,hk=>by
  obtain⟨E,hE,_⟩:=hr.lr
  cases c with
  | nl=>exact⟨(),l,γ,v,ℓ,h,hr,Le.refl hE (Zb.le_refl _),λvals hv=>hv⟩
  | _=>exact h.elim
 | [t],c,k,l,γ,v,ℓ,Post,h,hr,hk=>by
  cases c with
  | cons x c =>
   cases c with
   | nl =>
    have hag:=ZVf FU (n:=n) (f:=f) (l:=l) (t:=t) (x:=x) h
    obtain⟨y,l1,γ1,v1,ℓ1,h,r1,le1,q1⟩:=Zdd hn hX FU h hr hk.1
    refine⟨y,l1,γ1,v1,ℓ1,h,r1,le1,λvals hv=>?_⟩
    obtain⟨cs,vs,rfl,h1,h2⟩:=hv
    have h2:vs=[]:=h2
    subst h2
    exact⟨cs,by rw[Zzu hag],q1 _ h1⟩
   | _=>exact h.elim
  | _=>exact h.elim
 | t :: u :: r,c,k,l,γ,v,ℓ,Post,h,hr,hk=>by
  cases c with
  | cons x c =>
   have h':Zk n (conv FU t x λx=>ZRe (u :: r) c λy=>k (x,y)) f l Post:=by
    cases c <;> exact h
   have hag:=ZVf FU (n:=n) (f:=f) (l:=l) (t:=t) (x:=x) h';obtain⟨y,l1,γ1,v1,ℓ1,h1,r1,le1,q1⟩:=Zdd hn hX FU h' hr hk.1;obtain⟨ys,l2,γ2,v2,ℓ2,h2,r2,le2,q2⟩:=ZOf hn hX h1 r1 hk.2;refine⟨(y,ys),l2,γ2,v2,ℓ2,h2,r2,le1.trans le2,λvals hv=>?_⟩;obtain⟨cs,vs,rfl,h3,h4⟩:=hv;exact⟨cs,vs,by rw[Zzu hag],Rep.mono _ le2.v (q1 _ h3),q2 _ (ZDb le1 hk.2 h4)⟩
  | _=>exact h.elim
theorem ZRo {v:Zb}:∀ {ts:List T} {vals:List Value} {x:ZI ts},Z1a v ts vals x→RR v γ l true (Z4c ts x) vals∧(Z4c ts x).ok U
 | [],_,_,h=>⟨h,trivial⟩
 | [t],_,x,⟨cs,h1,h2⟩=>⟨⟨cs,[],by rw[h1];exact congrArg (λz=>[z]) (Zfh (t:=t) (x:=x) (cs:=cs)).symm,h2,rfl⟩,trivial,trivial⟩
 | t :: u :: r,_,x,⟨cs,vs,h1,h2,h3⟩=>by
  obtain⟨k1,k2⟩:=ZRo h3
  exact⟨⟨cs,vs,by rw[h1];exact congrArg (· :: vs) (Zfh (t:=t) (x:=x.1) (cs:=cs)).symm,h2,k1⟩,trivial,k2⟩
theorem Zwo {v:Zb} {ts:List T} {y:Value} {z:ZI ts} (h:ZUe v ts y z):RV v γ l (ZUd (Z4c ts z)) y∧(ZUd (Z4c ts z)).ok U:=by
 match ts,z,h with
 | [],z,⟨vals,h1,h2⟩=>exact⟨⟨vals,h2,h1⟩,trivial⟩
 | [t],z,⟨cs,h1,h2⟩=>exact⟨⟨cs,h2,by rw[h1];exact (Zfh (t:=t) (x:=z) (cs:=cs)).symm⟩,trivial⟩
 | t :: u :: r,z,⟨vals,h1,h2⟩ =>
  obtain⟨k1,k2⟩:=ZRo (γ:=γ) (l:=l) (U:=U) h2
  cases r <;> exact⟨⟨vals,k1,h1⟩,k2⟩
theorem Ziq {σ:List (Nat×Value)} (hS:St N w0 v0 σ ℓ v a w) {x:Operand} {m:String} {f:FuncId} {xs:Array Operand} {ats:Array TypeId} {t:TypeId} {y:Value} (vals:List Value) (hm:∀ w,(method (P.types.size+Made.depth) t y m).run P w = .ok (f,y) w) (e:ev σ x=some (.iface t y))
  (h:xs.toList.map (ev σ)=vals.map some) {r:Go.Next} (hf:(callFunc f (y :: vals).toArray).run P w = .ok r w):(execOp a.eval ⟨d,.call ⟨.invoke x m,xs,ats⟩,ty,pos,aft,g⟩).run P w = .ok r w:=by
 have hx:xs.map a.eval=vals.toArray:=by
  apply Array.ext';rw[Array.toList_map];generalize xs.toList=l at h;clear hf
  induction l generalizing vals with
  | nil=>cases vals <;> simp_all
  | cons y l ih =>
   cases vals with
   | nil=>simp at h
   | cons u vals =>
    simp at h;simp[hS.eval h.1,ih vals h.2]
 simp[execOp,resolve,invoke,callMethod,hx,hS.eval e,hm,hf]
theorem Zlm (hr:RelX N G w0 v0 U X f l a w γ v ℓ) (hU:∀ k,U k→X k) (hX:X n) (hn:¬ U n) {e:TypeId} {s:T} {xs:List s.den} {o:Oper} {ob:Option Nat} {cap:Nat} {cs:List Value} {Post:Unit→Fr→Lo→Prop} (hd:∀ k,o.dst=some k→k<N)
  (hst:St N w0 v0 [] (.own ob e s.n xs.length cap cs :: ℓ) v a w) (hc:s.rep.rels v cs xs) (h:Zk n (Ev.new n (.own e s xs false) (ret o (.own n))) f l Post):∃ f' l',Post () f' l'∧Rel N G w0 v0 X f' l' (a.put o.dst (.slice (mkA ob) xs.length cap)) w:=by
 obtain⟨hnew,h⟩:=h;obtain⟨E,hE,hpm⟩:=hr.lr;have hr':=hr.new (γ':=Ztb γ n (.own ob cap)) (L':=.own e s xs false) hX hX hn hnew hE (hst.perm (List.Perm.cons _ hpm)) (Zb.le_refl _) (λ_ h=>ZVb h) ⟨ob,cap,cs,ZSa,hc,rfl⟩ (List.Perm.refl _) trivial;unfold ret at h
 cases hdd:o.dst with
 | none=>rw[hdd]at h;exact h.elim
 | some d =>
  rw[hdd]at h;refine⟨_,_,h,_,_,_,(hr'.mono hU λ_ h=>h).put (hd d hdd) (x:=.own n) ⟨[_],⟨_,rfl,by cases ob <;> rfl,λe' he'=>?_⟩,rfl⟩ hX hX⟩;rw[ZL,iP rfl]at he';cases he';exact⟨_,_,ZSa,rfl⟩
theorem ZPy (hr:RelX N G w0 v0 U X f l a w γ v ℓ) (hU:∀ k,U k→X k) (hX:X n) (hn:¬ U n) {e:TypeId} {s:T} {xs:List s.den} {res:List T} {z2:ZI res} {rest:List Value} {o:Oper} {ob:Option Nat} {cap:Nat} {cs:List Value} {Post:Unit→Fr→Lo→Prop} (hd:∀ k,o.dst=some k→k<N)
  (hst:St N w0 v0 [] (.own ob e s.n xs.length cap cs :: ℓ) v a w) (hc:s.rep.rels v cs xs) (hrest:Z1a v res rest z2) (h:Zk n (Ev.new n (.own e s xs false) (ret o (.tup (.cons (.own n) (Z4c res z2))))) f l Post):∃ f' l',Post () f' l'∧Rel N G w0 v0 X f' l' (a.put o.dst (.tuple (.slice (mkA ob) xs.length cap :: rest).toArray)) w:=by
 obtain⟨hnew,h⟩:=h;obtain⟨E,hE,hpm⟩:=hr.lr;have hr':=hr.new (γ':=Ztb γ n (.own ob cap)) (L':=.own e s xs false) hX hX hn hnew hE (hst.perm (List.Perm.cons _ hpm)) (Zb.le_refl _) (λ_ h=>ZVb h) ⟨ob,cap,cs,ZSa,hc,rfl⟩ (List.Perm.refl _) trivial;unfold ret at h
 cases hdd:o.dst with
 | none=>rw[hdd]at h;exact h.elim
 | some d =>
  rw[hdd]at h;obtain⟨k1,k2⟩:=ZRo (γ:=Ztb γ n (.own ob cap)) (l:=⟨n,n,LV.own e s xs false⟩ :: l) (U:=X) hrest;refine⟨_,_,h,_,_,_,(hr'.mono hU λ_ h=>h).put (hd d hdd) (x:=.tup (.cons (.own n) (Z4c res z2))) ⟨_ :: rest,⟨[_],rest,rfl,⟨_,rfl,by cases ob <;> rfl,λe' he'=>?_⟩,k1⟩,rfl⟩ ⟨hX,k2⟩ hX⟩;rw[ZL,iP rfl]at he';cases he';exact⟨_,_,ZSa,rfl⟩
theorem St.addL {K:Nat} {w0:Base} {v0:Zb} {σ:List (Nat×Value)} {ℓ es:List Loc} {v:Zb} {a:Act} {w:World} {s:Nat} (h:St K w0 v0 σ ℓ v a w) (hs:w0.wd.heap.size≤s) (hnew:∀ x ∈ es,x.holds w∧∀ b,x.blk=some b→s≤b∧v b=none) (hnd:(es.filterMap Loc.blk).Nodup) (hold:∀ x ∈ ℓ,∀ b,x.blk=some b→b<s):St K w0 v0 σ (es++ℓ) v a w:=by
 refine⟨h.size,h.dfr,h.fr,h.ext,h.vst,λx hx=>?_,?_⟩
 ·rcases List.mem_append.1 hx with hx | hx
  ·exact⟨(hnew x hx).1,λb eb=>⟨.inl (Nat.le_trans hs ((hnew x hx).2 b eb).1),((hnew x hx).2 b eb).2⟩⟩
  ·exact h.loc x hx
 ·rw[List.filterMap_append];refine List.nodup_append.2 ⟨hnd,h.nd,λb hb b' hb' e=>?_⟩;subst e;obtain⟨x,hx,hxb⟩:=List.mem_filterMap.1 hb;obtain⟨y,hy,hyb⟩:=List.mem_filterMap.1 hb';have h1:=((hnew x hx).2 b hxb).1;have h2:=hold y hy b hyb;omega
theorem put_mat (hr:RelX N G w0 v0 U X f l a w γ v ℓ) (hU:∀ k,U k→X k) (hX:X n) (hn:¬ U n) {ty ty2:TypeId} {t:T} {m:List (List t.den)} {o:Oper} {ob:Option Nat} {cap:Nat} {rows:List (Option Nat×Nat)} {es:List Loc} {Post:Unit→Fr→Lo→Prop} (hd:∀ k,o.dst=some k→k<N)
  (hst:St N w0 v0 [] ((.own ob ty 1 m.length cap (Zn rows m) :: es)++ℓ) v a w) (hc:Zva v ty2 t rows m es) (h:Zk n (Ev.new n (.mat ty ty2 t m n) (ret o (.own n))) f l Post):∃ f' l',Post () f' l'∧Rel N G w0 v0 X f' l' (a.put o.dst (.slice (mkA ob) m.length cap)) w:=by
 obtain⟨hnew,h⟩:=h;obtain⟨E,hE,hpm⟩:=hr.lr;have hr':=hr.new (γ':=Ztb γ n (.mat ob cap rows)) (L':=.mat ty ty2 t m n) (es':=.own ob ty 1 m.length cap (Zn rows m) :: es) hX hX hn hnew hE (hst.perm (List.Perm.append_left _ hpm)) (Zb.le_refl _) (λ_ h=>ZVb h) ⟨ob,cap,rows,es,ZSa,hc,rfl⟩ (List.Perm.refl _) hX;unfold ret at h
 cases hdd:o.dst with
 | none=>rw[hdd]at h;exact h.elim
 | some d =>
  rw[hdd]at h;refine⟨_,_,h,_,_,_,(hr'.mono hU λ_ h=>h).put (hd d hdd) (x:=.own n) ⟨[_],⟨_,rfl,by cases ob <;> rfl,λe' he'=>?_⟩,rfl⟩ hX hX⟩;rw[ZL,iP rfl]at he';cases he';exact⟨_,_,_,ZSa,rfl⟩
theorem ZYr {c:ConI} {fid:FuncId} (hI:Ztl P fid c) (hr:RelX N G w0 v0 U X f l a w γ v ℓ) (hU:∀ k,U k→X k) (hX:X n) (hn:¬ U n) {o:Oper} {Post:Unit→Fr→Lo→Prop} (hd:∀ k,o.dst=some k→k<N) {ob:Option Nat} {cap:Nat} {cs:List Value} {xs:List c.t.den} {i:Int} {bv kv:Nat} {c0:Array Value} {x:c.t.den} {z:List c.t.den}
  (hst:St N w0 v0 [] (.own ob c.ty c.t.n xs.length cap cs :: ℓ) v a w) (hA:c.t.rep.rels v cs xs) (hkv:1≤kv) (hbv:v bv=some (.cells c0 c.ty (0,0))) (hx:c.t.rep.rel v (c0.toList.take c.t.n) x) (hi:inR .i64 i) (hz:c.F xs i x=some z)
  (hent:ZV P fid→(execOp a.eval o).run P w = .ok (.enter fid #[.slice (mkA ob) xs.length cap,.int .i64 i,.slice (some ⟨bv,0,none⟩) 1 kv]) w) (h:Zk n (Ev.new n (.own c.ty c.t z false) (ret o (.own n))) f l Post):Zpa P N G w0 v0 X o a w Post:=by
 obtain⟨hh,hb⟩:=hst.loc _ List.mem_cons_self;obtain⟨hen,hret⟩:=hI w v ob xs.length cap cs xs i bv kv c0 x z hst.vin hh (λb e=>(hb b e).2) hA rfl hkv hbv hx hi hz;refine ZNc (hent hen) (Calls.mono hret λe w' ⟨r,v',e1,e2,e3,e4⟩=>⟨r,e1,?_⟩);obtain⟨ob',n',cap',cs',rfl,hh',hb',hA',hn'⟩:=e4;subst hn';have hS:=hst.afterI (i:=0) (e':=.own ob' c.ty c.t.n z.length cap' cs') rfl e2 e3 hh' λb hb=>by
  obtain⟨q1,q2⟩:=hb' b hb;exact⟨q1,q2⟩
 have hS:St N w0 v0 [] (.own ob' c.ty c.t.n z.length cap' cs' :: ℓ) v' a w':=hS;exact Zlm (hr.go e3.le (hS.drop (List.sublist_cons_self _ _))) hU hX hn hd hS hA' h
theorem ZNx {c:ConD} {fid:FuncId} (hI:ZQj P fid c) (hr:RelX N G w0 v0 U X f l a w γ v ℓ) (hU:∀ k,U k→X k) (hX:X n) (hn:¬ U n) {o:Oper} {Post:Unit→Fr→Lo→Prop} (hd:∀ k,o.dst=some k→k<N) {ob:Option Nat} {cap:Nat} {cs:List Value} {xs:List c.t.den} {i j:Int} {z:List c.t.den}
  (hst:St N w0 v0 [] (.own ob c.ty c.t.n xs.length cap cs :: ℓ) v a w) (hA:c.t.rep.rels v cs xs) (hi:inR .i64 i) (hj:inR .i64 j) (hz:c.F xs i j=some z)
  (hent:ZV P fid→(execOp a.eval o).run P w = .ok (.enter fid #[.slice (mkA ob) xs.length cap,.int .i64 i,.int .i64 j]) w) (h:Zk n (Ev.new n (.own c.ty c.t z false) (ret o (.own n))) f l Post):Zpa P N G w0 v0 X o a w Post:=by
 obtain⟨hh,hb⟩:=hst.loc _ List.mem_cons_self;obtain⟨hen,hret⟩:=hI w v ob xs.length cap cs xs i j z hst.vin hh (λb e=>(hb b e).2) hA rfl hi hj hz;refine ZNc (hent hen) (Calls.mono hret λe w' ⟨r,v',e1,e2,e3,e4⟩=>⟨r,e1,?_⟩);obtain⟨ob',n',cap',cs',rfl,hh',hb',hA',hn'⟩:=e4;subst hn';have hS:=hst.afterI (i:=0) (e':=.own ob' c.ty c.t.n z.length cap' cs') rfl e2 e3 hh' λb hb=>by
  obtain⟨q1,q2⟩:=hb' b hb;exact⟨q1,q2⟩
 have hS:St N w0 v0 [] (.own ob' c.ty c.t.n z.length cap' cs' :: ℓ) v' a w':=hS;exact Zlm (hr.go e3.le (hS.drop (List.sublist_cons_self _ _))) hU hX hn hd hS hA' h
theorem ZJp {C:Cf} (hC:CfOK C) (hr:RelX N G w0 v0 U X f l a w γ v ℓ) (hU:∀ k,U k→X k) (hX:X n) (hn:¬ U n) {fid:FuncId} {c:V} {vals:List Value} {o:Oper} {Post:Unit→Fr→Lo→Prop} (hd:∀ k,o.dst=some k→k<N)
  (hent:ZV C.P fid→(execOp a.eval o).run C.P w = .ok (.enter fid vals.toArray) w) (hval:∀ y,(∀ w,(callFunc fid vals.toArray).run C.P w = .ok (.value y) w)→(execOp a.eval o).run C.P w = .ok (.value y) w)
  (hc:RR v γ l true c vals) (hk:c.ok U) (h:Zk n (Zyk C n o fid c) f l Post):Zpa C.P N G w0 v0 X o a w Post:=by
 unfold Zyk at h;split at h
 ·rename_i con hcon;obtain⟨p,l1,γ1,v1,ℓ1,h,r1,le1,q1⟩:=ZOf hn hX h hr hk;obtain⟨z,hz,h⟩:=h;have hR:=q1 _ hc;rcases hC.c fid con hcon w v1 _ p z r1.st.vin hR hz with ⟨hen,hret⟩ | ⟨y,hv,hres⟩
  ·refine ZNc (hent hen) (Calls.mono hret λe w' ⟨r,v',e1,e2,e3,e4⟩=>⟨r,e1,?_⟩);have r2:=r1.go e3.le (r1.st.step e2 e3);obtain⟨k1,k2⟩:=Zwo (γ:=γ1) (l:=l1) (U:=X) e4;unfold ret at h
   cases hdd:o.dst with
   | none=>rw[hdd]at h;exact h.elim
   | some dd =>
    rw[hdd]at h;exact⟨_,_,h,_,_,_,(r2.mono hU λ_ h=>h).put (hd dd hdd) k1 k2 hX⟩
  ·obtain⟨k1,k2⟩:=Zwo (γ:=γ1) (l:=l1) (U:=X) hres;exact ZO r1 hU (hval y hv) hd hX k1 k2 h
 ·split at h
  ·rename_i con hcon;obtain⟨p,l1,γ1,v1,ℓ1,h,r1,le1,q1⟩:=ZOf hn hX h hr hk;obtain⟨z,hz,h⟩:=h;have hR:=q1 _ hc;obtain⟨hen,hret⟩:=hC.o fid con hcon w v1 _ p z r1.st.vin hR hz;refine ZNc (hent hen) (Calls.mono hret λe w' ⟨r,v',e1,e2,e3,e4⟩=>⟨r,e1,?_⟩);obtain⟨ob,n',cap,cs,rfl,hh,hb,hA,hn'⟩:=e4;subst hn';have h':=r1.st.step e2 e3;refine Zlm (r1.go e3.le h') hU hX hn hd (cs:=cs) ⟨h'.size,h'.dfr,h'.fr,h'.ext,h'.vst,λx hx=>?_,?_⟩ hA h
   ·rcases List.mem_cons.1 hx with rfl | hx
    ·exact⟨hh,λb eb=>⟨.inl (Nat.le_trans r1.st.ext.size (hb b eb).1),(hb b eb).2⟩⟩
    ·exact h'.loc x hx
   ·cases ob with
    | none=>rw[List.filterMap_cons_none (show (Loc.own none con.ty con.t.n z.length cap cs).blk=none from rfl)];exact h'.nd
    | some b =>
     rw[List.filterMap_cons_some (show (Loc.own (some b) con.ty con.t.n z.length cap cs).blk=some b from rfl)];refine List.nodup_cons.2 ⟨λhm=>?_,h'.nd⟩;obtain⟨x,hx,hxb⟩:=List.mem_filterMap.1 hm;obtain⟨c,T',hg⟩:=Loc.blk_get (r1.st.loc x hx).1 hxb;have h1:=Z8c hg;have h2:=(hb b rfl).1;omega
  ·split at h
   ·rename_i con hcon;have hI:=hC.i fid con hcon;unfold insE at h;split at h
    ·rename_i A i u2;obtain⟨cA,xs1,rfl,hA1,xs2,xs3,rfl,hI1,xs4,xs5,rfl,hU2,hnl⟩:=hc;have hnl:xs5=[]:=hnl;subst hnl;obtain⟨e2,he2,h⟩:=h;obtain⟨k2,st2,L2⟩:=e2;have hk2:k2=u2:=(Zo he2).2;subst hk2
     cases L2 with
     | own ty2 s2 l2 fz =>
      cases fz with
      | true=>exact h.elim
      | false =>
       simp only at h;split at h
       ·rename_i x hty hcast;have hty:=eQ hty;subst hty;obtain⟨c3,c4⟩:=Z2 hcast;obtain⟨es2,E2,g1,_,_,g3,r1⟩:=hr.del he2;obtain⟨ob2,cap2,cs2,g4,g5,rfl⟩:=g1;have g4:γ k2 = .own ob2 cap2:=g4;obtain⟨y2,rfl,_,hy2⟩:=hU2;obtain⟨ob2',cap2',g6,g7⟩:=hy2 _ he2;rw[g4]at g6;cases g6;have hst2:=hr.st.perm g3;obtain⟨hh2,hb2⟩:=hst2.loc _ List.mem_cons_self;have hc3:s2=con.t:=by injection c3
        subst hc3;have hl2:l2=[x]:=c4;subst hl2
        cases ob2 with
        | none=>obtain⟨q,_⟩:=hh2;cases q
        | some bv =>
         obtain⟨hl,cur,hg,hle,_,hcz,htk⟩:=hh2;obtain⟨v1,hv1,hv2,hst3⟩:=hst2.publish (i:=0) (ℓ':=E2.flatten) rfl rfl hg rfl;have r2:=r1.go hv1 hst3;have hx1:con.t.rep.rel v1 (cur.toList.take con.t.n) x:=by
          have hq:con.t.rep.rels v1 cs2 [x]:=ZZ hv1 g5;obtain⟨d1,d2,e1,e2,e3⟩:=hq;have e3:d2=[]:=e3;subst e3;rw[List.append_nil]at e1;subst e1;have:cur.toList.take ([x].length*con.t.n)=cs2:=htk;rw[show [x].length*con.t.n=con.t.n by simp]at this;rw[this];exact e2
         have hi:inR .i64 i:=by obtain⟨_,q⟩:=hI1;exact q
         have hiv:(V.data (.int .i64) i).val xs2 = .int .i64 i:=by obtain⟨q,_⟩:=hI1;subst q;rfl
         have hle0:=Le.era hr k2;have lv:Le U v γ l v1 γ (era l k2):=hle0.trans (by obtain⟨EE,hEE,_⟩:=r1.lr;exact Le.refl hEE hv1)
         cases A with
         | own u =>
          simp only at h;obtain⟨e,he,h⟩:=h;obtain⟨k,st,L⟩:=e;have hkk:k=u:=(Zo he).2;subst hkk
          cases L with
          | own ty s xs fz =>
           cases fz with
           | true=>exact h.elim
           | false =>
            simp only at h;split at h
            ·rename_i l' hty hcast;have hty:=eQ hty;subst hty;obtain⟨c5,c6⟩:=Z2 hcast;have hc5:s=con.t:=by injection c5
             subst hc5;have hl':xs=l':=c6;subst hl';obtain⟨z,hz,h⟩:=h;obtain⟨es,E3,d1,_,_,d3,r3⟩:=r2.del he;obtain⟨ob,cap,cs,d4,d5,rfl⟩:=d1;have d4:γ k = .own ob cap:=d4;have hA2:=ZDb lv (x:=.own k) hk.1 hA1;obtain⟨y,rfl,_,hy⟩:=hA2;obtain⟨ob',cap',d6,d7⟩:=hy _ he;rw[d4]at d6;cases d6;refine ZYr hI r3 hU hX hn hd (hst3.perm d3) d5 (kv:=cap2) (by simpa using hle) hv2 hx1 hi hz (λhen=>?_) h;rw[hent hen,ZXf (x:=.own k) rfl,d7,hiv,ZXf (x:=.own k2) rfl,g7];rfl
            ·exact h.elim
          | box _ _=>exact h.elim
          | mid _ _ _ _ _ _=>exact h.elim
          | mat _ _ _ _ _=>exact h.elim
         | nilS =>
          simp only at h;obtain⟨z,hz,h⟩:=h;have hA1:cA=[.slice none 0 0]:=hA1;subst hA1;refine ZYr hI r2 hU hX hn hd (ob:=none) (cap:=0) (cs:=[]) (xs:=[]) (hst3.nilLoc con.ty con.t.n) rfl (kv:=cap2) (by simpa using hle) hv2 hx1 hi hz (λhen=>?_) h;rw[hent hen,hiv,ZXf (x:=.own k2) rfl,g7];rfl
         | _=>exact h.elim
       ·exact h.elim
     | box _ _=>exact h.elim
     | mid _ _ _ _ _ _=>exact h.elim
     | mat _ _ _ _ _=>exact h.elim
    ·exact h.elim
   ·split at h
    ·rename_i con hcon;obtain⟨p,l1,γ1,v1,ℓ1,h,r1,le1,q1⟩:=ZOf hn hX h hr hk;obtain⟨z,hz,h⟩:=h;have hR:=q1 _ hc;obtain⟨hen,hret⟩:=hC.q fid con hcon w v1 _ p z r1.st.vin hR hz;refine ZNc (hent hen) (Calls.mono hret λe w' ⟨r,v',e1,e2,e3,e4⟩=>⟨r,e1,?_⟩);obtain⟨ob,cap,rows,es,rfl,hA,hh,hb⟩:=e4;have h':=r1.st.step e2 e3;refine put_mat (r1.go e3.le h') hU hX hn hd (h'.addL r1.st.ext.size hh hb λx hx b hxb=>?_) hA h;obtain⟨c,T',hg⟩:=Loc.blk_get (r1.st.loc x hx).1 hxb;exact Z8c hg
    ·split at h
     ·rename_i con hcon;have hI:=hC.d fid con hcon;unfold delE at h;split at h
      ·rename_i u i j;obtain⟨cA,x1,rfl,hA,cI,x2,rfl,hI1,cJ,x3,rfl,hJ,hnl⟩:=hc;have hnl:x3=[]:=hnl;subst hnl;obtain⟨e,he,h⟩:=h;obtain⟨kk,st,L⟩:=e;have hkk:kk=u:=(Zo he).2;subst hkk
       cases L with
       | own ty s xs fz =>
        cases fz with
        | true=>exact h.elim
        | false =>
         simp only at h;split at h
         ·rename_i ys hty hcast;have hty:=eQ hty;subst hty;obtain⟨c5,c6⟩:=Z2 hcast;have hc5:s=con.t:=by injection c5
          subst hc5;have hl':xs=ys:=c6;subst hl';obtain⟨z,hz,h⟩:=h;obtain⟨es,E',h1,_,h2,h3,r1⟩:=hr.del he;obtain⟨ob,cap,cs,g1,g2,rfl⟩:=h1;have g1:γ kk = .own ob cap:=g1;obtain⟨y,rfl,_,hy⟩:=hA;obtain⟨ob',cap',g3,g4⟩:=hy _ he;rw[g1]at g3;cases g3;have hi:inR .i64 i:=by obtain⟨_,q⟩:=hI1;exact q
          have hiv:(V.data (.int .i64) i).val cI = .int .i64 i:=by obtain⟨q,_⟩:=hI1;subst q;rfl
          have hj:inR .i64 j:=by obtain⟨_,q⟩:=hJ;exact q
          have hjv:(V.data (.int .i64) j).val cJ = .int .i64 j:=by obtain⟨q,_⟩:=hJ;subst q;rfl
          refine ZNx hI r1 hU hX hn hd (hr.st.perm h3) g2 hi hj hz (λhen=>?_) h;rw[hent hen,ZXf (x:=.own kk) rfl,g4,hiv,hjv]
         ·exact h.elim
       | box _ _=>exact h.elim
       | mid _ _ _ _ _ _=>exact h.elim
       | mat _ _ _ _ _=>exact h.elim
      ·exact h.elim
     ·split at h
      ·rename_i con hcon;obtain⟨p,l1,γ1,v1,ℓ1,h,r1,le1,q1⟩:=ZOf hn hX h hr hk;obtain⟨z,hz,h⟩:=h;have hR:=q1 _ hc;obtain⟨hen,hret⟩:=hC.p fid con hcon w v1 _ p z r1.st.vin hR hz;refine ZNc (hent hen) (Calls.mono hret λe w' ⟨r,v',e1,e2,e3,e4⟩=>⟨r,e1,?_⟩);obtain⟨r0,rest,rfl,⟨ob,n',cap,cs,rfl,hh,hb,hA,hn'⟩,hrest⟩:=e4;subst hn';have h':=r1.st.step e2 e3;refine ZPy (r1.go e3.le h') hU hX hn hd (cs:=cs) ⟨h'.size,h'.dfr,h'.fr,h'.ext,h'.vst,λx hx=>?_,?_⟩ hA hrest h
       ·rcases List.mem_cons.1 hx with rfl | hx
        ·exact⟨hh,λb eb=>⟨.inl (Nat.le_trans r1.st.ext.size (hb b eb).1),(hb b eb).2⟩⟩
        ·exact h'.loc x hx
       ·cases ob with
        | none=>rw[List.filterMap_cons_none (show (Loc.own none con.ty con.t.n z.1.length cap cs).blk=none from rfl)];exact h'.nd
        | some b =>
         rw[List.filterMap_cons_some (show (Loc.own (some b) con.ty con.t.n z.1.length cap cs).blk=some b from rfl)];refine List.nodup_cons.2 ⟨λhm=>?_,h'.nd⟩;obtain⟨x,hx,hxb⟩:=List.mem_filterMap.1 hm;obtain⟨c,T',hg⟩:=Loc.blk_get (r1.st.loc x hx).1 hxb;have h1:=Z8c hg;have h2:=(hb b rfl).1;omega
      ·exact h.elim
theorem ZMr:∀ {c:V} {i:Nat} {z:V} {vals:List Value},nthV c i=some z→RR v γ l true c vals→c.ok U→∃ y,vals[i]? = some y∧RV v γ l z y∧z.ok U
 | .cons x c,0,z,vals,h,hr,hk=>by
  cases h
  obtain⟨cs,xs,rfl,h1,h2⟩:=hr
  exact⟨_,rfl,Z4b h1 (λc e=>by subst e;exact h1),hk.1⟩
 | .cons x c,i+1,z,vals,h,hr,hk=>by
  obtain⟨cs,xs,rfl,h1,h2⟩:=hr
  obtain⟨y,k1,k2,k3⟩:=ZMr (c:=c) h h2 hk.2
  exact⟨y,by simpa using k1,k2,k3⟩
theorem RelX.slot (h:RelX N G w0 v0 U X f l a w γ v ℓ) {t m:Nat} {z:V} (hr:RV v γ l z (a.tmps.getD t undef)) (hk:z.ok U) (hX:X m):RelX N G w0 v0 U X (⟨t,m,z⟩ :: f) l a w γ v ℓ:=by
 refine⟨h.st,λt' e' he'=>?_,h.lr,h.nd,λt' e' he'=>?_,h.ul,h.gh⟩
 ·rw[ZL]at he';split at he'
  ·rename_i hk'
   cases he'
   have hk':t=t':=hk';rw[← hk'];exact hr
  ·exact h.fr t' e' he'
 ·rw[ZL]at he';split at he'
  ·cases he';exact⟨hk,hX⟩
  ·exact h.uf t' e' he'
theorem Z8z {σ:List (Nat×Value)} (hS:St N w0 v0 σ ℓ v a w) {t e:TypeId} {n b:Nat} {i:TypeInfo} {x:Operand} (ht:P.underlying t=some (.array n e)) (hi:P.info? e=some i) (e1:ev σ x=some (.pointer (some ⟨b,0,none⟩))) :
  (execOp a.eval ⟨d,.slice t x none none none,ty,pos,aft,g⟩).run P w = .ok (.value (.slice (some ⟨b,0,none⟩) n n)) w:=by
 have h2:∀ w,(underlying t).run P w = .ok (.array n e) w:=λw=>run_underlying ht w;have h3:∀ w,(sizeOf e).run P w = .ok i.size w:=λw=>by simp[sizeOf,typeInfo,hi]
 by_cases hn:n=0
 ·subst hn;simp[execOp,Instr.sliceAt,Instr.sureAddr,hS.eval e1,h2,h3,Instr.sliceBounds,Zeb]
 ·simp[execOp,Instr.sliceAt,Instr.sureAddr,hS.eval e1,h2,h3,Instr.sliceBounds,Zeb]
theorem arrE_ok {C:Cf} (hr:RelX N G w0 v0 U X f l a w γ v ℓ) (hU:∀ k,U k→X k) (hX:X n) (hn:¬ U n) {t:TypeId} {s u off:Nat} {lo hi:Option Operand} {i j:Option Int} {o:Oper} {Post:Unit→Fr→Lo→Prop} (ho:o=⟨d,.slice t (.tmp s) lo hi none,ty,pos,aft,g⟩) (hd:∀ k,o.dst=some k→k<N) (hp:RV v γ l (.ptr u off) (a.eval (.tmp s))) (hk:U u)
  (hlo:(lo=none∧i=none) ∨ ∃ y κ q,lo=some y∧i=some q∧a.eval y = .int κ q) (hhi:(hi=none∧j=none) ∨ ∃ y κ q,hi=some y∧j=some q∧a.eval y = .int κ q) (h:Zk n (arrE C o t s u off i j) f l Post):Zpa C.P N G w0 v0 X o a w Post:=by
 unfold arrE at h;split at h
 ·rename_i m e h0 hu;have h0:=eQ h0;subst h0;have hlo:lo=none:=by
   rcases hlo with h1 | ⟨_,_,_,_,h1,_⟩
   ·exact h1.1
   ·cases h1
  have hhi:hi=none:=by
   rcases hhi with h1 | ⟨_,_,_,_,h1,_⟩
   ·exact h1.1
   ·cases h1
  subst hlo hhi;split at h
  ·rename_i α q hα hq hm0 hm1;have hm0:1≤m:=lB hm0;have hm1:=lB hm1;split at h
   ·obtain⟨⟨k0,st0,L⟩,he,h⟩:=h;have hkk:k0=u:=(Zo he).2;subst hkk
    cases L with
    | box ty0 c =>
     simp only at h;obtain⟨y,hy0,_,hy⟩:=Zga hp (λ_ e=>by cases e) rfl rfl;have hy0:a.eval (.tmp s)=y:=(List.cons.inj hy0).1;obtain⟨b,g1,rfl⟩:=hy _ he;obtain⟨es,E',h1,_,_,h3,_⟩:=hr.del he;obtain⟨b',cs,g2,g3,g4,rfl⟩:=h1;have g2:γ k0 = .box b':=g2;rw[g1]at g2;cases g2;obtain⟨x1,l1,γ1,v1,ℓ1,hB,r1,le1,q1⟩:=Zdd hn hX FU h hr (hr.ul _ (Zo he).1).2.2;obtain⟨⟨k1,st1,L1⟩,he1,hC⟩:=hB;have hkk1:k1=k0:=(Zo he1).2;subst hkk1
     cases L1 with
     | box ty1 c1 =>
      obtain⟨e0,he0,hce⟩:=le1.l _ _ hk he1;rw[he]at he0;cases he0;have hce:γ1 k1=γ k1:=hce;obtain⟨es1,E1,f1,_,_,f3,r2⟩:=r1.del he1;obtain⟨b1,cs1,f4,f5,f6,rfl⟩:=f1;have f4:γ1 k1 = .box b1:=f4;rw[hce,g1]at f4;cases f4;have m0:=(hr.st.loc _ (h3.mem_iff.2 (List.mem_append_left _ (List.mem_singleton.2 rfl)))).1;have m1:=(r1.st.loc _ (f3.mem_iff.2 (List.mem_append_left _ (List.mem_singleton.2 rfl)))).1;have m0:w.heap[b]? = some (.cells cs.toArray ty0 (0,0)):=m0;have m1:w.heap[b]? = some (.cells cs1.toArray ty1 (0,0)):=m1;rw[m0]at m1;have hcs:cs=cs1:=by
       have:=Option.some.inj m1
       injection this with h1 _ _
       have:=congrArg Array.toList h1
       simpa using this
      subst hcs;obtain⟨v',hv,hs1,hAt⟩:=(r1.st.perm f3).pubVar (i:=0) rfl rfl;have hs1:St N w0 v0 [] E1.flatten v' a w:=hs1;have r3:=r2.go hv hs1;have hrel:=Rep.mono _ hv (q1 _ g3);have r4:=r3.slot (t:=s) (m:=n) (z:=.vp (Zsa α m) x1 0) ⟨[_],⟨b,0,cs,hAt,hrel,rfl⟩,hy0⟩ trivial hX;obtain⟨i0,hi0⟩:∃ i0,C.P.info? e=some i0:=by
       unfold szA at hq;split at hq
       ·rename_i i0 _ hi0 _;exact⟨i0,hi0⟩
       ·cases hq
      obtain⟨σ,hσ,e1⟩:=r4.st.ev1 (.tmp s);rw[hy0]at e1;obtain⟨k4,k5⟩:=ZHg (by omega) hrel;subst ho;refine ZO r4 hU (Z8z hσ hu hi0 e1) hd hX (x:=.data (.slice α) (Z8a α m x1)) ⟨[.slice (some ⟨b,0,none⟩) m m],?_,rfl⟩ trivial hC;obtain⟨c2,T2,fr2,hvb,htk⟩:=hAt;have hlen:=ZTc k4;rw[k5]at hlen;refine⟨some ⟨b,0,none⟩,m,by rw[show (Z8a α m x1).length=m from k5],by rw[show (Z8a α m x1).length=m from k5];exact Nat.le_refl _,by unfold maxLen;omega,.inr ⟨b,0,c2,T2,fr2,rfl,hvb,?_⟩⟩;rw[show (Z8a α m x1).length=m from k5,← hlen,htk];exact k4
     | own _ _ _ _=>exact hC.elim
     | mat _ _ _ _ _=>exact hC.elim
     | mid _ _ _ _ _ _=>exact hC.elim
    | own _ _ _ _=>exact h.elim
    | mat _ _ _ _ _=>exact h.elim
    | mid _ _ _ _ _ _=>exact h.elim
   ·exact h.elim
  ·exact h.elim
 ·exact h.elim
theorem RelX.dup (h:RelX N G w0 v0 U X f l a w γ v ℓ) {t:Nat} {e:En V} (he:lkE f t=some e):RelX N G w0 v0 U X (e :: f) l a w γ v ℓ:=by
 obtain⟨hm,hk⟩:=Zo he;have key:∀ t',lkE (e :: f) t'=lkE f t':=λt'=>by
  rw[ZL];split
  ·rename_i hk';rw[← hk',hk];exact he.symm
  ·rfl
 exact⟨h.st,λt' e' he'=>h.fr t' e' (by rw[← key];exact he'),h.lr,h.nd,λt' e' he'=>h.uf t' e' (by rw[← key];exact he'),h.ul,h.gh⟩
theorem run_mkI {σ:List (Nat×Value)} (hS:St N w0 v0 σ ℓ v a w) {t:TypeId} {x:Operand} {y:Value} {D:TypeDesc} (e:ev σ x=some y) (h:P.underlying t=some D) (hn:∀ q,some D≠some (.interface q)) :
  (execOp a.eval ⟨d,.makeInterface t x,ty,pos,aft,g⟩).run P w = .ok (.value (.iface t y)) w:=by
 have hx:=hS.eval e;have:(Instr.makeInterface t y).run P w = .ok (.iface t y) w:=by
  cases D with
  | interface q=>exact absurd rfl (hn q)
  | _=>simp[Instr.makeInterface,run_underlying h]
 simp[execOp,hx,this]
theorem ZSy {σ:List (Nat×Value)} (hS:St N w0 v0 σ ℓ v a w) {x y z u s t:Operand} {k:IntKind} {p q r p' q' r':Int} {ats:Array TypeId} (e:ev σ x=some (.int k p)) (e':ev σ y=some (.int k q)) (e2:ev σ z=some (.int k r)) (e3:ev σ u=some (.int k p')) (e4:ev σ s=some (.int k q')) (e5:ev σ t=some (.int k r')) :
  (execOp a.eval ⟨d,.call ⟨.builtin .max,#[x,y,z,u,s,t],ats⟩,ty,pos,aft,g⟩).run P w = .ok (.value (.int k (max (max (max (max (max p q) r) p') q') r'))) w:=by
 simp[execOp,resolve,invoke,builtin,Builtin.max_,hS.eval e,hS.eval e',hS.eval e2,hS.eval e3,hS.eval e4,hS.eval e5,Zro]
theorem Zcp {C:Cf} (hr:RelX N G w0 v0 U X f l a w γ v ℓ) (hU:∀ k,U k→X k) (hX:X n) {t:TypeId} {x i:Operand} {o:Oper} {V1:V} {κ:IntKind} {j:Int} {Post:Unit→Fr→Lo→Prop} (ho:o=⟨d,.index t x i,ty,pos,aft,g⟩) (hd:∀ k,o.dst=some k→k<N) (h1:RV v γ l V1 (a.eval x)) (k1:V1.ok U)
  (e2:a.eval i = .int κ j) (hC':Zk n (ixV C o t V1 j) f l Post):Zpa C.P N G w0 v0 X o a w Post:=by
 subst ho;obtain⟨σ,hσ,ev1,ev2⟩:=hr.st.ev2 x i;rw[e2]at ev2;unfold ixV at hC';split at hC'
 ·rename_i m e ht;split at hC'
  ·rename_i q hq hag b0 b1;have b0:(0:Int)≤j:=by simpa using b0
   have b1:@LT.lt Int _ j (m:Int):=by simpa using b1
   split at hC'
   ·rename_i z hz;obtain⟨cs,hcs,hqe⟩:=Zmb h1 (λc e=>by subst e;cases hag);obtain⟨q1,q2,q3⟩:=Zlq hq hz hcs k1 w;have hv:V1.val cs = .agg cs.toArray:=by unfold V.val;rw[hag]
    rw[hqe,hv]at ev1;refine ZO hr hU (Zer hσ ev1 ev2 ?_) hd hX (Z4b q2 (λc e=>by subst e;exact q2)) (V.ok.mono hU q3) hC';simp[Instr.index,asIntOf,run_underlying ht,b0,b1,(Zte hq).size,q1]
   ·exact hC'.elim
  ·exact hC'.elim
 ·exact hC'.elim
theorem ZVz {C:Cf} (hr:RelX N G w0 v0 U X f l a w γ v ℓ) (hU:∀ k,U k→X k) (hX:X n) {t:TypeId} {x i:Operand} {o:Oper} {V1:V} {κ:IntKind} {j:Int} {Post:Unit→Fr→Lo→Prop} (ho:o=⟨d,.index t x i,ty,pos,aft,g⟩) (hd:∀ k,o.dst=some k→k<N) (h1:RV v γ l V1 (a.eval x)) (k1:V1.ok U)
  (e2:a.eval i = .int κ j):∀ {m k:Nat},Zk n (altsV C o t V1 j m k) f l Post→Zpa C.P N G w0 v0 X o a w Post:=by
 intro m
 induction m with
 | zero=>intro k h;exact h.elim
 | succ m ih =>
  intro k h;by_cases e:j=(k:Int)
  ·have h3:=h.1 (dTq e);rw[← e]at h3;exact Zcp hr hU hX ho hd h1 k1 e2 h3
  ·exact ih (h.2 (dFq e))
theorem ZJA {α:T}:∀ m,(Zsa α m).agg=true
 | 0 | 1 | 2=>rfl
 | _+3=>rfl
theorem ZXz {P:Program} {t:TypeId} {q:Nat×Bool} (ht:szA P t=some q) {α:T} {y:α.den} {off:Nat} {cs:List Value} (hn:q.1=α.n) (ha:q.2=α.agg) (hrel:α.rep.rel v ((cs.drop off).take α.n) y) (hlen:((cs.drop off).take α.n).length=α.n) (hle:off+α.n≤cs.length) (w:World) :
  (part t cs.toArray off).run P w = .ok ((V.data α y).val ((cs.drop off).take α.n)) w:=by
 have hS:=Zte ht;unfold part
 cases hag:q.2 with
 | true =>
  have h1:=hS.agg w;rw[hag]at h1;have h3:(cs.toArray.extract off (off+α.n))=((cs.drop off).take α.n).toArray:=by
   apply Array.ext';rw[Array.toList_extract];simp[List.extract,List.take_drop]
  have h4:(V.data α y).isAgg=true:=by show α.agg=true;rw[← ha,hag]
  simp[h1,hS.size,hn,V.val,h4,h3]
 | false =>
  have h1:=hS.agg w;rw[hag]at h1;have h4:(V.data α y).isAgg=false:=by show α.agg=false;rw[← ha,hag]
  have h2:α.n=1:=T_one (by rw[← ha,hag]);have h5:cs[off]? = some ((V.data α y).val ((cs.drop off).take α.n)):=by
   unfold V.val;rw[h4,h2];have:off<cs.length:=by omega
   rw[List.getElem?_eq_getElem this,List.drop_eq_getElem_cons this];rfl
  have h5':cs.toArray[off]? = some ((V.data α y).val ((cs.drop off).take α.n)):=by simpa using h5
  simp[h1,h5']
theorem ixQ_ok {C:Cf} (hr:RelX N G w0 v0 U X f l a w γ v ℓ) (hU:∀ k,U k→X k) (hX:X n) {t:TypeId} {x i:Operand} {o:Oper} {V1:V} {κ:IntKind} {j:Int} {Post:Unit→Fr→Lo→Prop} (ho:o=⟨d,.indexAddr t x i,ty,pos,aft,g⟩) (hd:∀ k,o.dst=some k→k<N) (hp:RV v γ l V1 (a.eval x))
  (hi:a.eval i = .int κ j) (h:Zk n (ixQ C o t V1 j) f l Post):Zpa C.P N G w0 v0 X o a w Post:=by
 unfold ixQ at h;split at h
 ·rename_i m e hu;split at h
  ·rename_i α q hα hq hm0;have hm0:0<m:=lB hm0;split at h
   ·rename_i u hqn;have hqn:=eQ hqn;obtain⟨⟨kk,st,L⟩,he,h⟩:=h;obtain⟨yy,hy0,_,hyy⟩:=Zga hp (λ_ e=>by cases e) rfl rfl;have hy0:a.eval x=yy:=(List.cons.inj hy0).1;have hyy:=hyy _ he;have hkk:kk=u:=(Zo he).2;subst hkk
    cases L with
    | box ty0 c =>
     obtain⟨b,g1,rfl⟩:=hyy
     cases c with
     | data s0 x0 =>
      simp only at h;split at h
      ·rename_i x1 hty hx1;obtain⟨c3,c4⟩:=Z2 hx1;subst c3;subst c4;obtain⟨y,hy,h⟩:=h;have hy:idx (Z8a α m x0) j=some y:=hy;obtain⟨r1,r2,r3,r4⟩:=Zm hy;obtain⟨_,es,hes,hmem⟩:=hr.loc he;obtain⟨b',cs,q1,q2,q3,rfl⟩:=hes;obtain⟨k1,k2⟩:=ZHg hm0 (show (Zsa α m).rep.rel v cs x0 from q2);have hrel:=ZJa k1 r2;rw[k2]at r3;obtain⟨inf,hinf,hsz⟩:∃ i0,C.P.info? e=some i0∧q.1=i0.size:=by
        unfold szA at hq;split at hq
        ·rename_i i0 _ hi0 _;cases hq;exact⟨i0,hi0,rfl⟩
        ·cases hq
       have hA:Zbh C.P t m inf.size:=⟨e,λw=>run_underlying hu w,λw=>Z7i hinf w⟩;obtain⟨σ,hσ,e1,e2⟩:=hr.st.ev2 x i;rw[hy0]at e1;rw[hi]at e2;subst ho;refine ZO hr hU (Zqt hσ hA e1 e2 r1 r3 (0+j.toNat*α.n+0) (by rw[← hsz,hqn];omega)) hd hX (x:=.el kk j.toNat st α y 0) ⟨[_],⟨_,rfl,ZKd,⟨_,hrel⟩,λe' he'=>?_⟩,rfl⟩ ⟨(hr.ul _ (Zo he).1).1,(hr.ul _ (Zo he).1).2.1⟩ h;rw[he]at he';cases he';exact⟨b,g1,rfl⟩
      ·exact h.elim
     | _=>exact h.elim
    | own _ _ _ _=>exact h.elim
    | mat _ _ _ _ _=>exact h.elim
    | mid _ _ _ _ _ _=>exact h.elim
   ·exact h.elim
  ·exact h.elim
 ·exact h.elim
theorem ixW_ok {C:Cf} (hr:RelX N G w0 v0 U X f l a w γ v ℓ) (hU:∀ k,U k→X k) (hX:X n) {t:TypeId} {x i:Operand} {o:Oper} {V1:V} {κ:IntKind} {j:Int} {Post:Unit→Fr→Lo→Prop} (ho:o=⟨d,.index t x i,ty,pos,aft,g⟩) (hd:∀ k,o.dst=some k→k<N) (h1:RV v γ l V1 (a.eval x))
  (e2:a.eval i = .int κ j) (h:Zk n (ixW C o t V1 j) f l Post):Zpa C.P N G w0 v0 X o a w Post:=by
 subst ho;obtain⟨σ,hσ,ev1,ev2⟩:=hr.st.ev2 x i;rw[e2]at ev2;unfold ixW at h;split at h
 ·rename_i m e ht;split at h
  ·rename_i α q s0 x0 hα hq hm0;have hm0:0<m:=lB hm0;split at h
   ·rename_i x1 hqn hag hx1;have hqn:=eQ hqn;have hag:=ZVj hag;obtain⟨c3,c4⟩:=Z2 hx1;subst c3;subst c4;obtain⟨y,hy,h⟩:=h;have hy:idx (Z8a α m x0) j=some y:=hy;obtain⟨r1,r2,r3,r4⟩:=Zm hy;obtain⟨cs,hcs,hqe⟩:=Zmb h1 (λc e=>by cases e);have hcs:(Zsa α m).rep.rel v cs x0:=hcs;obtain⟨k1,k2⟩:=ZHg hm0 hcs;have hrel:=ZJa k1 r2;rw[ZK]at hrel;rw[k2]at r3;have hagg:(V.data (Zsa α m) x0).isAgg=true:=ZJA m;have hv:(V.data (Zsa α m) x0).val cs = .agg cs.toArray:=by unfold V.val;rw[hagg]
    rw[hqe,hv]at ev1;have hcl:=ZTc k1;rw[ZK,k2]at hcl;have hlen:=Rep.len _ hrel;rw[ZK]at hlen;refine ZO hr hU (Zer hσ ev1 ev2 (z:=(V.data α y).val ((cs.drop (j.toNat*α.n)).take α.n)) ?_) hd hX (x:=.data α y) ⟨_,hrel,rfl⟩ trivial h;have b0:(0:Int)≤j:=r1;have b1:@LT.lt Int _ j (m:Int):=r3;have hp:=ZXz hq hqn hag hrel hlen (cs:=cs) (off:=j.toNat*α.n) (by
     have:j.toNat<m:=by omega
     rw[hcl,← Nat.succ_mul];exact mR _ this) w
    simp[Instr.index,asIntOf,run_underlying ht,b0,b1,(Zte hq).size,hqn,hp]
   ·exact h.elim
  ·exact h.elim
 ·exact h.elim
theorem Zbo {C:Cf} (hC:CfOK C) (hr:RelX N G w0 v0 U X f l a w γ v ℓ) (hU:∀ k,U k→X k) (hX:X n) (hn:¬ U n) {o:Oper} {Post:Unit→Fr→Lo→Prop} (hd:∀ k,o.dst=some k→k<N) (h:Zk n (Z3 C n o) f l Post):Zpa C.P N G w0 v0 X o a w Post:=by
 obtain⟨d,op,ty,pos,aft,g⟩:=o
 cases op with
 | move x =>
  simp only[Z3]at h;obtain⟨V1,h1,k1,hA⟩:=ZM hr h;obtain⟨σ,hσ,e1⟩:=hr.st.ev1 x;exact ZO hr hU (Z1 hσ e1) hd hX h1 (V.ok.mono hU k1) hA
 | assign x =>
  simp only[Z3]at h;split at h
  ·rename_i hx;have hx:x = .const (.pointer none):=by
    unfold ZXp at hx;split at hx
    ·rfl
    ·cases hx
   subst hx;obtain⟨h0,hA⟩:=h;have e0:Go.Eng.era (⟨n,n,LV.box 0 .undef⟩ :: l) n=l:=by
    simp only[era];rw[show Nat.beq n n=true from Nat.beq_refl n]
   have hA:Zk n (ret ⟨d,.assign (.const (.pointer none)),ty,pos,aft,g⟩ (.ptr n 0)) f (Go.Eng.era (⟨n,n,LV.box 0 .undef⟩ :: l) n) Post:=hA;rw[e0]at hA;obtain⟨σ,hσ,e1⟩:=hr.st.ev1 (.const (.pointer none));exact ZO hr hU (ZYe hσ e1) hd hX (x:=.ptr n 0) ⟨[.pointer none],⟨_,rfl,rfl,λe he=>by rw[h0]at he;cases he⟩,rfl⟩ hX hA
  ·obtain⟨V1,h1,k1,hA⟩:=ZM hr h;obtain⟨σ,hσ,e1⟩:=hr.st.ev1 x;exact ZO hr hU (ZYe hσ e1) hd hX h1 (V.ok.mono hU k1) hA
 | nilCheck x =>
  simp only[Z3]at h;obtain⟨V1,h1,k1,hA⟩:=ZM hr h;split at hA
  ·rename_i α y;obtain⟨cs,hcs,e0⟩:=h1;obtain⟨b,o',c,rfl,hat,hrel⟩:=(show (rPtr α.rep).rel v cs y from hcs);obtain⟨σ,hσ,e1⟩:=hr.st.ev1 x;rw[e0]at e1;have e1:ev σ x=some (.pointer (some ⟨b,o',none⟩)):=e1;have hrun:(execOp a.eval ⟨d,.nilCheck x,ty,pos,aft,g⟩).run C.P w = .ok (.value (.pointer (some ⟨b,o',none⟩))) w:=by simp[execOp,hσ.eval e1]
   exact ZO hr hU hrun hd hX (x:=.vp α y 0) ⟨[_],⟨b,o',c,hat,hrel,rfl⟩,rfl⟩ trivial hA
  obtain⟨hB,b,o',e',_⟩:=Znn h1 k1 hA;obtain⟨σ,hσ,e1⟩:=hr.st.ev1 x;rw[e']at e1 h1;have hrun:(execOp a.eval ⟨d,.nilCheck x,ty,pos,aft,g⟩).run C.P w = .ok (.value (.pointer (some ⟨b,o',none⟩))) w:=by simp[execOp,hσ.eval e1]
  exact ZO hr hU hrun hd hX h1 (V.ok.mono hU k1) hB
 | extract x i =>
  simp only[Z3]at h;obtain⟨V1,h1,k1,hA⟩:=ZM hr h;split at hA
  ·rename_i c;split at hA
   ·rename_i z hz;obtain⟨vals,h2,h3⟩:=h1;obtain⟨y,q1,q2,q3⟩:=ZMr hz h2 k1;obtain⟨σ,hσ,e1⟩:=hr.st.ev1 x;rw[h3]at e1;exact ZO hr hU (ZOa hσ e1 (by simpa using q1)) hd hX q2 (V.ok.mono hU q3) hA
   ·exact hA.elim
  ·exact hA.elim
 | alloc t =>
  simp only[Z3]at h;split at h
  ·rename_i z hz;obtain⟨y,cs,hy,hcells,hzz,hkz,hp⟩:=ZWn (v:=v) (γ:=γ) (l:=l) (U:=U) hz;refine Zhs hr hU hX hn hd hzz hkz hp ?_ h;have:=ZEn (a:=a) (w:=w) (d:=d) (ty:=ty) (pos:=pos) (aft:=aft) (g:=g) hy;rw[hcells]at this;exact this
  ·exact h.elim
 | box t x =>
  simp only[Z3]at h;obtain⟨V1,h1,k1,hA⟩:=ZM hr h;split at hA
  ·rename_i hfit;obtain⟨cs,hcs,hqe⟩:=Zmb h1 (Zwm hfit);obtain⟨hcells,hpl⟩:=ZFj hcs hfit;obtain⟨σ,hσ,e1⟩:=hr.st.ev1 x;rw[hqe]at e1;refine Zhs hr hU hX hn hd hcs k1 hpl ?_ hA;have:=ZUq (t:=t) (d:=d) (ty:=ty) (pos:=pos) (aft:=aft) (g:=g) (P:=C.P) hσ e1;rw[show (V1.val cs).cells=cs.toArray from hcells]at this;exact this
  ·exact hA.elim
 | load t x =>
  simp only[Z3]at h;obtain⟨V1,h1,k1,hA⟩:=ZM hr h;split at hA
  ·exact ZJz hr hU hX hn rfl hd h1 hA
  obtain⟨z,y,q1,q2,q3,hB⟩:=ldE_ok (d:=d) (ty:=ty) (pos:=pos) (aft:=aft) (g:=g) hr h1 k1 hA;exact ZO hr hU q1 hd hX q2 (V.ok.mono hU q3) hB
 | store t x y =>
  simp only[Z3]at h
  cases d with
  | some d=>exact h.elim
  | none =>
   obtain⟨V1,h1,k1,hA⟩:=ZM hr h;obtain⟨V2,h2,k2,hB⟩:=ZM hr hA;exact stE_ok hr hU hX hn rfl h1 h2 k1 k2 hB
 | fieldAddr s x i =>
  simp only[Z3]at h;obtain⟨V1,h1,k1,hA⟩:=ZM hr h;obtain⟨z,y,q1,q2,q3,hB⟩:=fldE_ok (d:=d) (ty:=ty) (pos:=pos) (aft:=aft) (g:=g) hr h1 k1 hA;exact ZO hr hU q1 hd hX q2 (V.ok.mono hU q3) hB
 | field s x i =>
  simp only[Z3]at h;obtain⟨V1,h1,k1,hA⟩:=ZM hr h;split at hA
  ·rename_i fd hfd hag;split at hA
   ·rename_i q hq;split at hA
    ·rename_i z hz;obtain⟨cs,hcs,hqe⟩:=Zmb h1 (λc e=>by subst e;cases hag);obtain⟨q1,q2,q3⟩:=Zlq hq hz hcs k1 w;obtain⟨σ,hσ,e1⟩:=hr.st.ev1 x;have hv:V1.val cs = .agg cs.toArray:=by unfold V.val;rw[hag]
     rw[hqe,hv]at e1;refine ZO hr hU (Zcz hσ e1 ?_) hd hX (Z4b q2 (λc e=>by subst e;exact q2)) (V.ok.mono hU q3) hA;unfold fldT at hfd;split at hfd
     ·rename_i fs hfs;have hfd':fs[i]? = some fd:=by rw[← Array.getElem?_toList];exact hfd
      simp[Instr.field,run_underlying hfs,hfd',asAgg,q1]
     ·cases hfd
    ·exact hA.elim
   ·exact hA.elim
  ·exact hA.elim
 | indexAddr t x i =>
  simp only[Z3]at h;obtain⟨V1,h1,k1,hA⟩:=ZM hr h;obtain⟨V2,h2,k2,hB⟩:=ZM hr hA;obtain⟨κ,j,rfl,hC'⟩:=Znb hB;split at hC'
  ·unfold altE at hC';split at hC'
   ·exact alts_ok hr hU hX rfl hd h1 k1 (ZLa h2).1 hC'
   ·exact hC'.elim
  ·exact ixQ_ok hr hU hX rfl hd h1 (ZLa h2).1 hC'
  ·exact ixE_ok hr hU hX rfl hd h1 k1 (ZLa h2).1 hC'
 | index t x i =>
  simp only[Z3]at h;obtain⟨V1,h1,k1,hA⟩:=ZM hr h;obtain⟨V2,h2,k2,hB⟩:=ZM hr hA;obtain⟨κ,j,rfl,hC'⟩:=Znb hB;obtain⟨e2,_⟩:=ZLa h2;obtain⟨σ,hσ,ev1,ev2⟩:=hr.st.ev2 x i;rw[e2]at ev2;split at hC'
  ·obtain⟨e1,_⟩:=Z1g h1;rw[e1]at ev1;split at hC'
   ·rename_i ht;obtain⟨y,hy,hC'⟩:=hC';exact ZO hr hU (Zpv hσ ev1 ev2 ht hy) hd hX (ZPa (u8_inR y)) trivial hC'
   ·exact hC'.elim
  ·split at hC'
   ·unfold altvE at hC';split at hC'
    ·exact ZVz hr hU hX rfl hd h1 k1 e2 hC'
    ·exact hC'.elim
   ·exact ixW_ok hr hU hX rfl hd h1 e2 hC'
   ·exact Zcp hr hU hX rfl hd h1 k1 e2 hC'
 | binOp op t x y t' =>
  simp only[Z3]at h;obtain⟨V1,h1,k1,hA⟩:=ZM hr h;obtain⟨V2,h2,k2,hB⟩:=ZM hr hA;obtain⟨z,q,q1,q2,q3,hC'⟩:=binE_ok (d:=d) (ty:=ty) (pos:=pos) (aft:=aft) (g:=g) (t':=t') hr h1 h2 hB;exact ZO hr hU q1 hd hX q2 (V.ok.mono hU q3) hC'
 | unOp u t x =>
  cases u with
  | not =>
   simp only[Z3]at h;obtain⟨V1,h1,k1,hA⟩:=ZM hr h;obtain⟨b,rfl,hB⟩:=ZUy hA;obtain⟨σ,hσ,e1⟩:=hr.st.ev1 x;rw[Z4f h1]at e1;exact ZO hr hU (Z6r hσ e1) hd hX ZZc trivial hB
  | neg =>
   simp only[Z3]at h;obtain⟨V1,h1,k1,hA⟩:=ZM hr h;obtain⟨κ,i,rfl,hB⟩:=Znb hA;obtain⟨σ,hσ,e1⟩:=hr.st.ev1 x;rw[(ZLa h1).1]at e1;exact ZO hr hU (run_neg hσ e1) hd hX (ZPa (Zlc _ _)) trivial hB
  | _=>exact h.elim
 | convert s t x =>
  simp only[Z3]at h;obtain⟨V1,h1,k1,hA⟩:=ZM hr h;obtain⟨σ,hσ,e1⟩:=hr.st.ev1 x;split at hA
  ·rename_i κ i ds κ' hs ht;obtain⟨q1,q2⟩:=ZLa h1;rw[q1]at e1;have hcv:∀ w,(convert s t (.int κ i)).run C.P w = .ok (.int κ' (κ'.wrap i)) w:=λw=>by
    simp[convert,run_underlying hs,run_underlying ht,Conv.intToInt]
   split at hA
   ·rename_i hk;have hk:=ZCc hk;subst hk;refine ZO hr hU (Zeg hσ e1 hcv) hd hX (x:=.data (.int κ) i) ?_ trivial hA;rw[Zhe q2];exact ZPa q2
   ·exact ZO hr hU (Zeg hσ e1 hcv) hd hX (ZPa (Zlc _ _)) trivial hA
  ·rename_i hs ht;obtain⟨q1,q2⟩:=Z1g h1;rw[q1]at e1;exact ZO hr hU (Zeg hσ e1 (λw=>by simp[convert,run_underlying hs,run_underlying ht])) hd hX (ZUl q2) trivial hA
  ·exact hA.elim
 | makeInterface t x =>
  simp only[Z3]at h;obtain⟨V1,h1,k1,hA⟩:=ZM hr h;split at hA
  ·rename_i hfit;split at hA
   ·exact hA.elim
   ·rename_i D hni hD;obtain⟨cs,hcs,hqe⟩:=Zmb h1 (Zwm hfit);obtain⟨σ,hσ,e1⟩:=hr.st.ev1 x;rw[hqe]at e1;refine ZO hr hU (run_mkI hσ e1 hD λq e=>hni q (Option.some.inj e)) hd hX (x:=.ifc t V1) ⟨[_],⟨cs,hcs,rfl⟩,rfl⟩ (V.ok.mono hU k1) hA
   ·exact hA.elim
  ·exact hA.elim
 | makeFunc fn first cap =>
  cases fn with
  | func fi =>
   simp only[Z3]at h;split at h
   ·rename_i hfirst;obtain⟨c,h1,k1,hA⟩:=ZWf hr h;obtain⟨σ,hσ,hev⟩:=hr.st.evs cap.toList;have hargs:cap.toList.map (ev σ)=(cap.toList.map a.eval).map some:=by
     rw[List.map_map];exact List.map_congr_left λy hy=>hev y hy
    have hf:first = #[]:=by
     apply Array.ext';simpa using hfirst
    subst hf;exact ZO hr hU (ZXy hσ _ hargs) hd hX (x:=.fn fi c) ⟨[_],⟨_,h1,rfl⟩,rfl⟩ (V.ok.mono hU k1) hA
   ·exact h.elim
  | _=>exact h.elim
 | makeSlice t x y=>exact ZMv hr hU hX hn rfl hd h
 | buildSlice t m ps=>exact ZFv hr hU hX hn rfl hd h
 | build t ps=>exact Zdy hr hU hX rfl hd h
 | slice t x lo hi mx =>
  cases mx with
  | some _=>exact h.elim
  | none =>
   simp only[Z3]at h;obtain⟨i,hA,hlo⟩:=ZHs hr h;obtain⟨j,hB,hhi⟩:=ZHs hr hA;obtain⟨V1,h1,k1,hC'⟩:=ZM hr hB;split at hC'
   ·rename_i u;obtain⟨en,he,hC'⟩:=hC';obtain⟨kk,st,L⟩:=en
    cases L with
    | own ty0 s xs fz =>
     obtain⟨ys,l1,γ1,v1,ℓ1,hD,r1,le1,q1⟩:=Zdd hn hX FU hC' hr k1;obtain⟨cs,hcs,hqe⟩:=Zmb h1 (λc e=>by cases e);have hrel:=q1 _ hcs;exact Z9j (p:=.data (.slice s) ys) r1 hU hX rfl hd ⟨cs,hrel,hqe⟩ hlo hhi hD
    | box _ _=>exact hC'.elim
    | mid _ _ _ _ _ _=>exact hC'.elim
    | mat _ _ _ _ _=>exact hC'.elim
   ·obtain⟨cs,hcs,hqe⟩:=ZYg h1;exact Z9j (p:=.data (.slice (.int .u64)) (Zc 18446744073709551616 _)) hr hU hX rfl hd ⟨cs,hcs,hqe⟩ hlo hhi hC'
   ·obtain⟨cs,hcs,hqe⟩:=ZYg h1;exact Z9j (p:=.data (.slice (.int .u32)) (Zc 4294967296 _)) hr hU hX rfl hd ⟨cs,hcs,hqe⟩ hlo hhi hC'
   ·split at hC'
    ·exact arrE_ok hr hU hX hn rfl hd h1 k1 hlo hhi hC'
    ·exact hC'.elim
   ·exact Z9j hr hU hX rfl hd h1 hlo hhi hC'
 | pick c x y =>
  cases c with
  | tmp c =>
   simp only[Z3]at h;obtain⟨s,b,hf,h1,h2⟩:=h;have hr':=RelX.dup hr hf;have hc:=Z4f (hr.fr c _ hf);obtain⟨σ,hσ,hev⟩:=hr.st.evs [.tmp c,x,y];have e0:=hev (.tmp c) (by simp);have e0:ev σ (.tmp c)=some (.bool b):=e0.trans (congrArg some hc);have ex:=hev x (by simp);have ey:=hev y (by simp)
   cases b with
   | true =>
    obtain⟨V1,q1,k1,hA⟩:=ZM hr' (h1 rfl);exact ZO hr' hU (Ztf hσ e0 (by rw[iP rfl];exact ex)) hd hX q1 (V.ok.mono hU k1) hA
   | false =>
    obtain⟨V1,q1,k1,hA⟩:=ZM hr' (h2 rfl);exact ZO hr' hU (Ztf hσ e0 (by rw[iN (by decide)];exact ey)) hd hX q1 (V.ok.mono hU k1) hA
  | _=>exact h.elim
 | call c =>
  obtain⟨callee,args,ats⟩:=c
  cases callee with
  | value x =>
   simp only[Z3]at h;obtain⟨V1,h1,k1,hA⟩:=ZM hr h;obtain⟨c,h2,k2,hB⟩:=ZWf hr hA;split at hB
   ·rename_i fi;obtain⟨cs,⟨vs,q1,rfl⟩,q3⟩:=h1;have q1:vs=[]:=q1;subst q1;have q3:a.eval x = .func (.func fi) #[] #[]:=q3;obtain⟨σ,hσ,hev⟩:=hr.st.evs (x :: args.toList);have hfx:=hev x (by simp);rw[q3]at hfx;have hargs:args.toList.map (ev σ)=(args.toList.map a.eval).map some:=by
     rw[List.map_map];exact List.map_congr_left λy hy=>hev y (by simp[hy])
    exact ZJp hC hr hU hX hn hd (λhen=>ZHa hσ _ hen hfx hargs) (λy hv=>Z0k hσ _ hv hfx hargs) h2 k2 hB
   ·exact hB.elim
  | invoke r m =>
   simp only[Z3]at h;obtain⟨V1,h1,k1,hA⟩:=ZM hr h;obtain⟨c,h2,k2,hB⟩:=ZWf hr hA;split at hB
   ·rename_i t x;split at hB
    ·rename_i fi hfi;obtain⟨cs,⟨cc,q1,rfl⟩,q3⟩:=h1;have q3:a.eval r = .iface t (x.val cc):=q3;obtain⟨σ,hσ,hev⟩:=hr.st.evs (r :: args.toList);have hfx:=hev r (by simp);rw[q3]at hfx;have hargs:args.toList.map (ev σ)=(args.toList.map a.eval).map some:=by
      rw[List.map_map];exact List.map_congr_left λy hy=>hev y (by simp[hy])
     exact ZJp hC hr hU hX hn (c:=.cons x c) (vals:=x.val cc :: args.toList.map a.eval) hd (λhen=>Ziq hσ _ (λw=>hC.m t m fi hfi _ w) hfx hargs (hen _ w)) (λy hv=>Ziq hσ _ (λw=>hC.m t m fi hfi _ w) hfx hargs (by
      have:=hv w;exact this)) ⟨cc,_,rfl,q1,h2⟩ ⟨k1,k2⟩ hB
    ·exact hB.elim
   ·exact hB.elim
  | builtin b =>
   cases b with
   | len =>
    simp only[Z3]at h;split at h
    ·rename_i x t hx ht;have hx:args = #[x]:=by apply Array.ext';exact hx
     have ht:ats = #[t]:=by apply Array.ext';exact ht
     subst hx ht;obtain⟨V1,h1,k1,hA⟩:=ZM hr h;obtain⟨m,q1,q2,hB⟩:=lenE_ok (d:=d) (ty:=ty) (pos:=pos) (aft:=aft) (g:=g) hr h1 hA;exact ZO hr hU q1 hd hX (ZPa q2) trivial hB
    ·exact h.elim
   | append =>
    simp only[Z3]at h;split at h
    ·rename_i x y t t' hx ht;split at h
     ·rename_i hb;have hb:=eQ hb;subst hb;have hx:args = #[x,y]:=by apply Array.ext';exact hx
      have ht:ats = #[t,t]:=by apply Array.ext';exact ht
      subst hx ht;obtain⟨V1,h1,k1,hA⟩:=ZM hr h;obtain⟨V2,h2,k2,hB⟩:=ZM hr hA;exact appE_ok hr hU hX hn rfl hd h1 h2 k1 k2 hB
     ·exact h.elim
    ·exact h.elim
   | max =>
    simp only[Z3]at h;split at h
    ·rename_i x y hx;have hx:args = #[x,y]:=by apply Array.ext';exact hx
     subst hx;obtain⟨V1,h1,k1,hA⟩:=ZM hr h;obtain⟨V2,h2,k2,hB⟩:=ZM hr hA;obtain⟨κ,i,rfl,hC'⟩:=Znb hB;obtain⟨κ',j,rfl,hD⟩:=Znb hC';split at hD
     ·rename_i hk;have hk:=ZCc hk;subst hk;obtain⟨e1,r1⟩:=ZLa h1;obtain⟨e2,r2⟩:=ZLa h2;obtain⟨σ,hσ,ev1,ev2⟩:=hr.st.ev2 x y;rw[e1]at ev1;rw[e2]at ev2;exact ZO hr hU (run_max hσ ev1 ev2) hd hX (ZPa (Znf r1 r2)) trivial hD
     ·exact hD.elim
    ·rename_i x y z hx;have hx:args = #[x,y,z]:=by apply Array.ext';exact hx
     subst hx;obtain⟨V1,h1,k1,hA⟩:=ZM hr h;obtain⟨V2,h2,k2,hB⟩:=ZM hr hA;obtain⟨V3,h3,k3,hB'⟩:=ZM hr hB;obtain⟨κ,i,rfl,hC'⟩:=Znb hB';obtain⟨κ',j,rfl,hD⟩:=Znb hC';obtain⟨κ'',q,rfl,hE⟩:=Znb hD;split at hE
     ·rename_i hk hk2;have hk:=ZCc hk;subst hk;have hk2:=ZCc hk2;subst hk2;obtain⟨e1,r1⟩:=ZLa h1;obtain⟨e2,r2⟩:=ZLa h2;obtain⟨e3,r3⟩:=ZLa h3;obtain⟨σ,hσ,ev1,ev2,ev3⟩:=hr.st.ev3 x y z;rw[e1]at ev1;rw[e2]at ev2;rw[e3]at ev3;exact ZO hr hU (Zmw hσ ev1 ev2 ev3) hd hX (ZPa (Znf (Znf r1 r2) r3)) trivial hE
     ·exact hE.elim
    ·rename_i x1 x2 x3 x4 x5 x6 hx;have hx:args = #[x1,x2,x3,x4,x5,x6]:=by apply Array.ext';exact hx
     subst hx;obtain⟨V1,h1,k1,hA⟩:=ZM hr h;obtain⟨V2,h2,k2,hA⟩:=ZM hr hA;obtain⟨V3,h3,k3,hA⟩:=ZM hr hA;obtain⟨V4,h4,k4,hA⟩:=ZM hr hA;obtain⟨V5,h5,k5,hA⟩:=ZM hr hA;obtain⟨V6,h6,k6,hA⟩:=ZM hr hA;obtain⟨κ,i1,rfl,hB1⟩:=Znb hA;obtain⟨κ2,i2,rfl,hB2⟩:=Znb hB1;obtain⟨κ3,i3,rfl,hB3⟩:=Znb hB2;obtain⟨κ4,i4,rfl,hB4⟩:=Znb hB3;obtain⟨κ5,i5,rfl,hB5⟩:=Znb hB4;obtain⟨κ6,i6,rfl,hB6⟩:=Znb hB5;split at hB6
     ·have g2:=ZCc (show kEq κ κ2=true by assumption)
      cases g2
      have g3:=ZCc (show kEq κ κ3=true by assumption)
      cases g3
      have g4:=ZCc (show kEq κ κ4=true by assumption)
      cases g4
      have g5:=ZCc (show kEq κ κ5=true by assumption)
      cases g5
      have g6:=ZCc (show kEq κ κ6=true by assumption)
      cases g6
      obtain⟨e1,r1⟩:=ZLa h1;obtain⟨e2,r2⟩:=ZLa h2;obtain⟨e3,r3⟩:=ZLa h3;obtain⟨e4,r4⟩:=ZLa h4;obtain⟨e5,r5⟩:=ZLa h5;obtain⟨e6,r6⟩:=ZLa h6;obtain⟨σ,hσ,ev1,ev2,ev3,ev4,ev5,ev6⟩:=hr.st.ev6 x1 x2 x3 x4 x5 x6;rw[e1]at ev1;rw[e2]at ev2;rw[e3]at ev3;rw[e4]at ev4;rw[e5]at ev5;rw[e6]at ev6;exact ZO hr hU (ZSy hσ ev1 ev2 ev3 ev4 ev5 ev6) hd hX (ZPa (Znf (Znf (Znf (Znf (Znf r1 r2) r3) r4) r5) r6)) trivial hB6
     ·exact hB6.elim
    ·exact h.elim
   | min =>
    simp only[Z3]at h;split at h
    ·rename_i x y hx;have hx:args = #[x,y]:=by apply Array.ext';exact hx
     subst hx;obtain⟨V1,h1,k1,hA⟩:=ZM hr h;obtain⟨V2,h2,k2,hB⟩:=ZM hr hA;obtain⟨κ,i,rfl,hC'⟩:=Znb hB;obtain⟨κ',j,rfl,hD⟩:=Znb hC';split at hD
     ·rename_i hk;have hk:=ZCc hk;subst hk;obtain⟨e1,r1⟩:=ZLa h1;obtain⟨e2,r2⟩:=ZLa h2;obtain⟨σ,hσ,ev1,ev2⟩:=hr.st.ev2 x y;rw[e1]at ev1;rw[e2]at ev2;exact ZO hr hU (run_min hσ ev1 ev2) hd hX (ZPa (min_inR r1 r2)) trivial hD
     ·exact hD.elim
    ·exact h.elim
   | _=>exact h.elim
 | _=>exact h.elim
end
end Go.Eng
namespace Go.Eng
open Go.RowKit
def Old (m:Nat) (f:Fr) (l:Lo) (f':Fr) (l':Lo):Prop:=(∀ t e,lkE f' t=some e→e.st<m→lkE f t=some e)∧∀ u e,lkE l' u=some e→e.st<m→lkE l u=some e
theorem Old.refl {m:Nat} {f:Fr} {l:Lo}:Old m f l f l:=⟨λ_ _ h _=>h,λ_ _ h _=>h⟩
theorem Old.trans {m m':Nat} {f f' f'':Fr} {l l' l'':Lo} (h:Old m f l f' l') (k:Old m' f' l' f'' l'') (hm:m≤m'):Old m f l f'' l'' :=
 ⟨λt e he hs=>h.1 t e (k.1 t e he (by omega)) hs,λt e he hs=>h.2 t e (k.2 t e he (by omega)) hs⟩
theorem Old.mono {m m':Nat} {f f':Fr} {l l':Lo} (h:Old m' f l f' l') (hm:m≤m'):Old m f l f' l':=⟨λt e he hs=>h.1 t e he (by omega),λt e he hs=>h.2 t e he (by omega)⟩
theorem Old.put {m n:Nat} {f:Fr} {l:Lo} {d:Nat} {x:V} (h:m≤n):Old m f l (⟨d,n,x⟩ :: f) l:=by
 refine⟨λt e he hs=>?_,λ_ _ h _=>h⟩;rw[ZL]at he;split at he
 ·cases he;exact absurd hs (by show ¬ n<m;omega)
 ·exact he
theorem Old.dup {m:Nat} {f:Fr} {l:Lo} {t:Nat} {e:En V} (h:lkE f t=some e):Old m f l (e :: f) l:=by
 obtain⟨_,hk⟩:=Zo h;refine⟨λt' e' he _=>?_,λ_ _ h _=>h⟩;rw[ZL]at he;split at he
 ·rename_i hk';cases he;rw[← hk',hk];exact h
 ·exact he
theorem Zgh {ρ:Type} {n m:Nat} (hm:m≤n) {f0:Fr} {l0:Lo}:∀ {e:Ev ρ} {f:Fr} {l:Lo} {K:ρ→Fr→Lo→Prop},Old m f0 l0 f l→(l.map En.k).Nodup→Zk n e f l K→Zk n e f l λx f' l'=>K x f' l'∧Old m f0 l0 f' l':=by
 intro e;have wr:∀ {f:Fr} {l:Lo} {u:Nat} {L:LV},Old m f0 l0 f l→(l.map En.k).Nodup→Old m f0 l0 f (⟨u,n,L⟩ :: era l u)∧((⟨u,n,L⟩ :: era l u:Lo).map En.k).Nodup:=by
  intro f l u L ho hn;obtain⟨n1,n2⟩:=ZTb (t:=u) hn;refine⟨⟨ho.1,λk e he hs=>?_⟩,List.nodup_cons.2 ⟨n2,n1⟩⟩;rw[ZL]at he;split at he
  ·cases he;exact absurd hs (by show ¬ n<m;omega)
  ·rw[Z5b hn]at he;split at he
   ·cases he
   ·exact ho.2 k e he hs
 induction e with
 | fail=>intro f l K ho hn h;exact h
 | done x=>intro f l K ho hn h;exact⟨h,ho⟩
 | rdS t q ih=>intro f l K ho hn h;obtain⟨x,hx,h⟩:=h;exact⟨x,hx,ih _ ho hn h⟩
 | rdL u q ih=>intro f l K ho hn h;obtain⟨x,hx,h⟩:=h;exact⟨x,hx,ih _ _ ho hn h⟩
 | wrS t x e ih=>intro f l K ho hn h;exact ih (ho.trans (Old.put hm) (Nat.le_refl m)) hn h
 | wrL u L e ih=>intro f l K ho hn h;exact ih (wr ho hn).1 (wr ho hn).2 h
 | new u L e ih =>
  intro f l K ho hn h;refine⟨h.1,ih ⟨ho.1,λk e he hs=>?_⟩ (List.nodup_cons.2 ⟨ZMg h.1,hn⟩) h.2⟩;rw[ZL]at he;split at he
  ·cases he;exact absurd hs (by show ¬ n<m;omega)
  ·exact ho.2 k e he hs
 | del u e ih =>
  intro f l K ho hn h;refine ih ⟨ho.1,λk e he hs=>?_⟩ (ZTb hn).1 h;rw[Z5b hn]at he;split at he
  ·cases he
  ·exact ho.2 k e he hs
 | bind x q ih=>intro f l K ho hn h;obtain⟨x,hx,h⟩:=h;exact⟨x,hx,ih _ ho hn h⟩
 | test t e1 e2 i1 i2 =>
  intro f l K ho hn h;obtain⟨s,b,h1,h2,h3⟩:=h;have hd:=ho.trans (Old.dup (m:=m) (l:=l) h1) (Nat.le_refl m);exact⟨s,b,h1,λe=>i1 hd hn (h2 e),λe=>i2 hd hn (h3 e)⟩
 | alt b e1 e2 i1 i2=>intro f l K ho hn h;exact⟨λe=>i1 ho hn (h.1 e),λe=>i2 ho hn (h.2 e)⟩
section
variable {N:Nat} {G:V→Value→Prop} {w0:Base} {v0:Zb} {U X:Nat→Prop} {f:Fr} {l:Lo} {a:Act} {w:World} {γ:Nat→Gh} {v:Zb} {ℓ:List Loc} {n:Nat}
def GoodG (P:Program) (ops:Array Oper) (N:Nat) (G:V→Value→Prop) (w0:Base) (v0:Zb) (X:Nat→Prop) (o:Oper) (a:Act) (w:World) (Post:Unit→Fr→Lo→Prop):Prop :=
 (Region.wanted o (yielded ops a.tmps)=true∧Zpa P N G w0 v0 X o a w Post)∨(Region.wanted o (yielded ops a.tmps)=false∧∃ f' l',Post () f' l'∧Rel N G w0 v0 X f' l' (a.put o.dst undef) w)
theorem Zyj (hr:RelX N G w0 v0 U X f l a w γ v ℓ) (hU:∀ k,U k→X k) (hX:X n) {o:Oper} {Post:Unit→Fr→Lo→Prop} (hd:∀ k,o.dst=some k→k<N) (h:Zk n (Zph o) f l Post):∃ f' l',Post () f' l'∧Rel N G w0 v0 X f' l' (a.put o.dst undef) w:=by
 unfold Zph at h
 cases hdd:o.dst with
 | none=>rw[hdd]at h;exact⟨f,l,h,γ,v,ℓ,hr.mono hU λ_ h=>h⟩
 | some d=>rw[hdd]at h;exact⟨_,l,h,γ,v,ℓ,(hr.mono hU λ_ h=>h).put (hd d hdd) (x:=.undef) ⟨[undef],rfl,rfl⟩ trivial hX⟩
theorem ZTo {C:Cf} (hC:CfOK C) {ops:Array Oper} (hr:RelX N G w0 v0 U X f l a w γ v ℓ) (hU:∀ k,U k→X k) (hX:X n) (hn:¬ U n) {o:Oper} {Post:Unit→Fr→Lo→Prop} (hds:∀ o ∈ ops.toList,∀ k,o.dst=some k→k<N) (hd:∀ k,o.dst=some k→k<N)
  (h:Zk n (gop C ops.toList n o) f l Post):GoodG C.P ops N G w0 v0 X o a w Post:=by
 unfold gop at h;split at h
 ·rename_i hg;exact .inl ⟨Zjc hg,Zbo hC hr hU hX hn hd h⟩
 ·rename_i j want hg;split at h
  ·rename_i q hq;split at h
   ·rename_i t ht;have htN:t<N:=hds q (mG hq) t ht;have hgd:(ops[j]?).bind (·.dst)=some t:=by rw[← Array.getElem?_toList,hq];exact ht
    obtain⟨e,he,h⟩:=h;obtain⟨σ,hσ,hev⟩:=hr.st.evs [.tmp t];have hl:look σ t=some (a.tmps.getD t undef):=hev (.tmp t) (by simp);have hrv:=hr.fr t e he;obtain⟨ek,est,ex⟩:=e;have hk:ek=t:=(Zo he).2;subst hk
    cases ex with
    | undef =>
     obtain⟨cs,h1,h2⟩:=hrv;have h1:cs=[undef]:=h1;subst h1;have h2:a.tmps.getD ek undef=undef:=h2;rw[h2]at hl;exact .inr ⟨Zle hσ hg hgd hl htN,Zyj hr hU hX hd h⟩
    | data tt b =>
     cases tt with
     | bool =>
      have h2:=Z4f hrv;have h2:a.tmps.getD ek undef = .bool b:=h2;rw[h2]at hl
      cases want with
      | true =>
       obtain⟨s,b',h3,h4,h5⟩:=h;rw[he]at h3
       cases h3
       cases b with
       | true=>exact .inl ⟨Zgg hσ hg hgd hl htN,Zbo hC (RelX.dup hr he) hU hX hn hd (h4 rfl)⟩
       | false=>exact .inr ⟨Zwj hσ hg hgd hl htN,Zyj (RelX.dup hr he) hU hX hd (h5 rfl)⟩
      | false =>
       obtain⟨s,b',h3,h4,h5⟩:=h;rw[he]at h3
       cases h3
       cases b with
       | true=>exact .inr ⟨Zwj hσ hg hgd hl htN,Zyj (RelX.dup hr he) hU hX hd (h4 rfl)⟩
       | false=>exact .inl ⟨Zgg hσ hg hgd hl htN,Zbo hC (RelX.dup hr he) hU hX hn hd (h5 rfl)⟩
     | _=>exact h.elim
    | _=>exact h.elim
   ·exact h.elim
  ·exact h.elim
theorem GoodG.list {P:Program} {ops:Array Oper} {Q:Exit→Act→World→Prop} {o:Oper} {rest:List Oper} {Post:Unit→Fr→Lo→Prop} (h:GoodG P ops N G w0 v0 X o a w Post)
  (k:∀ f' l' a' w',Post () f' l'→Rel N G w0 v0 X f' l' a' w'→wpList P ops Q rest a' w'):wpList P ops Q (o :: rest) a w:=by
 rcases h with ⟨hw,hg⟩ | ⟨hw,f',l',h1,h2⟩
 ·exact Zhd hw (ZHn hg λx w' ⟨f',l',h1,h2⟩=>k f' l' _ w' h1 h2)
 ·unfold wpList;rw[iN (by rw[hw];decide)];exact k f' l' _ w h1 h2
end
end Go.Eng
namespace Go.Eng
open Go.RowKit
inductive Et where
 | rS (t:Nat) (e:En V)
 | rL (u:Nat) (e:En LV)
 | wS (e:En V)
 | dup (e:En V)
 | wL (e:En LV)
 | nL (e:En LV)
 | dL (u:Nat)
def okT:List Et→Fr→Lo→Prop
 | [],_,_=>True
 | .rS t e :: τ,f,l=>lkE f t=some e∧okT τ f l
 | .rL u e :: τ,f,l=>lkE l u=some e∧okT τ f l
 | .wS e :: τ,f,l=>okT τ (e :: f) l
 | .dup e :: τ,f,l=>lkE f e.k=some e∧okT τ (e :: f) l
 | .wL e :: τ,f,l=>okT τ f (e :: era l e.k)
 | .nL e :: τ,f,l=>lkE l e.k=none∧okT τ f (e :: l)
 | .dL u :: τ,f,l=>okT τ f (era l u)
def Zic:List Et→Fr→Fr
 | [],f=>f
 | .wS e :: τ,f=>Zic τ (e :: f)
 | .dup e :: τ,f=>Zic τ (e :: f)
 | _ :: τ,f=>Zic τ f
def Zhc:List Et→Lo→Lo
 | [],l=>l
 | .wL e :: τ,l=>Zhc τ (e :: era l e.k)
 | .nL e :: τ,l=>Zhc τ (e :: l)
 | .dL u :: τ,l=>Zhc τ (era l u)
 | _ :: τ,l=>Zhc τ l
def rdS:List Et→Nat→Prop
 | [],_=>False
 | .rS t _ :: τ,k=>k=t∨rdS τ k
 | .dup e :: τ,k=>k=e.k∨rdS τ k
 | _ :: τ,k=>rdS τ k
def rdL:List Et→Nat→Prop
 | [],_=>False
 | .rL u _ :: τ,k=>k=u∨rdL τ k
 | .nL e :: τ,k=>k=e.k∨rdL τ k
 | _ :: τ,k=>rdL τ k
def Zjb:List Et→Nat→Option (Option (En V))
 | [],_=>none
 | .wS e :: τ,t=>match Zjb τ t with
  | some z=>some z
  | none=>if e.k=t then some (some e) else none
 | _ :: τ,t=>Zjb τ t
def ZFa:List Et→Nat→Option (Option (En LV))
 | [],_=>none
 | .wL e :: τ,t=>match ZFa τ t with
  | some z=>some z
  | none=>if e.k=t then some (some e) else none
 | .nL e :: τ,t=>match ZFa τ t with
  | some z=>some z
  | none=>if e.k=t then some (some e) else none
 | .dL u :: τ,t=>match ZFa τ t with
  | some z=>some z
  | none=>if u=t then some none else none
 | _ :: τ,t=>ZFa τ t
def fpT:List Et→Fp→Fp
 | [],p=>p
 | .rS t _ :: τ,p=>fpT τ ⟨bit p.rs t,p.ws,p.rl,p.wl⟩
 | .rL u _ :: τ,p=>fpT τ ⟨p.rs,p.ws,bit p.rl u,p.wl⟩
 | .wS e :: τ,p=>fpT τ ⟨p.rs,bit p.ws e.k,p.rl,p.wl⟩
 | .dup e :: τ,p=>fpT τ ⟨bit p.rs e.k,p.ws,p.rl,p.wl⟩
 | .wL e :: τ,p=>fpT τ ⟨p.rs,p.ws,p.rl,bit p.wl e.k⟩
 | .nL e :: τ,p=>fpT τ ⟨p.rs,p.ws,bit p.rl e.k,bit p.wl e.k⟩
 | .dL u :: τ,p=>fpT τ ⟨p.rs,p.ws,p.rl,bit p.wl u⟩
def Tr {ρ:Type} (n:Nat):Ev ρ→List Et→ρ→Prop
 | .fail,_,_=>False
 | .done r,τ,x=>τ=[]∧x=r
 | .rdS t k,τ,x=>∃ e τ',τ = .rS t e :: τ'∧Tr n (k e.x) τ' x
 | .rdL u k,τ,x=>∃ e τ',τ = .rL u e :: τ'∧Tr n (k e.st e.x) τ' x
 | .wrS t v e,τ,x=>∃ τ',τ = .wS ⟨t,n,v⟩ :: τ'∧Tr n e τ' x
 | .wrL u L e,τ,x=>∃ τ',τ = .wL ⟨u,n,L⟩ :: τ'∧Tr n e τ' x
 | .new u L e,τ,x=>∃ τ',τ = .nL ⟨u,n,L⟩ :: τ'∧Tr n e τ' x
 | .del u e,τ,x=>∃ τ',τ = .dL u :: τ'∧Tr n e τ' x
 | .bind y k,τ,x=>∃ z,y=some z∧Tr n (k z) τ x
 | .test t e1 e2,τ,x=>∃ s b τ',τ = .dup ⟨t,s,.data .bool b⟩ :: τ'∧(b=true→Tr n e1 τ' x)∧(b=false→Tr n e2 τ' x)
 | .alt b e1 e2,τ,x=>(b=true→Tr n e1 τ x)∧(b=false→Tr n e2 τ x)
theorem Zow {ρ α:Type} {n:Nat} {r:α}:∀ {e:Ev ρ} {f:Fr} {l:Lo} {p:Fp} {K:ρ→Fr→Lo→Fp→Option α},ZHb n e f l p K=some r→∃ x τ,Tr n e τ x∧okT τ f l∧K x (Zic τ f) (Zhc τ l) (fpT τ p)=some r:=by
 intro e
 induction e with
 | fail=>intro f l p K h;cases h
 | done x=>intro f l p K h;exact⟨x,[],⟨rfl,rfl⟩,trivial,h⟩
 | rdS t k ih =>
  intro f l p K h;simp only[ZHb]at h;split at h
  ·rename_i e he;obtain⟨x,τ,h1,h2,h3⟩:=ih _ h;exact⟨x,.rS t e :: τ,⟨e,τ,rfl,h1⟩,⟨he,h2⟩,h3⟩
  ·cases h
 | rdL u k ih =>
  intro f l p K h;simp only[ZHb]at h;split at h
  ·rename_i e he;obtain⟨x,τ,h1,h2,h3⟩:=ih _ _ h;exact⟨x,.rL u e :: τ,⟨e,τ,rfl,h1⟩,⟨he,h2⟩,h3⟩
  ·cases h
 | wrS t v e ih=>intro f l p K h;obtain⟨x,τ,h1,h2,h3⟩:=ih h;exact⟨x,.wS ⟨t,n,v⟩ :: τ,⟨τ,rfl,h1⟩,h2,h3⟩
 | wrL u L e ih=>intro f l p K h;obtain⟨x,τ,h1,h2,h3⟩:=ih h;exact⟨x,.wL ⟨u,n,L⟩ :: τ,⟨τ,rfl,h1⟩,h2,h3⟩
 | new u L e ih =>
  intro f l p K h;simp only[ZHb]at h;split at h
  ·rename_i he;obtain⟨x,τ,h1,h2,h3⟩:=ih h;exact⟨x,.nL ⟨u,n,L⟩ :: τ,⟨τ,rfl,h1⟩,⟨he,h2⟩,h3⟩
  ·cases h
 | del u e ih=>intro f l p K h;obtain⟨x,τ,h1,h2,h3⟩:=ih h;exact⟨x,.dL u :: τ,⟨τ,rfl,h1⟩,h2,h3⟩
 | bind y k ih =>
  intro f l p K h;obtain⟨z,hz,h⟩:=ZAa h;obtain⟨x,τ,h1,h2,h3⟩:=ih _ h;exact⟨x,τ,⟨z,hz,h1⟩,h2,h3⟩
 | test t e1 e2 i1 i2 =>
  intro f l p K h;simp only[ZHb]at h;split at h
  ·rename_i k s b hx;obtain⟨_,hk⟩:=Zo hx;have hk:k=t:=hk;subst hk
   cases b with
   | true =>
    obtain⟨x,τ,h1,h2,h3⟩:=i1 h;exact⟨x,.dup ⟨k,s,.data .bool true⟩ :: τ,⟨s,true,τ,rfl,λ_=>h1,λe=>by cases e⟩,⟨hx,h2⟩,h3⟩
   | false =>
    obtain⟨x,τ,h1,h2,h3⟩:=i2 h;exact⟨x,.dup ⟨k,s,.data .bool false⟩ :: τ,⟨s,false,τ,rfl,(λe=>by cases e),λ_=>h1⟩,⟨hx,h2⟩,h3⟩
  ·cases h
 | alt b e1 e2 i1 i2 =>
  intro f l p K h
  cases b with
  | true =>
   obtain⟨x,τ,h1,h2,h3⟩:=i1 h;exact⟨x,τ,⟨λ_=>h1,λe=>by cases e⟩,h2,h3⟩
  | false =>
   obtain⟨x,τ,h1,h2,h3⟩:=i2 h;exact⟨x,τ,⟨(λe=>by cases e),λ_=>h1⟩,h2,h3⟩
theorem ZXn {ρ:Type} {n:Nat}:∀ {e:Ev ρ} {τ:List Et} {x:ρ} {f:Fr} {l:Lo},Tr n e τ x→okT τ f l→Zk n e f l λx' f' l'=>x'=x∧f'=Zic τ f∧l'=Zhc τ l:=by
 intro e
 induction e with
 | fail=>intro τ x f l h k;exact h
 | done r=>intro τ x f l h k;obtain⟨rfl,rfl⟩:=h;exact⟨rfl,rfl,rfl⟩
 | rdS t q ih=>intro τ x f l h k;obtain⟨e,τ',rfl,h⟩:=h;exact⟨e,k.1,ih _ (τ:=τ') h k.2⟩
 | rdL u q ih=>intro τ x f l h k;obtain⟨e,τ',rfl,h⟩:=h;exact⟨e,k.1,ih _ _ (τ:=τ') h k.2⟩
 | wrS t v e ih=>intro τ x f l h k;obtain⟨τ',rfl,h⟩:=h;exact ih (τ:=τ') h k
 | wrL u L e ih=>intro τ x f l h k;obtain⟨τ',rfl,h⟩:=h;exact ih (τ:=τ') h k
 | new u L e ih=>intro τ x f l h k;obtain⟨τ',rfl,h⟩:=h;exact⟨k.1,ih (τ:=τ') h k.2⟩
 | del u e ih=>intro τ x f l h k;obtain⟨τ',rfl,h⟩:=h;exact ih (τ:=τ') h k
 | bind y q ih=>intro τ x f l h k;obtain⟨z,hz,h⟩:=h;exact⟨z,hz,ih _ h k⟩
 | test t e1 e2 i1 i2=>intro τ x f l h k;obtain⟨s,b,τ',rfl,h1,h2⟩:=h;exact⟨s,b,k.1,λe=>i1 (τ:=τ') (h1 e) k.2,λe=>i2 (τ:=τ') (h2 e) k.2⟩
 | alt b e1 e2 i1 i2=>intro τ x f l h k;exact⟨λe=>i1 (h.1 e) k,λe=>i2 (h.2 e) k⟩
theorem Z2c:∀ {τ:List Et} {f:Fr} {l:Lo} {t:Nat},okT τ f l→lkE (Zic τ f) t=(Zjb τ t).getD (lkE f t)
 | [],_,_,_,_=>rfl
 | .rS _ _ :: τ,_,_,_,h=>Z2c (τ:=τ) h.2
 | .rL _ _ :: τ,_,_,_,h=>Z2c (τ:=τ) h.2
 | .wL _ :: τ,_,_,_,h=>Z2c (τ:=τ) h
 | .nL _ :: τ,_,_,_,h=>Z2c (τ:=τ) h.2
 | .dL _ :: τ,_,_,_,h=>Z2c (τ:=τ) h
 | .wS e :: τ,f,l,t,h=>by
  have:=Z2c (t:=t) (show okT τ (e :: f) l from h)
  simp only[Zic,Zjb]
  rw[this,ZL]
  cases Zjb τ t with
  | some z=>rfl
  | none=>by_cases h:e.k=t <;> simp[h]
 | .dup e :: τ,f,l,t,h=>by
  have:=Z2c (t:=t) (show okT τ (e :: f) l from h.2)
  simp only[Zic,Zjb]
  rw[this,ZL]
  congr 1
  by_cases hk:e.k=t
  ·rw[iP hk,← hk,h.1]
  ·rw[iN hk]
theorem ZVc:∀ {τ:List Et} {f:Fr} {l:Lo},(l.map En.k).Nodup→okT τ f l→((Zhc τ l).map En.k).Nodup∧∀ t,lkE (Zhc τ l) t=(ZFa τ t).getD (lkE l t)
 | [],_,_,hn,_=>⟨hn,λ_=>rfl⟩
 | .rS _ _ :: τ,_,_,hn,h=>ZVc (τ:=τ) hn h.2
 | .rL _ _ :: τ,_,_,hn,h=>ZVc (τ:=τ) hn h.2
 | .wS _ :: τ,_,_,hn,h=>ZVc (τ:=τ) hn h
 | .dup _ :: τ,_,_,hn,h=>ZVc (τ:=τ) hn h.2
 | .wL e :: τ,f,l,hn,h=>by
  obtain⟨n1,n2⟩:=ZTb (t:=e.k) hn
  obtain⟨k1,k2⟩:=ZVc (τ:=τ) (l:=e :: era l e.k) (List.nodup_cons.2 ⟨n2,n1⟩) h
  refine⟨k1,λt=>(k2 t).trans ?_⟩
  simp only[ZFa]
  rw[ZL,Z5b hn]
  cases ZFa τ t with
  | some z=>rfl
  | none=>by_cases hk:e.k=t <;> simp[hk]
 | .nL e :: τ,f,l,hn,h=>by
  obtain⟨k1,k2⟩:=ZVc (τ:=τ) (l:=e :: l) (List.nodup_cons.2 ⟨ZMg h.1,hn⟩) h.2
  refine⟨k1,λt=>(k2 t).trans ?_⟩
  simp only[ZFa]
  rw[ZL]
  cases ZFa τ t with
  | some z=>rfl
  | none=>by_cases hk:e.k=t <;> simp[hk]
 | .dL u :: τ,f,l,hn,h=>by
  obtain⟨k1,k2⟩:=ZVc (τ:=τ) (l:=era l u) (ZTb hn).1 h
  refine⟨k1,λt=>(k2 t).trans ?_⟩
  simp only[ZFa]
  rw[Z5b hn]
  cases ZFa τ t with
  | some z=>rfl
  | none=>by_cases hk:u=t <;> simp[hk]
theorem ZBe:∀ {τ:List Et} {f f2:Fr} {l l2:Lo},(l.map En.k).Nodup→(l2.map En.k).Nodup→okT τ f l→(∀ t,rdS τ t→lkE f t=lkE f2 t)→(∀ u,rdL τ u→lkE l u=lkE l2 u)→okT τ f2 l2
 | [],_,_,_,_,_,_,_,_,_=>trivial
 | .rS t e :: τ,_,_,_,_,n1,n2,h,k1,k2=>⟨(k1 t (.inl rfl)).symm.trans h.1,ZBe n1 n2 h.2 (λt ht=>k1 t (.inr ht)) k2⟩
 | .rL u e :: τ,_,_,_,_,n1,n2,h,k1,k2=>⟨(k2 u (.inl rfl)).symm.trans h.1,ZBe n1 n2 h.2 k1 λu hu=>k2 u (.inr hu)⟩
 | .wS e :: τ,f,f2,_,_,n1,n2,h,k1,k2=>ZBe (τ:=τ) n1 n2 h (λt ht=>by
   rw[ZL,ZL]
   by_cases hk:e.k=t
   ·rw[iP hk,iP hk]
   ·rw[iN hk,iN hk];exact k1 t ht) k2
 | .dup e :: τ,f,f2,_,_,n1,n2,h,k1,k2=>⟨(k1 e.k (.inl rfl)).symm.trans h.1,ZBe (τ:=τ) n1 n2 h.2 (λt ht=>by
   rw[ZL,ZL]
   by_cases hk:e.k=t
   ·rw[iP hk,iP hk]
   ·rw[iN hk,iN hk];exact k1 t (.inr ht)) k2⟩
 | .wL e :: τ,_,_,l,l2,n1,n2,h,k1,k2=>by
  obtain⟨a1,a2⟩:=ZTb (t:=e.k) n1
  obtain⟨b1,b2⟩:=ZTb (t:=e.k) n2
  refine ZBe (τ:=τ) (l:=e :: era l e.k) (l2:=e :: era l2 e.k) (List.nodup_cons.2 ⟨a2,a1⟩) (List.nodup_cons.2 ⟨b2,b1⟩) h k1 λu hu=>?_
  rw[ZL,ZL]
  by_cases hk:e.k=u
  ·rw[iP hk,iP hk]
  ·rw[iN hk,iN hk,Z5b n1,Z5b n2,iN hk,iN hk];exact k2 u hu
 | .nL e :: τ,_,_,l,l2,n1,n2,h,k1,k2=>by
  have he:lkE l2 e.k=none:=(k2 e.k (.inl rfl)).symm.trans h.1
  refine⟨he,ZBe (τ:=τ) (l:=e :: l) (l2:=e :: l2) (List.nodup_cons.2 ⟨ZMg h.1,n1⟩) (List.nodup_cons.2 ⟨ZMg he,n2⟩) h.2 k1 λu hu=>?_⟩
  rw[ZL,ZL]
  by_cases hk:e.k=u
  ·rw[iP hk,iP hk]
  ·rw[iN hk,iN hk];exact k2 u (.inr hu)
 | .dL u :: τ,_,_,l,l2,n1,n2,h,k1,k2=>by
  refine ZBe (τ:=τ) (ZTb n1).1 (ZTb n2).1 h k1 λk hk=>?_
  rw[Z5b n1,Z5b n2]
  by_cases e:u=k
  ·rw[iP e,iP e]
  ·rw[iN e,iN e];exact k2 k hk
theorem ZCf {m k:Nat}:(bit m k).testBit k=true:=by
 show (m ||| 2^k).testBit k=true;rw[Nat.testBit_or,Nat.testBit_two_pow_self,Bool.or_true]
theorem Zxf {m k t:Nat} (h:m.testBit t=true):(bit m k).testBit t=true:=by
 show (m ||| 2^k).testBit t=true;rw[Nat.testBit_or,h,Bool.true_or]
structure Fp.le (p q:Fp):Prop where
 rs:∀ t,p.rs.testBit t=true→q.rs.testBit t=true
 ws:∀ t,p.ws.testBit t=true→q.ws.testBit t=true
 rl:∀ t,p.rl.testBit t=true→q.rl.testBit t=true
 wl:∀ t,p.wl.testBit t=true→q.wl.testBit t=true
theorem Fp.le.trans {p q r:Fp} (h:p.le q) (k:q.le r):p.le r:=⟨λt e=>k.rs t (h.rs t e),λt e=>k.ws t (h.ws t e),λt e=>k.rl t (h.rl t e),λt e=>k.wl t (h.wl t e)⟩
theorem Z7b:∀ {τ:List Et} {p:Fp},p.le (fpT τ p)
 | [],_=>⟨λ_ h=>h,λ_ h=>h,λ_ h=>h,λ_ h=>h⟩
 | .rS t _ :: τ,p=>Fp.le.trans (q:=⟨bit p.rs t,p.ws,p.rl,p.wl⟩) ⟨λ_ h=>Zxf h,λ_ h=>h,λ_ h=>h,λ_ h=>h⟩ (Z7b (τ:=τ))
 | .rL u _ :: τ,p=>Fp.le.trans (q:=⟨p.rs,p.ws,bit p.rl u,p.wl⟩) ⟨λ_ h=>h,λ_ h=>h,λ_ h=>Zxf h,λ_ h=>h⟩ (Z7b (τ:=τ))
 | .wS e :: τ,p=>Fp.le.trans (q:=⟨p.rs,bit p.ws e.k,p.rl,p.wl⟩) ⟨λ_ h=>h,λ_ h=>Zxf h,λ_ h=>h,λ_ h=>h⟩ (Z7b (τ:=τ))
 | .dup e :: τ,p=>Fp.le.trans (q:=⟨bit p.rs e.k,p.ws,p.rl,p.wl⟩) ⟨λ_ h=>Zxf h,λ_ h=>h,λ_ h=>h,λ_ h=>h⟩ (Z7b (τ:=τ))
 | .wL e :: τ,p=>Fp.le.trans (q:=⟨p.rs,p.ws,p.rl,bit p.wl e.k⟩) ⟨λ_ h=>h,λ_ h=>h,λ_ h=>h,λ_ h=>Zxf h⟩ (Z7b (τ:=τ))
 | .nL e :: τ,p=>Fp.le.trans (q:=⟨p.rs,p.ws,bit p.rl e.k,bit p.wl e.k⟩) ⟨λ_ h=>h,λ_ h=>h,λ_ h=>Zxf h,λ_ h=>Zxf h⟩ (Z7b (τ:=τ))
 | .dL u :: τ,p=>Fp.le.trans (q:=⟨p.rs,p.ws,p.rl,bit p.wl u⟩) ⟨λ_ h=>h,λ_ h=>h,λ_ h=>h,λ_ h=>Zxf h⟩ (Z7b (τ:=τ))
theorem Zse:∀ {τ:List Et} {p:Fp} {t:Nat},rdS τ t→(fpT τ p).rs.testBit t=true
 | .rS t _ :: τ,_,_,.inl e=>by subst e;exact (Z7b (τ:=τ)).rs _ ZCf
 | .dup _ :: τ,_,_,.inl e=>by subst e;exact (Z7b (τ:=τ)).rs _ ZCf
 | .rS t _ :: τ,_,_,.inr h=>Zse (τ:=τ) h
 | .dup _ :: τ,_,_,.inr h=>Zse (τ:=τ) h
 | .rL _ _ :: τ,_,_,h=>Zse (τ:=τ) h
 | .wS _ :: τ,_,_,h=>Zse (τ:=τ) h
 | .wL _ :: τ,_,_,h=>Zse (τ:=τ) h
 | .nL _ :: τ,_,_,h=>Zse (τ:=τ) h
 | .dL _ :: τ,_,_,h=>Zse (τ:=τ) h
theorem Zqe:∀ {τ:List Et} {p:Fp} {t:Nat},rdL τ t→(fpT τ p).rl.testBit t=true
 | .rL t _ :: τ,_,_,.inl e=>by subst e;exact (Z7b (τ:=τ)).rl _ ZCf
 | .nL _ :: τ,_,_,.inl e=>by subst e;exact (Z7b (τ:=τ)).rl _ ZCf
 | .rL t _ :: τ,_,_,.inr h=>Zqe (τ:=τ) h
 | .nL _ :: τ,_,_,.inr h=>Zqe (τ:=τ) h
 | .rS _ _ :: τ,_,_,h=>Zqe (τ:=τ) h
 | .wS _ :: τ,_,_,h=>Zqe (τ:=τ) h
 | .dup _ :: τ,_,_,h=>Zqe (τ:=τ) h
 | .wL _ :: τ,_,_,h=>Zqe (τ:=τ) h
 | .dL _ :: τ,_,_,h=>Zqe (τ:=τ) h
theorem Zad:∀ {τ:List Et} {p:Fp} {t:Nat},Zjb τ t≠none→(fpT τ p).ws.testBit t=true
 | [],_,_,h=>absurd rfl h
 | .wS e :: τ,_,t,h=>by
  by_cases hk:e.k=t
  ·subst hk;exact (Z7b (τ:=τ)).ws _ ZCf
  ·refine Zad (τ:=τ) λh0=>h ?_
   simp only[Zjb,h0,iN hk]
 | .rS _ _ :: τ,_,_,h=>Zad (τ:=τ) h
 | .rL _ _ :: τ,_,_,h=>Zad (τ:=τ) h
 | .dup _ :: τ,_,_,h=>Zad (τ:=τ) h
 | .wL _ :: τ,_,_,h=>Zad (τ:=τ) h
 | .nL _ :: τ,_,_,h=>Zad (τ:=τ) h
 | .dL _ :: τ,_,_,h=>Zad (τ:=τ) h
theorem Z5c:∀ {τ:List Et} {p:Fp} {t:Nat},ZFa τ t≠none→(fpT τ p).wl.testBit t=true
 | [],_,_,h=>absurd rfl h
 | .wL e :: τ,_,t,h=>by
  by_cases hk:e.k=t
  ·subst hk;exact (Z7b (τ:=τ)).wl _ ZCf
  ·refine Z5c (τ:=τ) λh0=>h ?_
   simp only[ZFa,h0,iN hk]
 | .nL e :: τ,_,t,h=>by
  by_cases hk:e.k=t
  ·subst hk;exact (Z7b (τ:=τ)).wl _ ZCf
  ·refine Z5c (τ:=τ) λh0=>h ?_
   simp only[ZFa,h0,iN hk]
 | .dL u :: τ,_,t,h=>by
  by_cases hk:u=t
  ·subst hk;exact (Z7b (τ:=τ)).wl _ ZCf
  ·refine Z5c (τ:=τ) λh0=>h ?_
   simp only[ZFa,h0,iN hk]
 | .rS _ _ :: τ,_,_,h=>Z5c (τ:=τ) h
 | .rL _ _ :: τ,_,_,h=>Z5c (τ:=τ) h
 | .wS _ :: τ,_,_,h=>Z5c (τ:=τ) h
 | .dup _ :: τ,_,_,h=>Z5c (τ:=τ) h
theorem Zdh {a b t:Nat} (h:Nat.land a b=0) (ha:a.testBit t=true) (hb:b.testBit t=true):False:=by
 have:(a &&& b).testBit t=true:=by rw[Nat.testBit_and,ha,hb];rfl
 rw[show (a &&& b)=0 from h]at this;simp at this
theorem Zsm {a b:Nat} (h:Nat.lor a b=0):a=0∧b=0:=by
 have h:a ||| b=0:=h;exact Nat.or_eq_zero_iff.1 h
theorem ZCl {a b t:Nat} (h:a.testBit t=true∨b.testBit t=true):(Nat.lor a b).testBit t=true:=by
 show (a ||| b).testBit t=true;rw[Nat.testBit_or];rcases h with h | h <;> simp[h]
structure Apart (τ σ:List Et):Prop where
 s1:∀ t,Zjb τ t≠none→rdS σ t→False
 s2:∀ t,Zjb τ t≠none→Zjb σ t≠none→False
 s3:∀ t,rdS τ t→Zjb σ t≠none→False
 l1:∀ t,ZFa τ t≠none→rdL σ t→False
 l2:∀ t,ZFa τ t≠none→ZFa σ t≠none→False
 l3:∀ t,rdL τ t→ZFa σ t≠none→False
theorem Zeu {τ σ:List Et} {p q:Fp} (h:(fpT τ p).free (fpT σ q)=true):Apart τ σ:=by
 have h:=eQ h;obtain⟨h1,h2⟩:=Zsm h;obtain⟨h3,h4⟩:=Zsm h1;obtain⟨h5,h6⟩:=Zsm h2;exact⟨λt a b=>Zdh h3 (Zad a) (ZCl (.inl (Zse b))),λt a b=>Zdh h3 (Zad a) (ZCl (.inr (Zad b))),λt a b=>Zdh h4 (Zse a) (Zad b),
  λt a b=>Zdh h5 (Z5c a) (ZCl (.inl (Zqe b))),λt a b=>Zdh h5 (Z5c a) (ZCl (.inr (Z5c b))),λt a b=>Zdh h6 (Zqe a) (Z5c b)⟩
def Z1e:List (List Et)→Fr→Fr
 | [],f=>f
 | τ :: r,f=>Z1e r (Zic τ f)
def Zbe:List (List Et)→Lo→Lo
 | [],l=>l
 | τ :: r,l=>Zbe r (Zhc τ l)
def okTs:List (List Et)→Fr→Lo→Prop
 | [],_,_=>True
 | τ :: r,f,l=>okT τ f l∧okTs r (Zic τ f) (Zhc τ l)
def ZIa {β:Type} (eff:List Et→Nat→Option β) (sel:Nat→Bool):List (List Et)→Nat→β→Nat→β
 | [],_,acc,_=>acc
 | τ :: r,i,acc,t=>ZIa eff sel r (i+1) (if sel i then (eff τ t).getD acc else acc) t
section
variable {β:Type} {eff:List Et→Nat→Option β}
theorem Zme {sel sel':Nat→Bool} {t:Nat}:∀ {Ts:List (List Et)} {i:Nat} {acc:β},(∀ j τ,Ts[j]? = some τ→eff τ t≠none→sel (i+j)=sel' (i+j))→ZIa eff sel Ts i acc t=ZIa eff sel' Ts i acc t
 | [],_,_,_=>rfl
 | τ :: r,i,acc,h=>by
  have h1:(if sel i then (eff τ t).getD acc else acc)=(if sel' i then (eff τ t).getD acc else acc):=by
   cases he:eff τ t with
   | none=>simp
   | some z =>
    have:=h 0 τ rfl (by rw[he];exact λe=>by cases e);rw[Nat.add_zero]at this;rw[this]
  simp only[ZIa];rw[h1];exact Zme λj σ hj hs=>by have:=h (j+1) σ hj hs;rwa [← Nat.add_assoc,Nat.add_right_comm]at this
theorem ZJf {sel:Nat→Bool} {t:Nat}:∀ {Ts:List (List Et)} {i:Nat} {acc:β},(∀ j τ,Ts[j]? = some τ→sel (i+j)=true→eff τ t=none)→ZIa eff sel Ts i acc t=acc
 | [],_,_,_=>rfl
 | τ :: r,i,acc,h=>by
  simp only[ZIa]
  rw[ZJf λj σ hj hs=>h (j+1) σ hj (by rwa [← Nat.add_assoc,Nat.add_right_comm])]
  by_cases hs:sel i=true
  ·rw[iP hs,h 0 τ rfl hs];rfl
  ·rw[iN hs]
theorem Ztn {sel:Nat→Bool} {t:Nat}:∀ {Ts:List (List Et)} {i k:Nat} {acc:β} {τ:List Et} {z:β},Ts[k]? = some τ→sel (i+k)=true→eff τ t=some z→(∀ j σ,k<j→Ts[j]? = some σ→sel (i+j)=true→eff σ t=none)→ZIa eff sel Ts i acc t=z
 | [],_,_,_,_,_,h,_,_,_=>by cases h
 | σ :: r,i,0,acc,τ,z,h,hs,he,hj=>by
  cases h
  simp only[ZIa]
  rw[iP (show sel i=true from hs),he]
  exact ZJf λj σ hσ hsj=>hj (j+1) σ (by omega) hσ (by rwa [← Nat.add_assoc,Nat.add_right_comm])
 | σ :: r,i,k+1,acc,τ,z,h,hs,he,hj=>by
  simp only[ZIa]
  exact Ztn (k:=k) (τ:=τ) h (by rwa [Nat.add_right_comm]) he λj σ' hkj hσ hsj=>hj (j+1) σ' (by omega) hσ (by rwa [← Nat.add_assoc,Nat.add_right_comm])
end
theorem Zim:∀ {Ts:List (List Et)} {f:Fr} {l:Lo} {b i:Nat} {τ:List Et},okTs Ts f l→(l.map En.k).Nodup→Ts[i]? = some τ→∃ fi li,okT τ fi li∧(li.map En.k).Nodup∧(∀ t,lkE fi t=ZIa Zjb (λj=>decide (j<b+i)) Ts b (lkE f t) t)∧∀ t,lkE li t=ZIa ZFa (λj=>decide (j<b+i)) Ts b (lkE l t) t
 | [],_,_,_,_,_,_,_,h=>by cases h
 | σ :: r,f,l,b,0,τ,h,hn,ht=>by
  cases ht
  refine⟨f,l,h.1,hn,λt=>(ZJf λj _ _ hs=>?_).symm,λt=>(ZJf λj _ _ hs=>?_).symm⟩ <;> (have:=of_decide_eq_true hs;omega)
 | σ :: r,f,l,b,i+1,τ,h,hn,ht=>by
  obtain⟨n1,hl⟩:=ZVc hn h.1
  obtain⟨fi,li,k1,k2,k3,k4⟩:=Zim (b:=b+1) (i:=i) h.2 n1 ht
  have e:(λj=>decide (j<b+1+i))=λj=>decide (j<b+(i+1)):=by funext j;congr 1;rw[Nat.add_assoc,Nat.add_comm 1 i]
  have hb:decide (b<b+(i+1))=true:=by simp
  refine⟨fi,li,k1,k2,λt=>?_,λt=>?_⟩
  ·rw[k3 t,e,Z2c h.1];simp only[ZIa];rw[iP hb]
  ·rw[k4 t,e,hl t];simp only[ZIa];rw[iP hb]
theorem ZVm:∀ {Ts:List (List Et)} {f:Fr} {l:Lo} {b:Nat},okTs Ts f l→(l.map En.k).Nodup→((Zbe Ts l).map En.k).Nodup∧(∀ t,lkE (Z1e Ts f) t=ZIa Zjb (λ_=>true) Ts b (lkE f t) t)∧∀ t,lkE (Zbe Ts l) t=ZIa ZFa (λ_=>true) Ts b (lkE l t) t
 | [],_,_,_,_,hn=>⟨hn,λ_=>rfl,λ_=>rfl⟩
 | τ :: r,f,l,b,h,hn=>by
  obtain⟨n1,hl⟩:=ZVc hn h.1
  obtain⟨k1,k2,k3⟩:=ZVm (b:=b+1) h.2 n1
  refine⟨k1,λt=>?_,λt=>?_⟩
  ·rw[show Z1e (τ :: r) f=Z1e r (Zic τ f) from rfl,k2 t,Z2c h.1];rfl
  ·rw[show Zbe (τ :: r) l=Zbe r (Zhc τ l) from rfl,k3 t,hl t];rfl
theorem Z4m {α:Type} {C:Cf} {ops:List Oper} {r:α}:∀ {os:List Oper} {f:Fr} {l:Lo} {n:Nat} {K:Fr→Lo→Nat→List Fp→Option α},Zcg C ops os f l n K=some r →
  ∃ Ts:List (List Et),Ts.length=os.length∧okTs Ts f l∧(∀ i o τ,os[i]? = some o→Ts[i]? = some τ→Tr (n+i) (gop C ops (n+i) o) τ ())∧K (Z1e Ts f) (Zbe Ts l) (n+os.length) (Ts.map λτ=>fpT τ Fp.no)=some r
 | [],f,l,n,K,h=>⟨[],rfl,trivial,λ_ _ _ h=>by simp at h,h⟩
 | o :: os,f,l,n,K,h=>by
  simp only[Zcg]at h
  obtain⟨⟨⟩,τ,h1,h2,h3⟩:=Zow h
  obtain⟨Ts,k1,k2,k3,k4⟩:=Z4m h3
  refine⟨τ :: Ts,by simp[k1],⟨h2,k2⟩,λi o' τ' ho ht=>?_,?_⟩
  ·cases i with
   | zero=>cases ho;cases ht;exact h1
   | succ i=>have:=k3 i o' τ' ho ht;rwa [Nat.add_right_comm]at this
  ·rw[List.length_cons,← Nat.add_assoc,Nat.add_right_comm];exact k4
theorem Zzy {ρ:Type} {n:Nat} {A:Prop}:∀ {e:Ev ρ} {f:Fr} {l:Lo} {K:ρ→Fr→Lo→Prop},Zk n e f l K→(∀ x f' l',K x f' l'→A)→A:=by
 intro e
 induction e with
 | fail=>intro f l K h k;exact h.elim
 | done x=>intro f l K h k;exact k _ _ _ h
 | rdS t q ih=>intro f l K h k;obtain⟨x,hx,h⟩:=h;exact ih _ h k
 | rdL u q ih=>intro f l K h k;obtain⟨x,hx,h⟩:=h;exact ih _ _ h k
 | wrS t x e ih=>intro f l K h k;exact ih h k
 | wrL u L e ih=>intro f l K h k;exact ih h k
 | new u L e ih=>intro f l K h k;exact ih h.2 k
 | del u e ih=>intro f l K h k;exact ih h k
 | bind x q ih=>intro f l K h k;obtain⟨x,hx,h⟩:=h;exact ih _ h k
 | test t e1 e2 i1 i2 =>
  intro f l K h k;obtain⟨s,b,h1,h2,h3⟩:=h
  cases b with
  | true=>exact i1 (h2 rfl) k
  | false=>exact i2 (h3 rfl) k
 | alt b e1 e2 i1 i2 =>
  intro f l K h k
  cases b with
  | true=>exact i1 (h.1 rfl) k
  | false=>exact i2 (h.2 rfl) k
theorem ZQn {C:Cf} {ops:List Oper} {m:Nat}:∀ {os:List Oper} {Ts:List (List Et)} {f:Fr} {l:Lo} {n:Nat},m≤n→Ts.length=os.length→okTs Ts f l→(l.map En.k).Nodup→(∀ i o τ,os[i]? = some o→Ts[i]? = some τ→Tr (n+i) (gop C ops (n+i) o) τ ())→Old m f l (Z1e Ts f) (Zbe Ts l)
 | _,[],_,_,_,_,_,_,_,_=>Old.refl
 | [],_ :: _,_,_,_,_,h,_,_,_=>by cases h
 | o :: os,τ :: Ts,f,l,n,hm,hl,h,hn,ht=>by
  have h1:=Zgh hm Old.refl hn (ZXn (ht 0 o τ rfl rfl) h.1)
  have h2:Old m f l (Zic τ f) (Zhc τ l):=Zzy h1 λx f' l' ⟨⟨_,e1,e2⟩,h⟩=>by subst e1;subst e2;exact h
  exact h2.trans (ZQn (n:=n+1) (by omega) (by simpa using hl) h.2 (ZVc hn h.1).1 λi o' τ' ho hτ=>by
   have:=ht (i+1) o' τ' ho hτ
   rwa [← Nat.add_assoc,Nat.add_right_comm]at this) (Nat.le_refl m)
theorem ZVu {m:Nat} {q:Fp}:∀ {bef:List Fp} {i0:Nat},chk1 m q bef i0=true→∀ i p,bef[i]? = some p→m.testBit (i0+i)=true∨p.free q=true
 | [],_,_,_,_,h=>by cases h
 | p0 :: r,i0,h,i,p,hp=>by
  simp only[chk1]at h
  cases i with
  | zero =>
   cases hp
   rw[Nat.add_zero]
   split at h
   ·rename_i e;exact .inl e
   ·split at h
    ·rename_i e;exact .inr e
    ·cases h
  | succ i =>
   have h':chk1 m q r (i0+1)=true:=by
    split at h
    ·exact h
    ·split at h
     ·exact h
     ·cases h
   have:=ZVu h' i p hp
   rwa [Nat.add_right_comm]at this
theorem ZSm:∀ {qs:List Fp} {bef:List Fp} {ms:List Nat},Zie bef ms qs=true→∀ j q,qs[j]? = some q→∃ m,ms[j]? = some m∧∀ i p,(bef++qs)[i]? = some p→i<bef.length+j→m.testBit i=true∨p.free q=true
 | [],_,_,_,_,_,h=>by cases h
 | q0 :: qs,bef,ms,h,j,q,hq=>by
  cases ms with
  | nil=>cases h
  | cons m0 ms =>
   simp only[Zie]at h
   split at h
   ·rename_i h1
    cases j with
    | zero =>
     cases hq
     refine⟨m0,rfl,λi p hp hi=>?_⟩
     rw[List.getElem?_append_left (by omega)]at hp
     have:=ZVu h1 i p hp
     rwa [Nat.zero_add]at this
    | succ j =>
     obtain⟨m,h2,h3⟩:=ZSm h j q hq
     refine⟨m,h2,λi p hp hi=>h3 i p (by rw[aAq];exact hp) (by simp;omega)⟩
   ·cases h
theorem ZBj {done:List Nat} {t:Nat}:∀ {es:List Edge} {m:Nat},(ZWc done es m).testBit t=true→m.testBit t=true ∨ ∃ e ∈ es,Region.binds .any e=true∧(t=e.on∨(done.getD e.on 0).testBit t=true)
 | [],_,h=>.inl h
 | e :: r,m,h=>by
  simp only[ZWc]at h
  split at h
  ·rename_i hb
   rcases ZBj h with h | ⟨e',he,h1,h2⟩
   ·have h:((m ||| 2^e.on) ||| done.getD e.on 0).testBit t=true:=h
    rw[Nat.testBit_or,Nat.testBit_or,Nat.testBit_two_pow,Bool.or_eq_true,Bool.or_eq_true]at h
    rcases h with (h | h) | h
    ·exact .inl h
    ·exact .inr ⟨e,by simp,hb,.inl (by simpa using (of_decide_eq_true h).symm)⟩
    ·exact .inr ⟨e,by simp,hb,.inr h⟩
   ·exact .inr ⟨e',by simp[he],h1,h2⟩
  ·rcases ZBj h with h | ⟨e',he,h1,h2⟩
   ·exact .inl h
   ·exact .inr ⟨e',by simp[he],h1,h2⟩
theorem ZGs:∀ {os:List Oper} {done:List Nat} {j:Nat} {m:Nat},done[j]? = some m→(Zbb os done)[j]? = some m
 | [],_,_,_,h=>h
 | o :: os,done,j,m,h=>ZGs (os:=os) (by rw[List.getElem?_append_left (List.getElem?_eq_some_iff.1 h).1];exact h)
theorem Zsh {S:Nat→Prop}:∀ {os:List Oper} {done:List Nat},(∀ j o,os[j]? = some o→S (done.length+j)→∀ e ∈ o.after,Region.binds .any e=true→S e.on)→(∀ j m,done[j]? = some m→S j→∀ i,m.testBit i=true→S i) →
  ∀ j o m,os[j]? = some o→(Zbb os done)[done.length+j]? = some m→(∀ e ∈ o.after,Region.binds .any e=true→S e.on)→∀ i,m.testBit i=true→S i
 | [],_,_,_,_,_,_,h,_,_,_,_=>by cases h
 | o0 :: os,done,hc,hd,j,o,m,ho,hm,he,i,hi=>by
  have key:(∀ e ∈ o0.after,Region.binds .any e=true→S e.on)→∀ i,(ZWc done o0.after.toList 0).testBit i=true→S i:=λhe i hi=>by
   rcases ZBj hi with h | ⟨e,h1,h2,h3⟩
   ·simp at h
   ·have hS:=he e (by simpa using h1) h2
    rcases h3 with h3 | h3
    ·subst h3;exact hS
    ·cases hg:done[e.on]? with
     | none=>rw[List.getD_eq_getElem?_getD,hg]at h3;simp at h3
     | some x=>rw[List.getD_eq_getElem?_getD,hg]at h3;exact hd _ x hg hS i h3
  simp only[Zbb]at hm
  cases j with
  | zero =>
   cases ho
   rw[Nat.add_zero]at hm
   have:(Zbb os (done++[ZWc done o0.after.toList 0]))[done.length]? = some (ZWc done o0.after.toList 0):=ZGs (by simp)
   rw[this]at hm;cases hm
   exact key he i hi
  | succ j =>
   refine Zsh (os:=os) (done:=done++[ZWc done o0.after.toList 0]) (λj' o' ho' hS=>hc (j'+1) o' ho' (by rw[lA,List.length_singleton]at hS;rwa [← Nat.add_assoc,Nat.add_right_comm])) (λj' m' hm' hS=>?_) j o m ho (by rw[lA,List.length_singleton,Nat.add_right_comm];exact hm) he i hi
   rcases Nat.lt_or_ge j' done.length with h | h
   ·rw[List.getElem?_append_left h]at hm';exact hd j' m' hm' hS
   ·rw[List.getElem?_append_right h]at hm'
    cases hj:j'-done.length with
    | zero =>
     rw[hj]at hm';cases hm'
     refine key (hc 0 o0 rfl ?_)
     rwa [Nat.add_zero,show done.length=j' by omega]
    | succ k=>rw[hj]at hm';cases hm'
theorem ZCq:∀ {os:List Oper} {i0:Nat},ZVe i0 os=true→∀ i o,os[i]? = some o→∀ e ∈ o.after,Region.binds .any e=true→e.on<i0+i
 | [],_,_,_,_,h,_,_,_=>by cases h
 | o0 :: os,i0,h,i,o,ho,e,he,hb=>by
  simp only[ZVe]at h
  split at h
  ·rename_i h1
   cases i with
   | zero =>
    cases ho
    have:∀ {es:List Edge},ZZh i0 es=true→∀ e ∈ es,Region.binds .any e=true→e.on<i0:=by
     intro es
     induction es with
     | nil=>intro _ e h;cases h
     | cons x r ih =>
      intro h e he hb;simp only[ZZh]at h;split at h
      ·split at h
       ·rename_i hlt;rcases List.mem_cons.1 he with rfl | he
        ·exact lB hlt
        ·exact ih h e he hb
       ·cases h
      ·rename_i hx;rcases List.mem_cons.1 he with rfl | he
       ·rw[hb]at hx;cases hx
       ·exact ih h e he hb
    exact this h1 e (by simpa using he) hb
   | succ i=>have:=ZCq h i o ho e he hb;omega
  ·cases h
section
variable {P:Program} {K:Nat} {w0:Base} {v0:Zb} {σ:List (Nat×Value)} {ℓ:List Loc} {v:Zb} {a:Act} {w:World} {ops:Array Oper} {Q:Exit→Act→World→Prop} {rest:List Oper}
end
end Go.Eng
namespace Go.Eng
open Go.RowKit
section
variable {N:Nat} {G:V→Value→Prop} {w0:Base} {v0:Zb}
theorem F2_perm {R:En LV→List Loc→Prop} {l l2:Lo} (hp:l.Perm l2):∀ {E:List (List Loc)},F2 R l E→∃ E2,F2 R l2 E2∧E.flatten.Perm E2.flatten:=by
 induction hp with
 | nil=>intro E h;exact⟨E,h,List.Perm.refl _⟩
 | cons x _ ih =>
  intro E h
  cases E with
  | nil=>exact h.elim
  | cons es E =>
   obtain⟨E2,h1,h2⟩:=ih h.2;exact⟨es :: E2,⟨h.1,h1⟩,by simp only[List.flatten_cons];exact List.Perm.append_left _ h2⟩
 | swap x y l =>
  intro E h
  cases E with
  | nil=>exact h.elim
  | cons es E =>
   cases E with
   | nil=>exact h.2.elim
   | cons es2 E =>
    refine⟨es2 :: es :: E,⟨h.2.1,h.1,h.2.2⟩,?_⟩;simp only[List.flatten_cons];rw[← aAq,← aAq];exact List.Perm.append_right _ List.perm_append_comm
 | trans _ _ i1 i2 =>
  intro E h;obtain⟨E2,h1,h2⟩:=i1 h;obtain⟨E3,h3,h4⟩:=i2 h1;exact⟨E3,h3,h2.trans h4⟩
theorem ZCd {l:Lo} (hn:(l.map En.k).Nodup) {e:En LV} (h:e ∈ l):lkE l e.k=some e:=by
 induction l with
 | nil=>cases h
 | cons p r ih =>
  simp only[List.map_cons,List.nodup_cons]at hn;rw[ZL];rcases List.mem_cons.1 h with rfl | h
  ·rw[iP rfl]
  ·rw[iN λe2=>hn.1 (List.mem_map.2 ⟨e,h,Eq.symm e2⟩)];exact ih hn.2 h
theorem ZMs {l:Lo} (hn:(l.map En.k).Nodup):l.Nodup:=by
 induction l with
 | nil=>exact List.nodup_nil
 | cons p r ih =>
  simp only[List.map_cons,List.nodup_cons]at hn;exact List.nodup_cons.2 ⟨λh=>hn.1 (List.mem_map.2 ⟨p,h,rfl⟩),ih hn.2⟩
theorem ZEz {l l2:Lo} (hn:(l.map En.k).Nodup) (hn2:(l2.map En.k).Nodup) (h:∀ u,lkE l u=lkE l2 u):l.Perm l2:=by
 refine (List.perm_ext_iff_of_nodup (ZMs hn) (ZMs hn2)).2 λe=>⟨λhe=>?_,λhe=>?_⟩
 ·have:=ZCd hn he;rw[h]at this;exact (Zo this).1
 ·have:=ZCd hn2 he;rw[← h]at this;exact (Zo this).1
theorem RelX.look {U X:Nat→Prop} {f f2:Fr} {l l2:Lo} {a:Act} {w:World} {γ:Nat→Gh} {v:Zb} {ℓ:List Loc} (h:RelX N G w0 v0 U X f l a w γ v ℓ) (hn2:(l2.map En.k).Nodup) (hf:∀ t,lkE f2 t=lkE f t) (hl:∀ u,lkE l2 u=lkE l u):RelX N G w0 v0 U X f2 l2 a w γ v ℓ:=by
 obtain⟨E,hE,hp⟩:=h.lr;have hle:Le U v γ l v γ l2:=by
  have:=Le.refl (U:=U) hE (Zb.le_refl v);exact⟨Zb.le_refl _,λu e' hk he=>this.l u e' hk (by rw[← hl];exact he)⟩
 have hpl:=ZEz h.nd hn2 λu=>(hl u).symm;obtain⟨E2,h1,h2⟩:=F2_perm hpl hE;refine⟨h.st,λt e he=>?_,⟨E2,h1.imp λe he es hr=>?_,hp.trans h2⟩,hn2,λt e he=>h.uf t e ((hf t) ▸ he),λe he=>h.ul e (hpl.mem_iff.2 he),λx y hg=>⟨Zgb hle (h.gh x y hg).2 (h.gh x y hg).1,(h.gh x y hg).2⟩⟩
 ·have he':=(hf t) ▸ he;exact Zgb hle (h.uf t e he').1 (h.fr t e he')
 ·exact ZDh hle (h.ul e (hpl.mem_iff.2 he)).2.2 rfl hr
end
end Go.Eng
