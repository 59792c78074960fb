/- Lemmas towards the statement: the engine of the walks, the functions' models, laws and walks, part 6. Conditions: as each states. -/
import Derived.Test.YteieminegehfdaaGreatProg
import Derived.Test.YteieminegehfdaaGreatDeE
set_option linter.all false
set_option maxRecDepth 100000
namespace Go.Eng
open Go.RowKit
section
variable {N:Nat} {G:V→Value→Prop} {w0:Base} {v0:Zb}
theorem Rel.draw {U:Nat→Prop} {f:Fr} {l:Lo} {a:Act} {w:World} (h:Rel N G w0 v0 U f l a w):Rel N G w0 v0 U f l a w.drew:=by
 obtain⟨γ,v,ℓ,h⟩:=h;exact⟨γ,v,ℓ,h.st.drew,h.fr,h.lr,h.nd,h.uf,h.ul,h.gh⟩
def sel (listed:Array Bool):Nat→Bool:=λj=>listed.getD j false
def UE (n:Nat) (listed:Array Bool):Nat→Prop:=λk=>k<n ∨ ∃ j,listed.getD j false=true∧k=n+j
structure Inv (N:Nat) (G:V→Value→Prop) (w0:Base) (v0:Zb) (ops:Array Oper) (Ts:List (List Et)) (f:Fr) (l:Lo) (n:Nat) (listed:Array Bool) (a:Act) (w:World):Prop where
 size:listed.size=ops.size
 closed:∀ (j:Nat) (o:Oper),ops[j]? = some o→listed.getD j false=true→∀ e ∈ o.after,Region.binds .any e=true→listed.getD e.on false=true
 rel:∃ f1 l1,Rel N G w0 v0 (UE n listed) f1 l1 a w∧(∀ t,lkE f1 t=ZIa Zjb (sel listed) Ts 0 (lkE f t) t)∧∀ t,lkE l1 t=ZIa ZFa (sel listed) Ts 0 (lkE l t) t
theorem Zrl {ops:Array Oper} (hb:ZVe 0 ops.toList=true) {listed:Array Bool} (hs:listed.size=ops.size):∀ (n j:Nat),j<n→j<ops.size→listed.getD j true=false→Region.ready .any ops listed≠[]
 | 0,j,h,_,_=>by omega
 | n+1,j,h,hj,hl=>by
  intro h0
  by_cases hp:∃ e ∈ (ops[j]).after,Region.binds .any e=true∧listed.getD e.on false=false
  ·obtain⟨e,he,hbb,hn⟩:=hp
   have hlt:=ZCq hb j ops[j] (by simp[hj]) e he hbb
   refine Zrl hb hs n e.on (by omega) (by omega) ?_ h0
   rw[Zbc (by omega)];exact hn
  ·have:j ∈ Region.ready .any ops listed:=mem_ready.2 ⟨hl,ops[j],by simp[hj],λe he hb=>by
    cases hx:listed.getD e.on false with
    | true=>rfl
    | false=>exact absurd ⟨e,he,hb,hx⟩ hp⟩
   rw[h0]at this;cases this
theorem Zmz {C:Cf} (hC:CfOK C) {ops:Array Oper} {Ts:List (List Et)} {f:Fr} {l:Lo} {n:Nat} {Q:Exit→Act→World→Prop} (hb:ZVe 0 ops.toList=true) (hds:∀ o ∈ ops.toList,∀ k,o.dst=some k→k<N) (hl:Ts.length=ops.toList.length)
  (hn:(l.map En.k).Nodup) (hok:okTs Ts f l) (htr:∀ i o τ,ops.toList[i]? = some o→Ts[i]? = some τ→Tr (n+i) (gop C ops.toList (n+i) o) τ ()) (hch:Zie [] (Zbb ops.toList []) (Ts.map λτ=>fpT τ Fp.no)=true)
  (hQ:∀ a' w',Rel N G w0 v0 (· < n+ops.toList.length) (Z1e Ts f) (Zbe Ts l) a' w'→Q .normal a' w'):∀ (fuel:Nat) (listed:Array Bool) (a:Act) (w:World),left listed=fuel→Inv N G w0 v0 ops Ts f l n listed a w→wpAny C.P .any ops Q fuel listed a w:=by
 have ord:∀ (i j:Nat) (τ σ:List Et),i<j→Ts[i]? = some τ→Ts[j]? = some σ→∃ m,(Zbb ops.toList [])[j]? = some m∧(m.testBit i=true∨Apart τ σ):=by
  intro i j τ σ hij hτ hσ;obtain⟨m,h1,h2⟩:=ZSm hch j (fpT σ Fp.no) (by simp[hσ]);refine⟨m,h1,(h2 i (fpT τ Fp.no) (by simp[hτ]) (by simpa using hij)).imp_right Zeu⟩
 have opAt:∀ (j:Nat) (σ:List Et),Ts[j]? = some σ→∃ o,ops[j]? = some o:=λj σ h=>by
  have:=(List.getElem?_eq_some_iff.1 h).1;rw[hl]at this;exact⟨ops[j]'(by simpa using this),by simp⟩
 intro fuel
 induction fuel with
 | zero =>
  intro listed a w hfu hI;have hall:∀ j,listed.getD j true=true:=λj=>Zom hfu;refine⟨?_,?_⟩
  ·cases hx:Region.ready .any ops listed with
   | nil=>rfl
   | cons p r =>
    obtain⟨h1,_⟩:=mem_ready.1 (show p ∈ Region.ready .any ops listed by rw[hx];simp);rw[hall p]at h1;cases h1
  ·obtain⟨f1,l1,⟨γ,v,ℓ,h1⟩,h2,h3⟩:=hI.rel;obtain⟨k1,k2,k3⟩:=ZVm (b:=0) hok hn;have hsel:∀ (j:Nat) (σ:List Et),Ts[j]? = some σ→sel listed (0+j)=true:=λj σ h=>by
    obtain⟨o,ho⟩:=opAt j σ h;rw[Nat.zero_add];show listed.getD j false=true;rw[← Zbc (by rw[hI.size];exact ZSe ho)];exact hall j
   refine hQ a w ⟨γ,v,ℓ,(h1.look k1 (λt=>?_) λt=>?_).mono (λk hk=>?_) λk hk=>?_⟩
   ·rw[k2 t,h2 t];exact (Zme λj σ hj _=>(hsel j σ hj)).symm
   ·rw[k3 t,h3 t];exact (Zme λj σ hj _=>(hsel j σ hj)).symm
   all_goals
    rcases hk with hk | ⟨j,hj,rfl⟩
    ·omega
    ·have:j<listed.size:=by
      rcases Nat.lt_or_ge j listed.size with h | h
      ·exact h
      ·simp[Array.getElem?_eq_none h]at hj
     rw[hI.size]at this;simp;omega
 | succ fuel ih =>
  intro listed a w hfu hI;refine⟨λh0=>?_,λi hi=>?_⟩
  ·obtain⟨j,hj,hj2⟩:=Zpm (listed:=listed) (by omega);exact absurd h0 (Zrl hb hI.size (j+1) j (by omega) (by rw[← hI.size];exact hj) hj2)
  ·obtain⟨hun,o,ho,hall⟩:=mem_ready.1 hi;have hil:i<listed.size:=by rw[hI.size];exact ZSe ho
   have hunf:listed.getD i false=false:=by rw[← Zbc hil];exact hun
   have ho':ops.toList[i]? = some o:=by rw[Array.getElem?_toList];exact ho
   have hlt:i<Ts.length:=by rw[hl];exact (List.getElem?_eq_some_iff.1 ho').1
   have hτ:Ts[i]? = some Ts[i]:=List.getElem?_eq_getElem hlt;generalize hg:Ts[i]=τ at hτ;obtain⟨fi,li,b1,b2,b3,b4⟩:=Zim (b:=0) hok hn hτ;obtain⟨f1,l1,⟨γ,v,ℓ,h1⟩,h2,h3⟩:=hI.rel;have befo:∀ (j:Nat) (σ:List Et),j<i→Ts[j]? = some σ→listed.getD j false=true∨Apart σ τ:=by
    intro j σ hj hσ;obtain⟨m,q1,q2⟩:=ord j i σ τ hj hσ hτ;refine q2.imp_left λhbit=>?_;refine Zsh (S:=λk=>listed.getD k false=true) (done:=[]) (λj' o' ho' hS=>hI.closed j' o' (by rw[← Array.getElem?_toList];exact ho') (by simpa using hS)) (λj' m' hm'=>by simp at hm') i o m ho' (by simpa using q1) hall j hbit
   have afte:∀ (j:Nat) (σ:List Et),i<j→Ts[j]? = some σ→listed.getD j false=false∨Apart τ σ:=by
    intro j σ hj hσ;obtain⟨m,q1,q2⟩:=ord i j τ σ hj hτ hσ;refine q2.imp_left λhbit=>?_
    cases hx:listed.getD j false with
    | false=>rfl
    | true =>
     obtain⟨oj,hoj⟩:=opAt j σ hσ;have:=Zsh (S:=λk=>listed.getD k false=true) (done:=[]) (λj' o' ho' hS=>hI.closed j' o' (by rw[← Array.getElem?_toList];exact ho') (by simpa using hS)) (λj' m' hm'=>by simp at hm') j oj m (by rw[Array.getElem?_toList];exact hoj) (by simpa using q1) (hI.closed j oj hoj hx) i hbit;rw[hunf]at this;cases this
   have same:∀ {β:Type} (eff:List Et→Nat→Option β) (P:Nat→Prop) (acc:β) (t:Nat),P t→(∀ σ,Apart σ τ→P t→eff σ t≠none→False)→(∀ σ,Apart τ σ→P t→eff σ t≠none→False)→ZIa eff (λj=>decide (j<0+i)) Ts 0 acc t=ZIa eff (sel listed) Ts 0 acc t:=by
    intro β eff P acc t hP hA hB;refine Zme λj σ hj hne=>?_;simp only[Nat.zero_add];rcases Nat.lt_trichotomy j i with h | h | h
    ·rcases befo j σ h hj with q | q
     ·rw[dTq h];exact q.symm
     ·exact (hA σ q hP hne).elim
    ·subst h;rw[dFq (Nat.lt_irrefl _)];exact hunf.symm
    ·rcases afte j σ h hj with q | q
     ·rw[dFq (by omega)];exact q.symm
     ·exact (hB σ q hP hne).elim
   have okτ:okT τ f1 l1:=by
    refine ZBe b2 h1.nd b1 (λt ht=>?_) λt ht=>?_
    ·rw[b3 t,h2 t];exact same Zjb (rdS τ) _ t ht (λσ q hp hne=>q.s1 t hne hp) λσ q hp hne=>q.s3 t hp hne
    ·rw[b4 t,h3 t];exact same ZFa (rdL τ) _ t ht (λσ q hp hne=>q.l1 t hne hp) λσ q hp hne=>q.l3 t hp hne
   have hruns:=ZXn (htr i o τ ho' hτ) okτ;have hnU:¬ UE n listed (n+i):=by
    rintro (h | ⟨j,hj,e⟩)
    ·omega
    ·have:i=j:=by omega
     subst this;rw[hunf]at hj;cases hj
   have selS:∀ j,sel (listed.setIfInBounds i true) j=if i=j then true else sel listed j:=λj=>by
    by_cases h:i=j
    ·subst h;rw[iP rfl];exact ZWb hil
    ·rw[iN h];exact Z7a h
   have hUE:∀ k,UE n listed k→UE n (listed.setIfInBounds i true) k:=by
    rintro k (h | ⟨j,hj,e⟩)
    ·exact .inl h
    ·refine .inr ⟨j,?_,e⟩;have:=selS j;unfold sel at this;rw[this,hj];split <;> rfl
   have hXi:UE n (listed.setIfInBounds i true) (n+i):=.inr ⟨i,ZWb hil,rfl⟩;have hgg:=ZTo (X:=UE n (listed.setIfInBounds i true)) hC (h1.mono (λ_ h=>h) hUE) hUE hXi hnU hds (hds o (mG ho')) hruns;have upd:∀ {β:Type} (eff:List Et→Nat→Option β) (acc:β) (t:Nat),(∀ σ,Apart τ σ→eff τ t≠none→eff σ t≠none→False)→ZIa eff (sel (listed.setIfInBounds i true)) Ts 0 acc t=(eff τ t).getD (ZIa eff (sel listed) Ts 0 acc t):=by
    intro β eff acc t hA
    cases he:eff τ t with
    | none =>
     refine Zme λj σ hj hne=>?_;rw[Nat.zero_add,selS j,iN];intro e;subst e;rw[hτ]at hj;cases hj;exact hne he
    | some z =>
     refine Ztn (k:=i) hτ (by rw[Nat.zero_add,selS i,iP rfl]) he λj σ hij hσ hs=>?_;rw[Nat.zero_add,selS j,iN (by omega)]at hs;rcases afte j σ hij hσ with q | q
     ·rw[show sel listed j=false from q]at hs;cases hs
     ·cases hx:eff σ t with
      | none=>rfl
      | some y=>exact (hA σ q (by rw[he];exact λe=>by cases e) (by rw[hx];exact λe=>by cases e)).elim
   have nxt:∀ f' l' a' w',((()=()∧f'=Zic τ f1∧l'=Zhc τ l1)∧True)→Rel N G w0 v0 (UE n (listed.setIfInBounds i true)) f' l' a' w'→wpAny C.P .any ops Q fuel (listed.setIfInBounds i true) a' w':=by
    rintro f' l' a' w' ⟨⟨_,rfl,rfl⟩,_⟩ hr;refine ih _ _ _ (by have:=Zpj hun;omega) ⟨by simp[hI.size],λj oj hj hlj e he hbb=>?_,_,_,hr,λt=>?_,λt=>?_⟩
    ·have hj2:=selS e.on;have hj3:=selS j;unfold sel at hj2 hj3;rw[hj2];split
     ·rfl
     ·rw[hj3]at hlj;split at hlj
      ·rename_i hij;subst hij;rw[ho]at hj;cases hj;exact hall e he hbb
      ·exact hI.closed j oj hj hlj e he hbb
    ·rw[Z2c okτ,h2 t];exact (upd Zjb _ t λσ q hp hne=>q.s2 t hp hne).symm
    ·rw[(ZVc h1.nd okτ).2 t,h3 t];exact (upd ZFa _ t λσ q hp hne=>q.l2 t hp hne).symm
   unfold wpOp;rw[ho];rcases hgg with ⟨hw,hg⟩ | ⟨hw,f',l',q1,q2⟩
   ·simp only[hw,if_true];exact .inl (Zgl rfl hg λx w' ⟨f',l',q1,q2⟩=>nxt f' l' _ w' ⟨⟨rfl,q1.2⟩,trivial⟩ q2)
   ·simp only[hw];exact nxt f' l' _ w ⟨⟨rfl,q1.2⟩,trivial⟩ q2
end
end Go.Eng
namespace Go.Eng
open Go.RowKit
section
variable {N:Nat} {G:V→Value→Prop} {w0:Base} {v0:Zb}
theorem Z2p:∀ {os:List Oper} {done:List Nat},(Zbb os done).length=done.length+os.length
 | [],done=>by simp[Zbb]
 | o :: os,done=>by
  simp only[Zbb]
  rw[Z2p]
  simp;omega
theorem Z1q {m:Nat}:∀ {k:Nat},allB m k=true→∀ i,i<k→m.testBit i=true
 | 0,_,_,h=>by omega
 | k+1,h,i,hi=>by
  simp only[allB]at h
  split at h
  ·rename_i hb
   rcases Nat.lt_or_ge i k with h1 | h1
   ·exact Z1q h i h1
   ·rw[show i=k by omega];exact hb
  ·cases h
theorem Zuw {ops:List Oper} {o:Oper} (h:ZAk ops=some o):ops.dropLast++[o]=ops∧o.guard=none∧∀ i,i<ops.dropLast.length→(ZWc (Zbb ops.dropLast []) o.after.toList 0).testBit i=true:=by
 unfold ZAk at h;split at h
 ·cases h
 ·rename_i q hq;split at h
  ·cases h
  ·rename_i hc;split at h
   ·rename_i hb
    cases h
    refine⟨?_,?_,Z1q hb⟩
    ·rcases List.eq_nil_or_concat ops with rfl | ⟨L,b,rfl⟩
     ·cases hq
     ·simp at hq;subst hq;simp
    ·unfold ZXr at hc;split at hc
     ·rename_i hg;exact hg
     ·cases hc
   ·cases h
theorem Z3m {l:Array Bool} {i j:Nat} {b:Bool} (h:¬ j=i):(l.setIfInBounds i true).getD j b=l.getD j b:=by
 simp[Array.getD_eq_getD_getElem?,Array.getElem?_setIfInBounds_ne (Ne.symm h)]
theorem Zoy {C:Cf} (hC:CfOK C) {ops:Array Oper} {ol:Oper} {Ts:List (List Et)} {f:Fr} {l:Lo} {n:Nat} {Q:Exit→Act→World→Prop} (he:ops.toList.dropLast++[ol]=ops.toList) (hg:ol.guard=none) (hanc:∀ i,i<ops.toList.dropLast.length→(ZWc (Zbb ops.toList.dropLast []) ol.after.toList 0).testBit i=true)
  (hb:ZVe 0 ops.toList=true) (hds:∀ o ∈ ops.toList,∀ k,o.dst=some k→k<N) (hl:Ts.length=ops.toList.dropLast.length)
  (hn:(l.map En.k).Nodup) (hok:okTs Ts f l) (htr:∀ i o τ,ops.toList.dropLast[i]? = some o→Ts[i]? = some τ→Tr (n+i) (gop C ops.toList (n+i) o) τ ()) (hch:Zie [] (Zbb ops.toList.dropLast []) (Ts.map λτ=>fpT τ Fp.no)=true)
  (hQ:∀ a' w',Rel N G w0 v0 (· < n+ops.toList.dropLast.length) (Z1e Ts f) (Zbe Ts l) a' w'→wpList C.P ops Q [ol] a' w'):∀ (fuel:Nat) (listed:Array Bool) (a:Act) (w:World),left listed=fuel+1→listed.getD ops.toList.dropLast.length true=false→Inv N G w0 v0 ops Ts f l n listed a w→wpAny C.P .any ops Q (fuel+1) listed a w:=by
 have hsz:ops.size=ops.toList.dropLast.length+1:=by
  have:=congrArg List.length he;simp at this ⊢;omega
 have initAt:∀ {j:Nat} {o:Oper},ops.toList.dropLast[j]? = some o→ops[j]? = some o:=λ{j o} h=>by
  rw[← Array.getElem?_toList,← he,List.getElem?_append_left (List.getElem?_eq_some_iff.1 h).1];exact h
 have lastAt:ops[ops.toList.dropLast.length]? = some ol:=by
  rw[← Array.getElem?_toList]
  conv=>lhs;rw[← he]
  simp
 have ord:∀ (i j:Nat) (τ σ:List Et),i<j→Ts[i]? = some τ→Ts[j]? = some σ→∃ m,(Zbb ops.toList.dropLast [])[j]? = some m∧(m.testBit i=true∨Apart τ σ):=by
  intro i j τ σ hij hτ hσ;obtain⟨m,h1,h2⟩:=ZSm hch j (fpT σ Fp.no) (by simp[hσ]);refine⟨m,h1,(h2 i (fpT τ Fp.no) (by simp[hτ]) (by simpa using hij)).imp_right Zeu⟩
 have opAt:∀ (j:Nat) (σ:List Et),Ts[j]? = some σ→∃ o,ops.toList.dropLast[j]? = some o:=λj σ h=>by
  have:=(List.getElem?_eq_some_iff.1 h).1;rw[hl]at this;exact⟨_,List.getElem?_eq_getElem this⟩
 have hsub:∀ {listed:Array Bool} {a:Act} {w:World},Inv N G w0 v0 ops Ts f l n listed a w→∀ j o,ops.toList.dropLast[j]? = some o→listed.getD (([]:List Nat).length+j) false=true→∀ e ∈ o.after,Region.binds .any e=true→listed.getD e.on false=true:=λhI j o ho hS=>hI.closed j o (initAt ho) (by simpa using hS);intro fuel
 induction fuel with
 | zero =>
  intro listed a w hfu hlast hI;have hll:ops.toList.dropLast.length<listed.size:=by rw[hI.size];omega
  have h0:left (listed.setIfInBounds ops.toList.dropLast.length true)=0:=by have:=Zpj hlast;omega
  have hall':∀ j,(listed.setIfInBounds ops.toList.dropLast.length true).getD j true=true:=λj=>Zom h0;have hall:∀ j,j≠ops.toList.dropLast.length→j<listed.size→listed.getD j false=true:=λj hj hlt=>by
   have:=hall' j;rw[← Zbc hlt];rw[Z3m hj]at this;exact this
  refine⟨λh0=>?_,λi hi=>?_⟩
  ·exact absurd h0 (Zrl hb hI.size (ops.toList.dropLast.length+1) ops.toList.dropLast.length (by omega) (by omega) hlast)
  ·obtain⟨hun,o,ho,hbef⟩:=mem_ready.1 hi;have hil:i<listed.size:=by rw[hI.size];exact ZSe ho
   have hi2:i=ops.toList.dropLast.length:=by
    rcases Nat.decEq i ops.toList.dropLast.length with h | h
    ·have:=hall i h hil;rw[← Zbc hil,hun]at this;cases this
    ·exact h
   subst hi2;rw[lastAt]at ho
   cases ho
   obtain⟨f1,l1,⟨γ,v,ℓ,h1⟩,h2,h3⟩:=hI.rel;obtain⟨k1,k2,k3⟩:=ZVm (b:=0) hok hn;have hsel:∀ (j:Nat) (σ:List Et),Ts[j]? = some σ→sel listed (0+j)=true:=λj σ h=>by
    have hj:=(List.getElem?_eq_some_iff.1 h).1;rw[hl]at hj;rw[Nat.zero_add];exact hall j (by omega) (by omega)
   have hw:=hQ a w ⟨γ,v,ℓ,(h1.look k1 (λt=>by rw[k2 t,h2 t];exact (Zme λj σ hj _=>(hsel j σ hj).symm)) λt=>by rw[k3 t,h3 t];exact (Zme λj σ hj _=>(hsel j σ hj).symm)).mono (λk hk=>?_) λk hk=>?_⟩
   ·unfold wpOp;rw[lastAt];unfold wpList at hw;have hwt:Region.wanted ol (yielded ops a.tmps)=true:=Zjc hg;simp only[hwt,if_true]at hw ⊢;refine hw.imp_left (Oper.wp_mono λa' w' hq=>⟨?_,hq⟩)
    cases hx:Region.ready .any ops (listed.setIfInBounds ops.toList.dropLast.length true) with
    | nil=>rfl
    | cons p r =>
     obtain⟨h1,_⟩:=mem_ready.1 (show p ∈ Region.ready .any ops (listed.setIfInBounds ops.toList.dropLast.length true) by rw[hx];simp);rw[hall' p]at h1;cases h1
   all_goals
    rcases hk with hk | ⟨j,hj,rfl⟩
    ·omega
    ·have hlt:j<listed.size:=by
      rcases Nat.lt_or_ge j listed.size with h | h
      ·exact h
      ·simp[Array.getElem?_eq_none h]at hj
     have hne:j≠ops.toList.dropLast.length:=λe=>by
      rw[e,← Zbc hll,hlast]at hj;cases hj
     rw[hI.size]at hlt;show n+j<n+_;omega
 | succ fuel ih =>
  intro listed a w hfu hlast hI;refine⟨λh0=>?_,λi hi=>?_⟩
  ·exact absurd h0 (Zrl hb hI.size (ops.toList.dropLast.length+1) ops.toList.dropLast.length (by omega) (by omega) hlast)
  ·obtain⟨hun,o,ho,hall⟩:=mem_ready.1 hi;have hil:i<listed.size:=by rw[hI.size];exact ZSe ho
   have hunf:listed.getD i false=false:=by rw[← Zbc hil];exact hun
   have hne:i≠ops.toList.dropLast.length:=by
    intro e;subst e;rw[lastAt]at ho
    cases ho
    have hbits:∀ j,j<ops.toList.dropLast.length→listed.getD j false=true:=λj hj=>by
     rcases ZBj (hanc j hj) with h | ⟨e,h1,h2,h3⟩
     ·simp at h
     ·have hS:=hall e (by simpa using h1) h2;rcases h3 with h3 | h3
      ·rw[h3];exact hS
      ·cases hg:(Zbb ops.toList.dropLast [])[e.on]? with
       | none=>rw[List.getD_eq_getElem?_getD,hg]at h3;simp at h3
       | some m =>
        rw[List.getD_eq_getElem?_getD,hg]at h3;have hlt:e.on<ops.toList.dropLast.length:=by
         have:=(List.getElem?_eq_some_iff.1 hg).1;rw[Z2p]at this;simpa using this
        have hoe:=List.getElem?_eq_getElem hlt;exact Zsh (S:=λk=>listed.getD k false=true) (done:=[]) (hsub hI) (λj' m' hm'=>by simp at hm') e.on _ m hoe (by simpa using hg) (hI.closed e.on _ (initAt hoe) hS) j h3
    have h0:left (listed.setIfInBounds ops.toList.dropLast.length true)=fuel+1:=by have:=Zpj hlast;omega
    obtain⟨j,hj,hj2⟩:=Zpm (listed:=listed.setIfInBounds ops.toList.dropLast.length true) (by omega);have hjs:j<listed.size:=by simpa using hj
    rcases Nat.decEq j ops.toList.dropLast.length with h | h
    ·have h1:=hbits j (by rw[hI.size]at hjs;omega);rw[← Zbc hjs]at h1;rw[Z3m h,h1]at hj2;cases hj2
    ·subst h;have:(listed.setIfInBounds ops.toList.dropLast.length true).getD ops.toList.dropLast.length true=true:=by simp[hjs]
     rw[this]at hj2;cases hj2
   have hlt0:i<ops.toList.dropLast.length:=by
    rw[hI.size]at hil;omega
   have ho':ops.toList.dropLast[i]? = some o:=by
    have:=List.getElem?_eq_getElem hlt0;rw[this];have h2:=initAt this;rw[ho]at h2;exact h2.symm
   have hlt:i<Ts.length:=by rw[hl];exact (List.getElem?_eq_some_iff.1 ho').1
   have hτ:Ts[i]? = some Ts[i]:=List.getElem?_eq_getElem hlt;generalize hg:Ts[i]=τ at hτ;obtain⟨fi,li,b1,b2,b3,b4⟩:=Zim (b:=0) hok hn hτ;obtain⟨f1,l1,⟨γ,v,ℓ,h1⟩,h2,h3⟩:=hI.rel;have befo:∀ (j:Nat) (σ:List Et),j<i→Ts[j]? = some σ→listed.getD j false=true∨Apart σ τ:=by
    intro j σ hj hσ;obtain⟨m,q1,q2⟩:=ord j i σ τ hj hσ hτ;refine q2.imp_left λhbit=>?_;refine Zsh (S:=λk=>listed.getD k false=true) (done:=[]) (hsub hI) (λj' m' hm'=>by simp at hm') i o m ho' (by simpa using q1) hall j hbit
   have afte:∀ (j:Nat) (σ:List Et),i<j→Ts[j]? = some σ→listed.getD j false=false∨Apart τ σ:=by
    intro j σ hj hσ;obtain⟨m,q1,q2⟩:=ord i j τ σ hj hτ hσ;refine q2.imp_left λhbit=>?_
    cases hx:listed.getD j false with
    | false=>rfl
    | true =>
     obtain⟨oj,hoj⟩:=opAt j σ hσ;have:=Zsh (S:=λk=>listed.getD k false=true) (done:=[]) (hsub hI) (λj' m' hm'=>by simp at hm') j oj m hoj (by simpa using q1) (hI.closed j oj (initAt hoj) hx) i hbit;rw[hunf]at this;cases this
   have same:∀ {β:Type} (eff:List Et→Nat→Option β) (P:Nat→Prop) (acc:β) (t:Nat),P t→(∀ σ,Apart σ τ→P t→eff σ t≠none→False)→(∀ σ,Apart τ σ→P t→eff σ t≠none→False)→ZIa eff (λj=>decide (j<0+i)) Ts 0 acc t=ZIa eff (sel listed) Ts 0 acc t:=by
    intro β eff P acc t hP hA hB;refine Zme λj σ hj hne=>?_;simp only[Nat.zero_add];rcases Nat.lt_trichotomy j i with h | h | h
    ·rcases befo j σ h hj with q | q
     ·rw[dTq h];exact q.symm
     ·exact (hA σ q hP hne).elim
    ·subst h;rw[dFq (Nat.lt_irrefl _)];exact hunf.symm
    ·rcases afte j σ h hj with q | q
     ·rw[dFq (by omega)];exact q.symm
     ·exact (hB σ q hP hne).elim
   have okτ:okT τ f1 l1:=by
    refine ZBe b2 h1.nd b1 (λt ht=>?_) λt ht=>?_
    ·rw[b3 t,h2 t];exact same Zjb (rdS τ) _ t ht (λσ q hp hne=>q.s1 t hne hp) λσ q hp hne=>q.s3 t hp hne
    ·rw[b4 t,h3 t];exact same ZFa (rdL τ) _ t ht (λσ q hp hne=>q.l1 t hne hp) λσ q hp hne=>q.l3 t hp hne
   have hruns:=ZXn (htr i o τ ho' hτ) okτ;have hnU:¬ UE n listed (n+i):=by
    rintro (h | ⟨j,hj,e⟩)
    ·omega
    ·have:i=j:=by omega
     subst this;rw[hunf]at hj;cases hj
   have selS:∀ j,sel (listed.setIfInBounds i true) j=if i=j then true else sel listed j:=λj=>by
    by_cases h:i=j
    ·subst h;rw[iP rfl];exact ZWb hil
    ·rw[iN h];exact Z7a h
   have hUE:∀ k,UE n listed k→UE n (listed.setIfInBounds i true) k:=by
    rintro k (h | ⟨j,hj,e⟩)
    ·exact .inl h
    ·refine .inr ⟨j,?_,e⟩;have:=selS j;unfold sel at this;rw[this,hj];split <;> rfl
   have hXi:UE n (listed.setIfInBounds i true) (n+i):=.inr ⟨i,ZWb hil,rfl⟩;have hgg:=ZTo (X:=UE n (listed.setIfInBounds i true)) hC (h1.mono (λ_ h=>h) hUE) hUE hXi hnU hds (hds o (by rw[← he];exact List.mem_append_left _ (mG ho'))) hruns;have upd:∀ {β:Type} (eff:List Et→Nat→Option β) (acc:β) (t:Nat),(∀ σ,Apart τ σ→eff τ t≠none→eff σ t≠none→False)→ZIa eff (sel (listed.setIfInBounds i true)) Ts 0 acc t=(eff τ t).getD (ZIa eff (sel listed) Ts 0 acc t):=by
    intro β eff acc t hA
    cases he:eff τ t with
    | none =>
     refine Zme λj σ hj hne=>?_;rw[Nat.zero_add,selS j,iN];intro e;subst e;rw[hτ]at hj;cases hj;exact hne he
    | some z =>
     refine Ztn (k:=i) hτ (by rw[Nat.zero_add,selS i,iP rfl]) he λj σ hij hσ hs=>?_;rw[Nat.zero_add,selS j,iN (by omega)]at hs;rcases afte j σ hij hσ with q | q
     ·rw[show sel listed j=false from q]at hs;cases hs
     ·cases hx:eff σ t with
      | none=>rfl
      | some y=>exact (hA σ q (by rw[he];exact λe=>by cases e) (by rw[hx];exact λe=>by cases e)).elim
   have nxt:∀ f' l' a' w',((()=()∧f'=Zic τ f1∧l'=Zhc τ l1)∧True)→Rel N G w0 v0 (UE n (listed.setIfInBounds i true)) f' l' a' w'→wpAny C.P .any ops Q (fuel+1) (listed.setIfInBounds i true) a' w':=by
    rintro f' l' a' w' ⟨⟨_,rfl,rfl⟩,_⟩ hr;refine ih _ _ _ (by have:=Zpj hun;omega) (by
     rw[Z3m (Ne.symm hne)];exact hlast) ⟨by simp[hI.size],λj oj hj hlj e he hbb=>?_,_,_,hr,λt=>?_,λt=>?_⟩
    ·have hj2:=selS e.on;have hj3:=selS j;unfold sel at hj2 hj3;rw[hj2];split
     ·rfl
     ·rw[hj3]at hlj;split at hlj
      ·rename_i hij;subst hij;rw[ho]at hj;cases hj;exact hall e he hbb
      ·exact hI.closed j oj hj hlj e he hbb
    ·rw[Z2c okτ,h2 t];exact (upd Zjb _ t λσ q hp hne=>q.s2 t hp hne).symm
    ·rw[(ZVc h1.nd okτ).2 t,h3 t];exact (upd ZFa _ t λσ q hp hne=>q.l2 t hp hne).symm
   unfold wpOp;rw[ho];rcases hgg with ⟨hw,hg⟩ | ⟨hw,f',l',q1,q2⟩
   ·simp only[hw,if_true];exact .inl (Zgl rfl hg λx w' ⟨f',l',q1,q2⟩=>nxt f' l' _ w' ⟨⟨rfl,q1.2⟩,trivial⟩ q2)
   ·simp only[hw];exact nxt f' l' _ w ⟨⟨rfl,q1.2⟩,trivial⟩ q2
end
end Go.Eng
namespace Go.Eng
open Go.RowKit
def Pin (ks:List Nat) (pv:Nat→Value) (a:Act):Prop:=∀ t,ZDa ks t=true→a.tmps.getD t undef=pv t
def Pn (ks:List Nat) (pv:Nat→Value) (Q:Exit→Act→World→Prop):Exit→Act→World→Prop:=λe a w=>(e ≠ .outgrown→Pin ks pv a)→Q e a w
theorem Pin.nil {pv:Nat→Value} {a:Act}:Pin [] pv a:=λ_ h=>by cases h
theorem Pin.put {ks:List Nat} {pv:Nat→Value} {a:Act} (h:Pin ks pv a) {o:Oper} (hd:∀ k,o.dst=some k→ZDa ks k=false) (y:Value):Pin ks pv (a.put o.dst y):=λt ht=>by
 cases hk:o.dst with
 | none=>exact h t ht
 | some d =>
  have hne:¬ d=t:=λe=>by subst e;rw[hd d hk]at ht;cases ht
  have:(a.put (some d) y).tmps.getD t undef=a.tmps.getD t undef:=by simp[Act.put,Array.getElem?_setIfInBounds_ne hne]
  rw[this];exact h t ht
theorem Pin.defer {ks:List Nat} {pv:Nat→Value} {a:Act} (h:Pin ks pv a) (d:Deferred):Pin ks pv { a with defers:=d :: a.defers }:=h
theorem Z5s {P:Program} {ks:List Nat} {pv:Nat→Value} {Q:Exit→Act→World→Prop} {o:Oper} {a:Act} {K K':Act→World→Prop} (hp:Pin ks pv a) (hd:∀ k,o.dst=some k→ZDa ks k=false) (hK:∀ a' w',Pin ks pv a'→K a' w'→K' a' w') {r:Result Go.Next} (h:o.upon P a K (Pn ks pv Q) r):o.upon P a K' Q r:=by
 cases r with
 | ok n w' =>
  cases n <;> simp only[Oper.upon]at h ⊢
  case value v=>exact hK _ _ (hp.put hd v) h
  case skip=>exact hK _ _ (hp.put hd _) h
  case defer d=>exact hK _ _ ((hp.defer d).put hd _) h
  case enter f args =>
   refine Calls.mono h λe w'' he=>?_
   cases e with
   | returned v=>exact hK _ _ (hp.put hd v) he
   | panicked c=>exact he λ_=>hp
   | outgrown=>obtain⟨a1,w1,h1⟩:=he;exact⟨a1,w1,h1 λe=>absurd rfl e⟩
  case row row args=>exact Rows.mono h λv w'' he=>hK _ _ (hp.put hd v) he
  all_goals exact h
 | halt x w' =>
  cases x <;> simp only[Oper.upon]at h ⊢
  case panic v=>exact h λ_=>hp
  all_goals exact h
theorem Zfv {ks:List Nat} {pv:Nat→Value} {Q:Exit→Act→World→Prop} (h:LetsOut (Pn ks pv Q)):LetsOut Q:=by
 obtain⟨a1,w1,h1⟩:=h;exact⟨a1,w1,h1 λe=>absurd rfl e⟩
theorem Zgv {P:Program} {ks:List Nat} {pv:Nat→Value} {Q:Exit→Act→World→Prop} {ops:Array Oper}:∀ {os:List Oper} {a:Act} {w:World},(∀ o ∈ os,∀ k,o.dst=some k→ZDa ks k=false)→Pin ks pv a→wpList P ops (Pn ks pv Q) os a w→wpList P ops Q os a w
 | [],a,w,_,hp,h=>h λ_=>hp
 | o :: os,a,w,hd,hp,h=>by
  have hd1:=hd o (by simp)
  have ih:∀ a' w',Pin ks pv a'→wpList P ops (Pn ks pv Q) os a' w'→wpList P ops Q os a' w':=λa' w' hp' h'=>Zgv (λo ho=>hd o (by simp[ho])) hp' h'
  unfold wpList at h ⊢
  split
  ·rename_i hw
   simp only[hw,if_true]at h
   rcases h with h | ⟨h1,h2⟩
   ·exact .inl (Z5s hp hd1 ih h)
   ·exact .inr ⟨h1,Zfv h2⟩
  ·rename_i hw
   simp only[hw]at h
   exact ih _ _ (hp.put hd1 _) h
theorem ZYh {P:Program} {ks:List Nat} {pv:Nat→Value} {Q:Exit→Act→World→Prop} {ops:Array Oper} (hd:∀ o ∈ ops.toList,∀ k,o.dst=some k→ZDa ks k=false):∀ {fuel:Nat} {listed:Array Bool} {a:Act} {w:World},Pin ks pv a→wpAny P .any ops (Pn ks pv Q) fuel listed a w→wpAny P .any ops Q fuel listed a w
 | 0,listed,a,w,hp,h=>⟨h.1,h.2 λ_=>hp⟩
 | fuel+1,listed,a,w,hp,h=>by
  refine⟨λh0=>h.1 h0 λ_=>hp,λi hi=>?_⟩
  have h:=h.2 i hi
  unfold wpOp at h ⊢
  split
  ·rename_i ho
   simp only[ho]at h
   exact ZYh hd hp h
  ·rename_i o ho
   simp only[ho]at h
   have hd1:=hd o (by rw[← Array.getElem?_toList]at ho;exact mG ho)
   split
   ·rename_i hw
    simp only[hw,if_true]at h
    rcases h with h | ⟨h1,h2⟩
    ·exact .inl (Z5s hp hd1 (λa' w' hp' h'=>ZYh hd hp' h') h)
    ·exact .inr ⟨h1,Zfv h2⟩
   ·rename_i hw
    simp only[hw]at h
    exact ZYh hd (hp.put hd1 _) h
section
variable {N:Nat} {G:V→Value→Prop} {w0:Base} {v0:Zb}
def ZOe (N:Nat) (G:V→Value→Prop) (w0:Base) (v0:Zb) (n:Nat) (f:Fr) (l:Lo) (p:Fr→Lo→Nat→Prop) (S:Act→World→Prop):Prop :=
 ∀ f' l' n' a' w',p f' l' n'→n≤n'→Old n f l f' l'→Rel N G w0 v0 (· < n') f' l' a' w'→S a' w'
theorem ZOe.step {n n1:Nat} {f f1:Fr} {l l1:Lo} {p:Fr→Lo→Nat→Prop} {S:Act→World→Prop} (h:ZOe N G w0 v0 n f l p S) (hn:n≤n1) (ho:Old n f l f1 l1):ZOe N G w0 v0 n1 f1 l1 p S :=
 λf' l' n' a' w' hp hn' ho' hr=>h f' l' n' a' w' hp (by omega) (ho.trans ho' hn) hr
theorem draw_ok {C:Cf} (hC:CfOK C) {α:Type} {r:α} {id:Nat} {ops:Array Oper} {f:Fr} {l:Lo} {n:Nat} {K:Fr→Lo→Nat→Option α} {Q:Exit→Act→World→Prop} {a:Act} {w:World} (hm:C.P.follows .mixedOrders=true) (hb:ZVe 0 ops.toList=true) (hds:∀ o ∈ ops.toList,∀ k,o.dst=some k→k<N) {ks:List Nat} {pv:Nat→Value} (hks:∀ o ∈ ops.toList,∀ k,o.dst=some k→ZDa ks k=false) (hpn:Pin ks pv a)
  (h:(Zcg C ops.toList ops.toList f l n λf l n ps=>match Zie [] (Zbb ops.toList []) ps with
   | true=>K f l n
   | false=>none)=some r) (hr:Rel N G w0 v0 (· < n) f l a w) (hQ:ZOe N G w0 v0 n f l (λf l n=>K f l n=some r) (Pn ks pv Q .normal)):(Code.region id ops true).wp C.P Q a w:=by
 obtain⟨Ts,h1,h2,h3,h4⟩:=Z4m h;split at h4
 ·rename_i hch;have hn:(l.map En.k).Nodup:=by obtain⟨_,_,_,hr⟩:=hr;exact hr.nd
  refine wp_region_any hm (ZYh hks hpn ?_);have hz:∀ j,(Array.replicate ops.size false).getD j false=false:=λj=>getD_replicate_false _ _;have hl:left (Array.replicate ops.size false)=ops.size:=by simp[left]
  refine Zmz hC (Ts:=Ts) hb hds h1 hn h2 h3 hch (λa' w' hr'=>hQ _ _ _ a' w' h4 (by omega) (ZQn (Nat.le_refl n) h1 h2 hn h3) hr') ops.size _ a w.drew hl ⟨by simp,λj o _ hj=>?_,f,l,?_,λt=>?_,λt=>?_⟩
  ·rw[hz]at hj;cases hj
  ·obtain⟨γ,v,ℓ,hr⟩:=hr.draw;exact⟨γ,v,ℓ,hr.mono (λ_ h=>.inl h) λ_ h=>.inl h⟩
  ·exact (ZJf λj _ _ hs=>by rw[show sel _ _=false from hz _]at hs;cases hs).symm
  ·exact (ZJf λj _ _ hs=>by rw[show sel _ _=false from hz _]at hs;cases hs).symm
 ·cases h4
def Zmg (C:Cf) (cf:CallF):Prop:=∀ {α:Type} {g:FuncId} {ags:V} {l:Lo} {n:Nat} {K:V→Lo→Nat→Option α} {r:α},cf α g ags l n K=some r→∀ {N:Nat} {G:V→Value→Prop} {w0:Base} {v0:Zb} {a:Act} {w:World} {γ:Nat→Gh} {v:Zb} {ℓ:List Loc} {vals:List Value},
 RelX N G w0 v0 (· < n) (· < n) [] l a w γ v ℓ→RR v γ l true ags vals→ags.ok (· < n)→ZV C.P g∧Calls C.P g vals.toArray w λe w'=>∃ y c l' n' γ' v' ℓ',e = .returned y∧K c l' n'=some r∧n≤n'∧(∀ f,Old n f l f l')∧RelX N G w0 v0 (· < n') (· < n') [] l' a w' γ' v' ℓ'∧RV v' γ' l' (ZUd c) y∧(ZUd c).ok (· < n')
theorem ZOp {U X:Nat→Prop} {f:Fr} {l:Lo} {a:Act} {w:World} {γ:Nat→Gh} {v:Zb} {ℓ:List Loc} (hr:RelX N G w0 v0 U X f l a w γ v ℓ):∀ {xs:List Operand} {c:V},Zkl f xs=some c→RR v γ l true c (xs.map a.eval)∧c.ok U
 | [],c,h=>by cases h;exact⟨rfl,trivial⟩
 | x :: xs,c,h=>by
  simp only[Zkl]at h
  split at h
  ·cases h
  ·rename_i V1 c1 hnt h1 h2
   cases h
   obtain⟨q1,q2⟩:=ZJo hr h1
   obtain⟨q3,q4⟩:=ZOp hr h2
   obtain⟨cs,hcs,hqe⟩:=Zmb q1 (λc e=>hnt c (by rw[e]))
   exact⟨⟨cs,_,by rw[List.map_cons,hqe],hcs,q3⟩,q2,q4⟩
  ·cases h
theorem ZCt {v:Zb} {γ:Nat→Gh} {l:Lo} {U:Nat→Prop}:∀ {c d:V} {xs ys:List Value},RR v γ l true c xs→RR v γ l true d ys→c.ok U→d.ok U→RR v γ l true (appV c d) (xs++ys)∧(appV c d).ok U
 | .nl,d,xs,ys,h,k,_,kd=>by rw[show xs=[] from h];exact⟨k,kd⟩
 | .cons a b,d,xs,ys,⟨cs,zs,e1,e2,e3⟩,k,kc,kd=>by
  subst e1
  obtain⟨q1,q2⟩:=ZCt (c:=b) e3 k kc.2 kd
  exact⟨⟨cs,_,rfl,e2,q1⟩,kc.1,q2⟩
theorem inl1_ok {C:Cf} {cf:CallF} (hcf:Zmg C cf) {α:Type} {r:α} {o:Oper} {g:FuncId} {ags:V} {f0 f:Fr} {l:Lo} {n:Nat} {K:Fr→Lo→Nat→Option α} {a:Act} {w:World} {γ:Nat→Gh} {v:Zb} {ℓ:List Loc} (hi:Zal C f0 o=some (g,ags)) (h:inl1 cf o g ags f l n K=some r)
  (hr0:RelX N G w0 v0 (· < n) (· < n) f0 l a w γ v ℓ) (hr:RelX N G w0 v0 (· < n) (· < n) f l a w γ v ℓ) (hd:∀ k,o.dst=some k→k<N):ZLb C.P o a w λx w'=>∃ f' l' n',K f' l' n'=some r∧n≤n'∧Old n f l f' l'∧Rel N G w0 v0 (· < n') f' l' (a.put o.dst x) w':=by
 obtain⟨d,op,ty,pos,aft,gd⟩:=o;unfold Zal at hi;split at hi
 ·rename_i c hop;have hop:op = .call c:=hop;subst hop;obtain⟨callee,args,ats⟩:=c;split at hi
  ·rename_i x hx;have hx:callee = .value x:=hx;subst hx;split at hi
   ·rename_i g' cap hg;split at hi
    ·cases hi
    ·split at hi
     ·rename_i ags' has
      cases hi
      unfold inl1 at h
      cases d with
      | none=>cases h
      | some d =>
       obtain⟨q1,q2⟩:=ZJo hr0 hg;obtain⟨cs,⟨vs,q3,rfl⟩,q4⟩:=q1;have q4:a.eval x = .func (.func g) #[] vs.toArray:=q4;obtain⟨q5,q6⟩:=ZOp hr0 has;obtain⟨q7,q8⟩:=ZCt q5 q3 q6 q2;have hlt:∀ k,k<n→k<n+1:=λk h=>by omega
       let G':V→Value→Prop:=λx y=>G x y ∨ ∃ t e,lkE f t=some e∧x=e.x∧y=a.tmps.getD t undef
       have hrG:RelX N G' w0 v0 (· < n+1) (· < n+1) [] l a w γ v ℓ:=by
        have hm:=hr.mono hlt hlt;refine⟨hm.st,λt e he=>(by cases he),hm.lr,hm.nd,λt e he=>(by cases he),hm.ul,λx y hg=>?_⟩;rcases hg with hg | ⟨t,e,h1,rfl,rfl⟩
        ·exact hm.gh x y hg
        ·exact⟨hm.fr t e h1,(hm.uf t e h1).1⟩
       obtain⟨hen,hcalls⟩:=hcf h hrG q7 (V.ok.mono hlt q8);obtain⟨σ,hσ,hev⟩:=hr0.st.evs (x :: args.toList);have hfx:=hev x (by simp);rw[q4]at hfx;have hargs:args.toList.map (ev σ)=(args.toList.map a.eval).map some:=by
        rw[List.map_map];exact List.map_congr_left λy hy=>hev y (by simp[hy])
       have hrun:=Zky (d:=some d) (ty:=ty) (pos:=pos) (aft:=aft) (g:=gd) (ats:=ats) hσ _ _ hen hfx hargs;refine ZNc hrun (Calls.mono hcalls λe w' ⟨y,c,l',n',γ',v',ℓ',e1,e2,e3,e4,e5,e6,e7⟩=>⟨y,e1,_,l',n',e2,by omega,((e4 f).mono (by omega)).trans (Old.put (Nat.le_refl n)) (Nat.le_refl n),γ',v',ℓ',?_⟩);have hr2:RelX N G w0 v0 (· < n') (· < n') f l' a w' γ' v' ℓ':=by
        refine⟨e5.st,λt e he=>(e5.gh _ _ (.inr ⟨t,e,he,rfl,rfl⟩)).1,e5.lr,e5.nd,λt e he=>⟨(e5.gh _ _ (.inr ⟨t,e,he,rfl,rfl⟩)).2,?_⟩,e5.ul,λx y hg=>e5.gh x y (.inl hg)⟩;have:=(hr.uf t e he).2;show e.st<n';have:e.st<n:=this;omega
       exact hr2.put (hd d rfl) e6 e7 (show n<n' by omega)
     ·cases hi
   ·cases hi
  ·cases hi
 ·cases hi
theorem inlG_ok {C:Cf} {cf:CallF} (hcf:Zmg C cf) {α:Type} {r:α} {ops:Array Oper} {o:Oper} {rest:List Oper} {g:FuncId} {ags:V} {f:Fr} {l:Lo} {n:Nat} {K:Fr→Lo→Nat→Option α} {Q:Exit→Act→World→Prop} {a:Act} {w:World} (hi:Zal C f o=some (g,ags)) (h:inlG cf ops.toList o g ags f l n K=some r)
  (hr:Rel N G w0 v0 (· < n) f l a w) (hds:∀ o ∈ ops.toList,∀ k,o.dst=some k→k<N) (hd:∀ k,o.dst=some k→k<N) (hQ:ZOe N G w0 v0 n f l (λf l n=>K f l n=some r) λa w=>wpList C.P ops Q rest a w):wpList C.P ops Q (o :: rest) a w:=by
 obtain⟨γ,v,ℓ,hr⟩:=hr;have yes:∀ {f1:Fr},Old n f l f1 l→RelX N G w0 v0 (· < n) (· < n) f1 l a w γ v ℓ→Region.wanted o (yielded ops a.tmps)=true→inl1 cf o g ags f1 l n K=some r→wpList C.P ops Q (o :: rest) a w:=λho hr1 hw h =>
  Zhd hw (ZHn (inl1_ok hcf hi h hr hr1 hd) λx w' ⟨f',l',n',e1,e2,e3,e4⟩=>hQ f' l' n' _ w' e1 e2 (ho.trans e3 (Nat.le_refl n)) e4)
 have no:∀ {f1:Fr},Old n f l f1 l→RelX N G w0 v0 (· < n) (· < n) f1 l a w γ v ℓ→Region.wanted o (yielded ops a.tmps)=false→ZKl o f1 l n K=some r→wpList C.P ops Q (o :: rest) a w:=λho hr1 hw h=>by
  have h1:=Zgh (Nat.le_refl n) Old.refl hr1.nd (Zyh h);obtain⟨f',l',⟨q1,q2⟩,q3⟩:=Zyj (X:=(· < n+1)) (hr1.mono (λ_ h=>h) λk h=>(show k<n+1 by have:k<n:=h;omega)) (λk h=>(show k<n+1 by have:k<n:=h;omega)) (Nat.lt_succ_self n) hd h1;unfold wpList;rw[iN (by rw[hw];decide)];exact hQ f' l' _ _ w q1 (by omega) (ho.trans q2 (Nat.le_refl n)) q3
 unfold inlG at h;split at h
 ·rename_i hg;exact yes Old.refl hr (Zjc hg) h
 ·rename_i j want hg;split at h
  ·rename_i q hq;split at h
   ·rename_i t ht;have htN:t<N:=hds q (mG hq) t ht;have hgd:(ops[j]?).bind (·.dst)=some t:=by rw[← Array.getElem?_toList,hq];exact ht
    obtain⟨σ,hσ,hev⟩:=hr.st.evs [.tmp t];have hl:look σ t=some (a.tmps.getD t undef):=hev (.tmp t) (by simp);split at h
    ·rename_i ek s b he;have hk:ek=t:=(Zo he).2;subst hk;have h2:a.tmps.getD ek undef = .bool b:=Z4f (hr.fr ek _ he);rw[h2]at hl;have hdup:=RelX.dup hr he;have hold:=Old.dup (m:=n) (l:=l) he
     cases want <;> cases b
     ·exact yes hold hdup (Zgg hσ hg hgd hl htN) h
     ·exact no hold hdup (Zwj hσ hg hgd hl htN) h
     ·exact no hold hdup (Zwj hσ hg hgd hl htN) h
     ·exact yes hold hdup (Zgg hσ hg hgd hl htN) h
    ·rename_i ek s he;have hk:ek=t:=(Zo he).2;subst hk;obtain⟨cs,h1,h2⟩:=hr.fr ek _ he;have h1:cs=[undef]:=h1;subst h1;have h2:a.tmps.getD ek undef=undef:=h2;rw[h2]at hl;exact no Old.refl hr (Zle hσ hg hgd hl htN) h
    ·cases h
   ·cases h
  ·cases h
theorem Zvl {C:Cf} (hC:CfOK C) {cf:CallF} (hcf:Zmg C cf) {α:Type} {r:α} {ops:Array Oper} {Q:Exit→Act→World→Prop} (hds:∀ o ∈ ops.toList,∀ k,o.dst=some k→k<N) {K:Fr→Lo→Nat→Option α}:∀ {os:List Oper} {f:Fr} {l:Lo} {n:Nat} {a:Act} {w:World},iops C cf ops.toList os f l n K=some r→(∀ o ∈ os,o ∈ ops.toList) →
  Rel N G w0 v0 (· < n) f l a w→ZOe N G w0 v0 n f l (λf l n=>K f l n=some r) (Q .normal)→wpList C.P ops Q os a w
 | [],f,l,n,a,w,h,_,hr,hQ=>hQ f l n a w h (Nat.le_refl n) Old.refl hr
 | o :: os,f,l,n,a,w,h,hos,hr,hQ=>by
  have hd:=hds o (hos o (by simp))
  simp only[iops]at h
  split at h
  ·obtain⟨γ,v,ℓ,hr⟩:=hr
   have h1:=Zgh (Nat.le_refl n) Old.refl hr.nd (Zyh h)
   refine (ZTo hC (X:=(· < n+1)) (hr.mono (λ_ h=>h) λk h=>(show k<n+1 by have:k<n:=h;omega)) (λk h=>(show k<n+1 by have:k<n:=h;omega)) (Nat.lt_succ_self n) (Nat.lt_irrefl n) hds hd h1).list λf' l' a' w' ⟨q1,q2⟩ q3=>?_
   exact Zvl hC hcf hds q1 (λo ho=>hos o (by simp[ho])) q3 (hQ.step (by omega) q2)
  ·rename_i g ags hi
   refine inlG_ok hcf hi h hr hds hd λf' l' n' a' w' q1 q2 q3 q4=>?_
   exact Zvl hC hcf hds q1 (λo ho=>hos o (by simp[ho])) q4 (hQ.step q2 q3)
theorem ZDw {C:Cf} (hC:CfOK C) {cf:CallF} (hcf:Zmg C cf) {α:Type} {r:α} {id:Nat} {ops:Array Oper} {o:Oper} {f:Fr} {l:Lo} {n:Nat} {K:Fr→Lo→Nat→Option α} {Q:Exit→Act→World→Prop} {a:Act} {w:World} (ho:ZAk ops.toList=some o) (hm:C.P.follows .mixedOrders=true) (hb:ZVe 0 ops.toList=true) (hds:∀ o ∈ ops.toList,∀ k,o.dst=some k→k<N) {ks:List Nat} {pv:Nat→Value} (hks:∀ o ∈ ops.toList,∀ k,o.dst=some k→ZDa ks k=false) (hpn:Pin ks pv a)
  (h:(Zcg C ops.toList ops.toList.dropLast f l n λf l n ps=>match Zie [] (Zbb ops.toList.dropLast []) ps with
   | true=>iops C cf ops.toList [o] f l n K
   | false=>none)=some r) (hr:Rel N G w0 v0 (· < n) f l a w) (hQ:ZOe N G w0 v0 n f l (λf l n=>K f l n=some r) (Pn ks pv Q .normal)):(Code.region id ops true).wp C.P Q a w:=by
 obtain⟨Ts,h1,h2,h3,h4⟩:=Z4m h;obtain⟨he,hg,hanc⟩:=Zuw ho;split at h4
 ·rename_i hch;have hn:(l.map En.k).Nodup:=by obtain⟨_,_,_,hr⟩:=hr;exact hr.nd
  have hsz:ops.size=ops.toList.dropLast.length+1:=by
   have:=congrArg List.length he;simp at this ⊢;omega
  have hin:∀ o ∈ ops.toList.dropLast,o ∈ ops.toList:=λo ho=>by rw[← he];exact List.mem_append_left _ ho
  have hol:o ∈ ops.toList:=by rw[← he];simp
  refine wp_region_any hm (ZYh hks hpn ?_);have hz:∀ j,(Array.replicate ops.size false).getD j false=false:=λj=>getD_replicate_false _ _;have hl:left (Array.replicate ops.size false)=ops.toList.dropLast.length+1:=by rw[← hsz];simp[left]
  have key:=Zoy (G:=G) (w0:=w0) (v0:=v0) (Q:=Pn ks pv Q) hC (Ts:=Ts) he hg hanc hb hds h1 hn h2 h3 hch (λa' w' hr'=>?_) ops.toList.dropLast.length (Array.replicate ops.size false) a w.drew hl ?_ ⟨by simp,λj o _ hj=>?_,f,l,?_,λt=>?_,λt=>?_⟩
  ·rw[← hsz]at key;exact key
  ·have hold:=ZQn (Nat.le_refl n) h1 h2 hn h3;exact Zvl hC hcf hds h4 (λo' ho'=>by rcases List.mem_singleton.1 ho' with rfl;exact hol) hr' (hQ.step (by omega) hold)
  ·rw[Zbc (by rw[Array.size_replicate];omega)];exact hz _
  ·rw[hz]at hj;cases hj
  ·obtain⟨γ,v,ℓ,hr⟩:=hr.draw;exact⟨γ,v,ℓ,hr.mono (λ_ h=>.inl h) λ_ h=>.inl h⟩
  ·exact (ZJf λj _ _ hs=>by rw[show sel _ _=false from hz _]at hs;cases hs).symm
  ·exact (ZJf λj _ _ hs=>by rw[show sel _ _=false from hz _]at hs;cases hs).symm
 ·cases h4
theorem ZZm {K:Nat} {ks:List Nat}:∀ {os:List Oper},Zih K ks os=true→∀ o ∈ os,∀ k,o.dst=some k→k<K∧ZDa ks k=false
 | [],_,_,h,_,_=>by cases h
 | o :: os,h,o',ho',k,hk=>by
  simp only[Zih]at h
  rcases List.mem_cons.1 ho' with rfl | ho'
  ·rw[hk]at h
   simp only at h
   split at h
   ·rename_i hb hm;exact⟨lB hb,hm⟩
   ·cases h
  ·have h':Zih K ks os=true:=by
    split at h
    ·split at h
     ·exact h
     ·cases h
    ·exact h
   exact ZZm h' o' ho' k hk
end
end Go.Eng
namespace Go.Eng
open Go.RowKit
theorem ZAg {x:V} {c:CT} {cs:List Value} (h:x.isAgg=c.isAgg):x.val cs=c.vl cs:=by
 unfold V.val CT.vl;rw[h]
 cases c.isAgg <;> rfl
theorem ZNo {v v':Zb} (h:v.le v'):∀ {c:CT} {m:Bool} {x:c.den} {cs:List Value} {es:List Loc},CR v c m x cs es→CR v' c m x cs es:=by
 intro c
 induction c with
 | dat t=>intro m x cs es k;cases m <;> first | exact⟨Rep.mono _ h k.1,k.2⟩ | exact k
 | own ty t =>
  intro m x cs es k;cases m
  ·obtain⟨ob,cap,d,h1,h2,h3⟩:=k;exact⟨ob,cap,d,h1,ZZ h h2,h3⟩
  ·exact k
 | mat ty ty2 t =>
  intro m x cs es k;cases m
  ·obtain⟨ob,cap,rows,es2,h1,h2,h3⟩:=k;exact⟨ob,cap,rows,es2,h1,ZKc h h2,h3⟩
  ·exact k
 | nl=>intro m x cs es k;cases m <;> exact k
 | one a ih =>
  intro m x cs es k;cases m
  ·exact ih (m:=false) k
  ·obtain⟨c,h1,h2⟩:=k;exact⟨c,h1,ih h2⟩
 | cons a b ia ib =>
  intro m x cs es k;cases m
  ·obtain⟨c1,c2,e1,e2,h1,h2,h3,h4⟩:=k;exact⟨c1,c2,e1,e2,h1,h2,ia h3,ib h4⟩
  ·obtain⟨c1,c2,e1,e2,h1,h2,h3,h4⟩:=k;exact⟨c1,c2,e1,e2,h1,h2,ia h3,ib h4⟩
 | agg c ih=>intro m x cs es k;cases m <;> first | exact ih (m:=false) k | exact k
 | box ty c ih =>
  intro m x cs es k;cases m
  ·obtain⟨b,c1,e1,h1,h2,h3,h4⟩:=k;exact⟨b,c1,e1,h1,ih h2,h3,h4⟩
  ·exact k
theorem ZHd {α:Type} {ex es r:List α}:(ex++(es++r)).Perm (es++(ex++r)):=by
 rw[← aAq,← aAq];exact List.Perm.append_right _ List.perm_append_comm
section
variable {N:Nat} {G:V→Value→Prop} {w0:Base} {v0:Zb} {U X:Nat→Prop} {f:Fr} {a:Act} {w:World} {n:Nat}
theorem Z5y {ρ:Type} {g:Nat} {t:T} {x:V} {k:t.den→Ev ρ} {l:Lo} {Post:ρ→Fr→Lo→Prop} {v:Zb} {γ:Nat→Gh} {m:Bool} {cs:List Value} (h:Zk n (conv g t x k) f l Post) (hr:RR v γ l m x cs):m=false:=by
 cases m with
 | false=>rfl
 | true =>
  cases g with
  | zero=>exact h.elim
  | succ g=>cases x <;> first | exact hr.elim | (simp only[conv]at h;exact h.elim)
theorem Z8e {ρ:Type} (hn:¬ U n) (hX:X n):∀ (g:Nat) {c:CT} {x:V} {K:c.den→Ev ρ} {l:Lo} {Post:ρ→Fr→Lo→Prop} {γ:Nat→Gh} {v:Zb} {ℓ ex:List Loc} {m:Bool} {cs:List Value},
  Zk n (Zaa g c x K) f l Post→RelX N G w0 v0 U X f l a w γ v ℓ→St N w0 v0 [] (ex++ℓ) v a w→x.ok U→RR v γ l m x cs →
  ∃ z l' γ' v' ℓ' es,Zk n (K z) f l' Post∧RelX N G w0 v0 U X f l' a w γ' v' ℓ'∧St N w0 v0 [] (es++(ex++ℓ')) v' a w∧Le U v γ l v' γ' l'∧CR v' c m z cs es∧x.isAgg=c.isAgg
 | 0,_,_,_,_,_,_,_,_,_,_,_,h,_,_,_,_=>h.elim
 | g+1,c,x,K,l,Post,γ,v,ℓ,ex,m,cs,h,hr,hex,hk,hx=>by
  obtain⟨E,hE,_⟩:=hr.lr
  have rfl':Le U v γ l v γ l:=Le.refl hE (Zb.le_refl _)
  cases c with
  | dat t =>
   simp only[Zaa]at h
   have hm:=Z5y h hx
   subst hm
   have hag:=ZVf FU h
   obtain⟨y,l1,γ1,v1,ℓ1,k1,k2,k3,k4,k5⟩:=Zpb hn hX FU h hr hex hk
   exact⟨y,l1,γ1,v1,ℓ1,[],k1,k2,k3,k4,⟨k5 _ hx,rfl⟩,hag⟩
  | own ty t =>
   cases x with
   | own u =>
    cases m with
    | true=>exact hx.elim
    | false =>
    simp only[Zaa]at h
    obtain⟨e,he,h⟩:=h
    obtain⟨kk,st,L⟩:=e
    have hkk:kk=u:=(Zo he).2
    subst hkk
    obtain⟨y,rfl,_,hy⟩:=hx
    have hy:=hy _ he
    obtain⟨es,E',h1,_,_,h3,h4⟩:=hr.del he
    cases L with
    | own ty' t' xs fz =>
     cases fz with
     | true=>exact h.elim
     | false =>
      simp only at h
      split at h
      ·rename_i ys hty hcast
       have hty:=eQ hty
       subst hty
       obtain⟨c3,c4⟩:=Z2 hcast
       cases c3;cases c4
       obtain⟨ob,cap,d,g1,g2,rfl⟩:=h1
       have g1:γ kk = .own ob cap:=g1
       obtain⟨ob',cap',g3,g4⟩:=hy
       rw[g1]at g3;cases g3
       exact⟨_,_,_,_,_,_,h,h4,hex.perm ((List.Perm.append_left ex h3).trans ZHd),Le.era hr kk,⟨ob,cap,d,by rw[g4],g2,rfl⟩,rfl⟩
      ·exact h.elim
    | box _ _=>exact h.elim
    | mid _ _ _ _ _ _=>exact h.elim
    | mat _ _ _ _ _=>exact h.elim
   | nilS =>
    cases m with
    | true=>exact hx.elim
    | false =>
    simp only[Zaa]at h
    have hx:cs=[.slice none 0 0]:=hx
    subst hx
    exact⟨_,l,γ,v,ℓ,[.own none ty t.n 0 0 []],h,hr,hex.nilLoc ty t.n,rfl',⟨none,0,[],rfl,rfl,rfl⟩,rfl⟩
   | _=>simp only[Zaa]at h;exact h.elim
  | mat ty ty2 t =>
   cases x with
   | own u =>
    cases m with
    | true=>exact hx.elim
    | false =>
    simp only[Zaa]at h
    obtain⟨e,he,h⟩:=h
    obtain⟨kk,st,L⟩:=e
    have hkk:kk=u:=(Zo he).2
    subst hkk
    obtain⟨y,rfl,_,hy⟩:=hx
    have hy:=hy _ he
    obtain⟨es,E',h1,_,_,h3,h4⟩:=hr.del he
    cases L with
    | mat ty' ty2' t' mm hv =>
     simp only at h
     split at h
     ·rename_i m' hty hty2 hcast
      have hty:=eQ hty
      have hty2:=eQ hty2
      subst hty hty2
      obtain⟨c3,c4⟩:=Z2 hcast
      cases c3;cases c4
      obtain⟨ob,cap,rows,es2,g1,g2,rfl⟩:=h1
      have g1:γ kk = .mat ob cap rows:=g1
      obtain⟨ob',cap',rows',g3,g4⟩:=hy
      rw[g1]at g3;cases g3
      exact⟨_,_,_,_,_,_,h,h4,hex.perm ((List.Perm.append_left ex h3).trans ZHd),Le.era hr kk,⟨ob,cap,rows,es2,by rw[g4],g2,rfl⟩,rfl⟩
     ·exact h.elim
    | box _ _=>exact h.elim
    | mid _ _ _ _ _ _=>exact h.elim
    | own _ _ _ _=>exact h.elim
   | nilS =>
    cases m with
    | true=>exact hx.elim
    | false =>
    simp only[Zaa]at h
    have hx:cs=[.slice none 0 0]:=hx
    subst hx
    exact⟨_,l,γ,v,ℓ,[.own none ty 1 0 0 []],h,hr,hex.nilLoc ty 1,rfl',⟨none,0,[],[],rfl,rfl,rfl⟩,rfl⟩
   | _=>simp only[Zaa]at h;exact h.elim
  | nl =>
   cases x with
   | nl =>
    simp only[Zaa]at h
    have hx:cs=[]:=by cases m <;> exact hx
    exact⟨_,l,γ,v,ℓ,[],h,hr,hex,rfl',(by cases m <;> exact⟨hx,rfl⟩),rfl⟩
   | _=>simp only[Zaa]at h;exact h.elim
  | one c =>
   cases x with
   | cons x1 x2 =>
    cases x2 with
    | nl =>
     simp only[Zaa]at h
     cases m with
     | false =>
      obtain⟨c1,c2,rfl,h1,h2⟩:=hx
      have h2:c2=[]:=h2
      subst h2
      obtain⟨z,l1,γ1,v1,ℓ1,es,k1,k2,k3,k4,k5,k6⟩:=Z8e hn hX g h hr hex hk.1 h1
      exact⟨z,l1,γ1,v1,ℓ1,es,k1,k2,k3,k4,(by rw[List.append_nil];exact k5),rfl⟩
     | true =>
      obtain⟨c1,xs,rfl,h1,h2⟩:=hx
      have h2:xs=[]:=h2
      subst h2
      obtain⟨z,l1,γ1,v1,ℓ1,es,k1,k2,k3,k4,k5,k6⟩:=Z8e hn hX g h hr hex hk.1 h1
      exact⟨z,l1,γ1,v1,ℓ1,es,k1,k2,k3,k4,⟨c1,(by rw[ZAg k6]),k5⟩,rfl⟩
    | _=>simp only[Zaa]at h;exact h.elim
   | _=>simp only[Zaa]at h;exact h.elim
  | cons c d =>
   cases x with
   | cons x1 x2 =>
    simp only[Zaa]at h
    have step:∀ {c1:List Value} {m2:Bool} {c2:List Value},RR v γ l false x1 c1→RR v γ l m2 x2 c2→∃ z l' γ' v' ℓ' e1 e2,Zk n (K z) f l' Post∧RelX N G w0 v0 U X f l' a w γ' v' ℓ'∧St N w0 v0 [] ((e1++e2)++(ex++ℓ')) v' a w∧Le U v γ l v' γ' l'∧CR v' c false z.1 c1 e1∧CR v' d m2 z.2 c2 e2∧x1.isAgg=c.isAgg:=by
     intro c1 m2 c2 h1 h2;obtain⟨z1,l1,γ1,v1,ℓ1,e1,k1,k2,k3,k4,k5,k6⟩:=Z8e hn hX g h hr hex hk.1 h1;obtain⟨z2,l2,γ2,v2,ℓ2,e2,q1,q2,q3,q4,q5,q6⟩:=Z8e hn hX g (ex:=e1++ex) k1 k2 (by rw[aAq];exact k3) hk.2 (ZDb k4 hk.2 h2);refine⟨(z1,z2),l2,γ2,v2,ℓ2,e1,e2,q1,q2,q3.perm ?_,k4.trans q4,ZNo q4.v k5,q5,k6⟩;rw[aAq,aAq];exact ZHd
    cases m with
    | false =>
     obtain⟨c1,c2,rfl,h1,h2⟩:=hx;obtain⟨z,l1,γ1,v1,ℓ1,e1,e2,k1,k2,k3,k4,k5,k6,k7⟩:=step h1 h2;exact⟨z,l1,γ1,v1,ℓ1,_,k1,k2,k3,k4,⟨c1,c2,e1,e2,rfl,rfl,k5,k6⟩,rfl⟩
    | true =>
     obtain⟨c1,xs,rfl,h1,h2⟩:=hx;obtain⟨z,l1,γ1,v1,ℓ1,e1,e2,k1,k2,k3,k4,k5,k6,k7⟩:=step h1 h2;exact⟨z,l1,γ1,v1,ℓ1,_,k1,k2,k3,k4,⟨c1,xs,e1,e2,by rw[ZAg k7],rfl,k5,k6⟩,rfl⟩
   | _=>simp only[Zaa]at h;exact h.elim
  | agg c =>
   cases x with
   | agg x1 =>
    cases m with
    | true=>exact hx.elim
    | false =>
    simp only[Zaa]at h;obtain⟨z,l1,γ1,v1,ℓ1,es,k1,k2,k3,k4,k5,k6⟩:=Z8e hn hX g (x:=x1) (m:=false) h hr hex hk hx;exact⟨z,l1,γ1,v1,ℓ1,es,k1,k2,k3,k4,k5,rfl⟩
   | _=>simp only[Zaa]at h;exact h.elim
  | box ty c =>
   cases x with
   | ptr u off =>
    cases off with
    | succ k=>simp only[Zaa]at h;exact h.elim
    | zero =>
    cases m with
    | true=>exact hx.elim
    | false =>
    simp only[Zaa]at h;obtain⟨e,he,h⟩:=h;obtain⟨kk,st,L⟩:=e;obtain⟨hm,hkk⟩:=Zo he;have hkk:kk=u:=hkk;subst hkk;obtain⟨y,rfl,_,hy⟩:=hx;have hy:=hy _ he;obtain⟨es,E',h1,_,_,h3,h4⟩:=hr.del he
    cases L with
    | box ty' x1 =>
     simp only at h;split at h
     ·rename_i hty;have hty:=eQ hty;subst hty;obtain⟨b,c1,g1,g2,g3,rfl⟩:=h1;have g1:γ kk = .box b:=g1;obtain⟨b',g4,g5⟩:=hy;rw[g1]at g4;cases g4;have hk1:x1.ok U:=(hr.ul _ hm).2.2;obtain⟨z,l1,γ1,v1,ℓ1,e1,k1,k2,k3,k4,k5,k6⟩:=Z8e hn hX g (ex:=.box b ty c1 :: ex) h h4 (hex.perm ((List.Perm.append_left ex h3).trans ZHd)) hk1 (ZDb (Le.era hr kk) hk1 g2);refine⟨z,l1,γ1,v1,ℓ1,.box b ty c1 :: e1,k1,k2,k3.perm ?_,(Le.era hr kk).trans k4,⟨b,c1,e1,by rw[g5],k5,g3,rfl⟩,rfl⟩;exact List.perm_middle
     ·exact h.elim
    | own _ _ _ _=>exact h.elim
    | mid _ _ _ _ _ _=>exact h.elim
    | mat _ _ _ _ _=>exact h.elim
   | _=>simp only[Zaa]at h;exact h.elim
theorem Zmx {ρ:Type} {g:Nat} {c:CT} {q:V} {K:c.den→Ev ρ} {l:Lo} {Post:ρ→Fr→Lo→Prop} (h:Zk n (Zaa g c (.tup q) K) f l Post):False:=by
 cases g with
 | zero=>exact h
 | succ g =>
  cases c with
  | dat t =>
   simp only[Zaa]at h;have:∀ (g:Nat),Zk n (conv g t (.tup q) K) f l Post→False:=λg h=>by cases g <;> exact h
   exact this _ h
  | _=>simp only[Zaa]at h;exact h
end
theorem F2.append {α β:Type} {R:α→β→Prop}:∀ {l l':List α} {m m':List β},F2 R l m→F2 R l' m'→F2 R (l++l') (m++m')
 | [],_,[],_,_,k=>k
 | _ :: _,_,_ :: _,_,h,k=>⟨h.1,F2.append h.2 k⟩
 | [],_,_ :: _,_,h,_=>h.elim
 | _ :: _,_,[],_,h,_=>h.elim
theorem Zdm {la lb:Lo} {γa γb:Nat→Gh} {γ:Nat→Gh} {l:Lo} (h:∀ e ∈ la++lb,γ e.k=(if e.k ∈ la.map En.k then γa e.k else γb e.k)∧lkE l e.k=some e):∀ e ∈ la,γ e.k=γa e.k∧lkE l e.k=some e:=λe he=>by
 obtain⟨h1,h2⟩:=h e (List.mem_append_left _ he)
 rw[iP (List.mem_map.2 ⟨e,he,rfl⟩)]at h1
 exact⟨h1,h2⟩
theorem Zam {la lb:Lo} {γa γb:Nat→Gh} {γ:Nat→Gh} {l:Lo} (hd:∀ e ∈ lb,e.k ∉ la.map En.k) (h:∀ e ∈ la++lb,γ e.k=(if e.k ∈ la.map En.k then γa e.k else γb e.k)∧lkE l e.k=some e):∀ e ∈ lb,γ e.k=γb e.k∧lkE l e.k=some e:=λe he=>by
 obtain⟨h1,h2⟩:=h e (List.mem_append_right _ he)
 rw[iN (hd e he)]at h1
 exact⟨h1,h2⟩
theorem ZUj {la lb:Lo} (ha:(la.map En.k).Nodup) (hb:(lb.map En.k).Nodup) (hd:∀ e ∈ lb,e.k ∉ la.map En.k):((la++lb).map En.k).Nodup:=by
 rw[List.map_append];refine List.nodup_append.2 ⟨ha,hb,λx hx y hy e=>?_⟩;subst e;obtain⟨e,he,rfl⟩:=List.mem_map.1 hy;exact hd e he hx
theorem Z2s {v:Zb}:∀ (c:CT) {m:Bool} {z:c.den} {cs:List Value} {es:List Loc} (n:Nat) {x:V} {l2:Lo} {n2:Nat},CR v c m z cs es→Zl c z n=(x,l2,n2) →
  n≤n2∧(∀ e ∈ l2,n≤e.k∧e.k<n2∧n≤e.st∧e.st<n2∧e.x.ok (· < n2) (· < n2))∧(l2.map En.k).Nodup∧x.ok (· < n2)∧x.isAgg=c.isAgg ∧
  ∃ γ0:Nat→Gh,∀ (γ:Nat→Gh) (l:Lo),(∀ e ∈ l2,γ e.k=γ0 e.k∧lkE l e.k=some e)→RR v γ l m x cs∧∃ E,F2 (ZGa v γ l) l2 E∧es.Perm E.flatten:=by
 intro c
 induction c with
 | dat t =>
  intro m z cs es n x l2 n2 h hi
  cases m with
  | true=>exact h.elim
  | false =>
  cases hi
  obtain⟨h1,rfl⟩:=h;exact⟨Nat.le_refl _,λe he=>(by cases he),List.nodup_nil,trivial,rfl,λ_=>.box 0,λγ l _=>⟨h1,[],trivial,List.Perm.refl _⟩⟩
 | own ty t =>
  intro m z cs es n x l2 n2 h hi
  cases m with
  | true=>exact h.elim
  | false =>
  cases hi
  obtain⟨ob,cap,d,rfl,h2,rfl⟩:=h;refine⟨Nat.le_succ _,λe he=>?_,?_,Nat.lt_succ_self n,rfl,λ_=>.own ob cap,λγ l hl=>?_⟩
  ·rcases List.mem_singleton.1 he with rfl;exact⟨Nat.le_refl _,Nat.lt_succ_self _,Nat.le_refl _,Nat.lt_succ_self _,trivial⟩
  ·exact List.nodup_cons.2 ⟨by simp,List.nodup_nil⟩
  ·obtain⟨hg,hlk⟩:=hl _ (List.mem_singleton.2 rfl);refine⟨⟨_,rfl,rfl,λe he=>?_⟩,[_],⟨⟨ob,cap,d,hg,h2,rfl⟩,trivial⟩,List.Perm.refl _⟩;rw[show lkE l n=_ from hlk]at he;cases he;exact⟨ob,cap,hg,rfl⟩
 | mat ty ty2 t =>
  intro m z cs es n x l2 n2 h hi
  cases m with
  | true=>exact h.elim
  | false =>
  cases hi
  obtain⟨ob,cap,rows,es2,rfl,h2,rfl⟩:=h;refine⟨Nat.le_succ _,λe he=>?_,?_,Nat.lt_succ_self n,rfl,λ_=>.mat ob cap rows,λγ l hl=>?_⟩
  ·rcases List.mem_singleton.1 he with rfl;exact⟨Nat.le_refl _,Nat.lt_succ_self _,Nat.le_refl _,Nat.lt_succ_self _,Nat.lt_succ_self n⟩
  ·exact List.nodup_cons.2 ⟨by simp,List.nodup_nil⟩
  ·obtain⟨hg,hlk⟩:=hl _ (List.mem_singleton.2 rfl);refine⟨⟨_,rfl,rfl,λe he=>?_⟩,[_],⟨⟨ob,cap,rows,es2,hg,h2,rfl⟩,trivial⟩,by simp⟩;rw[show lkE l n=_ from hlk]at he;cases he;exact⟨ob,cap,rows,hg,rfl⟩
 | nl =>
  intro m z cs es n x l2 n2 h hi
  cases hi
  have h:cs=[]∧es=[]:=by cases m <;> exact h
  obtain⟨rfl,rfl⟩:=h;exact⟨Nat.le_refl _,λe he=>(by cases he),List.nodup_nil,trivial,rfl,λ_=>.box 0,λγ l _=>⟨by cases m <;> rfl,[],trivial,List.Perm.refl _⟩⟩
 | one c ih =>
  intro m z cs es n x l2 n2 h hi;have hi:((.cons (Zl c z n).1 .nl:V),(Zl c z n).2.1,(Zl c z n).2.2)=(x,l2,n2):=hi
  cases hi
  cases m with
  | false =>
   obtain⟨k1,k2,k3,k4,k5,γ0,k6⟩:=ih n (x:=(Zl c z n).1) (l2:=(Zl c z n).2.1) (n2:=(Zl c z n).2.2) h rfl;exact⟨k1,k2,k3,⟨k4,trivial⟩,rfl,γ0,λγ l hl=>⟨⟨cs,[],by simp,(k6 γ l hl).1,rfl⟩,(k6 γ l hl).2⟩⟩
  | true =>
   obtain⟨c1,rfl,h⟩:=h;obtain⟨k1,k2,k3,k4,k5,γ0,k6⟩:=ih n (x:=(Zl c z n).1) (l2:=(Zl c z n).2.1) (n2:=(Zl c z n).2.2) h rfl;exact⟨k1,k2,k3,⟨k4,trivial⟩,rfl,γ0,λγ l hl=>⟨⟨c1,[],by rw[ZAg k5],(k6 γ l hl).1,rfl⟩,(k6 γ l hl).2⟩⟩
 | cons c d ia ib =>
  intro m z cs es n x l2 n2 h hi;have hi:((.cons (Zl c z.1 n).1 (Zl d z.2 (Zl c z.1 n).2.2).1:V),(Zl c z.1 n).2.1++(Zl d z.2 (Zl c z.1 n).2.2).2.1,(Zl d z.2 (Zl c z.1 n).2.2).2.2)=(x,l2,n2):=hi
  cases hi
  have step:∀ {c1 c2:List Value} {m2:Bool} {e1 e2:List Loc},CR v c false z.1 c1 e1→CR v d m2 z.2 c2 e2→es=e1++e2→n≤(Zl d z.2 (Zl c z.1 n).2.2).2.2∧(∀ e ∈ (Zl c z.1 n).2.1++(Zl d z.2 (Zl c z.1 n).2.2).2.1,n≤e.k∧e.k<(Zl d z.2 (Zl c z.1 n).2.2).2.2∧n≤e.st∧e.st<(Zl d z.2 (Zl c z.1 n).2.2).2.2∧e.x.ok (· < (Zl d z.2 (Zl c z.1 n).2.2).2.2) (· < (Zl d z.2 (Zl c z.1 n).2.2).2.2))∧(((Zl c z.1 n).2.1++(Zl d z.2 (Zl c z.1 n).2.2).2.1).map En.k).Nodup∧((Zl c z.1 n).1.ok (· < (Zl d z.2 (Zl c z.1 n).2.2).2.2)∧(Zl d z.2 (Zl c z.1 n).2.2).1.ok (· < (Zl d z.2 (Zl c z.1 n).2.2).2.2))∧(Zl c z.1 n).1.isAgg=c.isAgg ∧
    ∃ γ0:Nat→Gh,∀ (γ:Nat→Gh) (l:Lo),(∀ e ∈ (Zl c z.1 n).2.1++(Zl d z.2 (Zl c z.1 n).2.2).2.1,γ e.k=γ0 e.k∧lkE l e.k=some e)→RR v γ l false (Zl c z.1 n).1 c1∧RR v γ l m2 (Zl d z.2 (Zl c z.1 n).2.2).1 c2∧∃ E,F2 (ZGa v γ l) ((Zl c z.1 n).2.1++(Zl d z.2 (Zl c z.1 n).2.2).2.1) E∧es.Perm E.flatten:=by
   intro c1 c2 m2 e1 e2 h1 h2 he;obtain⟨k1,k2,k3,k4,k5,γa,k6⟩:=ia n (x:=(Zl c z.1 n).1) (l2:=(Zl c z.1 n).2.1) (n2:=(Zl c z.1 n).2.2) h1 rfl;obtain⟨q1,q2,q3,q4,q5,γb,q6⟩:=ib (Zl c z.1 n).2.2 (x:=(Zl d z.2 (Zl c z.1 n).2.2).1) (l2:=(Zl d z.2 (Zl c z.1 n).2.2).2.1) (n2:=(Zl d z.2 (Zl c z.1 n).2.2).2.2) h2 rfl;have hd:∀ e ∈ (Zl d z.2 (Zl c z.1 n).2.2).2.1,e.k ∉ ((Zl c z.1 n).2.1).map En.k:=λe he hm=>by
    obtain⟨e',he',hk⟩:=List.mem_map.1 hm;have:=(k2 e' he').2.1;have:=(q2 e he).1;omega
   have up:∀ k,k<(Zl c z.1 n).2.2→k<(Zl d z.2 (Zl c z.1 n).2.2).2.2:=λk hk=>Nat.lt_of_lt_of_le hk q1;refine⟨Nat.le_trans k1 q1,λe he=>?_,ZUj k3 q3 hd,⟨V.ok.mono up k4,q4⟩,k5,λk=>if k ∈ ((Zl c z.1 n).2.1).map En.k then γa k else γb k,λγ l hl=>⟨(k6 γ l (Zdm hl)).1,(q6 γ l (Zam hd hl)).1,?_⟩⟩
   ·rcases List.mem_append.1 he with he | he
    ·obtain⟨r1,r2,r3,r4,r5⟩:=k2 e he;exact⟨r1,up _ r2,r3,up _ r4,LV.ok.mono up up r5⟩
    ·obtain⟨r1,r2,r3,r4,r5⟩:=q2 e he;exact⟨Nat.le_trans k1 r1,r2,Nat.le_trans k1 r3,r4,r5⟩
   ·obtain⟨E1,g1,g2⟩:=(k6 γ l (Zdm hl)).2;obtain⟨E2,g3,g4⟩:=(q6 γ l (Zam hd hl)).2;exact⟨E1++E2,g1.append g3,by rw[he,List.flatten_append];exact g2.append g4⟩
  cases m with
  | false =>
   obtain⟨c1,c2,e1,e2,rfl,he,h1,h2⟩:=h;obtain⟨k1,k2,k3,k4,k5,γ0,k6⟩:=step h1 h2 he;exact⟨k1,k2,k3,k4,rfl,γ0,λγ l hl=>⟨⟨c1,c2,rfl,(k6 γ l hl).1,(k6 γ l hl).2.1⟩,(k6 γ l hl).2.2⟩⟩
  | true =>
   obtain⟨c1,c2,e1,e2,rfl,he,h1,h2⟩:=h;obtain⟨k1,k2,k3,k4,k5,γ0,k6⟩:=step h1 h2 he;exact⟨k1,k2,k3,k4,rfl,γ0,λγ l hl=>⟨⟨c1,c2,by rw[ZAg k5],(k6 γ l hl).1,(k6 γ l hl).2.1⟩,(k6 γ l hl).2.2⟩⟩
 | agg c ih =>
  intro m z cs es n x l2 n2 h hi
  cases m with
  | true=>exact h.elim
  | false =>
  have hi:((.agg (Zl c z n).1:V),(Zl c z n).2.1,(Zl c z n).2.2)=(x,l2,n2):=hi
  cases hi
  obtain⟨k1,k2,k3,k4,k5,γ0,k6⟩:=ih (m:=false) n (x:=(Zl c z n).1) (l2:=(Zl c z n).2.1) (n2:=(Zl c z n).2.2) h rfl;exact⟨k1,k2,k3,k4,rfl,γ0,k6⟩
 | box ty c ih =>
  intro m z cs es n x l2 n2 h hi
  cases m with
  | true=>exact h.elim
  | false =>
  have hi:((.ptr n 0:V),(⟨n,n,.box ty (Zl c z (n+1)).1⟩ :: (Zl c z (n+1)).2.1:Lo),(Zl c z (n+1)).2.2)=(x,l2,n2):=hi
  cases hi
  obtain⟨b,c1,e1,rfl,h2,h3,rfl⟩:=h;obtain⟨k1,k2,k3,k4,k5,γ0,k6⟩:=ih (m:=false) (n+1) (x:=(Zl c z (n+1)).1) (l2:=(Zl c z (n+1)).2.1) (n2:=(Zl c z (n+1)).2.2) h2 rfl;have hd:∀ e ∈ (Zl c z (n+1)).2.1,e.k≠n:=λe he hk=>by have:=(k2 e he).1;omega
  refine⟨by omega,λe he=>?_,List.nodup_cons.2 ⟨λhm=>?_,k3⟩,(show n<_ by omega),rfl,λk=>if k=n then .box b else γ0 k,λγ l hl=>?_⟩
  ·rcases List.mem_cons.1 he with rfl | he
   ·exact⟨Nat.le_refl _,(show n<_ by omega),Nat.le_refl _,(show n<_ by omega),k4⟩
   ·obtain⟨r1,r2,r3,r4,r5⟩:=k2 e he;exact⟨by omega,r2,by omega,r4,r5⟩
  ·obtain⟨e,he,hk⟩:=List.mem_map.1 hm;exact hd e he hk
  ·obtain⟨hg,hlk⟩:=hl _ List.mem_cons_self;have hg:γ n = .box b:=by rw[show γ n=_ from hg];exact iP rfl
   obtain⟨q1,E,q2,q3⟩:=k6 γ l λe he=>by
    obtain⟨r1,r2⟩:=hl e (List.mem_cons_of_mem _ he);exact⟨r1.trans (iN (hd e he)),r2⟩
   refine⟨⟨_,rfl,rfl,λe he=>?_⟩,[_] :: E,⟨⟨b,c1,hg,q1,h3,rfl⟩,q2⟩,by rw[List.flatten_cons];exact List.Perm.cons _ q3⟩;rw[show lkE l n=_ from hlk]at he;cases he;exact⟨b,hg,rfl⟩
end Go.Eng
namespace Go.Eng
open Go.RowKit
theorem ZTA {v v':Zb} (h:v.le v') {c:CT} {z:c.den} {g:Gh} {es:List Loc} (k:CRL v c z g es):CRL v' c z g es:=by
 cases c with
 | own ty t=>obtain⟨ob,cap,d,h1,h2,h3⟩:=k;exact⟨ob,cap,d,h1,ZZ h h2,h3⟩
 | mat ty ty2 t=>obtain⟨ob,cap,rows,es2,h1,h2,h3⟩:=k;exact⟨ob,cap,rows,es2,h1,ZKc h h2,h3⟩
 | box ty c=>obtain⟨b,c1,e1,h1,h2,h3,h4⟩:=k;exact⟨b,c1,e1,h1,ZNo h h2,h3,h4⟩
 | agg c=>cases c with
  | mat ty ty2 t=>obtain⟨ob,cap,rows,es2,h1,h2,h3⟩:=k;exact⟨ob,cap,rows,es2,h1,ZKc h h2,h3⟩
  | _=>exact k.elim
 | _=>exact k.elim
def Z5g (p:Nat→Prop) (h:Nat):(c:CT)→c.den→LV→Prop
 | .own ty t,z,L=>L = .own ty t z false
 | .mat ty ty2 t,z,L=>∃ hv,p hv∧L = .mat ty ty2 t z hv
 | .box ty _,_,L=>∃ x,L = .box ty x
 | .agg (.mat ty ty2 t),z,L=>L = .mat ty ty2 t z h
 | _,_,_=>False
theorem ZFw {U:Nat→Prop} {γ1 γ2 γ3:Nat→Gh} {u s1 s2 s3:Nat} {x1 x2 x3:LV} (c1:CE U γ1 γ2 u s1 s2 x1 x2) (c2:CE U γ2 γ3 u s2 s3 x2 x3):CE U γ1 γ3 u s1 s3 x1 x3:=CE.tr c1 c2
theorem Z0o {U U':Nat→Prop} {γ γ1 γ2:Nat→Gh} {u s s':Nat} {x x':LV} (hU:∀ k,U k→U' k) (hg:γ2 u=γ1 u) (c:CE U' γ γ1 u s s' x x'):CE U γ γ2 u s s' x x':=by
  cases x <;> cases x' <;> simp only[CE]at c ⊢
  · rw[hg,c]
  · exact⟨hg.trans c.1,c.2.1,c.2.2.1,λh=>c.2.2.2 (hU _ h)⟩
  all_goals first
    | (obtain⟨ob,cap,rows,a1,a2,a3⟩:=c;exact⟨ob,cap,rows,a1,hg.trans a2,a3⟩)
    | (obtain⟨a1,a2,⟨ob,cap,rows,rows',a3,a4,a5⟩,a6⟩:=c
       exact⟨a1,a2,⟨ob,cap,rows,rows',a3,hg.trans a4,λh=>a5 (hU _ h)⟩,λh=>a6 (hU _ h)⟩)
theorem CE_head {U:Nat→Prop} {γ γ':Nat→Gh} {u s s' n0 hh:Nat} {c:CT} {z:c.den} {L L':LV} {v:Zb} {es:List Loc} (hU:∀ k,n0≤k→¬ U k) (hs:n0≤s') (h:Z5g (λ_=>True) hh c z L) (h':Z5g (n0≤·) hh c z L') (hg:γ' u=γ u) (hc:CRL v c z (γ u) es):CE U γ γ' u s s' L L':=by
 cases c with
 | own ty t=>subst h;subst h';exact⟨hg,rfl,rfl,λe=>absurd e (hU _ hs)⟩
 | mat ty ty2 t =>
  obtain⟨hv,_,rfl⟩:=h;obtain⟨hv',h2,rfl⟩:=h';obtain⟨ob,cap,rows,es2,h3,h4,h5⟩:=hc;exact⟨rfl,rfl,⟨ob,cap,rows,rows,h3,hg.trans h3,λe=>absurd e (hU _ h2)⟩,λe=>absurd e (hU _ hs)⟩
 | box ty c=>obtain⟨x,rfl⟩:=h;obtain⟨x',rfl⟩:=h';exact hg
 | agg c=>cases c with
  | mat ty ty2 t =>
   subst h;subst h';obtain⟨ob,cap,rows,es2,h3,h4,h5⟩:=hc;exact⟨rfl,rfl,⟨ob,cap,rows,rows,h3,hg.trans h3,λ_=>⟨rfl,rfl,rfl⟩⟩,λe=>absurd e (hU _ hs)⟩
  | _=>exact h.elim
 | _=>exact h.elim
section
variable {N:Nat} {G:V→Value→Prop} {w0:Base} {v0:Zb} {U X:Nat→Prop} {f:Fr} {a:Act} {w:World} {n:Nat}
theorem Z9t {ρ:Type} (hn:¬ U n) (hX:X n) {hh:Nat} {c:CT} {u:Nat} (hu:U u) {K:c.den→Ev ρ} {l:Lo} {Post:ρ→Fr→Lo→Prop} {γ:Nat→Gh} {v:Zb} {ℓ ex:List Loc}
  (h:Zk n (Z3c hh c u K) f l Post) (hr:RelX N G w0 v0 U X f l a w γ v ℓ) (hex:St N w0 v0 [] (ex++ℓ) v a w) :
  ∃ z l' γ' v' ℓ' es e0,Zk n (K z) f l' Post∧RelX N G w0 v0 U X f l' a w γ' v' ℓ'∧St N w0 v0 [] (es++(ex++ℓ')) v' a w∧Le U v γ l v' γ' l'∧CRL v' c z (γ u) es∧lkE l u=some e0∧lkE l' u=none∧Z5g (λ_=>True) hh c z e0.x:=by
 cases c with
 | own ty t =>
  simp only[Z3c]at h;obtain⟨e,he,h⟩:=h;obtain⟨kk,st,L⟩:=e;have hkk:kk=u:=(Zo he).2;subst hkk;obtain⟨es,E',h1,_,_,h3,h4⟩:=hr.del he
  cases L with
  | own ty' t' xs fz =>
   cases fz with
   | true=>exact h.elim
   | false =>
    simp only at h;split at h
    ·rename_i ys hty hcast;have hty:=eQ hty;subst hty;obtain⟨c3,c4⟩:=Z2 hcast
     cases c3;cases c4
     obtain⟨ob,cap,d,g1,g2,rfl⟩:=h1;exact⟨_,_,_,_,_,_,_,h,h4,hex.perm ((List.Perm.append_left ex h3).trans ZHd),Le.era hr kk,⟨ob,cap,d,g1,g2,rfl⟩,he,Zbi (ZTb hr.nd).2,rfl⟩
    ·exact h.elim
  | box _ _=>exact h.elim
  | mid _ _ _ _ _ _=>exact h.elim
  | mat _ _ _ _ _=>exact h.elim
 | mat ty ty2 t =>
  simp only[Z3c]at h;obtain⟨e,he,h⟩:=h;obtain⟨kk,st,L⟩:=e;have hkk:kk=u:=(Zo he).2;subst hkk;obtain⟨es,E',h1,_,_,h3,h4⟩:=hr.del he
  cases L with
  | mat ty' ty2' t' mm hv =>
   simp only at h;split at h
   ·rename_i m' hty hty2 hcast;have hty:=eQ hty;have hty2:=eQ hty2;subst hty hty2;obtain⟨c3,c4⟩:=Z2 hcast
    cases c3;cases c4
    obtain⟨ob,cap,rows,es2,g1,g2,rfl⟩:=h1;exact⟨_,_,_,_,_,_,_,h,h4,hex.perm ((List.Perm.append_left ex h3).trans ZHd),Le.era hr kk,⟨ob,cap,rows,es2,g1,g2,rfl⟩,he,Zbi (ZTb hr.nd).2,hv,trivial,rfl⟩
   ·exact h.elim
  | box _ _=>exact h.elim
  | mid _ _ _ _ _ _=>exact h.elim
  | own _ _ _ _=>exact h.elim
 | box ty c =>
  simp only[Z3c]at h;obtain⟨e,he,h⟩:=h;obtain⟨kk,st,L⟩:=e;obtain⟨hm,hkk⟩:=Zo he;have hkk:kk=u:=hkk;subst hkk;obtain⟨es,E',h1,_,_,h3,h4⟩:=hr.del he
  cases L with
  | box ty' x1 =>
   simp only at h;split at h
   ·rename_i hty;have hty:=eQ hty;subst hty;obtain⟨b,c1,g1,g2,g3,rfl⟩:=h1;have hk1:x1.ok U:=(hr.ul _ hm).2.2;obtain⟨z,l1,γ1,v1,ℓ1,e1,k1,k2,k3,k4,k5,k6⟩:=Z8e hn hX FU (ex:=.box b ty c1 :: ex) h h4 (hex.perm ((List.Perm.append_left ex h3).trans ZHd)) hk1 (ZDb (Le.era hr kk) hk1 g2);refine⟨z,l1,γ1,v1,ℓ1,.box b ty c1 :: e1,_,k1,k2,k3.perm ?_,(Le.era hr kk).trans k4,⟨b,c1,e1,g1,k5,g3,rfl⟩,he,?_,x1,rfl⟩
    ·exact List.perm_middle
    ·cases hx:lkE l1 kk with
     | none=>rfl
     | some e' =>
      obtain⟨e,he2,_⟩:=k4.l kk e' hu hx;rw[Zbi (ZTb hr.nd).2]at he2;cases he2
   ·exact h.elim
  | own _ _ _ _=>exact h.elim
  | mid _ _ _ _ _ _=>exact h.elim
  | mat _ _ _ _ _=>exact h.elim
 | agg c=>cases c with
  | mat ty ty2 t =>
   simp only[Z3c]at h;obtain⟨e,he,h⟩:=h;obtain⟨kk,st,L⟩:=e;have hkk:kk=u:=(Zo he).2;subst hkk;obtain⟨es,E',h1,_,_,h3,h4⟩:=hr.del he
   cases L with
   | mat ty' ty2' t' mm hv =>
    simp only at h;split at h
    ·rename_i m' hty hty2 hcast hhv;have hty:=eQ hty;have hty2:=eQ hty2;have hhv:=eQ hhv;subst hty hty2 hhv;obtain⟨c3,c4⟩:=Z2 hcast
     cases c3;cases c4
     obtain⟨ob,cap,rows,es2,g1,g2,rfl⟩:=h1;exact⟨_,_,_,_,_,_,_,h,h4,hex.perm ((List.Perm.append_left ex h3).trans ZHd),Le.era hr kk,⟨ob,cap,rows,es2,g1,g2,rfl⟩,he,Zbi (ZTb hr.nd).2,rfl⟩
    ·exact h.elim
   | box _ _=>exact h.elim
   | mid _ _ _ _ _ _=>exact h.elim
   | own _ _ _ _=>exact h.elim
  | _=>simp only[Z3c]at h;exact h.elim
 | _=>simp only[Z3c]at h;exact h.elim
end
theorem Z9h:∀ (g:Nat) {x z:V} {off n:Nat} {ag:Bool} {U:Nat→Prop},Zna g x off n ag=some z→x.ok U→z.ok U
 | 0,_,_,_,_,_,_,h,_=>by cases h
 | g+1,x,z,off,n,ag,U,h,hk=>by
  have whole:∀ {y:V},(match Nat.beq off 0,Nat.beq y.size n,eqB y.isAgg ag with
    | true,true,true=>some y
    | _,_,_=>match y with
     | .agg c=>Zna g c off n ag
     | .data t x=>match Z2b t x with
      | some c=>Zna g c off n ag
      | none=>none
     | _=>none)=some z→y.ok U→z.ok U:=by
   intro y hy hk;split at hy
   ·cases hy;exact hk
   ·split at hy
    ·exact Z9h g hy hk
    ·split at hy
     ·rename_i he;exact Z9h g hy (Z4t he)
     ·cases hy
    ·cases hy
  cases x with
  | nl=>simp only[Zna]at h;cases h
  | cons a b =>
   simp only[Zna]at h;split at h
   ·exact Z9h g h hk.1
   ·split at h
    ·exact Z9h g h hk.2
    ·cases h
  | data t x=>exact whole (y:=.data t x) h hk
  | agg c=>exact whole (y:=.agg c) h hk
  | nilS=>exact whole (y:=.nilS) h hk
  | own u=>exact whole (y:=.own u) h hk
  | row u i hv cv t r=>exact whole (y:=.row u i hv cv t r) h hk
  | ptr u o=>exact whole (y:=.ptr u o) h hk
  | el u i cv t x o=>exact whole (y:=.el u i cv t x o) h hk
  | rp u i hv cv t r=>exact whole (y:=.rp u i hv cv t r) h hk
  | rel u i j hv cv t r x o=>exact whole (y:=.rel u i j hv cv t r x o) h hk
  | vp t x o=>exact whole (y:=.vp t x o) h hk
  | tup c=>exact whole (y:=.tup c) h hk
  | fn f c=>exact whole (y:=.fn f c) h hk
  | ifc f c=>exact whole (y:=.ifc f c) h hk
  | undef=>exact whole (y:=.undef) h hk
structure H0 (G:V→Value→Prop) (n0:Nat) (f0:Fr) (l0:Lo):Prop where
 f:∀ t e,lkE f0 t=some e→e.x.ok (· < n0)∧e.st<n0
 l:∀ e ∈ l0,e.k<n0∧e.st<n0∧e.x.ok (· < n0) (· < n0)
 nd:(l0.map En.k).Nodup
 g:∀ x y,G x y→x.ok (· < n0)
theorem Rel.h0 {N:Nat} {G:V→Value→Prop} {w0:Base} {v0:Zb} {n:Nat} {f:Fr} {l:Lo} {a:Act} {w:World} (h:Rel N G w0 v0 (· < n) f l a w):H0 G n f l:=by
 obtain⟨γ,v,ℓ,h⟩:=h;exact⟨h.uf,h.ul,h.nd,λx y hg=>(h.gh x y hg).2⟩
theorem hvOf_le {G:V→Value→Prop} {n0:Nat} {f0:Fr} {l0:Lo} (h0:H0 G n0 f0 l0) (u:Nat):Z0a l0 u≤n0:=by
 unfold Z0a;split
 ·rename_i he;exact Nat.le_of_lt (h0.l _ (Zo he).1).2.2
 ·exact Nat.zero_le _
theorem ZZu {x:V} {u n:Nat} (h:idV x=some u) (hk:x.ok (· < n)):u<n:=by
 unfold idV at h;split at h
 ·cases h;exact hk
 ·cases h;exact hk
 ·cases h
theorem ZSo {G:V→Value→Prop} {n0:Nat} {f0:Fr} {l0:Lo} (h0:H0 G n0 f0 l0):∀ {p:Pl} {u:Nat},Zpc f0 l0 p=some u→u<n0
 | .sl s,u,h=>by
  simp only[Zpc]at h
  split at h
  ·rename_i e he;exact ZZu h (h0.f _ _ he).1
  ·cases h
 | .fld p off,u,h=>by
  simp only[Zpc]at h
  split at h
  ·split at h
   ·rename_i he
    split at h
    ·rename_i hg
     have:=(h0.l _ (Zo he).1).2.2
     exact ZZu h (Z9h FU hg this)
    ·cases h
   ·cases h
  ·cases h
def SRel (a:Act) (v:Zb) (t:Nat) (c:CT) (z:c.den) (es:List Loc):Prop:=∃ cs,a.tmps.getD t undef=c.vl cs∧CR v c false z cs es
def LRel (v:Zb) (γ:Nat→Gh) (l:Lo) (n0:Nat) (f0:Fr) (l0:Lo) (u:Nat) (p:Pl) (c:CT) (z:c.den) (es:List Loc):Prop :=
 Zpc f0 l0 p=some u∧∃ g e0,lkE l u=some e0∧CRL v c z g es∧∀ (γ':Nat→Gh) (st':Nat) (L':LV),γ' u=g→n0≤st'→Z5g (n0≤·) (Z0a l0 u) c z L'→CE (· < n0) γ γ' u e0.st st' e0.x L'
def VRel (a:Act) (v:Zb) (γ:Nat→Gh) (l:Lo) (n0:Nat) (f0:Fr) (l0:Lo):(vs:List Vr)→(ctL (vs.map Vr.ct)).den→List Loc→List Nat→Prop
 | [],_,es,us=>es=[]∧us=[]
 | [.s t c],z,es,us=>us=[]∧SRel a v t c z es
 | [.l p c],z,es,us=>∃ u,us=[u]∧LRel v γ l n0 f0 l0 u p c z es
 | .s t c :: w :: r,z,es,us=>∃ e1 e2,es=e1++e2∧SRel a v t c z.1 e1∧VRel a v γ l n0 f0 l0 (w :: r) z.2 e2 us
 | .l p c :: w :: r,z,es,us=>∃ e1 e2 u us',es=e1++e2∧us=u :: us'∧LRel v γ l n0 f0 l0 u p c z.1 e1∧VRel a v γ l n0 f0 l0 (w :: r) z.2 e2 us'
theorem ZMx {a:Act} {v v':Zb} (h:v.le v') {t:Nat} {c:CT} {z:c.den} {es:List Loc} (k:SRel a v t c z es):SRel a v' t c z es:=by
 obtain⟨cs,h1,h2⟩:=k;exact⟨cs,h1,ZNo h h2⟩
theorem Zly {v v':Zb} (h:v.le v') {γ:Nat→Gh} {l:Lo} {n0:Nat} {f0:Fr} {l0:Lo} {u:Nat} {p:Pl} {c:CT} {z:c.den} {es:List Loc} (k:LRel v γ l n0 f0 l0 u p c z es):LRel v' γ l n0 f0 l0 u p c z es:=by
 obtain⟨h1,g,e0,h2,h3,h4⟩:=k;exact⟨h1,g,e0,h2,ZTA h h3,h4⟩
section
variable {N:Nat} {G:V→Value→Prop} {w0:Base} {v0:Zb} {f:Fr} {a:Act} {w:World} {n:Nat}
theorem Z2t {ρ:Type} {t:Nat} {c:CT} {K:c.den→Ev ρ} {l:Lo} {Post:ρ→Fr→Lo→Prop} {γ:Nat→Gh} {v:Zb} {ℓ ex:List Loc}
  (h:Zk n (.rdS t λv=>Zaa FU c v K) f l Post) (hr:RelX N G w0 v0 (· < n) (· < n+1) f l a w γ v ℓ) (hex:St N w0 v0 [] (ex++ℓ) v a w) :
  ∃ z l' γ' v' ℓ' es,Zk n (K z) f l' Post∧RelX N G w0 v0 (· < n) (· < n+1) f l' a w γ' v' ℓ'∧St N w0 v0 [] (es++(ex++ℓ')) v' a w∧Le (· < n) v γ l v' γ' l'∧SRel a v' t c z es:=by
 obtain⟨e,he,h⟩:=h;have hrv:=hr.fr t e he;obtain⟨cs,hcs,hy⟩:=Zmb hrv (λq hq=>by rw[hq]at h;exact Zmx h);obtain⟨z,l',γ',v',ℓ',es,k1,k2,k3,k4,k5,k6⟩:=Z8e (U:=(· < n)) (X:=(· < n+1)) (Nat.lt_irrefl n) (Nat.lt_succ_self n) FU h hr hex (hr.uf t e he).1 hcs;exact⟨z,l',γ',v',ℓ',es,k1,k2,k3,k4,cs,by rw[hy,ZAg k6],k5⟩
theorem Zht {ρ:Type} {u:Nat} {p:Pl} {c:CT} {K:c.den→Ev ρ} {l lE f0l:Lo} {f0:Fr} {n0:Nat} {Post:ρ→Fr→Lo→Prop} {γ γE:Nat→Gh} {v vE:Zb} {ℓ ex:List Loc} (h0:H0 G n0 f0 f0l) (hn0:n0≤n) (hid:Zpc f0 f0l p=some u)
  (h:Zk n (Z3c (Z0a f0l u) c u K) f l Post) (hr:RelX N G w0 v0 (· < n) (· < n+1) f l a w γ v ℓ) (hex:St N w0 v0 [] (ex++ℓ) v a w) (hE:Le (· < n) vE γE lE v γ l) :
  ∃ z l' γ' v' ℓ' es,Zk n (K z) f l' Post∧RelX N G w0 v0 (· < n) (· < n+1) f l' a w γ' v' ℓ'∧St N w0 v0 [] (es++(ex++ℓ')) v' a w∧Le (· < n) v γ l v' γ' l'∧LRel v' γE lE n0 f0 f0l u p c z es∧(∃ e,lkE l u=some e)∧lkE l' u=none:=by
 have hu:u<n:=Nat.lt_of_lt_of_le (ZSo h0 hid) hn0;obtain⟨z,l',γ',v',ℓ',es,e0,k1,k2,k3,k4,k5,k6,k7,k8⟩:=Z9t (U:=(· < n)) (X:=(· < n+1)) (Nat.lt_irrefl n) (Nat.lt_succ_self n) hu h hr hex;obtain⟨eE,q1,q2⟩:=hE.l u e0 hu k6;refine⟨z,l',γ',v',ℓ',es,k1,k2,k3,k4,⟨hid,γ u,eE,q1,k5,λγ2 st' L' hg hs hh=>?_⟩,⟨e0,k6⟩,k7⟩;exact ZFw (Z0o (λk hk=>Nat.lt_of_lt_of_le hk hn0) rfl q2) (CE_head (n0:=n0) (λk hk h=>by omega) hs k8 hh hg k5)
theorem Zjm {ρ:Type} {f0:Fr} {l0 lE:Lo} {n0:Nat} {γE:Nat→Gh} {vE:Zb} (h0:H0 G n0 f0 l0) (hn0:n0≤n):∀ {vs:List Vr} {K:(ctL (vs.map Vr.ct)).den→Ev ρ} {l:Lo} {Post:ρ→Fr→Lo→Prop} {γ:Nat→Gh} {v:Zb} {ℓ ex:List Loc},
  Zk n (Zof f0 l0 vs K) f l Post→RelX N G w0 v0 (· < n) (· < n+1) f l a w γ v ℓ→St N w0 v0 [] (ex++ℓ) v a w→Le (· < n) vE γE lE v γ l →
  ∃ z l' γ' v' ℓ' es us,Zk n (K z) f l' Post∧RelX N G w0 v0 (· < n) (· < n+1) f l' a w γ' v' ℓ'∧St N w0 v0 [] (es++(ex++ℓ')) v' a w∧Le (· < n) v γ l v' γ' l'∧VRel a v' γE lE n0 f0 l0 vs z es us∧us.Nodup∧∀ u ∈ us,u<n0∧(∃ e,lkE l u=some e)∧u ∈ Zyd f0 l0 vs
 | [],K,l,Post,γ,v,ℓ,ex,h,hr,hex,hE=>by
  obtain⟨E,hE',_⟩:=hr.lr
  exact⟨(),l,γ,v,ℓ,[],[],h,hr,hex,Le.refl hE' (Zb.le_refl _),⟨rfl,rfl⟩,List.nodup_nil,λu hu=>by cases hu⟩
 | [.s t c],K,l,Post,γ,v,ℓ,ex,h,hr,hex,hE=>by
  obtain⟨z,l',γ',v',ℓ',es,k1,k2,k3,k4,k5⟩:=Z2t h hr hex
  exact⟨z,l',γ',v',ℓ',es,[],k1,k2,k3,k4,⟨rfl,k5⟩,List.nodup_nil,λu hu=>by cases hu⟩
 | [.l p c],K,l,Post,γ,v,ℓ,ex,h,hr,hex,hE=>by
  simp only[Zof]at h
  split at h
  ·rename_i u hid
   obtain⟨z,l',γ',v',ℓ',es,k1,k2,k3,k4,k5,k6,k7⟩:=Zht h0 hn0 hid h hr hex hE
   refine⟨z,l',γ',v',ℓ',es,[u],k1,k2,k3,k4,⟨u,rfl,k5⟩,List.nodup_cons.2 ⟨by simp,List.nodup_nil⟩,λu' hu=>?_⟩
   rcases List.mem_singleton.1 hu with rfl
   exact⟨ZSo h0 hid,k6,by simp only[Zyd,hid];simp⟩
  ·exact h.elim
 | .s t c :: w :: r,K,l,Post,γ,v,ℓ,ex,h,hr,hex,hE=>by
  obtain⟨z1,l1,γ1,v1,ℓ1,e1,k1,k2,k3,k4,k5⟩:=Z2t (K:=λx=>Zof f0 l0 (w :: r) λy=>K (x,y)) h hr hex
  obtain⟨z2,l2,γ2,v2,ℓ2,e2,us,q1,q2,q3,q4,q5,q6,q7⟩:=Zjm h0 hn0 (ex:=e1++ex) k1 k2 (by rw[aAq];exact k3) (hE.trans k4)
  refine⟨(z1,z2),l2,γ2,v2,ℓ2,e1++e2,us,q1,q2,q3.perm ?_,k4.trans q4,⟨e1,e2,rfl,ZMx q4.v k5,q5⟩,q6,λu hu=>?_⟩
  ·rw[aAq,aAq];exact ZHd
  ·obtain⟨g1,⟨e,g2⟩,g3⟩:=q7 u hu
   obtain⟨e',g4,_⟩:=k4.l u e (show u<_ by omega) g2
   refine⟨g1,⟨e',g4⟩,?_⟩
   simp only[Zyd]
   split
   ·exact List.mem_cons_of_mem _ g3
   ·exact g3
 | .l p c :: w :: r,K,l,Post,γ,v,ℓ,ex,h,hr,hex,hE=>by
  simp only[Zof]at h
  split at h
  ·rename_i u hid
   obtain⟨z1,l1,γ1,v1,ℓ1,e1,k1,k2,k3,k4,k5,k6,k7⟩:=Zht (K:=λx=>Zof f0 l0 (w :: r) λy=>K (x,y)) h0 hn0 hid h hr hex hE
   obtain⟨z2,l2,γ2,v2,ℓ2,e2,us,q1,q2,q3,q4,q5,q6,q7⟩:=Zjm h0 hn0 (ex:=e1++ex) k1 k2 (by rw[aAq];exact k3) (hE.trans k4)
   refine⟨(z1,z2),l2,γ2,v2,ℓ2,e1++e2,u :: us,q1,q2,q3.perm ?_,k4.trans q4,⟨e1,e2,u,us,rfl,rfl,Zly q4.v k5,q5⟩,List.nodup_cons.2 ⟨λhu=>?_,q6⟩,λu' hu=>?_⟩
   ·rw[aAq,aAq];exact ZHd
   ·obtain⟨_,⟨e,g2⟩,_⟩:=q7 u hu
    rw[k7]at g2;cases g2
   ·have hg:Zyd f0 l0 (.l p c :: w :: r)=u :: Zyd f0 l0 (w :: r):=by simp only[Zyd,hid]
    rw[hg]
    rcases List.mem_cons.1 hu with rfl | hu
    ·exact⟨ZSo h0 hid,k6,List.mem_cons_self⟩
    ·obtain⟨g1,⟨e,g2⟩,g3⟩:=q7 u' hu
     obtain⟨e',g4,_⟩:=k4.l u' e (show u'<_ by omega) g2
     exact⟨g1,⟨e',g4⟩,List.mem_cons_of_mem _ g3⟩
  ·exact h.elim
end
end Go.Eng
namespace Go.Eng
open Go.RowKit
theorem ZWu {v:Zb} {hh:Nat} {c:CT} {z:c.den} {g:Gh} {es:List Loc} {u n:Nat} {l2:Lo} {n2:Nat} (h:CRL v c z g es) (hu:u<n) (hhn:hh≤n) (hi:Z2a hh c z u n=(l2,n2)) :
  n<n2∧(∀ e ∈ l2,(e.k=u∧Z5g (n≤·) hh c z e.x∨n≤e.k∧e.k<n2)∧n≤e.st∧e.st<n2∧e.x.ok (· < n2) (· < n2))∧(l2.map En.k).Nodup ∧
  ∃ γ0:Nat→Gh,γ0 u=g∧∀ (γ:Nat→Gh) (l:Lo),(∀ e ∈ l2,γ e.k=γ0 e.k∧lkE l e.k=some e)→∃ E,F2 (ZGa v γ l) l2 E∧es.Perm E.flatten:=by
 cases c with
 | own ty t =>
  cases hi
  obtain⟨ob,cap,d,rfl,h2,rfl⟩:=h;refine⟨Nat.lt_succ_self n,λe he=>?_,List.nodup_cons.2 ⟨by simp,List.nodup_nil⟩,λ_=>.own ob cap,rfl,λγ l hl=>?_⟩
  ·rcases List.mem_singleton.1 he with rfl;exact⟨.inl ⟨rfl,rfl⟩,Nat.le_refl _,Nat.lt_succ_self _,trivial⟩
  ·exact⟨[_],⟨⟨ob,cap,d,(hl _ (List.mem_singleton.2 rfl)).1,h2,rfl⟩,trivial⟩,List.Perm.refl _⟩
 | mat ty ty2 t =>
  cases hi
  obtain⟨ob,cap,rows,es2,rfl,h2,rfl⟩:=h;refine⟨Nat.lt_succ_self n,λe he=>?_,List.nodup_cons.2 ⟨by simp,List.nodup_nil⟩,λ_=>.mat ob cap rows,rfl,λγ l hl=>?_⟩
  ·rcases List.mem_singleton.1 he with rfl;exact⟨.inl ⟨rfl,n,Nat.le_refl _,rfl⟩,Nat.le_refl _,Nat.lt_succ_self _,Nat.lt_succ_self n⟩
  ·exact⟨[_],⟨⟨ob,cap,rows,es2,(hl _ (List.mem_singleton.2 rfl)).1,h2,rfl⟩,trivial⟩,by simp⟩
 | box ty c =>
  have hi:((⟨u,n,.box ty (Zl c z (n+1)).1⟩ :: (Zl c z (n+1)).2.1:Lo),(Zl c z (n+1)).2.2)=(l2,n2):=hi
  cases hi
  obtain⟨b,c1,e1,rfl,h2,h3,rfl⟩:=h;obtain⟨k1,k2,k3,k4,k5,γ0,k6⟩:=Z2s c (m:=false) (n+1) (x:=(Zl c z (n+1)).1) (l2:=(Zl c z (n+1)).2.1) (n2:=(Zl c z (n+1)).2.2) h2 rfl;have hd:∀ e ∈ (Zl c z (n+1)).2.1,e.k≠u:=λe he hk=>by have:=(k2 e he).1;omega
  refine⟨by omega,λe he=>?_,List.nodup_cons.2 ⟨λhm=>?_,k3⟩,λk=>if k=u then .box b else γ0 k,iP rfl,λγ l hl=>?_⟩
  ·rcases List.mem_cons.1 he with rfl | he
   ·exact⟨.inl ⟨rfl,_,rfl⟩,Nat.le_refl _,(show n<_ by omega),k4⟩
   ·obtain⟨r1,r2,r3,r4,r5⟩:=k2 e he;exact⟨.inr ⟨by omega,r2⟩,by omega,r4,r5⟩
  ·obtain⟨e,he,hk⟩:=List.mem_map.1 hm;exact hd e he hk
  ·obtain⟨hg,hlk⟩:=hl _ List.mem_cons_self;have hg:γ u = .box b:=by rw[show γ u=_ from hg];exact iP rfl
   obtain⟨q1,E,q2,q3⟩:=k6 γ l λe he=>by
    obtain⟨r1,r2⟩:=hl e (List.mem_cons_of_mem _ he);exact⟨r1.trans (iN (hd e he)),r2⟩
   exact⟨[_] :: E,⟨⟨b,c1,hg,q1,h3,rfl⟩,q2⟩,by rw[List.flatten_cons];exact List.Perm.cons _ q3⟩
 | agg c=>cases c with
  | mat ty ty2 t =>
   cases hi
   obtain⟨ob,cap,rows,es2,rfl,h2,rfl⟩:=h;refine⟨Nat.lt_succ_self n,λe he=>?_,List.nodup_cons.2 ⟨by simp,List.nodup_nil⟩,λ_=>.mat ob cap rows,rfl,λγ l hl=>?_⟩
   ·rcases List.mem_singleton.1 he with rfl;exact⟨.inl ⟨rfl,rfl⟩,Nat.le_refl _,Nat.lt_succ_self _,Nat.lt_succ_of_le hhn⟩
   ·exact⟨[_],⟨⟨ob,cap,rows,es2,(hl _ (List.mem_singleton.2 rfl)).1,h2,rfl⟩,trivial⟩,by simp⟩
  | _=>exact h.elim
 | _=>exact h.elim
structure IV (a:Act) (v:Zb) (γE:Nat→Gh) (lE:Lo) (n0:Nat) (us:List Nat) (n1 m:Nat) (f':Fr) (l':Lo) (es:List Loc) (γ0:Nat→Gh):Prop where
 le:n1≤m
 l:∀ e ∈ l',(e.k ∈ us∨n1≤e.k∧e.k<m)∧n1≤e.st∧e.st<m∧e.x.ok (· < m) (· < m)
 nd:(l'.map En.k).Nodup
 f:∀ e ∈ f',e.x.ok (· < m)∧n1≤e.st∧e.st<m
 r:∀ (γ:Nat→Gh) (l:Lo),(∀ e ∈ l',γ e.k=γ0 e.k∧lkE l e.k=some e)→(∀ e ∈ f',RV v γ l e.x (a.tmps.getD e.k undef))∧(∃ E,F2 (ZGa v γ l) l' E∧es.Perm E.flatten)∧∀ e ∈ l',e.k<n0→∃ e0,lkE lE e.k=some e0∧CE (· < n0) γE γ e.k e0.st e.st e0.x e.x
section
variable {a:Act} {v:Zb} {γE:Nat→Gh} {lE:Lo} {n0:Nat}
theorem IV.none {n1:Nat}:IV a v γE lE n0 [] n1 n1 [] [] [] λ_=>.box 0 :=
 ⟨Nat.le_refl _,λe he=>(by cases he),List.nodup_nil,λe he=>(by cases he),λγ l _=>⟨λe he=>(by cases he),⟨[],trivial,List.Perm.refl _⟩,λe he=>(by cases he)⟩⟩
theorem IV.add {us1 us2:List Nat} {n1 m1 m:Nat} {f1 f2:Fr} {l1 l2:Lo} {es1 es2:List Loc} {γ1 γ2:Nat→Gh} (h:IV a v γE lE n0 us1 n1 m1 f1 l1 es1 γ1) (k:IV a v γE lE n0 us2 m1 m f2 l2 es2 γ2) (hd:∀ u ∈ us2,u ∉ us1) (hu:∀ u ∈ us1++us2,u<n1) :
  IV a v γE lE n0 (us1++us2) n1 m (f1++f2) (l1++l2) (es1++es2) λk=>if k ∈ l1.map En.k then γ1 k else γ2 k:=by
 have hd':∀ e ∈ l2,e.k ∉ l1.map En.k:=λe he hm=>by
  obtain⟨e',he',hk⟩:=List.mem_map.1 hm;have h1:=(h.l e' he').1;have h2:=(k.l e he).1;have hle:=h.le;rw[hk]at h1;rcases h1 with h1 | h1 <;> rcases h2 with h2 | h2
  ·exact hd _ h2 h1
  ·have:=hu _ (List.mem_append_left _ h1);omega
  ·have:=hu _ (List.mem_append_right _ h2);omega
  ·omega
 have up:∀ j,j<m1→j<m:=λj hj=>Nat.lt_of_lt_of_le hj k.le;refine⟨Nat.le_trans h.le k.le,λe he=>?_,ZUj h.nd k.nd hd',λe he=>?_,λγ l hl=>?_⟩
 ·rcases List.mem_append.1 he with he | he
  ·obtain⟨r1,r2,r3,r4⟩:=h.l e he;refine⟨?_,r2,up _ r3,LV.ok.mono up up r4⟩;rcases r1 with r1 | r1
   ·exact .inl (List.mem_append_left _ r1)
   ·exact .inr ⟨r1.1,up _ r1.2⟩
  ·obtain⟨r1,r2,r3,r4⟩:=k.l e he;have:=h.le;refine⟨?_,by omega,r3,r4⟩;rcases r1 with r1 | r1
   ·exact .inl (List.mem_append_right _ r1)
   ·exact .inr ⟨by omega,r1.2⟩
 ·rcases List.mem_append.1 he with he | he
  ·obtain⟨r1,r2,r3⟩:=h.f e he;exact⟨V.ok.mono up r1,r2,up _ r3⟩
  ·obtain⟨r1,r2,r3⟩:=k.f e he;have:=h.le;exact⟨r1,by omega,r3⟩
 ·obtain⟨p1,⟨E1,p2,p3⟩,p4⟩:=h.r γ l (Zdm hl);obtain⟨q1,⟨E2,q2,q3⟩,q4⟩:=k.r γ l (Zam hd' hl);refine⟨λe he=>?_,⟨E1++E2,p2.append q2,by rw[List.flatten_append];exact p3.append q3⟩,λe he=>?_⟩
  ·rcases List.mem_append.1 he with he | he
   ·exact p1 e he
   ·exact q1 e he
  ·rcases List.mem_append.1 he with he | he
   ·exact p4 e he
   ·exact q4 e he
theorem IV.s {t n1:Nat} {c:CT} {z:c.den} {es:List Loc} (h:SRel a v t c z es) (hn:n0≤n1):∃ γ0,IV a v γE lE n0 [] n1 (Zl c z (n1+1)).2.2 [⟨t,n1,(Zl c z (n1+1)).1⟩] (Zl c z (n1+1)).2.1 es γ0:=by
 obtain⟨cs,h1,h2⟩:=h;obtain⟨k1,k2,k3,k4,k5,γ0,k6⟩:=Z2s c (n1+1) (x:=(Zl c z (n1+1)).1) (l2:=(Zl c z (n1+1)).2.1) (n2:=(Zl c z (n1+1)).2.2) h2 rfl;refine⟨γ0,by omega,λe he=>?_,k3,λe he=>?_,λγ l hl=>⟨λe he=>?_,(k6 γ l hl).2,λe he hk=>?_⟩⟩
 ·obtain⟨r1,r2,r3,r4,r5⟩:=k2 e he;exact⟨.inr ⟨by omega,r2⟩,by omega,r4,r5⟩
 ·rcases List.mem_singleton.1 he with rfl;exact⟨k4,Nat.le_refl _,(show n1<_ by omega)⟩
 ·rcases List.mem_singleton.1 he with rfl;have hq:=(k6 γ l hl).1;have:=Z4b hq (λc e=>by rw[e]at hq;exact hq);show RV v γ l (Zl c z (n1+1)).1 (a.tmps.getD t undef);rw[h1,← ZAg k5];exact this
 ·have:=(k2 e he).1;omega
theorem IV.p {u n1:Nat} {p:Pl} {c:CT} {z:c.den} {es:List Loc} {f0:Fr} {l0:Lo} (h:LRel v γE lE n0 f0 l0 u p c z es) (hu:u<n1) (hn:n0≤n1) (hv:Z0a l0 u≤n1):∃ γ0,IV a v γE lE n0 [u] n1 (Z2a (Z0a l0 u) c z u n1).2 [] (Z2a (Z0a l0 u) c z u n1).1 es γ0:=by
 obtain⟨_,g,e0,h2,h3,h4⟩:=h;obtain⟨k1,k2,k3,γ0,k4,k5⟩:=ZWu h3 hu hv (l2:=(Z2a (Z0a l0 u) c z u n1).1) (n2:=(Z2a (Z0a l0 u) c z u n1).2) rfl;refine⟨γ0,by omega,λe he=>?_,k3,λe he=>(by cases he),λγ l hl=>⟨λe he=>(by cases he),k5 γ l hl,λe he hk=>?_⟩⟩
 ·obtain⟨r1,r2,r3,r4⟩:=k2 e he;refine⟨?_,r2,r3,r4⟩;rcases r1 with r1 | r1
  ·exact .inl (List.mem_singleton.2 r1.1)
  ·exact .inr r1
 ·obtain⟨r1,r2,_,_⟩:=k2 e he;rcases r1 with ⟨r1,r5⟩ | r1
  ·refine⟨e0,by rw[r1];exact h2,?_⟩;rw[r1];have:Z5g (n0≤·) (Z0a l0 u) c z e.x:=by
    cases c with
    | mat ty ty2 t=>obtain⟨hv,q1,q2⟩:=r5;exact⟨hv,Nat.le_trans hn q1,q2⟩
    | own ty t=>exact r5
    | box ty t=>exact r5
    | agg c=>cases c <;> first | exact r5 | exact r5.elim
    | _=>exact r5.elim
   refine h4 γ e.st e.x ?_ (by omega) this;have:=(hl e he).1;rw[r1]at this;rw[this,k4]
  ·omega
theorem Zun {f0:Fr} {l0:Lo}:∀ {vs:List Vr} {z:(ctL (vs.map Vr.ct)).den} {es:List Loc} {us:List Nat} {n1:Nat},VRel a v γE lE n0 f0 l0 vs z es us→us.Nodup→(∀ u ∈ us,u<n1)→n0≤n1→(∀ u,Z0a l0 u≤n0) →
  ∃ γ0,IV a v γE lE n0 us n1 (ZXb f0 l0 vs z n1).2.2 (ZXb f0 l0 vs z n1).1 (ZXb f0 l0 vs z n1).2.1 es γ0
 | [],z,es,us,n1,h,hn,hu,h0,hv=>by
  obtain⟨rfl,rfl⟩:=h
  exact⟨_,IV.none⟩
 | [.s t c],z,es,us,n1,h,hn,hu,h0,hv=>by
  obtain⟨rfl,h⟩:=h
  exact IV.s h h0
 | [.l p c],z,es,us,n1,h,hn,hu,h0,hv=>by
  obtain⟨u,rfl,h⟩:=h
  have e:ZXb f0 l0 [.l p c] z n1=([],(Z2a (Z0a l0 u) c z u n1).1,(Z2a (Z0a l0 u) c z u n1).2):=by simp only[ZXb,h.1]
  rw[e]
  exact IV.p h (hu u (by simp)) h0 (Nat.le_trans (hv u) h0)
 | .s t c :: w :: r,z,es,us,n1,h,hn,hu,h0,hv=>by
  obtain⟨e1,e2,rfl,h1,h2⟩:=h
  obtain⟨γ1,k1⟩:=IV.s (a:=a) (v:=v) (γE:=γE) (lE:=lE) h1 h0
  have hle:=k1.le
  obtain⟨γ2,k2⟩:=Zun (vs:=w :: r) (n1:=(Zl c z.1 (n1+1)).2.2) h2 hn (λu h=>Nat.lt_of_lt_of_le (hu u h) hle) (Nat.le_trans h0 hle) hv
  exact⟨_,k1.add k2 (λu _ h=>by cases h) hu⟩
 | .l p c :: w :: r,z,es,us,n1,h,hn,hu,h0,hv=>by
  obtain⟨e1,e2,u,us',rfl,rfl,h1,h2⟩:=h
  obtain⟨γ1,k1⟩:=IV.p (a:=a) (v:=v) (γE:=γE) (lE:=lE) h1 (hu u (by simp)) h0 (Nat.le_trans (hv u) h0)
  have hle:=k1.le
  obtain⟨n3,n4⟩:=List.nodup_cons.1 hn
  obtain⟨γ2,k2⟩:=Zun (vs:=w :: r) (n1:=(Z2a (Z0a l0 u) c z.1 u n1).2) h2 n4 (λu' h=>Nat.lt_of_lt_of_le (hu u' (by simp[h])) hle) (Nat.le_trans h0 hle) hv
  have e:ZXb f0 l0 (.l p c :: w :: r) z n1=((ZXb f0 l0 (w :: r) z.2 (Z2a (Z0a l0 u) c z.1 u n1).2).1,(Z2a (Z0a l0 u) c z.1 u n1).1++(ZXb f0 l0 (w :: r) z.2 (Z2a (Z0a l0 u) c z.1 u n1).2).2.1,(ZXb f0 l0 (w :: r) z.2 (Z2a (Z0a l0 u) c z.1 u n1).2).2.2):=by simp only[ZXb,h1.1]
  rw[e]
  refine⟨_,k1.add k2 (λu' h hm=>?_) hu⟩
  rcases List.mem_singleton.1 hm with rfl
  exact n3 h
end
theorem F2.impm {α β:Type} {R R':α→β→Prop}:∀ {l:List α} {m:List β},(∀ a ∈ l,∀ b ∈ m,R a b→R' a b)→F2 R l m→F2 R' l m
 | [],[],_,_=>trivial
 | a :: l,b :: m,h,k=>⟨h a (by simp) b (by simp) k.1,F2.impm (λx hx y hy=>h x (by simp[hx]) y (by simp[hy])) k.2⟩
 | [],_ :: _,_,k=>k.elim
 | _ :: _,[],_,k=>k.elim
theorem ZGu {R:En LV→List Loc→Prop}:∀ {s l:Lo} {E:List (List Loc)},(s.map En.k).Nodup→(∀ e ∈ s,lkE l e.k=some e)→(l.map En.k).Nodup→F2 R l E→∃ Es rest,F2 R s Es∧E.flatten.Perm (Es.flatten++rest)
 | [],l,E,_,_,_,_=>⟨[],E.flatten,trivial,List.Perm.refl _⟩
 | e :: s,l,E,hn,hs,hl,hE=>by
  simp only[List.map_cons,List.nodup_cons]at hn
  obtain⟨es,E',h1,h2,h3⟩:=ZBf hE (hs e (by simp))
  obtain⟨Es,rest,k1,k2⟩:=ZGu (s:=s) (l:=era l e.k) hn.2 (λe2 he=>by
   rw[Z5b hl,iN (λh=>hn.1 (by rw[h];exact List.mem_map.2 ⟨e2,he,rfl⟩))]
   exact hs e2 (by simp[he])) (ZTb hl).1 h2
  exact⟨es :: Es,rest,⟨h1,k1⟩,h3.trans (by rw[List.flatten_cons,aAq];exact List.Perm.append_left _ k2)⟩
theorem ZMo {β:Type} {l l':List (En β)} {k:Nat}:lkE (l++l') k=(lkE l k).or (lkE l' k):=by
 induction l with
 | nil=>rfl
 | cons p r ih =>
  rw[List.cons_append,ZL,ZL];split
  ·rfl
  ·exact ih
theorem Z4p {n:Nat} {l:Lo}:∀ {s:Lo},Zfj n l s=true→∀ e ∈ s,∃ e',lkE l e.k=some e'∧e'.st<n
 | [],_,_,h=>by cases h
 | e :: s,h,e1,he1=>by
  simp only[Zfj]at h
  split at h
  ·rename_i e' he'
   split at h
   ·cases h
   ·rename_i hb
    rcases List.mem_cons.1 he1 with rfl | he1
    ·exact⟨e',he',Nat.lt_of_not_le λhle=>by rw[Nat.ble_eq_true_of_le hle]at hb;cases hb⟩
    ·exact Z4p h e1 he1
  ·cases h
theorem ZLq {n:Nat} {f:Fr}:∀ {s:List Nat},Zmj n f s=true→∀ t ∈ s,∃ e',lkE f t=some e'∧e'.st<n
 | [],_,_,h=>by cases h
 | t :: s,h,t1,ht1=>by
  simp only[Zmj]at h
  split at h
  ·rename_i e' he'
   split at h
   ·cases h
   ·rename_i hb
    rcases List.mem_cons.1 ht1 with rfl | ht1
    ·exact⟨e',he',Nat.lt_of_not_le λhle=>by rw[Nat.ble_eq_true_of_le hle]at hb;cases hb⟩
    ·exact ZLq h t1 ht1
  ·cases h
theorem Z0i {f:Fr}:∀ {ks:List Nat} {t:Nat} {e:En V},lkE (Zcb f ks) t=some e→lkE f t=some e∧t ∈ ks
 | [],_,_,h=>by cases h
 | k :: ks,t,e,h=>by
  simp only[Zcb]at h
  split at h
  ·rename_i e' he'
   rw[ZL]at h
   split at h
   ·rename_i hk
    cases h
    have:=(Zo he').2
    rw[this]at hk;subst hk
    exact⟨he',by simp⟩
   ·have:=Z0i h;exact⟨this.1,by simp[this.2]⟩
  ·have:=Z0i h;exact⟨this.1,by simp[this.2]⟩
theorem Zvg {l:List Nat} {t:Nat}:ZDa l t=true↔t ∈ l:=by
 induction l with
 | nil=>simp[ZDa]
 | cons k r ih =>
  simp only[ZDa]
  cases hb:Nat.beq k t
  ·simp only[List.mem_cons];rw[ih];have:¬ t=k:=λe=>by rw[e]at hb;simp at hb
   simp[this]
  ·have:=eQ hb;simp[this]
theorem Zyr {b:Nat} {rs us:List Nat}:∀ {l:Lo},(Z8d b rs us l).Sublist l∧∀ e ∈ Z8d b rs us l,e.k ∉ us
 | []=>⟨List.Sublist.slnil,λe h=>by cases h⟩
 | e :: r=>by
  obtain⟨h1,h2⟩:=Zyr (b:=b) (rs:=rs) (us:=us) (l:=r)
  simp only[Z8d]
  split
  ·exact⟨h1.cons e,h2⟩
  ·rename_i hm
   have hm:e.k ∉ us:=λh=>by rw[Zvg.2 h]at hm;cases hm
   have both:(e :: Z8d b rs us r).Sublist (e :: r)∧∀ e' ∈ e :: Z8d b rs us r,e'.k ∉ us:=⟨h1.cons_cons e,λe' he'=>by
    rcases List.mem_cons.1 he' with rfl | he'
    ·exact hm
    ·exact h2 e' he'⟩
   split
   ·exact both
   ·split
    ·exact both
    ·exact⟨h1.cons e,h2⟩
end Go.Eng
namespace Go.Eng
open Go.RowKit
section
variable {N:Nat} {G:V→Value→Prop} {w0:Base} {v0:Zb} {a:Act} {w:World}
theorem Zlz {n0 n m:Nat} {f f0 fI:Fr} {l l0 l2 s lN:Lo} {γ γ2 γ0:Nat→Gh} {v v2:Zb} {ℓ ℓ2 es:List Loc} {us ks:List Nat}
  (h0:H0 G n0 f0 l0) (hn:n0≤n) (hr:RelX N G w0 v0 (· < n) (· < n) f l a w γ v ℓ) (hr2:RelX N G w0 v0 (· < n) (· < n+1) f l2 a w γ2 v2 ℓ2) (hst:St N w0 v0 [] (es++ℓ2) v2 a w) (hle:Le (· < n) v γ l v2 γ2 l2)
  (ho1:Old n f l f l2) (ho:Old n0 f0 l0 f l) (hs:s.Sublist l0) (hsu:∀ e ∈ s,e.k ∉ us) (hss:Zfj n0 l2 s=true) (hus:∀ u ∈ us,u<n0) (hI:IV a v2 γ l n0 us n0 m fI lN es γ0) (hks:Zmj n0 f ks=true) :
  ∃ γN ℓN,(∀ e ∈ lN,γN e.k=γ0 e.k∧lkE (lN++s) e.k=some e)∧RelX N G w0 v0 (· < m) (· < m) (fI++Zcb f0 ks) (lN++s) a w γN v2 ℓN∧Old n0 f0 l0 (fI++Zcb f0 ks) (lN++s):=by
 have hsm:∀ e ∈ s,e ∈ l0:=λe he=>hs.subset he;have hsn:(s.map En.k).Nodup:=(hs.map _).nodup h0.nd;have hs2:∀ e ∈ s,lkE l2 e.k=some e∧lkE l e.k=some e:=λe he=>by
  obtain⟨e',h1,h2⟩:=Z4p hss e he;have h3:=ho1.2 e.k e' h1 (Nat.lt_of_lt_of_le h2 hn);have h4:=ho.2 e.k e' h3 h2;rw[ZCd h0.nd (hsm e he)]at h4
  cases h4
  exact⟨h1,h3⟩
 have hdis:∀ e ∈ s,e.k ∉ lN.map En.k:=λe he hm=>by
  obtain⟨e',he',hk⟩:=List.mem_map.1 hm;have h1:=(h0.l e (hsm e he)).1;rcases (hI.l e' he').1 with h2 | h2
  ·exact hsu e he (hk ▸ h2)
  ·omega
 have hnd:((lN++s).map En.k).Nodup:=ZUj hI.nd hsn hdis
 let γN:Nat→Gh:=λk=>if k ∈ lN.map En.k then γ0 k else γ2 k
 have hγ:∀ e ∈ lN,γN e.k=γ0 e.k∧lkE (lN++s) e.k=some e:=λe he =>
  ⟨iP (List.mem_map.2 ⟨e,he,rfl⟩),ZCd hnd (List.mem_append_left _ he)⟩
 have hγs:∀ e ∈ s,γN e.k=γ2 e.k:=λe he=>iN (hdis e he);obtain⟨r1,⟨EN,r2,r3⟩,r4⟩:=hI.r γN (lN++s) hγ;obtain⟨E,hE,hpE⟩:=hr.lr;have leN:Le (· < n0) v γ l v2 γN (lN++s):=⟨hle.v,λu e' hu he'=>by
  have hmem:=(Zo he').1;have hk:=(Zo he').2;rcases List.mem_append.1 hmem with hm | hm
  ·obtain⟨e0,q1,q2⟩:=r4 e' hm (by rw[hk];exact hu);rw[hk]at q1 q2;exact⟨e0,q1,q2⟩
  ·obtain⟨q1,q2⟩:=hs2 e' hm;rw[hk]at q1 q2;obtain⟨e,q3,q4⟩:=hle.l u e' (Nat.lt_of_lt_of_le hu hn) q1;refine⟨e,q3,Z0o (λk hk=>Nat.lt_of_lt_of_le hk hn) ?_ q4⟩;have:=hγs e' hm;rw[hk]at this;exact this⟩
 have up:∀ k,k<n0→k<m:=λk hk=>Nat.lt_of_lt_of_le hk hI.le;obtain⟨E2,hE2,hpE2⟩:=hr2.lr;obtain⟨Es,rest,t1,t2⟩:=ZGu hsn (λe he=>(hs2 e he).1) hr2.nd hE2;have hS:F2 (ZGa v2 γN (lN++s)) s Es:=t1.impm λe he es' hes hR=>by
  have hin:∀ x ∈ es',x ∈ ℓ2:=λx hx=>hpE2.mem_iff.2 (t2.mem_iff.2 (List.mem_append_left _ (List.mem_flatten.2 ⟨es',hes,hx⟩)));have hg:=hγs e he;obtain⟨q1,q2⟩:=hs2 e he;have hU:=h0.l e (hsm e he);obtain⟨eE,q3,q4⟩:=hle.l e.k e (Nat.lt_of_lt_of_le hU.1 hn) q1;rw[q2]at q3;cases q3;obtain⟨kk,st,L⟩:=e
  cases L with
  | box ty c =>
   obtain⟨b,cs,g1,g2,g3,rfl⟩:=hR;obtain⟨es0,hes0⟩:=Zze hE (Zo q2).1;obtain⟨jj,es1,k1,k2⟩:=hr.loc q2;obtain⟨b0,cs0,d1,d2,d3,rfl⟩:=k1;have g1:γ2 kk = .box b:=g1;have d1:γ kk = .box b0:=d1;have q4:γ2 kk=γ kk:=q4;have hb:b=b0:=by rw[g1,d1]at q4;cases q4;rfl
   subst hb;obtain⟨i,hi⟩:=k2 _ (List.mem_singleton.2 rfl);have m1:=(hr.st.loc _ (mG hi)).1;have m2:=(hr2.st.loc _ (hin _ (List.mem_singleton.2 rfl))).1;have m1:w.heap[b]? = some (.cells cs0.toArray ty (0,0)):=m1;have m2:w.heap[b]? = some (.cells cs.toArray ty (0,0)):=m2;rw[m1]at m2;have hcs:cs0=cs:=by
    have:=Option.some.inj m2
    injection this with h1 _ _
    have:=congrArg Array.toList h1
    simpa using this
   subst hcs;exact⟨b,cs0,by rw[show γN kk=γ2 kk from hg];exact g1,ZDb leN hU.2.2 d2,d3,rfl⟩
  | own ty t xs fz =>
   cases fz with
   | false=>obtain⟨ob,cap,d,g1,g2⟩:=hR;exact⟨ob,cap,d,by rw[show γN kk=γ2 kk from hg];exact g1,g2⟩
   | true=>obtain⟨ob,cap,g1,g2⟩:=hR;exact⟨ob,cap,by rw[show γN kk=γ2 kk from hg];exact g1,g2⟩
  | mat ty ty2 t mm hv=>obtain⟨ob,cap,rows,es2,g1,g2⟩:=hR;exact⟨ob,cap,rows,es2,by rw[show γN kk=γ2 kk from hg];exact g1,g2⟩
  | mid ty ty2 t mm hv s=>obtain⟨ob,cap,rows,es2,hs,es3,g1,g2⟩:=hR;exact⟨ob,cap,rows,es2,hs,es3,by rw[show γN kk=γ2 kk from hg];exact g1,g2⟩
 have hstN:St N w0 v0 [] (EN.flatten++Es.flatten) v2 a w:=by
  have h1:=hst.perm ((List.Perm.append r3 (hpE2.trans t2)));refine h1.drop ?_;rw[← aAq];exact List.sublist_append_left _ _
 have hkeep:∀ t e,lkE (Zcb f0 ks) t=some e→lkE f t=some e∧lkE f0 t=some e:=λt e he=>by
  obtain⟨q1,q2⟩:=Z0i he;obtain⟨e',q3,q4⟩:=ZLq hks t q2;have:=ho.1 t e' q3 q4;rw[q1]at this;cases this;exact⟨q3,q1⟩
 refine⟨γN,_,hγ,⟨hstN,λt e he=>?_,⟨EN++Es,r2.append hS,by rw[List.flatten_append]⟩,hnd,λt e he=>?_,λe he=>?_,λx y hg=>?_⟩,λt e he hst=>?_,λu e he hst=>?_⟩
 ·rw[ZMo]at he
  cases hx:lkE fI t with
  | some e1 =>
   rw[hx]at he;cases he;obtain⟨q1,q2⟩:=Zo hx;rw[← q2];exact r1 e q1
  | none =>
   rw[hx]at he;obtain⟨q1,q2⟩:=hkeep t e he;exact Zgb leN (h0.f t e q2).1 (hr.fr t e q1)
 ·rw[ZMo]at he
  cases hx:lkE fI t with
  | some e1 =>
   rw[hx]at he;cases he;obtain⟨q1,q2,q3⟩:=hI.f e (Zo hx).1;exact⟨q1,q3⟩
  | none =>
   rw[hx]at he;obtain⟨q1,q2⟩:=hkeep t e he;obtain⟨q3,q4⟩:=h0.f t e q2;exact⟨V.ok.mono up q3,up _ q4⟩
 ·rcases List.mem_append.1 he with he | he
  ·obtain⟨q1,q2,q3,q4⟩:=hI.l e he;refine⟨?_,q3,q4⟩;rcases q1 with q1 | q1
   ·exact up _ (hus _ q1)
   ·exact q1.2
  ·obtain⟨q1,q2,q3⟩:=h0.l e (hsm e he);exact⟨up _ q1,up _ q2,LV.ok.mono up up q3⟩
 ·exact⟨Zgb leN (h0.g x y hg) (hr.gh x y hg).1,V.ok.mono up (h0.g x y hg)⟩
 ·rw[ZMo]at he
  cases hx:lkE fI t with
  | some e1 =>
   rw[hx]at he;cases he;have:=(hI.f e (Zo hx).1).2.1;omega
  | none =>
   rw[hx]at he;exact (hkeep t e he).2
 ·rcases List.mem_append.1 (Zo he).1 with hm | hm
  ·have:=(hI.l e hm).2.1;omega
  ·have:=ZCd h0.nd (hsm e hm);rw[(Zo he).2]at this;exact this
def bF (f0:Fr) (l0:Lo) (j:Js) (x:jT j) (n:Nat):Fr:=(ZXb f0 l0 j.vs x n).1++Zcb f0 j.keep
def bL (b:Nat) (f0:Fr) (l0:Lo) (j:Js) (x:jT j) (n:Nat):Lo:=(ZXb f0 l0 j.vs x n).2.1++stayL b f0 l0 j j.vs
def bN (f0:Fr) (l0:Lo) (j:Js) (x:jT j) (n:Nat):Nat:=(ZXb f0 l0 j.vs x n).2.2
theorem ZNk {α:Type} {b:Nat} {f0:Fr} {l0:Lo} {j:Js} {x:jT j} {n:Nat} {K:Fr→Lo→Nat→α}:build b f0 l0 j x n K=K (bF f0 l0 j x n) (bL b f0 l0 j x n) (bN f0 l0 j x n):=rfl
theorem ZZj {α:Type} {r:α} {b n0 n:Nat} {f0 f:Fr} {l0 l:Lo} {j:Js} {K:jT j→Option α} (h0:H0 G n0 f0 l0) (hn:n0≤n) (hr:Rel N G w0 v0 (· < n) f l a w) (ho:Old n0 f0 l0 f l) (h:Zwe b n0 n f0 l0 f l j K=some r) :
  ∃ x,K x=some r∧n0≤bN f0 l0 j x n0∧Rel N G w0 v0 (· < bN f0 l0 j x n0) (bF f0 l0 j x n0) (bL b f0 l0 j x n0) a w∧Old n0 f0 l0 (bF f0 l0 j x n0) (bL b f0 l0 j x n0):=by
 obtain⟨γ,v,ℓ,hr⟩:=hr;have h1:=Zgh (Nat.le_refl n) Old.refl hr.nd (Zyh h);have hr':RelX N G w0 v0 (· < n) (· < n+1) f l a w γ v ℓ:=hr.mono (λ_ h=>h) λk h=>(show k<n+1 by have:k<n:=h;omega);obtain⟨E,hE,_⟩:=hr.lr;obtain⟨x,l2,γ2,v2,ℓ2,es,us,k1,k2,k3,k4,k5,k6,k7⟩:=Zjm (ex:=[]) h0 hn h1 hr' hr.st (Le.refl hE (Zb.le_refl _));obtain⟨q1,q2⟩:=k1;split at q1
 ·rename_i hS hL;obtain⟨γ0,hI⟩:=Zun k5 k6 (λu hu=>(k7 u hu).1) (Nat.le_refl n0) (hvOf_le h0);have hsub:=Zyr (b:=b) (rs:=Zdj l0 50 (idsF (Zcb f0 j.keep)) []) (us:=gone f0 l0 j.drop j.vs) (l:=l0);obtain⟨γN,ℓN,_,p2,p3⟩:=Zlz h0 hn hr k2 k3 k4 q2 ho hsub.1 (λe he hu=>hsub.2 e he (List.mem_append_right _ (k7 _ hu).2.2)) hL (λu hu=>(k7 u hu).1) hI hS;exact⟨x,q1,hI.le,⟨γN,v2,ℓN,p2⟩,p3⟩
 ·cases q1
def Ress (P:Program) (tmps:Array Value) (w:World) (rs:List ResultVar) (vals:List Value):Prop:=F2 (λr y=>Res P tmps w r y) rs vals
def RetR (P:Program) (rs:List ResultVar) (N:Nat) (G:V→Value→Prop) (w0:Base) (v0:Zb) (c:V) (l:Lo) (n:Nat) (a:Act) (w:World):Prop :=
 ∃ γ v ℓ vals,RelX N G w0 v0 (· < n) (· < n) [] l a w γ v ℓ∧RR v γ l true c vals∧c.ok (· < n)∧Ress P a.tmps w rs vals
def ZFc (m:Nat) (l l':Lo):Prop:=∀ u e,lkE l' u=some e→e.st<m→lkE l u=some e
theorem Old.l {m:Nat} {f f':Fr} {l l':Lo} (h:Old m f l f' l'):ZFc m l l':=h.2
theorem ZFc.trans {m m':Nat} {l l' l'':Lo} (h:ZFc m l l') (k:ZFc m' l' l'') (hm:m≤m'):ZFc m l l'':=λu e he hs=>h u e (k u e he (by omega)) hs
theorem ZFc.mono {m m':Nat} {l l':Lo} (h:ZFc m' l l') (hm:m≤m'):ZFc m l l':=λu e he hs=>h u e he (by omega)
end
theorem Zke {v:Zb} {γ:Nat→Gh} {l:Lo} {U:Nat→Prop} {n:Nat}:∀ {c:V} {k t:Nat} {e:En V} {vals:List Value},RR v γ l true c vals→c.ok U→lkE (ZLc n k c) t=some e→∃ y,k≤t∧vals[t-k]? = some y∧RV v γ l e.x y∧e.x.ok U∧e.st=n:=by
 intro c
 induction c with
 | cons a b ia ib =>
  intro k t e vals h hk he;obtain⟨cs,xs,rfl,h1,h2⟩:=h;simp only[ZLc]at he;rw[ZL]at he;split at he
  ·rename_i hkt
   cases he
   have hkt:k=t:=hkt;subst hkt;exact⟨a.val cs,Nat.le_refl _,by simp,Z4b h1 (λc e=>by subst e;exact h1),hk.1,rfl⟩
  ·rename_i hkt;have hkt:¬ k=t:=hkt;obtain⟨y,q1,q2,q3⟩:=ib h2 hk.2 he;refine⟨y,by omega,?_,q3⟩;have:t-k=(t-(k+1))+1:=by omega
   rw[this];simpa using q2
 | _=>intro k t e vals h hk he;cases he
theorem Zrq {v:Zb} {γ:Nat→Gh} {l:Lo}:∀ {c:V} {vals:List Value},RR v γ l true c vals→vals.length=lenV c:=by
 intro c
 induction c with
 | nl=>intro vals h;rw[show vals=[] from h];rfl
 | cons a b ia ib=>intro vals h;obtain⟨cs,xs,rfl,h1,h2⟩:=h;simp[ib h2,lenV]
 | _=>intro vals h;exact h.elim
theorem ZRx {N N':Nat} {G:V→Value→Prop} {w0:Base} {v0:Zb} {a:Act} {w:World} {γ:Nat→Gh} {v:Zb} {ℓ:List Loc} {ags:V} {l:Lo} {n:Nat} {vals:List Value} (hr:RelX N G w0 v0 (· < n) (· < n) [] l a w γ v ℓ) (has:RR v γ l true ags vals) (hk:ags.ok (· < n)) (hN:vals.length≤N') :
  RelX N' G w0 v0 (· < n+1) (· < n+1) (ZLc n 0 ags) l { tmps:=vals.toArray++Array.replicate (N'-vals.toArray.size) undef,defers:=[] } w γ v ℓ:=by
 have hm:=hr.mono (U':=(· < n+1)) (X':=(· < n+1)) (λk h=>(show k<n+1 by have:k<n:=h;omega)) λk h=>(show k<n+1 by have:k<n:=h;omega);refine⟨⟨by simp;omega,rfl,λt x h=>(by cases h),hr.st.ext,hr.st.vst,hr.st.loc,hr.st.nd⟩,λt e he=>?_,hm.lr,hm.nd,λt e he=>?_,hm.ul,hm.gh⟩
 ·obtain⟨y,h1,h2,h3,h4,h5⟩:=Zke has hk he;have hlt:t<vals.length:=(List.getElem?_eq_some_iff.1 h2).1;have h3':vals[t]=y:=(List.getElem?_eq_some_iff.1 h2).2;have:((vals.toArray++Array.replicate (N'-vals.toArray.size) undef).getD t undef)=y:=by
   simp[Array.getElem?_append,hlt,h3']
  rw[this];exact h3
 ·obtain⟨y,h1,h2,h3,h4,h5⟩:=Zke has hk he;exact⟨V.ok.mono (λk h=>(show k<n+1 by have:k<n:=h;omega)) h4,by show e.st<n+1;omega⟩
theorem ZcA {N:Nat} {G:V→Value→Prop} {w0:Base} {v0:Zb} {a:Act} {w:World} {γ:Nat→Gh} {v:Zb} {ℓ:List Loc} {ags:V} {l:Lo} {n k:Nat} {vals:List Value} (hr:RelX N G w0 v0 (· < n) (· < n) [] l a w γ v ℓ) (has:RR v γ l true ags vals) (hk:ags.ok (· < n)) :
  RelX (k+vals.length) G w0 v0 (· < n+1) (· < n+1) (ZLc n k ags) l { tmps:=(List.replicate k undef++vals).toArray,defers:=[] } w γ v ℓ:=by
 have hm:=hr.mono (U':=(· < n+1)) (X':=(· < n+1)) (λk h=>(show k<n+1 by have:k<n:=h;omega)) λk h=>(show k<n+1 by have:k<n:=h;omega);refine⟨⟨by simp,rfl,λt x h=>(by cases h),hr.st.ext,hr.st.vst,hr.st.loc,hr.st.nd⟩,λt e he=>?_,hm.lr,hm.nd,λt e he=>?_,hm.ul,hm.gh⟩
 ·obtain⟨y,h1,h2,h3,h4,h5⟩:=Zke has hk he;have:((List.replicate k undef++vals).toArray.getD t undef)=y:=by
   rw[Array.getD_eq_getD_getElem?,List.getElem?_toArray,List.getElem?_append_right (by simpa using h1)];simp[h2]
  rw[this];exact h3
 ·obtain⟨y,h1,h2,h3,h4,h5⟩:=Zke has hk he;exact⟨V.ok.mono (λk h=>(show k<n+1 by have:k<n:=h;omega)) h4,by show e.st<n+1;omega⟩
theorem getRep {vals:List Value} {k i:Nat} {y:Value} (h:vals[i]? = some y):(List.replicate k undef++vals).toArray.getD (k+i) undef=y:=by
 rw[Array.getD_eq_getD_getElem?,List.getElem?_toArray,List.getElem?_append_right (by simp)];simp[h]
theorem ZUu {v:Zb} {γ:Nat→Gh} {l:Lo} {U:Nat→Prop} {f:Fr} {tm:Array Value} (hf:∀ t e,lkE f t=some e→RV v γ l e.x (tm.getD t undef)∧e.x.ok U):∀ {vals:List Value} {t:Nat} {c:V},Z8k f vals.length t=some c→(∀ i y,vals[i]? = some y→tm.getD (t+i) undef=y)→RR v γ l true c vals∧c.ok U
 | [],t,c,h,_=>by cases h;exact⟨rfl,trivial⟩
 | y :: vals,t,c,h,hv=>by
  simp only[List.length_cons,Z8k]at h
  split at h
  ·cases h
  ·rename_i e c' hnt hc he
   cases h
   obtain⟨h1,h2⟩:=hf t e hc
   obtain⟨cs,hcs,hy⟩:=Zmb h1 (λq hq=>by obtain⟨k,s,x⟩:=e;have hq:x = .tup q:=hq;subst hq;exact hnt _ _ _ rfl)
   obtain⟨k1,k2⟩:=ZUu hf (vals:=vals) he λi y hi=>by
    have:=hv (i+1) y (by simpa using hi)
    rwa [show t+(i+1)=t+1+i by omega]at this
   have h0:=hv 0 y (by simp)
   rw[Nat.add_zero]at h0
   exact⟨⟨cs,vals,by rw[← h0,hy],hcs,k1⟩,h2,k2⟩
  ·cases h
section
variable {N:Nat} {G:V→Value→Prop} {w0:Base} {v0:Zb} {a:Act} {w:World}
theorem Zox {α β:Type} {r:α} {P:Program} {rs:List ResultVar} {b n0 n:Nat} {f0:Fr} {l0 l:Lo} {c:V} {j:Js} {K:jT j→Option α} (h0:H0 G n0 f0 l0) (hn:n0≤n) (hr:RetR P rs N G w0 v0 c l n a w) (ho:ZFc n0 l0 l) (h:ZVi b n0 n f0 l0 c l j K=some r) :
  ∃ x,K x=some r∧∀ {KR:V→Lo→Nat→Option β} {q:β},build b f0 l0 j x n0 (retK j.vs KR)=some q→∃ c' l' m,KR c' l' m=some q∧n0≤m∧RetR P rs N G w0 v0 c' l' m a w∧ZFc n0 l0 l':=by
 obtain⟨γ,v,ℓ,vals,hr,hc,hk,hres⟩:=hr;unfold ZVi at h;split at h
 ·rename_i k hkeep hord;split at h
  ·rename_i hlen;have hlen:=eQ hlen;have hvl:=Zrq hc;have hx:=ZcA (k:=1000) hr hc hk;obtain⟨x,k1,k2,k3,k4⟩:=ZZj h0 (Nat.le_succ_of_le hn) ⟨_,_,_,hx⟩ ⟨λt e he hst=>by
    obtain⟨y,h1,h2,h3,h4,h5⟩:=Zke hc hk he;omega,ho⟩ h
   refine⟨x,k1,λ{KR q} hq=>?_⟩;rw[ZNk]at hq;unfold retK at hq;rw[hord]at hq;simp only at hq;split at hq
   ·rename_i c' hc';obtain⟨γ',v',ℓ',hr'⟩:=k3;refine⟨c',_,_,hq,k2,⟨γ',v',ℓ',vals,⟨⟨hr.st.size,hr.st.dfr,λt x h=>(by cases h),hr'.st.ext,hr'.st.vst,hr'.st.loc,hr'.st.nd⟩,λt e he=>(by cases he),hr'.lr,hr'.nd,λt e he=>(by cases he),hr'.ul,hr'.gh⟩,?_⟩,k4.l⟩;rw[show k-1000=vals.length by omega]at hc';obtain⟨g1,g2⟩:=ZUu (U:=(· < bN f0 l0 j x n0)) (λt e he=>⟨hr'.fr t e he,(hr'.uf t e he).1⟩) hc' λi y hi=>by
     exact getRep hi
    exact⟨g1,g2,hres⟩
   ·cases hq
  ·cases h
 ·cases h
end
end Go.Eng
namespace Go.Eng
open Go.RowKit
theorem ZQy:∀ {t:T},ZJg t=true→∀ {v v':Zb} {cs:List Value} {x:t.den},t.rep.rel v cs x→t.rep.rel v' cs x:=by
 intro t
 induction t with
 | int k=>intro _ v v' cs x h;exact h
 | bool=>intro _ v v' cs x h;exact h
 | flt k=>intro _ v v' cs x h;exact h
 | str=>intro _ v v' cs x h;exact h
 | one a ih=>intro ht v v' cs x h;exact ih ht (x:=x) h
 | pair a b ia ib =>
  intro ht v v' cs x h;simp only[ZJg]at ht;split at ht
  ·rename_i ha;obtain⟨c1,c2,e,h1,h2⟩:=h;exact⟨c1,c2,e,ia ha h1,ib ht h2⟩
  ·cases ht
 | _=>intro ht;cases ht
theorem Z4l {v v':Zb} {γ γ':Nat→Gh} {l l':Lo}:∀ {x:V},Zwc x=true→∀ {b:Bool} {cs:List Value},RR v γ l b x cs→RR v' γ' l' b x cs:=by
 intro x
 induction x with
 | data t x=>intro hx b cs h;cases b with
  | false=>exact ZQy (t:=t) hx h
  | true=>exact h.elim
 | cons a c ia ic =>
  intro hx b cs h;simp only[Zwc]at hx;split at hx
  ·rename_i ha
   cases b with
   | false=>obtain⟨c1,c2,e,h1,h2⟩:=h;exact⟨c1,c2,e,ia ha h1,ic hx h2⟩
   | true=>obtain⟨c1,xs,e,h1,h2⟩:=h;exact⟨c1,xs,e,ia ha h1,ic hx h2⟩
  ·cases hx
 | agg c ih=>intro hx b cs h;cases b with
  | false=>exact ih hx (b:=false) h
  | true=>exact h.elim
 | tup c ih=>intro hx b cs h;cases b <;> exact h.elim
 | undef=>intro hx b cs h;cases b <;> exact h
 | nilS=>intro hx b cs h;cases b <;> exact h
 | nl=>intro hx b cs h;cases b <;> exact h
 | _=>intro hx;cases hx
theorem flat_RV {v v':Zb} {γ γ':Nat→Gh} {l l':Lo} {x:V} {y:Value} (hx:Zwc x=true) (h:RV v γ l x y):RV v' γ' l' x y:=by
 cases x with
 | tup c=>obtain⟨vs,h1,e⟩:=h;exact⟨vs,Z4l (x:=c) hx h1,e⟩
 | _=>obtain⟨cs,h1,e⟩:=h;exact⟨cs,Z4l hx h1,e⟩
theorem Z3p {U:Nat→Prop}:∀ {x:V},Zwc x=true→x.ok U:=by
 intro x
 induction x with
 | cons a c ia ic =>
  intro hx;simp only[Zwc]at hx;split at hx
  ·rename_i ha;exact⟨ia ha,ic hx⟩
  ·cases hx
 | agg c ih=>intro hx;exact ih hx
 | tup c ih=>intro hx;exact ih hx
 | data t x=>intro _;trivial
 | undef=>intro _;trivial
 | nilS=>intro _;trivial
 | nl=>intro _;trivial
 | _=>intro hx;cases hx
theorem Zzi {f r:Fr}:∀ {ss:List Nat} {t:Nat} {e:En V},lkE (Znc f r ss) t=some e→(lkE f t=some e∧Zwc e.x=true)∨lkE r t=some e
 | [],_,_,h=>.inr h
 | s :: ss,t,e,h=>by
  simp only[Znc]at h
  split at h
  ·rename_i e1 he
   split at h
   ·rename_i hfl
    rw[ZL]at h
    split at h
    ·rename_i hk
     cases h
     have:=(Zo he).2
     rw[hk]at this;subst this
     exact .inl ⟨he,hfl⟩
    ·exact Zzi h
   ·exact Zzi h
  ·exact Zzi h
theorem lkE_sub {us:List Nat}:∀ {l:Lo} {u:Nat} {e:En LV},lkE (Zrb us l) u=some e→(l.map En.k).Nodup→lkE l u=some e:=by
 intro l u e h hn;have hsub:(Zrb us l).Sublist l:=by
  clear h hn
  induction l with
  | nil=>exact List.Sublist.slnil
  | cons p r ih =>
   simp only[Zrb];split
   ·exact ih.cons_cons p
   ·exact ih.cons p
 obtain⟨hm,hk⟩:=Zo h;have:=ZCd hn (hsub.subset hm);rw[hk]at this;exact this
theorem ZXj {us:List Nat}:∀ {l:Lo},(Zrb us l).Sublist l:=by
 intro l
 induction l with
 | nil=>exact List.Sublist.slnil
 | cons p r ih =>
  simp only[Zrb];split
  ·exact ih.cons_cons p
  ·exact ih.cons p
theorem Z6z {us:List Nat} {e:En LV}:∀ {l:Lo},e ∈ Zrb us l→ZDa us e.k=true:=by
 intro l
 induction l with
 | nil=>intro h;cases h
 | cons p r ih =>
  intro h;simp only[Zrb]at h;split at h
  ·rename_i hp;rcases List.mem_cons.1 h with rfl | h
   ·exact hp
   ·exact ih h
  ·exact ih h
theorem ZAu {R:En LV→List Loc→Prop} {us:List Nat}:∀ {l:Lo} {E:List (List Loc)},F2 R l E→∃ E',F2 R (Zrb us l) E'∧E'.flatten.Sublist E.flatten
 | [],[],_=>⟨[],trivial,List.Sublist.refl _⟩
 | [],_ :: _,h=>h.elim
 | _ :: _,[],h=>h.elim
 | p :: r,es :: E,h=>by
  obtain⟨E',h1,h2⟩:=ZAu (us:=us) h.2
  simp only[Zrb]
  split
  ·exact⟨es :: E',⟨h.1,h1⟩,by simp only[List.flatten_cons];exact List.Sublist.append (List.Sublist.refl _) h2⟩
  ·exact⟨E',h1,by simp only[List.flatten_cons];exact h2.trans (List.sublist_append_right _ _)⟩
section
variable {N:Nat} {G:V→Value→Prop} {w0:Base} {v0:Zb} {U X:Nat→Prop} {f:Fr} {l:Lo} {a:Act} {w:World} {γ:Nat→Gh} {v:Zb} {ℓ:List Loc}
theorem RelX.sub (h:RelX N G w0 v0 U X f l a w γ v ℓ) (us:List Nat):∃ ℓ',RelX N G w0 v0 U X f (Zrb us l) a w γ v ℓ'∧∃ E',F2 (ZGa v γ (Zrb us l)) (Zrb us l) E'∧ℓ'=E'.flatten:=by
 obtain⟨E,hE,hp⟩:=h.lr;have hle:Le U v γ l v γ (Zrb us l):=⟨Zb.le_refl _,λk e' _ he=>by
  have he':=lkE_sub he h.nd;refine⟨e',he',?_⟩;obtain⟨hm,hk'⟩:=Zo he';obtain⟨es,hr⟩:=Zze hE hm;have:=ZNh (U:=U) (γ':=γ) hr rfl;rw[hk']at this;exact this⟩
 obtain⟨E',h1,h2⟩:=ZAu (us:=us) hE;have h3:F2 (ZGa v γ (Zrb us l)) (Zrb us l) E':=h1.imp λe he es hr=>ZDh hle (h.ul e (ZXj.subset he)).2.2 rfl hr;exact⟨_,⟨(h.st.perm hp).drop h2,λt e he=>Zgb hle (h.uf t e he).1 (h.fr t e he),⟨E',h3,List.Perm.refl _⟩,(ZXj.map _).nodup h.nd,h.uf,λe he=>h.ul e (ZXj.subset he),λx y hg=>⟨Zgb hle (h.gh x y hg).2 (h.gh x y hg).1,(h.gh x y hg).2⟩⟩,E',h3,rfl⟩
def IsFz (l:Lo) (u:Nat):Prop:=∃ k st ty t xs,lkE l u=some ⟨k,st,.own ty t xs true⟩
theorem ZPm {ρ:Type} {n:Nat} {e:Ev ρ} {Post:ρ→Fr→Lo→Prop} (hn:¬ U n) (hX:X n):∀ {ids:List Nat} {l:Lo} {v:Zb} {ℓ:List Loc},Zk n (ZWi e ids) f l Post→RelX N G w0 v0 U X f l a w γ v ℓ→∃ l1 v' ℓ',Zk n e f l1 Post∧RelX N G w0 v0 U X f l1 a w γ v' ℓ'∧(∀ u,IsFz l u→IsFz l1 u)∧∀ u ∈ ids,IsFz l1 u
 | [],l,v,ℓ,h,hr=>⟨l,v,ℓ,h,hr,λ_ h=>h,λ_ h=>by cases h⟩
 | u :: ids,l,v,ℓ,h,hr=>by
  obtain⟨⟨kk,st,L⟩,hu,h⟩:=h
  cases L with
  | own ty t xs fz =>
   cases fz with
   | false =>
    obtain⟨v',ℓ',h1,_⟩:=hr.freeze (ex:=[]) (n:=n) hr.st hu hn hX
    obtain⟨l2,v2,ℓ2,h0,h2,h3,h4⟩:=ZPm hn hX h h1
    have hz:IsFz (⟨u,n,.own ty t xs true⟩ :: era l u) u:=⟨u,n,ty,t,xs,by rw[ZL,iP rfl]⟩
    refine⟨l2,v2,ℓ2,h0,h2,λu' hu'=>h3 u' ?_,λu' hu'=>?_⟩
    ·obtain⟨k',st',ty',t',xs',e⟩:=hu'
     have hne:¬ u=u':=λe2=>by subst e2;rw[hu]at e;cases e
     exact⟨k',st',ty',t',xs',by rw[ZL,iN hne,Z5b hr.nd,iN hne];exact e⟩
    ·rcases List.mem_cons.1 hu' with rfl | hu'
     ·exact h3 _ hz
     ·exact h4 u' hu'
   | true =>
    obtain⟨l2,v2,ℓ2,h0,h2,h3,h4⟩:=ZPm hn hX h hr
    refine⟨l2,v2,ℓ2,h0,h2,h3,λu' hu'=>?_⟩
    rcases List.mem_cons.1 hu' with rfl | hu'
    ·exact h3 _ ⟨_,_,_,_,_,hu⟩
    ·exact h4 u' hu'
  | box _ _=>exact h.elim
  | mat _ _ _ _ _=>exact h.elim
  | mid _ _ _ _ _ _=>exact h.elim
theorem Z8u {ρ:Type} {n:Nat} {e:Ev ρ} {Post:ρ→Fr→Lo→Prop} (hn:¬ U n) (hX:X n):∀ {bs:List (Nat×T)} {f:Fr} {l:Lo} {γ:Nat→Gh} {v:Zb} {ℓ:List Loc},Zk n (Zhk e bs) f l Post→RelX N G w0 v0 U X f l a w γ v ℓ→∃ f1 l1 γ' v' ℓ',Zk n e f1 l1 Post∧RelX N G w0 v0 U X f1 l1 a w γ' v' ℓ'
 | [],f,l,γ,v,ℓ,h,hr=>⟨f,l,γ,v,ℓ,h,hr⟩
 | p :: bs,f,l,γ,v,ℓ,h,hr=>by
  obtain⟨⟨kk,st,x⟩,hu,h⟩:=h
  cases x with
  | ptr u off =>
   obtain⟨y,l',γ',v',ℓ',h1,h2,_,h4⟩:=Zdd hn hX FU h hr (hr.uf _ _ hu).1
   obtain⟨cs,hcs,hy⟩:=Zmb (hr.fr _ _ hu) (λc e=>by cases e)
   obtain⟨b,o,c,e0,hat,hrel⟩:=(show (rPtr p.2.rep).rel v' cs y from h4 cs hcs)
   have hyy:a.tmps.getD p.1 undef = .pointer (some ⟨b,o,none⟩):=by rw[hy,e0];rfl
   have r2:=h2.slot (t:=p.1) (m:=n) (z:=.vp p.2 y 0) ⟨[_],⟨b,o,c,hat,hrel,rfl⟩,hyy⟩ trivial hX
   exact Z8u hn hX h1 r2
  | _=>exact h.elim
theorem ZSq {R:En LV→List Loc→Prop}:∀ {l:Lo} {E:List (List Loc)},F2 R l E→(∀ e ∈ l,∀ es,R e es→es=[])→E.flatten=[]
 | [],[],_,_=>rfl
 | [],_ :: _,h,_=>h.elim
 | _ :: _,[],h,_=>h.elim
 | p :: r,es :: E,h,k=>by
  rw[List.flatten_cons,k p (by simp) es h.1,ZSq h.2 λe he=>k e (by simp[he])];rfl
theorem lend_in {n:Nat} {ids:List Nat} {bs:List (Nat×T)} {Post:Unit→Fr→Lo→Prop} (h:RelX N G w0 v0 (· < n) (· < n) f l a w γ v ℓ) (hz:Zk n (Zhk (ZWi (.done ()) ids) bs) f l Post):∃ f1 l1 γ1 v1,Post () f1 l1∧RelX N G (w:Base) v1 (· < n+1) (· < n+1) f1 (Zrb ids l1) a w γ1 v1 []:=by
 have hm:=h.mono (U':=(· < n)) (X':=(· < n+1)) (λk h=>h) λk h=>(show k<n+1 by have:k<n:=h;omega);obtain⟨f1,l0,γ,v2,ℓ0,hz1,hm1⟩:=Z8u (U:=(· < n)) (X:=(· < n+1)) (Nat.lt_irrefl n) (Nat.lt_succ_self n) hz hm;obtain⟨l1,v1,ℓ1,hP,h1,_,h3⟩:=ZPm (U:=(· < n)) (X:=(· < n+1)) (Nat.lt_irrefl n) (Nat.lt_succ_self n) hz1 hm1;obtain⟨ℓ2,h4,E',h5,h6⟩:=h1.sub ids;have e0:ℓ2=[]:=by
  rw[h6];refine ZSq h5 λe he es hr=>?_;obtain⟨k',st',ty',t',xs',e1⟩:=h3 e.k (Zvg.1 (Z6z he));have e2:=ZCd h1.nd (ZXj.subset he);rw[e1]at e2
  cases e2
  obtain⟨ob,cap,_,_,rfl⟩:=hr;rfl
 subst e0;have h4:=h4.mono (U':=(· < n+1)) (X':=(· < n+1)) (λk h=>(show k<n+1 by have:k<n:=h;omega)) λ_ h=>h;exact⟨f1,l1,γ,v1,hP,⟨h4.st.size,h4.st.dfr,h4.st.fr,ExtB.refl _,⟨Zb.le_refl _,h4.st.vst.vin,λ_ _ _=>rfl⟩,λe he=>(by cases he),List.nodup_nil⟩,h4.fr,h4.lr,h4.nd,h4.uf,h4.ul,h4.gh⟩
theorem Zvp {n:Nat} {F:Fr} {v1 v':Zb} {ℓ':List Loc} {a':Act} {w':World} (h:RelX N G w0 v0 (· < n) (· < n) f l a w γ v ℓ) (hs:St N (w:Base) v1 [] ℓ' v' a' w') (hU:∀ k,k<n→U k) (hX:∀ k,k<n→X k)
  (hF:∀ t e,lkE F t=some e→RV v γ l e.x (a'.tmps.getD t undef)∧e.x.ok U∧X e.st):RelX N G w0 v0 U X F l a' w' γ v ℓ:=by
 have hx:Ext w w':=hs.ext.ext;refine⟨⟨hs.size,hs.dfr,λt x e=>(by cases e),h.st.ext.trans hx,⟨h.st.vst.le,λb o e=>hx.get (h.st.vst.vin b o e),h.st.vst.old⟩,λe he=>⟨Loc.holds_ext hx (h.st.loc e he).1,(h.st.loc e he).2⟩,h.st.nd⟩,λt e he=>(hF t e he).1,h.lr,h.nd,λt e he=>(hF t e he).2,λe he=>?_,λx y hg=>⟨(h.gh x y hg).1,V.ok.mono hU (h.gh x y hg).2⟩⟩;exact⟨hX _ (h.ul e he).1,hX _ (h.ul e he).2.1,LV.ok.mono hU hX (h.ul e he).2.2⟩
theorem Z6x {n n':Nat} {f' f1:Fr} {ls l1 l':Lo} {γ':Nat→Gh} {v1 v':Zb} {ℓ':List Loc} {a':Act} {w':World} {fl keep:List Nat} (h:RelX N G w0 v0 (· < n) (· < n) f l a w γ v ℓ) (h':RelX N G (w:Base) v1 (· < n') (· < n') f' l' a' w' γ' v' ℓ') (hn:n+1≤n') (ho0:Old n f l f1 l1) (ho:Old (n+1) f1 ls f' l')
  (hp:∀ t,ZDa keep t=true→a'.tmps.getD t undef=a.tmps.getD t undef):(∀ t e,lkE (Znc f' (Zcb f keep) fl) t=some e→RV v γ l e.x (a'.tmps.getD t undef)∧e.x.ok (· < n)∧e.st<n')∧∀ t e,lkE (Znc f' (Zcb f keep) fl) t=some e→e.st<n→lkE f t=some e:=by
 refine⟨λt e he=>?_,λt e he hst=>?_⟩
 ·rcases Zzi he with ⟨h1,h2⟩ | h1
  ·exact⟨flat_RV h2 (h'.fr t e h1),Z3p h2,(h'.uf t e h1).2⟩
  ·obtain⟨h2,h3⟩:=Z0i h1;have h4:=h.uf t e h2;refine⟨?_,h4.1,(show e.st<n' by have:e.st<n:=h4.2;omega)⟩;rw[hp t (Zvg.2 h3)];exact h.fr t e h2
 ·rcases Zzi he with ⟨h1,h2⟩ | h1
  ·exact ho0.1 t e (ho.1 t e h1 (by omega)) hst
  ·exact (Z0i h1).1
theorem Zno {d:Nat} {U:Nat→Prop} (hl:lkE l d=none) (hd:U d):∀ {cs:List Value},cs.all plain=true→RR v γ l false (ZXg d cs.length) cs∧(ZXg d cs.length).ok U
 | [],_=>⟨rfl,trivial⟩
 | c :: cs,h=>by
  rw[List.all_cons,Bool.and_eq_true]at h
  obtain⟨h1,h2⟩:=Zno hl hd h.2
  refine⟨⟨[c],cs,rfl,⟨c,rfl,h.1,λe he=>?_⟩,h1⟩,hd,h2⟩
  rw[hl]at he;cases he
theorem Z2u {n n' m:Nat} {f' f1 fb:Fr} {ls l1 l' lb:Lo} {γ':Nat→Gh} {v1 v':Zb} {ℓ':List Loc} {a':Act} {w':World} {fl keep nb:List Nat} (h:RelX N G w0 v0 (· < n) (· < n) f l a w γ v ℓ) (h':RelX N G (w:Base) v1 (· < n') (· < n') f' l' a' w' γ' v' ℓ') (hn:n+1≤n') (ho0:Old n f l f1 l1) (ho:Old (n+1) f1 ls f' l')
  (hp:∀ t,ZDa keep t=true→a'.tmps.getD t undef=a.tmps.getD t undef) (hb:nbL n n' f' l' l nb=some (fb,lb,m)):n≤m∧Rel N G w0 v0 (· < m) (fb++Znc f' (Zcb f keep) fl) lb a' w'∧Old n f l (fb++Znc f' (Zcb f keep) fl) lb:=by
 obtain⟨hF,hO⟩:=Z6x (fl:=fl) h h' hn ho0 ho hp;have hcore:RelX N G w0 v0 (· < n) (· < n') (Znc f' (Zcb f keep) fl) l a' w' γ v ℓ:=Zvp h h'.st (λk hk=>hk) (λk hk=>(show k<n' by omega)) hF;unfold nbL at hb;split at hb
 ·cases hb
  exact⟨by omega,⟨_,_,_,hcore.mono (λk hk=>(show k<n' by have:k<n:=hk;omega)) λ_ h=>h⟩,⟨hO,λu e he _=>he⟩⟩
 ·rename_i s;split at hb
  ·rename_i k0 st0 u hs;split at hb
   ·rename_i k1 st1 ty c hu hnone hlt;split at hb
    ·rename_i hag
     cases hb
     have hlt:n<u:=lB hlt;have hk1:k1=u:=(Zo hu).2;subst hk1;have hu':k1<n':=(h'.ul _ (Zo hu).1).1;obtain⟨E',hE',hpE'⟩:=h'.lr;obtain⟨es,E2,r1,_,r3⟩:=ZBf hE' hu;obtain⟨b,cs,g1,g2,g3,rfl⟩:=r1;have hmem:Loc.box b ty cs ∈ ℓ':=hpE'.mem_iff.2 (r3.mem_iff.2 (List.mem_append_left _ (List.mem_singleton.2 rfl)));obtain⟨hh,hbb⟩:=h'.st.loc _ hmem;have hwb:w.heap.size≤b:=by
      rcases (hbb b rfl).1 with q | q
      ·exact q
      ·cases q
     have hlen:=ZBd g2;have hln:lkE (⟨k1,n',.box ty (.agg (ZXg n c.size))⟩ :: l) n=none:=by
      rw[ZL,iN (show ¬ k1=n by omega)]
      cases hx:lkE l n with
      | none=>rfl
      | some e =>
       obtain⟨q1,q2⟩:=Zo hx;have:e.k<n:=(h.ul e q1).1;omega
     obtain⟨d1,d2⟩:=Zno (v:=v) (γ:=Ztb γ k1 (.box b)) (U:=(· < n'+1)) hln (show n<n'+1 by omega) g3;rw[hlen]at d1 d2;have hst:St N w0 v0 [] (.box b ty cs :: ℓ) v a' w':=by
      refine⟨hcore.st.size,hcore.st.dfr,hcore.st.fr,hcore.st.ext,hcore.st.vst,λe he=>?_,?_⟩
      ·rcases List.mem_cons.1 he with rfl | he
       ·refine⟨hh,λk hk=>?_⟩
        cases hk
        exact⟨.inl (Nat.le_trans h.st.ext.size hwb),h.st.vst.vin.none hwb⟩
       ·exact hcore.st.loc e he
      ·rw[List.filterMap_cons_some (show (Loc.box b ty cs).blk=some b from rfl),List.nodup_cons];refine⟨λhm=>?_,h.st.nd⟩;obtain⟨e,he,hk⟩:=List.mem_filterMap.1 hm;obtain⟨c0,T0,hg⟩:=Loc.blk_get (h.st.loc e he).1 hk;have:=Z8c hg;omega
     have hcore2:=hcore.mono (U':=(· < n)) (X':=(· < n'+1)) (λ_ h=>h) λk hk=>(show k<n'+1 by have:k<n':=hk;omega);obtain⟨E,hE,hpE⟩:=hcore2.lr;have q1:RelX N G w0 v0 (λk=>k<n∨k=n) (· < n'+1) (Znc f' (Zcb f keep) fl) (⟨k1,n',.box ty (.agg (ZXg n c.size))⟩ :: l) a' w' (Ztb γ k1 (.box b)) v (.box b ty cs :: ℓ):=by
      have hcore3:=hcore2.mono (U':=λk=>k<n∨k=n) (X':=(· < n'+1)) (λ_ h=>.inl h) λ_ h=>h;refine hcore3.new (show n'<n'+1 by omega) (show k1<n'+1 by omega) (λhh=>?_) hnone hE hst (Zb.le_refl _) (λk hk=>ZVb hk) ⟨b,cs,ZSa,d1,g3,rfl⟩ (List.Perm.cons _ hpE) ?_
      ·rcases hh with hh | hh <;> omega
      ·exact (Zno (v:=v) (γ:=Ztb γ k1 (.box b)) (U:=λk=>k<n∨k=n) hln (.inr rfl) g3).2 |> λq=>by rw[hlen]at q;exact q
     have q2:=q1.mono (U':=(· < n'+1)) (X':=(· < n'+1)) (λk hk=>(show k<n'+1 by rcases hk with hk | hk <;> omega)) λ_ h=>h;obtain⟨cs1,⟨y,rfl,hpl,hy⟩,hyy⟩:=h'.fr _ _ hs;obtain⟨b2,g4,rfl⟩:=hy _ hu;rw[g1]at g4;cases g4;have hyy:a'.tmps.getD s undef = .pointer (some ⟨b,0,none⟩):=hyy;have q3:=q2.slot (t:=s) (m:=n') (z:=.ptr k1 0) ⟨[_],⟨_,rfl,hpl,λe he=>?_⟩,hyy⟩ (show k1<n'+1 by omega) (show n'<n'+1 by omega)
     ·refine⟨by omega,⟨_,_,_,q3⟩,λt e he hst=>?_,λu e he hst=>?_⟩
      ·rw[List.singleton_append,ZL]at he;split at he
       ·cases he;exact absurd hst (by show ¬ n'<n;omega)
       ·exact hO t e he hst
      ·rw[ZL]at he;split at he
       ·cases he;exact absurd hst (by show ¬ n'<n;omega)
       ·exact he
     ·rw[ZL,iP rfl]at he
      cases he
      exact⟨b,ZSa,rfl⟩
    ·cases hb
   ·cases hb
  ·cases hb
 ·cases hb
end
end Go.Eng
namespace Go.Eng
open Go.RowKit
section
variable {N:Nat} {G:V→Value→Prop} {w0:Base} {v0:Zb}
structure KOK (P:Program) (rs:List ResultVar) (N:Nat) (G:V→Value→Prop) (w0:Base) (v0:Zb) {α:Type} (n:Nat) (f:Fr) (l:Lo) (K:Kt α) (r:α) (Q:Exit→Act→World→Prop):Prop where
 norm:ZOe N G w0 v0 n f l (λf l n=>K.norm f l n=some r) (Q .normal)
 exit:∀ i,ZOe N G w0 v0 n f l (λf l n=>K.exit i f l n=some r) (Q (.exit i))
 ret:∀ c l' n' a' w',K.ret c l' n'=some r→n≤n'→ZFc n l l'→RetR P rs N G w0 v0 c l' n' a' w'→Q .ret a' w'
theorem KOK.step {P:Program} {rs:List ResultVar} {α:Type} {n n1:Nat} {f f1:Fr} {l l1:Lo} {K:Kt α} {r:α} {Q:Exit→Act→World→Prop} (h:KOK P rs N G w0 v0 n f l K r Q) (hn:n≤n1) (ho:Old n f l f1 l1):KOK P rs N G w0 v0 n1 f1 l1 K r Q :=
 ⟨h.norm.step hn ho,λi=>(h.exit i).step hn ho,λc l' n' a' w' hk hn' ho' hr=>h.ret c l' n' a' w' hk (by omega) (ho.l.trans ho' hn) hr⟩
def kdE:Kd→Exit
 | .norm=>.normal
 | .exit i=>.exit i
 | .ret=>.ret
theorem Zfl {a b:Kd} (h:kdEq a b=true):a=b:=by
 cases a <;> cases b <;> first | rfl | (cases h;done) | (rw[eQ h])
theorem ZYq {P:Program} {rs:List ResultVar} {α β:Type} {b n0 n:Nat} {f0 f:Fr} {l0 l:Lo} {o:Kd×Js} {K:jT o.2→Option α} {x':α} {a:Act} {w:World} {Q:Exit→Act→World→Prop} (h0:H0 G n0 f0 l0) (hn:n0≤n) (hk:o.1 ≠ .ret) (hr:Rel N G w0 v0 (· < n) f l a w) (ho:Old n0 f0 l0 f l) (h:Zwe b n0 n f0 l0 f l o.2 K=some x') :
  ∃ y,K y=some x'∧∀ {Kout:Kt β} {r:β},ZBg b f0 l0 n0 Kout o y=some r→KOK P rs N G w0 v0 n0 f0 l0 Kout r Q→Q (kdE o.1) a w:=by
 obtain⟨y,h1,h2,h3,h4⟩:=ZZj h0 hn hr ho h;refine⟨y,h1,λ{Kout r} hx hK=>?_⟩;unfold ZBg at hx;split at hx
 ·rename_i e;rw[ZNk]at hx;rw[e];exact hK.norm _ _ _ a w hx h2 h4 h3
 ·rename_i i e;rw[ZNk]at hx;rw[e];exact hK.exit i _ _ _ a w hx h2 h4 h3
 ·rename_i e;exact absurd e hk
theorem ZHq {P:Program} {rs:List ResultVar} {α β:Type} {b n0 n:Nat} {f0:Fr} {l0 l:Lo} {c:V} {o:Kd×Js} {K:jT o.2→Option α} {x':α} {a:Act} {w:World} {Q:Exit→Act→World→Prop} (h0:H0 G n0 f0 l0) (hn:n0≤n) (hk:o.1 = .ret) (hr:RetR P rs N G w0 v0 c l n a w) (ho:ZFc n0 l0 l) (h:ZVi b n0 n f0 l0 c l o.2 K=some x') :
  ∃ y,K y=some x'∧∀ {Kout:Kt β} {r:β},ZBg b f0 l0 n0 Kout o y=some r→KOK P rs N G w0 v0 n0 f0 l0 Kout r Q→Q .ret a w:=by
 obtain⟨y,h1,h2⟩:=Zox (β:=β) h0 hn hr ho h;refine⟨y,h1,λ{Kout r} hx hK=>?_⟩;unfold ZBg at hx;split at hx
 ·rename_i e;rw[hk]at e;cases e
 ·rename_i e;rw[hk]at e;cases e
 ·obtain⟨c',l',m,k0,k1,k2,k3⟩:=h2 hx;exact hK.ret _ _ _ a w k0 k1 k3 k2
theorem ZDk {P:Program} {rs:List ResultVar} {β:Type} {b n0 n:Nat} {f0 f:Fr} {l0 l:Lo} {a:Act} {w:World} {Q:Exit→Act→World→Prop} {kd:Kd} {c:V} (h0:H0 G n0 f0 l0) (hn:n0≤n) (hk:kd ≠ .ret) (hr:Rel N G w0 v0 (· < n) f l a w) (ho:Old n0 f0 l0 f l) :
  ∀ {os:List (Kd×Js)} {α:Type} {K:sumT os→Option α} {x':α},ZXc b n0 n f0 l0 kd c f l os K=some x' →
  ∃ y,K y=some x'∧∀ {Kout:Kt β} {r:β},arms b f0 l0 n0 Kout os y=some r→KOK P rs N G w0 v0 n0 f0 l0 Kout r Q→Q (kdE kd) a w
 | [],α,K,x',h=>by cases h
 | [o],α,K,x',h=>by
  simp only[ZXc]at h
  split at h
  ·rename_i he
   have he:=Zfl he
   have h:Zwe b n0 n f0 l0 f l o.2 K=some x':=by cases kd <;> first | exact h | exact absurd rfl hk
   obtain⟨y,h1,h2⟩:=ZYq (P:=P) (rs:=rs) (β:=β) (Q:=Q) h0 hn (by rw[he];exact hk) hr ho h
   exact⟨y,h1,λ{Kout r} hx hK=>he ▸ h2 hx hK⟩
  ·cases h
 | o :: p :: os,α,K,x',h=>by
  simp only[ZXc]at h
  split at h
  ·rename_i he
   have he:=Zfl he
   have h:Zwe b n0 n f0 l0 f l o.2 (λx=>K (.inl x))=some x':=by cases kd <;> first | exact h | exact absurd rfl hk
   obtain⟨y,h1,h2⟩:=ZYq (P:=P) (rs:=rs) (β:=β) (Q:=Q) h0 hn (by rw[he];exact hk) hr ho h
   exact⟨.inl y,h1,λ{Kout r} hx hK=>he ▸ h2 hx hK⟩
  ·obtain⟨y,h1,h2⟩:=ZDk h0 hn hk hr ho (os:=p :: os) h
   exact⟨.inr y,h1,λ{Kout r} hx hK=>h2 hx hK⟩
theorem Znm {P:Program} {rs:List ResultVar} {β:Type} {b n0 n:Nat} {f0 f:Fr} {l0 l:Lo} {a:Act} {w:World} {Q:Exit→Act→World→Prop} {c:V} (h0:H0 G n0 f0 l0) (hn:n0≤n) (hr:RetR P rs N G w0 v0 c l n a w) (ho:ZFc n0 l0 l) :
  ∀ {os:List (Kd×Js)} {α:Type} {K:sumT os→Option α} {x':α},ZXc b n0 n f0 l0 .ret c f l os K=some x' →
  ∃ y,K y=some x'∧∀ {Kout:Kt β} {r:β},arms b f0 l0 n0 Kout os y=some r→KOK P rs N G w0 v0 n0 f0 l0 Kout r Q→Q .ret a w
 | [],α,K,x',h=>by cases h
 | [o],α,K,x',h=>by
  simp only[ZXc]at h
  split at h
  ·rename_i he
   exact ZHq h0 hn (Zfl he) hr ho h
  ·cases h
 | o :: p :: os,α,K,x',h=>by
  simp only[ZXc]at h
  split at h
  ·rename_i he
   obtain⟨y,h1,h2⟩:=ZHq (P:=P) (rs:=rs) (β:=β) (Q:=Q) h0 hn (Zfl he) hr ho h
   exact⟨.inl y,h1,λ{Kout r} hx hK=>h2 hx hK⟩
  ·obtain⟨y,h1,h2⟩:=Znm h0 hn hr ho (os:=p :: os) h
   exact⟨.inr y,h1,λ{Kout r} hx hK=>h2 hx hK⟩
def CW (P:Program):Code→(Exit→Act→World→Prop)→Act→World→Prop
 | .seq x y,Q=>CW P x (Exit.then (CW P y Q) Q)
 | c,Q=>c.wp P Q
theorem Zkz {K K':Act→World→Prop} {Q:Exit→Act→World→Prop} (h:∀ a w,K a w→K' a w):∀ e a w,Exit.then K Q e a w→Exit.then K' Q e a w:=by
 intro e a w hh
 cases e with
 | normal=>exact h a w hh
 | _=>exact hh
theorem CW.wp {P:Program}:∀ {c:Code} {Q:Exit→Act→World→Prop} {a:Act} {w:World},CW P c Q a w→c.wp P Q a w:=by
 intro c
 induction c with
 | seq x y ix iy=>intro Q a w h;exact wp_seq (wp_mono (ix h) (Zkz λa w h=>iy h))
 | _=>intro Q a w h;exact h
theorem CW.mono {P:Program}:∀ {c:Code} {Q Q':Exit→Act→World→Prop},(∀ e a w,Q e a w→Q' e a w)→∀ {a:Act} {w:World},CW P c Q a w→CW P c Q' a w:=by
 intro c
 induction c with
 | seq x y ix iy =>
  intro Q Q' hq a w h;refine ix (λe a w he=>?_) h
  cases e with
  | normal=>exact iy hq he
  | _=>exact hq _ _ _ he
 | _=>intro Q Q' hq a w h;exact wp_mono h hq
def IH (P:Program) (rs:List ResultVar) (N:Nat) (G:V→Value→Prop) (c:Code) (g:List Nat→(β:Type)→Go β) (a:Act) (w:World):Prop :=
 ∀ {β:Type} {a':Ann} {f:Fr} {l:Lo} {n:Nat} {K':Kt β} {r':β} {ks:List Nat} {pv:Nat→Value} {w0:Base} {v0:Zb} {Q:Exit→Act→World→Prop},g ks β a' f l n K'=some r'→Rel N G w0 v0 (· < n) f l a w→Pin ks pv a→KOK P rs N G w0 v0 n f l K' r' (Pn ks pv Q)→CW P c Q a w
theorem kok_pn {P:Program} {rs:List ResultVar} {α:Type} {n:Nat} {f:Fr} {l:Lo} {K:Kt α} {r:α} {ks:List Nat} {pv:Nat→Value} {Q:Exit→Act→World→Prop} (h:KOK P rs N G w0 v0 n f l K r Q):KOK P rs N G w0 v0 n f l K r (Pn ks pv Q) :=
 ⟨λf' l' n' a' w' hp hn ho hr _=>h.norm f' l' n' a' w' hp hn ho hr,λi f' l' n' a' w' hp hn ho hr _=>h.exit i f' l' n' a' w' hp hn ho hr,λc l' n' a' w' hp hn ho hr _=>h.ret c l' n' a' w' hp hn ho hr⟩
theorem ZOq {P:Program} {rs:List ResultVar} {c:Code} {α:Type} {b n:Nat} {ks:List Nat} {pv:Nat→Value} {ann:Ann} {f:Fr} {l:Lo} {K:Kt α} {g:List Nat→(β:Type)→Go β} {r:α} {a:Act} {w:World} {Q:Exit→Act→World→Prop} (h:ZCk b ks ann f l n K g=some r) (hr:Rel N G w0 v0 (· < n) f l a w) (hpn:Pin ks pv a) (hK:KOK P rs N G w0 v0 n f l K r (Pn ks pv Q))
  (ih:IH P rs N G c g a w):CW P c Q a w:=by
 unfold ZCk at h;split at h
 ·rename_i j a';obtain⟨x,hx,harms⟩:=ZAa h;have h0:=hr.h0;refine ih hx hr hpn ⟨λf' l' n' a' w' hp hn' ho' hr'=>?_,λi f' l' n' a' w' hp hn' ho' hr'=>?_,λc l' n' a' w' hp hn' ho' hr'=>?_⟩
  ·obtain⟨y,h1,h2⟩:=ZDk (P:=P) (rs:=rs) (β:=α) (Q:=Pn ks pv Q) (kd:=.norm) h0 hn' (λe=>by cases e) hr' ho' hp
   cases h1
   exact h2 harms hK
  ·obtain⟨y,h1,h2⟩:=ZDk (P:=P) (rs:=rs) (β:=α) (Q:=Pn ks pv Q) (kd:=.exit i) h0 hn' (λe=>by cases e) hr' ho' hp
   cases h1
   exact h2 harms hK
  ·obtain⟨y,h1,h2⟩:=Znm (P:=P) (rs:=rs) (β:=α) (Q:=Pn ks pv Q) h0 hn' hr' ho' hp
   cases h1
   exact h2 harms hK
 ·exact ih h hr hpn hK
theorem ZIk {P:Program} {rs:List ResultVar} {c:Code} {α:Type} {b n:Nat} {ks:List Nat} {pv:Nat→Value} {ann:Ann} {f:Fr} {l:Lo} {K:Kt α} {g:List Nat→(β:Type)→Go β} {r:α} {a:Act} {w:World} {Q:Exit→Act→World→Prop} (h:Zjh b ks ann f l n K g=some r) (hr:Rel N G w0 v0 (· < n) f l a w) (hpn:Pin ks pv a) (hK:KOK P rs N G w0 v0 n f l K r (Pn ks pv Q))
  (ih:IH P rs N G c g a w):CW P c Q a w:=by
 unfold Zjh at h;split at h
 ·rename_i us bs nb fl keep a';split at h
  ·rename_i ids _;obtain⟨γ,v,ℓ,hr⟩:=hr;have hru:=Zgh (Nat.le_refl n) Old.refl hr.nd (Zyh h);obtain⟨f1,l1,γ1,v1,⟨h,ho0⟩,h1⟩:=lend_in hr hru;have hpin:Pin (keep++ks) (λt=>a.tmps.getD t undef) a:=λt _=>rfl;have hback:∀ {a2:Act},Pin (keep++ks) (λt=>a.tmps.getD t undef) a2→Pin ks pv a2∧∀ t,ZDa keep t=true→a2.tmps.getD t undef=a.tmps.getD t undef:=λh2=>⟨λt ht=>(h2 t (Zvg.2 (List.mem_append_right _ (Zvg.1 ht)))).trans (hpn t ht),λt ht=>h2 t (Zvg.2 (List.mem_append_left _ (Zvg.1 ht)))⟩;refine ZOq (rs:=rs) h ⟨_,_,_,h1⟩ hpin (Q:=Q) ⟨λf' l' n' a' w' hp hn' ho' hr' hpp=>?_,λi f' l' n' a' w' hp hn' ho' hr' hpp=>?_,λc l' n' a' w' hp hn' ho' hr' hpp=>?_⟩ ?_
   ·obtain⟨γ',v',ℓ',hr'⟩:=hr';obtain⟨q1,q2⟩:=hback (hpp (λe=>by cases e));have hp:(match nbL n n' f' l' l nb with | some (fb,lb,m)=>K.norm (fb++Znc f' (Zcb f keep) fl) lb m | none=>none)=some r:=hp;split at hp
    ·rename_i fb lb m hb;obtain⟨k0,k1,k2⟩:=Z2u (fl:=fl) hr hr' hn' ho0 ho' q2 hb;exact hK.norm _ _ _ a' w' hp k0 k2 k1 λ_=>q1
    ·cases hp
   ·obtain⟨γ',v',ℓ',hr'⟩:=hr';obtain⟨q1,q2⟩:=hback (hpp (λe=>by cases e));obtain⟨k0,k1,k2⟩:=Z2u (fl:=fl) (nb:=[]) hr hr' hn' ho0 ho' q2 rfl;exact hK.exit i _ _ _ a' w' hp (by omega) k2 k1 λ_=>q1
   ·have hp:(match Zwc c with | true=>K.ret c l n' | false=>none)=some r:=hp;split at hp
    ·rename_i hfl;obtain⟨γ',v',ℓ',vals,hr',hc',hk',hres⟩:=hr';obtain⟨q1,q2⟩:=hback (hpp (λe=>by cases e));have k1:RelX N G w0 v0 (· < n') (· < n') [] l a' w' γ v ℓ:=Zvp hr hr'.st (λk hk=>(show k<n' by omega)) (λk hk=>(show k<n' by omega)) λt e he=>by cases he
     exact hK.ret c _ _ a' w' hp (by omega) (λu e he _=>he) ⟨_,_,_,vals,k1,Z4l hfl hc',Z3p hfl,hres⟩ λ_=>q1
    ·cases hp
   ·exact ih
  ·cases h
 ·exact ZOq h hr hpn hK ih
theorem Z4r {P:Program} {rs:List ResultVar} {c:Code} {α:Type} {a':Ann} {g:(β:Type)→Go β} {r:α} {ks:List Nat} {pv:Nat→Value}:∀ (k:Nat) {n:Nat} {f:Fr} {l:Lo} {K:Kt α} {a:Act} {w:World} {Q:Exit→Act→World→Prop},rounds g a' k f l n K=some r→Rel N G w0 v0 (· < n) f l a w→Pin ks pv a→KOK P rs N G w0 v0 n f l K r (Pn ks pv Q) →
  (∀ {β:Type} {a':Ann} {f':Fr} {l':Lo} {n':Nat} {K':Kt β} {r':β} {a:Act} {w:World} {Q':Exit→Act→World→Prop},g β a' f' l' n' K'=some r'→Rel N G w0 v0 (· < n') f' l' a w→Pin ks pv a→KOK P rs N G w0 v0 n' f' l' K' r' (Pn ks pv Q')→c.wp P Q' a w)→Code.rounds P c Q k a w
 | 0,n,f,l,K,a,w,Q,h,_,_,_,_=>by cases h
 | k+1,n,f,l,K,a,w,Q,h,hr,hpn,hK,ih =>
  Z3y (ih (Q':=Exit.then (Code.rounds P c Q k) Q) h hr hpn ⟨λf' l' n' a' w' hp hn' ho' hr' hpp=>Z4r k hp hr' (hpp λe=>by cases e) (hK.step hn' ho') ih,λi f' l' n' a' w' hp hn' ho' hr' hpp=>hK.exit i f' l' n' a' w' hp hn' ho' hr' hpp,λc l' n' a' w' hp hn' ho' hr' hpp=>hK.ret c l' n' a' w' hp hn' ho' hr' hpp⟩)
theorem Zrz {P:Program} {rs:List ResultVar} {c:Code} {α:Type} {b n:Nat} {ann:Ann} {f:Fr} {l:Lo} {K:Kt α} {g:(β:Type)→Go β} {r:α} {a:Act} {w:World} {Q:Exit→Act→World→Prop} {ks:List Nat} {pv:Nat→Value} (h:loopI b ann f l n K g=some r) (hr:Rel N G w0 v0 (· < n) f l a w) (hpn:Pin ks pv a) (hK:KOK P rs N G w0 v0 n f l K r (Pn ks pv Q))
  (ih:∀ {β:Type} {a':Ann} {f':Fr} {l':Lo} {n':Nat} {K':Kt β} {r':β} {a:Act} {w:World} {Q':Exit→Act→World→Prop},g β a' f' l' n' K'=some r'→Rel N G w0 v0 (· < n') f' l' a w→Pin ks pv a→KOK P rs N G w0 v0 n' f' l' K' r' (Pn ks pv Q')→c.wp P Q' a w):(Code.loop c).wp P Q a w:=by
 unfold loopI at h;split at h
 ·rename_i j ann';have h0:=hr.h0;obtain⟨z,h1,h2,h3,h4⟩:=ZZj h0 (Nat.le_refl n) hr Old.refl h;obtain⟨y,hl,harms⟩:=ZAa h1;refine ZMe hl (λs a w=>n≤bN f l j.head s n∧Rel N G w0 v0 (· < bN f l j.head s n) (bF f l j.head s n) (bL b f l j.head s n) a w∧Old n f l (bF f l j.head s n) (bL b f l j.head s n)∧Pin ks pv a) ⟨h2,h3,h4,hpn⟩ ?_;rintro s a w st ⟨i1,i2,i3,i4⟩ hst N' hN hR;rw[ZNk]at hst;refine ih hst i2 i4 ⟨λf' l' n' a' w' hp hn' ho' hr' hpp=>?_,λi f' l' n' a' w' hp hn' ho' hr' hpp=>?_,λc l' n' a' w' hp hn' ho' hr' hpp=>?_⟩
  ·obtain⟨x,k1,k2,k3,k4⟩:=ZZj h0 (Nat.le_trans i1 hn') hr' (i3.trans ho' i1) hp
   cases k1
   exact hN x rfl a' w' ⟨k2,k3,k4,hpp λe=>by cases e⟩
  ·obtain⟨y',k1,k2⟩:=ZDk (P:=P) (rs:=rs) (β:=α) (Q:=Pn ks pv Q) (kd:=.exit i) h0 (Nat.le_trans i1 hn') (λe=>by cases e) hr' (i3.trans ho' i1) hp
   cases k1
   have:=hR y' rfl;subst this;exact k2 harms hK hpp
  ·obtain⟨y',k1,k2⟩:=Znm (P:=P) (rs:=rs) (β:=α) (Q:=Pn ks pv Q) h0 (Nat.le_trans i1 hn') hr' (i3.l.trans ho' i1) hp
   cases k1
   have:=hR y' rfl;subst this;exact k2 harms hK hpp
 ·rename_i k ann';exact wp_loop_rounds k (Z4r k h hr hpn hK ih)
 ·cases h
theorem Zjz {P:Program} {f:Fr} {l:Lo} {a:Act} {w:World} {γ:Nat→Gh} {v:Zb} {ℓ:List Loc} {n:Nat} (hr:RelX N G w0 v0 (· < n) (· < n) f l a w γ v ℓ) {q:ResultVar} {z:V} (h:Zan f l P q=some z) (hz:∀ c,z ≠ .tup c):∃ cs,RR v γ l false z cs∧z.ok (· < n)∧Res P a.tmps w q (z.val cs):=by
 unfold Zan at h;split at h
 ·rename_i t;split at h
  ·rename_i e he
   cases h
   obtain⟨cs,h1,h2⟩:=Zmb (hr.fr t e he) hz;obtain⟨σ,hσ,hev⟩:=hr.st.ev1 (.tmp t);exact⟨cs,h1,(hr.uf t e he).1,by rw[← h2];exact Zyb hσ hev⟩
  ·cases h
 ·rename_i x t;split at h
  ·rename_i k st u he;split at h
   ·rename_i k2 st2 ty c hu;split at h
    ·rename_i q hq;have hrv:=hr.fr x _ he;obtain⟨y,hy0,_,hy⟩:=Zga hrv (λ_ e=>by cases e) rfl rfl
     cases hy0
     obtain⟨b',g4,g5⟩:=hy _ hu;obtain⟨hkk,es,hes,hmem⟩:=hr.loc hu;obtain⟨b,cs,g1,g2,g3,rfl⟩:=hes;have hkk:k2=u:=hkk;subst hkk;have g1:γ k2 = .box b:=g1;rw[g1]at g4;cases g4;have hc:c.ok (· < n):=(hr.ul _ (Zo hu).1).2.2;obtain⟨k1,k2',k3,k4,k5⟩:=Zld FU h g2 hc;obtain⟨i,hi⟩:=hmem _ (List.mem_singleton.2 rfl);have hlen:((cs.drop 0).take q.1).length=q.1:=by simp at k5 ⊢;omega
     have hw:=hr.st.box hi 0 ((cs.drop 0).take q.1) (by rw[hlen]);obtain⟨σ,hσ,hev⟩:=hr.st.ev1 (.tmp x);have g5:a.eval (.tmp x)=_:=g5;rw[g5]at hev;have ht:=Zte hq;refine⟨_,k1,k2',?_⟩
     cases hag:z.isAgg with
     | true =>
      rw[← k4,hag]at ht;unfold V.val;rw[hag];exact res_agg hσ hev ht hlen hw
     | false =>
      rw[← k4,hag]at ht;have h1:=Zgd FU h hag;have e3:=Zzh k1 h1 hag;rw[← k3,h1]at ht;rw[e3]at hw;exact res_one hσ hev ht hw
    ·cases h
   ·cases h
  ·cases h
theorem Zsr {P:Program} {f:Fr} {l:Lo} {a:Act} {w:World} {γ:Nat→Gh} {v:Zb} {ℓ:List Loc} {n:Nat} (hr:RelX N G w0 v0 (· < n) (· < n) f l a w γ v ℓ):∀ {rs:List ResultVar} {c:V},ZJl f l P rs=some c→∃ vals,RR v γ l true c vals∧c.ok (· < n)∧Ress P a.tmps w rs vals
 | [],c,h=>by cases h;exact⟨[],rfl,trivial,trivial⟩
 | q :: rs,c,h=>by
  simp only[ZJl]at h
  split at h
  ·cases h
  ·rename_i z c1 hnt h1 h2
   cases h
   obtain⟨cs,k1,k2,k3⟩:=Zjz hr h1 (λc e=>hnt c (by rw[e]))
   obtain⟨vals,q1,q2,q3⟩:=Zsr hr h2
   exact⟨_,⟨cs,vals,rfl,k1,q1⟩,⟨k2,q2⟩,k3,q3⟩
  ·cases h
theorem Zyz {id i:Nat} {Q:Exit→Act→World→Prop} {a:Act} {w:World} (h:(Nat.beq i id=true→Q .normal a w)∧(Nat.beq i id=false→Q (.exit i) a w)):Exit.inBlock id Q (.exit i) a w:=by
 cases hb:Nat.beq i id
 ·have hne:¬ i=id:=λe=>by rw[e]at hb;simp at hb
  simp only[Exit.inBlock,iN hne];exact h.2 hb
 ·simp only[Exit.inBlock,iP (eQ hb)];exact h.1 hb
theorem Pn.mk {ks:List Nat} {pv:Nat→Value} {Q:Exit→Act→World→Prop} {e:Exit} {a:Act} {w:World} (h:Pn ks pv Q e a w) (hp:Pin ks pv a):Q e a w:=h λ_=>hp
theorem Zdz {C:Cf} (hC:CfOK C) {cf:CallF} (hcf:Zmg C cf) {rs:List ResultVar} {b:Nat}:∀ (c:Code) {α:Type} {ann:Ann} {f:Fr} {l:Lo} {n:Nat} {K:Kt α} {r:α} {ks:List Nat} {pv:Nat→Value} {w0:Base} {v0:Zb} {Q:Exit→Act→World→Prop} {a:Act} {w:World},
  ZZb C cf rs b N c ks α ann f l n K=some r→Rel N G w0 v0 (· < n) f l a w→Pin ks pv a→KOK C.P rs N G w0 v0 n f l K r (Pn ks pv Q)→CW C.P c Q a w:=by
 intro c
 induction c with
 | skip=>intro α ann f l n K r ks pv w0 v0 Q a w h hr hpn hK;exact wp_skip ((hK.norm f l n a w h (Nat.le_refl n) Old.refl hr).mk hpn)
 | label i=>intro α ann f l n K r ks pv w0 v0 Q a w h hr hpn hK;exact wp_label ((hK.norm f l n a w h (Nat.le_refl n) Old.refl hr).mk hpn)
 | region id ops draw =>
  intro α ann f l n K r ks pv w0 v0 Q a w hh hr hpn hK;refine ZIk hh hr hpn hK ?_;clear hh hr hpn hK;intro β a' f l n K' r' ks pv w0 v0 Q h hr hpn hK2
  dsimp only at h
  split at h
  ·rename_i hds;have hd:=ZZm hds;exact wp_region_list (Zgv (λo ho k hk=>(hd o ho k hk).2) hpn (Zvl hC hcf (λo ho k hk=>(hd o ho k hk).1) h (λo ho=>ho) hr hK2.norm))
  ·rename_i hds;have hd:=ZZm hds;split at h
   ·rename_i hm hb;split at h
    ·exact draw_ok hC hm hb (λo ho k hk=>(hd o ho k hk).1) (λo ho k hk=>(hd o ho k hk).2) hpn h hr hK2.norm
    ·rename_i o ho;exact ZDw hC hcf ho hm hb (λo ho k hk=>(hd o ho k hk).1) (λo ho k hk=>(hd o ho k hk).2) hpn h hr hK2.norm
   ·cases h
  ·cases h
 | seq x y ix iy =>
  intro α ann f l n K r ks pv w0 v0 Q a w h hr hpn hK;refine ZIk h hr hpn hK ?_;clear h hr hpn hK;intro β a' f l n K' r' ks pv w0 v0 Q h hr hpn hK;refine (ix h hr hpn ⟨λf' l' n' a' w' hp hn' ho' hr' hpp=>iy hp hr' (hpp λe=>by cases e) (hK.step hn' ho'),λi f' l' n' a' w' hp hn' ho' hr' hpp=>hK.exit i f' l' n' a' w' hp hn' ho' hr' hpp,λc l' n' a' w' hp hn' ho' hr' hpp=>hK.ret c l' n' a' w' hp hn' ho' hr' hpp⟩)
 | cond c x y ix iy =>
  intro α ann f l n K r ks pv w0 v0 Q a w h hr hpn hK;refine ZIk h hr hpn hK ?_;clear h hr hpn hK;intro β a' f l n K' r' ks pv w0 v0 Q h hr hpn hK
  cases c with
  | tmp t =>
   simp only at h;split at h
   ·rename_i k s q he;have hk:k=t:=(Zo he).2;subst hk;obtain⟨γ,v,ℓ,hr⟩:=hr;have hev:a.eval (.tmp k) = .bool q:=Z4f (hr.fr k _ he);have hdup:=RelX.dup hr he;have hold:=Old.dup (m:=n) (l:=l) he
    cases q with
    | true=>exact wp_cond_true hev (ix h ⟨γ,v,ℓ,hdup⟩ hpn (hK.step (Nat.le_refl n) hold)).wp
    | false=>exact wp_cond_false hev (iy h ⟨γ,v,ℓ,hdup⟩ hpn (hK.step (Nat.le_refl n) hold)).wp
   ·cases h
  | const v =>
   cases v with
   | bool b=>cases b with
    | true=>exact wp_cond_true rfl (ix h hr hpn hK).wp
    | false=>exact wp_cond_false rfl (iy h hr hpn hK).wp
   | _=>cases h
  | _=>cases h
 | block id x ix =>
  intro α ann f l n K r ks pv w0 v0 Q a w h hr hpn hK;refine ZIk h hr hpn hK ?_;clear h hr hpn hK;intro β a' f l n K' r' ks pv w0 v0 Q h hr hpn hK;refine wp_block (CW.wp (ix h hr hpn ⟨λf' l' n' a' w' hp hn' ho' hr' hpp=>hK.norm f' l' n' a' w' hp hn' ho' hr' hpp,λi f' l' n' a' w' hp hn' ho' hr' hpp=>Zyz ⟨λe=>?_,λe=>?_⟩,λc l' n' a' w' hp hn' ho' hr' hpp=>hK.ret c l' n' a' w' hp hn' ho' hr' hpp⟩))
  ·simp only[e]at hp;exact (hK.norm f' l' n' a' w' hp hn' ho' hr').mk (hpp λe=>by cases e)
  ·simp only[e]at hp;exact (hK.exit i f' l' n' a' w' hp hn' ho' hr').mk (hpp λe=>by cases e)
 | loop x ix =>
  intro α ann f l n K r ks pv w0 v0 Q a w h hr hpn hK;exact Zrz h hr hpn hK λh hr hpn hK=>(ix h hr hpn hK).wp
 | scope x ix =>
  intro α ann f l n K r ks pv w0 v0 Q a w h hr hpn hK;exact wp_scope_straight (CW.wp (ix h hr hpn ⟨λf' l' n' a' w' hp hn' ho' hr' hpp=>hK.norm f' l' n' a' w' hp hn' ho' hr' hpp,λi f' l' n' a' w' hp hn' ho' hr' hpp=>hK.exit i f' l' n' a' w' hp hn' ho' hr' hpp,λc l' n' a' w' hp hn' ho' hr' hpp=>hK.ret c l' n' a' w' hp hn' ho' hr' hpp⟩))
 | exit i=>intro α ann f l n K r ks pv w0 v0 Q a w h hr hpn hK;exact wp_exit ((hK.exit i f l n a w h (Nat.le_refl n) Old.refl hr).mk hpn)
 | ret =>
  intro α ann f l n K r ks pv w0 v0 Q a w h hr hpn hK;simp only[ZZb]at h;split at h
  ·rename_i c hc;obtain⟨γ,v,ℓ,hr⟩:=hr;obtain⟨vals,k1,k2,k3⟩:=Zsr hr hc;exact wp_ret ((hK.ret c l n a w h (Nat.le_refl n) (λu e he _=>he) ⟨γ,v,ℓ,vals,⟨hr.st,λt e he=>(by cases he),hr.lr,hr.nd,λt e he=>(by cases he),hr.ul,hr.gh⟩,k1,k2,k3⟩).mk hpn)
  ·cases h
 | _=>intro α ann f l n K r ks pv w0 v0 Q a w h hr hpn hK;cases h
theorem Z4o {C:Cf} (hC:CfOK C) {cf:CallF} (hcf:Zmg C cf) {rs:List ResultVar} {b:Nat} (c:Code) {α:Type} {ann:Ann} {f:Fr} {l:Lo} {n:Nat} {K:Kt α} {r:α} {Q:Exit→Act→World→Prop} {a:Act} {w:World}
  (h:ZZb C cf rs b N c [] α ann f l n K=some r) (hr:Rel N G w0 v0 (· < n) f l a w) (hK:KOK C.P rs N G w0 v0 n f l K r Q):c.wp C.P Q a w :=
 (Zdz hC hcf c h hr (pv:=λ_=>undef) Pin.nil (kok_pn hK)).wp
end
end Go.Eng
namespace Go.Eng
open Go.RowKit
theorem St.afterB {K:Nat} {w0:Base} {v0:Zb} {σ:List (Nat×Value)} {ℓ es es':List Loc} {v v':Zb} {a:Act} {w w':World} (h:St K w0 v0 σ (es++ℓ) v a w) (x:ExtB ⟨w,es.filterMap Loc.blk⟩ w') (s:VStepB ⟨w,es.filterMap Loc.blk⟩ v w' v')
  (hh:∀ e ∈ es',e.holds w'∧∀ k,e.blk=some k→(w.heap.size≤k∨k ∈ es.filterMap Loc.blk)∧v' k=none) (hnd:(es'.filterMap Loc.blk).Nodup):St K w0 v0 σ (es'++ℓ) v' a w':=by
 have lentIn:∀ k,k ∈ es.filterMap Loc.blk→(w0.wd.heap.size≤k∨k ∈ w0.lent):=λk hk=>by
  obtain⟨e,he,hb⟩:=List.mem_filterMap.1 hk;exact ((h.loc e (List.mem_append_left _ he)).2 k hb).1
 have nl:∀ k,k<w0.wd.heap.size→k ∉ w0.lent→k ∉ es.filterMap Loc.blk:=λk hk hl hm=>by
  rcases lentIn k hm with h' | h'
  ·omega
  ·exact hl h'
 have nd:=h.nd;rw[List.filterMap_append]at nd;have dis:=(List.nodup_append.1 nd).2.2;have oth:∀ y ∈ ℓ,∀ b',y.blk=some b'→b'<w.heap.size∧b' ∉ es.filterMap Loc.blk:=λy hy b' hb=>by
  obtain⟨c2,T2,hg2⟩:=Loc.blk_get (h.loc y (List.mem_append_right _ hy)).1 hb;refine⟨Z8c hg2,λhm=>?_⟩;exact dis b' hm b' (List.mem_filterMap.2 ⟨y,hy,hb⟩) rfl
 refine⟨h.size,h.dfr,h.fr,⟨x.os.trans h.ext.os,x.tape.trans h.ext.tape,x.output.trans h.ext.output,Nat.le_trans h.ext.size x.size,λk hk hl=>?_⟩,⟨Zb.le_trans h.vst.le s.le,s.vin,λk hk hl=>?_⟩,λy hy=>?_,?_⟩
 ·rw[x.block k (Nat.lt_of_lt_of_le hk h.ext.size) (nl k hk hl)];exact h.ext.block k hk hl
 ·rw[s.old k (Nat.lt_of_lt_of_le hk h.ext.size) (nl k hk hl)];exact h.vst.old k hk hl
 ·rcases List.mem_append.1 hy with hy | hy
  ·obtain⟨h1,h2⟩:=hh y hy;refine⟨h1,λb hb=>⟨?_,(h2 b hb).2⟩⟩;rcases (h2 b hb).1 with h3 | h3
   ·exact .inl (Nat.le_trans h.ext.size h3)
   ·exact lentIn b h3
  ·obtain⟨h1,h2⟩:=h.loc y (List.mem_append_right _ hy);have same:∀ b',y.blk=some b'→w'.heap[b']? = w.heap[b']?:=λb' hb2=>by
    obtain⟨o1,o3⟩:=oth y hy b' hb2;exact x.block b' o1 o3
   refine⟨?_,λb' hb2=>⟨(h2 b' hb2).1,?_⟩⟩
   ·cases y with
    | box b' T' cs=>show _=_;rw[same b' rfl];exact h1
    | own b' T' sz n cap cs =>
     cases b' with
     | none=>exact h1
     | some b' =>
      obtain⟨q1,c,q2,q3⟩:=h1;exact⟨q1,c,by rw[same b' rfl];exact q2,q3⟩
   ·obtain⟨o1,o3⟩:=oth y hy b' hb2;rw[s.old b' o1 o3];exact (h2 b' hb2).2
 ·rw[List.filterMap_append];refine List.nodup_append.2 ⟨hnd,(List.nodup_append.1 nd).2.1,λk hk k2 hk2 e=>?_⟩;subst e;obtain⟨e',he',hb'⟩:=List.mem_filterMap.1 hk;obtain⟨y,hy,hyb⟩:=List.mem_filterMap.1 hk2;obtain⟨o1,o3⟩:=oth y hy k hyb;rcases ((hh e' he').2 k hb').1 with h3 | h3
  ·omega
  ·exact o3 h3
theorem Zsn {n:Nat}:∀ {l:Lo},Z3h n l=true→∀ e ∈ l,∀ ty c,e.x = .box ty c→e.st<n
 | [],_,e,he,_,_,_=>by cases he
 | p :: r,h,e,he,ty,c,hx=>by
  unfold Z3h at h
  rcases List.mem_cons.1 he with rfl | he
  ·split at h
   ·split at h
    ·rename_i hb
     exact of_decide_eq_true (by simpa [Nat.blt_eq] using hb)
    ·cases h
   ·rename_i hne
    exact absurd hx (hne ty c)
  ·split at h
   ·split at h
    ·exact Zsn h e he ty c hx
    ·cases h
   ·exact Zsn h e he ty c hx
theorem Zey {P:Program} {g:FuncId} {cb:ConB} (hB:Zdk P g cb) {α:Type} {ags:V} {l:Lo} {n:Nat} {K:V→Lo→Nat→Option α} {r:α} (h:callB cb ags l n K=some r) {N:Nat} {G:V→Value→Prop} {w0:Base} {v0:Zb} {a:Act} {w:World} {γ:Nat→Gh} {v:Zb} {ℓ:List Loc} {vals:List Value}
  (hr:RelX N G w0 v0 (· < n) (· < n) [] l a w γ v ℓ) (has:RR v γ l true ags vals) (hk:ags.ok (· < n)):ZV P g∧Calls P g vals.toArray w λe w'=>∃ y c l' n' γ' v' ℓ',e = .returned y∧K c l' n'=some r∧n≤n'∧(∀ f,Old n f l f l')∧RelX N G w0 v0 (· < n') (· < n') [] l' a w' γ' v' ℓ'∧RV v' γ' l' (ZUd c) y∧(ZUd c).ok (· < n'):=by
 unfold callB at h;split at h
 ·rename_i u rest;obtain⟨cs,xs,rfl,hp,hrest⟩:=has;obtain⟨y,rfl,_,hy⟩:=hp;have hu:u<n:=hk.1;have h1:=Zgh (Nat.le_refl n) Old.refl hr.nd (Zyh h);have hr1:RelX N G w0 v0 (· < n) (· < n+1) [] l a w γ v ℓ:=hr.mono (λ_ h=>h) λk h=>(show k<n+1 by have:k<n:=h;omega);obtain⟨x,l1,γ1,v1,ℓ1,h2,r1,le1,q1⟩:=ZOf (U:=(· < n)) (X:=(· < n+1)) (Nat.lt_irrefl n) (Nat.lt_succ_self n) h1 hr1 hk.2;obtain⟨z,l2,γ2,v2,ℓ2,es,e0,h3,r2,hst,le2,hcrl,he0,hnone,hhead⟩:=Z9t (U:=(· < n)) (X:=(· < n+1)) (Nat.lt_irrefl n) (Nat.lt_succ_self n) (ex:=[]) hu h2 r1 r1.st;have hst:St N w0 v0 [] (es++ℓ2) v2 a w:=hst;obtain⟨res,hF,h4,hold⟩:=h3;have le:=le1.trans le2;obtain⟨b,c1,e1,hgb,hcr,hpl,hes⟩:=hcrl;obtain⟨xh,hxh⟩:=hhead;obtain⟨ey,hey,hce⟩:=le1.l u e0 hu he0;obtain⟨b',hb1,hb2⟩:∃ b',γ u = .box b'∧y = .pointer (some ⟨b',0,none⟩):=by
   have hy:=hy ey hey;obtain⟨kk,st,L⟩:=ey
   cases L with
   | box ty c=>exact hy
   | _=>exact hy.elim
  have hg1:γ1 u=γ u:=by
   rw[hxh]at hce;obtain⟨kk,st,L⟩:=ey
   cases L with
   | box ty c=>exact hce
   | _=>exact hce.elim
  have hbb:b'=b:=by rw[hgb,hb1]at hg1;cases hg1;rfl
  subst hbb;subst hb2;have harg:=ZKq le2.v (q1 _ hrest);have hloc:∀ e ∈ es,e.holds w∧∀ k,e.blk=some k→v2 k=none:=λe he=>by
   obtain⟨t1,t2⟩:=hst.loc e (List.mem_append_left _ he);exact⟨t1,λk hk=>(t2 k hk).2⟩
  have hndes:(es.filterMap Loc.blk).Nodup:=by
   have:=hst.nd;rw[List.filterMap_append]at this;exact (List.nodup_append.1 this).1
  obtain⟨hen,hret⟩:=hB w v2 b' es xs z x res hst.vin ⟨b',c1,e1,rfl,hcr,hpl,hes⟩ hloc hndes harg hF;refine⟨hen,Calls.mono hret λe w' ⟨y,v',e2,hext,hvs,hres,es',hcrl',hes',hnd'⟩=>?_⟩;have hstN:St N w0 v0 [] (es'++ℓ2) v' a w':=hst.afterB hext hvs hes' hnd';split at h4
  ·rename_i hbo;have hn1:∀ k,k<n→k<n+1:=λk h=>by omega
   obtain⟨k1,k2,k3,γ0,k4,k5⟩:=ZWu (hh:=0) hcrl' (Nat.lt_succ_of_lt hu) (Nat.zero_le _) (l2:=(Z2a 0 (.box cb.ty cb.c) res.1 u (n+1)).1) (n2:=(Z2a 0 (.box cb.ty cb.c) res.1 u (n+1)).2) rfl;have h4:K (Z4c cb.res res.2) ((Z2a 0 (.box cb.ty cb.c) res.1 u (n+1)).1++l2) (Z2a 0 (.box cb.ty cb.c) res.1 u (n+1)).2=some r:=h4;generalize (Z2a 0 (.box cb.ty cb.c) res.1 u (n+1)).1=lI at k2 k3 k5 h4;generalize (Z2a 0 (.box cb.ty cb.c) res.1 u (n+1)).2=m at k1 k2 h4;have hdis:∀ e ∈ l2,e.k ∉ lI.map En.k:=λe he hm=>by
    obtain⟨e',he',hkk⟩:=List.mem_map.1 hm;have h1:e.k<n+1:=(r2.ul e he).1;rcases (k2 e' he').1 with ⟨q,_⟩ | q
    ·have:=ZMg hnone;exact this (List.mem_map.2 ⟨e,he,by rw[← hkk,q]⟩)
    ·omega
   have hnd:((lI++l2).map En.k).Nodup:=ZUj k3 r2.nd hdis
   let γN:Nat→Gh:=λk=>if k ∈ lI.map En.k then γ0 k else γ2 k
   have hγI:∀ e ∈ lI,γN e.k=γ0 e.k∧lkE (lI++l2) e.k=some e:=λe he=>⟨iP (List.mem_map.2 ⟨e,he,rfl⟩),ZCd hnd (List.mem_append_left _ he)⟩;have hγ2:∀ e ∈ l2,γN e.k=γ2 e.k:=λe he=>iN (hdis e he);obtain⟨EI,hEI,hpI⟩:=k5 γN (lI++l2) hγI;obtain⟨E2,hE2,hp2⟩:=r2.lr;have leN:Le (· < n) v γ l v' γN (lI++l2):=⟨Zb.le_trans le.v hvs.le,λq e' hq he'=>by
    obtain⟨hmem,hkk⟩:=Zo he';rcases List.mem_append.1 hmem with hm | hm
    ·rcases (k2 e' hm).1 with ⟨q1,xh2,q2⟩ | q1
     ·have hqu:q=u:=by rw[← hkk,q1]
      subst hqu;refine⟨ey,hey,?_⟩;obtain⟨ky,sy,Ly⟩:=ey;obtain⟨k',s',L'⟩:=e';have q2:L' = .box cb.ty xh2:=q2;subst q2;have hyy:=hy _ hey
      cases Ly with
      | box ty c =>
       show γN q=γ q;have:=(hγI _ hm).1;have hkk:k'=q:=hkk;subst hkk;rw[this,hb1];exact k4
      | _=>exact hyy.elim
     ·have hq:q<n:=hq;omega
    ·have hl2:lkE l2 q=some e':=by rw[← hkk];exact ZCd r2.nd hm
     obtain⟨e,q3,q4⟩:=le.l q e' hq hl2;refine⟨e,q3,Z0o (λk hk=>hk) ?_ q4⟩;rw[← hkk];exact hγ2 e' hm⟩
   have hS2:F2 (ZGa v' γN (lI++l2)) l2 E2:=hE2.impm λe he es2 hes2 hR=>by
    have hin:∀ x ∈ es2,x ∈ ℓ2:=λx hx=>hp2.mem_iff.2 (List.mem_flatten.2 ⟨es2,hes2,hx⟩);have hg:=hγ2 e he;obtain⟨kk,st,L⟩:=e
    cases L with
    | box ty c =>
     obtain⟨bb,cs2,g1,g2,g3,rfl⟩:=hR;have hst':st<n:=Zsn hbo _ he ty c rfl;have hlk:=ZCd r2.nd he;have hlk0:=hold.2 kk _ hlk hst';obtain⟨jj,es0,t1,t2⟩:=hr.loc hlk0;obtain⟨b0,cs0,d1,d2,d3,rfl⟩:=t1;have g1:γ2 kk = .box bb:=g1;have d1:γ kk = .box b0:=d1;have hkn:kk<n:=(hr.ul _ (Zo hlk0).1).1;obtain⟨eE,q3,q4⟩:=le.l kk _ hkn hlk;rw[hlk0]at q3;cases q3;have q4:γ2 kk=γ kk:=q4;have hbb:bb=b0:=by rw[g1,d1]at q4;cases q4;rfl
     subst hbb;obtain⟨i,hi⟩:=t2 _ (List.mem_singleton.2 rfl);have m1:=(hr.st.loc _ (mG hi)).1;have m2:=(hst.loc _ (List.mem_append_right _ (hin _ (List.mem_singleton.2 rfl)))).1;have m1:w.heap[bb]? = some (.cells cs0.toArray ty (0,0)):=m1;have m2:w.heap[bb]? = some (.cells cs2.toArray ty (0,0)):=m2;rw[m1]at m2;have hcs:cs0=cs2:=by
      have:=Option.some.inj m2
      injection this with h1 _ _
      have:=congrArg Array.toList h1
      simpa using this
     subst hcs;exact⟨bb,cs0,by rw[show γN kk=γ2 kk from hg];exact g1,ZDb leN (hr.ul _ (Zo hlk0).1).2.2 d2,d3,rfl⟩
    | own ty t xs fz =>
     cases fz with
     | false=>obtain⟨ob,cap,d,g1,g2,g3⟩:=hR;exact⟨ob,cap,d,by rw[show γN kk=γ2 kk from hg];exact g1,ZZ hvs.le g2,g3⟩
     | true=>obtain⟨ob,cap,g1,g2,g3⟩:=hR;exact⟨ob,cap,by rw[show γN kk=γ2 kk from hg];exact g1,Rep.mono _ hvs.le g2,g3⟩
    | mat ty ty2 t mm hv=>obtain⟨ob,cap,rows,es3,g1,g2,g3⟩:=hR;exact⟨ob,cap,rows,es3,by rw[show γN kk=γ2 kk from hg];exact g1,ZKc hvs.le g2,g3⟩
    | mid ty ty2 t mm hv s=>obtain⟨ob,cap,rows,es3,hs,es4,g1,g2,g3⟩:=hR;exact⟨ob,cap,rows,es3,hs,es4,by rw[show γN kk=γ2 kk from hg];exact g1,ZKc hvs.le g2,g3⟩
   obtain⟨t1,t2⟩:=Zwo (γ:=γN) (l:=lI++l2) (U:=(· < m)) hres;have up:∀ k,k<n→k<m:=λk h=>by omega
   have up1:∀ k,k<n+1→k<m:=λk h=>by omega
   refine⟨y,_,_,_,γN,v',_,e2,h4,by omega,λf=>⟨λ_ _ h _=>h,λq e' he' hsq=>?_⟩,⟨hstN.perm (List.Perm.append hpI hp2),λt e he=>(by cases he),⟨EI++E2,hEI.append hS2,by rw[List.flatten_append]⟩,hnd,λt e he=>(by cases he),λe he=>?_,λx y hg=>⟨Zgb leN (hr.gh x y hg).2 (hr.gh x y hg).1,V.ok.mono up (hr.gh x y hg).2⟩⟩,t1,t2⟩
   ·obtain⟨hmem,hkk⟩:=Zo he';rcases List.mem_append.1 hmem with hm | hm
    ·have:=(k2 e' hm).2.1;omega
    ·have hl2:lkE l2 q=some e':=by rw[← hkk];exact ZCd r2.nd hm
     exact hold.2 q e' hl2 hsq
   ·rcases List.mem_append.1 he with he | he
    ·obtain⟨p1,p2,p3,p4⟩:=k2 e he;refine⟨?_,p3,p4⟩;rcases p1 with ⟨p1,_⟩ | p1
     ·show e.k<m;omega
     ·exact p1.2
    ·obtain⟨p1,p2,p3⟩:=r2.ul e he;exact⟨up1 _ p1,up1 _ p2,LV.ok.mono up up1 p3⟩
  ·cases h4
 ·cases h
def oneR:List Value→Value
 | [x]=>x
 | vs=>.tuple vs.toArray
theorem Z3q {P:Program} {tmps:Array Value} {w:World}:∀ {rs:List ResultVar} {vals:List Value},Ress P tmps w rs vals→(rs.mapM (ZVk tmps)).run P w = .ok vals w
 | [],[],_=>by simp
 | q :: rs,y :: vals,h=>by
  have h1:=Zrk h.1
  have h2:=Z3q (rs:=rs) (vals:=vals) h.2
  simp[List.mapM_cons,h1,h2]
 | [],_ :: _,h=>h.elim
 | _ :: _,[],h=>h.elim
theorem Zak {P:Program} {fn:Func} {tmps:Array Value} {w:World} {vals:List Value} (h:Ress P tmps w fn.results.toList vals):(results fn tmps).run P w = .ok (oneR vals) w:=by
 have h1:=Z3q h;rw[ZJm];rw[Array.mapM_eq_mapM_toList]
 match vals with
 | []=>simp[h1,oneR]
 | [x]=>simp[h1,oneR]
 | x :: y :: r=>simp[h1,oneR]
theorem oneV_ok {v:Zb} {γ:Nat→Gh} {l:Lo} {U:Nat→Prop} {c:V} {vals:List Value} (h:RR v γ l true c vals) (hk:c.ok U):RV v γ l (ZUd c) (oneR vals)∧(ZUd c).ok U:=by
 cases c with
 | nl=>rw[show vals=[] from h];exact⟨⟨[],rfl,rfl⟩,trivial⟩
 | cons a b =>
  obtain⟨cs,xs,rfl,h1,h2⟩:=h
  cases b with
  | nl =>
   rw[show xs=[] from h2];exact⟨Z4b h1 (λc e=>by subst e;exact h1),hk.1⟩
  | cons a2 b2 =>
   obtain⟨cs2,xs2,rfl,h3,h4⟩:=h2;exact⟨⟨_,⟨cs,_,rfl,h1,cs2,xs2,rfl,h3,h4⟩,rfl⟩,hk⟩
  | _=>exact h2.elim
 | _=>exact h.elim
theorem Zzm:∀ {l:List Value} {k t:Nat} {y:Value},l[t]? = some y→look (ZAc k l) (k+t)=some y
 | [],_,_,_,h=>by simp at h
 | x :: l,k,0,y,h=>by
  simp at h;subst h
  exact ZEf rfl
 | x :: l,k,t+1,y,h=>by
  have h1:=Zzm (l:=l) (k:=k+1) (t:=t) (y:=y) (by simpa using h)
  rw[show ZAc k (x :: l)=(k,x) :: ZAc (k+1) l from rfl,ZCg (by omega),show k+(t+1)=k+1+t by omega]
  exact h1
def ZRd (C:Cf) (inl:Inl):Prop:=∀ g p,ZT inl g=some p→C.P.funcs[g]? = some p.1∧ZV C.P g
theorem Zqu {C:Cf} (hC:CfOK C) {inl:Inl} (hinl:ZRd C inl) (d:Nat):Zmg C (ZTh C inl d):=by
 induction d with
 | zero=>intro α g ags l n K r h;cases h
 | succ d ih =>
  intro α g ags l n K r h N G w0 v0 a w γ v ℓ vals hr has hk;simp only[ZTh]at h;split at h
  ·rename_i cb hcb;exact Zey (hC.b g cb hcb) h hr has hk
  ·split at h
   ·rename_i fn ann hg;obtain⟨hf,hen⟩:=hinl g _ hg;split at h
    ·rename_i c hc hb;have hlen:=Zrq has;have hb:=lB hb;have hx:=ZRx (N':=fn.ntmps) hr has hk (by rw[hlen];exact hb);refine⟨hen,calls_of_wp hf hc ?_⟩;refine Z4o hC ih c h ⟨γ,v,ℓ,hx⟩ ⟨λf' l' n' a' w' hp hn' ho' hr'=>?_,λi f' l' n' a' w' hp hn' ho' hr'=>(by cases hp),λc l' n' a' w' hp hn' ho' hr'=>?_⟩
     ·unfold endN at hp;split at hp
      ·rename_i hres;obtain⟨γ',v',ℓ',hr'⟩:=hr';refine⟨hr'.st.dfr,_,Zak (vals:=[]) (by rw[hres];exact trivial),_,.nl,l',n',γ',v',ℓ',rfl,hp,by omega,λf=>⟨λ_ _ h _=>h,ho'.l.mono (by omega)⟩,⟨⟨hr.st.size,hr.st.dfr,λt x h=>(by cases h),hr'.st.ext,hr'.st.vst,hr'.st.loc,hr'.st.nd⟩,λt e he=>(by cases he),hr'.lr,hr'.nd,λt e he=>(by cases he),hr'.ul,hr'.gh⟩,?_⟩;exact⟨⟨[],rfl,rfl⟩,trivial⟩
      ·cases hp
     ·obtain⟨γ',v',ℓ',vals',hr',hc',hk',hres⟩:=hr';exact⟨hr'.st.dfr,_,Zak hres,_,c,l',n',γ',v',ℓ',rfl,hp,by omega,λf=>⟨λ_ _ h _=>h,ho'.mono (by omega)⟩,⟨⟨hr.st.size,hr.st.dfr,λt x h=>(by cases h),hr'.st.ext,hr'.st.vst,hr'.st.loc,hr'.st.nd⟩,λt e he=>(by cases he),hr'.lr,hr'.nd,λt e he=>(by cases he),hr'.ul,hr'.gh⟩,oneV_ok hc' hk'⟩
    ·cases h
   ·cases h
theorem Zzn {v:Zb} {γ:Nat→Gh} {l:Lo} {U:Nat→Prop}:∀ {ts:List T} {vals:List Value} {x:ZI ts},Z1a v ts vals x→RR v γ l true (Zlg ts x) vals∧(Zlg ts x).ok U∧vals.length=ts.length
 | [],_,_,h=>⟨h,trivial,by rw[show _=[] from h];rfl⟩
 | [t],_,x,⟨cs,h1,h2⟩=>⟨⟨cs,[],by rw[h1];exact congrArg (λz=>[z]) (Zfh (t:=t) (x:=x) (cs:=cs)).symm,h2,rfl⟩,⟨trivial,trivial⟩,by rw[h1];rfl⟩
 | t :: u :: r,_,x,⟨cs,vs,h1,h2,h3⟩=>by
  obtain⟨k1,k2,k3⟩:=Zzn (γ:=γ) (l:=l) (U:=U) h3
  exact⟨⟨cs,vs,by rw[h1];exact congrArg (· :: vs) (Zfh (t:=t) (x:=x.1) (cs:=cs)).symm,h2,k1⟩,⟨trivial,k2⟩,by rw[h1];simp[k3]⟩
theorem resR_of {v:Zb}:∀ {ts:List T} {vals:List Value} {z:ZI ts},Z1a v ts vals z→ZUe v ts (oneR vals) z
 | [],_,_,h=>by rw[show _=[] from h];exact⟨[],rfl,rfl⟩
 | [t],_,x,⟨cs,h1,h2⟩=>by rw[h1];exact⟨cs,rfl,h2⟩
 | t :: u :: r,vals,x,h=>by
  obtain⟨cs,vs,h1,h2,h3⟩:=h
  have hl:1≤vs.length:=by
   cases r with
   | nil=>obtain⟨cs2,e,_⟩:=h3;rw[e];simp
   | cons u2 r2=>obtain⟨cs2,vs2,e,_⟩:=h3;rw[e];simp
  have e:oneR vals = .tuple vals.toArray:=by
   subst h1
   cases vs with
   | nil=>simp at hl
   | cons y ys=>rfl
  rw[e];exact⟨vals,rfl,cs,vs,h1,h2,h3⟩
theorem Zym {C:Cf} (hC:CfOK C) {inl:Inl} (hinl:ZRd C inl) {f:FuncId} {fn:Func} {ann:Ann} {ats rts:List T} {x:ZI ats} {z:ZI rts} (hf:C.P.funcs[f]? = some fn) (hl:Nat.ble ats.length fn.ntmps=true) (h:ZIi C inl fn ann ats rts x=some z)
  {w:World} {v:Zb} {vals:List Value} (hv:VIn v w) (ha:Z1a v ats vals x):Ret C.P f vals.toArray w v λy v'=>ZUe v' rts y z:=by
 unfold ZIi at h;split at h
 ·rename_i c hc;obtain⟨h1,h2,h3⟩:=Zzn (γ:=λ_=>.box 0) (l:=[]) (U:=(· < 0)) ha;have hK:vals.length≤fn.ntmps:=by rw[h3];exact lB hl
  refine ZVh hv hf hc rfl hK λa hS=>?_;have hr:RelX fn.ntmps (λ_ _=>False) w v (· < 1) (· < 1) (ZLc 0 0 (Zlg ats x)) [] a w (λ_=>.box 0) v []:=by
   refine⟨⟨hS.size,hS.dfr,λt x h=>(by cases h),hS.ext,hS.vst,hS.loc,hS.nd⟩,λt e he=>?_,⟨[],trivial,List.Perm.refl _⟩,List.nodup_nil,λt e he=>?_,λe he=>(by cases he),λx y h=>h.elim⟩
   ·obtain⟨y,q1,q2,q3,q4,q5⟩:=Zke h1 h2 he;have:=hS.fr t y ?_
    ·rw[this];exact q3
    ·have q2:vals[t-0]? = some y:=q2;have:=Zzm (k:=0) (t:=t) (y:=y) (by simpa using q2)
     rwa [Nat.zero_add]at this
   ·obtain⟨y,q1,q2,q3,q4,q5⟩:=Zke h1 h2 he;exact⟨V.ok.mono (λk h=>absurd h (Nat.not_lt_zero k)) q4,by show e.st<1;omega⟩
  refine Z4o hC (Zqu hC hinl 20) c h ⟨_,_,_,hr⟩ ⟨λf' l' n' a' w' hp hn' ho' hr'=>(by cases hp),λi f' l' n' a' w' hp hn' ho' hr'=>(by cases hp),λc l' n' a' w' hp hn' ho' hr'=>?_⟩;obtain⟨γ',v',ℓ',vals',hr',hc',hk',hres⟩:=hr';have hr2:RelX fn.ntmps (λ_ _=>False) w v (· < n') (· < n'+1) [] l' a' w' γ' v' ℓ':=hr'.mono (λ_ h=>h) λk h=>(show k<n'+1 by have:k<n':=h;omega);obtain⟨y,l2,γ2,v2,ℓ2,k1,k2,k3,k4⟩:=ZOf (U:=(· < n')) (X:=(· < n'+1)) (Nat.lt_irrefl n') (Nat.lt_succ_self n') (Zyh hp) hr2 hk';have k1:some y=some z:=k1
  cases k1
  exact⟨k2.st.dfr,_,Zak hres,_,v2,rfl,k2.st.ext.ext,k2.st.vst.ext,resR_of (k4 _ hc')⟩
 ·cases h
def CL (P:Program):List (FuncId×Con)→Prop
 | []=>True
 | p :: r=>Zre P p.1 p.2∧CL P r
def OL (P:Program):List (FuncId×ConO)→Prop
 | []=>True
 | p :: r=>Zrj P p.1 p.2∧OL P r
def IL (P:Program):List (FuncId×ConI)→Prop
 | []=>True
 | p :: r=>Ztl P p.1 p.2∧IL P r
def ML (P:Program):List ((TypeId×String)×FuncId)→Prop
 | []=>True
 | p :: r=>(∀ y w,(method (P.types.size+Made.depth) p.1.1 y p.1.2).run P w = .ok (p.2,y) w)∧ML P r
def NL (P:Program):Inl→Prop
 | []=>True
 | p :: r=>(P.funcs[p.1]? = some p.2.1∧ZV P p.1)∧NL P r
theorem CL_ok {P:Program}:∀ {l:List (FuncId×Con)},CL P l→∀ f c,ZT l f=some c→Zre P f c
 | [],_,_,_,h=>by cases h
 | p :: r,hl,f,c,h=>by
  simp only[ZT]at h
  split at h
  ·rename_i hb;cases h;rw[← eQ hb];exact hl.1
  ·exact CL_ok hl.2 f c h
theorem OL_ok {P:Program}:∀ {l:List (FuncId×ConO)},OL P l→∀ f c,ZT l f=some c→Zrj P f c
 | [],_,_,_,h=>by cases h
 | p :: r,hl,f,c,h=>by
  simp only[ZT]at h
  split at h
  ·rename_i hb;cases h;rw[← eQ hb];exact hl.1
  ·exact OL_ok hl.2 f c h
theorem IL_ok {P:Program}:∀ {l:List (FuncId×ConI)},IL P l→∀ f c,ZT l f=some c→Ztl P f c
 | [],_,_,_,h=>by cases h
 | p :: r,hl,f,c,h=>by
  simp only[ZT]at h
  split at h
  ·rename_i hb;cases h;rw[← eQ hb];exact hl.1
  ·exact IL_ok hl.2 f c h
theorem ML_ok {P:Program}:∀ {l:List ((TypeId×String)×FuncId)},ML P l→∀ t s f,lkM l t s=some f→∀ y w,(method (P.types.size+Made.depth) t y s).run P w = .ok (f,y) w
 | [],_,_,_,_,h=>by cases h
 | p :: r,hl,t,s,f,h=>by
  simp only[lkM]at h
  split at h
  ·rename_i hb hs
   cases h
   rw[← eQ hb,← eq_of_beq hs];exact hl.1
  ·exact ML_ok hl.2 t s f h
def QL (P:Program):List (FuncId×ConM)→Prop
 | []=>True
 | p :: r=>Z8g P p.1 p.2∧QL P r
theorem QL_ok {P:Program}:∀ {l:List (FuncId×ConM)},QL P l→∀ f c,ZT l f=some c→Z8g P f c
 | [],_,_,_,h=>by cases h
 | p :: r,hl,f,c,h=>by
  simp only[ZT]at h
  split at h
  ·rename_i hb;cases h;rw[← eQ hb];exact hl.1
  ·exact QL_ok hl.2 f c h
def BL (P:Program):List (FuncId×ConB)→Prop
 | []=>True
 | p :: r=>Zdk P p.1 p.2∧BL P r
theorem BL_ok {P:Program}:∀ {l:List (FuncId×ConB)},BL P l→∀ f c,ZT l f=some c→Zdk P f c
 | [],_,_,_,h=>by cases h
 | p :: r,k,f,c,h=>by
  simp only[ZT]at h
  split at h
  ·rename_i hb
   cases h
   rw[← eQ hb];exact k.1
  ·exact BL_ok k.2 f c h
def DL (P:Program):List (FuncId×ConD)→Prop
 | []=>True
 | p :: r=>ZQj P p.1 p.2∧DL P r
theorem DL_ok {P:Program}:∀ {l:List (FuncId×ConD)},DL P l→∀ f c,ZT l f=some c→ZQj P f c
 | [],_,_,_,h=>by cases h
 | p :: r,k,f,c,h=>by
  simp only[ZT]at h
  split at h
  ·rename_i hb
   cases h
   rw[← eQ hb];exact k.1
  ·exact DL_ok k.2 f c h
def PL (P:Program):List (FuncId×ConP)→Prop
 | []=>True
 | p :: r=>Z8m P p.1 p.2∧PL P r
theorem PL_ok {P:Program}:∀ {l:List (FuncId×ConP)},PL P l→∀ f c,ZT l f=some c→Z8m P f c
 | [],_,_,_,h=>by cases h
 | p :: r,k,f,c,h=>by
  simp only[ZT]at h
  split at h
  ·rename_i hb
   cases h
   rw[← eQ hb];exact k.1
  ·exact PL_ok k.2 f c h
theorem CfOK.of {C:Cf} (hc:CL C.P C.cons) (ho:OL C.P C.owns) (hi:IL C.P C.ins) (hm:ML C.P C.meths) (hq:QL C.P C.omats:=by exact trivial) (hb:BL C.P C.boxs:=by exact trivial) (hd:DL C.P C.dels:=by exact trivial) (hpo:PL C.P C.pows:=by exact trivial):CfOK C:=⟨CL_ok hc,OL_ok ho,IL_ok hi,ML_ok hm,QL_ok hq,BL_ok hb,DL_ok hd,PL_ok hpo⟩
theorem ZRd.of {C:Cf}:∀ {l:Inl},NL C.P l→ZRd C l
 | [],_,_,_,h=>by cases h
 | p :: r,hl,g,q,h=>by
  simp only[ZT]at h
  split at h
  ·rename_i hb;cases h;rw[← eQ hb];exact hl.1
  ·exact ZRd.of (l:=r) hl.2 g q h
def endM (ty ty2:TypeId) (t:T) (c:V) (l:Lo):Option (List (List t.den)):=match c with
 | .cons (.own u) .nl=>match lkE l u with
  | some ⟨_,_,.mat ty' ty2' t' m _⟩=>match Nat.beq ty' ty,Nat.beq ty2' ty2 with
   | true,true=>ZPb t' t m
   | _,_=>none
  | _=>none
 | _=>none
def Z3k (C:Cf) (inl:Inl) (fn:Func) (ann:Ann) (ats:List T) (ty ty2:TypeId) (t:T) (x:ZI ats):Option (List (List t.den)):=match fn.body with
 | some c=>ZZb C (ZTh C inl 20) fn.results.toList 0 fn.ntmps c [] _ ann (ZLc 0 0 (Zlg ats x)) [] 1 ⟨λ_ _ _=>none,λ_ _ _ _=>none,λc l _=>endM ty ty2 t c l⟩
 | none=>none
theorem ZjA {ℓ es:List Loc} {E:List Loc} (h:(ℓ.filterMap Loc.blk).Nodup) (hp:ℓ.Perm (es++E)):(es.filterMap Loc.blk).Nodup:=by
 have h1:=(hp.filterMap Loc.blk).nodup_iff.1 h;rw[List.filterMap_append]at h1;exact (List.nodup_append.1 h1).1
theorem ZDv {C:Cf} (hC:CfOK C) {inl:Inl} (hinl:ZRd C inl) {f:FuncId} {fn:Func} {ann:Ann} {ats:List T} {ty ty2:TypeId} {t:T} {x:ZI ats} {z:List (List t.den)} (hf:C.P.funcs[f]? = some fn) (hl:Nat.ble ats.length fn.ntmps=true) (h:Z3k C inl fn ann ats ty ty2 t x=some z)
  {w:World} {v:Zb} {vals:List Value} (hv:VIn v w) (ha:Z1a v ats vals x):RetO C.P f vals.toArray w v (OwnM ty ty2 t z w):=by
 unfold Z3k at h;split at h
 ·rename_i c hc;obtain⟨h1,h2,h3⟩:=Zzn (γ:=λ_=>.box 0) (l:=[]) (U:=(· < 0)) ha;have hK:vals.length≤fn.ntmps:=by rw[h3];exact lB hl
  refine ZAn hv hf hc rfl hK λa hS=>?_;have hr:RelX fn.ntmps (λ_ _=>False) w v (· < 1) (· < 1) (ZLc 0 0 (Zlg ats x)) [] a w (λ_=>.box 0) v []:=by
   refine⟨⟨hS.size,hS.dfr,λt x h=>(by cases h),hS.ext,hS.vst,hS.loc,hS.nd⟩,λt e he=>?_,⟨[],trivial,List.Perm.refl _⟩,List.nodup_nil,λt e he=>?_,λe he=>(by cases he),λx y h=>h.elim⟩
   ·obtain⟨y,q1,q2,q3,q4,q5⟩:=Zke h1 h2 he;have:=hS.fr t y ?_
    ·rw[this];exact q3
    ·have q2:vals[t-0]? = some y:=q2;have:=Zzm (k:=0) (t:=t) (y:=y) (by simpa using q2)
     rwa [Nat.zero_add]at this
   ·obtain⟨y,q1,q2,q3,q4,q5⟩:=Zke h1 h2 he;exact⟨V.ok.mono (λk h=>absurd h (Nat.not_lt_zero k)) q4,by show e.st<1;omega⟩
  refine Z4o hC (Zqu hC hinl 20) c h ⟨_,_,_,hr⟩ ⟨λf' l' n' a' w' hp hn' ho' hr'=>(by cases hp),λi f' l' n' a' w' hp hn' ho' hr'=>(by cases hp),λc l' n' a' w' hp hn' ho' hr'=>?_⟩;obtain⟨γ',v',ℓ',vals',hr',hc',hk',hres⟩:=hr';have hp:endM ty ty2 t c l'=some z:=hp;unfold endM at hp;split at hp
  ·rename_i u;split at hp
   ·rename_i kk st ty' ty2' t' m' hv' he;split at hp
    ·rename_i hty hty2;have hty:=eQ hty;have hty2:=eQ hty2;subst hty hty2;obtain⟨e1,e2⟩:=Z2 hp
     cases e1;cases e2
     obtain⟨c1,xs1,rfl,⟨y,rfl,_,hy⟩,hx1⟩:=hc';have hx1:xs1=[]:=hx1;subst hx1;obtain⟨ob,cap,rows0,g1,rfl⟩:=hy _ he;obtain⟨E,hE,hpm⟩:=hr'.lr;obtain⟨es,E',r1,r2,r3⟩:=ZBf hE he;obtain⟨ob',cap',rows,es2,q1,q2,rfl⟩:=r1;have hkk:kk=_:=(Zo he).2;subst hkk;have q1:γ' kk = .mat ob' cap' rows:=q1;rw[g1]at q1;cases q1;refine⟨hr'.st.dfr,_,Zak hres,_,v',rfl,hr'.st.ext.ext,hr'.st.vst.ext,_,_,_,es2,rfl,q2,λx hx=>?_,ZjA hr'.st.nd (hpm.trans r3)⟩;obtain⟨hh,hb⟩:=hr'.st.loc x ((hpm.trans r3).mem_iff.2 (List.mem_append_left _ hx));refine⟨hh,λb e=>?_⟩;obtain⟨h1,h2⟩:=hb b e;rcases h1 with h1 | h1
     ·exact⟨h1,h2⟩
     ·cases h1
    ·cases hp
   ·cases hp
  ·cases hp
 ·cases h
theorem conm_k {C:Cf} (hc:CL C.P C.cons) (ho:OL C.P C.owns) (hi:IL C.P C.ins) (hm:ML C.P C.meths) {inl:Inl} (hn:NL C.P inl) {f:FuncId} {fn:Func} {ann:Ann} {con:ConM} (hf:C.P.funcs[f]? = some fn) (hen:ZV C.P f) (hl:Nat.ble con.args.length fn.ntmps=true)
  (h:∀ x z,con.F x=some z→Z3k C inl fn ann con.args con.ty con.ty2 con.t x=some z) (hq:QL C.P C.omats:=by exact trivial) (hb:BL C.P C.boxs:=by exact trivial) (hd:DL C.P C.dels:=by exact trivial) (hpo:PL C.P C.pows:=by exact trivial):Z8g C.P f con :=
 λ_ _ _ x z hv ha hz=>⟨hen,ZDv (CfOK.of hc ho hi hm hq hb hd hpo) (ZRd.of hn) hf hl (h x z hz) hv ha⟩
theorem tr:True:=trivial
abbrev Ann.n (a:Ann):Ann:=.two .no a
abbrev Ann.f (a:Ann):Ann:=.two a .no
abbrev Ann.j (s:List Nat) (p:List Pl) (v:List Vr) (a:Ann):Ann:=.cut ⟨⟨[],[],[]⟩,[(.norm,⟨s,p,v⟩)]⟩ a
abbrev Ann.r (s:List Nat) (p:List Pl) (v:List Vr) (a:Ann):Ann:=.cut ⟨⟨[],[],[]⟩,[(.ret,⟨s,p,v⟩)]⟩ a
abbrev Ann.l (s:List Nat) (p:List Pl) (v:List Vr) (k:Nat) (s':List Nat) (p':List Pl) (v':List Vr) (a:Ann):Ann:=.cut ⟨⟨s,p,v⟩,[(.exit k,⟨s',p',v'⟩)]⟩ a
def ConR (P:Program) (f:FuncId) (c:Con):Prop:=∀ (w:World) (v:Zb) (vals:List Value) (x:ZI c.args) (z:ZI c.res),VIn v w→Z1a v c.args vals x→c.F x=some z→ZV P f∧Ret P f vals.toArray w v λy v'=>ZUe v' c.res y z
theorem Zg {P:Program} {f:FuncId} {c:Con} (h:ConR P f c):Zre P f c:=λw v vals x z hv ha hz=>.inl (h w v vals x z hv ha hz)
theorem Zp {f:FuncId} {ats rts:List T} {F:ZI ats→Option (ZI rts)} {C:Cf} (ann:Ann) {fn:Func} (hf:C.P.funcs[f]? = some fn) (inl:Inl) (h:∀ x,ZIi C inl fn ann ats rts x=F x) (hc:CL C.P C.cons:=by exact tr) (ho:OL C.P C.owns:=by exact tr) (hm:ML C.P C.meths:=by exact tr) (hn:NL C.P inl:=by exact tr)
  (hq:QL C.P C.omats:=by exact tr) (hb:BL C.P C.boxs:=by exact tr) (hd:DL C.P C.dels:=by exact tr) (hpo:PL C.P C.pows:=by exact tr) (hi:IL C.P C.ins:=by exact tr) (hen:ZV C.P f:=by exact λ_ _=>by kernel_rfl) (hl:Nat.ble ats.length fn.ntmps=true:=by exact rfl):ConR C.P f ⟨ats,rts,F⟩ :=
 λ_ _ _ x _ hv ha hz=>⟨hen,Zym (CfOK.of hc ho hi hm hq hb hd hpo) (ZRd.of hn) hf hl ((h x).trans hz) hv ha⟩
theorem Zx {f:FuncId} {ats rts:List T} {F:ZI ats→Option (ZI rts)} {C:Cf} (ann:Ann) {fn:Func} (hf:C.P.funcs[f]? = some fn) (inl:Inl) (h:∀ v vals x z,Z1a v ats vals x→F x=some z→ZIi C inl fn ann ats rts x=some z) (hc:CL C.P C.cons:=by exact tr) (ho:OL C.P C.owns:=by exact tr) (hm:ML C.P C.meths:=by exact tr) (hn:NL C.P inl:=by exact tr)
  (hq:QL C.P C.omats:=by exact tr) (hb:BL C.P C.boxs:=by exact tr) (hd:DL C.P C.dels:=by exact tr) (hpo:PL C.P C.pows:=by exact tr) (hi:IL C.P C.ins:=by exact tr) (hen:ZV C.P f:=by exact λ_ _=>by kernel_rfl) (hl:Nat.ble ats.length fn.ntmps=true:=by exact rfl):ConR C.P f ⟨ats,rts,F⟩ :=
 λ_ v vals x z hv ha hz=>⟨hen,Zym (CfOK.of hc ho hi hm hq hb hd hpo) (ZRd.of hn) hf hl (h v vals x z ha hz) hv ha⟩
theorem ZEk {f:FuncId} {ax rs:List T} {F:ZI ax→Option (ZI rs)} {C:Cf} (ann:Ann) {fn:Func} (hf:C.P.funcs[f]? = some fn) (inl:Inl) (ats rts:List T) (gA:ZI ax→ZI ats) (gR:ZI rs→ZI rts) (h:∀ v vals x z,Z1a v ax vals x→F x=some z→ZIi C inl fn ann ats rts (gA x)=some (gR z))
  (hc:CL C.P C.cons:=by exact tr) (ho:OL C.P C.owns:=by exact tr) (hm:ML C.P C.meths:=by exact tr) (hn:NL C.P inl:=by exact tr)
  (hA:∀ v vals x,Z1a v ax vals x→Z1a v ats vals (gA x):=by exact λ_ _ _ h=>h) (hR:∀ v y z,ZUe v rts y (gR z)→ZUe v rs y z:=by exact λ_ _ _ h=>h)
  (hq:QL C.P C.omats:=by exact tr) (hb:BL C.P C.boxs:=by exact tr) (hd:DL C.P C.dels:=by exact tr) (hpo:PL C.P C.pows:=by exact tr) (hi:IL C.P C.ins:=by exact tr) (hen:ZV C.P f:=by exact λ_ _=>by kernel_rfl) (hl:Nat.ble ats.length fn.ntmps=true:=by exact rfl):ConR C.P f ⟨ax,rs,F⟩ :=
 λ_ v vals x z hv ha hz=>⟨hen,(Zym (CfOK.of hc ho hi hm hq hb hd hpo) (ZRd.of hn) hf hl (h v vals x z ha hz) hv (hA v vals x ha)).mono λy v' _ hy=>hR v' y z hy⟩
theorem conm_z {f:FuncId} {ats:List T} {ty ty2:TypeId} {t:T} {F:ZI ats→Option (List (List t.den))} {C:Cf} (ann:Ann) {fn:Func} (hf:C.P.funcs[f]? = some fn) (inl:Inl) (h:∀ x,Z3k C inl fn ann ats ty ty2 t x=F x) (hc:CL C.P C.cons:=by exact tr) (ho:OL C.P C.owns:=by exact tr) (hm:ML C.P C.meths:=by exact tr) (hn:NL C.P inl:=by exact tr)
  (hq:QL C.P C.omats:=by exact tr) (hb:BL C.P C.boxs:=by exact tr) (hd:DL C.P C.dels:=by exact tr) (hpo:PL C.P C.pows:=by exact tr) (hi:IL C.P C.ins:=by exact tr) (hen:ZV C.P f:=by exact λ_ _=>by kernel_rfl) (hl:Nat.ble ats.length fn.ntmps=true:=by exact rfl):Z8g C.P f ⟨ats,ty,ty2,t,F⟩ :=
 conm_k hc ho hi hm hn hf hen hl (λx _ hz=>(h x).trans hz) hq hb hd hpo
end Go.Eng
namespace Go.Eng
open Go.Proofs Go.RowKit
abbrev lf:List (TypeId×Nat):=[(40,0),(42,2),(44,3),(54,1),(56,4)]
noncomputable abbrev cf0 (c:List (FuncId×Con)) (m:List Nat) (o:List (FuncId×ConO)) (s:List ((TypeId×String)×FuncId)):Cf:=⟨Tryz.prog,lf,c,m,o,[],s,{}⟩
noncomputable abbrev cf2 (l:List (TypeId×Nat)) (c:List (FuncId×Con)):Cf:=⟨Tryz.prog,l,c,[],[],[],[],{}⟩
noncomputable abbrev cf1 (c:List (FuncId×Con)) (m:List Nat) (o:List (FuncId×ConO)) (s:List ((TypeId×String)×FuncId)) (q:List (FuncId×ConM)) (b:List (FuncId×ConB)) (d:List (FuncId×ConD)):Cf:=⟨Tryz.prog,lf,c,m,o,[],s,⟨[],q,b,d⟩⟩
abbrev KQ (q:FuncId×Con):=Zre Tryz.prog q.1 q.2
abbrev KR (q:FuncId×Con):=ConR Tryz.prog q.1 q.2
abbrev KW (q:FuncId×ConM):=Z8g Tryz.prog q.1 q.2
set_option maxHeartbeats 4000000
noncomputable def ZIf:FuncId×Con:=(132,⟨[.slice (.int .u64)],[.leaf 0],λp=>ZRa p⟩)
theorem cut_r:KR ZIf:=ZEk (C:=cf2 [] []) (.n (.f (.j [] [] [.s 0 (.dat (.slice (.int .u64)))] (.f (.l [] [] [.s 0 (.dat (.slice (.int .u64)))] 0 [] [] [.s 0 (.dat (.slice (.int .u64)))] (.f (.f (.f (.j [0] [] [.s 14 (.dat .bool)] .no))))))))) Tryz.func132 [] [.slice (.int .u64)] [.slice (.int .u64)] (λx=>(x)) (λz=>(Zc 18446744073709551616 z)) (λv vals x z ha hz=>by obtain⟨c0,e0,p0⟩:=ha;exact .trans (by kernel_rfl) (by cases hz;exact (cut_eq (ZSn p0).1 (ZSn p0).2)))
theorem ZJh:KQ ZIf:=Zg cut_r
noncomputable def Z2e:FuncId×Con:=(85,⟨[.int .u64],[.leaf 0],λp=>Zfb p⟩)
theorem Zhq:KR Z2e:=Zx (C:=cf2 [(40,0)] [ZIf]) .no Tryz.func85 [] (λv vals x z ha hz=>.trans (by kernel_rfl) (Znz hz)) ⟨ZJh,tr⟩
theorem ZEg:KQ Z2e:=Zg Zhq
noncomputable def of_q:FuncId×Con:=(46,⟨[.int .i64],[.leaf 2],λp=>ofF p⟩)
theorem of_k:KQ of_q:=Zg (Zx (C:=cf0 [Z2e] [] [] []) .no Tryz.func46 [] (λv vals x z ha hz=>by obtain⟨c0,e0,p0⟩:=ha;exact .trans (by kernel_rfl) (ofF_eq p0.2 hz)) ⟨ZEg,tr⟩)
noncomputable def ZRg:FuncId×Con:=(19,⟨[.int .i64],[.leaf 3],λp=>Z1c p⟩)
theorem ZUh:KQ ZRg:=Zg (Zx (C:=cf0 [of_q] [] [] []) .no Tryz.func19 [] (λv vals x z ha hz=>.trans (by kernel_rfl) (Z7y hz)) ⟨of_k,tr⟩)
noncomputable def ZYu:FuncId×Con:=(184,⟨[.int .u64],[.int .i64],λp=>Zoi p⟩)
theorem len64_k:KQ ZYu:=Zg (Zx (C:=cf2 [] []) (.n (.two (.n (.j [] [] [.s 0 (.dat (.int .u64)),.s 2 (.dat (.int .i64))] .no)) (.two (.n (.j [] [] [.s 0 (.dat (.int .u64)),.s 2 (.dat (.int .i64))] .no)) (.f (.n (.j [] [] [.s 0 (.dat (.int .u64)),.s 2 (.dat (.int .i64))] .no)))))) Tryz.func184 [] (λv vals x z ha hz=>.trans (by kernel_rfl) (ZVA hz)))
noncomputable def Zvn:FuncId×Con:=(163,⟨[.int .u64],[.int .i64],λp=>ZNd p⟩)
theorem ZPt:KR Zvn:=Zx (C:=cf2 [] [ZYu]) .no Tryz.func163 [] (λv vals x z ha hz=>.trans (by kernel_rfl) (Ziy hz)) ⟨len64_k,tr⟩
theorem lz64_k:KQ Zvn:=Zg ZPt
noncomputable def Zqo:FuncId×Con:=(140,⟨[.int .u64,.int .u64,.int .u64],[.int .u64,.int .u64],λp=>Z9c p.1 p.2.1 p.2.2⟩)
theorem Zpr:KR Zqo:=Zx (C:=cf2 [] [Zvn]) (.n (.n (.n (.n (.n (.n (.n (.n (.n (.n (.n (.n (.n (.n (.two (.j [2,8,9,10,11,13,14] [] [.s 15 (.dat (.int .u64))] (.f (.l [2,8,9,10,11,13,14] [] [.s 15 (.dat (.int .u64)),.s 16 (.dat (.int .u64))] 0 [2,8,9,10,11,13,14] [] [.s 15 (.dat (.int .u64))] (.f (.f (.f (.j [2,8,9,10,11,13,14,15,16] [] [.s 78 (.dat .bool)] .no))))))) (.n (.n (.n (.f (.j [2,8,14,15,17] [] [.s 18 (.dat (.int .u64))] (.f (.l [2,8,9,10,14,15,17] [] [.s 16 (.dat (.int .u64)),.s 18 (.dat (.int .u64))] 2 [2,8,14,15,17] [] [.s 18 (.dat (.int .u64))] (.f (.f (.f (.j [2,8,9,10,14,15,16,17,18] [] [.s 113 (.dat .bool)] .no)))))))))))))))))))))))))) Tryz.func140 [] (λv vals x z ha hz=>.trans (by kernel_rfl) (ZGA hz)) ⟨lz64_k,tr⟩
theorem div64_k:KQ Zqo:=Zg Zpr
noncomputable def ZYv:FuncId×Con:=(93,⟨[.leaf 0,.int .u64],[.leaf 0,.int .u64],λp=>ZXd p.1 p.2⟩)
theorem ZyA:KR ZYv:=Zx (C:=cf2 [(40,0)] [ZIf,Zqo]) (.n (.n (.n (.f (.n (.j [] [] [.s 6 (.own 159 (.int .u64)),.s 7 (.dat (.int .u64))] (.f (.l [0,1] [] [.s 6 (.own 159 (.int .u64)),.s 7 (.dat (.int .u64)),.s 8 (.dat (.int .i64))] 0 [] [] [.s 6 (.own 159 (.int .u64)),.s 7 (.dat (.int .u64))] .no)))))))) Tryz.func93 [] (λv vals x z ha hz=>by obtain⟨c0,w0,e0,p0,c1,e1,p1⟩:=ha;exact .trans (by kernel_rfl) (ZUz p1.2 hz)) ⟨ZJh,div64_k,tr⟩
theorem ZIs {h:World} {b:Zb} (hv:VIn b h) {c:List Value} {a:Nat} (i:Rep.rel Zt b c a) {d:List Value} {n:Int} (j:Rep.rel (Zf .u64) b d n) {z:Nat×Int} (hm:ZXd a n=some z) :
  Ret Tryz.prog 93 #[Zt.val c,(Zf .u64).val d] h b (λy v'=>∃ f g,y=Value.tuple #[Zt.val f,(Zf .u64).val g]∧Zt.rel v' f z.1∧(Zf .u64).rel v' g z.2) :=
 (ZyA h b [Zt.val c,(Zf .u64).val d] (a,n) z hv ⟨c,_,rfl,i,d,rfl,j⟩ hm).2.mono λy v' _ ⟨_,e,f,_,q,k,g,q',l⟩=>by subst q';subst q;exact⟨f,g,e,k,l⟩
noncomputable def cmp_q:FuncId×Con:=(134,⟨[.leaf 0,.leaf 0],[.int .i64],λp=>Zsf p.1 p.2⟩)
theorem cmp_r:KR cmp_q:=ZEk (C:=cf2 [] []) (.n (.n (.f (.n (.cut ⟨⟨[],[],[]⟩,[(.norm,⟨[],[],[]⟩),(.ret,⟨[],[],[.s 1000 (.dat (.int .i64))]⟩)]⟩ (.f (.cut ⟨⟨[0,1],[],[.s 5 (.dat (.int .i64))]⟩,[(.ret,⟨[],[],[.s 1000 (.dat (.int .i64))]⟩),(.exit 0,⟨[],[],[]⟩)]⟩ .no))))))) Tryz.func134 [] [.slice (.int .u64),.slice (.int .u64)] [.int .i64] (λx=>((Zc 18446744073709551616 x.1),(Zc 18446744073709551616 x.2))) (λz=>z) (λv vals x z ha hz=>by obtain⟨c0,w0,e0,p0,c1,e1,p1⟩:=ha;exact .trans (by kernel_rfl) ((cmp_eq (ZLu p0) (ZLu p1)).trans hz))
theorem cmp_k:KQ cmp_q:=Zg cmp_r
theorem cmp_c {f:World} {c:Zb} (hv:VIn c f) {d:List Value} {a:Nat} (h:Rep.rel Zt c d a) {e:List Value} {b:Nat} (i:Rep.rel Zt c e b) {z:Int} (hm:Zsf a b=some z) :
  Ret Tryz.prog 134 #[Zt.val d,Zt.val e] f c (λy v'=>∃ g,y=(Zf .i64).val g∧(Zf .i64).rel v' g z) :=
 (cmp_r f c [Zt.val d,Zt.val e] (a,b) z hv ⟨d,_,rfl,h,e,rfl,i⟩ hm).2
theorem Z9k {d:World} {b:Zb} (hv:VIn b d) {c:List Value} {a:(List Int)} (f:Rep.rel (ZB (Zf .u64)) b c a) {z:Nat} (hm:ZRa a=some z) :
  Ret Tryz.prog 132 #[(ZB (Zf .u64)).val c] d b (λy v'=>∃ e,y=Zt.val e∧Zt.rel v' e z) :=
 (cut_r d b [(ZB (Zf .u64)).val c] (a) z hv ⟨c,rfl,f⟩ hm).2
theorem div64_c {h:World} {a:Zb} (hv:VIn a h) {b:List Value} {hi:Int} (i:Rep.rel (Zf .u64) a b hi) {c:List Value} {lo:Int} (j:Rep.rel (Zf .u64) a c lo) {d:List Value} {y:Int} (k:Rep.rel (Zf .u64) a d y) {z:Int×Int} (hm:Z9c hi lo y=some z) :
  Ret Tryz.prog 140 #[(Zf .u64).val b,(Zf .u64).val c,(Zf .u64).val d] h a (λy v'=>∃ f g,y=Value.tuple #[(Zf .u64).val f,(Zf .u64).val g]∧(Zf .u64).rel v' f z.1∧(Zf .u64).rel v' g z.2) :=
 (Zpr h a [(Zf .u64).val b,(Zf .u64).val c,(Zf .u64).val d] (hi,lo,y) z hv ⟨b,_,rfl,i,c,_,rfl,j,d,rfl,k⟩ hm).2.mono λy v' _ ⟨_,e,f,_,q,l,g,q',m⟩=>by subst q';subst q;exact⟨f,g,e,l,m⟩
noncomputable def ZAm:FuncId×Con:=(130,⟨[.int .u64,.int .u64],[.int .u64,.int .u64],λp=>Zyc p.1 p.2⟩)
theorem Z0r:KR ZAm:=Zx (C:=cf2 [] []) .no Tryz.func130 [] (λv vals x z ha hz=>.trans (by kernel_rfl) (Z0v hz))
theorem mul64_k:KQ ZAm:=Zg Z0r
theorem ZFo {g:World} {a:Zb} (hv:VIn a g) {b:List Value} {x:Int} (h:Rep.rel (Zf .u64) a b x) {c:List Value} {y:Int} (i:Rep.rel (Zf .u64) a c y) {z:Int×Int} (hm:Zyc x y=some z) :
  Ret Tryz.prog 130 #[(Zf .u64).val b,(Zf .u64).val c] g a (λy v'=>∃ d f,y=Value.tuple #[(Zf .u64).val d,(Zf .u64).val f]∧(Zf .u64).rel v' d z.1∧(Zf .u64).rel v' f z.2) :=
 (Z0r g a [(Zf .u64).val b,(Zf .u64).val c] (x,y) z hv ⟨b,_,rfl,h,c,rfl,i⟩ hm).2.mono λy v' _ ⟨_,e,d,_,q,j,f,q',k⟩=>by subst q';subst q;exact⟨d,f,e,j,k⟩
end Go.Eng
namespace Go.Eng
open Go.RowKit
theorem ZQ {α:Type _} {a b:α} (h:some a=some b):a=b:=Option.some.inj h
theorem ZJb (b:Bool):b=true∨b=false:=(Bool.eq_false_or_eq_true b)
theorem leT {a b c:Zb} (h:a.le b) (k:b.le c):a.le c:=Zb.le_trans h k
theorem leR (v:Zb):v.le v:=Zb.le_refl v
theorem bO {α β:Type _} {x:Option α} {f:α→Option β} {z:β} {G:Prop} (h:bnd x f=some z) (k:∀ y,x=some y→f y=some z→G):G:=by obtain⟨y,e,h⟩:=ZAa h;exact k y e h
theorem ZY {P:Program} {Q:Exit→Act→World→Prop} {a:Act} {w:World} {id:Nat} {l:List Oper} (h:wpList P l.toArray Q l a w):(Code.region id l.toArray false).wp P Q a w:=wp_region_lit h
theorem ZD {P:Program} {Q:Exit→Act→World→Prop} {a:Act} {w:World} {x y:Code} (h:∀ K:Act→World→Prop,(∀ a w,y.wp P Q a w→K a w)→x.wp P (Exit.then K Q) a w):(Code.seq x y).wp P Q a w:=wp_seq_k h
theorem ZTa {α:Type} {A:Rep α} {v v':Zb} {cs:List Value} {x:α} (hv:v.le v') (h:A.rel v cs x):A.rel v' cs x:=A.mono hv h
theorem Rflat {α:Type} (A:Rep α) {v:Zb} {cs:List Value} {x:α} (h:A.rel v cs x):cs.all plain=true:=A.flat h
theorem Atm {v v':Zb} {b off:Nat} {cs:List Value} (h:v.le v') (k:At v b off cs):At v' b off cs:=At.mono h k
end Go.Eng
namespace Go.Eng
open Go.Proofs Go.RowKit
theorem Zjq:Zbh Tryz.prog 214 20 1:=⟨5,λ_=>by kernel_rfl,λ_=>by kernel_rfl⟩
theorem ZWv:ConvI Tryz.prog 159 5 .u64 .u8:=λ_ _=>by kernel_rfl
theorem ZQt:Elem Tryz.prog 167 9 1 16 (Value.string (Zs [])):=⟨Tryz.underlying167,by kernel_rfl,rfl,by decide⟩
theorem ZAi:Elem Tryz.prog 40 159 1 8 (Value.int IntKind.u64 0):=⟨Tryz.underlying40,by kernel_rfl,rfl,by decide⟩
theorem Z5n:ZV Tryz.prog 130:=λ_ _=>by kernel_rfl
theorem ZDl:ZV Tryz.prog 132:=λ_ _=>by kernel_rfl
theorem Zbp:ZV Tryz.prog 134:=λ_ _=>by kernel_rfl
theorem k_en140:ZV Tryz.prog 140:=λ_ _=>by kernel_rfl
theorem k_en163:ZV Tryz.prog 163:=λ_ _=>by kernel_rfl
theorem ZNs:ZV Tryz.prog 164:=λ_ _=>by kernel_rfl
theorem k_en165:ZV Tryz.prog 165:=λ_ _=>by kernel_rfl
theorem k_en166:ZV Tryz.prog 166:=λ_ _=>by kernel_rfl
theorem k_en185:ZV Tryz.prog 185:=λ_ _=>by kernel_rfl
theorem k_en85:ZV Tryz.prog 85:=λ_ _=>by kernel_rfl
theorem Z7t:ZV Tryz.prog 93:=λ_ _=>by kernel_rfl
theorem k_en94:ZV Tryz.prog 94:=λ_ _=>by kernel_rfl
theorem k_en95:ZV Tryz.prog 95:=λ_ _=>by kernel_rfl
theorem k_en96:ZV Tryz.prog 96:=λ_ _=>by kernel_rfl
theorem k_en97:ZV Tryz.prog 97:=λ_ _=>by kernel_rfl
theorem ZKp:Zrf Tryz.prog 131 add64Entry:=⟨_,Tryz.func131,by kernel_rfl,by kernel_rfl,by kernel_rfl,by kernel_rfl⟩
theorem ZUA:Zrf Tryz.prog 167 Zbl:=⟨_,Tryz.func167,by kernel_rfl,by kernel_rfl,by kernel_rfl,by kernel_rfl⟩
theorem ZCn:Tryz.prog.follows .mixedOrders=true:=by kernel_rfl
theorem ZGo:ZDd Tryz.prog 167 9 1:=⟨λ_=>by kernel_rfl,λ_=>by kernel_rfl⟩
theorem Zia:ZDd Tryz.prog 40 159 1:=⟨λ_=>by kernel_rfl,λ_=>by kernel_rfl⟩
theorem ZOb:Sized Tryz.prog 159 1 false:=⟨λ_=>by kernel_rfl,λ_=>by kernel_rfl⟩
theorem k_sz5:Sized Tryz.prog 5 1 false:=⟨λ_=>by kernel_rfl,λ_=>by kernel_rfl⟩
theorem k_sz9:Sized Tryz.prog 9 1 false:=⟨λ_=>by kernel_rfl,λ_=>by kernel_rfl⟩
theorem k_zv175:∀ w,(zeroValue 175).run Tryz.prog w = .ok (Value.agg #[Value.pointer none,Value.slice none 0 0]) w:=λ_=>by kernel_rfl
theorem k_zv214:∀ w,(zeroValue 214).run Tryz.prog w = .ok (Value.agg #[Value.int IntKind.u8 0,Value.int IntKind.u8 0,Value.int IntKind.u8 0,Value.int IntKind.u8 0,Value.int IntKind.u8 0,Value.int IntKind.u8 0,Value.int IntKind.u8 0,Value.int IntKind.u8 0,Value.int IntKind.u8 0,Value.int IntKind.u8 0,Value.int IntKind.u8 0,Value.int IntKind.u8 0,Value.int IntKind.u8 0,Value.int IntKind.u8 0,Value.int IntKind.u8 0,Value.int IntKind.u8 0,Value.int IntKind.u8 0,Value.int IntKind.u8 0,Value.int IntKind.u8 0,Value.int IntKind.u8 0]) w:=λ_=>by kernel_rfl
theorem take_w {R:World} {o:Zb} (hv:VIn o R) {a off0 g C:Nat} {E:TypeId} {pre0 cs0 post0:List Value} {u:(List Int)} (bf:R.heap[a]? = some (.cells (pre0++cs0++post0).toArray E (0,0))) (aG:off0=pre0.length) (bg:o a=none) (au:g=u.length) (bh:g≤C∧C≤maxLen) (r:Rep.rels (Zf .u64) o cs0 u) {c1:List Value} {v:Nat} (D:Rep.rel Zt o c1 v) {c2:List Value} {q:Int} (p2:Rep.rel (Zf .u64) o c2 q) {z:Bool×(List Int)} (H:Zxi u v q=some z):ZLe Tryz.prog 185 #[.slice (some ⟨a,off0,none⟩) g C,Zt.val c1,(Zf .u64).val c2] R o [a] (λy v' w'=>(∃ r0,y=Zwd.val r0∧Zwd.rel v' r0 z.1)∧v' a=none∧∃ cs,w'.heap[a]? = some (.cells (pre0++cs++post0).toArray E (0,0))∧g=z.2.length∧Rep.rels (Zf .u64) v' cs z.2):=by
 obtain⟨q1,V,W,rfl⟩:=ZYa D;obtain⟨rfl,r4⟩:=p2;refine Zcv (K:=79) (args:=[.slice (some ⟨a,off0,none⟩) (g) C,.slice q1 V W,.int .u64 q]) hv bf bg Tryz.func185 rfl rfl zl λf S=>?_;unfold Zxi at H;refine sr (mw S rfl λf S=>oe (ZD λ_ bi=>bO H λJ bj H=>bO H λcG av H=>ZY (mv S rfl λf S=>ov S rfl (Zsc S (Zhb D) rfl rfl Zia) λf S=>ov S rfl (ZJ S rfl rfl (Z1f bj)) λf S=>?_)));obtain⟨aH,aQ⟩:∃ c:List Value,c=(List.replicate (J).toNat [.int .u64 0]).flatten:=⟨_,rfl⟩;obtain⟨aR,w,bk,S⟩:=ZAs ZAi S (l:=J) (c:=J) (ZLd av).1 (ZLd av).2.1 (ZLd av).2.2.1 (ZLd av).2.2.2 aQ;have bm:Rep.rels (Zf .u64) o aH (List.replicate (J).toNat (0:Int)):=by rw[aQ];exact ZKg (show Rep.rel (Zf .u64) _ [.int .u64 0] _ from (Zba (by decide))) _
 refine ZJc wn rfl zl (bk rfl rfl) S λf S=>mw S rfl λf S=>ZS (Zr (bi _ _ (sr (mw S rfl λf S=>oe (ZD λ_ bn=>sr (mv S rfl λf S=>ov S rfl (Zsc S (Zhb D) rfl rfl Zia) λf S=>mv S rfl λf S=>oe ?_))))));obtain⟨bo,bp,bq⟩:=ZAa H;refine Zvd (λf w=>∃ L b aI s G h X,(L,b)=bo∧Zb.le o X∧St 79 ⟨R,[a]⟩ o [(0,.slice (some ⟨a,off0,none⟩) (g) C),(1,.slice q1 V W),(7,.slice (mkA aI) s G),(8,.int .u64 b)] [Loc.box a E (pre0++cs0++post0),Loc.own aI 159 1 s G h] X f w∧Rep.rels (Zf .u64) X h L∧s=L.length∧inR .u64 b) (λ_ br=>?_) ?_
 ·have H:=bp;refine wp_block ?_;obtain⟨cH,bt,bu⟩:=ZAa H;have S:=S.reorder (ℓ':=[Loc.box a E (pre0++cs0++post0),Loc.own (some aR) 159 1 ((J).toNat) (J).toNat aH]) [1,0] rfl (by decide);refine ZMe bt (λbv f w=>∃ Y ag m aw M Z I ax,(Y,ag,m)=bv∧Zb.le o ax∧St 79 ⟨R,[a]⟩ o [(0,.slice (some ⟨a,off0,none⟩) (g) C),(1,.slice q1 V W),(2,.int .u64 q),(7,.slice (mkA aw) M Z),(8,.int .u64 ag),(20,.slice q1 V W),(21,.int .i64 ((((Zc 18446744073709551616 v)).length:Int))),(22,.int .i64 m)] [Loc.box a E (pre0++cs0++post0),Loc.own aw 159 1 M Z I] ax f w∧Rep.rels (Zf .u64) ax I Y∧M=Y.length∧inR .u64 ag∧inR .i64 m) ⟨_,_,_,some aR,(J).toNat,(J).toNat,aH,_,rfl,(leR _),(S.fr' rfl),bm,(repN (x:=(0:Int))),(by decide),(by decide)⟩ ?_;rintro _ f w st ⟨Y,ag,m,aw,M,Z,I,ax,hq,ay,S,ah,ai,bw,cI⟩ H cJ bx bz;subst hq;have r:=ZZ ay r;refine sr (ov S rfl (ZJ S rfl rfl Zne) λf S=>oe (ZD λ_ bA=>?_));rcases ZJb (decide (m<(((Zc 18446744073709551616 v)).length:Int))) with aj | aj
  ·have H:=ZGb H aj;refine ZNb S rfl aj (wp_skip (Zr (bA _ _ (ZD λ_ bB=>wp_block (ZD λ_ bC=>bO H λaJ aK H=>ZY (mv S rfl λf S=>?_))))));have D:=ZTa ay D;obtain⟨_,aS,aT,cK,rfl,bD,bE⟩:=Zuc D (Zm aK).2.1;obtain⟨rfl,bG⟩:=bE;refine ov S rfl (ZEa S rfl rfl Zia (Zm aK).1 (ltI (Zhb D) (Zm aK).2.2.1)) λf S=>ov S rfl (Zzb S rfl ZOb (S.view bD)) λf S=>mw S rfl λf S=>mw S rfl λf S=>ZS (Zr (bC _ _ (ZD λ_ bH=>bO H λaU bI H=>ZY (mv S rfl λf S=>mv S rfl λf S=>opc S rfl (ZHa S [.int .u64 aJ,.int .u64 q] Z5n rfl rfl) (ZFo S.vin (show Rep.rel (Zf .u64) _ [.int .u64 aJ] aJ from (Zba bG)) (show Rep.rel (Zf .u64) _ [.int .u64 q] q from (Zba r4)) bI) ?_))));rintro _ aV f w aL ⟨cL,cM,rfl,bJ,bK⟩ S;have r:=ZZ aL r;have ah:=ZZ aL ah;obtain⟨rfl,cN⟩:=bJ;obtain⟨rfl,cO⟩:=bK;refine mv S rfl λf S=>ov S rfl (ZOa S rfl rfl) λf S=>ov S rfl (ZOa S rfl rfl) λf S=>mw S rfl λf S=>mw S rfl λf S=>ZS (Zr (bH _ _ (sr (mw S rfl λf S=>oe (ZD λ_ bM=>bO H λN aW H=>bO H λcP aa H=>ZY ?_)))));refine mv S rfl λf S=>mv S rfl λf S=>mv S rfl λf S=>mv S rfl λf S=>ov S rfl (Z0k S [.int .u64 (aU.2),.int .u64 ag,.int .u64 0] (Zqn ZKp aW) rfl rfl) λf S=>mv S rfl λf S=>ov S rfl (ZOa S rfl rfl) λf S=>ov S rfl (ZOa S rfl rfl) λf S=>?_
   obtain⟨aX,rfl⟩:=ZKe S (j:=1) rfl (posN ai (Zm aa).2.2.2);have aY:=ZJa ah (Zm aa).2.1;obtain⟨cQ,bP⟩:∃ c,(List.take (Zf .u64).n (List.drop ((m).toNat*(Zf .u64).n) I))=c:=⟨_,rfl⟩;rw[bP]at aY;obtain⟨rfl,cR⟩:=aY;refine ov S rfl (ZEa S rfl rfl Zia (Zm aa).1 (ltI ai (Zm aa).2.2.1)) λf S=>?_;obtain⟨w,bQ,S⟩:=Z3d S ZOb (off:=0+(m).toNat*1) (z:=.int .u64 (N.1)) (cs:=[.int .u64 (N.1)]) (Zkd rfl) rfl (i:=1) rfl (Zuj S (j:=1) rfl (ltN ai (Zm aa).2.2.2)) (by first | rfl | simp[plain]);have bR:Rep.rels (Zf .u64) aV (List.take (0+(m).toNat*1) I++[Value.int IntKind.u64 (N.1)]++List.drop (0+(m).toNat*1+1) I) (Y.set (m).toNat N.1):=Z2f ah (Zm aa).2.2.2 (show Rep.rel (Zf .u64) aV [.int .u64 (N.1)] _ from (Zba (Zhn aW))) rfl rfl;have bS:M=(Y.set (m).toNat N.1).length:=setN ai;refine ZRk wn rfl (bQ rfl rfl) (mw S rfl λf S=>ZS ?_);have S:=S.fr' (σ':=[(0,.slice (some ⟨a,off0,none⟩) (g) C),(1,.slice (some ⟨aS,aT,none⟩) V W),(2,.int .u64 q),(7,.slice (mkA (some aX)) (M) Z),(11,.int .u64 (aU.1)),(13,.int .u64 (N.2)),(20,.slice (some ⟨aS,aT,none⟩) V W),(21,.int .i64 ((((Zc 18446744073709551616 v)).length:Int))),(22,.int .i64 m)]) rfl
   refine Zr (bM _ _ (ZY (mv S rfl λf S=>mv S rfl λf S=>ov S rfl (ZJ S rfl rfl Z3n) λf S=>mw S rfl λf S=>ZS (Z5d (Zr (bB _ _ (bO H λcS aZ H=>ZY (ov S rfl (ZJ S rfl rfl (Z1f aZ)) λf S=>mv S rfl λf S=>ZS ?_))))))));obtain rfl:=ZQ H;refine bx _ rfl _ _ ⟨_,_,_,some aX,M,Z,(List.take (0+(m).toNat*1) I++[Value.int IntKind.u64 (N.1)]++List.drop (0+(m).toNat*1+1) I),_,rfl,(leT ay aL),(S.fr' rfl),bR,bS,(Zlc _ _),(ZYb aZ).2⟩
  have H:=ZQb H aj;refine Z9a S rfl aj (wp_exit (Zob ?_));obtain rfl:=ZQ H;have hq:=bz _ rfl;subst hq;have H:=bu;refine Zob (ZQd ?_);obtain rfl:=ZQ H;refine Zr (br _ _ ⟨_,_,aw,M,Z,I,_,rfl,(leT (leR _) ay),(S.fr' rfl),ah,ai,bw⟩)
 rintro f w ⟨L,b,aI,s,G,h,X,hq,a0,S,a1,az,bT⟩;subst hq;have H:=bq;have r:=ZZ a0 r;refine Zr (bn _ _ (ZD λ_ bU=>bO H λcT ab H=>ZY (mv S rfl λf S=>mv S rfl λf S=>?_)));have D:=ZTa a0 D;refine ov S rfl (Zsc S (Zhb D) rfl rfl Zia) λf S=>mv S rfl λf S=>?_;obtain⟨ac,rfl⟩:=ZKe S (j:=1) rfl (posN az (Zm ab).2.2.2);have a2:=ZJa a1 (Zm ab).2.1;obtain⟨cU,bV⟩:∃ c,(List.take (Zf .u64).n (List.drop (((((Zc 18446744073709551616 v)).length:Int)).toNat*(Zf .u64).n) h))=c:=⟨_,rfl⟩;rw[bV]at a2;obtain⟨rfl,cV⟩:=a2;refine ov S rfl (ZEa S rfl rfl Zia (Zm ab).1 (ltI az (Zm ab).2.2.1)) λf S=>?_;obtain⟨w,bW,S⟩:=Z3d S ZOb (off:=0+((((Zc 18446744073709551616 v)).length:Int)).toNat*1) (z:=.int .u64 b) (cs:=[.int .u64 b]) (Zkd rfl) rfl (i:=1) rfl (Zuj S (j:=1) rfl (ltN az (Zm ab).2.2.2)) (by first | rfl | simp[plain]);have p:Rep.rels (Zf .u64) X (List.take (0+((((Zc 18446744073709551616 v)).length:Int)).toNat*1) h++[Value.int IntKind.u64 (b)]++List.drop (0+((((Zc 18446744073709551616 v)).length:Int)).toNat*1+1) h) (L.set ((((Zc 18446744073709551616 v)).length:Int)).toNat b):=Z2f a1 (Zm ab).2.2.2 (show Rep.rel (Zf .u64) X [.int .u64 b] _ from (Zba bT)) rfl rfl
 have aM:s=(L.set ((((Zc 18446744073709551616 v)).length:Int)).toNat b).length:=setN az;refine ZRk wn rfl (bW rfl rfl) (ZS (Zr (bU _ _ (ZD λ_ bX=>ZD λ_ bY=>bO H λcW bZ H=>bO H λcX b1 H=>bO H λb2 b3 H=>ZY (mv S rfl λf S=>?_)))));have p0s120:=r;have h69s120:=p;have b4:=S.vst.le;obtain⟨cY,cZ,a3,t,S,b5,b6,b7,T⟩:=S.lendSeg (i:=0) (A:=(Zf .u64)) (l:=u) (ℓ':=[Loc.own (some ac) 159 1 s G ((List.take (0+((((Zc 18446744073709551616 v)).length:Int)).toNat*1) h++[Value.int IntKind.u64 (b)]++List.drop (0+((((Zc 18446744073709551616 v)).length:Int)).toNat*1+1) h))]) rfl rfl aG r au bh;have p:=ZZ a3 p;refine opc S rfl (ZHa S [.slice (some ⟨a,off0,none⟩) (g) C] ZDl rfl rfl) (Z9k S.vin (show Rep.rel (ZB (Zf .u64)) _ [.slice (some ⟨a,off0,none⟩) (g) C] u from T) bZ) ?_;rintro _ c0 f w aA ⟨c3,rfl,P⟩ S;have p:=ZZ aA p;have t:=aA _ _ t;obtain⟨b8,b9,ca,rfl⟩:=ZYa P;refine mv S rfl λf S=>?_;have T:=ZTa aA T;have h128s137:=T;have h69s137:=p;have h133s137:=P;have h124s137:=t;have cb:=S.vst.le;obtain⟨c4,c5,aB,ak,S,cc,cd,ce,cg⟩:=S.lendSlice (i:=0) (A:=(Zf .u64)) (l:=(L.set ((((Zc 18446744073709551616 v)).length:Int)).toNat b)) (ℓ':=[]) rfl rfl rfl p aM
 have t:=aB _ _ t;refine opc S rfl (ZHa S [.slice (mkA (some ac)) (s) G] ZDl rfl rfl) (Z9k S.vin (show Rep.rel (ZB (Zf .u64)) _ [.slice (mkA (some ac)) (s) G] ((L.set ((((Zc 18446744073709551616 v)).length:Int)).toNat b)) from cg) b1) ?_;rintro _ c6 f w al ⟨c7,rfl,a4⟩ S;have t:=al _ _ t;have ak:=al _ _ ak;obtain⟨ch,ci,cj,rfl⟩:=ZYa a4;have P:=ZTa (leT aB al) P;refine opc S rfl (ZHa S [.slice b8 b9 ca,.slice ch ci cj] Zbp rfl rfl) (cmp_c S.vin P a4 b3) ?_;rintro _ c8 f w am ⟨c9,rfl,ck⟩ S;have t:=am _ _ t;have ak:=am _ _ ak;obtain⟨rfl,da⟩:=ck;refine ov S rfl (ZJ S rfl rfl Zne) λf S=>ZS ?_;obtain⟨db,an,S⟩:=S.takeBack (e:=Loc.own (some ac) 159 1 s G ((List.take (0+((((Zc 18446744073709551616 v)).length:Int)).toNat*1) h++[Value.int IntKind.u64 (b)]++List.drop (0+((((Zc 18446744073709551616 v)).length:Int)).toNat*1+1) h))) (leT (leT aB al) am) rfl ak cc cd cb ce;have T:=ZTa (leT (leT aB al) am) T;have T:=ZTa an h128s137;have p:=ZZ an h69s137;have P:=ZTa am P;have P:=ZTa an h133s137;have t:=an _ _ h124s137;obtain⟨a5,a6,S⟩:=S.takeBack (e:=Loc.box a E (pre0++cs0++post0)) (leT (leT a3 aA) an) rfl t b5 b6 b4 b7;have r:=ZZ a6 p0s120
 have p:=ZZ a6 h69s120;refine Zr (bY _ _ ?_);rcases ZJb (decide (b2<(0:Int))) with ao | ao
 ·have H:=ZGb H ao;refine ZNb S rfl ao (sr (mw S rfl λf S=>oe (wp_ret (ZLi ?_))));obtain rfl:=ZQ H;refine Z0n S (Zpe rfl (Zyb S rfl)) ⟨⟨[.bool false],rfl,Zuq⟩,(S.boxAt (j:=0) rfl).2,_,(S.boxAt (j:=0) rfl).1,au,r⟩
 have H:=ZQb H ao;refine Z9a S rfl ao (wp_skip (Zr (bX _ _ (sr (mw S rfl λf S=>oe (ZD λ_ cl=>sr (mv S rfl λf S=>ov S rfl (Zsc S au rfl rfl Zia) λf S=>mv S rfl λf S=>oe ?_)))))));obtain⟨cm,cn,co⟩:=ZAa H;refine Zvd (λf w=>∃ aC aN aD,aC=cm∧Zb.le a5 aD∧St 79 ⟨R,[a]⟩ o [] [Loc.box a E (pre0++aN++post0)] aD f w∧Rep.rels (Zf .u64) aD aN aC∧g=aC.length) (λ_ cp=>?_) ?_
 ·have H:=cn;refine wp_block ?_;obtain⟨dc,cq,cr⟩:=ZAa H;refine ZMe cq (λct f w=>∃ ad ap d B ae,(ad,ap,d)=ct∧Zb.le a5 ae∧St 79 ⟨R,[a]⟩ o [(0,.slice (some ⟨a,off0,none⟩) (g) C),(7,.slice (mkA (some ac)) (s) G),(14,.int .u64 ap),(58,.int .i64 ((u.length:Int))),(59,.int .i64 d)] [Loc.box a E (pre0++B++post0),Loc.own (some ac) 159 1 s G ((List.take (0+((((Zc 18446744073709551616 v)).length:Int)).toNat*1) h++[Value.int IntKind.u64 (b)]++List.drop (0+((((Zc 18446744073709551616 v)).length:Int)).toNat*1+1) h))] ae f w∧Rep.rels (Zf .u64) ae B ad∧g=ad.length∧inR .u64 ap∧inR .i64 d) ⟨_,_,_,cs0,_,rfl,(leR _),(S.fr' rfl),r,au,(by decide),(by decide)⟩ ?_;rintro _ f w st ⟨ad,ap,d,B,ae,hq,aO,S,af,Q,dd,de⟩ H df cu cv;subst hq;have p:=ZZ aO p;refine sr (ov S rfl (ZJ S rfl rfl Zne) λf S=>oe (ZD λ_ cw=>?_));rcases ZJb (decide (d<(u.length:Int))) with aq | aq
  ·have H:=ZGb H aq;refine ZNb S rfl aq (wp_skip (Zr (cw _ _ (ZD λ_ cx=>wp_block (sr (mv S rfl λf S=>mw S rfl λf S=>oe (bO H λa7 aE H=>bO H λa8 aF H=>bO H λU aP H=>bO H λdg ar H=>Zmk (fl:=#[true,true,true,true,true,true,true,true,true,true,true,false,true,true,true,true,false,false]) ZCn (by kernel_rfl) S ?_)))))));intro ops O F w S;refine rfa O F 0 rfl rfl S (Z1 S rfl) λf S=>rfa O F 1 rfl rfl S (Z1 S rfl) λf S=>rfa O F 2 rfl rfl S (Z1 S rfl) λf S=>rfa O F 3 rfl rfl S (Z1 S rfl) λf S=>?_;have a9:=ZJa af (Zm aE).2.1;obtain⟨dh,ba⟩:∃ c,(List.take (Zf .u64).n (List.drop ((d).toNat*(Zf .u64).n) B))=c:=⟨_,rfl⟩;rw[ba]at a9;obtain⟨rfl,cy⟩:=a9;refine rfa O F 4 rfl rfl S (ZEa S rfl rfl Zia (Zm aE).1 (ltI Q (Zm aE).2.2.1)) λf S=>rfa O F 5 rfl rfl S (Zzb S rfl ZOb (ZSh S (j:=0) rfl aG (ZDe af Q) ba (ltN Q (Zm aE).2.2.2) 0 [.int .u64 a7] rfl zl)) λf S=>rfa O F 6 rfl rfl S (Z1 S rfl) λf S=>rfa O F 7 rfl rfl S (Z1 S rfl) λf S=>?_;have bb:=ZJa p (Zm aF).2.1;obtain⟨di,bc⟩:∃ c,(List.take (Zf .u64).n (List.drop ((d).toNat*(Zf .u64).n) (List.take (0+((((Zc 18446744073709551616 v)).length:Int)).toNat*1) h++[Value.int IntKind.u64 (b)]++List.drop (0+((((Zc 18446744073709551616 v)).length:Int)).toNat*1+1) h)))=c:=⟨_,rfl⟩
   rw[bc]at bb;obtain⟨rfl,cz⟩:=bb;refine rfa O F 8 rfl rfl S (ZEa S rfl rfl Zia (Zm aF).1 (ltI aM (Zm aF).2.2.1)) λf S=>rfa O F 9 rfl rfl S (Zzb S rfl ZOb (ZAe S (j:=1) rfl bc (ltN aM (Zm aF).2.2.2) 0 [.int .u64 a8] rfl zl)) λf S=>rfa O F 10 rfl rfl S (Z1 S rfl) λf S=>go1 O F 11 (nva [5,9,10,4,8,2,3,6,7] [0,1] O rfl rfl S (Z0k S [.int .u64 a7,.int .u64 a8,.int .u64 ap] (Zis ZUA cy cz aP) rfl rfl) λf S=>⟨(py S rfl rfl (Z1 S rfl) (py S rfl rfl (Z1 S rfl) ZHe)),rfa O F 12 rfl rfl S (Z1 S rfl) λf S=>rfa O F 13 rfl rfl S (ZOa S rfl rfl) λf S=>rfa O F 14 rfl rfl S (ZOa S rfl rfl) λf S=>?_⟩);have bd:=ZJa af (Zm ar).2.1;obtain⟨dj,cA⟩:∃ c,(List.take (Zf .u64).n (List.drop ((d).toNat*(Zf .u64).n) B))=c:=⟨_,rfl⟩;rw[cA]at bd;obtain⟨rfl,dk⟩:=bd;refine rfa O F 15 rfl rfl S (ZEa S rfl rfl Zia (Zm ar).1 (ltI Q (Zm ar).2.2.1)) λf S=>go1 O F 16 ?_;obtain⟨w,cB,S⟩:=ZLz S (k:=(d).toNat) ZOb (z:=.int .u64 (U.1)) (c:=[.int .u64 (U.1)]) (Zkd rfl) rfl (i:=0) rfl aG (ZDe af Q) (ltN Q (Zm ar).2.2.2) rfl (by first | rfl | simp[plain]);have cC:Rep.rels (Zf .u64) ae (List.take (0+(d).toNat*1) B++[Value.int IntKind.u64 (U.1)]++List.drop (0+(d).toNat*1+1) B) (ad.set (d).toNat U.1):=Z2f af (Zm ar).2.2.2 (show Rep.rel (Zf .u64) ae [.int .u64 (U.1)] _ from (Zba (ZNp aP))) rfl rfl
   have cD:g=(ad.set (d).toNat U.1).length:=setN Q;refine nxs [0,1,2,3,4,5,6,7,8,9,10,11,12,13,15] [14] O rfl rfl (cB rfl rfl) (⟨(py S rfl rfl (ZOa S rfl rfl) ZHe),go1 O F 17 (nva [0,1,2,3,4,5,6,7,8,9,10,11,12,13,14,15,16] [] O rfl rfl S (ZYe S rfl) λf S=>⟨ZHe,fin1 O F (Z5d (Zr (cx _ _ (bO H λdl be H=>ZY (ov S rfl (ZJ S rfl rfl (Z1f be)) λf S=>mv S rfl λf S=>ZS ?_)))))⟩)⟩);obtain rfl:=ZQ H;refine cu _ rfl _ _ ⟨_,_,_,(List.take (0+(d).toNat*1) B++[Value.int IntKind.u64 (U.1)]++List.drop (0+(d).toNat*1+1) B),_,rfl,aO,(S.fr' rfl),cC,cD,(Zvq aP),(ZYb be).2⟩
  have H:=ZQb H aq;refine Z9a S rfl aq (wp_exit (Zob ?_));obtain rfl:=ZQ H;have hq:=cv _ rfl;subst hq;have H:=cr;refine Zob (ZQd ?_);obtain rfl:=ZQ H;have S:=S.reorder (ℓ':=[Loc.box a E (pre0++B++post0)]) [0] rfl (by decide);refine Zr (cp _ _ ⟨_,B,_,rfl,(leT (leR _) aO),(S.fr' rfl),af,Q⟩)
 rintro f w ⟨aC,aN,aD,hq,dm,S,cE,cF⟩;subst hq;have H:=co;refine Zr (cl _ _ (sr (mw S rfl λf S=>oe (wp_ret ?_))));obtain rfl:=ZQ H;refine Z0n S (Zpe rfl (Zyb S rfl)) ⟨⟨[.bool true],rfl,Zuq⟩,(S.boxAt (j:=0) rfl).2,_,(S.boxAt (j:=0) rfl).1,cF,cE⟩
theorem take_c {d:World} {a:Zb} (hv:VIn a d) {b off0 c e:Nat} {f:TypeId} {pre0 cs0 post0:List Value} {u:(List Int)} (l:d.heap[b]? = some (.cells (pre0++cs0++post0).toArray f (0,0))) (m:off0=pre0.length) (n:a b=none) (o:c=u.length) (p:c≤e∧e≤maxLen) (g:Rep.rels (Zf .u64) a cs0 u) {h:List Value} {v:Nat} (r:Rep.rel Zt a h v) {i:List Value} {q:Int} (j:Rep.rel (Zf .u64) a i q) {z:Bool×(List Int)} (hm:ZEh u v q=some z) :
  ZLe Tryz.prog 185 #[Value.slice (some ⟨b,off0,none⟩) c e,Zt.val h,(Zf .u64).val i] d a [b] (λy v' w'=>(∃ k,y=Zwd.val k∧Zwd.rel v' k z.1)∧v' b=none∧∃ cs,w'.heap[b]? = some (.cells (pre0++cs++post0).toArray f (0,0))∧c=z.2.length∧Rep.rels (Zf .u64) v' cs z.2) :=
 take_w hv l m n o p g r j (Z4A (Zrm g) j.2 hm)
theorem digit_w {x:World} {m:Zb} (hv:VIn m x) {a off0 e h:Nat} {A:TypeId} {pre0 cs0 post0:List Value} {u:(List Int)} (a0:x.heap[a]? = some (.cells (pre0++cs0++post0).toArray A (0,0))) (G:off0=pre0.length) (a1:m a=none) (k:e=u.length) (a2:e≤h∧h≤maxLen) (d:Rep.rels (Zf .u64) m cs0 u) {c1:List Value} {v:Nat} (g:Rep.rel Zt m c1 v) {z:Int×(List Int)} (H:ZOi u v=some z):ZLe Tryz.prog 165 #[.slice (some ⟨a,off0,none⟩) e h,Zt.val c1] x m [a] (λy v' w'=>(∃ r0,y=(Zf .u64).val r0∧(Zf .u64).rel v' r0 z.1)∧v' a=none∧∃ cs,w'.heap[a]? = some (.cells (pre0++cs++post0).toArray A (0,0))∧e=z.2.length∧Rep.rels (Zf .u64) v' cs z.2):=by
 obtain⟨q1,o,p,rfl⟩:=ZYa g;refine Zcv (K:=90) (args:=[.slice (some ⟨a,off0,none⟩) (e) h,.slice q1 o p]) hv a0 a1 Tryz.func165 rfl rfl zl λf S=>?_;unfold ZOi at H;refine sr (mw S rfl λf S=>oe (sr (mv S rfl λf S=>ov S rfl (Zsc S (Zhb g) rfl rfl Zia) λf S=>mw S rfl λf S=>oe (sr (mw S rfl λf S=>oe (ZD λ_ a3=>ZD λ_ a4=>bO H λaE V H=>?_))))));refine bO H λcl a5 H=>bO H λa6 aj H=>Zmk (fl:=#[true,true,true,true,true,true,true,true,true,true]) ZCn (by kernel_rfl) S ?_;intro ops O F w S;refine rfa O F 0 rfl rfl S (Z1 S rfl) λf S=>rfa O F 1 rfl rfl S (Z1 S rfl) λf S=>?_;have aF:=ZJa d (Zm V).2.1;obtain⟨cm,aG⟩:∃ c,(List.take (Zf .u64).n (List.drop (((((Zc 18446744073709551616 v)).length:Int)).toNat*(Zf .u64).n) cs0))=c:=⟨_,rfl⟩;rw[aG]at aF;obtain⟨rfl,cn⟩:=aF;refine rfa O F 2 rfl rfl S (ZEa S rfl rfl Zia (Zm V).1 (ltI k (Zm V).2.2.1)) λf S=>rfa O F 3 rfl rfl S (Zzb S rfl ZOb (ZSh S (j:=0) rfl G (ZDe d k) aG (ltN k (Zm V).2.2.2) 0 [.int .u64 aE] rfl zl)) λf S=>rfa O F 4 rfl rfl S (Z1 S rfl) λf S=>rfa O F 5 rfl rfl S (Z1 S rfl) λf S=>rfa O F 6 rfl rfl S (ZJ S rfl rfl (Z1b a5)) λf S=>?_;obtain⟨_,r,s,co,rfl,a7,a8⟩:=Zuc g (Zm aj).2.1
 obtain⟨rfl,cp⟩:=a8;refine rfa O F 7 rfl rfl S (ZEa S rfl rfl Zia (Zm aj).1 (ltI (Zhb g) (Zm aj).2.2.1)) λf S=>rfa O F 8 rfl rfl S (Zzb S rfl ZOb (S.view a7)) λf S=>rfa O F 9 rfl rfl S (ZJ S rfl rfl Zne) λf S=>fin1 O F (Zr (a4 _ _ ?_));obtain⟨a9,ba,bb⟩:=ZAa H;refine Zvd (λf w=>∃ W I,W=a9∧Zb.le m I∧St 90 ⟨x,[a]⟩ m [(0,.slice (some ⟨a,off0,none⟩) (e) h),(1,.slice (some ⟨r,s,none⟩) o p),(6,.int .u64 W)] [Loc.box a A (pre0++cs0++post0)] I f w∧inR .u64 W) (λ_ aH=>?_) ?_
 ·have H:=ba;rcases ZJb (decide (aE<a6)) with J | J
  ·have H:=ZGb H J;refine ZNb S rfl J (sr (mw S rfl λf S=>oe (ZD λ_ bc=>bO H λX Y H=>bO H λbd be H=>bO H λZ aa H=>bO H λcq bf H=>bO H λak al H=>bO H λaI bg H=>Zmk (fl:=#[true,true,true,true,true,true,true,true,true,true,true,true,true,true,false,true,true,true,false,false]) ZCn (by kernel_rfl) S ?_)));intro ops O F w S;refine rfa O F 0 rfl rfl S (Z1 S rfl) λf S=>rfa O F 1 rfl rfl S (Z1 S rfl) λf S=>?_;have aJ:=ZJa d (Zm Y).2.1;obtain⟨cr,aK⟩:∃ c,(List.take (Zf .u64).n (List.drop (((((Zc 18446744073709551616 v)).length:Int)).toNat*(Zf .u64).n) cs0))=c:=⟨_,rfl⟩;rw[aK]at aJ;obtain⟨rfl,bh⟩:=aJ;refine rfa O F 2 rfl rfl S (ZEa S rfl rfl Zia (Zm Y).1 (ltI k (Zm Y).2.2.1)) λf S=>rfa O F 3 rfl rfl S (Zzb S rfl ZOb (ZSh S (j:=0) rfl G (ZDe d k) aK (ltN k (Zm Y).2.2.2) 0 [.int .u64 X] rfl zl)) λf S=>rfa O F 4 rfl rfl S (Z1 S rfl) λf S=>rfa O F 5 rfl rfl S (Z1 S rfl) λf S=>rfa O F 6 rfl rfl S (ZJ S rfl rfl (Z1b be)) λf S=>?_;have aL:=ZJa d (Zm aa).2.1;obtain⟨ct,aM⟩:∃ c,(List.take (Zf .u64).n (List.drop ((bd).toNat*(Zf .u64).n) cs0))=c:=⟨_,rfl⟩;rw[aM]at aL;obtain⟨rfl,bi⟩:=aL;refine rfa O F 7 rfl rfl S (ZEa S rfl rfl Zia (Zm aa).1 (ltI k (Zm aa).2.2.1)) λf S=>rfa O F 8 rfl rfl S (Zzb S rfl ZOb (ZSh S (j:=0) rfl G (ZDe d k) aM (ltN k (Zm aa).2.2.2) 0 [.int .u64 Z] rfl zl)) λf S=>rfa O F 9 rfl rfl S (Z1 S rfl) λf S=>rfa O F 10 rfl rfl S (Z1 S rfl) λf S=>rfa O F 11 rfl rfl S (ZJ S rfl rfl (Z1b bf)) λf S=>?_
   obtain⟨cu,am,bj⟩:=Zbm g (Zm al).2.1;obtain⟨rfl,bk⟩:=bj;refine rfa O F 12 rfl rfl S (ZEa S rfl rfl Zia (Zm al).1 (ltI (Zhb g) (Zm al).2.2.1)) λf S=>rfa O F 13 rfl rfl S (Zzb S rfl ZOb (S.view am)) λf S=>go1 O F 14 (nxc [3,8,13,2,7,12,0,1,4,6,9,11,5,10] [] O rfl S rfl (ZHa S [.int .u64 X,.int .u64 Z,.int .u64 ak] k_en140 rfl rfl) (div64_c S.vin (show Rep.rel (Zf .u64) _ [.int .u64 X] X from (Zba bh)) (show Rep.rel (Zf .u64) _ [.int .u64 Z] Z from (Zba bi)) (show Rep.rel (Zf .u64) _ [.int .u64 ak] ak from (Zba bk)) bg) ?_);rintro _ aN f w ab ⟨cv,cw,rfl,bm,bn⟩ S;have d:=ZZ ab d;have am:=Atm ab am;obtain⟨rfl,bo⟩:=bm;obtain⟨rfl,bp⟩:=bn;refine⟨ZHe,rfa O F 15 rfl rfl S (Z1 S rfl) λf S=>rfa O F 16 rfl rfl S (ZOa S rfl rfl) λf S=>rfa O F 17 rfl rfl S (ZOa S rfl rfl) λf S=>go1 O F 18 (nva [0,1,2,3,4,5,6,7,8,9,10,11,12,13,14,15,16] [17] O rfl rfl S (ZYe S rfl) λf S=>⟨(py S rfl rfl (ZOa S rfl rfl) ZHe),go1 O F 19 (nva [0,1,2,3,4,5,6,7,8,9,10,11,12,13,14,15,16,17,18] [] O rfl rfl S (ZYe S rfl) λf S=>⟨ZHe,fin1 O F ?_⟩)⟩)⟩;have S:=S.fr' (σ':=[(0,.slice (some ⟨a,off0,none⟩) (e) h),(1,.slice (some ⟨r,s,none⟩) o p),(5,.int .i64 ((((Zc 18446744073709551616 v)).length:Int))),(6,.int .u64 (aI.1)),(7,.int .u64 (aI.2))]) rfl
   refine Zr (bc _ _ ?_);obtain⟨bq,br,bt⟩:=ZAa H;refine Zvd (λf w=>∃ ac an,ac=bq∧Zb.le aN an∧St 90 ⟨x,[a]⟩ m [(0,.slice (some ⟨a,off0,none⟩) (e) h),(1,.slice (some ⟨r,s,none⟩) o p),(6,.int .u64 ac)] [Loc.box a A (pre0++cs0++post0)] an f w∧inR .u64 ac) (λ_ aO=>?_) ?_
   ·have H:=br;refine wp_block ?_;obtain⟨cx,bu,aP⟩:=ZAa H;refine ZMe bu (λbv f w=>∃ q l ao,(q,l)=bv∧Zb.le aN ao∧St 90 ⟨x,[a]⟩ m [(0,.slice (some ⟨a,off0,none⟩) (e) h),(1,.slice (some ⟨r,s,none⟩) o p),(5,.int .i64 ((((Zc 18446744073709551616 v)).length:Int))),(6,.int .u64 q),(7,.int .u64 l)] [Loc.box a A (pre0++cs0++post0)] ao f w∧inR .u64 q∧inR .u64 l) ⟨_,_,_,rfl,(leR _),(S.fr' rfl),bo,bp⟩ ?_;rintro _ f w st ⟨q,l,ao,hq,L,S,aQ,cy⟩ H cz bw aR;subst hq;have d:=ZZ L d;refine wp_block (ZD λ_ bx=>bO H λcA bz H=>bO H λap aq H=>bO H λB bA H=>ZY (mv S rfl λf S=>mv S rfl λf S=>mv S rfl λf S=>ov S rfl (ZJ S rfl rfl (Z1b bz)) λf S=>?_));have g:=ZTa (leT ab L) g;obtain⟨cB,ar,bB⟩:=Zbm g (Zm aq).2.1;obtain⟨rfl,bC⟩:=bB;refine ov S rfl (ZEa S rfl rfl Zia (Zm aq).1 (ltI (Zhb g) (Zm aq).2.2.1)) λf S=>ov S rfl (Zzb S rfl ZOb (S.view ar)) λf S=>opc S rfl (ZHa S [.int .u64 q,.int .u64 ap] Z5n rfl rfl) (ZFo S.vin (show Rep.rel (Zf .u64) _ [.int .u64 q] q from (Zba aQ)) (show Rep.rel (Zf .u64) _ [.int .u64 ap] ap from (Zba bC)) bA) ?_;rintro _ bD f w E ⟨cC,cD,rfl,bE,bG⟩ S
    have d:=ZZ E d;have ar:=Atm E ar;obtain⟨rfl,cE⟩:=bE;obtain⟨rfl,cF⟩:=bG;refine mv S rfl λf S=>ov S rfl (ZOa S rfl rfl) λf S=>ov S rfl (ZOa S rfl rfl) λf S=>mw S rfl λf S=>mw S rfl λf S=>ZS (Zr (bx _ _ (ZD λ_ bH=>ZD λ_ bI=>?_)));obtain⟨bJ,bK,bM⟩:=ZAa H;refine Zvd (λf w=>∃ ad au,ad=bJ∧Zb.le bD au∧St 90 ⟨x,[a]⟩ m [(0,.slice (some ⟨a,off0,none⟩) (e) h),(1,.slice (some ⟨r,s,none⟩) o p),(5,.int .i64 ((((Zc 18446744073709551616 v)).length:Int))),(6,.int .u64 q),(7,.int .u64 l),(67,.bool ad)] [Loc.box a A (pre0++cs0++post0)] au f w) (λ_ av=>?_) ?_
    ·have H:=bK;refine ZY (mv S rfl λf S=>mv S rfl λf S=>ov S rfl (ZJ S rfl rfl Zne) λf S=>mv S rfl λf S=>?_);rcases ZJb (decide (B.1<l)) with M | M
     ·have H:=ZGb H M;have S:=S.bool (t:=54) rfl M;refine opn S rfl rfl rfl rfl λf S=>opn S rfl rfl rfl rfl λf S=>opn S rfl rfl rfl rfl λf S=>opn S rfl rfl rfl rfl λf S=>Zuf S (Zle S rfl rfl rfl zl) rfl zl λf S=>Zuf S (Zle S rfl rfl rfl zl) rfl zl λf S=>Zuf S (Zle S rfl rfl rfl zl) rfl zl λf S=>Zuf S (Zle S rfl rfl rfl zl) rfl zl λf S=>Zuf S (Zle S rfl rfl rfl zl) rfl zl λf S=>Zuf S (Zle S rfl rfl rfl zl) rfl zl λf S=>Zuf S (Zle S rfl rfl rfl zl) rfl zl λf S=>opn S rfl rfl rfl rfl λf S=>ov S rfl (Ztf S (b:=true) rfl rfl) λf S=>ZS ?_;have S:=S.fr' (σ':=[(0,.slice (some ⟨a,off0,none⟩) (e) h),(1,.slice (some ⟨r,s,none⟩) o p),(5,.int .i64 ((((Zc 18446744073709551616 v)).length:Int))),(6,.int .u64 q),(7,.int .u64 l),(55,undef),(56,undef),(57,undef),(58,undef),(59,undef),(60,undef),(61,undef),(62,undef),(63,undef),(64,undef),(65,undef),(66,undef),(67,.bool true)]) rfl;obtain rfl:=ZQ H;refine Zr (av _ _ ⟨_,_,rfl,(leR _),(S.fr' rfl)⟩)
     have H:=ZQb H M;have S:=S.bool (t:=54) rfl M;refine opy S rfl rfl rfl rfl (Z1 S rfl) λf S=>opy S rfl rfl rfl rfl (Z1 S rfl) λf S=>opy S rfl rfl rfl rfl (ZJ S rfl rfl Zqk) λf S=>opy S rfl rfl rfl rfl (Z1 S rfl) λf S=>?_;rcases ZJb (B.1==l) with C | C
     ·have H:=ZGb H C;have S:=S.bool (t:=57) rfl C;have S:=S.bool (t:=58) rfl C;refine bO H λaw bP H=>bO H λN ae H=>opy S rfl rfl rfl rfl (Z1 S rfl) λf S=>opy S rfl rfl rfl rfl (Z1 S rfl) λf S=>opy S rfl rfl rfl rfl (Z1 S rfl) λf S=>opy S rfl rfl rfl rfl (ZJ S rfl rfl (Z1b bP)) λf S=>?_;have aS:=ZJa d (Zm ae).2.1;obtain⟨cG,aT⟩:∃ c,(List.take (Zf .u64).n (List.drop ((aw).toNat*(Zf .u64).n) cs0))=c:=⟨_,rfl⟩;rw[aT]at aS;obtain⟨rfl,cH⟩:=aS;refine opy S rfl rfl rfl rfl (ZEa S rfl rfl Zia (Zm ae).1 (ltI k (Zm ae).2.2.1)) λf S=>opy S rfl rfl rfl rfl (Zzb S rfl ZOb (ZSh S (j:=0) rfl G (ZDe d k) aT (ltN k (Zm ae).2.2.2) 0 [.int .u64 N] rfl zl)) λf S=>opy S rfl rfl rfl rfl (ZJ S rfl rfl ZEt) λf S=>opy S rfl rfl rfl rfl (Ztf S (b:=true) rfl rfl) λf S=>ov S rfl (Ztf S (b:=false) rfl rfl) λf S=>ZS ?_;have S:=S.fr' (σ':=[(0,.slice (some ⟨a,off0,none⟩) (e) h),(1,.slice (some ⟨r,s,none⟩) o p),(5,.int .i64 ((((Zc 18446744073709551616 v)).length:Int))),(6,.int .u64 q),(7,.int .u64 l),(55,.int .u64 (B.1)),(56,.int .u64 l),(57,.bool true),(58,.bool true),(59,.int .u64 (B.2)),(60,.slice (some ⟨a,off0,none⟩) (e) h),(61,.int .i64 ((((Zc 18446744073709551616 v)).length:Int))),(62,.int .i64 aw),(63,.pointer (some ⟨a,off0+(aw).toNat*1,none⟩)),(64,.int .u64 N),(65,.bool (decide (B.2≤N))),(66,.bool (decide (B.2≤N))),(67,.bool (decide (B.2≤N)))]) rfl
      obtain rfl:=ZQ H;refine Zr (av _ _ ⟨_,_,rfl,(leR _),(S.fr' rfl)⟩)
     have H:=ZQb H C;have S:=S.bool (t:=57) rfl C;have S:=S.bool (t:=58) rfl C;refine opn S rfl rfl rfl rfl λf S=>opn S rfl rfl rfl rfl λf S=>opn S rfl rfl rfl rfl λf S=>opn S rfl rfl rfl rfl λf S=>opn S rfl rfl rfl rfl λf S=>opn S rfl rfl rfl rfl λf S=>opn S rfl rfl rfl rfl λf S=>opy S rfl rfl rfl rfl (Ztf S (b:=false) rfl rfl) λf S=>ov S rfl (Ztf S (b:=false) rfl rfl) λf S=>ZS ?_;have S:=S.fr' (σ':=[(0,.slice (some ⟨a,off0,none⟩) (e) h),(1,.slice (some ⟨r,s,none⟩) o p),(5,.int .i64 ((((Zc 18446744073709551616 v)).length:Int))),(6,.int .u64 q),(7,.int .u64 l),(55,.int .u64 (B.1)),(56,.int .u64 l),(57,.bool false),(58,.bool false),(59,undef),(60,undef),(61,undef),(62,undef),(63,undef),(64,undef),(65,undef),(66,.bool false),(67,.bool false)]) rfl;obtain rfl:=ZQ H;refine Zr (av _ _ ⟨_,_,rfl,(leR _),(S.fr' rfl)⟩)
    rintro f w ⟨ad,au,hq,P,S⟩;subst hq;have H:=bM;have d:=ZZ P d;refine Zr (bI _ _ ?_);rcases ZJb (ad) with Q | Q
    ·have H:=ZGb H Q;refine ZNb S rfl Q (wp_exit (Zob (Zhr rfl ?_)));obtain rfl:=ZQ H;have hq:=aR _ rfl;subst hq;have H:=aP;refine Zob (ZQd ?_);obtain rfl:=ZQ H;refine Zr (aO _ _ ⟨_,_,rfl,(leT (leT (leT (leR _) L) E) P),(S.fr' rfl),aQ⟩)
    have H:=ZQb H Q;refine Z9a S rfl Q (wp_skip (Zr (bH _ _ (sr (mv S rfl λf S=>ov S rfl (ZJ S rfl rfl Zko) λf S=>mw S rfl λf S=>oe (sr (mw S rfl λf S=>oe (ZD λ_ bQ=>bO H λcI bR H=>bO H λbS ax H=>?_))))))));refine bO H λbT aU H=>ZY (mv S rfl λf S=>mv S rfl λf S=>mv S rfl λf S=>ov S rfl (ZJ S rfl rfl (Z1b bR)) λf S=>?_);have g:=ZTa (leT E P) g;obtain⟨cJ,bU,bV⟩:=Zbm g (Zm ax).2.1;obtain⟨rfl,cK⟩:=bV;refine ov S rfl (ZEa S rfl rfl Zia (Zm ax).1 (ltI (Zhb g) (Zm ax).2.2.1)) λf S=>ov S rfl (Zzb S rfl ZOb (S.view bU)) λf S=>ov S rfl (Z0k S [.int .u64 l,.int .u64 bS,.int .u64 0] (Zqn ZKp aU) rfl rfl) λf S=>mv S rfl λf S=>ov S rfl (ZOa S rfl rfl) λf S=>ov S rfl (ZOa S rfl rfl) λf S=>mw S rfl λf S=>mw S rfl λf S=>ZS (Zr (bQ _ _ (sr (mv S rfl λf S=>ov S rfl (ZJ S rfl rfl Zkg) λf S=>oe ?_))));rcases ZJb (decide ((0:Int)<bT.2)) with R | R
    ·have H:=ZGb H R;refine ZNb S rfl R (wp_exit (Zhr rfl ?_));obtain rfl:=ZQ H;have hq:=aR _ rfl;subst hq;have H:=aP;refine Zob (ZQd ?_);obtain rfl:=ZQ H;refine Zr (aO _ _ ⟨_,_,rfl,(leT (leT (leT (leR _) L) E) P),(S.fr' rfl),(Zlc _ _)⟩)
    have H:=ZQb H R;refine Z9a S rfl R (wp_skip (Z5d ?_));obtain rfl:=ZQ H;refine bw _ rfl _ _ ⟨_,_,_,rfl,(leT (leT L E) P),(S.fr' rfl),(Zlc _ _),(Zhn aU)⟩
   rintro f w ⟨ac,an,hq,aV,S,bW⟩;subst hq;have H:=bt;have d:=ZZ aV d;obtain rfl:=ZQ H;refine Zr (aH _ _ ⟨_,_,rfl,(leT (leT (leR _) ab) aV),(S.fr' rfl),bW⟩)
  have H:=ZQb H J;refine Z9a S rfl J (wp_skip ?_);obtain rfl:=ZQ H;refine Zr (aH _ _ ⟨_,_,rfl,(leR _),(S.fr' rfl),(by decide)⟩)
 rintro f w ⟨W,I,hq,aW,S,bX⟩;subst hq;have H:=bb;have d:=ZZ aW d;refine Zr (a3 _ _ (ZD λ_ bY=>?_));obtain⟨bZ,b1,b2⟩:=ZAa H;refine Zvd (λf w=>∃ af T ay ag,(af,T)=bZ∧Zb.le I ag∧St 90 ⟨x,[a]⟩ m [(6,.int .u64 T)] [Loc.box a A (pre0++ay++post0)] ag f w∧Rep.rels (Zf .u64) ag ay af∧e=af.length∧inR .u64 T) (λ_ b3=>?_) ?_
 ·have H:=b1;refine wp_block ?_;obtain⟨cL,b4,b5⟩:=ZAa H;refine ZMe b4 (λb6 f w=>∃ ah D az ai,(ah,D)=b6∧Zb.le I ai∧St 90 ⟨x,[a]⟩ m [(0,.slice (some ⟨a,off0,none⟩) (e) h),(1,.slice (some ⟨r,s,none⟩) o p),(6,.int .u64 D)] [Loc.box a A (pre0++az++post0)] ai f w∧Rep.rels (Zf .u64) ai az ah∧e=ah.length∧inR .u64 D) ⟨_,_,cs0,_,rfl,(leR _),(S.fr' rfl),d,k,bX⟩ ?_;rintro _ f w st ⟨ah,D,az,ai,hq,aA,S,aB,b7,aX⟩ H cM b8 b9;subst hq;refine ZD λ_ ca=>ZD λ_ cb=>bO H λcc cd H=>ZY (mv S rfl λf S=>mv S rfl λf S=>mv S rfl λf S=>?_);have g:=ZTa (leT aW aA) g;refine Zbr S wn rfl zl (ZHa S [.slice (some ⟨a,off0,none⟩) (e) h,.slice (some ⟨r,s,none⟩) o p,.int .u64 D] k_en185 rfl rfl) (i:=0) rfl rfl (take_c S.vin (S.boxAt (j:=0) rfl).1 G (S.boxAt (j:=0) rfl).2 b7 a2 aB g (show Rep.rel (Zf .u64) _ [.int .u64 D] D from (Zba aX)) cd) ?_;rintro _ cN f w aC ⟨⟨cO,rfl,ce⟩,cg,aD,ch,aY,aZ⟩ hSf;have aB:=ZZ aC aB;have S:=hSf (Loc.box a A (pre0++aD++post0)) rfl ch cg;obtain rfl:=ce;refine ov S rfl (Z6r S rfl) λf S=>ZS (Zr (cb _ _ ?_));rcases ZJb (!(cc.1)) with U | U
  ·have H:=ZGb H U;refine ZNb S rfl U (wp_skip (Zr (ca _ _ (wp_block (ZY (mv S rfl λf S=>ov S rfl (ZJ S rfl rfl Zko) λf S=>mw S rfl λf S=>ZS (Z5d ?_)))))));obtain rfl:=ZQ H;refine b8 _ rfl _ _ ⟨_,_,aD,_,rfl,(leT aA aC),(S.fr' rfl),aZ,aY,(Zlc _ _)⟩
  have H:=ZQb H U;refine Z9a S rfl U (wp_exit (Zob ?_));obtain rfl:=ZQ H;have hq:=b9 _ rfl;subst hq;have H:=b5;refine Zob (ZQd ?_);obtain rfl:=ZQ H;refine Zr (b3 _ _ ⟨_,_,aD,_,rfl,(leT (leT (leR _) aA) aC),(S.fr' rfl),aZ,aY,aX⟩)
 rintro f w ⟨af,T,ay,ag,hq,cP,S,ci,cj,ck⟩;subst hq;have H:=b2;refine Zr (bY _ _ (sr (mv S rfl λf S=>mw S rfl λf S=>oe (wp_ret ?_))));obtain rfl:=ZQ H;refine Z0n S (Zpe rfl (Zyb S rfl)) ⟨⟨[.int .u64 T],rfl,(Zba ck)⟩,(S.boxAt (j:=0) rfl).2,_,(S.boxAt (j:=0) rfl).1,cj,ci⟩
theorem digit_c {d:World} {b:Zb} (hv:VIn b d) {a off0 c e:Nat} {f:TypeId} {pre0 cs0 post0:List Value} {u:(List Int)} (j:d.heap[a]? = some (.cells (pre0++cs0++post0).toArray f (0,0))) (k:off0=pre0.length) (l:b a=none) (m:c=u.length) (n:c≤e∧e≤maxLen) (g:Rep.rels (Zf .u64) b cs0 u) {h:List Value} {v:Nat} (o:Rep.rel Zt b h v) {z:Int×(List Int)} (hm:Z3g u v=some z) :
  ZLe Tryz.prog 165 #[Value.slice (some ⟨a,off0,none⟩) c e,Zt.val h] d b [a] (λy v' w'=>(∃ i,y=(Zf .u64).val i∧(Zf .u64).rel v' i z.1)∧v' a=none∧∃ cs,w'.heap[a]? = some (.cells (pre0++cs++post0).toArray f (0,0))∧c=z.2.length∧Rep.rels (Zf .u64) v' cs z.2) :=
 digit_w hv j k l m n g o (ZSx (Zrm g) hm)
noncomputable def ZRm:FuncId×Con:=(164,⟨[.leaf 0,.int .i64],[.leaf 0],λp=>ZUb p.1 p.2⟩)
theorem Zms:KR ZRm:=Zx (C:=cf2 [(40,0)] [ZIf]) (.n (.two (.f (.j [0,1] [] [.s 14 (.dat .bool)] .no)) (.n (.f (.n (.j [] [] [.s 5 (.own 159 (.int .u64))] (.f (.l [1,23,24] [] [.s 5 (.own 159 (.int .u64)),.s 25 (.dat (.int .i64))] 0 [] [] [.s 5 (.own 159 (.int .u64))] .no)))))))) Tryz.func164 [] (λv vals x z ha hz=>.trans (by kernel_rfl) (Z5A hz)) ⟨ZJh,tr⟩
theorem left_k:KQ ZRm:=Zg Zms
theorem ZLs {e:World} {b:Zb} (hv:VIn b e) {c:List Value} {a:Nat} (g:Rep.rel Zt b c a) {d:List Value} {n:Int} (h:Rep.rel (Zf .i64) b d n) {z:Nat} (hm:ZUb a n=some z) :
  Ret Tryz.prog 164 #[Zt.val c,(Zf .i64).val d] e b (λy v'=>∃ f,y=Zt.val f∧Zt.rel v' f z) :=
 (Zms e b [Zt.val c,(Zf .i64).val d] (a,n) z hv ⟨c,_,rfl,g,d,rfl,h⟩ hm).2
theorem lz64_c {c:World} {a:Zb} (hv:VIn a c) {b:List Value} {x:Int} (e:Rep.rel (Zf .u64) a b x) {z:Int} (hm:ZNd x=some z) :
  Ret Tryz.prog 163 #[(Zf .u64).val b] c a (λy v'=>∃ d,y=(Zf .i64).val d∧(Zf .i64).rel v' d z) :=
 (ZPt c a [(Zf .u64).val b] (x) z hv ⟨b,rfl,e⟩ hm).2
noncomputable def right_q:FuncId×Con:=(166,⟨[.leaf 0,.int .i64],[.leaf 0],λp=>Z5f p.1 p.2⟩)
theorem right_r:KR right_q:=Zx (C:=cf2 [(40,0)] [ZIf]) (.n (.n (.n (.f (.n (.j [] [] [.s 5 (.own 159 (.int .u64))] (.f (.l [0,1,19] [] [.s 5 (.own 159 (.int .u64)),.s 20 (.dat (.int .i64))] 0 [] [] [.s 5 (.own 159 (.int .u64))] (.f (.n (.n (.f (.f (.n (.n (.n (.j [0,1,19,20] [] [.s 5 (.own 159 (.int .u64))] .no))))))))))))))))) Tryz.func166 [] (λv vals x z ha hz=>by obtain⟨c0,w0,e0,p0,c1,e1,p1⟩:=ha;exact .trans (by kernel_rfl) (ZKA p1.2 hz)) ⟨ZJh,tr⟩
theorem right_c {e:World} {b:Zb} (hv:VIn b e) {c:List Value} {a:Nat} (g:Rep.rel Zt b c a) {d:List Value} {n:Int} (h:Rep.rel (Zf .i64) b d n) {z:Nat} (hm:Z5f a n=some z) :
  Ret Tryz.prog 166 #[Zt.val c,(Zf .i64).val d] e b (λy v'=>∃ f,y=Zt.val f∧Zt.rel v' f z) :=
 (right_r e b [Zt.val c,(Zf .i64).val d] (a,n) z hv ⟨c,_,rfl,g,d,rfl,h⟩ hm).2
theorem word_c {c:World} {a:Zb} (hv:VIn a c) {b:List Value} {n:Int} (e:Rep.rel (Zf .u64) a b n) {z:Nat} (hm:Zfb n=some z) :
  Ret Tryz.prog 85 #[(Zf .u64).val b] c a (λy v'=>∃ d,y=Zt.val d∧Zt.rel v' d z) :=
 (Zhq c a [(Zf .u64).val b] (n) z hv ⟨b,rfl,e⟩ hm).2
end Go.Eng
