/- Lemmas towards the statement: the engine of the walks, the functions' models, laws and walks, part 6. Conditions: as each states. -/
import Derived.Test.YtceoncclknebbaaGreatProg
import Derived.Test.YtceoncclknebbaaGreatWiE
set_option linter.all false
set_option maxRecDepth 100000
namespace Go.Eng
open Go.RowKit
section
variable {N:Nat} {G:V→Value→Prop} {w0:Base} {v0:Zb}
theorem Zru:∀ {os:List Oper} {done:List Nat},(Z1a os done).length=done.length+os.length
 | [],done=>by simp [Z1a]
 | o :: os,done=>by
  simp only [Z1a]
  rw [Zru]
  simp;omega
theorem Zeq {m:Nat}:∀ {k:Nat},allB m k=true→∀ i,i<k→m.testBit i=true
 | 0,_,_,h=>by omega
 | k+1,h,i,hi=>by
  simp only [allB] at h
  split at h
  ·rename_i hb
   rcases Nat.lt_or_ge i k with h1 | h1
   ·exact Zeq h i h1
   ·rw [show i=k by omega];exact hb
  ·cases h
theorem Zdz {ops:List Oper} {o:Oper} (h:ZEk ops=some o):ops.dropLast++[o]=ops∧o.guard=none∧∀ i,i<ops.dropLast.length→(Zzc (Z1a ops.dropLast []) o.after.toList 0).testBit i=true:=by
 unfold ZEk at h;split at h
 ·cases h
 ·rename_i q hq;split at h
  ·cases h
  ·rename_i hc;split at h
   ·rename_i hb
    cases h
    refine ⟨?_,?_,Zeq hb⟩
    ·rcases List.eq_nil_or_concat ops with rfl | ⟨L,b,rfl⟩
     ·cases hq
     ·simp at hq;subst hq;simp
    ·unfold Zet at hc;split at hc
     ·rename_i hg;exact hg
     ·cases hc
   ·cases h
theorem ZWo {l:Array Bool} {i j:Nat} {b:Bool} (h:¬ j=i):(l.setIfInBounds i true).getD j b=l.getD j b:=by
 simp [Array.getD_eq_getD_getElem?,Array.getElem?_setIfInBounds_ne (Ne.symm h)]
theorem Z3v {C:Cf} (hC:CfOK C) {ops:Array Oper} {ol:Oper} {Ts:List (List Et)} {f:Fr} {l:Lo} {n:Nat} {Q:Exit→Act→World→Prop} (he:ops.toList.dropLast++[ol]=ops.toList) (hg:ol.guard=none) (hanc:∀ i,i<ops.toList.dropLast.length→(Zzc (Z1a ops.toList.dropLast []) ol.after.toList 0).testBit i=true)
  (hb:Zue 0 ops.toList=true) (hds:∀ o ∈ ops.toList,∀ k,o.dst=some k→k<N) (hl:Ts.length=ops.toList.dropLast.length)
  (hn:(l.map En.k).Nodup) (hok:okTs Ts f l) (htr:∀ i o τ,ops.toList.dropLast[i]? = some o→Ts[i]? = some τ→Tr (n+i) (gop C ops.toList (n+i) o) τ ()) (hch:ZGe [] (Z1a ops.toList.dropLast []) (Ts.map fun τ=>fpT τ Fp.no)=true)
  (hQ:∀ a' w',Rel N G w0 v0 (· < n+ops.toList.dropLast.length) (ZMe Ts f) (Z6d Ts l) a' w'→wpList C.P ops Q [ol] a' w'):∀ (fuel:Nat) (listed:Array Bool) (a:Act) (w:World),left listed=fuel+1→listed.getD ops.toList.dropLast.length true=false→Inv N G w0 v0 ops Ts f l n listed a w→wpAny C.P .any ops Q (fuel+1) listed a w:=by
 have hsz:ops.size=ops.toList.dropLast.length+1:=by
  have:=congrArg List.length he;simp at this ⊢;omega
 have initAt:∀ {j:Nat} {o:Oper},ops.toList.dropLast[j]? = some o→ops[j]? = some o:=fun {j o} h=>by
  rw [← Array.getElem?_toList,← he,List.getElem?_append_left (List.getElem?_eq_some_iff.1 h).1];exact h
 have lastAt:ops[ops.toList.dropLast.length]? = some ol:=by
  rw [← Array.getElem?_toList]
  conv=>lhs;rw [← he]
  simp
 have ord:∀ (i j:Nat) (τ σ:List Et),i<j→Ts[i]? = some τ→Ts[j]? = some σ→∃ m,(Z1a ops.toList.dropLast [])[j]? = some m∧(m.testBit i=true∨Apart τ σ):=by
  intro i j τ σ hij hτ hσ;obtain ⟨m,h1,h2⟩:=Znm hch j (fpT σ Fp.no) (by simp [hσ]);refine ⟨m,h1,(h2 i (fpT τ Fp.no) (by simp [hτ]) (by simpa using hij)).imp_right ZHq⟩
 have opAt:∀ (j:Nat) (σ:List Et),Ts[j]? = some σ→∃ o,ops.toList.dropLast[j]? = some o:=fun j σ h=>by
  have:=(List.getElem?_eq_some_iff.1 h).1;rw [hl] at this;exact ⟨_,List.getElem?_eq_getElem this⟩
 have hsub:∀ {listed:Array Bool} {a:Act} {w:World},Inv N G w0 v0 ops Ts f l n listed a w→∀ j o,ops.toList.dropLast[j]? = some o→listed.getD (([]:List Nat).length+j) false=true→∀ e ∈ o.after,Region.binds .any e=true→listed.getD e.on false=true:=fun hI j o ho hS=>hI.closed j o (initAt ho) (by simpa using hS);intro fuel
 induction fuel with
 | zero =>
  intro listed a w hfu hlast hI;have hll:ops.toList.dropLast.length<listed.size:=by rw [hI.size];omega
  have h0:left (listed.setIfInBounds ops.toList.dropLast.length true)=0:=by have:=ZTi hlast;omega
  have hall':∀ j,(listed.setIfInBounds ops.toList.dropLast.length true).getD j true=true:=fun j=>Zbn h0;have hall:∀ j,j≠ops.toList.dropLast.length→j<listed.size→listed.getD j false=true:=fun j hj hlt=>by
   have:=hall' j;rw [← ZMb hlt];rw [ZWo hj] at this;exact this
  refine ⟨fun h0=>?_,fun i hi=>?_⟩
  ·exact absurd h0 (ZQk hb hI.size (ops.toList.dropLast.length+1) ops.toList.dropLast.length (by omega) (by omega) hlast)
  ·obtain ⟨hun,o,ho,hbef⟩:=mem_ready.1 hi;have hil:i<listed.size:=by rw [hI.size];exact Zae ho
   have hi2:i=ops.toList.dropLast.length:=by
    rcases Nat.decEq i ops.toList.dropLast.length with h | h
    ·have:=hall i h hil;rw [← ZMb hil,hun] at this;cases this
    ·exact h
   subst hi2;rw [lastAt] at ho
   cases ho
   obtain ⟨f1,l1,⟨γ,v,ℓ,h1⟩,h2,h3⟩:=hI.rel;obtain ⟨k1,k2,k3⟩:=Z9o (b:=0) hok hn;have hsel:∀ (j:Nat) (σ:List Et),Ts[j]? = some σ→sel listed (0+j)=true:=fun j σ h=>by
    have hj:=(List.getElem?_eq_some_iff.1 h).1;rw [hl] at hj;rw [Nat.zero_add];exact hall j (by omega) (by omega)
   have hw:=hQ a w ⟨γ,v,ℓ,(h1.look k1 (fun t=>by rw [k2 t,h2 t];exact (Zze fun j σ hj _=>(hsel j σ hj).symm)) fun t=>by rw [k3 t,h3 t];exact (Zze fun j σ hj _=>(hsel j σ hj).symm)).mono (fun k hk=>?_) fun k hk=>?_⟩
   ·unfold wpOp;rw [lastAt];unfold wpList at hw;have hwt:Region.wanted ol (yielded ops a.tmps)=true:=Z6b hg;simp only [hwt,if_true] at hw ⊢;refine hw.imp_left (Oper.wp_mono fun a' w' hq=>⟨?_,hq⟩)
    cases hx:Region.ready .any ops (listed.setIfInBounds ops.toList.dropLast.length true) with
    | nil=>rfl
    | cons p r =>
     obtain ⟨h1,_⟩:=mem_ready.1 (show p ∈ Region.ready .any ops (listed.setIfInBounds ops.toList.dropLast.length true) by rw [hx];simp);rw [hall' p] at h1;cases h1
   all_goals
    rcases hk with hk | ⟨j,hj,rfl⟩
    ·omega
    ·have hlt:j<listed.size:=by
      rcases Nat.lt_or_ge j listed.size with h | h
      ·exact h
      ·simp [Array.getElem?_eq_none h] at hj
     have hne:j≠ops.toList.dropLast.length:=fun e=>by
      rw [e,← ZMb hll,hlast] at hj;cases hj
     rw [hI.size] at hlt;show n+j<n+_;omega
 | succ fuel ih =>
  intro listed a w hfu hlast hI;refine ⟨fun h0=>?_,fun i hi=>?_⟩
  ·exact absurd h0 (ZQk hb hI.size (ops.toList.dropLast.length+1) ops.toList.dropLast.length (by omega) (by omega) hlast)
  ·obtain ⟨hun,o,ho,hall⟩:=mem_ready.1 hi;have hil:i<listed.size:=by rw [hI.size];exact Zae ho
   have hunf:listed.getD i false=false:=by rw [← ZMb hil];exact hun
   have hne:i≠ops.toList.dropLast.length:=by
    intro e;subst e;rw [lastAt] at ho
    cases ho
    have hbits:∀ j,j<ops.toList.dropLast.length→listed.getD j false=true:=fun j hj=>by
     rcases Z2k (hanc j hj) with h | ⟨e,h1,h2,h3⟩
     ·simp at h
     ·have hS:=hall e (by simpa using h1) h2;rcases h3 with h3 | h3
      ·rw [h3];exact hS
      ·cases hg:(Z1a ops.toList.dropLast [])[e.on]? with
       | none=>rw [List.getD_eq_getElem?_getD,hg] at h3;simp at h3
       | some m =>
        rw [List.getD_eq_getElem?_getD,hg] at h3;have hlt:e.on<ops.toList.dropLast.length:=by
         have:=(List.getElem?_eq_some_iff.1 hg).1;rw [Zru] at this;simpa using this
        have hoe:=List.getElem?_eq_getElem hlt;exact ZUg (S:=fun k=>listed.getD k false=true) (done:=[]) (hsub hI) (fun j' m' hm'=>by simp at hm') e.on _ m hoe (by simpa using hg) (hI.closed e.on _ (initAt hoe) hS) j h3
    have h0:left (listed.setIfInBounds ops.toList.dropLast.length true)=fuel+1:=by have:=ZTi hlast;omega
    obtain ⟨j,hj,hj2⟩:=Z4m (listed:=listed.setIfInBounds ops.toList.dropLast.length true) (by omega);have hjs:j<listed.size:=by simpa using hj
    rcases Nat.decEq j ops.toList.dropLast.length with h | h
    ·have h1:=hbits j (by rw [hI.size] at hjs;omega);rw [← ZMb hjs] at h1;rw [ZWo h,h1] at hj2;cases hj2
    ·subst h;have:(listed.setIfInBounds ops.toList.dropLast.length true).getD ops.toList.dropLast.length true=true:=by simp [hjs]
     rw [this] at hj2;cases hj2
   have hlt0:i<ops.toList.dropLast.length:=by
    rw [hI.size] at hil;omega
   have ho':ops.toList.dropLast[i]? = some o:=by
    have:=List.getElem?_eq_getElem hlt0;rw [this];have h2:=initAt this;rw [ho] at h2;exact h2.symm
   have hlt:i<Ts.length:=by rw [hl];exact (List.getElem?_eq_some_iff.1 ho').1
   have hτ:Ts[i]? = some Ts[i]:=List.getElem?_eq_getElem hlt;generalize hg:Ts[i]=τ at hτ;obtain ⟨fi,li,b1,b2,b3,b4⟩:=ZJm (b:=0) hok hn hτ;obtain ⟨f1,l1,⟨γ,v,ℓ,h1⟩,h2,h3⟩:=hI.rel;have befo:∀ (j:Nat) (σ:List Et),j<i→Ts[j]? = some σ→listed.getD j false=true∨Apart σ τ:=by
    intro j σ hj hσ;obtain ⟨m,q1,q2⟩:=ord j i σ τ hj hσ hτ;refine q2.imp_left fun hbit=>?_;refine ZUg (S:=fun k=>listed.getD k false=true) (done:=[]) (hsub hI) (fun j' m' hm'=>by simp at hm') i o m ho' (by simpa using q1) hall j hbit
   have afte:∀ (j:Nat) (σ:List Et),i<j→Ts[j]? = some σ→listed.getD j false=false∨Apart τ σ:=by
    intro j σ hj hσ;obtain ⟨m,q1,q2⟩:=ord i j τ σ hj hτ hσ;refine q2.imp_left fun hbit=>?_
    cases hx:listed.getD j false with
    | false=>rfl
    | true =>
     obtain ⟨oj,hoj⟩:=opAt j σ hσ;have:=ZUg (S:=fun k=>listed.getD k false=true) (done:=[]) (hsub hI) (fun j' m' hm'=>by simp at hm') j oj m hoj (by simpa using q1) (hI.closed j oj (initAt hoj) hx) i hbit;rw [hunf] at this;cases this
   have same:∀ {β:Type} (eff:List Et→Nat→Option β) (P:Nat→Prop) (acc:β) (t:Nat),P t→(∀ σ,Apart σ τ→P t→eff σ t≠none→False)→(∀ σ,Apart τ σ→P t→eff σ t≠none→False)→Zxa eff (fun j=>decide (j<0+i)) Ts 0 acc t=Zxa eff (sel listed) Ts 0 acc t:=by
    intro β eff P acc t hP hA hB;refine Zze fun j σ hj hne=>?_;simp only [Nat.zero_add];rcases Nat.lt_trichotomy j i with h | h | h
    ·rcases befo j σ h hj with q | q
     ·rw [decide_eq_true h];exact q.symm
     ·exact (hA σ q hP hne).elim
    ·subst h;rw [decide_eq_false (Nat.lt_irrefl _)];exact hunf.symm
    ·rcases afte j σ h hj with q | q
     ·rw [decide_eq_false (by omega)];exact q.symm
     ·exact (hB σ q hP hne).elim
   have okτ:okT τ f1 l1:=by
    refine ZLe b2 h1.nd b1 (fun t ht=>?_) fun t ht=>?_
    ·rw [b3 t,h2 t];exact same Zfb (rdS τ) _ t ht (fun σ q hp hne=>q.s1 t hne hp) fun σ q hp hne=>q.s3 t hp hne
    ·rw [b4 t,h3 t];exact same Zqa (rdL τ) _ t ht (fun σ q hp hne=>q.l1 t hne hp) fun σ q hp hne=>q.l3 t hp hne
   have hruns:=Zqm (htr i o τ ho' hτ) okτ;have hnU:¬ UE n listed (n+i):=by
    rintro (h | ⟨j,hj,e⟩)
    ·omega
    ·have:i=j:=by omega
     subst this;rw [hunf] at hj;cases hj
   have selS:∀ j,sel (listed.setIfInBounds i true) j=if i=j then true else sel listed j:=fun j=>by
    by_cases h:i=j
    ·subst h;rw [if_pos rfl];exact ZGb hil
    ·rw [if_neg h];exact ZSa h
   have hUE:∀ k,UE n listed k→UE n (listed.setIfInBounds i true) k:=by
    rintro k (h | ⟨j,hj,e⟩)
    ·exact .inl h
    ·refine .inr ⟨j,?_,e⟩;have:=selS j;unfold sel at this;rw [this,hj];split <;> rfl
   have hXi:UE n (listed.setIfInBounds i true) (n+i):=.inr ⟨i,ZGb hil,rfl⟩;have hgg:=ZBn (X:=UE n (listed.setIfInBounds i true)) hC (h1.mono (fun _ h=>h) hUE) hUE hXi hnU hds (hds o (by rw [← he];exact List.mem_append_left _ (List.mem_of_getElem? ho'))) hruns;have upd:∀ {β:Type} (eff:List Et→Nat→Option β) (acc:β) (t:Nat),(∀ σ,Apart τ σ→eff τ t≠none→eff σ t≠none→False)→Zxa eff (sel (listed.setIfInBounds i true)) Ts 0 acc t=(eff τ t).getD (Zxa eff (sel listed) Ts 0 acc t):=by
    intro β eff acc t hA
    cases he:eff τ t with
    | none =>
     refine Zze fun j σ hj hne=>?_;rw [Nat.zero_add,selS j,if_neg];intro e;subst e;rw [hτ] at hj;cases hj;exact hne he
    | some z =>
     refine ZMn (k:=i) hτ (by rw [Nat.zero_add,selS i,if_pos rfl]) he fun j σ hij hσ hs=>?_;rw [Nat.zero_add,selS j,if_neg (by omega)] at hs;rcases afte j σ hij hσ with q | q
     ·rw [show sel listed j=false from q] at hs;cases hs
     ·cases hx:eff σ t with
      | none=>rfl
      | some y=>exact (hA σ q (by rw [he];exact fun e=>by cases e) (by rw [hx];exact fun e=>by cases e)).elim
   have nxt:∀ f' l' a' w',((()=()∧f'=Zac τ f1∧l'=Z7b τ l1)∧True)→Rel N G w0 v0 (UE n (listed.setIfInBounds i true)) f' l' a' w'→wpAny C.P .any ops Q (fuel+1) (listed.setIfInBounds i true) a' w':=by
    rintro f' l' a' w' ⟨⟨_,rfl,rfl⟩,_⟩ hr;refine ih _ _ _ (by have:=ZTi hun;omega) (by
     rw [ZWo (Ne.symm hne)];exact hlast) ⟨by simp [hI.size],fun j oj hj hlj e he hbb=>?_,_,_,hr,fun t=>?_,fun t=>?_⟩
    ·have hj2:=selS e.on;have hj3:=selS j;unfold sel at hj2 hj3;rw [hj2];split
     ·rfl
     ·rw [hj3] at hlj;split at hlj
      ·rename_i hij;subst hij;rw [ho] at hj;cases hj;exact hall e he hbb
      ·exact hI.closed j oj hj hlj e he hbb
    ·rw [Zmd okτ,h2 t];exact (upd Zfb _ t fun σ q hp hne=>q.s2 t hp hne).symm
    ·rw [(ZEc h1.nd okτ).2 t,h3 t];exact (upd Zqa _ t fun σ q hp hne=>q.l2 t hp hne).symm
   unfold wpOp;rw [ho];rcases hgg with ⟨hw,hg⟩ | ⟨hw,f',l',q1,q2⟩
   ·simp only [hw,if_true];exact .inl (Zel rfl hg fun x w' ⟨f',l',q1,q2⟩=>nxt f' l' _ w' ⟨⟨rfl,q1.2⟩,trivial⟩ q2)
   ·simp only [hw];exact nxt f' l' _ w ⟨⟨rfl,q1.2⟩,trivial⟩ q2
end
end Go.Eng
namespace Go.Eng
open Go.RowKit
section
variable {N:Nat} {G:V→Value→Prop} {w0:Base} {v0:Zb}
def ZKe (N:Nat) (G:V→Value→Prop) (w0:Base) (v0:Zb) (n:Nat) (f:Fr) (l:Lo) (p:Fr→Lo→Nat→Prop) (S:Act→World→Prop):Prop :=
 ∀ f' l' n' a' w',p f' l' n'→n≤n'→Old n f l f' l'→Rel N G w0 v0 (· < n') f' l' a' w'→S a' w'
theorem ZKe.step {n n1:Nat} {f f1:Fr} {l l1:Lo} {p:Fr→Lo→Nat→Prop} {S:Act→World→Prop} (h:ZKe N G w0 v0 n f l p S) (hn:n≤n1) (ho:Old n f l f1 l1):ZKe N G w0 v0 n1 f1 l1 p S :=
 fun f' l' n' a' w' hp hn' ho' hr=>h f' l' n' a' w' hp (by omega) (ho.trans ho' hn) hr
theorem draw_ok {C:Cf} (hC:CfOK C) {α:Type} {r:α} {id:Nat} {ops:Array Oper} {f:Fr} {l:Lo} {n:Nat} {K:Fr→Lo→Nat→Option α} {Q:Exit→Act→World→Prop} {a:Act} {w:World} (hm:C.P.follows .mixedOrders=true) (hb:Zue 0 ops.toList=true) (hds:∀ o ∈ ops.toList,∀ k,o.dst=some k→k<N)
  (h:(Zyf C ops.toList ops.toList f l n fun f l n ps=>match ZGe [] (Z1a ops.toList []) ps with
   | true=>K f l n
   | false=>none)=some r) (hr:Rel N G w0 v0 (· < n) f l a w) (hQ:ZKe N G w0 v0 n f l (fun f l n=>K f l n=some r) (Q .normal)):(Code.region id ops true).wp C.P Q a w:=by
 obtain ⟨Ts,h1,h2,h3,h4⟩:=Z8o h;split at h4
 ·rename_i hch;have hn:(l.map En.k).Nodup:=by obtain ⟨_,_,_,hr⟩:=hr;exact hr.nd
  refine wp_region_any hm ?_;have hz:∀ j,(Array.replicate ops.size false).getD j false=false:=fun j=>getD_replicate_false _ _;have hl:left (Array.replicate ops.size false)=ops.size:=by simp [left]
  refine Zny hC (Ts:=Ts) hb hds h1 hn h2 h3 hch (fun a' w' hr'=>hQ _ _ _ a' w' h4 (by omega) (Z7o (Nat.le_refl n) h1 h2 hn h3) hr') ops.size _ a w.drew hl ⟨by simp,fun j o _ hj=>?_,f,l,?_,fun t=>?_,fun t=>?_⟩
  ·rw [hz] at hj;cases hj
  ·obtain ⟨γ,v,ℓ,hr⟩:=hr.draw;exact ⟨γ,v,ℓ,hr.mono (fun _ h=>.inl h) fun _ h=>.inl h⟩
  ·exact (ZRe fun j _ _ hs=>by rw [show sel _ _=false from hz _] at hs;cases hs).symm
  ·exact (ZRe fun j _ _ hs=>by rw [show sel _ _=false from hz _] at hs;cases hs).symm
 ·cases h4
def ZBh (C:Cf) (cf:CallF):Prop:=∀ {α:Type} {g:FuncId} {ags:V} {l:Lo} {n:Nat} {K:V→Lo→Nat→Option α} {r:α},cf α g ags l n K=some r→∀ {N:Nat} {G:V→Value→Prop} {w0:Base} {v0:Zb} {a:Act} {w:World} {γ:Nat→Gh} {v:Zb} {ℓ:List Loc} {vals:List Value},
 RelX N G w0 v0 (· < n) (· < n) [] l a w γ v ℓ→RR v γ l true ags vals→ags.ok (· < n)→ZN C.P g∧Calls C.P g vals.toArray w fun e w'=>∃ y c l' n' γ' v' ℓ',e = .returned y∧K c l' n'=some r∧n≤n'∧(∀ f,Old n f l f l')∧RelX N G w0 v0 (· < n') (· < n') [] l' a w' γ' v' ℓ'∧RV v' γ' l' (ZZd c) y∧(ZZd c).ok (· < n')
theorem Zvu {U X:Nat→Prop} {f:Fr} {l:Lo} {a:Act} {w:World} {γ:Nat→Gh} {v:Zb} {ℓ:List Loc} (hr:RelX N G w0 v0 U X f l a w γ v ℓ):∀ {xs:List Operand} {c:V},Z4k f xs=some c→RR v γ l true c (xs.map a.eval)∧c.ok U
 | [],c,h=>by cases h;exact ⟨rfl,trivial⟩
 | x :: xs,c,h=>by
  simp only [Z4k] at h
  split at h
  ·cases h
  ·rename_i V1 c1 hnt h1 h2
   cases h
   obtain ⟨q1,q2⟩:=Z5l hr h1
   obtain ⟨q3,q4⟩:=Zvu hr h2
   obtain ⟨cs,hcs,hqe⟩:=Zxb q1 (fun c e=>hnt c (by rw [e]))
   exact ⟨⟨cs,_,by rw [List.map_cons,hqe],hcs,q3⟩,q2,q4⟩
  ·cases h
theorem Z0s {v:Zb} {γ:Nat→Gh} {l:Lo} {U:Nat→Prop}:∀ {c d:V} {xs ys:List Value},RR v γ l true c xs→RR v γ l true d ys→c.ok U→d.ok U→RR v γ l true (appV c d) (xs++ys)∧(appV c d).ok U
 | .nl,d,xs,ys,h,k,_,kd=>by rw [show xs=[] from h];exact ⟨k,kd⟩
 | .cons a b,d,xs,ys,⟨cs,zs,e1,e2,e3⟩,k,kc,kd=>by
  subst e1
  obtain ⟨q1,q2⟩:=Z0s (c:=b) e3 k kc.2 kd
  exact ⟨⟨cs,_,rfl,e2,q1⟩,kc.1,q2⟩
theorem inl1_ok {C:Cf} {cf:CallF} (hcf:ZBh C cf) {α:Type} {r:α} {o:Oper} {g:FuncId} {ags:V} {f0 f:Fr} {l:Lo} {n:Nat} {K:Fr→Lo→Nat→Option α} {a:Act} {w:World} {γ:Nat→Gh} {v:Zb} {ℓ:List Loc} (hi:ZVk C f0 o=some (g,ags)) (h:inl1 cf o g ags f l n K=some r)
  (hr0:RelX N G w0 v0 (· < n) (· < n) f0 l a w γ v ℓ) (hr:RelX N G w0 v0 (· < n) (· < n) f l a w γ v ℓ) (hd:∀ k,o.dst=some k→k<N):Zvb C.P o a w fun x w'=>∃ f' l' n',K f' l' n'=some r∧n≤n'∧Old n f l f' l'∧Rel N G w0 v0 (· < n') f' l' (a.put o.dst x) w':=by
 obtain ⟨d,op,ty,pos,aft,gd⟩:=o;unfold ZVk at hi;split at hi
 ·rename_i c hop;have hop:op = .call c:=hop;subst hop;obtain ⟨callee,args,ats⟩:=c;split at hi
  ·rename_i x hx;have hx:callee = .value x:=hx;subst hx;split at hi
   ·rename_i g' cap hg;split at hi
    ·split at hi
     ·rename_i ags' has
      cases hi
      unfold inl1 at h
      cases d with
      | none=>cases h
      | some d =>
       obtain ⟨q1,q2⟩:=Z5l hr0 hg;obtain ⟨cs,⟨vs,q3,rfl⟩,q4⟩:=q1;have q4:a.eval x = .func (.func g) #[] vs.toArray:=q4;obtain ⟨q5,q6⟩:=Zvu hr0 has;obtain ⟨q7,q8⟩:=Z0s q5 q3 q6 q2;have hlt:∀ k,k<n→k<n+1:=fun k h=>by omega
       let G':V→Value→Prop:=fun x y=>G x y ∨ ∃ t e,lkE f t=some e∧x=e.x∧y=a.tmps.getD t undef
       have hrG:RelX N G' w0 v0 (· < n+1) (· < n+1) [] l a w γ v ℓ:=by
        have hm:=hr.mono hlt hlt;refine ⟨hm.st,fun t e he=>(by cases he),hm.lr,hm.nd,fun t e he=>(by cases he),hm.ul,fun x y hg=>?_⟩;rcases hg with hg | ⟨t,e,h1,rfl,rfl⟩
        ·exact hm.gh x y hg
        ·exact ⟨hm.fr t e h1,(hm.uf t e h1).1⟩
       obtain ⟨hen,hcalls⟩:=hcf h hrG q7 (V.ok.mono hlt q8);obtain ⟨σ,hσ,hev⟩:=hr0.st.evs (x :: args.toList);have hfx:=hev x (by simp);rw [q4] at hfx;have hargs:args.toList.map (ev σ)=(args.toList.map a.eval).map some:=by
        rw [List.map_map];exact List.map_congr_left fun y hy=>hev y (by simp [hy])
       have hrun:=ZNA (d:=some d) (ty:=ty) (pos:=pos) (aft:=aft) (g:=gd) (ats:=ats) hσ _ _ hen hfx hargs;refine Zbd hrun (Calls.mono hcalls fun e w' ⟨y,c,l',n',γ',v',ℓ',e1,e2,e3,e4,e5,e6,e7⟩=>⟨y,e1,_,l',n',e2,by omega,((e4 f).mono (by omega)).trans (Old.put (Nat.le_refl n)) (Nat.le_refl n),γ',v',ℓ',?_⟩);have hr2:RelX N G w0 v0 (· < n') (· < n') f l' a w' γ' v' ℓ':=by
        refine ⟨e5.st,fun t e he=>(e5.gh _ _ (.inr ⟨t,e,he,rfl,rfl⟩)).1,e5.lr,e5.nd,fun t e he=>⟨(e5.gh _ _ (.inr ⟨t,e,he,rfl,rfl⟩)).2,?_⟩,e5.ul,fun x y hg=>e5.gh x y (.inl hg)⟩;have:=(hr.uf t e he).2;show e.st<n';have:e.st<n:=this;omega
       exact hr2.put (hd d rfl) e6 e7 (show n<n' by omega)
     ·cases hi
    ·cases hi
   ·cases hi
  ·cases hi
 ·cases hi
theorem inlG_ok {C:Cf} {cf:CallF} (hcf:ZBh C cf) {α:Type} {r:α} {ops:Array Oper} {o:Oper} {rest:List Oper} {g:FuncId} {ags:V} {f:Fr} {l:Lo} {n:Nat} {K:Fr→Lo→Nat→Option α} {Q:Exit→Act→World→Prop} {a:Act} {w:World} (hi:ZVk C f o=some (g,ags)) (h:inlG cf ops.toList o g ags f l n K=some r)
  (hr:Rel N G w0 v0 (· < n) f l a w) (hds:∀ o ∈ ops.toList,∀ k,o.dst=some k→k<N) (hd:∀ k,o.dst=some k→k<N) (hQ:ZKe N G w0 v0 n f l (fun f l n=>K f l n=some r) fun a w=>wpList C.P ops Q rest a w):wpList C.P ops Q (o :: rest) a w:=by
 obtain ⟨γ,v,ℓ,hr⟩:=hr;have yes:∀ {f1:Fr},Old n f l f1 l→RelX N G w0 v0 (· < n) (· < n) f1 l a w γ v ℓ→Region.wanted o (yielded ops a.tmps)=true→inl1 cf o g ags f1 l n K=some r→wpList C.P ops Q (o :: rest) a w:=fun ho hr1 hw h =>
  ZQc hw (Zrn (inl1_ok hcf hi h hr hr1 hd) fun x w' ⟨f',l',n',e1,e2,e3,e4⟩=>hQ f' l' n' _ w' e1 e2 (ho.trans e3 (Nat.le_refl n)) e4)
 have no:∀ {f1:Fr},Old n f l f1 l→RelX N G w0 v0 (· < n) (· < n) f1 l a w γ v ℓ→Region.wanted o (yielded ops a.tmps)=false→Z8j o f1 l n K=some r→wpList C.P ops Q (o :: rest) a w:=fun ho hr1 hw h=>by
  have h1:=Z6h (Nat.le_refl n) Old.refl hr1.nd (ZMh h);obtain ⟨f',l',⟨q1,q2⟩,q3⟩:=ZSj (X:=(· < n+1)) (hr1.mono (fun _ h=>h) fun k h=>(show k<n+1 by have:k<n:=h;omega)) (fun k h=>(show k<n+1 by have:k<n:=h;omega)) (Nat.lt_succ_self n) hd h1;unfold wpList;rw [if_neg (by rw [hw];decide)];exact hQ f' l' _ _ w q1 (by omega) (ho.trans q2 (Nat.le_refl n)) q3
 unfold inlG at h;split at h
 ·rename_i hg;exact yes Old.refl hr (Z6b hg) h
 ·rename_i j want hg;split at h
  ·rename_i q hq;split at h
   ·rename_i t ht;have htN:t<N:=hds q (List.mem_of_getElem? hq) t ht;have hgd:(ops[j]?).bind (·.dst)=some t:=by rw [← Array.getElem?_toList,hq];exact ht
    obtain ⟨σ,hσ,hev⟩:=hr.st.evs [.tmp t];have hl:look σ t=some (a.tmps.getD t undef):=hev (.tmp t) (by simp);split at h
    ·rename_i ek s b he;have hk:ek=t:=(Zr he).2;subst hk;have h2:a.tmps.getD ek undef = .bool b:=ZYf (hr.fr ek _ he);rw [h2] at hl;have hdup:=RelX.dup hr he;have hold:=Old.dup (m:=n) (l:=l) he
     cases want <;> cases b
     ·exact yes hold hdup (Zfg hσ hg hgd hl htN) h
     ·exact no hold hdup (ZBi hσ hg hgd hl htN) h
     ·exact no hold hdup (ZBi hσ hg hgd hl htN) h
     ·exact yes hold hdup (Zfg hσ hg hgd hl htN) h
    ·rename_i ek s he;have hk:ek=t:=(Zr he).2;subst hk;obtain ⟨cs,h1,h2⟩:=hr.fr ek _ he;have h1:cs=[undef]:=h1;subst h1;have h2:a.tmps.getD ek undef=undef:=h2;rw [h2] at hl;exact no Old.refl hr (Zwe hσ hg hgd hl htN) h
    ·cases h
   ·cases h
  ·cases h
theorem Z9k {C:Cf} (hC:CfOK C) {cf:CallF} (hcf:ZBh C cf) {α:Type} {r:α} {ops:Array Oper} {Q:Exit→Act→World→Prop} (hds:∀ o ∈ ops.toList,∀ k,o.dst=some k→k<N) {K:Fr→Lo→Nat→Option α}:∀ {os:List Oper} {f:Fr} {l:Lo} {n:Nat} {a:Act} {w:World},iops C cf ops.toList os f l n K=some r→(∀ o ∈ os,o ∈ ops.toList) →
  Rel N G w0 v0 (· < n) f l a w→ZKe N G w0 v0 n f l (fun f l n=>K f l n=some r) (Q .normal)→wpList C.P ops Q os a w
 | [],f,l,n,a,w,h,_,hr,hQ=>hQ f l n a w h (Nat.le_refl n) Old.refl hr
 | o :: os,f,l,n,a,w,h,hos,hr,hQ=>by
  have hd:=hds o (hos o (by simp))
  simp only [iops] at h
  split at h
  ·obtain ⟨γ,v,ℓ,hr⟩:=hr
   have h1:=Z6h (Nat.le_refl n) Old.refl hr.nd (ZMh h)
   refine (ZBn hC (X:=(· < n+1)) (hr.mono (fun _ h=>h) fun k h=>(show k<n+1 by have:k<n:=h;omega)) (fun k h=>(show k<n+1 by have:k<n:=h;omega)) (Nat.lt_succ_self n) (Nat.lt_irrefl n) hds hd h1).list fun f' l' a' w' ⟨q1,q2⟩ q3=>?_
   exact Z9k hC hcf hds q1 (fun o ho=>hos o (by simp [ho])) q3 (hQ.step (by omega) q2)
  ·rename_i g ags hi
   refine inlG_ok hcf hi h hr hds hd fun f' l' n' a' w' q1 q2 q3 q4=>?_
   exact Z9k hC hcf hds q1 (fun o ho=>hos o (by simp [ho])) q4 (hQ.step q2 q3)
theorem ZDv {C:Cf} (hC:CfOK C) {cf:CallF} (hcf:ZBh C cf) {α:Type} {r:α} {id:Nat} {ops:Array Oper} {o:Oper} {f:Fr} {l:Lo} {n:Nat} {K:Fr→Lo→Nat→Option α} {Q:Exit→Act→World→Prop} {a:Act} {w:World} (ho:ZEk ops.toList=some o) (hm:C.P.follows .mixedOrders=true) (hb:Zue 0 ops.toList=true) (hds:∀ o ∈ ops.toList,∀ k,o.dst=some k→k<N)
  (h:(Zyf C ops.toList ops.toList.dropLast f l n fun f l n ps=>match ZGe [] (Z1a ops.toList.dropLast []) ps with
   | true=>iops C cf ops.toList [o] f l n K
   | false=>none)=some r) (hr:Rel N G w0 v0 (· < n) f l a w) (hQ:ZKe N G w0 v0 n f l (fun f l n=>K f l n=some r) (Q .normal)):(Code.region id ops true).wp C.P Q a w:=by
 obtain ⟨Ts,h1,h2,h3,h4⟩:=Z8o h;obtain ⟨he,hg,hanc⟩:=Zdz ho;split at h4
 ·rename_i hch;have hn:(l.map En.k).Nodup:=by obtain ⟨_,_,_,hr⟩:=hr;exact hr.nd
  have hsz:ops.size=ops.toList.dropLast.length+1:=by
   have:=congrArg List.length he;simp at this ⊢;omega
  have hin:∀ o ∈ ops.toList.dropLast,o ∈ ops.toList:=fun o ho=>by rw [← he];exact List.mem_append_left _ ho
  have hol:o ∈ ops.toList:=by rw [← he];simp
  refine wp_region_any hm ?_;have hz:∀ j,(Array.replicate ops.size false).getD j false=false:=fun j=>getD_replicate_false _ _;have hl:left (Array.replicate ops.size false)=ops.toList.dropLast.length+1:=by rw [← hsz];simp [left]
  have key:=Z3v (G:=G) (w0:=w0) (v0:=v0) (Q:=Q) hC (Ts:=Ts) he hg hanc hb hds h1 hn h2 h3 hch (fun a' w' hr'=>?_) ops.toList.dropLast.length (Array.replicate ops.size false) a w.drew hl ?_ ⟨by simp,fun j o _ hj=>?_,f,l,?_,fun t=>?_,fun t=>?_⟩
  ·rw [← hsz] at key;exact key
  ·have hold:=Z7o (Nat.le_refl n) h1 h2 hn h3;exact Z9k hC hcf hds h4 (fun o' ho'=>by rcases List.mem_singleton.1 ho' with rfl;exact hol) hr' (hQ.step (by omega) hold)
  ·rw [ZMb (by rw [Array.size_replicate];omega)];exact hz _
  ·rw [hz] at hj;cases hj
  ·obtain ⟨γ,v,ℓ,hr⟩:=hr.draw;exact ⟨γ,v,ℓ,hr.mono (fun _ h=>.inl h) fun _ h=>.inl h⟩
  ·exact (ZRe fun j _ _ hs=>by rw [show sel _ _=false from hz _] at hs;cases hs).symm
  ·exact (ZRe fun j _ _ hs=>by rw [show sel _ _=false from hz _] at hs;cases hs).symm
 ·cases h4
theorem Z7k {K:Nat}:∀ {os:List Oper},Zwh K os=true→∀ o ∈ os,∀ k,o.dst=some k→k<K
 | [],_,_,h,_,_=>by cases h
 | o :: os,h,o',ho',k,hk=>by
  simp only [Zwh] at h
  rcases List.mem_cons.1 ho' with rfl | ho'
  ·rw [hk] at h
   simp only at h
   split at h
   ·rename_i hb;exact Nat.le_of_ble_eq_true hb
   ·cases h
  ·have h':Zwh K os=true:=by
    split at h
    ·split at h
     ·exact h
     ·cases h
    ·exact h
   exact Z7k h' o' ho' k hk
end
end Go.Eng
namespace Go.Eng
open Go.RowKit
theorem Zjh {x:V} {c:CT} {cs:List Value} (h:x.isAgg=c.isAgg):x.val cs=c.vl cs:=by
 unfold V.val CT.vl;rw [h]
 cases c.isAgg <;> rfl
theorem ZPn {v v':Zb} (h:v.le v'):∀ {c:CT} {m:Bool} {x:c.den} {cs:List Value} {es:List Loc},CR v c m x cs es→CR v' c m x cs es:=by
 intro c
 induction c with
 | dat t=>intro m x cs es k;cases m <;> first | exact ⟨Rep.mono _ h k.1,k.2⟩ | exact k
 | own ty t =>
  intro m x cs es k;cases m
  ·obtain ⟨ob,cap,d,h1,h2,h3⟩:=k;exact ⟨ob,cap,d,h1,ZO h h2,h3⟩
  ·exact k
 | mat ty ty2 t =>
  intro m x cs es k;cases m
  ·obtain ⟨ob,cap,rows,es2,h1,h2,h3⟩:=k;exact ⟨ob,cap,rows,es2,h1,ZUc h h2,h3⟩
  ·exact k
 | nl=>intro m x cs es k;cases m <;> exact k
 | one a ih =>
  intro m x cs es k;cases m
  ·exact ih (m:=false) k
  ·obtain ⟨c,h1,h2⟩:=k;exact ⟨c,h1,ih h2⟩
 | cons a b ia ib =>
  intro m x cs es k;cases m
  ·obtain ⟨c1,c2,e1,e2,h1,h2,h3,h4⟩:=k;exact ⟨c1,c2,e1,e2,h1,h2,ia h3,ib h4⟩
  ·obtain ⟨c1,c2,e1,e2,h1,h2,h3,h4⟩:=k;exact ⟨c1,c2,e1,e2,h1,h2,ia h3,ib h4⟩
 | agg c ih=>intro m x cs es k;cases m <;> first | exact ih (m:=false) k | exact k
 | box ty c ih =>
  intro m x cs es k;cases m
  ·obtain ⟨b,c1,e1,h1,h2,h3,h4⟩:=k;exact ⟨b,c1,e1,h1,ih h2,h3,h4⟩
  ·exact k
theorem Zxd {α:Type} {ex es r:List α}:(ex++(es++r)).Perm (es++(ex++r)):=by
 rw [← List.append_assoc,← List.append_assoc];exact List.Perm.append_right _ List.perm_append_comm
section
variable {N:Nat} {G:V→Value→Prop} {w0:Base} {v0:Zb} {U X:Nat→Prop} {f:Fr} {a:Act} {w:World} {n:Nat}
theorem Z6x {ρ:Type} {g:Nat} {t:T} {x:V} {k:t.den→Ev ρ} {l:Lo} {Post:ρ→Fr→Lo→Prop} {v:Zb} {γ:Nat→Gh} {m:Bool} {cs:List Value} (h:Zm n (conv g t x k) f l Post) (hr:RR v γ l m x cs):m=false:=by
 cases m with
 | false=>rfl
 | true =>
  cases g with
  | zero=>exact h.elim
  | succ g=>cases x <;> first | exact hr.elim | (simp only [conv] at h;exact h.elim)
theorem Z8e {ρ:Type} (hn:¬ U n) (hX:X n):∀ (g:Nat) {c:CT} {x:V} {K:c.den→Ev ρ} {l:Lo} {Post:ρ→Fr→Lo→Prop} {γ:Nat→Gh} {v:Zb} {ℓ ex:List Loc} {m:Bool} {cs:List Value},
  Zm n (Z9 g c x K) f l Post→RelX N G w0 v0 U X f l a w γ v ℓ→St N w0 v0 [] (ex++ℓ) v a w→x.ok U→RR v γ l m x cs →
  ∃ z l' γ' v' ℓ' es,Zm n (K z) f l' Post∧RelX N G w0 v0 U X f l' a w γ' v' ℓ'∧St N w0 v0 [] (es++(ex++ℓ')) v' a w∧Le U v γ l v' γ' l'∧CR v' c m z cs es∧x.isAgg=c.isAgg
 | 0,_,_,_,_,_,_,_,_,_,_,_,h,_,_,_,_=>h.elim
 | g+1,c,x,K,l,Post,γ,v,ℓ,ex,m,cs,h,hr,hex,hk,hx=>by
  obtain ⟨E,hE,_⟩:=hr.lr
  have rfl':Le U v γ l v γ l:=Le.refl hE (Zb.le_refl _)
  cases c with
  | dat t =>
   simp only [Z9] at h
   have hm:=Z6x h hx
   subst hm
   have hag:=ZTf FU h
   obtain ⟨y,l1,γ1,v1,ℓ1,k1,k2,k3,k4,k5⟩:=Zbb hn hX FU h hr hex hk
   exact ⟨y,l1,γ1,v1,ℓ1,[],k1,k2,k3,k4,⟨k5 _ hx,rfl⟩,hag⟩
  | own ty t =>
   cases x with
   | own u =>
    cases m with
    | true=>exact hx.elim
    | false =>
    simp only [Z9] at h
    obtain ⟨e,he,h⟩:=h
    obtain ⟨kk,st,L⟩:=e
    have hkk:kk=u:=(Zr he).2
    subst hkk
    obtain ⟨y,rfl,_,hy⟩:=hx
    have hy:=hy _ he
    obtain ⟨es,E',h1,_,_,h3,h4⟩:=hr.del he
    cases L with
    | own ty' t' xs fz =>
     cases fz with
     | true=>exact h.elim
     | false =>
      simp only at h
      split at h
      ·rename_i ys hty hcast
       have hty:=Nat.eq_of_beq_eq_true hty
       subst hty
       obtain ⟨c3,c4⟩:=Z7 hcast
       cases c3;cases c4
       obtain ⟨ob,cap,d,g1,g2,rfl⟩:=h1
       have g1:γ kk = .own ob cap:=g1
       obtain ⟨ob',cap',g3,g4⟩:=hy
       rw [g1] at g3;cases g3
       exact ⟨_,_,_,_,_,_,h,h4,hex.perm ((List.Perm.append_left ex h3).trans Zxd),Le.era hr kk,⟨ob,cap,d,by rw [g4],g2,rfl⟩,rfl⟩
      ·exact h.elim
    | box _ _=>exact h.elim
    | mid _ _ _ _ _ _=>exact h.elim
    | mat _ _ _ _ _=>exact h.elim
   | nilS =>
    cases m with
    | true=>exact hx.elim
    | false =>
    simp only [Z9] at h
    have hx:cs=[.slice none 0 0]:=hx
    subst hx
    exact ⟨_,l,γ,v,ℓ,[.own none ty t.n 0 0 []],h,hr,hex.nilLoc ty t.n,rfl',⟨none,0,[],rfl,rfl,rfl⟩,rfl⟩
   | _=>simp only [Z9] at h;exact h.elim
  | mat ty ty2 t =>
   cases x with
   | own u =>
    cases m with
    | true=>exact hx.elim
    | false =>
    simp only [Z9] at h
    obtain ⟨e,he,h⟩:=h
    obtain ⟨kk,st,L⟩:=e
    have hkk:kk=u:=(Zr he).2
    subst hkk
    obtain ⟨y,rfl,_,hy⟩:=hx
    have hy:=hy _ he
    obtain ⟨es,E',h1,_,_,h3,h4⟩:=hr.del he
    cases L with
    | mat ty' ty2' t' mm hv =>
     simp only at h
     split at h
     ·rename_i m' hty hty2 hcast
      have hty:=Nat.eq_of_beq_eq_true hty
      have hty2:=Nat.eq_of_beq_eq_true hty2
      subst hty hty2
      obtain ⟨c3,c4⟩:=Z7 hcast
      cases c3;cases c4
      obtain ⟨ob,cap,rows,es2,g1,g2,rfl⟩:=h1
      have g1:γ kk = .mat ob cap rows:=g1
      obtain ⟨ob',cap',rows',g3,g4⟩:=hy
      rw [g1] at g3;cases g3
      exact ⟨_,_,_,_,_,_,h,h4,hex.perm ((List.Perm.append_left ex h3).trans Zxd),Le.era hr kk,⟨ob,cap,rows,es2,by rw [g4],g2,rfl⟩,rfl⟩
     ·exact h.elim
    | box _ _=>exact h.elim
    | mid _ _ _ _ _ _=>exact h.elim
    | own _ _ _ _=>exact h.elim
   | nilS =>
    cases m with
    | true=>exact hx.elim
    | false =>
    simp only [Z9] at h
    have hx:cs=[.slice none 0 0]:=hx
    subst hx
    exact ⟨_,l,γ,v,ℓ,[.own none ty 1 0 0 []],h,hr,hex.nilLoc ty 1,rfl',⟨none,0,[],[],rfl,rfl,rfl⟩,rfl⟩
   | _=>simp only [Z9] at h;exact h.elim
  | nl =>
   cases x with
   | nl =>
    simp only [Z9] at h
    have hx:cs=[]:=by cases m <;> exact hx
    exact ⟨_,l,γ,v,ℓ,[],h,hr,hex,rfl',(by cases m <;> exact ⟨hx,rfl⟩),rfl⟩
   | _=>simp only [Z9] at h;exact h.elim
  | one c =>
   cases x with
   | cons x1 x2 =>
    cases x2 with
    | nl =>
     simp only [Z9] at h
     cases m with
     | false =>
      obtain ⟨c1,c2,rfl,h1,h2⟩:=hx
      have h2:c2=[]:=h2
      subst h2
      obtain ⟨z,l1,γ1,v1,ℓ1,es,k1,k2,k3,k4,k5,k6⟩:=Z8e hn hX g h hr hex hk.1 h1
      exact ⟨z,l1,γ1,v1,ℓ1,es,k1,k2,k3,k4,(by rw [List.append_nil];exact k5),rfl⟩
     | true =>
      obtain ⟨c1,xs,rfl,h1,h2⟩:=hx
      have h2:xs=[]:=h2
      subst h2
      obtain ⟨z,l1,γ1,v1,ℓ1,es,k1,k2,k3,k4,k5,k6⟩:=Z8e hn hX g h hr hex hk.1 h1
      exact ⟨z,l1,γ1,v1,ℓ1,es,k1,k2,k3,k4,⟨c1,(by rw [Zjh k6]),k5⟩,rfl⟩
    | _=>simp only [Z9] at h;exact h.elim
   | _=>simp only [Z9] at h;exact h.elim
  | cons c d =>
   cases x with
   | cons x1 x2 =>
    simp only [Z9] at h
    have step:∀ {c1:List Value} {m2:Bool} {c2:List Value},RR v γ l false x1 c1→RR v γ l m2 x2 c2→∃ z l' γ' v' ℓ' e1 e2,Zm n (K z) f l' Post∧RelX N G w0 v0 U X f l' a w γ' v' ℓ'∧St N w0 v0 [] ((e1++e2)++(ex++ℓ')) v' a w∧Le U v γ l v' γ' l'∧CR v' c false z.1 c1 e1∧CR v' d m2 z.2 c2 e2∧x1.isAgg=c.isAgg:=by
     intro c1 m2 c2 h1 h2;obtain ⟨z1,l1,γ1,v1,ℓ1,e1,k1,k2,k3,k4,k5,k6⟩:=Z8e hn hX g h hr hex hk.1 h1;obtain ⟨z2,l2,γ2,v2,ℓ2,e2,q1,q2,q3,q4,q5,q6⟩:=Z8e hn hX g (ex:=e1++ex) k1 k2 (by rw [List.append_assoc];exact k3) hk.2 (Znb k4 hk.2 h2);refine ⟨(z1,z2),l2,γ2,v2,ℓ2,e1,e2,q1,q2,q3.perm ?_,k4.trans q4,ZPn q4.v k5,q5,k6⟩;rw [List.append_assoc,List.append_assoc];exact Zxd
    cases m with
    | false =>
     obtain ⟨c1,c2,rfl,h1,h2⟩:=hx;obtain ⟨z,l1,γ1,v1,ℓ1,e1,e2,k1,k2,k3,k4,k5,k6,k7⟩:=step h1 h2;exact ⟨z,l1,γ1,v1,ℓ1,_,k1,k2,k3,k4,⟨c1,c2,e1,e2,rfl,rfl,k5,k6⟩,rfl⟩
    | true =>
     obtain ⟨c1,xs,rfl,h1,h2⟩:=hx;obtain ⟨z,l1,γ1,v1,ℓ1,e1,e2,k1,k2,k3,k4,k5,k6,k7⟩:=step h1 h2;exact ⟨z,l1,γ1,v1,ℓ1,_,k1,k2,k3,k4,⟨c1,xs,e1,e2,by rw [Zjh k7],rfl,k5,k6⟩,rfl⟩
   | _=>simp only [Z9] at h;exact h.elim
  | agg c =>
   cases x with
   | agg x1 =>
    cases m with
    | true=>exact hx.elim
    | false =>
    simp only [Z9] at h;obtain ⟨z,l1,γ1,v1,ℓ1,es,k1,k2,k3,k4,k5,k6⟩:=Z8e hn hX g (x:=x1) (m:=false) h hr hex hk hx;exact ⟨z,l1,γ1,v1,ℓ1,es,k1,k2,k3,k4,k5,rfl⟩
   | _=>simp only [Z9] at h;exact h.elim
  | box ty c =>
   cases x with
   | ptr u off =>
    cases off with
    | succ k=>simp only [Z9] at h;exact h.elim
    | zero =>
    cases m with
    | true=>exact hx.elim
    | false =>
    simp only [Z9] at h;obtain ⟨e,he,h⟩:=h;obtain ⟨kk,st,L⟩:=e;obtain ⟨hm,hkk⟩:=Zr he;have hkk:kk=u:=hkk;subst hkk;obtain ⟨y,rfl,_,hy⟩:=hx;have hy:=hy _ he;obtain ⟨es,E',h1,_,_,h3,h4⟩:=hr.del he
    cases L with
    | box ty' x1 =>
     simp only at h;split at h
     ·rename_i hty;have hty:=Nat.eq_of_beq_eq_true hty;subst hty;obtain ⟨b,c1,g1,g2,g3,rfl⟩:=h1;have g1:γ kk = .box b:=g1;obtain ⟨b',g4,g5⟩:=hy;rw [g1] at g4;cases g4;have hk1:x1.ok U:=(hr.ul _ hm).2.2;obtain ⟨z,l1,γ1,v1,ℓ1,e1,k1,k2,k3,k4,k5,k6⟩:=Z8e hn hX g (ex:=.box b ty c1 :: ex) h h4 (hex.perm ((List.Perm.append_left ex h3).trans Zxd)) hk1 (Znb (Le.era hr kk) hk1 g2);refine ⟨z,l1,γ1,v1,ℓ1,.box b ty c1 :: e1,k1,k2,k3.perm ?_,(Le.era hr kk).trans k4,⟨b,c1,e1,by rw [g5],k5,g3,rfl⟩,rfl⟩;exact List.perm_middle
     ·exact h.elim
    | own _ _ _ _=>exact h.elim
    | mid _ _ _ _ _ _=>exact h.elim
    | mat _ _ _ _ _=>exact h.elim
   | _=>simp only [Z9] at h;exact h.elim
theorem ZZA {ρ:Type} {g:Nat} {c:CT} {q:V} {K:c.den→Ev ρ} {l:Lo} {Post:ρ→Fr→Lo→Prop} (h:Zm n (Z9 g c (.tup q) K) f l Post):False:=by
 cases g with
 | zero=>exact h
 | succ g =>
  cases c with
  | dat t =>
   simp only [Z9] at h;have:∀ (g:Nat),Zm n (conv g t (.tup q) K) f l Post→False:=fun g h=>by cases g <;> exact h
   exact this _ h
  | _=>simp only [Z9] at h;exact h
end
theorem F2.append {α β:Type} {R:α→β→Prop}:∀ {l l':List α} {m m':List β},F2 R l m→F2 R l' m'→F2 R (l++l') (m++m')
 | [],_,[],_,_,k=>k
 | _ :: _,_,_ :: _,_,h,k=>⟨h.1,F2.append h.2 k⟩
 | [],_,_ :: _,_,h,_=>h.elim
 | _ :: _,_,[],_,h,_=>h.elim
theorem Zln {la lb:Lo} {γa γb:Nat→Gh} {γ:Nat→Gh} {l:Lo} (h:∀ e ∈ la++lb,γ e.k=(if e.k ∈ la.map En.k then γa e.k else γb e.k)∧lkE l e.k=some e):∀ e ∈ la,γ e.k=γa e.k∧lkE l e.k=some e:=fun e he=>by
 obtain ⟨h1,h2⟩:=h e (List.mem_append_left _ he)
 rw [if_pos (List.mem_map.2 ⟨e,he,rfl⟩)] at h1
 exact ⟨h1,h2⟩
theorem ZJn {la lb:Lo} {γa γb:Nat→Gh} {γ:Nat→Gh} {l:Lo} (hd:∀ e ∈ lb,e.k ∉ la.map En.k) (h:∀ e ∈ la++lb,γ e.k=(if e.k ∈ la.map En.k then γa e.k else γb e.k)∧lkE l e.k=some e):∀ e ∈ lb,γ e.k=γb e.k∧lkE l e.k=some e:=fun e he=>by
 obtain ⟨h1,h2⟩:=h e (List.mem_append_right _ he)
 rw [if_neg (hd e he)] at h1
 exact ⟨h1,h2⟩
theorem ZKj {la lb:Lo} (ha:(la.map En.k).Nodup) (hb:(lb.map En.k).Nodup) (hd:∀ e ∈ lb,e.k ∉ la.map En.k):((la++lb).map En.k).Nodup:=by
 rw [List.map_append];refine List.nodup_append.2 ⟨ha,hb,fun x hx y hy e=>?_⟩;subst e;obtain ⟨e,he,rfl⟩:=List.mem_map.1 hy;exact hd e he hx
theorem Zaq {v:Zb}:∀ (c:CT) {m:Bool} {z:c.den} {cs:List Value} {es:List Loc} (n:Nat) {x:V} {l2:Lo} {n2:Nat},CR v c m z cs es→Zk c z n=(x,l2,n2) →
  n≤n2∧(∀ e ∈ l2,n≤e.k∧e.k<n2∧n≤e.st∧e.st<n2∧e.x.ok (· < n2) (· < n2))∧(l2.map En.k).Nodup∧x.ok (· < n2)∧x.isAgg=c.isAgg ∧
  ∃ γ0:Nat→Gh,∀ (γ:Nat→Gh) (l:Lo),(∀ e ∈ l2,γ e.k=γ0 e.k∧lkE l e.k=some e)→RR v γ l m x cs∧∃ E,F2 (Zya v γ l) l2 E∧es.Perm E.flatten:=by
 intro c
 induction c with
 | dat t =>
  intro m z cs es n x l2 n2 h hi
  cases m with
  | true=>exact h.elim
  | false =>
  cases hi
  obtain ⟨h1,rfl⟩:=h;exact ⟨Nat.le_refl _,fun e he=>(by cases he),List.nodup_nil,trivial,rfl,fun _=>.box 0,fun γ l _=>⟨h1,[],trivial,List.Perm.refl _⟩⟩
 | own ty t =>
  intro m z cs es n x l2 n2 h hi
  cases m with
  | true=>exact h.elim
  | false =>
  cases hi
  obtain ⟨ob,cap,d,rfl,h2,rfl⟩:=h;refine ⟨Nat.le_succ _,fun e he=>?_,?_,Nat.lt_succ_self n,rfl,fun _=>.own ob cap,fun γ l hl=>?_⟩
  ·rcases List.mem_singleton.1 he with rfl;exact ⟨Nat.le_refl _,Nat.lt_succ_self _,Nat.le_refl _,Nat.lt_succ_self _,trivial⟩
  ·exact List.nodup_cons.2 ⟨by simp,List.nodup_nil⟩
  ·obtain ⟨hg,hlk⟩:=hl _ (List.mem_singleton.2 rfl);refine ⟨⟨_,rfl,rfl,fun e he=>?_⟩,[_],⟨⟨ob,cap,d,hg,h2,rfl⟩,trivial⟩,List.Perm.refl _⟩;rw [show lkE l n=_ from hlk] at he;cases he;exact ⟨ob,cap,hg,rfl⟩
 | mat ty ty2 t =>
  intro m z cs es n x l2 n2 h hi
  cases m with
  | true=>exact h.elim
  | false =>
  cases hi
  obtain ⟨ob,cap,rows,es2,rfl,h2,rfl⟩:=h;refine ⟨Nat.le_succ _,fun e he=>?_,?_,Nat.lt_succ_self n,rfl,fun _=>.mat ob cap rows,fun γ l hl=>?_⟩
  ·rcases List.mem_singleton.1 he with rfl;exact ⟨Nat.le_refl _,Nat.lt_succ_self _,Nat.le_refl _,Nat.lt_succ_self _,Nat.lt_succ_self n⟩
  ·exact List.nodup_cons.2 ⟨by simp,List.nodup_nil⟩
  ·obtain ⟨hg,hlk⟩:=hl _ (List.mem_singleton.2 rfl);refine ⟨⟨_,rfl,rfl,fun e he=>?_⟩,[_],⟨⟨ob,cap,rows,es2,hg,h2,rfl⟩,trivial⟩,by simp⟩;rw [show lkE l n=_ from hlk] at he;cases he;exact ⟨ob,cap,rows,hg,rfl⟩
 | nl =>
  intro m z cs es n x l2 n2 h hi
  cases hi
  have h:cs=[]∧es=[]:=by cases m <;> exact h
  obtain ⟨rfl,rfl⟩:=h;exact ⟨Nat.le_refl _,fun e he=>(by cases he),List.nodup_nil,trivial,rfl,fun _=>.box 0,fun γ l _=>⟨by cases m <;> rfl,[],trivial,List.Perm.refl _⟩⟩
 | one c ih =>
  intro m z cs es n x l2 n2 h hi;have hi:((.cons (Zk c z n).1 .nl:V),(Zk c z n).2.1,(Zk c z n).2.2)=(x,l2,n2):=hi
  cases hi
  cases m with
  | false =>
   obtain ⟨k1,k2,k3,k4,k5,γ0,k6⟩:=ih n (x:=(Zk c z n).1) (l2:=(Zk c z n).2.1) (n2:=(Zk c z n).2.2) h rfl;exact ⟨k1,k2,k3,⟨k4,trivial⟩,rfl,γ0,fun γ l hl=>⟨⟨cs,[],by simp,(k6 γ l hl).1,rfl⟩,(k6 γ l hl).2⟩⟩
  | true =>
   obtain ⟨c1,rfl,h⟩:=h;obtain ⟨k1,k2,k3,k4,k5,γ0,k6⟩:=ih n (x:=(Zk c z n).1) (l2:=(Zk c z n).2.1) (n2:=(Zk c z n).2.2) h rfl;exact ⟨k1,k2,k3,⟨k4,trivial⟩,rfl,γ0,fun γ l hl=>⟨⟨c1,[],by rw [Zjh k5],(k6 γ l hl).1,rfl⟩,(k6 γ l hl).2⟩⟩
 | cons c d ia ib =>
  intro m z cs es n x l2 n2 h hi;have hi:((.cons (Zk c z.1 n).1 (Zk d z.2 (Zk c z.1 n).2.2).1:V),(Zk c z.1 n).2.1++(Zk d z.2 (Zk c z.1 n).2.2).2.1,(Zk d z.2 (Zk c z.1 n).2.2).2.2)=(x,l2,n2):=hi
  cases hi
  have step:∀ {c1 c2:List Value} {m2:Bool} {e1 e2:List Loc},CR v c false z.1 c1 e1→CR v d m2 z.2 c2 e2→es=e1++e2→n≤(Zk d z.2 (Zk c z.1 n).2.2).2.2∧(∀ e ∈ (Zk c z.1 n).2.1++(Zk d z.2 (Zk c z.1 n).2.2).2.1,n≤e.k∧e.k<(Zk d z.2 (Zk c z.1 n).2.2).2.2∧n≤e.st∧e.st<(Zk d z.2 (Zk c z.1 n).2.2).2.2∧e.x.ok (· < (Zk d z.2 (Zk c z.1 n).2.2).2.2) (· < (Zk d z.2 (Zk c z.1 n).2.2).2.2))∧(((Zk c z.1 n).2.1++(Zk d z.2 (Zk c z.1 n).2.2).2.1).map En.k).Nodup∧((Zk c z.1 n).1.ok (· < (Zk d z.2 (Zk c z.1 n).2.2).2.2)∧(Zk d z.2 (Zk c z.1 n).2.2).1.ok (· < (Zk d z.2 (Zk c z.1 n).2.2).2.2))∧(Zk c z.1 n).1.isAgg=c.isAgg ∧
    ∃ γ0:Nat→Gh,∀ (γ:Nat→Gh) (l:Lo),(∀ e ∈ (Zk c z.1 n).2.1++(Zk d z.2 (Zk c z.1 n).2.2).2.1,γ e.k=γ0 e.k∧lkE l e.k=some e)→RR v γ l false (Zk c z.1 n).1 c1∧RR v γ l m2 (Zk d z.2 (Zk c z.1 n).2.2).1 c2∧∃ E,F2 (Zya v γ l) ((Zk c z.1 n).2.1++(Zk d z.2 (Zk c z.1 n).2.2).2.1) E∧es.Perm E.flatten:=by
   intro c1 c2 m2 e1 e2 h1 h2 he;obtain ⟨k1,k2,k3,k4,k5,γa,k6⟩:=ia n (x:=(Zk c z.1 n).1) (l2:=(Zk c z.1 n).2.1) (n2:=(Zk c z.1 n).2.2) h1 rfl;obtain ⟨q1,q2,q3,q4,q5,γb,q6⟩:=ib (Zk c z.1 n).2.2 (x:=(Zk d z.2 (Zk c z.1 n).2.2).1) (l2:=(Zk d z.2 (Zk c z.1 n).2.2).2.1) (n2:=(Zk d z.2 (Zk c z.1 n).2.2).2.2) h2 rfl;have hd:∀ e ∈ (Zk d z.2 (Zk c z.1 n).2.2).2.1,e.k ∉ ((Zk c z.1 n).2.1).map En.k:=fun e he hm=>by
    obtain ⟨e',he',hk⟩:=List.mem_map.1 hm;have:=(k2 e' he').2.1;have:=(q2 e he).1;omega
   have up:∀ k,k<(Zk c z.1 n).2.2→k<(Zk d z.2 (Zk c z.1 n).2.2).2.2:=fun k hk=>Nat.lt_of_lt_of_le hk q1;refine ⟨Nat.le_trans k1 q1,fun e he=>?_,ZKj k3 q3 hd,⟨V.ok.mono up k4,q4⟩,k5,fun k=>if k ∈ ((Zk c z.1 n).2.1).map En.k then γa k else γb k,fun γ l hl=>⟨(k6 γ l (Zln hl)).1,(q6 γ l (ZJn hd hl)).1,?_⟩⟩
   ·rcases List.mem_append.1 he with he | he
    ·obtain ⟨r1,r2,r3,r4,r5⟩:=k2 e he;exact ⟨r1,up _ r2,r3,up _ r4,LV.ok.mono up up r5⟩
    ·obtain ⟨r1,r2,r3,r4,r5⟩:=q2 e he;exact ⟨Nat.le_trans k1 r1,r2,Nat.le_trans k1 r3,r4,r5⟩
   ·obtain ⟨E1,g1,g2⟩:=(k6 γ l (Zln hl)).2;obtain ⟨E2,g3,g4⟩:=(q6 γ l (ZJn hd hl)).2;exact ⟨E1++E2,g1.append g3,by rw [he,List.flatten_append];exact g2.append g4⟩
  cases m with
  | false =>
   obtain ⟨c1,c2,e1,e2,rfl,he,h1,h2⟩:=h;obtain ⟨k1,k2,k3,k4,k5,γ0,k6⟩:=step h1 h2 he;exact ⟨k1,k2,k3,k4,rfl,γ0,fun γ l hl=>⟨⟨c1,c2,rfl,(k6 γ l hl).1,(k6 γ l hl).2.1⟩,(k6 γ l hl).2.2⟩⟩
  | true =>
   obtain ⟨c1,c2,e1,e2,rfl,he,h1,h2⟩:=h;obtain ⟨k1,k2,k3,k4,k5,γ0,k6⟩:=step h1 h2 he;exact ⟨k1,k2,k3,k4,rfl,γ0,fun γ l hl=>⟨⟨c1,c2,by rw [Zjh k5],(k6 γ l hl).1,(k6 γ l hl).2.1⟩,(k6 γ l hl).2.2⟩⟩
 | agg c ih =>
  intro m z cs es n x l2 n2 h hi
  cases m with
  | true=>exact h.elim
  | false =>
  have hi:((.agg (Zk c z n).1:V),(Zk c z n).2.1,(Zk c z n).2.2)=(x,l2,n2):=hi
  cases hi
  obtain ⟨k1,k2,k3,k4,k5,γ0,k6⟩:=ih (m:=false) n (x:=(Zk c z n).1) (l2:=(Zk c z n).2.1) (n2:=(Zk c z n).2.2) h rfl;exact ⟨k1,k2,k3,k4,rfl,γ0,k6⟩
 | box ty c ih =>
  intro m z cs es n x l2 n2 h hi
  cases m with
  | true=>exact h.elim
  | false =>
  have hi:((.ptr n 0:V),(⟨n,n,.box ty (Zk c z (n+1)).1⟩ :: (Zk c z (n+1)).2.1:Lo),(Zk c z (n+1)).2.2)=(x,l2,n2):=hi
  cases hi
  obtain ⟨b,c1,e1,rfl,h2,h3,rfl⟩:=h;obtain ⟨k1,k2,k3,k4,k5,γ0,k6⟩:=ih (m:=false) (n+1) (x:=(Zk c z (n+1)).1) (l2:=(Zk c z (n+1)).2.1) (n2:=(Zk c z (n+1)).2.2) h2 rfl;have hd:∀ e ∈ (Zk c z (n+1)).2.1,e.k≠n:=fun e he hk=>by have:=(k2 e he).1;omega
  refine ⟨by omega,fun e he=>?_,List.nodup_cons.2 ⟨fun hm=>?_,k3⟩,(show n<_ by omega),rfl,fun k=>if k=n then .box b else γ0 k,fun γ l hl=>?_⟩
  ·rcases List.mem_cons.1 he with rfl | he
   ·exact ⟨Nat.le_refl _,(show n<_ by omega),Nat.le_refl _,(show n<_ by omega),k4⟩
   ·obtain ⟨r1,r2,r3,r4,r5⟩:=k2 e he;exact ⟨by omega,r2,by omega,r4,r5⟩
  ·obtain ⟨e,he,hk⟩:=List.mem_map.1 hm;exact hd e he hk
  ·obtain ⟨hg,hlk⟩:=hl _ List.mem_cons_self;have hg:γ n = .box b:=by rw [show γ n=_ from hg];exact if_pos rfl
   obtain ⟨q1,E,q2,q3⟩:=k6 γ l fun e he=>by
    obtain ⟨r1,r2⟩:=hl e (List.mem_cons_of_mem _ he);exact ⟨r1.trans (if_neg (hd e he)),r2⟩
   refine ⟨⟨_,rfl,rfl,fun e he=>?_⟩,[_] :: E,⟨⟨b,c1,hg,q1,h3,rfl⟩,q2⟩,by rw [List.flatten_cons];exact List.Perm.cons _ q3⟩;rw [show lkE l n=_ from hlk] at he;cases he;exact ⟨b,hg,rfl⟩
end Go.Eng
namespace Go.Eng
open Go.RowKit
theorem ZCy {v v':Zb} (h:v.le v') {c:CT} {z:c.den} {g:Gh} {es:List Loc} (k:CRL v c z g es):CRL v' c z g es:=by
 cases c with
 | own ty t=>obtain ⟨ob,cap,d,h1,h2,h3⟩:=k;exact ⟨ob,cap,d,h1,ZO h h2,h3⟩
 | mat ty ty2 t=>obtain ⟨ob,cap,rows,es2,h1,h2,h3⟩:=k;exact ⟨ob,cap,rows,es2,h1,ZUc h h2,h3⟩
 | box ty c=>obtain ⟨b,c1,e1,h1,h2,h3,h4⟩:=k;exact ⟨b,c1,e1,h1,ZPn h h2,h3,h4⟩
 | agg c=>cases c with
  | mat ty ty2 t=>obtain ⟨ob,cap,rows,es2,h1,h2,h3⟩:=k;exact ⟨ob,cap,rows,es2,h1,ZUc h h2,h3⟩
  | _=>exact k.elim
 | _=>exact k.elim
def Zyh (p:Nat→Prop) (h:Nat):(c:CT)→c.den→LV→Prop
 | .own ty t,z,L=>L = .own ty t z false
 | .mat ty ty2 t,z,L=>∃ hv,p hv∧L = .mat ty ty2 t z hv
 | .box ty _,_,L=>∃ x,L = .box ty x
 | .agg (.mat ty ty2 t),z,L=>L = .mat ty ty2 t z h
 | _,_,_=>False
theorem Z8v {U:Nat→Prop} {γ1 γ2 γ3:Nat→Gh} {u s1 s2 s3:Nat} {x1 x2 x3:LV} (c1:CE U γ1 γ2 u s1 s2 x1 x2) (c2:CE U γ2 γ3 u s2 s3 x2 x3):CE U γ1 γ3 u s1 s3 x1 x3:=CE.tr c1 c2
theorem ZJo {U U':Nat→Prop} {γ γ1 γ2:Nat→Gh} {u s s':Nat} {x x':LV} (hU:∀ k,U k→U' k) (hg:γ2 u=γ1 u) (c:CE U' γ γ1 u s s' x x'):CE U γ γ2 u s s' x x':=by
  cases x <;> cases x' <;> simp only [CE] at c ⊢
  · rw [hg,c]
  · exact ⟨hg.trans c.1,c.2.1,c.2.2.1,fun h=>c.2.2.2 (hU _ h)⟩
  all_goals first
    | (obtain ⟨ob,cap,rows,a1,a2,a3⟩:=c;exact ⟨ob,cap,rows,a1,hg.trans a2,a3⟩)
    | (obtain ⟨a1,a2,⟨ob,cap,rows,rows',a3,a4,a5⟩,a6⟩:=c
       exact ⟨a1,a2,⟨ob,cap,rows,rows',a3,hg.trans a4,fun h=>a5 (hU _ h)⟩,fun h=>a6 (hU _ h)⟩)
theorem CE_head {U:Nat→Prop} {γ γ':Nat→Gh} {u s s' n0 hh:Nat} {c:CT} {z:c.den} {L L':LV} {v:Zb} {es:List Loc} (hU:∀ k,n0≤k→¬ U k) (hs:n0≤s') (h:Zyh (fun _=>True) hh c z L) (h':Zyh (n0≤·) hh c z L') (hg:γ' u=γ u) (hc:CRL v c z (γ u) es):CE U γ γ' u s s' L L':=by
 cases c with
 | own ty t=>subst h;subst h';exact ⟨hg,rfl,rfl,fun e=>absurd e (hU _ hs)⟩
 | mat ty ty2 t =>
  obtain ⟨hv,_,rfl⟩:=h;obtain ⟨hv',h2,rfl⟩:=h';obtain ⟨ob,cap,rows,es2,h3,h4,h5⟩:=hc;exact ⟨rfl,rfl,⟨ob,cap,rows,rows,h3,hg.trans h3,fun e=>absurd e (hU _ h2)⟩,fun e=>absurd e (hU _ hs)⟩
 | box ty c=>obtain ⟨x,rfl⟩:=h;obtain ⟨x',rfl⟩:=h';exact hg
 | agg c=>cases c with
  | mat ty ty2 t =>
   subst h;subst h';obtain ⟨ob,cap,rows,es2,h3,h4,h5⟩:=hc;exact ⟨rfl,rfl,⟨ob,cap,rows,rows,h3,hg.trans h3,fun _=>⟨rfl,rfl,rfl⟩⟩,fun e=>absurd e (hU _ hs)⟩
  | _=>exact h.elim
 | _=>exact h.elim
section
variable {N:Nat} {G:V→Value→Prop} {w0:Base} {v0:Zb} {U X:Nat→Prop} {f:Fr} {a:Act} {w:World} {n:Nat}
theorem ZIo {ρ:Type} (hn:¬ U n) (hX:X n) {hh:Nat} {c:CT} {u:Nat} (hu:U u) {K:c.den→Ev ρ} {l:Lo} {Post:ρ→Fr→Lo→Prop} {γ:Nat→Gh} {v:Zb} {ℓ ex:List Loc}
  (h:Zm n (ZVc hh c u K) f l Post) (hr:RelX N G w0 v0 U X f l a w γ v ℓ) (hex:St N w0 v0 [] (ex++ℓ) v a w) :
  ∃ z l' γ' v' ℓ' es e0,Zm n (K z) f l' Post∧RelX N G w0 v0 U X f l' a w γ' v' ℓ'∧St N w0 v0 [] (es++(ex++ℓ')) v' a w∧Le U v γ l v' γ' l'∧CRL v' c z (γ u) es∧lkE l u=some e0∧lkE l' u=none∧Zyh (fun _=>True) hh c z e0.x:=by
 cases c with
 | own ty t =>
  simp only [ZVc] at h;obtain ⟨e,he,h⟩:=h;obtain ⟨kk,st,L⟩:=e;have hkk:kk=u:=(Zr he).2;subst hkk;obtain ⟨es,E',h1,_,_,h3,h4⟩:=hr.del he
  cases L with
  | own ty' t' xs fz =>
   cases fz with
   | true=>exact h.elim
   | false =>
    simp only at h;split at h
    ·rename_i ys hty hcast;have hty:=Nat.eq_of_beq_eq_true hty;subst hty;obtain ⟨c3,c4⟩:=Z7 hcast
     cases c3;cases c4
     obtain ⟨ob,cap,d,g1,g2,rfl⟩:=h1;exact ⟨_,_,_,_,_,_,_,h,h4,hex.perm ((List.Perm.append_left ex h3).trans Zxd),Le.era hr kk,⟨ob,cap,d,g1,g2,rfl⟩,he,ZUh (ZEb hr.nd).2,rfl⟩
    ·exact h.elim
  | box _ _=>exact h.elim
  | mid _ _ _ _ _ _=>exact h.elim
  | mat _ _ _ _ _=>exact h.elim
 | mat ty ty2 t =>
  simp only [ZVc] at h;obtain ⟨e,he,h⟩:=h;obtain ⟨kk,st,L⟩:=e;have hkk:kk=u:=(Zr he).2;subst hkk;obtain ⟨es,E',h1,_,_,h3,h4⟩:=hr.del he
  cases L with
  | mat ty' ty2' t' mm hv =>
   simp only at h;split at h
   ·rename_i m' hty hty2 hcast;have hty:=Nat.eq_of_beq_eq_true hty;have hty2:=Nat.eq_of_beq_eq_true hty2;subst hty hty2;obtain ⟨c3,c4⟩:=Z7 hcast
    cases c3;cases c4
    obtain ⟨ob,cap,rows,es2,g1,g2,rfl⟩:=h1;exact ⟨_,_,_,_,_,_,_,h,h4,hex.perm ((List.Perm.append_left ex h3).trans Zxd),Le.era hr kk,⟨ob,cap,rows,es2,g1,g2,rfl⟩,he,ZUh (ZEb hr.nd).2,hv,trivial,rfl⟩
   ·exact h.elim
  | box _ _=>exact h.elim
  | mid _ _ _ _ _ _=>exact h.elim
  | own _ _ _ _=>exact h.elim
 | box ty c =>
  simp only [ZVc] at h;obtain ⟨e,he,h⟩:=h;obtain ⟨kk,st,L⟩:=e;obtain ⟨hm,hkk⟩:=Zr he;have hkk:kk=u:=hkk;subst hkk;obtain ⟨es,E',h1,_,_,h3,h4⟩:=hr.del he
  cases L with
  | box ty' x1 =>
   simp only at h;split at h
   ·rename_i hty;have hty:=Nat.eq_of_beq_eq_true hty;subst hty;obtain ⟨b,c1,g1,g2,g3,rfl⟩:=h1;have hk1:x1.ok U:=(hr.ul _ hm).2.2;obtain ⟨z,l1,γ1,v1,ℓ1,e1,k1,k2,k3,k4,k5,k6⟩:=Z8e hn hX FU (ex:=.box b ty c1 :: ex) h h4 (hex.perm ((List.Perm.append_left ex h3).trans Zxd)) hk1 (Znb (Le.era hr kk) hk1 g2);refine ⟨z,l1,γ1,v1,ℓ1,.box b ty c1 :: e1,_,k1,k2,k3.perm ?_,(Le.era hr kk).trans k4,⟨b,c1,e1,g1,k5,g3,rfl⟩,he,?_,x1,rfl⟩
    ·exact List.perm_middle
    ·cases hx:lkE l1 kk with
     | none=>rfl
     | some e' =>
      obtain ⟨e,he2,_⟩:=k4.l kk e' hu hx;rw [ZUh (ZEb hr.nd).2] at he2;cases he2
   ·exact h.elim
  | own _ _ _ _=>exact h.elim
  | mid _ _ _ _ _ _=>exact h.elim
  | mat _ _ _ _ _=>exact h.elim
 | agg c=>cases c with
  | mat ty ty2 t =>
   simp only [ZVc] at h;obtain ⟨e,he,h⟩:=h;obtain ⟨kk,st,L⟩:=e;have hkk:kk=u:=(Zr he).2;subst hkk;obtain ⟨es,E',h1,_,_,h3,h4⟩:=hr.del he
   cases L with
   | mat ty' ty2' t' mm hv =>
    simp only at h;split at h
    ·rename_i m' hty hty2 hcast hhv;have hty:=Nat.eq_of_beq_eq_true hty;have hty2:=Nat.eq_of_beq_eq_true hty2;have hhv:=Nat.eq_of_beq_eq_true hhv;subst hty hty2 hhv;obtain ⟨c3,c4⟩:=Z7 hcast
     cases c3;cases c4
     obtain ⟨ob,cap,rows,es2,g1,g2,rfl⟩:=h1;exact ⟨_,_,_,_,_,_,_,h,h4,hex.perm ((List.Perm.append_left ex h3).trans Zxd),Le.era hr kk,⟨ob,cap,rows,es2,g1,g2,rfl⟩,he,ZUh (ZEb hr.nd).2,rfl⟩
    ·exact h.elim
   | box _ _=>exact h.elim
   | mid _ _ _ _ _ _=>exact h.elim
   | own _ _ _ _=>exact h.elim
  | _=>simp only [ZVc] at h;exact h.elim
 | _=>simp only [ZVc] at h;exact h.elim
end
theorem Zki:∀ (g:Nat) {x z:V} {off n:Nat} {ag:Bool} {U:Nat→Prop},Zna g x off n ag=some z→x.ok U→z.ok U
 | 0,_,_,_,_,_,_,h,_=>by cases h
 | g+1,x,z,off,n,ag,U,h,hk=>by
  have whole:∀ {y:V},(match Nat.beq off 0,Nat.beq y.size n,eqB y.isAgg ag with
    | true,true,true=>some y
    | _,_,_=>match y with
     | .agg c=>Zna g c off n ag
     | .data t x=>match ZPb t x with
      | some c=>Zna g c off n ag
      | none=>none
     | _=>none)=some z→y.ok U→z.ok U:=by
   intro y hy hk;split at hy
   ·cases hy;exact hk
   ·split at hy
    ·exact Zki g hy hk
    ·split at hy
     ·rename_i he;exact Zki g hy (Zcu he)
     ·cases hy
    ·cases hy
  cases x with
  | nl=>simp only [Zna] at h;cases h
  | cons a b =>
   simp only [Zna] at h;split at h
   ·exact Zki g h hk.1
   ·split at h
    ·exact Zki g h hk.2
    ·cases h
  | data t x=>exact whole (y:=.data t x) h hk
  | agg c=>exact whole (y:=.agg c) h hk
  | nilS=>exact whole (y:=.nilS) h hk
  | own u=>exact whole (y:=.own u) h hk
  | row u i hv cv t r=>exact whole (y:=.row u i hv cv t r) h hk
  | ptr u o=>exact whole (y:=.ptr u o) h hk
  | el u i cv t x o=>exact whole (y:=.el u i cv t x o) h hk
  | rp u i hv cv t r=>exact whole (y:=.rp u i hv cv t r) h hk
  | rel u i j hv cv t r x o=>exact whole (y:=.rel u i j hv cv t r x o) h hk
  | vp t x o=>exact whole (y:=.vp t x o) h hk
  | tup c=>exact whole (y:=.tup c) h hk
  | fn f c=>exact whole (y:=.fn f c) h hk
  | ifc f c=>exact whole (y:=.ifc f c) h hk
  | undef=>exact whole (y:=.undef) h hk
structure H0 (G:V→Value→Prop) (n0:Nat) (f0:Fr) (l0:Lo):Prop where
 f:∀ t e,lkE f0 t=some e→e.x.ok (· < n0)∧e.st<n0
 l:∀ e ∈ l0,e.k<n0∧e.st<n0∧e.x.ok (· < n0) (· < n0)
 nd:(l0.map En.k).Nodup
 g:∀ x y,G x y→x.ok (· < n0)
theorem Rel.h0 {N:Nat} {G:V→Value→Prop} {w0:Base} {v0:Zb} {n:Nat} {f:Fr} {l:Lo} {a:Act} {w:World} (h:Rel N G w0 v0 (· < n) f l a w):H0 G n f l:=by
 obtain ⟨γ,v,ℓ,h⟩:=h;exact ⟨h.uf,h.ul,h.nd,fun x y hg=>(h.gh x y hg).2⟩
theorem hvOf_le {G:V→Value→Prop} {n0:Nat} {f0:Fr} {l0:Lo} (h0:H0 G n0 f0 l0) (u:Nat):ZMa l0 u≤n0:=by
 unfold ZMa;split
 ·rename_i he;exact Nat.le_of_lt (h0.l _ (Zr he).1).2.2
 ·exact Nat.zero_le _
theorem Zus {x:V} {u n:Nat} (h:idV x=some u) (hk:x.ok (· < n)):u<n:=by
 unfold idV at h;split at h
 ·cases h;exact hk
 ·cases h;exact hk
 ·cases h
theorem Zin {G:V→Value→Prop} {n0:Nat} {f0:Fr} {l0:Lo} (h0:H0 G n0 f0 l0):∀ {p:Pl} {u:Nat},Zrc f0 l0 p=some u→u<n0
 | .sl s,u,h=>by
  simp only [Zrc] at h
  split at h
  ·rename_i e he;exact Zus h (h0.f _ _ he).1
  ·cases h
 | .fld p off,u,h=>by
  simp only [Zrc] at h
  split at h
  ·split at h
   ·rename_i he
    split at h
    ·rename_i hg
     have:=(h0.l _ (Zr he).1).2.2
     exact Zus h (Zki FU hg this)
    ·cases h
   ·cases h
  ·cases h
def SRel (a:Act) (v:Zb) (t:Nat) (c:CT) (z:c.den) (es:List Loc):Prop:=∃ cs,a.tmps.getD t undef=c.vl cs∧CR v c false z cs es
def LRel (v:Zb) (γ:Nat→Gh) (l:Lo) (n0:Nat) (f0:Fr) (l0:Lo) (u:Nat) (p:Pl) (c:CT) (z:c.den) (es:List Loc):Prop :=
 Zrc f0 l0 p=some u∧∃ g e0,lkE l u=some e0∧CRL v c z g es∧∀ (γ':Nat→Gh) (st':Nat) (L':LV),γ' u=g→n0≤st'→Zyh (n0≤·) (ZMa l0 u) c z L'→CE (· < n0) γ γ' u e0.st st' e0.x L'
def VRel (a:Act) (v:Zb) (γ:Nat→Gh) (l:Lo) (n0:Nat) (f0:Fr) (l0:Lo):(vs:List Vr)→(ctL (vs.map Vr.ct)).den→List Loc→List Nat→Prop
 | [],_,es,us=>es=[]∧us=[]
 | [.s t c],z,es,us=>us=[]∧SRel a v t c z es
 | [.l p c],z,es,us=>∃ u,us=[u]∧LRel v γ l n0 f0 l0 u p c z es
 | .s t c :: w :: r,z,es,us=>∃ e1 e2,es=e1++e2∧SRel a v t c z.1 e1∧VRel a v γ l n0 f0 l0 (w :: r) z.2 e2 us
 | .l p c :: w :: r,z,es,us=>∃ e1 e2 u us',es=e1++e2∧us=u :: us'∧LRel v γ l n0 f0 l0 u p c z.1 e1∧VRel a v γ l n0 f0 l0 (w :: r) z.2 e2 us'
theorem ZsB {a:Act} {v v':Zb} (h:v.le v') {t:Nat} {c:CT} {z:c.den} {es:List Loc} (k:SRel a v t c z es):SRel a v' t c z es:=by
 obtain ⟨cs,h1,h2⟩:=k;exact ⟨cs,h1,ZPn h h2⟩
theorem ZXz {v v':Zb} (h:v.le v') {γ:Nat→Gh} {l:Lo} {n0:Nat} {f0:Fr} {l0:Lo} {u:Nat} {p:Pl} {c:CT} {z:c.den} {es:List Loc} (k:LRel v γ l n0 f0 l0 u p c z es):LRel v' γ l n0 f0 l0 u p c z es:=by
 obtain ⟨h1,g,e0,h2,h3,h4⟩:=k;exact ⟨h1,g,e0,h2,ZCy h h3,h4⟩
section
variable {N:Nat} {G:V→Value→Prop} {w0:Base} {v0:Zb} {f:Fr} {a:Act} {w:World} {n:Nat}
theorem Zor {ρ:Type} {t:Nat} {c:CT} {K:c.den→Ev ρ} {l:Lo} {Post:ρ→Fr→Lo→Prop} {γ:Nat→Gh} {v:Zb} {ℓ ex:List Loc}
  (h:Zm n (.rdS t fun v=>Z9 FU c v K) f l Post) (hr:RelX N G w0 v0 (· < n) (· < n+1) f l a w γ v ℓ) (hex:St N w0 v0 [] (ex++ℓ) v a w) :
  ∃ z l' γ' v' ℓ' es,Zm n (K z) f l' Post∧RelX N G w0 v0 (· < n) (· < n+1) f l' a w γ' v' ℓ'∧St N w0 v0 [] (es++(ex++ℓ')) v' a w∧Le (· < n) v γ l v' γ' l'∧SRel a v' t c z es:=by
 obtain ⟨e,he,h⟩:=h;have hrv:=hr.fr t e he;obtain ⟨cs,hcs,hy⟩:=Zxb hrv (fun q hq=>by rw [hq] at h;exact ZZA h);obtain ⟨z,l',γ',v',ℓ',es,k1,k2,k3,k4,k5,k6⟩:=Z8e (U:=(· < n)) (X:=(· < n+1)) (Nat.lt_irrefl n) (Nat.lt_succ_self n) FU h hr hex (hr.uf t e he).1 hcs;exact ⟨z,l',γ',v',ℓ',es,k1,k2,k3,k4,cs,by rw [hy,Zjh k6],k5⟩
theorem Zbs {ρ:Type} {u:Nat} {p:Pl} {c:CT} {K:c.den→Ev ρ} {l lE f0l:Lo} {f0:Fr} {n0:Nat} {Post:ρ→Fr→Lo→Prop} {γ γE:Nat→Gh} {v vE:Zb} {ℓ ex:List Loc} (h0:H0 G n0 f0 f0l) (hn0:n0≤n) (hid:Zrc f0 f0l p=some u)
  (h:Zm n (ZVc (ZMa f0l u) c u K) f l Post) (hr:RelX N G w0 v0 (· < n) (· < n+1) f l a w γ v ℓ) (hex:St N w0 v0 [] (ex++ℓ) v a w) (hE:Le (· < n) vE γE lE v γ l) :
  ∃ z l' γ' v' ℓ' es,Zm n (K z) f l' Post∧RelX N G w0 v0 (· < n) (· < n+1) f l' a w γ' v' ℓ'∧St N w0 v0 [] (es++(ex++ℓ')) v' a w∧Le (· < n) v γ l v' γ' l'∧LRel v' γE lE n0 f0 f0l u p c z es∧(∃ e,lkE l u=some e)∧lkE l' u=none:=by
 have hu:u<n:=Nat.lt_of_lt_of_le (Zin h0 hid) hn0;obtain ⟨z,l',γ',v',ℓ',es,e0,k1,k2,k3,k4,k5,k6,k7,k8⟩:=ZIo (U:=(· < n)) (X:=(· < n+1)) (Nat.lt_irrefl n) (Nat.lt_succ_self n) hu h hr hex;obtain ⟨eE,q1,q2⟩:=hE.l u e0 hu k6;refine ⟨z,l',γ',v',ℓ',es,k1,k2,k3,k4,⟨hid,γ u,eE,q1,k5,fun γ2 st' L' hg hs hh=>?_⟩,⟨e0,k6⟩,k7⟩;exact Z8v (ZJo (fun k hk=>Nat.lt_of_lt_of_le hk hn0) rfl q2) (CE_head (n0:=n0) (fun k hk h=>by omega) hs k8 hh hg k5)
theorem Zwm {ρ:Type} {f0:Fr} {l0 lE:Lo} {n0:Nat} {γE:Nat→Gh} {vE:Zb} (h0:H0 G n0 f0 l0) (hn0:n0≤n):∀ {vs:List Vr} {K:(ctL (vs.map Vr.ct)).den→Ev ρ} {l:Lo} {Post:ρ→Fr→Lo→Prop} {γ:Nat→Gh} {v:Zb} {ℓ ex:List Loc},
  Zm n (Zff f0 l0 vs K) f l Post→RelX N G w0 v0 (· < n) (· < n+1) f l a w γ v ℓ→St N w0 v0 [] (ex++ℓ) v a w→Le (· < n) vE γE lE v γ l →
  ∃ z l' γ' v' ℓ' es us,Zm n (K z) f l' Post∧RelX N G w0 v0 (· < n) (· < n+1) f l' a w γ' v' ℓ'∧St N w0 v0 [] (es++(ex++ℓ')) v' a w∧Le (· < n) v γ l v' γ' l'∧VRel a v' γE lE n0 f0 l0 vs z es us∧us.Nodup∧∀ u ∈ us,u<n0∧(∃ e,lkE l u=some e)∧u ∈ Zdd f0 l0 vs
 | [],K,l,Post,γ,v,ℓ,ex,h,hr,hex,hE=>by
  obtain ⟨E,hE',_⟩:=hr.lr
  exact ⟨(),l,γ,v,ℓ,[],[],h,hr,hex,Le.refl hE' (Zb.le_refl _),⟨rfl,rfl⟩,List.nodup_nil,fun u hu=>by cases hu⟩
 | [.s t c],K,l,Post,γ,v,ℓ,ex,h,hr,hex,hE=>by
  obtain ⟨z,l',γ',v',ℓ',es,k1,k2,k3,k4,k5⟩:=Zor h hr hex
  exact ⟨z,l',γ',v',ℓ',es,[],k1,k2,k3,k4,⟨rfl,k5⟩,List.nodup_nil,fun u hu=>by cases hu⟩
 | [.l p c],K,l,Post,γ,v,ℓ,ex,h,hr,hex,hE=>by
  simp only [Zff] at h
  split at h
  ·rename_i u hid
   obtain ⟨z,l',γ',v',ℓ',es,k1,k2,k3,k4,k5,k6,k7⟩:=Zbs h0 hn0 hid h hr hex hE
   refine ⟨z,l',γ',v',ℓ',es,[u],k1,k2,k3,k4,⟨u,rfl,k5⟩,List.nodup_cons.2 ⟨by simp,List.nodup_nil⟩,fun u' hu=>?_⟩
   rcases List.mem_singleton.1 hu with rfl
   exact ⟨Zin h0 hid,k6,by simp only [Zdd,hid];simp⟩
  ·exact h.elim
 | .s t c :: w :: r,K,l,Post,γ,v,ℓ,ex,h,hr,hex,hE=>by
  obtain ⟨z1,l1,γ1,v1,ℓ1,e1,k1,k2,k3,k4,k5⟩:=Zor (K:=fun x=>Zff f0 l0 (w :: r) fun y=>K (x,y)) h hr hex
  obtain ⟨z2,l2,γ2,v2,ℓ2,e2,us,q1,q2,q3,q4,q5,q6,q7⟩:=Zwm h0 hn0 (ex:=e1++ex) k1 k2 (by rw [List.append_assoc];exact k3) (hE.trans k4)
  refine ⟨(z1,z2),l2,γ2,v2,ℓ2,e1++e2,us,q1,q2,q3.perm ?_,k4.trans q4,⟨e1,e2,rfl,ZsB q4.v k5,q5⟩,q6,fun u hu=>?_⟩
  ·rw [List.append_assoc,List.append_assoc];exact Zxd
  ·obtain ⟨g1,⟨e,g2⟩,g3⟩:=q7 u hu
   obtain ⟨e',g4,_⟩:=k4.l u e (show u<_ by omega) g2
   refine ⟨g1,⟨e',g4⟩,?_⟩
   simp only [Zdd]
   split
   ·exact List.mem_cons_of_mem _ g3
   ·exact g3
 | .l p c :: w :: r,K,l,Post,γ,v,ℓ,ex,h,hr,hex,hE=>by
  simp only [Zff] at h
  split at h
  ·rename_i u hid
   obtain ⟨z1,l1,γ1,v1,ℓ1,e1,k1,k2,k3,k4,k5,k6,k7⟩:=Zbs (K:=fun x=>Zff f0 l0 (w :: r) fun y=>K (x,y)) h0 hn0 hid h hr hex hE
   obtain ⟨z2,l2,γ2,v2,ℓ2,e2,us,q1,q2,q3,q4,q5,q6,q7⟩:=Zwm h0 hn0 (ex:=e1++ex) k1 k2 (by rw [List.append_assoc];exact k3) (hE.trans k4)
   refine ⟨(z1,z2),l2,γ2,v2,ℓ2,e1++e2,u :: us,q1,q2,q3.perm ?_,k4.trans q4,⟨e1,e2,u,us,rfl,rfl,ZXz q4.v k5,q5⟩,List.nodup_cons.2 ⟨fun hu=>?_,q6⟩,fun u' hu=>?_⟩
   ·rw [List.append_assoc,List.append_assoc];exact Zxd
   ·obtain ⟨_,⟨e,g2⟩,_⟩:=q7 u hu
    rw [k7] at g2;cases g2
   ·have hg:Zdd f0 l0 (.l p c :: w :: r)=u :: Zdd f0 l0 (w :: r):=by simp only [Zdd,hid]
    rw [hg]
    rcases List.mem_cons.1 hu with rfl | hu
    ·exact ⟨Zin h0 hid,k6,List.mem_cons_self⟩
    ·obtain ⟨g1,⟨e,g2⟩,g3⟩:=q7 u' hu
     obtain ⟨e',g4,_⟩:=k4.l u' e (show u'<_ by omega) g2
     exact ⟨g1,⟨e',g4⟩,List.mem_cons_of_mem _ g3⟩
  ·exact h.elim
end
end Go.Eng
namespace Go.Eng
open Go.RowKit
theorem Zwn {v:Zb} {hh:Nat} {c:CT} {z:c.den} {g:Gh} {es:List Loc} {u n:Nat} {l2:Lo} {n2:Nat} (h:CRL v c z g es) (hu:u<n) (hhn:hh≤n) (hi:Zba hh c z u n=(l2,n2)) :
  n<n2∧(∀ e ∈ l2,(e.k=u∧Zyh (n≤·) hh c z e.x∨n≤e.k∧e.k<n2)∧n≤e.st∧e.st<n2∧e.x.ok (· < n2) (· < n2))∧(l2.map En.k).Nodup ∧
  ∃ γ0:Nat→Gh,γ0 u=g∧∀ (γ:Nat→Gh) (l:Lo),(∀ e ∈ l2,γ e.k=γ0 e.k∧lkE l e.k=some e)→∃ E,F2 (Zya v γ l) l2 E∧es.Perm E.flatten:=by
 cases c with
 | own ty t =>
  cases hi
  obtain ⟨ob,cap,d,rfl,h2,rfl⟩:=h;refine ⟨Nat.lt_succ_self n,fun e he=>?_,List.nodup_cons.2 ⟨by simp,List.nodup_nil⟩,fun _=>.own ob cap,rfl,fun γ l hl=>?_⟩
  ·rcases List.mem_singleton.1 he with rfl;exact ⟨.inl ⟨rfl,rfl⟩,Nat.le_refl _,Nat.lt_succ_self _,trivial⟩
  ·exact ⟨[_],⟨⟨ob,cap,d,(hl _ (List.mem_singleton.2 rfl)).1,h2,rfl⟩,trivial⟩,List.Perm.refl _⟩
 | mat ty ty2 t =>
  cases hi
  obtain ⟨ob,cap,rows,es2,rfl,h2,rfl⟩:=h;refine ⟨Nat.lt_succ_self n,fun e he=>?_,List.nodup_cons.2 ⟨by simp,List.nodup_nil⟩,fun _=>.mat ob cap rows,rfl,fun γ l hl=>?_⟩
  ·rcases List.mem_singleton.1 he with rfl;exact ⟨.inl ⟨rfl,n,Nat.le_refl _,rfl⟩,Nat.le_refl _,Nat.lt_succ_self _,Nat.lt_succ_self n⟩
  ·exact ⟨[_],⟨⟨ob,cap,rows,es2,(hl _ (List.mem_singleton.2 rfl)).1,h2,rfl⟩,trivial⟩,by simp⟩
 | box ty c =>
  have hi:((⟨u,n,.box ty (Zk c z (n+1)).1⟩ :: (Zk c z (n+1)).2.1:Lo),(Zk c z (n+1)).2.2)=(l2,n2):=hi
  cases hi
  obtain ⟨b,c1,e1,rfl,h2,h3,rfl⟩:=h;obtain ⟨k1,k2,k3,k4,k5,γ0,k6⟩:=Zaq c (m:=false) (n+1) (x:=(Zk c z (n+1)).1) (l2:=(Zk c z (n+1)).2.1) (n2:=(Zk c z (n+1)).2.2) h2 rfl;have hd:∀ e ∈ (Zk c z (n+1)).2.1,e.k≠u:=fun e he hk=>by have:=(k2 e he).1;omega
  refine ⟨by omega,fun e he=>?_,List.nodup_cons.2 ⟨fun hm=>?_,k3⟩,fun k=>if k=u then .box b else γ0 k,if_pos rfl,fun γ l hl=>?_⟩
  ·rcases List.mem_cons.1 he with rfl | he
   ·exact ⟨.inl ⟨rfl,_,rfl⟩,Nat.le_refl _,(show n<_ by omega),k4⟩
   ·obtain ⟨r1,r2,r3,r4,r5⟩:=k2 e he;exact ⟨.inr ⟨by omega,r2⟩,by omega,r4,r5⟩
  ·obtain ⟨e,he,hk⟩:=List.mem_map.1 hm;exact hd e he hk
  ·obtain ⟨hg,hlk⟩:=hl _ List.mem_cons_self;have hg:γ u = .box b:=by rw [show γ u=_ from hg];exact if_pos rfl
   obtain ⟨q1,E,q2,q3⟩:=k6 γ l fun e he=>by
    obtain ⟨r1,r2⟩:=hl e (List.mem_cons_of_mem _ he);exact ⟨r1.trans (if_neg (hd e he)),r2⟩
   exact ⟨[_] :: E,⟨⟨b,c1,hg,q1,h3,rfl⟩,q2⟩,by rw [List.flatten_cons];exact List.Perm.cons _ q3⟩
 | agg c=>cases c with
  | mat ty ty2 t =>
   cases hi
   obtain ⟨ob,cap,rows,es2,rfl,h2,rfl⟩:=h;refine ⟨Nat.lt_succ_self n,fun e he=>?_,List.nodup_cons.2 ⟨by simp,List.nodup_nil⟩,fun _=>.mat ob cap rows,rfl,fun γ l hl=>?_⟩
   ·rcases List.mem_singleton.1 he with rfl;exact ⟨.inl ⟨rfl,rfl⟩,Nat.le_refl _,Nat.lt_succ_self _,Nat.lt_succ_of_le hhn⟩
   ·exact ⟨[_],⟨⟨ob,cap,rows,es2,(hl _ (List.mem_singleton.2 rfl)).1,h2,rfl⟩,trivial⟩,by simp⟩
  | _=>exact h.elim
 | _=>exact h.elim
structure IV (a:Act) (v:Zb) (γE:Nat→Gh) (lE:Lo) (n0:Nat) (us:List Nat) (n1 m:Nat) (f':Fr) (l':Lo) (es:List Loc) (γ0:Nat→Gh):Prop where
 le:n1≤m
 l:∀ e ∈ l',(e.k ∈ us∨n1≤e.k∧e.k<m)∧n1≤e.st∧e.st<m∧e.x.ok (· < m) (· < m)
 nd:(l'.map En.k).Nodup
 f:∀ e ∈ f',e.x.ok (· < m)∧n1≤e.st∧e.st<m
 r:∀ (γ:Nat→Gh) (l:Lo),(∀ e ∈ l',γ e.k=γ0 e.k∧lkE l e.k=some e)→(∀ e ∈ f',RV v γ l e.x (a.tmps.getD e.k undef))∧(∃ E,F2 (Zya v γ l) l' E∧es.Perm E.flatten)∧∀ e ∈ l',e.k<n0→∃ e0,lkE lE e.k=some e0∧CE (· < n0) γE γ e.k e0.st e.st e0.x e.x
section
variable {a:Act} {v:Zb} {γE:Nat→Gh} {lE:Lo} {n0:Nat}
theorem IV.none {n1:Nat}:IV a v γE lE n0 [] n1 n1 [] [] [] fun _=>.box 0 :=
 ⟨Nat.le_refl _,fun e he=>(by cases he),List.nodup_nil,fun e he=>(by cases he),fun γ l _=>⟨fun e he=>(by cases he),⟨[],trivial,List.Perm.refl _⟩,fun e he=>(by cases he)⟩⟩
theorem IV.add {us1 us2:List Nat} {n1 m1 m:Nat} {f1 f2:Fr} {l1 l2:Lo} {es1 es2:List Loc} {γ1 γ2:Nat→Gh} (h:IV a v γE lE n0 us1 n1 m1 f1 l1 es1 γ1) (k:IV a v γE lE n0 us2 m1 m f2 l2 es2 γ2) (hd:∀ u ∈ us2,u ∉ us1) (hu:∀ u ∈ us1++us2,u<n1) :
  IV a v γE lE n0 (us1++us2) n1 m (f1++f2) (l1++l2) (es1++es2) fun k=>if k ∈ l1.map En.k then γ1 k else γ2 k:=by
 have hd':∀ e ∈ l2,e.k ∉ l1.map En.k:=fun e he hm=>by
  obtain ⟨e',he',hk⟩:=List.mem_map.1 hm;have h1:=(h.l e' he').1;have h2:=(k.l e he).1;have hle:=h.le;rw [hk] at h1;rcases h1 with h1 | h1 <;> rcases h2 with h2 | h2
  ·exact hd _ h2 h1
  ·have:=hu _ (List.mem_append_left _ h1);omega
  ·have:=hu _ (List.mem_append_right _ h2);omega
  ·omega
 have up:∀ j,j<m1→j<m:=fun j hj=>Nat.lt_of_lt_of_le hj k.le;refine ⟨Nat.le_trans h.le k.le,fun e he=>?_,ZKj h.nd k.nd hd',fun e he=>?_,fun γ l hl=>?_⟩
 ·rcases List.mem_append.1 he with he | he
  ·obtain ⟨r1,r2,r3,r4⟩:=h.l e he;refine ⟨?_,r2,up _ r3,LV.ok.mono up up r4⟩;rcases r1 with r1 | r1
   ·exact .inl (List.mem_append_left _ r1)
   ·exact .inr ⟨r1.1,up _ r1.2⟩
  ·obtain ⟨r1,r2,r3,r4⟩:=k.l e he;have:=h.le;refine ⟨?_,by omega,r3,r4⟩;rcases r1 with r1 | r1
   ·exact .inl (List.mem_append_right _ r1)
   ·exact .inr ⟨by omega,r1.2⟩
 ·rcases List.mem_append.1 he with he | he
  ·obtain ⟨r1,r2,r3⟩:=h.f e he;exact ⟨V.ok.mono up r1,r2,up _ r3⟩
  ·obtain ⟨r1,r2,r3⟩:=k.f e he;have:=h.le;exact ⟨r1,by omega,r3⟩
 ·obtain ⟨p1,⟨E1,p2,p3⟩,p4⟩:=h.r γ l (Zln hl);obtain ⟨q1,⟨E2,q2,q3⟩,q4⟩:=k.r γ l (ZJn hd' hl);refine ⟨fun e he=>?_,⟨E1++E2,p2.append q2,by rw [List.flatten_append];exact p3.append q3⟩,fun e he=>?_⟩
  ·rcases List.mem_append.1 he with he | he
   ·exact p1 e he
   ·exact q1 e he
  ·rcases List.mem_append.1 he with he | he
   ·exact p4 e he
   ·exact q4 e he
theorem IV.s {t n1:Nat} {c:CT} {z:c.den} {es:List Loc} (h:SRel a v t c z es) (hn:n0≤n1):∃ γ0,IV a v γE lE n0 [] n1 (Zk c z (n1+1)).2.2 [⟨t,n1,(Zk c z (n1+1)).1⟩] (Zk c z (n1+1)).2.1 es γ0:=by
 obtain ⟨cs,h1,h2⟩:=h;obtain ⟨k1,k2,k3,k4,k5,γ0,k6⟩:=Zaq c (n1+1) (x:=(Zk c z (n1+1)).1) (l2:=(Zk c z (n1+1)).2.1) (n2:=(Zk c z (n1+1)).2.2) h2 rfl;refine ⟨γ0,by omega,fun e he=>?_,k3,fun e he=>?_,fun γ l hl=>⟨fun e he=>?_,(k6 γ l hl).2,fun e he hk=>?_⟩⟩
 ·obtain ⟨r1,r2,r3,r4,r5⟩:=k2 e he;exact ⟨.inr ⟨by omega,r2⟩,by omega,r4,r5⟩
 ·rcases List.mem_singleton.1 he with rfl;exact ⟨k4,Nat.le_refl _,(show n1<_ by omega)⟩
 ·rcases List.mem_singleton.1 he with rfl;have hq:=(k6 γ l hl).1;have:=Z2b hq (fun c e=>by rw [e] at hq;exact hq);show RV v γ l (Zk c z (n1+1)).1 (a.tmps.getD t undef);rw [h1,← Zjh k5];exact this
 ·have:=(k2 e he).1;omega
theorem IV.p {u n1:Nat} {p:Pl} {c:CT} {z:c.den} {es:List Loc} {f0:Fr} {l0:Lo} (h:LRel v γE lE n0 f0 l0 u p c z es) (hu:u<n1) (hn:n0≤n1) (hv:ZMa l0 u≤n1):∃ γ0,IV a v γE lE n0 [u] n1 (Zba (ZMa l0 u) c z u n1).2 [] (Zba (ZMa l0 u) c z u n1).1 es γ0:=by
 obtain ⟨_,g,e0,h2,h3,h4⟩:=h;obtain ⟨k1,k2,k3,γ0,k4,k5⟩:=Zwn h3 hu hv (l2:=(Zba (ZMa l0 u) c z u n1).1) (n2:=(Zba (ZMa l0 u) c z u n1).2) rfl;refine ⟨γ0,by omega,fun e he=>?_,k3,fun e he=>(by cases he),fun γ l hl=>⟨fun e he=>(by cases he),k5 γ l hl,fun e he hk=>?_⟩⟩
 ·obtain ⟨r1,r2,r3,r4⟩:=k2 e he;refine ⟨?_,r2,r3,r4⟩;rcases r1 with r1 | r1
  ·exact .inl (List.mem_singleton.2 r1.1)
  ·exact .inr r1
 ·obtain ⟨r1,r2,_,_⟩:=k2 e he;rcases r1 with ⟨r1,r5⟩ | r1
  ·refine ⟨e0,by rw [r1];exact h2,?_⟩;rw [r1];have:Zyh (n0≤·) (ZMa l0 u) c z e.x:=by
    cases c with
    | mat ty ty2 t=>obtain ⟨hv,q1,q2⟩:=r5;exact ⟨hv,Nat.le_trans hn q1,q2⟩
    | own ty t=>exact r5
    | box ty t=>exact r5
    | agg c=>cases c <;> first | exact r5 | exact r5.elim
    | _=>exact r5.elim
   refine h4 γ e.st e.x ?_ (by omega) this;have:=(hl e he).1;rw [r1] at this;rw [this,k4]
  ·omega
theorem Zpo {f0:Fr} {l0:Lo}:∀ {vs:List Vr} {z:(ctL (vs.map Vr.ct)).den} {es:List Loc} {us:List Nat} {n1:Nat},VRel a v γE lE n0 f0 l0 vs z es us→us.Nodup→(∀ u ∈ us,u<n1)→n0≤n1→(∀ u,ZMa l0 u≤n0) →
  ∃ γ0,IV a v γE lE n0 us n1 (ZFb f0 l0 vs z n1).2.2 (ZFb f0 l0 vs z n1).1 (ZFb f0 l0 vs z n1).2.1 es γ0
 | [],z,es,us,n1,h,hn,hu,h0,hv=>by
  obtain ⟨rfl,rfl⟩:=h
  exact ⟨_,IV.none⟩
 | [.s t c],z,es,us,n1,h,hn,hu,h0,hv=>by
  obtain ⟨rfl,h⟩:=h
  exact IV.s h h0
 | [.l p c],z,es,us,n1,h,hn,hu,h0,hv=>by
  obtain ⟨u,rfl,h⟩:=h
  have e:ZFb f0 l0 [.l p c] z n1=([],(Zba (ZMa l0 u) c z u n1).1,(Zba (ZMa l0 u) c z u n1).2):=by simp only [ZFb,h.1]
  rw [e]
  exact IV.p h (hu u (by simp)) h0 (Nat.le_trans (hv u) h0)
 | .s t c :: w :: r,z,es,us,n1,h,hn,hu,h0,hv=>by
  obtain ⟨e1,e2,rfl,h1,h2⟩:=h
  obtain ⟨γ1,k1⟩:=IV.s (a:=a) (v:=v) (γE:=γE) (lE:=lE) h1 h0
  have hle:=k1.le
  obtain ⟨γ2,k2⟩:=Zpo (vs:=w :: r) (n1:=(Zk c z.1 (n1+1)).2.2) h2 hn (fun u h=>Nat.lt_of_lt_of_le (hu u h) hle) (Nat.le_trans h0 hle) hv
  exact ⟨_,k1.add k2 (fun u _ h=>by cases h) hu⟩
 | .l p c :: w :: r,z,es,us,n1,h,hn,hu,h0,hv=>by
  obtain ⟨e1,e2,u,us',rfl,rfl,h1,h2⟩:=h
  obtain ⟨γ1,k1⟩:=IV.p (a:=a) (v:=v) (γE:=γE) (lE:=lE) h1 (hu u (by simp)) h0 (Nat.le_trans (hv u) h0)
  have hle:=k1.le
  obtain ⟨n3,n4⟩:=List.nodup_cons.1 hn
  obtain ⟨γ2,k2⟩:=Zpo (vs:=w :: r) (n1:=(Zba (ZMa l0 u) c z.1 u n1).2) h2 n4 (fun u' h=>Nat.lt_of_lt_of_le (hu u' (by simp [h])) hle) (Nat.le_trans h0 hle) hv
  have e:ZFb f0 l0 (.l p c :: w :: r) z n1=((ZFb f0 l0 (w :: r) z.2 (Zba (ZMa l0 u) c z.1 u n1).2).1,(Zba (ZMa l0 u) c z.1 u n1).1++(ZFb f0 l0 (w :: r) z.2 (Zba (ZMa l0 u) c z.1 u n1).2).2.1,(ZFb f0 l0 (w :: r) z.2 (Zba (ZMa l0 u) c z.1 u n1).2).2.2):=by simp only [ZFb,h1.1]
  rw [e]
  refine ⟨_,k1.add k2 (fun u' h hm=>?_) hu⟩
  rcases List.mem_singleton.1 hm with rfl
  exact n3 h
end
theorem F2.impm {α β:Type} {R R':α→β→Prop}:∀ {l:List α} {m:List β},(∀ a ∈ l,∀ b ∈ m,R a b→R' a b)→F2 R l m→F2 R' l m
 | [],[],_,_=>trivial
 | a :: l,b :: m,h,k=>⟨h a (by simp) b (by simp) k.1,F2.impm (fun x hx y hy=>h x (by simp [hx]) y (by simp [hy])) k.2⟩
 | [],_ :: _,_,k=>k.elim
 | _ :: _,[],_,k=>k.elim
theorem Zrt {R:En LV→List Loc→Prop}:∀ {s l:Lo} {E:List (List Loc)},(s.map En.k).Nodup→(∀ e ∈ s,lkE l e.k=some e)→(l.map En.k).Nodup→F2 R l E→∃ Es rest,F2 R s Es∧E.flatten.Perm (Es.flatten++rest)
 | [],l,E,_,_,_,_=>⟨[],E.flatten,trivial,List.Perm.refl _⟩
 | e :: s,l,E,hn,hs,hl,hE=>by
  simp only [List.map_cons,List.nodup_cons] at hn
  obtain ⟨es,E',h1,h2,h3⟩:=Zeg hE (hs e (by simp))
  obtain ⟨Es,rest,k1,k2⟩:=Zrt (s:=s) (l:=era l e.k) hn.2 (fun e2 he=>by
   rw [ZXb hl,if_neg (fun h=>hn.1 (by rw [h];exact List.mem_map.2 ⟨e2,he,rfl⟩))]
   exact hs e2 (by simp [he])) (ZEb hl).1 h2
  exact ⟨es :: Es,rest,⟨h1,k1⟩,h3.trans (by rw [List.flatten_cons,List.append_assoc];exact List.Perm.append_left _ k2)⟩
theorem Zeo {β:Type} {l l':List (En β)} {k:Nat}:lkE (l++l') k=(lkE l k).or (lkE l' k):=by
 induction l with
 | nil=>rfl
 | cons p r ih =>
  rw [List.cons_append,ZT,ZT];split
  ·rfl
  ·exact ih
theorem Zyr {n:Nat} {l:Lo}:∀ {s:Lo},ZVi n l s=true→∀ e ∈ s,∃ e',lkE l e.k=some e'∧e'.st<n
 | [],_,_,h=>by cases h
 | e :: s,h,e1,he1=>by
  simp only [ZVi] at h
  split at h
  ·rename_i e' he'
   split at h
   ·cases h
   ·rename_i hb
    rcases List.mem_cons.1 he1 with rfl | he1
    ·exact ⟨e',he',Nat.lt_of_not_le fun hle=>by rw [Nat.ble_eq_true_of_le hle] at hb;cases hb⟩
    ·exact Zyr h e1 he1
  ·cases h
theorem Zqu {n:Nat} {f:Fr}:∀ {s:List Nat},Zjj n f s=true→∀ t ∈ s,∃ e',lkE f t=some e'∧e'.st<n
 | [],_,_,h=>by cases h
 | t :: s,h,t1,ht1=>by
  simp only [Zjj] at h
  split at h
  ·rename_i e' he'
   split at h
   ·cases h
   ·rename_i hb
    rcases List.mem_cons.1 ht1 with rfl | ht1
    ·exact ⟨e',he',Nat.lt_of_not_le fun hle=>by rw [Nat.ble_eq_true_of_le hle] at hb;cases hb⟩
    ·exact Zqu h t1 ht1
  ·cases h
theorem Z0o {f:Fr}:∀ {ks:List Nat} {t:Nat} {e:En V},lkE (Z0c f ks) t=some e→lkE f t=some e∧t ∈ ks
 | [],_,_,h=>by cases h
 | k :: ks,t,e,h=>by
  simp only [Z0c] at h
  split at h
  ·rename_i e' he'
   rw [ZT] at h
   split at h
   ·rename_i hk
    cases h
    have:=(Zr he').2
    rw [this] at hk;subst hk
    exact ⟨he',by simp⟩
   ·have:=Z0o h;exact ⟨this.1,by simp [this.2]⟩
  ·have:=Z0o h;exact ⟨this.1,by simp [this.2]⟩
theorem Zhw {l:List Nat} {t:Nat}:Zod l t=true↔t ∈ l:=by
 induction l with
 | nil=>simp [Zod]
 | cons k r ih =>
  simp only [Zod]
  cases hb:Nat.beq k t
  ·simp only [List.mem_cons];rw [ih];have:¬ t=k:=fun e=>by rw [e] at hb;simp at hb
   simp [this]
  ·have:=Nat.eq_of_beq_eq_true hb;simp [this]
theorem ZAr {b:Nat} {rs us:List Nat}:∀ {l:Lo},(ZYd b rs us l).Sublist l∧∀ e ∈ ZYd b rs us l,e.k ∉ us
 | []=>⟨List.Sublist.slnil,fun e h=>by cases h⟩
 | e :: r=>by
  obtain ⟨h1,h2⟩:=ZAr (b:=b) (rs:=rs) (us:=us) (l:=r)
  simp only [ZYd]
  split
  ·exact ⟨h1.cons e,h2⟩
  ·rename_i hm
   have hm:e.k ∉ us:=fun h=>by rw [Zhw.2 h] at hm;cases hm
   have both:(e :: ZYd b rs us r).Sublist (e :: r)∧∀ e' ∈ e :: ZYd b rs us r,e'.k ∉ us:=⟨h1.cons_cons e,fun e' he'=>by
    rcases List.mem_cons.1 he' with rfl | he'
    ·exact hm
    ·exact h2 e' he'⟩
   split
   ·exact both
   ·split
    ·exact both
    ·exact ⟨h1.cons e,h2⟩
end Go.Eng
namespace Go.Eng
open Go.RowKit
section
variable {N:Nat} {G:V→Value→Prop} {w0:Base} {v0:Zb} {a:Act} {w:World}
theorem ZeB {n0 n m:Nat} {f f0 fI:Fr} {l l0 l2 s lN:Lo} {γ γ2 γ0:Nat→Gh} {v v2:Zb} {ℓ ℓ2 es:List Loc} {us ks:List Nat}
  (h0:H0 G n0 f0 l0) (hn:n0≤n) (hr:RelX N G w0 v0 (· < n) (· < n) f l a w γ v ℓ) (hr2:RelX N G w0 v0 (· < n) (· < n+1) f l2 a w γ2 v2 ℓ2) (hst:St N w0 v0 [] (es++ℓ2) v2 a w) (hle:Le (· < n) v γ l v2 γ2 l2)
  (ho1:Old n f l f l2) (ho:Old n0 f0 l0 f l) (hs:s.Sublist l0) (hsu:∀ e ∈ s,e.k ∉ us) (hss:ZVi n0 l2 s=true) (hus:∀ u ∈ us,u<n0) (hI:IV a v2 γ l n0 us n0 m fI lN es γ0) (hks:Zjj n0 f ks=true) :
  ∃ γN ℓN,(∀ e ∈ lN,γN e.k=γ0 e.k∧lkE (lN++s) e.k=some e)∧RelX N G w0 v0 (· < m) (· < m) (fI++Z0c f0 ks) (lN++s) a w γN v2 ℓN∧Old n0 f0 l0 (fI++Z0c f0 ks) (lN++s):=by
 have hsm:∀ e ∈ s,e ∈ l0:=fun e he=>hs.subset he;have hsn:(s.map En.k).Nodup:=(hs.map _).nodup h0.nd;have hs2:∀ e ∈ s,lkE l2 e.k=some e∧lkE l e.k=some e:=fun e he=>by
  obtain ⟨e',h1,h2⟩:=Zyr hss e he;have h3:=ho1.2 e.k e' h1 (Nat.lt_of_lt_of_le h2 hn);have h4:=ho.2 e.k e' h3 h2;rw [Z0d h0.nd (hsm e he)] at h4
  cases h4
  exact ⟨h1,h3⟩
 have hdis:∀ e ∈ s,e.k ∉ lN.map En.k:=fun e he hm=>by
  obtain ⟨e',he',hk⟩:=List.mem_map.1 hm;have h1:=(h0.l e (hsm e he)).1;rcases (hI.l e' he').1 with h2 | h2
  ·exact hsu e he (hk ▸ h2)
  ·omega
 have hnd:((lN++s).map En.k).Nodup:=ZKj hI.nd hsn hdis
 let γN:Nat→Gh:=fun k=>if k ∈ lN.map En.k then γ0 k else γ2 k
 have hγ:∀ e ∈ lN,γN e.k=γ0 e.k∧lkE (lN++s) e.k=some e:=fun e he =>
  ⟨if_pos (List.mem_map.2 ⟨e,he,rfl⟩),Z0d hnd (List.mem_append_left _ he)⟩
 have hγs:∀ e ∈ s,γN e.k=γ2 e.k:=fun e he=>if_neg (hdis e he);obtain ⟨r1,⟨EN,r2,r3⟩,r4⟩:=hI.r γN (lN++s) hγ;obtain ⟨E,hE,hpE⟩:=hr.lr;have leN:Le (· < n0) v γ l v2 γN (lN++s):=⟨hle.v,fun u e' hu he'=>by
  have hmem:=(Zr he').1;have hk:=(Zr he').2;rcases List.mem_append.1 hmem with hm | hm
  ·obtain ⟨e0,q1,q2⟩:=r4 e' hm (by rw [hk];exact hu);rw [hk] at q1 q2;exact ⟨e0,q1,q2⟩
  ·obtain ⟨q1,q2⟩:=hs2 e' hm;rw [hk] at q1 q2;obtain ⟨e,q3,q4⟩:=hle.l u e' (Nat.lt_of_lt_of_le hu hn) q1;refine ⟨e,q3,ZJo (fun k hk=>Nat.lt_of_lt_of_le hk hn) ?_ q4⟩;have:=hγs e' hm;rw [hk] at this;exact this⟩
 have up:∀ k,k<n0→k<m:=fun k hk=>Nat.lt_of_lt_of_le hk hI.le;obtain ⟨E2,hE2,hpE2⟩:=hr2.lr;obtain ⟨Es,rest,t1,t2⟩:=Zrt hsn (fun e he=>(hs2 e he).1) hr2.nd hE2;have hS:F2 (Zya v2 γN (lN++s)) s Es:=t1.impm fun e he es' hes hR=>by
  have hin:∀ x ∈ es',x ∈ ℓ2:=fun x hx=>hpE2.mem_iff.2 (t2.mem_iff.2 (List.mem_append_left _ (List.mem_flatten.2 ⟨es',hes,hx⟩)));have hg:=hγs e he;obtain ⟨q1,q2⟩:=hs2 e he;have hU:=h0.l e (hsm e he);obtain ⟨eE,q3,q4⟩:=hle.l e.k e (Nat.lt_of_lt_of_le hU.1 hn) q1;rw [q2] at q3;cases q3;obtain ⟨kk,st,L⟩:=e
  cases L with
  | box ty c =>
   obtain ⟨b,cs,g1,g2,g3,rfl⟩:=hR;obtain ⟨es0,hes0⟩:=Zif hE (Zr q2).1;obtain ⟨jj,es1,k1,k2⟩:=hr.loc q2;obtain ⟨b0,cs0,d1,d2,d3,rfl⟩:=k1;have g1:γ2 kk = .box b:=g1;have d1:γ kk = .box b0:=d1;have q4:γ2 kk=γ kk:=q4;have hb:b=b0:=by rw [g1,d1] at q4;cases q4;rfl
   subst hb;obtain ⟨i,hi⟩:=k2 _ (List.mem_singleton.2 rfl);have m1:=(hr.st.loc _ (List.mem_of_getElem? hi)).1;have m2:=(hr2.st.loc _ (hin _ (List.mem_singleton.2 rfl))).1;have m1:w.heap[b]? = some (.cells cs0.toArray ty (0,0)):=m1;have m2:w.heap[b]? = some (.cells cs.toArray ty (0,0)):=m2;rw [m1] at m2;have hcs:cs0=cs:=by
    have:=Option.some.inj m2
    injection this with h1 _ _
    have:=congrArg Array.toList h1
    simpa using this
   subst hcs;exact ⟨b,cs0,by rw [show γN kk=γ2 kk from hg];exact g1,Znb leN hU.2.2 d2,d3,rfl⟩
  | own ty t xs fz =>
   cases fz with
   | false=>obtain ⟨ob,cap,d,g1,g2⟩:=hR;exact ⟨ob,cap,d,by rw [show γN kk=γ2 kk from hg];exact g1,g2⟩
   | true=>obtain ⟨ob,cap,g1,g2⟩:=hR;exact ⟨ob,cap,by rw [show γN kk=γ2 kk from hg];exact g1,g2⟩
  | mat ty ty2 t mm hv=>obtain ⟨ob,cap,rows,es2,g1,g2⟩:=hR;exact ⟨ob,cap,rows,es2,by rw [show γN kk=γ2 kk from hg];exact g1,g2⟩
  | mid ty ty2 t mm hv s=>obtain ⟨ob,cap,rows,es2,hs,es3,g1,g2⟩:=hR;exact ⟨ob,cap,rows,es2,hs,es3,by rw [show γN kk=γ2 kk from hg];exact g1,g2⟩
 have hstN:St N w0 v0 [] (EN.flatten++Es.flatten) v2 a w:=by
  have h1:=hst.perm ((List.Perm.append r3 (hpE2.trans t2)));refine h1.drop ?_;rw [← List.append_assoc];exact List.sublist_append_left _ _
 have hkeep:∀ t e,lkE (Z0c f0 ks) t=some e→lkE f t=some e∧lkE f0 t=some e:=fun t e he=>by
  obtain ⟨q1,q2⟩:=Z0o he;obtain ⟨e',q3,q4⟩:=Zqu hks t q2;have:=ho.1 t e' q3 q4;rw [q1] at this;cases this;exact ⟨q3,q1⟩
 refine ⟨γN,_,hγ,⟨hstN,fun t e he=>?_,⟨EN++Es,r2.append hS,by rw [List.flatten_append]⟩,hnd,fun t e he=>?_,fun e he=>?_,fun x y hg=>?_⟩,fun t e he hst=>?_,fun u e he hst=>?_⟩
 ·rw [Zeo] at he
  cases hx:lkE fI t with
  | some e1 =>
   rw [hx] at he;cases he;obtain ⟨q1,q2⟩:=Zr hx;rw [← q2];exact r1 e q1
  | none =>
   rw [hx] at he;obtain ⟨q1,q2⟩:=hkeep t e he;exact Zwb leN (h0.f t e q2).1 (hr.fr t e q1)
 ·rw [Zeo] at he
  cases hx:lkE fI t with
  | some e1 =>
   rw [hx] at he;cases he;obtain ⟨q1,q2,q3⟩:=hI.f e (Zr hx).1;exact ⟨q1,q3⟩
  | none =>
   rw [hx] at he;obtain ⟨q1,q2⟩:=hkeep t e he;obtain ⟨q3,q4⟩:=h0.f t e q2;exact ⟨V.ok.mono up q3,up _ q4⟩
 ·rcases List.mem_append.1 he with he | he
  ·obtain ⟨q1,q2,q3,q4⟩:=hI.l e he;refine ⟨?_,q3,q4⟩;rcases q1 with q1 | q1
   ·exact up _ (hus _ q1)
   ·exact q1.2
  ·obtain ⟨q1,q2,q3⟩:=h0.l e (hsm e he);exact ⟨up _ q1,up _ q2,LV.ok.mono up up q3⟩
 ·exact ⟨Zwb leN (h0.g x y hg) (hr.gh x y hg).1,V.ok.mono up (h0.g x y hg)⟩
 ·rw [Zeo] at he
  cases hx:lkE fI t with
  | some e1 =>
   rw [hx] at he;cases he;have:=(hI.f e (Zr hx).1).2.1;omega
  | none =>
   rw [hx] at he;exact (hkeep t e he).2
 ·rcases List.mem_append.1 (Zr he).1 with hm | hm
  ·have:=(hI.l e hm).2.1;omega
  ·have:=Z0d h0.nd (hsm e hm);rw [(Zr he).2] at this;exact this
def bF (f0:Fr) (l0:Lo) (j:Js) (x:jT j) (n:Nat):Fr:=(ZFb f0 l0 j.vs x n).1++Z0c f0 j.keep
def bL (b:Nat) (f0:Fr) (l0:Lo) (j:Js) (x:jT j) (n:Nat):Lo:=(ZFb f0 l0 j.vs x n).2.1++stayL b f0 l0 j j.vs
def bN (f0:Fr) (l0:Lo) (j:Js) (x:jT j) (n:Nat):Nat:=(ZFb f0 l0 j.vs x n).2.2
theorem Z6j {α:Type} {b:Nat} {f0:Fr} {l0:Lo} {j:Js} {x:jT j} {n:Nat} {K:Fr→Lo→Nat→α}:build b f0 l0 j x n K=K (bF f0 l0 j x n) (bL b f0 l0 j x n) (bN f0 l0 j x n):=rfl
theorem ZIl {α:Type} {r:α} {b n0 n:Nat} {f0 f:Fr} {l0 l:Lo} {j:Js} {K:jT j→Option α} (h0:H0 G n0 f0 l0) (hn:n0≤n) (hr:Rel N G w0 v0 (· < n) f l a w) (ho:Old n0 f0 l0 f l) (h:Zne b n0 n f0 l0 f l j K=some r) :
  ∃ x,K x=some r∧n0≤bN f0 l0 j x n0∧Rel N G w0 v0 (· < bN f0 l0 j x n0) (bF f0 l0 j x n0) (bL b f0 l0 j x n0) a w∧Old n0 f0 l0 (bF f0 l0 j x n0) (bL b f0 l0 j x n0):=by
 obtain ⟨γ,v,ℓ,hr⟩:=hr;have h1:=Z6h (Nat.le_refl n) Old.refl hr.nd (ZMh h);have hr':RelX N G w0 v0 (· < n) (· < n+1) f l a w γ v ℓ:=hr.mono (fun _ h=>h) fun k h=>(show k<n+1 by have:k<n:=h;omega);obtain ⟨E,hE,_⟩:=hr.lr;obtain ⟨x,l2,γ2,v2,ℓ2,es,us,k1,k2,k3,k4,k5,k6,k7⟩:=Zwm (ex:=[]) h0 hn h1 hr' hr.st (Le.refl hE (Zb.le_refl _));obtain ⟨q1,q2⟩:=k1;split at q1
 ·rename_i hS hL;obtain ⟨γ0,hI⟩:=Zpo k5 k6 (fun u hu=>(k7 u hu).1) (Nat.le_refl n0) (hvOf_le h0);have hsub:=ZAr (b:=b) (rs:=Zsi l0 50 (idsF (Z0c f0 j.keep)) []) (us:=gone f0 l0 j.drop j.vs) (l:=l0);obtain ⟨γN,ℓN,_,p2,p3⟩:=ZeB h0 hn hr k2 k3 k4 q2 ho hsub.1 (fun e he hu=>hsub.2 e he (List.mem_append_right _ (k7 _ hu).2.2)) hL (fun u hu=>(k7 u hu).1) hI hS;exact ⟨x,q1,hI.le,⟨γN,v2,ℓN,p2⟩,p3⟩
 ·cases q1
def Ress (P:Program) (tmps:Array Value) (w:World) (rs:List ResultVar) (vals:List Value):Prop:=F2 (fun r y=>Res P tmps w r y) rs vals
def RetR (P:Program) (rs:List ResultVar) (N:Nat) (G:V→Value→Prop) (w0:Base) (v0:Zb) (c:V) (l:Lo) (n:Nat) (a:Act) (w:World):Prop :=
 ∃ γ v ℓ vals,RelX N G w0 v0 (· < n) (· < n) [] l a w γ v ℓ∧RR v γ l true c vals∧c.ok (· < n)∧Ress P a.tmps w rs vals
def Zgc (m:Nat) (l l':Lo):Prop:=∀ u e,lkE l' u=some e→e.st<m→lkE l u=some e
theorem Old.l {m:Nat} {f f':Fr} {l l':Lo} (h:Old m f l f' l'):Zgc m l l':=h.2
theorem Zgc.trans {m m':Nat} {l l' l'':Lo} (h:Zgc m l l') (k:Zgc m' l' l'') (hm:m≤m'):Zgc m l l'':=fun u e he hs=>h u e (k u e he (by omega)) hs
theorem Zgc.mono {m m':Nat} {l l':Lo} (h:Zgc m' l l') (hm:m≤m'):Zgc m l l':=fun u e he hs=>h u e he (by omega)
end
theorem Zmc {v:Zb} {γ:Nat→Gh} {l:Lo} {U:Nat→Prop} {n:Nat}:∀ {c:V} {k t:Nat} {e:En V} {vals:List Value},RR v γ l true c vals→c.ok U→lkE (Zob n k c) t=some e→∃ y,k≤t∧vals[t-k]? = some y∧RV v γ l e.x y∧e.x.ok U∧e.st=n:=by
 intro c
 induction c with
 | cons a b ia ib =>
  intro k t e vals h hk he;obtain ⟨cs,xs,rfl,h1,h2⟩:=h;simp only [Zob] at he;rw [ZT] at he;split at he
  ·rename_i hkt
   cases he
   have hkt:k=t:=hkt;subst hkt;exact ⟨a.val cs,Nat.le_refl _,by simp,Z2b h1 (fun c e=>by subst e;exact h1),hk.1,rfl⟩
  ·rename_i hkt;have hkt:¬ k=t:=hkt;obtain ⟨y,q1,q2,q3⟩:=ib h2 hk.2 he;refine ⟨y,by omega,?_,q3⟩;have:t-k=(t-(k+1))+1:=by omega
   rw [this];simpa using q2
 | _=>intro k t e vals h hk he;cases he
theorem Zzq {v:Zb} {γ:Nat→Gh} {l:Lo}:∀ {c:V} {vals:List Value},RR v γ l true c vals→vals.length=lenV c:=by
 intro c
 induction c with
 | nl=>intro vals h;rw [show vals=[] from h];rfl
 | cons a b ia ib=>intro vals h;obtain ⟨cs,xs,rfl,h1,h2⟩:=h;simp [ib h2,lenV]
 | _=>intro vals h;exact h.elim
theorem Zsw {N N':Nat} {G:V→Value→Prop} {w0:Base} {v0:Zb} {a:Act} {w:World} {γ:Nat→Gh} {v:Zb} {ℓ:List Loc} {ags:V} {l:Lo} {n:Nat} {vals:List Value} (hr:RelX N G w0 v0 (· < n) (· < n) [] l a w γ v ℓ) (has:RR v γ l true ags vals) (hk:ags.ok (· < n)) (hN:vals.length≤N') :
  RelX N' G w0 v0 (· < n+1) (· < n+1) (Zob n 0 ags) l { tmps:=vals.toArray++Array.replicate (N'-vals.toArray.size) undef,defers:=[] } w γ v ℓ:=by
 have hm:=hr.mono (U':=(· < n+1)) (X':=(· < n+1)) (fun k h=>(show k<n+1 by have:k<n:=h;omega)) fun k h=>(show k<n+1 by have:k<n:=h;omega);refine ⟨⟨by simp;omega,rfl,fun t x h=>(by cases h),hr.st.ext,hr.st.vst,hr.st.loc,hr.st.nd⟩,fun t e he=>?_,hm.lr,hm.nd,fun t e he=>?_,hm.ul,hm.gh⟩
 ·obtain ⟨y,h1,h2,h3,h4,h5⟩:=Zmc has hk he;have hlt:t<vals.length:=(List.getElem?_eq_some_iff.1 h2).1;have h3':vals[t]=y:=(List.getElem?_eq_some_iff.1 h2).2;have:((vals.toArray++Array.replicate (N'-vals.toArray.size) undef).getD t undef)=y:=by
   simp [Array.getElem?_append,hlt,h3']
  rw [this];exact h3
 ·obtain ⟨y,h1,h2,h3,h4,h5⟩:=Zmc has hk he;exact ⟨V.ok.mono (fun k h=>(show k<n+1 by have:k<n:=h;omega)) h4,by show e.st<n+1;omega⟩
theorem ZTx {N:Nat} {G:V→Value→Prop} {w0:Base} {v0:Zb} {a:Act} {w:World} {γ:Nat→Gh} {v:Zb} {ℓ:List Loc} {ags:V} {l:Lo} {n k:Nat} {vals:List Value} (hr:RelX N G w0 v0 (· < n) (· < n) [] l a w γ v ℓ) (has:RR v γ l true ags vals) (hk:ags.ok (· < n)) :
  RelX (k+vals.length) G w0 v0 (· < n+1) (· < n+1) (Zob n k ags) l { tmps:=(List.replicate k undef++vals).toArray,defers:=[] } w γ v ℓ:=by
 have hm:=hr.mono (U':=(· < n+1)) (X':=(· < n+1)) (fun k h=>(show k<n+1 by have:k<n:=h;omega)) fun k h=>(show k<n+1 by have:k<n:=h;omega);refine ⟨⟨by simp,rfl,fun t x h=>(by cases h),hr.st.ext,hr.st.vst,hr.st.loc,hr.st.nd⟩,fun t e he=>?_,hm.lr,hm.nd,fun t e he=>?_,hm.ul,hm.gh⟩
 ·obtain ⟨y,h1,h2,h3,h4,h5⟩:=Zmc has hk he;have:((List.replicate k undef++vals).toArray.getD t undef)=y:=by
   rw [Array.getD_eq_getD_getElem?,List.getElem?_toArray,List.getElem?_append_right (by simpa using h1)];simp [h2]
  rw [this];exact h3
 ·obtain ⟨y,h1,h2,h3,h4,h5⟩:=Zmc has hk he;exact ⟨V.ok.mono (fun k h=>(show k<n+1 by have:k<n:=h;omega)) h4,by show e.st<n+1;omega⟩
theorem getRep {vals:List Value} {k i:Nat} {y:Value} (h:vals[i]? = some y):(List.replicate k undef++vals).toArray.getD (k+i) undef=y:=by
 rw [Array.getD_eq_getD_getElem?,List.getElem?_toArray,List.getElem?_append_right (by simp)];simp [h]
theorem Z9r {v:Zb} {γ:Nat→Gh} {l:Lo} {U:Nat→Prop} {f:Fr} {tm:Array Value} (hf:∀ t e,lkE f t=some e→RV v γ l e.x (tm.getD t undef)∧e.x.ok U):∀ {vals:List Value} {t:Nat} {c:V},Zik f vals.length t=some c→(∀ i y,vals[i]? = some y→tm.getD (t+i) undef=y)→RR v γ l true c vals∧c.ok U
 | [],t,c,h,_=>by cases h;exact ⟨rfl,trivial⟩
 | y :: vals,t,c,h,hv=>by
  simp only [List.length_cons,Zik] at h
  split at h
  ·cases h
  ·rename_i e c' hnt hc he
   cases h
   obtain ⟨h1,h2⟩:=hf t e hc
   obtain ⟨cs,hcs,hy⟩:=Zxb h1 (fun q hq=>by obtain ⟨k,s,x⟩:=e;have hq:x = .tup q:=hq;subst hq;exact hnt _ _ _ rfl)
   obtain ⟨k1,k2⟩:=Z9r hf (vals:=vals) he fun i y hi=>by
    have:=hv (i+1) y (by simpa using hi)
    rwa [show t+(i+1)=t+1+i by omega] at this
   have h0:=hv 0 y (by simp)
   rw [Nat.add_zero] at h0
   exact ⟨⟨cs,vals,by rw [← h0,hy],hcs,k1⟩,h2,k2⟩
  ·cases h
section
variable {N:Nat} {G:V→Value→Prop} {w0:Base} {v0:Zb} {a:Act} {w:World}
theorem ZBy {α β:Type} {r:α} {P:Program} {rs:List ResultVar} {b n0 n:Nat} {f0:Fr} {l0 l:Lo} {c:V} {j:Js} {K:jT j→Option α} (h0:H0 G n0 f0 l0) (hn:n0≤n) (hr:RetR P rs N G w0 v0 c l n a w) (ho:Zgc n0 l0 l) (h:Z5i b n0 n f0 l0 c l j K=some r) :
  ∃ x,K x=some r∧∀ {KR:V→Lo→Nat→Option β} {q:β},build b f0 l0 j x n0 (retK j.vs KR)=some q→∃ c' l' m,KR c' l' m=some q∧n0≤m∧RetR P rs N G w0 v0 c' l' m a w∧Zgc n0 l0 l':=by
 obtain ⟨γ,v,ℓ,vals,hr,hc,hk,hres⟩:=hr;unfold Z5i at h;split at h
 ·rename_i k hkeep hord;split at h
  ·rename_i hlen;have hlen:=Nat.eq_of_beq_eq_true hlen;have hvl:=Zzq hc;have hx:=ZTx (k:=1000) hr hc hk;obtain ⟨x,k1,k2,k3,k4⟩:=ZIl h0 (Nat.le_succ_of_le hn) ⟨_,_,_,hx⟩ ⟨fun t e he hst=>by
    obtain ⟨y,h1,h2,h3,h4,h5⟩:=Zmc hc hk he;omega,ho⟩ h
   refine ⟨x,k1,fun {KR q} hq=>?_⟩;rw [Z6j] at hq;unfold retK at hq;rw [hord] at hq;simp only at hq;split at hq
   ·rename_i c' hc';obtain ⟨γ',v',ℓ',hr'⟩:=k3;refine ⟨c',_,_,hq,k2,⟨γ',v',ℓ',vals,⟨⟨hr.st.size,hr.st.dfr,fun t x h=>(by cases h),hr'.st.ext,hr'.st.vst,hr'.st.loc,hr'.st.nd⟩,fun t e he=>(by cases he),hr'.lr,hr'.nd,fun t e he=>(by cases he),hr'.ul,hr'.gh⟩,?_⟩,k4.l⟩;rw [show k-1000=vals.length by omega] at hc';obtain ⟨g1,g2⟩:=Z9r (U:=(· < bN f0 l0 j x n0)) (fun t e he=>⟨hr'.fr t e he,(hr'.uf t e he).1⟩) hc' fun i y hi=>by
     exact getRep hi
    exact ⟨g1,g2,hres⟩
   ·cases hq
  ·cases h
 ·cases h
end
end Go.Eng
namespace Go.Eng
open Go.RowKit
section
variable {N:Nat} {G:V→Value→Prop} {w0:Base} {v0:Zb}
structure KOK (P:Program) (rs:List ResultVar) (N:Nat) (G:V→Value→Prop) (w0:Base) (v0:Zb) {α:Type} (n:Nat) (f:Fr) (l:Lo) (K:Kt α) (r:α) (Q:Exit→Act→World→Prop):Prop where
 norm:ZKe N G w0 v0 n f l (fun f l n=>K.norm f l n=some r) (Q .normal)
 exit:∀ i,ZKe N G w0 v0 n f l (fun f l n=>K.exit i f l n=some r) (Q (.exit i))
 ret:∀ c l' n' a' w',K.ret c l' n'=some r→n≤n'→Zgc n l l'→RetR P rs N G w0 v0 c l' n' a' w'→Q .ret a' w'
theorem KOK.step {P:Program} {rs:List ResultVar} {α:Type} {n n1:Nat} {f f1:Fr} {l l1:Lo} {K:Kt α} {r:α} {Q:Exit→Act→World→Prop} (h:KOK P rs N G w0 v0 n f l K r Q) (hn:n≤n1) (ho:Old n f l f1 l1):KOK P rs N G w0 v0 n1 f1 l1 K r Q :=
 ⟨h.norm.step hn ho,fun i=>(h.exit i).step hn ho,fun c l' n' a' w' hk hn' ho' hr=>h.ret c l' n' a' w' hk (by omega) (ho.l.trans ho' hn) hr⟩
def kdE:Kd→Exit
 | .norm=>.normal
 | .exit i=>.exit i
 | .ret=>.ret
theorem ZYk {a b:Kd} (h:kdEq a b=true):a=b:=by
 cases a <;> cases b <;> first | rfl | (cases h;done) | (rw [Nat.eq_of_beq_eq_true h])
theorem Zyu {P:Program} {rs:List ResultVar} {α β:Type} {b n0 n:Nat} {f0 f:Fr} {l0 l:Lo} {o:Kd×Js} {K:jT o.2→Option α} {x':α} {a:Act} {w:World} {Q:Exit→Act→World→Prop} (h0:H0 G n0 f0 l0) (hn:n0≤n) (hk:o.1 ≠ .ret) (hr:Rel N G w0 v0 (· < n) f l a w) (ho:Old n0 f0 l0 f l) (h:Zne b n0 n f0 l0 f l o.2 K=some x') :
  ∃ y,K y=some x'∧∀ {Kout:Kt β} {r:β},Zoh b f0 l0 n0 Kout o y=some r→KOK P rs N G w0 v0 n0 f0 l0 Kout r Q→Q (kdE o.1) a w:=by
 obtain ⟨y,h1,h2,h3,h4⟩:=ZIl h0 hn hr ho h;refine ⟨y,h1,fun {Kout r} hx hK=>?_⟩;unfold Zoh at hx;split at hx
 ·rename_i e;rw [Z6j] at hx;rw [e];exact hK.norm _ _ _ a w hx h2 h4 h3
 ·rename_i i e;rw [Z6j] at hx;rw [e];exact hK.exit i _ _ _ a w hx h2 h4 h3
 ·rename_i e;exact absurd e hk
theorem ZFt {P:Program} {rs:List ResultVar} {α β:Type} {b n0 n:Nat} {f0:Fr} {l0 l:Lo} {c:V} {o:Kd×Js} {K:jT o.2→Option α} {x':α} {a:Act} {w:World} {Q:Exit→Act→World→Prop} (h0:H0 G n0 f0 l0) (hn:n0≤n) (hk:o.1 = .ret) (hr:RetR P rs N G w0 v0 c l n a w) (ho:Zgc n0 l0 l) (h:Z5i b n0 n f0 l0 c l o.2 K=some x') :
  ∃ y,K y=some x'∧∀ {Kout:Kt β} {r:β},Zoh b f0 l0 n0 Kout o y=some r→KOK P rs N G w0 v0 n0 f0 l0 Kout r Q→Q .ret a w:=by
 obtain ⟨y,h1,h2⟩:=ZBy (β:=β) h0 hn hr ho h;refine ⟨y,h1,fun {Kout r} hx hK=>?_⟩;unfold Zoh at hx;split at hx
 ·rename_i e;rw [hk] at e;cases e
 ·rename_i e;rw [hk] at e;cases e
 ·obtain ⟨c',l',m,k0,k1,k2,k3⟩:=h2 hx;exact hK.ret _ _ _ a w k0 k1 k3 k2
theorem ZPl {P:Program} {rs:List ResultVar} {β:Type} {b n0 n:Nat} {f0 f:Fr} {l0 l:Lo} {a:Act} {w:World} {Q:Exit→Act→World→Prop} {kd:Kd} {c:V} (h0:H0 G n0 f0 l0) (hn:n0≤n) (hk:kd ≠ .ret) (hr:Rel N G w0 v0 (· < n) f l a w) (ho:Old n0 f0 l0 f l) :
  ∀ {os:List (Kd×Js)} {α:Type} {K:sumT os→Option α} {x':α},ZLc b n0 n f0 l0 kd c f l os K=some x' →
  ∃ y,K y=some x'∧∀ {Kout:Kt β} {r:β},arms b f0 l0 n0 Kout os y=some r→KOK P rs N G w0 v0 n0 f0 l0 Kout r Q→Q (kdE kd) a w
 | [],α,K,x',h=>by cases h
 | [o],α,K,x',h=>by
  simp only [ZLc] at h
  split at h
  ·rename_i he
   have he:=ZYk he
   have h:Zne b n0 n f0 l0 f l o.2 K=some x':=by cases kd <;> first | exact h | exact absurd rfl hk
   obtain ⟨y,h1,h2⟩:=Zyu (P:=P) (rs:=rs) (β:=β) (Q:=Q) h0 hn (by rw [he];exact hk) hr ho h
   exact ⟨y,h1,fun {Kout r} hx hK=>he ▸ h2 hx hK⟩
  ·cases h
 | o :: p :: os,α,K,x',h=>by
  simp only [ZLc] at h
  split at h
  ·rename_i he
   have he:=ZYk he
   have h:Zne b n0 n f0 l0 f l o.2 (fun x=>K (.inl x))=some x':=by cases kd <;> first | exact h | exact absurd rfl hk
   obtain ⟨y,h1,h2⟩:=Zyu (P:=P) (rs:=rs) (β:=β) (Q:=Q) h0 hn (by rw [he];exact hk) hr ho h
   exact ⟨.inl y,h1,fun {Kout r} hx hK=>he ▸ h2 hx hK⟩
  ·obtain ⟨y,h1,h2⟩:=ZPl h0 hn hk hr ho (os:=p :: os) h
   exact ⟨.inr y,h1,fun {Kout r} hx hK=>h2 hx hK⟩
theorem ZHn {P:Program} {rs:List ResultVar} {β:Type} {b n0 n:Nat} {f0 f:Fr} {l0 l:Lo} {a:Act} {w:World} {Q:Exit→Act→World→Prop} {c:V} (h0:H0 G n0 f0 l0) (hn:n0≤n) (hr:RetR P rs N G w0 v0 c l n a w) (ho:Zgc n0 l0 l) :
  ∀ {os:List (Kd×Js)} {α:Type} {K:sumT os→Option α} {x':α},ZLc b n0 n f0 l0 .ret c f l os K=some x' →
  ∃ y,K y=some x'∧∀ {Kout:Kt β} {r:β},arms b f0 l0 n0 Kout os y=some r→KOK P rs N G w0 v0 n0 f0 l0 Kout r Q→Q .ret a w
 | [],α,K,x',h=>by cases h
 | [o],α,K,x',h=>by
  simp only [ZLc] at h
  split at h
  ·rename_i he
   exact ZFt h0 hn (ZYk he) hr ho h
  ·cases h
 | o :: p :: os,α,K,x',h=>by
  simp only [ZLc] at h
  split at h
  ·rename_i he
   obtain ⟨y,h1,h2⟩:=ZFt (P:=P) (rs:=rs) (β:=β) (Q:=Q) h0 hn (ZYk he) hr ho h
   exact ⟨.inl y,h1,fun {Kout r} hx hK=>h2 hx hK⟩
  ·obtain ⟨y,h1,h2⟩:=ZHn h0 hn hr ho (os:=p :: os) h
   exact ⟨.inr y,h1,fun {Kout r} hx hK=>h2 hx hK⟩
theorem ZJj {P:Program} {rs:List ResultVar} {c:Code} {α:Type} {b n:Nat} {ann:Ann} {f:Fr} {l:Lo} {K:Kt α} {g:(β:Type)→Go β} {r:α} {a:Act} {w:World} {Q:Exit→Act→World→Prop} (h:ZZg b ann f l n K g=some r) (hr:Rel N G w0 v0 (· < n) f l a w) (hK:KOK P rs N G w0 v0 n f l K r Q)
  (ih:∀ {β:Type} {a':Ann} {K':Kt β} {r':β},g β a' f l n K'=some r'→KOK P rs N G w0 v0 n f l K' r' Q→c.wp P Q a w):c.wp P Q a w:=by
 unfold ZZg at h;split at h
 ·rename_i j a';obtain ⟨x,hx,harms⟩:=Zma h;have h0:=hr.h0;refine ih hx ⟨fun f' l' n' a' w' hp hn' ho' hr'=>?_,fun i f' l' n' a' w' hp hn' ho' hr'=>?_,fun c l' n' a' w' hp hn' ho' hr'=>?_⟩
  ·obtain ⟨y,h1,h2⟩:=ZPl (P:=P) (rs:=rs) (β:=α) (Q:=Q) (kd:=.norm) h0 hn' (fun e=>by cases e) hr' ho' hp
   cases h1
   exact h2 harms hK
  ·obtain ⟨y,h1,h2⟩:=ZPl (P:=P) (rs:=rs) (β:=α) (Q:=Q) (kd:=.exit i) h0 hn' (fun e=>by cases e) hr' ho' hp
   cases h1
   exact h2 harms hK
  ·obtain ⟨y,h1,h2⟩:=ZHn (P:=P) (rs:=rs) (β:=α) (Q:=Q) h0 hn' hr' ho' hp
   cases h1
   exact h2 harms hK
 ·exact ih h hK
theorem Zeu {P:Program} {rs:List ResultVar} {c:Code} {α:Type} {a':Ann} {g:(β:Type)→Go β} {r:α}:∀ (k:Nat) {n:Nat} {f:Fr} {l:Lo} {K:Kt α} {a:Act} {w:World} {Q:Exit→Act→World→Prop},rounds g a' k f l n K=some r→Rel N G w0 v0 (· < n) f l a w→KOK P rs N G w0 v0 n f l K r Q →
  (∀ {β:Type} {a':Ann} {f':Fr} {l':Lo} {n':Nat} {K':Kt β} {r':β} {a:Act} {w:World} {Q':Exit→Act→World→Prop},g β a' f' l' n' K'=some r'→Rel N G w0 v0 (· < n') f' l' a w→KOK P rs N G w0 v0 n' f' l' K' r' Q'→c.wp P Q' a w)→Code.rounds P c Q k a w
 | 0,n,f,l,K,a,w,Q,h,_,_,_=>by cases h
 | k+1,n,f,l,K,a,w,Q,h,hr,hK,ih =>
  ZRw (ih (Q':=Exit.then (Code.rounds P c Q k) Q) h hr ⟨fun f' l' n' a' w' hp hn' ho' hr'=>Zeu k hp hr' (hK.step hn' ho') ih,fun i=>hK.exit i,hK.ret⟩)
theorem Zbx {P:Program} {rs:List ResultVar} {c:Code} {α:Type} {b n:Nat} {ann:Ann} {f:Fr} {l:Lo} {K:Kt α} {g:(β:Type)→Go β} {r:α} {a:Act} {w:World} {Q:Exit→Act→World→Prop} (h:loopI b ann f l n K g=some r) (hr:Rel N G w0 v0 (· < n) f l a w) (hK:KOK P rs N G w0 v0 n f l K r Q)
  (ih:∀ {β:Type} {a':Ann} {f':Fr} {l':Lo} {n':Nat} {K':Kt β} {r':β} {a:Act} {w:World} {Q':Exit→Act→World→Prop},g β a' f' l' n' K'=some r'→Rel N G w0 v0 (· < n') f' l' a w→KOK P rs N G w0 v0 n' f' l' K' r' Q'→c.wp P Q' a w):(Code.loop c).wp P Q a w:=by
 unfold loopI at h;split at h
 ·rename_i j ann';have h0:=hr.h0;obtain ⟨z,h1,h2,h3,h4⟩:=ZIl h0 (Nat.le_refl n) hr Old.refl h;obtain ⟨y,hl,harms⟩:=Zma h1;refine Zqe hl (fun s a w=>n≤bN f l j.head s n∧Rel N G w0 v0 (· < bN f l j.head s n) (bF f l j.head s n) (bL b f l j.head s n) a w∧Old n f l (bF f l j.head s n) (bL b f l j.head s n)) ⟨h2,h3,h4⟩ ?_;rintro s a w st ⟨i1,i2,i3⟩ hst N' hN hR;rw [Z6j] at hst;refine ih hst i2 ⟨fun f' l' n' a' w' hp hn' ho' hr'=>?_,fun i f' l' n' a' w' hp hn' ho' hr'=>?_,fun c l' n' a' w' hp hn' ho' hr'=>?_⟩
  ·obtain ⟨x,k1,k2,k3,k4⟩:=ZIl h0 (Nat.le_trans i1 hn') hr' (i3.trans ho' i1) hp
   cases k1
   exact hN x rfl a' w' ⟨k2,k3,k4⟩
  ·obtain ⟨y',k1,k2⟩:=ZPl (P:=P) (rs:=rs) (β:=α) (Q:=Q) (kd:=.exit i) h0 (Nat.le_trans i1 hn') (fun e=>by cases e) hr' (i3.trans ho' i1) hp
   cases k1
   have:=hR y' rfl;subst this;exact k2 harms hK
  ·obtain ⟨y',k1,k2⟩:=ZHn (P:=P) (rs:=rs) (β:=α) (Q:=Q) h0 (Nat.le_trans i1 hn') hr' (i3.l.trans ho' i1) hp
   cases k1
   have:=hR y' rfl;subst this;exact k2 harms hK
 ·rename_i k ann';exact wp_loop_rounds k (Zeu k h hr hK ih)
 ·cases h
theorem ZkA {P:Program} {f:Fr} {l:Lo} {a:Act} {w:World} {γ:Nat→Gh} {v:Zb} {ℓ:List Loc} {n:Nat} (hr:RelX N G w0 v0 (· < n) (· < n) f l a w γ v ℓ) {q:ResultVar} {z:V} (h:Zqn f l P q=some z) (hz:∀ c,z ≠ .tup c):∃ cs,RR v γ l false z cs∧z.ok (· < n)∧Res P a.tmps w q (z.val cs):=by
 unfold Zqn at h;split at h
 ·rename_i t;split at h
  ·rename_i e he
   cases h
   obtain ⟨cs,h1,h2⟩:=Zxb (hr.fr t e he) hz;obtain ⟨σ,hσ,hev⟩:=hr.st.ev1 (.tmp t);exact ⟨cs,h1,(hr.uf t e he).1,by rw [← h2];exact Z3a hσ hev⟩
  ·cases h
 ·rename_i x t;split at h
  ·rename_i k st u he;split at h
   ·rename_i k2 st2 ty c hu;split at h
    ·rename_i q hq;have hrv:=hr.fr x _ he;obtain ⟨y,hy0,_,hy⟩:=Zha hrv (fun _ e=>by cases e) rfl rfl
     cases hy0
     obtain ⟨b',g4,g5⟩:=hy _ hu;obtain ⟨hkk,es,hes,hmem⟩:=hr.loc hu;obtain ⟨b,cs,g1,g2,g3,rfl⟩:=hes;have hkk:k2=u:=hkk;subst hkk;have g1:γ k2 = .box b:=g1;rw [g1] at g4;cases g4;have hc:c.ok (· < n):=(hr.ul _ (Zr hu).1).2.2;obtain ⟨k1,k2',k3,k4,k5⟩:=ZJd FU h g2 hc;obtain ⟨i,hi⟩:=hmem _ (List.mem_singleton.2 rfl);have hlen:((cs.drop 0).take q.1).length=q.1:=by simp at k5 ⊢;omega
     have hw:=hr.st.box hi 0 ((cs.drop 0).take q.1) (by rw [hlen]);obtain ⟨σ,hσ,hev⟩:=hr.st.ev1 (.tmp x);have g5:a.eval (.tmp x)=_:=g5;rw [g5] at hev;have ht:=ZEf hq;refine ⟨_,k1,k2',?_⟩
     cases hag:z.isAgg with
     | true =>
      rw [← k4,hag] at ht;unfold V.val;rw [hag];exact res_agg hσ hev ht hlen hw
     | false =>
      rw [← k4,hag] at ht;have h1:=ZTd FU h hag;have e3:=Zxg k1 h1 hag;rw [← k3,h1] at ht;rw [e3] at hw;exact res_one hσ hev ht hw
    ·cases h
   ·cases h
  ·cases h
theorem Zwu {P:Program} {f:Fr} {l:Lo} {a:Act} {w:World} {γ:Nat→Gh} {v:Zb} {ℓ:List Loc} {n:Nat} (hr:RelX N G w0 v0 (· < n) (· < n) f l a w γ v ℓ):∀ {rs:List ResultVar} {c:V},ZLk f l P rs=some c→∃ vals,RR v γ l true c vals∧c.ok (· < n)∧Ress P a.tmps w rs vals
 | [],c,h=>by cases h;exact ⟨[],rfl,trivial,trivial⟩
 | q :: rs,c,h=>by
  simp only [ZLk] at h
  split at h
  ·cases h
  ·rename_i z c1 hnt h1 h2
   cases h
   obtain ⟨cs,k1,k2,k3⟩:=ZkA hr h1 (fun c e=>hnt c (by rw [e]))
   obtain ⟨vals,q1,q2,q3⟩:=Zwu hr h2
   exact ⟨_,⟨cs,vals,rfl,k1,q1⟩,⟨k2,q2⟩,k3,q3⟩
  ·cases h
theorem ZsA {id i:Nat} {Q:Exit→Act→World→Prop} {a:Act} {w:World} (h:(Nat.beq i id=true→Q .normal a w)∧(Nat.beq i id=false→Q (.exit i) a w)):Exit.inBlock id Q (.exit i) a w:=by
 cases hb:Nat.beq i id
 ·have hne:¬ i=id:=fun e=>by rw [e] at hb;simp at hb
  simp only [Exit.inBlock,if_neg hne];exact h.2 hb
 ·simp only [Exit.inBlock,if_pos (Nat.eq_of_beq_eq_true hb)];exact h.1 hb
theorem Z7h {C:Cf} (hC:CfOK C) {cf:CallF} (hcf:ZBh C cf) {rs:List ResultVar} {b:Nat}:∀ (c:Code) {α:Type} {ann:Ann} {f:Fr} {l:Lo} {n:Nat} {K:Kt α} {r:α} {Q:Exit→Act→World→Prop} {a:Act} {w:World},
  Zsb C cf rs b N c α ann f l n K=some r→Rel N G w0 v0 (· < n) f l a w→KOK C.P rs N G w0 v0 n f l K r Q→c.wp C.P Q a w:=by
 intro c
 induction c with
 | skip=>intro α ann f l n K r Q a w h hr hK;exact wp_skip (hK.norm f l n a w h (Nat.le_refl n) Old.refl hr)
 | label i=>intro α ann f l n K r Q a w h hr hK;exact wp_label (hK.norm f l n a w h (Nat.le_refl n) Old.refl hr)
 | region id ops draw =>
  intro α ann f l n K r Q a w hh hr hK;refine ZJj hh hr hK fun {β a' K' r'} h hK2=>?_;clear hh;split at h
  ·rename_i hds;exact wp_region_list (Z9k hC hcf (Z7k hds) h (fun o ho=>ho) hr hK2.norm)
  ·rename_i hds;split at h
   ·rename_i hm hb;split at h
    ·exact draw_ok hC hm hb (Z7k hds) h hr hK2.norm
    ·rename_i o ho;exact ZDv hC hcf ho hm hb (Z7k hds) h hr hK2.norm
   ·cases h
  ·cases h
 | seq x y ix iy =>
  intro α ann f l n K r Q a w h hr hK;refine ZJj h hr hK fun {β a' K' r'} h hK=>?_;refine wp_seq (ix h hr ⟨fun f' l' n' a' w' hp hn' ho' hr'=>iy hp hr' (hK.step hn' ho'),fun i=>hK.exit i,hK.ret⟩)
 | cond c x y ix iy =>
  intro α ann f l n K r Q a w h hr hK;refine ZJj h hr hK fun {β a' K' r'} h hK=>?_
  cases c with
  | tmp t =>
   simp only at h;split at h
   ·rename_i k s q he;have hk:k=t:=(Zr he).2;subst hk;obtain ⟨γ,v,ℓ,hr⟩:=hr;have hev:a.eval (.tmp k) = .bool q:=ZYf (hr.fr k _ he);have hdup:=RelX.dup hr he;have hold:=Old.dup (m:=n) (l:=l) he
    cases q with
    | true=>exact wp_cond_true hev (ix h ⟨γ,v,ℓ,hdup⟩ (hK.step (Nat.le_refl n) hold))
    | false=>exact wp_cond_false hev (iy h ⟨γ,v,ℓ,hdup⟩ (hK.step (Nat.le_refl n) hold))
   ·cases h
  | const v =>
   cases v with
   | bool b=>cases b with
    | true=>exact wp_cond_true rfl (ix h hr hK)
    | false=>exact wp_cond_false rfl (iy h hr hK)
   | _=>cases h
  | _=>cases h
 | block id x ix =>
  intro α ann f l n K r Q a w h hr hK;refine ZJj h hr hK fun {β a' K' r'} h hK=>?_;refine wp_block (ix h hr ⟨hK.norm,fun i f' l' n' a' w' hp hn' ho' hr'=>ZsA ⟨fun e=>?_,fun e=>?_⟩,hK.ret⟩)
  ·simp only [e] at hp;exact hK.norm f' l' n' a' w' hp hn' ho' hr'
  ·simp only [e] at hp;exact hK.exit i f' l' n' a' w' hp hn' ho' hr'
 | loop x ix =>
  intro α ann f l n K r Q a w h hr hK;exact Zbx h hr hK fun h hr hK=>ix h hr hK
 | scope x ix =>
  intro α ann f l n K r Q a w h hr hK;exact wp_scope_straight (ix h hr ⟨hK.norm,hK.exit,hK.ret⟩)
 | exit i=>intro α ann f l n K r Q a w h hr hK;exact wp_exit (hK.exit i f l n a w h (Nat.le_refl n) Old.refl hr)
 | ret =>
  intro α ann f l n K r Q a w h hr hK;simp only [Zsb] at h;split at h
  ·rename_i c hc;obtain ⟨γ,v,ℓ,hr⟩:=hr;obtain ⟨vals,k1,k2,k3⟩:=Zwu hr hc;exact wp_ret (hK.ret c l n a w h (Nat.le_refl n) (fun u e he _=>he) ⟨γ,v,ℓ,vals,⟨hr.st,fun t e he=>(by cases he),hr.lr,hr.nd,fun t e he=>(by cases he),hr.ul,hr.gh⟩,k1,k2,k3⟩)
  ·cases h
 | _=>intro α ann f l n K r Q a w h hr hK;cases h
end
end Go.Eng
namespace Go.Eng
open Go.RowKit
theorem St.afterB {K:Nat} {w0:Base} {v0:Zb} {σ:List (Nat×Value)} {ℓ es es':List Loc} {v v':Zb} {a:Act} {w w':World} (h:St K w0 v0 σ (es++ℓ) v a w) (x:ExtB ⟨w,es.filterMap Loc.blk⟩ w') (s:VStepB ⟨w,es.filterMap Loc.blk⟩ v w' v')
  (hh:∀ e ∈ es',e.holds w'∧∀ k,e.blk=some k→(w.heap.size≤k∨k ∈ es.filterMap Loc.blk)∧v' k=none) (hnd:(es'.filterMap Loc.blk).Nodup):St K w0 v0 σ (es'++ℓ) v' a w':=by
 have lentIn:∀ k,k ∈ es.filterMap Loc.blk→(w0.wd.heap.size≤k∨k ∈ w0.lent):=fun k hk=>by
  obtain ⟨e,he,hb⟩:=List.mem_filterMap.1 hk;exact ((h.loc e (List.mem_append_left _ he)).2 k hb).1
 have nl:∀ k,k<w0.wd.heap.size→k ∉ w0.lent→k ∉ es.filterMap Loc.blk:=fun k hk hl hm=>by
  rcases lentIn k hm with h' | h'
  ·omega
  ·exact hl h'
 have nd:=h.nd;rw [List.filterMap_append] at nd;have dis:=(List.nodup_append.1 nd).2.2;have oth:∀ y ∈ ℓ,∀ b',y.blk=some b'→b'<w.heap.size∧b' ∉ es.filterMap Loc.blk:=fun y hy b' hb=>by
  obtain ⟨c2,T2,hg2⟩:=Loc.blk_get (h.loc y (List.mem_append_right _ hy)).1 hb;refine ⟨Zie hg2,fun hm=>?_⟩;exact dis b' hm b' (List.mem_filterMap.2 ⟨y,hy,hb⟩) rfl
 refine ⟨h.size,h.dfr,h.fr,⟨x.os.trans h.ext.os,x.tape.trans h.ext.tape,x.output.trans h.ext.output,Nat.le_trans h.ext.size x.size,fun k hk hl=>?_⟩,⟨Zb.le_trans h.vst.le s.le,s.vin,fun k hk hl=>?_⟩,fun y hy=>?_,?_⟩
 ·rw [x.block k (Nat.lt_of_lt_of_le hk h.ext.size) (nl k hk hl)];exact h.ext.block k hk hl
 ·rw [s.old k (Nat.lt_of_lt_of_le hk h.ext.size) (nl k hk hl)];exact h.vst.old k hk hl
 ·rcases List.mem_append.1 hy with hy | hy
  ·obtain ⟨h1,h2⟩:=hh y hy;refine ⟨h1,fun b hb=>⟨?_,(h2 b hb).2⟩⟩;rcases (h2 b hb).1 with h3 | h3
   ·exact .inl (Nat.le_trans h.ext.size h3)
   ·exact lentIn b h3
  ·obtain ⟨h1,h2⟩:=h.loc y (List.mem_append_right _ hy);have same:∀ b',y.blk=some b'→w'.heap[b']? = w.heap[b']?:=fun b' hb2=>by
    obtain ⟨o1,o3⟩:=oth y hy b' hb2;exact x.block b' o1 o3
   refine ⟨?_,fun b' hb2=>⟨(h2 b' hb2).1,?_⟩⟩
   ·cases y with
    | box b' T' cs=>show _=_;rw [same b' rfl];exact h1
    | own b' T' sz n cap cs =>
     cases b' with
     | none=>exact h1
     | some b' =>
      obtain ⟨q1,c,q2,q3⟩:=h1;exact ⟨q1,c,by rw [same b' rfl];exact q2,q3⟩
   ·obtain ⟨o1,o3⟩:=oth y hy b' hb2;rw [s.old b' o1 o3];exact (h2 b' hb2).2
 ·rw [List.filterMap_append];refine List.nodup_append.2 ⟨hnd,(List.nodup_append.1 nd).2.1,fun k hk k2 hk2 e=>?_⟩;subst e;obtain ⟨e',he',hb'⟩:=List.mem_filterMap.1 hk;obtain ⟨y,hy,hyb⟩:=List.mem_filterMap.1 hk2;obtain ⟨o1,o3⟩:=oth y hy k hyb;rcases ((hh e' he').2 k hb').1 with h3 | h3
  ·omega
  ·exact o3 h3
theorem Zsm {n:Nat}:∀ {l:Lo},ZRh n l=true→∀ e ∈ l,∀ ty c,e.x = .box ty c→e.st<n
 | [],_,e,he,_,_,_=>by cases he
 | p :: r,h,e,he,ty,c,hx=>by
  unfold ZRh at h
  rcases List.mem_cons.1 he with rfl | he
  ·split at h
   ·split at h
    ·rename_i hb
     exact of_decide_eq_true (by simpa [Nat.blt_eq] using hb)
    ·cases h
   ·rename_i hne
    exact absurd hx (hne ty c)
  ·split at h
   ·split at h
    ·exact Zsm h e he ty c hx
    ·cases h
   ·exact Zsm h e he ty c hx
theorem Ztw {P:Program} {g:FuncId} {cb:ConB} (hB:Zsg P g cb) {α:Type} {ags:V} {l:Lo} {n:Nat} {K:V→Lo→Nat→Option α} {r:α} (h:callB cb ags l n K=some r) {N:Nat} {G:V→Value→Prop} {w0:Base} {v0:Zb} {a:Act} {w:World} {γ:Nat→Gh} {v:Zb} {ℓ:List Loc} {vals:List Value}
  (hr:RelX N G w0 v0 (· < n) (· < n) [] l a w γ v ℓ) (has:RR v γ l true ags vals) (hk:ags.ok (· < n)):ZN P g∧Calls P g vals.toArray w fun e w'=>∃ y c l' n' γ' v' ℓ',e = .returned y∧K c l' n'=some r∧n≤n'∧(∀ f,Old n f l f l')∧RelX N G w0 v0 (· < n') (· < n') [] l' a w' γ' v' ℓ'∧RV v' γ' l' (ZZd c) y∧(ZZd c).ok (· < n'):=by
 unfold callB at h;split at h
 ·rename_i u rest;obtain ⟨cs,xs,rfl,hp,hrest⟩:=has;obtain ⟨y,rfl,_,hy⟩:=hp;have hu:u<n:=hk.1;have h1:=Z6h (Nat.le_refl n) Old.refl hr.nd (ZMh h);have hr1:RelX N G w0 v0 (· < n) (· < n+1) [] l a w γ v ℓ:=hr.mono (fun _ h=>h) fun k h=>(show k<n+1 by have:k<n:=h;omega);obtain ⟨x,l1,γ1,v1,ℓ1,h2,r1,le1,q1⟩:=ZWf (U:=(· < n)) (X:=(· < n+1)) (Nat.lt_irrefl n) (Nat.lt_succ_self n) h1 hr1 hk.2;obtain ⟨z,l2,γ2,v2,ℓ2,es,e0,h3,r2,hst,le2,hcrl,he0,hnone,hhead⟩:=ZIo (U:=(· < n)) (X:=(· < n+1)) (Nat.lt_irrefl n) (Nat.lt_succ_self n) (ex:=[]) hu h2 r1 r1.st;have hst:St N w0 v0 [] (es++ℓ2) v2 a w:=hst;obtain ⟨res,hF,h4,hold⟩:=h3;have le:=le1.trans le2;obtain ⟨b,c1,e1,hgb,hcr,hpl,hes⟩:=hcrl;obtain ⟨xh,hxh⟩:=hhead;obtain ⟨ey,hey,hce⟩:=le1.l u e0 hu he0;obtain ⟨b',hb1,hb2⟩:∃ b',γ u = .box b'∧y = .pointer (some ⟨b',0,none⟩):=by
   have hy:=hy ey hey;obtain ⟨kk,st,L⟩:=ey
   cases L with
   | box ty c=>exact hy
   | _=>exact hy.elim
  have hg1:γ1 u=γ u:=by
   rw [hxh] at hce;obtain ⟨kk,st,L⟩:=ey
   cases L with
   | box ty c=>exact hce
   | _=>exact hce.elim
  have hbb:b'=b:=by rw [hgb,hb1] at hg1;cases hg1;rfl
  subst hbb;subst hb2;have harg:=ZDm le2.v (q1 _ hrest);have hloc:∀ e ∈ es,e.holds w∧∀ k,e.blk=some k→v2 k=none:=fun e he=>by
   obtain ⟨t1,t2⟩:=hst.loc e (List.mem_append_left _ he);exact ⟨t1,fun k hk=>(t2 k hk).2⟩
  have hndes:(es.filterMap Loc.blk).Nodup:=by
   have:=hst.nd;rw [List.filterMap_append] at this;exact (List.nodup_append.1 this).1
  obtain ⟨hen,hret⟩:=hB w v2 b' es xs z x res hst.vin ⟨b',c1,e1,rfl,hcr,hpl,hes⟩ hloc hndes harg hF;refine ⟨hen,Calls.mono hret fun e w' ⟨y,v',e2,hext,hvs,hres,es',hcrl',hes',hnd'⟩=>?_⟩;have hstN:St N w0 v0 [] (es'++ℓ2) v' a w':=hst.afterB hext hvs hes' hnd';split at h4
  ·rename_i hbo;have hn1:∀ k,k<n→k<n+1:=fun k h=>by omega
   obtain ⟨k1,k2,k3,γ0,k4,k5⟩:=Zwn (hh:=0) hcrl' (Nat.lt_succ_of_lt hu) (Nat.zero_le _) (l2:=(Zba 0 (.box cb.ty cb.c) res.1 u (n+1)).1) (n2:=(Zba 0 (.box cb.ty cb.c) res.1 u (n+1)).2) rfl;have h4:K (Zof cb.res res.2) ((Zba 0 (.box cb.ty cb.c) res.1 u (n+1)).1++l2) (Zba 0 (.box cb.ty cb.c) res.1 u (n+1)).2=some r:=h4;generalize (Zba 0 (.box cb.ty cb.c) res.1 u (n+1)).1=lI at k2 k3 k5 h4;generalize (Zba 0 (.box cb.ty cb.c) res.1 u (n+1)).2=m at k1 k2 h4;have hdis:∀ e ∈ l2,e.k ∉ lI.map En.k:=fun e he hm=>by
    obtain ⟨e',he',hkk⟩:=List.mem_map.1 hm;have h1:e.k<n+1:=(r2.ul e he).1;rcases (k2 e' he').1 with ⟨q,_⟩ | q
    ·have:=Zph hnone;exact this (List.mem_map.2 ⟨e,he,by rw [← hkk,q]⟩)
    ·omega
   have hnd:((lI++l2).map En.k).Nodup:=ZKj k3 r2.nd hdis
   let γN:Nat→Gh:=fun k=>if k ∈ lI.map En.k then γ0 k else γ2 k
   have hγI:∀ e ∈ lI,γN e.k=γ0 e.k∧lkE (lI++l2) e.k=some e:=fun e he=>⟨if_pos (List.mem_map.2 ⟨e,he,rfl⟩),Z0d hnd (List.mem_append_left _ he)⟩;have hγ2:∀ e ∈ l2,γN e.k=γ2 e.k:=fun e he=>if_neg (hdis e he);obtain ⟨EI,hEI,hpI⟩:=k5 γN (lI++l2) hγI;obtain ⟨E2,hE2,hp2⟩:=r2.lr;have leN:Le (· < n) v γ l v' γN (lI++l2):=⟨Zb.le_trans le.v hvs.le,fun q e' hq he'=>by
    obtain ⟨hmem,hkk⟩:=Zr he';rcases List.mem_append.1 hmem with hm | hm
    ·rcases (k2 e' hm).1 with ⟨q1,xh2,q2⟩ | q1
     ·have hqu:q=u:=by rw [← hkk,q1]
      subst hqu;refine ⟨ey,hey,?_⟩;obtain ⟨ky,sy,Ly⟩:=ey;obtain ⟨k',s',L'⟩:=e';have q2:L' = .box cb.ty xh2:=q2;subst q2;have hyy:=hy _ hey
      cases Ly with
      | box ty c =>
       show γN q=γ q;have:=(hγI _ hm).1;have hkk:k'=q:=hkk;subst hkk;rw [this,hb1];exact k4
      | _=>exact hyy.elim
     ·have hq:q<n:=hq;omega
    ·have hl2:lkE l2 q=some e':=by rw [← hkk];exact Z0d r2.nd hm
     obtain ⟨e,q3,q4⟩:=le.l q e' hq hl2;refine ⟨e,q3,ZJo (fun k hk=>hk) ?_ q4⟩;rw [← hkk];exact hγ2 e' hm⟩
   have hS2:F2 (Zya v' γN (lI++l2)) l2 E2:=hE2.impm fun e he es2 hes2 hR=>by
    have hin:∀ x ∈ es2,x ∈ ℓ2:=fun x hx=>hp2.mem_iff.2 (List.mem_flatten.2 ⟨es2,hes2,hx⟩);have hg:=hγ2 e he;obtain ⟨kk,st,L⟩:=e
    cases L with
    | box ty c =>
     obtain ⟨bb,cs2,g1,g2,g3,rfl⟩:=hR;have hst':st<n:=Zsm hbo _ he ty c rfl;have hlk:=Z0d r2.nd he;have hlk0:=hold.2 kk _ hlk hst';obtain ⟨jj,es0,t1,t2⟩:=hr.loc hlk0;obtain ⟨b0,cs0,d1,d2,d3,rfl⟩:=t1;have g1:γ2 kk = .box bb:=g1;have d1:γ kk = .box b0:=d1;have hkn:kk<n:=(hr.ul _ (Zr hlk0).1).1;obtain ⟨eE,q3,q4⟩:=le.l kk _ hkn hlk;rw [hlk0] at q3;cases q3;have q4:γ2 kk=γ kk:=q4;have hbb:bb=b0:=by rw [g1,d1] at q4;cases q4;rfl
     subst hbb;obtain ⟨i,hi⟩:=t2 _ (List.mem_singleton.2 rfl);have m1:=(hr.st.loc _ (List.mem_of_getElem? hi)).1;have m2:=(hst.loc _ (List.mem_append_right _ (hin _ (List.mem_singleton.2 rfl)))).1;have m1:w.heap[bb]? = some (.cells cs0.toArray ty (0,0)):=m1;have m2:w.heap[bb]? = some (.cells cs2.toArray ty (0,0)):=m2;rw [m1] at m2;have hcs:cs0=cs2:=by
      have:=Option.some.inj m2
      injection this with h1 _ _
      have:=congrArg Array.toList h1
      simpa using this
     subst hcs;exact ⟨bb,cs0,by rw [show γN kk=γ2 kk from hg];exact g1,Znb leN (hr.ul _ (Zr hlk0).1).2.2 d2,d3,rfl⟩
    | own ty t xs fz =>
     cases fz with
     | false=>obtain ⟨ob,cap,d,g1,g2,g3⟩:=hR;exact ⟨ob,cap,d,by rw [show γN kk=γ2 kk from hg];exact g1,ZO hvs.le g2,g3⟩
     | true=>obtain ⟨ob,cap,g1,g2,g3⟩:=hR;exact ⟨ob,cap,by rw [show γN kk=γ2 kk from hg];exact g1,Rep.mono _ hvs.le g2,g3⟩
    | mat ty ty2 t mm hv=>obtain ⟨ob,cap,rows,es3,g1,g2,g3⟩:=hR;exact ⟨ob,cap,rows,es3,by rw [show γN kk=γ2 kk from hg];exact g1,ZUc hvs.le g2,g3⟩
    | mid ty ty2 t mm hv s=>obtain ⟨ob,cap,rows,es3,hs,es4,g1,g2,g3⟩:=hR;exact ⟨ob,cap,rows,es3,hs,es4,by rw [show γN kk=γ2 kk from hg];exact g1,ZUc hvs.le g2,g3⟩
   obtain ⟨t1,t2⟩:=Zao (γ:=γN) (l:=lI++l2) (U:=(· < m)) hres;have up:∀ k,k<n→k<m:=fun k h=>by omega
   have up1:∀ k,k<n+1→k<m:=fun k h=>by omega
   refine ⟨y,_,_,_,γN,v',_,e2,h4,by omega,fun f=>⟨fun _ _ h _=>h,fun q e' he' hsq=>?_⟩,⟨hstN.perm (List.Perm.append hpI hp2),fun t e he=>(by cases he),⟨EI++E2,hEI.append hS2,by rw [List.flatten_append]⟩,hnd,fun t e he=>(by cases he),fun e he=>?_,fun x y hg=>⟨Zwb leN (hr.gh x y hg).2 (hr.gh x y hg).1,V.ok.mono up (hr.gh x y hg).2⟩⟩,t1,t2⟩
   ·obtain ⟨hmem,hkk⟩:=Zr he';rcases List.mem_append.1 hmem with hm | hm
    ·have:=(k2 e' hm).2.1;omega
    ·have hl2:lkE l2 q=some e':=by rw [← hkk];exact Z0d r2.nd hm
     exact hold.2 q e' hl2 hsq
   ·rcases List.mem_append.1 he with he | he
    ·obtain ⟨p1,p2,p3,p4⟩:=k2 e he;refine ⟨?_,p3,p4⟩;rcases p1 with ⟨p1,_⟩ | p1
     ·show e.k<m;omega
     ·exact p1.2
    ·obtain ⟨p1,p2,p3⟩:=r2.ul e he;exact ⟨up1 _ p1,up1 _ p2,LV.ok.mono up up1 p3⟩
  ·cases h4
 ·cases h
def Zdf:List Value→Value
 | [x]=>x
 | vs=>.tuple vs.toArray
theorem Z8q {P:Program} {tmps:Array Value} {w:World}:∀ {rs:List ResultVar} {vals:List Value},Ress P tmps w rs vals→(rs.mapM (ZEl tmps)).run P w = .ok vals w
 | [],[],_=>by simp
 | q :: rs,y :: vals,h=>by
  have h1:=ZKk h.1
  have h2:=Z8q (rs:=rs) (vals:=vals) h.2
  simp [List.mapM_cons,h1,h2]
 | [],_ :: _,h=>h.elim
 | _ :: _,[],h=>h.elim
theorem Z0f {P:Program} {fn:Func} {tmps:Array Value} {w:World} {vals:List Value} (h:Ress P tmps w fn.results.toList vals):(results fn tmps).run P w = .ok (Zdf vals) w:=by
 have h1:=Z8q h;rw [Zfn];rw [Array.mapM_eq_mapM_toList]
 match vals with
 | []=>simp [h1,Zdf]
 | [x]=>simp [h1,Zdf]
 | x :: y :: r=>simp [h1,Zdf]
theorem oneV_ok {v:Zb} {γ:Nat→Gh} {l:Lo} {U:Nat→Prop} {c:V} {vals:List Value} (h:RR v γ l true c vals) (hk:c.ok U):RV v γ l (ZZd c) (Zdf vals)∧(ZZd c).ok U:=by
 cases c with
 | nl=>rw [show vals=[] from h];exact ⟨⟨[],rfl,rfl⟩,trivial⟩
 | cons a b =>
  obtain ⟨cs,xs,rfl,h1,h2⟩:=h
  cases b with
  | nl =>
   rw [show xs=[] from h2];exact ⟨Z2b h1 (fun c e=>by subst e;exact h1),hk.1⟩
  | cons a2 b2 =>
   obtain ⟨cs2,xs2,rfl,h3,h4⟩:=h2;exact ⟨⟨_,⟨cs,_,rfl,h1,cs2,xs2,rfl,h3,h4⟩,rfl⟩,hk⟩
  | _=>exact h2.elim
 | _=>exact h.elim
theorem ZOi:∀ {l:List Value} {k t:Nat} {y:Value},l[t]? = some y→look (Zdc k l) (k+t)=some y
 | [],_,_,_,h=>by simp at h
 | x :: l,k,0,y,h=>by
  simp at h;subst h
  exact Z6e rfl
 | x :: l,k,t+1,y,h=>by
  have h1:=ZOi (l:=l) (k:=k+1) (t:=t) (y:=y) (by simpa using h)
  rw [show Zdc k (x :: l)=(k,x) :: Zdc (k+1) l from rfl,ZLg (by omega),show k+(t+1)=k+1+t by omega]
  exact h1
def ZYb (C:Cf) (inl:Inl):Prop:=∀ g p,Z2 inl g=some p→C.P.funcs[g]? = some p.1∧ZN C.P g
theorem Z5k {C:Cf} (hC:CfOK C) {inl:Inl} (hinl:ZYb C inl) (d:Nat):ZBh C (Zrf C inl d):=by
 induction d with
 | zero=>intro α g ags l n K r h;cases h
 | succ d ih =>
  intro α g ags l n K r h N G w0 v0 a w γ v ℓ vals hr has hk;simp only [Zrf] at h;split at h
  ·rename_i cb hcb;exact Ztw (hC.b g cb hcb) h hr has hk
  ·split at h
   ·rename_i fn ann hg;obtain ⟨hf,hen⟩:=hinl g _ hg;split at h
    ·rename_i c hc hb;have hlen:=Zzq has;have hb:=Nat.le_of_ble_eq_true hb;have hx:=Zsw (N':=fn.ntmps) hr has hk (by rw [hlen];exact hb);refine ⟨hen,calls_of_wp hf hc ?_⟩;refine Z7h hC ih c h ⟨γ,v,ℓ,hx⟩ ⟨fun f' l' n' a' w' hp hn' ho' hr'=>?_,fun i f' l' n' a' w' hp hn' ho' hr'=>(by cases hp),fun c l' n' a' w' hp hn' ho' hr'=>?_⟩
     ·unfold endN at hp;split at hp
      ·rename_i hres;obtain ⟨γ',v',ℓ',hr'⟩:=hr';refine ⟨hr'.st.dfr,_,Z0f (vals:=[]) (by rw [hres];exact trivial),_,.nl,l',n',γ',v',ℓ',rfl,hp,by omega,fun f=>⟨fun _ _ h _=>h,ho'.l.mono (by omega)⟩,⟨⟨hr.st.size,hr.st.dfr,fun t x h=>(by cases h),hr'.st.ext,hr'.st.vst,hr'.st.loc,hr'.st.nd⟩,fun t e he=>(by cases he),hr'.lr,hr'.nd,fun t e he=>(by cases he),hr'.ul,hr'.gh⟩,?_⟩;exact ⟨⟨[],rfl,rfl⟩,trivial⟩
      ·cases hp
     ·obtain ⟨γ',v',ℓ',vals',hr',hc',hk',hres⟩:=hr';exact ⟨hr'.st.dfr,_,Z0f hres,_,c,l',n',γ',v',ℓ',rfl,hp,by omega,fun f=>⟨fun _ _ h _=>h,ho'.mono (by omega)⟩,⟨⟨hr.st.size,hr.st.dfr,fun t x h=>(by cases h),hr'.st.ext,hr'.st.vst,hr'.st.loc,hr'.st.nd⟩,fun t e he=>(by cases he),hr'.lr,hr'.nd,fun t e he=>(by cases he),hr'.ul,hr'.gh⟩,oneV_ok hc' hk'⟩
    ·cases h
   ·cases h
theorem Ztg {v:Zb} {γ:Nat→Gh} {l:Lo} {U:Nat→Prop}:∀ {ts:List T} {vals:List Value} {x:ZB ts},ZVa v ts vals x→RR v γ l true (ZZb ts x) vals∧(ZZb ts x).ok U∧vals.length=ts.length
 | [],_,_,h=>⟨h,trivial,by rw [show _=[] from h];rfl⟩
 | [t],_,x,⟨cs,h1,h2⟩=>⟨⟨cs,[],by rw [h1];exact congrArg (fun z=>[z]) (Zzg (t:=t) (x:=x) (cs:=cs)).symm,h2,rfl⟩,⟨trivial,trivial⟩,by rw [h1];rfl⟩
 | t :: u :: r,_,x,⟨cs,vs,h1,h2,h3⟩=>by
  obtain ⟨k1,k2,k3⟩:=Ztg (γ:=γ) (l:=l) (U:=U) h3
  exact ⟨⟨cs,vs,by rw [h1];exact congrArg (· :: vs) (Zzg (t:=t) (x:=x.1) (cs:=cs)).symm,h2,k1⟩,⟨trivial,k2⟩,by rw [h1];simp [k3]⟩
theorem Zgs {v:Zb}:∀ {ts:List T} {vals:List Value} {z:ZB ts},ZVa v ts vals z→ZIe v ts (Zdf vals) z
 | [],_,_,h=>by rw [show _=[] from h];exact ⟨[],rfl,rfl⟩
 | [t],_,x,⟨cs,h1,h2⟩=>by rw [h1];exact ⟨cs,rfl,h2⟩
 | t :: u :: r,vals,x,h=>by
  obtain ⟨cs,vs,h1,h2,h3⟩:=h
  have hl:1≤vs.length:=by
   cases r with
   | nil=>obtain ⟨cs2,e,_⟩:=h3;rw [e];simp
   | cons u2 r2=>obtain ⟨cs2,vs2,e,_⟩:=h3;rw [e];simp
  have e:Zdf vals = .tuple vals.toArray:=by
   subst h1
   cases vs with
   | nil=>simp at hl
   | cons y ys=>rfl
  rw [e];exact ⟨vals,rfl,cs,vs,h1,h2,h3⟩
theorem Zzo {C:Cf} (hC:CfOK C) {inl:Inl} (hinl:ZYb C inl) {f:FuncId} {fn:Func} {ann:Ann} {ats rts:List T} {x:ZB ats} {z:ZB rts} (hf:C.P.funcs[f]? = some fn) (hl:Nat.ble ats.length fn.ntmps=true) (h:ZXi C inl fn ann ats rts x=some z)
  {w:World} {v:Zb} {vals:List Value} (hv:VIn v w) (ha:ZVa v ats vals x):Ret C.P f vals.toArray w v fun y v'=>ZIe v' rts y z:=by
 unfold ZXi at h;split at h
 ·rename_i c hc;obtain ⟨h1,h2,h3⟩:=Ztg (γ:=fun _=>.box 0) (l:=[]) (U:=(· < 0)) ha;have hK:vals.length≤fn.ntmps:=by rw [h3];exact Nat.le_of_ble_eq_true hl
  refine Zej hv hf hc rfl hK fun a hS=>?_;have hr:RelX fn.ntmps (fun _ _=>False) w v (· < 1) (· < 1) (Zob 0 0 (ZZb ats x)) [] a w (fun _=>.box 0) v []:=by
   refine ⟨⟨hS.size,hS.dfr,fun t x h=>(by cases h),hS.ext,hS.vst,hS.loc,hS.nd⟩,fun t e he=>?_,⟨[],trivial,List.Perm.refl _⟩,List.nodup_nil,fun t e he=>?_,fun e he=>(by cases he),fun x y h=>h.elim⟩
   ·obtain ⟨y,q1,q2,q3,q4,q5⟩:=Zmc h1 h2 he;have:=hS.fr t y ?_
    ·rw [this];exact q3
    ·have q2:vals[t-0]? = some y:=q2;have:=ZOi (k:=0) (t:=t) (y:=y) (by simpa using q2)
     rwa [Nat.zero_add] at this
   ·obtain ⟨y,q1,q2,q3,q4,q5⟩:=Zmc h1 h2 he;exact ⟨V.ok.mono (fun k h=>absurd h (Nat.not_lt_zero k)) q4,by show e.st<1;omega⟩
  refine Z7h hC (Z5k hC hinl 20) c h ⟨_,_,_,hr⟩ ⟨fun f' l' n' a' w' hp hn' ho' hr'=>(by cases hp),fun i f' l' n' a' w' hp hn' ho' hr'=>(by cases hp),fun c l' n' a' w' hp hn' ho' hr'=>?_⟩;obtain ⟨γ',v',ℓ',vals',hr',hc',hk',hres⟩:=hr';have hr2:RelX fn.ntmps (fun _ _=>False) w v (· < n') (· < n'+1) [] l' a' w' γ' v' ℓ':=hr'.mono (fun _ h=>h) fun k h=>(show k<n'+1 by have:k<n':=h;omega);obtain ⟨y,l2,γ2,v2,ℓ2,k1,k2,k3,k4⟩:=ZWf (U:=(· < n')) (X:=(· < n'+1)) (Nat.lt_irrefl n') (Nat.lt_succ_self n') (ZMh hp) hr2 hk';have k1:some y=some z:=k1
  cases k1
  exact ⟨k2.st.dfr,_,Z0f hres,_,v2,rfl,k2.st.ext.ext,k2.st.vst.ext,Zgs (k4 _ hc')⟩
 ·cases h
def CL (P:Program):List (FuncId×Con)→Prop
 | []=>True
 | p :: r=>ZUd P p.1 p.2∧CL P r
def OL (P:Program):List (FuncId×ConO)→Prop
 | []=>True
 | p :: r=>Z4e P p.1 p.2∧OL P r
def IL (P:Program):List (FuncId×ConI)→Prop
 | []=>True
 | p :: r=>ZRl P p.1 p.2∧IL P r
def ML (P:Program):List ((TypeId×String)×FuncId)→Prop
 | []=>True
 | p :: r=>(∀ y w,(method (P.types.size+Made.depth) p.1.1 y p.1.2).run P w = .ok (p.2,y) w)∧ML P r
def NL (P:Program):Inl→Prop
 | []=>True
 | p :: r=>(P.funcs[p.1]? = some p.2.1∧ZN P p.1)∧NL P r
theorem CL_ok {P:Program}:∀ {l:List (FuncId×Con)},CL P l→∀ f c,Z2 l f=some c→ZUd P f c
 | [],_,_,_,h=>by cases h
 | p :: r,hl,f,c,h=>by
  simp only [Z2] at h
  split at h
  ·rename_i hb;cases h;rw [← Nat.eq_of_beq_eq_true hb];exact hl.1
  ·exact CL_ok hl.2 f c h
theorem OL_ok {P:Program}:∀ {l:List (FuncId×ConO)},OL P l→∀ f c,Z2 l f=some c→Z4e P f c
 | [],_,_,_,h=>by cases h
 | p :: r,hl,f,c,h=>by
  simp only [Z2] at h
  split at h
  ·rename_i hb;cases h;rw [← Nat.eq_of_beq_eq_true hb];exact hl.1
  ·exact OL_ok hl.2 f c h
theorem IL_ok {P:Program}:∀ {l:List (FuncId×ConI)},IL P l→∀ f c,Z2 l f=some c→ZRl P f c
 | [],_,_,_,h=>by cases h
 | p :: r,hl,f,c,h=>by
  simp only [Z2] at h
  split at h
  ·rename_i hb;cases h;rw [← Nat.eq_of_beq_eq_true hb];exact hl.1
  ·exact IL_ok hl.2 f c h
theorem ML_ok {P:Program}:∀ {l:List ((TypeId×String)×FuncId)},ML P l→∀ t s f,lkM l t s=some f→∀ y w,(method (P.types.size+Made.depth) t y s).run P w = .ok (f,y) w
 | [],_,_,_,_,h=>by cases h
 | p :: r,hl,t,s,f,h=>by
  simp only [lkM] at h
  split at h
  ·rename_i hb hs
   cases h
   rw [← Nat.eq_of_beq_eq_true hb,← eq_of_beq hs];exact hl.1
  ·exact ML_ok hl.2 t s f h
def QL (P:Program):List (FuncId×ConM)→Prop
 | []=>True
 | p :: r=>Zmh P p.1 p.2∧QL P r
theorem QL_ok {P:Program}:∀ {l:List (FuncId×ConM)},QL P l→∀ f c,Z2 l f=some c→Zmh P f c
 | [],_,_,_,h=>by cases h
 | p :: r,hl,f,c,h=>by
  simp only [Z2] at h
  split at h
  ·rename_i hb;cases h;rw [← Nat.eq_of_beq_eq_true hb];exact hl.1
  ·exact QL_ok hl.2 f c h
def BL (P:Program):List (FuncId×ConB)→Prop
 | []=>True
 | p :: r=>Zsg P p.1 p.2∧BL P r
theorem BL_ok {P:Program}:∀ {l:List (FuncId×ConB)},BL P l→∀ f c,Z2 l f=some c→Zsg P f c
 | [],_,_,_,h=>by cases h
 | p :: r,k,f,c,h=>by
  simp only [Z2] at h
  split at h
  ·rename_i hb
   cases h
   rw [← Nat.eq_of_beq_eq_true hb];exact k.1
  ·exact BL_ok k.2 f c h
def DL (P:Program):List (FuncId×ConD)→Prop
 | []=>True
 | p :: r=>Zgh P p.1 p.2∧DL P r
theorem DL_ok {P:Program}:∀ {l:List (FuncId×ConD)},DL P l→∀ f c,Z2 l f=some c→Zgh P f c
 | [],_,_,_,h=>by cases h
 | p :: r,k,f,c,h=>by
  simp only [Z2] at h
  split at h
  ·rename_i hb
   cases h
   rw [← Nat.eq_of_beq_eq_true hb];exact k.1
  ·exact DL_ok k.2 f c h
theorem CfOK.of {C:Cf} (hc:CL C.P C.cons) (ho:OL C.P C.owns) (hi:IL C.P C.ins) (hm:ML C.P C.meths) (hq:QL C.P C.omats:=by exact trivial) (hb:BL C.P C.boxs:=by exact trivial) (hd:DL C.P C.dels:=by exact trivial):CfOK C:=⟨CL_ok hc,OL_ok ho,IL_ok hi,ML_ok hm,QL_ok hq,BL_ok hb,DL_ok hd⟩
theorem ZYb.of {C:Cf}:∀ {l:Inl},NL C.P l→ZYb C l
 | [],_,_,_,h=>by cases h
 | p :: r,hl,g,q,h=>by
  simp only [Z2] at h
  split at h
  ·rename_i hb;cases h;rw [← Nat.eq_of_beq_eq_true hb];exact hl.1
  ·exact ZYb.of (l:=r) hl.2 g q h
def endO (ty:TypeId) (t:T) (c:V) (l:Lo):Option (List t.den):=match c with
 | .cons (.own u) .nl=>match lkE l u with
  | some ⟨_,_,.own ty' t' xs false⟩=>match Nat.beq ty' ty with
   | true=>Zcc t' t xs
   | false=>none
  | _=>none
 | _=>none
def ZAj (C:Cf) (inl:Inl) (fn:Func) (ann:Ann) (ats:List T) (ty:TypeId) (t:T) (x:ZB ats):Option (List t.den):=match fn.body with
 | some c=>Zsb C (Zrf C inl 20) fn.results.toList 0 fn.ntmps c _ ann (Zob 0 0 (ZZb ats x)) [] 1 ⟨fun _ _ _=>none,fun _ _ _ _=>none,fun c l _=>endO ty t c l⟩
 | none=>none
theorem Z4x {C:Cf} (hC:CfOK C) {inl:Inl} (hinl:ZYb C inl) {f:FuncId} {fn:Func} {ann:Ann} {ats:List T} {ty:TypeId} {t:T} {x:ZB ats} {z:List t.den} (hf:C.P.funcs[f]? = some fn) (hl:Nat.ble ats.length fn.ntmps=true) (h:ZAj C inl fn ann ats ty t x=some z)
  {w:World} {v:Zb} {vals:List Value} (hv:VIn v w) (ha:ZVa v ats vals x):RetO C.P f vals.toArray w v fun y v' w'=>OwnR t.rep ty t.n z w y v' w':=by
 unfold ZAj at h;split at h
 ·rename_i c hc;obtain ⟨h1,h2,h3⟩:=Ztg (γ:=fun _=>.box 0) (l:=[]) (U:=(· < 0)) ha;have hK:vals.length≤fn.ntmps:=by rw [h3];exact Nat.le_of_ble_eq_true hl
  refine Zsl hv hf hc rfl hK fun a hS=>?_;have hr:RelX fn.ntmps (fun _ _=>False) w v (· < 1) (· < 1) (Zob 0 0 (ZZb ats x)) [] a w (fun _=>.box 0) v []:=by
   refine ⟨⟨hS.size,hS.dfr,fun t x h=>(by cases h),hS.ext,hS.vst,hS.loc,hS.nd⟩,fun t e he=>?_,⟨[],trivial,List.Perm.refl _⟩,List.nodup_nil,fun t e he=>?_,fun e he=>(by cases he),fun x y h=>h.elim⟩
   ·obtain ⟨y,q1,q2,q3,q4,q5⟩:=Zmc h1 h2 he;have:=hS.fr t y ?_
    ·rw [this];exact q3
    ·have q2:vals[t-0]? = some y:=q2;have:=ZOi (k:=0) (t:=t) (y:=y) (by simpa using q2)
     rwa [Nat.zero_add] at this
   ·obtain ⟨y,q1,q2,q3,q4,q5⟩:=Zmc h1 h2 he;exact ⟨V.ok.mono (fun k h=>absurd h (Nat.not_lt_zero k)) q4,by show e.st<1;omega⟩
  refine Z7h hC (Z5k hC hinl 20) c h ⟨_,_,_,hr⟩ ⟨fun f' l' n' a' w' hp hn' ho' hr'=>(by cases hp),fun i f' l' n' a' w' hp hn' ho' hr'=>(by cases hp),fun c l' n' a' w' hp hn' ho' hr'=>?_⟩;obtain ⟨γ',v',ℓ',vals',hr',hc',hk',hres⟩:=hr';have hp:endO ty t c l'=some z:=hp;unfold endO at hp;split at hp
  ·rename_i u;split at hp
   ·rename_i kk st ty' t' xs he;split at hp
    ·rename_i hty;have hty:=Nat.eq_of_beq_eq_true hty;subst hty;obtain ⟨e1,e2⟩:=Z7 hp
     cases e1;cases e2
     obtain ⟨c1,xs1,rfl,⟨y,rfl,_,hy⟩,hx1⟩:=hc';have hx1:xs1=[]:=hx1;subst hx1;obtain ⟨ob,cap,g1,rfl⟩:=hy _ he;obtain ⟨hkk,es,hes,hmem⟩:=hr'.loc he;have hkk:kk=_:=hkk;subst hkk;obtain ⟨ob',cap',cs,q1,q2,rfl⟩:=hes;have q1:γ' kk = .own ob' cap':=q1;rw [g1] at q1;cases q1;obtain ⟨jj,hj⟩:=hmem _ List.mem_cons_self;obtain ⟨hh,hb⟩:=hr'.st.loc _ (List.mem_of_getElem? hj);refine ⟨hr'.st.dfr,_,Z0f hres,_,v',rfl,hr'.st.ext.ext,hr'.st.vst.ext,ob,_,cap,cs,rfl,hh,fun b e=>?_,q2,rfl⟩;obtain ⟨h1,h2⟩:=hb b e;rcases h1 with h1 | h1
     ·exact ⟨h1,h2⟩
     ·cases h1
    ·cases hp
   ·cases hp
  ·cases hp
 ·cases h
theorem cono_k {C:Cf} (hc:CL C.P C.cons) (ho:OL C.P C.owns) (hi:IL C.P C.ins) (hm:ML C.P C.meths) {inl:Inl} (hn:NL C.P inl) {f:FuncId} {fn:Func} {ann:Ann} {con:ConO} (hf:C.P.funcs[f]? = some fn) (hen:ZN C.P f) (hl:Nat.ble con.args.length fn.ntmps=true)
  (h:∀ x z,con.F x=some z→ZAj C inl fn ann con.args con.ty con.t x=some z) (hq:QL C.P C.omats:=by exact trivial) (hb:BL C.P C.boxs:=by exact trivial) (hd:DL C.P C.dels:=by exact trivial):Z4e C.P f con :=
 fun _ _ _ x z hv ha hz=>⟨hen,Z4x (CfOK.of hc ho hi hm hq hb hd) (ZYb.of hn) hf hl (h x z hz) hv ha⟩
def endM (ty ty2:TypeId) (t:T) (c:V) (l:Lo):Option (List (List t.den)):=match c with
 | .cons (.own u) .nl=>match lkE l u with
  | some ⟨_,_,.mat ty' ty2' t' m _⟩=>match Nat.beq ty' ty,Nat.beq ty2' ty2 with
   | true,true=>ZBb t' t m
   | _,_=>none
  | _=>none
 | _=>none
def Ztk (C:Cf) (inl:Inl) (fn:Func) (ann:Ann) (ats:List T) (ty ty2:TypeId) (t:T) (x:ZB ats):Option (List (List t.den)):=match fn.body with
 | some c=>Zsb C (Zrf C inl 20) fn.results.toList 0 fn.ntmps c _ ann (Zob 0 0 (ZZb ats x)) [] 1 ⟨fun _ _ _=>none,fun _ _ _ _=>none,fun c l _=>endM ty ty2 t c l⟩
 | none=>none
theorem ZOv {ℓ es:List Loc} {E:List Loc} (h:(ℓ.filterMap Loc.blk).Nodup) (hp:ℓ.Perm (es++E)):(es.filterMap Loc.blk).Nodup:=by
 have h1:=(hp.filterMap Loc.blk).nodup_iff.1 h;rw [List.filterMap_append] at h1;exact (List.nodup_append.1 h1).1
theorem ZYx {C:Cf} (hC:CfOK C) {inl:Inl} (hinl:ZYb C inl) {f:FuncId} {fn:Func} {ann:Ann} {ats:List T} {ty ty2:TypeId} {t:T} {x:ZB ats} {z:List (List t.den)} (hf:C.P.funcs[f]? = some fn) (hl:Nat.ble ats.length fn.ntmps=true) (h:Ztk C inl fn ann ats ty ty2 t x=some z)
  {w:World} {v:Zb} {vals:List Value} (hv:VIn v w) (ha:ZVa v ats vals x):RetO C.P f vals.toArray w v (OwnM ty ty2 t z w):=by
 unfold Ztk at h;split at h
 ·rename_i c hc;obtain ⟨h1,h2,h3⟩:=Ztg (γ:=fun _=>.box 0) (l:=[]) (U:=(· < 0)) ha;have hK:vals.length≤fn.ntmps:=by rw [h3];exact Nat.le_of_ble_eq_true hl
  refine Zsl hv hf hc rfl hK fun a hS=>?_;have hr:RelX fn.ntmps (fun _ _=>False) w v (· < 1) (· < 1) (Zob 0 0 (ZZb ats x)) [] a w (fun _=>.box 0) v []:=by
   refine ⟨⟨hS.size,hS.dfr,fun t x h=>(by cases h),hS.ext,hS.vst,hS.loc,hS.nd⟩,fun t e he=>?_,⟨[],trivial,List.Perm.refl _⟩,List.nodup_nil,fun t e he=>?_,fun e he=>(by cases he),fun x y h=>h.elim⟩
   ·obtain ⟨y,q1,q2,q3,q4,q5⟩:=Zmc h1 h2 he;have:=hS.fr t y ?_
    ·rw [this];exact q3
    ·have q2:vals[t-0]? = some y:=q2;have:=ZOi (k:=0) (t:=t) (y:=y) (by simpa using q2)
     rwa [Nat.zero_add] at this
   ·obtain ⟨y,q1,q2,q3,q4,q5⟩:=Zmc h1 h2 he;exact ⟨V.ok.mono (fun k h=>absurd h (Nat.not_lt_zero k)) q4,by show e.st<1;omega⟩
  refine Z7h hC (Z5k hC hinl 20) c h ⟨_,_,_,hr⟩ ⟨fun f' l' n' a' w' hp hn' ho' hr'=>(by cases hp),fun i f' l' n' a' w' hp hn' ho' hr'=>(by cases hp),fun c l' n' a' w' hp hn' ho' hr'=>?_⟩;obtain ⟨γ',v',ℓ',vals',hr',hc',hk',hres⟩:=hr';have hp:endM ty ty2 t c l'=some z:=hp;unfold endM at hp;split at hp
  ·rename_i u;split at hp
   ·rename_i kk st ty' ty2' t' m' hv' he;split at hp
    ·rename_i hty hty2;have hty:=Nat.eq_of_beq_eq_true hty;have hty2:=Nat.eq_of_beq_eq_true hty2;subst hty hty2;obtain ⟨e1,e2⟩:=Z7 hp
     cases e1;cases e2
     obtain ⟨c1,xs1,rfl,⟨y,rfl,_,hy⟩,hx1⟩:=hc';have hx1:xs1=[]:=hx1;subst hx1;obtain ⟨ob,cap,rows0,g1,rfl⟩:=hy _ he;obtain ⟨E,hE,hpm⟩:=hr'.lr;obtain ⟨es,E',r1,r2,r3⟩:=Zeg hE he;obtain ⟨ob',cap',rows,es2,q1,q2,rfl⟩:=r1;have hkk:kk=_:=(Zr he).2;subst hkk;have q1:γ' kk = .mat ob' cap' rows:=q1;rw [g1] at q1;cases q1;refine ⟨hr'.st.dfr,_,Z0f hres,_,v',rfl,hr'.st.ext.ext,hr'.st.vst.ext,_,_,_,es2,rfl,q2,fun x hx=>?_,ZOv hr'.st.nd (hpm.trans r3)⟩;obtain ⟨hh,hb⟩:=hr'.st.loc x ((hpm.trans r3).mem_iff.2 (List.mem_append_left _ hx));refine ⟨hh,fun b e=>?_⟩;obtain ⟨h1,h2⟩:=hb b e;rcases h1 with h1 | h1
     ·exact ⟨h1,h2⟩
     ·cases h1
    ·cases hp
   ·cases hp
  ·cases hp
 ·cases h
theorem conm_k {C:Cf} (hc:CL C.P C.cons) (ho:OL C.P C.owns) (hi:IL C.P C.ins) (hm:ML C.P C.meths) {inl:Inl} (hn:NL C.P inl) {f:FuncId} {fn:Func} {ann:Ann} {con:ConM} (hf:C.P.funcs[f]? = some fn) (hen:ZN C.P f) (hl:Nat.ble con.args.length fn.ntmps=true)
  (h:∀ x z,con.F x=some z→Ztk C inl fn ann con.args con.ty con.ty2 con.t x=some z) (hq:QL C.P C.omats:=by exact trivial) (hb:BL C.P C.boxs:=by exact trivial) (hd:DL C.P C.dels:=by exact trivial):Zmh C.P f con :=
 fun _ _ _ x z hv ha hz=>⟨hen,ZYx (CfOK.of hc ho hi hm hq hb hd) (ZYb.of hn) hf hl (h x z hz) hv ha⟩
def endB (ty:TypeId) (c:CT) (rts:List T) (cv:V) (l:Lo) (n:Nat):Option (c.den×ZB rts):=ZLa n (ZEe rts cv fun y=>ZVc 0 (.box ty c) 0 fun z=>.done (z,y)) [] l fun r _ _=>some r
def Zhl (C:Cf) (inl:Inl) (fn:Func) (ann:Ann) (ty:TypeId) (c:CT) (ats rts:List T) (z:c.den) (x:ZB ats):Option (c.den×ZB rts):=match fn.body with
 | some cd=>match Zba 0 (.box ty c) z 0 1 with
  | (l,m)=>Zsb C (Zrf C inl 20) fn.results.toList m fn.ntmps cd _ ann (Zob 0 0 (.cons (.ptr 0 0) (ZZb ats x))) l m ⟨endN fn (endB ty c rts),fun _ _ _ _=>none,endB ty c rts⟩
 | none=>none
theorem Zyy {C:Cf} (hC:CfOK C) {inl:Inl} (hinl:ZYb C inl) {f:FuncId} {fn:Func} {ann:Ann} {ty:TypeId} {c:CT} {ats rts:List T} {z:c.den} {x:ZB ats} {r:c.den×ZB rts} (hf:C.P.funcs[f]? = some fn) (hl:Nat.ble (ats.length+1) fn.ntmps=true) (h:Zhl C inl fn ann ty c ats rts z x=some r)
  {w:World} {v:Zb} {b:Nat} {es:List Loc} {vals:List Value} (hv:VIn v w) (hz:CRL v (.box ty c) z (.box b) es) (hes:∀ e ∈ es,e.holds w∧∀ k,e.blk=some k→v k=none) (hnd:(es.filterMap Loc.blk).Nodup) (ha:ZVa v ats vals x) :
  ZYc C.P f (Value.pointer (some ⟨b,0,none⟩) :: vals).toArray w v (es.filterMap Loc.blk) (OwnB ty c rts b r (es.filterMap Loc.blk) w):=by
 unfold Zhl at h;split at h
 ·rename_i cd hc;obtain ⟨k1,k2,k3,γ0,k4,k5⟩:=Zwn (hh:=0) (u:=0) (n:=1) hz (by omega) (by omega) (l2:=(Zba 0 (.box ty c) z 0 1).1) (n2:=(Zba 0 (.box ty c) z 0 1).2) rfl;have hkk:∀ e ∈ (Zba 0 (.box ty c) z 0 1).1,lkE (Zba 0 (.box ty c) z 0 1).1 e.k=some e:=fun e he=>Z0d k3 he;obtain ⟨E,hE,hpE⟩:=k5 γ0 _ fun e he=>⟨rfl,hkk e he⟩;have hhd:∀ e,lkE (Zba 0 (.box ty c) z 0 1).1 0=some e→∃ xh,e.x = .box ty xh:=fun e he=>by
   obtain ⟨hm,hk0⟩:=Zr he;rcases (k2 e hm).1 with ⟨_,q⟩ | q
   ·exact q
   ·omega
  have h:Zsb C (Zrf C inl 20) fn.results.toList (Zba 0 (.box ty c) z 0 1).2 fn.ntmps cd _ ann (Zob 0 0 (.cons (.ptr 0 0) (ZZb ats x))) (Zba 0 (.box ty c) z 0 1).1 (Zba 0 (.box ty c) z 0 1).2 _=some r:=h;generalize (Zba 0 (.box ty c) z 0 1).1=lI at k2 k3 hE hkk hhd h;generalize (Zba 0 (.box ty c) z 0 1).2=m at k1 k2 h;have hargs:RR v γ0 lI true (.cons (.ptr 0 0) (ZZb ats x)) (Value.pointer (some ⟨b,0,none⟩) :: vals):=by
   obtain ⟨q1,q2,q3⟩:=Ztg (γ:=γ0) (l:=lI) (U:=(· < 0)) ha;refine ⟨[.pointer (some ⟨b,0,none⟩)],vals,rfl,⟨_,rfl,rfl,fun e he=>?_⟩,q1⟩;obtain ⟨xh,hx⟩:=hhd e he;rw [hx];exact ⟨b,k4,rfl⟩
  have hok:(V.cons (.ptr 0 0) (ZZb ats x)).ok (· < m):=⟨(show 0<m by omega),V.ok.mono (fun k h=>absurd h (Nat.not_lt_zero k)) (Ztg (γ:=γ0) (l:=lI) (U:=(· < 0)) ha).2.1⟩;have hlen:=(Ztg (γ:=γ0) (l:=lI) (U:=(· < 0)) ha).2.2;have hK:vals.length+1≤fn.ntmps:=by rw [hlen];exact Nat.le_of_ble_eq_true hl
  refine calls_of_wp hf hc ?_;have hS:=St.enter (K:=fn.ntmps) hv (Value.pointer (some ⟨b,0,none⟩) :: vals) (by simpa using hK);have hlent:∀ e ∈ es,∀ k,e.blk=some k→k ∈ es.filterMap Loc.blk:=fun e he k hk=>List.mem_filterMap.2 ⟨e,he,hk⟩;have hr:RelX fn.ntmps (fun x y=>x = .ptr 0 0∧y = .pointer (some ⟨b,0,none⟩)) ⟨w,es.filterMap Loc.blk⟩ v (· < m) (· < m) (Zob 0 0 (.cons (.ptr 0 0) (ZZb ats x))) lI { tmps:=(Value.pointer (some ⟨b,0,none⟩) :: vals).toArray++Array.replicate (fn.ntmps-(Value.pointer (some ⟨b,0,none⟩) :: vals).toArray.size) undef,defers:=[] } w γ0 v es:=by
   refine ⟨⟨hS.size,hS.dfr,fun t x h=>(by cases h),ExtB.refl ⟨w,es.filterMap Loc.blk⟩,⟨Zb.le_refl _,hv,fun _ _ _=>rfl⟩,fun e he=>⟨(hes e he).1,fun k hk=>⟨.inr (hlent e he k hk),(hes e he).2 k hk⟩⟩,hnd⟩,fun t e he=>?_,⟨E,hE,hpE⟩,k3,fun t e he=>?_,fun e he=>?_,fun x y hg=>?_⟩
   ·obtain ⟨y,q1,q2,q3,q4,q5⟩:=Zmc hargs hok he;have:=hS.fr t y ?_
    ·rw [this];exact q3
    ·have:=ZOi (k:=0) (t:=t) (y:=y) (by simpa using q2)
     rwa [Nat.zero_add] at this
   ·obtain ⟨y,q1,q2,q3,q4,q5⟩:=Zmc hargs hok he;exact ⟨q4,by show e.st<m;omega⟩
   ·obtain ⟨q1,q2,q3,q4⟩:=k2 e he;refine ⟨?_,q3,q4⟩;rcases q1 with ⟨q1,_⟩ | q1
    ·show e.k<m;omega
    ·exact q1.2
   ·obtain ⟨rfl,rfl⟩:=hg;obtain ⟨c1,xs1,q1,q2,q3⟩:=hargs;obtain ⟨yy,rfl,q4⟩:=q2;have q1:Value.pointer (some ⟨b,0,none⟩)=yy:=(List.cons.inj q1).1;subst q1;exact ⟨⟨_,⟨_,rfl,q4⟩,rfl⟩,(show 0<m by omega)⟩
  have fin:∀ {cv:V} {l':Lo} {n':Nat} {a':Act} {w':World} {γ':Nat→Gh} {v':Zb} {ℓ':List Loc} {vals':List Value},endB ty c rts cv l' n'=some r→m≤n'→RelX fn.ntmps (fun x y=>x = .ptr 0 0∧y = .pointer (some ⟨b,0,none⟩)) ⟨w,es.filterMap Loc.blk⟩ v (· < n') (· < n') [] l' a' w' γ' v' ℓ'→RR v' γ' l' true cv vals'→cv.ok (· < n') →
    ∃ v2,ExtB ⟨w,es.filterMap Loc.blk⟩ w'∧VStepB ⟨w,es.filterMap Loc.blk⟩ v w' v2∧OwnB ty c rts b r (es.filterMap Loc.blk) w (Zdf vals') v2 w':=by
   intro cv l' n' a' w' γ' v' ℓ' vals' hx hmn hr' hcv hck;have h1:=ZMh hx;have hr1:RelX fn.ntmps (fun x y=>x = .ptr 0 0∧y = .pointer (some ⟨b,0,none⟩)) ⟨w,es.filterMap Loc.blk⟩ v (· < n') (· < n'+1) [] l' a' w' γ' v' ℓ':=hr'.mono (fun _ h=>h) fun k h=>(show k<n'+1 by have:k<n':=h;omega);obtain ⟨y,l1,γ1,v1,ℓ1,h2,r1,le1,q1⟩:=ZWf (U:=(· < n')) (X:=(· < n'+1)) (Nat.lt_irrefl n') (Nat.lt_succ_self n') h1 hr1 hck;obtain ⟨z2,l2,γ2,v2,ℓ2,es2,e0,h3,r2,hst,le2,hcrl,he0,hnone,hhead⟩:=ZIo (U:=(· < n')) (X:=(· < n'+1)) (Nat.lt_irrefl n') (Nat.lt_succ_self n') (ex:=[]) (show 0<n' by omega) h2 r1 r1.st;have h3:some (z2,y)=some r:=h3
   cases h3
   have hst:St fn.ntmps ⟨w,es.filterMap Loc.blk⟩ v [] (es2++ℓ2) v2 a' w':=hst;obtain ⟨b2,c1,e1,hg,hcr,hpl,hes2⟩:=hcrl;have hbb:b2=b:=by
    obtain ⟨⟨cs,⟨yy,rfl,_,hy⟩,hyy⟩,_⟩:=r1.gh _ _ ⟨rfl,rfl⟩;have hyy:Value.pointer (some ⟨b,0,none⟩)=yy:=hyy;subst hyy;obtain ⟨xh,hxh⟩:=hhead;have hy:=hy _ he0;rw [hxh] at hy;obtain ⟨b3,t1,t2⟩:=hy;rw [hg] at t1;cases t1;cases t2;rfl
   subst hbb;refine ⟨v2,hst.ext,hst.vst,Zgs (ZDm le2.v (q1 _ hcv)),es2,⟨b2,c1,e1,rfl,hcr,hpl,hes2⟩,fun e he=>?_,?_⟩
   ·exact hst.loc e (List.mem_append_left _ he)
   ·have:=hst.nd;rw [List.filterMap_append] at this;exact (List.nodup_append.1 this).1
  refine Z7h hC (Z5k hC hinl 20) cd h ⟨_,_,_,hr⟩ ⟨fun f' l' n' a' w' hp hn' ho' hr'=>?_,fun i f' l' n' a' w' hp hn' ho' hr'=>(by cases hp),fun cv l' n' a' w' hp hn' ho' hr'=>?_⟩
  ·unfold endN at hp;split at hp
   ·rename_i hres;obtain ⟨γ',v',ℓ',hr'⟩:=hr';have hr2:RelX fn.ntmps (fun x y=>x = .ptr 0 0∧y = .pointer (some ⟨b,0,none⟩)) ⟨w,es.filterMap Loc.blk⟩ v (· < n') (· < n') [] l' a' w' γ' v' ℓ':=⟨⟨hr'.st.size,hr'.st.dfr,fun t x h=>(by cases h),hr'.st.ext,hr'.st.vst,hr'.st.loc,hr'.st.nd⟩,fun t e he=>(by cases he),hr'.lr,hr'.nd,fun t e he=>(by cases he),hr'.ul,hr'.gh⟩;obtain ⟨v2,t1,t2,t3⟩:=fin hp hn' hr2 (vals':=[]) rfl trivial;exact ⟨hr'.st.dfr,_,Z0f (vals:=[]) (by rw [hres];exact trivial),_,v2,rfl,t1,t2,t3⟩
   ·cases hp
  ·obtain ⟨γ',v',ℓ',vals',hr',hc',hk',hres⟩:=hr';obtain ⟨v2,t1,t2,t3⟩:=fin hp hn' hr' hc' hk';exact ⟨hr'.st.dfr,_,Z0f hres,_,v2,rfl,t1,t2,t3⟩
 ·cases h
theorem conb_k {C:Cf} (hc:CL C.P C.cons) (ho:OL C.P C.owns) (hi:IL C.P C.ins) (hm:ML C.P C.meths) {inl:Inl} (hn:NL C.P inl) {f:FuncId} {fn:Func} {ann:Ann} {con:ConB} (hf:C.P.funcs[f]? = some fn) (hen:ZN C.P f) (hl:Nat.ble (con.args.length+1) fn.ntmps=true)
  (h:∀ z x r,con.F z x=some r→Zhl C inl fn ann con.ty con.c con.args con.res z x=some r) (hq:QL C.P C.omats:=by exact trivial) (hb:BL C.P C.boxs:=by exact trivial) (hd:DL C.P C.dels:=by exact trivial):Zsg C.P f con :=
 fun _ _ _ _ _ z x r hv hz hes hnd ha hF=>⟨hen,Zyy (CfOK.of hc ho hi hm hq hb hd) (ZYb.of hn) hf hl (h z x r hF) hv hz hes hnd ha⟩
theorem tr:True:=trivial
abbrev Ann.n (a:Ann):Ann:=.two .no a
abbrev Ann.f (a:Ann):Ann:=.two a .no
abbrev Ann.j (s:List Nat) (p:List Pl) (v:List Vr) (a:Ann):Ann:=.cut ⟨⟨[],[],[]⟩,[(.norm,⟨s,p,v⟩)]⟩ a
abbrev Ann.r (s:List Nat) (p:List Pl) (v:List Vr) (a:Ann):Ann:=.cut ⟨⟨[],[],[]⟩,[(.ret,⟨s,p,v⟩)]⟩ a
abbrev Ann.l (s:List Nat) (p:List Pl) (v:List Vr) (k:Nat) (s':List Nat) (p':List Pl) (v':List Vr) (a:Ann):Ann:=.cut ⟨⟨s,p,v⟩,[(.exit k,⟨s',p',v'⟩)]⟩ a
def ConR (P:Program) (f:FuncId) (c:Con):Prop:=∀ (w:World) (v:Zb) (vals:List Value) (x:ZB c.args) (z:ZB c.res),VIn v w→ZVa v c.args vals x→c.F x=some z→ZN P f∧Ret P f vals.toArray w v fun y v'=>ZIe v' c.res y z
theorem Zh {P:Program} {f:FuncId} {c:Con} (h:ConR P f c):ZUd P f c:=fun w v vals x z hv ha hz=>.inl (h w v vals x z hv ha hz)
theorem Zu {f:FuncId} {ats rts:List T} {F:ZB ats→Option (ZB rts)} {C:Cf} (ann:Ann) {fn:Func} (hf:C.P.funcs[f]? = some fn) (inl:Inl) (h:∀ x,ZXi C inl fn ann ats rts x=F x) (hc:CL C.P C.cons:=by exact tr) (ho:OL C.P C.owns:=by exact tr) (hm:ML C.P C.meths:=by exact tr) (hn:NL C.P inl:=by exact tr)
  (hq:QL C.P C.omats:=by exact tr) (hb:BL C.P C.boxs:=by exact tr) (hd:DL C.P C.dels:=by exact tr) (hi:IL C.P C.ins:=by exact tr) (hen:ZN C.P f:=by exact fun _ _=>by kernel_rfl) (hl:Nat.ble ats.length fn.ntmps=true:=by exact rfl):ConR C.P f ⟨ats,rts,F⟩ :=
 fun _ _ _ x _ hv ha hz=>⟨hen,Zzo (CfOK.of hc ho hi hm hq hb hd) (ZYb.of hn) hf hl ((h x).trans hz) hv ha⟩
theorem Zz {f:FuncId} {ats rts:List T} {F:ZB ats→Option (ZB rts)} {C:Cf} (ann:Ann) {fn:Func} (hf:C.P.funcs[f]? = some fn) (inl:Inl) (h:∀ v vals x z,ZVa v ats vals x→F x=some z→ZXi C inl fn ann ats rts x=some z) (hc:CL C.P C.cons:=by exact tr) (ho:OL C.P C.owns:=by exact tr) (hm:ML C.P C.meths:=by exact tr) (hn:NL C.P inl:=by exact tr)
  (hq:QL C.P C.omats:=by exact tr) (hb:BL C.P C.boxs:=by exact tr) (hd:DL C.P C.dels:=by exact tr) (hi:IL C.P C.ins:=by exact tr) (hen:ZN C.P f:=by exact fun _ _=>by kernel_rfl) (hl:Nat.ble ats.length fn.ntmps=true:=by exact rfl):ConR C.P f ⟨ats,rts,F⟩ :=
 fun _ v vals x z hv ha hz=>⟨hen,Zzo (CfOK.of hc ho hi hm hq hb hd) (ZYb.of hn) hf hl (h v vals x z ha hz) hv ha⟩
theorem Zok {f:FuncId} {ax rs:List T} {F:ZB ax→Option (ZB rs)} {C:Cf} (ann:Ann) {fn:Func} (hf:C.P.funcs[f]? = some fn) (inl:Inl) (ats rts:List T) (gA:ZB ax→ZB ats) (gR:ZB rs→ZB rts) (h:∀ v vals x z,ZVa v ax vals x→F x=some z→ZXi C inl fn ann ats rts (gA x)=some (gR z))
  (hc:CL C.P C.cons:=by exact tr) (ho:OL C.P C.owns:=by exact tr) (hm:ML C.P C.meths:=by exact tr) (hn:NL C.P inl:=by exact tr)
  (hA:∀ v vals x,ZVa v ax vals x→ZVa v ats vals (gA x):=by exact fun _ _ _ h=>h) (hR:∀ v y z,ZIe v rts y (gR z)→ZIe v rs y z:=by exact fun _ _ _ h=>h)
  (hq:QL C.P C.omats:=by exact tr) (hb:BL C.P C.boxs:=by exact tr) (hd:DL C.P C.dels:=by exact tr) (hi:IL C.P C.ins:=by exact tr) (hen:ZN C.P f:=by exact fun _ _=>by kernel_rfl) (hl:Nat.ble ats.length fn.ntmps=true:=by exact rfl):ConR C.P f ⟨ax,rs,F⟩ :=
 fun _ v vals x z hv ha hz=>⟨hen,(Zzo (CfOK.of hc ho hi hm hq hb hd) (ZYb.of hn) hf hl (h v vals x z ha hz) hv (hA v vals x ha)).mono fun y v' _ hy=>hR v' y z hy⟩
theorem Zsp {f:FuncId} {ats:List T} {ty:TypeId} {t:T} {F:ZB ats→Option (List t.den)} {C:Cf} (ann:Ann) {fn:Func} (hf:C.P.funcs[f]? = some fn) (inl:Inl) (h:∀ x,ZAj C inl fn ann ats ty t x=F x) (hc:CL C.P C.cons:=by exact tr) (ho:OL C.P C.owns:=by exact tr) (hm:ML C.P C.meths:=by exact tr) (hn:NL C.P inl:=by exact tr)
  (hq:QL C.P C.omats:=by exact tr) (hb:BL C.P C.boxs:=by exact tr) (hd:DL C.P C.dels:=by exact tr) (hi:IL C.P C.ins:=by exact tr) (hen:ZN C.P f:=by exact fun _ _=>by kernel_rfl) (hl:Nat.ble ats.length fn.ntmps=true:=by exact rfl):Z4e C.P f ⟨ats,ty,t,F⟩ :=
 cono_k hc ho hi hm hn hf hen hl (fun x _ hz=>(h x).trans hz) hq hb hd
theorem conm_z {f:FuncId} {ats:List T} {ty ty2:TypeId} {t:T} {F:ZB ats→Option (List (List t.den))} {C:Cf} (ann:Ann) {fn:Func} (hf:C.P.funcs[f]? = some fn) (inl:Inl) (h:∀ x,Ztk C inl fn ann ats ty ty2 t x=F x) (hc:CL C.P C.cons:=by exact tr) (ho:OL C.P C.owns:=by exact tr) (hm:ML C.P C.meths:=by exact tr) (hn:NL C.P inl:=by exact tr)
  (hq:QL C.P C.omats:=by exact tr) (hb:BL C.P C.boxs:=by exact tr) (hd:DL C.P C.dels:=by exact tr) (hi:IL C.P C.ins:=by exact tr) (hen:ZN C.P f:=by exact fun _ _=>by kernel_rfl) (hl:Nat.ble ats.length fn.ntmps=true:=by exact rfl):Zmh C.P f ⟨ats,ty,ty2,t,F⟩ :=
 conm_k hc ho hi hm hn hf hen hl (fun x _ hz=>(h x).trans hz) hq hb hd
theorem ZFg {f:FuncId} {ty:TypeId} {c:CT} {ats rts:List T} {F:c.den→ZB ats→Option (c.den×ZB rts)} {C:Cf} (ann:Ann) {fn:Func} (hf:C.P.funcs[f]? = some fn) (inl:Inl) (h:∀ z x,Zhl C inl fn ann ty c ats rts z x=F z x) (hc:CL C.P C.cons:=by exact tr) (ho:OL C.P C.owns:=by exact tr) (hm:ML C.P C.meths:=by exact tr) (hn:NL C.P inl:=by exact tr)
  (hq:QL C.P C.omats:=by exact tr) (hb:BL C.P C.boxs:=by exact tr) (hd:DL C.P C.dels:=by exact tr) (hi:IL C.P C.ins:=by exact tr) (hen:ZN C.P f:=by exact fun _ _=>by kernel_rfl) (hl:Nat.ble (ats.length+1) fn.ntmps=true:=by exact rfl):Zsg C.P f ⟨ty,c,ats,rts,F⟩ :=
 conb_k hc ho hi hm hn hf hen hl (fun z x _ hz=>(h z x).trans hz) hq hb hd
end Go.Eng
namespace Go.Eng
open Go.Proofs Go.RowKit
abbrev lf:List (TypeId×Nat):=[(43,1),(45,4),(55,0),(57,2),(59,3)]
noncomputable abbrev cf0 (c:List (FuncId×Con)) (m:List Nat) (o:List (FuncId×ConO)) (s:List ((TypeId×String)×FuncId)):Cf:=⟨Tryz.prog,lf,c,m,o,[],s,{}⟩
noncomputable abbrev cf2 (l:List (TypeId×Nat)) (c:List (FuncId×Con)):Cf:=⟨Tryz.prog,l,c,[],[],[],[],{}⟩
noncomputable abbrev cf1 (c:List (FuncId×Con)) (m:List Nat) (o:List (FuncId×ConO)) (s:List ((TypeId×String)×FuncId)) (q:List (FuncId×ConM)) (b:List (FuncId×ConB)) (d:List (FuncId×ConD)):Cf:=⟨Tryz.prog,lf,c,m,o,[],s,⟨q,b,d⟩⟩
abbrev KQ (q:FuncId×Con):=ZUd Tryz.prog q.1 q.2
abbrev KR (q:FuncId×Con):=ConR Tryz.prog q.1 q.2
abbrev KO (q:FuncId×ConO):=Z4e Tryz.prog q.1 q.2
abbrev KW (q:FuncId×ConM):=Zmh Tryz.prog q.1 q.2
abbrev KB (q:FuncId×ConB):=Zsg Tryz.prog q.1 q.2
end Go.Eng
set_option maxRecDepth 100000
set_option maxHeartbeats 4000000
namespace Go.Eng
open Go.Proofs Go.RowKit
noncomputable def Zgv:FuncId×Con:=(83,⟨[.slice (.pair (.int .i64) (.int .i64))],[.bool],fun p=>ZSf p⟩)
theorem ZIx:KQ Zgv:=Zh (Zu (C:=cf0 [] [] [] []) (.n (.f (.n (.f (.cut ⟨⟨[5,6],[],[.s 7 (.dat (.int .i64))]⟩,[(.exit 0,⟨[],[],[]⟩),(.ret,⟨[],[],[.s 1000 (.dat .bool)]⟩)]⟩ (.f (.n (.n (.f (.f (.n (.f (.j [5,6,7] [] [.s 24 (.dat .bool)] .no))))))))))))) Tryz.func83 [] (fun _=>by kernel_rfl))
end Go.Eng
set_option maxRecDepth 100000
set_option maxHeartbeats 4000000
namespace Go.Eng
open Go.Proofs Go.RowKit
noncomputable def Zlp:FuncId×Con:=(38,⟨[.slice (.slice (.pair (.int .i64) (.int .i64)))],[.bool],fun p=>ZLj p⟩)
theorem few2_k:KQ Zlp:=Zh (Zu (C:=cf0 [Zgv] [] [] []) (.n (.two (.n (.f (.f (.j [] [] [.s 2 (.dat .bool)] .no)))) (.f (.n (.f (.cut ⟨⟨[0,16,17],[],[.s 18 (.dat (.int .i64))]⟩,[(.exit 0,⟨[],[],[]⟩),(.ret,⟨[],[],[.s 1000 (.dat .bool)]⟩)]⟩ (.f (.n (.n (.f (.f (.n (.f (.j [0,16,17,18] [] [.s 44 (.dat .bool)] .no)))))))))))))) Tryz.func38 [] (fun _=>by kernel_rfl) ⟨ZIx,tr⟩)
end Go.Eng
set_option maxRecDepth 100000
set_option maxHeartbeats 4000000
namespace Go.Eng
open Go.Proofs Go.RowKit
noncomputable def ZVq:FuncId×Con:=(7,⟨[.slice (.slice (.pair (.int .i64) (.int .i64))),.slice (.pair (.int .i64) (.int .i64)),.slice (.pair (.int .i64) (.int .i64))],[.bool],fun p=>Zxj p.1 p.2.1 p.2.2⟩)
theorem ZCv:KQ ZVq:=Zh (Zu (C:=cf0 [Zlp] [] [] []) (.n (.f (.j [] [] [.s 6 (.dat .bool)] .no))) Tryz.func7 [] (fun _=>by kernel_rfl) ⟨few2_k,tr⟩)
end Go.Eng
set_option maxRecDepth 100000
set_option maxHeartbeats 4000000
namespace Go.Eng
open Go.Proofs Go.RowKit
noncomputable def Zce:FuncId×Con:=(125,⟨[.slice (.int .u32)],[.leaf 1],fun p=>Zcb p⟩)
theorem ZOe:KQ Zce:=Zh (Zok (C:=cf2 [] []) (.n (.n (.f (.j [0] [] [.s 3 (.dat (.int .i64))] (.f (.l [0] [] [.s 3 (.dat (.int .i64))] 0 [0] [] [.s 3 (.dat (.int .i64))] (.f (.f (.f (.j [0,3] [] [.s 15 (.dat .bool)] .no)))))))))) Tryz.func125 [] [.slice (.int .u32)] [.slice (.int .u32)] (fun x=>(x)) (fun z=>(Zc 4294967296 z)) (fun v vals x z ha hz=>by obtain ⟨c0,e0,p0⟩:=ha;exact .trans (by kernel_rfl) (by cases hz;exact (rcut_eq (Z4o p0).1 (Z4o p0).2))))
end Go.Eng
set_option maxRecDepth 100000
set_option maxHeartbeats 4000000
namespace Go.Eng
open Go.Proofs Go.RowKit
noncomputable def ZVh:FuncId×Con:=(90,⟨[.int .u64],[.leaf 1],fun p=>Z9b p⟩)
theorem ZGl:KQ ZVh:=Zh (Zz (C:=cf2 [(43,1),(45,4)] [Zce]) .no Tryz.func90 [] (fun v vals x z ha hz=>by obtain ⟨c0,e0,p0⟩:=ha;exact .trans (by kernel_rfl) (Ztz p0.2 hz)) ⟨ZOe,tr⟩)
end Go.Eng
set_option maxRecDepth 100000
set_option maxHeartbeats 4000000
namespace Go.Eng
open Go.Proofs Go.RowKit
noncomputable def Zfj:FuncId×Con:=(101,⟨[.leaf 1,.leaf 1],[.int .i64],fun p=>ZBc p.1 p.2⟩)
theorem Zwl:KQ Zfj:=Zh (Zz (C:=cf2 [(43,1),(45,4)] []) (.n (.n (.n (.f (.n (.cut ⟨⟨[],[],[]⟩,[(.norm,⟨[],[],[]⟩),(.ret,⟨[],[],[.s 1000 (.dat (.int .i64))]⟩)]⟩ (.f (.cut ⟨⟨[0,1],[],[.s 5 (.dat (.int .i64))]⟩,[(.ret,⟨[],[],[.s 1000 (.dat (.int .i64))]⟩),(.exit 0,⟨[],[],[]⟩)]⟩ .no)))))))) Tryz.func101 [] (fun v vals x z ha hz=>by obtain ⟨c0,w0,e0,p0,c1,e1,p1⟩:=ha;exact .trans (by kernel_rfl) ((Zfy (Zks p0) (Zks p1)).trans hz)))
end Go.Eng
set_option maxRecDepth 100000
set_option maxHeartbeats 4000000
namespace Go.Eng
open Go.Proofs Go.RowKit
noncomputable def Zio:FuncId×Con:=(134,⟨[.leaf 1,.int .u32],[.leaf 1,.int .u32],fun p=>ZQe p.1 p.2⟩)
theorem Zbq:KQ Zio:=Zh (Zz (C:=cf2 [(43,1),(45,4)] [Zce]) (.n (.n (.n (.f (.n (.j [] [] [.s 6 (.own 154 (.int .u32)),.s 7 (.dat (.int .u64))] (.f (.l [0,1] [] [.s 6 (.own 154 (.int .u32)),.s 7 (.dat (.int .u64)),.s 8 (.dat (.int .i64))] 0 [] [] [.s 6 (.own 154 (.int .u32)),.s 7 (.dat (.int .u64))] .no)))))))) Tryz.func134 [] (fun v vals x z ha hz=>by obtain ⟨c0,w0,e0,p0,c1,e1,p1⟩:=ha;exact .trans (by kernel_rfl) (ZwA p1.2 hz)) ⟨ZOe,tr⟩)
end Go.Eng
set_option maxRecDepth 100000
set_option maxHeartbeats 4000000
namespace Go.Eng
open Go.Proofs Go.RowKit
noncomputable def Z9h:FuncId×Con:=(135,⟨[.leaf 1,.leaf 1],[.leaf 1],fun p=>Zva p.1 p.2⟩)
theorem Zql:KQ Z9h:=Zh (Zz (C:=cf2 [(43,1),(45,4)] [Zce]) (.n (.n (.f (.n (.j [] [] [.s 5 (.own 154 (.int .u32))] (.f (.l [0,1] [] [.s 5 (.own 154 (.int .u32)),.s 6 (.dat (.int .i64))] 0 [] [] [.s 5 (.own 154 (.int .u32))] (.f (.n (.f (.f (.n (.f (.n (.j [0,1,6] [] [.s 5 (.own 154 (.int .u32)),.s 7 (.dat (.int .u64))] (.f (.l [0,1,6] [] [.s 5 (.own 154 (.int .u32)),.s 7 (.dat (.int .u64)),.s 8 (.dat (.int .i64))] 2 [0,1,6] [] [.s 5 (.own 154 (.int .u32)),.s 7 (.dat (.int .u64))] .no))))))))))))))))) Tryz.func135 [] (fun v vals x z ha hz=>.trans (by kernel_rfl) (Z2w hz)) ⟨ZOe,tr⟩)
end Go.Eng
set_option maxRecDepth 100000
set_option maxHeartbeats 4000000
namespace Go.Eng
open Go.Proofs Go.RowKit
noncomputable def Zcp:FuncId×Con:=(137,⟨[.leaf 1,.leaf 1],[.leaf 1],fun p=>ZUb p.1 p.2⟩)
theorem ZIs:KQ Zcp:=Zh (Zz (C:=cf2 [(43,1),(45,4)] [Zce]) (.n (.n (.n (.f (.n (.j [] [] [.s 5 (.own 154 (.int .u32))] (.f (.l [0,1] [] [.s 5 (.own 154 (.int .u32)),.s 6 (.dat (.int .i64)),.s 7 (.dat (.int .i64))] 0 [] [] [.s 5 (.own 154 (.int .u32))] (.f (.n (.f (.f (.n (.two (.n (.j [0,1,5,7] [] [.s 8 (.dat (.int .i64))] .no)) (.n (.f (.n (.j [0,1,5,7] [] [.s 6 (.dat (.int .i64)),.s 8 (.dat (.int .i64))] .no)))))))))))))))))) Tryz.func137 [] (fun v vals x z ha hz=>.trans (by kernel_rfl) (ZZy hz)) ⟨ZOe,tr⟩)
end Go.Eng
set_option maxRecDepth 100000
set_option maxHeartbeats 4000000
namespace Go.Eng
open Go.Proofs Go.RowKit
noncomputable def Zto:FuncId×Con:=(156,⟨[.leaf 1],[.int .i64],fun p=>Z1f p⟩)
theorem ZEt:KQ Zto:=Zh (Zz (C:=cf2 [(43,1),(45,4)] []) (.n (.n (.n (.f (.n (.j [] [] [.s 3 (.dat (.int .i64))] (.f (.l [] [] [.s 3 (.dat (.int .i64)),.s 4 (.dat (.int .u32))] 0 [] [] [.s 3 (.dat (.int .i64))] .no)))))))) Tryz.func156 [] (fun v vals x z ha hz=>.trans (by kernel_rfl) (Z2v hz)))
end Go.Eng
set_option maxRecDepth 100000
set_option maxHeartbeats 4000000
namespace Go.Eng
open Go.Proofs Go.RowKit
noncomputable def Zth:FuncId×Con:=(157,⟨[.leaf 1,.int .i64],[.leaf 1],fun p=>Zec p.1 p.2⟩)
theorem ZPh:KQ Zth:=Zh (Zz (C:=cf2 [(43,1),(45,4)] [Zce]) (.n (.n (.n (.n (.f (.n (.j [] [] [.s 5 (.own 154 (.int .u32)),.s 6 (.dat (.int .u64))] (.f (.l [0,1] [] [.s 5 (.own 154 (.int .u32)),.s 6 (.dat (.int .u64)),.s 7 (.dat (.int .i64))] 0 [] [] [.s 5 (.own 154 (.int .u32)),.s 6 (.dat (.int .u64))] .no))))))))) Tryz.func157 [] (fun v vals x z ha hz=>.trans (by kernel_rfl) (ZuA hz)) ⟨ZOe,tr⟩)
end Go.Eng
set_option maxRecDepth 100000
set_option maxHeartbeats 4000000
namespace Go.Eng
open Go.Proofs Go.RowKit
noncomputable def Zyn:FuncId×Con:=(158,⟨[.leaf 1,.int .i64],[.leaf 1],fun p=>ZFf p.1 p.2⟩)
theorem Zdq:KQ Zyn:=Zh (Zz (C:=cf2 [(43,1),(45,4)] [Zce]) (.n (.n (.f (.n (.j [] [] [.s 5 (.own 154 (.int .u32))] (.f (.l [0,1] [] [.s 5 (.own 154 (.int .u32)),.s 6 (.dat (.int .i64))] 0 [] [] [.s 5 (.own 154 (.int .u32))] (.f (.n (.f (.f (.n (.f (.n (.j [0,1,5,6] [] [.s 7 (.dat (.int .u64))] .no))))))))))))))) Tryz.func158 [] (fun v vals x z ha hz=>by obtain ⟨c0,w0,e0,p0,c1,e1,p1⟩:=ha;exact .trans (by kernel_rfl) (Z9w p1.2 hz)) ⟨ZOe,tr⟩)
end Go.Eng
set_option maxRecDepth 100000
set_option maxHeartbeats 4000000
namespace Go.Eng
open Go.Proofs Go.RowKit
noncomputable def ZNk:FuncId×Con:=(124,⟨[.leaf 1,.leaf 1],[.leaf 1,.leaf 1],fun p=>Znc p.1 p.2⟩)
theorem ZWn:KQ ZNk:=Zh (Zz (C:=cf2 [(43,1),(45,4)] [ZVh,Zfj,Zce,Zio,Z9h,Zcp,Zto,Zth,Zyn]) (.n (.n (.n (.n (.n (.n (.n (.f (.n (.j [8] [] [.s 10 (.dat (.leaf 1)),.s 12 (.own 154 (.int .u32))] (.f (.l [8,9,11] [] [.s 10 (.dat (.leaf 1)),.s 12 (.own 154 (.int .u32)),.s 13 (.dat (.int .i64))] 0 [8] [] [.s 10 (.dat (.leaf 1)),.s 12 (.own 154 (.int .u32))] (.f (.n (.f (.j [8,9,11,13] [] [.s 10 (.dat (.leaf 1)),.s 12 (.own 154 (.int .u32))] (.f (.n (.two (.n (.j [8,9,10,11,12,13] [] [.s 14 (.dat (.slice (.int .u32)))] .no)) (.n (.n (.two (.n (.j [8,9,10,11,12,13,14] [] [.s 15 (.dat (.int .u64))] .no)) (.n (.two (.n (.j [8,9,10,11,12,13,14] [] [.s 16 (.dat (.int .u64))] .no)) (.n (.f (.j [8,9,10,11,12,13,14] [] [.s 16 (.dat (.int .u64)),.s 17 (.dat (.leaf 1))] (.f (.l [8,9,10,11,12,13,14] [] [.s 16 (.dat (.int .u64)),.s 17 (.dat (.leaf 1))] 2 [8,9,10,11,12,13,14] [] [.s 16 (.dat (.int .u64)),.s 17 (.dat (.leaf 1))] .no))))))))))))))))))))))))))))) Tryz.func124 [] (fun v vals x z ha hz=>.trans (by kernel_rfl) (Z4y hz)) ⟨ZGl,Zwl,ZOe,Zbq,Zql,ZIs,ZEt,ZPh,Zdq,tr⟩)
end Go.Eng
set_option maxRecDepth 100000
set_option maxHeartbeats 4000000
namespace Go.Eng
open Go.Proofs Go.RowKit
noncomputable def Zxt:FuncId×Con:=(123,⟨[.leaf 1,.leaf 1],[.leaf 1],fun p=>rgcF p.1 p.2⟩)
theorem rgcd_k:KQ Zxt:=Zh (Zz (C:=cf2 [(43,1),(45,4)] [ZNk]) (.n (.f (.j [] [] [.s 0 (.dat (.leaf 1))] (.f (.l [] [] [.s 0 (.dat (.leaf 1)),.s 1 (.dat (.leaf 1))] 0 [] [] [.s 0 (.dat (.leaf 1))] .no))))) Tryz.func123 [] (fun v vals x z ha hz=>.trans (by kernel_rfl) (rgcF_eq hz)) ⟨ZWn,tr⟩)
end Go.Eng
set_option maxRecDepth 100000
set_option maxHeartbeats 4000000
namespace Go.Eng
open Go.Proofs Go.RowKit
noncomputable def ZWd:FuncId×Con:=(89,⟨[.bool,.leaf 1,.leaf 1],[.leaf 4],fun p=>Zza p.1 p.2.1 p.2.2⟩)
theorem Z9d:KQ ZWd:=Zh (Zz (C:=cf2 [(43,1),(45,4)] [Zxt,ZNk]) .no Tryz.func89 [] (fun v vals x z ha hz=>.trans (by kernel_rfl) (ZTw hz)) ⟨rgcd_k,ZWn,tr⟩)
end Go.Eng
set_option maxRecDepth 100000
set_option maxHeartbeats 4000000
namespace Go.Eng
open Go.Proofs Go.RowKit
noncomputable def ZTe:FuncId×Con:=(44,⟨[.int .i64],[.leaf 4],fun p=>Zga p⟩)
theorem Zig:KQ ZTe:=Zh (Zz (C:=cf2 [(43,1),(45,4)] [ZWd,ZVh]) .no Tryz.func44 [] (fun v vals x z ha hz=>by obtain ⟨c0,e0,p0⟩:=ha;exact .trans (by kernel_rfl) (Z5w p0.2 hz)) ⟨Z9d,ZGl,tr⟩)
end Go.Eng
set_option maxRecDepth 100000
set_option maxHeartbeats 4000000
namespace Go.Eng
open Go.Proofs Go.RowKit
noncomputable def ZLr:FuncId×Con:=(45,⟨[.int .i64,.int .i64],[.leaf 4,.int .i64],fun p=>Z0h p.1 p.2⟩)
theorem rnew_k:KQ ZLr:=Zh (Zz (C:=cf2 [(43,1),(45,4)] [ZTe,ZWd]) .no Tryz.func45 [] (fun v vals x z ha hz=>by obtain ⟨c0,w0,e0,p0,c1,e1,p1⟩:=ha;exact .trans (by kernel_rfl) (Z4w p0.2 p1.2 hz)) ⟨Zig,Z9d,tr⟩)
end Go.Eng
set_option maxRecDepth 100000
set_option maxHeartbeats 4000000
namespace Go.Eng
open Go.Proofs Go.RowKit
noncomputable def rof_q:FuncId×Con:=(12,⟨[.pair (.int .i64) (.int .i64)],[.leaf 4],fun p=>rofF p⟩)
theorem rof_k:KQ rof_q:=Zh (Zz (C:=cf2 [(43,1),(45,4)] [ZTe,ZLr]) .no Tryz.func12 [] (fun v vals x z ha hz=>.trans (by kernel_rfl) (rofF_eq hz)) ⟨Zig,rnew_k,tr⟩)
end Go.Eng
set_option maxRecDepth 100000
set_option maxHeartbeats 4000000
namespace Go.Eng
open Go.Proofs Go.RowKit
noncomputable def ZNe:FuncId×Con:=(151,⟨[.slice (.int .u64)],[.leaf 0],fun p=>ZGa p⟩)
theorem cut_r:KR ZNe:=Zok (C:=cf2 [] []) (.n (.f (.j [] [] [.s 0 (.dat (.slice (.int .u64)))] (.f (.l [] [] [.s 0 (.dat (.slice (.int .u64)))] 0 [] [] [.s 0 (.dat (.slice (.int .u64)))] (.f (.f (.f (.j [0] [] [.s 14 (.dat .bool)] .no))))))))) Tryz.func151 [] [.slice (.int .u64)] [.slice (.int .u64)] (fun x=>(x)) (fun z=>(Zc 18446744073709551616 z)) (fun v vals x z ha hz=>by obtain ⟨c0,e0,p0⟩:=ha;exact .trans (by kernel_rfl) (by cases hz;exact (cut_eq (ZNn p0).1 (ZNn p0).2)))
theorem ZOg:KQ ZNe:=Zh cut_r
end Go.Eng
set_option maxRecDepth 100000
set_option maxHeartbeats 4000000
namespace Go.Eng
open Go.Proofs Go.RowKit
noncomputable def Z9i:FuncId×Con:=(128,⟨[.int .u64],[.leaf 0],fun p=>Zvc p⟩)
theorem Z0t:KR Z9i:=Zz (C:=cf2 [(55,0)] [ZNe]) .no Tryz.func128 [] (fun v vals x z ha hz=>.trans (by kernel_rfl) (Zrx hz)) ⟨ZOg,tr⟩
theorem ZDn:KQ Z9i:=Zh Z0t
end Go.Eng
set_option maxRecDepth 100000
set_option maxHeartbeats 4000000
namespace Go.Eng
open Go.Proofs Go.RowKit
noncomputable def of_q:FuncId×Con:=(94,⟨[.int .i64],[.leaf 2],fun p=>ofF p⟩)
theorem of_k:KQ of_q:=Zh (Zz (C:=cf0 [Z9i] [] [] []) .no Tryz.func94 [] (fun v vals x z ha hz=>by obtain ⟨c0,e0,p0⟩:=ha;exact .trans (by kernel_rfl) (ofF_eq p0.2 hz)) ⟨ZDn,tr⟩)
end Go.Eng
set_option maxRecDepth 100000
set_option maxHeartbeats 4000000
namespace Go.Eng
open Go.Proofs Go.RowKit
noncomputable def ZWl:FuncId×Con:=(54,⟨[.int .i64],[.leaf 3],fun p=>Zuh p⟩)
theorem Zsq:KQ ZWl:=Zh (Zz (C:=cf0 [of_q] [] [] []) .no Tryz.func54 [] (fun v vals x z ha hz=>.trans (by kernel_rfl) (ZJy hz)) ⟨of_k,tr⟩)
end Go.Eng
set_option maxRecDepth 100000
set_option maxHeartbeats 4000000
namespace Go.Eng
open Go.Proofs Go.RowKit
noncomputable def Zkv:FuncId×Con:=(175,⟨[.int .u64],[.int .i64],fun p=>ZPi p⟩)
theorem len64_k:KQ Zkv:=Zh (Zz (C:=cf2 [] []) (.n (.two (.n (.j [] [] [.s 0 (.dat (.int .u64)),.s 2 (.dat (.int .i64))] .no)) (.two (.n (.j [] [] [.s 0 (.dat (.int .u64)),.s 2 (.dat (.int .i64))] .no)) (.f (.n (.j [] [] [.s 0 (.dat (.int .u64)),.s 2 (.dat (.int .i64))] .no)))))) Tryz.func175 [] (fun v vals x z ha hz=>.trans (by kernel_rfl) (Z1y hz)))
end Go.Eng
set_option maxRecDepth 100000
set_option maxHeartbeats 4000000
namespace Go.Eng
open Go.Proofs Go.RowKit
noncomputable def Z7m:FuncId×Con:=(163,⟨[.int .u64],[.int .i64],fun p=>ZEd p⟩)
theorem Zmv:KR Z7m:=Zz (C:=cf2 [] [Zkv]) .no Tryz.func163 [] (fun v vals x z ha hz=>.trans (by kernel_rfl) (Z2x hz)) ⟨len64_k,tr⟩
theorem lz64_k:KQ Z7m:=Zh Zmv
end Go.Eng
set_option maxRecDepth 100000
set_option maxHeartbeats 4000000
namespace Go.Eng
open Go.Proofs Go.RowKit
noncomputable def Z6o:FuncId×Con:=(150,⟨[.int .u64,.int .u64,.int .u64],[.int .u64,.int .u64],fun p=>Zad p.1 p.2.1 p.2.2⟩)
theorem Zft:KR Z6o:=Zz (C:=cf2 [] [Z7m]) (.n (.n (.n (.n (.n (.n (.n (.n (.n (.n (.n (.n (.n (.n (.two (.j [2,8,9,10,11,13,14] [] [.s 15 (.dat (.int .u64))] (.f (.l [2,8,9,10,11,13,14] [] [.s 15 (.dat (.int .u64)),.s 16 (.dat (.int .u64))] 0 [2,8,9,10,11,13,14] [] [.s 15 (.dat (.int .u64))] (.f (.f (.f (.j [2,8,9,10,11,13,14,15,16] [] [.s 78 (.dat .bool)] .no))))))) (.n (.n (.n (.f (.j [2,8,14,15,17] [] [.s 18 (.dat (.int .u64))] (.f (.l [2,8,9,10,14,15,17] [] [.s 16 (.dat (.int .u64)),.s 18 (.dat (.int .u64))] 2 [2,8,14,15,17] [] [.s 18 (.dat (.int .u64))] (.f (.f (.f (.j [2,8,9,10,14,15,16,17,18] [] [.s 113 (.dat .bool)] .no)))))))))))))))))))))))))) Tryz.func150 [] (fun v vals x z ha hz=>.trans (by kernel_rfl) (Z8y hz)) ⟨lz64_k,tr⟩
theorem div64_k:KQ Z6o:=Zh Zft
end Go.Eng
set_option maxRecDepth 100000
set_option maxHeartbeats 4000000
namespace Go.Eng
open Go.Proofs Go.RowKit
noncomputable def ZEv:FuncId×Con:=(118,⟨[.leaf 0,.int .u64],[.leaf 0,.int .u64],fun p=>ZOd p.1 p.2⟩)
theorem Z3z:KR ZEv:=Zz (C:=cf2 [(55,0)] [Z6o,ZNe]) (.n (.n (.n (.f (.n (.j [] [] [.s 6 (.own 153 (.int .u64)),.s 7 (.dat (.int .u64))] (.f (.l [0,1] [] [.s 6 (.own 153 (.int .u64)),.s 7 (.dat (.int .u64)),.s 8 (.dat (.int .i64))] 0 [] [] [.s 6 (.own 153 (.int .u64)),.s 7 (.dat (.int .u64))] .no)))))))) Tryz.func118 [] (fun v vals x z ha hz=>by obtain ⟨c0,w0,e0,p0,c1,e1,p1⟩:=ha;exact .trans (by kernel_rfl) (ZGx p1.2 hz)) ⟨div64_k,ZOg,tr⟩
end Go.Eng
namespace Go.Eng
open Go.Proofs Go.RowKit
theorem Z6r {h:World} {b:Zb} (hv:VIn b h) {c:List Value} {a:Nat} (i:Rep.rel Zw b c a) {d:List Value} {n:Int} (j:Rep.rel (Zf .u64) b d n) {z:Nat×Int} (hm:ZOd a n=some z) :
  Ret Tryz.prog 118 #[Zw.val c,(Zf .u64).val d] h b (fun y v'=>∃ f g,y=Value.tuple #[Zw.val f,(Zf .u64).val g]∧Zw.rel v' f z.1∧(Zf .u64).rel v' g z.2) :=
 (Z3z h b [Zw.val c,(Zf .u64).val d] (a,n) z hv ⟨c,_,rfl,i,d,rfl,j⟩ hm).2.mono fun y v' _ ⟨_,e,f,_,q,k,g,q',l⟩=>by subst q';subst q;exact ⟨f,g,e,k,l⟩
end Go.Eng
set_option maxRecDepth 100000
set_option maxHeartbeats 4000000
namespace Go.Eng
open Go.Proofs Go.RowKit
noncomputable def ZTj:FuncId×Con:=(162,⟨[.leaf 0,.leaf 0],[.int .i64],fun p=>Zfd p.1 p.2⟩)
theorem cmp_r:KR ZTj:=Zok (C:=cf2 [] []) (.n (.n (.f (.n (.cut ⟨⟨[],[],[]⟩,[(.norm,⟨[],[],[]⟩),(.ret,⟨[],[],[.s 1000 (.dat (.int .i64))]⟩)]⟩ (.f (.cut ⟨⟨[0,1],[],[.s 5 (.dat (.int .i64))]⟩,[(.ret,⟨[],[],[.s 1000 (.dat (.int .i64))]⟩),(.exit 0,⟨[],[],[]⟩)]⟩ .no))))))) Tryz.func162 [] [.slice (.int .u64),.slice (.int .u64)] [.int .i64] (fun x=>((Zc 18446744073709551616 x.1),(Zc 18446744073709551616 x.2))) (fun z=>z) (fun v vals x z ha hz=>by obtain ⟨c0,w0,e0,p0,c1,e1,p1⟩:=ha;exact .trans (by kernel_rfl) ((cmp_eq (Zst p0) (Zst p1)).trans hz))
theorem cmp_k:KQ ZTj:=Zh cmp_r
end Go.Eng
namespace Go.Eng
open Go.Proofs Go.RowKit
theorem cmp_c {f:World} {c:Zb} (hv:VIn c f) {d:List Value} {a:Nat} (h:Rep.rel Zw c d a) {e:List Value} {b:Nat} (i:Rep.rel Zw c e b) {z:Int} (hm:Zfd a b=some z) :
  Ret Tryz.prog 162 #[Zw.val d,Zw.val e] f c (fun y v'=>∃ g,y=(Zf .i64).val g∧(Zf .i64).rel v' g z) :=
 (cmp_r f c [Zw.val d,Zw.val e] (a,b) z hv ⟨d,_,rfl,h,e,rfl,i⟩ hm).2
theorem ZQl {d:World} {b:Zb} (hv:VIn b d) {c:List Value} {a:(List Int)} (f:Rep.rel (Zv (Zf .u64)) b c a) {z:Nat} (hm:ZGa a=some z) :
  Ret Tryz.prog 151 #[(Zv (Zf .u64)).val c] d b (fun y v'=>∃ e,y=Zw.val e∧Zw.rel v' e z) :=
 (cut_r d b [(Zv (Zf .u64)).val c] (a) z hv ⟨c,rfl,f⟩ hm).2
theorem div64_c {h:World} {a:Zb} (hv:VIn a h) {b:List Value} {hi:Int} (i:Rep.rel (Zf .u64) a b hi) {c:List Value} {lo:Int} (j:Rep.rel (Zf .u64) a c lo) {d:List Value} {y:Int} (k:Rep.rel (Zf .u64) a d y) {z:Int×Int} (hm:Zad hi lo y=some z) :
  Ret Tryz.prog 150 #[(Zf .u64).val b,(Zf .u64).val c,(Zf .u64).val d] h a (fun y v'=>∃ f g,y=Value.tuple #[(Zf .u64).val f,(Zf .u64).val g]∧(Zf .u64).rel v' f z.1∧(Zf .u64).rel v' g z.2) :=
 (Zft h a [(Zf .u64).val b,(Zf .u64).val c,(Zf .u64).val d] (hi,lo,y) z hv ⟨b,_,rfl,i,c,_,rfl,j,d,rfl,k⟩ hm).2.mono fun y v' _ ⟨_,e,f,_,q,l,g,q',m⟩=>by subst q';subst q;exact ⟨f,g,e,l,m⟩
end Go.Eng
set_option maxRecDepth 100000
set_option maxHeartbeats 4000000
namespace Go.Eng
open Go.Proofs Go.RowKit
noncomputable def Zvn:FuncId×Con:=(160,⟨[.int .u64,.int .u64],[.int .u64,.int .u64],fun p=>Zpc p.1 p.2⟩)
theorem ZDp:KR Zvn:=Zz (C:=cf2 [] []) .no Tryz.func160 [] (fun v vals x z ha hz=>.trans (by kernel_rfl) (ZEy hz))
theorem mul64_k:KQ Zvn:=Zh ZDp
end Go.Eng
namespace Go.Eng
open Go.Proofs Go.RowKit
theorem Zip {g:World} {a:Zb} (hv:VIn a g) {b:List Value} {x:Int} (h:Rep.rel (Zf .u64) a b x) {c:List Value} {y:Int} (i:Rep.rel (Zf .u64) a c y) {z:Int×Int} (hm:Zpc x y=some z) :
  Ret Tryz.prog 160 #[(Zf .u64).val b,(Zf .u64).val c] g a (fun y v'=>∃ d f,y=Value.tuple #[(Zf .u64).val d,(Zf .u64).val f]∧(Zf .u64).rel v' d z.1∧(Zf .u64).rel v' f z.2) :=
 (ZDp g a [(Zf .u64).val b,(Zf .u64).val c] (x,y) z hv ⟨b,_,rfl,h,c,rfl,i⟩ hm).2.mono fun y v' _ ⟨_,e,d,_,q,j,f,q',k⟩=>by subst q';subst q;exact ⟨d,f,e,j,k⟩
end Go.Eng
namespace Go.Eng
open Go.RowKit
theorem ZL {α:Type _} {a b:α} (h:some a=some b):a=b:=Option.some.inj h
theorem Zqb (b:Bool):b=true∨b=false:=(Bool.eq_false_or_eq_true b)
theorem leT {a b c:Zb} (h:a.le b) (k:b.le c):a.le c:=Zb.le_trans h k
theorem leR (v:Zb):v.le v:=Zb.le_refl v
theorem bO {α β:Type _} {x:Option α} {f:α→Option β} {z:β} {G:Prop} (h:bnd x f=some z) (k:∀ y,x=some y→f y=some z→G):G:=by obtain ⟨y,e,h⟩:=Zma h;exact k y e h
theorem ZW {P:Program} {Q:Exit→Act→World→Prop} {a:Act} {w:World} {id:Nat} {l:List Oper} (h:wpList P l.toArray Q l a w):(Code.region id l.toArray false).wp P Q a w:=wp_region_lit h
theorem ZC {P:Program} {Q:Exit→Act→World→Prop} {a:Act} {w:World} {x y:Code} (h:∀ K:Act→World→Prop,(∀ a w,y.wp P Q a w→K a w)→x.wp P (Exit.then K Q) a w):(Code.seq x y).wp P Q a w:=wp_seq_k h
theorem ZEa {α:Type} {A:Rep α} {v v':Zb} {cs:List Value} {x:α} (hv:v.le v') (h:A.rel v cs x):A.rel v' cs x:=A.mono hv h
theorem Rflat {α:Type} (A:Rep α) {v:Zb} {cs:List Value} {x:α} (h:A.rel v cs x):cs.all plain=true:=A.flat h
theorem Atm {v v':Zb} {b off:Nat} {cs:List Value} (h:v.le v') (k:At v b off cs):At v' b off cs:=At.mono h k
end Go.Eng
namespace Go.Eng
open Go.Proofs Go.RowKit
theorem Z7u:Zni Tryz.prog 227 20 1:=⟨5,fun _=>by kernel_rfl,fun _=>by kernel_rfl⟩
theorem ZCx:ConvI Tryz.prog 153 5 .u64 .u8:=fun _ _=>by kernel_rfl
theorem Zer:Elem Tryz.prog 183 9 1 16 (Value.string (Zt [])):=⟨Tryz.underlying183,by kernel_rfl,rfl,by decide⟩
theorem Zlj:Elem Tryz.prog 55 153 1 8 (Value.int IntKind.u64 0):=⟨Tryz.underlying55,by kernel_rfl,rfl,by decide⟩
theorem ZLt:ZN Tryz.prog 118:=fun _ _=>by kernel_rfl
theorem k_en119:ZN Tryz.prog 119:=fun _ _=>by kernel_rfl
theorem k_en120:ZN Tryz.prog 120:=fun _ _=>by kernel_rfl
theorem k_en121:ZN Tryz.prog 121:=fun _ _=>by kernel_rfl
theorem k_en122:ZN Tryz.prog 122:=fun _ _=>by kernel_rfl
theorem k_en128:ZN Tryz.prog 128:=fun _ _=>by kernel_rfl
theorem k_en150:ZN Tryz.prog 150:=fun _ _=>by kernel_rfl
theorem ZSk:ZN Tryz.prog 151:=fun _ _=>by kernel_rfl
theorem Z6m:ZN Tryz.prog 160:=fun _ _=>by kernel_rfl
theorem Z6t:ZN Tryz.prog 162:=fun _ _=>by kernel_rfl
theorem k_en163:ZN Tryz.prog 163:=fun _ _=>by kernel_rfl
theorem ZKr:ZN Tryz.prog 164:=fun _ _=>by kernel_rfl
theorem k_en165:ZN Tryz.prog 165:=fun _ _=>by kernel_rfl
theorem k_en166:ZN Tryz.prog 166:=fun _ _=>by kernel_rfl
theorem k_en177:ZN Tryz.prog 177:=fun _ _=>by kernel_rfl
theorem Zhv:ZId Tryz.prog 176 add64Entry:=⟨_,Tryz.func176,by kernel_rfl,by kernel_rfl,by kernel_rfl,by kernel_rfl⟩
theorem Zyw:ZId Tryz.prog 180 Zpl:=⟨_,Tryz.func180,by kernel_rfl,by kernel_rfl,by kernel_rfl,by kernel_rfl⟩
theorem Zko:Tryz.prog.follows .mixedOrders=true:=by kernel_rfl
theorem Z3l:ZDb Tryz.prog 183 9 1:=⟨fun _=>by kernel_rfl,fun _=>by kernel_rfl⟩
theorem Zfa:ZDb Tryz.prog 55 153 1:=⟨fun _=>by kernel_rfl,fun _=>by kernel_rfl⟩
theorem ZAb:Sized Tryz.prog 153 1 false:=⟨fun _=>by kernel_rfl,fun _=>by kernel_rfl⟩
theorem k_sz5:Sized Tryz.prog 5 1 false:=⟨fun _=>by kernel_rfl,fun _=>by kernel_rfl⟩
theorem k_sz9:Sized Tryz.prog 9 1 false:=⟨fun _=>by kernel_rfl,fun _=>by kernel_rfl⟩
theorem k_zv191:∀ w,(zeroValue 191).run Tryz.prog w = .ok (Value.agg #[Value.pointer none,Value.slice none 0 0]) w:=fun _=>by kernel_rfl
theorem k_zv227:∀ w,(zeroValue 227).run Tryz.prog w = .ok (Value.agg #[Value.int IntKind.u8 0,Value.int IntKind.u8 0,Value.int IntKind.u8 0,Value.int IntKind.u8 0,Value.int IntKind.u8 0,Value.int IntKind.u8 0,Value.int IntKind.u8 0,Value.int IntKind.u8 0,Value.int IntKind.u8 0,Value.int IntKind.u8 0,Value.int IntKind.u8 0,Value.int IntKind.u8 0,Value.int IntKind.u8 0,Value.int IntKind.u8 0,Value.int IntKind.u8 0,Value.int IntKind.u8 0,Value.int IntKind.u8 0,Value.int IntKind.u8 0,Value.int IntKind.u8 0,Value.int IntKind.u8 0]) w:=fun _=>by kernel_rfl
theorem take_w {R:World} {o:Zb} (hv:VIn o R) {a off0 g C:Nat} {E:TypeId} {pre0 cs0 post0:List Value} {u:(List Int)} (bg:R.heap[a]? = some (.cells (pre0++cs0++post0).toArray E (0,0))) (aH:off0=pre0.length) (bh:o a=none) (au:g=u.length) (bi:g≤C∧C≤maxLen) (r:Rep.rels (Zf .u64) o cs0 u) {c1:List Value} {v:Nat} (D:Rep.rel Zw o c1 v) {c2:List Value} {q:Int} (p2:Rep.rel (Zf .u64) o c2 q) {z:Bool×(List Int)} (H:Zyi u v q=some z):ZYc Tryz.prog 177 #[.slice (some ⟨a,off0,none⟩) g C,Zw.val c1,(Zf .u64).val c2] R o [a] (fun y v' w'=>(∃ r0,y=Zhd.val r0∧Zhd.rel v' r0 z.1)∧v' a=none∧∃ cs,w'.heap[a]? = some (.cells (pre0++cs++post0).toArray E (0,0))∧g=z.2.length∧Rep.rels (Zf .u64) v' cs z.2):=by
 obtain ⟨q1,V,W,rfl⟩:=ZKa D;obtain ⟨rfl,r4⟩:=p2;refine Zkr (K:=79) (args:=[.slice (some ⟨a,off0,none⟩) (g) C,.slice q1 V W,.int .u64 q]) hv bg bh Tryz.func177 rfl rfl zl fun f S=>?_;unfold Zyi at H;refine sr (mw S rfl fun f S=>oe (ZC fun _ bj=>bO H fun J bk H=>bO H fun cH av H=>ZW (mv S rfl fun f S=>ov S rfl (Z8b S (Zhb D) rfl rfl Zfa) fun f S=>ov S rfl (ZD S rfl rfl (Z2f bk)) fun f S=>?_)));obtain ⟨aI,aR⟩:∃ c:List Value,c=(List.replicate (J).toNat [.int .u64 0]).flatten:=⟨_,rfl⟩;obtain ⟨aS,w,bm,S⟩:=ZFs Zlj S (l:=J) (c:=J) (Zsd av).1 (Zsd av).2.1 (Zsd av).2.2.1 (Zsd av).2.2.2 aR;have bn:Rep.rels (Zf .u64) o aI (List.replicate (J).toNat (0:Int)):=by rw [aR];exact ZHg (show Rep.rel (Zf .u64) _ [.int .u64 0] _ from (Zca (by decide))) _
 refine ZAc wn rfl zl (bm rfl rfl) S fun f S=>mw S rfl fun f S=>ZP (Zp (bj _ _ (sr (mw S rfl fun f S=>oe (ZC fun _ bo=>sr (mv S rfl fun f S=>ov S rfl (Z8b S (Zhb D) rfl rfl Zfa) fun f S=>mv S rfl fun f S=>oe ?_))))));obtain ⟨bp,bq,br⟩:=Zma H;refine Zgd (fun f w=>∃ L b aJ s G h X,(L,b)=bp∧Zb.le o X∧St 79 ⟨R,[a]⟩ o [(0,.slice (some ⟨a,off0,none⟩) (g) C),(1,.slice q1 V W),(7,.slice (mkA aJ) s G),(8,.int .u64 b)] [Loc.box a E (pre0++cs0++post0),Loc.own aJ 153 1 s G h] X f w∧Rep.rels (Zf .u64) X h L∧s=L.length∧inR .u64 b) (fun _ bs=>?_) ?_
 ·have H:=bq;refine wp_block ?_;obtain ⟨cI,bt,bu⟩:=Zma H;have S:=S.reorder (ℓ':=[Loc.box a E (pre0++cs0++post0),Loc.own (some aS) 153 1 ((J).toNat) (J).toNat aI]) [1,0] rfl (by decide);refine Zqe bt (fun bv f w=>∃ Y ag m ax M Z I ay,(Y,ag,m)=bv∧Zb.le o ay∧St 79 ⟨R,[a]⟩ o [(0,.slice (some ⟨a,off0,none⟩) (g) C),(1,.slice q1 V W),(2,.int .u64 q),(7,.slice (mkA ax) M Z),(8,.int .u64 ag),(20,.slice q1 V W),(21,.int .i64 ((((Zc 18446744073709551616 v)).length:Int))),(22,.int .i64 m)] [Loc.box a E (pre0++cs0++post0),Loc.own ax 153 1 M Z I] ay f w∧Rep.rels (Zf .u64) ay I Y∧M=Y.length∧inR .u64 ag∧inR .i64 m) ⟨_,_,_,some aS,(J).toNat,(J).toNat,aI,_,rfl,(leR _),(S.fr' rfl),bn,(repN (x:=(0:Int))),(by decide),(by decide)⟩ ?_;rintro _ f w st ⟨Y,ag,m,ax,M,Z,I,ay,hq,az,S,ah,ai,bw,cJ⟩ H cK bx bz;subst hq;have r:=ZO az r;refine sr (ov S rfl (ZD S rfl rfl ZHe) fun f S=>oe (ZC fun _ bA=>?_));rcases Zqb (decide (m<(((Zc 18446744073709551616 v)).length:Int))) with aj | aj
  ·have H:=Zyb H aj;refine Zrb S rfl aj (wp_skip (Zp (bA _ _ (ZC fun _ bB=>wp_block (ZC fun _ bC=>bO H fun aK aL H=>ZW (mv S rfl fun f S=>?_))))));have D:=ZEa az D;obtain ⟨_,aT,aU,cL,rfl,bD,bE⟩:=Zqc D (Zo aL).2.1;obtain ⟨rfl,bG⟩:=bE;refine ov S rfl (Zsa S rfl rfl Zfa (Zo aL).1 (ltI (Zhb D) (Zo aL).2.2.1)) fun f S=>ov S rfl (Zkb S rfl ZAb (S.view bD)) fun f S=>mw S rfl fun f S=>mw S rfl fun f S=>ZP (Zp (bC _ _ (ZC fun _ bH=>bO H fun aV bI H=>ZW (mv S rfl fun f S=>mv S rfl fun f S=>opc S rfl (Zwa S [.int .u64 aK,.int .u64 q] Z6m rfl rfl) (Zip S.vin (show Rep.rel (Zf .u64) _ [.int .u64 aK] aK from (Zca bG)) (show Rep.rel (Zf .u64) _ [.int .u64 q] q from (Zca r4)) bI) ?_))));rintro _ aW f w aM ⟨cM,cN,rfl,bJ,bK⟩ S;have r:=ZO aM r;have ah:=ZO aM ah;obtain ⟨rfl,cO⟩:=bJ;obtain ⟨rfl,cP⟩:=bK;refine mv S rfl fun f S=>ov S rfl (ZAa S rfl rfl) fun f S=>ov S rfl (ZAa S rfl rfl) fun f S=>mw S rfl fun f S=>mw S rfl fun f S=>ZP (Zp (bH _ _ (sr (mw S rfl fun f S=>oe (ZC fun _ bM=>bO H fun N aX H=>bO H fun cQ aa H=>ZW ?_)))));refine mv S rfl fun f S=>mv S rfl fun f S=>mv S rfl fun f S=>mv S rfl fun f S=>ov S rfl (ZRj S [.int .u64 (aV.2),.int .u64 ag,.int .u64 0] (Zfp Zhv aX) rfl rfl) fun f S=>mv S rfl fun f S=>ov S rfl (ZAa S rfl rfl) fun f S=>ov S rfl (ZAa S rfl rfl) fun f S=>?_
   obtain ⟨aY,rfl⟩:=Znd S (j:=1) rfl (posN ai (Zo aa).2.2.2);have aZ:=ZNa ah (Zo aa).2.1;obtain ⟨cR,bP⟩:∃ c,(List.take (Zf .u64).n (List.drop ((m).toNat*(Zf .u64).n) I))=c:=⟨_,rfl⟩;rw [bP] at aZ;obtain ⟨rfl,cS⟩:=aZ;refine ov S rfl (Zsa S rfl rfl Zfa (Zo aa).1 (ltI ai (Zo aa).2.2.1)) fun f S=>?_;obtain ⟨w,bQ,S⟩:=ZBd S ZAb (off:=0+(m).toNat*1) (z:=.int .u64 (N.1)) (cs:=[.int .u64 (N.1)]) (Z4c rfl) rfl (i:=1) rfl (Zdi S (j:=1) rfl (ltN ai (Zo aa).2.2.2)) (by first | rfl | simp [plain]);have bR:Rep.rels (Zf .u64) aW (List.take (0+(m).toNat*1) I++[Value.int IntKind.u64 (N.1)]++List.drop (0+(m).toNat*1+1) I) (Y.set (m).toNat N.1):=ZJh ah (Zo aa).2.2.2 (show Rep.rel (Zf .u64) aW [.int .u64 (N.1)] _ from (Zca (ZRn aX))) rfl rfl;have bS:M=(Y.set (m).toNat N.1).length:=setN ai;refine Zhk wn rfl (bQ rfl rfl) (mw S rfl fun f S=>ZP ?_);have S:=S.fr' (σ':=[(0,.slice (some ⟨a,off0,none⟩) (g) C),(1,.slice (some ⟨aT,aU,none⟩) V W),(2,.int .u64 q),(7,.slice (mkA (some aY)) (M) Z),(11,.int .u64 (aV.1)),(13,.int .u64 (N.2)),(20,.slice (some ⟨aT,aU,none⟩) V W),(21,.int .i64 ((((Zc 18446744073709551616 v)).length:Int))),(22,.int .i64 m)]) rfl
   refine Zp (bM _ _ (ZW (mv S rfl fun f S=>mv S rfl fun f S=>ov S rfl (ZD S rfl rfl ZSo) fun f S=>mw S rfl fun f S=>ZP (Zud (Zp (bB _ _ (bO H fun cT a0 H=>ZW (ov S rfl (ZD S rfl rfl (Z2f a0)) fun f S=>mv S rfl fun f S=>ZP ?_))))))));obtain rfl:=ZL H;refine bx _ rfl _ _ ⟨_,_,_,some aY,M,Z,(List.take (0+(m).toNat*1) I++[Value.int IntKind.u64 (N.1)]++List.drop (0+(m).toNat*1+1) I),_,rfl,(leT az aM),(S.fr' rfl),bR,bS,(Z5b _ _),(ZIb a0).2⟩
  have H:=ZCb H aj;refine ZOa S rfl aj (wp_exit (Z7a ?_));obtain rfl:=ZL H;have hq:=bz _ rfl;subst hq;have H:=bu;refine Z7a (Zzd ?_);obtain rfl:=ZL H;refine Zp (bs _ _ ⟨_,_,ax,M,Z,I,_,rfl,(leT (leR _) az),(S.fr' rfl),ah,ai,bw⟩)
 rintro f w ⟨L,b,aJ,s,G,h,X,hq,a1,S,a2,aA,bT⟩;subst hq;have H:=br;have r:=ZO a1 r;refine Zp (bo _ _ (ZC fun _ bU=>bO H fun cU ab H=>ZW (mv S rfl fun f S=>mv S rfl fun f S=>?_)));have D:=ZEa a1 D;refine ov S rfl (Z8b S (Zhb D) rfl rfl Zfa) fun f S=>mv S rfl fun f S=>?_;obtain ⟨ac,rfl⟩:=Znd S (j:=1) rfl (posN aA (Zo ab).2.2.2);have a3:=ZNa a2 (Zo ab).2.1;obtain ⟨cV,bV⟩:∃ c,(List.take (Zf .u64).n (List.drop (((((Zc 18446744073709551616 v)).length:Int)).toNat*(Zf .u64).n) h))=c:=⟨_,rfl⟩;rw [bV] at a3;obtain ⟨rfl,cW⟩:=a3;refine ov S rfl (Zsa S rfl rfl Zfa (Zo ab).1 (ltI aA (Zo ab).2.2.1)) fun f S=>?_;obtain ⟨w,bW,S⟩:=ZBd S ZAb (off:=0+((((Zc 18446744073709551616 v)).length:Int)).toNat*1) (z:=.int .u64 b) (cs:=[.int .u64 b]) (Z4c rfl) rfl (i:=1) rfl (Zdi S (j:=1) rfl (ltN aA (Zo ab).2.2.2)) (by first | rfl | simp [plain]);have p:Rep.rels (Zf .u64) X (List.take (0+((((Zc 18446744073709551616 v)).length:Int)).toNat*1) h++[Value.int IntKind.u64 (b)]++List.drop (0+((((Zc 18446744073709551616 v)).length:Int)).toNat*1+1) h) (L.set ((((Zc 18446744073709551616 v)).length:Int)).toNat b):=ZJh a2 (Zo ab).2.2.2 (show Rep.rel (Zf .u64) X [.int .u64 b] _ from (Zca bT)) rfl rfl
 have aN:s=(L.set ((((Zc 18446744073709551616 v)).length:Int)).toNat b).length:=setN aA;refine Zhk wn rfl (bW rfl rfl) (ZP (Zp (bU _ _ (ZC fun _ bX=>ZC fun _ bY=>bO H fun cX bZ H=>bO H fun cY b1 H=>bO H fun b2 b3 H=>ZW (mv S rfl fun f S=>?_)))));have p0s120:=r;have h69s120:=p;have b4:=S.vst.le;obtain ⟨cZ,c0,a4,t,S,b5,b6,b7,T⟩:=S.lendSeg (i:=0) (A:=(Zf .u64)) (l:=u) (ℓ':=[Loc.own (some ac) 153 1 s G ((List.take (0+((((Zc 18446744073709551616 v)).length:Int)).toNat*1) h++[Value.int IntKind.u64 (b)]++List.drop (0+((((Zc 18446744073709551616 v)).length:Int)).toNat*1+1) h))]) rfl rfl aH r au bi;have p:=ZO a4 p;refine opc S rfl (Zwa S [.slice (some ⟨a,off0,none⟩) (g) C] ZSk rfl rfl) (ZQl S.vin (show Rep.rel (Zv (Zf .u64)) _ [.slice (some ⟨a,off0,none⟩) (g) C] u from T) bZ) ?_;rintro _ c3 f w aB ⟨c4,rfl,P⟩ S;have p:=ZO aB p;have t:=aB _ _ t;obtain ⟨b8,b9,ca,rfl⟩:=ZKa P;refine mv S rfl fun f S=>?_;have T:=ZEa aB T;have h128s137:=T;have h69s137:=p;have h133s137:=P;have h124s137:=t;have cb:=S.vst.le;obtain ⟨c5,c6,aC,ak,S,cc,ce,cg,ch⟩:=S.lendSlice (i:=0) (A:=(Zf .u64)) (l:=(L.set ((((Zc 18446744073709551616 v)).length:Int)).toNat b)) (ℓ':=[]) rfl rfl rfl p aN
 have t:=aC _ _ t;refine opc S rfl (Zwa S [.slice (mkA (some ac)) (s) G] ZSk rfl rfl) (ZQl S.vin (show Rep.rel (Zv (Zf .u64)) _ [.slice (mkA (some ac)) (s) G] ((L.set ((((Zc 18446744073709551616 v)).length:Int)).toNat b)) from ch) b1) ?_;rintro _ c7 f w al ⟨c8,rfl,a5⟩ S;have t:=al _ _ t;have ak:=al _ _ ak;obtain ⟨ci,cj,ck,rfl⟩:=ZKa a5;have P:=ZEa (leT aC al) P;refine opc S rfl (Zwa S [.slice b8 b9 ca,.slice ci cj ck] Z6t rfl rfl) (cmp_c S.vin P a5 b3) ?_;rintro _ c9 f w am ⟨da,rfl,cl⟩ S;have t:=am _ _ t;have ak:=am _ _ ak;obtain ⟨rfl,db⟩:=cl;refine ov S rfl (ZD S rfl rfl ZHe) fun f S=>ZP ?_;obtain ⟨dc,an,S⟩:=S.takeBack (e:=Loc.own (some ac) 153 1 s G ((List.take (0+((((Zc 18446744073709551616 v)).length:Int)).toNat*1) h++[Value.int IntKind.u64 (b)]++List.drop (0+((((Zc 18446744073709551616 v)).length:Int)).toNat*1+1) h))) (leT (leT aC al) am) rfl ak cc ce cb cg;have T:=ZEa (leT (leT aC al) am) T;have T:=ZEa an h128s137;have p:=ZO an h69s137;have P:=ZEa am P;have P:=ZEa an h133s137;have t:=an _ _ h124s137;obtain ⟨a6,a7,S⟩:=S.takeBack (e:=Loc.box a E (pre0++cs0++post0)) (leT (leT a4 aB) an) rfl t b5 b6 b4 b7;have r:=ZO a7 p0s120
 have p:=ZO a7 h69s120;refine Zp (bY _ _ ?_);rcases Zqb (decide (b2<(0:Int))) with ao | ao
 ·have H:=Zyb H ao;refine Zrb S rfl ao (sr (mw S rfl fun f S=>oe (wp_ret (ZOh ?_))));obtain rfl:=ZL H;refine ZRo S (Z3c rfl (Z3a S rfl)) ⟨⟨[.bool false],rfl,Z3s⟩,(S.boxAt (j:=0) rfl).2,_,(S.boxAt (j:=0) rfl).1,au,r⟩
 have H:=ZCb H ao;refine ZOa S rfl ao (wp_skip (Zp (bX _ _ (sr (mw S rfl fun f S=>oe (ZC fun _ cm=>sr (mv S rfl fun f S=>ov S rfl (Z8b S au rfl rfl Zfa) fun f S=>mv S rfl fun f S=>oe ?_)))))));obtain ⟨cn,co,cp⟩:=Zma H;refine Zgd (fun f w=>∃ aD aO aE,aD=cn∧Zb.le a6 aE∧St 79 ⟨R,[a]⟩ o [] [Loc.box a E (pre0++aO++post0)] aE f w∧Rep.rels (Zf .u64) aE aO aD∧g=aD.length) (fun _ cq=>?_) ?_
 ·have H:=co;refine wp_block ?_;obtain ⟨dd,cr,ct⟩:=Zma H;refine Zqe cr (fun cu f w=>∃ ad ap d B ae,(ad,ap,d)=cu∧Zb.le a6 ae∧St 79 ⟨R,[a]⟩ o [(0,.slice (some ⟨a,off0,none⟩) (g) C),(7,.slice (mkA (some ac)) (s) G),(14,.int .u64 ap),(58,.int .i64 ((u.length:Int))),(59,.int .i64 d)] [Loc.box a E (pre0++B++post0),Loc.own (some ac) 153 1 s G ((List.take (0+((((Zc 18446744073709551616 v)).length:Int)).toNat*1) h++[Value.int IntKind.u64 (b)]++List.drop (0+((((Zc 18446744073709551616 v)).length:Int)).toNat*1+1) h))] ae f w∧Rep.rels (Zf .u64) ae B ad∧g=ad.length∧inR .u64 ap∧inR .i64 d) ⟨_,_,_,cs0,_,rfl,(leR _),(S.fr' rfl),r,au,(by decide),(by decide)⟩ ?_;rintro _ f w st ⟨ad,ap,d,B,ae,hq,aP,S,af,Q,de,df⟩ H dg cv cw;subst hq;have p:=ZO aP p;refine sr (ov S rfl (ZD S rfl rfl ZHe) fun f S=>oe (ZC fun _ cx=>?_));rcases Zqb (decide (d<(u.length:Int))) with aq | aq
  ·have H:=Zyb H aq;refine Zrb S rfl aq (wp_skip (Zp (cx _ _ (ZC fun _ cy=>wp_block (sr (mv S rfl fun f S=>mw S rfl fun f S=>oe (bO H fun a8 aF H=>bO H fun a9 aG H=>bO H fun U aQ H=>bO H fun dh ar H=>Z3g (fl:=#[true,true,true,true,true,true,true,true,true,true,true,false,true,true,true,true,false,false]) Zko (by kernel_rfl) S ?_)))))));intro ops O F w S;refine rfa O F 0 rfl rfl S (ZJ S rfl) fun f S=>rfa O F 1 rfl rfl S (ZJ S rfl) fun f S=>rfa O F 2 rfl rfl S (ZJ S rfl) fun f S=>rfa O F 3 rfl rfl S (ZJ S rfl) fun f S=>?_;have ba:=ZNa af (Zo aF).2.1;obtain ⟨di,bb⟩:∃ c,(List.take (Zf .u64).n (List.drop ((d).toNat*(Zf .u64).n) B))=c:=⟨_,rfl⟩;rw [bb] at ba;obtain ⟨rfl,cz⟩:=ba;refine rfa O F 4 rfl rfl S (Zsa S rfl rfl Zfa (Zo aF).1 (ltI Q (Zo aF).2.2.1)) fun f S=>rfa O F 5 rfl rfl S (Zkb S rfl ZAb (ZGi S (j:=0) rfl aH (Zve af Q) bb (ltN Q (Zo aF).2.2.2) 0 [.int .u64 a8] rfl zl)) fun f S=>rfa O F 6 rfl rfl S (ZJ S rfl) fun f S=>rfa O F 7 rfl rfl S (ZJ S rfl) fun f S=>?_;have bc:=ZNa p (Zo aG).2.1;obtain ⟨dj,bd⟩:∃ c,(List.take (Zf .u64).n (List.drop ((d).toNat*(Zf .u64).n) (List.take (0+((((Zc 18446744073709551616 v)).length:Int)).toNat*1) h++[Value.int IntKind.u64 (b)]++List.drop (0+((((Zc 18446744073709551616 v)).length:Int)).toNat*1+1) h)))=c:=⟨_,rfl⟩
   rw [bd] at bc;obtain ⟨rfl,cA⟩:=bc;refine rfa O F 8 rfl rfl S (Zsa S rfl rfl Zfa (Zo aG).1 (ltI aN (Zo aG).2.2.1)) fun f S=>rfa O F 9 rfl rfl S (Zkb S rfl ZAb (ZAe S (j:=1) rfl bd (ltN aN (Zo aG).2.2.2) 0 [.int .u64 a9] rfl zl)) fun f S=>rfa O F 10 rfl rfl S (ZJ S rfl) fun f S=>go1 O F 11 (nva [5,9,10,4,8,2,3,6,7] [0,1] O rfl rfl S (ZRj S [.int .u64 a8,.int .u64 a9,.int .u64 ap] (Zsr Zyw cz cA aQ) rfl rfl) fun f S=>⟨(py S rfl rfl (ZJ S rfl) (py S rfl rfl (ZJ S rfl) Zsc)),rfa O F 12 rfl rfl S (ZJ S rfl) fun f S=>rfa O F 13 rfl rfl S (ZAa S rfl rfl) fun f S=>rfa O F 14 rfl rfl S (ZAa S rfl rfl) fun f S=>?_⟩);have be:=ZNa af (Zo ar).2.1;obtain ⟨dk,cB⟩:∃ c,(List.take (Zf .u64).n (List.drop ((d).toNat*(Zf .u64).n) B))=c:=⟨_,rfl⟩;rw [cB] at be;obtain ⟨rfl,dl⟩:=be;refine rfa O F 15 rfl rfl S (Zsa S rfl rfl Zfa (Zo ar).1 (ltI Q (Zo ar).2.2.1)) fun f S=>go1 O F 16 ?_;obtain ⟨w,cC,S⟩:=Zlw S (k:=(d).toNat) ZAb (z:=.int .u64 (U.1)) (c:=[.int .u64 (U.1)]) (Z4c rfl) rfl (i:=0) rfl aH (Zve af Q) (ltN Q (Zo ar).2.2.2) rfl (by first | rfl | simp [plain]);have cD:Rep.rels (Zf .u64) ae (List.take (0+(d).toNat*1) B++[Value.int IntKind.u64 (U.1)]++List.drop (0+(d).toNat*1+1) B) (ad.set (d).toNat U.1):=ZJh af (Zo ar).2.2.2 (show Rep.rel (Zf .u64) ae [.int .u64 (U.1)] _ from (Zca (Z2p aQ))) rfl rfl
   have cE:g=(ad.set (d).toNat U.1).length:=setN Q;refine nxs [0,1,2,3,4,5,6,7,8,9,10,11,12,13,15] [14] O rfl rfl (cC rfl rfl) (⟨(py S rfl rfl (ZAa S rfl rfl) Zsc),go1 O F 17 (nva [0,1,2,3,4,5,6,7,8,9,10,11,12,13,14,15,16] [] O rfl rfl S (ZLd S rfl) fun f S=>⟨Zsc,fin1 O F (Zud (Zp (cy _ _ (bO H fun dm bf H=>ZW (ov S rfl (ZD S rfl rfl (Z2f bf)) fun f S=>mv S rfl fun f S=>ZP ?_)))))⟩)⟩);obtain rfl:=ZL H;refine cv _ rfl _ _ ⟨_,_,_,(List.take (0+(d).toNat*1) B++[Value.int IntKind.u64 (U.1)]++List.drop (0+(d).toNat*1+1) B),_,rfl,aP,(S.fr' rfl),cD,cE,(ZPt aQ),(ZIb bf).2⟩
  have H:=ZCb H aq;refine ZOa S rfl aq (wp_exit (Z7a ?_));obtain rfl:=ZL H;have hq:=cw _ rfl;subst hq;have H:=ct;refine Z7a (Zzd ?_);obtain rfl:=ZL H;have S:=S.reorder (ℓ':=[Loc.box a E (pre0++B++post0)]) [0] rfl (by decide);refine Zp (cq _ _ ⟨_,B,_,rfl,(leT (leR _) aP),(S.fr' rfl),af,Q⟩)
 rintro f w ⟨aD,aO,aE,hq,dn,S,cF,cG⟩;subst hq;have H:=cp;refine Zp (cm _ _ (sr (mw S rfl fun f S=>oe (wp_ret ?_))));obtain rfl:=ZL H;refine ZRo S (Z3c rfl (Z3a S rfl)) ⟨⟨[.bool true],rfl,Z3s⟩,(S.boxAt (j:=0) rfl).2,_,(S.boxAt (j:=0) rfl).1,cG,cF⟩
theorem take_c {d:World} {a:Zb} (hv:VIn a d) {b off0 c e:Nat} {f:TypeId} {pre0 cs0 post0:List Value} {u:(List Int)} (l:d.heap[b]? = some (.cells (pre0++cs0++post0).toArray f (0,0))) (m:off0=pre0.length) (n:a b=none) (o:c=u.length) (p:c≤e∧e≤maxLen) (g:Rep.rels (Zf .u64) a cs0 u) {h:List Value} {v:Nat} (r:Rep.rel Zw a h v) {i:List Value} {q:Int} (j:Rep.rel (Zf .u64) a i q) {z:Bool×(List Int)} (hm:Zzh u v q=some z) :
  ZYc Tryz.prog 177 #[Value.slice (some ⟨b,off0,none⟩) c e,Zw.val h,(Zf .u64).val i] d a [b] (fun y v' w'=>(∃ k,y=Zhd.val k∧Zhd.rel v' k z.1)∧v' b=none∧∃ cs,w'.heap[b]? = some (.cells (pre0++cs++post0).toArray f (0,0))∧c=z.2.length∧Rep.rels (Zf .u64) v' cs z.2) :=
 take_w hv l m n o p g r j (Z7v (ZHo g) j.2 hm)
theorem digit_w {x:World} {m:Zb} (hv:VIn m x) {a off0 e h:Nat} {A:TypeId} {pre0 cs0 post0:List Value} {u:(List Int)} (a1:x.heap[a]? = some (.cells (pre0++cs0++post0).toArray A (0,0))) (G:off0=pre0.length) (a2:m a=none) (k:e=u.length) (a3:e≤h∧h≤maxLen) (d:Rep.rels (Zf .u64) m cs0 u) {c1:List Value} {v:Nat} (g:Rep.rel Zw m c1 v) {z:Int×(List Int)} (H:Zri u v=some z):ZYc Tryz.prog 165 #[.slice (some ⟨a,off0,none⟩) e h,Zw.val c1] x m [a] (fun y v' w'=>(∃ r0,y=(Zf .u64).val r0∧(Zf .u64).rel v' r0 z.1)∧v' a=none∧∃ cs,w'.heap[a]? = some (.cells (pre0++cs++post0).toArray A (0,0))∧e=z.2.length∧Rep.rels (Zf .u64) v' cs z.2):=by
 obtain ⟨q1,o,p,rfl⟩:=ZKa g;refine Zkr (K:=90) (args:=[.slice (some ⟨a,off0,none⟩) (e) h,.slice q1 o p]) hv a1 a2 Tryz.func165 rfl rfl zl fun f S=>?_;unfold Zri at H;refine sr (mw S rfl fun f S=>oe (sr (mv S rfl fun f S=>ov S rfl (Z8b S (Zhb g) rfl rfl Zfa) fun f S=>mw S rfl fun f S=>oe (sr (mw S rfl fun f S=>oe (ZC fun _ a4=>ZC fun _ a5=>bO H fun aF V H=>?_))))));refine bO H fun cm a6 H=>bO H fun a7 aj H=>Z3g (fl:=#[true,true,true,true,true,true,true,true,true,true]) Zko (by kernel_rfl) S ?_;intro ops O F w S;refine rfa O F 0 rfl rfl S (ZJ S rfl) fun f S=>rfa O F 1 rfl rfl S (ZJ S rfl) fun f S=>?_;have aG:=ZNa d (Zo V).2.1;obtain ⟨cn,aH⟩:∃ c,(List.take (Zf .u64).n (List.drop (((((Zc 18446744073709551616 v)).length:Int)).toNat*(Zf .u64).n) cs0))=c:=⟨_,rfl⟩;rw [aH] at aG;obtain ⟨rfl,co⟩:=aG;refine rfa O F 2 rfl rfl S (Zsa S rfl rfl Zfa (Zo V).1 (ltI k (Zo V).2.2.1)) fun f S=>rfa O F 3 rfl rfl S (Zkb S rfl ZAb (ZGi S (j:=0) rfl G (Zve d k) aH (ltN k (Zo V).2.2.2) 0 [.int .u64 aF] rfl zl)) fun f S=>rfa O F 4 rfl rfl S (ZJ S rfl) fun f S=>rfa O F 5 rfl rfl S (ZJ S rfl) fun f S=>rfa O F 6 rfl rfl S (ZD S rfl rfl (ZNb a6)) fun f S=>?_;obtain ⟨_,r,s,cp,rfl,a8,a9⟩:=Zqc g (Zo aj).2.1
 obtain ⟨rfl,cq⟩:=a9;refine rfa O F 7 rfl rfl S (Zsa S rfl rfl Zfa (Zo aj).1 (ltI (Zhb g) (Zo aj).2.2.1)) fun f S=>rfa O F 8 rfl rfl S (Zkb S rfl ZAb (S.view a8)) fun f S=>rfa O F 9 rfl rfl S (ZD S rfl rfl ZHe) fun f S=>fin1 O F (Zp (a5 _ _ ?_));obtain ⟨ba,bb,bc⟩:=Zma H;refine Zgd (fun f w=>∃ W I,W=ba∧Zb.le m I∧St 90 ⟨x,[a]⟩ m [(0,.slice (some ⟨a,off0,none⟩) (e) h),(1,.slice (some ⟨r,s,none⟩) o p),(6,.int .u64 W)] [Loc.box a A (pre0++cs0++post0)] I f w∧inR .u64 W) (fun _ aI=>?_) ?_
 ·have H:=bb;rcases Zqb (decide (aF<a7)) with J | J
  ·have H:=Zyb H J;refine Zrb S rfl J (sr (mw S rfl fun f S=>oe (ZC fun _ bd=>bO H fun X Y H=>bO H fun be bf H=>bO H fun Z aa H=>bO H fun cr bg H=>bO H fun ak al H=>bO H fun aJ bh H=>Z3g (fl:=#[true,true,true,true,true,true,true,true,true,true,true,true,true,true,false,true,true,true,false,false]) Zko (by kernel_rfl) S ?_)));intro ops O F w S;refine rfa O F 0 rfl rfl S (ZJ S rfl) fun f S=>rfa O F 1 rfl rfl S (ZJ S rfl) fun f S=>?_;have aK:=ZNa d (Zo Y).2.1;obtain ⟨ct,aL⟩:∃ c,(List.take (Zf .u64).n (List.drop (((((Zc 18446744073709551616 v)).length:Int)).toNat*(Zf .u64).n) cs0))=c:=⟨_,rfl⟩;rw [aL] at aK;obtain ⟨rfl,bi⟩:=aK;refine rfa O F 2 rfl rfl S (Zsa S rfl rfl Zfa (Zo Y).1 (ltI k (Zo Y).2.2.1)) fun f S=>rfa O F 3 rfl rfl S (Zkb S rfl ZAb (ZGi S (j:=0) rfl G (Zve d k) aL (ltN k (Zo Y).2.2.2) 0 [.int .u64 X] rfl zl)) fun f S=>rfa O F 4 rfl rfl S (ZJ S rfl) fun f S=>rfa O F 5 rfl rfl S (ZJ S rfl) fun f S=>rfa O F 6 rfl rfl S (ZD S rfl rfl (ZNb bf)) fun f S=>?_;have aM:=ZNa d (Zo aa).2.1;obtain ⟨cu,aN⟩:∃ c,(List.take (Zf .u64).n (List.drop ((be).toNat*(Zf .u64).n) cs0))=c:=⟨_,rfl⟩;rw [aN] at aM;obtain ⟨rfl,bj⟩:=aM;refine rfa O F 7 rfl rfl S (Zsa S rfl rfl Zfa (Zo aa).1 (ltI k (Zo aa).2.2.1)) fun f S=>rfa O F 8 rfl rfl S (Zkb S rfl ZAb (ZGi S (j:=0) rfl G (Zve d k) aN (ltN k (Zo aa).2.2.2) 0 [.int .u64 Z] rfl zl)) fun f S=>rfa O F 9 rfl rfl S (ZJ S rfl) fun f S=>rfa O F 10 rfl rfl S (ZJ S rfl) fun f S=>rfa O F 11 rfl rfl S (ZD S rfl rfl (ZNb bg)) fun f S=>?_
   obtain ⟨cv,am,bk⟩:=ZZm g (Zo al).2.1;obtain ⟨rfl,bm⟩:=bk;refine rfa O F 12 rfl rfl S (Zsa S rfl rfl Zfa (Zo al).1 (ltI (Zhb g) (Zo al).2.2.1)) fun f S=>rfa O F 13 rfl rfl S (Zkb S rfl ZAb (S.view am)) fun f S=>go1 O F 14 (nxc [3,8,13,2,7,12,0,1,4,6,9,11,5,10] [] O rfl S rfl (Zwa S [.int .u64 X,.int .u64 Z,.int .u64 ak] k_en150 rfl rfl) (div64_c S.vin (show Rep.rel (Zf .u64) _ [.int .u64 X] X from (Zca bi)) (show Rep.rel (Zf .u64) _ [.int .u64 Z] Z from (Zca bj)) (show Rep.rel (Zf .u64) _ [.int .u64 ak] ak from (Zca bm)) bh) ?_);rintro _ aO f w ab ⟨cw,cx,rfl,bn,bo⟩ S;have d:=ZO ab d;have am:=Atm ab am;obtain ⟨rfl,bp⟩:=bn;obtain ⟨rfl,bq⟩:=bo;refine ⟨Zsc,rfa O F 15 rfl rfl S (ZJ S rfl) fun f S=>rfa O F 16 rfl rfl S (ZAa S rfl rfl) fun f S=>rfa O F 17 rfl rfl S (ZAa S rfl rfl) fun f S=>go1 O F 18 (nva [0,1,2,3,4,5,6,7,8,9,10,11,12,13,14,15,16] [17] O rfl rfl S (ZLd S rfl) fun f S=>⟨(py S rfl rfl (ZAa S rfl rfl) Zsc),go1 O F 19 (nva [0,1,2,3,4,5,6,7,8,9,10,11,12,13,14,15,16,17,18] [] O rfl rfl S (ZLd S rfl) fun f S=>⟨Zsc,fin1 O F ?_⟩)⟩)⟩;have S:=S.fr' (σ':=[(0,.slice (some ⟨a,off0,none⟩) (e) h),(1,.slice (some ⟨r,s,none⟩) o p),(5,.int .i64 ((((Zc 18446744073709551616 v)).length:Int))),(6,.int .u64 (aJ.1)),(7,.int .u64 (aJ.2))]) rfl
   refine Zp (bd _ _ ?_);obtain ⟨br,bs,bt⟩:=Zma H;refine Zgd (fun f w=>∃ ac an,ac=br∧Zb.le aO an∧St 90 ⟨x,[a]⟩ m [(0,.slice (some ⟨a,off0,none⟩) (e) h),(1,.slice (some ⟨r,s,none⟩) o p),(6,.int .u64 ac)] [Loc.box a A (pre0++cs0++post0)] an f w∧inR .u64 ac) (fun _ aP=>?_) ?_
   ·have H:=bs;refine wp_block ?_;obtain ⟨cy,bu,aQ⟩:=Zma H;refine Zqe bu (fun bv f w=>∃ q l ao,(q,l)=bv∧Zb.le aO ao∧St 90 ⟨x,[a]⟩ m [(0,.slice (some ⟨a,off0,none⟩) (e) h),(1,.slice (some ⟨r,s,none⟩) o p),(5,.int .i64 ((((Zc 18446744073709551616 v)).length:Int))),(6,.int .u64 q),(7,.int .u64 l)] [Loc.box a A (pre0++cs0++post0)] ao f w∧inR .u64 q∧inR .u64 l) ⟨_,_,_,rfl,(leR _),(S.fr' rfl),bp,bq⟩ ?_;rintro _ f w st ⟨q,l,ao,hq,L,S,aR,cz⟩ H cA bw aS;subst hq;have d:=ZO L d;refine wp_block (ZC fun _ bx=>bO H fun cB bz H=>bO H fun ap aq H=>bO H fun B bA H=>ZW (mv S rfl fun f S=>mv S rfl fun f S=>mv S rfl fun f S=>ov S rfl (ZD S rfl rfl (ZNb bz)) fun f S=>?_));have g:=ZEa (leT ab L) g;obtain ⟨cC,ar,bB⟩:=ZZm g (Zo aq).2.1;obtain ⟨rfl,bC⟩:=bB;refine ov S rfl (Zsa S rfl rfl Zfa (Zo aq).1 (ltI (Zhb g) (Zo aq).2.2.1)) fun f S=>ov S rfl (Zkb S rfl ZAb (S.view ar)) fun f S=>opc S rfl (Zwa S [.int .u64 q,.int .u64 ap] Z6m rfl rfl) (Zip S.vin (show Rep.rel (Zf .u64) _ [.int .u64 q] q from (Zca aR)) (show Rep.rel (Zf .u64) _ [.int .u64 ap] ap from (Zca bC)) bA) ?_;rintro _ bD f w E ⟨cD,cE,rfl,bE,bG⟩ S
    have d:=ZO E d;have ar:=Atm E ar;obtain ⟨rfl,cF⟩:=bE;obtain ⟨rfl,cG⟩:=bG;refine mv S rfl fun f S=>ov S rfl (ZAa S rfl rfl) fun f S=>ov S rfl (ZAa S rfl rfl) fun f S=>mw S rfl fun f S=>mw S rfl fun f S=>ZP (Zp (bx _ _ (ZC fun _ bH=>ZC fun _ bI=>?_)));obtain ⟨bJ,bK,bM⟩:=Zma H;refine Zgd (fun f w=>∃ ad au,ad=bJ∧Zb.le bD au∧St 90 ⟨x,[a]⟩ m [(0,.slice (some ⟨a,off0,none⟩) (e) h),(1,.slice (some ⟨r,s,none⟩) o p),(5,.int .i64 ((((Zc 18446744073709551616 v)).length:Int))),(6,.int .u64 q),(7,.int .u64 l),(67,.bool ad)] [Loc.box a A (pre0++cs0++post0)] au f w) (fun _ av=>?_) ?_
    ·have H:=bK;refine ZW (mv S rfl fun f S=>mv S rfl fun f S=>ov S rfl (ZD S rfl rfl ZHe) fun f S=>mv S rfl fun f S=>?_);rcases Zqb (decide (B.1<l)) with M | M
     ·have H:=Zyb H M;have S:=S.bool (t:=54) rfl M;refine opn S rfl rfl rfl rfl fun f S=>opn S rfl rfl rfl rfl fun f S=>opn S rfl rfl rfl rfl fun f S=>opn S rfl rfl rfl rfl fun f S=>Z9e S (Zwe S rfl rfl rfl zl) rfl zl fun f S=>Z9e S (Zwe S rfl rfl rfl zl) rfl zl fun f S=>Z9e S (Zwe S rfl rfl rfl zl) rfl zl fun f S=>Z9e S (Zwe S rfl rfl rfl zl) rfl zl fun f S=>Z9e S (Zwe S rfl rfl rfl zl) rfl zl fun f S=>Z9e S (Zwe S rfl rfl rfl zl) rfl zl fun f S=>Z9e S (Zwe S rfl rfl rfl zl) rfl zl fun f S=>opn S rfl rfl rfl rfl fun f S=>ov S rfl (Zaf S (b:=true) rfl rfl) fun f S=>ZP ?_;have S:=S.fr' (σ':=[(0,.slice (some ⟨a,off0,none⟩) (e) h),(1,.slice (some ⟨r,s,none⟩) o p),(5,.int .i64 ((((Zc 18446744073709551616 v)).length:Int))),(6,.int .u64 q),(7,.int .u64 l),(55,undef),(56,undef),(57,undef),(58,undef),(59,undef),(60,undef),(61,undef),(62,undef),(63,undef),(64,undef),(65,undef),(66,undef),(67,.bool true)]) rfl;obtain rfl:=ZL H;refine Zp (av _ _ ⟨_,_,rfl,(leR _),(S.fr' rfl)⟩)
     have H:=ZCb H M;have S:=S.bool (t:=54) rfl M;refine opy S rfl rfl rfl rfl (ZJ S rfl) fun f S=>opy S rfl rfl rfl rfl (ZJ S rfl) fun f S=>opy S rfl rfl rfl rfl (ZD S rfl rfl Z8g) fun f S=>opy S rfl rfl rfl rfl (ZJ S rfl) fun f S=>?_;rcases Zqb (B.1==l) with C | C
     ·have H:=Zyb H C;have S:=S.bool (t:=57) rfl C;have S:=S.bool (t:=58) rfl C;refine bO H fun ax bP H=>bO H fun N ae H=>opy S rfl rfl rfl rfl (ZJ S rfl) fun f S=>opy S rfl rfl rfl rfl (ZJ S rfl) fun f S=>opy S rfl rfl rfl rfl (ZJ S rfl) fun f S=>opy S rfl rfl rfl rfl (ZD S rfl rfl (ZNb bP)) fun f S=>?_;have aT:=ZNa d (Zo ae).2.1;obtain ⟨cH,aU⟩:∃ c,(List.take (Zf .u64).n (List.drop ((ax).toNat*(Zf .u64).n) cs0))=c:=⟨_,rfl⟩;rw [aU] at aT;obtain ⟨rfl,cI⟩:=aT;refine opy S rfl rfl rfl rfl (Zsa S rfl rfl Zfa (Zo ae).1 (ltI k (Zo ae).2.2.1)) fun f S=>opy S rfl rfl rfl rfl (Zkb S rfl ZAb (ZGi S (j:=0) rfl G (Zve d k) aU (ltN k (Zo ae).2.2.2) 0 [.int .u64 N] rfl zl)) fun f S=>opy S rfl rfl rfl rfl (ZD S rfl rfl Zyq) fun f S=>opy S rfl rfl rfl rfl (Zaf S (b:=true) rfl rfl) fun f S=>ov S rfl (Zaf S (b:=false) rfl rfl) fun f S=>ZP ?_;have S:=S.fr' (σ':=[(0,.slice (some ⟨a,off0,none⟩) (e) h),(1,.slice (some ⟨r,s,none⟩) o p),(5,.int .i64 ((((Zc 18446744073709551616 v)).length:Int))),(6,.int .u64 q),(7,.int .u64 l),(55,.int .u64 (B.1)),(56,.int .u64 l),(57,.bool true),(58,.bool true),(59,.int .u64 (B.2)),(60,.slice (some ⟨a,off0,none⟩) (e) h),(61,.int .i64 ((((Zc 18446744073709551616 v)).length:Int))),(62,.int .i64 ax),(63,.pointer (some ⟨a,off0+(ax).toNat*1,none⟩)),(64,.int .u64 N),(65,.bool (decide (B.2≤N))),(66,.bool (decide (B.2≤N))),(67,.bool (decide (B.2≤N)))]) rfl
      obtain rfl:=ZL H;refine Zp (av _ _ ⟨_,_,rfl,(leR _),(S.fr' rfl)⟩)
     have H:=ZCb H C;have S:=S.bool (t:=57) rfl C;have S:=S.bool (t:=58) rfl C;refine opn S rfl rfl rfl rfl fun f S=>opn S rfl rfl rfl rfl fun f S=>opn S rfl rfl rfl rfl fun f S=>opn S rfl rfl rfl rfl fun f S=>opn S rfl rfl rfl rfl fun f S=>opn S rfl rfl rfl rfl fun f S=>opn S rfl rfl rfl rfl fun f S=>opy S rfl rfl rfl rfl (Zaf S (b:=false) rfl rfl) fun f S=>ov S rfl (Zaf S (b:=false) rfl rfl) fun f S=>ZP ?_;have S:=S.fr' (σ':=[(0,.slice (some ⟨a,off0,none⟩) (e) h),(1,.slice (some ⟨r,s,none⟩) o p),(5,.int .i64 ((((Zc 18446744073709551616 v)).length:Int))),(6,.int .u64 q),(7,.int .u64 l),(55,.int .u64 (B.1)),(56,.int .u64 l),(57,.bool false),(58,.bool false),(59,undef),(60,undef),(61,undef),(62,undef),(63,undef),(64,undef),(65,undef),(66,.bool false),(67,.bool false)]) rfl;obtain rfl:=ZL H;refine Zp (av _ _ ⟨_,_,rfl,(leR _),(S.fr' rfl)⟩)
    rintro f w ⟨ad,au,hq,P,S⟩;subst hq;have H:=bM;have d:=ZO P d;refine Zp (bI _ _ ?_);rcases Zqb (ad) with Q | Q
    ·have H:=Zyb H Q;refine Zrb S rfl Q (wp_exit (Z7a (Zyt rfl ?_)));obtain rfl:=ZL H;have hq:=aS _ rfl;subst hq;have H:=aQ;refine Z7a (Zzd ?_);obtain rfl:=ZL H;refine Zp (aP _ _ ⟨_,_,rfl,(leT (leT (leT (leR _) L) E) P),(S.fr' rfl),aR⟩)
    have H:=ZCb H Q;refine ZOa S rfl Q (wp_skip (Zp (bH _ _ (sr (mv S rfl fun f S=>ov S rfl (ZD S rfl rfl Zjo) fun f S=>mw S rfl fun f S=>oe (sr (mw S rfl fun f S=>oe (ZC fun _ bQ=>bO H fun cJ bR H=>bO H fun bS ay H=>?_))))))));refine bO H fun bT aV H=>ZW (mv S rfl fun f S=>mv S rfl fun f S=>mv S rfl fun f S=>ov S rfl (ZD S rfl rfl (ZNb bR)) fun f S=>?_);have g:=ZEa (leT E P) g;obtain ⟨cK,bU,bV⟩:=ZZm g (Zo ay).2.1;obtain ⟨rfl,cL⟩:=bV;refine ov S rfl (Zsa S rfl rfl Zfa (Zo ay).1 (ltI (Zhb g) (Zo ay).2.2.1)) fun f S=>ov S rfl (Zkb S rfl ZAb (S.view bU)) fun f S=>ov S rfl (ZRj S [.int .u64 l,.int .u64 bS,.int .u64 0] (Zfp Zhv aV) rfl rfl) fun f S=>mv S rfl fun f S=>ov S rfl (ZAa S rfl rfl) fun f S=>ov S rfl (ZAa S rfl rfl) fun f S=>mw S rfl fun f S=>mw S rfl fun f S=>ZP (Zp (bQ _ _ (sr (mv S rfl fun f S=>ov S rfl (ZD S rfl rfl ZDf) fun f S=>oe ?_))));rcases Zqb (decide ((0:Int)<bT.2)) with R | R
    ·have H:=Zyb H R;refine Zrb S rfl R (wp_exit (Zyt rfl ?_));obtain rfl:=ZL H;have hq:=aS _ rfl;subst hq;have H:=aQ;refine Z7a (Zzd ?_);obtain rfl:=ZL H;refine Zp (aP _ _ ⟨_,_,rfl,(leT (leT (leT (leR _) L) E) P),(S.fr' rfl),(Z5b _ _)⟩)
    have H:=ZCb H R;refine ZOa S rfl R (wp_skip (Zud ?_));obtain rfl:=ZL H;refine bw _ rfl _ _ ⟨_,_,_,rfl,(leT (leT L E) P),(S.fr' rfl),(Z5b _ _),(ZRn aV)⟩
   rintro f w ⟨ac,an,hq,aW,S,bW⟩;subst hq;have H:=bt;have d:=ZO aW d;obtain rfl:=ZL H;refine Zp (aI _ _ ⟨_,_,rfl,(leT (leT (leR _) ab) aW),(S.fr' rfl),bW⟩)
  have H:=ZCb H J;refine ZOa S rfl J (wp_skip ?_);obtain rfl:=ZL H;refine Zp (aI _ _ ⟨_,_,rfl,(leR _),(S.fr' rfl),(by decide)⟩)
 rintro f w ⟨W,I,hq,aX,S,bX⟩;subst hq;have H:=bc;have d:=ZO aX d;refine Zp (a4 _ _ (ZC fun _ bY=>?_));obtain ⟨bZ,b1,b2⟩:=Zma H;refine Zgd (fun f w=>∃ af T az ag,(af,T)=bZ∧Zb.le I ag∧St 90 ⟨x,[a]⟩ m [(6,.int .u64 T)] [Loc.box a A (pre0++az++post0)] ag f w∧Rep.rels (Zf .u64) ag az af∧e=af.length∧inR .u64 T) (fun _ b3=>?_) ?_
 ·have H:=b1;refine wp_block ?_;obtain ⟨cM,b4,b5⟩:=Zma H;refine Zqe b4 (fun b6 f w=>∃ ah D aA ai,(ah,D)=b6∧Zb.le I ai∧St 90 ⟨x,[a]⟩ m [(0,.slice (some ⟨a,off0,none⟩) (e) h),(1,.slice (some ⟨r,s,none⟩) o p),(6,.int .u64 D)] [Loc.box a A (pre0++aA++post0)] ai f w∧Rep.rels (Zf .u64) ai aA ah∧e=ah.length∧inR .u64 D) ⟨_,_,cs0,_,rfl,(leR _),(S.fr' rfl),d,k,bX⟩ ?_;rintro _ f w st ⟨ah,D,aA,ai,hq,aB,S,aC,b7,aY⟩ H cN b8 b9;subst hq;refine ZC fun _ ca=>ZC fun _ cb=>bO H fun cc ce H=>ZW (mv S rfl fun f S=>mv S rfl fun f S=>mv S rfl fun f S=>?_);have g:=ZEa (leT aX aB) g;refine ZRq S wn rfl zl (Zwa S [.slice (some ⟨a,off0,none⟩) (e) h,.slice (some ⟨r,s,none⟩) o p,.int .u64 D] k_en177 rfl rfl) (i:=0) rfl rfl (take_c S.vin (S.boxAt (j:=0) rfl).1 G (S.boxAt (j:=0) rfl).2 b7 a3 aC g (show Rep.rel (Zf .u64) _ [.int .u64 D] D from (Zca aY)) ce) ?_;rintro _ cO f w aD ⟨⟨cP,rfl,cg⟩,ch,aE,ci,aZ,a0⟩ hSf;have aC:=ZO aD aC;have S:=hSf (Loc.box a A (pre0++aE++post0)) rfl ci ch;obtain rfl:=cg;refine ov S rfl (Zgq S rfl) fun f S=>ZP (Zp (cb _ _ ?_));rcases Zqb (!(cc.1)) with U | U
  ·have H:=Zyb H U;refine Zrb S rfl U (wp_skip (Zp (ca _ _ (wp_block (ZW (mv S rfl fun f S=>ov S rfl (ZD S rfl rfl Zjo) fun f S=>mw S rfl fun f S=>ZP (Zud ?_)))))));obtain rfl:=ZL H;refine b8 _ rfl _ _ ⟨_,_,aE,_,rfl,(leT aB aD),(S.fr' rfl),a0,aZ,(Z5b _ _)⟩
  have H:=ZCb H U;refine ZOa S rfl U (wp_exit (Z7a ?_));obtain rfl:=ZL H;have hq:=b9 _ rfl;subst hq;have H:=b5;refine Z7a (Zzd ?_);obtain rfl:=ZL H;refine Zp (b3 _ _ ⟨_,_,aE,_,rfl,(leT (leT (leR _) aB) aD),(S.fr' rfl),a0,aZ,aY⟩)
 rintro f w ⟨af,T,az,ag,hq,cQ,S,cj,ck,cl⟩;subst hq;have H:=b2;refine Zp (bY _ _ (sr (mv S rfl fun f S=>mw S rfl fun f S=>oe (wp_ret ?_))));obtain rfl:=ZL H;refine ZRo S (Z3c rfl (Z3a S rfl)) ⟨⟨[.int .u64 T],rfl,(Zca cl)⟩,(S.boxAt (j:=0) rfl).2,_,(S.boxAt (j:=0) rfl).1,ck,cj⟩
theorem digit_c {d:World} {b:Zb} (hv:VIn b d) {a off0 c e:Nat} {f:TypeId} {pre0 cs0 post0:List Value} {u:(List Int)} (j:d.heap[a]? = some (.cells (pre0++cs0++post0).toArray f (0,0))) (k:off0=pre0.length) (l:b a=none) (m:c=u.length) (n:c≤e∧e≤maxLen) (g:Rep.rels (Zf .u64) b cs0 u) {h:List Value} {v:Nat} (o:Rep.rel Zw b h v) {z:Int×(List Int)} (hm:Zsh u v=some z) :
  ZYc Tryz.prog 165 #[Value.slice (some ⟨a,off0,none⟩) c e,Zw.val h] d b [a] (fun y v' w'=>(∃ i,y=(Zf .u64).val i∧(Zf .u64).rel v' i z.1)∧v' a=none∧∃ cs,w'.heap[a]? = some (.cells (pre0++cs++post0).toArray f (0,0))∧c=z.2.length∧Rep.rels (Zf .u64) v' cs z.2) :=
 digit_w hv j k l m n g o (Z9A (ZHo g) hm)
end Go.Eng
set_option maxRecDepth 100000
set_option maxHeartbeats 4000000
namespace Go.Eng
open Go.Proofs Go.RowKit
noncomputable def left_q:FuncId×Con:=(164,⟨[.leaf 0,.int .i64],[.leaf 0],fun p=>ZNd p.1 p.2⟩)
theorem left_r:KR left_q:=Zz (C:=cf2 [(55,0)] [ZNe]) (.n (.two (.f (.j [0,1] [] [.s 14 (.dat .bool)] .no)) (.n (.f (.n (.j [] [] [.s 5 (.own 153 (.int .u64))] (.f (.l [1,23,24] [] [.s 5 (.own 153 (.int .u64)),.s 25 (.dat (.int .i64))] 0 [] [] [.s 5 (.own 153 (.int .u64))] .no)))))))) Tryz.func164 [] (fun v vals x z ha hz=>.trans (by kernel_rfl) (ZnA hz)) ⟨ZOg,tr⟩
end Go.Eng
namespace Go.Eng
open Go.Proofs Go.RowKit
theorem Zzr {e:World} {b:Zb} (hv:VIn b e) {c:List Value} {a:Nat} (g:Rep.rel Zw b c a) {d:List Value} {n:Int} (h:Rep.rel (Zf .i64) b d n) {z:Nat} (hm:ZNd a n=some z) :
  Ret Tryz.prog 164 #[Zw.val c,(Zf .i64).val d] e b (fun y v'=>∃ f,y=Zw.val f∧Zw.rel v' f z) :=
 (left_r e b [Zw.val c,(Zf .i64).val d] (a,n) z hv ⟨c,_,rfl,g,d,rfl,h⟩ hm).2
theorem lz64_c {c:World} {a:Zb} (hv:VIn a c) {b:List Value} {x:Int} (e:Rep.rel (Zf .u64) a b x) {z:Int} (hm:ZEd x=some z) :
  Ret Tryz.prog 163 #[(Zf .u64).val b] c a (fun y v'=>∃ d,y=(Zf .i64).val d∧(Zf .i64).rel v' d z) :=
 (Zmv c a [(Zf .u64).val b] (x) z hv ⟨b,rfl,e⟩ hm).2
end Go.Eng
set_option maxRecDepth 100000
set_option maxHeartbeats 4000000
namespace Go.Eng
open Go.Proofs Go.RowKit
noncomputable def right_q:FuncId×Con:=(166,⟨[.leaf 0,.int .i64],[.leaf 0],fun p=>ZJf p.1 p.2⟩)
theorem right_r:KR right_q:=Zz (C:=cf2 [(55,0)] [ZNe]) (.n (.n (.n (.f (.n (.j [] [] [.s 5 (.own 153 (.int .u64))] (.f (.l [0,1,19] [] [.s 5 (.own 153 (.int .u64)),.s 20 (.dat (.int .i64))] 0 [] [] [.s 5 (.own 153 (.int .u64))] (.f (.n (.n (.f (.f (.n (.n (.n (.j [0,1,19,20] [] [.s 5 (.own 153 (.int .u64))] .no))))))))))))))))) Tryz.func166 [] (fun v vals x z ha hz=>by obtain ⟨c0,w0,e0,p0,c1,e1,p1⟩:=ha;exact .trans (by kernel_rfl) (Zfz p1.2 hz)) ⟨ZOg,tr⟩
end Go.Eng
namespace Go.Eng
open Go.Proofs Go.RowKit
theorem right_c {e:World} {b:Zb} (hv:VIn b e) {c:List Value} {a:Nat} (g:Rep.rel Zw b c a) {d:List Value} {n:Int} (h:Rep.rel (Zf .i64) b d n) {z:Nat} (hm:ZJf a n=some z) :
  Ret Tryz.prog 166 #[Zw.val c,(Zf .i64).val d] e b (fun y v'=>∃ f,y=Zw.val f∧Zw.rel v' f z) :=
 (right_r e b [Zw.val c,(Zf .i64).val d] (a,n) z hv ⟨c,_,rfl,g,d,rfl,h⟩ hm).2
theorem word_c {c:World} {a:Zb} (hv:VIn a c) {b:List Value} {n:Int} (e:Rep.rel (Zf .u64) a b n) {z:Nat} (hm:Zvc n=some z) :
  Ret Tryz.prog 128 #[(Zf .u64).val b] c a (fun y v'=>∃ d,y=Zw.val d∧Zw.rel v' d z) :=
 (Z0t c a [(Zf .u64).val b] (n) z hv ⟨b,rfl,e⟩ hm).2
theorem Z0z {w0:World} {F:Zb} (hv:VIn F w0) {c0:List Value} {a:Nat} (m:Rep.rel Zw F c0 a) {c1:List Value} {b:Nat} (g:Rep.rel Zw F c1 b) {z:Nat×Nat} (H:Zij a b=some z):Ret Tryz.prog 131 #[Zw.val c0,Zw.val c1] w0 F (fun y v'=>∃ r0 r1,y = .tuple #[Zw.val r0,Zw.val r1]∧Zw.rel v' r0 z.1∧Zw.rel v' r1 z.2):=by
 obtain ⟨R,T,U,rfl⟩:=ZKa m;obtain ⟨q4,n5,k6,rfl⟩:=ZKa g;refine Zej (K:=84) (args:=[.slice R T U,.slice q4 n5 k6]) hv Tryz.func131 rfl rfl zl fun f S=>?_;unfold Zij at H;refine sr (mw S rfl fun f S=>mw S rfl fun f S=>oe (ZC fun _ bc=>wp_block (ZC fun _ bd=>bO H fun be bf H=>ZW (mv S rfl fun f S=>mv S rfl fun f S=>opc S rfl (Zwa S [.slice R T U,.slice q4 n5 k6] Z6t rfl rfl) (cmp_c S.vin m g bf) ?_))));rintro _ cX f w aj ⟨cY,rfl,bg⟩ S;obtain ⟨rfl,cZ⟩:=bg;refine ov S rfl (ZD S rfl rfl ZHe) fun f S=>mw S rfl fun f S=>ZP (Zp (bd _ _ ?_));rcases Zqb (decide (be<(0:Int))) with V | V
 ·have H:=Zyb H V;refine Zrb S rfl V (sr (mv S rfl fun f S=>mw S rfl fun f S=>mw S rfl fun f S=>oe (wp_ret (ZQr (ZOh ?_)))));obtain rfl:=ZL H;have m:=ZEa aj m;refine ZNf S (Zuk rfl (Z3a S rfl) (Z3a S rfl)) ⟨[.slice none 0 0],[.slice R T U],rfl,(ZFi _),m⟩
 have H:=ZCb H V;refine ZOa S rfl V (sr (mv S rfl fun f S=>?_));have g:=ZEa aj g;refine ov S rfl (Z8b S (Zhb g) rfl rfl Zfa) fun f S=>ov S rfl (ZD S rfl rfl Z8g) fun f S=>mw S rfl fun f S=>oe ?_;rcases Zqb (((((Zc 18446744073709551616 b)).length:Int))==(1:Int)) with W | W
 ·have H:=Zyb H W;refine Zrb S rfl W (ZC fun _ bh=>bO H fun au av H=>bO H fun ax bi H=>ZW (mv S rfl fun f S=>mv S rfl fun f S=>?_));obtain ⟨_,c2,c3,c4,rfl,ay,bj⟩:=Zqc g (Zo av).2.1;obtain ⟨rfl,bk⟩:=bj;refine ov S rfl (Zsa S rfl rfl Zfa (Zo av).1 (ltI (Zhb g) (Zo av).2.2.1)) fun f S=>ov S rfl (Zkb S rfl ZAb (S.view ay)) fun f S=>?_;have m:=ZEa aj m;refine opc S rfl (Zwa S [.slice R T U,.int .u64 au] ZLt rfl rfl) (Z6r S.vin m (show Rep.rel (Zf .u64) _ [.int .u64 au] au from (Zca bk)) bi) ?_;rintro _ c5 f w bm ⟨c6,c7,rfl,ak,bn⟩ S;have ay:=Atm bm ay;obtain ⟨aT,aU,aV,rfl⟩:=ZKa ak;obtain ⟨rfl,bo⟩:=bn;refine mv S rfl fun f S=>ov S rfl (ZAa S rfl rfl) fun f S=>ov S rfl (ZAa S rfl rfl) fun f S=>mw S rfl fun f S=>mw S rfl fun f S=>ZP (Zp (bh _ _ (ZC fun _ bp=>bO H fun c8 bq H=>ZW (mv S rfl fun f S=>mv S rfl fun f S=>opc S rfl (Zwa S [.int .u64 (ax.2)] k_en128 rfl rfl) (word_c S.vin (show Rep.rel (Zf .u64) _ [.int .u64 (ax.2)] ax.2 from (Zca bo)) bq) ?_))));rintro _ c9 f w br ⟨da,rfl,aW⟩ S;obtain ⟨aX,aY,aZ,rfl⟩:=ZKa aW;refine mw S rfl fun f S=>mw S rfl fun f S=>ZP ?_;have S:=S.fr' (σ':=[(4,.slice aT aU aV),(5,.slice aX aY aZ)]) rfl;refine Zp (bp _ _ (wp_ret (ZQr (ZOh ?_))))
  obtain rfl:=ZL H;have ak:=ZEa br ak;refine ZNf S (Zuk rfl (Z3a S rfl) (Z3a S rfl)) ⟨[.slice aT aU aV],[.slice aX aY aZ],rfl,ak,aW⟩
 have H:=ZCb H W;refine ZOa S rfl W (wp_skip (Zud (Zp (bc _ _ (ZC fun _ bs=>bO H fun db bt H=>bO H fun az aA H=>bO H fun k bu H=>ZW (mv S rfl fun f S=>mv S rfl fun f S=>ov S rfl (Z8b S (Zhb g) rfl rfl Zfa) fun f S=>ov S rfl (ZD S rfl rfl (ZNb bt)) fun f S=>?_))))));obtain ⟨_,bv,bw,dc,rfl,aB,bx⟩:=Zqc g (Zo aA).2.1;obtain ⟨rfl,bz⟩:=bx;refine ov S rfl (Zsa S rfl rfl Zfa (Zo aA).1 (ltI (Zhb g) (Zo aA).2.2.1)) fun f S=>ov S rfl (Zkb S rfl ZAb (S.view aB)) fun f S=>opc S rfl (Zwa S [.int .u64 az] k_en163 rfl rfl) (lz64_c S.vin (show Rep.rel (Zf .u64) _ [.int .u64 az] az from (Zca bz)) bu) ?_;rintro _ dd f w aC ⟨de,rfl,bA⟩ S;have aB:=Atm aC aB;obtain ⟨rfl,aD⟩:=bA;refine mw S rfl fun f S=>ZP (Zp (bs _ _ (ZC fun _ bB=>bO H fun bC bD H=>ZW (mv S rfl fun f S=>mv S rfl fun f S=>?_))));have g:=ZEa aC g;refine opc S rfl (Zwa S [.slice (some ⟨bv,bw,none⟩) n5 k6,.int .i64 k] ZKr rfl rfl) (Zzr S.vin g (show Rep.rel (Zf .i64) _ [.int .i64 k] k from (Zca aD)) bD) ?_;rintro _ bE f w bG ⟨df,rfl,v⟩ S;obtain ⟨aE,aF,aG,rfl⟩:=ZKa v;refine mw S rfl fun f S=>ZP (Zp (bB _ _ (ZC fun _ bH=>bO H fun X bI H=>bO H fun dg bJ H=>bO H fun dh bK H=>ZW ?_)))
 obtain ⟨di,w,bM,S⟩:=Zhh (P:=Tryz.prog) (t:=55) (e:=153) S (n:=0) (cs:=[]) (vals:=[]) (sz:=1) rfl (by decide) (fun _=>by kernel_rfl);have aH:Rep.rels (Zf .u64) bE [] []:=ZKd;refine ZAc wn rfl zl (bM rfl) S fun f S=>mv S rfl fun f S=>mv S rfl fun f S=>?_;have m:=ZEa (leT (leT aj aC) bG) m;refine opc S rfl (Zwa S [.slice R T U,.int .i64 k] ZKr rfl rfl) (Zzr S.vin m (show Rep.rel (Zf .i64) _ [.int .i64 k] k from (Zca aD)) bI) ?_;rintro _ al f w a0 ⟨dj,rfl,aI⟩ S;have aH:=ZO a0 aH;obtain ⟨dk,dl,dm,rfl⟩:=ZKa aI;have aJ:=S;obtain ⟨dn,dp,a1,w,bP,S,bQ⟩:=ZGf (ty:=55) (A:=(Zf .u64)) Zlj S (i:=0) (n':=(([]:(List Int))++((Zc 18446744073709551616 X))).length) rfl aI (appN rfl (Zhb aI)) (Zbe bJ) (by decide);have bR:=ZQb aH bQ;refine ZAc wn rfl zl (ZCe aJ rfl rfl bP) S fun f S=>?_;obtain ⟨dq,w,bS,S⟩:=Zhh S (n:=1) (cs:=[.int .u64 0]) (vals:=[(0,.int .u64 0)]) (sz:=1) rfl (by decide) (ZPq Zlj (x:=.int .u64 0) (cs:=[.int .u64 0]) rfl rfl (by decide));have aK:Rep.rels (Zf .u64) al [.int .u64 0] [(0:Int)]:=(Z4u (Zca (by decide)) ZKd);refine ZAc wn rfl zl (bS rfl) S fun f S=>?_;have aJ:=S;obtain ⟨aL,aM,w,bT,S⟩:=Z1k (ty:=55) Zlj S (i:=1) (n':=((([]:(List Int))++((Zc 18446744073709551616 X)))++[(0:Int)]).length) rfl (Zve aK rfl) (Zqh S (j:=0) rfl) (ZRg aK) (appN rfl rfl) (Zbe bK) (by decide)
 have bU:=ZQb bR aK;refine ZAc wn rfl zl (ZCe aJ rfl rfl bT) S fun f S=>mw S rfl fun f S=>ZP ?_;have S:=S.fr' (σ':=[(8,.int .i64 k),(9,.slice aE aF aG),(10,.slice (mkA aL) (((([]:(List Int))++((Zc 18446744073709551616 X)))++[(0:Int)]).length) aM)]) rfl;refine Zp (bH _ _ (sr (mv S rfl fun f S=>?_)));have v:=ZEa a0 v;refine ov S rfl (Z8b S (Zhb v) rfl rfl Zfa) fun f S=>mw S rfl fun f S=>oe (ZC fun _ bV=>bO H fun q bW H=>bO H fun dr am H=>ZW (mv S rfl fun f S=>ov S rfl (Z8b S rfl rfl rfl Zfa) fun f S=>mv S rfl fun f S=>ov S rfl (ZD S rfl rfl (ZNb bW)) fun f S=>?_));obtain ⟨aN,a2⟩:∃ c:List Value,c=(List.replicate (q).toNat [.int .u64 0]).flatten:=⟨_,rfl⟩;obtain ⟨a3,w,bX,S⟩:=ZFs Zlj S (l:=q) (c:=q) (Zsd am).1 (Zsd am).2.1 (Zsd am).2.2.1 (Zsd am).2.2.2 a2;have bY:Rep.rels (Zf .u64) al aN (List.replicate (q).toNat (0:Int)):=by rw [a2];exact ZHg (show Rep.rel (Zf .u64) _ [.int .u64 0] _ from (Zca (by decide))) _
 refine ZAc wn rfl zl (bX rfl rfl) S fun f S=>mw S rfl fun f S=>ZP (Zp (bV _ _ (ZC fun _ bZ=>ZC fun _ b0=>bO H fun ds a4 H=>ZW (mv S rfl fun f S=>ov S rfl (Z8b S (repN (x:=(0:Int))) rfl rfl Zfa) fun f S=>ov S rfl (ZD S rfl rfl (ZNb a4)) fun f S=>mw S rfl fun f S=>ZP (Zp (b0 _ _ ?_))))));obtain ⟨b1,b2,b3⟩:=Zma H;refine Zgd (fun f w=>∃ G I J B L an Y M Z aO aa,(G,I)=b1∧Zb.le al aa∧St 84 w0 F [(8,.int .i64 k),(10,.slice (mkA J) B L),(12,.slice (mkA Y) M Z)] [Loc.own J 153 1 B L an,Loc.own Y 153 1 M Z aO] aa f w∧Rep.rels (Zf .u64) aa an G∧B=G.length∧Rep.rels (Zf .u64) aa aO I∧M=I.length) (fun _ b4=>?_) ?_
 ·have H:=b2;refine wp_block ?_;obtain ⟨dt,b5,b6⟩:=Zma H;have S:=S.reorder (ℓ':=[Loc.own aL 153 1 (((([]:(List Int))++((Zc 18446744073709551616 X)))++[(0:Int)]).length) aM ((([]++a1)++[.int .u64 0])),Loc.own (some a3) 153 1 ((q).toNat) (q).toNat aN]) [2,0] rfl (by decide);refine Zqe b5 (fun b7 f w=>∃ ao N d ap C D s aq E ab o ac,(ao,N,d)=b7∧Zb.le al ac∧St 84 w0 F [(8,.int .i64 k),(9,.slice aE aF aG),(10,.slice (mkA ap) C D),(11,.int .i64 ((((Zc 18446744073709551616 bC)).length:Int))),(12,.slice (mkA aq) E ab),(13,.int .i64 d)] [Loc.own ap 153 1 C D s,Loc.own aq 153 1 E ab o] ac f w∧Rep.rels (Zf .u64) ac s ao∧C=ao.length∧Rep.rels (Zf .u64) ac o N∧E=N.length∧inR .i64 d) ⟨_,_,_,aL,((([]:(List Int))++((Zc 18446744073709551616 X)))++[(0:Int)]).length,aM,(([]++a1)++[.int .u64 0]),some a3,(q).toNat,(q).toNat,aN,_,rfl,(leR _),(S.fr' rfl),bU,rfl,bY,(repN (x:=(0:Int))),(ZIb a4).2⟩ ?_;rintro _ f w st ⟨ao,N,d,ap,C,D,s,aq,E,ab,o,ac,hq,aP,S,ad,ae,af,ag,du⟩ H dw b8 b9
  subst hq;refine ZC fun _ ca=>sr (mv S rfl fun f S=>ov S rfl (ZD S rfl rfl Zom) fun f S=>oe ?_);rcases Zqb (decide ((0:Int)≤d)) with ah | ah
  ·have H:=Zyb H ah;refine Zrb S rfl ah (wp_skip (Zp (ca _ _ (ZC fun _ cb=>wp_block (bO H fun dx cc H=>bO H fun O ce H=>bO H fun dy h H=>bO H fun u cg H=>bO H fun dz Q H=>ZW (mv S rfl fun f S=>mv S rfl fun f S=>mv S rfl fun f S=>?_))))));refine mv S rfl fun f S=>mv S rfl fun f S=>mv S rfl fun f S=>ov S rfl (ZD S rfl rfl (Z2f cc)) fun f S=>ov S rfl (ZD S rfl rfl (Z2f ce)) fun f S=>?_;obtain ⟨aQ,rfl⟩:=Znd S (j:=0) rfl (by have:=Zjc h;have:=ae;omega);refine ov S rfl (Zex S (j:=0) rfl Zfa (Zjc h).1 (Zjc h).2.1 (by have:=(Zjc h).2.2.1;have:=ae;omega) rfl rfl rfl) fun f S=>mv S rfl fun f S=>?_;obtain ⟨pre399,post400,ch,ci,cj,ck,cl,cm⟩:=Zly S (i:=0) (lo:=(d).toNat) (hi:=(O).toNat) rfl (Zjc h).2.2.2.2.2.1 (by have:=(Zjc h).2.2.2.2.2.2;have:=ae;omega);have v:=ZEa aP v;refine ZRq S wn rfl zl (Zwa S [.slice (some ⟨aQ,(d).toNat*1,none⟩) ((O-d).toNat) (D-(d).toNat),.slice aE aF aG] k_en165 rfl rfl) (i:=0) rfl rfl (digit_c S.vin ch cj ci (Zjc h).2.2.2.2.1 ⟨ZKv (Zjc h).1 (Zjc h).2.1 ck,cl⟩ (Zhz ad rfl (Zjc h).2.2.2.1) v cg) ?_;rintro _ a5 f w aR ⟨⟨dA,rfl,cn⟩,co,aS,cp,cq,a6⟩ hSf;have ad:=ZO aR ad
   have af:=ZO aR af;have a7:((O).toNat-(d).toNat)=u.2.length:=by have:=cq;have:=Zjc h;omega
   have S:=hSf (Loc.own (some aQ) 153 1 C D (List.take ((d).toNat*1) s++aS++List.drop ((O).toNat*1) s)) rfl (cm _ aS (Zve a6 a7) cp) co;have cr:=Zwy (p:=(d).toNat) (r:=(O).toNat) (sz:=1) ad a6 rfl;have ct:=ZJA ae (Zjc h).2.2.2.2.2.1 (Zjc h).2.2.2.2.2.2 a7;obtain ⟨rfl,cu⟩:=cn;obtain ⟨cv,rfl⟩:=Znd S (j:=1) rfl (posN ag (Zo Q).2.2.2);have a8:=ZNa af (Zo Q).2.1;obtain ⟨dB,cw⟩:∃ c,(List.take (Zf .u64).n (List.drop ((d).toNat*(Zf .u64).n) o))=c:=⟨_,rfl⟩;rw [cw] at a8;obtain ⟨rfl,dC⟩:=a8;refine ov S rfl (Zsa S rfl rfl Zfa (Zo Q).1 (ltI ag (Zo Q).2.2.1)) fun f S=>?_;obtain ⟨w,cx,S⟩:=ZBd S ZAb (off:=0+(d).toNat*1) (z:=.int .u64 (u.1)) (cs:=[.int .u64 (u.1)]) (Z4c rfl) rfl (i:=1) rfl (Zdi S (j:=1) rfl (ltN ag (Zo Q).2.2.2)) (by first | rfl | simp [plain]);have cy:Rep.rels (Zf .u64) a5 (List.take (0+(d).toNat*1) o++[Value.int IntKind.u64 (u.1)]++List.drop (0+(d).toNat*1+1) o) (N.set (d).toNat u.1):=ZJh af (Zo Q).2.2.2 (show Rep.rel (Zf .u64) a5 [.int .u64 (u.1)] _ from (Zca cu)) rfl rfl;have cz:E=(N.set (d).toNat u.1).length:=setN ag;refine Zhk wn rfl (cx rfl rfl) (ZP (Zud (Zp (cb _ _ (bO H fun dD a9 H=>ZW (mv S rfl fun f S=>ov S rfl (ZD S rfl rfl (ZNb a9)) fun f S=>mw S rfl fun f S=>ZP ?_))))))
   obtain rfl:=ZL H;refine b8 _ rfl _ _ ⟨_,_,_,some aQ,C,D,(List.take ((d).toNat*1) s++aS++List.drop ((O).toNat*1) s),some cv,E,ab,(List.take (0+(d).toNat*1) o++[Value.int IntKind.u64 (u.1)]++List.drop (0+(d).toNat*1+1) o),_,rfl,(leT aP aR),(S.fr' rfl),cr,ct,cy,cz,(ZIb a9).2⟩
  have H:=ZCb H ah;refine ZOa S rfl ah (wp_exit (Z7a ?_));obtain rfl:=ZL H;have hq:=b9 _ rfl;subst hq;have H:=b6;refine Z7a (Zzd ?_);obtain rfl:=ZL H;refine Zp (b4 _ _ ⟨_,_,ap,C,D,s,aq,E,ab,o,_,rfl,(leT (leR _) aP),(S.fr' rfl),ad,ae,af,ag⟩)
 rintro f w ⟨G,I,J,B,L,an,Y,M,Z,aO,aa,hq,dE,S,ai,cA,cB,cC⟩;subst hq;have H:=b3;refine Zp (bZ _ _ (ZC fun _ cD=>bO H fun dF cE H=>bO H fun dG cF H=>bO H fun dH cG H=>ZW (mv S rfl fun f S=>?_)));obtain ⟨dI,cH,S,cI⟩:=S.pubSlice (i:=1) (A:=(Zf .u64)) (l:=I) (ℓ':=[Loc.own J 153 1 B L an]) rfl rfl cC cB rfl;have ai:=ZO cH ai;refine opc S rfl (Zwa S [.slice (mkA Y) M Z] ZSk rfl rfl) (ZQl S.vin (show Rep.rel (Zv (Zf .u64)) _ [.slice (mkA Y) M Z] I from cI) cE) ?_;rintro _ dJ f w cJ ⟨dK,rfl,ar⟩ S;have ai:=ZO cJ ai;obtain ⟨cK,cL,cM,rfl⟩:=ZKa ar;refine mv S rfl fun f S=>?_;obtain ⟨dL,cN,S,cO⟩:=S.pubSlice (i:=0) (A:=(Zf .u64)) (l:=G) (ℓ':=[]) rfl rfl cA ai rfl;refine opc S rfl (Zwa S [.slice (mkA J) B L] ZSk rfl rfl) (ZQl S.vin (show Rep.rel (Zv (Zf .u64)) _ [.slice (mkA J) B L] G from cO) cF) ?_;rintro _ dM f w cP ⟨dN,rfl,ba⟩ S;obtain ⟨cQ,cR,cS,rfl⟩:=ZKa ba;refine mv S rfl fun f S=>opc S rfl (Zwa S [.slice cQ cR cS,.int .i64 k] k_en166 rfl rfl) (right_c S.vin ba (show Rep.rel (Zf .i64) _ [.int .i64 k] k from (Zca aD)) cG) ?_;rintro _ dO f w cT ⟨dP,rfl,bb⟩ S;obtain ⟨cU,cV,cW,rfl⟩:=ZKa bb
 refine mw S rfl fun f S=>mw S rfl fun f S=>ZP (Zp (cD _ _ (wp_ret ?_)));obtain rfl:=ZL H;have ar:=ZEa (leT (leT cN cP) cT) ar;refine ZNf S (Zuk rfl (Z3a S rfl) (Z3a S rfl)) ⟨[.slice cK cL cM],[.slice cU cV cW],rfl,ar,bb⟩
theorem ZWx {d:World} {c:Zb} (hv:VIn c d) {e:List Value} {a:Nat} (i:Rep.rel Zw c e a) {f:List Value} {b:Nat} (j:Rep.rel Zw c f b) {z:Nat×Nat} (hm:Z2d a b=some z) :
  Ret Tryz.prog 131 #[Zw.val e,Zw.val f] d c (fun y v'=>∃ g h,y=Value.tuple #[Zw.val g,Zw.val h]∧Zw.rel v' g z.1∧Zw.rel v' h z.2) :=
 Z0z hv i j (ZIw hm)
end Go.Eng
set_option maxRecDepth 100000
set_option maxHeartbeats 4000000
namespace Go.Eng
open Go.Proofs Go.RowKit
noncomputable def ZNj:FuncId×Con:=(131,⟨[.leaf 0,.leaf 0],[.leaf 0,.leaf 0],fun p=>Z2d p.1 p.2⟩)
theorem Zas:ZUd Tryz.prog ZNj.1 ZNj.2:=fun w v vals x z hv ha hz=>by
 obtain ⟨c0,w0,e0,p0,c1,e1,p1⟩:=ha;subst e0;subst e1
 exact .inl ⟨fun _ _=>by kernel_rfl,Ret.mono (ZWx hv p0 p1 hz) fun y v' _ ⟨r0,r1,e,h0,h1⟩=>⟨_,e,r0,_,rfl,h0,r1,rfl,h1⟩⟩
end Go.Eng
set_option maxRecDepth 100000
set_option maxHeartbeats 4000000
namespace Go.Eng
open Go.Proofs Go.RowKit
noncomputable def Z0q:FuncId×Con:=(161,⟨[.leaf 0,.leaf 0],[.int .u64],fun p=>Zeh p.1 p.2⟩)
theorem small_k:KQ Z0q:=Zh (Zz (C:=cf2 [(55,0)] []) (.n (.n (.two (.n (.j [1] [] [.s 5 (.dat (.int .u64))] .no)) (.n (.f (.j [] [] [.s 5 (.dat (.int .u64))] (.f (.l [] [] [.s 5 (.dat (.int .u64)),.s 6 (.dat (.int .u64))] 0 [] [] [.s 5 (.dat (.int .u64))] .no)))))))) Tryz.func161 [] (fun v vals x z ha hz=>.trans (by kernel_rfl) (Zbw hz)))
end Go.Eng
set_option maxRecDepth 100000
set_option maxHeartbeats 4000000
namespace Go.Eng
open Go.Proofs Go.RowKit
noncomputable def gcd_q:FuncId×Con:=(129,⟨[.leaf 0,.leaf 0],[.leaf 0],fun p=>gcdF p.1 p.2⟩)
theorem gcd_k:KQ gcd_q:=Zh (Zz (C:=cf2 [(55,0)] [Z9i,ZNj,Z0q]) (.n (.f (.cut ⟨⟨[],[],[]⟩,[(.norm,⟨[],[],[.s 0 (.dat (.leaf 0))]⟩),(.ret,⟨[],[],[.s 1000 (.dat (.leaf 0))]⟩)]⟩ (.f (.cut ⟨⟨[],[],[.s 0 (.dat (.leaf 0)),.s 1 (.dat (.leaf 0))]⟩,[(.ret,⟨[],[],[.s 1000 (.dat (.leaf 0))]⟩),(.exit 0,⟨[],[],[.s 0 (.dat (.leaf 0))]⟩)]⟩ (.f (.n (.f (.f (.f (.j [0,1] [] [.s 17 (.dat .bool)] .no))))))))))) Tryz.func129 [] (fun v vals x z ha hz=>.trans (by kernel_rfl) (gcdF_eq hz)) ⟨ZDn,Zas,small_k,tr⟩)
end Go.Eng
set_option maxRecDepth 100000
set_option maxHeartbeats 4000000
namespace Go.Eng
open Go.Proofs Go.RowKit
noncomputable def Z5o:FuncId×Con:=(130,⟨[.leaf 0],[.bool],fun p=>Zwg p⟩)
theorem Zar:KQ Z5o:=Zh (Zok (C:=cf2 [] []) (.n (.f (.j [] [] [.s 2 (.dat .bool)] .no))) Tryz.func130 [] [.slice (.int .u64)] [.bool] (fun x=>((Zc 18446744073709551616 x))) (fun z=>z) (fun v vals x z ha hz=>.trans (by kernel_rfl) (ZYw.trans hz)))
end Go.Eng
set_option maxRecDepth 100000
set_option maxHeartbeats 4000000
namespace Go.Eng
open Go.Proofs Go.RowKit
noncomputable def ZUi:FuncId×Con:=(95,⟨[.leaf 2,.leaf 0],[.leaf 3],fun p=>Z7c p.1 p.2⟩)
theorem ZBj:KQ ZUi:=Zh (Zz (C:=cf0 [gcd_q,Z5o,ZNj] [] [] []) (.n (.two (.n (.n (.j [2,4] [] [.s 1 (.dat (.leaf 0)),.l (.sl 2) (.box 57 (.dat (.pair .bool (.leaf 0))))] .no))) (.f (.n (.j [2,4] [] [.s 1 (.dat (.leaf 0))] .no))))) Tryz.func95 [] (fun v vals x z ha hz=>.trans (by kernel_rfl) (ZEz hz)) ⟨gcd_k,Zar,Zas,tr⟩)
end Go.Eng
set_option maxRecDepth 100000
set_option maxHeartbeats 4000000
namespace Go.Eng
open Go.Proofs Go.RowKit
noncomputable def ZLf:FuncId×Con:=(96,⟨[.bool,.leaf 0],[.leaf 2],fun p=>Zmb p.1 p.2⟩)
theorem Zch:KQ ZLf:=Zh (Zz (C:=cf0 [] [] [] []) (.n (.f (.j [4] [] [.l (.sl 4) (.box 57 (.dat (.pair .bool (.leaf 0))))] .no))) Tryz.func96 [] (fun v vals x z ha hz=>.trans (by kernel_rfl) (ZPw hz)))
end Go.Eng
set_option maxRecDepth 100000
set_option maxHeartbeats 4000000
namespace Go.Eng
open Go.Proofs Go.RowKit
noncomputable def Zvr:FuncId×Con:=(55,⟨[.int .i64,.int .i64],[.leaf 3,.int .i64],fun p=>Zgj p.1 p.2⟩)
theorem qnew_k:KQ Zvr:=Zh (Zz (C:=cf0 [of_q,ZUi,ZLf] [] [] []) .no Tryz.func55 [] (fun v vals x z ha hz=>by obtain ⟨c0,w0,e0,p0,c1,e1,p1⟩:=ha;exact .trans (by kernel_rfl) (ZDy p0.2 p1.2 hz)) ⟨of_k,ZBj,Zch,tr⟩)
end Go.Eng
set_option maxRecDepth 100000
set_option maxHeartbeats 4000000
namespace Go.Eng
open Go.Proofs Go.RowKit
noncomputable def ZJu:FuncId×Con:=(15,⟨[.pair (.int .i64) (.int .i64)],[.leaf 3],fun p=>ZCi p⟩)
theorem Zzx:KQ ZJu:=Zh (Zz (C:=cf0 [ZWl,Zvr] [] [] []) .no Tryz.func15 [] (fun v vals x z ha hz=>.trans (by kernel_rfl) (ZXy hz)) ⟨Zsq,qnew_k,tr⟩)
end Go.Eng
set_option maxRecDepth 100000
set_option maxHeartbeats 4000000
namespace Go.Eng
open Go.Proofs Go.RowKit
noncomputable def Zrh:FuncId×Con:=(11,⟨[.leaf 4],[.pair (.leaf 4) (.pair (.leaf 4) (.pair (.leaf 4) (.leaf 4)))],fun p=>ZHd p⟩)
theorem Zhj:KQ Zrh:=Zh (Zu (C:=cf0 [ZTe] [] [] []) .no Tryz.func11 [] (fun _=>by kernel_rfl) ⟨Zig,tr⟩)
end Go.Eng
set_option maxRecDepth 100000
set_option maxHeartbeats 4000000
namespace Go.Eng
open Go.Proofs Go.RowKit
noncomputable def Zjm:FuncId×Con:=(43,⟨[.leaf 4],[.pair (.pair (.leaf 4) (.pair (.leaf 4) (.pair (.leaf 4) (.leaf 4)))) (.pair (.leaf 4) (.pair (.leaf 4) (.pair (.leaf 4) (.leaf 4))))],fun p=>Zoi p⟩)
theorem Z9q:KQ Zjm:=Zh (Zu (C:=cf0 [Zrh,ZTe] [] [] []) .no Tryz.func43 [] (fun _=>by kernel_rfl) ⟨Zhj,Zig,tr⟩)
end Go.Eng
set_option maxRecDepth 100000
set_option maxHeartbeats 4000000
namespace Go.Eng
open Go.Proofs Go.RowKit
noncomputable def ZHl:FuncId×Con:=(10,⟨[.slice (.pair (.int .i64) (.int .i64))],[.slice (.leaf 3),.slice (.pair (.pair (.leaf 4) (.pair (.leaf 4) (.pair (.leaf 4) (.leaf 4)))) (.pair (.leaf 4) (.pair (.leaf 4) (.pair (.leaf 4) (.leaf 4)))))],fun p=>Zjf p⟩)
theorem ZTn:KQ ZHl:=Zh (Zu (C:=cf0 [rof_q,ZJu,Zjm] [] [] []) (.n (.n (.n (.f (.n (.f (.l [8,9] [] [.s 4 (.own 59 (.leaf 3)),.s 5 (.own 108 (.pair (.pair (.leaf 4) (.pair (.leaf 4) (.pair (.leaf 4) (.leaf 4)))) (.pair (.leaf 4) (.pair (.leaf 4) (.pair (.leaf 4) (.leaf 4)))))),.s 10 (.dat (.int .i64))] 0 [] [] [.s 4 (.own 59 (.leaf 3)),.s 5 (.own 108 (.pair (.pair (.leaf 4) (.pair (.leaf 4) (.pair (.leaf 4) (.leaf 4)))) (.pair (.leaf 4) (.pair (.leaf 4) (.pair (.leaf 4) (.leaf 4))))))] .no))))))) Tryz.func10 [] (fun _=>by kernel_rfl) ⟨rof_k,Zzx,Z9q,tr⟩)
end Go.Eng
set_option maxRecDepth 100000
set_option maxHeartbeats 4000000
namespace Go.Eng
open Go.Proofs Go.RowKit
noncomputable def ZRk:FuncId×Con:=(13,⟨[.slice (.pair (.int .i64) (.int .i64))],[.slice (.pair (.leaf 4) (.pair (.leaf 4) (.pair (.leaf 4) (.leaf 4))))],fun p=>Zvd p⟩)
theorem Z2o:KQ ZRk:=Zh (Zu (C:=cf0 [Zrh,rof_q] [] [] []) (.n (.n (.f (.n (.f (.l [6,7] [] [.s 3 (.own 47 (.pair (.leaf 4) (.pair (.leaf 4) (.pair (.leaf 4) (.leaf 4))))),.s 8 (.dat (.int .i64))] 0 [] [] [.s 3 (.own 47 (.pair (.leaf 4) (.pair (.leaf 4) (.pair (.leaf 4) (.leaf 4)))))] .no)))))) Tryz.func13 [] (fun _=>by kernel_rfl) ⟨Zhj,rof_k,tr⟩)
end Go.Eng
set_option maxRecDepth 100000
set_option maxHeartbeats 4000000
namespace Go.Eng
open Go.Proofs Go.RowKit
noncomputable def Zfl:FuncId×Con:=(26,⟨[.slice (.slice (.pair (.int .i64) (.int .i64)))],[.slice (.slice (.leaf 3)),.slice (.slice (.pair (.pair (.leaf 4) (.pair (.leaf 4) (.pair (.leaf 4) (.leaf 4)))) (.pair (.leaf 4) (.pair (.leaf 4) (.pair (.leaf 4) (.leaf 4))))))],fun p=>Znf p⟩)
theorem ZQo:KQ Zfl:=Zh (Zu (C:=cf0 [ZHl] [] [] []) (.n (.n (.f (.n (.f (.l [0,4,5,14] [] [.s 15 (.dat (.int .i64)),.l (.sl 4) (.own 31 (.slice (.leaf 3))),.l (.sl 5) (.own 40 (.slice (.pair (.pair (.leaf 4) (.pair (.leaf 4) (.pair (.leaf 4) (.leaf 4)))) (.pair (.leaf 4) (.pair (.leaf 4) (.pair (.leaf 4) (.leaf 4)))))))] 0 [4,5] [] [.l (.sl 4) (.own 31 (.slice (.leaf 3))),.l (.sl 5) (.own 40 (.slice (.pair (.pair (.leaf 4) (.pair (.leaf 4) (.pair (.leaf 4) (.leaf 4)))) (.pair (.leaf 4) (.pair (.leaf 4) (.pair (.leaf 4) (.leaf 4)))))))] .no)))))) Tryz.func26 [] (fun _=>by kernel_rfl) ⟨ZTn,tr⟩)
end Go.Eng
set_option maxRecDepth 100000
set_option maxHeartbeats 4000000
namespace Go.Eng
open Go.Proofs Go.RowKit
noncomputable def Zkm:FuncId×Con:=(27,⟨[.slice (.slice (.pair (.int .i64) (.int .i64)))],[.slice (.slice (.pair (.leaf 4) (.pair (.leaf 4) (.pair (.leaf 4) (.leaf 4)))))],fun p=>Zah p⟩)
theorem Z4q:KQ Zkm:=Zh (Zu (C:=cf0 [ZRk] [] [] []) (.n (.n (.f (.n (.f (.l [0,3,9] [] [.s 10 (.dat (.int .i64)),.l (.sl 3) (.own 35 (.slice (.pair (.leaf 4) (.pair (.leaf 4) (.pair (.leaf 4) (.leaf 4))))))] 0 [3] [] [.l (.sl 3) (.own 35 (.slice (.pair (.leaf 4) (.pair (.leaf 4) (.pair (.leaf 4) (.leaf 4))))))] .no)))))) Tryz.func27 [] (fun _=>by kernel_rfl) ⟨Z2o,tr⟩)
end Go.Eng
set_option maxRecDepth 100000
set_option maxHeartbeats 4000000
namespace Go.Eng
open Go.Proofs Go.RowKit
noncomputable def ZEp:FuncId×Con:=(9,⟨[.slice (.slice (.pair (.int .i64) (.int .i64))),.slice (.pair (.int .i64) (.int .i64)),.slice (.pair (.int .i64) (.int .i64))],[.pair (.slice (.slice (.leaf 3))) (.pair (.slice (.leaf 3)) (.slice (.leaf 3))),.pair (.slice (.slice (.pair (.leaf 4) (.pair (.leaf 4) (.pair (.leaf 4) (.leaf 4)))))) (.pair (.slice (.pair (.leaf 4) (.pair (.leaf 4) (.pair (.leaf 4) (.leaf 4))))) (.slice (.pair (.leaf 4) (.pair (.leaf 4) (.pair (.leaf 4) (.leaf 4))))))],fun p=>Zvv p.1 p.2.1 p.2.2⟩)
theorem ZlA:KQ ZEp:=Zh (Zu (C:=cf0 [ZHl,ZRk,Zfl,Zkm] [] [] []) .no Tryz.func9 [] (fun _=>by kernel_rfl) ⟨ZTn,Z2o,ZQo,Z4q,tr⟩)
end Go.Eng
