/- Lemmas towards the statement: the engine of the walks, the functions' models, laws and walks, part 5. Conditions: as each states. -/
import Derived.Test.YtpccbnppcepepaaGreatProg
import Derived.Test.YtpccbnppcepepaaGreatWfD
set_option linter.all false
set_option maxRecDepth 100000
namespace Go.Eng
open Go.RowKit
section
variable {N:Nat} {G:V→Value→Prop} {w0:Base} {v0:Zb}
def ZRd (N:Nat) (G:V→Value→Prop) (w0:Base) (v0:Zb) (n:Nat) (f:Fr) (l:Lo) (p:Fr→Lo→Nat→Prop) (S:Act→World→Prop):Prop :=
 ∀ f' l' n' a' w',p f' l' n'→n≤n'→Old n f l f' l'→Rel N G w0 v0 (· < n') f' l' a' w'→S a' w'
theorem ZRd.step {n n1:Nat} {f f1:Fr} {l l1:Lo} {p:Fr→Lo→Nat→Prop} {S:Act→World→Prop} (h:ZRd N G w0 v0 n f l p S) (hn:n≤n1) (ho:Old n f l f1 l1):ZRd N G w0 v0 n1 f1 l1 p S :=
 fun f' l' n' a' w' hp hn' ho' hr=>h f' l' n' a' w' hp (by omega) (ho.trans ho' hn) hr
theorem draw_ok {C:Cf} (hC:CfOK C) {α:Type} {r:α} {id:Nat} {ops:Array Oper} {f:Fr} {l:Lo} {n:Nat} {K:Fr→Lo→Nat→Option α} {Q:Exit→Act→World→Prop} {a:Act} {w:World} (hm:C.P.follows .mixedOrders=true) (hb:ZKd 0 ops.toList=true) (hds:∀ o ∈ ops.toList,∀ k,o.dst=some k→k<N)
  (h:(ZZe C ops.toList ops.toList f l n fun f l n ps=>match Ztd [] (ZOa ops.toList []) ps with
   | true=>K f l n
   | false=>none)=some r) (hr:Rel N G w0 v0 (· < n) f l a w) (hQ:ZRd N G w0 v0 n f l (fun f l n=>K f l n=some r) (Q .normal)):(Code.region id ops true).wp C.P Q a w:=by
 obtain ⟨Ts,h1,h2,h3,h4⟩:=Z1j h;split at h4
 ·rename_i hch;have hn:(l.map En.k).Nodup:=by obtain ⟨_,_,_,hr⟩:=hr;exact hr.nd
  refine wp_region_any hm ?_;have hz:∀ j,(Array.replicate ops.size false).getD j false=false:=fun j=>getD_replicate_false _ _;have hl:left (Array.replicate ops.size false)=ops.size:=by simp [left]
  refine Ztr hC (Ts:=Ts) hb hds h1 hn h2 h3 hch (fun a' w' hr'=>hQ _ _ _ a' w' h4 (by omega) (Zpk (Nat.le_refl n) h1 h2 hn h3) hr') ops.size _ a w.drew hl ⟨by simp,fun j o _ hj=>?_,f,l,?_,fun t=>?_,fun t=>?_⟩
  ·rw [hz] at hj;cases hj
  ·obtain ⟨γ,v,ℓ,hr⟩:=hr.draw;exact ⟨γ,v,ℓ,hr.mono (fun _ h=>.inl h) fun _ h=>.inl h⟩
  ·exact (Z9d fun j _ _ hs=>by rw [show sel _ _=false from hz _] at hs;cases hs).symm
  ·exact (Z9d fun j _ _ hs=>by rw [show sel _ _=false from hz _] at hs;cases hs).symm
 ·cases h4
def ZFf (C:Cf) (cf:CallF):Prop:=∀ {α:Type} {g:FuncId} {ags:V} {l:Lo} {n:Nat} {K:V→Lo→Nat→Option α} {r:α},cf α g ags l n K=some r→∀ {N:Nat} {G:V→Value→Prop} {w0:Base} {v0:Zb} {a:Act} {w:World} {γ:Nat→Gh} {v:Zb} {ℓ:List Loc} {vals:List Value},
 RelX N G w0 v0 (· < n) (· < n) [] l a w γ v ℓ→RR v γ l true ags vals→ags.ok (· < n)→Zca C.P g∧Calls C.P g vals.toArray w fun e w'=>∃ y c l' n' γ' v' ℓ',e = .returned y∧K c l' n'=some r∧n≤n'∧(∀ f,Old n f l f l')∧RelX N G w0 v0 (· < n') (· < n') [] l' a w' γ' v' ℓ'∧RV v' γ' l' (ZBe c) y∧(ZBe c).ok (· < n')
theorem Zgn {U X:Nat→Prop} {f:Fr} {l:Lo} {a:Act} {w:World} {γ:Nat→Gh} {v:Zb} {ℓ:List Loc} (hr:RelX N G w0 v0 U X f l a w γ v ℓ):∀ {xs:List Operand} {c:V},ZFi f xs=some c→RR v γ l true c (xs.map a.eval)∧c.ok U
 | [],c,h=>by cases h;exact ⟨rfl,trivial⟩
 | x :: xs,c,h=>by
  simp only [ZFi] at h
  split at h
  ·cases h
  ·rename_i V1 c1 hnt h1 h2
   cases h
   obtain ⟨q1,q2⟩:=ZBk hr h1
   obtain ⟨q3,q4⟩:=Zgn hr h2
   obtain ⟨cs,hcs,hqe⟩:=Znb q1 (fun c e=>hnt c (by rw [e]))
   exact ⟨⟨cs,_,by rw [List.map_cons,hqe],hcs,q3⟩,q2,q4⟩
  ·cases h
theorem Z4o {v:Zb} {γ:Nat→Gh} {l:Lo} {U:Nat→Prop}:∀ {c d:V} {xs ys:List Value},RR v γ l true c xs→RR v γ l true d ys→c.ok U→d.ok U→RR v γ l true (appV c d) (xs++ys)∧(appV c d).ok U
 | .nl,d,xs,ys,h,k,_,kd=>by rw [show xs=[] from h];exact ⟨k,kd⟩
 | .cons a b,d,xs,ys,⟨cs,zs,e1,e2,e3⟩,k,kc,kd=>by
  subst e1
  obtain ⟨q1,q2⟩:=Z4o (c:=b) e3 k kc.2 kd
  exact ⟨⟨cs,_,rfl,e2,q1⟩,kc.1,q2⟩
theorem inl1_ok {C:Cf} {cf:CallF} (hcf:ZFf C cf) {α:Type} {r:α} {o:Oper} {g:FuncId} {ags:V} {f0 f:Fr} {l:Lo} {n:Nat} {K:Fr→Lo→Nat→Option α} {a:Act} {w:World} {γ:Nat→Gh} {v:Zb} {ℓ:List Loc} (hi:Zbj C f0 o=some (g,ags)) (h:inl1 cf o g ags f l n K=some r)
  (hr0:RelX N G w0 v0 (· < n) (· < n) f0 l a w γ v ℓ) (hr:RelX N G w0 v0 (· < n) (· < n) f l a w γ v ℓ) (hd:∀ k,o.dst=some k→k<N):Z9a C.P o a w fun x w'=>∃ f' l' n',K f' l' n'=some r∧n≤n'∧Old n f l f' l'∧Rel N G w0 v0 (· < n') f' l' (a.put o.dst x) w':=by
 obtain ⟨d,op,ty,pos,aft,gd⟩:=o;unfold Zbj at hi;split at hi
 ·rename_i c hop;have hop:op = .call c:=hop;subst hop;obtain ⟨callee,args,ats⟩:=c;split at hi
  ·rename_i x hx;have hx:callee = .value x:=hx;subst hx;split at hi
   ·rename_i g' cap hg;split at hi
    ·split at hi
     ·rename_i ags' has
      cases hi
      unfold inl1 at h
      cases d with
      | none=>cases h
      | some d =>
       obtain ⟨q1,q2⟩:=ZBk hr0 hg;obtain ⟨cs,⟨vs,q3,rfl⟩,q4⟩:=q1;have q4:a.eval x = .func (.func g) #[] vs.toArray:=q4;obtain ⟨q5,q6⟩:=Zgn hr0 has;obtain ⟨q7,q8⟩:=Z4o q5 q3 q6 q2;have hlt:∀ k,k<n→k<n+1:=fun k h=>by omega
       let G':V→Value→Prop:=fun x y=>G x y ∨ ∃ t e,lkE f t=some e∧x=e.x∧y=a.tmps.getD t undef
       have hrG:RelX N G' w0 v0 (· < n+1) (· < n+1) [] l a w γ v ℓ:=by
        have hm:=hr.mono hlt hlt;refine ⟨hm.st,fun t e he=>(by cases he),hm.lr,hm.nd,fun t e he=>(by cases he),hm.ul,fun x y hg=>?_⟩;rcases hg with hg | ⟨t,e,h1,rfl,rfl⟩
        ·exact hm.gh x y hg
        ·exact ⟨hm.fr t e h1,(hm.uf t e h1).1⟩
       obtain ⟨hen,hcalls⟩:=hcf h hrG q7 (V.ok.mono hlt q8);obtain ⟨σ,hσ,hev⟩:=hr0.st.evs (x :: args.toList);have hfx:=hev x (by simp);rw [q4] at hfx;have hargs:args.toList.map (ev σ)=(args.toList.map a.eval).map some:=by
        rw [List.map_map];exact List.map_congr_left fun y hy=>hev y (by simp [hy])
       have hrun:=Zoq (d:=some d) (ty:=ty) (pos:=pos) (aft:=aft) (g:=gd) (ats:=ats) hσ _ _ hen hfx hargs;refine ZFd hrun (Calls.mono hcalls fun e w' ⟨y,c,l',n',γ',v',ℓ',e1,e2,e3,e4,e5,e6,e7⟩=>⟨y,e1,_,l',n',e2,by omega,((e4 f).mono (by omega)).trans (Old.put (Nat.le_refl n)) (Nat.le_refl n),γ',v',ℓ',?_⟩);have hr2:RelX N G w0 v0 (· < n') (· < n') f l' a w' γ' v' ℓ':=by
        refine ⟨e5.st,fun t e he=>(e5.gh _ _ (.inr ⟨t,e,he,rfl,rfl⟩)).1,e5.lr,e5.nd,fun t e he=>⟨(e5.gh _ _ (.inr ⟨t,e,he,rfl,rfl⟩)).2,?_⟩,e5.ul,fun x y hg=>e5.gh x y (.inl hg)⟩;have:=(hr.uf t e he).2;show e.st<n';have:e.st<n:=this;omega
       exact hr2.put (hd d rfl) e6 e7 (show n<n' by omega)
     ·cases hi
    ·cases hi
   ·cases hi
  ·cases hi
 ·cases hi
theorem inlG_ok {C:Cf} {cf:CallF} (hcf:ZFf C cf) {α:Type} {r:α} {ops:Array Oper} {o:Oper} {rest:List Oper} {g:FuncId} {ags:V} {f:Fr} {l:Lo} {n:Nat} {K:Fr→Lo→Nat→Option α} {Q:Exit→Act→World→Prop} {a:Act} {w:World} (hi:Zbj C f o=some (g,ags)) (h:inlG cf ops.toList o g ags f l n K=some r)
  (hr:Rel N G w0 v0 (· < n) f l a w) (hds:∀ o ∈ ops.toList,∀ k,o.dst=some k→k<N) (hd:∀ k,o.dst=some k→k<N) (hQ:ZRd N G w0 v0 n f l (fun f l n=>K f l n=some r) fun a w=>wpList C.P ops Q rest a w):wpList C.P ops Q (o :: rest) a w:=by
 obtain ⟨γ,v,ℓ,hr⟩:=hr;have yes:∀ {f1:Fr},Old n f l f1 l→RelX N G w0 v0 (· < n) (· < n) f1 l a w γ v ℓ→Region.wanted o (yielded ops a.tmps)=true→inl1 cf o g ags f1 l n K=some r→wpList C.P ops Q (o :: rest) a w:=fun ho hr1 hw h =>
  Zsc hw (ZGl (inl1_ok hcf hi h hr hr1 hd) fun x w' ⟨f',l',n',e1,e2,e3,e4⟩=>hQ f' l' n' _ w' e1 e2 (ho.trans e3 (Nat.le_refl n)) e4)
 have no:∀ {f1:Fr},Old n f l f1 l→RelX N G w0 v0 (· < n) (· < n) f1 l a w γ v ℓ→Region.wanted o (yielded ops a.tmps)=false→Zmj o f1 l n K=some r→wpList C.P ops Q (o :: rest) a w:=fun ho hr1 hw h=>by
  have h1:=ZKg (Nat.le_refl n) Old.refl hr1.nd (ZIh h);obtain ⟨f',l',⟨q1,q2⟩,q3⟩:=Zui (X:=(· < n+1)) (hr1.mono (fun _ h=>h) fun k h=>(show k<n+1 by have:k<n:=h;omega)) (fun k h=>(show k<n+1 by have:k<n:=h;omega)) (Nat.lt_succ_self n) hd h1;unfold wpList;rw [if_neg (by rw [hw];decide)];exact hQ f' l' _ _ w q1 (by omega) (ho.trans q2 (Nat.le_refl n)) q3
 unfold inlG at h;split at h
 ·rename_i hg;exact yes Old.refl hr (ZFb hg) h
 ·rename_i j want hg;split at h
  ·rename_i q hq;split at h
   ·rename_i t ht;have htN:t<N:=hds q (List.mem_of_getElem? hq) t ht;have hgd:(ops[j]?).bind (·.dst)=some t:=by rw [← Array.getElem?_toList,hq];exact ht
    obtain ⟨σ,hσ,hev⟩:=hr.st.evs [.tmp t];have hl:look σ t=some (a.tmps.getD t undef):=hev (.tmp t) (by simp);split at h
    ·rename_i ek s b he;have hk:ek=t:=(ZA he).2;subst hk;have h2:a.tmps.getD ek undef = .bool b:=ZXe (hr.fr ek _ he);rw [h2] at hl;have hdup:=RelX.dup hr he;have hold:=Old.dup (m:=n) (l:=l) he
     cases want <;> cases b
     ·exact yes hold hdup (Z5e hσ hg hgd hl htN) h
     ·exact no hold hdup (ZVg hσ hg hgd hl htN) h
     ·exact no hold hdup (ZVg hσ hg hgd hl htN) h
     ·exact yes hold hdup (Z5e hσ hg hgd hl htN) h
    ·rename_i ek s he;have hk:ek=t:=(ZA he).2;subst hk;obtain ⟨cs,h1,h2⟩:=hr.fr ek _ he;have h1:cs=[undef]:=h1;subst h1;have h2:a.tmps.getD ek undef=undef:=h2;rw [h2] at hl;exact no Old.refl hr (Zgd hσ hg hgd hl htN) h
    ·cases h
   ·cases h
  ·cases h
theorem ZJi {C:Cf} (hC:CfOK C) {cf:CallF} (hcf:ZFf C cf) {α:Type} {r:α} {ops:Array Oper} {Q:Exit→Act→World→Prop} (hds:∀ o ∈ ops.toList,∀ k,o.dst=some k→k<N) {K:Fr→Lo→Nat→Option α}:∀ {os:List Oper} {f:Fr} {l:Lo} {n:Nat} {a:Act} {w:World},iops C cf ops.toList os f l n K=some r→(∀ o ∈ os,o ∈ ops.toList) →
  Rel N G w0 v0 (· < n) f l a w→ZRd N G w0 v0 n f l (fun f l n=>K f l n=some r) (Q .normal)→wpList C.P ops Q os a w
 | [],f,l,n,a,w,h,_,hr,hQ=>hQ f l n a w h (Nat.le_refl n) Old.refl hr
 | o :: os,f,l,n,a,w,h,hos,hr,hQ=>by
  have hd:=hds o (hos o (by simp))
  simp only [iops] at h
  split at h
  ·obtain ⟨γ,v,ℓ,hr⟩:=hr
   have h1:=ZKg (Nat.le_refl n) Old.refl hr.nd (ZIh h)
   refine (ZYk hC (X:=(· < n+1)) (hr.mono (fun _ h=>h) fun k h=>(show k<n+1 by have:k<n:=h;omega)) (fun k h=>(show k<n+1 by have:k<n:=h;omega)) (Nat.lt_succ_self n) (Nat.lt_irrefl n) hds hd h1).list fun f' l' a' w' ⟨q1,q2⟩ q3=>?_
   exact ZJi hC hcf hds q1 (fun o ho=>hos o (by simp [ho])) q3 (hQ.step (by omega) q2)
  ·rename_i g ags hi
   refine inlG_ok hcf hi h hr hds hd fun f' l' n' a' w' q1 q2 q3 q4=>?_
   exact ZJi hC hcf hds q1 (fun o ho=>hos o (by simp [ho])) q4 (hQ.step q2 q3)
theorem ZSq {C:Cf} (hC:CfOK C) {cf:CallF} (hcf:ZFf C cf) {α:Type} {r:α} {id:Nat} {ops:Array Oper} {o:Oper} {f:Fr} {l:Lo} {n:Nat} {K:Fr→Lo→Nat→Option α} {Q:Exit→Act→World→Prop} {a:Act} {w:World} (ho:Z9h ops.toList=some o) (hm:C.P.follows .mixedOrders=true) (hb:ZKd 0 ops.toList=true) (hds:∀ o ∈ ops.toList,∀ k,o.dst=some k→k<N)
  (h:(ZZe C ops.toList ops.toList.dropLast f l n fun f l n ps=>match Ztd [] (ZOa ops.toList.dropLast []) ps with
   | true=>iops C cf ops.toList [o] f l n K
   | false=>none)=some r) (hr:Rel N G w0 v0 (· < n) f l a w) (hQ:ZRd N G w0 v0 n f l (fun f l n=>K f l n=some r) (Q .normal)):(Code.region id ops true).wp C.P Q a w:=by
 obtain ⟨Ts,h1,h2,h3,h4⟩:=Z1j h;obtain ⟨he,hg,hanc⟩:=ZQp ho;split at h4
 ·rename_i hch;have hn:(l.map En.k).Nodup:=by obtain ⟨_,_,_,hr⟩:=hr;exact hr.nd
  have hsz:ops.size=ops.toList.dropLast.length+1:=by
   have:=congrArg List.length he;simp at this ⊢;omega
  have hin:∀ o ∈ ops.toList.dropLast,o ∈ ops.toList:=fun o ho=>by rw [← he];exact List.mem_append_left _ ho
  have hol:o ∈ ops.toList:=by rw [← he];simp
  refine wp_region_any hm ?_;have hz:∀ j,(Array.replicate ops.size false).getD j false=false:=fun j=>getD_replicate_false _ _;have hl:left (Array.replicate ops.size false)=ops.toList.dropLast.length+1:=by rw [← hsz];simp [left]
  have key:=Znq (G:=G) (w0:=w0) (v0:=v0) (Q:=Q) hC (Ts:=Ts) he hg hanc hb hds h1 hn h2 h3 hch (fun a' w' hr'=>?_) ops.toList.dropLast.length (Array.replicate ops.size false) a w.drew hl ?_ ⟨by simp,fun j o _ hj=>?_,f,l,?_,fun t=>?_,fun t=>?_⟩
  ·rw [← hsz] at key;exact key
  ·have hold:=Zpk (Nat.le_refl n) h1 h2 hn h3;exact ZJi hC hcf hds h4 (fun o' ho'=>by rcases List.mem_singleton.1 ho' with rfl;exact hol) hr' (hQ.step (by omega) hold)
  ·rw [Zsb (by rw [Array.size_replicate];omega)];exact hz _
  ·rw [hz] at hj;cases hj
  ·obtain ⟨γ,v,ℓ,hr⟩:=hr.draw;exact ⟨γ,v,ℓ,hr.mono (fun _ h=>.inl h) fun _ h=>.inl h⟩
  ·exact (Z9d fun j _ _ hs=>by rw [show sel _ _=false from hz _] at hs;cases hs).symm
  ·exact (Z9d fun j _ _ hs=>by rw [show sel _ _=false from hz _] at hs;cases hs).symm
 ·cases h4
theorem ZSi {K:Nat}:∀ {os:List Oper},Zxf K os=true→∀ o ∈ os,∀ k,o.dst=some k→k<K
 | [],_,_,h,_,_=>by cases h
 | o :: os,h,o',ho',k,hk=>by
  simp only [Zxf] at h
  rcases List.mem_cons.1 ho' with rfl | ho'
  ·rw [hk] at h
   simp only at h
   split at h
   ·rename_i hb;exact Nat.le_of_ble_eq_true hb
   ·cases h
  ·have h':Zxf K os=true:=by
    split at h
    ·split at h
     ·exact h
     ·cases h
    ·exact h
   exact ZSi h' o' ho' k hk
end
end Go.Eng
namespace Go.Eng
open Go.RowKit
def CT.isAgg:CT→Bool
 | .dat t=>t.agg
 | .agg _=>true
 | _=>false
def CT.vl (c:CT) (cs:List Value):Value:=match c.isAgg with
 | true=>.agg cs.toArray
 | false=>cs.headD Go.undef
theorem ZMf {x:V} {c:CT} {cs:List Value} (h:x.isAgg=c.isAgg):x.val cs=c.vl cs:=by
 unfold V.val CT.vl;rw [h]
 cases c.isAgg <;> rfl
def CR (v:Zb):(c:CT)→Bool→c.den→List Value→List Loc→Prop
 | .dat t,false,x,cs,es=>t.rep.rel v cs x∧es=[]
 | .own ty t,false,(xs:List t.den),cs,es=>∃ ob cap d,cs=[.slice (mkA ob) xs.length cap]∧t.rep.rels v d xs∧es=[.own ob ty t.n xs.length cap d]
 | .mat ty ty2 t,false,(m:List (List t.den)),cs,es=>∃ ob cap rows es2,cs=[.slice (mkA ob) m.length cap]∧Zoa v ty2 t rows m es2∧es = .own ob ty 1 m.length cap (Zq rows m) :: es2
 | .nl,_,_,cs,es=>cs=[]∧es=[]
 | .one a,false,x,cs,es=>CR v a false x cs es
 | .one a,true,x,cs,es=>∃ c,cs=[a.vl c]∧CR v a false x c es
 | .cons a b,false,x,cs,es=>∃ c1 c2 e1 e2,cs=c1++c2∧es=e1++e2∧CR v a false x.1 c1 e1∧CR v b false x.2 c2 e2
 | .cons a b,true,x,cs,es=>∃ c1 xs e1 e2,cs=a.vl c1 :: xs∧es=e1++e2∧CR v a false x.1 c1 e1∧CR v b true x.2 xs e2
 | .agg c,false,x,cs,es=>CR v c false x cs es
 | .box ty c,false,x,cs,es=>∃ b c1 e1,cs=[.pointer (some ⟨b,0,none⟩)]∧CR v c false x c1 e1∧c1.all plain=true∧es = .box b ty c1 :: e1
 | _,_,_,_,_=>False
theorem Zzk {v v':Zb} (h:v.le v'):∀ {c:CT} {m:Bool} {x:c.den} {cs:List Value} {es:List Loc},CR v c m x cs es→CR v' c m x cs es:=by
 intro c
 induction c with
 | dat t=>intro m x cs es k;cases m <;> first | exact ⟨Rep.mono _ h k.1,k.2⟩ | exact k
 | own ty t =>
  intro m x cs es k;cases m
  ·obtain ⟨ob,cap,d,h1,h2,h3⟩:=k;exact ⟨ob,cap,d,h1,ZU h h2,h3⟩
  ·exact k
 | mat ty ty2 t =>
  intro m x cs es k;cases m
  ·obtain ⟨ob,cap,rows,es2,h1,h2,h3⟩:=k;exact ⟨ob,cap,rows,es2,h1,ZQd h h2,h3⟩
  ·exact k
 | nl=>intro m x cs es k;cases m <;> exact k
 | one a ih =>
  intro m x cs es k;cases m
  ·exact ih (m:=false) k
  ·obtain ⟨c,h1,h2⟩:=k;exact ⟨c,h1,ih h2⟩
 | cons a b ia ib =>
  intro m x cs es k;cases m
  ·obtain ⟨c1,c2,e1,e2,h1,h2,h3,h4⟩:=k;exact ⟨c1,c2,e1,e2,h1,h2,ia h3,ib h4⟩
  ·obtain ⟨c1,c2,e1,e2,h1,h2,h3,h4⟩:=k;exact ⟨c1,c2,e1,e2,h1,h2,ia h3,ib h4⟩
 | agg c ih=>intro m x cs es k;cases m <;> first | exact ih (m:=false) k | exact k
 | box ty c ih =>
  intro m x cs es k;cases m
  ·obtain ⟨b,c1,e1,h1,h2,h3,h4⟩:=k;exact ⟨b,c1,e1,h1,ih h2,h3,h4⟩
  ·exact k
theorem Zkd {α:Type} {ex es r:List α}:(ex++(es++r)).Perm (es++(ex++r)):=by
 rw [← List.append_assoc,← List.append_assoc];exact List.Perm.append_right _ List.perm_append_comm
section
variable {N:Nat} {G:V→Value→Prop} {w0:Base} {v0:Zb} {U X:Nat→Prop} {f:Fr} {a:Act} {w:World} {n:Nat}
theorem ZMs {ρ:Type} {g:Nat} {t:T} {x:V} {k:t.den→Ev ρ} {l:Lo} {Post:ρ→Fr→Lo→Prop} {v:Zb} {γ:Nat→Gh} {m:Bool} {cs:List Value} (h:Zm n (conv g t x k) f l Post) (hr:RR v γ l m x cs):m=false:=by
 cases m with
 | false=>rfl
 | true =>
  cases g with
  | zero=>exact h.elim
  | succ g=>cases x <;> first | exact hr.elim | (simp only [conv] at h;exact h.elim)
theorem ZLd {ρ:Type} (hn:¬ U n) (hX:X n):∀ (g:Nat) {c:CT} {x:V} {K:c.den→Ev ρ} {l:Lo} {Post:ρ→Fr→Lo→Prop} {γ:Nat→Gh} {v:Zb} {ℓ ex:List Loc} {m:Bool} {cs:List Value},
  Zm n (Z4 g c x K) f l Post→RelX N G w0 v0 U X f l a w γ v ℓ→St N w0 v0 [] (ex++ℓ) v a w→x.ok U→RR v γ l m x cs →
  ∃ z l' γ' v' ℓ' es,Zm n (K z) f l' Post∧RelX N G w0 v0 U X f l' a w γ' v' ℓ'∧St N w0 v0 [] (es++(ex++ℓ')) v' a w∧Le U v γ l v' γ' l'∧CR v' c m z cs es∧x.isAgg=c.isAgg
 | 0,_,_,_,_,_,_,_,_,_,_,_,h,_,_,_,_=>h.elim
 | g+1,c,x,K,l,Post,γ,v,ℓ,ex,m,cs,h,hr,hex,hk,hx=>by
  obtain ⟨E,hE,_⟩:=hr.lr
  have rfl':Le U v γ l v γ l:=Le.refl hE (Zb.le_refl _)
  cases c with
  | dat t =>
   simp only [Z4] at h
   have hm:=ZMs h hx
   subst hm
   have hag:=Zif FU h
   obtain ⟨y,l1,γ1,v1,ℓ1,k1,k2,k3,k4,k5⟩:=ZYa hn hX FU h hr hex hk
   exact ⟨y,l1,γ1,v1,ℓ1,[],k1,k2,k3,k4,⟨k5 _ hx,rfl⟩,hag⟩
  | own ty t =>
   cases x with
   | own u =>
    cases m with
    | true=>exact hx.elim
    | false =>
    simp only [Z4] at h
    obtain ⟨e,he,h⟩:=h
    obtain ⟨kk,st,L⟩:=e
    have hkk:kk=u:=(ZA he).2
    subst hkk
    obtain ⟨y,rfl,_,hy⟩:=hx
    have hy:=hy _ he
    obtain ⟨es,E',h1,_,_,h3,h4⟩:=hr.del he
    cases L with
    | own ty' t' xs fz =>
     cases fz with
     | true=>exact h.elim
     | false =>
      simp only at h
      split at h
      ·rename_i ys hty hcast
       have hty:=Nat.eq_of_beq_eq_true hty
       subst hty
       obtain ⟨c3,c4⟩:=Zga hcast
       cases c3;cases c4
       obtain ⟨ob,cap,d,g1,g2,rfl⟩:=h1
       have g1:γ kk = .own ob cap:=g1
       obtain ⟨ob',cap',g3,g4⟩:=hy
       rw [g1] at g3;cases g3
       exact ⟨_,_,_,_,_,_,h,h4,hex.perm ((List.Perm.append_left ex h3).trans Zkd),Le.era hr kk,⟨ob,cap,d,by rw [g4],g2,rfl⟩,rfl⟩
      ·exact h.elim
    | box _ _=>exact h.elim
    | mid _ _ _ _ _ _=>exact h.elim
    | mat _ _ _ _ _=>exact h.elim
   | nilS =>
    cases m with
    | true=>exact hx.elim
    | false =>
    simp only [Z4] at h
    have hx:cs=[.slice none 0 0]:=hx
    subst hx
    exact ⟨_,l,γ,v,ℓ,[.own none ty t.n 0 0 []],h,hr,hex.nilLoc ty t.n,rfl',⟨none,0,[],rfl,rfl,rfl⟩,rfl⟩
   | _=>simp only [Z4] at h;exact h.elim
  | mat ty ty2 t =>
   cases x with
   | own u =>
    cases m with
    | true=>exact hx.elim
    | false =>
    simp only [Z4] at h
    obtain ⟨e,he,h⟩:=h
    obtain ⟨kk,st,L⟩:=e
    have hkk:kk=u:=(ZA he).2
    subst hkk
    obtain ⟨y,rfl,_,hy⟩:=hx
    have hy:=hy _ he
    obtain ⟨es,E',h1,_,_,h3,h4⟩:=hr.del he
    cases L with
    | mat ty' ty2' t' mm hv =>
     simp only at h
     split at h
     ·rename_i m' hty hty2 hcast
      have hty:=Nat.eq_of_beq_eq_true hty
      have hty2:=Nat.eq_of_beq_eq_true hty2
      subst hty hty2
      obtain ⟨c3,c4⟩:=Zga hcast
      cases c3;cases c4
      obtain ⟨ob,cap,rows,es2,g1,g2,rfl⟩:=h1
      have g1:γ kk = .mat ob cap rows:=g1
      obtain ⟨ob',cap',rows',g3,g4⟩:=hy
      rw [g1] at g3;cases g3
      exact ⟨_,_,_,_,_,_,h,h4,hex.perm ((List.Perm.append_left ex h3).trans Zkd),Le.era hr kk,⟨ob,cap,rows,es2,by rw [g4],g2,rfl⟩,rfl⟩
     ·exact h.elim
    | box _ _=>exact h.elim
    | mid _ _ _ _ _ _=>exact h.elim
    | own _ _ _ _=>exact h.elim
   | nilS =>
    cases m with
    | true=>exact hx.elim
    | false =>
    simp only [Z4] at h
    have hx:cs=[.slice none 0 0]:=hx
    subst hx
    exact ⟨_,l,γ,v,ℓ,[.own none ty 1 0 0 []],h,hr,hex.nilLoc ty 1,rfl',⟨none,0,[],[],rfl,rfl,rfl⟩,rfl⟩
   | _=>simp only [Z4] at h;exact h.elim
  | nl =>
   cases x with
   | nl =>
    simp only [Z4] at h
    have hx:cs=[]:=by cases m <;> exact hx
    exact ⟨_,l,γ,v,ℓ,[],h,hr,hex,rfl',(by cases m <;> exact ⟨hx,rfl⟩),rfl⟩
   | _=>simp only [Z4] at h;exact h.elim
  | one c =>
   cases x with
   | cons x1 x2 =>
    cases x2 with
    | nl =>
     simp only [Z4] at h
     cases m with
     | false =>
      obtain ⟨c1,c2,rfl,h1,h2⟩:=hx
      have h2:c2=[]:=h2
      subst h2
      obtain ⟨z,l1,γ1,v1,ℓ1,es,k1,k2,k3,k4,k5,k6⟩:=ZLd hn hX g h hr hex hk.1 h1
      exact ⟨z,l1,γ1,v1,ℓ1,es,k1,k2,k3,k4,(by rw [List.append_nil];exact k5),rfl⟩
     | true =>
      obtain ⟨c1,xs,rfl,h1,h2⟩:=hx
      have h2:xs=[]:=h2
      subst h2
      obtain ⟨z,l1,γ1,v1,ℓ1,es,k1,k2,k3,k4,k5,k6⟩:=ZLd hn hX g h hr hex hk.1 h1
      exact ⟨z,l1,γ1,v1,ℓ1,es,k1,k2,k3,k4,⟨c1,(by rw [ZMf k6]),k5⟩,rfl⟩
    | _=>simp only [Z4] at h;exact h.elim
   | _=>simp only [Z4] at h;exact h.elim
  | cons c d =>
   cases x with
   | cons x1 x2 =>
    simp only [Z4] at h
    have step:∀ {c1:List Value} {m2:Bool} {c2:List Value},RR v γ l false x1 c1→RR v γ l m2 x2 c2→∃ z l' γ' v' ℓ' e1 e2,Zm n (K z) f l' Post∧RelX N G w0 v0 U X f l' a w γ' v' ℓ'∧St N w0 v0 [] ((e1++e2)++(ex++ℓ')) v' a w∧Le U v γ l v' γ' l'∧CR v' c false z.1 c1 e1∧CR v' d m2 z.2 c2 e2∧x1.isAgg=c.isAgg:=by
     intro c1 m2 c2 h1 h2;obtain ⟨z1,l1,γ1,v1,ℓ1,e1,k1,k2,k3,k4,k5,k6⟩:=ZLd hn hX g h hr hex hk.1 h1;obtain ⟨z2,l2,γ2,v2,ℓ2,e2,q1,q2,q3,q4,q5,q6⟩:=ZLd hn hX g (ex:=e1++ex) k1 k2 (by rw [List.append_assoc];exact k3) hk.2 (Z4a k4 hk.2 h2);refine ⟨(z1,z2),l2,γ2,v2,ℓ2,e1,e2,q1,q2,q3.perm ?_,k4.trans q4,Zzk q4.v k5,q5,k6⟩;rw [List.append_assoc,List.append_assoc];exact Zkd
    cases m with
    | false =>
     obtain ⟨c1,c2,rfl,h1,h2⟩:=hx;obtain ⟨z,l1,γ1,v1,ℓ1,e1,e2,k1,k2,k3,k4,k5,k6,k7⟩:=step h1 h2;exact ⟨z,l1,γ1,v1,ℓ1,_,k1,k2,k3,k4,⟨c1,c2,e1,e2,rfl,rfl,k5,k6⟩,rfl⟩
    | true =>
     obtain ⟨c1,xs,rfl,h1,h2⟩:=hx;obtain ⟨z,l1,γ1,v1,ℓ1,e1,e2,k1,k2,k3,k4,k5,k6,k7⟩:=step h1 h2;exact ⟨z,l1,γ1,v1,ℓ1,_,k1,k2,k3,k4,⟨c1,xs,e1,e2,by rw [ZMf k7],rfl,k5,k6⟩,rfl⟩
   | _=>simp only [Z4] at h;exact h.elim
  | agg c =>
   cases x with
   | agg x1 =>
    cases m with
    | true=>exact hx.elim
    | false =>
    simp only [Z4] at h;obtain ⟨z,l1,γ1,v1,ℓ1,es,k1,k2,k3,k4,k5,k6⟩:=ZLd hn hX g (x:=x1) (m:=false) h hr hex hk hx;exact ⟨z,l1,γ1,v1,ℓ1,es,k1,k2,k3,k4,k5,rfl⟩
   | _=>simp only [Z4] at h;exact h.elim
  | box ty c =>
   cases x with
   | ptr u off =>
    cases off with
    | succ k=>simp only [Z4] at h;exact h.elim
    | zero =>
    cases m with
    | true=>exact hx.elim
    | false =>
    simp only [Z4] at h;obtain ⟨e,he,h⟩:=h;obtain ⟨kk,st,L⟩:=e;obtain ⟨hm,hkk⟩:=ZA he;have hkk:kk=u:=hkk;subst hkk;obtain ⟨y,rfl,_,hy⟩:=hx;have hy:=hy _ he;obtain ⟨es,E',h1,_,_,h3,h4⟩:=hr.del he
    cases L with
    | box ty' x1 =>
     simp only at h;split at h
     ·rename_i hty;have hty:=Nat.eq_of_beq_eq_true hty;subst hty;obtain ⟨b,c1,g1,g2,g3,rfl⟩:=h1;have g1:γ kk = .box b:=g1;obtain ⟨b',g4,g5⟩:=hy;rw [g1] at g4;cases g4;have hk1:x1.ok U:=(hr.ul _ hm).2.2;obtain ⟨z,l1,γ1,v1,ℓ1,e1,k1,k2,k3,k4,k5,k6⟩:=ZLd hn hX g (ex:=.box b ty c1 :: ex) h h4 (hex.perm ((List.Perm.append_left ex h3).trans Zkd)) hk1 (Z4a (Le.era hr kk) hk1 g2);refine ⟨z,l1,γ1,v1,ℓ1,.box b ty c1 :: e1,k1,k2,k3.perm ?_,(Le.era hr kk).trans k4,⟨b,c1,e1,by rw [g5],k5,g3,rfl⟩,rfl⟩;exact List.perm_middle
     ·exact h.elim
    | own _ _ _ _=>exact h.elim
    | mid _ _ _ _ _ _=>exact h.elim
    | mat _ _ _ _ _=>exact h.elim
   | _=>simp only [Z4] at h;exact h.elim
theorem Zss {ρ:Type} {g:Nat} {c:CT} {q:V} {K:c.den→Ev ρ} {l:Lo} {Post:ρ→Fr→Lo→Prop} (h:Zm n (Z4 g c (.tup q) K) f l Post):False:=by
 cases g with
 | zero=>exact h
 | succ g =>
  cases c with
  | dat t =>
   simp only [Z4] at h;have:∀ (g:Nat),Zm n (conv g t (.tup q) K) f l Post→False:=fun g h=>by cases g <;> exact h
   exact this _ h
  | _=>simp only [Z4] at h;exact h
end
theorem F2.append {α β:Type} {R:α→β→Prop}:∀ {l l':List α} {m m':List β},F2 R l m→F2 R l' m'→F2 R (l++l') (m++m')
 | [],_,[],_,_,k=>k
 | _ :: _,_,_ :: _,_,h,k=>⟨h.1,F2.append h.2 k⟩
 | [],_,_ :: _,_,h,_=>h.elim
 | _ :: _,_,[],_,h,_=>h.elim
theorem ZHk {la lb:Lo} {γa γb:Nat→Gh} {γ:Nat→Gh} {l:Lo} (h:∀ e ∈ la++lb,γ e.k=(if e.k ∈ la.map En.k then γa e.k else γb e.k)∧lkE l e.k=some e):∀ e ∈ la,γ e.k=γa e.k∧lkE l e.k=some e:=fun e he=>by
 obtain ⟨h1,h2⟩:=h e (List.mem_append_left _ he)
 rw [if_pos (List.mem_map.2 ⟨e,he,rfl⟩)] at h1
 exact ⟨h1,h2⟩
theorem Z7j {la lb:Lo} {γa γb:Nat→Gh} {γ:Nat→Gh} {l:Lo} (hd:∀ e ∈ lb,e.k ∉ la.map En.k) (h:∀ e ∈ la++lb,γ e.k=(if e.k ∈ la.map En.k then γa e.k else γb e.k)∧lkE l e.k=some e):∀ e ∈ lb,γ e.k=γb e.k∧lkE l e.k=some e:=fun e he=>by
 obtain ⟨h1,h2⟩:=h e (List.mem_append_right _ he)
 rw [if_neg (hd e he)] at h1
 exact ⟨h1,h2⟩
theorem Zyk {la lb:Lo} (ha:(la.map En.k).Nodup) (hb:(lb.map En.k).Nodup) (hd:∀ e ∈ lb,e.k ∉ la.map En.k):((la++lb).map En.k).Nodup:=by
 rw [List.map_append];refine List.nodup_append.2 ⟨ha,hb,fun x hx y hy e=>?_⟩;subst e;obtain ⟨e,he,rfl⟩:=List.mem_map.1 hy;exact hd e he hx
theorem ZZk {v:Zb}:∀ (c:CT) {m:Bool} {z:c.den} {cs:List Value} {es:List Loc} (n:Nat) {x:V} {l2:Lo} {n2:Nat},CR v c m z cs es→Zk c z n=(x,l2,n2) →
  n≤n2∧(∀ e ∈ l2,n≤e.k∧e.k<n2∧n≤e.st∧e.st<n2∧e.x.ok (· < n2) (· < n2))∧(l2.map En.k).Nodup∧x.ok (· < n2)∧x.isAgg=c.isAgg ∧
  ∃ γ0:Nat→Gh,∀ (γ:Nat→Gh) (l:Lo),(∀ e ∈ l2,γ e.k=γ0 e.k∧lkE l e.k=some e)→RR v γ l m x cs∧∃ E,F2 (Zza v γ l) l2 E∧es.Perm E.flatten:=by
 intro c
 induction c with
 | dat t =>
  intro m z cs es n x l2 n2 h hi
  cases m with
  | true=>exact h.elim
  | false =>
  cases hi
  obtain ⟨h1,rfl⟩:=h;exact ⟨Nat.le_refl _,fun e he=>(by cases he),List.nodup_nil,trivial,rfl,fun _=>.box 0,fun γ l _=>⟨h1,[],trivial,List.Perm.refl _⟩⟩
 | own ty t =>
  intro m z cs es n x l2 n2 h hi
  cases m with
  | true=>exact h.elim
  | false =>
  cases hi
  obtain ⟨ob,cap,d,rfl,h2,rfl⟩:=h;refine ⟨Nat.le_succ _,fun e he=>?_,?_,Nat.lt_succ_self n,rfl,fun _=>.own ob cap,fun γ l hl=>?_⟩
  ·rcases List.mem_singleton.1 he with rfl;exact ⟨Nat.le_refl _,Nat.lt_succ_self _,Nat.le_refl _,Nat.lt_succ_self _,trivial⟩
  ·exact List.nodup_cons.2 ⟨by simp,List.nodup_nil⟩
  ·obtain ⟨hg,hlk⟩:=hl _ (List.mem_singleton.2 rfl);refine ⟨⟨_,rfl,rfl,fun e he=>?_⟩,[_],⟨⟨ob,cap,d,hg,h2,rfl⟩,trivial⟩,List.Perm.refl _⟩;rw [show lkE l n=_ from hlk] at he;cases he;exact ⟨ob,cap,hg,rfl⟩
 | mat ty ty2 t =>
  intro m z cs es n x l2 n2 h hi
  cases m with
  | true=>exact h.elim
  | false =>
  cases hi
  obtain ⟨ob,cap,rows,es2,rfl,h2,rfl⟩:=h;refine ⟨Nat.le_succ _,fun e he=>?_,?_,Nat.lt_succ_self n,rfl,fun _=>.mat ob cap rows,fun γ l hl=>?_⟩
  ·rcases List.mem_singleton.1 he with rfl;exact ⟨Nat.le_refl _,Nat.lt_succ_self _,Nat.le_refl _,Nat.lt_succ_self _,Nat.lt_succ_self n⟩
  ·exact List.nodup_cons.2 ⟨by simp,List.nodup_nil⟩
  ·obtain ⟨hg,hlk⟩:=hl _ (List.mem_singleton.2 rfl);refine ⟨⟨_,rfl,rfl,fun e he=>?_⟩,[_],⟨⟨ob,cap,rows,es2,hg,h2,rfl⟩,trivial⟩,by simp⟩;rw [show lkE l n=_ from hlk] at he;cases he;exact ⟨ob,cap,rows,hg,rfl⟩
 | nl =>
  intro m z cs es n x l2 n2 h hi
  cases hi
  have h:cs=[]∧es=[]:=by cases m <;> exact h
  obtain ⟨rfl,rfl⟩:=h;exact ⟨Nat.le_refl _,fun e he=>(by cases he),List.nodup_nil,trivial,rfl,fun _=>.box 0,fun γ l _=>⟨by cases m <;> rfl,[],trivial,List.Perm.refl _⟩⟩
 | one c ih =>
  intro m z cs es n x l2 n2 h hi;have hi:((.cons (Zk c z n).1 .nl:V),(Zk c z n).2.1,(Zk c z n).2.2)=(x,l2,n2):=hi
  cases hi
  cases m with
  | false =>
   obtain ⟨k1,k2,k3,k4,k5,γ0,k6⟩:=ih n (x:=(Zk c z n).1) (l2:=(Zk c z n).2.1) (n2:=(Zk c z n).2.2) h rfl;exact ⟨k1,k2,k3,⟨k4,trivial⟩,rfl,γ0,fun γ l hl=>⟨⟨cs,[],by simp,(k6 γ l hl).1,rfl⟩,(k6 γ l hl).2⟩⟩
  | true =>
   obtain ⟨c1,rfl,h⟩:=h;obtain ⟨k1,k2,k3,k4,k5,γ0,k6⟩:=ih n (x:=(Zk c z n).1) (l2:=(Zk c z n).2.1) (n2:=(Zk c z n).2.2) h rfl;exact ⟨k1,k2,k3,⟨k4,trivial⟩,rfl,γ0,fun γ l hl=>⟨⟨c1,[],by rw [ZMf k5],(k6 γ l hl).1,rfl⟩,(k6 γ l hl).2⟩⟩
 | cons c d ia ib =>
  intro m z cs es n x l2 n2 h hi;have hi:((.cons (Zk c z.1 n).1 (Zk d z.2 (Zk c z.1 n).2.2).1:V),(Zk c z.1 n).2.1++(Zk d z.2 (Zk c z.1 n).2.2).2.1,(Zk d z.2 (Zk c z.1 n).2.2).2.2)=(x,l2,n2):=hi
  cases hi
  have step:∀ {c1 c2:List Value} {m2:Bool} {e1 e2:List Loc},CR v c false z.1 c1 e1→CR v d m2 z.2 c2 e2→es=e1++e2→n≤(Zk d z.2 (Zk c z.1 n).2.2).2.2∧(∀ e ∈ (Zk c z.1 n).2.1++(Zk d z.2 (Zk c z.1 n).2.2).2.1,n≤e.k∧e.k<(Zk d z.2 (Zk c z.1 n).2.2).2.2∧n≤e.st∧e.st<(Zk d z.2 (Zk c z.1 n).2.2).2.2∧e.x.ok (· < (Zk d z.2 (Zk c z.1 n).2.2).2.2) (· < (Zk d z.2 (Zk c z.1 n).2.2).2.2))∧(((Zk c z.1 n).2.1++(Zk d z.2 (Zk c z.1 n).2.2).2.1).map En.k).Nodup∧((Zk c z.1 n).1.ok (· < (Zk d z.2 (Zk c z.1 n).2.2).2.2)∧(Zk d z.2 (Zk c z.1 n).2.2).1.ok (· < (Zk d z.2 (Zk c z.1 n).2.2).2.2))∧(Zk c z.1 n).1.isAgg=c.isAgg ∧
    ∃ γ0:Nat→Gh,∀ (γ:Nat→Gh) (l:Lo),(∀ e ∈ (Zk c z.1 n).2.1++(Zk d z.2 (Zk c z.1 n).2.2).2.1,γ e.k=γ0 e.k∧lkE l e.k=some e)→RR v γ l false (Zk c z.1 n).1 c1∧RR v γ l m2 (Zk d z.2 (Zk c z.1 n).2.2).1 c2∧∃ E,F2 (Zza v γ l) ((Zk c z.1 n).2.1++(Zk d z.2 (Zk c z.1 n).2.2).2.1) E∧es.Perm E.flatten:=by
   intro c1 c2 m2 e1 e2 h1 h2 he;obtain ⟨k1,k2,k3,k4,k5,γa,k6⟩:=ia n (x:=(Zk c z.1 n).1) (l2:=(Zk c z.1 n).2.1) (n2:=(Zk c z.1 n).2.2) h1 rfl;obtain ⟨q1,q2,q3,q4,q5,γb,q6⟩:=ib (Zk c z.1 n).2.2 (x:=(Zk d z.2 (Zk c z.1 n).2.2).1) (l2:=(Zk d z.2 (Zk c z.1 n).2.2).2.1) (n2:=(Zk d z.2 (Zk c z.1 n).2.2).2.2) h2 rfl;have hd:∀ e ∈ (Zk d z.2 (Zk c z.1 n).2.2).2.1,e.k ∉ ((Zk c z.1 n).2.1).map En.k:=fun e he hm=>by
    obtain ⟨e',he',hk⟩:=List.mem_map.1 hm;have:=(k2 e' he').2.1;have:=(q2 e he).1;omega
   have up:∀ k,k<(Zk c z.1 n).2.2→k<(Zk d z.2 (Zk c z.1 n).2.2).2.2:=fun k hk=>Nat.lt_of_lt_of_le hk q1;refine ⟨Nat.le_trans k1 q1,fun e he=>?_,Zyk k3 q3 hd,⟨V.ok.mono up k4,q4⟩,k5,fun k=>if k ∈ ((Zk c z.1 n).2.1).map En.k then γa k else γb k,fun γ l hl=>⟨(k6 γ l (ZHk hl)).1,(q6 γ l (Z7j hd hl)).1,?_⟩⟩
   ·rcases List.mem_append.1 he with he | he
    ·obtain ⟨r1,r2,r3,r4,r5⟩:=k2 e he;exact ⟨r1,up _ r2,r3,up _ r4,LV.ok.mono up up r5⟩
    ·obtain ⟨r1,r2,r3,r4,r5⟩:=q2 e he;exact ⟨Nat.le_trans k1 r1,r2,Nat.le_trans k1 r3,r4,r5⟩
   ·obtain ⟨E1,g1,g2⟩:=(k6 γ l (ZHk hl)).2;obtain ⟨E2,g3,g4⟩:=(q6 γ l (Z7j hd hl)).2;exact ⟨E1++E2,g1.append g3,by rw [he,List.flatten_append];exact g2.append g4⟩
  cases m with
  | false =>
   obtain ⟨c1,c2,e1,e2,rfl,he,h1,h2⟩:=h;obtain ⟨k1,k2,k3,k4,k5,γ0,k6⟩:=step h1 h2 he;exact ⟨k1,k2,k3,k4,rfl,γ0,fun γ l hl=>⟨⟨c1,c2,rfl,(k6 γ l hl).1,(k6 γ l hl).2.1⟩,(k6 γ l hl).2.2⟩⟩
  | true =>
   obtain ⟨c1,c2,e1,e2,rfl,he,h1,h2⟩:=h;obtain ⟨k1,k2,k3,k4,k5,γ0,k6⟩:=step h1 h2 he;exact ⟨k1,k2,k3,k4,rfl,γ0,fun γ l hl=>⟨⟨c1,c2,by rw [ZMf k5],(k6 γ l hl).1,(k6 γ l hl).2.1⟩,(k6 γ l hl).2.2⟩⟩
 | agg c ih =>
  intro m z cs es n x l2 n2 h hi
  cases m with
  | true=>exact h.elim
  | false =>
  have hi:((.agg (Zk c z n).1:V),(Zk c z n).2.1,(Zk c z n).2.2)=(x,l2,n2):=hi
  cases hi
  obtain ⟨k1,k2,k3,k4,k5,γ0,k6⟩:=ih (m:=false) n (x:=(Zk c z n).1) (l2:=(Zk c z n).2.1) (n2:=(Zk c z n).2.2) h rfl;exact ⟨k1,k2,k3,k4,rfl,γ0,k6⟩
 | box ty c ih =>
  intro m z cs es n x l2 n2 h hi
  cases m with
  | true=>exact h.elim
  | false =>
  have hi:((.ptr n 0:V),(⟨n,n,.box ty (Zk c z (n+1)).1⟩ :: (Zk c z (n+1)).2.1:Lo),(Zk c z (n+1)).2.2)=(x,l2,n2):=hi
  cases hi
  obtain ⟨b,c1,e1,rfl,h2,h3,rfl⟩:=h;obtain ⟨k1,k2,k3,k4,k5,γ0,k6⟩:=ih (m:=false) (n+1) (x:=(Zk c z (n+1)).1) (l2:=(Zk c z (n+1)).2.1) (n2:=(Zk c z (n+1)).2.2) h2 rfl;have hd:∀ e ∈ (Zk c z (n+1)).2.1,e.k≠n:=fun e he hk=>by have:=(k2 e he).1;omega
  refine ⟨by omega,fun e he=>?_,List.nodup_cons.2 ⟨fun hm=>?_,k3⟩,(show n<_ by omega),rfl,fun k=>if k=n then .box b else γ0 k,fun γ l hl=>?_⟩
  ·rcases List.mem_cons.1 he with rfl | he
   ·exact ⟨Nat.le_refl _,(show n<_ by omega),Nat.le_refl _,(show n<_ by omega),k4⟩
   ·obtain ⟨r1,r2,r3,r4,r5⟩:=k2 e he;exact ⟨by omega,r2,by omega,r4,r5⟩
  ·obtain ⟨e,he,hk⟩:=List.mem_map.1 hm;exact hd e he hk
  ·obtain ⟨hg,hlk⟩:=hl _ List.mem_cons_self;have hg:γ n = .box b:=by rw [show γ n=_ from hg];exact if_pos rfl
   obtain ⟨q1,E,q2,q3⟩:=k6 γ l fun e he=>by
    obtain ⟨r1,r2⟩:=hl e (List.mem_cons_of_mem _ he);exact ⟨r1.trans (if_neg (hd e he)),r2⟩
   refine ⟨⟨_,rfl,rfl,fun e he=>?_⟩,[_] :: E,⟨⟨b,c1,hg,q1,h3,rfl⟩,q2⟩,by rw [List.flatten_cons];exact List.Perm.cons _ q3⟩;rw [show lkE l n=_ from hlk] at he;cases he;exact ⟨b,hg,rfl⟩
end Go.Eng
namespace Go.Eng
open Go.RowKit
def CRL (v:Zb):(c:CT)→c.den→Gh→List Loc→Prop
 | .own ty t,(xs:List t.den),g,es=>∃ ob cap d,g = .own ob cap∧t.rep.rels v d xs∧es=[.own ob ty t.n xs.length cap d]
 | .mat ty ty2 t,(m:List (List t.den)),g,es=>∃ ob cap rows es2,g = .mat ob cap rows∧Zoa v ty2 t rows m es2∧es = .own ob ty 1 m.length cap (Zq rows m) :: es2
 | .box ty c,z,g,es=>∃ b c1 e1,g = .box b∧CR v c false z c1 e1∧c1.all plain=true∧es = .box b ty c1 :: e1
 | _,_,_,_=>False
theorem ZRq {v v':Zb} (h:v.le v') {c:CT} {z:c.den} {g:Gh} {es:List Loc} (k:CRL v c z g es):CRL v' c z g es:=by
 cases c with
 | own ty t=>obtain ⟨ob,cap,d,h1,h2,h3⟩:=k;exact ⟨ob,cap,d,h1,ZU h h2,h3⟩
 | mat ty ty2 t=>obtain ⟨ob,cap,rows,es2,h1,h2,h3⟩:=k;exact ⟨ob,cap,rows,es2,h1,ZQd h h2,h3⟩
 | box ty c=>obtain ⟨b,c1,e1,h1,h2,h3,h4⟩:=k;exact ⟨b,c1,e1,h1,Zzk h h2,h3,h4⟩
 | _=>exact k.elim
def Z7f (p:Nat→Prop):(c:CT)→c.den→LV→Prop
 | .own ty t,z,L=>L = .own ty t z false
 | .mat ty ty2 t,z,L=>∃ hv,p hv∧L = .mat ty ty2 t z hv
 | .box ty _,_,L=>∃ x,L = .box ty x
 | _,_,_=>False
theorem Zpq {U:Nat→Prop} {γ1 γ2 γ3:Nat→Gh} {u s1 s2 s3:Nat} {x1 x2 x3:LV} (c1:CE U γ1 γ2 u s1 s2 x1 x2) (c2:CE U γ2 γ3 u s2 s3 x2 x3):CE U γ1 γ3 u s1 s3 x1 x3:=CE.tr c1 c2
theorem ZNo {U U':Nat→Prop} {γ γ1 γ2:Nat→Gh} {u s s':Nat} {x x':LV} (hU:∀ k,U k→U' k) (hg:γ2 u=γ1 u) (c:CE U' γ γ1 u s s' x x'):CE U γ γ2 u s s' x x':=by
  cases x <;> cases x' <;> simp only [CE] at c ⊢
  · rw [hg,c]
  · exact ⟨hg.trans c.1,c.2.1,c.2.2.1,fun h=>c.2.2.2 (hU _ h)⟩
  all_goals first
    | (obtain ⟨ob,cap,rows,a1,a2,a3⟩:=c;exact ⟨ob,cap,rows,a1,hg.trans a2,a3⟩)
    | (obtain ⟨a1,a2,⟨ob,cap,rows,rows',a3,a4,a5⟩,a6⟩:=c
       exact ⟨a1,a2,⟨ob,cap,rows,rows',a3,hg.trans a4,fun h=>a5 (hU _ h)⟩,fun h=>a6 (hU _ h)⟩)
theorem CE_head {U:Nat→Prop} {γ γ':Nat→Gh} {u s s' n0:Nat} {c:CT} {z:c.den} {L L':LV} {v:Zb} {es:List Loc} (hU:∀ k,n0≤k→¬ U k) (hs:n0≤s') (h:Z7f (fun _=>True) c z L) (h':Z7f (n0≤·) c z L') (hg:γ' u=γ u) (hc:CRL v c z (γ u) es):CE U γ γ' u s s' L L':=by
 cases c with
 | own ty t=>subst h;subst h';exact ⟨hg,rfl,rfl,fun e=>absurd e (hU _ hs)⟩
 | mat ty ty2 t =>
  obtain ⟨hv,_,rfl⟩:=h;obtain ⟨hv',h2,rfl⟩:=h';obtain ⟨ob,cap,rows,es2,h3,h4,h5⟩:=hc;exact ⟨rfl,rfl,⟨ob,cap,rows,rows,h3,hg.trans h3,fun e=>absurd e (hU _ h2)⟩,fun e=>absurd e (hU _ hs)⟩
 | box ty c=>obtain ⟨x,rfl⟩:=h;obtain ⟨x',rfl⟩:=h';exact hg
 | _=>exact h.elim
section
variable {N:Nat} {G:V→Value→Prop} {w0:Base} {v0:Zb} {U X:Nat→Prop} {f:Fr} {a:Act} {w:World} {n:Nat}
theorem Z3s {ρ:Type} (hn:¬ U n) (hX:X n) {c:CT} {u:Nat} (hu:U u) {K:c.den→Ev ρ} {l:Lo} {Post:ρ→Fr→Lo→Prop} {γ:Nat→Gh} {v:Zb} {ℓ ex:List Loc}
  (h:Zm n (Zre c u K) f l Post) (hr:RelX N G w0 v0 U X f l a w γ v ℓ) (hex:St N w0 v0 [] (ex++ℓ) v a w) :
  ∃ z l' γ' v' ℓ' es e0,Zm n (K z) f l' Post∧RelX N G w0 v0 U X f l' a w γ' v' ℓ'∧St N w0 v0 [] (es++(ex++ℓ')) v' a w∧Le U v γ l v' γ' l'∧CRL v' c z (γ u) es∧lkE l u=some e0∧lkE l' u=none∧Z7f (fun _=>True) c z e0.x:=by
 cases c with
 | own ty t =>
  simp only [Zre] at h;obtain ⟨e,he,h⟩:=h;obtain ⟨kk,st,L⟩:=e;have hkk:kk=u:=(ZA he).2;subst hkk;obtain ⟨es,E',h1,_,_,h3,h4⟩:=hr.del he
  cases L with
  | own ty' t' xs fz =>
   cases fz with
   | true=>exact h.elim
   | false =>
    simp only at h;split at h
    ·rename_i ys hty hcast;have hty:=Nat.eq_of_beq_eq_true hty;subst hty;obtain ⟨c3,c4⟩:=Zga hcast
     cases c3;cases c4
     obtain ⟨ob,cap,d,g1,g2,rfl⟩:=h1;exact ⟨_,_,_,_,_,_,_,h,h4,hex.perm ((List.Perm.append_left ex h3).trans Zkd),Le.era hr kk,⟨ob,cap,d,g1,g2,rfl⟩,he,ZQh (Zqb hr.nd).2,rfl⟩
    ·exact h.elim
  | box _ _=>exact h.elim
  | mid _ _ _ _ _ _=>exact h.elim
  | mat _ _ _ _ _=>exact h.elim
 | mat ty ty2 t =>
  simp only [Zre] at h;obtain ⟨e,he,h⟩:=h;obtain ⟨kk,st,L⟩:=e;have hkk:kk=u:=(ZA he).2;subst hkk;obtain ⟨es,E',h1,_,_,h3,h4⟩:=hr.del he
  cases L with
  | mat ty' ty2' t' mm hv =>
   simp only at h;split at h
   ·rename_i m' hty hty2 hcast;have hty:=Nat.eq_of_beq_eq_true hty;have hty2:=Nat.eq_of_beq_eq_true hty2;subst hty hty2;obtain ⟨c3,c4⟩:=Zga hcast
    cases c3;cases c4
    obtain ⟨ob,cap,rows,es2,g1,g2,rfl⟩:=h1;exact ⟨_,_,_,_,_,_,_,h,h4,hex.perm ((List.Perm.append_left ex h3).trans Zkd),Le.era hr kk,⟨ob,cap,rows,es2,g1,g2,rfl⟩,he,ZQh (Zqb hr.nd).2,hv,trivial,rfl⟩
   ·exact h.elim
  | box _ _=>exact h.elim
  | mid _ _ _ _ _ _=>exact h.elim
  | own _ _ _ _=>exact h.elim
 | box ty c =>
  simp only [Zre] at h;obtain ⟨e,he,h⟩:=h;obtain ⟨kk,st,L⟩:=e;obtain ⟨hm,hkk⟩:=ZA he;have hkk:kk=u:=hkk;subst hkk;obtain ⟨es,E',h1,_,_,h3,h4⟩:=hr.del he
  cases L with
  | box ty' x1 =>
   simp only at h;split at h
   ·rename_i hty;have hty:=Nat.eq_of_beq_eq_true hty;subst hty;obtain ⟨b,c1,g1,g2,g3,rfl⟩:=h1;have hk1:x1.ok U:=(hr.ul _ hm).2.2;obtain ⟨z,l1,γ1,v1,ℓ1,e1,k1,k2,k3,k4,k5,k6⟩:=ZLd hn hX FU (ex:=.box b ty c1 :: ex) h h4 (hex.perm ((List.Perm.append_left ex h3).trans Zkd)) hk1 (Z4a (Le.era hr kk) hk1 g2);refine ⟨z,l1,γ1,v1,ℓ1,.box b ty c1 :: e1,_,k1,k2,k3.perm ?_,(Le.era hr kk).trans k4,⟨b,c1,e1,g1,k5,g3,rfl⟩,he,?_,x1,rfl⟩
    ·exact List.perm_middle
    ·cases hx:lkE l1 kk with
     | none=>rfl
     | some e' =>
      obtain ⟨e,he2,_⟩:=k4.l kk e' hu hx;rw [ZQh (Zqb hr.nd).2] at he2;cases he2
   ·exact h.elim
  | own _ _ _ _=>exact h.elim
  | mid _ _ _ _ _ _=>exact h.elim
  | mat _ _ _ _ _=>exact h.elim
 | _=>simp only [Zre] at h;exact h.elim
end
theorem ZSg:∀ (g:Nat) {x z:V} {off n:Nat} {ag:Bool} {U:Nat→Prop},Zfa g x off n ag=some z→x.ok U→z.ok U
 | 0,_,_,_,_,_,_,h,_=>by cases h
 | g+1,x,z,off,n,ag,U,h,hk=>by
  have whole:∀ {y:V},(match Nat.beq off 0,Nat.beq y.size n,eqB y.isAgg ag with
    | true,true,true=>some y
    | _,_,_=>match y with
     | .agg c=>Zfa g c off n ag
     | .data t x=>match Zyb t x with
      | some c=>Zfa g c off n ag
      | none=>none
     | _=>none)=some z→y.ok U→z.ok U:=by
   intro y hy hk;split at hy
   ·cases hy;exact hk
   ·split at hy
    ·exact ZSg g hy hk
    ·split at hy
     ·rename_i he;exact ZSg g hy (Zyn he)
     ·cases hy
    ·cases hy
  cases x with
  | nl=>simp only [Zfa] at h;cases h
  | cons a b =>
   simp only [Zfa] at h;split at h
   ·exact ZSg g h hk.1
   ·split at h
    ·exact ZSg g h hk.2
    ·cases h
  | data t x=>exact whole (y:=.data t x) h hk
  | agg c=>exact whole (y:=.agg c) h hk
  | nilS=>exact whole (y:=.nilS) h hk
  | own u=>exact whole (y:=.own u) h hk
  | row u i hv cv t r=>exact whole (y:=.row u i hv cv t r) h hk
  | ptr u o=>exact whole (y:=.ptr u o) h hk
  | el u i cv t x o=>exact whole (y:=.el u i cv t x o) h hk
  | rp u i hv cv t r=>exact whole (y:=.rp u i hv cv t r) h hk
  | rel u i j hv cv t r x o=>exact whole (y:=.rel u i j hv cv t r x o) h hk
  | vp t x o=>exact whole (y:=.vp t x o) h hk
  | tup c=>exact whole (y:=.tup c) h hk
  | fn f c=>exact whole (y:=.fn f c) h hk
  | ifc f c=>exact whole (y:=.ifc f c) h hk
  | undef=>exact whole (y:=.undef) h hk
structure H0 (G:V→Value→Prop) (n0:Nat) (f0:Fr) (l0:Lo):Prop where
 f:∀ t e,lkE f0 t=some e→e.x.ok (· < n0)∧e.st<n0
 l:∀ e ∈ l0,e.k<n0∧e.st<n0∧e.x.ok (· < n0) (· < n0)
 nd:(l0.map En.k).Nodup
 g:∀ x y,G x y→x.ok (· < n0)
theorem Rel.h0 {N:Nat} {G:V→Value→Prop} {w0:Base} {v0:Zb} {n:Nat} {f:Fr} {l:Lo} {a:Act} {w:World} (h:Rel N G w0 v0 (· < n) f l a w):H0 G n f l:=by
 obtain ⟨γ,v,ℓ,h⟩:=h;exact ⟨h.uf,h.ul,h.nd,fun x y hg=>(h.gh x y hg).2⟩
theorem Z9o {x:V} {u n:Nat} (h:idV x=some u) (hk:x.ok (· < n)):u<n:=by
 unfold idV at h;split at h
 ·cases h;exact hk
 ·cases h;exact hk
 ·cases h
theorem Zdk {G:V→Value→Prop} {n0:Nat} {f0:Fr} {l0:Lo} (h0:H0 G n0 f0 l0):∀ {p:Pl} {u:Nat},Z0b f0 l0 p=some u→u<n0
 | .sl s,u,h=>by
  simp only [Z0b] at h
  split at h
  ·rename_i e he;exact Z9o h (h0.f _ _ he).1
  ·cases h
 | .fld p off,u,h=>by
  simp only [Z0b] at h
  split at h
  ·split at h
   ·rename_i he
    split at h
    ·rename_i hg
     have:=(h0.l _ (ZA he).1).2.2
     exact Z9o h (ZSg FU hg this)
    ·cases h
   ·cases h
  ·cases h
def SRel (a:Act) (v:Zb) (t:Nat) (c:CT) (z:c.den) (es:List Loc):Prop:=∃ cs,a.tmps.getD t undef=c.vl cs∧CR v c false z cs es
def LRel (v:Zb) (γ:Nat→Gh) (l:Lo) (n0:Nat) (f0:Fr) (l0:Lo) (u:Nat) (p:Pl) (c:CT) (z:c.den) (es:List Loc):Prop :=
 Z0b f0 l0 p=some u∧∃ g e0,lkE l u=some e0∧CRL v c z g es∧∀ (γ':Nat→Gh) (st':Nat) (L':LV),γ' u=g→n0≤st'→Z7f (n0≤·) c z L'→CE (· < n0) γ γ' u e0.st st' e0.x L'
def VRel (a:Act) (v:Zb) (γ:Nat→Gh) (l:Lo) (n0:Nat) (f0:Fr) (l0:Lo):(vs:List Vr)→(ctL (vs.map Vr.ct)).den→List Loc→List Nat→Prop
 | [],_,es,us=>es=[]∧us=[]
 | [.s t c],z,es,us=>us=[]∧SRel a v t c z es
 | [.l p c],z,es,us=>∃ u,us=[u]∧LRel v γ l n0 f0 l0 u p c z es
 | .s t c :: w :: r,z,es,us=>∃ e1 e2,es=e1++e2∧SRel a v t c z.1 e1∧VRel a v γ l n0 f0 l0 (w :: r) z.2 e2 us
 | .l p c :: w :: r,z,es,us=>∃ e1 e2 u us',es=e1++e2∧us=u :: us'∧LRel v γ l n0 f0 l0 u p c z.1 e1∧VRel a v γ l n0 f0 l0 (w :: r) z.2 e2 us'
theorem Zjr {a:Act} {v v':Zb} (h:v.le v') {t:Nat} {c:CT} {z:c.den} {es:List Loc} (k:SRel a v t c z es):SRel a v' t c z es:=by
 obtain ⟨cs,h1,h2⟩:=k;exact ⟨cs,h1,Zzk h h2⟩
theorem Zvs {v v':Zb} (h:v.le v') {γ:Nat→Gh} {l:Lo} {n0:Nat} {f0:Fr} {l0:Lo} {u:Nat} {p:Pl} {c:CT} {z:c.den} {es:List Loc} (k:LRel v γ l n0 f0 l0 u p c z es):LRel v' γ l n0 f0 l0 u p c z es:=by
 obtain ⟨h1,g,e0,h2,h3,h4⟩:=k;exact ⟨h1,g,e0,h2,ZRq h h3,h4⟩
section
variable {N:Nat} {G:V→Value→Prop} {w0:Base} {v0:Zb} {f:Fr} {a:Act} {w:World} {n:Nat}
theorem Z7o {ρ:Type} {t:Nat} {c:CT} {K:c.den→Ev ρ} {l:Lo} {Post:ρ→Fr→Lo→Prop} {γ:Nat→Gh} {v:Zb} {ℓ ex:List Loc}
  (h:Zm n (.rdS t fun v=>Z4 FU c v K) f l Post) (hr:RelX N G w0 v0 (· < n) (· < n+1) f l a w γ v ℓ) (hex:St N w0 v0 [] (ex++ℓ) v a w) :
  ∃ z l' γ' v' ℓ' es,Zm n (K z) f l' Post∧RelX N G w0 v0 (· < n) (· < n+1) f l' a w γ' v' ℓ'∧St N w0 v0 [] (es++(ex++ℓ')) v' a w∧Le (· < n) v γ l v' γ' l'∧SRel a v' t c z es:=by
 obtain ⟨e,he,h⟩:=h;have hrv:=hr.fr t e he;obtain ⟨cs,hcs,hy⟩:=Znb hrv (fun q hq=>by rw [hq] at h;exact Zss h);obtain ⟨z,l',γ',v',ℓ',es,k1,k2,k3,k4,k5,k6⟩:=ZLd (U:=(· < n)) (X:=(· < n+1)) (Nat.lt_irrefl n) (Nat.lt_succ_self n) FU h hr hex (hr.uf t e he).1 hcs;exact ⟨z,l',γ',v',ℓ',es,k1,k2,k3,k4,cs,by rw [hy,ZMf k6],k5⟩
theorem ZLn {ρ:Type} {u:Nat} {p:Pl} {c:CT} {K:c.den→Ev ρ} {l lE f0l:Lo} {f0:Fr} {n0:Nat} {Post:ρ→Fr→Lo→Prop} {γ γE:Nat→Gh} {v vE:Zb} {ℓ ex:List Loc} (h0:H0 G n0 f0 f0l) (hn0:n0≤n) (hid:Z0b f0 f0l p=some u)
  (h:Zm n (Zre c u K) f l Post) (hr:RelX N G w0 v0 (· < n) (· < n+1) f l a w γ v ℓ) (hex:St N w0 v0 [] (ex++ℓ) v a w) (hE:Le (· < n) vE γE lE v γ l) :
  ∃ z l' γ' v' ℓ' es,Zm n (K z) f l' Post∧RelX N G w0 v0 (· < n) (· < n+1) f l' a w γ' v' ℓ'∧St N w0 v0 [] (es++(ex++ℓ')) v' a w∧Le (· < n) v γ l v' γ' l'∧LRel v' γE lE n0 f0 f0l u p c z es∧(∃ e,lkE l u=some e)∧lkE l' u=none:=by
 have hu:u<n:=Nat.lt_of_lt_of_le (Zdk h0 hid) hn0;obtain ⟨z,l',γ',v',ℓ',es,e0,k1,k2,k3,k4,k5,k6,k7,k8⟩:=Z3s (U:=(· < n)) (X:=(· < n+1)) (Nat.lt_irrefl n) (Nat.lt_succ_self n) hu h hr hex;obtain ⟨eE,q1,q2⟩:=hE.l u e0 hu k6;refine ⟨z,l',γ',v',ℓ',es,k1,k2,k3,k4,⟨hid,γ u,eE,q1,k5,fun γ2 st' L' hg hs hh=>?_⟩,⟨e0,k6⟩,k7⟩;exact Zpq (ZNo (fun k hk=>Nat.lt_of_lt_of_le hk hn0) rfl q2) (CE_head (n0:=n0) (fun k hk h=>by omega) hs k8 hh hg k5)
theorem Zak {ρ:Type} {f0:Fr} {l0 lE:Lo} {n0:Nat} {γE:Nat→Gh} {vE:Zb} (h0:H0 G n0 f0 l0) (hn0:n0≤n):∀ {vs:List Vr} {K:(ctL (vs.map Vr.ct)).den→Ev ρ} {l:Lo} {Post:ρ→Fr→Lo→Prop} {γ:Nat→Gh} {v:Zb} {ℓ ex:List Loc},
  Zm n (Zue f0 l0 vs K) f l Post→RelX N G w0 v0 (· < n) (· < n+1) f l a w γ v ℓ→St N w0 v0 [] (ex++ℓ) v a w→Le (· < n) vE γE lE v γ l →
  ∃ z l' γ' v' ℓ' es us,Zm n (K z) f l' Post∧RelX N G w0 v0 (· < n) (· < n+1) f l' a w γ' v' ℓ'∧St N w0 v0 [] (es++(ex++ℓ')) v' a w∧Le (· < n) v γ l v' γ' l'∧VRel a v' γE lE n0 f0 l0 vs z es us∧us.Nodup∧∀ u ∈ us,u<n0∧(∃ e,lkE l u=some e)∧u ∈ ZCc f0 l0 vs
 | [],K,l,Post,γ,v,ℓ,ex,h,hr,hex,hE=>by
  obtain ⟨E,hE',_⟩:=hr.lr
  exact ⟨(),l,γ,v,ℓ,[],[],h,hr,hex,Le.refl hE' (Zb.le_refl _),⟨rfl,rfl⟩,List.nodup_nil,fun u hu=>by cases hu⟩
 | [.s t c],K,l,Post,γ,v,ℓ,ex,h,hr,hex,hE=>by
  obtain ⟨z,l',γ',v',ℓ',es,k1,k2,k3,k4,k5⟩:=Z7o h hr hex
  exact ⟨z,l',γ',v',ℓ',es,[],k1,k2,k3,k4,⟨rfl,k5⟩,List.nodup_nil,fun u hu=>by cases hu⟩
 | [.l p c],K,l,Post,γ,v,ℓ,ex,h,hr,hex,hE=>by
  simp only [Zue] at h
  split at h
  ·rename_i u hid
   obtain ⟨z,l',γ',v',ℓ',es,k1,k2,k3,k4,k5,k6,k7⟩:=ZLn h0 hn0 hid h hr hex hE
   refine ⟨z,l',γ',v',ℓ',es,[u],k1,k2,k3,k4,⟨u,rfl,k5⟩,List.nodup_cons.2 ⟨by simp,List.nodup_nil⟩,fun u' hu=>?_⟩
   rcases List.mem_singleton.1 hu with rfl
   exact ⟨Zdk h0 hid,k6,by simp only [ZCc,hid];simp⟩
  ·exact h.elim
 | .s t c :: w :: r,K,l,Post,γ,v,ℓ,ex,h,hr,hex,hE=>by
  obtain ⟨z1,l1,γ1,v1,ℓ1,e1,k1,k2,k3,k4,k5⟩:=Z7o (K:=fun x=>Zue f0 l0 (w :: r) fun y=>K (x,y)) h hr hex
  obtain ⟨z2,l2,γ2,v2,ℓ2,e2,us,q1,q2,q3,q4,q5,q6,q7⟩:=Zak h0 hn0 (ex:=e1++ex) k1 k2 (by rw [List.append_assoc];exact k3) (hE.trans k4)
  refine ⟨(z1,z2),l2,γ2,v2,ℓ2,e1++e2,us,q1,q2,q3.perm ?_,k4.trans q4,⟨e1,e2,rfl,Zjr q4.v k5,q5⟩,q6,fun u hu=>?_⟩
  ·rw [List.append_assoc,List.append_assoc];exact Zkd
  ·obtain ⟨g1,⟨e,g2⟩,g3⟩:=q7 u hu
   obtain ⟨e',g4,_⟩:=k4.l u e (show u<_ by omega) g2
   refine ⟨g1,⟨e',g4⟩,?_⟩
   simp only [ZCc]
   split
   ·exact List.mem_cons_of_mem _ g3
   ·exact g3
 | .l p c :: w :: r,K,l,Post,γ,v,ℓ,ex,h,hr,hex,hE=>by
  simp only [Zue] at h
  split at h
  ·rename_i u hid
   obtain ⟨z1,l1,γ1,v1,ℓ1,e1,k1,k2,k3,k4,k5,k6,k7⟩:=ZLn (K:=fun x=>Zue f0 l0 (w :: r) fun y=>K (x,y)) h0 hn0 hid h hr hex hE
   obtain ⟨z2,l2,γ2,v2,ℓ2,e2,us,q1,q2,q3,q4,q5,q6,q7⟩:=Zak h0 hn0 (ex:=e1++ex) k1 k2 (by rw [List.append_assoc];exact k3) (hE.trans k4)
   refine ⟨(z1,z2),l2,γ2,v2,ℓ2,e1++e2,u :: us,q1,q2,q3.perm ?_,k4.trans q4,⟨e1,e2,u,us,rfl,rfl,Zvs q4.v k5,q5⟩,List.nodup_cons.2 ⟨fun hu=>?_,q6⟩,fun u' hu=>?_⟩
   ·rw [List.append_assoc,List.append_assoc];exact Zkd
   ·obtain ⟨_,⟨e,g2⟩,_⟩:=q7 u hu
    rw [k7] at g2;cases g2
   ·have hg:ZCc f0 l0 (.l p c :: w :: r)=u :: ZCc f0 l0 (w :: r):=by simp only [ZCc,hid]
    rw [hg]
    rcases List.mem_cons.1 hu with rfl | hu
    ·exact ⟨Zdk h0 hid,k6,List.mem_cons_self⟩
    ·obtain ⟨g1,⟨e,g2⟩,g3⟩:=q7 u' hu
     obtain ⟨e',g4,_⟩:=k4.l u' e (show u'<_ by omega) g2
     exact ⟨g1,⟨e',g4⟩,List.mem_cons_of_mem _ g3⟩
  ·exact h.elim
end
end Go.Eng
namespace Go.Eng
open Go.RowKit
theorem ZPp {v:Zb} {c:CT} {z:c.den} {g:Gh} {es:List Loc} {u n:Nat} {l2:Lo} {n2:Nat} (h:CRL v c z g es) (hu:u<n) (hi:ZEb c z u n=(l2,n2)) :
  n<n2∧(∀ e ∈ l2,(e.k=u∧Z7f (n≤·) c z e.x∨n≤e.k∧e.k<n2)∧n≤e.st∧e.st<n2∧e.x.ok (· < n2) (· < n2))∧(l2.map En.k).Nodup ∧
  ∃ γ0:Nat→Gh,γ0 u=g∧∀ (γ:Nat→Gh) (l:Lo),(∀ e ∈ l2,γ e.k=γ0 e.k∧lkE l e.k=some e)→∃ E,F2 (Zza v γ l) l2 E∧es.Perm E.flatten:=by
 cases c with
 | own ty t =>
  cases hi
  obtain ⟨ob,cap,d,rfl,h2,rfl⟩:=h;refine ⟨Nat.lt_succ_self n,fun e he=>?_,List.nodup_cons.2 ⟨by simp,List.nodup_nil⟩,fun _=>.own ob cap,rfl,fun γ l hl=>?_⟩
  ·rcases List.mem_singleton.1 he with rfl;exact ⟨.inl ⟨rfl,rfl⟩,Nat.le_refl _,Nat.lt_succ_self _,trivial⟩
  ·exact ⟨[_],⟨⟨ob,cap,d,(hl _ (List.mem_singleton.2 rfl)).1,h2,rfl⟩,trivial⟩,List.Perm.refl _⟩
 | mat ty ty2 t =>
  cases hi
  obtain ⟨ob,cap,rows,es2,rfl,h2,rfl⟩:=h;refine ⟨Nat.lt_succ_self n,fun e he=>?_,List.nodup_cons.2 ⟨by simp,List.nodup_nil⟩,fun _=>.mat ob cap rows,rfl,fun γ l hl=>?_⟩
  ·rcases List.mem_singleton.1 he with rfl;exact ⟨.inl ⟨rfl,n,Nat.le_refl _,rfl⟩,Nat.le_refl _,Nat.lt_succ_self _,Nat.lt_succ_self n⟩
  ·exact ⟨[_],⟨⟨ob,cap,rows,es2,(hl _ (List.mem_singleton.2 rfl)).1,h2,rfl⟩,trivial⟩,by simp⟩
 | box ty c =>
  have hi:((⟨u,n,.box ty (Zk c z (n+1)).1⟩ :: (Zk c z (n+1)).2.1:Lo),(Zk c z (n+1)).2.2)=(l2,n2):=hi
  cases hi
  obtain ⟨b,c1,e1,rfl,h2,h3,rfl⟩:=h;obtain ⟨k1,k2,k3,k4,k5,γ0,k6⟩:=ZZk c (m:=false) (n+1) (x:=(Zk c z (n+1)).1) (l2:=(Zk c z (n+1)).2.1) (n2:=(Zk c z (n+1)).2.2) h2 rfl;have hd:∀ e ∈ (Zk c z (n+1)).2.1,e.k≠u:=fun e he hk=>by have:=(k2 e he).1;omega
  refine ⟨by omega,fun e he=>?_,List.nodup_cons.2 ⟨fun hm=>?_,k3⟩,fun k=>if k=u then .box b else γ0 k,if_pos rfl,fun γ l hl=>?_⟩
  ·rcases List.mem_cons.1 he with rfl | he
   ·exact ⟨.inl ⟨rfl,_,rfl⟩,Nat.le_refl _,(show n<_ by omega),k4⟩
   ·obtain ⟨r1,r2,r3,r4,r5⟩:=k2 e he;exact ⟨.inr ⟨by omega,r2⟩,by omega,r4,r5⟩
  ·obtain ⟨e,he,hk⟩:=List.mem_map.1 hm;exact hd e he hk
  ·obtain ⟨hg,hlk⟩:=hl _ List.mem_cons_self;have hg:γ u = .box b:=by rw [show γ u=_ from hg];exact if_pos rfl
   obtain ⟨q1,E,q2,q3⟩:=k6 γ l fun e he=>by
    obtain ⟨r1,r2⟩:=hl e (List.mem_cons_of_mem _ he);exact ⟨r1.trans (if_neg (hd e he)),r2⟩
   exact ⟨[_] :: E,⟨⟨b,c1,hg,q1,h3,rfl⟩,q2⟩,by rw [List.flatten_cons];exact List.Perm.cons _ q3⟩
 | _=>exact h.elim
structure IV (a:Act) (v:Zb) (γE:Nat→Gh) (lE:Lo) (n0:Nat) (us:List Nat) (n1 m:Nat) (f':Fr) (l':Lo) (es:List Loc) (γ0:Nat→Gh):Prop where
 le:n1≤m
 l:∀ e ∈ l',(e.k ∈ us∨n1≤e.k∧e.k<m)∧n1≤e.st∧e.st<m∧e.x.ok (· < m) (· < m)
 nd:(l'.map En.k).Nodup
 f:∀ e ∈ f',e.x.ok (· < m)∧n1≤e.st∧e.st<m
 r:∀ (γ:Nat→Gh) (l:Lo),(∀ e ∈ l',γ e.k=γ0 e.k∧lkE l e.k=some e)→(∀ e ∈ f',RV v γ l e.x (a.tmps.getD e.k undef))∧(∃ E,F2 (Zza v γ l) l' E∧es.Perm E.flatten)∧∀ e ∈ l',e.k<n0→∃ e0,lkE lE e.k=some e0∧CE (· < n0) γE γ e.k e0.st e.st e0.x e.x
section
variable {a:Act} {v:Zb} {γE:Nat→Gh} {lE:Lo} {n0:Nat}
theorem IV.none {n1:Nat}:IV a v γE lE n0 [] n1 n1 [] [] [] fun _=>.box 0 :=
 ⟨Nat.le_refl _,fun e he=>(by cases he),List.nodup_nil,fun e he=>(by cases he),fun γ l _=>⟨fun e he=>(by cases he),⟨[],trivial,List.Perm.refl _⟩,fun e he=>(by cases he)⟩⟩
theorem IV.add {us1 us2:List Nat} {n1 m1 m:Nat} {f1 f2:Fr} {l1 l2:Lo} {es1 es2:List Loc} {γ1 γ2:Nat→Gh} (h:IV a v γE lE n0 us1 n1 m1 f1 l1 es1 γ1) (k:IV a v γE lE n0 us2 m1 m f2 l2 es2 γ2) (hd:∀ u ∈ us2,u ∉ us1) (hu:∀ u ∈ us1++us2,u<n1) :
  IV a v γE lE n0 (us1++us2) n1 m (f1++f2) (l1++l2) (es1++es2) fun k=>if k ∈ l1.map En.k then γ1 k else γ2 k:=by
 have hd':∀ e ∈ l2,e.k ∉ l1.map En.k:=fun e he hm=>by
  obtain ⟨e',he',hk⟩:=List.mem_map.1 hm;have h1:=(h.l e' he').1;have h2:=(k.l e he).1;have hle:=h.le;rw [hk] at h1;rcases h1 with h1 | h1 <;> rcases h2 with h2 | h2
  ·exact hd _ h2 h1
  ·have:=hu _ (List.mem_append_left _ h1);omega
  ·have:=hu _ (List.mem_append_right _ h2);omega
  ·omega
 have up:∀ j,j<m1→j<m:=fun j hj=>Nat.lt_of_lt_of_le hj k.le;refine ⟨Nat.le_trans h.le k.le,fun e he=>?_,Zyk h.nd k.nd hd',fun e he=>?_,fun γ l hl=>?_⟩
 ·rcases List.mem_append.1 he with he | he
  ·obtain ⟨r1,r2,r3,r4⟩:=h.l e he;refine ⟨?_,r2,up _ r3,LV.ok.mono up up r4⟩;rcases r1 with r1 | r1
   ·exact .inl (List.mem_append_left _ r1)
   ·exact .inr ⟨r1.1,up _ r1.2⟩
  ·obtain ⟨r1,r2,r3,r4⟩:=k.l e he;have:=h.le;refine ⟨?_,by omega,r3,r4⟩;rcases r1 with r1 | r1
   ·exact .inl (List.mem_append_right _ r1)
   ·exact .inr ⟨by omega,r1.2⟩
 ·rcases List.mem_append.1 he with he | he
  ·obtain ⟨r1,r2,r3⟩:=h.f e he;exact ⟨V.ok.mono up r1,r2,up _ r3⟩
  ·obtain ⟨r1,r2,r3⟩:=k.f e he;have:=h.le;exact ⟨r1,by omega,r3⟩
 ·obtain ⟨p1,⟨E1,p2,p3⟩,p4⟩:=h.r γ l (ZHk hl);obtain ⟨q1,⟨E2,q2,q3⟩,q4⟩:=k.r γ l (Z7j hd' hl);refine ⟨fun e he=>?_,⟨E1++E2,p2.append q2,by rw [List.flatten_append];exact p3.append q3⟩,fun e he=>?_⟩
  ·rcases List.mem_append.1 he with he | he
   ·exact p1 e he
   ·exact q1 e he
  ·rcases List.mem_append.1 he with he | he
   ·exact p4 e he
   ·exact q4 e he
theorem IV.s {t n1:Nat} {c:CT} {z:c.den} {es:List Loc} (h:SRel a v t c z es) (hn:n0≤n1):∃ γ0,IV a v γE lE n0 [] n1 (Zk c z (n1+1)).2.2 [⟨t,n1,(Zk c z (n1+1)).1⟩] (Zk c z (n1+1)).2.1 es γ0:=by
 obtain ⟨cs,h1,h2⟩:=h;obtain ⟨k1,k2,k3,k4,k5,γ0,k6⟩:=ZZk c (n1+1) (x:=(Zk c z (n1+1)).1) (l2:=(Zk c z (n1+1)).2.1) (n2:=(Zk c z (n1+1)).2.2) h2 rfl;refine ⟨γ0,by omega,fun e he=>?_,k3,fun e he=>?_,fun γ l hl=>⟨fun e he=>?_,(k6 γ l hl).2,fun e he hk=>?_⟩⟩
 ·obtain ⟨r1,r2,r3,r4,r5⟩:=k2 e he;exact ⟨.inr ⟨by omega,r2⟩,by omega,r4,r5⟩
 ·rcases List.mem_singleton.1 he with rfl;exact ⟨k4,Nat.le_refl _,(show n1<_ by omega)⟩
 ·rcases List.mem_singleton.1 he with rfl;have hq:=(k6 γ l hl).1;have:=ZDb hq (fun c e=>by rw [e] at hq;exact hq);show RV v γ l (Zk c z (n1+1)).1 (a.tmps.getD t undef);rw [h1,← ZMf k5];exact this
 ·have:=(k2 e he).1;omega
theorem IV.p {u n1:Nat} {p:Pl} {c:CT} {z:c.den} {es:List Loc} {f0:Fr} {l0:Lo} (h:LRel v γE lE n0 f0 l0 u p c z es) (hu:u<n1) (hn:n0≤n1):∃ γ0,IV a v γE lE n0 [u] n1 (ZEb c z u n1).2 [] (ZEb c z u n1).1 es γ0:=by
 obtain ⟨_,g,e0,h2,h3,h4⟩:=h;obtain ⟨k1,k2,k3,γ0,k4,k5⟩:=ZPp h3 hu (l2:=(ZEb c z u n1).1) (n2:=(ZEb c z u n1).2) rfl;refine ⟨γ0,by omega,fun e he=>?_,k3,fun e he=>(by cases he),fun γ l hl=>⟨fun e he=>(by cases he),k5 γ l hl,fun e he hk=>?_⟩⟩
 ·obtain ⟨r1,r2,r3,r4⟩:=k2 e he;refine ⟨?_,r2,r3,r4⟩;rcases r1 with r1 | r1
  ·exact .inl (List.mem_singleton.2 r1.1)
  ·exact .inr r1
 ·obtain ⟨r1,r2,_,_⟩:=k2 e he;rcases r1 with ⟨r1,r5⟩ | r1
  ·refine ⟨e0,by rw [r1];exact h2,?_⟩;rw [r1];have:Z7f (n0≤·) c z e.x:=by
    cases c <;> first | exact r5 | (obtain ⟨hv,q1,q2⟩:=r5;exact ⟨hv,Nat.le_trans hn q1,q2⟩) | exact r5.elim
   refine h4 γ e.st e.x ?_ (by omega) this;have:=(hl e he).1;rw [r1] at this;rw [this,k4]
  ·omega
theorem Zdl {f0:Fr} {l0:Lo}:∀ {vs:List Vr} {z:(ctL (vs.map Vr.ct)).den} {es:List Loc} {us:List Nat} {n1:Nat},VRel a v γE lE n0 f0 l0 vs z es us→us.Nodup→(∀ u ∈ us,u<n1)→n0≤n1 →
  ∃ γ0,IV a v γE lE n0 us n1 (Zib f0 l0 vs z n1).2.2 (Zib f0 l0 vs z n1).1 (Zib f0 l0 vs z n1).2.1 es γ0
 | [],z,es,us,n1,h,hn,hu,h0=>by
  obtain ⟨rfl,rfl⟩:=h
  exact ⟨_,IV.none⟩
 | [.s t c],z,es,us,n1,h,hn,hu,h0=>by
  obtain ⟨rfl,h⟩:=h
  exact IV.s h h0
 | [.l p c],z,es,us,n1,h,hn,hu,h0=>by
  obtain ⟨u,rfl,h⟩:=h
  have e:Zib f0 l0 [.l p c] z n1=([],(ZEb c z u n1).1,(ZEb c z u n1).2):=by simp only [Zib,h.1]
  rw [e]
  exact IV.p h (hu u (by simp)) h0
 | .s t c :: w :: r,z,es,us,n1,h,hn,hu,h0=>by
  obtain ⟨e1,e2,rfl,h1,h2⟩:=h
  obtain ⟨γ1,k1⟩:=IV.s (a:=a) (v:=v) (γE:=γE) (lE:=lE) h1 h0
  have hle:=k1.le
  obtain ⟨γ2,k2⟩:=Zdl (vs:=w :: r) (n1:=(Zk c z.1 (n1+1)).2.2) h2 hn (fun u h=>Nat.lt_of_lt_of_le (hu u h) hle) (Nat.le_trans h0 hle)
  exact ⟨_,k1.add k2 (fun u _ h=>by cases h) hu⟩
 | .l p c :: w :: r,z,es,us,n1,h,hn,hu,h0=>by
  obtain ⟨e1,e2,u,us',rfl,rfl,h1,h2⟩:=h
  obtain ⟨γ1,k1⟩:=IV.p (a:=a) (v:=v) (γE:=γE) (lE:=lE) h1 (hu u (by simp)) h0
  have hle:=k1.le
  obtain ⟨n3,n4⟩:=List.nodup_cons.1 hn
  obtain ⟨γ2,k2⟩:=Zdl (vs:=w :: r) (n1:=(ZEb c z.1 u n1).2) h2 n4 (fun u' h=>Nat.lt_of_lt_of_le (hu u' (by simp [h])) hle) (Nat.le_trans h0 hle)
  have e:Zib f0 l0 (.l p c :: w :: r) z n1=((Zib f0 l0 (w :: r) z.2 (ZEb c z.1 u n1).2).1,(ZEb c z.1 u n1).1++(Zib f0 l0 (w :: r) z.2 (ZEb c z.1 u n1).2).2.1,(Zib f0 l0 (w :: r) z.2 (ZEb c z.1 u n1).2).2.2):=by simp only [Zib,h1.1]
  rw [e]
  refine ⟨_,k1.add k2 (fun u' h hm=>?_) hu⟩
  rcases List.mem_singleton.1 hm with rfl
  exact n3 h
end
theorem F2.impm {α β:Type} {R R':α→β→Prop}:∀ {l:List α} {m:List β},(∀ a ∈ l,∀ b ∈ m,R a b→R' a b)→F2 R l m→F2 R' l m
 | [],[],_,_=>trivial
 | a :: l,b :: m,h,k=>⟨h a (by simp) b (by simp) k.1,F2.impm (fun x hx y hy=>h x (by simp [hx]) y (by simp [hy])) k.2⟩
 | [],_ :: _,_,k=>k.elim
 | _ :: _,[],_,k=>k.elim
theorem ZIn {R:En LV→List Loc→Prop}:∀ {s l:Lo} {E:List (List Loc)},(s.map En.k).Nodup→(∀ e ∈ s,lkE l e.k=some e)→(l.map En.k).Nodup→F2 R l E→∃ Es rest,F2 R s Es∧E.flatten.Perm (Es.flatten++rest)
 | [],l,E,_,_,_,_=>⟨[],E.flatten,trivial,List.Perm.refl _⟩
 | e :: s,l,E,hn,hs,hl,hE=>by
  simp only [List.map_cons,List.nodup_cons] at hn
  obtain ⟨es,E',h1,h2,h3⟩:=Zfg hE (hs e (by simp))
  obtain ⟨Es,rest,k1,k2⟩:=ZIn (s:=s) (l:=era l e.k) hn.2 (fun e2 he=>by
   rw [ZKb hl,if_neg (fun h=>hn.1 (by rw [h];exact List.mem_map.2 ⟨e2,he,rfl⟩))]
   exact hs e2 (by simp [he])) (Zqb hl).1 h2
  exact ⟨es :: Es,rest,⟨h1,k1⟩,h3.trans (by rw [List.flatten_cons,List.append_assoc];exact List.Perm.append_left _ k2)⟩
theorem ZUl {β:Type} {l l':List (En β)} {k:Nat}:lkE (l++l') k=(lkE l k).or (lkE l' k):=by
 induction l with
 | nil=>rfl
 | cons p r ih =>
  rw [List.cons_append,ZS,ZS];split
  ·rfl
  ·exact ih
theorem ZXm {n:Nat} {l:Lo}:∀ {s:Lo},Ztf n l s=true→∀ e ∈ s,∃ e',lkE l e.k=some e'∧e'.st<n
 | [],_,_,h=>by cases h
 | e :: s,h,e1,he1=>by
  simp only [Ztf] at h
  split at h
  ·rename_i e' he'
   split at h
   ·cases h
   ·rename_i hb
    rcases List.mem_cons.1 he1 with rfl | he1
    ·exact ⟨e',he',Nat.lt_of_not_le fun hle=>by rw [Nat.ble_eq_true_of_le hle] at hb;cases hb⟩
    ·exact ZXm h e1 he1
  ·cases h
theorem Z1o {n:Nat} {f:Fr}:∀ {s:List Nat},Zih n f s=true→∀ t ∈ s,∃ e',lkE f t=some e'∧e'.st<n
 | [],_,_,h=>by cases h
 | t :: s,h,t1,ht1=>by
  simp only [Zih] at h
  split at h
  ·rename_i e' he'
   split at h
   ·cases h
   ·rename_i hb
    rcases List.mem_cons.1 ht1 with rfl | ht1
    ·exact ⟨e',he',Nat.lt_of_not_le fun hle=>by rw [Nat.ble_eq_true_of_le hle] at hb;cases hb⟩
    ·exact Z1o h t1 ht1
  ·cases h
theorem Z9k {f:Fr}:∀ {ks:List Nat} {t:Nat} {e:En V},lkE (Zpc f ks) t=some e→lkE f t=some e∧t ∈ ks
 | [],_,_,h=>by cases h
 | k :: ks,t,e,h=>by
  simp only [Zpc] at h
  split at h
  ·rename_i e' he'
   rw [ZS] at h
   split at h
   ·rename_i hk
    cases h
    have:=(ZA he').2
    rw [this] at hk;subst hk
    exact ⟨he',by simp⟩
   ·have:=Z9k h;exact ⟨this.1,by simp [this.2]⟩
  ·have:=Z9k h;exact ⟨this.1,by simp [this.2]⟩
theorem ZTt {l:List Nat} {t:Nat}:Zwc l t=true↔t ∈ l:=by
 induction l with
 | nil=>simp [Zwc]
 | cons k r ih =>
  simp only [Zwc]
  cases hb:Nat.beq k t
  ·simp only [List.mem_cons];rw [ih];have:¬ t=k:=fun e=>by rw [e] at hb;simp at hb
   simp [this]
  ·have:=Nat.eq_of_beq_eq_true hb;simp [this]
theorem Zfl {b:Nat} {rs us:List Nat}:∀ {l:Lo},(Z4c b rs us l).Sublist l∧∀ e ∈ Z4c b rs us l,e.k ∉ us
 | []=>⟨List.Sublist.slnil,fun e h=>by cases h⟩
 | e :: r=>by
  obtain ⟨h1,h2⟩:=Zfl (b:=b) (rs:=rs) (us:=us) (l:=r)
  simp only [Z4c]
  split
  ·exact ⟨h1.cons e,h2⟩
  ·rename_i hm
   have hm:e.k ∉ us:=fun h=>by rw [ZTt.2 h] at hm;cases hm
   have both:(e :: Z4c b rs us r).Sublist (e :: r)∧∀ e' ∈ e :: Z4c b rs us r,e'.k ∉ us:=⟨h1.cons_cons e,fun e' he'=>by
    rcases List.mem_cons.1 he' with rfl | he'
    ·exact hm
    ·exact h2 e' he'⟩
   split
   ·exact both
   ·split
    ·exact both
    ·exact ⟨h1.cons e,h2⟩
end Go.Eng
namespace Go.Eng
open Go.RowKit
section
variable {N:Nat} {G:V→Value→Prop} {w0:Base} {v0:Zb} {a:Act} {w:World}
theorem Z7l {n0 n m:Nat} {f f0 fI:Fr} {l l0 l2 s lN:Lo} {γ γ2 γ0:Nat→Gh} {v v2:Zb} {ℓ ℓ2 es:List Loc} {us ks:List Nat}
  (h0:H0 G n0 f0 l0) (hn:n0≤n) (hr:RelX N G w0 v0 (· < n) (· < n) f l a w γ v ℓ) (hr2:RelX N G w0 v0 (· < n) (· < n+1) f l2 a w γ2 v2 ℓ2) (hst:St N w0 v0 [] (es++ℓ2) v2 a w) (hle:Le (· < n) v γ l v2 γ2 l2)
  (ho1:Old n f l f l2) (ho:Old n0 f0 l0 f l) (hs:s.Sublist l0) (hsu:∀ e ∈ s,e.k ∉ us) (hss:Ztf n0 l2 s=true) (hus:∀ u ∈ us,u<n0) (hI:IV a v2 γ l n0 us n0 m fI lN es γ0) (hks:Zih n0 f ks=true) :
  ∃ γN ℓN,(∀ e ∈ lN,γN e.k=γ0 e.k∧lkE (lN++s) e.k=some e)∧RelX N G w0 v0 (· < m) (· < m) (fI++Zpc f0 ks) (lN++s) a w γN v2 ℓN∧Old n0 f0 l0 (fI++Zpc f0 ks) (lN++s):=by
 have hsm:∀ e ∈ s,e ∈ l0:=fun e he=>hs.subset he;have hsn:(s.map En.k).Nodup:=(hs.map _).nodup h0.nd;have hs2:∀ e ∈ s,lkE l2 e.k=some e∧lkE l e.k=some e:=fun e he=>by
  obtain ⟨e',h1,h2⟩:=ZXm hss e he;have h3:=ho1.2 e.k e' h1 (Nat.lt_of_lt_of_le h2 hn);have h4:=ho.2 e.k e' h3 h2;rw [ZCg h0.nd (hsm e he)] at h4
  cases h4
  exact ⟨h1,h3⟩
 have hdis:∀ e ∈ s,e.k ∉ lN.map En.k:=fun e he hm=>by
  obtain ⟨e',he',hk⟩:=List.mem_map.1 hm;have h1:=(h0.l e (hsm e he)).1;rcases (hI.l e' he').1 with h2 | h2
  ·exact hsu e he (hk ▸ h2)
  ·omega
 have hnd:((lN++s).map En.k).Nodup:=Zyk hI.nd hsn hdis
 let γN:Nat→Gh:=fun k=>if k ∈ lN.map En.k then γ0 k else γ2 k
 have hγ:∀ e ∈ lN,γN e.k=γ0 e.k∧lkE (lN++s) e.k=some e:=fun e he =>
  ⟨if_pos (List.mem_map.2 ⟨e,he,rfl⟩),ZCg hnd (List.mem_append_left _ he)⟩
 have hγs:∀ e ∈ s,γN e.k=γ2 e.k:=fun e he=>if_neg (hdis e he);obtain ⟨r1,⟨EN,r2,r3⟩,r4⟩:=hI.r γN (lN++s) hγ;obtain ⟨E,hE,hpE⟩:=hr.lr;have leN:Le (· < n0) v γ l v2 γN (lN++s):=⟨hle.v,fun u e' hu he'=>by
  have hmem:=(ZA he').1;have hk:=(ZA he').2;rcases List.mem_append.1 hmem with hm | hm
  ·obtain ⟨e0,q1,q2⟩:=r4 e' hm (by rw [hk];exact hu);rw [hk] at q1 q2;exact ⟨e0,q1,q2⟩
  ·obtain ⟨q1,q2⟩:=hs2 e' hm;rw [hk] at q1 q2;obtain ⟨e,q3,q4⟩:=hle.l u e' (Nat.lt_of_lt_of_le hu hn) q1;refine ⟨e,q3,ZNo (fun k hk=>Nat.lt_of_lt_of_le hk hn) ?_ q4⟩;have:=hγs e' hm;rw [hk] at this;exact this⟩
 have up:∀ k,k<n0→k<m:=fun k hk=>Nat.lt_of_lt_of_le hk hI.le;obtain ⟨E2,hE2,hpE2⟩:=hr2.lr;obtain ⟨Es,rest,t1,t2⟩:=ZIn hsn (fun e he=>(hs2 e he).1) hr2.nd hE2;have hS:F2 (Zza v2 γN (lN++s)) s Es:=t1.impm fun e he es' hes hR=>by
  have hin:∀ x ∈ es',x ∈ ℓ2:=fun x hx=>hpE2.mem_iff.2 (t2.mem_iff.2 (List.mem_append_left _ (List.mem_flatten.2 ⟨es',hes,hx⟩)));have hg:=hγs e he;obtain ⟨q1,q2⟩:=hs2 e he;have hU:=h0.l e (hsm e he);obtain ⟨eE,q3,q4⟩:=hle.l e.k e (Nat.lt_of_lt_of_le hU.1 hn) q1;rw [q2] at q3;cases q3;obtain ⟨kk,st,L⟩:=e
  cases L with
  | box ty c =>
   obtain ⟨b,cs,g1,g2,g3,rfl⟩:=hR;obtain ⟨es0,hes0⟩:=ZXd hE (ZA q2).1;obtain ⟨jj,es1,k1,k2⟩:=hr.loc q2;obtain ⟨b0,cs0,d1,d2,d3,rfl⟩:=k1;have g1:γ2 kk = .box b:=g1;have d1:γ kk = .box b0:=d1;have q4:γ2 kk=γ kk:=q4;have hb:b=b0:=by rw [g1,d1] at q4;cases q4;rfl
   subst hb;obtain ⟨i,hi⟩:=k2 _ (List.mem_singleton.2 rfl);have m1:=(hr.st.loc _ (List.mem_of_getElem? hi)).1;have m2:=(hr2.st.loc _ (hin _ (List.mem_singleton.2 rfl))).1;have m1:w.heap[b]? = some (.cells cs0.toArray ty (0,0)):=m1;have m2:w.heap[b]? = some (.cells cs.toArray ty (0,0)):=m2;rw [m1] at m2;have hcs:cs0=cs:=by
    have:=Option.some.inj m2
    injection this with h1 _ _
    have:=congrArg Array.toList h1
    simpa using this
   subst hcs;exact ⟨b,cs0,by rw [show γN kk=γ2 kk from hg];exact g1,Z4a leN hU.2.2 d2,d3,rfl⟩
  | own ty t xs fz =>
   cases fz with
   | false=>obtain ⟨ob,cap,d,g1,g2⟩:=hR;exact ⟨ob,cap,d,by rw [show γN kk=γ2 kk from hg];exact g1,g2⟩
   | true=>obtain ⟨ob,cap,g1,g2⟩:=hR;exact ⟨ob,cap,by rw [show γN kk=γ2 kk from hg];exact g1,g2⟩
  | mat ty ty2 t mm hv=>obtain ⟨ob,cap,rows,es2,g1,g2⟩:=hR;exact ⟨ob,cap,rows,es2,by rw [show γN kk=γ2 kk from hg];exact g1,g2⟩
  | mid ty ty2 t mm hv s=>obtain ⟨ob,cap,rows,es2,hs,es3,g1,g2⟩:=hR;exact ⟨ob,cap,rows,es2,hs,es3,by rw [show γN kk=γ2 kk from hg];exact g1,g2⟩
 have hstN:St N w0 v0 [] (EN.flatten++Es.flatten) v2 a w:=by
  have h1:=hst.perm ((List.Perm.append r3 (hpE2.trans t2)));refine h1.drop ?_;rw [← List.append_assoc];exact List.sublist_append_left _ _
 have hkeep:∀ t e,lkE (Zpc f0 ks) t=some e→lkE f t=some e∧lkE f0 t=some e:=fun t e he=>by
  obtain ⟨q1,q2⟩:=Z9k he;obtain ⟨e',q3,q4⟩:=Z1o hks t q2;have:=ho.1 t e' q3 q4;rw [q1] at this;cases this;exact ⟨q3,q1⟩
 refine ⟨γN,_,hγ,⟨hstN,fun t e he=>?_,⟨EN++Es,r2.append hS,by rw [List.flatten_append]⟩,hnd,fun t e he=>?_,fun e he=>?_,fun x y hg=>?_⟩,fun t e he hst=>?_,fun u e he hst=>?_⟩
 ·rw [ZUl] at he
  cases hx:lkE fI t with
  | some e1 =>
   rw [hx] at he;cases he;obtain ⟨q1,q2⟩:=ZA hx;rw [← q2];exact r1 e q1
  | none =>
   rw [hx] at he;obtain ⟨q1,q2⟩:=hkeep t e he;exact Zmb leN (h0.f t e q2).1 (hr.fr t e q1)
 ·rw [ZUl] at he
  cases hx:lkE fI t with
  | some e1 =>
   rw [hx] at he;cases he;obtain ⟨q1,q2,q3⟩:=hI.f e (ZA hx).1;exact ⟨q1,q3⟩
  | none =>
   rw [hx] at he;obtain ⟨q1,q2⟩:=hkeep t e he;obtain ⟨q3,q4⟩:=h0.f t e q2;exact ⟨V.ok.mono up q3,up _ q4⟩
 ·rcases List.mem_append.1 he with he | he
  ·obtain ⟨q1,q2,q3,q4⟩:=hI.l e he;refine ⟨?_,q3,q4⟩;rcases q1 with q1 | q1
   ·exact up _ (hus _ q1)
   ·exact q1.2
  ·obtain ⟨q1,q2,q3⟩:=h0.l e (hsm e he);exact ⟨up _ q1,up _ q2,LV.ok.mono up up q3⟩
 ·exact ⟨Zmb leN (h0.g x y hg) (hr.gh x y hg).1,V.ok.mono up (h0.g x y hg)⟩
 ·rw [ZUl] at he
  cases hx:lkE fI t with
  | some e1 =>
   rw [hx] at he;cases he;have:=(hI.f e (ZA hx).1).2.1;omega
  | none =>
   rw [hx] at he;exact (hkeep t e he).2
 ·rcases List.mem_append.1 (ZA he).1 with hm | hm
  ·have:=(hI.l e hm).2.1;omega
  ·have:=ZCg h0.nd (hsm e hm);rw [(ZA he).2] at this;exact this
def bF (f0:Fr) (l0:Lo) (j:Js) (x:jT j) (n:Nat):Fr:=(Zib f0 l0 j.vs x n).1++Zpc f0 j.keep
def bL (b:Nat) (f0:Fr) (l0:Lo) (j:Js) (x:jT j) (n:Nat):Lo:=(Zib f0 l0 j.vs x n).2.1++Zbe b f0 l0 j j.vs
def bN (f0:Fr) (l0:Lo) (j:Js) (x:jT j) (n:Nat):Nat:=(Zib f0 l0 j.vs x n).2.2
theorem ZUk {α:Type} {b:Nat} {f0:Fr} {l0:Lo} {j:Js} {x:jT j} {n:Nat} {K:Fr→Lo→Nat→α}:build b f0 l0 j x n K=K (bF f0 l0 j x n) (bL b f0 l0 j x n) (bN f0 l0 j x n):=rfl
theorem Zqk {α:Type} {r:α} {b n0 n:Nat} {f0 f:Fr} {l0 l:Lo} {j:Js} {K:jT j→Option α} (h0:H0 G n0 f0 l0) (hn:n0≤n) (hr:Rel N G w0 v0 (· < n) f l a w) (ho:Old n0 f0 l0 f l) (h:Zke b n0 n f0 l0 f l j K=some r) :
  ∃ x,K x=some r∧n0≤bN f0 l0 j x n0∧Rel N G w0 v0 (· < bN f0 l0 j x n0) (bF f0 l0 j x n0) (bL b f0 l0 j x n0) a w∧Old n0 f0 l0 (bF f0 l0 j x n0) (bL b f0 l0 j x n0):=by
 obtain ⟨γ,v,ℓ,hr⟩:=hr;have h1:=ZKg (Nat.le_refl n) Old.refl hr.nd (ZIh h);have hr':RelX N G w0 v0 (· < n) (· < n+1) f l a w γ v ℓ:=hr.mono (fun _ h=>h) fun k h=>(show k<n+1 by have:k<n:=h;omega);obtain ⟨E,hE,_⟩:=hr.lr;obtain ⟨x,l2,γ2,v2,ℓ2,es,us,k1,k2,k3,k4,k5,k6,k7⟩:=Zak (ex:=[]) h0 hn h1 hr' hr.st (Le.refl hE (Zb.le_refl _));obtain ⟨q1,q2⟩:=k1;split at q1
 ·rename_i hS hL;obtain ⟨γ0,hI⟩:=Zdl k5 k6 (fun u hu=>(k7 u hu).1) (Nat.le_refl n0);have hsub:=Zfl (b:=b) (rs:=ZSf l0 50 (idsF (Zpc f0 j.keep)) []) (us:=gone f0 l0 j.drop j.vs) (l:=l0);obtain ⟨γN,ℓN,_,p2,p3⟩:=Z7l h0 hn hr k2 k3 k4 q2 ho hsub.1 (fun e he hu=>hsub.2 e he (List.mem_append_right _ (k7 _ hu).2.2)) hL (fun u hu=>(k7 u hu).1) hI hS;exact ⟨x,q1,hI.le,⟨γN,v2,ℓN,p2⟩,p3⟩
 ·cases q1
def Ress (P:Program) (tmps:Array Value) (w:World) (rs:List ResultVar) (vals:List Value):Prop:=F2 (fun r y=>Res P tmps w r y) rs vals
def RetR (P:Program) (rs:List ResultVar) (N:Nat) (G:V→Value→Prop) (w0:Base) (v0:Zb) (c:V) (l:Lo) (n:Nat) (a:Act) (w:World):Prop :=
 ∃ γ v ℓ vals,RelX N G w0 v0 (· < n) (· < n) [] l a w γ v ℓ∧RR v γ l true c vals∧c.ok (· < n)∧Ress P a.tmps w rs vals
def ZVb (m:Nat) (l l':Lo):Prop:=∀ u e,lkE l' u=some e→e.st<m→lkE l u=some e
theorem Old.l {m:Nat} {f f':Fr} {l l':Lo} (h:Old m f l f' l'):ZVb m l l':=h.2
theorem ZVb.trans {m m':Nat} {l l' l'':Lo} (h:ZVb m l l') (k:ZVb m' l' l'') (hm:m≤m'):ZVb m l l'':=fun u e he hs=>h u e (k u e he (by omega)) hs
theorem ZVb.mono {m m':Nat} {l l':Lo} (h:ZVb m' l l') (hm:m≤m'):ZVb m l l':=fun u e he hs=>h u e he (by omega)
theorem Z0s {α:Type} {r:α} {P:Program} {rs:List ResultVar} {b n0 n:Nat} {f0:Fr} {l0 l:Lo} {c:V} {j:Js} {K:jT j→Option α} (h0:H0 G n0 f0 l0) (hn:n0≤n) (hr:RetR P rs N G w0 v0 c l n a w) (ho:ZVb n0 l0 l) (h:ZTh b n0 n f0 l0 c l j K=some r) :
  ∃ x,K x=some r∧∀ V' l' m,Zk (ctL (j.vs.map Vr.ct)) x n0=(V',l',m)→n0≤m∧RetR P rs N G w0 v0 V' (l'++Zbe b f0 l0 j []) m a w∧ZVb n0 l0 (l'++Zbe b f0 l0 j []):=by
 obtain ⟨γ,v,ℓ,vals,hr,hc,hk,hres⟩:=hr;have h1:=ZKg (Nat.le_refl n) Old.refl hr.nd (ZIh h);have hr':RelX N G w0 v0 (· < n) (· < n+1) [] l a w γ v ℓ:=hr.mono (fun _ h=>h) fun k h=>(show k<n+1 by have:k<n:=h;omega);obtain ⟨x,l2,γ2,v2,ℓ2,es,k1,k2,k3,k4,k5,k6⟩:=ZLd (U:=(· < n)) (X:=(· < n+1)) (ex:=[]) (Nat.lt_irrefl n) (Nat.lt_succ_self n) FU h1 hr' hr.st hk hc;obtain ⟨q1,q2⟩:=k1;split at q1
 ·rename_i hL;refine ⟨x,q1,fun V' l' m hi=>?_⟩;obtain ⟨i1,i2,i3,i4,i5,γ0,i6⟩:=ZZk _ n0 k5 hi;have hI:IV a v2 γ l n0 [] n0 m [] l' es γ0:=⟨i1,fun e he=>by
   obtain ⟨r1,r2,r3,r4,r5⟩:=i2 e he;exact ⟨.inr ⟨r1,r2⟩,r3,r4,r5⟩,i3,fun e he=>(by cases he),fun γ l hl=>⟨fun e he=>(by cases he),(i6 γ l hl).2,fun e he hlt=>by have:=(i2 e he).1;omega⟩⟩
  have hsub:=Zfl (b:=b) (rs:=ZSf l0 50 (idsF (Zpc f0 j.keep)) []) (us:=gone f0 l0 j.drop []) (l:=l0);have h0':H0 G n0 [] l0:=⟨fun t e he=>(by cases he),h0.l,h0.nd,h0.g⟩;obtain ⟨γN,ℓN,p1,p2,p3⟩:=Z7l (ks:=[]) h0' hn hr k2 k3 k4 q2 ⟨fun t e he=>(by cases he),ho⟩ hsub.1 (fun e he hu=>by cases hu) hL (fun u hu=>by cases hu) hI rfl;exact ⟨i1,⟨γN,v2,ℓN,vals,p2,(i6 γN _ p1).1,i4,hres⟩,p3.l⟩
 ·cases q1
end
end Go.Eng
namespace Go.Eng
open Go.RowKit
section
variable {N:Nat} {G:V→Value→Prop} {w0:Base} {v0:Zb}
structure KOK (P:Program) (rs:List ResultVar) (N:Nat) (G:V→Value→Prop) (w0:Base) (v0:Zb) {α:Type} (n:Nat) (f:Fr) (l:Lo) (K:Kt α) (r:α) (Q:Exit→Act→World→Prop):Prop where
 norm:ZRd N G w0 v0 n f l (fun f l n=>K.norm f l n=some r) (Q .normal)
 exit:∀ i,ZRd N G w0 v0 n f l (fun f l n=>K.exit i f l n=some r) (Q (.exit i))
 ret:∀ c l' n' a' w',K.ret c l' n'=some r→n≤n'→ZVb n l l'→RetR P rs N G w0 v0 c l' n' a' w'→Q .ret a' w'
theorem KOK.step {P:Program} {rs:List ResultVar} {α:Type} {n n1:Nat} {f f1:Fr} {l l1:Lo} {K:Kt α} {r:α} {Q:Exit→Act→World→Prop} (h:KOK P rs N G w0 v0 n f l K r Q) (hn:n≤n1) (ho:Old n f l f1 l1):KOK P rs N G w0 v0 n1 f1 l1 K r Q :=
 ⟨h.norm.step hn ho,fun i=>(h.exit i).step hn ho,fun c l' n' a' w' hk hn' ho' hr=>h.ret c l' n' a' w' hk (by omega) (ho.l.trans ho' hn) hr⟩
def kdE:Kd→Exit
 | .norm=>.normal
 | .exit i=>.exit i
 | .ret=>.ret
theorem ZHj {a b:Kd} (h:kdEq a b=true):a=b:=by
 cases a <;> cases b <;> first | rfl | (cases h;done) | (rw [Nat.eq_of_beq_eq_true h])
theorem Z6n {P:Program} {rs:List ResultVar} {α β:Type} {b n0 n:Nat} {f0 f:Fr} {l0 l:Lo} {o:Kd×Js} {K:jT o.2→Option α} {x':α} {a:Act} {w:World} {Q:Exit→Act→World→Prop} (h0:H0 G n0 f0 l0) (hn:n0≤n) (hk:o.1 ≠ .ret) (hr:Rel N G w0 v0 (· < n) f l a w) (ho:Old n0 f0 l0 f l) (h:Zke b n0 n f0 l0 f l o.2 K=some x') :
  ∃ y,K y=some x'∧∀ {Kout:Kt β} {r:β},ZCf b f0 l0 n0 Kout o y=some r→KOK P rs N G w0 v0 n0 f0 l0 Kout r Q→Q (kdE o.1) a w:=by
 obtain ⟨y,h1,h2,h3,h4⟩:=Zqk h0 hn hr ho h;refine ⟨y,h1,fun {Kout r} hx hK=>?_⟩;unfold ZCf at hx;split at hx
 ·rename_i e;rw [ZUk] at hx;rw [e];exact hK.norm _ _ _ a w hx h2 h4 h3
 ·rename_i i e;rw [ZUk] at hx;rw [e];exact hK.exit i _ _ _ a w hx h2 h4 h3
 ·rename_i e;exact absurd e hk
theorem Zwn {P:Program} {rs:List ResultVar} {α β:Type} {b n0 n:Nat} {f0:Fr} {l0 l:Lo} {c:V} {o:Kd×Js} {K:jT o.2→Option α} {x':α} {a:Act} {w:World} {Q:Exit→Act→World→Prop} (h0:H0 G n0 f0 l0) (hn:n0≤n) (hk:o.1 = .ret) (hr:RetR P rs N G w0 v0 c l n a w) (ho:ZVb n0 l0 l) (h:ZTh b n0 n f0 l0 c l o.2 K=some x') :
  ∃ y,K y=some x'∧∀ {Kout:Kt β} {r:β},ZCf b f0 l0 n0 Kout o y=some r→KOK P rs N G w0 v0 n0 f0 l0 Kout r Q→Q .ret a w:=by
 obtain ⟨y,h1,h2⟩:=Z0s h0 hn hr ho h;refine ⟨y,h1,fun {Kout r} hx hK=>?_⟩;unfold ZCf at hx;split at hx
 ·rename_i e;rw [hk] at e;cases e
 ·rename_i e;rw [hk] at e;cases e
 ·have hx:Kout.ret (Zk (ctL (o.2.vs.map Vr.ct)) y n0).1 ((Zk (ctL (o.2.vs.map Vr.ct)) y n0).2.1++Zbe b f0 l0 o.2 []) (Zk (ctL (o.2.vs.map Vr.ct)) y n0).2.2=some r:=hx;obtain ⟨k1,k2,k3⟩:=h2 _ _ _ rfl;exact hK.ret _ _ _ a w hx k1 k3 k2
theorem ZRj {P:Program} {rs:List ResultVar} {β:Type} {b n0 n:Nat} {f0 f:Fr} {l0 l:Lo} {a:Act} {w:World} {Q:Exit→Act→World→Prop} {kd:Kd} {c:V} (h0:H0 G n0 f0 l0) (hn:n0≤n) (hk:kd ≠ .ret) (hr:Rel N G w0 v0 (· < n) f l a w) (ho:Old n0 f0 l0 f l) :
  ∀ {os:List (Kd×Js)} {α:Type} {K:sumT os→Option α} {x':α},Zdc b n0 n f0 l0 kd c f l os K=some x' →
  ∃ y,K y=some x'∧∀ {Kout:Kt β} {r:β},arms b f0 l0 n0 Kout os y=some r→KOK P rs N G w0 v0 n0 f0 l0 Kout r Q→Q (kdE kd) a w
 | [],α,K,x',h=>by cases h
 | [o],α,K,x',h=>by
  simp only [Zdc] at h
  split at h
  ·rename_i he
   have he:=ZHj he
   have h:Zke b n0 n f0 l0 f l o.2 K=some x':=by cases kd <;> first | exact h | exact absurd rfl hk
   obtain ⟨y,h1,h2⟩:=Z6n (P:=P) (rs:=rs) (β:=β) (Q:=Q) h0 hn (by rw [he];exact hk) hr ho h
   exact ⟨y,h1,fun {Kout r} hx hK=>he ▸ h2 hx hK⟩
  ·cases h
 | o :: p :: os,α,K,x',h=>by
  simp only [Zdc] at h
  split at h
  ·rename_i he
   have he:=ZHj he
   have h:Zke b n0 n f0 l0 f l o.2 (fun x=>K (.inl x))=some x':=by cases kd <;> first | exact h | exact absurd rfl hk
   obtain ⟨y,h1,h2⟩:=Z6n (P:=P) (rs:=rs) (β:=β) (Q:=Q) h0 hn (by rw [he];exact hk) hr ho h
   exact ⟨.inl y,h1,fun {Kout r} hx hK=>he ▸ h2 hx hK⟩
  ·obtain ⟨y,h1,h2⟩:=ZRj h0 hn hk hr ho (os:=p :: os) h
   exact ⟨.inr y,h1,fun {Kout r} hx hK=>h2 hx hK⟩
theorem Zwl {P:Program} {rs:List ResultVar} {β:Type} {b n0 n:Nat} {f0 f:Fr} {l0 l:Lo} {a:Act} {w:World} {Q:Exit→Act→World→Prop} {c:V} (h0:H0 G n0 f0 l0) (hn:n0≤n) (hr:RetR P rs N G w0 v0 c l n a w) (ho:ZVb n0 l0 l) :
  ∀ {os:List (Kd×Js)} {α:Type} {K:sumT os→Option α} {x':α},Zdc b n0 n f0 l0 .ret c f l os K=some x' →
  ∃ y,K y=some x'∧∀ {Kout:Kt β} {r:β},arms b f0 l0 n0 Kout os y=some r→KOK P rs N G w0 v0 n0 f0 l0 Kout r Q→Q .ret a w
 | [],α,K,x',h=>by cases h
 | [o],α,K,x',h=>by
  simp only [Zdc] at h
  split at h
  ·rename_i he
   exact Zwn h0 hn (ZHj he) hr ho h
  ·cases h
 | o :: p :: os,α,K,x',h=>by
  simp only [Zdc] at h
  split at h
  ·rename_i he
   obtain ⟨y,h1,h2⟩:=Zwn (P:=P) (rs:=rs) (β:=β) (Q:=Q) h0 hn (ZHj he) hr ho h
   exact ⟨.inl y,h1,fun {Kout r} hx hK=>h2 hx hK⟩
  ·obtain ⟨y,h1,h2⟩:=Zwl h0 hn hr ho (os:=p :: os) h
   exact ⟨.inr y,h1,fun {Kout r} hx hK=>h2 hx hK⟩
theorem ZZi {P:Program} {rs:List ResultVar} {c:Code} {α:Type} {b n:Nat} {ann:Ann} {f:Fr} {l:Lo} {K:Kt α} {g:(β:Type)→Go β} {r:α} {a:Act} {w:World} {Q:Exit→Act→World→Prop} (h:Zqf b ann f l n K g=some r) (hr:Rel N G w0 v0 (· < n) f l a w) (hK:KOK P rs N G w0 v0 n f l K r Q)
  (ih:∀ {β:Type} {a':Ann} {K':Kt β} {r':β},g β a' f l n K'=some r'→KOK P rs N G w0 v0 n f l K' r' Q→c.wp P Q a w):c.wp P Q a w:=by
 unfold Zqf at h;split at h
 ·rename_i j a';obtain ⟨x,hx,harms⟩:=ZF h;have h0:=hr.h0;refine ih hx ⟨fun f' l' n' a' w' hp hn' ho' hr'=>?_,fun i f' l' n' a' w' hp hn' ho' hr'=>?_,fun c l' n' a' w' hp hn' ho' hr'=>?_⟩
  ·obtain ⟨y,h1,h2⟩:=ZRj (P:=P) (rs:=rs) (β:=α) (Q:=Q) (kd:=.norm) h0 hn' (fun e=>by cases e) hr' ho' hp
   cases h1
   exact h2 harms hK
  ·obtain ⟨y,h1,h2⟩:=ZRj (P:=P) (rs:=rs) (β:=α) (Q:=Q) (kd:=.exit i) h0 hn' (fun e=>by cases e) hr' ho' hp
   cases h1
   exact h2 harms hK
  ·obtain ⟨y,h1,h2⟩:=Zwl (P:=P) (rs:=rs) (β:=α) (Q:=Q) h0 hn' hr' ho' hp
   cases h1
   exact h2 harms hK
 ·exact ih h hK
theorem Zro {P:Program} {rs:List ResultVar} {c:Code} {α:Type} {a':Ann} {g:(β:Type)→Go β} {r:α}:∀ (k:Nat) {n:Nat} {f:Fr} {l:Lo} {K:Kt α} {a:Act} {w:World} {Q:Exit→Act→World→Prop},rounds g a' k f l n K=some r→Rel N G w0 v0 (· < n) f l a w→KOK P rs N G w0 v0 n f l K r Q →
  (∀ {β:Type} {a':Ann} {f':Fr} {l':Lo} {n':Nat} {K':Kt β} {r':β} {a:Act} {w:World} {Q':Exit→Act→World→Prop},g β a' f' l' n' K'=some r'→Rel N G w0 v0 (· < n') f' l' a w→KOK P rs N G w0 v0 n' f' l' K' r' Q'→c.wp P Q' a w)→Code.rounds P c Q k a w
 | 0,n,f,l,K,a,w,Q,h,_,_,_=>by cases h
 | k+1,n,f,l,K,a,w,Q,h,hr,hK,ih =>
  ZYs (ih (Q':=Exit.then (Code.rounds P c Q k) Q) h hr ⟨fun f' l' n' a' w' hp hn' ho' hr'=>Zro k hp hr' (hK.step hn' ho') ih,fun i=>hK.exit i,hK.ret⟩)
theorem ZYp {P:Program} {rs:List ResultVar} {c:Code} {α:Type} {b n:Nat} {ann:Ann} {f:Fr} {l:Lo} {K:Kt α} {g:(β:Type)→Go β} {r:α} {a:Act} {w:World} {Q:Exit→Act→World→Prop} (h:loopI b ann f l n K g=some r) (hr:Rel N G w0 v0 (· < n) f l a w) (hK:KOK P rs N G w0 v0 n f l K r Q)
  (ih:∀ {β:Type} {a':Ann} {f':Fr} {l':Lo} {n':Nat} {K':Kt β} {r':β} {a:Act} {w:World} {Q':Exit→Act→World→Prop},g β a' f' l' n' K'=some r'→Rel N G w0 v0 (· < n') f' l' a w→KOK P rs N G w0 v0 n' f' l' K' r' Q'→c.wp P Q' a w):(Code.loop c).wp P Q a w:=by
 unfold loopI at h;split at h
 ·rename_i j ann';have h0:=hr.h0;obtain ⟨z,h1,h2,h3,h4⟩:=Zqk h0 (Nat.le_refl n) hr Old.refl h;obtain ⟨y,hl,harms⟩:=ZF h1;refine Zfb hl (fun s a w=>n≤bN f l j.head s n∧Rel N G w0 v0 (· < bN f l j.head s n) (bF f l j.head s n) (bL b f l j.head s n) a w∧Old n f l (bF f l j.head s n) (bL b f l j.head s n)) ⟨h2,h3,h4⟩ ?_;rintro s a w st ⟨i1,i2,i3⟩ hst N' hN hR;rw [ZUk] at hst;refine ih hst i2 ⟨fun f' l' n' a' w' hp hn' ho' hr'=>?_,fun i f' l' n' a' w' hp hn' ho' hr'=>?_,fun c l' n' a' w' hp hn' ho' hr'=>?_⟩
  ·obtain ⟨x,k1,k2,k3,k4⟩:=Zqk h0 (Nat.le_trans i1 hn') hr' (i3.trans ho' i1) hp
   cases k1
   exact hN x rfl a' w' ⟨k2,k3,k4⟩
  ·obtain ⟨y',k1,k2⟩:=ZRj (P:=P) (rs:=rs) (β:=α) (Q:=Q) (kd:=.exit i) h0 (Nat.le_trans i1 hn') (fun e=>by cases e) hr' (i3.trans ho' i1) hp
   cases k1
   have:=hR y' rfl;subst this;exact k2 harms hK
  ·obtain ⟨y',k1,k2⟩:=Zwl (P:=P) (rs:=rs) (β:=α) (Q:=Q) h0 (Nat.le_trans i1 hn') hr' (i3.l.trans ho' i1) hp
   cases k1
   have:=hR y' rfl;subst this;exact k2 harms hK
 ·rename_i k ann';exact wp_loop_rounds k (Zro k h hr hK ih)
 ·cases h
theorem Zwp {P:Program} {f:Fr} {l:Lo} {a:Act} {w:World} {γ:Nat→Gh} {v:Zb} {ℓ:List Loc} {n:Nat} (hr:RelX N G w0 v0 (· < n) (· < n) f l a w γ v ℓ) {q:ResultVar} {z:V} (h:Zgl f l P q=some z) (hz:∀ c,z ≠ .tup c):∃ cs,RR v γ l false z cs∧z.ok (· < n)∧Res P a.tmps w q (z.val cs):=by
 unfold Zgl at h;split at h
 ·rename_i t;split at h
  ·rename_i e he
   cases h
   obtain ⟨cs,h1,h2⟩:=Znb (hr.fr t e he) hz;obtain ⟨σ,hσ,hev⟩:=hr.st.ev1 (.tmp t);exact ⟨cs,h1,(hr.uf t e he).1,by rw [← h2];exact ZR hσ hev⟩
  ·cases h
 ·rename_i x t;split at h
  ·rename_i k st u he;split at h
   ·rename_i k2 st2 ty c hu;split at h
    ·rename_i q hq;have hrv:=hr.fr x _ he;obtain ⟨y,hy0,_,hy⟩:=Zba hrv (fun _ e=>by cases e) rfl rfl
     cases hy0
     obtain ⟨b',g4,g5⟩:=hy _ hu;obtain ⟨hkk,es,hes,hmem⟩:=hr.loc hu;obtain ⟨b,cs,g1,g2,g3,rfl⟩:=hes;have hkk:k2=u:=hkk;subst hkk;have g1:γ k2 = .box b:=g1;rw [g1] at g4;cases g4;have hc:c.ok (· < n):=(hr.ul _ (ZA hu).1).2.2;obtain ⟨k1,k2',k3,k4,k5⟩:=ZNc FU h g2 hc;obtain ⟨i,hi⟩:=hmem _ (List.mem_singleton.2 rfl);have hlen:((cs.drop 0).take q.1).length=q.1:=by simp at k5 ⊢;omega
     have hw:=hr.st.box hi 0 ((cs.drop 0).take q.1) (by rw [hlen]);obtain ⟨σ,hσ,hev⟩:=hr.st.ev1 (.tmp x);have g5:a.eval (.tmp x)=_:=g5;rw [g5] at hev;have ht:=Z6e hq;refine ⟨_,k1,k2',?_⟩
     cases hag:z.isAgg with
     | true =>
      rw [← k4,hag] at ht;unfold V.val;rw [hag];exact res_agg hσ hev ht hlen hw
     | false =>
      rw [← k4,hag] at ht;have h1:=Zfd FU h hag;have e3:=ZRf k1 h1 hag;rw [← k3,h1] at ht;rw [e3] at hw;exact res_one hσ hev ht hw
    ·cases h
   ·cases h
  ·cases h
theorem Zbn {P:Program} {f:Fr} {l:Lo} {a:Act} {w:World} {γ:Nat→Gh} {v:Zb} {ℓ:List Loc} {n:Nat} (hr:RelX N G w0 v0 (· < n) (· < n) f l a w γ v ℓ):∀ {rs:List ResultVar} {c:V},ZGi f l P rs=some c→∃ vals,RR v γ l true c vals∧c.ok (· < n)∧Ress P a.tmps w rs vals
 | [],c,h=>by cases h;exact ⟨[],rfl,trivial,trivial⟩
 | q :: rs,c,h=>by
  simp only [ZGi] at h
  split at h
  ·cases h
  ·rename_i z c1 hnt h1 h2
   cases h
   obtain ⟨cs,k1,k2,k3⟩:=Zwp hr h1 (fun c e=>hnt c (by rw [e]))
   obtain ⟨vals,q1,q2,q3⟩:=Zbn hr h2
   exact ⟨_,⟨cs,vals,rfl,k1,q1⟩,⟨k2,q2⟩,k3,q3⟩
  ·cases h
theorem ZOt {id i:Nat} {Q:Exit→Act→World→Prop} {a:Act} {w:World} (h:(Nat.beq i id=true→Q .normal a w)∧(Nat.beq i id=false→Q (.exit i) a w)):Exit.inBlock id Q (.exit i) a w:=by
 cases hb:Nat.beq i id
 ·have hne:¬ i=id:=fun e=>by rw [e] at hb;simp at hb
  simp only [Exit.inBlock,if_neg hne];exact h.2 hb
 ·simp only [Exit.inBlock,if_pos (Nat.eq_of_beq_eq_true hb)];exact h.1 hb
theorem Z2l {C:Cf} (hC:CfOK C) {cf:CallF} (hcf:ZFf C cf) {rs:List ResultVar} {b:Nat}:∀ (c:Code) {α:Type} {ann:Ann} {f:Fr} {l:Lo} {n:Nat} {K:Kt α} {r:α} {Q:Exit→Act→World→Prop} {a:Act} {w:World},
  ZTb C cf rs b N c α ann f l n K=some r→Rel N G w0 v0 (· < n) f l a w→KOK C.P rs N G w0 v0 n f l K r Q→c.wp C.P Q a w:=by
 intro c
 induction c with
 | skip=>intro α ann f l n K r Q a w h hr hK;exact wp_skip (hK.norm f l n a w h (Nat.le_refl n) Old.refl hr)
 | label i=>intro α ann f l n K r Q a w h hr hK;exact wp_label (hK.norm f l n a w h (Nat.le_refl n) Old.refl hr)
 | region id ops draw =>
  intro α ann f l n K r Q a w hh hr hK;refine ZZi hh hr hK fun {β a' K' r'} h hK2=>?_;clear hh;split at h
  ·rename_i hds;exact wp_region_list (ZJi hC hcf (ZSi hds) h (fun o ho=>ho) hr hK2.norm)
  ·rename_i hds;split at h
   ·rename_i hm hb;split at h
    ·exact draw_ok hC hm hb (ZSi hds) h hr hK2.norm
    ·rename_i o ho;exact ZSq hC hcf ho hm hb (ZSi hds) h hr hK2.norm
   ·cases h
  ·cases h
 | seq x y ix iy =>
  intro α ann f l n K r Q a w h hr hK;refine ZZi h hr hK fun {β a' K' r'} h hK=>?_;refine wp_seq (ix h hr ⟨fun f' l' n' a' w' hp hn' ho' hr'=>iy hp hr' (hK.step hn' ho'),fun i=>hK.exit i,hK.ret⟩)
 | cond c x y ix iy =>
  intro α ann f l n K r Q a w h hr hK;refine ZZi h hr hK fun {β a' K' r'} h hK=>?_
  cases c with
  | tmp t =>
   simp only at h;split at h
   ·rename_i k s q he;have hk:k=t:=(ZA he).2;subst hk;obtain ⟨γ,v,ℓ,hr⟩:=hr;have hev:a.eval (.tmp k) = .bool q:=ZXe (hr.fr k _ he);have hdup:=RelX.dup hr he;have hold:=Old.dup (m:=n) (l:=l) he
    cases q with
    | true=>exact wp_cond_true hev (ix h ⟨γ,v,ℓ,hdup⟩ (hK.step (Nat.le_refl n) hold))
    | false=>exact wp_cond_false hev (iy h ⟨γ,v,ℓ,hdup⟩ (hK.step (Nat.le_refl n) hold))
   ·cases h
  | const v =>
   cases v with
   | bool b=>cases b with
    | true=>exact wp_cond_true rfl (ix h hr hK)
    | false=>exact wp_cond_false rfl (iy h hr hK)
   | _=>cases h
  | _=>cases h
 | block id x ix =>
  intro α ann f l n K r Q a w h hr hK;refine ZZi h hr hK fun {β a' K' r'} h hK=>?_;refine wp_block (ix h hr ⟨hK.norm,fun i f' l' n' a' w' hp hn' ho' hr'=>ZOt ⟨fun e=>?_,fun e=>?_⟩,hK.ret⟩)
  ·simp only [e] at hp;exact hK.norm f' l' n' a' w' hp hn' ho' hr'
  ·simp only [e] at hp;exact hK.exit i f' l' n' a' w' hp hn' ho' hr'
 | loop x ix =>
  intro α ann f l n K r Q a w h hr hK;exact ZYp h hr hK fun h hr hK=>ix h hr hK
 | scope x ix =>
  intro α ann f l n K r Q a w h hr hK;exact wp_scope_straight (ix h hr ⟨hK.norm,hK.exit,hK.ret⟩)
 | exit i=>intro α ann f l n K r Q a w h hr hK;exact wp_exit (hK.exit i f l n a w h (Nat.le_refl n) Old.refl hr)
 | ret =>
  intro α ann f l n K r Q a w h hr hK;simp only [ZTb] at h;split at h
  ·rename_i c hc;obtain ⟨γ,v,ℓ,hr⟩:=hr;obtain ⟨vals,k1,k2,k3⟩:=Zbn hr hc;exact wp_ret (hK.ret c l n a w h (Nat.le_refl n) (fun u e he _=>he) ⟨γ,v,ℓ,vals,⟨hr.st,fun t e he=>(by cases he),hr.lr,hr.nd,fun t e he=>(by cases he),hr.ul,hr.gh⟩,k1,k2,k3⟩)
  ·cases h
 | _=>intro α ann f l n K r Q a w h hr hK;cases h
end
end Go.Eng
namespace Go.Eng
open Go.RowKit
def oneR:List Value→Value
 | [x]=>x
 | vs=>.tuple vs.toArray
theorem Zpo {P:Program} {tmps:Array Value} {w:World}:∀ {rs:List ResultVar} {vals:List Value},Ress P tmps w rs vals→(rs.mapM (ZTj tmps)).run P w = .ok vals w
 | [],[],_=>by simp
 | q :: rs,y :: vals,h=>by
  have h1:=ZAj h.1
  have h2:=Zpo (rs:=rs) (vals:=vals) h.2
  simp [List.mapM_cons,h1,h2]
 | [],_ :: _,h=>h.elim
 | _ :: _,[],h=>h.elim
theorem Z4j {P:Program} {fn:Func} {tmps:Array Value} {w:World} {vals:List Value} (h:Ress P tmps w fn.results.toList vals):(results fn tmps).run P w = .ok (oneR vals) w:=by
 have h1:=Zpo h;rw [Z5k];rw [Array.mapM_eq_mapM_toList]
 match vals with
 | []=>simp [h1,oneR]
 | [x]=>simp [h1,oneR]
 | x :: y :: r=>simp [h1,oneR]
theorem oneV_ok {v:Zb} {γ:Nat→Gh} {l:Lo} {U:Nat→Prop} {c:V} {vals:List Value} (h:RR v γ l true c vals) (hk:c.ok U):RV v γ l (ZBe c) (oneR vals)∧(ZBe c).ok U:=by
 cases c with
 | nl=>rw [show vals=[] from h];exact ⟨⟨[],rfl,rfl⟩,trivial⟩
 | cons a b =>
  obtain ⟨cs,xs,rfl,h1,h2⟩:=h
  cases b with
  | nl =>
   rw [show xs=[] from h2];exact ⟨ZDb h1 (fun c e=>by subst e;exact h1),hk.1⟩
  | cons a2 b2 =>
   obtain ⟨cs2,xs2,rfl,h3,h4⟩:=h2;exact ⟨⟨_,⟨cs,_,rfl,h1,cs2,xs2,rfl,h3,h4⟩,rfl⟩,hk⟩
  | _=>exact h2.elim
 | _=>exact h.elim
theorem Zri {v:Zb} {γ:Nat→Gh} {l:Lo} {U:Nat→Prop} {n:Nat}:∀ {c:V} {k t:Nat} {e:En V} {vals:List Value},RR v γ l true c vals→c.ok U→lkE (ZRe n k c) t=some e→∃ y,k≤t∧vals[t-k]? = some y∧RV v γ l e.x y∧e.x.ok U∧e.st=n:=by
 intro c
 induction c with
 | cons a b ia ib =>
  intro k t e vals h hk he;obtain ⟨cs,xs,rfl,h1,h2⟩:=h;simp only [ZRe] at he;rw [ZS] at he;split at he
  ·rename_i hkt
   cases he
   have hkt:k=t:=hkt;subst hkt;exact ⟨a.val cs,Nat.le_refl _,by simp,ZDb h1 (fun c e=>by subst e;exact h1),hk.1,rfl⟩
  ·rename_i hkt;have hkt:¬ k=t:=hkt;obtain ⟨y,q1,q2,q3⟩:=ib h2 hk.2 he;refine ⟨y,by omega,?_,q3⟩;have:t-k=(t-(k+1))+1:=by omega
   rw [this];simpa using q2
 | _=>intro k t e vals h hk he;cases he
theorem lenV_ok {v:Zb} {γ:Nat→Gh} {l:Lo}:∀ {c:V} {vals:List Value},RR v γ l true c vals→vals.length=lenV c:=by
 intro c
 induction c with
 | nl=>intro vals h;rw [show vals=[] from h];rfl
 | cons a b ia ib=>intro vals h;obtain ⟨cs,xs,rfl,h1,h2⟩:=h;simp [ib h2,lenV]
 | _=>intro vals h;exact h.elim
theorem Zfp:∀ {l:List Value} {k t:Nat} {y:Value},l[t]? = some y→look (ZPb k l) (k+t)=some y
 | [],_,_,_,h=>by simp at h
 | x :: l,k,0,y,h=>by
  simp at h;subst h
  exact Zde rfl
 | x :: l,k,t+1,y,h=>by
  have h1:=Zfp (l:=l) (k:=k+1) (t:=t) (y:=y) (by simpa using h)
  rw [show ZPb k (x :: l)=(k,x) :: ZPb (k+1) l from rfl,Z3f (by omega),show k+(t+1)=k+1+t by omega]
  exact h1
def Z3d (C:Cf) (inl:Inl):Prop:=∀ g p,ZJa inl g=some p→C.P.funcs[g]? = some p.1∧Zca C.P g
theorem ZUp {N N':Nat} {G:V→Value→Prop} {w0:Base} {v0:Zb} {a:Act} {w:World} {γ:Nat→Gh} {v:Zb} {ℓ:List Loc} {ags:V} {l:Lo} {n:Nat} {vals:List Value} (hr:RelX N G w0 v0 (· < n) (· < n) [] l a w γ v ℓ) (has:RR v γ l true ags vals) (hk:ags.ok (· < n)) (hN:vals.length≤N') :
  RelX N' G w0 v0 (· < n+1) (· < n+1) (ZRe n 0 ags) l { tmps:=vals.toArray++Array.replicate (N'-vals.toArray.size) undef,defers:=[] } w γ v ℓ:=by
 have hm:=hr.mono (U':=(· < n+1)) (X':=(· < n+1)) (fun k h=>(show k<n+1 by have:k<n:=h;omega)) fun k h=>(show k<n+1 by have:k<n:=h;omega);refine ⟨⟨by simp;omega,rfl,fun t x h=>(by cases h),hr.st.ext,hr.st.vst,hr.st.loc,hr.st.nd⟩,fun t e he=>?_,hm.lr,hm.nd,fun t e he=>?_,hm.ul,hm.gh⟩
 ·obtain ⟨y,h1,h2,h3,h4,h5⟩:=Zri has hk he;have hlt:t<vals.length:=(List.getElem?_eq_some_iff.1 h2).1;have h3':vals[t]=y:=(List.getElem?_eq_some_iff.1 h2).2;have:((vals.toArray++Array.replicate (N'-vals.toArray.size) undef).getD t undef)=y:=by
   simp [Array.getElem?_append,hlt,h3']
  rw [this];exact h3
 ·obtain ⟨y,h1,h2,h3,h4,h5⟩:=Zri has hk he;exact ⟨V.ok.mono (fun k h=>(show k<n+1 by have:k<n:=h;omega)) h4,by show e.st<n+1;omega⟩
theorem ZIq {C:Cf} (hC:CfOK C) {inl:Inl} (hinl:Z3d C inl) (d:Nat):ZFf C (ZMj C inl d):=by
 induction d with
 | zero=>intro α g ags l n K r h;cases h
 | succ d ih =>
  intro α g ags l n K r h N G w0 v0 a w γ v ℓ vals hr has hk;simp only [ZMj] at h;split at h
  ·rename_i fn ann hg;obtain ⟨hf,hen⟩:=hinl g _ hg;split at h
   ·rename_i c hc hb;have hlen:=lenV_ok has;have hb:=Nat.le_of_ble_eq_true hb;have hx:=ZUp (N':=fn.ntmps) hr has hk (by rw [hlen];exact hb);refine ⟨hen,calls_of_wp hf hc ?_⟩;refine Z2l hC ih c h ⟨γ,v,ℓ,hx⟩ ⟨fun f' l' n' a' w' hp hn' ho' hr'=>?_,fun i f' l' n' a' w' hp hn' ho' hr'=>(by cases hp),fun c l' n' a' w' hp hn' ho' hr'=>?_⟩
    ·unfold endN at hp;split at hp
     ·rename_i hres;obtain ⟨γ',v',ℓ',hr'⟩:=hr';refine ⟨hr'.st.dfr,_,Z4j (vals:=[]) (by rw [hres];exact trivial),_,.nl,l',n',γ',v',ℓ',rfl,hp,by omega,fun f=>⟨fun _ _ h _=>h,ho'.l.mono (by omega)⟩,⟨⟨hr.st.size,hr.st.dfr,fun t x h=>(by cases h),hr'.st.ext,hr'.st.vst,hr'.st.loc,hr'.st.nd⟩,fun t e he=>(by cases he),hr'.lr,hr'.nd,fun t e he=>(by cases he),hr'.ul,hr'.gh⟩,?_⟩;exact ⟨⟨[],rfl,rfl⟩,trivial⟩
     ·cases hp
    ·obtain ⟨γ',v',ℓ',vals',hr',hc',hk',hres⟩:=hr';exact ⟨hr'.st.dfr,_,Z4j hres,_,c,l',n',γ',v',ℓ',rfl,hp,by omega,fun f=>⟨fun _ _ h _=>h,ho'.mono (by omega)⟩,⟨⟨hr.st.size,hr.st.dfr,fun t x h=>(by cases h),hr'.st.ext,hr'.st.vst,hr'.st.loc,hr'.st.nd⟩,fun t e he=>(by cases he),hr'.lr,hr'.nd,fun t e he=>(by cases he),hr'.ul,hr'.gh⟩,oneV_ok hc' hk'⟩
   ·cases h
  ·cases h
theorem ZFm {v:Zb} {γ:Nat→Gh} {l:Lo} {U:Nat→Prop}:∀ {ts:List T} {vals:List Value} {x:Zua ts},Z4b v ts vals x→RR v γ l true (ZYg ts x) vals∧(ZYg ts x).ok U∧vals.length=ts.length
 | [],_,_,h=>⟨h,trivial,by rw [show _=[] from h];rfl⟩
 | [t],_,x,⟨cs,h1,h2⟩=>⟨⟨cs,[],by rw [h1];exact congrArg (fun z=>[z]) (Zwf (t:=t) (x:=x) (cs:=cs)).symm,h2,rfl⟩,⟨trivial,trivial⟩,by rw [h1];rfl⟩
 | t :: u :: r,_,x,⟨cs,vs,h1,h2,h3⟩=>by
  obtain ⟨k1,k2,k3⟩:=ZFm (γ:=γ) (l:=l) (U:=U) h3
  exact ⟨⟨cs,vs,by rw [h1];exact congrArg (· :: vs) (Zwf (t:=t) (x:=x.1) (cs:=cs)).symm,h2,k1⟩,⟨trivial,k2⟩,by rw [h1];simp [k3]⟩
theorem resR_of {v:Zb}:∀ {ts:List T} {vals:List Value} {z:Zua ts},Z4b v ts vals z→resR v ts (oneR vals) z
 | [],_,_,h=>by rw [show _=[] from h];exact ⟨[],rfl,rfl⟩
 | [t],_,x,⟨cs,h1,h2⟩=>by rw [h1];exact ⟨cs,rfl,h2⟩
 | t :: u :: r,vals,x,h=>by
  obtain ⟨cs,vs,h1,h2,h3⟩:=h
  have hl:1≤vs.length:=by
   cases r with
   | nil=>obtain ⟨cs2,e,_⟩:=h3;rw [e];simp
   | cons u2 r2=>obtain ⟨cs2,vs2,e,_⟩:=h3;rw [e];simp
  have e:oneR vals = .tuple vals.toArray:=by
   subst h1
   cases vs with
   | nil=>simp at hl
   | cons y ys=>rfl
  rw [e];exact ⟨vals,rfl,cs,vs,h1,h2,h3⟩
theorem ZVk {C:Cf} (hC:CfOK C) {inl:Inl} (hinl:Z3d C inl) {f:FuncId} {fn:Func} {ann:Ann} {ats rts:List T} {x:Zua ats} {z:Zua rts} (hf:C.P.funcs[f]? = some fn) (hl:Nat.ble ats.length fn.ntmps=true) (h:Zy C inl fn ann ats rts x=some z)
  {w:World} {v:Zb} {vals:List Value} (hv:VIn v w) (ha:Z4b v ats vals x):Ret C.P f vals.toArray w v fun y v'=>resR v' rts y z:=by
 unfold Zy at h;split at h
 ·rename_i c hc;obtain ⟨h1,h2,h3⟩:=ZFm (γ:=fun _=>.box 0) (l:=[]) (U:=(· < 0)) ha;have hK:vals.length≤fn.ntmps:=by rw [h3];exact Nat.le_of_ble_eq_true hl
  refine Zrb hv hf hc rfl hK fun a hS=>?_;have hr:RelX fn.ntmps (fun _ _=>False) w v (· < 1) (· < 1) (ZRe 0 0 (ZYg ats x)) [] a w (fun _=>.box 0) v []:=by
   refine ⟨⟨hS.size,hS.dfr,fun t x h=>(by cases h),hS.ext,hS.vst,hS.loc,hS.nd⟩,fun t e he=>?_,⟨[],trivial,List.Perm.refl _⟩,List.nodup_nil,fun t e he=>?_,fun e he=>(by cases he),fun x y h=>h.elim⟩
   ·obtain ⟨y,q1,q2,q3,q4,q5⟩:=Zri h1 h2 he;have:=hS.fr t y ?_
    ·rw [this];exact q3
    ·have q2:vals[t-0]? = some y:=q2;have:=Zfp (k:=0) (t:=t) (y:=y) (by simpa using q2)
     rwa [Nat.zero_add] at this
   ·obtain ⟨y,q1,q2,q3,q4,q5⟩:=Zri h1 h2 he;exact ⟨V.ok.mono (fun k h=>absurd h (Nat.not_lt_zero k)) q4,by show e.st<1;omega⟩
  refine Z2l hC (ZIq hC hinl 20) c h ⟨_,_,_,hr⟩ ⟨fun f' l' n' a' w' hp hn' ho' hr'=>(by cases hp),fun i f' l' n' a' w' hp hn' ho' hr'=>(by cases hp),fun c l' n' a' w' hp hn' ho' hr'=>?_⟩;obtain ⟨γ',v',ℓ',vals',hr',hc',hk',hres⟩:=hr';have hr2:RelX fn.ntmps (fun _ _=>False) w v (· < n') (· < n'+1) [] l' a' w' γ' v' ℓ':=hr'.mono (fun _ h=>h) fun k h=>(show k<n'+1 by have:k<n':=h;omega);obtain ⟨y,l2,γ2,v2,ℓ2,k1,k2,k3,k4⟩:=Zii (U:=(· < n')) (X:=(· < n'+1)) (Nat.lt_irrefl n') (Nat.lt_succ_self n') (ZIh hp) hr2 hk';have k1:some y=some z:=k1
  cases k1
  exact ⟨k2.st.dfr,_,Z4j hres,_,v2,rfl,k2.st.ext.ext,k2.st.vst.ext,resR_of (k4 _ hc')⟩
 ·cases h
def CL (P:Program):List (FuncId×Con)→Prop
 | []=>True
 | p :: r=>Zw P p.1 p.2∧CL P r
def OL (P:Program):List (FuncId×ConO)→Prop
 | []=>True
 | p :: r=>ZCh P p.1 p.2∧OL P r
def IL (P:Program):List (FuncId×ConI)→Prop
 | []=>True
 | p :: r=>ZEi P p.1 p.2∧IL P r
def ML (P:Program):List ((TypeId×String)×FuncId)→Prop
 | []=>True
 | p :: r=>(∀ y w,(method (P.types.size+Made.depth) p.1.1 y p.1.2).run P w = .ok (p.2,y) w)∧ML P r
def NL (P:Program):Inl→Prop
 | []=>True
 | p :: r=>(P.funcs[p.1]? = some p.2.1∧Zca P p.1)∧NL P r
theorem CL_ok {P:Program}:∀ {l:List (FuncId×Con)},CL P l→∀ f c,ZJa l f=some c→Zw P f c
 | [],_,_,_,h=>by cases h
 | p :: r,hl,f,c,h=>by
  simp only [ZJa] at h
  split at h
  ·rename_i hb;cases h;rw [← Nat.eq_of_beq_eq_true hb];exact hl.1
  ·exact CL_ok hl.2 f c h
theorem OL_ok {P:Program}:∀ {l:List (FuncId×ConO)},OL P l→∀ f c,ZJa l f=some c→ZCh P f c
 | [],_,_,_,h=>by cases h
 | p :: r,hl,f,c,h=>by
  simp only [ZJa] at h
  split at h
  ·rename_i hb;cases h;rw [← Nat.eq_of_beq_eq_true hb];exact hl.1
  ·exact OL_ok hl.2 f c h
theorem IL_ok {P:Program}:∀ {l:List (FuncId×ConI)},IL P l→∀ f c,ZJa l f=some c→ZEi P f c
 | [],_,_,_,h=>by cases h
 | p :: r,hl,f,c,h=>by
  simp only [ZJa] at h
  split at h
  ·rename_i hb;cases h;rw [← Nat.eq_of_beq_eq_true hb];exact hl.1
  ·exact IL_ok hl.2 f c h
theorem ML_ok {P:Program}:∀ {l:List ((TypeId×String)×FuncId)},ML P l→∀ t s f,lkM l t s=some f→∀ y w,(method (P.types.size+Made.depth) t y s).run P w = .ok (f,y) w
 | [],_,_,_,_,h=>by cases h
 | p :: r,hl,t,s,f,h=>by
  simp only [lkM] at h
  split at h
  ·rename_i hb hs
   cases h
   rw [← Nat.eq_of_beq_eq_true hb,← eq_of_beq hs];exact hl.1
  ·exact ML_ok hl.2 t s f h
theorem CfOK.of {C:Cf} (hc:CL C.P C.cons) (ho:OL C.P C.owns) (hi:IL C.P C.ins) (hm:ML C.P C.meths):CfOK C:=⟨CL_ok hc,OL_ok ho,IL_ok hi,ML_ok hm⟩
theorem Z3d.of {C:Cf}:∀ {l:Inl},NL C.P l→Z3d C l
 | [],_,_,_,h=>by cases h
 | p :: r,hl,g,q,h=>by
  simp only [ZJa] at h
  split at h
  ·rename_i hb;cases h;rw [← Nat.eq_of_beq_eq_true hb];exact hl.1
  ·exact Z3d.of (l:=r) hl.2 g q h
theorem ZD {C:Cf} (hc:CL C.P C.cons) (ho:OL C.P C.owns) (hi:IL C.P C.ins) (hm:ML C.P C.meths) {inl:Inl} (hn:NL C.P inl) {f:FuncId} {fn:Func} {ann:Ann} {con:Con} (hf:C.P.funcs[f]? = some fn) (hen:Zca C.P f) (hl:Nat.ble con.args.length fn.ntmps=true)
  (h:∀ v vals x z,Z4b v con.args vals x→con.F x=some z→Zy C inl fn ann con.args con.res x=some z):Zw C.P f con :=
 fun _ v vals x z hv ha hz=>.inl ⟨hen,ZVk (CfOK.of hc ho hi hm) (Z3d.of hn) hf hl (h v vals x z ha hz) hv ha⟩
theorem con_m {C:Cf} (hc:CL C.P C.cons) (ho:OL C.P C.owns) (hi:IL C.P C.ins) (hm:ML C.P C.meths) {inl:Inl} (hn:NL C.P inl) {f:FuncId} {fn:Func} {ann:Ann} {ats rts:List T} {con:Con} (gA:Zua con.args→Zua ats) (gR:Zua con.res→Zua rts) (hA:∀ v vals x,Z4b v con.args vals x→Z4b v ats vals (gA x)) (hR:∀ v y z,resR v rts y (gR z)→resR v con.res y z)
  (hf:C.P.funcs[f]? = some fn) (hen:Zca C.P f) (hl:Nat.ble ats.length fn.ntmps=true) (h:∀ v vals x z,Z4b v con.args vals x→con.F x=some z→Zy C inl fn ann ats rts (gA x)=some (gR z)):Zw C.P f con :=
 fun _ v vals x z hv ha hz=>.inl ⟨hen,(ZVk (CfOK.of hc ho hi hm) (Z3d.of hn) hf hl (h v vals x z ha hz) hv (hA v vals x ha)).mono fun y v' _ hy=>hR v' y z hy⟩
end Go.Eng
set_option maxRecDepth 100000
set_option maxHeartbeats 4000000
namespace Go.Eng
open Go.Proofs Go.RowKit
noncomputable def ZYd:FuncId×Con:=(46,⟨[.slice (.int .u64)],[.leaf 0],fun p=>ZCa p⟩)
theorem cut_i (a:(List Int)):Zy ⟨Tryz.prog,[],[],[],[],[],[]⟩ [] Tryz.f46 (.two .no (.two (.cut ⟨⟨[],[],[]⟩,[(.norm,⟨[],[],[.s 0 (.dat (.slice (.int .u64)))]⟩)]⟩ (.two (.cut ⟨⟨[],[],[.s 0 (.dat (.slice (.int .u64)))]⟩,[(.exit 0,⟨[],[],[.s 0 (.dat (.slice (.int .u64)))]⟩)]⟩ (.two (.two (.two (.cut ⟨⟨[],[],[]⟩,[(.norm,⟨[0],[],[.s 14 (.dat .bool)]⟩)]⟩ .no) .no) .no) .no)) .no)) .no)) [.slice (.int .u64)] [.slice (.int .u64)] (a)=Ztg a:=by kernel_rfl
theorem cut_k:Zw Tryz.prog ZYd.1 ZYd.2:=con_m (C:=⟨Tryz.prog,[],[],[],[],[],[]⟩) trivial trivial trivial trivial (inl:=[]) trivial (ann:=.two .no (.two (.cut ⟨⟨[],[],[]⟩,[(.norm,⟨[],[],[.s 0 (.dat (.slice (.int .u64)))]⟩)]⟩ (.two (.cut ⟨⟨[],[],[.s 0 (.dat (.slice (.int .u64)))]⟩,[(.exit 0,⟨[],[],[.s 0 (.dat (.slice (.int .u64)))]⟩)]⟩ (.two (.two (.two (.cut ⟨⟨[],[],[]⟩,[(.norm,⟨[0],[],[.s 14 (.dat .bool)]⟩)]⟩ .no) .no) .no) .no)) .no)) .no)) (ats:=[.slice (.int .u64)]) (rts:=[.slice (.int .u64)]) (fun x=>(x)) (fun z=>(Zd 18446744073709551616 z)) (fun _ _ _ h=>h) (fun _ _ _ h=>h) Tryz.func46 (fun _ _=>by kernel_rfl) rfl fun v vals x z ha hz=>by obtain ⟨c0,e0,p0⟩:=ha;exact (cut_i x).trans (by cases hz;exact (ZUm (Zog p0).1 (Zog p0).2))
end Go.Eng
set_option maxRecDepth 100000
set_option maxHeartbeats 4000000
namespace Go.Eng
open Go.Proofs Go.RowKit
noncomputable def Zye:FuncId×Con:=(37,⟨[.int .u64],[.leaf 0],fun p=>Z1b p⟩)
theorem word_i (n:Int):Zy ⟨Tryz.prog,[(32,0)],[ZYd],[],[],[],[]⟩ [] Tryz.f37 .no [.int .u64] [.leaf 0] (n)=ZPg n:=by kernel_rfl
theorem Zrl:Zw Tryz.prog Zye.1 Zye.2:=ZD (C:=⟨Tryz.prog,[(32,0)],[ZYd],[],[],[],[]⟩) ⟨cut_k,trivial⟩ trivial trivial trivial (inl:=[]) trivial (ann:=.no) Tryz.func37 (fun _ _=>by kernel_rfl) rfl fun v vals x z ha hz=>(word_i x).trans (Zln hz)
end Go.Eng
set_option maxRecDepth 100000
set_option maxHeartbeats 4000000
namespace Go.Eng
open Go.Proofs Go.RowKit
noncomputable def of_q:FuncId×Con:=(21,⟨[.int .i64],[.leaf 2],fun p=>ofF p⟩)
theorem of_i (n:Int):Zy ⟨Tryz.prog,[(32,0),(34,2),(36,3)],[Zye],[],[],[],[]⟩ [] Tryz.f21 .no [.int .i64] [.leaf 2] (n)=of_m n:=by kernel_rfl
theorem of_k:Zw Tryz.prog of_q.1 of_q.2:=ZD (C:=⟨Tryz.prog,[(32,0),(34,2),(36,3)],[Zye],[],[],[],[]⟩) ⟨Zrl,trivial⟩ trivial trivial trivial (inl:=[]) trivial (ann:=.no) Tryz.func21 (fun _ _=>by kernel_rfl) rfl fun v vals x z ha hz=>by obtain ⟨c0,e0,p0⟩:=ha;exact (of_i x).trans (ofF_eq p0.2 hz)
end Go.Eng
set_option maxRecDepth 100000
set_option maxHeartbeats 4000000
namespace Go.Eng
open Go.Proofs Go.RowKit
noncomputable def Zse:FuncId×Con:=(7,⟨[.int .i64],[.leaf 3],fun p=>ZG p⟩)
theorem qint_i (n:Int):Zy ⟨Tryz.prog,[(32,0),(34,2),(36,3)],[of_q],[],[],[],[]⟩ [] Tryz.f7 .no [.int .i64] [.leaf 3] (n)=ZQk n:=by kernel_rfl
theorem ZRk:Zw Tryz.prog Zse.1 Zse.2:=ZD (C:=⟨Tryz.prog,[(32,0),(34,2),(36,3)],[of_q],[],[],[],[]⟩) ⟨of_k,trivial⟩ trivial trivial trivial (inl:=[]) trivial (ann:=.no) Tryz.func7 (fun _ _=>by kernel_rfl) rfl fun v vals x z ha hz=>(qint_i x).trans (Zmp hz)
end Go.Eng
set_option maxRecDepth 100000
set_option maxHeartbeats 4000000
namespace Go.Eng
open Go.Proofs Go.RowKit
noncomputable def Z2c:FuncId×Con:=(28,⟨[.int .i64],[.leaf 3],fun p=>ZXa p⟩)
theorem Zpr (n:Int):Zy ⟨Tryz.prog,[(32,0),(34,2),(36,3)],[Zse],[],[],[],[]⟩ [] Tryz.f28 .no [.int .i64] [.leaf 3] (n)=ZXa n:=by kernel_rfl
theorem ZKi:Zw Tryz.prog Z2c.1 Z2c.2:=ZD (C:=⟨Tryz.prog,[(32,0),(34,2),(36,3)],[Zse],[],[],[],[]⟩) ⟨ZRk,trivial⟩ trivial trivial trivial (inl:=[]) trivial (ann:=.no) Tryz.func28 (fun _ _=>by kernel_rfl) rfl fun v vals x z ha hz=>(Zpr x).trans (hz)
end Go.Eng
set_option maxRecDepth 100000
set_option maxHeartbeats 4000000
namespace Go.Eng
open Go.Proofs Go.RowKit
noncomputable def Zyj:FuncId×Con:=(35,⟨[.int .i64,.int .i64],[.leaf 3],fun p=>Zfj p.1 p.2⟩)
theorem tsame_i (i:Int) (k:Int):Zy ⟨Tryz.prog,[(32,0),(34,2),(36,3)],[Z2c],[],[],[],[]⟩ [] Tryz.f35 .no [.int .i64,.int .i64] [.leaf 3] (i,k)=Zfj i k:=by kernel_rfl
theorem tsame_k:Zw Tryz.prog Zyj.1 Zyj.2:=ZD (C:=⟨Tryz.prog,[(32,0),(34,2),(36,3)],[Z2c],[],[],[],[]⟩) ⟨ZKi,trivial⟩ trivial trivial trivial (inl:=[]) trivial (ann:=.no) Tryz.func35 (fun _ _=>by kernel_rfl) rfl fun v vals x z ha hz=>(tsame_i x.1 x.2).trans (hz)
end Go.Eng
set_option maxRecDepth 100000
set_option maxHeartbeats 4000000
namespace Go.Eng
open Go.Proofs Go.RowKit
noncomputable def ZCe:FuncId×Con:=(16,⟨[.leaf 0],[.leaf 0],fun p=>Zrc p⟩)
theorem under_i (d:Nat):Zy ⟨Tryz.prog,[(32,0),(34,2),(36,3)],[Zye],[],[],[],[]⟩ [] Tryz.f16 .no [.leaf 0] [.leaf 0] (d)=Zlk d:=by kernel_rfl
theorem Zjk:Zw Tryz.prog ZCe.1 ZCe.2:=ZD (C:=⟨Tryz.prog,[(32,0),(34,2),(36,3)],[Zye],[],[],[],[]⟩) ⟨Zrl,trivial⟩ trivial trivial trivial (inl:=[]) trivial (ann:=.no) Tryz.func16 (fun _ _=>by kernel_rfl) rfl fun v vals x z ha hz=>(under_i x).trans (Zer hz)
end Go.Eng
namespace Go.Eng
open Go.RowKit
theorem Zl {α:Type _} {a b:α} (h:some a=some b):a=b:=Option.some.inj h
theorem ZJ (b:Bool):b=true∨b=false:=(Bool.eq_false_or_eq_true b)
theorem leT {a b c:Zb} (h:a.le b) (k:b.le c):a.le c:=Zb.le_trans h k
theorem leR (v:Zb):v.le v:=Zb.le_refl v
theorem bO {α β:Type _} {x:Option α} {f:α→Option β} {z:β} {G:Prop} (h:bnd x f=some z) (k:∀ y,x=some y→f y=some z→G):G:=by obtain ⟨y,e,h⟩:=ZF h;exact k y e h
theorem Zp {P:Program} {Q:Exit→Act→World→Prop} {a:Act} {w:World} {id:Nat} {l:List Oper} (h:wpList P l.toArray Q l a w):(Code.region id l.toArray false).wp P Q a w:=wp_region_lit h
theorem Zi {P:Program} {Q:Exit→Act→World→Prop} {a:Act} {w:World} {x y:Code} (h:∀ K:Act→World→Prop,(∀ a w,y.wp P Q a w→K a w)→x.wp P (Exit.then K Q) a w):(Code.seq x y).wp P Q a w:=wp_seq_k h
theorem Z8 {α:Type} {A:Rep α} {v v':Zb} {cs:List Value} {x:α} (hv:v.le v') (h:A.rel v cs x):A.rel v' cs x:=A.mono hv h
theorem Rflat {α:Type} (A:Rep α) {v:Zb} {cs:List Value} {x:α} (h:A.rel v cs x):cs.all plain=true:=A.flat h
theorem Atm {v v':Zb} {b off:Nat} {cs:List Value} (h:v.le v') (k:At v b off cs):At v' b off cs:=At.mono h k
end Go.Eng
namespace Go.Eng
open Go.Proofs Go.RowKit
theorem Zgp:ZDg Tryz.prog 133 20 1:=⟨5,fun _=>by kernel_rfl,fun _=>by kernel_rfl⟩
theorem Zor:ZNg Tryz.prog 3 119 .i64 .u64:=fun _ _=>by kernel_rfl
theorem k_cv5_3:ZNg Tryz.prog 5 3 .u8 .i64:=fun _ _=>by kernel_rfl
theorem ZAm:ZNg Tryz.prog 80 5 .u64 .u8:=fun _ _=>by kernel_rfl
theorem Z2n:Elem Tryz.prog 103 9 1 16 (Value.string (Zs [])):=⟨Tryz.underlying103,by kernel_rfl,rfl,by decide⟩
theorem ZEd:Elem Tryz.prog 32 80 1 8 (Value.int IntKind.u64 0):=⟨Tryz.underlying32,by kernel_rfl,rfl,by decide⟩
theorem Zap:Zca Tryz.prog 30:=fun _ _=>by kernel_rfl
theorem k_en37:Zca Tryz.prog 37:=fun _ _=>by kernel_rfl
theorem Zik:Zca Tryz.prog 44:=fun _ _=>by kernel_rfl
theorem ZKe:Zca Tryz.prog 46:=fun _ _=>by kernel_rfl
theorem ZUo:Zca Tryz.prog 59:=fun _ _=>by kernel_rfl
theorem k_en60:Zca Tryz.prog 60:=fun _ _=>by kernel_rfl
theorem k_en61:Zca Tryz.prog 61:=fun _ _=>by kernel_rfl
theorem k_en62:Zca Tryz.prog 62:=fun _ _=>by kernel_rfl
theorem k_en63:Zca Tryz.prog 63:=fun _ _=>by kernel_rfl
theorem Zcp:Zca Tryz.prog 65:=fun _ _=>by kernel_rfl
theorem Zeo:Zca Tryz.prog 66:=fun _ _=>by kernel_rfl
theorem k_en67:Zca Tryz.prog 67:=fun _ _=>by kernel_rfl
theorem k_en68:Zca Tryz.prog 68:=fun _ _=>by kernel_rfl
theorem ZWm:Zca Tryz.prog 86:=fun _ _=>by kernel_rfl
theorem k_en92:Zca Tryz.prog 92:=fun _ _=>by kernel_rfl
theorem k_en93:Zca Tryz.prog 93:=fun _ _=>by kernel_rfl
theorem Z1l:Zle Tryz.prog 45 add64Entry:=⟨_,Tryz.func45,by kernel_rfl,by kernel_rfl,by kernel_rfl,by kernel_rfl⟩
theorem k_ext69:Zle Tryz.prog 69 Zfi:=⟨_,Tryz.func69,by kernel_rfl,by kernel_rfl,by kernel_rfl,by kernel_rfl⟩
theorem ZFe:Tryz.prog.follows .mixedOrders=true:=by kernel_rfl
theorem Zll:ZBc Tryz.prog 103 9 1:=⟨fun _=>by kernel_rfl,fun _=>by kernel_rfl⟩
theorem ZB:ZBc Tryz.prog 32 80 1:=⟨fun _=>by kernel_rfl,fun _=>by kernel_rfl⟩
theorem k_sz5:Sized Tryz.prog 5 1 false:=⟨fun _=>by kernel_rfl,fun _=>by kernel_rfl⟩
theorem Z5:Sized Tryz.prog 80 1 false:=⟨fun _=>by kernel_rfl,fun _=>by kernel_rfl⟩
theorem k_sz9:Sized Tryz.prog 9 1 false:=⟨fun _=>by kernel_rfl,fun _=>by kernel_rfl⟩
theorem k_zv111:∀ w,(zeroValue 111).run Tryz.prog w = .ok (Value.agg #[Value.pointer none,Value.slice none 0 0]) w:=fun _=>by kernel_rfl
theorem k_zv133:∀ w,(zeroValue 133).run Tryz.prog w = .ok (Value.agg #[Value.int IntKind.u8 0,Value.int IntKind.u8 0,Value.int IntKind.u8 0,Value.int IntKind.u8 0,Value.int IntKind.u8 0,Value.int IntKind.u8 0,Value.int IntKind.u8 0,Value.int IntKind.u8 0,Value.int IntKind.u8 0,Value.int IntKind.u8 0,Value.int IntKind.u8 0,Value.int IntKind.u8 0,Value.int IntKind.u8 0,Value.int IntKind.u8 0,Value.int IntKind.u8 0,Value.int IntKind.u8 0,Value.int IntKind.u8 0,Value.int IntKind.u8 0,Value.int IntKind.u8 0,Value.int IntKind.u8 0]) w:=fun _=>by kernel_rfl
theorem cut_w {e:World} {d:Zb} (hv:VIn d e) {E:List Value} {a:(List Int)} (F:Rep.rel (Zz (Zc .u64)) d E a) {z:(List Int)} (H:Ztg a=some z):Ret Tryz.prog 46 #[(Zz (Zc .u64)).val E] e d (fun y v'=>∃ G,y=(Zz (Zc .u64)).val G∧(Zz (Zc .u64)).rel v' G z):=by
 obtain ⟨M,N,O,rfl⟩:=ZXj F;refine Zrb (K:=21) (args:=[.slice M N O]) hv Tryz.func46 rfl rfl zl fun f S=>?_;unfold Ztg at H;refine sr ?_;have S:=S.nilLoc 80 1;refine ov S rfl (Z3c S (y:=.slice (mkA none) 0 0) rfl) fun f S=>oe (Zi fun _ P=>?_);obtain ⟨Q,R,T⟩:=ZF H;refine Zla (fun f w=>∃ B j k l m,B=Q∧Zb.le d m∧St 21 e d [(0,.slice j k l)] [] m f w∧Rep.rel (Zz (Zc .u64)) m [.slice j k l] B) (fun _ U=>?_) ?_
 ·have H:=R;refine wp_block ?_;obtain ⟨am,V,W⟩:=ZF H;have S:=S.reorder (ℓ':=[]) [] rfl (by decide);refine Zfb V (fun X f w=>∃ n o q s g,n=X∧Zb.le d g∧St 21 e d [(0,.slice o q s)] [] g f w∧Rep.rel (Zz (Zc .u64)) g [.slice o q s] n) ⟨_,_,_,_,_,rfl,(leR _),(S.fr' rfl),F⟩ ?_;rintro _ f w st ⟨n,o,q,s,g,hq,I,S,c⟩ H an Y Z;subst hq;refine Zi fun _ aa=>Zi fun _ ab=>?_;obtain ⟨ac,ad,ae⟩:=ZF H;refine Zla (fun f w=>∃ u C,u=ac∧Zb.le g C∧St 21 e d [(0,.slice o q s),(14,.bool u)] [] C f w) (fun _ J=>?_) ?_
  ·have H:=ad;refine Zp (mv S rfl fun f S=>ov S rfl (Z9 S (ZI c) rfl rfl ZB) fun f S=>ov S rfl (Ze S rfl rfl Zuc) fun f S=>mv S rfl fun f S=>?_);rcases ZJ (decide ((0:Int)<(n.length:Int))) with h | h
   ·have H:=ZK H h;have S:=S.bool (t:=6) rfl h;refine bO H fun ao af H=>bO H fun ap D H=>opy S rfl rfl rfl rfl (Zv S rfl) fun f S=>opy S rfl rfl rfl rfl (Zv S rfl) fun f S=>opy S rfl rfl rfl rfl (Z9 S (ZI c) rfl rfl ZB) fun f S=>opy S rfl rfl rfl rfl (Ze S rfl rfl (Zta af)) fun f S=>?_;obtain ⟨_,aq,ar,au,rfl,ag,ah⟩:=ZWa c (Zg D).2.1;obtain ⟨rfl,av⟩:=ah;refine opy S rfl rfl rfl rfl (ZN S rfl rfl ZB (Zg D).1 (ltI (ZI c) (Zg D).2.2.1)) fun f S=>opy S rfl rfl rfl rfl (Zea S rfl Z5 (S.view ag)) fun f S=>opy S rfl rfl rfl rfl (Ze S rfl rfl Zsd) fun f S=>ov S rfl (Zlb S (b:=true) rfl rfl) fun f S=>Zn ?_;obtain rfl:=Zl H;refine Zf (J _ _ ⟨_,_,rfl,(leR _),(S.fr' rfl)⟩)
   have H:=ZL H h;have S:=S.bool (t:=6) rfl h;refine opn S rfl rfl rfl rfl fun f S=>opn S rfl rfl rfl rfl fun f S=>opn S rfl rfl rfl rfl fun f S=>opn S rfl rfl rfl rfl fun f S=>opn S rfl rfl rfl rfl fun f S=>opn S rfl rfl rfl rfl fun f S=>opn S rfl rfl rfl rfl fun f S=>ov S rfl (Zlb S (b:=false) rfl rfl) fun f S=>Zn ?_;obtain rfl:=Zl H;refine Zf (J _ _ ⟨_,_,rfl,(leR _),(S.fr' rfl)⟩)
  rintro f w ⟨u,C,hq,v,S⟩;subst hq;have H:=ae;refine Zf (ab _ _ ?_);rcases ZJ (u) with i | i
  ·have H:=ZK H i;refine ZQ S rfl i (wp_skip (Zf (aa _ _ (wp_block (bO H fun ai aj H=>bO H fun aw x H=>Zp (mv S rfl fun f S=>mv S rfl fun f S=>?_))))));have c:=Z8 v c;refine ov S rfl (Z9 S (ZI c) rfl rfl ZB) fun f S=>ov S rfl (Ze S rfl rfl (Zta aj)) fun f S=>?_;obtain ⟨ax,ay,ak,L⟩:=Zqm S (A:=(Zc .u64)) (p:=(0:Int)) (r:=ai) ZB c (ZGc x).1 (ZGc x).2.1 (ZGc x).2.2.1;rw [← (ZGc x).2.2.2.1] at L;refine ov S rfl (ak rfl (.inl ⟨rfl,rfl⟩) (.inr ⟨_,_,rfl,rfl⟩)) fun f S=>mw S rfl fun f S=>Zn (Zdb ?_);obtain rfl:=Zl H;refine Y _ rfl _ _ ⟨_,_,_,_,_,rfl,(leT I v),(S.fr' rfl),L⟩
  have H:=ZL H i;refine ZM S rfl i (wp_exit (ZZ ?_));obtain rfl:=Zl H;have hq:=Z _ rfl;subst hq;have H:=W;refine ZZ (ZQa ?_);obtain rfl:=Zl H;have c:=Z8 v c;refine Zf (U _ _ ⟨_,_,_,_,_,rfl,(leT (leT (leR _) I) v),(S.fr' rfl),c⟩)
 rintro f w ⟨B,j,k,l,m,hq,az,S,al⟩;subst hq;have H:=T;refine Zf (P _ _ (sr (mv S rfl fun f S=>mw S rfl fun f S=>oe (wp_ret ?_))));obtain rfl:=Zl H;refine Zxa S (ZFa rfl (ZR S rfl)) ⟨[.slice j k l],rfl,al⟩
theorem Zwe {d:World} {b:Zb} (hv:VIn b d) {e:List Value} {a:(List Int)} (c:Rep.rel (Zz (Zc .u64)) b e a) {z:Nat} (hm:ZCa a=some z) :
  Ret Tryz.prog 46 #[(Zz (Zc .u64)).val e] d b (fun y v'=>∃ f,y=Zr.val f∧Zr.rel v' f z) :=
 by cases hm;exact cut_w hv c (ZUm (Zog c).1 (Zog c).2)
theorem len64_w {b:World} {a:Zb} (hv:VIn a b) {q:List Value} {x:Int} (J:Rep.rel (Zc .u64) a q x) {z:Int} (H:Z5g x=some z):Ret Tryz.prog 92 #[(Zc .u64).val q] b a (fun y v'=>∃ r,y=(Zc .i64).val r∧(Zc .i64).rel v' r z):=by
 obtain ⟨rfl,s⟩:=J;refine Zrb (K:=25) (args:=[.int .u64 x]) hv Tryz.func92 rfl rfl zl fun f S=>?_;unfold Z5g at H;refine sr (mw S rfl fun f S=>oe (Zi fun _ L=>sr (mv S rfl fun f S=>ov S rfl (Ze S rfl rfl Z2b) fun f S=>oe ?_)));obtain ⟨M,N,O⟩:=ZF H;refine Zla (fun f w=>∃ c i j,(c,i)=M∧Zb.le a j∧St 25 b a [(0,.int .u64 c),(2,.int .i64 i)] [] j f w∧inR .u64 c∧inR .i64 i) (fun _ t=>?_) ?_
 ·have H:=N;rcases ZJ (decide ((4294967296:Int)≤x)) with d | d
  ·have H:=ZK H d;refine ZQ S rfl d (Zi fun _ P=>bO H fun ag u H=>Zp (mv S rfl fun f S=>ov S rfl (Ze S rfl rfl (Zpb u)) fun f S=>mw S rfl fun f S=>Zn (Zf (P _ _ (Zp (mw S rfl fun f S=>Zn ?_))))));obtain rfl:=Zl H;refine Zf (t _ _ ⟨_,_,_,rfl,(leR _),(S.fr' rfl),(ZSe s u),(by decide)⟩)
  have H:=ZL H d;refine ZM S rfl d (wp_skip ?_);obtain rfl:=Zl H;refine Zf (t _ _ ⟨_,_,_,rfl,(leR _),(S.fr' rfl),s,(by decide)⟩)
 rintro f w ⟨c,i,j,hq,ah,S,v,Q⟩;subst hq;have H:=O;refine Zf (L _ _ (Zi fun _ R=>sr (mv S rfl fun f S=>ov S rfl (Ze S rfl rfl Z2b) fun f S=>oe ?_)));obtain ⟨T,U,V⟩:=ZF H;refine Zla (fun f w=>∃ e k m,(e,k)=T∧Zb.le j m∧St 25 b a [(0,.int .u64 e),(2,.int .i64 k)] [] m f w∧inR .u64 e∧inR .i64 k) (fun _ A=>?_) ?_
 ·have H:=U;rcases ZJ (decide ((65536:Int)≤c)) with g | g
  ·have H:=ZK H g;refine ZQ S rfl g (Zi fun _ W=>bO H fun ai B H=>Zp (mv S rfl fun f S=>ov S rfl (Ze S rfl rfl (Zpb B)) fun f S=>mw S rfl fun f S=>Zn (Zf (W _ _ (bO H fun aj C H=>Zp (mv S rfl fun f S=>ov S rfl (Ze S rfl rfl (ZEa C)) fun f S=>mw S rfl fun f S=>?_))))));refine Zn ?_;obtain rfl:=Zl H;refine Zf (A _ _ ⟨_,_,_,rfl,(leR _),(S.fr' rfl),(ZSe v B),(Zna C).2⟩)
  have H:=ZL H g;refine ZM S rfl g (wp_skip ?_);obtain rfl:=Zl H;refine Zf (A _ _ ⟨_,_,_,rfl,(leR _),(S.fr' rfl),v,Q⟩)
 rintro f w ⟨e,k,m,hq,ak,S,D,X⟩;subst hq;have H:=V;refine Zf (R _ _ (Zi fun _ Y=>sr (mv S rfl fun f S=>ov S rfl (Ze S rfl rfl Z2b) fun f S=>oe ?_)));obtain ⟨Z,aa,ab⟩:=ZF H;refine Zla (fun f w=>∃ n o p,(n,o)=Z∧Zb.le m p∧St 25 b a [(0,.int .u64 n),(2,.int .i64 o)] [] p f w∧inR .u64 n∧inR .i64 o) (fun _ E=>?_) ?_
 ·have H:=aa;rcases ZJ (decide ((256:Int)≤e)) with h | h
  ·have H:=ZK H h;refine ZQ S rfl h (Zi fun _ ac=>bO H fun al F H=>Zp (mv S rfl fun f S=>ov S rfl (Ze S rfl rfl (Zpb F)) fun f S=>mw S rfl fun f S=>Zn (Zf (ac _ _ (bO H fun am G H=>Zp (mv S rfl fun f S=>ov S rfl (Ze S rfl rfl (ZEa G)) fun f S=>mw S rfl fun f S=>?_))))));refine Zn ?_;obtain rfl:=Zl H;refine Zf (E _ _ ⟨_,_,_,rfl,(leR _),(S.fr' rfl),(ZSe D F),(Zna G).2⟩)
  have H:=ZL H h;refine ZM S rfl h (wp_skip ?_);obtain rfl:=Zl H;refine Zf (E _ _ ⟨_,_,_,rfl,(leR _),(S.fr' rfl),D,X⟩)
 rintro f w ⟨n,o,p,hq,an,S,ao,ap⟩;subst hq;have H:=ab;refine Zf (Y _ _ (Zi fun _ ad=>bO H fun aq ae H=>bO H fun af I H=>Zp (mv S rfl fun f S=>mv S rfl fun f S=>ov S rfl (Zed S rfl (ZAm _)) fun f S=>ov S rfl (ZVn S (l:=([0,1,2,2,3,3,3,3,4,4,4,4,4,4,4,4,5,5,5,5,5,5,5,5,5,5,5,5,5,5,5,5,6,6,6,6,6,6,6,6,6,6,6,6,6,6,6,6,6,6,6,6,6,6,6,6,6,6,6,6,6,6,6,6,7,7,7,7,7,7,7,7,7,7,7,7,7,7,7,7,7,7,7,7,7,7,7,7,7,7,7,7,7,7,7,7,7,7,7,7,7,7,7,7,7,7,7,7,7,7,7,7,7,7,7,7,7,7,7,7,7,7,7,7,7,7,7,7,8,8,8,8,8,8,8,8,8,8,8,8,8,8,8,8,8,8,8,8,8,8,8,8,8,8,8,8,8,8,8,8,8,8,8,8,8,8,8,8,8,8,8,8,8,8,8,8,8,8,8,8,8,8,8,8,8,8,8,8,8,8,8,8,8,8,8,8,8,8,8,8,8,8,8,8,8,8,8,8,8,8,8,8,8,8,8,8,8,8,8,8,8,8,8,8,8,8,8,8,8,8,8,8,8,8,8,8,8,8,8,8,8,8,8,8,8,8,8,8,8,8,8,8,8,8,8,8]:List UInt8)) (by kernel_rfl) rfl Tryz.underlying9 ae) fun f S=>ov S rfl (Zed S rfl (k_cv5_3 _)) fun f S=>ov S rfl (Ze S rfl rfl (ZEa I)) fun f S=>mw S rfl fun f S=>Zn (Zf (ad _ _ ?_)))));refine wp_ret ?_;obtain rfl:=Zl H;refine Zxa S (ZFa rfl (ZR S rfl)) ⟨[.int .i64 af],rfl,(ZC (Zna I).2)⟩
theorem len64_c {b:World} {a:Zb} (hv:VIn a b) {c:List Value} {x:Int} (e:Rep.rel (Zc .u64) a c x) {z:Int} (hm:Zgh x=some z) :
  Ret Tryz.prog 92 #[(Zc .u64).val c] b a (fun y v'=>∃ d,y=(Zc .i64).val d∧(Zc .i64).rel v' d z) :=
 len64_w hv e (ZHr hm)
theorem lz64_w {b:World} {a:Zb} (hv:VIn a b) {c:List Value} {x:Int} (g:Rep.rel (Zc .u64) a c x) {z:Int} (H:Zli x=some z):Ret Tryz.prog 65 #[(Zc .u64).val c] b a (fun y v'=>∃ d,y=(Zc .i64).val d∧(Zc .i64).rel v' d z):=by
 obtain ⟨rfl,h⟩:=g;refine Zrb (K:=6) (args:=[.int .u64 x]) hv Tryz.func65 rfl rfl zl fun f S=>?_;unfold Zli at H;refine sr (mw S rfl fun f S=>oe (Zi fun _ i=>bO H fun m j H=>bO H fun k e H=>Zp (mv S rfl fun f S=>opc S rfl (Z7 S [.int .u64 x] k_en92 rfl rfl) (len64_c S.vin (show Rep.rel (Zc .u64) _ [.int .u64 x] x from (ZC h)) j) ?_)));rintro _ n f w o ⟨p,rfl,l⟩ S;obtain ⟨rfl,q⟩:=l;refine ov S rfl (Ze S rfl rfl (Zta e)) fun f S=>mw S rfl fun f S=>Zn (Zf (i _ _ (wp_ret ?_)));obtain rfl:=Zl H;refine Zxa S (ZFa rfl (ZR S rfl)) ⟨[.int .i64 k],rfl,(ZC (Zna e).2)⟩
theorem ZEo {b:World} {a:Zb} (hv:VIn a b) {c:List Value} {x:Int} (e:Rep.rel (Zc .u64) a c x) {z:Int} (hm:Zud x=some z) :
  Ret Tryz.prog 65 #[(Zc .u64).val c] b a (fun y v'=>∃ d,y=(Zc .i64).val d∧(Zc .i64).rel v' d z) :=
 lz64_w hv e (ZSp hm)
theorem div64_w {e:World} {c:Zb} (hv:VIn c e) {X:List Value} {hi:Int} (p0:Rep.rel (Zc .u64) c X hi) {Y:List Value} {lo:Int} (p1:Rep.rel (Zc .u64) c Y lo) {Z:List Value} {y:Int} (p2:Rep.rel (Zc .u64) c Z y) {z:Int×Int} (H:Zug hi lo y=some z):Ret Tryz.prog 86 #[(Zc .u64).val X,(Zc .u64).val Y,(Zc .u64).val Z] e c (fun y v'=>∃ r0 M,y = .tuple #[(Zc .u64).val r0,(Zc .u64).val M]∧(Zc .u64).rel v' r0 z.1∧(Zc .u64).rel v' M z.2):=by
 obtain ⟨rfl,M⟩:=p0;obtain ⟨rfl,r2⟩:=p1;obtain ⟨rfl,r3⟩:=p2;refine Zrb (K:=135) (args:=[.int .u64 hi,.int .u64 lo,.int .u64 y]) hv Tryz.func86 rfl rfl zl fun f S=>?_;unfold Zug at H;refine sr (mw S rfl fun f S=>mw S rfl fun f S=>oe (Zi fun _ an=>sr (mv S rfl fun f S=>ov S rfl (Ze S rfl rfl Zsd) fun f S=>oe ?_)));rcases ZJ (y==(0:Int)) with q | q
 ·have H:=ZK H q;refine ZQ S rfl q ?_
  cases H
 have H:=ZL H q;refine ZM S rfl q (wp_skip (Zf (an _ _ (Zi fun _ ao=>sr (mv S rfl fun f S=>mv S rfl fun f S=>ov S rfl (Ze S rfl rfl ZZj) fun f S=>oe ?_)))));rcases ZJ (decide (y≤hi)) with r | r
 ·have H:=ZK H r;refine ZQ S rfl r ?_
  cases H
 have H:=ZL H r;refine ZM S rfl r (wp_skip (Zf (ao _ _ (Zi fun _ ap=>sr (mv S rfl fun f S=>ov S rfl (Ze S rfl rfl Zsd) fun f S=>oe ?_)))));rcases ZJ (hi==(0:Int)) with s | s
 ·have H:=ZK H s;refine ZQ S rfl s (Zi fun _ aq=>bO H fun ar aa H=>bO H fun au N H=>ZTd (fl:=#[true,true,true,true,true,true,false,false]) ZFe (by kernel_rfl) S ?_);intro ops O F w S;refine rfa O F 0 rfl rfl S (Zv S rfl) fun f S=>rfa O F 1 rfl rfl S (Zv S rfl) fun f S=>rfa O F 2 rfl rfl S (Ze S rfl rfl (ZQb aa)) fun f S=>rfa O F 3 rfl rfl S (Zv S rfl) fun f S=>rfa O F 4 rfl rfl S (Zv S rfl) fun f S=>rfa O F 5 rfl rfl S (Ze S rfl rfl (Z0d N)) fun f S=>go1 O F 6 (nva [0,1,2] [3,4,5] O rfl rfl S (Z3c S rfl) fun f S=>⟨(py S rfl rfl (Zv S rfl) (py S rfl rfl (Zv S rfl) (py S rfl rfl (Ze S rfl rfl (Z0d N)) Z3b))),go1 O F 7 (nva [0,1,2,3,4,5,6] [] O rfl rfl S (Z3c S rfl) fun f S=>⟨Z3b,Zfe O F (Zf (aq _ _ ?_))⟩)⟩);refine wp_ret (ZNa ?_);obtain rfl:=Zl H;refine Zxa S (Zoe rfl (ZR S rfl) (ZR S rfl)) ⟨[.int .u64 ar],[.int .u64 au],rfl,(ZC (ZUg aa)),(ZC (ZGm r2 N))⟩
 have H:=ZL H s;refine ZM S rfl s (wp_skip (Zf (ap _ _ (Zi fun _ av=>bO H fun h aw H=>Zp (mv S rfl fun f S=>opc S rfl (Z7 S [.int .u64 y] Zcp rfl rfl) (ZEo S.vin (show Rep.rel (Zc .u64) _ [.int .u64 y] y from (ZC r3)) aw) ?_)))));rintro _ ab f w bd ⟨be,rfl,ax⟩ S;obtain ⟨rfl,bf⟩:=ax;refine ov S rfl (Zed S rfl (Zor _)) fun f S=>mw S rfl fun f S=>Zn (Zf (av _ _ (Zi fun _ ay=>bO H fun a az H=>Zp (mv S rfl fun f S=>mv S rfl fun f S=>ov S rfl (Ze S rfl rfl (Zuf az)) fun f S=>mw S rfl fun f S=>Zn (Zf (ay _ _ (Zi fun _ aA=>?_)))))));refine bO H fun g aB H=>Zp (mv S rfl fun f S=>ov S rfl (Ze S rfl rfl (Zpb aB)) fun f S=>mw S rfl fun f S=>Zn (Zf (aA _ _ (sr (mv S rfl fun f S=>ov S rfl (Ze S rfl rfl ZTf) fun f S=>mw S rfl fun f S=>oe (Zi fun _ aC=>bO H fun i aD H=>?_))))));refine bO H fun j aE H=>Zp (mv S rfl fun f S=>mv S rfl fun f S=>ov S rfl (Ze S rfl rfl (Zuf aD)) fun f S=>mv S rfl fun f S=>mv S rfl fun f S=>ov S rfl (Ze S rfl rfl ZSc) fun f S=>ov S rfl (Ze S rfl rfl (Zpb aE)) fun f S=>ov S rfl (Ze S rfl rfl Z6i) fun f S=>mw S rfl fun f S=>Zn ?_);have S:=S.fr' (σ':=[(1,.int .u64 lo),(2,.int .u64 a),(8,.int .u64 (IntKind.u64.wrap h)),(9,.int .u64 g),(10,.int .u64 (Z0 .u64 a (4294967295:Int))),(11,.int .u64 (orI .u64 i j))]) rfl
 refine Zf (aC _ _ (Zi fun _ aF=>bO H fun k aG H=>Zp (mv S rfl fun f S=>mv S rfl fun f S=>ov S rfl (Ze S rfl rfl (Zuf aG)) fun f S=>mw S rfl fun f S=>Zn (Zf (aF _ _ (Zi fun _ aH=>bO H fun l aI H=>Zp (mv S rfl fun f S=>?_)))))));refine ov S rfl (Ze S rfl rfl (Zpb aI)) fun f S=>mw S rfl fun f S=>Zn (Zf (aH _ _ (sr (mv S rfl fun f S=>ov S rfl (Ze S rfl rfl ZTf) fun f S=>mw S rfl fun f S=>oe (Zi fun _ aJ=>bO H fun bg ac H=>Zp (mv S rfl fun f S=>mv S rfl fun f S=>?_))))));refine ov S rfl (Ze S rfl rfl (ZQb ac)) fun f S=>mw S rfl fun f S=>Zn (Zf (aJ _ _ (sr (mv S rfl fun f S=>mv S rfl fun f S=>mv S rfl fun f S=>ov S rfl (Ze S rfl rfl Z6a) fun f S=>ov S rfl (Ze S rfl rfl ZSc) fun f S=>mw S rfl fun f S=>oe (Zi fun _ aK=>?_)))));obtain ⟨aL,aM,aN⟩:=ZF H;refine Zla (fun f w=>∃ d u,d=aL∧Zb.le ab u∧St 135 e c [(2,.int .u64 a),(8,.int .u64 (IntKind.u64.wrap h)),(9,.int .u64 g),(10,.int .u64 (Z0 .u64 a (4294967295:Int))),(11,.int .u64 (orI .u64 i j)),(13,.int .u64 l),(14,.int .u64 (Z0 .u64 k (4294967295:Int))),(15,.int .u64 d)] [] u f w∧inR .u64 d) (fun _ ad=>?_) ?_
 ·have H:=aM;refine wp_block ?_;obtain ⟨bh,aO,ae⟩:=ZF H;refine Zfb aO (fun aP f w=>∃ m n G,(m,n)=aP∧Zb.le ab G∧St 135 e c [(2,.int .u64 a),(8,.int .u64 (IntKind.u64.wrap h)),(9,.int .u64 g),(10,.int .u64 (Z0 .u64 a (4294967295:Int))),(11,.int .u64 (orI .u64 i j)),(13,.int .u64 l),(14,.int .u64 (Z0 .u64 k (4294967295:Int))),(15,.int .u64 m),(16,.int .u64 n)] [] G f w∧inR .u64 m∧inR .u64 n) ⟨_,_,_,rfl,(leR _),(S.fr' rfl),(ZUg ac),(Zia _ _)⟩ ?_;rintro _ f w st ⟨m,n,G,hq,P,S,aQ,bi⟩ H bj aR af;subst hq;refine Zi fun _ aS=>Zi fun _ aT=>?_;obtain ⟨aU,aV,aW⟩:=ZF H;refine Zla (fun f w=>∃ I Q,I=aU∧Zb.le G Q∧St 135 e c [(2,.int .u64 a),(8,.int .u64 (IntKind.u64.wrap h)),(9,.int .u64 g),(10,.int .u64 (Z0 .u64 a (4294967295:Int))),(11,.int .u64 (orI .u64 i j)),(13,.int .u64 l),(14,.int .u64 (Z0 .u64 k (4294967295:Int))),(15,.int .u64 m),(16,.int .u64 n),(78,.bool I)] [] Q f w) (fun _ ag=>?_) ?_
  ·have H:=aV;refine Zp (mv S rfl fun f S=>ov S rfl (Ze S rfl rfl Z2b) fun f S=>mv S rfl fun f S=>?_);rcases ZJ (decide ((4294967296:Int)≤m)) with v | v
   ·have H:=ZK H v;have S:=S.bool (t:=69) rfl v;refine opn S rfl rfl rfl rfl fun f S=>opn S rfl rfl rfl rfl fun f S=>opn S rfl rfl rfl rfl fun f S=>opn S rfl rfl rfl rfl fun f S=>opn S rfl rfl rfl rfl fun f S=>opn S rfl rfl rfl rfl fun f S=>opn S rfl rfl rfl rfl fun f S=>opn S rfl rfl rfl rfl fun f S=>ov S rfl (Zlb S (b:=true) rfl rfl) fun f S=>Zn ?_;obtain rfl:=Zl H;refine Zf (ag _ _ ⟨_,_,rfl,(leR _),(S.fr' rfl)⟩)
   have H:=ZL H v;have S:=S.bool (t:=69) rfl v;refine opy S rfl rfl rfl rfl (Zv S rfl) fun f S=>opy S rfl rfl rfl rfl (Zv S rfl) fun f S=>opy S rfl rfl rfl rfl (Ze S rfl rfl Z6a) fun f S=>opy S rfl rfl rfl rfl (Zv S rfl) fun f S=>opy S rfl rfl rfl rfl (Ze S rfl rfl Z6a) fun f S=>opy S rfl rfl rfl rfl (Zv S rfl) fun f S=>opy S rfl rfl rfl rfl (Ze S rfl rfl ZCb) fun f S=>opy S rfl rfl rfl rfl (Ze S rfl rfl Zuc) fun f S=>ov S rfl (Zlb S (b:=false) rfl rfl) fun f S=>Zn ?_;obtain rfl:=Zl H;refine Zf (ag _ _ ⟨_,_,rfl,(leR _),(S.fr' rfl)⟩)
  rintro f w ⟨I,Q,hq,R,S⟩;subst hq;have H:=aW;refine Zf (aT _ _ ?_);rcases ZJ (I) with x | x
  ·have H:=ZK H x;refine ZQ S rfl x (wp_skip (Zf (aS _ _ (wp_block (sr (mv S rfl fun f S=>ov S rfl (Ze S rfl rfl ZSc) fun f S=>mw S rfl fun f S=>oe (sr (mv S rfl fun f S=>mv S rfl fun f S=>ov S rfl (Ze S rfl rfl ZCb) fun f S=>mw S rfl fun f S=>?_))))))));refine oe (sr (mv S rfl fun f S=>ov S rfl (Ze S rfl rfl Z2b) fun f S=>oe ?_));rcases ZJ (decide ((4294967296:Int)≤IntKind.u64.wrap (n+g))) with A | A
   ·have H:=ZK H A;refine ZQ S rfl A (wp_exit (ZLi rfl ?_));obtain rfl:=Zl H;have hq:=af _ rfl;subst hq;have H:=ae;refine ZZ (ZQa ?_);obtain rfl:=Zl H;refine Zf (ad _ _ ⟨_,_,rfl,(leT (leT (leR _) P) R),(S.fr' rfl),(Zia _ _)⟩)
   have H:=ZL H A;refine ZM S rfl A (wp_skip (Zdb ?_));obtain rfl:=Zl H;refine aR _ rfl _ _ ⟨_,_,_,rfl,(leT P R),(S.fr' rfl),(Zia _ _),(Zia _ _)⟩
  have H:=ZL H x;refine ZM S rfl x (wp_exit (ZZ ?_));obtain rfl:=Zl H;have hq:=af _ rfl;subst hq;have H:=ae;refine ZZ (ZQa ?_);obtain rfl:=Zl H;refine Zf (ad _ _ ⟨_,_,rfl,(leT (leT (leR _) P) R),(S.fr' rfl),aQ⟩)
 rintro f w ⟨d,u,hq,bk,S,bm⟩;subst hq;have H:=aN;refine Zf (aK _ _ (sr (mv S rfl fun f S=>ov S rfl (Ze S rfl rfl Z6a) fun f S=>mv S rfl fun f S=>ov S rfl (Ze S rfl rfl ZCb) fun f S=>mv S rfl fun f S=>mv S rfl fun f S=>ov S rfl (Ze S rfl rfl Z6a) fun f S=>ov S rfl (Ze S rfl rfl ZSc) fun f S=>mw S rfl fun f S=>oe (Zi fun _ aX=>bO H fun bn ah H=>?_))));refine Zp (mv S rfl fun f S=>mv S rfl fun f S=>ov S rfl (Ze S rfl rfl (ZQb ah)) fun f S=>mw S rfl fun f S=>Zn (Zf (aX _ _ (sr (mv S rfl fun f S=>mv S rfl fun f S=>mv S rfl fun f S=>ov S rfl (Ze S rfl rfl Z6a) fun f S=>ov S rfl (Ze S rfl rfl ZSc) fun f S=>mw S rfl fun f S=>?_)))));refine oe (Zi fun _ aY=>?_);obtain ⟨aZ,a0,a1⟩:=ZF H;refine Zla (fun f w=>∃ B T,B=aZ∧Zb.le u T∧St 135 e c [(2,.int .u64 a),(8,.int .u64 (IntKind.u64.wrap h)),(14,.int .u64 (Z0 .u64 k (4294967295:Int))),(15,.int .u64 d),(17,.int .u64 (IntKind.u64.wrap ((IntKind.u64.wrap ((IntKind.u64.wrap ((orI .u64 i j)*(4294967296:Int)))+l))-(IntKind.u64.wrap (d*a))))),(18,.int .u64 B)] [] T f w∧inR .u64 B) (fun _ ai=>?_) ?_
 ·have H:=a0;refine wp_block ?_;obtain ⟨bo,a2,aj⟩:=ZF H;refine Zfb a2 (fun a3 f w=>∃ o p J,(o,p)=a3∧Zb.le u J∧St 135 e c [(2,.int .u64 a),(8,.int .u64 (IntKind.u64.wrap h)),(9,.int .u64 g),(10,.int .u64 (Z0 .u64 a (4294967295:Int))),(14,.int .u64 (Z0 .u64 k (4294967295:Int))),(15,.int .u64 d),(16,.int .u64 o),(17,.int .u64 (IntKind.u64.wrap ((IntKind.u64.wrap ((IntKind.u64.wrap ((orI .u64 i j)*(4294967296:Int)))+l))-(IntKind.u64.wrap (d*a))))),(18,.int .u64 p)] [] J f w∧inR .u64 o∧inR .u64 p) ⟨_,_,_,rfl,(leR _),(S.fr' rfl),(Zia _ _),(ZUg ah)⟩ ?_;rintro _ f w st ⟨o,p,J,hq,U,S,bp,a4⟩ H bq a5 ak;subst hq;refine Zi fun _ a6=>Zi fun _ a7=>?_;obtain ⟨a8,a9,ba⟩:=ZF H;refine Zla (fun f w=>∃ L V,L=a8∧Zb.le J V∧St 135 e c [(2,.int .u64 a),(8,.int .u64 (IntKind.u64.wrap h)),(9,.int .u64 g),(10,.int .u64 (Z0 .u64 a (4294967295:Int))),(14,.int .u64 (Z0 .u64 k (4294967295:Int))),(15,.int .u64 d),(16,.int .u64 o),(17,.int .u64 (IntKind.u64.wrap ((IntKind.u64.wrap ((IntKind.u64.wrap ((orI .u64 i j)*(4294967296:Int)))+l))-(IntKind.u64.wrap (d*a))))),(18,.int .u64 p),(113,.bool L)] [] V f w) (fun _ al=>?_) ?_
  ·have H:=a9;refine Zp (mv S rfl fun f S=>ov S rfl (Ze S rfl rfl Z2b) fun f S=>mv S rfl fun f S=>?_);rcases ZJ (decide ((4294967296:Int)≤p)) with C | C
   ·have H:=ZK H C;have S:=S.bool (t:=104) rfl C;refine opn S rfl rfl rfl rfl fun f S=>opn S rfl rfl rfl rfl fun f S=>opn S rfl rfl rfl rfl fun f S=>opn S rfl rfl rfl rfl fun f S=>opn S rfl rfl rfl rfl fun f S=>opn S rfl rfl rfl rfl fun f S=>opn S rfl rfl rfl rfl fun f S=>opn S rfl rfl rfl rfl fun f S=>ov S rfl (Zlb S (b:=true) rfl rfl) fun f S=>Zn ?_;obtain rfl:=Zl H;refine Zf (al _ _ ⟨_,_,rfl,(leR _),(S.fr' rfl)⟩)
   have H:=ZL H C;have S:=S.bool (t:=104) rfl C;refine opy S rfl rfl rfl rfl (Zv S rfl) fun f S=>opy S rfl rfl rfl rfl (Zv S rfl) fun f S=>opy S rfl rfl rfl rfl (Ze S rfl rfl Z6a) fun f S=>opy S rfl rfl rfl rfl (Zv S rfl) fun f S=>opy S rfl rfl rfl rfl (Ze S rfl rfl Z6a) fun f S=>opy S rfl rfl rfl rfl (Zv S rfl) fun f S=>opy S rfl rfl rfl rfl (Ze S rfl rfl ZCb) fun f S=>opy S rfl rfl rfl rfl (Ze S rfl rfl Zuc) fun f S=>ov S rfl (Zlb S (b:=false) rfl rfl) fun f S=>Zn ?_;obtain rfl:=Zl H;refine Zf (al _ _ ⟨_,_,rfl,(leR _),(S.fr' rfl)⟩)
  rintro f w ⟨L,V,hq,W,S⟩;subst hq;have H:=ba;refine Zf (a7 _ _ ?_);rcases ZJ (L) with D | D
  ·have H:=ZK H D;refine ZQ S rfl D (wp_skip (Zf (a6 _ _ (wp_block (sr (mv S rfl fun f S=>ov S rfl (Ze S rfl rfl ZSc) fun f S=>mw S rfl fun f S=>oe (sr (mv S rfl fun f S=>mv S rfl fun f S=>ov S rfl (Ze S rfl rfl ZCb) fun f S=>mw S rfl fun f S=>?_))))))));refine oe (sr (mv S rfl fun f S=>ov S rfl (Ze S rfl rfl Z2b) fun f S=>oe ?_));rcases ZJ (decide ((4294967296:Int)≤IntKind.u64.wrap (o+g))) with E | E
   ·have H:=ZK H E;refine ZQ S rfl E (wp_exit (ZLi rfl ?_));obtain rfl:=Zl H;have hq:=ak _ rfl;subst hq;have H:=aj;refine ZZ (ZQa ?_);obtain rfl:=Zl H;refine Zf (ai _ _ ⟨_,_,rfl,(leT (leT (leR _) U) W),(S.fr' rfl),(Zia _ _)⟩)
   have H:=ZL H E;refine ZM S rfl E (wp_skip (Zdb ?_));obtain rfl:=Zl H;refine a5 _ rfl _ _ ⟨_,_,_,rfl,(leT U W),(S.fr' rfl),(Zia _ _),(Zia _ _)⟩
  have H:=ZL H D;refine ZM S rfl D (wp_exit (ZZ ?_));obtain rfl:=Zl H;have hq:=ak _ rfl;subst hq;have H:=aj;refine ZZ (ZQa ?_);obtain rfl:=Zl H;refine Zf (ai _ _ ⟨_,_,rfl,(leT (leT (leR _) U) W),(S.fr' rfl),a4⟩)
 rintro f w ⟨B,T,hq,br,S,bs⟩;subst hq;have H:=a1;refine Zf (aY _ _ (Zi fun _ bb=>bO H fun bc am H=>Zp (mv S rfl fun f S=>ov S rfl (Ze S rfl rfl Z6a) fun f S=>mv S rfl fun f S=>ov S rfl (Ze S rfl rfl ZCb) fun f S=>mv S rfl fun f S=>ov S rfl (Ze S rfl rfl Z6a) fun f S=>mv S rfl fun f S=>ov S rfl (Ze S rfl rfl ZCb) fun f S=>mv S rfl fun f S=>mv S rfl fun f S=>?_)));refine ov S rfl (Ze S rfl rfl Z6a) fun f S=>ov S rfl (Ze S rfl rfl ZSc) fun f S=>mv S rfl fun f S=>ov S rfl (Ze S rfl rfl (Zpb am)) fun f S=>mw S rfl fun f S=>mw S rfl fun f S=>Zn (Zf (bb _ _ (wp_ret ?_)));obtain rfl:=Zl H;refine Zxa S (Zoe rfl (ZR S rfl) (ZR S rfl)) ⟨[.int .u64 (IntKind.u64.wrap ((IntKind.u64.wrap (d*(4294967296:Int)))+B))],[.int .u64 bc],rfl,(ZC (Zia _ _)),(ZC (ZSe (Zia _ _) am))⟩
theorem ZOm {b:World} {a:Zb} (hv:VIn a b) {c:List Value} {hi:Int} (h:Rep.rel (Zc .u64) a c hi) {d:List Value} {lo:Int} (i:Rep.rel (Zc .u64) a d lo) {e:List Value} {y:Int} (j:Rep.rel (Zc .u64) a e y) {z:Int×Int} (hm:Z7c hi lo y=some z) :
  Ret Tryz.prog 86 #[(Zc .u64).val c,(Zc .u64).val d,(Zc .u64).val e] b a (fun y v'=>∃ f g,y=Value.tuple #[(Zc .u64).val f,(Zc .u64).val g]∧(Zc .u64).rel v' f z.1∧(Zc .u64).rel v' g z.2) :=
 div64_w hv h i j (Zcs hm)
theorem Z4q {E:World} {d:Zb} (hv:VIn d E) {R:List Value} {a:Nat} (g:Rep.rel Zr d R a) {T:List Value} {n:Int} (p1:Rep.rel (Zc .u64) d T n) {z:Nat×Int} (H:ZXg a n=some z):Ret Tryz.prog 59 #[Zr.val R,(Zc .u64).val T] E d (fun y v'=>∃ U V,y = .tuple #[Zr.val U,(Zc .u64).val V]∧Zr.rel v' U z.1∧(Zc .u64).rel v' V z.2):=by
 obtain ⟨W,X,Y,rfl⟩:=Zda g;obtain ⟨rfl,r4⟩:=p1;refine Zrb (K:=35) (args:=[.slice W X Y,.int .u64 n]) hv Tryz.func59 rfl rfl zl fun f S=>?_;unfold ZXg at H;refine sr (mw S rfl fun f S=>mw S rfl fun f S=>oe (Zi fun _ ah=>bO H fun y9 F H=>Zp (mv S rfl fun f S=>ov S rfl (Z9 S (ZI g) rfl rfl ZB) fun f S=>?_)));obtain ⟨Z,aa⟩:∃ c:List Value,c=(List.replicate ((((Zd 18446744073709551616 a)).length:Int)).toNat [.int .u64 0]).flatten:=⟨_,rfl⟩;obtain ⟨ai,w,aj,S⟩:=ZLg ZEd S (l:=(((Zd 18446744073709551616 a)).length:Int)) (c:=(((Zd 18446744073709551616 a)).length:Int)) (ZDa F).1 (ZDa F).2.1 (ZDa F).2.2.1 (ZDa F).2.2.2 aa;have ak:Rep.rels (Zc .u64) d Z (List.replicate ((((Zd 18446744073709551616 a)).length:Int)).toNat (0:Int)):=by rw [aa];exact Zmd (show Rep.rel (Zc .u64) _ [.int .u64 0] _ from (ZC (by decide))) _
 refine Zhb wn rfl zl (aj rfl rfl) S fun f S=>mw S rfl fun f S=>Zn (Zf (ah _ _ (sr (mw S rfl fun f S=>oe (Zi fun _ al=>Zi fun _ am=>bO H fun aV ab H=>Zp (mv S rfl fun f S=>ov S rfl (Z9 S (ZI g) rfl rfl ZB) fun f S=>ov S rfl (Ze S rfl rfl (Zta ab)) fun f S=>?_))))));refine mw S rfl fun f S=>Zn (Zf (am _ _ ?_));obtain ⟨an,ao,ap⟩:=ZF H;refine Zla (fun f w=>∃ o s t p u L G,(o,s)=an∧Zb.le d G∧St 35 E d [(6,.slice (mkA t) p u),(7,.int .u64 s)] [Loc.own t 80 1 p u L] G f w∧Rep.rels (Zc .u64) G L o∧p=o.length∧inR .u64 s) (fun _ aq=>?_) ?_
 ·have H:=ao;refine wp_block ?_;obtain ⟨aW,ar,au⟩:=ZF H;refine Zfb ar (fun av f w=>∃ q h b I k v e J,(q,h,b)=av∧Zb.le d J∧St 35 E d [(0,.slice W X Y),(1,.int .u64 n),(6,.slice (mkA I) k v),(7,.int .u64 h),(8,.int .i64 b)] [Loc.own I 80 1 k v e] J f w∧Rep.rels (Zc .u64) J e q∧k=q.length∧inR .u64 h∧inR .i64 b) ⟨_,_,_,some ai,((((Zd 18446744073709551616 a)).length:Int)).toNat,((((Zd 18446744073709551616 a)).length:Int)).toNat,Z,_,rfl,(leR _),(S.fr' rfl),ak,(repN (x:=(0:Int))),(by decide),(Zna ab).2⟩ ?_;rintro _ f w st ⟨q,h,b,I,k,v,e,J,hq,M,S,B,C,ac,aX⟩ H aY aw ax;subst hq;refine Zi fun _ ay=>sr (mv S rfl fun f S=>ov S rfl (Ze S rfl rfl Z2b) fun f S=>oe ?_);rcases ZJ (decide ((0:Int)≤b)) with D | D
  ·have H:=ZK H D;refine ZQ S rfl D (wp_skip (Zf (ay _ _ (Zi fun _ az=>wp_block (bO H fun N O H=>bO H fun m aA H=>bO H fun aZ r H=>Zp (mv S rfl fun f S=>mv S rfl fun f S=>mv S rfl fun f S=>mv S rfl fun f S=>mv S rfl fun f S=>?_))))));have g:=Z8 M g;obtain ⟨_,a0,a1,a2,rfl,P,aB⟩:=ZWa g (Zg O).2.1;obtain ⟨rfl,aC⟩:=aB;refine ov S rfl (ZN S rfl rfl ZB (Zg O).1 (ltI (ZI g) (Zg O).2.2.1)) fun f S=>ov S rfl (Zea S rfl Z5 (S.view P)) fun f S=>mv S rfl fun f S=>opc S rfl (Z7 S [.int .u64 h,.int .u64 N,.int .u64 n] ZWm rfl rfl) (ZOm S.vin (show Rep.rel (Zc .u64) _ [.int .u64 h] h from (ZC ac)) (show Rep.rel (Zc .u64) _ [.int .u64 N] N from (ZC aC)) (show Rep.rel (Zc .u64) _ [.int .u64 n] n from (ZC r4)) aA) ?_;rintro _ ad f w Q ⟨a3,a4,rfl,aD,aE⟩ S;have B:=ZU Q B;have P:=Atm Q P;obtain ⟨rfl,aF⟩:=aD;obtain ⟨rfl,aG⟩:=aE;refine mv S rfl fun f S=>ov S rfl (Zpa S rfl rfl) fun f S=>ov S rfl (Zpa S rfl rfl) fun f S=>?_;obtain ⟨aH,rfl⟩:=ZKc S (j:=0) rfl (posN C (Zg r).2.2.2);have ae:=Zha B (Zg r).2.1;obtain ⟨a5,aI⟩:∃ c,(List.take (Zc .u64).n (List.drop ((b).toNat*(Zc .u64).n) e))=c:=⟨_,rfl⟩
   rw [aI] at ae;obtain ⟨rfl,a6⟩:=ae;refine ov S rfl (ZN S rfl rfl ZB (Zg r).1 (ltI C (Zg r).2.2.1)) fun f S=>?_;obtain ⟨w,aJ,S⟩:=ZBb S Z5 (off:=0+(b).toNat*1) (z:=.int .u64 (m.1)) (cs:=[.int .u64 (m.1)]) (Zkb rfl) rfl (i:=0) rfl (Zad S (j:=0) rfl (ltN C (Zg r).2.2.2)) (by first | rfl | simp [plain]);have aK:Rep.rels (Zc .u64) ad (List.take (0+(b).toNat*1) e++[Value.int IntKind.u64 (m.1)]++List.drop (0+(b).toNat*1+1) e) (q.set (b).toNat m.1):=Zvc B (Zg r).2.2.2 (show Rep.rel (Zc .u64) ad [.int .u64 (m.1)] _ from (ZC aF)) rfl rfl;have aL:k=(q.set (b).toNat m.1).length:=ZRc C;refine Z8e wn rfl (aJ rfl rfl) (mw S rfl fun f S=>Zn (Zdb (Zf (az _ _ (bO H fun a7 af H=>Zp (mv S rfl fun f S=>ov S rfl (Ze S rfl rfl (Zta af)) fun f S=>mw S rfl fun f S=>Zn ?_))))));obtain rfl:=Zl H;refine aw _ rfl _ _ ⟨_,_,_,some aH,k,v,(List.take (0+(b).toNat*1) e++[Value.int IntKind.u64 (m.1)]++List.drop (0+(b).toNat*1+1) e),_,rfl,(leT M Q),(S.fr' rfl),aK,aL,aG,(Zna af).2⟩
  have H:=ZL H D;refine ZM S rfl D (wp_exit (ZZ ?_));obtain rfl:=Zl H;have hq:=ax _ rfl;subst hq;have H:=au;refine ZZ (ZQa ?_);obtain rfl:=Zl H;refine Zf (aq _ _ ⟨_,_,I,k,v,e,_,rfl,(leT (leR _) M),(S.fr' rfl),B,C,ac⟩)
 rintro f w ⟨o,s,t,p,u,L,G,hq,a8,S,aM,aN,aO⟩;subst hq;have H:=ap;refine Zf (al _ _ (Zi fun _ aP=>bO H fun a9 aQ H=>Zp (mv S rfl fun f S=>?_)));obtain ⟨ba,bb,S,aR⟩:=S.pubSlice (i:=0) (A:=(Zc .u64)) (l:=o) (ℓ':=[]) rfl rfl aN aM rfl;refine opc S rfl (Z7 S [.slice (mkA t) p u] ZKe rfl rfl) (Zwe S.vin (show Rep.rel (Zz (Zc .u64)) _ [.slice (mkA t) p u] o from aR) aQ) ?_;rintro _ bc f w bd ⟨be,rfl,ag⟩ S;obtain ⟨aS,aT,aU,rfl⟩:=Zda ag;refine mv S rfl fun f S=>mw S rfl fun f S=>mw S rfl fun f S=>Zn (Zf (aP _ _ (wp_ret ?_)));obtain rfl:=Zl H;refine Zxa S (Zoe rfl (ZR S rfl) (ZR S rfl)) ⟨[.slice aS aT aU],[.int .u64 s],rfl,ag,(ZC aO)⟩
theorem ZLm {c:World} {b:Zb} (hv:VIn b c) {d:List Value} {a:Nat} (i:Rep.rel Zr b d a) {e:List Value} {n:Int} (f:Rep.rel (Zc .u64) b e n) {z:Nat×Int} (hm:ZDd a n=some z) :
  Ret Tryz.prog 59 #[Zr.val d,(Zc .u64).val e] c b (fun y v'=>∃ g h,y=Value.tuple #[Zr.val g,(Zc .u64).val h]∧Zr.rel v' g z.1∧(Zc .u64).rel v' h z.2) :=
 Z4q hv i f (ZYq f.2 hm)
theorem cmp_w {m:World} {e:Zb} (hv:VIn e m) {A:List Value} {a:(List Int)} (c:Rep.rel (Zz (Zc .u64)) e A a) {B:List Value} {b:(List Int)} (d:Rep.rel (Zz (Zc .u64)) e B b) {z:Int} (H:Zzh a b=some z):Ret Tryz.prog 30 #[(Zz (Zc .u64)).val A,(Zz (Zc .u64)).val B] m e (fun y v'=>∃ C,y=(Zc .i64).val C∧(Zc .i64).rel v' C z):=by
 obtain ⟨D,E,G,rfl⟩:=ZXj c;obtain ⟨I,J,L,rfl⟩:=ZXj d;refine Zrb (K:=41) (args:=[.slice D E G,.slice I J L]) hv Tryz.func30 rfl rfl zl fun f S=>?_;unfold Zzh at H;refine sr (mw S rfl fun f S=>oe (Zi fun _ P=>sr (mv S rfl fun f S=>ov S rfl (Z9 S (ZI c) rfl rfl ZB) fun f S=>mv S rfl fun f S=>ov S rfl (Z9 S (ZI d) rfl rfl ZB) fun f S=>ov S rfl (Ze S rfl rfl Zan) fun f S=>oe ?_)));rcases ZJ (((a.length:Int)) != ((b.length:Int))) with g | g
 ·have H:=ZK H g;refine ZQ S rfl g (Zi fun _ Q=>sr (mv S rfl fun f S=>ov S rfl (Z9 S (ZI c) rfl rfl ZB) fun f S=>mv S rfl fun f S=>ov S rfl (Z9 S (ZI d) rfl rfl ZB) fun f S=>ov S rfl (Ze S rfl rfl ZHb) fun f S=>oe ?_));rcases ZJ (decide ((a.length:Int)<(b.length:Int))) with h | h
  ·have H:=ZK H h;refine ZQ S rfl h (sr (mw S rfl fun f S=>oe (wp_ret (ZNa (ZNa ?_)))));obtain rfl:=Zl H;refine Zxa S (ZFa rfl (ZR S rfl)) ⟨[.int .i64 (-1:Int)],rfl,(ZC (by decide))⟩
  have H:=ZL H h;refine ZM S rfl h (wp_skip (Zf (Q _ _ (sr (mw S rfl fun f S=>oe (wp_ret (ZNa ?_)))))));obtain rfl:=Zl H;refine Zxa S (ZFa rfl (ZR S rfl)) ⟨[.int .i64 1],rfl,(ZC (by decide))⟩
 have H:=ZL H g;refine ZM S rfl g (wp_skip (Zf (P _ _ (Zi fun _ R=>Zi fun _ T=>bO H fun ar M H=>Zp (mv S rfl fun f S=>ov S rfl (Z9 S (ZI c) rfl rfl ZB) fun f S=>ov S rfl (Ze S rfl rfl (Zta M)) fun f S=>mw S rfl fun f S=>Zn (Zf (T _ _ ?_)))))));obtain ⟨U,V,o⟩:=ZF H;refine Zla (fun f w=>∃  (p:Zb),(.inl (()))=U∧Zb.le e p∧St 41 m e [] [] p f w) (fun _ W=>?_) ?_
 ·have H:=V;refine wp_block ?_;obtain ⟨au,X,q⟩:=ZF H;refine Zfb X (fun Y f w=>∃ i r,i=Y∧Zb.le e r∧St 41 m e [(0,.slice D E G),(1,.slice I J L),(5,.int .i64 i)] [] r f w∧inR .i64 i) ⟨_,_,rfl,(leR _),(S.fr' rfl),(Zna M).2⟩ ?_;rintro _ f w st ⟨i,r,hq,n,S,av⟩ H aw Z s;subst hq;refine Zi fun _ aa=>sr (mv S rfl fun f S=>ov S rfl (Ze S rfl rfl Z2b) fun f S=>oe ?_);rcases ZJ (decide ((0:Int)≤i)) with j | j
  ·have H:=ZK H j;refine ZQ S rfl j (wp_skip (Zf (aa _ _ (Zi fun _ ab=>wp_block (Zi fun _ ac=>Zi fun _ ad=>bO H fun ae t H=>bO H fun af u H=>ZTd (fl:=#[true,true,true,true,true,true,true,true,true]) ZFe (by kernel_rfl) S ?_)))));intro ops O F w S;refine rfa O F 0 rfl rfl S (Zv S rfl) fun f S=>rfa O F 1 rfl rfl S (Zv S rfl) fun f S=>?_;have c:=Z8 n c;obtain ⟨_,ax,ay,az,rfl,ag,ah⟩:=ZWa c (Zg t).2.1;obtain ⟨rfl,aA⟩:=ah;refine rfa O F 2 rfl rfl S (ZN S rfl rfl ZB (Zg t).1 (ltI (ZI c) (Zg t).2.2.1)) fun f S=>rfa O F 3 rfl rfl S (Zea S rfl Z5 (S.view ag)) fun f S=>rfa O F 4 rfl rfl S (Zv S rfl) fun f S=>rfa O F 5 rfl rfl S (Zv S rfl) fun f S=>?_;have d:=Z8 n d;obtain ⟨_,aB,aC,aD,rfl,ai,aj⟩:=ZWa d (Zg u).2.1;obtain ⟨rfl,aE⟩:=aj;refine rfa O F 6 rfl rfl S (ZN S rfl rfl ZB (Zg u).1 (ltI (ZI d) (Zg u).2.2.1)) fun f S=>rfa O F 7 rfl rfl S (Zea S rfl Z5 (S.view ai)) fun f S=>rfa O F 8 rfl rfl S (Ze S rfl rfl ZHb) fun f S=>Zfe O F (Zf (ad _ _ ?_));rcases ZJ (decide (ae<af)) with k | k
   ·have H:=ZK H k;refine ZQ S rfl k (sr (mw S rfl fun f S=>oe (wp_ret (ZNa (Zkf (ZNa ?_))))));obtain rfl:=Zl H;have hq:=s _ rfl;subst hq;have H:=q;refine ZNa (Zkf ?_);obtain rfl:=Zl H;have H:=o;refine ZNa (ZNa ?_);obtain rfl:=Zl H;refine Zxa S (ZFa rfl (ZR S rfl)) ⟨[.int .i64 (-1:Int)],rfl,(ZC (by decide))⟩
   have H:=ZL H k;refine ZM S rfl k (wp_skip (Zf (ac _ _ (Zi fun _ ak=>bO H fun al v H=>bO H fun am x H=>ZTd (fl:=#[true,true,true,true,true,true,true,true,true]) ZFe (by kernel_rfl) S ?_))));intro ops O F w S;refine rfa O F 0 rfl rfl S (Zv S rfl) fun f S=>rfa O F 1 rfl rfl S (Zv S rfl) fun f S=>?_;obtain ⟨aF,an,ao⟩:=ZJf c (Zg v).2.1;obtain ⟨rfl,aG⟩:=ao;refine rfa O F 2 rfl rfl S (ZN S rfl rfl ZB (Zg v).1 (ltI (ZI c) (Zg v).2.2.1)) fun f S=>rfa O F 3 rfl rfl S (Zea S rfl Z5 (S.view an)) fun f S=>rfa O F 4 rfl rfl S (Zv S rfl) fun f S=>rfa O F 5 rfl rfl S (Zv S rfl) fun f S=>?_;obtain ⟨aH,ap,aq⟩:=ZJf d (Zg x).2.1;obtain ⟨rfl,aI⟩:=aq;refine rfa O F 6 rfl rfl S (ZN S rfl rfl ZB (Zg x).1 (ltI (ZI d) (Zg x).2.2.1)) fun f S=>rfa O F 7 rfl rfl S (Zea S rfl Z5 (S.view ap)) fun f S=>rfa O F 8 rfl rfl S (Ze S rfl rfl Zuc) fun f S=>Zfe O F (Zf (ak _ _ ?_));rcases ZJ (decide (am<al)) with l | l
   ·have H:=ZK H l;refine ZQ S rfl l (sr (mw S rfl fun f S=>oe (wp_ret (Zkf (ZNa ?_)))));obtain rfl:=Zl H;have hq:=s _ rfl;subst hq;have H:=q;refine ZNa (Zkf ?_);obtain rfl:=Zl H;have H:=o;refine ZNa (ZNa ?_);obtain rfl:=Zl H;refine Zxa S (ZFa rfl (ZR S rfl)) ⟨[.int .i64 1],rfl,(ZC (by decide))⟩
   have H:=ZL H l;refine ZM S rfl l (wp_skip (Zdb (Zf (ab _ _ (bO H fun aJ N H=>Zp (mv S rfl fun f S=>ov S rfl (Ze S rfl rfl (Zta N)) fun f S=>mw S rfl fun f S=>Zn ?_))))));obtain rfl:=Zl H;refine Z _ rfl _ _ ⟨_,_,rfl,n,(S.fr' rfl),(Zna N).2⟩
  have H:=ZL H j;refine ZM S rfl j (wp_exit (ZZ ?_));obtain rfl:=Zl H;have hq:=s _ rfl;subst hq;have H:=q;refine ZZ (ZQa ?_);obtain rfl:=Zl H;refine Zf (W _ _ ⟨_,rfl,(leT (leR _) n),(S.fr' rfl)⟩)
 rintro f w ⟨p,hq,aK,S⟩;subst hq;have H:=o;refine Zf (R _ _ (sr (mw S rfl fun f S=>oe (wp_ret ?_))));obtain rfl:=Zl H;refine Zxa S (ZFa rfl (ZR S rfl)) ⟨[.int .i64 0],rfl,(ZC (by decide))⟩
theorem cmp_c {d:World} {c:Zb} (hv:VIn c d) {e:List Value} {a:Nat} (f:Rep.rel Zr c e a) {g:List Value} {b:Nat} (h:Rep.rel Zr c g b) {z:Int} (hm:ZAc a b=some z) :
  Ret Tryz.prog 30 #[Zr.val e,Zr.val g] d c (fun y v'=>∃ i,y=(Zc .i64).val i∧(Zc .i64).rel v' i z) :=
 cmp_w hv f h ((ZPo (ZUh f) (ZUh h)).trans hm)
theorem mul64_w {e:World} {a:Zb} (hv:VIn a e) {g:List Value} {x:Int} (l:Rep.rel (Zc .u64) a g x) {h:List Value} {y:Int} (m:Rep.rel (Zc .u64) a h y) {z:Int×Int} (H:ZIf x y=some z):Ret Tryz.prog 44 #[(Zc .u64).val g,(Zc .u64).val h] e a (fun y v'=>∃ i c,y = .tuple #[(Zc .u64).val i,(Zc .u64).val c]∧(Zc .u64).rel v' i z.1∧(Zc .u64).rel v' c z.2):=by
 obtain ⟨rfl,c⟩:=l;obtain ⟨rfl,B⟩:=m;refine Zrb (K:=51) (args:=[.int .u64 x,.int .u64 y]) hv Tryz.func44 rfl rfl zl fun f S=>?_;unfold ZIf at H;refine sr (mw S rfl fun f S=>mw S rfl fun f S=>oe (sr (mv S rfl fun f S=>ov S rfl (Ze S rfl rfl ZTf) fun f S=>mw S rfl fun f S=>oe (Zi fun _ n=>bO H fun b o H=>Zp (mv S rfl fun f S=>ov S rfl (Ze S rfl rfl (Zpb o)) fun f S=>?_)))));refine mw S rfl fun f S=>Zn (Zf (n _ _ (sr (mv S rfl fun f S=>ov S rfl (Ze S rfl rfl ZTf) fun f S=>mw S rfl fun f S=>oe (Zi fun _ p=>bO H fun d q H=>Zp (mv S rfl fun f S=>ov S rfl (Ze S rfl rfl (Zpb q)) fun f S=>mw S rfl fun f S=>?_))))));refine Zn (Zf (p _ _ (sr (mv S rfl fun f S=>mv S rfl fun f S=>ov S rfl (Ze S rfl rfl Z6a) fun f S=>mw S rfl fun f S=>oe (Zi fun _ r=>bO H fun s t H=>Zp (mv S rfl fun f S=>mv S rfl fun f S=>ov S rfl (Ze S rfl rfl Z6a) fun f S=>?_))))));refine mv S rfl fun f S=>ov S rfl (Ze S rfl rfl (Zpb t)) fun f S=>ov S rfl (Ze S rfl rfl ZCb) fun f S=>mw S rfl fun f S=>Zn ?_;have S:=S.fr' (σ':=[(0,.int .u64 x),(1,.int .u64 y),(6,.int .u64 (Z0 .u64 x (4294967295:Int))),(7,.int .u64 b),(9,.int .u64 d),(11,.int .u64 (IntKind.u64.wrap ((IntKind.u64.wrap (b*(Z0 .u64 y (4294967295:Int))))+s)))]) rfl;refine Zf (r _ _ (sr (mv S rfl fun f S=>ov S rfl (Ze S rfl rfl ZTf) fun f S=>mw S rfl fun f S=>oe (Zi fun _ u=>bO H fun j v H=>Zp (mv S rfl fun f S=>ov S rfl (Ze S rfl rfl (Zpb v)) fun f S=>mw S rfl fun f S=>Zn (Zf (u _ _ ?_)))))))
 refine sr (mv S rfl fun f S=>mv S rfl fun f S=>mv S rfl fun f S=>ov S rfl (Ze S rfl rfl Z6a) fun f S=>ov S rfl (Ze S rfl rfl ZCb) fun f S=>mw S rfl fun f S=>oe (Zi fun _ w=>bO H fun k A H=>Zp (mv S rfl fun f S=>mv S rfl fun f S=>ov S rfl (Ze S rfl rfl Z6a) fun f S=>?_)));refine mv S rfl fun f S=>ov S rfl (Ze S rfl rfl ZCb) fun f S=>mv S rfl fun f S=>ov S rfl (Ze S rfl rfl (Zpb A)) fun f S=>ov S rfl (Ze S rfl rfl ZCb) fun f S=>mw S rfl fun f S=>Zn (Zf (w _ _ (sr (mv S rfl fun f S=>mv S rfl fun f S=>ov S rfl (Ze S rfl rfl Z6a) fun f S=>mw S rfl fun f S=>?_))));have S:=S.fr' (σ':=[(4,.int .u64 (IntKind.u64.wrap ((IntKind.u64.wrap ((IntKind.u64.wrap (b*d))+j))+k))),(5,.int .u64 (IntKind.u64.wrap (x*y)))]) rfl;refine oe (wp_ret ?_);obtain rfl:=Zl H;refine Zxa S (Zoe rfl (ZR S rfl) (ZR S rfl)) ⟨[.int .u64 (IntKind.u64.wrap ((IntKind.u64.wrap ((IntKind.u64.wrap (b*d))+j))+k))],[.int .u64 (IntKind.u64.wrap (x*y))],rfl,(ZC (Zia _ _)),(ZC (Zia _ _))⟩
theorem ZIk {b:World} {a:Zb} (hv:VIn a b) {c:List Value} {x:Int} (g:Rep.rel (Zc .u64) a c x) {d:List Value} {y:Int} (h:Rep.rel (Zc .u64) a d y) {z:Int×Int} (hm:Z5b x y=some z) :
  Ret Tryz.prog 44 #[(Zc .u64).val c,(Zc .u64).val d] b a (fun y v'=>∃ e f,y=Value.tuple #[(Zc .u64).val e,(Zc .u64).val f]∧(Zc .u64).rel v' e z.1∧(Zc .u64).rel v' f z.2) :=
 mul64_w hv g h (ZMm hm)
theorem take_w {R:World} {o:Zb} (hv:VIn o R) {a off0 g C:Nat} {E:TypeId} {pre0 cs0 post0:List Value} {u:(List Int)} (bf:R.heap[a]? = some (.cells (pre0++cs0++post0).toArray E (0,0))) (aG:off0=pre0.length) (bg:o a=none) (au:g=u.length) (bh:g≤C∧C≤maxLen) (r:Rep.rels (Zc .u64) o cs0 u) {c1:List Value} {v:Nat} (D:Rep.rel Zr o c1 v) {c2:List Value} {q:Int} (p2:Rep.rel (Zc .u64) o c2 q) {z:Bool×(List Int)} (H:ZAg u v q=some z):RetL Tryz.prog 93 #[.slice (some ⟨a,off0,none⟩) g C,Zr.val c1,(Zc .u64).val c2] R o [a] (fun y v' w'=>(∃ r0,y=Zzc.val r0∧Zzc.rel v' r0 z.1)∧v' a=none∧∃ cs,w'.heap[a]? = some (.cells (pre0++cs++post0).toArray E (0,0))∧g=z.2.length∧Rep.rels (Zc .u64) v' cs z.2):=by
 obtain ⟨q1,V,W,rfl⟩:=Zda D;obtain ⟨rfl,r4⟩:=p2;refine Zkm (K:=79) (args:=[.slice (some ⟨a,off0,none⟩) (g) C,.slice q1 V W,.int .u64 q]) hv bf bg Tryz.func93 rfl rfl zl fun f S=>?_;unfold ZAg at H;refine sr (mw S rfl fun f S=>oe (Zi fun _ bi=>bO H fun J bj H=>bO H fun cF av H=>Zp (mv S rfl fun f S=>ov S rfl (Z9 S (ZI D) rfl rfl ZB) fun f S=>ov S rfl (Ze S rfl rfl (ZEa bj)) fun f S=>?_)));obtain ⟨aH,aQ⟩:∃ c:List Value,c=(List.replicate (J).toNat [.int .u64 0]).flatten:=⟨_,rfl⟩;obtain ⟨aR,w,bk,S⟩:=ZLg ZEd S (l:=J) (c:=J) (ZDa av).1 (ZDa av).2.1 (ZDa av).2.2.1 (ZDa av).2.2.2 aQ;have bm:Rep.rels (Zc .u64) o aH (List.replicate (J).toNat (0:Int)):=by rw [aQ];exact Zmd (show Rep.rel (Zc .u64) _ [.int .u64 0] _ from (ZC (by decide))) _
 refine Zhb wn rfl zl (bk rfl rfl) S fun f S=>mw S rfl fun f S=>Zn (Zf (bi _ _ (sr (mw S rfl fun f S=>oe (Zi fun _ bn=>sr (mv S rfl fun f S=>ov S rfl (Z9 S (ZI D) rfl rfl ZB) fun f S=>mv S rfl fun f S=>oe ?_))))));obtain ⟨bo,bp,bq⟩:=ZF H;refine Zla (fun f w=>∃ L b aI s G h X,(L,b)=bo∧Zb.le o X∧St 79 ⟨R,[a]⟩ o [(0,.slice (some ⟨a,off0,none⟩) (g) C),(1,.slice q1 V W),(7,.slice (mkA aI) s G),(8,.int .u64 b)] [Loc.box a E (pre0++cs0++post0),Loc.own aI 80 1 s G h] X f w∧Rep.rels (Zc .u64) X h L∧s=L.length∧inR .u64 b) (fun _ br=>?_) ?_
 ·have H:=bp;refine wp_block ?_;obtain ⟨cG,bs,bt⟩:=ZF H;have S:=S.reorder (ℓ':=[Loc.box a E (pre0++cs0++post0),Loc.own (some aR) 80 1 ((J).toNat) (J).toNat aH]) [1,0] rfl (by decide);refine Zfb bs (fun bu f w=>∃ Y ag m aw M Z I ax,(Y,ag,m)=bu∧Zb.le o ax∧St 79 ⟨R,[a]⟩ o [(0,.slice (some ⟨a,off0,none⟩) (g) C),(1,.slice q1 V W),(2,.int .u64 q),(7,.slice (mkA aw) M Z),(8,.int .u64 ag),(20,.slice q1 V W),(21,.int .i64 ((((Zd 18446744073709551616 v)).length:Int))),(22,.int .i64 m)] [Loc.box a E (pre0++cs0++post0),Loc.own aw 80 1 M Z I] ax f w∧Rep.rels (Zc .u64) ax I Y∧M=Y.length∧inR .u64 ag∧inR .i64 m) ⟨_,_,_,some aR,(J).toNat,(J).toNat,aH,_,rfl,(leR _),(S.fr' rfl),bm,(repN (x:=(0:Int))),(by decide),(by decide)⟩ ?_;rintro _ f w st ⟨Y,ag,m,aw,M,Z,I,ax,hq,ay,S,ah,ai,bv,cH⟩ H cI bw bx;subst hq;have r:=ZU ay r;refine sr (ov S rfl (Ze S rfl rfl ZHb) fun f S=>oe (Zi fun _ bz=>?_));rcases ZJ (decide (m<(((Zd 18446744073709551616 v)).length:Int))) with aj | aj
  ·have H:=ZK H aj;refine ZQ S rfl aj (wp_skip (Zf (bz _ _ (Zi fun _ bA=>wp_block (Zi fun _ bB=>bO H fun aJ aK H=>Zp (mv S rfl fun f S=>?_))))));have D:=Z8 ay D;obtain ⟨_,aS,aT,cJ,rfl,bC,bD⟩:=ZWa D (Zg aK).2.1;obtain ⟨rfl,bE⟩:=bD;refine ov S rfl (ZN S rfl rfl ZB (Zg aK).1 (ltI (ZI D) (Zg aK).2.2.1)) fun f S=>ov S rfl (Zea S rfl Z5 (S.view bC)) fun f S=>mw S rfl fun f S=>mw S rfl fun f S=>Zn (Zf (bB _ _ (Zi fun _ bG=>bO H fun aU bH H=>Zp (mv S rfl fun f S=>mv S rfl fun f S=>opc S rfl (Z7 S [.int .u64 aJ,.int .u64 q] Zik rfl rfl) (ZIk S.vin (show Rep.rel (Zc .u64) _ [.int .u64 aJ] aJ from (ZC bE)) (show Rep.rel (Zc .u64) _ [.int .u64 q] q from (ZC r4)) bH) ?_))));rintro _ aV f w aL ⟨cK,cL,rfl,bI,bJ⟩ S;have r:=ZU aL r;have ah:=ZU aL ah;obtain ⟨rfl,cM⟩:=bI;obtain ⟨rfl,cN⟩:=bJ;refine mv S rfl fun f S=>ov S rfl (Zpa S rfl rfl) fun f S=>ov S rfl (Zpa S rfl rfl) fun f S=>mw S rfl fun f S=>mw S rfl fun f S=>Zn (Zf (bG _ _ (sr (mw S rfl fun f S=>oe (Zi fun _ bK=>bO H fun N aW H=>bO H fun cO aa H=>Zp ?_)))));refine mv S rfl fun f S=>mv S rfl fun f S=>mv S rfl fun f S=>mv S rfl fun f S=>ov S rfl (ZWi S [.int .u64 (aU.2),.int .u64 ag,.int .u64 0] (ZOl Z1l aW) rfl rfl) fun f S=>mv S rfl fun f S=>ov S rfl (Zpa S rfl rfl) fun f S=>ov S rfl (Zpa S rfl rfl) fun f S=>?_
   obtain ⟨aX,rfl⟩:=ZKc S (j:=1) rfl (posN ai (Zg aa).2.2.2);have aY:=Zha ah (Zg aa).2.1;obtain ⟨cP,bM⟩:∃ c,(List.take (Zc .u64).n (List.drop ((m).toNat*(Zc .u64).n) I))=c:=⟨_,rfl⟩;rw [bM] at aY;obtain ⟨rfl,cQ⟩:=aY;refine ov S rfl (ZN S rfl rfl ZB (Zg aa).1 (ltI ai (Zg aa).2.2.1)) fun f S=>?_;obtain ⟨w,bP,S⟩:=ZBb S Z5 (off:=0+(m).toNat*1) (z:=.int .u64 (N.1)) (cs:=[.int .u64 (N.1)]) (Zkb rfl) rfl (i:=1) rfl (Zad S (j:=1) rfl (ltN ai (Zg aa).2.2.2)) (by first | rfl | simp [plain]);have bQ:Rep.rels (Zc .u64) aV (List.take (0+(m).toNat*1) I++[Value.int IntKind.u64 (N.1)]++List.drop (0+(m).toNat*1+1) I) (Y.set (m).toNat N.1):=Zvc ah (Zg aa).2.2.2 (show Rep.rel (Zc .u64) aV [.int .u64 (N.1)] _ from (ZC (Z6j aW))) rfl rfl;have bR:M=(Y.set (m).toNat N.1).length:=ZRc ai;refine Z8e wn rfl (bP rfl rfl) (mw S rfl fun f S=>Zn ?_);have S:=S.fr' (σ':=[(0,.slice (some ⟨a,off0,none⟩) (g) C),(1,.slice (some ⟨aS,aT,none⟩) V W),(2,.int .u64 q),(7,.slice (mkA (some aX)) (M) Z),(11,.int .u64 (aU.1)),(13,.int .u64 (N.2)),(20,.slice (some ⟨aS,aT,none⟩) V W),(21,.int .i64 ((((Zd 18446744073709551616 v)).length:Int))),(22,.int .i64 m)]) rfl
   refine Zf (bK _ _ (Zp (mv S rfl fun f S=>mv S rfl fun f S=>ov S rfl (Ze S rfl rfl ZCb) fun f S=>mw S rfl fun f S=>Zn (Zdb (Zf (bA _ _ (bO H fun cR aZ H=>Zp (ov S rfl (Ze S rfl rfl (ZEa aZ)) fun f S=>mv S rfl fun f S=>Zn ?_))))))));obtain rfl:=Zl H;refine bw _ rfl _ _ ⟨_,_,_,some aX,M,Z,(List.take (0+(m).toNat*1) I++[Value.int IntKind.u64 (N.1)]++List.drop (0+(m).toNat*1+1) I),_,rfl,(leT ay aL),(S.fr' rfl),bQ,bR,(Zia _ _),(Zna aZ).2⟩
  have H:=ZL H aj;refine ZM S rfl aj (wp_exit (ZZ ?_));obtain rfl:=Zl H;have hq:=bx _ rfl;subst hq;have H:=bt;refine ZZ (ZQa ?_);obtain rfl:=Zl H;refine Zf (br _ _ ⟨_,_,aw,M,Z,I,_,rfl,(leT (leR _) ay),(S.fr' rfl),ah,ai,bv⟩)
 rintro f w ⟨L,b,aI,s,G,h,X,hq,a0,S,a1,az,bS⟩;subst hq;have H:=bq;have r:=ZU a0 r;refine Zf (bn _ _ (Zi fun _ bT=>bO H fun cS ab H=>Zp (mv S rfl fun f S=>mv S rfl fun f S=>?_)));have D:=Z8 a0 D;refine ov S rfl (Z9 S (ZI D) rfl rfl ZB) fun f S=>mv S rfl fun f S=>?_;obtain ⟨ac,rfl⟩:=ZKc S (j:=1) rfl (posN az (Zg ab).2.2.2);have a2:=Zha a1 (Zg ab).2.1;obtain ⟨cT,bU⟩:∃ c,(List.take (Zc .u64).n (List.drop (((((Zd 18446744073709551616 v)).length:Int)).toNat*(Zc .u64).n) h))=c:=⟨_,rfl⟩;rw [bU] at a2;obtain ⟨rfl,cU⟩:=a2;refine ov S rfl (ZN S rfl rfl ZB (Zg ab).1 (ltI az (Zg ab).2.2.1)) fun f S=>?_;obtain ⟨w,bV,S⟩:=ZBb S Z5 (off:=0+((((Zd 18446744073709551616 v)).length:Int)).toNat*1) (z:=.int .u64 b) (cs:=[.int .u64 b]) (Zkb rfl) rfl (i:=1) rfl (Zad S (j:=1) rfl (ltN az (Zg ab).2.2.2)) (by first | rfl | simp [plain]);have p:Rep.rels (Zc .u64) X (List.take (0+((((Zd 18446744073709551616 v)).length:Int)).toNat*1) h++[Value.int IntKind.u64 (b)]++List.drop (0+((((Zd 18446744073709551616 v)).length:Int)).toNat*1+1) h) (L.set ((((Zd 18446744073709551616 v)).length:Int)).toNat b):=Zvc a1 (Zg ab).2.2.2 (show Rep.rel (Zc .u64) X [.int .u64 b] _ from (ZC bS)) rfl rfl
 have aM:s=(L.set ((((Zd 18446744073709551616 v)).length:Int)).toNat b).length:=ZRc az;refine Z8e wn rfl (bV rfl rfl) (Zn (Zf (bT _ _ (Zi fun _ bW=>Zi fun _ bX=>bO H fun cV bY H=>bO H fun cW bZ H=>bO H fun b1 b2 H=>Zp (mv S rfl fun f S=>?_)))));have p0s120:=r;have h69s120:=p;have b3:=S.vst.le;obtain ⟨cX,cY,a3,t,S,b4,b5,b6,T⟩:=S.lendSeg (i:=0) (A:=(Zc .u64)) (l:=u) (ℓ':=[Loc.own (some ac) 80 1 s G ((List.take (0+((((Zd 18446744073709551616 v)).length:Int)).toNat*1) h++[Value.int IntKind.u64 (b)]++List.drop (0+((((Zd 18446744073709551616 v)).length:Int)).toNat*1+1) h))]) rfl rfl aG r au bh;have p:=ZU a3 p;refine opc S rfl (Z7 S [.slice (some ⟨a,off0,none⟩) (g) C] ZKe rfl rfl) (Zwe S.vin (show Rep.rel (Zz (Zc .u64)) _ [.slice (some ⟨a,off0,none⟩) (g) C] u from T) bY) ?_;rintro _ cZ f w aA ⟨c0,rfl,P⟩ S;have p:=ZU aA p;have t:=aA _ _ t;obtain ⟨b7,b8,b9,rfl⟩:=Zda P;refine mv S rfl fun f S=>?_;have T:=Z8 aA T;have h128s137:=T;have h69s137:=p;have h133s137:=P;have h124s137:=t;have ca:=S.vst.le;obtain ⟨c3,c4,aB,ak,S,cb,cc,cd,ce⟩:=S.lendSlice (i:=0) (A:=(Zc .u64)) (l:=(L.set ((((Zd 18446744073709551616 v)).length:Int)).toNat b)) (ℓ':=[]) rfl rfl rfl p aM
 have t:=aB _ _ t;refine opc S rfl (Z7 S [.slice (mkA (some ac)) (s) G] ZKe rfl rfl) (Zwe S.vin (show Rep.rel (Zz (Zc .u64)) _ [.slice (mkA (some ac)) (s) G] ((L.set ((((Zd 18446744073709551616 v)).length:Int)).toNat b)) from ce) bZ) ?_;rintro _ c5 f w al ⟨c6,rfl,a4⟩ S;have t:=al _ _ t;have ak:=al _ _ ak;obtain ⟨cg,ch,ci,rfl⟩:=Zda a4;have P:=Z8 (leT aB al) P;refine opc S rfl (Z7 S [.slice b7 b8 b9,.slice cg ch ci] Zap rfl rfl) (cmp_c S.vin P a4 b2) ?_;rintro _ c7 f w am ⟨c8,rfl,cj⟩ S;have t:=am _ _ t;have ak:=am _ _ ak;obtain ⟨rfl,c9⟩:=cj;refine ov S rfl (Ze S rfl rfl ZHb) fun f S=>Zn ?_;obtain ⟨da,an,S⟩:=S.takeBack (e:=Loc.own (some ac) 80 1 s G ((List.take (0+((((Zd 18446744073709551616 v)).length:Int)).toNat*1) h++[Value.int IntKind.u64 (b)]++List.drop (0+((((Zd 18446744073709551616 v)).length:Int)).toNat*1+1) h))) (leT (leT aB al) am) rfl ak cb cc ca cd;have T:=Z8 (leT (leT aB al) am) T;have T:=Z8 an h128s137;have p:=ZU an h69s137;have P:=Z8 am P;have P:=Z8 an h133s137;have t:=an _ _ h124s137;obtain ⟨a5,a6,S⟩:=S.takeBack (e:=Loc.box a E (pre0++cs0++post0)) (leT (leT a3 aA) an) rfl t b4 b5 b3 b6;have r:=ZU a6 p0s120
 have p:=ZU a6 h69s120;refine Zf (bX _ _ ?_);rcases ZJ (decide (b1<(0:Int))) with ao | ao
 ·have H:=ZK H ao;refine ZQ S rfl ao (sr (mw S rfl fun f S=>oe (wp_ret (ZNa ?_))));obtain rfl:=Zl H;refine ZLl S (ZFa rfl (ZR S rfl)) ⟨⟨[.bool false],rfl,Zum⟩,(S.boxAt (j:=0) rfl).2,_,(S.boxAt (j:=0) rfl).1,au,r⟩
 have H:=ZL H ao;refine ZM S rfl ao (wp_skip (Zf (bW _ _ (sr (mw S rfl fun f S=>oe (Zi fun _ ck=>sr (mv S rfl fun f S=>ov S rfl (Z9 S au rfl rfl ZB) fun f S=>mv S rfl fun f S=>oe ?_)))))));obtain ⟨cl,cm,cn⟩:=ZF H;refine Zla (fun f w=>∃ aC aN aD,aC=cl∧Zb.le a5 aD∧St 79 ⟨R,[a]⟩ o [] [Loc.box a E (pre0++aN++post0)] aD f w∧Rep.rels (Zc .u64) aD aN aC∧g=aC.length) (fun _ co=>?_) ?_
 ·have H:=cm;refine wp_block ?_;obtain ⟨db,cp,cq⟩:=ZF H;refine Zfb cp (fun cr f w=>∃ ad ap d B ae,(ad,ap,d)=cr∧Zb.le a5 ae∧St 79 ⟨R,[a]⟩ o [(0,.slice (some ⟨a,off0,none⟩) (g) C),(7,.slice (mkA (some ac)) (s) G),(14,.int .u64 ap),(58,.int .i64 ((u.length:Int))),(59,.int .i64 d)] [Loc.box a E (pre0++B++post0),Loc.own (some ac) 80 1 s G ((List.take (0+((((Zd 18446744073709551616 v)).length:Int)).toNat*1) h++[Value.int IntKind.u64 (b)]++List.drop (0+((((Zd 18446744073709551616 v)).length:Int)).toNat*1+1) h))] ae f w∧Rep.rels (Zc .u64) ae B ad∧g=ad.length∧inR .u64 ap∧inR .i64 d) ⟨_,_,_,cs0,_,rfl,(leR _),(S.fr' rfl),r,au,(by decide),(by decide)⟩ ?_;rintro _ f w st ⟨ad,ap,d,B,ae,hq,aO,S,af,Q,dc,dd⟩ H de ct cu;subst hq;have p:=ZU aO p;refine sr (ov S rfl (Ze S rfl rfl ZHb) fun f S=>oe (Zi fun _ cv=>?_));rcases ZJ (decide (d<(u.length:Int))) with aq | aq
  ·have H:=ZK H aq;refine ZQ S rfl aq (wp_skip (Zf (cv _ _ (Zi fun _ cw=>wp_block (sr (mv S rfl fun f S=>mw S rfl fun f S=>oe (bO H fun a7 aE H=>bO H fun a8 aF H=>bO H fun U aP H=>bO H fun df ar H=>ZTd (fl:=#[true,true,true,true,true,true,true,true,true,true,true,false,true,true,true,true,false,false]) ZFe (by kernel_rfl) S ?_)))))));intro ops O F w S;refine rfa O F 0 rfl rfl S (Zv S rfl) fun f S=>rfa O F 1 rfl rfl S (Zv S rfl) fun f S=>rfa O F 2 rfl rfl S (Zv S rfl) fun f S=>rfa O F 3 rfl rfl S (Zv S rfl) fun f S=>?_;have a9:=Zha af (Zg aE).2.1;obtain ⟨dg,ba⟩:∃ c,(List.take (Zc .u64).n (List.drop ((d).toNat*(Zc .u64).n) B))=c:=⟨_,rfl⟩;rw [ba] at a9;obtain ⟨rfl,cx⟩:=a9;refine rfa O F 4 rfl rfl S (ZN S rfl rfl ZB (Zg aE).1 (ltI Q (Zg aE).2.2.1)) fun f S=>rfa O F 5 rfl rfl S (Zea S rfl Z5 (Zeh S (j:=0) rfl aG (ZGd af Q) ba (ltN Q (Zg aE).2.2.2) 0 [.int .u64 a7] rfl zl)) fun f S=>rfa O F 6 rfl rfl S (Zv S rfl) fun f S=>rfa O F 7 rfl rfl S (Zv S rfl) fun f S=>?_;have bb:=Zha p (Zg aF).2.1;obtain ⟨dh,bc⟩:∃ c,(List.take (Zc .u64).n (List.drop ((d).toNat*(Zc .u64).n) (List.take (0+((((Zd 18446744073709551616 v)).length:Int)).toNat*1) h++[Value.int IntKind.u64 (b)]++List.drop (0+((((Zd 18446744073709551616 v)).length:Int)).toNat*1+1) h)))=c:=⟨_,rfl⟩
   rw [bc] at bb;obtain ⟨rfl,cy⟩:=bb;refine rfa O F 8 rfl rfl S (ZN S rfl rfl ZB (Zg aF).1 (ltI aM (Zg aF).2.2.1)) fun f S=>rfa O F 9 rfl rfl S (Zea S rfl Z5 (Zxc S (j:=1) rfl bc (ltN aM (Zg aF).2.2.2) 0 [.int .u64 a8] rfl zl)) fun f S=>rfa O F 10 rfl rfl S (Zv S rfl) fun f S=>go1 O F 11 (nva [5,9,10,4,8,2,3,6,7] [0,1] O rfl rfl S (ZWi S [.int .u64 a7,.int .u64 a8,.int .u64 ap] (Zvm k_ext69 cx cy aP) rfl rfl) fun f S=>⟨(py S rfl rfl (Zv S rfl) (py S rfl rfl (Zv S rfl) Z3b)),rfa O F 12 rfl rfl S (Zv S rfl) fun f S=>rfa O F 13 rfl rfl S (Zpa S rfl rfl) fun f S=>rfa O F 14 rfl rfl S (Zpa S rfl rfl) fun f S=>?_⟩);have bd:=Zha af (Zg ar).2.1;obtain ⟨di,cz⟩:∃ c,(List.take (Zc .u64).n (List.drop ((d).toNat*(Zc .u64).n) B))=c:=⟨_,rfl⟩;rw [cz] at bd;obtain ⟨rfl,dj⟩:=bd;refine rfa O F 15 rfl rfl S (ZN S rfl rfl ZB (Zg ar).1 (ltI Q (Zg ar).2.2.1)) fun f S=>go1 O F 16 ?_;obtain ⟨w,cA,S⟩:=Zmr S (k:=(d).toNat) Z5 (z:=.int .u64 (U.1)) (c:=[.int .u64 (U.1)]) (Zkb rfl) rfl (i:=0) rfl aG (ZGd af Q) (ltN Q (Zg ar).2.2.2) rfl (by first | rfl | simp [plain]);have cB:Rep.rels (Zc .u64) ae (List.take (0+(d).toNat*1) B++[Value.int IntKind.u64 (U.1)]++List.drop (0+(d).toNat*1+1) B) (ad.set (d).toNat U.1):=Zvc af (Zg ar).2.2.2 (show Rep.rel (Zc .u64) ae [.int .u64 (U.1)] _ from (ZC (Zlo aP))) rfl rfl
   have cC:g=(ad.set (d).toNat U.1).length:=ZRc Q;refine nxs [0,1,2,3,4,5,6,7,8,9,10,11,12,13,15] [14] O rfl rfl (cA rfl rfl) (⟨(py S rfl rfl (Zpa S rfl rfl) Z3b),go1 O F 17 (nva [0,1,2,3,4,5,6,7,8,9,10,11,12,13,14,15,16] [] O rfl rfl S (Z3c S rfl) fun f S=>⟨Z3b,Zfe O F (Zdb (Zf (cw _ _ (bO H fun dk be H=>Zp (ov S rfl (Ze S rfl rfl (ZEa be)) fun f S=>mv S rfl fun f S=>Zn ?_)))))⟩)⟩);obtain rfl:=Zl H;refine ct _ rfl _ _ ⟨_,_,_,(List.take (0+(d).toNat*1) B++[Value.int IntKind.u64 (U.1)]++List.drop (0+(d).toNat*1+1) B),_,rfl,aO,(S.fr' rfl),cB,cC,(ZOn aP),(Zna be).2⟩
  have H:=ZL H aq;refine ZM S rfl aq (wp_exit (ZZ ?_));obtain rfl:=Zl H;have hq:=cu _ rfl;subst hq;have H:=cq;refine ZZ (ZQa ?_);obtain rfl:=Zl H;have S:=S.reorder (ℓ':=[Loc.box a E (pre0++B++post0)]) [0] rfl (by decide);refine Zf (co _ _ ⟨_,B,_,rfl,(leT (leR _) aO),(S.fr' rfl),af,Q⟩)
 rintro f w ⟨aC,aN,aD,hq,dl,S,cD,cE⟩;subst hq;have H:=cn;refine Zf (ck _ _ (sr (mw S rfl fun f S=>oe (wp_ret ?_))));obtain rfl:=Zl H;refine ZLl S (ZFa rfl (ZR S rfl)) ⟨⟨[.bool true],rfl,Zum⟩,(S.boxAt (j:=0) rfl).2,_,(S.boxAt (j:=0) rfl).1,cE,cD⟩
theorem take_c {d:World} {a:Zb} (hv:VIn a d) {b off0 c e:Nat} {f:TypeId} {pre0 cs0 post0:List Value} {u:(List Int)} (l:d.heap[b]? = some (.cells (pre0++cs0++post0).toArray f (0,0))) (m:off0=pre0.length) (n:a b=none) (o:c=u.length) (p:c≤e∧e≤maxLen) (g:Rep.rels (Zc .u64) a cs0 u) {h:List Value} {v:Nat} (r:Rep.rel Zr a h v) {i:List Value} {q:Int} (j:Rep.rel (Zc .u64) a i q) {z:Bool×(List Int)} (hm:ZYf u v q=some z) :
  RetL Tryz.prog 93 #[Value.slice (some ⟨b,off0,none⟩) c e,Zr.val h,(Zc .u64).val i] d a [b] (fun y v' w'=>(∃ k,y=Zzc.val k∧Zzc.rel v' k z.1)∧v' b=none∧∃ cs,w'.heap[b]? = some (.cells (pre0++cs++post0).toArray f (0,0))∧c=z.2.length∧Rep.rels (Zc .u64) v' cs z.2) :=
 take_w hv l m n o p g r j (Zcr (Zil g) j.2 hm)
theorem digit_w {x:World} {m:Zb} (hv:VIn m x) {a off0 e h:Nat} {A:TypeId} {pre0 cs0 post0:List Value} {u:(List Int)} (a0:x.heap[a]? = some (.cells (pre0++cs0++post0).toArray A (0,0))) (G:off0=pre0.length) (a1:m a=none) (k:e=u.length) (a2:e≤h∧h≤maxLen) (d:Rep.rels (Zc .u64) m cs0 u) {c1:List Value} {v:Nat} (g:Rep.rel Zr m c1 v) {z:Int×(List Int)} (H:Zjh u v=some z):RetL Tryz.prog 67 #[.slice (some ⟨a,off0,none⟩) e h,Zr.val c1] x m [a] (fun y v' w'=>(∃ r0,y=(Zc .u64).val r0∧(Zc .u64).rel v' r0 z.1)∧v' a=none∧∃ cs,w'.heap[a]? = some (.cells (pre0++cs++post0).toArray A (0,0))∧e=z.2.length∧Rep.rels (Zc .u64) v' cs z.2):=by
 obtain ⟨q1,o,p,rfl⟩:=Zda g;refine Zkm (K:=90) (args:=[.slice (some ⟨a,off0,none⟩) (e) h,.slice q1 o p]) hv a0 a1 Tryz.func67 rfl rfl zl fun f S=>?_;unfold Zjh at H;refine sr (mw S rfl fun f S=>oe (sr (mv S rfl fun f S=>ov S rfl (Z9 S (ZI g) rfl rfl ZB) fun f S=>mw S rfl fun f S=>oe (sr (mw S rfl fun f S=>oe (Zi fun _ a3=>Zi fun _ a4=>bO H fun aE V H=>?_))))));refine bO H fun ck a5 H=>bO H fun a6 aj H=>ZTd (fl:=#[true,true,true,true,true,true,true,true,true,true]) ZFe (by kernel_rfl) S ?_;intro ops O F w S;refine rfa O F 0 rfl rfl S (Zv S rfl) fun f S=>rfa O F 1 rfl rfl S (Zv S rfl) fun f S=>?_;have aF:=Zha d (Zg V).2.1;obtain ⟨cl,aG⟩:∃ c,(List.take (Zc .u64).n (List.drop (((((Zd 18446744073709551616 v)).length:Int)).toNat*(Zc .u64).n) cs0))=c:=⟨_,rfl⟩;rw [aG] at aF;obtain ⟨rfl,cm⟩:=aF;refine rfa O F 2 rfl rfl S (ZN S rfl rfl ZB (Zg V).1 (ltI k (Zg V).2.2.1)) fun f S=>rfa O F 3 rfl rfl S (Zea S rfl Z5 (Zeh S (j:=0) rfl G (ZGd d k) aG (ltN k (Zg V).2.2.2) 0 [.int .u64 aE] rfl zl)) fun f S=>rfa O F 4 rfl rfl S (Zv S rfl) fun f S=>rfa O F 5 rfl rfl S (Zv S rfl) fun f S=>rfa O F 6 rfl rfl S (Ze S rfl rfl (Zta a5)) fun f S=>?_;obtain ⟨_,r,s,cn,rfl,a7,a8⟩:=ZWa g (Zg aj).2.1
 obtain ⟨rfl,co⟩:=a8;refine rfa O F 7 rfl rfl S (ZN S rfl rfl ZB (Zg aj).1 (ltI (ZI g) (Zg aj).2.2.1)) fun f S=>rfa O F 8 rfl rfl S (Zea S rfl Z5 (S.view a7)) fun f S=>rfa O F 9 rfl rfl S (Ze S rfl rfl ZHb) fun f S=>Zfe O F (Zf (a4 _ _ ?_));obtain ⟨a9,ba,bb⟩:=ZF H;refine Zla (fun f w=>∃ W I,W=a9∧Zb.le m I∧St 90 ⟨x,[a]⟩ m [(0,.slice (some ⟨a,off0,none⟩) (e) h),(1,.slice (some ⟨r,s,none⟩) o p),(6,.int .u64 W)] [Loc.box a A (pre0++cs0++post0)] I f w∧inR .u64 W) (fun _ aH=>?_) ?_
 ·have H:=ba;rcases ZJ (decide (aE<a6)) with J | J
  ·have H:=ZK H J;refine ZQ S rfl J (sr (mw S rfl fun f S=>oe (Zi fun _ bc=>bO H fun X Y H=>bO H fun bd be H=>bO H fun Z aa H=>bO H fun cp bf H=>bO H fun ak al H=>bO H fun aI bg H=>ZTd (fl:=#[true,true,true,true,true,true,true,true,true,true,true,true,true,true,false,true,true,true,false,false]) ZFe (by kernel_rfl) S ?_)));intro ops O F w S;refine rfa O F 0 rfl rfl S (Zv S rfl) fun f S=>rfa O F 1 rfl rfl S (Zv S rfl) fun f S=>?_;have aJ:=Zha d (Zg Y).2.1;obtain ⟨cq,aK⟩:∃ c,(List.take (Zc .u64).n (List.drop (((((Zd 18446744073709551616 v)).length:Int)).toNat*(Zc .u64).n) cs0))=c:=⟨_,rfl⟩;rw [aK] at aJ;obtain ⟨rfl,bh⟩:=aJ;refine rfa O F 2 rfl rfl S (ZN S rfl rfl ZB (Zg Y).1 (ltI k (Zg Y).2.2.1)) fun f S=>rfa O F 3 rfl rfl S (Zea S rfl Z5 (Zeh S (j:=0) rfl G (ZGd d k) aK (ltN k (Zg Y).2.2.2) 0 [.int .u64 X] rfl zl)) fun f S=>rfa O F 4 rfl rfl S (Zv S rfl) fun f S=>rfa O F 5 rfl rfl S (Zv S rfl) fun f S=>rfa O F 6 rfl rfl S (Ze S rfl rfl (Zta be)) fun f S=>?_;have aL:=Zha d (Zg aa).2.1;obtain ⟨cr,aM⟩:∃ c,(List.take (Zc .u64).n (List.drop ((bd).toNat*(Zc .u64).n) cs0))=c:=⟨_,rfl⟩;rw [aM] at aL;obtain ⟨rfl,bi⟩:=aL;refine rfa O F 7 rfl rfl S (ZN S rfl rfl ZB (Zg aa).1 (ltI k (Zg aa).2.2.1)) fun f S=>rfa O F 8 rfl rfl S (Zea S rfl Z5 (Zeh S (j:=0) rfl G (ZGd d k) aM (ltN k (Zg aa).2.2.2) 0 [.int .u64 Z] rfl zl)) fun f S=>rfa O F 9 rfl rfl S (Zv S rfl) fun f S=>rfa O F 10 rfl rfl S (Zv S rfl) fun f S=>rfa O F 11 rfl rfl S (Ze S rfl rfl (Zta bf)) fun f S=>?_
   obtain ⟨ct,am,bj⟩:=ZJf g (Zg al).2.1;obtain ⟨rfl,bk⟩:=bj;refine rfa O F 12 rfl rfl S (ZN S rfl rfl ZB (Zg al).1 (ltI (ZI g) (Zg al).2.2.1)) fun f S=>rfa O F 13 rfl rfl S (Zea S rfl Z5 (S.view am)) fun f S=>go1 O F 14 (nxc [3,8,13,2,7,12,0,1,4,6,9,11,5,10] [] O rfl S rfl (Z7 S [.int .u64 X,.int .u64 Z,.int .u64 ak] ZWm rfl rfl) (ZOm S.vin (show Rep.rel (Zc .u64) _ [.int .u64 X] X from (ZC bh)) (show Rep.rel (Zc .u64) _ [.int .u64 Z] Z from (ZC bi)) (show Rep.rel (Zc .u64) _ [.int .u64 ak] ak from (ZC bk)) bg) ?_);rintro _ aN f w ab ⟨cu,cv,rfl,bm,bn⟩ S;have d:=ZU ab d;have am:=Atm ab am;obtain ⟨rfl,bo⟩:=bm;obtain ⟨rfl,bp⟩:=bn;refine ⟨Z3b,rfa O F 15 rfl rfl S (Zv S rfl) fun f S=>rfa O F 16 rfl rfl S (Zpa S rfl rfl) fun f S=>rfa O F 17 rfl rfl S (Zpa S rfl rfl) fun f S=>go1 O F 18 (nva [0,1,2,3,4,5,6,7,8,9,10,11,12,13,14,15,16] [17] O rfl rfl S (Z3c S rfl) fun f S=>⟨(py S rfl rfl (Zpa S rfl rfl) Z3b),go1 O F 19 (nva [0,1,2,3,4,5,6,7,8,9,10,11,12,13,14,15,16,17,18] [] O rfl rfl S (Z3c S rfl) fun f S=>⟨Z3b,Zfe O F ?_⟩)⟩)⟩;have S:=S.fr' (σ':=[(0,.slice (some ⟨a,off0,none⟩) (e) h),(1,.slice (some ⟨r,s,none⟩) o p),(5,.int .i64 ((((Zd 18446744073709551616 v)).length:Int))),(6,.int .u64 (aI.1)),(7,.int .u64 (aI.2))]) rfl
   refine Zf (bc _ _ ?_);obtain ⟨bq,br,bs⟩:=ZF H;refine Zla (fun f w=>∃ ac an,ac=bq∧Zb.le aN an∧St 90 ⟨x,[a]⟩ m [(0,.slice (some ⟨a,off0,none⟩) (e) h),(1,.slice (some ⟨r,s,none⟩) o p),(6,.int .u64 ac)] [Loc.box a A (pre0++cs0++post0)] an f w∧inR .u64 ac) (fun _ aO=>?_) ?_
   ·have H:=br;refine wp_block ?_;obtain ⟨cw,bt,aP⟩:=ZF H;refine Zfb bt (fun bu f w=>∃ q l ao,(q,l)=bu∧Zb.le aN ao∧St 90 ⟨x,[a]⟩ m [(0,.slice (some ⟨a,off0,none⟩) (e) h),(1,.slice (some ⟨r,s,none⟩) o p),(5,.int .i64 ((((Zd 18446744073709551616 v)).length:Int))),(6,.int .u64 q),(7,.int .u64 l)] [Loc.box a A (pre0++cs0++post0)] ao f w∧inR .u64 q∧inR .u64 l) ⟨_,_,_,rfl,(leR _),(S.fr' rfl),bo,bp⟩ ?_;rintro _ f w st ⟨q,l,ao,hq,L,S,aQ,cx⟩ H cy bv aR;subst hq;have d:=ZU L d;refine wp_block (Zi fun _ bw=>bO H fun cz bx H=>bO H fun ap aq H=>bO H fun B bz H=>Zp (mv S rfl fun f S=>mv S rfl fun f S=>mv S rfl fun f S=>ov S rfl (Ze S rfl rfl (Zta bx)) fun f S=>?_));have g:=Z8 (leT ab L) g;obtain ⟨cA,ar,bA⟩:=ZJf g (Zg aq).2.1;obtain ⟨rfl,bB⟩:=bA;refine ov S rfl (ZN S rfl rfl ZB (Zg aq).1 (ltI (ZI g) (Zg aq).2.2.1)) fun f S=>ov S rfl (Zea S rfl Z5 (S.view ar)) fun f S=>opc S rfl (Z7 S [.int .u64 q,.int .u64 ap] Zik rfl rfl) (ZIk S.vin (show Rep.rel (Zc .u64) _ [.int .u64 q] q from (ZC aQ)) (show Rep.rel (Zc .u64) _ [.int .u64 ap] ap from (ZC bB)) bz) ?_;rintro _ bC f w E ⟨cB,cC,rfl,bD,bE⟩ S
    have d:=ZU E d;have ar:=Atm E ar;obtain ⟨rfl,cD⟩:=bD;obtain ⟨rfl,cE⟩:=bE;refine mv S rfl fun f S=>ov S rfl (Zpa S rfl rfl) fun f S=>ov S rfl (Zpa S rfl rfl) fun f S=>mw S rfl fun f S=>mw S rfl fun f S=>Zn (Zf (bw _ _ (Zi fun _ bG=>Zi fun _ bH=>?_)));obtain ⟨bI,bJ,bK⟩:=ZF H;refine Zla (fun f w=>∃ ad au,ad=bI∧Zb.le bC au∧St 90 ⟨x,[a]⟩ m [(0,.slice (some ⟨a,off0,none⟩) (e) h),(1,.slice (some ⟨r,s,none⟩) o p),(5,.int .i64 ((((Zd 18446744073709551616 v)).length:Int))),(6,.int .u64 q),(7,.int .u64 l),(67,.bool ad)] [Loc.box a A (pre0++cs0++post0)] au f w) (fun _ av=>?_) ?_
    ·have H:=bJ;refine Zp (mv S rfl fun f S=>mv S rfl fun f S=>ov S rfl (Ze S rfl rfl ZHb) fun f S=>mv S rfl fun f S=>?_);rcases ZJ (decide (B.1<l)) with M | M
     ·have H:=ZK H M;have S:=S.bool (t:=54) rfl M;refine opn S rfl rfl rfl rfl fun f S=>opn S rfl rfl rfl rfl fun f S=>opn S rfl rfl rfl rfl fun f S=>opn S rfl rfl rfl rfl fun f S=>Zae S (Zgd S rfl rfl rfl zl) rfl zl fun f S=>Zae S (Zgd S rfl rfl rfl zl) rfl zl fun f S=>Zae S (Zgd S rfl rfl rfl zl) rfl zl fun f S=>Zae S (Zgd S rfl rfl rfl zl) rfl zl fun f S=>Zae S (Zgd S rfl rfl rfl zl) rfl zl fun f S=>Zae S (Zgd S rfl rfl rfl zl) rfl zl fun f S=>Zae S (Zgd S rfl rfl rfl zl) rfl zl fun f S=>opn S rfl rfl rfl rfl fun f S=>ov S rfl (Zlb S (b:=true) rfl rfl) fun f S=>Zn ?_;have S:=S.fr' (σ':=[(0,.slice (some ⟨a,off0,none⟩) (e) h),(1,.slice (some ⟨r,s,none⟩) o p),(5,.int .i64 ((((Zd 18446744073709551616 v)).length:Int))),(6,.int .u64 q),(7,.int .u64 l),(55,undef),(56,undef),(57,undef),(58,undef),(59,undef),(60,undef),(61,undef),(62,undef),(63,undef),(64,undef),(65,undef),(66,undef),(67,.bool true)]) rfl;obtain rfl:=Zl H;refine Zf (av _ _ ⟨_,_,rfl,(leR _),(S.fr' rfl)⟩)
     have H:=ZL H M;have S:=S.bool (t:=54) rfl M;refine opy S rfl rfl rfl rfl (Zv S rfl) fun f S=>opy S rfl rfl rfl rfl (Zv S rfl) fun f S=>opy S rfl rfl rfl rfl (Ze S rfl rfl Zsd) fun f S=>opy S rfl rfl rfl rfl (Zv S rfl) fun f S=>?_;rcases ZJ (B.1==l) with C | C
     ·have H:=ZK H C;have S:=S.bool (t:=57) rfl C;have S:=S.bool (t:=58) rfl C;refine bO H fun aw bM H=>bO H fun N ae H=>opy S rfl rfl rfl rfl (Zv S rfl) fun f S=>opy S rfl rfl rfl rfl (Zv S rfl) fun f S=>opy S rfl rfl rfl rfl (Zv S rfl) fun f S=>opy S rfl rfl rfl rfl (Ze S rfl rfl (Zta bM)) fun f S=>?_;have aS:=Zha d (Zg ae).2.1;obtain ⟨cF,aT⟩:∃ c,(List.take (Zc .u64).n (List.drop ((aw).toNat*(Zc .u64).n) cs0))=c:=⟨_,rfl⟩;rw [aT] at aS;obtain ⟨rfl,cG⟩:=aS;refine opy S rfl rfl rfl rfl (ZN S rfl rfl ZB (Zg ae).1 (ltI k (Zg ae).2.2.1)) fun f S=>opy S rfl rfl rfl rfl (Zea S rfl Z5 (Zeh S (j:=0) rfl G (ZGd d k) aT (ltN k (Zg ae).2.2.2) 0 [.int .u64 N] rfl zl)) fun f S=>opy S rfl rfl rfl rfl (Ze S rfl rfl ZZj) fun f S=>opy S rfl rfl rfl rfl (Zlb S (b:=true) rfl rfl) fun f S=>ov S rfl (Zlb S (b:=false) rfl rfl) fun f S=>Zn ?_;have S:=S.fr' (σ':=[(0,.slice (some ⟨a,off0,none⟩) (e) h),(1,.slice (some ⟨r,s,none⟩) o p),(5,.int .i64 ((((Zd 18446744073709551616 v)).length:Int))),(6,.int .u64 q),(7,.int .u64 l),(55,.int .u64 (B.1)),(56,.int .u64 l),(57,.bool true),(58,.bool true),(59,.int .u64 (B.2)),(60,.slice (some ⟨a,off0,none⟩) (e) h),(61,.int .i64 ((((Zd 18446744073709551616 v)).length:Int))),(62,.int .i64 aw),(63,.pointer (some ⟨a,off0+(aw).toNat*1,none⟩)),(64,.int .u64 N),(65,.bool (decide (B.2≤N))),(66,.bool (decide (B.2≤N))),(67,.bool (decide (B.2≤N)))]) rfl
      obtain rfl:=Zl H;refine Zf (av _ _ ⟨_,_,rfl,(leR _),(S.fr' rfl)⟩)
     have H:=ZL H C;have S:=S.bool (t:=57) rfl C;have S:=S.bool (t:=58) rfl C;refine opn S rfl rfl rfl rfl fun f S=>opn S rfl rfl rfl rfl fun f S=>opn S rfl rfl rfl rfl fun f S=>opn S rfl rfl rfl rfl fun f S=>opn S rfl rfl rfl rfl fun f S=>opn S rfl rfl rfl rfl fun f S=>opn S rfl rfl rfl rfl fun f S=>opy S rfl rfl rfl rfl (Zlb S (b:=false) rfl rfl) fun f S=>ov S rfl (Zlb S (b:=false) rfl rfl) fun f S=>Zn ?_;have S:=S.fr' (σ':=[(0,.slice (some ⟨a,off0,none⟩) (e) h),(1,.slice (some ⟨r,s,none⟩) o p),(5,.int .i64 ((((Zd 18446744073709551616 v)).length:Int))),(6,.int .u64 q),(7,.int .u64 l),(55,.int .u64 (B.1)),(56,.int .u64 l),(57,.bool false),(58,.bool false),(59,undef),(60,undef),(61,undef),(62,undef),(63,undef),(64,undef),(65,undef),(66,.bool false),(67,.bool false)]) rfl;obtain rfl:=Zl H;refine Zf (av _ _ ⟨_,_,rfl,(leR _),(S.fr' rfl)⟩)
    rintro f w ⟨ad,au,hq,P,S⟩;subst hq;have H:=bK;have d:=ZU P d;refine Zf (bH _ _ ?_);rcases ZJ (ad) with Q | Q
    ·have H:=ZK H Q;refine ZQ S rfl Q (wp_exit (ZZ (ZLi rfl ?_)));obtain rfl:=Zl H;have hq:=aR _ rfl;subst hq;have H:=aP;refine ZZ (ZQa ?_);obtain rfl:=Zl H;refine Zf (aO _ _ ⟨_,_,rfl,(leT (leT (leT (leR _) L) E) P),(S.fr' rfl),aQ⟩)
    have H:=ZL H Q;refine ZM S rfl Q (wp_skip (Zf (bG _ _ (sr (mv S rfl fun f S=>ov S rfl (Ze S rfl rfl ZSc) fun f S=>mw S rfl fun f S=>oe (sr (mw S rfl fun f S=>oe (Zi fun _ bP=>bO H fun cH bQ H=>bO H fun bR ax H=>?_))))))));refine bO H fun bS aU H=>Zp (mv S rfl fun f S=>mv S rfl fun f S=>mv S rfl fun f S=>ov S rfl (Ze S rfl rfl (Zta bQ)) fun f S=>?_);have g:=Z8 (leT E P) g;obtain ⟨cI,bT,bU⟩:=ZJf g (Zg ax).2.1;obtain ⟨rfl,cJ⟩:=bU;refine ov S rfl (ZN S rfl rfl ZB (Zg ax).1 (ltI (ZI g) (Zg ax).2.2.1)) fun f S=>ov S rfl (Zea S rfl Z5 (S.view bT)) fun f S=>ov S rfl (ZWi S [.int .u64 l,.int .u64 bR,.int .u64 0] (ZOl Z1l aU) rfl rfl) fun f S=>mv S rfl fun f S=>ov S rfl (Zpa S rfl rfl) fun f S=>ov S rfl (Zpa S rfl rfl) fun f S=>mw S rfl fun f S=>mw S rfl fun f S=>Zn (Zf (bP _ _ (sr (mv S rfl fun f S=>ov S rfl (Ze S rfl rfl Zuc) fun f S=>oe ?_))));rcases ZJ (decide ((0:Int)<bS.2)) with R | R
    ·have H:=ZK H R;refine ZQ S rfl R (wp_exit (ZLi rfl ?_));obtain rfl:=Zl H;have hq:=aR _ rfl;subst hq;have H:=aP;refine ZZ (ZQa ?_);obtain rfl:=Zl H;refine Zf (aO _ _ ⟨_,_,rfl,(leT (leT (leT (leR _) L) E) P),(S.fr' rfl),(Zia _ _)⟩)
    have H:=ZL H R;refine ZM S rfl R (wp_skip (Zdb ?_));obtain rfl:=Zl H;refine bv _ rfl _ _ ⟨_,_,_,rfl,(leT (leT L E) P),(S.fr' rfl),(Zia _ _),(Z6j aU)⟩
   rintro f w ⟨ac,an,hq,aV,S,bV⟩;subst hq;have H:=bs;have d:=ZU aV d;obtain rfl:=Zl H;refine Zf (aH _ _ ⟨_,_,rfl,(leT (leT (leR _) ab) aV),(S.fr' rfl),bV⟩)
  have H:=ZL H J;refine ZM S rfl J (wp_skip ?_);obtain rfl:=Zl H;refine Zf (aH _ _ ⟨_,_,rfl,(leR _),(S.fr' rfl),(by decide)⟩)
 rintro f w ⟨W,I,hq,aW,S,bW⟩;subst hq;have H:=bb;have d:=ZU aW d;refine Zf (a3 _ _ (Zi fun _ bX=>?_));obtain ⟨bY,bZ,b1⟩:=ZF H;refine Zla (fun f w=>∃ af T ay ag,(af,T)=bY∧Zb.le I ag∧St 90 ⟨x,[a]⟩ m [(6,.int .u64 T)] [Loc.box a A (pre0++ay++post0)] ag f w∧Rep.rels (Zc .u64) ag ay af∧e=af.length∧inR .u64 T) (fun _ b2=>?_) ?_
 ·have H:=bZ;refine wp_block ?_;obtain ⟨cK,b3,b4⟩:=ZF H;refine Zfb b3 (fun b5 f w=>∃ ah D az ai,(ah,D)=b5∧Zb.le I ai∧St 90 ⟨x,[a]⟩ m [(0,.slice (some ⟨a,off0,none⟩) (e) h),(1,.slice (some ⟨r,s,none⟩) o p),(6,.int .u64 D)] [Loc.box a A (pre0++az++post0)] ai f w∧Rep.rels (Zc .u64) ai az ah∧e=ah.length∧inR .u64 D) ⟨_,_,cs0,_,rfl,(leR _),(S.fr' rfl),d,k,bW⟩ ?_;rintro _ f w st ⟨ah,D,az,ai,hq,aA,S,aB,b6,aX⟩ H cL b7 b8;subst hq;refine Zi fun _ b9=>Zi fun _ ca=>bO H fun cb cc H=>Zp (mv S rfl fun f S=>mv S rfl fun f S=>mv S rfl fun f S=>?_);have g:=Z8 (leT aW aA) g;refine ZRn S wn rfl zl (Z7 S [.slice (some ⟨a,off0,none⟩) (e) h,.slice (some ⟨r,s,none⟩) o p,.int .u64 D] k_en93 rfl rfl) (i:=0) rfl rfl (take_c S.vin (S.boxAt (j:=0) rfl).1 G (S.boxAt (j:=0) rfl).2 b6 a2 aB g (show Rep.rel (Zc .u64) _ [.int .u64 D] D from (ZC aX)) cc) ?_;rintro _ cM f w aC ⟨⟨cN,rfl,cd⟩,ce,aD,cg,aY,aZ⟩ hSf;have aB:=ZU aC aB;have S:=hSf (Loc.box a A (pre0++aD++post0)) rfl cg ce;obtain rfl:=cd;refine ov S rfl (Zpm S rfl) fun f S=>Zn (Zf (ca _ _ ?_));rcases ZJ (!(cb.1)) with U | U
  ·have H:=ZK H U;refine ZQ S rfl U (wp_skip (Zf (b9 _ _ (wp_block (Zp (mv S rfl fun f S=>ov S rfl (Ze S rfl rfl ZSc) fun f S=>mw S rfl fun f S=>Zn (Zdb ?_)))))));obtain rfl:=Zl H;refine b7 _ rfl _ _ ⟨_,_,aD,_,rfl,(leT aA aC),(S.fr' rfl),aZ,aY,(Zia _ _)⟩
  have H:=ZL H U;refine ZM S rfl U (wp_exit (ZZ ?_));obtain rfl:=Zl H;have hq:=b8 _ rfl;subst hq;have H:=b4;refine ZZ (ZQa ?_);obtain rfl:=Zl H;refine Zf (b2 _ _ ⟨_,_,aD,_,rfl,(leT (leT (leR _) aA) aC),(S.fr' rfl),aZ,aY,aX⟩)
 rintro f w ⟨af,T,ay,ag,hq,cO,S,ch,ci,cj⟩;subst hq;have H:=b1;refine Zf (bX _ _ (sr (mv S rfl fun f S=>mw S rfl fun f S=>oe (wp_ret ?_))));obtain rfl:=Zl H;refine ZLl S (ZFa rfl (ZR S rfl)) ⟨⟨[.int .u64 T],rfl,(ZC cj)⟩,(S.boxAt (j:=0) rfl).2,_,(S.boxAt (j:=0) rfl).1,ci,ch⟩
theorem digit_c {d:World} {b:Zb} (hv:VIn b d) {a off0 c e:Nat} {f:TypeId} {pre0 cs0 post0:List Value} {u:(List Int)} (j:d.heap[a]? = some (.cells (pre0++cs0++post0).toArray f (0,0))) (k:off0=pre0.length) (l:b a=none) (m:c=u.length) (n:c≤e∧e≤maxLen) (g:Rep.rels (Zc .u64) b cs0 u) {h:List Value} {v:Nat} (o:Rep.rel Zr b h v) {z:Int×(List Int)} (hm:ZBf u v=some z) :
  RetL Tryz.prog 67 #[Value.slice (some ⟨a,off0,none⟩) c e,Zr.val h] d b [a] (fun y v' w'=>(∃ i,y=(Zc .u64).val i∧(Zc .u64).rel v' i z.1)∧v' a=none∧∃ cs,w'.heap[a]? = some (.cells (pre0++cs++post0).toArray f (0,0))∧c=z.2.length∧Rep.rels (Zc .u64) v' cs z.2) :=
 digit_w hv j k l m n g o (Zbs (Zil g) hm)
theorem left_w {I:World} {o:Zb} (hv:VIn o I) {c0:List Value} {a:Nat} (h:Rep.rel Zr o c0 a) {c1:List Value} {n:Int} (p1:Rep.rel (Zc .i64) o c1 n) {z:Nat} (H:Zvh a n=some z):Ret Tryz.prog 66 #[Zr.val c0,(Zc .i64).val c1] I o (fun y v'=>∃ r0,y=Zr.val r0∧Zr.rel v' r0 z):=by
 obtain ⟨W,J,L,rfl⟩:=Zda h;obtain ⟨rfl,r4⟩:=p1;refine Zrb (K:=58) (args:=[.slice W J L,.int .i64 n]) hv Tryz.func66 rfl rfl zl fun f S=>?_;unfold Zvh at H;refine sr (mw S rfl fun f S=>oe (Zi fun _ av=>Zi fun _ aw=>?_));obtain ⟨ax,ay,az⟩:=ZF H;refine Zla (fun f w=>∃ X v,X=ax∧Zb.le o v∧St 58 I o [(0,.slice W J L),(1,.int .i64 n),(14,.bool X)] [] v f w) (fun _ ag=>?_) ?_
 ·have H:=ay;refine Zp (mv S rfl fun f S=>ov S rfl (Z9 S (ZI h) rfl rfl ZB) fun f S=>ov S rfl (Ze S rfl rfl Zsd) fun f S=>mv S rfl fun f S=>?_);rcases ZJ (((((Zd 18446744073709551616 a)).length:Int))==(0:Int)) with M | M
  ·have H:=ZK H M;have S:=S.bool (t:=11) rfl M;refine opn S rfl rfl rfl rfl fun f S=>opn S rfl rfl rfl rfl fun f S=>ov S rfl (Zlb S (b:=true) rfl rfl) fun f S=>Zn ?_;obtain rfl:=Zl H;refine Zf (ag _ _ ⟨_,_,rfl,(leR _),(S.fr' rfl)⟩)
  have H:=ZL H M;have S:=S.bool (t:=11) rfl M;refine opy S rfl rfl rfl rfl (Zv S rfl) fun f S=>opy S rfl rfl rfl rfl (Ze S rfl rfl Zsd) fun f S=>ov S rfl (Zlb S (b:=false) rfl rfl) fun f S=>Zn ?_;obtain rfl:=Zl H;refine Zf (ag _ _ ⟨_,_,rfl,(leR _),(S.fr' rfl)⟩)
 rintro f w ⟨X,v,hq,ah,S⟩;subst hq;have H:=az;refine Zf (aw _ _ ?_);rcases ZJ (X) with N | N
 ·have H:=ZK H N;refine ZQ S rfl N (sr (mv S rfl fun f S=>mw S rfl fun f S=>oe (wp_ret (ZNa ?_))));obtain rfl:=Zl H;have h:=Z8 ah h;refine Zxa S (ZFa rfl (ZR S rfl)) ⟨[.slice W J L],rfl,h⟩
 have H:=ZL H N;refine ZM S rfl N (wp_skip (Zf (av _ _ (Zi fun _ aA=>bO H fun bo aB H=>bO H fun bp aC H=>bO H fun B aD H=>bO H fun bq Y H=>Zp (mv S rfl fun f S=>?_)))));have h:=Z8 ah h;refine ov S rfl (Z9 S (ZI h) rfl rfl ZB) fun f S=>mv S rfl fun f S=>ov S rfl (Ze S rfl rfl (ZQb aB)) fun f S=>ov S rfl (Ze S rfl rfl (ZEa aC)) fun f S=>ov S rfl (Ze S rfl rfl (ZEa aD)) fun f S=>?_;obtain ⟨ai,aj⟩:∃ c:List Value,c=(List.replicate (B).toNat [.int .u64 0]).flatten:=⟨_,rfl⟩;obtain ⟨aE,w,aF,S⟩:=ZLg ZEd S (l:=B) (c:=B) (ZDa Y).1 (ZDa Y).2.1 (ZDa Y).2.2.1 (ZDa Y).2.2.2 aj;have aG:Rep.rels (Zc .u64) v ai (List.replicate (B).toNat (0:Int)):=by rw [aj];exact Zmd (show Rep.rel (Zc .u64) _ [.int .u64 0] _ from (ZC (by decide))) _
 refine Zhb wn rfl zl (aF rfl rfl) S fun f S=>mw S rfl fun f S=>Zn (Zf (aA _ _ (Zi fun _ aH=>sr (mv S rfl fun f S=>ov S rfl (Z9 S (ZI h) rfl rfl ZB) fun f S=>mv S rfl fun f S=>oe ?_))));obtain ⟨aI,aJ,aK⟩:=ZF H;refine Zla (fun f w=>∃ C P D Q ac Z,C=aI∧Zb.le v Z∧St 58 I o [(5,.slice (mkA P) D Q)] [Loc.own P 80 1 D Q ac] Z f w∧Rep.rels (Zc .u64) Z ac C∧D=C.length) (fun _ aL=>?_) ?_
 ·have H:=aJ;refine wp_block ?_;obtain ⟨br,aM,aN⟩:=ZF H;refine Zfb aM (fun aO f w=>∃ p E aa m G e q,(p,E)=aO∧Zb.le v q∧St 58 I o [(1,.int .i64 n),(5,.slice (mkA aa) m G),(23,.slice W J L),(24,.int .i64 ((((Zd 18446744073709551616 a)).length:Int))),(25,.int .i64 E)] [Loc.own aa 80 1 m G e] q f w∧Rep.rels (Zc .u64) q e p∧m=p.length∧inR .i64 E) ⟨_,_,some aE,(B).toNat,(B).toNat,ai,_,rfl,(leR _),(S.fr' rfl),aG,(repN (x:=(0:Int))),(by decide)⟩ ?_;rintro _ f w st ⟨p,E,aa,m,G,e,q,hq,ad,S,ab,s,bs⟩ H bt aP aQ;subst hq;refine sr (ov S rfl (Ze S rfl rfl ZHb) fun f S=>oe (Zi fun _ aR=>?_));rcases ZJ (decide (E<(((Zd 18446744073709551616 a)).length:Int))) with R | R
  ·have H:=ZK H R;refine ZQ S rfl R (wp_skip (Zf (aR _ _ (Zi fun _ aS=>wp_block (Zi fun _ aT=>bO H fun bu ae H=>Zp (mv S rfl fun f S=>?_))))));have h:=Z8 ad h;obtain ⟨_,aU,aV,bv,rfl,aW,aX⟩:=ZWa h (Zg ae).2.1;obtain ⟨rfl,aY⟩:=aX;refine ov S rfl (ZN S rfl rfl ZB (Zg ae).1 (ltI (ZI h) (Zg ae).2.2.1)) fun f S=>ov S rfl (Zea S rfl Z5 (S.view aW)) fun f S=>mw S rfl fun f S=>mw S rfl fun f S=>Zn (Zf (aT _ _ (Zi fun _ aZ=>bO H fun bw a0 H=>bO H fun d a1 H=>bO H fun g T H=>bO H fun bx a2 H=>bO H fun k a3 H=>bO H fun bz U H=>ZTd (fl:=#[true,true,true,true,true,true,true,true,true,true,true,true,true,false]) ZFe (by kernel_rfl) S ?_)));intro ops O F w S;refine rfa O F 0 rfl rfl S (Zv S rfl) fun f S=>rfa O F 1 rfl rfl S (Zv S rfl) fun f S=>rfa O F 2 rfl rfl S (Zv S rfl) fun f S=>rfa O F 3 rfl rfl S (Ze S rfl rfl (ZQb a0)) fun f S=>rfa O F 4 rfl rfl S (Ze S rfl rfl (ZEa a1)) fun f S=>?_;obtain ⟨ak,rfl⟩:=ZKc S (j:=0) rfl (posN s (Zg T).2.2.2);have al:=Zha ab (Zg T).2.1;obtain ⟨bA,am⟩:∃ c,(List.take (Zc .u64).n (List.drop ((d).toNat*(Zc .u64).n) e))=c:=⟨_,rfl⟩;rw [am] at al;obtain ⟨rfl,bB⟩:=al;refine rfa O F 5 rfl rfl S (ZN S rfl rfl ZB (Zg T).1 (ltI s (Zg T).2.2.1)) fun f S=>rfa O F 6 rfl rfl S (Zea S rfl Z5 (Zxc S (j:=0) rfl am (ltN s (Zg T).2.2.2) 0 [.int .u64 g] rfl zl)) fun f S=>rfa O F 7 rfl rfl S (Zv S rfl) fun f S=>rfa O F 8 rfl rfl S (Zv S rfl) fun f S=>rfa O F 9 rfl rfl S (Ze S rfl rfl (Z0d a2)) fun f S=>rfa O F 10 rfl rfl S (Ze S rfl rfl (Zuf a3)) fun f S=>rfa O F 11 rfl rfl S (Ze S rfl rfl Z6i) fun f S=>?_
   have an:=Zha ab (Zg U).2.1;obtain ⟨bC,a4⟩:∃ c,(List.take (Zc .u64).n (List.drop ((d).toNat*(Zc .u64).n) e))=c:=⟨_,rfl⟩;rw [a4] at an;obtain ⟨rfl,bD⟩:=an;refine rfa O F 12 rfl rfl S (ZN S rfl rfl ZB (Zg U).1 (ltI s (Zg U).2.2.1)) fun f S=>go1 O F 13 ?_;obtain ⟨w,a5,S⟩:=ZBb S Z5 (off:=0+(d).toNat*1) (z:=.int .u64 (orI .u64 g k)) (cs:=[.int .u64 (orI .u64 g k)]) (Zkb rfl) rfl (i:=0) rfl (Zad S (j:=0) rfl (ltN s (Zg U).2.2.2)) (by first | rfl | simp [plain]);have ao:Rep.rels (Zc .u64) q (List.take (0+(d).toNat*1) e++[Value.int IntKind.u64 (orI .u64 g k)]++List.drop (0+(d).toNat*1+1) e) (p.set (d).toNat (orI .u64 g k)):=Zvc ab (Zg U).2.2.2 (show Rep.rel (Zc .u64) q [.int .u64 (orI .u64 g k)] _ from (ZC (Zia _ _))) rfl rfl;have af:m=(p.set (d).toNat (orI .u64 g k)).length:=ZRc s;refine nxs [0,1,2,3,4,5,6,7,8,9,10,11,12] [] O rfl rfl (a5 rfl rfl) (⟨Z3b,Zfe O F (Zf (aZ _ _ (bO H fun bE a6 H=>bO H fun bG a7 H=>bO H fun r a8 H=>bO H fun bH a9 H=>bO H fun bI ba H=>bO H fun u ap H=>bO H fun bJ V H=>Zp (mv S rfl fun f S=>mv S rfl fun f S=>?_))))⟩);refine mv S rfl fun f S=>ov S rfl (Ze S rfl rfl (ZQb a6)) fun f S=>ov S rfl (Ze S rfl rfl (ZEa a7)) fun f S=>ov S rfl (Ze S rfl rfl (ZEa a8)) fun f S=>mv S rfl fun f S=>mv S rfl fun f S=>ov S rfl (Ze S rfl rfl (Z0d a9)) fun f S=>ov S rfl (Ze S rfl rfl (Zta ba)) fun f S=>ov S rfl (Ze S rfl rfl (Zpb ap)) fun f S=>?_
   have aq:=Zha ao (Zg V).2.1;obtain ⟨bK,bb⟩:∃ c,(List.take (Zc .u64).n (List.drop ((r).toNat*(Zc .u64).n) (List.take (0+(d).toNat*1) e++[Value.int IntKind.u64 (orI .u64 g k)]++List.drop (0+(d).toNat*1+1) e)))=c:=⟨_,rfl⟩;rw [bb] at aq;obtain ⟨rfl,bM⟩:=aq;refine ov S rfl (ZN S rfl rfl ZB (Zg V).1 (ltI af (Zg V).2.2.1)) fun f S=>?_;obtain ⟨w,bc,S⟩:=ZBb S Z5 (off:=0+(r).toNat*1) (z:=.int .u64 u) (cs:=[.int .u64 u]) (Zkb rfl) rfl (i:=0) rfl (Zad S (j:=0) rfl (ltN af (Zg V).2.2.2)) (by first | rfl | simp [plain]);have bd:Rep.rels (Zc .u64) q (List.take (0+(r).toNat*1) ((List.take (0+(d).toNat*1) e++[Value.int IntKind.u64 (orI .u64 g k)]++List.drop (0+(d).toNat*1+1) e))++[Value.int IntKind.u64 (u)]++List.drop (0+(r).toNat*1+1) ((List.take (0+(d).toNat*1) e++[Value.int IntKind.u64 (orI .u64 g k)]++List.drop (0+(d).toNat*1+1) e))) (((p.set (d).toNat (orI .u64 g k))).set (r).toNat u):=Zvc ao (Zg V).2.2.2 (show Rep.rel (Zc .u64) q [.int .u64 u] _ from (ZC (ZSe aY ap))) rfl rfl;have be:m=(((p.set (d).toNat (orI .u64 g k))).set (r).toNat u).length:=ZRc af;refine Z8e wn rfl (bc rfl rfl) (Zn ?_);have S:=S.fr' (σ':=[(1,.int .i64 n),(5,.slice (mkA (some ak)) (m) G),(23,.slice (some ⟨aU,aV,none⟩) J L),(24,.int .i64 ((((Zd 18446744073709551616 a)).length:Int))),(25,.int .i64 E)]) rfl
   refine Zdb (Zf (aS _ _ (bO H fun bP ar H=>Zp (ov S rfl (Ze S rfl rfl (ZEa ar)) fun f S=>mv S rfl fun f S=>Zn ?_))));obtain rfl:=Zl H;refine aP _ rfl _ _ ⟨_,_,some ak,m,G,(List.take (0+(r).toNat*1) ((List.take (0+(d).toNat*1) e++[Value.int IntKind.u64 (orI .u64 g k)]++List.drop (0+(d).toNat*1+1) e))++[Value.int IntKind.u64 (u)]++List.drop (0+(r).toNat*1+1) ((List.take (0+(d).toNat*1) e++[Value.int IntKind.u64 (orI .u64 g k)]++List.drop (0+(d).toNat*1+1) e))),_,rfl,ad,(S.fr' rfl),bd,be,(Zna ar).2⟩
  have H:=ZL H R;refine ZM S rfl R (wp_exit (ZZ ?_));obtain rfl:=Zl H;have hq:=aQ _ rfl;subst hq;have H:=aN;refine ZZ (ZQa ?_);obtain rfl:=Zl H;refine Zf (aL _ _ ⟨_,aa,m,G,e,_,rfl,(leT (leR _) ad),(S.fr' rfl),ab,s⟩)
 rintro f w ⟨C,P,D,Q,ac,Z,hq,bQ,S,bf,bg⟩;subst hq;have H:=aK;refine Zf (aH _ _ (Zi fun _ bh=>bO H fun bR bi H=>Zp (mv S rfl fun f S=>?_)));obtain ⟨bS,bT,S,bj⟩:=S.pubSlice (i:=0) (A:=(Zc .u64)) (l:=C) (ℓ':=[]) rfl rfl bg bf rfl;refine opc S rfl (Z7 S [.slice (mkA P) D Q] ZKe rfl rfl) (Zwe S.vin (show Rep.rel (Zz (Zc .u64)) _ [.slice (mkA P) D Q] C from bj) bi) ?_;rintro _ bU f w bV ⟨bW,rfl,au⟩ S;obtain ⟨bk,bm,bn,rfl⟩:=Zda au;refine mw S rfl fun f S=>Zn (Zf (bh _ _ (wp_ret ?_)));obtain rfl:=Zl H;refine Zxa S (ZFa rfl (ZR S rfl)) ⟨[.slice bk bm bn],rfl,au⟩
theorem Zjp {c:World} {b:Zb} (hv:VIn b c) {d:List Value} {a:Nat} (g:Rep.rel Zr b d a) {e:List Value} {n:Int} (h:Rep.rel (Zc .i64) b e n) {z:Nat} (hm:ZJd a n=some z) :
  Ret Tryz.prog 66 #[Zr.val d,(Zc .i64).val e] c b (fun y v'=>∃ f,y=Zr.val f∧Zr.rel v' f z) :=
 left_w hv g h (Zgr hm)
theorem right_w {C:World} {g:Zb} (hv:VIn g C) {c0:List Value} {a:Nat} (h:Rep.rel Zr g c0 a) {c1:List Value} {n:Int} (p1:Rep.rel (Zc .i64) g c1 n) {z:Nat} (H:Zxh a n=some z):Ret Tryz.prog 68 #[Zr.val c0,(Zc .i64).val c1] C g (fun y v'=>∃ r0,y=Zr.val r0∧Zr.rel v' r0 z):=by
 obtain ⟨q1,P,Q,rfl⟩:=Zda h;obtain ⟨rfl,r4⟩:=p1;refine Zrb (K:=65) (args:=[.slice q1 P Q,.int .i64 n]) hv Tryz.func68 rfl rfl zl fun f S=>?_;unfold Zxh at H;refine sr (mw S rfl fun f S=>oe (Zi fun _ ax=>Zi fun _ ay=>bO H fun az aA H=>Zp (mv S rfl fun f S=>ov S rfl (Ze S rfl rfl (ZQb aA)) fun f S=>mv S rfl fun f S=>ov S rfl (Z9 S (ZI h) rfl rfl ZB) fun f S=>ov S rfl (Ze S rfl rfl Z2b) fun f S=>Zn (Zf (ay _ _ ?_)))));rcases ZJ (decide ((((Zd 18446744073709551616 a)).length:Int)≤az)) with D | D
 ·have H:=ZK H D;refine ZQ S rfl D (sr (mw S rfl fun f S=>oe (wp_ret (ZNa ?_))));obtain rfl:=Zl H;refine Zxa S (ZFa rfl (ZR S rfl)) ⟨[.slice none 0 0],rfl,(ZXf _)⟩
 have H:=ZL H D;refine ZM S rfl D (wp_skip (Zf (ax _ _ (Zi fun _ aB=>bO H fun bx aC H=>bO H fun k aD H=>bO H fun bz R H=>Zp (mv S rfl fun f S=>ov S rfl (Z9 S (ZI h) rfl rfl ZB) fun f S=>mv S rfl fun f S=>ov S rfl (Ze S rfl rfl (ZQb aC)) fun f S=>ov S rfl (Ze S rfl rfl (Zta aD)) fun f S=>?_)))));obtain ⟨ai,aj⟩:∃ c:List Value,c=(List.replicate (k).toNat [.int .u64 0]).flatten:=⟨_,rfl⟩;obtain ⟨aE,w,aF,S⟩:=ZLg ZEd S (l:=k) (c:=k) (ZDa R).1 (ZDa R).2.1 (ZDa R).2.2.1 (ZDa R).2.2.2 aj;have aG:Rep.rels (Zc .u64) g ai (List.replicate (k).toNat (0:Int)):=by rw [aj];exact Zmd (show Rep.rel (Zc .u64) _ [.int .u64 0] _ from (ZC (by decide))) _
 refine Zhb wn rfl zl (aF rfl rfl) S fun f S=>mw S rfl fun f S=>Zn (Zf (aB _ _ (Zi fun _ aH=>sr (mv S rfl fun f S=>ov S rfl (Z9 S (repN (x:=(0:Int))) rfl rfl ZB) fun f S=>mv S rfl fun f S=>oe ?_))));obtain ⟨aI,aJ,aK⟩:=ZF H;refine Zla (fun f w=>∃ t E u G ac T,t=aI∧Zb.le g T∧St 65 C g [(5,.slice (mkA E) u G)] [Loc.own E 80 1 u G ac] T f w∧Rep.rels (Zc .u64) T ac t∧u=t.length) (fun _ aL=>?_) ?_
 ·have H:=aJ;refine wp_block ?_;obtain ⟨bA,aM,aN⟩:=ZF H;refine Zfb aM (fun aO f w=>∃ p b U m r d o,(p,b)=aO∧Zb.le g o∧St 65 C g [(0,.slice q1 P Q),(1,.int .i64 n),(5,.slice (mkA U) m r),(19,.int .i64 ((((List.replicate (k).toNat (0:Int))).length:Int))),(20,.int .i64 b)] [Loc.own U 80 1 m r d] o f w∧Rep.rels (Zc .u64) o d p∧m=p.length∧inR .i64 b) ⟨_,_,some aE,(k).toNat,(k).toNat,ai,_,rfl,(leR _),(S.fr' rfl),aG,(repN (x:=(0:Int))),(by decide)⟩ ?_;rintro _ f w st ⟨p,b,U,m,r,d,o,hq,ad,S,ae,I,bB⟩ H bC aP aQ;subst hq;refine sr (ov S rfl (Ze S rfl rfl ZHb) fun f S=>oe (Zi fun _ aR=>?_));rcases ZJ (decide (b<(((List.replicate (k).toNat (0:Int))).length:Int))) with J | J
  ·have H:=ZK H J;refine ZQ S rfl J (wp_skip (Zf (aR _ _ (Zi fun _ aS=>wp_block (sr (mv S rfl fun f S=>mw S rfl fun f S=>oe (Zi fun _ aT=>bO H fun bD aU H=>bO H fun bE aV H=>bO H fun bG af H=>bO H fun bH aW H=>?_)))))));refine bO H fun e ak H=>bO H fun bI v H=>Zp (mv S rfl fun f S=>mv S rfl fun f S=>mv S rfl fun f S=>mv S rfl fun f S=>mv S rfl fun f S=>ov S rfl (Ze S rfl rfl (ZQb aU)) fun f S=>ov S rfl (Ze S rfl rfl (ZEa aV)) fun f S=>?_);have h:=Z8 ad h;obtain ⟨_,al,am,bJ,rfl,aX,aY⟩:=ZWa h (Zg af).2.1;obtain ⟨rfl,aZ⟩:=aY;refine ov S rfl (ZN S rfl rfl ZB (Zg af).1 (ltI (ZI h) (Zg af).2.2.1)) fun f S=>ov S rfl (Zea S rfl Z5 (S.view aX)) fun f S=>mv S rfl fun f S=>ov S rfl (Ze S rfl rfl (Z0d aW)) fun f S=>ov S rfl (Ze S rfl rfl (Zpb ak)) fun f S=>?_;obtain ⟨ag,rfl⟩:=ZKc S (j:=0) rfl (posN I (Zg v).2.2.2);have an:=Zha ae (Zg v).2.1;obtain ⟨bK,a0⟩:∃ c,(List.take (Zc .u64).n (List.drop ((b).toNat*(Zc .u64).n) d))=c:=⟨_,rfl⟩;rw [a0] at an;obtain ⟨rfl,bM⟩:=an;refine ov S rfl (ZN S rfl rfl ZB (Zg v).1 (ltI I (Zg v).2.2.1)) fun f S=>?_;obtain ⟨w,a1,S⟩:=ZBb S Z5 (off:=0+(b).toNat*1) (z:=.int .u64 e) (cs:=[.int .u64 e]) (Zkb rfl) rfl (i:=0) rfl (Zad S (j:=0) rfl (ltN I (Zg v).2.2.2)) (by first | rfl | simp [plain])
   have V:Rep.rels (Zc .u64) o (List.take (0+(b).toNat*1) d++[Value.int IntKind.u64 (e)]++List.drop (0+(b).toNat*1+1) d) (p.set (b).toNat e):=Zvc ae (Zg v).2.2.2 (show Rep.rel (Zc .u64) o [.int .u64 e] _ from (ZC (ZSe aZ ak))) rfl rfl;have B:m=(p.set (b).toNat e).length:=ZRc I;refine Z8e wn rfl (a1 rfl rfl) (Zn (Zf (aT _ _ (Zi fun _ a2=>bO H fun bP a3 H=>bO H fun bQ a4 H=>bO H fun ao a5 H=>Zp (mv S rfl fun f S=>mv S rfl fun f S=>ov S rfl (Ze S rfl rfl (ZQb a3)) fun f S=>ov S rfl (Ze S rfl rfl (ZEa a4)) fun f S=>ov S rfl (Ze S rfl rfl (ZEa a5)) fun f S=>mv S rfl fun f S=>?_)))));refine ov S rfl (Z9 S (ZI h) rfl rfl ZB) fun f S=>ov S rfl (Ze S rfl rfl ZHb) fun f S=>Zn ?_;have S:=S.fr' (σ':=[(0,.slice (some ⟨al,am,none⟩) P Q),(1,.int .i64 n),(5,.slice (mkA (some ag)) (m) r),(6,.int .i64 b),(19,.int .i64 ((((List.replicate (k).toNat (0:Int))).length:Int))),(20,.int .i64 b),(43,.bool (decide (ao<(((Zd 18446744073709551616 a)).length:Int))))]) rfl;refine Zf (a2 _ _ ?_);obtain ⟨a6,a7,a8⟩:=ZF H;refine Zla (fun f w=>∃ W X L Y Z aa,W=a6∧Zb.le o aa∧St 65 C g [(0,.slice (some ⟨al,am,none⟩) P Q),(1,.int .i64 n),(5,.slice (mkA X) L Y),(19,.int .i64 ((((List.replicate (k).toNat (0:Int))).length:Int))),(20,.int .i64 b)] [Loc.own X 80 1 L Y Z] aa f w∧Rep.rels (Zc .u64) aa Z W∧L=W.length) (fun _ ap=>?_) ?_
   ·have H:=a7;rcases ZJ (decide (ao<(((Zd 18446744073709551616 a)).length:Int))) with M | M
    ·have H:=ZK H M;refine ZQ S rfl M (bO H fun q ab H=>bO H fun bR a9 H=>bO H fun bS ba H=>bO H fun bT bb H=>bO H fun bU ah H=>bO H fun bV bc H=>bO H fun bW bd H=>bO H fun s be H=>bO H fun bX N H=>ZTd (fl:=#[true,true,true,true,true,true,true,true,true,true,true,true,true,true,true,true,true,true,false]) ZFe (by kernel_rfl) S ?_);intro ops O F w S;refine rfa O F 0 rfl rfl S (Zv S rfl) fun f S=>rfa O F 1 rfl rfl S (Zv S rfl) fun f S=>?_;have aq:=Zha V (Zg ab).2.1;obtain ⟨bY,ar⟩:∃ c,(List.take (Zc .u64).n (List.drop ((b).toNat*(Zc .u64).n) (List.take (0+(b).toNat*1) d++[Value.int IntKind.u64 (e)]++List.drop (0+(b).toNat*1+1) d)))=c:=⟨_,rfl⟩;rw [ar] at aq;obtain ⟨rfl,bZ⟩:=aq;refine rfa O F 2 rfl rfl S (ZN S rfl rfl ZB (Zg ab).1 (ltI B (Zg ab).2.2.1)) fun f S=>rfa O F 3 rfl rfl S (Zea S rfl Z5 (Zxc S (j:=0) rfl ar (ltN B (Zg ab).2.2.2) 0 [.int .u64 q] rfl zl)) fun f S=>rfa O F 4 rfl rfl S (Zv S rfl) fun f S=>rfa O F 5 rfl rfl S (Zv S rfl) fun f S=>rfa O F 6 rfl rfl S (Zv S rfl) fun f S=>rfa O F 7 rfl rfl S (Ze S rfl rfl (ZQb a9)) fun f S=>rfa O F 8 rfl rfl S (Ze S rfl rfl (ZEa ba)) fun f S=>rfa O F 9 rfl rfl S (Ze S rfl rfl (ZEa bb)) fun f S=>?_
     obtain ⟨b0,bf,bg⟩:=ZJf h (Zg ah).2.1;obtain ⟨rfl,b1⟩:=bg;refine rfa O F 10 rfl rfl S (ZN S rfl rfl ZB (Zg ah).1 (ltI (ZI h) (Zg ah).2.2.1)) fun f S=>rfa O F 11 rfl rfl S (Zea S rfl Z5 (S.view bf)) fun f S=>rfa O F 12 rfl rfl S (Zv S rfl) fun f S=>rfa O F 13 rfl rfl S (Ze S rfl rfl (Z0d bc)) fun f S=>rfa O F 14 rfl rfl S (Ze S rfl rfl (Zta bd)) fun f S=>rfa O F 15 rfl rfl S (Ze S rfl rfl (Zuf be)) fun f S=>rfa O F 16 rfl rfl S (Ze S rfl rfl Z6i) fun f S=>?_;have au:=Zha V (Zg N).2.1;obtain ⟨b2,bh⟩:∃ c,(List.take (Zc .u64).n (List.drop ((b).toNat*(Zc .u64).n) (List.take (0+(b).toNat*1) d++[Value.int IntKind.u64 (e)]++List.drop (0+(b).toNat*1+1) d)))=c:=⟨_,rfl⟩;rw [bh] at au;obtain ⟨rfl,b3⟩:=au;refine rfa O F 17 rfl rfl S (ZN S rfl rfl ZB (Zg N).1 (ltI B (Zg N).2.2.1)) fun f S=>go1 O F 18 ?_;obtain ⟨w,bi,S⟩:=ZBb S Z5 (off:=0+(b).toNat*1) (z:=.int .u64 (orI .u64 q s)) (cs:=[.int .u64 (orI .u64 q s)]) (Zkb rfl) rfl (i:=0) rfl (Zad S (j:=0) rfl (ltN B (Zg N).2.2.2)) (by first | rfl | simp [plain]);have bj:Rep.rels (Zc .u64) o (List.take (0+(b).toNat*1) ((List.take (0+(b).toNat*1) d++[Value.int IntKind.u64 (e)]++List.drop (0+(b).toNat*1+1) d))++[Value.int IntKind.u64 (orI .u64 q s)]++List.drop (0+(b).toNat*1+1) ((List.take (0+(b).toNat*1) d++[Value.int IntKind.u64 (e)]++List.drop (0+(b).toNat*1+1) d))) (((p.set (b).toNat e)).set (b).toNat (orI .u64 q s)):=Zvc V (Zg N).2.2.2 (show Rep.rel (Zc .u64) o [.int .u64 (orI .u64 q s)] _ from (ZC (Zia _ _))) rfl rfl
     have bk:m=(((p.set (b).toNat e)).set (b).toNat (orI .u64 q s)).length:=ZRc B;refine nxs [0,1,2,3,4,5,6,7,8,9,10,11,12,13,14,15,16,17] [] O rfl rfl (bi rfl rfl) (⟨Z3b,Zfe O F ?_⟩);obtain rfl:=Zl H;refine Zf (ap _ _ ⟨_,some ag,m,r,(List.take (0+(b).toNat*1) ((List.take (0+(b).toNat*1) d++[Value.int IntKind.u64 (e)]++List.drop (0+(b).toNat*1+1) d))++[Value.int IntKind.u64 (orI .u64 q s)]++List.drop (0+(b).toNat*1+1) ((List.take (0+(b).toNat*1) d++[Value.int IntKind.u64 (e)]++List.drop (0+(b).toNat*1+1) d))),_,rfl,(leR _),(S.fr' rfl),bj,bk⟩)
    have H:=ZL H M;refine ZM S rfl M (wp_skip ?_);obtain rfl:=Zl H;refine Zf (ap _ _ ⟨_,some ag,m,r,(List.take (0+(b).toNat*1) d++[Value.int IntKind.u64 (e)]++List.drop (0+(b).toNat*1+1) d),_,rfl,(leR _),(S.fr' rfl),V,B⟩)
   rintro f w ⟨W,X,L,Y,Z,aa,hq,bm,S,bn,bo⟩;subst hq;have H:=a8;refine Zdb (Zf (aS _ _ (bO H fun b4 av H=>Zp (ov S rfl (Ze S rfl rfl (ZEa av)) fun f S=>mv S rfl fun f S=>Zn ?_))));obtain rfl:=Zl H;refine aP _ rfl _ _ ⟨_,_,X,L,Y,Z,_,rfl,(leT ad bm),(S.fr' rfl),bn,bo,(Zna av).2⟩
  have H:=ZL H J;refine ZM S rfl J (wp_exit (ZZ ?_));obtain rfl:=Zl H;have hq:=aQ _ rfl;subst hq;have H:=aN;refine ZZ (ZQa ?_);obtain rfl:=Zl H;refine Zf (aL _ _ ⟨_,U,m,r,d,_,rfl,(leT (leR _) ad),(S.fr' rfl),ae,I⟩)
 rintro f w ⟨t,E,u,G,ac,T,hq,b5,S,bp,bq⟩;subst hq;have H:=aK;refine Zf (aH _ _ (Zi fun _ br=>bO H fun b6 bs H=>Zp (mv S rfl fun f S=>?_)));obtain ⟨b7,b8,S,bt⟩:=S.pubSlice (i:=0) (A:=(Zc .u64)) (l:=t) (ℓ':=[]) rfl rfl bq bp rfl;refine opc S rfl (Z7 S [.slice (mkA E) u G] ZKe rfl rfl) (Zwe S.vin (show Rep.rel (Zz (Zc .u64)) _ [.slice (mkA E) u G] t from bt) bs) ?_;rintro _ b9 f w ca ⟨cb,rfl,aw⟩ S;obtain ⟨bu,bv,bw,rfl⟩:=Zda aw;refine mw S rfl fun f S=>Zn (Zf (br _ _ (wp_ret ?_)));obtain rfl:=Zl H;refine Zxa S (ZFa rfl (ZR S rfl)) ⟨[.slice bu bv bw],rfl,aw⟩
theorem right_c {c:World} {b:Zb} (hv:VIn b c) {d:List Value} {a:Nat} (h:Rep.rel Zr b d a) {e:List Value} {n:Int} (f:Rep.rel (Zc .i64) b e n) {z:Nat} (hm:Zcg a n=some z) :
  Ret Tryz.prog 68 #[Zr.val d,(Zc .i64).val e] c b (fun y v'=>∃ g,y=Zr.val g∧Zr.rel v' g z) :=
 right_w hv h f (ZHs f.2 hm)
theorem word_w {b:World} {a:Zb} (hv:VIn a b) {c:List Value} {n:Int} (h:Rep.rel (Zc .u64) a c n) {z:Nat} (H:ZPg n=some z):Ret Tryz.prog 37 #[(Zc .u64).val c] b a (fun y v'=>∃ d,y=Zr.val d∧Zr.rel v' d z):=by
 obtain ⟨rfl,j⟩:=h;refine Zrb (K:=6) (args:=[.int .u64 n]) hv Tryz.func37 rfl rfl zl fun f S=>?_;unfold ZPg at H;refine sr (mw S rfl fun f S=>oe (Zi fun _ k=>bO H fun u m H=>Zp (mv S rfl fun f S=>?_)));obtain ⟨e,w,o,S⟩:=Z7e S (n:=1) (cs:=[.int .u64 n]) (vals:=[(0,.int .u64 n)]) (sz:=1) rfl (by decide) (ZVl ZEd (x:=.int .u64 n) (cs:=[.int .u64 n]) rfl rfl (by decide));have p:Rep.rels (Zc .u64) a [.int .u64 n] [n]:=(Zck (ZC j) ZPd);refine Zhb wn rfl zl (o rfl) S fun f S=>?_;obtain ⟨v,B,S,q⟩:=S.pubSlice (i:=0) (A:=(Zc .u64)) (l:=[n]) (ℓ':=[]) rfl rfl rfl p rfl;refine opc S rfl (Z7 S [.slice (mkA (some e)) (1) 1] ZKe rfl rfl) (Zwe S.vin (show Rep.rel (Zz (Zc .u64)) _ [.slice (mkA (some e)) (1) 1] ([n]) from q) m) ?_;rintro _ C f w D ⟨E,rfl,g⟩ S;obtain ⟨r,s,t,rfl⟩:=Zda g;refine mw S rfl fun f S=>Zn (Zf (k _ _ (wp_ret ?_)));obtain rfl:=Zl H;refine Zxa S (ZFa rfl (ZR S rfl)) ⟨[.slice r s t],rfl,g⟩
theorem word_c {b:World} {a:Zb} (hv:VIn a b) {c:List Value} {n:Int} (e:Rep.rel (Zc .u64) a c n) {z:Nat} (hm:Z1b n=some z) :
  Ret Tryz.prog 37 #[(Zc .u64).val c] b a (fun y v'=>∃ d,y=Zr.val d∧Zr.rel v' d z) :=
 word_w hv e (Zln hm)
theorem ZCq {w0:World} {F:Zb} (hv:VIn F w0) {c0:List Value} {a:Nat} (m:Rep.rel Zr F c0 a) {c1:List Value} {b:Nat} (g:Rep.rel Zr F c1 b) {z:Nat×Nat} (H:ZTg a b=some z):Ret Tryz.prog 40 #[Zr.val c0,Zr.val c1] w0 F (fun y v'=>∃ r0 r1,y = .tuple #[Zr.val r0,Zr.val r1]∧Zr.rel v' r0 z.1∧Zr.rel v' r1 z.2):=by
 obtain ⟨R,T,U,rfl⟩:=Zda m;obtain ⟨q4,n5,k6,rfl⟩:=Zda g;refine Zrb (K:=84) (args:=[.slice R T U,.slice q4 n5 k6]) hv Tryz.func40 rfl rfl zl fun f S=>?_;unfold ZTg at H;refine sr (mw S rfl fun f S=>mw S rfl fun f S=>oe (Zi fun _ bb=>wp_block (Zi fun _ bc=>bO H fun bd be H=>Zp (mv S rfl fun f S=>mv S rfl fun f S=>opc S rfl (Z7 S [.slice R T U,.slice q4 n5 k6] Zap rfl rfl) (cmp_c S.vin m g be) ?_))));rintro _ cV f w aj ⟨cW,rfl,bf⟩ S;obtain ⟨rfl,cX⟩:=bf;refine ov S rfl (Ze S rfl rfl ZHb) fun f S=>mw S rfl fun f S=>Zn (Zf (bc _ _ ?_));rcases ZJ (decide (bd<(0:Int))) with V | V
 ·have H:=ZK H V;refine ZQ S rfl V (sr (mv S rfl fun f S=>mw S rfl fun f S=>mw S rfl fun f S=>oe (wp_ret (Zkf (ZNa ?_)))));obtain rfl:=Zl H;have m:=Z8 aj m;refine Zxa S (Zoe rfl (ZR S rfl) (ZR S rfl)) ⟨[.slice none 0 0],[.slice R T U],rfl,(ZXf _),m⟩
 have H:=ZL H V;refine ZM S rfl V (sr (mv S rfl fun f S=>?_));have g:=Z8 aj g;refine ov S rfl (Z9 S (ZI g) rfl rfl ZB) fun f S=>ov S rfl (Ze S rfl rfl Zsd) fun f S=>mw S rfl fun f S=>oe ?_;rcases ZJ (((((Zd 18446744073709551616 b)).length:Int))==(1:Int)) with W | W
 ·have H:=ZK H W;refine ZQ S rfl W (Zi fun _ bg=>bO H fun au av H=>bO H fun aw bh H=>Zp (mv S rfl fun f S=>mv S rfl fun f S=>?_));obtain ⟨_,cY,cZ,c2,rfl,ax,bi⟩:=ZWa g (Zg av).2.1;obtain ⟨rfl,bj⟩:=bi;refine ov S rfl (ZN S rfl rfl ZB (Zg av).1 (ltI (ZI g) (Zg av).2.2.1)) fun f S=>ov S rfl (Zea S rfl Z5 (S.view ax)) fun f S=>?_;have m:=Z8 aj m;refine opc S rfl (Z7 S [.slice R T U,.int .u64 au] ZUo rfl rfl) (ZLm S.vin m (show Rep.rel (Zc .u64) _ [.int .u64 au] au from (ZC bj)) bh) ?_;rintro _ c3 f w bk ⟨c4,c5,rfl,ak,bm⟩ S;have ax:=Atm bk ax;obtain ⟨aS,aT,aU,rfl⟩:=Zda ak;obtain ⟨rfl,bn⟩:=bm;refine mv S rfl fun f S=>ov S rfl (Zpa S rfl rfl) fun f S=>ov S rfl (Zpa S rfl rfl) fun f S=>mw S rfl fun f S=>mw S rfl fun f S=>Zn (Zf (bg _ _ (Zi fun _ bo=>bO H fun c6 bp H=>Zp (mv S rfl fun f S=>mv S rfl fun f S=>opc S rfl (Z7 S [.int .u64 (aw.2)] k_en37 rfl rfl) (word_c S.vin (show Rep.rel (Zc .u64) _ [.int .u64 (aw.2)] aw.2 from (ZC bn)) bp) ?_))));rintro _ c7 f w bq ⟨c8,rfl,aV⟩ S;obtain ⟨aW,aX,aY,rfl⟩:=Zda aV;refine mw S rfl fun f S=>mw S rfl fun f S=>Zn ?_;have S:=S.fr' (σ':=[(4,.slice aS aT aU),(5,.slice aW aX aY)]) rfl;refine Zf (bo _ _ (wp_ret (Zkf (ZNa ?_))))
  obtain rfl:=Zl H;have ak:=Z8 bq ak;refine Zxa S (Zoe rfl (ZR S rfl) (ZR S rfl)) ⟨[.slice aS aT aU],[.slice aW aX aY],rfl,ak,aV⟩
 have H:=ZL H W;refine ZM S rfl W (wp_skip (Zdb (Zf (bb _ _ (Zi fun _ br=>bO H fun c9 bs H=>bO H fun ay az H=>bO H fun k bt H=>Zp (mv S rfl fun f S=>mv S rfl fun f S=>ov S rfl (Z9 S (ZI g) rfl rfl ZB) fun f S=>ov S rfl (Ze S rfl rfl (Zta bs)) fun f S=>?_))))));obtain ⟨_,bu,bv,da,rfl,aA,bw⟩:=ZWa g (Zg az).2.1;obtain ⟨rfl,bx⟩:=bw;refine ov S rfl (ZN S rfl rfl ZB (Zg az).1 (ltI (ZI g) (Zg az).2.2.1)) fun f S=>ov S rfl (Zea S rfl Z5 (S.view aA)) fun f S=>opc S rfl (Z7 S [.int .u64 ay] Zcp rfl rfl) (ZEo S.vin (show Rep.rel (Zc .u64) _ [.int .u64 ay] ay from (ZC bx)) bt) ?_;rintro _ db f w aB ⟨dc,rfl,bz⟩ S;have aA:=Atm aB aA;obtain ⟨rfl,aC⟩:=bz;refine mw S rfl fun f S=>Zn (Zf (br _ _ (Zi fun _ bA=>bO H fun bB bC H=>Zp (mv S rfl fun f S=>mv S rfl fun f S=>?_))));have g:=Z8 aB g;refine opc S rfl (Z7 S [.slice (some ⟨bu,bv,none⟩) n5 k6,.int .i64 k] Zeo rfl rfl) (Zjp S.vin g (show Rep.rel (Zc .i64) _ [.int .i64 k] k from (ZC aC)) bC) ?_;rintro _ bD f w bE ⟨dd,rfl,v⟩ S;obtain ⟨aD,aE,aF,rfl⟩:=Zda v;refine mw S rfl fun f S=>Zn (Zf (bA _ _ (Zi fun _ bG=>bO H fun X bH H=>bO H fun de bI H=>bO H fun df bJ H=>Zp ?_)))
 obtain ⟨dg,w,bK,S⟩:=Z7e (P:=Tryz.prog) (t:=32) (e:=80) S (n:=0) (cs:=[]) (vals:=[]) (sz:=1) rfl (by decide) (fun _=>by kernel_rfl);have aG:Rep.rels (Zc .u64) bD [] []:=ZPd;refine Zhb wn rfl zl (bK rfl) S fun f S=>mv S rfl fun f S=>mv S rfl fun f S=>?_;have m:=Z8 (leT (leT aj aB) bE) m;refine opc S rfl (Z7 S [.slice R T U,.int .i64 k] Zeo rfl rfl) (Zjp S.vin m (show Rep.rel (Zc .i64) _ [.int .i64 k] k from (ZC aC)) bH) ?_;rintro _ al f w aZ ⟨dh,rfl,aH⟩ S;have aG:=ZU aZ aG;obtain ⟨di,dj,dk,rfl⟩:=Zda aH;have aI:=S;obtain ⟨dl,dm,a0,w,bM,S,bP⟩:=ZQe (ty:=32) (A:=(Zc .u64)) ZEd S (i:=0) (n':=(([]:(List Int))++((Zd 18446744073709551616 X))).length) rfl aH (appN rfl (ZI aH)) (Zqd bI) (by decide);have bQ:=Zlc aG bP;refine Zhb wn rfl zl (ZOd aI rfl rfl bM) S fun f S=>?_;obtain ⟨dn,w,bR,S⟩:=Z7e S (n:=1) (cs:=[.int .u64 0]) (vals:=[(0,.int .u64 0)]) (sz:=1) rfl (by decide) (ZVl ZEd (x:=.int .u64 0) (cs:=[.int .u64 0]) rfl rfl (by decide));have aJ:Rep.rels (Zc .u64) al [.int .u64 0] [(0:Int)]:=(Zck (ZC (by decide)) ZPd);refine Zhb wn rfl zl (bR rfl) S fun f S=>?_;have aI:=S;obtain ⟨aK,aL,w,bS,S⟩:=Zxi (ty:=32) ZEd S (i:=1) (n':=((([]:(List Int))++((Zd 18446744073709551616 X)))++[(0:Int)]).length) rfl (ZGd aJ rfl) (ZVh S (j:=0) rfl) (ZIi aJ) (appN rfl rfl) (Zqd bJ) (by decide)
 have bT:=Zlc bQ aJ;refine Zhb wn rfl zl (ZOd aI rfl rfl bS) S fun f S=>mw S rfl fun f S=>Zn ?_;have S:=S.fr' (σ':=[(8,.int .i64 k),(9,.slice aD aE aF),(10,.slice (mkA aK) (((([]:(List Int))++((Zd 18446744073709551616 X)))++[(0:Int)]).length) aL)]) rfl;refine Zf (bG _ _ (sr (mv S rfl fun f S=>?_)));have v:=Z8 aZ v;refine ov S rfl (Z9 S (ZI v) rfl rfl ZB) fun f S=>mw S rfl fun f S=>oe (Zi fun _ bU=>bO H fun q bV H=>bO H fun dp am H=>Zp (mv S rfl fun f S=>ov S rfl (Z9 S rfl rfl rfl ZB) fun f S=>mv S rfl fun f S=>ov S rfl (Ze S rfl rfl (Zta bV)) fun f S=>?_));obtain ⟨aM,a1⟩:∃ c:List Value,c=(List.replicate (q).toNat [.int .u64 0]).flatten:=⟨_,rfl⟩;obtain ⟨a2,w,bW,S⟩:=ZLg ZEd S (l:=q) (c:=q) (ZDa am).1 (ZDa am).2.1 (ZDa am).2.2.1 (ZDa am).2.2.2 a1;have bX:Rep.rels (Zc .u64) al aM (List.replicate (q).toNat (0:Int)):=by rw [a1];exact Zmd (show Rep.rel (Zc .u64) _ [.int .u64 0] _ from (ZC (by decide))) _
 refine Zhb wn rfl zl (bW rfl rfl) S fun f S=>mw S rfl fun f S=>Zn (Zf (bU _ _ (Zi fun _ bY=>Zi fun _ bZ=>bO H fun dq a3 H=>Zp (mv S rfl fun f S=>ov S rfl (Z9 S (repN (x:=(0:Int))) rfl rfl ZB) fun f S=>ov S rfl (Ze S rfl rfl (Zta a3)) fun f S=>mw S rfl fun f S=>Zn (Zf (bZ _ _ ?_))))));obtain ⟨b0,b1,b2⟩:=ZF H;refine Zla (fun f w=>∃ G I J B L an Y M Z aN aa,(G,I)=b0∧Zb.le al aa∧St 84 w0 F [(8,.int .i64 k),(10,.slice (mkA J) B L),(12,.slice (mkA Y) M Z)] [Loc.own J 80 1 B L an,Loc.own Y 80 1 M Z aN] aa f w∧Rep.rels (Zc .u64) aa an G∧B=G.length∧Rep.rels (Zc .u64) aa aN I∧M=I.length) (fun _ b3=>?_) ?_
 ·have H:=b1;refine wp_block ?_;obtain ⟨dr,b4,b5⟩:=ZF H;have S:=S.reorder (ℓ':=[Loc.own aK 80 1 (((([]:(List Int))++((Zd 18446744073709551616 X)))++[(0:Int)]).length) aL ((([]++a0)++[.int .u64 0])),Loc.own (some a2) 80 1 ((q).toNat) (q).toNat aM]) [2,0] rfl (by decide);refine Zfb b4 (fun b6 f w=>∃ ao N d ap C D s aq E ab o ac,(ao,N,d)=b6∧Zb.le al ac∧St 84 w0 F [(8,.int .i64 k),(9,.slice aD aE aF),(10,.slice (mkA ap) C D),(11,.int .i64 ((((Zd 18446744073709551616 bB)).length:Int))),(12,.slice (mkA aq) E ab),(13,.int .i64 d)] [Loc.own ap 80 1 C D s,Loc.own aq 80 1 E ab o] ac f w∧Rep.rels (Zc .u64) ac s ao∧C=ao.length∧Rep.rels (Zc .u64) ac o N∧E=N.length∧inR .i64 d) ⟨_,_,_,aK,((([]:(List Int))++((Zd 18446744073709551616 X)))++[(0:Int)]).length,aL,(([]++a0)++[.int .u64 0]),some a2,(q).toNat,(q).toNat,aM,_,rfl,(leR _),(S.fr' rfl),bT,rfl,bX,(repN (x:=(0:Int))),(Zna a3).2⟩ ?_;rintro _ f w st ⟨ao,N,d,ap,C,D,s,aq,E,ab,o,ac,hq,aO,S,ad,ae,af,ag,ds⟩ H dt b7 b8
  subst hq;refine Zi fun _ b9=>sr (mv S rfl fun f S=>ov S rfl (Ze S rfl rfl Z2b) fun f S=>oe ?_);rcases ZJ (decide ((0:Int)≤d)) with ah | ah
  ·have H:=ZK H ah;refine ZQ S rfl ah (wp_skip (Zf (b9 _ _ (Zi fun _ ca=>wp_block (bO H fun du cb H=>bO H fun O cc H=>bO H fun dv h H=>bO H fun u cd H=>bO H fun dw Q H=>Zp (mv S rfl fun f S=>mv S rfl fun f S=>mv S rfl fun f S=>?_))))));refine mv S rfl fun f S=>mv S rfl fun f S=>mv S rfl fun f S=>ov S rfl (Ze S rfl rfl (ZEa cb)) fun f S=>ov S rfl (Ze S rfl rfl (ZEa cc)) fun f S=>?_;obtain ⟨aP,rfl⟩:=ZKc S (j:=0) rfl (by have:=Z6b h;have:=ae;omega);refine ov S rfl (Zzt S (j:=0) rfl ZB (Z6b h).1 (Z6b h).2.1 (by have:=(Z6b h).2.2.1;have:=ae;omega) rfl rfl rfl) fun f S=>mv S rfl fun f S=>?_;obtain ⟨pre399,post400,ce,cg,ch,ci,cj,ck⟩:=Z9q S (i:=0) (lo:=(d).toNat) (hi:=(O).toNat) rfl (Z6b h).2.2.2.2.2.1 (by have:=(Z6b h).2.2.2.2.2.2;have:=ae;omega);have v:=Z8 aO v;refine ZRn S wn rfl zl (Z7 S [.slice (some ⟨aP,(d).toNat*1,none⟩) ((O-d).toNat) (D-(d).toNat),.slice aD aE aF] k_en67 rfl rfl) (i:=0) rfl rfl (digit_c S.vin ce ch cg (Z6b h).2.2.2.2.1 ⟨Zas (Z6b h).1 (Z6b h).2.1 ci,cj⟩ (Zgq ad rfl (Z6b h).2.2.2.1) v cd) ?_;rintro _ a4 f w aQ ⟨⟨dx,rfl,cl⟩,cm,aR,cn,co,a5⟩ hSf;have ad:=ZU aQ ad
   have af:=ZU aQ af;have a6:((O).toNat-(d).toNat)=u.2.length:=by have:=co;have:=Z6b h;omega
   have S:=hSf (Loc.own (some aP) 80 1 C D (List.take ((d).toNat*1) s++aR++List.drop ((O).toNat*1) s)) rfl (ck _ aR (ZGd a5 a6) cn) cm;have cp:=ZJt (p:=(d).toNat) (r:=(O).toNat) (sz:=1) ad a5 rfl;have cq:=Zns ae (Z6b h).2.2.2.2.2.1 (Z6b h).2.2.2.2.2.2 a6;obtain ⟨rfl,cr⟩:=cl;obtain ⟨ct,rfl⟩:=ZKc S (j:=1) rfl (posN ag (Zg Q).2.2.2);have a7:=Zha af (Zg Q).2.1;obtain ⟨dy,cu⟩:∃ c,(List.take (Zc .u64).n (List.drop ((d).toNat*(Zc .u64).n) o))=c:=⟨_,rfl⟩;rw [cu] at a7;obtain ⟨rfl,dz⟩:=a7;refine ov S rfl (ZN S rfl rfl ZB (Zg Q).1 (ltI ag (Zg Q).2.2.1)) fun f S=>?_;obtain ⟨w,cv,S⟩:=ZBb S Z5 (off:=0+(d).toNat*1) (z:=.int .u64 (u.1)) (cs:=[.int .u64 (u.1)]) (Zkb rfl) rfl (i:=1) rfl (Zad S (j:=1) rfl (ltN ag (Zg Q).2.2.2)) (by first | rfl | simp [plain]);have cw:Rep.rels (Zc .u64) a4 (List.take (0+(d).toNat*1) o++[Value.int IntKind.u64 (u.1)]++List.drop (0+(d).toNat*1+1) o) (N.set (d).toNat u.1):=Zvc af (Zg Q).2.2.2 (show Rep.rel (Zc .u64) a4 [.int .u64 (u.1)] _ from (ZC cr)) rfl rfl;have cx:E=(N.set (d).toNat u.1).length:=ZRc ag;refine Z8e wn rfl (cv rfl rfl) (Zn (Zdb (Zf (ca _ _ (bO H fun dA a8 H=>Zp (mv S rfl fun f S=>ov S rfl (Ze S rfl rfl (Zta a8)) fun f S=>mw S rfl fun f S=>Zn ?_))))))
   obtain rfl:=Zl H;refine b7 _ rfl _ _ ⟨_,_,_,some aP,C,D,(List.take ((d).toNat*1) s++aR++List.drop ((O).toNat*1) s),some ct,E,ab,(List.take (0+(d).toNat*1) o++[Value.int IntKind.u64 (u.1)]++List.drop (0+(d).toNat*1+1) o),_,rfl,(leT aO aQ),(S.fr' rfl),cp,cq,cw,cx,(Zna a8).2⟩
  have H:=ZL H ah;refine ZM S rfl ah (wp_exit (ZZ ?_));obtain rfl:=Zl H;have hq:=b8 _ rfl;subst hq;have H:=b5;refine ZZ (ZQa ?_);obtain rfl:=Zl H;refine Zf (b3 _ _ ⟨_,_,ap,C,D,s,aq,E,ab,o,_,rfl,(leT (leR _) aO),(S.fr' rfl),ad,ae,af,ag⟩)
 rintro f w ⟨G,I,J,B,L,an,Y,M,Z,aN,aa,hq,dB,S,ai,cy,cz,cA⟩;subst hq;have H:=b2;refine Zf (bY _ _ (Zi fun _ cB=>bO H fun dC cC H=>bO H fun dD cD H=>bO H fun dE cE H=>Zp (mv S rfl fun f S=>?_)));obtain ⟨dF,cF,S,cG⟩:=S.pubSlice (i:=1) (A:=(Zc .u64)) (l:=I) (ℓ':=[Loc.own J 80 1 B L an]) rfl rfl cA cz rfl;have ai:=ZU cF ai;refine opc S rfl (Z7 S [.slice (mkA Y) M Z] ZKe rfl rfl) (Zwe S.vin (show Rep.rel (Zz (Zc .u64)) _ [.slice (mkA Y) M Z] I from cG) cC) ?_;rintro _ dG f w cH ⟨dH,rfl,ar⟩ S;have ai:=ZU cH ai;obtain ⟨cI,cJ,cK,rfl⟩:=Zda ar;refine mv S rfl fun f S=>?_;obtain ⟨dI,cL,S,cM⟩:=S.pubSlice (i:=0) (A:=(Zc .u64)) (l:=G) (ℓ':=[]) rfl rfl cy ai rfl;refine opc S rfl (Z7 S [.slice (mkA J) B L] ZKe rfl rfl) (Zwe S.vin (show Rep.rel (Zz (Zc .u64)) _ [.slice (mkA J) B L] G from cM) cD) ?_;rintro _ dJ f w cN ⟨dK,rfl,a9⟩ S;obtain ⟨cO,cP,cQ,rfl⟩:=Zda a9;refine mv S rfl fun f S=>opc S rfl (Z7 S [.slice cO cP cQ,.int .i64 k] k_en68 rfl rfl) (right_c S.vin a9 (show Rep.rel (Zc .i64) _ [.int .i64 k] k from (ZC aC)) cE) ?_;rintro _ dL f w cR ⟨dM,rfl,ba⟩ S;obtain ⟨cS,cT,cU,rfl⟩:=Zda ba
 refine mw S rfl fun f S=>mw S rfl fun f S=>Zn (Zf (cB _ _ (wp_ret ?_)));obtain rfl:=Zl H;have ar:=Z8 (leT (leT cL cN) cR) ar;refine Zxa S (Zoe rfl (ZR S rfl) (ZR S rfl)) ⟨[.slice cI cJ cK],[.slice cS cT cU],rfl,ar,ba⟩
theorem Zvq {d:World} {c:Zb} (hv:VIn c d) {e:List Value} {a:Nat} (i:Rep.rel Zr c e a) {f:List Value} {b:Nat} (j:Rep.rel Zr c f b) {z:Nat×Nat} (hm:Z5c a b=some z) :
  Ret Tryz.prog 40 #[Zr.val e,Zr.val f] d c (fun y v'=>∃ g h,y=Value.tuple #[Zr.val g,Zr.val h]∧Zr.rel v' g z.1∧Zr.rel v' h z.2) :=
 ZCq hv i j (Zyt hm)
end Go.Eng
set_option maxRecDepth 100000
set_option maxHeartbeats 4000000
namespace Go.Eng
open Go.Proofs Go.RowKit
noncomputable def Zdg:FuncId×Con:=(40,⟨[.leaf 0,.leaf 0],[.leaf 0,.leaf 0],fun p=>Z5c p.1 p.2⟩)
theorem ZRo:Zw Tryz.prog Zdg.1 Zdg.2:=fun w v vals x z hv ha hz=>by
 obtain ⟨c0,w0,e0,p0,c1,e1,p1⟩:=ha;subst e0;subst e1
 exact .inl ⟨fun _ _=>by kernel_rfl,Ret.mono (Zvq hv p0 p1 hz) fun y v' _ ⟨r0,r1,e,h0,h1⟩=>⟨_,e,r0,_,rfl,h0,r1,rfl,h1⟩⟩
end Go.Eng
set_option maxRecDepth 100000
set_option maxHeartbeats 4000000
namespace Go.Eng
open Go.Proofs Go.RowKit
noncomputable def Z3i:FuncId×Con:=(64,⟨[.leaf 0,.leaf 0],[.int .u64],fun p=>ZEf p.1 p.2⟩)
theorem small_i (a:Nat) (b:Nat):Zy ⟨Tryz.prog,[(32,0)],[],[],[],[],[]⟩ [] Tryz.f64 (.two .no (.two .no (.two (.two .no (.cut ⟨⟨[],[],[]⟩,[(.norm,⟨[1],[],[.s 5 (.dat (.int .u64))]⟩)]⟩ .no)) (.two .no (.two (.cut ⟨⟨[],[],[]⟩,[(.norm,⟨[],[],[.s 5 (.dat (.int .u64))]⟩)]⟩ (.two (.cut ⟨⟨[],[],[.s 5 (.dat (.int .u64)),.s 6 (.dat (.int .u64))]⟩,[(.exit 0,⟨[],[],[.s 5 (.dat (.int .u64))]⟩)]⟩ .no) .no)) .no))))) [.leaf 0,.leaf 0] [.int .u64] (a,b)=Zqj a b:=by kernel_rfl
theorem small_k:Zw Tryz.prog Z3i.1 Z3i.2:=ZD (C:=⟨Tryz.prog,[(32,0)],[],[],[],[],[]⟩) trivial trivial trivial trivial (inl:=[]) trivial (ann:=.two .no (.two .no (.two (.two .no (.cut ⟨⟨[],[],[]⟩,[(.norm,⟨[1],[],[.s 5 (.dat (.int .u64))]⟩)]⟩ .no)) (.two .no (.two (.cut ⟨⟨[],[],[]⟩,[(.norm,⟨[],[],[.s 5 (.dat (.int .u64))]⟩)]⟩ (.two (.cut ⟨⟨[],[],[.s 5 (.dat (.int .u64)),.s 6 (.dat (.int .u64))]⟩,[(.exit 0,⟨[],[],[.s 5 (.dat (.int .u64))]⟩)]⟩ .no) .no)) .no))))) Tryz.func64 (fun _ _=>by kernel_rfl) rfl fun v vals x z ha hz=>(small_i x.1 x.2).trans (ZAp hz)
end Go.Eng
set_option maxRecDepth 100000
set_option maxHeartbeats 4000000
namespace Go.Eng
open Go.Proofs Go.RowKit
noncomputable def Z4i:FuncId×Con:=(38,⟨[.leaf 0,.leaf 0],[.leaf 0],fun p=>gcdF p.1 p.2⟩)
theorem gcd_i (a:Nat) (b:Nat):Zy ⟨Tryz.prog,[(32,0)],[Zye,Zdg,Z3i],[],[],[],[]⟩ [] Tryz.f38 (.two .no (.two (.cut ⟨⟨[],[],[]⟩,[(.norm,⟨[],[],[.s 0 (.dat (.leaf 0))]⟩),(.ret,⟨[],[],[.s 0 (.dat (.leaf 0))]⟩)]⟩ (.two (.cut ⟨⟨[],[],[.s 0 (.dat (.leaf 0)),.s 1 (.dat (.leaf 0))]⟩,[(.ret,⟨[],[],[.s 0 (.dat (.leaf 0))]⟩),(.exit 0,⟨[],[],[.s 0 (.dat (.leaf 0))]⟩)]⟩ (.two (.two .no (.two (.two (.two (.cut ⟨⟨[],[],[]⟩,[(.norm,⟨[0,1],[],[.s 17 (.dat .bool)]⟩)]⟩ .no) .no) .no) .no)) .no)) .no)) .no)) [.leaf 0,.leaf 0] [.leaf 0] (a,b)=ZPi a b:=by kernel_rfl
theorem gcd_k:Zw Tryz.prog Z4i.1 Z4i.2:=ZD (C:=⟨Tryz.prog,[(32,0)],[Zye,Zdg,Z3i],[],[],[],[]⟩) ⟨Zrl,ZRo,small_k,trivial⟩ trivial trivial trivial (inl:=[]) trivial (ann:=.two .no (.two (.cut ⟨⟨[],[],[]⟩,[(.norm,⟨[],[],[.s 0 (.dat (.leaf 0))]⟩),(.ret,⟨[],[],[.s 0 (.dat (.leaf 0))]⟩)]⟩ (.two (.cut ⟨⟨[],[],[.s 0 (.dat (.leaf 0)),.s 1 (.dat (.leaf 0))]⟩,[(.ret,⟨[],[],[.s 0 (.dat (.leaf 0))]⟩),(.exit 0,⟨[],[],[.s 0 (.dat (.leaf 0))]⟩)]⟩ (.two (.two .no (.two (.two (.two (.cut ⟨⟨[],[],[]⟩,[(.norm,⟨[0,1],[],[.s 17 (.dat .bool)]⟩)]⟩ .no) .no) .no) .no)) .no)) .no)) .no)) Tryz.func38 (fun _ _=>by kernel_rfl) rfl fun v vals x z ha hz=>(gcd_i x.1 x.2).trans (gcdF_eq hz)
end Go.Eng
set_option maxRecDepth 100000
set_option maxHeartbeats 4000000
namespace Go.Eng
open Go.Proofs Go.RowKit
noncomputable def Z5f:FuncId×Con:=(39,⟨[.leaf 0],[.bool],fun p=>Z0e p⟩)
theorem isOne_i (a:(List Int)):Zy ⟨Tryz.prog,[],[],[],[],[],[]⟩ [] Tryz.f39 (.two .no (.two (.cut ⟨⟨[],[],[]⟩,[(.norm,⟨[],[],[.s 2 (.dat .bool)]⟩)]⟩ .no) .no)) [.slice (.int .u64)] [.bool] (a)=ZBl a:=by kernel_rfl
theorem Z7m:Zw Tryz.prog Z5f.1 Z5f.2:=con_m (C:=⟨Tryz.prog,[],[],[],[],[],[]⟩) trivial trivial trivial trivial (inl:=[]) trivial (ann:=.two .no (.two (.cut ⟨⟨[],[],[]⟩,[(.norm,⟨[],[],[.s 2 (.dat .bool)]⟩)]⟩ .no) .no)) (ats:=[.slice (.int .u64)]) (rts:=[.bool]) (fun x=>((Zd 18446744073709551616 x))) (fun z=>z) (fun _ _ _ h=>h) (fun _ _ _ h=>h) Tryz.func39 (fun _ _=>by kernel_rfl) rfl fun v vals x z ha hz=>(isOne_i (Zd 18446744073709551616 x)).trans (Zat.trans hz)
end Go.Eng
set_option maxRecDepth 100000
set_option maxHeartbeats 4000000
namespace Go.Eng
open Go.Proofs Go.RowKit
noncomputable def Zme:FuncId×Con:=(17,⟨[.leaf 2,.leaf 0],[.leaf 3],fun p=>ZVd p.1 p.2⟩)
theorem over_i (n:Int) (d:Nat):Zy ⟨Tryz.prog,[(32,0),(34,2),(36,3)],[Z4i,Z5f,Zdg],[],[],[],[]⟩ [] Tryz.f17 (.two .no (.two (.two .no (.two .no (.cut ⟨⟨[],[],[]⟩,[(.norm,⟨[2,4],[],[.s 1 (.dat (.leaf 0)),.l (.sl 2) (.box 34 (.dat (.pair .bool (.leaf 0))))]⟩)]⟩ .no))) (.two (.two .no (.cut ⟨⟨[],[],[]⟩,[(.norm,⟨[2,4],[],[.s 1 (.dat (.leaf 0))]⟩)]⟩ .no)) .no))) [.leaf 2,.leaf 0] [.leaf 3] (n,d)=ZKl n d:=by kernel_rfl
theorem Zpl:Zw Tryz.prog Zme.1 Zme.2:=ZD (C:=⟨Tryz.prog,[(32,0),(34,2),(36,3)],[Z4i,Z5f,Zdg],[],[],[],[]⟩) ⟨gcd_k,Z7m,ZRo,trivial⟩ trivial trivial trivial (inl:=[]) trivial (ann:=.two .no (.two (.two .no (.two .no (.cut ⟨⟨[],[],[]⟩,[(.norm,⟨[2,4],[],[.s 1 (.dat (.leaf 0)),.l (.sl 2) (.box 34 (.dat (.pair .bool (.leaf 0))))]⟩)]⟩ .no))) (.two (.two .no (.cut ⟨⟨[],[],[]⟩,[(.norm,⟨[2,4],[],[.s 1 (.dat (.leaf 0))]⟩)]⟩ .no)) .no))) Tryz.func17 (fun _ _=>by kernel_rfl) rfl fun v vals x z ha hz=>(over_i x.1 x.2).trans (Zqr hz)
end Go.Eng
set_option maxRecDepth 100000
set_option maxHeartbeats 4000000
namespace Go.Eng
open Go.Proofs Go.RowKit
noncomputable def Zsj:FuncId×Con:=(44,⟨[.int .u64,.int .u64],[.int .u64,.int .u64],fun p=>Z5b p.1 p.2⟩)
theorem mul64_i (x:Int) (y:Int):Zy ⟨Tryz.prog,[],[],[],[],[],[]⟩ [] Tryz.f44 .no [.int .u64,.int .u64] [.int .u64,.int .u64] (x,y)=ZIf x y:=by kernel_rfl
theorem mul64_k:Zw Tryz.prog Zsj.1 Zsj.2:=ZD (C:=⟨Tryz.prog,[],[],[],[],[],[]⟩) trivial trivial trivial trivial (inl:=[]) trivial (ann:=.no) Tryz.func44 (fun _ _=>by kernel_rfl) rfl fun v vals x z ha hz=>(mul64_i x.1 x.2).trans (ZMm hz)
end Go.Eng
set_option maxRecDepth 100000
set_option maxHeartbeats 4000000
namespace Go.Eng
open Go.Proofs Go.RowKit
noncomputable def Zhg:FuncId×Con:=(45,⟨[.int .u64,.int .u64,.int .u64],[.int .u64,.int .u64],fun p=>Z5a p.1 p.2.1 p.2.2⟩)
theorem ZJm:Zw Tryz.prog Zhg.1 Zhg.2:=fun w v vals x z _ ha hz=>by
 obtain ⟨c0,w0,e0,p0,c1,w1,e1,p1,c2,e2,p2⟩:=ha
 subst e0 e1 e2
 obtain ⟨rfl,h0⟩:=p0
 obtain ⟨rfl,h1⟩:=p1
 obtain ⟨rfl,h2⟩:=p2
 have p0:(Zc .u64).rel v [.int .u64 x.1] x.1:=⟨rfl,h0⟩
 have p1:(Zc .u64).rel v [.int .u64 x.2.1] x.2.1:=⟨rfl,h1⟩
 exact .inr ⟨.tuple #[.int .u64 z.1,.int .u64 z.2],fun w=>ZOl (show Zle Tryz.prog 45 add64Entry from ⟨_,Tryz.func45,by kernel_rfl,by kernel_rfl,by kernel_rfl,by kernel_rfl⟩) hz w,_,rfl,_,_,rfl,⟨rfl,Z6j hz⟩,_,rfl,⟨rfl,addW_hi p0.2 p1.2 hz⟩⟩
end Go.Eng
set_option maxRecDepth 100000
set_option maxHeartbeats 4000000
namespace Go.Eng
open Go.Proofs Go.RowKit
noncomputable def Zhc:FuncId×Con:=(20,⟨[.leaf 0,.leaf 0],[.leaf 0],fun p=>ZOb p.1 p.2⟩)
theorem times_i (a:Nat) (b:Nat):Zy ⟨Tryz.prog,[(32,0)],[Z5f,Zsj,Zhg,ZYd],[],[],[],[]⟩ [] Tryz.f20 (.two .no (.two .no (.two .no (.two .no (.two (.two .no (.cut ⟨⟨[],[],[]⟩,[(.norm,⟨[],[],[.s 5 (.own 80 (.int .u64))]⟩)]⟩ (.two (.cut ⟨⟨[1,26,27],[],[.s 5 (.own 80 (.int .u64)),.s 28 (.dat (.int .i64))]⟩,[(.exit 0,⟨[],[],[.s 5 (.own 80 (.int .u64))]⟩)]⟩ (.two (.two .no (.two .no (.two (.two (.two .no (.two .no (.two (.two .no (.cut ⟨⟨[],[],[]⟩,[(.norm,⟨[1,6,26,27,28],[],[.s 5 (.own 80 (.int .u64)),.s 8 (.dat (.int .u64))]⟩)]⟩ (.two (.cut ⟨⟨[1,6,7,26,27,28,33,34],[],[.s 5 (.own 80 (.int .u64)),.s 8 (.dat (.int .u64)),.s 35 (.dat (.int .i64))]⟩,[(.exit 2,⟨[1,6,26,27,28],[],[.s 5 (.own 80 (.int .u64)),.s 8 (.dat (.int .u64))]⟩)]⟩ .no) .no))) .no))) .no) .no))) .no)) .no))) .no))))) [.leaf 0,.leaf 0] [.leaf 0] (a,b)=Z0h a b:=by kernel_rfl
theorem Zdh:Zw Tryz.prog Zhc.1 Zhc.2:=ZD (C:=⟨Tryz.prog,[(32,0)],[Z5f,Zsj,Zhg,ZYd],[],[],[],[]⟩) ⟨Z7m,mul64_k,ZJm,cut_k,trivial⟩ trivial trivial trivial (inl:=[]) trivial (ann:=.two .no (.two .no (.two .no (.two .no (.two (.two .no (.cut ⟨⟨[],[],[]⟩,[(.norm,⟨[],[],[.s 5 (.own 80 (.int .u64))]⟩)]⟩ (.two (.cut ⟨⟨[1,26,27],[],[.s 5 (.own 80 (.int .u64)),.s 28 (.dat (.int .i64))]⟩,[(.exit 0,⟨[],[],[.s 5 (.own 80 (.int .u64))]⟩)]⟩ (.two (.two .no (.two .no (.two (.two (.two .no (.two .no (.two (.two .no (.cut ⟨⟨[],[],[]⟩,[(.norm,⟨[1,6,26,27,28],[],[.s 5 (.own 80 (.int .u64)),.s 8 (.dat (.int .u64))]⟩)]⟩ (.two (.cut ⟨⟨[1,6,7,26,27,28,33,34],[],[.s 5 (.own 80 (.int .u64)),.s 8 (.dat (.int .u64)),.s 35 (.dat (.int .i64))]⟩,[(.exit 2,⟨[1,6,26,27,28],[],[.s 5 (.own 80 (.int .u64)),.s 8 (.dat (.int .u64))]⟩)]⟩ .no) .no))) .no))) .no) .no))) .no)) .no))) .no))))) Tryz.func20 (fun _ _=>by kernel_rfl) rfl fun v vals x z ha hz=>(times_i x.1 x.2).trans (Z4r hz)
end Go.Eng
set_option maxRecDepth 100000
set_option maxHeartbeats 4000000
namespace Go.Eng
open Go.Proofs Go.RowKit
noncomputable def Zic:FuncId×Con:=(41,⟨[.bool,.leaf 0],[.leaf 2],fun p=>Zob p.1 p.2⟩)
theorem whole_i (s:Bool) (n:Nat):Zy ⟨Tryz.prog,[(32,0),(34,2),(36,3)],[],[],[],[],[]⟩ [] Tryz.f41 (.two .no (.two (.cut ⟨⟨[],[],[]⟩,[(.norm,⟨[4],[],[.l (.sl 4) (.box 34 (.dat (.pair .bool (.leaf 0))))]⟩)]⟩ .no) .no)) [.bool,.leaf 0] [.leaf 2] (s,n)=Zmk s n:=by kernel_rfl
theorem ZEh:Zw Tryz.prog Zic.1 Zic.2:=ZD (C:=⟨Tryz.prog,[(32,0),(34,2),(36,3)],[],[],[],[],[]⟩) trivial trivial trivial trivial (inl:=[]) trivial (ann:=.two .no (.two (.cut ⟨⟨[],[],[]⟩,[(.norm,⟨[4],[],[.l (.sl 4) (.box 34 (.dat (.pair .bool (.leaf 0))))]⟩)]⟩ .no) .no)) Tryz.func41 (fun _ _=>by kernel_rfl) rfl fun v vals x z ha hz=>(whole_i x.1 x.2).trans (ZIt hz)
end Go.Eng
set_option maxRecDepth 100000
set_option maxHeartbeats 4000000
namespace Go.Eng
open Go.Proofs Go.RowKit
noncomputable def ZNf:FuncId×Con:=(18,⟨[.leaf 2,.leaf 0],[.leaf 2],fun p=>Zne p.1 p.2⟩)
theorem Zcq (x:Int) (n:Nat):Zy ⟨Tryz.prog,[(32,0),(34,2),(36,3)],[Zhc,Zic],[],[],[],[]⟩ [] Tryz.f18 .no [.leaf 2,.leaf 0] [.leaf 2] (x,n)=Ztk x n:=by kernel_rfl
theorem ZTm:Zw Tryz.prog ZNf.1 ZNf.2:=ZD (C:=⟨Tryz.prog,[(32,0),(34,2),(36,3)],[Zhc,Zic],[],[],[],[]⟩) ⟨Zdh,ZEh,trivial⟩ trivial trivial trivial (inl:=[]) trivial (ann:=.no) Tryz.func18 (fun _ _=>by kernel_rfl) rfl fun v vals x z ha hz=>(Zcq x.1 x.2).trans (Zhr hz)
end Go.Eng
set_option maxRecDepth 100000
set_option maxHeartbeats 4000000
namespace Go.Eng
open Go.Proofs Go.RowKit
noncomputable def Zag:FuncId×Con:=(30,⟨[.leaf 0,.leaf 0],[.int .i64],fun p=>ZAc p.1 p.2⟩)
theorem cmp_i (a:(List Int)) (b:(List Int)):Zy ⟨Tryz.prog,[],[],[],[],[],[]⟩ [] Tryz.f30 (.two .no (.two .no (.two (.two .no (.cut ⟨⟨[],[],[]⟩,[(.norm,⟨[],[],[]⟩),(.ret,⟨[],[],[.s 0 (.dat (.int .i64))]⟩)]⟩ (.two (.cut ⟨⟨[0,1],[],[.s 5 (.dat (.int .i64))]⟩,[(.ret,⟨[],[],[.s 0 (.dat (.int .i64))]⟩),(.exit 0,⟨[],[],[]⟩)]⟩ .no) .no))) .no))) [.slice (.int .u64),.slice (.int .u64)] [.int .i64] (a,b)=Zzh a b:=by kernel_rfl
theorem cmp_k:Zw Tryz.prog Zag.1 Zag.2:=con_m (C:=⟨Tryz.prog,[],[],[],[],[],[]⟩) trivial trivial trivial trivial (inl:=[]) trivial (ann:=.two .no (.two .no (.two (.two .no (.cut ⟨⟨[],[],[]⟩,[(.norm,⟨[],[],[]⟩),(.ret,⟨[],[],[.s 0 (.dat (.int .i64))]⟩)]⟩ (.two (.cut ⟨⟨[0,1],[],[.s 5 (.dat (.int .i64))]⟩,[(.ret,⟨[],[],[.s 0 (.dat (.int .i64))]⟩),(.exit 0,⟨[],[],[]⟩)]⟩ .no) .no))) .no))) (ats:=[.slice (.int .u64),.slice (.int .u64)]) (rts:=[.int .i64]) (fun x=>((Zd 18446744073709551616 x.1),(Zd 18446744073709551616 x.2))) (fun z=>z) (fun _ _ _ h=>h) (fun _ _ _ h=>h) Tryz.func30 (fun _ _=>by kernel_rfl) rfl fun v vals x z ha hz=>by obtain ⟨c0,w0,e0,p0,c1,e1,p1⟩:=ha;exact (cmp_i (Zd 18446744073709551616 x.1) (Zd 18446744073709551616 x.2)).trans ((ZPo (ZUh p0) (ZUh p1)).trans hz)
end Go.Eng
set_option maxRecDepth 100000
set_option maxHeartbeats 4000000
namespace Go.Eng
open Go.Proofs Go.RowKit
noncomputable def Zwi:FuncId×Con:=(42,⟨[.leaf 0,.leaf 0],[.leaf 0],fun p=>ZBh p.1 p.2⟩)
theorem plus_i (a:Nat) (b:Nat):Zy ⟨Tryz.prog,[(32,0)],[Zhg],[],[],[],[]⟩ [] Tryz.f42 (.two .no (.two (.two .no (.cut ⟨⟨[],[],[]⟩,[(.norm,⟨[],[],[.s 0 (.dat (.leaf 0)),.s 1 (.dat (.leaf 0))]⟩)]⟩ .no)) (.two .no (.two .no (.two (.two .no (.cut ⟨⟨[],[],[]⟩,[(.norm,⟨[],[],[.s 5 (.own 80 (.int .u64)),.s 6 (.dat (.int .u64))]⟩)]⟩ (.two (.cut ⟨⟨[1,23,24],[],[.s 5 (.own 80 (.int .u64)),.s 6 (.dat (.int .u64)),.s 25 (.dat (.int .i64))]⟩,[(.exit 0,⟨[],[],[.s 5 (.own 80 (.int .u64)),.s 6 (.dat (.int .u64))]⟩)]⟩ (.two (.two .no (.two .no (.two (.two (.two .no (.two .no (.two (.two .no (.cut ⟨⟨[],[],[]⟩,[(.norm,⟨[1,5,6,7,8,23,24,25],[],[.s 9 (.dat (.int .u64))]⟩)]⟩ .no)) .no))) .no) .no))) .no)) .no))) (.two (.two .no (.cut ⟨⟨[],[],[]⟩,[(.norm,⟨[],[],[.s 5 (.own 80 (.int .u64))]⟩)]⟩ .no)) .no)))))) [.leaf 0,.leaf 0] [.leaf 0] (a,b)=ZRi a b:=by kernel_rfl
theorem plus_k:Zw Tryz.prog Zwi.1 Zwi.2:=ZD (C:=⟨Tryz.prog,[(32,0)],[Zhg],[],[],[],[]⟩) ⟨ZJm,trivial⟩ trivial trivial trivial (inl:=[]) trivial (ann:=.two .no (.two (.two .no (.cut ⟨⟨[],[],[]⟩,[(.norm,⟨[],[],[.s 0 (.dat (.leaf 0)),.s 1 (.dat (.leaf 0))]⟩)]⟩ .no)) (.two .no (.two .no (.two (.two .no (.cut ⟨⟨[],[],[]⟩,[(.norm,⟨[],[],[.s 5 (.own 80 (.int .u64)),.s 6 (.dat (.int .u64))]⟩)]⟩ (.two (.cut ⟨⟨[1,23,24],[],[.s 5 (.own 80 (.int .u64)),.s 6 (.dat (.int .u64)),.s 25 (.dat (.int .i64))]⟩,[(.exit 0,⟨[],[],[.s 5 (.own 80 (.int .u64)),.s 6 (.dat (.int .u64))]⟩)]⟩ (.two (.two .no (.two .no (.two (.two (.two .no (.two .no (.two (.two .no (.cut ⟨⟨[],[],[]⟩,[(.norm,⟨[1,5,6,7,8,23,24,25],[],[.s 9 (.dat (.int .u64))]⟩)]⟩ .no)) .no))) .no) .no))) .no)) .no))) (.two (.two .no (.cut ⟨⟨[],[],[]⟩,[(.norm,⟨[],[],[.s 5 (.own 80 (.int .u64))]⟩)]⟩ .no)) .no)))))) Tryz.func42 (fun _ _=>by kernel_rfl) rfl fun v vals x z ha hz=>(plus_i x.1 x.2).trans (ZTp hz)
end Go.Eng
