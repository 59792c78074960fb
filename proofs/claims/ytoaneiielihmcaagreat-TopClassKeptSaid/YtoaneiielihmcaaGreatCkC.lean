/- Lemmas towards the statement: the engine of the walks, the functions' models, laws and walks, part 3. Conditions: as each states. -/
import Derived.LoopN
import Derived.Scope
import Derived.Test.YtoaneiielihmcaaGreatCkB
set_option linter.all false
set_option maxRecDepth 100000
namespace Go.Eng
set_option maxRecDepth 100000
theorem Zem {f:RR2→Rat} (hf:∀ d p p',f (d,p+p')=f (d,p)+f (d,p')) (d p:Rat):∀ (l:List RR2),ZB f (Z8 d p l)=f (d,p)+ZB f l
 | []=>by simp only [Z8,ZB]
 | e :: r=>by
  unfold Z8
  split
  ·split
   ·rename_i he
    simp only [ZB]
    rw [hf,show f (e.1,e.2)=f e from rfl,← he]
    grind
   ·simp only [ZB]
  ·simp only [ZB]
   rw [Zem hf d p r]
   grind
theorem ZEm {f:RR2→Rat} (hf:∀ d p p',f (d,p+p')=f (d,p)+f (d,p')) (a:RR2):∀ (q s:List RR2),ZB f (inF a q s)=ZB (fun b=>f (a.1+b.1,a.2*b.2)) q+ZB f s
 | [],s=>by show ZB f s=0+ZB f s;grind
 | b :: q,s=>by
  show ZB f (inF a q (Z8 (a.1+b.1) (a.2*b.2) s))=_
  rw [ZEm hf a q,Zem hf]
  simp only [ZB]
  grind
theorem Zzm {f:RR2→Rat} (hf:∀ d p p',f (d,p+p')=f (d,p)+f (d,p')) (q:List RR2):∀ (p s:List RR2),ZB f (p.foldl (fun s a=>inF a q s) s)=ZB (fun a=>ZB (fun b=>f (a.1+b.1,a.2*b.2)) q) p+ZB f s
 | [],s=>by show ZB f s=0+ZB f s;grind
 | a :: p,s=>by
  show ZB f (p.foldl (fun s a=>inF a q s) (inF a q s))=_
  rw [Zzm hf q p,ZEm hf]
  simp only [ZB]
  grind
theorem Z0l {f:RR2→Rat} (hf:∀ d p p',f (d,p+p')=f (d,p)+f (d,p')) (p q:List RR2):ZB f (ZAb p q)=ZB (fun a=>ZB (fun b=>f (a.1+b.1,a.2*b.2)) q) p:=by
 show ZB f (p.foldl (fun s a=>inF a q s) [])=_;rw [Zzm hf q p];show _+(0:Rat)=_;grind
theorem ZKl (c:Rat):∀ (q:List RR2),ZB (fun b=>c*b.2) q=c*ZB (·.2) q
 | []=>by simp only [ZB];grind
 | b :: q=>by simp only [ZB];rw [ZKl c q];grind
def Fx (D:Nat) (B:Nat) (x:Rat):Prop:=∃ m:Int,x=(m:Rat) / (D:Rat)∧-(B:Int)≤m∧m≤B
theorem ZVe {n:Int} {d:Nat} (h:0<d):Zoa (n,(d:Int))=(n:Rat) / (d:Rat):=by
 unfold Zoa;rw [if_neg (by simp only;omega)];simp only;rw [Rat.divInt_eq_div];rfl
theorem Fx.sz {D B:Nat} {x:Rat} (h:Fx D B x) (h0:0<D) (h1:D≤9223372036854775807) (h2:B≤9223372036854775807):sz 64 x:=by
 obtain ⟨m,e,a,b⟩:=h;rw [e,← ZVe h0];exact Zdg ⟨⟨by simp only;omega,by simp only;omega⟩,by simp only;omega,by simp only;omega⟩
theorem Fx.add {D B B':Nat} {x y:Rat} (h:Fx D B x) (h':Fx D B' y):Fx D (B+B') (x+y):=by
 obtain ⟨m,e,a,b⟩:=h;obtain ⟨m',e',a',b'⟩:=h';refine ⟨m+m',?_,by omega,by omega⟩;rw [e,e',Rat.intCast_add];simp only [Rat.div_def];grind
theorem Fx.mul {D D' B B':Nat} {x y:Rat} (h:Fx D B x) (h':Fx D' B' y):Fx (D*D') (B*B') (x*y):=by
 obtain ⟨m,e,a,b⟩:=h;obtain ⟨m',e',a',b'⟩:=h';have hb:(m*m').natAbs≤B*B':=by
  rw [Int.natAbs_mul];exact Nat.mul_le_mul (by omega) (by omega)
 refine ⟨m*m',?_,by omega,by omega⟩;rw [e,e',Rat.intCast_mul,Rat.natCast_mul];simp only [Rat.div_def,Rat.inv_mul_rev];grind
theorem Fx.mono {D B B':Nat} {x:Rat} (h:Fx D B x) (hB:B≤B'):Fx D B' x:=by
 obtain ⟨m,e,a,b⟩:=h;exact ⟨m,e,by omega,by omega⟩
def Okn (D n:Nat) (e:RR2):Prop:=Fx 100 256 e.1∧Fx D (n*1048576) e.2∧0≤e.2
theorem Okn.mono {D n m:Nat} {e:RR2} (h:Okn D n e) (hm:n≤m):Okn D m e:=⟨h.1,h.2.1.mono (Nat.mul_le_mul_right _ hm),h.2.2⟩
theorem Z8l {D n:Nat} {d p:Rat} (hd:Okn D 1 (d,p)):∀ {l:List RR2},(∀ e ∈ l,Okn D n e)→∀ e ∈ Z8 d p l,Okn D (n+1) e
 | [],_,x,hx=>by
  simp [Z8] at hx;subst hx;exact hd.mono (by omega)
 | e :: r,h,x,hx=>by
  have he:=h e List.mem_cons_self
  have hr:∀ y ∈ r,Okn D n y:=fun y hy=>h y (List.mem_cons_of_mem _ hy)
  unfold Z8 at hx
  split at hx
  ·split at hx
   ·rcases List.mem_cons.1 hx with rfl | hx
    ·have h2:(0:Rat)≤e.2:=he.2.2
     have h3:(0:Rat)≤p:=hd.2.2
     exact ⟨he.1,(he.2.1.add hd.2.1).mono (by omega),by show (0:Rat)≤e.2+p;grind⟩
    ·exact (hr x hx).mono (by omega)
   ·rcases List.mem_cons.1 hx with rfl | hx
    ·exact hd.mono (by omega)
    ·exact (h x hx).mono (by omega)
  ·rcases List.mem_cons.1 hx with rfl | hx
   ·exact he.mono (by omega)
   ·exact Z8l hd hr x hx
theorem Zmn {D:Nat} {a:RR2}:∀ {q:List RR2} {n:Nat} {s:List RR2},(∀ b ∈ q,Okn D 1 (a.1+b.1,a.2*b.2))→(∀ e ∈ s,Okn D n e)→(∀ e ∈ inF a q s,Okn D (n+q.length) e)∧(inF a q s).length≤s.length+q.length
 | [],n,s,_,h=>⟨h,by simp [inF]⟩
 | b :: q,n,s,hq,h=>by
  have h2:=Zmn (q:=q) (fun x hx=>hq x (List.mem_cons_of_mem _ hx)) (Z8l (hq b List.mem_cons_self) h)
  refine ⟨fun e he=>(h2.1 e he).mono (by simp;omega),?_⟩
  have h3:=Z9k (d:=a.1+b.1) (p:=a.2*b.2) (l:=s)
  have:=h2.2
  show (inF a q (Z8 (a.1+b.1) (a.2*b.2) s)).length≤_
  simp only [List.length_cons]
  omega
theorem ZZo {D:Nat} {q:List RR2}:∀ {p:List RR2} {n:Nat} {s:List RR2},(∀ a ∈ p,∀ b ∈ q,Okn D 1 (a.1+b.1,a.2*b.2))→(∀ e ∈ s,Okn D n e)→(∀ e ∈ p.foldl (fun s a=>inF a q s) s,Okn D (n+q.length*p.length) e)∧(p.foldl (fun s a=>inF a q s) s).length≤s.length+q.length*p.length
 | [],n,s,_,h=>⟨by simpa using h,by simp⟩
 | a :: p,n,s,hq,h=>by
  have h1:=Zmn (hq a List.mem_cons_self) h
  have h2:=ZZo (p:=p) (fun x hx=>hq x (List.mem_cons_of_mem _ hx)) h1.1
  refine ⟨fun e he=>(h2.1 e he).mono (by simp only [List.length_cons,Nat.mul_succ];omega),?_⟩
  have:=h2.2
  have:=h1.2
  show (p.foldl (fun s a=>inF a q s) (inF a q s)).length≤_
  simp only [List.length_cons,Nat.mul_succ]
  omega
structure ChP (P:List RR2):Prop where
 len:P.length≤4
 one:ZB (·.2) P=1
 ok:∃ T:Nat,0<T∧T≤1024∧∀ e ∈ P,Fx 100 128 e.1∧Fx T 1024 e.2∧0≤e.2
theorem ZRn {d:List RR2} (hl:d.length≤64) (hp:∀ e ∈ d,0≤e.2) (h1:ZB (·.2) d=1):Z5 d=0:=by
 have h0:d.length≠0:=by
  intro h;rw [List.length_eq_zero_iff.1 h] at h1;exact absurd h1 (by show ¬ (0:Rat)=1;decide)
 unfold Z5;rw [if_neg (by omega),Z5l];have ha:d.any (fun e=>decide (e.2<0))=false:=List.any_eq_false.2 fun e he=>by
  have:=hp e he;simp only [decide_eq_true_iff];grind
 rw [ha,h1,if_neg (by simp),show (0:Rat)+1=1 by grind];unfold Zvb;rw [if_pos rfl]
theorem ChP.szd {P:List RR2} (h:ChP P):szP P:=fun i hi=>by
 obtain ⟨T,h0,h1,h2⟩:=h.ok
 have:=h2 _ (List.getElem_mem hi)
 exact ⟨this.1.sz (by omega) (by omega) (by omega),this.2.1.sz h0 (by omega) (by omega)⟩
theorem ChP.code {P:List RR2} (h:ChP P):Z5 P=0:=by
 obtain ⟨T,h0,h1,h2⟩:=h.ok;exact ZRn (by have:=h.len;omega) (fun e he=>(h2 e he).2.2) h.one
theorem ZCp {x y:Rat} (hx:0≤x) (hy:0≤y):0≤x*y:=Rat.mul_nonneg hx hy
theorem ChP.sum {P Q:List RR2} (hP:ChP P) (hQ:ChP Q):szP (ZAb P Q)∧Z5 (ZAb P Q)=0:=by
 obtain ⟨T,h0,h1,h2⟩:=hP.ok;obtain ⟨T',h0',h1',h2'⟩:=hQ.ok;have hT:0<T*T':=Nat.mul_pos h0 h0';have hT2:T*T'≤1024*1024:=Nat.mul_le_mul h1 h1';have hl:Q.length*P.length≤4*4:=Nat.mul_le_mul hQ.len hP.len;have h3:=ZZo (D:=T*T') (q:=Q) (p:=P) (n:=0) (s:=[]) (fun a ha b hb=>⟨(h2 a ha).1.add (h2' b hb).1,(h2 a ha).2.1.mul (h2' b hb).2.1,ZCp (h2 a ha).2.2 (h2' b hb).2.2⟩) (fun e he=>by cases he);have h4:(ZAb P Q).length≤16:=by have:=h3.2;simp only [List.length_nil] at this;exact Nat.le_trans this (by omega)
 refine ⟨fun i hi=>?_,ZRn (by omega) (fun e he=>(h3.1 e he).2.2) ?_⟩
 ·have:=h3.1 _ (List.getElem_mem hi);have h5:(0+Q.length*P.length)*1048576≤16*1048576:=Nat.mul_le_mul_right _ (by omega);exact ⟨this.1.sz (by omega) (by omega) (by omega),this.2.1.sz hT (by omega) (by omega)⟩
 ·rw [Z0l (f:=fun e=>e.2) (fun _ _ _=>rfl)];have e1:(fun a:RR2=>ZB (fun b=>a.2*b.2) Q)=fun a=>a.2:=funext fun a=>by rw [ZKl,hQ.one];grind
  rw [e1];exact hP.one
def wCh (x:Int×Int):Int:=1+IntKind.u8.wrap x.2
def Zia (l:List (Int×Int)):Int:=(l.map wCh).sum
def Zqc (T:Int) (x:Int×Int):RR2:=(Zoa (x.1,100),Zoa (wCh x,T))
theorem Zyi (x:Int×Int):1≤wCh x∧wCh x≤256:=by unfold wCh;rw [IntKind.wrap_u8];omega
theorem Zak:∀ (l:List (Int×Int)),(l.length:Int)≤Zia l∧Zia l≤256*l.length
 | []=>by simp [Zia]
 | x :: l=>by
  have:=Zak l
  have:=Zyi x
  simp only [Zia,List.map_cons,List.sum_cons,List.length_cons] at *
  omega
theorem ZMs (l:List (Int×Int)) (x:Int×Int):Zia (l++[x])=Zia l+wCh x:=by
 unfold Zia
 induction l with
 | nil=>simp
 | cons y l ih=>simp only [List.cons_append,List.map_cons,List.sum_cons,ih];omega
theorem Z3l {T:Nat} (hT:0<T):∀ (l:List (Int×Int)),ZB (·.2) (l.map (Zqc (T:Int)))=(Zia l:Rat) / (T:Rat)
 | []=>by simp only [List.map_nil,ZB,Zia,List.sum_nil];rw [Rat.div_def];grind
 | x :: l=>by
  simp only [List.map_cons,ZB]
  rw [Z3l hT l,show (Zqc (T:Int) x).2=Zoa (wCh x,(T:Int)) from rfl,ZVe hT,show Zia (x :: l)=wCh x+Zia l by simp [Zia],Rat.intCast_add]
  simp only [Rat.div_def]
  grind
def chF (l:List (Int×Int)):List RR2:=if (l.take 4).length=0 then [(0,1)] else (l.take 4).map (Zqc (Zia (l.take 4)))
def b8 (x:Int×Int):Prop:=(-128≤x.1∧x.1≤127)∧(-128≤x.2∧x.2≤127)
theorem ZOo {l:List (Int×Int)} (h:∀ x ∈ l,b8 x):ChP (chF l):=by
 unfold chF;split
 ·refine ⟨by simp,by simp only [ZB];grind,1,by omega,by omega,fun e he=>?_⟩;rw [List.mem_singleton.1 he];exact ⟨⟨0,by simp;rw [Rat.div_def];grind,by omega,by omega⟩,⟨1,by simp;rw [Rat.div_def];exact (Rat.mul_inv_cancel 1 (by decide)).symm,by omega,by omega⟩,by decide⟩
 ·rename_i hl;have h4:(l.take 4).length≤4:=by simp;omega
  have ht:=Zak (l.take 4);obtain ⟨T,hT⟩:∃ T:Nat,Zia (l.take 4)=(T:Int):=⟨(Zia (l.take 4)).toNat,by omega⟩;have hm:∀ x ∈ l.take 4,b8 x:=fun x hx=>h x (List.mem_of_mem_take hx);have h0:0<T:=by omega
  refine ⟨by rw [List.length_map];exact h4,?_,T,h0,by omega,fun e he=>?_⟩
  ·rw [hT,Z3l h0,hT,Rat.div_def];have:(T:Rat)≠0:=by
    intro h;have:(T:Rat)=((0:Nat):Rat):=h;have:=Rat.natCast_inj.1 this;omega
   rw [show ((T:Int):Rat)=(T:Rat) from rfl];exact Rat.mul_inv_cancel _ this
  ·obtain ⟨x,hx,rfl⟩:=List.mem_map.1 he;have hb:=hm x hx;have hw:=Zyi x;rw [hT];refine ⟨⟨x.1,ZVe (n:=x.1) (d:=100) (by omega),by have:=hb.1;omega,by have:=hb.1;omega⟩,⟨wCh x,ZVe h0,by omega,by omega⟩,?_⟩;show 0≤Zoa (wCh x,(T:Int));rw [ZVe h0,Rat.div_def];exact Rat.mul_nonneg (Rat.intCast_nonneg.2 (by omega)) (Rat.le_of_lt (Rat.inv_pos.2 (Rat.natCast_pos.2 h0)))
theorem ZDf (n d:Int):ZOc n d=some (Zoa (n,d)):=by unfold ZOc Ztg;rw [Zb]
theorem take4 {α:Type} {l:List α} {k:Nat} (hk:k<l.length) (h:k<4):l.take (min (k+1) 4)=l.take (min k 4)++[l[k]]:=by
 rw [show min (k+1) 4=k+1 by omega,show min k 4=k by omega,List.take_succ_eq_append_getElem hk]
theorem i64w {x:Int} (h:-9223372036854775808≤x∧x≤9223372036854775807):IntKind.i64.wrap x=x:=ZMd (Zpb.2 h)
theorem ZQl {l:List (Int×Int)} (h:∀ x ∈ l,b8 x) (hl:l.length≤9223372036854775807):Z9e l=some (chF l):=by
 unfold Z9e;refine Zra (y:=Zia (l.take 4)) (Zra (Zxd (fun k=>(Zia (l.take (min k 4)),(k:Int))) l.length (by simp [Zia]) (by omega) (fun k hk=>?_) ?_) rfl) ?_
 ·simp only;rw [decide_eq_true (by omega),Zj,Zz hk,Zb];have ht:=Zak (l.take (min k 4));have h4:(l.take (min k 4)).length≤4:=by simp;omega
  have hu:IntKind.i64.wrap (IntKind.u8.wrap l[k].2)=IntKind.u8.wrap l[k].2:=i64w (by rw [IntKind.wrap_u8];omega);have hw:=Zyi l[k];by_cases hk4:k<4
  ·rw [decide_eq_true (by omega),Zj,hu,show (1:Int)+IntKind.u8.wrap l[k].2=wCh l[k] from rfl,Zv (by omega) (by omega),Zb,Zv (by omega) (by omega),Zb,Zb,Zv (by omega) (by omega),Zb,take4 hk hk4,ZMs];rfl
  ·rw [decide_eq_false (by omega),Zh,Zb,Zv (by omega) (by omega),Zb,show min (k+1) 4=min k 4 by omega];rfl
 ·simp only;rw [decide_eq_false (by omega),Zh];by_cases hc:l.length≤4
  ·rw [show min l.length 4=l.length by omega,List.take_of_length_le hc,List.take_length]
  ·rw [show min l.length 4=4 by omega]
 ·refine Zra (y:=(l.take 4).map (Zqc (Zia (l.take 4)))) (Zra (Zxd (fun k=>((l.take (min k 4)).map (Zqc (Zia (l.take 4))),(k:Int))) l.length (by simp) (by omega) (fun k hk=>?_) ?_) rfl) ?_
  ·simp only;rw [decide_eq_true (by omega),Zj,Zz hk,Zb];have hb:=h _ (List.getElem_mem hk);have hu:IntKind.i64.wrap (IntKind.u8.wrap l[k].2)=IntKind.u8.wrap l[k].2:=i64w (by rw [IntKind.wrap_u8];omega);have hw:=Zyi l[k];by_cases hk4:k<4
   ·have e:(l.take (min (k+1) 4)).map (Zqc (Zia (l.take 4)))=(l.take (min k 4)).map (Zqc (Zia (l.take 4)))++[Zqc (Zia (l.take 4)) l[k]]:=by rw [take4 hk hk4,List.map_append,List.map_singleton]
    have hr:ZAa 112 ((l.take (min k 4)).map (Zqc (Zia (l.take 4)))++[Zqc (Zia (l.take 4)) l[k]])=some ():=Z6m (by simp;omega);rw [decide_eq_true (by omega),Zj,i64w (by have:=hb.1;omega),ZDf,Zb,hu,show (1:Int)+IntKind.u8.wrap l[k].2=wCh l[k] from rfl,Zv (by omega) (by omega),Zb,ZDf,Zb];rw [show (Zoa (l[k].1,100),Zoa (wCh l[k],Zia (l.take 4)))=Zqc (Zia (l.take 4)) l[k] from rfl,hr,Zb,Zb,Zv (by omega) (by omega),Zb,e];rfl
   ·rw [decide_eq_false (by omega),Zh,Zb,Zv (by omega) (by omega),Zb,show min (k+1) 4=min k 4 by omega];rfl
  ·simp only;rw [decide_eq_false (by omega),Zh];by_cases hc:l.length≤4
   ·rw [show min l.length 4=l.length by omega,List.take_of_length_le hc,List.take_length]
   ·rw [show min l.length 4=4 by omega]
  ·unfold chF;rw [List.length_map];by_cases hc:(l.take 4).length=0
   ·rw [hc,if_pos rfl,show (((0:Nat):Int)==0)=true from rfl,Zj];unfold Zzc;rfl
   ·rw [if_neg hc,show (((l.take 4).length:Int)==0)=false by rw [Bool.eq_false_iff];intro h;rw [beq_iff_eq] at h;omega,Zh]
noncomputable def Z8g  : Option (Bool) :=
 bnd (ZLj ([[(20:Int),(5:Int)],[(10:Int),(15:Int)]])) fun a =>
 bnd (ifb (a.2==(0:Int))
 (bnd (Zuf a.1) fun b =>
 some (b==(([50,47,53]:List UInt8))))
 (some false))
 (fun (c:Bool) =>
 (some c))
noncomputable def ZMk (t:Rat×List Rat) (v:Rat) (p q:List (Rat×Rat)) (k:Int):Option (Bool ⊕ Rat) :=
  Zp (fun s:Int×Rat=>ifb (decide (s.1<(p.length:Int)))
 (bnd (idx p s.1) fun y =>
 bnd (Zp (fun u:Int×Rat=>ifb (decide (u.1<(q.length:Int)))
 (bnd (idx q u.1) fun z =>
 bnd (Z6 v y.1) fun d =>
 bnd (Z6 d z.1) fun e =>
 bnd (ZYd (t.1,t.2) e) fun c =>
 ifb (c.2 != (0:Int)) (some (.inr (.inl false)))
 (bnd (ifb (decide (c.1≤k)) (bnd (Zva y.2 z.2) fun m=>bnd (Z6 u.2 m) fun a=>some a) (some u.2)) fun f =>
 bnd (chk .i64 (u.1+(1:Int))) fun j=>some (.inl (j,f))))
 (some (.inr (.inr u.2)))) Zy ((0:Int),s.2)) fun (r:Bool ⊕ Rat)=>match r with
 | .inl b=>some (.inr (.inl b))
 | .inr a=>bnd (chk .i64 (s.1+(1:Int))) fun i=>some (.inl (i,a)))
 (some (.inr (.inr s.2)))) Zy ((0:Int),(0:Rat))
noncomputable def Zbj (x:Int) (a b:List (Int×Int)) (ch lim:Int):Option Bool :=
 bnd (Z9e a) fun p =>
 bnd (Z9e b) fun q =>
 bnd (ZOc (1:Int) (10:Int)) fun st =>
 bnd (rem .u8 lim (5:Int)) fun c =>
 bnd (chk .i64 ((1:Int)+IntKind.i64.wrap c)) fun n =>
 bnd (Zp (fun s:Int×(Rat×List Rat)=>ifb (decide (s.1<n))
 (bnd (chk .i64 ((3:Int)*s.1)) fun m =>
 bnd (ZOc m (2:Int)) fun y =>
 bnd (ZAa 56 (s.2.2++[y])) fun _ =>
 bnd (chk .i64 (s.1+(1:Int))) fun k=>some (.inl (k,(s.2.1,s.2.2++[y]))))
 (some (.inr s.2))) Zy ((0:Int),(st,([]:List Rat)))) fun t =>
 bnd (ZOc (IntKind.i64.wrap x) (100:Int)) fun v =>
 bnd (Zmg p q) fun d =>
 ifb (d.2 != (0:Int)) (some false)
 (bnd (chk .i64 ((1:Int)+IntKind.i64.wrap ch)) fun f =>
 bnd (ZOc f (256:Int)) fun want =>
 bnd (Zlf (t.1,t.2) v d.1 want) fun e =>
 ifb (e.2 != (0:Int)) (some false)
 (ifb (decide (e.1<(0:Int))) (some false)
 (ifb (decide ((t.2.length:Int)<e.1)) (some false)
 (bnd (chk .i64 (e.1+(1:Int))) fun g =>
 bnd (Zp (fun k:Int=>ifb (decide (k<g))
 (bnd (ZMk t v p q k) fun (r:Bool ⊕ Rat)=>match r with
 | .inl b=>some (.inr (.inl b))
 | .inr sum=>(bnd (Zjf (t.1,t.2) v d.1 k) fun ke =>
 ifb (ke.2 != (0:Int)) (some (.inr (.inl false)))
 (bnd (Zye ke.1 sum) fun same =>
 ifb (!same) (some (.inr (.inl false)))
 (bnd (Zfb ke.1 want) fun cm =>
 ifb ((decide ((0:Int)≤cm)) != (k==e.1)) (some (.inr (.inl false)))
 (bnd (chk .i64 (k+(1:Int))) fun h=>some (.inl h))))))
 (some (.inr (.inr ())))) Zy (0:Int)) fun (r:Bool ⊕ Unit)=>match r with
 | .inl b=>some b
 | .inr _=>bnd Z8g fun y=>some y))))
set_option maxRecDepth 100000
set_option maxRecDepth 100000 in
theorem ZOs:Z8g=some true:=by
 unfold Z8g;rw [Zvr];decide +kernel
theorem Zwq {t:Lab} (c:ZQa t=0) (hs:sz 64 t.1) (hl:szR t.2) {k:Nat} {x:Rat} (hx:sz k x) (hk:k≤10000000):ZYd t x=some ((Z6a t x:Int),0):=by
 unfold ZYd;rw [ZPo hl,Zb,c,show ((0:Int) != 0)=false from rfl,Zh,Z1n (Zok c hs hl) hx hk,Zb]
def Zlb (n:Nat):Lab:=(Zoa (1,10),(List.range n).map fun (k:Nat)=>Zoa (3*(k:Int),2))
theorem ZZp {n:Nat} (h:n<5):ZQa (Zlb (n+1))=0:=by
 have:n=0∨n=1∨n=2∨n=3∨n=4:=by omega
 rcases this with rfl | rfl | rfl | rfl | rfl <;> decide +kernel
theorem Znl (n:Nat):(Zlb n).2.length=n:=by unfold Zlb;simp
theorem labF_sz {n:Nat} (h:n<6):szR (Zlb n).2:=fun i hi=>by
 have hi':i<n:=by rw [Znl] at hi;exact hi
 have e:(Zlb n).2[i]=Zoa (3*(i:Int),2):=by simp [Zlb]
 rw [e]
 exact Zdg (r:=(3*(i:Int),2)) ⟨⟨by simp only;omega,by simp only;omega⟩,by simp only;omega,by simp only;omega⟩
theorem Z8q (n:Nat):sz 64 (Zlb n).1:=Zdg ⟨⟨by simp only;omega,by simp only;omega⟩,by simp only;omega,by simp only;omega⟩
theorem Z0n {c:RR2→Bool} {g:RR2→Rat}:∀ (q:List RR2) (s:Rat),q.foldl (fun s z=>if c z then s+g z else s) s=s+ZB (fun z=>if c z then g z else 0) q
 | [],s=>by show s=s+0;grind
 | z :: q,s=>by
  simp only [List.foldl_cons,ZB]
  rw [Z0n q]
  split <;> grind
theorem ck_sum {t:Lab} (c:ZQa t=0) (hs:sz 64 t.1) (hl:szR t.2) {v:Rat} (hv:sz 64 v) {p q:List RR2} (hp:ChP p) (hq:ChP q) (k:Int):ZMk t v p q k=some (.inr (kF t v (ZAb p q) k)):=by
 have zp:=hp.szd;have zq:=hq.szd;have lp:=hp.len;have lq:=hq.len
 let inn:RR2→Rat:=fun y=>ZB (fun z=>if decide ((Z6a t (v+y.1+z.1):Int)≤k) then y.2*z.2 else 0) q
 have e0:kF t v (ZAb p q) k=ZB inn p:=by
  rw [kF_sum,Z0l (f:=cst t v k) (fun d p p'=>by simp only [cst];split <;> grind)];refine congrArg (fun f=>ZB f p) (funext fun a=>congrArg (fun f=>ZB f q) (funext fun b=>?_));simp only [cst];rw [Rat.add_assoc];by_cases hk:(Z6a t (v+(a.1+b.1)):Int)≤k
  ·rw [if_pos hk,if_pos (decide_eq_true hk)]
  ·rw [if_neg hk,if_neg (by simpa using hk)]
 have e1:∀ (s:Rat) (l:List RR2),l.foldl (fun s y=>s+inn y) s=s+ZB inn l:=by
  intro s l
  induction l generalizing s with
  | nil=>show s=s+0;grind
  | cons y l ih=>simp only [List.foldl_cons,ZB];rw [ih];grind
 unfold ZMk;have hI:∀ (y:RR2) (_:sz 64 y.1∧sz 64 y.2) (s:Rat) (m:Nat),sz m s→m≤100000→Zp (fun u:Int×Rat=>ifb (decide (u.1<(q.length:Int)))
   (bnd (idx q u.1) fun z =>
   bnd (Z6 v y.1) fun t1 =>
   bnd (Z6 t1 z.1) fun t2 =>
   bnd (ZYd (t.1,t.2) t2) fun c =>
   ifb (c.2 != (0:Int)) (some (.inr (.inl false)))
   (bnd (ifb (decide (c.1≤k)) (bnd (Zva y.2 z.2) fun m=>bnd (Z6 u.2 m) fun s2=>some s2) (some u.2)) fun s3 =>
   bnd (chk .i64 (u.1+(1:Int))) fun j=>some (.inl (j,s3))))
   (some (.inr (.inr u.2)))) Zy ((0:Int),s)=some ((.inr (s+inn y):Bool ⊕ Rat)):=by
  intro y hy s m hm hmm;have:=Zag (body:=fun u:Int×Rat=>ifb (decide (u.1<(q.length:Int)))
   (bnd (idx q u.1) fun z =>
   bnd (Z6 v y.1) fun t1 =>
   bnd (Z6 t1 z.1) fun t2 =>
   bnd (ZYd (t.1,t.2) t2) fun c =>
   ifb (c.2 != (0:Int)) (some (.inr (.inl false)))
   (bnd (ifb (decide (c.1≤k)) (bnd (Zva y.2 z.2) fun m=>bnd (Z6 u.2 m) fun s2=>some s2) (some u.2)) fun s3 =>
   bnd (chk .i64 (u.1+(1:Int))) fun j=>some (.inl (j,s3))))
   (some (.inr (.inr u.2)))) q (fun (s:Rat) i=>((i:Int),s)) (fun z s=>(.inr (if decide ((Z6a t (v+y.1+z.1):Int)≤k) then s+y.2*z.2 else s):(Bool ⊕ Rat) ⊕ Rat)) (fun s=>(.inr s:Bool ⊕ Rat)) (fun i s=>sz (m+129*i) s) (s0:=s) rfl (by simpa using hm) (by omega) (fun i s hi hI=>?_) (fun i s s' hi hI hf=>?_) (fun s hI=>?_)
  ·refine this.trans ?_;rw [Z3g,Z0n]
  ·have hz:=zq i hi;have z1:=Zec hv hy.1;have z2:=Zec z1 hz.1;have z3:=ZKf hy.2 hz.2;simp only;rw [decide_eq_true (by omega),Zj,Zz hi,Zb,Zod hv hy.1 (by omega),Zb,Zod z1 hz.1 (by omega),Zb,Zwq c hs hl z2 (by omega),Zb];simp only;rw [show ((0:Int) != 0)=false from rfl,Zh]
   cases hk:decide ((Z6a t (v+y.1+q[i].1):Int)≤k) with
   | true=>rw [Zj,Z7m hy.2 hz.2 (by omega),Zb,Zod hI z3 (by omega),Zb,Zb,Zv (by omega) (by omega),Zb];rfl
   | false=>rw [Zh,Zb,Zv (by omega) (by omega),Zb];rfl
  ·cases hf
   have hz:=zq i hi;have z3:=ZKf hy.2 hz.2;split
   ·exact (Zec hI z3).mono (by omega)
   ·exact hI.mono (by omega)
  ·simp only;rw [decide_eq_false (by omega),Zh]
 have hsz:∀ (y:RR2) (_:sz 64 y.1∧sz 64 y.2) (l:List RR2),(∀ z ∈ l,sz 64 z.1∧sz 64 z.2)→∀ (s:Rat) (m:Nat),sz m s→sz (m+129*l.length) (s+ZB (fun z=>if decide ((Z6a t (v+y.1+z.1):Int)≤k) then y.2*z.2 else 0) l):=by
  intro y hy l
  induction l with
  | nil=>intro _ s m hm;show sz _ (s+0);rw [show s+(0:Rat)=s by grind];exact hm.mono (by simp)
  | cons z l ih =>
   intro hl s m hm;simp only [ZB];rw [show ∀ a b:Rat,s+(a+b)=s+a+b by intro a b;grind];have hz:=hl z List.mem_cons_self;refine (ih (fun x hx=>hl x (List.mem_cons_of_mem _ hx)) _ (m+129) ?_).mono (by simp;omega);split
   ·exact (Zec hm (ZKf hy.2 hz.2)).mono (by omega)
   ·rw [show s+(0:Rat)=s by grind];exact hm.mono (by omega)
 rw [e0];have:=Zag (body:=fun s:Int×Rat=>ifb (decide (s.1<(p.length:Int)))
  (bnd (idx p s.1) fun y =>
  bnd (Zp (fun u:Int×Rat=>ifb (decide (u.1<(q.length:Int)))
   (bnd (idx q u.1) fun z =>
   bnd (Z6 v y.1) fun t1 =>
   bnd (Z6 t1 z.1) fun t2 =>
   bnd (ZYd (t.1,t.2) t2) fun c =>
   ifb (c.2 != (0:Int)) (some (.inr (.inl false)))
   (bnd (ifb (decide (c.1≤k)) (bnd (Zva y.2 z.2) fun m=>bnd (Z6 u.2 m) fun s2=>some s2) (some u.2)) fun s3 =>
   bnd (chk .i64 (u.1+(1:Int))) fun j=>some (.inl (j,s3))))
   (some (.inr (.inr u.2)))) Zy ((0:Int),s.2)) fun (r:Bool ⊕ Rat)=>match r with
  | .inl b=>some (.inr (.inl b))
  | .inr s2=>bnd (chk .i64 (s.1+(1:Int))) fun i=>some (.inl (i,s2)))
  (some (.inr (.inr s.2)))) p (fun (s:Rat) i=>((i:Int),s)) (fun y s=>(.inr (s+inn y):(Bool ⊕ Rat) ⊕ Rat)) (fun s=>(.inr s:Bool ⊕ Rat)) (fun i s=>sz (1+516*i) s) (s0:=0) rfl Z4f (by omega) (fun i s hi hI2=>?_) (fun i s s' hi hI2 hf=>?_) (fun s hI2=>?_)
 ·refine this.trans ?_;rw [Z3g,e1,show (0:Rat)+ZB inn p=ZB inn p by grind]
 ·have hy:=zp i hi;simp only;rw [decide_eq_true (by omega),Zj,Zz hi,Zb,hI _ hy s _ hI2 (by omega),Zb];simp only;rw [Zv (by omega) (by omega),Zb];rfl
 ·cases hf
  exact (hsz _ (zp i hi) q zq.all s _ hI2).mono (by omega)
 ·simp only;rw [decide_eq_false (by omega),Zh]
theorem ZJr (x:Int) (a b:List (Int×Int)) (ch lim:Int) (hx:-32768≤x∧x≤32767) (ha:∀ e ∈ a,b8 e) (hb:∀ e ∈ b,b8 e) (la:a.length≤9223372036854775807) (lb:b.length≤9223372036854775807) (hc:0≤ch∧ch≤255) (hl:0≤lim∧lim≤255):Zbj x a b ch lim=some true:=by
 unfold Zbj;rw [ZQl ha la,Zb,ZQl hb lb,Zb];have hP:=ZOo ha;have hQ:=ZOo hb;generalize chF a=P at hP;generalize chF b=Q at hQ;obtain ⟨n,rfl⟩:∃ n:Nat,lim=n:=⟨lim.toNat,by omega⟩;have hn:n%5<5:=Nat.mod_lt _ (by omega);rw [ZDf,Zb,show (5:Int)=((5:Nat):Int) from rfl,Z5g (by omega),Zb,i64w (by omega),Zv (by omega) (by omega),Zb];generalize n%5=m at hn;refine Zra (y:=Zlb (m+1)) (Zxd (fun k=>((k:Int),Zlb k)) (m+1) rfl (by omega) (fun k hk=>?_) ?_) ?_
 ·have e:(Zlb (k+1))=((Zlb k).1,(Zlb k).2++[Zoa (3*(k:Int),2)]):=by unfold Zlb;rw [List.range_succ,List.map_append,List.map_singleton]
  have hr:ZAa 56 ((Zlb k).2++[Zoa (3*(k:Int),2)])=some ():=Z6m (by rw [List.length_append,Znl,List.length_singleton];omega);simp only;rw [decide_eq_true (by omega),Zj,Zv (by omega) (by omega),Zb,ZDf,Zb,hr,Zb,Zv (by omega) (by omega),Zb,e];rfl
 ·simp only;rw [decide_eq_false (by omega),Zh]
 ·have ct:=ZZp hn;have hs:=Z8q (m+1);have hz:=labF_sz (n:=m+1) (by omega);have hlen:=Znl (m+1);generalize Zlb (m+1)=t at *
  skip
  have hv:sz 64 (Zoa (x,100)):=Zdg ⟨⟨by simp only;omega,by simp only;omega⟩,by simp only;omega,by simp only;omega⟩;rw [i64w (by omega),ZDf,Zb,sum_ok hP.szd hQ.szd,if_neg (by rw [hP.code];simp),if_neg (by rw [hQ.code];simp),Zb];obtain ⟨zs,cs⟩:=hP.sum hQ;simp only;rw [show ((0:Int) != 0)=false from rfl,Zh,i64w (by omega),Zv (by omega) (by omega),Zb,ZDf,Zb];have hw:sz 64 (Zoa (1+ch,256)):=Zdg ⟨⟨by simp only;omega,by simp only;omega⟩,by simp only;omega,by simp only;omega⟩;have hwd:Zoa (1+ch,256)=((1+ch:Int):Rat) / (256:Rat):=ZVe (d:=256) (by omega);have h256:(256:Rat)≠0:=by decide
  have hp256:(0:Rat)<256:=by decide
  have hw0:0<Zoa (1+ch,256):=by
   rw [hwd,Rat.div_def];exact Rat.mul_pos (Rat.intCast_pos.2 (by omega)) (Rat.inv_pos.2 hp256)
  have hw1:Zoa (1+ch,256)≤1:=by
   rw [hwd];have h1:((1+ch:Int):Rat)≤256:=Rat.intCast_le_intCast.2 (show 1+ch≤256 by omega);grind
  generalize Zoa (1+ch,256)=want at *;generalize Zoa (x,100)=v at *;have hd:Zlf (t.1,t.2) v (ZAb P Q) want=some ((Zic t v (ZAb P Q) want:Int),0):=by
   rw [Zxp hs hz hv zs hw];unfold dcF;rw [if_neg (by rw [ct];simp),if_neg (by rw [cs];simp),if_neg (by intro h;rcases h with h | h <;> grind)]
  obtain ⟨d1,d2,d3⟩:=ZAo (t:=t) (x:=v) (ch:=want) cs hw1;rw [hd,Zb];generalize Zic t v (ZAb P Q) want=c at *;simp only;rw [show ((0:Int) != 0)=false from rfl,Zh,decide_eq_false (by omega),Zh,decide_eq_false (by omega),Zh,Zv (by omega) (by omega),Zb];refine Zra (y:=(.inr ():Bool ⊕ Unit)) (Zxd (fun k=>(k:Int)) (c+1) rfl (by omega) (fun k hk=>?_) ?_) ?_
  ·have hke:Zjf (t.1,t.2) v (ZAb P Q) (k:Int)=some (kF t v (ZAb P Q) (k:Int),0):=by
    rw [ZHs hs hz hv zs];unfold kpF;rw [if_neg (by rw [ct];simp),if_neg (by rw [cs];simp),if_neg (by omega)]
   have zk:=kF_sz (t:=t) (x:=v) (cls:=(k:Int)) zs (by have:=ZZj cs;omega);have qs:∀ x:Rat,Zye x x=some true:=fun x=>by show some (decide (x=x))=_;simp
   rw [decide_eq_true (by omega),Zj,ck_sum ct hs hz hv hP hQ,Zb];simp only;rw [hke,Zb];simp only;rw [show ((0:Int) != 0)=false from rfl,Zh,qs,Zb,Bool.not_true,Zh,Zoe zk hw (by omega),Zb,decide_eq_decide.2 ZIo];have hE:(decide (want≤kF t v (ZAb P Q) (k:Int)) != ((k:Int)==(c:Int)))=false:=by
    by_cases hkc:k=c
    ·subst hkc;rw [decide_eq_true d2];simp
    ·rw [decide_eq_false (d3 k (by omega))];have:((k:Int)==(c:Int))=false:=by rw [Bool.eq_false_iff];intro h;rw [beq_iff_eq] at h;omega
     rw [this];rfl
   rw [hE,Zh,Zv (by omega) (by omega),Zb];rfl
  ·rw [decide_eq_false (by omega),Zh]
  ·simp only;rw [ZOs,Zb]
theorem Zbn {α:Type} {A:Rep α} {v:Za} {cs:List Value} {l:List α} (h:(Zu A).rel v cs l) {x:α} (hx:x ∈ l):∃ c,A.rel v c x:=by
 obtain ⟨q,cap,rfl,h1,h2,h3⟩:=h;rcases h3 with rfl | ⟨b,off,c,T,fr,e,hb,hr⟩
 ·cases hx
 ·obtain ⟨i,hi,rfl⟩:=List.getElem_of_mem hx;exact ⟨_,Zca hr (List.getElem?_eq_getElem hi)⟩
end Go.Eng
namespace Go.Eng
open Go.RowKit
structure Con where
 args:List T
 res:List T
 F:Zqa args→Option (Zqa res)
structure ConO where
 args:List T
 ty:TypeId
 t:T
 F:Zqa args→Option (List t.den)
structure ConI where
 ty:TypeId
 t:T
 F:List t.den→Int→t.den→Option (List t.den)
structure Cf where
 P:Program
 leafs:List (TypeId×Nat)
 cons:List (FuncId×Con)
 mats:List Nat
 owns:List (FuncId×ConO)
 ins:List (FuncId×ConI)
 meths:List ((TypeId×String)×FuncId)
def lkM:List ((TypeId×String)×FuncId)→TypeId→String→Option FuncId
 | [],_,_=>none
 | p :: r,t,m=>match Nat.beq p.1.1 t,p.1.2==m with
  | true,true=>some p.2
  | _,_=>lkM r t m
def codeF (f:TypeId→Option T):TypeId→List Field→Option T
 | t,[]=>f t
 | t,h :: r=>match f t,codeF f h.type r with
  | some a,some b=>some (.pair a b)
  | _,_=>none
def Zke (C:Cf):Nat→TypeId→Option T
 | 0,_=>none
 | g+1,t=>match ZCa C.leafs t with
  | some i=>some (.leaf i)
  | none=>match C.P.underlying t with
   | some (.int k)=>some (.int k)
   | some .bool=>some .bool
   | some (.float k)=>some (.flt k)
   | some .string=>some .str
   | some (.slice e)=>match Zke C g e with
    | some a=>some (.slice a)
    | none=>none
   | some (.struct fs)=>match fs.toList with
    | []=>none
    | [f]=>match Zke C g f.type with
     | some a=>some (.one a)
     | none=>none
    | f :: h :: r=>codeF (Zke C g) f.type (h :: r)
   | _=>none
def zeroLf:(i:Nat)→Option (ZHj i)
 | 0=>some (0:Nat)
 | 1=>some (0:Nat)
 | 2=>some (0:Int)
 | 3=>some (0:Rat)
 | _=>none
def Zme:(t:T)→Option t.den
 | .int _=>some (0:Int)
 | .bool=>some false
 | .flt _=>some (0:Nat)
 | .str=>some ([]:List UInt8)
 | .one a=>Zme a
 | .pair a b=>match Zme a,Zme b with
  | some x,some y=>some (x,y)
  | _,_=>none
 | .slice _=>some []
 | .leaf i=>zeroLf i
def zSl:List Value→Option (List Value)
 | .slice none 0 0 :: r=>some r
 | _=>none
def zOK:T→List Value→Option (List Value)
 | .int k,.int k' n :: r=>match kEq k k',n with
  | true,.ofNat 0=>some r
  | _,_=>none
 | .bool,.bool false :: r=>some r
 | .flt k,.float k' 0 :: r=>match fEqK k k' with
  | true=>some r
  | false=>none
 | .str,.string s :: r=>match s.data.toList with
  | []=>some r
  | _=>none
 | .one a,cs=>zOK a cs
 | .pair a b,cs=>match zOK a cs with
  | some r=>zOK b r
  | none=>none
 | .slice _,cs=>zSl cs
 | .leaf 0,cs=>zSl cs
 | .leaf 1,cs=>zSl cs
 | .leaf 2,.bool false :: cs=>zSl cs
 | .leaf 3,.bool false :: cs=>match zSl cs with
  | some r=>zSl r
  | none=>none
 | _,_=>none
def ZKe (t:T) (cs:List Value):Option (V×List Value):=match Zme t,zOK t cs with
 | some x,some r=>some (.data t x,r)
 | _,_=>none
def ZJi (f:TypeId→List Value→Option (V×List Value)):List Field→List Value→Option (V×List Value)
 | [],cs=>some (.nl,cs)
 | h :: r,cs=>match f h.type cs with
  | some (v,cs)=>match ZJi f r cs with
   | some (c,cs)=>some (.cons v c,cs)
   | none=>none
  | none=>none
def zRep (f:List Value→Option (V×List Value)):Nat→List Value→Option (V×List Value)
 | 0,cs=>some (.nl,cs)
 | k+1,cs=>match f cs with
  | some (v,cs)=>match zRep f k cs with
   | some (c,cs)=>some (.cons v c,cs)
   | none=>none
  | none=>none
def ZGg (C:Cf):Nat→TypeId→List Value→Option (V×List Value)
 | 0,_,_=>none
 | g+1,t,cs=>match ZCa C.leafs t with
  | some 4=>match cs with
   | .bool false :: .slice none 0 0 :: .slice none 0 0 :: r=>some (.agg (.cons (.data .bool false) (.cons (.data (.leaf 1) (0:Nat)) (.cons (.data (.leaf 1) (0:Nat)) .nl))),r)
   | _=>none
  | some i=>ZKe (.leaf i) cs
  | none=>match C.P.underlying t with
   | some (.int k)=>ZKe (.int k) cs
   | some .bool=>ZKe .bool cs
   | some (.float k)=>ZKe (.flt k) cs
   | some .string=>ZKe .str cs
   | some (.slice _)=>match zSl cs with
    | some r=>some (.nilS,r)
    | none=>none
   | some (.struct fs)=>match ZJi (ZGg C g) fs.toList cs with
    | some (c,r)=>some (.agg c,r)
    | none=>none
   | some (.array n e)=>match zRep (ZGg C g e) n cs with
    | some (c,r)=>some (.agg c,r)
    | none=>none
   | _=>none
def ZPh (C:Cf) (t:TypeId):Option V:=match C.P.info? t with
 | some i=>match i.zero with
  | some z=>match ZGg C FU t z.cells.toList with
   | some (v,[])=>some v
   | _=>none
  | none=>none
 | none=>none
def aggD:TypeDesc→Bool
 | .struct _=>true
 | .array _ _=>true
 | _=>false
def szA (P:Program) (t:TypeId):Option (Nat×Bool):=match P.info? t,P.underlying t with
 | some i,some d=>some (i.size,aggD d)
 | _,_=>none
def fldA (P:Program) (s:TypeId) (f:Nat):Option Nat:=match P.underlying s with
 | some (.struct fs)=>match fs.toList[f]? with
  | some h=>match P.info? h.type with
   | some i=>match Nat.blt 0 i.size with
    | true=>some h.offset
    | false=>none
   | none=>none
  | none=>none
 | _=>none
def fldT (P:Program) (s:TypeId) (f:Nat):Option Field:=match P.underlying s with
 | some (.struct fs)=>fs.toList[f]?
 | _=>none
def Zwg (P:Program) (t:TypeId):Option (TypeId×Nat):=match P.underlying t with
 | some (.slice e)=>match P.info? e with
  | some i=>some (e,i.size)
  | none=>none
 | _=>none
structure EI where
 e:TypeId
 sz:Nat
 by_:Nat
 z:Value
def ZQf (P:Program) (t:TypeId):Option EI:=match P.underlying t with
 | some (.slice e)=>match P.info? e with
  | some i=>match i.zero with
   | some z=>match Nat.beq z.cells.toList.length i.size,Nat.blt 0 i.size,Nat.blt 0 i.bytes with
    | true,true,true=>some ⟨e,i.size,i.bytes,z⟩
    | _,_,_=>none
   | none=>none
  | none=>none
 | _=>none
def Zvi:Value→Option V
 | .bool b=>some (.data .bool b)
 | .int k n=>if inR k n then some (.data (.int k) n) else none
 | .float k n=>if n<18446744073709551616 then some (.data (.flt k) n) else none
 | .string s=>if s.data.toList.length≤maxLen then some (.data .str s.data.toList) else none
 | .slice none 0 0=>some .nilS
 | _=>none
def opd {ρ:Type} (x:Operand) (k:V→Ev ρ):Ev ρ:=match x with
 | .tmp t=>.rdS t k
 | .const c=>match Zvi c with
  | some v=>k v
  | none=>.fail
 | .func f=>k (.fn f .nl)
 | .global _=>.fail
def ret (o:Oper) (v:V):Ev Unit:=match o.dst with
 | some d=>.wrS d v (.done ())
 | none=>.fail
def Z8b {ρ:Type} (v:V) (k:IntKind→Int→Ev ρ):Ev ρ:=match v with
 | .data (.int κ) x=>k κ x
 | _=>.fail
def Z8j {ρ:Type} (v:V) (k:Bool→Ev ρ):Ev ρ:=match v with
 | .data .bool x=>k x
 | _=>.fail
def nthV:V→Nat→Option V
 | .cons a _,0=>some a
 | .cons _ b,n+1=>nthV b n
 | _,_=>none
def appV:V→V→V
 | .cons a b,c=>.cons a (appV b c)
 | _,c=>c
def binI {ρ:Type} (op:BinOp) (κ:IntKind) (x y:Int) (k:V→Ev ρ):Ev ρ:=match op with
 | .add=>match κ.signed with
  | true=>.bind (chk κ (x+y)) fun z=>k (.data (.int κ) z)
  | false=>k (.data (.int κ) (κ.wrap (x+y)))
 | .sub=>match κ.signed with
  | true=>.bind (chk κ (x-y)) fun z=>k (.data (.int κ) z)
  | false=>k (.data (.int κ) (κ.wrap (x-y)))
 | .mul=>match κ.signed with
  | true=>.bind (chk κ (x*y)) fun z=>k (.data (.int κ) z)
  | false=>k (.data (.int κ) (κ.wrap (x*y)))
 | .quo=>.bind (quo κ x y) fun z=>k (.data (.int κ) z)
 | .rem=>.bind (rem κ x y) fun z=>k (.data (.int κ) z)
 | .and=>k (.data (.int κ) (ZQ κ x y))
 | .or=>k (.data (.int κ) (orI κ x y))
 | .lss=>k (.data .bool (decide (x<y)))
 | .leq=>k (.data .bool (decide (x≤y)))
 | .gtr=>k (.data .bool (decide (y<x)))
 | .geq=>k (.data .bool (decide (y≤x)))
 | .eql=>k (.data .bool (x==y))
 | .neq=>k (.data .bool (x != y))
 | _=>.fail
def binE {ρ:Type} (P:Program) (op:BinOp) (t:TypeId) (v v':V) (k:V→Ev ρ):Ev ρ:=match v,v' with
 | .data (.int κ) x,.data (.int κ') y=>match op with
  | .shl=>.bind (Zcc κ x y) fun z=>k (.data (.int κ) z)
  | .shr=>.bind (ZV κ x y) fun z=>k (.data (.int κ) z)
  | op=>match kEq κ κ' with
   | true=>binI op κ x y k
   | false=>.fail
 | .data .bool (x:Bool),.data .bool (y:Bool)=>match P.underlying t with
  | some .bool=>match op with
   | .eql=>k (.data .bool (x==y))
   | .neq=>k (.data .bool (x != y))
   | _=>.fail
  | _=>.fail
 | .data .str (x:List UInt8),.data .str (y:List UInt8)=>match op with
  | .add=>.bind (ZQb (x++y)) fun _=>k (.data .str (x++y))
  | .eql=>k (.data .bool (x==y))
  | .neq=>k (.data .bool (x != y))
  | _=>.fail
 | _,_=>.fail
def ldE {ρ:Type} (P:Program) (t:TypeId) (p:V) (k:V→Ev ρ):Ev ρ:=match szA P t with
 | none=>.fail
 | some s=>match p with
  | .ptr u off=>.rdL u fun _ L=>match L with
   | .box _ c=>match Zea FU c off s.1 s.2 with
    | some z=>k z
    | none=>.fail
   | _=>.fail
  | .el u _ cv e x off=>.rdL u fun cv' L=>match L with
   | .own _ _ _ _=>match Nat.beq cv' cv with
    | true=>match Zea FU (.data e x) off s.1 s.2 with
     | some z=>k z
     | none=>.fail
    | false=>.fail
   | _=>.fail
  | .vp e x off=>match Zea FU (.data e x) off s.1 s.2 with
   | some z=>k z
   | none=>.fail
  | .rp u i hv cv e r=>.rdL u fun cv' L=>match L with
   | .mat _ _ _ _ hv'=>match Nat.beq hv' hv,Nat.beq cv' cv,s.2 with
    | true,true,false=>k (.row u i hv cv e r)
    | _,_,_=>.fail
   | _=>.fail
  | .rel u _ _ hv cv e _ x off=>.rdL u fun cv' L=>match L with
   | .mat _ _ _ _ hv'=>match Nat.beq hv' hv,Nat.beq cv' cv with
    | true,true=>match Zea FU (.data e x) off s.1 s.2 with
     | some z=>k z
     | none=>.fail
    | _,_=>.fail
   | _=>.fail
  | _=>.fail
def V.plain:V→Bool
 | .undef | .tup _=>false
 | .cons a b=>match a.plain with
  | true=>b.plain
  | false=>false
 | .agg c=>c.plain
 | _=>true
def V.fit (v:V):Bool:=match v.plain,v.isAgg with
 | true,true=>true
 | true,false=>Nat.beq v.size 1
 | false,_=>false
def Zld (s t:T) (l:List s.den):Option (List t.den):=T.cast (.slice s) (.slice t) l
def stE (P:Program) (nid:Nat) (t:TypeId) (p v:V):Ev Unit:=match szA P t with
 | none=>.fail
 | some q=>match Nat.beq v.size q.1,eqB v.isAgg q.2,v.fit with
  | true,true,true=>match p with
   | .ptr u off=>.rdL u fun _ L=>match L with
    | .box ty c=>match ZMa FU c off v with
     | some c'=>.wrL u (.box ty c') (.done ())
     | none=>.fail
    | _=>.fail
   | .el u i cv s x off=>match ZMa FU (.data s x) off v with
    | some z=>conv FU s z fun y=>.rdL u fun cv' L=>match L with
     | .own ty s' l false=>match Nat.beq off 0,Nat.beq v.size s.n,Nat.beq cv' cv with
      | true,true,_=>match T.cast s s' y with
       | some y'=>.wrL u (.own ty s' (l.set i y') false) (.done ())
       | none=>.fail
      | _,_,true=>match T.cast s s' y with
       | some y'=>.wrL u (.own ty s' (l.set i y') false) (.done ())
       | none=>.fail
      | _,_,_=>.fail
     | _=>.fail
    | none=>.fail
   | .rp u i _ _ _ _=>match v with
    | .own u2=>.rdL u fun _ L=>match L with
     | .mat ty ty2 s m _=>.rdL u2 fun _ L2=>match L2 with
      | .own ty3 s' l false=>match Nat.beq ty3 ty2,Zld s' s l with
       | true,some l'=>.del u2 (.wrL u (.mat ty ty2 s (m.set i l') nid) (.done ()))
       | _,_=>.fail
      | _=>.fail
     | _=>.fail
    | _=>.fail
   | .rel u i j hv cv s r x off=>match ZMa FU (.data s x) off v with
    | some z=>conv FU s z fun y=>.rdL u fun cv' L=>match L with
     | .mat ty ty2 s' m hv'=>match Nat.beq hv' hv,Nat.beq cv' cv with
      | true,true=>match Zld s s' (r.set j y) with
       | some r'=>.wrL u (.mat ty ty2 s' (m.set i r') hv') (.done ())
       | none=>.fail
      | _,_=>.fail
     | _=>.fail
    | none=>.fail
   | _=>.fail
  | _,_,_=>.fail
def shift:V→Nat→Option V
 | .ptr u off,k=>some (.ptr u (off+k))
 | .vp t x off,k=>some (.vp t x (off+k))
 | .el u i cv t x off,k=>some (.el u i cv t x (off+k))
 | .rel u i j hv cv t r x off,k=>some (.rel u i j hv cv t r x (off+k))
 | _,_=>none
def live {ρ:Type} (v:V) (k:Ev ρ):Ev ρ:=match v with
 | .ptr u _=>.rdL u fun _ L=>match L with
  | .box _ _=>k
  | _=>.fail
 | .vp _ _ _=>k
 | .el u _ _ _ _ _=>.rdL u fun _ L=>match L with
  | .own _ _ _ _=>k
  | _=>.fail
 | .rel u _ _ hv _ _ _ _ _=>.rdL u fun _ L=>match L with
  | .mat _ _ _ _ hv'=>match Nat.beq hv' hv with
   | true=>k
   | false=>.fail
  | _=>.fail
 | _=>.fail
def ixA (P:Program) (o:Oper) (t:TypeId) (v:V) (j:Int):Ev Unit:=match P.underlying t with
 | some (.array n e)=>match P.info? e,decide (0≤j),decide (j<n) with
  | some i,true,true=>match shift v (j.toNat*i.size) with
   | some z=>live v (ret o z)
   | none=>.fail
  | _,_,_=>.fail
 | _=>.fail
def ixE (P:Program) (o:Oper) (t:TypeId) (v:V) (j:Int):Ev Unit:=match Zwg P t with
 | none=>ixA P o t v j
 | some q=>match v with
  | .own u=>.rdL u fun cv L=>match L with
   | .own _ s l _=>match Nat.beq q.2 s.n with
    | true=>.bind (idx l j) fun y=>ret o (.el u j.toNat cv s y 0)
    | false=>.fail
   | .mat _ _ s m hv=>match Nat.beq q.2 1 with
    | true=>.bind (idx m j) fun r=>ret o (.rp u j.toNat hv cv s r)
    | false=>.fail
   | _=>.fail
  | .data (.slice s) l=>match Nat.beq q.2 s.n with
   | true=>.bind (idx l j) fun y=>ret o (.vp s y 0)
   | false=>.fail
  | .data (.leaf 0) (n:Nat)=>match Nat.beq q.2 1 with
   | true=>.bind (idx (Zd 18446744073709551616 n) j) fun y=>ret o (.vp (.int .u64) y 0)
   | false=>.fail
  | .data (.leaf 1) (n:Nat)=>match Nat.beq q.2 1 with
   | true=>.bind (idx (Zd 4294967296 n) j) fun y=>ret o (.vp (.int .u32) y 0)
   | false=>.fail
  | .row u i hv cv s r=>.rdL u fun cv' L=>match L with
   | .mat _ _ _ _ hv'=>match Nat.beq hv' hv,Nat.beq cv' cv,Nat.beq q.2 s.n with
    | true,true,true=>.bind (idx r j) fun y=>ret o (.rel u i j.toNat hv cv s r y 0)
    | _,_,_=>.fail
   | _=>.fail
  | _=>.fail
def lenE {ρ:Type} (P:Program) (t:TypeId) (v:V) (k:Nat→Ev ρ):Ev ρ:=match v with
 | .data .str (s:List UInt8)=>match P.underlying t with
  | some .string=>k s.length
  | _=>.fail
 | v=>match Zwg P t with
  | none=>.fail
  | some _=>match v with
   | .own u=>.rdL u fun _ L=>match L with
    | .own _ _ l _=>k l.length
    | .mat _ _ _ m _=>k m.length
    | _=>.fail
   | .data (.slice _) l=>k l.length
   | .data (.leaf 0) (n:Nat)=>k (Zd 18446744073709551616 n).length
   | .data (.leaf 1) (n:Nat)=>k (Zd 4294967296 n).length
   | .row u _ hv _ _ r=>.rdL u fun _ L=>match L with
    | .mat _ _ _ _ hv'=>match Nat.beq hv' hv with
     | true=>k r.length
     | _=>.fail
    | _=>.fail
   | _=>.fail
def fldE {ρ:Type} (P:Program) (s:TypeId) (f:Nat) (v:V) (k:V→Ev ρ):Ev ρ:=match fldA P s f with
 | some h=>match shift v h with
  | some z=>live v (k z)
  | none=>.fail
 | none=>.fail
def Zmd {ρ:Type}:List Operand→(V→Ev ρ)→Ev ρ
 | [],k=>k .nl
 | x :: r,k=>opd x fun v=>match v with
  | .tup _=>.fail
  | v=>Zmd r fun c=>k (.cons v c)
def Zif {ρ:Type}:(ts:List T)→V→(Zqa ts→Ev ρ)→Ev ρ
 | [],.nl,k=>k ()
 | [t],.cons v .nl,k=>conv FU t v k
 | t :: u :: r,.cons v c,k=>conv FU t v fun x=>Zif (u :: r) c fun y=>k (x,y)
 | _,_,_=>.fail
def convS {ρ:Type} (t:T):V→(List t.den→Ev ρ)→Ev ρ
 | .nl,k=>k []
 | .cons v c,k=>conv FU t v fun x=>convS t c fun l=>k (x :: l)
 | _,_=>.fail
def resV:(ts:List T)→Zqa ts→V
 | [],_=>.nl
 | [t],x=>.cons (.data t x) .nl
 | t :: u :: r,x=>.cons (.data t x.1) (resV (u :: r) x.2)
def Zde:V→V
 | .cons v .nl=>v
 | c=>.tup c
def appE (C:Cf) (o:Oper) (nid:Nat) (t:TypeId) (v v':V):Ev Unit:=match ZQf C.P t with
 | none=>.fail
 | some q=>match v with
  | .own u=>.rdL u fun _ L=>match L with
   | .own _ s _ _=>conv FU (.slice s) v' fun y=>.rdL u fun _ L=>match L with
    | .own ty s' l false=>match Zld s s' y,Nat.beq q.e ty,Nat.beq q.sz s'.n with
     | some y',true,true=>.bind (ZAa q.by_ (l++y')) fun _=>.del u (.new nid (.own ty s' (l++y') false) (ret o (.own nid)))
     | _,_,_=>.fail
    | _=>.fail
   | _=>.fail
  | .nilS=>match Zke C FU q.e with
   | some s=>match Nat.beq q.sz s.n with
    | true=>conv FU (.slice s) v' fun (y:List s.den)=>.bind (ZAa q.by_ ([]++y)) fun _=>.new nid (.own q.e s ([]++y) false) (ret o (.own nid))
    | false=>.fail
   | none=>.fail
  | _=>.fail
def putF (P:Program) (s:TypeId):V→List (Nat×V)→Option V
 | z,[]=>some z
 | z,p :: r=>match fldT P s p.1 with
  | some h=>match szA P h.type with
   | some q=>match Nat.beq p.2.size q.1,p.2.fit,ZMa FU z h.offset p.2 with
    | true,true,some z'=>putF P s z' r
    | _,_,_=>none
   | none=>none
  | none=>none
def putA (n sz:Nat):V→List (Nat×V)→Option V
 | z,[]=>some z
 | z,p :: r=>match Nat.blt p.1 n,Nat.beq p.2.size sz,p.2.fit,ZMa FU z (p.1*sz) p.2 with
  | true,true,true,some z'=>putA n sz z' r
  | _,_,_,_=>none
def Zph (P:Program):List Field→Bool
 | []=>true
 | h :: r=>match P.info? h.type with
  | some _=>Zph P r
  | none=>false
def zipV:List (Nat×Operand)→V→List (Nat×V)
 | p :: r,.cons v c=>(p.1,v) :: zipV r c
 | _,_=>[]
def ZNe:V→V
 | .data t x=>match Zed t x with
  | some c=>.agg c
  | none=>.data t x
 | v=>v
def Zjj:Nat→List (Nat×Operand)→Bool
 | _,[]=>true
 | k,p :: r=>match Nat.beq p.1 k with
  | true=>Zjj (k+1) r
  | false=>false
def Znf:Option Int→Int→Int
 | some h,_=>h
 | none,n=>n
def cutE (P:Program) (o:Oper) (t:TypeId) (v:V) (lo hi:Option Int):Ev Unit:=match v with
 | .data (.slice s) l=>match Zwg P t with
  | some q=>match Nat.beq q.2 s.n with
   | true=>.bind (Zbc l (Znf lo 0) (Znf hi (l.length:Int))) fun y=>ret o (.data (.slice s) y)
   | false=>.fail
  | none=>.fail
 | .data .str (l:List UInt8)=>match P.underlying t with
  | some .string=>.bind (Zbc l (Znf lo 0) (Znf hi (l.length:Int))) fun y=>ret o (.data .str y)
  | _=>.fail
 | _=>.fail
def optI {ρ:Type} (x:Option Operand) (k:Option Int→Ev ρ):Ev ρ:=match x with
 | none=>k none
 | some x=>opd x fun v=>Z8b v fun _ i=>k (some i)
def insE (nid:Nat) (o:Oper) (c:ConI):V→Ev Unit
 | .cons a (.cons (.data (.int .i64) (i:Int)) (.cons (.own u2) .nl))=>.rdL u2 fun _ L2=>match L2 with
  | .own ty2 s2 l2 false=>match Nat.beq ty2 c.ty,Zld s2 c.t l2 with
   | true,some [x]=>.del u2 (match a with
    | .own u=>.rdL u fun _ L=>match L with
     | .own ty s l false=>match Nat.beq ty c.ty,Zld s c.t l with
      | true,some l'=>.bind (c.F l' i x) fun z=>.del u (.new nid (.own c.ty c.t z false) (ret o (.own nid)))
      | _,_=>.fail
     | _=>.fail
    | .nilS=>.bind (c.F [] i x) fun z=>.new nid (.own c.ty c.t z false) (ret o (.own nid))
    | _=>.fail)
   | _,_=>.fail
  | _=>.fail
 | _=>.fail
def Z7h (C:Cf) (nid:Nat) (o:Oper) (f:FuncId) (args:V):Ev Unit:=match ZCa C.cons f with
 | some c=>Zif c.args args fun p=>.bind (c.F p) fun z=>ret o (Zde (resV c.res z))
 | none=>match ZCa C.owns f with
  | some c=>Zif c.args args fun p=>.bind (c.F p) fun z=>.new nid (.own c.ty c.t z false) (ret o (.own nid))
  | none=>match ZCa C.ins f with
   | some c=>insE nid o c args
   | none=>.fail
def ZU (C:Cf) (nid:Nat) (o:Oper):Ev Unit:=match o.op with
 | .move x=>opd x (ret o)
 | .assign x=>opd x (ret o)
 | .pick (.tmp c) a b=>.test c (opd a (ret o)) (opd b (ret o))
 | .extract x i=>opd x fun v=>match v with
  | .tup c=>match nthV c i with
   | some z=>ret o z
   | none=>.fail
  | _=>.fail
 | .alloc t=>match ZPh C t with
  | some z=>.new nid (.box t z) (ret o (.ptr nid 0))
  | none=>.fail
 | .box t x=>opd x fun v=>match v.fit with
  | true=>.new nid (.box t v) (ret o (.ptr nid 0))
  | false=>.fail
 | .load t x=>opd x fun p=>ldE C.P t p (ret o)
 | .store t x y=>match o.dst with
  | none=>opd x fun p=>opd y fun v=>stE C.P nid t p v
  | some _=>.fail
 | .fieldAddr s x f=>opd x fun v=>fldE C.P s f v (ret o)
 | .field s x f=>opd x fun v=>match fldT C.P s f,v.isAgg with
  | some h,true=>match szA C.P h.type with
   | some q=>match Zea FU v h.offset q.1 q.2 with
    | some z=>ret o z
    | none=>.fail
   | none=>.fail
  | _,_=>.fail
 | .indexAddr t x i=>opd x fun v=>opd i fun w=>Z8b w fun _ j=>ixE C.P o t v j
 | .index t x i=>opd x fun v=>opd i fun w=>Z8b w fun _ j=>match v with
  | .data .str (l:List UInt8)=>match C.P.underlying t with
   | some .string=>.bind (idx l j) fun (y:UInt8)=>ret o (.data (.int .u8) ((y.toNat:Nat):Int))
   | _=>.fail
  | v=>match C.P.underlying t with
   | some (.array n e)=>match szA C.P e,v.isAgg,decide (0≤j),decide (j<n) with
    | some q,true,true,true=>match Zea FU v (j.toNat*q.1) q.1 q.2 with
     | some z=>ret o z
     | none=>.fail
    | _,_,_,_=>.fail
   | _=>.fail
 | .binOp op t x y _=>opd x fun v=>opd y fun w=>binE C.P op t v w (ret o)
 | .unOp .not _ x=>opd x fun v=>Z8j v fun b=>ret o (.data .bool (!b))
 | .unOp .neg _ x=>opd x fun v=>Z8b v fun κ i=>ret o (.data (.int κ) (κ.wrap (-i)))
 | .convert s d x=>opd x fun v=>match v,C.P.underlying s,C.P.underlying d with
  | .data (.int κ) i,some _,some (.int κ')=>match kEq κ κ' with
   | true=>ret o (.data (.int κ) i)
   | false=>ret o (.data (.int κ') (κ'.wrap i))
  | .data .str (l:List UInt8),some .string,some .string=>ret o (.data .str l)
  | _,_,_=>.fail
 | .makeFunc (.func f) first cap=>match first.toList with
  | []=>Zmd cap.toList fun c=>ret o (.fn f c)
  | _=>.fail
 | .makeInterface t x=>opd x fun v=>match v.fit with
  | true=>match C.P.underlying t with
   | some (.interface _)=>.fail
   | some _=>ret o (.ifc t v)
   | none=>.fail
  | false=>.fail
 | .makeSlice t l c=>opd l fun v=>opd c fun w=>Z8b v fun _ i=>Z8b w fun _ j=>match ZQf C.P t,o.dst with
  | some q,some d=>.bind (mk q.by_ i j) fun _=>match ZHd C.mats d with
   | true=>match ZQf C.P q.e,zSl q.z.cells.toList,Nat.beq q.sz 1 with
    | some q2,some _,true=>match Zke C FU q2.e with
     | some s=>match Nat.beq q2.sz s.n with
      | true=>.new nid (.mat q.e q2.e s (List.replicate i.toNat []) nid) (ret o (.own nid))
      | false=>.fail
     | none=>.fail
    | _,_,_=>.fail
   | false=>match Zke C FU q.e with
    | some s=>match Zme s,zOK s q.z.cells.toList,Nat.beq q.sz s.n with
     | some z,some _,true=>.new nid (.own q.e s (List.replicate i.toNat z) false) (ret o (.own nid))
     | _,_,_=>.fail
    | none=>.fail
  | _,_=>.fail
 | .buildSlice t n ps=>match ZQf C.P t with
  | some q=>match Zke C FU q.e,Zjj 0 ps.toList,Nat.beq ps.toList.length n,Nat.ble (n*q.sz) 16777216 with
   | some s,true,true,true=>match Nat.beq q.sz s.n with
    | true=>Zmd (ps.toList.map (·.2)) fun c=>convS s c fun l=>.new nid (.own q.e s l false) (ret o (.own nid))
    | false=>.fail
   | _,_,_,_=>.fail
  | none=>.fail
 | .build t ps=>match ZPh C t,C.P.underlying t with
  | some z,some (.struct fs)=>match Zph C.P fs.toList,(ZNe z).isAgg,z.isAgg with
   | true,true,true=>match ps.toList with
    | []=>ret o z
    | l=>Zmd (l.map (·.2)) fun c=>match putF C.P t (ZNe z) (zipV l c) with
     | some z'=>ret o z'
     | none=>.fail
   | _,_,_=>.fail
  | some z,some (.array n e)=>match C.P.info? e,(ZNe z).isAgg,z.isAgg with
   | some i,true,true=>Zmd (ps.toList.map (·.2)) fun c=>match putA n i.size (ZNe z) (zipV ps.toList c) with
    | some z'=>ret o z'
    | none=>.fail
   | _,_,_=>.fail
  | _,_=>.fail
 | .slice t x lo hi none=>optI lo fun i=>optI hi fun j=>opd x fun v=>match v with
  | .own u=>.rdL u fun _ L=>match L with
   | .own _ s _ _=>conv FU (.slice s) v fun l=>cutE C.P o t (.data (.slice s) l) i j
   | _=>.fail
  | .data (.leaf 0) (n:Nat)=>cutE C.P o t (.data (.slice (.int .u64)) (Zd 18446744073709551616 n)) i j
  | .data (.leaf 1) (n:Nat)=>cutE C.P o t (.data (.slice (.int .u32)) (Zd 4294967296 n)) i j
  | v=>cutE C.P o t v i j
 | .call c=>match c.callee with
  | .builtin .len=>match c.args.toList,c.argTypes.toList with
   | [x],[t]=>opd x fun v=>lenE C.P t v fun n=>ret o (.data (.int .i64) (n:Int))
   | _,_=>.fail
  | .builtin .append=>match c.args.toList,c.argTypes.toList with
   | [x,y],[t,t']=>match Nat.beq t t' with
    | true=>opd x fun v=>opd y fun w=>appE C o nid t v w
    | false=>.fail
   | _,_=>.fail
  | .builtin .max=>match c.args.toList with
   | [x,y]=>opd x fun v=>opd y fun w=>Z8b v fun κ i=>Z8b w fun κ' j=>match kEq κ κ' with
    | true=>ret o (.data (.int κ) (max i j:Int))
    | false=>.fail
   | _=>.fail
  | .builtin .min=>match c.args.toList with
   | [x,y]=>opd x fun v=>opd y fun w=>Z8b v fun κ i=>Z8b w fun κ' j=>match kEq κ κ' with
    | true=>ret o (.data (.int κ) (min i j:Int))
    | false=>.fail
   | _=>.fail
  | .value x=>opd x fun fv=>Zmd c.args.toList fun ags=>match fv with
   | .fn f .nl=>Z7h C nid o f ags
   | _=>.fail
  | .invoke x m=>opd x fun r=>Zmd c.args.toList fun ags=>match r with
   | .ifc t v=>match lkM C.meths t m with
    | some f=>Z7h C nid o f (.cons v ags)
    | none=>.fail
   | _=>.fail
  | _=>.fail
 | _=>.fail
def ZSe (o:Oper):Ev Unit:=match o.dst with
 | some d=>.wrS d .undef (.done ())
 | none=>.done ()
def gop (C:Cf) (ops:List Oper) (nid:Nat) (o:Oper):Ev Unit:=match o.guard with
 | none=>ZU C nid o
 | some (j,w)=>match ops[j]? with
  | some q=>match q.dst with
   | some t=>.rdS t fun x=>match x with
    | .undef=>ZSe o
    | .data .bool _=>match w with
     | true=>.test t (ZU C nid o) (ZSe o)
     | false=>.test t (ZSe o) (ZU C nid o)
    | _=>.fail
   | none=>.fail
  | none=>.fail
structure Fp where
 rs:Nat
 ws:Nat
 rl:Nat
 wl:Nat
def Fp.no:Fp:=⟨0,0,0,0⟩
def bit (m k:Nat):Nat:=Nat.lor m (Nat.pow 2 k)
def Zkb {ρ α:Type} (n:Nat):Ev ρ→Fr→Lo→Fp→(ρ→Fr→Lo→Fp→Option α)→Option α
 | .fail,_,_,_,_=>none
 | .done r,f,l,p,K=>K r f l p
 | .rdS t k,f,l,p,K=>match lkE f t with
  | some x=>Zkb n (k x.x) f l ⟨bit p.rs t,p.ws,p.rl,p.wl⟩ K
  | none=>none
 | .rdL u k,f,l,p,K=>match lkE l u with
  | some x=>Zkb n (k x.st x.x) f l ⟨p.rs,p.ws,bit p.rl u,p.wl⟩ K
  | none=>none
 | .wrS t x e,f,l,p,K=>Zkb n e (⟨t,n,x⟩ :: f) l ⟨p.rs,bit p.ws t,p.rl,p.wl⟩ K
 | .wrL u L e,f,l,p,K=>Zkb n e f (⟨u,n,L⟩ :: era l u) ⟨p.rs,p.ws,p.rl,bit p.wl u⟩ K
 | .new u L e,f,l,p,K=>match lkE l u with
  | none=>Zkb n e f (⟨u,n,L⟩ :: l) ⟨p.rs,p.ws,bit p.rl u,bit p.wl u⟩ K
  | some _=>none
 | .del u e,f,l,p,K=>Zkb n e f (era l u) ⟨p.rs,p.ws,p.rl,bit p.wl u⟩ K
 | .bind x k,f,l,p,K=>bnd x fun y=>Zkb n (k y) f l p K
 | .test t e1 e2,f,l,p,K=>match lkE f t with
  | some ⟨_,s,.data .bool b⟩=>ifb b (Zkb n e1 (⟨t,s,.data .bool true⟩ :: f) l ⟨bit p.rs t,p.ws,p.rl,p.wl⟩ K) (Zkb n e2 (⟨t,s,.data .bool false⟩ :: f) l ⟨bit p.rs t,p.ws,p.rl,p.wl⟩ K)
  | _=>none
def Fp.free (p q:Fp):Bool:=Nat.beq (Nat.lor (Nat.lor (Nat.land p.ws (Nat.lor q.rs q.ws)) (Nat.land p.rs q.ws)) (Nat.lor (Nat.land p.wl (Nat.lor q.rl q.wl)) (Nat.land p.rl q.wl))) 0
def Z3b (done:List Nat):List Edge→Nat→Nat
 | [],m=>m
 | e :: r,m=>match Region.binds .any e with
  | true=>Z3b done r (Nat.lor (bit m e.on) (done.getD e.on 0))
  | false=>Z3b done r m
def ZKa:List Oper→List Nat→List Nat
 | [],done=>done
 | o :: r,done=>ZKa r (done++[Z3b done o.after.toList 0])
def chk1 (m:Nat) (q:Fp):List Fp→Nat→Bool
 | [],_=>true
 | p :: r,i=>match Nat.testBit m i with
  | true=>chk1 m q r (i+1)
  | false=>match p.free q with
   | true=>chk1 m q r (i+1)
   | false=>false
def Zbd:List Fp→List Nat→List Fp→Bool
 | _,_,[]=>true
 | bef,m :: ms,q :: qs=>match chk1 m q bef 0 with
  | true=>Zbd (bef++[q]) ms qs
  | false=>false
 | _,[],_ :: _=>false
def ZXg (i:Nat):List Edge→Bool
 | []=>true
 | e :: r=>match Region.binds .any e with
  | true=>match Nat.blt e.on i with
   | true=>ZXg i r
   | false=>false
  | false=>ZXg i r
def Zwd:Nat→List Oper→Bool
 | _,[]=>true
 | i,o :: r=>match ZXg i o.after.toList with
  | true=>Zwd (i+1) r
  | false=>false
inductive CT where
 | dat (t:T)
 | own (ty:TypeId) (t:T)
 | mat (ty ty2:TypeId) (t:T)
 | nl
 | one (a:CT)
 | cons (a b:CT)
 | agg (c:CT)
 | box (ty:TypeId) (c:CT)
def CT.den:CT→Type
 | .dat t=>t.den
 | .own _ t=>List t.den
 | .mat _ _ t=>List (List t.den)
 | .nl=>Unit
 | .one a=>a.den
 | .cons a b=>a.den×b.den
 | .agg c=>c.den
 | .box _ c=>c.den
inductive Pl where
 | sl (s:Nat)
 | fld (p:Pl) (off:Nat)
inductive Vr where
 | s (t:Nat) (c:CT)
 | l (p:Pl) (c:CT)
def Vr.ct:Vr→CT
 | .s _ c=>c
 | .l _ c=>c
def ctL:List CT→CT
 | []=>.nl
 | [v]=>.one v
 | v :: w :: r=>.cons v (ctL (w :: r))
inductive Kd where
 | norm | exit (id:Nat) | ret
structure Js where
 keep:List Nat
 drop:List Pl
 vs:List Vr
structure Jn where
 head:Js
 outs:List (Kd×Js)
inductive Ann where
 | no
 | two (a b:Ann)
 | cut (c:Jn) (a:Ann)
 | unroll (k:Nat) (a:Ann)
structure Kt (α:Type) where
 norm:Fr→Lo→Nat→Option α
 exit:Nat→Fr→Lo→Nat→Option α
 ret:V→Lo→Nat→Option α
def Ann.fst:Ann→Ann
 | .two a _=>a
 | _=>.no
def Ann.snd:Ann→Ann
 | .two _ b=>b
 | _=>.no
def idV:V→Option Nat
 | .own u=>some u
 | .ptr u 0=>some u
 | _=>none
def ZOb (f:Fr) (l:Lo):Pl→Option Nat
 | .sl s=>match lkE f s with
  | some v=>idV v.x
  | none=>none
 | .fld p off=>match ZOb f l p with
  | some u=>match lkE l u with
   | some ⟨_,_,.box _ c⟩=>match Zea FU c off 1 false with
    | some v=>idV v
    | none=>none
   | _=>none
  | none=>none
def Z1 {ρ:Type}:Nat→(c:CT)→V→(c.den→Ev ρ)→Ev ρ
 | 0,_,_,_=>.fail
 | g+1,c,v,K=>match c,K with
  | .dat t,K=>conv FU t v K
  | .own ty t,K=>match v with
   | .own u=>.rdL u fun _ L=>match L with
    | .own ty' t' xs false=>match Nat.beq ty ty',Zld t' t xs with
     | true,some ys=>.del u (K ys)
     | _,_=>.fail
    | _=>.fail
   | .nilS=>K []
   | _=>.fail
  | .mat ty ty2 t,K=>match v with
   | .own u=>.rdL u fun _ L=>match L with
    | .mat ty' ty2' t' m _=>match Nat.beq ty ty',Nat.beq ty2 ty2',T.cast (.slice (.slice t')) (.slice (.slice t)) m with
     | true,true,some m'=>.del u (K m')
     | _,_,_=>.fail
    | _=>.fail
   | .nilS=>K []
   | _=>.fail
  | .nl,K=>match v with
   | .nl=>K ()
   | _=>.fail
  | .one a,K=>match v with
   | .cons x .nl=>Z1 g a x K
   | _=>.fail
  | .cons a b,K=>match v with
   | .cons x y=>Z1 g a x fun p=>Z1 g b y fun q=>K (p,q)
   | _=>.fail
  | .agg c,K=>match v with
   | .agg x=>Z1 g c x K
   | _=>.fail
  | .box ty c,K=>match v with
   | .ptr u 0=>.rdL u fun _ L=>match L with
    | .box ty' x=>match Nat.beq ty ty' with
     | true=>.del u (Z1 g c x K)
     | false=>.fail
    | _=>.fail
   | _=>.fail
def Zk:(c:CT)→c.den→Nat→V×Lo×Nat
 | .dat t,x,n=>(.data t x,[],n)
 | .own ty t,x,n=>(.own n,[⟨n,n,.own ty t x false⟩],n+1)
 | .mat ty ty2 t,x,n=>(.own n,[⟨n,n,.mat ty ty2 t x n⟩],n+1)
 | .nl,_,n=>(.nl,[],n)
 | .one a,x,n=>match Zk a x n with
  | (v,l,m)=>(.cons v .nl,l,m)
 | .cons a b,x,n=>match Zk a x.1 n with
  | (v,l,m)=>match Zk b x.2 m with
   | (v',l',m')=>(.cons v v',l++l',m')
 | .agg c,x,n=>match Zk c x n with
  | (v,l,m)=>(.agg v,l,m)
 | .box ty c,x,n=>match Zk c x (n+1) with
  | (v,l,m)=>(.ptr n 0,⟨n,n,.box ty v⟩ :: l,m)
def Z2d {ρ:Type} (c:CT) (u:Nat) (K:c.den→Ev ρ):Ev ρ:=match c,K with
 | .own ty t,K=>.rdL u fun _ L=>match L with
  | .own ty' t' xs false=>match Nat.beq ty ty',Zld t' t xs with
   | true,some ys=>.del u (K ys)
   | _,_=>.fail
  | _=>.fail
 | .mat ty ty2 t,K=>.rdL u fun _ L=>match L with
  | .mat ty' ty2' t' m _=>match Nat.beq ty ty',Nat.beq ty2 ty2',T.cast (.slice (.slice t')) (.slice (.slice t)) m with
   | true,true,some m'=>.del u (K m')
   | _,_,_=>.fail
  | _=>.fail
 | .box ty c,K=>.rdL u fun _ L=>match L with
  | .box ty' x=>match Nat.beq ty ty' with
   | true=>.del u (Z1 FU c x K)
   | false=>.fail
  | _=>.fail
 | _,_=>.fail
def ZQd {ρ:Type} (f0:Fr) (l0:Lo):(vs:List Vr)→((ctL (vs.map Vr.ct)).den→Ev ρ)→Ev ρ
 | [],K=>K ()
 | [.s t c],K=>.rdS t fun v=>Z1 FU c v K
 | [.l p c],K=>match ZOb f0 l0 p with
  | some u=>Z2d c u K
  | none=>.fail
 | .s t c :: w :: r,K=>.rdS t fun v=>Z1 FU c v fun x=>ZQd f0 l0 (w :: r) fun y=>K (x,y)
 | .l p c :: w :: r,K=>match ZOb f0 l0 p with
  | some u=>Z2d c u fun x=>ZQd f0 l0 (w :: r) fun y=>K (x,y)
  | none=>.fail
def Z2b (f:Fr):List Nat→Fr
 | []=>[]
 | s :: r=>match lkE f s with
  | some e=>e :: Z2b f r
  | none=>Z2b f r
def ZCb (c:CT) (x:c.den) (u n:Nat):Lo×Nat:=match c,x with
 | .own ty t,x=>([⟨u,n,.own ty t x false⟩],n+1)
 | .mat ty ty2 t,x=>([⟨u,n,.mat ty ty2 t x n⟩],n+1)
 | .box ty c,x=>match Zk c x (n+1) with
  | (v,l,m)=>(⟨u,n,.box ty v⟩ :: l,m)
 | _,_=>([],n)
def Zbb (f0:Fr) (l0:Lo):(vs:List Vr)→(ctL (vs.map Vr.ct)).den→Nat→Fr×Lo×Nat
 | [],_,n=>([],[],n)
 | [.s t c],x,n=>match Zk c x (n+1) with
  | (v,l,m)=>([⟨t,n,v⟩],l,m)
 | [.l p c],x,n=>match ZOb f0 l0 p with
  | some u=>match ZCb c x u n with
   | (l,m)=>([],l,m)
  | none=>([],[],n)
 | .s t c :: w :: r,x,n=>match Zk c x.1 (n+1) with
  | (v,l,m)=>match Zbb f0 l0 (w :: r) x.2 m with
   | (f',l',m')=>(⟨t,n,v⟩ :: f',l++l',m')
 | .l p c :: w :: r,x,n=>match ZOb f0 l0 p with
  | some u=>match ZCb c x.1 u n with
   | (l,m)=>match Zbb f0 l0 (w :: r) x.2 m with
    | (f',l',m')=>(f',l++l',m')
  | none=>([],[],n)
def goneP (f0:Fr) (l0:Lo):List Pl→List Nat
 | p :: r=>match ZOb f0 l0 p with
  | some u=>u :: goneP f0 l0 r
  | none=>goneP f0 l0 r
 | []=>[]
def Zlc (f0:Fr) (l0:Lo):List Vr→List Nat
 | .s t _ :: r=>match ZOb f0 l0 (.sl t) with
  | some u=>u :: Zlc f0 l0 r
  | none=>Zlc f0 l0 r
 | .l p _ :: r=>match ZOb f0 l0 p with
  | some u=>u :: Zlc f0 l0 r
  | none=>Zlc f0 l0 r
 | []=>[]
def gone (f0:Fr) (l0:Lo) (ps:List Pl) (vs:List Vr):List Nat:=goneP f0 l0 ps++Zlc f0 l0 vs
def idsV:V→List Nat→List Nat
 | .own u,r=>u :: r
 | .row u _ _ _ _ _,r=>u :: r
 | .ptr u _,r=>u :: r
 | .el u _ _ _ _ _,r=>u :: r
 | .rp u _ _ _ _ _,r=>u :: r
 | .rel u _ _ _ _ _ _ _ _,r=>u :: r
 | .cons a b,r=>idsV a (idsV b r)
 | .agg c,r=>idsV c r
 | .tup c,r=>idsV c r
 | .fn _ c,r=>idsV c r
 | _,r=>r
def idsF:Fr→List Nat
 | []=>[]
 | e :: r=>idsV e.x (idsF r)
def Z0e (l:Lo):Nat→List Nat→List Nat→List Nat
 | 0,_,a=>a
 | _,[],a=>a
 | g+1,u :: r,a=>match ZHd a u with
  | true=>Z0e l g r a
  | false=>match lkE l u with
   | some ⟨_,_,.box _ c⟩=>Z0e l g (idsV c r) (u :: a)
   | _=>Z0e l g r (u :: a)
def ZFc (b:Nat) (rs us:List Nat):Lo→Lo
 | []=>[]
 | e :: r=>match ZHd us e.k with
  | true=>ZFc b rs us r
  | false=>match Nat.ble b e.k with
   | false=>e :: ZFc b rs us r
   | true=>match ZHd rs e.k with
    | true=>e :: ZFc b rs us r
    | false=>ZFc b rs us r
def ZUd (b:Nat) (f0:Fr) (l0:Lo) (j:Js) (vs:List Vr):Lo:=ZFc b (Z0e l0 50 (idsF (Z2b f0 j.keep)) []) (gone f0 l0 j.drop vs) l0
def Z7f (n:Nat) (f:Fr):List Nat→Bool
 | []=>true
 | s :: r=>match lkE f s with
  | some e=>match Nat.ble n e.st with
   | true=>false
   | false=>Z7f n f r
  | none=>false
def Zrf (n:Nat) (l:Lo):Lo→Bool
 | []=>true
 | e :: r=>match lkE l e.k with
  | some e'=>match Nat.ble n e'.st with
   | true=>false
   | false=>Zrf n l r
  | none=>false
def build {α:Type} (b:Nat) (f0:Fr) (l0:Lo) (j:Js) (x:(ctL (j.vs.map Vr.ct)).den) (n:Nat) (K:Fr→Lo→Nat→α):α:=match Zbb f0 l0 j.vs x n with
 | (f',l',m)=>K (f'++Z2b f0 j.keep) (l'++ZUd b f0 l0 j j.vs) m
def kdEq:Kd→Kd→Bool
 | .norm,.norm=>true
 | .ret,.ret=>true
 | .exit i,.exit j=>Nat.beq i j
 | _,_=>false
abbrev jT (j:Js):Type:=(ctL (j.vs.map Vr.ct)).den
def sumT:List (Kd×Js)→Type
 | []=>Empty
 | [o]=>jT o.2
 | o :: p :: r=>jT o.2 ⊕ sumT (p :: r)
def Zge {α:Type} (b n0 n:Nat) (f0:Fr) (l0:Lo) (f:Fr) (l:Lo) (j:Js) (K:jT j→Option α):Option α :=
 ZSa n (ZQd f0 l0 j.vs fun x=>.done x) f l fun x _ l'=>match Z7f n0 f j.keep,Zrf n0 l' (ZUd b f0 l0 j j.vs) with
  | true,true=>K x
  | _,_=>none
def Zci {α:Type} (b n0 n:Nat) (f0:Fr) (l0:Lo) (c:V) (l:Lo) (j:Js) (K:jT j→Option α):Option α :=
 ZSa n (Z1 FU (ctL (j.vs.map Vr.ct)) c fun x=>.done x) [] l fun x _ l'=>match Zrf n0 l' (ZUd b f0 l0 j []) with
  | true=>K x
  | _=>none
def Z9b {α:Type} (b n0 n:Nat) (f0:Fr) (l0:Lo) (kd:Kd) (c:V) (f:Fr) (l:Lo):(os:List (Kd×Js))→(sumT os→Option α)→Option α
 | [],_=>none
 | [o],K=>match kdEq o.1 kd with
  | true=>match kd with
   | .ret=>Zci b n0 n f0 l0 c l o.2 K
   | _=>Zge b n0 n f0 l0 f l o.2 K
  | false=>none
 | o :: p :: r,K=>match kdEq o.1 kd with
  | true=>match kd with
   | .ret=>Zci b n0 n f0 l0 c l o.2 fun x=>K (.inl x)
   | _=>Zge b n0 n f0 l0 f l o.2 fun x=>K (.inl x)
  | false=>Z9b b n0 n f0 l0 kd c f l (p :: r) fun x=>K (.inr x)
def ZCf {α:Type} (b:Nat) (f0:Fr) (l0:Lo) (n:Nat) (K:Kt α) (o:Kd×Js) (x:jT o.2):Option α:=match o.1 with
 | .norm=>build b f0 l0 o.2 x n K.norm
 | .exit i=>build b f0 l0 o.2 x n (K.exit i)
 | .ret=>match Zk (ctL (o.2.vs.map Vr.ct)) x n with
  | (v,l,m)=>K.ret v (l++ZUd b f0 l0 o.2 []) m
def arms {α:Type} (b:Nat) (f0:Fr) (l0:Lo) (n:Nat) (K:Kt α):(os:List (Kd×Js))→sumT os→Option α
 | [],_=>none
 | [o],x=>ZCf b f0 l0 n K o x
 | o :: p :: r,x=>match x with
  | .inl y=>ZCf b f0 l0 n K o y
  | .inr y=>arms b f0 l0 n K (p :: r) y
abbrev Go (α:Type):=Ann→Fr→Lo→Nat→Kt α→Option α
def Zxf {α:Type} (b:Nat) (ann:Ann) (f:Fr) (l:Lo) (n:Nat) (K:Kt α) (g:(β:Type)→Go β):Option α:=match ann with
 | .cut j a=>bnd (g (sumT j.outs) a f l n
   {
    norm:=fun f' l' n'=>Z9b b n n' f l .norm .nl f' l' j.outs some,
    exit:=fun i f' l' n'=>Z9b b n n' f l (.exit i) .nl f' l' j.outs some,
    ret:=fun c l' n'=>Z9b b n n' f l .ret c [] l' j.outs some }) fun x=>arms b f l n K j.outs x
 | a=>g α a f l n K
def rounds {α:Type} (g:(β:Type)→Go β) (a:Ann):Nat→Fr→Lo→Nat→Kt α→Option α
 | 0,_,_,_,_=>none
 | k+1,f,l,n,K=>g α a f l n { K with norm:=fun f l n=>rounds g a k f l n K }
def loopI {α:Type} (b:Nat) (ann:Ann) (f:Fr) (l:Lo) (n:Nat) (K:Kt α) (g:(β:Type)→Go β):Option α:=match ann with
 | .cut j a=>Zge b n n f l f l j.head fun z=>bnd (Zp (fun s=>build b f l j.head s n fun f2 l2 m=>g (jT j.head ⊕ sumT j.outs) a f2 l2 m
    {
     norm:=fun f' l' n'=>Zge b n n' f l f' l' j.head fun x=>some (.inl x),
     exit:=fun i f' l' n'=>Z9b b n n' f l (.exit i) .nl f' l' j.outs fun x=>some (.inr x),
     ret:=fun c l' n'=>Z9b b n n' f l .ret c [] l' j.outs fun x=>some (.inr x) }) Zy z)
    fun x=>arms b f l n K j.outs x
 | .unroll k a=>rounds g a k f l n K
 | _=>none
def opdV (f:Fr) (x:Operand):Option V:=match x with
 | .tmp t=>match lkE f t with
  | some e=>some e.x
  | none=>none
 | .const c=>Zvi c
 | .func g=>some (.fn g .nl)
 | .global _=>none
def ZFh (f:Fr):List Operand→Option V
 | []=>some .nl
 | x :: r=>match opdV f x,ZFh f r with
  | some (.tup _),_=>none
  | some v,some c=>some (.cons v c)
  | _,_=>none
abbrev CallF:=(α:Type)→FuncId→V→Lo→Nat→(V→Lo→Nat→Option α)→Option α
def Zsh (C:Cf) (f:Fr) (o:Oper):Option (FuncId×V):=match o.op with
 | .call c=>match c.callee with
  | .value x=>match opdV f x with
   | some (.fn g cap)=>match ZCa C.cons g,ZCa C.owns g,ZCa C.ins g with
    | none,none,none=>match ZFh f c.args.toList with
     | some ags=>some (g,appV ags cap)
     | none=>none
    | _,_,_=>none
   | _=>none
  | _=>none
 | _=>none
def inl1 {α:Type} (cf:CallF) (o:Oper) (g:FuncId) (ags:V) (f:Fr) (l:Lo) (n:Nat) (K:Fr→Lo→Nat→Option α):Option α:=match o.dst with
 | some d=>cf α g ags l (n+1) fun r l' m=>K (⟨d,n,Zde r⟩ :: f) l' m
 | none=>none
def Zoi {α:Type} (o:Oper) (f:Fr) (l:Lo) (n:Nat) (K:Fr→Lo→Nat→Option α):Option α:=ZSa n (ZSe o) f l fun _ f' l'=>K f' l' (n+1)
def inlG {α:Type} (cf:CallF) (ops:List Oper) (o:Oper) (g:FuncId) (ags:V) (f:Fr) (l:Lo) (n:Nat) (K:Fr→Lo→Nat→Option α):Option α:=match o.guard with
 | none=>inl1 cf o g ags f l n K
 | some (j,w)=>match ops[j]? with
  | some q=>match q.dst with
   | some t=>match lkE f t with
    | some ⟨_,s,.data .bool b⟩=>match w with
     | true=>ifb b (inl1 cf o g ags (⟨t,s,.data .bool true⟩ :: f) l n K) (Zoi o (⟨t,s,.data .bool false⟩ :: f) l n K)
     | false=>ifb b (Zoi o (⟨t,s,.data .bool true⟩ :: f) l n K) (inl1 cf o g ags (⟨t,s,.data .bool false⟩ :: f) l n K)
    | some ⟨_,_,.undef⟩=>Zoi o f l n K
    | _=>none
   | none=>none
  | none=>none
def iops {α:Type} (C:Cf) (cf:CallF) (ops:List Oper):List Oper→Fr→Lo→Nat→(Fr→Lo→Nat→Option α)→Option α
 | [],f,l,n,K=>K f l n
 | o :: r,f,l,n,K=>match Zsh C f o with
  | none=>ZSa n (gop C ops n o) f l fun _ f l=>iops C cf ops r f l (n+1) K
  | some (g,ags)=>inlG cf ops o g ags f l n fun f l n=>iops C cf ops r f l n K
def ZCe {α:Type} (C:Cf) (ops:List Oper):List Oper→Fr→Lo→Nat→(Fr→Lo→Nat→List Fp→Option α)→Option α
 | [],f,l,n,K=>K f l n []
 | o :: r,f,l,n,K=>Zkb n (gop C ops n o) f l Fp.no fun _ f l p=>ZCe C ops r f l (n+1) fun f l n ps=>K f l n (p :: ps)
def Ztm (o:Oper):Bool:=match o.op,o.guard with
 | .call c,none=>match c.callee with
  | .value (.tmp _)=>true
  | _=>false
 | _,_=>false
def allB (m:Nat):Nat→Bool
 | 0=>true
 | k+1=>match Nat.testBit m k with
  | true=>allB m k
  | false=>false
def Zai (ops:List Oper):Option Oper:=match ops.getLast? with
 | none=>none
 | some o=>match Ztm o with
  | false=>none
  | true=>match allB (Z3b (ZKa ops.dropLast []) o.after.toList 0) ops.dropLast.length with
   | true=>some o
   | false=>none
def ZZf (K:Nat):List Oper→Bool
 | []=>true
 | o :: r=>match o.dst with
  | some d=>match Nat.blt d K with
   | true=>ZZf K r
   | false=>false
  | none=>ZZf K r
def ZAj (f:Fr) (l:Lo) (P:Program):ResultVar→Option V
 | .tmp t=>match lkE f t with
  | some e=>some e.x
  | none=>none
 | .cell x t=>match lkE f x with
  | some ⟨_,_,.ptr u 0⟩=>match lkE l u with
   | some ⟨_,_,.box _ c⟩=>match szA P t with
    | some q=>Zea FU c 0 q.1 q.2
    | none=>none
   | _=>none
  | _=>none
def ZAh (f:Fr) (l:Lo) (P:Program):List ResultVar→Option V
 | []=>some .nl
 | r :: rs=>match ZAj f l P r,ZAh f l P rs with
  | some (.tup _),_=>none
  | some v,some c=>some (.cons v c)
  | _,_=>none
def Zoc (C:Cf) (cf:CallF) (rs:List ResultVar) (b N:Nat):Code→(α:Type)→Go α
 | .skip,_,_,f,l,n,K=>K.norm f l n
 | .label _,_,_,f,l,n,K=>K.norm f l n
 | .region _ ops draw,_,ann,f,l,n,K=>Zxf b ann f l n K fun _ _ f l n K=>match draw,ZZf N ops.toList with
  | false,true=>iops C cf ops.toList ops.toList f l n K.norm
  | true,true=>match C.P.follows .mixedOrders,Zwd 0 ops.toList with
   | true,true=>match Zai ops.toList with
    | none=>ZCe C ops.toList ops.toList f l n fun f l n ps=>match Zbd [] (ZKa ops.toList []) ps with
     | true=>K.norm f l n
     | false=>none
    | some o=>ZCe C ops.toList ops.toList.dropLast f l n fun f l n ps=>match Zbd [] (ZKa ops.toList.dropLast []) ps with
     | true=>iops C cf ops.toList [o] f l n K.norm
     | false=>none
   | _,_=>none
  | _,false=>none
 | .seq x y,_,ann,f,l,n,K=>Zxf b ann f l n K fun β a f l n K=>Zoc C cf rs b N x β a.fst f l n { K with norm:=fun f l n=>Zoc C cf rs b N y β a.snd f l n K }
 | .cond c x y,_,ann,f,l,n,K=>Zxf b ann f l n K fun β a f l n K=>match c with
  | .tmp t=>match lkE f t with
   | some ⟨_,s,.data .bool q⟩=>ifb q (Zoc C cf rs b N x β a.fst (⟨t,s,.data .bool true⟩ :: f) l n K) (Zoc C cf rs b N y β a.snd (⟨t,s,.data .bool false⟩ :: f) l n K)
   | _=>none
  | _=>none
 | .block id x,_,ann,f,l,n,K=>Zxf b ann f l n K fun β a f l n K=>Zoc C cf rs b N x β a.fst f l n { K with exit:=fun i=>match Nat.beq i id with
  | true=>K.norm
  | false=>K.exit i }
 | .loop x,_,ann,f,l,n,K=>loopI b ann f l n K fun β a f l n K=>Zoc C cf rs b N x β a.fst f l n K
 | .scope x,_,ann,f,l,n,K=>Zoc C cf rs b N x _ ann.fst f l n K
 | .exit i,_,_,f,l,n,K=>K.exit i f l n
 | .ret,_,_,f,l,n,K=>match ZAh f l C.P rs with
  | some c=>K.ret c l n
  | none=>none
 | _,_,_,_,_,_,_=>none
def Zqe (n:Nat):Nat→V→Fr
 | k,.cons v c=>⟨k,n,v⟩ :: Zqe n (k+1) c
 | _,_=>[]
def lenV:V→Nat
 | .cons _ c=>lenV c+1
 | _=>0
def endN {α:Type} (fn:Func) (K:V→Lo→Nat→Option α) (_:Fr) (l:Lo) (n:Nat):Option α:=match fn.results.toList with
 | []=>K .nl l n
 | _=>none
abbrev Inl:=List (FuncId×Func×Ann)
def Zzh (C:Cf) (inl:Inl):Nat→CallF
 | 0,_,_,_,_,_,_=>none
 | d+1,α,g,ags,l,n,K=>match ZCa inl g with
  | some (fn,ann)=>match fn.body,Nat.ble (lenV ags) fn.ntmps with
   | some c,true=>Zoc C (Zzh C inl d) fn.results.toList n fn.ntmps c α ann (Zqe n 0 ags) l (n+1) ⟨endN fn K,fun _ _ _ _=>none,K⟩
   | _,_=>none
  | none=>none
def ZBg:(ts:List T)→Zqa ts→V
 | [],_=>.nl
 | [t],x=>.cons (.data t x) .nl
 | t :: u :: r,x=>.cons (.data t x.1) (ZBg (u :: r) x.2)
def Zx (C:Cf) (inl:Inl) (fn:Func) (ann:Ann) (ats rts:List T) (x:Zqa ats):Option (Zqa rts):=match fn.body with
 | some c=>Zoc C (Zzh C inl 20) fn.results.toList 0 fn.ntmps c _ ann (Zqe 0 0 (ZBg ats x)) [] 1 ⟨fun _ _ _=>none,fun _ _ _ _=>none,fun c l n=>ZSa n (Zif rts c fun y=>.done y) [] l fun y _ _=>some y⟩
 | none=>none
end Go.Eng
namespace Go.Eng
open Go.RowKit
variable {P:Program} {K:Nat} {w0:Base} {v0:Za} {σ:List (Nat×Value)} {ℓ:List Loc} {v:Za} {a:Act} {w:World}
def OwnR {α:Type} (A:Rep α) (T:TypeId) (sz:Nat) (l:List α) (w:World) (r:Value) (v':Za) (w':World):Prop :=
 ∃ ob n cap cs,r = .slice (mkA ob) n cap∧(Loc.own ob T sz n cap cs).holds w'∧(∀ b,ob=some b→w.heap.size≤b∧v' b=none)∧A.rels v' cs l∧n=l.length
def RetO (P:Program) (f:FuncId) (args:Array Value) (w:World) (v:Za) (R:Value→Za→World→Prop):Prop :=
 Calls P f args w fun e w'=>∃ r v',e = .returned r∧Ext w w'∧VStep w v w' v'∧R r v' w'
end Go.Eng
namespace Go.Eng
open Go.RowKit
inductive Gh where
 | box (b:Nat)
 | own (ob:Option Nat) (cap:Nat)
 | mat (ob:Option Nat) (cap:Nat) (rows:List (Option Nat×Nat))
def V.val (x:V) (cs:List Value):Value:=match x.isAgg with
 | true=>.agg cs.toArray
 | false=>cs.headD Go.undef
def Zgj (s t:T) (m:List (List s.den)):Option (List (List t.den)):=T.cast (.slice (.slice s)) (.slice (.slice t)) m
def ZSi (γ:Nat→Gh) (u:Nat):LV→Value→Prop
 | .own _ _ xs _,y=>∃ ob cap,γ u = .own ob cap∧y = .slice (mkA ob) xs.length cap
 | .mat _ _ _ m _,y=>∃ ob cap rows,γ u = .mat ob cap rows∧y = .slice (mkA ob) m.length cap
 | .box _ _,_=>False
def Zmh (γ:Nat→Gh) (u off:Nat):LV→Value→Prop
 | .box _ _,y=>∃ b,γ u = .box b∧y = .pointer (some ⟨b,off,none⟩)
 | _,_=>False
def okEl (γ:Nat→Gh) (u i cv:Nat) (t:T) (x:t.den) (off st:Nat):LV→Value→Prop
 | .own _ s xs _,y=>∃ b cap,γ u = .own (some b) cap∧y = .pointer (some ⟨b,0+i*s.n+off,none⟩)∧i<xs.length∧(st=cv→∃ ys,Zld s t xs=some ys∧ys[i]? = some x)
 | _,_=>False
def okRp (γ:Nat→Gh) (u i cv:Nat) (t:T) (r:List t.den) (st:Nat):LV→Value→Prop
 | .mat _ _ s m _,y=>∃ b cap rows,γ u = .mat (some b) cap rows∧y = .pointer (some ⟨b,0+i*1,none⟩)∧i<m.length∧(st=cv→∃ m',Zgj s t m=some m'∧m'[i]? = some r)
 | .own _ _ _ _,_=>True
 | _,_=>False
def ZQi (γ:Nat→Gh) (u i hv cv:Nat) (t:T) (r:List t.den) (st:Nat):LV→Value→Prop
 | .mat _ _ s m hv',y=>hv'=hv→∃ ob cap rows obi capi,γ u = .mat ob cap rows∧rows[i]? = some (obi,capi)∧y = .slice (mkA obi) r.length capi∧(∃ ri,m[i]? = some ri∧ri.length=r.length)∧(st=cv→∃ m',Zgj s t m=some m'∧m'[i]? = some r)
 | .own _ _ _ _,_=>True
 | _,_=>False
def ZOi (γ:Nat→Gh) (u i j hv cv:Nat) (t:T) (r:List t.den) (x:t.den) (off st:Nat):LV→Value→Prop
 | .mat _ _ s m hv',y=>hv'=hv→∃ ob cap rows bi capi,γ u = .mat ob cap rows∧rows[i]? = some (some bi,capi)∧y = .pointer (some ⟨bi,0+j*s.n+off,none⟩)∧(∃ ri,m[i]? = some ri∧ri.length=r.length)∧j<r.length∧(st=cv→(∃ m',Zgj s t m=some m'∧m'[i]? = some r)∧r[j]? = some x)
 | .own _ _ _ _,_=>True
 | _,_=>False
def RR (v:Za) (γ:Nat→Gh) (l:Lo):Bool→V→List Value→Prop
 | false,.data t x,cs=>t.rep.rel v cs x
 | false,.nilS,cs=>cs=[.slice none 0 0]
 | false,.own u,cs=>∃ y,cs=[y]∧plain y=true∧∀ e,lkE l u=some e→ZSi γ u e.x y
 | false,.row u i hv cv t r,cs=>∃ y,cs=[y]∧plain y=true∧∀ e,lkE l u=some e→ZQi γ u i hv cv t r e.st e.x y
 | false,.ptr u off,cs=>∃ y,cs=[y]∧plain y=true∧∀ e,lkE l u=some e→Zmh γ u off e.x y
 | false,.el u i cv t x off,cs=>∃ y,cs=[y]∧plain y=true∧(∃ c,t.rep.rel v c x)∧∀ e,lkE l u=some e→okEl γ u i cv t x off e.st e.x y
 | false,.rp u i _ cv t r,cs=>∃ y,cs=[y]∧plain y=true∧∀ e,lkE l u=some e→okRp γ u i cv t r e.st e.x y
 | false,.rel u i j hv cv t r x off,cs=>∃ y,cs=[y]∧plain y=true∧∀ e,lkE l u=some e→ZOi γ u i j hv cv t r x off e.st e.x y
 | false,.vp t x off,cs=>∃ b o c,At v b o c∧t.rep.rel v c x∧cs=[.pointer (some ⟨b,o+off,none⟩)]
 | false,.nl,cs=>cs=[]
 | false,.cons a b,cs=>∃ c1 c2,cs=c1++c2∧RR v γ l false a c1∧RR v γ l false b c2
 | false,.agg c,cs=>RR v γ l false c cs
 | false,.tup _,_=>False
 | false,.fn f c,cs=>∃ vs,RR v γ l true c vs∧cs=[.func (.func f) #[] vs.toArray]
 | false,.ifc ty c,cs=>∃ cc,RR v γ l false c cc∧cs=[.iface ty (c.val cc)]
 | false,.undef,cs=>cs=[undef]
 | true,.nl,cs=>cs=[]
 | true,.cons a b,cs=>∃ c xs,cs=a.val c :: xs∧RR v γ l false a c∧RR v γ l true b xs
 | true,_,_=>False
def RV (v:Za) (γ:Nat→Gh) (l:Lo) (x:V) (y:Value):Prop:=match x with
 | .tup c=>∃ vs,RR v γ l true c vs∧y = .tuple vs.toArray
 | x=>∃ cs,RR v γ l false x cs∧y=x.val cs
def V.ok (U:Nat→Prop):V→Prop
 | .own u=>U u
 | .row u _ hv cv _ _=>U u∧U hv∧U cv
 | .ptr u _=>U u
 | .el u _ cv _ _ _=>U u∧U cv
 | .rp u _ hv cv _ _=>U u∧U hv∧U cv
 | .rel u _ _ hv cv _ _ _ _=>U u∧U hv∧U cv
 | .cons a b=>a.ok U∧b.ok U
 | .agg c=>c.ok U
 | .tup c=>c.ok U
 | .fn _ c=>c.ok U
 | .ifc _ c=>c.ok U
 | _=>True
theorem V.ok.mono {U U':Nat→Prop} (h:∀ n,U n→U' n):∀ {x:V},x.ok U→x.ok U'
 | .own _,k=>h _ k
 | .row _ _ _ _ _ _,k=>⟨h _ k.1,h _ k.2.1,h _ k.2.2⟩
 | .ptr _ _,k=>h _ k
 | .el _ _ _ _ _ _,k=>⟨h _ k.1,h _ k.2⟩
 | .rp _ _ _ _ _ _,k=>⟨h _ k.1,h _ k.2.1,h _ k.2.2⟩
 | .rel _ _ _ _ _ _ _ _ _,k=>⟨h _ k.1,h _ k.2.1,h _ k.2.2⟩
 | .cons _ _,k=>⟨V.ok.mono h k.1,V.ok.mono h k.2⟩
 | .agg c,k=>V.ok.mono (x:=c) h k
 | .tup c,k=>V.ok.mono (x:=c) h k
 | .fn _ c,k=>V.ok.mono (x:=c) h k
 | .ifc _ c,k=>V.ok.mono (x:=c) h k
 | .data _ _,_=>trivial
 | .nilS,_=>trivial
 | .vp _ _ _,_=>trivial
 | .nl,_=>trivial
 | .undef,_=>trivial
def CE (U:Nat→Prop) (γ γ':Nat→Gh) (u:Nat) (st st':Nat) (L L':LV):Prop:=match L,L' with
 | .box _ _,.box _ _=>γ' u=γ u
 | .own _ t xs _,.own _ t' xs' _=>γ' u=γ u∧t'=t∧xs'.length=xs.length∧(U st'→st'=st∧(⟨t',xs'⟩:(t:T)×List t.den)=⟨t,xs⟩)
 | .mat _ _ t m hv,.mat _ _ t' m' hv'=>t'=t∧m'.length=m.length∧(∃ ob cap rows rows',γ u = .mat ob cap rows∧γ' u = .mat ob cap rows'∧(U hv'→hv'=hv∧rows'=rows∧m'.map List.length=m.map List.length))∧(U st'→st'=st∧(⟨t',m'⟩:(t:T)×List (List t.den))=⟨t,m⟩)
 | .mat _ _ _ m _,.own _ _ xs' _=>∃ ob cap rows,γ u = .mat ob cap rows∧γ' u = .own ob cap∧xs'.length=m.length
 | _,_=>False
structure Le (U:Nat→Prop) (v:Za) (γ:Nat→Gh) (l:Lo) (v':Za) (γ':Nat→Gh) (l':Lo):Prop where
 v:v.le v'
 l:∀ u e',U u→lkE l' u=some e'→∃ e,lkE l u=some e∧CE U γ γ' u e.st e'.st e.x e'.x
theorem Zvo {α β:Type} {m:List (List α)} {m':List (List β)} (h:m'.map List.length=m.map List.length) {i:Nat} {r:List α} (hr:m[i]? = some r):∃ r',m'[i]? = some r'∧r'.length=r.length:=by
 have:=congrArg (·[i]?) h;simp only [List.getElem?_map,hr,Option.map_some] at this
 cases hm:m'[i]? with
 | none=>rw [hm] at this;cases this
 | some r'=>rw [hm] at this;exact ⟨r',rfl,Option.some.inj this⟩
section
variable {U:Nat→Prop} {v v':Za} {γ γ':Nat→Gh} {l l':Lo}
theorem Zms {u:Nat} {L L':LV} {st st':Nat} {y:Value} (h:ZSi γ u L y) (c:CE U γ γ' u st st' L L'):ZSi γ' u L' y:=by
 cases L <;> cases L' <;> simp only [CE] at c <;> simp only [ZSi] at h ⊢
 ·obtain ⟨h1,h2,h3,_⟩:=c;obtain ⟨ob,cap,h4,h5⟩:=h;exact ⟨ob,cap,by rw [h1,h4],by rw [h5,h3]⟩
 ·obtain ⟨ob,cap,rows,h1,h2,h3⟩:=c;obtain ⟨ob',cap',rows',h4,h5⟩:=h;rw [h1] at h4;cases h4;exact ⟨ob,cap,h2,by rw [h5,h3]⟩
 ·obtain ⟨h1,h2,⟨ob,cap,rows,rows',h3,h4,_⟩,_⟩:=c;obtain ⟨ob',cap',rows2,h5,h6⟩:=h;rw [h3] at h5;cases h5;exact ⟨ob,cap,rows',h4,by rw [h6,h2]⟩
theorem ZWq {u off:Nat} {L L':LV} {st st':Nat} {y:Value} (h:Zmh γ u off L y) (c:CE U γ γ' u st st' L L'):Zmh γ' u off L' y:=by
 cases L <;> cases L' <;> simp only [CE] at c <;> simp only [Zmh] at h ⊢
 obtain ⟨b,h1,h2⟩:=h;exact ⟨b,by rw [c,h1],h2⟩
theorem ZOq {u i cv:Nat} {t:T} {x:t.den} {off:Nat} {L L':LV} {st st':Nat} {y:Value} (hU:U cv) (h:okEl γ u i cv t x off st L y) (c:CE U γ γ' u st st' L L'):okEl γ' u i cv t x off st' L' y:=by
 cases L <;> cases L' <;> simp only [CE] at c <;> simp only [okEl] at h ⊢
 rename_i ty t1 xs fz ty' t2 xs' fz';obtain ⟨h1,h2,h3,h4⟩:=c;subst h2;obtain ⟨b,cap,h5,h6,h7,h8⟩:=h;refine ⟨b,cap,by rw [h1,h5],h6,by omega,fun e=>?_⟩;subst e;obtain ⟨e1,e2⟩:=h4 hU
 cases e2
 exact h8 e1.symm
theorem ZDq {u i cv:Nat} {t:T} {r:List t.den} {L L':LV} {st st':Nat} {y:Value} (hU:U cv) (h:okRp γ u i cv t r st L y) (c:CE U γ γ' u st st' L L'):okRp γ' u i cv t r st' L' y:=by
 cases L <;> cases L' <;> simp only [CE] at c <;> simp only [okRp] at h ⊢
 rename_i ty ty2 t1 m hv ty' ty2' t2 m' hv';obtain ⟨h2,h3,⟨ob,cap,rows,rows',g1,g2,_⟩,h4⟩:=c;subst h2;obtain ⟨b,cap',rw',h5,h6,h7,h8⟩:=h;rw [g1] at h5;cases h5;refine ⟨b,cap,rows',g2,h6,by omega,fun e=>?_⟩;subst e;obtain ⟨e1,e2⟩:=h4 hU
 cases e2
 exact h8 e1.symm
theorem ZXs {u i hv cv:Nat} {t:T} {r:List t.den} {L L':LV} {st st':Nat} {y:Value} (hH:U hv) (hU:U cv) (h:ZQi γ u i hv cv t r st L y) (c:CE U γ γ' u st st' L L'):ZQi γ' u i hv cv t r st' L' y:=by
 cases L <;> cases L' <;> simp only [CE] at c <;> simp only [ZQi] at h ⊢
 rename_i ty ty2 t1 m hv1 ty' ty2' t2 m' hv2;obtain ⟨h2,h3,⟨ob,cap,rows,rows',g1,g2,g3⟩,h4⟩:=c;subst h2;intro e;subst e;obtain ⟨e1,e2,e3⟩:=g3 hH;obtain ⟨ob',cap',rw',obi,capi,k1,k2,k3,⟨ri,k4,k5⟩,k6⟩:=h e1.symm;rw [g1] at k1;cases k1;subst e2;obtain ⟨r',q1,q2⟩:=Zvo e3 k4;refine ⟨ob,cap,_,obi,capi,g2,k2,k3,⟨r',q1,by omega⟩,fun e=>?_⟩;subst e;obtain ⟨f1,f2⟩:=h4 hU
 cases f2
 exact k6 f1.symm
theorem Zzq {u i j hv cv:Nat} {t:T} {r:List t.den} {x:t.den} {off:Nat} {L L':LV} {st st':Nat} {y:Value} (hH:U hv) (hU:U cv) (h:ZOi γ u i j hv cv t r x off st L y) (c:CE U γ γ' u st st' L L'):ZOi γ' u i j hv cv t r x off st' L' y:=by
 cases L <;> cases L' <;> simp only [CE] at c <;> simp only [ZOi] at h ⊢
 rename_i ty ty2 t1 m hv1 ty' ty2' t2 m' hv2;obtain ⟨h2,h3,⟨ob,cap,rows,rows',g1,g2,g3⟩,h4⟩:=c;subst h2;intro e;subst e;obtain ⟨e1,e2,e3⟩:=g3 hH;obtain ⟨ob',cap',rw',bi,capi,k1,k2,k3,⟨ri,k4,k5⟩,k6,k7⟩:=h e1.symm;rw [g1] at k1;cases k1;subst e2;obtain ⟨r',q1,q2⟩:=Zvo e3 k4;refine ⟨ob,cap,_,bi,capi,g2,k2,k3,⟨r',q1,by omega⟩,k6,fun e=>?_⟩;subst e;obtain ⟨f1,f2⟩:=h4 hU
 cases f2
 exact k7 f1.symm
theorem ZZa (h:Le U v γ l v' γ' l'):∀ {x:V} {m:Bool} {cs:List Value},x.ok U→RR v γ l m x cs→RR v' γ' l' m x cs:=by
 intro x
 induction x with
 | data t x=>intro m cs hk hr;cases m <;> first | exact Rep.mono _ h.v hr | exact hr
 | nilS=>intro m cs hk hr;cases m <;> first | exact hr | exact hr
 | own u =>
  intro m cs hk hr;cases m
  ·obtain ⟨y,h1,hp,h2⟩:=hr;refine ⟨y,h1,hp,fun e' he=>?_⟩;obtain ⟨e,h3,h4⟩:=h.l u e' hk he;exact Zms (h2 e h3) h4
  ·exact hr
 | row u i hv cv t r =>
  intro m cs hk hr;cases m
  ·obtain ⟨y,h1,hp,h2⟩:=hr;refine ⟨y,h1,hp,fun e' he=>?_⟩;obtain ⟨e,h3,h4⟩:=h.l u e' hk.1 he;exact ZXs hk.2.1 hk.2.2 (h2 e h3) h4
  ·exact hr
 | ptr u off =>
  intro m cs hk hr;cases m
  ·obtain ⟨y,h1,hp,h2⟩:=hr;refine ⟨y,h1,hp,fun e' he=>?_⟩;obtain ⟨e,h3,h4⟩:=h.l u e' hk he;exact ZWq (h2 e h3) h4
  ·exact hr
 | el u i cv t x off =>
  intro m cs hk hr;cases m
  ·obtain ⟨y,h1,hp,⟨c0,hc0⟩,h2⟩:=hr;refine ⟨y,h1,hp,⟨c0,Rep.mono _ h.v hc0⟩,fun e' he=>?_⟩;obtain ⟨e,h3,h4⟩:=h.l u e' hk.1 he;exact ZOq hk.2 (h2 e h3) h4
  ·exact hr
 | rp u i hv cv t r =>
  intro m cs hk hr;cases m
  ·obtain ⟨y,h1,hp,h2⟩:=hr;refine ⟨y,h1,hp,fun e' he=>?_⟩;obtain ⟨e,h3,h4⟩:=h.l u e' hk.1 he;exact ZDq hk.2.2 (h2 e h3) h4
  ·exact hr
 | rel u i j hv cv t r x off =>
  intro m cs hk hr;cases m
  ·obtain ⟨y,h1,hp,h2⟩:=hr;refine ⟨y,h1,hp,fun e' he=>?_⟩;obtain ⟨e,h3,h4⟩:=h.l u e' hk.1 he;exact Zzq hk.2.1 hk.2.2 (h2 e h3) h4
  ·exact hr
 | vp t x off =>
  intro m cs hk hr;cases m
  ·obtain ⟨b,o,c,h1,h2,h3⟩:=hr;exact ⟨b,o,c,At.mono h.v h1,Rep.mono _ h.v h2,h3⟩
  ·exact hr
 | nl=>intro m cs hk hr;cases m <;> first | exact hr | exact hr
 | cons a b ia ib =>
  intro m cs hk hr;cases m
  ·obtain ⟨c1,c2,h1,h2,h3⟩:=hr;exact ⟨c1,c2,h1,ia hk.1 h2,ib hk.2 h3⟩
  ·obtain ⟨c,xs,h1,h2,h3⟩:=hr;exact ⟨c,xs,h1,ia hk.1 h2,ib hk.2 h3⟩
 | agg c ih=>intro m cs hk hr;cases m <;> first | exact ih (m:=false) hk hr | exact hr
 | tup c ih=>intro m cs hk hr;cases m <;> first | exact hr | exact hr
 | fn f c ih =>
  intro m cs hk hr;cases m
  ·obtain ⟨vs,h1,h2⟩:=hr;exact ⟨vs,ih (m:=true) hk h1,h2⟩
  ·exact hr
 | ifc ty c ih =>
  intro m cs hk hr;cases m
  ·obtain ⟨vs,h1,h2⟩:=hr;exact ⟨vs,ih (m:=false) hk h1,h2⟩
  ·exact hr
 | undef=>intro m cs hk hr;cases m <;> first | exact hr | exact hr
theorem Zgb (h:Le U v γ l v' γ' l') {x:V} {y:Value} (hk:x.ok U) (hr:RV v γ l x y):RV v' γ' l' x y:=by
 cases x <;> simp only [RV] at hr ⊢ <;> obtain ⟨cs,h1,h2⟩:=hr <;> exact ⟨cs,ZZa h hk h1,h2⟩
end
end Go.Eng
namespace Go.Eng
open Go.RowKit
def F2 {α β:Type} (R:α→β→Prop):List α→List β→Prop
 | [],[]=>True
 | a :: l,b :: m=>R a b∧F2 R l m
 | _,_=>False
theorem F2.imp {α β:Type} {R R':α→β→Prop}:∀ {l:List α} {m:List β},(∀ a ∈ l,∀ b,R a b→R' a b)→F2 R l m→F2 R' l m
 | [],[],_,_=>trivial
 | a :: l,b :: m,h,k=>⟨h a (by simp) b k.1,F2.imp (fun x hx y=>h x (by simp [hx]) y) k.2⟩
 | [],_ :: _,_,k=>k.elim
 | _ :: _,[],_,k=>k.elim
def ZZ {α:Type}:List (Option Nat×Nat)→List (List α)→List Value
 | p :: ps,r :: rs=>.slice (mkA p.1) r.length p.2 :: ZZ ps rs
 | _,_=>[]
def Zrb (v:Za) (ty:TypeId) (t:T):List (Option Nat×Nat)→List (List t.den)→List Loc→Prop
 | [],[],es=>es=[]
 | p :: ps,r :: rs,es=>∃ cs es',t.rep.rels v cs r∧es = .own p.1 ty t.n r.length p.2 cs :: es'∧Zrb v ty t ps rs es'
 | _,_,_=>False
def ZBa (v:Za) (γ:Nat→Gh) (l:Lo) (e:En LV) (es:List Loc):Prop:=match e.x with
 | .box ty c=>∃ b cs,γ e.k = .box b∧RR v γ l false c cs∧cs.all plain=true∧es=[.box b ty cs]
 | .own ty t xs false=>∃ ob cap cs,γ e.k = .own ob cap∧t.rep.rels v cs xs∧es=[.own ob ty t.n xs.length cap cs]
 | .own _ t xs true=>∃ ob cap,γ e.k = .own ob cap∧(Zu t.rep).rel v [.slice (mkA ob) xs.length cap] xs∧es=[]
 | .mat ty ty2 t m _=>∃ ob cap rows es2,γ e.k = .mat ob cap rows∧Zrb v ty2 t rows m es2∧es = .own ob ty 1 m.length cap (ZZ rows m) :: es2
def LV.ok (U X:Nat→Prop):LV→Prop
 | .box _ c=>c.ok U
 | .own _ _ _ _=>True
 | .mat _ _ _ _ hv=>X hv
theorem LV.ok.mono {U U' X X':Nat→Prop} (h:∀ n,U n→U' n) (h':∀ n,X n→X' n) {L:LV} (k:L.ok U X):L.ok U' X':=by
 cases L
 ·exact V.ok.mono h k
 ·trivial
 ·exact h' _ k
structure RelX (N:Nat) (G:V→Value→Prop) (w0:Base) (v0:Za) (U X:Nat→Prop) (f:Fr) (l:Lo) (a:Act) (w:World) (γ:Nat→Gh) (v:Za) (ℓ:List Loc):Prop where
 st:St N w0 v0 [] ℓ v a w
 fr:∀ t e,lkE f t=some e→RV v γ l e.x (a.tmps.getD t undef)
 lr:∃ E,F2 (ZBa v γ l) l E∧ℓ.Perm E.flatten
 nd:(l.map En.k).Nodup
 uf:∀ t e,lkE f t=some e→e.x.ok U∧X e.st
 ul:∀ e ∈ l,X e.k∧X e.st∧e.x.ok U X
 gh:∀ x y,G x y→RV v γ l x y∧x.ok U
def Rel (N:Nat) (G:V→Value→Prop) (w0:Base) (v0:Za) (U:Nat→Prop) (f:Fr) (l:Lo) (a:Act) (w:World):Prop:=∃ γ v ℓ,RelX N G w0 v0 U U f l a w γ v ℓ
theorem ZD {β:Type}:∀ {l:List (En β)} {t:Nat} {e:En β},lkE l t=some e→e ∈ l∧e.k=t
 | [],_,_,h=>by cases h
 | p :: r,t,e,h=>by
  simp only [lkE] at h
  cases hb:Nat.beq p.k t
  ·rw [hb] at h;have:=ZD h;exact ⟨by simp [this.1],this.2⟩
  ·rw [hb] at h;cases h;exact ⟨by simp,Nat.eq_of_beq_eq_true hb⟩
theorem ZT {β:Type} {p:En β} {r:List (En β)} {t:Nat}:lkE (p :: r) t=if p.k=t then some p else lkE r t:=by
 simp only [lkE]
 cases hb:Nat.beq p.k t
 ·rw [if_neg (fun e=>by rw [e] at hb;simp at hb)]
 ·rw [if_pos (Nat.eq_of_beq_eq_true hb)]
theorem ZEi {β:Type} {p:En β} {r:List (En β)} {t:Nat}:era (p :: r) t=if p.k=t then r else p :: era r t:=by
 simp only [era]
 cases hb:Nat.beq p.k t
 ·rw [if_neg (fun e=>by rw [e] at hb;simp at hb)]
 ·rw [if_pos (Nat.eq_of_beq_eq_true hb)]
theorem Zkg {β:Type} {l:List (En β)} {t:Nat}:∀ e ∈ era l t,e ∈ l:=by
 induction l with
 | nil=>intro e h;cases h
 | cons p r ih =>
  intro e h;rw [ZEi] at h;split at h
  ·simp [h]
  ·rcases List.mem_cons.1 h with h | h
   ·simp [h]
   ·simp [ih e h]
theorem Zqb {β:Type} {l:List (En β)} {t:Nat} (h:(l.map En.k).Nodup):((era l t).map En.k).Nodup∧t ∉ (era l t).map En.k:=by
 induction l with
 | nil=>simp [era]
 | cons p r ih =>
  simp only [List.map_cons,List.nodup_cons] at h;rw [ZEi];split
  ·rename_i hp;subst hp;exact ⟨h.2,h.1⟩
  ·rename_i hp;obtain ⟨i1,i2⟩:=ih h.2;refine ⟨?_,?_⟩
   ·simp only [List.map_cons,List.nodup_cons];refine ⟨fun hm=>h.1 ?_,i1⟩;obtain ⟨e,he,hk⟩:=List.mem_map.1 hm;exact List.mem_map.2 ⟨e,Zkg e he,hk⟩
   ·simp only [List.map_cons,List.mem_cons,not_or];exact ⟨fun e=>hp e.symm,i2⟩
theorem Z6h {β:Type} {l:List (En β)} {t:Nat} (h:t ∉ l.map En.k):lkE l t=none:=by
 cases hl:lkE l t with
 | none=>rfl
 | some e=>have:=ZD hl;exact absurd (List.mem_map.2 ⟨e,this.1,this.2⟩) h
theorem Z6g {β:Type} {l:List (En β)} {t:Nat} (h:lkE l t=none):t ∉ l.map En.k:=by
 induction l with
 | nil=>simp
 | cons p r ih =>
  rw [ZT] at h;split at h
  ·cases h
  ·rename_i hp;simp only [List.map_cons,List.mem_cons,not_or];exact ⟨fun e=>hp e.symm,ih h⟩
theorem Zgc {β:Type} {l:List (En β)} {t u:Nat} (h:(l.map En.k).Nodup):lkE (era l t) u=if t=u then none else lkE l u:=by
 split
 ·rename_i e;subst e;exact Z6h (Zqb h).2
 ·rename_i hne
  induction l with
  | nil=>rfl
  | cons p r ih =>
   simp only [List.map_cons,List.nodup_cons] at h;rw [ZEi];split
   ·rename_i hp;rw [ZT,if_neg (by omega)]
   ·rw [ZT,ZT];split
    ·rfl
    ·exact ih h.2
theorem Z5f {R:En LV→List Loc→Prop}:∀ {l:Lo} {E:List (List Loc)} {u:Nat} {e:En LV},F2 R l E→lkE l u=some e→∃ es E',R e es∧F2 R (era l u) E'∧E.flatten.Perm (es++E'.flatten)
 | [],_,_,_,_,h=>by cases h
 | p :: r,[],_,_,hf,_=>hf.elim
 | p :: r,es :: E,u,e,hf,h=>by
  rw [ZT] at h
  rw [ZEi]
  split at h
  ·rename_i hp;cases h;rw [if_pos hp];exact ⟨es,E,hf.1,hf.2,List.Perm.refl _⟩
  ·rename_i hp
   rw [if_neg hp]
   obtain ⟨es',E',h1,h2,h3⟩:=Z5f hf.2 h
   refine ⟨es',es :: E',h1,⟨hf.1,h2⟩,?_⟩
   simp only [List.flatten_cons]
   exact ((List.Perm.append_left es h3).trans (by rw [← List.append_assoc,← List.append_assoc];exact List.Perm.append_right _ List.perm_append_comm))
theorem St.perm {K:Nat} {w0:Base} {v0:Za} {σ:List (Nat×Value)} {ℓ ℓ':List Loc} {v:Za} {a:Act} {w:World} (h:St K w0 v0 σ ℓ v a w) (p:ℓ.Perm ℓ'):St K w0 v0 σ ℓ' v a w :=
 ⟨h.size,h.dfr,h.fr,h.ext,h.vst,fun e he=>h.loc e (p.mem_iff.2 he),(p.filterMap _).nodup_iff.1 h.nd⟩
section
variable {U:Nat→Prop} {v v':Za} {γ γ':Nat→Gh} {l l':Lo}
theorem ZOg (h:v.le v') {ty:TypeId} {t:T}:∀ {rows:List (Option Nat×Nat)} {m:List (List t.den)} {es:List Loc},Zrb v ty t rows m es→Zrb v' ty t rows m es
 | [],[],_,k=>k
 | _ :: _,_ :: _,_,⟨cs,es',h1,h2,h3⟩=>⟨cs,es',ZN h h1,h2,ZOg h h3⟩
 | [],_ :: _,_,k=>k.elim
 | _ :: _,[],_,k=>k.elim
theorem Zko {ty:TypeId} {t:T}:∀ {rows:List (Option Nat×Nat)} {m:List (List t.den)} {es:List Loc},Zrb v ty t rows m es→rows.length=m.length
 | [],[],_,_=>rfl
 | _ :: _,_ :: _,_,⟨_,_,_,_,h3⟩=>by simp [Zko h3]
 | [],_ :: _,_,k=>k.elim
 | _ :: _,[],_,k=>k.elim
theorem ZKg {X:Nat→Prop} (h:Le U v γ l v' γ' l') {e:En LV} {es:List Loc} (hk:e.x.ok U X) (hg:γ' e.k=γ e.k) (r:ZBa v γ l e es):ZBa v' γ' l' e es:=by
 obtain ⟨k,st,x⟩:=e
 cases x with
 | box ty c =>
  obtain ⟨b,cs,h1,h2,h3,h4⟩:=r;exact ⟨b,cs,by rw [hg];exact h1,ZZa h hk h2,h3,h4⟩
 | own ty t xs fz =>
  cases fz with
  | false=>obtain ⟨ob,cap,cs,h1,h2,h3⟩:=r;exact ⟨ob,cap,cs,by rw [hg];exact h1,ZN h.v h2,h3⟩
  | true=>obtain ⟨ob,cap,h1,h2,h3⟩:=r;exact ⟨ob,cap,by rw [hg];exact h1,Rep.mono _ h.v h2,h3⟩
 | mat ty ty2 t m hv =>
  obtain ⟨ob,cap,rows,es2,h1,h2,h3⟩:=r;exact ⟨ob,cap,rows,es2,by rw [hg];exact h1,ZOg h.v h2,h3⟩
theorem ZIg {e:En LV} {es:List Loc} (r:ZBa v γ l e es) (hg:γ' e.k=γ e.k):CE U γ γ' e.k e.st e.st e.x e.x:=by
 obtain ⟨k,st,x⟩:=e
 cases x with
 | box ty c=>exact hg
 | own ty t xs fz=>exact ⟨hg,rfl,rfl,fun _=>⟨rfl,rfl⟩⟩
 | mat ty ty2 t m hv =>
  obtain ⟨ob,cap,rows,es2,h1,_⟩:=r;exact ⟨rfl,rfl,⟨ob,cap,rows,rows,h1,by rw [hg];exact h1,fun _=>⟨rfl,rfl,rfl⟩⟩,fun _=>⟨rfl,rfl⟩⟩
theorem ZPd {R:En LV→List Loc→Prop}:∀ {l:Lo} {E:List (List Loc)} {e:En LV},F2 R l E→e ∈ l→∃ es,R e es
 | [],_,_,_,h=>by cases h
 | _ :: _,[],_,hf,_=>hf.elim
 | p :: r,es :: E,e,hf,h=>by
  rcases List.mem_cons.1 h with rfl | h
  ·exact ⟨es,hf.1⟩
  ·exact ZPd hf.2 h
theorem Le.refl {E:List (List Loc)} (h:F2 (ZBa v γ l) l E) (hv:v.le v'):Le U v γ l v' γ l :=
 ⟨hv,fun u e' _ he=>⟨e',he,by
  obtain ⟨hm,hk⟩:=ZD he
  obtain ⟨es,hr⟩:=ZPd h hm
  have:=ZIg (U:=U) hr (rfl:γ e'.k=γ e'.k)
  rw [hk] at this;exact this⟩⟩
end
section
variable {N:Nat} {G:V→Value→Prop} {w0:Base} {v0:Za} {U X:Nat→Prop} {f:Fr} {l:Lo} {a:Act} {w:World} {γ:Nat→Gh} {v:Za} {ℓ:List Loc}
theorem RelX.upd (h:RelX N G w0 v0 U X f l a w γ v ℓ) {u n:Nat} {L':LV} {γ':Nat→Gh} {v':Za} {w':World} {ℓ':List Loc} {es':List Loc} {E':List (List Loc)}
  (hn:X n) (huU:X u) (hE:F2 (ZBa v γ l) (era l u) E') (hst:St N w0 v0 [] ℓ' v' a w') (hle:Le U v γ l v' γ' (⟨u,n,L'⟩ :: era l u)) (hg:∀ k,k≠u→γ' k=γ k)
  (hl:ZBa v' γ' (⟨u,n,L'⟩ :: era l u) ⟨u,n,L'⟩ es') (hp:ℓ'.Perm (es'++E'.flatten)) (hok:L'.ok U X):RelX N G w0 v0 U X f (⟨u,n,L'⟩ :: era l u) a w' γ' v' ℓ':=by
 obtain ⟨n1,n2⟩:=Zqb (t:=u) h.nd;refine ⟨hst,fun t e he=>Zgb hle (h.uf t e he).1 (h.fr t e he),⟨es' :: E',⟨hl,hE.imp fun e he es hr=>?_⟩,hp⟩,?_,h.uf,fun e he=>?_,fun x y hg=>⟨Zgb hle (h.gh x y hg).2 (h.gh x y hg).1,(h.gh x y hg).2⟩⟩
 ·refine ZKg hle (h.ul e (Zkg e he)).2.2 (hg _ fun hk=>n2 ?_) hr;exact List.mem_map.2 ⟨e,he,hk⟩
 ·simp only [List.map_cons,List.nodup_cons];exact ⟨n2,n1⟩
 ·rcases List.mem_cons.1 he with rfl | he
  ·exact ⟨huU,hn,hok⟩
  ·exact h.ul e (Zkg e he)
theorem RelX.new (h:RelX N G w0 v0 U X f l a w γ v ℓ) {u n:Nat} {L':LV} {γ':Nat→Gh} {v':Za} {w':World} {ℓ':List Loc} {es':List Loc} {E':List (List Loc)}
  (hn:X n) (huU:X u) (hfresh:¬ U u) (hnew:lkE l u=none) (hE:F2 (ZBa v γ l) l E') (hst:St N w0 v0 [] ℓ' v' a w') (hv:v.le v') (hg:∀ k,k≠u→γ' k=γ k)
  (hl:ZBa v' γ' (⟨u,n,L'⟩ :: l) ⟨u,n,L'⟩ es') (hp:ℓ'.Perm (es'++E'.flatten)) (hok:L'.ok U X):RelX N G w0 v0 U X f (⟨u,n,L'⟩ :: l) a w' γ' v' ℓ':=by
 have hkey:∀ e ∈ l,e.k≠u:=fun e he hk=>Z6g hnew (List.mem_map.2 ⟨e,he,hk⟩);have hle:Le U v γ l v' γ' (⟨u,n,L'⟩ :: l):=⟨hv,fun k e' hk he=>by
  have hne:u≠k:=fun e=>hfresh (e ▸ hk);rw [ZT,if_neg hne] at he;refine ⟨e',he,?_⟩;obtain ⟨hm,hk'⟩:=ZD he;obtain ⟨es,hr⟩:=ZPd hE hm;have:=ZIg (U:=U) (γ':=γ') hr (hg _ (by rw [hk'];exact fun e=>hne e.symm));rw [hk'] at this;exact this⟩
 refine ⟨hst,fun t e he=>Zgb hle (h.uf t e he).1 (h.fr t e he),⟨es' :: E',⟨hl,hE.imp fun e he es hr=>?_⟩,hp⟩,?_,h.uf,fun e he=>?_,fun x y hg=>⟨Zgb hle (h.gh x y hg).2 (h.gh x y hg).1,(h.gh x y hg).2⟩⟩
 ·exact ZKg hle (h.ul e he).2.2 (hg _ (hkey e he)) hr
 ·simp only [List.map_cons,List.nodup_cons];refine ⟨fun hm=>?_,h.nd⟩;obtain ⟨e,he,hk⟩:=List.mem_map.1 hm;exact hkey e he hk
 ·rcases List.mem_cons.1 he with rfl | he
  ·exact ⟨huU,hn,hok⟩
  ·exact h.ul e he
theorem Le.era (h:RelX N G w0 v0 U X f l a w γ v ℓ) (u:Nat):Le U v γ l v γ (era l u):=by
 obtain ⟨E,hE,_⟩:=h.lr;refine ⟨Za.le_refl _,fun k e' _ he=>?_⟩;rw [Zgc h.nd] at he;split at he
 ·cases he
 ·refine ⟨e',he,?_⟩;obtain ⟨hm,hk'⟩:=ZD he;obtain ⟨es,hr⟩:=ZPd hE hm;have:=ZIg (U:=U) (γ':=γ) hr rfl;rw [hk'] at this;exact this
theorem RelX.del (h:RelX N G w0 v0 U X f l a w γ v ℓ) {u:Nat} {e:En LV} (hu:lkE l u=some e):∃ es E',ZBa v γ l e es∧F2 (ZBa v γ l) (era l u) E'∧F2 (ZBa v γ (era l u)) (era l u) E'∧ℓ.Perm (es++E'.flatten)∧RelX N G w0 v0 U X f (era l u) a w γ v E'.flatten:=by
 obtain ⟨E,hE,hp⟩:=h.lr;obtain ⟨es,E',h1,h2,h3⟩:=Z5f hE hu;have hle:=Le.era h u;have h4:F2 (ZBa v γ (era l u)) (era l u) E':=h2.imp fun e he es hr=>ZKg hle (h.ul e (Zkg e he)).2.2 rfl hr;exact ⟨es,E',h1,h2,h4,hp.trans h3,(h.st.perm (hp.trans h3)).drop (List.sublist_append_right _ _),fun t e he=>Zgb hle (h.uf t e he).1 (h.fr t e he),⟨E',h4,List.Perm.refl _⟩,(Zqb h.nd).1,h.uf,fun e he=>h.ul e (Zkg e he),fun x y hg=>⟨Zgb hle (h.gh x y hg).2 (h.gh x y hg).1,(h.gh x y hg).2⟩⟩
theorem RelX.put (h:RelX N G w0 v0 U X f l a w γ v ℓ) {d n:Nat} {x:V} {y:Value} (hd:d<N) (hr:RV v γ l x y) (hx:x.ok U) (hn:X n):RelX N G w0 v0 U X (⟨d,n,x⟩ :: f) l (a.put (some d) y) w γ v ℓ:=by
 have hs:=h.st.put y hd;refine ⟨⟨hs.size,hs.dfr,fun t x e=>(by cases e),hs.ext,hs.vst,hs.loc,hs.nd⟩,fun t e he=>?_,h.lr,h.nd,fun t e he=>?_,h.ul,h.gh⟩
 ·rw [ZT] at he;split at he
  ·rename_i hdt
   cases he
   have hdt':d=t:=hdt;subst hdt';have:=hs.fr d y (ZVd rfl);rw [this];exact hr
  ·rename_i hdt;have:=h.fr t e he;have e2:(a.put (some d) y).tmps.getD t undef=a.tmps.getD t undef:=by
    have hdt':¬ d=t:=hdt;simp [Act.put,Array.getElem?_setIfInBounds_ne hdt']
   rw [e2];exact this
 ·rw [ZT] at he;split at he
  ·cases he;exact ⟨hx,hn⟩
  ·exact h.uf t e he
theorem RelX.mono {U' X':Nat→Prop} (h:RelX N G w0 v0 U X f l a w γ v ℓ) (hU:∀ k,U k→U' k) (hX:∀ k,X k→X' k):RelX N G w0 v0 U' X' f l a w γ v ℓ :=
 ⟨h.st,h.fr,h.lr,h.nd,fun t e he=>⟨V.ok.mono hU (h.uf t e he).1,hX _ (h.uf t e he).2⟩,fun e he=>⟨hX _ (h.ul e he).1,hX _ (h.ul e he).2.1,LV.ok.mono hU hX (h.ul e he).2.2⟩,fun x y hg=>⟨(h.gh x y hg).1,V.ok.mono hU (h.gh x y hg).2⟩⟩
end
end Go.Eng
namespace Go.Eng
open Go.RowKit
theorem leaf_n:∀ i,(Zfl i).n=(T.leaf i).n
 | 0 | 1 | 2 | 3 | 4 | _+5=>rfl
theorem ZBq:∀ i,(Zfl i).agg=(T.leaf i).agg
 | 0 | 1 | 2 | 3 | 4 | _+5=>rfl
theorem ZR:∀ t:T,t.rep.n=t.n
 | .int _ | .bool | .flt _ | .str | .slice _=>rfl
 | .one a=>ZR a
 | .pair a b=>by show a.rep.n+b.rep.n=a.n+b.n;rw [ZR a,ZR b]
 | .leaf i=>leaf_n i
theorem Z6n:∀ t:T,t.rep.agg=t.agg
 | .int _ | .bool | .flt _ | .str | .slice _ | .one _ | .pair _ _=>rfl
 | .leaf i=>ZBq i
theorem ZWe (t:T) (x:t.den) (cs:List Value):(V.data t x).val cs=t.rep.val cs:=by
 unfold V.val Rep.val;rw [Z6n];rfl
section
variable {v:Za} {γ:Nat→Gh} {l:Lo} {U:Nat→Prop}
theorem ZNc:∀ {x:V} {cs:List Value},RR v γ l false x cs→cs.length=x.size:=by
 intro x
 induction x with
 | data t x=>intro cs h;exact (Rep.len _ h).trans (ZR t)
 | nilS=>intro cs h;rw [show cs=_ from h];rfl
 | own u=>intro cs h;obtain ⟨y,rfl,_⟩:=h;rfl
 | row u i hv cv t r=>intro cs h;obtain ⟨y,rfl,_⟩:=h;rfl
 | ptr u off=>intro cs h;obtain ⟨y,rfl,_⟩:=h;rfl
 | el u i cv t x off=>intro cs h;obtain ⟨y,rfl,_⟩:=h;rfl
 | rp u i hv cv t r=>intro cs h;obtain ⟨y,rfl,_⟩:=h;rfl
 | rel u i j hv cv t r x off=>intro cs h;obtain ⟨y,rfl,_⟩:=h;rfl
 | vp t x off=>intro cs h;obtain ⟨b,o,c,_,_,rfl⟩:=h;rfl
 | nl=>intro cs h;rw [show cs=_ from h];rfl
 | cons a b ia ib=>intro cs h;obtain ⟨c1,c2,rfl,h1,h2⟩:=h;rw [List.length_append,ia h1,ib h2];rfl
 | agg c ih=>intro cs h;exact ih h
 | tup c ih=>intro cs h;exact h.elim
 | fn f c ih=>intro cs h;obtain ⟨vs,_,rfl⟩:=h;rfl
 | ifc ty c ih=>intro cs h;obtain ⟨vs,_,rfl⟩:=h;rfl
 | undef=>intro cs h;rw [show cs=_ from h];rfl
theorem Zns:∀ {x:V} {cs:List Value},x.plain=true→RR v γ l false x cs→cs.all plain=true:=by
 intro x
 induction x with
 | data t x=>intro cs _ h;exact Rep.flat _ h
 | nilS=>intro cs _ h;rw [show cs=_ from h];rfl
 | own u=>intro cs _ h;obtain ⟨y,rfl,hp,_⟩:=h;simp [hp]
 | row u i hv cv t r=>intro cs _ h;obtain ⟨y,rfl,hp,_⟩:=h;simp [hp]
 | ptr u off=>intro cs _ h;obtain ⟨y,rfl,hp,_⟩:=h;simp [hp]
 | el u i cv t x off=>intro cs _ h;obtain ⟨y,rfl,hp,_⟩:=h;simp [hp]
 | rp u i hv cv t r=>intro cs _ h;obtain ⟨y,rfl,hp,_⟩:=h;simp [hp]
 | rel u i j hv cv t r x off=>intro cs _ h;obtain ⟨y,rfl,hp,_⟩:=h;simp [hp]
 | vp t x off=>intro cs _ h;obtain ⟨b,o,c,_,_,rfl⟩:=h;rfl
 | nl=>intro cs _ h;rw [show cs=_ from h];rfl
 | cons a b ia ib =>
  intro cs hp h;obtain ⟨c1,c2,rfl,h1,h2⟩:=h;simp only [V.plain] at hp
  cases ha:a.plain
  ·rw [ha] at hp;cases hp
  ·rw [ha] at hp;rw [List.all_append,ia ha h1,ib hp h2];rfl
 | agg c ih=>intro cs hp h;exact ih hp h
 | tup c ih=>intro cs _ h;exact h.elim
 | fn f c ih=>intro cs _ h;obtain ⟨vs,_,rfl⟩:=h;rfl
 | ifc ty c ih=>intro cs _ h;obtain ⟨vs,_,rfl⟩:=h;rfl
 | undef=>intro cs hp _;cases hp
theorem ZNk {a b:Bool} (h:eqB a b=true):a=b:=by cases a <;> cases b <;> first | rfl | cases h
theorem Zof {x:V} {cs:List Value} (h:RR v γ l false x cs) (hs:x.size=1) (ha:x.isAgg=false):cs=[x.val cs]:=by
 have h1:=ZNc h;rw [hs] at h1;obtain ⟨y,rfl⟩:=List.length_eq_one_iff.1 h1;unfold V.val;rw [ha];rfl
theorem Zep:∀ {t:T} {x:t.den} {cs:List Value},t.rep.rel v cs x→RR v γ l false (Zdh t x) cs∧(Zdh t x).ok U:=by
 intro t
 induction t with
 | pair a b ia ib =>
  intro x cs h;obtain ⟨c1,c2,rfl,h1,h2⟩:=h;exact ⟨⟨c1,c2,rfl,h1,(ib h2).1⟩,trivial,(ib (x:=x.2) h2).2⟩
 | _=>intro x cs h;exact ⟨⟨cs,[],by simp,h,rfl⟩,trivial,trivial⟩
theorem Z2j {t:T} {x:t.den} {c:V} {cs:List Value} (h:Zed t x=some c) (hr:t.rep.rel v cs x):RR v γ l false c cs∧c.ok U:=by
 unfold Zed at h;split at h
 ·cases h;exact Zep hr
 ·cases h;exact ⟨⟨cs,[],by simp,hr,rfl⟩,trivial,trivial⟩
 ·rename_i i
  cases h
  have hr':Zfc.rel v cs i:=hr;obtain ⟨s,q,n,k,rfl⟩:=Z0i hr';obtain ⟨rfl,h2⟩:=ZVp hr';exact ⟨⟨[_],[_],rfl,rfl,[_],[],rfl,h2,rfl⟩,trivial,trivial,trivial⟩
 ·rename_i q
  cases h
  have hr':Z4d.rel v cs q:=hr;obtain ⟨s,q1,n,k,q2,n2,k2,rfl⟩:=Zir hr';obtain ⟨h1,h2⟩:=Zzr hr';exact ⟨⟨[_,_],[_],rfl,h1,[_],[],rfl,h2,rfl⟩,trivial,trivial,trivial⟩
 ·rename_i q
  cases h
  have hr':rQ.rel v cs q:=hr;obtain ⟨s,q1,n,k,q2,n2,k2,rfl⟩:=Zyr hr';obtain ⟨rfl,h1,h2⟩:=rQ_open hr';exact ⟨⟨[_],[_,_],rfl,rfl,[_],[_],rfl,h1,[_],[],rfl,h2,rfl⟩,trivial,trivial,trivial,trivial⟩
 ·cases h
theorem Zfm {t:T} {x:t.den} {c:V} {cs:List Value} (h:Zjb t x=some c) (hr:t.rep.rel v cs x):RR v γ l false c cs∧c.ok U:=by
 unfold Zjb at h;split at h
 ·cases h
  obtain ⟨c1,c2,rfl,h1,h2⟩:=hr;exact ⟨⟨c1,c2,rfl,h1,c2,[],by simp,h2,rfl⟩,trivial,trivial,trivial⟩
 ·exact Z2j h hr
theorem ZEq {t:T} {x:t.den} {c:V} (h:Zjb t x=some c):t.agg=true:=by
 unfold Zjb at h;split at h
 ·rfl
 ·unfold Zed at h;split at h <;> first | rfl | cases h
theorem Z0c:∀ (g:Nat) {x z:V} {off n:Nat} {ag:Bool} {cs:List Value},Zea g x off n ag=some z→RR v γ l false x cs→x.ok U →
  RR v γ l false z ((cs.drop off).take n)∧z.ok U∧z.size=n∧z.isAgg=ag∧off+n≤cs.length
 | 0,_,_,_,_,_,_,h,_,_=>by cases h
 | g+1,x,z,off,n,ag,cs,h,hr,hk=>by
  have whole:∀ {y:V},(match Nat.beq off 0,Nat.beq y.size n,eqB y.isAgg ag with
    | true,true,true=>some y
    | _,_,_=>match y with
     | .agg c=>Zea g c off n ag
     | .data t x=>match Zjb t x with
      | some c=>Zea g c off n ag
      | none=>none
     | _=>none)=some z→RR v γ l false y cs→y.ok U→RR v γ l false z ((cs.drop off).take n)∧z.ok U∧z.size=n∧z.isAgg=ag∧off+n≤cs.length:=by
   intro y hy hr hk;split at hy
   ·rename_i h1 h2 h3
    cases hy
    have h1:=Nat.eq_of_beq_eq_true h1;have h2:=Nat.eq_of_beq_eq_true h2;have hl:=ZNc hr;subst h1;refine ⟨?_,hk,h2,ZNk h3,by omega⟩;rw [List.drop_zero,List.take_of_length_le (by omega)];exact hr
   ·split at hy
    ·exact Z0c g hy hr hk
    ·split at hy
     ·rename_i he;obtain ⟨h1,h2⟩:=Zfm (U:=U) he hr;exact Z0c g hy h1 h2
     ·cases hy
    ·cases hy
  cases x with
  | nl=>simp only [Zea] at h;cases h
  | cons a b =>
   simp only [Zea] at h;obtain ⟨c1,c2,rfl,h1,h2⟩:=hr;have l1:=ZNc h1;split at h
   ·rename_i hb;have hb:=Nat.le_of_ble_eq_true hb;obtain ⟨k1,k2,k3,k4,k5⟩:=Z0c g h h1 hk.1;refine ⟨?_,k2,k3,k4,by rw [List.length_append];omega⟩;rw [List.drop_append_of_le_length (by omega),List.take_append_of_le_length (by rw [List.length_drop];omega)];exact k1
   ·split at h
    ·rename_i hb;have hb:=Nat.le_of_ble_eq_true hb;obtain ⟨k1,k2,k3,k4,k5⟩:=Z0c g h h2 hk.2;refine ⟨?_,k2,k3,k4,by rw [List.length_append];omega⟩;rw [List.drop_append,List.drop_of_length_le (by omega),List.nil_append,l1];exact k1
    ·cases h
  | data t x=>exact whole (y:=.data t x) h hr hk
  | agg c=>exact whole (y:=.agg c) h hr hk
  | nilS=>exact whole (y:=.nilS) h hr hk
  | own u=>exact whole (y:=.own u) h hr hk
  | row u i hv cv t r=>exact whole (y:=.row u i hv cv t r) h hr hk
  | ptr u o=>exact whole (y:=.ptr u o) h hr hk
  | el u i cv t x o=>exact whole (y:=.el u i cv t x o) h hr hk
  | rp u i hv cv t r=>exact whole (y:=.rp u i hv cv t r) h hr hk
  | rel u i j hv cv t r x o=>exact whole (y:=.rel u i j hv cv t r x o) h hr hk
  | vp t x o=>exact whole (y:=.vp t x o) h hr hk
  | tup c=>exact whole (y:=.tup c) h hr hk
  | fn f c=>exact whole (y:=.fn f c) h hr hk
  | ifc f c=>exact whole (y:=.ifc f c) h hr hk
  | undef=>exact whole (y:=.undef) h hr hk
theorem ZKd:∀ (g:Nat) {x z x':V} {off:Nat} {cs cz:List Value},ZMa g x off z=some x'→RR v γ l false x cs→RR v γ l false z cz→x.ok U→z.ok U →
  RR v γ l false x' (cs.take off++cz++cs.drop (off+cz.length))∧x'.ok U∧off+cz.length≤cs.length∧x'.isAgg=x.isAgg
 | 0,_,_,_,_,_,_,h,_,_,_,_=>by cases h
 | g+1,x,z,x',off,cs,cz,h,hr,hz,hk,hkz=>by
  have lz:=ZNc hz
  have whole:∀ {y:V},y.isAgg=x.isAgg→(match Nat.beq off 0,Nat.beq y.size z.size,eqB y.isAgg z.isAgg with
    | true,true,true=>some z
    | _,_,_=>match y with
     | .agg c=>match ZMa g c off z with
      | some c'=>some (.agg c')
      | none=>none
     | .data t x=>match Zjb t x with
      | some c=>match ZMa g c off z with
       | some c'=>some (.agg c')
       | none=>none
      | none=>none
     | _=>none)=some x'→(∀ t x,y = .data t x→∀ c,Zjb t x=some c→t.agg=true)→RR v γ l false y cs→y.ok U→RR v γ l false x' (cs.take off++cz++cs.drop (off+cz.length))∧x'.ok U∧off+cz.length≤cs.length∧x'.isAgg=x.isAgg:=by
   intro y hya hy hex hr hk;split at hy
   ·rename_i h1 h2 h3
    cases hy
    have h1:=Nat.eq_of_beq_eq_true h1;have h2:=Nat.eq_of_beq_eq_true h2;have hl:=ZNc hr;subst h1;refine ⟨?_,hkz,by omega,(ZNk h3).symm.trans hya⟩;rw [List.take_zero,List.nil_append,List.drop_of_length_le (by omega),List.append_nil];exact hz
   ·split at hy
    ·split at hy
     ·rename_i he
      cases hy
      obtain ⟨k1,k2,k3,k4⟩:=ZKd g he hr hz hk hkz;exact ⟨k1,k2,k3,hya⟩
     ·cases hy
    ·rename_i t xx _;split at hy
     ·rename_i c hc;split at hy
      ·rename_i he
       cases hy
       obtain ⟨h1,h2⟩:=Zfm (U:=U) hc hr;obtain ⟨k1,k2,k3,k4⟩:=ZKd g he h1 hz h2 hkz;exact ⟨k1,k2,k3,(hex t xx rfl _ hc).symm.trans hya⟩
      ·cases hy
     ·cases hy
    ·cases hy
  have noex:∀ {y:V},(∀ t x,y ≠ .data t x)→(∀ t x,y = .data t x→∀ c,Zjb t x=some c→t.agg=true):=fun h t x e=>absurd e (h t x)
  cases x with
  | nl=>simp only [ZMa] at h;cases h
  | cons a b =>
   simp only [ZMa] at h;obtain ⟨c1,c2,rfl,h1,h2⟩:=hr;have l1:=ZNc h1;split at h
   ·rename_i hb;have hb:=Nat.le_of_ble_eq_true hb;split at h
    ·rename_i he
     cases h
     obtain ⟨k1,k2,k3,k4⟩:=ZKd g he h1 hz hk.1 hkz;refine ⟨⟨_,c2,?_,k1,h2⟩,⟨k2,hk.2⟩,by rw [List.length_append];omega,rfl⟩;rw [List.take_append_of_le_length (by omega),List.drop_append_of_le_length (by omega)];simp
    ·cases h
   ·split at h
    ·rename_i hb;have hb:=Nat.le_of_ble_eq_true hb;split at h
     ·rename_i he
      cases h
      obtain ⟨k1,k2,k3,k4⟩:=ZKd g he h2 hz hk.2 hkz;refine ⟨⟨c1,_,?_,h1,k1⟩,⟨hk.1,k2⟩,by rw [List.length_append];omega,rfl⟩;rw [List.take_append,List.take_of_length_le (by omega),List.drop_append,List.drop_of_length_le (by omega),l1];rw [show off+cz.length-a.size=off-a.size+cz.length by omega];simp
     ·cases h
    ·cases h
  | data t xx=>exact whole (y:=.data t xx) rfl h (fun t x e c hc=>by
    cases e
    exact ZEq hc) hr hk
  | agg c=>exact whole (y:=.agg c) rfl h (noex fun _ _ e=>by cases e) hr hk
  | nilS=>exact whole (y:=.nilS) rfl h (noex fun _ _ e=>by cases e) hr hk
  | own u=>exact whole (y:=.own u) rfl h (noex fun _ _ e=>by cases e) hr hk
  | row u i hv cv t r=>exact whole (y:=.row u i hv cv t r) rfl h (noex fun _ _ e=>by cases e) hr hk
  | ptr u o=>exact whole (y:=.ptr u o) rfl h (noex fun _ _ e=>by cases e) hr hk
  | el u i cv t x o=>exact whole (y:=.el u i cv t x o) rfl h (noex fun _ _ e=>by cases e) hr hk
  | rp u i hv cv t r=>exact whole (y:=.rp u i hv cv t r) rfl h (noex fun _ _ e=>by cases e) hr hk
  | rel u i j hv cv t r x o=>exact whole (y:=.rel u i j hv cv t r x o) rfl h (noex fun _ _ e=>by cases e) hr hk
  | vp t x o=>exact whole (y:=.vp t x o) rfl h (noex fun _ _ e=>by cases e) hr hk
  | tup c=>exact whole (y:=.tup c) rfl h (noex fun _ _ e=>by cases e) hr hk
  | fn f c=>exact whole (y:=.fn f c) rfl h (noex fun _ _ e=>by cases e) hr hk
  | ifc f c=>exact whole (y:=.ifc f c) rfl h (noex fun _ _ e=>by cases e) hr hk
  | undef=>exact whole (y:=.undef) rfl h (noex fun _ _ e=>by cases e) hr hk
end
end Go.Eng
namespace Go.Eng
open Go.RowKit
def Zn {ρ:Type} (n:Nat):Ev ρ→Fr→Lo→(ρ→Fr→Lo→Prop)→Prop
 | .fail,_,_,_=>False
 | .done r,f,l,K=>K r f l
 | .rdS t k,f,l,K=>∃ e,lkE f t=some e∧Zn n (k e.x) f l K
 | .rdL u k,f,l,K=>∃ e,lkE l u=some e∧Zn n (k e.st e.x) f l K
 | .wrS t x e,f,l,K=>Zn n e (⟨t,n,x⟩ :: f) l K
 | .wrL u L e,f,l,K=>Zn n e f (⟨u,n,L⟩ :: era l u) K
 | .new u L e,f,l,K=>lkE l u=none∧Zn n e f (⟨u,n,L⟩ :: l) K
 | .del u e,f,l,K=>Zn n e f (era l u) K
 | .bind x k,f,l,K=>∃ y,x=some y∧Zn n (k y) f l K
 | .test t e1 e2,f,l,K=>∃ s b,lkE f t=some ⟨t,s,.data .bool b⟩∧(b=true→Zn n e1 (⟨t,s,.data .bool b⟩ :: f) l K)∧(b=false→Zn n e2 (⟨t,s,.data .bool b⟩ :: f) l K)
theorem Z0g {ρ α:Type} {n:Nat} {r:α}:∀ {e:Ev ρ} {f:Fr} {l:Lo} {K:ρ→Fr→Lo→Option α},ZSa n e f l K=some r→Zn n e f l fun x f' l'=>K x f' l'=some r:=by
 intro e
 induction e with
 | fail=>intro f l K h;cases h
 | done x=>intro f l K h;exact h
 | rdS t k ih =>
  intro f l K h;simp only [ZSa] at h;split at h
  ·rename_i x hx;exact ⟨x,hx,ih _ h⟩
  ·cases h
 | rdL u k ih =>
  intro f l K h;simp only [ZSa] at h;split at h
  ·rename_i x hx;exact ⟨x,hx,ih _ _ h⟩
  ·cases h
 | wrS t x e ih=>intro f l K h;exact ih h
 | wrL u L e ih=>intro f l K h;exact ih h
 | new u L e ih =>
  intro f l K h;simp only [ZSa] at h;split at h
  ·rename_i hx;exact ⟨hx,ih h⟩
  ·cases h
 | del u e ih=>intro f l K h;exact ih h
 | bind x k ih =>
  intro f l K h;obtain ⟨y,hy,h2⟩:=ZE h;exact ⟨y,hy,ih _ h2⟩
 | test t e1 e2 i1 i2 =>
  intro f l K h;simp only [ZSa] at h;split at h
  ·rename_i k s b hx;obtain ⟨_,hk⟩:=ZD hx;have hk:k=t:=hk;subst hk;refine ⟨s,b,hx,fun e=>?_,fun e=>?_⟩
   ·subst e;exact i1 h
   ·subst e;exact i2 h
  ·cases h
theorem Zn.mono {ρ:Type} {n:Nat}:∀ {e:Ev ρ} {f:Fr} {l:Lo} {K K':ρ→Fr→Lo→Prop},Zn n e f l K→(∀ r f l,K r f l→K' r f l)→Zn n e f l K':=by
 intro e
 induction e with
 | fail=>intro f l K K' h k;exact h
 | done x=>intro f l K K' h k;exact k _ _ _ h
 | rdS t q ih=>intro f l K K' h k;obtain ⟨x,hx,h⟩:=h;exact ⟨x,hx,ih _ h k⟩
 | rdL u q ih=>intro f l K K' h k;obtain ⟨x,hx,h⟩:=h;exact ⟨x,hx,ih _ _ h k⟩
 | wrS t x e ih=>intro f l K K' h k;exact ih h k
 | wrL u L e ih=>intro f l K K' h k;exact ih h k
 | new u L e ih=>intro f l K K' h k;exact ⟨h.1,ih h.2 k⟩
 | del u e ih=>intro f l K K' h k;exact ih h k
 | bind x q ih=>intro f l K K' h k;obtain ⟨x,hx,h⟩:=h;exact ⟨x,hx,ih _ h k⟩
 | test t e1 e2 i1 i2 =>
  intro f l K K' h k;obtain ⟨s,b,h1,h2,h3⟩:=h;exact ⟨s,b,h1,fun e=>i1 (h2 e) k,fun e=>i2 (h3 e) k⟩
section
variable {N:Nat} {G:V→Value→Prop} {w0:Base} {v0:Za} {U X:Nat→Prop} {f:Fr} {l:Lo} {a:Act} {w:World} {γ:Nat→Gh} {v:Za} {ℓ:List Loc}
theorem Le.upd (h:RelX N G w0 v0 U X f l a w γ v ℓ) {u n:Nat} {e:En LV} {L':LV} {γ':Nat→Gh} {v':Za} (hu:lkE l u=some e) (hv:v.le v') (hg:∀ k,k≠u→γ' k=γ k) (hc:CE U γ γ' u e.st n e.x L') :
  Le U v γ l v' γ' (⟨u,n,L'⟩ :: Go.Eng.era l u):=by
 obtain ⟨E,hE,_⟩:=h.lr;refine ⟨hv,fun k e' _ he=>?_⟩;rw [ZT] at he;split at he
 ·rename_i hk
  cases he
  have hk:u=k:=hk;subst hk;exact ⟨e,hu,hc⟩
 ·rename_i hk;have hk:¬ u=k:=hk;rw [Zgc h.nd,if_neg hk] at he;refine ⟨e',he,?_⟩;obtain ⟨hm,hk'⟩:=ZD he;obtain ⟨es,hr⟩:=ZPd hE hm;have:=ZIg (U:=U) (γ':=γ') hr (hg _ (by rw [hk'];exact fun e=>hk e.symm));rw [hk'] at this;exact this
theorem Le.trans {v1 v2 v3:Za} {γ1 γ2 γ3:Nat→Gh} {l1 l2 l3:Lo} (h:Le U v1 γ1 l1 v2 γ2 l2) (k:Le U v2 γ2 l2 v3 γ3 l3):Le U v1 γ1 l1 v3 γ3 l3:=by
 refine ⟨Za.le_trans h.v k.v,fun u e3 hU he=>?_⟩;obtain ⟨e2,h2,c2⟩:=k.l u e3 hU he;obtain ⟨e1,h1,c1⟩:=h.l u e2 hU h2;refine ⟨e1,h1,?_⟩;obtain ⟨k1,s1,x1⟩:=e1;obtain ⟨k2,s2,x2⟩:=e2;obtain ⟨k3,s3,x3⟩:=e3
 cases x1 <;> cases x2 <;> simp only [CE] at c1 <;> cases x3 <;> simp only [CE] at c2 ⊢
 ·rw [c2,c1]
 ·obtain ⟨a1,a2,a3,a4⟩:=c1;obtain ⟨b1,b2,b3,b4⟩:=c2;refine ⟨b1.trans a1,b2.trans a2,b3.trans a3,fun hu=>?_⟩;obtain ⟨e1,e2⟩:=b4 hu;have:=a4 (by rw [← e1];exact hu);exact ⟨e1.trans this.1,e2.trans this.2⟩
 ·obtain ⟨ob,cap,rows,a1,a2,a3⟩:=c1;obtain ⟨b1,b2,b3,b4⟩:=c2;exact ⟨ob,cap,rows,a1,by rw [b1,a2],by omega⟩
 ·obtain ⟨a1,a2,⟨ob,cap,rows,rows',a3,a4,_⟩,_⟩:=c1;obtain ⟨ob2,cap2,rows2,b1,b2,b3⟩:=c2;rw [a4] at b1;cases b1;exact ⟨ob,cap,rows,a3,b2,by omega⟩
 ·obtain ⟨a1,a2,⟨ob,cap,rows,rows',a3,a4,a5⟩,a6⟩:=c1;obtain ⟨b1,b2,⟨ob2,cap2,rows2,rows3,b3,b4,b5⟩,b6⟩:=c2;rw [a4] at b3;cases b3;refine ⟨b1.trans a1,by omega,⟨ob,cap,rows,rows3,a3,b4,fun hu=>?_⟩,fun hu=>?_⟩
  ·obtain ⟨e1,e2,e3⟩:=b5 hu;obtain ⟨g1,g2,g3⟩:=a5 (by rw [← e1];exact hu);exact ⟨e1.trans g1,e2.trans g2,e3.trans g3⟩
  ·obtain ⟨e1,e2⟩:=b6 hu;have:=a6 (by rw [← e1];exact hu);exact ⟨e1.trans this.1,e2.trans this.2⟩
theorem Zdm {ty:TypeId} {t:T}:∀ {rows:List (Option Nat×Nat)} {m:List (List t.den)} {es rest:List Loc} {v:Za},Zrb v ty t rows m es→St N w0 v0 [] (es++rest) v a w →
  ∃ v',v.le v'∧St N w0 v0 [] rest v' a w∧(Zu t.rep).rels v' (ZZ rows m) m
 | [],[],es,rest,v,hr,hs=>by rw [show es=[] from hr] at hs;exact ⟨v,Za.le_refl _,hs,rfl⟩
 | p :: ps,r :: rs,es,rest,v,⟨cs,es',h1,h2,h3⟩,hs=>by
  subst h2
  obtain ⟨v1,hv1,hs1,hr1⟩:=hs.pubSlice (i:=0) (A:=t.rep) (l:=r) rfl (ZR t).symm rfl h1 rfl
  obtain ⟨v2,hv2,hs2,hr2⟩:=Zdm (ZOg hv1 h3) hs1
  exact ⟨v2,Za.le_trans hv1 hv2,hs2,[_],_,rfl,Rep.mono _ hv2 hr1,hr2⟩
 | [],_ :: _,_,_,_,hr,_=>hr.elim
 | _ :: _,[],_,_,_,hr,_=>hr.elim
theorem RelX.freeze (h:RelX N G w0 v0 U X f l a w γ v ℓ) {u n k st:Nat} {ty:TypeId} {t:T} {xs:List t.den} {ex:List Loc} (hex:St N w0 v0 [] (ex++ℓ) v a w) (hu:lkE l u=some ⟨k,st,.own ty t xs false⟩) (hn:¬ U n) (hX:X n) :
  ∃ v' ℓ' ,RelX N G w0 v0 U X f (⟨u,n,.own ty t xs true⟩ :: era l u) a w γ v' ℓ'∧St N w0 v0 [] (ex++ℓ') v' a w∧Le U v γ l v' γ (⟨u,n,.own ty t xs true⟩ :: era l u)∧∃ ob cap,γ u = .own ob cap∧(Zu t.rep).rel v' [.slice (mkA ob) xs.length cap] xs:=by
 obtain ⟨hm,hk⟩:=ZD hu;have hk:k=u:=hk;subst hk;obtain ⟨es,E',h1,h2,_,h3,_⟩:=h.del hu;obtain ⟨ob,cap,cs,g1,g2,rfl⟩:=h1;have hs:St N w0 v0 [] (.own ob ty t.n xs.length cap cs :: (ex++E'.flatten)) v a w:=hex.perm ((List.Perm.append_left ex h3).trans (by rw [List.singleton_append];exact List.perm_middle));obtain ⟨v',hv,hx',hr⟩:=hs.pubSlice (i:=0) (A:=t.rep) (l:=xs) rfl (ZR t).symm rfl g2 rfl;have hx':St N w0 v0 [] (ex++E'.flatten) v' a w:=hx';have hs':St N w0 v0 [] E'.flatten v' a w:=hx'.drop (List.sublist_append_right _ _);have hle:Le U v γ l v' γ (⟨k,n,.own ty t xs true⟩ :: era l k):=Le.upd h hu hv (fun _ _=>rfl) ⟨rfl,rfl,rfl,fun e=>absurd e hn⟩;exact ⟨v',_,h.upd hX (h.ul _ hm).1 h2 hs' hle (fun _ _=>rfl) ⟨ob,cap,g1,hr,rfl⟩ (List.Perm.refl _) trivial,hx',hle,ob,cap,g1,hr⟩
def Z7c (γ:Nat→Gh) (u:Nat) (g:Gh):Nat→Gh:=fun k=>if k=u then g else γ k
theorem ZUb {γ:Nat→Gh} {u:Nat} {g:Gh}:Z7c γ u g u=g:=if_pos rfl
theorem Zpd {γ:Nat→Gh} {u k:Nat} {g:Gh} (h:k≠u):Z7c γ u g k=γ k:=if_neg h
theorem RelX.freezeM (h:RelX N G w0 v0 U X f l a w γ v ℓ) {u n k st hv:Nat} {ty ty2:TypeId} {t:T} {m:List (List t.den)} {ex:List Loc} (hex:St N w0 v0 [] (ex++ℓ) v a w) (hu:lkE l u=some ⟨k,st,.mat ty ty2 t m hv⟩) (hn:¬ U n) (hX:X n) :
  ∃ γ' v' ℓ' ,RelX N G w0 v0 U X f (⟨u,n,.own ty (.slice t) m true⟩ :: era l u) a w γ' v' ℓ'∧St N w0 v0 [] (ex++ℓ') v' a w∧Le U v γ l v' γ' (⟨u,n,.own ty (.slice t) m true⟩ :: era l u)∧∃ ob cap rows,γ u = .mat ob cap rows∧γ' u = .own ob cap∧(Zu (Zu t.rep)).rel v' [.slice (mkA ob) m.length cap] m:=by
 obtain ⟨hm,hk⟩:=ZD hu;have hk:k=u:=hk;subst hk;obtain ⟨es,E',h1,h2,_,h3,_⟩:=h.del hu;obtain ⟨ob,cap,rows,es2,g1,g2,rfl⟩:=h1;have hs:St N w0 v0 [] (es2++(.own ob ty 1 m.length cap (ZZ rows m) :: (ex++E'.flatten))) v a w:=hex.perm ((List.Perm.append_left ex h3).trans (by
  rw [List.cons_append];refine List.perm_middle.trans ?_;refine (List.Perm.cons _ ?_).trans List.perm_middle.symm;rw [← List.append_assoc,← List.append_assoc];exact List.Perm.append_right _ List.perm_append_comm))
 obtain ⟨v1,hv1,hs1,hr1⟩:=Zdm g2 hs;obtain ⟨v',hv,hx',hr⟩:=hs1.pubSlice (i:=0) (A:=Zu t.rep) (l:=m) rfl rfl rfl hr1 rfl;have hx':St N w0 v0 [] (ex++E'.flatten) v' a w:=hx';have hs':St N w0 v0 [] E'.flatten v' a w:=hx'.drop (List.sublist_append_right _ _);have hle:Le U v γ l v' (Z7c γ k (.own ob cap)) (⟨k,n,.own ty (.slice t) m true⟩ :: era l k):=Le.upd h hu (Za.le_trans hv1 hv) (fun _ hne=>Zpd hne) ⟨ob,cap,rows,g1,ZUb,rfl⟩;refine ⟨_,v',_,h.upd hX (h.ul _ hm).1 h2 hs' hle (fun _ hne=>Zpd hne) ⟨ob,cap,ZUb,hr,rfl⟩ (List.Perm.refl _) trivial,hx',hle,ob,cap,rows,g1,ZUb,hr⟩
theorem Zwa {s t:T} {x:s.den} {y:t.den} (h:T.cast s t x=some y):∃ e:s=t,e ▸ x=y:=by
 unfold T.cast at h;have:∀ (b:Bool) (hb:T.beq s t=b),T.castB s t b hb x=some y→∃ e:s=t,e ▸ x=y:=by
  intro b hb h
  cases b with
  | true=>exact ⟨T.beq_eq hb,Option.some.inj h⟩
  | false=>cases h
 exact this _ _ h
theorem Zhr:∀ {t:T} {x:t.den},(Zdh t x).ok U:=by
 intro t
 induction t with
 | pair a b ia ib=>intro x;exact ⟨trivial,ib (x:=x.2)⟩
 | _=>intro x;exact ⟨trivial,trivial⟩
theorem Zen {t:T} {x:t.den} {c:V} (h:Zed t x=some c):c.ok U:=by
 unfold Zed at h;split at h
 ·cases h;exact Zhr
 ·cases h;exact ⟨trivial,trivial⟩
 ·cases h;exact ⟨trivial,trivial,trivial⟩
 ·cases h;exact ⟨trivial,trivial,trivial⟩
 ·cases h;exact ⟨trivial,trivial,trivial,trivial⟩
 ·cases h
theorem Zsl {t:T} {x:t.den} {c:V} (h:Zjb t x=some c):c.ok U:=by
 unfold Zjb at h;split at h
 ·cases h;exact ⟨trivial,trivial,trivial⟩
 ·exact Zen h
theorem Zwo {v:Za} {s t:T} {x:s.den} {y:t.den} {cs:List Value} (hr:s.rep.rel v cs x) (h:cvtQ s t x=some y):t.rep.rel v cs y∧s.rep.n=t.rep.n:=by
 unfold cvtQ at h;split at h
 ·rename_i hc
  cases h
  obtain ⟨e,he⟩:=Zwa hc;subst e;subst he;exact ⟨hr,rfl⟩
 ·split at h
  ·rename_i r hr1;obtain ⟨e,he⟩:=Zwa hr1;subst e;subst he;split at h
   ·rename_i q hq;obtain ⟨e,he⟩:=Zwa h;subst e;subst he;obtain ⟨c1,c2,rfl,h1,c3,c4,rfl,h2,h3⟩:=hr;have h1:c1=[.bool _]:=h1;subst h1;have h2:ZNa.rel v c3 _:=h2;have h3:ZNa.rel v c4 _:=h3;obtain ⟨qa,na,ka,rfl⟩:=Z8c h2;obtain ⟨qb,nb,kb,rfl⟩:=Z8c h3;exact ⟨ZUm h2 h3 hq,rfl⟩
   ·cases h
  ·cases h
theorem Zfq {α β:Type} {p:Option α} {q:Option β} {z:α×β} (h:both2 p q=some z):p=some z.1∧q=some z.2:=by
 cases p <;> cases q <;> first | (cases h;done) | (cases h;exact ⟨rfl,rfl⟩)
theorem cvt_ok {v:Za}:∀ {s t:T} {x:s.den} {y:t.den} {cs:List Value},s.rep.rel v cs x→cvt s t x=some y→t.rep.rel v cs y∧s.rep.n=t.rep.n:=by
 intro s
 induction s with
 | pair a b ia ib =>
  intro t x y cs hr h
  cases t with
  | pair c d =>
   obtain ⟨h1,h2⟩:=Zfq (show both2 (cvt a c x.1) (cvt b d x.2)=some y from h);obtain ⟨c1,c2,rfl,q1,q2⟩:=hr;obtain ⟨k1,k2⟩:=ia q1 h1;obtain ⟨k3,k4⟩:=ib q2 h2;exact ⟨⟨c1,c2,rfl,k1,k3⟩,by show _+_=_+_;rw [k2,k4]⟩
  | _=>exact Zwo hr h
 | _=>intro t x y cs hr h;exact Zwo hr h
theorem ZKm {v:Za} {s t:T}:∀ {l:List s.den} {l':List t.den} {cs:List Value},s.rep.rels v cs l→cvtL s t l=some l'→t.rep.rels v cs l'∧l'.length=l.length∧(l≠[]→s.rep.n=t.rep.n)
 | [],_,cs,hr,h=>by cases h;exact ⟨hr,rfl,fun e=>absurd rfl e⟩
 | x :: l,_,cs,hr,h=>by
  simp only [cvtL] at h
  split at h
  ·rename_i y z h1 h2
   cases h
   obtain ⟨c1,c2,rfl,q1,q2⟩:=hr
   obtain ⟨k1,k2⟩:=cvt_ok q1 h1
   obtain ⟨k3,k4,_⟩:=ZKm q2 h2
   exact ⟨⟨c1,c2,rfl,k1,k3⟩,by simp [k4],fun _=>k2⟩
  ·cases h
theorem Zfr {v:Za} {s t:T} {l:List s.den} {l':List t.den} {cs:List Value} (hr:(Zu s.rep).rel v cs l) (h:cvtL s t l=some l'):(Zu t.rep).rel v cs l':=by
 obtain ⟨q,cap,rfl,h1,h2,h3⟩:=hr;rcases h3 with rfl | ⟨b,off,c,T',fr,e,hb,hk⟩
 ·cases h;exact ⟨q,cap,rfl,h1,h2,.inl rfl⟩
 ·obtain ⟨k1,k2,k3⟩:=ZKm hk h;refine ⟨q,cap,by rw [k2],by omega,h2,?_⟩;by_cases hl:l=[]
  ·subst hl;cases h;exact .inl rfl
  ·exact .inr ⟨b,off,c,T',fr,e,hb,by rw [k2,← k3 hl];exact k1⟩
theorem ZWa {ρ:Type} {n:Nat} (hn:¬ U n) (hX:X n):∀ (g:Nat) {t:T} {x:V} {k:t.den→Ev ρ} {l:Lo} {Post:ρ→Fr→Lo→Prop} {γ:Nat→Gh} {v:Za} {ℓ ex:List Loc},Zn n (conv g t x k) f l Post→RelX N G w0 v0 U X f l a w γ v ℓ→St N w0 v0 [] (ex++ℓ) v a w→x.ok U →
  ∃ y l' γ' v' ℓ',Zn n (k y) f l' Post∧RelX N G w0 v0 U X f l' a w γ' v' ℓ'∧St N w0 v0 [] (ex++ℓ') v' a w∧Le U v γ l v' γ' l'∧∀ cs,RR v γ l false x cs→t.rep.rel v' cs y
 | 0,_,_,_,_,_,_,_,_,_,h,_,_,_=>h.elim
 | g+1,t,x,k,l,Post,γ,v,ℓ,ex,h,hr,e0,hk=>by
  obtain ⟨E,hE,_⟩:=hr.lr
  have rfl':Le U v γ l v γ l:=Le.refl hE (Za.le_refl _)
  cases x with
  | data s x =>
   simp only [conv] at h
   split at h
   ·rename_i y hy
    obtain ⟨e,he⟩:=Zwa hy
    subst e;subst he
    exact ⟨_,l,γ,v,ℓ,h,hr,e0,rfl',fun cs hx=>hx⟩
   ·split at h
    ·exact ⟨_,l,γ,v,ℓ,h,hr,e0,rfl',fun cs hx=>hx⟩
    ·exact ⟨_,l,γ,v,ℓ,h,hr,e0,rfl',fun cs hx=>hx⟩
    ·obtain ⟨y,hy,h⟩:=h;exact ⟨y,l,γ,v,ℓ,h,hr,e0,rfl',fun cs hx=>clo_rel hx hy⟩
    ·obtain ⟨y,hy,h⟩:=h;exact ⟨y,l,γ,v,ℓ,h,hr,e0,rfl',fun cs hx=>Zzs hx hy⟩
    ·obtain ⟨y,hy,h⟩:=h;exact ⟨y,l,γ,v,ℓ,h,hr,e0,rfl',fun cs hx=>Zfr hx hy⟩
    ·split at h
     ·rename_i c hc
      obtain ⟨y,l2,γ2,v2,ℓ2,k1,k2,e2,k3,k4⟩:=ZWa hn hX g h hr e0 (x:=.agg c) (Zen (c:=c) (t:=s) (x:=x) hc:c.ok U)
      exact ⟨y,l2,γ2,v2,ℓ2,k1,k2,e2,k3,fun cs hx=>k4 cs (Z2j (U:=U) (γ:=γ) (l:=l) hc hx).1⟩
     ·exact h.elim
  | nilS =>
   simp only [conv] at h
   split at h
   ·exact ⟨_,l,γ,v,ℓ,h,hr,e0,rfl',fun cs hx=>by rw [show cs=_ from hx];exact ZCg _ _⟩
   ·exact ⟨_,l,γ,v,ℓ,h,hr,e0,rfl',fun cs hx=>by rw [show cs=_ from hx];exact ZVf _⟩
   ·exact ⟨_,l,γ,v,ℓ,h,hr,e0,rfl',fun cs hx=>by rw [show cs=_ from hx];exact Zpi _⟩
   ·exact h.elim
  | own u =>
   simp only [conv] at h
   obtain ⟨e,he,h⟩:=h
   obtain ⟨kk,st,L⟩:=e
   obtain ⟨hm,hkk⟩:=ZD he
   have hkk:kk=u:=hkk
   subst hkk
   cases L with
   | box _ _=>exact h.elim
   | own ty s xs fz =>
    cases fz with
    | true =>
     obtain ⟨es,hes⟩:=ZPd hE hm
     obtain ⟨ob,cap,g1,g2,_⟩:=hes
     have g1:γ kk = .own ob cap:=g1
     obtain ⟨y,l2,γ2,v2,ℓ2,k1,k2,e2,k3,k4⟩:=ZWa hn hX g h hr e0 (x:=.data (.slice s) xs) trivial
     refine ⟨y,l2,γ2,v2,ℓ2,k1,k2,e2,k3,fun cs hx=>?_⟩
     obtain ⟨y',rfl,hp,hy⟩:=hx
     obtain ⟨ob',cap',g3,g4⟩:=hy _ he
     rw [g1] at g3;cases g3
     subst g4
     exact k4 _ g2
    | false =>
     obtain ⟨v',ℓ',f1,e1,f2,ob,cap,g1,g2⟩:=hr.freeze e0 he hn hX
     obtain ⟨y,l2,γ2,v2,ℓ2,k1,k2,e2,k3,k4⟩:=ZWa hn hX g h f1 e1 (x:=.data (.slice s) xs) trivial
     refine ⟨y,l2,γ2,v2,ℓ2,k1,k2,e2,f2.trans k3,fun cs hx=>?_⟩
     obtain ⟨y',rfl,hp,hy⟩:=hx
     obtain ⟨ob',cap',g3,g4⟩:=hy _ he
     rw [g1] at g3;cases g3
     subst g4
     exact k4 _ g2
   | mat ty _ s m _ =>
    obtain ⟨γ',v',ℓ',f1,e1,f2,ob,cap,rows,g1,g1',g2⟩:=hr.freezeM e0 he hn hX
    obtain ⟨y,l2,γ2,v2,ℓ2,k1,k2,e2,k3,k4⟩:=ZWa hn hX g h f1 e1 (x:=.data (.slice (.slice s)) m) trivial
    refine ⟨y,l2,γ2,v2,ℓ2,k1,k2,e2,f2.trans k3,fun cs hx=>?_⟩
    obtain ⟨y',rfl,hp,hy⟩:=hx
    obtain ⟨ob',cap',rows',g3,g4⟩:=hy _ he
    rw [g1] at g3;cases g3
    subst g4
    exact k4 _ g2
  | agg c =>
   cases c with
   | cons x1 c =>
    cases c with
    | cons x2 r =>
     have hk1:x1.ok U:=hk.1
     have hk2:x2.ok U:=hk.2.1
     have hk3:r.ok U:=hk.2.2
     simp only [conv] at h
     split at h
     · -- an integer
      obtain ⟨s,l1,γ1,v1,ℓ1,h,r1,e1,le1,q1⟩:=ZWa hn hX g h hr e0 hk1
      obtain ⟨m,l2,γ2,v2,ℓ2,h,r2,e2,le2,q2⟩:=ZWa hn hX g h r1 e1 hk2
      obtain ⟨y,hy,h⟩:=h
      refine ⟨y,l2,γ2,v2,ℓ2,h,r2,e2,le1.trans le2,fun cs hx=>?_⟩
      obtain ⟨c1,c2',rfl,hx1,c2,c3,rfl,hx2,hx3⟩:=hx
      have hx3:c3=[]:=hx3
      subst hx3
      have q1:=q1 _ hx1
      have q2:=q2 _ (ZZa le1 hk2 hx2)
      have q1:c1=[.bool s]:=Rep.mono Zsc le2.v q1
      subst q1
      have q2:Zq.rel v2 c2 m:=q2
      obtain ⟨qa,na,ka,rfl⟩:=Zaa q2
      exact ZNs q2 hy
     · -- a fraction
      obtain ⟨s,l1,γ1,v1,ℓ1,h,r1,e1,le1,q1⟩:=ZWa hn hX g h hr e0 hk1
      obtain ⟨m,l2,γ2,v2,ℓ2,h,r2,e2,le2,q2⟩:=ZWa hn hX g h r1 e1 hk2
      obtain ⟨y,hy,h⟩:=h
      refine ⟨y,l2,γ2,v2,ℓ2,h,r2,e2,le1.trans le2,fun cs hx=>?_⟩
      obtain ⟨c1,c2',rfl,hx1,c2,c3,rfl,hx2,hx3⟩:=hx
      have hx3:c3=[]:=hx3
      subst hx3
      have q1:=q1 _ hx1
      have q2:=q2 _ (ZZa le1 hk2 hx2)
      have q1:Zfc.rel v2 c1 s:=Rep.mono Zfc le2.v q1
      obtain ⟨sb,qb,nb,kb,rfl⟩:=Z0i q1
      have q2:Zq.rel v2 c2 m:=q2
      obtain ⟨qa,na,ka,rfl⟩:=Zaa q2
      exact Zxq q1 q2 hy
     · -- the reference's fraction
      rename_i x3 _
      have hk4:x3.ok U:=hk3.1
      obtain ⟨s,l1,γ1,v1,ℓ1,h,r1,e1,le1,q1⟩:=ZWa hn hX g h hr e0 hk1
      obtain ⟨m,l2,γ2,v2,ℓ2,h,r2,e2,le2,q2⟩:=ZWa hn hX g h r1 e1 hk2
      obtain ⟨d,l3,γ3,v3,ℓ3,h,r3,e3,le3,q3⟩:=ZWa hn hX g h r2 e2 hk4
      obtain ⟨y,hy,h⟩:=h
      refine ⟨y,l3,γ3,v3,ℓ3,h,r3,e3,(le1.trans le2).trans le3,fun cs hx=>?_⟩
      obtain ⟨c1,c2',rfl,hx1,c2,c3,rfl,hx2,hx3⟩:=hx
      obtain ⟨c4,c5,rfl,hx4,hx5⟩:=hx3
      have hx5:c5=[]:=hx5
      subst hx5
      have q1:=q1 _ hx1
      have q2:=q2 _ (ZZa le1 hk2 hx2)
      have q3:=q3 _ (ZZa (le1.trans le2) hk4 hx4)
      have q1:c1=[.bool s]:=q1
      subst q1
      have q2:ZNa.rel v3 c2 m:=Rep.mono ZNa le3.v q2
      obtain ⟨qa,na,ka,rfl⟩:=Z8c q2
      have q3:ZNa.rel v3 c4 d:=q3
      obtain ⟨qb,nb,kb,rfl⟩:=Z8c q3
      exact ZUm q2 q3 hy
     ·obtain ⟨y1,l1,γ1,v1,ℓ1,h,r1,e1,le1,q1⟩:=ZWa hn hX g h hr e0 hk1
      obtain ⟨y2,l2,γ2,v2,ℓ2,h,r2,e2,le2,q2⟩:=ZWa hn hX g h r1 e1 hk2
      refine ⟨_,l2,γ2,v2,ℓ2,h,r2,e2,le1.trans le2,fun cs hx=>?_⟩
      obtain ⟨c1,c2',rfl,hx1,c2,c3,rfl,hx2,hx3⟩:=hx
      have hx3:c3=[]:=hx3
      subst hx3
      exact ⟨c1,c2,by simp,Rep.mono _ le2.v (q1 _ hx1),q2 _ (ZZa le1 hk2 hx2)⟩
     ·obtain ⟨y1,l1,γ1,v1,ℓ1,h,r1,e1,le1,q1⟩:=ZWa hn hX g h hr e0 hk1
      obtain ⟨y2,l2,γ2,v2,ℓ2,h,r2,e2,le2,q2⟩:=ZWa hn hX g h r1 e1 (x:=.agg (.cons x2 r)) ⟨hk2,hk3⟩
      refine ⟨_,l2,γ2,v2,ℓ2,h,r2,e2,le1.trans le2,fun cs hx=>?_⟩
      obtain ⟨c1,c2',rfl,hx1,c2,c3,rfl,hx2,hx3⟩:=hx
      exact ⟨c1,c2++c3,rfl,Rep.mono _ le2.v (q1 _ hx1),q2 _ (ZZa le1 (x:=.agg (.cons x2 r)) ⟨hk2,hk3⟩ (m:=false) ⟨c2,c3,rfl,hx2,hx3⟩)⟩
     ·exact h.elim
    | nl =>
     simp only [conv] at h
     split at h
     ·obtain ⟨y1,l1,γ1,v1,ℓ1,h,r1,e1,le1,q1⟩:=ZWa hn hX g h hr e0 hk.1
      refine ⟨_,l1,γ1,v1,ℓ1,h,r1,e1,le1,fun cs hx=>?_⟩
      obtain ⟨c1,c2,rfl,hx1,hx2⟩:=hx
      have hx2:c2=[]:=hx2
      subst hx2
      rw [List.append_nil];exact q1 _ hx1
     ·exact h.elim
    | _=>simp only [conv] at h;exact h.elim
   | _=>simp only [conv] at h;exact h.elim
  | _=>simp only [conv] at h;exact h.elim
theorem Z0d {ρ:Type} {n:Nat} (hn:¬ U n) (hX:X n) (g:Nat) {t:T} {x:V} {k:t.den→Ev ρ} {l:Lo} {Post:ρ→Fr→Lo→Prop} {γ:Nat→Gh} {v:Za} {ℓ:List Loc} (h:Zn n (conv g t x k) f l Post) (hr:RelX N G w0 v0 U X f l a w γ v ℓ) (hk:x.ok U) :
  ∃ y l' γ' v' ℓ',Zn n (k y) f l' Post∧RelX N G w0 v0 U X f l' a w γ' v' ℓ'∧Le U v γ l v' γ' l'∧∀ cs,RR v γ l false x cs→t.rep.rel v' cs y:=by
 obtain ⟨y,l',γ',v',ℓ',h1,h2,_,h3,h4⟩:=ZWa (ex:=[]) hn hX g h hr hr.st hk;exact ⟨y,l',γ',v',ℓ',h1,h2,h3,h4⟩
end
end Go.Eng
namespace Go.Eng
open Go.RowKit
variable {P:Program} {K:Nat} {w0:Base} {v0:Za} {σ:List (Nat×Value)} {ℓ:List Loc} {v:Za} {a:Act} {w:World}
theorem Zuq {P:Program} {Q:Exit→Act→World→Prop} {a:Act} {w:World} {c:Code} {n:Nat} (h:c.wp P (Exit.then (Code.rounds P c Q n) Q) a w):Code.rounds P c Q (n+1) a w:=h
end Go.Eng
namespace Go.Eng
open Go.RowKit
section
variable {P:Program} {K:Nat} {w0:Base} {v0:Za} {σ:List (Nat×Value)} {ℓ:List Loc} {v:Za} {a:Act} {w:World}
variable {d:Option Nat} {ty:TypeId} {pos:String} {aft:Array Edge} {g:Option (Nat×Bool)}
theorem Z8r (hS:St K w0 v0 σ ℓ v a w) {t:TypeId} {x j:Operand} {X J z:Value} (e:ev σ x=some X) (e':ev σ j=some J) (h:(Instr.index t X J).run P w = .ok z w) :
  (execOp a.eval ⟨d,.index t x j,ty,pos,aft,g⟩).run P w = .ok (.value z) w:=by
 simp [execOp,hS.eval e,hS.eval e',h]
end
end Go.Eng
namespace Go.Eng
open Go.RowKit
section
variable {K:Nat} {w0:Base} {v0:Za} {ℓ:List Loc} {v:Za} {a:Act} {w:World}
theorem St.evs (h:St K w0 v0 [] ℓ v a w):∀ xs:List Operand,∃ σ,St K w0 v0 σ ℓ v a w∧∀ x ∈ xs,ev σ x=some (a.eval x)
 | []=>⟨[],h,fun _ e=>by cases e⟩
 | x :: xs=>by
  obtain ⟨σ,hs,hx⟩:=St.evs h xs
  cases x with
  | tmp t =>
   refine ⟨(t,a.tmps.getD t undef) :: σ,hs.learn rfl,fun z hz=>?_⟩
   rcases List.mem_cons.1 hz with rfl | hz
   ·exact ZVd rfl
   ·have h1:=hx z hz
    cases z with
    | tmp t' =>
     by_cases e:t=t'
     ·subst e;exact ZVd rfl
     ·show look _ t'=_;rw [Zbf e];exact h1
    | _=>exact h1
  | const c=>exact ⟨σ,hs,fun z hz=>by rcases List.mem_cons.1 hz with rfl | hz;exact rfl;exact hx z hz⟩
  | global g=>exact ⟨σ,hs,fun z hz=>by rcases List.mem_cons.1 hz with rfl | hz;exact rfl;exact hx z hz⟩
  | func g=>exact ⟨σ,hs,fun z hz=>by rcases List.mem_cons.1 hz with rfl | hz;exact rfl;exact hx z hz⟩
theorem St.ev1 (h:St K w0 v0 [] ℓ v a w) (x:Operand):∃ σ,St K w0 v0 σ ℓ v a w∧ev σ x=some (a.eval x):=by
 obtain ⟨σ,h1,h2⟩:=h.evs [x];exact ⟨σ,h1,h2 x (by simp)⟩
theorem St.ev2 (h:St K w0 v0 [] ℓ v a w) (x y:Operand):∃ σ,St K w0 v0 σ ℓ v a w∧ev σ x=some (a.eval x)∧ev σ y=some (a.eval y):=by
 obtain ⟨σ,h1,h2⟩:=h.evs [x,y];exact ⟨σ,h1,h2 x (by simp),h2 y (by simp)⟩
end
section
variable {P:Program} {N:Nat} {G:V→Value→Prop} {w0:Base} {v0:Za} {U X:Nat→Prop} {f:Fr} {l:Lo} {a:Act} {w:World} {γ:Nat→Gh} {v:Za} {ℓ:List Loc} {n:Nat}
def ZJa (P:Program) (N:Nat) (G:V→Value→Prop) (w0:Base) (v0:Za) (X:Nat→Prop) (o:Oper) (a:Act) (w:World) (Post:Unit→Fr→Lo→Prop):Prop :=
 ZYa P o a w fun x w'=>∃ f' l',Post () f' l'∧Rel N G w0 v0 X f' l' (a.put o.dst x) w'
theorem fin {o:Oper} {l':Lo} {w':World} {γ':Nat→Gh} {v':Za} {ℓ':List Loc} {x:V} {y:Value} {Post:Unit→Fr→Lo→Prop} (hr:RelX N G w0 v0 X X f l' a w' γ' v' ℓ') (hrun:(execOp a.eval o).run P w = .ok (.value y) w')
  (hd:∀ d,o.dst=some d→d<N) (hX:X n) (hv:RV v' γ' l' x y) (hk:x.ok X) (h:Zn n (ret o x) f l' Post):ZJa P N G w0 v0 X o a w Post:=by
 unfold ret at h;refine ZBe hrun ?_
 cases hdd:o.dst with
 | none=>rw [hdd] at h;exact h.elim
 | some d =>
  rw [hdd] at h;exact ⟨_,_,h,_,_,_,hr.put (hd d hdd) hv hk hX⟩
theorem ZX {o:Oper} {x:V} {y:Value} {Post:Unit→Fr→Lo→Prop} (hr:RelX N G w0 v0 U X f l a w γ v ℓ) (hU:∀ k,U k→X k) (hrun:(execOp a.eval o).run P w = .ok (.value y) w)
  (hd:∀ d,o.dst=some d→d<N) (hX:X n) (hv:RV v γ l x y) (hk:x.ok X) (h:Zn n (ret o x) f l Post):ZJa P N G w0 v0 X o a w Post :=
 fin (hr.mono hU fun _ h=>h) hrun hd hX hv hk h
theorem ZBb {x:V} {cs:List Value} (h:RR v γ l false x cs) (hx:∀ c,x ≠ .tup c):RV v γ l x (x.val cs):=by
 cases x with
 | tup c=>exact absurd rfl (hx c)
 | _=>exact ⟨cs,h,rfl⟩
theorem Zob {x:V} {y:Value} (h:RV v γ l x y) (hx:∀ c,x ≠ .tup c):∃ cs,RR v γ l false x cs∧y=x.val cs:=by
 cases x with
 | tup c=>exact absurd rfl (hx c)
 | _=>exact h
theorem Z2f {t:T} {x:t.den} {y:Value} (h:RV v γ l (.data t x) y):∃ cs,t.rep.rel v cs x∧y=t.rep.val cs:=by
 obtain ⟨cs,h1,h2⟩:=h;exact ⟨cs,h1,by rw [h2,ZWe]⟩
theorem Z1b {k:IntKind} {i:Int} {y:Value} (h:RV v γ l (.data (.int k) i) y):y = .int k i∧inR k i:=by
 obtain ⟨cs,h1,rfl⟩:=h;obtain ⟨rfl,h2⟩:=h1;exact ⟨rfl,h2⟩
theorem ZPe {b:Bool} {y:Value} (h:RV v γ l (.data .bool b) y):y = .bool b:=by
 obtain ⟨cs,h1,rfl⟩:=h;have h1:cs=[.bool b]:=h1;subst h1;rfl
theorem Zkf {s:List UInt8} {y:Value} (h:RV v γ l (.data .str s) y):y = .string (Zs s)∧s.length≤maxLen:=by
 obtain ⟨cs,h1,rfl⟩:=h;obtain ⟨rfl,h2⟩:=h1;exact ⟨rfl,h2⟩
theorem ZLa {k:IntKind} {i:Int} (h:inR k i):RV v γ l (.data (.int k) i) (.int k i):=⟨[.int k i],⟨rfl,h⟩,rfl⟩
theorem Z4b {b:Bool}:RV v γ l (.data .bool b) (.bool b):=⟨[.bool b],rfl,rfl⟩
theorem Zgi {s:List UInt8} (h:s.length≤maxLen):RV v γ l (.data .str s) (.string (Zs s)):=⟨[.string (Zs s)],⟨rfl,h⟩,rfl⟩
theorem Zkk {t:T} {xs:List t.den} {y:Value} (h:RV v γ l (.data (.slice t) xs) y):∃ q n c,y = .slice q n c∧(Zu t.rep).rel v [.slice q n c] xs:=by
 obtain ⟨cs,h1,rfl⟩:=h;obtain ⟨q,n,c,rfl⟩:=ZTg (A:=t.rep) h1;exact ⟨q,n,c,rfl,h1⟩
theorem ZIa {x:V} {y:Value} (h:RV v γ l x y) (hx:∀ c,x ≠ .tup c) (hs:x.size=1) (ha:x.isAgg=false):RR v γ l false x [y]:=by
 obtain ⟨cs,h1,rfl⟩:=Zob h hx;rw [Zof h1 hs ha] at h1;exact h1
theorem ZBr {c:Value} {x:V} (h:Zvi c=some x):RV v γ l x c∧x.ok U:=by
 unfold Zvi at h;split at h
 ·cases h;exact ⟨Z4b,trivial⟩
 ·split at h
  ·cases h;exact ⟨ZLa (by assumption),trivial⟩
  ·cases h
 ·split at h
  ·cases h;exact ⟨⟨[_],⟨rfl,by assumption⟩,rfl⟩,trivial⟩
  ·cases h
 ·rename_i s;split at h
  ·cases h
   refine ⟨?_,trivial⟩;have:=Zgi (v:=v) (γ:=γ) (l:=l) (s:=s.data.toList) (by assumption)
   simpa [Zs] using this
  ·cases h
 ·cases h;exact ⟨⟨[_],rfl,rfl⟩,trivial⟩
 ·cases h
theorem Zjl (hr:RelX N G w0 v0 U X f l a w γ v ℓ) {x:Operand} {V':V} (h:opdV f x=some V'):RV v γ l V' (a.eval x)∧V'.ok U:=by
 cases x with
 | tmp t =>
  simp only [opdV] at h;split at h
  ·rename_i e he;cases h;exact ⟨hr.fr t e he,(hr.uf _ e he).1⟩
  ·cases h
 | const c=>exact ZBr h
 | func g=>cases h;exact ⟨⟨[_],⟨[],rfl,rfl⟩,rfl⟩,trivial⟩
 | global g=>cases h
theorem ZGp {ρ:Type} {x:Operand} {k:V→Ev ρ} {Post:ρ→Fr→Lo→Prop} (h:Zn n (opd x k) f l Post):∃ V',opdV f x=some V'∧Zn n (k V') f l Post:=by
 cases x with
 | tmp t=>obtain ⟨e,he,h⟩:=h;exact ⟨e.x,by simp only [opdV,he],h⟩
 | const c =>
  simp only [opd] at h;split at h
  ·rename_i x hx;exact ⟨x,hx,h⟩
  ·exact h.elim
 | func g=>exact ⟨_,rfl,h⟩
 | global g=>exact h.elim
theorem ZW {ρ:Type} (hr:RelX N G w0 v0 U X f l a w γ v ℓ) {x:Operand} {k:V→Ev ρ} {Post:ρ→Fr→Lo→Prop} (h:Zn n (opd x k) f l Post):∃ V',RV v γ l V' (a.eval x)∧V'.ok U∧Zn n (k V') f l Post:=by
 obtain ⟨V',h1,h2⟩:=ZGp h;obtain ⟨h3,h4⟩:=Zjl hr h1;exact ⟨V',h3,h4,h2⟩
theorem ZJc {ρ:Type} {x:V} {k:IntKind→Int→Ev ρ} {Post:ρ→Fr→Lo→Prop} (h:Zn n (Z8b x k) f l Post):∃ κ i,x = .data (.int κ) i∧Zn n (k κ i) f l Post:=by
 unfold Z8b at h;split at h
 ·exact ⟨_,_,rfl,h⟩
 ·exact h.elim
theorem Zzp {ρ:Type} {x:V} {k:Bool→Ev ρ} {Post:ρ→Fr→Lo→Prop} (h:Zn n (Z8j x k) f l Post):∃ b,x = .data .bool b∧Zn n (k b) f l Post:=by
 unfold Z8j at h;split at h
 ·exact ⟨_,rfl,h⟩
 ·exact h.elim
theorem Zsn {t:TypeId} {p q:Bool} (ht:P.underlying t=some .bool) (w:World):(Op.equal t (.bool p) (.bool q)).run P w = .ok (p==q) w:=by
 show (Op.equalIn (9999+1) t (.bool p) (.bool q)).run P w=_;unfold Op.equalIn;simp [run_underlying ht]
theorem Zor {t:TypeId} {p q:Bool} (ht:P.underlying t=some .bool) (w:World):(binOp .eql t (.bool p) (.bool q)).run P w = .ok (.bool (p==q)) w:=by
 simp [binOp,Zsn ht]
theorem Zqp {t:TypeId} {p q:Bool} (ht:P.underlying t=some .bool) (w:World):(binOp .neq t (.bool p) (.bool q)).run P w = .ok (.bool (p != q)) w:=by
 simp [binOp,Zsn ht,bne]
theorem binI_ok {op:BinOp} {κ:IntKind} {i j:Int} {k:V→Ev Unit} {Post:Unit→Fr→Lo→Prop} (t:TypeId) (hi:inR κ i) (h:Zn n (binI op κ i j k) f l Post):∃ x y,(∀ w,(binOp op t (.int κ i) (.int κ j)).run P w = .ok y w)∧RV v γ l x y∧x.ok U∧Zn n (k x) f l Post:=by
 unfold binI at h;split at h
 ·split at h
  ·obtain ⟨z,hz,h⟩:=h;exact ⟨_,_,Zga hz,ZLa (Zma hz).2,trivial,h⟩
  ·exact ⟨_,_,ZJb,ZLa (Zha _ _),trivial,h⟩
 ·split at h
  ·obtain ⟨z,hz,h⟩:=h;exact ⟨_,_,Zla hz,ZLa (Zma hz).2,trivial,h⟩
  ·exact ⟨_,_,ZPc,ZLa (Zha _ _),trivial,h⟩
 ·split at h
  ·obtain ⟨z,hz,h⟩:=h;exact ⟨_,_,bin_mul hz,ZLa (Zma hz).2,trivial,h⟩
  ·exact ⟨_,_,Z3a,ZLa (Zha _ _),trivial,h⟩
 ·obtain ⟨z,hz,h⟩:=h;exact ⟨_,_,ZMb hz,ZLa (Zzg hz),trivial,h⟩
 ·obtain ⟨z,hz,h⟩:=h;exact ⟨_,_,ZId hz,ZLa (Z4m hi hz),trivial,h⟩
 ·exact ⟨_,_,ZNf,ZLa (Zha _ _),trivial,h⟩
 ·exact ⟨_,_,Z9h,ZLa (Zha _ _),trivial,h⟩
 ·exact ⟨_,_,Z7b,Z4b,trivial,h⟩
 ·exact ⟨_,_,ZMj,Z4b,trivial,h⟩
 ·exact ⟨_,_,Z1c,Z4b,trivial,h⟩
 ·exact ⟨_,_,ZNb,Z4b,trivial,h⟩
 ·exact ⟨_,_,Zjc,Z4b,trivial,h⟩
 ·exact ⟨_,_,Zum,Z4b,trivial,h⟩
 ·exact h.elim
theorem binE_ok (hr:RelX N G w0 v0 U X f l a w γ v ℓ) {d:Option Nat} {op:BinOp} {t t' ty:TypeId} {pos:String} {aft:Array Edge} {g:Option (Nat×Bool)} {x y:Operand} {vx vy:V} {k:V→Ev Unit} {Post:Unit→Fr→Lo→Prop} (hx:RV v γ l vx (a.eval x)) (hy:RV v γ l vy (a.eval y))
  (h:Zn n (binE P op t vx vy k) f l Post):∃ z q,(execOp a.eval ⟨d,.binOp op t x y t',ty,pos,aft,g⟩).run P w = .ok (.value q) w∧RV v γ l z q∧z.ok U∧Zn n (k z) f l Post:=by
 obtain ⟨σ,hs,e1,e2⟩:=hr.st.ev2 x y;unfold binE at h;split at h
 ·obtain ⟨h1,h2⟩:=Z1b hx;obtain ⟨h3,h4⟩:=Z1b hy;rw [h1] at e1;rw [h3] at e2;split at h
  ·obtain ⟨z,hz,h⟩:=h;exact ⟨_,_,Ze hs e1 e2 (ZFf hz),ZLa (Zus h2 hz),trivial,h⟩
  ·obtain ⟨z,hz,h⟩:=h;exact ⟨_,_,Ze hs e1 e2 (Zmb hz),ZLa (Zje h2 hz),trivial,h⟩
  ·split at h
   ·rename_i hk;have hk:=ZXe hk;subst hk;obtain ⟨z,q,h5,h6,h7,h8⟩:=binI_ok (P:=P) (v:=v) (γ:=γ) (U:=U) t h2 h;exact ⟨z,q,Ze hs e1 e2 h5,h6,h7,h8⟩
   ·exact h.elim
 ·have h1:=ZPe hx;have h2:=ZPe hy;rw [h1] at e1;rw [h2] at e2;split at h
  ·rename_i ht;split at h
   ·exact ⟨_,_,Zmm hs e1 e2 (Zor ht),Z4b,trivial,h⟩
   ·exact ⟨_,_,Zmm hs e1 e2 (Zqp ht),Z4b,trivial,h⟩
   ·exact h.elim
  ·exact h.elim
 ·obtain ⟨h1,h2⟩:=Zkf hx;obtain ⟨h3,h4⟩:=Zkf hy;rw [h1] at e1;rw [h3] at e2;split at h
  ·obtain ⟨z,hz,h⟩:=h;exact ⟨_,_,Zlh hs e1 e2 (Zzn hz),Zgi (Zfi hz),trivial,h⟩
  ·exact ⟨_,_,Zlh hs e1 e2 str_eql,Z4b,trivial,h⟩
  ·exact ⟨_,_,Zlh hs e1 e2 str_neq,Z4b,trivial,h⟩
  ·exact h.elim
 ·exact h.elim
end
end Go.Eng
namespace Go.Eng
open Go.RowKit
theorem T_one:∀ {t:T},t.agg=false→t.n=1
 | .int _,_ | .bool,_ | .flt _,_ | .str,_ | .slice _,_=>rfl
 | .leaf 0,_ | .leaf 1,_ | .leaf (_+5),_=>rfl
theorem ZHc:∀ (g:Nat) {x z:V} {off n:Nat} {ag:Bool},Zea g x off n ag=some z→z.isAgg=false→z.size=1
 | 0,_,_,_,_,_,h,_=>by cases h
 | g+1,x,z,off,n,ag,h,hz=>by
  have whole:∀ {y:V},(y.isAgg=false→y.size=1)→(match Nat.beq off 0,Nat.beq y.size n,eqB y.isAgg ag with
    | true,true,true=>some y
    | _,_,_=>match y with
     | .agg c=>Zea g c off n ag
     | .data t x=>match Zjb t x with
      | some c=>Zea g c off n ag
      | none=>none
     | _=>none)=some z→z.size=1:=by
   intro y h1 hy;split at hy
   ·cases hy;exact h1 hz
   ·split at hy
    ·exact ZHc g hy hz
    ·split at hy
     ·exact ZHc g hy hz
     ·cases hy
    ·cases hy
  cases x with
  | nl=>simp only [Zea] at h;cases h
  | cons a b =>
   simp only [Zea] at h;split at h
   ·exact ZHc g h hz
   ·split at h
    ·exact ZHc g h hz
    ·cases h
  | data t x=>exact whole (y:=.data t x) (fun h=>T_one h) h
  | agg c=>exact whole (y:=.agg c) (fun h=>by cases h) h
  | nilS=>exact whole (y:=.nilS) (fun _=>rfl) h
  | own u=>exact whole (y:=.own u) (fun _=>rfl) h
  | row u i hv cv t r=>exact whole (y:=.row u i hv cv t r) (fun _=>rfl) h
  | ptr u o=>exact whole (y:=.ptr u o) (fun _=>rfl) h
  | el u i cv t x o=>exact whole (y:=.el u i cv t x o) (fun _=>rfl) h
  | rp u i hv cv t r=>exact whole (y:=.rp u i hv cv t r) (fun _=>rfl) h
  | rel u i j hv cv t r x o=>exact whole (y:=.rel u i j hv cv t r x o) (fun _=>rfl) h
  | vp t x o=>exact whole (y:=.vp t x o) (fun _=>rfl) h
  | tup c=>exact whole (y:=.tup c) (fun _=>rfl) h
  | fn f c=>exact whole (y:=.fn f c) (fun _=>rfl) h
  | ifc f c=>exact whole (y:=.ifc f c) (fun _=>rfl) h
  | undef=>exact whole (y:=.undef) (fun _=>rfl) h
section
variable {P:Program} {N:Nat} {G:V→Value→Prop} {w0:Base} {v0:Za} {U X:Nat→Prop} {f:Fr} {l:Lo} {a:Act} {w:World} {γ:Nat→Gh} {v:Za} {ℓ:List Loc} {n:Nat}
theorem ZPf {t:TypeId} {q:Nat×Bool} (h:szA P t=some q):Sized P t q.1 q.2:=by
 unfold szA at h;split at h
 ·rename_i i d hi hd
  cases h
  refine ⟨fun w=>by simp [sizeOf,typeInfo,hi],fun w=>?_⟩
  cases d <;> simp [isAgg,run_underlying hd,aggD]
 ·cases h
theorem ZJj {t:TypeId} {q:TypeId×Nat} (h:Zwg P t=some q):ZSb P t q.1 q.2:=by
 unfold Zwg at h;split at h
 ·rename_i e he;split at h
  ·rename_i i hi
   cases h
   exact ⟨fun w=>run_underlying he w,fun w=>by simp [sizeOf,typeInfo,hi]⟩
  ·cases h
 ·cases h
theorem RelX.loc (h:RelX N G w0 v0 U X f l a w γ v ℓ) {u:Nat} {e:En LV} (hu:lkE l u=some e):e.k=u∧∃ es,ZBa v γ l e es∧∀ x ∈ es,∃ i:Nat,ℓ[i]? = some x:=by
 obtain ⟨E,hE,hp⟩:=h.lr;obtain ⟨es,E',h1,h2,h3⟩:=Z5f hE hu;exact ⟨(ZD hu).2,es,h1,fun x hx=>List.getElem?_of_mem ((hp.trans h3).mem_iff.2 (List.mem_append_left _ hx))⟩
theorem Zfj (hs:St N w0 v0 [] ℓ v a w) {t:TypeId} {q:Nat×Bool} (ht:szA P t=some q) {b off:Nat} {cs:List Value} (hc:WAt w b off cs) {z:V} (hz:RR v γ l false z cs) (h1:z.size=q.1) (h2:z.isAgg=q.2) (h3:z.isAgg=false→z.size=1)
  {d:Option Nat} {ty:TypeId} {pos:String} {aft:Array Edge} {g:Option (Nat×Bool)} {x:Operand} (e:a.eval x = .pointer (some ⟨b,off,none⟩)):(execOp a.eval ⟨d,.load t x,ty,pos,aft,g⟩).run P w = .ok (.value (z.val cs)) w:=by
 obtain ⟨σ,hs',e1⟩:=hs.ev1 x;rw [e] at e1;have ht:=ZPf ht;have hl:=ZNc hz
 cases hag:z.isAgg with
 | true =>
  rw [← h2,hag,← h1,← hl] at ht;have:=Zxn (d:=d) (ty:=ty) (pos:=pos) (aft:=aft) (g:=g) hs' e1 ht rfl hc;rw [this];unfold V.val;rw [hag]
 | false =>
  have e3:=Zof hz (h3 hag) hag;rw [e3] at hc;rw [← h2,hag] at ht;exact Zda (d:=d) (ty:=ty) (pos:=pos) (aft:=aft) (g:=g) hs' e1 ht hc
theorem Z2o {α:Type}:∀ {rows:List (Option Nat×Nat)} {m:List (List α)} {i:Nat} {p:Option Nat×Nat} {r:List α},rows[i]? = some p→m[i]? = some r→(ZZ rows m)[i]? = some (.slice (mkA p.1) r.length p.2)
 | [],_,_,_,_,h,_=>by simp at h
 | _ :: _,[],_,_,_,_,h=>by simp at h
 | p :: ps,r :: rs,0,_,_,h,h'=>by simp at h h';subst h h';rfl
 | p :: ps,r :: rs,i+1,_,_,h,h'=>by
  simp only [List.getElem?_cons_succ] at h h'
  have:=Z2o (rows:=ps) (m:=rs) (i:=i) h h'
  simpa [ZZ] using this
theorem ZNm {α:Type}:∀ {rows:List (Option Nat×Nat)} {m:List (List α)},rows.length=m.length→(ZZ rows m).length=m.length
 | [],[],_=>rfl
 | _ :: _,_ :: _,h=>by simp [ZZ];exact ZNm (by simpa using h)
 | [],_ :: _,h=>by cases h
 | _ :: _,[],h=>by cases h
theorem ZZe {ty:TypeId} {t:T}:∀ {rows:List (Option Nat×Nat)} {m:List (List t.den)} {es:List Loc} {i:Nat} {r:List t.den},Zrb v ty t rows m es→m[i]? = some r→∃ p cs,rows[i]? = some p∧t.rep.rels v cs r∧.own p.1 ty t.n r.length p.2 cs ∈ es
 | [],[],_,_,_,_,h=>by simp at h
 | _ :: _,_ :: _,_,0,_,⟨cs,es',h1,h2,h3⟩,h=>by simp at h;subst h h2;exact ⟨_,cs,rfl,h1,by simp⟩
 | _ :: _,_ :: _,_,i+1,_,⟨cs,es',h1,h2,h3⟩,h=>by
  simp at h
  obtain ⟨p,cs',g1,g2,g3⟩:=ZZe h3 h
  subst h2
  exact ⟨p,cs',by simpa using g1,g2,by simp [g3]⟩
 | [],_ :: _,_,_,_,k,_=>k.elim
 | _ :: _,[],_,_,_,k,_=>k.elim
theorem Zao {b off k:Nat} {c:List Value} (h:WAt w b off c) (m:Nat) (hk:k+m≤c.length):WAt w b (off+k) ((c.drop k).take m):=by
 obtain ⟨c0,T,fr,h1,h2⟩:=h;refine ⟨c0,T,fr,h1,?_⟩;have hl:((c.drop k).take m).length=m:=by simp;omega
 rw [hl];have:((c0.toList.drop off).take c.length)=c:=h2
 conv=>rhs;rw [← this]
 rw [List.drop_take,List.drop_drop,List.take_take];congr 1;omega
theorem ldE_ok (hr:RelX N G w0 v0 U X f l a w γ v ℓ) {d:Option Nat} {t ty:TypeId} {pos:String} {aft:Array Edge} {g:Option (Nat×Bool)} {x:Operand} {p:V} {k:V→Ev Unit} {Post:Unit→Fr→Lo→Prop} (hp:RV v γ l p (a.eval x)) (hk:p.ok U)
  (h:Zn n (ldE P t p k) f l Post):∃ z y,(execOp a.eval ⟨d,.load t x,ty,pos,aft,g⟩).run P w = .ok (.value y) w∧RV v γ l z y∧z.ok U∧Zn n (k z) f l Post:=by
 unfold ldE at h;split at h
 ·exact h.elim
 ·rename_i q hq;split at h
  · -- a variable
   rename_i u off;obtain ⟨e,he,h⟩:=h;obtain ⟨y,hy0,_,hy⟩:=ZIa hp (fun _ e=>by cases e) rfl rfl
   cases hy0
   have hy:=hy e he;obtain ⟨kk,st,L⟩:=e;obtain ⟨hkk,es,hes,hmem⟩:=hr.loc he
   cases L with
   | box ty0 c =>
    simp only at h;obtain ⟨b,cs,g1,g2,g3,rfl⟩:=hes;obtain ⟨b',g4,g5⟩:=hy;have hkk:kk=u:=hkk;subst hkk;have g1:γ kk = .box b:=g1;rw [g1] at g4;cases g4;split at h
    ·rename_i z hz;have hc:c.ok U:=(hr.ul _ (ZD he).1).2.2;obtain ⟨k1,k2,k3,k4,k5⟩:=Z0c FU hz g2 hc;obtain ⟨i,hi⟩:=hmem _ (List.mem_singleton.2 rfl);have hlen:((cs.drop off).take q.1).length=q.1:=by simp;omega
     have hw:=hr.st.box hi off ((cs.drop off).take q.1) (by rw [hlen]);exact ⟨z,_,Zfj hr.st hq hw k1 k3 k4 (ZHc FU hz) g5,ZBb k1 (fun c e=>by subst e;exact k1),k2,h⟩
    ·exact h.elim
   | own _ _ _ _=>exact h.elim
   | mat _ _ _ _ _=>exact h.elim
  · -- an element
   rename_i u i cv e x0 off;obtain ⟨en,he,h⟩:=h;obtain ⟨y,hy0,_,_,hy⟩:=ZIa hp (fun _ e=>by cases e) rfl rfl
   cases hy0
   have hy:=hy en he;obtain ⟨kk,st,L⟩:=en;obtain ⟨hkk,es,hes,hmem⟩:=hr.loc he
   cases L with
   | own ty0 s xs fz =>
    simp only at h;obtain ⟨b,cap,g1,g2,g3,g4⟩:=hy;have hkk:kk=u:=hkk;subst hkk;split at h
    ·rename_i hcv;obtain ⟨ys,c1,c2⟩:=g4 (Nat.eq_of_beq_eq_true hcv);obtain ⟨c3,c4⟩:=Zwa c1
     cases c3;cases c4
     split at h
     ·rename_i z hz;have key:∀ c,e.rep.rel v c x0→RR v γ l false z ((c.drop off).take q.1)∧z.ok U∧z.size=q.1∧z.isAgg=q.2∧off+q.1≤c.length:=fun c hc=>Z0c FU hz (x:=.data e x0) hc trivial;have hcell:∃ c,e.rep.rel v c x0∧WAt w b (0+i*e.n+off) ((c.drop off).take q.1):=by
       cases fz with
       | false =>
        obtain ⟨ob,cap',cs,q1,q2,rfl⟩:=hes;have q1:γ kk = .own ob cap':=q1;rw [g1] at q1;cases q1;obtain ⟨j,hj⟩:=hmem _ (List.mem_singleton.2 rfl);have hrel:=Zca q2 c2;rw [ZR] at hrel;refine ⟨_,hrel,?_⟩;obtain ⟨_,_,_,_,k5⟩:=key _ hrel;have hl:=Rep.len _ hrel;rw [ZR] at hl;have hlen:((((cs.drop (i*e.n)).take e.n).drop off).take q.1).length=q.1:=by
         simp only [List.length_take,List.length_drop] at k5 ⊢;omega
        exact ZZc hr.st hj rfl g3 off _ (by rw [hlen]) (by rw [hlen];omega)
       | true =>
        obtain ⟨ob,cap',q1,q2,_⟩:=hes;have q1:γ kk = .own ob cap':=q1;rw [g1] at q1;cases q1;obtain ⟨_,b2,o2,cs2,e2,h2,h3⟩:=ZPa q2 c2
        cases e2
        refine ⟨cs2,h3,?_⟩;obtain ⟨_,_,_,_,k5⟩:=key _ h3;rw [ZR] at h2;exact Zao (hr.st.view h2) q.1 k5
      obtain ⟨c,hc1,hc2⟩:=hcell;obtain ⟨k1,k2,k3,k4,k5⟩:=key c hc1;exact ⟨z,_,Zfj hr.st hq hc2 k1 k3 k4 (ZHc FU hz) g2,ZBb k1 (fun c e=>by subst e;exact k1),k2,h⟩
     ·exact h.elim
    ·exact h.elim
   | box _ _=>exact h.elim
   | mat _ _ _ _ _=>exact h.elim
  · -- behind a pointer to what is shown
   rename_i e x0 off;obtain ⟨cs,h1,h2⟩:=Zob hp (fun _ e=>by cases e);obtain ⟨b,o,c,hA,hR,rfl⟩:=h1;split at h
   ·rename_i z hz;obtain ⟨k1,k2,k3,k4,k5⟩:=Z0c FU hz (x:=.data e x0) (γ:=γ) (l:=l) (U:=U) hR trivial;exact ⟨z,_,Zfj hr.st hq (Zao (hr.st.view hA) q.1 k5) k1 k3 k4 (ZHc FU hz) h2,ZBb k1 (fun c e=>by subst e;exact k1),k2,h⟩
   ·exact h.elim
  · -- a row's header
   rename_i u i hv cv e r;obtain ⟨en,he,h⟩:=h;obtain ⟨y,hy0,_,hy⟩:=ZIa hp (fun _ e=>by cases e) rfl rfl
   cases hy0
   have hy:=hy en he;obtain ⟨kk,st,L⟩:=en;obtain ⟨hkk,es,hes,hmem⟩:=hr.loc he
   cases L with
   | mat ty0 ty2 s m hv' =>
    simp only at h;have hkk:kk=u:=hkk;subst hkk;split at h
    ·rename_i b1 b2 b3;have b1:=Nat.eq_of_beq_eq_true b1;have b2:=Nat.eq_of_beq_eq_true b2;subst b1 b2;obtain ⟨b,cap,rows,g1,g2,g3,g4⟩:=hy;obtain ⟨m',c1,c2⟩:=g4 rfl;obtain ⟨c3,c4⟩:=Zwa c1
     cases c3;cases c4
     obtain ⟨ob,cap',rows',es2,q1,q2,rfl⟩:=hes;have q1:γ kk = .mat ob cap' rows':=q1;rw [g1] at q1;cases q1;obtain ⟨p,cs,r1,r2,r3⟩:=ZZe q2 c2;obtain ⟨j,hj⟩:=hmem _ List.mem_cons_self;have hh:=Z2o r1 c2;have hw:WAt w b (0+i*1) [.slice (mkA p.1) r.length p.2]:=by
      have hx:((ZZ rows m).drop (i*1)).take 1=[.slice (mkA p.1) r.length p.2]:=by
       have hlt:=(List.getElem?_eq_some_iff.1 hh).1;rw [Nat.mul_one,List.drop_eq_getElem_cons hlt];simp [(List.getElem?_eq_some_iff.1 hh).2]
      have:=ZZc hr.st hj hx g3 0 [.slice (mkA p.1) r.length p.2] rfl (by simp)
      simpa using this
     have hrow:RR v γ l false (.row kk i hv' st e r) [.slice (mkA p.1) r.length p.2]:=by
      refine ⟨_,rfl,rfl,fun e' he'=>?_⟩;rw [he] at he';cases he';exact fun _=>⟨_,_,_,p.1,p.2,g1,r1,rfl,⟨r,c2,rfl⟩,fun _=>⟨m,c1,c2⟩⟩
     obtain ⟨σ,hs',e1⟩:=hr.st.ev1 x;rw [g2] at e1;have ht:=ZPf hq;rw [b3] at ht;refine ⟨_,_,Zda hs' e1 ht hw,ZBb hrow (fun c e=>by cases e),⟨hk.1,hk.2.1,hk.2.2⟩,h⟩
    ·exact h.elim
   | box _ _=>exact h.elim
   | own _ _ _ _=>exact h.elim
  · -- an element of a row
   rename_i u i j hv cv e r x0 off;obtain ⟨en,he,h⟩:=h;obtain ⟨y,hy0,_,hy⟩:=ZIa hp (fun _ e=>by cases e) rfl rfl
   cases hy0
   have hy:=hy en he;obtain ⟨kk,st,L⟩:=en;obtain ⟨hkk,es,hes,hmem⟩:=hr.loc he
   cases L with
   | mat ty0 ty2 s m hv' =>
    simp only at h;have hkk:kk=u:=hkk;subst hkk;split at h
    ·rename_i b1 b2;have b1:=Nat.eq_of_beq_eq_true b1;have b2:=Nat.eq_of_beq_eq_true b2;subst b1 b2;split at h
     ·rename_i z hz;obtain ⟨ob,cap,rows,bi,capi,g1,g2,g3,g4,g5,g6⟩:=hy rfl;obtain ⟨⟨m',c1,c2⟩,cx⟩:=g6 rfl;obtain ⟨c3,c4⟩:=Zwa c1
      cases c3;cases c4
      obtain ⟨ob',cap',rows',es2,q1,q2,rfl⟩:=hes;have q1:γ kk = .mat ob' cap' rows':=q1;rw [g1] at q1;cases q1;obtain ⟨p,cs,r1,r2,r3⟩:=ZZe q2 c2;rw [g2] at r1;cases r1;obtain ⟨jj,hj⟩:=hmem _ (List.mem_cons_of_mem _ r3);have hrel:=Zca r2 cx;rw [ZR] at hrel;obtain ⟨k1,k2,k3,k4,k5⟩:=Z0c FU hz (x:=.data e x0) (γ:=γ) (l:=l) (U:=U) hrel trivial;have hl:=Rep.len _ hrel;rw [ZR] at hl;have hlen:((((cs.drop (j*e.n)).take e.n).drop off).take q.1).length=q.1:=by
       simp only [List.length_take,List.length_drop] at k5 ⊢;omega
      have hw:=ZZc hr.st hj rfl g5 off _ (by rw [hlen]) (by rw [hlen];omega);exact ⟨z,_,Zfj hr.st hq hw k1 k3 k4 (ZHc FU hz) g3,ZBb k1 (fun c e=>by subst e;exact k1),k2,h⟩
     ·exact h.elim
    ·exact h.elim
   | box _ _=>exact h.elim
   | own _ _ _ _=>exact h.elim
  ·exact h.elim
end
end Go.Eng
namespace Go.Eng
open Go.RowKit
theorem ZRh {P:Program} {t:TypeId} {i:TypeInfo} (h:P.info? t=some i) (w:World):(sizeOf t).run P w = .ok i.size w:=by simp [sizeOf,typeInfo,h]
theorem Z5p (k:IntKind):kEq k k=true:=by cases k <;> rfl
theorem ZUp (k:FloatKind):fEqK k k=true:=by cases k <;> rfl
theorem ZMg:∀ t:T,T.beq t t=true
 | .int k=>Z5p k
 | .bool | .str=>rfl
 | .flt k=>ZUp k
 | .one a=>ZMg a
 | .slice a=>ZMg a
 | .pair a b=>by simp only [T.beq,ZMg a,ZMg b]
 | .leaf i=>by simp [T.beq]
theorem ZZk {t:T} {x:t.den}:T.cast t t x=some x:=by
 unfold T.cast;have:∀ (b:Bool) (hb:T.beq t t=b),b=true→T.castB t t b hb x=some x:=by
  intro b hb e;subst e;rfl
 exact this _ rfl (ZMg t)
section
variable {P:Program} {N:Nat} {G:V→Value→Prop} {w0:Base} {v0:Za} {U X:Nat→Prop} {f:Fr} {l:Lo} {a:Act} {w:World} {γ:Nat→Gh} {v:Za} {ℓ:List Loc} {n:Nat}
variable {d:Option Nat} {ty:TypeId} {pos:String} {aft:Array Edge} {g:Option (Nat×Bool)}
theorem fldA_ok {s:TypeId} {k off:Nat} (h:fldA P s k=some off):ZLm P s k off:=by
 unfold fldA at h;split at h
 ·rename_i fs hfs;split at h
  ·rename_i fd hfd;split at h
   ·rename_i i hi;split at h
    ·rename_i hb
     cases h
     intro b o w;have h0:fs[k]? = some fd:=by rw [← Array.getElem?_toList];exact hfd
     have h1:¬ i.size=0:=by
      have h2:1≤i.size:=Nat.le_of_ble_eq_true hb;omega
     simp [Instr.fieldAt,run_underlying hfs,h0,Instr.sureAddr,fieldPlace,ZRh hi,h1,ZEa]
    ·cases h
   ·cases h
  ·cases h
 ·cases h
theorem Zse {b o:Nat}:plain (.pointer (some ⟨b,o,none⟩))=true:=rfl
theorem ZDl {ρ:Type} {p:V} {y:Value} {k:Ev ρ} {Post:ρ→Fr→Lo→Prop} (hp:RV v γ l p y) (hk:p.ok U) (h:Zn n (live p k) f l Post) :
  Zn n k f l Post∧∃ b o,y = .pointer (some ⟨b,o,none⟩)∧∀ off z,shift p off=some z→RV v γ l z (.pointer (some ⟨b,o+off,none⟩))∧z.ok U:=by
 unfold live at h;split at h
 ·rename_i u o;obtain ⟨en,he,h⟩:=h;obtain ⟨y,hy0,_,hy⟩:=ZIa hp (fun _ e=>by cases e) rfl rfl
  cases hy0
  have hy:=hy en he;obtain ⟨kk,st,L⟩:=en
  cases L with
  | box _ _ =>
   obtain ⟨b,g1,rfl⟩:=hy;refine ⟨h,b,o,rfl,fun off z hz=>?_⟩
   cases hz
   refine ⟨⟨[_],⟨_,rfl,Zse,fun e' he'=>?_⟩,rfl⟩,hk⟩;rw [he] at he';cases he';exact ⟨b,g1,rfl⟩
  | own _ _ _ _=>exact h.elim
  | mat _ _ _ _ _=>exact h.elim
 ·rename_i t x0 o;obtain ⟨cs,h1,h2⟩:=Zob hp (fun _ e=>by cases e);obtain ⟨b,o',c,hA,hR,rfl⟩:=h1;refine ⟨h,b,o'+o,h2,fun off z hz=>?_⟩
  cases hz
  exact ⟨⟨[_],⟨b,o',c,hA,hR,by rw [Nat.add_assoc]⟩,rfl⟩,trivial⟩
 ·rename_i u i cv t x0 o;obtain ⟨en,he,h⟩:=h;obtain ⟨y,hy0,_,hc0,hy⟩:=ZIa hp (fun _ e=>by cases e) rfl rfl
  cases hy0
  have hy:=hy en he;obtain ⟨kk,st,L⟩:=en
  cases L with
  | own _ s xs fz =>
   obtain ⟨b,cap,g1,rfl,g3,g4⟩:=hy;refine ⟨h,b,0+i*s.n+o,rfl,fun off z hz=>?_⟩
   cases hz
   refine ⟨⟨[_],⟨_,rfl,Zse,hc0,fun e' he'=>?_⟩,rfl⟩,hk⟩;rw [he] at he';cases he';exact ⟨b,cap,g1,by rw [Nat.add_assoc (0+i*s.n)],g3,g4⟩
  | box _ _=>exact h.elim
  | mat _ _ _ _ _=>exact h.elim
 ·rename_i u i j hv cv t r x0 o;obtain ⟨en,he,h⟩:=h;obtain ⟨y,hy0,_,hy⟩:=ZIa hp (fun _ e=>by cases e) rfl rfl
  cases hy0
  have hy:=hy en he;obtain ⟨kk,st,L⟩:=en
  cases L with
  | mat _ _ s m hv' =>
   simp only at h;split at h
   ·rename_i hb;have hb:=Nat.eq_of_beq_eq_true hb;subst hb;obtain ⟨ob,cap,rows,bi,capi,g1,g2,rfl,g4,g5,g6⟩:=hy rfl;refine ⟨h,bi,0+j*s.n+o,rfl,fun off z hz=>?_⟩
    cases hz
    refine ⟨⟨[_],⟨_,rfl,Zse,fun e' he'=>?_⟩,rfl⟩,hk⟩;rw [he] at he';cases he';exact fun _=>⟨ob,cap,rows,bi,capi,g1,g2,by rw [Nat.add_assoc (0+j*s.n)],g4,g5,g6⟩
   ·exact h.elim
  | box _ _=>exact h.elim
  | own _ _ _ _=>exact h.elim
 ·exact h.elim
theorem fldE_ok (hr:RelX N G w0 v0 U X f l a w γ v ℓ) {s:TypeId} {k0:Nat} {x:Operand} {p:V} {k:V→Ev Unit} {Post:Unit→Fr→Lo→Prop} (hp:RV v γ l p (a.eval x)) (hk:p.ok U)
  (h:Zn n (fldE P s k0 p k) f l Post):∃ z y,(execOp a.eval ⟨d,.fieldAddr s x k0,ty,pos,aft,g⟩).run P w = .ok (.value y) w∧RV v γ l z y∧z.ok U∧Zn n (k z) f l Post:=by
 unfold fldE at h;split at h
 ·rename_i off hoff;split at h
  ·rename_i z hz;obtain ⟨h,b,o,e,hs⟩:=ZDl hp hk h;obtain ⟨h1,h2⟩:=hs _ _ hz;obtain ⟨σ,hσ,e1⟩:=hr.st.ev1 x;rw [e] at e1;exact ⟨z,_,Zrt hσ e1 (fldA_ok hoff),h1,h2,h⟩
  ·exact h.elim
 ·exact h.elim
theorem ixA_ok (hr:RelX N G w0 v0 U X f l a w γ v ℓ) (hU:∀ k,U k→X k) (hX:X n) {t:TypeId} {x i:Operand} {o:Oper} {p:V} {κ:IntKind} {j:Int} {Post:Unit→Fr→Lo→Prop} (ho:o=⟨d,.indexAddr t x i,ty,pos,aft,g⟩) (hd:∀ k,o.dst=some k→k<N) (hp:RV v γ l p (a.eval x)) (hk:p.ok U)
  (hi:a.eval i = .int κ j) (h:Zn n (ixA P o t p j) f l Post):ZJa P N G w0 v0 X o a w Post:=by
 unfold ixA at h;split at h
 ·rename_i m e he;split at h
  ·rename_i inf hinf h0 h1;split at h
   ·rename_i z hz;obtain ⟨h,b,o',e',hs⟩:=ZDl hp hk h;obtain ⟨k1,k2⟩:=hs _ _ hz;obtain ⟨σ,hσ,e1,e2⟩:=hr.st.ev2 x i;rw [e'] at e1;rw [hi] at e2;have hA:ZUg P t m inf.size:=⟨e,fun w=>run_underlying he w,fun w=>ZRh hinf w⟩;subst ho;exact ZX hr hU (ZYs hσ hA e1 e2 (of_decide_eq_true h0) (of_decide_eq_true h1) _ rfl) hd hX k1 (V.ok.mono hU k2) h
   ·exact h.elim
  ·exact h.elim
 ·exact h.elim
theorem ixE_ok (hr:RelX N G w0 v0 U X f l a w γ v ℓ) (hU:∀ k,U k→X k) (hX:X n) {t:TypeId} {x i:Operand} {o:Oper} {p:V} {κ:IntKind} {j:Int} {Post:Unit→Fr→Lo→Prop} (ho:o=⟨d,.indexAddr t x i,ty,pos,aft,g⟩) (hd:∀ k,o.dst=some k→k<N) (hp:RV v γ l p (a.eval x)) (hk:p.ok U)
  (hi:a.eval i = .int κ j) (h:Zn n (ixE P o t p j) f l Post):ZJa P N G w0 v0 X o a w Post:=by
 unfold ixE at h;split at h
 ·exact ixA_ok hr hU hX ho hd hp hk hi h
 ·rename_i q hq;obtain ⟨σ,hσ,e1,e2⟩:=hr.st.ev2 x i;rw [hi] at e2;have hSl:=ZJj hq;split at h
  ·rename_i u;obtain ⟨en,he,h⟩:=h;obtain ⟨y,hy0,_,hy⟩:=ZIa hp (fun _ e=>by cases e) rfl rfl;have hy0:a.eval x=y:=(List.cons.inj hy0).1;rw [hy0] at e1;have hy:=hy en he;obtain ⟨kk,st,L⟩:=en;obtain ⟨hkk,es,hes,hmem⟩:=hr.loc he;have hkk:kk=u:=hkk;subst hkk;have hst:U kk:=hk
   cases L with
   | own ty0 s xs fz =>
    simp only at h;split at h
    ·rename_i hb;have hb:=Nat.eq_of_beq_eq_true hb;obtain ⟨yy,hyy,h⟩:=h;obtain ⟨j0,j1,j2,j3⟩:=Zg hyy;obtain ⟨ob,cap,g1,rfl⟩:=hy;have hob:∃ b,ob=some b:=by
      cases fz with
      | false =>
       obtain ⟨ob',cap',cs,q1,q2,rfl⟩:=hes;have q1:γ kk = .own ob' cap':=q1;rw [g1] at q1;cases q1;obtain ⟨jj,hj⟩:=hmem _ (List.mem_singleton.2 rfl);exact Znc hr.st hj (by omega)
      | true =>
       obtain ⟨ob',cap',q1,q2,_⟩:=hes;have q1:γ kk = .own ob' cap':=q1;rw [g1] at q1;cases q1;obtain ⟨_,b2,o2,cs2,e2,h2,h3⟩:=ZPa q2 j1
       cases ob with
       | none=>cases e2
       | some b=>exact ⟨b,rfl⟩
     obtain ⟨b,rfl⟩:=hob;have hc0:∃ c,s.rep.rel v c yy:=by
      cases fz with
      | false=>obtain ⟨_,_,cs,_,q2,_⟩:=hes;exact ⟨_,Zca q2 j1⟩
      | true=>obtain ⟨_,_,_,q2,_⟩:=hes;obtain ⟨_,_,_,cs,_,_,h3⟩:=ZPa q2 j1;exact ⟨cs,h3⟩
     subst ho;have hrun:=ZL (d:=d) (ty:=ty) (pos:=pos) (aft:=aft) (g:=g) hσ e1 e2 hSl j0 (by exact j2);rw [hb] at hrun;refine ZX hr hU hrun hd hX (x:=.el kk j.toNat st s yy 0) ⟨[_],⟨_,rfl,Zse,hc0,fun e' he'=>?_⟩,rfl⟩ ⟨hU _ hst,(hr.ul _ (ZD he).1).2.1⟩ h;rw [he] at he';cases he';exact ⟨b,cap,g1,rfl,j3,fun _=>⟨xs,by unfold Zld;exact ZZk,j1⟩⟩
    ·exact h.elim
   | mat ty0 ty2 s m hv =>
    simp only at h;split at h
    ·rename_i hb;have hb:=Nat.eq_of_beq_eq_true hb;obtain ⟨yy,hyy,h⟩:=h;obtain ⟨j0,j1,j2,j3⟩:=Zg hyy;obtain ⟨ob,cap,rows,g1,rfl⟩:=hy;obtain ⟨ob',cap',rows',es2,q1,q2,rfl⟩:=hes;have q1:γ kk = .mat ob' cap' rows':=q1;rw [g1] at q1;cases q1;obtain ⟨jj,hj⟩:=hmem _ List.mem_cons_self;obtain ⟨b,rfl⟩:=Znc hr.st hj (by omega);subst ho;have hrun:=ZL (d:=d) (ty:=ty) (pos:=pos) (aft:=aft) (g:=g) hσ e1 e2 hSl j0 (by exact j2);rw [hb] at hrun;refine ZX hr hU hrun hd hX (x:=.rp kk j.toNat hv st s yy) ⟨[_],⟨_,rfl,Zse,fun e' he'=>?_⟩,rfl⟩ ⟨hU _ hst,?_,(hr.ul _ (ZD he).1).2.1⟩ h
     ·rw [he] at he';cases he';exact ⟨b,cap,rows,g1,rfl,j3,fun _=>⟨m,by unfold Zgj;exact ZZk,j1⟩⟩
     ·exact (hr.ul _ (ZD he).1).2.2
    ·exact h.elim
   | box _ _=>exact h.elim
  ·rename_i s xs;obtain ⟨qa,m,c,hy,hR⟩:=Zkk hp;rw [hy] at e1;split at h
   ·rename_i hb;have hb:=Nat.eq_of_beq_eq_true hb;obtain ⟨yy,hyy,h⟩:=h;obtain ⟨j0,j1,j2,j3⟩:=Zg hyy;obtain ⟨e3,b2,o2,cs2,rfl,h2,h3⟩:=ZPa hR j1;subst ho;have hrun:=ZL (d:=d) (ty:=ty) (pos:=pos) (aft:=aft) (g:=g) hσ e1 e2 hSl j0 (by rw [e3];exact j2);rw [hb] at hrun;rw [ZR] at h2;exact ZX hr hU hrun hd hX (x:=.vp s yy 0) ⟨[_],⟨b2,_,cs2,h2,h3,rfl⟩,rfl⟩ trivial h
   ·exact h.elim
  ·rename_i m;obtain ⟨cs,h1,h2⟩:=Z2f hp;have h1:Zq.rel v cs m:=h1;obtain ⟨qa,n',k',rfl⟩:=Zaa h1;have hy:a.eval x = .slice qa n' k':=h2;rw [hy] at e1;split at h
   ·rename_i hb;have hb:=Nat.eq_of_beq_eq_true hb;obtain ⟨yy,hyy,h⟩:=h;obtain ⟨j0,j1,j2,j3⟩:=Zg hyy;obtain ⟨e3,b2,o2,cs2,rfl,h2,h3⟩:=ZPa (A:=Zc .u64) h1 j1;subst ho;have hrun:=ZL (d:=d) (ty:=ty) (pos:=pos) (aft:=aft) (g:=g) hσ e1 e2 hSl j0 (by rw [e3];exact j2);rw [hb] at hrun;exact ZX hr hU hrun hd hX (x:=.vp (.int .u64) yy 0) ⟨[_],⟨b2,_,cs2,h2,h3,rfl⟩,rfl⟩ trivial h
   ·exact h.elim
  ·rename_i m;obtain ⟨cs,h1,h2⟩:=Z2f hp;have h1:ZNa.rel v cs m:=h1;obtain ⟨qa,n',k',rfl⟩:=Z8c h1;have hy:a.eval x = .slice qa n' k':=h2;rw [hy] at e1;split at h
   ·rename_i hb;have hb:=Nat.eq_of_beq_eq_true hb;obtain ⟨yy,hyy,h⟩:=h;obtain ⟨j0,j1,j2,j3⟩:=Zg hyy;obtain ⟨e3,b2,o2,cs2,rfl,h2,h3⟩:=ZPa (A:=Zc .u32) h1 j1;subst ho;have hrun:=ZL (d:=d) (ty:=ty) (pos:=pos) (aft:=aft) (g:=g) hσ e1 e2 hSl j0 (by rw [e3];exact j2);rw [hb] at hrun;exact ZX hr hU hrun hd hX (x:=.vp (.int .u32) yy 0) ⟨[_],⟨b2,_,cs2,h2,h3,rfl⟩,rfl⟩ trivial h
   ·exact h.elim
  ·rename_i u i' hv cv s r;obtain ⟨en,he,h⟩:=h;obtain ⟨y,hy0,_,hy⟩:=ZIa hp (fun _ e=>by cases e) rfl rfl;have hy0:a.eval x=y:=(List.cons.inj hy0).1;rw [hy0] at e1;have hy:=hy en he;obtain ⟨kk,st,L⟩:=en;obtain ⟨hkk,es,hes,hmem⟩:=hr.loc he;have hkk:kk=u:=hkk;subst hkk
   cases L with
   | mat ty0 ty2 s' m hv' =>
    simp only at h;split at h
    ·rename_i b1 b2 b3;have b1:=Nat.eq_of_beq_eq_true b1;have b2:=Nat.eq_of_beq_eq_true b2;have b3:=Nat.eq_of_beq_eq_true b3;subst b1 b2;obtain ⟨yy,hyy,h⟩:=h;obtain ⟨j0,j1,j2,j3⟩:=Zg hyy;obtain ⟨ob,cap,rows,obi,capi,g1,g2,rfl,g4,g5⟩:=hy rfl;obtain ⟨m',c1,c2⟩:=g5 rfl;obtain ⟨c3,c4⟩:=Zwa c1
     cases c3;cases c4
     obtain ⟨ob',cap',rows',es2,q1,q2,rfl⟩:=hes;have q1:γ kk = .mat ob' cap' rows':=q1;rw [g1] at q1;cases q1;obtain ⟨p',cs,r1,r2,r3⟩:=ZZe q2 c2;rw [g2] at r1;cases r1;obtain ⟨jj,hj⟩:=hmem _ (List.mem_cons_of_mem _ r3);obtain ⟨bi,hbi⟩:=Znc hr.st hj (by omega);have hbi:obi=some bi:=hbi;subst hbi;subst ho;have hrun:=ZL (d:=d) (ty:=ty) (pos:=pos) (aft:=aft) (g:=g) hσ e1 e2 hSl j0 j2;rw [b3] at hrun;refine ZX hr hU hrun hd hX (x:=.rel kk i' j.toNat hv' st s r yy 0) ⟨[_],⟨_,rfl,Zse,fun e' he'=>?_⟩,rfl⟩ ⟨hU _ hk.1,hU _ hk.2.1,hU _ hk.2.2⟩ h;rw [he] at he';cases he';exact fun _=>⟨_,_,_,bi,capi,g1,g2,rfl,g4,j3,fun _=>⟨⟨m,c1,c2⟩,j1⟩⟩
    ·exact h.elim
   | box _ _=>exact h.elim
   | own _ _ _ _=>exact h.elim
  ·exact h.elim
theorem lenE_ok (hr:RelX N G w0 v0 U X f l a w γ v ℓ) {t:TypeId} {x:Operand} {p:V} {k:Nat→Ev Unit} {Post:Unit→Fr→Lo→Prop} (hp:RV v γ l p (a.eval x)) (h:Zn n (lenE P t p k) f l Post) :
  ∃ m:Nat,(execOp a.eval ⟨d,.call ⟨.builtin .len,#[x],#[t]⟩,ty,pos,aft,g⟩).run P w = .ok (.value (.int .i64 m)) w∧inR .i64 (m:Int)∧Zn n (k m) f l Post:=by
 obtain ⟨σ,hσ,e1⟩:=hr.st.ev1 x;unfold lenE at h;split at h
 ·obtain ⟨h1,h2⟩:=Zkf hp;rw [h1] at e1;split at h
  ·rename_i ht;exact ⟨_,Zwm hσ e1 rfl ht,str_inR h2,h⟩
  ·exact h.elim
 ·split at h
  ·exact h.elim
  ·rename_i q hq;have hSl:=ZJj hq;split at h
   ·rename_i u _;obtain ⟨en,he,h⟩:=h;obtain ⟨y,hy0,_,hy⟩:=ZIa hp (fun _ e=>by cases e) rfl rfl;have hy0:a.eval x=y:=(List.cons.inj hy0).1;rw [hy0] at e1;have hy:=hy en he;obtain ⟨kk,st,L⟩:=en;obtain ⟨hkk,es,hes,hmem⟩:=hr.loc he;have hkk:kk=u:=hkk;subst hkk
    cases L with
    | own ty0 s xs fz =>
     obtain ⟨ob,cap,g1,rfl⟩:=hy;refine ⟨_,Zvd hσ e1 rfl hSl,?_,h⟩
     cases fz with
     | false =>
      obtain ⟨ob',cap',cs,q1,q2,rfl⟩:=hes;obtain ⟨jj,hj⟩:=hmem _ (List.mem_singleton.2 rfl);exact ZBk hr.st hj
     | true =>
      obtain ⟨ob',cap',q1,q2,_⟩:=hes;exact Zxg q2
    | mat ty0 ty2 s m hv =>
     obtain ⟨ob,cap,rows,g1,rfl⟩:=hy;obtain ⟨ob',cap',rows',es2,q1,q2,rfl⟩:=hes;obtain ⟨jj,hj⟩:=hmem _ List.mem_cons_self;exact ⟨_,Zvd hσ e1 rfl hSl,ZBk hr.st hj,h⟩
    | box _ _=>exact h.elim
   ·rename_i s xs _;obtain ⟨qa,m,c,hy,hR⟩:=Zkk hp;have hm:m=xs.length:=by obtain ⟨_,_,e,_⟩:=hR;cases e;rfl
    rw [hy,hm] at e1;rw [hm] at hR;exact ⟨_,Zvd hσ e1 rfl hSl,Zxg hR,h⟩
   ·rename_i m _;obtain ⟨cs,h1,h2⟩:=Z2f hp;have h1:Zq.rel v cs m:=h1;obtain ⟨qa,n',k',rfl⟩:=Zaa h1;have hy:a.eval x = .slice qa n' k':=h2;have hm:n'=(Zd 18446744073709551616 m).length:=by obtain ⟨_,_,e,_⟩:=h1;cases e;rfl
    rw [hy,hm] at e1;rw [hm] at h1;exact ⟨_,Zvd hσ e1 rfl hSl,Zxg (A:=Zc .u64) h1,h⟩
   ·rename_i m _;obtain ⟨cs,h1,h2⟩:=Z2f hp;have h1:ZNa.rel v cs m:=h1;obtain ⟨qa,n',k',rfl⟩:=Z8c h1;have hy:a.eval x = .slice qa n' k':=h2;have hm:n'=(Zd 4294967296 m).length:=by obtain ⟨_,_,e,_⟩:=h1;cases e;rfl
    rw [hy,hm] at e1;rw [hm] at h1;exact ⟨_,Zvd hσ e1 rfl hSl,Zxg (A:=Zc .u32) h1,h⟩
   ·rename_i u i' hv cv s r _;obtain ⟨en,he,h⟩:=h;obtain ⟨y,hy0,_,hy⟩:=ZIa hp (fun _ e=>by cases e) rfl rfl;have hy0:a.eval x=y:=(List.cons.inj hy0).1;rw [hy0] at e1;have hy:=hy en he;obtain ⟨kk,st,L⟩:=en;obtain ⟨hkk,es,hes,hmem⟩:=hr.loc he;have hkk:kk=u:=hkk;subst hkk
    cases L with
    | mat ty0 ty2 s' m hv' =>
     simp only at h;split at h
     ·rename_i b1;have b1:=Nat.eq_of_beq_eq_true b1;subst b1;obtain ⟨ob,cap,rows,obi,capi,g1,g2,rfl,⟨ri,g4,g4'⟩,g5⟩:=hy rfl;obtain ⟨ob',cap',rows',es2,q1,q2,rfl⟩:=hes;have q1:γ kk = .mat ob' cap' rows':=q1;rw [g1] at q1;cases q1;obtain ⟨p',cs,r1,r2,r3⟩:=ZZe q2 g4;obtain ⟨jj,hj⟩:=hmem _ (List.mem_cons_of_mem _ r3);have:=ZBk hr.st hj;rw [g4'] at this;exact ⟨_,Zvd hσ e1 rfl hSl,this,h⟩
     ·exact h.elim
    | box _ _=>exact h.elim
    | own _ _ _ _=>exact h.elim
   ·exact h.elim
theorem Z4n {t:TypeId} {q:Nat×Bool} (ht:szA P t=some q) {x z:V} {off:Nat} {cs:List Value} (hg:Zea FU x off q.1 q.2=some z) (hx:RR v γ l false x cs) (hk:x.ok U) (w:World) :
  (part t cs.toArray off).run P w = .ok (z.val ((cs.drop off).take q.1)) w∧RR v γ l false z ((cs.drop off).take q.1)∧z.ok U:=by
 obtain ⟨k1,k2,k3,k4,k5⟩:=Z0c FU hg hx hk;refine ⟨?_,k1,k2⟩;have hS:=ZPf ht;unfold part
 cases hag:q.2 with
 | true =>
  have h1:=hS.agg w;rw [hag] at h1;have h3:(cs.toArray.extract off (off+q.1))=((cs.drop off).take q.1).toArray:=by
   apply Array.ext';rw [Array.toList_extract];simp [List.extract,List.take_drop]
  simp [h1,hS.size,V.val,k4,hag]
 | false =>
  have h1:=hS.agg w;rw [hag] at h1;have h2:=ZHc FU hg (by rw [k4,hag]);have h3:=Zof k1 h2 (by rw [k4,hag]);have h4:cs[off]? = some (z.val ((cs.drop off).take q.1)):=by
   have:((cs.drop off).take q.1)[0]? = some (z.val ((cs.drop off).take q.1)):=by
    conv=>lhs;rw [h3]
    rfl
   rw [List.getElem?_take_of_lt (by omega),List.getElem?_drop] at this
   simpa using this
  have h4':cs.toArray[off]? = some (z.val ((cs.drop off).take q.1)):=by simpa using h4
  simp [h1,h4']
end
end Go.Eng
namespace Go.Eng
open Go.RowKit
variable {K:Nat} {w0:Base} {v0:Za} {σ:List (Nat×Value)} {ℓ:List Loc} {v:Za} {a:Act} {w:World}
theorem Z7o {α:Type} {A:Rep α} {v:Za} {cs c d:List Value} {l:List α} {i sz m p:Nat} {x:α} (h:A.rels v cs l) (hi:i<l.length) (hc:(cs.drop (i*sz)).take sz=c)
  (hx:A.rel v (c.take p++d++c.drop (p+m)) x) (hsz:sz=A.n) (hp:p+m≤sz) :
  A.rels v (cs.take (0+i*sz+p)++d++cs.drop (0+i*sz+p+m)) (l.set i x):=by
 have hl:=ZAd h;have h1:i*sz+sz≤cs.length:=by
  rw [hl,← hsz,← Nat.succ_mul];exact Nat.mul_le_mul_right _ hi
 have key:=Zpc (sz:=sz) (m:=sz) h hi hx hsz hsz;have e1:cs.take (0+i*sz+p)=cs.take (0+i*sz)++c.take p:=by
  rw [← hc,List.take_take,Nat.min_eq_left (by omega),Nat.zero_add,List.take_add]
 have e2:cs.drop (0+i*sz+p+m)=c.drop (p+m)++cs.drop (0+i*sz+sz):=by
  rw [← hc,List.drop_take,List.drop_drop,Nat.zero_add,show i*sz+p+m=i*sz+(p+m) by omega];have e3:cs.drop (i*sz+sz)=(cs.drop (i*sz+(p+m))).drop (sz-(p+m)):=by
   rw [List.drop_drop];congr 1;omega
  rw [e3,List.take_append_drop]
 rw [e1,e2]
 simpa [List.append_assoc] using key
theorem Z2m (hS:St K w0 v0 σ ℓ v a w) {j n cap sz:Nat} {b:Option Nat} {T:TypeId} {cs:List Value} (hj:ℓ[j]? = some (.own b T sz n cap cs)) {i p m:Nat} (h:i<n) (hp:p+m≤sz):0+i*sz+p+m≤cs.length:=by
 have:=ZGc hS hj h;omega
end Go.Eng
namespace Go.Eng
open Go.RowKit
theorem St.bare {K:Nat} {w0:Base} {v0:Za} {σ:List (Nat×Value)} {ℓ:List Loc} {v:Za} {a:Act} {w:World} (h:St K w0 v0 σ ℓ v a w):St K w0 v0 [] ℓ v a w:=h.frame Zrq
theorem ZMi {v:Za} {γ:Nat→Gh} {l:Lo} {x:V} {cs:List Value} (h:RR v γ l false x cs) (hf:x.fit=true):cellsOf (x.val cs) cs∧cs.all plain=true:=by
 unfold V.fit at hf;have hp:x.plain=true:=by
  cases hp:x.plain
  ·rw [hp] at hf;cases hf
  ·rfl
 have hpl:=Zns hp h;refine ⟨?_,hpl⟩;rw [hp] at hf;unfold V.val
 cases ha:x.isAgg with
 | true=>exact Z9q cs
 | false =>
  rw [ha] at hf;have hs:=Nat.eq_of_beq_eq_true hf;have e:=Zof h hs ha;have hv:x.val cs=cs.headD undef:=by unfold V.val;rw [ha]
  rw [hv] at e;rw [e] at hpl;have hpl':plain (cs.headD undef)=true:=by simpa using hpl
  have:=ZYb hpl';show cellsOf (cs.headD undef) cs
  conv=>arg 2;rw [e]
  exact this
theorem ZKk {x:V} (hf:x.fit=true):∀ c,x ≠ .tup c:=fun c e=>by subst e;cases hf
section
variable {P:Program} {N:Nat} {G:V→Value→Prop} {w0:Base} {v0:Za} {U X:Nat→Prop} {f:Fr} {l:Lo} {a:Act} {w:World} {γ:Nat→Gh} {v:Za} {ℓ:List Loc} {n:Nat}
variable {ty:TypeId} {pos:String} {aft:Array Edge} {g:Option (Nat×Bool)}
theorem ZJh {o:Oper} {l':Lo} {w':World} {γ':Nat→Gh} {v':Za} {ℓ':List Loc} {Post:Unit→Fr→Lo→Prop} (hr:RelX N G w0 v0 U X f l' a w' γ' v' ℓ') (hU:∀ k,U k→X k) (ho:o.dst=none) (hrun:(execOp a.eval o).run P w = .ok .skip w') (h:Post () f l'):ZJa P N G w0 v0 X o a w Post:=by
 refine Zml hrun ?_;rw [ho];exact ⟨_,_,h,_,_,_,hr.mono hU fun _ h=>h⟩
theorem all_upd {cs0 cs:List Value} {off:Nat} (h0:cs0.all plain=true) (h1:cs.all plain=true):(cs0.take off++cs++cs0.drop (off+cs.length)).all plain=true:=by
 have h0':=List.all_eq_true.1 h0;refine List.all_eq_true.2 fun x hx=>?_;rcases List.mem_append.1 hx with hx | hx
 ·rcases List.mem_append.1 hx with hx | hx
  ·exact h0' x (List.mem_of_mem_take hx)
  ·exact List.all_eq_true.1 h1 x hx
 ·exact h0' x (List.mem_of_mem_drop hx)
theorem ZWk {t:T} {x:t.den} {z x':V} {off:Nat} {cs cz:List Value} (hg:ZMa FU (.data t x) off z=some x') (hx:t.rep.rel v cs x) (hz:RR v γ l false z cz) (hkz:z.ok U) :
  RR v γ l false x' (cs.take off++cz++cs.drop (off+cz.length))∧x'.ok U∧off+cz.length≤t.n:=by
 obtain ⟨h1,h2,h3,_⟩:=ZKd FU hg (γ:=γ) (l:=l) (x:=.data t x) hx hz trivial hkz;refine ⟨h1,h2,?_⟩;have:=Rep.len _ hx;rw [ZR] at this;omega
theorem ZWn {t:T}:∀ {rows:List (Option Nat×Nat)} {m:List (List t.den)} {es:List Loc} {i:Nat} {p:Option Nat×Nat} {r:List t.den},Zrb v ty t rows m es→rows[i]? = some p→m[i]? = some r →
  ∃ cs e1 e2,es=e1 ++ .own p.1 ty t.n r.length p.2 cs :: e2∧t.rep.rels v cs r∧∀ (r':List t.den) (cs':List Value),r'.length=r.length→t.rep.rels v cs' r'→ZZ rows (m.set i r')=ZZ rows m∧Zrb v ty t rows (m.set i r') (e1 ++ .own p.1 ty t.n r.length p.2 cs' :: e2)
 | [],[],_,_,_,_,_,h,_=>by simp at h
 | q :: ps,r0 :: rs,es,0,p,r,⟨cs,es',h1,h2,h3⟩,hp,hr=>by
  simp at hp hr
  subst hp hr
  refine ⟨cs,[],es',by simpa using h2,h1,fun r' cs' hl hc=>⟨by simp [ZZ,hl],?_⟩⟩
  exact ⟨cs',es',hc,by rw [← hl];rfl,h3⟩
 | q :: ps,r0 :: rs,es,i+1,p,r,⟨cs,es',h1,h2,h3⟩,hp,hr=>by
  simp only [List.getElem?_cons_succ] at hp hr
  obtain ⟨c2,e1,e2,k2,k3,k4⟩:=ZWn h3 hp hr
  subst k2
  refine ⟨c2,.own q.1 ty t.n r0.length q.2 cs :: e1,e2,by simpa using h2,k3,fun r' cs' hl hc=>?_⟩
  obtain ⟨k5,k6⟩:=k4 r' cs' hl hc
  exact ⟨by simp only [List.set_cons_succ,ZZ,k5],cs,_,h1,rfl,k6⟩
 | [],_ :: _,_,_,_,_,k,_,_=>k.elim
 | _ :: _,[],_,_,_,_,k,_,_=>k.elim
theorem Zyn {t:T} {p:Option Nat×Nat} {r':List t.den} {cs':List Value}:∀ {rows:List (Option Nat×Nat)} {m:List (List t.den)} {es:List Loc} {i:Nat} {p0:Option Nat×Nat},Zrb v ty t rows m es→rows[i]? = some p0→t.rep.rels v cs' r' →
  (ZZ rows m).take i++[Value.slice (mkA p.1) r'.length p.2]++(ZZ rows m).drop (i+1)=ZZ (rows.set i p) (m.set i r')∧∃ e1 e2 c,es=e1++c :: e2∧Zrb v ty t (rows.set i p) (m.set i r') (e1 ++ .own p.1 ty t.n r'.length p.2 cs' :: e2)
 | [],[],_,_,_,_,h,_=>by simp at h
 | q :: ps,r0 :: rs,es,0,p0,⟨cs,es',h1,h2,h3⟩,hp,hc=>by
  refine ⟨by simp [ZZ],[],es',_,by simpa using h2,?_⟩
  exact ⟨cs',es',hc,rfl,h3⟩
 | q :: ps,r0 :: rs,es,i+1,p0,⟨cs,es',h1,h2,h3⟩,hp,hc=>by
  simp only [List.getElem?_cons_succ] at hp
  obtain ⟨k1,e1,e2,c,k2,k3⟩:=Zyn (p:=p) h3 hp hc
  subst k2
  refine ⟨by simp only [List.set_cons_succ,ZZ,List.take_succ_cons,List.drop_succ_cons,List.cons_append,k1],.own q.1 ty t.n r0.length q.2 cs :: e1,e2,c,by simpa using h2,?_⟩
  exact ⟨cs,_,h1,rfl,k3⟩
 | [],_ :: _,_,_,_,k,_,_=>k.elim
 | _ :: _,[],_,_,_,k,_,_=>k.elim
theorem Z8p {α:Type} {m:List (List α)} {i:Nat} {r r':List α} (hr:m[i]? = some r) (hl:r'.length=r.length):(m.set i r').map List.length=m.map List.length:=by
 apply List.ext_getElem?;intro j;simp only [List.getElem?_map];by_cases h:i=j
 ·subst h;have hlt:=(List.getElem?_eq_some_iff.1 hr).1;rw [List.getElem?_set_self hlt,hr];simp [hl]
 ·rw [List.getElem?_set_ne h]
theorem Zlg:∀ (g:Nat) {x z x':V} {off:Nat},ZMa g x off z=some x'→x.ok U→z.ok U→x'.ok U
 | 0,_,_,_,_,h,_,_=>by cases h
 | g+1,x,z,x',off,h,hk,hkz=>by
  have whole:∀ {y:V},(match Nat.beq off 0,Nat.beq y.size z.size,eqB y.isAgg z.isAgg with
    | true,true,true=>some z
    | _,_,_=>match y with
     | .agg c=>match ZMa g c off z with
      | some c'=>some (.agg c')
      | none=>none
     | .data t x=>match Zjb t x with
      | some c=>match ZMa g c off z with
       | some c'=>some (.agg c')
       | none=>none
      | none=>none
     | _=>none)=some x'→y.ok U→x'.ok U:=by
   intro y hy hk;split at hy
   ·cases hy;exact hkz
   ·split at hy
    ·split at hy
     ·rename_i c' he;cases hy;exact (show V.ok U c' from Zlg g he hk hkz)
     ·cases hy
    ·split at hy
     ·rename_i c hc;split at hy
      ·rename_i c' he;cases hy;exact (show V.ok U c' from Zlg g he (Zsl hc) hkz)
      ·cases hy
     ·cases hy
    ·cases hy
  cases x with
  | nl=>simp only [ZMa] at h;cases h
  | cons a b =>
   simp only [ZMa] at h;split at h
   ·split at h
    ·rename_i he;cases h;exact ⟨Zlg g he hk.1 hkz,hk.2⟩
    ·cases h
   ·split at h
    ·split at h
     ·rename_i he;cases h;exact ⟨hk.1,Zlg g he hk.2 hkz⟩
     ·cases h
    ·cases h
  | data t x=>exact whole (y:=.data t x) h hk
  | agg c=>exact whole (y:=.agg c) h hk
  | nilS=>exact whole (y:=.nilS) h hk
  | own u=>exact whole (y:=.own u) h hk
  | row u i hv cv t r=>exact whole (y:=.row u i hv cv t r) h hk
  | ptr u o=>exact whole (y:=.ptr u o) h hk
  | el u i cv t x o=>exact whole (y:=.el u i cv t x o) h hk
  | rp u i hv cv t r=>exact whole (y:=.rp u i hv cv t r) h hk
  | rel u i j hv cv t r x o=>exact whole (y:=.rel u i j hv cv t r x o) h hk
  | vp t x o=>exact whole (y:=.vp t x o) h hk
  | tup c=>exact whole (y:=.tup c) h hk
  | fn f c=>exact whole (y:=.fn f c) h hk
  | ifc f c=>exact whole (y:=.ifc f c) h hk
  | undef=>exact whole (y:=.undef) h hk
theorem Z3h {b off:Nat} {c c':List Value} (h:WAt w b off c) (h':WAt w b off c') (hl:c.length=c'.length):c=c':=by
 obtain ⟨x,T,fr,h1,h2⟩:=h;obtain ⟨x',T',fr',h3,h4⟩:=h';rw [h1] at h3;cases h3;rw [← h2,← h4,hl]
theorem Zto (hr:RelX N G w0 v0 U X f l a w γ v ℓ) {u k st:Nat} {ty0:TypeId} {t:T} {xs:List t.den} {fz:Bool} (he:lkE l u=some ⟨k,st,.own ty0 t xs fz⟩) {b cap i:Nat} {x:t.den} (hγ:γ u = .own (some b) cap) (hx:xs[i]? = some x):∃ c,t.rep.rel v c x∧WAt w b (0+i*t.n) c:=by
 obtain ⟨hkk,es,hes,hmem⟩:=hr.loc he;have hkk:k=u:=hkk;subst hkk
 cases fz with
 | false =>
  obtain ⟨ob,cap',cs,q1,q2,rfl⟩:=hes;have q1:γ k = .own ob cap':=q1;rw [hγ] at q1;cases q1;obtain ⟨j,hj⟩:=hmem _ (List.mem_singleton.2 rfl);have hrel:=Zca q2 hx;rw [ZR] at hrel;have hl:=Rep.len _ hrel;rw [ZR] at hl;refine ⟨_,hrel,?_⟩;have:=ZZc hr.st hj rfl (List.getElem?_eq_some_iff.1 hx).1 0 ((cs.drop (i*t.n)).take t.n) (by rw [hl,List.drop_zero,List.take_take,Nat.min_self]) (by omega)
  simpa using this
 | true =>
  obtain ⟨ob,cap',q1,q2,_⟩:=hes;have q1:γ k = .own ob cap':=q1;rw [hγ] at q1;cases q1;obtain ⟨_,b2,o2,cs2,e2,h2,h3⟩:=ZPa q2 hx
  cases e2
  rw [ZR] at h2;exact ⟨cs2,h3,hr.st.view h2⟩
theorem Zyo (hr:RelX N G w0 v0 U X f l a w γ v ℓ) {u k st hv:Nat} {ty0 ty2:TypeId} {t:T} {m:List (List t.den)} (he:lkE l u=some ⟨k,st,.mat ty0 ty2 t m hv⟩) {ob:Option Nat} {cap i j bi capi:Nat} {rows:List (Option Nat×Nat)} {r:List t.den} {x:t.den}
  (hγ:γ u = .mat ob cap rows) (hrow:rows[i]? = some (some bi,capi)) (hm:m[i]? = some r) (hx:r[j]? = some x):∃ c,t.rep.rel v c x∧WAt w bi (0+j*t.n) c:=by
 obtain ⟨hkk,es,hes,hmem⟩:=hr.loc he;have hkk:k=u:=hkk;subst hkk;obtain ⟨ob',cap',rows',es2,q1,q2,rfl⟩:=hes;have q1:γ k = .mat ob' cap' rows':=q1;rw [hγ] at q1;cases q1;obtain ⟨p',cs,r1,r2,r3⟩:=ZZe q2 hm;rw [hrow] at r1;cases r1;obtain ⟨jj,hj⟩:=hmem _ (List.mem_cons_of_mem _ r3);have hrel:=Zca r2 hx;rw [ZR] at hrel;have hl:=Rep.len _ hrel;rw [ZR] at hl;refine ⟨_,hrel,?_⟩;have:=ZZc hr.st hj rfl (List.getElem?_eq_some_iff.1 hx).1 0 ((cs.drop (j*t.n)).take t.n) (by rw [hl,List.drop_zero,List.take_take,Nat.min_self]) (by omega)
 simpa using this
theorem stE_ok (hr:RelX N G w0 v0 U X f l a w γ v ℓ) (hU:∀ k,U k→X k) (hX:X n) (hn:¬ U n) {t:TypeId} {x y:Operand} {o:Oper} {p q:V} {Post:Unit→Fr→Lo→Prop} (ho:o=⟨none,.store t x y,ty,pos,aft,g⟩) (hp:RV v γ l p (a.eval x)) (hq:RV v γ l q (a.eval y)) (hk:p.ok U) (hkq:q.ok U)
  (h:Zn n (stE P n t p q) f l Post):ZJa P N G w0 v0 X o a w Post:=by
 unfold stE at h;split at h
 ·exact h.elim
 ·rename_i sz hsz;split at h
  ·rename_i b1 b2 b3;have b1:=Nat.eq_of_beq_eq_true b1;have b2:=ZNk b2;obtain ⟨cs,hcs,hqe⟩:=Zob hq (ZKk b3);obtain ⟨hcells,hpl⟩:=ZMi hcs b3;have hlen:cs.length=sz.1:=(ZNc hcs).trans b1;have hS:=ZPf hsz;split at h
   · -- a variable
    rename_i u off;obtain ⟨en,he,h⟩:=h;obtain ⟨yy,hy0,_,hy⟩:=ZIa hp (fun _ e=>by cases e) rfl rfl;have hy0:a.eval x=yy:=(List.cons.inj hy0).1;have hy:=hy en he;obtain ⟨kk,st,L⟩:=en;obtain ⟨hm,hkk⟩:=ZD he;have hkk:kk=u:=hkk;subst hkk
    cases L with
    | box ty0 c =>
     simp only at h;obtain ⟨b',g4,rfl⟩:=hy;split at h
     ·rename_i c' hc';obtain ⟨es,E',h1,h2,_,h3,_⟩:=hr.del he;obtain ⟨b,cs0,g1,g2,g3,rfl⟩:=h1;have g1:γ kk = .box b:=g1;rw [g1] at g4;cases g4;have hcok:c.ok U:=(hr.ul _ hm).2.2;obtain ⟨k1,k2,k3,_⟩:=ZKd FU hc' g2 hcs hcok hkq;rw [hlen] at k3;have hs:=hr.st.perm h3;obtain ⟨σ,hσ,e1,e2⟩:=hs.ev2 x y;rw [hy0] at e1;rw [hqe] at e2;obtain ⟨w',hrun,hst⟩:=ZGm (P:=P) hσ hS hcells hlen (i:=0) rfl (by omega) hpl;have hle:Le U v γ l v γ (⟨kk,n,.box ty0 c'⟩ :: era l kk):=Le.upd hr he (Za.le_refl _) (fun _ _=>rfl) rfl;subst ho;refine ZJh (hr.upd hX (hr.ul _ hm).1 h2 hst.bare hle (fun _ _=>rfl) ⟨_,_,g1,ZZa hle k2 k1,all_upd g3 hpl,rfl⟩ (List.Perm.refl _) k2) hU rfl (hrun e1 e2) h
     ·exact h.elim
    | own _ _ _ _=>exact h.elim
    | mat _ _ _ _ _=>exact h.elim
   · -- an element
    rename_i u i cv s x0 off;split at h
    ·rename_i z hz;obtain ⟨yy,hy0,_,⟨c0,hc0⟩,hy⟩:=ZIa hp (fun _ e=>by cases e) rfl rfl;have hy0:a.eval x=yy:=(List.cons.inj hy0).1;obtain ⟨z1,z2,z3⟩:=ZWk hz hc0 hcs hkq;obtain ⟨y1,l1,γ1,v1,ℓ1,h,r1,le1,q1⟩:=Z0d hn hX FU h hr z2;obtain ⟨en,he,h⟩:=h;have hp1:=Zgb le1 hk hp;obtain ⟨yy',hy0',_,_,hy⟩:=ZIa hp1 (fun _ e=>by cases e) rfl rfl;have hy0':a.eval x=yy':=(List.cons.inj hy0').1;have hy:=hy en he;obtain ⟨kk,st,L⟩:=en;obtain ⟨hm,hkk⟩:=ZD he;have hkk:kk=u:=hkk;subst hkk
     cases L with
     | own ty0 s' xs fz =>
      cases fz with
      | true=>exact h.elim
      | false =>
       simp only at h;obtain ⟨b,cap,g1,rfl,g3,g4⟩:=hy;obtain ⟨es,E',h1,h2,_,h3,_⟩:=r1.del he;obtain ⟨ob,cap',cs1,f1,f2,rfl⟩:=h1;have f1:γ1 kk = .own ob cap':=f1;rw [g1] at f1;cases f1;have fin:∀ (c:List Value) (y':s'.den),(cs1.drop (i*s'.n)).take s'.n=c→off+sz.1≤s'.n→s'.rep.rel v1 (c.take off++cs++c.drop (off+sz.1)) y'→Post () f (⟨kk,n,.own ty0 s' (xs.set i y') false⟩ :: era l1 kk)→ZJa P N G w0 v0 X o a w Post:=by
        intro c y' hc hfit hrel hpost;have hs:=r1.st.perm h3;obtain ⟨σ,hσ,e1,e2⟩:=hs.ev2 x y;rw [hy0'] at e1;rw [hqe] at e2;have hset:=Z7o f2 g3 hc hrel (ZR s').symm hfit;have hcl:=ZAd f2;rw [ZR] at hcl;have hfit2:0+i*s'.n+off+sz.1≤cs1.length:=Z2m hs (j:=0) rfl g3 hfit;obtain ⟨w',hrun,hst⟩:=Zdc (P:=P) hσ hS hcells hlen (i:=0) rfl hfit2 hpl;rw [hlen] at hst;have hle:Le U v1 γ1 l1 v1 γ1 (⟨kk,n,.own ty0 s' (xs.set i y') false⟩ :: era l1 kk):=Le.upd r1 he (Za.le_refl _) (fun _ _=>rfl) ⟨rfl,rfl,by simp,fun e=>absurd e hn⟩;have hst':St N w0 v0 [] (.own (some b) ty0 s'.n (xs.set i y').length cap (cs1.take (0+i*s'.n+off)++cs++cs1.drop (0+i*s'.n+off+sz.1)) :: E'.flatten) v1 a w':=by
         rw [List.length_set];exact hst.bare
        subst ho;exact ZJh (r1.upd hX (r1.ul _ hm).1 h2 hst' hle (fun _ _=>rfl) ⟨some b,cap,_,g1,hset,rfl⟩ (List.Perm.refl _) trivial) hU rfl (hrun e1 e2) hpost
       have full:off=0→sz.1=s.n→∀ y',T.cast s s' y1=some y'→Post () f (⟨kk,n,.own ty0 s' (xs.set i y') false⟩ :: era l1 kk)→ZJa P N G w0 v0 X o a w Post:=by
        intro e0 e1 y' hc hpost;obtain ⟨c3,c4⟩:=Zwa hc;subst c3;subst c4;refine fin _ y1 rfl (by omega) ?_ hpost;have hl0:=Rep.len _ hc0;rw [ZR] at hl0;have hcl:=ZAd f2;rw [ZR] at hcl;have hdl:((cs1.drop (i*s.n)).take s.n).length=s.n:=by
         have:i*s.n+s.n≤cs1.length:=by rw [hcl,← Nat.succ_mul];exact Nat.mul_le_mul_right _ g3
         simp;omega
        have q1:=q1 _ z1;rw [e0] at q1 ⊢;rw [List.take_zero,List.drop_of_length_le (by omega)] at q1 ⊢;exact q1
       split at h
       ·rename_i hh1 hh2;split at h
        ·rename_i y' hy';exact full (Nat.eq_of_beq_eq_true hh1) (b1.symm.trans (Nat.eq_of_beq_eq_true hh2)) y' hy' h
        ·exact h.elim
       ·rename_i hcv _;split at h
        ·rename_i y' hy';obtain ⟨ys,c1,c2⟩:=g4 (Nat.eq_of_beq_eq_true hcv);obtain ⟨c3,c4⟩:=Zwa c1
         cases c3;cases c4
         rw [ZZk] at hy';cases hy';have hrel:=Zca f2 c2;rw [ZR] at hrel;obtain ⟨⟨k0,st0,L0⟩,he0,hce⟩:=le1.l _ _ hk.1 he;have hst:U st:=(Nat.eq_of_beq_eq_true hcv) ▸ hk.2
         cases L0 with
         | own ty1 t1 xs1 fz1 =>
          obtain ⟨d1,d2,d3,d4⟩:=hce;obtain ⟨d5,d6⟩:=d4 hst
          cases d6
          rw [d1] at g1;obtain ⟨c,hc1,hc2⟩:=Zto hr he0 g1 c2;obtain ⟨z1',_,_⟩:=ZWk hz hc1 hcs hkq;have q2:=q1 _ z1';rw [hlen] at q2;refine fin c y1 ?_ (by omega) q2 h;have g1':γ1 kk = .own (some b) cap:=by rw [d1];exact g1
          obtain ⟨c',hc1',hc2'⟩:=Zto r1 he g1' c2;have hl1:=Rep.len _ hc1;have hl2:=Rep.len _ hc1';have e1:=Z3h hc2 hc2' (hl1.trans hl2.symm);have hl3:=Rep.len _ hrel;rw [ZR] at hl1 hl3;obtain ⟨jj,hj⟩:∃ i:Nat,ℓ1[i]? = some (.own (some b) ty0 s.n xs.length cap cs1):=List.getElem?_of_mem (h3.mem_iff.2 (by simp));have hw:=ZZc r1.st hj rfl g3 0 ((cs1.drop (i*s.n)).take s.n) (by rw [hl3,List.drop_zero,List.take_take,Nat.min_self]) (by omega);exact Z3h (by simpa using hw) hc2 (hl3.trans hl1.symm)
         | box _ _=>exact hce.elim
         | mat _ _ _ _ _ =>
          obtain ⟨_,_,_,_,hyl⟩:=ZIa hp (fun _ e=>by cases e) rfl rfl;exact (hyl _ he0).elim
        ·exact h.elim
       ·exact h.elim
     | box _ _=>exact h.elim
     | mat _ _ _ _ _=>exact h.elim
    ·exact h.elim
   · -- a row is put into its place
    rename_i u i hv0 cv0 s0 r0;split at h
    ·rename_i u2 _ _;obtain ⟨en,he,h⟩:=h;obtain ⟨yy,hy0,_,hy⟩:=ZIa hp (fun _ e=>by cases e) rfl rfl;have hy0:a.eval x=yy:=(List.cons.inj hy0).1;have hy:=hy en he;obtain ⟨kk,st,L⟩:=en;obtain ⟨hm,hkk⟩:=ZD he;have hkk:kk=u:=hkk;subst hkk
     cases L with
     | mat ty0 ty2 s m hv =>
      obtain ⟨en2,he2,h⟩:=h;obtain ⟨k2,st2,L2⟩:=en2;obtain ⟨hm2,hkk2⟩:=ZD he2;have hkk2:k2=u2:=hkk2;subst hkk2
      cases L2 with
      | own ty3 s' xs fz =>
       cases fz with
       | true=>exact h.elim
       | false =>
        simp only at h;split at h
        ·rename_i l' ht3 hl';have ht3:=Nat.eq_of_beq_eq_true ht3;subst ht3;obtain ⟨c3,c4⟩:=Zwa hl'
         cases c3;cases c4
         have hne:kk≠k2:=fun e=>by subst e;rw [he] at he2;cases he2
         obtain ⟨b,cap,rows,g1,rfl,g3,g4⟩:=hy;obtain ⟨es2,E2,h1,h2,h2',h3,r2⟩:=hr.del he2;obtain ⟨ob2,cap2,cs2,f1,f2,rfl⟩:=h1;have he':lkE (era l k2) kk=some ⟨kk,st,.mat ty0 ty3 s m hv⟩:=by
          rw [Zgc hr.nd,if_neg (fun e=>hne e.symm)];exact he
         obtain ⟨esm,E',hsp1,hsp2,hsp3⟩:=Z5f h2' he';obtain ⟨ob',cap',rows,es3,q1,q2,rfl⟩:=hsp1;have q1:γ kk = .mat ob' cap' rows:=q1;rw [g1] at q1;cases q1;have hrl:=Zko q2;obtain ⟨p',hp'⟩:∃ p',rows[i]? = some p':=⟨_,List.getElem?_eq_getElem (by omega)⟩;obtain ⟨hh,e1,e2,csx,k1,k3⟩:=Zyn q2 hp' (p:=(ob2,cap2)) (r':=xs) f2;have hq1:a.eval y = .slice (mkA ob2) xs.length cap2:=by
          obtain ⟨yq,hyq0,_,hyq⟩:=ZIa hq (fun _ e=>by cases e) rfl rfl;obtain ⟨oq,cq,gq1,gq2⟩:=hyq _ he2;have f1:γ k2 = .own ob2 cap2:=f1;rw [f1] at gq1;cases gq1;exact ((List.cons.inj hyq0).1).trans gq2
         have hs:St N w0 v0 [] (.own (some b) ty0 1 m.length cap (ZZ rows m) :: .own ob2 ty3 s.n xs.length cap2 cs2 :: (es3++E'.flatten)) v a w:=by
          refine hr.st.perm ((h3.trans (List.Perm.append_left _ hsp3)).trans ?_);simp only [List.cons_append];exact List.Perm.swap _ _ _
         obtain ⟨σ,hσ,ee1,ee2⟩:=hs.ev2 x y;rw [hy0] at ee1;rw [hq1] at ee2;have hS1:Sized P t ([Value.slice (mkA ob2) xs.length cap2]:List Value).length sz.2:=by
          have:sz.1=1:=b1.symm;rw [this] at hS;exact hS
         have hfit:0+i*1+([Value.slice (mkA ob2) xs.length cap2]:List Value).length≤(ZZ rows m).length:=by
          rw [ZNm hrl];simp only [List.length_singleton];omega
         obtain ⟨w',hrun,hst⟩:=Zdc (P:=P) hσ hS1 (cs:=[Value.slice (mkA ob2) xs.length cap2]) (z:=.slice (mkA ob2) xs.length cap2) (ZYb rfl) rfl (i:=0) rfl hfit rfl;have hh':(ZZ rows m).take (0+i*1)++[Value.slice (mkA ob2) xs.length cap2]++(ZZ rows m).drop (0+i*1+1)=ZZ (rows.set i (ob2,cap2)) (m.set i xs):=by
          rw [Nat.zero_add,Nat.mul_one];exact hh
         have hst:=hst.bare;simp only [List.set_cons_zero,List.length_singleton] at hst;rw [hh'] at hst;subst k1;have hst':St N w0 v0 [] (.own (some b) ty0 1 (m.set i xs).length cap (ZZ (rows.set i (ob2,cap2)) (m.set i xs)) :: (e1 ++ .own ob2 ty3 s.n xs.length cap2 cs2 :: e2)++E'.flatten) v a w':=by
          rw [List.length_set];refine (hst.drop (ℓ':=.own (some b) ty0 1 m.length cap (ZZ (rows.set i (ob2,cap2)) (m.set i xs)) :: .own ob2 ty3 s.n xs.length cap2 cs2 :: ((e1++e2)++E'.flatten)) ?_).perm ?_
          ·refine List.Sublist.cons_cons _ (List.Sublist.cons_cons _ (List.Sublist.append (List.Sublist.append (List.Sublist.refl _) (List.sublist_cons_self _ _)) (List.Sublist.refl _)))
          ·simp only [List.cons_append];refine List.Perm.cons _ ?_;rw [← List.cons_append];exact List.Perm.append_right _ (List.perm_middle.symm)
         have hle:Le U v γ (era l k2) v (Z7c γ kk (.mat (some b) cap (rows.set i (ob2,cap2)))) (⟨kk,n,.mat ty0 ty3 s (m.set i xs) n⟩ :: era (era l k2) kk):=Le.upd r2 he' (Za.le_refl _) (fun _ hne=>Zpd hne) ⟨rfl,by simp,⟨_,_,_,_,g1,ZUb,fun e=>absurd e hn⟩,fun e=>absurd e hn⟩;subst ho;refine ZJh (r2.upd hX (r2.ul _ (ZD he').1).1 hsp2 hst' hle (fun _ hne=>Zpd hne) ⟨some b,cap,rows.set i (ob2,cap2),_,ZUb,k3,rfl⟩ ?_ hX) hU rfl (hrun ee1 ee2) h;exact List.Perm.refl _
        ·exact h.elim
      | box _ _=>exact h.elim
      | mat _ _ _ _ _=>exact h.elim
     | box _ _=>exact h.elim
     | own _ _ _ _=>exact h.elim
    ·exact h.elim
   · -- an element of a row
    rename_i u i j hv cv s r x0 off;split at h
    ·rename_i z hz;obtain ⟨yy,hy0,_,hy⟩:=ZIa hp (fun _ e=>by cases e) rfl rfl;have hy0:a.eval x=yy:=(List.cons.inj hy0).1;obtain ⟨y1,l1,γ1,v1,ℓ1,hB,r1,le1,q1⟩:=Z0d hn hX FU h hr (Zlg FU hz trivial hkq);obtain ⟨en,he,hC⟩:=hB;have hp1:=Zgb le1 hk hp;obtain ⟨yy',hy0',_,hy1⟩:=ZIa hp1 (fun _ e=>by cases e) rfl rfl;have hy0':a.eval x=yy':=(List.cons.inj hy0').1;have hy1:=hy1 en he;obtain ⟨kk,st,L⟩:=en;obtain ⟨hm,hkk⟩:=ZD he;have hkk:kk=u:=hkk;subst hkk
     cases L with
     | mat ty0 ty2 s' m hv' =>
      simp only at hC;split at hC
      ·rename_i b4 b5;have b4:=Nat.eq_of_beq_eq_true b4;have b5:=Nat.eq_of_beq_eq_true b5;subst b4 b5;split at hC
       ·rename_i r' hr';obtain ⟨ob,cap,rows,bi,capi,g1,g2,rfl,_,g4,g6⟩:=hy1 rfl;obtain ⟨⟨m',c1,c2⟩,cx⟩:=g6 rfl;obtain ⟨c3,c4⟩:=Zwa c1
        cases c3;cases c4
        have hr':r.set j y1=r':=by
         obtain ⟨c5,c6⟩:=Zwa hr';exact c6
        subst hr';obtain ⟨⟨k0,st0,L0⟩,he0,hce⟩:=le1.l _ _ hk.1 he;obtain ⟨es,E',h1,h2,_,h3,_⟩:=r1.del he;obtain ⟨ob',cap',rows',es3,f1,f2,rfl⟩:=h1;have f1:γ1 kk = .mat ob' cap' rows':=f1;rw [g1] at f1;cases f1
        cases L0 with
        | mat ty1 ty3 t1 m1 hv1 =>
         obtain ⟨d1,d2,⟨obx,capx,rowsx,rowsy,d3,d4,d5⟩,d6⟩:=hce;obtain ⟨d7,d8⟩:=d6 hk.2.2
         cases d8
         obtain ⟨d9,d10,_⟩:=d5 hk.2.1;rw [g1] at d4;cases d4;subst d10;obtain ⟨c,hc1,hc2⟩:=Zyo hr he0 d3 g2 c2 cx;obtain ⟨c',hc1',hc2'⟩:=Zyo r1 he g1 g2 c2 cx;have e1:=Z3h hc2 hc2' ((Rep.len _ hc1).trans (Rep.len _ hc1').symm);obtain ⟨z1',_,zfit⟩:=ZWk hz hc1 hcs hkq;have q2:=q1 _ z1';rw [hlen] at q2 zfit;obtain ⟨csx,ea,eb,k1,k2,k3⟩:=ZWn f2 g2 c2;subst k1;have hs:St N w0 v0 [] (.own (some bi) ty2 s.n r.length capi csx :: .own ob ty0 1 m.length cap (ZZ rows m) :: (ea++eb++E'.flatten)) v1 a w:=by
          refine r1.st.perm (h3.trans ?_);simp only [List.cons_append,List.append_assoc];exact (List.Perm.cons _ List.perm_middle).trans (List.Perm.swap _ _ _)
         have hrel:=Zca k2 cx;rw [ZR] at hrel;have hl3:=Rep.len _ hrel;have hl1:=Rep.len _ hc1;rw [ZR] at hl3 hl1;have hcell:(csx.drop (j*s.n)).take s.n=c:=by
          have hw:=ZZc hs (j:=0) rfl rfl g4 0 ((csx.drop (j*s.n)).take s.n) (by rw [hl3,List.drop_zero,List.take_take,Nat.min_self]) (by omega);exact Z3h (by simpa using hw) hc2 (hl3.trans hl1.symm)
         obtain ⟨σ,hσ,e1,e2⟩:=hs.ev2 x y;rw [hy0'] at e1;rw [hqe] at e2;have hset:=Z7o k2 g4 hcell q2 (ZR s).symm (by omega);have hfit2:0+j*s.n+off+sz.1≤csx.length:=Z2m hs (j:=0) rfl g4 (by omega);obtain ⟨w',hrun,hst⟩:=Zdc (P:=P) hσ hS hcells hlen (i:=0) rfl hfit2 hpl;rw [hlen] at hst;have hst:=hst.bare;obtain ⟨k4,k5⟩:=k3 (r.set j y1) _ (List.length_set ..) hset;have hst':St N w0 v0 [] (.own ob ty0 1 (m.set i (r.set j y1)).length cap (ZZ rows (m.set i (r.set j y1))) :: (ea ++ .own (some bi) ty2 s.n r.length capi (csx.take (0+j*s.n+off)++cs++csx.drop (0+j*s.n+off+sz.1)) :: eb)++E'.flatten) v1 a w':=by
          rw [List.length_set,k4];refine hst.perm ?_;simp only [List.set_cons_zero,List.cons_append,List.append_assoc];exact (List.Perm.swap _ _ _).trans (List.Perm.cons _ List.perm_middle.symm)
         have hle:Le U v1 γ1 l1 v1 γ1 (⟨kk,n,.mat ty0 ty2 s (m.set i (r.set j y1)) hv'⟩ :: era l1 kk):=Le.upd r1 he (Za.le_refl _) (fun _ _=>rfl) ⟨rfl,by simp,⟨_,_,_,_,g1,g1,fun _=>⟨rfl,rfl,Z8p c2 (List.length_set ..)⟩⟩,fun e=>absurd e hn⟩;subst ho;exact ZJh (r1.upd hX (r1.ul _ hm).1 h2 hst' hle (fun _ _=>rfl) ⟨ob,cap,rows,_,g1,k5,rfl⟩ (List.Perm.refl _) (r1.ul _ hm).2.2) hU rfl (hrun e1 e2) hC
        | box _ _=>exact hce.elim
        | own _ _ _ _=>exact hce.elim
       ·exact hC.elim
      ·exact hC.elim
     | box _ _=>exact hC.elim
     | own _ _ _ _=>exact hC.elim
    ·exact h.elim
   ·exact h.elim
  ·exact h.elim
end
end Go.Eng
namespace Go.Eng
open Go.RowKit
theorem ZGd {cs r:List Value} (h:zSl cs=some r):cs = .slice none 0 0 :: r:=by
 unfold zSl at h;split at h
 ·cases h;rfl
 ·cases h
theorem Zdn {v:Za}:∀ {t:T} {cs r:List Value} {x:t.den},zOK t cs=some r→Zme t=some x→∃ c1,cs=c1++r∧t.rep.rel v c1 x:=by
 intro t
 induction t with
 | int k =>
  intro cs r x h hx;unfold zOK at h
  cases hx
  split at h <;> try (cases h;done)
  all_goals (rename_i heq;cases heq)
  rename_i k' n rest;split at h
  ·rename_i hk
   cases h
   have:=ZXe hk;subst this;exact ⟨[_],rfl,rfl,by cases k <;> decide⟩
  ·cases h
 | bool =>
  intro cs r x h hx;unfold zOK at h
  cases hx
  split at h <;> try (cases h;done)
  all_goals (rename_i heq;cases heq)
  cases h
  exact ⟨[_],rfl,rfl⟩
 | flt k =>
  intro cs r x h hx;unfold zOK at h
  cases hx
  split at h <;> try (cases h;done)
  all_goals (rename_i heq;cases heq)
  split at h
  ·rename_i hk
   cases h
   have:=ZXn hk;subst this;exact ⟨[_],rfl,rfl,by decide⟩
  ·cases h
 | str =>
  intro cs r x h hx;unfold zOK at h
  cases hx
  split at h <;> try (cases h;done)
  all_goals (rename_i heq;cases heq)
  rename_i s rest;split at h
  ·rename_i hs
   cases h
   refine ⟨[_],rfl,?_,by show ([]:List UInt8).length≤maxLen;exact Nat.zero_le _⟩;have:s=Zs []:=by
    cases s with
    | mk d=>show _=ByteArray.mk _;congr 1;exact Array.ext' hs
   rw [this]
  ·cases h
 | one a ih =>
  intro cs r x h hx;simp only [zOK] at h;obtain ⟨c1,h1,h2⟩:=ih h hx;exact ⟨c1,h1,h2⟩
 | pair a b ia ib =>
  intro cs r x h hx;simp only [zOK] at h;simp only [Zme] at hx;split at hx
  ·rename_i x1 x2 hx1 hx2
   cases hx
   split at h
   ·rename_i r1 hr1;obtain ⟨c1,h1,h2⟩:=ia hr1 hx1;obtain ⟨c2,h3,h4⟩:=ib h hx2;exact ⟨c1++c2,by rw [h1,h3,List.append_assoc],c1,c2,rfl,h2,h4⟩
   ·cases h
  ·cases hx
 | slice a _ =>
  intro cs r x h hx
  cases hx
  simp only [zOK] at h;exact ⟨[_],ZGd h,ZCg _ _⟩
 | leaf i =>
  intro cs r x h hx;unfold zOK at h;split at h <;> try (cases h;done)
  all_goals (rename_i heq;cases heq)
  ·cases hx;exact ⟨[_],ZGd h,ZVf _⟩
  ·cases hx;exact ⟨[_],ZGd h,Zpi _⟩
  ·cases hx;rw [ZGd h];exact ⟨[_,_],rfl,Zjn _⟩
  ·cases hx
   split at h
   ·rename_i r1 hr1;rw [ZGd hr1,ZGd h];exact ⟨[_,_,_],rfl,ZYr _⟩
   ·cases h
section
variable {P:Program} {N:Nat} {G:V→Value→Prop} {w0:Base} {v0:Za} {U X:Nat→Prop} {f:Fr} {l:Lo} {a:Act} {w:World} {γ:Nat→Gh} {v:Za} {ℓ:List Loc} {n:Nat}
variable {ty:TypeId} {pos:String} {aft:Array Edge} {g:Option (Nat×Bool)}
theorem Zeg {t:T} {cs r:List Value} {z:V} (h:ZKe t cs=some (z,r)):∃ c1,cs=c1++r∧RR v γ l false z c1∧z.ok U∧c1.all plain=true:=by
 unfold ZKe at h;split at h
 ·rename_i x r' hx hr
  cases h
  obtain ⟨c1,h1,h2⟩:=Zdn (v:=v) hr hx;exact ⟨c1,h1,h2,trivial,Rep.flat _ h2⟩
 ·cases h
theorem Z3m {F:TypeId→List Value→Option (V×List Value)} (hF:∀ t cs z r,F t cs=some (z,r)→∃ c1,cs=c1++r∧RR v γ l false z c1∧z.ok U∧c1.all plain=true) :
  ∀ {fs:List Field} {cs r:List Value} {z:V},ZJi F fs cs=some (z,r)→∃ c1,cs=c1++r∧RR v γ l false z c1∧z.ok U∧c1.all plain=true
 | [],cs,r,z,h=>by cases h;exact ⟨[],rfl,rfl,trivial,rfl⟩
 | x :: fs,cs,r,z,h=>by
  simp only [ZJi] at h
  split at h
  ·rename_i y cs1 hy
   split at h
   ·rename_i c cs2 hc
    cases h
    obtain ⟨c1,h1,h2,h3,h4⟩:=hF _ _ _ _ hy
    obtain ⟨c2,k1,k2,k3,k4⟩:=Z3m hF hc
    exact ⟨c1++c2,by rw [h1,k1,List.append_assoc],⟨c1,c2,rfl,h2,k2⟩,⟨h3,k3⟩,by rw [List.all_append,h4,k4];rfl⟩
   ·cases h
  ·cases h
theorem ZGl {F:List Value→Option (V×List Value)} (hF:∀ cs z r,F cs=some (z,r)→∃ c1,cs=c1++r∧RR v γ l false z c1∧z.ok U∧c1.all plain=true):∀ {k:Nat} {cs r:List Value} {c:V},zRep F k cs=some (c,r)→∃ c1,cs=c1++r∧RR v γ l false c c1∧c.ok U∧c1.all plain=true
 | 0,cs,r,c,h=>by cases h;exact ⟨[],rfl,rfl,trivial,rfl⟩
 | k+1,cs,r,c,h=>by
  simp only [zRep] at h
  split at h
  ·rename_i x cs1 hx
   split at h
   ·rename_i c' cs2 hc
    cases h
    obtain ⟨c1,rfl,h2,h3,h4⟩:=hF _ _ _ hx
    obtain ⟨c2,rfl,k2,k3,k4⟩:=ZGl hF hc
    exact ⟨c1++c2,by simp,⟨c1,c2,rfl,h2,k2⟩,⟨h3,k3⟩,by rw [List.all_append,h4,k4];rfl⟩
   ·cases h
  ·cases h
theorem ZTk {C:Cf}:∀ (g:Nat) {t:TypeId} {cs r:List Value} {z:V},ZGg C g t cs=some (z,r)→∃ c1,cs=c1++r∧RR v γ l false z c1∧z.ok U∧c1.all plain=true
 | 0,_,_,_,_,h=>by cases h
 | g+1,t,cs,r,z,h=>by
  simp only [ZGg] at h
  split at h
  ·split at h
   ·cases h
    exact ⟨[_,_,_],rfl,⟨[_],[_,_],rfl,rfl,[_],[_],rfl,Zpi _,[_],[],rfl,Zpi _,rfl⟩,⟨trivial,trivial,trivial,trivial⟩,rfl⟩
   ·cases h
  ·exact Zeg h
  ·split at h
   ·exact Zeg h
   ·exact Zeg h
   ·exact Zeg h
   ·exact Zeg h
   ·split at h
    ·rename_i r' hr
     cases h
     exact ⟨[_],ZGd hr,rfl,trivial,rfl⟩
    ·cases h
   ·split at h
    ·rename_i c r' hc
     cases h
     obtain ⟨c1,h1,h2,h3,h4⟩:=Z3m (fun t cs z r h=>ZTk g h) hc
     exact ⟨c1,h1,h2,h3,h4⟩
    ·cases h
   ·split at h
    ·rename_i c r' hc
     cases h
     obtain ⟨c1,h1,h2,h3,h4⟩:=ZGl (fun cs z r h=>ZTk g h) hc
     exact ⟨c1,h1,h2,h3,h4⟩
    ·cases h
   ·cases h
theorem ZOk {C:Cf} {t:TypeId} {z:V} (h:ZPh C t=some z):∃ y cs,(∀ w,(zeroValue t).run C.P w = .ok y w)∧y.cells=cs.toArray∧RR v γ l false z cs∧z.ok U∧cs.all plain=true:=by
 unfold ZPh at h;split at h
 ·rename_i i hi;split at h
  ·rename_i y hy;split at h
   ·rename_i x hx
    cases h
    obtain ⟨c1,h1,h2,h3,h4⟩:=ZTk (v:=v) (γ:=γ) (l:=l) (U:=U) FU hx;rw [List.append_nil] at h1;refine ⟨y,c1,fun w=>by simp [zeroValue,typeInfo,hi,hy],by rw [← h1],h2,h3,h4⟩
   ·cases h
  ·cases h
 ·cases h
theorem ZDo (hr:RelX N G w0 v0 U X f l a w γ v ℓ) (hU:∀ k,U k→X k) (hX:X n) (hn:¬ U n) {t:TypeId} {o:Oper} {c:V} {cs:List Value} {Post:Unit→Fr→Lo→Prop} (hd:∀ k,o.dst=some k→k<N) (hc:RR v γ l false c cs) (hk:c.ok U) (hp:cs.all plain=true)
  (hrun:(execOp a.eval o).run P w = .ok (.value (.pointer (some ⟨w.heap.size,0,none⟩))) (w.alloc (.cells cs.toArray t))) (h:Zn n (Ev.new n (.box t c) (ret o (.ptr n 0))) f l Post):ZJa P N G w0 v0 X o a w Post:=by
 obtain ⟨hnew,h⟩:=h;obtain ⟨E,hE,hpm⟩:=hr.lr;have hst:=(hr.st.perm hpm).newLoc (.cells cs.toArray t) (e:=.box w.heap.size t cs) rfl (heap_alloc_new w _);have hle:Le U v γ l v (Z7c γ n (.box w.heap.size)) (⟨n,n,.box t c⟩ :: l):=⟨Za.le_refl _,fun k e' hk he=>by
  have hne:n≠k:=fun e=>hn (e ▸ hk);rw [ZT,if_neg hne] at he;refine ⟨e',he,?_⟩;obtain ⟨hm,hk'⟩:=ZD he;obtain ⟨es,hrr⟩:=ZPd hE hm;have:=ZIg (U:=U) (γ':=Z7c γ n (.box w.heap.size)) hrr (Zpd (by rw [hk'];exact fun e=>hne e.symm));rw [hk'] at this;exact this⟩
 have hr':=hr.new (γ':=Z7c γ n (.box w.heap.size)) (L':=.box t c) hX hX hn hnew hE hst (Za.le_refl _) (fun _ h=>Zpd h) ⟨_,cs,ZUb,ZZa hle hk hc,hp,rfl⟩ (List.Perm.refl _) hk;refine fin (x:=.ptr n 0) (hr'.mono hU fun _ h=>h) hrun hd hX ⟨[_],⟨_,rfl,Zse,fun e' he'=>?_⟩,rfl⟩ hX h;rw [ZT,if_pos rfl] at he';cases he';exact ⟨_,ZUb,rfl⟩
theorem Zth (hr:RelX N G w0 v0 U X f l a w γ v ℓ) (hU:∀ k,U k→X k) (hX:X n) (hn:¬ U n) {e:TypeId} {s:T} {xs:List s.den} {o:Oper} {ob:Option Nat} {cap:Nat} {cs:List Value} {w':World} {ℓ':List Loc} {E:List (List Loc)} {Post:Unit→Fr→Lo→Prop} (hd:∀ k,o.dst=some k→k<N) (hE:F2 (ZBa v γ l) l E) (hℓ:ℓ'=E.flatten)
  (hst:St N w0 v0 [] (.own ob e s.n xs.length cap cs :: ℓ') v a w') (hc:s.rep.rels v cs xs) (hrun:(execOp a.eval o).run P w = .ok (.value (.slice (mkA ob) xs.length cap)) w') (h:Zn n (Ev.new n (.own e s xs false) (ret o (.own n))) f l Post):ZJa P N G w0 v0 X o a w Post:=by
 obtain ⟨hnew,h⟩:=h;have hr':=hr.new (γ':=Z7c γ n (.own ob cap)) (L':=.own e s xs false) hX hX hn hnew hE hst (Za.le_refl _) (fun _ h=>Zpd h) ⟨ob,cap,cs,ZUb,hc,rfl⟩ (by rw [hℓ];exact List.Perm.refl _) trivial;refine fin (x:=.own n) (hr'.mono hU fun _ h=>h) hrun hd hX ⟨[_],⟨_,rfl,by cases ob <;> rfl,fun e' he'=>?_⟩,rfl⟩ hX h;rw [ZT,if_pos rfl] at he';cases he';exact ⟨_,_,ZUb,rfl⟩
theorem Zwj {t:TypeId} {q:EI} (h:ZQf P t=some q):Elem P t q.e q.sz q.by_ q.z∧0<q.by_:=by
 unfold ZQf at h;split at h
 ·rename_i e he;split at h
  ·rename_i i hi;split at h
   ·rename_i z hz;split at h
    ·rename_i h1 h2 h3
     cases h
     have h1:=Nat.eq_of_beq_eq_true h1;have h2:1≤i.size:=Nat.le_of_ble_eq_true h2;have h3:1≤i.bytes:=Nat.le_of_ble_eq_true h3;exact ⟨⟨he,by simp [hi,hz],by simpa using h1,h2⟩,h3⟩
    ·cases h
   ·cases h
  ·cases h
 ·cases h
theorem Zqo {ρ:Type} {g:Nat} {s:T} {c:V} {k:List s.den→Ev ρ} {Post:ρ→Fr→Lo→Prop} (h:Zn n (conv g (.slice s) (.agg c) k) f l Post):False:=by
 cases g with
 | zero=>exact h
 | succ g =>
  cases c with
  | cons x1 c =>
   cases c with
   | cons x2 r=>simp only [conv] at h;exact h
   | nl=>simp only [conv] at h;exact h
   | _=>simp only [conv] at h;exact h
  | _=>simp only [conv] at h;exact h
theorem ZMo {ρ:Type} {g:Nat} {s:T} {x:V} {k:List s.den→Ev ρ} {Post:ρ→Fr→Lo→Prop} (h:Zn n (conv g (.slice s) x k) f l Post):x.isAgg=false∧∀ c,x ≠ .tup c:=by
 cases x with
 | agg c=>exact (Zqo h).elim
 | tup c =>
  cases g with
  | zero=>exact h.elim
  | succ g=>simp only [conv] at h;exact h.elim
 | data t x =>
  refine ⟨?_,fun c e=>by cases e⟩
  cases g with
  | zero=>exact h.elim
  | succ g =>
   simp only [conv] at h;split at h
   ·rename_i y hy;obtain ⟨e,_⟩:=Zwa hy;subst e;rfl
   ·split at h
    ·rfl
    ·rfl
    ·rfl
    ·rfl
    ·rfl
    ·split at h
     ·exact (Zqo h).elim
     ·exact h.elim
 | _=>exact ⟨rfl,fun c e=>by cases e⟩
theorem ZHg {x:V} {y:Value} (h:x.isAgg=false):x.val [y]=y:=by unfold V.val;rw [h];rfl
theorem appE_ok {C:Cf} (hr:RelX N G w0 v0 U X f l a w γ v ℓ) (hU:∀ k,U k→X k) (hX:X n) (hn:¬ U n) {d:Option Nat} {t:TypeId} {x y:Operand} {o:Oper} {p q:V} {Post:Unit→Fr→Lo→Prop} (ho:o=⟨d,.call ⟨.builtin .append,#[x,y],#[t,t]⟩,ty,pos,aft,g⟩) (hd:∀ k,o.dst=some k→k<N) (hp:RV v γ l p (a.eval x)) (hq:RV v γ l q (a.eval y)) (hk:p.ok U) (hkq:q.ok U)
  (h:Zn n (appE C o n t p q) f l Post):ZJa C.P N G w0 v0 X o a w Post:=by
 unfold appE at h;split at h
 ·exact h.elim
 ·rename_i ei hei;obtain ⟨hE,hby⟩:=Zwj hei;split at h
  ·rename_i u;obtain ⟨en,he,h⟩:=h;obtain ⟨k0,st0,L⟩:=en
   cases L with
   | own ty0 s xs0 fz0 =>
    obtain ⟨ys,l1,γ1,v1,ℓ1,hB,r1,le1,q1⟩:=Z0d hn hX FU h hr hkq;obtain ⟨en,he1,hC⟩:=hB;have hp1:=Zgb le1 hk hp;obtain ⟨yy,hy0,_,hy⟩:=ZIa hp1 (fun _ e=>by cases e) rfl rfl;have hy0:a.eval x=yy:=(List.cons.inj hy0).1;have hy:=hy en he1;obtain ⟨kk,st,L⟩:=en;obtain ⟨hm,hkk⟩:=ZD he1;have hkk:kk=u:=hkk;subst hkk
    cases L with
    | own ty1 s' xs fz =>
     cases fz with
     | true=>exact hC.elim
     | false =>
      simp only at hC;split at hC
      ·rename_i ys' hys ht hs;obtain ⟨c3,c4⟩:=Zwa hys
       cases c3;cases c4
       have ht:=Nat.eq_of_beq_eq_true ht;have hs:=Nat.eq_of_beq_eq_true hs;obtain ⟨_,hroom,hC⟩:=hC;obtain ⟨ob,cap,g1,rfl⟩:=hy;obtain ⟨es,E',h1,_,h2,h3,r2⟩:=r1.del he1;obtain ⟨ob',cap',cs,f1,f2,rfl⟩:=h1;have f1:γ1 kk = .own ob' cap':=f1;rw [g1] at f1;cases f1;have hst:=r1.st.perm h3;obtain ⟨σ,hσ,e1,e2⟩:=hst.ev2 x y;obtain ⟨hq1,hq2⟩:=ZMo h;obtain ⟨csq,hcq,hqe⟩:=Zob hq hq2;have hcq':(Zu s.rep).rel v1 csq ys:=q1 _ hcq;obtain ⟨qa,m,c,rfl⟩:=ZTg hcq';rw [ZHg hq1] at hqe;have hml:m=ys.length:=by obtain ⟨_,_,e,_⟩:=hcq';cases e;rfl
       have hE':Elem C.P t ty1 s.rep.n ei.by_ ei.z:=by rw [ZR,← hs,← ht];exact hE
       have hσ':St N w0 v0 σ (.own ob ty1 s.rep.n xs.length cap cs :: E'.flatten) v1 a w:=by rw [ZR];exact hσ
       obtain ⟨b',cap',cs2,w',hrun,hst',hrel⟩:=ZKj (ty:=ty) (A:=s.rep) hE' hσ' (i:=0) rfl hcq' (n':=(xs++(show List s.den from ys)).length) (by rw [List.length_append,hml]) (ZYg hroom) hby;rw [hy0] at e1;rw [hqe] at e2;have hst':=hst'.bare;rw [ZR] at hst';subst ho;exact Zth r2 hU hX hn hd h2 rfl hst' (ZTb f2 hrel) (Zvg hσ e1 e2 hrun) hC
      ·exact hC.elim
    | box _ _=>exact hC.elim
    | mat _ _ _ _ _=>exact hC.elim
   | box _ _=>exact h.elim
   | mat _ _ _ _ _=>exact h.elim
  ·split at h
   ·rename_i s hs;split at h
    ·rename_i hsz;have hsz:=Nat.eq_of_beq_eq_true hsz;obtain ⟨ys,l1,γ1,v1,ℓ1,hB,r1,le1,q1⟩:=Z0d hn hX FU h hr hkq;obtain ⟨_,hroom,hC⟩:=hB;obtain ⟨E',h2,h3⟩:=r1.lr;have hx0:a.eval x = .slice none 0 0:=by
      obtain ⟨cs,h1,h2⟩:=hp;have h1:cs=[.slice none 0 0]:=h1;subst h1;exact h2
     have hst:=(r1.st.perm h3).nilLoc ei.e s.rep.n;obtain ⟨σ,hσ,e1,e2⟩:=hst.ev2 x y;obtain ⟨hq1,hq2⟩:=ZMo h;obtain ⟨csq,hcq,hqe⟩:=Zob hq hq2;have hcq':(Zu s.rep).rel v1 csq ys:=q1 _ hcq;obtain ⟨qa,m,c,rfl⟩:=ZTg hcq';rw [ZHg hq1] at hqe;have hml:m=ys.length:=by obtain ⟨_,_,e,_⟩:=hcq';cases e;rfl
     have hE':Elem C.P t ei.e s.rep.n ei.by_ ei.z:=by rw [ZR,← hsz];exact hE
     obtain ⟨b',cap',cs2,w',hrun,hst',hrel⟩:=ZKj (ty:=ty) (A:=s.rep) hE' hσ (i:=0) rfl hcq' (n':=(([]:List s.den)++(show List s.den from ys)).length) (by rw [List.length_append,hml];rfl) (ZYg hroom) hby;rw [hx0] at e1;rw [hqe] at e2;have hst':=hst'.bare;rw [ZR] at hst';subst ho;exact Zth r1 hU hX hn hd h2 rfl hst' (ZTb ZRd hrel) (Zvg hσ e1 e2 hrun) hC
    ·exact h.elim
   ·exact h.elim
  ·exact h.elim
end
end Go.Eng
namespace Go.Eng
open Go.RowKit
variable {P:Program} {K:Nat} {w0:Base} {v0:Za} {σ:List (Nat×Value)} {ℓ:List Loc} {v:Za} {a:Act} {w:World}
variable {d:Option Nat} {ty:TypeId} {pos:String} {aft:Array Edge} {g:Option (Nat×Bool)}
theorem max2_eq (k:IntKind) (p q:Int):(Builtin.max2 (.int k p) (.int k q)).run P w = .ok (.int k (max p q)) w:=by
 simp only [Builtin.max2,Sem.run_pure];congr 2;by_cases h:q>p
 ·rw [if_pos h];omega
 ·rw [if_neg h];omega
theorem min2_eq (k:IntKind) (p q:Int):(Builtin.min2 (.int k p) (.int k q)).run P w = .ok (.int k (min p q)) w:=by
 simp only [Builtin.min2,Sem.run_pure];congr 2;by_cases h:q<p
 ·rw [if_pos h];omega
 ·rw [if_neg h];omega
theorem run_max (hS:St K w0 v0 σ ℓ v a w) {x y:Operand} {k:IntKind} {p q:Int} {ats:Array TypeId} (e:ev σ x=some (.int k p)) (e':ev σ y=some (.int k q)) :
  (execOp a.eval ⟨d,.call ⟨.builtin .max,#[x,y],ats⟩,ty,pos,aft,g⟩).run P w = .ok (.value (.int k (max p q))) w:=by
 simp [execOp,resolve,invoke,builtin,Builtin.max_,hS.eval e,hS.eval e',max2_eq]
theorem run_min (hS:St K w0 v0 σ ℓ v a w) {x y:Operand} {k:IntKind} {p q:Int} {ats:Array TypeId} (e:ev σ x=some (.int k p)) (e':ev σ y=some (.int k q)) :
  (execOp a.eval ⟨d,.call ⟨.builtin .min,#[x,y],ats⟩,ty,pos,aft,g⟩).run P w = .ok (.value (.int k (min p q))) w:=by
 simp [execOp,resolve,invoke,builtin,Builtin.min_,hS.eval e,hS.eval e',min2_eq]
end Go.Eng
namespace Go.Eng
open Go.RowKit
section
variable {Q:Exit→Act→World→Prop} {a:Act} {w:World}
end
end Go.Eng
namespace Go.Eng
open Go.RowKit
end Go.Eng
namespace Go.Eng
open Go.RowKit
theorem ZRs (off:Nat):∀ (l:List Value) (k:Nat) (acc:Array Value),off+k+l.length≤acc.size→(l.zipIdx k).foldl (fun cs (c,j)=>cs.setIfInBounds (off+j) c) acc=(acc.toList.take (off+k)++l++acc.toList.drop (off+k+l.length)).toArray:=by
 intro l
 induction l with
 | nil=>intro k acc h;simp
 | cons y l ih =>
  intro k acc h;simp only [List.zipIdx_cons,List.foldl_cons];rw [ih (k+1) _ (by simp at h ⊢;omega)];congr 1;simp only [Array.toList_setIfInBounds];simp only [List.length_cons] at h;have hlt:off+k<acc.toList.length:=by simp;omega
  rw [List.take_set,List.drop_set_of_lt (by omega)];rw [List.set_eq_take_append_cons_drop,if_pos (by simp;simp at hlt;omega)];rw [List.take_take,Nat.min_eq_left (by omega)];have e1:((acc.toList.take (off+(k+1))).drop (off+k+1))=[]:=List.drop_of_length_le (by simp;omega);rw [e1];simp;congr 1;omega
theorem Zil {place:Nat→Option (Nat×Nat)} {cells:Array Value} {i:Nat} {x:Value} {cs:List Value} {rest:List (Nat×Value)} {off:Nat} (hp:place i=some (off,cs.length)) (hx:x.cells=cs.toArray) (hc:off+cs.length≤cells.size) :
  Instr.fill place cells ((i,x) :: rest)=Instr.fill place (cells.toList.take off++cs++cells.toList.drop (off+cs.length)).toArray rest:=by
 have h1:¬ (x.cells.size≠cs.length || decide (off+x.cells.size>cells.size)):=by simp [hx,hc]
 conv=>lhs;unfold Instr.fill
 simp only [hp];rw [if_neg h1,hx];have:=ZRs off cs 0 cells (by omega);rw [← Array.foldl_toList];congr 1
 simpa using this
section
variable {P:Program} {N:Nat} {G:V→Value→Prop} {w0:Base} {v0:Za} {U X:Nat→Prop} {f:Fr} {l:Lo} {a:Act} {w:World} {γ:Nat→Gh} {v:Za} {ℓ:List Loc} {n:Nat}
variable {ty:TypeId} {pos:String} {aft:Array Edge} {g:Option (Nat×Bool)}
theorem ZFe {ρ:Type} (hr:RelX N G w0 v0 U X f l a w γ v ℓ):∀ {xs:List Operand} {k:V→Ev ρ} {Post:ρ→Fr→Lo→Prop},Zn n (Zmd xs k) f l Post→∃ c,RR v γ l true c (xs.map a.eval)∧c.ok U∧Zn n (k c) f l Post
 | [],k,Post,h=>⟨.nl,rfl,trivial,h⟩
 | x :: xs,k,Post,h=>by
  obtain ⟨V',h1,h2,h3⟩:=ZW hr h
  have hnt:∀ c,V' ≠ .tup c:=fun c e=>by subst e;exact h3.elim
  have h3':Zn n (Zmd xs fun c=>k (.cons V' c)) f l Post:=by
   cases V' <;> first | exact h3 | exact h3.elim
  obtain ⟨c,k1,k2,k3⟩:=ZFe hr h3';obtain ⟨cs,q1,q2⟩:=Zob h1 hnt;exact ⟨.cons V' c,⟨cs,_,by rw [List.map_cons,q2],q1,k1⟩,⟨h2,k2⟩,k3⟩
theorem ZPr {ρ:Type} {g:Nat} {t:T} {x:V} {k:t.den→Ev ρ} {Post:ρ→Fr→Lo→Prop} (h:Zn n (conv g t x k) f l Post):x.isAgg=true∨x.isAgg=false∧x.size=1:=by
 cases x with
 | data s x =>
  cases ha:s.agg with
  | true=>exact .inl ha
  | false=>exact .inr ⟨ha,T_one ha⟩
 | nilS=>exact .inr ⟨rfl,rfl⟩
 | own u=>exact .inr ⟨rfl,rfl⟩
 | agg c=>exact .inl rfl
 | _ =>
  cases g with
  | zero=>exact h.elim
  | succ g=>simp only [conv] at h;exact h.elim
theorem Zap {x:V} {cs:List Value} (hf:x.isAgg=true∨x.isAgg=false∧x.size=1) (h:RR v γ l false x cs) (hp:cs.all plain=true):(x.val cs).cells=cs.toArray:=by
 rcases hf with ha | ⟨ha,hs⟩
 ·unfold V.val;rw [ha];rfl
 ·have e:=Zof h hs ha;have hv:x.val cs=cs.headD undef:=by unfold V.val;rw [ha]
  rw [hv] at e ⊢;rw [e] at hp;have hp':plain (cs.headD undef)=true:=by simpa using hp
  have:=ZYb hp'
  conv=>rhs;rw [e]
  exact this
theorem ZMq {ρ:Type} {t:T} (hn:¬ U n) (hX:X n):∀ {c:V} {k:List t.den→Ev ρ} {l:Lo} {γ:Nat→Gh} {v:Za} {ℓ:List Loc} {Post:ρ→Fr→Lo→Prop},Zn n (convS t c k) f l Post→RelX N G w0 v0 U X f l a w γ v ℓ→c.ok U →
  ∃ xs l' γ' v' ℓ',Zn n (k xs) f l' Post∧RelX N G w0 v0 U X f l' a w γ' v' ℓ'∧Le U v γ l v' γ' l'∧∀ vals,RR v γ l true c vals→∃ css:List (List Value),t.rep.rels v' css.flatten xs∧css.length=xs.length∧vals.map Value.cells=css.map List.toArray∧∀ cs ∈ css,cs.length=t.n:=by
 intro c
 induction c with
 | nl =>
  intro k l γ v ℓ Post h hr hk;obtain ⟨E,hE,_⟩:=hr.lr;exact ⟨[],l,γ,v,ℓ,h,hr,Le.refl hE (Za.le_refl _),fun vals hv=>⟨[],rfl,rfl,by rw [show vals=[] from hv];rfl,fun _ h=>by cases h⟩⟩
 | cons x c _ ih =>
  intro k l γ v ℓ Post h hr hk;have hfit:=ZPr (n:=n) (f:=f) (l:=l) (g:=FU) (t:=t) (x:=x) h;obtain ⟨y,l1,γ1,v1,ℓ1,h,r1,le1,q1⟩:=Z0d hn hX FU h hr hk.1;obtain ⟨ys,l2,γ2,v2,ℓ2,h,r2,le2,q2⟩:=ih h r1 hk.2;refine ⟨y :: ys,l2,γ2,v2,ℓ2,h,r2,le1.trans le2,fun vals hv=>?_⟩;obtain ⟨cs,vs,rfl,h1,h2⟩:=hv;have hrel:=q1 cs h1;obtain ⟨css,k1,k2,k3,k4⟩:=q2 vs (ZZa le1 hk.2 h2);refine ⟨cs :: css,⟨cs,css.flatten,rfl,Rep.mono _ le2.v hrel,k1⟩,by simp [k2],?_,fun c hc=>?_⟩
  ·rw [List.map_cons,List.map_cons,k3,Zap hfit h1 (Rep.flat _ hrel)]
  ·rcases List.mem_cons.1 hc with rfl | hc
   ·rw [Rep.len _ hrel,ZR]
   ·exact k4 c hc
 | _=>intro k l γ v ℓ Post h;exact h.elim
theorem ZYl {sz:Nat}:∀ (css:List (List Value)) (vals:List Value) (k:Nat) (cells:Array Value),vals.map Value.cells=css.map List.toArray→(∀ cs ∈ css,cs.length=sz)→cells.size=(k+css.length)*sz →
  Instr.fill (fun i=>some (i*sz,sz)) cells (vals.zipIdx k |>.map fun p=>(p.2,p.1))=some (cells.toList.take (k*sz)++css.flatten).toArray
 | [],[],k,cells,_,_,hc=>by
  simp only [List.length_nil,Nat.add_zero] at hc
  simp only [List.zipIdx_nil,List.map_nil,Instr.fill,List.flatten_nil,List.append_nil]
  rw [List.take_of_length_le (by simp [hc])]
 | cs :: css,x :: vals,k,cells,h,hs,hc=>by
  simp only [List.map_cons,List.cons.injEq] at h
  have hl:=hs cs (by simp)
  simp only [List.length_cons] at hc
  have hb:k*sz+sz+css.length*sz=cells.size:=by rw [hc,Nat.add_mul,Nat.succ_mul];omega
  simp only [List.zipIdx_cons,List.map_cons]
  rw [Zil (cs:=cs) (off:=k*sz) (by rw [hl]) h.1 (by omega)]
  rw [ZYl css vals (k+1) _ h.2 (fun c hc=>hs c (by simp [hc])) (by
   simp only [List.size_toArray,List.length_append,List.length_take,List.length_drop,Array.length_toList]
   rw [hl,Nat.min_eq_left (by omega),Nat.add_mul,Nat.succ_mul];omega)]
  congr 2
  have e1:(cells.toList.take (k*sz)).length=k*sz:=by simp;omega
  rw [List.flatten_cons,← List.append_assoc,Nat.succ_mul]
  congr 1
  rw [List.take_append,List.take_of_length_le (by simp [hl];omega)]
  rw [show k*sz+sz-(cells.toList.take (k*sz)++cs).length=0 by rw [List.length_append,e1,hl];omega]
  simp
 | [],_ :: _,_,_,h,_,_=>by simp at h
 | _ :: _,[],_,_,h,_,_=>by simp at h
theorem Zno:∀ {ps:List (Nat×Operand)} {k:Nat},Zjj k ps=true→ps.map (fun p=>(p.1,a.eval p.2))=((ps.map fun p=>a.eval p.2).zipIdx k).map fun p=>(p.2,p.1)
 | [],_,_=>rfl
 | p :: ps,k,h=>by
  simp only [Zjj] at h
  split at h
  ·rename_i hb
   have hb:=Nat.eq_of_beq_eq_true hb
   simp only [List.map_cons,List.zipIdx_cons]
   rw [Zno h,hb]
  ·cases h
theorem ZEp {t e:TypeId} {m sz:Nat} {inf:TypeInfo} {z:Value} {L:List (Nat×Value)} {cs:List Value} (ht:P.underlying t=some (.slice e)) (hi:P.info? e=some inf) (hz:inf.zero=some z) (hs:inf.size=sz) (hb:m*sz≤16777216)
  (hf:∀ zc:Array Value,Instr.fill (fun i=>some (i*sz,sz)) ((Array.range (m*sz)).map (fun i=>zc[i%zc.size]!)) L=some cs.toArray) (w:World):(Instr.buildSlice t m L.toArray).run P w = .ok (.slice (some ⟨w.heap.size,0,none⟩) m m) (w.alloc (.cells cs.toArray e)):=by
 subst hs;have hb:¬ (m*inf.size>2^24):=by omega
 unfold Instr.buildSlice;by_cases h0:m*inf.size=0
 ·have:=hf #[];simp only [h0] at this;simp [run_underlying ht,sizeOf,typeInfo,hi,h0] ; simp at this;simp [this,newRow]
 ·have:=hf z.cells;obtain ⟨A,hA⟩:∃ A,A=(Array.range (m*inf.size)).map (fun i=>z.cells[i%z.cells.size]!):=⟨_,rfl⟩;rw [← hA] at this;simp only [run_underlying ht,sizeOf,typeInfo,zeroValue];simp [run_underlying ht,typeInfo,hi,hz,h0,show ¬ (16777216<m*inf.size) by omega];rw [← hA,this];simp [newRow]
theorem Zhq {C:Cf} (hr:RelX N G w0 v0 U X f l a w γ v ℓ) (hU:∀ k,U k→X k) (hX:X n) (hn:¬ U n) {d:Option Nat} {t:TypeId} {m:Nat} {ps:Array (Nat×Operand)} {o:Oper} {Post:Unit→Fr→Lo→Prop} (ho:o=⟨d,.buildSlice t m ps,ty,pos,aft,g⟩) (hd:∀ k,o.dst=some k→k<N)
  (h:Zn n (ZU C n o) f l Post):ZJa C.P N G w0 v0 X o a w Post:=by
 subst ho;simp only [ZU] at h;split at h
 ·rename_i q hq;obtain ⟨hE,hby⟩:=Zwj hq;split at h
  ·rename_i s hs ho hlen hbig;have hlen:=Nat.eq_of_beq_eq_true hlen;have hbig:=Nat.le_of_ble_eq_true hbig;split at h
   ·rename_i hsz;have hsz:=Nat.eq_of_beq_eq_true hsz;obtain ⟨c,h1,h2,h⟩:=ZFe hr h;obtain ⟨xs,l1,γ1,v1,ℓ1,h,r1,le1,q1⟩:=ZMq hn hX h hr h2;obtain ⟨css,k1,k2,k3,k4⟩:=q1 _ h1;obtain ⟨E,hEE,hp⟩:=r1.lr;have hvl:css.length=m:=by
     have:=congrArg List.length k3;simp only [List.length_map] at this;omega
    have hflat:css.flatten.length=m*q.sz:=by
     have:=ZAd k1;rw [ZR,← k2,hvl,← hsz] at this;exact this
    have hz:∀ w,(Instr.buildSlice t m (ps.toList.map fun p=>(p.1,a.eval p.2)).toArray).run C.P w = .ok (.slice (some ⟨w.heap.size,0,none⟩) m m) (w.alloc (.cells css.flatten.toArray q.e)):=by
     intro w;obtain ⟨inf,hinf,hzz,hsz',hby'⟩:=info_parts hE.info;rw [Zno ho];have hm:(ps.toList.map fun p=>a.eval p.2)=(ps.toList.map (·.2)).map a.eval:=by rw [List.map_map];rfl
     rw [hm];have hf:∀ zc:Array Value,Instr.fill (fun i=>some (i*q.sz,q.sz)) ((Array.range (m*q.sz)).map (fun i=>zc[i%zc.size]!)) ((((ps.toList.map (·.2)).map a.eval).zipIdx).map fun p=>(p.2,p.1))=some css.flatten.toArray:=fun zc=>by
      have:=ZYl (sz:=q.sz) css ((ps.toList.map (·.2)).map a.eval) 0 ((Array.range (m*q.sz)).map (fun i=>zc[i%zc.size]!)) k3 (fun cs hc=>by rw [k4 cs hc,hsz]) (by simp [hvl]);rw [Nat.zero_mul,List.take_zero,List.nil_append] at this;exact this
     obtain ⟨L,hL⟩:∃ L,L=((((ps.toList.map (·.2)).map a.eval).zipIdx).map fun p=>(p.2,p.1)):=⟨_,rfl⟩;rw [← hL] at hf ⊢;clear hL;exact ZEp hE.ty hinf hzz hsz' hbig hf w
    have hst:=r1.st.perm hp;obtain ⟨σ,hσ,hev⟩:=hst.evs (ps.toList.map (·.2));have hmax:m≤maxLen:=by
     have h1:m≤m*q.sz:=Nat.le_mul_of_pos_right _ hE.pos;unfold maxLen;omega
    obtain ⟨b,w',hrun,hst'⟩:=ZLg (P:=C.P) (t:=t) (e:=q.e) hσ hflat hmax hz;have hev':ps.toList.map (fun p=>(ev σ p.2).map fun y=>(p.1,y))=(ps.toList.map fun p=>(p.1,a.eval p.2)).map some:=by
     rw [List.map_map];refine List.map_congr_left fun p hp=>?_;rw [hev p.2 (List.mem_map.2 ⟨p,hp,rfl⟩)];rfl
    have hxl:m=xs.length:=by omega
    have hst':=hst'.bare;rw [hsz,hxl] at hst';have hrun':=hrun (d:=d) (ty:=ty) (pos:=pos) (aft:=aft) (g:=g) hev'
    conv at hrun'=>rhs;rw [hxl]
    exact Zth r1 hU hX hn hd hEE rfl hst' k1 hrun' h
   ·exact h.elim
  ·exact h.elim
 ·exact h.elim
end
end Go.Eng
