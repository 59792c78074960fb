/- Lemmas towards the statement: the engine of the walks, the functions' models, laws and walks, part 3. Conditions: as each states. -/
import Derived.Test.YtjcadoikcddglaaGreatProg
import Derived.Test.YtjcadoikcddglaaGreatKpB
set_option linter.all false
set_option maxRecDepth 100000
namespace Go.Eng
noncomputable def ZQj (l:(List (Int×Int))):Option ((List Rat)×(List Rat)) :=
 bnd (bnd (ZZ (fun s:(List Rat)×(List Rat)×Int=>match s with
 | (b,c,d) =>
 (ifb (decide (d<(l.length:Int)))
 (bnd (idx l d) fun a =>
 bnd (ZFd ((a.1,a.2))) fun e =>
 bnd (Zjb 56 (b++[e])) fun m =>
 bnd (Zue ((a.1,a.2))) fun f =>
 bnd (Zjb 56 (c++[f])) fun n =>
 bnd (chk .i64 (d+(1:Int))) fun g =>
 some (.inl (((b++[e]),(c++[f]),g))))
 (some (.inr ((b,c)))))) Zba ((([]:(List Rat)),([]:(List Rat)),(0:Int))))
 (fun (p:(List Rat)×(List Rat))=>match p with
 | (h,i) =>
 (some ((h,i)))))
 (fun (p:(List Rat)×(List Rat))=>match p with
 | (j,k) =>
 (some ((j,k))))
noncomputable def ZNi (step:(Int×Int)) (limits:(List (Int×Int))):Option ((Rat×(List Rat))×(Rat×(List Rat))) :=
 bnd (ZQj limits) fun a =>
 bnd (ZFd ((step.1,step.2))) fun b =>
 bnd (Zue ((step.1,step.2))) fun c =>
 some (((b,a.1),(c,a.2)))
noncomputable def ZIe  : Option (Bool) :=
 bnd (Z1i ((((2:Int),(0:Int)),((1:Int),(2:Int)),((4000:Int),(0:Int))))) fun a =>
 bnd (bnd (ZQc (48:Int)) fun f =>
 bnd (ZQc (8:Int)) fun g =>
 bnd (ZAj ((a.1.1,a.1.2.1,a.1.2.2)) f g) fun b =>
 some ((b.1,b.2)))
 (fun (p:Rat×Int)=>match p with
 | (h,i) =>
 (bnd (Zmc ([[(20:Int),(5:Int)],[(10:Int),(15:Int)]])) fun c =>
 bnd (ZNi (((1:Int),(10:Int))) ([((1:Int),(0:Int)),((2:Int),(0:Int))])) fun d =>
 bnd (ZFd (((206:Int),(100:Int)))) fun j =>
 bnd (ZPi ((d.1.1,d.1.2)) j) fun e =>
 bnd (ifb (i==(0:Int))
 (ifb (c.2==(0:Int))
 (ifb (e.2==(0:Int))
 (bnd (ZUe h) fun k =>
 ifb (k==(([53,48]:List UInt8)))
 (bnd (ZUe c.1) fun l =>
 ifb (l==(([50,47,53]:List UInt8)))
 (some (e.1==(2:Int)))
 (some false))
 (some false))
 (some false))
 (some false))
 (some false))
 (fun (m:Bool) =>
 (some m))))
set_option maxRecDepth 100000 in
theorem ZJg:ZIe=some true:=by
 unfold ZIe;rw [Z3o];decide +kernel
theorem Zab {α β:Type} {x:Option α} {y:α} {f:α→Option β} {z:Option β} (h:x=some y) (h2:f y=z):bnd x f=z:=by subst h;rw [Zd];exact h2
theorem ZSb {S R:Type} {body:S→Option (S ⊕ R)} {s:S} {r:R} (st:Nat→S) (n:Nat) (h0:st 0=s) (hn:n<2^64) (h:∀ k,k<n→body (st k)=some (.inl (st (k+1)))) (he:body (st n)=some (.inr r)):ZZ body Zba s=some r:=by
 have key:∀ m f k,k+m=n→m<f→ZZ body f (st k)=some r:=by
  intro m
  induction m with
  | zero =>
   intro f k hk hf;obtain ⟨f,rfl⟩:∃ g,f=g+1:=⟨f-1,by omega⟩;obtain rfl:k=n:=by omega
   unfold ZZ;rw [he,Zd]
  | succ m ih =>
   intro f k hk hf;obtain ⟨f,rfl⟩:∃ g,f=g+1:=⟨f-1,by omega⟩;unfold ZZ;rw [h k (by omega),Zd];exact ih f (k+1) (by omega) (by omega)
 rw [← h0];exact key n Zba 0 (by omega) (ZTa (by omega))
set_option maxRecDepth 100000
theorem ZQd {α:Type} {l:List α} {i:Nat} {d:α} (h:i<l.length):l.getD i d=l[i]:=by rw [List.getD_eq_getElem?_getD,List.getElem?_eq_getElem h];rfl
theorem Zuf:sz 1 (1:Rat):=by constructor <;> decide
theorem set_at {α:Type} (A B:List α) (z v:α):(A++z :: B).set A.length v=A++v :: B:=by
 rw [List.set_append_right _ _ (Nat.le_refl _),Nat.sub_self];rfl
theorem Z0h {α β γ:Type} (f:β→Option γ) (g:α→β) (h:α→γ) (e:∀ x,f (g x)=some (h x)):∀ l:List α,Zke f (l.map g)=some (l.map h)
 | []=>rfl
 | x :: l=>by rw [List.map_cons,Zke,e x,Zd,Z0h f g h e l,Zd];rfl
noncomputable def ZHg (t:(List (List Int))):Option (Int) :=
 bnd (ifb (decide ((t.length:Int)<(1:Int)))
 (some true)
 (some (decide ((8:Int)<(t.length:Int)))))
 (fun (f:Bool) =>
 (ifb (f)
 (some (4:Int))
 (bnd (bnd (ZZ (fun s:Int=>match s with
 | c =>
 (ifb (decide (c<(t.length:Int)))
 (bnd (idx t c) fun g =>
 ifb (((g.length:Int)) != ((t.length:Int)))
 (some (.inr ((.inl (4:Int)))))
 (bnd (chk .i64 (c+(1:Int))) fun h =>
 some (.inl h)))
 (some (.inr ((.inr (()))))))) Zba (0:Int))
 (fun (p:(Int) ⊕ (Unit))=>match p with
 | .inl i =>
 (some ((.inr i)))
 | .inr (()) =>
 (some ((.inl (()))))))
 (fun (p:(Unit) ⊕ (Int))=>match p with
 | .inl (()) =>
 (bnd (bnd (ZZ (fun s:Bool×Int=>match s with
 | (d,a) =>
 (ifb (decide (a<(t.length:Int)))
 (bnd (bnd (ZZ (fun s:Bool×Int=>match s with
 | (e,b) =>
 (ifb (decide (b<(t.length:Int)))
 (bnd (bnd (idx t a) fun j =>
 bnd (idx j b) fun k =>
 ifb (decide (k<(0:Int)))
 (some true)
 (bnd (idx t a) fun l =>
 bnd (idx l b) fun m =>
 some (decide ((1000000:Int)<m))))
 (fun (n:Bool) =>
 (ifb (n)
 (some (.inr ((.inl (1:Int)))))
 (bnd (ifb (e)
 (bnd (idx t a) fun o =>
 bnd (idx o b) fun q =>
 some (q==(0:Int)))
 (some false))
 (fun (r:Bool) =>
 (bnd (chk .i64 (b+(1:Int))) fun u =>
 some (.inl ((r,u)))))))))
 (some (.inr ((.inr e)))))) Zba ((d,(0:Int))))
 (fun (p:(Int) ⊕ (Bool))=>match p with
 | .inl v =>
 (some ((.inr v)))
 | .inr w =>
 (some ((.inl w)))))
 (fun (p:(Bool) ⊕ (Int))=>match p with
 | .inl x =>
 (bnd (chk .i64 (a+(1:Int))) fun y =>
 some (.inl ((x,y))))
 | .inr z =>
 (some (.inr ((.inl z))))))
 (some (.inr ((.inr d)))))) Zba ((true,(0:Int))))
 (fun (p:(Int) ⊕ (Bool))=>match p with
 | .inl A =>
 (some ((.inr A)))
 | .inr B =>
 (some ((.inl B)))))
 (fun (p:(Bool) ⊕ (Int))=>match p with
 | .inl C =>
 (ifb (C)
 (some (3:Int))
 (some (0:Int)))
 | .inr D =>
 (some D)))
 | .inr E =>
 (some E)))))
def bad (x:Int):Bool:=decide (x<0) || decide (1000000<x)
theorem ZXl (x:Int):ifb (decide (x<0)) (some true) (some (decide (1000000<x)))=some (bad x):=by
 unfold bad;by_cases h:x<0
 ·rw [decide_eq_true h,ZF];rfl
 ·rw [decide_eq_false h,ZE];rfl
theorem ZTh {x:Int} (h:bad x=false):0≤x∧x≤1000000:=by
 unfold bad at h;simp at h;omega
theorem Zog (l:List Int) {k:Nat} (h:k<l.length):(l.take (k+1)).sum=(l.take k).sum+l[k]:=by
 rw [List.take_succ_eq_append_getElem h,List.sum_append];simp
theorem Z7e {l:List Int}:∀ (k:Nat),(∀ j,(h:j<l.length)→j<k→bad l[j]=false)→k≤l.length→0≤(l.take k).sum∧(l.take k).sum≤1000000*k
 | 0,_,_=>by simp
 | k+1,h,hk=>by
  have ih:=Z7e k (fun j hj hjk=>h j hj (by omega)) (by omega)
  have:=ZTh (h k (by omega) (by omega))
  rw [Zog l (by omega)]
  omega
theorem Zel {l:List Int} (h:l.any bad=true):∃ m,∃ hm:m<l.length,bad l[m]=true∧∀ j,(h:j<l.length)→j<m→bad l[j]=false:=by
 have hm:l.findIdx bad<l.length:=List.findIdx_lt_length.2 (List.any_eq_true.1 h);exact ⟨l.findIdx bad,hm,List.findIdx_getElem,fun j hj hjm=>by
  have:=List.not_of_lt_findIdx hjm
  simpa using this⟩
theorem ZBf {l:List Int} (h:l.any bad=false):∀ j,(hj:j<l.length)→bad l[j]=false:=fun j hj=>by
 rw [List.any_eq_false] at h
 simpa using h l[j] (List.getElem_mem hj)
theorem ZBn {l:List Int} {x:Int} {body:Int×Int→Option ((Int×Int) ⊕ ((Int×Int) ⊕ Int))} (hl:l.length≤8) (h0:0≤x) (hx:x≤1000000000)
  (hb:∀ (s:Int) (k:Nat),(hk:k<l.length)→0≤s→s≤2000000000→body (s,(k:Int))=if bad l[k] then some (.inr (.inl (0,1))) else some (.inl (s+l[k],(k:Int)+1)))
  (he:∀ s,body (s,(l.length:Int))=some (.inr (.inr s))):ZZ body Zba (x,0)=some (if l.any bad then .inl (0,1) else .inr (x+l.sum)):=by
 by_cases h:l.any bad=true
 ·rw [if_pos h];obtain ⟨m,hm,h1,h2⟩:=Zel h;refine ZSb (fun k=>(x+(l.take k).sum,(k:Int))) m (by simp) (by omega) (fun k hk=>?_) ?_
  ·have hs:=Z7e k (fun j hj hjk=>h2 j hj (by omega)) (by omega);rw [hb _ k (by omega) (by omega) (by omega),h2 k (by omega) hk,if_neg (by simp),Zog l (by omega),Int.add_assoc];rfl
  ·have hs:=Z7e m h2 (by omega);rw [hb _ m hm (by omega) (by omega),h1,if_pos rfl]
 ·have h':l.any bad=false:=by simpa using h
  rw [if_neg h];have h2:=ZBf h';refine ZSb (fun k=>(x+(l.take k).sum,(k:Int))) l.length (by simp) (by omega) (fun k hk=>?_) ?_
  ·have hs:=Z7e k (fun j hj hjk=>h2 j hj) (by omega);rw [hb _ k hk (by omega) (by omega),h2 k hk,if_neg (by simp),Zog l hk,Int.add_assoc];rfl
  ·rw [he,List.take_length]
def okT (t:List (List Int)):Bool:=!(t.length==0 || decide (8<t.length) || t.any fun r=>(r.length:Int) != (t.length:Int))
def tot (t:List (List Int)) (k:Nat):Int:=((t.take k).map List.sum).sum
theorem Zfk (t:List (List Int)):tot t 0=0:=rfl
theorem Z8f (t:List (List Int)) {k:Nat} (h:k<t.length):tot t (k+1)=tot t k+t[k].sum:=by
 unfold tot;rw [List.take_succ_eq_append_getElem h,List.map_append,List.sum_append];simp
def Zcb (t:List (List Int)):Int:=tot t t.length
def Z6c (t:List (List Int)):Int×Int:=if okT t then if t.any (·.any bad) then (0,1) else if Zcb t=0 then (0,3) else (Zcb t,0) else (0,4)
theorem Z6g {α:Type} {p:α→Bool} {l:List α} (h:l.any p=true):∃ m,∃ hm:m<l.length,p l[m]=true∧∀ j,(h:j<l.length)→j<m→p l[j]=false:=by
 have hm:l.findIdx p<l.length:=List.findIdx_lt_length.2 (List.any_eq_true.1 h);exact ⟨l.findIdx p,hm,List.findIdx_getElem,fun j hj hjm=>by
  have:=List.not_of_lt_findIdx hjm
  simpa using this⟩
theorem Z2d {α:Type} {p:α→Bool} {l:List α} (h:l.any p=false):∀ j,(hj:j<l.length)→p l[j]=false:=fun j hj=>by
 rw [List.any_eq_false] at h
 simpa using h l[j] (List.getElem_mem hj)
theorem Z5k {l:List Int} (h:l.any bad=false) (hl:l.length≤8):0≤l.sum∧l.sum≤8000000:=by
 have h1:=ZBf h;have h2:=Z7e (l:=l) l.length (fun j hj _=>h1 j hj) (Nat.le_refl _);rw [List.take_length] at h2;omega
theorem ZCe {t:List (List Int)} (hw:∀ r ∈ t,r.length≤8):∀ (k:Nat),(∀ j,(h:j<t.length)→j<k→t[j].any bad=false)→k≤t.length→0≤tot t k∧tot t k≤8000000*k
 | 0,_,_=>by simp [Zfk]
 | k+1,h,hk=>by
  have ih:=ZCe hw k (fun j hj hjk=>h j hj (by omega)) (by omega)
  have h1:=Z5k (h k (by omega) (by omega)) (hw t[k] (List.getElem_mem (by omega)))
  rw [Z8f t (by omega)]
  omega
theorem Zpn (t u:List (List Int)) (hl:t.length≤9223372036854775807):Ztf t u=some (t.any fun r=>(r.length:Int) != (u.length:Int)):=by
 unfold Ztf Zhh Z9g;rw [Z0a,Z0a];by_cases h:(t.any fun r=>(r.length:Int) != (u.length:Int))=true
 ·obtain ⟨m,hm,h1,h2⟩:=Z6g h;rw [h];refine Zab (ZSb (r:=.inl (m:Int)) (fun k=>(k:Int)) m rfl (by omega) (fun k hk=>?_) ?_) ?_
  ·simp only;rw [decide_eq_true (by omega),ZF,Z0 (by omega),Zd,Zd,h2 k (by omega) hk,ZE,Z7 (by omega) (by omega),Zd];rfl
  ·simp only;rw [decide_eq_true (by omega),ZF,Z0 (by omega),Zd,Zd,h1,ZF]
  ·simp only [Zd];exact congrArg some (decide_eq_true (by omega))
 ·have h':(t.any fun r=>(r.length:Int) != (u.length:Int))=false:=by simpa using h
  have h2:=Z2d h';rw [h'];refine Zab (ZSb (r:=.inr ()) (fun k=>(k:Int)) t.length rfl (by omega) (fun k hk=>?_) ?_) ?_
  ·simp only;rw [decide_eq_true (by omega),ZF,Z0 (by omega),Zd,Zd,h2 k hk,ZE,Z7 (by omega) (by omega),Zd];rfl
  ·simp only;rw [decide_eq_false (by omega),ZE]
  ·rfl
theorem Zxk {t:List (List Int)} (h:okT t=true):0<t.length∧t.length≤8∧∀ r ∈ t,r.length=t.length:=by
 unfold okT at h;simp at h;obtain ⟨⟨h1,h2⟩,h3⟩:=h;refine ⟨?_,by omega,fun r hr=>by have:=h3 r hr;omega⟩
 cases t with
 | nil=>simp at h1
 | cons a l=>simp
theorem ZRk (t:List (List Int)) (hl:t.length≤9223372036854775807):Zpf t=some (Z6c t):=by
 unfold Zpf;have e1:ifb (((t.length:Int))==((0:Int))) (some ((t,true))) (ifb (decide ((8:Int)<(t.length:Int))) (some ((t,true))) (bnd (Ztf t t) fun y189=>some ((t,y189))))=some (t,!okT t):=by
  rw [Zpn t t hl,Zd];unfold okT;rw [Bool.not_not];by_cases h1:t.length=0
  ·rw [h1];simp [ifb]
  ·have:((t.length:Int)==(0:Int))=false:=by simp;intro h;exact h1 (by simp [h])
   have h1':(t.length==0)=false:=by simpa using h1
   rw [this,ZE,h1'];by_cases h2:8<t.length
   ·rw [decide_eq_true (by omega),ZF,decide_eq_true h2];simp
   ·rw [decide_eq_false (by omega),ZE,decide_eq_false h2];simp
 rw [e1,Zd];simp only;unfold Z6c;by_cases hk:okT t=true
 ·obtain ⟨n0,n8,hr⟩:=Zxk hk;have hw:∀ r ∈ t,r.length≤8:=fun r h=>by rw [hr r h];exact n8
  rw [hk,Bool.not_true,ZE,if_pos rfl];have step:∀ k,(hk:k<t.length)→0≤tot t k→tot t k≤1000000000→_:=fun k hk s0 s1=>ZBn (l:=t[k]) (hw _ (List.getElem_mem _)) s0 s1
   (body:=fun s:Int×Int=>match s with
 | (x120,x122) =>
 (ifb (decide (x122<(t[k].length:Int)))
 (bnd (idx t[k] x122) fun y147 =>
 bnd (ifb (decide (y147<(0:Int)))
 (some true)
 (some (decide ((1000000:Int)<y147))))
 (fun (x166:Bool) =>
 (ifb (x166)
 (some (.inr ((.inl (((0:Int),(1:Int)))))))
 (bnd (chk .i64 (x120+y147)) fun y177 =>
 bnd (chk .i64 (x122+((1:Int)))) fun y179 =>
 some (.inl ((y177,y179)))))))
 (some (.inr ((.inr x120)))))) (fun s j hj h0 h1=>by
    simp only;rw [decide_eq_true (by omega),ZF,Z0 hj,Zd,ZXl,Zd];by_cases hb:bad t[k][j]=true
    ·rw [hb,ZF,if_pos rfl]
    ·have hb':bad t[k][j]=false:=by simpa using hb
     have:=ZTh hb';have:=hw _ (List.getElem_mem hk);rw [hb',ZE,if_neg (by simp),Z7 (by omega) (by omega),Zd,Z7 (by omega) (by omega),Zd]) (fun s=>by
    simp only;rw [decide_eq_false (by omega),ZE])
  by_cases hb:(t.any (·.any bad))=true
  ·rw [if_pos hb];obtain ⟨m,hm,h1,h2⟩:=Z6g hb;refine Zab (y:=.inr ((0:Int),(1:Int))) (Zab (ZSb (r:=.inl ((0:Int),(1:Int))) (fun k=>(tot t k,(k:Int))) m rfl (by omega) (fun k hk=>?_) ?_) rfl) rfl
   ·have hs:=ZCe hw k (fun j hj hjk=>h2 j hj (by omega)) (by omega);simp only;rw [decide_eq_true (by omega),ZF,Z0 (by omega),Zd,step k (by omega) hs.1 (by omega),Zd,if_neg (by rw [h2 k (by omega) hk];simp)];simp only;rw [Zd];simp only;rw [Z7 (by omega) (by omega),Zd,Z8f t (by omega)];rfl
   ·have hs:=ZCe hw m h2 (by omega);simp only;rw [decide_eq_true (by omega),ZF,Z0 (by omega),Zd,step m hm hs.1 (by omega),Zd,if_pos h1];simp only;rw [Zd]
  ·have hb':(t.any (·.any bad))=false:=by simpa using hb
   have h2:=Z2d hb';have hs:=ZCe hw t.length (fun j hj _=>h2 j hj) (Nat.le_refl _);rw [if_neg hb];refine Zab (y:=.inl (Zcb t)) (Zab (ZSb (r:=.inr (Zcb t)) (fun k=>(tot t k,(k:Int))) t.length rfl (by omega) (fun k hk=>?_) ?_) rfl) ?_
   ·have hs:=ZCe hw k (fun j hj hjk=>h2 j hj) (by omega);simp only;rw [decide_eq_true (by omega),ZF,Z0 (by omega),Zd,step k (by omega) hs.1 (by omega),Zd,if_neg (by rw [h2 k (by omega)];simp)];simp only;rw [Zd];simp only;rw [Z7 (by omega) (by omega),Zd,Z8f t (by omega)];rfl
   ·simp only;rw [decide_eq_false (by omega),ZE];rfl
   ·simp only;by_cases h0:Zcb t=0
    ·rw [h0];rfl
    ·rw [if_neg h0];have:(Zcb t==(0:Int))=false:=by simpa using h0
     rw [this,ZE]
 ·have:okT t=false:=by simpa using hk
  rw [this,Bool.not_false,ZF,if_neg (by simp)]
theorem ZIf {α:Type} (p:α→Bool) (l:List α) {k:Nat} (h:k<l.length):(l.take (k+1)).all p=((l.take k).all p&&p l[k]):=by
 rw [List.take_succ_eq_append_getElem h,List.all_append];simp
theorem Zgn {l:List Int} (h:l.any bad=false):l.sum=0↔l.all (· == 0)=true:=by
 have key:∀ k,k≤l.length→((l.take k).sum=0↔(l.take k).all (· == 0)=true):=by
  intro k
  induction k with
  | zero=>simp
  | succ k ih =>
   intro hk;have ih:=ih (by omega);have b1:=Z7e (l:=l) k (fun j hj _=>ZBf h j hj) (by omega);have b2:=ZTh (ZBf h k (by omega));rw [Zog l (by omega),ZIf _ l (by omega),Bool.and_eq_true,← ih,beq_iff_eq];omega
 have:=key l.length (Nat.le_refl _)
 rwa [List.take_length] at this
theorem Zso {t:List (List Int)} (hw:∀ r ∈ t,r.length≤8) (h:t.any (·.any bad)=false):Zcb t=0↔t.all (·.all (· == 0))=true:=by
 have key:∀ k,k≤t.length→(tot t k=0↔(t.take k).all (·.all (· == 0))=true):=by
  intro k
  induction k with
  | zero=>simp [Zfk]
  | succ k ih =>
   intro hk;have ih:=ih (by omega);have b1:=ZCe hw k (fun j hj _=>Z2d h j hj) (by omega);have b3:=Z2d h k (by omega);have b2:=Z5k b3 (hw _ (List.getElem_mem (by omega)));rw [Z8f t (by omega),ZIf _ t (by omega),Bool.and_eq_true,← ih,← Zgn b3];omega
 have:=key t.length (Nat.le_refl _);rw [List.take_length] at this;exact this
theorem Zpo (t:List (List Int)) (hl:t.length≤9223372036854775807):ZHg t=some (Z6c t).2:=by
 unfold ZHg;unfold Z6c;have e1:ifb (decide ((t.length:Int)<(1:Int))) (some true) (some (decide ((8:Int)<(t.length:Int))))=some (t.length==0 || decide (8<t.length)):=by
  by_cases h1:t.length=0
  ·rw [h1];rfl
  ·have h1':(t.length==0)=false:=by simpa using h1
   rw [decide_eq_false (by omega),ZE,h1',Bool.false_or];exact congrArg some (decide_eq_decide.2 (by omega))
 rw [e1,Zd];by_cases h0:(t.length==0 || decide (8<t.length))=true
 ·have:okT t=false:=by unfold okT;rw [h0];rfl
  rw [h0,ZF,this];rfl
 ·have h0':(t.length==0 || decide (8<t.length))=false:=by simpa using h0
  have hok:okT t = !(t.any fun r=>(r.length:Int) != (t.length:Int)):=by unfold okT;rw [h0',Bool.false_or]
  have n8:t.length≤8:=by simp at h0';omega
  rw [h0',ZE];by_cases h:(t.any fun r=>(r.length:Int) != (t.length:Int))=true
  ·obtain ⟨m,hm,h1,h2⟩:=Z6g h;rw [hok,h];refine Zab (y:=.inr (4:Int)) (Zab (ZSb (r:=.inl (4:Int)) (fun k=>(k:Int)) m rfl (by omega) (fun k hk=>?_) ?_) rfl) rfl
   ·simp only;rw [decide_eq_true (by omega),ZF,Z0 (by omega),Zd,h2 k (by omega) hk,ZE,Z7 (by omega) (by omega),Zd];rfl
   ·simp only;rw [decide_eq_true (by omega),ZF,Z0 (by omega),Zd,h1,ZF]
  ·have h':(t.any fun r=>(r.length:Int) != (t.length:Int))=false:=by simpa using h
   have h2:=Z2d h';have hr:∀ k,(hk:k<t.length)→t[k].length=t.length:=fun k hk=>by
    have:=h2 k hk;simp at this;omega
   have hw:∀ r ∈ t,r.length≤8:=fun r hr'=>by
    obtain ⟨k,hk,rfl⟩:=List.getElem_of_mem hr';rw [hr k hk];exact n8
   rw [hok,h',Bool.not_false,if_pos rfl];refine Zab (y:=.inl ()) (Zab (ZSb (r:=.inr ()) (fun k=>(k:Int)) t.length rfl (by omega) (fun k hk=>?_) ?_) rfl) ?_
   ·simp only;rw [decide_eq_true (by omega),ZF,Z0 (by omega),Zd,h2 k hk,ZE,Z7 (by omega) (by omega),Zd];rfl
   ·simp only;rw [decide_eq_false (by omega),ZE]
   ·simp only;have step:∀ i,(hi:i<t.length)→∀ f:Bool,ZZ (σ:=Bool×Int) (ρ:=Int ⊕ Bool) (fun s:Bool×Int=>match s with
 | (x95,x96) =>
 (ifb (decide (x96<(t.length:Int)))
 (bnd (bnd (idx t (i:Int)) fun y177 =>
 bnd (idx y177 x96) fun y187 =>
 ifb (decide (y187<(0:Int)))
 (some true)
 (bnd (idx t (i:Int)) fun y196 =>
 bnd (idx y196 x96) fun y204 =>
 some (decide ((1000000:Int)<y204))))
 (fun (x122:Bool) =>
 (ifb (x122)
 (some (.inr ((.inl ((1:Int))))))
 (bnd (ifb (x95)
 (bnd (idx t (i:Int)) fun y145 =>
 bnd (idx y145 x96) fun y155 =>
 some (y155==((0:Int))))
 (some false))
 (fun (x134:Bool) =>
 (bnd (chk .i64 (x96+((1:Int)))) fun y142 =>
 some (.inl ((x134,y142)))))))))
 (some (.inr ((.inr x95)))))) Zba ((f,(0:Int)))=some (if t[i].any bad then .inl (1:Int) else .inr (f&&t[i].all (· == 0))):=by
     intro i hi f;have hri:=hr i hi;have one:∀ k,(hk:k<t[i].length)→(bnd (idx t (i:Int)) fun y177=>bnd (idx y177 (k:Int)) fun y187=>ifb (decide (y187<(0:Int))) (some true) (bnd (idx t (i:Int)) fun y196=>bnd (idx y196 (k:Int)) fun y204=>some (decide ((1000000:Int)<y204))))=some (bad t[i][k]):=by
      intro k hk;rw [Z0 hi,Zd,Z0 hk,Zd,Zd,Z0 hk,Zd,ZXl]
     have two:∀ (b:Bool) k,(hk:k<t[i].length)→ifb b (bnd (idx t (i:Int)) fun y145=>bnd (idx y145 (k:Int)) fun y155=>some (y155==((0:Int)))) (some false)=some (b&&t[i][k]==0):=by
      intro b k hk;rw [Z0 hi,Zd,Z0 hk,Zd]
      cases b
      ·rw [ZE];rfl
      ·rw [ZF,Bool.true_and]
     by_cases hb:t[i].any bad=true
     ·rw [if_pos hb];obtain ⟨m,hm,g1,g2⟩:=Zel hb;refine ZSb (fun k=>(f&&(t[i].take k).all (· == 0),(k:Int))) m (by simp) (by omega) (fun k hk=>?_) ?_
      ·simp only;rw [decide_eq_true (by omega),ZF,one k (by omega),Zd,g2 k (by omega) hk,ZE,two _ k (by omega),Zd,Z7 (by omega) (by omega),Zd,ZIf _ _ (by omega),Bool.and_assoc];rfl
      ·simp only;rw [decide_eq_true (by omega),ZF,one m (by omega),Zd,g1,ZF]
     ·rw [if_neg hb];have hb':t[i].any bad=false:=by simpa using hb
      have g2:=ZBf hb';refine ZSb (fun k=>(f&&(t[i].take k).all (· == 0),(k:Int))) t[i].length (by simp) (by omega) (fun k hk=>?_) ?_
      ·simp only;rw [decide_eq_true (by omega),ZF,one k (by omega),Zd,g2 k (by omega),ZE,two _ k (by omega),Zd,Z7 (by omega) (by omega),Zd,ZIf _ _ (by omega),Bool.and_assoc];rfl
      ·simp only;rw [decide_eq_false (by omega),ZE,List.take_length]
    by_cases hb:(t.any (·.any bad))=true
    ·rw [if_pos hb];obtain ⟨m,hm,g1,g2⟩:=Z6g hb;refine Zab (y:=.inr (1:Int)) (Zab (ZSb (r:=.inl (1:Int)) (fun k=>((t.take k).all (·.all (· == 0)),(k:Int))) m rfl (by omega) (fun k hk=>?_) ?_) rfl) rfl
     ·simp only;rw [decide_eq_true (by omega),ZF,step k (by omega),Zd,if_neg (by rw [g2 k (by omega) hk];simp)];simp only;rw [Zd];simp only;rw [Z7 (by omega) (by omega),Zd,ZIf _ _ (by omega)];rfl
     ·simp only;rw [decide_eq_true (by omega),ZF,step m hm,Zd,if_pos g1];simp only;rw [Zd]
    ·have hb':(t.any (·.any bad))=false:=by simpa using hb
     have g2:=Z2d hb';rw [if_neg hb];refine Zab (y:=.inl (t.all (·.all (· == 0)))) (Zab (ZSb (r:=.inr (t.all (·.all (· == 0)))) (fun k=>((t.take k).all (·.all (· == 0)),(k:Int))) t.length rfl (by omega) (fun k hk=>?_) ?_) rfl) ?_
     ·simp only;rw [decide_eq_true (by omega),ZF,step k (by omega),Zd,if_neg (by rw [g2 k (by omega)];simp)];simp only;rw [Zd];simp only;rw [Z7 (by omega) (by omega),Zd,ZIf _ _ (by omega)];rfl
     ·simp only;rw [decide_eq_false (by omega),ZE,List.take_length]
     ·simp only;have hz:=Zso hw hb';by_cases h0:Zcb t=0
      ·rw [if_pos h0,hz.1 h0];rfl
      ·have:(t.all (·.all (· == 0)))=false:=by
        rw [Bool.eq_false_iff];exact fun h=>h0 (hz.2 h)
       rw [if_neg h0,this];rfl
theorem Z4i {k m:Nat} {x y:Rat} (h:sz k x) (h':sz m y) (hk:k+m≤1000000000) (hy:y≠0):ZVc x y=some (x / y):=by
 unfold ZVc;rw [qdiv_ok h h' hk hy,Zd]
theorem Zpd (n:Int):Z6a n=some (n:Rat):=by unfold Z6a ZQc;rw [Zd]
def it {S:Type} (f:Nat→S→S) (s:S):Nat→S
 | 0=>s
 | k+1=>f k (it f s k)
theorem ZOg {S:Type} {f:Nat→S→S} {s:S} (I:Nat→S→Prop) (n:Nat) (h0:I 0 s) (h:∀ k x,k<n→I k x→I (k+1) (f k x)):∀ k,k≤n→I k (it f s k)
 | 0,_=>h0
 | k+1,hk=>h k _ (by omega) (ZOg I n h0 h k (by omega))
def ent (t:List (List Int)) (i k:Nat):Int:=(t.getD i []).getD k 0
def upd (l:List Int) (i:Nat) (x:Int):List Int:=l.set i (l.getD i 0+x)
theorem ZNe {t:List (List Int)} {i k:Nat} (h:i<t.length) (h':k<t[i].length):ent t i k=t[i][k]:=by unfold ent;rw [ZQd h,ZQd h']
def rcF (t:List (List Int)) (i k:Nat) (p:List Int×List Int):List Int×List Int:=(upd p.1 i (ent t i k),upd p.2 k (ent t i k))
def rcI (t:List (List Int)) (n i:Nat) (p:List Int×List Int):List Int×List Int:=it (rcF t i) p n
def rcA (t:List (List Int)) (n:Nat):Nat→List Int×List Int:=it (rcI t n) (List.replicate n 0,List.replicate n 0)
def RC (n:Nat) (B:Int) (p:List Int×List Int):Prop:=p.1.length=n∧p.2.length=n∧(∀ x ∈ p.1,0≤x∧x≤B)∧(∀ x ∈ p.2,0≤x∧x≤B)
theorem RC.at1 {n:Nat} {B:Int} {p:List Int×List Int} (h:RC n B p) {i:Nat} (hi:i<n):∃ hh:i<p.1.length,0≤p.1[i]∧p.1[i]≤B∧p.1.getD i 0=p.1[i]:=by
 have h1:i<p.1.length:=by rw [h.1];exact hi
 exact ⟨h1,(h.2.2.1 _ (List.getElem_mem h1)).1,(h.2.2.1 _ (List.getElem_mem h1)).2,ZQd h1⟩
theorem RC.at2 {n:Nat} {B:Int} {p:List Int×List Int} (h:RC n B p) {i:Nat} (hi:i<n):∃ hh:i<p.2.length,0≤p.2[i]∧p.2[i]≤B∧p.2.getD i 0=p.2[i]:=by
 have h1:i<p.2.length:=by rw [h.2.1];exact hi
 exact ⟨h1,(h.2.2.2 _ (List.getElem_mem h1)).1,(h.2.2.2 _ (List.getElem_mem h1)).2,ZQd h1⟩
theorem ZVk {l:List Int} {i:Nat} {x B:Int} (hx:0≤x∧x≤1000000) (hi:i<l.length) (h:∀ y ∈ l,0≤y∧y≤B):∀ y ∈ upd l i x,0≤y∧y≤B+1000000:=by
 intro y hy;unfold upd at hy;have h2:=h _ (List.getElem_mem hi);rcases List.mem_or_eq_of_mem_set hy with h1 | h1
 ·have:=h y h1;omega
 ·rw [ZQd hi] at h1;omega
structure Good (t:List (List Int)):Prop where
 n0:0<t.length
 n8:t.length≤8
 sq:∀ i,(h:i<t.length)→t[i].length=t.length
 ok:∀ i k,i<t.length→k<t.length→0≤ent t i k∧ent t i k≤1000000
theorem Good.of {t:List (List Int)} (h1:okT t=true) (h2:t.any (·.any bad)=false):Good t:=by
 obtain ⟨a,b,c⟩:=Zxk h1;refine ⟨a,b,fun i h=>c _ (List.getElem_mem h),fun i k hi hk=>?_⟩;have hk':k<t[i].length:=by rw [c _ (List.getElem_mem hi)];exact hk
 rw [ZNe hi hk'];exact ZTh (ZBf (Z2d h2 i hi) k hk')
theorem RC.step {t:List (List Int)} (g:Good t) {B:Int} {p:List Int×List Int} {i k:Nat} (hi:i<t.length) (hk:k<t.length) (h:RC t.length B p):RC t.length (B+1000000) (rcF t i k p) :=
 ⟨by simp [rcF,upd,h.1],by simp [rcF,upd,h.2.1],ZVk (g.ok i k hi hk) (by rw [h.1];exact hi) h.2.2.1,ZVk (g.ok i k hi hk) (by rw [h.2.1];exact hk) h.2.2.2⟩
theorem RC.inner {t:List (List Int)} (g:Good t) {B:Int} {p:List Int×List Int} {i:Nat} (hi:i<t.length) (h:RC t.length B p):∀ k,k≤t.length→RC t.length (B+1000000*k) (it (rcF t i) p k) :=
 ZOg (fun k q=>RC t.length (B+1000000*k) q) t.length (by simpa using h) fun k x hk hx=>by
  have:=hx.step g hi hk
  rwa [show B+1000000*((k+1:Nat):Int)=B+1000000*(k:Int)+1000000 by omega]
theorem RC.mono {n:Nat} {B C:Int} {p:List Int×List Int} (h:RC n B p) (hB:B≤C):RC n C p :=
 ⟨h.1,h.2.1,fun x hx=>by have:=h.2.2.1 x hx;omega,fun x hx=>by have:=h.2.2.2 x hx;omega⟩
theorem RC.outer {t:List (List Int)} (g:Good t):∀ k,k≤t.length→RC t.length (8000000*k) (rcA t t.length k) :=
 ZOg (fun k q=>RC t.length (8000000*k) q) t.length ⟨by simp,by simp,fun x hx=>by have:=List.eq_of_mem_replicate hx;omega,fun x hx=>by have:=List.eq_of_mem_replicate hx;omega⟩ fun k x hk hx=>by
  have:=hx.inner g hk t.length (Nat.le_refl _)
  have n8:=g.n8
  exact this.mono (by omega)
def pqF (t:List (List Int)) (w:Nat→Nat→Rat) (p:List Int×List Int) (i k:Nat) (s:Rat×Rat):Rat×Rat :=
 (s.1+w i k*((ent t i k:Int):Rat),s.2+w i k*((p.1.getD i 0:Int):Rat)*((p.2.getD k 0:Int):Rat))
def pqI (t:List (List Int)) (w:Nat→Nat→Rat) (p:List Int×List Int) (n i:Nat) (s:Rat×Rat):Rat×Rat:=it (pqF t w p i) s n
def pqA (t:List (List Int)) (w:Nat→Nat→Rat) (p:List Int×List Int) (n:Nat):Nat→Rat×Rat:=it (pqI t w p n) (0,0)
def SZ (k:Nat) (s:Rat×Rat):Prop:=sz k s.1∧sz k s.2
theorem SZ.mono {k m:Nat} {s:Rat×Rat} (h:SZ k s) (hk:k≤m):SZ m s:=⟨h.1.mono hk,h.2.mono hk⟩
theorem Zlj:sz 1 (0:Rat):=by constructor <;> decide
section
variable {t:List (List Int)} {w:Nat→Nat→Rat} {p:List Int×List Int}
theorem SZ.step (g:Good t) (hw:∀ i k,i<t.length→k<t.length→sz 200 (w i k)) (hp:RC t.length 64000000 p) {i k c:Nat} {s:Rat×Rat} (hi:i<t.length) (hk:k<t.length) (h:SZ c s):SZ (c+400) (pqF t w p i k s):=by
 have e:=g.ok i k hi hk;obtain ⟨_,a1,a2,a3⟩:=hp.at1 hi;obtain ⟨_,b1,b2,b3⟩:=hp.at2 hk;refine ⟨(Zwm h.1 (Z9d (hw i k hi hk) (Z5c (n:=ent t i k) (by omega)))).mono (by omega),(Zwm h.2 (Z9d (Z9d (hw i k hi hk) (Z5c (n:=p.1.getD i 0) (by omega))) (Z5c (n:=p.2.getD k 0) (by omega)))).mono (by omega)⟩
theorem SZ.inner (g:Good t) (hw:∀ i k,i<t.length→k<t.length→sz 200 (w i k)) (hp:RC t.length 64000000 p) {i c:Nat} {s:Rat×Rat} (hi:i<t.length) (h:SZ c s):∀ k,k≤t.length→SZ (c+400*k) (it (pqF t w p i) s k) :=
 ZOg (fun k q=>SZ (c+400*k) q) t.length h fun k x hk hx=>(hx.step g hw hp hi hk).mono (by omega)
theorem SZ.outer (g:Good t) (hw:∀ i k,i<t.length→k<t.length→sz 200 (w i k)) (hp:RC t.length 64000000 p):∀ k,k≤t.length→SZ (4000*k+1) (pqA t w p t.length k) :=
 ZOg (fun k q=>SZ (4000*k+1) q) t.length ⟨Zlj,Zlj⟩ fun k x hk hx=>by
  have n8:=g.n8
  exact (hx.inner g hw hp hk t.length (Nat.le_refl _)).mono (by omega)
end
def shF (t:List (List Int)) (w:Nat→Nat→Rat):Rat×Rat :=
 let s:=pqA t w (rcA t t.length t.length) t.length t.length
 (s.1 / ((Zcb t:Int):Rat),s.2 / (((Zcb t:Int):Rat)*((Zcb t:Int):Rat)))
theorem ZJk {t:List (List Int)} (g:Good t) {w:Nat→Nat→Rat} (hw:∀ i k,i<t.length→k<t.length→sz 200 (w i k)) (ht:0≤Zcb t∧Zcb t≤64000000):SZ 40000 (shF t w):=by
 have n8:=g.n8;have hp:=(RC.outer g t.length (Nat.le_refl _)).mono (C:=64000000) (by omega);have h:=SZ.outer g hw hp t.length (Nat.le_refl _);have s1:=Z5c (n:=Zcb t) (by omega);exact ⟨(ZQh h.1 s1).mono (by omega),(ZQh h.2 (Z9d s1 s1)).mono (by omega)⟩
noncomputable def Zne (i:Int) (k:Int) (t:(List (List Int))):Option (Rat) :=
 ifb (i==k)
 (bnd (Z6a (1:Int)) fun a =>
 some a)
 (bnd (Z6a (1:Int)) fun b =>
 bnd (chk .i64 (i-k)) fun c =>
 bnd (chk .i64 (k-i)) fun d =>
 bnd (Z6a (max c d)) fun e =>
 bnd (chk .i64 (((t.length:Int))-(1:Int))) fun f =>
 bnd (Z6a f) fun g =>
 bnd (ZVc e g) fun h =>
 bnd (Z0b b h) fun j =>
 some j)
noncomputable def Z3g (t:(List (List Int))) (n:Int) (g:(List (List Int))):Option (Rat×Rat) :=
 bnd (bnd (mk 8 ((t.length:Int)) ((t.length:Int))) fun an =>
 bnd (mk 8 ((t.length:Int)) ((t.length:Int))) fun ao =>
 some (((List.replicate ((t.length:Int)).toNat (0:Int)),(List.replicate ((t.length:Int)).toNat (0:Int)))))
 (fun (p:(List Int)×(List Int))=>match p with
 | (u,v) =>
 (bnd (bnd (ZZ (fun s:(List Int)×(List Int)×Int=>match s with
 | (h,i,a) =>
 (ifb (decide (a<(t.length:Int)))
 (bnd (idx t a) fun j =>
 bnd (bnd (ZZ (fun s:(List Int)×(List Int)×Int=>match s with
 | (e,f,b) =>
 (ifb (decide (b<(j.length:Int)))
 (bnd (idx j b) fun k =>
 bnd (idx e a) fun w =>
 bnd (chk .i64 (w+k)) fun x =>
 bnd (idx e a) fun ap =>
 bnd (idx f b) fun y =>
 bnd (chk .i64 (y+k)) fun z =>
 bnd (idx f b) fun aq =>
 bnd (chk .i64 (b+(1:Int))) fun A =>
 some (.inl (((e.set (a).toNat x),(f.set (b).toNat z),A))))
 (some (.inr ((e,f)))))) Zba ((h,i,(0:Int))))
 (fun (p:(List Int)×(List Int))=>match p with
 | (B,C) =>
 (some ((B,C)))))
 (fun (p:(List Int)×(List Int))=>match p with
 | (D,E) =>
 (bnd (chk .i64 (a+(1:Int))) fun F =>
 some (.inl ((D,E,F))))))
 (some (.inr ((h,i)))))) Zba ((u,v,(0:Int))))
 (fun (p:(List Int)×(List Int))=>match p with
 | (G,H) =>
 (some ((G,H)))))
 (fun (p:(List Int)×(List Int))=>match p with
 | (I,J) =>
 (bnd (bnd (ZZ (fun s:Rat×Rat×Int=>match s with
 | (l,m,c) =>
 (ifb (decide (c<(t.length:Int)))
 (bnd (idx t c) fun o =>
 bnd (bnd (ZZ (fun s:Rat×Rat×Int=>match s with
 | (q,r,d) =>
 (ifb (decide (d<(o.length:Int)))
 (bnd (idx o d) fun K =>
 bnd (Zne c d g) fun L =>
 bnd (Z6a K) fun M =>
 bnd (ZCb L M) fun N =>
 bnd (Zbc q N) fun O =>
 bnd (Zne c d g) fun P =>
 bnd (idx I c) fun Q =>
 bnd (Z6a Q) fun R =>
 bnd (ZCb P R) fun S =>
 bnd (idx J d) fun T =>
 bnd (Z6a T) fun U =>
 bnd (ZCb S U) fun V =>
 bnd (Zbc r V) fun W =>
 bnd (chk .i64 (d+(1:Int))) fun X =>
 some (.inl ((O,W,X))))
 (some (.inr ((q,r)))))) Zba ((l,m,(0:Int))))
 (fun (p:Rat×Rat)=>match p with
 | (Y,Z) =>
 (some ((Y,Z)))))
 (fun (p:Rat×Rat)=>match p with
 | (aa,ab) =>
 (bnd (chk .i64 (c+(1:Int))) fun ac =>
 some (.inl ((aa,ab,ac))))))
 (some (.inr ((l,m)))))) Zba (((0:Rat),(0:Rat),(0:Int))))
 (fun (p:Rat×Rat)=>match p with
 | (ad,ae) =>
 (some ((ad,ae)))))
 (fun (p:Rat×Rat)=>match p with
 | (af,ag) =>
 (bnd (Z6a n) fun ah =>
 bnd (ZVc af ah) fun ai =>
 bnd (Z6a n) fun aj =>
 bnd (Z6a n) fun ak =>
 bnd (ZCb aj ak) fun al =>
 bnd (ZVc ag al) fun am =>
 some ((ai,am))))))))
set_option maxRecDepth 100000
noncomputable def shG (wm:Int→Int→Option Rat) (t:(List (List Int))) (n:Int):Option (Rat×Rat) :=
 bnd (bnd (mk 8 ((t.length:Int)) ((t.length:Int))) fun y767 =>
 bnd (mk 8 ((t.length:Int)) ((t.length:Int))) fun y776 =>
 some (((List.replicate ((t.length:Int)).toNat ((0:Int))),(List.replicate ((t.length:Int)).toNat ((0:Int))))))
 (fun (p:(List Int)×(List Int))=>match p with
 | (x14,x22) =>
 (bnd (bnd (ZZ (fun s:(List Int)×(List Int)×Int=>match s with
 | (x535,x543,x551) =>
 (ifb (decide (x551<(t.length:Int)))
 (bnd (idx t x551) fun y588 =>
 bnd (bnd (ZZ (fun s:(List Int)×(List Int)×Int=>match s with
 | (x634,x642,x650) =>
 (ifb (decide (x650<(y588.length:Int)))
 (bnd (idx y588 x650) fun y687 =>
 bnd (idx x634 x551) fun y703 =>
 bnd (chk .i64 (y703+y687)) fun y710 =>
 bnd (idx x634 x551) fun y712 =>
 bnd (idx x642 x650) fun y733 =>
 bnd (chk .i64 (y733+y687)) fun y740 =>
 bnd (idx x642 x650) fun y742 =>
 bnd (chk .i64 (x650+((1:Int)))) fun y763 =>
 some (.inl (((x634.set (x551).toNat y710),(x642.set (x650).toNat y740),y763))))
 (some (.inr ((x634,x642)))))) Zba ((x535,x543,(0:Int))))
 (fun (p:(List Int)×(List Int))=>match p with
 | (x654,x662) =>
 (some ((x654,x662)))))
 (fun (p:(List Int)×(List Int))=>match p with
 | (x609,x617) =>
 (bnd (chk .i64 (x551+((1:Int)))) fun y632 =>
 some (.inl ((x609,x617,y632))))))
 (some (.inr ((x535,x543)))))) Zba ((x14,x22,(0:Int))))
 (fun (p:(List Int)×(List Int))=>match p with
 | (x555,x563) =>
 (some ((x555,x563)))))
 (fun (p:(List Int)×(List Int))=>match p with
 | (x42,x50) =>
 (bnd (bnd (ZZ (fun s:Rat×Rat×Int=>match s with
 | (x189,x194,x199) =>
 (ifb (decide (x199<(t.length:Int)))
 (bnd (idx t x199) fun y230 =>
 bnd (bnd (ZZ (fun s:Rat×Rat×Int=>match s with
 | (x270,x275,x280) =>
 (ifb (decide (x280<(y230.length:Int)))
 (bnd (idx y230 x280) fun y311 =>
 bnd (wm x199 x280) fun y327 =>
 bnd (Z6a y311) fun y336 =>
 bnd (ZCb y327 y336) fun y345 =>
 bnd (Zbc x270 y345) fun y354 =>
 bnd (wm x199 x280) fun y393 =>
 bnd (idx x42 x199) fun y402 =>
 bnd (Z6a y402) fun y409 =>
 bnd (ZCb y393 y409) fun y418 =>
 bnd (idx x50 x280) fun y427 =>
 bnd (Z6a y427) fun y434 =>
 bnd (ZCb y418 y434) fun y443 =>
 bnd (Zbc x275 y443) fun y452 =>
 bnd (chk .i64 (x280+((1:Int)))) fun y531 =>
 some (.inl ((y354,y452,y531))))
 (some (.inr ((x270,x275)))))) Zba ((x189,x194,(0:Int))))
 (fun (p:Rat×Rat)=>match p with
 | (x284,x289) =>
 (some ((x284,x289)))))
 (fun (p:Rat×Rat)=>match p with
 | (x251,x256) =>
 (bnd (chk .i64 (x199+((1:Int)))) fun y268 =>
 some (.inl ((x251,x256,y268))))))
 (some (.inr ((x189,x194)))))) Zba (((0:Rat),(0:Rat),(0:Int))))
 (fun (p:Rat×Rat)=>match p with
 | (x203,x208) =>
 (some ((x203,x208)))))
 (fun (p:Rat×Rat)=>match p with
 | (x70,x75) =>
 (bnd (Z6a n) fun y89 =>
 bnd (ZVc x70 y89) fun y98 =>
 bnd (Z6a n) fun y107 =>
 bnd (Z6a n) fun y116 =>
 bnd (ZCb y107 y116) fun y125 =>
 bnd (ZVc x75 y125) fun y134 =>
 some ((y98,y134))))))))
theorem Z9o (t:List (List Int)) (n:Int):ZKh t n ()=shG Zee t n:=rfl
theorem Zmp (t:List (List Int)) (n:Int) (g:List (List Int)):Z3g t n g=shG (fun i k=>Zne i k g) t n:=rfl
theorem Zgl {S:Type} (f:Nat→S→S) (s:S) (k:Nat):it f s (k+1)=f k (it f s k):=rfl
theorem rcF_at (t:List (List Int)) (i k:Nat) (p:List Int×List Int):rcF t i k p=(p.1.set i (p.1.getD i 0+ent t i k),p.2.set k (p.2.getD k 0+ent t i k)):=rfl
theorem pqF_at (t:List (List Int)) (w:Nat→Nat→Rat) (p:List Int×List Int) (i k:Nat) (s:Rat×Rat):pqF t w p i k s=(s.1+w i k*((ent t i k:Int):Rat),s.2+w i k*((p.1.getD i 0:Int):Rat)*((p.2.getD k 0:Int):Rat)):=rfl
theorem ZHm {t:List (List Int)} (g:Good t) {wm:Int→Int→Option Rat} {w:Nat→Nat→Rat} (hwm:∀ i k:Nat,i<t.length→k<t.length→wm (i:Int) (k:Int)=some (w i k)) (hw:∀ i k,i<t.length→k<t.length→sz 200 (w i k))
  (ht:0<Zcb t∧Zcb t≤64000000):shG wm t (Zcb t)=some (shF t w):=by
 unfold shG;have n8:=g.n8;obtain ⟨u,hu⟩:=ZLc (b:=8) (l:=(t.length:Int)) (c:=(t.length:Int)) (by omega) (by omega) (by omega) (by omega);rw [hu,Zd,Zd,Zd];simp only [Int.toNat_natCast];refine Zab (y:=rcA t t.length t.length) (Zab (y:=rcA t t.length t.length) (ZSb (fun k=>((rcA t t.length k).1,(rcA t t.length k).2,(k:Int))) t.length rfl (by omega) (fun i hi=>?_) ?_) rfl) ?_
 ·have hri:=g.sq i hi;have hp:=RC.outer g i (by omega);simp only;rw [decide_eq_true (by omega),ZF,Z0 hi,Zd];refine Zab (y:=rcI t t.length i (rcA t t.length i)) (Zab (y:=rcI t t.length i (rcA t t.length i)) (ZSb (fun k=>((it (rcF t i) (rcA t t.length i) k).1,(it (rcF t i) (rcA t t.length i) k).2,(k:Int))) t.length rfl (by omega) (fun k hk=>?_) ?_) rfl) ?_
  ·have hq:=RC.inner g hi hp k (by omega);obtain ⟨a0,a1,a2,a3⟩:=hq.at1 hi;obtain ⟨b0,b1,b2,b3⟩:=hq.at2 hk;have e:=g.ok i k hi hk;have hki:k<t[i].length:=by omega
   have eg:=ZNe hi hki;simp only;rw [decide_eq_true (by omega),ZF,Z0 hki,Zd,Z0 a0,Zd,Z7 (by omega) (by omega),Zd,Zd,Z0 b0,Zd,Z7 (by omega) (by omega),Zd,Zd,Z7 (by omega) (by omega),Zd,Zgl,rcF_at,a3,b3,eg];rfl
  ·simp only;rw [decide_eq_false (by omega),ZE];rfl
  ·rw [Z7 (by omega) (by omega),Zd];rfl
 ·simp only;rw [decide_eq_false (by omega),ZE]
 ·have hp:=(RC.outer g t.length (Nat.le_refl _)).mono (C:=64000000) (by omega);have hs:=SZ.outer g hw hp t.length (Nat.le_refl _);unfold shF;simp only;generalize rcA t t.length t.length=p at *;refine Zab (y:=pqA t w p t.length t.length) (Zab (y:=pqA t w p t.length t.length) (ZSb (fun k=>((pqA t w p t.length k).1,(pqA t w p t.length k).2,(k:Int))) t.length rfl (by omega) (fun i hi=>?_) ?_) rfl) ?_
  ·have hri:=g.sq i hi;have hz:=SZ.outer g hw hp i (by omega);simp only;rw [decide_eq_true (by omega),ZF,Z0 hi,Zd];refine Zab (y:=pqI t w p t.length i (pqA t w p t.length i)) (Zab (y:=pqI t w p t.length i (pqA t w p t.length i)) (ZSb (fun k=>((it (pqF t w p i) (pqA t w p t.length i) k).1,(it (pqF t w p i) (pqA t w p t.length i) k).2,(k:Int))) t.length rfl (by omega) (fun k hk=>?_) ?_) rfl) ?_
   ·have hq:=SZ.inner g hw hp hi hz k (by omega);obtain ⟨a0,a1,a2,a3⟩:=hp.at1 hi;obtain ⟨b0,b1,b2,b3⟩:=hp.at2 hk;have e:=g.ok i k hi hk;have hki:k<t[i].length:=by omega
    have eg:=ZNe hi hki;have zw:=hw i k hi hk;have z1:=Z5c (n:=t[i][k]) (by omega);have z2:=Z5c (n:=p.1[i]) (by omega);have z3:=Z5c (n:=p.2[k]) (by omega);have z4:=Z9d zw z1;have z5:=Z9d zw z2;have z6:=Z9d z5 z3;simp only;rw [decide_eq_true (by omega),ZF,Z0 hki,Zd,hwm i k hi hk,Zd,Zpd,Zd,Zsi zw z1 (by omega),Zd,ZAl hq.1 z4 (by omega),Zd,Zd,Z0 a0,Zd,Zpd,Zd,Zsi zw z2 (by omega),Zd,Z0 b0,Zd,Zpd,Zd,Zsi z5 z3 (by omega),Zd,ZAl hq.2 z6 (by omega),Zd,Z7 (by omega) (by omega),Zd,Zgl,pqF_at,a3,b3,eg];rfl
   ·simp only;rw [decide_eq_false (by omega),ZE];rfl
   ·rw [Z7 (by omega) (by omega),Zd];rfl
  ·simp only;rw [decide_eq_false (by omega),ZE]
  ·have zt:=Z5c (n:=Zcb t) (by omega);have hne:((Zcb t:Int):Rat)≠0:=by
    intro h;have:=Rat.intCast_eq_zero_iff.1 h;omega
   have hne2:((Zcb t:Int):Rat)*((Zcb t:Int):Rat)≠0:=by
    intro h;rcases Rat.mul_eq_zero.1 h with h | h <;> exact hne h
   rw [Zpd,Zd,Z4i hs.1 zt (by omega) hne,Zd,Zd,Zd,Zsi zt zt (by omega),Zd,Z4i hs.2 (Z9d zt zt) (by omega) hne2,Zd]
noncomputable def ZOh (t:(List (List Int))) (g:(List (List Int))):Option (Rat×Int) :=
 bnd (Zpf t) fun a =>
 ifb (a.2 != (0:Int))
 (some (((0:Rat),a.2)))
 (bnd (Z3g t a.1 g) fun b =>
 bnd (bnd (Z0b b.1 b.2) fun d =>
 bnd (Z6a (1:Int)) fun e =>
 bnd (Z0b e b.2) fun f =>
 bnd (ZKc d f) fun c =>
 some ((c.2,c.1)))
 (fun (p:Int×Rat)=>match p with
 | (h,i) =>
 (ifb (h != (0:Int))
 (some (((0:Rat),(5:Int))))
 (some ((i,(0:Int)))))))
noncomputable def ZEg (t:(List (List Int))):Option (Rat×Int) :=
 bnd (ZOh t t) fun a =>
 some ((a.1,a.2))
set_option maxRecDepth 100000
def ZNa (i k:Nat):Rat:=if i=k then 1 else 0
def dist (i k:Nat):Nat:=if i≤k then k-i else i-k
def Zkd (n:Nat) (i k:Nat):Rat:=if i=k then 1 else 1-((dist i k:Int):Rat) / (((n:Int)-1:Int):Rat)
theorem ZBm (i k:Nat):sz 200 (ZNa i k):=by
 unfold ZNa;split
 ·exact Zuf.mono (by omega)
 ·exact Zlj.mono (by omega)
theorem Z6k {n i k:Nat} (hn:n≤8) (hi:i<n) (hk:k<n):sz 200 (Zkd n i k):=by
 unfold Zkd;split
 ·exact Zuf.mono (by omega)
 ·have h1:=Z5c (n:=(dist i k:Int)) (by unfold dist;split <;> omega);have h2:=Z5c (n:=(n:Int)-1) (by omega);exact (ZSi Zuf (ZQh h1 h2)).mono (by omega)
theorem Zug (i k:Nat):((i:Int)==(k:Int))=decide (i=k):=by
 rw [Bool.eq_iff_iff,beq_iff_eq,decide_eq_true_iff];omega
theorem ZBp (i k:Nat):Zee (i:Int) (k:Int)=some (ZNa i k):=by
 unfold Zee ZNa;rw [Zug];by_cases h:i=k
 ·rw [decide_eq_true h,ZF,Zpd,Zd,if_pos h];rfl
 ·rw [decide_eq_false h,ZE,if_neg h]
theorem Zyn (i k:Nat):max ((i:Int)-k) ((k:Int)-i)=(dist i k:Int):=by unfold dist;split <;> omega
theorem ZMm {t:List (List Int)} (hn:t.length≤8) {i k:Nat} (hi:i<t.length) (hk:k<t.length):Zne (i:Int) (k:Int) t=some (Zkd t.length i k):=by
 unfold Zne Zkd;rw [Zug];by_cases h:i=k
 ·rw [decide_eq_true h,ZF,Zpd,Zd,if_pos h];rfl
 ·have h1:=Z5c (n:=(dist i k:Int)) (by unfold dist;split <;> omega);have h2:=Z5c (n:=(t.length:Int)-1) (by omega);have hne:(((t.length:Int)-1:Int):Rat)≠0:=by
   intro h0;have:=Rat.intCast_eq_zero_iff.1 h0;omega
  have e1:(((1:Int):Int):Rat)=1:=rfl;rw [decide_eq_false h,ZE,if_neg h,Zpd,Zd,Z7 (by omega) (by omega),Zd,Z7 (by omega) (by omega),Zd,Zyn,Zpd,Zd,Z7 (by omega) (by omega),Zd,Zpd,Zd,Z4i h1 h2 (by omega) hne,Zd,e1,Z0j Zuf (ZQh h1 h2) (by omega),Zd]
def kap (s:Rat×Rat):Rat×Int:=if s.2=1 then (0,5) else ((s.1-s.2) / (1-s.2),0)
theorem ZHj {x:Rat}:1-x=0↔x=1:=by constructor <;> intro h <;> grind
theorem Zck {s:Rat×Rat} (h:SZ 40000 s):(bnd (bnd (Z0b s.1 s.2) fun y105=>bnd (Z6a ((1:Int))) fun y114=>bnd (Z0b y114 s.2) fun y123=>bnd (ZKc y105 y123) fun y132=>some ((y132.2,y132.1)))
 (fun (p:Int×Rat)=>match p with
 | (x76,x78)=>(ifb (x76 != ((0:Int))) (some (((0:Rat),(5:Int)))) (some ((x78,(0:Int)))))))=some (kap s):=by
 have e1:(((1:Int):Int):Rat)=1:=rfl;have s1:=ZSi h.1 h.2;have s2:=ZSi Zuf h.2;rw [Z0j h.1 h.2 (by omega),Zd,Zpd,Zd,e1,Z0j Zuf h.2 (by omega),Zd];unfold kap ZKc;rw [if_pos ⟨s1.ok (by omega),s2.ok (by omega)⟩,Zd];by_cases h0:s.2=1
 ·rw [if_pos (ZHj.2 h0),if_pos h0];rfl
 ·rw [if_neg (fun k=>h0 (ZHj.1 k)),if_neg h0];rfl
set_option maxRecDepth 100000
def zsm (f:Nat→Int):Nat→Int
 | 0=>0
 | k+1=>zsm f k+f k
def qsm (f:Nat→Rat):Nat→Rat
 | 0=>0
 | k+1=>qsm f k+f k
theorem Zle {f g:Nat→Int}:∀ {n:Nat},(∀ i,i<n→f i=g i)→zsm f n=zsm g n
 | 0,_=>rfl
 | n+1,h=>by unfold zsm;rw [Zle fun i hi=>h i (by omega),h n (by omega)]
theorem ZUd {f g:Nat→Rat}:∀ {n:Nat},(∀ i,i<n→f i=g i)→qsm f n=qsm g n
 | 0,_=>rfl
 | n+1,h=>by unfold qsm;rw [ZUd fun i hi=>h i (by omega),h n (by omega)]
theorem Zei (f g:Nat→Rat):∀ n,qsm (fun i=>f i+g i) n=qsm f n+qsm g n
 | 0=>by unfold qsm;grind
 | n+1=>by unfold qsm;rw [Zei f g n];grind
theorem Z8j (f:Nat→Rat) (c:Rat):∀ n,qsm (fun i=>f i*c) n=qsm f n*c
 | 0=>by unfold qsm;grind
 | n+1=>by unfold qsm;rw [Z8j f c n];grind
theorem ZDk:∀ n,qsm (fun _=>0) n=0
 | 0=>rfl
 | n+1=>by unfold qsm;rw [ZDk n];grind
theorem Zeh (f g:Nat→Int):∀ n,zsm (fun i=>f i+g i) n=zsm f n+zsm g n
 | 0=>rfl
 | n+1=>by unfold zsm;rw [Zeh f g n];omega
theorem Zhk:∀ n,zsm (fun _=>0) n=0
 | 0=>rfl
 | n+1=>by unfold zsm;rw [Zhk n];rfl
theorem ZIg (f:Nat→Int):∀ n,qsm (fun i=>((f i:Int):Rat)) n=((zsm f n:Int):Rat)
 | 0=>rfl
 | n+1=>by unfold qsm zsm;rw [ZIg f n,Rat.intCast_add]
theorem ZKk (g:Nat→Nat→Rat) (m:Nat):∀ n,qsm (fun i=>qsm (g i) m) n=qsm (fun k=>qsm (fun i=>g i k) n) m
 | 0=>(ZDk m).symm
 | n+1=>by
  show qsm (fun i=>qsm (g i) m) n+qsm (g n) m=qsm (fun k=>qsm (fun i=>g i k) n+g n k) m
  rw [ZKk g m n,← Zei]
theorem ZBk (g:Nat→Nat→Int) (m:Nat):∀ n,zsm (fun i=>zsm (g i) m) n=zsm (fun k=>zsm (fun i=>g i k) n) m
 | 0=>(Zhk m).symm
 | n+1=>by
  show zsm (fun i=>zsm (g i) m) n+zsm (g n) m=zsm (fun k=>zsm (fun i=>g i k) n+g n k) m
  rw [ZBk g m n,← Zeh]
def plc (a b x:Nat):Nat:=if x=a then b else if x=b then a else x
theorem Z7g {a b n x:Nat} (ha:a<n) (hb:b<n) (hx:x<n):plc a b x<n:=by
 unfold plc;by_cases h1:x=a
 ·rw [if_pos h1];exact hb
 ·rw [if_neg h1];by_cases h2:x=b
  ·rw [if_pos h2];exact ha
  ·rw [if_neg h2];exact hx
theorem ZLl (a b x:Nat):plc a b (plc a b x)=x:=by unfold plc;grind
theorem Z6i (c:Rat) (a:Nat):∀ n,qsm (fun i=>if i=a then c else 0) n=if a<n then c else 0
 | 0=>rfl
 | n+1=>by
  unfold qsm
  rw [Z6i c a n]
  by_cases h1:a<n
  ·rw [if_pos h1,if_neg (show ¬ n=a by omega),if_pos (show a<n+1 by omega)];grind
  ·by_cases h2:n=a
   ·rw [if_neg h1,if_pos h2,if_pos (show a<n+1 by omega)];grind
   ·rw [if_neg h1,if_neg h2,if_neg (show ¬ a<n+1 by omega)];grind
theorem ZYi (f:Nat→Rat) {a b n:Nat} (ha:a<n) (hb:b<n):qsm (fun i=>f (plc a b i)) n=qsm f n:=by
 by_cases hab:a=b
 ·subst hab;exact ZUd fun i _=>by
   have:plc a a i=i:=by unfold plc;grind
   rw [this]
 have e:qsm (fun i=>f (plc a b i)) n=qsm (fun i=>f i+((if i=a then f b-f a else 0)+(if i=b then f a-f b else 0))) n:=ZUd fun i _=>by
  unfold plc;by_cases h1:i=a
  ·subst h1;rw [if_pos rfl,if_pos rfl,if_neg hab];grind
  ·by_cases h2:i=b
   ·subst h2;rw [if_neg h1,if_pos rfl,if_neg h1,if_pos rfl];grind
   ·rw [if_neg h1,if_neg h2,if_neg h1,if_neg h2];grind
 rw [e,Zei,Zei,Z6i,Z6i,if_pos ha,if_pos hb];grind
theorem Zfj (f:Nat→Int) {a b n:Nat} (ha:a<n) (hb:b<n):zsm (fun i=>f (plc a b i)) n=zsm f n:=by
 have:=ZYi (fun i=>((f i:Int):Rat)) ha hb;rw [ZIg (fun i=>f (plc a b i)),ZIg] at this;exact Rat.intCast_inj.1 this
def ZJb (n:Nat) (e:Nat→Nat→Int) (i:Nat):Int:=zsm (e i) n
def Z6b (n:Nat) (e:Nat→Nat→Int) (k:Nat):Int:=zsm (fun i=>e i k) n
def ZXa (n:Nat) (e:Nat→Nat→Int):Int:=zsm (ZJb n e) n
def dbl (n:Nat) (g:Nat→Nat→Rat):Rat:=qsm (fun i=>qsm (g i) n) n
def shE (n:Nat) (w:Nat→Nat→Rat) (e:Nat→Nat→Int):Rat×Rat :=
 (dbl n (fun i k=>w i k*((e i k:Int):Rat)) / ((ZXa n e:Int):Rat),dbl n (fun i k=>w i k*((ZJb n e i:Int):Rat)*((Z6b n e k:Int):Rat)) / (((ZXa n e:Int):Rat)*((ZXa n e:Int):Rat)))
theorem Zve {n:Nat} {g h:Nat→Nat→Rat} (H:∀ i k,i<n→k<n→g i k=h i k):dbl n g=dbl n h:=ZUd fun i hi=>ZUd fun k hk=>H i k hi hk
theorem ZQk (n:Nat) (g:Nat→Nat→Rat):dbl n (fun i k=>g k i)=dbl n g:=(ZKk g n n).symm
theorem ZYk {n a b:Nat} (g:Nat→Nat→Rat) (ha:a<n) (hb:b<n):dbl n (fun i k=>g (plc a b i) (plc a b k))=dbl n g:=by
 unfold dbl;rw [ZUd fun i _=>ZYi (fun k=>g (plc a b i) k) ha hb];exact ZYi (fun i=>qsm (g i) n) ha hb
theorem ZMl {l:List Int} {i:Nat} (hi:i<l.length) (x:Int) (j:Nat):(upd l i x).getD j 0=l.getD j 0+if j=i then x else 0:=by
 unfold upd;rw [List.getD_eq_getElem?_getD,List.getD_eq_getElem?_getD,List.getElem?_set];by_cases h:i=j
 ·subst h;rw [if_pos rfl,if_pos hi,if_pos rfl,List.getD_eq_getElem?_getD];rfl
 ·rw [if_neg h,if_neg (fun e=>h e.symm)];simp
section
variable {t:List (List Int)} (g:Good t)
include g
theorem ZSk {i:Nat} (hi:i<t.length) {p:List Int×List Int} (h1:p.1.length=t.length) (h2:p.2.length=t.length):∀ k,k≤t.length→((it (rcF t i) p k).1.length=t.length∧(it (rcF t i) p k).2.length=t.length ∧
  (∀ j,(it (rcF t i) p k).1.getD j 0=p.1.getD j 0+if j=i then zsm (ent t i) k else 0)∧∀ j,(it (rcF t i) p k).2.getD j 0=p.2.getD j 0+if j<k then ent t i j else 0)
 | 0,_=>⟨h1,h2,fun j=>by show p.1.getD j 0=p.1.getD j 0+(if j=i then 0 else 0);split <;> omega,fun j=>by show p.2.getD j 0=p.2.getD j 0+(if j<0 then ent t i j else 0);rw [if_neg (by omega)];omega⟩
 | k+1,hk=>by
  obtain ⟨a,b,c,d⟩:=ZSk hi h1 h2 k (by omega)
  have e:it (rcF t i) p (k+1)=(upd (it (rcF t i) p k).1 i (ent t i k),upd (it (rcF t i) p k).2 k (ent t i k)):=rfl
  rw [e]
  refine ⟨by simp only [upd,List.length_set];exact a,by simp only [upd,List.length_set];exact b,fun j=>?_,fun j=>?_⟩
  ·simp only
   rw [ZMl (by omega),c j]
   have:zsm (ent t i) (k+1)=zsm (ent t i) k+ent t i k:=rfl
   by_cases h:j=i
   ·rw [if_pos h,if_pos h,if_pos h,this];omega
   ·rw [if_neg h,if_neg h,if_neg h];omega
  ·simp only
   rw [ZMl (by omega),d j]
   by_cases h:j=k
   ·subst h;rw [if_neg (by omega),if_pos rfl,if_pos (by omega)];omega
   ·by_cases h3:j<k
    ·rw [if_pos h3,if_neg h,if_pos (by omega)];omega
    ·rw [if_neg h3,if_neg h,if_neg (by omega)];omega
theorem Zmm:∀ i,i≤t.length→((rcA t t.length i).1.length=t.length∧(rcA t t.length i).2.length=t.length ∧
  (∀ j,(rcA t t.length i).1.getD j 0=if j<i then ZJb t.length (ent t) j else 0)∧∀ k,k<t.length→(rcA t t.length i).2.getD k 0=zsm (fun a=>ent t a k) i)
 | 0,_=>⟨by show (List.replicate _ _).length=_;simp,by show (List.replicate _ _).length=_;simp,fun j=>by
   show (List.replicate t.length (0:Int)).getD j 0=_
   rw [List.getD_eq_getElem?_getD,List.getElem?_replicate];split <;> rfl,fun k hk=>by
   show (List.replicate t.length (0:Int)).getD k 0=0
   rw [List.getD_eq_getElem?_getD,List.getElem?_replicate];split <;> rfl⟩
 | i+1,hi=>by
  obtain ⟨a,b,c,d⟩:=Zmm i (by omega)
  obtain ⟨a',b',c',d'⟩:=ZSk g (show i<t.length by omega) a b t.length (Nat.le_refl _)
  have e:rcA t t.length (i+1)=it (rcF t i) (rcA t t.length i) t.length:=rfl
  rw [e]
  refine ⟨a',b',fun j=>?_,fun k hk=>?_⟩
  ·rw [c' j,c j]
   by_cases h:j=i
   ·subst h;rw [if_neg (by omega),if_pos rfl,if_pos (by omega)];unfold ZJb;omega
   ·by_cases h2:j<i
    ·rw [if_pos h2,if_neg h,if_pos (by omega)];omega
    ·rw [if_neg h2,if_neg h,if_neg (by omega)];omega
  ·rw [d' k,d k hk,if_pos hk];rfl
theorem Ztk (w:Nat→Nat→Rat) (p:List Int×List Int) (i:Nat) (s:Rat×Rat):∀ k,it (pqF t w p i) s k=(s.1+qsm (fun k=>w i k*((ent t i k:Int):Rat)) k,s.2+qsm (fun k=>w i k*((p.1.getD i 0:Int):Rat)*((p.2.getD k 0:Int):Rat)) k)
 | 0=>by show s=(s.1+0,s.2+0);rw [Rat.add_zero,Rat.add_zero]
 | k+1=>by
  have e:it (pqF t w p i) s (k+1)=pqF t w p i k (it (pqF t w p i) s k):=rfl
  rw [e,Ztk w p i s k]
  unfold pqF
  simp only
  rw [Rat.add_assoc,Rat.add_assoc];rfl
theorem Zfl (w:Nat→Nat→Rat) (p:List Int×List Int) (n:Nat):∀ i,pqA t w p n i=(qsm (fun i=>qsm (fun k=>w i k*((ent t i k:Int):Rat)) n) i,qsm (fun i=>qsm (fun k=>w i k*((p.1.getD i 0:Int):Rat)*((p.2.getD k 0:Int):Rat)) n) i)
 | 0=>rfl
 | i+1=>by
  have e:pqA t w p n (i+1)=it (pqF t w p i) (pqA t w p n i) n:=rfl
  rw [e,Ztk g,Zfl w p n i];rfl
theorem Zwj:Zcb t=ZXa t.length (ent t):=by
 have hr:∀ i,(hi:i<t.length)→∀ k,k≤t.length→(t[i].take k).sum=zsm (ent t i) k:=fun i hi k=>by
  induction k with
  | zero=>intro _;simp;rfl
  | succ k ih =>
   intro hk;have hki:k<t[i].length:=by rw [g.sq i hi];omega
   rw [Zog _ hki,ih (by omega),← ZNe hi hki];rfl
 have ht:∀ k,k≤t.length→tot t k=zsm (ZJb t.length (ent t)) k:=fun k=>by
  induction k with
  | zero=>intro _;rfl
  | succ k ih =>
   intro hk;have:=hr k (by omega) t.length (Nat.le_refl _);rw [List.take_of_length_le (by rw [g.sq k (by omega)];exact Nat.le_refl _)] at this;rw [Z8f t (by omega),ih (by omega),this];rfl
 exact ht _ (Nat.le_refl _)
theorem ZMk (w:Nat→Nat→Rat):shF t w=shE t.length w (ent t):=by
 obtain ⟨a,b,c,d⟩:=Zmm g t.length (Nat.le_refl _);unfold shF shE;simp only;rw [Zfl g,Zwj g];simp only;congr 2;refine Zve fun i k hi hk=>?_;rw [c i,if_pos hi,d k hk];rfl
end
set_option maxRecDepth 100000
def mkT (n:Nat) (e:Nat→Nat→Int):List (List Int):=(List.range n).map fun i=>(List.range n).map (e i)
theorem Z1c (n:Nat) (e:Nat→Nat→Int):(mkT n e).length=n:=by unfold mkT;simp
theorem Zkj {n:Nat} (e:Nat→Nat→Int) {i:Nat} (h:i<(mkT n e).length):(mkT n e)[i]=(List.range n).map (e i):=by
 have hn:i<n:=by rw [Z1c] at h;exact h
 have:(mkT n e)[i]? = some ((List.range n).map (e i)):=by unfold mkT;simp [hn]
 rw [List.getElem?_eq_getElem h] at this;exact Option.some.inj this
theorem Zam {n:Nat} (e:Nat→Nat→Int) {i k:Nat} (hi:i<n) (hk:k<n):ent (mkT n e) i k=e i k:=by
 have hl:i<(mkT n e).length:=by rw [Z1c];exact hi
 have hk':k<(mkT n e)[i].length:=by rw [Zkj];simpa using hk
 rw [ZNe hl hk'];simp only [Zkj,List.getElem_map,List.getElem_range]
theorem ZGj {n:Nat} {e:Nat→Nat→Int} (h1:1≤n) (h8:n≤8) (he:∀ i k,i<n→k<n→0≤e i k∧e i k≤1000000):Good (mkT n e):=by
 refine ⟨by rw [Z1c];omega,by rw [Z1c];exact h8,fun i h=>?_,fun i k hi hk=>?_⟩
 ·rw [Zkj,Z1c];simp
 ·rw [Z1c] at hi hk;rw [Zam e hi hk];exact he i k hi hk
theorem okT_of {t:List (List Int)} (g:Good t):okT t=true:=by
 unfold okT;have h1:(t.length==0)=false:=by have:=g.n0;simp;intro h;subst h;simp at this
 have h2:decide (8<t.length)=false:=decide_eq_false (by have:=g.n8;omega);have h3:(t.any fun r=>(r.length:Int) != (t.length:Int))=false:=by
  rw [List.any_eq_false];intro r hr;obtain ⟨i,hi,rfl⟩:=List.getElem_of_mem hr;rw [g.sq i hi];simp
 rw [h1,h2,h3];rfl
theorem bad_of {t:List (List Int)} (g:Good t):t.any (·.any bad)=false:=by
 rw [List.any_eq_false];intro r hr;obtain ⟨i,hi,rfl⟩:=List.getElem_of_mem hr;simp only [Bool.not_eq_true];rw [List.any_eq_false];intro x hx;obtain ⟨k,hk,rfl⟩:=List.getElem_of_mem hx;have hk':k<t.length:=by rw [← g.sq i hi];exact hk
 have:=g.ok i k hi hk';rw [ZNe hi hk] at this;unfold bad;rw [decide_eq_false (by omega),decide_eq_false (by omega)];simp
section
variable {t:List (List Int)} (g:Good t) (h0:ZXa t.length (ent t)≠0)
include g h0
theorem ZEm:0<Zcb t∧Zcb t≤64000000∧Z6c t=(Zcb t,0):=by
 have hb:=bad_of g;have n8:=g.n8;have tb:=ZCe (t:=t) (fun r hr=>by obtain ⟨i,hi,rfl⟩:=List.getElem_of_mem hr;rw [g.sq i hi];exact n8) t.length (fun j hj _=>Z2d hb j hj) (Nat.le_refl _);have e:tot t t.length=Zcb t:=rfl;have ht:Zcb t≠0:=by rw [Zwj g];exact h0
 refine ⟨by omega,by omega,?_⟩;unfold Z6c;rw [if_pos (okT_of g),if_neg (by rw [hb];simp),if_neg ht]
theorem Z7h:Zmc t=some (kap (shE t.length ZNa (ent t))):=by
 obtain ⟨t1,t2,t3⟩:=ZEm g h0;have n8:=g.n8;have z0:=ZJk g (w:=ZNa) (fun i k _ _=>ZBm i k) (by omega);have f0:shG Zee t (Zcb t)=some (shF t ZNa):=ZHm g (fun i k _ _=>ZBp i k) (fun i k _ _=>ZBm i k) ⟨t1,t2⟩;have c0:((0:Int) != 0)=false:=rfl;unfold Zmc ZFh;rw [ZRk t (by omega),t3,Zd];simp only [c0,ZE];rw [Z9o,f0,Zd,Zck z0,Zd,ZMk g]
theorem Zbo:ZEg t=some (kap (shE t.length (Zkd t.length) (ent t))):=by
 obtain ⟨t1,t2,t3⟩:=ZEm g h0;have n8:=g.n8;have z1:=ZJk g (w:=Zkd t.length) (fun i k hi hk=>Z6k n8 hi hk) (by omega);have f1:shG (fun i k=>Zne i k t) t (Zcb t)=some (shF t (Zkd t.length)):=ZHm g (fun i k hi hk=>ZMm n8 hi hk) (fun i k hi hk=>Z6k n8 hi hk) ⟨t1,t2⟩;have c0:((0:Int) != 0)=false:=rfl;unfold ZEg ZOh;rw [ZRk t (by omega),t3,Zd];simp only [c0,ZE];rw [Zmp,f1,Zd,Zck z1,Zd,ZMk g]
end
theorem ZEl {n:Nat} {w w':Nat→Nat→Rat} {e e':Nat→Nat→Int} (hw:∀ i k,i<n→k<n→w i k=w' i k) (he:∀ i k,i<n→k<n→e i k=e' i k):shE n w e=shE n w' e'∧ZXa n e=ZXa n e':=by
 have h1:∀ i,i<n→ZJb n e i=ZJb n e' i:=fun i hi=>Zle fun k hk=>he i k hi hk;have h2:∀ k,k<n→Z6b n e k=Z6b n e' k:=fun k hk=>Zle fun i hi=>he i k hi hk;have h3:ZXa n e=ZXa n e':=Zle h1;refine ⟨?_,h3⟩;unfold shE;rw [h3,Zve fun i k hi hk=>show w i k*((e i k:Int):Rat)=w' i k*((e' i k:Int):Rat) by rw [hw i k hi hk,he i k hi hk],
  Zve fun i k hi hk=>show w i k*((ZJb n e i:Int):Rat)*((Z6b n e k:Int):Rat)=w' i k*((ZJb n e' i:Int):Rat)*((Z6b n e' k:Int):Rat) by rw [hw i k hi hk,h1 i hi,h2 k hk]]
theorem Zaj (n:Nat) (w:Nat→Nat→Rat) (e:Nat→Nat→Int):shE n w (ent (mkT n e))=shE n w e∧ZXa n (ent (mkT n e))=ZXa n e:=ZEl (fun _ _ _ _=>rfl) fun i k hi hk=>Zam e hi hk
theorem shE_tr (n:Nat) {w:Nat→Nat→Rat} (hw:∀ i k,w i k=w k i) (e:Nat→Nat→Int):shE n w (fun i k=>e k i)=shE n w e∧ZXa n (fun i k=>e k i)=ZXa n e:=by
 have h3:ZXa n (fun i k=>e k i)=ZXa n e:=(ZBk e n n).symm;refine ⟨?_,h3⟩;unfold shE;rw [h3,← ZQk n fun i k=>w i k*((e i k:Int):Rat),← ZQk n fun i k=>w i k*((ZJb n e i:Int):Rat)*((Z6b n e k:Int):Rat)];have a:dbl n (fun i k=>w i k*((e k i:Int):Rat))=dbl n (fun i k=>w k i*((e k i:Int):Rat)):=Zve fun i k _ _=>by rw [hw i k]
 have b:dbl n (fun i k=>w i k*((ZJb n (fun i k=>e k i) i:Int):Rat)*((Z6b n (fun i k=>e k i) k:Int):Rat))=dbl n (fun i k=>w k i*((ZJb n e k:Int):Rat)*((Z6b n e i:Int):Rat)):=Zve fun i k _ _=>by
  show w i k*((Z6b n e i:Int):Rat)*((ZJb n e k:Int):Rat)=_;rw [hw i k];grind
 rw [a,b]
theorem shE_pl {n a b:Nat} (ha:a<n) (hb:b<n) {w:Nat→Nat→Rat} (hw:∀ i k,w (plc a b i) (plc a b k)=w i k) (e:Nat→Nat→Int) :
  shE n w (fun i k=>e (plc a b i) (plc a b k))=shE n w e∧ZXa n (fun i k=>e (plc a b i) (plc a b k))=ZXa n e:=by
 have h1:∀ i,ZJb n (fun i k=>e (plc a b i) (plc a b k)) i=ZJb n e (plc a b i):=fun i=>Zfj (fun k=>e (plc a b i) k) ha hb;have h2:∀ k,Z6b n (fun i k=>e (plc a b i) (plc a b k)) k=Z6b n e (plc a b k):=fun k=>Zfj (fun i=>e i (plc a b k)) ha hb;have h3:ZXa n (fun i k=>e (plc a b i) (plc a b k))=ZXa n e:=by
  unfold ZXa;rw [Zle fun i _=>h1 i];exact Zfj (ZJb n e) ha hb
 refine ⟨?_,h3⟩;unfold shE;rw [h3,← ZYk (fun i k=>w i k*((e i k:Int):Rat)) ha hb,← ZYk (fun i k=>w i k*((ZJb n e i:Int):Rat)*((Z6b n e k:Int):Rat)) ha hb];rw [Zve fun i k _ _=>show w i k*((e (plc a b i) (plc a b k):Int):Rat)=w (plc a b i) (plc a b k)*((e (plc a b i) (plc a b k):Int):Rat) by rw [hw],
  Zve fun i k _ _=>show w i k*((ZJb n (fun i k=>e (plc a b i) (plc a b k)) i:Int):Rat)*((Z6b n (fun i k=>e (plc a b i) (plc a b k)) k:Int):Rat)=w (plc a b i) (plc a b k)*((ZJb n e (plc a b i):Int):Rat)*((Z6b n e (plc a b k):Int):Rat) by rw [hw,h1,h2]]
theorem Z4m (i k:Nat):ZNa i k=ZNa k i:=by
 unfold ZNa;by_cases h:i=k
 ·rw [if_pos h,if_pos h.symm]
 ·rw [if_neg h,if_neg fun e=>h e.symm]
theorem Zco (a b i k:Nat):ZNa (plc a b i) (plc a b k)=ZNa i k:=by
 unfold ZNa;by_cases h:i=k
 ·rw [if_pos h,if_pos (by rw [h])]
 ·rw [if_neg h,if_neg fun e=>h (by rw [← ZLl a b i,e,ZLl])]
theorem Zxn {i k:Nat} (hi:i<2) (hk:k<2):Zkd 2 i k=ZNa i k:=by
 have:(i=0∨i=1)∧(k=0∨k=1):=by omega
 obtain ⟨rfl | rfl,rfl | rfl⟩:=this <;> decide +kernel
theorem Zui {f:Nat→Int}:∀ {n:Nat},(∀ i,i<n→0≤f i)→0≤zsm f n∧(zsm f n=0 ↔ ∀ i,i<n→f i=0)
 | 0,_=>⟨Int.le_refl _,fun _ i hi=>by omega,fun _=>rfl⟩
 | n+1,h=>by
  obtain ⟨h1,h2⟩:=Zui (f:=f) (n:=n) fun i hi=>h i (by omega)
  have hn:=h n (by omega)
  unfold zsm
  refine ⟨by omega,fun e i hi=>?_,fun hz=>?_⟩
  ·by_cases hin:i=n
   ·subst hin;omega
   ·exact h2.1 (by omega) i (by omega)
  ·rw [h2.2 fun i hi=>hz i (by omega),hz n (by omega)];rfl
theorem ZUo (n:Nat) (e:Nat→Nat→Int):dbl n (fun i k=>((e i k:Int):Rat))=((zsm (fun i=>zsm (e i) n) n:Int):Rat):=by
 unfold dbl;rw [ZUd fun i _=>ZIg (e i) n,ZIg]
def ZCf (n:Nat) (e:Nat→Nat→Int):Prop:=∀ i k,i<n→k<n→i=k∨e i k=0
theorem p_one {n:Nat} {e:Nat→Nat→Int} (he:∀ i k,i<n→k<n→0≤e i k) (h0:ZXa n e≠0):(shE n ZNa e).1=1↔ZCf n e:=by
 have hN:((ZXa n e:Int):Rat)≠0:=fun h=>h0 (Rat.intCast_eq_zero_iff.1 h);have e1:dbl n (fun i k=>ZNa i k*((e i k:Int):Rat))=((zsm (fun i=>zsm (fun k=>if i=k then e i k else 0) n) n:Int):Rat):=by
  rw [← ZUo n (fun i k=>if i=k then e i k else 0)];refine Zve fun i k _ _=>?_;unfold ZNa;by_cases h:i=k
  ·rw [if_pos h,if_pos h,Rat.one_mul]
  ·rw [if_neg h,if_neg h,Rat.zero_mul];rfl
 have e2:ZXa n e=zsm (fun i=>zsm (fun k=>if i=k then e i k else 0) n) n+zsm (fun i=>zsm (fun k=>if i=k then 0 else e i k) n) n:=by
  rw [← Zeh];refine Zle fun i _=>?_;rw [← Zeh];refine Zle fun k _=>?_;by_cases h:i=k
  ·rw [if_pos h,if_pos h];omega
  ·rw [if_neg h,if_neg h];omega
 have e3:zsm (fun i=>zsm (fun k=>if i=k then 0 else e i k) n) n=0↔ZCf n e:=by
  have hin:∀ i,i<n→0≤zsm (fun k=>if i=k then 0 else e i k) n∧(zsm (fun k=>if i=k then 0 else e i k) n=0 ↔ ∀ k,k<n→(if i=k then 0 else e i k)=0):=fun i hi=>Zui fun k hk=>by
   split
   ·omega
   ·exact he i k hi hk
  rw [(Zui fun i hi=>(hin i hi).1).2];unfold ZCf;constructor
  ·intro h i k hi hk;have:=(hin i hi).2.1 (h i hi) k hk;by_cases hik:i=k
   ·exact .inl hik
   ·rw [if_neg hik] at this;exact .inr this
  ·intro h i hi;refine (hin i hi).2.2 fun k hk=>?_;rcases h i k hi hk with h1 | h1
   ·rw [if_pos h1]
   ·split
    ·rfl
    ·exact h1
 unfold shE;simp only;rw [← e3,e1];constructor
 ·intro h;have h2:((zsm (fun i=>zsm (fun k=>if i=k then e i k else 0) n) n:Int):Rat)=((ZXa n e:Int):Rat):=by
   have:=Rat.div_mul_cancel (a:=((zsm (fun i=>zsm (fun k=>if i=k then e i k else 0) n) n:Int):Rat)) hN;rw [h,Rat.one_mul] at this;exact this.symm
  have:=Rat.intCast_inj.1 h2;omega
 ·intro h;rw [show zsm (fun i=>zsm (fun k=>if i=k then e i k else 0) n) n=ZXa n e by omega,Rat.div_def,Rat.mul_inv_cancel _ hN]
theorem kap_one {s:Rat×Rat} (h:(kap s).2=0):(kap s).1=1↔s.1=1:=by
 unfold kap at *;by_cases h0:s.2=1
 ·rw [if_pos h0] at h;exact absurd h (by decide)
 rw [if_neg h0];simp only;have hne:1-s.2≠0:=fun e=>h0 (ZHj.1 e);constructor
 ·intro h1;have:=Rat.div_mul_cancel (a:=s.1-s.2) hne;rw [h1] at this;grind
 ·intro h1;rw [h1,Rat.div_def,Rat.mul_inv_cancel _ hne]
theorem Zcm (c:Int) (f:Nat→Int):∀ n,zsm (fun i=>c*f i) n=c*zsm f n
 | 0=>by unfold zsm;omega
 | n+1=>by unfold zsm;rw [Zcm c f n,Int.mul_add]
theorem Z8i (f:Nat→Int) (c:Int):∀ n,zsm (fun i=>f i*c) n=zsm f n*c
 | 0=>by unfold zsm;omega
 | n+1=>by unfold zsm;rw [Z8i f c n,Int.add_mul]
theorem ZCl {f:Nat→Int}:∀ {n:Nat},1≤n→(∀ i,i<n→1≤f i)→1≤zsm f n
 | 0,h,_=>by omega
 | n+1,_,h=>by
  have:=(Zui (f:=f) (n:=n) fun i hi=>by have:=h i (by omega);omega).1
  have:=h n (by omega)
  unfold zsm;omega
theorem Z3p {n:Nat} (h2:2≤n) {a b:Nat→Int} (ha:∀ i,i<n→1≤a i) (hb:∀ i,i<n→1≤b i):kap (shE n ZNa fun i k=>a i*b k)=(0,0)∧ZXa n (fun i k=>a i*b k)≠0:=by
 have pa:=ZCl (by omega) ha;have pb:=ZCl (by omega) hb;have hr:∀ i,ZJb n (fun i k=>a i*b k) i=a i*zsm b n:=fun i=>Zcm (a i) b n;have hc:∀ k,Z6b n (fun i k=>a i*b k) k=zsm a n*b k:=fun k=>Z8i a (b k) n;have hall:ZXa n (fun i k=>a i*b k)=zsm a n*zsm b n:=by
  unfold ZXa;rw [Zle fun i _=>hr i];exact Z8i a (zsm b n) n
 have h0:ZXa n (fun i k=>a i*b k)≠0:=by
  rw [hall];have:=Int.mul_pos (show 0<zsm a n by omega) (show 0<zsm b n by omega);omega
 refine ⟨?_,h0⟩;have hN:((ZXa n (fun i k=>a i*b k):Int):Rat)≠0:=fun h=>h0 (Rat.intCast_eq_zero_iff.1 h);have hp:=p_one (n:=n) (e:=fun i k=>a i*b k) (fun i k hi hk=>by show 0≤a i*b k;have:=Int.mul_pos (show 0<a i by have:=ha i hi;omega) (show 0<b k by have:=hb k hk;omega);omega) h0;have hnd:¬ ZCf n (fun i k=>a i*b k):=fun hd=>by
  rcases hd 0 1 (by omega) (by omega) with h | h
  ·omega
  ·have h':a 0*b 1=0:=h;have:=Int.mul_pos (show 0<a 0 by have:=ha 0 (by omega);omega) (show 0<b 1 by have:=hb 1 (by omega);omega);omega
 have hq:(shE n ZNa fun i k=>a i*b k).2=(shE n ZNa fun i k=>a i*b k).1:=by
  unfold shE;simp only;have:dbl n (fun i k=>ZNa i k*((ZJb n (fun i k=>a i*b k) i:Int):Rat)*((Z6b n (fun i k=>a i*b k) k:Int):Rat))=dbl n (fun i k=>ZNa i k*((a i*b k:Int):Rat))*((ZXa n (fun i k=>a i*b k):Int):Rat):=by
   unfold dbl;rw [← Z8j];refine ZUd fun i _=>?_;rw [← Z8j];refine ZUd fun k _=>?_;have e1:=hr i;have e2:=hc k;show ZNa i k*((ZJb n (fun i k=>a i*b k) i:Int):Rat)*((Z6b n (fun i k=>a i*b k) k:Int):Rat)=ZNa i k*((a i*b k:Int):Rat)*((ZXa n (fun i k=>a i*b k):Int):Rat);rw [e1,e2,hall,Rat.intCast_mul,Rat.intCast_mul,Rat.intCast_mul,Rat.intCast_mul];grind
  rw [this];generalize ((ZXa n (fun i k=>a i*b k):Int):Rat)=N at hN;generalize dbl n (fun i k=>ZNa i k*((a i*b k:Int):Rat))=D;grind
 have hp1:(shE n ZNa fun i k=>a i*b k).1≠1:=fun h=>hnd (hp.1 h);unfold kap;rw [hq,if_neg hp1];have:(shE n ZNa fun i k=>a i*b k).1-(shE n ZNa fun i k=>a i*b k).1=0:=by grind
 rw [this,Rat.div_def,Rat.zero_mul]
end Go.Eng
namespace Go.Eng
open Go.RowKit
def ZBa {α:Type} (A:Rep α):Rep (Option (List α)) where
 n:=1
 agg:=false
 rel v cs x:=match x with
  | some l=>(Zs A).rel v cs l
  | none=>cs=[.slice none 0 0]
 len {v cs x} h:=by
  cases x with
  | some q=>exact (Zs A).len h
  | none=>have h:cs=_:=h;subst h;rfl
 mono {v v' cs x} hv h:=by
  cases x with
  | some q=>exact (Zs A).mono hv h
  | none=>exact h
 flat {v cs x} h:=by
  cases x with
  | some q=>exact (Zs A).flat h
  | none=>have h:cs=_:=h;subst h;rfl
theorem ZFf {α:Type} (A:Rep α) (v:Zc):(ZBa A).rel v [.slice none 0 0] none:=rfl
def coR {α:Type} (x:Option (List α)):Option (List α):=some (x.getD [])
theorem ZZi {α:Type} {A:Rep α}:Co (ZBa A) (Zs A) coR:=⟨rfl,fun v c x y h e=>by
 cases x with
 | some l=>cases e;exact h
 | none =>
  have h:c=_:=h
  cases e;subst h;exact ZBh A v⟩
def Z6d {α:Type} (l:List (Option α)) (j:Int):Option Unit:=if 0≤j then (match l[j.toNat]? with | some none=>some () | _=>none) else none
theorem ZAa {α:Type} {l:List (Option α)} {j:Int} {u:Unit} (h:Z6d l j=some u):0≤j∧j<l.length∧j.toNat<l.length∧l[j.toNat]? = some none:=by
 unfold Z6d at h;split at h
 ·rename_i hh;split at h
  ·rename_i he;have:=(List.getElem?_eq_some_iff.1 he).1;exact ⟨hh,by omega,this,he⟩
  ·cases h
 ·cases h
theorem Zak {α:Type} {A:Rep α} {v:Zc} {C:List Value} {M:List (Option (List α))} {j:Int} {u:Unit} (hr:Rep.rels (ZBa A) v C M) (h:Z6d M j=some u) :
  C=List.take (0+j.toNat*1) C++[Value.slice (mkA none) (0) 0]++List.drop (0+j.toNat*1+1) C:=by
 obtain ⟨_,_,h1,h2⟩:=ZAa h;have hg:(ZBa A).rel v ((C.drop (j.toNat*(ZBa A).n)).take (ZBa A).n) none:=Zoa hr h2;have hg:(C.drop (j.toNat*1)).take 1=[.slice none 0 0]:=hg;rw [Nat.zero_add];have e1:=List.take_append_drop (j.toNat*1) C;have e2:=List.take_append_drop 1 (C.drop (j.toNat*1));rw [hg,List.drop_drop] at e2;rw [← e2] at e1;rw [List.append_assoc];exact e1.symm
section
variable {P:Program} {K:Nat} {w0:Base} {v0:Zc} {σ:List (Nat×Value)} {ℓ:List Loc} {v:Zc} {a:Act} {w:World}
theorem Zyd (hS:St K w0 v0 σ ℓ v a w) {i n cap b k:Nat} {T:TypeId} {C:List Value} {x:Value} (hj:ℓ[i]? = some (.own (some b) T 1 n cap (List.take (0+k*1) C++[x]++List.drop (0+k*1+1) C))) (hk:k<C.length):WAt w b (0+k*1) [x]:=by
 have h1:(List.take (0+k*1) C).length=0+k*1:=by rw [List.length_take];omega
 have:=Zvm hS hj (0+k*1) 1 (by simp;omega)
 rwa [List.append_assoc,List.drop_append_of_le_length (by omega),List.drop_of_length_le (by omega)] at this
theorem Zyj (hS:St K w0 v0 σ ℓ v a w) {t T:TypeId} {m cap b i k:Nat} {z x:Value} {C:List Value} (ht:Sized P t 1 false) (hi:ℓ[i]? = some (.own (some b) T 1 m cap (List.take (0+k*1) C++[x]++List.drop (0+k*1+1) C))) (hk:k<C.length) (hp:ZEa z=true) :
  ∃ w',(∀ {d:Option Nat} {ty:TypeId} {pos:String} {aft:Array Edge} {g:Option (Nat×Bool)} {x y:Operand},ev σ x=some (.pointer (some ⟨b,0+k*1,none⟩))→ev σ y=some z→(execOp a.eval ⟨d,.store t x y,ty,pos,aft,g⟩).run P w = .ok .skip w') ∧
   St K w0 v0 σ (ℓ.set i (.own (some b) T 1 m cap (List.take (0+k*1) C++[z]++List.drop (0+k*1+1) C))) v a w':=by
 have h1:(List.take (0+k*1) C).length=0+k*1:=by rw [List.length_take];omega
 obtain ⟨w',hr,hS'⟩:=ZHb hS (off:=0+k*1) (z:=z) (cs:=[z]) ht (Zhb hp) rfl hi (by simp;omega) (by simp [hp]);refine ⟨w',hr,?_⟩;have e1:List.take (0+k*1) (List.take (0+k*1) C++[x]++List.drop (0+k*1+1) C)=List.take (0+k*1) C:=by
  rw [List.append_assoc,List.take_append_of_le_length (by omega),List.take_of_length_le (by omega)]
 have e2:List.drop (0+k*1+[z].length) (List.take (0+k*1) C++[x]++List.drop (0+k*1+1) C)=List.drop (0+k*1+1) C:=by
  rw [List.drop_append,List.drop_of_length_le (by simp;omega)];simp only [List.length_append,List.length_singleton,h1,List.nil_append,Nat.sub_self,List.drop_zero]
 rw [e1,e2] at hS';exact hS'
theorem ZIc {α:Type} {A:Rep α} {C:List Value} {M:List (Option (List α))} {k:Nat} (hr:Rep.rels (ZBa A) v C M) (hk:k<M.length):k<C.length:=by
 have:=ZMg hr;have e:(ZBa A).n=1:=rfl;rw [e] at this;omega
end
noncomputable def Zkf (x:Int) (p:Int) (q:Int):Option (Int) :=
 ifb (x==p)
 (some q)
 (ifb (x==q)
 (some p)
 (some x))
noncomputable def Zkh (t:(List (List Int))) (ga:Int) (gb:Int) (rs:(List Int)) (cs:(List Int)):Option (Bool) :=
 bnd (ZHg t) fun z =>
 ifb (z != (0:Int))
 (bnd (ZIe ) fun A =>
 some A)
 (bnd (bnd (rem .i64 (IntKind.i64.wrap ga) ((t.length:Int))) fun B =>
 bnd (rem .i64 (IntKind.i64.wrap gb) ((t.length:Int))) fun C =>
 some ((B,C)))
 (fun (p:Int×Int)=>match p with
 | (l,m) =>
 (bnd (bnd (mk 24 ((t.length:Int)) ((t.length:Int))) fun aB =>
 bnd (mk 24 ((t.length:Int)) ((t.length:Int))) fun aC =>
 some (((List.replicate ((t.length:Int)).toNat ((none:(Option (List Int))))),(List.replicate ((t.length:Int)).toNat ((none:(Option (List Int))))))))
 (fun (p:(List (Option (List Int)))×(List (Option (List Int))))=>match p with
 | (D,E) =>
 (bnd (bnd (ZZ (fun s:(List (Option (List Int)))×(List (Option (List Int)))×Bool×Int=>match s with
 | (e,f,n,a) =>
 (ifb (decide (a<(t.length:Int)))
 (bnd (bnd (Z6d e a) fun aD =>
 bnd (Z6d f a) fun aE =>
 bnd (ZZ (fun s:(List Int)×(List Int)×Bool×Int=>match s with
 | (g,h,o,c) =>
 (ifb (decide (c<(t.length:Int)))
 (bnd (idx t c) fun F =>
 bnd (idx F a) fun q =>
 bnd (Zjb 8 (g++[q])) fun aF =>
 bnd (Zkf a l m) fun G =>
 bnd (idx t G) fun H =>
 bnd (Zkf c l m) fun I =>
 bnd (idx H I) fun r =>
 bnd (Zjb 8 (h++[r])) fun aG =>
 bnd (ifb (o)
 (ifb (a==c)
 (some true)
 (bnd (idx t a) fun J =>
 bnd (idx J c) fun K =>
 some (K==(0:Int))))
 (some false))
 (fun (L:Bool) =>
 (bnd (chk .i64 (c+(1:Int))) fun M =>
 some (.inl (((g++[q]),(h++[r]),L,M))))))
 (some (.inr (((e.set (a).toNat (some g)),(f.set (a).toNat (some h)),o)))))) Zba ((([]:List Int),([]:List Int),n,(0:Int))))
 (fun (p:(List (Option (List Int)))×(List (Option (List Int)))×Bool)=>match p with
 | (N,O,P) =>
 (some ((N,O,P)))))
 (fun (p:(List (Option (List Int)))×(List (Option (List Int)))×Bool)=>match p with
 | (Q,R,S) =>
 (bnd (chk .i64 (a+(1:Int))) fun T =>
 some (.inl ((Q,R,S,T))))))
 (some (.inr ((e,f,n)))))) Zba ((D,E,true,(0:Int))))
 (fun (p:(List (Option (List Int)))×(List (Option (List Int)))×Bool)=>match p with
 | (U,V,W) =>
 (some ((U,V,W)))))
 (fun (p:(List (Option (List Int)))×(List (Option (List Int)))×Bool)=>match p with
 | (X,Y,Z) =>
 (bnd (Zmc t) fun b =>
 bnd (Zke coR X) fun aa =>
 bnd (Zmc aa) fun u =>
 bnd (Zke coR Y) fun ab =>
 bnd (Zmc ab) fun v =>
 bnd (ZEg t) fun w =>
 bnd (ifb (b.2 != u.2)
 (some true)
 (ifb (b.2 != v.2)
 (some true)
 (bnd (Zqe b.1 u.1) fun ac =>
 ifb (!(ac))
 (some true)
 (bnd (Zqe b.1 v.1) fun ad =>
 ifb (!(ad))
 (some true)
 (ifb (((t.length:Int))==(2:Int))
 (ifb (b.2 != w.2)
 (some true)
 (bnd (Zqe b.1 w.1) fun ae =>
 some (!(ae))))
 (some false))))))
 (fun (af:Bool) =>
 (ifb (af)
 (some false)
 (bnd (ifb (b.2==(0:Int))
 (bnd (ZQc (1:Int)) fun ag =>
 bnd (Zqe b.1 ag) fun ah =>
 some (ah != Z))
 (some false))
 (fun (ai:Bool) =>
 (ifb (ai)
 (some false)
 (bnd (ifb (decide ((rs.length:Int)<(2:Int)))
 (some true)
 (ifb (decide ((6:Int)<(rs.length:Int)))
 (some true)
 (some (((cs.length:Int)) != ((rs.length:Int))))))
 (fun (aj:Bool) =>
 (ifb (aj)
 (bnd (ZIe ) fun ak =>
 some ak)
 (bnd (mk 24 ((rs.length:Int)) ((rs.length:Int))) fun aH =>
 bnd (bnd (ZZ (fun s:(List (Option (List Int)))×Int=>match s with
 | (i,d) =>
 (ifb (decide (d<(rs.length:Int)))
 (bnd (bnd (Z6d i d) fun aI =>
 bnd (ZZ (fun s:(List Int)×Int=>match s with
 | (j,k) =>
 (ifb (decide (k<(cs.length:Int)))
 (bnd (idx rs d) fun al =>
 bnd (chk .i64 ((1:Int)+(IntKind.i64.wrap al))) fun am =>
 bnd (idx cs k) fun an =>
 bnd (chk .i64 ((1:Int)+(IntKind.i64.wrap an))) fun ao =>
 bnd (chk .i64 (am*ao)) fun x =>
 bnd (Zjb 8 (j++[x])) fun aJ =>
 bnd (chk .i64 (k+(1:Int))) fun ap =>
 some (.inl (((j++[x]),ap))))
 (some (.inr ((i.set (d).toNat (some j))))))) Zba ((([]:List Int),(0:Int))))
 (fun (aq:(List (Option (List Int)))) =>
 (some aq)))
 (fun (ar:(List (Option (List Int)))) =>
 (bnd (chk .i64 (d+(1:Int))) fun au =>
 some (.inl ((ar,au))))))
 (some (.inr i)))) Zba (((List.replicate ((rs.length:Int)).toNat ((none:(Option (List Int))))),(0:Int))))
 (fun (av:(List (Option (List Int)))) =>
 (some av)))
 (fun (aw:(List (Option (List Int)))) =>
 (bnd (Zke coR aw) fun ax =>
 bnd (Zmc ax) fun y =>
 bnd (ifb (y.2==(0:Int))
 (bnd (ZJe y.1) fun ay =>
 ifb (ay)
 (bnd (ZIe ) fun az =>
 some az)
 (some false))
 (some false))
 (fun (aA:Bool) =>
 (some aA))))))))))))))))))))
set_option maxRecDepth 100000
def pN {β:Type} (F:Nat→β) (z:β) (n k:Nat):List β:=(List.range k).map F++List.replicate (n-k) z
theorem Zli {β:Type} (F:Nat→β) (k:Nat):(List.range (k+1)).map F=(List.range k).map F++[F k]:=by rw [List.range_succ,List.map_append];rfl
theorem pN_at {β:Type} (F:Nat→β) (z:β) {n k:Nat} (h:k<n):(pN F z n k)[k]? = some z:=by
 unfold pN;have hl:((List.range k).map F).length=k:=by simp
 rw [List.getElem?_append_right (by omega),hl,Nat.sub_self,List.getElem?_replicate_of_lt (by omega)]
theorem Zxj {β:Type} (F:Nat→β) (z:β) {n k:Nat} (h:k<n):(pN F z n k).set k (F k)=pN F z n (k+1):=by
 unfold pN;have e:n-k=(n-(k+1))+1:=by omega
 have hl:((List.range k).map F).length=k:=by simp
 rw [e,List.replicate_succ,Zli];have:=set_at ((List.range k).map F) (List.replicate (n-(k+1)) z) z (F k);rw [hl] at this;rw [this,List.append_assoc];rfl
theorem ZUj {β:Type} (F:Nat→β) (z:β) (n:Nat):pN F z n n=(List.range n).map F:=by unfold pN;simp
theorem Zij {β:Type} (F:Nat→Option (List β)) {n k:Nat} (h:k<n):Z6d (pN F none n k) (k:Int)=some ():=by
 unfold Z6d;rw [if_pos (by omega),Int.toNat_natCast,pN_at F none h]
theorem idx2 {t:List (List Int)} (g:Good t) {i k:Nat} (hi:i<t.length) (hk:k<t.length):∃ r,idx t (i:Int)=some r∧idx r (k:Int)=some (ent t i k):=by
 have hk':k<t[i].length:=by rw [g.sq i hi];exact hk
 exact ⟨t[i],Z0 hi,by rw [Z0 hk',ZNe hi hk']⟩
theorem Zok (x a b:Nat):Zkf (x:Int) (a:Int) (b:Int)=some (plc a b x:Int):=by
 unfold Zkf plc;rw [Zug,Zug];by_cases h:x=a
 ·rw [decide_eq_true h,ZF,if_pos h]
 ·rw [decide_eq_false h,ZE,if_neg h];by_cases h2:x=b
  ·rw [decide_eq_true h2,ZF,if_pos h2]
  ·rw [decide_eq_false h2,ZE,if_neg h2]
def dC (e:Nat→Nat→Int) (r k:Nat):Bool:=decide (r=k) || e r k==0
def dB (e:Nat→Nat→Int) (n r c:Nat):Bool:=(List.range r).all (fun i=>(List.range n).all fun k=>dC e i k)&&(List.range c).all fun k=>dC e r k
theorem dB_in (e:Nat→Nat→Int) (n r c:Nat):dB e n r (c+1)=(dB e n r c&&dC e r c):=by unfold dB;rw [List.range_succ (n:=c),List.all_append,Bool.and_assoc];simp
theorem dB_out (e:Nat→Nat→Int) (n r:Nat):dB e n r n=dB e n (r+1) 0:=by unfold dB;rw [List.range_succ (n:=r),List.all_append];simp
theorem dB_end (e:Nat→Nat→Int) (n:Nat):dB e n n 0=true↔ZCf n e:=by
 unfold dB ZCf dC;simp only [List.range_zero,List.all_nil,Bool.and_true,List.all_eq_true,List.mem_range,Bool.or_eq_true,decide_eq_true_eq,beq_iff_eq];constructor
 ·intro h i k hi hk;exact h i hi k hk
 ·intro h i hi k hk;exact h i k hi hk
theorem room8 {l:List Int} (h:l.length≤8):Zjb 8 l=some ():=by unfold Zjb;rw [if_pos (by omega)]
theorem mk24 {n:Nat} (h:n≤8):mk 24 (n:Int) (n:Int)=some ():=by unfold mk;rw [if_pos ⟨by omega,by omega,by omega,by omega⟩]
theorem rl (F:Nat→Int) (k:Nat) (x:Int):((List.range k).map F++[x]).length=k+1:=by simp
theorem Z8n (t:List (List Int)) (hl:t.length≤9223372036854775807) (ga gb:Int) (hga:0≤ga∧ga≤255) (hgb:0≤gb∧gb≤255) (rs cs:List Int) (hrs:∀ x ∈ rs,0≤x∧x≤255) (hcs:∀ x ∈ cs,0≤x∧x≤255) :
  Zkh t ga gb rs cs=some true:=by
 unfold Zkh;rw [Zpo t hl,Zd];by_cases hc:(Z6c t).2≠0
 ·have c0:((Z6c t).2 != 0)=true:=by simpa using hc
  rw [c0,ZF,ZJg,Zd]
 have c0:((Z6c t).2 != 0)=false:=by simpa using hc
 have hc:=Decidable.not_not.1 hc;rw [c0,ZE];have hk:okT t=true:=by
  by_cases h:okT t=true
  ·exact h
  ·unfold Z6c at hc;rw [if_neg h] at hc;simp at hc
 have hb:t.any (·.any bad)=false:=by
  by_cases h:t.any (·.any bad)=true
  ·unfold Z6c at hc;rw [if_pos hk,if_pos h] at hc;simp at hc
  ·simpa using h
 have g:=Good.of hk hb;have h0:ZXa t.length (ent t)≠0:=by
  rw [← Zwj g];intro h;unfold Z6c at hc;rw [if_pos hk,if_neg (by rw [hb];simp),if_pos h] at hc;simp at hc
 have n8:=g.n8;have n0:=g.n0;have he:=g.ok;obtain ⟨A,rfl⟩:∃ A:Nat,ga=A:=⟨ga.toNat,by omega⟩;obtain ⟨B,rfl⟩:∃ B:Nat,gb=B:=⟨gb.toNat,by omega⟩;have wA:IntKind.i64.wrap (A:Int)=A:=Zwd (ZPb.2 ⟨by omega,by omega⟩);have wB:IntKind.i64.wrap (B:Int)=B:=Zwd (ZPb.2 ⟨by omega,by omega⟩);rw [wA,wB,ZVd n0,Zd,ZVd n0,Zd,Zd];have ha:=Nat.mod_lt A n0;have hb':=Nat.mod_lt B n0;generalize A%t.length=a at ha;generalize B%t.length=b at hb';simp only;rw [mk24 n8];simp only [Zd,Int.toNat_natCast];have i2:=fun {i k:Nat} (hi:i<t.length) (hk:k<t.length)=>idx2 g hi hk;have ka:=Z7h g h0;have kw:=Zbo g h0;have tr:=shE_tr t.length Z4m (ent t);have pl:=shE_pl ha hb' (Zco a b) (ent t);have k1:Zmc (mkT t.length fun i k=>ent t k i)=some (kap (shE t.length ZNa (ent t))):=by
  have m:=Zaj t.length ZNa (fun i k=>ent t k i);have:=Z7h (ZGj (e:=fun i k=>ent t k i) n0 n8 fun i k hi hk=>he k i hk hi) (by rw [Z1c,m.2,tr.2];exact h0);rw [Z1c,m.1,tr.1] at this;exact this
 have k2:Zmc (mkT t.length fun i k=>ent t (plc a b i) (plc a b k))=some (kap (shE t.length ZNa (ent t))):=by
  have m:=Zaj t.length ZNa (fun i k=>ent t (plc a b i) (plc a b k));have:=Z7h (ZGj (e:=fun i k=>ent t (plc a b i) (plc a b k)) n0 n8 fun i k hi hk=>he _ _ (Z7g ha hb' hi) (Z7g ha hb' hk)) (by rw [Z1c,m.2,pl.2];exact h0);rw [Z1c,m.1,pl.1] at this;exact this
 have dg:=dB_end (ent t) t.length;have p1:=p_one (n:=t.length) (e:=ent t) (fun i k hi hk=>(he i k hi hk).1) h0;refine Zab (y:=((List.range t.length).map fun r=>some ((List.range t.length).map fun c=>ent t c r),(List.range t.length).map fun r=>some ((List.range t.length).map fun c=>ent t (plc a b r) (plc a b c)),dB (ent t) t.length t.length 0))
  (Zab (y:=((List.range t.length).map fun r=>some ((List.range t.length).map fun c=>ent t c r),(List.range t.length).map fun r=>some ((List.range t.length).map fun c=>ent t (plc a b r) (plc a b c)),dB (ent t) t.length t.length 0))
   (ZSb (fun k=>(pN (fun r=>some ((List.range t.length).map fun c=>ent t c r)) none t.length k,pN (fun r=>some ((List.range t.length).map fun c=>ent t (plc a b r) (plc a b c))) none t.length k,dB (ent t) t.length k 0,(k:Int))) t.length rfl (by omega) (fun r hr=>?_) ?_) rfl) ?_
 ·have s1:=Zxj (fun r=>some ((List.range t.length).map fun c=>ent t c r)) none hr;have s2:=Zxj (fun r=>some ((List.range t.length).map fun c=>ent t (plc a b r) (plc a b c))) none hr;simp only;rw [decide_eq_true (by omega),ZF,Zij _ hr,Zd,Zij _ hr,Zd];refine Zab (y:=(pN (fun r=>some ((List.range t.length).map fun c=>ent t c r)) none t.length (r+1),pN (fun r=>some ((List.range t.length).map fun c=>ent t (plc a b r) (plc a b c))) none t.length (r+1),dB (ent t) t.length (r+1) 0))
   (Zab (y:=(pN (fun r=>some ((List.range t.length).map fun c=>ent t c r)) none t.length (r+1),pN (fun r=>some ((List.range t.length).map fun c=>ent t (plc a b r) (plc a b c))) none t.length (r+1),dB (ent t) t.length (r+1) 0))
    (ZSb (fun c=>((List.range c).map (fun c=>ent t c r),(List.range c).map (fun c=>ent t (plc a b r) (plc a b c)),dB (ent t) t.length r c,(c:Int))) t.length rfl (by omega) (fun c hcn=>?_) ?_) rfl) ?_
  ·obtain ⟨q1,e1,e2⟩:=i2 hcn hr;obtain ⟨q2,e3,e4⟩:=i2 (Z7g ha hb' hr) (Z7g ha hb' hcn);obtain ⟨q3,e5,e6⟩:=i2 hr hcn;simp only;rw [decide_eq_true (by omega),ZF,e1,Zd,e2,Zd,room8 (by rw [rl];omega),Zd,Zok,Zd,e3,Zd,Zok,Zd,e4,Zd,room8 (by rw [rl];omega),Zd];have hd:ifb (dB (ent t) t.length r c) (ifb ((r:Int)==(c:Int)) (some true) (bnd (idx t (r:Int)) fun y1004=>bnd (idx y1004 (c:Int)) fun y1012=>some (y1012==((0:Int))))) (some false)=some (dB (ent t) t.length r (c+1)):=by
    rw [dB_in]
    cases dB (ent t) t.length r c with
    | false=>rfl
    | true =>
     rw [ZF,Zug,Bool.true_and];unfold dC;by_cases h:r=c
     ·rw [decide_eq_true h,ZF];rfl
     ·rw [decide_eq_false h,ZE,e5,Zd,e6,Zd];rfl
   rw [hd,Zd,Z7 (by omega) (by omega),Zd,Zli,Zli];rfl
  ·simp only;rw [decide_eq_false (by omega),ZE,Int.toNat_natCast,← s1,← s2,← dB_out]
  ·simp only;rw [Z7 (by omega) (by omega),Zd];rfl
 ·simp only;rw [decide_eq_false (by omega),ZE,ZUj,ZUj]
 simp only;have m1:=Z0h coR (fun r=>some ((List.range t.length).map fun c=>ent t c r)) (fun r=>(List.range t.length).map fun c=>ent t c r) (fun x=>rfl) (List.range t.length);have m2:=Z0h coR (fun r=>some ((List.range t.length).map fun c=>ent t (plc a b r) (plc a b c))) (fun r=>(List.range t.length).map fun c=>ent t (plc a b r) (plc a b c)) (fun x=>rfl) (List.range t.length);rw [ka,Zd,m1,Zd,show Zmc ((List.range t.length).map fun r=>(List.range t.length).map fun c=>ent t c r)=_ from k1,Zd,m2,Zd,show Zmc ((List.range t.length).map fun r=>(List.range t.length).map fun c=>ent t (plc a b r) (plc a b c))=_ from k2,Zd,kw,Zd];have h2:t.length=2→kap (shE t.length (Zkd t.length) (ent t))=kap (shE t.length ZNa (ent t)):=fun e=>by
  rw [(ZEl (n:=t.length) (w:=Zkd t.length) (w':=ZNa) (e:=ent t) (e':=ent t) (fun i k hi hk=>by rw [e] at hi hk ⊢;exact Zxn hi hk) (fun _ _ _ _=>rfl)).1]
 have hk1:=fun h=>(kap_one (s:=shE t.length ZNa (ent t)) h).trans p1;generalize kap (shE t.length (Zkd t.length) (ent t))=W at h2;generalize kap (shE t.length ZNa (ent t))=K at h2 hk1;generalize dB (ent t) t.length t.length 0=D at dg;unfold Zqe ZQc;have c1:ifb ((t.length:Int)==(2:Int)) (ifb (K.2 != W.2) (some true) (bnd (some (decide (K.1=W.1))) fun y654=>some (!(y654)))) (some false)=some false:=by
  by_cases h:t.length=2
  ·rw [h2 h];simp only [bne_self_eq_false,ZE,Zd,decide_true,Bool.not_true]
   cases ((t.length:Int)==(2:Int)) <;> rfl
  ·rw [show ((t.length:Int)==(2:Int))=false by simp;omega,ZE]
 simp only [bne_self_eq_false,ZE,decide_true,Bool.not_true,Zd];simp only [Zd] at c1;rw [c1,Zd,ZE];have c2:ifb (K.2==(0:Int)) (some (decide (K.1=((1:Int):Rat)) != D)) (some false)=some false:=by
  by_cases h:K.2=0
  ·have e1:decide (K.1=((1:Int):Rat))=D:=by
    have h3:=hk1 h;have e2:((1:Int):Rat)=1:=rfl;rw [e2]
    cases D with
    | true=>exact decide_eq_true (h3.2 (dg.1 rfl))
    | false=>exact decide_eq_false fun k=>by have:=dg.2 (h3.1 k);cases this
   rw [e1,show (K.2==(0:Int))=true by simpa using h,ZF];simp
  ·rw [show (K.2==(0:Int))=false by simpa using h,ZE]
 rw [c2,Zd,ZE];by_cases g1:(rs.length:Int)<2
 ·rw [decide_eq_true g1,ZF,Zd,ZF,ZJg,Zd]
 rw [decide_eq_false g1,ZE];by_cases g2:(6:Int)<rs.length
 ·rw [decide_eq_true g2,ZF,Zd,ZF,ZJg,Zd]
 rw [decide_eq_false g2,ZE,Zd];by_cases g3:¬ cs.length=rs.length
 ·rw [show ((cs.length:Int) != (rs.length:Int))=true by simp;omega,ZF,ZJg,Zd]
 have g3:=Decidable.not_not.1 g3;rw [show ((cs.length:Int) != (rs.length:Int))=false by simp;omega,ZE];have m8:rs.length≤8:=by omega
 rw [mk24 m8];simp only [Zd,Int.toNat_natCast];have hra:∀ i,i<rs.length→0≤rs.getD i 0∧rs.getD i 0≤255:=fun i hi=>by rw [ZQd hi];exact hrs _ (List.getElem_mem hi)
 have hca:∀ i,i<rs.length→0≤cs.getD i 0∧cs.getD i 0≤255:=fun i hi=>by rw [ZQd (by omega)];exact hcs _ (List.getElem_mem (by omega))
 have fk:=Z3p (n:=rs.length) (by omega) (a:=fun i=>1+rs.getD i 0) (b:=fun i=>1+cs.getD i 0) (fun i hi=>by have:=hra i hi;omega) (fun i hi=>by have:=hca i hi;omega);have hprod:∀ i k,i<rs.length→k<rs.length→0≤(1+rs.getD i 0)*(1+cs.getD k 0)∧(1+rs.getD i 0)*(1+cs.getD k 0)≤65536:=fun i k hi hk=>by
  have h1:=hra i hi;have h2:=hca k hk;have h3:=Int.mul_le_mul (show 1+rs.getD i 0≤256 by omega) (show 1+cs.getD k 0≤256 by omega) (by omega) (by omega);have h4:=Int.mul_nonneg (show 0≤1+rs.getD i 0 by omega) (show 0≤1+cs.getD k 0 by omega);omega
 have k3:Zmc (mkT rs.length fun i k=>(1+rs.getD i 0)*(1+cs.getD k 0))=some (0,0):=by
  have m:=Zaj rs.length ZNa (fun i k=>(1+rs.getD i 0)*(1+cs.getD k 0));have:=Z7h (ZGj (e:=fun i k=>(1+rs.getD i 0)*(1+cs.getD k 0)) (by omega) m8 fun i k hi hk=>by have:=hprod i k hi hk;omega) (by rw [Z1c,m.2];exact fk.2);rw [Z1c,m.1,fk.1] at this;exact this
 refine Zab (y:=(List.range rs.length).map fun r=>some ((List.range rs.length).map fun c=>(1+rs.getD r 0)*(1+cs.getD c 0)))
  (Zab (y:=(List.range rs.length).map fun r=>some ((List.range rs.length).map fun c=>(1+rs.getD r 0)*(1+cs.getD c 0)))
   (ZSb (fun k=>(pN (fun r=>some ((List.range rs.length).map fun c=>(1+rs.getD r 0)*(1+cs.getD c 0))) none rs.length k,(k:Int))) rs.length rfl (by omega) (fun r hr=>?_) ?_) rfl) ?_
 ·have s1:=Zxj (fun r=>some ((List.range rs.length).map fun c=>(1+rs.getD r 0)*(1+cs.getD c 0))) none hr;have br:=hra r hr;have ir:idx rs (r:Int)=some (rs.getD r 0):=by rw [ZQd hr];exact Z0 hr
  simp only;rw [decide_eq_true (by omega),ZF,Zij _ hr,Zd];refine Zab (y:=pN (fun r=>some ((List.range rs.length).map fun c=>(1+rs.getD r 0)*(1+cs.getD c 0))) none rs.length (r+1))
   (Zab (y:=pN (fun r=>some ((List.range rs.length).map fun c=>(1+rs.getD r 0)*(1+cs.getD c 0))) none rs.length (r+1))
    (ZSb (fun c=>((List.range c).map (fun c=>(1+rs.getD r 0)*(1+cs.getD c 0)),(c:Int))) rs.length rfl (by omega) (fun c hcn=>?_) ?_) rfl) ?_
  ·have bc:=hca c hcn;have hp:=hprod r c hr hcn;have ic:idx cs (c:Int)=some (cs.getD c 0):=by rw [ZQd (by omega)];exact Z0 (by omega)
   have w1:IntKind.i64.wrap (rs.getD r 0)=rs.getD r 0:=Zwd (ZPb.2 ⟨by omega,by omega⟩);have w2:IntKind.i64.wrap (cs.getD c 0)=cs.getD c 0:=Zwd (ZPb.2 ⟨by omega,by omega⟩);simp only;rw [decide_eq_true (by omega),ZF,ir,Zd,w1,Z7 (by omega) (by omega),Zd,ic,Zd,w2,Z7 (by omega) (by omega),Zd,Z7 (by omega) (by omega),Zd,room8 (by rw [rl];omega),Zd,Z7 (by omega) (by omega),Zd,Zli];rfl
  ·simp only;rw [decide_eq_false (by omega),ZE,Int.toNat_natCast,← s1]
  ·skip
   rw [Z7 (by omega) (by omega),Zd];rfl
 ·simp only;rw [decide_eq_false (by omega),ZE,ZUj]
 skip
 have m3:=Z0h coR (fun r=>some ((List.range rs.length).map fun c=>(1+rs.getD r 0)*(1+cs.getD c 0))) (fun r=>(List.range rs.length).map fun c=>(1+rs.getD r 0)*(1+cs.getD c 0)) (fun x=>rfl) (List.range rs.length);rw [m3,Zd,show Zmc ((List.range rs.length).map fun r=>(List.range rs.length).map fun c=>(1+rs.getD r 0)*(1+cs.getD c 0))=_ from k3,Zd];unfold ZJe;simp only [beq_self_eq_true,ZF,Zd,decide_true];rw [ZJg];rfl
theorem ZHl {α:Type} {A:Rep α} {v:Zc} {cs:List Value} {l:List α} (h:(Zs A).rel v cs l) {x:α} (hx:x ∈ l):∃ c,A.rel v c x:=by
 obtain ⟨q,cap,rfl,h1,h2,h3⟩:=h;rcases h3 with rfl | ⟨b,off,c,T,fr,e,hb,hr⟩
 ·cases hx
 ·obtain ⟨i,hi,rfl⟩:=List.getElem_of_mem hx;exact ⟨_,Zoa hr (List.getElem?_eq_getElem hi)⟩
theorem ZVm {α:Type} {A:Rep α} {v:Zc} {cs:List Value} {l:List α} (h:(Zs A).rel v cs l):l.length≤9223372036854775807:=by
 obtain ⟨q,cap,rfl,h1,h2,h3⟩:=h;unfold maxLen at h2;omega
end Go.Eng
namespace Go.Eng
open Go.RowKit
theorem Ze {α:Type _} {a b:α} (h:some a=some b):a=b:=Option.some.inj h
theorem Zw (b:Bool):b=true∨b=false:=(Bool.eq_false_or_eq_true b)
theorem leT {a b c:Zc} (h:a.le b) (k:b.le c):a.le c:=Zc.le_trans h k
theorem leR (v:Zc):v.le v:=Zc.le_refl v
theorem bO {α β:Type _} {x:Option α} {f:α→Option β} {z:β} {G:Prop} (h:bnd x f=some z) (k:∀ y,x=some y→f y=some z→G):G:=by obtain ⟨y,e,h⟩:=Zx h;exact k y e h
theorem Zm {P:Program} {Q:Exit→Act→World→Prop} {a:Act} {w:World} {id:Nat} {l:List Oper} (h:wpList P l.toArray Q l a w):(Code.region id l.toArray false).wp P Q a w:=wp_region_lit h
theorem Zf {P:Program} {Q:Exit→Act→World→Prop} {a:Act} {w:World} {x y:Code} (h:∀ K:Act→World→Prop,(∀ a w,y.wp P Q a w→K a w)→x.wp P (Exit.then K Q) a w):(Code.seq x y).wp P Q a w:=wp_seq_k h
theorem Zp {α:Type} {A:Rep α} {v v':Zc} {cs:List Value} {x:α} (hv:v.le v') (h:A.rel v cs x):A.rel v' cs x:=A.mono hv h
theorem Zna {α:Type} (A:Rep α) {v:Zc} {cs:List Value} {x:α} (h:A.rel v cs x):cs.all ZEa=true:=A.flat h
theorem Atm {v v':Zc} {b off:Nat} {cs:List Value} (h:v.le v') (k:At v b off cs):At v' b off cs:=At.mono h k
end Go.Eng
namespace Go.Eng
open Go.Proofs Go.RowKit
theorem Zdk:Zqg Tryz.prog 218 20 1:=⟨5,fun _=>by kernel_rfl,fun _=>by kernel_rfl⟩
theorem ZOb:Zqg Tryz.prog 74 3 2:=⟨73,fun _=>by kernel_rfl,fun _=>by kernel_rfl⟩
theorem Zod:Zce Tryz.prog 148 196 .u64 .u32:=fun _ _=>by kernel_rfl
theorem ZVl:Zce Tryz.prog 148 5 .u64 .u8:=fun _ _=>by kernel_rfl
theorem ZJc:Zce Tryz.prog 196 148 .u32 .u64:=fun _ _=>by kernel_rfl
theorem Zbl:Zce Tryz.prog 196 2 .u32 .i64:=fun _ _=>by kernel_rfl
theorem Z4g:Zce Tryz.prog 2 148 .i64 .u64:=fun _ _=>by kernel_rfl
theorem Zcq:Zce Tryz.prog 2 196 .i64 .u32:=fun _ _=>by kernel_rfl
theorem ZVi:Zce Tryz.prog 3 219 .i64 .u64:=fun _ _=>by kernel_rfl
theorem Znc:Zce Tryz.prog 5 3 .u8 .i64:=fun _ _=>by kernel_rfl
theorem ZGf:Elem Tryz.prog 22 28 1 24 (Value.slice none 0 0):=⟨Tryz.underlying22,by kernel_rfl,rfl,by decide⟩
theorem Zic:Elem Tryz.prog 28 3 1 8 (Value.int IntKind.i64 0):=⟨Tryz.underlying28,by kernel_rfl,rfl,by decide⟩
theorem ZFc:Elem Tryz.prog 30 148 1 8 (Value.int IntKind.u64 0):=⟨Tryz.underlying30,by kernel_rfl,rfl,by decide⟩
theorem Z7b:Elem Tryz.prog 65 196 1 4 (Value.int IntKind.u32 0):=⟨Tryz.underlying65,by kernel_rfl,rfl,by decide⟩
theorem ZWi:Elem Tryz.prog 76 34 3 56 (Value.agg #[Value.bool false,Value.slice none 0 0,Value.slice none 0 0]):=⟨Tryz.underlying76,by kernel_rfl,rfl,by decide⟩
theorem Zyl:Elem Tryz.prog 79 67 3 56 (Value.agg #[Value.bool false,Value.slice none 0 0,Value.slice none 0 0]):=⟨Tryz.underlying79,by kernel_rfl,rfl,by decide⟩
theorem Znk:Elem Tryz.prog 96 9 1 16 (Value.string (Zqa [])):=⟨Tryz.underlying96,by kernel_rfl,rfl,by decide⟩
theorem Zed:ZV Tryz.prog 10:=fun _ _=>by kernel_rfl
theorem ZKd:ZV Tryz.prog 11:=fun _ _=>by kernel_rfl
theorem k_en112:ZV Tryz.prog 112:=fun _ _=>by kernel_rfl
theorem k_en113:ZV Tryz.prog 113:=fun _ _=>by kernel_rfl
theorem k_en114:ZV Tryz.prog 114:=fun _ _=>by kernel_rfl
theorem ZCi:ZV Tryz.prog 115:=fun _ _=>by kernel_rfl
theorem Zyh:ZV Tryz.prog 116:=fun _ _=>by kernel_rfl
theorem ZOj:ZV Tryz.prog 117:=fun _ _=>by kernel_rfl
theorem Zxm:ZV Tryz.prog 119:=fun _ _=>by kernel_rfl
theorem ZKi:ZV Tryz.prog 12:=fun _ _=>by kernel_rfl
theorem ZZk:ZV Tryz.prog 120:=fun _ _=>by kernel_rfl
theorem k_en121:ZV Tryz.prog 121:=fun _ _=>by kernel_rfl
theorem k_en122:ZV Tryz.prog 122:=fun _ _=>by kernel_rfl
theorem ZWk:ZV Tryz.prog 123:=fun _ _=>by kernel_rfl
theorem k_en129:ZV Tryz.prog 129:=fun _ _=>by kernel_rfl
theorem k_en130:ZV Tryz.prog 130:=fun _ _=>by kernel_rfl
theorem Zsj:ZV Tryz.prog 131:=fun _ _=>by kernel_rfl
theorem Zte:ZV Tryz.prog 132:=fun _ _=>by kernel_rfl
theorem ZZh:ZV Tryz.prog 137:=fun _ _=>by kernel_rfl
theorem Zlk:ZV Tryz.prog 140:=fun _ _=>by kernel_rfl
theorem k_en142:ZV Tryz.prog 142:=fun _ _=>by kernel_rfl
theorem Z2i:ZV Tryz.prog 144:=fun _ _=>by kernel_rfl
theorem ZSl:ZV Tryz.prog 145:=fun _ _=>by kernel_rfl
theorem k_en146:ZV Tryz.prog 146:=fun _ _=>by kernel_rfl
theorem Zhm:ZV Tryz.prog 147:=fun _ _=>by kernel_rfl
theorem k_en148:ZV Tryz.prog 148:=fun _ _=>by kernel_rfl
theorem k_en149:ZV Tryz.prog 149:=fun _ _=>by kernel_rfl
theorem k_en151:ZV Tryz.prog 151:=fun _ _=>by kernel_rfl
theorem k_en156:ZV Tryz.prog 156:=fun _ _=>by kernel_rfl
theorem k_en157:ZV Tryz.prog 157:=fun _ _=>by kernel_rfl
theorem k_en158:ZV Tryz.prog 158:=fun _ _=>by kernel_rfl
theorem k_en164:ZV Tryz.prog 164:=fun _ _=>by kernel_rfl
theorem k_en165:ZV Tryz.prog 165:=fun _ _=>by kernel_rfl
theorem k_en17:ZV Tryz.prog 17:=fun _ _=>by kernel_rfl
theorem ZDh:ZV Tryz.prog 18:=fun _ _=>by kernel_rfl
theorem k_en19:ZV Tryz.prog 19:=fun _ _=>by kernel_rfl
theorem k_en20:ZV Tryz.prog 20:=fun _ _=>by kernel_rfl
theorem Zqf:ZV Tryz.prog 21:=fun _ _=>by kernel_rfl
theorem Zxg:ZV Tryz.prog 22:=fun _ _=>by kernel_rfl
theorem Zbk:ZV Tryz.prog 23:=fun _ _=>by kernel_rfl
theorem ZWl:ZV Tryz.prog 24:=fun _ _=>by kernel_rfl
theorem Zql:ZV Tryz.prog 25:=fun _ _=>by kernel_rfl
theorem Zyb:ZV Tryz.prog 26:=fun _ _=>by kernel_rfl
theorem Zdc:ZV Tryz.prog 27:=fun _ _=>by kernel_rfl
theorem Zyf:ZV Tryz.prog 28:=fun _ _=>by kernel_rfl
theorem Zcf:ZV Tryz.prog 29:=fun _ _=>by kernel_rfl
theorem Zdi:ZV Tryz.prog 30:=fun _ _=>by kernel_rfl
theorem Zrg:ZV Tryz.prog 31:=fun _ _=>by kernel_rfl
theorem ZZj:ZV Tryz.prog 37:=fun _ _=>by kernel_rfl
theorem k_en44:ZV Tryz.prog 44:=fun _ _=>by kernel_rfl
theorem ZAd:ZV Tryz.prog 45:=fun _ _=>by kernel_rfl
theorem ZPe:ZV Tryz.prog 46:=fun _ _=>by kernel_rfl
theorem k_en47:ZV Tryz.prog 47:=fun _ _=>by kernel_rfl
theorem k_en48:ZV Tryz.prog 48:=fun _ _=>by kernel_rfl
theorem k_en49:ZV Tryz.prog 49:=fun _ _=>by kernel_rfl
theorem k_en5:ZV Tryz.prog 5:=fun _ _=>by kernel_rfl
theorem k_en50:ZV Tryz.prog 50:=fun _ _=>by kernel_rfl
theorem ZOl:ZV Tryz.prog 51:=fun _ _=>by kernel_rfl
theorem Zhl:ZV Tryz.prog 52:=fun _ _=>by kernel_rfl
theorem Zml:ZV Tryz.prog 53:=fun _ _=>by kernel_rfl
theorem Z4c:ZV Tryz.prog 54:=fun _ _=>by kernel_rfl
theorem k_en55:ZV Tryz.prog 55:=fun _ _=>by kernel_rfl
theorem Zje:ZV Tryz.prog 56:=fun _ _=>by kernel_rfl
theorem Zch:ZV Tryz.prog 57:=fun _ _=>by kernel_rfl
theorem k_en58:ZV Tryz.prog 58:=fun _ _=>by kernel_rfl
theorem k_en6:ZV Tryz.prog 6:=fun _ _=>by kernel_rfl
theorem Zoj:ZV Tryz.prog 60:=fun _ _=>by kernel_rfl
theorem k_en7:ZV Tryz.prog 7:=fun _ _=>by kernel_rfl
theorem ZNk:ZV Tryz.prog 73:=fun _ _=>by kernel_rfl
theorem ZRf:ZV Tryz.prog 74:=fun _ _=>by kernel_rfl
theorem k_en75:ZV Tryz.prog 75:=fun _ _=>by kernel_rfl
theorem Zfe:ZV Tryz.prog 76:=fun _ _=>by kernel_rfl
theorem Z2f:ZV Tryz.prog 77:=fun _ _=>by kernel_rfl
theorem Zeg:ZV Tryz.prog 78:=fun _ _=>by kernel_rfl
theorem k_en79:ZV Tryz.prog 79:=fun _ _=>by kernel_rfl
theorem Z6f:ZV Tryz.prog 8:=fun _ _=>by kernel_rfl
theorem k_en80:ZV Tryz.prog 80:=fun _ _=>by kernel_rfl
theorem ZUk:ZV Tryz.prog 81:=fun _ _=>by kernel_rfl
theorem k_en82:ZV Tryz.prog 82:=fun _ _=>by kernel_rfl
theorem Znd:ZV Tryz.prog 83:=fun _ _=>by kernel_rfl
theorem Zzl:ZV Tryz.prog 84:=fun _ _=>by kernel_rfl
theorem k_en85:ZV Tryz.prog 85:=fun _ _=>by kernel_rfl
theorem k_en86:ZV Tryz.prog 86:=fun _ _=>by kernel_rfl
theorem k_en87:ZV Tryz.prog 87:=fun _ _=>by kernel_rfl
theorem k_en88:ZV Tryz.prog 88:=fun _ _=>by kernel_rfl
theorem k_en89:ZV Tryz.prog 89:=fun _ _=>by kernel_rfl
theorem k_en9:ZV Tryz.prog 9:=fun _ _=>by kernel_rfl
theorem k_en90:ZV Tryz.prog 90:=fun _ _=>by kernel_rfl
theorem k_en91:ZV Tryz.prog 91:=fun _ _=>by kernel_rfl
theorem Zud:ZV Tryz.prog 92:=fun _ _=>by kernel_rfl
theorem Z5i:ZV Tryz.prog 93:=fun _ _=>by kernel_rfl
theorem Zfi:ZV Tryz.prog 94:=fun _ _=>by kernel_rfl
theorem k_en95:ZV Tryz.prog 95:=fun _ _=>by kernel_rfl
theorem ZMh:EqB Tryz.prog 4:=fun _ _ _=>by kernel_rfl
theorem Zkg:Zof Tryz.prog 118 add64Entry:=⟨_,Tryz.func118,by kernel_rfl,by kernel_rfl,by kernel_rfl,by kernel_rfl⟩
theorem Zll:Zof Tryz.prog 150 ZSj:=⟨_,Tryz.func150,by kernel_rfl,by kernel_rfl,by kernel_rfl,by kernel_rfl⟩
theorem Z2a:ZGc Tryz.prog 32 0 0:=fun _ _ _=>by kernel_rfl
theorem Z5a:ZGc Tryz.prog 32 1 1:=fun _ _ _=>by kernel_rfl
theorem ZVa:ZGc Tryz.prog 34 0 0:=fun _ _ _=>by kernel_rfl
theorem ZBb:ZGc Tryz.prog 34 1 2:=fun _ _ _=>by kernel_rfl
theorem Zgh:ZGc Tryz.prog 64 0 0:=fun _ _ _=>by kernel_rfl
theorem ZXg:ZGc Tryz.prog 64 1 3:=fun _ _ _=>by kernel_rfl
theorem ZLm:ZGc Tryz.prog 64 2 6:=fun _ _ _=>by kernel_rfl
theorem ZEk:ZGc Tryz.prog 67 0 0:=fun _ _ _=>by kernel_rfl
theorem Zik:ZGc Tryz.prog 67 1 1:=fun _ _ _=>by kernel_rfl
theorem Zqh:ZGc Tryz.prog 73 0 0:=fun _ _ _=>by kernel_rfl
theorem Zwh:ZGc Tryz.prog 73 1 1:=fun _ _ _=>by kernel_rfl
theorem ZIm:ZGc Tryz.prog 78 0 0:=fun _ _ _=>by kernel_rfl
theorem Zze:ZGc Tryz.prog 78 1 3:=fun _ _ _=>by kernel_rfl
theorem Zpa:Tryz.prog.follows .mixedOrders=true:=by kernel_rfl
theorem Zgf:NeB Tryz.prog 4:=fun _ _ _=>by kernel_rfl
theorem Z3:ZPc Tryz.prog 22 28 1:=⟨fun _=>by kernel_rfl,fun _=>by kernel_rfl⟩
theorem ZWc:ZPc Tryz.prog 23 5 1:=⟨fun _=>by kernel_rfl,fun _=>by kernel_rfl⟩
theorem ZJa:ZPc Tryz.prog 28 3 1:=⟨fun _=>by kernel_rfl,fun _=>by kernel_rfl⟩
theorem ZU:ZPc Tryz.prog 30 148 1:=⟨fun _=>by kernel_rfl,fun _=>by kernel_rfl⟩
theorem Zja:ZPc Tryz.prog 65 196 1:=⟨fun _=>by kernel_rfl,fun _=>by kernel_rfl⟩
theorem Zgd:ZPc Tryz.prog 76 34 3:=⟨fun _=>by kernel_rfl,fun _=>by kernel_rfl⟩
theorem Zum:ZPc Tryz.prog 84 73 2:=⟨fun _=>by kernel_rfl,fun _=>by kernel_rfl⟩
theorem ZMi:ZPc Tryz.prog 96 9 1:=⟨fun _=>by kernel_rfl,fun _=>by kernel_rfl⟩
theorem Zwa:Sized Tryz.prog 148 1 false:=⟨fun _=>by kernel_rfl,fun _=>by kernel_rfl⟩
theorem ZDb:Sized Tryz.prog 196 1 false:=⟨fun _=>by kernel_rfl,fun _=>by kernel_rfl⟩
theorem Zie:Sized Tryz.prog 2 1 false:=⟨fun _=>by kernel_rfl,fun _=>by kernel_rfl⟩
theorem ZXc:Sized Tryz.prog 22 1 false:=⟨fun _=>by kernel_rfl,fun _=>by kernel_rfl⟩
theorem Zgb:Sized Tryz.prog 28 1 false:=⟨fun _=>by kernel_rfl,fun _=>by kernel_rfl⟩
theorem ZHa:Sized Tryz.prog 3 1 false:=⟨fun _=>by kernel_rfl,fun _=>by kernel_rfl⟩
theorem Zka:Sized Tryz.prog 30 1 false:=⟨fun _=>by kernel_rfl,fun _=>by kernel_rfl⟩
theorem ZGa:Sized Tryz.prog 32 2 true:=⟨fun _=>by kernel_rfl,fun _=>by kernel_rfl⟩
theorem Zr:Sized Tryz.prog 34 3 true:=⟨fun _=>by kernel_rfl,fun _=>by kernel_rfl⟩
theorem ZWa:Sized Tryz.prog 4 1 false:=⟨fun _=>by kernel_rfl,fun _=>by kernel_rfl⟩
theorem k_sz5:Sized Tryz.prog 5 1 false:=⟨fun _=>by kernel_rfl,fun _=>by kernel_rfl⟩
theorem ZCc:Sized Tryz.prog 64 9 true:=⟨fun _=>by kernel_rfl,fun _=>by kernel_rfl⟩
theorem Zkl:Sized Tryz.prog 65 1 false:=⟨fun _=>by kernel_rfl,fun _=>by kernel_rfl⟩
theorem ZQb:Sized Tryz.prog 67 3 true:=⟨fun _=>by kernel_rfl,fun _=>by kernel_rfl⟩
theorem ZLi:Sized Tryz.prog 69 9 true:=⟨fun _=>by kernel_rfl,fun _=>by kernel_rfl⟩
theorem Z7a:Sized Tryz.prog 73 2 true:=⟨fun _=>by kernel_rfl,fun _=>by kernel_rfl⟩
theorem ZHe:Sized Tryz.prog 76 1 false:=⟨fun _=>by kernel_rfl,fun _=>by kernel_rfl⟩
theorem ZSe:Sized Tryz.prog 78 4 true:=⟨fun _=>by kernel_rfl,fun _=>by kernel_rfl⟩
theorem Zpj:Sized Tryz.prog 81 4 true:=⟨fun _=>by kernel_rfl,fun _=>by kernel_rfl⟩
theorem k_sz9:Sized Tryz.prog 9 1 false:=⟨fun _=>by kernel_rfl,fun _=>by kernel_rfl⟩
theorem k_zv185:∀ w,(zeroValue 185).run Tryz.prog w = .ok (Value.agg #[Value.pointer none,Value.slice none 0 0]) w:=fun _=>by kernel_rfl
theorem k_zv218:∀ w,(zeroValue 218).run Tryz.prog w = .ok (Value.agg #[Value.int IntKind.u8 0,Value.int IntKind.u8 0,Value.int IntKind.u8 0,Value.int IntKind.u8 0,Value.int IntKind.u8 0,Value.int IntKind.u8 0,Value.int IntKind.u8 0,Value.int IntKind.u8 0,Value.int IntKind.u8 0,Value.int IntKind.u8 0,Value.int IntKind.u8 0,Value.int IntKind.u8 0,Value.int IntKind.u8 0,Value.int IntKind.u8 0,Value.int IntKind.u8 0,Value.int IntKind.u8 0,Value.int IntKind.u8 0,Value.int IntKind.u8 0,Value.int IntKind.u8 0,Value.int IntKind.u8 0]) w:=fun _=>by kernel_rfl
theorem Z5h:∀ w,(zeroValue 3).run Tryz.prog w = .ok (Value.int IntKind.i64 0) w:=fun _=>by kernel_rfl
theorem Z3c:∀ w,(zeroValue 32).run Tryz.prog w = .ok (Value.agg #[Value.bool false,Value.slice none 0 0]) w:=fun _=>by kernel_rfl
theorem Zla:∀ w,(zeroValue 34).run Tryz.prog w = .ok (Value.agg #[Value.bool false,Value.slice none 0 0,Value.slice none 0 0]) w:=fun _=>by kernel_rfl
theorem Z4k:∀ w,(zeroValue 64).run Tryz.prog w = .ok (Value.agg #[Value.bool false,Value.slice none 0 0,Value.slice none 0 0,Value.bool false,Value.slice none 0 0,Value.slice none 0 0,Value.bool false,Value.slice none 0 0,Value.slice none 0 0]) w:=fun _=>by kernel_rfl
theorem ZRe:∀ w,(zeroValue 67).run Tryz.prog w = .ok (Value.agg #[Value.bool false,Value.slice none 0 0,Value.slice none 0 0]) w:=fun _=>by kernel_rfl
theorem Zcl:∀ w,(zeroValue 69).run Tryz.prog w = .ok (Value.agg #[Value.bool false,Value.slice none 0 0,Value.slice none 0 0,Value.bool false,Value.slice none 0 0,Value.slice none 0 0,Value.bool false,Value.slice none 0 0,Value.slice none 0 0]) w:=fun _=>by kernel_rfl
theorem k_zv73:∀ w,(zeroValue 73).run Tryz.prog w = .ok (Value.agg #[Value.int IntKind.i64 0,Value.int IntKind.i64 0]) w:=fun _=>by kernel_rfl
theorem Zsl:∀ w,(zeroValue 78).run Tryz.prog w = .ok (Value.agg #[Value.bool false,Value.slice none 0 0,Value.slice none 0 0,Value.slice none 0 0]) w:=fun _=>by kernel_rfl
theorem Zwk:∀ w,(zeroValue 81).run Tryz.prog w = .ok (Value.agg #[Value.bool false,Value.slice none 0 0,Value.slice none 0 0,Value.slice none 0 0]) w:=fun _=>by kernel_rfl
theorem cut_w {e:World} {d:Zc} (hv:VIn d e) {E:List Value} {a:(List Int)} (F:Rep.rel (Zs (Za .u64)) d E a) {z:(List Int)} (H:ZYg a=some z):Ret Tryz.prog 92 #[(Zs (Za .u64)).val E] e d (fun y v'=>∃ G,y=(Zs (Za .u64)).val G∧(Zs (Za .u64)).rel v' G z):=by
 obtain ⟨M,N,O,rfl⟩:=Zra F;refine ZW (K:=21) (args:=[.slice M N O]) hv Tryz.func92 rfl rfl zl fun f S=>?_;unfold ZYg at H;refine sr ?_;have S:=S.nilLoc 148 1;refine ov S rfl (Zha S (y:=.slice (mkA none) 0 0) rfl) fun f S=>oe (Zf fun _ P=>?_);obtain ⟨Q,R,T⟩:=Zx H;refine ZR (fun f w=>∃ B j k l m,B=Q∧Zc.le d m∧St 21 e d [(0,.slice j k l)] [] m f w∧Rep.rel (Zs (Za .u64)) m [.slice j k l] B) (fun _ U=>?_) ?_
 ·have H:=R;refine wp_block ?_;obtain ⟨am,V,W⟩:=Zx H;have S:=S.reorder (ℓ':=[]) [] rfl (by decide);refine Zma V (fun X f w=>∃ n o q s g,n=X∧Zc.le d g∧St 21 e d [(0,.slice o q s)] [] g f w∧Rep.rel (Zs (Za .u64)) g [.slice o q s] n) ⟨_,_,_,_,_,rfl,(leR _),(S.fr' rfl),F⟩ ?_;rintro _ f w st ⟨n,o,q,s,g,hq,I,S,c⟩ H an Y Z;subst hq;refine Zf fun _ aa=>Zf fun _ ab=>?_;obtain ⟨ac,ad,ae⟩:=Zx H;refine ZR (fun f w=>∃ u C,u=ac∧Zc.le g C∧St 21 e d [(0,.slice o q s),(14,.bool u)] [] C f w) (fun _ J=>?_) ?_
  ·have H:=ad;rcases Zw (decide ((0:Int)<(n.length:Int))) with h | h
   ·have H:=Zv H h;refine bO H fun ao af H=>bO H fun ap D H=>Zm (mv S rfl fun f S=>ov S rfl (Zz S (Zt c) rfl rfl ZU) fun f S=>ov S rfl (Zh S rfl rfl ZKa) fun f S=>?_);have S:=S.bool (t:=5) rfl h;refine mv S rfl fun f S=>opy S rfl rfl rfl rfl (Zk S rfl) fun f S=>opy S rfl rfl rfl rfl (Zk S rfl) fun f S=>opy S rfl rfl rfl rfl (Zz S (Zt c) rfl rfl ZU) fun f S=>opy S rfl rfl rfl rfl (Zh S rfl rfl (Zxa af)) fun f S=>?_;obtain ⟨_,aq,ar,au,rfl,ag,ah⟩:=Zca c (Zi D).2.1;obtain ⟨rfl,av⟩:=ah;refine opy S rfl rfl rfl rfl (ZJ S rfl rfl ZU (Zi D).1 (ltI (Zt c) (Zi D).2.2.1)) fun f S=>opy S rfl rfl rfl rfl (ZN S rfl Zwa (S.view ag)) fun f S=>opy S rfl rfl rfl rfl (Zh S rfl rfl Z9) fun f S=>ov S rfl (ZL S (b:=true) rfl rfl) fun f S=>Zl ?_;obtain rfl:=Ze H;refine Zb (J _ _ ⟨_,_,rfl,(leR _),(S.fr' rfl)⟩)
   have H:=Zu H h;refine Zm (mv S rfl fun f S=>ov S rfl (Zz S (Zt c) rfl rfl ZU) fun f S=>ov S rfl (Zh S rfl rfl ZKa) fun f S=>?_);have S:=S.bool (t:=5) rfl h;refine mv S rfl fun f S=>opn S rfl rfl rfl rfl fun f S=>opn S rfl rfl rfl rfl fun f S=>opn S rfl rfl rfl rfl fun f S=>opn S rfl rfl rfl rfl fun f S=>opn S rfl rfl rfl rfl fun f S=>opn S rfl rfl rfl rfl fun f S=>opn S rfl rfl rfl rfl fun f S=>ov S rfl (ZL S (b:=false) rfl rfl) fun f S=>Zl ?_;obtain rfl:=Ze H;refine Zb (J _ _ ⟨_,_,rfl,(leR _),(S.fr' rfl)⟩)
  rintro f w ⟨u,C,hq,v,S⟩;subst hq;have H:=ae;refine Zb (ab _ _ ?_);rcases Zw (u) with i | i
  ·have H:=Zv H i;refine ZC S rfl i (wp_skip (Zb (aa _ _ (wp_block (bO H fun ai aj H=>bO H fun aw x H=>Zm (mv S rfl fun f S=>mv S rfl fun f S=>?_))))));have c:=Zp v c;refine ov S rfl (Zz S (Zt c) rfl rfl ZU) fun f S=>ov S rfl (Zh S rfl rfl (Zxa aj)) fun f S=>?_;obtain ⟨ax,ay,ak,L⟩:=ZXh S (A:=(Za .u64)) (p:=(0:Int)) (r:=ai) ZU c (ZTb x).1 (ZTb x).2.1 (ZTb x).2.2.1;rw [← (ZTb x).2.2.2.1] at L;refine ov S rfl (ak rfl (.inl ⟨rfl,rfl⟩) (.inr ⟨_,_,rfl,rfl⟩)) fun f S=>mw S rfl fun f S=>Zl (Zia ?_);obtain rfl:=Ze H;refine Y _ rfl _ _ ⟨_,_,_,_,_,rfl,(leT I v),(S.fr' rfl),L⟩
  have H:=Zu H i;refine ZD S rfl i (wp_exit (ZP ?_));obtain rfl:=Ze H;have hq:=Z _ rfl;subst hq;have H:=W;refine ZP (Zfa ?_);obtain rfl:=Ze H;have c:=Zp v c;refine Zb (U _ _ ⟨_,_,_,_,_,rfl,(leT (leT (leR _) I) v),(S.fr' rfl),c⟩)
 rintro f w ⟨B,j,k,l,m,hq,az,S,al⟩;subst hq;have H:=T;refine Zb (P _ _ (sr (mv S rfl fun f S=>mw S rfl fun f S=>oe (wp_ret ?_))));obtain rfl:=Ze H;refine ZA S (ZO rfl (ZG S rfl)) ⟨[.slice j k l],rfl,al⟩
theorem Zxd {d:World} {b:Zc} (hv:VIn b d) {e:List Value} {a:(List Int)} (c:Rep.rel (Zs (Za .u64)) b e a) {z:Nat} (hm:ZGb a=some z) :
  Ret Tryz.prog 92 #[(Zs (Za .u64)).val e] d b (fun y v'=>∃ f,y=Zy.val f∧Zy.rel v' f z) :=
 by cases hm;exact cut_w hv c (cut_eq (ZFj c).1 (ZFj c).2)
theorem word_w {b:World} {a:Zc} (hv:VIn a b) {c:List Value} {n:Int} (h:Rep.rel (Za .u64) a c n) {z:Nat} (H:Z1h n=some z):Ret Tryz.prog 56 #[(Za .u64).val c] b a (fun y v'=>∃ d,y=Zy.val d∧Zy.rel v' d z):=by
 obtain ⟨rfl,j⟩:=h;refine ZW (K:=6) (args:=[.int .u64 n]) hv Tryz.func56 rfl rfl zl fun f S=>?_;unfold Z1h at H;refine sr (mw S rfl fun f S=>oe (Zf fun _ k=>bO H fun u m H=>Zm (mv S rfl fun f S=>?_)));obtain ⟨e,w,o,S⟩:=Zfb S (n:=1) (cs:=[.int .u64 n]) (vals:=[(0,.int .u64 n)]) (sz:=1) rfl (by decide) (Z8b ZFc (x:=.int .u64 n) (cs:=[.int .u64 n]) rfl rfl (by decide));have p:Rep.rels (Za .u64) a [.int .u64 n] [n]:=(Z9a (Zq j) ZPa);refine Zza wn rfl zl (o rfl) S fun f S=>?_;obtain ⟨v,B,S,q⟩:=S.pubSlice (i:=0) (A:=(Za .u64)) (l:=[n]) (ℓ':=[]) rfl rfl rfl p rfl;refine opc S rfl (Zn S [.slice (mkA (some e)) (1) 1] Zud rfl rfl) (Zxd S.vin (show Rep.rel (Zs (Za .u64)) _ [.slice (mkA (some e)) (1) 1] ([n]) from q) m) ?_;rintro _ C f w D ⟨E,rfl,g⟩ S;obtain ⟨r,s,t,rfl⟩:=Z1 g;refine mw S rfl fun f S=>Zl (Zb (k _ _ (wp_ret ?_)));obtain rfl:=Ze H;refine ZA S (ZO rfl (ZG S rfl)) ⟨[.slice r s t],rfl,g⟩
theorem Zwe {b:World} {a:Zc} (hv:VIn a b) {c:List Value} {n:Int} (e:Rep.rel (Za .u64) a c n) {z:Nat} (hm:Z4b n=some z) :
  Ret Tryz.prog 56 #[(Za .u64).val c] b a (fun y v'=>∃ d,y=Zy.val d∧Zy.rel v' d z) :=
 word_w hv e (Zjp hm)
theorem of_w {k:World} {j:Zc} (hv:VIn j k) {l:List Value} {n:Int} (q:Rep.rel (Za .i64) j l n) {z:Int} (H:of_m n=some z):Ret Tryz.prog 30 #[(Za .i64).val l] k j (fun y v'=>∃ m,y=Z5.val m∧Z5.rel v' m z):=by
 obtain ⟨rfl,G⟩:=q;refine ZW (K:=14) (args:=[.int .i64 n]) hv Tryz.func30 rfl rfl zl fun f S=>?_;unfold of_m at H;refine sr (Zaa S wn rfl zl (cs:=[.bool false,.slice none 0 0]) (ZX Z3c) fun I f w S=>oe (Zf fun _ r=>sr (mv S rfl fun f S=>ov S rfl (Zh S rfl rfl Z8) fun f S=>oe ?_)));rcases Zw (decide (n<(0:Int))) with a | a
 ·have H:=Zv H a;refine ZC S rfl a (Zf fun _ t=>bO H fun J u H=>Zm (mv S rfl fun f S=>ov S rfl (Zua S rfl (Z4g _)) fun f S=>ov S rfl (ZJl S rfl) fun f S=>opc S rfl (Zn S [.int .u64 (IntKind.u64.wrap (-(IntKind.u64.wrap n)))] Zje rfl rfl) (Zwe S.vin (show Rep.rel (Za .u64) _ [.int .u64 (IntKind.u64.wrap (-(IntKind.u64.wrap n)))] (IntKind.u64.wrap (-(IntKind.u64.wrap n))) from (Zq (Zva _ _))) u) ?_));rintro _ L f w M ⟨N,rfl,o⟩ S;obtain ⟨b,c,d,rfl⟩:=Z1 o;refine ov S rfl (ZLa S [(0,.bool true),(1,.slice b c d)] rfl (z:=.agg #[.bool true,.slice b c d]) (by kernel_rfl)) fun f S=>?_;obtain ⟨w,v,S⟩:=sbp S [.bool true,.slice b c d] ZGa 0 0 rfl;refine ZY wn rfl (v rfl rfl) (Zl (Zb (t _ _ (wp_ret (ZS (bO H fun O x H=>?_))))));have A:=ZGh (s:=true) o x;obtain rfl:=Ze H;refine ZA S (ZO rfl (Zrc S rfl ZGa rfl (S.box (i:=0) rfl 0 [.bool true,.slice b c d] rfl))) ⟨[.bool true,.slice b c d],rfl,A⟩
 have H:=Zu H a;refine ZD S rfl a (wp_skip (Zb (r _ _ (Zf fun _ B=>bO H fun P C H=>Zm (mv S rfl fun f S=>ov S rfl (Zua S rfl (Z4g _)) fun f S=>opc S rfl (Zn S [.int .u64 (IntKind.u64.wrap n)] Zje rfl rfl) (Zwe S.vin (show Rep.rel (Za .u64) _ [.int .u64 (IntKind.u64.wrap n)] (IntKind.u64.wrap n) from (Zq (Zva _ _))) C) ?_)))));rintro _ Q f w R ⟨T,rfl,p⟩ S;obtain ⟨e,g,h,rfl⟩:=Z1 p;refine ov S rfl (ZLa S [(0,.bool false),(1,.slice e g h)] rfl (z:=.agg #[.bool false,.slice e g h]) (by kernel_rfl)) fun f S=>?_;obtain ⟨w,D,S⟩:=sbp S [.bool false,.slice e g h] ZGa 0 0 rfl;refine ZY wn rfl (D rfl rfl) (Zl (Zb (B _ _ (wp_ret (bO H fun U E H=>?_)))));have F:=ZGh (s:=false) p E;obtain rfl:=Ze H;refine ZA S (ZO rfl (Zrc S rfl ZGa rfl (S.box (i:=0) rfl 0 [.bool false,.slice e g h] rfl))) ⟨[.bool false,.slice e g h],rfl,F⟩
theorem of_c {b:World} {a:Zc} (hv:VIn a b) {c:List Value} {n:Int} (d:Rep.rel (Za .i64) a c n) {z:Int} (hm:ofF n=some z) :
  Ret Tryz.prog 30 #[(Za .i64).val c] b a (fun y v'=>∃ e,y=Z5.val e∧Z5.rel v' e z) :=
 of_w hv d (ofF_eq d.2 hm)
theorem qint_w {g:World} {e:Zc} (hv:VIn e g) {h:List Value} {n:Int} (k:Rep.rel (Za .i64) e h n) {z:Rat} (H:ZGi n=some z):Ret Tryz.prog 11 #[(Za .i64).val h] g e (fun y v'=>∃ i,y=Zg.val i∧Zg.rel v' i z):=by
 obtain ⟨rfl,l⟩:=k;refine ZW (K:=6) (args:=[.int .i64 n]) hv Tryz.func11 rfl rfl zl fun f S=>?_;unfold ZGi at H;refine sr (Zaa S wn rfl zl (cs:=[.bool false,.slice none 0 0,.slice none 0 0]) (ZX Zla) fun s f w S=>oe (Zf fun _ m=>bO H fun t o H=>Zm (mv S rfl fun f S=>opc S rfl (Zn S [.int .i64 n] Zdi rfl rfl) (of_c S.vin (show Rep.rel (Za .i64) _ [.int .i64 n] n from (Zq l)) o) ?_)));rintro _ u f w v ⟨x,rfl,j⟩ S;obtain ⟨a,b,c,d,rfl⟩:=ZUa j;refine ov S rfl (ZLa S [(0,.agg #[.bool a,.slice b c d])] rfl (z:=.agg #[.bool a,.slice b c d,.slice none 0 0]) (by kernel_rfl)) fun f S=>?_;obtain ⟨w,p,S⟩:=sbp S [.bool a,.slice b c d,.slice none 0 0] Zr 0 0 rfl;refine ZY wn rfl (p rfl rfl) (Zl (Zb (m _ _ (wp_ret (bO H fun A q H=>?_)))));have r:=ZNh j (Zff _) q;obtain rfl:=Ze H;refine ZA S (ZO rfl (ZCa S rfl Zr 0 rfl rfl)) ⟨[.bool a,.slice b c d,.slice none 0 0],rfl,r⟩
theorem ZJd {b:World} {a:Zc} (hv:VIn a b) {c:List Value} {n:Int} (e:Rep.rel (Za .i64) a c n) {z:Rat} (hm:ZQc n=some z) :
  Ret Tryz.prog 11 #[(Za .i64).val c] b a (fun y v'=>∃ d,y=Zg.val d∧Zg.rel v' d z) :=
 qint_w hv e (ZXm hm)
theorem cmp_w {m:World} {e:Zc} (hv:VIn e m) {A:List Value} {a:(List Int)} (c:Rep.rel (Zs (Za .u64)) e A a) {B:List Value} {b:(List Int)} (d:Rep.rel (Zs (Za .u64)) e B b) {z:Int} (H:Zxi a b=some z):Ret Tryz.prog 29 #[(Zs (Za .u64)).val A,(Zs (Za .u64)).val B] m e (fun y v'=>∃ C,y=(Za .i64).val C∧(Za .i64).rel v' C z):=by
 obtain ⟨D,E,G,rfl⟩:=Zra c;obtain ⟨I,J,L,rfl⟩:=Zra d;refine ZW (K:=41) (args:=[.slice D E G,.slice I J L]) hv Tryz.func29 rfl rfl zl fun f S=>?_;unfold Zxi at H;refine sr (mw S rfl fun f S=>oe (Zf fun _ P=>sr (mv S rfl fun f S=>ov S rfl (Zz S (Zt c) rfl rfl ZU) fun f S=>mv S rfl fun f S=>ov S rfl (Zz S (Zt d) rfl rfl ZU) fun f S=>ov S rfl (Zh S rfl rfl Zmb) fun f S=>oe ?_)));rcases Zw (((a.length:Int)) != ((b.length:Int))) with g | g
 ·have H:=Zv H g;refine ZC S rfl g (Zf fun _ Q=>sr (mv S rfl fun f S=>ov S rfl (Zz S (Zt c) rfl rfl ZU) fun f S=>mv S rfl fun f S=>ov S rfl (Zz S (Zt d) rfl rfl ZU) fun f S=>ov S rfl (Zh S rfl rfl Z8) fun f S=>oe ?_));rcases Zw (decide ((a.length:Int)<(b.length:Int))) with h | h
  ·have H:=Zv H h;refine ZC S rfl h (sr (mw S rfl fun f S=>oe (wp_ret (ZS (ZS ?_)))));obtain rfl:=Ze H;refine ZA S (ZO rfl (ZG S rfl)) ⟨[.int .i64 (-1:Int)],rfl,(Zq (by decide))⟩
  have H:=Zu H h;refine ZD S rfl h (wp_skip (Zb (Q _ _ (sr (mw S rfl fun f S=>oe (wp_ret (ZS ?_)))))));obtain rfl:=Ze H;refine ZA S (ZO rfl (ZG S rfl)) ⟨[.int .i64 1],rfl,(Zq (by decide))⟩
 have H:=Zu H g;refine ZD S rfl g (wp_skip (Zb (P _ _ (Zf fun _ R=>Zf fun _ T=>bO H fun ar M H=>Zm (mv S rfl fun f S=>ov S rfl (Zz S (Zt c) rfl rfl ZU) fun f S=>ov S rfl (Zh S rfl rfl (Zxa M)) fun f S=>mw S rfl fun f S=>Zl (Zb (T _ _ ?_)))))));obtain ⟨U,V,o⟩:=Zx H;refine ZR (fun f w=>∃  (p:Zc),(.inl (()))=U∧Zc.le e p∧St 41 m e [] [] p f w) (fun _ W=>?_) ?_
 ·have H:=V;refine wp_block ?_;obtain ⟨au,X,q⟩:=Zx H;refine Zma X (fun Y f w=>∃ i r,i=Y∧Zc.le e r∧St 41 m e [(0,.slice D E G),(1,.slice I J L),(5,.int .i64 i)] [] r f w∧inR .i64 i) ⟨_,_,rfl,(leR _),(S.fr' rfl),(Z2 M).2⟩ ?_;rintro _ f w st ⟨i,r,hq,n,S,av⟩ H aw Z s;subst hq;refine Zf fun _ aa=>sr (mv S rfl fun f S=>ov S rfl (Zh S rfl rfl ZFb) fun f S=>oe ?_);rcases Zw (decide ((0:Int)≤i)) with j | j
  ·have H:=Zv H j;refine ZC S rfl j (wp_skip (Zb (aa _ _ (Zf fun _ ab=>wp_block (Zf fun _ ac=>Zf fun _ ad=>bO H fun ae t H=>bO H fun af u H=>Zsa (fl:=#[true,true,true,true,true,true,true,true,true]) Zpa (by kernel_rfl) S ?_)))));intro ops O F w S;refine rfa O F 0 rfl rfl S (Zk S rfl) fun f S=>rfa O F 1 rfl rfl S (Zk S rfl) fun f S=>?_;have c:=Zp n c;obtain ⟨_,ax,ay,az,rfl,ag,ah⟩:=Zca c (Zi t).2.1;obtain ⟨rfl,aA⟩:=ah;refine rfa O F 2 rfl rfl S (ZJ S rfl rfl ZU (Zi t).1 (ltI (Zt c) (Zi t).2.2.1)) fun f S=>rfa O F 3 rfl rfl S (ZN S rfl Zwa (S.view ag)) fun f S=>rfa O F 4 rfl rfl S (Zk S rfl) fun f S=>rfa O F 5 rfl rfl S (Zk S rfl) fun f S=>?_;have d:=Zp n d;obtain ⟨_,aB,aC,aD,rfl,ai,aj⟩:=Zca d (Zi u).2.1;obtain ⟨rfl,aE⟩:=aj;refine rfa O F 6 rfl rfl S (ZJ S rfl rfl ZU (Zi u).1 (ltI (Zt d) (Zi u).2.2.1)) fun f S=>rfa O F 7 rfl rfl S (ZN S rfl Zwa (S.view ai)) fun f S=>rfa O F 8 rfl rfl S (Zh S rfl rfl Z8) fun f S=>Z4 O F (Zb (ad _ _ ?_));rcases Zw (decide (ae<af)) with k | k
   ·have H:=Zv H k;refine ZC S rfl k (sr (mw S rfl fun f S=>oe (wp_ret (ZS (Z3a (ZS ?_))))));obtain rfl:=Ze H;have hq:=s _ rfl;subst hq;have H:=q;refine ZS (Z3a ?_);obtain rfl:=Ze H;have H:=o;refine ZS (ZS ?_);obtain rfl:=Ze H;refine ZA S (ZO rfl (ZG S rfl)) ⟨[.int .i64 (-1:Int)],rfl,(Zq (by decide))⟩
   have H:=Zu H k;refine ZD S rfl k (wp_skip (Zb (ac _ _ (Zf fun _ ak=>bO H fun al v H=>bO H fun am x H=>Zsa (fl:=#[true,true,true,true,true,true,true,true,true]) Zpa (by kernel_rfl) S ?_))));intro ops O F w S;refine rfa O F 0 rfl rfl S (Zk S rfl) fun f S=>rfa O F 1 rfl rfl S (Zk S rfl) fun f S=>?_;obtain ⟨aF,an,ao⟩:=Zkc c (Zi v).2.1;obtain ⟨rfl,aG⟩:=ao;refine rfa O F 2 rfl rfl S (ZJ S rfl rfl ZU (Zi v).1 (ltI (Zt c) (Zi v).2.2.1)) fun f S=>rfa O F 3 rfl rfl S (ZN S rfl Zwa (S.view an)) fun f S=>rfa O F 4 rfl rfl S (Zk S rfl) fun f S=>rfa O F 5 rfl rfl S (Zk S rfl) fun f S=>?_;obtain ⟨aH,ap,aq⟩:=Zkc d (Zi x).2.1;obtain ⟨rfl,aI⟩:=aq;refine rfa O F 6 rfl rfl S (ZJ S rfl rfl ZU (Zi x).1 (ltI (Zt d) (Zi x).2.2.1)) fun f S=>rfa O F 7 rfl rfl S (ZN S rfl Zwa (S.view ap)) fun f S=>rfa O F 8 rfl rfl S (Zh S rfl rfl ZKa) fun f S=>Z4 O F (Zb (ak _ _ ?_));rcases Zw (decide (am<al)) with l | l
   ·have H:=Zv H l;refine ZC S rfl l (sr (mw S rfl fun f S=>oe (wp_ret (Z3a (ZS ?_)))));obtain rfl:=Ze H;have hq:=s _ rfl;subst hq;have H:=q;refine ZS (Z3a ?_);obtain rfl:=Ze H;have H:=o;refine ZS (ZS ?_);obtain rfl:=Ze H;refine ZA S (ZO rfl (ZG S rfl)) ⟨[.int .i64 1],rfl,(Zq (by decide))⟩
   have H:=Zu H l;refine ZD S rfl l (wp_skip (Zia (Zb (ab _ _ (bO H fun aJ N H=>Zm (mv S rfl fun f S=>ov S rfl (Zh S rfl rfl (Zxa N)) fun f S=>mw S rfl fun f S=>Zl ?_))))));obtain rfl:=Ze H;refine Z _ rfl _ _ ⟨_,_,rfl,n,(S.fr' rfl),(Z2 N).2⟩
  have H:=Zu H j;refine ZD S rfl j (wp_exit (ZP ?_));obtain rfl:=Ze H;have hq:=s _ rfl;subst hq;have H:=q;refine ZP (Zfa ?_);obtain rfl:=Ze H;refine Zb (W _ _ ⟨_,rfl,(leT (leR _) n),(S.fr' rfl)⟩)
 rintro f w ⟨p,hq,aK,S⟩;subst hq;have H:=o;refine Zb (R _ _ (sr (mw S rfl fun f S=>oe (wp_ret ?_))));obtain rfl:=Ze H;refine ZA S (ZO rfl (ZG S rfl)) ⟨[.int .i64 0],rfl,(Zq (by decide))⟩
theorem Zwf {d:World} {c:Zc} (hv:VIn c d) {e:List Value} {a:Nat} (f:Rep.rel Zy c e a) {g:List Value} {b:Nat} (h:Rep.rel Zy c g b) {z:Int} (hm:ZDd a b=some z) :
  Ret Tryz.prog 29 #[Zy.val e,Zy.val g] d c (fun y v'=>∃ i,y=(Za .i64).val i∧(Za .i64).rel v' i z) :=
 cmp_w hv f h ((cmp_eq (Zvl f) (Zvl h)).trans hm)
theorem qsame_w {o:World} {a:Zc} (hv:VIn a o) {F:List Value} {x:Rat} (e:Rep.rel Zg a F x) {G:List Value} {y:Rat} (g:Rep.rel Zg a G y) {z:Bool} (H:Z0g x y=some z):Ret Tryz.prog 10 #[Zg.val F,Zg.val G] o a (fun y v'=>∃ I,y=Zga.val I∧Zga.rel v' I z):=by
 obtain ⟨J,h,i,j,p,q,r,rfl⟩:=ZQa e;obtain ⟨L,k,l,m,s,u,v,rfl⟩:=ZQa g;refine ZW (K:=30) (args:=[.agg #[.bool J,.slice h i j,.slice p q r],.agg #[.bool L,.slice k l m,.slice s u v]]) hv Tryz.func10 rfl rfl zl fun f S=>?_;unfold Z0g at H;refine sr (ob S rfl (cs:=[.bool J,.slice h i j,.slice p q r]) rfl fun ak f w S=>ob S rfl (cs:=[.bool L,.slice k l m,.slice s u v]) rfl fun al f w S=>mw S rfl fun f S=>oe (Zf fun _ N=>?_));obtain ⟨O,P,Q⟩:=Zx H;refine ZR (fun f w=>∃ n A,n=O∧Zc.le a A∧St 30 o a [(4,.bool n)] [] A f w) (fun _ B=>?_) ?_
 ·have H:=P;rcases Zw ((decide (x.num<0))==(decide (y.num<0))) with c | c
  ·have H:=Zv H c;refine bO H fun R M H=>?_;rcases Zw (R==(0:Int)) with d | d
   ·have H:=Zv H d;refine bO H fun T U H=>Zm (ov S rfl (ZB S rfl ZVa) fun f S=>ov S rfl (ZB S rfl Z2a) fun f S=>?_);obtain ⟨V,C⟩:=ZRb e;obtain ⟨rfl,W⟩:=ZEb V;refine ov S rfl (lo S rfl ZWa 1 rfl rfl) fun f S=>ov S rfl (ZB S rfl ZVa) fun f S=>ov S rfl (ZB S rfl Z2a) fun f S=>?_;obtain ⟨X,D⟩:=ZRb g;obtain ⟨rfl,Y⟩:=ZEb X;refine ov S rfl (lo S rfl ZWa 0 rfl rfl) fun f S=>ov S rfl (Ztd S rfl rfl (ZMh _ _)) fun f S=>?_;have S:=S.bool (t:=11) rfl c;refine mv S rfl fun f S=>opy S rfl rfl rfl rfl (ZB S rfl ZVa) fun f S=>opy S rfl rfl rfl rfl (ZB S rfl Z5a) fun f S=>opy S rfl rfl rfl rfl (lo S rfl Zka 1 rfl rfl) fun f S=>opy S rfl rfl rfl rfl (ZB S rfl ZVa) fun f S=>opy S rfl rfl rfl rfl (ZB S rfl Z5a) fun f S=>opy S rfl rfl rfl rfl (lo S rfl Zka 0 rfl rfl) fun f S=>Zwb S (ZFa S rfl rfl rfl zl) rfl zl (Zn S [.slice h i j,.slice k l m] Zcf rfl rfl) (Zwf S.vin W Y M) ?_;rintro _ am f w E ⟨an,rfl,Z⟩ S;obtain ⟨rfl,ao⟩:=Z;refine opy S rfl rfl rfl rfl (Zh S rfl rfl Z9) fun f S=>?_;have S:=S.bool (t:=20) rfl d;refine ov S rfl (ZL S (b:=true) rfl rfl) fun f S=>mv S rfl fun f S=>opy S rfl rfl rfl rfl (ZB S rfl ZBb) fun f S=>opy S rfl rfl rfl rfl (lo S rfl Zka 1 rfl rfl) fun f S=>opy S rfl rfl rfl rfl (ZB S rfl ZBb) fun f S=>opy S rfl rfl rfl rfl (lo S rfl Zka 0 rfl rfl) fun f S=>?_
    have C:=Zp E C;have D:=Zp E D;refine Zwb S (ZFa S rfl rfl rfl zl) rfl zl (Zn S [.slice p q r,.slice s u v] Zcf rfl rfl) (Zwf S.vin C D U) ?_;rintro _ ap f w aa ⟨aq,rfl,ab⟩ S;obtain ⟨rfl,ar⟩:=ab;refine opy S rfl rfl rfl rfl (Zh S rfl rfl Z9) fun f S=>ov S rfl (ZL S (b:=true) rfl rfl) fun f S=>mw S rfl fun f S=>Zl ?_;have S:=S.fr' (σ':=[(4,.bool (T==(0:Int)))]) rfl;obtain rfl:=Ze H;have S:=S.reorder (ℓ':=[]) [] rfl (by decide);refine Zb (B _ _ ⟨_,_,rfl,(leT (leT (leR _) E) aa),(S.fr' rfl)⟩)
   have H:=Zu H d;refine Zm (ov S rfl (ZB S rfl ZVa) fun f S=>ov S rfl (ZB S rfl Z2a) fun f S=>?_);obtain ⟨ac,au⟩:=ZRb e;obtain ⟨rfl,ad⟩:=ZEb ac;refine ov S rfl (lo S rfl ZWa 1 rfl rfl) fun f S=>ov S rfl (ZB S rfl ZVa) fun f S=>ov S rfl (ZB S rfl Z2a) fun f S=>?_;obtain ⟨ae,av⟩:=ZRb g;obtain ⟨rfl,af⟩:=ZEb ae;refine ov S rfl (lo S rfl ZWa 0 rfl rfl) fun f S=>ov S rfl (Ztd S rfl rfl (ZMh _ _)) fun f S=>?_;have S:=S.bool (t:=11) rfl c;refine mv S rfl fun f S=>opy S rfl rfl rfl rfl (ZB S rfl ZVa) fun f S=>opy S rfl rfl rfl rfl (ZB S rfl Z5a) fun f S=>opy S rfl rfl rfl rfl (lo S rfl Zka 1 rfl rfl) fun f S=>opy S rfl rfl rfl rfl (ZB S rfl ZVa) fun f S=>opy S rfl rfl rfl rfl (ZB S rfl Z5a) fun f S=>opy S rfl rfl rfl rfl (lo S rfl Zka 0 rfl rfl) fun f S=>Zwb S (ZFa S rfl rfl rfl zl) rfl zl (Zn S [.slice h i j,.slice k l m] Zcf rfl rfl) (Zwf S.vin ad af M) ?_;rintro _ aw f w ag ⟨ax,rfl,ah⟩ S;obtain ⟨rfl,ay⟩:=ah;refine opy S rfl rfl rfl rfl (Zh S rfl rfl Z9) fun f S=>?_;have S:=S.bool (t:=20) rfl d;refine ov S rfl (ZL S (b:=true) rfl rfl) fun f S=>mv S rfl fun f S=>opn S rfl rfl rfl rfl fun f S=>opn S rfl rfl rfl rfl fun f S=>opn S rfl rfl rfl rfl fun f S=>opn S rfl rfl rfl rfl fun f S=>opn S rfl rfl rfl rfl fun f S=>opn S rfl rfl rfl rfl fun f S=>ov S rfl (ZL S (b:=false) rfl rfl) fun f S=>mw S rfl fun f S=>Zl ?_
   have S:=S.fr' (σ':=[(4,.bool false)]) rfl;obtain rfl:=Ze H;have S:=S.reorder (ℓ':=[]) [] rfl (by decide);refine Zb (B _ _ ⟨_,_,rfl,(leT (leR _) ag),(S.fr' rfl)⟩)
  have H:=Zu H c;refine Zm (ov S rfl (ZB S rfl ZVa) fun f S=>ov S rfl (ZB S rfl Z2a) fun f S=>?_);obtain ⟨ai,az⟩:=ZRb e;obtain ⟨rfl,aA⟩:=ZEb ai;refine ov S rfl (lo S rfl ZWa 1 rfl rfl) fun f S=>ov S rfl (ZB S rfl ZVa) fun f S=>ov S rfl (ZB S rfl Z2a) fun f S=>?_;obtain ⟨aj,aB⟩:=ZRb g;obtain ⟨rfl,aC⟩:=ZEb aj;refine ov S rfl (lo S rfl ZWa 0 rfl rfl) fun f S=>ov S rfl (Ztd S rfl rfl (ZMh _ _)) fun f S=>?_;have S:=S.bool (t:=11) rfl c;refine mv S rfl fun f S=>opn S rfl rfl rfl rfl fun f S=>opn S rfl rfl rfl rfl fun f S=>opn S rfl rfl rfl rfl fun f S=>opn S rfl rfl rfl rfl fun f S=>opn S rfl rfl rfl rfl fun f S=>opn S rfl rfl rfl rfl fun f S=>opn S rfl rfl rfl rfl fun f S=>opn S rfl rfl rfl rfl fun f S=>ov S rfl (ZL S (b:=false) rfl rfl) fun f S=>mv S rfl fun f S=>opn S rfl rfl rfl rfl fun f S=>opn S rfl rfl rfl rfl fun f S=>opn S rfl rfl rfl rfl fun f S=>?_;refine opn S rfl rfl rfl rfl fun f S=>opn S rfl rfl rfl rfl fun f S=>opn S rfl rfl rfl rfl fun f S=>ov S rfl (ZL S (b:=false) rfl rfl) fun f S=>mw S rfl fun f S=>Zl ?_;have S:=S.fr' (σ':=[(4,.bool false)]) rfl;obtain rfl:=Ze H;have S:=S.reorder (ℓ':=[]) [] rfl (by decide);refine Zb (B _ _ ⟨_,_,rfl,(leR _),(S.fr' rfl)⟩)
 rintro f w ⟨n,A,hq,aD,S⟩;subst hq;have H:=Q;refine Zb (N _ _ (wp_ret ?_));obtain rfl:=Ze H;refine ZA S (ZO rfl (ZG S rfl)) ⟨[.bool n],rfl,Z8a⟩
theorem Zjd {b:World} {a:Zc} (hv:VIn a b) {c:List Value} {x:Rat} (f:Rep.rel Zg a c x) {d:List Value} {y:Rat} (g:Rep.rel Zg a d y) {z:Bool} (hm:Zqe x y=some z) :
  Ret Tryz.prog 10 #[Zg.val c,Zg.val d] b a (fun y v'=>∃ e,y=Zga.val e∧Zga.rel v' e z) :=
 qsame_w hv f g (Zln hm)
theorem qzero_w {b:World} {a:Zc} (hv:VIn a b) {c:List Value} {x:Rat} (d:Rep.rel Zg a c x) {z:Bool} (H:ZAh x=some z):Ret Tryz.prog 12 #[Zg.val c] b a (fun y v'=>∃ e,y=Zga.val e∧Zga.rel v' e z):=by
 obtain ⟨g,h,i,j,k,l,m,rfl⟩:=ZQa d;refine ZW (K:=8) (args:=[.agg #[.bool g,.slice h i j,.slice k l m]]) hv Tryz.func12 rfl rfl zl fun f S=>?_;unfold ZAh at H;refine sr (ob S rfl (cs:=[.bool g,.slice h i j,.slice k l m]) rfl fun p f w S=>mw S rfl fun f S=>oe (sr (ov S rfl (ZB S rfl ZVa) fun f S=>ov S rfl (ZB S rfl Z5a) fun f S=>?_)));obtain ⟨n,q⟩:=ZRb d;obtain ⟨rfl,o⟩:=ZEb n;refine ov S rfl (lo S rfl Zka 0 rfl rfl) fun f S=>ov S rfl (Zz S (Zt o) rfl rfl ZU) fun f S=>ov S rfl (Zh S rfl rfl Z9) fun f S=>mw S rfl fun f S=>oe (wp_ret ?_);obtain rfl:=Ze H;refine ZA S (ZO rfl (ZG S rfl)) ⟨[.bool (((((Zj 18446744073709551616 ((x.num).natAbs))).length:Int))==(0:Int))],rfl,Z8a⟩
theorem Zmj {b:World} {a:Zc} (hv:VIn a b) {c:List Value} {x:Rat} (e:Rep.rel Zg a c x) {z:Bool} (hm:ZJe x=some z) :
  Ret Tryz.prog 12 #[Zg.val c] b a (fun y v'=>∃ d,y=Zga.val d∧Zga.rel v' d z) :=
 qzero_w hv e (Z2m hm)
theorem len64_w {b:World} {a:Zc} (hv:VIn a b) {q:List Value} {x:Int} (J:Rep.rel (Za .u64) a q x) {z:Int} (H:Zbg x=some z):Ret Tryz.prog 164 #[(Za .u64).val q] b a (fun y v'=>∃ r,y=(Za .i64).val r∧(Za .i64).rel v' r z):=by
 obtain ⟨rfl,s⟩:=J;refine ZW (K:=25) (args:=[.int .u64 x]) hv Tryz.func164 rfl rfl zl fun f S=>?_;unfold Zbg at H;refine sr (mw S rfl fun f S=>oe (Zf fun _ L=>sr (mv S rfl fun f S=>ov S rfl (Zh S rfl rfl ZFb) fun f S=>oe ?_)));obtain ⟨M,N,O⟩:=Zx H;refine ZR (fun f w=>∃ c i j,(c,i)=M∧Zc.le a j∧St 25 b a [(0,.int .u64 c),(2,.int .i64 i)] [] j f w∧inR .u64 c∧inR .i64 i) (fun _ t=>?_) ?_
 ·have H:=N;rcases Zw (decide ((4294967296:Int)≤x)) with d | d
  ·have H:=Zv H d;refine ZC S rfl d (Zf fun _ P=>bO H fun ag u H=>Zm (mv S rfl fun f S=>ov S rfl (Zh S rfl rfl (ZVb u)) fun f S=>mw S rfl fun f S=>Zl (Zb (P _ _ (Zm (mw S rfl fun f S=>Zl ?_))))));obtain rfl:=Ze H;refine Zb (t _ _ ⟨_,_,_,rfl,(leR _),(S.fr' rfl),(ZLd s u),(by decide)⟩)
  have H:=Zu H d;refine ZD S rfl d (wp_skip ?_);obtain rfl:=Ze H;refine Zb (t _ _ ⟨_,_,_,rfl,(leR _),(S.fr' rfl),s,(by decide)⟩)
 rintro f w ⟨c,i,j,hq,ah,S,v,Q⟩;subst hq;have H:=O;refine Zb (L _ _ (Zf fun _ R=>sr (mv S rfl fun f S=>ov S rfl (Zh S rfl rfl ZFb) fun f S=>oe ?_)));obtain ⟨T,U,V⟩:=Zx H;refine ZR (fun f w=>∃ e k m,(e,k)=T∧Zc.le j m∧St 25 b a [(0,.int .u64 e),(2,.int .i64 k)] [] m f w∧inR .u64 e∧inR .i64 k) (fun _ A=>?_) ?_
 ·have H:=U;rcases Zw (decide ((65536:Int)≤c)) with g | g
  ·have H:=Zv H g;refine ZC S rfl g (Zf fun _ W=>bO H fun ai B H=>Zm (mv S rfl fun f S=>ov S rfl (Zh S rfl rfl (ZVb B)) fun f S=>mw S rfl fun f S=>Zl (Zb (W _ _ (bO H fun aj C H=>Zm (mv S rfl fun f S=>ov S rfl (Zh S rfl rfl (Z6 C)) fun f S=>mw S rfl fun f S=>?_))))));refine Zl ?_;obtain rfl:=Ze H;refine Zb (A _ _ ⟨_,_,_,rfl,(leR _),(S.fr' rfl),(ZLd v B),(Z2 C).2⟩)
  have H:=Zu H g;refine ZD S rfl g (wp_skip ?_);obtain rfl:=Ze H;refine Zb (A _ _ ⟨_,_,_,rfl,(leR _),(S.fr' rfl),v,Q⟩)
 rintro f w ⟨e,k,m,hq,ak,S,D,X⟩;subst hq;have H:=V;refine Zb (R _ _ (Zf fun _ Y=>sr (mv S rfl fun f S=>ov S rfl (Zh S rfl rfl ZFb) fun f S=>oe ?_)));obtain ⟨Z,aa,ab⟩:=Zx H;refine ZR (fun f w=>∃ n o p,(n,o)=Z∧Zc.le m p∧St 25 b a [(0,.int .u64 n),(2,.int .i64 o)] [] p f w∧inR .u64 n∧inR .i64 o) (fun _ E=>?_) ?_
 ·have H:=aa;rcases Zw (decide ((256:Int)≤e)) with h | h
  ·have H:=Zv H h;refine ZC S rfl h (Zf fun _ ac=>bO H fun al F H=>Zm (mv S rfl fun f S=>ov S rfl (Zh S rfl rfl (ZVb F)) fun f S=>mw S rfl fun f S=>Zl (Zb (ac _ _ (bO H fun am G H=>Zm (mv S rfl fun f S=>ov S rfl (Zh S rfl rfl (Z6 G)) fun f S=>mw S rfl fun f S=>?_))))));refine Zl ?_;obtain rfl:=Ze H;refine Zb (E _ _ ⟨_,_,_,rfl,(leR _),(S.fr' rfl),(ZLd D F),(Z2 G).2⟩)
  have H:=Zu H h;refine ZD S rfl h (wp_skip ?_);obtain rfl:=Ze H;refine Zb (E _ _ ⟨_,_,_,rfl,(leR _),(S.fr' rfl),D,X⟩)
 rintro f w ⟨n,o,p,hq,an,S,ao,ap⟩;subst hq;have H:=ab;refine Zb (Y _ _ (Zf fun _ ad=>bO H fun aq ae H=>bO H fun af I H=>Zm (mv S rfl fun f S=>mv S rfl fun f S=>ov S rfl (Zua S rfl (ZVl _)) fun f S=>ov S rfl (ZQo S (l:=([0,1,2,2,3,3,3,3,4,4,4,4,4,4,4,4,5,5,5,5,5,5,5,5,5,5,5,5,5,5,5,5,6,6,6,6,6,6,6,6,6,6,6,6,6,6,6,6,6,6,6,6,6,6,6,6,6,6,6,6,6,6,6,6,7,7,7,7,7,7,7,7,7,7,7,7,7,7,7,7,7,7,7,7,7,7,7,7,7,7,7,7,7,7,7,7,7,7,7,7,7,7,7,7,7,7,7,7,7,7,7,7,7,7,7,7,7,7,7,7,7,7,7,7,7,7,7,7,8,8,8,8,8,8,8,8,8,8,8,8,8,8,8,8,8,8,8,8,8,8,8,8,8,8,8,8,8,8,8,8,8,8,8,8,8,8,8,8,8,8,8,8,8,8,8,8,8,8,8,8,8,8,8,8,8,8,8,8,8,8,8,8,8,8,8,8,8,8,8,8,8,8,8,8,8,8,8,8,8,8,8,8,8,8,8,8,8,8,8,8,8,8,8,8,8,8,8,8,8,8,8,8,8,8,8,8,8,8,8,8,8,8,8,8,8,8,8,8,8,8,8,8,8,8,8,8]:List UInt8)) (by kernel_rfl) rfl Tryz.underlying9 ae) fun f S=>ov S rfl (Zua S rfl (Znc _)) fun f S=>ov S rfl (Zh S rfl rfl (Z6 I)) fun f S=>mw S rfl fun f S=>Zl (Zb (ad _ _ ?_)))));refine wp_ret ?_;obtain rfl:=Ze H;refine ZA S (ZO rfl (ZG S rfl)) ⟨[.int .i64 af],rfl,(Zq (Z2 I).2)⟩
theorem len64_c {b:World} {a:Zc} (hv:VIn a b) {c:List Value} {x:Int} (e:Rep.rel (Za .u64) a c x) {z:Int} (hm:Zjg x=some z) :
  Ret Tryz.prog 164 #[(Za .u64).val c] b a (fun y v'=>∃ d,y=(Za .i64).val d∧(Za .i64).rel v' d z) :=
 len64_w hv e (Zwn hm)
theorem lz64_w {b:World} {a:Zc} (hv:VIn a b) {c:List Value} {x:Int} (g:Rep.rel (Za .u64) a c x) {z:Int} (H:Z2h x=some z):Ret Tryz.prog 147 #[(Za .u64).val c] b a (fun y v'=>∃ d,y=(Za .i64).val d∧(Za .i64).rel v' d z):=by
 obtain ⟨rfl,h⟩:=g;refine ZW (K:=6) (args:=[.int .u64 x]) hv Tryz.func147 rfl rfl zl fun f S=>?_;unfold Z2h at H;refine sr (mw S rfl fun f S=>oe (Zf fun _ i=>bO H fun m j H=>bO H fun k e H=>Zm (mv S rfl fun f S=>opc S rfl (Zn S [.int .u64 x] k_en164 rfl rfl) (len64_c S.vin (show Rep.rel (Za .u64) _ [.int .u64 x] x from (Zq h)) j) ?_)));rintro _ n f w o ⟨p,rfl,l⟩ S;obtain ⟨rfl,q⟩:=l;refine ov S rfl (Zh S rfl rfl (Zxa e)) fun f S=>mw S rfl fun f S=>Zl (Zb (i _ _ (wp_ret ?_)));obtain rfl:=Ze H;refine ZA S (ZO rfl (ZG S rfl)) ⟨[.int .i64 k],rfl,(Zq (Z2 e).2)⟩
theorem Zbm {b:World} {a:Zc} (hv:VIn a b) {c:List Value} {x:Int} (e:Rep.rel (Za .u64) a c x) {z:Int} (hm:ZRd x=some z) :
  Ret Tryz.prog 147 #[(Za .u64).val c] b a (fun y v'=>∃ d,y=(Za .i64).val d∧(Za .i64).rel v' d z) :=
 lz64_w hv e (ZDp hm)
theorem div64_w {e:World} {c:Zc} (hv:VIn c e) {X:List Value} {hi:Int} (p0:Rep.rel (Za .u64) c X hi) {Y:List Value} {lo:Int} (p1:Rep.rel (Za .u64) c Y lo) {Z:List Value} {y:Int} (p2:Rep.rel (Za .u64) c Z y) {z:Int×Int} (H:ZVg hi lo y=some z):Ret Tryz.prog 123 #[(Za .u64).val X,(Za .u64).val Y,(Za .u64).val Z] e c (fun y v'=>∃ r0 M,y = .tuple #[(Za .u64).val r0,(Za .u64).val M]∧(Za .u64).rel v' r0 z.1∧(Za .u64).rel v' M z.2):=by
 obtain ⟨rfl,M⟩:=p0;obtain ⟨rfl,r2⟩:=p1;obtain ⟨rfl,r3⟩:=p2;refine ZW (K:=135) (args:=[.int .u64 hi,.int .u64 lo,.int .u64 y]) hv Tryz.func123 rfl rfl zl fun f S=>?_;unfold ZVg at H;refine sr (mw S rfl fun f S=>mw S rfl fun f S=>oe (Zf fun _ an=>sr (mv S rfl fun f S=>ov S rfl (Zh S rfl rfl Z9) fun f S=>oe ?_)));rcases Zw (y==(0:Int)) with q | q
 ·have H:=Zv H q;refine ZC S rfl q ?_
  cases H
 have H:=Zu H q;refine ZD S rfl q (wp_skip (Zb (an _ _ (Zf fun _ ao=>sr (mv S rfl fun f S=>mv S rfl fun f S=>ov S rfl (Zh S rfl rfl Z5d) fun f S=>oe ?_)))));rcases Zw (decide (y≤hi)) with r | r
 ·have H:=Zv H r;refine ZC S rfl r ?_
  cases H
 have H:=Zu H r;refine ZD S rfl r (wp_skip (Zb (ao _ _ (Zf fun _ ap=>sr (mv S rfl fun f S=>ov S rfl (Zh S rfl rfl Z9) fun f S=>oe ?_)))));rcases Zw (hi==(0:Int)) with s | s
 ·have H:=Zv H s;refine ZC S rfl s (Zf fun _ aq=>bO H fun ar aa H=>bO H fun au N H=>Zsa (fl:=#[true,true,true,true,true,true,false,false]) Zpa (by kernel_rfl) S ?_);intro ops O F w S;refine rfa O F 0 rfl rfl S (Zk S rfl) fun f S=>rfa O F 1 rfl rfl S (Zk S rfl) fun f S=>rfa O F 2 rfl rfl S (Zh S rfl rfl (Z3b aa)) fun f S=>rfa O F 3 rfl rfl S (Zk S rfl) fun f S=>rfa O F 4 rfl rfl S (Zk S rfl) fun f S=>rfa O F 5 rfl rfl S (Zh S rfl rfl (Zsb N)) fun f S=>go1 O F 6 (nva [0,1,2] [3,4,5] O rfl rfl S (Zha S rfl) fun f S=>⟨(py S rfl rfl (Zk S rfl) (py S rfl rfl (Zk S rfl) (py S rfl rfl (Zh S rfl rfl (Zsb N)) Zo))),go1 O F 7 (nva [0,1,2,3,4,5,6] [] O rfl rfl S (Zha S rfl) fun f S=>⟨Zo,Z4 O F (Zb (aq _ _ ?_))⟩)⟩);refine wp_ret (ZS ?_);obtain rfl:=Ze H;refine ZA S (ZIa rfl (ZG S rfl) (ZG S rfl)) ⟨[.int .u64 ar],[.int .u64 au],rfl,(Zq (Z1e aa)),(Zq (ZMe r2 N))⟩
 have H:=Zu H s;refine ZD S rfl s (wp_skip (Zb (ap _ _ (Zf fun _ av=>bO H fun h aw H=>Zm (mv S rfl fun f S=>opc S rfl (Zn S [.int .u64 y] Zhm rfl rfl) (Zbm S.vin (show Rep.rel (Za .u64) _ [.int .u64 y] y from (Zq r3)) aw) ?_)))));rintro _ ab f w bd ⟨be,rfl,ax⟩ S;obtain ⟨rfl,bf⟩:=ax;refine ov S rfl (Zua S rfl (ZVi _)) fun f S=>mw S rfl fun f S=>Zl (Zb (av _ _ (Zf fun _ ay=>bO H fun a az H=>Zm (mv S rfl fun f S=>mv S rfl fun f S=>ov S rfl (Zh S rfl rfl (ZGd az)) fun f S=>mw S rfl fun f S=>Zl (Zb (ay _ _ (Zf fun _ aA=>?_)))))));refine bO H fun g aB H=>Zm (mv S rfl fun f S=>ov S rfl (Zh S rfl rfl (ZVb aB)) fun f S=>mw S rfl fun f S=>Zl (Zb (aA _ _ (sr (mv S rfl fun f S=>ov S rfl (Zh S rfl rfl Zsf) fun f S=>mw S rfl fun f S=>oe (Zf fun _ aC=>bO H fun i aD H=>?_))))));refine bO H fun j aE H=>Zm (mv S rfl fun f S=>mv S rfl fun f S=>ov S rfl (Zh S rfl rfl (ZGd aD)) fun f S=>mv S rfl fun f S=>mv S rfl fun f S=>ov S rfl (Zh S rfl rfl ZCd) fun f S=>ov S rfl (Zh S rfl rfl (ZVb aE)) fun f S=>ov S rfl (Zh S rfl rfl ZQe) fun f S=>mw S rfl fun f S=>Zl ?_);have S:=S.fr' (σ':=[(1,.int .u64 lo),(2,.int .u64 a),(8,.int .u64 (IntKind.u64.wrap h)),(9,.int .u64 g),(10,.int .u64 (ZMa .u64 a (4294967295:Int))),(11,.int .u64 (orI .u64 i j))]) rfl
 refine Zb (aC _ _ (Zf fun _ aF=>bO H fun k aG H=>Zm (mv S rfl fun f S=>mv S rfl fun f S=>ov S rfl (Zh S rfl rfl (ZGd aG)) fun f S=>mw S rfl fun f S=>Zl (Zb (aF _ _ (Zf fun _ aH=>bO H fun l aI H=>Zm (mv S rfl fun f S=>?_)))))));refine ov S rfl (Zh S rfl rfl (ZVb aI)) fun f S=>mw S rfl fun f S=>Zl (Zb (aH _ _ (sr (mv S rfl fun f S=>ov S rfl (Zh S rfl rfl Zsf) fun f S=>mw S rfl fun f S=>oe (Zf fun _ aJ=>bO H fun bg ac H=>Zm (mv S rfl fun f S=>mv S rfl fun f S=>?_))))));refine ov S rfl (Zh S rfl rfl (Z3b ac)) fun f S=>mw S rfl fun f S=>Zl (Zb (aJ _ _ (sr (mv S rfl fun f S=>mv S rfl fun f S=>mv S rfl fun f S=>ov S rfl (Zh S rfl rfl Zcc) fun f S=>ov S rfl (Zh S rfl rfl ZCd) fun f S=>mw S rfl fun f S=>oe (Zf fun _ aK=>?_)))));obtain ⟨aL,aM,aN⟩:=Zx H;refine ZR (fun f w=>∃ d u,d=aL∧Zc.le ab u∧St 135 e c [(2,.int .u64 a),(8,.int .u64 (IntKind.u64.wrap h)),(9,.int .u64 g),(10,.int .u64 (ZMa .u64 a (4294967295:Int))),(11,.int .u64 (orI .u64 i j)),(13,.int .u64 l),(14,.int .u64 (ZMa .u64 k (4294967295:Int))),(15,.int .u64 d)] [] u f w∧inR .u64 d) (fun _ ad=>?_) ?_
 ·have H:=aM;refine wp_block ?_;obtain ⟨bh,aO,ae⟩:=Zx H;refine Zma aO (fun aP f w=>∃ m n G,(m,n)=aP∧Zc.le ab G∧St 135 e c [(2,.int .u64 a),(8,.int .u64 (IntKind.u64.wrap h)),(9,.int .u64 g),(10,.int .u64 (ZMa .u64 a (4294967295:Int))),(11,.int .u64 (orI .u64 i j)),(13,.int .u64 l),(14,.int .u64 (ZMa .u64 k (4294967295:Int))),(15,.int .u64 m),(16,.int .u64 n)] [] G f w∧inR .u64 m∧inR .u64 n) ⟨_,_,_,rfl,(leR _),(S.fr' rfl),(Z1e ac),(Zva _ _)⟩ ?_;rintro _ f w st ⟨m,n,G,hq,P,S,aQ,bi⟩ H bj aR af;subst hq;refine Zf fun _ aS=>Zf fun _ aT=>?_;obtain ⟨aU,aV,aW⟩:=Zx H;refine ZR (fun f w=>∃ I Q,I=aU∧Zc.le G Q∧St 135 e c [(2,.int .u64 a),(8,.int .u64 (IntKind.u64.wrap h)),(9,.int .u64 g),(10,.int .u64 (ZMa .u64 a (4294967295:Int))),(11,.int .u64 (orI .u64 i j)),(13,.int .u64 l),(14,.int .u64 (ZMa .u64 k (4294967295:Int))),(15,.int .u64 m),(16,.int .u64 n),(78,.bool I)] [] Q f w) (fun _ ag=>?_) ?_
  ·have H:=aV;rcases Zw (decide ((4294967296:Int)≤m)) with v | v
   ·have H:=Zv H v;refine Zm (mv S rfl fun f S=>ov S rfl (Zh S rfl rfl ZFb) fun f S=>?_);have S:=S.bool (t:=68) rfl v;refine mv S rfl fun f S=>opn S rfl rfl rfl rfl fun f S=>opn S rfl rfl rfl rfl fun f S=>opn S rfl rfl rfl rfl fun f S=>opn S rfl rfl rfl rfl fun f S=>opn S rfl rfl rfl rfl fun f S=>opn S rfl rfl rfl rfl fun f S=>opn S rfl rfl rfl rfl fun f S=>opn S rfl rfl rfl rfl fun f S=>ov S rfl (ZL S (b:=true) rfl rfl) fun f S=>Zl ?_;obtain rfl:=Ze H;refine Zb (ag _ _ ⟨_,_,rfl,(leR _),(S.fr' rfl)⟩)
   have H:=Zu H v;refine Zm (mv S rfl fun f S=>ov S rfl (Zh S rfl rfl ZFb) fun f S=>?_);have S:=S.bool (t:=68) rfl v;refine mv S rfl fun f S=>opy S rfl rfl rfl rfl (Zk S rfl) fun f S=>opy S rfl rfl rfl rfl (Zk S rfl) fun f S=>opy S rfl rfl rfl rfl (Zh S rfl rfl Zcc) fun f S=>opy S rfl rfl rfl rfl (Zk S rfl) fun f S=>opy S rfl rfl rfl rfl (Zh S rfl rfl Zcc) fun f S=>opy S rfl rfl rfl rfl (Zk S rfl) fun f S=>opy S rfl rfl rfl rfl (Zh S rfl rfl Z5b) fun f S=>opy S rfl rfl rfl rfl (Zh S rfl rfl ZKa) fun f S=>ov S rfl (ZL S (b:=false) rfl rfl) fun f S=>Zl ?_;obtain rfl:=Ze H;refine Zb (ag _ _ ⟨_,_,rfl,(leR _),(S.fr' rfl)⟩)
  rintro f w ⟨I,Q,hq,R,S⟩;subst hq;have H:=aW;refine Zb (aT _ _ ?_);rcases Zw (I) with x | x
  ·have H:=Zv H x;refine ZC S rfl x (wp_skip (Zb (aS _ _ (wp_block (sr (mv S rfl fun f S=>ov S rfl (Zh S rfl rfl ZCd) fun f S=>mw S rfl fun f S=>oe (sr (mv S rfl fun f S=>mv S rfl fun f S=>ov S rfl (Zh S rfl rfl Z5b) fun f S=>mw S rfl fun f S=>?_))))))));refine oe (sr (mv S rfl fun f S=>ov S rfl (Zh S rfl rfl ZFb) fun f S=>oe ?_));rcases Zw (decide ((4294967296:Int)≤IntKind.u64.wrap (n+g))) with A | A
   ·have H:=Zv H A;refine ZC S rfl A (wp_exit (Zzi rfl ?_));obtain rfl:=Ze H;have hq:=af _ rfl;subst hq;have H:=ae;refine ZP (Zfa ?_);obtain rfl:=Ze H;refine Zb (ad _ _ ⟨_,_,rfl,(leT (leT (leR _) P) R),(S.fr' rfl),(Zva _ _)⟩)
   have H:=Zu H A;refine ZD S rfl A (wp_skip (Zia ?_));obtain rfl:=Ze H;refine aR _ rfl _ _ ⟨_,_,_,rfl,(leT P R),(S.fr' rfl),(Zva _ _),(Zva _ _)⟩
  have H:=Zu H x;refine ZD S rfl x (wp_exit (ZP ?_));obtain rfl:=Ze H;have hq:=af _ rfl;subst hq;have H:=ae;refine ZP (Zfa ?_);obtain rfl:=Ze H;refine Zb (ad _ _ ⟨_,_,rfl,(leT (leT (leR _) P) R),(S.fr' rfl),aQ⟩)
 rintro f w ⟨d,u,hq,bk,S,bm⟩;subst hq;have H:=aN;refine Zb (aK _ _ (sr (mv S rfl fun f S=>ov S rfl (Zh S rfl rfl Zcc) fun f S=>mv S rfl fun f S=>ov S rfl (Zh S rfl rfl Z5b) fun f S=>mv S rfl fun f S=>mv S rfl fun f S=>ov S rfl (Zh S rfl rfl Zcc) fun f S=>ov S rfl (Zh S rfl rfl ZCd) fun f S=>mw S rfl fun f S=>oe (Zf fun _ aX=>bO H fun bn ah H=>?_))));refine Zm (mv S rfl fun f S=>mv S rfl fun f S=>ov S rfl (Zh S rfl rfl (Z3b ah)) fun f S=>mw S rfl fun f S=>Zl (Zb (aX _ _ (sr (mv S rfl fun f S=>mv S rfl fun f S=>mv S rfl fun f S=>ov S rfl (Zh S rfl rfl Zcc) fun f S=>ov S rfl (Zh S rfl rfl ZCd) fun f S=>mw S rfl fun f S=>?_)))));refine oe (Zf fun _ aY=>?_);obtain ⟨aZ,a0,a1⟩:=Zx H;refine ZR (fun f w=>∃ B T,B=aZ∧Zc.le u T∧St 135 e c [(2,.int .u64 a),(8,.int .u64 (IntKind.u64.wrap h)),(14,.int .u64 (ZMa .u64 k (4294967295:Int))),(15,.int .u64 d),(17,.int .u64 (IntKind.u64.wrap ((IntKind.u64.wrap ((IntKind.u64.wrap ((orI .u64 i j)*(4294967296:Int)))+l))-(IntKind.u64.wrap (d*a))))),(18,.int .u64 B)] [] T f w∧inR .u64 B) (fun _ ai=>?_) ?_
 ·have H:=a0;refine wp_block ?_;obtain ⟨bo,a2,aj⟩:=Zx H;refine Zma a2 (fun a3 f w=>∃ o p J,(o,p)=a3∧Zc.le u J∧St 135 e c [(2,.int .u64 a),(8,.int .u64 (IntKind.u64.wrap h)),(9,.int .u64 g),(10,.int .u64 (ZMa .u64 a (4294967295:Int))),(14,.int .u64 (ZMa .u64 k (4294967295:Int))),(15,.int .u64 d),(16,.int .u64 o),(17,.int .u64 (IntKind.u64.wrap ((IntKind.u64.wrap ((IntKind.u64.wrap ((orI .u64 i j)*(4294967296:Int)))+l))-(IntKind.u64.wrap (d*a))))),(18,.int .u64 p)] [] J f w∧inR .u64 o∧inR .u64 p) ⟨_,_,_,rfl,(leR _),(S.fr' rfl),(Zva _ _),(Z1e ah)⟩ ?_;rintro _ f w st ⟨o,p,J,hq,U,S,bp,a4⟩ H bq a5 ak;subst hq;refine Zf fun _ a6=>Zf fun _ a7=>?_;obtain ⟨a8,a9,ba⟩:=Zx H;refine ZR (fun f w=>∃ L V,L=a8∧Zc.le J V∧St 135 e c [(2,.int .u64 a),(8,.int .u64 (IntKind.u64.wrap h)),(9,.int .u64 g),(10,.int .u64 (ZMa .u64 a (4294967295:Int))),(14,.int .u64 (ZMa .u64 k (4294967295:Int))),(15,.int .u64 d),(16,.int .u64 o),(17,.int .u64 (IntKind.u64.wrap ((IntKind.u64.wrap ((IntKind.u64.wrap ((orI .u64 i j)*(4294967296:Int)))+l))-(IntKind.u64.wrap (d*a))))),(18,.int .u64 p),(113,.bool L)] [] V f w) (fun _ al=>?_) ?_
  ·have H:=a9;rcases Zw (decide ((4294967296:Int)≤p)) with C | C
   ·have H:=Zv H C;refine Zm (mv S rfl fun f S=>ov S rfl (Zh S rfl rfl ZFb) fun f S=>?_);have S:=S.bool (t:=103) rfl C;refine mv S rfl fun f S=>opn S rfl rfl rfl rfl fun f S=>opn S rfl rfl rfl rfl fun f S=>opn S rfl rfl rfl rfl fun f S=>opn S rfl rfl rfl rfl fun f S=>opn S rfl rfl rfl rfl fun f S=>opn S rfl rfl rfl rfl fun f S=>opn S rfl rfl rfl rfl fun f S=>opn S rfl rfl rfl rfl fun f S=>ov S rfl (ZL S (b:=true) rfl rfl) fun f S=>Zl ?_;obtain rfl:=Ze H;refine Zb (al _ _ ⟨_,_,rfl,(leR _),(S.fr' rfl)⟩)
   have H:=Zu H C;refine Zm (mv S rfl fun f S=>ov S rfl (Zh S rfl rfl ZFb) fun f S=>?_);have S:=S.bool (t:=103) rfl C;refine mv S rfl fun f S=>opy S rfl rfl rfl rfl (Zk S rfl) fun f S=>opy S rfl rfl rfl rfl (Zk S rfl) fun f S=>opy S rfl rfl rfl rfl (Zh S rfl rfl Zcc) fun f S=>opy S rfl rfl rfl rfl (Zk S rfl) fun f S=>opy S rfl rfl rfl rfl (Zh S rfl rfl Zcc) fun f S=>opy S rfl rfl rfl rfl (Zk S rfl) fun f S=>opy S rfl rfl rfl rfl (Zh S rfl rfl Z5b) fun f S=>opy S rfl rfl rfl rfl (Zh S rfl rfl ZKa) fun f S=>ov S rfl (ZL S (b:=false) rfl rfl) fun f S=>Zl ?_;obtain rfl:=Ze H;refine Zb (al _ _ ⟨_,_,rfl,(leR _),(S.fr' rfl)⟩)
  rintro f w ⟨L,V,hq,W,S⟩;subst hq;have H:=ba;refine Zb (a7 _ _ ?_);rcases Zw (L) with D | D
  ·have H:=Zv H D;refine ZC S rfl D (wp_skip (Zb (a6 _ _ (wp_block (sr (mv S rfl fun f S=>ov S rfl (Zh S rfl rfl ZCd) fun f S=>mw S rfl fun f S=>oe (sr (mv S rfl fun f S=>mv S rfl fun f S=>ov S rfl (Zh S rfl rfl Z5b) fun f S=>mw S rfl fun f S=>?_))))))));refine oe (sr (mv S rfl fun f S=>ov S rfl (Zh S rfl rfl ZFb) fun f S=>oe ?_));rcases Zw (decide ((4294967296:Int)≤IntKind.u64.wrap (o+g))) with E | E
   ·have H:=Zv H E;refine ZC S rfl E (wp_exit (Zzi rfl ?_));obtain rfl:=Ze H;have hq:=ak _ rfl;subst hq;have H:=aj;refine ZP (Zfa ?_);obtain rfl:=Ze H;refine Zb (ai _ _ ⟨_,_,rfl,(leT (leT (leR _) U) W),(S.fr' rfl),(Zva _ _)⟩)
   have H:=Zu H E;refine ZD S rfl E (wp_skip (Zia ?_));obtain rfl:=Ze H;refine a5 _ rfl _ _ ⟨_,_,_,rfl,(leT U W),(S.fr' rfl),(Zva _ _),(Zva _ _)⟩
  have H:=Zu H D;refine ZD S rfl D (wp_exit (ZP ?_));obtain rfl:=Ze H;have hq:=ak _ rfl;subst hq;have H:=aj;refine ZP (Zfa ?_);obtain rfl:=Ze H;refine Zb (ai _ _ ⟨_,_,rfl,(leT (leT (leR _) U) W),(S.fr' rfl),a4⟩)
 rintro f w ⟨B,T,hq,br,S,bs⟩;subst hq;have H:=a1;refine Zb (aY _ _ (Zf fun _ bb=>bO H fun bc am H=>Zm (mv S rfl fun f S=>ov S rfl (Zh S rfl rfl Zcc) fun f S=>mv S rfl fun f S=>ov S rfl (Zh S rfl rfl Z5b) fun f S=>mv S rfl fun f S=>ov S rfl (Zh S rfl rfl Zcc) fun f S=>mv S rfl fun f S=>ov S rfl (Zh S rfl rfl Z5b) fun f S=>mv S rfl fun f S=>mv S rfl fun f S=>?_)));refine ov S rfl (Zh S rfl rfl Zcc) fun f S=>ov S rfl (Zh S rfl rfl ZCd) fun f S=>mv S rfl fun f S=>ov S rfl (Zh S rfl rfl (ZVb am)) fun f S=>mw S rfl fun f S=>mw S rfl fun f S=>Zl (Zb (bb _ _ (wp_ret ?_)));obtain rfl:=Ze H;refine ZA S (ZIa rfl (ZG S rfl) (ZG S rfl)) ⟨[.int .u64 (IntKind.u64.wrap ((IntKind.u64.wrap (d*(4294967296:Int)))+B))],[.int .u64 bc],rfl,(Zq (Zva _ _)),(Zq (ZLd (Zva _ _) am))⟩
theorem ZPk {b:World} {a:Zc} (hv:VIn a b) {c:List Value} {hi:Int} (h:Rep.rel (Za .u64) a c hi) {d:List Value} {lo:Int} (i:Rep.rel (Za .u64) a d lo) {e:List Value} {y:Int} (j:Rep.rel (Za .u64) a e y) {z:Int×Int} (hm:Zvd hi lo y=some z) :
  Ret Tryz.prog 123 #[(Za .u64).val c,(Za .u64).val d,(Za .u64).val e] b a (fun y v'=>∃ f g,y=Value.tuple #[(Za .u64).val f,(Za .u64).val g]∧(Za .u64).rel v' f z.1∧(Za .u64).rel v' g z.2) :=
 div64_w hv h i j (ZPm hm)
theorem ZKn {E:World} {d:Zc} (hv:VIn d E) {R:List Value} {a:Nat} (g:Rep.rel Zy d R a) {T:List Value} {n:Int} (p1:Rep.rel (Za .u64) d T n) {z:Nat×Int} (H:Zsg a n=some z):Ret Tryz.prog 84 #[Zy.val R,(Za .u64).val T] E d (fun y v'=>∃ U V,y = .tuple #[Zy.val U,(Za .u64).val V]∧Zy.rel v' U z.1∧(Za .u64).rel v' V z.2):=by
 obtain ⟨W,X,Y,rfl⟩:=Z1 g;obtain ⟨rfl,r4⟩:=p1;refine ZW (K:=35) (args:=[.slice W X Y,.int .u64 n]) hv Tryz.func84 rfl rfl zl fun f S=>?_;unfold Zsg at H;refine sr (mw S rfl fun f S=>mw S rfl fun f S=>oe (Zf fun _ ah=>bO H fun y9 F H=>Zm (mv S rfl fun f S=>ov S rfl (Zz S (Zt g) rfl rfl ZU) fun f S=>?_)));obtain ⟨Z,aa⟩:∃ c:List Value,c=(List.replicate ((((Zj 18446744073709551616 a)).length:Int)).toNat [.int .u64 0]).flatten:=⟨_,rfl⟩;obtain ⟨ai,w,aj,S⟩:=Zeb ZFc S (l:=(((Zj 18446744073709551616 a)).length:Int)) (c:=(((Zj 18446744073709551616 a)).length:Int)) (ZT F).1 (ZT F).2.1 (ZT F).2.2.1 (ZT F).2.2.2 aa;have ak:Rep.rels (Za .u64) d Z (List.replicate ((((Zj 18446744073709551616 a)).length:Int)).toNat (0:Int)):=by rw [aa];exact Zbb (show Rep.rel (Za .u64) _ [.int .u64 0] _ from (Zq (by decide))) _
 refine Zza wn rfl zl (aj rfl rfl) S fun f S=>mw S rfl fun f S=>Zl (Zb (ah _ _ (sr (mw S rfl fun f S=>oe (Zf fun _ al=>Zf fun _ am=>bO H fun aV ab H=>Zm (mv S rfl fun f S=>ov S rfl (Zz S (Zt g) rfl rfl ZU) fun f S=>ov S rfl (Zh S rfl rfl (Zxa ab)) fun f S=>?_))))));refine mw S rfl fun f S=>Zl (Zb (am _ _ ?_));obtain ⟨an,ao,ap⟩:=Zx H;refine ZR (fun f w=>∃ o s t p u L G,(o,s)=an∧Zc.le d G∧St 35 E d [(6,.slice (mkA t) p u),(7,.int .u64 s)] [Loc.own t 148 1 p u L] G f w∧Rep.rels (Za .u64) G L o∧p=o.length∧inR .u64 s) (fun _ aq=>?_) ?_
 ·have H:=ao;refine wp_block ?_;obtain ⟨aW,ar,au⟩:=Zx H;refine Zma ar (fun av f w=>∃ q h b I k v e J,(q,h,b)=av∧Zc.le d J∧St 35 E d [(0,.slice W X Y),(1,.int .u64 n),(6,.slice (mkA I) k v),(7,.int .u64 h),(8,.int .i64 b)] [Loc.own I 148 1 k v e] J f w∧Rep.rels (Za .u64) J e q∧k=q.length∧inR .u64 h∧inR .i64 b) ⟨_,_,_,some ai,((((Zj 18446744073709551616 a)).length:Int)).toNat,((((Zj 18446744073709551616 a)).length:Int)).toNat,Z,_,rfl,(leR _),(S.fr' rfl),ak,(ZYa (x:=(0:Int))),(by decide),(Z2 ab).2⟩ ?_;rintro _ f w st ⟨q,h,b,I,k,v,e,J,hq,M,S,B,C,ac,aX⟩ H aY aw ax;subst hq;refine Zf fun _ ay=>sr (mv S rfl fun f S=>ov S rfl (Zh S rfl rfl ZFb) fun f S=>oe ?_);rcases Zw (decide ((0:Int)≤b)) with D | D
  ·have H:=Zv H D;refine ZC S rfl D (wp_skip (Zb (ay _ _ (Zf fun _ az=>wp_block (bO H fun N O H=>bO H fun m aA H=>bO H fun aZ r H=>Zm (mv S rfl fun f S=>mv S rfl fun f S=>mv S rfl fun f S=>mv S rfl fun f S=>mv S rfl fun f S=>?_))))));have g:=Zp M g;obtain ⟨_,a0,a1,a2,rfl,P,aB⟩:=Zca g (Zi O).2.1;obtain ⟨rfl,aC⟩:=aB;refine ov S rfl (ZJ S rfl rfl ZU (Zi O).1 (ltI (Zt g) (Zi O).2.2.1)) fun f S=>ov S rfl (ZN S rfl Zwa (S.view P)) fun f S=>mv S rfl fun f S=>opc S rfl (Zn S [.int .u64 h,.int .u64 N,.int .u64 n] ZWk rfl rfl) (ZPk S.vin (show Rep.rel (Za .u64) _ [.int .u64 h] h from (Zq ac)) (show Rep.rel (Za .u64) _ [.int .u64 N] N from (Zq aC)) (show Rep.rel (Za .u64) _ [.int .u64 n] n from (Zq r4)) aA) ?_;rintro _ ad f w Q ⟨a3,a4,rfl,aD,aE⟩ S;have B:=ZH Q B;have P:=Atm Q P;obtain ⟨rfl,aF⟩:=aD;obtain ⟨rfl,aG⟩:=aE;refine mv S rfl fun f S=>ov S rfl (ZK S rfl rfl) fun f S=>ov S rfl (ZK S rfl rfl) fun f S=>?_;obtain ⟨aH,rfl⟩:=Zpb S (j:=0) rfl (Zzb C (Zi r).2.2.2);have ae:=Zoa B (Zi r).2.1;obtain ⟨a5,aI⟩:∃ c,(List.take (Za .u64).n (List.drop ((b).toNat*(Za .u64).n) e))=c:=⟨_,rfl⟩
   rw [aI] at ae;obtain ⟨rfl,a6⟩:=ae;refine ov S rfl (ZJ S rfl rfl ZU (Zi r).1 (ltI C (Zi r).2.2.1)) fun f S=>?_;obtain ⟨w,aJ,S⟩:=ZHb S Zwa (off:=0+(b).toNat*1) (z:=.int .u64 (m.1)) (cs:=[.int .u64 (m.1)]) (Zhb rfl) rfl (i:=0) rfl (ZKb S (j:=0) rfl (ltN C (Zi r).2.2.2)) (by first | rfl | simp [ZEa]);have aK:Rep.rels (Za .u64) ad (List.take (0+(b).toNat*1) e++[Value.int IntKind.u64 (m.1)]++List.drop (0+(b).toNat*1+1) e) (q.set (b).toNat m.1):=Zqb B (Zi r).2.2.2 (show Rep.rel (Za .u64) ad [.int .u64 (m.1)] _ from (Zq aF)) rfl rfl;have aL:k=(q.set (b).toNat m.1).length:=Zrb C;refine ZY wn rfl (aJ rfl rfl) (mw S rfl fun f S=>Zl (Zia (Zb (az _ _ (bO H fun a7 af H=>Zm (mv S rfl fun f S=>ov S rfl (Zh S rfl rfl (Zxa af)) fun f S=>mw S rfl fun f S=>Zl ?_))))));obtain rfl:=Ze H;refine aw _ rfl _ _ ⟨_,_,_,some aH,k,v,(List.take (0+(b).toNat*1) e++[Value.int IntKind.u64 (m.1)]++List.drop (0+(b).toNat*1+1) e),_,rfl,(leT M Q),(S.fr' rfl),aK,aL,aG,(Z2 af).2⟩
  have H:=Zu H D;refine ZD S rfl D (wp_exit (ZP ?_));obtain rfl:=Ze H;have hq:=ax _ rfl;subst hq;have H:=au;refine ZP (Zfa ?_);obtain rfl:=Ze H;refine Zb (aq _ _ ⟨_,_,I,k,v,e,_,rfl,(leT (leR _) M),(S.fr' rfl),B,C,ac⟩)
 rintro f w ⟨o,s,t,p,u,L,G,hq,a8,S,aM,aN,aO⟩;subst hq;have H:=ap;refine Zb (al _ _ (Zf fun _ aP=>bO H fun a9 aQ H=>Zm (mv S rfl fun f S=>?_)));obtain ⟨ba,bb,S,aR⟩:=S.pubSlice (i:=0) (A:=(Za .u64)) (l:=o) (ℓ':=[]) rfl rfl aN aM rfl;refine opc S rfl (Zn S [.slice (mkA t) p u] Zud rfl rfl) (Zxd S.vin (show Rep.rel (Zs (Za .u64)) _ [.slice (mkA t) p u] o from aR) aQ) ?_;rintro _ bc f w bd ⟨be,rfl,ag⟩ S;obtain ⟨aS,aT,aU,rfl⟩:=Z1 ag;refine mv S rfl fun f S=>mw S rfl fun f S=>mw S rfl fun f S=>Zl (Zb (aP _ _ (wp_ret ?_)));obtain rfl:=Ze H;refine ZA S (ZIa rfl (ZG S rfl) (ZG S rfl)) ⟨[.slice aS aT aU],[.int .u64 s],rfl,ag,(Zq aO)⟩
theorem Zsk {c:World} {b:Zc} (hv:VIn b c) {d:List Value} {a:Nat} (i:Rep.rel Zy b d a) {e:List Value} {n:Int} (f:Rep.rel (Za .u64) b e n) {z:Nat×Int} (hm:ZId a n=some z) :
  Ret Tryz.prog 84 #[Zy.val d,(Za .u64).val e] c b (fun y v'=>∃ g h,y=Value.tuple #[Zy.val g,(Za .u64).val h]∧Zy.rel v' g z.1∧(Za .u64).rel v' h z.2) :=
 ZKn hv i f (Z4o f.2 hm)
theorem mul64_w {e:World} {a:Zc} (hv:VIn a e) {g:List Value} {x:Int} (l:Rep.rel (Za .u64) a g x) {h:List Value} {y:Int} (m:Rep.rel (Za .u64) a h y) {z:Int×Int} (H:ZOf x y=some z):Ret Tryz.prog 117 #[(Za .u64).val g,(Za .u64).val h] e a (fun y v'=>∃ i c,y = .tuple #[(Za .u64).val i,(Za .u64).val c]∧(Za .u64).rel v' i z.1∧(Za .u64).rel v' c z.2):=by
 obtain ⟨rfl,c⟩:=l;obtain ⟨rfl,B⟩:=m;refine ZW (K:=51) (args:=[.int .u64 x,.int .u64 y]) hv Tryz.func117 rfl rfl zl fun f S=>?_;unfold ZOf at H;refine sr (mw S rfl fun f S=>mw S rfl fun f S=>oe (sr (mv S rfl fun f S=>ov S rfl (Zh S rfl rfl Zsf) fun f S=>mw S rfl fun f S=>oe (Zf fun _ n=>bO H fun b o H=>Zm (mv S rfl fun f S=>ov S rfl (Zh S rfl rfl (ZVb o)) fun f S=>?_)))));refine mw S rfl fun f S=>Zl (Zb (n _ _ (sr (mv S rfl fun f S=>ov S rfl (Zh S rfl rfl Zsf) fun f S=>mw S rfl fun f S=>oe (Zf fun _ p=>bO H fun d q H=>Zm (mv S rfl fun f S=>ov S rfl (Zh S rfl rfl (ZVb q)) fun f S=>mw S rfl fun f S=>?_))))));refine Zl (Zb (p _ _ (sr (mv S rfl fun f S=>mv S rfl fun f S=>ov S rfl (Zh S rfl rfl Zcc) fun f S=>mw S rfl fun f S=>oe (Zf fun _ r=>bO H fun s t H=>Zm (mv S rfl fun f S=>mv S rfl fun f S=>ov S rfl (Zh S rfl rfl Zcc) fun f S=>?_))))));refine mv S rfl fun f S=>ov S rfl (Zh S rfl rfl (ZVb t)) fun f S=>ov S rfl (Zh S rfl rfl Z5b) fun f S=>mw S rfl fun f S=>Zl ?_;have S:=S.fr' (σ':=[(0,.int .u64 x),(1,.int .u64 y),(6,.int .u64 (ZMa .u64 x (4294967295:Int))),(7,.int .u64 b),(9,.int .u64 d),(11,.int .u64 (IntKind.u64.wrap ((IntKind.u64.wrap (b*(ZMa .u64 y (4294967295:Int))))+s)))]) rfl;refine Zb (r _ _ (sr (mv S rfl fun f S=>ov S rfl (Zh S rfl rfl Zsf) fun f S=>mw S rfl fun f S=>oe (Zf fun _ u=>bO H fun j v H=>Zm (mv S rfl fun f S=>ov S rfl (Zh S rfl rfl (ZVb v)) fun f S=>mw S rfl fun f S=>Zl (Zb (u _ _ ?_)))))))
 refine sr (mv S rfl fun f S=>mv S rfl fun f S=>mv S rfl fun f S=>ov S rfl (Zh S rfl rfl Zcc) fun f S=>ov S rfl (Zh S rfl rfl Z5b) fun f S=>mw S rfl fun f S=>oe (Zf fun _ w=>bO H fun k A H=>Zm (mv S rfl fun f S=>mv S rfl fun f S=>ov S rfl (Zh S rfl rfl Zcc) fun f S=>?_)));refine mv S rfl fun f S=>ov S rfl (Zh S rfl rfl Z5b) fun f S=>mv S rfl fun f S=>ov S rfl (Zh S rfl rfl (ZVb A)) fun f S=>ov S rfl (Zh S rfl rfl Z5b) fun f S=>mw S rfl fun f S=>Zl (Zb (w _ _ (sr (mv S rfl fun f S=>mv S rfl fun f S=>ov S rfl (Zh S rfl rfl Zcc) fun f S=>mw S rfl fun f S=>?_))));have S:=S.fr' (σ':=[(4,.int .u64 (IntKind.u64.wrap ((IntKind.u64.wrap ((IntKind.u64.wrap (b*d))+j))+k))),(5,.int .u64 (IntKind.u64.wrap (x*y)))]) rfl;refine oe (wp_ret ?_);obtain rfl:=Ze H;refine ZA S (ZIa rfl (ZG S rfl) (ZG S rfl)) ⟨[.int .u64 (IntKind.u64.wrap ((IntKind.u64.wrap ((IntKind.u64.wrap (b*d))+j))+k))],[.int .u64 (IntKind.u64.wrap (x*y))],rfl,(Zq (Zva _ _)),(Zq (Zva _ _))⟩
theorem Z3j {b:World} {a:Zc} (hv:VIn a b) {c:List Value} {x:Int} (g:Rep.rel (Za .u64) a c x) {d:List Value} {y:Int} (h:Rep.rel (Za .u64) a d y) {z:Int×Int} (hm:Zqd x y=some z) :
  Ret Tryz.prog 117 #[(Za .u64).val c,(Za .u64).val d] b a (fun y v'=>∃ e f,y=Value.tuple #[(Za .u64).val e,(Za .u64).val f]∧(Za .u64).rel v' e z.1∧(Za .u64).rel v' f z.2) :=
 mul64_w hv g h (Zro hm)
theorem take_w {R:World} {o:Zc} (hv:VIn o R) {a off0 g C:Nat} {E:TypeId} {pre0 cs0 post0:List Value} {u:(List Int)} (bf:R.heap[a]? = some (.cells (pre0++cs0++post0).toArray E (0,0))) (aG:off0=pre0.length) (bg:o a=none) (au:g=u.length) (bh:g≤C∧C≤maxLen) (r:Rep.rels (Za .u64) o cs0 u) {c1:List Value} {v:Nat} (D:Rep.rel Zy o c1 v) {c2:List Value} {q:Int} (p2:Rep.rel (Za .u64) o c2 q) {z:Bool×(List Int)} (H:Z5f u v q=some z):RetL Tryz.prog 165 #[.slice (some ⟨a,off0,none⟩) g C,Zy.val c1,(Za .u64).val c2] R o [a] (fun y v' w'=>(∃ r0,y=Zga.val r0∧Zga.rel v' r0 z.1)∧v' a=none∧∃ cs,w'.heap[a]? = some (.cells (pre0++cs++post0).toArray E (0,0))∧g=z.2.length∧Rep.rels (Za .u64) v' cs z.2):=by
 obtain ⟨q1,V,W,rfl⟩:=Z1 D;obtain ⟨rfl,r4⟩:=p2;refine Zkm (K:=79) (args:=[.slice (some ⟨a,off0,none⟩) (g) C,.slice q1 V W,.int .u64 q]) hv bf bg Tryz.func165 rfl rfl zl fun f S=>?_;unfold Z5f at H;refine sr (mw S rfl fun f S=>oe (Zf fun _ bi=>bO H fun J bj H=>bO H fun cB av H=>Zm (mv S rfl fun f S=>ov S rfl (Zz S (Zt D) rfl rfl ZU) fun f S=>ov S rfl (Zh S rfl rfl (Z6 bj)) fun f S=>?_)));obtain ⟨aH,aQ⟩:∃ c:List Value,c=(List.replicate (J).toNat [.int .u64 0]).flatten:=⟨_,rfl⟩;obtain ⟨aR,w,bk,S⟩:=Zeb ZFc S (l:=J) (c:=J) (ZT av).1 (ZT av).2.1 (ZT av).2.2.1 (ZT av).2.2.2 aQ;have bm:Rep.rels (Za .u64) o aH (List.replicate (J).toNat (0:Int)):=by rw [aQ];exact Zbb (show Rep.rel (Za .u64) _ [.int .u64 0] _ from (Zq (by decide))) _
 refine Zza wn rfl zl (bk rfl rfl) S fun f S=>mw S rfl fun f S=>Zl (Zb (bi _ _ (sr (mw S rfl fun f S=>oe (Zf fun _ bn=>sr (mv S rfl fun f S=>ov S rfl (Zz S (Zt D) rfl rfl ZU) fun f S=>mv S rfl fun f S=>oe ?_))))));obtain ⟨bo,bp,bq⟩:=Zx H;refine ZR (fun f w=>∃ L b aI s G h X,(L,b)=bo∧Zc.le o X∧St 79 ⟨R,[a]⟩ o [(0,.slice (some ⟨a,off0,none⟩) (g) C),(1,.slice q1 V W),(7,.slice (mkA aI) s G),(8,.int .u64 b)] [Loc.box a E (pre0++cs0++post0),Loc.own aI 148 1 s G h] X f w∧Rep.rels (Za .u64) X h L∧s=L.length∧inR .u64 b) (fun _ br=>?_) ?_
 ·have H:=bp;refine wp_block ?_;obtain ⟨cC,bs,bt⟩:=Zx H;have S:=S.reorder (ℓ':=[Loc.box a E (pre0++cs0++post0),Loc.own (some aR) 148 1 ((J).toNat) (J).toNat aH]) [1,0] rfl (by decide);refine Zma bs (fun bu f w=>∃ Y ag m aw M Z I ax,(Y,ag,m)=bu∧Zc.le o ax∧St 79 ⟨R,[a]⟩ o [(0,.slice (some ⟨a,off0,none⟩) (g) C),(1,.slice q1 V W),(2,.int .u64 q),(7,.slice (mkA aw) M Z),(8,.int .u64 ag),(20,.slice q1 V W),(21,.int .i64 ((((Zj 18446744073709551616 v)).length:Int))),(22,.int .i64 m)] [Loc.box a E (pre0++cs0++post0),Loc.own aw 148 1 M Z I] ax f w∧Rep.rels (Za .u64) ax I Y∧M=Y.length∧inR .u64 ag∧inR .i64 m) ⟨_,_,_,some aR,(J).toNat,(J).toNat,aH,_,rfl,(leR _),(S.fr' rfl),bm,(ZYa (x:=(0:Int))),(by decide),(by decide)⟩ ?_;rintro _ f w st ⟨Y,ag,m,aw,M,Z,I,ax,hq,ay,S,ah,ai,bv,cD⟩ H cE bw bx;subst hq;have r:=ZH ay r;refine sr (ov S rfl (Zh S rfl rfl Z8) fun f S=>oe (Zf fun _ bz=>?_));rcases Zw (decide (m<(((Zj 18446744073709551616 v)).length:Int))) with aj | aj
  ·have H:=Zv H aj;refine ZC S rfl aj (wp_skip (Zb (bz _ _ (Zf fun _ bA=>wp_block (Zf fun _ bB=>bO H fun aJ aK H=>Zm (mv S rfl fun f S=>?_))))));have D:=Zp ay D;obtain ⟨_,aS,aT,cF,rfl,bC,bD⟩:=Zca D (Zi aK).2.1;obtain ⟨rfl,bE⟩:=bD;refine ov S rfl (ZJ S rfl rfl ZU (Zi aK).1 (ltI (Zt D) (Zi aK).2.2.1)) fun f S=>ov S rfl (ZN S rfl Zwa (S.view bC)) fun f S=>mw S rfl fun f S=>mw S rfl fun f S=>Zl (Zb (bB _ _ (Zf fun _ bF=>bO H fun aU bG H=>Zm (mv S rfl fun f S=>mv S rfl fun f S=>opc S rfl (Zn S [.int .u64 aJ,.int .u64 q] ZOj rfl rfl) (Z3j S.vin (show Rep.rel (Za .u64) _ [.int .u64 aJ] aJ from (Zq bE)) (show Rep.rel (Za .u64) _ [.int .u64 q] q from (Zq r4)) bG) ?_))));rintro _ aV f w aL ⟨cG,cH,rfl,bH,bI⟩ S;have r:=ZH aL r;have ah:=ZH aL ah;obtain ⟨rfl,cI⟩:=bH;obtain ⟨rfl,cJ⟩:=bI;refine mv S rfl fun f S=>ov S rfl (ZK S rfl rfl) fun f S=>ov S rfl (ZK S rfl rfl) fun f S=>mw S rfl fun f S=>mw S rfl fun f S=>Zl (Zb (bF _ _ (sr (mw S rfl fun f S=>oe (Zf fun _ bJ=>bO H fun N aW H=>bO H fun cK aa H=>Zm ?_)))));refine mv S rfl fun f S=>mv S rfl fun f S=>mv S rfl fun f S=>mv S rfl fun f S=>ov S rfl (ZKe S [.int .u64 (aU.2),.int .u64 ag,.int .u64 0] (ZUg Zkg aW) rfl rfl) fun f S=>mv S rfl fun f S=>ov S rfl (ZK S rfl rfl) fun f S=>ov S rfl (ZK S rfl rfl) fun f S=>?_
   obtain ⟨aX,rfl⟩:=Zpb S (j:=1) rfl (Zzb ai (Zi aa).2.2.2);have aY:=Zoa ah (Zi aa).2.1;obtain ⟨cL,bK⟩:∃ c,(List.take (Za .u64).n (List.drop ((m).toNat*(Za .u64).n) I))=c:=⟨_,rfl⟩;rw [bK] at aY;obtain ⟨rfl,cM⟩:=aY;refine ov S rfl (ZJ S rfl rfl ZU (Zi aa).1 (ltI ai (Zi aa).2.2.1)) fun f S=>?_;obtain ⟨w,bL,S⟩:=ZHb S Zwa (off:=0+(m).toNat*1) (z:=.int .u64 (N.1)) (cs:=[.int .u64 (N.1)]) (Zhb rfl) rfl (i:=1) rfl (ZKb S (j:=1) rfl (ltN ai (Zi aa).2.2.2)) (by first | rfl | simp [ZEa]);have bM:Rep.rels (Za .u64) aV (List.take (0+(m).toNat*1) I++[Value.int IntKind.u64 (N.1)]++List.drop (0+(m).toNat*1+1) I) (Y.set (m).toNat N.1):=Zqb ah (Zi aa).2.2.2 (show Rep.rel (Za .u64) aV [.int .u64 (N.1)] _ from (Zq (Zhi aW))) rfl rfl;have bN:M=(Y.set (m).toNat N.1).length:=Zrb ai;refine ZY wn rfl (bL rfl rfl) (mw S rfl fun f S=>Zl ?_);have S:=S.fr' (σ':=[(0,.slice (some ⟨a,off0,none⟩) (g) C),(1,.slice (some ⟨aS,aT,none⟩) V W),(2,.int .u64 q),(7,.slice (mkA (some aX)) (M) Z),(11,.int .u64 (aU.1)),(13,.int .u64 (N.2)),(20,.slice (some ⟨aS,aT,none⟩) V W),(21,.int .i64 ((((Zj 18446744073709551616 v)).length:Int))),(22,.int .i64 m)]) rfl
   refine Zb (bJ _ _ (Zm (mv S rfl fun f S=>mv S rfl fun f S=>ov S rfl (Zh S rfl rfl Z5b) fun f S=>mw S rfl fun f S=>Zl (Zia (Zb (bA _ _ (bO H fun cN aZ H=>Zm (ov S rfl (Zh S rfl rfl (Z6 aZ)) fun f S=>mv S rfl fun f S=>Zl ?_))))))));obtain rfl:=Ze H;refine bw _ rfl _ _ ⟨_,_,_,some aX,M,Z,(List.take (0+(m).toNat*1) I++[Value.int IntKind.u64 (N.1)]++List.drop (0+(m).toNat*1+1) I),_,rfl,(leT ay aL),(S.fr' rfl),bM,bN,(Zva _ _),(Z2 aZ).2⟩
  have H:=Zu H aj;refine ZD S rfl aj (wp_exit (ZP ?_));obtain rfl:=Ze H;have hq:=bx _ rfl;subst hq;have H:=bt;refine ZP (Zfa ?_);obtain rfl:=Ze H;refine Zb (br _ _ ⟨_,_,aw,M,Z,I,_,rfl,(leT (leR _) ay),(S.fr' rfl),ah,ai,bv⟩)
 rintro f w ⟨L,b,aI,s,G,h,X,hq,a0,S,a1,az,bP⟩;subst hq;have H:=bq;have r:=ZH a0 r;refine Zb (bn _ _ (Zf fun _ bQ=>bO H fun cO ab H=>Zm (mv S rfl fun f S=>mv S rfl fun f S=>?_)));have D:=Zp a0 D;refine ov S rfl (Zz S (Zt D) rfl rfl ZU) fun f S=>mv S rfl fun f S=>?_;obtain ⟨ac,rfl⟩:=Zpb S (j:=1) rfl (Zzb az (Zi ab).2.2.2);have a2:=Zoa a1 (Zi ab).2.1;obtain ⟨cP,bR⟩:∃ c,(List.take (Za .u64).n (List.drop (((((Zj 18446744073709551616 v)).length:Int)).toNat*(Za .u64).n) h))=c:=⟨_,rfl⟩;rw [bR] at a2;obtain ⟨rfl,cQ⟩:=a2;refine ov S rfl (ZJ S rfl rfl ZU (Zi ab).1 (ltI az (Zi ab).2.2.1)) fun f S=>?_;obtain ⟨w,bS,S⟩:=ZHb S Zwa (off:=0+((((Zj 18446744073709551616 v)).length:Int)).toNat*1) (z:=.int .u64 b) (cs:=[.int .u64 b]) (Zhb rfl) rfl (i:=1) rfl (ZKb S (j:=1) rfl (ltN az (Zi ab).2.2.2)) (by first | rfl | simp [ZEa]);have p:Rep.rels (Za .u64) X (List.take (0+((((Zj 18446744073709551616 v)).length:Int)).toNat*1) h++[Value.int IntKind.u64 (b)]++List.drop (0+((((Zj 18446744073709551616 v)).length:Int)).toNat*1+1) h) (L.set ((((Zj 18446744073709551616 v)).length:Int)).toNat b):=Zqb a1 (Zi ab).2.2.2 (show Rep.rel (Za .u64) X [.int .u64 b] _ from (Zq bP)) rfl rfl
 have aM:s=(L.set ((((Zj 18446744073709551616 v)).length:Int)).toNat b).length:=Zrb az;refine ZY wn rfl (bS rfl rfl) (Zl (Zb (bQ _ _ (Zf fun _ bT=>Zf fun _ bU=>bO H fun cR bV H=>bO H fun cS bW H=>bO H fun bX bY H=>Zm (mv S rfl fun f S=>?_)))));have p0s120:=r;have h69s120:=p;have bZ:=S.vst.le;obtain ⟨cT,cU,a3,t,S,b1,b2,b3,T⟩:=S.lendSeg (i:=0) (A:=(Za .u64)) (l:=u) (ℓ':=[Loc.own (some ac) 148 1 s G ((List.take (0+((((Zj 18446744073709551616 v)).length:Int)).toNat*1) h++[Value.int IntKind.u64 (b)]++List.drop (0+((((Zj 18446744073709551616 v)).length:Int)).toNat*1+1) h))]) rfl rfl aG r au bh;have p:=ZH a3 p;refine opc S rfl (Zn S [.slice (some ⟨a,off0,none⟩) (g) C] Zud rfl rfl) (Zxd S.vin (show Rep.rel (Zs (Za .u64)) _ [.slice (some ⟨a,off0,none⟩) (g) C] u from T) bV) ?_;rintro _ cV f w aA ⟨cW,rfl,P⟩ S;have p:=ZH aA p;have t:=aA _ _ t;obtain ⟨b4,b5,b6,rfl⟩:=Z1 P;refine mv S rfl fun f S=>?_;have T:=Zp aA T;have h128s137:=T;have h69s137:=p;have h133s137:=P;have h124s137:=t;have b7:=S.vst.le;obtain ⟨cX,cY,aB,ak,S,b8,b9,ca,cb⟩:=S.lendSlice (i:=0) (A:=(Za .u64)) (l:=(L.set ((((Zj 18446744073709551616 v)).length:Int)).toNat b)) (ℓ':=[]) rfl rfl rfl p aM
 have t:=aB _ _ t;refine opc S rfl (Zn S [.slice (mkA (some ac)) (s) G] Zud rfl rfl) (Zxd S.vin (show Rep.rel (Zs (Za .u64)) _ [.slice (mkA (some ac)) (s) G] ((L.set ((((Zj 18446744073709551616 v)).length:Int)).toNat b)) from cb) bW) ?_;rintro _ cZ f w al ⟨c0,rfl,a4⟩ S;have t:=al _ _ t;have ak:=al _ _ ak;obtain ⟨cc,cd,ce,rfl⟩:=Z1 a4;have P:=Zp (leT aB al) P;refine opc S rfl (Zn S [.slice b4 b5 b6,.slice cc cd ce] Zcf rfl rfl) (Zwf S.vin P a4 bY) ?_;rintro _ c3 f w am ⟨c4,rfl,cf⟩ S;have t:=am _ _ t;have ak:=am _ _ ak;obtain ⟨rfl,c5⟩:=cf;refine ov S rfl (Zh S rfl rfl Z8) fun f S=>Zl ?_;obtain ⟨c6,an,S⟩:=S.takeBack (e:=Loc.own (some ac) 148 1 s G ((List.take (0+((((Zj 18446744073709551616 v)).length:Int)).toNat*1) h++[Value.int IntKind.u64 (b)]++List.drop (0+((((Zj 18446744073709551616 v)).length:Int)).toNat*1+1) h))) (leT (leT aB al) am) rfl ak b8 b9 b7 ca;have T:=Zp (leT (leT aB al) am) T;have T:=Zp an h128s137;have p:=ZH an h69s137;have P:=Zp am P;have P:=Zp an h133s137;have t:=an _ _ h124s137;obtain ⟨a5,a6,S⟩:=S.takeBack (e:=Loc.box a E (pre0++cs0++post0)) (leT (leT a3 aA) an) rfl t b1 b2 bZ b3;have r:=ZH a6 p0s120
 have p:=ZH a6 h69s120;refine Zb (bU _ _ ?_);rcases Zw (decide (bX<(0:Int))) with ao | ao
 ·have H:=Zv H ao;refine ZC S rfl ao (sr (mw S rfl fun f S=>oe (wp_ret (ZS ?_))));obtain rfl:=Ze H;refine ZEj S (ZO rfl (ZG S rfl)) ⟨⟨[.bool false],rfl,Z8a⟩,(S.boxAt (j:=0) rfl).2,_,(S.boxAt (j:=0) rfl).1,au,r⟩
 have H:=Zu H ao;refine ZD S rfl ao (wp_skip (Zb (bT _ _ (sr (mw S rfl fun f S=>oe (Zf fun _ cg=>sr (mv S rfl fun f S=>ov S rfl (Zz S au rfl rfl ZU) fun f S=>mv S rfl fun f S=>oe ?_)))))));obtain ⟨ch,ci,cj⟩:=Zx H;refine ZR (fun f w=>∃ aC aN aD,aC=ch∧Zc.le a5 aD∧St 79 ⟨R,[a]⟩ o [] [Loc.box a E (pre0++aN++post0)] aD f w∧Rep.rels (Za .u64) aD aN aC∧g=aC.length) (fun _ ck=>?_) ?_
 ·have H:=ci;refine wp_block ?_;obtain ⟨c7,cl,cm⟩:=Zx H;refine Zma cl (fun cn f w=>∃ ad ap d B ae,(ad,ap,d)=cn∧Zc.le a5 ae∧St 79 ⟨R,[a]⟩ o [(0,.slice (some ⟨a,off0,none⟩) (g) C),(7,.slice (mkA (some ac)) (s) G),(14,.int .u64 ap),(58,.int .i64 ((u.length:Int))),(59,.int .i64 d)] [Loc.box a E (pre0++B++post0),Loc.own (some ac) 148 1 s G ((List.take (0+((((Zj 18446744073709551616 v)).length:Int)).toNat*1) h++[Value.int IntKind.u64 (b)]++List.drop (0+((((Zj 18446744073709551616 v)).length:Int)).toNat*1+1) h))] ae f w∧Rep.rels (Za .u64) ae B ad∧g=ad.length∧inR .u64 ap∧inR .i64 d) ⟨_,_,_,cs0,_,rfl,(leR _),(S.fr' rfl),r,au,(by decide),(by decide)⟩ ?_;rintro _ f w st ⟨ad,ap,d,B,ae,hq,aO,S,af,Q,c8,c9⟩ H da co cp;subst hq;have p:=ZH aO p;refine sr (ov S rfl (Zh S rfl rfl Z8) fun f S=>oe (Zf fun _ cq=>?_));rcases Zw (decide (d<(u.length:Int))) with aq | aq
  ·have H:=Zv H aq;refine ZC S rfl aq (wp_skip (Zb (cq _ _ (Zf fun _ cr=>wp_block (sr (mv S rfl fun f S=>mw S rfl fun f S=>oe (bO H fun a7 aE H=>bO H fun a8 aF H=>bO H fun U aP H=>bO H fun db ar H=>Zsa (fl:=#[true,true,true,true,true,true,true,true,true,true,true,false,true,true,true,true,false,false]) Zpa (by kernel_rfl) S ?_)))))));intro ops O F w S;refine rfa O F 0 rfl rfl S (Zk S rfl) fun f S=>rfa O F 1 rfl rfl S (Zk S rfl) fun f S=>rfa O F 2 rfl rfl S (Zk S rfl) fun f S=>rfa O F 3 rfl rfl S (Zk S rfl) fun f S=>?_;have a9:=Zoa af (Zi aE).2.1;obtain ⟨dc,ba⟩:∃ c,(List.take (Za .u64).n (List.drop ((d).toNat*(Za .u64).n) B))=c:=⟨_,rfl⟩;rw [ba] at a9;obtain ⟨rfl,ct⟩:=a9;refine rfa O F 4 rfl rfl S (ZJ S rfl rfl ZU (Zi aE).1 (ltI Q (Zi aE).2.2.1)) fun f S=>rfa O F 5 rfl rfl S (ZN S rfl Zwa (Zwg S (j:=0) rfl aG (ZZb af Q) ba (ltN Q (Zi aE).2.2.2) 0 [.int .u64 a7] rfl zl)) fun f S=>rfa O F 6 rfl rfl S (Zk S rfl) fun f S=>rfa O F 7 rfl rfl S (Zk S rfl) fun f S=>?_;have bb:=Zoa p (Zi aF).2.1;obtain ⟨dd,bc⟩:∃ c,(List.take (Za .u64).n (List.drop ((d).toNat*(Za .u64).n) (List.take (0+((((Zj 18446744073709551616 v)).length:Int)).toNat*1) h++[Value.int IntKind.u64 (b)]++List.drop (0+((((Zj 18446744073709551616 v)).length:Int)).toNat*1+1) h)))=c:=⟨_,rfl⟩
   rw [bc] at bb;obtain ⟨rfl,cu⟩:=bb;refine rfa O F 8 rfl rfl S (ZJ S rfl rfl ZU (Zi aF).1 (ltI aM (Zi aF).2.2.1)) fun f S=>rfa O F 9 rfl rfl S (ZN S rfl Zwa (ZNb S (j:=1) rfl bc (ltN aM (Zi aF).2.2.2) 0 [.int .u64 a8] rfl zl)) fun f S=>rfa O F 10 rfl rfl S (Zk S rfl) fun f S=>go1 O F 11 (nva [5,9,10,4,8,2,3,6,7] [0,1] O rfl rfl S (ZKe S [.int .u64 a7,.int .u64 a8,.int .u64 ap] (Zal Zll ct cu aP) rfl rfl) fun f S=>⟨(py S rfl rfl (Zk S rfl) (py S rfl rfl (Zk S rfl) Zo)),rfa O F 12 rfl rfl S (Zk S rfl) fun f S=>rfa O F 13 rfl rfl S (ZK S rfl rfl) fun f S=>rfa O F 14 rfl rfl S (ZK S rfl rfl) fun f S=>?_⟩);have bd:=Zoa af (Zi ar).2.1;obtain ⟨de,cv⟩:∃ c,(List.take (Za .u64).n (List.drop ((d).toNat*(Za .u64).n) B))=c:=⟨_,rfl⟩;rw [cv] at bd;obtain ⟨rfl,df⟩:=bd;refine rfa O F 15 rfl rfl S (ZJ S rfl rfl ZU (Zi ar).1 (ltI Q (Zi ar).2.2.1)) fun f S=>go1 O F 16 ?_;obtain ⟨w,cw,S⟩:=ZSm S (k:=(d).toNat) Zwa (z:=.int .u64 (U.1)) (c:=[.int .u64 (U.1)]) (Zhb rfl) rfl (i:=0) rfl aG (ZZb af Q) (ltN Q (Zi ar).2.2.2) rfl (by first | rfl | simp [ZEa]);have cx:Rep.rels (Za .u64) ae (List.take (0+(d).toNat*1) B++[Value.int IntKind.u64 (U.1)]++List.drop (0+(d).toNat*1+1) B) (ad.set (d).toNat U.1):=Zqb af (Zi ar).2.2.2 (show Rep.rel (Za .u64) ae [.int .u64 (U.1)] _ from (Zq (ZHk aP))) rfl rfl
   have cy:g=(ad.set (d).toNat U.1).length:=Zrb Q;refine nxs [0,1,2,3,4,5,6,7,8,9,10,11,12,13,15] [14] O rfl rfl (cw rfl rfl) (⟨(py S rfl rfl (ZK S rfl rfl) Zo),go1 O F 17 (nva [0,1,2,3,4,5,6,7,8,9,10,11,12,13,14,15,16] [] O rfl rfl S (Zha S rfl) fun f S=>⟨Zo,Z4 O F (Zia (Zb (cr _ _ (bO H fun dg be H=>Zm (ov S rfl (Zh S rfl rfl (Z6 be)) fun f S=>mv S rfl fun f S=>Zl ?_)))))⟩)⟩);obtain rfl:=Ze H;refine co _ rfl _ _ ⟨_,_,_,(List.take (0+(d).toNat*1) B++[Value.int IntKind.u64 (U.1)]++List.drop (0+(d).toNat*1+1) B),_,rfl,aO,(S.fr' rfl),cx,cy,(ZUl aP),(Z2 be).2⟩
  have H:=Zu H aq;refine ZD S rfl aq (wp_exit (ZP ?_));obtain rfl:=Ze H;have hq:=cp _ rfl;subst hq;have H:=cm;refine ZP (Zfa ?_);obtain rfl:=Ze H;have S:=S.reorder (ℓ':=[Loc.box a E (pre0++B++post0)]) [0] rfl (by decide);refine Zb (ck _ _ ⟨_,B,_,rfl,(leT (leR _) aO),(S.fr' rfl),af,Q⟩)
 rintro f w ⟨aC,aN,aD,hq,dh,S,cz,cA⟩;subst hq;have H:=cj;refine Zb (cg _ _ (sr (mw S rfl fun f S=>oe (wp_ret ?_))));obtain rfl:=Ze H;refine ZEj S (ZO rfl (ZG S rfl)) ⟨⟨[.bool true],rfl,Z8a⟩,(S.boxAt (j:=0) rfl).2,_,(S.boxAt (j:=0) rfl).1,cA,cz⟩
theorem take_c {d:World} {a:Zc} (hv:VIn a d) {b off0 c e:Nat} {f:TypeId} {pre0 cs0 post0:List Value} {u:(List Int)} (l:d.heap[b]? = some (.cells (pre0++cs0++post0).toArray f (0,0))) (m:off0=pre0.length) (n:a b=none) (o:c=u.length) (p:c≤e∧e≤maxLen) (g:Rep.rels (Za .u64) a cs0 u) {h:List Value} {v:Nat} (r:Rep.rel Zy a h v) {i:List Value} {q:Int} (j:Rep.rel (Za .u64) a i q) {z:Bool×(List Int)} (hm:ZKf u v q=some z) :
  RetL Tryz.prog 165 #[Value.slice (some ⟨b,off0,none⟩) c e,Zy.val h,(Za .u64).val i] d a [b] (fun y v' w'=>(∃ k,y=Zga.val k∧Zga.rel v' k z.1)∧v' b=none∧∃ cs,w'.heap[b]? = some (.cells (pre0++cs++post0).toArray f (0,0))∧c=z.2.length∧Rep.rels (Za .u64) v' cs z.2) :=
 take_w hv l m n o p g r j (ZOn (ZJi g) j.2 hm)
theorem digit_w {x:World} {m:Zc} (hv:VIn m x) {a off0 e h:Nat} {A:TypeId} {pre0 cs0 post0:List Value} {u:(List Int)} (a0:x.heap[a]? = some (.cells (pre0++cs0++post0).toArray A (0,0))) (G:off0=pre0.length) (a1:m a=none) (k:e=u.length) (a2:e≤h∧h≤maxLen) (d:Rep.rels (Za .u64) m cs0 u) {c1:List Value} {v:Nat} (g:Rep.rel Zy m c1 v) {z:Int×(List Int)} (H:ZVf u v=some z):RetL Tryz.prog 148 #[.slice (some ⟨a,off0,none⟩) e h,Zy.val c1] x m [a] (fun y v' w'=>(∃ r0,y=(Za .u64).val r0∧(Za .u64).rel v' r0 z.1)∧v' a=none∧∃ cs,w'.heap[a]? = some (.cells (pre0++cs++post0).toArray A (0,0))∧e=z.2.length∧Rep.rels (Za .u64) v' cs z.2):=by
 obtain ⟨q1,o,p,rfl⟩:=Z1 g;refine Zkm (K:=90) (args:=[.slice (some ⟨a,off0,none⟩) (e) h,.slice q1 o p]) hv a0 a1 Tryz.func148 rfl rfl zl fun f S=>?_;unfold ZVf at H;refine sr (mw S rfl fun f S=>oe (sr (mv S rfl fun f S=>ov S rfl (Zz S (Zt g) rfl rfl ZU) fun f S=>mw S rfl fun f S=>oe (sr (mw S rfl fun f S=>oe (Zf fun _ a3=>Zf fun _ a4=>bO H fun aE V H=>?_))))));refine bO H fun cg a5 H=>bO H fun a6 aj H=>Zsa (fl:=#[true,true,true,true,true,true,true,true,true,true]) Zpa (by kernel_rfl) S ?_;intro ops O F w S;refine rfa O F 0 rfl rfl S (Zk S rfl) fun f S=>rfa O F 1 rfl rfl S (Zk S rfl) fun f S=>?_;have aF:=Zoa d (Zi V).2.1;obtain ⟨ch,aG⟩:∃ c,(List.take (Za .u64).n (List.drop (((((Zj 18446744073709551616 v)).length:Int)).toNat*(Za .u64).n) cs0))=c:=⟨_,rfl⟩;rw [aG] at aF;obtain ⟨rfl,ci⟩:=aF;refine rfa O F 2 rfl rfl S (ZJ S rfl rfl ZU (Zi V).1 (ltI k (Zi V).2.2.1)) fun f S=>rfa O F 3 rfl rfl S (ZN S rfl Zwa (Zwg S (j:=0) rfl G (ZZb d k) aG (ltN k (Zi V).2.2.2) 0 [.int .u64 aE] rfl zl)) fun f S=>rfa O F 4 rfl rfl S (Zk S rfl) fun f S=>rfa O F 5 rfl rfl S (Zk S rfl) fun f S=>rfa O F 6 rfl rfl S (Zh S rfl rfl (Zxa a5)) fun f S=>?_;obtain ⟨_,r,s,cj,rfl,a7,a8⟩:=Zca g (Zi aj).2.1
 obtain ⟨rfl,ck⟩:=a8;refine rfa O F 7 rfl rfl S (ZJ S rfl rfl ZU (Zi aj).1 (ltI (Zt g) (Zi aj).2.2.1)) fun f S=>rfa O F 8 rfl rfl S (ZN S rfl Zwa (S.view a7)) fun f S=>rfa O F 9 rfl rfl S (Zh S rfl rfl Z8) fun f S=>Z4 O F (Zb (a4 _ _ ?_));obtain ⟨a9,ba,bb⟩:=Zx H;refine ZR (fun f w=>∃ W I,W=a9∧Zc.le m I∧St 90 ⟨x,[a]⟩ m [(0,.slice (some ⟨a,off0,none⟩) (e) h),(1,.slice (some ⟨r,s,none⟩) o p),(6,.int .u64 W)] [Loc.box a A (pre0++cs0++post0)] I f w∧inR .u64 W) (fun _ aH=>?_) ?_
 ·have H:=ba;rcases Zw (decide (aE<a6)) with J | J
  ·have H:=Zv H J;refine ZC S rfl J (sr (mw S rfl fun f S=>oe (Zf fun _ bc=>bO H fun X Y H=>bO H fun bd be H=>bO H fun Z aa H=>bO H fun cl bf H=>bO H fun ak al H=>bO H fun aI bg H=>Zsa (fl:=#[true,true,true,true,true,true,true,true,true,true,true,true,true,true,false,true,true,true,false,false]) Zpa (by kernel_rfl) S ?_)));intro ops O F w S;refine rfa O F 0 rfl rfl S (Zk S rfl) fun f S=>rfa O F 1 rfl rfl S (Zk S rfl) fun f S=>?_;have aJ:=Zoa d (Zi Y).2.1;obtain ⟨cm,aK⟩:∃ c,(List.take (Za .u64).n (List.drop (((((Zj 18446744073709551616 v)).length:Int)).toNat*(Za .u64).n) cs0))=c:=⟨_,rfl⟩;rw [aK] at aJ;obtain ⟨rfl,bh⟩:=aJ;refine rfa O F 2 rfl rfl S (ZJ S rfl rfl ZU (Zi Y).1 (ltI k (Zi Y).2.2.1)) fun f S=>rfa O F 3 rfl rfl S (ZN S rfl Zwa (Zwg S (j:=0) rfl G (ZZb d k) aK (ltN k (Zi Y).2.2.2) 0 [.int .u64 X] rfl zl)) fun f S=>rfa O F 4 rfl rfl S (Zk S rfl) fun f S=>rfa O F 5 rfl rfl S (Zk S rfl) fun f S=>rfa O F 6 rfl rfl S (Zh S rfl rfl (Zxa be)) fun f S=>?_;have aL:=Zoa d (Zi aa).2.1;obtain ⟨cn,aM⟩:∃ c,(List.take (Za .u64).n (List.drop ((bd).toNat*(Za .u64).n) cs0))=c:=⟨_,rfl⟩;rw [aM] at aL;obtain ⟨rfl,bi⟩:=aL;refine rfa O F 7 rfl rfl S (ZJ S rfl rfl ZU (Zi aa).1 (ltI k (Zi aa).2.2.1)) fun f S=>rfa O F 8 rfl rfl S (ZN S rfl Zwa (Zwg S (j:=0) rfl G (ZZb d k) aM (ltN k (Zi aa).2.2.2) 0 [.int .u64 Z] rfl zl)) fun f S=>rfa O F 9 rfl rfl S (Zk S rfl) fun f S=>rfa O F 10 rfl rfl S (Zk S rfl) fun f S=>rfa O F 11 rfl rfl S (Zh S rfl rfl (Zxa bf)) fun f S=>?_
   obtain ⟨co,am,bj⟩:=Zkc g (Zi al).2.1;obtain ⟨rfl,bk⟩:=bj;refine rfa O F 12 rfl rfl S (ZJ S rfl rfl ZU (Zi al).1 (ltI (Zt g) (Zi al).2.2.1)) fun f S=>rfa O F 13 rfl rfl S (ZN S rfl Zwa (S.view am)) fun f S=>go1 O F 14 (nxc [3,8,13,2,7,12,0,1,4,6,9,11,5,10] [] O rfl S rfl (Zn S [.int .u64 X,.int .u64 Z,.int .u64 ak] ZWk rfl rfl) (ZPk S.vin (show Rep.rel (Za .u64) _ [.int .u64 X] X from (Zq bh)) (show Rep.rel (Za .u64) _ [.int .u64 Z] Z from (Zq bi)) (show Rep.rel (Za .u64) _ [.int .u64 ak] ak from (Zq bk)) bg) ?_);rintro _ aN f w ab ⟨cp,cq,rfl,bm,bn⟩ S;have d:=ZH ab d;have am:=Atm ab am;obtain ⟨rfl,bo⟩:=bm;obtain ⟨rfl,bp⟩:=bn;refine ⟨Zo,rfa O F 15 rfl rfl S (Zk S rfl) fun f S=>rfa O F 16 rfl rfl S (ZK S rfl rfl) fun f S=>rfa O F 17 rfl rfl S (ZK S rfl rfl) fun f S=>go1 O F 18 (nva [0,1,2,3,4,5,6,7,8,9,10,11,12,13,14,15,16] [17] O rfl rfl S (Zha S rfl) fun f S=>⟨(py S rfl rfl (ZK S rfl rfl) Zo),go1 O F 19 (nva [0,1,2,3,4,5,6,7,8,9,10,11,12,13,14,15,16,17,18] [] O rfl rfl S (Zha S rfl) fun f S=>⟨Zo,Z4 O F ?_⟩)⟩)⟩;have S:=S.fr' (σ':=[(0,.slice (some ⟨a,off0,none⟩) (e) h),(1,.slice (some ⟨r,s,none⟩) o p),(5,.int .i64 ((((Zj 18446744073709551616 v)).length:Int))),(6,.int .u64 (aI.1)),(7,.int .u64 (aI.2))]) rfl
   refine Zb (bc _ _ ?_);obtain ⟨bq,br,bs⟩:=Zx H;refine ZR (fun f w=>∃ ac an,ac=bq∧Zc.le aN an∧St 90 ⟨x,[a]⟩ m [(0,.slice (some ⟨a,off0,none⟩) (e) h),(1,.slice (some ⟨r,s,none⟩) o p),(6,.int .u64 ac)] [Loc.box a A (pre0++cs0++post0)] an f w∧inR .u64 ac) (fun _ aO=>?_) ?_
   ·have H:=br;refine wp_block ?_;obtain ⟨cr,bt,aP⟩:=Zx H;refine Zma bt (fun bu f w=>∃ q l ao,(q,l)=bu∧Zc.le aN ao∧St 90 ⟨x,[a]⟩ m [(0,.slice (some ⟨a,off0,none⟩) (e) h),(1,.slice (some ⟨r,s,none⟩) o p),(5,.int .i64 ((((Zj 18446744073709551616 v)).length:Int))),(6,.int .u64 q),(7,.int .u64 l)] [Loc.box a A (pre0++cs0++post0)] ao f w∧inR .u64 q∧inR .u64 l) ⟨_,_,_,rfl,(leR _),(S.fr' rfl),bo,bp⟩ ?_;rintro _ f w st ⟨q,l,ao,hq,L,S,aQ,ct⟩ H cu bv aR;subst hq;have d:=ZH L d;refine wp_block (Zf fun _ bw=>bO H fun cv bx H=>bO H fun ap aq H=>bO H fun B bz H=>Zm (mv S rfl fun f S=>mv S rfl fun f S=>mv S rfl fun f S=>ov S rfl (Zh S rfl rfl (Zxa bx)) fun f S=>?_));have g:=Zp (leT ab L) g;obtain ⟨cw,ar,bA⟩:=Zkc g (Zi aq).2.1;obtain ⟨rfl,bB⟩:=bA;refine ov S rfl (ZJ S rfl rfl ZU (Zi aq).1 (ltI (Zt g) (Zi aq).2.2.1)) fun f S=>ov S rfl (ZN S rfl Zwa (S.view ar)) fun f S=>opc S rfl (Zn S [.int .u64 q,.int .u64 ap] ZOj rfl rfl) (Z3j S.vin (show Rep.rel (Za .u64) _ [.int .u64 q] q from (Zq aQ)) (show Rep.rel (Za .u64) _ [.int .u64 ap] ap from (Zq bB)) bz) ?_;rintro _ bC f w D ⟨cx,cy,rfl,bD,bE⟩ S
    have d:=ZH D d;have ar:=Atm D ar;obtain ⟨rfl,cz⟩:=bD;obtain ⟨rfl,cA⟩:=bE;refine mv S rfl fun f S=>ov S rfl (ZK S rfl rfl) fun f S=>ov S rfl (ZK S rfl rfl) fun f S=>mw S rfl fun f S=>mw S rfl fun f S=>Zl (Zb (bw _ _ (Zf fun _ bF=>Zf fun _ bG=>?_)));obtain ⟨bH,bI,bJ⟩:=Zx H;refine ZR (fun f w=>∃ ad au,ad=bH∧Zc.le bC au∧St 90 ⟨x,[a]⟩ m [(0,.slice (some ⟨a,off0,none⟩) (e) h),(1,.slice (some ⟨r,s,none⟩) o p),(5,.int .i64 ((((Zj 18446744073709551616 v)).length:Int))),(6,.int .u64 q),(7,.int .u64 l),(67,.bool ad)] [Loc.box a A (pre0++cs0++post0)] au f w) (fun _ av=>?_) ?_
    ·have H:=bI;rcases Zw (decide (B.1<l)) with E | E
     ·have H:=Zv H E;refine Zm (mv S rfl fun f S=>mv S rfl fun f S=>ov S rfl (Zh S rfl rfl Z8) fun f S=>?_);have S:=S.bool (t:=53) rfl E;refine mv S rfl fun f S=>opn S rfl rfl rfl rfl fun f S=>opn S rfl rfl rfl rfl fun f S=>opn S rfl rfl rfl rfl fun f S=>opn S rfl rfl rfl rfl fun f S=>Zda S (Zea S rfl rfl rfl zl) rfl zl fun f S=>Zda S (Zea S rfl rfl rfl zl) rfl zl fun f S=>Zda S (Zea S rfl rfl rfl zl) rfl zl fun f S=>Zda S (Zea S rfl rfl rfl zl) rfl zl fun f S=>Zda S (Zea S rfl rfl rfl zl) rfl zl fun f S=>Zda S (Zea S rfl rfl rfl zl) rfl zl fun f S=>Zda S (Zea S rfl rfl rfl zl) rfl zl fun f S=>opn S rfl rfl rfl rfl fun f S=>ov S rfl (ZL S (b:=true) rfl rfl) fun f S=>?_;refine Zl ?_;have S:=S.fr' (σ':=[(0,.slice (some ⟨a,off0,none⟩) (e) h),(1,.slice (some ⟨r,s,none⟩) o p),(5,.int .i64 ((((Zj 18446744073709551616 v)).length:Int))),(6,.int .u64 q),(7,.int .u64 l),(55,undef),(56,undef),(57,undef),(58,undef),(59,undef),(60,undef),(61,undef),(62,undef),(63,undef),(64,undef),(65,undef),(66,undef),(67,.bool true)]) rfl;obtain rfl:=Ze H;refine Zb (av _ _ ⟨_,_,rfl,(leR _),(S.fr' rfl)⟩)
     have H:=Zu H E;rcases Zw (B.1==l) with M | M
     ·have H:=Zv H M;refine bO H fun aw bK H=>bO H fun N ae H=>Zm (mv S rfl fun f S=>mv S rfl fun f S=>ov S rfl (Zh S rfl rfl Z8) fun f S=>?_);have S:=S.bool (t:=53) rfl E;refine mv S rfl fun f S=>opy S rfl rfl rfl rfl (Zk S rfl) fun f S=>opy S rfl rfl rfl rfl (Zk S rfl) fun f S=>opy S rfl rfl rfl rfl (Zh S rfl rfl Z9) fun f S=>?_;have S:=S.bool (t:=57) rfl M;refine opy S rfl rfl rfl rfl (Zk S rfl) fun f S=>opy S rfl rfl rfl rfl (Zk S rfl) fun f S=>opy S rfl rfl rfl rfl (Zk S rfl) fun f S=>opy S rfl rfl rfl rfl (Zk S rfl) fun f S=>opy S rfl rfl rfl rfl (Zh S rfl rfl (Zxa bK)) fun f S=>?_;have aS:=Zoa d (Zi ae).2.1;obtain ⟨cB,aT⟩:∃ c,(List.take (Za .u64).n (List.drop ((aw).toNat*(Za .u64).n) cs0))=c:=⟨_,rfl⟩;rw [aT] at aS;obtain ⟨rfl,cC⟩:=aS;refine opy S rfl rfl rfl rfl (ZJ S rfl rfl ZU (Zi ae).1 (ltI k (Zi ae).2.2.1)) fun f S=>opy S rfl rfl rfl rfl (ZN S rfl Zwa (Zwg S (j:=0) rfl G (ZZb d k) aT (ltN k (Zi ae).2.2.2) 0 [.int .u64 N] rfl zl)) fun f S=>opy S rfl rfl rfl rfl (Zh S rfl rfl Z5d) fun f S=>opy S rfl rfl rfl rfl (ZL S (b:=true) rfl rfl) fun f S=>ov S rfl (ZL S (b:=false) rfl rfl) fun f S=>Zl ?_;have S:=S.fr' (σ':=[(0,.slice (some ⟨a,off0,none⟩) (e) h),(1,.slice (some ⟨r,s,none⟩) o p),(5,.int .i64 ((((Zj 18446744073709551616 v)).length:Int))),(6,.int .u64 q),(7,.int .u64 l),(55,.int .u64 (B.1)),(56,.int .u64 l),(57,.bool true),(58,.bool true),(59,.int .u64 (B.2)),(60,.slice (some ⟨a,off0,none⟩) (e) h),(61,.int .i64 ((((Zj 18446744073709551616 v)).length:Int))),(62,.int .i64 aw),(63,.pointer (some ⟨a,off0+(aw).toNat*1,none⟩)),(64,.int .u64 N),(65,.bool (decide (B.2≤N))),(66,.bool (decide (B.2≤N))),(67,.bool (decide (B.2≤N)))]) rfl
      obtain rfl:=Ze H;refine Zb (av _ _ ⟨_,_,rfl,(leR _),(S.fr' rfl)⟩)
     have H:=Zu H M;refine Zm (mv S rfl fun f S=>mv S rfl fun f S=>ov S rfl (Zh S rfl rfl Z8) fun f S=>?_);have S:=S.bool (t:=53) rfl E;refine mv S rfl fun f S=>opy S rfl rfl rfl rfl (Zk S rfl) fun f S=>opy S rfl rfl rfl rfl (Zk S rfl) fun f S=>opy S rfl rfl rfl rfl (Zh S rfl rfl Z9) fun f S=>?_;have S:=S.bool (t:=57) rfl M;refine opy S rfl rfl rfl rfl (Zk S rfl) fun f S=>opn S rfl rfl rfl rfl fun f S=>opn S rfl rfl rfl rfl fun f S=>opn S rfl rfl rfl rfl fun f S=>opn S rfl rfl rfl rfl fun f S=>opn S rfl rfl rfl rfl fun f S=>opn S rfl rfl rfl rfl fun f S=>opn S rfl rfl rfl rfl fun f S=>opy S rfl rfl rfl rfl (ZL S (b:=false) rfl rfl) fun f S=>ov S rfl (ZL S (b:=false) rfl rfl) fun f S=>Zl ?_;have S:=S.fr' (σ':=[(0,.slice (some ⟨a,off0,none⟩) (e) h),(1,.slice (some ⟨r,s,none⟩) o p),(5,.int .i64 ((((Zj 18446744073709551616 v)).length:Int))),(6,.int .u64 q),(7,.int .u64 l),(55,.int .u64 (B.1)),(56,.int .u64 l),(57,.bool false),(58,.bool false),(59,undef),(60,undef),(61,undef),(62,undef),(63,undef),(64,undef),(65,undef),(66,.bool false),(67,.bool false)]) rfl;obtain rfl:=Ze H;refine Zb (av _ _ ⟨_,_,rfl,(leR _),(S.fr' rfl)⟩)
    rintro f w ⟨ad,au,hq,P,S⟩;subst hq;have H:=bJ;have d:=ZH P d;refine Zb (bG _ _ ?_);rcases Zw (ad) with Q | Q
    ·have H:=Zv H Q;refine ZC S rfl Q (wp_exit (ZP (Zzi rfl ?_)));obtain rfl:=Ze H;have hq:=aR _ rfl;subst hq;have H:=aP;refine ZP (Zfa ?_);obtain rfl:=Ze H;refine Zb (aO _ _ ⟨_,_,rfl,(leT (leT (leT (leR _) L) D) P),(S.fr' rfl),aQ⟩)
    have H:=Zu H Q;refine ZD S rfl Q (wp_skip (Zb (bF _ _ (sr (mv S rfl fun f S=>ov S rfl (Zh S rfl rfl ZCd) fun f S=>mw S rfl fun f S=>oe (sr (mw S rfl fun f S=>oe (Zf fun _ bL=>bO H fun cD bM H=>bO H fun bN ax H=>?_))))))));refine bO H fun bP aU H=>Zm (mv S rfl fun f S=>mv S rfl fun f S=>mv S rfl fun f S=>ov S rfl (Zh S rfl rfl (Zxa bM)) fun f S=>?_);have g:=Zp (leT D P) g;obtain ⟨cE,bQ,bR⟩:=Zkc g (Zi ax).2.1;obtain ⟨rfl,cF⟩:=bR;refine ov S rfl (ZJ S rfl rfl ZU (Zi ax).1 (ltI (Zt g) (Zi ax).2.2.1)) fun f S=>ov S rfl (ZN S rfl Zwa (S.view bQ)) fun f S=>ov S rfl (ZKe S [.int .u64 l,.int .u64 bN,.int .u64 0] (ZUg Zkg aU) rfl rfl) fun f S=>mv S rfl fun f S=>ov S rfl (ZK S rfl rfl) fun f S=>ov S rfl (ZK S rfl rfl) fun f S=>mw S rfl fun f S=>mw S rfl fun f S=>Zl (Zb (bL _ _ (sr (mv S rfl fun f S=>ov S rfl (Zh S rfl rfl ZKa) fun f S=>oe ?_))));rcases Zw (decide ((0:Int)<bP.2)) with R | R
    ·have H:=Zv H R;refine ZC S rfl R (wp_exit (Zzi rfl ?_));obtain rfl:=Ze H;have hq:=aR _ rfl;subst hq;have H:=aP;refine ZP (Zfa ?_);obtain rfl:=Ze H;refine Zb (aO _ _ ⟨_,_,rfl,(leT (leT (leT (leR _) L) D) P),(S.fr' rfl),(Zva _ _)⟩)
    have H:=Zu H R;refine ZD S rfl R (wp_skip (Zia ?_));obtain rfl:=Ze H;refine bv _ rfl _ _ ⟨_,_,_,rfl,(leT (leT L D) P),(S.fr' rfl),(Zva _ _),(Zhi aU)⟩
   rintro f w ⟨ac,an,hq,aV,S,bS⟩;subst hq;have H:=bs;have d:=ZH aV d;obtain rfl:=Ze H;refine Zb (aH _ _ ⟨_,_,rfl,(leT (leT (leR _) ab) aV),(S.fr' rfl),bS⟩)
  have H:=Zu H J;refine ZD S rfl J (wp_skip ?_);obtain rfl:=Ze H;refine Zb (aH _ _ ⟨_,_,rfl,(leR _),(S.fr' rfl),(by decide)⟩)
 rintro f w ⟨W,I,hq,aW,S,bT⟩;subst hq;have H:=bb;have d:=ZH aW d;refine Zb (a3 _ _ (Zf fun _ bU=>?_));obtain ⟨bV,bW,bX⟩:=Zx H;refine ZR (fun f w=>∃ af T ay ag,(af,T)=bV∧Zc.le I ag∧St 90 ⟨x,[a]⟩ m [(6,.int .u64 T)] [Loc.box a A (pre0++ay++post0)] ag f w∧Rep.rels (Za .u64) ag ay af∧e=af.length∧inR .u64 T) (fun _ bY=>?_) ?_
 ·have H:=bW;refine wp_block ?_;obtain ⟨cG,bZ,b1⟩:=Zx H;refine Zma bZ (fun b2 f w=>∃ ah C az ai,(ah,C)=b2∧Zc.le I ai∧St 90 ⟨x,[a]⟩ m [(0,.slice (some ⟨a,off0,none⟩) (e) h),(1,.slice (some ⟨r,s,none⟩) o p),(6,.int .u64 C)] [Loc.box a A (pre0++az++post0)] ai f w∧Rep.rels (Za .u64) ai az ah∧e=ah.length∧inR .u64 C) ⟨_,_,cs0,_,rfl,(leR _),(S.fr' rfl),d,k,bT⟩ ?_;rintro _ f w st ⟨ah,C,az,ai,hq,aA,S,aB,b3,aX⟩ H cH b4 b5;subst hq;refine Zf fun _ b6=>Zf fun _ b7=>bO H fun b8 b9 H=>Zm (mv S rfl fun f S=>mv S rfl fun f S=>mv S rfl fun f S=>?_);have g:=Zp (leT aW aA) g;refine Zul S wn rfl zl (Zn S [.slice (some ⟨a,off0,none⟩) (e) h,.slice (some ⟨r,s,none⟩) o p,.int .u64 C] k_en165 rfl rfl) (i:=0) rfl rfl (take_c S.vin (S.boxAt (j:=0) rfl).1 G (S.boxAt (j:=0) rfl).2 b3 a2 aB g (show Rep.rel (Za .u64) _ [.int .u64 C] C from (Zq aX)) b9) ?_;rintro _ cI f w aC ⟨⟨cJ,rfl,ca⟩,cb,aD,cc,aY,aZ⟩ hSf;have aB:=ZH aC aB;have S:=hSf (Loc.box a A (pre0++aD++post0)) rfl cc cb;obtain rfl:=ca;refine ov S rfl (Zhc S rfl) fun f S=>Zl (Zb (b7 _ _ ?_));rcases Zw (!(b8.1)) with U | U
  ·have H:=Zv H U;refine ZC S rfl U (wp_skip (Zb (b6 _ _ (wp_block (Zm (mv S rfl fun f S=>ov S rfl (Zh S rfl rfl ZCd) fun f S=>mw S rfl fun f S=>Zl (Zia ?_)))))));obtain rfl:=Ze H;refine b4 _ rfl _ _ ⟨_,_,aD,_,rfl,(leT aA aC),(S.fr' rfl),aZ,aY,(Zva _ _)⟩
  have H:=Zu H U;refine ZD S rfl U (wp_exit (ZP ?_));obtain rfl:=Ze H;have hq:=b5 _ rfl;subst hq;have H:=b1;refine ZP (Zfa ?_);obtain rfl:=Ze H;refine Zb (bY _ _ ⟨_,_,aD,_,rfl,(leT (leT (leR _) aA) aC),(S.fr' rfl),aZ,aY,aX⟩)
 rintro f w ⟨af,T,ay,ag,hq,cK,S,cd,ce,cf⟩;subst hq;have H:=bX;refine Zb (bU _ _ (sr (mv S rfl fun f S=>mw S rfl fun f S=>oe (wp_ret ?_))));obtain rfl:=Ze H;refine ZEj S (ZO rfl (ZG S rfl)) ⟨⟨[.int .u64 T],rfl,(Zq cf)⟩,(S.boxAt (j:=0) rfl).2,_,(S.boxAt (j:=0) rfl).1,ce,cd⟩
theorem digit_c {d:World} {b:Zc} (hv:VIn b d) {a off0 c e:Nat} {f:TypeId} {pre0 cs0 post0:List Value} {u:(List Int)} (j:d.heap[a]? = some (.cells (pre0++cs0++post0).toArray f (0,0))) (k:off0=pre0.length) (l:b a=none) (m:c=u.length) (n:c≤e∧e≤maxLen) (g:Rep.rels (Za .u64) b cs0 u) {h:List Value} {v:Nat} (o:Rep.rel Zy b h v) {z:Int×(List Int)} (hm:Z6e u v=some z) :
  RetL Tryz.prog 148 #[Value.slice (some ⟨a,off0,none⟩) c e,Zy.val h] d b [a] (fun y v' w'=>(∃ i,y=(Za .u64).val i∧(Za .u64).rel v' i z.1)∧v' a=none∧∃ cs,w'.heap[a]? = some (.cells (pre0++cs++post0).toArray f (0,0))∧c=z.2.length∧Rep.rels (Za .u64) v' cs z.2) :=
 digit_w hv j k l m n g o (Z1m (ZJi g) hm)
theorem left_w {I:World} {o:Zc} (hv:VIn o I) {c0:List Value} {a:Nat} (g:Rep.rel Zy o c0 a) {c1:List Value} {n:Int} (p1:Rep.rel (Za .i64) o c1 n) {z:Nat} (H:ZUf a n=some z):Ret Tryz.prog 137 #[Zy.val c0,(Za .i64).val c1] I o (fun y v'=>∃ r0,y=Zy.val r0∧Zy.rel v' r0 z):=by
 obtain ⟨W,J,L,rfl⟩:=Z1 g;obtain ⟨rfl,r4⟩:=p1;refine ZW (K:=58) (args:=[.slice W J L,.int .i64 n]) hv Tryz.func137 rfl rfl zl fun f S=>?_;unfold ZUf at H;refine sr (mw S rfl fun f S=>oe (Zf fun _ av=>Zf fun _ aw=>?_));obtain ⟨ax,ay,az⟩:=Zx H;refine ZR (fun f w=>∃ X v,X=ax∧Zc.le o v∧St 58 I o [(0,.slice W J L),(1,.int .i64 n),(14,.bool X)] [] v f w) (fun _ ag=>?_) ?_
 ·have H:=ay;rcases Zw (((((Zj 18446744073709551616 a)).length:Int))==(0:Int)) with M | M
  ·have H:=Zv H M;refine Zm (mv S rfl fun f S=>ov S rfl (Zz S (Zt g) rfl rfl ZU) fun f S=>ov S rfl (Zh S rfl rfl Z9) fun f S=>?_);have S:=S.bool (t:=10) rfl M;refine mv S rfl fun f S=>opn S rfl rfl rfl rfl fun f S=>opn S rfl rfl rfl rfl fun f S=>ov S rfl (ZL S (b:=true) rfl rfl) fun f S=>Zl ?_;obtain rfl:=Ze H;refine Zb (ag _ _ ⟨_,_,rfl,(leR _),(S.fr' rfl)⟩)
  have H:=Zu H M;refine Zm (mv S rfl fun f S=>ov S rfl (Zz S (Zt g) rfl rfl ZU) fun f S=>ov S rfl (Zh S rfl rfl Z9) fun f S=>?_);have S:=S.bool (t:=10) rfl M;refine mv S rfl fun f S=>opy S rfl rfl rfl rfl (Zk S rfl) fun f S=>opy S rfl rfl rfl rfl (Zh S rfl rfl Z9) fun f S=>ov S rfl (ZL S (b:=false) rfl rfl) fun f S=>Zl ?_;obtain rfl:=Ze H;refine Zb (ag _ _ ⟨_,_,rfl,(leR _),(S.fr' rfl)⟩)
 rintro f w ⟨X,v,hq,ah,S⟩;subst hq;have H:=az;refine Zb (aw _ _ ?_);rcases Zw (X) with N | N
 ·have H:=Zv H N;refine ZC S rfl N (sr (mv S rfl fun f S=>mw S rfl fun f S=>oe (wp_ret (ZS ?_))));obtain rfl:=Ze H;have g:=Zp ah g;refine ZA S (ZO rfl (ZG S rfl)) ⟨[.slice W J L],rfl,g⟩
 have H:=Zu H N;refine ZD S rfl N (wp_skip (Zb (av _ _ (Zf fun _ aA=>bO H fun bo aB H=>bO H fun bp aC H=>bO H fun B aD H=>bO H fun bq Y H=>Zm (mv S rfl fun f S=>?_)))));have g:=Zp ah g;refine ov S rfl (Zz S (Zt g) rfl rfl ZU) fun f S=>mv S rfl fun f S=>ov S rfl (Zh S rfl rfl (Z3b aB)) fun f S=>ov S rfl (Zh S rfl rfl (Z6 aC)) fun f S=>ov S rfl (Zh S rfl rfl (Z6 aD)) fun f S=>?_;obtain ⟨ai,aj⟩:∃ c:List Value,c=(List.replicate (B).toNat [.int .u64 0]).flatten:=⟨_,rfl⟩;obtain ⟨aE,w,aF,S⟩:=Zeb ZFc S (l:=B) (c:=B) (ZT Y).1 (ZT Y).2.1 (ZT Y).2.2.1 (ZT Y).2.2.2 aj;have aG:Rep.rels (Za .u64) v ai (List.replicate (B).toNat (0:Int)):=by rw [aj];exact Zbb (show Rep.rel (Za .u64) _ [.int .u64 0] _ from (Zq (by decide))) _
 refine Zza wn rfl zl (aF rfl rfl) S fun f S=>mw S rfl fun f S=>Zl (Zb (aA _ _ (Zf fun _ aH=>sr (mv S rfl fun f S=>ov S rfl (Zz S (Zt g) rfl rfl ZU) fun f S=>mv S rfl fun f S=>oe ?_))));obtain ⟨aI,aJ,aK⟩:=Zx H;refine ZR (fun f w=>∃ C P D Q ac Z,C=aI∧Zc.le v Z∧St 58 I o [(5,.slice (mkA P) D Q)] [Loc.own P 148 1 D Q ac] Z f w∧Rep.rels (Za .u64) Z ac C∧D=C.length) (fun _ aL=>?_) ?_
 ·have H:=aJ;refine wp_block ?_;obtain ⟨br,aM,aN⟩:=Zx H;refine Zma aM (fun aO f w=>∃ p E aa m G e q,(p,E)=aO∧Zc.le v q∧St 58 I o [(1,.int .i64 n),(5,.slice (mkA aa) m G),(23,.slice W J L),(24,.int .i64 ((((Zj 18446744073709551616 a)).length:Int))),(25,.int .i64 E)] [Loc.own aa 148 1 m G e] q f w∧Rep.rels (Za .u64) q e p∧m=p.length∧inR .i64 E) ⟨_,_,some aE,(B).toNat,(B).toNat,ai,_,rfl,(leR _),(S.fr' rfl),aG,(ZYa (x:=(0:Int))),(by decide)⟩ ?_;rintro _ f w st ⟨p,E,aa,m,G,e,q,hq,ad,S,ab,s,bs⟩ H bt aP aQ;subst hq;refine sr (ov S rfl (Zh S rfl rfl Z8) fun f S=>oe (Zf fun _ aR=>?_));rcases Zw (decide (E<(((Zj 18446744073709551616 a)).length:Int))) with R | R
  ·have H:=Zv H R;refine ZC S rfl R (wp_skip (Zb (aR _ _ (Zf fun _ aS=>wp_block (Zf fun _ aT=>bO H fun bu ae H=>Zm (mv S rfl fun f S=>?_))))));have g:=Zp ad g;obtain ⟨_,aU,aV,bv,rfl,aW,aX⟩:=Zca g (Zi ae).2.1;obtain ⟨rfl,aY⟩:=aX;refine ov S rfl (ZJ S rfl rfl ZU (Zi ae).1 (ltI (Zt g) (Zi ae).2.2.1)) fun f S=>ov S rfl (ZN S rfl Zwa (S.view aW)) fun f S=>mw S rfl fun f S=>mw S rfl fun f S=>Zl (Zb (aT _ _ (Zf fun _ aZ=>bO H fun bw a0 H=>bO H fun d a1 H=>bO H fun h T H=>bO H fun bx a2 H=>bO H fun k a3 H=>bO H fun bz U H=>Zsa (fl:=#[true,true,true,true,true,true,true,true,true,true,true,true,true,false]) Zpa (by kernel_rfl) S ?_)));intro ops O F w S;refine rfa O F 0 rfl rfl S (Zk S rfl) fun f S=>rfa O F 1 rfl rfl S (Zk S rfl) fun f S=>rfa O F 2 rfl rfl S (Zk S rfl) fun f S=>rfa O F 3 rfl rfl S (Zh S rfl rfl (Z3b a0)) fun f S=>rfa O F 4 rfl rfl S (Zh S rfl rfl (Z6 a1)) fun f S=>?_;obtain ⟨ak,rfl⟩:=Zpb S (j:=0) rfl (Zzb s (Zi T).2.2.2);have al:=Zoa ab (Zi T).2.1;obtain ⟨bA,am⟩:∃ c,(List.take (Za .u64).n (List.drop ((d).toNat*(Za .u64).n) e))=c:=⟨_,rfl⟩;rw [am] at al;obtain ⟨rfl,bB⟩:=al;refine rfa O F 5 rfl rfl S (ZJ S rfl rfl ZU (Zi T).1 (ltI s (Zi T).2.2.1)) fun f S=>rfa O F 6 rfl rfl S (ZN S rfl Zwa (ZNb S (j:=0) rfl am (ltN s (Zi T).2.2.2) 0 [.int .u64 h] rfl zl)) fun f S=>rfa O F 7 rfl rfl S (Zk S rfl) fun f S=>rfa O F 8 rfl rfl S (Zk S rfl) fun f S=>rfa O F 9 rfl rfl S (Zh S rfl rfl (Zsb a2)) fun f S=>rfa O F 10 rfl rfl S (Zh S rfl rfl (ZGd a3)) fun f S=>rfa O F 11 rfl rfl S (Zh S rfl rfl ZQe) fun f S=>?_
   have an:=Zoa ab (Zi U).2.1;obtain ⟨bC,a4⟩:∃ c,(List.take (Za .u64).n (List.drop ((d).toNat*(Za .u64).n) e))=c:=⟨_,rfl⟩;rw [a4] at an;obtain ⟨rfl,bD⟩:=an;refine rfa O F 12 rfl rfl S (ZJ S rfl rfl ZU (Zi U).1 (ltI s (Zi U).2.2.1)) fun f S=>go1 O F 13 ?_;obtain ⟨w,a5,S⟩:=ZHb S Zwa (off:=0+(d).toNat*1) (z:=.int .u64 (orI .u64 h k)) (cs:=[.int .u64 (orI .u64 h k)]) (Zhb rfl) rfl (i:=0) rfl (ZKb S (j:=0) rfl (ltN s (Zi U).2.2.2)) (by first | rfl | simp [ZEa]);have ao:Rep.rels (Za .u64) q (List.take (0+(d).toNat*1) e++[Value.int IntKind.u64 (orI .u64 h k)]++List.drop (0+(d).toNat*1+1) e) (p.set (d).toNat (orI .u64 h k)):=Zqb ab (Zi U).2.2.2 (show Rep.rel (Za .u64) q [.int .u64 (orI .u64 h k)] _ from (Zq (Zva _ _))) rfl rfl;have af:m=(p.set (d).toNat (orI .u64 h k)).length:=Zrb s;refine nxs [0,1,2,3,4,5,6,7,8,9,10,11,12] [] O rfl rfl (a5 rfl rfl) (⟨Zo,Z4 O F (Zb (aZ _ _ (bO H fun bE a6 H=>bO H fun bF a7 H=>bO H fun r a8 H=>bO H fun bG a9 H=>bO H fun bH ba H=>bO H fun u ap H=>bO H fun bI V H=>Zm (mv S rfl fun f S=>mv S rfl fun f S=>?_))))⟩);refine mv S rfl fun f S=>ov S rfl (Zh S rfl rfl (Z3b a6)) fun f S=>ov S rfl (Zh S rfl rfl (Z6 a7)) fun f S=>ov S rfl (Zh S rfl rfl (Z6 a8)) fun f S=>mv S rfl fun f S=>mv S rfl fun f S=>ov S rfl (Zh S rfl rfl (Zsb a9)) fun f S=>ov S rfl (Zh S rfl rfl (Zxa ba)) fun f S=>ov S rfl (Zh S rfl rfl (ZVb ap)) fun f S=>?_
   have aq:=Zoa ao (Zi V).2.1;obtain ⟨bJ,bb⟩:∃ c,(List.take (Za .u64).n (List.drop ((r).toNat*(Za .u64).n) (List.take (0+(d).toNat*1) e++[Value.int IntKind.u64 (orI .u64 h k)]++List.drop (0+(d).toNat*1+1) e)))=c:=⟨_,rfl⟩;rw [bb] at aq;obtain ⟨rfl,bK⟩:=aq;refine ov S rfl (ZJ S rfl rfl ZU (Zi V).1 (ltI af (Zi V).2.2.1)) fun f S=>?_;obtain ⟨w,bc,S⟩:=ZHb S Zwa (off:=0+(r).toNat*1) (z:=.int .u64 u) (cs:=[.int .u64 u]) (Zhb rfl) rfl (i:=0) rfl (ZKb S (j:=0) rfl (ltN af (Zi V).2.2.2)) (by first | rfl | simp [ZEa]);have bd:Rep.rels (Za .u64) q (List.take (0+(r).toNat*1) ((List.take (0+(d).toNat*1) e++[Value.int IntKind.u64 (orI .u64 h k)]++List.drop (0+(d).toNat*1+1) e))++[Value.int IntKind.u64 (u)]++List.drop (0+(r).toNat*1+1) ((List.take (0+(d).toNat*1) e++[Value.int IntKind.u64 (orI .u64 h k)]++List.drop (0+(d).toNat*1+1) e))) (((p.set (d).toNat (orI .u64 h k))).set (r).toNat u):=Zqb ao (Zi V).2.2.2 (show Rep.rel (Za .u64) q [.int .u64 u] _ from (Zq (ZLd aY ap))) rfl rfl;have be:m=(((p.set (d).toNat (orI .u64 h k))).set (r).toNat u).length:=Zrb af;refine ZY wn rfl (bc rfl rfl) (Zl ?_);have S:=S.fr' (σ':=[(1,.int .i64 n),(5,.slice (mkA (some ak)) (m) G),(23,.slice (some ⟨aU,aV,none⟩) J L),(24,.int .i64 ((((Zj 18446744073709551616 a)).length:Int))),(25,.int .i64 E)]) rfl
   refine Zia (Zb (aS _ _ (bO H fun bL ar H=>Zm (ov S rfl (Zh S rfl rfl (Z6 ar)) fun f S=>mv S rfl fun f S=>Zl ?_))));obtain rfl:=Ze H;refine aP _ rfl _ _ ⟨_,_,some ak,m,G,(List.take (0+(r).toNat*1) ((List.take (0+(d).toNat*1) e++[Value.int IntKind.u64 (orI .u64 h k)]++List.drop (0+(d).toNat*1+1) e))++[Value.int IntKind.u64 (u)]++List.drop (0+(r).toNat*1+1) ((List.take (0+(d).toNat*1) e++[Value.int IntKind.u64 (orI .u64 h k)]++List.drop (0+(d).toNat*1+1) e))),_,rfl,ad,(S.fr' rfl),bd,be,(Z2 ar).2⟩
  have H:=Zu H R;refine ZD S rfl R (wp_exit (ZP ?_));obtain rfl:=Ze H;have hq:=aQ _ rfl;subst hq;have H:=aN;refine ZP (Zfa ?_);obtain rfl:=Ze H;refine Zb (aL _ _ ⟨_,aa,m,G,e,_,rfl,(leT (leR _) ad),(S.fr' rfl),ab,s⟩)
 rintro f w ⟨C,P,D,Q,ac,Z,hq,bM,S,bf,bg⟩;subst hq;have H:=aK;refine Zb (aH _ _ (Zf fun _ bh=>bO H fun bN bi H=>Zm (mv S rfl fun f S=>?_)));obtain ⟨bP,bQ,S,bj⟩:=S.pubSlice (i:=0) (A:=(Za .u64)) (l:=C) (ℓ':=[]) rfl rfl bg bf rfl;refine opc S rfl (Zn S [.slice (mkA P) D Q] Zud rfl rfl) (Zxd S.vin (show Rep.rel (Zs (Za .u64)) _ [.slice (mkA P) D Q] C from bj) bi) ?_;rintro _ bR f w bS ⟨bT,rfl,au⟩ S;obtain ⟨bk,bm,bn,rfl⟩:=Z1 au;refine mw S rfl fun f S=>Zl (Zb (bh _ _ (wp_ret ?_)));obtain rfl:=Ze H;refine ZA S (ZO rfl (ZG S rfl)) ⟨[.slice bk bm bn],rfl,au⟩
theorem Zbh {c:World} {b:Zc} (hv:VIn b c) {d:List Value} {a:Nat} (g:Rep.rel Zy b d a) {e:List Value} {n:Int} (h:Rep.rel (Za .i64) b e n) {z:Nat} (hm:Zuc a n=some z) :
  Ret Tryz.prog 137 #[Zy.val d,(Za .i64).val e] c b (fun y v'=>∃ f,y=Zy.val f∧Zy.rel v' f z) :=
 left_w hv g h (ZOp hm)
theorem right_w {C:World} {g:Zc} (hv:VIn g C) {c0:List Value} {a:Nat} (h:Rep.rel Zy g c0 a) {c1:List Value} {n:Int} (p1:Rep.rel (Za .i64) g c1 n) {z:Nat} (H:ZFg a n=some z):Ret Tryz.prog 149 #[Zy.val c0,(Za .i64).val c1] C g (fun y v'=>∃ r0,y=Zy.val r0∧Zy.rel v' r0 z):=by
 obtain ⟨q1,P,Q,rfl⟩:=Z1 h;obtain ⟨rfl,r4⟩:=p1;refine ZW (K:=65) (args:=[.slice q1 P Q,.int .i64 n]) hv Tryz.func149 rfl rfl zl fun f S=>?_;unfold ZFg at H;refine sr (mw S rfl fun f S=>oe (Zf fun _ ax=>Zf fun _ ay=>bO H fun az aA H=>Zm (mv S rfl fun f S=>ov S rfl (Zh S rfl rfl (Z3b aA)) fun f S=>mv S rfl fun f S=>ov S rfl (Zz S (Zt h) rfl rfl ZU) fun f S=>ov S rfl (Zh S rfl rfl ZFb) fun f S=>Zl (Zb (ay _ _ ?_)))));rcases Zw (decide ((((Zj 18446744073709551616 a)).length:Int)≤az)) with D | D
 ·have H:=Zv H D;refine ZC S rfl D (sr (mw S rfl fun f S=>oe (wp_ret (ZS ?_))));obtain rfl:=Ze H;refine ZA S (ZO rfl (ZG S rfl)) ⟨[.slice none 0 0],rfl,(Zff _)⟩
 have H:=Zu H D;refine ZD S rfl D (wp_skip (Zb (ax _ _ (Zf fun _ aB=>bO H fun bx aC H=>bO H fun k aD H=>bO H fun bz R H=>Zm (mv S rfl fun f S=>ov S rfl (Zz S (Zt h) rfl rfl ZU) fun f S=>mv S rfl fun f S=>ov S rfl (Zh S rfl rfl (Z3b aC)) fun f S=>ov S rfl (Zh S rfl rfl (Zxa aD)) fun f S=>?_)))));obtain ⟨ai,aj⟩:∃ c:List Value,c=(List.replicate (k).toNat [.int .u64 0]).flatten:=⟨_,rfl⟩;obtain ⟨aE,w,aF,S⟩:=Zeb ZFc S (l:=k) (c:=k) (ZT R).1 (ZT R).2.1 (ZT R).2.2.1 (ZT R).2.2.2 aj;have aG:Rep.rels (Za .u64) g ai (List.replicate (k).toNat (0:Int)):=by rw [aj];exact Zbb (show Rep.rel (Za .u64) _ [.int .u64 0] _ from (Zq (by decide))) _
 refine Zza wn rfl zl (aF rfl rfl) S fun f S=>mw S rfl fun f S=>Zl (Zb (aB _ _ (Zf fun _ aH=>sr (mv S rfl fun f S=>ov S rfl (Zz S (ZYa (x:=(0:Int))) rfl rfl ZU) fun f S=>mv S rfl fun f S=>oe ?_))));obtain ⟨aI,aJ,aK⟩:=Zx H;refine ZR (fun f w=>∃ t E u G ac T,t=aI∧Zc.le g T∧St 65 C g [(5,.slice (mkA E) u G)] [Loc.own E 148 1 u G ac] T f w∧Rep.rels (Za .u64) T ac t∧u=t.length) (fun _ aL=>?_) ?_
 ·have H:=aJ;refine wp_block ?_;obtain ⟨bA,aM,aN⟩:=Zx H;refine Zma aM (fun aO f w=>∃ p b U m r d o,(p,b)=aO∧Zc.le g o∧St 65 C g [(0,.slice q1 P Q),(1,.int .i64 n),(5,.slice (mkA U) m r),(19,.int .i64 ((((List.replicate (k).toNat (0:Int))).length:Int))),(20,.int .i64 b)] [Loc.own U 148 1 m r d] o f w∧Rep.rels (Za .u64) o d p∧m=p.length∧inR .i64 b) ⟨_,_,some aE,(k).toNat,(k).toNat,ai,_,rfl,(leR _),(S.fr' rfl),aG,(ZYa (x:=(0:Int))),(by decide)⟩ ?_;rintro _ f w st ⟨p,b,U,m,r,d,o,hq,ad,S,ae,I,bB⟩ H bC aP aQ;subst hq;refine sr (ov S rfl (Zh S rfl rfl Z8) fun f S=>oe (Zf fun _ aR=>?_));rcases Zw (decide (b<(((List.replicate (k).toNat (0:Int))).length:Int))) with J | J
  ·have H:=Zv H J;refine ZC S rfl J (wp_skip (Zb (aR _ _ (Zf fun _ aS=>wp_block (sr (mv S rfl fun f S=>mw S rfl fun f S=>oe (Zf fun _ aT=>bO H fun bD aU H=>bO H fun bE aV H=>bO H fun bF af H=>bO H fun bG aW H=>?_)))))));refine bO H fun e ak H=>bO H fun bH v H=>Zm (mv S rfl fun f S=>mv S rfl fun f S=>mv S rfl fun f S=>mv S rfl fun f S=>mv S rfl fun f S=>ov S rfl (Zh S rfl rfl (Z3b aU)) fun f S=>ov S rfl (Zh S rfl rfl (Z6 aV)) fun f S=>?_);have h:=Zp ad h;obtain ⟨_,al,am,bI,rfl,aX,aY⟩:=Zca h (Zi af).2.1;obtain ⟨rfl,aZ⟩:=aY;refine ov S rfl (ZJ S rfl rfl ZU (Zi af).1 (ltI (Zt h) (Zi af).2.2.1)) fun f S=>ov S rfl (ZN S rfl Zwa (S.view aX)) fun f S=>mv S rfl fun f S=>ov S rfl (Zh S rfl rfl (Zsb aW)) fun f S=>ov S rfl (Zh S rfl rfl (ZVb ak)) fun f S=>?_;obtain ⟨ag,rfl⟩:=Zpb S (j:=0) rfl (Zzb I (Zi v).2.2.2);have an:=Zoa ae (Zi v).2.1;obtain ⟨bJ,a0⟩:∃ c,(List.take (Za .u64).n (List.drop ((b).toNat*(Za .u64).n) d))=c:=⟨_,rfl⟩;rw [a0] at an;obtain ⟨rfl,bK⟩:=an;refine ov S rfl (ZJ S rfl rfl ZU (Zi v).1 (ltI I (Zi v).2.2.1)) fun f S=>?_;obtain ⟨w,a1,S⟩:=ZHb S Zwa (off:=0+(b).toNat*1) (z:=.int .u64 e) (cs:=[.int .u64 e]) (Zhb rfl) rfl (i:=0) rfl (ZKb S (j:=0) rfl (ltN I (Zi v).2.2.2)) (by first | rfl | simp [ZEa])
   have V:Rep.rels (Za .u64) o (List.take (0+(b).toNat*1) d++[Value.int IntKind.u64 (e)]++List.drop (0+(b).toNat*1+1) d) (p.set (b).toNat e):=Zqb ae (Zi v).2.2.2 (show Rep.rel (Za .u64) o [.int .u64 e] _ from (Zq (ZLd aZ ak))) rfl rfl;have B:m=(p.set (b).toNat e).length:=Zrb I;refine ZY wn rfl (a1 rfl rfl) (Zl (Zb (aT _ _ (Zf fun _ a2=>bO H fun bL a3 H=>bO H fun bM a4 H=>bO H fun ao a5 H=>Zm (mv S rfl fun f S=>mv S rfl fun f S=>ov S rfl (Zh S rfl rfl (Z3b a3)) fun f S=>ov S rfl (Zh S rfl rfl (Z6 a4)) fun f S=>ov S rfl (Zh S rfl rfl (Z6 a5)) fun f S=>mv S rfl fun f S=>?_)))));refine ov S rfl (Zz S (Zt h) rfl rfl ZU) fun f S=>ov S rfl (Zh S rfl rfl Z8) fun f S=>Zl ?_;have S:=S.fr' (σ':=[(0,.slice (some ⟨al,am,none⟩) P Q),(1,.int .i64 n),(5,.slice (mkA (some ag)) (m) r),(6,.int .i64 b),(19,.int .i64 ((((List.replicate (k).toNat (0:Int))).length:Int))),(20,.int .i64 b),(43,.bool (decide (ao<(((Zj 18446744073709551616 a)).length:Int))))]) rfl;refine Zb (a2 _ _ ?_);obtain ⟨a6,a7,a8⟩:=Zx H;refine ZR (fun f w=>∃ W X L Y Z aa,W=a6∧Zc.le o aa∧St 65 C g [(0,.slice (some ⟨al,am,none⟩) P Q),(1,.int .i64 n),(5,.slice (mkA X) L Y),(19,.int .i64 ((((List.replicate (k).toNat (0:Int))).length:Int))),(20,.int .i64 b)] [Loc.own X 148 1 L Y Z] aa f w∧Rep.rels (Za .u64) aa Z W∧L=W.length) (fun _ ap=>?_) ?_
   ·have H:=a7;rcases Zw (decide (ao<(((Zj 18446744073709551616 a)).length:Int))) with M | M
    ·have H:=Zv H M;refine ZC S rfl M (bO H fun q ab H=>bO H fun bN a9 H=>bO H fun bP ba H=>bO H fun bQ bb H=>bO H fun bR ah H=>bO H fun bS bc H=>bO H fun bT bd H=>bO H fun s be H=>bO H fun bU N H=>Zsa (fl:=#[true,true,true,true,true,true,true,true,true,true,true,true,true,true,true,true,true,true,false]) Zpa (by kernel_rfl) S ?_);intro ops O F w S;refine rfa O F 0 rfl rfl S (Zk S rfl) fun f S=>rfa O F 1 rfl rfl S (Zk S rfl) fun f S=>?_;have aq:=Zoa V (Zi ab).2.1;obtain ⟨bV,ar⟩:∃ c,(List.take (Za .u64).n (List.drop ((b).toNat*(Za .u64).n) (List.take (0+(b).toNat*1) d++[Value.int IntKind.u64 (e)]++List.drop (0+(b).toNat*1+1) d)))=c:=⟨_,rfl⟩;rw [ar] at aq;obtain ⟨rfl,bW⟩:=aq;refine rfa O F 2 rfl rfl S (ZJ S rfl rfl ZU (Zi ab).1 (ltI B (Zi ab).2.2.1)) fun f S=>rfa O F 3 rfl rfl S (ZN S rfl Zwa (ZNb S (j:=0) rfl ar (ltN B (Zi ab).2.2.2) 0 [.int .u64 q] rfl zl)) fun f S=>rfa O F 4 rfl rfl S (Zk S rfl) fun f S=>rfa O F 5 rfl rfl S (Zk S rfl) fun f S=>rfa O F 6 rfl rfl S (Zk S rfl) fun f S=>rfa O F 7 rfl rfl S (Zh S rfl rfl (Z3b a9)) fun f S=>rfa O F 8 rfl rfl S (Zh S rfl rfl (Z6 ba)) fun f S=>rfa O F 9 rfl rfl S (Zh S rfl rfl (Z6 bb)) fun f S=>?_
     obtain ⟨bX,bf,bg⟩:=Zkc h (Zi ah).2.1;obtain ⟨rfl,bY⟩:=bg;refine rfa O F 10 rfl rfl S (ZJ S rfl rfl ZU (Zi ah).1 (ltI (Zt h) (Zi ah).2.2.1)) fun f S=>rfa O F 11 rfl rfl S (ZN S rfl Zwa (S.view bf)) fun f S=>rfa O F 12 rfl rfl S (Zk S rfl) fun f S=>rfa O F 13 rfl rfl S (Zh S rfl rfl (Zsb bc)) fun f S=>rfa O F 14 rfl rfl S (Zh S rfl rfl (Zxa bd)) fun f S=>rfa O F 15 rfl rfl S (Zh S rfl rfl (ZGd be)) fun f S=>rfa O F 16 rfl rfl S (Zh S rfl rfl ZQe) fun f S=>?_;have au:=Zoa V (Zi N).2.1;obtain ⟨bZ,bh⟩:∃ c,(List.take (Za .u64).n (List.drop ((b).toNat*(Za .u64).n) (List.take (0+(b).toNat*1) d++[Value.int IntKind.u64 (e)]++List.drop (0+(b).toNat*1+1) d)))=c:=⟨_,rfl⟩;rw [bh] at au;obtain ⟨rfl,b0⟩:=au;refine rfa O F 17 rfl rfl S (ZJ S rfl rfl ZU (Zi N).1 (ltI B (Zi N).2.2.1)) fun f S=>go1 O F 18 ?_;obtain ⟨w,bi,S⟩:=ZHb S Zwa (off:=0+(b).toNat*1) (z:=.int .u64 (orI .u64 q s)) (cs:=[.int .u64 (orI .u64 q s)]) (Zhb rfl) rfl (i:=0) rfl (ZKb S (j:=0) rfl (ltN B (Zi N).2.2.2)) (by first | rfl | simp [ZEa]);have bj:Rep.rels (Za .u64) o (List.take (0+(b).toNat*1) ((List.take (0+(b).toNat*1) d++[Value.int IntKind.u64 (e)]++List.drop (0+(b).toNat*1+1) d))++[Value.int IntKind.u64 (orI .u64 q s)]++List.drop (0+(b).toNat*1+1) ((List.take (0+(b).toNat*1) d++[Value.int IntKind.u64 (e)]++List.drop (0+(b).toNat*1+1) d))) (((p.set (b).toNat e)).set (b).toNat (orI .u64 q s)):=Zqb V (Zi N).2.2.2 (show Rep.rel (Za .u64) o [.int .u64 (orI .u64 q s)] _ from (Zq (Zva _ _))) rfl rfl
     have bk:m=(((p.set (b).toNat e)).set (b).toNat (orI .u64 q s)).length:=Zrb B;refine nxs [0,1,2,3,4,5,6,7,8,9,10,11,12,13,14,15,16,17] [] O rfl rfl (bi rfl rfl) (⟨Zo,Z4 O F ?_⟩);obtain rfl:=Ze H;refine Zb (ap _ _ ⟨_,some ag,m,r,(List.take (0+(b).toNat*1) ((List.take (0+(b).toNat*1) d++[Value.int IntKind.u64 (e)]++List.drop (0+(b).toNat*1+1) d))++[Value.int IntKind.u64 (orI .u64 q s)]++List.drop (0+(b).toNat*1+1) ((List.take (0+(b).toNat*1) d++[Value.int IntKind.u64 (e)]++List.drop (0+(b).toNat*1+1) d))),_,rfl,(leR _),(S.fr' rfl),bj,bk⟩)
    have H:=Zu H M;refine ZD S rfl M (wp_skip ?_);obtain rfl:=Ze H;refine Zb (ap _ _ ⟨_,some ag,m,r,(List.take (0+(b).toNat*1) d++[Value.int IntKind.u64 (e)]++List.drop (0+(b).toNat*1+1) d),_,rfl,(leR _),(S.fr' rfl),V,B⟩)
   rintro f w ⟨W,X,L,Y,Z,aa,hq,bm,S,bn,bo⟩;subst hq;have H:=a8;refine Zia (Zb (aS _ _ (bO H fun b1 av H=>Zm (ov S rfl (Zh S rfl rfl (Z6 av)) fun f S=>mv S rfl fun f S=>Zl ?_))));obtain rfl:=Ze H;refine aP _ rfl _ _ ⟨_,_,X,L,Y,Z,_,rfl,(leT ad bm),(S.fr' rfl),bn,bo,(Z2 av).2⟩
  have H:=Zu H J;refine ZD S rfl J (wp_exit (ZP ?_));obtain rfl:=Ze H;have hq:=aQ _ rfl;subst hq;have H:=aN;refine ZP (Zfa ?_);obtain rfl:=Ze H;refine Zb (aL _ _ ⟨_,U,m,r,d,_,rfl,(leT (leR _) ad),(S.fr' rfl),ae,I⟩)
 rintro f w ⟨t,E,u,G,ac,T,hq,b2,S,bp,bq⟩;subst hq;have H:=aK;refine Zb (aH _ _ (Zf fun _ br=>bO H fun b3 bs H=>Zm (mv S rfl fun f S=>?_)));obtain ⟨b4,b5,S,bt⟩:=S.pubSlice (i:=0) (A:=(Za .u64)) (l:=t) (ℓ':=[]) rfl rfl bq bp rfl;refine opc S rfl (Zn S [.slice (mkA E) u G] Zud rfl rfl) (Zxd S.vin (show Rep.rel (Zs (Za .u64)) _ [.slice (mkA E) u G] t from bt) bs) ?_;rintro _ b6 f w b7 ⟨b8,rfl,aw⟩ S;obtain ⟨bu,bv,bw,rfl⟩:=Z1 aw;refine mw S rfl fun f S=>Zl (Zb (br _ _ (wp_ret ?_)));obtain rfl:=Ze H;refine ZA S (ZO rfl (ZG S rfl)) ⟨[.slice bu bv bw],rfl,aw⟩
theorem right_c {c:World} {b:Zc} (hv:VIn b c) {d:List Value} {a:Nat} (h:Rep.rel Zy b d a) {e:List Value} {n:Int} (f:Rep.rel (Za .i64) b e n) {z:Nat} (hm:Znf a n=some z) :
  Ret Tryz.prog 149 #[Zy.val d,(Za .i64).val e] c b (fun y v'=>∃ g,y=Zy.val g∧Zy.rel v' g z) :=
 right_w hv h f (Zkp f.2 hm)
theorem ZEn {w0:World} {F:Zc} (hv:VIn F w0) {c0:List Value} {a:Nat} (m:Rep.rel Zy F c0 a) {c1:List Value} {b:Nat} (g:Rep.rel Zy F c1 b) {z:Nat×Nat} (H:Zmg a b=some z):Ret Tryz.prog 116 #[Zy.val c0,Zy.val c1] w0 F (fun y v'=>∃ r0 r1,y = .tuple #[Zy.val r0,Zy.val r1]∧Zy.rel v' r0 z.1∧Zy.rel v' r1 z.2):=by
 obtain ⟨R,T,U,rfl⟩:=Z1 m;obtain ⟨q4,n5,k6,rfl⟩:=Z1 g;refine ZW (K:=84) (args:=[.slice R T U,.slice q4 n5 k6]) hv Tryz.func116 rfl rfl zl fun f S=>?_;unfold Zmg at H;refine sr (mw S rfl fun f S=>mw S rfl fun f S=>oe (Zf fun _ bb=>wp_block (Zf fun _ bc=>bO H fun bd be H=>Zm (mv S rfl fun f S=>mv S rfl fun f S=>opc S rfl (Zn S [.slice R T U,.slice q4 n5 k6] Zcf rfl rfl) (Zwf S.vin m g be) ?_))));rintro _ cR f w aj ⟨cS,rfl,bf⟩ S;obtain ⟨rfl,cT⟩:=bf;refine ov S rfl (Zh S rfl rfl Z8) fun f S=>mw S rfl fun f S=>Zl (Zb (bc _ _ ?_));rcases Zw (decide (bd<(0:Int))) with V | V
 ·have H:=Zv H V;refine ZC S rfl V (sr (mv S rfl fun f S=>mw S rfl fun f S=>mw S rfl fun f S=>oe (wp_ret (Z3a (ZS ?_)))));obtain rfl:=Ze H;have m:=Zp aj m;refine ZA S (ZIa rfl (ZG S rfl) (ZG S rfl)) ⟨[.slice none 0 0],[.slice R T U],rfl,(Zff _),m⟩
 have H:=Zu H V;refine ZD S rfl V (sr (mv S rfl fun f S=>?_));have g:=Zp aj g;refine ov S rfl (Zz S (Zt g) rfl rfl ZU) fun f S=>ov S rfl (Zh S rfl rfl Z9) fun f S=>mw S rfl fun f S=>oe ?_;rcases Zw (((((Zj 18446744073709551616 b)).length:Int))==(1:Int)) with W | W
 ·have H:=Zv H W;refine ZC S rfl W (Zf fun _ bg=>bO H fun au av H=>bO H fun aw bh H=>Zm (mv S rfl fun f S=>mv S rfl fun f S=>?_));obtain ⟨_,cU,cV,cW,rfl,ax,bi⟩:=Zca g (Zi av).2.1;obtain ⟨rfl,bj⟩:=bi;refine ov S rfl (ZJ S rfl rfl ZU (Zi av).1 (ltI (Zt g) (Zi av).2.2.1)) fun f S=>ov S rfl (ZN S rfl Zwa (S.view ax)) fun f S=>?_;have m:=Zp aj m;refine opc S rfl (Zn S [.slice R T U,.int .u64 au] Zzl rfl rfl) (Zsk S.vin m (show Rep.rel (Za .u64) _ [.int .u64 au] au from (Zq bj)) bh) ?_;rintro _ cX f w bk ⟨cY,cZ,rfl,ak,bm⟩ S;have ax:=Atm bk ax;obtain ⟨aS,aT,aU,rfl⟩:=Z1 ak;obtain ⟨rfl,bn⟩:=bm;refine mv S rfl fun f S=>ov S rfl (ZK S rfl rfl) fun f S=>ov S rfl (ZK S rfl rfl) fun f S=>mw S rfl fun f S=>mw S rfl fun f S=>Zl (Zb (bg _ _ (Zf fun _ bo=>bO H fun c2 bp H=>Zm (mv S rfl fun f S=>mv S rfl fun f S=>opc S rfl (Zn S [.int .u64 (aw.2)] Zje rfl rfl) (Zwe S.vin (show Rep.rel (Za .u64) _ [.int .u64 (aw.2)] aw.2 from (Zq bn)) bp) ?_))));rintro _ c3 f w bq ⟨c4,rfl,aV⟩ S;obtain ⟨aW,aX,aY,rfl⟩:=Z1 aV;refine mw S rfl fun f S=>mw S rfl fun f S=>Zl ?_;have S:=S.fr' (σ':=[(4,.slice aS aT aU),(5,.slice aW aX aY)]) rfl;refine Zb (bo _ _ (wp_ret (Z3a (ZS ?_))))
  obtain rfl:=Ze H;have ak:=Zp bq ak;refine ZA S (ZIa rfl (ZG S rfl) (ZG S rfl)) ⟨[.slice aS aT aU],[.slice aW aX aY],rfl,ak,aV⟩
 have H:=Zu H W;refine ZD S rfl W (wp_skip (Zia (Zb (bb _ _ (Zf fun _ br=>bO H fun c5 bs H=>bO H fun ay az H=>bO H fun k bt H=>Zm (mv S rfl fun f S=>mv S rfl fun f S=>ov S rfl (Zz S (Zt g) rfl rfl ZU) fun f S=>ov S rfl (Zh S rfl rfl (Zxa bs)) fun f S=>?_))))));obtain ⟨_,bu,bv,c6,rfl,aA,bw⟩:=Zca g (Zi az).2.1;obtain ⟨rfl,bx⟩:=bw;refine ov S rfl (ZJ S rfl rfl ZU (Zi az).1 (ltI (Zt g) (Zi az).2.2.1)) fun f S=>ov S rfl (ZN S rfl Zwa (S.view aA)) fun f S=>opc S rfl (Zn S [.int .u64 ay] Zhm rfl rfl) (Zbm S.vin (show Rep.rel (Za .u64) _ [.int .u64 ay] ay from (Zq bx)) bt) ?_;rintro _ c7 f w aB ⟨c8,rfl,bz⟩ S;have aA:=Atm aB aA;obtain ⟨rfl,aC⟩:=bz;refine mw S rfl fun f S=>Zl (Zb (br _ _ (Zf fun _ bA=>bO H fun bB bC H=>Zm (mv S rfl fun f S=>mv S rfl fun f S=>?_))));have g:=Zp aB g;refine opc S rfl (Zn S [.slice (some ⟨bu,bv,none⟩) n5 k6,.int .i64 k] ZZh rfl rfl) (Zbh S.vin g (show Rep.rel (Za .i64) _ [.int .i64 k] k from (Zq aC)) bC) ?_;rintro _ bD f w bE ⟨c9,rfl,v⟩ S;obtain ⟨aD,aE,aF,rfl⟩:=Z1 v;refine mw S rfl fun f S=>Zl (Zb (bA _ _ (Zf fun _ bF=>bO H fun X bG H=>bO H fun da bH H=>bO H fun db bI H=>Zm ?_)))
 obtain ⟨dc,w,bJ,S⟩:=Zfb (P:=Tryz.prog) (t:=30) (e:=148) S (n:=0) (cs:=[]) (vals:=[]) (sz:=1) rfl (by decide) (fun _=>by kernel_rfl);have aG:Rep.rels (Za .u64) bD [] []:=ZPa;refine Zza wn rfl zl (bJ rfl) S fun f S=>mv S rfl fun f S=>mv S rfl fun f S=>?_;have m:=Zp (leT (leT aj aB) bE) m;refine opc S rfl (Zn S [.slice R T U,.int .i64 k] ZZh rfl rfl) (Zbh S.vin m (show Rep.rel (Za .i64) _ [.int .i64 k] k from (Zq aC)) bG) ?_;rintro _ al f w aZ ⟨dd,rfl,aH⟩ S;have aG:=ZH aZ aG;obtain ⟨de,df,dg,rfl⟩:=Z1 aH;have aI:=S;obtain ⟨dh,di,a0,w,bK,S,bL⟩:=Z0i (ty:=30) (A:=(Za .u64)) ZFc S (i:=0) (n':=(([]:(List Int))++((Zj 18446744073709551616 X))).length) rfl aH (Zlc rfl (Zt aH)) (Zoc bH) (by decide);have bM:=ZLb aG bL;refine Zza wn rfl zl (Ztc aI rfl rfl bK) S fun f S=>?_;obtain ⟨dj,w,bN,S⟩:=Zfb S (n:=1) (cs:=[.int .u64 0]) (vals:=[(0,.int .u64 0)]) (sz:=1) rfl (by decide) (Z8b ZFc (x:=.int .u64 0) (cs:=[.int .u64 0]) rfl rfl (by decide));have aJ:Rep.rels (Za .u64) al [.int .u64 0] [(0:Int)]:=(Z9a (Zq (by decide)) ZPa);refine Zza wn rfl zl (bN rfl) S fun f S=>?_;have aI:=S;obtain ⟨aK,aL,w,bP,S⟩:=ZEc (ty:=30) ZFc S (i:=1) (n':=((([]:(List Int))++((Zj 18446744073709551616 X)))++[(0:Int)]).length) rfl (ZZb aJ rfl) (ZTc S (j:=0) rfl) (ZHc aJ) (Zlc rfl rfl) (Zoc bI) (by decide)
 have bQ:=ZLb bM aJ;refine Zza wn rfl zl (Ztc aI rfl rfl bP) S fun f S=>mw S rfl fun f S=>Zl ?_;have S:=S.fr' (σ':=[(8,.int .i64 k),(9,.slice aD aE aF),(10,.slice (mkA aK) (((([]:(List Int))++((Zj 18446744073709551616 X)))++[(0:Int)]).length) aL)]) rfl;refine Zb (bF _ _ (sr (mv S rfl fun f S=>?_)));have v:=Zp aZ v;refine ov S rfl (Zz S (Zt v) rfl rfl ZU) fun f S=>mw S rfl fun f S=>oe (Zf fun _ bR=>bO H fun q bS H=>bO H fun dk am H=>Zm (mv S rfl fun f S=>ov S rfl (Zz S rfl rfl rfl ZU) fun f S=>mv S rfl fun f S=>ov S rfl (Zh S rfl rfl (Zxa bS)) fun f S=>?_));obtain ⟨aM,a1⟩:∃ c:List Value,c=(List.replicate (q).toNat [.int .u64 0]).flatten:=⟨_,rfl⟩;obtain ⟨a2,w,bT,S⟩:=Zeb ZFc S (l:=q) (c:=q) (ZT am).1 (ZT am).2.1 (ZT am).2.2.1 (ZT am).2.2.2 a1;have bU:Rep.rels (Za .u64) al aM (List.replicate (q).toNat (0:Int)):=by rw [a1];exact Zbb (show Rep.rel (Za .u64) _ [.int .u64 0] _ from (Zq (by decide))) _
 refine Zza wn rfl zl (bT rfl rfl) S fun f S=>mw S rfl fun f S=>Zl (Zb (bR _ _ (Zf fun _ bV=>Zf fun _ bW=>bO H fun dl a3 H=>Zm (mv S rfl fun f S=>ov S rfl (Zz S (ZYa (x:=(0:Int))) rfl rfl ZU) fun f S=>ov S rfl (Zh S rfl rfl (Zxa a3)) fun f S=>mw S rfl fun f S=>Zl (Zb (bW _ _ ?_))))));obtain ⟨bX,bY,bZ⟩:=Zx H;refine ZR (fun f w=>∃ G I J B L an Y M Z aN aa,(G,I)=bX∧Zc.le al aa∧St 84 w0 F [(8,.int .i64 k),(10,.slice (mkA J) B L),(12,.slice (mkA Y) M Z)] [Loc.own J 148 1 B L an,Loc.own Y 148 1 M Z aN] aa f w∧Rep.rels (Za .u64) aa an G∧B=G.length∧Rep.rels (Za .u64) aa aN I∧M=I.length) (fun _ b0=>?_) ?_
 ·have H:=bY;refine wp_block ?_;obtain ⟨dm,b1,b2⟩:=Zx H;have S:=S.reorder (ℓ':=[Loc.own aK 148 1 (((([]:(List Int))++((Zj 18446744073709551616 X)))++[(0:Int)]).length) aL ((([]++a0)++[.int .u64 0])),Loc.own (some a2) 148 1 ((q).toNat) (q).toNat aM]) [2,0] rfl (by decide);refine Zma b1 (fun b3 f w=>∃ ao N d ap C D s aq E ab o ac,(ao,N,d)=b3∧Zc.le al ac∧St 84 w0 F [(8,.int .i64 k),(9,.slice aD aE aF),(10,.slice (mkA ap) C D),(11,.int .i64 ((((Zj 18446744073709551616 bB)).length:Int))),(12,.slice (mkA aq) E ab),(13,.int .i64 d)] [Loc.own ap 148 1 C D s,Loc.own aq 148 1 E ab o] ac f w∧Rep.rels (Za .u64) ac s ao∧C=ao.length∧Rep.rels (Za .u64) ac o N∧E=N.length∧inR .i64 d) ⟨_,_,_,aK,((([]:(List Int))++((Zj 18446744073709551616 X)))++[(0:Int)]).length,aL,(([]++a0)++[.int .u64 0]),some a2,(q).toNat,(q).toNat,aM,_,rfl,(leR _),(S.fr' rfl),bQ,rfl,bU,(ZYa (x:=(0:Int))),(Z2 a3).2⟩ ?_;rintro _ f w st ⟨ao,N,d,ap,C,D,s,aq,E,ab,o,ac,hq,aO,S,ad,ae,af,ag,dn⟩ H dp b4 b5
  subst hq;refine Zf fun _ b6=>sr (mv S rfl fun f S=>ov S rfl (Zh S rfl rfl ZFb) fun f S=>oe ?_);rcases Zw (decide ((0:Int)≤d)) with ah | ah
  ·have H:=Zv H ah;refine ZC S rfl ah (wp_skip (Zb (b6 _ _ (Zf fun _ b7=>wp_block (bO H fun dq b8 H=>bO H fun O b9 H=>bO H fun dr h H=>bO H fun u ca H=>bO H fun ds Q H=>Zm (mv S rfl fun f S=>mv S rfl fun f S=>mv S rfl fun f S=>?_))))));refine mv S rfl fun f S=>mv S rfl fun f S=>mv S rfl fun f S=>ov S rfl (Zh S rfl rfl (Z6 b8)) fun f S=>ov S rfl (Zh S rfl rfl (Z6 b9)) fun f S=>?_;obtain ⟨aP,rfl⟩:=Zpb S (j:=0) rfl (by have:=ZNc h;have:=ae;omega);refine ov S rfl (Z6o S (j:=0) rfl ZU (ZNc h).1 (ZNc h).2.1 (by have:=(ZNc h).2.2.1;have:=ae;omega) rfl rfl rfl) fun f S=>mv S rfl fun f S=>?_;obtain ⟨pre399,post400,cb,cc,cd,ce,cf,cg⟩:=Z2p S (i:=0) (lo:=(d).toNat) (hi:=(O).toNat) rfl (ZNc h).2.2.2.2.2.1 (by have:=(ZNc h).2.2.2.2.2.2;have:=ae;omega);have v:=Zp aO v;refine Zul S wn rfl zl (Zn S [.slice (some ⟨aP,(d).toNat*1,none⟩) ((O-d).toNat) (D-(d).toNat),.slice aD aE aF] k_en148 rfl rfl) (i:=0) rfl rfl (digit_c S.vin cb cd cc (ZNc h).2.2.2.2.1 ⟨Z0n (ZNc h).1 (ZNc h).2.1 ce,cf⟩ (ZSp ad rfl (ZNc h).2.2.2.1) v ca) ?_;rintro _ a4 f w aQ ⟨⟨dt,rfl,ch⟩,ci,aR,cj,ck,a5⟩ hSf;have ad:=ZH aQ ad
   have af:=ZH aQ af;have a6:((O).toNat-(d).toNat)=u.2.length:=by have:=ck;have:=ZNc h;omega
   have S:=hSf (Loc.own (some aP) 148 1 C D (List.take ((d).toNat*1) s++aR++List.drop ((O).toNat*1) s)) rfl (cg _ aR (ZZb a5 a6) cj) ci;have cl:=ZMp (p:=(d).toNat) (r:=(O).toNat) (sz:=1) ad a5 rfl;have cm:=ZFn ae (ZNc h).2.2.2.2.2.1 (ZNc h).2.2.2.2.2.2 a6;obtain ⟨rfl,cn⟩:=ch;obtain ⟨co,rfl⟩:=Zpb S (j:=1) rfl (Zzb ag (Zi Q).2.2.2);have a7:=Zoa af (Zi Q).2.1;obtain ⟨du,cp⟩:∃ c,(List.take (Za .u64).n (List.drop ((d).toNat*(Za .u64).n) o))=c:=⟨_,rfl⟩;rw [cp] at a7;obtain ⟨rfl,dv⟩:=a7;refine ov S rfl (ZJ S rfl rfl ZU (Zi Q).1 (ltI ag (Zi Q).2.2.1)) fun f S=>?_;obtain ⟨w,cq,S⟩:=ZHb S Zwa (off:=0+(d).toNat*1) (z:=.int .u64 (u.1)) (cs:=[.int .u64 (u.1)]) (Zhb rfl) rfl (i:=1) rfl (ZKb S (j:=1) rfl (ltN ag (Zi Q).2.2.2)) (by first | rfl | simp [ZEa]);have cr:Rep.rels (Za .u64) a4 (List.take (0+(d).toNat*1) o++[Value.int IntKind.u64 (u.1)]++List.drop (0+(d).toNat*1+1) o) (N.set (d).toNat u.1):=Zqb af (Zi Q).2.2.2 (show Rep.rel (Za .u64) a4 [.int .u64 (u.1)] _ from (Zq cn)) rfl rfl;have ct:E=(N.set (d).toNat u.1).length:=Zrb ag;refine ZY wn rfl (cq rfl rfl) (Zl (Zia (Zb (b7 _ _ (bO H fun dw a8 H=>Zm (mv S rfl fun f S=>ov S rfl (Zh S rfl rfl (Zxa a8)) fun f S=>mw S rfl fun f S=>Zl ?_))))))
   obtain rfl:=Ze H;refine b4 _ rfl _ _ ⟨_,_,_,some aP,C,D,(List.take ((d).toNat*1) s++aR++List.drop ((O).toNat*1) s),some co,E,ab,(List.take (0+(d).toNat*1) o++[Value.int IntKind.u64 (u.1)]++List.drop (0+(d).toNat*1+1) o),_,rfl,(leT aO aQ),(S.fr' rfl),cl,cm,cr,ct,(Z2 a8).2⟩
  have H:=Zu H ah;refine ZD S rfl ah (wp_exit (ZP ?_));obtain rfl:=Ze H;have hq:=b5 _ rfl;subst hq;have H:=b2;refine ZP (Zfa ?_);obtain rfl:=Ze H;refine Zb (b0 _ _ ⟨_,_,ap,C,D,s,aq,E,ab,o,_,rfl,(leT (leR _) aO),(S.fr' rfl),ad,ae,af,ag⟩)
 rintro f w ⟨G,I,J,B,L,an,Y,M,Z,aN,aa,hq,dx,S,ai,cu,cv,cw⟩;subst hq;have H:=bZ;refine Zb (bV _ _ (Zf fun _ cx=>bO H fun dy cy H=>bO H fun dz cz H=>bO H fun dA cA H=>Zm (mv S rfl fun f S=>?_)));obtain ⟨dD,cB,S,cC⟩:=S.pubSlice (i:=1) (A:=(Za .u64)) (l:=I) (ℓ':=[Loc.own J 148 1 B L an]) rfl rfl cw cv rfl;have ai:=ZH cB ai;refine opc S rfl (Zn S [.slice (mkA Y) M Z] Zud rfl rfl) (Zxd S.vin (show Rep.rel (Zs (Za .u64)) _ [.slice (mkA Y) M Z] I from cC) cy) ?_;rintro _ dE f w cD ⟨dF,rfl,ar⟩ S;have ai:=ZH cD ai;obtain ⟨cE,cF,cG,rfl⟩:=Z1 ar;refine mv S rfl fun f S=>?_;obtain ⟨dG,cH,S,cI⟩:=S.pubSlice (i:=0) (A:=(Za .u64)) (l:=G) (ℓ':=[]) rfl rfl cu ai rfl;refine opc S rfl (Zn S [.slice (mkA J) B L] Zud rfl rfl) (Zxd S.vin (show Rep.rel (Zs (Za .u64)) _ [.slice (mkA J) B L] G from cI) cz) ?_;rintro _ dH f w cJ ⟨dI,rfl,a9⟩ S;obtain ⟨cK,cL,cM,rfl⟩:=Z1 a9;refine mv S rfl fun f S=>opc S rfl (Zn S [.slice cK cL cM,.int .i64 k] k_en149 rfl rfl) (right_c S.vin a9 (show Rep.rel (Za .i64) _ [.int .i64 k] k from (Zq aC)) cA) ?_;rintro _ dJ f w cN ⟨dK,rfl,ba⟩ S;obtain ⟨cO,cP,cQ,rfl⟩:=Z1 ba
 refine mw S rfl fun f S=>mw S rfl fun f S=>Zl (Zb (cx _ _ (wp_ret ?_)));obtain rfl:=Ze H;have ar:=Zp (leT (leT cH cJ) cN) ar;refine ZA S (ZIa rfl (ZG S rfl) (ZG S rfl)) ⟨[.slice cE cF cG],[.slice cO cP cQ],rfl,ar,ba⟩
theorem ZIi {d:World} {c:Zc} (hv:VIn c d) {e:List Value} {a:Nat} (i:Rep.rel Zy c e a) {f:List Value} {b:Nat} (j:Rep.rel Zy c f b) {z:Nat×Nat} (hm:Z9c a b=some z) :
  Ret Tryz.prog 116 #[Zy.val e,Zy.val f] d c (fun y v'=>∃ g h,y=Value.tuple #[Zy.val g,Zy.val h]∧Zy.rel v' g z.1∧Zy.rel v' h z.2) :=
 ZEn hv i j (Ztp hm)
theorem small_w {d:World} {c:Zc} (hv:VIn c d) {t:List Value} {a:Nat} (l:Rep.rel Zy c t a) {u:List Value} {b:Nat} (e:Rep.rel Zy c u b) {z:Int} (H:Z9f a b=some z):Ret Tryz.prog 146 #[Zy.val t,Zy.val u] d c (fun y v'=>∃ v,y=(Za .u64).val v∧(Za .u64).rel v' v z):=by
 obtain ⟨G,I,J,rfl⟩:=Z1 l;obtain ⟨x,A,B,rfl⟩:=Z1 e;refine ZW (K:=23) (args:=[.slice G I J,.slice x A B]) hv Tryz.func146 rfl rfl zl fun f S=>?_;unfold Z9f at H;refine sr (mw S rfl fun f S=>oe (sr (mw S rfl fun f S=>oe (Zf fun _ L=>sr (mv S rfl fun f S=>ov S rfl (Zz S (Zt l) rfl rfl ZU) fun f S=>ov S rfl (Zh S rfl rfl ZKa) fun f S=>oe ?_)))));obtain ⟨M,N,P⟩:=Zx H;refine ZR (fun f w=>∃ m g,m=M∧Zc.le c g∧St 23 d c [(1,.slice x A B),(5,.int .u64 m)] [] g f w∧inR .u64 m) (fun _ C=>?_) ?_
 ·have H:=N;rcases Zw (decide ((0:Int)<(((Zj 18446744073709551616 a)).length:Int))) with h | h
  ·have H:=Zv H h;refine ZC S rfl h (bO H fun an o H=>Zm (mv S rfl fun f S=>?_));obtain ⟨_,ao,ap,aq,rfl,Q,R⟩:=Zca l (Zi o).2.1;obtain ⟨rfl,T⟩:=R;refine ov S rfl (ZJ S rfl rfl ZU (Zi o).1 (ltI (Zt l) (Zi o).2.2.1)) fun f S=>ov S rfl (ZN S rfl Zwa (S.view Q)) fun f S=>mw S rfl fun f S=>Zl ?_;obtain rfl:=Ze H;refine Zb (C _ _ ⟨_,_,rfl,(leR _),(S.fr' rfl),T⟩)
  have H:=Zu H h;refine ZD S rfl h (wp_skip ?_);obtain rfl:=Ze H;refine Zb (C _ _ ⟨_,_,rfl,(leR _),(S.fr' rfl),(by decide)⟩)
 rintro f w ⟨m,g,hq,U,S,V⟩;subst hq;have H:=P;refine Zb (L _ _ (Zf fun _ W=>bO H fun ar p H=>Zm (mv S rfl fun f S=>?_)));have e:=Zp U e;obtain ⟨_,au,av,aw,rfl,X,Y⟩:=Zca e (Zi p).2.1;obtain ⟨rfl,Z⟩:=Y;refine ov S rfl (ZJ S rfl rfl ZU (Zi p).1 (ltI (Zt e) (Zi p).2.2.1)) fun f S=>ov S rfl (ZN S rfl Zwa (S.view X)) fun f S=>mw S rfl fun f S=>Zl (Zb (W _ _ (Zf fun _ aa=>?_)));obtain ⟨ab,ac,ad⟩:=Zx H;refine ZR (fun f w=>∃ i q,i=ab∧Zc.le g q∧St 23 d c [(5,.int .u64 i)] [] q f w∧inR .u64 i) (fun _ ae=>?_) ?_
 ·have H:=ac;refine wp_block ?_;obtain ⟨ax,af,ag⟩:=Zx H;refine Zma af (fun ah f w=>∃ n j r,(n,j)=ah∧Zc.le g r∧St 23 d c [(5,.int .u64 n),(6,.int .u64 j)] [] r f w∧inR .u64 n∧inR .u64 j) ⟨_,_,_,rfl,(leR _),(S.fr' rfl),V,Z⟩ ?_;rintro _ f w st ⟨n,j,r,hq,D,S,E,ai⟩ H ay aj ak;subst hq;refine Zf fun _ al=>sr (mv S rfl fun f S=>ov S rfl (Zh S rfl rfl ZKa) fun f S=>oe ?_);rcases Zw (decide ((0:Int)<j)) with k | k
  ·have H:=Zv H k;refine ZC S rfl k (wp_skip (Zb (al _ _ (wp_block (bO H fun az s H=>Zsa (fl:=#[true,true,true,true,false,false]) Zpa (by kernel_rfl) S ?_)))));intro ops O F w S;refine rfa O F 0 rfl rfl S (Zk S rfl) fun f S=>rfa O F 1 rfl rfl S (Zk S rfl) fun f S=>rfa O F 2 rfl rfl S (Zk S rfl) fun f S=>rfa O F 3 rfl rfl S (Zh S rfl rfl (Zsb s)) fun f S=>go1 O F 4 (nva [0,1] [2,3] O rfl rfl S (Zha S rfl) fun f S=>⟨(py S rfl rfl (Zk S rfl) (py S rfl rfl (Zh S rfl rfl (Zsb s)) Zo)),go1 O F 5 (nva [0,1,2,3,4] [] O rfl rfl S (Zha S rfl) fun f S=>⟨Zo,Z4 O F (Zia ?_)⟩)⟩);obtain rfl:=Ze H;refine aj _ rfl _ _ ⟨_,_,_,rfl,D,(S.fr' rfl),ai,(ZMe E s)⟩
  have H:=Zu H k;refine ZD S rfl k (wp_exit (ZP ?_));obtain rfl:=Ze H;have hq:=ak _ rfl;subst hq;have H:=ag;refine ZP (Zfa ?_);obtain rfl:=Ze H;refine Zb (ae _ _ ⟨_,_,rfl,(leT (leR _) D),(S.fr' rfl),E⟩)
 rintro f w ⟨i,q,hq,aA,S,am⟩;subst hq;have H:=ad;refine Zb (aa _ _ (sr (mv S rfl fun f S=>mw S rfl fun f S=>oe (wp_ret ?_))));obtain rfl:=Ze H;refine ZA S (ZO rfl (ZG S rfl)) ⟨[.int .u64 i],rfl,(Zq am)⟩
theorem small_c {d:World} {c:Zc} (hv:VIn c d) {e:List Value} {a:Nat} (h:Rep.rel Zy c e a) {f:List Value} {b:Nat} (i:Rep.rel Zy c f b) {z:Int} (hm:Z0e a b=some z) :
  Ret Tryz.prog 146 #[Zy.val e,Zy.val f] d c (fun y v'=>∃ g,y=(Za .u64).val g∧(Za .u64).rel v' g z) :=
 small_w hv h i (Z4p hm)
theorem gcd_w {n:World} {d:Zc} (hv:VIn d n) {G:List Value} {a:Nat} (I:Rep.rel Zy d G a) {J:List Value} {b:Nat} (L:Rep.rel Zy d J b) {z:Nat} (H:ZMf a b=some z):Ret Tryz.prog 114 #[Zy.val G,Zy.val J] n d (fun y v'=>∃ M,y=Zy.val M∧Zy.rel v' M z):=by
 obtain ⟨W,X,Y,rfl⟩:=Z1 I;obtain ⟨Z,n5,k6,rfl⟩:=Z1 L;refine ZW (K:=31) (args:=[.slice W X Y,.slice Z n5 k6]) hv Tryz.func114 rfl rfl zl fun f S=>?_;unfold ZMf at H;refine sr (mw S rfl fun f S=>oe (Zf fun _ aa=>?_));obtain ⟨ab,ac,N⟩:=Zx H;refine ZR (fun f w=>∃ D s u v x,(.inl D)=ab∧Zc.le d x∧St 31 n d [(0,.slice s u v)] [] x f w∧Rep.rel Zy x [.slice s u v] D) (fun _ ad=>?_) ?_
 ·have H:=ac;refine wp_block ?_;obtain ⟨aB,ae,O⟩:=Zx H;refine Zma ae (fun af f w=>∃ A B g h i j k l m,(A,B)=af∧Zc.le d m∧St 31 n d [(0,.slice g h i),(1,.slice j k l)] [] m f w∧Rep.rel Zy m [.slice g h i] A∧Rep.rel Zy m [.slice j k l] B) ⟨_,_,_,_,_,_,_,_,_,rfl,(leR _),(S.fr' rfl),I,L⟩ ?_;rintro _ f w st ⟨A,B,g,h,i,j,k,l,m,hq,P,S,e,c⟩ H aC ag Q;subst hq;refine Zf fun _ ah=>sr (mv S rfl fun f S=>ov S rfl (Zz S (Zt c) rfl rfl ZU) fun f S=>ov S rfl (Zh S rfl rfl ZKa) fun f S=>oe ?_);rcases Zw (decide ((0:Int)<(((Zj 18446744073709551616 B)).length:Int))) with o | o
  ·have H:=Zv H o;refine ZC S rfl o (wp_skip (Zb (ah _ _ (wp_block (Zf fun _ ai=>Zf fun _ aj=>?_)))));obtain ⟨ak,al,am⟩:=Zx H;refine ZR (fun f w=>∃ C E,C=ak∧Zc.le m E∧St 31 n d [(0,.slice g h i),(1,.slice j k l),(17,.bool C)] [] E f w) (fun _ R=>?_) ?_
   ·have H:=al;rcases Zw (decide ((((Zj 18446744073709551616 A)).length:Int)≤(1:Int))) with p | p
    ·have H:=Zv H p;refine Zm (mv S rfl fun f S=>ov S rfl (Zz S (Zt e) rfl rfl ZU) fun f S=>ov S rfl (Zh S rfl rfl Z5d) fun f S=>?_);have S:=S.bool (t:=12) rfl p;refine mv S rfl fun f S=>opy S rfl rfl rfl rfl (Zk S rfl) fun f S=>opy S rfl rfl rfl rfl (Zz S (Zt c) rfl rfl ZU) fun f S=>opy S rfl rfl rfl rfl (Zh S rfl rfl Z5d) fun f S=>ov S rfl (ZL S (b:=true) rfl rfl) fun f S=>Zl ?_;obtain rfl:=Ze H;refine Zb (R _ _ ⟨_,_,rfl,(leR _),(S.fr' rfl)⟩)
    have H:=Zu H p;refine Zm (mv S rfl fun f S=>ov S rfl (Zz S (Zt e) rfl rfl ZU) fun f S=>ov S rfl (Zh S rfl rfl Z5d) fun f S=>?_);have S:=S.bool (t:=12) rfl p;refine mv S rfl fun f S=>opn S rfl rfl rfl rfl fun f S=>opn S rfl rfl rfl rfl fun f S=>opn S rfl rfl rfl rfl fun f S=>ov S rfl (ZL S (b:=false) rfl rfl) fun f S=>Zl ?_;obtain rfl:=Ze H;refine Zb (R _ _ ⟨_,_,rfl,(leR _),(S.fr' rfl)⟩)
   rintro f w ⟨C,E,hq,q,S⟩;subst hq;have H:=am;refine Zb (aj _ _ ?_);rcases Zw (C) with r | r
   ·have H:=Zv H r;refine ZC S rfl r (Zf fun _ an=>bO H fun F ao H=>bO H fun aD ap H=>Zm (mv S rfl fun f S=>mv S rfl fun f S=>?_));have e:=Zp q e;have c:=Zp q c;refine opc S rfl (Zn S [.slice g h i,.slice j k l] k_en146 rfl rfl) (small_c S.vin e c ao) ?_;rintro _ aE f w aF ⟨aG,rfl,aq⟩ S;obtain ⟨rfl,ar⟩:=aq;refine opc S rfl (Zn S [.int .u64 F] Zje rfl rfl) (Zwe S.vin (show Rep.rel (Za .u64) _ [.int .u64 F] F from (Zq ar)) ap) ?_;rintro _ aH f w aI ⟨aJ,rfl,T⟩ S;obtain ⟨au,av,aw,rfl⟩:=Z1 T;refine mw S rfl fun f S=>Zl (Zb (an _ _ (wp_ret (ZS (Z3a ?_)))));obtain rfl:=Ze H;have hq:=Q _ rfl;subst hq;have H:=O;refine ZS (Z3a ?_);obtain rfl:=Ze H;have H:=N;refine ZS (ZS ?_);obtain rfl:=Ze H;refine ZA S (ZO rfl (ZG S rfl)) ⟨[.slice au av aw],rfl,T⟩
   have H:=Zu H r;refine ZD S rfl r (wp_skip (Zb (ai _ _ (Zf fun _ ax=>bO H fun aK ay H=>Zm (mv S rfl fun f S=>mv S rfl fun f S=>?_)))));have e:=Zp q e;have c:=Zp q c;refine opc S rfl (Zn S [.slice g h i,.slice j k l] Zyh rfl rfl) (ZIi S.vin e c ay) ?_;rintro _ aL f w U ⟨aM,aN,rfl,az,V⟩ S;obtain ⟨aO,aP,aQ,rfl⟩:=Z1 az;obtain ⟨aR,aS,aT,rfl⟩:=Z1 V;refine mv S rfl fun f S=>ov S rfl (ZK S rfl rfl) fun f S=>ov S rfl (ZK S rfl rfl) fun f S=>mw S rfl fun f S=>mw S rfl fun f S=>Zl (Zb (ax _ _ (Zm (mv S rfl fun f S=>mv S rfl fun f S=>mw S rfl fun f S=>mw S rfl fun f S=>Zl (Zia ?_)))));obtain rfl:=Ze H;have c:=Zp U c;refine ag _ rfl _ _ ⟨_,_,_,_,_,_,_,_,_,rfl,(leT (leT P q) U),(S.fr' rfl),c,V⟩
  have H:=Zu H o;refine ZD S rfl o (wp_exit (ZP ?_));obtain rfl:=Ze H;have hq:=Q _ rfl;subst hq;have H:=O;refine ZP (Zfa ?_);obtain rfl:=Ze H;refine Zb (ad _ _ ⟨_,_,_,_,_,rfl,(leT (leR _) P),(S.fr' rfl),e⟩)
 rintro f w ⟨D,s,u,v,x,hq,aU,S,aA⟩;subst hq;have H:=N;refine Zb (aa _ _ (sr (mv S rfl fun f S=>mw S rfl fun f S=>oe (wp_ret ?_))));obtain rfl:=Ze H;refine ZA S (ZO rfl (ZG S rfl)) ⟨[.slice s u v],rfl,aA⟩
theorem gcd_c {d:World} {c:Zc} (hv:VIn c d) {e:List Value} {a:Nat} (h:Rep.rel Zy c e a) {f:List Value} {b:Nat} (i:Rep.rel Zy c f b) {z:Nat} (hm:gcdF a b=some z) :
  Ret Tryz.prog 114 #[Zy.val e,Zy.val f] d c (fun y v'=>∃ g,y=Zy.val g∧Zy.rel v' g z) :=
 gcd_w hv h i (gcdF_eq hm)
end Go.Eng
