/- Lemmas towards the statement: the engine of the walks, the functions' models, laws and walks, part 5. Conditions: as each states. -/
import Derived.Test.YtnmoidpfdhalbaaGreatProg
import Derived.Test.YtnmoidpfdhalbaaGreatRoD
set_option linter.all false
set_option maxRecDepth 100000
namespace Go.Eng
open Go.RowKit
inductive Et where
 | rS (t:Nat) (e:En V)
 | rL (u:Nat) (e:En LV)
 | wS (e:En V)
 | dup (e:En V)
 | wL (e:En LV)
 | nL (e:En LV)
 | dL (u:Nat)
def okT:List Et→Fr→Lo→Prop
 | [],_,_=>True
 | .rS t e :: τ,f,l=>lkE f t=some e∧okT τ f l
 | .rL u e :: τ,f,l=>lkE l u=some e∧okT τ f l
 | .wS e :: τ,f,l=>okT τ (e :: f) l
 | .dup e :: τ,f,l=>lkE f e.k=some e∧okT τ (e :: f) l
 | .wL e :: τ,f,l=>okT τ f (e :: era l e.k)
 | .nL e :: τ,f,l=>lkE l e.k=none∧okT τ f (e :: l)
 | .dL u :: τ,f,l=>okT τ f (era l u)
def ZTb:List Et→Fr→Fr
 | [],f=>f
 | .wS e :: τ,f=>ZTb τ (e :: f)
 | .dup e :: τ,f=>ZTb τ (e :: f)
 | _ :: τ,f=>ZTb τ f
def ZEb:List Et→Lo→Lo
 | [],l=>l
 | .wL e :: τ,l=>ZEb τ (e :: era l e.k)
 | .nL e :: τ,l=>ZEb τ (e :: l)
 | .dL u :: τ,l=>ZEb τ (era l u)
 | _ :: τ,l=>ZEb τ l
def rdS:List Et→Nat→Prop
 | [],_=>False
 | .rS t _ :: τ,k=>k=t∨rdS τ k
 | .dup e :: τ,k=>k=e.k∨rdS τ k
 | _ :: τ,k=>rdS τ k
def rdL:List Et→Nat→Prop
 | [],_=>False
 | .rL u _ :: τ,k=>k=u∨rdL τ k
 | .nL e :: τ,k=>k=e.k∨rdL τ k
 | _ :: τ,k=>rdL τ k
def ZUa:List Et→Nat→Option (Option (En V))
 | [],_=>none
 | .wS e :: τ,t=>match ZUa τ t with
  | some z=>some z
  | none=>if e.k=t then some (some e) else none
 | _ :: τ,t=>ZUa τ t
def Zja:List Et→Nat→Option (Option (En LV))
 | [],_=>none
 | .wL e :: τ,t=>match Zja τ t with
  | some z=>some z
  | none=>if e.k=t then some (some e) else none
 | .nL e :: τ,t=>match Zja τ t with
  | some z=>some z
  | none=>if e.k=t then some (some e) else none
 | .dL u :: τ,t=>match Zja τ t with
  | some z=>some z
  | none=>if u=t then some none else none
 | _ :: τ,t=>Zja τ t
def fpT:List Et→Fp→Fp
 | [],p=>p
 | .rS t _ :: τ,p=>fpT τ ⟨bit p.rs t,p.ws,p.rl,p.wl⟩
 | .rL u _ :: τ,p=>fpT τ ⟨p.rs,p.ws,bit p.rl u,p.wl⟩
 | .wS e :: τ,p=>fpT τ ⟨p.rs,bit p.ws e.k,p.rl,p.wl⟩
 | .dup e :: τ,p=>fpT τ ⟨bit p.rs e.k,p.ws,p.rl,p.wl⟩
 | .wL e :: τ,p=>fpT τ ⟨p.rs,p.ws,p.rl,bit p.wl e.k⟩
 | .nL e :: τ,p=>fpT τ ⟨p.rs,p.ws,bit p.rl e.k,bit p.wl e.k⟩
 | .dL u :: τ,p=>fpT τ ⟨p.rs,p.ws,p.rl,bit p.wl u⟩
def Tr {ρ:Type} (n:Nat):Ev ρ→List Et→ρ→Prop
 | .fail,_,_=>False
 | .done r,τ,x=>τ=[]∧x=r
 | .rdS t k,τ,x=>∃ e τ',τ = .rS t e :: τ'∧Tr n (k e.x) τ' x
 | .rdL u k,τ,x=>∃ e τ',τ = .rL u e :: τ'∧Tr n (k e.st e.x) τ' x
 | .wrS t v e,τ,x=>∃ τ',τ = .wS ⟨t,n,v⟩ :: τ'∧Tr n e τ' x
 | .wrL u L e,τ,x=>∃ τ',τ = .wL ⟨u,n,L⟩ :: τ'∧Tr n e τ' x
 | .new u L e,τ,x=>∃ τ',τ = .nL ⟨u,n,L⟩ :: τ'∧Tr n e τ' x
 | .del u e,τ,x=>∃ τ',τ = .dL u :: τ'∧Tr n e τ' x
 | .bind y k,τ,x=>∃ z,y=some z∧Tr n (k z) τ x
 | .test t e1 e2,τ,x=>∃ s b τ',τ = .dup ⟨t,s,.data .bool b⟩ :: τ'∧(b=true→Tr n e1 τ' x)∧(b=false→Tr n e2 τ' x)
theorem Zdv {ρ α:Type} {n:Nat} {r:α}:∀ {e:Ev ρ} {f:Fr} {l:Lo} {p:Fp} {K:ρ→Fr→Lo→Fp→Option α},Zqb n e f l p K=some r→∃ x τ,Tr n e τ x∧okT τ f l∧K x (ZTb τ f) (ZEb τ l) (fpT τ p)=some r:=by
 intro e
 induction e with
 | fail=>intro f l p K h;cases h
 | done x=>intro f l p K h;exact ⟨x,[],⟨rfl,rfl⟩,trivial,h⟩
 | rdS t k ih =>
  intro f l p K h;simp only [Zqb] at h;split at h
  ·rename_i e he;obtain ⟨x,τ,h1,h2,h3⟩:=ih _ h;exact ⟨x,.rS t e :: τ,⟨e,τ,rfl,h1⟩,⟨he,h2⟩,h3⟩
  ·cases h
 | rdL u k ih =>
  intro f l p K h;simp only [Zqb] at h;split at h
  ·rename_i e he;obtain ⟨x,τ,h1,h2,h3⟩:=ih _ _ h;exact ⟨x,.rL u e :: τ,⟨e,τ,rfl,h1⟩,⟨he,h2⟩,h3⟩
  ·cases h
 | wrS t v e ih=>intro f l p K h;obtain ⟨x,τ,h1,h2,h3⟩:=ih h;exact ⟨x,.wS ⟨t,n,v⟩ :: τ,⟨τ,rfl,h1⟩,h2,h3⟩
 | wrL u L e ih=>intro f l p K h;obtain ⟨x,τ,h1,h2,h3⟩:=ih h;exact ⟨x,.wL ⟨u,n,L⟩ :: τ,⟨τ,rfl,h1⟩,h2,h3⟩
 | new u L e ih =>
  intro f l p K h;simp only [Zqb] at h;split at h
  ·rename_i he;obtain ⟨x,τ,h1,h2,h3⟩:=ih h;exact ⟨x,.nL ⟨u,n,L⟩ :: τ,⟨τ,rfl,h1⟩,⟨he,h2⟩,h3⟩
  ·cases h
 | del u e ih=>intro f l p K h;obtain ⟨x,τ,h1,h2,h3⟩:=ih h;exact ⟨x,.dL u :: τ,⟨τ,rfl,h1⟩,h2,h3⟩
 | bind y k ih =>
  intro f l p K h;obtain ⟨z,hz,h⟩:=ZE h;obtain ⟨x,τ,h1,h2,h3⟩:=ih _ h;exact ⟨x,τ,⟨z,hz,h1⟩,h2,h3⟩
 | test t e1 e2 i1 i2 =>
  intro f l p K h;simp only [Zqb] at h;split at h
  ·rename_i k s b hx;obtain ⟨_,hk⟩:=Zy hx;have hk:k=t:=hk;subst hk
   cases b with
   | true =>
    obtain ⟨x,τ,h1,h2,h3⟩:=i1 h;exact ⟨x,.dup ⟨k,s,.data .bool true⟩ :: τ,⟨s,true,τ,rfl,fun _=>h1,fun e=>by cases e⟩,⟨hx,h2⟩,h3⟩
   | false =>
    obtain ⟨x,τ,h1,h2,h3⟩:=i2 h;exact ⟨x,.dup ⟨k,s,.data .bool false⟩ :: τ,⟨s,false,τ,rfl,(fun e=>by cases e),fun _=>h1⟩,⟨hx,h2⟩,h3⟩
  ·cases h
theorem ZAm {ρ:Type} {n:Nat}:∀ {e:Ev ρ} {τ:List Et} {x:ρ} {f:Fr} {l:Lo},Tr n e τ x→okT τ f l→Zo n e f l fun x' f' l'=>x'=x∧f'=ZTb τ f∧l'=ZEb τ l:=by
 intro e
 induction e with
 | fail=>intro τ x f l h k;exact h
 | done r=>intro τ x f l h k;obtain ⟨rfl,rfl⟩:=h;exact ⟨rfl,rfl,rfl⟩
 | rdS t q ih=>intro τ x f l h k;obtain ⟨e,τ',rfl,h⟩:=h;exact ⟨e,k.1,ih _ (τ:=τ') h k.2⟩
 | rdL u q ih=>intro τ x f l h k;obtain ⟨e,τ',rfl,h⟩:=h;exact ⟨e,k.1,ih _ _ (τ:=τ') h k.2⟩
 | wrS t v e ih=>intro τ x f l h k;obtain ⟨τ',rfl,h⟩:=h;exact ih (τ:=τ') h k
 | wrL u L e ih=>intro τ x f l h k;obtain ⟨τ',rfl,h⟩:=h;exact ih (τ:=τ') h k
 | new u L e ih=>intro τ x f l h k;obtain ⟨τ',rfl,h⟩:=h;exact ⟨k.1,ih (τ:=τ') h k.2⟩
 | del u e ih=>intro τ x f l h k;obtain ⟨τ',rfl,h⟩:=h;exact ih (τ:=τ') h k
 | bind y q ih=>intro τ x f l h k;obtain ⟨z,hz,h⟩:=h;exact ⟨z,hz,ih _ h k⟩
 | test t e1 e2 i1 i2=>intro τ x f l h k;obtain ⟨s,b,τ',rfl,h1,h2⟩:=h;exact ⟨s,b,k.1,fun e=>i1 (τ:=τ') (h1 e) k.2,fun e=>i2 (τ:=τ') (h2 e) k.2⟩
theorem ZJc:∀ {τ:List Et} {f:Fr} {l:Lo} {t:Nat},okT τ f l→lkE (ZTb τ f) t=(ZUa τ t).getD (lkE f t)
 | [],_,_,_,_=>rfl
 | .rS _ _ :: τ,_,_,_,h=>ZJc (τ:=τ) h.2
 | .rL _ _ :: τ,_,_,_,h=>ZJc (τ:=τ) h.2
 | .wL _ :: τ,_,_,_,h=>ZJc (τ:=τ) h
 | .nL _ :: τ,_,_,_,h=>ZJc (τ:=τ) h.2
 | .dL _ :: τ,_,_,_,h=>ZJc (τ:=τ) h
 | .wS e :: τ,f,l,t,h=>by
  have:=ZJc (t:=t) (show okT τ (e :: f) l from h)
  simp only [ZTb,ZUa]
  rw [this,ZP]
  cases ZUa τ t with
  | some z=>rfl
  | none=>by_cases h:e.k=t <;> simp [h]
 | .dup e :: τ,f,l,t,h=>by
  have:=ZJc (t:=t) (show okT τ (e :: f) l from h.2)
  simp only [ZTb,ZUa]
  rw [this,ZP]
  congr 1
  by_cases hk:e.k=t
  ·rw [if_pos hk,← hk,h.1]
  ·rw [if_neg hk]
theorem Zkc:∀ {τ:List Et} {f:Fr} {l:Lo},(l.map En.k).Nodup→okT τ f l→((ZEb τ l).map En.k).Nodup∧∀ t,lkE (ZEb τ l) t=(Zja τ t).getD (lkE l t)
 | [],_,_,hn,_=>⟨hn,fun _=>rfl⟩
 | .rS _ _ :: τ,_,_,hn,h=>Zkc (τ:=τ) hn h.2
 | .rL _ _ :: τ,_,_,hn,h=>Zkc (τ:=τ) hn h.2
 | .wS _ :: τ,_,_,hn,h=>Zkc (τ:=τ) hn h
 | .dup _ :: τ,_,_,hn,h=>Zkc (τ:=τ) hn h.2
 | .wL e :: τ,f,l,hn,h=>by
  obtain ⟨n1,n2⟩:=ZAb (t:=e.k) hn
  obtain ⟨k1,k2⟩:=Zkc (τ:=τ) (l:=e :: era l e.k) (List.nodup_cons.2 ⟨n2,n1⟩) h
  refine ⟨k1,fun t=>(k2 t).trans ?_⟩
  simp only [Zja]
  rw [ZP,ZPb hn]
  cases Zja τ t with
  | some z=>rfl
  | none=>by_cases hk:e.k=t <;> simp [hk]
 | .nL e :: τ,f,l,hn,h=>by
  obtain ⟨k1,k2⟩:=Zkc (τ:=τ) (l:=e :: l) (List.nodup_cons.2 ⟨Zsh h.1,hn⟩) h.2
  refine ⟨k1,fun t=>(k2 t).trans ?_⟩
  simp only [Zja]
  rw [ZP]
  cases Zja τ t with
  | some z=>rfl
  | none=>by_cases hk:e.k=t <;> simp [hk]
 | .dL u :: τ,f,l,hn,h=>by
  obtain ⟨k1,k2⟩:=Zkc (τ:=τ) (l:=era l u) (ZAb hn).1 h
  refine ⟨k1,fun t=>(k2 t).trans ?_⟩
  simp only [Zja]
  rw [ZPb hn]
  cases Zja τ t with
  | some z=>rfl
  | none=>by_cases hk:u=t <;> simp [hk]
theorem ZVd:∀ {τ:List Et} {f f2:Fr} {l l2:Lo},(l.map En.k).Nodup→(l2.map En.k).Nodup→okT τ f l→(∀ t,rdS τ t→lkE f t=lkE f2 t)→(∀ u,rdL τ u→lkE l u=lkE l2 u)→okT τ f2 l2
 | [],_,_,_,_,_,_,_,_,_=>trivial
 | .rS t e :: τ,_,_,_,_,n1,n2,h,k1,k2=>⟨(k1 t (.inl rfl)).symm.trans h.1,ZVd n1 n2 h.2 (fun t ht=>k1 t (.inr ht)) k2⟩
 | .rL u e :: τ,_,_,_,_,n1,n2,h,k1,k2=>⟨(k2 u (.inl rfl)).symm.trans h.1,ZVd n1 n2 h.2 k1 fun u hu=>k2 u (.inr hu)⟩
 | .wS e :: τ,f,f2,_,_,n1,n2,h,k1,k2=>ZVd (τ:=τ) n1 n2 h (fun t ht=>by
   rw [ZP,ZP]
   by_cases hk:e.k=t
   ·rw [if_pos hk,if_pos hk]
   ·rw [if_neg hk,if_neg hk];exact k1 t ht) k2
 | .dup e :: τ,f,f2,_,_,n1,n2,h,k1,k2=>⟨(k1 e.k (.inl rfl)).symm.trans h.1,ZVd (τ:=τ) n1 n2 h.2 (fun t ht=>by
   rw [ZP,ZP]
   by_cases hk:e.k=t
   ·rw [if_pos hk,if_pos hk]
   ·rw [if_neg hk,if_neg hk];exact k1 t (.inr ht)) k2⟩
 | .wL e :: τ,_,_,l,l2,n1,n2,h,k1,k2=>by
  obtain ⟨a1,a2⟩:=ZAb (t:=e.k) n1
  obtain ⟨b1,b2⟩:=ZAb (t:=e.k) n2
  refine ZVd (τ:=τ) (l:=e :: era l e.k) (l2:=e :: era l2 e.k) (List.nodup_cons.2 ⟨a2,a1⟩) (List.nodup_cons.2 ⟨b2,b1⟩) h k1 fun u hu=>?_
  rw [ZP,ZP]
  by_cases hk:e.k=u
  ·rw [if_pos hk,if_pos hk]
  ·rw [if_neg hk,if_neg hk,ZPb n1,ZPb n2,if_neg hk,if_neg hk];exact k2 u hu
 | .nL e :: τ,_,_,l,l2,n1,n2,h,k1,k2=>by
  have he:lkE l2 e.k=none:=(k2 e.k (.inl rfl)).symm.trans h.1
  refine ⟨he,ZVd (τ:=τ) (l:=e :: l) (l2:=e :: l2) (List.nodup_cons.2 ⟨Zsh h.1,n1⟩) (List.nodup_cons.2 ⟨Zsh he,n2⟩) h.2 k1 fun u hu=>?_⟩
  rw [ZP,ZP]
  by_cases hk:e.k=u
  ·rw [if_pos hk,if_pos hk]
  ·rw [if_neg hk,if_neg hk];exact k2 u (.inr hu)
 | .dL u :: τ,_,_,l,l2,n1,n2,h,k1,k2=>by
  refine ZVd (τ:=τ) (ZAb n1).1 (ZAb n2).1 h k1 fun k hk=>?_
  rw [ZPb n1,ZPb n2]
  by_cases e:u=k
  ·rw [if_pos e,if_pos e]
  ·rw [if_neg e,if_neg e];exact k2 k hk
theorem Zhe {m k:Nat}:(bit m k).testBit k=true:=by
 show (m ||| 2^k).testBit k=true;rw [Nat.testBit_or,Nat.testBit_two_pow_self,Bool.or_true]
theorem ZSe {m k t:Nat} (h:m.testBit t=true):(bit m k).testBit t=true:=by
 show (m ||| 2^k).testBit t=true;rw [Nat.testBit_or,h,Bool.true_or]
structure Fp.le (p q:Fp):Prop where
 rs:∀ t,p.rs.testBit t=true→q.rs.testBit t=true
 ws:∀ t,p.ws.testBit t=true→q.ws.testBit t=true
 rl:∀ t,p.rl.testBit t=true→q.rl.testBit t=true
 wl:∀ t,p.wl.testBit t=true→q.wl.testBit t=true
theorem Fp.le.trans {p q r:Fp} (h:p.le q) (k:q.le r):p.le r:=⟨fun t e=>k.rs t (h.rs t e),fun t e=>k.ws t (h.ws t e),fun t e=>k.rl t (h.rl t e),fun t e=>k.wl t (h.wl t e)⟩
theorem Zzb:∀ {τ:List Et} {p:Fp},p.le (fpT τ p)
 | [],_=>⟨fun _ h=>h,fun _ h=>h,fun _ h=>h,fun _ h=>h⟩
 | .rS t _ :: τ,p=>Fp.le.trans (q:=⟨bit p.rs t,p.ws,p.rl,p.wl⟩) ⟨fun _ h=>ZSe h,fun _ h=>h,fun _ h=>h,fun _ h=>h⟩ (Zzb (τ:=τ))
 | .rL u _ :: τ,p=>Fp.le.trans (q:=⟨p.rs,p.ws,bit p.rl u,p.wl⟩) ⟨fun _ h=>h,fun _ h=>h,fun _ h=>ZSe h,fun _ h=>h⟩ (Zzb (τ:=τ))
 | .wS e :: τ,p=>Fp.le.trans (q:=⟨p.rs,bit p.ws e.k,p.rl,p.wl⟩) ⟨fun _ h=>h,fun _ h=>ZSe h,fun _ h=>h,fun _ h=>h⟩ (Zzb (τ:=τ))
 | .dup e :: τ,p=>Fp.le.trans (q:=⟨bit p.rs e.k,p.ws,p.rl,p.wl⟩) ⟨fun _ h=>ZSe h,fun _ h=>h,fun _ h=>h,fun _ h=>h⟩ (Zzb (τ:=τ))
 | .wL e :: τ,p=>Fp.le.trans (q:=⟨p.rs,p.ws,p.rl,bit p.wl e.k⟩) ⟨fun _ h=>h,fun _ h=>h,fun _ h=>h,fun _ h=>ZSe h⟩ (Zzb (τ:=τ))
 | .nL e :: τ,p=>Fp.le.trans (q:=⟨p.rs,p.ws,bit p.rl e.k,bit p.wl e.k⟩) ⟨fun _ h=>h,fun _ h=>h,fun _ h=>ZSe h,fun _ h=>ZSe h⟩ (Zzb (τ:=τ))
 | .dL u :: τ,p=>Fp.le.trans (q:=⟨p.rs,p.ws,p.rl,bit p.wl u⟩) ⟨fun _ h=>h,fun _ h=>h,fun _ h=>h,fun _ h=>ZSe h⟩ (Zzb (τ:=τ))
theorem ZId:∀ {τ:List Et} {p:Fp} {t:Nat},rdS τ t→(fpT τ p).rs.testBit t=true
 | .rS t _ :: τ,_,_,.inl e=>by subst e;exact (Zzb (τ:=τ)).rs _ Zhe
 | .dup _ :: τ,_,_,.inl e=>by subst e;exact (Zzb (τ:=τ)).rs _ Zhe
 | .rS t _ :: τ,_,_,.inr h=>ZId (τ:=τ) h
 | .dup _ :: τ,_,_,.inr h=>ZId (τ:=τ) h
 | .rL _ _ :: τ,_,_,h=>ZId (τ:=τ) h
 | .wS _ :: τ,_,_,h=>ZId (τ:=τ) h
 | .wL _ :: τ,_,_,h=>ZId (τ:=τ) h
 | .nL _ :: τ,_,_,h=>ZId (τ:=τ) h
 | .dL _ :: τ,_,_,h=>ZId (τ:=τ) h
theorem ZNd:∀ {τ:List Et} {p:Fp} {t:Nat},rdL τ t→(fpT τ p).rl.testBit t=true
 | .rL t _ :: τ,_,_,.inl e=>by subst e;exact (Zzb (τ:=τ)).rl _ Zhe
 | .nL _ :: τ,_,_,.inl e=>by subst e;exact (Zzb (τ:=τ)).rl _ Zhe
 | .rL t _ :: τ,_,_,.inr h=>ZNd (τ:=τ) h
 | .nL _ :: τ,_,_,.inr h=>ZNd (τ:=τ) h
 | .rS _ _ :: τ,_,_,h=>ZNd (τ:=τ) h
 | .wS _ :: τ,_,_,h=>ZNd (τ:=τ) h
 | .dup _ :: τ,_,_,h=>ZNd (τ:=τ) h
 | .wL _ :: τ,_,_,h=>ZNd (τ:=τ) h
 | .dL _ :: τ,_,_,h=>ZNd (τ:=τ) h
theorem ZAc:∀ {τ:List Et} {p:Fp} {t:Nat},ZUa τ t≠none→(fpT τ p).ws.testBit t=true
 | [],_,_,h=>absurd rfl h
 | .wS e :: τ,_,t,h=>by
  by_cases hk:e.k=t
  ·subst hk;exact (Zzb (τ:=τ)).ws _ Zhe
  ·refine ZAc (τ:=τ) fun h0=>h ?_
   simp only [ZUa,h0,if_neg hk]
 | .rS _ _ :: τ,_,_,h=>ZAc (τ:=τ) h
 | .rL _ _ :: τ,_,_,h=>ZAc (τ:=τ) h
 | .dup _ :: τ,_,_,h=>ZAc (τ:=τ) h
 | .wL _ :: τ,_,_,h=>ZAc (τ:=τ) h
 | .nL _ :: τ,_,_,h=>ZAc (τ:=τ) h
 | .dL _ :: τ,_,_,h=>ZAc (τ:=τ) h
theorem ZUc:∀ {τ:List Et} {p:Fp} {t:Nat},Zja τ t≠none→(fpT τ p).wl.testBit t=true
 | [],_,_,h=>absurd rfl h
 | .wL e :: τ,_,t,h=>by
  by_cases hk:e.k=t
  ·subst hk;exact (Zzb (τ:=τ)).wl _ Zhe
  ·refine ZUc (τ:=τ) fun h0=>h ?_
   simp only [Zja,h0,if_neg hk]
 | .nL e :: τ,_,t,h=>by
  by_cases hk:e.k=t
  ·subst hk;exact (Zzb (τ:=τ)).wl _ Zhe
  ·refine ZUc (τ:=τ) fun h0=>h ?_
   simp only [Zja,h0,if_neg hk]
 | .dL u :: τ,_,t,h=>by
  by_cases hk:u=t
  ·subst hk;exact (Zzb (τ:=τ)).wl _ Zhe
  ·refine ZUc (τ:=τ) fun h0=>h ?_
   simp only [Zja,h0,if_neg hk]
 | .rS _ _ :: τ,_,_,h=>ZUc (τ:=τ) h
 | .rL _ _ :: τ,_,_,h=>ZUc (τ:=τ) h
 | .wS _ :: τ,_,_,h=>ZUc (τ:=τ) h
 | .dup _ :: τ,_,_,h=>ZUc (τ:=τ) h
theorem Z8f {a b t:Nat} (h:Nat.land a b=0) (ha:a.testBit t=true) (hb:b.testBit t=true):False:=by
 have:(a &&& b).testBit t=true:=by rw [Nat.testBit_and,ha,hb];rfl
 rw [show (a &&& b)=0 from h] at this;simp at this
theorem Zsl {a b:Nat} (h:Nat.lor a b=0):a=0∧b=0:=by
 have h:a ||| b=0:=h;exact Nat.or_eq_zero_iff.1 h
theorem Zri {a b t:Nat} (h:a.testBit t=true∨b.testBit t=true):(Nat.lor a b).testBit t=true:=by
 show (a ||| b).testBit t=true;rw [Nat.testBit_or];rcases h with h | h <;> simp [h]
structure Apart (τ σ:List Et):Prop where
 s1:∀ t,ZUa τ t≠none→rdS σ t→False
 s2:∀ t,ZUa τ t≠none→ZUa σ t≠none→False
 s3:∀ t,rdS τ t→ZUa σ t≠none→False
 l1:∀ t,Zja τ t≠none→rdL σ t→False
 l2:∀ t,Zja τ t≠none→Zja σ t≠none→False
 l3:∀ t,rdL τ t→Zja σ t≠none→False
theorem ZDn {τ σ:List Et} {p q:Fp} (h:(fpT τ p).free (fpT σ q)=true):Apart τ σ:=by
 have h:=Nat.eq_of_beq_eq_true h;obtain ⟨h1,h2⟩:=Zsl h;obtain ⟨h3,h4⟩:=Zsl h1;obtain ⟨h5,h6⟩:=Zsl h2;exact ⟨fun t a b=>Z8f h3 (ZAc a) (Zri (.inl (ZId b))),fun t a b=>Z8f h3 (ZAc a) (Zri (.inr (ZAc b))),fun t a b=>Z8f h4 (ZId a) (ZAc b),
  fun t a b=>Z8f h5 (ZUc a) (Zri (.inl (ZNd b))),fun t a b=>Z8f h5 (ZUc a) (Zri (.inr (ZUc b))),fun t a b=>Z8f h6 (ZNd a) (ZUc b)⟩
end Go.Eng
namespace Go.Eng
open Go.RowKit
def Zge:List (List Et)→Fr→Fr
 | [],f=>f
 | τ :: r,f=>Zge r (ZTb τ f)
def Z5d:List (List Et)→Lo→Lo
 | [],l=>l
 | τ :: r,l=>Z5d r (ZEb τ l)
def okTs:List (List Et)→Fr→Lo→Prop
 | [],_,_=>True
 | τ :: r,f,l=>okT τ f l∧okTs r (ZTb τ f) (ZEb τ l)
def Zsa {β:Type} (eff:List Et→Nat→Option β) (sel:Nat→Bool):List (List Et)→Nat→β→Nat→β
 | [],_,acc,_=>acc
 | τ :: r,i,acc,t=>Zsa eff sel r (i+1) (if sel i then (eff τ t).getD acc else acc) t
section
variable {β:Type} {eff:List Et→Nat→Option β}
theorem Zxd {sel sel':Nat→Bool} {t:Nat}:∀ {Ts:List (List Et)} {i:Nat} {acc:β},(∀ j τ,Ts[j]? = some τ→eff τ t≠none→sel (i+j)=sel' (i+j))→Zsa eff sel Ts i acc t=Zsa eff sel' Ts i acc t
 | [],_,_,_=>rfl
 | τ :: r,i,acc,h=>by
  have h1:(if sel i then (eff τ t).getD acc else acc)=(if sel' i then (eff τ t).getD acc else acc):=by
   cases he:eff τ t with
   | none=>simp
   | some z =>
    have:=h 0 τ rfl (by rw [he];exact fun e=>by cases e);rw [Nat.add_zero] at this;rw [this]
  simp only [Zsa];rw [h1];exact Zxd fun j σ hj hs=>by have:=h (j+1) σ hj hs;rwa [← Nat.add_assoc,Nat.add_right_comm] at this
theorem Zve {sel:Nat→Bool} {t:Nat}:∀ {Ts:List (List Et)} {i:Nat} {acc:β},(∀ j τ,Ts[j]? = some τ→sel (i+j)=true→eff τ t=none)→Zsa eff sel Ts i acc t=acc
 | [],_,_,_=>rfl
 | τ :: r,i,acc,h=>by
  simp only [Zsa]
  rw [Zve fun j σ hj hs=>h (j+1) σ hj (by rwa [← Nat.add_assoc,Nat.add_right_comm])]
  by_cases hs:sel i=true
  ·rw [if_pos hs,h 0 τ rfl hs];rfl
  ·rw [if_neg hs]
theorem Zvl {sel:Nat→Bool} {t:Nat}:∀ {Ts:List (List Et)} {i k:Nat} {acc:β} {τ:List Et} {z:β},Ts[k]? = some τ→sel (i+k)=true→eff τ t=some z→(∀ j σ,k<j→Ts[j]? = some σ→sel (i+j)=true→eff σ t=none)→Zsa eff sel Ts i acc t=z
 | [],_,_,_,_,_,h,_,_,_=>by cases h
 | σ :: r,i,0,acc,τ,z,h,hs,he,hj=>by
  cases h
  simp only [Zsa]
  rw [if_pos (show sel i=true from hs),he]
  exact Zve fun j σ hσ hsj=>hj (j+1) σ (by omega) hσ (by rwa [← Nat.add_assoc,Nat.add_right_comm])
 | σ :: r,i,k+1,acc,τ,z,h,hs,he,hj=>by
  simp only [Zsa]
  exact Zvl (k:=k) (τ:=τ) h (by rwa [Nat.add_right_comm]) he fun j σ' hkj hσ hsj=>hj (j+1) σ' (by omega) hσ (by rwa [← Nat.add_assoc,Nat.add_right_comm])
end
theorem ZOm:∀ {Ts:List (List Et)} {f:Fr} {l:Lo} {b i:Nat} {τ:List Et},okTs Ts f l→(l.map En.k).Nodup→Ts[i]? = some τ→∃ fi li,okT τ fi li∧(li.map En.k).Nodup∧(∀ t,lkE fi t=Zsa ZUa (fun j=>decide (j<b+i)) Ts b (lkE f t) t)∧∀ t,lkE li t=Zsa Zja (fun j=>decide (j<b+i)) Ts b (lkE l t) t
 | [],_,_,_,_,_,_,_,h=>by cases h
 | σ :: r,f,l,b,0,τ,h,hn,ht=>by
  cases ht
  refine ⟨f,l,h.1,hn,fun t=>(Zve fun j _ _ hs=>?_).symm,fun t=>(Zve fun j _ _ hs=>?_).symm⟩ <;> (have:=of_decide_eq_true hs;omega)
 | σ :: r,f,l,b,i+1,τ,h,hn,ht=>by
  obtain ⟨n1,hl⟩:=Zkc hn h.1
  obtain ⟨fi,li,k1,k2,k3,k4⟩:=ZOm (b:=b+1) (i:=i) h.2 n1 ht
  have e:(fun j=>decide (j<b+1+i))=fun j=>decide (j<b+(i+1)):=by funext j;congr 1;rw [Nat.add_assoc,Nat.add_comm 1 i]
  have hb:decide (b<b+(i+1))=true:=by simp
  refine ⟨fi,li,k1,k2,fun t=>?_,fun t=>?_⟩
  ·rw [k3 t,e,ZJc h.1];simp only [Zsa];rw [if_pos hb]
  ·rw [k4 t,e,hl t];simp only [Zsa];rw [if_pos hb]
theorem ZLl:∀ {Ts:List (List Et)} {f:Fr} {l:Lo} {b:Nat},okTs Ts f l→(l.map En.k).Nodup→((Z5d Ts l).map En.k).Nodup∧(∀ t,lkE (Zge Ts f) t=Zsa ZUa (fun _=>true) Ts b (lkE f t) t)∧∀ t,lkE (Z5d Ts l) t=Zsa Zja (fun _=>true) Ts b (lkE l t) t
 | [],_,_,_,_,hn=>⟨hn,fun _=>rfl,fun _=>rfl⟩
 | τ :: r,f,l,b,h,hn=>by
  obtain ⟨n1,hl⟩:=Zkc hn h.1
  obtain ⟨k1,k2,k3⟩:=ZLl (b:=b+1) h.2 n1
  refine ⟨k1,fun t=>?_,fun t=>?_⟩
  ·rw [show Zge (τ :: r) f=Zge r (ZTb τ f) from rfl,k2 t,ZJc h.1];rfl
  ·rw [show Z5d (τ :: r) l=Z5d r (ZEb τ l) from rfl,k3 t,hl t];rfl
theorem Zkm {α:Type} {C:Cf} {ops:List Oper} {r:α}:∀ {os:List Oper} {f:Fr} {l:Lo} {n:Nat} {K:Fr→Lo→Nat→List Fp→Option α},Z7e C ops os f l n K=some r →
  ∃ Ts:List (List Et),Ts.length=os.length∧okTs Ts f l∧(∀ i o τ,os[i]? = some o→Ts[i]? = some τ→Tr (n+i) (gop C ops (n+i) o) τ ())∧K (Zge Ts f) (Z5d Ts l) (n+os.length) (Ts.map fun τ=>fpT τ Fp.no)=some r
 | [],f,l,n,K,h=>⟨[],rfl,trivial,fun _ _ _ h=>by simp at h,h⟩
 | o :: os,f,l,n,K,h=>by
  simp only [Z7e] at h
  obtain ⟨⟨⟩,τ,h1,h2,h3⟩:=Zdv h
  obtain ⟨Ts,k1,k2,k3,k4⟩:=Zkm h3
  refine ⟨τ :: Ts,by simp [k1],⟨h2,k2⟩,fun i o' τ' ho ht=>?_,?_⟩
  ·cases i with
   | zero=>cases ho;cases ht;exact h1
   | succ i=>have:=k3 i o' τ' ho ht;rwa [Nat.add_right_comm] at this
  ·rw [List.length_cons,← Nat.add_assoc,Nat.add_right_comm];exact k4
theorem Zpr {ρ:Type} {n:Nat} {A:Prop}:∀ {e:Ev ρ} {f:Fr} {l:Lo} {K:ρ→Fr→Lo→Prop},Zo n e f l K→(∀ x f' l',K x f' l'→A)→A:=by
 intro e
 induction e with
 | fail=>intro f l K h k;exact h.elim
 | done x=>intro f l K h k;exact k _ _ _ h
 | rdS t q ih=>intro f l K h k;obtain ⟨x,hx,h⟩:=h;exact ih _ h k
 | rdL u q ih=>intro f l K h k;obtain ⟨x,hx,h⟩:=h;exact ih _ _ h k
 | wrS t x e ih=>intro f l K h k;exact ih h k
 | wrL u L e ih=>intro f l K h k;exact ih h k
 | new u L e ih=>intro f l K h k;exact ih h.2 k
 | del u e ih=>intro f l K h k;exact ih h k
 | bind x q ih=>intro f l K h k;obtain ⟨x,hx,h⟩:=h;exact ih _ h k
 | test t e1 e2 i1 i2 =>
  intro f l K h k;obtain ⟨s,b,h1,h2,h3⟩:=h
  cases b with
  | true=>exact i1 (h2 rfl) k
  | false=>exact i2 (h3 rfl) k
theorem ZIm {C:Cf} {ops:List Oper} {m:Nat}:∀ {os:List Oper} {Ts:List (List Et)} {f:Fr} {l:Lo} {n:Nat},m≤n→Ts.length=os.length→okTs Ts f l→(l.map En.k).Nodup→(∀ i o τ,os[i]? = some o→Ts[i]? = some τ→Tr (n+i) (gop C ops (n+i) o) τ ())→Old m f l (Zge Ts f) (Z5d Ts l)
 | _,[],_,_,_,_,_,_,_,_=>Old.refl
 | [],_ :: _,_,_,_,_,h,_,_,_=>by cases h
 | o :: os,τ :: Ts,f,l,n,hm,hl,h,hn,ht=>by
  have h1:=ZEh hm Old.refl hn (ZAm (ht 0 o τ rfl rfl) h.1)
  have h2:Old m f l (ZTb τ f) (ZEb τ l):=Zpr h1 fun x f' l' ⟨⟨_,e1,e2⟩,h⟩=>by subst e1;subst e2;exact h
  exact h2.trans (ZIm (n:=n+1) (by omega) (by simpa using hl) h.2 (Zkc hn h.1).1 fun i o' τ' ho hτ=>by
   have:=ht (i+1) o' τ' ho hτ
   rwa [← Nat.add_assoc,Nat.add_right_comm] at this) (Nat.le_refl m)
theorem Znn {m:Nat} {q:Fp}:∀ {bef:List Fp} {i0:Nat},chk1 m q bef i0=true→∀ i p,bef[i]? = some p→m.testBit (i0+i)=true∨p.free q=true
 | [],_,_,_,_,h=>by cases h
 | p0 :: r,i0,h,i,p,hp=>by
  simp only [chk1] at h
  cases i with
  | zero =>
   cases hp
   rw [Nat.add_zero]
   split at h
   ·rename_i e;exact .inl e
   ·split at h
    ·rename_i e;exact .inr e
    ·cases h
  | succ i =>
   have h':chk1 m q r (i0+1)=true:=by
    split at h
    ·exact h
    ·split at h
     ·exact h
     ·cases h
   have:=Znn h' i p hp
   rwa [Nat.add_right_comm] at this
theorem Z7k:∀ {qs:List Fp} {bef:List Fp} {ms:List Nat},ZDd bef ms qs=true→∀ j q,qs[j]? = some q→∃ m,ms[j]? = some m∧∀ i p,(bef++qs)[i]? = some p→i<bef.length+j→m.testBit i=true∨p.free q=true
 | [],_,_,_,_,_,h=>by cases h
 | q0 :: qs,bef,ms,h,j,q,hq=>by
  cases ms with
  | nil=>cases h
  | cons m0 ms =>
   simp only [ZDd] at h
   split at h
   ·rename_i h1
    cases j with
    | zero =>
     cases hq
     refine ⟨m0,rfl,fun i p hp hi=>?_⟩
     rw [List.getElem?_append_left (by omega)] at hp
     have:=Znn h1 i p hp
     rwa [Nat.zero_add] at this
    | succ j =>
     obtain ⟨m,h2,h3⟩:=Z7k h j q hq
     refine ⟨m,h2,fun i p hp hi=>h3 i p (by rw [List.append_assoc];exact hp) (by simp;omega)⟩
   ·cases h
theorem ZAk {done:List Nat} {t:Nat}:∀ {es:List Edge} {m:Nat},(Zpc done es m).testBit t=true→m.testBit t=true ∨ ∃ e ∈ es,Region.binds .any e=true∧(t=e.on∨(done.getD e.on 0).testBit t=true)
 | [],_,h=>.inl h
 | e :: r,m,h=>by
  simp only [Zpc] at h
  split at h
  ·rename_i hb
   rcases ZAk h with h | ⟨e',he,h1,h2⟩
   ·have h:((m ||| 2^e.on) ||| done.getD e.on 0).testBit t=true:=h
    rw [Nat.testBit_or,Nat.testBit_or,Nat.testBit_two_pow,Bool.or_eq_true,Bool.or_eq_true] at h
    rcases h with (h | h) | h
    ·exact .inl h
    ·exact .inr ⟨e,by simp,hb,.inl (by simpa using (of_decide_eq_true h).symm)⟩
    ·exact .inr ⟨e,by simp,hb,.inr h⟩
   ·exact .inr ⟨e',by simp [he],h1,h2⟩
  ·rcases ZAk h with h | ⟨e',he,h1,h2⟩
   ·exact .inl h
   ·exact .inr ⟨e',by simp [he],h1,h2⟩
theorem ZXp:∀ {os:List Oper} {done:List Nat} {j:Nat} {m:Nat},done[j]? = some m→(ZIa os done)[j]? = some m
 | [],_,_,_,h=>h
 | o :: os,done,j,m,h=>ZXp (os:=os) (by rw [List.getElem?_append_left (List.getElem?_eq_some_iff.1 h).1];exact h)
theorem ZZf {S:Nat→Prop}:∀ {os:List Oper} {done:List Nat},(∀ j o,os[j]? = some o→S (done.length+j)→∀ e ∈ o.after,Region.binds .any e=true→S e.on)→(∀ j m,done[j]? = some m→S j→∀ i,m.testBit i=true→S i) →
  ∀ j o m,os[j]? = some o→(ZIa os done)[done.length+j]? = some m→(∀ e ∈ o.after,Region.binds .any e=true→S e.on)→∀ i,m.testBit i=true→S i
 | [],_,_,_,_,_,_,h,_,_,_,_=>by cases h
 | o0 :: os,done,hc,hd,j,o,m,ho,hm,he,i,hi=>by
  have key:(∀ e ∈ o0.after,Region.binds .any e=true→S e.on)→∀ i,(Zpc done o0.after.toList 0).testBit i=true→S i:=fun he i hi=>by
   rcases ZAk hi with h | ⟨e,h1,h2,h3⟩
   ·simp at h
   ·have hS:=he e (by simpa using h1) h2
    rcases h3 with h3 | h3
    ·subst h3;exact hS
    ·cases hg:done[e.on]? with
     | none=>rw [List.getD_eq_getElem?_getD,hg] at h3;simp at h3
     | some x=>rw [List.getD_eq_getElem?_getD,hg] at h3;exact hd _ x hg hS i h3
  simp only [ZIa] at hm
  cases j with
  | zero =>
   cases ho
   rw [Nat.add_zero] at hm
   have:(ZIa os (done++[Zpc done o0.after.toList 0]))[done.length]? = some (Zpc done o0.after.toList 0):=ZXp (by simp)
   rw [this] at hm;cases hm
   exact key he i hi
  | succ j =>
   refine ZZf (os:=os) (done:=done++[Zpc done o0.after.toList 0]) (fun j' o' ho' hS=>hc (j'+1) o' ho' (by rw [List.length_append,List.length_singleton] at hS;rwa [← Nat.add_assoc,Nat.add_right_comm])) (fun j' m' hm' hS=>?_) j o m ho (by rw [List.length_append,List.length_singleton,Nat.add_right_comm];exact hm) he i hi
   rcases Nat.lt_or_ge j' done.length with h | h
   ·rw [List.getElem?_append_left h] at hm';exact hd j' m' hm' hS
   ·rw [List.getElem?_append_right h] at hm'
    cases hj:j'-done.length with
    | zero =>
     rw [hj] at hm';cases hm'
     refine key (hc 0 o0 rfl ?_)
     rwa [Nat.add_zero,show done.length=j' by omega]
    | succ k=>rw [hj] at hm';cases hm'
theorem Zao:∀ {os:List Oper} {i0:Nat},ZFd i0 os=true→∀ i o,os[i]? = some o→∀ e ∈ o.after,Region.binds .any e=true→e.on<i0+i
 | [],_,_,_,_,h,_,_,_=>by cases h
 | o0 :: os,i0,h,i,o,ho,e,he,hb=>by
  simp only [ZFd] at h
  split at h
  ·rename_i h1
   cases i with
   | zero =>
    cases ho
    have:∀ {es:List Edge},Zxh i0 es=true→∀ e ∈ es,Region.binds .any e=true→e.on<i0:=by
     intro es
     induction es with
     | nil=>intro _ e h;cases h
     | cons x r ih =>
      intro h e he hb;simp only [Zxh] at h;split at h
      ·split at h
       ·rename_i hlt;rcases List.mem_cons.1 he with rfl | he
        ·exact Nat.le_of_ble_eq_true hlt
        ·exact ih h e he hb
       ·cases h
      ·rename_i hx;rcases List.mem_cons.1 he with rfl | he
       ·rw [hb] at hx;cases hx
       ·exact ih h e he hb
    exact this h1 e (by simpa using he) hb
   | succ i=>have:=Zao h i o ho e he hb;omega
  ·cases h
section
variable {P:Program} {K:Nat} {w0:Base} {v0:Zb} {σ:List (Nat×Value)} {ℓ:List Loc} {v:Zb} {a:Act} {w:World} {ops:Array Oper} {Q:Exit→Act→World→Prop} {rest:List Oper}
end
end Go.Eng
namespace Go.Eng
open Go.RowKit
section
variable {N:Nat} {G:V→Value→Prop} {w0:Base} {v0:Zb}
theorem F2_perm {R:En LV→List Loc→Prop} {l l2:Lo} (hp:l.Perm l2):∀ {E:List (List Loc)},F2 R l E→∃ E2,F2 R l2 E2∧E.flatten.Perm E2.flatten:=by
 induction hp with
 | nil=>intro E h;exact ⟨E,h,List.Perm.refl _⟩
 | cons x _ ih =>
  intro E h
  cases E with
  | nil=>exact h.elim
  | cons es E =>
   obtain ⟨E2,h1,h2⟩:=ih h.2;exact ⟨es :: E2,⟨h.1,h1⟩,by simp only [List.flatten_cons];exact List.Perm.append_left _ h2⟩
 | swap x y l =>
  intro E h
  cases E with
  | nil=>exact h.elim
  | cons es E =>
   cases E with
   | nil=>exact h.2.elim
   | cons es2 E =>
    refine ⟨es2 :: es :: E,⟨h.2.1,h.1,h.2.2⟩,?_⟩;simp only [List.flatten_cons];rw [← List.append_assoc,← List.append_assoc];exact List.Perm.append_right _ List.perm_append_comm
 | trans _ _ i1 i2 =>
  intro E h;obtain ⟨E2,h1,h2⟩:=i1 h;obtain ⟨E3,h3,h4⟩:=i2 h1;exact ⟨E3,h3,h2.trans h4⟩
theorem ZQh {l:Lo} (hn:(l.map En.k).Nodup) {e:En LV} (h:e ∈ l):lkE l e.k=some e:=by
 induction l with
 | nil=>cases h
 | cons p r ih =>
  simp only [List.map_cons,List.nodup_cons] at hn;rw [ZP];rcases List.mem_cons.1 h with rfl | h
  ·rw [if_pos rfl]
  ·rw [if_neg fun e2=>hn.1 (List.mem_map.2 ⟨e,h,Eq.symm e2⟩)];exact ih hn.2 h
theorem ZUo {l:Lo} (hn:(l.map En.k).Nodup):l.Nodup:=by
 induction l with
 | nil=>exact List.nodup_nil
 | cons p r ih =>
  simp only [List.map_cons,List.nodup_cons] at hn;exact List.nodup_cons.2 ⟨fun h=>hn.1 (List.mem_map.2 ⟨p,h,rfl⟩),ih hn.2⟩
theorem Zts {l l2:Lo} (hn:(l.map En.k).Nodup) (hn2:(l2.map En.k).Nodup) (h:∀ u,lkE l u=lkE l2 u):l.Perm l2:=by
 refine (List.perm_ext_iff_of_nodup (ZUo hn) (ZUo hn2)).2 fun e=>⟨fun he=>?_,fun he=>?_⟩
 ·have:=ZQh hn he;rw [h] at this;exact (Zy this).1
 ·have:=ZQh hn2 he;rw [← h] at this;exact (Zy this).1
theorem RelX.look {U X:Nat→Prop} {f f2:Fr} {l l2:Lo} {a:Act} {w:World} {γ:Nat→Gh} {v:Zb} {ℓ:List Loc} (h:RelX N G w0 v0 U X f l a w γ v ℓ) (hn2:(l2.map En.k).Nodup) (hf:∀ t,lkE f2 t=lkE f t) (hl:∀ u,lkE l2 u=lkE l u):RelX N G w0 v0 U X f2 l2 a w γ v ℓ:=by
 obtain ⟨E,hE,hp⟩:=h.lr;have hle:Le U v γ l v γ l2:=by
  have:=Le.refl (U:=U) hE (Zb.le_refl v);exact ⟨Zb.le_refl _,fun u e' hk he=>this.l u e' hk (by rw [← hl];exact he)⟩
 have hpl:=Zts h.nd hn2 fun u=>(hl u).symm;obtain ⟨E2,h1,h2⟩:=F2_perm hpl hE;refine ⟨h.st,fun t e he=>?_,⟨E2,h1.imp fun e he es hr=>?_,hp.trans h2⟩,hn2,fun t e he=>h.uf t e ((hf t) ▸ he),fun e he=>h.ul e (hpl.mem_iff.2 he),fun x y hg=>⟨Zfb hle (h.gh x y hg).2 (h.gh x y hg).1,(h.gh x y hg).2⟩⟩
 ·have he':=(hf t) ▸ he;exact Zfb hle (h.uf t e he').1 (h.fr t e he')
 ·exact Zkh hle (h.ul e (hpl.mem_iff.2 he)).2.2 rfl hr
end
end Go.Eng
namespace Go.Eng
open Go.RowKit
section
variable {N:Nat} {G:V→Value→Prop} {w0:Base} {v0:Zb}
theorem Rel.draw {U:Nat→Prop} {f:Fr} {l:Lo} {a:Act} {w:World} (h:Rel N G w0 v0 U f l a w):Rel N G w0 v0 U f l a w.drew:=by
 obtain ⟨γ,v,ℓ,h⟩:=h;exact ⟨γ,v,ℓ,h.st.drew,h.fr,h.lr,h.nd,h.uf,h.ul,h.gh⟩
def sel (listed:Array Bool):Nat→Bool:=fun j=>listed.getD j false
def UE (n:Nat) (listed:Array Bool):Nat→Prop:=fun k=>k<n ∨ ∃ j,listed.getD j false=true∧k=n+j
structure Inv (N:Nat) (G:V→Value→Prop) (w0:Base) (v0:Zb) (ops:Array Oper) (Ts:List (List Et)) (f:Fr) (l:Lo) (n:Nat) (listed:Array Bool) (a:Act) (w:World):Prop where
 size:listed.size=ops.size
 closed:∀ (j:Nat) (o:Oper),ops[j]? = some o→listed.getD j false=true→∀ e ∈ o.after,Region.binds .any e=true→listed.getD e.on false=true
 rel:∃ f1 l1,Rel N G w0 v0 (UE n listed) f1 l1 a w∧(∀ t,lkE f1 t=Zsa ZUa (sel listed) Ts 0 (lkE f t) t)∧∀ t,lkE l1 t=Zsa Zja (sel listed) Ts 0 (lkE l t) t
theorem Zzi {ops:Array Oper} (hb:ZFd 0 ops.toList=true) {listed:Array Bool} (hs:listed.size=ops.size):∀ (n j:Nat),j<n→j<ops.size→listed.getD j true=false→Region.ready .any ops listed≠[]
 | 0,j,h,_,_=>by omega
 | n+1,j,h,hj,hl=>by
  intro h0
  by_cases hp:∃ e ∈ (ops[j]).after,Region.binds .any e=true∧listed.getD e.on false=false
  ·obtain ⟨e,he,hbb,hn⟩:=hp
   have hlt:=Zao hb j ops[j] (by simp [hj]) e he hbb
   refine Zzi hb hs n e.on (by omega) (by omega) ?_ h0
   rw [Zvb (by omega)];exact hn
  ·have:j ∈ Region.ready .any ops listed:=mem_ready.2 ⟨hl,ops[j],by simp [hj],fun e he hb=>by
    cases hx:listed.getD e.on false with
    | true=>rfl
    | false=>exact absurd ⟨e,he,hb,hx⟩ hp⟩
   rw [h0] at this;cases this
theorem ZIs {C:Cf} (hC:CfOK C) {ops:Array Oper} {Ts:List (List Et)} {f:Fr} {l:Lo} {n:Nat} {Q:Exit→Act→World→Prop} (hb:ZFd 0 ops.toList=true) (hds:∀ o ∈ ops.toList,∀ k,o.dst=some k→k<N) (hl:Ts.length=ops.toList.length)
  (hn:(l.map En.k).Nodup) (hok:okTs Ts f l) (htr:∀ i o τ,ops.toList[i]? = some o→Ts[i]? = some τ→Tr (n+i) (gop C ops.toList (n+i) o) τ ()) (hch:ZDd [] (ZIa ops.toList []) (Ts.map fun τ=>fpT τ Fp.no)=true)
  (hQ:∀ a' w',Rel N G w0 v0 (· < n+ops.toList.length) (Zge Ts f) (Z5d Ts l) a' w'→Q .normal a' w'):∀ (fuel:Nat) (listed:Array Bool) (a:Act) (w:World),left listed=fuel→Inv N G w0 v0 ops Ts f l n listed a w→wpAny C.P .any ops Q fuel listed a w:=by
 have ord:∀ (i j:Nat) (τ σ:List Et),i<j→Ts[i]? = some τ→Ts[j]? = some σ→∃ m,(ZIa ops.toList [])[j]? = some m∧(m.testBit i=true∨Apart τ σ):=by
  intro i j τ σ hij hτ hσ;obtain ⟨m,h1,h2⟩:=Z7k hch j (fpT σ Fp.no) (by simp [hσ]);refine ⟨m,h1,(h2 i (fpT τ Fp.no) (by simp [hτ]) (by simpa using hij)).imp_right ZDn⟩
 have opAt:∀ (j:Nat) (σ:List Et),Ts[j]? = some σ→∃ o,ops[j]? = some o:=fun j σ h=>by
  have:=(List.getElem?_eq_some_iff.1 h).1;rw [hl] at this;exact ⟨ops[j]'(by simpa using this),by simp⟩
 intro fuel
 induction fuel with
 | zero =>
  intro listed a w hfu hI;have hall:∀ j,listed.getD j true=true:=fun j=>Zwl hfu;refine ⟨?_,?_⟩
  ·cases hx:Region.ready .any ops listed with
   | nil=>rfl
   | cons p r =>
    obtain ⟨h1,_⟩:=mem_ready.1 (show p ∈ Region.ready .any ops listed by rw [hx];simp);rw [hall p] at h1;cases h1
  ·obtain ⟨f1,l1,⟨γ,v,ℓ,h1⟩,h2,h3⟩:=hI.rel;obtain ⟨k1,k2,k3⟩:=ZLl (b:=0) hok hn;have hsel:∀ (j:Nat) (σ:List Et),Ts[j]? = some σ→sel listed (0+j)=true:=fun j σ h=>by
    obtain ⟨o,ho⟩:=opAt j σ h;rw [Nat.zero_add];show listed.getD j false=true;rw [← Zvb (by rw [hI.size];exact Zrd ho)];exact hall j
   refine hQ a w ⟨γ,v,ℓ,(h1.look k1 (fun t=>?_) fun t=>?_).mono (fun k hk=>?_) fun k hk=>?_⟩
   ·rw [k2 t,h2 t];exact (Zxd fun j σ hj _=>(hsel j σ hj)).symm
   ·rw [k3 t,h3 t];exact (Zxd fun j σ hj _=>(hsel j σ hj)).symm
   all_goals
    rcases hk with hk | ⟨j,hj,rfl⟩
    ·omega
    ·have:j<listed.size:=by
      rcases Nat.lt_or_ge j listed.size with h | h
      ·exact h
      ·simp [Array.getElem?_eq_none h] at hj
     rw [hI.size] at this;simp;omega
 | succ fuel ih =>
  intro listed a w hfu hI;refine ⟨fun h0=>?_,fun i hi=>?_⟩
  ·obtain ⟨j,hj,hj2⟩:=ZOk (listed:=listed) (by omega);exact absurd h0 (Zzi hb hI.size (j+1) j (by omega) (by rw [← hI.size];exact hj) hj2)
  ·obtain ⟨hun,o,ho,hall⟩:=mem_ready.1 hi;have hil:i<listed.size:=by rw [hI.size];exact Zrd ho
   have hunf:listed.getD i false=false:=by rw [← Zvb hil];exact hun
   have ho':ops.toList[i]? = some o:=by rw [Array.getElem?_toList];exact ho
   have hlt:i<Ts.length:=by rw [hl];exact (List.getElem?_eq_some_iff.1 ho').1
   have hτ:Ts[i]? = some Ts[i]:=List.getElem?_eq_getElem hlt;generalize hg:Ts[i]=τ at hτ;obtain ⟨fi,li,b1,b2,b3,b4⟩:=ZOm (b:=0) hok hn hτ;obtain ⟨f1,l1,⟨γ,v,ℓ,h1⟩,h2,h3⟩:=hI.rel;have befo:∀ (j:Nat) (σ:List Et),j<i→Ts[j]? = some σ→listed.getD j false=true∨Apart σ τ:=by
    intro j σ hj hσ;obtain ⟨m,q1,q2⟩:=ord j i σ τ hj hσ hτ;refine q2.imp_left fun hbit=>?_;refine ZZf (S:=fun k=>listed.getD k false=true) (done:=[]) (fun j' o' ho' hS=>hI.closed j' o' (by rw [← Array.getElem?_toList];exact ho') (by simpa using hS)) (fun j' m' hm'=>by simp at hm') i o m ho' (by simpa using q1) hall j hbit
   have afte:∀ (j:Nat) (σ:List Et),i<j→Ts[j]? = some σ→listed.getD j false=false∨Apart τ σ:=by
    intro j σ hj hσ;obtain ⟨m,q1,q2⟩:=ord i j τ σ hj hτ hσ;refine q2.imp_left fun hbit=>?_
    cases hx:listed.getD j false with
    | false=>rfl
    | true =>
     obtain ⟨oj,hoj⟩:=opAt j σ hσ;have:=ZZf (S:=fun k=>listed.getD k false=true) (done:=[]) (fun j' o' ho' hS=>hI.closed j' o' (by rw [← Array.getElem?_toList];exact ho') (by simpa using hS)) (fun j' m' hm'=>by simp at hm') j oj m (by rw [Array.getElem?_toList];exact hoj) (by simpa using q1) (hI.closed j oj hoj hx) i hbit;rw [hunf] at this;cases this
   have same:∀ {β:Type} (eff:List Et→Nat→Option β) (P:Nat→Prop) (acc:β) (t:Nat),P t→(∀ σ,Apart σ τ→P t→eff σ t≠none→False)→(∀ σ,Apart τ σ→P t→eff σ t≠none→False)→Zsa eff (fun j=>decide (j<0+i)) Ts 0 acc t=Zsa eff (sel listed) Ts 0 acc t:=by
    intro β eff P acc t hP hA hB;refine Zxd fun j σ hj hne=>?_;simp only [Nat.zero_add];rcases Nat.lt_trichotomy j i with h | h | h
    ·rcases befo j σ h hj with q | q
     ·rw [decide_eq_true h];exact q.symm
     ·exact (hA σ q hP hne).elim
    ·subst h;rw [decide_eq_false (Nat.lt_irrefl _)];exact hunf.symm
    ·rcases afte j σ h hj with q | q
     ·rw [decide_eq_false (by omega)];exact q.symm
     ·exact (hB σ q hP hne).elim
   have okτ:okT τ f1 l1:=by
    refine ZVd b2 h1.nd b1 (fun t ht=>?_) fun t ht=>?_
    ·rw [b3 t,h2 t];exact same ZUa (rdS τ) _ t ht (fun σ q hp hne=>q.s1 t hne hp) fun σ q hp hne=>q.s3 t hp hne
    ·rw [b4 t,h3 t];exact same Zja (rdL τ) _ t ht (fun σ q hp hne=>q.l1 t hne hp) fun σ q hp hne=>q.l3 t hp hne
   have hruns:=ZAm (htr i o τ ho' hτ) okτ;have hnU:¬ UE n listed (n+i):=by
    rintro (h | ⟨j,hj,e⟩)
    ·omega
    ·have:i=j:=by omega
     subst this;rw [hunf] at hj;cases hj
   have selS:∀ j,sel (listed.setIfInBounds i true) j=if i=j then true else sel listed j:=fun j=>by
    by_cases h:i=j
    ·subst h;rw [if_pos rfl];exact Zmb hil
    ·rw [if_neg h];exact ZHa h
   have hUE:∀ k,UE n listed k→UE n (listed.setIfInBounds i true) k:=by
    rintro k (h | ⟨j,hj,e⟩)
    ·exact .inl h
    ·refine .inr ⟨j,?_,e⟩;have:=selS j;unfold sel at this;rw [this,hj];split <;> rfl
   have hXi:UE n (listed.setIfInBounds i true) (n+i):=.inr ⟨i,Zmb hil,rfl⟩;have hgg:=ZBl (X:=UE n (listed.setIfInBounds i true)) hC (h1.mono (fun _ h=>h) hUE) hUE hXi hnU hds (hds o (List.mem_of_getElem? ho')) hruns;have upd:∀ {β:Type} (eff:List Et→Nat→Option β) (acc:β) (t:Nat),(∀ σ,Apart τ σ→eff τ t≠none→eff σ t≠none→False)→Zsa eff (sel (listed.setIfInBounds i true)) Ts 0 acc t=(eff τ t).getD (Zsa eff (sel listed) Ts 0 acc t):=by
    intro β eff acc t hA
    cases he:eff τ t with
    | none =>
     refine Zxd fun j σ hj hne=>?_;rw [Nat.zero_add,selS j,if_neg];intro e;subst e;rw [hτ] at hj;cases hj;exact hne he
    | some z =>
     refine Zvl (k:=i) hτ (by rw [Nat.zero_add,selS i,if_pos rfl]) he fun j σ hij hσ hs=>?_;rw [Nat.zero_add,selS j,if_neg (by omega)] at hs;rcases afte j σ hij hσ with q | q
     ·rw [show sel listed j=false from q] at hs;cases hs
     ·cases hx:eff σ t with
      | none=>rfl
      | some y=>exact (hA σ q (by rw [he];exact fun e=>by cases e) (by rw [hx];exact fun e=>by cases e)).elim
   have nxt:∀ f' l' a' w',((()=()∧f'=ZTb τ f1∧l'=ZEb τ l1)∧True)→Rel N G w0 v0 (UE n (listed.setIfInBounds i true)) f' l' a' w'→wpAny C.P .any ops Q fuel (listed.setIfInBounds i true) a' w':=by
    rintro f' l' a' w' ⟨⟨_,rfl,rfl⟩,_⟩ hr;refine ih _ _ _ (by have:=ZBh hun;omega) ⟨by simp [hI.size],fun j oj hj hlj e he hbb=>?_,_,_,hr,fun t=>?_,fun t=>?_⟩
    ·have hj2:=selS e.on;have hj3:=selS j;unfold sel at hj2 hj3;rw [hj2];split
     ·rfl
     ·rw [hj3] at hlj;split at hlj
      ·rename_i hij;subst hij;rw [ho] at hj;cases hj;exact hall e he hbb
      ·exact hI.closed j oj hj hlj e he hbb
    ·rw [ZJc okτ,h2 t];exact (upd ZUa _ t fun σ q hp hne=>q.s2 t hp hne).symm
    ·rw [(Zkc h1.nd okτ).2 t,h3 t];exact (upd Zja _ t fun σ q hp hne=>q.l2 t hp hne).symm
   unfold wpOp;rw [ho];rcases hgg with ⟨hw,hg⟩ | ⟨hw,f',l',q1,q2⟩
   ·simp only [hw,if_true];exact .inl (Zui rfl hg fun x w' ⟨f',l',q1,q2⟩=>nxt f' l' _ w' ⟨⟨rfl,q1.2⟩,trivial⟩ q2)
   ·simp only [hw];exact nxt f' l' _ w ⟨⟨rfl,q1.2⟩,trivial⟩ q2
end
end Go.Eng
namespace Go.Eng
open Go.RowKit
section
variable {N:Nat} {G:V→Value→Prop} {w0:Base} {v0:Zb}
theorem Z7p:∀ {os:List Oper} {done:List Nat},(ZIa os done).length=done.length+os.length
 | [],done=>by simp [ZIa]
 | o :: os,done=>by
  simp only [ZIa]
  rw [Z7p]
  simp;omega
theorem ZGp {m:Nat}:∀ {k:Nat},allB m k=true→∀ i,i<k→m.testBit i=true
 | 0,_,_,h=>by omega
 | k+1,h,i,hi=>by
  simp only [allB] at h
  split at h
  ·rename_i hb
   rcases Nat.lt_or_ge i k with h1 | h1
   ·exact ZGp h i h1
   ·rw [show i=k by omega];exact hb
  ·cases h
theorem Zeu {ops:List Oper} {o:Oper} (h:ZAj ops=some o):ops.dropLast++[o]=ops∧o.guard=none∧∀ i,i<ops.dropLast.length→(Zpc (ZIa ops.dropLast []) o.after.toList 0).testBit i=true:=by
 unfold ZAj at h;split at h
 ·cases h
 ·rename_i q hq;split at h
  ·cases h
  ·rename_i hc;split at h
   ·rename_i hb
    cases h
    refine ⟨?_,?_,ZGp hb⟩
    ·rcases List.eq_nil_or_concat ops with rfl | ⟨L,b,rfl⟩
     ·cases hq
     ·simp at hq;subst hq;simp
    ·unfold ZBp at hc;split at hc
     ·rename_i hg;exact hg
     ·cases hc
   ·cases h
theorem Z5m {l:Array Bool} {i j:Nat} {b:Bool} (h:¬ j=i):(l.setIfInBounds i true).getD j b=l.getD j b:=by
 simp [Array.getD_eq_getD_getElem?,Array.getElem?_setIfInBounds_ne (Ne.symm h)]
theorem Zsr {C:Cf} (hC:CfOK C) {ops:Array Oper} {ol:Oper} {Ts:List (List Et)} {f:Fr} {l:Lo} {n:Nat} {Q:Exit→Act→World→Prop} (he:ops.toList.dropLast++[ol]=ops.toList) (hg:ol.guard=none) (hanc:∀ i,i<ops.toList.dropLast.length→(Zpc (ZIa ops.toList.dropLast []) ol.after.toList 0).testBit i=true)
  (hb:ZFd 0 ops.toList=true) (hds:∀ o ∈ ops.toList,∀ k,o.dst=some k→k<N) (hl:Ts.length=ops.toList.dropLast.length)
  (hn:(l.map En.k).Nodup) (hok:okTs Ts f l) (htr:∀ i o τ,ops.toList.dropLast[i]? = some o→Ts[i]? = some τ→Tr (n+i) (gop C ops.toList (n+i) o) τ ()) (hch:ZDd [] (ZIa ops.toList.dropLast []) (Ts.map fun τ=>fpT τ Fp.no)=true)
  (hQ:∀ a' w',Rel N G w0 v0 (· < n+ops.toList.dropLast.length) (Zge Ts f) (Z5d Ts l) a' w'→wpList C.P ops Q [ol] a' w'):∀ (fuel:Nat) (listed:Array Bool) (a:Act) (w:World),left listed=fuel+1→listed.getD ops.toList.dropLast.length true=false→Inv N G w0 v0 ops Ts f l n listed a w→wpAny C.P .any ops Q (fuel+1) listed a w:=by
 have hsz:ops.size=ops.toList.dropLast.length+1:=by
  have:=congrArg List.length he;simp at this ⊢;omega
 have initAt:∀ {j:Nat} {o:Oper},ops.toList.dropLast[j]? = some o→ops[j]? = some o:=fun {j o} h=>by
  rw [← Array.getElem?_toList,← he,List.getElem?_append_left (List.getElem?_eq_some_iff.1 h).1];exact h
 have lastAt:ops[ops.toList.dropLast.length]? = some ol:=by
  rw [← Array.getElem?_toList]
  conv=>lhs;rw [← he]
  simp
 have ord:∀ (i j:Nat) (τ σ:List Et),i<j→Ts[i]? = some τ→Ts[j]? = some σ→∃ m,(ZIa ops.toList.dropLast [])[j]? = some m∧(m.testBit i=true∨Apart τ σ):=by
  intro i j τ σ hij hτ hσ;obtain ⟨m,h1,h2⟩:=Z7k hch j (fpT σ Fp.no) (by simp [hσ]);refine ⟨m,h1,(h2 i (fpT τ Fp.no) (by simp [hτ]) (by simpa using hij)).imp_right ZDn⟩
 have opAt:∀ (j:Nat) (σ:List Et),Ts[j]? = some σ→∃ o,ops.toList.dropLast[j]? = some o:=fun j σ h=>by
  have:=(List.getElem?_eq_some_iff.1 h).1;rw [hl] at this;exact ⟨_,List.getElem?_eq_getElem this⟩
 have hsub:∀ {listed:Array Bool} {a:Act} {w:World},Inv N G w0 v0 ops Ts f l n listed a w→∀ j o,ops.toList.dropLast[j]? = some o→listed.getD (([]:List Nat).length+j) false=true→∀ e ∈ o.after,Region.binds .any e=true→listed.getD e.on false=true:=fun hI j o ho hS=>hI.closed j o (initAt ho) (by simpa using hS);intro fuel
 induction fuel with
 | zero =>
  intro listed a w hfu hlast hI;have hll:ops.toList.dropLast.length<listed.size:=by rw [hI.size];omega
  have h0:left (listed.setIfInBounds ops.toList.dropLast.length true)=0:=by have:=ZBh hlast;omega
  have hall':∀ j,(listed.setIfInBounds ops.toList.dropLast.length true).getD j true=true:=fun j=>Zwl h0;have hall:∀ j,j≠ops.toList.dropLast.length→j<listed.size→listed.getD j false=true:=fun j hj hlt=>by
   have:=hall' j;rw [← Zvb hlt];rw [Z5m hj] at this;exact this
  refine ⟨fun h0=>?_,fun i hi=>?_⟩
  ·exact absurd h0 (Zzi hb hI.size (ops.toList.dropLast.length+1) ops.toList.dropLast.length (by omega) (by omega) hlast)
  ·obtain ⟨hun,o,ho,hbef⟩:=mem_ready.1 hi;have hil:i<listed.size:=by rw [hI.size];exact Zrd ho
   have hi2:i=ops.toList.dropLast.length:=by
    rcases Nat.decEq i ops.toList.dropLast.length with h | h
    ·have:=hall i h hil;rw [← Zvb hil,hun] at this;cases this
    ·exact h
   subst hi2;rw [lastAt] at ho
   cases ho
   obtain ⟨f1,l1,⟨γ,v,ℓ,h1⟩,h2,h3⟩:=hI.rel;obtain ⟨k1,k2,k3⟩:=ZLl (b:=0) hok hn;have hsel:∀ (j:Nat) (σ:List Et),Ts[j]? = some σ→sel listed (0+j)=true:=fun j σ h=>by
    have hj:=(List.getElem?_eq_some_iff.1 h).1;rw [hl] at hj;rw [Nat.zero_add];exact hall j (by omega) (by omega)
   have hw:=hQ a w ⟨γ,v,ℓ,(h1.look k1 (fun t=>by rw [k2 t,h2 t];exact (Zxd fun j σ hj _=>(hsel j σ hj).symm)) fun t=>by rw [k3 t,h3 t];exact (Zxd fun j σ hj _=>(hsel j σ hj).symm)).mono (fun k hk=>?_) fun k hk=>?_⟩
   ·unfold wpOp;rw [lastAt];unfold wpList at hw;have hwt:Region.wanted ol (yielded ops a.tmps)=true:=ZLb hg;simp only [hwt,if_true] at hw ⊢;refine hw.imp_left (Oper.wp_mono fun a' w' hq=>⟨?_,hq⟩)
    cases hx:Region.ready .any ops (listed.setIfInBounds ops.toList.dropLast.length true) with
    | nil=>rfl
    | cons p r =>
     obtain ⟨h1,_⟩:=mem_ready.1 (show p ∈ Region.ready .any ops (listed.setIfInBounds ops.toList.dropLast.length true) by rw [hx];simp);rw [hall' p] at h1;cases h1
   all_goals
    rcases hk with hk | ⟨j,hj,rfl⟩
    ·omega
    ·have hlt:j<listed.size:=by
      rcases Nat.lt_or_ge j listed.size with h | h
      ·exact h
      ·simp [Array.getElem?_eq_none h] at hj
     have hne:j≠ops.toList.dropLast.length:=fun e=>by
      rw [e,← Zvb hll,hlast] at hj;cases hj
     rw [hI.size] at hlt;show n+j<n+_;omega
 | succ fuel ih =>
  intro listed a w hfu hlast hI;refine ⟨fun h0=>?_,fun i hi=>?_⟩
  ·exact absurd h0 (Zzi hb hI.size (ops.toList.dropLast.length+1) ops.toList.dropLast.length (by omega) (by omega) hlast)
  ·obtain ⟨hun,o,ho,hall⟩:=mem_ready.1 hi;have hil:i<listed.size:=by rw [hI.size];exact Zrd ho
   have hunf:listed.getD i false=false:=by rw [← Zvb hil];exact hun
   have hne:i≠ops.toList.dropLast.length:=by
    intro e;subst e;rw [lastAt] at ho
    cases ho
    have hbits:∀ j,j<ops.toList.dropLast.length→listed.getD j false=true:=fun j hj=>by
     rcases ZAk (hanc j hj) with h | ⟨e,h1,h2,h3⟩
     ·simp at h
     ·have hS:=hall e (by simpa using h1) h2;rcases h3 with h3 | h3
      ·rw [h3];exact hS
      ·cases hg:(ZIa ops.toList.dropLast [])[e.on]? with
       | none=>rw [List.getD_eq_getElem?_getD,hg] at h3;simp at h3
       | some m =>
        rw [List.getD_eq_getElem?_getD,hg] at h3;have hlt:e.on<ops.toList.dropLast.length:=by
         have:=(List.getElem?_eq_some_iff.1 hg).1;rw [Z7p] at this;simpa using this
        have hoe:=List.getElem?_eq_getElem hlt;exact ZZf (S:=fun k=>listed.getD k false=true) (done:=[]) (hsub hI) (fun j' m' hm'=>by simp at hm') e.on _ m hoe (by simpa using hg) (hI.closed e.on _ (initAt hoe) hS) j h3
    have h0:left (listed.setIfInBounds ops.toList.dropLast.length true)=fuel+1:=by have:=ZBh hlast;omega
    obtain ⟨j,hj,hj2⟩:=ZOk (listed:=listed.setIfInBounds ops.toList.dropLast.length true) (by omega);have hjs:j<listed.size:=by simpa using hj
    rcases Nat.decEq j ops.toList.dropLast.length with h | h
    ·have h1:=hbits j (by rw [hI.size] at hjs;omega);rw [← Zvb hjs] at h1;rw [Z5m h,h1] at hj2;cases hj2
    ·subst h;have:(listed.setIfInBounds ops.toList.dropLast.length true).getD ops.toList.dropLast.length true=true:=by simp [hjs]
     rw [this] at hj2;cases hj2
   have hlt0:i<ops.toList.dropLast.length:=by
    rw [hI.size] at hil;omega
   have ho':ops.toList.dropLast[i]? = some o:=by
    have:=List.getElem?_eq_getElem hlt0;rw [this];have h2:=initAt this;rw [ho] at h2;exact h2.symm
   have hlt:i<Ts.length:=by rw [hl];exact (List.getElem?_eq_some_iff.1 ho').1
   have hτ:Ts[i]? = some Ts[i]:=List.getElem?_eq_getElem hlt;generalize hg:Ts[i]=τ at hτ;obtain ⟨fi,li,b1,b2,b3,b4⟩:=ZOm (b:=0) hok hn hτ;obtain ⟨f1,l1,⟨γ,v,ℓ,h1⟩,h2,h3⟩:=hI.rel;have befo:∀ (j:Nat) (σ:List Et),j<i→Ts[j]? = some σ→listed.getD j false=true∨Apart σ τ:=by
    intro j σ hj hσ;obtain ⟨m,q1,q2⟩:=ord j i σ τ hj hσ hτ;refine q2.imp_left fun hbit=>?_;refine ZZf (S:=fun k=>listed.getD k false=true) (done:=[]) (hsub hI) (fun j' m' hm'=>by simp at hm') i o m ho' (by simpa using q1) hall j hbit
   have afte:∀ (j:Nat) (σ:List Et),i<j→Ts[j]? = some σ→listed.getD j false=false∨Apart τ σ:=by
    intro j σ hj hσ;obtain ⟨m,q1,q2⟩:=ord i j τ σ hj hτ hσ;refine q2.imp_left fun hbit=>?_
    cases hx:listed.getD j false with
    | false=>rfl
    | true =>
     obtain ⟨oj,hoj⟩:=opAt j σ hσ;have:=ZZf (S:=fun k=>listed.getD k false=true) (done:=[]) (hsub hI) (fun j' m' hm'=>by simp at hm') j oj m hoj (by simpa using q1) (hI.closed j oj (initAt hoj) hx) i hbit;rw [hunf] at this;cases this
   have same:∀ {β:Type} (eff:List Et→Nat→Option β) (P:Nat→Prop) (acc:β) (t:Nat),P t→(∀ σ,Apart σ τ→P t→eff σ t≠none→False)→(∀ σ,Apart τ σ→P t→eff σ t≠none→False)→Zsa eff (fun j=>decide (j<0+i)) Ts 0 acc t=Zsa eff (sel listed) Ts 0 acc t:=by
    intro β eff P acc t hP hA hB;refine Zxd fun j σ hj hne=>?_;simp only [Nat.zero_add];rcases Nat.lt_trichotomy j i with h | h | h
    ·rcases befo j σ h hj with q | q
     ·rw [decide_eq_true h];exact q.symm
     ·exact (hA σ q hP hne).elim
    ·subst h;rw [decide_eq_false (Nat.lt_irrefl _)];exact hunf.symm
    ·rcases afte j σ h hj with q | q
     ·rw [decide_eq_false (by omega)];exact q.symm
     ·exact (hB σ q hP hne).elim
   have okτ:okT τ f1 l1:=by
    refine ZVd b2 h1.nd b1 (fun t ht=>?_) fun t ht=>?_
    ·rw [b3 t,h2 t];exact same ZUa (rdS τ) _ t ht (fun σ q hp hne=>q.s1 t hne hp) fun σ q hp hne=>q.s3 t hp hne
    ·rw [b4 t,h3 t];exact same Zja (rdL τ) _ t ht (fun σ q hp hne=>q.l1 t hne hp) fun σ q hp hne=>q.l3 t hp hne
   have hruns:=ZAm (htr i o τ ho' hτ) okτ;have hnU:¬ UE n listed (n+i):=by
    rintro (h | ⟨j,hj,e⟩)
    ·omega
    ·have:i=j:=by omega
     subst this;rw [hunf] at hj;cases hj
   have selS:∀ j,sel (listed.setIfInBounds i true) j=if i=j then true else sel listed j:=fun j=>by
    by_cases h:i=j
    ·subst h;rw [if_pos rfl];exact Zmb hil
    ·rw [if_neg h];exact ZHa h
   have hUE:∀ k,UE n listed k→UE n (listed.setIfInBounds i true) k:=by
    rintro k (h | ⟨j,hj,e⟩)
    ·exact .inl h
    ·refine .inr ⟨j,?_,e⟩;have:=selS j;unfold sel at this;rw [this,hj];split <;> rfl
   have hXi:UE n (listed.setIfInBounds i true) (n+i):=.inr ⟨i,Zmb hil,rfl⟩;have hgg:=ZBl (X:=UE n (listed.setIfInBounds i true)) hC (h1.mono (fun _ h=>h) hUE) hUE hXi hnU hds (hds o (by rw [← he];exact List.mem_append_left _ (List.mem_of_getElem? ho'))) hruns;have upd:∀ {β:Type} (eff:List Et→Nat→Option β) (acc:β) (t:Nat),(∀ σ,Apart τ σ→eff τ t≠none→eff σ t≠none→False)→Zsa eff (sel (listed.setIfInBounds i true)) Ts 0 acc t=(eff τ t).getD (Zsa eff (sel listed) Ts 0 acc t):=by
    intro β eff acc t hA
    cases he:eff τ t with
    | none =>
     refine Zxd fun j σ hj hne=>?_;rw [Nat.zero_add,selS j,if_neg];intro e;subst e;rw [hτ] at hj;cases hj;exact hne he
    | some z =>
     refine Zvl (k:=i) hτ (by rw [Nat.zero_add,selS i,if_pos rfl]) he fun j σ hij hσ hs=>?_;rw [Nat.zero_add,selS j,if_neg (by omega)] at hs;rcases afte j σ hij hσ with q | q
     ·rw [show sel listed j=false from q] at hs;cases hs
     ·cases hx:eff σ t with
      | none=>rfl
      | some y=>exact (hA σ q (by rw [he];exact fun e=>by cases e) (by rw [hx];exact fun e=>by cases e)).elim
   have nxt:∀ f' l' a' w',((()=()∧f'=ZTb τ f1∧l'=ZEb τ l1)∧True)→Rel N G w0 v0 (UE n (listed.setIfInBounds i true)) f' l' a' w'→wpAny C.P .any ops Q (fuel+1) (listed.setIfInBounds i true) a' w':=by
    rintro f' l' a' w' ⟨⟨_,rfl,rfl⟩,_⟩ hr;refine ih _ _ _ (by have:=ZBh hun;omega) (by
     rw [Z5m (Ne.symm hne)];exact hlast) ⟨by simp [hI.size],fun j oj hj hlj e he hbb=>?_,_,_,hr,fun t=>?_,fun t=>?_⟩
    ·have hj2:=selS e.on;have hj3:=selS j;unfold sel at hj2 hj3;rw [hj2];split
     ·rfl
     ·rw [hj3] at hlj;split at hlj
      ·rename_i hij;subst hij;rw [ho] at hj;cases hj;exact hall e he hbb
      ·exact hI.closed j oj hj hlj e he hbb
    ·rw [ZJc okτ,h2 t];exact (upd ZUa _ t fun σ q hp hne=>q.s2 t hp hne).symm
    ·rw [(Zkc h1.nd okτ).2 t,h3 t];exact (upd Zja _ t fun σ q hp hne=>q.l2 t hp hne).symm
   unfold wpOp;rw [ho];rcases hgg with ⟨hw,hg⟩ | ⟨hw,f',l',q1,q2⟩
   ·simp only [hw,if_true];exact .inl (Zui rfl hg fun x w' ⟨f',l',q1,q2⟩=>nxt f' l' _ w' ⟨⟨rfl,q1.2⟩,trivial⟩ q2)
   ·simp only [hw];exact nxt f' l' _ w ⟨⟨rfl,q1.2⟩,trivial⟩ q2
end
end Go.Eng
namespace Go.Eng
open Go.RowKit
section
variable {N:Nat} {G:V→Value→Prop} {w0:Base} {v0:Zb}
def Zwd (N:Nat) (G:V→Value→Prop) (w0:Base) (v0:Zb) (n:Nat) (f:Fr) (l:Lo) (p:Fr→Lo→Nat→Prop) (S:Act→World→Prop):Prop :=
 ∀ f' l' n' a' w',p f' l' n'→n≤n'→Old n f l f' l'→Rel N G w0 v0 (· < n') f' l' a' w'→S a' w'
theorem Zwd.step {n n1:Nat} {f f1:Fr} {l l1:Lo} {p:Fr→Lo→Nat→Prop} {S:Act→World→Prop} (h:Zwd N G w0 v0 n f l p S) (hn:n≤n1) (ho:Old n f l f1 l1):Zwd N G w0 v0 n1 f1 l1 p S :=
 fun f' l' n' a' w' hp hn' ho' hr=>h f' l' n' a' w' hp (by omega) (ho.trans ho' hn) hr
theorem draw_ok {C:Cf} (hC:CfOK C) {α:Type} {r:α} {id:Nat} {ops:Array Oper} {f:Fr} {l:Lo} {n:Nat} {K:Fr→Lo→Nat→Option α} {Q:Exit→Act→World→Prop} {a:Act} {w:World} (hm:C.P.follows .mixedOrders=true) (hb:ZFd 0 ops.toList=true) (hds:∀ o ∈ ops.toList,∀ k,o.dst=some k→k<N)
  (h:(Z7e C ops.toList ops.toList f l n fun f l n ps=>match ZDd [] (ZIa ops.toList []) ps with
   | true=>K f l n
   | false=>none)=some r) (hr:Rel N G w0 v0 (· < n) f l a w) (hQ:Zwd N G w0 v0 n f l (fun f l n=>K f l n=some r) (Q .normal)):(Code.region id ops true).wp C.P Q a w:=by
 obtain ⟨Ts,h1,h2,h3,h4⟩:=Zkm h;split at h4
 ·rename_i hch;have hn:(l.map En.k).Nodup:=by obtain ⟨_,_,_,hr⟩:=hr;exact hr.nd
  refine wp_region_any hm ?_;have hz:∀ j,(Array.replicate ops.size false).getD j false=false:=fun j=>getD_replicate_false _ _;have hl:left (Array.replicate ops.size false)=ops.size:=by simp [left]
  refine ZIs hC (Ts:=Ts) hb hds h1 hn h2 h3 hch (fun a' w' hr'=>hQ _ _ _ a' w' h4 (by omega) (ZIm (Nat.le_refl n) h1 h2 hn h3) hr') ops.size _ a w.drew hl ⟨by simp,fun j o _ hj=>?_,f,l,?_,fun t=>?_,fun t=>?_⟩
  ·rw [hz] at hj;cases hj
  ·obtain ⟨γ,v,ℓ,hr⟩:=hr.draw;exact ⟨γ,v,ℓ,hr.mono (fun _ h=>.inl h) fun _ h=>.inl h⟩
  ·exact (Zve fun j _ _ hs=>by rw [show sel _ _=false from hz _] at hs;cases hs).symm
  ·exact (Zve fun j _ _ hs=>by rw [show sel _ _=false from hz _] at hs;cases hs).symm
 ·cases h4
def ZWf (C:Cf) (cf:CallF):Prop:=∀ {α:Type} {g:FuncId} {ags:V} {l:Lo} {n:Nat} {K:V→Lo→Nat→Option α} {r:α},cf α g ags l n K=some r→∀ {N:Nat} {G:V→Value→Prop} {w0:Base} {v0:Zb} {a:Act} {w:World} {γ:Nat→Gh} {v:Zb} {ℓ:List Loc} {vals:List Value},
 RelX N G w0 v0 (· < n) (· < n) [] l a w γ v ℓ→RR v γ l true ags vals→ags.ok (· < n)→Z9 C.P g∧Calls C.P g vals.toArray w fun e w'=>∃ y c l' n' γ' v' ℓ',e = .returned y∧K c l' n'=some r∧n≤n'∧(∀ f,Old n f l f l')∧RelX N G w0 v0 (· < n') (· < n') [] l' a w' γ' v' ℓ'∧RV v' γ' l' (Zue c) y∧(Zue c).ok (· < n')
theorem ZPp {U X:Nat→Prop} {f:Fr} {l:Lo} {a:Act} {w:World} {γ:Nat→Gh} {v:Zb} {ℓ:List Loc} (hr:RelX N G w0 v0 U X f l a w γ v ℓ):∀ {xs:List Operand} {c:V},Z4h f xs=some c→RR v γ l true c (xs.map a.eval)∧c.ok U
 | [],c,h=>by cases h;exact ⟨rfl,trivial⟩
 | x :: xs,c,h=>by
  simp only [Z4h] at h
  split at h
  ·cases h
  ·rename_i V1 c1 hnt h1 h2
   cases h
   obtain ⟨q1,q2⟩:=Zam hr h1
   obtain ⟨q3,q4⟩:=ZPp hr h2
   obtain ⟨cs,hcs,hqe⟩:=Zgb q1 (fun c e=>hnt c (by rw [e]))
   exact ⟨⟨cs,_,by rw [List.map_cons,hqe],hcs,q3⟩,q2,q4⟩
  ·cases h
theorem ZUp {v:Zb} {γ:Nat→Gh} {l:Lo} {U:Nat→Prop}:∀ {c d:V} {xs ys:List Value},RR v γ l true c xs→RR v γ l true d ys→c.ok U→d.ok U→RR v γ l true (appV c d) (xs++ys)∧(appV c d).ok U
 | .nl,d,xs,ys,h,k,_,kd=>by rw [show xs=[] from h];exact ⟨k,kd⟩
 | .cons a b,d,xs,ys,⟨cs,zs,e1,e2,e3⟩,k,kc,kd=>by
  subst e1
  obtain ⟨q1,q2⟩:=ZUp (c:=b) e3 k kc.2 kd
  exact ⟨⟨cs,_,rfl,e2,q1⟩,kc.1,q2⟩
theorem inl1_ok {C:Cf} {cf:CallF} (hcf:ZWf C cf) {α:Type} {r:α} {o:Oper} {g:FuncId} {ags:V} {f0 f:Fr} {l:Lo} {n:Nat} {K:Fr→Lo→Nat→Option α} {a:Act} {w:World} {γ:Nat→Gh} {v:Zb} {ℓ:List Loc} (hi:Zsi C f0 o=some (g,ags)) (h:inl1 cf o g ags f l n K=some r)
  (hr0:RelX N G w0 v0 (· < n) (· < n) f0 l a w γ v ℓ) (hr:RelX N G w0 v0 (· < n) (· < n) f l a w γ v ℓ) (hd:∀ k,o.dst=some k→k<N):Z9a C.P o a w fun x w'=>∃ f' l' n',K f' l' n'=some r∧n≤n'∧Old n f l f' l'∧Rel N G w0 v0 (· < n') f' l' (a.put o.dst x) w':=by
 obtain ⟨d,op,ty,pos,aft,gd⟩:=o;unfold Zsi at hi;split at hi
 ·rename_i c hop;have hop:op = .call c:=hop;subst hop;obtain ⟨callee,args,ats⟩:=c;split at hi
  ·rename_i x hx;have hx:callee = .value x:=hx;subst hx;split at hi
   ·rename_i g' cap hg;split at hi
    ·split at hi
     ·rename_i ags' has
      cases hi
      unfold inl1 at h
      cases d with
      | none=>cases h
      | some d =>
       obtain ⟨q1,q2⟩:=Zam hr0 hg;obtain ⟨cs,⟨vs,q3,rfl⟩,q4⟩:=q1;have q4:a.eval x = .func (.func g) #[] vs.toArray:=q4;obtain ⟨q5,q6⟩:=ZPp hr0 has;obtain ⟨q7,q8⟩:=ZUp q5 q3 q6 q2;have hlt:∀ k,k<n→k<n+1:=fun k h=>by omega
       let G':V→Value→Prop:=fun x y=>G x y ∨ ∃ t e,lkE f t=some e∧x=e.x∧y=a.tmps.getD t undef
       have hrG:RelX N G' w0 v0 (· < n+1) (· < n+1) [] l a w γ v ℓ:=by
        have hm:=hr.mono hlt hlt;refine ⟨hm.st,fun t e he=>(by cases he),hm.lr,hm.nd,fun t e he=>(by cases he),hm.ul,fun x y hg=>?_⟩;rcases hg with hg | ⟨t,e,h1,rfl,rfl⟩
        ·exact hm.gh x y hg
        ·exact ⟨hm.fr t e h1,(hm.uf t e h1).1⟩
       obtain ⟨hen,hcalls⟩:=hcf h hrG q7 (V.ok.mono hlt q8);obtain ⟨σ,hσ,hev⟩:=hr0.st.evs (x :: args.toList);have hfx:=hev x (by simp);rw [q4] at hfx;have hargs:args.toList.map (ev σ)=(args.toList.map a.eval).map some:=by
        rw [List.map_map];exact List.map_congr_left fun y hy=>hev y (by simp [hy])
       have hrun:=ZMq (d:=some d) (ty:=ty) (pos:=pos) (aft:=aft) (g:=gd) (ats:=ats) hσ _ _ hen hfx hargs;refine ZTd hrun (Calls.mono hcalls fun e w' ⟨y,c,l',n',γ',v',ℓ',e1,e2,e3,e4,e5,e6,e7⟩=>⟨y,e1,_,l',n',e2,by omega,((e4 f).mono (by omega)).trans (Old.put (Nat.le_refl n)) (Nat.le_refl n),γ',v',ℓ',?_⟩);have hr2:RelX N G w0 v0 (· < n') (· < n') f l' a w' γ' v' ℓ':=by
        refine ⟨e5.st,fun t e he=>(e5.gh _ _ (.inr ⟨t,e,he,rfl,rfl⟩)).1,e5.lr,e5.nd,fun t e he=>⟨(e5.gh _ _ (.inr ⟨t,e,he,rfl,rfl⟩)).2,?_⟩,e5.ul,fun x y hg=>e5.gh x y (.inl hg)⟩;have:=(hr.uf t e he).2;show e.st<n';have:e.st<n:=this;omega
       exact hr2.put (hd d rfl) e6 e7 (show n<n' by omega)
     ·cases hi
    ·cases hi
   ·cases hi
  ·cases hi
 ·cases hi
theorem inlG_ok {C:Cf} {cf:CallF} (hcf:ZWf C cf) {α:Type} {r:α} {ops:Array Oper} {o:Oper} {rest:List Oper} {g:FuncId} {ags:V} {f:Fr} {l:Lo} {n:Nat} {K:Fr→Lo→Nat→Option α} {Q:Exit→Act→World→Prop} {a:Act} {w:World} (hi:Zsi C f o=some (g,ags)) (h:inlG cf ops.toList o g ags f l n K=some r)
  (hr:Rel N G w0 v0 (· < n) f l a w) (hds:∀ o ∈ ops.toList,∀ k,o.dst=some k→k<N) (hd:∀ k,o.dst=some k→k<N) (hQ:Zwd N G w0 v0 n f l (fun f l n=>K f l n=some r) fun a w=>wpList C.P ops Q rest a w):wpList C.P ops Q (o :: rest) a w:=by
 obtain ⟨γ,v,ℓ,hr⟩:=hr;have yes:∀ {f1:Fr},Old n f l f1 l→RelX N G w0 v0 (· < n) (· < n) f1 l a w γ v ℓ→Region.wanted o (yielded ops a.tmps)=true→inl1 cf o g ags f1 l n K=some r→wpList C.P ops Q (o :: rest) a w:=fun ho hr1 hw h =>
  ZSc hw (Zhl (inl1_ok hcf hi h hr hr1 hd) fun x w' ⟨f',l',n',e1,e2,e3,e4⟩=>hQ f' l' n' _ w' e1 e2 (ho.trans e3 (Nat.le_refl n)) e4)
 have no:∀ {f1:Fr},Old n f l f1 l→RelX N G w0 v0 (· < n) (· < n) f1 l a w γ v ℓ→Region.wanted o (yielded ops a.tmps)=false→ZJi o f1 l n K=some r→wpList C.P ops Q (o :: rest) a w:=fun ho hr1 hw h=>by
  have h1:=ZEh (Nat.le_refl n) Old.refl hr1.nd (Z1g h);obtain ⟨f',l',⟨q1,q2⟩,q3⟩:=Z3i (X:=(· < n+1)) (hr1.mono (fun _ h=>h) fun k h=>(show k<n+1 by have:k<n:=h;omega)) (fun k h=>(show k<n+1 by have:k<n:=h;omega)) (Nat.lt_succ_self n) hd h1;unfold wpList;rw [if_neg (by rw [hw];decide)];exact hQ f' l' _ _ w q1 (by omega) (ho.trans q2 (Nat.le_refl n)) q3
 unfold inlG at h;split at h
 ·rename_i hg;exact yes Old.refl hr (ZLb hg) h
 ·rename_i j want hg;split at h
  ·rename_i q hq;split at h
   ·rename_i t ht;have htN:t<N:=hds q (List.mem_of_getElem? hq) t ht;have hgd:(ops[j]?).bind (·.dst)=some t:=by rw [← Array.getElem?_toList,hq];exact ht
    obtain ⟨σ,hσ,hev⟩:=hr.st.evs [.tmp t];have hl:look σ t=some (a.tmps.getD t undef):=hev (.tmp t) (by simp);split at h
    ·rename_i ek s b he;have hk:ek=t:=(Zy he).2;subst hk;have h2:a.tmps.getD ek undef = .bool b:=Zff (hr.fr ek _ he);rw [h2] at hl;have hdup:=RelX.dup hr he;have hold:=Old.dup (m:=n) (l:=l) he
     cases want <;> cases b
     ·exact yes hold hdup (Zgf hσ hg hgd hl htN) h
     ·exact no hold hdup (ZDh hσ hg hgd hl htN) h
     ·exact no hold hdup (ZDh hσ hg hgd hl htN) h
     ·exact yes hold hdup (Zgf hσ hg hgd hl htN) h
    ·rename_i ek s he;have hk:ek=t:=(Zy he).2;subst hk;obtain ⟨cs,h1,h2⟩:=hr.fr ek _ he;have h1:cs=[undef]:=h1;subst h1;have h2:a.tmps.getD ek undef=undef:=h2;rw [h2] at hl;exact no Old.refl hr (ZUd hσ hg hgd hl htN) h
    ·cases h
   ·cases h
  ·cases h
theorem Z2i {C:Cf} (hC:CfOK C) {cf:CallF} (hcf:ZWf C cf) {α:Type} {r:α} {ops:Array Oper} {Q:Exit→Act→World→Prop} (hds:∀ o ∈ ops.toList,∀ k,o.dst=some k→k<N) {K:Fr→Lo→Nat→Option α}:∀ {os:List Oper} {f:Fr} {l:Lo} {n:Nat} {a:Act} {w:World},iops C cf ops.toList os f l n K=some r→(∀ o ∈ os,o ∈ ops.toList) →
  Rel N G w0 v0 (· < n) f l a w→Zwd N G w0 v0 n f l (fun f l n=>K f l n=some r) (Q .normal)→wpList C.P ops Q os a w
 | [],f,l,n,a,w,h,_,hr,hQ=>hQ f l n a w h (Nat.le_refl n) Old.refl hr
 | o :: os,f,l,n,a,w,h,hos,hr,hQ=>by
  have hd:=hds o (hos o (by simp))
  simp only [iops] at h
  split at h
  ·obtain ⟨γ,v,ℓ,hr⟩:=hr
   have h1:=ZEh (Nat.le_refl n) Old.refl hr.nd (Z1g h)
   refine (ZBl hC (X:=(· < n+1)) (hr.mono (fun _ h=>h) fun k h=>(show k<n+1 by have:k<n:=h;omega)) (fun k h=>(show k<n+1 by have:k<n:=h;omega)) (Nat.lt_succ_self n) (Nat.lt_irrefl n) hds hd h1).list fun f' l' a' w' ⟨q1,q2⟩ q3=>?_
   exact Z2i hC hcf hds q1 (fun o ho=>hos o (by simp [ho])) q3 (hQ.step (by omega) q2)
  ·rename_i g ags hi
   refine inlG_ok hcf hi h hr hds hd fun f' l' n' a' w' q1 q2 q3 q4=>?_
   exact Z2i hC hcf hds q1 (fun o ho=>hos o (by simp [ho])) q4 (hQ.step q2 q3)
theorem ZLr {C:Cf} (hC:CfOK C) {cf:CallF} (hcf:ZWf C cf) {α:Type} {r:α} {id:Nat} {ops:Array Oper} {o:Oper} {f:Fr} {l:Lo} {n:Nat} {K:Fr→Lo→Nat→Option α} {Q:Exit→Act→World→Prop} {a:Act} {w:World} (ho:ZAj ops.toList=some o) (hm:C.P.follows .mixedOrders=true) (hb:ZFd 0 ops.toList=true) (hds:∀ o ∈ ops.toList,∀ k,o.dst=some k→k<N)
  (h:(Z7e C ops.toList ops.toList.dropLast f l n fun f l n ps=>match ZDd [] (ZIa ops.toList.dropLast []) ps with
   | true=>iops C cf ops.toList [o] f l n K
   | false=>none)=some r) (hr:Rel N G w0 v0 (· < n) f l a w) (hQ:Zwd N G w0 v0 n f l (fun f l n=>K f l n=some r) (Q .normal)):(Code.region id ops true).wp C.P Q a w:=by
 obtain ⟨Ts,h1,h2,h3,h4⟩:=Zkm h;obtain ⟨he,hg,hanc⟩:=Zeu ho;split at h4
 ·rename_i hch;have hn:(l.map En.k).Nodup:=by obtain ⟨_,_,_,hr⟩:=hr;exact hr.nd
  have hsz:ops.size=ops.toList.dropLast.length+1:=by
   have:=congrArg List.length he;simp at this ⊢;omega
  have hin:∀ o ∈ ops.toList.dropLast,o ∈ ops.toList:=fun o ho=>by rw [← he];exact List.mem_append_left _ ho
  have hol:o ∈ ops.toList:=by rw [← he];simp
  refine wp_region_any hm ?_;have hz:∀ j,(Array.replicate ops.size false).getD j false=false:=fun j=>getD_replicate_false _ _;have hl:left (Array.replicate ops.size false)=ops.toList.dropLast.length+1:=by rw [← hsz];simp [left]
  have key:=Zsr (G:=G) (w0:=w0) (v0:=v0) (Q:=Q) hC (Ts:=Ts) he hg hanc hb hds h1 hn h2 h3 hch (fun a' w' hr'=>?_) ops.toList.dropLast.length (Array.replicate ops.size false) a w.drew hl ?_ ⟨by simp,fun j o _ hj=>?_,f,l,?_,fun t=>?_,fun t=>?_⟩
  ·rw [← hsz] at key;exact key
  ·have hold:=ZIm (Nat.le_refl n) h1 h2 hn h3;exact Z2i hC hcf hds h4 (fun o' ho'=>by rcases List.mem_singleton.1 ho' with rfl;exact hol) hr' (hQ.step (by omega) hold)
  ·rw [Zvb (by rw [Array.size_replicate];omega)];exact hz _
  ·rw [hz] at hj;cases hj
  ·obtain ⟨γ,v,ℓ,hr⟩:=hr.draw;exact ⟨γ,v,ℓ,hr.mono (fun _ h=>.inl h) fun _ h=>.inl h⟩
  ·exact (Zve fun j _ _ hs=>by rw [show sel _ _=false from hz _] at hs;cases hs).symm
  ·exact (Zve fun j _ _ hs=>by rw [show sel _ _=false from hz _] at hs;cases hs).symm
 ·cases h4
theorem Zli {K:Nat}:∀ {os:List Oper},ZFf K os=true→∀ o ∈ os,∀ k,o.dst=some k→k<K
 | [],_,_,h,_,_=>by cases h
 | o :: os,h,o',ho',k,hk=>by
  simp only [ZFf] at h
  rcases List.mem_cons.1 ho' with rfl | ho'
  ·rw [hk] at h
   simp only at h
   split at h
   ·rename_i hb;exact Nat.le_of_ble_eq_true hb
   ·cases h
  ·have h':ZFf K os=true:=by
    split at h
    ·split at h
     ·exact h
     ·cases h
    ·exact h
   exact Zli h' o' ho' k hk
end
end Go.Eng
namespace Go.Eng
open Go.RowKit
def CT.isAgg:CT→Bool
 | .dat t=>t.agg
 | .agg _=>true
 | _=>false
def CT.vl (c:CT) (cs:List Value):Value:=match c.isAgg with
 | true=>.agg cs.toArray
 | false=>cs.headD Go.undef
theorem Zsg {x:V} {c:CT} {cs:List Value} (h:x.isAgg=c.isAgg):x.val cs=c.vl cs:=by
 unfold V.val CT.vl;rw [h]
 cases c.isAgg <;> rfl
def CR (v:Zb):(c:CT)→Bool→c.den→List Value→List Loc→Prop
 | .dat t,false,x,cs,es=>t.rep.rel v cs x∧es=[]
 | .own ty t,false,(xs:List t.den),cs,es=>∃ ob cap d,cs=[.slice (mkA ob) xs.length cap]∧t.rep.rels v d xs∧es=[.own ob ty t.n xs.length cap d]
 | .mat ty ty2 t,false,(m:List (List t.den)),cs,es=>∃ ob cap rows es2,cs=[.slice (mkA ob) m.length cap]∧Zqa v ty2 t rows m es2∧es = .own ob ty 1 m.length cap (Zs rows m) :: es2
 | .nl,_,_,cs,es=>cs=[]∧es=[]
 | .one a,false,x,cs,es=>CR v a false x cs es
 | .one a,true,x,cs,es=>∃ c,cs=[a.vl c]∧CR v a false x c es
 | .cons a b,false,x,cs,es=>∃ c1 c2 e1 e2,cs=c1++c2∧es=e1++e2∧CR v a false x.1 c1 e1∧CR v b false x.2 c2 e2
 | .cons a b,true,x,cs,es=>∃ c1 xs e1 e2,cs=a.vl c1 :: xs∧es=e1++e2∧CR v a false x.1 c1 e1∧CR v b true x.2 xs e2
 | .agg c,false,x,cs,es=>CR v c false x cs es
 | .box ty c,false,x,cs,es=>∃ b c1 e1,cs=[.pointer (some ⟨b,0,none⟩)]∧CR v c false x c1 e1∧c1.all plain=true∧es = .box b ty c1 :: e1
 | _,_,_,_,_=>False
theorem ZUl {v v':Zb} (h:v.le v'):∀ {c:CT} {m:Bool} {x:c.den} {cs:List Value} {es:List Loc},CR v c m x cs es→CR v' c m x cs es:=by
 intro c
 induction c with
 | dat t=>intro m x cs es k;cases m <;> first | exact ⟨Rep.mono _ h k.1,k.2⟩ | exact k
 | own ty t =>
  intro m x cs es k;cases m
  ·obtain ⟨ob,cap,d,h1,h2,h3⟩:=k;exact ⟨ob,cap,d,h1,ZQ h h2,h3⟩
  ·exact k
 | mat ty ty2 t =>
  intro m x cs es k;cases m
  ·obtain ⟨ob,cap,rows,es2,h1,h2,h3⟩:=k;exact ⟨ob,cap,rows,es2,h1,Zud h h2,h3⟩
  ·exact k
 | nl=>intro m x cs es k;cases m <;> exact k
 | one a ih =>
  intro m x cs es k;cases m
  ·exact ih (m:=false) k
  ·obtain ⟨c,h1,h2⟩:=k;exact ⟨c,h1,ih h2⟩
 | cons a b ia ib =>
  intro m x cs es k;cases m
  ·obtain ⟨c1,c2,e1,e2,h1,h2,h3,h4⟩:=k;exact ⟨c1,c2,e1,e2,h1,h2,ia h3,ib h4⟩
  ·obtain ⟨c1,c2,e1,e2,h1,h2,h3,h4⟩:=k;exact ⟨c1,c2,e1,e2,h1,h2,ia h3,ib h4⟩
 | agg c ih=>intro m x cs es k;cases m <;> first | exact ih (m:=false) k | exact k
 | box ty c ih =>
  intro m x cs es k;cases m
  ·obtain ⟨b,c1,e1,h1,h2,h3,h4⟩:=k;exact ⟨b,c1,e1,h1,ih h2,h3,h4⟩
  ·exact k
theorem Z1d {α:Type} {ex es r:List α}:(ex++(es++r)).Perm (es++(ex++r)):=by
 rw [← List.append_assoc,← List.append_assoc];exact List.Perm.append_right _ List.perm_append_comm
section
variable {N:Nat} {G:V→Value→Prop} {w0:Base} {v0:Zb} {U X:Nat→Prop} {f:Fr} {a:Act} {w:World} {n:Nat}
theorem Zus {ρ:Type} {g:Nat} {t:T} {x:V} {k:t.den→Ev ρ} {l:Lo} {Post:ρ→Fr→Lo→Prop} {v:Zb} {γ:Nat→Gh} {m:Bool} {cs:List Value} (h:Zo n (conv g t x k) f l Post) (hr:RR v γ l m x cs):m=false:=by
 cases m with
 | false=>rfl
 | true =>
  cases g with
  | zero=>exact h.elim
  | succ g=>cases x <;> first | exact hr.elim | (simp only [conv] at h;exact h.elim)
theorem ZEd {ρ:Type} (hn:¬ U n) (hX:X n):∀ (g:Nat) {c:CT} {x:V} {K:c.den→Ev ρ} {l:Lo} {Post:ρ→Fr→Lo→Prop} {γ:Nat→Gh} {v:Zb} {ℓ ex:List Loc} {m:Bool} {cs:List Value},
  Zo n (Z0 g c x K) f l Post→RelX N G w0 v0 U X f l a w γ v ℓ→St N w0 v0 [] (ex++ℓ) v a w→x.ok U→RR v γ l m x cs →
  ∃ z l' γ' v' ℓ' es,Zo n (K z) f l' Post∧RelX N G w0 v0 U X f l' a w γ' v' ℓ'∧St N w0 v0 [] (es++(ex++ℓ')) v' a w∧Le U v γ l v' γ' l'∧CR v' c m z cs es∧x.isAgg=c.isAgg
 | 0,_,_,_,_,_,_,_,_,_,_,_,h,_,_,_,_=>h.elim
 | g+1,c,x,K,l,Post,γ,v,ℓ,ex,m,cs,h,hr,hex,hk,hx=>by
  obtain ⟨E,hE,_⟩:=hr.lr
  have rfl':Le U v γ l v γ l:=Le.refl hE (Zb.le_refl _)
  cases c with
  | dat t =>
   simp only [Z0] at h
   have hm:=Zus h hx
   subst hm
   have hag:=Z4e FU h
   obtain ⟨y,l1,γ1,v1,ℓ1,k1,k2,k3,k4,k5⟩:=ZYa hn hX FU h hr hex hk
   exact ⟨y,l1,γ1,v1,ℓ1,[],k1,k2,k3,k4,⟨k5 _ hx,rfl⟩,hag⟩
  | own ty t =>
   cases x with
   | own u =>
    cases m with
    | true=>exact hx.elim
    | false =>
    simp only [Z0] at h
    obtain ⟨e,he,h⟩:=h
    obtain ⟨kk,st,L⟩:=e
    have hkk:kk=u:=(Zy he).2
    subst hkk
    obtain ⟨y,rfl,_,hy⟩:=hx
    have hy:=hy _ he
    obtain ⟨es,E',h1,_,_,h3,h4⟩:=hr.del he
    cases L with
    | own ty' t' xs fz =>
     cases fz with
     | true=>exact h.elim
     | false =>
      simp only at h
      split at h
      ·rename_i ys hty hcast
       have hty:=Nat.eq_of_beq_eq_true hty
       subst hty
       obtain ⟨c3,c4⟩:=Zda hcast
       cases c3;cases c4
       obtain ⟨ob,cap,d,g1,g2,rfl⟩:=h1
       have g1:γ kk = .own ob cap:=g1
       obtain ⟨ob',cap',g3,g4⟩:=hy
       rw [g1] at g3;cases g3
       exact ⟨_,_,_,_,_,_,h,h4,hex.perm ((List.Perm.append_left ex h3).trans Z1d),Le.era hr kk,⟨ob,cap,d,by rw [g4],g2,rfl⟩,rfl⟩
      ·exact h.elim
    | box _ _=>exact h.elim
    | mid _ _ _ _ _ _=>exact h.elim
    | mat _ _ _ _ _=>exact h.elim
   | nilS =>
    cases m with
    | true=>exact hx.elim
    | false =>
    simp only [Z0] at h
    have hx:cs=[.slice none 0 0]:=hx
    subst hx
    exact ⟨_,l,γ,v,ℓ,[.own none ty t.n 0 0 []],h,hr,hex.nilLoc ty t.n,rfl',⟨none,0,[],rfl,rfl,rfl⟩,rfl⟩
   | _=>simp only [Z0] at h;exact h.elim
  | mat ty ty2 t =>
   cases x with
   | own u =>
    cases m with
    | true=>exact hx.elim
    | false =>
    simp only [Z0] at h
    obtain ⟨e,he,h⟩:=h
    obtain ⟨kk,st,L⟩:=e
    have hkk:kk=u:=(Zy he).2
    subst hkk
    obtain ⟨y,rfl,_,hy⟩:=hx
    have hy:=hy _ he
    obtain ⟨es,E',h1,_,_,h3,h4⟩:=hr.del he
    cases L with
    | mat ty' ty2' t' mm hv =>
     simp only at h
     split at h
     ·rename_i m' hty hty2 hcast
      have hty:=Nat.eq_of_beq_eq_true hty
      have hty2:=Nat.eq_of_beq_eq_true hty2
      subst hty hty2
      obtain ⟨c3,c4⟩:=Zda hcast
      cases c3;cases c4
      obtain ⟨ob,cap,rows,es2,g1,g2,rfl⟩:=h1
      have g1:γ kk = .mat ob cap rows:=g1
      obtain ⟨ob',cap',rows',g3,g4⟩:=hy
      rw [g1] at g3;cases g3
      exact ⟨_,_,_,_,_,_,h,h4,hex.perm ((List.Perm.append_left ex h3).trans Z1d),Le.era hr kk,⟨ob,cap,rows,es2,by rw [g4],g2,rfl⟩,rfl⟩
     ·exact h.elim
    | box _ _=>exact h.elim
    | mid _ _ _ _ _ _=>exact h.elim
    | own _ _ _ _=>exact h.elim
   | nilS =>
    cases m with
    | true=>exact hx.elim
    | false =>
    simp only [Z0] at h
    have hx:cs=[.slice none 0 0]:=hx
    subst hx
    exact ⟨_,l,γ,v,ℓ,[.own none ty 1 0 0 []],h,hr,hex.nilLoc ty 1,rfl',⟨none,0,[],[],rfl,rfl,rfl⟩,rfl⟩
   | _=>simp only [Z0] at h;exact h.elim
  | nl =>
   cases x with
   | nl =>
    simp only [Z0] at h
    have hx:cs=[]:=by cases m <;> exact hx
    exact ⟨_,l,γ,v,ℓ,[],h,hr,hex,rfl',(by cases m <;> exact ⟨hx,rfl⟩),rfl⟩
   | _=>simp only [Z0] at h;exact h.elim
  | one c =>
   cases x with
   | cons x1 x2 =>
    cases x2 with
    | nl =>
     simp only [Z0] at h
     cases m with
     | false =>
      obtain ⟨c1,c2,rfl,h1,h2⟩:=hx
      have h2:c2=[]:=h2
      subst h2
      obtain ⟨z,l1,γ1,v1,ℓ1,es,k1,k2,k3,k4,k5,k6⟩:=ZEd hn hX g h hr hex hk.1 h1
      exact ⟨z,l1,γ1,v1,ℓ1,es,k1,k2,k3,k4,(by rw [List.append_nil];exact k5),rfl⟩
     | true =>
      obtain ⟨c1,xs,rfl,h1,h2⟩:=hx
      have h2:xs=[]:=h2
      subst h2
      obtain ⟨z,l1,γ1,v1,ℓ1,es,k1,k2,k3,k4,k5,k6⟩:=ZEd hn hX g h hr hex hk.1 h1
      exact ⟨z,l1,γ1,v1,ℓ1,es,k1,k2,k3,k4,⟨c1,(by rw [Zsg k6]),k5⟩,rfl⟩
    | _=>simp only [Z0] at h;exact h.elim
   | _=>simp only [Z0] at h;exact h.elim
  | cons c d =>
   cases x with
   | cons x1 x2 =>
    simp only [Z0] at h
    have step:∀ {c1:List Value} {m2:Bool} {c2:List Value},RR v γ l false x1 c1→RR v γ l m2 x2 c2→∃ z l' γ' v' ℓ' e1 e2,Zo n (K z) f l' Post∧RelX N G w0 v0 U X f l' a w γ' v' ℓ'∧St N w0 v0 [] ((e1++e2)++(ex++ℓ')) v' a w∧Le U v γ l v' γ' l'∧CR v' c false z.1 c1 e1∧CR v' d m2 z.2 c2 e2∧x1.isAgg=c.isAgg:=by
     intro c1 m2 c2 h1 h2;obtain ⟨z1,l1,γ1,v1,ℓ1,e1,k1,k2,k3,k4,k5,k6⟩:=ZEd hn hX g h hr hex hk.1 h1;obtain ⟨z2,l2,γ2,v2,ℓ2,e2,q1,q2,q3,q4,q5,q6⟩:=ZEd hn hX g (ex:=e1++ex) k1 k2 (by rw [List.append_assoc];exact k3) hk.2 (Z5a k4 hk.2 h2);refine ⟨(z1,z2),l2,γ2,v2,ℓ2,e1,e2,q1,q2,q3.perm ?_,k4.trans q4,ZUl q4.v k5,q5,k6⟩;rw [List.append_assoc,List.append_assoc];exact Z1d
    cases m with
    | false =>
     obtain ⟨c1,c2,rfl,h1,h2⟩:=hx;obtain ⟨z,l1,γ1,v1,ℓ1,e1,e2,k1,k2,k3,k4,k5,k6,k7⟩:=step h1 h2;exact ⟨z,l1,γ1,v1,ℓ1,_,k1,k2,k3,k4,⟨c1,c2,e1,e2,rfl,rfl,k5,k6⟩,rfl⟩
    | true =>
     obtain ⟨c1,xs,rfl,h1,h2⟩:=hx;obtain ⟨z,l1,γ1,v1,ℓ1,e1,e2,k1,k2,k3,k4,k5,k6,k7⟩:=step h1 h2;exact ⟨z,l1,γ1,v1,ℓ1,_,k1,k2,k3,k4,⟨c1,xs,e1,e2,by rw [Zsg k7],rfl,k5,k6⟩,rfl⟩
   | _=>simp only [Z0] at h;exact h.elim
  | agg c =>
   cases x with
   | agg x1 =>
    cases m with
    | true=>exact hx.elim
    | false =>
    simp only [Z0] at h;obtain ⟨z,l1,γ1,v1,ℓ1,es,k1,k2,k3,k4,k5,k6⟩:=ZEd hn hX g (x:=x1) (m:=false) h hr hex hk hx;exact ⟨z,l1,γ1,v1,ℓ1,es,k1,k2,k3,k4,k5,rfl⟩
   | _=>simp only [Z0] at h;exact h.elim
  | box ty c =>
   cases x with
   | ptr u off =>
    cases off with
    | succ k=>simp only [Z0] at h;exact h.elim
    | zero =>
    cases m with
    | true=>exact hx.elim
    | false =>
    simp only [Z0] at h;obtain ⟨e,he,h⟩:=h;obtain ⟨kk,st,L⟩:=e;obtain ⟨hm,hkk⟩:=Zy he;have hkk:kk=u:=hkk;subst hkk;obtain ⟨y,rfl,_,hy⟩:=hx;have hy:=hy _ he;obtain ⟨es,E',h1,_,_,h3,h4⟩:=hr.del he
    cases L with
    | box ty' x1 =>
     simp only at h;split at h
     ·rename_i hty;have hty:=Nat.eq_of_beq_eq_true hty;subst hty;obtain ⟨b,c1,g1,g2,g3,rfl⟩:=h1;have g1:γ kk = .box b:=g1;obtain ⟨b',g4,g5⟩:=hy;rw [g1] at g4;cases g4;have hk1:x1.ok U:=(hr.ul _ hm).2.2;obtain ⟨z,l1,γ1,v1,ℓ1,e1,k1,k2,k3,k4,k5,k6⟩:=ZEd hn hX g (ex:=.box b ty c1 :: ex) h h4 (hex.perm ((List.Perm.append_left ex h3).trans Z1d)) hk1 (Z5a (Le.era hr kk) hk1 g2);refine ⟨z,l1,γ1,v1,ℓ1,.box b ty c1 :: e1,k1,k2,k3.perm ?_,(Le.era hr kk).trans k4,⟨b,c1,e1,by rw [g5],k5,g3,rfl⟩,rfl⟩;exact List.perm_middle
     ·exact h.elim
    | own _ _ _ _=>exact h.elim
    | mid _ _ _ _ _ _=>exact h.elim
    | mat _ _ _ _ _=>exact h.elim
   | _=>simp only [Z0] at h;exact h.elim
theorem ZWs {ρ:Type} {g:Nat} {c:CT} {q:V} {K:c.den→Ev ρ} {l:Lo} {Post:ρ→Fr→Lo→Prop} (h:Zo n (Z0 g c (.tup q) K) f l Post):False:=by
 cases g with
 | zero=>exact h
 | succ g =>
  cases c with
  | dat t =>
   simp only [Z0] at h;have:∀ (g:Nat),Zo n (conv g t (.tup q) K) f l Post→False:=fun g h=>by cases g <;> exact h
   exact this _ h
  | _=>simp only [Z0] at h;exact h
end
theorem F2.append {α β:Type} {R:α→β→Prop}:∀ {l l':List α} {m m':List β},F2 R l m→F2 R l' m'→F2 R (l++l') (m++m')
 | [],_,[],_,_,k=>k
 | _ :: _,_,_ :: _,_,h,k=>⟨h.1,F2.append h.2 k⟩
 | [],_,_ :: _,_,h,_=>h.elim
 | _ :: _,_,[],_,h,_=>h.elim
theorem Zem {la lb:Lo} {γa γb:Nat→Gh} {γ:Nat→Gh} {l:Lo} (h:∀ e ∈ la++lb,γ e.k=(if e.k ∈ la.map En.k then γa e.k else γb e.k)∧lkE l e.k=some e):∀ e ∈ la,γ e.k=γa e.k∧lkE l e.k=some e:=fun e he=>by
 obtain ⟨h1,h2⟩:=h e (List.mem_append_left _ he)
 rw [if_pos (List.mem_map.2 ⟨e,he,rfl⟩)] at h1
 exact ⟨h1,h2⟩
theorem ZRm {la lb:Lo} {γa γb:Nat→Gh} {γ:Nat→Gh} {l:Lo} (hd:∀ e ∈ lb,e.k ∉ la.map En.k) (h:∀ e ∈ la++lb,γ e.k=(if e.k ∈ la.map En.k then γa e.k else γb e.k)∧lkE l e.k=some e):∀ e ∈ lb,γ e.k=γb e.k∧lkE l e.k=some e:=fun e he=>by
 obtain ⟨h1,h2⟩:=h e (List.mem_append_right _ he)
 rw [if_neg (hd e he)] at h1
 exact ⟨h1,h2⟩
theorem Zjm {la lb:Lo} (ha:(la.map En.k).Nodup) (hb:(lb.map En.k).Nodup) (hd:∀ e ∈ lb,e.k ∉ la.map En.k):((la++lb).map En.k).Nodup:=by
 rw [List.map_append];refine List.nodup_append.2 ⟨ha,hb,fun x hx y hy e=>?_⟩;subst e;obtain ⟨e,he,rfl⟩:=List.mem_map.1 hy;exact hd e he hx
theorem ZPk {v:Zb}:∀ (c:CT) {m:Bool} {z:c.den} {cs:List Value} {es:List Loc} (n:Nat) {x:V} {l2:Lo} {n2:Nat},CR v c m z cs es→Zk c z n=(x,l2,n2) →
  n≤n2∧(∀ e ∈ l2,n≤e.k∧e.k<n2∧n≤e.st∧e.st<n2∧e.x.ok (· < n2) (· < n2))∧(l2.map En.k).Nodup∧x.ok (· < n2)∧x.isAgg=c.isAgg ∧
  ∃ γ0:Nat→Gh,∀ (γ:Nat→Gh) (l:Lo),(∀ e ∈ l2,γ e.k=γ0 e.k∧lkE l e.k=some e)→RR v γ l m x cs∧∃ E,F2 (Zza v γ l) l2 E∧es.Perm E.flatten:=by
 intro c
 induction c with
 | dat t =>
  intro m z cs es n x l2 n2 h hi
  cases m with
  | true=>exact h.elim
  | false =>
  cases hi
  obtain ⟨h1,rfl⟩:=h;exact ⟨Nat.le_refl _,fun e he=>(by cases he),List.nodup_nil,trivial,rfl,fun _=>.box 0,fun γ l _=>⟨h1,[],trivial,List.Perm.refl _⟩⟩
 | own ty t =>
  intro m z cs es n x l2 n2 h hi
  cases m with
  | true=>exact h.elim
  | false =>
  cases hi
  obtain ⟨ob,cap,d,rfl,h2,rfl⟩:=h;refine ⟨Nat.le_succ _,fun e he=>?_,?_,Nat.lt_succ_self n,rfl,fun _=>.own ob cap,fun γ l hl=>?_⟩
  ·rcases List.mem_singleton.1 he with rfl;exact ⟨Nat.le_refl _,Nat.lt_succ_self _,Nat.le_refl _,Nat.lt_succ_self _,trivial⟩
  ·exact List.nodup_cons.2 ⟨by simp,List.nodup_nil⟩
  ·obtain ⟨hg,hlk⟩:=hl _ (List.mem_singleton.2 rfl);refine ⟨⟨_,rfl,rfl,fun e he=>?_⟩,[_],⟨⟨ob,cap,d,hg,h2,rfl⟩,trivial⟩,List.Perm.refl _⟩;rw [show lkE l n=_ from hlk] at he;cases he;exact ⟨ob,cap,hg,rfl⟩
 | mat ty ty2 t =>
  intro m z cs es n x l2 n2 h hi
  cases m with
  | true=>exact h.elim
  | false =>
  cases hi
  obtain ⟨ob,cap,rows,es2,rfl,h2,rfl⟩:=h;refine ⟨Nat.le_succ _,fun e he=>?_,?_,Nat.lt_succ_self n,rfl,fun _=>.mat ob cap rows,fun γ l hl=>?_⟩
  ·rcases List.mem_singleton.1 he with rfl;exact ⟨Nat.le_refl _,Nat.lt_succ_self _,Nat.le_refl _,Nat.lt_succ_self _,Nat.lt_succ_self n⟩
  ·exact List.nodup_cons.2 ⟨by simp,List.nodup_nil⟩
  ·obtain ⟨hg,hlk⟩:=hl _ (List.mem_singleton.2 rfl);refine ⟨⟨_,rfl,rfl,fun e he=>?_⟩,[_],⟨⟨ob,cap,rows,es2,hg,h2,rfl⟩,trivial⟩,by simp⟩;rw [show lkE l n=_ from hlk] at he;cases he;exact ⟨ob,cap,rows,hg,rfl⟩
 | nl =>
  intro m z cs es n x l2 n2 h hi
  cases hi
  have h:cs=[]∧es=[]:=by cases m <;> exact h
  obtain ⟨rfl,rfl⟩:=h;exact ⟨Nat.le_refl _,fun e he=>(by cases he),List.nodup_nil,trivial,rfl,fun _=>.box 0,fun γ l _=>⟨by cases m <;> rfl,[],trivial,List.Perm.refl _⟩⟩
 | one c ih =>
  intro m z cs es n x l2 n2 h hi;have hi:((.cons (Zk c z n).1 .nl:V),(Zk c z n).2.1,(Zk c z n).2.2)=(x,l2,n2):=hi
  cases hi
  cases m with
  | false =>
   obtain ⟨k1,k2,k3,k4,k5,γ0,k6⟩:=ih n (x:=(Zk c z n).1) (l2:=(Zk c z n).2.1) (n2:=(Zk c z n).2.2) h rfl;exact ⟨k1,k2,k3,⟨k4,trivial⟩,rfl,γ0,fun γ l hl=>⟨⟨cs,[],by simp,(k6 γ l hl).1,rfl⟩,(k6 γ l hl).2⟩⟩
  | true =>
   obtain ⟨c1,rfl,h⟩:=h;obtain ⟨k1,k2,k3,k4,k5,γ0,k6⟩:=ih n (x:=(Zk c z n).1) (l2:=(Zk c z n).2.1) (n2:=(Zk c z n).2.2) h rfl;exact ⟨k1,k2,k3,⟨k4,trivial⟩,rfl,γ0,fun γ l hl=>⟨⟨c1,[],by rw [Zsg k5],(k6 γ l hl).1,rfl⟩,(k6 γ l hl).2⟩⟩
 | cons c d ia ib =>
  intro m z cs es n x l2 n2 h hi;have hi:((.cons (Zk c z.1 n).1 (Zk d z.2 (Zk c z.1 n).2.2).1:V),(Zk c z.1 n).2.1++(Zk d z.2 (Zk c z.1 n).2.2).2.1,(Zk d z.2 (Zk c z.1 n).2.2).2.2)=(x,l2,n2):=hi
  cases hi
  have step:∀ {c1 c2:List Value} {m2:Bool} {e1 e2:List Loc},CR v c false z.1 c1 e1→CR v d m2 z.2 c2 e2→es=e1++e2→n≤(Zk d z.2 (Zk c z.1 n).2.2).2.2∧(∀ e ∈ (Zk c z.1 n).2.1++(Zk d z.2 (Zk c z.1 n).2.2).2.1,n≤e.k∧e.k<(Zk d z.2 (Zk c z.1 n).2.2).2.2∧n≤e.st∧e.st<(Zk d z.2 (Zk c z.1 n).2.2).2.2∧e.x.ok (· < (Zk d z.2 (Zk c z.1 n).2.2).2.2) (· < (Zk d z.2 (Zk c z.1 n).2.2).2.2))∧(((Zk c z.1 n).2.1++(Zk d z.2 (Zk c z.1 n).2.2).2.1).map En.k).Nodup∧((Zk c z.1 n).1.ok (· < (Zk d z.2 (Zk c z.1 n).2.2).2.2)∧(Zk d z.2 (Zk c z.1 n).2.2).1.ok (· < (Zk d z.2 (Zk c z.1 n).2.2).2.2))∧(Zk c z.1 n).1.isAgg=c.isAgg ∧
    ∃ γ0:Nat→Gh,∀ (γ:Nat→Gh) (l:Lo),(∀ e ∈ (Zk c z.1 n).2.1++(Zk d z.2 (Zk c z.1 n).2.2).2.1,γ e.k=γ0 e.k∧lkE l e.k=some e)→RR v γ l false (Zk c z.1 n).1 c1∧RR v γ l m2 (Zk d z.2 (Zk c z.1 n).2.2).1 c2∧∃ E,F2 (Zza v γ l) ((Zk c z.1 n).2.1++(Zk d z.2 (Zk c z.1 n).2.2).2.1) E∧es.Perm E.flatten:=by
   intro c1 c2 m2 e1 e2 h1 h2 he;obtain ⟨k1,k2,k3,k4,k5,γa,k6⟩:=ia n (x:=(Zk c z.1 n).1) (l2:=(Zk c z.1 n).2.1) (n2:=(Zk c z.1 n).2.2) h1 rfl;obtain ⟨q1,q2,q3,q4,q5,γb,q6⟩:=ib (Zk c z.1 n).2.2 (x:=(Zk d z.2 (Zk c z.1 n).2.2).1) (l2:=(Zk d z.2 (Zk c z.1 n).2.2).2.1) (n2:=(Zk d z.2 (Zk c z.1 n).2.2).2.2) h2 rfl;have hd:∀ e ∈ (Zk d z.2 (Zk c z.1 n).2.2).2.1,e.k ∉ ((Zk c z.1 n).2.1).map En.k:=fun e he hm=>by
    obtain ⟨e',he',hk⟩:=List.mem_map.1 hm;have:=(k2 e' he').2.1;have:=(q2 e he).1;omega
   have up:∀ k,k<(Zk c z.1 n).2.2→k<(Zk d z.2 (Zk c z.1 n).2.2).2.2:=fun k hk=>Nat.lt_of_lt_of_le hk q1;refine ⟨Nat.le_trans k1 q1,fun e he=>?_,Zjm k3 q3 hd,⟨V.ok.mono up k4,q4⟩,k5,fun k=>if k ∈ ((Zk c z.1 n).2.1).map En.k then γa k else γb k,fun γ l hl=>⟨(k6 γ l (Zem hl)).1,(q6 γ l (ZRm hd hl)).1,?_⟩⟩
   ·rcases List.mem_append.1 he with he | he
    ·obtain ⟨r1,r2,r3,r4,r5⟩:=k2 e he;exact ⟨r1,up _ r2,r3,up _ r4,LV.ok.mono up up r5⟩
    ·obtain ⟨r1,r2,r3,r4,r5⟩:=q2 e he;exact ⟨Nat.le_trans k1 r1,r2,Nat.le_trans k1 r3,r4,r5⟩
   ·obtain ⟨E1,g1,g2⟩:=(k6 γ l (Zem hl)).2;obtain ⟨E2,g3,g4⟩:=(q6 γ l (ZRm hd hl)).2;exact ⟨E1++E2,g1.append g3,by rw [he,List.flatten_append];exact g2.append g4⟩
  cases m with
  | false =>
   obtain ⟨c1,c2,e1,e2,rfl,he,h1,h2⟩:=h;obtain ⟨k1,k2,k3,k4,k5,γ0,k6⟩:=step h1 h2 he;exact ⟨k1,k2,k3,k4,rfl,γ0,fun γ l hl=>⟨⟨c1,c2,rfl,(k6 γ l hl).1,(k6 γ l hl).2.1⟩,(k6 γ l hl).2.2⟩⟩
  | true =>
   obtain ⟨c1,c2,e1,e2,rfl,he,h1,h2⟩:=h;obtain ⟨k1,k2,k3,k4,k5,γ0,k6⟩:=step h1 h2 he;exact ⟨k1,k2,k3,k4,rfl,γ0,fun γ l hl=>⟨⟨c1,c2,by rw [Zsg k5],(k6 γ l hl).1,(k6 γ l hl).2.1⟩,(k6 γ l hl).2.2⟩⟩
 | agg c ih =>
  intro m z cs es n x l2 n2 h hi
  cases m with
  | true=>exact h.elim
  | false =>
  have hi:((.agg (Zk c z n).1:V),(Zk c z n).2.1,(Zk c z n).2.2)=(x,l2,n2):=hi
  cases hi
  obtain ⟨k1,k2,k3,k4,k5,γ0,k6⟩:=ih (m:=false) n (x:=(Zk c z n).1) (l2:=(Zk c z n).2.1) (n2:=(Zk c z n).2.2) h rfl;exact ⟨k1,k2,k3,k4,rfl,γ0,k6⟩
 | box ty c ih =>
  intro m z cs es n x l2 n2 h hi
  cases m with
  | true=>exact h.elim
  | false =>
  have hi:((.ptr n 0:V),(⟨n,n,.box ty (Zk c z (n+1)).1⟩ :: (Zk c z (n+1)).2.1:Lo),(Zk c z (n+1)).2.2)=(x,l2,n2):=hi
  cases hi
  obtain ⟨b,c1,e1,rfl,h2,h3,rfl⟩:=h;obtain ⟨k1,k2,k3,k4,k5,γ0,k6⟩:=ih (m:=false) (n+1) (x:=(Zk c z (n+1)).1) (l2:=(Zk c z (n+1)).2.1) (n2:=(Zk c z (n+1)).2.2) h2 rfl;have hd:∀ e ∈ (Zk c z (n+1)).2.1,e.k≠n:=fun e he hk=>by have:=(k2 e he).1;omega
  refine ⟨by omega,fun e he=>?_,List.nodup_cons.2 ⟨fun hm=>?_,k3⟩,(show n<_ by omega),rfl,fun k=>if k=n then .box b else γ0 k,fun γ l hl=>?_⟩
  ·rcases List.mem_cons.1 he with rfl | he
   ·exact ⟨Nat.le_refl _,(show n<_ by omega),Nat.le_refl _,(show n<_ by omega),k4⟩
   ·obtain ⟨r1,r2,r3,r4,r5⟩:=k2 e he;exact ⟨by omega,r2,by omega,r4,r5⟩
  ·obtain ⟨e,he,hk⟩:=List.mem_map.1 hm;exact hd e he hk
  ·obtain ⟨hg,hlk⟩:=hl _ List.mem_cons_self;have hg:γ n = .box b:=by rw [show γ n=_ from hg];exact if_pos rfl
   obtain ⟨q1,E,q2,q3⟩:=k6 γ l fun e he=>by
    obtain ⟨r1,r2⟩:=hl e (List.mem_cons_of_mem _ he);exact ⟨r1.trans (if_neg (hd e he)),r2⟩
   refine ⟨⟨_,rfl,rfl,fun e he=>?_⟩,[_] :: E,⟨⟨b,c1,hg,q1,h3,rfl⟩,q2⟩,by rw [List.flatten_cons];exact List.Perm.cons _ q3⟩;rw [show lkE l n=_ from hlk] at he;cases he;exact ⟨b,hg,rfl⟩
end Go.Eng
namespace Go.Eng
open Go.RowKit
def CRL (v:Zb):(c:CT)→c.den→Gh→List Loc→Prop
 | .own ty t,(xs:List t.den),g,es=>∃ ob cap d,g = .own ob cap∧t.rep.rels v d xs∧es=[.own ob ty t.n xs.length cap d]
 | .mat ty ty2 t,(m:List (List t.den)),g,es=>∃ ob cap rows es2,g = .mat ob cap rows∧Zqa v ty2 t rows m es2∧es = .own ob ty 1 m.length cap (Zs rows m) :: es2
 | .box ty c,z,g,es=>∃ b c1 e1,g = .box b∧CR v c false z c1 e1∧c1.all plain=true∧es = .box b ty c1 :: e1
 | _,_,_,_=>False
theorem ZBq {v v':Zb} (h:v.le v') {c:CT} {z:c.den} {g:Gh} {es:List Loc} (k:CRL v c z g es):CRL v' c z g es:=by
 cases c with
 | own ty t=>obtain ⟨ob,cap,d,h1,h2,h3⟩:=k;exact ⟨ob,cap,d,h1,ZQ h h2,h3⟩
 | mat ty ty2 t=>obtain ⟨ob,cap,rows,es2,h1,h2,h3⟩:=k;exact ⟨ob,cap,rows,es2,h1,Zud h h2,h3⟩
 | box ty c=>obtain ⟨b,c1,e1,h1,h2,h3,h4⟩:=k;exact ⟨b,c1,e1,h1,ZUl h h2,h3,h4⟩
 | _=>exact k.elim
def Zug (p:Nat→Prop):(c:CT)→c.den→LV→Prop
 | .own ty t,z,L=>L = .own ty t z false
 | .mat ty ty2 t,z,L=>∃ hv,p hv∧L = .mat ty ty2 t z hv
 | .box ty _,_,L=>∃ x,L = .box ty x
 | _,_,_=>False
theorem Zks {U:Nat→Prop} {γ1 γ2 γ3:Nat→Gh} {u s1 s2 s3:Nat} {x1 x2 x3:LV} (c1:CE U γ1 γ2 u s1 s2 x1 x2) (c2:CE U γ2 γ3 u s2 s3 x2 x3):CE U γ1 γ3 u s1 s3 x1 x3:=CE.tr c1 c2
theorem Zmp {U U':Nat→Prop} {γ γ1 γ2:Nat→Gh} {u s s':Nat} {x x':LV} (hU:∀ k,U k→U' k) (hg:γ2 u=γ1 u) (c:CE U' γ γ1 u s s' x x'):CE U γ γ2 u s s' x x':=by
  cases x <;> cases x' <;> simp only [CE] at c ⊢
  · rw [hg,c]
  · exact ⟨hg.trans c.1,c.2.1,c.2.2.1,fun h=>c.2.2.2 (hU _ h)⟩
  all_goals first
    | (obtain ⟨ob,cap,rows,a1,a2,a3⟩:=c;exact ⟨ob,cap,rows,a1,hg.trans a2,a3⟩)
    | (obtain ⟨a1,a2,⟨ob,cap,rows,rows',a3,a4,a5⟩,a6⟩:=c
       exact ⟨a1,a2,⟨ob,cap,rows,rows',a3,hg.trans a4,fun h=>a5 (hU _ h)⟩,fun h=>a6 (hU _ h)⟩)
theorem CE_head {U:Nat→Prop} {γ γ':Nat→Gh} {u s s' n0:Nat} {c:CT} {z:c.den} {L L':LV} {v:Zb} {es:List Loc} (hU:∀ k,n0≤k→¬ U k) (hs:n0≤s') (h:Zug (fun _=>True) c z L) (h':Zug (n0≤·) c z L') (hg:γ' u=γ u) (hc:CRL v c z (γ u) es):CE U γ γ' u s s' L L':=by
 cases c with
 | own ty t=>subst h;subst h';exact ⟨hg,rfl,rfl,fun e=>absurd e (hU _ hs)⟩
 | mat ty ty2 t =>
  obtain ⟨hv,_,rfl⟩:=h;obtain ⟨hv',h2,rfl⟩:=h';obtain ⟨ob,cap,rows,es2,h3,h4,h5⟩:=hc;exact ⟨rfl,rfl,⟨ob,cap,rows,rows,h3,hg.trans h3,fun e=>absurd e (hU _ h2)⟩,fun e=>absurd e (hU _ hs)⟩
 | box ty c=>obtain ⟨x,rfl⟩:=h;obtain ⟨x',rfl⟩:=h';exact hg
 | _=>exact h.elim
section
variable {N:Nat} {G:V→Value→Prop} {w0:Base} {v0:Zb} {U X:Nat→Prop} {f:Fr} {a:Act} {w:World} {n:Nat}
theorem ZXq {ρ:Type} (hn:¬ U n) (hX:X n) {c:CT} {u:Nat} (hu:U u) {K:c.den→Ev ρ} {l:Lo} {Post:ρ→Fr→Lo→Prop} {γ:Nat→Gh} {v:Zb} {ℓ ex:List Loc}
  (h:Zo n (ZFe c u K) f l Post) (hr:RelX N G w0 v0 U X f l a w γ v ℓ) (hex:St N w0 v0 [] (ex++ℓ) v a w) :
  ∃ z l' γ' v' ℓ' es e0,Zo n (K z) f l' Post∧RelX N G w0 v0 U X f l' a w γ' v' ℓ'∧St N w0 v0 [] (es++(ex++ℓ')) v' a w∧Le U v γ l v' γ' l'∧CRL v' c z (γ u) es∧lkE l u=some e0∧lkE l' u=none∧Zug (fun _=>True) c z e0.x:=by
 cases c with
 | own ty t =>
  simp only [ZFe] at h;obtain ⟨e,he,h⟩:=h;obtain ⟨kk,st,L⟩:=e;have hkk:kk=u:=(Zy he).2;subst hkk;obtain ⟨es,E',h1,_,_,h3,h4⟩:=hr.del he
  cases L with
  | own ty' t' xs fz =>
   cases fz with
   | true=>exact h.elim
   | false =>
    simp only at h;split at h
    ·rename_i ys hty hcast;have hty:=Nat.eq_of_beq_eq_true hty;subst hty;obtain ⟨c3,c4⟩:=Zda hcast
     cases c3;cases c4
     obtain ⟨ob,cap,d,g1,g2,rfl⟩:=h1;exact ⟨_,_,_,_,_,_,_,h,h4,hex.perm ((List.Perm.append_left ex h3).trans Z1d),Le.era hr kk,⟨ob,cap,d,g1,g2,rfl⟩,he,Z7i (ZAb hr.nd).2,rfl⟩
    ·exact h.elim
  | box _ _=>exact h.elim
  | mid _ _ _ _ _ _=>exact h.elim
  | mat _ _ _ _ _=>exact h.elim
 | mat ty ty2 t =>
  simp only [ZFe] at h;obtain ⟨e,he,h⟩:=h;obtain ⟨kk,st,L⟩:=e;have hkk:kk=u:=(Zy he).2;subst hkk;obtain ⟨es,E',h1,_,_,h3,h4⟩:=hr.del he
  cases L with
  | mat ty' ty2' t' mm hv =>
   simp only at h;split at h
   ·rename_i m' hty hty2 hcast;have hty:=Nat.eq_of_beq_eq_true hty;have hty2:=Nat.eq_of_beq_eq_true hty2;subst hty hty2;obtain ⟨c3,c4⟩:=Zda hcast
    cases c3;cases c4
    obtain ⟨ob,cap,rows,es2,g1,g2,rfl⟩:=h1;exact ⟨_,_,_,_,_,_,_,h,h4,hex.perm ((List.Perm.append_left ex h3).trans Z1d),Le.era hr kk,⟨ob,cap,rows,es2,g1,g2,rfl⟩,he,Z7i (ZAb hr.nd).2,hv,trivial,rfl⟩
   ·exact h.elim
  | box _ _=>exact h.elim
  | mid _ _ _ _ _ _=>exact h.elim
  | own _ _ _ _=>exact h.elim
 | box ty c =>
  simp only [ZFe] at h;obtain ⟨e,he,h⟩:=h;obtain ⟨kk,st,L⟩:=e;obtain ⟨hm,hkk⟩:=Zy he;have hkk:kk=u:=hkk;subst hkk;obtain ⟨es,E',h1,_,_,h3,h4⟩:=hr.del he
  cases L with
  | box ty' x1 =>
   simp only at h;split at h
   ·rename_i hty;have hty:=Nat.eq_of_beq_eq_true hty;subst hty;obtain ⟨b,c1,g1,g2,g3,rfl⟩:=h1;have hk1:x1.ok U:=(hr.ul _ hm).2.2;obtain ⟨z,l1,γ1,v1,ℓ1,e1,k1,k2,k3,k4,k5,k6⟩:=ZEd hn hX FU (ex:=.box b ty c1 :: ex) h h4 (hex.perm ((List.Perm.append_left ex h3).trans Z1d)) hk1 (Z5a (Le.era hr kk) hk1 g2);refine ⟨z,l1,γ1,v1,ℓ1,.box b ty c1 :: e1,_,k1,k2,k3.perm ?_,(Le.era hr kk).trans k4,⟨b,c1,e1,g1,k5,g3,rfl⟩,he,?_,x1,rfl⟩
    ·exact List.perm_middle
    ·cases hx:lkE l1 kk with
     | none=>rfl
     | some e' =>
      obtain ⟨e,he2,_⟩:=k4.l kk e' hu hx;rw [Z7i (ZAb hr.nd).2] at he2;cases he2
   ·exact h.elim
  | own _ _ _ _=>exact h.elim
  | mid _ _ _ _ _ _=>exact h.elim
  | mat _ _ _ _ _=>exact h.elim
 | _=>simp only [ZFe] at h;exact h.elim
end
theorem Zvh:∀ (g:Nat) {x z:V} {off n:Nat} {ag:Bool} {U:Nat→Prop},Zfa g x off n ag=some z→x.ok U→z.ok U
 | 0,_,_,_,_,_,_,h,_=>by cases h
 | g+1,x,z,off,n,ag,U,h,hk=>by
  have whole:∀ {y:V},(match Nat.beq off 0,Nat.beq y.size n,eqB y.isAgg ag with
    | true,true,true=>some y
    | _,_,_=>match y with
     | .agg c=>Zfa g c off n ag
     | .data t x=>match Zyb t x with
      | some c=>Zfa g c off n ag
      | none=>none
     | _=>none)=some z→y.ok U→z.ok U:=by
   intro y hy hk;split at hy
   ·cases hy;exact hk
   ·split at hy
    ·exact Zvh g hy hk
    ·split at hy
     ·rename_i he;exact Zvh g hy (Z7o he)
     ·cases hy
    ·cases hy
  cases x with
  | nl=>simp only [Zfa] at h;cases h
  | cons a b =>
   simp only [Zfa] at h;split at h
   ·exact Zvh g h hk.1
   ·split at h
    ·exact Zvh g h hk.2
    ·cases h
  | data t x=>exact whole (y:=.data t x) h hk
  | agg c=>exact whole (y:=.agg c) h hk
  | nilS=>exact whole (y:=.nilS) h hk
  | own u=>exact whole (y:=.own u) h hk
  | row u i hv cv t r=>exact whole (y:=.row u i hv cv t r) h hk
  | ptr u o=>exact whole (y:=.ptr u o) h hk
  | el u i cv t x o=>exact whole (y:=.el u i cv t x o) h hk
  | rp u i hv cv t r=>exact whole (y:=.rp u i hv cv t r) h hk
  | rel u i j hv cv t r x o=>exact whole (y:=.rel u i j hv cv t r x o) h hk
  | vp t x o=>exact whole (y:=.vp t x o) h hk
  | tup c=>exact whole (y:=.tup c) h hk
  | fn f c=>exact whole (y:=.fn f c) h hk
  | ifc f c=>exact whole (y:=.ifc f c) h hk
  | undef=>exact whole (y:=.undef) h hk
structure H0 (G:V→Value→Prop) (n0:Nat) (f0:Fr) (l0:Lo):Prop where
 f:∀ t e,lkE f0 t=some e→e.x.ok (· < n0)∧e.st<n0
 l:∀ e ∈ l0,e.k<n0∧e.st<n0∧e.x.ok (· < n0) (· < n0)
 nd:(l0.map En.k).Nodup
 g:∀ x y,G x y→x.ok (· < n0)
theorem Rel.h0 {N:Nat} {G:V→Value→Prop} {w0:Base} {v0:Zb} {n:Nat} {f:Fr} {l:Lo} {a:Act} {w:World} (h:Rel N G w0 v0 (· < n) f l a w):H0 G n f l:=by
 obtain ⟨γ,v,ℓ,h⟩:=h;exact ⟨h.uf,h.ul,h.nd,fun x y hg=>(h.gh x y hg).2⟩
theorem Zip {x:V} {u n:Nat} (h:idV x=some u) (hk:x.ok (· < n)):u<n:=by
 unfold idV at h;split at h
 ·cases h;exact hk
 ·cases h;exact hk
 ·cases h
theorem ZNl {G:V→Value→Prop} {n0:Nat} {f0:Fr} {l0:Lo} (h0:H0 G n0 f0 l0):∀ {p:Pl} {u:Nat},Zbc f0 l0 p=some u→u<n0
 | .sl s,u,h=>by
  simp only [Zbc] at h
  split at h
  ·rename_i e he;exact Zip h (h0.f _ _ he).1
  ·cases h
 | .fld p off,u,h=>by
  simp only [Zbc] at h
  split at h
  ·split at h
   ·rename_i he
    split at h
    ·rename_i hg
     have:=(h0.l _ (Zy he).1).2.2
     exact Zip h (Zvh FU hg this)
    ·cases h
   ·cases h
  ·cases h
def SRel (a:Act) (v:Zb) (t:Nat) (c:CT) (z:c.den) (es:List Loc):Prop:=∃ cs,a.tmps.getD t undef=c.vl cs∧CR v c false z cs es
def LRel (v:Zb) (γ:Nat→Gh) (l:Lo) (n0:Nat) (f0:Fr) (l0:Lo) (u:Nat) (p:Pl) (c:CT) (z:c.den) (es:List Loc):Prop :=
 Zbc f0 l0 p=some u∧∃ g e0,lkE l u=some e0∧CRL v c z g es∧∀ (γ':Nat→Gh) (st':Nat) (L':LV),γ' u=g→n0≤st'→Zug (n0≤·) c z L'→CE (· < n0) γ γ' u e0.st st' e0.x L'
def VRel (a:Act) (v:Zb) (γ:Nat→Gh) (l:Lo) (n0:Nat) (f0:Fr) (l0:Lo):(vs:List Vr)→(ctL (vs.map Vr.ct)).den→List Loc→List Nat→Prop
 | [],_,es,us=>es=[]∧us=[]
 | [.s t c],z,es,us=>us=[]∧SRel a v t c z es
 | [.l p c],z,es,us=>∃ u,us=[u]∧LRel v γ l n0 f0 l0 u p c z es
 | .s t c :: w :: r,z,es,us=>∃ e1 e2,es=e1++e2∧SRel a v t c z.1 e1∧VRel a v γ l n0 f0 l0 (w :: r) z.2 e2 us
 | .l p c :: w :: r,z,es,us=>∃ e1 e2 u us',es=e1++e2∧us=u :: us'∧LRel v γ l n0 f0 l0 u p c z.1 e1∧VRel a v γ l n0 f0 l0 (w :: r) z.2 e2 us'
theorem Zfv {a:Act} {v v':Zb} (h:v.le v') {t:Nat} {c:CT} {z:c.den} {es:List Loc} (k:SRel a v t c z es):SRel a v' t c z es:=by
 obtain ⟨cs,h1,h2⟩:=k;exact ⟨cs,h1,ZUl h h2⟩
theorem ZJr {v v':Zb} (h:v.le v') {γ:Nat→Gh} {l:Lo} {n0:Nat} {f0:Fr} {l0:Lo} {u:Nat} {p:Pl} {c:CT} {z:c.den} {es:List Loc} (k:LRel v γ l n0 f0 l0 u p c z es):LRel v' γ l n0 f0 l0 u p c z es:=by
 obtain ⟨h1,g,e0,h2,h3,h4⟩:=k;exact ⟨h1,g,e0,h2,ZBq h h3,h4⟩
section
variable {N:Nat} {G:V→Value→Prop} {w0:Base} {v0:Zb} {f:Fr} {a:Act} {w:World} {n:Nat}
theorem Zdp {ρ:Type} {t:Nat} {c:CT} {K:c.den→Ev ρ} {l:Lo} {Post:ρ→Fr→Lo→Prop} {γ:Nat→Gh} {v:Zb} {ℓ ex:List Loc}
  (h:Zo n (.rdS t fun v=>Z0 FU c v K) f l Post) (hr:RelX N G w0 v0 (· < n) (· < n+1) f l a w γ v ℓ) (hex:St N w0 v0 [] (ex++ℓ) v a w) :
  ∃ z l' γ' v' ℓ' es,Zo n (K z) f l' Post∧RelX N G w0 v0 (· < n) (· < n+1) f l' a w γ' v' ℓ'∧St N w0 v0 [] (es++(ex++ℓ')) v' a w∧Le (· < n) v γ l v' γ' l'∧SRel a v' t c z es:=by
 obtain ⟨e,he,h⟩:=h;have hrv:=hr.fr t e he;obtain ⟨cs,hcs,hy⟩:=Zgb hrv (fun q hq=>by rw [hq] at h;exact ZWs h);obtain ⟨z,l',γ',v',ℓ',es,k1,k2,k3,k4,k5,k6⟩:=ZEd (U:=(· < n)) (X:=(· < n+1)) (Nat.lt_irrefl n) (Nat.lt_succ_self n) FU h hr hex (hr.uf t e he).1 hcs;exact ⟨z,l',γ',v',ℓ',es,k1,k2,k3,k4,cs,by rw [hy,Zsg k6],k5⟩
theorem ZWn {ρ:Type} {u:Nat} {p:Pl} {c:CT} {K:c.den→Ev ρ} {l lE f0l:Lo} {f0:Fr} {n0:Nat} {Post:ρ→Fr→Lo→Prop} {γ γE:Nat→Gh} {v vE:Zb} {ℓ ex:List Loc} (h0:H0 G n0 f0 f0l) (hn0:n0≤n) (hid:Zbc f0 f0l p=some u)
  (h:Zo n (ZFe c u K) f l Post) (hr:RelX N G w0 v0 (· < n) (· < n+1) f l a w γ v ℓ) (hex:St N w0 v0 [] (ex++ℓ) v a w) (hE:Le (· < n) vE γE lE v γ l) :
  ∃ z l' γ' v' ℓ' es,Zo n (K z) f l' Post∧RelX N G w0 v0 (· < n) (· < n+1) f l' a w γ' v' ℓ'∧St N w0 v0 [] (es++(ex++ℓ')) v' a w∧Le (· < n) v γ l v' γ' l'∧LRel v' γE lE n0 f0 f0l u p c z es∧(∃ e,lkE l u=some e)∧lkE l' u=none:=by
 have hu:u<n:=Nat.lt_of_lt_of_le (ZNl h0 hid) hn0;obtain ⟨z,l',γ',v',ℓ',es,e0,k1,k2,k3,k4,k5,k6,k7,k8⟩:=ZXq (U:=(· < n)) (X:=(· < n+1)) (Nat.lt_irrefl n) (Nat.lt_succ_self n) hu h hr hex;obtain ⟨eE,q1,q2⟩:=hE.l u e0 hu k6;refine ⟨z,l',γ',v',ℓ',es,k1,k2,k3,k4,⟨hid,γ u,eE,q1,k5,fun γ2 st' L' hg hs hh=>?_⟩,⟨e0,k6⟩,k7⟩;exact Zks (Zmp (fun k hk=>Nat.lt_of_lt_of_le hk hn0) rfl q2) (CE_head (n0:=n0) (fun k hk h=>by omega) hs k8 hh hg k5)
theorem ZVl {ρ:Type} {f0:Fr} {l0 lE:Lo} {n0:Nat} {γE:Nat→Gh} {vE:Zb} (h0:H0 G n0 f0 l0) (hn0:n0≤n):∀ {vs:List Vr} {K:(ctL (vs.map Vr.ct)).den→Ev ρ} {l:Lo} {Post:ρ→Fr→Lo→Prop} {γ:Nat→Gh} {v:Zb} {ℓ ex:List Loc},
  Zo n (ZHe f0 l0 vs K) f l Post→RelX N G w0 v0 (· < n) (· < n+1) f l a w γ v ℓ→St N w0 v0 [] (ex++ℓ) v a w→Le (· < n) vE γE lE v γ l →
  ∃ z l' γ' v' ℓ' es us,Zo n (K z) f l' Post∧RelX N G w0 v0 (· < n) (· < n+1) f l' a w γ' v' ℓ'∧St N w0 v0 [] (es++(ex++ℓ')) v' a w∧Le (· < n) v γ l v' γ' l'∧VRel a v' γE lE n0 f0 l0 vs z es us∧us.Nodup∧∀ u ∈ us,u<n0∧(∃ e,lkE l u=some e)∧u ∈ ZPc f0 l0 vs
 | [],K,l,Post,γ,v,ℓ,ex,h,hr,hex,hE=>by
  obtain ⟨E,hE',_⟩:=hr.lr
  exact ⟨(),l,γ,v,ℓ,[],[],h,hr,hex,Le.refl hE' (Zb.le_refl _),⟨rfl,rfl⟩,List.nodup_nil,fun u hu=>by cases hu⟩
 | [.s t c],K,l,Post,γ,v,ℓ,ex,h,hr,hex,hE=>by
  obtain ⟨z,l',γ',v',ℓ',es,k1,k2,k3,k4,k5⟩:=Zdp h hr hex
  exact ⟨z,l',γ',v',ℓ',es,[],k1,k2,k3,k4,⟨rfl,k5⟩,List.nodup_nil,fun u hu=>by cases hu⟩
 | [.l p c],K,l,Post,γ,v,ℓ,ex,h,hr,hex,hE=>by
  simp only [ZHe] at h
  split at h
  ·rename_i u hid
   obtain ⟨z,l',γ',v',ℓ',es,k1,k2,k3,k4,k5,k6,k7⟩:=ZWn h0 hn0 hid h hr hex hE
   refine ⟨z,l',γ',v',ℓ',es,[u],k1,k2,k3,k4,⟨u,rfl,k5⟩,List.nodup_cons.2 ⟨by simp,List.nodup_nil⟩,fun u' hu=>?_⟩
   rcases List.mem_singleton.1 hu with rfl
   exact ⟨ZNl h0 hid,k6,by simp only [ZPc,hid];simp⟩
  ·exact h.elim
 | .s t c :: w :: r,K,l,Post,γ,v,ℓ,ex,h,hr,hex,hE=>by
  obtain ⟨z1,l1,γ1,v1,ℓ1,e1,k1,k2,k3,k4,k5⟩:=Zdp (K:=fun x=>ZHe f0 l0 (w :: r) fun y=>K (x,y)) h hr hex
  obtain ⟨z2,l2,γ2,v2,ℓ2,e2,us,q1,q2,q3,q4,q5,q6,q7⟩:=ZVl h0 hn0 (ex:=e1++ex) k1 k2 (by rw [List.append_assoc];exact k3) (hE.trans k4)
  refine ⟨(z1,z2),l2,γ2,v2,ℓ2,e1++e2,us,q1,q2,q3.perm ?_,k4.trans q4,⟨e1,e2,rfl,Zfv q4.v k5,q5⟩,q6,fun u hu=>?_⟩
  ·rw [List.append_assoc,List.append_assoc];exact Z1d
  ·obtain ⟨g1,⟨e,g2⟩,g3⟩:=q7 u hu
   obtain ⟨e',g4,_⟩:=k4.l u e (show u<_ by omega) g2
   refine ⟨g1,⟨e',g4⟩,?_⟩
   simp only [ZPc]
   split
   ·exact List.mem_cons_of_mem _ g3
   ·exact g3
 | .l p c :: w :: r,K,l,Post,γ,v,ℓ,ex,h,hr,hex,hE=>by
  simp only [ZHe] at h
  split at h
  ·rename_i u hid
   obtain ⟨z1,l1,γ1,v1,ℓ1,e1,k1,k2,k3,k4,k5,k6,k7⟩:=ZWn (K:=fun x=>ZHe f0 l0 (w :: r) fun y=>K (x,y)) h0 hn0 hid h hr hex hE
   obtain ⟨z2,l2,γ2,v2,ℓ2,e2,us,q1,q2,q3,q4,q5,q6,q7⟩:=ZVl h0 hn0 (ex:=e1++ex) k1 k2 (by rw [List.append_assoc];exact k3) (hE.trans k4)
   refine ⟨(z1,z2),l2,γ2,v2,ℓ2,e1++e2,u :: us,q1,q2,q3.perm ?_,k4.trans q4,⟨e1,e2,u,us,rfl,rfl,ZJr q4.v k5,q5⟩,List.nodup_cons.2 ⟨fun hu=>?_,q6⟩,fun u' hu=>?_⟩
   ·rw [List.append_assoc,List.append_assoc];exact Z1d
   ·obtain ⟨_,⟨e,g2⟩,_⟩:=q7 u hu
    rw [k7] at g2;cases g2
   ·have hg:ZPc f0 l0 (.l p c :: w :: r)=u :: ZPc f0 l0 (w :: r):=by simp only [ZPc,hid]
    rw [hg]
    rcases List.mem_cons.1 hu with rfl | hu
    ·exact ⟨ZNl h0 hid,k6,List.mem_cons_self⟩
    ·obtain ⟨g1,⟨e,g2⟩,g3⟩:=q7 u' hu
     obtain ⟨e',g4,_⟩:=k4.l u' e (show u'<_ by omega) g2
     exact ⟨g1,⟨e',g4⟩,List.mem_cons_of_mem _ g3⟩
  ·exact h.elim
end
end Go.Eng
namespace Go.Eng
open Go.RowKit
theorem ZTr {v:Zb} {c:CT} {z:c.den} {g:Gh} {es:List Loc} {u n:Nat} {l2:Lo} {n2:Nat} (h:CRL v c z g es) (hu:u<n) (hi:ZMb c z u n=(l2,n2)) :
  n<n2∧(∀ e ∈ l2,(e.k=u∧Zug (n≤·) c z e.x∨n≤e.k∧e.k<n2)∧n≤e.st∧e.st<n2∧e.x.ok (· < n2) (· < n2))∧(l2.map En.k).Nodup ∧
  ∃ γ0:Nat→Gh,γ0 u=g∧∀ (γ:Nat→Gh) (l:Lo),(∀ e ∈ l2,γ e.k=γ0 e.k∧lkE l e.k=some e)→∃ E,F2 (Zza v γ l) l2 E∧es.Perm E.flatten:=by
 cases c with
 | own ty t =>
  cases hi
  obtain ⟨ob,cap,d,rfl,h2,rfl⟩:=h;refine ⟨Nat.lt_succ_self n,fun e he=>?_,List.nodup_cons.2 ⟨by simp,List.nodup_nil⟩,fun _=>.own ob cap,rfl,fun γ l hl=>?_⟩
  ·rcases List.mem_singleton.1 he with rfl;exact ⟨.inl ⟨rfl,rfl⟩,Nat.le_refl _,Nat.lt_succ_self _,trivial⟩
  ·exact ⟨[_],⟨⟨ob,cap,d,(hl _ (List.mem_singleton.2 rfl)).1,h2,rfl⟩,trivial⟩,List.Perm.refl _⟩
 | mat ty ty2 t =>
  cases hi
  obtain ⟨ob,cap,rows,es2,rfl,h2,rfl⟩:=h;refine ⟨Nat.lt_succ_self n,fun e he=>?_,List.nodup_cons.2 ⟨by simp,List.nodup_nil⟩,fun _=>.mat ob cap rows,rfl,fun γ l hl=>?_⟩
  ·rcases List.mem_singleton.1 he with rfl;exact ⟨.inl ⟨rfl,n,Nat.le_refl _,rfl⟩,Nat.le_refl _,Nat.lt_succ_self _,Nat.lt_succ_self n⟩
  ·exact ⟨[_],⟨⟨ob,cap,rows,es2,(hl _ (List.mem_singleton.2 rfl)).1,h2,rfl⟩,trivial⟩,by simp⟩
 | box ty c =>
  have hi:((⟨u,n,.box ty (Zk c z (n+1)).1⟩ :: (Zk c z (n+1)).2.1:Lo),(Zk c z (n+1)).2.2)=(l2,n2):=hi
  cases hi
  obtain ⟨b,c1,e1,rfl,h2,h3,rfl⟩:=h;obtain ⟨k1,k2,k3,k4,k5,γ0,k6⟩:=ZPk c (m:=false) (n+1) (x:=(Zk c z (n+1)).1) (l2:=(Zk c z (n+1)).2.1) (n2:=(Zk c z (n+1)).2.2) h2 rfl;have hd:∀ e ∈ (Zk c z (n+1)).2.1,e.k≠u:=fun e he hk=>by have:=(k2 e he).1;omega
  refine ⟨by omega,fun e he=>?_,List.nodup_cons.2 ⟨fun hm=>?_,k3⟩,fun k=>if k=u then .box b else γ0 k,if_pos rfl,fun γ l hl=>?_⟩
  ·rcases List.mem_cons.1 he with rfl | he
   ·exact ⟨.inl ⟨rfl,_,rfl⟩,Nat.le_refl _,(show n<_ by omega),k4⟩
   ·obtain ⟨r1,r2,r3,r4,r5⟩:=k2 e he;exact ⟨.inr ⟨by omega,r2⟩,by omega,r4,r5⟩
  ·obtain ⟨e,he,hk⟩:=List.mem_map.1 hm;exact hd e he hk
  ·obtain ⟨hg,hlk⟩:=hl _ List.mem_cons_self;have hg:γ u = .box b:=by rw [show γ u=_ from hg];exact if_pos rfl
   obtain ⟨q1,E,q2,q3⟩:=k6 γ l fun e he=>by
    obtain ⟨r1,r2⟩:=hl e (List.mem_cons_of_mem _ he);exact ⟨r1.trans (if_neg (hd e he)),r2⟩
   exact ⟨[_] :: E,⟨⟨b,c1,hg,q1,h3,rfl⟩,q2⟩,by rw [List.flatten_cons];exact List.Perm.cons _ q3⟩
 | _=>exact h.elim
structure IV (a:Act) (v:Zb) (γE:Nat→Gh) (lE:Lo) (n0:Nat) (us:List Nat) (n1 m:Nat) (f':Fr) (l':Lo) (es:List Loc) (γ0:Nat→Gh):Prop where
 le:n1≤m
 l:∀ e ∈ l',(e.k ∈ us∨n1≤e.k∧e.k<m)∧n1≤e.st∧e.st<m∧e.x.ok (· < m) (· < m)
 nd:(l'.map En.k).Nodup
 f:∀ e ∈ f',e.x.ok (· < m)∧n1≤e.st∧e.st<m
 r:∀ (γ:Nat→Gh) (l:Lo),(∀ e ∈ l',γ e.k=γ0 e.k∧lkE l e.k=some e)→(∀ e ∈ f',RV v γ l e.x (a.tmps.getD e.k undef))∧(∃ E,F2 (Zza v γ l) l' E∧es.Perm E.flatten)∧∀ e ∈ l',e.k<n0→∃ e0,lkE lE e.k=some e0∧CE (· < n0) γE γ e.k e0.st e.st e0.x e.x
section
variable {a:Act} {v:Zb} {γE:Nat→Gh} {lE:Lo} {n0:Nat}
theorem IV.none {n1:Nat}:IV a v γE lE n0 [] n1 n1 [] [] [] fun _=>.box 0 :=
 ⟨Nat.le_refl _,fun e he=>(by cases he),List.nodup_nil,fun e he=>(by cases he),fun γ l _=>⟨fun e he=>(by cases he),⟨[],trivial,List.Perm.refl _⟩,fun e he=>(by cases he)⟩⟩
theorem IV.add {us1 us2:List Nat} {n1 m1 m:Nat} {f1 f2:Fr} {l1 l2:Lo} {es1 es2:List Loc} {γ1 γ2:Nat→Gh} (h:IV a v γE lE n0 us1 n1 m1 f1 l1 es1 γ1) (k:IV a v γE lE n0 us2 m1 m f2 l2 es2 γ2) (hd:∀ u ∈ us2,u ∉ us1) (hu:∀ u ∈ us1++us2,u<n1) :
  IV a v γE lE n0 (us1++us2) n1 m (f1++f2) (l1++l2) (es1++es2) fun k=>if k ∈ l1.map En.k then γ1 k else γ2 k:=by
 have hd':∀ e ∈ l2,e.k ∉ l1.map En.k:=fun e he hm=>by
  obtain ⟨e',he',hk⟩:=List.mem_map.1 hm;have h1:=(h.l e' he').1;have h2:=(k.l e he).1;have hle:=h.le;rw [hk] at h1;rcases h1 with h1 | h1 <;> rcases h2 with h2 | h2
  ·exact hd _ h2 h1
  ·have:=hu _ (List.mem_append_left _ h1);omega
  ·have:=hu _ (List.mem_append_right _ h2);omega
  ·omega
 have up:∀ j,j<m1→j<m:=fun j hj=>Nat.lt_of_lt_of_le hj k.le;refine ⟨Nat.le_trans h.le k.le,fun e he=>?_,Zjm h.nd k.nd hd',fun e he=>?_,fun γ l hl=>?_⟩
 ·rcases List.mem_append.1 he with he | he
  ·obtain ⟨r1,r2,r3,r4⟩:=h.l e he;refine ⟨?_,r2,up _ r3,LV.ok.mono up up r4⟩;rcases r1 with r1 | r1
   ·exact .inl (List.mem_append_left _ r1)
   ·exact .inr ⟨r1.1,up _ r1.2⟩
  ·obtain ⟨r1,r2,r3,r4⟩:=k.l e he;have:=h.le;refine ⟨?_,by omega,r3,r4⟩;rcases r1 with r1 | r1
   ·exact .inl (List.mem_append_right _ r1)
   ·exact .inr ⟨by omega,r1.2⟩
 ·rcases List.mem_append.1 he with he | he
  ·obtain ⟨r1,r2,r3⟩:=h.f e he;exact ⟨V.ok.mono up r1,r2,up _ r3⟩
  ·obtain ⟨r1,r2,r3⟩:=k.f e he;have:=h.le;exact ⟨r1,by omega,r3⟩
 ·obtain ⟨p1,⟨E1,p2,p3⟩,p4⟩:=h.r γ l (Zem hl);obtain ⟨q1,⟨E2,q2,q3⟩,q4⟩:=k.r γ l (ZRm hd' hl);refine ⟨fun e he=>?_,⟨E1++E2,p2.append q2,by rw [List.flatten_append];exact p3.append q3⟩,fun e he=>?_⟩
  ·rcases List.mem_append.1 he with he | he
   ·exact p1 e he
   ·exact q1 e he
  ·rcases List.mem_append.1 he with he | he
   ·exact p4 e he
   ·exact q4 e he
theorem IV.s {t n1:Nat} {c:CT} {z:c.den} {es:List Loc} (h:SRel a v t c z es) (hn:n0≤n1):∃ γ0,IV a v γE lE n0 [] n1 (Zk c z (n1+1)).2.2 [⟨t,n1,(Zk c z (n1+1)).1⟩] (Zk c z (n1+1)).2.1 es γ0:=by
 obtain ⟨cs,h1,h2⟩:=h;obtain ⟨k1,k2,k3,k4,k5,γ0,k6⟩:=ZPk c (n1+1) (x:=(Zk c z (n1+1)).1) (l2:=(Zk c z (n1+1)).2.1) (n2:=(Zk c z (n1+1)).2.2) h2 rfl;refine ⟨γ0,by omega,fun e he=>?_,k3,fun e he=>?_,fun γ l hl=>⟨fun e he=>?_,(k6 γ l hl).2,fun e he hk=>?_⟩⟩
 ·obtain ⟨r1,r2,r3,r4,r5⟩:=k2 e he;exact ⟨.inr ⟨by omega,r2⟩,by omega,r4,r5⟩
 ·rcases List.mem_singleton.1 he with rfl;exact ⟨k4,Nat.le_refl _,(show n1<_ by omega)⟩
 ·rcases List.mem_singleton.1 he with rfl;have hq:=(k6 γ l hl).1;have:=ZDb hq (fun c e=>by rw [e] at hq;exact hq);show RV v γ l (Zk c z (n1+1)).1 (a.tmps.getD t undef);rw [h1,← Zsg k5];exact this
 ·have:=(k2 e he).1;omega
theorem IV.p {u n1:Nat} {p:Pl} {c:CT} {z:c.den} {es:List Loc} {f0:Fr} {l0:Lo} (h:LRel v γE lE n0 f0 l0 u p c z es) (hu:u<n1) (hn:n0≤n1):∃ γ0,IV a v γE lE n0 [u] n1 (ZMb c z u n1).2 [] (ZMb c z u n1).1 es γ0:=by
 obtain ⟨_,g,e0,h2,h3,h4⟩:=h;obtain ⟨k1,k2,k3,γ0,k4,k5⟩:=ZTr h3 hu (l2:=(ZMb c z u n1).1) (n2:=(ZMb c z u n1).2) rfl;refine ⟨γ0,by omega,fun e he=>?_,k3,fun e he=>(by cases he),fun γ l hl=>⟨fun e he=>(by cases he),k5 γ l hl,fun e he hk=>?_⟩⟩
 ·obtain ⟨r1,r2,r3,r4⟩:=k2 e he;refine ⟨?_,r2,r3,r4⟩;rcases r1 with r1 | r1
  ·exact .inl (List.mem_singleton.2 r1.1)
  ·exact .inr r1
 ·obtain ⟨r1,r2,_,_⟩:=k2 e he;rcases r1 with ⟨r1,r5⟩ | r1
  ·refine ⟨e0,by rw [r1];exact h2,?_⟩;rw [r1];have:Zug (n0≤·) c z e.x:=by
    cases c <;> first | exact r5 | (obtain ⟨hv,q1,q2⟩:=r5;exact ⟨hv,Nat.le_trans hn q1,q2⟩) | exact r5.elim
   refine h4 γ e.st e.x ?_ (by omega) this;have:=(hl e he).1;rw [r1] at this;rw [this,k4]
  ·omega
theorem Zqm {f0:Fr} {l0:Lo}:∀ {vs:List Vr} {z:(ctL (vs.map Vr.ct)).den} {es:List Loc} {us:List Nat} {n1:Nat},VRel a v γE lE n0 f0 l0 vs z es us→us.Nodup→(∀ u ∈ us,u<n1)→n0≤n1 →
  ∃ γ0,IV a v γE lE n0 us n1 (Zdb f0 l0 vs z n1).2.2 (Zdb f0 l0 vs z n1).1 (Zdb f0 l0 vs z n1).2.1 es γ0
 | [],z,es,us,n1,h,hn,hu,h0=>by
  obtain ⟨rfl,rfl⟩:=h
  exact ⟨_,IV.none⟩
 | [.s t c],z,es,us,n1,h,hn,hu,h0=>by
  obtain ⟨rfl,h⟩:=h
  exact IV.s h h0
 | [.l p c],z,es,us,n1,h,hn,hu,h0=>by
  obtain ⟨u,rfl,h⟩:=h
  have e:Zdb f0 l0 [.l p c] z n1=([],(ZMb c z u n1).1,(ZMb c z u n1).2):=by simp only [Zdb,h.1]
  rw [e]
  exact IV.p h (hu u (by simp)) h0
 | .s t c :: w :: r,z,es,us,n1,h,hn,hu,h0=>by
  obtain ⟨e1,e2,rfl,h1,h2⟩:=h
  obtain ⟨γ1,k1⟩:=IV.s (a:=a) (v:=v) (γE:=γE) (lE:=lE) h1 h0
  have hle:=k1.le
  obtain ⟨γ2,k2⟩:=Zqm (vs:=w :: r) (n1:=(Zk c z.1 (n1+1)).2.2) h2 hn (fun u h=>Nat.lt_of_lt_of_le (hu u h) hle) (Nat.le_trans h0 hle)
  exact ⟨_,k1.add k2 (fun u _ h=>by cases h) hu⟩
 | .l p c :: w :: r,z,es,us,n1,h,hn,hu,h0=>by
  obtain ⟨e1,e2,u,us',rfl,rfl,h1,h2⟩:=h
  obtain ⟨γ1,k1⟩:=IV.p (a:=a) (v:=v) (γE:=γE) (lE:=lE) h1 (hu u (by simp)) h0
  have hle:=k1.le
  obtain ⟨n3,n4⟩:=List.nodup_cons.1 hn
  obtain ⟨γ2,k2⟩:=Zqm (vs:=w :: r) (n1:=(ZMb c z.1 u n1).2) h2 n4 (fun u' h=>Nat.lt_of_lt_of_le (hu u' (by simp [h])) hle) (Nat.le_trans h0 hle)
  have e:Zdb f0 l0 (.l p c :: w :: r) z n1=((Zdb f0 l0 (w :: r) z.2 (ZMb c z.1 u n1).2).1,(ZMb c z.1 u n1).1++(Zdb f0 l0 (w :: r) z.2 (ZMb c z.1 u n1).2).2.1,(Zdb f0 l0 (w :: r) z.2 (ZMb c z.1 u n1).2).2.2):=by simp only [Zdb,h1.1]
  rw [e]
  refine ⟨_,k1.add k2 (fun u' h hm=>?_) hu⟩
  rcases List.mem_singleton.1 hm with rfl
  exact n3 h
end
theorem F2.impm {α β:Type} {R R':α→β→Prop}:∀ {l:List α} {m:List β},(∀ a ∈ l,∀ b ∈ m,R a b→R' a b)→F2 R l m→F2 R' l m
 | [],[],_,_=>trivial
 | a :: l,b :: m,h,k=>⟨h a (by simp) b (by simp) k.1,F2.impm (fun x hx y hy=>h x (by simp [hx]) y (by simp [hy])) k.2⟩
 | [],_ :: _,_,k=>k.elim
 | _ :: _,[],_,k=>k.elim
theorem ZXn {R:En LV→List Loc→Prop}:∀ {s l:Lo} {E:List (List Loc)},(s.map En.k).Nodup→(∀ e ∈ s,lkE l e.k=some e)→(l.map En.k).Nodup→F2 R l E→∃ Es rest,F2 R s Es∧E.flatten.Perm (Es.flatten++rest)
 | [],l,E,_,_,_,_=>⟨[],E.flatten,trivial,List.Perm.refl _⟩
 | e :: s,l,E,hn,hs,hl,hE=>by
  simp only [List.map_cons,List.nodup_cons] at hn
  obtain ⟨es,E',h1,h2,h3⟩:=Z2f hE (hs e (by simp))
  obtain ⟨Es,rest,k1,k2⟩:=ZXn (s:=s) (l:=era l e.k) hn.2 (fun e2 he=>by
   rw [ZPb hl,if_neg (fun h=>hn.1 (by rw [h];exact List.mem_map.2 ⟨e2,he,rfl⟩))]
   exact hs e2 (by simp [he])) (ZAb hl).1 h2
  exact ⟨es :: Es,rest,⟨h1,k1⟩,h3.trans (by rw [List.flatten_cons,List.append_assoc];exact List.Perm.append_left _ k2)⟩
theorem ZNm {β:Type} {l l':List (En β)} {k:Nat}:lkE (l++l') k=(lkE l k).or (lkE l' k):=by
 induction l with
 | nil=>rfl
 | cons p r ih =>
  rw [List.cons_append,ZP,ZP];split
  ·rfl
  ·exact ih
theorem Zaq {n:Nat} {l:Lo}:∀ {s:Lo},ZGg n l s=true→∀ e ∈ s,∃ e',lkE l e.k=some e'∧e'.st<n
 | [],_,_,h=>by cases h
 | e :: s,h,e1,he1=>by
  simp only [ZGg] at h
  split at h
  ·rename_i e' he'
   split at h
   ·cases h
   ·rename_i hb
    rcases List.mem_cons.1 he1 with rfl | he1
    ·exact ⟨e',he',Nat.lt_of_not_le fun hle=>by rw [Nat.ble_eq_true_of_le hle] at hb;cases hb⟩
    ·exact Zaq h e1 he1
  ·cases h
theorem Zmo {n:Nat} {f:Fr}:∀ {s:List Nat},ZQg n f s=true→∀ t ∈ s,∃ e',lkE f t=some e'∧e'.st<n
 | [],_,_,h=>by cases h
 | t :: s,h,t1,ht1=>by
  simp only [ZQg] at h
  split at h
  ·rename_i e' he'
   split at h
   ·cases h
   ·rename_i hb
    rcases List.mem_cons.1 ht1 with rfl | ht1
    ·exact ⟨e',he',Nat.lt_of_not_le fun hle=>by rw [Nat.ble_eq_true_of_le hle] at hb;cases hb⟩
    ·exact Zmo h t1 ht1
  ·cases h
theorem Zkl {f:Fr}:∀ {ks:List Nat} {t:Nat} {e:En V},lkE (Zhc f ks) t=some e→lkE f t=some e∧t ∈ ks
 | [],_,_,h=>by cases h
 | k :: ks,t,e,h=>by
  simp only [Zhc] at h
  split at h
  ·rename_i e' he'
   rw [ZP] at h
   split at h
   ·rename_i hk
    cases h
    have:=(Zy he').2
    rw [this] at hk;subst hk
    exact ⟨he',by simp⟩
   ·have:=Zkl h;exact ⟨this.1,by simp [this.2]⟩
  ·have:=Zkl h;exact ⟨this.1,by simp [this.2]⟩
theorem ZGr {l:List Nat} {t:Nat}:Zgd l t=true↔t ∈ l:=by
 induction l with
 | nil=>simp [Zgd]
 | cons k r ih =>
  simp only [Zgd]
  cases hb:Nat.beq k t
  ·simp only [List.mem_cons];rw [ih];have:¬ t=k:=fun e=>by rw [e] at hb;simp at hb
   simp [this]
  ·have:=Nat.eq_of_beq_eq_true hb;simp [this]
theorem Zil {b:Nat} {rs us:List Nat}:∀ {l:Lo},(Zmd b rs us l).Sublist l∧∀ e ∈ Zmd b rs us l,e.k ∉ us
 | []=>⟨List.Sublist.slnil,fun e h=>by cases h⟩
 | e :: r=>by
  obtain ⟨h1,h2⟩:=Zil (b:=b) (rs:=rs) (us:=us) (l:=r)
  simp only [Zmd]
  split
  ·exact ⟨h1.cons e,h2⟩
  ·rename_i hm
   have hm:e.k ∉ us:=fun h=>by rw [ZGr.2 h] at hm;cases hm
   have both:(e :: Zmd b rs us r).Sublist (e :: r)∧∀ e' ∈ e :: Zmd b rs us r,e'.k ∉ us:=⟨h1.cons_cons e,fun e' he'=>by
    rcases List.mem_cons.1 he' with rfl | he'
    ·exact hm
    ·exact h2 e' he'⟩
   split
   ·exact both
   ·split
    ·exact both
    ·exact ⟨h1.cons e,h2⟩
end Go.Eng
namespace Go.Eng
open Go.RowKit
section
variable {N:Nat} {G:V→Value→Prop} {w0:Base} {v0:Zb} {a:Act} {w:World}
theorem ZAo {n0 n m:Nat} {f f0 fI:Fr} {l l0 l2 s lN:Lo} {γ γ2 γ0:Nat→Gh} {v v2:Zb} {ℓ ℓ2 es:List Loc} {us ks:List Nat}
  (h0:H0 G n0 f0 l0) (hn:n0≤n) (hr:RelX N G w0 v0 (· < n) (· < n) f l a w γ v ℓ) (hr2:RelX N G w0 v0 (· < n) (· < n+1) f l2 a w γ2 v2 ℓ2) (hst:St N w0 v0 [] (es++ℓ2) v2 a w) (hle:Le (· < n) v γ l v2 γ2 l2)
  (ho1:Old n f l f l2) (ho:Old n0 f0 l0 f l) (hs:s.Sublist l0) (hsu:∀ e ∈ s,e.k ∉ us) (hss:ZGg n0 l2 s=true) (hus:∀ u ∈ us,u<n0) (hI:IV a v2 γ l n0 us n0 m fI lN es γ0) (hks:ZQg n0 f ks=true) :
  ∃ γN ℓN,(∀ e ∈ lN,γN e.k=γ0 e.k∧lkE (lN++s) e.k=some e)∧RelX N G w0 v0 (· < m) (· < m) (fI++Zhc f0 ks) (lN++s) a w γN v2 ℓN∧Old n0 f0 l0 (fI++Zhc f0 ks) (lN++s):=by
 have hsm:∀ e ∈ s,e ∈ l0:=fun e he=>hs.subset he;have hsn:(s.map En.k).Nodup:=(hs.map _).nodup h0.nd;have hs2:∀ e ∈ s,lkE l2 e.k=some e∧lkE l e.k=some e:=fun e he=>by
  obtain ⟨e',h1,h2⟩:=Zaq hss e he;have h3:=ho1.2 e.k e' h1 (Nat.lt_of_lt_of_le h2 hn);have h4:=ho.2 e.k e' h3 h2;rw [ZQh h0.nd (hsm e he)] at h4
  cases h4
  exact ⟨h1,h3⟩
 have hdis:∀ e ∈ s,e.k ∉ lN.map En.k:=fun e he hm=>by
  obtain ⟨e',he',hk⟩:=List.mem_map.1 hm;have h1:=(h0.l e (hsm e he)).1;rcases (hI.l e' he').1 with h2 | h2
  ·exact hsu e he (hk ▸ h2)
  ·omega
 have hnd:((lN++s).map En.k).Nodup:=Zjm hI.nd hsn hdis
 let γN:Nat→Gh:=fun k=>if k ∈ lN.map En.k then γ0 k else γ2 k
 have hγ:∀ e ∈ lN,γN e.k=γ0 e.k∧lkE (lN++s) e.k=some e:=fun e he =>
  ⟨if_pos (List.mem_map.2 ⟨e,he,rfl⟩),ZQh hnd (List.mem_append_left _ he)⟩
 have hγs:∀ e ∈ s,γN e.k=γ2 e.k:=fun e he=>if_neg (hdis e he);obtain ⟨r1,⟨EN,r2,r3⟩,r4⟩:=hI.r γN (lN++s) hγ;obtain ⟨E,hE,hpE⟩:=hr.lr;have leN:Le (· < n0) v γ l v2 γN (lN++s):=⟨hle.v,fun u e' hu he'=>by
  have hmem:=(Zy he').1;have hk:=(Zy he').2;rcases List.mem_append.1 hmem with hm | hm
  ·obtain ⟨e0,q1,q2⟩:=r4 e' hm (by rw [hk];exact hu);rw [hk] at q1 q2;exact ⟨e0,q1,q2⟩
  ·obtain ⟨q1,q2⟩:=hs2 e' hm;rw [hk] at q1 q2;obtain ⟨e,q3,q4⟩:=hle.l u e' (Nat.lt_of_lt_of_le hu hn) q1;refine ⟨e,q3,Zmp (fun k hk=>Nat.lt_of_lt_of_le hk hn) ?_ q4⟩;have:=hγs e' hm;rw [hk] at this;exact this⟩
 have up:∀ k,k<n0→k<m:=fun k hk=>Nat.lt_of_lt_of_le hk hI.le;obtain ⟨E2,hE2,hpE2⟩:=hr2.lr;obtain ⟨Es,rest,t1,t2⟩:=ZXn hsn (fun e he=>(hs2 e he).1) hr2.nd hE2;have hS:F2 (Zza v2 γN (lN++s)) s Es:=t1.impm fun e he es' hes hR=>by
  have hin:∀ x ∈ es',x ∈ ℓ2:=fun x hx=>hpE2.mem_iff.2 (t2.mem_iff.2 (List.mem_append_left _ (List.mem_flatten.2 ⟨es',hes,hx⟩)));have hg:=hγs e he;obtain ⟨q1,q2⟩:=hs2 e he;have hU:=h0.l e (hsm e he);obtain ⟨eE,q3,q4⟩:=hle.l e.k e (Nat.lt_of_lt_of_le hU.1 hn) q1;rw [q2] at q3;cases q3;obtain ⟨kk,st,L⟩:=e
  cases L with
  | box ty c =>
   obtain ⟨b,cs,g1,g2,g3,rfl⟩:=hR;obtain ⟨es0,hes0⟩:=Zpe hE (Zy q2).1;obtain ⟨jj,es1,k1,k2⟩:=hr.loc q2;obtain ⟨b0,cs0,d1,d2,d3,rfl⟩:=k1;have g1:γ2 kk = .box b:=g1;have d1:γ kk = .box b0:=d1;have q4:γ2 kk=γ kk:=q4;have hb:b=b0:=by rw [g1,d1] at q4;cases q4;rfl
   subst hb;obtain ⟨i,hi⟩:=k2 _ (List.mem_singleton.2 rfl);have m1:=(hr.st.loc _ (List.mem_of_getElem? hi)).1;have m2:=(hr2.st.loc _ (hin _ (List.mem_singleton.2 rfl))).1;have m1:w.heap[b]? = some (.cells cs0.toArray ty (0,0)):=m1;have m2:w.heap[b]? = some (.cells cs.toArray ty (0,0)):=m2;rw [m1] at m2;have hcs:cs0=cs:=by
    have:=Option.some.inj m2
    injection this with h1 _ _
    have:=congrArg Array.toList h1
    simpa using this
   subst hcs;exact ⟨b,cs0,by rw [show γN kk=γ2 kk from hg];exact g1,Z5a leN hU.2.2 d2,d3,rfl⟩
  | own ty t xs fz =>
   cases fz with
   | false=>obtain ⟨ob,cap,d,g1,g2⟩:=hR;exact ⟨ob,cap,d,by rw [show γN kk=γ2 kk from hg];exact g1,g2⟩
   | true=>obtain ⟨ob,cap,g1,g2⟩:=hR;exact ⟨ob,cap,by rw [show γN kk=γ2 kk from hg];exact g1,g2⟩
  | mat ty ty2 t mm hv=>obtain ⟨ob,cap,rows,es2,g1,g2⟩:=hR;exact ⟨ob,cap,rows,es2,by rw [show γN kk=γ2 kk from hg];exact g1,g2⟩
  | mid ty ty2 t mm hv s=>obtain ⟨ob,cap,rows,es2,hs,es3,g1,g2⟩:=hR;exact ⟨ob,cap,rows,es2,hs,es3,by rw [show γN kk=γ2 kk from hg];exact g1,g2⟩
 have hstN:St N w0 v0 [] (EN.flatten++Es.flatten) v2 a w:=by
  have h1:=hst.perm ((List.Perm.append r3 (hpE2.trans t2)));refine h1.drop ?_;rw [← List.append_assoc];exact List.sublist_append_left _ _
 have hkeep:∀ t e,lkE (Zhc f0 ks) t=some e→lkE f t=some e∧lkE f0 t=some e:=fun t e he=>by
  obtain ⟨q1,q2⟩:=Zkl he;obtain ⟨e',q3,q4⟩:=Zmo hks t q2;have:=ho.1 t e' q3 q4;rw [q1] at this;cases this;exact ⟨q3,q1⟩
 refine ⟨γN,_,hγ,⟨hstN,fun t e he=>?_,⟨EN++Es,r2.append hS,by rw [List.flatten_append]⟩,hnd,fun t e he=>?_,fun e he=>?_,fun x y hg=>?_⟩,fun t e he hst=>?_,fun u e he hst=>?_⟩
 ·rw [ZNm] at he
  cases hx:lkE fI t with
  | some e1 =>
   rw [hx] at he;cases he;obtain ⟨q1,q2⟩:=Zy hx;rw [← q2];exact r1 e q1
  | none =>
   rw [hx] at he;obtain ⟨q1,q2⟩:=hkeep t e he;exact Zfb leN (h0.f t e q2).1 (hr.fr t e q1)
 ·rw [ZNm] at he
  cases hx:lkE fI t with
  | some e1 =>
   rw [hx] at he;cases he;obtain ⟨q1,q2,q3⟩:=hI.f e (Zy hx).1;exact ⟨q1,q3⟩
  | none =>
   rw [hx] at he;obtain ⟨q1,q2⟩:=hkeep t e he;obtain ⟨q3,q4⟩:=h0.f t e q2;exact ⟨V.ok.mono up q3,up _ q4⟩
 ·rcases List.mem_append.1 he with he | he
  ·obtain ⟨q1,q2,q3,q4⟩:=hI.l e he;refine ⟨?_,q3,q4⟩;rcases q1 with q1 | q1
   ·exact up _ (hus _ q1)
   ·exact q1.2
  ·obtain ⟨q1,q2,q3⟩:=h0.l e (hsm e he);exact ⟨up _ q1,up _ q2,LV.ok.mono up up q3⟩
 ·exact ⟨Zfb leN (h0.g x y hg) (hr.gh x y hg).1,V.ok.mono up (h0.g x y hg)⟩
 ·rw [ZNm] at he
  cases hx:lkE fI t with
  | some e1 =>
   rw [hx] at he;cases he;have:=(hI.f e (Zy hx).1).2.1;omega
  | none =>
   rw [hx] at he;exact (hkeep t e he).2
 ·rcases List.mem_append.1 (Zy he).1 with hm | hm
  ·have:=(hI.l e hm).2.1;omega
  ·have:=ZQh h0.nd (hsm e hm);rw [(Zy he).2] at this;exact this
def bF (f0:Fr) (l0:Lo) (j:Js) (x:jT j) (n:Nat):Fr:=(Zdb f0 l0 j.vs x n).1++Zhc f0 j.keep
def bL (b:Nat) (f0:Fr) (l0:Lo) (j:Js) (x:jT j) (n:Nat):Lo:=(Zdb f0 l0 j.vs x n).2.1++Zfe b f0 l0 j j.vs
def bN (f0:Fr) (l0:Lo) (j:Js) (x:jT j) (n:Nat):Nat:=(Zdb f0 l0 j.vs x n).2.2
theorem Zgl {α:Type} {b:Nat} {f0:Fr} {l0:Lo} {j:Js} {x:jT j} {n:Nat} {K:Fr→Lo→Nat→α}:build b f0 l0 j x n K=K (bF f0 l0 j x n) (bL b f0 l0 j x n) (bN f0 l0 j x n):=rfl
theorem ZSm {α:Type} {r:α} {b n0 n:Nat} {f0 f:Fr} {l0 l:Lo} {j:Js} {K:jT j→Option α} (h0:H0 G n0 f0 l0) (hn:n0≤n) (hr:Rel N G w0 v0 (· < n) f l a w) (ho:Old n0 f0 l0 f l) (h:ZPe b n0 n f0 l0 f l j K=some r) :
  ∃ x,K x=some r∧n0≤bN f0 l0 j x n0∧Rel N G w0 v0 (· < bN f0 l0 j x n0) (bF f0 l0 j x n0) (bL b f0 l0 j x n0) a w∧Old n0 f0 l0 (bF f0 l0 j x n0) (bL b f0 l0 j x n0):=by
 obtain ⟨γ,v,ℓ,hr⟩:=hr;have h1:=ZEh (Nat.le_refl n) Old.refl hr.nd (Z1g h);have hr':RelX N G w0 v0 (· < n) (· < n+1) f l a w γ v ℓ:=hr.mono (fun _ h=>h) fun k h=>(show k<n+1 by have:k<n:=h;omega);obtain ⟨E,hE,_⟩:=hr.lr;obtain ⟨x,l2,γ2,v2,ℓ2,es,us,k1,k2,k3,k4,k5,k6,k7⟩:=ZVl (ex:=[]) h0 hn h1 hr' hr.st (Le.refl hE (Zb.le_refl _));obtain ⟨q1,q2⟩:=k1;split at q1
 ·rename_i hS hL;obtain ⟨γ0,hI⟩:=Zqm k5 k6 (fun u hu=>(k7 u hu).1) (Nat.le_refl n0);have hsub:=Zil (b:=b) (rs:=Z7f l0 50 (idsF (Zhc f0 j.keep)) []) (us:=gone f0 l0 j.drop j.vs) (l:=l0);obtain ⟨γN,ℓN,_,p2,p3⟩:=ZAo h0 hn hr k2 k3 k4 q2 ho hsub.1 (fun e he hu=>hsub.2 e he (List.mem_append_right _ (k7 _ hu).2.2)) hL (fun u hu=>(k7 u hu).1) hI hS;exact ⟨x,q1,hI.le,⟨γN,v2,ℓN,p2⟩,p3⟩
 ·cases q1
def Ress (P:Program) (tmps:Array Value) (w:World) (rs:List ResultVar) (vals:List Value):Prop:=F2 (fun r y=>Res P tmps w r y) rs vals
def RetR (P:Program) (rs:List ResultVar) (N:Nat) (G:V→Value→Prop) (w0:Base) (v0:Zb) (c:V) (l:Lo) (n:Nat) (a:Act) (w:World):Prop :=
 ∃ γ v ℓ vals,RelX N G w0 v0 (· < n) (· < n) [] l a w γ v ℓ∧RR v γ l true c vals∧c.ok (· < n)∧Ress P a.tmps w rs vals
def Z1b (m:Nat) (l l':Lo):Prop:=∀ u e,lkE l' u=some e→e.st<m→lkE l u=some e
theorem Old.l {m:Nat} {f f':Fr} {l l':Lo} (h:Old m f l f' l'):Z1b m l l':=h.2
theorem Z1b.trans {m m':Nat} {l l' l'':Lo} (h:Z1b m l l') (k:Z1b m' l' l'') (hm:m≤m'):Z1b m l l'':=fun u e he hs=>h u e (k u e he (by omega)) hs
theorem Z1b.mono {m m':Nat} {l l':Lo} (h:Z1b m' l l') (hm:m≤m'):Z1b m l l':=fun u e he hs=>h u e he (by omega)
theorem Zwq {α:Type} {r:α} {P:Program} {rs:List ResultVar} {b n0 n:Nat} {f0:Fr} {l0 l:Lo} {c:V} {j:Js} {K:jT j→Option α} (h0:H0 G n0 f0 l0) (hn:n0≤n) (hr:RetR P rs N G w0 v0 c l n a w) (ho:Z1b n0 l0 l) (h:Zoj b n0 n f0 l0 c l j K=some r) :
  ∃ x,K x=some r∧∀ V' l' m,Zk (ctL (j.vs.map Vr.ct)) x n0=(V',l',m)→n0≤m∧RetR P rs N G w0 v0 V' (l'++Zfe b f0 l0 j []) m a w∧Z1b n0 l0 (l'++Zfe b f0 l0 j []):=by
 obtain ⟨γ,v,ℓ,vals,hr,hc,hk,hres⟩:=hr;have h1:=ZEh (Nat.le_refl n) Old.refl hr.nd (Z1g h);have hr':RelX N G w0 v0 (· < n) (· < n+1) [] l a w γ v ℓ:=hr.mono (fun _ h=>h) fun k h=>(show k<n+1 by have:k<n:=h;omega);obtain ⟨x,l2,γ2,v2,ℓ2,es,k1,k2,k3,k4,k5,k6⟩:=ZEd (U:=(· < n)) (X:=(· < n+1)) (ex:=[]) (Nat.lt_irrefl n) (Nat.lt_succ_self n) FU h1 hr' hr.st hk hc;obtain ⟨q1,q2⟩:=k1;split at q1
 ·rename_i hL;refine ⟨x,q1,fun V' l' m hi=>?_⟩;obtain ⟨i1,i2,i3,i4,i5,γ0,i6⟩:=ZPk _ n0 k5 hi;have hI:IV a v2 γ l n0 [] n0 m [] l' es γ0:=⟨i1,fun e he=>by
   obtain ⟨r1,r2,r3,r4,r5⟩:=i2 e he;exact ⟨.inr ⟨r1,r2⟩,r3,r4,r5⟩,i3,fun e he=>(by cases he),fun γ l hl=>⟨fun e he=>(by cases he),(i6 γ l hl).2,fun e he hlt=>by have:=(i2 e he).1;omega⟩⟩
  have hsub:=Zil (b:=b) (rs:=Z7f l0 50 (idsF (Zhc f0 j.keep)) []) (us:=gone f0 l0 j.drop []) (l:=l0);have h0':H0 G n0 [] l0:=⟨fun t e he=>(by cases he),h0.l,h0.nd,h0.g⟩;obtain ⟨γN,ℓN,p1,p2,p3⟩:=ZAo (ks:=[]) h0' hn hr k2 k3 k4 q2 ⟨fun t e he=>(by cases he),ho⟩ hsub.1 (fun e he hu=>by cases hu) hL (fun u hu=>by cases hu) hI rfl;exact ⟨i1,⟨γN,v2,ℓN,vals,p2,(i6 γN _ p1).1,i4,hres⟩,p3.l⟩
 ·cases q1
end
end Go.Eng
namespace Go.Eng
open Go.RowKit
section
variable {N:Nat} {G:V→Value→Prop} {w0:Base} {v0:Zb}
structure KOK (P:Program) (rs:List ResultVar) (N:Nat) (G:V→Value→Prop) (w0:Base) (v0:Zb) {α:Type} (n:Nat) (f:Fr) (l:Lo) (K:Kt α) (r:α) (Q:Exit→Act→World→Prop):Prop where
 norm:Zwd N G w0 v0 n f l (fun f l n=>K.norm f l n=some r) (Q .normal)
 exit:∀ i,Zwd N G w0 v0 n f l (fun f l n=>K.exit i f l n=some r) (Q (.exit i))
 ret:∀ c l' n' a' w',K.ret c l' n'=some r→n≤n'→Z1b n l l'→RetR P rs N G w0 v0 c l' n' a' w'→Q .ret a' w'
theorem KOK.step {P:Program} {rs:List ResultVar} {α:Type} {n n1:Nat} {f f1:Fr} {l l1:Lo} {K:Kt α} {r:α} {Q:Exit→Act→World→Prop} (h:KOK P rs N G w0 v0 n f l K r Q) (hn:n≤n1) (ho:Old n f l f1 l1):KOK P rs N G w0 v0 n1 f1 l1 K r Q :=
 ⟨h.norm.step hn ho,fun i=>(h.exit i).step hn ho,fun c l' n' a' w' hk hn' ho' hr=>h.ret c l' n' a' w' hk (by omega) (ho.l.trans ho' hn) hr⟩
def kdE:Kd→Exit
 | .norm=>.normal
 | .exit i=>.exit i
 | .ret=>.ret
theorem Zvi {a b:Kd} (h:kdEq a b=true):a=b:=by
 cases a <;> cases b <;> first | rfl | (cases h;done) | (rw [Nat.eq_of_beq_eq_true h])
theorem ZNn {P:Program} {rs:List ResultVar} {α β:Type} {b n0 n:Nat} {f0 f:Fr} {l0 l:Lo} {o:Kd×Js} {K:jT o.2→Option α} {x':α} {a:Act} {w:World} {Q:Exit→Act→World→Prop} (h0:H0 G n0 f0 l0) (hn:n0≤n) (hk:o.1 ≠ .ret) (hr:Rel N G w0 v0 (· < n) f l a w) (ho:Old n0 f0 l0 f l) (h:ZPe b n0 n f0 l0 f l o.2 K=some x') :
  ∃ y,K y=some x'∧∀ {Kout:Kt β} {r:β},Ztg b f0 l0 n0 Kout o y=some r→KOK P rs N G w0 v0 n0 f0 l0 Kout r Q→Q (kdE o.1) a w:=by
 obtain ⟨y,h1,h2,h3,h4⟩:=ZSm h0 hn hr ho h;refine ⟨y,h1,fun {Kout r} hx hK=>?_⟩;unfold Ztg at hx;split at hx
 ·rename_i e;rw [Zgl] at hx;rw [e];exact hK.norm _ _ _ a w hx h2 h4 h3
 ·rename_i i e;rw [Zgl] at hx;rw [e];exact hK.exit i _ _ _ a w hx h2 h4 h3
 ·rename_i e;exact absurd e hk
theorem Zkp {P:Program} {rs:List ResultVar} {α β:Type} {b n0 n:Nat} {f0:Fr} {l0 l:Lo} {c:V} {o:Kd×Js} {K:jT o.2→Option α} {x':α} {a:Act} {w:World} {Q:Exit→Act→World→Prop} (h0:H0 G n0 f0 l0) (hn:n0≤n) (hk:o.1 = .ret) (hr:RetR P rs N G w0 v0 c l n a w) (ho:Z1b n0 l0 l) (h:Zoj b n0 n f0 l0 c l o.2 K=some x') :
  ∃ y,K y=some x'∧∀ {Kout:Kt β} {r:β},Ztg b f0 l0 n0 Kout o y=some r→KOK P rs N G w0 v0 n0 f0 l0 Kout r Q→Q .ret a w:=by
 obtain ⟨y,h1,h2⟩:=Zwq h0 hn hr ho h;refine ⟨y,h1,fun {Kout r} hx hK=>?_⟩;unfold Ztg at hx;split at hx
 ·rename_i e;rw [hk] at e;cases e
 ·rename_i e;rw [hk] at e;cases e
 ·have hx:Kout.ret (Zk (ctL (o.2.vs.map Vr.ct)) y n0).1 ((Zk (ctL (o.2.vs.map Vr.ct)) y n0).2.1++Zfe b f0 l0 o.2 []) (Zk (ctL (o.2.vs.map Vr.ct)) y n0).2.2=some r:=hx;obtain ⟨k1,k2,k3⟩:=h2 _ _ _ rfl;exact hK.ret _ _ _ a w hx k1 k3 k2
theorem ZEk {P:Program} {rs:List ResultVar} {β:Type} {b n0 n:Nat} {f0 f:Fr} {l0 l:Lo} {a:Act} {w:World} {Q:Exit→Act→World→Prop} {kd:Kd} {c:V} (h0:H0 G n0 f0 l0) (hn:n0≤n) (hk:kd ≠ .ret) (hr:Rel N G w0 v0 (· < n) f l a w) (ho:Old n0 f0 l0 f l) :
  ∀ {os:List (Kd×Js)} {α:Type} {K:sumT os→Option α} {x':α},Zrc b n0 n f0 l0 kd c f l os K=some x' →
  ∃ y,K y=some x'∧∀ {Kout:Kt β} {r:β},arms b f0 l0 n0 Kout os y=some r→KOK P rs N G w0 v0 n0 f0 l0 Kout r Q→Q (kdE kd) a w
 | [],α,K,x',h=>by cases h
 | [o],α,K,x',h=>by
  simp only [Zrc] at h
  split at h
  ·rename_i he
   have he:=Zvi he
   have h:ZPe b n0 n f0 l0 f l o.2 K=some x':=by cases kd <;> first | exact h | exact absurd rfl hk
   obtain ⟨y,h1,h2⟩:=ZNn (P:=P) (rs:=rs) (β:=β) (Q:=Q) h0 hn (by rw [he];exact hk) hr ho h
   exact ⟨y,h1,fun {Kout r} hx hK=>he ▸ h2 hx hK⟩
  ·cases h
 | o :: p :: os,α,K,x',h=>by
  simp only [Zrc] at h
  split at h
  ·rename_i he
   have he:=Zvi he
   have h:ZPe b n0 n f0 l0 f l o.2 (fun x=>K (.inl x))=some x':=by cases kd <;> first | exact h | exact absurd rfl hk
   obtain ⟨y,h1,h2⟩:=ZNn (P:=P) (rs:=rs) (β:=β) (Q:=Q) h0 hn (by rw [he];exact hk) hr ho h
   exact ⟨.inl y,h1,fun {Kout r} hx hK=>he ▸ h2 hx hK⟩
  ·obtain ⟨y,h1,h2⟩:=ZEk h0 hn hk hr ho (os:=p :: os) h
   exact ⟨.inr y,h1,fun {Kout r} hx hK=>h2 hx hK⟩
theorem Z9k {P:Program} {rs:List ResultVar} {β:Type} {b n0 n:Nat} {f0 f:Fr} {l0 l:Lo} {a:Act} {w:World} {Q:Exit→Act→World→Prop} {c:V} (h0:H0 G n0 f0 l0) (hn:n0≤n) (hr:RetR P rs N G w0 v0 c l n a w) (ho:Z1b n0 l0 l) :
  ∀ {os:List (Kd×Js)} {α:Type} {K:sumT os→Option α} {x':α},Zrc b n0 n f0 l0 .ret c f l os K=some x' →
  ∃ y,K y=some x'∧∀ {Kout:Kt β} {r:β},arms b f0 l0 n0 Kout os y=some r→KOK P rs N G w0 v0 n0 f0 l0 Kout r Q→Q .ret a w
 | [],α,K,x',h=>by cases h
 | [o],α,K,x',h=>by
  simp only [Zrc] at h
  split at h
  ·rename_i he
   exact Zkp h0 hn (Zvi he) hr ho h
  ·cases h
 | o :: p :: os,α,K,x',h=>by
  simp only [Zrc] at h
  split at h
  ·rename_i he
   obtain ⟨y,h1,h2⟩:=Zkp (P:=P) (rs:=rs) (β:=β) (Q:=Q) h0 hn (Zvi he) hr ho h
   exact ⟨.inl y,h1,fun {Kout r} hx hK=>h2 hx hK⟩
  ·obtain ⟨y,h1,h2⟩:=Z9k h0 hn hr ho (os:=p :: os) h
   exact ⟨.inr y,h1,fun {Kout r} hx hK=>h2 hx hK⟩
theorem Zai {P:Program} {rs:List ResultVar} {c:Code} {α:Type} {b n:Nat} {ann:Ann} {f:Fr} {l:Lo} {K:Kt α} {g:(β:Type)→Go β} {r:α} {a:Act} {w:World} {Q:Exit→Act→World→Prop} (h:Zcg b ann f l n K g=some r) (hr:Rel N G w0 v0 (· < n) f l a w) (hK:KOK P rs N G w0 v0 n f l K r Q)
  (ih:∀ {β:Type} {a':Ann} {K':Kt β} {r':β},g β a' f l n K'=some r'→KOK P rs N G w0 v0 n f l K' r' Q→c.wp P Q a w):c.wp P Q a w:=by
 unfold Zcg at h;split at h
 ·rename_i j a';obtain ⟨x,hx,harms⟩:=ZE h;have h0:=hr.h0;refine ih hx ⟨fun f' l' n' a' w' hp hn' ho' hr'=>?_,fun i f' l' n' a' w' hp hn' ho' hr'=>?_,fun c l' n' a' w' hp hn' ho' hr'=>?_⟩
  ·obtain ⟨y,h1,h2⟩:=ZEk (P:=P) (rs:=rs) (β:=α) (Q:=Q) (kd:=.norm) h0 hn' (fun e=>by cases e) hr' ho' hp
   cases h1
   exact h2 harms hK
  ·obtain ⟨y,h1,h2⟩:=ZEk (P:=P) (rs:=rs) (β:=α) (Q:=Q) (kd:=.exit i) h0 hn' (fun e=>by cases e) hr' ho' hp
   cases h1
   exact h2 harms hK
  ·obtain ⟨y,h1,h2⟩:=Z9k (P:=P) (rs:=rs) (β:=α) (Q:=Q) h0 hn' hr' ho' hp
   cases h1
   exact h2 harms hK
 ·exact ih h hK
theorem ZVn {P:Program} {rs:List ResultVar} {c:Code} {α:Type} {a':Ann} {g:(β:Type)→Go β} {r:α}:∀ (k:Nat) {n:Nat} {f:Fr} {l:Lo} {K:Kt α} {a:Act} {w:World} {Q:Exit→Act→World→Prop},rounds g a' k f l n K=some r→Rel N G w0 v0 (· < n) f l a w→KOK P rs N G w0 v0 n f l K r Q →
  (∀ {β:Type} {a':Ann} {f':Fr} {l':Lo} {n':Nat} {K':Kt β} {r':β} {a:Act} {w:World} {Q':Exit→Act→World→Prop},g β a' f' l' n' K'=some r'→Rel N G w0 v0 (· < n') f' l' a w→KOK P rs N G w0 v0 n' f' l' K' r' Q'→c.wp P Q' a w)→Code.rounds P c Q k a w
 | 0,n,f,l,K,a,w,Q,h,_,_,_=>by cases h
 | k+1,n,f,l,K,a,w,Q,h,hr,hK,ih =>
  Zku (ih (Q':=Exit.then (Code.rounds P c Q k) Q) h hr ⟨fun f' l' n' a' w' hp hn' ho' hr'=>ZVn k hp hr' (hK.step hn' ho') ih,fun i=>hK.exit i,hK.ret⟩)
theorem ZEv {P:Program} {rs:List ResultVar} {c:Code} {α:Type} {b n:Nat} {ann:Ann} {f:Fr} {l:Lo} {K:Kt α} {g:(β:Type)→Go β} {r:α} {a:Act} {w:World} {Q:Exit→Act→World→Prop} (h:loopI b ann f l n K g=some r) (hr:Rel N G w0 v0 (· < n) f l a w) (hK:KOK P rs N G w0 v0 n f l K r Q)
  (ih:∀ {β:Type} {a':Ann} {f':Fr} {l':Lo} {n':Nat} {K':Kt β} {r':β} {a:Act} {w:World} {Q':Exit→Act→World→Prop},g β a' f' l' n' K'=some r'→Rel N G w0 v0 (· < n') f' l' a w→KOK P rs N G w0 v0 n' f' l' K' r' Q'→c.wp P Q' a w):(Code.loop c).wp P Q a w:=by
 unfold loopI at h;split at h
 ·rename_i j ann';have h0:=hr.h0;obtain ⟨z,h1,h2,h3,h4⟩:=ZSm h0 (Nat.le_refl n) hr Old.refl h;obtain ⟨y,hl,harms⟩:=ZE h1;refine Zeb hl (fun s a w=>n≤bN f l j.head s n∧Rel N G w0 v0 (· < bN f l j.head s n) (bF f l j.head s n) (bL b f l j.head s n) a w∧Old n f l (bF f l j.head s n) (bL b f l j.head s n)) ⟨h2,h3,h4⟩ ?_;rintro s a w st ⟨i1,i2,i3⟩ hst N' hN hR;rw [Zgl] at hst;refine ih hst i2 ⟨fun f' l' n' a' w' hp hn' ho' hr'=>?_,fun i f' l' n' a' w' hp hn' ho' hr'=>?_,fun c l' n' a' w' hp hn' ho' hr'=>?_⟩
  ·obtain ⟨x,k1,k2,k3,k4⟩:=ZSm h0 (Nat.le_trans i1 hn') hr' (i3.trans ho' i1) hp
   cases k1
   exact hN x rfl a' w' ⟨k2,k3,k4⟩
  ·obtain ⟨y',k1,k2⟩:=ZEk (P:=P) (rs:=rs) (β:=α) (Q:=Q) (kd:=.exit i) h0 (Nat.le_trans i1 hn') (fun e=>by cases e) hr' (i3.trans ho' i1) hp
   cases k1
   have:=hR y' rfl;subst this;exact k2 harms hK
  ·obtain ⟨y',k1,k2⟩:=Z9k (P:=P) (rs:=rs) (β:=α) (Q:=Q) h0 (Nat.le_trans i1 hn') hr' (i3.l.trans ho' i1) hp
   cases k1
   have:=hR y' rfl;subst this;exact k2 harms hK
 ·rename_i k ann';exact wp_loop_rounds k (ZVn k h hr hK ih)
 ·cases h
theorem Zru {P:Program} {f:Fr} {l:Lo} {a:Act} {w:World} {γ:Nat→Gh} {v:Zb} {ℓ:List Loc} {n:Nat} (hr:RelX N G w0 v0 (· < n) (· < n) f l a w γ v ℓ) {q:ResultVar} {z:V} (h:Zfl f l P q=some z) (hz:∀ c,z ≠ .tup c):∃ cs,RR v γ l false z cs∧z.ok (· < n)∧Res P a.tmps w q (z.val cs):=by
 unfold Zfl at h;split at h
 ·rename_i t;split at h
  ·rename_i e he
   cases h
   obtain ⟨cs,h1,h2⟩:=Zgb (hr.fr t e he) hz;obtain ⟨σ,hσ,hev⟩:=hr.st.ev1 (.tmp t);exact ⟨cs,h1,(hr.uf t e he).1,by rw [← h2];exact ZO hσ hev⟩
  ·cases h
 ·rename_i x t;split at h
  ·rename_i k st u he;split at h
   ·rename_i k2 st2 ty c hu;split at h
    ·rename_i q hq;have hrv:=hr.fr x _ he;obtain ⟨y,hy0,_,hy⟩:=Z8 hrv (fun _ e=>by cases e) rfl rfl
     cases hy0
     obtain ⟨b',g4,g5⟩:=hy _ hu;obtain ⟨hkk,es,hes,hmem⟩:=hr.loc hu;obtain ⟨b,cs,g1,g2,g3,rfl⟩:=hes;have hkk:k2=u:=hkk;subst hkk;have g1:γ k2 = .box b:=g1;rw [g1] at g4;cases g4;have hc:c.ok (· < n):=(hr.ul _ (Zy hu).1).2.2;obtain ⟨k1,k2',k3,k4,k5⟩:=Zcd FU h g2 hc;obtain ⟨i,hi⟩:=hmem _ (List.mem_singleton.2 rfl);have hlen:((cs.drop 0).take q.1).length=q.1:=by simp at k5 ⊢;omega
     have hw:=hr.st.box hi 0 ((cs.drop 0).take q.1) (by rw [hlen]);obtain ⟨σ,hσ,hev⟩:=hr.st.ev1 (.tmp x);have g5:a.eval (.tmp x)=_:=g5;rw [g5] at hev;have ht:=ZYe hq;refine ⟨_,k1,k2',?_⟩
     cases hag:z.isAgg with
     | true =>
      rw [← k4,hag] at ht;unfold V.val;rw [hag];exact res_agg hσ hev ht hlen hw
     | false =>
      rw [← k4,hag] at ht;have h1:=Zld FU h hag;have e3:=Z9f k1 h1 hag;rw [← k3,h1] at ht;rw [e3] at hw;exact res_one hσ hev ht hw
    ·cases h
   ·cases h
  ·cases h
theorem Z4p {P:Program} {f:Fr} {l:Lo} {a:Act} {w:World} {γ:Nat→Gh} {v:Zb} {ℓ:List Loc} {n:Nat} (hr:RelX N G w0 v0 (· < n) (· < n) f l a w γ v ℓ):∀ {rs:List ResultVar} {c:V},ZQj f l P rs=some c→∃ vals,RR v γ l true c vals∧c.ok (· < n)∧Ress P a.tmps w rs vals
 | [],c,h=>by cases h;exact ⟨[],rfl,trivial,trivial⟩
 | q :: rs,c,h=>by
  simp only [ZQj] at h
  split at h
  ·cases h
  ·rename_i z c1 hnt h1 h2
   cases h
   obtain ⟨cs,k1,k2,k3⟩:=Zru hr h1 (fun c e=>hnt c (by rw [e]))
   obtain ⟨vals,q1,q2,q3⟩:=Z4p hr h2
   exact ⟨_,⟨cs,vals,rfl,k1,q1⟩,⟨k2,q2⟩,k3,q3⟩
  ·cases h
theorem Zjr {id i:Nat} {Q:Exit→Act→World→Prop} {a:Act} {w:World} (h:(Nat.beq i id=true→Q .normal a w)∧(Nat.beq i id=false→Q (.exit i) a w)):Exit.inBlock id Q (.exit i) a w:=by
 cases hb:Nat.beq i id
 ·have hne:¬ i=id:=fun e=>by rw [e] at hb;simp at hb
  simp only [Exit.inBlock,if_neg hne];exact h.2 hb
 ·simp only [Exit.inBlock,if_pos (Nat.eq_of_beq_eq_true hb)];exact h.1 hb
theorem Zdq {C:Cf} (hC:CfOK C) {cf:CallF} (hcf:ZWf C cf) {rs:List ResultVar} {b:Nat}:∀ (c:Code) {α:Type} {ann:Ann} {f:Fr} {l:Lo} {n:Nat} {K:Kt α} {r:α} {Q:Exit→Act→World→Prop} {a:Act} {w:World},
  Z5b C cf rs b N c α ann f l n K=some r→Rel N G w0 v0 (· < n) f l a w→KOK C.P rs N G w0 v0 n f l K r Q→c.wp C.P Q a w:=by
 intro c
 induction c with
 | skip=>intro α ann f l n K r Q a w h hr hK;exact wp_skip (hK.norm f l n a w h (Nat.le_refl n) Old.refl hr)
 | label i=>intro α ann f l n K r Q a w h hr hK;exact wp_label (hK.norm f l n a w h (Nat.le_refl n) Old.refl hr)
 | region id ops draw =>
  intro α ann f l n K r Q a w hh hr hK;refine Zai hh hr hK fun {β a' K' r'} h hK2=>?_;clear hh;split at h
  ·rename_i hds;exact wp_region_list (Z2i hC hcf (Zli hds) h (fun o ho=>ho) hr hK2.norm)
  ·rename_i hds;split at h
   ·rename_i hm hb;split at h
    ·exact draw_ok hC hm hb (Zli hds) h hr hK2.norm
    ·rename_i o ho;exact ZLr hC hcf ho hm hb (Zli hds) h hr hK2.norm
   ·cases h
  ·cases h
 | seq x y ix iy =>
  intro α ann f l n K r Q a w h hr hK;refine Zai h hr hK fun {β a' K' r'} h hK=>?_;refine wp_seq (ix h hr ⟨fun f' l' n' a' w' hp hn' ho' hr'=>iy hp hr' (hK.step hn' ho'),fun i=>hK.exit i,hK.ret⟩)
 | cond c x y ix iy =>
  intro α ann f l n K r Q a w h hr hK;refine Zai h hr hK fun {β a' K' r'} h hK=>?_
  cases c with
  | tmp t =>
   simp only at h;split at h
   ·rename_i k s q he;have hk:k=t:=(Zy he).2;subst hk;obtain ⟨γ,v,ℓ,hr⟩:=hr;have hev:a.eval (.tmp k) = .bool q:=Zff (hr.fr k _ he);have hdup:=RelX.dup hr he;have hold:=Old.dup (m:=n) (l:=l) he
    cases q with
    | true=>exact wp_cond_true hev (ix h ⟨γ,v,ℓ,hdup⟩ (hK.step (Nat.le_refl n) hold))
    | false=>exact wp_cond_false hev (iy h ⟨γ,v,ℓ,hdup⟩ (hK.step (Nat.le_refl n) hold))
   ·cases h
  | const v =>
   cases v with
   | bool b=>cases b with
    | true=>exact wp_cond_true rfl (ix h hr hK)
    | false=>exact wp_cond_false rfl (iy h hr hK)
   | _=>cases h
  | _=>cases h
 | block id x ix =>
  intro α ann f l n K r Q a w h hr hK;refine Zai h hr hK fun {β a' K' r'} h hK=>?_;refine wp_block (ix h hr ⟨hK.norm,fun i f' l' n' a' w' hp hn' ho' hr'=>Zjr ⟨fun e=>?_,fun e=>?_⟩,hK.ret⟩)
  ·simp only [e] at hp;exact hK.norm f' l' n' a' w' hp hn' ho' hr'
  ·simp only [e] at hp;exact hK.exit i f' l' n' a' w' hp hn' ho' hr'
 | loop x ix =>
  intro α ann f l n K r Q a w h hr hK;exact ZEv h hr hK fun h hr hK=>ix h hr hK
 | scope x ix =>
  intro α ann f l n K r Q a w h hr hK;exact wp_scope_straight (ix h hr ⟨hK.norm,hK.exit,hK.ret⟩)
 | exit i=>intro α ann f l n K r Q a w h hr hK;exact wp_exit (hK.exit i f l n a w h (Nat.le_refl n) Old.refl hr)
 | ret =>
  intro α ann f l n K r Q a w h hr hK;simp only [Z5b] at h;split at h
  ·rename_i c hc;obtain ⟨γ,v,ℓ,hr⟩:=hr;obtain ⟨vals,k1,k2,k3⟩:=Z4p hr hc;exact wp_ret (hK.ret c l n a w h (Nat.le_refl n) (fun u e he _=>he) ⟨γ,v,ℓ,vals,⟨hr.st,fun t e he=>(by cases he),hr.lr,hr.nd,fun t e he=>(by cases he),hr.ul,hr.gh⟩,k1,k2,k3⟩)
  ·cases h
 | _=>intro α ann f l n K r Q a w h hr hK;cases h
end
end Go.Eng
namespace Go.Eng
open Go.RowKit
def oneR:List Value→Value
 | [x]=>x
 | vs=>.tuple vs.toArray
theorem Zqo {P:Program} {tmps:Array Value} {w:World}:∀ {rs:List ResultVar} {vals:List Value},Ress P tmps w rs vals→(rs.mapM (Zwi tmps)).run P w = .ok vals w
 | [],[],_=>by simp
 | q :: rs,y :: vals,h=>by
  have h1:=ZHk h.1
  have h2:=Zqo (rs:=rs) (vals:=vals) h.2
  simp [List.mapM_cons,h1,h2]
 | [],_ :: _,h=>h.elim
 | _ :: _,[],h=>h.elim
theorem Znm {P:Program} {fn:Func} {tmps:Array Value} {w:World} {vals:List Value} (h:Ress P tmps w fn.results.toList vals):(results fn tmps).run P w = .ok (oneR vals) w:=by
 have h1:=Zqo h;rw [Zjl];rw [Array.mapM_eq_mapM_toList]
 match vals with
 | []=>simp [h1,oneR]
 | [x]=>simp [h1,oneR]
 | x :: y :: r=>simp [h1,oneR]
theorem oneV_ok {v:Zb} {γ:Nat→Gh} {l:Lo} {U:Nat→Prop} {c:V} {vals:List Value} (h:RR v γ l true c vals) (hk:c.ok U):RV v γ l (Zue c) (oneR vals)∧(Zue c).ok U:=by
 cases c with
 | nl=>rw [show vals=[] from h];exact ⟨⟨[],rfl,rfl⟩,trivial⟩
 | cons a b =>
  obtain ⟨cs,xs,rfl,h1,h2⟩:=h
  cases b with
  | nl =>
   rw [show xs=[] from h2];exact ⟨ZDb h1 (fun c e=>by subst e;exact h1),hk.1⟩
  | cons a2 b2 =>
   obtain ⟨cs2,xs2,rfl,h3,h4⟩:=h2;exact ⟨⟨_,⟨cs,_,rfl,h1,cs2,xs2,rfl,h3,h4⟩,rfl⟩,hk⟩
  | _=>exact h2.elim
 | _=>exact h.elim
theorem Zoi {v:Zb} {γ:Nat→Gh} {l:Lo} {U:Nat→Prop} {n:Nat}:∀ {c:V} {k t:Nat} {e:En V} {vals:List Value},RR v γ l true c vals→c.ok U→lkE (Z6e n k c) t=some e→∃ y,k≤t∧vals[t-k]? = some y∧RV v γ l e.x y∧e.x.ok U∧e.st=n:=by
 intro c
 induction c with
 | cons a b ia ib =>
  intro k t e vals h hk he;obtain ⟨cs,xs,rfl,h1,h2⟩:=h;simp only [Z6e] at he;rw [ZP] at he;split at he
  ·rename_i hkt
   cases he
   have hkt:k=t:=hkt;subst hkt;exact ⟨a.val cs,Nat.le_refl _,by simp,ZDb h1 (fun c e=>by subst e;exact h1),hk.1,rfl⟩
  ·rename_i hkt;have hkt:¬ k=t:=hkt;obtain ⟨y,q1,q2,q3⟩:=ib h2 hk.2 he;refine ⟨y,by omega,?_,q3⟩;have:t-k=(t-(k+1))+1:=by omega
   rw [this];simpa using q2
 | _=>intro k t e vals h hk he;cases he
theorem lenV_ok {v:Zb} {γ:Nat→Gh} {l:Lo}:∀ {c:V} {vals:List Value},RR v γ l true c vals→vals.length=lenV c:=by
 intro c
 induction c with
 | nl=>intro vals h;rw [show vals=[] from h];rfl
 | cons a b ia ib=>intro vals h;obtain ⟨cs,xs,rfl,h1,h2⟩:=h;simp [ib h2,lenV]
 | _=>intro vals h;exact h.elim
theorem Zpq:∀ {l:List Value} {k t:Nat} {y:Value},l[t]? = some y→look (Z6b k l) (k+t)=some y
 | [],_,_,_,h=>by simp at h
 | x :: l,k,0,y,h=>by
  simp at h;subst h
  exact Zre rfl
 | x :: l,k,t+1,y,h=>by
  have h1:=Zpq (l:=l) (k:=k+1) (t:=t) (y:=y) (by simpa using h)
  rw [show Z6b k (x :: l)=(k,x) :: Z6b (k+1) l from rfl,ZLf (by omega),show k+(t+1)=k+1+t by omega]
  exact h1
def Zce (C:Cf) (inl:Inl):Prop:=∀ g p,ZGa inl g=some p→C.P.funcs[g]? = some p.1∧Z9 C.P g
theorem ZSu {N N':Nat} {G:V→Value→Prop} {w0:Base} {v0:Zb} {a:Act} {w:World} {γ:Nat→Gh} {v:Zb} {ℓ:List Loc} {ags:V} {l:Lo} {n:Nat} {vals:List Value} (hr:RelX N G w0 v0 (· < n) (· < n) [] l a w γ v ℓ) (has:RR v γ l true ags vals) (hk:ags.ok (· < n)) (hN:vals.length≤N') :
  RelX N' G w0 v0 (· < n+1) (· < n+1) (Z6e n 0 ags) l { tmps:=vals.toArray++Array.replicate (N'-vals.toArray.size) undef,defers:=[] } w γ v ℓ:=by
 have hm:=hr.mono (U':=(· < n+1)) (X':=(· < n+1)) (fun k h=>(show k<n+1 by have:k<n:=h;omega)) fun k h=>(show k<n+1 by have:k<n:=h;omega);refine ⟨⟨by simp;omega,rfl,fun t x h=>(by cases h),hr.st.ext,hr.st.vst,hr.st.loc,hr.st.nd⟩,fun t e he=>?_,hm.lr,hm.nd,fun t e he=>?_,hm.ul,hm.gh⟩
 ·obtain ⟨y,h1,h2,h3,h4,h5⟩:=Zoi has hk he;have hlt:t<vals.length:=(List.getElem?_eq_some_iff.1 h2).1;have h3':vals[t]=y:=(List.getElem?_eq_some_iff.1 h2).2;have:((vals.toArray++Array.replicate (N'-vals.toArray.size) undef).getD t undef)=y:=by
   simp [Array.getElem?_append,hlt,h3']
  rw [this];exact h3
 ·obtain ⟨y,h1,h2,h3,h4,h5⟩:=Zoi has hk he;exact ⟨V.ok.mono (fun k h=>(show k<n+1 by have:k<n:=h;omega)) h4,by show e.st<n+1;omega⟩
theorem Zxv {C:Cf} (hC:CfOK C) {inl:Inl} (hinl:Zce C inl) (d:Nat):ZWf C (Zmj C inl d):=by
 induction d with
 | zero=>intro α g ags l n K r h;cases h
 | succ d ih =>
  intro α g ags l n K r h N G w0 v0 a w γ v ℓ vals hr has hk;simp only [Zmj] at h;split at h
  ·rename_i fn ann hg;obtain ⟨hf,hen⟩:=hinl g _ hg;split at h
   ·rename_i c hc hb;have hlen:=lenV_ok has;have hb:=Nat.le_of_ble_eq_true hb;have hx:=ZSu (N':=fn.ntmps) hr has hk (by rw [hlen];exact hb);refine ⟨hen,calls_of_wp hf hc ?_⟩;refine Zdq hC ih c h ⟨γ,v,ℓ,hx⟩ ⟨fun f' l' n' a' w' hp hn' ho' hr'=>?_,fun i f' l' n' a' w' hp hn' ho' hr'=>(by cases hp),fun c l' n' a' w' hp hn' ho' hr'=>?_⟩
    ·unfold endN at hp;split at hp
     ·rename_i hres;obtain ⟨γ',v',ℓ',hr'⟩:=hr';refine ⟨hr'.st.dfr,_,Znm (vals:=[]) (by rw [hres];exact trivial),_,.nl,l',n',γ',v',ℓ',rfl,hp,by omega,fun f=>⟨fun _ _ h _=>h,ho'.l.mono (by omega)⟩,⟨⟨hr.st.size,hr.st.dfr,fun t x h=>(by cases h),hr'.st.ext,hr'.st.vst,hr'.st.loc,hr'.st.nd⟩,fun t e he=>(by cases he),hr'.lr,hr'.nd,fun t e he=>(by cases he),hr'.ul,hr'.gh⟩,?_⟩;exact ⟨⟨[],rfl,rfl⟩,trivial⟩
     ·cases hp
    ·obtain ⟨γ',v',ℓ',vals',hr',hc',hk',hres⟩:=hr';exact ⟨hr'.st.dfr,_,Znm hres,_,c,l',n',γ',v',ℓ',rfl,hp,by omega,fun f=>⟨fun _ _ h _=>h,ho'.mono (by omega)⟩,⟨⟨hr.st.size,hr.st.dfr,fun t x h=>(by cases h),hr'.st.ext,hr'.st.vst,hr'.st.loc,hr'.st.nd⟩,fun t e he=>(by cases he),hr'.lr,hr'.nd,fun t e he=>(by cases he),hr'.ul,hr'.gh⟩,oneV_ok hc' hk'⟩
   ·cases h
  ·cases h
theorem ZDo {v:Zb} {γ:Nat→Gh} {l:Lo} {U:Nat→Prop}:∀ {ts:List T} {vals:List Value} {x:Zta ts},Z8b v ts vals x→RR v γ l true (ZYg ts x) vals∧(ZYg ts x).ok U∧vals.length=ts.length
 | [],_,_,h=>⟨h,trivial,by rw [show _=[] from h];rfl⟩
 | [t],_,x,⟨cs,h1,h2⟩=>⟨⟨cs,[],by rw [h1];exact congrArg (fun z=>[z]) (ZDg (t:=t) (x:=x) (cs:=cs)).symm,h2,rfl⟩,⟨trivial,trivial⟩,by rw [h1];rfl⟩
 | t :: u :: r,_,x,⟨cs,vs,h1,h2,h3⟩=>by
  obtain ⟨k1,k2,k3⟩:=ZDo (γ:=γ) (l:=l) (U:=U) h3
  exact ⟨⟨cs,vs,by rw [h1];exact congrArg (· :: vs) (ZDg (t:=t) (x:=x.1) (cs:=cs)).symm,h2,k1⟩,⟨trivial,k2⟩,by rw [h1];simp [k3]⟩
theorem resR_of {v:Zb}:∀ {ts:List T} {vals:List Value} {z:Zta ts},Z8b v ts vals z→resR v ts (oneR vals) z
 | [],_,_,h=>by rw [show _=[] from h];exact ⟨[],rfl,rfl⟩
 | [t],_,x,⟨cs,h1,h2⟩=>by rw [h1];exact ⟨cs,rfl,h2⟩
 | t :: u :: r,vals,x,h=>by
  obtain ⟨cs,vs,h1,h2,h3⟩:=h
  have hl:1≤vs.length:=by
   cases r with
   | nil=>obtain ⟨cs2,e,_⟩:=h3;rw [e];simp
   | cons u2 r2=>obtain ⟨cs2,vs2,e,_⟩:=h3;rw [e];simp
  have e:oneR vals = .tuple vals.toArray:=by
   subst h1
   cases vs with
   | nil=>simp at hl
   | cons y ys=>rfl
  rw [e];exact ⟨vals,rfl,cs,vs,h1,h2,h3⟩
theorem ZVk {C:Cf} (hC:CfOK C) {inl:Inl} (hinl:Zce C inl) {f:FuncId} {fn:Func} {ann:Ann} {ats rts:List T} {x:Zta ats} {z:Zta rts} (hf:C.P.funcs[f]? = some fn) (hl:Nat.ble ats.length fn.ntmps=true) (h:Zq C inl fn ann ats rts x=some z)
  {w:World} {v:Zb} {vals:List Value} (hv:VIn v w) (ha:Z8b v ats vals x):Ret C.P f vals.toArray w v fun y v'=>resR v' rts y z:=by
 unfold Zq at h;split at h
 ·rename_i c hc;obtain ⟨h1,h2,h3⟩:=ZDo (γ:=fun _=>.box 0) (l:=[]) (U:=(· < 0)) ha;have hK:vals.length≤fn.ntmps:=by rw [h3];exact Nat.le_of_ble_eq_true hl
  refine Zwb hv hf hc rfl hK fun a hS=>?_;have hr:RelX fn.ntmps (fun _ _=>False) w v (· < 1) (· < 1) (Z6e 0 0 (ZYg ats x)) [] a w (fun _=>.box 0) v []:=by
   refine ⟨⟨hS.size,hS.dfr,fun t x h=>(by cases h),hS.ext,hS.vst,hS.loc,hS.nd⟩,fun t e he=>?_,⟨[],trivial,List.Perm.refl _⟩,List.nodup_nil,fun t e he=>?_,fun e he=>(by cases he),fun x y h=>h.elim⟩
   ·obtain ⟨y,q1,q2,q3,q4,q5⟩:=Zoi h1 h2 he;have:=hS.fr t y ?_
    ·rw [this];exact q3
    ·have q2:vals[t-0]? = some y:=q2;have:=Zpq (k:=0) (t:=t) (y:=y) (by simpa using q2)
     rwa [Nat.zero_add] at this
   ·obtain ⟨y,q1,q2,q3,q4,q5⟩:=Zoi h1 h2 he;exact ⟨V.ok.mono (fun k h=>absurd h (Nat.not_lt_zero k)) q4,by show e.st<1;omega⟩
  refine Zdq hC (Zxv hC hinl 20) c h ⟨_,_,_,hr⟩ ⟨fun f' l' n' a' w' hp hn' ho' hr'=>(by cases hp),fun i f' l' n' a' w' hp hn' ho' hr'=>(by cases hp),fun c l' n' a' w' hp hn' ho' hr'=>?_⟩;obtain ⟨γ',v',ℓ',vals',hr',hc',hk',hres⟩:=hr';have hr2:RelX fn.ntmps (fun _ _=>False) w v (· < n') (· < n'+1) [] l' a' w' γ' v' ℓ':=hr'.mono (fun _ h=>h) fun k h=>(show k<n'+1 by have:k<n':=h;omega);obtain ⟨y,l2,γ2,v2,ℓ2,k1,k2,k3,k4⟩:=ZNi (U:=(· < n')) (X:=(· < n'+1)) (Nat.lt_irrefl n') (Nat.lt_succ_self n') (Z1g hp) hr2 hk';have k1:some y=some z:=k1
  cases k1
  exact ⟨k2.st.dfr,_,Znm hres,_,v2,rfl,k2.st.ext.ext,k2.st.vst.ext,resR_of (k4 _ hc')⟩
 ·cases h
def CL (P:Program):List (FuncId×Con)→Prop
 | []=>True
 | p :: r=>Zm P p.1 p.2∧CL P r
def OL (P:Program):List (FuncId×ConO)→Prop
 | []=>True
 | p :: r=>Z0h P p.1 p.2∧OL P r
def IL (P:Program):List (FuncId×ConI)→Prop
 | []=>True
 | p :: r=>Zyj P p.1 p.2∧IL P r
def ML (P:Program):List ((TypeId×String)×FuncId)→Prop
 | []=>True
 | p :: r=>(∀ y w,(method (P.types.size+Made.depth) p.1.1 y p.1.2).run P w = .ok (p.2,y) w)∧ML P r
def NL (P:Program):Inl→Prop
 | []=>True
 | p :: r=>(P.funcs[p.1]? = some p.2.1∧Z9 P p.1)∧NL P r
theorem CL_ok {P:Program}:∀ {l:List (FuncId×Con)},CL P l→∀ f c,ZGa l f=some c→Zm P f c
 | [],_,_,_,h=>by cases h
 | p :: r,hl,f,c,h=>by
  simp only [ZGa] at h
  split at h
  ·rename_i hb;cases h;rw [← Nat.eq_of_beq_eq_true hb];exact hl.1
  ·exact CL_ok hl.2 f c h
theorem OL_ok {P:Program}:∀ {l:List (FuncId×ConO)},OL P l→∀ f c,ZGa l f=some c→Z0h P f c
 | [],_,_,_,h=>by cases h
 | p :: r,hl,f,c,h=>by
  simp only [ZGa] at h
  split at h
  ·rename_i hb;cases h;rw [← Nat.eq_of_beq_eq_true hb];exact hl.1
  ·exact OL_ok hl.2 f c h
theorem IL_ok {P:Program}:∀ {l:List (FuncId×ConI)},IL P l→∀ f c,ZGa l f=some c→Zyj P f c
 | [],_,_,_,h=>by cases h
 | p :: r,hl,f,c,h=>by
  simp only [ZGa] at h
  split at h
  ·rename_i hb;cases h;rw [← Nat.eq_of_beq_eq_true hb];exact hl.1
  ·exact IL_ok hl.2 f c h
theorem ML_ok {P:Program}:∀ {l:List ((TypeId×String)×FuncId)},ML P l→∀ t s f,lkM l t s=some f→∀ y w,(method (P.types.size+Made.depth) t y s).run P w = .ok (f,y) w
 | [],_,_,_,_,h=>by cases h
 | p :: r,hl,t,s,f,h=>by
  simp only [lkM] at h
  split at h
  ·rename_i hb hs
   cases h
   rw [← Nat.eq_of_beq_eq_true hb,← eq_of_beq hs];exact hl.1
  ·exact ML_ok hl.2 t s f h
theorem CfOK.of {C:Cf} (hc:CL C.P C.cons) (ho:OL C.P C.owns) (hi:IL C.P C.ins) (hm:ML C.P C.meths):CfOK C:=⟨CL_ok hc,OL_ok ho,IL_ok hi,ML_ok hm⟩
theorem Zce.of {C:Cf}:∀ {l:Inl},NL C.P l→Zce C l
 | [],_,_,_,h=>by cases h
 | p :: r,hl,g,q,h=>by
  simp only [ZGa] at h
  split at h
  ·rename_i hb;cases h;rw [← Nat.eq_of_beq_eq_true hb];exact hl.1
  ·exact Zce.of (l:=r) hl.2 g q h
theorem Zt {C:Cf} (hc:CL C.P C.cons) (ho:OL C.P C.owns) (hi:IL C.P C.ins) (hm:ML C.P C.meths) {inl:Inl} (hn:NL C.P inl) {f:FuncId} {fn:Func} {ann:Ann} {con:Con} (hf:C.P.funcs[f]? = some fn) (hen:Z9 C.P f) (hl:Nat.ble con.args.length fn.ntmps=true)
  (h:∀ v vals x z,Z8b v con.args vals x→con.F x=some z→Zq C inl fn ann con.args con.res x=some z):Zm C.P f con :=
 fun _ v vals x z hv ha hz=>.inl ⟨hen,ZVk (CfOK.of hc ho hi hm) (Zce.of hn) hf hl (h v vals x z ha hz) hv ha⟩
theorem ZBj {C:Cf} (hc:CL C.P C.cons) (ho:OL C.P C.owns) (hi:IL C.P C.ins) (hm:ML C.P C.meths) {inl:Inl} (hn:NL C.P inl) {f:FuncId} {fn:Func} {ann:Ann} {ats rts:List T} {con:Con} (gA:Zta con.args→Zta ats) (gR:Zta con.res→Zta rts) (hA:∀ v vals x,Z8b v con.args vals x→Z8b v ats vals (gA x)) (hR:∀ v y z,resR v rts y (gR z)→resR v con.res y z)
  (hf:C.P.funcs[f]? = some fn) (hen:Z9 C.P f) (hl:Nat.ble ats.length fn.ntmps=true) (h:∀ v vals x z,Z8b v con.args vals x→con.F x=some z→Zq C inl fn ann ats rts (gA x)=some (gR z)):Zm C.P f con :=
 fun _ v vals x z hv ha hz=>.inl ⟨hen,(ZVk (CfOK.of hc ho hi hm) (Zce.of hn) hf hl (h v vals x z ha hz) hv (hA v vals x ha)).mono fun y v' _ hy=>hR v' y z hy⟩
end Go.Eng
set_option maxRecDepth 100000
set_option maxHeartbeats 4000000
namespace Go.Eng
open Go.Proofs Go.RowKit
noncomputable def Z2c:FuncId×Con:=(102,⟨[.slice (.int .u64)],[.leaf 0],fun p=>Zxa p⟩)
theorem cut_i (a:(List Int)):Zq ⟨Tryz.prog,[],[],[],[],[],[]⟩ [] Tryz.f102 (.two .no (.two (.cut ⟨⟨[],[],[]⟩,[(.norm,⟨[],[],[.s 0 (.dat (.slice (.int .u64)))]⟩)]⟩ (.two (.cut ⟨⟨[],[],[.s 0 (.dat (.slice (.int .u64)))]⟩,[(.exit 0,⟨[],[],[.s 0 (.dat (.slice (.int .u64)))]⟩)]⟩ (.two (.two (.two (.cut ⟨⟨[],[],[]⟩,[(.norm,⟨[0],[],[.s 14 (.dat .bool)]⟩)]⟩ .no) .no) .no) .no)) .no)) .no)) [.slice (.int .u64)] [.slice (.int .u64)] (a)=Zzh a:=by kernel_rfl
theorem Zvk:Zm Tryz.prog Z2c.1 Z2c.2:=ZBj (C:=⟨Tryz.prog,[],[],[],[],[],[]⟩) trivial trivial trivial trivial (inl:=[]) trivial (ann:=.two .no (.two (.cut ⟨⟨[],[],[]⟩,[(.norm,⟨[],[],[.s 0 (.dat (.slice (.int .u64)))]⟩)]⟩ (.two (.cut ⟨⟨[],[],[.s 0 (.dat (.slice (.int .u64)))]⟩,[(.exit 0,⟨[],[],[.s 0 (.dat (.slice (.int .u64)))]⟩)]⟩ (.two (.two (.two (.cut ⟨⟨[],[],[]⟩,[(.norm,⟨[0],[],[.s 14 (.dat .bool)]⟩)]⟩ .no) .no) .no) .no)) .no)) .no)) (ats:=[.slice (.int .u64)]) (rts:=[.slice (.int .u64)]) (fun x=>(x)) (fun z=>(Zc 18446744073709551616 z)) (fun _ _ _ h=>h) (fun _ _ _ h=>h) Tryz.func102 (fun _ _=>by kernel_rfl) rfl fun v vals x z ha hz=>by obtain ⟨c0,e0,p0⟩:=ha;exact (cut_i x).trans (by cases hz;exact (Z1p (ZNh p0).1 (ZNh p0).2))
end Go.Eng
set_option maxRecDepth 100000
set_option maxHeartbeats 4000000
namespace Go.Eng
open Go.Proofs Go.RowKit
noncomputable def ZHb:FuncId×Con:=(93,⟨[.int .u64],[.leaf 0],fun p=>ZWa p⟩)
theorem word_i (n:Int):Zq ⟨Tryz.prog,[(31,0)],[Z2c],[],[],[],[]⟩ [] Tryz.f93 .no [.int .u64] [.leaf 0] (n)=ZVg n:=by kernel_rfl
theorem Zkg:Zm Tryz.prog ZHb.1 ZHb.2:=Zt (C:=⟨Tryz.prog,[(31,0)],[Z2c],[],[],[],[]⟩) ⟨Zvk,trivial⟩ trivial trivial trivial (inl:=[]) trivial (ann:=.no) Tryz.func93 (fun _ _=>by kernel_rfl) rfl fun v vals x z ha hz=>(word_i x).trans (Z2n hz)
end Go.Eng
set_option maxRecDepth 100000
set_option maxHeartbeats 4000000
namespace Go.Eng
open Go.Proofs Go.RowKit
noncomputable def ZUe:FuncId×Con:=(71,⟨[.int .i64],[.leaf 2],fun p=>ofF p⟩)
theorem of_i (n:Int):Zq ⟨Tryz.prog,[(31,0),(33,2),(35,3)],[ZHb],[],[],[],[]⟩ [] Tryz.f71 .no [.int .i64] [.leaf 2] (n)=of_m n:=by kernel_rfl
theorem of_k:Zm Tryz.prog ZUe.1 ZUe.2:=Zt (C:=⟨Tryz.prog,[(31,0),(33,2),(35,3)],[ZHb],[],[],[],[]⟩) ⟨Zkg,trivial⟩ trivial trivial trivial (inl:=[]) trivial (ann:=.no) Tryz.func71 (fun _ _=>by kernel_rfl) rfl fun v vals x z ha hz=>by obtain ⟨c0,e0,p0⟩:=ha;exact (of_i x).trans (ofF_eq p0.2 hz)
end Go.Eng
set_option maxRecDepth 100000
set_option maxHeartbeats 4000000
namespace Go.Eng
open Go.Proofs Go.RowKit
noncomputable def Zuc:FuncId×Con:=(31,⟨[.int .i64],[.leaf 3],fun p=>Zlc p⟩)
theorem qint_i (n:Int):Zq ⟨Tryz.prog,[(31,0),(33,2),(35,3)],[ZUe],[],[],[],[]⟩ [] Tryz.f31 .no [.int .i64] [.leaf 3] (n)=ZHm n:=by kernel_rfl
theorem Zhh:Zm Tryz.prog Zuc.1 Zuc.2:=Zt (C:=⟨Tryz.prog,[(31,0),(33,2),(35,3)],[ZUe],[],[],[],[]⟩) ⟨of_k,trivial⟩ trivial trivial trivial (inl:=[]) trivial (ann:=.no) Tryz.func31 (fun _ _=>by kernel_rfl) rfl fun v vals x z ha hz=>(qint_i x).trans (ZXt hz)
end Go.Eng
namespace Go.Eng
open Go.RowKit
theorem Zl {α:Type _} {a b:α} (h:some a=some b):a=b:=Option.some.inj h
theorem ZJ (b:Bool):b=true∨b=false:=(Bool.eq_false_or_eq_true b)
theorem leT {a b c:Zb} (h:a.le b) (k:b.le c):a.le c:=Zb.le_trans h k
theorem leR (v:Zb):v.le v:=Zb.le_refl v
theorem bO {α β:Type _} {x:Option α} {f:α→Option β} {z:β} {G:Prop} (h:bnd x f=some z) (k:∀ y,x=some y→f y=some z→G):G:=by obtain ⟨y,e,h⟩:=ZE h;exact k y e h
theorem Zr {P:Program} {Q:Exit→Act→World→Prop} {a:Act} {w:World} {id:Nat} {l:List Oper} (h:wpList P l.toArray Q l a w):(Code.region id l.toArray false).wp P Q a w:=wp_region_lit h
theorem Zj {P:Program} {Q:Exit→Act→World→Prop} {a:Act} {w:World} {x y:Code} (h:∀ K:Act→World→Prop,(∀ a w,y.wp P Q a w→K a w)→x.wp P (Exit.then K Q) a w):(Code.seq x y).wp P Q a w:=wp_seq_k h
theorem Z6 {α:Type} {A:Rep α} {v v':Zb} {cs:List Value} {x:α} (hv:v.le v') (h:A.rel v cs x):A.rel v' cs x:=A.mono hv h
theorem Rflat {α:Type} (A:Rep α) {v:Zb} {cs:List Value} {x:α} (h:A.rel v cs x):cs.all plain=true:=A.flat h
theorem Atm {v v':Zb} {b off:Nat} {cs:List Value} (h:v.le v') (k:At v b off cs):At v' b off cs:=At.mono h k
end Go.Eng
namespace Go.Eng
open Go.Proofs Go.RowKit
theorem Zwn:ZYh Tryz.prog 238 20 1:=⟨5,fun _=>by kernel_rfl,fun _=>by kernel_rfl⟩
theorem Znq:Zih Tryz.prog 155 5 .u64 .u8:=fun _ _=>by kernel_rfl
theorem Zvq:Zih Tryz.prog 3 215 .i64 .u64:=fun _ _=>by kernel_rfl
theorem k_cv5_3:Zih Tryz.prog 5 3 .u8 .i64:=fun _ _=>by kernel_rfl
theorem Z6n:Elem Tryz.prog 192 9 1 16 (Value.string (Zv [])):=⟨Tryz.underlying192,by kernel_rfl,rfl,by decide⟩
theorem Z0d:Elem Tryz.prog 31 155 1 8 (Value.int IntKind.u64 0):=⟨Tryz.underlying31,by kernel_rfl,rfl,by decide⟩
theorem Z2l:Z9 Tryz.prog 100:=fun _ _=>by kernel_rfl
theorem ZRe:Z9 Tryz.prog 102:=fun _ _=>by kernel_rfl
theorem ZMn:Z9 Tryz.prog 125:=fun _ _=>by kernel_rfl
theorem k_en126:Z9 Tryz.prog 126:=fun _ _=>by kernel_rfl
theorem k_en127:Z9 Tryz.prog 127:=fun _ _=>by kernel_rfl
theorem k_en128:Z9 Tryz.prog 128:=fun _ _=>by kernel_rfl
theorem k_en129:Z9 Tryz.prog 129:=fun _ _=>by kernel_rfl
theorem ZZp:Z9 Tryz.prog 143:=fun _ _=>by kernel_rfl
theorem Zyo:Z9 Tryz.prog 144:=fun _ _=>by kernel_rfl
theorem k_en145:Z9 Tryz.prog 145:=fun _ _=>by kernel_rfl
theorem k_en146:Z9 Tryz.prog 146:=fun _ _=>by kernel_rfl
theorem Zsp:Z9 Tryz.prog 171:=fun _ _=>by kernel_rfl
theorem k_en182:Z9 Tryz.prog 182:=fun _ _=>by kernel_rfl
theorem k_en183:Z9 Tryz.prog 183:=fun _ _=>by kernel_rfl
theorem Zgn:Z9 Tryz.prog 55:=fun _ _=>by kernel_rfl
theorem k_en93:Z9 Tryz.prog 93:=fun _ _=>by kernel_rfl
theorem Z5o:Zje Tryz.prog 101 add64Entry:=⟨_,Tryz.func101,by kernel_rfl,by kernel_rfl,by kernel_rfl,by kernel_rfl⟩
theorem ZOu:Zje Tryz.prog 147 Zpi:=⟨_,Tryz.func147,by kernel_rfl,by kernel_rfl,by kernel_rfl,by kernel_rfl⟩
theorem ZIe:Tryz.prog.follows .mixedOrders=true:=by kernel_rfl
theorem ZEl:ZQc Tryz.prog 192 9 1:=⟨fun _=>by kernel_rfl,fun _=>by kernel_rfl⟩
theorem Zz:ZQc Tryz.prog 31 155 1:=⟨fun _=>by kernel_rfl,fun _=>by kernel_rfl⟩
theorem Z1:Sized Tryz.prog 155 1 false:=⟨fun _=>by kernel_rfl,fun _=>by kernel_rfl⟩
theorem k_sz5:Sized Tryz.prog 5 1 false:=⟨fun _=>by kernel_rfl,fun _=>by kernel_rfl⟩
theorem k_sz9:Sized Tryz.prog 9 1 false:=⟨fun _=>by kernel_rfl,fun _=>by kernel_rfl⟩
theorem k_zv200:∀ w,(zeroValue 200).run Tryz.prog w = .ok (Value.agg #[Value.pointer none,Value.slice none 0 0]) w:=fun _=>by kernel_rfl
theorem k_zv238:∀ w,(zeroValue 238).run Tryz.prog w = .ok (Value.agg #[Value.int IntKind.u8 0,Value.int IntKind.u8 0,Value.int IntKind.u8 0,Value.int IntKind.u8 0,Value.int IntKind.u8 0,Value.int IntKind.u8 0,Value.int IntKind.u8 0,Value.int IntKind.u8 0,Value.int IntKind.u8 0,Value.int IntKind.u8 0,Value.int IntKind.u8 0,Value.int IntKind.u8 0,Value.int IntKind.u8 0,Value.int IntKind.u8 0,Value.int IntKind.u8 0,Value.int IntKind.u8 0,Value.int IntKind.u8 0,Value.int IntKind.u8 0,Value.int IntKind.u8 0,Value.int IntKind.u8 0]) w:=fun _=>by kernel_rfl
theorem cut_w {e:World} {d:Zb} (hv:VIn d e) {E:List Value} {a:(List Int)} (F:Rep.rel (ZA (Zd .u64)) d E a) {z:(List Int)} (H:Zzh a=some z):Ret Tryz.prog 102 #[(ZA (Zd .u64)).val E] e d (fun y v'=>∃ G,y=(ZA (Zd .u64)).val G∧(ZA (Zd .u64)).rel v' G z):=by
 obtain ⟨M,N,O,rfl⟩:=ZRk F;refine Zwb (K:=21) (args:=[.slice M N O]) hv Tryz.func102 rfl rfl zl fun f S=>?_;unfold Zzh at H;refine sr ?_;have S:=S.nilLoc 155 1;refine ov S rfl (Z5c S (y:=.slice (mkA none) 0 0) rfl) fun f S=>oe (Zj fun _ P=>?_);obtain ⟨Q,R,T⟩:=ZE H;refine Zma (fun f w=>∃ B j k l m,B=Q∧Zb.le d m∧St 21 e d [(0,.slice j k l)] [] m f w∧Rep.rel (ZA (Zd .u64)) m [.slice j k l] B) (fun _ U=>?_) ?_
 ·have H:=R;refine wp_block ?_;obtain ⟨am,V,W⟩:=ZE H;have S:=S.reorder (ℓ':=[]) [] rfl (by decide);refine Zeb V (fun X f w=>∃ n o q s g,n=X∧Zb.le d g∧St 21 e d [(0,.slice o q s)] [] g f w∧Rep.rel (ZA (Zd .u64)) g [.slice o q s] n) ⟨_,_,_,_,_,rfl,(leR _),(S.fr' rfl),F⟩ ?_;rintro _ f w st ⟨n,o,q,s,g,hq,I,S,c⟩ H an Y Z;subst hq;refine Zj fun _ aa=>Zj fun _ ab=>?_;obtain ⟨ac,ad,ae⟩:=ZE H;refine Zma (fun f w=>∃ u C,u=ac∧Zb.le g C∧St 21 e d [(0,.slice o q s),(14,.bool u)] [] C f w) (fun _ J=>?_) ?_
  ·have H:=ad;refine Zr (mv S rfl fun f S=>ov S rfl (Z7 S (ZG c) rfl rfl Zz) fun f S=>ov S rfl (Ze S rfl rfl ZNc) fun f S=>mv S rfl fun f S=>?_);rcases ZJ (decide ((0:Int)<(n.length:Int))) with h | h
   ·have H:=ZI H h;have S:=S.bool (t:=6) rfl h;refine bO H fun ao af H=>bO H fun ap D H=>opy S rfl rfl rfl rfl (Zx S rfl) fun f S=>opy S rfl rfl rfl rfl (Zx S rfl) fun f S=>opy S rfl rfl rfl rfl (Z7 S (ZG c) rfl rfl Zz) fun f S=>opy S rfl rfl rfl rfl (Ze S rfl rfl (Zpa af)) fun f S=>?_;obtain ⟨_,aq,ar,au,rfl,ag,ah⟩:=ZRa c (Zg D).2.1;obtain ⟨rfl,av⟩:=ah;refine opy S rfl rfl rfl rfl (ZL S rfl rfl Zz (Zg D).1 (ltI (ZG c) (Zg D).2.2.1)) fun f S=>opy S rfl rfl rfl rfl (Zca S rfl Z1 (S.view ag)) fun f S=>opy S rfl rfl rfl rfl (Ze S rfl rfl ZCd) fun f S=>ov S rfl (Zcb S (b:=true) rfl rfl) fun f S=>Zn ?_;obtain rfl:=Zl H;refine Zf (J _ _ ⟨_,_,rfl,(leR _),(S.fr' rfl)⟩)
   have H:=ZH H h;have S:=S.bool (t:=6) rfl h;refine opn S rfl rfl rfl rfl fun f S=>opn S rfl rfl rfl rfl fun f S=>opn S rfl rfl rfl rfl fun f S=>opn S rfl rfl rfl rfl fun f S=>opn S rfl rfl rfl rfl fun f S=>opn S rfl rfl rfl rfl fun f S=>opn S rfl rfl rfl rfl fun f S=>ov S rfl (Zcb S (b:=false) rfl rfl) fun f S=>Zn ?_;obtain rfl:=Zl H;refine Zf (J _ _ ⟨_,_,rfl,(leR _),(S.fr' rfl)⟩)
  rintro f w ⟨u,C,hq,v,S⟩;subst hq;have H:=ae;refine Zf (ab _ _ ?_);rcases ZJ (u) with i | i
  ·have H:=ZI H i;refine ZM S rfl i (wp_skip (Zf (aa _ _ (wp_block (bO H fun ai aj H=>bO H fun aw x H=>Zr (mv S rfl fun f S=>mv S rfl fun f S=>?_))))));have c:=Z6 v c;refine ov S rfl (Z7 S (ZG c) rfl rfl Zz) fun f S=>ov S rfl (Ze S rfl rfl (Zpa aj)) fun f S=>?_;obtain ⟨ax,ay,ak,L⟩:=Zuq S (A:=(Zd .u64)) (p:=(0:Int)) (r:=ai) Zz c (ZRc x).1 (ZRc x).2.1 (ZRc x).2.2.1;rw [← (ZRc x).2.2.2.1] at L;refine ov S rfl (ak rfl (.inl ⟨rfl,rfl⟩) (.inr ⟨_,_,rfl,rfl⟩)) fun f S=>mw S rfl fun f S=>Zn (Z7a ?_);obtain rfl:=Zl H;refine Y _ rfl _ _ ⟨_,_,_,_,_,rfl,(leT I v),(S.fr' rfl),L⟩
  have H:=ZH H i;refine ZK S rfl i (wp_exit (ZV ?_));obtain rfl:=Zl H;have hq:=Z _ rfl;subst hq;have H:=W;refine ZV (ZVa ?_);obtain rfl:=Zl H;have c:=Z6 v c;refine Zf (U _ _ ⟨_,_,_,_,_,rfl,(leT (leT (leR _) I) v),(S.fr' rfl),c⟩)
 rintro f w ⟨B,j,k,l,m,hq,az,S,al⟩;subst hq;have H:=T;refine Zf (P _ _ (sr (mv S rfl fun f S=>mw S rfl fun f S=>oe (wp_ret ?_))));obtain rfl:=Zl H;refine Zwa S (ZCa rfl (ZO S rfl)) ⟨[.slice j k l],rfl,al⟩
theorem ZJe {d:World} {b:Zb} (hv:VIn b d) {e:List Value} {a:(List Int)} (c:Rep.rel (ZA (Zd .u64)) b e a) {z:Nat} (hm:Zxa a=some z) :
  Ret Tryz.prog 102 #[(ZA (Zd .u64)).val e] d b (fun y v'=>∃ f,y=Zu.val f∧Zu.rel v' f z) :=
 by cases hm;exact cut_w hv c (Z1p (ZNh c).1 (ZNh c).2)
theorem len64_w {b:World} {a:Zb} (hv:VIn a b) {q:List Value} {x:Int} (J:Rep.rel (Zd .u64) a q x) {z:Int} (H:Zrh x=some z):Ret Tryz.prog 182 #[(Zd .u64).val q] b a (fun y v'=>∃ r,y=(Zd .i64).val r∧(Zd .i64).rel v' r z):=by
 obtain ⟨rfl,s⟩:=J;refine Zwb (K:=25) (args:=[.int .u64 x]) hv Tryz.func182 rfl rfl zl fun f S=>?_;unfold Zrh at H;refine sr (mw S rfl fun f S=>oe (Zj fun _ L=>sr (mv S rfl fun f S=>ov S rfl (Ze S rfl rfl Z0b) fun f S=>oe ?_)));obtain ⟨M,N,O⟩:=ZE H;refine Zma (fun f w=>∃ c i j,(c,i)=M∧Zb.le a j∧St 25 b a [(0,.int .u64 c),(2,.int .i64 i)] [] j f w∧inR .u64 c∧inR .i64 i) (fun _ t=>?_) ?_
 ·have H:=N;rcases ZJ (decide ((4294967296:Int)≤x)) with d | d
  ·have H:=ZI H d;refine ZM S rfl d (Zj fun _ P=>bO H fun ag u H=>Zr (mv S rfl fun f S=>ov S rfl (Ze S rfl rfl (Zsb u)) fun f S=>mw S rfl fun f S=>Zn (Zf (P _ _ (Zr (mw S rfl fun f S=>Zn ?_))))));obtain rfl:=Zl H;refine Zf (t _ _ ⟨_,_,_,rfl,(leR _),(S.fr' rfl),(Z2e s u),(by decide)⟩)
  have H:=ZH H d;refine ZK S rfl d (wp_skip ?_);obtain rfl:=Zl H;refine Zf (t _ _ ⟨_,_,_,rfl,(leR _),(S.fr' rfl),s,(by decide)⟩)
 rintro f w ⟨c,i,j,hq,ah,S,v,Q⟩;subst hq;have H:=O;refine Zf (L _ _ (Zj fun _ R=>sr (mv S rfl fun f S=>ov S rfl (Ze S rfl rfl Z0b) fun f S=>oe ?_)));obtain ⟨T,U,V⟩:=ZE H;refine Zma (fun f w=>∃ e k m,(e,k)=T∧Zb.le j m∧St 25 b a [(0,.int .u64 e),(2,.int .i64 k)] [] m f w∧inR .u64 e∧inR .i64 k) (fun _ A=>?_) ?_
 ·have H:=U;rcases ZJ (decide ((65536:Int)≤c)) with g | g
  ·have H:=ZI H g;refine ZM S rfl g (Zj fun _ W=>bO H fun ai B H=>Zr (mv S rfl fun f S=>ov S rfl (Ze S rfl rfl (Zsb B)) fun f S=>mw S rfl fun f S=>Zn (Zf (W _ _ (bO H fun aj C H=>Zr (mv S rfl fun f S=>ov S rfl (Ze S rfl rfl (ZFa C)) fun f S=>mw S rfl fun f S=>?_))))));refine Zn ?_;obtain rfl:=Zl H;refine Zf (A _ _ ⟨_,_,_,rfl,(leR _),(S.fr' rfl),(Z2e v B),(Zka C).2⟩)
  have H:=ZH H g;refine ZK S rfl g (wp_skip ?_);obtain rfl:=Zl H;refine Zf (A _ _ ⟨_,_,_,rfl,(leR _),(S.fr' rfl),v,Q⟩)
 rintro f w ⟨e,k,m,hq,ak,S,D,X⟩;subst hq;have H:=V;refine Zf (R _ _ (Zj fun _ Y=>sr (mv S rfl fun f S=>ov S rfl (Ze S rfl rfl Z0b) fun f S=>oe ?_)));obtain ⟨Z,aa,ab⟩:=ZE H;refine Zma (fun f w=>∃ n o p,(n,o)=Z∧Zb.le m p∧St 25 b a [(0,.int .u64 n),(2,.int .i64 o)] [] p f w∧inR .u64 n∧inR .i64 o) (fun _ E=>?_) ?_
 ·have H:=aa;rcases ZJ (decide ((256:Int)≤e)) with h | h
  ·have H:=ZI H h;refine ZM S rfl h (Zj fun _ ac=>bO H fun al F H=>Zr (mv S rfl fun f S=>ov S rfl (Ze S rfl rfl (Zsb F)) fun f S=>mw S rfl fun f S=>Zn (Zf (ac _ _ (bO H fun am G H=>Zr (mv S rfl fun f S=>ov S rfl (Ze S rfl rfl (ZFa G)) fun f S=>mw S rfl fun f S=>?_))))));refine Zn ?_;obtain rfl:=Zl H;refine Zf (E _ _ ⟨_,_,_,rfl,(leR _),(S.fr' rfl),(Z2e D F),(Zka G).2⟩)
  have H:=ZH H h;refine ZK S rfl h (wp_skip ?_);obtain rfl:=Zl H;refine Zf (E _ _ ⟨_,_,_,rfl,(leR _),(S.fr' rfl),D,X⟩)
 rintro f w ⟨n,o,p,hq,an,S,ao,ap⟩;subst hq;have H:=ab;refine Zf (Y _ _ (Zj fun _ ad=>bO H fun aq ae H=>bO H fun af I H=>Zr (mv S rfl fun f S=>mv S rfl fun f S=>ov S rfl (Znd S rfl (Znq _)) fun f S=>ov S rfl (Zco S (l:=([0,1,2,2,3,3,3,3,4,4,4,4,4,4,4,4,5,5,5,5,5,5,5,5,5,5,5,5,5,5,5,5,6,6,6,6,6,6,6,6,6,6,6,6,6,6,6,6,6,6,6,6,6,6,6,6,6,6,6,6,6,6,6,6,7,7,7,7,7,7,7,7,7,7,7,7,7,7,7,7,7,7,7,7,7,7,7,7,7,7,7,7,7,7,7,7,7,7,7,7,7,7,7,7,7,7,7,7,7,7,7,7,7,7,7,7,7,7,7,7,7,7,7,7,7,7,7,7,8,8,8,8,8,8,8,8,8,8,8,8,8,8,8,8,8,8,8,8,8,8,8,8,8,8,8,8,8,8,8,8,8,8,8,8,8,8,8,8,8,8,8,8,8,8,8,8,8,8,8,8,8,8,8,8,8,8,8,8,8,8,8,8,8,8,8,8,8,8,8,8,8,8,8,8,8,8,8,8,8,8,8,8,8,8,8,8,8,8,8,8,8,8,8,8,8,8,8,8,8,8,8,8,8,8,8,8,8,8,8,8,8,8,8,8,8,8,8,8,8,8,8,8,8,8,8,8]:List UInt8)) (by kernel_rfl) rfl Tryz.underlying9 ae) fun f S=>ov S rfl (Znd S rfl (k_cv5_3 _)) fun f S=>ov S rfl (Ze S rfl rfl (ZFa I)) fun f S=>mw S rfl fun f S=>Zn (Zf (ad _ _ ?_)))));refine wp_ret ?_;obtain rfl:=Zl H;refine Zwa S (ZCa rfl (ZO S rfl)) ⟨[.int .i64 af],rfl,(ZB (Zka I).2)⟩
theorem len64_c {b:World} {a:Zb} (hv:VIn a b) {c:List Value} {x:Int} (e:Rep.rel (Zd .u64) a c x) {z:Int} (hm:Zth x=some z) :
  Ret Tryz.prog 182 #[(Zd .u64).val c] b a (fun y v'=>∃ d,y=(Zd .i64).val d∧(Zd .i64).rel v' d z) :=
 len64_w hv e (ZQq hm)
theorem lz64_w {b:World} {a:Zb} (hv:VIn a b) {c:List Value} {x:Int} (g:Rep.rel (Zd .u64) a c x) {z:Int} (H:Zbk x=some z):Ret Tryz.prog 143 #[(Zd .u64).val c] b a (fun y v'=>∃ d,y=(Zd .i64).val d∧(Zd .i64).rel v' d z):=by
 obtain ⟨rfl,h⟩:=g;refine Zwb (K:=6) (args:=[.int .u64 x]) hv Tryz.func143 rfl rfl zl fun f S=>?_;unfold Zbk at H;refine sr (mw S rfl fun f S=>oe (Zj fun _ i=>bO H fun m j H=>bO H fun k e H=>Zr (mv S rfl fun f S=>opc S rfl (Z3 S [.int .u64 x] k_en182 rfl rfl) (len64_c S.vin (show Rep.rel (Zd .u64) _ [.int .u64 x] x from (ZB h)) j) ?_)));rintro _ n f w o ⟨p,rfl,l⟩ S;obtain ⟨rfl,q⟩:=l;refine ov S rfl (Ze S rfl rfl (Zpa e)) fun f S=>mw S rfl fun f S=>Zn (Zf (i _ _ (wp_ret ?_)));obtain rfl:=Zl H;refine Zwa S (ZCa rfl (ZO S rfl)) ⟨[.int .i64 k],rfl,(ZB (Zka e).2)⟩
theorem ZHn {b:World} {a:Zb} (hv:VIn a b) {c:List Value} {x:Int} (e:Rep.rel (Zd .u64) a c x) {z:Int} (hm:Z4d x=some z) :
  Ret Tryz.prog 143 #[(Zd .u64).val c] b a (fun y v'=>∃ d,y=(Zd .i64).val d∧(Zd .i64).rel v' d z) :=
 lz64_w hv e (ZRr hm)
theorem div64_w {e:World} {c:Zb} (hv:VIn c e) {X:List Value} {hi:Int} (p0:Rep.rel (Zd .u64) c X hi) {Y:List Value} {lo:Int} (p1:Rep.rel (Zd .u64) c Y lo) {Z:List Value} {y:Int} (p2:Rep.rel (Zd .u64) c Z y) {z:Int×Int} (H:ZSh hi lo y=some z):Ret Tryz.prog 171 #[(Zd .u64).val X,(Zd .u64).val Y,(Zd .u64).val Z] e c (fun y v'=>∃ r0 M,y = .tuple #[(Zd .u64).val r0,(Zd .u64).val M]∧(Zd .u64).rel v' r0 z.1∧(Zd .u64).rel v' M z.2):=by
 obtain ⟨rfl,M⟩:=p0;obtain ⟨rfl,r2⟩:=p1;obtain ⟨rfl,r3⟩:=p2;refine Zwb (K:=135) (args:=[.int .u64 hi,.int .u64 lo,.int .u64 y]) hv Tryz.func171 rfl rfl zl fun f S=>?_;unfold ZSh at H;refine sr (mw S rfl fun f S=>mw S rfl fun f S=>oe (Zj fun _ an=>sr (mv S rfl fun f S=>ov S rfl (Ze S rfl rfl ZCd) fun f S=>oe ?_)));rcases ZJ (y==(0:Int)) with q | q
 ·have H:=ZI H q;refine ZM S rfl q ?_
  cases H
 have H:=ZH H q;refine ZK S rfl q (wp_skip (Zf (an _ _ (Zj fun _ ao=>sr (mv S rfl fun f S=>mv S rfl fun f S=>ov S rfl (Ze S rfl rfl Zfm) fun f S=>oe ?_)))));rcases ZJ (decide (y≤hi)) with r | r
 ·have H:=ZI H r;refine ZM S rfl r ?_
  cases H
 have H:=ZH H r;refine ZK S rfl r (wp_skip (Zf (ao _ _ (Zj fun _ ap=>sr (mv S rfl fun f S=>ov S rfl (Ze S rfl rfl ZCd) fun f S=>oe ?_)))));rcases ZJ (hi==(0:Int)) with s | s
 ·have H:=ZI H s;refine ZM S rfl s (Zj fun _ aq=>bO H fun ar aa H=>bO H fun au N H=>Zsd (fl:=#[true,true,true,true,true,true,false,false]) ZIe (by kernel_rfl) S ?_);intro ops O F w S;refine rfa O F 0 rfl rfl S (Zx S rfl) fun f S=>rfa O F 1 rfl rfl S (Zx S rfl) fun f S=>rfa O F 2 rfl rfl S (Ze S rfl rfl (ZWb aa)) fun f S=>rfa O F 3 rfl rfl S (Zx S rfl) fun f S=>rfa O F 4 rfl rfl S (Zx S rfl) fun f S=>rfa O F 5 rfl rfl S (Ze S rfl rfl (ZCe N)) fun f S=>go1 O F 6 (nva [0,1,2] [3,4,5] O rfl rfl S (Z5c S rfl) fun f S=>⟨(py S rfl rfl (Zx S rfl) (py S rfl rfl (Zx S rfl) (py S rfl rfl (Ze S rfl rfl (ZCe N)) ZYb))),go1 O F 7 (nva [0,1,2,3,4,5,6] [] O rfl rfl S (Z5c S rfl) fun f S=>⟨ZYb,Zte O F (Zf (aq _ _ ?_))⟩)⟩);refine wp_ret (ZJa ?_);obtain rfl:=Zl H;refine Zwa S (Zoe rfl (ZO S rfl) (ZO S rfl)) ⟨[.int .u64 ar],[.int .u64 au],rfl,(ZB (ZTh aa)),(ZB (Zqn r2 N))⟩
 have H:=ZH H s;refine ZK S rfl s (wp_skip (Zf (ap _ _ (Zj fun _ av=>bO H fun h aw H=>Zr (mv S rfl fun f S=>opc S rfl (Z3 S [.int .u64 y] ZZp rfl rfl) (ZHn S.vin (show Rep.rel (Zd .u64) _ [.int .u64 y] y from (ZB r3)) aw) ?_)))));rintro _ ab f w bd ⟨be,rfl,ax⟩ S;obtain ⟨rfl,bf⟩:=ax;refine ov S rfl (Znd S rfl (Zvq _)) fun f S=>mw S rfl fun f S=>Zn (Zf (av _ _ (Zj fun _ ay=>bO H fun a az H=>Zr (mv S rfl fun f S=>mv S rfl fun f S=>ov S rfl (Ze S rfl rfl (ZIf az)) fun f S=>mw S rfl fun f S=>Zn (Zf (ay _ _ (Zj fun _ aA=>?_)))))));refine bO H fun g aB H=>Zr (mv S rfl fun f S=>ov S rfl (Ze S rfl rfl (Zsb aB)) fun f S=>mw S rfl fun f S=>Zn (Zf (aA _ _ (sr (mv S rfl fun f S=>ov S rfl (Ze S rfl rfl ZHg) fun f S=>mw S rfl fun f S=>oe (Zj fun _ aC=>bO H fun i aD H=>?_))))));refine bO H fun j aE H=>Zr (mv S rfl fun f S=>mv S rfl fun f S=>ov S rfl (Ze S rfl rfl (ZIf aD)) fun f S=>mv S rfl fun f S=>mv S rfl fun f S=>ov S rfl (Ze S rfl rfl Zqd) fun f S=>ov S rfl (Ze S rfl rfl (Zsb aE)) fun f S=>ov S rfl (Ze S rfl rfl Zgj) fun f S=>mw S rfl fun f S=>Zn ?_);have S:=S.fr' (σ':=[(1,.int .u64 lo),(2,.int .u64 a),(8,.int .u64 (IntKind.u64.wrap h)),(9,.int .u64 g),(10,.int .u64 (ZS .u64 a (4294967295:Int))),(11,.int .u64 (orI .u64 i j))]) rfl
 refine Zf (aC _ _ (Zj fun _ aF=>bO H fun k aG H=>Zr (mv S rfl fun f S=>mv S rfl fun f S=>ov S rfl (Ze S rfl rfl (ZIf aG)) fun f S=>mw S rfl fun f S=>Zn (Zf (aF _ _ (Zj fun _ aH=>bO H fun l aI H=>Zr (mv S rfl fun f S=>?_)))))));refine ov S rfl (Ze S rfl rfl (Zsb aI)) fun f S=>mw S rfl fun f S=>Zn (Zf (aH _ _ (sr (mv S rfl fun f S=>ov S rfl (Ze S rfl rfl ZHg) fun f S=>mw S rfl fun f S=>oe (Zj fun _ aJ=>bO H fun bg ac H=>Zr (mv S rfl fun f S=>mv S rfl fun f S=>?_))))));refine ov S rfl (Ze S rfl rfl (ZWb ac)) fun f S=>mw S rfl fun f S=>Zn (Zf (aJ _ _ (sr (mv S rfl fun f S=>mv S rfl fun f S=>mv S rfl fun f S=>ov S rfl (Ze S rfl rfl Z8a) fun f S=>ov S rfl (Ze S rfl rfl Zqd) fun f S=>mw S rfl fun f S=>oe (Zj fun _ aK=>?_)))));obtain ⟨aL,aM,aN⟩:=ZE H;refine Zma (fun f w=>∃ d u,d=aL∧Zb.le ab u∧St 135 e c [(2,.int .u64 a),(8,.int .u64 (IntKind.u64.wrap h)),(9,.int .u64 g),(10,.int .u64 (ZS .u64 a (4294967295:Int))),(11,.int .u64 (orI .u64 i j)),(13,.int .u64 l),(14,.int .u64 (ZS .u64 k (4294967295:Int))),(15,.int .u64 d)] [] u f w∧inR .u64 d) (fun _ ad=>?_) ?_
 ·have H:=aM;refine wp_block ?_;obtain ⟨bh,aO,ae⟩:=ZE H;refine Zeb aO (fun aP f w=>∃ m n G,(m,n)=aP∧Zb.le ab G∧St 135 e c [(2,.int .u64 a),(8,.int .u64 (IntKind.u64.wrap h)),(9,.int .u64 g),(10,.int .u64 (ZS .u64 a (4294967295:Int))),(11,.int .u64 (orI .u64 i j)),(13,.int .u64 l),(14,.int .u64 (ZS .u64 k (4294967295:Int))),(15,.int .u64 m),(16,.int .u64 n)] [] G f w∧inR .u64 m∧inR .u64 n) ⟨_,_,_,rfl,(leR _),(S.fr' rfl),(ZTh ac),(Zga _ _)⟩ ?_;rintro _ f w st ⟨m,n,G,hq,P,S,aQ,bi⟩ H bj aR af;subst hq;refine Zj fun _ aS=>Zj fun _ aT=>?_;obtain ⟨aU,aV,aW⟩:=ZE H;refine Zma (fun f w=>∃ I Q,I=aU∧Zb.le G Q∧St 135 e c [(2,.int .u64 a),(8,.int .u64 (IntKind.u64.wrap h)),(9,.int .u64 g),(10,.int .u64 (ZS .u64 a (4294967295:Int))),(11,.int .u64 (orI .u64 i j)),(13,.int .u64 l),(14,.int .u64 (ZS .u64 k (4294967295:Int))),(15,.int .u64 m),(16,.int .u64 n),(78,.bool I)] [] Q f w) (fun _ ag=>?_) ?_
  ·have H:=aV;refine Zr (mv S rfl fun f S=>ov S rfl (Ze S rfl rfl Z0b) fun f S=>mv S rfl fun f S=>?_);rcases ZJ (decide ((4294967296:Int)≤m)) with v | v
   ·have H:=ZI H v;have S:=S.bool (t:=69) rfl v;refine opn S rfl rfl rfl rfl fun f S=>opn S rfl rfl rfl rfl fun f S=>opn S rfl rfl rfl rfl fun f S=>opn S rfl rfl rfl rfl fun f S=>opn S rfl rfl rfl rfl fun f S=>opn S rfl rfl rfl rfl fun f S=>opn S rfl rfl rfl rfl fun f S=>opn S rfl rfl rfl rfl fun f S=>ov S rfl (Zcb S (b:=true) rfl rfl) fun f S=>Zn ?_;obtain rfl:=Zl H;refine Zf (ag _ _ ⟨_,_,rfl,(leR _),(S.fr' rfl)⟩)
   have H:=ZH H v;have S:=S.bool (t:=69) rfl v;refine opy S rfl rfl rfl rfl (Zx S rfl) fun f S=>opy S rfl rfl rfl rfl (Zx S rfl) fun f S=>opy S rfl rfl rfl rfl (Ze S rfl rfl Z8a) fun f S=>opy S rfl rfl rfl rfl (Zx S rfl) fun f S=>opy S rfl rfl rfl rfl (Ze S rfl rfl Z8a) fun f S=>opy S rfl rfl rfl rfl (Zx S rfl) fun f S=>opy S rfl rfl rfl rfl (Ze S rfl rfl ZQb) fun f S=>opy S rfl rfl rfl rfl (Ze S rfl rfl ZNc) fun f S=>ov S rfl (Zcb S (b:=false) rfl rfl) fun f S=>Zn ?_;obtain rfl:=Zl H;refine Zf (ag _ _ ⟨_,_,rfl,(leR _),(S.fr' rfl)⟩)
  rintro f w ⟨I,Q,hq,R,S⟩;subst hq;have H:=aW;refine Zf (aT _ _ ?_);rcases ZJ (I) with x | x
  ·have H:=ZI H x;refine ZM S rfl x (wp_skip (Zf (aS _ _ (wp_block (sr (mv S rfl fun f S=>ov S rfl (Ze S rfl rfl Zqd) fun f S=>mw S rfl fun f S=>oe (sr (mv S rfl fun f S=>mv S rfl fun f S=>ov S rfl (Ze S rfl rfl ZQb) fun f S=>mw S rfl fun f S=>?_))))))));refine oe (sr (mv S rfl fun f S=>ov S rfl (Ze S rfl rfl Z0b) fun f S=>oe ?_));rcases ZJ (decide ((4294967296:Int)≤IntKind.u64.wrap (n+g))) with A | A
   ·have H:=ZI H A;refine ZM S rfl A (wp_exit (Z6i rfl ?_));obtain rfl:=Zl H;have hq:=af _ rfl;subst hq;have H:=ae;refine ZV (ZVa ?_);obtain rfl:=Zl H;refine Zf (ad _ _ ⟨_,_,rfl,(leT (leT (leR _) P) R),(S.fr' rfl),(Zga _ _)⟩)
   have H:=ZH H A;refine ZK S rfl A (wp_skip (Z7a ?_));obtain rfl:=Zl H;refine aR _ rfl _ _ ⟨_,_,_,rfl,(leT P R),(S.fr' rfl),(Zga _ _),(Zga _ _)⟩
  have H:=ZH H x;refine ZK S rfl x (wp_exit (ZV ?_));obtain rfl:=Zl H;have hq:=af _ rfl;subst hq;have H:=ae;refine ZV (ZVa ?_);obtain rfl:=Zl H;refine Zf (ad _ _ ⟨_,_,rfl,(leT (leT (leR _) P) R),(S.fr' rfl),aQ⟩)
 rintro f w ⟨d,u,hq,bk,S,bm⟩;subst hq;have H:=aN;refine Zf (aK _ _ (sr (mv S rfl fun f S=>ov S rfl (Ze S rfl rfl Z8a) fun f S=>mv S rfl fun f S=>ov S rfl (Ze S rfl rfl ZQb) fun f S=>mv S rfl fun f S=>mv S rfl fun f S=>ov S rfl (Ze S rfl rfl Z8a) fun f S=>ov S rfl (Ze S rfl rfl Zqd) fun f S=>mw S rfl fun f S=>oe (Zj fun _ aX=>bO H fun bn ah H=>?_))));refine Zr (mv S rfl fun f S=>mv S rfl fun f S=>ov S rfl (Ze S rfl rfl (ZWb ah)) fun f S=>mw S rfl fun f S=>Zn (Zf (aX _ _ (sr (mv S rfl fun f S=>mv S rfl fun f S=>mv S rfl fun f S=>ov S rfl (Ze S rfl rfl Z8a) fun f S=>ov S rfl (Ze S rfl rfl Zqd) fun f S=>mw S rfl fun f S=>?_)))));refine oe (Zj fun _ aY=>?_);obtain ⟨aZ,a0,a1⟩:=ZE H;refine Zma (fun f w=>∃ B T,B=aZ∧Zb.le u T∧St 135 e c [(2,.int .u64 a),(8,.int .u64 (IntKind.u64.wrap h)),(14,.int .u64 (ZS .u64 k (4294967295:Int))),(15,.int .u64 d),(17,.int .u64 (IntKind.u64.wrap ((IntKind.u64.wrap ((IntKind.u64.wrap ((orI .u64 i j)*(4294967296:Int)))+l))-(IntKind.u64.wrap (d*a))))),(18,.int .u64 B)] [] T f w∧inR .u64 B) (fun _ ai=>?_) ?_
 ·have H:=a0;refine wp_block ?_;obtain ⟨bo,a2,aj⟩:=ZE H;refine Zeb a2 (fun a3 f w=>∃ o p J,(o,p)=a3∧Zb.le u J∧St 135 e c [(2,.int .u64 a),(8,.int .u64 (IntKind.u64.wrap h)),(9,.int .u64 g),(10,.int .u64 (ZS .u64 a (4294967295:Int))),(14,.int .u64 (ZS .u64 k (4294967295:Int))),(15,.int .u64 d),(16,.int .u64 o),(17,.int .u64 (IntKind.u64.wrap ((IntKind.u64.wrap ((IntKind.u64.wrap ((orI .u64 i j)*(4294967296:Int)))+l))-(IntKind.u64.wrap (d*a))))),(18,.int .u64 p)] [] J f w∧inR .u64 o∧inR .u64 p) ⟨_,_,_,rfl,(leR _),(S.fr' rfl),(Zga _ _),(ZTh ah)⟩ ?_;rintro _ f w st ⟨o,p,J,hq,U,S,bp,a4⟩ H bq a5 ak;subst hq;refine Zj fun _ a6=>Zj fun _ a7=>?_;obtain ⟨a8,a9,ba⟩:=ZE H;refine Zma (fun f w=>∃ L V,L=a8∧Zb.le J V∧St 135 e c [(2,.int .u64 a),(8,.int .u64 (IntKind.u64.wrap h)),(9,.int .u64 g),(10,.int .u64 (ZS .u64 a (4294967295:Int))),(14,.int .u64 (ZS .u64 k (4294967295:Int))),(15,.int .u64 d),(16,.int .u64 o),(17,.int .u64 (IntKind.u64.wrap ((IntKind.u64.wrap ((IntKind.u64.wrap ((orI .u64 i j)*(4294967296:Int)))+l))-(IntKind.u64.wrap (d*a))))),(18,.int .u64 p),(113,.bool L)] [] V f w) (fun _ al=>?_) ?_
  ·have H:=a9;refine Zr (mv S rfl fun f S=>ov S rfl (Ze S rfl rfl Z0b) fun f S=>mv S rfl fun f S=>?_);rcases ZJ (decide ((4294967296:Int)≤p)) with C | C
   ·have H:=ZI H C;have S:=S.bool (t:=104) rfl C;refine opn S rfl rfl rfl rfl fun f S=>opn S rfl rfl rfl rfl fun f S=>opn S rfl rfl rfl rfl fun f S=>opn S rfl rfl rfl rfl fun f S=>opn S rfl rfl rfl rfl fun f S=>opn S rfl rfl rfl rfl fun f S=>opn S rfl rfl rfl rfl fun f S=>opn S rfl rfl rfl rfl fun f S=>ov S rfl (Zcb S (b:=true) rfl rfl) fun f S=>Zn ?_;obtain rfl:=Zl H;refine Zf (al _ _ ⟨_,_,rfl,(leR _),(S.fr' rfl)⟩)
   have H:=ZH H C;have S:=S.bool (t:=104) rfl C;refine opy S rfl rfl rfl rfl (Zx S rfl) fun f S=>opy S rfl rfl rfl rfl (Zx S rfl) fun f S=>opy S rfl rfl rfl rfl (Ze S rfl rfl Z8a) fun f S=>opy S rfl rfl rfl rfl (Zx S rfl) fun f S=>opy S rfl rfl rfl rfl (Ze S rfl rfl Z8a) fun f S=>opy S rfl rfl rfl rfl (Zx S rfl) fun f S=>opy S rfl rfl rfl rfl (Ze S rfl rfl ZQb) fun f S=>opy S rfl rfl rfl rfl (Ze S rfl rfl ZNc) fun f S=>ov S rfl (Zcb S (b:=false) rfl rfl) fun f S=>Zn ?_;obtain rfl:=Zl H;refine Zf (al _ _ ⟨_,_,rfl,(leR _),(S.fr' rfl)⟩)
  rintro f w ⟨L,V,hq,W,S⟩;subst hq;have H:=ba;refine Zf (a7 _ _ ?_);rcases ZJ (L) with D | D
  ·have H:=ZI H D;refine ZM S rfl D (wp_skip (Zf (a6 _ _ (wp_block (sr (mv S rfl fun f S=>ov S rfl (Ze S rfl rfl Zqd) fun f S=>mw S rfl fun f S=>oe (sr (mv S rfl fun f S=>mv S rfl fun f S=>ov S rfl (Ze S rfl rfl ZQb) fun f S=>mw S rfl fun f S=>?_))))))));refine oe (sr (mv S rfl fun f S=>ov S rfl (Ze S rfl rfl Z0b) fun f S=>oe ?_));rcases ZJ (decide ((4294967296:Int)≤IntKind.u64.wrap (o+g))) with E | E
   ·have H:=ZI H E;refine ZM S rfl E (wp_exit (Z6i rfl ?_));obtain rfl:=Zl H;have hq:=ak _ rfl;subst hq;have H:=aj;refine ZV (ZVa ?_);obtain rfl:=Zl H;refine Zf (ai _ _ ⟨_,_,rfl,(leT (leT (leR _) U) W),(S.fr' rfl),(Zga _ _)⟩)
   have H:=ZH H E;refine ZK S rfl E (wp_skip (Z7a ?_));obtain rfl:=Zl H;refine a5 _ rfl _ _ ⟨_,_,_,rfl,(leT U W),(S.fr' rfl),(Zga _ _),(Zga _ _)⟩
  have H:=ZH H D;refine ZK S rfl D (wp_exit (ZV ?_));obtain rfl:=Zl H;have hq:=ak _ rfl;subst hq;have H:=aj;refine ZV (ZVa ?_);obtain rfl:=Zl H;refine Zf (ai _ _ ⟨_,_,rfl,(leT (leT (leR _) U) W),(S.fr' rfl),a4⟩)
 rintro f w ⟨B,T,hq,br,S,bs⟩;subst hq;have H:=a1;refine Zf (aY _ _ (Zj fun _ bb=>bO H fun bc am H=>Zr (mv S rfl fun f S=>ov S rfl (Ze S rfl rfl Z8a) fun f S=>mv S rfl fun f S=>ov S rfl (Ze S rfl rfl ZQb) fun f S=>mv S rfl fun f S=>ov S rfl (Ze S rfl rfl Z8a) fun f S=>mv S rfl fun f S=>ov S rfl (Ze S rfl rfl ZQb) fun f S=>mv S rfl fun f S=>mv S rfl fun f S=>?_)));refine ov S rfl (Ze S rfl rfl Z8a) fun f S=>ov S rfl (Ze S rfl rfl Zqd) fun f S=>mv S rfl fun f S=>ov S rfl (Ze S rfl rfl (Zsb am)) fun f S=>mw S rfl fun f S=>mw S rfl fun f S=>Zn (Zf (bb _ _ (wp_ret ?_)));obtain rfl:=Zl H;refine Zwa S (Zoe rfl (ZO S rfl) (ZO S rfl)) ⟨[.int .u64 (IntKind.u64.wrap ((IntKind.u64.wrap (d*(4294967296:Int)))+B))],[.int .u64 bc],rfl,(ZB (Zga _ _)),(ZB (Z2e (Zga _ _) am))⟩
theorem ZKn {b:World} {a:Zb} (hv:VIn a b) {c:List Value} {hi:Int} (h:Rep.rel (Zd .u64) a c hi) {d:List Value} {lo:Int} (i:Rep.rel (Zd .u64) a d lo) {e:List Value} {y:Int} (j:Rep.rel (Zd .u64) a e y) {z:Int×Int} (hm:ZYc hi lo y=some z) :
  Ret Tryz.prog 171 #[(Zd .u64).val c,(Zd .u64).val d,(Zd .u64).val e] b a (fun y v'=>∃ f g,y=Value.tuple #[(Zd .u64).val f,(Zd .u64).val g]∧(Zd .u64).rel v' f z.1∧(Zd .u64).rel v' g z.2) :=
 div64_w hv h i j (Zgr hm)
theorem Zzr {E:World} {d:Zb} (hv:VIn d E) {R:List Value} {a:Nat} (g:Rep.rel Zu d R a) {T:List Value} {n:Int} (p1:Rep.rel (Zd .u64) d T n) {z:Nat×Int} (H:Z6g a n=some z):Ret Tryz.prog 125 #[Zu.val R,(Zd .u64).val T] E d (fun y v'=>∃ U V,y = .tuple #[Zu.val U,(Zd .u64).val V]∧Zu.rel v' U z.1∧(Zd .u64).rel v' V z.2):=by
 obtain ⟨W,X,Y,rfl⟩:=Zba g;obtain ⟨rfl,r4⟩:=p1;refine Zwb (K:=35) (args:=[.slice W X Y,.int .u64 n]) hv Tryz.func125 rfl rfl zl fun f S=>?_;unfold Z6g at H;refine sr (mw S rfl fun f S=>mw S rfl fun f S=>oe (Zj fun _ ah=>bO H fun y9 F H=>Zr (mv S rfl fun f S=>ov S rfl (Z7 S (ZG g) rfl rfl Zz) fun f S=>?_)));obtain ⟨Z,aa⟩:∃ c:List Value,c=(List.replicate ((((Zc 18446744073709551616 a)).length:Int)).toNat [.int .u64 0]).flatten:=⟨_,rfl⟩;obtain ⟨ai,w,aj,S⟩:=ZZh Z0d S (l:=(((Zc 18446744073709551616 a)).length:Int)) (c:=(((Zc 18446744073709551616 a)).length:Int)) (ZDa F).1 (ZDa F).2.1 (ZDa F).2.2.1 (ZDa F).2.2.2 aa;have ak:Rep.rels (Zd .u64) d Z (List.replicate ((((Zc 18446744073709551616 a)).length:Int)).toNat (0:Int)):=by rw [aa];exact Z7d (show Rep.rel (Zd .u64) _ [.int .u64 0] _ from (ZB (by decide))) _
 refine Zkb wn rfl zl (aj rfl rfl) S fun f S=>mw S rfl fun f S=>Zn (Zf (ah _ _ (sr (mw S rfl fun f S=>oe (Zj fun _ al=>Zj fun _ am=>bO H fun aV ab H=>Zr (mv S rfl fun f S=>ov S rfl (Z7 S (ZG g) rfl rfl Zz) fun f S=>ov S rfl (Ze S rfl rfl (Zpa ab)) fun f S=>?_))))));refine mw S rfl fun f S=>Zn (Zf (am _ _ ?_));obtain ⟨an,ao,ap⟩:=ZE H;refine Zma (fun f w=>∃ o s t p u L G,(o,s)=an∧Zb.le d G∧St 35 E d [(6,.slice (mkA t) p u),(7,.int .u64 s)] [Loc.own t 155 1 p u L] G f w∧Rep.rels (Zd .u64) G L o∧p=o.length∧inR .u64 s) (fun _ aq=>?_) ?_
 ·have H:=ao;refine wp_block ?_;obtain ⟨aW,ar,au⟩:=ZE H;refine Zeb ar (fun av f w=>∃ q h b I k v e J,(q,h,b)=av∧Zb.le d J∧St 35 E d [(0,.slice W X Y),(1,.int .u64 n),(6,.slice (mkA I) k v),(7,.int .u64 h),(8,.int .i64 b)] [Loc.own I 155 1 k v e] J f w∧Rep.rels (Zd .u64) J e q∧k=q.length∧inR .u64 h∧inR .i64 b) ⟨_,_,_,some ai,((((Zc 18446744073709551616 a)).length:Int)).toNat,((((Zc 18446744073709551616 a)).length:Int)).toNat,Z,_,rfl,(leR _),(S.fr' rfl),ak,(repN (x:=(0:Int))),(by decide),(Zka ab).2⟩ ?_;rintro _ f w st ⟨q,h,b,I,k,v,e,J,hq,M,S,B,C,ac,aX⟩ H aY aw ax;subst hq;refine Zj fun _ ay=>sr (mv S rfl fun f S=>ov S rfl (Ze S rfl rfl Z0b) fun f S=>oe ?_);rcases ZJ (decide ((0:Int)≤b)) with D | D
  ·have H:=ZI H D;refine ZM S rfl D (wp_skip (Zf (ay _ _ (Zj fun _ az=>wp_block (bO H fun N O H=>bO H fun m aA H=>bO H fun aZ r H=>Zr (mv S rfl fun f S=>mv S rfl fun f S=>mv S rfl fun f S=>mv S rfl fun f S=>mv S rfl fun f S=>?_))))));have g:=Z6 M g;obtain ⟨_,a0,a1,a2,rfl,P,aB⟩:=ZRa g (Zg O).2.1;obtain ⟨rfl,aC⟩:=aB;refine ov S rfl (ZL S rfl rfl Zz (Zg O).1 (ltI (ZG g) (Zg O).2.2.1)) fun f S=>ov S rfl (Zca S rfl Z1 (S.view P)) fun f S=>mv S rfl fun f S=>opc S rfl (Z3 S [.int .u64 h,.int .u64 N,.int .u64 n] Zsp rfl rfl) (ZKn S.vin (show Rep.rel (Zd .u64) _ [.int .u64 h] h from (ZB ac)) (show Rep.rel (Zd .u64) _ [.int .u64 N] N from (ZB aC)) (show Rep.rel (Zd .u64) _ [.int .u64 n] n from (ZB r4)) aA) ?_;rintro _ ad f w Q ⟨a3,a4,rfl,aD,aE⟩ S;have B:=ZQ Q B;have P:=Atm Q P;obtain ⟨rfl,aF⟩:=aD;obtain ⟨rfl,aG⟩:=aE;refine mv S rfl fun f S=>ov S rfl (Zna S rfl rfl) fun f S=>ov S rfl (Zna S rfl rfl) fun f S=>?_;obtain ⟨aH,rfl⟩:=ZGc S (j:=0) rfl (posN C (Zg r).2.2.2);have ae:=Zea B (Zg r).2.1;obtain ⟨a5,aI⟩:∃ c,(List.take (Zd .u64).n (List.drop ((b).toNat*(Zd .u64).n) e))=c:=⟨_,rfl⟩
   rw [aI] at ae;obtain ⟨rfl,a6⟩:=ae;refine ov S rfl (ZL S rfl rfl Zz (Zg r).1 (ltI C (Zg r).2.2.1)) fun f S=>?_;obtain ⟨w,aJ,S⟩:=Zrb S Z1 (off:=0+(b).toNat*1) (z:=.int .u64 (m.1)) (cs:=[.int .u64 (m.1)]) (Zib rfl) rfl (i:=0) rfl (Zid S (j:=0) rfl (ltN C (Zg r).2.2.2)) (by first | rfl | simp [plain]);have aK:Rep.rels (Zd .u64) ad (List.take (0+(b).toNat*1) e++[Value.int IntKind.u64 (m.1)]++List.drop (0+(b).toNat*1+1) e) (q.set (b).toNat m.1):=Zzc B (Zg r).2.2.2 (show Rep.rel (Zd .u64) ad [.int .u64 (m.1)] _ from (ZB aF)) rfl rfl;have aL:k=(q.set (b).toNat m.1).length:=Zkd C;refine ZAf wn rfl (aJ rfl rfl) (mw S rfl fun f S=>Zn (Z7a (Zf (az _ _ (bO H fun a7 af H=>Zr (mv S rfl fun f S=>ov S rfl (Ze S rfl rfl (Zpa af)) fun f S=>mw S rfl fun f S=>Zn ?_))))));obtain rfl:=Zl H;refine aw _ rfl _ _ ⟨_,_,_,some aH,k,v,(List.take (0+(b).toNat*1) e++[Value.int IntKind.u64 (m.1)]++List.drop (0+(b).toNat*1+1) e),_,rfl,(leT M Q),(S.fr' rfl),aK,aL,aG,(Zka af).2⟩
  have H:=ZH H D;refine ZK S rfl D (wp_exit (ZV ?_));obtain rfl:=Zl H;have hq:=ax _ rfl;subst hq;have H:=au;refine ZV (ZVa ?_);obtain rfl:=Zl H;refine Zf (aq _ _ ⟨_,_,I,k,v,e,_,rfl,(leT (leR _) M),(S.fr' rfl),B,C,ac⟩)
 rintro f w ⟨o,s,t,p,u,L,G,hq,a8,S,aM,aN,aO⟩;subst hq;have H:=ap;refine Zf (al _ _ (Zj fun _ aP=>bO H fun a9 aQ H=>Zr (mv S rfl fun f S=>?_)));obtain ⟨ba,bb,S,aR⟩:=S.pubSlice (i:=0) (A:=(Zd .u64)) (l:=o) (ℓ':=[]) rfl rfl aN aM rfl;refine opc S rfl (Z3 S [.slice (mkA t) p u] ZRe rfl rfl) (ZJe S.vin (show Rep.rel (ZA (Zd .u64)) _ [.slice (mkA t) p u] o from aR) aQ) ?_;rintro _ bc f w bd ⟨be,rfl,ag⟩ S;obtain ⟨aS,aT,aU,rfl⟩:=Zba ag;refine mv S rfl fun f S=>mw S rfl fun f S=>mw S rfl fun f S=>Zn (Zf (aP _ _ (wp_ret ?_)));obtain rfl:=Zl H;refine Zwa S (Zoe rfl (ZO S rfl) (ZO S rfl)) ⟨[.slice aS aT aU],[.int .u64 s],rfl,ag,(ZB aO)⟩
theorem ZGo {c:World} {b:Zb} (hv:VIn b c) {d:List Value} {a:Nat} (i:Rep.rel Zu b d a) {e:List Value} {n:Int} (f:Rep.rel (Zd .u64) b e n) {z:Nat×Int} (hm:ZKd a n=some z) :
  Ret Tryz.prog 125 #[Zu.val d,(Zd .u64).val e] c b (fun y v'=>∃ g h,y=Value.tuple #[Zu.val g,(Zd .u64).val h]∧Zu.rel v' g z.1∧(Zd .u64).rel v' h z.2) :=
 Zzr hv i f (Z4u f.2 hm)
theorem cmp_w {m:World} {e:Zb} (hv:VIn e m) {A:List Value} {a:(List Int)} (c:Rep.rel (ZA (Zd .u64)) e A a) {B:List Value} {b:(List Int)} (d:Rep.rel (ZA (Zd .u64)) e B b) {z:Int} (H:Z2g a b=some z):Ret Tryz.prog 55 #[(ZA (Zd .u64)).val A,(ZA (Zd .u64)).val B] m e (fun y v'=>∃ C,y=(Zd .i64).val C∧(Zd .i64).rel v' C z):=by
 obtain ⟨D,E,G,rfl⟩:=ZRk c;obtain ⟨I,J,L,rfl⟩:=ZRk d;refine Zwb (K:=41) (args:=[.slice D E G,.slice I J L]) hv Tryz.func55 rfl rfl zl fun f S=>?_;unfold Z2g at H;refine sr (mw S rfl fun f S=>oe (Zj fun _ P=>sr (mv S rfl fun f S=>ov S rfl (Z7 S (ZG c) rfl rfl Zz) fun f S=>mv S rfl fun f S=>ov S rfl (Z7 S (ZG d) rfl rfl Zz) fun f S=>ov S rfl (Ze S rfl rfl Zxn) fun f S=>oe ?_)));rcases ZJ (((a.length:Int)) != ((b.length:Int))) with g | g
 ·have H:=ZI H g;refine ZM S rfl g (Zj fun _ Q=>sr (mv S rfl fun f S=>ov S rfl (Z7 S (ZG c) rfl rfl Zz) fun f S=>mv S rfl fun f S=>ov S rfl (Z7 S (ZG d) rfl rfl Zz) fun f S=>ov S rfl (Ze S rfl rfl ZRb) fun f S=>oe ?_));rcases ZJ (decide ((a.length:Int)<(b.length:Int))) with h | h
  ·have H:=ZI H h;refine ZM S rfl h (sr (mw S rfl fun f S=>oe (wp_ret (ZJa (ZJa ?_)))));obtain rfl:=Zl H;refine Zwa S (ZCa rfl (ZO S rfl)) ⟨[.int .i64 (-1:Int)],rfl,(ZB (by decide))⟩
  have H:=ZH H h;refine ZK S rfl h (wp_skip (Zf (Q _ _ (sr (mw S rfl fun f S=>oe (wp_ret (ZJa ?_)))))));obtain rfl:=Zl H;refine Zwa S (ZCa rfl (ZO S rfl)) ⟨[.int .i64 1],rfl,(ZB (by decide))⟩
 have H:=ZH H g;refine ZK S rfl g (wp_skip (Zf (P _ _ (Zj fun _ R=>Zj fun _ T=>bO H fun ar M H=>Zr (mv S rfl fun f S=>ov S rfl (Z7 S (ZG c) rfl rfl Zz) fun f S=>ov S rfl (Ze S rfl rfl (Zpa M)) fun f S=>mw S rfl fun f S=>Zn (Zf (T _ _ ?_)))))));obtain ⟨U,V,o⟩:=ZE H;refine Zma (fun f w=>∃  (p:Zb),(.inl (()))=U∧Zb.le e p∧St 41 m e [] [] p f w) (fun _ W=>?_) ?_
 ·have H:=V;refine wp_block ?_;obtain ⟨au,X,q⟩:=ZE H;refine Zeb X (fun Y f w=>∃ i r,i=Y∧Zb.le e r∧St 41 m e [(0,.slice D E G),(1,.slice I J L),(5,.int .i64 i)] [] r f w∧inR .i64 i) ⟨_,_,rfl,(leR _),(S.fr' rfl),(Zka M).2⟩ ?_;rintro _ f w st ⟨i,r,hq,n,S,av⟩ H aw Z s;subst hq;refine Zj fun _ aa=>sr (mv S rfl fun f S=>ov S rfl (Ze S rfl rfl Z0b) fun f S=>oe ?_);rcases ZJ (decide ((0:Int)≤i)) with j | j
  ·have H:=ZI H j;refine ZM S rfl j (wp_skip (Zf (aa _ _ (Zj fun _ ab=>wp_block (Zj fun _ ac=>Zj fun _ ad=>bO H fun ae t H=>bO H fun af u H=>Zsd (fl:=#[true,true,true,true,true,true,true,true,true]) ZIe (by kernel_rfl) S ?_)))));intro ops O F w S;refine rfa O F 0 rfl rfl S (Zx S rfl) fun f S=>rfa O F 1 rfl rfl S (Zx S rfl) fun f S=>?_;have c:=Z6 n c;obtain ⟨_,ax,ay,az,rfl,ag,ah⟩:=ZRa c (Zg t).2.1;obtain ⟨rfl,aA⟩:=ah;refine rfa O F 2 rfl rfl S (ZL S rfl rfl Zz (Zg t).1 (ltI (ZG c) (Zg t).2.2.1)) fun f S=>rfa O F 3 rfl rfl S (Zca S rfl Z1 (S.view ag)) fun f S=>rfa O F 4 rfl rfl S (Zx S rfl) fun f S=>rfa O F 5 rfl rfl S (Zx S rfl) fun f S=>?_;have d:=Z6 n d;obtain ⟨_,aB,aC,aD,rfl,ai,aj⟩:=ZRa d (Zg u).2.1;obtain ⟨rfl,aE⟩:=aj;refine rfa O F 6 rfl rfl S (ZL S rfl rfl Zz (Zg u).1 (ltI (ZG d) (Zg u).2.2.1)) fun f S=>rfa O F 7 rfl rfl S (Zca S rfl Z1 (S.view ai)) fun f S=>rfa O F 8 rfl rfl S (Ze S rfl rfl ZRb) fun f S=>Zte O F (Zf (ad _ _ ?_));rcases ZJ (decide (ae<af)) with k | k
   ·have H:=ZI H k;refine ZM S rfl k (sr (mw S rfl fun f S=>oe (wp_ret (ZJa (ZGf (ZJa ?_))))));obtain rfl:=Zl H;have hq:=s _ rfl;subst hq;have H:=q;refine ZJa (ZGf ?_);obtain rfl:=Zl H;have H:=o;refine ZJa (ZJa ?_);obtain rfl:=Zl H;refine Zwa S (ZCa rfl (ZO S rfl)) ⟨[.int .i64 (-1:Int)],rfl,(ZB (by decide))⟩
   have H:=ZH H k;refine ZK S rfl k (wp_skip (Zf (ac _ _ (Zj fun _ ak=>bO H fun al v H=>bO H fun am x H=>Zsd (fl:=#[true,true,true,true,true,true,true,true,true]) ZIe (by kernel_rfl) S ?_))));intro ops O F w S;refine rfa O F 0 rfl rfl S (Zx S rfl) fun f S=>rfa O F 1 rfl rfl S (Zx S rfl) fun f S=>?_;obtain ⟨aF,an,ao⟩:=ZRf c (Zg v).2.1;obtain ⟨rfl,aG⟩:=ao;refine rfa O F 2 rfl rfl S (ZL S rfl rfl Zz (Zg v).1 (ltI (ZG c) (Zg v).2.2.1)) fun f S=>rfa O F 3 rfl rfl S (Zca S rfl Z1 (S.view an)) fun f S=>rfa O F 4 rfl rfl S (Zx S rfl) fun f S=>rfa O F 5 rfl rfl S (Zx S rfl) fun f S=>?_;obtain ⟨aH,ap,aq⟩:=ZRf d (Zg x).2.1;obtain ⟨rfl,aI⟩:=aq;refine rfa O F 6 rfl rfl S (ZL S rfl rfl Zz (Zg x).1 (ltI (ZG d) (Zg x).2.2.1)) fun f S=>rfa O F 7 rfl rfl S (Zca S rfl Z1 (S.view ap)) fun f S=>rfa O F 8 rfl rfl S (Ze S rfl rfl ZNc) fun f S=>Zte O F (Zf (ak _ _ ?_));rcases ZJ (decide (am<al)) with l | l
   ·have H:=ZI H l;refine ZM S rfl l (sr (mw S rfl fun f S=>oe (wp_ret (ZGf (ZJa ?_)))));obtain rfl:=Zl H;have hq:=s _ rfl;subst hq;have H:=q;refine ZJa (ZGf ?_);obtain rfl:=Zl H;have H:=o;refine ZJa (ZJa ?_);obtain rfl:=Zl H;refine Zwa S (ZCa rfl (ZO S rfl)) ⟨[.int .i64 1],rfl,(ZB (by decide))⟩
   have H:=ZH H l;refine ZK S rfl l (wp_skip (Z7a (Zf (ab _ _ (bO H fun aJ N H=>Zr (mv S rfl fun f S=>ov S rfl (Ze S rfl rfl (Zpa N)) fun f S=>mw S rfl fun f S=>Zn ?_))))));obtain rfl:=Zl H;refine Z _ rfl _ _ ⟨_,_,rfl,n,(S.fr' rfl),(Zka N).2⟩
  have H:=ZH H j;refine ZK S rfl j (wp_exit (ZV ?_));obtain rfl:=Zl H;have hq:=s _ rfl;subst hq;have H:=q;refine ZV (ZVa ?_);obtain rfl:=Zl H;refine Zf (W _ _ ⟨_,rfl,(leT (leR _) n),(S.fr' rfl)⟩)
 rintro f w ⟨p,hq,aK,S⟩;subst hq;have H:=o;refine Zf (R _ _ (sr (mw S rfl fun f S=>oe (wp_ret ?_))));obtain rfl:=Zl H;refine Zwa S (ZCa rfl (ZO S rfl)) ⟨[.int .i64 0],rfl,(ZB (by decide))⟩
theorem cmp_c {d:World} {c:Zb} (hv:VIn c d) {e:List Value} {a:Nat} (f:Rep.rel Zu c e a) {g:List Value} {b:Nat} (h:Rep.rel Zu c g b) {z:Int} (hm:ZKe a b=some z) :
  Ret Tryz.prog 55 #[Zu.val e,Zu.val g] d c (fun y v'=>∃ i,y=(Zd .i64).val i∧(Zd .i64).rel v' i z) :=
 cmp_w hv f h ((ZVo (ZRi f) (ZRi h)).trans hm)
theorem mul64_w {e:World} {a:Zb} (hv:VIn a e) {g:List Value} {x:Int} (l:Rep.rel (Zd .u64) a g x) {h:List Value} {y:Int} (m:Rep.rel (Zd .u64) a h y) {z:Int×Int} (H:Zfg x y=some z):Ret Tryz.prog 100 #[(Zd .u64).val g,(Zd .u64).val h] e a (fun y v'=>∃ i c,y = .tuple #[(Zd .u64).val i,(Zd .u64).val c]∧(Zd .u64).rel v' i z.1∧(Zd .u64).rel v' c z.2):=by
 obtain ⟨rfl,c⟩:=l;obtain ⟨rfl,B⟩:=m;refine Zwb (K:=51) (args:=[.int .u64 x,.int .u64 y]) hv Tryz.func100 rfl rfl zl fun f S=>?_;unfold Zfg at H;refine sr (mw S rfl fun f S=>mw S rfl fun f S=>oe (sr (mv S rfl fun f S=>ov S rfl (Ze S rfl rfl ZHg) fun f S=>mw S rfl fun f S=>oe (Zj fun _ n=>bO H fun b o H=>Zr (mv S rfl fun f S=>ov S rfl (Ze S rfl rfl (Zsb o)) fun f S=>?_)))));refine mw S rfl fun f S=>Zn (Zf (n _ _ (sr (mv S rfl fun f S=>ov S rfl (Ze S rfl rfl ZHg) fun f S=>mw S rfl fun f S=>oe (Zj fun _ p=>bO H fun d q H=>Zr (mv S rfl fun f S=>ov S rfl (Ze S rfl rfl (Zsb q)) fun f S=>mw S rfl fun f S=>?_))))));refine Zn (Zf (p _ _ (sr (mv S rfl fun f S=>mv S rfl fun f S=>ov S rfl (Ze S rfl rfl Z8a) fun f S=>mw S rfl fun f S=>oe (Zj fun _ r=>bO H fun s t H=>Zr (mv S rfl fun f S=>mv S rfl fun f S=>ov S rfl (Ze S rfl rfl Z8a) fun f S=>?_))))));refine mv S rfl fun f S=>ov S rfl (Ze S rfl rfl (Zsb t)) fun f S=>ov S rfl (Ze S rfl rfl ZQb) fun f S=>mw S rfl fun f S=>Zn ?_;have S:=S.fr' (σ':=[(0,.int .u64 x),(1,.int .u64 y),(6,.int .u64 (ZS .u64 x (4294967295:Int))),(7,.int .u64 b),(9,.int .u64 d),(11,.int .u64 (IntKind.u64.wrap ((IntKind.u64.wrap (b*(ZS .u64 y (4294967295:Int))))+s)))]) rfl;refine Zf (r _ _ (sr (mv S rfl fun f S=>ov S rfl (Ze S rfl rfl ZHg) fun f S=>mw S rfl fun f S=>oe (Zj fun _ u=>bO H fun j v H=>Zr (mv S rfl fun f S=>ov S rfl (Ze S rfl rfl (Zsb v)) fun f S=>mw S rfl fun f S=>Zn (Zf (u _ _ ?_)))))))
 refine sr (mv S rfl fun f S=>mv S rfl fun f S=>mv S rfl fun f S=>ov S rfl (Ze S rfl rfl Z8a) fun f S=>ov S rfl (Ze S rfl rfl ZQb) fun f S=>mw S rfl fun f S=>oe (Zj fun _ w=>bO H fun k A H=>Zr (mv S rfl fun f S=>mv S rfl fun f S=>ov S rfl (Ze S rfl rfl Z8a) fun f S=>?_)));refine mv S rfl fun f S=>ov S rfl (Ze S rfl rfl ZQb) fun f S=>mv S rfl fun f S=>ov S rfl (Ze S rfl rfl (Zsb A)) fun f S=>ov S rfl (Ze S rfl rfl ZQb) fun f S=>mw S rfl fun f S=>Zn (Zf (w _ _ (sr (mv S rfl fun f S=>mv S rfl fun f S=>ov S rfl (Ze S rfl rfl Z8a) fun f S=>mw S rfl fun f S=>?_))));have S:=S.fr' (σ':=[(4,.int .u64 (IntKind.u64.wrap ((IntKind.u64.wrap ((IntKind.u64.wrap (b*d))+j))+k))),(5,.int .u64 (IntKind.u64.wrap (x*y)))]) rfl;refine oe (wp_ret ?_);obtain rfl:=Zl H;refine Zwa S (Zoe rfl (ZO S rfl) (ZO S rfl)) ⟨[.int .u64 (IntKind.u64.wrap ((IntKind.u64.wrap ((IntKind.u64.wrap (b*d))+j))+k))],[.int .u64 (IntKind.u64.wrap (x*y))],rfl,(ZB (Zga _ _)),(ZB (Zga _ _))⟩
theorem Z1m {b:World} {a:Zb} (hv:VIn a b) {c:List Value} {x:Int} (g:Rep.rel (Zd .u64) a c x) {d:List Value} {y:Int} (h:Rep.rel (Zd .u64) a d y) {z:Int×Int} (hm:ZVb x y=some z) :
  Ret Tryz.prog 100 #[(Zd .u64).val c,(Zd .u64).val d] b a (fun y v'=>∃ e f,y=Value.tuple #[(Zd .u64).val e,(Zd .u64).val f]∧(Zd .u64).rel v' e z.1∧(Zd .u64).rel v' f z.2) :=
 mul64_w hv g h (Zjq hm)
theorem take_w {R:World} {o:Zb} (hv:VIn o R) {a off0 g C:Nat} {E:TypeId} {pre0 cs0 post0:List Value} {u:(List Int)} (bf:R.heap[a]? = some (.cells (pre0++cs0++post0).toArray E (0,0))) (aG:off0=pre0.length) (bg:o a=none) (au:g=u.length) (bh:g≤C∧C≤maxLen) (r:Rep.rels (Zd .u64) o cs0 u) {c1:List Value} {v:Nat} (D:Rep.rel Zu o c1 v) {c2:List Value} {q:Int} (p2:Rep.rel (Zd .u64) o c2 q) {z:Bool×(List Int)} (H:Z5g u v q=some z):RetL Tryz.prog 183 #[.slice (some ⟨a,off0,none⟩) g C,Zu.val c1,(Zd .u64).val c2] R o [a] (fun y v' w'=>(∃ r0,y=ZEc.val r0∧ZEc.rel v' r0 z.1)∧v' a=none∧∃ cs,w'.heap[a]? = some (.cells (pre0++cs++post0).toArray E (0,0))∧g=z.2.length∧Rep.rels (Zd .u64) v' cs z.2):=by
 obtain ⟨q1,V,W,rfl⟩:=Zba D;obtain ⟨rfl,r4⟩:=p2;refine ZBo (K:=79) (args:=[.slice (some ⟨a,off0,none⟩) (g) C,.slice q1 V W,.int .u64 q]) hv bf bg Tryz.func183 rfl rfl zl fun f S=>?_;unfold Z5g at H;refine sr (mw S rfl fun f S=>oe (Zj fun _ bi=>bO H fun J bj H=>bO H fun cF av H=>Zr (mv S rfl fun f S=>ov S rfl (Z7 S (ZG D) rfl rfl Zz) fun f S=>ov S rfl (Ze S rfl rfl (ZFa bj)) fun f S=>?_)));obtain ⟨aH,aQ⟩:∃ c:List Value,c=(List.replicate (J).toNat [.int .u64 0]).flatten:=⟨_,rfl⟩;obtain ⟨aR,w,bk,S⟩:=ZZh Z0d S (l:=J) (c:=J) (ZDa av).1 (ZDa av).2.1 (ZDa av).2.2.1 (ZDa av).2.2.2 aQ;have bm:Rep.rels (Zd .u64) o aH (List.replicate (J).toNat (0:Int)):=by rw [aQ];exact Z7d (show Rep.rel (Zd .u64) _ [.int .u64 0] _ from (ZB (by decide))) _
 refine Zkb wn rfl zl (bk rfl rfl) S fun f S=>mw S rfl fun f S=>Zn (Zf (bi _ _ (sr (mw S rfl fun f S=>oe (Zj fun _ bn=>sr (mv S rfl fun f S=>ov S rfl (Z7 S (ZG D) rfl rfl Zz) fun f S=>mv S rfl fun f S=>oe ?_))))));obtain ⟨bo,bp,bq⟩:=ZE H;refine Zma (fun f w=>∃ L b aI s G h X,(L,b)=bo∧Zb.le o X∧St 79 ⟨R,[a]⟩ o [(0,.slice (some ⟨a,off0,none⟩) (g) C),(1,.slice q1 V W),(7,.slice (mkA aI) s G),(8,.int .u64 b)] [Loc.box a E (pre0++cs0++post0),Loc.own aI 155 1 s G h] X f w∧Rep.rels (Zd .u64) X h L∧s=L.length∧inR .u64 b) (fun _ br=>?_) ?_
 ·have H:=bp;refine wp_block ?_;obtain ⟨cG,bs,bt⟩:=ZE H;have S:=S.reorder (ℓ':=[Loc.box a E (pre0++cs0++post0),Loc.own (some aR) 155 1 ((J).toNat) (J).toNat aH]) [1,0] rfl (by decide);refine Zeb bs (fun bu f w=>∃ Y ag m aw M Z I ax,(Y,ag,m)=bu∧Zb.le o ax∧St 79 ⟨R,[a]⟩ o [(0,.slice (some ⟨a,off0,none⟩) (g) C),(1,.slice q1 V W),(2,.int .u64 q),(7,.slice (mkA aw) M Z),(8,.int .u64 ag),(20,.slice q1 V W),(21,.int .i64 ((((Zc 18446744073709551616 v)).length:Int))),(22,.int .i64 m)] [Loc.box a E (pre0++cs0++post0),Loc.own aw 155 1 M Z I] ax f w∧Rep.rels (Zd .u64) ax I Y∧M=Y.length∧inR .u64 ag∧inR .i64 m) ⟨_,_,_,some aR,(J).toNat,(J).toNat,aH,_,rfl,(leR _),(S.fr' rfl),bm,(repN (x:=(0:Int))),(by decide),(by decide)⟩ ?_;rintro _ f w st ⟨Y,ag,m,aw,M,Z,I,ax,hq,ay,S,ah,ai,bv,cH⟩ H cI bw bx;subst hq;have r:=ZQ ay r;refine sr (ov S rfl (Ze S rfl rfl ZRb) fun f S=>oe (Zj fun _ bz=>?_));rcases ZJ (decide (m<(((Zc 18446744073709551616 v)).length:Int))) with aj | aj
  ·have H:=ZI H aj;refine ZM S rfl aj (wp_skip (Zf (bz _ _ (Zj fun _ bA=>wp_block (Zj fun _ bB=>bO H fun aJ aK H=>Zr (mv S rfl fun f S=>?_))))));have D:=Z6 ay D;obtain ⟨_,aS,aT,cJ,rfl,bC,bD⟩:=ZRa D (Zg aK).2.1;obtain ⟨rfl,bE⟩:=bD;refine ov S rfl (ZL S rfl rfl Zz (Zg aK).1 (ltI (ZG D) (Zg aK).2.2.1)) fun f S=>ov S rfl (Zca S rfl Z1 (S.view bC)) fun f S=>mw S rfl fun f S=>mw S rfl fun f S=>Zn (Zf (bB _ _ (Zj fun _ bG=>bO H fun aU bH H=>Zr (mv S rfl fun f S=>mv S rfl fun f S=>opc S rfl (Z3 S [.int .u64 aJ,.int .u64 q] Z2l rfl rfl) (Z1m S.vin (show Rep.rel (Zd .u64) _ [.int .u64 aJ] aJ from (ZB bE)) (show Rep.rel (Zd .u64) _ [.int .u64 q] q from (ZB r4)) bH) ?_))));rintro _ aV f w aL ⟨cK,cL,rfl,bI,bJ⟩ S;have r:=ZQ aL r;have ah:=ZQ aL ah;obtain ⟨rfl,cM⟩:=bI;obtain ⟨rfl,cN⟩:=bJ;refine mv S rfl fun f S=>ov S rfl (Zna S rfl rfl) fun f S=>ov S rfl (Zna S rfl rfl) fun f S=>mw S rfl fun f S=>mw S rfl fun f S=>Zn (Zf (bG _ _ (sr (mw S rfl fun f S=>oe (Zj fun _ bK=>bO H fun N aW H=>bO H fun cO aa H=>Zr ?_)))));refine mv S rfl fun f S=>mv S rfl fun f S=>mv S rfl fun f S=>mv S rfl fun f S=>ov S rfl (Z6h S [.int .u64 (aU.2),.int .u64 ag,.int .u64 0] (ZBm Z5o aW) rfl rfl) fun f S=>mv S rfl fun f S=>ov S rfl (Zna S rfl rfl) fun f S=>ov S rfl (Zna S rfl rfl) fun f S=>?_
   obtain ⟨aX,rfl⟩:=ZGc S (j:=1) rfl (posN ai (Zg aa).2.2.2);have aY:=Zea ah (Zg aa).2.1;obtain ⟨cP,bM⟩:∃ c,(List.take (Zd .u64).n (List.drop ((m).toNat*(Zd .u64).n) I))=c:=⟨_,rfl⟩;rw [bM] at aY;obtain ⟨rfl,cQ⟩:=aY;refine ov S rfl (ZL S rfl rfl Zz (Zg aa).1 (ltI ai (Zg aa).2.2.1)) fun f S=>?_;obtain ⟨w,bP,S⟩:=Zrb S Z1 (off:=0+(m).toNat*1) (z:=.int .u64 (N.1)) (cs:=[.int .u64 (N.1)]) (Zib rfl) rfl (i:=1) rfl (Zid S (j:=1) rfl (ltN ai (Zg aa).2.2.2)) (by first | rfl | simp [plain]);have bQ:Rep.rels (Zd .u64) aV (List.take (0+(m).toNat*1) I++[Value.int IntKind.u64 (N.1)]++List.drop (0+(m).toNat*1+1) I) (Y.set (m).toNat N.1):=Zzc ah (Zg aa).2.2.2 (show Rep.rel (Zd .u64) aV [.int .u64 (N.1)] _ from (ZB (ZQk aW))) rfl rfl;have bR:M=(Y.set (m).toNat N.1).length:=Zkd ai;refine ZAf wn rfl (bP rfl rfl) (mw S rfl fun f S=>Zn ?_);have S:=S.fr' (σ':=[(0,.slice (some ⟨a,off0,none⟩) (g) C),(1,.slice (some ⟨aS,aT,none⟩) V W),(2,.int .u64 q),(7,.slice (mkA (some aX)) (M) Z),(11,.int .u64 (aU.1)),(13,.int .u64 (N.2)),(20,.slice (some ⟨aS,aT,none⟩) V W),(21,.int .i64 ((((Zc 18446744073709551616 v)).length:Int))),(22,.int .i64 m)]) rfl
   refine Zf (bK _ _ (Zr (mv S rfl fun f S=>mv S rfl fun f S=>ov S rfl (Ze S rfl rfl ZQb) fun f S=>mw S rfl fun f S=>Zn (Z7a (Zf (bA _ _ (bO H fun cR aZ H=>Zr (ov S rfl (Ze S rfl rfl (ZFa aZ)) fun f S=>mv S rfl fun f S=>Zn ?_))))))));obtain rfl:=Zl H;refine bw _ rfl _ _ ⟨_,_,_,some aX,M,Z,(List.take (0+(m).toNat*1) I++[Value.int IntKind.u64 (N.1)]++List.drop (0+(m).toNat*1+1) I),_,rfl,(leT ay aL),(S.fr' rfl),bQ,bR,(Zga _ _),(Zka aZ).2⟩
  have H:=ZH H aj;refine ZK S rfl aj (wp_exit (ZV ?_));obtain rfl:=Zl H;have hq:=bx _ rfl;subst hq;have H:=bt;refine ZV (ZVa ?_);obtain rfl:=Zl H;refine Zf (br _ _ ⟨_,_,aw,M,Z,I,_,rfl,(leT (leR _) ay),(S.fr' rfl),ah,ai,bv⟩)
 rintro f w ⟨L,b,aI,s,G,h,X,hq,a0,S,a1,az,bS⟩;subst hq;have H:=bq;have r:=ZQ a0 r;refine Zf (bn _ _ (Zj fun _ bT=>bO H fun cS ab H=>Zr (mv S rfl fun f S=>mv S rfl fun f S=>?_)));have D:=Z6 a0 D;refine ov S rfl (Z7 S (ZG D) rfl rfl Zz) fun f S=>mv S rfl fun f S=>?_;obtain ⟨ac,rfl⟩:=ZGc S (j:=1) rfl (posN az (Zg ab).2.2.2);have a2:=Zea a1 (Zg ab).2.1;obtain ⟨cT,bU⟩:∃ c,(List.take (Zd .u64).n (List.drop (((((Zc 18446744073709551616 v)).length:Int)).toNat*(Zd .u64).n) h))=c:=⟨_,rfl⟩;rw [bU] at a2;obtain ⟨rfl,cU⟩:=a2;refine ov S rfl (ZL S rfl rfl Zz (Zg ab).1 (ltI az (Zg ab).2.2.1)) fun f S=>?_;obtain ⟨w,bV,S⟩:=Zrb S Z1 (off:=0+((((Zc 18446744073709551616 v)).length:Int)).toNat*1) (z:=.int .u64 b) (cs:=[.int .u64 b]) (Zib rfl) rfl (i:=1) rfl (Zid S (j:=1) rfl (ltN az (Zg ab).2.2.2)) (by first | rfl | simp [plain]);have p:Rep.rels (Zd .u64) X (List.take (0+((((Zc 18446744073709551616 v)).length:Int)).toNat*1) h++[Value.int IntKind.u64 (b)]++List.drop (0+((((Zc 18446744073709551616 v)).length:Int)).toNat*1+1) h) (L.set ((((Zc 18446744073709551616 v)).length:Int)).toNat b):=Zzc a1 (Zg ab).2.2.2 (show Rep.rel (Zd .u64) X [.int .u64 b] _ from (ZB bS)) rfl rfl
 have aM:s=(L.set ((((Zc 18446744073709551616 v)).length:Int)).toNat b).length:=Zkd az;refine ZAf wn rfl (bV rfl rfl) (Zn (Zf (bT _ _ (Zj fun _ bW=>Zj fun _ bX=>bO H fun cV bY H=>bO H fun cW bZ H=>bO H fun b1 b2 H=>Zr (mv S rfl fun f S=>?_)))));have p0s120:=r;have h69s120:=p;have b3:=S.vst.le;obtain ⟨cX,cY,a3,t,S,b4,b5,b6,T⟩:=S.lendSeg (i:=0) (A:=(Zd .u64)) (l:=u) (ℓ':=[Loc.own (some ac) 155 1 s G ((List.take (0+((((Zc 18446744073709551616 v)).length:Int)).toNat*1) h++[Value.int IntKind.u64 (b)]++List.drop (0+((((Zc 18446744073709551616 v)).length:Int)).toNat*1+1) h))]) rfl rfl aG r au bh;have p:=ZQ a3 p;refine opc S rfl (Z3 S [.slice (some ⟨a,off0,none⟩) (g) C] ZRe rfl rfl) (ZJe S.vin (show Rep.rel (ZA (Zd .u64)) _ [.slice (some ⟨a,off0,none⟩) (g) C] u from T) bY) ?_;rintro _ cZ f w aA ⟨c0,rfl,P⟩ S;have p:=ZQ aA p;have t:=aA _ _ t;obtain ⟨b7,b8,b9,rfl⟩:=Zba P;refine mv S rfl fun f S=>?_;have T:=Z6 aA T;have h128s137:=T;have h69s137:=p;have h133s137:=P;have h124s137:=t;have ca:=S.vst.le;obtain ⟨c3,c4,aB,ak,S,cb,cc,cd,ce⟩:=S.lendSlice (i:=0) (A:=(Zd .u64)) (l:=(L.set ((((Zc 18446744073709551616 v)).length:Int)).toNat b)) (ℓ':=[]) rfl rfl rfl p aM
 have t:=aB _ _ t;refine opc S rfl (Z3 S [.slice (mkA (some ac)) (s) G] ZRe rfl rfl) (ZJe S.vin (show Rep.rel (ZA (Zd .u64)) _ [.slice (mkA (some ac)) (s) G] ((L.set ((((Zc 18446744073709551616 v)).length:Int)).toNat b)) from ce) bZ) ?_;rintro _ c5 f w al ⟨c6,rfl,a4⟩ S;have t:=al _ _ t;have ak:=al _ _ ak;obtain ⟨cg,ch,ci,rfl⟩:=Zba a4;have P:=Z6 (leT aB al) P;refine opc S rfl (Z3 S [.slice b7 b8 b9,.slice cg ch ci] Zgn rfl rfl) (cmp_c S.vin P a4 b2) ?_;rintro _ c7 f w am ⟨c8,rfl,cj⟩ S;have t:=am _ _ t;have ak:=am _ _ ak;obtain ⟨rfl,c9⟩:=cj;refine ov S rfl (Ze S rfl rfl ZRb) fun f S=>Zn ?_;obtain ⟨da,an,S⟩:=S.takeBack (e:=Loc.own (some ac) 155 1 s G ((List.take (0+((((Zc 18446744073709551616 v)).length:Int)).toNat*1) h++[Value.int IntKind.u64 (b)]++List.drop (0+((((Zc 18446744073709551616 v)).length:Int)).toNat*1+1) h))) (leT (leT aB al) am) rfl ak cb cc ca cd;have T:=Z6 (leT (leT aB al) am) T;have T:=Z6 an h128s137;have p:=ZQ an h69s137;have P:=Z6 am P;have P:=Z6 an h133s137;have t:=an _ _ h124s137;obtain ⟨a5,a6,S⟩:=S.takeBack (e:=Loc.box a E (pre0++cs0++post0)) (leT (leT a3 aA) an) rfl t b4 b5 b3 b6;have r:=ZQ a6 p0s120
 have p:=ZQ a6 h69s120;refine Zf (bX _ _ ?_);rcases ZJ (decide (b1<(0:Int))) with ao | ao
 ·have H:=ZI H ao;refine ZM S rfl ao (sr (mw S rfl fun f S=>oe (wp_ret (ZJa ?_))));obtain rfl:=Zl H;refine Z8l S (ZCa rfl (ZO S rfl)) ⟨⟨[.bool false],rfl,Z8m⟩,(S.boxAt (j:=0) rfl).2,_,(S.boxAt (j:=0) rfl).1,au,r⟩
 have H:=ZH H ao;refine ZK S rfl ao (wp_skip (Zf (bW _ _ (sr (mw S rfl fun f S=>oe (Zj fun _ ck=>sr (mv S rfl fun f S=>ov S rfl (Z7 S au rfl rfl Zz) fun f S=>mv S rfl fun f S=>oe ?_)))))));obtain ⟨cl,cm,cn⟩:=ZE H;refine Zma (fun f w=>∃ aC aN aD,aC=cl∧Zb.le a5 aD∧St 79 ⟨R,[a]⟩ o [] [Loc.box a E (pre0++aN++post0)] aD f w∧Rep.rels (Zd .u64) aD aN aC∧g=aC.length) (fun _ co=>?_) ?_
 ·have H:=cm;refine wp_block ?_;obtain ⟨db,cp,cq⟩:=ZE H;refine Zeb cp (fun cr f w=>∃ ad ap d B ae,(ad,ap,d)=cr∧Zb.le a5 ae∧St 79 ⟨R,[a]⟩ o [(0,.slice (some ⟨a,off0,none⟩) (g) C),(7,.slice (mkA (some ac)) (s) G),(14,.int .u64 ap),(58,.int .i64 ((u.length:Int))),(59,.int .i64 d)] [Loc.box a E (pre0++B++post0),Loc.own (some ac) 155 1 s G ((List.take (0+((((Zc 18446744073709551616 v)).length:Int)).toNat*1) h++[Value.int IntKind.u64 (b)]++List.drop (0+((((Zc 18446744073709551616 v)).length:Int)).toNat*1+1) h))] ae f w∧Rep.rels (Zd .u64) ae B ad∧g=ad.length∧inR .u64 ap∧inR .i64 d) ⟨_,_,_,cs0,_,rfl,(leR _),(S.fr' rfl),r,au,(by decide),(by decide)⟩ ?_;rintro _ f w st ⟨ad,ap,d,B,ae,hq,aO,S,af,Q,dc,dd⟩ H de ct cu;subst hq;have p:=ZQ aO p;refine sr (ov S rfl (Ze S rfl rfl ZRb) fun f S=>oe (Zj fun _ cv=>?_));rcases ZJ (decide (d<(u.length:Int))) with aq | aq
  ·have H:=ZI H aq;refine ZM S rfl aq (wp_skip (Zf (cv _ _ (Zj fun _ cw=>wp_block (sr (mv S rfl fun f S=>mw S rfl fun f S=>oe (bO H fun a7 aE H=>bO H fun a8 aF H=>bO H fun U aP H=>bO H fun df ar H=>Zsd (fl:=#[true,true,true,true,true,true,true,true,true,true,true,false,true,true,true,true,false,false]) ZIe (by kernel_rfl) S ?_)))))));intro ops O F w S;refine rfa O F 0 rfl rfl S (Zx S rfl) fun f S=>rfa O F 1 rfl rfl S (Zx S rfl) fun f S=>rfa O F 2 rfl rfl S (Zx S rfl) fun f S=>rfa O F 3 rfl rfl S (Zx S rfl) fun f S=>?_;have a9:=Zea af (Zg aE).2.1;obtain ⟨dg,ba⟩:∃ c,(List.take (Zd .u64).n (List.drop ((d).toNat*(Zd .u64).n) B))=c:=⟨_,rfl⟩;rw [ba] at a9;obtain ⟨rfl,cx⟩:=a9;refine rfa O F 4 rfl rfl S (ZL S rfl rfl Zz (Zg aE).1 (ltI Q (Zg aE).2.2.1)) fun f S=>rfa O F 5 rfl rfl S (Zca S rfl Z1 (ZXh S (j:=0) rfl aG (Ztd af Q) ba (ltN Q (Zg aE).2.2.2) 0 [.int .u64 a7] rfl zl)) fun f S=>rfa O F 6 rfl rfl S (Zx S rfl) fun f S=>rfa O F 7 rfl rfl S (Zx S rfl) fun f S=>?_;have bb:=Zea p (Zg aF).2.1;obtain ⟨dh,bc⟩:∃ c,(List.take (Zd .u64).n (List.drop ((d).toNat*(Zd .u64).n) (List.take (0+((((Zc 18446744073709551616 v)).length:Int)).toNat*1) h++[Value.int IntKind.u64 (b)]++List.drop (0+((((Zc 18446744073709551616 v)).length:Int)).toNat*1+1) h)))=c:=⟨_,rfl⟩
   rw [bc] at bb;obtain ⟨rfl,cy⟩:=bb;refine rfa O F 8 rfl rfl S (ZL S rfl rfl Zz (Zg aF).1 (ltI aM (Zg aF).2.2.1)) fun f S=>rfa O F 9 rfl rfl S (Zca S rfl Z1 (ZCc S (j:=1) rfl bc (ltN aM (Zg aF).2.2.2) 0 [.int .u64 a8] rfl zl)) fun f S=>rfa O F 10 rfl rfl S (Zx S rfl) fun f S=>go1 O F 11 (nva [5,9,10,4,8,2,3,6,7] [0,1] O rfl rfl S (Z6h S [.int .u64 a7,.int .u64 a8,.int .u64 ap] (ZTp ZOu cx cy aP) rfl rfl) fun f S=>⟨(py S rfl rfl (Zx S rfl) (py S rfl rfl (Zx S rfl) ZYb)),rfa O F 12 rfl rfl S (Zx S rfl) fun f S=>rfa O F 13 rfl rfl S (Zna S rfl rfl) fun f S=>rfa O F 14 rfl rfl S (Zna S rfl rfl) fun f S=>?_⟩);have bd:=Zea af (Zg ar).2.1;obtain ⟨di,cz⟩:∃ c,(List.take (Zd .u64).n (List.drop ((d).toNat*(Zd .u64).n) B))=c:=⟨_,rfl⟩;rw [cz] at bd;obtain ⟨rfl,dj⟩:=bd;refine rfa O F 15 rfl rfl S (ZL S rfl rfl Zz (Zg ar).1 (ltI Q (Zg ar).2.2.1)) fun f S=>go1 O F 16 ?_;obtain ⟨w,cA,S⟩:=ZHt S (k:=(d).toNat) Z1 (z:=.int .u64 (U.1)) (c:=[.int .u64 (U.1)]) (Zib rfl) rfl (i:=0) rfl aG (Ztd af Q) (ltN Q (Zg ar).2.2.2) rfl (by first | rfl | simp [plain]);have cB:Rep.rels (Zd .u64) ae (List.take (0+(d).toNat*1) B++[Value.int IntKind.u64 (U.1)]++List.drop (0+(d).toNat*1+1) B) (ad.set (d).toNat U.1):=Zzc af (Zg ar).2.2.2 (show Rep.rel (Zd .u64) ae [.int .u64 (U.1)] _ from (ZB (Zbn aP))) rfl rfl
   have cC:g=(ad.set (d).toNat U.1).length:=Zkd Q;refine nxs [0,1,2,3,4,5,6,7,8,9,10,11,12,13,15] [14] O rfl rfl (cA rfl rfl) (⟨(py S rfl rfl (Zna S rfl rfl) ZYb),go1 O F 17 (nva [0,1,2,3,4,5,6,7,8,9,10,11,12,13,14,15,16] [] O rfl rfl S (Z5c S rfl) fun f S=>⟨ZYb,Zte O F (Z7a (Zf (cw _ _ (bO H fun dk be H=>Zr (ov S rfl (Ze S rfl rfl (ZFa be)) fun f S=>mv S rfl fun f S=>Zn ?_)))))⟩)⟩);obtain rfl:=Zl H;refine ct _ rfl _ _ ⟨_,_,_,(List.take (0+(d).toNat*1) B++[Value.int IntKind.u64 (U.1)]++List.drop (0+(d).toNat*1+1) B),_,rfl,aO,(S.fr' rfl),cB,cC,(Z7n aP),(Zka be).2⟩
  have H:=ZH H aq;refine ZK S rfl aq (wp_exit (ZV ?_));obtain rfl:=Zl H;have hq:=cu _ rfl;subst hq;have H:=cq;refine ZV (ZVa ?_);obtain rfl:=Zl H;have S:=S.reorder (ℓ':=[Loc.box a E (pre0++B++post0)]) [0] rfl (by decide);refine Zf (co _ _ ⟨_,B,_,rfl,(leT (leR _) aO),(S.fr' rfl),af,Q⟩)
 rintro f w ⟨aC,aN,aD,hq,dl,S,cD,cE⟩;subst hq;have H:=cn;refine Zf (ck _ _ (sr (mw S rfl fun f S=>oe (wp_ret ?_))));obtain rfl:=Zl H;refine Z8l S (ZCa rfl (ZO S rfl)) ⟨⟨[.bool true],rfl,Z8m⟩,(S.boxAt (j:=0) rfl).2,_,(S.boxAt (j:=0) rfl).1,cE,cD⟩
theorem take_c {d:World} {a:Zb} (hv:VIn a d) {b off0 c e:Nat} {f:TypeId} {pre0 cs0 post0:List Value} {u:(List Int)} (l:d.heap[b]? = some (.cells (pre0++cs0++post0).toArray f (0,0))) (m:off0=pre0.length) (n:a b=none) (o:c=u.length) (p:c≤e∧e≤maxLen) (g:Rep.rels (Zd .u64) a cs0 u) {h:List Value} {v:Nat} (r:Rep.rel Zu a h v) {i:List Value} {q:Int} (j:Rep.rel (Zd .u64) a i q) {z:Bool×(List Int)} (hm:Zpg u v q=some z) :
  RetL Tryz.prog 183 #[Value.slice (some ⟨b,off0,none⟩) c e,Zu.val h,(Zd .u64).val i] d a [b] (fun y v' w'=>(∃ k,y=ZEc.val k∧ZEc.rel v' k z.1)∧v' b=none∧∃ cs,w'.heap[b]? = some (.cells (pre0++cs++post0).toArray f (0,0))∧c=z.2.length∧Rep.rels (Zd .u64) v' cs z.2) :=
 take_w hv l m n o p g r j (Zqr (Zql g) j.2 hm)
end Go.Eng
