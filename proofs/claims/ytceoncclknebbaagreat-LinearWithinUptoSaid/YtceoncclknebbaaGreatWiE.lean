/- Lemmas towards the statement: the engine of the walks, the functions' models, laws and walks, part 5. Conditions: as each states. -/
import Derived.Lib.Bytealg
import Derived.Test.YtceoncclknebbaaGreatWiD
set_option linter.all false
set_option maxRecDepth 100000
namespace Go.Eng
open Tb
variable {m n:Nat} {A:Mx} {B C:Nat→Rat} {T:Tb}
set_option maxRecDepth 100000 in
theorem ZaB {K:Nat} (hz:∀ i,i<m→sz K (B i)) (hm:m≤1000) (hK:K≤137438953472):∃ e:Int,Zg (σ:=Int×Int) (ρ:=Int) (fun s2 =>
   ifb (decide (s2.2<((vx m B).length:Int)))
   (bnd (idx (vx m B) s2.2) fun y3 =>
    bnd (α:=Bool)
    (bnd (Z0a y3) fun y4 =>
     ifb (decide (y4<(0:Int)))
     (ifb (decide (s2.1<(0:Int)))
      (some true)
      (bnd (idx (vx m B) s2.1) fun y5 =>
       bnd (Zge y3 y5) fun y6 =>
       some (decide (y6<(0:Int)))))
     (some false)) fun x7 =>
    bnd (α:=Int)
    (ifb x7
     (some s2.2)
     (some s2.1)) fun x8 =>
    bnd (chk .i64 (s2.2+(1:Int))) fun y9 =>
    some (.inl (x8,y9)))
   (some (.inr s2.1)))
  Zi ((-1:Int),(0:Int))=some e∧(e = -1∧(∀ i,i<m→¬ B i<0) ∨ ∃ w:Nat,e=(w:Int)∧w<m∧B w<0∧∀ i,i<m→B i<0→B w≤B i):=by
  suffices h:∃ z,bnd (Zg _ Zi ((-1:Int),(0:Int))) (fun e=>some e)=some z∧(z = -1∧(∀ i,i<m→¬ B i<0) ∨ ∃ w:Nat,z=(w:Int)∧w<m∧B w<0∧∀ i,i<m→B i<0→B w≤B i) by
    obtain ⟨z,h1,h2⟩:=h;obtain ⟨y,h3,h4⟩:=Zma h1
    cases h4
    exact ⟨_,h3,h2⟩
  refine ZXe (fun k s=>∃ e,s=(e,(k:Int))∧(e = -1∧(∀ j,j<k→¬ B j<0) ∨ ∃ w:Nat,e=(w:Int)∧w<k∧B w<0∧∀ j,j<k→B j<0→B w≤B j)) (fun e=>e = -1∧(∀ i,i<m→¬ B i<0) ∨ ∃ w:Nat,e=(w:Int)∧w<m∧B w<0∧∀ i,i<m→B i<0→B w≤B i) m ⟨-1,rfl,.inl ⟨rfl,fun j hj=>by omega⟩⟩ (by omega) (fun k s hk hI=>?_) (fun e he=>⟨_,rfl,he⟩);obtain ⟨e,rfl,hI⟩:=hI;by_cases hlt:k<m
  · left;simp only;rw [Zj,decide_eq_true (by omega),Zd,Zq _ hlt,Za];unfold Z0a;rw [Za];have fin:∀ {X:Option Bool} {b:Bool} ,X=some b→(bnd (α:=Bool) X fun x7=>bnd (α:=Int) (ifb x7 (some (k:Int)) (some e)) fun x8=>bnd (chk .i64 ((k:Int)+(1:Int))) fun y9=>(some (.inl (x8,y9)):Option ((Int×Int) ⊕ Int)))=some (.inl (if b then (k:Int) else e,((k+1:Nat):Int))):=fun {X b} h=>by
      rw [h,Za]
      cases b
      · rw [Ze,Za,Zl (by omega) (by omega),Za];rfl
      · rw [Zd,Za,Zl (by omega) (by omega),Za];rfl
    by_cases hp:B k<0
    · rw [decide_eq_true ((Zab _).2 hp),Zd];rcases hI with ⟨rfl,hno⟩ | ⟨w,rfl,hw,hb,hle⟩
      · refine ⟨_,hlt,fin (b:=true) (by rfl),_,rfl,.inr ⟨k,rfl,by omega,hp,fun j hj hj0=>?_⟩⟩;by_cases e2:j=k
        · rw [e2];exact Rat.le_refl
        · exact absurd hj0 (hno j (by omega))
      · rw [decide_eq_false (show ¬ (w:Int)<0 by omega),Ze,Zq _ (by omega),Za,qcmpB (hz k hlt) (hz w (by omega)) (by omega) (by omega),Za];refine ⟨_,hlt,fin rfl,_,rfl,.inr ?_⟩;by_cases hc:B k<B w
        · rw [decide_eq_true ((Zab _).2 (by grind)),if_pos rfl];refine ⟨k,rfl,by omega,hp,fun j hj hj0=>?_⟩;by_cases e2:j=k
          · rw [e2];exact Rat.le_refl
          · have:=hle j (by omega) hj0;grind
        · rw [decide_eq_false (fun h=>hc (by have:=(Zab _).1 h;grind)),if_neg (by decide)];refine ⟨w,rfl,by omega,hb,fun j hj hj0=>?_⟩;by_cases e2:j=k
          · rw [e2];grind
          · exact hle j (by omega) hj0
    · rw [decide_eq_false (fun h=>hp ((Zab _).1 h)),Ze];refine ⟨_,hlt,fin rfl,_,rfl,?_⟩;rw [if_neg (by decide)];rcases hI with ⟨rfl,hno⟩ | ⟨w,rfl,hw,hb,hle⟩
      · refine .inl ⟨rfl,fun j hj=>?_⟩;by_cases e2:j=k
        · rw [e2];exact hp
        · exact hno j (by omega)
      · refine .inr ⟨w,rfl,by omega,hb,fun j hj hj0=>?_⟩;by_cases e2:j=k
        · rw [e2] at hj0;exact absurd hj0 hp
        · exact hle j (by omega) hj0
  · right;have:k=m:=by omega
    subst this;exact ⟨e,by simp only;rw [Zj,decide_eq_false (by omega),Ze],hI⟩
theorem Zww (hm:m≤1000) (hn:n≤1000):Zg (σ:=Int×(List (List Rat))) (ρ:=List (List Rat)) (fun s11 =>
    ifb (decide (s11.1<((mx m n A).length:Int)))
    (bnd (idx s11.2 s11.1) fun y12 =>
     bnd (ZUa (-1:Int)) fun y13 =>
     bnd (ZF 56 (y12++[y13])) fun _ =>
     bnd (idx s11.2 s11.1) fun y14 =>
     bnd (eqN s11.1.toNat s11.1.toNat) fun _ =>
     bnd (chk .i64 (s11.1+(1:Int))) fun y15 =>
     some (.inl (y15,s11.2.set s11.1.toNat (y12++[y13]))))
    (some (.inr s11.2)))
   Zi ((0:Int),mx m n A)=some (mx m (n+1) (st1 m n A B).a):=by
  refine Z1 (fun k=>((k:Int),vx m fun i=>if i<k then vx (n+1) ((st1 m n A B).a i) else vx n (A i))) m ?_ (by omega) (fun k hk=>?_) ?_
  · exact Prod.ext rfl (ZA fun i hi=>if_neg (by omega))
  · simp only;rw [ZXa,decide_eq_true (by omega),Zd,Zq _ hk,Za,if_neg (by omega),Ztc,Za];have e:vx n (A k)++[((-1:Int):Rat)]=vx (n+1) ((st1 m n A B).a k):=by
      rw [← Zbc];refine congr (congrArg _ (ZA fun j hj=>?_)) (congrArg (fun x=>[x]) ?_)
      · show A k j=if j<n then A k j else -1;rw [if_pos hj]
      · show _=if n<n then A k n else -1;rw [if_neg (by omega)];rfl
    rw [e,Zra (by rw [Zj];omega),Za,Za,Zjv,Za,Zl (by omega) (by omega),Za];simp only [Int.toNat_natCast];rw [ZCa];refine congrArg (fun x=>some (Sum.inl x)) (Prod.ext (by simp) (ZA fun i hi=>?_));by_cases e2:i=k
    · rw [if_pos e2,if_pos (by omega),e2]
    · rw [if_neg e2];by_cases e3:i<k
      · rw [if_pos e3,if_pos (by omega)]
      · rw [if_neg e3,if_neg (by omega)]
  · simp only;rw [ZXa,decide_eq_false (by omega),Ze];exact congrArg (fun x=>some (Sum.inr x)) (ZA fun i hi=>if_pos hi)
theorem ZMy {c:Nat} {M:Mx} (hm:m≤1000) (hn:n≤1000) (hc:c<n+1):Zg (σ:=Int×(List (List Rat))) (ρ:=List (List Rat)) (fun s51 =>
     ifb (decide (s51.1<((mx m (n+1) M).length:Int)))
     (bnd (idx s51.2 s51.1) fun y52 =>
      bnd (chk .i64 ((c:Int)+(1:Int))) fun y53 =>
      bnd (ZZc y52 (c:Int) y53) fun y54 =>
      bnd (idx s51.2 s51.1) fun y55 =>
      bnd (eqN s51.1.toNat s51.1.toNat) fun _ =>
      bnd (chk .i64 (s51.1+(1:Int))) fun y56 =>
      some (.inl (y56,s51.2.set s51.1.toNat y54)))
     (some (.inr s51.2)))
    Zi ((0:Int),mx m (n+1) M)=some (mx m n fun i k=>M i (sk c k)):=by
  refine Z1 (fun k=>((k:Int),vx m fun i=>if i<k then vx n (fun j=>M i (sk c j)) else vx (n+1) (M i))) m ?_ (by omega) (fun k hk=>?_) ?_
  · exact Prod.ext rfl (ZA fun i hi=>if_neg (by omega))
  · simp only;rw [ZXa,decide_eq_true (by omega),Zd,Zq _ hk,Za,if_neg (by omega),Zl (by omega) (by omega),Za];have:=Zxr (M k) hc;rw [show (c:Int)+1=((c+1:Nat):Int) by omega,this,Za,Za,Zjv,Za,Zl (by omega) (by omega),Za];simp only [Int.toNat_natCast];rw [ZCa];refine congrArg (fun x=>some (Sum.inl x)) (Prod.ext (by simp) (ZA fun i hi=>?_));by_cases e2:i=k
    · rw [if_pos e2,if_pos (by omega),e2]
    · rw [if_neg e2];by_cases e3:i<k
      · rw [if_pos e3,if_pos (by omega)]
      · rw [if_neg e3,if_neg (by omega)]
  · simp only;rw [ZXa,decide_eq_false (by omega),Ze];exact congrArg (fun x=>some (Sum.inr x)) (ZA fun i hi=>if_pos hi)
def Z8a (m:Nat) (C:Nat→Rat) (D:Tb) (k:Nat):Tb:={ D with z:=fun f=>sm k (fun j=>C j*cfv m D j f),v:=sm k (fun j=>C j*ZV m D j) }
theorem cfv_sz {D:Tb} {N W:Nat} (h:D.arr m n N) (ha:∀ i k,i<m→k<n→sz W (D.a i k)) (hW:1≤W) {u f:Nat} (hu:u<N) (hf:f<n):sz W (cfv m D u f):=by
 unfold cfv;rcases h.cov u hu with ⟨i,hi,rfl⟩ | ⟨k,hk,rfl⟩
 ·rw [if_neg fun e=>h.d i f hi hf e.symm,ZIa hi fun j hj hne=>if_neg fun e=>hne (h.bi j i hj hi e),if_pos rfl];have:(0:Rat)-D.a i f = - D.a i f:=by grind
  rw [this];exact ZUf (ha i f hi hf)
 ·rw [Zia (f:=fun i=>if D.bs i=D.fr k then D.a i f else 0) fun i hi=>if_neg (h.d i k hi hk)];split
  ·rw [show (1:Rat)-0=1 by grind];exact ZGk.mono hW
  ·rw [show (0:Rat)-0=0 by grind];exact ZHb.mono hW
set_option maxRecDepth 100000 in
theorem objs_ok {D:Tb} {K W:Nat} (h:D.arr m n (n+m)) (ha:∀ i k,i<m→k<n→sz W (D.a i k)) (hb:∀ i,i<m→sz W (D.b i)) (hC:∀ k,k<n→sz K (C k)) (hW:1≤W) (hK1:1≤K) (hm:m≤1000) (hn:n≤1000) (hS:(n+1)*(K+W+2)≤137438953472) :
   Zg (σ:=Int×((List (List Rat))×(List Rat)×(List Rat)×Rat×(List Int)×(List Int))) (ρ:=(List (List Rat))×(List Rat)×(List Rat)×Rat×(List Int)×(List Int)) (fun s61 =>
     ifb (decide (s61.1<((vx n C).length:Int)))
     (bnd (α:=(List (List Rat))×(List Rat)×(List Rat)×Rat×(List Int)×(List Int))
      (bnd (idx (vx n C) s61.1) fun y62 =>
       bnd (α:=Int)
       (bnd (Zg (σ:=Int) (ρ:=Unit ⊕ Int) (fun s63 =>
          ifb (decide (s63<(s61.2.2.2.2.2.2.length:Int)))
          (bnd (idx s61.2.2.2.2.2.2 s63) fun y64 =>
           ifb (s61.1==y64)
           (some (.inr (.inr s63)))
           (bnd (chk .i64 (s63+(1:Int))) fun y65 =>
            some (.inl y65)))
          (some (.inr (.inl ()))))
         Zi (0:Int)) fun x66 =>
        match x66 with
        | .inl r67=>(some (-1:Int))
        | .inr r68=>(some r68)) fun x69 =>
       ifb (decide ((0:Int)≤x69))
       (bnd (idx s61.2.2.2.1 x69) fun y70 =>
        bnd (Z0b y70 y62) fun y71 =>
        bnd (idx s61.2.2.2.1 x69) fun y72 =>
        some (s61.2.1,s61.2.2.1,s61.2.2.2.1.set x69.toNat y71,s61.2.2.2.2.1,s61.2.2.2.2.2.1,s61.2.2.2.2.2.2))
       (bnd (α:=Int)
        (bnd (Zg (σ:=Int) (ρ:=Unit ⊕ Int) (fun s73 =>
           ifb (decide (s73<(s61.2.2.2.2.2.1.length:Int)))
           (bnd (idx s61.2.2.2.2.2.1 s73) fun y74 =>
            ifb (s61.1==y74)
            (some (.inr (.inr s73)))
            (bnd (chk .i64 (s73+(1:Int))) fun y75 =>
             some (.inl y75)))
           (some (.inr (.inl ()))))
          Zi (0:Int)) fun x76 =>
         match x76 with
         | .inl r77=>(some (-1:Int))
         | .inr r78=>(some r78)) fun x79 =>
        bnd (idx s61.2.2.1 x79) fun y80 =>
        bnd (ZQa y62 y80) fun y81 =>
        bnd (Z0b s61.2.2.2.2.1 y81) fun y82 =>
        bnd (idx s61.2.1 x79) fun y83 =>
        bnd (Zg (σ:=Int×(List Rat)) (ρ:=List Rat) (fun s84 =>
          ifb (decide (s84.1<(y83.length:Int)))
          (bnd (idx y83 s84.1) fun y85 =>
           bnd (idx s84.2 s84.1) fun y86 =>
           bnd (ZQa y62 y85) fun y87 =>
           bnd (ZSb y86 y87) fun y88 =>
           bnd (idx s84.2 s84.1) fun y89 =>
           bnd (chk .i64 (s84.1+(1:Int))) fun y90 =>
           some (.inl (y90,s84.2.set s84.1.toNat y88)))
          (some (.inr s84.2)))
         Zi ((0:Int),s61.2.2.2.1)) fun x91 =>
        some (s61.2.1,s61.2.2.1,x91,y82,s61.2.2.2.2.2.1,s61.2.2.2.2.2.2))) fun x92 =>
      bnd (chk .i64 (s61.1+(1:Int))) fun y93 =>
      some (.inl (y93,x92.1,x92.2.1,x92.2.2.1,x92.2.2.2.1,x92.2.2.2.2.1,x92.2.2.2.2.2)))
     (some (.inr (s61.2.1,s61.2.2.1,s61.2.2.2.1,s61.2.2.2.2.1,s61.2.2.2.2.2.1,s61.2.2.2.2.2.2))))
    Zi ((0:Int),tbl m n (Z8a m C D 0))=some (tbl m n (Z8a m C D n)):=by
  have zS:∀ k f,k≤n→f<n→sz ((n+1)*(K+W+2)) ((Z8a m C D k).z f):=fun k f hk hf=>by
    have:=smz (k:=K+W) (f:=fun j=>C j*cfv m D j f) (n:=k) fun j hj=>ZYa (hC j (by omega)) (cfv_sz h ha hW (by omega) hf);refine this.mono ?_;have:=Nat.mul_le_mul (show k+1≤n+1 by omega) (show K+W+1≤K+W+2 by omega);rw [Nat.add_mul,Nat.one_mul] at this;omega
  have vS:∀ k,k≤n→sz ((n+1)*(K+W+2)) ((Z8a m C D k).v):=fun k hk=>by
    have hv:∀ u,u<n+m→sz W (ZV m D u):=fun u hu=>by
      rcases h.cov u hu with ⟨i,hi,rfl⟩ | ⟨q,hq,rfl⟩
      · rw [Z3f h hi];exact hb i hi
      · rw [Zyd h hq];exact ZHb.mono hW
    have:=smz (k:=K+W) (f:=fun j=>C j*ZV m D j) (n:=k) fun j hj=>ZYa (hC j (by omega)) (hv j (by omega));refine this.mono ?_;have:=Nat.mul_le_mul (show k+1≤n+1 by omega) (show K+W+1≤K+W+2 by omega);rw [Nat.add_mul,Nat.one_mul] at this;omega
  have hKW:K+W+2≤137438953472:=Nat.le_trans (Nat.le_mul_of_pos_left _ (by omega)) hS;refine Z1 (fun k=>((k:Int),tbl m n (Z8a m C D k))) n rfl (by omega) (fun k hk=>?_) ?_
  · show ifb (decide ((k:Int)<((vx n C).length:Int))) _ _=_;rw [Zj,decide_eq_true (by omega),Zd];refine Zs (y:=tbl m n (Z8a m C D (k+1))) ?_ (by rw [Zl (by omega) (by omega),Za];rfl);rw [Zq _ hk,Za];obtain ⟨e,g1,g2⟩:=Zlg (body:=fun s63 =>
          ifb (decide (s63<((vx n fun f=>(D.fr f:Int)).length:Int)))
          (bnd (idx (vx n fun f=>(D.fr f:Int)) s63) fun y64 =>
           ifb ((k:Int)==y64)
           (some (.inr (.inr s63)))
           (bnd (chk .i64 (s63+(1:Int))) fun y65 =>
            some (.inl y65)))
          (some (.inr (.inl ())))) n hn (fun f=>D.fr f=k) (fun f hf=>by
            rw [Zj,decide_eq_true (by omega),Zd,Zq _ hf,Za];by_cases e:D.fr f=k
            · exact .inl ⟨e,by rw [show ((k:Int)==(D.fr f:Int))=true by simp [e],Zd]⟩
            · exact .inr ⟨e,by rw [show ((k:Int)==(D.fr f:Int))=false by simp;omega,Ze,Zl (by omega) (by omega),Za];rfl⟩) (by rw [Zj,decide_eq_false (by omega),Ze])
    refine Zs g1 ?_;rcases g2 with ⟨rfl,g2⟩ | ⟨f,hf,rfl,g2⟩
    · rw [show (decide ((0:Int)≤-1))=false from rfl,Ze];obtain ⟨r,hr,hrk⟩:∃ r,r<m∧D.bs r=k:=by
        rcases h.cov k (by omega) with h1 | ⟨f,hf,e⟩
        · exact h1
        · exact absurd e (g2 f hf)
      obtain ⟨e,g3,g4⟩:=Zlg (body:=fun s63 =>
          ifb (decide (s63<((vx m fun f=>(D.bs f:Int)).length:Int)))
          (bnd (idx (vx m fun f=>(D.bs f:Int)) s63) fun y64 =>
           ifb ((k:Int)==y64)
           (some (.inr (.inr s63)))
           (bnd (chk .i64 (s63+(1:Int))) fun y65 =>
            some (.inl y65)))
          (some (.inr (.inl ())))) m hm (fun f=>D.bs f=k) (fun f hf=>by
            rw [Zj,decide_eq_true (by omega),Zd,Zq _ hf,Za];by_cases e:D.bs f=k
            · exact .inl ⟨e,by rw [show ((k:Int)==(D.bs f:Int))=true by simp [e],Zd]⟩
            · exact .inr ⟨e,by rw [show ((k:Int)==(D.bs f:Int))=false by simp;omega,Ze,Zl (by omega) (by omega),Za];rfl⟩) (by rw [Zj,decide_eq_false (by omega),Ze])
      refine Zs g3 ?_;rcases g4 with ⟨_,g4⟩ | ⟨r',hr',rfl,g4⟩
      · exact absurd hrk (g4 r hr)
      · have zC:=hC k hk;have hcf:∀ f,f<n→cfv m D k f = - D.a r' f:=fun f hf=>by
          unfold cfv;rw [if_neg (g2 f hf),← g4,ZIa hr' fun j hj hne=>if_neg fun e=>hne (h.bi j r' hj hr' e),if_pos rfl];grind
        have hva:ZV m D k=D.b r':=by rw [← g4];exact Z3f h hr'
        refine Zs (Zq _ hr') ?_;refine Zs (ZPc zC (hb r' hr') (by omega) (by omega)) ?_;refine Zs (Z4h (vS k (by omega)) (ZYa zC (hb r' hr')) (by omega) (by omega)) ?_;refine Zs (Z2a _ hr') ?_;refine Zs (y:=vx n (Z8a m C D (k+1)).z) (Z1 (fun f=>((f:Int),vx n fun f'=>if f'<f then (Z8a m C D (k+1)).z f' else (Z8a m C D k).z f')) n ?_ (by omega) (fun f hf=>?_) ?_) ?_
        · exact Prod.ext rfl (ZA fun f' _=>if_neg (by omega))
        · simp only;rw [Zj,decide_eq_true (by omega),Zd,Zq _ hf,Za,Zq _ hf,Za,if_neg (by omega)];rw [show (Z8a m C D k).a r' f=D.a r' f from rfl,ZPc zC (ha r' f hr' hf) (by omega) (by omega),Za,ZPg (zS k f (by omega) hf) (ZYa zC (ha r' f hr' hf)) (by omega) (by omega),Za,Za,Zl (by omega) (by omega),Za];simp only [Int.toNat_natCast];rw [ZCa];refine congrArg (fun x=>some (Sum.inl x)) (Prod.ext (by simp) (ZA fun f' hf'=>?_));by_cases e2:f'=f
          · rw [if_pos e2,if_pos (by omega),e2];show _=(Z8a m C D k).z f+C k*cfv m D k f;rw [hcf f hf];grind
          · rw [if_neg e2];by_cases e3:f'<f
            · rw [if_pos e3,if_pos (by omega)]
            · rw [if_neg e3,if_neg (by omega)]
        · simp only;rw [Zj,decide_eq_false (by omega),Ze];exact congrArg (fun x=>some (Sum.inr x)) (ZA fun f' hf'=>if_pos hf')
        refine congrArg some (Prod.ext rfl (Prod.ext rfl (Prod.ext rfl (Prod.ext ?_ rfl))));show (Z8a m C D k).v+C k*D.b r'=(Z8a m C D k).v+C k*ZV m D k;rw [hva]
    · rw [decide_eq_true (show (0:Int)≤(f:Int) by omega),Zd];have hcf:∀ f',f'<n→cfv m D k f'=if f'=f then 1 else 0:=fun f' hf'=>by
        unfold cfv;rw [Zia (f:=fun i=>if D.bs i=k then D.a i f' else 0) fun i hi=>if_neg (by rw [← g2];exact h.d i f hi hf)];by_cases e:f'=f
        · rw [e,if_pos g2,if_pos rfl];grind
        · rw [if_neg fun e2=>e (h.fi f' f hf' hf (e2.trans g2.symm)),if_neg e];grind
      have hva:ZV m D k=0:=by rw [← g2];exact Zyd h hf
      refine Zs (Zq _ hf) ?_;refine Zs (Z4h (zS k f (by omega) hf) (hC k hk) (by omega) (by omega)) ?_;refine Zs (Zq _ hf) ?_;simp only [Int.toNat_natCast];refine congrArg some (Prod.ext rfl (Prod.ext rfl (Prod.ext ?_ (Prod.ext ?_ rfl))))
      · show (vx n (Z8a m C D k).z).set f ((Z8a m C D k).z f+C k)=vx n (Z8a m C D (k+1)).z;rw [ZCa];refine ZA fun f' hf'=>?_;show _=(Z8a m C D k).z f'+C k*cfv m D k f';rw [hcf f' hf'];by_cases e:f'=f
        · rw [if_pos e,if_pos e,e];grind
        · rw [if_neg e,if_neg e];grind
      · show (Z8a m C D k).v=(Z8a m C D k).v+C k*ZV m D k;rw [hva];grind
  · show ifb (decide ((n:Int)<((vx n C).length:Int))) _ _=_;rw [Zj,decide_eq_false (by omega),Ze]
end Go.Eng
namespace Go.Eng
open Tb
variable {m n:Nat} {A:Mx} {B C:Nat→Rat} {T:Tb}
theorem st1_cd {K:Nat} (h:(st0 n A B C).cd K m n):(st1 m n A B).cd K m (n+1):=by
 obtain ⟨D,h0,h1,h2⟩:=h;have z0:ovr D K 0:=⟨0,by rw [Rat.div_def];exact (Rat.zero_mul _).symm,Nat.two_pow_pos K⟩;have hD':(D:Rat)≠0:=fun e=>h0 (Rat.intCast_inj.1 (by rw [e];rfl));have n1:ovr D K (-1):=⟨-D,by rw [Rat.intCast_neg];grind,by rwa [Int.natAbs_neg]⟩;refine ⟨D,h0,h1,fun i k hi hk=>?_,h2.b,fun k hk=>?_,z0⟩
 ·show ovr D K (if k<n then A i k else -1);split
  ·rename_i hlt;exact h2.a i k hi hlt
  ·exact n1
 ·show ovr D K (if k<n then 0 else -1);split
  ·exact z0
  ·exact n1
theorem zz_sz {W n' N:Nat} (h:T.arr m n' N) (hz:∀ k,k<n'→sz W (T.z k)) (hW:1≤W) (u:Nat):sz W (zz n' T.z T.fr u):=by
 by_cases hx:∃ k,k<n'∧T.fr k=u
 ·obtain ⟨k,hk,rfl⟩:=hx;unfold zz;rw [ZIa hk fun j hj hne=>if_neg fun e=>hne (h.fi j k hj hk e),if_pos rfl];exact hz k hk
 ·unfold zz;rw [Zia fun k hk=>if_neg fun e=>hx ⟨k,hk,e⟩];exact ZHb.mono hW
theorem ZYz {w:Nat} (hw:w<m) (hb:B w<0) (hl:∀ i,i<m→B i<0→B w≤B i):((st1 m n A B).piv w n).fea m:=by
 have ea:∀ i,(st1 m n A B).a i n = -1:=fun i=>if_neg (by omega);intro i hi;show 0≤if i=w then B w*(1 / (st1 m n A B).a w n) else B i-(st1 m n A B).a i n*(B w*(1 / (st1 m n A B).a w n));rw [ea,ea];have e1:B w*(1 / (-1:Rat)) = - B w:=by grind
 split
 ·rw [e1];grind
 ·rw [e1];by_cases h:B i<0
  ·have:=hl i hi h;grind
  ·grind
set_option maxRecDepth 100000 in
theorem Zkx {K R:Nat} (hr:m≤R∨n+1≤R) {P:(List (List Rat))×(List Rat)×(List Rat)} (hP:P=(mx m n A,vx m B,vx n C)) (c0:(st0 n A B C).cd K m n) (hK1:1≤K) (hm:m≤100) (hn:n≤100) (hN:n+m+1≤60) (hS:(n+1)*(K+kk K R+2)≤137438953472) :
    ∃ z,ZUj (tbl m n (st0 n A B C)) P=some z∧((∃ T4,z=(tbl m n T4,[],true)∧T4.arr m n (n+m)∧T4.eqv (st0 n A B C) m n∧T4.fea m) ∨ ∃ t y,z=(t,vx m y,false)∧Farkas m n A B y∧∀ i,i<m→sz (kk K R) (y i)):=by
  subst hP;have hKW:K+kk K R+2≤137438953472:=Nat.le_trans (Nat.le_mul_of_pos_left _ (by omega)) hS;have hWk:1≤kk K R:=Zxn hK1;have c1:(st1 m n A B).cd K m (n+1):=st1_cd c0;have s0:=c0.sz;have s1:=c1.sz;have e1:(n:Int)+(m:Int)=((n+m:Nat):Int):=by omega
  unfold ZUj;refine ZH (y:=((n+m:Nat):Int)) (by simp only [Zj];rw [e1,Zl (by omega) (by omega)]) ?_;obtain ⟨e,g1,g2⟩:=ZaB (m:=m) (B:=B) (K:=K) s0.b (by omega) (by omega);refine ZH g1 ?_;rcases g2 with ⟨rfl,g2⟩ | ⟨w,rfl,hw,hb,hl⟩
  · rw [show (decide ((-1:Int)<0))=true from rfl,Zd];exact ⟨_,rfl,.inl ⟨st0 n A B C,rfl,ZAm,eqv.refl,fun i hi=>Rat.not_lt.1 (g2 i hi)⟩⟩
  · rw [decide_eq_false (show ¬ (w:Int)<0 by omega),Ze];refine ZH (Zww (A:=A) (B:=B) (by omega) (by omega)) ?_;refine ZH (y:=()) (Zra (by show (vx n _++[_]).length*8≤_;rw [List.length_append,Zj,List.length_singleton];omega)) ?_;refine ZH (Ztc 0) ?_;refine ZH (y:=vx n fun _=>(0:Rat)) (by simp only [Zj];exact Zaj (by omega)) ?_;refine ZH (Ztc (-1)) ?_;have ez:(vx n fun _=>(0:Rat))++[((-1:Int):Rat)]=vx (n+1) (st1 m n A B).z:=by
      rw [← Zbc];refine congr (congrArg _ (ZA fun k hk=>?_)) (congrArg (fun x=>[x]) ?_)
      · show (0:Rat)=if k<n then 0 else -1;rw [if_pos hk]
      · show _=if n<n then (0:Rat) else -1;rw [if_neg (by omega)];rfl
    have ef:(vx n fun k=>(k:Int))++[((n+m:Nat):Int)]=vx (n+1) fun k=>((st1 m n A B).fr k:Int):=by
      rw [← Zbc];refine congr (congrArg _ (ZA fun k hk=>?_)) (congrArg (fun x=>[x]) ?_)
      · show (k:Int)=((if k<n then k else n+m:Nat):Int);rw [if_pos hk]
      · show _=((if n<n then n else n+m:Nat):Int);rw [if_neg (by omega)]
    rw [ez];refine ZH (y:=()) (Zra (by rw [Zj];omega)) ?_;have et:(mx m (n+1) (st1 m n A B).a,(tbl m n (st0 n A B C)).2.1,vx (n+1) (st1 m n A B).z,(tbl m n (st0 n A B C)).2.2.2.1,(tbl m n (st0 n A B C)).2.2.2.2.1,(tbl m n (st0 n A B C)).2.2.2.2.2++[((n+m:Nat):Int)])=tbl m (n+1) (st1 m n A B):=Prod.ext rfl (Prod.ext rfl (Prod.ext rfl (Prod.ext rfl (Prod.ext rfl ef))));rw [et];have ne:(st1 m n A B).a w n≠0:=by
      show (if n<n then A w n else (-1:Rat))≠0;rw [if_neg (by omega)];decide
    refine ZH (y:=(tbl m (n+1) ((st1 m n A B).piv w n),())) (by simp only [Zj];exact Ztm hw (by omega) ne s1 (by omega) (by omega) (by omega) hK1) ?_;have hE1:((st1 m n A B).piv w n).eqv (st1 m n A B) m (n+1):=Zjl hw (by omega) ne;have hA1:((st1 m n A B).piv w n).arr m (n+1) (n+m+1):=ZTk.piv hw (by omega);obtain ⟨z,r1,T2,e,rfl,hA2,hE2,hF2,hend⟩:=ZAv hr (last:=((n+m:Nat):Int)) (lst:=n+m) ZTk c1 hE1 hA1 (ZYz hw hb hl) hN (by omega) (by omega) (by omega) hK1 (fun u _=>by omega) (fun T' a1 a2 ⟨c,a3⟩ j hj e=>p1_end a1 a2 hj e c a3.lt a3.pos);refine ZH r1 ?_;have hz2:∀ k,k<n+1→¬ 0<T2.z k:=by
      rcases hend with ⟨_,h⟩ | ⟨c,_,h1,h2⟩
      · exact h
      · exact (ZDw hA2 hE2 hF2 h1 h2).elim
    have s2:=(Zxk hr ZTk c1 hA2 hE2).sz;refine ZH (y:=T2.v.num.sign) rfl ?_;by_cases hv:T2.v<0
    · rw [decide_eq_true ((Zab _).2 hv),Zd];refine ZH (y:=(tbl m (n+1) T2,vx m (Z3 n T2 (n+1)))) (by simp only [Zj];exact Z1A hA2 (by omega) (by omega) (by omega) (by omega)) ?_;exact ⟨_,rfl,.inr ⟨_,_,rfl,ZUw hA2 hE2 hz2 hv,fun i hi=>ZUf (zz_sz hA2 s2.z hWk _)⟩⟩
    · rw [decide_eq_false (fun h=>hv ((Zab _).1 h)),Ze];have hv0:ZV m T2 (n+m)=0:=by
        have h1:=p1_v hA2 hE2;have h2:=ZFn (m:=m) hF2 (n+m);grind
      obtain ⟨e3,g3,g4⟩:=Zlg (body:=fun s63 =>
          ifb (decide (s63<((vx m fun f=>(T2.bs f:Int)).length:Int)))
          (bnd (idx (vx m fun f=>(T2.bs f:Int)) s63) fun y64 =>
           ifb (((n+m:Nat):Int)==y64)
           (some (.inr (.inr s63)))
           (bnd (chk .i64 (s63+(1:Int))) fun y65 =>
            some (.inl y65)))
          (some (.inr (.inl ())))) m (by omega) (fun f=>T2.bs f=n+m) (fun f hf=>by
            rw [Zj,decide_eq_true (by omega),Zd,Zq _ hf,Za];by_cases e:T2.bs f=n+m
            · exact .inl ⟨e,by rw [show (((n+m:Nat):Int)==(T2.bs f:Int))=true by rw [beq_iff_eq];omega,Zd]⟩
            · exact .inr ⟨e,by rw [show (((n+m:Nat):Int)==(T2.bs f:Int))=false by rw [beq_eq_false_iff_ne];omega,Ze,Zl (by omega) (by omega),Za];rfl⟩) (by rw [Zj,decide_eq_false (by omega),Ze])
      refine ZH g3 ?_;refine ZXp (Q:=fun t=>∃ T3:Tb,t=tbl m (n+1) T3∧T3.arr m (n+1) (n+m+1)∧T3.eqv (st1 m n A B) m (n+1)∧T3.fea m∧∀ i,i<m→T3.bs i≠n+m) ?_ (fun t ht=>?_)
      · rcases g4 with ⟨rfl,g4⟩ | ⟨r,hr,rfl,g4⟩
        · rw [show (decide ((0:Int)≤-1))=false from rfl,Ze];exact ⟨_,rfl,T2,rfl,hA2,hE2,hF2,g4⟩
        · rw [decide_eq_true (show (0:Int)≤(r:Int) by omega),Zd];refine ZH (Z2a _ hr) ?_;obtain ⟨e5,g5,g6⟩:=Zlg (body:=fun s32 =>
        ifb (decide (s32<((vx (n+1) (T2.a r)).length:Int)))
        (bnd (idx (vx (n+1) (T2.a r)) s32) fun y33 =>
         bnd (Z1b y33) fun y34 =>
         ifb (!y34)
         (some (.inr (.inr s32)))
         (bnd (chk .i64 (s32+(1:Int))) fun y35 =>
          some (.inl y35)))
        (some (.inr (.inl ())))) (n+1) (by omega) (fun k=>T2.a r k≠0) (fun k hk=>by
            rw [Zj,decide_eq_true (by omega),Zd,Zq _ hk,Za];unfold Z1b;rw [Za];by_cases e:T2.a r k=0
            · exact .inr ⟨fun h=>h e,by rw [decide_eq_true e];show ifb false _ _=_;rw [Ze,Zl (by omega) (by omega),Za];rfl⟩
            · exact .inl ⟨e,by rw [decide_eq_false e];show ifb true _ _=_;rw [Zd]⟩) (by rw [Zj,decide_eq_false (by omega),Ze])
          refine ZH g5 ?_;rcases g6 with ⟨_,g6⟩ | ⟨k,hk,rfl,g6⟩
          · obtain ⟨k,hk,h⟩:=p1_row hA2 hE2 hr g4;exact absurd h (g6 k hk)
          · refine ZH (Ztm hr hk g6 s2 (by omega) (by omega) (by omega) hWk) ?_;have hbr:T2.b r=0:=by rw [← Z3f hA2 hr,g4];exact hv0
            refine ⟨_,rfl,T2.piv r k,rfl,hA2.piv hr hk,(Zjl hr hk g6).trans hE2,fun i hi=>?_,fun i hi=>?_⟩
            · show 0≤if i=r then T2.b r*(1 / T2.a r k) else T2.b i-T2.a i k*(T2.b r*(1 / T2.a r k));rw [hbr];have:=hF2 i hi;split <;> grind
            · rw [Zid];split
              · rw [← g4];exact fun e=>hA2.d r k hr hk e.symm
              · rename_i hne;exact fun e=>hne (hA2.bi i r hi hr (e.trans g4.symm))
      · obtain ⟨T3,rfl,hA3,hE3,hF3,hnb⟩:=ht;obtain ⟨e7,g7,g8⟩:=Zlg (body:=fun s63 =>
          ifb (decide (s63<((vx (n+1) fun f=>(T3.fr f:Int)).length:Int)))
          (bnd (idx (vx (n+1) fun f=>(T3.fr f:Int)) s63) fun y64 =>
           ifb (((n+m:Nat):Int)==y64)
           (some (.inr (.inr s63)))
           (bnd (chk .i64 (s63+(1:Int))) fun y65 =>
            some (.inl y65)))
          (some (.inr (.inl ())))) (n+1) (by omega) (fun f=>T3.fr f=n+m) (fun f hf=>by
            rw [Zj,decide_eq_true (by omega),Zd,Zq _ hf,Za];by_cases e:T3.fr f=n+m
            · exact .inl ⟨e,by rw [show (((n+m:Nat):Int)==(T3.fr f:Int))=true by rw [beq_iff_eq];omega,Zd]⟩
            · exact .inr ⟨e,by rw [show (((n+m:Nat):Int)==(T3.fr f:Int))=false by rw [beq_eq_false_iff_ne];omega,Ze,Zl (by omega) (by omega),Za];rfl⟩) (by rw [Zj,decide_eq_false (by omega),Ze])
        refine ZH g7 ?_;rcases g8 with ⟨_,g8⟩ | ⟨c,hc,rfl,g8⟩
        · rcases hA3.cov (n+m) (by omega) with ⟨i,hi,e⟩ | ⟨k,hk,e⟩
          · exact absurd e (hnb i hi)
          · exact absurd e (g8 k hk)
        · refine ZH (y:=((c+1:Nat):Int)) (Zl (by omega) (by omega)) ?_;refine ZH (Zxr _ hc) ?_;refine ZH (ZMy (by omega) (by omega) hc) ?_;refine ZH (Ztc 0) ?_;refine ZH (y:=vx n fun _=>(0:Rat)) (by rw [Zj];exact Zaj (by omega)) ?_;refine ZH (Ztc 0) ?_;have s3:=(Zxk hr ZTk c1 hA3 hE3).sz;have hA4:=Zlt (C:=C) hA3 hc g8;have hE4:=ZIz (C:=C) hA3 hE3 hc g8;refine ZH (objs_ok (D:={ a:=fun i k=>T3.a i (sk c k),b:=T3.b,z:=fun _=>0,v:=0,bs:=T3.bs,fr:=fun k=>T3.fr (sk c k) }) (C:=C) (K:=K) (W:=kk K R) ⟨hA4.bl,hA4.fl,hA4.bi,hA4.fi,hA4.d,hA4.cov⟩ (fun i k hi hk=>s3.a i _ hi (ZZf hk)) s3.b s0.z hWk hK1 (by omega) (by omega) hS) ?_;exact ⟨_,rfl,.inl ⟨drop m n C T3 c,rfl,hA4,hE4,hF3⟩⟩
end Go.Eng
namespace Go.Eng
open Tb
variable {m n:Nat} {A:Mx} {B C:Nat→Rat} {T:Tb}
theorem Zhr (hm:m≤1000) (hn:n≤1000):Z3i (mx m n A)=some (mx m n A):=by
 unfold Z3i;refine Zs (y:=()) (by rw [ZXa];exact Zzk (by omega) (by omega)) ?_;exact Zs (copy_ok A hm hn) rfl
def Zcf (m n W:Nat) (A:Mx) (B C:Nat→Rat) (z:Int×Rat×(List Rat)×(List Rat)×(List Rat)):Prop :=
 (∃ y,z=(2,0,[],vx m y,[])∧Farkas m n A B y∧∀ i,i<m→sz W (y i)) ∨
 (∃ x y v,z=(1,v,vx n x,vx m y,[])∧Feas m n A B x∧v=sm n (fun k=>C k*x k)∧Dual m n A B C y∧v=sm m (fun i=>B i*y i)∧(∀ k,k<n→sz W (x k))∧(∀ i,i<m→sz W (y i))∧sz W v) ∨
 ∃ x d,z=(3,0,vx n x,[],vx n d)∧Feas m n A B x∧IsRay m n A C d∧(∀ k,k<n→sz W (x k))∧(∀ k,k<n→sz W (d k))
theorem valu_sz {W n' N:Nat} (h:T.arr m n' N) (hb:∀ i,i<m→sz W (T.b i)) (hW:1≤W) {u:Nat} (hu:u<N):sz W (ZV m T u):=by
 rcases h.cov u hu with ⟨i,hi,rfl⟩ | ⟨q,hq,rfl⟩
 ·rw [Z3f h hi];exact hb i hi
 ·rw [Zyd h hq];exact ZHb.mono hW
theorem dir_sz {W n' N c:Nat} (h:T.arr m n' N) (hc:c<n') (ha:∀ i,i<m→sz W (T.a i c)) (hW:1≤W) {u:Nat} (hu:u<N):sz W (dir m T c u):=by
 rcases h.cov u hu with ⟨i,hi,rfl⟩ | ⟨q,hq,rfl⟩
 ·rw [Zpr h hc hi];exact ZUf (ha i hi)
 ·rw [ZEg h hc hq];split
  ·exact ZGk.mono hW
  ·exact ZHb.mono hW
set_option maxRecDepth 100000 in
theorem Zky {K R:Nat} (hr:m≤R∨n+1≤R) (c0:(st0 n A B C).cd K m n) (hK1:1≤K) (hm:m≤100) (hn:n≤100) (hN:n+m+1≤60) (hS:(n+1)*(K+kk K R+2)≤137438953472):∃ z,ZWg (mx m n A,vx m B,vx n C)=some z∧Zcf m n (kk K R) A B C z:=by
 have hKW:K+kk K R+2≤137438953472:=Nat.le_trans (Nat.le_mul_of_pos_left _ (by omega)) hS;have hWk:1≤kk K R:=Zxn hK1;have hr2:m≤R∨n≤R:=by omega
 have hW1:=hWk;have hWle:=Nat.le_refl (kk K R);unfold ZWg;refine ZH (Zhr (by omega) (by omega)) ?_;refine ZH (y:=vx m B) (ZKh (by rw [Zj];omega)) ?_;refine ZH (y:=vx n C) (ZKh (by rw [Zj];omega)) ?_;refine ZH (Ztc 0) ?_;refine ZH (y:=(mx m n A,vx m B,vx n C,((0:Int):Rat),[],vx n fun k=>(k:Int))) (Z1 (fun k=>((k:Int),mx m n A,vx m B,vx n C,((0:Int):Rat),[],vx k fun k=>(k:Int))) n rfl (by omega) (fun k hk=>?_) ?_) ?_
 ·show ifb (decide ((k:Int)<((vx n C).length:Int))) _ _=_;rw [Zj,decide_eq_true (by omega),Zd];have e:(vx k fun k=>(k:Int))++[(k:Int)]=vx (k+1) fun k=>(k:Int):=Zbc k _;show bnd (ZF 8 ((vx k fun k=>(k:Int))++[(k:Int)])) _=_;rw [Zra (by rw [e,Zj];omega),Za,Zl (by omega) (by omega),Za];exact congrArg (fun x=>some (Sum.inl ((_:Int),_,_,_,_,_,x))) e
 ·show ifb (decide ((n:Int)<((vx n C).length:Int))) _ _=_;rw [Zj,decide_eq_false (by omega),Ze]
 refine ZH (y:=tbl m n (st0 n A B C)) (Z1 (fun i=>((i:Int),mx m n A,vx m B,vx n C,((0:Int):Rat),(vx i fun i=>((n+i:Nat):Int)),vx n fun k=>(k:Int))) m rfl (by omega) (fun i hi=>?_) ?_) ?_
 ·show ifb (decide ((i:Int)<((vx m B).length:Int))) _ _=_;rw [Zj,decide_eq_true (by omega),Zd];have e:(vx i fun i=>((n+i:Nat):Int))++[((n+i:Nat):Int)]=vx (i+1) fun i=>((n+i:Nat):Int):=Zbc i _;simp only [Zj];rw [show (n:Int)+(i:Int)=((n+i:Nat):Int) by omega,Zl (by omega) (by omega),Za,Zra (by rw [e,Zj];omega),Za,Zl (by omega) (by omega),Za];exact congrArg (fun x=>some (Sum.inl ((_:Int),_,_,_,_,x,_))) e
 ·show ifb (decide ((m:Int)<((vx m B).length:Int))) _ _=_;rw [Zj,decide_eq_false (by omega),Ze];rfl
 refine ZH (Ztc 0) ?_;obtain ⟨z,g1,g2⟩:=Zkx hr (C:=C) (P:=(mx m n A,vx m B,vx n C)) rfl c0 hK1 hm hn hN hS;refine ZH g1 ?_;rcases g2 with ⟨T4,rfl,hA4,hE4,hF4⟩ | ⟨t,y,rfl,hy,hys⟩
 ·show ∃ z,ifb false _ _=some z∧_;rw [Ze];obtain ⟨z,r1,T5,e,rfl,hA5,hE5,hF5,hend⟩:=ZAv hr2 (last:=(-1:Int)) (lst:=n+m) (ZAm (A:=A) (B:=B) (C:=C)) c0 hE4 hA4 hF4 (by omega) (by omega) (by omega) (by omega) hK1 (fun u _=>by omega) (fun T' a1 a2 _ j hj e=>by have:=a1.fl j hj;omega);refine ZH (y:=(tbl m n T5,e)) (Zs r1 rfl) ?_;have s5:=(Zxk hr2 ZAm c0 hA5 hE5).sz;obtain ⟨hfe,hvx⟩:=feas_of hA5 hE5 hF5;have hxs:∀ k,k<n→sz (kk K R) (ZV m T5 k):=fun k hk=>(valu_sz hA5 s5.b hW1 (by omega)).mono hWle;rcases hend with ⟨rfl,hz⟩ | ⟨c,rfl,hc,hu⟩
  ·rw [show (decide ((-1:Int)<0))=true from rfl,Zd];refine ZH (y:=vx n (ZV m T5)) (by simp only [Zj];exact Znu hA5 (by omega) (by omega)) ?_;refine ZH (y:=vx m (Z3 n T5 n)) (by simp only [Zj];exact Zmx hA5 (by omega) (by omega) (by omega) (by omega)) ?_;obtain ⟨hd,hvy⟩:=dual_of hA5 hE5 hz;exact ⟨_,rfl,.inr (.inl ⟨_,_,T5.v,rfl,hfe,hvx,hd,hvy,hxs,fun i hi=>(ZUf (zz_sz hA5 s5.z hW1 _)).mono hWle,s5.v.mono hWle⟩)⟩
  ·rw [decide_eq_false (show ¬ (c:Int)<0 by omega),Ze];refine ZH (Ztc 0) ?_;refine ZH (y:=vx n fun _=>(0:Rat)) (by simp only [Zj];exact Zaj (by omega)) ?_;refine ZH (Zq _ hc.lt) ?_
   let dk:Nat→Nat→Rat:=fun i u=>if T5.fr c=u then 1 else-sm i fun i=>if T5.bs i=u then T5.a i c else 0
   refine ZH (y:=vx n (dk 0)) ?_ ?_
   ·by_cases hcn:T5.fr c<n
    ·simp only [Zj];rw [decide_eq_true (by omega),Zd,Ztc,Za,Zq _ hcn,Za];simp only [Int.toNat_natCast];rw [ZCa];refine congrArg some (ZA fun u hu=>?_);show _=if T5.fr c=u then (1:Rat) else -0;by_cases e:u=T5.fr c
     ·rw [if_pos e,if_pos e.symm];rfl
     ·rw [if_neg e,if_neg fun e2=>e e2.symm];rfl
    ·simp only [Zj];rw [decide_eq_false (by omega),Ze];refine congrArg some (ZA fun u hu=>?_);show _=if T5.fr c=u then (1:Rat) else -0;rw [if_neg (by omega)];rfl
   ·refine ZH (y:=vx n (dir m T5 c)) (Z1 (fun i=>((i:Int),vx n (dk i))) m rfl (by omega) (fun i hi=>?_) ?_) ?_
    ·show ifb (decide ((i:Int)<((vx m fun i=>(T5.bs i:Int)).length:Int))) (bnd (idx (vx m fun i=>(T5.bs i:Int)) (i:Int)) _) _=_;rw [Zj,decide_eq_true (by omega),Zd,Zq _ hi,Za];refine Zs (y:=vx n (dk (i+1))) ?_ (by rw [Zl (by omega) (by omega),Za];rfl);have hne:T5.fr c≠T5.bs i:=fun e=>hA5.d i c hi hc.lt e.symm;have step:∀ u,dk (i+1) u=if T5.bs i=u then-T5.a i c else dk i u:=fun u=>by
      show (if T5.fr c=u then (1:Rat) else-(sm i (fun i=>if T5.bs i=u then T5.a i c else 0)+if T5.bs i=u then T5.a i c else 0))=_;by_cases e:T5.bs i=u
      ·rw [if_pos e,if_pos e,if_neg (by rw [← e];exact hne),Zia fun j hj=>if_neg fun e2=>by have:=hA5.bi j i (by omega) hi (e2.trans e.symm);omega];grind
      ·rw [if_neg e,if_neg e];show _=if T5.fr c=u then (1:Rat) else-sm i fun i=>if T5.bs i=u then T5.a i c else 0;rw [Rat.add_zero]
     by_cases hb:T5.bs i<n
     ·simp only [Zj];rw [decide_eq_true (by omega),Zd];show bnd (idx (mx m n T5.a) (i:Int)) _=_;rw [Z2a _ hi,Za,Zq _ hc.lt,Za];unfold Zib;rw [Za,Zq _ hb,Za];simp only [Int.toNat_natCast];rw [ZCa];refine congrArg some (ZA fun u hu=>?_);rw [step u];by_cases e:u=T5.bs i
      ·rw [if_pos e,if_pos e.symm]
      ·rw [if_neg e,if_neg fun e2=>e e2.symm]
     ·simp only [Zj];rw [decide_eq_false (by omega),Ze];refine congrArg some (ZA fun u hu=>?_);rw [step u,if_neg (by omega)]
    ·show ifb (decide ((m:Int)<((vx m fun i=>(T5.bs i:Int)).length:Int))) _ _=_;rw [Zj,decide_eq_false (by omega),Ze];rfl
    refine ZH (y:=vx n (ZV m T5)) (by simp only [Zj];exact Znu hA5 (by omega) (by omega)) ?_;exact ⟨_,rfl,.inr (.inr ⟨_,_,rfl,hfe,ray_of hA5 hE5 hc hu,hxs,fun k hk=>(dir_sz hA5 hc.lt (fun i hi=>s5.a i c hi hc.lt) hW1 (by omega)).mono hWle⟩)⟩
 ·show ∃ z,ifb true _ _=some z∧_;rw [Zd];exact ⟨_,rfl,.inl ⟨y,rfl,hy,hys⟩⟩
theorem sz_lt {k:Nat} {x:Rat} (h:sz k x):x.num.natAbs<2^k∧x.den<2^k:=by
 have h1:=ZOc x.num.natAbs;have h2:=ZOc x.den;have h3:=Nat.pow_le_pow_right (show 0<2 by omega) h.1;have h4:=Nat.pow_le_pow_right (show 0<2 by omega) h.2;omega
theorem ZGt {k:Nat}:∀ l:List Rat,(∀ x,x ∈ l→sz k x)→∃ D:Int,D≠0∧D.natAbs<2^(k*l.length+1)∧∀ x,x ∈ l→∃ N:Int,x=(N:Rat) / (D:Rat)∧N.natAbs<2^(k*l.length+1)
 | [],_=>⟨1,by omega,by simp,fun x hx=>by simp at hx⟩
 | y :: l,h=>by
  obtain ⟨D,d0,d1,d2⟩:=ZGt l fun x hx=>h x (by simp [hx])
  obtain ⟨y1,y2⟩:=sz_lt (h y (by simp))
  have e:2^(k*(y :: l).length+1)=2^(k*l.length+1)*2^k:=by rw [← Nat.pow_add,List.length_cons,Nat.mul_succ];congr 1;omega
  have hD':(D:Rat)≠0:=fun e=>d0 (Rat.intCast_inj.1 (by rw [e];rfl))
  have hy:(y.den:Int)≠0:=by have:=y.den_nz;omega
  have hy':((y.den:Int):Rat)≠0:=fun e=>hy (Rat.intCast_inj.1 (by rw [e];rfl))
  have yv:y=(y.num:Rat) / ((y.den:Int):Rat):=by rw [← Rat.divInt_eq_div,Rat.num_divInt_den]
  refine ⟨D*y.den,fun e=>?_,?_,fun x hx=>?_⟩
  ·rcases Int.mul_eq_zero.1 e with h | h
   ·exact d0 h
   ·exact hy h
  ·have:=ZHc d1 (b:=(y.den:Int)) (B:=2^k) (by simpa using y2);omega
  ·rcases List.mem_cons.1 hx with rfl | hx
   ·refine ⟨D*x.num,?_,?_⟩
    ·rw [Rat.intCast_mul,Rat.intCast_mul]
     generalize ((x.den:Int):Rat)=d at *
     generalize (x.num:Rat)=m at *
     grind
    ·have:=ZHc d1 y1;omega
   ·obtain ⟨N,n1,n2⟩:=d2 x hx
    refine ⟨N*y.den,?_,?_⟩
    ·rw [Rat.intCast_mul,Rat.intCast_mul,n1]
     generalize ((y.den:Int):Rat)=d at *
     grind
    ·have:=ZHc n2 (b:=(y.den:Int)) (B:=2^k) (by simpa using y2);omega
theorem CD_of {k R n:Nat} {M:Mx} (h:∀ i j,i<R→j<n→sz k (M i j)):CD (k*(R*n)+1) R n M:=by
 have hl:∀ x,x ∈ (List.range (R*n)).map (fun t=>M (t / n) (t%n))→sz k x:=fun x hx=>by
  obtain ⟨t,ht,rfl⟩:=List.mem_map.1 hx;have ht:=List.mem_range.1 ht;have hn:0<n:=Nat.pos_of_ne_zero fun e=>by rw [e] at ht;simp at ht
  exact h _ _ (Nat.div_lt_of_lt_mul (by rw [Nat.mul_comm];exact ht)) (Nat.mod_lt _ hn)
 obtain ⟨D,d0,d1,d2⟩:=ZGt _ hl;simp only [List.length_map,List.length_range] at d1 d2;refine ⟨D,d0,d1,fun i j hi hj=>d2 _ (List.mem_map.2 ⟨i*n+j,List.mem_range.2 ?_,?_⟩)⟩
 ·have:=Nat.mul_le_mul_right n (show i+1≤R from hi);rw [Nat.succ_mul] at this;omega
 ·rw [Nat.mul_comm i n,Nat.mul_add_div (by omega),Nat.div_eq_of_lt hj,Nat.mul_add_mod,Nat.mod_eq_of_lt hj];simp
theorem st0_cd {m n k:Nat} {A:Mx} {B C:Nat→Rat} (hA:∀ i j,i<m→j<n→sz k (A i j)) (hB:∀ i,i<m→sz k (B i)) (hC:∀ j,j<n→sz k (C j)) (hk:1≤k):(st0 n A B C).cd (k*((m+1)*(n+1))+1) m n:=by
 have h:=CD_of (k:=k) (R:=m+1) (n:=n+1) (M:=fun i j=>if i<m then (if j<n then A i j else B i) else if j<n then C j else 0) fun i j hi hj=>by
  show sz k (if i<m then (if j<n then A i j else B i) else if j<n then C j else 0);split
  ·rename_i h1;split
   ·rename_i h2;exact hA i j h1 h2
   ·exact hB i h1
  ·split
   ·rename_i h2;exact hC j h2
   ·exact ZHb.mono hk
 obtain ⟨D,d0,d1,d2⟩:=h;simp only at d2;refine ⟨D,d0,d1,fun i j hi hj=>?_,fun i hi=>?_,fun j hj=>?_,?_⟩
 ·have:=d2 i j (by omega) (by omega);rw [if_pos hi,if_pos hj] at this;exact this
 ·have:=d2 i n (by omega) (by omega);rw [if_pos hi,if_neg (by omega)] at this;exact this
 ·have:=d2 m j (by omega) (by omega);rw [if_neg (by omega),if_pos hj] at this;exact this
 ·exact ⟨0,by rw [Rat.div_def];exact (Rat.zero_mul _).symm,Nat.two_pow_pos _⟩
set_option maxRecDepth 100000
theorem rt_sz {m:List (List (Int×Int))} (hm:∀ r,r ∈ m→∀ x,x ∈ r→i64 x) (i j:Nat):sz 64 (rt m i j):=by
 unfold rt;refine Zfs ?_;rw [List.getD_eq_getElem?_getD]
 cases h:(m.getD i [])[j]? with
 | none=>exact ⟨by decide,by decide⟩
 | some x =>
  have hx:x ∈ m.getD i []:=List.mem_of_getElem? h;rw [List.getD_eq_getElem?_getD] at hx
  cases h2:m[i]? with
  | none=>rw [h2] at hx;simp at hx
  | some r=>rw [h2] at hx;exact hm r (List.mem_of_getElem? h2) x hx
theorem rv_sz {l:List (Int×Int)} (hl:∀ x,x ∈ l→i64 x) (j:Nat):sz 64 (rv l j):=by
 unfold rv;refine Zfs ?_;rw [List.getD_eq_getElem?_getD]
 cases h:l[j]? with
 | none=>exact ⟨by decide,by decide⟩
 | some x=>exact hl x (List.mem_of_getElem? h)
set_option maxRecDepth 100000
variable {m n:Nat} {A:Mx} {B C:Nat→Rat}
def aw (k m n R:Nat):Nat:=kk (k*((m+1)*(n+1))+1) R
theorem lmax_sz {k R:Nat} (hr:m≤R∨n+1≤R) (hA:∀ i j,i<m→j<n→sz k (A i j)) (hB:∀ i,i<m→sz k (B i)) (hC:∀ j,j<n→sz k (C j)) (hk:1≤k) (hm:m≤100) (hn:n≤100) (hN:n+m+1≤60) (hS:(n+1)*((k*((m+1)*(n+1))+1)+aw k m n R+2)≤137438953472) :
  ∃ z,ZWg (mx m n A,vx m B,vx n C)=some z∧Zcf m n (aw k m n R) A B C z :=
 Zky hr (st0_cd hA hB hC hk) (by omega) hm hn hN hS
noncomputable def ZSf (l:List (Int×Int)):Option Bool :=
 bnd (Zg (σ:=Int) (ρ:=Unit ⊕ Bool) (fun b =>
 ifb (decide (b<(l.length:Int)))
 (bnd (idx l b) fun a =>
 bnd (α:=Bool)
 (ifb (decide ((1048576:Int)<(max a.1 a.2)))
 (some true)
 (some (decide ((min a.1 a.2)<(-1048576:Int))))) fun c =>
 ifb c
 (some (.inr (.inr false)))
 (bnd (chk .i64 (b+(1:Int))) fun d =>
 some (.inl d)))
 (some (.inr (.inl ()))))
  Zi (0:Int)) fun e =>
 match e with
| .inl g=>(some true)
| .inr f=>(some f)
noncomputable def ZLj (m:List (List (Int×Int))):Option Bool :=
 ifb (decide ((6:Int)<(m.length:Int)))
 (bnd (α:=Bool)
 (ifb (decide ((32:Int)<(m.length:Int)))
 (some (decide ((m.length:Int)<(200:Int))))
 (some false)) fun c =>
 some c)
 (bnd (Zg (σ:=Int) (ρ:=Unit ⊕ Bool) (fun b =>
 ifb (decide (b<(m.length:Int)))
 (bnd (idx m b) fun a =>
 bnd (α:=Bool)
 (ifb (decide ((6:Int)<(a.length:Int)))
 (ifb (decide ((a.length:Int)≤(32:Int)))
 (some true)
 (ifb (decide ((200:Int)<(a.length:Int)))
 (some true)
 (ifb (decide ((3:Int)<(m.length:Int)))
 (bnd (ZSf a) fun d =>
 some (!d))
 (some false))))
 (ifb (decide ((200:Int)<(a.length:Int)))
 (some true)
 (ifb (decide ((3:Int)<(m.length:Int)))
 (bnd (ZSf a) fun e =>
 some (!e))
 (some false)))) fun f =>
 ifb f
 (some (.inr (.inr false)))
 (bnd (chk .i64 (b+(1:Int))) fun g =>
 some (.inl g)))
 (some (.inr (.inl ()))))
   Zi (0:Int)) fun h =>
  match h with
| .inl j=>(some true)
| .inr i=>(some i))
set_option maxRecDepth 100000
def okM {α:Type} (m:List (List α)):Prop:=m.length≤32∧(m.headD []).length≤32∧∀ r,r ∈ m→r.length=(m.headD []).length
instance {α:Type} (m:List (List α)):Decidable (okM m):=inferInstanceAs (Decidable (_∧_∧_))
theorem ZVv {α:Type} {m:List (List α)} (h:0<m.length):(m.headD []).length=m[0].length:=by
 cases m with
 | nil=>simp at h
 | cons a l=>rfl
theorem Zry (l:List (Int×Int)) (hl:l.length≤1048576):∃ b,ZSf l=some b∧True:=by
 unfold ZSf;refine ZXe (fun k s=>s=(k:Int)) (fun _=>True) l.length rfl (by omega) (fun k s hk hs=>?_) (fun r _=>by cases r <;> exact ⟨_,rfl,trivial⟩);subst hs;by_cases hlt:k<l.length
 ·rw [decide_eq_true (by omega),Zd,Zy hlt,Za];have:∃ q:Bool,(ifb (decide ((1048576:Int)<(max l[k].1 l[k].2))) (some true) (some (decide ((min l[k].1 l[k].2)<(-1048576:Int)))):Option Bool)=some q:=by
   by_cases e:(1048576:Int)<(max l[k].1 l[k].2)
   ·rw [decide_eq_true e,Zd];exact ⟨_,rfl⟩
   ·rw [decide_eq_false e,Ze];exact ⟨_,rfl⟩
  obtain ⟨q,hq⟩:=this;rw [hq,Za]
  cases q with
  | true=>right;exact ⟨_,Zd _ _,trivial⟩
  | false=>left;exact ⟨_,hlt,by rw [Ze,Zl (by omega) (by omega),Za],by simp⟩
 ·right;rw [decide_eq_false (by omega),Ze];exact ⟨_,rfl,trivial⟩
theorem Z9x (l:List (Int×Int)) (hl:l.length≤1048576):∃ b,ZSf l=some b:=by
 obtain ⟨b,h,_⟩:=Zry l hl;exact ⟨b,h⟩
theorem ZSz (m:List (List (Int×Int))) (hr:∀ r,r ∈ m→r.length≤1048576):∃ b,ZLj m=some b∧(b=true→m.length<200∧(okM m→m.length≤6∧(m.headD []).length≤6)):=by
 unfold ZLj;by_cases h6:6<m.length
 ·rw [decide_eq_true (by omega),Zd];by_cases h32:32<m.length
  ·refine ⟨decide ((m.length:Int)<200),by rw [decide_eq_true (by omega),Zd,Za],fun h=>⟨by have:=of_decide_eq_true h;omega,fun h=>absurd h.1 (by omega)⟩⟩
  ·exact ⟨false,by rw [decide_eq_false (by omega),Ze,Za],fun h=>by cases h⟩
 ·rw [decide_eq_false (by omega),Ze];refine ZXe (fun k s=>s=(k:Int)∧∀ i,(hi:i<m.length)→i<k→¬ (6<m[i].length∧m[i].length≤32)) (fun r=>r = .inr false ∨ ∀ i,(hi:i<m.length)→¬ (6<m[i].length∧m[i].length≤32)) m.length ⟨rfl,fun i hi h=>by omega⟩ (by omega) (fun k s hk hs=>?_) (fun r hq=>?_)
  ·obtain ⟨rfl,hs⟩:=hs;by_cases hlt:k<m.length
   ·rw [decide_eq_true (by omega),Zd,Zy hlt,Za];have hb:=Z9x m[k] (hr _ (List.getElem_mem hlt));obtain ⟨bb,hb⟩:=hb;have tl:∀ (g:Bool→Option (Int ⊕ (Unit ⊕ Bool))),∃ q:Bool,(ifb (decide ((200:Int)<(m[k].length:Int))) (some true) (ifb (decide ((3:Int)<(m.length:Int))) (bnd (ZSf m[k]) fun y4=>some (!y4)) (some false)):Option Bool)=some q:=fun _=>by
     rw [hb,Za];by_cases e:(200:Int)<(m[k].length:Int)
     ·rw [decide_eq_true e,Zd];exact ⟨_,rfl⟩
     ·rw [decide_eq_false e,Ze];by_cases e2:(3:Int)<(m.length:Int)
      ·rw [decide_eq_true e2,Zd];exact ⟨_,rfl⟩
      ·rw [decide_eq_false e2,Ze];exact ⟨_,rfl⟩
    obtain ⟨q,hq⟩:=tl fun _=>none;rw [hq];have fin:∀ q:Bool,¬ (6<m[k].length∧m[k].length≤32)→(∃ s',k<m.length∧(bnd (some q) fun x6=>ifb x6 (some (Sum.inr (Sum.inr false))) (bnd (chk .i64 ((k:Int)+(1:Int))) fun y7=>some (Sum.inl y7)):Option (Int ⊕ (Unit ⊕ Bool)))=some (.inl s')∧s'=((k+1:Nat):Int)∧∀ i,(hi:i<m.length)→i<k+1→¬ (6<m[i].length∧m[i].length≤32)) ∨ ∃ r,(bnd (some q) fun x6=>ifb x6 (some (Sum.inr (Sum.inr false))) (bnd (chk .i64 ((k:Int)+(1:Int))) fun y7=>some (Sum.inl y7)):Option (Int ⊕ (Unit ⊕ Bool)))=some (.inr r)∧(r = .inr false ∨ ∀ i,(hi:i<m.length)→¬ (6<m[i].length∧m[i].length≤32)):=fun q hg=>by
     cases q with
     | true=>right;exact ⟨_,by rw [Za,Zd],.inl rfl⟩
     | false =>
      left;refine ⟨_,hlt,by rw [Za,Ze,Zl (by omega) (by omega),Za],by simp,fun i hi h=>?_⟩;by_cases e:i=k
      ·subst e;exact hg
      ·exact hs i hi (by omega)
    by_cases e6:6<m[k].length
    ·rw [decide_eq_true (show (6:Int)<(m[k].length:Int) by omega),Zd];by_cases e32:m[k].length≤32
     ·right;exact ⟨_,by rw [decide_eq_true (show (m[k].length:Int)≤32 by omega),Zd,Za,Zd],.inl rfl⟩
     ·rw [decide_eq_false (show ¬ (m[k].length:Int)≤32 by omega),Ze];exact fin q fun h=>e32 h.2
    ·rw [decide_eq_false (show ¬ (6:Int)<(m[k].length:Int) by omega),Ze];exact fin q fun h=>e6 h.1
   ·right;rw [decide_eq_false (by omega),Ze];exact ⟨_,rfl,.inr fun i hi=>hs i hi (by omega)⟩
  ·rcases hq with rfl | hq
   ·exact ⟨false,rfl,fun h=>by cases h⟩
   ·have fin:m.length<200∧(okM m→m.length≤6∧(m.headD []).length≤6):=⟨by omega,fun ho=>⟨by omega,by
     by_cases h0:0<m.length
     ·have h1:=hq 0 h0;have h2:=ho.2.1;rw [ZVv h0] at h2 ⊢;omega
     ·rw [List.length_eq_zero_iff.1 (show m.length=0 by omega)];simp⟩⟩
    cases r with
    | inl u=>exact ⟨true,rfl,fun _=>fin⟩
    | inr b=>exact ⟨b,rfl,fun _=>fin⟩
noncomputable def Zvd (l:List (Int×Int)):Option (List (Rat×Rat×Rat×Rat)) :=
 bnd (Zg (σ:=(List (Rat×Rat×Rat×Rat))×Int) (ρ:=List (Rat×Rat×Rat×Rat)) (fun a =>
 ifb (decide (a.2<(l.length:Int)))
 (bnd (idx l a.2) fun c =>
 bnd (rofF c) fun d =>
 bnd (ZHd d) fun b =>
 bnd (ZF 224 (a.1++[b])) fun _ =>
 bnd (chk .i64 (a.2+(1:Int))) fun e =>
 some (.inl (a.1++[b],e)))
 (some (.inr a.1)))
  Zi (([]:List (Rat×Rat×Rat×Rat)),(0:Int))) fun f =>
 some f
noncomputable def Zah (m:List (List (Int×Int))):Option (List (List (Rat×Rat×Rat×Rat))) :=
 bnd (mk 24 (m.length:Int) (m.length:Int)) fun _ =>
 bnd (Zg (σ:=Int×(List (List (Rat×Rat×Rat×Rat)))) (ρ:=List (List (Rat×Rat×Rat×Rat))) (fun a =>
 ifb (decide (a.1<(m.length:Int)))
 (bnd (idx m a.1) fun b =>
 bnd (Zvd b) fun c =>
 bnd (idx a.2 a.1) fun f =>
 bnd (chk .i64 (a.1+(1:Int))) fun d =>
 some (.inl (d,a.2.set a.1.toNat c)))
 (some (.inr a.2)))
  Zi ((0:Int),List.replicate (m.length:Int).toNat ([]:List (Rat×Rat×Rat×Rat)))) fun e =>
 some e
noncomputable def Zvv (a:List (List (Int×Int))) (b:List (Int×Int)) (c:List (Int×Int)):Option (((List (List Rat))×(List Rat)×(List Rat))×((List (List (Rat×Rat×Rat×Rat)))×(List (Rat×Rat×Rat×Rat))×(List (Rat×Rat×Rat×Rat)))) :=
 bnd (Znf a) fun d =>
 bnd (Zjf b) fun e =>
 bnd (Zjf c) fun f =>
 bnd (Zah a) fun g =>
 bnd (Zvd b) fun h =>
 bnd (Zvd c) fun i =>
 some ((d.1,e.1,f.1),(g,h,i))
set_option maxRecDepth 100000
theorem Z0n (l:List (Int×Int)) (hl:l.length≤1048576):Zvd l=some (l.map fun r=>sq (Zx r)):=by
 unfold Zvd rofF;rw [ZKc (0,0) fun r=>sq (Zx r)];have e:∀ {α:Type} (f:Int×Int→α) (k:Nat) (hk:k<l.length),vx k (fun i=>f (l.getD i (0,0)))++[f l[k]]=vx (k+1) fun i=>f (l.getD i (0,0)):=fun f k hk=>by
  rw [← Zbc];simp [List.getD_eq_getElem?_getD,hk]
 refine Zs (y:=vx l.length fun i=>sq (Zx (l.getD i (0,0)))) (Z1 (fun k=>(vx k (fun i=>sq (Zx (l.getD i (0,0)))),(k:Int))) l.length rfl (by omega) (fun k hk=>?_) ?_) rfl
 ·simp only;rw [decide_eq_true (by omega),Zd,Zy hk,Za,Za,Zvl,Za,e (fun r=>sq (Zx r)) k hk,Zra (by rw [Zj];omega),Za,Zl (by omega) (by omega),Za];rfl
 ·simp only;rw [decide_eq_false (by omega),Ze]
theorem ZvA (m:List (List (Int×Int))) (hm:m.length≤1000) (hr:∀ r,r ∈ m→r.length≤1048576):Zah m=some (m.map (·.map fun r=>sq (Zx r))):=by
 unfold Zah;rw [Zzk (by omega) (by omega),Za,ZKc [] (·.map fun r=>sq (Zx r)) m];refine Zs (y:=vx m.length fun i=>(m.getD i []).map fun r=>sq (Zx r)) (Z1 (fun k=>((k:Int),vx m.length (fun i=>if i<k then (m.getD i []).map (fun r=>sq (Zx r)) else []))) m.length ?_ (by omega) (fun k hk=>?_) ?_) rfl
 ·simp only [Int.toNat_natCast,Zsk];exact Prod.ext rfl (ZA fun i hi=>if_neg (by omega))
 ·simp only;have hk':m.getD k []=m[k]:=by simp [List.getD_eq_getElem?_getD,hk]
  rw [decide_eq_true (by omega),Zd,Zy hk,Za,Z0n _ (hr _ (List.getElem_mem hk)),Za,Zq _ hk,Za,Zl (by omega) (by omega),Za];simp only [Int.toNat_natCast,ZCa];refine congrArg (fun x=>some (Sum.inl x)) (Prod.ext (by simp) (ZA fun i hi=>?_));by_cases e:i=k
  ·rw [if_pos e,if_pos (by omega),e,hk']
  ·rw [if_neg e];by_cases e2:i<k
   ·rw [if_pos e2,if_pos (by omega)]
   ·rw [if_neg e2,if_neg (by omega)]
 ·simp only;rw [decide_eq_false (by omega),Ze];exact congrArg (fun x=>some (Sum.inr x)) (ZA fun i hi=>if_pos hi)
noncomputable def ZQu (m:List (List Rat)):Option ((List (List Rat))×(List Int)×Int) :=
 bnd (Zjg m) fun b =>
 ifb (!b)
 (some (([]:List (List Rat)),([]:List Int),(4:Int)))
 (bnd (Z8l m) fun a =>
 some (a.1,a.2.1,(0:Int)))
noncomputable def Zup (l:(List Int)) (v:Int):Option (Int) :=
 bnd (bnd (Zg (fun s:Int=>match s with
| a =>
 (ifb (decide (a<(l.length:Int)))
 (bnd (idx l a) fun b =>
 ifb (v==b)
 (some (.inr ((.inl a))))
 (bnd (chk .i64 (a+(1:Int))) fun c =>
 some (.inl c)))
 (some (.inr ((.inr (()))))))) Zi (0:Int))
 (fun (p:(Int) ⊕ (Unit))=>match p with
| .inl d =>
 (some ((.inr d)))
| .inr (()) =>
 (some ((.inl (()))))))
 (fun (p:(Unit) ⊕ (Int))=>match p with
| .inl (()) =>
 (some (-1:Int))
| .inr e =>
 (some e))
noncomputable def ZOs (l:(List Int)) (v:Int):Option (Bool) :=
 bnd (Zup l v) fun a =>
 some (decide ((0:Int)≤a))
noncomputable def Z2t (m:List (List Rat)):Option ((List (List Rat))×Int) :=
 bnd (Zjg m) fun g =>
 ifb (!g)
 (some (([]:List (List Rat)),(4:Int)))
 (bnd (Z8l m) fun c =>
 bnd (ZMc m) fun h =>
 bnd (Zg (σ:=(List (List Rat))×Int) (ρ:=List (List Rat)) (fun a =>
 ifb (decide (a.2<h))
 (bnd (α:=List (List Rat))
 (bnd (ZOs c.2.1 a.2) fun i =>
 ifb i
 (some a.1)
 (bnd (ZMc m) fun j =>
 bnd (ZUa (0:Int)) fun k =>
 bnd (ZWc 56 [k] j) fun d =>
 bnd (ZUa (1:Int)) fun l =>
 bnd (idx d a.2) fun u =>
 bnd (Zg (σ:=Int×(List Rat)) (ρ:=List Rat) (fun b =>
 ifb (decide (b.1<(c.2.1.length:Int)))
 (bnd (idx c.2.1 b.1) fun e =>
 bnd (idx c.1 b.1) fun n =>
 bnd (idx n a.2) fun o =>
 bnd (Zib o) fun p =>
 bnd (idx b.2 e) fun v =>
 bnd (chk .i64 (b.1+(1:Int))) fun q =>
 some (.inl (q,b.2.set e.toNat p)))
 (some (.inr b.2)))
        Zi ((0:Int),d.set a.2.toNat l)) fun f =>
 bnd (ZF 24 (a.1++[f])) fun _ =>
 some (a.1++[f]))) fun r =>
 bnd (chk .i64 (a.2+(1:Int))) fun s =>
 some (.inl (r,s)))
 (some (.inr a.1)))
   Zi (([]:List (List Rat)),(0:Int))) fun t =>
 some (t,(0:Int)))
noncomputable def ZOu (x:(Rat×Rat×Rat×Rat)×Rat×Rat×Rat×Rat) (y:(Rat×Rat×Rat×Rat)×Rat×Rat×Rat×Rat):Option ((Rat×Rat×Rat×Rat)×Rat×Rat×Rat×Rat) :=
 bnd (Z0e x.1 y.1) fun a =>
 bnd (Z0e x.2 y.2) fun b =>
 some (a,b)
noncomputable def ZVu (x:(Rat×Rat×Rat×Rat)×Rat×Rat×Rat×Rat):Option Bool :=
 bnd (α:=Bool)
 (bnd (ZXg x.1) fun a =>
 ifb a
 (bnd (ZXg x.2) fun b =>
 some b)
 (some false)) fun c =>
 some c
noncomputable def ZTu (x:(Rat×Rat×Rat×Rat)×Rat×Rat×Rat×Rat) (y:(Rat×Rat×Rat×Rat)×Rat×Rat×Rat×Rat):Option Bool :=
 bnd (ZOu x y) fun a =>
 bnd (ZVu a) fun b =>
 some b
noncomputable def is2_m (x:List Rat) (y:List ((Rat×Rat×Rat×Rat)×Rat×Rat×Rat×Rat)):Option Bool :=
 ifb ((x.length:Int) != (y.length:Int))
 (some false)
 (bnd (Zg (σ:=Int) (ρ:=Unit ⊕ Bool) (fun a =>
 ifb (decide (a<(x.length:Int)))
 (bnd (α:=Bool)
 (bnd (idx x a) fun b =>
 bnd (idx y a) fun c =>
 bnd (is1_m b c.1.1) fun d =>
 ifb (!d)
 (some true)
 (bnd (idx y a) fun e =>
 bnd (idx y a) fun f =>
 bnd (Zoi f.1.1) fun g =>
 bnd (ZTu e g) fun h =>
 some (!h))) fun i =>
 ifb i
 (some (.inr (.inr false)))
 (bnd (chk .i64 (a+(1:Int))) fun j =>
 some (.inl j)))
 (some (.inr (.inl ()))))
   Zi (0:Int)) fun k =>
  match k with
| .inl m=>(some true)
| .inr l=>(some l))
noncomputable def Z4l (x:List (List Rat)) (y:List (List ((Rat×Rat×Rat×Rat)×Rat×Rat×Rat×Rat))):Option Bool :=
 ifb ((x.length:Int) != (y.length:Int))
 (some false)
 (bnd (Zg (σ:=Int) (ρ:=Unit ⊕ Bool) (fun a =>
 ifb (decide (a<(x.length:Int)))
 (bnd (idx x a) fun b =>
 bnd (idx y a) fun c =>
 bnd (is2_m b c) fun d =>
 ifb (!d)
 (some (.inr (.inr false)))
 (bnd (chk .i64 (a+(1:Int))) fun e =>
 some (.inl e)))
 (some (.inr (.inl ()))))
   Zi (0:Int)) fun f =>
  match f with
| .inl h=>(some true)
| .inr g=>(some g))
noncomputable def ZCg  : Option Bool :=
 bnd (Znf [[((2:Int),(0:Int)),((4:Int),(0:Int)),((2:Int),(0:Int))],[((1:Int),(0:Int)),((2:Int),(0:Int)),((3:Int),(0:Int))]]) fun c =>
 bnd (ZQu c.1) fun a =>
 bnd (Z2t c.1) fun d =>
 bnd (Znf [[((1:Int),(0:Int)),((2:Int),(0:Int)),((0:Int),(0:Int))],[((0:Int),(0:Int)),((0:Int),(0:Int)),((1:Int),(0:Int))]]) fun f =>
 bnd (Znf [[((-2:Int),(0:Int)),((1:Int),(0:Int)),((0:Int),(0:Int))]]) fun g =>
 bnd (Zvv [[((1:Int),(0:Int)),((1:Int),(0:Int))],[((1:Int),(0:Int)),((0:Int),(0:Int))]] [((4:Int),(0:Int)),((2:Int),(0:Int))] [((3:Int),(0:Int)),((2:Int),(0:Int))]) fun e =>
 bnd (ZCt e.1) fun b =>
 bnd (α:=Bool)
 (ifb (a.2.2==(0:Int))
 (ifb (d.2==(0:Int))
 (ifb (b.2==(0:Int))
 (bnd (Z4l a.1 f.2) fun h =>
 ifb h
 (bnd (Z4l d.1 g.2) fun i =>
 ifb i
 (ifb ((a.2.1.length:Int)==(2:Int))
 (bnd (idx a.2.1 (1:Int)) fun j =>
 ifb (j==(2:Int))
 (ifb (b.1.1==(1:Int))
 (bnd (ZCf b.1.2.1) fun k =>
 ifb (k==([49,48]:List UInt8))
 (bnd (ZHt e.1 b.1) fun l =>
 some l)
 (some false))
 (some false))
 (some false))
 (some false))
 (some false))
 (some false))
 (some false))
 (some false))
 (some false)) fun m =>
 some m
theorem ZFA:ZCg=some true:=by decide +kernel
noncomputable def Zxj (a:List (List (Int×Int))) (b:List (Int×Int)) (c:List (Int×Int)):Option Bool :=
 bnd (α:=Bool)
 (bnd (ZLj a) fun d =>
 ifb d
 (ifb (decide ((b.length:Int)<(200:Int)))
 (some (decide ((c.length:Int)<(200:Int))))
 (some false))
 (some false)) fun e =>
 some e
set_option maxRecDepth 100000
variable {m n:Nat} {A:Mx} {B C:Nat→Rat}
theorem ZPy {m:List (List (Int×Int))} {n:Nat} (h:∀ r,r ∈ m→r.length=n):m.map (·.map fun r=>sq (Zx r))=smx m.length n (rt m):=by
 rw [ZKc []];refine ZA fun i hi=>?_;rw [ZKc (0,0) fun r=>sq (Zx r)];have hk':m.getD i []=m[i]:=by simp [List.getD_eq_getElem?_getD,hi]
 rw [hk',h _ (List.getElem_mem hi),← hk'];rfl
theorem Zop (l:List (Int×Int)):(l.map fun r=>sq (Zx r))=sv l.length (rv l):=ZKc (0,0) (fun r=>sq (Zx r)) l
theorem ZOz (a:List (List (Int×Int))) (b c:List (Int×Int)) (hr:∀ r,r ∈ a→r.length≤1048576):∃ e,Zxj a b c=some e∧(e=true→a.length<200∧(okM a→a.length≤6∧(a.headD []).length≤6)∧b.length<200∧c.length<200):=by
 obtain ⟨e,h1,h2⟩:=ZSz a hr;unfold Zxj;rw [h1,Za]
 cases e with
 | false=>exact ⟨false,by rw [Ze,Za],by simp⟩
 | true =>
  rw [Zd];obtain ⟨h3,h4⟩:=h2 rfl;by_cases hb:b.length<200
  ·rw [decide_eq_true (show (b.length:Int)<(200:Int) by omega),Zd,Za];refine ⟨_,rfl,fun h=>?_⟩;have:=of_decide_eq_true h;exact ⟨h3,h4,hb,by omega⟩
  ·rw [decide_eq_false (show ¬ (b.length:Int)<(200:Int) by omega),Ze,Za];exact ⟨false,rfl,by simp⟩
structure Betw (R n:Nat) (A:Mx) (L H:Nat→Rat) (x:Nat→Rat):Prop where
 nn:∀ k,k<n→0≤x k
 lo:∀ i,i<R→L i≤sm n (fun k=>A i k*x k)
 hi:∀ i,i<R→sm n (fun k=>A i k*x k)≤H i
structure BetwD (R n:Nat) (A:Mx) (L H:Nat→Rat) (u v:Nat→Rat):Prop where
 nu:∀ i,i<R→0≤u i
 nv:∀ i,i<R→0≤v i
 le:∀ k,k<n→0≤sm R (fun i=>(u i-v i)*A i k)
 neg:sm R (fun i=>H i*u i)-sm R (fun i=>L i*v i)<0
noncomputable def ZQf (a:List (List (Rat×Rat×Rat×Rat))) (b:List (Rat×Rat×Rat×Rat)) (c:List (Rat×Rat×Rat×Rat)):Option Bool :=
 bnd (α:=Bool)
 (ifb ((a.length:Int) != (b.length:Int))
 (some true)
 (ifb ((a.length:Int) != (c.length:Int))
 (some true)
 (ifb (decide ((32:Int)<(a.length:Int)))
 (some true)
 (some (decide ((48:Int)<(a.length:Int))))))) fun e =>
 ifb e
 (some false)
 (bnd (Zg (σ:=Int) (ρ:=Unit ⊕ Bool) (fun d =>
 ifb (decide (d<(a.length:Int)))
 (bnd (α:=Bool)
 (bnd (idx a d) fun f =>
 bnd (idx a (0:Int)) fun g =>
 ifb ((f.length:Int) != (g.length:Int))
 (some true)
 (bnd (idx a d) fun h =>
 ifb (decide ((32:Int)<(h.length:Int)))
 (some true)
 (bnd (idx a d) fun i =>
 some (decide ((48:Int)<(i.length:Int)))))) fun j =>
 ifb j
 (some (.inr (.inr false)))
 (bnd (chk .i64 (d+(1:Int))) fun k =>
 some (.inl k)))
 (some (.inr (.inl ()))))
   Zi (0:Int)) fun l =>
  match l with
| .inl n=>(some true)
| .inr m=>(some m))
noncomputable def Zll (a:List (Rat×Rat×Rat×Rat)) (b:List (Rat×Rat×Rat×Rat)):Option (List (Rat×Rat×Rat×Rat)) :=
 bnd (Zg (σ:=(List (Rat×Rat×Rat×Rat))×Int) (ρ:=List (Rat×Rat×Rat×Rat)) (fun c =>
 ifb (decide (c.2<(a.length:Int)))
 (bnd (idx a c.2) fun e =>
 bnd (idx b c.2) fun f =>
 bnd (Z0e e f) fun d =>
 bnd (ZF 224 (c.1++[d])) fun _ =>
 bnd (chk .i64 (c.2+(1:Int))) fun g =>
 some (.inl (c.1++[d],g)))
 (some (.inr c.1)))
  Zi (([]:List (Rat×Rat×Rat×Rat)),(0:Int))) fun h =>
 some h
noncomputable def Zbj (a:List (List (Rat×Rat×Rat×Rat))):Option Int :=
 ifb ((a.length:Int)==(0:Int))
 (some (0:Int))
 (bnd (idx a (0:Int)) fun b =>
 some (b.length:Int))
noncomputable def ZDj (a:List (List (Rat×Rat×Rat×Rat))) (u:List (Rat×Rat×Rat×Rat)) (v:List (Rat×Rat×Rat×Rat)):Option Bool :=
 bnd (α:=Bool)
 (ifb ((u.length:Int) != (a.length:Int))
 (some true)
 (ifb ((v.length:Int) != (a.length:Int))
 (some true)
 (bnd (ZGh u) fun c =>
 ifb (!c)
 (some true)
 (bnd (ZGh v) fun d =>
 some (!d))))) fun e =>
 ifb e
 (some false)
 (bnd (Zg (σ:=Int) (ρ:=Unit ⊕ Bool) (fun b =>
 bnd (Zbj a) fun f =>
 ifb (decide (b<f))
 (bnd (Z6k a b) fun g =>
 bnd (Zll u v) fun h =>
 bnd (Ztf g h) fun i =>
 bnd (ZZe i) fun j =>
 ifb (decide (j<(0:Int)))
 (some (.inr (.inr false)))
 (bnd (chk .i64 (b+(1:Int))) fun k =>
 some (.inl k)))
 (some (.inr (.inl ()))))
   Zi (0:Int)) fun l =>
  match l with
| .inl n=>(some true)
| .inr m=>(some m))
noncomputable def Ztj (a:List (List (Rat×Rat×Rat×Rat))) (lo:List (Rat×Rat×Rat×Rat)) (hi:List (Rat×Rat×Rat×Rat)) (ok:Bool) (x:List (Rat×Rat×Rat×Rat)) (u:List (Rat×Rat×Rat×Rat)) (v:List (Rat×Rat×Rat×Rat)):Option Bool :=
 bnd (ZQf a lo hi) fun d =>
 ifb (!d)
 (some false)
 (ifb (!ok)
 (bnd (α:=Bool)
 (ifb ((x.length:Int)==(0:Int))
 (bnd (ZDj a u v) fun e =>
 ifb e
 (bnd (Ztf hi u) fun f =>
 bnd (Ztf lo v) fun g =>
 bnd (Z0e f g) fun h =>
 bnd (ZZe h) fun i =>
 some (decide (i<(0:Int))))
 (some false))
 (some false)) fun j =>
 some j)
 (bnd (α:=Bool)
 (ifb (decide ((0:Int)<(u.length:Int)))
 (some true)
 (ifb (decide ((0:Int)<(v.length:Int)))
 (some true)
 (bnd (Zbj a) fun k =>
 ifb ((x.length:Int) != k)
 (some true)
 (bnd (ZGh x) fun l =>
 some (!l))))) fun m =>
 ifb m
 (some false)
 (bnd (Zg (σ:=Int) (ρ:=Unit ⊕ Bool) (fun b =>
 ifb (decide (b<(a.length:Int)))
 (bnd (idx a b) fun n =>
 bnd (Ztf n x) fun c =>
 bnd (α:=Bool)
 (bnd (idx lo b) fun o =>
 bnd (ZSh c o) fun p =>
 ifb (decide (p<(0:Int)))
 (some true)
 (bnd (idx hi b) fun q =>
 bnd (ZSh c q) fun r =>
 some (decide ((0:Int)<r)))) fun s =>
 ifb s
 (some (.inr (.inr false)))
 (bnd (chk .i64 (b+(1:Int))) fun t =>
 some (.inl t)))
 (some (.inr (.inl ()))))
     Zi (0:Int)) fun w =>
    match w with
| .inl z=>(some true)
| .inr y=>(some y))))
set_option maxRecDepth 100000
variable {R n K:Nat} {A:Mx} {L H:Nat→Rat}
def Zhc {α β γ:Type} (a:List (List α)) (b:List β) (c:List γ):Prop:=a.length=b.length∧a.length=c.length∧a.length≤32∧(a.headD []).length≤32∧∀ r,r ∈ a→r.length=(a.headD []).length
theorem Zhc.map {α β γ α' β' γ':Type} {a:List (List α)} {b:List β} {c:List γ} (f:α→α') (g:β→β') (h:γ→γ'):Zhc (a.map (·.map f)) (b.map g) (c.map h)↔Zhc a b c:=by
 have e:((a.map (·.map f)).headD []).length=(a.headD []).length:=by cases a <;> simp
 unfold Zhc;rw [e];simp
theorem ZXj {α:Type} {a:List (List α)} (h:0<a.length):a[0]? = some (a.headD []):=by cases a with
 | nil=>cases h
 | cons x r=>rfl
theorem ZCq (a:List (List SR)) (b c:List SR) (ha:a.length≤1000):Dec (ZQf a b c) (Zhc a b c):=by
 unfold ZQf;refine (Zwj (P:=a.length=b.length∧a.length=c.length∧a.length≤32) (Q:=∀ k,k<a.length→∀ r,a[k]? = some r→r.length=(a.headD []).length∧r.length≤32) (Z6c (Zye _ _) fun _=>Z6c (Zye _ _) fun _=>?_) fun h=>?_).congr ⟨fun h=>⟨h.1.1,h.1.2.1,h.1.2.2,?_,fun r hr=>?_⟩,fun h=>⟨⟨h.1,h.2.1,h.2.2.1⟩,fun k hk r hr=>⟨h.2.2.2.2 r (List.mem_of_getElem? hr),by rw [h.2.2.2.2 r (List.mem_of_getElem? hr)];exact h.2.2.2.1⟩⟩⟩
 ·by_cases h:32<a.length
  ·rw [decide_eq_true (show (32:Int)<(a.length:Int) by omega),Zd];exact Z5h (by omega)
  ·rw [decide_eq_false (show ¬ (32:Int)<(a.length:Int) by omega),Ze,decide_eq_false (show ¬ (48:Int)<(a.length:Int) by omega)];exact ZDk (by omega)
 ·refine (Zpn (Q:=True) (ZQn a.length (by omega) (fun k=>∀ r,a[k]? = some r→r.length=(a.headD []).length∧r.length≤32) (fun k hk=>?_) ?_) (fun _=>Z5h trivial) rfl).congr ⟨fun h=>h.1,fun h=>⟨h,trivial⟩⟩
  ·rw [decide_eq_true (by omega),Zd,Zy hk,Za,show (0:Int)=((0:Nat):Int) from rfl,Zym (ZXj (show 0<a.length by omega)),Za,Za,Za];by_cases e:a[k].length=(a.headD []).length
   ·rw [show ((a[k].length:Int) != ((a.headD []).length:Int))=false by simp [e],Ze];by_cases e2:32<a[k].length
    ·rw [decide_eq_true (show (32:Int)<(a[k].length:Int) by omega),Zd,Za,Zd];exact .inr ⟨fun h=>by have:=(h _ (List.getElem?_eq_getElem hk)).2;omega,rfl⟩
    ·rw [decide_eq_false (show ¬ (32:Int)<(a[k].length:Int) by omega),Ze,decide_eq_false (show ¬ (48:Int)<(a[k].length:Int) by omega),Za,Ze,Zl (by omega) (by omega),Za];refine .inl ⟨fun r hr=>?_,rfl⟩;rw [List.getElem?_eq_getElem hk] at hr;cases hr;exact ⟨e,by omega⟩
   ·rw [(Zye _ _).2 e,Zd,Za,Zd];exact .inr ⟨fun h=>e (h _ (List.getElem?_eq_getElem hk)).1,rfl⟩
  ·rw [decide_eq_false (by omega),Ze]
 ·by_cases h0:0<a.length
  ·exact (h.2 0 h0 _ (ZXj h0)).2
  ·have:a=[]:=List.length_eq_zero_iff.1 (by omega);subst this;exact Nat.zero_le 32
 ·obtain ⟨k,hk,e⟩:=List.mem_iff_getElem.1 hr;exact (h.2 k hk r (by rw [List.getElem?_eq_getElem hk,e])).1
theorem Z7n (h0:R=0→n=0):Zbj (smx R n A)=some (n:Int):=by
 unfold Zbj;rw [ZQd];by_cases h:R=0
 ·rw [show ((R:Int)==0)=true by simp [h],Zd,h0 h];rfl
 ·rw [show ((R:Int)==0)=false by simp [h],Ze,show (0:Int)=((0:Nat):Int) from rfl,Zho _ (by omega),Za,ZJb]
theorem ZHv {u v:Nat→Rat} (hu:∀ j,j<R→sz K (u j)) (hv:∀ j,j<R→sz K (v j)) (hR:R≤1000) (hK:2*K+1≤300000000):Zll (sv R u) (sv R v)=some (sv R fun i=>u i-v i):=by
 unfold Zll;refine Zs (Z1 (fun q=>(sv q fun i=>u i-v i,(q:Int))) R rfl (by omega) (fun q hq=>?_) ?_) rfl
 ·simp only [ZJb];have e:(sv q fun i=>u i-v i)++[sq (u q-v q)]=sv (q+1) fun i=>u i-v i:=Zbc q fun i=>sq (u i-v i);rw [decide_eq_true (by omega),Zd,Zef _ hq,Za,Zef _ hq,Za,Zhp (hu q hq) (hv q hq) (by omega),Za,e,Zra (by rw [ZJb];omega),Za,Zl (by omega) (by omega),Za];rfl
 ·simp only [ZJb];rw [decide_eq_false (by omega),Ze]
theorem dif_sz {u v:Nat→Rat} (hA:∀ i j,i<R→j<n→sz K (A i j)) (hu:∀ j,j<R→sz K (u j)) (hv:∀ j,j<R→sz K (v j)) (hR:R≤60) {k:Nat} (hk:k<n):sz (61*(3*K+2)) (sm R fun i=>A i k*(u i-v i)):=by
 have:=smz (n:=R) fun i hi=>ZYa (hA i k hi hk) (ZWh (hu i hi) (hv i hi));refine this.mono ?_;have:R*(K+(K+K+1)+1)≤60*(K+(K+K+1)+1):=Nat.mul_le_mul_right _ hR;omega
theorem ZWz {q r:Nat} {u v:Nat→Rat} (h0:R=0→n=0) (hA:∀ i j,i<R→j<n→sz K (A i j)) (hu:∀ j,j<q→sz K (u j)) (hv:∀ j,j<r→sz K (v j)) (hR:R≤60) (hn:n≤60) (hq:q≤60) (hr:r≤60) (hK:62*(3*K+2)≤700000000) :
  Dec (ZDj (smx R n A) (sv q u) (sv r v)) (q=R∧r=R∧(∀ i,i<R→0≤u i)∧(∀ i,i<R→0≤v i)∧∀ k,k<n→0≤sm R (fun i=>(u i-v i)*A i k)):=by
 unfold ZDj;simp only [ZJb,ZQd];refine (Zwj (P:=q=R∧r=R∧(∀ i,i<q→0≤u i)∧∀ i,i<r→0≤v i) (Q:=∀ k,k<n→0≤sm R (fun i=>(u i-v i)*A i k)) (Z6c (Zye q R) fun _=>Z6c (Zye r R) fun _=>rej_n (ZWm hu (by omega) (by omega)) fun _=>ZNm (ZWm hv (by omega) (by omega))) fun h=>?_).congr ⟨fun h=>⟨h.1.1,h.1.2.1,fun i hi=>h.1.2.2.1 i (by have:=h.1.1;omega),fun i hi=>h.1.2.2.2 i (by have:=h.1.2.1;omega),h.2⟩,fun h=>⟨⟨h.1,h.2.1,fun i hi=>h.2.2.1 i (by have:=h.1;omega),fun i hi=>h.2.2.2.1 i (by have:=h.2.1;omega)⟩,h.2.2.2.2⟩⟩;obtain ⟨rfl,rfl,_⟩:=h;refine (Zpn (Q:=True) (ZQn n (by omega) (fun k=>0≤sm r (fun i=>(u i-v i)*A i k)) (fun k hk=>?_) ?_) (fun _=>Z5h trivial) rfl).congr ⟨fun h=>h.1,fun h=>⟨h,trivial⟩⟩
 ·have e:sm r (fun i=>A i k*(u i-v i))=sm r (fun i=>(u i-v i)*A i k):=Z0 fun i _=>Rat.mul_comm _ _;have zd:∀ j,j<r→sz (K+K+1) (u j-v j):=fun j hj=>ZWh (hu j hj) (hv j hj);rw [Z7n h0,Za,decide_eq_true (by omega),Zd,ZAw hk (by omega),Za,ZHv hu hv (by omega) (by omega),Za,Zur (fun i hi=>hA i k hi hk) zd (by omega) (Nat.le_refl r) (by
   have:(r+1)*(K+(K+K+1)+1)≤61*(K+(K+K+1)+1):=Nat.mul_le_mul_right _ (by omega);omega),Za,ZMl (dif_sz hA hu hv hR hk) (by omega),Za,e]
  by_cases h:0≤sm r (fun i=>(u i-v i)*A i k)
  ·exact .inl ⟨h,by rw [decide_eq_false (fun e=>by have:=(Zab _).1 e;grind),Ze,Zl (by omega) (by omega),Za];rfl⟩
  ·exact .inr ⟨h,by rw [decide_eq_true ((Zab _).2 (Rat.not_le.1 h)),Zd]⟩
 ·rw [Z7n h0,Za,decide_eq_false (by omega),Ze]
def WProv (R n:Nat) (A:Mx) (L H:Nat→Rat) (ok:Bool) (p q r:Nat) (x u v:Nat→Rat):Prop :=
 (ok=true∧q=0∧r=0∧p=n∧Betw R n A L H x)∨(ok=false∧p=0∧q=R∧r=R∧BetwD R n A L H u v)
theorem bnd_sv {b c:Nat→Rat} (h0:R=0→n=0) (hR:R≤32) (hn:n≤32):Zhc (smx R n A) (sv R b) (sv R c):=by
 have hd:((smx R n A).headD []).length=n:=by
  by_cases h:R=0
  ·rw [h,h0 h];rfl
  ·have:=ZXj (a:=smx R n A) (by rw [ZQd];omega);rw [show (smx R n A)[0]? = some (sv n (A 0)) from ZWb _ (by omega)] at this;rw [← Option.some.inj this,ZJb]
 refine ⟨by rw [ZQd,ZJb],by rw [ZQd,ZJb],by rw [ZQd];exact hR,by rw [hd];exact hn,fun r hr=>?_⟩;obtain ⟨i,_,rfl⟩:=List.mem_map.1 hr;rw [hd,ZJb]
theorem Zat {b c:Nat→Rat} (h0:R=0→n=0) (hR:R≤32) (hn:n≤32):ZQf (smx R n A) (sv R b) (sv R c)=some true:=by
 obtain ⟨z,e,h⟩:=ZCq (smx R n A) (sv R b) (sv R c) (by rw [ZQd];omega);rw [e,h.2 (bnd_sv h0 hR hn)]
theorem ZTr {ok:Bool} {p q r:Nat} {x u v:Nat→Rat} (h0:R=0→n=0) (hA:∀ i j,i<R→j<n→sz K (A i j)) (hL:∀ i,i<R→sz K (L i)) (hH:∀ i,i<R→sz K (H i)) (hx:∀ j,j<p→sz K (x j)) (hu:∀ j,j<q→sz K (u j)) (hv:∀ j,j<r→sz K (v j)) (hR:R≤32) (hn:n≤32) (hp:p≤60) (hq:q≤60) (hr:r≤60) (hK:62*(3*K+2)≤150000000) :
  Dec (Ztj (smx R n A) (sv R L) (sv R H) ok (sv p x) (sv q u) (sv r v)) (WProv R n A L H ok p q r x u v):=by
 unfold Ztj;rw [Zat h0 hR hn,Za,Z5g];simp only [ZJb,ZQd];have hK2:62*(2*K+1)≤300000000:=by omega
 cases ok with
 | false =>
  rw [ZBg];refine (ZHf (ZJe (P:=p=0) (beqN0 p) fun _=>Zii (ZWz h0 hA hu hv (by omega) (by omega) hq hr (by omega)) fun h=>?_)).congr (P:=p=0∧(q=R∧r=R∧(∀ i,i<R→0≤u i)∧(∀ i,i<R→0≤v i)∧∀ k,k<n→0≤sm R (fun i=>(u i-v i)*A i k))∧sm R (fun i=>H i*u i)-sm R (fun i=>L i*v i)<0) ⟨fun h=>.inr ⟨rfl,h.1,h.2.1.1,h.2.1.2.1,h.2.1.2.2.1,h.2.1.2.2.2.1,h.2.1.2.2.2.2,h.2.2⟩,fun h=>?_⟩
  ·obtain ⟨rfl,rfl,_⟩:=h;rw [Z9l hH hu hq (Nat.le_refl _) hK2,Za,Z9l hL hv hr (Nat.le_refl _) hK2,Za,Zhp (ZAd hH hu hq) (ZAd hL hv hr) (by omega),Za];exact sign_lt (ZWh (ZAd hH hu hq) (ZAd hL hv hr)) (by omega)
  ·rcases h with h | h
   ·exact absurd h.1 (by decide)
   ·obtain ⟨_,h1,h2,h3,h4⟩:=h;exact ⟨h1,⟨h2,h3,h4.nu,h4.nv,h4.le⟩,h4.neg⟩
 | true =>
  rw [Z5g];refine (Zwj (P:=q=0∧r=0∧p=n∧∀ k,k<p→0≤x k) (Q:=∀ i,i<R→L i≤sm n (fun k=>A i k*x k)∧sm n (fun k=>A i k*x k)≤H i) (Z6c (ltN0 q) fun _=>Z6c (ltN0 r) fun _=>?_) fun h=>?_).congr ⟨fun h=>.inl ⟨rfl,h.1.1,h.1.2.1,h.1.2.2.1,fun k hk=>h.1.2.2.2 k (by have:=h.1.2.2.1;omega),fun i hi=>(h.2 i hi).1,fun i hi=>(h.2 i hi).2⟩,fun h=>?_⟩
  ·rw [Z7n h0,Za];exact Z6c (Zye p n) fun _=>ZNm (ZWm hx (by omega) (by omega))
  ·obtain ⟨_,_,rfl,_⟩:=h;refine (Zpn (Q:=True) (ZQn R (by omega) (fun i=>L i≤sm p (fun k=>A i k*x k)∧sm p (fun k=>A i k*x k)≤H i) (fun i hi=>?_) ?_) (fun _=>Z5h trivial) rfl).congr ⟨fun h=>h.1,fun h=>⟨h,trivial⟩⟩
   ·rw [decide_eq_true (by omega),Zd,Zho _ hi,Za,Z9l (hA i · hi ·) hx hp (Nat.le_refl p) hK2,Za,Zef _ hi,Za,ZFp (ZAd (hA i · hi ·) hx hp) (hL i hi) (by omega),Za];by_cases h1:L i≤sm p (fun k=>A i k*x k)
    ·rw [decide_eq_false (fun e=>by have:=(Zab _).1 e;grind),Ze,Zef _ hi,Za,ZFp (ZAd (hA i · hi ·) hx hp) (hH i hi) (by omega),Za,Za];by_cases h2:sm p (fun k=>A i k*x k)≤H i
     ·exact .inl ⟨⟨h1,h2⟩,by rw [decide_eq_false (fun e=>by have:=(Zee _).1 e;grind),Ze,Zl (by omega) (by omega),Za];rfl⟩
     ·exact .inr ⟨fun h=>h2 h.2,by rw [decide_eq_true ((Zee _).2 (by have:=Rat.not_le.1 h2;grind)),Zd]⟩
    ·rw [decide_eq_true ((Zab _).2 (by have:=Rat.not_le.1 h1;grind)),Zd,Za,Zd];exact .inr ⟨fun h=>h1 h.1,rfl⟩
   ·rw [decide_eq_false (by omega),Ze]
  ·rcases h with h | h
   ·obtain ⟨_,h1,h2,h3,h4⟩:=h;exact ⟨⟨h1,h2,h3,fun k hk=>h4.nn k (by omega)⟩,fun i hi=>⟨h4.lo i hi,h4.hi i hi⟩⟩
   ·exact absurd h.1 (by decide)
set_option maxRecDepth 100000
abbrev AnsT:=Int×Rat×(List Rat)×(List Rat)×(List Rat)
namespace Zcf
variable {m n W:Nat} {A:Mx} {B C:Nat→Rat} {z:AnsT}
theorem mono {W':Nat} (h:Zcf m n W A B C z) (hw:W≤W'):Zcf m n W' A B C z:=by
 rcases h with ⟨y,h1,h2,h3⟩ | ⟨x,y,v,h1,h2,h3,h4,h5,h6,h7,h8⟩ | ⟨x,d,h1,h2,h3,h4,h5⟩
 ·exact .inl ⟨y,h1,h2,fun i hi=>(h3 i hi).mono hw⟩
 ·exact .inr (.inl ⟨x,y,v,h1,h2,h3,h4,h5,fun i hi=>(h6 i hi).mono hw,fun i hi=>(h7 i hi).mono hw,h8.mono hw⟩)
 ·exact .inr (.inr ⟨x,d,h1,h2,h3,fun i hi=>(h4 i hi).mono hw,fun i hi=>(h5 i hi).mono hw⟩)
theorem k1 (h:Zcf m n W A B C z) (hk:z.1=1):∃ x y,Feas m n A B x∧z.2.1=sm n (fun k=>C k*x k)∧Dual m n A B C y∧z.2.1=sm m (fun i=>B i*y i):=by
 rcases h with ⟨y,rfl,_⟩ | ⟨x,y,v,rfl,h2,h3,h4,h5,_⟩ | ⟨x,d,rfl,_⟩
 ·cases hk
 ·exact ⟨x,y,h2,h3,h4,h5⟩
 ·cases hk
theorem least (h:Zcf m n W A B C z) (hk:z.1=1) {y:Nat→Rat} (hy:Dual m n A B C y):z.2.1≤sm m (fun i=>B i*y i):=by
 obtain ⟨x,_,h2,h3,_⟩:=h.k1 hk;rw [h3];exact weak h2 hy
end Zcf
noncomputable def Zli (l:List Rat):Option (List Rat) :=
 bnd (Zg (σ:=(List Rat)×Int) (ρ:=List Rat) (fun a =>
 ifb (decide (a.2<(l.length:Int)))
 (bnd (idx l a.2) fun c =>
 bnd (Zib c) fun b =>
 bnd (ZF 56 (a.1++[b])) fun _ =>
 bnd (chk .i64 (a.2+(1:Int))) fun d =>
 some (.inl (a.1++[b],d)))
 (some (.inr a.1)))
  Zi (([]:List Rat),(0:Int))) fun e =>
 some e
noncomputable def Z3e (a:List (List Rat)) (lo:List Rat) (hi:List Rat):Option Bool :=
 bnd (α:=Bool)
 (bnd (Zjg a) fun b =>
 ifb b
 (ifb (decide ((a.length:Int)≤(48:Int)))
 (bnd (ZMc a) fun c =>
 ifb (decide (c≤(48:Int)))
 (ifb ((lo.length:Int)==(a.length:Int))
 (some ((hi.length:Int)==(a.length:Int)))
 (some false))
 (some false))
 (some false))
 (some false)) fun d =>
 some d
set_option maxRecDepth 100000
variable {m n R:Nat} {A:Mx} {B C:Nat→Rat}
theorem ZOr {α:Type} {N i j:Nat} (f:Nat→α) (h:i≤j) (hj:j≤N):ZS (vx N f) (i:Int) (j:Int)=some (vx (j-i) fun k=>f (i+k)):=by
 unfold ZS;rw [Zj,if_pos (by omega)];congr 1;refine List.ext_getElem (by simp [Zj];omega) fun a h1 h2=>?_;simp [vx]
theorem vx_join {α:Type} (n m:Nat) (f g:Nat→α):vx n f++vx m g=vx (n+m) fun i=>if i<n then f i else g (i-n):=by
 apply List.ext_getElem?;intro i;by_cases h:i<n
 ·rw [List.getElem?_append_left (by rw [Zj];exact h),ZWb _ h,ZWb _ (by omega),if_pos h]
 ·rw [List.getElem?_append_right (by rw [Zj];omega),Zj];by_cases h2:i-n<m
  ·rw [ZWb _ h2,ZWb _ (by omega),if_neg h]
  ·rw [List.getElem?_eq_none (by rw [Zj];omega),List.getElem?_eq_none (by rw [Zj];omega)]
theorem ZKp {f:Nat→Rat} (hn:n≤1000):Zli (vx n f)=some (vx n fun i=>- f i):=by
 unfold Zli Zib;refine Zs (Z1 (fun q=>(vx q fun i=>- f i,(q:Int))) n rfl (by omega) (fun q hq=>?_) ?_) rfl
 ·simp only [Zj];rw [decide_eq_true (by omega),Zd,Zq _ hq,Za,Za,Zbc q fun i=>- f i,Zra (by rw [Zj];omega),Za,Zl (by omega) (by omega),Za];rfl
 ·simp only [Zj];rw [decide_eq_false (by omega),Ze]
theorem Z9s {lo hi:Nat→Rat} (h0:R=0→n=0) (hR:R≤32) (hn:n≤32):Z3e (mx R n A) (vx R lo) (vx R hi)=some true:=by
 unfold Z3e;refine Zs (y:=true) ?_ rfl;rw [Zox A h0 hR hn,Za,Zd,ZXa,decide_eq_true (by omega),Zd,Zkj A h0,Za,decide_eq_true (by omega),Zd,Zj,Zj,show ((R:Int)==(R:Int))=true by simp,Zd]
noncomputable def Zpj (a:List (List Rat)) (x:List Rat) (lo:List Rat) (hi:List Rat):Option Bool :=
 bnd (ZFh a x) fun b =>
 bnd (α:=Bool)
 (bnd (Z1e lo b) fun c =>
 ifb c
 (bnd (Z1e b hi) fun d =>
 some d)
 (some false)) fun e =>
 some e
noncomputable def ZHk (a:List (List Rat)) (u:List Rat) (v:List Rat):Option (List Rat) :=
 bnd (Zg (σ:=(List Rat)×Int) (ρ:=List Rat) (fun b =>
 ifb (decide (b.2<(u.length:Int)))
 (bnd (idx u b.2) fun e =>
 bnd (idx v b.2) fun f =>
 bnd (ZSb e f) fun c =>
 bnd (ZF 56 (b.1++[c])) fun _ =>
 bnd (chk .i64 (b.2+(1:Int))) fun g =>
 some (.inl (b.1++[c],g)))
 (some (.inr b.1)))
  Zi (([]:List Rat),(0:Int))) fun d =>
 bnd (ZMc a) fun h =>
 bnd (ZDe h) fun i =>
 bnd (ZAh (a,d,i) d) fun j =>
 some j
noncomputable def Zvg (a:List (List Rat)) (lo:List Rat) (hi:List Rat) (f:Bool×(List Rat)×(List Rat)×(List Rat)):Option Bool :=
 bnd (Z3e a lo hi) fun b =>
 ifb (!b)
 (some false)
 (ifb f.1
 (bnd (α:=Bool)
 (ifb ((f.2.2.1.length:Int)==(0:Int))
 (ifb ((f.2.2.2.length:Int)==(0:Int))
 (bnd (ZMc a) fun c =>
 ifb ((f.2.1.length:Int)==c)
 (bnd (ZTc f.2.1) fun d =>
 ifb d
 (bnd (Zpj a f.2.1 lo hi) fun e =>
 some e)
 (some false))
 (some false))
 (some false))
 (some false)) fun g =>
 some g)
 (bnd (α:=Bool)
 (ifb (decide ((0:Int)<(f.2.1.length:Int)))
 (some true)
 (ifb ((f.2.2.1.length:Int) != (a.length:Int))
 (some true)
 (ifb ((f.2.2.2.length:Int) != (a.length:Int))
 (some true)
 (bnd (ZTc f.2.2.1) fun h =>
 ifb (!h)
 (some true)
 (bnd (ZTc f.2.2.2) fun i =>
 ifb (!i)
 (some true)
 (bnd (ZHk a f.2.2.1 f.2.2.2) fun j =>
 bnd (ZTc j) fun k =>
 some (!k))))))) fun l =>
 ifb l
 (some false)
 (bnd (Z1c hi f.2.2.1) fun m =>
 bnd (Z1c lo f.2.2.2) fun n =>
 bnd (ZSb m n) fun o =>
 bnd (Z0a o) fun p =>
 some (decide (p<(0:Int))))))
set_option maxRecDepth 100000
variable {R n K:Nat} {A:Mx} {L H:Nat→Rat}
theorem Zhx (x:List (List Rat)):ZMc x=some ((x.headD []).length:Int):=by
 unfold ZMc;by_cases h:x.length=0
 ·rw [show ((x.length:Int)==(0:Int))=true by simp [h],Zd,List.length_eq_zero_iff.1 h];rfl
 ·rw [(show ((x.length:Int)==(0:Int))=false by rw [beq_eq_false_iff_ne];omega),Ze,show (0:Int)=((0:Nat):Int) from rfl,Zym (ZXj (show 0<x.length by omega)),Za]
theorem Z4v (a:List (List Rat)) (b c:List Rat) (ha:a.length≤1000):Dec (Z3e a b c) (Zhc a b c):=by
  unfold Z3e Zjg;rw [Zhx,Za];generalize hn:(a.headD []).length=n;refine (ZHf (Zii (P:=a.length≤32∧n≤32∧∀ k,k<a.length→∀ r,a[k]? = some r→r.length=n) (Q:=a.length≤48∧n≤48∧b.length=a.length∧c.length=a.length) (ZHf (ZJe (by rw [decide_eq_true_iff];omega) fun h1=>ZJe (by rw [decide_eq_true_iff];omega) fun h2=>?_)) fun h=>ZJe (by rw [decide_eq_true_iff];omega) fun _=>?_)).congr ⟨fun h=>⟨by omega,by omega,h.1.1,by rw [hn];exact h.1.2.1,fun r hr=>?_⟩,fun h=>⟨⟨h.2.2.1,by rw [← hn];exact h.2.2.2.1,fun k hk r hr=>by rw [h.2.2.2.2 r (List.mem_of_getElem? hr),hn]⟩,by have:=h.2.2.1;omega,by have:=h.2.2.2.1;omega,h.1.symm,h.2.1.symm⟩⟩
  · obtain ⟨e,g1,g2⟩:=Zlg (body:=fun s2 =>
       ifb (decide (s2<(a.length:Int)))
       (bnd (idx a s2) fun y3 =>
        ifb ((y3.length:Int) != (n:Int))
        (some (.inr (.inr s2)))
        (bnd (chk .i64 (s2+(1:Int))) fun y4 =>
         some (.inl y4)))
       (some (.inr (.inl ())))) a.length ha (fun k=>∃ r,a[k]? = some r∧r.length≠n) (fun k hk=>by
          rw [decide_eq_true (by omega),Zd,Zy hk,Za];by_cases e:a[k].length=n
          · refine .inr ⟨fun ⟨r,hr,hl⟩=>?_,?_⟩
            · rw [List.getElem?_eq_getElem hk] at hr;cases hr;exact hl e
            · rw [show ((a[k].length:Int) != (n:Int))=false by simp [e],Ze,Zl (by omega) (by omega),Za];rfl
          · exact .inl ⟨⟨_,List.getElem?_eq_getElem hk,e⟩,by rw [(Zye _ _).2 e,Zd]⟩) (by rw [decide_eq_false (by omega),Ze])
    refine ⟨!(decide ((0:Int)≤e)),Zs g1 rfl,?_⟩;rcases g2 with ⟨rfl,h⟩ | ⟨k,hk,rfl,h⟩
    · refine ⟨fun _ k hk r hr=>Classical.byContradiction fun hne=>h k hk ⟨r,hr,hne⟩,fun _=>rfl⟩
    · rw [decide_eq_true (show (0:Int)≤(k:Int) by omega)];refine ⟨fun h=>(by cases h),fun hall=>?_⟩;obtain ⟨r,hr,hl⟩:=h;exact absurd (hall k hk r hr) hl
  · rw [Za];exact ZJe (by rw [decide_eq_true_iff];omega) fun _=>ZJe (beqN _ _) fun _=>Zzj (beqN _ _)
  · obtain ⟨k,hk,e⟩:=List.mem_iff_getElem.1 hr;rw [hn];exact h.1.2.2 k hk r (by rw [List.getElem?_eq_getElem hk,e])
theorem Zjw {x:Nat→Rat} (hA:∀ i j,i<R→j<n→sz K (A i j)) (hL:∀ i,i<R→sz (61*(2*K+1)) (L i)) (hH:∀ i,i<R→sz (61*(2*K+1)) (H i)) (hx:∀ j,j<n→sz K (x j)) (hR:R≤60) (hn:n≤60) (hK:62*(2*K+1)≤300000000) :
  Dec (Zpj (mx R n A) (vx n x) (vx R L) (vx R H)) ((∀ i,i<R→L i≤sm n (fun k=>A i k*x k))∧∀ i,i<R→sm n (fun k=>A i k*x k)≤H i):=by
 have hk1:(n+1)*(K+K+1)≤1099511627776:=by
  have:(n+1)*(K+K+1)≤61*(K+K+1):=Nat.mul_le_mul_right _ (by omega);omega
 unfold Zpj;rw [timesS hA hx (by omega) (by omega) hk1,Za];exact ZHf (Zii (ZEq (K:=61*(2*K+1)) (fun i hi=>hL i hi) (fun i hi=>ZAd (hA i · hi ·) hx hn) (by omega) (Nat.le_refl R) (by omega)) fun _=>ZHf (ZEq (K:=61*(2*K+1)) (fun i hi=>ZAd (hA i · hi ·) hx hn) (fun i hi=>hH i hi) (by omega) (Nat.le_refl R) (by omega)))
theorem ZLA {u v:Nat→Rat} (h0:R=0→n=0) (hA:∀ i j,i<R→j<n→sz K (A i j)) (hu:∀ j,j<R→sz K (u j)) (hv:∀ j,j<R→sz K (v j)) (hR:R≤60) (hn:n≤60) (hK:62*(3*K+2)≤700000000):ZHk (mx R n A) (vx R u) (vx R v)=some (vx n fun k=>sm R fun i=>(u i-v i)*A i k):=by
 unfold ZHk;refine Zs (y:=vx R fun i=>u i-v i) (Z1 (fun q=>(vx q fun i=>u i-v i,(q:Int))) R rfl (by omega) (fun q hq=>?_) ?_) ?_
 ·simp only [Zj];rw [decide_eq_true (by omega),Zd,Zq _ hq,Za,Zq _ hq,Za,ZPg (hu q hq) (hv q hq) (by omega) (by omega),Za,Zbc q fun i=>u i-v i,Zra (by rw [Zj];omega),Za,Zl (by omega) (by omega),Za];rfl
 ·simp only [Zj];rw [decide_eq_false (by omega),Ze]
 ·rw [Zkj A h0,Za,ZAi (by omega),Za,psumsS (K:=K) (k:=2*K+1) hA (fun i hi=>(ZWh (hu i hi) (hv i hi)).mono (by omega)) (by omega) (by omega) (Nat.le_refl R) (by
   have:(R+1)*(K+(2*K+1)+1)≤61*(K+(2*K+1)+1):=Nat.mul_le_mul_right _ (by omega);omega),Za]
theorem ZQp {ok:Bool} {p q r:Nat} {x u v:Nat→Rat} (h0:R=0→n=0) (hA:∀ i j,i<R→j<n→sz K (A i j)) (hL:∀ i,i<R→sz K (L i)) (hH:∀ i,i<R→sz K (H i)) (hx:∀ j,j<p→sz K (x j)) (hu:∀ j,j<q→sz K (u j)) (hv:∀ j,j<r→sz K (v j)) (hR:R≤32) (hn:n≤32) (hp:p≤60) (hq:q≤60) (hr:r≤60) (hK:62*(3*K+2)≤150000000) :
  Dec (Zvg (mx R n A) (vx R L) (vx R H) (ok,vx p x,vx q u,vx r v)) (WProv R n A L H ok p q r x u v):=by
 unfold Zvg;have hK2:62*(2*K+1)≤300000000:=by omega
 rw [Z9s h0 hR hn,Za,Z5g];simp only [Zj,ZXa]
 cases ok with
 | true =>
  rw [Zd,Zkj A h0,Za];refine (ZHf (ZJe (P:=q=0) (beqN0 q) fun _=>ZJe (P:=r=0) (beqN0 r) fun _=>ZJe (P:=p=n) (beqN p n) fun e=>Zii (ZHj (by omega)) fun _=>?_)).congr (P:=q=0∧r=0∧p=n∧(∀ k,k<p→0≤x k)∧(∀ i,i<R→L i≤sm n (fun k=>A i k*x k))∧∀ i,i<R→sm n (fun k=>A i k*x k)≤H i) ⟨fun h=>.inl ⟨rfl,h.1,h.2.1,h.2.2.1,fun k hk=>h.2.2.2.1 k (by have:=h.2.2.1;omega),h.2.2.2.2.1,h.2.2.2.2.2⟩,fun h=>?_⟩
  ·subst e;exact ZHf (Zjw hA (fun i hi=>(hL i hi).mono (by omega)) (fun i hi=>(hH i hi).mono (by omega)) hx (by omega) hp hK2)
  ·rcases h with h | h
   ·obtain ⟨_,h1,h2,h3,h4⟩:=h;exact ⟨h1,h2,h3,fun k hk=>h4.nn k (by omega),h4.lo,h4.hi⟩
   ·exact absurd h.1 (by decide)
 | false =>
  rw [Ze];refine (Zwj (P:=p=0∧q=R∧r=R∧(∀ i,i<q→0≤u i)∧(∀ i,i<r→0≤v i)∧∀ k,k<n→0≤sm R (fun i=>(u i-v i)*A i k)) (Q:=sm R (fun i=>H i*u i)-sm R (fun i=>L i*v i)<0) (Z6c (ltN0 p) fun _=>Z6c (Zye q R) fun e1=>Z6c (Zye r R) fun e2=>rej_n (ZHj (by omega)) fun _=>rej_n (ZHj (by omega)) fun _=>?_) fun h=>?_).congr ⟨fun h=>.inr ⟨rfl,h.1.1,h.1.2.1,h.1.2.2.1,fun i hi=>h.1.2.2.2.1 i (by have:=h.1.2.1;omega),fun i hi=>h.1.2.2.2.2.1 i (by have:=h.1.2.2.1;omega),h.1.2.2.2.2.2,h.2⟩,fun h=>?_⟩
  ·subst e1;subst e2;rw [ZLA h0 hA hu hv hr (by omega) (by omega),Za];exact ZNm (ZHj (by omega))
  ·obtain ⟨_,rfl,rfl,_⟩:=h;rw [ZHp (N:=0) hH hu hq hK2,Za,ZHp (N:=0) hL hv hr hK2,Za,ZPg (ZAd hH hu hq) (ZAd hL hv hr) (by omega) (by omega),Za];exact ZXx _
  ·rcases h with h | h
   ·exact absurd h.1 (by decide)
   ·obtain ⟨_,h1,h2,h3,h4⟩:=h;exact ⟨⟨h1,h2,h3,fun i hi=>h4.nu i (by omega),fun i hi=>h4.nv i (by omega),h4.le⟩,h4.neg⟩
set_option maxRecDepth 100000
variable {R n K:Nat} {A:Mx} {B H:Nat→Rat}
set_option maxRecDepth 100000
variable {R n K:Nat} {A:Mx} {B H:Nat→Rat}
set_option maxRecDepth 100000
def Zyc (l:List UInt8):Prop:=∀ c ∈ l,48≤c.toNat∧c.toNat≤57
def dv (a:Nat) (l:List UInt8):Nat:=l.foldl (fun a c=>10*a+(c.toNat-48)) a
theorem ZZu (a:Nat) (x y:List UInt8):dv a (x++y)=dv (dv a x) y:=List.foldl_append
theorem ZGo:∀ (l:List UInt8) (a:Nat),dv a l=a*10^l.length+dv 0 l
 | [],a=>by unfold dv;simp
 | c :: l,a=>by
  have e1:dv a (c :: l)=dv (10*a+(c.toNat-48)) l:=rfl
  have e2:dv 0 (c :: l)=dv (10*0+(c.toNat-48)) l:=rfl
  rw [e1,e2,ZGo l (10*a+(c.toNat-48)),ZGo l (10*0+(c.toNat-48)),List.length_cons,Nat.pow_succ]
  generalize 10^l.length=p
  generalize c.toNat-48=d
  grind
theorem dv_lt:∀ (l:List UInt8),Zyc l→dv 0 l<10^l.length
 | [],_=>by unfold dv;simp
 | c :: l,h=>by
  have e2:dv 0 (c :: l)=dv (10*0+(c.toNat-48)) l:=rfl
  have hc:=h c (List.mem_cons_self ..)
  have ih:=dv_lt l fun x hx=>h x (List.mem_cons_of_mem _ hx)
  rw [e2,ZGo l,List.length_cons,Nat.pow_succ]
  generalize 10^l.length=p at *
  have:(10*0+(c.toNat-48))*p≤9*p:=Nat.mul_le_mul_right _ (by omega)
  omega
theorem Z8t:∀ (k n:Nat),n≤k→Zyc (ZE n)∧dv 0 (ZE n)=n
 | k,0,_=>by rw [Zwc];exact ⟨fun c hc=>(by cases hc),rfl⟩
 | 0,n+1,h=>by omega
 | k+1,n+1,h=>by
  obtain ⟨a,b⟩:=Z8t k ((n+1) / 10) (by omega)
  have hd:(UInt8.ofNat (48+(n+1)%10)).toNat=48+(n+1)%10:=by simp;omega
  rw [Z8d (by omega)]
  refine ⟨fun c hc=>?_,?_⟩
  ·rcases List.mem_append.1 hc with hc | hc
   ·exact a c hc
   ·rw [List.mem_singleton.1 hc,hd];omega
  ·rw [ZZu,b]
   show 10*((n+1) / 10)+((UInt8.ofNat (48+(n+1)%10)).toNat-48)=n+1
   rw [hd];omega
theorem Z5s:∀ (k n:Nat),n≤k→n≠0→∃ c l,ZE n=c :: l∧c.toNat≠48
 | k,0,_,h=>absurd rfl h
 | 0,n+1,h,_=>by omega
 | k+1,n+1,h,_=>by
  rw [Z8d (by omega)]
  by_cases h0:(n+1) / 10=0
  ·rw [h0,Zwc]
   exact ⟨_,_,rfl,by simp;omega⟩
  ·obtain ⟨c,l,e,hc⟩:=Z5s k ((n+1) / 10) (by omega) h0
   rw [e]
   exact ⟨c,_,rfl,hc⟩
theorem ZEn (n:Nat):Zyc (ZU n)∧dv 0 (ZU n)=n∧0<(ZU n).length∧((ZU n).length=1∨(ZU n).getD 0 0≠48):=by
 unfold ZU;by_cases h:n=0
 ·rw [if_pos h];subst h;exact ⟨fun c hc=>by rw [List.mem_singleton.1 hc];decide,rfl,by decide,.inl rfl⟩
 ·rw [if_neg h];obtain ⟨a,b⟩:=Z8t n n (Nat.le_refl _);obtain ⟨c,l,e,hc⟩:=Z5s n n (Nat.le_refl _) h;refine ⟨a,b,by rw [e];simp,.inr ?_⟩;rw [e];intro k;apply hc;have:c=48:=k;rw [this];rfl
end Go.Eng
namespace Go.Eng
open Go.RowKit
section
variable {P:Program} {N:Nat} {G:V→Value→Prop} {w0:Base} {v0:Zb} {U X:Nat→Prop} {f:Fr} {l:Lo} {a:Act} {w:World} {γ:Nat→Gh} {v:Zb} {ℓ:List Loc} {n:Nat}
variable {d:Option Nat} {ty:TypeId} {pos:String} {aft:Array Edge} {g:Option (Nat×Bool)}
theorem ZJp {ty:TypeId} {t:T} (hs:St N w0 v0 [] ℓ v a w):∀ k:Nat,∃ es,Zla v ty t (List.replicate k (none,0)) (List.replicate k ([]:List t.den)) es∧St N w0 v0 [] (es++ℓ) v a w
 | 0=>⟨[],rfl,hs⟩
 | k+1=>by
  obtain ⟨es,h1,h2⟩:=ZJp hs k
  exact ⟨.own none ty t.n 0 0 [] :: es,⟨[],es,rfl,rfl,h1⟩,h2.nilLoc ty t.n⟩
theorem ZSs {α:Type}:∀ k:Nat,Zn (List.replicate k ((none:Option Nat),0)) (List.replicate k ([]:List α))=(List.replicate k [Value.slice none 0 0]).flatten
 | 0=>rfl
 | k+1=>by simp only [List.replicate_succ,Zn,List.flatten_cons,ZSs k];rfl
theorem ZJv {C:Cf} (hr:RelX N G w0 v0 U X f l a w γ v ℓ) (hU:∀ k,U k→X k) (hX:X n) (hn:¬ U n) {t:TypeId} {x y:Operand} {o:Oper} {Post:Unit→Fr→Lo→Prop} (ho:o=⟨d,.makeSlice t x y,ty,pos,aft,g⟩) (hd:∀ k,o.dst=some k→k<N)
  (h:Zm n (ZY C n o) f l Post):Zta C.P N G w0 v0 X o a w Post:=by
 subst ho;simp only [ZY] at h;obtain ⟨V1,h1,_,hA⟩:=ZG hr h;obtain ⟨V2,h2,_,hB⟩:=ZG hr hA;obtain ⟨κ,i,rfl,hC⟩:=Z9a hB;obtain ⟨κ',j,rfl,hD⟩:=Z9a hC;clear h hA hB hC;have h:=hD;obtain ⟨e1,_⟩:=ZFa h1;obtain ⟨e2,_⟩:=ZFa h2;split at h
 ·rename_i q dd hq;obtain ⟨hE,hby⟩:=Z3o hq;obtain ⟨_,hmk,h⟩:=h;obtain ⟨m0,m1,m2,m3⟩:=Zsd hmk;obtain ⟨E,hEE,hp⟩:=hr.lr;have hst:=hr.st.perm hp;obtain ⟨σ,hσ,ev1,ev2⟩:=hst.ev2 x y;rw [e1] at ev1;rw [e2] at ev2;obtain ⟨b,w',hrun,hst'⟩:=ZMo hE hσ m0 m1 m2 m3;have hrun':=hrun (d:=some dd) (ty:=ty) (pos:=pos) (aft:=aft) (g:=g) ev1 ev2;split at h
  ·split at h
   ·rename_i q2 r hq2 hz hs1;have hs1:=Nat.eq_of_beq_eq_true hs1;split at h
    ·rename_i s hs;split at h
     ·have hz1:q.z.cells.toList=[.slice none 0 0]:=by
       have h1:=Zqf hz;have h2:=hE.cells;rw [hs1] at h2;have h3:q.z.cells.toList.length=1:=by simpa using h2
       rw [h1] at h3 ⊢;simp at h3;rw [h3]
      obtain ⟨es,hR,hst2⟩:=ZJp (ty:=q2.e) (t:=s) hst'.bare i.toNat;have hst3:St N w0 v0 [] (.own (some b) q.e 1 (List.replicate i.toNat ([]:List s.den)).length j.toNat (Zn (List.replicate i.toNat ((none:Option Nat),0)) (List.replicate i.toNat ([]:List s.den))) :: es++E.flatten) v a w':=by
       rw [ZSs,List.length_replicate];rw [hs1,hz1] at hst2;exact hst2.perm List.perm_middle
      have hrun2:=hrun';rw [show (Value.slice (mkA (some b)) i.toNat j.toNat) = .slice (mkA (some b)) (List.replicate i.toNat ([]:List s.den)).length j.toNat by rw [List.length_replicate]] at hrun2;exact Zzl hr hU hX hn hd hEE rfl hR hst3 hrun2 h
     ·exact h.elim
    ·exact h.elim
   ·exact h.elim
  ·split at h
   ·rename_i s hs;split at h
    ·rename_i z r hz hzo hsz;have hsz:=Nat.eq_of_beq_eq_true hsz;obtain ⟨c1,k1,k2⟩:=Zov (v:=v) hzo hz;have hl:=Rep.len _ k2;have hc:=hE.cells;have hr0:r=[]:=by
      have:q.z.cells.toList.length=q.sz:=by simpa using hc
      rw [k1,List.length_append,hl,ZQ,hsz] at this;exact List.length_eq_zero_iff.1 (by omega)
     rw [hr0,List.append_nil] at k1;have hrel:=ZHg k2 i.toNat;rw [k1] at hst';have hst2:St N w0 v0 [] (.own (some b) q.e s.n (List.replicate i.toNat z).length j.toNat (List.replicate i.toNat c1).flatten :: E.flatten) v a w':=by
      rw [List.length_replicate,← hsz];exact hst'.bare
     have hrun2:=hrun';rw [show (Value.slice (mkA (some b)) i.toNat j.toNat) = .slice (mkA (some b)) (List.replicate i.toNat z).length j.toNat by rw [List.length_replicate]] at hrun2;exact ZYg hr hU hX hn hd hEE rfl hst2 hrel hrun2 h
    ·exact h.elim
   ·exact h.elim
 ·exact h.elim
theorem ZIt {x:V} {cs:List Value} (h:RR v γ l false x cs) (hk:x.ok U):RR v γ l false (Z6f x) cs∧(Z6f x).ok U:=by
 unfold Z6f;split
 ·split
  ·rename_i hc;obtain ⟨h1,h2⟩:=Zwo (U:=U) (γ:=γ) (l:=l) hc h;exact ⟨h1,h2⟩
  ·exact ⟨h,hk⟩
 ·exact ⟨h,hk⟩
theorem Zgu:∀ {fs:List Field},ZWj P fs=true→∀ w,∃ L:List (Nat×Nat),(fs.mapM fun (f:Field)=>(do pure (f.offset,← sizeOf f.type):Sem (Nat×Nat))).run P w = .ok L w∧∀ (i:Nat) fd,fs[i]? = some fd→∃ inf,P.info? fd.type=some inf∧L[i]? = some (fd.offset,inf.size)
 | [],_,w=>⟨[],by simp,fun i fd h=>by simp at h⟩
 | fd :: fs,h,w=>by
  simp only [ZWj] at h
  split at h
  ·rename_i inf hinf
   obtain ⟨L,h1,h2⟩:=Zgu h w
   refine ⟨(fd.offset,inf.size) :: L,?_,fun i fd' hi=>?_⟩
   ·simp at h1
    simp [List.mapM_cons,ZBk hinf,h1]
   ·cases i with
    | zero=>simp at hi;subst hi;exact ⟨inf,hinf,rfl⟩
    | succ i=>simp at hi;simpa using h2 i fd' hi
  ·cases h
theorem ZSr {s:TypeId} {fs:Array Field} (hs:P.underlying s=some (.struct fs)) {places:Nat→Option (Nat×Nat)} (hp:∀ (i:Nat) (fd:Field),fs.toList[i]? = some fd→∃ inf,P.info? fd.type=some inf∧places i=some (fd.offset,inf.size)) :
  ∀ {ps:List (Nat×Operand)} {c z z':V} {cs:List Value} {vals:List Value},RR v γ l true c vals→c.ok U→vals.length=ps.length→RR v γ l false z cs→z.ok U→putF P s z (zipV ps c)=some z' →
  ∃ cs',Instr.fill places cs.toArray ((ps.map (·.1)).zip vals)=some cs'.toArray∧RR v γ l false z' cs'∧z'.ok U∧z'.isAgg=z.isAgg
 | [],c,z,z',cs,vals,hc,hk,hl,hz,hkz,h=>by
  have hv:vals=[]:=List.length_eq_zero_iff.1 hl
  subst hv
  have h:some z=some z':=by
   cases c <;> exact h
  cases h
  exact ⟨cs,rfl,hz,hkz,rfl⟩
 | p :: ps,c,z,z',cs,vals,hc,hk,hl,hz,hkz,h=>by
  cases vals with
  | nil=>simp at hl
  | cons y vals =>
   cases c with
   | cons x c =>
    obtain ⟨cx,vs,e,h1,h2⟩:=hc
    cases e
    simp only [zipV,putF] at h;split at h
    ·rename_i fd hfd;split at h
     ·rename_i q hq;split at h
      ·rename_i zz hsz hfit hput;have hsz:=Nat.eq_of_beq_eq_true hsz;obtain ⟨k1,k2,k3,k4⟩:=Zvf FU hput hz h1 hkz hk.1;have hfd':fs.toList[p.1]? = some fd:=by
        unfold fldT at hfd;rw [hs] at hfd;exact hfd
       obtain ⟨inf,hinf,hpl⟩:=hp _ _ hfd';have hlen:cx.length=inf.size:=by
        rw [Ztd h1,hsz];unfold szA at hq;rw [hinf] at hq;split at hq
        ·rename_i i d e1 e2;cases e1;cases hq;rfl
        ·cases hq
       obtain ⟨hcells,_⟩:=ZDl h1 hfit;obtain ⟨cs',q1,q2,q3,q4⟩:=ZSr hs hp (ps:=ps) h2 hk.2 (by simpa using hl) k1 k2 h;refine ⟨cs',?_,q2,q3,q4.trans k4⟩;simp only [List.map_cons,List.zip_cons_cons];rw [ZBo (cs:=cx) (off:=fd.offset) (by rw [hpl,hlen]) hcells (by simpa using k3)]
       simpa using q1
      ·cases h
     ·cases h
    ·cases h
   | nl=>cases (show (y :: vals)=[] from hc)
   | _=>exact (show False from hc).elim
theorem Z3t {n sz:Nat} {places:Nat→Option (Nat×Nat)} (hp:∀ i,i<n→places i=some (i*sz,sz)) :
  ∀ {ps:List (Nat×Operand)} {c z z':V} {cs:List Value} {vals:List Value},RR v γ l true c vals→c.ok U→vals.length=ps.length→RR v γ l false z cs→z.ok U→putA n sz z (zipV ps c)=some z' →
  ∃ cs',Instr.fill places cs.toArray ((ps.map (·.1)).zip vals)=some cs'.toArray∧RR v γ l false z' cs'∧z'.ok U∧z'.isAgg=z.isAgg
 | [],c,z,z',cs,vals,hc,hk,hl,hz,hkz,h=>by
  have hv:vals=[]:=List.length_eq_zero_iff.1 hl
  subst hv
  have h:some z=some z':=by
   cases c <;> exact h
  cases h
  exact ⟨cs,rfl,hz,hkz,rfl⟩
 | p :: ps,c,z,z',cs,vals,hc,hk,hl,hz,hkz,h=>by
  cases vals with
  | nil=>simp at hl
  | cons y vals =>
   cases c with
   | cons x c =>
    obtain ⟨cx,vs,e,h1,h2⟩:=hc
    cases e
    simp only [zipV,putA] at h;split at h
    ·rename_i zz hlt hsz hfit hput;have hlt:p.1<n:=Nat.le_of_ble_eq_true hlt;have hsz:=Nat.eq_of_beq_eq_true hsz;obtain ⟨k1,k2,k3,k4⟩:=Zvf FU hput hz h1 hkz hk.1;have hlen:cx.length=sz:=by rw [Ztd h1,hsz]
     obtain ⟨hcells,_⟩:=ZDl h1 hfit;obtain ⟨cs',q1,q2,q3,q4⟩:=Z3t hp (ps:=ps) h2 hk.2 (by simpa using hl) k1 k2 h;refine ⟨cs',?_,q2,q3,q4.trans k4⟩;simp only [List.map_cons,List.zip_cons_cons];rw [ZBo (cs:=cx) (off:=p.1*sz) (by rw [hp _ hlt,hlen]) hcells (by simpa using k3)]
     simpa using q1
    ·cases h
   | nl=>cases (show (y :: vals)=[] from hc)
   | _=>exact (show False from hc).elim
theorem ZVA {C:Cf} (hr:RelX N G w0 v0 U X f l a w γ v ℓ) (hU:∀ k,U k→X k) (hX:X n) {t:TypeId} {ps:Array (Nat×Operand)} {o:Oper} {Post:Unit→Fr→Lo→Prop} (ho:o=⟨d,.build t ps,ty,pos,aft,g⟩) (hd:∀ k,o.dst=some k→k<N)
  (h:Zm n (ZY C n o) f l Post):Zta C.P N G w0 v0 X o a w Post:=by
 subst ho;simp only [ZY] at h;split at h
 ·rename_i z fs hz ht;split at h
  ·rename_i hfl hag1 hag2;obtain ⟨y,cs,hy,hcells,hzz,hkz,_⟩:=ZVm (v:=v) (γ:=γ) (l:=l) (U:=U) hz;obtain ⟨L,hL1,hL2⟩:=Zgu hfl w;have hA:(fs.mapM fun (f:Field)=>(do pure (f.offset,← sizeOf f.type):Sem (Nat×Nat))).run C.P w = .ok L.toArray w:=by
    rw [Array.mapM_eq_mapM_toList];simp at hL1;simp [hL1]
   have hplaces:∀ (i:Nat) (fd:Field),fs.toList[i]? = some fd→∃ inf,C.P.info? fd.type=some inf∧(L.toArray[·]?) i=some (fd.offset,inf.size):=fun i fd hi=>by
    obtain ⟨inf,h1,h2⟩:=hL2 i fd hi;exact ⟨inf,h1,by simpa using h2⟩
   have hev:∀ (vals:List (Nat×Value)) (cs':List Value),ps.toList.map (fun p=>(p.1,a.eval p.2))=vals→Instr.fill (L.toArray[·]?) cs.toArray vals=some cs'.toArray→(execOp a.eval ⟨d,.build t ps,ty,pos,aft,g⟩).run C.P w = .ok (.value (.agg cs'.toArray)) w:=by
    intro vals cs' hv hf;obtain ⟨σ,hσ,hev⟩:=hr.st.evs (ps.toList.map (·.2));refine ZDt hσ vals ?_ ?_
    ·rw [← hv,List.map_map];refine List.map_congr_left fun p hp=>?_;rw [hev p.2 (List.mem_map.2 ⟨p,hp,rfl⟩)];rfl
    ·simp at hA hf;simp [Instr.build,hy w,hcells,run_underlying ht,hA,hf]
   split at h
   ·rename_i hps;refine ZM hr hU (hev [] cs (by rw [hps];rfl) rfl) hd hX ?_ (V.ok.mono hU hkz) h;have:=Z2b hzz (fun c e=>by subst e;cases hag2);unfold V.val at this;rw [hag2] at this;exact this
   ·rename_i hps;obtain ⟨c,h1,h2,h⟩:=ZXf hr h;split at h
    ·rename_i z' hz';obtain ⟨o1,o2⟩:=ZIt hzz hkz;have hvl:=h1;rw [List.map_map] at h1;obtain ⟨cs',k1,k2,k3,k4⟩:=ZSr ht hplaces (ps:=ps.toList) h1 h2 (by simp) o1 o2 hz';refine ZM hr hU (hev _ cs' rfl ?_) hd hX ?_ (V.ok.mono hU k3) h
     ·rw [← k1];congr 1;rw [List.zip_map,← List.map_id (ps.toList.zip ps.toList)];simp [List.zip_eq_zipWith,List.zipWith_self,List.map_map]
     ·have:=Z2b k2 (fun c e=>by subst e;rw [hag1] at k4;cases k4);unfold V.val at this;rw [k4,hag1] at this;exact this
    ·exact h.elim
  ·exact h.elim
 ·rename_i z m e hz ht;split at h
  ·rename_i inf hinf hag1 hag2;obtain ⟨y,cs,hy,hcells,hzz,hkz,_⟩:=ZVm (v:=v) (γ:=γ) (l:=l) (U:=U) hz;obtain ⟨c,h1,h2,h⟩:=ZXf hr h;split at h
   ·rename_i z' hz';obtain ⟨o1,o2⟩:=ZIt hzz hkz;rw [List.map_map] at h1;obtain ⟨cs',k1,k2,k3,k4⟩:=Z3t (places:=fun i=>some (i*inf.size,inf.size)) (fun i _=>rfl) (ps:=ps.toList) h1 h2 (by simp) o1 o2 hz';obtain ⟨σ,hσ,hev⟩:=hr.st.evs (ps.toList.map (·.2));have hk1:Instr.fill (fun i=>some (i*inf.size,inf.size)) cs.toArray (ps.toList.map fun p=>(p.1,a.eval p.2))=some cs'.toArray:=by
     rw [← k1];congr 1;rw [List.zip_map,← List.map_id (ps.toList.zip ps.toList)];simp [List.zip_eq_zipWith,List.zipWith_self,List.map_map]
    refine ZM hr hU (ZDt hσ (ps.toList.map fun p=>(p.1,a.eval p.2)) ?_ (z:=.agg cs'.toArray) ?_) hd hX ?_ (V.ok.mono hU k3) h
    ·rw [List.map_map];refine List.map_congr_left fun p hp=>?_;rw [hev p.2 (List.mem_map.2 ⟨p,hp,rfl⟩)];rfl
    ·simp [Instr.build,hy w,hcells,run_underlying ht,ZBk hinf,hk1]
    ·have:=Z2b k2 (fun c e=>by subst e;rw [hag1] at k4;cases k4);unfold V.val at this;rw [k4,hag1] at this;exact this
   ·exact h.elim
  ·exact h.elim
 ·exact h.elim
end
end Go.Eng
namespace Go.Eng
open Go.RowKit
def CT.isAgg:CT→Bool
 | .dat t=>t.agg
 | .agg _=>true
 | _=>false
def CT.vl (c:CT) (cs:List Value):Value:=match c.isAgg with
 | true=>.agg cs.toArray
 | false=>cs.headD Go.undef
def CR (v:Zb):(c:CT)→Bool→c.den→List Value→List Loc→Prop
 | .dat t,false,x,cs,es=>t.rep.rel v cs x∧es=[]
 | .own ty t,false,(xs:List t.den),cs,es=>∃ ob cap d,cs=[.slice (mkA ob) xs.length cap]∧t.rep.rels v d xs∧es=[.own ob ty t.n xs.length cap d]
 | .mat ty ty2 t,false,(m:List (List t.den)),cs,es=>∃ ob cap rows es2,cs=[.slice (mkA ob) m.length cap]∧Zla v ty2 t rows m es2∧es = .own ob ty 1 m.length cap (Zn rows m) :: es2
 | .nl,_,_,cs,es=>cs=[]∧es=[]
 | .one a,false,x,cs,es=>CR v a false x cs es
 | .one a,true,x,cs,es=>∃ c,cs=[a.vl c]∧CR v a false x c es
 | .cons a b,false,x,cs,es=>∃ c1 c2 e1 e2,cs=c1++c2∧es=e1++e2∧CR v a false x.1 c1 e1∧CR v b false x.2 c2 e2
 | .cons a b,true,x,cs,es=>∃ c1 xs e1 e2,cs=a.vl c1 :: xs∧es=e1++e2∧CR v a false x.1 c1 e1∧CR v b true x.2 xs e2
 | .agg c,false,x,cs,es=>CR v c false x cs es
 | .box ty c,false,x,cs,es=>∃ b c1 e1,cs=[.pointer (some ⟨b,0,none⟩)]∧CR v c false x c1 e1∧c1.all plain=true∧es = .box b ty c1 :: e1
 | _,_,_,_,_=>False
def CRL (v:Zb):(c:CT)→c.den→Gh→List Loc→Prop
 | .own ty t,(xs:List t.den),g,es=>∃ ob cap d,g = .own ob cap∧t.rep.rels v d xs∧es=[.own ob ty t.n xs.length cap d]
 | .mat ty ty2 t,(m:List (List t.den)),g,es=>∃ ob cap rows es2,g = .mat ob cap rows∧Zla v ty2 t rows m es2∧es = .own ob ty 1 m.length cap (Zn rows m) :: es2
 | .box ty c,z,g,es=>∃ b c1 e1,g = .box b∧CR v c false z c1 e1∧c1.all plain=true∧es = .box b ty c1 :: e1
 | .agg (.mat ty ty2 t),(m:List (List t.den)),g,es=>∃ ob cap rows es2,g = .mat ob cap rows∧Zla v ty2 t rows m es2∧es = .own ob ty 1 m.length cap (Zn rows m) :: es2
 | _,_,_,_=>False
end Go.Eng
namespace Go.Eng
open Go.RowKit
def ZVa (v:Zb):(ts:List T)→List Value→ZB ts→Prop
 | [],vals,_=>vals=[]
 | [t],vals,x=>∃ cs,vals=[t.rep.val cs]∧t.rep.rel v cs x
 | t :: u :: r,vals,x=>∃ cs vs,vals=t.rep.val cs :: vs∧t.rep.rel v cs x.1∧ZVa v (u :: r) vs x.2
def ZIe (v:Zb) (ts:List T) (y:Value) (z:ZB ts):Prop:=match ts,z with
 | [t],z=>∃ cs,y=t.rep.val cs∧t.rep.rel v cs z
 | ts,z=>∃ vals:List Value,y = .tuple vals.toArray∧ZVa v ts vals z
def ZUd (P:Program) (f:FuncId) (c:Con):Prop:=∀ (w:World) (v:Zb) (vals:List Value) (x:ZB c.args) (z:ZB c.res),VIn v w→ZVa v c.args vals x→c.F x=some z →
 (ZN P f∧Ret P f vals.toArray w v fun y v'=>ZIe v' c.res y z) ∨ ∃ y,(∀ w,(callFunc f vals.toArray).run P w = .ok (.value y) w)∧ZIe v c.res y z
def Z4e (P:Program) (f:FuncId) (c:ConO):Prop:=∀ (w:World) (v:Zb) (vals:List Value) (x:ZB c.args) (z:List c.t.den),VIn v w→ZVa v c.args vals x→c.F x=some z →
 ZN P f∧RetO P f vals.toArray w v (OwnR c.t.rep c.ty c.t.n z w)
def ZRl (P:Program) (f:FuncId) (c:ConI):Prop:=∀ (w:World) (v:Zb) (ob:Option Nat) (n cap:Nat) (cs:List Value) (l:List c.t.den) (i:Int) (bv kv:Nat) (c0:Array Value) (x:c.t.den) (z:List c.t.den),VIn v w→(Loc.own ob c.ty c.t.n n cap cs).holds w→(∀ b,ob=some b→v b=none)→c.t.rep.rels v cs l→n=l.length →
 1≤kv→v bv=some (.cells c0 c.ty (0,0))→c.t.rep.rel v (c0.toList.take c.t.n) x→inR .i64 i→c.F l i x=some z →
 ZN P f∧ZYc P f #[.slice (mkA ob) n cap,.int .i64 i,.slice (some ⟨bv,0,none⟩) 1 kv] w v ob.toList (OwnI c.t.rep c.ty c.t.n z ob w)
def OwnM (ty ty2:TypeId) (t:T) (m:List (List t.den)) (w:World) (r:Value) (v':Zb) (w':World):Prop :=
 ∃ ob cap rows es,r = .slice (mkA ob) m.length cap∧Zla v' ty2 t rows m es∧(∀ x ∈ Loc.own ob ty 1 m.length cap (Zn rows m) :: es,x.holds w'∧∀ b,x.blk=some b→w.heap.size≤b∧v' b=none)∧((Loc.own ob ty 1 m.length cap (Zn rows m) :: es).filterMap Loc.blk).Nodup
def Zmh (P:Program) (f:FuncId) (c:ConM):Prop:=∀ (w:World) (v:Zb) (vals:List Value) (x:ZB c.args) (z:List (List c.t.den)),VIn v w→ZVa v c.args vals x→c.F x=some z →
 ZN P f∧RetO P f vals.toArray w v (OwnM c.ty c.ty2 c.t z w)
def OwnB (ty:TypeId) (c:CT) (res:List T) (b:Nat) (r:c.den×ZB res) (lent:List Nat) (w:World) (y:Value) (v':Zb) (w':World):Prop :=
 ZIe v' res y r.2∧∃ es',CRL v' (.box ty c) r.1 (.box b) es'∧(∀ e ∈ es',e.holds w'∧∀ k,e.blk=some k→(w.heap.size≤k∨k ∈ lent)∧v' k=none)∧(es'.filterMap Loc.blk).Nodup
def Zsg (P:Program) (f:FuncId) (c:ConB):Prop:=∀ (w:World) (v:Zb) (b:Nat) (es:List Loc) (vals:List Value) (z:c.c.den) (x:ZB c.args) (r:c.c.den×ZB c.res),VIn v w→CRL v (.box c.ty c.c) z (.box b) es→(∀ e ∈ es,e.holds w∧∀ k,e.blk=some k→v k=none)→(es.filterMap Loc.blk).Nodup→ZVa v c.args vals x→c.F z x=some r →
 ZN P f∧ZYc P f (Value.pointer (some ⟨b,0,none⟩) :: vals).toArray w v (es.filterMap Loc.blk) (OwnB c.ty c.c c.res b r (es.filterMap Loc.blk) w)
def Zgh (P:Program) (f:FuncId) (c:ConD):Prop:=∀ (w:World) (v:Zb) (ob:Option Nat) (n cap:Nat) (cs:List Value) (l:List c.t.den) (i j:Int) (z:List c.t.den),VIn v w→(Loc.own ob c.ty c.t.n n cap cs).holds w→(∀ b,ob=some b→v b=none)→c.t.rep.rels v cs l→n=l.length→inR .i64 i→inR .i64 j→c.F l i j=some z →
 ZN P f∧ZYc P f #[.slice (mkA ob) n cap,.int .i64 i,.int .i64 j] w v ob.toList (OwnI c.t.rep c.ty c.t.n z ob w)
structure CfOK (C:Cf):Prop where
 c:∀ f c,Z2 C.cons f=some c→ZUd C.P f c
 o:∀ f c,Z2 C.owns f=some c→Z4e C.P f c
 i:∀ f c,Z2 C.ins f=some c→ZRl C.P f c
 m:∀ t s f,lkM C.meths t s=some f→∀ y w,(method (C.P.types.size+Made.depth) t y s).run C.P w = .ok (f,y) w
 q:∀ f c,Z2 C.omats f=some c→Zmh C.P f c
 b:∀ f c,Z2 C.boxs f=some c→Zsg C.P f c
 d:∀ f c,Z2 C.dels f=some c→Zgh C.P f c
section
variable {P:Program} {N:Nat} {G:V→Value→Prop} {w0:Base} {v0:Zb} {U X:Nat→Prop} {f:Fr} {l:Lo} {a:Act} {w:World} {γ:Nat→Gh} {v:Zb} {ℓ:List Loc} {n:Nat}
variable {d:Option Nat} {ty:TypeId} {pos:String} {aft:Array Edge} {g:Option (Nat×Bool)}
theorem ZYs (hr:RelX N G w0 v0 U X f l a w γ v ℓ) {lo:Option Operand} {k:Option Int→Ev Unit} {Post:Unit→Fr→Lo→Prop} (h:Zm n (optI lo k) f l Post):∃ i,Zm n (k i) f l Post∧((lo=none∧i=none) ∨ ∃ y κ q,lo=some y∧i=some q∧a.eval y = .int κ q):=by
 cases lo with
 | none=>exact ⟨none,h,.inl ⟨rfl,rfl⟩⟩
 | some y =>
  obtain ⟨V1,h1,_,hA⟩:=ZG hr h;obtain ⟨κ,i,rfl,hB⟩:=Z9a hA;exact ⟨some i,hB,.inr ⟨y,κ,i,rfl,rfl,(ZFa h1).1⟩⟩
theorem ZKl (hr:RelX N G w0 v0 U X f l a w γ v ℓ) (hU:∀ k,U k→X k) (hX:X n) {t:TypeId} {x:Operand} {lo hi:Option Operand} {o:Oper} {p:V} {i j:Option Int} {Post:Unit→Fr→Lo→Prop} (ho:o=⟨d,.slice t x lo hi none,ty,pos,aft,g⟩) (hd:∀ k,o.dst=some k→k<N) (hp:RV v γ l p (a.eval x))
  (hlo:(lo=none∧i=none) ∨ ∃ y κ q,lo=some y∧i=some q∧a.eval y = .int κ q) (hhi:(hi=none∧j=none) ∨ ∃ y κ q,hi=some y∧j=some q∧a.eval y = .int κ q) (h:Zm n (cutE P o t p i j) f l Post):Zta P N G w0 v0 X o a w Post:=by
 obtain ⟨σ,hσ,hev⟩:=hr.st.evs (x :: (lo.toList++hi.toList));have hx:=hev x (by simp);have h1:∀ m:Int,(ZVg i 0=m)→(lo=none∧m=0) ∨ ∃ y k,lo=some y∧ev σ y=some (.int k m):=by
  intro m hm;rcases hlo with ⟨e1,e2⟩ | ⟨y,κ,q,e1,e2,e3⟩
  ·subst e2;exact .inl ⟨e1,hm.symm⟩
  ·subst e1 e2;have hm:q=m:=hm;exact .inr ⟨y,κ,rfl,by rw [hev y (by simp),e3,hm]⟩
 have h2:∀ (len:Nat) (m:Int),(ZVg j (len:Int)=m)→(hi=none∧m=len) ∨ ∃ y k,hi=some y∧ev σ y=some (.int k m):=by
  intro len m hm;rcases hhi with ⟨e1,e2⟩ | ⟨y,κ,q,e1,e2,e3⟩
  ·subst e2;exact .inl ⟨e1,hm.symm⟩
  ·subst e1 e2;have hm:q=m:=hm;exact .inr ⟨y,κ,rfl,by rw [hev y (by simp),e3,hm]⟩
 unfold cutE at h;split at h
 ·rename_i s xs;obtain ⟨qa,m,c,hy,hR⟩:=ZHm hp;rw [hy] at hx;split at h
  ·rename_i q hq;split at h
   ·rename_i hb;have hb:=Nat.eq_of_beq_eq_true hb;have hSl:=ZZo hq;rw [hb,← ZQ] at hSl;obtain ⟨yy,hyy,h⟩:=h;obtain ⟨c0,c1,c2,c3,_⟩:=Zpg hyy;obtain ⟨q',cap',hrun,hrel⟩:=Z0y hσ hSl hR c0 c1 c2;rw [← c3] at hrel;subst ho;exact ZM hr hU (hrun hx (h1 _ rfl) (h2 _ _ rfl)) hd hX (x:=.data (.slice s) yy) ⟨[_],hrel,rfl⟩ trivial h
   ·exact h.elim
  ·exact h.elim
 ·obtain ⟨e1,e2⟩:=ZMg hp;rw [e1] at hx;split at h
  ·rename_i ht;obtain ⟨yy,hyy,h⟩:=h;subst ho;exact ZM hr hU (Ziz hσ hx ht (h1 _ rfl) (h2 _ _ rfl) hyy) hd hX (ZVj (ZaA hyy e2)) trivial h
  ·exact h.elim
 ·exact h.elim
theorem ZTf {ρ:Type}:∀ (g:Nat) {t:T} {x:V} {k:t.den→Ev ρ} {l:Lo} {Post:ρ→Fr→Lo→Prop},Zm n (conv g t x k) f l Post→x.isAgg=t.agg
 | 0,_,_,_,_,_,h=>h.elim
 | g+1,t,x,k,l,Post,h=>by
  cases x with
  | data s x =>
   simp only [conv] at h
   split at h
   ·rename_i y hy
    obtain ⟨e,_⟩:=Z7 hy
    subst e;rfl
   ·split at h
    ·rfl
    ·rfl
    ·rfl
    ·rfl
    ·rfl
    ·split at h
     ·rename_i c hc
      have h1:=ZTf g (x:=.agg c) h
      have h2:s.agg=true:=by
       unfold ZBe at hc;split at hc <;> first | rfl | cases hc
      exact h2.trans h1
     ·exact h.elim
  | nilS =>
   simp only [conv] at h;split at h <;> first | rfl | exact h.elim
  | own u =>
   simp only [conv] at h;obtain ⟨e,he,h⟩:=h;obtain ⟨kk,st,L⟩:=e
   cases L with
   | box _ _=>exact h.elim
   | mid _ _ _ _ _ _=>exact h.elim
   | own ty s xs fz =>
    cases fz with
    | true=>exact ZTf g (x:=.data (.slice s) xs) h
    | false=>exact ZTf g (x:=.data (.slice s) xs) h
   | mat ty _ s m _=>exact ZTf g (x:=.data (.slice (.slice s)) m) h
  | agg c =>
   cases c with
   | cons x1 c =>
    cases c with
    | cons x2 r=>simp only [conv] at h;split at h <;> first | rfl | exact h.elim
    | nl=>simp only [conv] at h;split at h <;> first | rfl | exact h.elim
    | _=>simp only [conv] at h;exact h.elim
   | _=>simp only [conv] at h;exact h.elim
  | ptr u o =>
   cases o with
   | succ _=>simp only [conv] at h;exact h.elim
   | zero=>simp only [conv] at h;split at h <;> first | rfl | exact h.elim
  | _=>simp only [conv] at h;exact h.elim
theorem ZRt {x:V} {t:T} {cs:List Value} (h:x.isAgg=t.agg):x.val cs=t.rep.val cs:=by
 unfold V.val Rep.val;rw [h,ZCr]
 cases t.agg <;> rfl
theorem ZDm {v v':Zb} (h:v.le v'):∀ {ts:List T} {vals:List Value} {x:ZB ts},ZVa v ts vals x→ZVa v' ts vals x
 | [],_,_,k=>k
 | [_],_,_,⟨cs,h1,h2⟩=>⟨cs,h1,Rep.mono _ h h2⟩
 | _ :: _ :: _,_,_,⟨cs,vs,h1,h2,h3⟩=>⟨cs,vs,h1,Rep.mono _ h h2,ZDm h h3⟩
theorem ZWf {ρ:Type} (hn:¬ U n) (hX:X n):∀ {ts:List T} {c:V} {k:ZB ts→Ev ρ} {l:Lo} {γ:Nat→Gh} {v:Zb} {ℓ:List Loc} {Post:ρ→Fr→Lo→Prop},Zm n (ZEe ts c k) f l Post→RelX N G w0 v0 U X f l a w γ v ℓ→c.ok U →
  ∃ x l' γ' v' ℓ',Zm n (k x) f l' Post∧RelX N G w0 v0 U X f l' a w γ' v' ℓ'∧Le U v γ l v' γ' l'∧∀ vals,RR v γ l true c vals→ZVa v' ts vals x
 | [],c,k,l,γ,v,ℓ,Post,h,hr,hk=>by
  obtain ⟨E,hE,_⟩:=hr.lr
  cases c with
  | nl=>exact ⟨(),l,γ,v,ℓ,h,hr,Le.refl hE (Zb.le_refl _),fun vals hv=>hv⟩
  | _=>exact h.elim
 | [t],c,k,l,γ,v,ℓ,Post,h,hr,hk=>by
  cases c with
  | cons x c =>
   cases c with
   | nl =>
    have hag:=ZTf FU (n:=n) (f:=f) (l:=l) (t:=t) (x:=x) h
    obtain ⟨y,l1,γ1,v1,ℓ1,h,r1,le1,q1⟩:=Zqd hn hX FU h hr hk.1
    refine ⟨y,l1,γ1,v1,ℓ1,h,r1,le1,fun vals hv=>?_⟩
    obtain ⟨cs,vs,rfl,h1,h2⟩:=hv
    have h2:vs=[]:=h2
    subst h2
    exact ⟨cs,by rw [ZRt hag],q1 _ h1⟩
   | _=>exact h.elim
  | _=>exact h.elim
 | t :: u :: r,c,k,l,γ,v,ℓ,Post,h,hr,hk=>by
  cases c with
  | cons x c =>
   have h':Zm n (conv FU t x fun x=>ZEe (u :: r) c fun y=>k (x,y)) f l Post:=by
    cases c <;> exact h
   have hag:=ZTf FU (n:=n) (f:=f) (l:=l) (t:=t) (x:=x) h';obtain ⟨y,l1,γ1,v1,ℓ1,h1,r1,le1,q1⟩:=Zqd hn hX FU h' hr hk.1;obtain ⟨ys,l2,γ2,v2,ℓ2,h2,r2,le2,q2⟩:=ZWf hn hX h1 r1 hk.2;refine ⟨(y,ys),l2,γ2,v2,ℓ2,h2,r2,le1.trans le2,fun vals hv=>?_⟩;obtain ⟨cs,vs,rfl,h3,h4⟩:=hv;exact ⟨cs,vs,by rw [ZRt hag],Rep.mono _ le2.v (q1 _ h3),q2 _ (Znb le1 hk.2 h4)⟩
  | _=>exact h.elim
theorem Zsu {v:Zb}:∀ {ts:List T} {vals:List Value} {x:ZB ts},ZVa v ts vals x→RR v γ l true (Zof ts x) vals∧(Zof ts x).ok U
 | [],_,_,h=>⟨h,trivial⟩
 | [t],_,x,⟨cs,h1,h2⟩=>⟨⟨cs,[],by rw [h1];exact congrArg (fun z=>[z]) (Zzg (t:=t) (x:=x) (cs:=cs)).symm,h2,rfl⟩,trivial,trivial⟩
 | t :: u :: r,_,x,⟨cs,vs,h1,h2,h3⟩=>by
  obtain ⟨k1,k2⟩:=Zsu h3
  exact ⟨⟨cs,vs,by rw [h1];exact congrArg (· :: vs) (Zzg (t:=t) (x:=x.1) (cs:=cs)).symm,h2,k1⟩,trivial,k2⟩
theorem Zao {v:Zb} {ts:List T} {y:Value} {z:ZB ts} (h:ZIe v ts y z):RV v γ l (ZZd (Zof ts z)) y∧(ZZd (Zof ts z)).ok U:=by
 match ts,z,h with
 | [],z,⟨vals,h1,h2⟩=>exact ⟨⟨vals,h2,h1⟩,trivial⟩
 | [t],z,⟨cs,h1,h2⟩=>exact ⟨⟨cs,h2,by rw [h1];exact (Zzg (t:=t) (x:=z) (cs:=cs)).symm⟩,trivial⟩
 | t :: u :: r,z,⟨vals,h1,h2⟩ =>
  obtain ⟨k1,k2⟩:=Zsu (γ:=γ) (l:=l) (U:=U) h2
  cases r <;> exact ⟨⟨vals,k1,h1⟩,k2⟩
theorem ZMu {σ:List (Nat×Value)} (hS:St N w0 v0 σ ℓ v a w) {x:Operand} {m:String} {f:FuncId} {xs:Array Operand} {ats:Array TypeId} {t:TypeId} {y:Value} (vals:List Value) (hm:∀ w,(method (P.types.size+Made.depth) t y m).run P w = .ok (f,y) w) (e:ev σ x=some (.iface t y))
  (h:xs.toList.map (ev σ)=vals.map some) {r:Go.Next} (hf:(callFunc f (y :: vals).toArray).run P w = .ok r w):(execOp a.eval ⟨d,.call ⟨.invoke x m,xs,ats⟩,ty,pos,aft,g⟩).run P w = .ok r w:=by
 have hx:xs.map a.eval=vals.toArray:=by
  apply Array.ext';rw [Array.toList_map];generalize xs.toList=l at h;clear hf
  induction l generalizing vals with
  | nil=>cases vals <;> simp_all
  | cons y l ih =>
   cases vals with
   | nil=>simp at h
   | cons u vals =>
    simp at h;simp [hS.eval h.1,ih vals h.2]
 simp [execOp,resolve,invoke,callMethod,hx,hS.eval e,hm,hf]
theorem Zdo (hr:RelX N G w0 v0 U X f l a w γ v ℓ) (hU:∀ k,U k→X k) (hX:X n) (hn:¬ U n) {e:TypeId} {s:T} {xs:List s.den} {o:Oper} {ob:Option Nat} {cap:Nat} {cs:List Value} {Post:Unit→Fr→Lo→Prop} (hd:∀ k,o.dst=some k→k<N)
  (hst:St N w0 v0 [] (.own ob e s.n xs.length cap cs :: ℓ) v a w) (hc:s.rep.rels v cs xs) (h:Zm n (Ev.new n (.own e s xs false) (ret o (.own n))) f l Post):∃ f' l',Post () f' l'∧Rel N G w0 v0 X f' l' (a.put o.dst (.slice (mkA ob) xs.length cap)) w:=by
 obtain ⟨hnew,h⟩:=h;obtain ⟨E,hE,hpm⟩:=hr.lr;have hr':=hr.new (γ':=Zxc γ n (.own ob cap)) (L':=.own e s xs false) hX hX hn hnew hE (hst.perm (List.Perm.cons _ hpm)) (Zb.le_refl _) (fun _ h=>Z4b h) ⟨ob,cap,cs,Zdb,hc,rfl⟩ (List.Perm.refl _) trivial;unfold ret at h
 cases hdd:o.dst with
 | none=>rw [hdd] at h;exact h.elim
 | some d =>
  rw [hdd] at h;refine ⟨_,_,h,_,_,_,(hr'.mono hU fun _ h=>h).put (hd d hdd) (x:=.own n) ⟨[_],⟨_,rfl,by cases ob <;> rfl,fun e' he'=>?_⟩,rfl⟩ hX hX⟩;rw [ZT,if_pos rfl] at he';cases he';exact ⟨_,_,Zdb,rfl⟩
theorem St.addL {K:Nat} {w0:Base} {v0:Zb} {σ:List (Nat×Value)} {ℓ es:List Loc} {v:Zb} {a:Act} {w:World} {s:Nat} (h:St K w0 v0 σ ℓ v a w) (hs:w0.wd.heap.size≤s) (hnew:∀ x ∈ es,x.holds w∧∀ b,x.blk=some b→s≤b∧v b=none) (hnd:(es.filterMap Loc.blk).Nodup) (hold:∀ x ∈ ℓ,∀ b,x.blk=some b→b<s):St K w0 v0 σ (es++ℓ) v a w:=by
 refine ⟨h.size,h.dfr,h.fr,h.ext,h.vst,fun x hx=>?_,?_⟩
 ·rcases List.mem_append.1 hx with hx | hx
  ·exact ⟨(hnew x hx).1,fun b eb=>⟨.inl (Nat.le_trans hs ((hnew x hx).2 b eb).1),((hnew x hx).2 b eb).2⟩⟩
  ·exact h.loc x hx
 ·rw [List.filterMap_append];refine List.nodup_append.2 ⟨hnd,h.nd,fun b hb b' hb' e=>?_⟩;subst e;obtain ⟨x,hx,hxb⟩:=List.mem_filterMap.1 hb;obtain ⟨y,hy,hyb⟩:=List.mem_filterMap.1 hb';have h1:=((hnew x hx).2 b hxb).1;have h2:=hold y hy b hyb;omega
theorem put_mat (hr:RelX N G w0 v0 U X f l a w γ v ℓ) (hU:∀ k,U k→X k) (hX:X n) (hn:¬ U n) {ty ty2:TypeId} {t:T} {m:List (List t.den)} {o:Oper} {ob:Option Nat} {cap:Nat} {rows:List (Option Nat×Nat)} {es:List Loc} {Post:Unit→Fr→Lo→Prop} (hd:∀ k,o.dst=some k→k<N)
  (hst:St N w0 v0 [] ((.own ob ty 1 m.length cap (Zn rows m) :: es)++ℓ) v a w) (hc:Zla v ty2 t rows m es) (h:Zm n (Ev.new n (.mat ty ty2 t m n) (ret o (.own n))) f l Post):∃ f' l',Post () f' l'∧Rel N G w0 v0 X f' l' (a.put o.dst (.slice (mkA ob) m.length cap)) w:=by
 obtain ⟨hnew,h⟩:=h;obtain ⟨E,hE,hpm⟩:=hr.lr;have hr':=hr.new (γ':=Zxc γ n (.mat ob cap rows)) (L':=.mat ty ty2 t m n) (es':=.own ob ty 1 m.length cap (Zn rows m) :: es) hX hX hn hnew hE (hst.perm (List.Perm.append_left _ hpm)) (Zb.le_refl _) (fun _ h=>Z4b h) ⟨ob,cap,rows,es,Zdb,hc,rfl⟩ (List.Perm.refl _) hX;unfold ret at h
 cases hdd:o.dst with
 | none=>rw [hdd] at h;exact h.elim
 | some d =>
  rw [hdd] at h;refine ⟨_,_,h,_,_,_,(hr'.mono hU fun _ h=>h).put (hd d hdd) (x:=.own n) ⟨[_],⟨_,rfl,by cases ob <;> rfl,fun e' he'=>?_⟩,rfl⟩ hX hX⟩;rw [ZT,if_pos rfl] at he';cases he';exact ⟨_,_,_,Zdb,rfl⟩
theorem Zgr {c:ConI} {fid:FuncId} (hI:ZRl P fid c) (hr:RelX N G w0 v0 U X f l a w γ v ℓ) (hU:∀ k,U k→X k) (hX:X n) (hn:¬ U n) {o:Oper} {Post:Unit→Fr→Lo→Prop} (hd:∀ k,o.dst=some k→k<N) {ob:Option Nat} {cap:Nat} {cs:List Value} {xs:List c.t.den} {i:Int} {bv kv:Nat} {c0:Array Value} {x:c.t.den} {z:List c.t.den}
  (hst:St N w0 v0 [] (.own ob c.ty c.t.n xs.length cap cs :: ℓ) v a w) (hA:c.t.rep.rels v cs xs) (hkv:1≤kv) (hbv:v bv=some (.cells c0 c.ty (0,0))) (hx:c.t.rep.rel v (c0.toList.take c.t.n) x) (hi:inR .i64 i) (hz:c.F xs i x=some z)
  (hent:ZN P fid→(execOp a.eval o).run P w = .ok (.enter fid #[.slice (mkA ob) xs.length cap,.int .i64 i,.slice (some ⟨bv,0,none⟩) 1 kv]) w) (h:Zm n (Ev.new n (.own c.ty c.t z false) (ret o (.own n))) f l Post):Zta P N G w0 v0 X o a w Post:=by
 obtain ⟨hh,hb⟩:=hst.loc _ List.mem_cons_self;obtain ⟨hen,hret⟩:=hI w v ob xs.length cap cs xs i bv kv c0 x z hst.vin hh (fun b e=>(hb b e).2) hA rfl hkv hbv hx hi hz;refine Zbd (hent hen) (Calls.mono hret fun e w' ⟨r,v',e1,e2,e3,e4⟩=>⟨r,e1,?_⟩);obtain ⟨ob',n',cap',cs',rfl,hh',hb',hA',hn'⟩:=e4;subst hn';have hS:=hst.afterI (i:=0) (e':=.own ob' c.ty c.t.n z.length cap' cs') rfl e2 e3 hh' fun b hb=>by
  obtain ⟨q1,q2⟩:=hb' b hb;exact ⟨q1,q2⟩
 have hS:St N w0 v0 [] (.own ob' c.ty c.t.n z.length cap' cs' :: ℓ) v' a w':=hS;exact Zdo (hr.go e3.le (hS.drop (List.sublist_cons_self _ _))) hU hX hn hd hS hA' h
theorem ZIy {c:ConD} {fid:FuncId} (hI:Zgh P fid c) (hr:RelX N G w0 v0 U X f l a w γ v ℓ) (hU:∀ k,U k→X k) (hX:X n) (hn:¬ U n) {o:Oper} {Post:Unit→Fr→Lo→Prop} (hd:∀ k,o.dst=some k→k<N) {ob:Option Nat} {cap:Nat} {cs:List Value} {xs:List c.t.den} {i j:Int} {z:List c.t.den}
  (hst:St N w0 v0 [] (.own ob c.ty c.t.n xs.length cap cs :: ℓ) v a w) (hA:c.t.rep.rels v cs xs) (hi:inR .i64 i) (hj:inR .i64 j) (hz:c.F xs i j=some z)
  (hent:ZN P fid→(execOp a.eval o).run P w = .ok (.enter fid #[.slice (mkA ob) xs.length cap,.int .i64 i,.int .i64 j]) w) (h:Zm n (Ev.new n (.own c.ty c.t z false) (ret o (.own n))) f l Post):Zta P N G w0 v0 X o a w Post:=by
 obtain ⟨hh,hb⟩:=hst.loc _ List.mem_cons_self;obtain ⟨hen,hret⟩:=hI w v ob xs.length cap cs xs i j z hst.vin hh (fun b e=>(hb b e).2) hA rfl hi hj hz;refine Zbd (hent hen) (Calls.mono hret fun e w' ⟨r,v',e1,e2,e3,e4⟩=>⟨r,e1,?_⟩);obtain ⟨ob',n',cap',cs',rfl,hh',hb',hA',hn'⟩:=e4;subst hn';have hS:=hst.afterI (i:=0) (e':=.own ob' c.ty c.t.n z.length cap' cs') rfl e2 e3 hh' fun b hb=>by
  obtain ⟨q1,q2⟩:=hb' b hb;exact ⟨q1,q2⟩
 have hS:St N w0 v0 [] (.own ob' c.ty c.t.n z.length cap' cs' :: ℓ) v' a w':=hS;exact Zdo (hr.go e3.le (hS.drop (List.sublist_cons_self _ _))) hU hX hn hd hS hA' h
theorem Zys {C:Cf} (hC:CfOK C) (hr:RelX N G w0 v0 U X f l a w γ v ℓ) (hU:∀ k,U k→X k) (hX:X n) (hn:¬ U n) {fid:FuncId} {c:V} {vals:List Value} {o:Oper} {Post:Unit→Fr→Lo→Prop} (hd:∀ k,o.dst=some k→k<N)
  (hent:ZN C.P fid→(execOp a.eval o).run C.P w = .ok (.enter fid vals.toArray) w) (hval:∀ y,(∀ w,(callFunc fid vals.toArray).run C.P w = .ok (.value y) w)→(execOp a.eval o).run C.P w = .ok (.value y) w)
  (hc:RR v γ l true c vals) (hk:c.ok U) (h:Zm n (Z5j C n o fid c) f l Post):Zta C.P N G w0 v0 X o a w Post:=by
 unfold Z5j at h;split at h
 ·rename_i con hcon;obtain ⟨p,l1,γ1,v1,ℓ1,h,r1,le1,q1⟩:=ZWf hn hX h hr hk;obtain ⟨z,hz,h⟩:=h;have hR:=q1 _ hc;rcases hC.c fid con hcon w v1 _ p z r1.st.vin hR hz with ⟨hen,hret⟩ | ⟨y,hv,hres⟩
  ·refine Zbd (hent hen) (Calls.mono hret fun e w' ⟨r,v',e1,e2,e3,e4⟩=>⟨r,e1,?_⟩);have r2:=r1.go e3.le (r1.st.step e2 e3);obtain ⟨k1,k2⟩:=Zao (γ:=γ1) (l:=l1) (U:=X) e4;unfold ret at h
   cases hdd:o.dst with
   | none=>rw [hdd] at h;exact h.elim
   | some dd =>
    rw [hdd] at h;exact ⟨_,_,h,_,_,_,(r2.mono hU fun _ h=>h).put (hd dd hdd) k1 k2 hX⟩
  ·obtain ⟨k1,k2⟩:=Zao (γ:=γ1) (l:=l1) (U:=X) hres;exact ZM r1 hU (hval y hv) hd hX k1 k2 h
 ·split at h
  ·rename_i con hcon;obtain ⟨p,l1,γ1,v1,ℓ1,h,r1,le1,q1⟩:=ZWf hn hX h hr hk;obtain ⟨z,hz,h⟩:=h;have hR:=q1 _ hc;obtain ⟨hen,hret⟩:=hC.o fid con hcon w v1 _ p z r1.st.vin hR hz;refine Zbd (hent hen) (Calls.mono hret fun e w' ⟨r,v',e1,e2,e3,e4⟩=>⟨r,e1,?_⟩);obtain ⟨ob,n',cap,cs,rfl,hh,hb,hA,hn'⟩:=e4;subst hn';have h':=r1.st.step e2 e3;refine Zdo (r1.go e3.le h') hU hX hn hd (cs:=cs) ⟨h'.size,h'.dfr,h'.fr,h'.ext,h'.vst,fun x hx=>?_,?_⟩ hA h
   ·rcases List.mem_cons.1 hx with rfl | hx
    ·exact ⟨hh,fun b eb=>⟨.inl (Nat.le_trans r1.st.ext.size (hb b eb).1),(hb b eb).2⟩⟩
    ·exact h'.loc x hx
   ·cases ob with
    | none=>rw [List.filterMap_cons_none (show (Loc.own none con.ty con.t.n z.length cap cs).blk=none from rfl)];exact h'.nd
    | some b =>
     rw [List.filterMap_cons_some (show (Loc.own (some b) con.ty con.t.n z.length cap cs).blk=some b from rfl)];refine List.nodup_cons.2 ⟨fun hm=>?_,h'.nd⟩;obtain ⟨x,hx,hxb⟩:=List.mem_filterMap.1 hm;obtain ⟨c,T',hg⟩:=Loc.blk_get (r1.st.loc x hx).1 hxb;have h1:=Zie hg;have h2:=(hb b rfl).1;omega
  ·split at h
   ·rename_i con hcon;have hI:=hC.i fid con hcon;unfold insE at h;split at h
    ·rename_i A i u2;obtain ⟨cA,xs1,rfl,hA1,xs2,xs3,rfl,hI1,xs4,xs5,rfl,hU2,hnl⟩:=hc;have hnl:xs5=[]:=hnl;subst hnl;obtain ⟨e2,he2,h⟩:=h;obtain ⟨k2,st2,L2⟩:=e2;have hk2:k2=u2:=(Zr he2).2;subst hk2
     cases L2 with
     | own ty2 s2 l2 fz =>
      cases fz with
      | true=>exact h.elim
      | false =>
       simp only at h;split at h
       ·rename_i x hty hcast;have hty:=Nat.eq_of_beq_eq_true hty;subst hty;obtain ⟨c3,c4⟩:=Z7 hcast;obtain ⟨es2,E2,g1,_,_,g3,r1⟩:=hr.del he2;obtain ⟨ob2,cap2,cs2,g4,g5,rfl⟩:=g1;have g4:γ k2 = .own ob2 cap2:=g4;obtain ⟨y2,rfl,_,hy2⟩:=hU2;obtain ⟨ob2',cap2',g6,g7⟩:=hy2 _ he2;rw [g4] at g6;cases g6;have hst2:=hr.st.perm g3;obtain ⟨hh2,hb2⟩:=hst2.loc _ List.mem_cons_self;have hc3:s2=con.t:=by injection c3
        subst hc3;have hl2:l2=[x]:=c4;subst hl2
        cases ob2 with
        | none=>obtain ⟨q,_⟩:=hh2;cases q
        | some bv =>
         obtain ⟨hl,cur,hg,hle,_,hcz,htk⟩:=hh2;obtain ⟨v1,hv1,hv2,hst3⟩:=hst2.publish (i:=0) (ℓ':=E2.flatten) rfl rfl hg rfl;have r2:=r1.go hv1 hst3;have hx1:con.t.rep.rel v1 (cur.toList.take con.t.n) x:=by
          have hq:con.t.rep.rels v1 cs2 [x]:=ZO hv1 g5;obtain ⟨d1,d2,e1,e2,e3⟩:=hq;have e3:d2=[]:=e3;subst e3;rw [List.append_nil] at e1;subst e1;have:cur.toList.take ([x].length*con.t.n)=cs2:=htk;rw [show [x].length*con.t.n=con.t.n by simp] at this;rw [this];exact e2
         have hi:inR .i64 i:=by obtain ⟨_,q⟩:=hI1;exact q
         have hiv:(V.data (.int .i64) i).val xs2 = .int .i64 i:=by obtain ⟨q,_⟩:=hI1;subst q;rfl
         have hle0:=Le.era hr k2;have lv:Le U v γ l v1 γ (era l k2):=hle0.trans (by obtain ⟨EE,hEE,_⟩:=r1.lr;exact Le.refl hEE hv1)
         cases A with
         | own u =>
          simp only at h;obtain ⟨e,he,h⟩:=h;obtain ⟨k,st,L⟩:=e;have hkk:k=u:=(Zr he).2;subst hkk
          cases L with
          | own ty s xs fz =>
           cases fz with
           | true=>exact h.elim
           | false =>
            simp only at h;split at h
            ·rename_i l' hty hcast;have hty:=Nat.eq_of_beq_eq_true hty;subst hty;obtain ⟨c5,c6⟩:=Z7 hcast;have hc5:s=con.t:=by injection c5
             subst hc5;have hl':xs=l':=c6;subst hl';obtain ⟨z,hz,h⟩:=h;obtain ⟨es,E3,d1,_,_,d3,r3⟩:=r2.del he;obtain ⟨ob,cap,cs,d4,d5,rfl⟩:=d1;have d4:γ k = .own ob cap:=d4;have hA2:=Znb lv (x:=.own k) hk.1 hA1;obtain ⟨y,rfl,_,hy⟩:=hA2;obtain ⟨ob',cap',d6,d7⟩:=hy _ he;rw [d4] at d6;cases d6;refine Zgr hI r3 hU hX hn hd (hst3.perm d3) d5 (kv:=cap2) (by simpa using hle) hv2 hx1 hi hz (fun hen=>?_) h;rw [hent hen,ZRf (x:=.own k) rfl,d7,hiv,ZRf (x:=.own k2) rfl,g7];rfl
            ·exact h.elim
          | box _ _=>exact h.elim
          | mid _ _ _ _ _ _=>exact h.elim
          | mat _ _ _ _ _=>exact h.elim
         | nilS =>
          simp only at h;obtain ⟨z,hz,h⟩:=h;have hA1:cA=[.slice none 0 0]:=hA1;subst hA1;refine Zgr hI r2 hU hX hn hd (ob:=none) (cap:=0) (cs:=[]) (xs:=[]) (hst3.nilLoc con.ty con.t.n) rfl (kv:=cap2) (by simpa using hle) hv2 hx1 hi hz (fun hen=>?_) h;rw [hent hen,hiv,ZRf (x:=.own k2) rfl,g7];rfl
         | _=>exact h.elim
       ·exact h.elim
     | box _ _=>exact h.elim
     | mid _ _ _ _ _ _=>exact h.elim
     | mat _ _ _ _ _=>exact h.elim
    ·exact h.elim
   ·split at h
    ·rename_i con hcon;obtain ⟨p,l1,γ1,v1,ℓ1,h,r1,le1,q1⟩:=ZWf hn hX h hr hk;obtain ⟨z,hz,h⟩:=h;have hR:=q1 _ hc;obtain ⟨hen,hret⟩:=hC.q fid con hcon w v1 _ p z r1.st.vin hR hz;refine Zbd (hent hen) (Calls.mono hret fun e w' ⟨r,v',e1,e2,e3,e4⟩=>⟨r,e1,?_⟩);obtain ⟨ob,cap,rows,es,rfl,hA,hh,hb⟩:=e4;have h':=r1.st.step e2 e3;refine put_mat (r1.go e3.le h') hU hX hn hd (h'.addL r1.st.ext.size hh hb fun x hx b hxb=>?_) hA h;obtain ⟨c,T',hg⟩:=Loc.blk_get (r1.st.loc x hx).1 hxb;exact Zie hg
    ·split at h
     ·rename_i con hcon;have hI:=hC.d fid con hcon;unfold delE at h;split at h
      ·rename_i u i j;obtain ⟨cA,x1,rfl,hA,cI,x2,rfl,hI1,cJ,x3,rfl,hJ,hnl⟩:=hc;have hnl:x3=[]:=hnl;subst hnl;obtain ⟨e,he,h⟩:=h;obtain ⟨kk,st,L⟩:=e;have hkk:kk=u:=(Zr he).2;subst hkk
       cases L with
       | own ty s xs fz =>
        cases fz with
        | true=>exact h.elim
        | false =>
         simp only at h;split at h
         ·rename_i ys hty hcast;have hty:=Nat.eq_of_beq_eq_true hty;subst hty;obtain ⟨c5,c6⟩:=Z7 hcast;have hc5:s=con.t:=by injection c5
          subst hc5;have hl':xs=ys:=c6;subst hl';obtain ⟨z,hz,h⟩:=h;obtain ⟨es,E',h1,_,h2,h3,r1⟩:=hr.del he;obtain ⟨ob,cap,cs,g1,g2,rfl⟩:=h1;have g1:γ kk = .own ob cap:=g1;obtain ⟨y,rfl,_,hy⟩:=hA;obtain ⟨ob',cap',g3,g4⟩:=hy _ he;rw [g1] at g3;cases g3;have hi:inR .i64 i:=by obtain ⟨_,q⟩:=hI1;exact q
          have hiv:(V.data (.int .i64) i).val cI = .int .i64 i:=by obtain ⟨q,_⟩:=hI1;subst q;rfl
          have hj:inR .i64 j:=by obtain ⟨_,q⟩:=hJ;exact q
          have hjv:(V.data (.int .i64) j).val cJ = .int .i64 j:=by obtain ⟨q,_⟩:=hJ;subst q;rfl
          refine ZIy hI r1 hU hX hn hd (hr.st.perm h3) g2 hi hj hz (fun hen=>?_) h;rw [hent hen,ZRf (x:=.own kk) rfl,g4,hiv,hjv]
         ·exact h.elim
       | box _ _=>exact h.elim
       | mid _ _ _ _ _ _=>exact h.elim
       | mat _ _ _ _ _=>exact h.elim
      ·exact h.elim
     ·exact h.elim
theorem Ztp:∀ {c:V} {i:Nat} {z:V} {vals:List Value},nthV c i=some z→RR v γ l true c vals→c.ok U→∃ y,vals[i]? = some y∧RV v γ l z y∧z.ok U
 | .cons x c,0,z,vals,h,hr,hk=>by
  cases h
  obtain ⟨cs,xs,rfl,h1,h2⟩:=hr
  exact ⟨_,rfl,Z2b h1 (fun c e=>by subst e;exact h1),hk.1⟩
 | .cons x c,i+1,z,vals,h,hr,hk=>by
  obtain ⟨cs,xs,rfl,h1,h2⟩:=hr
  obtain ⟨y,k1,k2,k3⟩:=Ztp (c:=c) h h2 hk.2
  exact ⟨y,by simpa using k1,k2,k3⟩
theorem Zps {v:Zb} {a:T}:∀ {n:Nat} {x:(Zhf a n).den} {cs:List Value},0<n→(Zhf a n).rep.rel v cs x→a.rep.rels v cs (Zje a n x)∧(Zje a n x).length=n
 | 0,_,_,h,_=>by omega
 | 1,x,cs,_,h=>⟨ZYo h,rfl⟩
 | 2,x,cs,_,h=>by
  obtain ⟨c1,c2,h1,h2,h3⟩:=h
  exact ⟨⟨c1,c2,h1,h2,ZYo h3⟩,rfl⟩
 | k+3,x,cs,_,h=>by
  obtain ⟨c1,c2,h1,h2,h3⟩:=h
  obtain ⟨k1,k2⟩:=Zps (n:=k+2) (by omega) h3
  exact ⟨⟨c1,c2,h1,h2,k1⟩,by show (Zje a (k+2) x.2).length+1=_;rw [k2]⟩
theorem RelX.slot (h:RelX N G w0 v0 U X f l a w γ v ℓ) {t m:Nat} {z:V} (hr:RV v γ l z (a.tmps.getD t undef)) (hk:z.ok U) (hX:X m):RelX N G w0 v0 U X (⟨t,m,z⟩ :: f) l a w γ v ℓ:=by
 refine ⟨h.st,fun t' e' he'=>?_,h.lr,h.nd,fun t' e' he'=>?_,h.ul,h.gh⟩
 ·rw [ZT] at he';split at he'
  ·rename_i hk'
   cases he'
   have hk':t=t':=hk';rw [← hk'];exact hr
  ·exact h.fr t' e' he'
 ·rw [ZT] at he';split at he'
  ·cases he';exact ⟨hk,hX⟩
  ·exact h.uf t' e' he'
theorem Zsx {σ:List (Nat×Value)} (hS:St N w0 v0 σ ℓ v a w) {t e:TypeId} {n b:Nat} {i:TypeInfo} {x:Operand} (ht:P.underlying t=some (.array n e)) (hi:P.info? e=some i) (e1:ev σ x=some (.pointer (some ⟨b,0,none⟩))) :
  (execOp a.eval ⟨d,.slice t x none none none,ty,pos,aft,g⟩).run P w = .ok (.value (.slice (some ⟨b,0,none⟩) n n)) w:=by
 have h2:∀ w,(underlying t).run P w = .ok (.array n e) w:=fun w=>run_underlying ht w;have h3:∀ w,(sizeOf e).run P w = .ok i.size w:=fun w=>by simp [sizeOf,typeInfo,hi]
 by_cases hn:n=0
 ·subst hn;simp [execOp,Instr.sliceAt,Instr.sureAddr,hS.eval e1,h2,h3,Instr.sliceBounds,Zpa]
 ·simp [execOp,Instr.sliceAt,Instr.sureAddr,hS.eval e1,h2,h3,Instr.sliceBounds,Zpa]
theorem arrE_ok {C:Cf} (hr:RelX N G w0 v0 U X f l a w γ v ℓ) (hU:∀ k,U k→X k) (hX:X n) (hn:¬ U n) {t:TypeId} {s u off:Nat} {lo hi:Option Operand} {i j:Option Int} {o:Oper} {Post:Unit→Fr→Lo→Prop} (ho:o=⟨d,.slice t (.tmp s) lo hi none,ty,pos,aft,g⟩) (hd:∀ k,o.dst=some k→k<N) (hp:RV v γ l (.ptr u off) (a.eval (.tmp s))) (hk:U u)
  (hlo:(lo=none∧i=none) ∨ ∃ y κ q,lo=some y∧i=some q∧a.eval y = .int κ q) (hhi:(hi=none∧j=none) ∨ ∃ y κ q,hi=some y∧j=some q∧a.eval y = .int κ q) (h:Zm n (arrE C o t s u off i j) f l Post):Zta C.P N G w0 v0 X o a w Post:=by
 unfold arrE at h;split at h
 ·rename_i m e h0 hu;have h0:=Nat.eq_of_beq_eq_true h0;subst h0;have hlo:lo=none:=by
   rcases hlo with h1 | ⟨_,_,_,_,h1,_⟩
   ·exact h1.1
   ·cases h1
  have hhi:hi=none:=by
   rcases hhi with h1 | ⟨_,_,_,_,h1,_⟩
   ·exact h1.1
   ·cases h1
  subst hlo hhi;split at h
  ·rename_i α q hα hq hm0 hm1;have hm0:1≤m:=Nat.le_of_ble_eq_true hm0;have hm1:=Nat.le_of_ble_eq_true hm1;split at h
   ·obtain ⟨⟨k0,st0,L⟩,he,h⟩:=h;have hkk:k0=u:=(Zr he).2;subst hkk
    cases L with
    | box ty0 c =>
     simp only at h;obtain ⟨y,hy0,_,hy⟩:=Zha hp (fun _ e=>by cases e) rfl rfl;have hy0:a.eval (.tmp s)=y:=(List.cons.inj hy0).1;obtain ⟨b,g1,rfl⟩:=hy _ he;obtain ⟨es,E',h1,_,_,h3,_⟩:=hr.del he;obtain ⟨b',cs,g2,g3,g4,rfl⟩:=h1;have g2:γ k0 = .box b':=g2;rw [g1] at g2;cases g2;obtain ⟨x1,l1,γ1,v1,ℓ1,hB,r1,le1,q1⟩:=Zqd hn hX FU h hr (hr.ul _ (Zr he).1).2.2;obtain ⟨⟨k1,st1,L1⟩,he1,hC⟩:=hB;have hkk1:k1=k0:=(Zr he1).2;subst hkk1
     cases L1 with
     | box ty1 c1 =>
      obtain ⟨e0,he0,hce⟩:=le1.l _ _ hk he1;rw [he] at he0;cases he0;have hce:γ1 k1=γ k1:=hce;obtain ⟨es1,E1,f1,_,_,f3,r2⟩:=r1.del he1;obtain ⟨b1,cs1,f4,f5,f6,rfl⟩:=f1;have f4:γ1 k1 = .box b1:=f4;rw [hce,g1] at f4;cases f4;have m0:=(hr.st.loc _ (h3.mem_iff.2 (List.mem_append_left _ (List.mem_singleton.2 rfl)))).1;have m1:=(r1.st.loc _ (f3.mem_iff.2 (List.mem_append_left _ (List.mem_singleton.2 rfl)))).1;have m0:w.heap[b]? = some (.cells cs.toArray ty0 (0,0)):=m0;have m1:w.heap[b]? = some (.cells cs1.toArray ty1 (0,0)):=m1;rw [m0] at m1;have hcs:cs=cs1:=by
       have:=Option.some.inj m1
       injection this with h1 _ _
       have:=congrArg Array.toList h1
       simpa using this
      subst hcs;obtain ⟨v',hv,hs1,hAt⟩:=(r1.st.perm f3).pubVar (i:=0) rfl rfl;have hs1:St N w0 v0 [] E1.flatten v' a w:=hs1;have r3:=r2.go hv hs1;have hrel:=Rep.mono _ hv (q1 _ g3);have r4:=r3.slot (t:=s) (m:=n) (z:=.vp (Zhf α m) x1 0) ⟨[_],⟨b,0,cs,hAt,hrel,rfl⟩,hy0⟩ trivial hX;obtain ⟨i0,hi0⟩:∃ i0,C.P.info? e=some i0:=by
       unfold szA at hq;split at hq
       ·rename_i i0 _ hi0 _;exact ⟨i0,hi0⟩
       ·cases hq
      obtain ⟨σ,hσ,e1⟩:=r4.st.ev1 (.tmp s);rw [hy0] at e1;obtain ⟨k4,k5⟩:=Zps (by omega) hrel;subst ho;refine ZM r4 hU (Zsx hσ hu hi0 e1) hd hX (x:=.data (.slice α) (Zje α m x1)) ⟨[.slice (some ⟨b,0,none⟩) m m],?_,rfl⟩ trivial hC;obtain ⟨c2,T2,fr2,hvb,htk⟩:=hAt;have hlen:=Zkd k4;rw [k5] at hlen;refine ⟨some ⟨b,0,none⟩,m,by rw [show (Zje α m x1).length=m from k5],by rw [show (Zje α m x1).length=m from k5];exact Nat.le_refl _,by unfold maxLen;omega,.inr ⟨b,0,c2,T2,fr2,rfl,hvb,?_⟩⟩;rw [show (Zje α m x1).length=m from k5,← hlen,htk];exact k4
     | own _ _ _ _=>exact hC.elim
     | mat _ _ _ _ _=>exact hC.elim
     | mid _ _ _ _ _ _=>exact hC.elim
    | own _ _ _ _=>exact h.elim
    | mat _ _ _ _ _=>exact h.elim
    | mid _ _ _ _ _ _=>exact h.elim
   ·exact h.elim
  ·exact h.elim
 ·exact h.elim
theorem RelX.dup (h:RelX N G w0 v0 U X f l a w γ v ℓ) {t:Nat} {e:En V} (he:lkE f t=some e):RelX N G w0 v0 U X (e :: f) l a w γ v ℓ:=by
 obtain ⟨hm,hk⟩:=Zr he;have key:∀ t',lkE (e :: f) t'=lkE f t':=fun t'=>by
  rw [ZT];split
  ·rename_i hk';rw [← hk',hk];exact he.symm
  ·rfl
 exact ⟨h.st,fun t' e' he'=>h.fr t' e' (by rw [← key];exact he'),h.lr,h.nd,fun t' e' he'=>h.uf t' e' (by rw [← key];exact he'),h.ul,h.gh⟩
theorem run_mkI {σ:List (Nat×Value)} (hS:St N w0 v0 σ ℓ v a w) {t:TypeId} {x:Operand} {y:Value} {D:TypeDesc} (e:ev σ x=some y) (h:P.underlying t=some D) (hn:∀ q,some D≠some (.interface q)) :
  (execOp a.eval ⟨d,.makeInterface t x,ty,pos,aft,g⟩).run P w = .ok (.value (.iface t y)) w:=by
 have hx:=hS.eval e;have:(Instr.makeInterface t y).run P w = .ok (.iface t y) w:=by
  cases D with
  | interface q=>exact absurd rfl (hn q)
  | _=>simp [Instr.makeInterface,run_underlying h]
 simp [execOp,hx,this]
theorem ZXw {σ:List (Nat×Value)} (hS:St N w0 v0 σ ℓ v a w) {x y z u s t:Operand} {k:IntKind} {p q r p' q' r':Int} {ats:Array TypeId} (e:ev σ x=some (.int k p)) (e':ev σ y=some (.int k q)) (e2:ev σ z=some (.int k r)) (e3:ev σ u=some (.int k p')) (e4:ev σ s=some (.int k q')) (e5:ev σ t=some (.int k r')) :
  (execOp a.eval ⟨d,.call ⟨.builtin .max,#[x,y,z,u,s,t],ats⟩,ty,pos,aft,g⟩).run P w = .ok (.value (.int k (max (max (max (max (max p q) r) p') q') r'))) w:=by
 simp [execOp,resolve,invoke,builtin,Builtin.max_,hS.eval e,hS.eval e',hS.eval e2,hS.eval e3,hS.eval e4,hS.eval e5,ZCn]
theorem ZPm {C:Cf} (hC:CfOK C) (hr:RelX N G w0 v0 U X f l a w γ v ℓ) (hU:∀ k,U k→X k) (hX:X n) (hn:¬ U n) {o:Oper} {Post:Unit→Fr→Lo→Prop} (hd:∀ k,o.dst=some k→k<N) (h:Zm n (ZY C n o) f l Post):Zta C.P N G w0 v0 X o a w Post:=by
 obtain ⟨d,op,ty,pos,aft,g⟩:=o
 cases op with
 | move x =>
  simp only [ZY] at h;obtain ⟨V1,h1,k1,hA⟩:=ZG hr h;obtain ⟨σ,hσ,e1⟩:=hr.st.ev1 x;exact ZM hr hU (ZJ hσ e1) hd hX h1 (V.ok.mono hU k1) hA
 | assign x =>
  simp only [ZY] at h;split at h
  ·rename_i hx;have hx:x = .const (.pointer none):=by
    unfold ZFq at hx;split at hx
    ·rfl
    ·cases hx
   subst hx;obtain ⟨h0,hA⟩:=h;have e0:Go.Eng.era (⟨n,n,LV.box 0 .undef⟩ :: l) n=l:=by
    simp only [era];rw [show Nat.beq n n=true from Nat.beq_refl n]
   have hA:Zm n (ret ⟨d,.assign (.const (.pointer none)),ty,pos,aft,g⟩ (.ptr n 0)) f (Go.Eng.era (⟨n,n,LV.box 0 .undef⟩ :: l) n) Post:=hA;rw [e0] at hA;obtain ⟨σ,hσ,e1⟩:=hr.st.ev1 (.const (.pointer none));exact ZM hr hU (ZLd hσ e1) hd hX (x:=.ptr n 0) ⟨[.pointer none],⟨_,rfl,rfl,fun e he=>by rw [h0] at he;cases he⟩,rfl⟩ hX hA
  ·obtain ⟨V1,h1,k1,hA⟩:=ZG hr h;obtain ⟨σ,hσ,e1⟩:=hr.st.ev1 x;exact ZM hr hU (ZLd hσ e1) hd hX h1 (V.ok.mono hU k1) hA
 | nilCheck x =>
  simp only [ZY] at h;obtain ⟨V1,h1,k1,hA⟩:=ZG hr h;split at hA
  ·rename_i α y;obtain ⟨cs,hcs,e0⟩:=h1;obtain ⟨b,o',c,rfl,hat,hrel⟩:=(show (rPtr α.rep).rel v cs y from hcs);obtain ⟨σ,hσ,e1⟩:=hr.st.ev1 x;rw [e0] at e1;have e1:ev σ x=some (.pointer (some ⟨b,o',none⟩)):=e1;have hrun:(execOp a.eval ⟨d,.nilCheck x,ty,pos,aft,g⟩).run C.P w = .ok (.value (.pointer (some ⟨b,o',none⟩))) w:=by simp [execOp,hσ.eval e1]
   exact ZM hr hU hrun hd hX (x:=.vp α y 0) ⟨[_],⟨b,o',c,hat,hrel,rfl⟩,rfl⟩ trivial hA
  obtain ⟨hB,b,o',e',_⟩:=Zhm h1 k1 hA;obtain ⟨σ,hσ,e1⟩:=hr.st.ev1 x;rw [e'] at e1 h1;have hrun:(execOp a.eval ⟨d,.nilCheck x,ty,pos,aft,g⟩).run C.P w = .ok (.value (.pointer (some ⟨b,o',none⟩))) w:=by simp [execOp,hσ.eval e1]
  exact ZM hr hU hrun hd hX h1 (V.ok.mono hU k1) hB
 | extract x i =>
  simp only [ZY] at h;obtain ⟨V1,h1,k1,hA⟩:=ZG hr h;split at hA
  ·rename_i c;split at hA
   ·rename_i z hz;obtain ⟨vals,h2,h3⟩:=h1;obtain ⟨y,q1,q2,q3⟩:=Ztp hz h2 k1;obtain ⟨σ,hσ,e1⟩:=hr.st.ev1 x;rw [h3] at e1;exact ZM hr hU (ZAa hσ e1 (by simpa using q1)) hd hX q2 (V.ok.mono hU q3) hA
   ·exact hA.elim
  ·exact hA.elim
 | alloc t =>
  simp only [ZY] at h;split at h
  ·rename_i z hz;obtain ⟨y,cs,hy,hcells,hzz,hkz,hp⟩:=ZVm (v:=v) (γ:=γ) (l:=l) (U:=U) hz;refine ZTs hr hU hX hn hd hzz hkz hp ?_ h;have:=ZFo (a:=a) (w:=w) (d:=d) (ty:=ty) (pos:=pos) (aft:=aft) (g:=g) hy;rw [hcells] at this;exact this
  ·exact h.elim
 | box t x =>
  simp only [ZY] at h;obtain ⟨V1,h1,k1,hA⟩:=ZG hr h;split at hA
  ·rename_i hfit;obtain ⟨cs,hcs,hqe⟩:=Zxb h1 (ZNo hfit);obtain ⟨hcells,hpl⟩:=ZDl hcs hfit;obtain ⟨σ,hσ,e1⟩:=hr.st.ev1 x;rw [hqe] at e1;refine ZTs hr hU hX hn hd hcs k1 hpl ?_ hA;have:=Zmt (t:=t) (d:=d) (ty:=ty) (pos:=pos) (aft:=aft) (g:=g) (P:=C.P) hσ e1;rw [show (V1.val cs).cells=cs.toArray from hcells] at this;exact this
  ·exact hA.elim
 | load t x =>
  simp only [ZY] at h;obtain ⟨V1,h1,k1,hA⟩:=ZG hr h;split at hA
  ·exact Znx hr hU hX hn rfl hd h1 hA
  obtain ⟨z,y,q1,q2,q3,hB⟩:=ldE_ok (d:=d) (ty:=ty) (pos:=pos) (aft:=aft) (g:=g) hr h1 k1 hA;exact ZM hr hU q1 hd hX q2 (V.ok.mono hU q3) hB
 | store t x y =>
  simp only [ZY] at h
  cases d with
  | some d=>exact h.elim
  | none =>
   obtain ⟨V1,h1,k1,hA⟩:=ZG hr h;obtain ⟨V2,h2,k2,hB⟩:=ZG hr hA;exact stE_ok hr hU hX hn rfl h1 h2 k1 k2 hB
 | fieldAddr s x i =>
  simp only [ZY] at h;obtain ⟨V1,h1,k1,hA⟩:=ZG hr h;obtain ⟨z,y,q1,q2,q3,hB⟩:=fldE_ok (d:=d) (ty:=ty) (pos:=pos) (aft:=aft) (g:=g) hr h1 k1 hA;exact ZM hr hU q1 hd hX q2 (V.ok.mono hU q3) hB
 | field s x i =>
  simp only [ZY] at h;obtain ⟨V1,h1,k1,hA⟩:=ZG hr h;split at hA
  ·rename_i fd hfd hag;split at hA
   ·rename_i q hq;split at hA
    ·rename_i z hz;obtain ⟨cs,hcs,hqe⟩:=Zxb h1 (fun c e=>by subst e;cases hag);obtain ⟨q1,q2,q3⟩:=Z7r hq hz hcs k1 w;obtain ⟨σ,hσ,e1⟩:=hr.st.ev1 x;have hv:V1.val cs = .agg cs.toArray:=by unfold V.val;rw [hag]
     rw [hqe,hv] at e1;refine ZM hr hU (Zqx hσ e1 ?_) hd hX (Z2b q2 (fun c e=>by subst e;exact q2)) (V.ok.mono hU q3) hA;unfold fldT at hfd;split at hfd
     ·rename_i fs hfs;have hfd':fs[i]? = some fd:=by rw [← Array.getElem?_toList];exact hfd
      simp [Instr.field,run_underlying hfs,hfd',asAgg,q1]
     ·cases hfd
    ·exact hA.elim
   ·exact hA.elim
  ·exact hA.elim
 | indexAddr t x i =>
  simp only [ZY] at h;obtain ⟨V1,h1,k1,hA⟩:=ZG hr h;obtain ⟨V2,h2,k2,hB⟩:=ZG hr hA;obtain ⟨κ,j,rfl,hC'⟩:=Z9a hB;split at hC'
  ·unfold altE at hC';split at hC'
   ·exact alts_ok hr hU hX rfl hd h1 k1 (ZFa h2).1 hC'
   ·exact hC'.elim
  ·exact ixE_ok hr hU hX rfl hd h1 k1 (ZFa h2).1 hC'
 | index t x i =>
  simp only [ZY] at h;obtain ⟨V1,h1,k1,hA⟩:=ZG hr h;obtain ⟨V2,h2,k2,hB⟩:=ZG hr hA;obtain ⟨κ,j,rfl,hC'⟩:=Z9a hB;obtain ⟨e2,_⟩:=ZFa h2;obtain ⟨σ,hσ,ev1,ev2⟩:=hr.st.ev2 x i;rw [e2] at ev2;split at hC'
  ·obtain ⟨e1,_⟩:=ZMg h1;rw [e1] at ev1;split at hC'
   ·rename_i ht;obtain ⟨y,hy,hC'⟩:=hC';exact ZM hr hU (ZOx hσ ev1 ev2 ht hy) hd hX (ZBa (u8_inR y)) trivial hC'
   ·exact hC'.elim
  ·split at hC'
   ·rename_i m e ht;split at hC'
    ·rename_i q hq hag b0 b1;have b0:(0:Int)≤j:=by simpa using b0
     have b1:@LT.lt Int _ j (m:Int):=by simpa using b1
     split at hC'
     ·rename_i z hz;obtain ⟨cs,hcs,hqe⟩:=Zxb h1 (fun c e=>by subst e;cases hag);obtain ⟨q1,q2,q3⟩:=Z7r hq hz hcs k1 w;have hv:V1.val cs = .agg cs.toArray:=by unfold V.val;rw [hag]
      rw [hqe,hv] at ev1;refine ZM hr hU (ZiA hσ ev1 ev2 ?_) hd hX (Z2b q2 (fun c e=>by subst e;exact q2)) (V.ok.mono hU q3) hC';simp [Instr.index,asIntOf,run_underlying ht,b0,b1,(ZEf hq).size,q1]
     ·exact hC'.elim
    ·exact hC'.elim
   ·exact hC'.elim
 | binOp op t x y t' =>
  simp only [ZY] at h;obtain ⟨V1,h1,k1,hA⟩:=ZG hr h;obtain ⟨V2,h2,k2,hB⟩:=ZG hr hA;obtain ⟨z,q,q1,q2,q3,hC'⟩:=binE_ok (d:=d) (ty:=ty) (pos:=pos) (aft:=aft) (g:=g) (t':=t') hr h1 h2 hB;exact ZM hr hU q1 hd hX q2 (V.ok.mono hU q3) hC'
 | unOp u t x =>
  cases u with
  | not =>
   simp only [ZY] at h;obtain ⟨V1,h1,k1,hA⟩:=ZG hr h;obtain ⟨b,rfl,hB⟩:=ZNz hA;obtain ⟨σ,hσ,e1⟩:=hr.st.ev1 x;rw [ZYf h1] at e1;exact ZM hr hU (Zgq hσ e1) hd hX ZJc trivial hB
  | neg =>
   simp only [ZY] at h;obtain ⟨V1,h1,k1,hA⟩:=ZG hr h;obtain ⟨κ,i,rfl,hB⟩:=Z9a hA;obtain ⟨σ,hσ,e1⟩:=hr.st.ev1 x;rw [(ZFa h1).1] at e1;exact ZM hr hU (run_neg hσ e1) hd hX (ZBa (Z5b _ _)) trivial hB
  | _=>exact h.elim
 | convert s t x =>
  simp only [ZY] at h;obtain ⟨V1,h1,k1,hA⟩:=ZG hr h;obtain ⟨σ,hσ,e1⟩:=hr.st.ev1 x;split at hA
  ·rename_i κ i ds κ' hs ht;obtain ⟨q1,q2⟩:=ZFa h1;rw [q1] at e1;have hcv:∀ w,(convert s t (.int κ i)).run C.P w = .ok (.int κ' (κ'.wrap i)) w:=fun w=>by
    simp [convert,run_underlying hs,run_underlying ht,Conv.intToInt]
   split at hA
   ·rename_i hk;have hk:=Zic hk;subst hk;refine ZM hr hU (Zrg hσ e1 hcv) hd hX (x:=.data (.int κ) i) ?_ trivial hA;rw [Z5c q2];exact ZBa q2
   ·exact ZM hr hU (Zrg hσ e1 hcv) hd hX (ZBa (Z5b _ _)) trivial hA
  ·rename_i hs ht;obtain ⟨q1,q2⟩:=ZMg h1;rw [q1] at e1;exact ZM hr hU (Zrg hσ e1 (fun w=>by simp [convert,run_underlying hs,run_underlying ht])) hd hX (ZVj q2) trivial hA
  ·exact hA.elim
 | makeInterface t x =>
  simp only [ZY] at h;obtain ⟨V1,h1,k1,hA⟩:=ZG hr h;split at hA
  ·rename_i hfit;split at hA
   ·exact hA.elim
   ·rename_i D hni hD;obtain ⟨cs,hcs,hqe⟩:=Zxb h1 (ZNo hfit);obtain ⟨σ,hσ,e1⟩:=hr.st.ev1 x;rw [hqe] at e1;refine ZM hr hU (run_mkI hσ e1 hD fun q e=>hni q (Option.some.inj e)) hd hX (x:=.ifc t V1) ⟨[_],⟨cs,hcs,rfl⟩,rfl⟩ (V.ok.mono hU k1) hA
   ·exact hA.elim
  ·exact hA.elim
 | makeFunc fn first cap =>
  cases fn with
  | func fi =>
   simp only [ZY] at h;split at h
   ·rename_i hfirst;obtain ⟨c,h1,k1,hA⟩:=ZXf hr h;obtain ⟨σ,hσ,hev⟩:=hr.st.evs cap.toList;have hargs:cap.toList.map (ev σ)=(cap.toList.map a.eval).map some:=by
     rw [List.map_map];exact List.map_congr_left fun y hy=>hev y hy
    have hf:first = #[]:=by
     apply Array.ext';simpa using hfirst
    subst hf;exact ZM hr hU (Z9y hσ _ hargs) hd hX (x:=.fn fi c) ⟨[_],⟨_,h1,rfl⟩,rfl⟩ (V.ok.mono hU k1) hA
   ·exact h.elim
  | _=>exact h.elim
 | makeSlice t x y=>exact ZJv hr hU hX hn rfl hd h
 | buildSlice t m ps=>exact ZQA hr hU hX hn rfl hd h
 | build t ps=>exact ZVA hr hU hX rfl hd h
 | slice t x lo hi mx =>
  cases mx with
  | some _=>exact h.elim
  | none =>
   simp only [ZY] at h;obtain ⟨i,hA,hlo⟩:=ZYs hr h;obtain ⟨j,hB,hhi⟩:=ZYs hr hA;obtain ⟨V1,h1,k1,hC'⟩:=ZG hr hB;split at hC'
   ·rename_i u;obtain ⟨en,he,hC'⟩:=hC';obtain ⟨kk,st,L⟩:=en
    cases L with
    | own ty0 s xs fz =>
     obtain ⟨ys,l1,γ1,v1,ℓ1,hD,r1,le1,q1⟩:=Zqd hn hX FU hC' hr k1;obtain ⟨cs,hcs,hqe⟩:=Zxb h1 (fun c e=>by cases e);have hrel:=q1 _ hcs;exact ZKl (p:=.data (.slice s) ys) r1 hU hX rfl hd ⟨cs,hrel,hqe⟩ hlo hhi hD
    | box _ _=>exact hC'.elim
    | mid _ _ _ _ _ _=>exact hC'.elim
    | mat _ _ _ _ _=>exact hC'.elim
   ·obtain ⟨cs,hcs,hqe⟩:=Z9g h1;exact ZKl (p:=.data (.slice (.int .u64)) (Zc 18446744073709551616 _)) hr hU hX rfl hd ⟨cs,hcs,hqe⟩ hlo hhi hC'
   ·obtain ⟨cs,hcs,hqe⟩:=Z9g h1;exact ZKl (p:=.data (.slice (.int .u32)) (Zc 4294967296 _)) hr hU hX rfl hd ⟨cs,hcs,hqe⟩ hlo hhi hC'
   ·split at hC'
    ·exact arrE_ok hr hU hX hn rfl hd h1 k1 hlo hhi hC'
    ·exact hC'.elim
   ·exact ZKl hr hU hX rfl hd h1 hlo hhi hC'
 | pick c x y =>
  cases c with
  | tmp c =>
   simp only [ZY] at h;obtain ⟨s,b,hf,h1,h2⟩:=h;have hr':=RelX.dup hr hf;have hc:=ZYf (hr.fr c _ hf);obtain ⟨σ,hσ,hev⟩:=hr.st.evs [.tmp c,x,y];have e0:=hev (.tmp c) (by simp);have e0:ev σ (.tmp c)=some (.bool b):=e0.trans (congrArg some hc);have ex:=hev x (by simp);have ey:=hev y (by simp)
   cases b with
   | true =>
    obtain ⟨V1,q1,k1,hA⟩:=ZG hr' (h1 rfl);exact ZM hr' hU (Zaf hσ e0 (by rw [if_pos rfl];exact ex)) hd hX q1 (V.ok.mono hU k1) hA
   | false =>
    obtain ⟨V1,q1,k1,hA⟩:=ZG hr' (h2 rfl);exact ZM hr' hU (Zaf hσ e0 (by rw [if_neg (by decide)];exact ey)) hd hX q1 (V.ok.mono hU k1) hA
  | _=>exact h.elim
 | call c =>
  obtain ⟨callee,args,ats⟩:=c
  cases callee with
  | value x =>
   simp only [ZY] at h;obtain ⟨V1,h1,k1,hA⟩:=ZG hr h;obtain ⟨c,h2,k2,hB⟩:=ZXf hr hA;split at hB
   ·rename_i fi;obtain ⟨cs,⟨vs,q1,rfl⟩,q3⟩:=h1;have q1:vs=[]:=q1;subst q1;have q3:a.eval x = .func (.func fi) #[] #[]:=q3;obtain ⟨σ,hσ,hev⟩:=hr.st.evs (x :: args.toList);have hfx:=hev x (by simp);rw [q3] at hfx;have hargs:args.toList.map (ev σ)=(args.toList.map a.eval).map some:=by
     rw [List.map_map];exact List.map_congr_left fun y hy=>hev y (by simp [hy])
    exact Zys hC hr hU hX hn hd (fun hen=>Zwa hσ _ hen hfx hargs) (fun y hv=>ZRj hσ _ hv hfx hargs) h2 k2 hB
   ·exact hB.elim
  | invoke r m =>
   simp only [ZY] at h;obtain ⟨V1,h1,k1,hA⟩:=ZG hr h;obtain ⟨c,h2,k2,hB⟩:=ZXf hr hA;split at hB
   ·rename_i t x;split at hB
    ·rename_i fi hfi;obtain ⟨cs,⟨cc,q1,rfl⟩,q3⟩:=h1;have q3:a.eval r = .iface t (x.val cc):=q3;obtain ⟨σ,hσ,hev⟩:=hr.st.evs (r :: args.toList);have hfx:=hev r (by simp);rw [q3] at hfx;have hargs:args.toList.map (ev σ)=(args.toList.map a.eval).map some:=by
      rw [List.map_map];exact List.map_congr_left fun y hy=>hev y (by simp [hy])
     exact Zys hC hr hU hX hn (c:=.cons x c) (vals:=x.val cc :: args.toList.map a.eval) hd (fun hen=>ZMu hσ _ (fun w=>hC.m t m fi hfi _ w) hfx hargs (hen _ w)) (fun y hv=>ZMu hσ _ (fun w=>hC.m t m fi hfi _ w) hfx hargs (by
      have:=hv w;exact this)) ⟨cc,_,rfl,q1,h2⟩ ⟨k1,k2⟩ hB
    ·exact hB.elim
   ·exact hB.elim
  | builtin b =>
   cases b with
   | len =>
    simp only [ZY] at h;split at h
    ·rename_i x t hx ht;have hx:args = #[x]:=by apply Array.ext';exact hx
     have ht:ats = #[t]:=by apply Array.ext';exact ht
     subst hx ht;obtain ⟨V1,h1,k1,hA⟩:=ZG hr h;obtain ⟨m,q1,q2,hB⟩:=lenE_ok (d:=d) (ty:=ty) (pos:=pos) (aft:=aft) (g:=g) hr h1 hA;exact ZM hr hU q1 hd hX (ZBa q2) trivial hB
    ·exact h.elim
   | append =>
    simp only [ZY] at h;split at h
    ·rename_i x y t t' hx ht;split at h
     ·rename_i hb;have hb:=Nat.eq_of_beq_eq_true hb;subst hb;have hx:args = #[x,y]:=by apply Array.ext';exact hx
      have ht:ats = #[t,t]:=by apply Array.ext';exact ht
      subst hx ht;obtain ⟨V1,h1,k1,hA⟩:=ZG hr h;obtain ⟨V2,h2,k2,hB⟩:=ZG hr hA;exact appE_ok hr hU hX hn rfl hd h1 h2 k1 k2 hB
     ·exact h.elim
    ·exact h.elim
   | max =>
    simp only [ZY] at h;split at h
    ·rename_i x y hx;have hx:args = #[x,y]:=by apply Array.ext';exact hx
     subst hx;obtain ⟨V1,h1,k1,hA⟩:=ZG hr h;obtain ⟨V2,h2,k2,hB⟩:=ZG hr hA;obtain ⟨κ,i,rfl,hC'⟩:=Z9a hB;obtain ⟨κ',j,rfl,hD⟩:=Z9a hC';split at hD
     ·rename_i hk;have hk:=Zic hk;subst hk;obtain ⟨e1,r1⟩:=ZFa h1;obtain ⟨e2,r2⟩:=ZFa h2;obtain ⟨σ,hσ,ev1,ev2⟩:=hr.st.ev2 x y;rw [e1] at ev1;rw [e2] at ev2;exact ZM hr hU (run_max hσ ev1 ev2) hd hX (ZBa (Zpf r1 r2)) trivial hD
     ·exact hD.elim
    ·rename_i x y z hx;have hx:args = #[x,y,z]:=by apply Array.ext';exact hx
     subst hx;obtain ⟨V1,h1,k1,hA⟩:=ZG hr h;obtain ⟨V2,h2,k2,hB⟩:=ZG hr hA;obtain ⟨V3,h3,k3,hB'⟩:=ZG hr hB;obtain ⟨κ,i,rfl,hC'⟩:=Z9a hB';obtain ⟨κ',j,rfl,hD⟩:=Z9a hC';obtain ⟨κ'',q,rfl,hE⟩:=Z9a hD;split at hE
     ·rename_i hk hk2;have hk:=Zic hk;subst hk;have hk2:=Zic hk2;subst hk2;obtain ⟨e1,r1⟩:=ZFa h1;obtain ⟨e2,r2⟩:=ZFa h2;obtain ⟨e3,r3⟩:=ZFa h3;obtain ⟨σ,hσ,ev1,ev2,ev3⟩:=hr.st.ev3 x y z;rw [e1] at ev1;rw [e2] at ev2;rw [e3] at ev3;exact ZM hr hU (ZMA hσ ev1 ev2 ev3) hd hX (ZBa (Zpf (Zpf r1 r2) r3)) trivial hE
     ·exact hE.elim
    ·rename_i x1 x2 x3 x4 x5 x6 hx;have hx:args = #[x1,x2,x3,x4,x5,x6]:=by apply Array.ext';exact hx
     subst hx;obtain ⟨V1,h1,k1,hA⟩:=ZG hr h;obtain ⟨V2,h2,k2,hA⟩:=ZG hr hA;obtain ⟨V3,h3,k3,hA⟩:=ZG hr hA;obtain ⟨V4,h4,k4,hA⟩:=ZG hr hA;obtain ⟨V5,h5,k5,hA⟩:=ZG hr hA;obtain ⟨V6,h6,k6,hA⟩:=ZG hr hA;obtain ⟨κ,i1,rfl,hB1⟩:=Z9a hA;obtain ⟨κ2,i2,rfl,hB2⟩:=Z9a hB1;obtain ⟨κ3,i3,rfl,hB3⟩:=Z9a hB2;obtain ⟨κ4,i4,rfl,hB4⟩:=Z9a hB3;obtain ⟨κ5,i5,rfl,hB5⟩:=Z9a hB4;obtain ⟨κ6,i6,rfl,hB6⟩:=Z9a hB5;split at hB6
     ·have g2:=Zic (show kEq κ κ2=true by assumption)
      cases g2
      have g3:=Zic (show kEq κ κ3=true by assumption)
      cases g3
      have g4:=Zic (show kEq κ κ4=true by assumption)
      cases g4
      have g5:=Zic (show kEq κ κ5=true by assumption)
      cases g5
      have g6:=Zic (show kEq κ κ6=true by assumption)
      cases g6
      obtain ⟨e1,r1⟩:=ZFa h1;obtain ⟨e2,r2⟩:=ZFa h2;obtain ⟨e3,r3⟩:=ZFa h3;obtain ⟨e4,r4⟩:=ZFa h4;obtain ⟨e5,r5⟩:=ZFa h5;obtain ⟨e6,r6⟩:=ZFa h6;obtain ⟨σ,hσ,ev1,ev2,ev3,ev4,ev5,ev6⟩:=hr.st.ev6 x1 x2 x3 x4 x5 x6;rw [e1] at ev1;rw [e2] at ev2;rw [e3] at ev3;rw [e4] at ev4;rw [e5] at ev5;rw [e6] at ev6;exact ZM hr hU (ZXw hσ ev1 ev2 ev3 ev4 ev5 ev6) hd hX (ZBa (Zpf (Zpf (Zpf (Zpf (Zpf r1 r2) r3) r4) r5) r6)) trivial hB6
     ·exact hB6.elim
    ·exact h.elim
   | min =>
    simp only [ZY] at h;split at h
    ·rename_i x y hx;have hx:args = #[x,y]:=by apply Array.ext';exact hx
     subst hx;obtain ⟨V1,h1,k1,hA⟩:=ZG hr h;obtain ⟨V2,h2,k2,hB⟩:=ZG hr hA;obtain ⟨κ,i,rfl,hC'⟩:=Z9a hB;obtain ⟨κ',j,rfl,hD⟩:=Z9a hC';split at hD
     ·rename_i hk;have hk:=Zic hk;subst hk;obtain ⟨e1,r1⟩:=ZFa h1;obtain ⟨e2,r2⟩:=ZFa h2;obtain ⟨σ,hσ,ev1,ev2⟩:=hr.st.ev2 x y;rw [e1] at ev1;rw [e2] at ev2;exact ZM hr hU (run_min hσ ev1 ev2) hd hX (ZBa (min_inR r1 r2)) trivial hD
     ·exact hD.elim
    ·exact h.elim
   | _=>exact h.elim
 | _=>exact h.elim
end
end Go.Eng
namespace Go.Eng
open Go.RowKit
def Zgl (s:List UInt8) (c:Int):Option Int:=some (Lib.indexByte s c.toNat.toUInt8)
theorem ZYv {s:List UInt8} {c z:Int} (h:Zgl s c=some z):z=Lib.indexByte s c.toNat.toUInt8∧True:=⟨(Option.some.inj h).symm,trivial⟩
theorem idxb_v {P:Program} {f:FuncId} (hf:ZId P f Extern.BytealgIndexByte.indexByte) (s:List UInt8) (c:Int) (w:World):(callFunc f #[.string (Zt s),.int .u8 c]).run P w = .ok (.value (.int .i64 (Lib.indexByte s c.toNat.toUInt8))) w:=by
 rw [hf.run,Lib.run_indexByteString];rfl
theorem ZAt (c:UInt8):∀ l:List UInt8,-1≤Lib.indexByte l c∧Lib.indexByte l c≤l.length
 | []=>by simp [Lib.indexByte]
 | b :: l=>by
  have ih:=ZAt c l
  unfold Lib.indexByte
  split
  ·simp;omega
  ·split
   ·simp;omega
   ·rw [List.length_cons];omega
theorem idxb_in {s:List UInt8} {c:Int} (h:s.length≤maxLen):inR .i64 (Lib.indexByte s c.toNat.toUInt8):=by
 have:=ZAt c.toNat.toUInt8 s;unfold maxLen at h;exact ZTa.2 (by omega)
noncomputable def ZFe (str:List UInt8):Option Bool :=
 bnd (Zg (σ:=Int) (ρ:=Unit ⊕ Bool) (fun a =>
 ifb (decide (a<(str.length:Int)))
 (bnd (α:=Bool)
 (bnd (idx str a) fun b =>
 ifb (decide (((b.toNat:Nat):Int)<(48:Int)))
 (some true)
 (bnd (idx str a) fun c =>
 some (decide ((57:Int)<((c.toNat:Nat):Int))))) fun d =>
 ifb d
 (some (.inr (.inr false)))
 (bnd (chk .i64 (a+(1:Int))) fun e =>
 some (.inl e)))
 (some (.inr (.inl ()))))
  Zi (0:Int)) fun f =>
 match f with
| .inl h=>(some (str != ([]:List UInt8)))
| .inr g=>(some g)
noncomputable def ZCc (str:List UInt8):Option Nat :=
 bnd (Zg (σ:=Nat×Int) (ρ:=Nat) (fun a =>
 ifb (decide (a.2<(str.length:Int)))
 (bnd (ZHa [(10:Int)]) fun b =>
 bnd (Zva a.1 b) fun c =>
 bnd (idx str a.2) fun d =>
 bnd (Z9b (IntKind.u64.wrap (IntKind.u8.wrap (((d.toNat:Nat):Int)-(48:Int))))) fun e =>
 bnd (Z5d c e) fun f =>
 bnd (chk .i64 (a.2+(1:Int))) fun g =>
 some (.inl (f,g)))
 (some (.inr a.1)))
  Zi ((0:Nat),(0:Int))) fun h =>
 some h
noncomputable def ZIh (str:List UInt8) (p:List UInt8):Option ((List UInt8)×Bool) :=
 bnd (α:=(List UInt8)×Bool)
 (bnd (α:=Bool)
 (ifb (decide ((p.length:Int)≤(str.length:Int)))
 (bnd (ZS str (0:Int) (p.length:Int)) fun b =>
 some (b==p))
 (some false)) fun c =>
 ifb (!c)
 (some (str,false))
 (bnd (ZS str (p.length:Int) (str.length:Int)) fun d =>
 some (d,true))) fun a =>
 some (a.1,a.2)
noncomputable def Zdk (s:List UInt8) (sub:List UInt8):Option Int :=
 bnd (α:=Bool)
 (ifb ((sub.length:Int)==(0:Int))
 (some true)
 (some (sub==s))) fun a =>
 ifb a
 (some (0:Int))
 (ifb ((sub.length:Int)==(1:Int))
 (bnd (idx sub (0:Int)) fun b =>
 bnd (Zgl s ((b.toNat:Nat):Int)) fun c =>
 some c)
 (ifb (decide ((s.length:Int)≤(sub.length:Int)))
 (some (-1:Int))
   (none)))
noncomputable def Z5f (str:List UInt8) (sep:List UInt8):Option ((List UInt8)×(List UInt8)×Bool) :=
 bnd (α:=(List UInt8)×(List UInt8)×Bool)
 (bnd (Zdk str sep) fun a =>
 ifb (decide ((0:Int)≤a))
 (bnd (ZS str (0:Int) a) fun c =>
 bnd (chk .i64 (a+(sep.length:Int))) fun d =>
 bnd (ZS str d (str.length:Int)) fun e =>
 some (c,e,true))
 (some (str,([]:List UInt8),false))) fun b =>
 some (b.1,b.2.1,b.2.2)
noncomputable def Znl (x:Rat):Option Rat :=
 bnd (ZCf x) fun d =>
 bnd (ZIh d ([45]:List UInt8)) fun c =>
 bnd (Z5f c.1 ([47]:List UInt8)) fun a =>
 bnd (α:=List UInt8)
 (ifb (!a.2.2)
 (some ([49]:List UInt8))
 (some a.2.1)) fun b =>
 bnd (α:=Bool)
 (bnd (ZFe a.1) fun e =>
 ifb (!e)
 (some true)
 (bnd (ZFe b) fun f =>
 ifb (!f)
 (some true)
 (bnd (ZCc b) fun g =>
 some (((Zc 4294967296 g).length:Int)==(0:Int))))) fun h =>
 ifb h
 (bnd (Zga (0:Int)) fun i =>
 some i)
 (bnd (ZCc a.1) fun j =>
 bnd (ZCc b) fun k =>
 bnd (Zza c.2 j k) fun l =>
 some l)
set_option maxRecDepth 100000
theorem ZLq:∀ (k n:Nat),n<10^k→(ZE n).length≤k
 | 0,n,h=>by
  have:n=0:=by simpa using h
  rw [this];unfold ZE;simp
 | k+1,n,h=>by
  unfold ZE
  split
  ·simp
  ·have:=ZLq k (n / 10) (by rw [Nat.pow_succ] at h;omega)
   simp;omega
theorem Ztu (n:Nat):(ZU n).length≤bl n+1:=by
 unfold ZU;split
 ·simp
 ·have h:n<10^bl n:=Nat.lt_of_lt_of_le (ZOc n) (Nat.pow_le_pow_left (by decide) _);have:=ZLq _ _ h;omega
theorem dv_dig {l:List UInt8} (h:Zyc l):(Zc 4294967296 (dv 0 l)).length≤l.length:=by
 refine ZFd (Nat.lt_of_lt_of_le (dv_lt l h) (Nat.pow_le_pow_left (by decide) _))
theorem ZMr {l:List UInt8} (h:Zyc l) (k:Nat):Zyc (l.take k):=fun c hc=>h c (List.mem_of_mem_take hc)
theorem Zoq {l:List UInt8} (h:Zyc l) (hl:l.length≤10000000000):ZCc l=some (dv 0 l):=by
 unfold ZCc;have ten:ZHa [(10:Int)]=some 10:=by decide +kernel
 refine Zs (y:=dv 0 l) (Z1 (fun q=>(dv 0 (l.take q),(q:Int))) l.length (by simp [dv]) (by omega) (fun q hq=>?_) ?_) rfl
 ·simp only;have e:l.take (q+1)=l.take q++[l[q]]:=by rw [List.take_succ_eq_append_getElem hq]
  have hd:=h _ (List.getElem_mem hq);have hs:=dv_dig (ZMr h q);rw [List.length_take] at hs;have ev:dv 0 (l.take (q+1))=dv 0 (l.take q)*10+(l[q].toNat-48):=by rw [e,ZZu];unfold dv;simp;omega
  have hs2:(Zc 4294967296 (dv 0 (l.take q)*10)).length≤q+1:=by
   refine ZFd ?_;have:=dv_lt _ (ZMr h q);rw [List.length_take,Nat.min_eq_left (by omega)] at this;have h2:10^q≤4294967296^q:=Nat.pow_le_pow_left (by decide) _;rw [Nat.pow_succ];omega
  have w1:IntKind.u64.wrap (IntKind.u8.wrap (((l[q].toNat:Nat):Int)-(48:Int)))=((l[q].toNat-48:Nat):Int):=by
   have e8:IntKind.u8.wrap (((l[q].toNat:Nat):Int)-(48:Int))=((l[q].toNat-48:Nat):Int):=by
    rw [show ((l[q].toNat:Nat):Int)-(48:Int)=((l[q].toNat-48:Nat):Int) by omega];exact Z5c (Zem.2 (by omega))
   rw [e8];exact Z5c (ZGc.2 (by omega))
  have hs3:(Zc 4294967296 (l[q].toNat-48)).length≤1:=ZFd (by omega);rw [decide_eq_true (by omega),Zd,ten,Za];unfold Zva Z9b Z5d;rw [if_pos ⟨(by unfold ZI;omega),(by unfold ZI;have:(Zc 4294967296 10).length≤1:=ZFd (by omega);omega)⟩,Za,Zy hq,Za,w1,Za,Int.toNat_natCast,if_pos ⟨(by unfold ZI;omega),(by unfold ZI;omega)⟩,Za,Zl (by omega) (by omega),Za,ev];rfl
 ·simp only;rw [decide_eq_false (by omega),Ze,List.take_length]
theorem ZVs {l:List UInt8} (h:Zyc l) (h0:0<l.length) (hl:l.length≤10000000000):ZFe l=some true:=by
 unfold ZFe;refine Zs (y:=.inl ()) (Z1 (fun q=>(q:Int)) l.length rfl (by omega) (fun q hq=>?_) ?_) ?_
 ·have hd:=h _ (List.getElem_mem hq);rw [decide_eq_true (by omega),Zd,Zy hq,Za,decide_eq_false (by omega),Ze,Za,decide_eq_false (by omega),Za,Ze,Zl (by omega) (by omega),Za];rfl
 ·rw [decide_eq_false (by omega),Ze]
 ·cases l with
  | nil=>cases h0
  | cons a l=>rfl
theorem Zvi {α:Type} {l:List α} {i j:Nat} (h:i≤j) (hj:j≤l.length):ZS l (i:Int) (j:Int)=some ((l.take j).drop i):=by
 unfold ZS;rw [if_pos ⟨by omega,by omega,by omega⟩,Int.toNat_natCast,Int.toNat_natCast]
theorem Z1x (l:List UInt8):ZIh (45 :: l) [45]=some (l,true):=by
 unfold ZIh;have c1:ZS ((45:UInt8) :: l) (0:Int) ((([45]:List UInt8).length:Nat):Int)=some [45]:=Zvi (i:=0) (j:=1) (by omega) (by simp);have c2:ZS ((45:UInt8) :: l) ((([45]:List UInt8).length:Nat):Int) ((((45:UInt8) :: l).length:Nat):Int)=some l:=by
  have:=Zvi (l:=(45:UInt8) :: l) (i:=1) (j:=((45:UInt8) :: l).length) (by simp) (Nat.le_refl _);rw [List.take_length] at this;exact this
 rw [decide_eq_true (by simp;omega),Zd,c1,Za,show (([45]:List UInt8)==[45])=true by decide,Za,show (!true)=false from rfl,Ze,c2,Za,Za]
theorem ZHy {a:UInt8} {l:List UInt8} (h:a≠45):ZIh (a :: l) [45]=some (a :: l,false):=by
 unfold ZIh;have c1:ZS (a :: l) (0:Int) ((([45]:List UInt8).length:Nat):Int)=some [a]:=Zvi (i:=0) (j:=1) (by omega) (by simp);rw [decide_eq_true (by simp;omega),Zd,c1,Za,show (([a]:List UInt8)==[45])=false by simpa using h,Za,show (!false)=true from rfl,Zd,Za]
theorem ZHs {c:UInt8}:∀ {l:List UInt8},(∀ b,b ∈ l→b≠c)→Lib.indexByte l c = -1
 | [],_=>rfl
 | b :: l,h=>by
  unfold Lib.indexByte
  rw [ZHs (l:=l) fun x hx=>h x (List.mem_cons_of_mem _ hx),if_neg (by simpa using h b (List.mem_cons_self ..))]
  rfl
theorem Z3r {c:UInt8} (t:List UInt8):∀ {l:List UInt8},(∀ b,b ∈ l→b≠c)→Lib.indexByte (l++c :: t) c=(l.length:Int)
 | [],_=>by simp [Lib.indexByte]
 | b :: l,h=>by
  rw [List.cons_append]
  unfold Lib.indexByte
  rw [Z3r t (l:=l) fun x hx=>h x (List.mem_cons_of_mem _ hx),if_neg (by simpa using h b (List.mem_cons_self ..)),if_neg (by simp)]
  simp
theorem ZMm {l:List UInt8} (h:Zyc l):∀ b,b ∈ l→b≠47:=fun b hb e=>by
 have:=(h b hb).1
 rw [e] at this
 exact absurd this (by decide)
theorem Zpt (s:List UInt8) (c:UInt8) (hs:s≠[c]):Zdk s [c]=some (Lib.indexByte s c):=by
 unfold Zdk Zgl;rw [show (((([c]:List UInt8).length:Nat):Int)==(0:Int))=false from rfl,Ze,show (([c]:List UInt8)==s)=false by rw [beq_eq_false_iff_ne];exact fun h=>hs h.symm,Za,Ze,show (((([c]:List UInt8).length:Nat):Int)==(1:Int))=true from rfl,Zd,show idx ([c]:List UInt8) (0:Int)=some c from rfl,Za,Za,Int.toNat_natCast];simp
theorem tCut_no {l:List UInt8} (h:Zyc l):Z5f l [47]=some (l,[],false):=by
 unfold Z5f;have:l≠[47]:=fun e=>ZMm h 47 (by rw [e];simp) rfl;rw [Zpt l 47 this,Za,ZHs (ZMm h),decide_eq_false (by omega),Ze,Za]
theorem ZmA {l t:List UInt8} (h:Zyc l) (h0:0<l.length) (ht:(l++47 :: t).length≤100000000000):Z5f (l++47 :: t) [47]=some (l,t,true):=by
 unfold Z5f;have hl:(l++47 :: t).length=l.length+t.length+1:=by simp;omega
 have:l++47 :: t≠[47]:=fun e=>by have:=congrArg List.length e;simp at this;omega
 have c1:ZS (l++(47:UInt8) :: t) (0:Int) (l.length:Int)=some l:=by
  have:=Zvi (l:=l++(47:UInt8) :: t) (i:=0) (j:=l.length) (by omega) (by omega);rw [List.take_left' rfl] at this;exact this
 have c2:ZS (l++(47:UInt8) :: t) ((l.length+1:Nat):Int) (((l++(47:UInt8) :: t).length:Nat):Int)=some t:=by
  have:=Zvi (l:=l++(47:UInt8) :: t) (i:=l.length+1) (j:=(l++(47:UInt8) :: t).length) (by omega) (Nat.le_refl _);rw [List.take_length] at this;rw [this,← List.drop_drop,List.drop_left' rfl];rfl
 rw [Zpt _ 47 this,Za,Z3r t (ZMm h),decide_eq_true (by omega),Zd,c1,Za,show ((([47]:List UInt8).length:Nat):Int)=1 from rfl,Zl (by omega) (by omega),Za,show (l.length:Int)+1=((l.length+1:Nat):Int) by omega,c2,Za,Za]
theorem Ziv {x:Rat} {k:Nat} (h:sz k x) (hk:k≤1000000000) (n:Bool) (hn:n=decide (x.num<0)):(bnd (Z5f (ZU x.num.natAbs++(if x.den=1 then [] else 47 :: ZU x.den)) ([47]:List UInt8)) fun y3 =>
 bnd (α:=List UInt8)
 (ifb (!y3.2.2)
  (some ([49]:List UInt8))
  (some y3.2.1)) fun x4 =>
 bnd (α:=Bool)
 (bnd (ZFe y3.1) fun y5 =>
  ifb (!y5)
  (some true)
  (bnd (ZFe x4) fun y6 =>
   ifb (!y6)
   (some true)
   (bnd (ZCc x4) fun y7 =>
    some (((Zc 4294967296 y7).length:Int)==(0:Int))))) fun x8 =>
 ifb x8
 (bnd (Zga (0:Int)) fun y9 =>
  some y9)
 (bnd (ZCc y3.1) fun y10 =>
  bnd (ZCc x4) fun y11 =>
  bnd (Zza n y10 y11) fun y12 =>
  some y12))=some x:=by
  obtain ⟨a1,a2,a3,_⟩:=ZEn x.num.natAbs;obtain ⟨b1,b2,b3,_⟩:=ZEn x.den;have la:(ZU x.num.natAbs).length≤1000000001:=by have:=Ztu x.num.natAbs;have:=h.1;omega
  have lb:(ZU x.den).length≤1000000001:=by have:=Ztu x.den;have:=h.2;omega
  have hsz:∀ {n:Nat},bl n≤k→Zaa n:=fun {n} hb=>by
    have h1:n<4294967296^bl n:=Nat.lt_of_lt_of_le (ZOc n) (Nat.pow_le_pow_left (by decide) _);have:=ZFd h1;unfold Zaa;omega
  have fin:∀ d:List UInt8,Zyc d→0<d.length→d.length≤1000000001→dv 0 d=x.den→bnd (α:=Bool)
     (bnd (ZFe (ZU x.num.natAbs)) fun y5 =>
      ifb (!y5)
      (some true)
      (bnd (ZFe d) fun y6 =>
       ifb (!y6)
       (some true)
       (bnd (ZCc d) fun y7 =>
        some (((Zc 4294967296 y7).length:Int)==(0:Int))))) (fun x8 =>
     ifb x8
     (bnd (Zga (0:Int)) fun y9 =>
      some y9)
     (bnd (ZCc (ZU x.num.natAbs)) fun y10 =>
      bnd (ZCc d) fun y11 =>
      bnd (Zza n y10 y11) fun y12 =>
      some y12))=some x:=by
    intro d d1 d2 d3 d4;rw [ZVs a1 a3 (by omega),Za,show (!true)=false from rfl,Ze,ZVs d1 d2 (by omega),Za,show (!true)=false from rfl,Ze,Zoq d1 (by omega),Za,Za,d4,Z1i,decide_eq_false x.den_nz,Ze,Zoq a1 (by omega),Za,a2,Za];unfold Zza;rw [if_pos ⟨hsz h.1,hsz h.2,x.den_nz⟩,Za];congr 1;have e:sgn n x.num.natAbs=x.num:=by
      rw [hn];unfold sgn;by_cases h:x.num<0
      · rw [decide_eq_true h];simp;omega
      · rw [decide_eq_false h];simp;omega
    rw [e];exact Rat.mkRat_self x
  by_cases hd:x.den=1
  · rw [if_pos hd,List.append_nil,tCut_no a1,Za];simp only;rw [show (!false)=true from rfl,Zd,Za];exact fin [49] (fun c hc=>by simp at hc;subst hc;decide) (by decide) (by decide) (by rw [hd];rfl)
  · rw [if_neg hd,ZmA a1 a3 (by simp;omega),Za];simp only;rw [show (!true)=false from rfl,Ze,Za];exact fin _ b1 b3 lb b2
theorem ZNx {x:Rat} {k:Nat} (h:sz k x) (hk:k≤1000000000):Znl x=some x:=by
 obtain ⟨a1,a2,a3,_⟩:=ZEn x.num.natAbs;unfold Znl ZCf;rw [if_pos (h.ok (by omega)),Za];unfold txtQ;rw [List.append_assoc];by_cases hx:x.num<0
 ·rw [if_pos hx,List.cons_append,List.nil_append,Z1x,Za];exact Ziv h hk true (decide_eq_true hx).symm
 ·rw [if_neg hx,List.nil_append];obtain ⟨c,l,e⟩:∃ c l,ZU x.num.natAbs=c :: l:=by
   cases hd:ZU x.num.natAbs with
   | nil=>rw [hd] at a3;cases a3
   | cons c l=>exact ⟨c,l,rfl⟩
  have hc:c≠45:=fun h=>by
   have:=(a1 c (by rw [e];exact List.mem_cons_self ..)).1;rw [h] at this;exact absurd this (by decide)
  have:=ZHy (a:=c) (l:=l++(if x.den=1 then [] else 47 :: ZU x.den)) hc;rw [← List.cons_append,← e] at this;rw [this,Za];exact Ziv h hk false (decide_eq_false hx).symm
noncomputable def Z9j (x:Rat):Option (Rat×Rat×Rat×Rat) :=
 bnd (Znl x) fun a =>
 bnd (ZHd a) fun b =>
 some b
noncomputable def ZIf (l:List Rat):Option (List (Rat×Rat×Rat×Rat)) :=
 bnd (Zg (σ:=(List (Rat×Rat×Rat×Rat))×Int) (ρ:=List (Rat×Rat×Rat×Rat)) (fun a =>
 ifb (decide (a.2<(l.length:Int)))
 (bnd (idx l a.2) fun c =>
 bnd (Z9j c) fun b =>
 bnd (ZF 224 (a.1++[b])) fun _ =>
 bnd (chk .i64 (a.2+(1:Int))) fun d =>
 some (.inl (a.1++[b],d)))
 (some (.inr a.1)))
  Zi (([]:List (Rat×Rat×Rat×Rat)),(0:Int))) fun e =>
 some e
set_option maxRecDepth 100000
theorem Zmw {x:Rat} {k:Nat} (h:sz k x) (hk:k≤1000000000):Z9j x=some (sq x):=by
 unfold Z9j;rw [ZNx h hk,Za,Zvl,Za]
theorem ZJl {n k:Nat} {f:Nat→Rat} (h:∀ i,i<n→sz k (f i)) (hk:k≤1000000000) (hn:n≤1000):ZIf (vx n f)=some (sv n f):=by
 unfold ZIf;refine Zs (Z1 (fun q=>(sv q f,(q:Int))) n rfl (by omega) (fun q hq=>?_) ?_) rfl
 ·simp only [Zj];have e:sv q f++[sq (f q)]=sv (q+1) f:=Zbc q fun i=>sq (f i);rw [decide_eq_true (by omega),Zd,Zq _ hq,Za,Zmw (h q hq) hk,Za,e,Zra (by rw [ZJb];omega),Za,Zl (by omega) (by omega),Za];rfl
 ·simp only [Zj];rw [decide_eq_false (by omega),Ze]
theorem Zqt:ZIf []=some []:=ZJl (n:=0) (k:=0) (f:=fun _=>0) (fun i hi=>by omega) (by omega) (by omega)
set_option maxRecDepth 100000
variable {m n R:Nat} {A:Mx} {B H:Nat→Rat}
def ZLb (R:Nat) (B L:Nat→Rat):Nat→Rat:=fun i=>if i<R then B i else-L (i-R)
theorem Zxv (f:Nat→Rat):sm (R+R) f=sm R f+sm R (fun i=>f (R+i)):=Zbr R R f
theorem ZYy (y:Nat→Rat) (L:Nat→Rat):sm (R+R) (fun i=>ZLb R B L i*y i)=sm R (fun i=>B i*y i)-sm R (fun i=>L i*y (R+i)):=by
 rw [Zxv,Z0 (g:=fun i=>B i*y i) fun i hi=>by unfold ZLb;rw [if_pos hi]];rw [Z0 (f:=fun i=>ZLb R B L (R+i)*y (R+i)) (g:=fun i=>(-1)*(L i*y (R+i))) fun i hi=>by unfold ZLb;rw [if_neg (by omega),show R+i-R=i by omega];grind,Z9c];grind
set_option maxRecDepth 100000
variable {m n R:Nat} {A:Mx} {B H:Nat→Rat}
theorem two_vx (L:Nat→Rat):vx R B++vx R (fun i=>- L i)=vx (R+R) (ZLb R B L):=(vx_join R R _ _).trans (ZA fun i hi=>rfl)
theorem twoB_sz {k:Nat} {L:Nat→Rat} (hB:∀ i,i<R→sz k (B i)) (hL:∀ i,i<R→sz k (L i)) (i:Nat) (hi:i<R+R):sz k (ZLb R B L i):=by
 unfold ZLb;split
 ·exact hB _ (by assumption)
 ·exact ZUf (hL _ (by omega))
noncomputable def ZKf (a:List (List Rat)) (lo:List Rat) (hi:List Rat):Option ((Bool×(List Rat)×(List Rat)×(List Rat))×Int) :=
 bnd (Z3e a lo hi) fun h =>
 ifb (!h)
 (some ((false,([]:List Rat),([]:List Rat),([]:List Rat)),(4:Int)))
 (bnd (Z3i a) fun i =>
 bnd (Zoc 56 hi) fun e =>
 bnd (Zli lo) fun f =>
 bnd (ZF 56 (e++f)) fun _ =>
 bnd (ZMc a) fun j =>
 bnd (ZDe j) fun k =>
 bnd (Zg (σ:=Int×((List (List Rat))×(List Rat)×(List Rat))) (ρ:=(List (List Rat))×(List Rat)×(List Rat)) (fun b =>
 ifb (decide (b.1<(a.length:Int)))
 (bnd (idx a b.1) fun l =>
 bnd (Zli l) fun g =>
 bnd (ZF 24 (b.2.1++[g])) fun _ =>
 bnd (chk .i64 (b.1+(1:Int))) fun m =>
 some (.inl (m,b.2.1++[g],b.2.2.1,b.2.2.2)))
 (some (.inr (b.2.1,b.2.2.1,b.2.2.2))))
   Zi ((0:Int),i,e++f,k)) fun d =>
 bnd (ZWg (d.1,d.2.1,d.2.2)) fun c =>
 ifb (c.1==(2:Int))
 (bnd (ZS c.2.2.2.1 (0:Int) (a.length:Int)) fun n =>
 bnd (Zoc 56 n) fun o =>
 bnd (ZS c.2.2.2.1 (a.length:Int) (c.2.2.2.1.length:Int)) fun p =>
 bnd (Zoc 56 p) fun q =>
 some ((false,([]:List Rat),o,q),(0:Int)))
 (some ((true,c.2.2.1,([]:List Rat),([]:List Rat)),(0:Int))))
set_option maxRecDepth 100000
variable {m n R:Nat} {A:Mx} {L H:Nat→Rat}
def ZZa (R:Nat) (A:Mx):Mx:=fun i k=>if i<R then A i k else-A (i-R) k
theorem ZIn (x:Nat→Rat) (i:Nat):sm n (fun k=>ZZa R A i k*x k)=(if i<R then sm n (fun k=>A i k*x k) else-sm n (fun k=>A (i-R) k*x k)):=by
 by_cases h:i<R
 ·rw [if_pos h,Z0 (g:=fun k=>A i k*x k) fun k hk=>by unfold ZZa;rw [if_pos h]]
 ·rw [if_neg h,Z0 (g:=fun k=>(-1)*(A (i-R) k*x k)) fun k hk=>by unfold ZZa;rw [if_neg h];grind,Z9c];grind
theorem ZkB {x:Nat→Rat}:Betw R n A L H x↔Feas (R+R) n (ZZa R A) (ZLb R H L) x:=by
 constructor
 ·intro h;refine ⟨h.nn,fun i hi=>?_⟩;rw [ZIn];unfold ZLb;by_cases g:i<R
  ·rw [if_pos g,if_pos g];exact h.hi i g
  ·rw [if_neg g,if_neg g];have:=h.lo (i-R) (by omega);grind
 ·intro h;refine ⟨h.nn,fun i hi=>?_,fun i hi=>?_⟩
  ·have:=h.le (R+i) (by omega);rw [ZIn,if_neg (by omega)] at this;unfold ZLb at this;rw [if_neg (by omega),show R+i-R=i by omega] at this;grind
  ·have:=h.le i (by omega);rw [ZIn,if_pos hi] at this;unfold ZLb at this;rw [if_pos hi] at this;exact this
theorem ZPv {y:Nat→Rat} (h:Farkas (R+R) n (ZZa R A) (ZLb R H L) y):BetwD R n A L H y (fun i=>y (R+i)):=by
 refine ⟨fun i hi=>h.nn i (by omega),fun i hi=>h.nn (R+i) (by omega),fun k hk=>?_,?_⟩
 ·have:=h.le k hk;rw [Zxv] at this;have e1:sm R (fun i=>y i*ZZa R A i k)=sm R (fun i=>y i*A i k):=Z0 fun i hi=>by unfold ZZa;rw [if_pos hi]
  have e2:sm R (fun i=>y (R+i)*ZZa R A (R+i) k)=sm R (fun i=>(-1)*(y (R+i)*A i k)):=Z0 fun i hi=>by unfold ZZa;rw [if_neg (by omega),show R+i-R=i by omega];grind
  rw [e1,e2,← Zui] at this;rw [Z0 (g:=fun i=>y i*A i k+-1*(y (R+i)*A i k)) fun i _=>by grind];exact this
 ·have:=h.neg;rw [ZYy] at this;exact this
theorem Zts (i:Nat) (hi:i<R):vx n (A i)=vx n (ZZa R A i):=ZA fun k hk=>by unfold ZZa;rw [if_pos hi]
theorem Zlx (i:Nat):(vx n fun k=>- A i k)=vx n (ZZa R A (R+i)):=ZA fun k hk=>by unfold ZZa;rw [if_neg (by omega),show R+i-R=i by omega]
theorem wthA_sz {k:Nat} (hA:∀ i j,i<R→j<n→sz k (A i j)) (i j:Nat) (hi:i<R+R) (hj:j<n):sz k (ZZa R A i j):=by
 unfold ZZa;split
 ·exact hA _ _ (by assumption) hj
 ·exact ZUf (hA _ _ (by omega) hj)
def FitOK (R n W:Nat) (A:Mx) (L H:Nat→Rat) (z:Bool×List Rat×List Rat×List Rat):Prop :=
 (∃ x,z=(true,vx n x,[],[])∧Betw R n A L H x∧∀ k,k<n→sz W (x k)) ∨ ∃ u v,z=(false,[],vx R u,vx R v)∧BetwD R n A L H u v∧(∀ i,i<R→sz W (u i))∧∀ i,i<R→sz W (v i)
theorem ZSx {k Rb:Nat} (h0:R=0→n=0) (hr:R+R≤Rb∨n+1≤Rb) (hA:∀ i j,i<R→j<n→sz k (A i j)) (hL:∀ i,i<R→sz k (L i)) (hH:∀ i,i<R→sz k (H i)) (hk:1≤k) (hR:R≤32) (hn:n≤32) (hN:n+(R+R)+1≤60) (hS:(n+1)*((k*((R+R+1)*(n+1))+1)+aw k (R+R) n Rb+2)≤137438953472) :
  ∃ z,ZKf (mx R n A) (vx R L) (vx R H)=some (z,0)∧FitOK R n (aw k (R+R) n Rb) A L H z:=by
 obtain ⟨z,g1,g2⟩:=lmax_sz hr (wthA_sz hA) (twoB_sz hH hL) (fun j _=>ZHb.mono hk) hk (by omega) (by omega) hN hS (C:=fun _=>0)
 suffices hs:∃ w,ZKf (mx R n A) (vx R L) (vx R H)=some w∧∃ z,w=(z,0)∧FitOK R n (aw k (R+R) n Rb) A L H z by
  obtain ⟨_,h1,z,rfl,h2⟩:=hs;exact ⟨z,h1,h2⟩
 unfold ZKf;rw [Z9s h0 hR hn,Za,Z5g,Zhr (by omega) (by omega),Za,ZKh (by rw [Zj];omega),Za,ZKp (by omega),Za,two_vx,Zra (by rw [Zj];omega),Za,Zkj A h0,Za,ZAi (by omega),Za];have e0:mx R n A=vx R fun i=>vx n (ZZa R A i):=ZA fun i hi=>Zts i hi;rw [e0];refine ZH (y:=(mx (R+R) n (ZZa R A),vx (R+R) (ZLb R H L),vx n fun _=>0)) (Z1 (fun q=>((q:Int),vx (R+q) (fun i=>vx n (ZZa R A i)),vx (R+R) (ZLb R H L),vx n fun _=>0)) R rfl (by omega) (fun q hq=>?_) ?_) ?_
 ·simp only;rw [Zj,decide_eq_true (by omega),Zd,Zq _ hq,Za,← Zts q hq,ZKp (by omega),Za,Zlx q,Zbc (R+q) fun i=>vx n (ZZa R A i),Zra (by rw [Zj];omega),Za,Zl (by omega) (by omega),Za];rfl
 ·simp only;rw [Zj,decide_eq_false (by omega),Ze];rfl
 simp only;rw [g1,Za];have yes:∀ x,Feas (R+R) n (ZZa R A) (ZLb R H L) x→(∀ k',k'<n→sz (aw k (R+R) n Rb) (x k'))→z.2.2.1=vx n x→z.1≠2→∀ q,∃ w,ifb (z.1==(2:Int)) q (some ((true,z.2.2.1,([]:List Rat),([]:List Rat)),(0:Int)))=some w∧∃ z,w=(z,0)∧FitOK R n (aw k (R+R) n Rb) A L H z:=fun x h1 h2 e h3 q=>⟨_,by rw [show (z.1==(2:Int))=false by simpa using h3,Ze],_,rfl,.inl ⟨x,by rw [e],ZkB.2 h1,h2⟩⟩;rcases g2 with ⟨y,rfl,hy,zy⟩ | ⟨x,y,v,rfl,hx,_,_,_,zx,_⟩ | ⟨x,d,rfl,hx,_,zx,_⟩
 ·simp only;rw [show ((2:Int)==(2:Int))=true from rfl,Zd,show (0:Int)=((0:Nat):Int) from rfl,Zj,Zj,ZOr y (Nat.zero_le R) (by omega),ZOr y (show R≤R+R by omega) (Nat.le_refl _)];simp only [Nat.sub_zero,Nat.zero_add,Nat.add_sub_cancel];rw [Za,ZKh (by rw [Zj];omega),Za,Za,ZKh (by rw [Zj];omega),Za];exact ⟨_,rfl,_,rfl,.inr ⟨y,fun i=>y (R+i),rfl,ZPv hy,fun i hi=>zy i (by omega),fun i hi=>zy (R+i) (by omega)⟩⟩
 ·exact yes x hx zx rfl (show (1:Int)≠2 by decide) _
 ·exact yes x hx zx rfl (show (3:Int)≠2 by decide) _
noncomputable def Zoj (a:List (List (Int×Int))) (lo:List (Int×Int)) (hi:List (Int×Int)):Option Bool :=
 bnd (Zxj a lo hi) fun f =>
 ifb (!f)
 (bnd ZCg fun g =>
 some g)
 (bnd (Znf a) fun c =>
 bnd (Zjf lo) fun d =>
 bnd (Zjf hi) fun e =>
 bnd (ZKf c.1 d.1 e.1) fun b =>
 bnd (Zah a) fun h =>
 bnd (Zvd lo) fun i =>
 bnd (Zvd hi) fun j =>
 bnd (ZQf h i j) fun k =>
 ifb (!k)
 (bnd (α:=Bool)
 (ifb (b.2==(4:Int))
 (bnd (Zvg c.1 d.1 e.1 b.1) fun l =>
 ifb (!l)
 (bnd ZCg fun m =>
 some m)
 (some false))
 (some false)) fun n =>
 some n)
 (bnd (ZIf b.1.2.1) fun o =>
 bnd (ZIf b.1.2.2.1) fun p =>
 bnd (ZIf b.1.2.2.2) fun q =>
 bnd (α:=Bool)
 (ifb (b.2==(0:Int))
 (bnd (Zah a) fun r =>
 bnd (Zvd lo) fun s =>
 bnd (Zvd hi) fun t =>
 bnd (Ztj r s t b.1.1 o p q) fun u =>
 ifb u
 (bnd (Zvg c.1 d.1 e.1 b.1) fun v =>
 ifb v
 (bnd ZCg fun w =>
 some w)
 (some false))
 (some false))
 (some false)) fun x =>
 some x))
set_option maxRecDepth 100000
theorem Zhc.okM {a:List (List (Int×Int))} {b c:List (Int×Int)} (h:Zhc a b c):okM a:=⟨h.2.2.1,h.2.2.2.1,h.2.2.2.2⟩
theorem bnd_no {a:List (List (Int×Int))} {b c:List (Int×Int)} (ha:a.length≤1000) (hV:¬ Zhc a b c):Z3e (a.map (·.map Zx)) (b.map Zx) (c.map Zx)=some false∧ZQf (a.map (·.map fun r=>sq (Zx r))) (b.map fun r=>sq (Zx r)) (c.map fun r=>sq (Zx r))=some false:=by
 constructor
 ·obtain ⟨e,g1,g2⟩:=Z4v (a.map (·.map Zx)) (b.map Zx) (c.map Zx) (by rw [List.length_map];omega);rw [g1]
  cases e with
  | false=>rfl
  | true=>exact absurd ((Zhc.map Zx Zx Zx).1 (g2.1 rfl)) hV
 ·obtain ⟨e,g1,g2⟩:=ZCq (a.map (·.map fun r=>sq (Zx r))) (b.map fun r=>sq (Zx r)) (c.map fun r=>sq (Zx r)) (by rw [List.length_map];omega);rw [g1]
  cases e with
  | false=>rfl
  | true=>exact absurd ((Zhc.map (fun r=>sq (Zx r)) (fun r=>sq (Zx r)) (fun r=>sq (Zx r))).1 (g2.1 rfl)) hV
theorem Dec.yes {x:Option Bool} {P:Prop} (h:Dec x P) (hp:P):x=some true:=by
 obtain ⟨b,e,h⟩:=h;rw [e,h.2 hp]
theorem ZLz {a:List (List (Int×Int))} {b c:List (Int×Int)} (ha:∀ r,r ∈ a→∀ x,x ∈ r→i64 x) (hb:∀ x,x ∈ b→i64 x) (hc:∀ x,x ∈ c→i64 x) (hr:∀ r,r ∈ a→r.length≤1048576):Zoj a b c=some true:=by
 unfold Zoj;have aw0:bnd ZCg (fun y=>some y)=some true:=by rw [ZFA,Za]
 obtain ⟨e,l1,l2⟩:=ZOz a b c hr;rw [l1,Za]
 cases e with
 | false=>rw [ZBg,aw0]
 | true =>
 rw [Z5g];obtain ⟨la,lk,lb,lc⟩:=l2 rfl;rw [ZxA a (by omega) hr,Za,ZUm b (by omega),Za,ZUm c (by omega),Za];simp only;rw [ZvA a (by omega) hr,Z0n b (by omega),Z0n c (by omega)];by_cases hV:Zhc a b c
 ·obtain ⟨k1,k2⟩:=lk hV.okM;obtain ⟨v1,v2,v3,v4,v5⟩:=hV;have h0:a.length=0→(a.headD []).length=0:=fun h=>by rw [List.length_eq_zero_iff.1 h];rfl
  rw [rows_mx v5,ZHu b,ZHu c,ZPy v5,Zop b,Zop c,← v1,← v2];have zA:∀ i j,sz 64 (rt a i j):=rt_sz ha;have zB:∀ i,sz 64 (rv b i):=rv_sz hb;have zC:∀ i,sz 64 (rv c i):=rv_sz hc;generalize rt a=A at *;generalize rv b=L at *;generalize rv c=H at *;generalize a.length=R at *;generalize (a.headD []).length=n at *;have q3:(R+R+1)*(n+1)≤13*7:=Nat.mul_le_mul (by omega) (by omega);have q4:aw 64 (R+R) n 7≤2^7*(5825+1):=by
   unfold aw kk;have:2^7*(64*((R+R+1)*(n+1))+1+1)≤2^7*(5825+1):=Nat.mul_le_mul_left _ (by omega);omega
  obtain ⟨f,g3,g4⟩:=ZSx (R:=R) (n:=n) (A:=A) (L:=L) (H:=H) (k:=64) (Rb:=7) h0 (.inr (by omega)) (fun i j _ _=>zA i j) (fun i _=>zB i) (fun i _=>zC i) (by omega) (by omega) (by omega) (by omega) (by
   have:(n+1)*(64*((R+R+1)*(n+1))+1+aw 64 (R+R) n 7+2)≤7*(64*(13*7)+1+2^7*(5825+1)+2):=Nat.mul_le_mul (by omega) (by omega);omega)
  have w0:64≤2^7*(5825+1):=by decide
  generalize hW:aw 64 (R+R) n 7=W at *;have zA':∀ i j,i<R→j<n→sz (2^7*(5825+1)) (A i j):=fun i j _ _=>(zA i j).mono w0;have zL':∀ i,i<R→sz (2^7*(5825+1)) (L i):=fun i _=>(zB i).mono w0;have zH':∀ i,i<R→sz (2^7*(5825+1)) (H i):=fun i _=>(zC i).mono w0;rw [g3,Za,Za,Za,Za,Zat h0 (by omega) (by omega),Za,Z5g];rcases g4 with ⟨x,rfl,hx,zx⟩ | ⟨u,v,rfl,hd,zu,zv⟩
  ·simp only;rw [ZJl zx (by omega) (by omega),Za,Zqt,Za,Za,show ((0:Int)==(0:Int))=true from rfl,Zd,Za,Za,Za];have h1:=(ZTr (R:=R) (n:=n) (A:=A) (L:=L) (H:=H) (ok:=true) (p:=n) (q:=0) (r:=0) (x:=x) (u:=fun _=>0) (v:=fun _=>0) h0 zA' zL' zH' (fun j hj=>(zx j hj).mono q4) (fun j hj=>by omega) (fun j hj=>by omega) (by omega) (by omega) (by omega) (by omega) (by omega) (by decide)).yes (.inl ⟨rfl,rfl,rfl,rfl,hx⟩);have h2:=(ZQp (R:=R) (n:=n) (A:=A) (L:=L) (H:=H) (ok:=true) (p:=n) (q:=0) (r:=0) (x:=x) (u:=fun _=>0) (v:=fun _=>0) h0 zA' zL' zH' (fun j hj=>(zx j hj).mono q4) (fun j hj=>by omega) (fun j hj=>by omega) (by omega) (by omega) (by omega) (by omega) (by omega) (by decide)).yes (.inl ⟨rfl,rfl,rfl,rfl,hx⟩);have e0:sv 0 (fun _=>0)=[]:=rfl;have e1:vx 0 (fun _=>(0:Rat))=[]:=rfl;rw [e0] at h1;rw [e1] at h2;rw [h1,Za,Zd,h2,Za,Zd,aw0,Za]
  ·simp only;rw [Zqt,Za,ZJl zu (by omega) (by omega),Za,ZJl zv (by omega) (by omega),Za,show ((0:Int)==(0:Int))=true from rfl,Zd,Za,Za,Za];have h1:=(ZTr (R:=R) (n:=n) (A:=A) (L:=L) (H:=H) (ok:=false) (p:=0) (q:=R) (r:=R) (x:=fun _=>0) (u:=u) (v:=v) h0 zA' zL' zH' (fun j hj=>by omega) (fun j hj=>(zu j hj).mono q4) (fun j hj=>(zv j hj).mono q4) (by omega) (by omega) (by omega) (by omega) (by omega) (by decide)).yes (.inr ⟨rfl,rfl,rfl,rfl,hd⟩);have h2:=(ZQp (R:=R) (n:=n) (A:=A) (L:=L) (H:=H) (ok:=false) (p:=0) (q:=R) (r:=R) (x:=fun _=>0) (u:=u) (v:=v) h0 zA' zL' zH' (fun j hj=>by omega) (fun j hj=>(zu j hj).mono q4) (fun j hj=>(zv j hj).mono q4) (by omega) (by omega) (by omega) (by omega) (by omega) (by decide)).yes (.inr ⟨rfl,rfl,rfl,rfl,hd⟩);have e0:sv 0 (fun _=>0)=[]:=rfl;have e1:vx 0 (fun _=>(0:Rat))=[]:=rfl;rw [e0] at h1;rw [e1] at h2;rw [h1,Za,Zd,h2,Za,Zd,aw0,Za]
 ·obtain ⟨e1,e2⟩:=bnd_no (by omega) hV;have e3:ZKf (a.map (·.map Zx)) (b.map Zx) (c.map Zx)=some ((false,[],[],[]),4):=by
   unfold ZKf;rw [e1,Za,ZBg]
  have e4:∀ z,Zvg (a.map (·.map Zx)) (b.map Zx) (c.map Zx) z=some false:=fun z=>by
   unfold Zvg;rw [e1,Za,ZBg]
  rw [e3,Za,Za,Za,Za,e2,Za,ZBg,show (((false,([]:List Rat),([]:List Rat),([]:List Rat)),(4:Int)).2==(4:Int))=true from rfl,Zd,e4,Za,ZBg,aw0,Za]
end Go.Eng
namespace Go.Proofs.YtceoncclknebbaaGreat
open Go.RowKit Go.WideShapes Go.ChangeShapes Go.Eng
theorem Zzw {P:Program} {t e:TypeId} {α:Type} {A:Rep α} {S:α→Prop} (ht:P.underlying t=some (.slice e)) (hA:ZHi P e A S) (ce:P.cellsOf e=A.n) (hn:0<A.n):ZHi P t (Zv A) (fun l=>∀ x,x ∈ l→S x):=by
 intro H enc W fuel cs x h;rcases Go.Deep.open_slice ht h with ⟨rfl,_⟩ | ⟨a,len,cap,m,n,D,Pl,rfl,_,hl,hm,hmm,rfl,hx⟩
 ·exact ⟨[],ZJg A _,fun _ x hx=>by cases hx⟩
 ·rw [ce] at hx;have hlm:len≤m:=by rw [hmm];simp;omega
  by_cases h0:len=0
  ·subst h0;exact ⟨[],⟨some a,cap,rfl,hl,hm,.inl rfl⟩,fun _ x hx=>by cases hx⟩
  ·obtain ⟨cs0,hc0,_⟩:=hx 0 (by omega);obtain ⟨_,hlen0,hcell0⟩:=World.cells?_some hc0;have h00:=hcell0 0 (by omega);rw [List.getElem?_eq_getElem (by omega)] at h00;have hspot:=World.cell?_spot h00;obtain ⟨b,off,spot⟩:=a;have hs:spot=none:=by simpa [Addr.add] using hspot
   subst hs;obtain ⟨c,T,fr,hg⟩:∃ c T fr,W.heap[b]? = some (.cells c T fr):=by
    rw [Zpa,Zpa] at h00;simp only [World.cell?] at h00;split at h00
    ·rename_i c T fr hg;exact ⟨c,T,fr,hg⟩
    ·cases h00
   have key:∀ k,k≤len→∃ l:List α,l.length=k∧A.rels (Z2i W) ((c.toList.drop off).take (k*A.n)) l∧((∀ i,i<k→Rows.uptoBulk (D i)≤1048576)→∀ x,x ∈ l→S x):=by
    intro k
    induction k with
    | zero=>intro _;exact ⟨[],rfl,by rw [Nat.zero_mul,List.take_zero];exact ZKd,fun _ x hx=>by cases hx⟩
    | succ k ih =>
     intro hk;obtain ⟨l,hll,hr,hS⟩:=ih (by omega);obtain ⟨cs',hc',ht'⟩:=hx k (by omega);rw [Zpa] at hc';have e1:=Zvq hg hc';obtain ⟨y,hy,hyS⟩:=hA _ _ _ _ _ _ ht';refine ⟨l++[y],by simp [hll],?_,fun hB x hx=>?_⟩
     ·have e2:(c.toList.drop off).take ((k+1)*A.n)=(c.toList.drop off).take (k*A.n)++cs':=by
       rw [e1,Nat.succ_mul,List.take_add,List.drop_drop]
      rw [e2];exact ZQb hr ⟨cs',[],by simp,hy,ZKd⟩
     ·rcases List.mem_append.1 hx with hx | hx
      ·exact hS (fun i hi=>hB i (by omega)) x hx
      ·rw [List.mem_singleton.1 hx];exact hyS (hB k (by omega))
   obtain ⟨l,hll,hr,hS⟩:=key len (Nat.le_refl _);subst hll;refine ⟨l,⟨some ⟨b,off,none⟩,cap,rfl,hl,hm,.inr ⟨b,off,c,T,fr,rfl,hg,hr⟩⟩,fun hw=>hS fun i hi=>?_⟩;simp only [Rows.uptoBulk] at hw;have:=ZUq (l:=(List.range l.length).map D) (List.mem_map.2 ⟨i,List.mem_range.2 hi,rfl⟩);omega
end Go.Proofs.YtceoncclknebbaaGreat
namespace Go.Eng
theorem Znj {α:Type} {A:Rep α} {v:Zb} {cs:List Value} {l:List α} (h:(Zv A).rel v cs l) {x:α} (hx:x ∈ l):∃ c,A.rel v c x:=by
 obtain ⟨q,cap,rfl,h1,h2,h3⟩:=h;rcases h3 with rfl | ⟨b,off,c,T,fr,e,hb,hr⟩
 ·cases hx
 ·obtain ⟨i,hi,rfl⟩:=List.getElem_of_mem hx;exact ⟨_,ZNa hr (List.getElem?_eq_getElem hi)⟩
end Go.Eng
namespace Go.Eng
open Go.RowKit
def Old (m:Nat) (f:Fr) (l:Lo) (f':Fr) (l':Lo):Prop:=(∀ t e,lkE f' t=some e→e.st<m→lkE f t=some e)∧∀ u e,lkE l' u=some e→e.st<m→lkE l u=some e
theorem Old.refl {m:Nat} {f:Fr} {l:Lo}:Old m f l f l:=⟨fun _ _ h _=>h,fun _ _ h _=>h⟩
theorem Old.trans {m m':Nat} {f f' f'':Fr} {l l' l'':Lo} (h:Old m f l f' l') (k:Old m' f' l' f'' l'') (hm:m≤m'):Old m f l f'' l'' :=
 ⟨fun t e he hs=>h.1 t e (k.1 t e he (by omega)) hs,fun t e he hs=>h.2 t e (k.2 t e he (by omega)) hs⟩
theorem Old.mono {m m':Nat} {f f':Fr} {l l':Lo} (h:Old m' f l f' l') (hm:m≤m'):Old m f l f' l':=⟨fun t e he hs=>h.1 t e he (by omega),fun t e he hs=>h.2 t e he (by omega)⟩
theorem Old.put {m n:Nat} {f:Fr} {l:Lo} {d:Nat} {x:V} (h:m≤n):Old m f l (⟨d,n,x⟩ :: f) l:=by
 refine ⟨fun t e he hs=>?_,fun _ _ h _=>h⟩;rw [ZT] at he;split at he
 ·cases he;exact absurd hs (by show ¬ n<m;omega)
 ·exact he
theorem Old.dup {m:Nat} {f:Fr} {l:Lo} {t:Nat} {e:En V} (h:lkE f t=some e):Old m f l (e :: f) l:=by
 obtain ⟨_,hk⟩:=Zr h;refine ⟨fun t' e' he _=>?_,fun _ _ h _=>h⟩;rw [ZT] at he;split at he
 ·rename_i hk';cases he;rw [← hk',hk];exact h
 ·exact he
theorem Z6h {ρ:Type} {n m:Nat} (hm:m≤n) {f0:Fr} {l0:Lo}:∀ {e:Ev ρ} {f:Fr} {l:Lo} {K:ρ→Fr→Lo→Prop},Old m f0 l0 f l→(l.map En.k).Nodup→Zm n e f l K→Zm n e f l fun x f' l'=>K x f' l'∧Old m f0 l0 f' l':=by
 intro e;have wr:∀ {f:Fr} {l:Lo} {u:Nat} {L:LV},Old m f0 l0 f l→(l.map En.k).Nodup→Old m f0 l0 f (⟨u,n,L⟩ :: era l u)∧((⟨u,n,L⟩ :: era l u:Lo).map En.k).Nodup:=by
  intro f l u L ho hn;obtain ⟨n1,n2⟩:=ZEb (t:=u) hn;refine ⟨⟨ho.1,fun k e he hs=>?_⟩,List.nodup_cons.2 ⟨n2,n1⟩⟩;rw [ZT] at he;split at he
  ·cases he;exact absurd hs (by show ¬ n<m;omega)
  ·rw [ZXb hn] at he;split at he
   ·cases he
   ·exact ho.2 k e he hs
 induction e with
 | fail=>intro f l K ho hn h;exact h
 | done x=>intro f l K ho hn h;exact ⟨h,ho⟩
 | rdS t q ih=>intro f l K ho hn h;obtain ⟨x,hx,h⟩:=h;exact ⟨x,hx,ih _ ho hn h⟩
 | rdL u q ih=>intro f l K ho hn h;obtain ⟨x,hx,h⟩:=h;exact ⟨x,hx,ih _ _ ho hn h⟩
 | wrS t x e ih=>intro f l K ho hn h;exact ih (ho.trans (Old.put hm) (Nat.le_refl m)) hn h
 | wrL u L e ih=>intro f l K ho hn h;exact ih (wr ho hn).1 (wr ho hn).2 h
 | new u L e ih =>
  intro f l K ho hn h;refine ⟨h.1,ih ⟨ho.1,fun k e he hs=>?_⟩ (List.nodup_cons.2 ⟨Zph h.1,hn⟩) h.2⟩;rw [ZT] at he;split at he
  ·cases he;exact absurd hs (by show ¬ n<m;omega)
  ·exact ho.2 k e he hs
 | del u e ih =>
  intro f l K ho hn h;refine ih ⟨ho.1,fun k e he hs=>?_⟩ (ZEb hn).1 h;rw [ZXb hn] at he;split at he
  ·cases he
  ·exact ho.2 k e he hs
 | bind x q ih=>intro f l K ho hn h;obtain ⟨x,hx,h⟩:=h;exact ⟨x,hx,ih _ ho hn h⟩
 | test t e1 e2 i1 i2 =>
  intro f l K ho hn h;obtain ⟨s,b,h1,h2,h3⟩:=h;have hd:=ho.trans (Old.dup (m:=m) (l:=l) h1) (Nat.le_refl m);exact ⟨s,b,h1,fun e=>i1 hd hn (h2 e),fun e=>i2 hd hn (h3 e)⟩
 | alt b e1 e2 i1 i2=>intro f l K ho hn h;exact ⟨fun e=>i1 ho hn (h.1 e),fun e=>i2 ho hn (h.2 e)⟩
section
variable {N:Nat} {G:V→Value→Prop} {w0:Base} {v0:Zb} {U X:Nat→Prop} {f:Fr} {l:Lo} {a:Act} {w:World} {γ:Nat→Gh} {v:Zb} {ℓ:List Loc} {n:Nat}
def GoodG (P:Program) (ops:Array Oper) (N:Nat) (G:V→Value→Prop) (w0:Base) (v0:Zb) (X:Nat→Prop) (o:Oper) (a:Act) (w:World) (Post:Unit→Fr→Lo→Prop):Prop :=
 (Region.wanted o (yielded ops a.tmps)=true∧Zta P N G w0 v0 X o a w Post)∨(Region.wanted o (yielded ops a.tmps)=false∧∃ f' l',Post () f' l'∧Rel N G w0 v0 X f' l' (a.put o.dst undef) w)
theorem ZSj (hr:RelX N G w0 v0 U X f l a w γ v ℓ) (hU:∀ k,U k→X k) (hX:X n) {o:Oper} {Post:Unit→Fr→Lo→Prop} (hd:∀ k,o.dst=some k→k<N) (h:Zm n (Zbh o) f l Post):∃ f' l',Post () f' l'∧Rel N G w0 v0 X f' l' (a.put o.dst undef) w:=by
 unfold Zbh at h
 cases hdd:o.dst with
 | none=>rw [hdd] at h;exact ⟨f,l,h,γ,v,ℓ,hr.mono hU fun _ h=>h⟩
 | some d=>rw [hdd] at h;exact ⟨_,l,h,γ,v,ℓ,(hr.mono hU fun _ h=>h).put (hd d hdd) (x:=.undef) ⟨[undef],rfl,rfl⟩ trivial hX⟩
theorem ZBn {C:Cf} (hC:CfOK C) {ops:Array Oper} (hr:RelX N G w0 v0 U X f l a w γ v ℓ) (hU:∀ k,U k→X k) (hX:X n) (hn:¬ U n) {o:Oper} {Post:Unit→Fr→Lo→Prop} (hds:∀ o ∈ ops.toList,∀ k,o.dst=some k→k<N) (hd:∀ k,o.dst=some k→k<N)
  (h:Zm n (gop C ops.toList n o) f l Post):GoodG C.P ops N G w0 v0 X o a w Post:=by
 unfold gop at h;split at h
 ·rename_i hg;exact .inl ⟨Z6b hg,ZPm hC hr hU hX hn hd h⟩
 ·rename_i j want hg;split at h
  ·rename_i q hq;split at h
   ·rename_i t ht;have htN:t<N:=hds q (List.mem_of_getElem? hq) t ht;have hgd:(ops[j]?).bind (·.dst)=some t:=by rw [← Array.getElem?_toList,hq];exact ht
    obtain ⟨e,he,h⟩:=h;obtain ⟨σ,hσ,hev⟩:=hr.st.evs [.tmp t];have hl:look σ t=some (a.tmps.getD t undef):=hev (.tmp t) (by simp);have hrv:=hr.fr t e he;obtain ⟨ek,est,ex⟩:=e;have hk:ek=t:=(Zr he).2;subst hk
    cases ex with
    | undef =>
     obtain ⟨cs,h1,h2⟩:=hrv;have h1:cs=[undef]:=h1;subst h1;have h2:a.tmps.getD ek undef=undef:=h2;rw [h2] at hl;exact .inr ⟨Zwe hσ hg hgd hl htN,ZSj hr hU hX hd h⟩
    | data tt b =>
     cases tt with
     | bool =>
      have h2:=ZYf hrv;have h2:a.tmps.getD ek undef = .bool b:=h2;rw [h2] at hl
      cases want with
      | true =>
       obtain ⟨s,b',h3,h4,h5⟩:=h;rw [he] at h3
       cases h3
       cases b with
       | true=>exact .inl ⟨Zfg hσ hg hgd hl htN,ZPm hC (RelX.dup hr he) hU hX hn hd (h4 rfl)⟩
       | false=>exact .inr ⟨ZBi hσ hg hgd hl htN,ZSj (RelX.dup hr he) hU hX hd (h5 rfl)⟩
      | false =>
       obtain ⟨s,b',h3,h4,h5⟩:=h;rw [he] at h3
       cases h3
       cases b with
       | true=>exact .inr ⟨ZBi hσ hg hgd hl htN,ZSj (RelX.dup hr he) hU hX hd (h4 rfl)⟩
       | false=>exact .inl ⟨Zfg hσ hg hgd hl htN,ZPm hC (RelX.dup hr he) hU hX hn hd (h5 rfl)⟩
     | _=>exact h.elim
    | _=>exact h.elim
   ·exact h.elim
  ·exact h.elim
theorem GoodG.list {P:Program} {ops:Array Oper} {Q:Exit→Act→World→Prop} {o:Oper} {rest:List Oper} {Post:Unit→Fr→Lo→Prop} (h:GoodG P ops N G w0 v0 X o a w Post)
  (k:∀ f' l' a' w',Post () f' l'→Rel N G w0 v0 X f' l' a' w'→wpList P ops Q rest a' w'):wpList P ops Q (o :: rest) a w:=by
 rcases h with ⟨hw,hg⟩ | ⟨hw,f',l',h1,h2⟩
 ·exact ZQc hw (Zrn hg fun x w' ⟨f',l',h1,h2⟩=>k f' l' _ w' h1 h2)
 ·unfold wpList;rw [if_neg (by rw [hw];decide)];exact k f' l' _ w h1 h2
end
end Go.Eng
namespace Go.Eng
open Go.RowKit
inductive Et where
 | rS (t:Nat) (e:En V)
 | rL (u:Nat) (e:En LV)
 | wS (e:En V)
 | dup (e:En V)
 | wL (e:En LV)
 | nL (e:En LV)
 | dL (u:Nat)
def okT:List Et→Fr→Lo→Prop
 | [],_,_=>True
 | .rS t e :: τ,f,l=>lkE f t=some e∧okT τ f l
 | .rL u e :: τ,f,l=>lkE l u=some e∧okT τ f l
 | .wS e :: τ,f,l=>okT τ (e :: f) l
 | .dup e :: τ,f,l=>lkE f e.k=some e∧okT τ (e :: f) l
 | .wL e :: τ,f,l=>okT τ f (e :: era l e.k)
 | .nL e :: τ,f,l=>lkE l e.k=none∧okT τ f (e :: l)
 | .dL u :: τ,f,l=>okT τ f (era l u)
def Zac:List Et→Fr→Fr
 | [],f=>f
 | .wS e :: τ,f=>Zac τ (e :: f)
 | .dup e :: τ,f=>Zac τ (e :: f)
 | _ :: τ,f=>Zac τ f
def Z7b:List Et→Lo→Lo
 | [],l=>l
 | .wL e :: τ,l=>Z7b τ (e :: era l e.k)
 | .nL e :: τ,l=>Z7b τ (e :: l)
 | .dL u :: τ,l=>Z7b τ (era l u)
 | _ :: τ,l=>Z7b τ l
def rdS:List Et→Nat→Prop
 | [],_=>False
 | .rS t _ :: τ,k=>k=t∨rdS τ k
 | .dup e :: τ,k=>k=e.k∨rdS τ k
 | _ :: τ,k=>rdS τ k
def rdL:List Et→Nat→Prop
 | [],_=>False
 | .rL u _ :: τ,k=>k=u∨rdL τ k
 | .nL e :: τ,k=>k=e.k∨rdL τ k
 | _ :: τ,k=>rdL τ k
def Zfb:List Et→Nat→Option (Option (En V))
 | [],_=>none
 | .wS e :: τ,t=>match Zfb τ t with
  | some z=>some z
  | none=>if e.k=t then some (some e) else none
 | _ :: τ,t=>Zfb τ t
def Zqa:List Et→Nat→Option (Option (En LV))
 | [],_=>none
 | .wL e :: τ,t=>match Zqa τ t with
  | some z=>some z
  | none=>if e.k=t then some (some e) else none
 | .nL e :: τ,t=>match Zqa τ t with
  | some z=>some z
  | none=>if e.k=t then some (some e) else none
 | .dL u :: τ,t=>match Zqa τ t with
  | some z=>some z
  | none=>if u=t then some none else none
 | _ :: τ,t=>Zqa τ t
def fpT:List Et→Fp→Fp
 | [],p=>p
 | .rS t _ :: τ,p=>fpT τ ⟨bit p.rs t,p.ws,p.rl,p.wl⟩
 | .rL u _ :: τ,p=>fpT τ ⟨p.rs,p.ws,bit p.rl u,p.wl⟩
 | .wS e :: τ,p=>fpT τ ⟨p.rs,bit p.ws e.k,p.rl,p.wl⟩
 | .dup e :: τ,p=>fpT τ ⟨bit p.rs e.k,p.ws,p.rl,p.wl⟩
 | .wL e :: τ,p=>fpT τ ⟨p.rs,p.ws,p.rl,bit p.wl e.k⟩
 | .nL e :: τ,p=>fpT τ ⟨p.rs,p.ws,bit p.rl e.k,bit p.wl e.k⟩
 | .dL u :: τ,p=>fpT τ ⟨p.rs,p.ws,p.rl,bit p.wl u⟩
def Tr {ρ:Type} (n:Nat):Ev ρ→List Et→ρ→Prop
 | .fail,_,_=>False
 | .done r,τ,x=>τ=[]∧x=r
 | .rdS t k,τ,x=>∃ e τ',τ = .rS t e :: τ'∧Tr n (k e.x) τ' x
 | .rdL u k,τ,x=>∃ e τ',τ = .rL u e :: τ'∧Tr n (k e.st e.x) τ' x
 | .wrS t v e,τ,x=>∃ τ',τ = .wS ⟨t,n,v⟩ :: τ'∧Tr n e τ' x
 | .wrL u L e,τ,x=>∃ τ',τ = .wL ⟨u,n,L⟩ :: τ'∧Tr n e τ' x
 | .new u L e,τ,x=>∃ τ',τ = .nL ⟨u,n,L⟩ :: τ'∧Tr n e τ' x
 | .del u e,τ,x=>∃ τ',τ = .dL u :: τ'∧Tr n e τ' x
 | .bind y k,τ,x=>∃ z,y=some z∧Tr n (k z) τ x
 | .test t e1 e2,τ,x=>∃ s b τ',τ = .dup ⟨t,s,.data .bool b⟩ :: τ'∧(b=true→Tr n e1 τ' x)∧(b=false→Tr n e2 τ' x)
 | .alt b e1 e2,τ,x=>(b=true→Tr n e1 τ x)∧(b=false→Tr n e2 τ x)
theorem Zay {ρ α:Type} {n:Nat} {r:α}:∀ {e:Ev ρ} {f:Fr} {l:Lo} {p:Fp} {K:ρ→Fr→Lo→Fp→Option α},Zub n e f l p K=some r→∃ x τ,Tr n e τ x∧okT τ f l∧K x (Zac τ f) (Z7b τ l) (fpT τ p)=some r:=by
 intro e
 induction e with
 | fail=>intro f l p K h;cases h
 | done x=>intro f l p K h;exact ⟨x,[],⟨rfl,rfl⟩,trivial,h⟩
 | rdS t k ih =>
  intro f l p K h;simp only [Zub] at h;split at h
  ·rename_i e he;obtain ⟨x,τ,h1,h2,h3⟩:=ih _ h;exact ⟨x,.rS t e :: τ,⟨e,τ,rfl,h1⟩,⟨he,h2⟩,h3⟩
  ·cases h
 | rdL u k ih =>
  intro f l p K h;simp only [Zub] at h;split at h
  ·rename_i e he;obtain ⟨x,τ,h1,h2,h3⟩:=ih _ _ h;exact ⟨x,.rL u e :: τ,⟨e,τ,rfl,h1⟩,⟨he,h2⟩,h3⟩
  ·cases h
 | wrS t v e ih=>intro f l p K h;obtain ⟨x,τ,h1,h2,h3⟩:=ih h;exact ⟨x,.wS ⟨t,n,v⟩ :: τ,⟨τ,rfl,h1⟩,h2,h3⟩
 | wrL u L e ih=>intro f l p K h;obtain ⟨x,τ,h1,h2,h3⟩:=ih h;exact ⟨x,.wL ⟨u,n,L⟩ :: τ,⟨τ,rfl,h1⟩,h2,h3⟩
 | new u L e ih =>
  intro f l p K h;simp only [Zub] at h;split at h
  ·rename_i he;obtain ⟨x,τ,h1,h2,h3⟩:=ih h;exact ⟨x,.nL ⟨u,n,L⟩ :: τ,⟨τ,rfl,h1⟩,⟨he,h2⟩,h3⟩
  ·cases h
 | del u e ih=>intro f l p K h;obtain ⟨x,τ,h1,h2,h3⟩:=ih h;exact ⟨x,.dL u :: τ,⟨τ,rfl,h1⟩,h2,h3⟩
 | bind y k ih =>
  intro f l p K h;obtain ⟨z,hz,h⟩:=Zma h;obtain ⟨x,τ,h1,h2,h3⟩:=ih _ h;exact ⟨x,τ,⟨z,hz,h1⟩,h2,h3⟩
 | test t e1 e2 i1 i2 =>
  intro f l p K h;simp only [Zub] at h;split at h
  ·rename_i k s b hx;obtain ⟨_,hk⟩:=Zr hx;have hk:k=t:=hk;subst hk
   cases b with
   | true =>
    obtain ⟨x,τ,h1,h2,h3⟩:=i1 h;exact ⟨x,.dup ⟨k,s,.data .bool true⟩ :: τ,⟨s,true,τ,rfl,fun _=>h1,fun e=>by cases e⟩,⟨hx,h2⟩,h3⟩
   | false =>
    obtain ⟨x,τ,h1,h2,h3⟩:=i2 h;exact ⟨x,.dup ⟨k,s,.data .bool false⟩ :: τ,⟨s,false,τ,rfl,(fun e=>by cases e),fun _=>h1⟩,⟨hx,h2⟩,h3⟩
  ·cases h
 | alt b e1 e2 i1 i2 =>
  intro f l p K h
  cases b with
  | true =>
   obtain ⟨x,τ,h1,h2,h3⟩:=i1 h;exact ⟨x,τ,⟨fun _=>h1,fun e=>by cases e⟩,h2,h3⟩
  | false =>
   obtain ⟨x,τ,h1,h2,h3⟩:=i2 h;exact ⟨x,τ,⟨(fun e=>by cases e),fun _=>h1⟩,h2,h3⟩
theorem Zqm {ρ:Type} {n:Nat}:∀ {e:Ev ρ} {τ:List Et} {x:ρ} {f:Fr} {l:Lo},Tr n e τ x→okT τ f l→Zm n e f l fun x' f' l'=>x'=x∧f'=Zac τ f∧l'=Z7b τ l:=by
 intro e
 induction e with
 | fail=>intro τ x f l h k;exact h
 | done r=>intro τ x f l h k;obtain ⟨rfl,rfl⟩:=h;exact ⟨rfl,rfl,rfl⟩
 | rdS t q ih=>intro τ x f l h k;obtain ⟨e,τ',rfl,h⟩:=h;exact ⟨e,k.1,ih _ (τ:=τ') h k.2⟩
 | rdL u q ih=>intro τ x f l h k;obtain ⟨e,τ',rfl,h⟩:=h;exact ⟨e,k.1,ih _ _ (τ:=τ') h k.2⟩
 | wrS t v e ih=>intro τ x f l h k;obtain ⟨τ',rfl,h⟩:=h;exact ih (τ:=τ') h k
 | wrL u L e ih=>intro τ x f l h k;obtain ⟨τ',rfl,h⟩:=h;exact ih (τ:=τ') h k
 | new u L e ih=>intro τ x f l h k;obtain ⟨τ',rfl,h⟩:=h;exact ⟨k.1,ih (τ:=τ') h k.2⟩
 | del u e ih=>intro τ x f l h k;obtain ⟨τ',rfl,h⟩:=h;exact ih (τ:=τ') h k
 | bind y q ih=>intro τ x f l h k;obtain ⟨z,hz,h⟩:=h;exact ⟨z,hz,ih _ h k⟩
 | test t e1 e2 i1 i2=>intro τ x f l h k;obtain ⟨s,b,τ',rfl,h1,h2⟩:=h;exact ⟨s,b,k.1,fun e=>i1 (τ:=τ') (h1 e) k.2,fun e=>i2 (τ:=τ') (h2 e) k.2⟩
 | alt b e1 e2 i1 i2=>intro τ x f l h k;exact ⟨fun e=>i1 (h.1 e) k,fun e=>i2 (h.2 e) k⟩
theorem Zmd:∀ {τ:List Et} {f:Fr} {l:Lo} {t:Nat},okT τ f l→lkE (Zac τ f) t=(Zfb τ t).getD (lkE f t)
 | [],_,_,_,_=>rfl
 | .rS _ _ :: τ,_,_,_,h=>Zmd (τ:=τ) h.2
 | .rL _ _ :: τ,_,_,_,h=>Zmd (τ:=τ) h.2
 | .wL _ :: τ,_,_,_,h=>Zmd (τ:=τ) h
 | .nL _ :: τ,_,_,_,h=>Zmd (τ:=τ) h.2
 | .dL _ :: τ,_,_,_,h=>Zmd (τ:=τ) h
 | .wS e :: τ,f,l,t,h=>by
  have:=Zmd (t:=t) (show okT τ (e :: f) l from h)
  simp only [Zac,Zfb]
  rw [this,ZT]
  cases Zfb τ t with
  | some z=>rfl
  | none=>by_cases h:e.k=t <;> simp [h]
 | .dup e :: τ,f,l,t,h=>by
  have:=Zmd (t:=t) (show okT τ (e :: f) l from h.2)
  simp only [Zac,Zfb]
  rw [this,ZT]
  congr 1
  by_cases hk:e.k=t
  ·rw [if_pos hk,← hk,h.1]
  ·rw [if_neg hk]
theorem ZEc:∀ {τ:List Et} {f:Fr} {l:Lo},(l.map En.k).Nodup→okT τ f l→((Z7b τ l).map En.k).Nodup∧∀ t,lkE (Z7b τ l) t=(Zqa τ t).getD (lkE l t)
 | [],_,_,hn,_=>⟨hn,fun _=>rfl⟩
 | .rS _ _ :: τ,_,_,hn,h=>ZEc (τ:=τ) hn h.2
 | .rL _ _ :: τ,_,_,hn,h=>ZEc (τ:=τ) hn h.2
 | .wS _ :: τ,_,_,hn,h=>ZEc (τ:=τ) hn h
 | .dup _ :: τ,_,_,hn,h=>ZEc (τ:=τ) hn h.2
 | .wL e :: τ,f,l,hn,h=>by
  obtain ⟨n1,n2⟩:=ZEb (t:=e.k) hn
  obtain ⟨k1,k2⟩:=ZEc (τ:=τ) (l:=e :: era l e.k) (List.nodup_cons.2 ⟨n2,n1⟩) h
  refine ⟨k1,fun t=>(k2 t).trans ?_⟩
  simp only [Zqa]
  rw [ZT,ZXb hn]
  cases Zqa τ t with
  | some z=>rfl
  | none=>by_cases hk:e.k=t <;> simp [hk]
 | .nL e :: τ,f,l,hn,h=>by
  obtain ⟨k1,k2⟩:=ZEc (τ:=τ) (l:=e :: l) (List.nodup_cons.2 ⟨Zph h.1,hn⟩) h.2
  refine ⟨k1,fun t=>(k2 t).trans ?_⟩
  simp only [Zqa]
  rw [ZT]
  cases Zqa τ t with
  | some z=>rfl
  | none=>by_cases hk:e.k=t <;> simp [hk]
 | .dL u :: τ,f,l,hn,h=>by
  obtain ⟨k1,k2⟩:=ZEc (τ:=τ) (l:=era l u) (ZEb hn).1 h
  refine ⟨k1,fun t=>(k2 t).trans ?_⟩
  simp only [Zqa]
  rw [ZXb hn]
  cases Zqa τ t with
  | some z=>rfl
  | none=>by_cases hk:u=t <;> simp [hk]
theorem ZLe:∀ {τ:List Et} {f f2:Fr} {l l2:Lo},(l.map En.k).Nodup→(l2.map En.k).Nodup→okT τ f l→(∀ t,rdS τ t→lkE f t=lkE f2 t)→(∀ u,rdL τ u→lkE l u=lkE l2 u)→okT τ f2 l2
 | [],_,_,_,_,_,_,_,_,_=>trivial
 | .rS t e :: τ,_,_,_,_,n1,n2,h,k1,k2=>⟨(k1 t (.inl rfl)).symm.trans h.1,ZLe n1 n2 h.2 (fun t ht=>k1 t (.inr ht)) k2⟩
 | .rL u e :: τ,_,_,_,_,n1,n2,h,k1,k2=>⟨(k2 u (.inl rfl)).symm.trans h.1,ZLe n1 n2 h.2 k1 fun u hu=>k2 u (.inr hu)⟩
 | .wS e :: τ,f,f2,_,_,n1,n2,h,k1,k2=>ZLe (τ:=τ) n1 n2 h (fun t ht=>by
   rw [ZT,ZT]
   by_cases hk:e.k=t
   ·rw [if_pos hk,if_pos hk]
   ·rw [if_neg hk,if_neg hk];exact k1 t ht) k2
 | .dup e :: τ,f,f2,_,_,n1,n2,h,k1,k2=>⟨(k1 e.k (.inl rfl)).symm.trans h.1,ZLe (τ:=τ) n1 n2 h.2 (fun t ht=>by
   rw [ZT,ZT]
   by_cases hk:e.k=t
   ·rw [if_pos hk,if_pos hk]
   ·rw [if_neg hk,if_neg hk];exact k1 t (.inr ht)) k2⟩
 | .wL e :: τ,_,_,l,l2,n1,n2,h,k1,k2=>by
  obtain ⟨a1,a2⟩:=ZEb (t:=e.k) n1
  obtain ⟨b1,b2⟩:=ZEb (t:=e.k) n2
  refine ZLe (τ:=τ) (l:=e :: era l e.k) (l2:=e :: era l2 e.k) (List.nodup_cons.2 ⟨a2,a1⟩) (List.nodup_cons.2 ⟨b2,b1⟩) h k1 fun u hu=>?_
  rw [ZT,ZT]
  by_cases hk:e.k=u
  ·rw [if_pos hk,if_pos hk]
  ·rw [if_neg hk,if_neg hk,ZXb n1,ZXb n2,if_neg hk,if_neg hk];exact k2 u hu
 | .nL e :: τ,_,_,l,l2,n1,n2,h,k1,k2=>by
  have he:lkE l2 e.k=none:=(k2 e.k (.inl rfl)).symm.trans h.1
  refine ⟨he,ZLe (τ:=τ) (l:=e :: l) (l2:=e :: l2) (List.nodup_cons.2 ⟨Zph h.1,n1⟩) (List.nodup_cons.2 ⟨Zph he,n2⟩) h.2 k1 fun u hu=>?_⟩
  rw [ZT,ZT]
  by_cases hk:e.k=u
  ·rw [if_pos hk,if_pos hk]
  ·rw [if_neg hk,if_neg hk];exact k2 u (.inr hu)
 | .dL u :: τ,_,_,l,l2,n1,n2,h,k1,k2=>by
  refine ZLe (τ:=τ) (ZEb n1).1 (ZEb n2).1 h k1 fun k hk=>?_
  rw [ZXb n1,ZXb n2]
  by_cases e:u=k
  ·rw [if_pos e,if_pos e]
  ·rw [if_neg e,if_neg e];exact k2 k hk
theorem Zlf {m k:Nat}:(bit m k).testBit k=true:=by
 show (m ||| 2^k).testBit k=true;rw [Nat.testBit_or,Nat.testBit_two_pow_self,Bool.or_true]
theorem ZUe {m k t:Nat} (h:m.testBit t=true):(bit m k).testBit t=true:=by
 show (m ||| 2^k).testBit t=true;rw [Nat.testBit_or,h,Bool.true_or]
structure Fp.le (p q:Fp):Prop where
 rs:∀ t,p.rs.testBit t=true→q.rs.testBit t=true
 ws:∀ t,p.ws.testBit t=true→q.ws.testBit t=true
 rl:∀ t,p.rl.testBit t=true→q.rl.testBit t=true
 wl:∀ t,p.wl.testBit t=true→q.wl.testBit t=true
theorem Fp.le.trans {p q r:Fp} (h:p.le q) (k:q.le r):p.le r:=⟨fun t e=>k.rs t (h.rs t e),fun t e=>k.ws t (h.ws t e),fun t e=>k.rl t (h.rl t e),fun t e=>k.wl t (h.wl t e)⟩
theorem ZKb:∀ {τ:List Et} {p:Fp},p.le (fpT τ p)
 | [],_=>⟨fun _ h=>h,fun _ h=>h,fun _ h=>h,fun _ h=>h⟩
 | .rS t _ :: τ,p=>Fp.le.trans (q:=⟨bit p.rs t,p.ws,p.rl,p.wl⟩) ⟨fun _ h=>ZUe h,fun _ h=>h,fun _ h=>h,fun _ h=>h⟩ (ZKb (τ:=τ))
 | .rL u _ :: τ,p=>Fp.le.trans (q:=⟨p.rs,p.ws,bit p.rl u,p.wl⟩) ⟨fun _ h=>h,fun _ h=>h,fun _ h=>ZUe h,fun _ h=>h⟩ (ZKb (τ:=τ))
 | .wS e :: τ,p=>Fp.le.trans (q:=⟨p.rs,bit p.ws e.k,p.rl,p.wl⟩) ⟨fun _ h=>h,fun _ h=>ZUe h,fun _ h=>h,fun _ h=>h⟩ (ZKb (τ:=τ))
 | .dup e :: τ,p=>Fp.le.trans (q:=⟨bit p.rs e.k,p.ws,p.rl,p.wl⟩) ⟨fun _ h=>ZUe h,fun _ h=>h,fun _ h=>h,fun _ h=>h⟩ (ZKb (τ:=τ))
 | .wL e :: τ,p=>Fp.le.trans (q:=⟨p.rs,p.ws,p.rl,bit p.wl e.k⟩) ⟨fun _ h=>h,fun _ h=>h,fun _ h=>h,fun _ h=>ZUe h⟩ (ZKb (τ:=τ))
 | .nL e :: τ,p=>Fp.le.trans (q:=⟨p.rs,p.ws,bit p.rl e.k,bit p.wl e.k⟩) ⟨fun _ h=>h,fun _ h=>h,fun _ h=>ZUe h,fun _ h=>ZUe h⟩ (ZKb (τ:=τ))
 | .dL u :: τ,p=>Fp.le.trans (q:=⟨p.rs,p.ws,p.rl,bit p.wl u⟩) ⟨fun _ h=>h,fun _ h=>h,fun _ h=>h,fun _ h=>ZUe h⟩ (ZKb (τ:=τ))
theorem Z7d:∀ {τ:List Et} {p:Fp} {t:Nat},rdS τ t→(fpT τ p).rs.testBit t=true
 | .rS t _ :: τ,_,_,.inl e=>by subst e;exact (ZKb (τ:=τ)).rs _ Zlf
 | .dup _ :: τ,_,_,.inl e=>by subst e;exact (ZKb (τ:=τ)).rs _ Zlf
 | .rS t _ :: τ,_,_,.inr h=>Z7d (τ:=τ) h
 | .dup _ :: τ,_,_,.inr h=>Z7d (τ:=τ) h
 | .rL _ _ :: τ,_,_,h=>Z7d (τ:=τ) h
 | .wS _ :: τ,_,_,h=>Z7d (τ:=τ) h
 | .wL _ :: τ,_,_,h=>Z7d (τ:=τ) h
 | .nL _ :: τ,_,_,h=>Z7d (τ:=τ) h
 | .dL _ :: τ,_,_,h=>Z7d (τ:=τ) h
theorem Zte:∀ {τ:List Et} {p:Fp} {t:Nat},rdL τ t→(fpT τ p).rl.testBit t=true
 | .rL t _ :: τ,_,_,.inl e=>by subst e;exact (ZKb (τ:=τ)).rl _ Zlf
 | .nL _ :: τ,_,_,.inl e=>by subst e;exact (ZKb (τ:=τ)).rl _ Zlf
 | .rL t _ :: τ,_,_,.inr h=>Zte (τ:=τ) h
 | .nL _ :: τ,_,_,.inr h=>Zte (τ:=τ) h
 | .rS _ _ :: τ,_,_,h=>Zte (τ:=τ) h
 | .wS _ :: τ,_,_,h=>Zte (τ:=τ) h
 | .dup _ :: τ,_,_,h=>Zte (τ:=τ) h
 | .wL _ :: τ,_,_,h=>Zte (τ:=τ) h
 | .dL _ :: τ,_,_,h=>Zte (τ:=τ) h
theorem Zjd:∀ {τ:List Et} {p:Fp} {t:Nat},Zfb τ t≠none→(fpT τ p).ws.testBit t=true
 | [],_,_,h=>absurd rfl h
 | .wS e :: τ,_,t,h=>by
  by_cases hk:e.k=t
  ·subst hk;exact (ZKb (τ:=τ)).ws _ Zlf
  ·refine Zjd (τ:=τ) fun h0=>h ?_
   simp only [Zfb,h0,if_neg hk]
 | .rS _ _ :: τ,_,_,h=>Zjd (τ:=τ) h
 | .rL _ _ :: τ,_,_,h=>Zjd (τ:=τ) h
 | .dup _ :: τ,_,_,h=>Zjd (τ:=τ) h
 | .wL _ :: τ,_,_,h=>Zjd (τ:=τ) h
 | .nL _ :: τ,_,_,h=>Zjd (τ:=τ) h
 | .dL _ :: τ,_,_,h=>Zjd (τ:=τ) h
theorem Z2c:∀ {τ:List Et} {p:Fp} {t:Nat},Zqa τ t≠none→(fpT τ p).wl.testBit t=true
 | [],_,_,h=>absurd rfl h
 | .wL e :: τ,_,t,h=>by
  by_cases hk:e.k=t
  ·subst hk;exact (ZKb (τ:=τ)).wl _ Zlf
  ·refine Z2c (τ:=τ) fun h0=>h ?_
   simp only [Zqa,h0,if_neg hk]
 | .nL e :: τ,_,t,h=>by
  by_cases hk:e.k=t
  ·subst hk;exact (ZKb (τ:=τ)).wl _ Zlf
  ·refine Z2c (τ:=τ) fun h0=>h ?_
   simp only [Zqa,h0,if_neg hk]
 | .dL u :: τ,_,t,h=>by
  by_cases hk:u=t
  ·subst hk;exact (ZKb (τ:=τ)).wl _ Zlf
  ·refine Z2c (τ:=τ) fun h0=>h ?_
   simp only [Zqa,h0,if_neg hk]
 | .rS _ _ :: τ,_,_,h=>Z2c (τ:=τ) h
 | .rL _ _ :: τ,_,_,h=>Z2c (τ:=τ) h
 | .wS _ :: τ,_,_,h=>Z2c (τ:=τ) h
 | .dup _ :: τ,_,_,h=>Z2c (τ:=τ) h
theorem Znh {a b t:Nat} (h:Nat.land a b=0) (ha:a.testBit t=true) (hb:b.testBit t=true):False:=by
 have:(a &&& b).testBit t=true:=by rw [Nat.testBit_and,ha,hb];rfl
 rw [show (a &&& b)=0 from h] at this;simp at this
theorem Zlo {a b:Nat} (h:Nat.lor a b=0):a=0∧b=0:=by
 have h:a ||| b=0:=h;exact Nat.or_eq_zero_iff.1 h
theorem ZXk {a b t:Nat} (h:a.testBit t=true∨b.testBit t=true):(Nat.lor a b).testBit t=true:=by
 show (a ||| b).testBit t=true;rw [Nat.testBit_or];rcases h with h | h <;> simp [h]
structure Apart (τ σ:List Et):Prop where
 s1:∀ t,Zfb τ t≠none→rdS σ t→False
 s2:∀ t,Zfb τ t≠none→Zfb σ t≠none→False
 s3:∀ t,rdS τ t→Zfb σ t≠none→False
 l1:∀ t,Zqa τ t≠none→rdL σ t→False
 l2:∀ t,Zqa τ t≠none→Zqa σ t≠none→False
 l3:∀ t,rdL τ t→Zqa σ t≠none→False
theorem ZHq {τ σ:List Et} {p q:Fp} (h:(fpT τ p).free (fpT σ q)=true):Apart τ σ:=by
 have h:=Nat.eq_of_beq_eq_true h;obtain ⟨h1,h2⟩:=Zlo h;obtain ⟨h3,h4⟩:=Zlo h1;obtain ⟨h5,h6⟩:=Zlo h2;exact ⟨fun t a b=>Znh h3 (Zjd a) (ZXk (.inl (Z7d b))),fun t a b=>Znh h3 (Zjd a) (ZXk (.inr (Zjd b))),fun t a b=>Znh h4 (Z7d a) (Zjd b),
  fun t a b=>Znh h5 (Z2c a) (ZXk (.inl (Zte b))),fun t a b=>Znh h5 (Z2c a) (ZXk (.inr (Z2c b))),fun t a b=>Znh h6 (Zte a) (Z2c b)⟩
end Go.Eng
namespace Go.Eng
open Go.RowKit
def ZMe:List (List Et)→Fr→Fr
 | [],f=>f
 | τ :: r,f=>ZMe r (Zac τ f)
def Z6d:List (List Et)→Lo→Lo
 | [],l=>l
 | τ :: r,l=>Z6d r (Z7b τ l)
def okTs:List (List Et)→Fr→Lo→Prop
 | [],_,_=>True
 | τ :: r,f,l=>okT τ f l∧okTs r (Zac τ f) (Z7b τ l)
def Zxa {β:Type} (eff:List Et→Nat→Option β) (sel:Nat→Bool):List (List Et)→Nat→β→Nat→β
 | [],_,acc,_=>acc
 | τ :: r,i,acc,t=>Zxa eff sel r (i+1) (if sel i then (eff τ t).getD acc else acc) t
section
variable {β:Type} {eff:List Et→Nat→Option β}
theorem Zze {sel sel':Nat→Bool} {t:Nat}:∀ {Ts:List (List Et)} {i:Nat} {acc:β},(∀ j τ,Ts[j]? = some τ→eff τ t≠none→sel (i+j)=sel' (i+j))→Zxa eff sel Ts i acc t=Zxa eff sel' Ts i acc t
 | [],_,_,_=>rfl
 | τ :: r,i,acc,h=>by
  have h1:(if sel i then (eff τ t).getD acc else acc)=(if sel' i then (eff τ t).getD acc else acc):=by
   cases he:eff τ t with
   | none=>simp
   | some z =>
    have:=h 0 τ rfl (by rw [he];exact fun e=>by cases e);rw [Nat.add_zero] at this;rw [this]
  simp only [Zxa];rw [h1];exact Zze fun j σ hj hs=>by have:=h (j+1) σ hj hs;rwa [← Nat.add_assoc,Nat.add_right_comm] at this
theorem ZRe {sel:Nat→Bool} {t:Nat}:∀ {Ts:List (List Et)} {i:Nat} {acc:β},(∀ j τ,Ts[j]? = some τ→sel (i+j)=true→eff τ t=none)→Zxa eff sel Ts i acc t=acc
 | [],_,_,_=>rfl
 | τ :: r,i,acc,h=>by
  simp only [Zxa]
  rw [ZRe fun j σ hj hs=>h (j+1) σ hj (by rwa [← Nat.add_assoc,Nat.add_right_comm])]
  by_cases hs:sel i=true
  ·rw [if_pos hs,h 0 τ rfl hs];rfl
  ·rw [if_neg hs]
theorem ZMn {sel:Nat→Bool} {t:Nat}:∀ {Ts:List (List Et)} {i k:Nat} {acc:β} {τ:List Et} {z:β},Ts[k]? = some τ→sel (i+k)=true→eff τ t=some z→(∀ j σ,k<j→Ts[j]? = some σ→sel (i+j)=true→eff σ t=none)→Zxa eff sel Ts i acc t=z
 | [],_,_,_,_,_,h,_,_,_=>by cases h
 | σ :: r,i,0,acc,τ,z,h,hs,he,hj=>by
  cases h
  simp only [Zxa]
  rw [if_pos (show sel i=true from hs),he]
  exact ZRe fun j σ hσ hsj=>hj (j+1) σ (by omega) hσ (by rwa [← Nat.add_assoc,Nat.add_right_comm])
 | σ :: r,i,k+1,acc,τ,z,h,hs,he,hj=>by
  simp only [Zxa]
  exact ZMn (k:=k) (τ:=τ) h (by rwa [Nat.add_right_comm]) he fun j σ' hkj hσ hsj=>hj (j+1) σ' (by omega) hσ (by rwa [← Nat.add_assoc,Nat.add_right_comm])
end
theorem ZJm:∀ {Ts:List (List Et)} {f:Fr} {l:Lo} {b i:Nat} {τ:List Et},okTs Ts f l→(l.map En.k).Nodup→Ts[i]? = some τ→∃ fi li,okT τ fi li∧(li.map En.k).Nodup∧(∀ t,lkE fi t=Zxa Zfb (fun j=>decide (j<b+i)) Ts b (lkE f t) t)∧∀ t,lkE li t=Zxa Zqa (fun j=>decide (j<b+i)) Ts b (lkE l t) t
 | [],_,_,_,_,_,_,_,h=>by cases h
 | σ :: r,f,l,b,0,τ,h,hn,ht=>by
  cases ht
  refine ⟨f,l,h.1,hn,fun t=>(ZRe fun j _ _ hs=>?_).symm,fun t=>(ZRe fun j _ _ hs=>?_).symm⟩ <;> (have:=of_decide_eq_true hs;omega)
 | σ :: r,f,l,b,i+1,τ,h,hn,ht=>by
  obtain ⟨n1,hl⟩:=ZEc hn h.1
  obtain ⟨fi,li,k1,k2,k3,k4⟩:=ZJm (b:=b+1) (i:=i) h.2 n1 ht
  have e:(fun j=>decide (j<b+1+i))=fun j=>decide (j<b+(i+1)):=by funext j;congr 1;rw [Nat.add_assoc,Nat.add_comm 1 i]
  have hb:decide (b<b+(i+1))=true:=by simp
  refine ⟨fi,li,k1,k2,fun t=>?_,fun t=>?_⟩
  ·rw [k3 t,e,Zmd h.1];simp only [Zxa];rw [if_pos hb]
  ·rw [k4 t,e,hl t];simp only [Zxa];rw [if_pos hb]
theorem Z9o:∀ {Ts:List (List Et)} {f:Fr} {l:Lo} {b:Nat},okTs Ts f l→(l.map En.k).Nodup→((Z6d Ts l).map En.k).Nodup∧(∀ t,lkE (ZMe Ts f) t=Zxa Zfb (fun _=>true) Ts b (lkE f t) t)∧∀ t,lkE (Z6d Ts l) t=Zxa Zqa (fun _=>true) Ts b (lkE l t) t
 | [],_,_,_,_,hn=>⟨hn,fun _=>rfl,fun _=>rfl⟩
 | τ :: r,f,l,b,h,hn=>by
  obtain ⟨n1,hl⟩:=ZEc hn h.1
  obtain ⟨k1,k2,k3⟩:=Z9o (b:=b+1) h.2 n1
  refine ⟨k1,fun t=>?_,fun t=>?_⟩
  ·rw [show ZMe (τ :: r) f=ZMe r (Zac τ f) from rfl,k2 t,Zmd h.1];rfl
  ·rw [show Z6d (τ :: r) l=Z6d r (Z7b τ l) from rfl,k3 t,hl t];rfl
theorem Z8o {α:Type} {C:Cf} {ops:List Oper} {r:α}:∀ {os:List Oper} {f:Fr} {l:Lo} {n:Nat} {K:Fr→Lo→Nat→List Fp→Option α},Zyf C ops os f l n K=some r →
  ∃ Ts:List (List Et),Ts.length=os.length∧okTs Ts f l∧(∀ i o τ,os[i]? = some o→Ts[i]? = some τ→Tr (n+i) (gop C ops (n+i) o) τ ())∧K (ZMe Ts f) (Z6d Ts l) (n+os.length) (Ts.map fun τ=>fpT τ Fp.no)=some r
 | [],f,l,n,K,h=>⟨[],rfl,trivial,fun _ _ _ h=>by simp at h,h⟩
 | o :: os,f,l,n,K,h=>by
  simp only [Zyf] at h
  obtain ⟨⟨⟩,τ,h1,h2,h3⟩:=Zay h
  obtain ⟨Ts,k1,k2,k3,k4⟩:=Z8o h3
  refine ⟨τ :: Ts,by simp [k1],⟨h2,k2⟩,fun i o' τ' ho ht=>?_,?_⟩
  ·cases i with
   | zero=>cases ho;cases ht;exact h1
   | succ i=>have:=k3 i o' τ' ho ht;rwa [Nat.add_right_comm] at this
  ·rw [List.length_cons,← Nat.add_assoc,Nat.add_right_comm];exact k4
theorem ZVw {ρ:Type} {n:Nat} {A:Prop}:∀ {e:Ev ρ} {f:Fr} {l:Lo} {K:ρ→Fr→Lo→Prop},Zm n e f l K→(∀ x f' l',K x f' l'→A)→A:=by
 intro e
 induction e with
 | fail=>intro f l K h k;exact h.elim
 | done x=>intro f l K h k;exact k _ _ _ h
 | rdS t q ih=>intro f l K h k;obtain ⟨x,hx,h⟩:=h;exact ih _ h k
 | rdL u q ih=>intro f l K h k;obtain ⟨x,hx,h⟩:=h;exact ih _ _ h k
 | wrS t x e ih=>intro f l K h k;exact ih h k
 | wrL u L e ih=>intro f l K h k;exact ih h k
 | new u L e ih=>intro f l K h k;exact ih h.2 k
 | del u e ih=>intro f l K h k;exact ih h k
 | bind x q ih=>intro f l K h k;obtain ⟨x,hx,h⟩:=h;exact ih _ h k
 | test t e1 e2 i1 i2 =>
  intro f l K h k;obtain ⟨s,b,h1,h2,h3⟩:=h
  cases b with
  | true=>exact i1 (h2 rfl) k
  | false=>exact i2 (h3 rfl) k
 | alt b e1 e2 i1 i2 =>
  intro f l K h k
  cases b with
  | true=>exact i1 (h.1 rfl) k
  | false=>exact i2 (h.2 rfl) k
theorem Z7o {C:Cf} {ops:List Oper} {m:Nat}:∀ {os:List Oper} {Ts:List (List Et)} {f:Fr} {l:Lo} {n:Nat},m≤n→Ts.length=os.length→okTs Ts f l→(l.map En.k).Nodup→(∀ i o τ,os[i]? = some o→Ts[i]? = some τ→Tr (n+i) (gop C ops (n+i) o) τ ())→Old m f l (ZMe Ts f) (Z6d Ts l)
 | _,[],_,_,_,_,_,_,_,_=>Old.refl
 | [],_ :: _,_,_,_,_,h,_,_,_=>by cases h
 | o :: os,τ :: Ts,f,l,n,hm,hl,h,hn,ht=>by
  have h1:=Z6h hm Old.refl hn (Zqm (ht 0 o τ rfl rfl) h.1)
  have h2:Old m f l (Zac τ f) (Z7b τ l):=ZVw h1 fun x f' l' ⟨⟨_,e1,e2⟩,h⟩=>by subst e1;subst e2;exact h
  exact h2.trans (Z7o (n:=n+1) (by omega) (by simpa using hl) h.2 (ZEc hn h.1).1 fun i o' τ' ho hτ=>by
   have:=ht (i+1) o' τ' ho hτ
   rwa [← Nat.add_assoc,Nat.add_right_comm] at this) (Nat.le_refl m)
theorem ZSp {m:Nat} {q:Fp}:∀ {bef:List Fp} {i0:Nat},chk1 m q bef i0=true→∀ i p,bef[i]? = some p→m.testBit (i0+i)=true∨p.free q=true
 | [],_,_,_,_,h=>by cases h
 | p0 :: r,i0,h,i,p,hp=>by
  simp only [chk1] at h
  cases i with
  | zero =>
   cases hp
   rw [Nat.add_zero]
   split at h
   ·rename_i e;exact .inl e
   ·split at h
    ·rename_i e;exact .inr e
    ·cases h
  | succ i =>
   have h':chk1 m q r (i0+1)=true:=by
    split at h
    ·exact h
    ·split at h
     ·exact h
     ·cases h
   have:=ZSp h' i p hp
   rwa [Nat.add_right_comm] at this
theorem Znm:∀ {qs:List Fp} {bef:List Fp} {ms:List Nat},ZGe bef ms qs=true→∀ j q,qs[j]? = some q→∃ m,ms[j]? = some m∧∀ i p,(bef++qs)[i]? = some p→i<bef.length+j→m.testBit i=true∨p.free q=true
 | [],_,_,_,_,_,h=>by cases h
 | q0 :: qs,bef,ms,h,j,q,hq=>by
  cases ms with
  | nil=>cases h
  | cons m0 ms =>
   simp only [ZGe] at h
   split at h
   ·rename_i h1
    cases j with
    | zero =>
     cases hq
     refine ⟨m0,rfl,fun i p hp hi=>?_⟩
     rw [List.getElem?_append_left (by omega)] at hp
     have:=ZSp h1 i p hp
     rwa [Nat.zero_add] at this
    | succ j =>
     obtain ⟨m,h2,h3⟩:=Znm h j q hq
     refine ⟨m,h2,fun i p hp hi=>h3 i p (by rw [List.append_assoc];exact hp) (by simp;omega)⟩
   ·cases h
theorem Z2k {done:List Nat} {t:Nat}:∀ {es:List Edge} {m:Nat},(Zzc done es m).testBit t=true→m.testBit t=true ∨ ∃ e ∈ es,Region.binds .any e=true∧(t=e.on∨(done.getD e.on 0).testBit t=true)
 | [],_,h=>.inl h
 | e :: r,m,h=>by
  simp only [Zzc] at h
  split at h
  ·rename_i hb
   rcases Z2k h with h | ⟨e',he,h1,h2⟩
   ·have h:((m ||| 2^e.on) ||| done.getD e.on 0).testBit t=true:=h
    rw [Nat.testBit_or,Nat.testBit_or,Nat.testBit_two_pow,Bool.or_eq_true,Bool.or_eq_true] at h
    rcases h with (h | h) | h
    ·exact .inl h
    ·exact .inr ⟨e,by simp,hb,.inl (by simpa using (of_decide_eq_true h).symm)⟩
    ·exact .inr ⟨e,by simp,hb,.inr h⟩
   ·exact .inr ⟨e',by simp [he],h1,h2⟩
  ·rcases Z2k h with h | ⟨e',he,h1,h2⟩
   ·exact .inl h
   ·exact .inr ⟨e',by simp [he],h1,h2⟩
theorem ZGs:∀ {os:List Oper} {done:List Nat} {j:Nat} {m:Nat},done[j]? = some m→(Z1a os done)[j]? = some m
 | [],_,_,_,h=>h
 | o :: os,done,j,m,h=>ZGs (os:=os) (by rw [List.getElem?_append_left (List.getElem?_eq_some_iff.1 h).1];exact h)
theorem ZUg {S:Nat→Prop}:∀ {os:List Oper} {done:List Nat},(∀ j o,os[j]? = some o→S (done.length+j)→∀ e ∈ o.after,Region.binds .any e=true→S e.on)→(∀ j m,done[j]? = some m→S j→∀ i,m.testBit i=true→S i) →
  ∀ j o m,os[j]? = some o→(Z1a os done)[done.length+j]? = some m→(∀ e ∈ o.after,Region.binds .any e=true→S e.on)→∀ i,m.testBit i=true→S i
 | [],_,_,_,_,_,_,h,_,_,_,_=>by cases h
 | o0 :: os,done,hc,hd,j,o,m,ho,hm,he,i,hi=>by
  have key:(∀ e ∈ o0.after,Region.binds .any e=true→S e.on)→∀ i,(Zzc done o0.after.toList 0).testBit i=true→S i:=fun he i hi=>by
   rcases Z2k hi with h | ⟨e,h1,h2,h3⟩
   ·simp at h
   ·have hS:=he e (by simpa using h1) h2
    rcases h3 with h3 | h3
    ·subst h3;exact hS
    ·cases hg:done[e.on]? with
     | none=>rw [List.getD_eq_getElem?_getD,hg] at h3;simp at h3
     | some x=>rw [List.getD_eq_getElem?_getD,hg] at h3;exact hd _ x hg hS i h3
  simp only [Z1a] at hm
  cases j with
  | zero =>
   cases ho
   rw [Nat.add_zero] at hm
   have:(Z1a os (done++[Zzc done o0.after.toList 0]))[done.length]? = some (Zzc done o0.after.toList 0):=ZGs (by simp)
   rw [this] at hm;cases hm
   exact key he i hi
  | succ j =>
   refine ZUg (os:=os) (done:=done++[Zzc done o0.after.toList 0]) (fun j' o' ho' hS=>hc (j'+1) o' ho' (by rw [List.length_append,List.length_singleton] at hS;rwa [← Nat.add_assoc,Nat.add_right_comm])) (fun j' m' hm' hS=>?_) j o m ho (by rw [List.length_append,List.length_singleton,Nat.add_right_comm];exact hm) he i hi
   rcases Nat.lt_or_ge j' done.length with h | h
   ·rw [List.getElem?_append_left h] at hm';exact hd j' m' hm' hS
   ·rw [List.getElem?_append_right h] at hm'
    cases hj:j'-done.length with
    | zero =>
     rw [hj] at hm';cases hm'
     refine key (hc 0 o0 rfl ?_)
     rwa [Nat.add_zero,show done.length=j' by omega]
    | succ k=>rw [hj] at hm';cases hm'
theorem Zrq:∀ {os:List Oper} {i0:Nat},Zue i0 os=true→∀ i o,os[i]? = some o→∀ e ∈ o.after,Region.binds .any e=true→e.on<i0+i
 | [],_,_,_,_,h,_,_,_=>by cases h
 | o0 :: os,i0,h,i,o,ho,e,he,hb=>by
  simp only [Zue] at h
  split at h
  ·rename_i h1
   cases i with
   | zero =>
    cases ho
    have:∀ {es:List Edge},ZKi i0 es=true→∀ e ∈ es,Region.binds .any e=true→e.on<i0:=by
     intro es
     induction es with
     | nil=>intro _ e h;cases h
     | cons x r ih =>
      intro h e he hb;simp only [ZKi] at h;split at h
      ·split at h
       ·rename_i hlt;rcases List.mem_cons.1 he with rfl | he
        ·exact Nat.le_of_ble_eq_true hlt
        ·exact ih h e he hb
       ·cases h
      ·rename_i hx;rcases List.mem_cons.1 he with rfl | he
       ·rw [hb] at hx;cases hx
       ·exact ih h e he hb
    exact this h1 e (by simpa using he) hb
   | succ i=>have:=Zrq h i o ho e he hb;omega
  ·cases h
section
variable {P:Program} {K:Nat} {w0:Base} {v0:Zb} {σ:List (Nat×Value)} {ℓ:List Loc} {v:Zb} {a:Act} {w:World} {ops:Array Oper} {Q:Exit→Act→World→Prop} {rest:List Oper}
end
end Go.Eng
namespace Go.Eng
open Go.RowKit
section
variable {N:Nat} {G:V→Value→Prop} {w0:Base} {v0:Zb}
theorem F2_perm {R:En LV→List Loc→Prop} {l l2:Lo} (hp:l.Perm l2):∀ {E:List (List Loc)},F2 R l E→∃ E2,F2 R l2 E2∧E.flatten.Perm E2.flatten:=by
 induction hp with
 | nil=>intro E h;exact ⟨E,h,List.Perm.refl _⟩
 | cons x _ ih =>
  intro E h
  cases E with
  | nil=>exact h.elim
  | cons es E =>
   obtain ⟨E2,h1,h2⟩:=ih h.2;exact ⟨es :: E2,⟨h.1,h1⟩,by simp only [List.flatten_cons];exact List.Perm.append_left _ h2⟩
 | swap x y l =>
  intro E h
  cases E with
  | nil=>exact h.elim
  | cons es E =>
   cases E with
   | nil=>exact h.2.elim
   | cons es2 E =>
    refine ⟨es2 :: es :: E,⟨h.2.1,h.1,h.2.2⟩,?_⟩;simp only [List.flatten_cons];rw [← List.append_assoc,← List.append_assoc];exact List.Perm.append_right _ List.perm_append_comm
 | trans _ _ i1 i2 =>
  intro E h;obtain ⟨E2,h1,h2⟩:=i1 h;obtain ⟨E3,h3,h4⟩:=i2 h1;exact ⟨E3,h3,h2.trans h4⟩
theorem Z0d {l:Lo} (hn:(l.map En.k).Nodup) {e:En LV} (h:e ∈ l):lkE l e.k=some e:=by
 induction l with
 | nil=>cases h
 | cons p r ih =>
  simp only [List.map_cons,List.nodup_cons] at hn;rw [ZT];rcases List.mem_cons.1 h with rfl | h
  ·rw [if_pos rfl]
  ·rw [if_neg fun e2=>hn.1 (List.mem_map.2 ⟨e,h,Eq.symm e2⟩)];exact ih hn.2 h
theorem ZXs {l:Lo} (hn:(l.map En.k).Nodup):l.Nodup:=by
 induction l with
 | nil=>exact List.nodup_nil
 | cons p r ih =>
  simp only [List.map_cons,List.nodup_cons] at hn;exact List.nodup_cons.2 ⟨fun h=>hn.1 (List.mem_map.2 ⟨p,h,rfl⟩),ih hn.2⟩
theorem Z4A {l l2:Lo} (hn:(l.map En.k).Nodup) (hn2:(l2.map En.k).Nodup) (h:∀ u,lkE l u=lkE l2 u):l.Perm l2:=by
 refine (List.perm_ext_iff_of_nodup (ZXs hn) (ZXs hn2)).2 fun e=>⟨fun he=>?_,fun he=>?_⟩
 ·have:=Z0d hn he;rw [h] at this;exact (Zr this).1
 ·have:=Z0d hn2 he;rw [← h] at this;exact (Zr this).1
theorem RelX.look {U X:Nat→Prop} {f f2:Fr} {l l2:Lo} {a:Act} {w:World} {γ:Nat→Gh} {v:Zb} {ℓ:List Loc} (h:RelX N G w0 v0 U X f l a w γ v ℓ) (hn2:(l2.map En.k).Nodup) (hf:∀ t,lkE f2 t=lkE f t) (hl:∀ u,lkE l2 u=lkE l u):RelX N G w0 v0 U X f2 l2 a w γ v ℓ:=by
 obtain ⟨E,hE,hp⟩:=h.lr;have hle:Le U v γ l v γ l2:=by
  have:=Le.refl (U:=U) hE (Zb.le_refl v);exact ⟨Zb.le_refl _,fun u e' hk he=>this.l u e' hk (by rw [← hl];exact he)⟩
 have hpl:=Z4A h.nd hn2 fun u=>(hl u).symm;obtain ⟨E2,h1,h2⟩:=F2_perm hpl hE;refine ⟨h.st,fun t e he=>?_,⟨E2,h1.imp fun e he es hr=>?_,hp.trans h2⟩,hn2,fun t e he=>h.uf t e ((hf t) ▸ he),fun e he=>h.ul e (hpl.mem_iff.2 he),fun x y hg=>⟨Zwb hle (h.gh x y hg).2 (h.gh x y hg).1,(h.gh x y hg).2⟩⟩
 ·have he':=(hf t) ▸ he;exact Zwb hle (h.uf t e he').1 (h.fr t e he')
 ·exact Zgi hle (h.ul e (hpl.mem_iff.2 he)).2.2 rfl hr
end
end Go.Eng
namespace Go.Eng
open Go.RowKit
section
variable {N:Nat} {G:V→Value→Prop} {w0:Base} {v0:Zb}
theorem Rel.draw {U:Nat→Prop} {f:Fr} {l:Lo} {a:Act} {w:World} (h:Rel N G w0 v0 U f l a w):Rel N G w0 v0 U f l a w.drew:=by
 obtain ⟨γ,v,ℓ,h⟩:=h;exact ⟨γ,v,ℓ,h.st.drew,h.fr,h.lr,h.nd,h.uf,h.ul,h.gh⟩
def sel (listed:Array Bool):Nat→Bool:=fun j=>listed.getD j false
def UE (n:Nat) (listed:Array Bool):Nat→Prop:=fun k=>k<n ∨ ∃ j,listed.getD j false=true∧k=n+j
structure Inv (N:Nat) (G:V→Value→Prop) (w0:Base) (v0:Zb) (ops:Array Oper) (Ts:List (List Et)) (f:Fr) (l:Lo) (n:Nat) (listed:Array Bool) (a:Act) (w:World):Prop where
 size:listed.size=ops.size
 closed:∀ (j:Nat) (o:Oper),ops[j]? = some o→listed.getD j false=true→∀ e ∈ o.after,Region.binds .any e=true→listed.getD e.on false=true
 rel:∃ f1 l1,Rel N G w0 v0 (UE n listed) f1 l1 a w∧(∀ t,lkE f1 t=Zxa Zfb (sel listed) Ts 0 (lkE f t) t)∧∀ t,lkE l1 t=Zxa Zqa (sel listed) Ts 0 (lkE l t) t
theorem ZQk {ops:Array Oper} (hb:Zue 0 ops.toList=true) {listed:Array Bool} (hs:listed.size=ops.size):∀ (n j:Nat),j<n→j<ops.size→listed.getD j true=false→Region.ready .any ops listed≠[]
 | 0,j,h,_,_=>by omega
 | n+1,j,h,hj,hl=>by
  intro h0
  by_cases hp:∃ e ∈ (ops[j]).after,Region.binds .any e=true∧listed.getD e.on false=false
  ·obtain ⟨e,he,hbb,hn⟩:=hp
   have hlt:=Zrq hb j ops[j] (by simp [hj]) e he hbb
   refine ZQk hb hs n e.on (by omega) (by omega) ?_ h0
   rw [ZMb (by omega)];exact hn
  ·have:j ∈ Region.ready .any ops listed:=mem_ready.2 ⟨hl,ops[j],by simp [hj],fun e he hb=>by
    cases hx:listed.getD e.on false with
    | true=>rfl
    | false=>exact absurd ⟨e,he,hb,hx⟩ hp⟩
   rw [h0] at this;cases this
theorem Zny {C:Cf} (hC:CfOK C) {ops:Array Oper} {Ts:List (List Et)} {f:Fr} {l:Lo} {n:Nat} {Q:Exit→Act→World→Prop} (hb:Zue 0 ops.toList=true) (hds:∀ o ∈ ops.toList,∀ k,o.dst=some k→k<N) (hl:Ts.length=ops.toList.length)
  (hn:(l.map En.k).Nodup) (hok:okTs Ts f l) (htr:∀ i o τ,ops.toList[i]? = some o→Ts[i]? = some τ→Tr (n+i) (gop C ops.toList (n+i) o) τ ()) (hch:ZGe [] (Z1a ops.toList []) (Ts.map fun τ=>fpT τ Fp.no)=true)
  (hQ:∀ a' w',Rel N G w0 v0 (· < n+ops.toList.length) (ZMe Ts f) (Z6d Ts l) a' w'→Q .normal a' w'):∀ (fuel:Nat) (listed:Array Bool) (a:Act) (w:World),left listed=fuel→Inv N G w0 v0 ops Ts f l n listed a w→wpAny C.P .any ops Q fuel listed a w:=by
 have ord:∀ (i j:Nat) (τ σ:List Et),i<j→Ts[i]? = some τ→Ts[j]? = some σ→∃ m,(Z1a ops.toList [])[j]? = some m∧(m.testBit i=true∨Apart τ σ):=by
  intro i j τ σ hij hτ hσ;obtain ⟨m,h1,h2⟩:=Znm hch j (fpT σ Fp.no) (by simp [hσ]);refine ⟨m,h1,(h2 i (fpT τ Fp.no) (by simp [hτ]) (by simpa using hij)).imp_right ZHq⟩
 have opAt:∀ (j:Nat) (σ:List Et),Ts[j]? = some σ→∃ o,ops[j]? = some o:=fun j σ h=>by
  have:=(List.getElem?_eq_some_iff.1 h).1;rw [hl] at this;exact ⟨ops[j]'(by simpa using this),by simp⟩
 intro fuel
 induction fuel with
 | zero =>
  intro listed a w hfu hI;have hall:∀ j,listed.getD j true=true:=fun j=>Zbn hfu;refine ⟨?_,?_⟩
  ·cases hx:Region.ready .any ops listed with
   | nil=>rfl
   | cons p r =>
    obtain ⟨h1,_⟩:=mem_ready.1 (show p ∈ Region.ready .any ops listed by rw [hx];simp);rw [hall p] at h1;cases h1
  ·obtain ⟨f1,l1,⟨γ,v,ℓ,h1⟩,h2,h3⟩:=hI.rel;obtain ⟨k1,k2,k3⟩:=Z9o (b:=0) hok hn;have hsel:∀ (j:Nat) (σ:List Et),Ts[j]? = some σ→sel listed (0+j)=true:=fun j σ h=>by
    obtain ⟨o,ho⟩:=opAt j σ h;rw [Nat.zero_add];show listed.getD j false=true;rw [← ZMb (by rw [hI.size];exact Zae ho)];exact hall j
   refine hQ a w ⟨γ,v,ℓ,(h1.look k1 (fun t=>?_) fun t=>?_).mono (fun k hk=>?_) fun k hk=>?_⟩
   ·rw [k2 t,h2 t];exact (Zze fun j σ hj _=>(hsel j σ hj)).symm
   ·rw [k3 t,h3 t];exact (Zze fun j σ hj _=>(hsel j σ hj)).symm
   all_goals
    rcases hk with hk | ⟨j,hj,rfl⟩
    ·omega
    ·have:j<listed.size:=by
      rcases Nat.lt_or_ge j listed.size with h | h
      ·exact h
      ·simp [Array.getElem?_eq_none h] at hj
     rw [hI.size] at this;simp;omega
 | succ fuel ih =>
  intro listed a w hfu hI;refine ⟨fun h0=>?_,fun i hi=>?_⟩
  ·obtain ⟨j,hj,hj2⟩:=Z4m (listed:=listed) (by omega);exact absurd h0 (ZQk hb hI.size (j+1) j (by omega) (by rw [← hI.size];exact hj) hj2)
  ·obtain ⟨hun,o,ho,hall⟩:=mem_ready.1 hi;have hil:i<listed.size:=by rw [hI.size];exact Zae ho
   have hunf:listed.getD i false=false:=by rw [← ZMb hil];exact hun
   have ho':ops.toList[i]? = some o:=by rw [Array.getElem?_toList];exact ho
   have hlt:i<Ts.length:=by rw [hl];exact (List.getElem?_eq_some_iff.1 ho').1
   have hτ:Ts[i]? = some Ts[i]:=List.getElem?_eq_getElem hlt;generalize hg:Ts[i]=τ at hτ;obtain ⟨fi,li,b1,b2,b3,b4⟩:=ZJm (b:=0) hok hn hτ;obtain ⟨f1,l1,⟨γ,v,ℓ,h1⟩,h2,h3⟩:=hI.rel;have befo:∀ (j:Nat) (σ:List Et),j<i→Ts[j]? = some σ→listed.getD j false=true∨Apart σ τ:=by
    intro j σ hj hσ;obtain ⟨m,q1,q2⟩:=ord j i σ τ hj hσ hτ;refine q2.imp_left fun hbit=>?_;refine ZUg (S:=fun k=>listed.getD k false=true) (done:=[]) (fun j' o' ho' hS=>hI.closed j' o' (by rw [← Array.getElem?_toList];exact ho') (by simpa using hS)) (fun j' m' hm'=>by simp at hm') i o m ho' (by simpa using q1) hall j hbit
   have afte:∀ (j:Nat) (σ:List Et),i<j→Ts[j]? = some σ→listed.getD j false=false∨Apart τ σ:=by
    intro j σ hj hσ;obtain ⟨m,q1,q2⟩:=ord i j τ σ hj hτ hσ;refine q2.imp_left fun hbit=>?_
    cases hx:listed.getD j false with
    | false=>rfl
    | true =>
     obtain ⟨oj,hoj⟩:=opAt j σ hσ;have:=ZUg (S:=fun k=>listed.getD k false=true) (done:=[]) (fun j' o' ho' hS=>hI.closed j' o' (by rw [← Array.getElem?_toList];exact ho') (by simpa using hS)) (fun j' m' hm'=>by simp at hm') j oj m (by rw [Array.getElem?_toList];exact hoj) (by simpa using q1) (hI.closed j oj hoj hx) i hbit;rw [hunf] at this;cases this
   have same:∀ {β:Type} (eff:List Et→Nat→Option β) (P:Nat→Prop) (acc:β) (t:Nat),P t→(∀ σ,Apart σ τ→P t→eff σ t≠none→False)→(∀ σ,Apart τ σ→P t→eff σ t≠none→False)→Zxa eff (fun j=>decide (j<0+i)) Ts 0 acc t=Zxa eff (sel listed) Ts 0 acc t:=by
    intro β eff P acc t hP hA hB;refine Zze fun j σ hj hne=>?_;simp only [Nat.zero_add];rcases Nat.lt_trichotomy j i with h | h | h
    ·rcases befo j σ h hj with q | q
     ·rw [decide_eq_true h];exact q.symm
     ·exact (hA σ q hP hne).elim
    ·subst h;rw [decide_eq_false (Nat.lt_irrefl _)];exact hunf.symm
    ·rcases afte j σ h hj with q | q
     ·rw [decide_eq_false (by omega)];exact q.symm
     ·exact (hB σ q hP hne).elim
   have okτ:okT τ f1 l1:=by
    refine ZLe b2 h1.nd b1 (fun t ht=>?_) fun t ht=>?_
    ·rw [b3 t,h2 t];exact same Zfb (rdS τ) _ t ht (fun σ q hp hne=>q.s1 t hne hp) fun σ q hp hne=>q.s3 t hp hne
    ·rw [b4 t,h3 t];exact same Zqa (rdL τ) _ t ht (fun σ q hp hne=>q.l1 t hne hp) fun σ q hp hne=>q.l3 t hp hne
   have hruns:=Zqm (htr i o τ ho' hτ) okτ;have hnU:¬ UE n listed (n+i):=by
    rintro (h | ⟨j,hj,e⟩)
    ·omega
    ·have:i=j:=by omega
     subst this;rw [hunf] at hj;cases hj
   have selS:∀ j,sel (listed.setIfInBounds i true) j=if i=j then true else sel listed j:=fun j=>by
    by_cases h:i=j
    ·subst h;rw [if_pos rfl];exact ZGb hil
    ·rw [if_neg h];exact ZSa h
   have hUE:∀ k,UE n listed k→UE n (listed.setIfInBounds i true) k:=by
    rintro k (h | ⟨j,hj,e⟩)
    ·exact .inl h
    ·refine .inr ⟨j,?_,e⟩;have:=selS j;unfold sel at this;rw [this,hj];split <;> rfl
   have hXi:UE n (listed.setIfInBounds i true) (n+i):=.inr ⟨i,ZGb hil,rfl⟩;have hgg:=ZBn (X:=UE n (listed.setIfInBounds i true)) hC (h1.mono (fun _ h=>h) hUE) hUE hXi hnU hds (hds o (List.mem_of_getElem? ho')) hruns;have upd:∀ {β:Type} (eff:List Et→Nat→Option β) (acc:β) (t:Nat),(∀ σ,Apart τ σ→eff τ t≠none→eff σ t≠none→False)→Zxa eff (sel (listed.setIfInBounds i true)) Ts 0 acc t=(eff τ t).getD (Zxa eff (sel listed) Ts 0 acc t):=by
    intro β eff acc t hA
    cases he:eff τ t with
    | none =>
     refine Zze fun j σ hj hne=>?_;rw [Nat.zero_add,selS j,if_neg];intro e;subst e;rw [hτ] at hj;cases hj;exact hne he
    | some z =>
     refine ZMn (k:=i) hτ (by rw [Nat.zero_add,selS i,if_pos rfl]) he fun j σ hij hσ hs=>?_;rw [Nat.zero_add,selS j,if_neg (by omega)] at hs;rcases afte j σ hij hσ with q | q
     ·rw [show sel listed j=false from q] at hs;cases hs
     ·cases hx:eff σ t with
      | none=>rfl
      | some y=>exact (hA σ q (by rw [he];exact fun e=>by cases e) (by rw [hx];exact fun e=>by cases e)).elim
   have nxt:∀ f' l' a' w',((()=()∧f'=Zac τ f1∧l'=Z7b τ l1)∧True)→Rel N G w0 v0 (UE n (listed.setIfInBounds i true)) f' l' a' w'→wpAny C.P .any ops Q fuel (listed.setIfInBounds i true) a' w':=by
    rintro f' l' a' w' ⟨⟨_,rfl,rfl⟩,_⟩ hr;refine ih _ _ _ (by have:=ZTi hun;omega) ⟨by simp [hI.size],fun j oj hj hlj e he hbb=>?_,_,_,hr,fun t=>?_,fun t=>?_⟩
    ·have hj2:=selS e.on;have hj3:=selS j;unfold sel at hj2 hj3;rw [hj2];split
     ·rfl
     ·rw [hj3] at hlj;split at hlj
      ·rename_i hij;subst hij;rw [ho] at hj;cases hj;exact hall e he hbb
      ·exact hI.closed j oj hj hlj e he hbb
    ·rw [Zmd okτ,h2 t];exact (upd Zfb _ t fun σ q hp hne=>q.s2 t hp hne).symm
    ·rw [(ZEc h1.nd okτ).2 t,h3 t];exact (upd Zqa _ t fun σ q hp hne=>q.l2 t hp hne).symm
   unfold wpOp;rw [ho];rcases hgg with ⟨hw,hg⟩ | ⟨hw,f',l',q1,q2⟩
   ·simp only [hw,if_true];exact .inl (Zel rfl hg fun x w' ⟨f',l',q1,q2⟩=>nxt f' l' _ w' ⟨⟨rfl,q1.2⟩,trivial⟩ q2)
   ·simp only [hw];exact nxt f' l' _ w ⟨⟨rfl,q1.2⟩,trivial⟩ q2
end
end Go.Eng
