/- Lemmas towards the statement: the engine of the walks, the functions' models, laws and walks, part 5. Conditions: as each states. -/
import Derived.Lib.Bytealg
import Derived.Test.YtfplgmfefadhdaaGreatClD
set_option linter.all false
set_option maxRecDepth 100000
namespace Go.Eng
open Tb
variable {m n:Nat} {A:Mx} {B C:Nat→Rat} {T:Tb}
set_option maxRecDepth 100000 in
theorem Zty {K:Nat} (hz:∀ i,i<m→sz K (B i)) (hm:m≤1000) (hK:K≤137438953472):∃ e:Int,Zg (σ:=Int×Int) (ρ:=Int) (fun s2 =>
   ifb (decide (s2.2<((vx m B).length:Int)))
   (bnd (idx (vx m B) s2.2) fun y3 =>
    bnd (α:=Bool)
    (bnd (Z8 y3) fun y4 =>
     ifb (decide (y4<(0:Int)))
     (ifb (decide (s2.1<(0:Int)))
      (some true)
      (bnd (idx (vx m B) s2.1) fun y5 =>
       bnd (ZKc y3 y5) fun y6 =>
       some (decide (y6<(0:Int)))))
     (some false)) fun x7 =>
    bnd (α:=Int)
    (ifb x7
     (some s2.2)
     (some s2.1)) fun x8 =>
    bnd (chk .i64 (s2.2+(1:Int))) fun y9 =>
    some (.inl (x8,y9)))
   (some (.inr s2.1)))
  Zi ((-1:Int),(0:Int))=some e∧(e = -1∧(∀ i,i<m→¬ B i<0) ∨ ∃ w:Nat,e=(w:Int)∧w<m∧B w<0∧∀ i,i<m→B i<0→B w≤B i):=by
  suffices h:∃ z,bnd (Zg _ Zi ((-1:Int),(0:Int))) (fun e=>some e)=some z∧(z = -1∧(∀ i,i<m→¬ B i<0) ∨ ∃ w:Nat,z=(w:Int)∧w<m∧B w<0∧∀ i,i<m→B i<0→B w≤B i) by
    obtain ⟨z,h1,h2⟩:=h;obtain ⟨y,h3,h4⟩:=Zpa h1
    cases h4
    exact ⟨_,h3,h2⟩
  refine ZAf (fun k s=>∃ e,s=(e,(k:Int))∧(e = -1∧(∀ j,j<k→¬ B j<0) ∨ ∃ w:Nat,e=(w:Int)∧w<k∧B w<0∧∀ j,j<k→B j<0→B w≤B j)) (fun e=>e = -1∧(∀ i,i<m→¬ B i<0) ∨ ∃ w:Nat,e=(w:Int)∧w<m∧B w<0∧∀ i,i<m→B i<0→B w≤B i) m ⟨-1,rfl,.inl ⟨rfl,fun j hj=>by omega⟩⟩ (by omega) (fun k s hk hI=>?_) (fun e he=>⟨_,rfl,he⟩);obtain ⟨e,rfl,hI⟩:=hI;by_cases hlt:k<m
  · left;simp only;rw [Zj,decide_eq_true (by omega),Zd,Zm _ hlt,Za];unfold Z8;rw [Za];have fin:∀ {X:Option Bool} {b:Bool} ,X=some b→(bnd (α:=Bool) X fun x7=>bnd (α:=Int) (ifb x7 (some (k:Int)) (some e)) fun x8=>bnd (chk .i64 ((k:Int)+(1:Int))) fun y9=>(some (.inl (x8,y9)):Option ((Int×Int) ⊕ Int)))=some (.inl (if b then (k:Int) else e,((k+1:Nat):Int))):=fun {X b} h=>by
      rw [h,Za]
      cases b
      · rw [Ze,Za,Zk (by omega) (by omega),Za];rfl
      · rw [Zd,Za,Zk (by omega) (by omega),Za];rfl
    by_cases hp:B k<0
    · rw [decide_eq_true ((ZXa _).2 hp),Zd];rcases hI with ⟨rfl,hno⟩ | ⟨w,rfl,hw,hb,hle⟩
      · refine ⟨_,hlt,fin (b:=true) (by rfl),_,rfl,.inr ⟨k,rfl,by omega,hp,fun j hj hj0=>?_⟩⟩;by_cases e2:j=k
        · rw [e2];exact Rat.le_refl
        · exact absurd hj0 (hno j (by omega))
      · rw [decide_eq_false (show ¬ (w:Int)<0 by omega),Ze,Zm _ (by omega),Za,ZTh (hz k hlt) (hz w (by omega)) (by omega) (by omega),Za];refine ⟨_,hlt,fin rfl,_,rfl,.inr ?_⟩;by_cases hc:B k<B w
        · rw [decide_eq_true ((ZXa _).2 (by grind)),if_pos rfl];refine ⟨k,rfl,by omega,hp,fun j hj hj0=>?_⟩;by_cases e2:j=k
          · rw [e2];exact Rat.le_refl
          · have:=hle j (by omega) hj0;grind
        · rw [decide_eq_false (fun h=>hc (by have:=(ZXa _).1 h;grind)),if_neg (by decide)];refine ⟨w,rfl,by omega,hb,fun j hj hj0=>?_⟩;by_cases e2:j=k
          · rw [e2];grind
          · exact hle j (by omega) hj0
    · rw [decide_eq_false (fun h=>hp ((ZXa _).1 h)),Ze];refine ⟨_,hlt,fin rfl,_,rfl,?_⟩;rw [if_neg (by decide)];rcases hI with ⟨rfl,hno⟩ | ⟨w,rfl,hw,hb,hle⟩
      · refine .inl ⟨rfl,fun j hj=>?_⟩;by_cases e2:j=k
        · rw [e2];exact hp
        · exact hno j (by omega)
      · refine .inr ⟨w,rfl,by omega,hb,fun j hj hj0=>?_⟩;by_cases e2:j=k
        · rw [e2] at hj0;exact absurd hj0 hp
        · exact hle j (by omega) hj0
  · right;have:k=m:=by omega
    subst this;exact ⟨e,by simp only;rw [Zj,decide_eq_false (by omega),Ze],hI⟩
theorem ZKw (hm:m≤1000) (hn:n≤1000):Zg (σ:=Int×(List (List Rat))) (ρ:=List (List Rat)) (fun s11 =>
    ifb (decide (s11.1<((mx m n A).length:Int)))
    (bnd (idx s11.2 s11.1) fun y12 =>
     bnd (ZJa (-1:Int)) fun y13 =>
     bnd (ZC 56 (y12++[y13])) fun _ =>
     bnd (idx s11.2 s11.1) fun y14 =>
     bnd (eqN s11.1.toNat s11.1.toNat) fun _ =>
     bnd (chk .i64 (s11.1+(1:Int))) fun y15 =>
     some (.inl (y15,s11.2.set s11.1.toNat (y12++[y13]))))
    (some (.inr s11.2)))
   Zi ((0:Int),mx m n A)=some (mx m (n+1) (st1 m n A B).a):=by
  refine ZH (fun k=>((k:Int),vx m fun i=>if i<k then vx (n+1) ((st1 m n A B).a i) else vx n (A i))) m ?_ (by omega) (fun k hk=>?_) ?_
  · exact Prod.ext rfl (Zy fun i hi=>if_neg (by omega))
  · simp only;rw [Zwa,decide_eq_true (by omega),Zd,Zm _ hk,Za,if_neg (by omega),Z1b,Za];have e:vx n (A k)++[((-1:Int):Rat)]=vx (n+1) ((st1 m n A B).a k):=by
      rw [← Z5a];refine congr (congrArg _ (Zy fun j hj=>?_)) (congrArg (fun x=>[x]) ?_)
      · show A k j=if j<n then A k j else -1;rw [if_pos hj]
      · show _=if n<n then A k n else -1;rw [if_neg (by omega)];rfl
    rw [e,Zea (by rw [Zj];omega),Za,Za,ZOs,Za,Zk (by omega) (by omega),Za];simp only [Int.toNat_natCast];rw [ZCa];refine congrArg (fun x=>some (Sum.inl x)) (Prod.ext (by simp) (Zy fun i hi=>?_));by_cases e2:i=k
    · rw [if_pos e2,if_pos (by omega),e2]
    · rw [if_neg e2];by_cases e3:i<k
      · rw [if_pos e3,if_pos (by omega)]
      · rw [if_neg e3,if_neg (by omega)]
  · simp only;rw [Zwa,decide_eq_false (by omega),Ze];exact congrArg (fun x=>some (Sum.inr x)) (Zy fun i hi=>if_pos hi)
theorem ZpB {c:Nat} {M:Mx} (hm:m≤1000) (hn:n≤1000) (hc:c<n+1):Zg (σ:=Int×(List (List Rat))) (ρ:=List (List Rat)) (fun s51 =>
     ifb (decide (s51.1<((mx m (n+1) M).length:Int)))
     (bnd (idx s51.2 s51.1) fun y52 =>
      bnd (chk .i64 ((c:Int)+(1:Int))) fun y53 =>
      bnd (Zqd y52 (c:Int) y53) fun y54 =>
      bnd (idx s51.2 s51.1) fun y55 =>
      bnd (eqN s51.1.toNat s51.1.toNat) fun _ =>
      bnd (chk .i64 (s51.1+(1:Int))) fun y56 =>
      some (.inl (y56,s51.2.set s51.1.toNat y54)))
     (some (.inr s51.2)))
    Zi ((0:Int),mx m (n+1) M)=some (mx m n fun i k=>M i (sk c k)):=by
  refine ZH (fun k=>((k:Int),vx m fun i=>if i<k then vx n (fun j=>M i (sk c j)) else vx (n+1) (M i))) m ?_ (by omega) (fun k hk=>?_) ?_
  · exact Prod.ext rfl (Zy fun i hi=>if_neg (by omega))
  · simp only;rw [Zwa,decide_eq_true (by omega),Zd,Zm _ hk,Za,if_neg (by omega),Zk (by omega) (by omega),Za];have:=ZBs (M k) hc;rw [show (c:Int)+1=((c+1:Nat):Int) by omega,this,Za,Za,ZOs,Za,Zk (by omega) (by omega),Za];simp only [Int.toNat_natCast];rw [ZCa];refine congrArg (fun x=>some (Sum.inl x)) (Prod.ext (by simp) (Zy fun i hi=>?_));by_cases e2:i=k
    · rw [if_pos e2,if_pos (by omega),e2]
    · rw [if_neg e2];by_cases e3:i<k
      · rw [if_pos e3,if_pos (by omega)]
      · rw [if_neg e3,if_neg (by omega)]
  · simp only;rw [Zwa,decide_eq_false (by omega),Ze];exact congrArg (fun x=>some (Sum.inr x)) (Zy fun i hi=>if_pos hi)
def Zib (m:Nat) (C:Nat→Rat) (D:Tb) (k:Nat):Tb:={ D with z:=fun f=>sm k (fun j=>C j*cfv m D j f),v:=sm k (fun j=>C j*ZX m D j) }
theorem cfv_sz {D:Tb} {N W:Nat} (h:D.arr m n N) (ha:∀ i k,i<m→k<n→sz W (D.a i k)) (hW:1≤W) {u f:Nat} (hu:u<N) (hf:f<n):sz W (cfv m D u f):=by
 unfold cfv;rcases h.cov u hu with ⟨i,hi,rfl⟩ | ⟨k,hk,rfl⟩
 ·rw [if_neg fun e=>h.d i f hi hf e.symm,ZRa hi fun j hj hne=>if_neg fun e=>hne (h.bi j i hj hi e),if_pos rfl];have:(0:Rat)-D.a i f = - D.a i f:=by grind
  rw [this];exact ZTc (ha i f hi hf)
 ·rw [Zia (f:=fun i=>if D.bs i=D.fr k then D.a i f else 0) fun i hi=>if_neg (h.d i k hi hk)];split
  ·rw [show (1:Rat)-0=1 by grind];exact ZPf.mono hW
  ·rw [show (0:Rat)-0=0 by grind];exact Zpb.mono hW
set_option maxRecDepth 100000 in
theorem objs_ok {D:Tb} {K W:Nat} (h:D.arr m n (n+m)) (ha:∀ i k,i<m→k<n→sz W (D.a i k)) (hb:∀ i,i<m→sz W (D.b i)) (hC:∀ k,k<n→sz K (C k)) (hW:1≤W) (hK1:1≤K) (hm:m≤1000) (hn:n≤1000) (hS:(n+1)*(K+W+2)≤137438953472) :
   Zg (σ:=Int×((List (List Rat))×(List Rat)×(List Rat)×Rat×(List Int)×(List Int))) (ρ:=(List (List Rat))×(List Rat)×(List Rat)×Rat×(List Int)×(List Int)) (fun s61 =>
     ifb (decide (s61.1<((vx n C).length:Int)))
     (bnd (α:=(List (List Rat))×(List Rat)×(List Rat)×Rat×(List Int)×(List Int))
      (bnd (idx (vx n C) s61.1) fun y62 =>
       bnd (α:=Int)
       (bnd (Zg (σ:=Int) (ρ:=Unit ⊕ Int) (fun s63 =>
          ifb (decide (s63<(s61.2.2.2.2.2.2.length:Int)))
          (bnd (idx s61.2.2.2.2.2.2 s63) fun y64 =>
           ifb (s61.1==y64)
           (some (.inr (.inr s63)))
           (bnd (chk .i64 (s63+(1:Int))) fun y65 =>
            some (.inl y65)))
          (some (.inr (.inl ()))))
         Zi (0:Int)) fun x66 =>
        match x66 with
        | .inl r67=>(some (-1:Int))
        | .inr r68=>(some r68)) fun x69 =>
       ifb (decide ((0:Int)≤x69))
       (bnd (idx s61.2.2.2.1 x69) fun y70 =>
        bnd (Zzb y70 y62) fun y71 =>
        bnd (idx s61.2.2.2.1 x69) fun y72 =>
        some (s61.2.1,s61.2.2.1,s61.2.2.2.1.set x69.toNat y71,s61.2.2.2.2.1,s61.2.2.2.2.2.1,s61.2.2.2.2.2.2))
       (bnd (α:=Int)
        (bnd (Zg (σ:=Int) (ρ:=Unit ⊕ Int) (fun s73 =>
           ifb (decide (s73<(s61.2.2.2.2.2.1.length:Int)))
           (bnd (idx s61.2.2.2.2.2.1 s73) fun y74 =>
            ifb (s61.1==y74)
            (some (.inr (.inr s73)))
            (bnd (chk .i64 (s73+(1:Int))) fun y75 =>
             some (.inl y75)))
           (some (.inr (.inl ()))))
          Zi (0:Int)) fun x76 =>
         match x76 with
         | .inl r77=>(some (-1:Int))
         | .inr r78=>(some r78)) fun x79 =>
        bnd (idx s61.2.2.1 x79) fun y80 =>
        bnd (ZWa y62 y80) fun y81 =>
        bnd (Zzb s61.2.2.2.2.1 y81) fun y82 =>
        bnd (idx s61.2.1 x79) fun y83 =>
        bnd (Zg (σ:=Int×(List Rat)) (ρ:=List Rat) (fun s84 =>
          ifb (decide (s84.1<(y83.length:Int)))
          (bnd (idx y83 s84.1) fun y85 =>
           bnd (idx s84.2 s84.1) fun y86 =>
           bnd (ZWa y62 y85) fun y87 =>
           bnd (Zrb y86 y87) fun y88 =>
           bnd (idx s84.2 s84.1) fun y89 =>
           bnd (chk .i64 (s84.1+(1:Int))) fun y90 =>
           some (.inl (y90,s84.2.set s84.1.toNat y88)))
          (some (.inr s84.2)))
         Zi ((0:Int),s61.2.2.2.1)) fun x91 =>
        some (s61.2.1,s61.2.2.1,x91,y82,s61.2.2.2.2.2.1,s61.2.2.2.2.2.2))) fun x92 =>
      bnd (chk .i64 (s61.1+(1:Int))) fun y93 =>
      some (.inl (y93,x92.1,x92.2.1,x92.2.2.1,x92.2.2.2.1,x92.2.2.2.2.1,x92.2.2.2.2.2)))
     (some (.inr (s61.2.1,s61.2.2.1,s61.2.2.2.1,s61.2.2.2.2.1,s61.2.2.2.2.2.1,s61.2.2.2.2.2.2))))
    Zi ((0:Int),tbl m n (Zib m C D 0))=some (tbl m n (Zib m C D n)):=by
  have zS:∀ k f,k≤n→f<n→sz ((n+1)*(K+W+2)) ((Zib m C D k).z f):=fun k f hk hf=>by
    have:=smz (k:=K+W) (f:=fun j=>C j*cfv m D j f) (n:=k) fun j hj=>ZPa (hC j (by omega)) (cfv_sz h ha hW (by omega) hf);refine this.mono ?_;have:=Nat.mul_le_mul (show k+1≤n+1 by omega) (show K+W+1≤K+W+2 by omega);rw [Nat.add_mul,Nat.one_mul] at this;omega
  have vS:∀ k,k≤n→sz ((n+1)*(K+W+2)) ((Zib m C D k).v):=fun k hk=>by
    have hv:∀ u,u<n+m→sz W (ZX m D u):=fun u hu=>by
      rcases h.cov u hu with ⟨i,hi,rfl⟩ | ⟨q,hq,rfl⟩
      · rw [Zkg h hi];exact hb i hi
      · rw [ZVd h hq];exact Zpb.mono hW
    have:=smz (k:=K+W) (f:=fun j=>C j*ZX m D j) (n:=k) fun j hj=>ZPa (hC j (by omega)) (hv j (by omega));refine this.mono ?_;have:=Nat.mul_le_mul (show k+1≤n+1 by omega) (show K+W+1≤K+W+2 by omega);rw [Nat.add_mul,Nat.one_mul] at this;omega
  have hKW:K+W+2≤137438953472:=Nat.le_trans (Nat.le_mul_of_pos_left _ (by omega)) hS;refine ZH (fun k=>((k:Int),tbl m n (Zib m C D k))) n rfl (by omega) (fun k hk=>?_) ?_
  · show ifb (decide ((k:Int)<((vx n C).length:Int))) _ _=_;rw [Zj,decide_eq_true (by omega),Zd];refine Zo (y:=tbl m n (Zib m C D (k+1))) ?_ (by rw [Zk (by omega) (by omega),Za];rfl);rw [Zm _ hk,Za];obtain ⟨e,g1,g2⟩:=Z9e (body:=fun s63 =>
          ifb (decide (s63<((vx n fun f=>(D.fr f:Int)).length:Int)))
          (bnd (idx (vx n fun f=>(D.fr f:Int)) s63) fun y64 =>
           ifb ((k:Int)==y64)
           (some (.inr (.inr s63)))
           (bnd (chk .i64 (s63+(1:Int))) fun y65 =>
            some (.inl y65)))
          (some (.inr (.inl ())))) n hn (fun f=>D.fr f=k) (fun f hf=>by
            rw [Zj,decide_eq_true (by omega),Zd,Zm _ hf,Za];by_cases e:D.fr f=k
            · exact .inl ⟨e,by rw [show ((k:Int)==(D.fr f:Int))=true by simp [e],Zd]⟩
            · exact .inr ⟨e,by rw [show ((k:Int)==(D.fr f:Int))=false by simp;omega,Ze,Zk (by omega) (by omega),Za];rfl⟩) (by rw [Zj,decide_eq_false (by omega),Ze])
    refine Zo g1 ?_;rcases g2 with ⟨rfl,g2⟩ | ⟨f,hf,rfl,g2⟩
    · rw [show (decide ((0:Int)≤-1))=false from rfl,Ze];obtain ⟨r,hr,hrk⟩:∃ r,r<m∧D.bs r=k:=by
        rcases h.cov k (by omega) with h1 | ⟨f,hf,e⟩
        · exact h1
        · exact absurd e (g2 f hf)
      obtain ⟨e,g3,g4⟩:=Z9e (body:=fun s63 =>
          ifb (decide (s63<((vx m fun f=>(D.bs f:Int)).length:Int)))
          (bnd (idx (vx m fun f=>(D.bs f:Int)) s63) fun y64 =>
           ifb ((k:Int)==y64)
           (some (.inr (.inr s63)))
           (bnd (chk .i64 (s63+(1:Int))) fun y65 =>
            some (.inl y65)))
          (some (.inr (.inl ())))) m hm (fun f=>D.bs f=k) (fun f hf=>by
            rw [Zj,decide_eq_true (by omega),Zd,Zm _ hf,Za];by_cases e:D.bs f=k
            · exact .inl ⟨e,by rw [show ((k:Int)==(D.bs f:Int))=true by simp [e],Zd]⟩
            · exact .inr ⟨e,by rw [show ((k:Int)==(D.bs f:Int))=false by simp;omega,Ze,Zk (by omega) (by omega),Za];rfl⟩) (by rw [Zj,decide_eq_false (by omega),Ze])
      refine Zo g3 ?_;rcases g4 with ⟨_,g4⟩ | ⟨r',hr',rfl,g4⟩
      · exact absurd hrk (g4 r hr)
      · have zC:=hC k hk;have hcf:∀ f,f<n→cfv m D k f = - D.a r' f:=fun f hf=>by
          unfold cfv;rw [if_neg (g2 f hf),← g4,ZRa hr' fun j hj hne=>if_neg fun e=>hne (h.bi j r' hj hr' e),if_pos rfl];grind
        have hva:ZX m D k=D.b r':=by rw [← g4];exact Zkg h hr'
        refine Zo (Zm _ hr') ?_;refine Zo (ZAc zC (hb r' hr') (by omega) (by omega)) ?_;refine Zo (Zxg (vS k (by omega)) (ZPa zC (hb r' hr')) (by omega) (by omega)) ?_;refine Zo (ZLa _ hr') ?_;refine Zo (y:=vx n (Zib m C D (k+1)).z) (ZH (fun f=>((f:Int),vx n fun f'=>if f'<f then (Zib m C D (k+1)).z f' else (Zib m C D k).z f')) n ?_ (by omega) (fun f hf=>?_) ?_) ?_
        · exact Prod.ext rfl (Zy fun f' _=>if_neg (by omega))
        · simp only;rw [Zj,decide_eq_true (by omega),Zd,Zm _ hf,Za,Zm _ hf,Za,if_neg (by omega)];rw [show (Zib m C D k).a r' f=D.a r' f from rfl,ZAc zC (ha r' f hr' hf) (by omega) (by omega),Za,Z2e (zS k f (by omega) hf) (ZPa zC (ha r' f hr' hf)) (by omega) (by omega),Za,Za,Zk (by omega) (by omega),Za];simp only [Int.toNat_natCast];rw [ZCa];refine congrArg (fun x=>some (Sum.inl x)) (Prod.ext (by simp) (Zy fun f' hf'=>?_));by_cases e2:f'=f
          · rw [if_pos e2,if_pos (by omega),e2];show _=(Zib m C D k).z f+C k*cfv m D k f;rw [hcf f hf];grind
          · rw [if_neg e2];by_cases e3:f'<f
            · rw [if_pos e3,if_pos (by omega)]
            · rw [if_neg e3,if_neg (by omega)]
        · simp only;rw [Zj,decide_eq_false (by omega),Ze];exact congrArg (fun x=>some (Sum.inr x)) (Zy fun f' hf'=>if_pos hf')
        refine congrArg some (Prod.ext rfl (Prod.ext rfl (Prod.ext rfl (Prod.ext ?_ rfl))));show (Zib m C D k).v+C k*D.b r'=(Zib m C D k).v+C k*ZX m D k;rw [hva]
    · rw [decide_eq_true (show (0:Int)≤(f:Int) by omega),Zd];have hcf:∀ f',f'<n→cfv m D k f'=if f'=f then 1 else 0:=fun f' hf'=>by
        unfold cfv;rw [Zia (f:=fun i=>if D.bs i=k then D.a i f' else 0) fun i hi=>if_neg (by rw [← g2];exact h.d i f hi hf)];by_cases e:f'=f
        · rw [e,if_pos g2,if_pos rfl];grind
        · rw [if_neg fun e2=>e (h.fi f' f hf' hf (e2.trans g2.symm)),if_neg e];grind
      have hva:ZX m D k=0:=by rw [← g2];exact ZVd h hf
      refine Zo (Zm _ hf) ?_;refine Zo (Zxg (zS k f (by omega) hf) (hC k hk) (by omega) (by omega)) ?_;refine Zo (Zm _ hf) ?_;simp only [Int.toNat_natCast];refine congrArg some (Prod.ext rfl (Prod.ext rfl (Prod.ext ?_ (Prod.ext ?_ rfl))))
      · show (vx n (Zib m C D k).z).set f ((Zib m C D k).z f+C k)=vx n (Zib m C D (k+1)).z;rw [ZCa];refine Zy fun f' hf'=>?_;show _=(Zib m C D k).z f'+C k*cfv m D k f';rw [hcf f' hf'];by_cases e:f'=f
        · rw [if_pos e,if_pos e,e];grind
        · rw [if_neg e,if_neg e];grind
      · show (Zib m C D k).v=(Zib m C D k).v+C k*ZX m D k;rw [hva];grind
  · show ifb (decide ((n:Int)<((vx n C).length:Int))) _ _=_;rw [Zj,decide_eq_false (by omega),Ze]
end Go.Eng
namespace Go.Eng
open Tb
variable {m n:Nat} {A:Mx} {B C:Nat→Rat} {T:Tb}
theorem st1_cd {K:Nat} (h:(st0 n A B C).cd K m n):(st1 m n A B).cd K m (n+1):=by
 obtain ⟨D,h0,h1,h2⟩:=h;have z0:ovr D K 0:=⟨0,by rw [Rat.div_def];exact (Rat.zero_mul _).symm,Nat.two_pow_pos K⟩;have hD':(D:Rat)≠0:=fun e=>h0 (Rat.intCast_inj.1 (by rw [e];rfl));have n1:ovr D K (-1):=⟨-D,by rw [Rat.intCast_neg];grind,by rwa [Int.natAbs_neg]⟩;refine ⟨D,h0,h1,fun i k hi hk=>?_,h2.b,fun k hk=>?_,z0⟩
 ·show ovr D K (if k<n then A i k else -1);split
  ·rename_i hlt;exact h2.a i k hi hlt
  ·exact n1
 ·show ovr D K (if k<n then 0 else -1);split
  ·exact z0
  ·exact n1
theorem zz_sz {W n' N:Nat} (h:T.arr m n' N) (hz:∀ k,k<n'→sz W (T.z k)) (hW:1≤W) (u:Nat):sz W (zz n' T.z T.fr u):=by
 by_cases hx:∃ k,k<n'∧T.fr k=u
 ·obtain ⟨k,hk,rfl⟩:=hx;unfold zz;rw [ZRa hk fun j hj hne=>if_neg fun e=>hne (h.fi j k hj hk e),if_pos rfl];exact hz k hk
 ·unfold zz;rw [Zia fun k hk=>if_neg fun e=>hx ⟨k,hk,e⟩];exact Zpb.mono hW
theorem Z5x {w:Nat} (hw:w<m) (hb:B w<0) (hl:∀ i,i<m→B i<0→B w≤B i):((st1 m n A B).piv w n).fea m:=by
 have ea:∀ i,(st1 m n A B).a i n = -1:=fun i=>if_neg (by omega);intro i hi;show 0≤if i=w then B w*(1 / (st1 m n A B).a w n) else B i-(st1 m n A B).a i n*(B w*(1 / (st1 m n A B).a w n));rw [ea,ea];have e1:B w*(1 / (-1:Rat)) = - B w:=by grind
 split
 ·rw [e1];grind
 ·rw [e1];by_cases h:B i<0
  ·have:=hl i hi h;grind
  ·grind
set_option maxRecDepth 100000 in
theorem Zlw {K R:Nat} (hr:m≤R∨n+1≤R) {P:(List (List Rat))×(List Rat)×(List Rat)} (hP:P=(mx m n A,vx m B,vx n C)) (c0:(st0 n A B C).cd K m n) (hK1:1≤K) (hm:m≤100) (hn:n≤100) (hN:n+m+1≤60) (hS:(n+1)*(K+kk K R+2)≤137438953472) :
    ∃ z,Zdk (tbl m n (st0 n A B C)) P=some z∧((∃ T4,z=(tbl m n T4,[],true)∧T4.arr m n (n+m)∧T4.eqv (st0 n A B C) m n∧T4.fea m) ∨ ∃ t y,z=(t,vx m y,false)∧Farkas m n A B y∧∀ i,i<m→sz (kk K R) (y i)):=by
  subst hP;have hKW:K+kk K R+2≤137438953472:=Nat.le_trans (Nat.le_mul_of_pos_left _ (by omega)) hS;have hWk:1≤kk K R:=Zxm hK1;have c1:(st1 m n A B).cd K m (n+1):=st1_cd c0;have s0:=c0.sz;have s1:=c1.sz;have e1:(n:Int)+(m:Int)=((n+m:Nat):Int):=by omega
  unfold Zdk;refine ZI (y:=((n+m:Nat):Int)) (by simp only [Zj];rw [e1,Zk (by omega) (by omega)]) ?_;obtain ⟨e,g1,g2⟩:=Zty (m:=m) (B:=B) (K:=K) s0.b (by omega) (by omega);refine ZI g1 ?_;rcases g2 with ⟨rfl,g2⟩ | ⟨w,rfl,hw,hb,hl⟩
  · rw [show (decide ((-1:Int)<0))=true from rfl,Zd];exact ⟨_,rfl,.inl ⟨st0 n A B C,rfl,Zrn,eqv.refl,fun i hi=>Rat.not_lt.1 (g2 i hi)⟩⟩
  · rw [decide_eq_false (show ¬ (w:Int)<0 by omega),Ze];refine ZI (ZKw (A:=A) (B:=B) (by omega) (by omega)) ?_;refine ZI (y:=()) (Zea (by show (vx n _++[_]).length*8≤_;rw [List.length_append,Zj,List.length_singleton];omega)) ?_;refine ZI (Z1b 0) ?_;refine ZI (y:=vx n fun _=>(0:Rat)) (by simp only [Zj];exact Z4i (by omega)) ?_;refine ZI (Z1b (-1)) ?_;have ez:(vx n fun _=>(0:Rat))++[((-1:Int):Rat)]=vx (n+1) (st1 m n A B).z:=by
      rw [← Z5a];refine congr (congrArg _ (Zy fun k hk=>?_)) (congrArg (fun x=>[x]) ?_)
      · show (0:Rat)=if k<n then 0 else -1;rw [if_pos hk]
      · show _=if n<n then (0:Rat) else -1;rw [if_neg (by omega)];rfl
    have ef:(vx n fun k=>(k:Int))++[((n+m:Nat):Int)]=vx (n+1) fun k=>((st1 m n A B).fr k:Int):=by
      rw [← Z5a];refine congr (congrArg _ (Zy fun k hk=>?_)) (congrArg (fun x=>[x]) ?_)
      · show (k:Int)=((if k<n then k else n+m:Nat):Int);rw [if_pos hk]
      · show _=((if n<n then n else n+m:Nat):Int);rw [if_neg (by omega)]
    rw [ez];refine ZI (y:=()) (Zea (by rw [Zj];omega)) ?_;have et:(mx m (n+1) (st1 m n A B).a,(tbl m n (st0 n A B C)).2.1,vx (n+1) (st1 m n A B).z,(tbl m n (st0 n A B C)).2.2.2.1,(tbl m n (st0 n A B C)).2.2.2.2.1,(tbl m n (st0 n A B C)).2.2.2.2.2++[((n+m:Nat):Int)])=tbl m (n+1) (st1 m n A B):=Prod.ext rfl (Prod.ext rfl (Prod.ext rfl (Prod.ext rfl (Prod.ext rfl ef))));rw [et];have ne:(st1 m n A B).a w n≠0:=by
      show (if n<n then A w n else (-1:Rat))≠0;rw [if_neg (by omega)];decide
    refine ZI (y:=(tbl m (n+1) ((st1 m n A B).piv w n),())) (by simp only [Zj];exact Zyp hw (by omega) ne s1 (by omega) (by omega) (by omega) hK1) ?_;have hE1:((st1 m n A B).piv w n).eqv (st1 m n A B) m (n+1):=Zem hw (by omega) ne;have hA1:((st1 m n A B).piv w n).arr m (n+1) (n+m+1):=Zqk.piv hw (by omega);obtain ⟨z,r1,T2,e,rfl,hA2,hE2,hF2,hend⟩:=Z9r hr (last:=((n+m:Nat):Int)) (lst:=n+m) Zqk c1 hE1 hA1 (Z5x hw hb hl) hN (by omega) (by omega) (by omega) hK1 (fun u _=>by omega) (fun T' a1 a2 ⟨c,a3⟩ j hj e=>p1_end a1 a2 hj e c a3.lt a3.pos);refine ZI r1 ?_;have hz2:∀ k,k<n+1→¬ 0<T2.z k:=by
      rcases hend with ⟨_,h⟩ | ⟨c,_,h1,h2⟩
      · exact h
      · exact (ZGB hA2 hE2 hF2 h1 h2).elim
    have s2:=(ZAk hr Zqk c1 hA2 hE2).sz;refine ZI (y:=T2.v.num.sign) rfl ?_;by_cases hv:T2.v<0
    · rw [decide_eq_true ((ZXa _).2 hv),Zd];refine ZI (y:=(tbl m (n+1) T2,vx m (Z4 n T2 (n+1)))) (by simp only [Zj];exact Zuy hA2 (by omega) (by omega) (by omega) (by omega)) ?_;exact ⟨_,rfl,.inr ⟨_,_,rfl,Ziy hA2 hE2 hz2 hv,fun i hi=>ZTc (zz_sz hA2 s2.z hWk _)⟩⟩
    · rw [decide_eq_false (fun h=>hv ((ZXa _).1 h)),Ze];have hv0:ZX m T2 (n+m)=0:=by
        have h1:=p1_v hA2 hE2;have h2:=Z6m (m:=m) hF2 (n+m);grind
      obtain ⟨e3,g3,g4⟩:=Z9e (body:=fun s63 =>
          ifb (decide (s63<((vx m fun f=>(T2.bs f:Int)).length:Int)))
          (bnd (idx (vx m fun f=>(T2.bs f:Int)) s63) fun y64 =>
           ifb (((n+m:Nat):Int)==y64)
           (some (.inr (.inr s63)))
           (bnd (chk .i64 (s63+(1:Int))) fun y65 =>
            some (.inl y65)))
          (some (.inr (.inl ())))) m (by omega) (fun f=>T2.bs f=n+m) (fun f hf=>by
            rw [Zj,decide_eq_true (by omega),Zd,Zm _ hf,Za];by_cases e:T2.bs f=n+m
            · exact .inl ⟨e,by rw [show (((n+m:Nat):Int)==(T2.bs f:Int))=true by rw [beq_iff_eq];omega,Zd]⟩
            · exact .inr ⟨e,by rw [show (((n+m:Nat):Int)==(T2.bs f:Int))=false by rw [beq_eq_false_iff_ne];omega,Ze,Zk (by omega) (by omega),Za];rfl⟩) (by rw [Zj,decide_eq_false (by omega),Ze])
      refine ZI g3 ?_;refine Zjr (Q:=fun t=>∃ T3:Tb,t=tbl m (n+1) T3∧T3.arr m (n+1) (n+m+1)∧T3.eqv (st1 m n A B) m (n+1)∧T3.fea m∧∀ i,i<m→T3.bs i≠n+m) ?_ (fun t ht=>?_)
      · rcases g4 with ⟨rfl,g4⟩ | ⟨r,hr,rfl,g4⟩
        · rw [show (decide ((0:Int)≤-1))=false from rfl,Ze];exact ⟨_,rfl,T2,rfl,hA2,hE2,hF2,g4⟩
        · rw [decide_eq_true (show (0:Int)≤(r:Int) by omega),Zd];refine ZI (ZLa _ hr) ?_;obtain ⟨e5,g5,g6⟩:=Z9e (body:=fun s32 =>
        ifb (decide (s32<((vx (n+1) (T2.a r)).length:Int)))
        (bnd (idx (vx (n+1) (T2.a r)) s32) fun y33 =>
         bnd (Z9b y33) fun y34 =>
         ifb (!y34)
         (some (.inr (.inr s32)))
         (bnd (chk .i64 (s32+(1:Int))) fun y35 =>
          some (.inl y35)))
        (some (.inr (.inl ())))) (n+1) (by omega) (fun k=>T2.a r k≠0) (fun k hk=>by
            rw [Zj,decide_eq_true (by omega),Zd,Zm _ hk,Za];unfold Z9b;rw [Za];by_cases e:T2.a r k=0
            · exact .inr ⟨fun h=>h e,by rw [decide_eq_true e];show ifb false _ _=_;rw [Ze,Zk (by omega) (by omega),Za];rfl⟩
            · exact .inl ⟨e,by rw [decide_eq_false e];show ifb true _ _=_;rw [Zd]⟩) (by rw [Zj,decide_eq_false (by omega),Ze])
          refine ZI g5 ?_;rcases g6 with ⟨_,g6⟩ | ⟨k,hk,rfl,g6⟩
          · obtain ⟨k,hk,h⟩:=p1_row hA2 hE2 hr g4;exact absurd h (g6 k hk)
          · refine ZI (Zyp hr hk g6 s2 (by omega) (by omega) (by omega) hWk) ?_;have hbr:T2.b r=0:=by rw [← Zkg hA2 hr,g4];exact hv0
            refine ⟨_,rfl,T2.piv r k,rfl,hA2.piv hr hk,(Zem hr hk g6).trans hE2,fun i hi=>?_,fun i hi=>?_⟩
            · show 0≤if i=r then T2.b r*(1 / T2.a r k) else T2.b i-T2.a i k*(T2.b r*(1 / T2.a r k));rw [hbr];have:=hF2 i hi;split <;> grind
            · rw [Zpd];split
              · rw [← g4];exact fun e=>hA2.d r k hr hk e.symm
              · rename_i hne;exact fun e=>hne (hA2.bi i r hi hr (e.trans g4.symm))
      · obtain ⟨T3,rfl,hA3,hE3,hF3,hnb⟩:=ht;obtain ⟨e7,g7,g8⟩:=Z9e (body:=fun s63 =>
          ifb (decide (s63<((vx (n+1) fun f=>(T3.fr f:Int)).length:Int)))
          (bnd (idx (vx (n+1) fun f=>(T3.fr f:Int)) s63) fun y64 =>
           ifb (((n+m:Nat):Int)==y64)
           (some (.inr (.inr s63)))
           (bnd (chk .i64 (s63+(1:Int))) fun y65 =>
            some (.inl y65)))
          (some (.inr (.inl ())))) (n+1) (by omega) (fun f=>T3.fr f=n+m) (fun f hf=>by
            rw [Zj,decide_eq_true (by omega),Zd,Zm _ hf,Za];by_cases e:T3.fr f=n+m
            · exact .inl ⟨e,by rw [show (((n+m:Nat):Int)==(T3.fr f:Int))=true by rw [beq_iff_eq];omega,Zd]⟩
            · exact .inr ⟨e,by rw [show (((n+m:Nat):Int)==(T3.fr f:Int))=false by rw [beq_eq_false_iff_ne];omega,Ze,Zk (by omega) (by omega),Za];rfl⟩) (by rw [Zj,decide_eq_false (by omega),Ze])
        refine ZI g7 ?_;rcases g8 with ⟨_,g8⟩ | ⟨c,hc,rfl,g8⟩
        · rcases hA3.cov (n+m) (by omega) with ⟨i,hi,e⟩ | ⟨k,hk,e⟩
          · exact absurd e (hnb i hi)
          · exact absurd e (g8 k hk)
        · refine ZI (y:=((c+1:Nat):Int)) (Zk (by omega) (by omega)) ?_;refine ZI (ZBs _ hc) ?_;refine ZI (ZpB (by omega) (by omega) hc) ?_;refine ZI (Z1b 0) ?_;refine ZI (y:=vx n fun _=>(0:Rat)) (by rw [Zj];exact Z4i (by omega)) ?_;refine ZI (Z1b 0) ?_;have s3:=(ZAk hr Zqk c1 hA3 hE3).sz;have hA4:=ZPq (C:=C) hA3 hc g8;have hE4:=ZJz (C:=C) hA3 hE3 hc g8;refine ZI (objs_ok (D:={ a:=fun i k=>T3.a i (sk c k),b:=T3.b,z:=fun _=>0,v:=0,bs:=T3.bs,fr:=fun k=>T3.fr (sk c k) }) (C:=C) (K:=K) (W:=kk K R) ⟨hA4.bl,hA4.fl,hA4.bi,hA4.fi,hA4.d,hA4.cov⟩ (fun i k hi hk=>s3.a i _ hi (ZKg hk)) s3.b s0.z hWk hK1 (by omega) (by omega) hS) ?_;exact ⟨_,rfl,.inl ⟨drop m n C T3 c,rfl,hA4,hE4,hF3⟩⟩
end Go.Eng
namespace Go.Eng
open Tb
variable {m n:Nat} {A:Mx} {B C:Nat→Rat} {T:Tb}
theorem Znw (hm:m≤1000) (hn:n≤1000):ZGk (mx m n A)=some (mx m n A):=by
 unfold ZGk;refine Zo (y:=()) (by rw [Zwa];exact Zxk (by omega) (by omega)) ?_;exact Zo (copy_ok A hm hn) rfl
def ZBe (m n W:Nat) (A:Mx) (B C:Nat→Rat) (z:Int×Rat×(List Rat)×(List Rat)×(List Rat)):Prop :=
 (∃ y,z=(2,0,[],vx m y,[])∧Farkas m n A B y∧∀ i,i<m→sz W (y i)) ∨
 (∃ x y v,z=(1,v,vx n x,vx m y,[])∧Feas m n A B x∧v=sm n (fun k=>C k*x k)∧Dual m n A B C y∧v=sm m (fun i=>B i*y i)∧(∀ k,k<n→sz W (x k))∧(∀ i,i<m→sz W (y i))∧sz W v) ∨
 ∃ x d,z=(3,0,vx n x,[],vx n d)∧Feas m n A B x∧IsRay m n A C d∧(∀ k,k<n→sz W (x k))∧(∀ k,k<n→sz W (d k))
theorem valu_sz {W n' N:Nat} (h:T.arr m n' N) (hb:∀ i,i<m→sz W (T.b i)) (hW:1≤W) {u:Nat} (hu:u<N):sz W (ZX m T u):=by
 rcases h.cov u hu with ⟨i,hi,rfl⟩ | ⟨q,hq,rfl⟩
 ·rw [Zkg h hi];exact hb i hi
 ·rw [ZVd h hq];exact Zpb.mono hW
theorem dir_sz {W n' N c:Nat} (h:T.arr m n' N) (hc:c<n') (ha:∀ i,i<m→sz W (T.a i c)) (hW:1≤W) {u:Nat} (hu:u<N):sz W (dir m T c u):=by
 rcases h.cov u hu with ⟨i,hi,rfl⟩ | ⟨q,hq,rfl⟩
 ·rw [ZXu h hc hi];exact ZTc (ha i hi)
 ·rw [ZFh h hc hq];split
  ·exact ZPf.mono hW
  ·exact Zpb.mono hW
set_option maxRecDepth 100000 in
theorem ZkA {K R:Nat} (hr:m≤R∨n+1≤R) (c0:(st0 n A B C).cd K m n) (hK1:1≤K) (hm:m≤100) (hn:n≤100) (hN:n+m+1≤60) (hS:(n+1)*(K+kk K R+2)≤137438953472):∃ z,Z0h (mx m n A,vx m B,vx n C)=some z∧ZBe m n (kk K R) A B C z:=by
 have hKW:K+kk K R+2≤137438953472:=Nat.le_trans (Nat.le_mul_of_pos_left _ (by omega)) hS;have hWk:1≤kk K R:=Zxm hK1;have hr2:m≤R∨n≤R:=by omega
 have hW1:=hWk;have hWle:=Nat.le_refl (kk K R);unfold Z0h;refine ZI (Znw (by omega) (by omega)) ?_;refine ZI (y:=vx m B) (ZDe (by rw [Zj];omega)) ?_;refine ZI (y:=vx n C) (ZDe (by rw [Zj];omega)) ?_;refine ZI (Z1b 0) ?_;refine ZI (y:=(mx m n A,vx m B,vx n C,((0:Int):Rat),[],vx n fun k=>(k:Int))) (ZH (fun k=>((k:Int),mx m n A,vx m B,vx n C,((0:Int):Rat),[],vx k fun k=>(k:Int))) n rfl (by omega) (fun k hk=>?_) ?_) ?_
 ·show ifb (decide ((k:Int)<((vx n C).length:Int))) _ _=_;rw [Zj,decide_eq_true (by omega),Zd];have e:(vx k fun k=>(k:Int))++[(k:Int)]=vx (k+1) fun k=>(k:Int):=Z5a k _;show bnd (ZC 8 ((vx k fun k=>(k:Int))++[(k:Int)])) _=_;rw [Zea (by rw [e,Zj];omega),Za,Zk (by omega) (by omega),Za];exact congrArg (fun x=>some (Sum.inl ((_:Int),_,_,_,_,_,x))) e
 ·show ifb (decide ((n:Int)<((vx n C).length:Int))) _ _=_;rw [Zj,decide_eq_false (by omega),Ze]
 refine ZI (y:=tbl m n (st0 n A B C)) (ZH (fun i=>((i:Int),mx m n A,vx m B,vx n C,((0:Int):Rat),(vx i fun i=>((n+i:Nat):Int)),vx n fun k=>(k:Int))) m rfl (by omega) (fun i hi=>?_) ?_) ?_
 ·show ifb (decide ((i:Int)<((vx m B).length:Int))) _ _=_;rw [Zj,decide_eq_true (by omega),Zd];have e:(vx i fun i=>((n+i:Nat):Int))++[((n+i:Nat):Int)]=vx (i+1) fun i=>((n+i:Nat):Int):=Z5a i _;simp only [Zj];rw [show (n:Int)+(i:Int)=((n+i:Nat):Int) by omega,Zk (by omega) (by omega),Za,Zea (by rw [e,Zj];omega),Za,Zk (by omega) (by omega),Za];exact congrArg (fun x=>some (Sum.inl ((_:Int),_,_,_,_,x,_))) e
 ·show ifb (decide ((m:Int)<((vx m B).length:Int))) _ _=_;rw [Zj,decide_eq_false (by omega),Ze];rfl
 refine ZI (Z1b 0) ?_;obtain ⟨z,g1,g2⟩:=Zlw hr (C:=C) (P:=(mx m n A,vx m B,vx n C)) rfl c0 hK1 hm hn hN hS;refine ZI g1 ?_;rcases g2 with ⟨T4,rfl,hA4,hE4,hF4⟩ | ⟨t,y,rfl,hy,hys⟩
 ·show ∃ z,ifb false _ _=some z∧_;rw [Ze];obtain ⟨z,r1,T5,e,rfl,hA5,hE5,hF5,hend⟩:=Z9r hr2 (last:=(-1:Int)) (lst:=n+m) (Zrn (A:=A) (B:=B) (C:=C)) c0 hE4 hA4 hF4 (by omega) (by omega) (by omega) (by omega) hK1 (fun u _=>by omega) (fun T' a1 a2 _ j hj e=>by have:=a1.fl j hj;omega);refine ZI (y:=(tbl m n T5,e)) (Zo r1 rfl) ?_;have s5:=(ZAk hr2 Zrn c0 hA5 hE5).sz;obtain ⟨hfe,hvx⟩:=feas_of hA5 hE5 hF5;have hxs:∀ k,k<n→sz (kk K R) (ZX m T5 k):=fun k hk=>(valu_sz hA5 s5.b hW1 (by omega)).mono hWle;rcases hend with ⟨rfl,hz⟩ | ⟨c,rfl,hc,hu⟩
  ·rw [show (decide ((-1:Int)<0))=true from rfl,Zd];refine ZI (y:=vx n (ZX m T5)) (by simp only [Zj];exact Z4r hA5 (by omega) (by omega)) ?_;refine ZI (y:=vx m (Z4 n T5 n)) (by simp only [Zj];exact ZSw hA5 (by omega) (by omega) (by omega) (by omega)) ?_;obtain ⟨hd,hvy⟩:=dual_of hA5 hE5 hz;exact ⟨_,rfl,.inr (.inl ⟨_,_,T5.v,rfl,hfe,hvx,hd,hvy,hxs,fun i hi=>(ZTc (zz_sz hA5 s5.z hW1 _)).mono hWle,s5.v.mono hWle⟩)⟩
  ·rw [decide_eq_false (show ¬ (c:Int)<0 by omega),Ze];refine ZI (Z1b 0) ?_;refine ZI (y:=vx n fun _=>(0:Rat)) (by simp only [Zj];exact Z4i (by omega)) ?_;refine ZI (Zm _ hc.lt) ?_
   let dk:Nat→Nat→Rat:=fun i u=>if T5.fr c=u then 1 else-sm i fun i=>if T5.bs i=u then T5.a i c else 0
   refine ZI (y:=vx n (dk 0)) ?_ ?_
   ·by_cases hcn:T5.fr c<n
    ·simp only [Zj];rw [decide_eq_true (by omega),Zd,Z1b,Za,Zm _ hcn,Za];simp only [Int.toNat_natCast];rw [ZCa];refine congrArg some (Zy fun u hu=>?_);show _=if T5.fr c=u then (1:Rat) else -0;by_cases e:u=T5.fr c
     ·rw [if_pos e,if_pos e.symm];rfl
     ·rw [if_neg e,if_neg fun e2=>e e2.symm];rfl
    ·simp only [Zj];rw [decide_eq_false (by omega),Ze];refine congrArg some (Zy fun u hu=>?_);show _=if T5.fr c=u then (1:Rat) else -0;rw [if_neg (by omega)];rfl
   ·refine ZI (y:=vx n (dir m T5 c)) (ZH (fun i=>((i:Int),vx n (dk i))) m rfl (by omega) (fun i hi=>?_) ?_) ?_
    ·show ifb (decide ((i:Int)<((vx m fun i=>(T5.bs i:Int)).length:Int))) (bnd (idx (vx m fun i=>(T5.bs i:Int)) (i:Int)) _) _=_;rw [Zj,decide_eq_true (by omega),Zd,Zm _ hi,Za];refine Zo (y:=vx n (dk (i+1))) ?_ (by rw [Zk (by omega) (by omega),Za];rfl);have hne:T5.fr c≠T5.bs i:=fun e=>hA5.d i c hi hc.lt e.symm;have step:∀ u,dk (i+1) u=if T5.bs i=u then-T5.a i c else dk i u:=fun u=>by
      show (if T5.fr c=u then (1:Rat) else-(sm i (fun i=>if T5.bs i=u then T5.a i c else 0)+if T5.bs i=u then T5.a i c else 0))=_;by_cases e:T5.bs i=u
      ·rw [if_pos e,if_pos e,if_neg (by rw [← e];exact hne),Zia fun j hj=>if_neg fun e2=>by have:=hA5.bi j i (by omega) hi (e2.trans e.symm);omega];grind
      ·rw [if_neg e,if_neg e];show _=if T5.fr c=u then (1:Rat) else-sm i fun i=>if T5.bs i=u then T5.a i c else 0;rw [Rat.add_zero]
     by_cases hb:T5.bs i<n
     ·simp only [Zj];rw [decide_eq_true (by omega),Zd];show bnd (idx (mx m n T5.a) (i:Int)) _=_;rw [ZLa _ hi,Za,Zm _ hc.lt,Za];unfold ZGa;rw [Za,Zm _ hb,Za];simp only [Int.toNat_natCast];rw [ZCa];refine congrArg some (Zy fun u hu=>?_);rw [step u];by_cases e:u=T5.bs i
      ·rw [if_pos e,if_pos e.symm]
      ·rw [if_neg e,if_neg fun e2=>e e2.symm]
     ·simp only [Zj];rw [decide_eq_false (by omega),Ze];refine congrArg some (Zy fun u hu=>?_);rw [step u,if_neg (by omega)]
    ·show ifb (decide ((m:Int)<((vx m fun i=>(T5.bs i:Int)).length:Int))) _ _=_;rw [Zj,decide_eq_false (by omega),Ze];rfl
    refine ZI (y:=vx n (ZX m T5)) (by simp only [Zj];exact Z4r hA5 (by omega) (by omega)) ?_;exact ⟨_,rfl,.inr (.inr ⟨_,_,rfl,hfe,ray_of hA5 hE5 hc hu,hxs,fun k hk=>(dir_sz hA5 hc.lt (fun i hi=>s5.a i c hi hc.lt) hW1 (by omega)).mono hWle⟩)⟩
 ·show ∃ z,ifb true _ _=some z∧_;rw [Zd];exact ⟨_,rfl,.inl ⟨y,rfl,hy,hys⟩⟩
theorem sz_lt {k:Nat} {x:Rat} (h:sz k x):x.num.natAbs<2^k∧x.den<2^k:=by
 have h1:=ZJc x.num.natAbs;have h2:=ZJc x.den;have h3:=Nat.pow_le_pow_right (show 0<2 by omega) h.1;have h4:=Nat.pow_le_pow_right (show 0<2 by omega) h.2;omega
theorem Zxv {k:Nat}:∀ l:List Rat,(∀ x,x ∈ l→sz k x)→∃ D:Int,D≠0∧D.natAbs<2^(k*l.length+1)∧∀ x,x ∈ l→∃ N:Int,x=(N:Rat) / (D:Rat)∧N.natAbs<2^(k*l.length+1)
 | [],_=>⟨1,by omega,by simp,fun x hx=>by simp at hx⟩
 | y :: l,h=>by
  obtain ⟨D,d0,d1,d2⟩:=Zxv l fun x hx=>h x (by simp [hx])
  obtain ⟨y1,y2⟩:=sz_lt (h y (by simp))
  have e:2^(k*(y :: l).length+1)=2^(k*l.length+1)*2^k:=by rw [← Nat.pow_add,List.length_cons,Nat.mul_succ];congr 1;omega
  have hD':(D:Rat)≠0:=fun e=>d0 (Rat.intCast_inj.1 (by rw [e];rfl))
  have hy:(y.den:Int)≠0:=by have:=y.den_nz;omega
  have hy':((y.den:Int):Rat)≠0:=fun e=>hy (Rat.intCast_inj.1 (by rw [e];rfl))
  have yv:y=(y.num:Rat) / ((y.den:Int):Rat):=by rw [← Rat.divInt_eq_div,Rat.num_divInt_den]
  refine ⟨D*y.den,fun e=>?_,?_,fun x hx=>?_⟩
  ·rcases Int.mul_eq_zero.1 e with h | h
   ·exact d0 h
   ·exact hy h
  ·have:=ZQc d1 (b:=(y.den:Int)) (B:=2^k) (by simpa using y2);omega
  ·rcases List.mem_cons.1 hx with rfl | hx
   ·refine ⟨D*x.num,?_,?_⟩
    ·rw [Rat.intCast_mul,Rat.intCast_mul]
     generalize ((x.den:Int):Rat)=d at *
     generalize (x.num:Rat)=m at *
     grind
    ·have:=ZQc d1 y1;omega
   ·obtain ⟨N,n1,n2⟩:=d2 x hx
    refine ⟨N*y.den,?_,?_⟩
    ·rw [Rat.intCast_mul,Rat.intCast_mul,n1]
     generalize ((y.den:Int):Rat)=d at *
     grind
    ·have:=ZQc n2 (b:=(y.den:Int)) (B:=2^k) (by simpa using y2);omega
theorem CD_of {k R n:Nat} {M:Mx} (h:∀ i j,i<R→j<n→sz k (M i j)):CD (k*(R*n)+1) R n M:=by
 have hl:∀ x,x ∈ (List.range (R*n)).map (fun t=>M (t / n) (t%n))→sz k x:=fun x hx=>by
  obtain ⟨t,ht,rfl⟩:=List.mem_map.1 hx;have ht:=List.mem_range.1 ht;have hn:0<n:=Nat.pos_of_ne_zero fun e=>by rw [e] at ht;simp at ht
  exact h _ _ (Nat.div_lt_of_lt_mul (by rw [Nat.mul_comm];exact ht)) (Nat.mod_lt _ hn)
 obtain ⟨D,d0,d1,d2⟩:=Zxv _ hl;simp only [List.length_map,List.length_range] at d1 d2;refine ⟨D,d0,d1,fun i j hi hj=>d2 _ (List.mem_map.2 ⟨i*n+j,List.mem_range.2 ?_,?_⟩)⟩
 ·have:=Nat.mul_le_mul_right n (show i+1≤R from hi);rw [Nat.succ_mul] at this;omega
 ·rw [Nat.mul_comm i n,Nat.mul_add_div (by omega),Nat.div_eq_of_lt hj,Nat.mul_add_mod,Nat.mod_eq_of_lt hj];simp
theorem st0_cd {m n k:Nat} {A:Mx} {B C:Nat→Rat} (hA:∀ i j,i<m→j<n→sz k (A i j)) (hB:∀ i,i<m→sz k (B i)) (hC:∀ j,j<n→sz k (C j)) (hk:1≤k):(st0 n A B C).cd (k*((m+1)*(n+1))+1) m n:=by
 have h:=CD_of (k:=k) (R:=m+1) (n:=n+1) (M:=fun i j=>if i<m then (if j<n then A i j else B i) else if j<n then C j else 0) fun i j hi hj=>by
  show sz k (if i<m then (if j<n then A i j else B i) else if j<n then C j else 0);split
  ·rename_i h1;split
   ·rename_i h2;exact hA i j h1 h2
   ·exact hB i h1
  ·split
   ·rename_i h2;exact hC j h2
   ·exact Zpb.mono hk
 obtain ⟨D,d0,d1,d2⟩:=h;simp only at d2;refine ⟨D,d0,d1,fun i j hi hj=>?_,fun i hi=>?_,fun j hj=>?_,?_⟩
 ·have:=d2 i j (by omega) (by omega);rw [if_pos hi,if_pos hj] at this;exact this
 ·have:=d2 i n (by omega) (by omega);rw [if_pos hi,if_neg (by omega)] at this;exact this
 ·have:=d2 m j (by omega) (by omega);rw [if_neg (by omega),if_pos hj] at this;exact this
 ·exact ⟨0,by rw [Rat.div_def];exact (Rat.zero_mul _).symm,Nat.two_pow_pos _⟩
set_option maxRecDepth 100000
theorem rt_sz {m:List (List (Int×Int))} (hm:∀ r,r ∈ m→∀ x,x ∈ r→i64 x) (i j:Nat):sz 64 (rt m i j):=by
 unfold rt;refine ZNv ?_;rw [List.getD_eq_getElem?_getD]
 cases h:(m.getD i [])[j]? with
 | none=>exact ⟨by decide,by decide⟩
 | some x =>
  have hx:x ∈ m.getD i []:=List.mem_of_getElem? h;rw [List.getD_eq_getElem?_getD] at hx
  cases h2:m[i]? with
  | none=>rw [h2] at hx;simp at hx
  | some r=>rw [h2] at hx;exact hm r (List.mem_of_getElem? h2) x hx
theorem rv_sz {l:List (Int×Int)} (hl:∀ x,x ∈ l→i64 x) (j:Nat):sz 64 (rv l j):=by
 unfold rv;refine ZNv ?_;rw [List.getD_eq_getElem?_getD]
 cases h:l[j]? with
 | none=>exact ⟨by decide,by decide⟩
 | some x=>exact hl x (List.mem_of_getElem? h)
set_option maxRecDepth 100000
variable {m n:Nat} {A:Mx} {B C:Nat→Rat}
theorem neF (n:Nat):((n:Int) != (n:Int))=false:=by simp
def aw (k m n R:Nat):Nat:=kk (k*((m+1)*(n+1))+1) R
theorem lmax_sz {k R:Nat} (hr:m≤R∨n+1≤R) (hA:∀ i j,i<m→j<n→sz k (A i j)) (hB:∀ i,i<m→sz k (B i)) (hC:∀ j,j<n→sz k (C j)) (hk:1≤k) (hm:m≤100) (hn:n≤100) (hN:n+m+1≤60) (hS:(n+1)*((k*((m+1)*(n+1))+1)+aw k m n R+2)≤137438953472) :
  ∃ z,Z0h (mx m n A,vx m B,vx n C)=some z∧ZBe m n (aw k m n R) A B C z :=
 ZkA hr (st0_cd hA hB hC hk) (by omega) hm hn hN hS
noncomputable def Zlg (l:List (Int×Int)):Option Bool :=
 bnd (Zg (σ:=Int) (ρ:=Unit ⊕ Bool) (fun b =>
 ifb (decide (b<(l.length:Int)))
 (bnd (idx l b) fun a =>
 bnd (α:=Bool)
 (ifb (decide ((1048576:Int)<(max a.1 a.2)))
 (some true)
 (some (decide ((min a.1 a.2)<(-1048576:Int))))) fun c =>
 ifb c
 (some (.inr (.inr false)))
 (bnd (chk .i64 (b+(1:Int))) fun d =>
 some (.inl d)))
 (some (.inr (.inl ()))))
  Zi (0:Int)) fun e =>
 match e with
| .inl g=>(some true)
| .inr f=>(some f)
noncomputable def Z6l (m:List (List (Int×Int))):Option Bool :=
 ifb (decide ((6:Int)<(m.length:Int)))
 (bnd (α:=Bool)
 (ifb (decide ((32:Int)<(m.length:Int)))
 (some (decide ((m.length:Int)<(200:Int))))
 (some false)) fun c =>
 some c)
 (bnd (Zg (σ:=Int) (ρ:=Unit ⊕ Bool) (fun b =>
 ifb (decide (b<(m.length:Int)))
 (bnd (idx m b) fun a =>
 bnd (α:=Bool)
 (ifb (decide ((6:Int)<(a.length:Int)))
 (ifb (decide ((a.length:Int)≤(32:Int)))
 (some true)
 (ifb (decide ((200:Int)<(a.length:Int)))
 (some true)
 (ifb (decide ((3:Int)<(m.length:Int)))
 (bnd (Zlg a) fun d =>
 some (!d))
 (some false))))
 (ifb (decide ((200:Int)<(a.length:Int)))
 (some true)
 (ifb (decide ((3:Int)<(m.length:Int)))
 (bnd (Zlg a) fun e =>
 some (!e))
 (some false)))) fun f =>
 ifb f
 (some (.inr (.inr false)))
 (bnd (chk .i64 (b+(1:Int))) fun g =>
 some (.inl g)))
 (some (.inr (.inl ()))))
   Zi (0:Int)) fun h =>
  match h with
| .inl j=>(some true)
| .inr i=>(some i))
set_option maxRecDepth 100000
def okM {α:Type} (m:List (List α)):Prop:=m.length≤32∧(m.headD []).length≤32∧∀ r,r ∈ m→r.length=(m.headD []).length
instance {α:Type} (m:List (List α)):Decidable (okM m):=inferInstanceAs (Decidable (_∧_∧_))
theorem ZtA {α:Type} {m:List (List α)} (h:0<m.length):(m.headD []).length=m[0].length:=by
 cases m with
 | nil=>simp at h
 | cons a l=>rfl
theorem Ztz (l:List (Int×Int)) (hl:l.length≤1048576):∃ b,Zlg l=some b∧True:=by
 unfold Zlg;refine ZAf (fun k s=>s=(k:Int)) (fun _=>True) l.length rfl (by omega) (fun k s hk hs=>?_) (fun r _=>by cases r <;> exact ⟨_,rfl,trivial⟩);subst hs;by_cases hlt:k<l.length
 ·rw [decide_eq_true (by omega),Zd,Zz hlt,Za];have:∃ q:Bool,(ifb (decide ((1048576:Int)<(max l[k].1 l[k].2))) (some true) (some (decide ((min l[k].1 l[k].2)<(-1048576:Int)))):Option Bool)=some q:=by
   by_cases e:(1048576:Int)<(max l[k].1 l[k].2)
   ·rw [decide_eq_true e,Zd];exact ⟨_,rfl⟩
   ·rw [decide_eq_false e,Ze];exact ⟨_,rfl⟩
  obtain ⟨q,hq⟩:=this;rw [hq,Za]
  cases q with
  | true=>right;exact ⟨_,Zd _ _,trivial⟩
  | false=>left;exact ⟨_,hlt,by rw [Ze,Zk (by omega) (by omega),Za],by simp⟩
 ·right;rw [decide_eq_false (by omega),Ze];exact ⟨_,rfl,trivial⟩
theorem ZLA (l:List (Int×Int)) (hl:l.length≤1048576):∃ b,Zlg l=some b:=by
 obtain ⟨b,h,_⟩:=Ztz l hl;exact ⟨b,h⟩
theorem Z2z (m:List (List (Int×Int))) (hr:∀ r,r ∈ m→r.length≤1048576):∃ b,Z6l m=some b∧(b=true→m.length<200∧(okM m→m.length≤6∧(m.headD []).length≤6)):=by
 unfold Z6l;by_cases h6:6<m.length
 ·rw [decide_eq_true (by omega),Zd];by_cases h32:32<m.length
  ·refine ⟨decide ((m.length:Int)<200),by rw [decide_eq_true (by omega),Zd,Za],fun h=>⟨by have:=of_decide_eq_true h;omega,fun h=>absurd h.1 (by omega)⟩⟩
  ·exact ⟨false,by rw [decide_eq_false (by omega),Ze,Za],fun h=>by cases h⟩
 ·rw [decide_eq_false (by omega),Ze];refine ZAf (fun k s=>s=(k:Int)∧∀ i,(hi:i<m.length)→i<k→¬ (6<m[i].length∧m[i].length≤32)) (fun r=>r = .inr false ∨ ∀ i,(hi:i<m.length)→¬ (6<m[i].length∧m[i].length≤32)) m.length ⟨rfl,fun i hi h=>by omega⟩ (by omega) (fun k s hk hs=>?_) (fun r hq=>?_)
  ·obtain ⟨rfl,hs⟩:=hs;by_cases hlt:k<m.length
   ·rw [decide_eq_true (by omega),Zd,Zz hlt,Za];have hb:=ZLA m[k] (hr _ (List.getElem_mem hlt));obtain ⟨bb,hb⟩:=hb;have tl:∀ (g:Bool→Option (Int ⊕ (Unit ⊕ Bool))),∃ q:Bool,(ifb (decide ((200:Int)<(m[k].length:Int))) (some true) (ifb (decide ((3:Int)<(m.length:Int))) (bnd (Zlg m[k]) fun y4=>some (!y4)) (some false)):Option Bool)=some q:=fun _=>by
     rw [hb,Za];by_cases e:(200:Int)<(m[k].length:Int)
     ·rw [decide_eq_true e,Zd];exact ⟨_,rfl⟩
     ·rw [decide_eq_false e,Ze];by_cases e2:(3:Int)<(m.length:Int)
      ·rw [decide_eq_true e2,Zd];exact ⟨_,rfl⟩
      ·rw [decide_eq_false e2,Ze];exact ⟨_,rfl⟩
    obtain ⟨q,hq⟩:=tl fun _=>none;rw [hq];have fin:∀ q:Bool,¬ (6<m[k].length∧m[k].length≤32)→(∃ s',k<m.length∧(bnd (some q) fun x6=>ifb x6 (some (Sum.inr (Sum.inr false))) (bnd (chk .i64 ((k:Int)+(1:Int))) fun y7=>some (Sum.inl y7)):Option (Int ⊕ (Unit ⊕ Bool)))=some (.inl s')∧s'=((k+1:Nat):Int)∧∀ i,(hi:i<m.length)→i<k+1→¬ (6<m[i].length∧m[i].length≤32)) ∨ ∃ r,(bnd (some q) fun x6=>ifb x6 (some (Sum.inr (Sum.inr false))) (bnd (chk .i64 ((k:Int)+(1:Int))) fun y7=>some (Sum.inl y7)):Option (Int ⊕ (Unit ⊕ Bool)))=some (.inr r)∧(r = .inr false ∨ ∀ i,(hi:i<m.length)→¬ (6<m[i].length∧m[i].length≤32)):=fun q hg=>by
     cases q with
     | true=>right;exact ⟨_,by rw [Za,Zd],.inl rfl⟩
     | false =>
      left;refine ⟨_,hlt,by rw [Za,Ze,Zk (by omega) (by omega),Za],by simp,fun i hi h=>?_⟩;by_cases e:i=k
      ·subst e;exact hg
      ·exact hs i hi (by omega)
    by_cases e6:6<m[k].length
    ·rw [decide_eq_true (show (6:Int)<(m[k].length:Int) by omega),Zd];by_cases e32:m[k].length≤32
     ·right;exact ⟨_,by rw [decide_eq_true (show (m[k].length:Int)≤32 by omega),Zd,Za,Zd],.inl rfl⟩
     ·rw [decide_eq_false (show ¬ (m[k].length:Int)≤32 by omega),Ze];exact fin q fun h=>e32 h.2
    ·rw [decide_eq_false (show ¬ (6:Int)<(m[k].length:Int) by omega),Ze];exact fin q fun h=>e6 h.1
   ·right;rw [decide_eq_false (by omega),Ze];exact ⟨_,rfl,.inr fun i hi=>hs i hi (by omega)⟩
  ·rcases hq with rfl | hq
   ·exact ⟨false,rfl,fun h=>by cases h⟩
   ·have fin:m.length<200∧(okM m→m.length≤6∧(m.headD []).length≤6):=⟨by omega,fun ho=>⟨by omega,by
     by_cases h0:0<m.length
     ·have h1:=hq 0 h0;have h2:=ho.2.1;rw [ZtA h0] at h2 ⊢;omega
     ·rw [List.length_eq_zero_iff.1 (show m.length=0 by omega)];simp⟩⟩
    cases r with
    | inl u=>exact ⟨true,rfl,fun _=>fin⟩
    | inr b=>exact ⟨b,rfl,fun _=>fin⟩
noncomputable def Zae (l:List (Int×Int)):Option (List (Rat×Rat×Rat×Rat)) :=
 bnd (Zg (σ:=(List (Rat×Rat×Rat×Rat))×Int) (ρ:=List (Rat×Rat×Rat×Rat)) (fun a =>
 ifb (decide (a.2<(l.length:Int)))
 (bnd (idx l a.2) fun c =>
 bnd (rofF c) fun d =>
 bnd (Zbd d) fun b =>
 bnd (ZC 224 (a.1++[b])) fun _ =>
 bnd (chk .i64 (a.2+(1:Int))) fun e =>
 some (.inl (a.1++[b],e)))
 (some (.inr a.1)))
  Zi (([]:List (Rat×Rat×Rat×Rat)),(0:Int))) fun f =>
 some f
noncomputable def Zjh (m:List (List (Int×Int))):Option (List (List (Rat×Rat×Rat×Rat))) :=
 bnd (mk 24 (m.length:Int) (m.length:Int)) fun _ =>
 bnd (Zg (σ:=Int×(List (List (Rat×Rat×Rat×Rat)))) (ρ:=List (List (Rat×Rat×Rat×Rat))) (fun a =>
 ifb (decide (a.1<(m.length:Int)))
 (bnd (idx m a.1) fun b =>
 bnd (Zae b) fun c =>
 bnd (idx a.2 a.1) fun f =>
 bnd (chk .i64 (a.1+(1:Int))) fun d =>
 some (.inl (d,a.2.set a.1.toNat c)))
 (some (.inr a.2)))
  Zi ((0:Int),List.replicate (m.length:Int).toNat ([]:List (Rat×Rat×Rat×Rat)))) fun e =>
 some e
noncomputable def ZWv (a:List (List (Int×Int))) (b:List (Int×Int)) (c:List (Int×Int)):Option (((List (List Rat))×(List Rat)×(List Rat))×((List (List (Rat×Rat×Rat×Rat)))×(List (Rat×Rat×Rat×Rat))×(List (Rat×Rat×Rat×Rat)))) :=
 bnd (Zyf a) fun d =>
 bnd (Zpe b) fun e =>
 bnd (Zpe c) fun f =>
 bnd (Zjh a) fun g =>
 bnd (Zae b) fun h =>
 bnd (Zae c) fun i =>
 some ((d.1,e.1,f.1),(g,h,i))
set_option maxRecDepth 100000
theorem Z4n (l:List (Int×Int)) (hl:l.length≤1048576):Zae l=some (l.map fun r=>sq (Zx r)):=by
 unfold Zae rofF;rw [Z5c (0,0) fun r=>sq (Zx r)];have e:∀ {α:Type} (f:Int×Int→α) (k:Nat) (hk:k<l.length),vx k (fun i=>f (l.getD i (0,0)))++[f l[k]]=vx (k+1) fun i=>f (l.getD i (0,0)):=fun f k hk=>by
  rw [← Z5a];simp [List.getD_eq_getElem?_getD,hk]
 refine Zo (y:=vx l.length fun i=>sq (Zx (l.getD i (0,0)))) (ZH (fun k=>(vx k (fun i=>sq (Zx (l.getD i (0,0)))),(k:Int))) l.length rfl (by omega) (fun k hk=>?_) ?_) rfl
 ·simp only;rw [decide_eq_true (by omega),Zd,Zz hk,Za,Za,Zij,Za,e (fun r=>sq (Zx r)) k hk,Zea (by rw [Zj];omega),Za,Zk (by omega) (by omega),Za];rfl
 ·simp only;rw [decide_eq_false (by omega),Ze]
theorem Z1B (m:List (List (Int×Int))) (hm:m.length≤1000) (hr:∀ r,r ∈ m→r.length≤1048576):Zjh m=some (m.map (·.map fun r=>sq (Zx r))):=by
 unfold Zjh;rw [Zxk (by omega) (by omega),Za,Z5c [] (·.map fun r=>sq (Zx r)) m];refine Zo (y:=vx m.length fun i=>(m.getD i []).map fun r=>sq (Zx r)) (ZH (fun k=>((k:Int),vx m.length (fun i=>if i<k then (m.getD i []).map (fun r=>sq (Zx r)) else []))) m.length ?_ (by omega) (fun k hk=>?_) ?_) rfl
 ·simp only [Int.toNat_natCast,Zrl];exact Prod.ext rfl (Zy fun i hi=>if_neg (by omega))
 ·simp only;have hk':m.getD k []=m[k]:=by simp [List.getD_eq_getElem?_getD,hk]
  rw [decide_eq_true (by omega),Zd,Zz hk,Za,Z4n _ (hr _ (List.getElem_mem hk)),Za,Zm _ hk,Za,Zk (by omega) (by omega),Za];simp only [Int.toNat_natCast,ZCa];refine congrArg (fun x=>some (Sum.inl x)) (Prod.ext (by simp) (Zy fun i hi=>?_));by_cases e:i=k
  ·rw [if_pos e,if_pos (by omega),e,hk']
  ·rw [if_neg e];by_cases e2:i<k
   ·rw [if_pos e2,if_pos (by omega)]
   ·rw [if_neg e2,if_neg (by omega)]
 ·simp only;rw [decide_eq_false (by omega),Ze];exact congrArg (fun x=>some (Sum.inr x)) (Zy fun i hi=>if_pos hi)
noncomputable def Zwv (m:List (List Rat)):Option ((List (List Rat))×(List Int)×Int) :=
 bnd (Zuf m) fun b =>
 ifb (!b)
 (some (([]:List (List Rat)),([]:List Int),(4:Int)))
 (bnd (Zop m) fun a =>
 some (a.1,a.2.1,(0:Int)))
noncomputable def Zqu (l:(List Int)) (v:Int):Option (Int) :=
 bnd (bnd (Zg (fun s:Int=>match s with
| a =>
 (ifb (decide (a<(l.length:Int)))
 (bnd (idx l a) fun b =>
 ifb (v==b)
 (some (.inr ((.inl a))))
 (bnd (chk .i64 (a+(1:Int))) fun c =>
 some (.inl c)))
 (some (.inr ((.inr (()))))))) Zi (0:Int))
 (fun (p:(Int) ⊕ (Unit))=>match p with
| .inl d =>
 (some ((.inr d)))
| .inr (()) =>
 (some ((.inl (()))))))
 (fun (p:(Unit) ⊕ (Int))=>match p with
| .inl (()) =>
 (some (-1:Int))
| .inr e =>
 (some e))
noncomputable def ZHr (l:(List Int)) (v:Int):Option (Bool) :=
 bnd (Zqu l v) fun a =>
 some (decide ((0:Int)≤a))
noncomputable def ZCt (m:List (List Rat)):Option ((List (List Rat))×Int) :=
 bnd (Zuf m) fun g =>
 ifb (!g)
 (some (([]:List (List Rat)),(4:Int)))
 (bnd (Zop m) fun c =>
 bnd (Zzc m) fun h =>
 bnd (Zg (σ:=(List (List Rat))×Int) (ρ:=List (List Rat)) (fun a =>
 ifb (decide (a.2<h))
 (bnd (α:=List (List Rat))
 (bnd (ZHr c.2.1 a.2) fun i =>
 ifb i
 (some a.1)
 (bnd (Zzc m) fun j =>
 bnd (ZJa (0:Int)) fun k =>
 bnd (ZNc 56 [k] j) fun d =>
 bnd (ZJa (1:Int)) fun l =>
 bnd (idx d a.2) fun u =>
 bnd (Zg (σ:=Int×(List Rat)) (ρ:=List Rat) (fun b =>
 ifb (decide (b.1<(c.2.1.length:Int)))
 (bnd (idx c.2.1 b.1) fun e =>
 bnd (idx c.1 b.1) fun n =>
 bnd (idx n a.2) fun o =>
 bnd (ZGa o) fun p =>
 bnd (idx b.2 e) fun v =>
 bnd (chk .i64 (b.1+(1:Int))) fun q =>
 some (.inl (q,b.2.set e.toNat p)))
 (some (.inr b.2)))
        Zi ((0:Int),d.set a.2.toNat l)) fun f =>
 bnd (ZC 24 (a.1++[f])) fun _ =>
 some (a.1++[f]))) fun r =>
 bnd (chk .i64 (a.2+(1:Int))) fun s =>
 some (.inl (r,s)))
 (some (.inr a.1)))
   Zi (([]:List (List Rat)),(0:Int))) fun t =>
 some (t,(0:Int)))
noncomputable def ZMu (x:(Rat×Rat×Rat×Rat)×Rat×Rat×Rat×Rat) (y:(Rat×Rat×Rat×Rat)×Rat×Rat×Rat×Rat):Option ((Rat×Rat×Rat×Rat)×Rat×Rat×Rat×Rat) :=
 bnd (Zee x.1 y.1) fun a =>
 bnd (Zee x.2 y.2) fun b =>
 some (a,b)
noncomputable def Zev (x:(Rat×Rat×Rat×Rat)×Rat×Rat×Rat×Rat):Option Bool :=
 bnd (α:=Bool)
 (bnd (Z4f x.1) fun a =>
 ifb a
 (bnd (Z4f x.2) fun b =>
 some b)
 (some false)) fun c =>
 some c
noncomputable def Zot (x:(Rat×Rat×Rat×Rat)×Rat×Rat×Rat×Rat) (y:(Rat×Rat×Rat×Rat)×Rat×Rat×Rat×Rat):Option Bool :=
 bnd (ZMu x y) fun a =>
 bnd (Zev a) fun b =>
 some b
noncomputable def is2_m (x:List Rat) (y:List ((Rat×Rat×Rat×Rat)×Rat×Rat×Rat×Rat)):Option Bool :=
 ifb ((x.length:Int) != (y.length:Int))
 (some false)
 (bnd (Zg (σ:=Int) (ρ:=Unit ⊕ Bool) (fun a =>
 ifb (decide (a<(x.length:Int)))
 (bnd (α:=Bool)
 (bnd (idx x a) fun b =>
 bnd (idx y a) fun c =>
 bnd (is1_m b c.1.1) fun d =>
 ifb (!d)
 (some true)
 (bnd (idx y a) fun e =>
 bnd (idx y a) fun f =>
 bnd (ZGj f.1.1) fun g =>
 bnd (Zot e g) fun h =>
 some (!h))) fun i =>
 ifb i
 (some (.inr (.inr false)))
 (bnd (chk .i64 (a+(1:Int))) fun j =>
 some (.inl j)))
 (some (.inr (.inl ()))))
   Zi (0:Int)) fun k =>
  match k with
| .inl m=>(some true)
| .inr l=>(some l))
noncomputable def Zkn (x:List (List Rat)) (y:List (List ((Rat×Rat×Rat×Rat)×Rat×Rat×Rat×Rat))):Option Bool :=
 ifb ((x.length:Int) != (y.length:Int))
 (some false)
 (bnd (Zg (σ:=Int) (ρ:=Unit ⊕ Bool) (fun a =>
 ifb (decide (a<(x.length:Int)))
 (bnd (idx x a) fun b =>
 bnd (idx y a) fun c =>
 bnd (is2_m b c) fun d =>
 ifb (!d)
 (some (.inr (.inr false)))
 (bnd (chk .i64 (a+(1:Int))) fun e =>
 some (.inl e)))
 (some (.inr (.inl ()))))
   Zi (0:Int)) fun f =>
  match f with
| .inl h=>(some true)
| .inr g=>(some g))
noncomputable def Zue  : Option Bool :=
 bnd (Zyf [[((2:Int),(0:Int)),((4:Int),(0:Int)),((2:Int),(0:Int))],[((1:Int),(0:Int)),((2:Int),(0:Int)),((3:Int),(0:Int))]]) fun c =>
 bnd (Zwv c.1) fun a =>
 bnd (ZCt c.1) fun d =>
 bnd (Zyf [[((1:Int),(0:Int)),((2:Int),(0:Int)),((0:Int),(0:Int))],[((0:Int),(0:Int)),((0:Int),(0:Int)),((1:Int),(0:Int))]]) fun f =>
 bnd (Zyf [[((-2:Int),(0:Int)),((1:Int),(0:Int)),((0:Int),(0:Int))]]) fun g =>
 bnd (ZWv [[((1:Int),(0:Int)),((1:Int),(0:Int))],[((1:Int),(0:Int)),((0:Int),(0:Int))]] [((4:Int),(0:Int)),((2:Int),(0:Int))] [((3:Int),(0:Int)),((2:Int),(0:Int))]) fun e =>
 bnd (ZWp e.1) fun b =>
 bnd (α:=Bool)
 (ifb (a.2.2==(0:Int))
 (ifb (d.2==(0:Int))
 (ifb (b.2==(0:Int))
 (bnd (Zkn a.1 f.2) fun h =>
 ifb h
 (bnd (Zkn d.1 g.2) fun i =>
 ifb i
 (ifb ((a.2.1.length:Int)==(2:Int))
 (bnd (idx a.2.1 (1:Int)) fun j =>
 ifb (j==(2:Int))
 (ifb (b.1.1==(1:Int))
 (bnd (Zsg b.1.2.1) fun k =>
 ifb (k==([49,48]:List UInt8))
 (bnd (Z8s e.1 b.1) fun l =>
 some l)
 (some false))
 (some false))
 (some false))
 (some false))
 (some false))
 (some false))
 (some false))
 (some false))
 (some false)) fun m =>
 some m
theorem Zsr:Zue=some true:=by decide +kernel
noncomputable def Z2l (a:List (List (Int×Int))) (b:List (Int×Int)) (c:List (Int×Int)):Option Bool :=
 bnd (α:=Bool)
 (bnd (Z6l a) fun d =>
 ifb d
 (ifb (decide ((b.length:Int)<(200:Int)))
 (some (decide ((c.length:Int)<(200:Int))))
 (some false))
 (some false)) fun e =>
 some e
set_option maxRecDepth 100000
variable {m n:Nat} {A:Mx} {B C:Nat→Rat}
theorem ZcB {m:List (List (Int×Int))} {n:Nat} (h:∀ r,r ∈ m→r.length=n):m.map (·.map fun r=>sq (Zx r))=smx m.length n (rt m):=by
 rw [Z5c []];refine Zy fun i hi=>?_;rw [Z5c (0,0) fun r=>sq (Zx r)];have hk':m.getD i []=m[i]:=by simp [List.getD_eq_getElem?_getD,hi]
 rw [hk',h _ (List.getElem_mem hi),← hk'];rfl
theorem ZWs (l:List (Int×Int)):(l.map fun r=>sq (Zx r))=sv l.length (rv l):=Z5c (0,0) (fun r=>sq (Zx r)) l
theorem ZZz (a:List (List (Int×Int))) (b c:List (Int×Int)) (hr:∀ r,r ∈ a→r.length≤1048576):∃ e,Z2l a b c=some e∧(e=true→a.length<200∧(okM a→a.length≤6∧(a.headD []).length≤6)∧b.length<200∧c.length<200):=by
 obtain ⟨e,h1,h2⟩:=Z2z a hr;unfold Z2l;rw [h1,Za]
 cases e with
 | false=>exact ⟨false,by rw [Ze,Za],by simp⟩
 | true =>
  rw [Zd];obtain ⟨h3,h4⟩:=h2 rfl;by_cases hb:b.length<200
  ·rw [decide_eq_true (show (b.length:Int)<(200:Int) by omega),Zd,Za];refine ⟨_,rfl,fun h=>?_⟩;have:=of_decide_eq_true h;exact ⟨h3,h4,hb,by omega⟩
  ·rw [decide_eq_false (show ¬ (b.length:Int)<(200:Int) by omega),Ze,Za];exact ⟨false,rfl,by simp⟩
structure Miss (R n:Nat) (A:Mx) (B H:Nat→Rat) (x:Nat→Rat) (s:Rat):Prop where
 nn:∀ k,k<n→0≤x k
 lo:∀ i,i<R→B i-H i*s≤sm n (fun k=>A i k*x k)
 hi:∀ i,i<R→sm n (fun k=>A i k*x k)≤B i+H i*s
structure MissD (R n:Nat) (A:Mx) (B H:Nat→Rat) (u v:Nat→Rat) (r:Rat):Prop where
 nu:∀ i,i<R→0≤u i
 nv:∀ i,i<R→0≤v i
 le:∀ k,k<n→0≤sm R (fun i=>(u i-v i)*A i k)
 w:sm R (fun i=>H i*u i)+sm R (fun i=>H i*v i)≤1
 r:r=sm R (fun i=>B i*v i)-sm R (fun i=>B i*u i)
noncomputable def Zog (a:List (List (Rat×Rat×Rat×Rat))) (b:List (Rat×Rat×Rat×Rat)) (c:List (Rat×Rat×Rat×Rat)):Option Bool :=
 bnd (α:=Bool)
 (ifb ((a.length:Int) != (b.length:Int))
 (some true)
 (ifb ((a.length:Int) != (c.length:Int))
 (some true)
 (ifb (decide ((32:Int)<(a.length:Int)))
 (some true)
 (some (decide ((48:Int)<(a.length:Int))))))) fun e =>
 ifb e
 (some false)
 (bnd (Zg (σ:=Int) (ρ:=Unit ⊕ Bool) (fun d =>
 ifb (decide (d<(a.length:Int)))
 (bnd (α:=Bool)
 (bnd (idx a d) fun f =>
 bnd (idx a (0:Int)) fun g =>
 ifb ((f.length:Int) != (g.length:Int))
 (some true)
 (bnd (idx a d) fun h =>
 ifb (decide ((32:Int)<(h.length:Int)))
 (some true)
 (bnd (idx a d) fun i =>
 some (decide ((48:Int)<(i.length:Int)))))) fun j =>
 ifb j
 (some (.inr (.inr false)))
 (bnd (chk .i64 (d+(1:Int))) fun k =>
 some (.inl k)))
 (some (.inr (.inl ()))))
   Zi (0:Int)) fun l =>
  match l with
| .inl n=>(some true)
| .inr m=>(some m))
noncomputable def Z8l (a:List (Rat×Rat×Rat×Rat)) (b:List (Rat×Rat×Rat×Rat)):Option (List (Rat×Rat×Rat×Rat)) :=
 bnd (Zg (σ:=(List (Rat×Rat×Rat×Rat))×Int) (ρ:=List (Rat×Rat×Rat×Rat)) (fun c =>
 ifb (decide (c.2<(a.length:Int)))
 (bnd (idx a c.2) fun e =>
 bnd (idx b c.2) fun f =>
 bnd (Zee e f) fun d =>
 bnd (ZC 224 (c.1++[d])) fun _ =>
 bnd (chk .i64 (c.2+(1:Int))) fun g =>
 some (.inl (c.1++[d],g)))
 (some (.inr c.1)))
  Zi (([]:List (Rat×Rat×Rat×Rat)),(0:Int))) fun h =>
 some h
noncomputable def Zmi (a:List (List (Rat×Rat×Rat×Rat))):Option Int :=
 ifb ((a.length:Int)==(0:Int))
 (some (0:Int))
 (bnd (idx a (0:Int)) fun b =>
 some (b.length:Int))
noncomputable def Zbk (a:List (List (Rat×Rat×Rat×Rat))) (u:List (Rat×Rat×Rat×Rat)) (v:List (Rat×Rat×Rat×Rat)):Option Bool :=
 bnd (α:=Bool)
 (ifb ((u.length:Int) != (a.length:Int))
 (some true)
 (ifb ((v.length:Int) != (a.length:Int))
 (some true)
 (bnd (ZSg u) fun c =>
 ifb (!c)
 (some true)
 (bnd (ZSg v) fun d =>
 some (!d))))) fun e =>
 ifb e
 (some false)
 (bnd (Zg (σ:=Int) (ρ:=Unit ⊕ Bool) (fun b =>
 bnd (Zmi a) fun f =>
 ifb (decide (b<f))
 (bnd (Zkk a b) fun g =>
 bnd (Z8l u v) fun h =>
 bnd (Zhd g h) fun i =>
 bnd (ZHf i) fun j =>
 ifb (decide (j<(0:Int)))
 (some (.inr (.inr false)))
 (bnd (chk .i64 (b+(1:Int))) fun k =>
 some (.inl k)))
 (some (.inr (.inl ()))))
   Zi (0:Int)) fun l =>
  match l with
| .inl n=>(some true)
| .inr m=>(some m))
set_option maxRecDepth 100000
variable {R n K:Nat} {A:Mx} {L H:Nat→Rat}
def Znc {α β γ:Type} (a:List (List α)) (b:List β) (c:List γ):Prop:=a.length=b.length∧a.length=c.length∧a.length≤32∧(a.headD []).length≤32∧∀ r,r ∈ a→r.length=(a.headD []).length
theorem Znc.map {α β γ α' β' γ':Type} {a:List (List α)} {b:List β} {c:List γ} (f:α→α') (g:β→β') (h:γ→γ'):Znc (a.map (·.map f)) (b.map g) (c.map h)↔Znc a b c:=by
 have e:((a.map (·.map f)).headD []).length=(a.headD []).length:=by cases a <;> simp
 unfold Znc;rw [e];simp
theorem ZDk {α:Type} {a:List (List α)} (h:0<a.length):a[0]? = some (a.headD []):=by cases a with
 | nil=>cases h
 | cons x r=>rfl
theorem Zcu (a:List (List SR)) (b c:List SR) (ha:a.length≤1000):Dec (Zog a b c) (Znc a b c):=by
 unfold Zog;refine (Zki (P:=a.length=b.length∧a.length=c.length∧a.length≤32) (Q:=∀ k,k<a.length→∀ r,a[k]? = some r→r.length=(a.headD []).length∧r.length≤32) (ZWc (ZAd _ _) fun _=>ZWc (ZAd _ _) fun _=>?_) fun h=>?_).congr ⟨fun h=>⟨h.1.1,h.1.2.1,h.1.2.2,?_,fun r hr=>?_⟩,fun h=>⟨⟨h.1,h.2.1,h.2.2.1⟩,fun k hk r hr=>⟨h.2.2.2.2 r (List.mem_of_getElem? hr),by rw [h.2.2.2.2 r (List.mem_of_getElem? hr)];exact h.2.2.2.1⟩⟩⟩
 ·by_cases h:32<a.length
  ·rw [decide_eq_true (show (32:Int)<(a.length:Int) by omega),Zd];exact Zvk (by omega)
  ·rw [decide_eq_false (show ¬ (32:Int)<(a.length:Int) by omega),Ze,decide_eq_false (show ¬ (48:Int)<(a.length:Int) by omega)];exact Z0l (by omega)
 ·refine (Zko (Q:=True) (Zso a.length (by omega) (fun k=>∀ r,a[k]? = some r→r.length=(a.headD []).length∧r.length≤32) (fun k hk=>?_) ?_) (fun _=>Zvk trivial) rfl).congr ⟨fun h=>h.1,fun h=>⟨h,trivial⟩⟩
  ·rw [decide_eq_true (by omega),Zd,Zz hk,Za,show (0:Int)=((0:Nat):Int) from rfl,ZYm (ZDk (show 0<a.length by omega)),Za,Za,Za];by_cases e:a[k].length=(a.headD []).length
   ·rw [show ((a[k].length:Int) != ((a.headD []).length:Int))=false by simp [e],Ze];by_cases e2:32<a[k].length
    ·rw [decide_eq_true (show (32:Int)<(a[k].length:Int) by omega),Zd,Za,Zd];exact .inr ⟨fun h=>by have:=(h _ (List.getElem?_eq_getElem hk)).2;omega,rfl⟩
    ·rw [decide_eq_false (show ¬ (32:Int)<(a[k].length:Int) by omega),Ze,decide_eq_false (show ¬ (48:Int)<(a[k].length:Int) by omega),Za,Ze,Zk (by omega) (by omega),Za];refine .inl ⟨fun r hr=>?_,rfl⟩;rw [List.getElem?_eq_getElem hk] at hr;cases hr;exact ⟨e,by omega⟩
   ·rw [(ZAd _ _).2 e,Zd,Za,Zd];exact .inr ⟨fun h=>e (h _ (List.getElem?_eq_getElem hk)).1,rfl⟩
  ·rw [decide_eq_false (by omega),Ze]
 ·by_cases h0:0<a.length
  ·exact (h.2 0 h0 _ (ZDk h0)).2
  ·have:a=[]:=List.length_eq_zero_iff.1 (by omega);subst this;exact Nat.zero_le 32
 ·obtain ⟨k,hk,e⟩:=List.mem_iff_getElem.1 hr;exact (h.2 k hk r (by rw [List.getElem?_eq_getElem hk,e])).1
theorem Zrp (h0:R=0→n=0):Zmi (smx R n A)=some (n:Int):=by
 unfold Zmi;rw [ZTd];by_cases h:R=0
 ·rw [show ((R:Int)==0)=true by simp [h],Zd,h0 h];rfl
 ·rw [show ((R:Int)==0)=false by simp [h],Ze,show (0:Int)=((0:Nat):Int) from rfl,Zqo _ (by omega),Za,ZQb]
theorem Zcw {u v:Nat→Rat} (hu:∀ j,j<R→sz K (u j)) (hv:∀ j,j<R→sz K (v j)) (hR:R≤1000) (hK:2*K+1≤300000000):Z8l (sv R u) (sv R v)=some (sv R fun i=>u i-v i):=by
 unfold Z8l;refine Zo (ZH (fun q=>(sv q fun i=>u i-v i,(q:Int))) R rfl (by omega) (fun q hq=>?_) ?_) rfl
 ·simp only [ZQb];have e:(sv q fun i=>u i-v i)++[sq (u q-v q)]=sv (q+1) fun i=>u i-v i:=Z5a q fun i=>sq (u i-v i);rw [decide_eq_true (by omega),Zd,ZBf _ hq,Za,ZBf _ hq,Za,ZBj (hu q hq) (hv q hq) (by omega),Za,e,Zea (by rw [ZQb];omega),Za,Zk (by omega) (by omega),Za];rfl
 ·simp only [ZQb];rw [decide_eq_false (by omega),Ze]
theorem dif_sz {u v:Nat→Rat} (hA:∀ i j,i<R→j<n→sz K (A i j)) (hu:∀ j,j<R→sz K (u j)) (hv:∀ j,j<R→sz K (v j)) (hR:R≤60) {k:Nat} (hk:k<n):sz (61*(3*K+2)) (sm R fun i=>A i k*(u i-v i)):=by
 have:=smz (n:=R) fun i hi=>ZPa (hA i k hi hk) (Zaf (hu i hi) (hv i hi));refine this.mono ?_;have:R*(K+(K+K+1)+1)≤60*(K+(K+K+1)+1):=Nat.mul_le_mul_right _ hR;omega
theorem ZJA {q r:Nat} {u v:Nat→Rat} (h0:R=0→n=0) (hA:∀ i j,i<R→j<n→sz K (A i j)) (hu:∀ j,j<q→sz K (u j)) (hv:∀ j,j<r→sz K (v j)) (hR:R≤60) (hn:n≤60) (hq:q≤60) (hr:r≤60) (hK:62*(3*K+2)≤700000000) :
  Dec (Zbk (smx R n A) (sv q u) (sv r v)) (q=R∧r=R∧(∀ i,i<R→0≤u i)∧(∀ i,i<R→0≤v i)∧∀ k,k<n→0≤sm R (fun i=>(u i-v i)*A i k)):=by
 unfold Zbk;simp only [ZQb,ZTd];refine (Zki (P:=q=R∧r=R∧(∀ i,i<q→0≤u i)∧∀ i,i<r→0≤v i) (Q:=∀ k,k<n→0≤sm R (fun i=>(u i-v i)*A i k)) (ZWc (ZAd q R) fun _=>ZWc (ZAd r R) fun _=>Zwl (Z8n hu (by omega) (by omega)) fun _=>ZKl (Z8n hv (by omega) (by omega))) fun h=>?_).congr ⟨fun h=>⟨h.1.1,h.1.2.1,fun i hi=>h.1.2.2.1 i (by have:=h.1.1;omega),fun i hi=>h.1.2.2.2 i (by have:=h.1.2.1;omega),h.2⟩,fun h=>⟨⟨h.1,h.2.1,fun i hi=>h.2.2.1 i (by have:=h.1;omega),fun i hi=>h.2.2.2.1 i (by have:=h.2.1;omega)⟩,h.2.2.2.2⟩⟩;obtain ⟨rfl,rfl,_⟩:=h;refine (Zko (Q:=True) (Zso n (by omega) (fun k=>0≤sm r (fun i=>(u i-v i)*A i k)) (fun k hk=>?_) ?_) (fun _=>Zvk trivial) rfl).congr ⟨fun h=>h.1,fun h=>⟨h,trivial⟩⟩
 ·have e:sm r (fun i=>A i k*(u i-v i))=sm r (fun i=>(u i-v i)*A i k):=ZT fun i _=>Rat.mul_comm _ _;have zd:∀ j,j<r→sz (K+K+1) (u j-v j):=fun j hj=>Zaf (hu j hj) (hv j hj);rw [Zrp h0,Za,decide_eq_true (by omega),Zd,ZBy hk (by omega),Za,Zcw hu hv (by omega) (by omega),Za,Zgr (fun i hi=>hA i k hi hk) zd (by omega) (Nat.le_refl r) (by
   have:(r+1)*(K+(K+K+1)+1)≤61*(K+(K+K+1)+1):=Nat.mul_le_mul_right _ (by omega);omega),Za,Znj (dif_sz hA hu hv hR hk) (by omega),Za,e]
  by_cases h:0≤sm r (fun i=>(u i-v i)*A i k)
  ·exact .inl ⟨h,by rw [decide_eq_false (fun e=>by have:=(ZXa _).1 e;grind),Ze,Zk (by omega) (by omega),Za];rfl⟩
  ·exact .inr ⟨h,by rw [decide_eq_true ((ZXa _).2 (Rat.not_le.1 h)),Zd]⟩
 ·rw [Zrp h0,Za,decide_eq_false (by omega),Ze]
theorem bnd_sv {b c:Nat→Rat} (h0:R=0→n=0) (hR:R≤32) (hn:n≤32):Znc (smx R n A) (sv R b) (sv R c):=by
 have hd:((smx R n A).headD []).length=n:=by
  by_cases h:R=0
  ·rw [h,h0 h];rfl
  ·have:=ZDk (a:=smx R n A) (by rw [ZTd];omega);rw [show (smx R n A)[0]? = some (sv n (A 0)) from Z7b _ (by omega)] at this;rw [← Option.some.inj this,ZQb]
 refine ⟨by rw [ZTd,ZQb],by rw [ZTd,ZQb],by rw [ZTd];exact hR,by rw [hd];exact hn,fun r hr=>?_⟩;obtain ⟨i,_,rfl⟩:=List.mem_map.1 hr;rw [hd,ZQb]
theorem ZOm {b c:Nat→Rat} (h0:R=0→n=0) (hR:R≤32) (hn:n≤32):Zog (smx R n A) (sv R b) (sv R c)=some true:=by
 obtain ⟨z,e,h⟩:=Zcu (smx R n A) (sv R b) (sv R c) (by rw [ZTd];omega);rw [e,h.2 (bnd_sv h0 hR hn)]
set_option maxRecDepth 100000
abbrev AnsT:=Int×Rat×(List Rat)×(List Rat)×(List Rat)
namespace ZBe
variable {m n W:Nat} {A:Mx} {B C:Nat→Rat} {z:AnsT}
theorem mono {W':Nat} (h:ZBe m n W A B C z) (hw:W≤W'):ZBe m n W' A B C z:=by
 rcases h with ⟨y,h1,h2,h3⟩ | ⟨x,y,v,h1,h2,h3,h4,h5,h6,h7,h8⟩ | ⟨x,d,h1,h2,h3,h4,h5⟩
 ·exact .inl ⟨y,h1,h2,fun i hi=>(h3 i hi).mono hw⟩
 ·exact .inr (.inl ⟨x,y,v,h1,h2,h3,h4,h5,fun i hi=>(h6 i hi).mono hw,fun i hi=>(h7 i hi).mono hw,h8.mono hw⟩)
 ·exact .inr (.inr ⟨x,d,h1,h2,h3,fun i hi=>(h4 i hi).mono hw,fun i hi=>(h5 i hi).mono hw⟩)
theorem k1 (h:ZBe m n W A B C z) (hk:z.1=1):∃ x y,Feas m n A B x∧z.2.1=sm n (fun k=>C k*x k)∧Dual m n A B C y∧z.2.1=sm m (fun i=>B i*y i):=by
 rcases h with ⟨y,rfl,_⟩ | ⟨x,y,v,rfl,h2,h3,h4,h5,_⟩ | ⟨x,d,rfl,_⟩
 ·cases hk
 ·exact ⟨x,y,h2,h3,h4,h5⟩
 ·cases hk
theorem least (h:ZBe m n W A B C z) (hk:z.1=1) {y:Nat→Rat} (hy:Dual m n A B C y):z.2.1≤sm m (fun i=>B i*y i):=by
 obtain ⟨x,_,h2,h3,_⟩:=h.k1 hk;rw [h3];exact weak h2 hy
end ZBe
noncomputable def Zhj (l:List Rat):Option (List Rat) :=
 bnd (Zg (σ:=(List Rat)×Int) (ρ:=List Rat) (fun a =>
 ifb (decide (a.2<(l.length:Int)))
 (bnd (idx l a.2) fun c =>
 bnd (ZGa c) fun b =>
 bnd (ZC 56 (a.1++[b])) fun _ =>
 bnd (chk .i64 (a.2+(1:Int))) fun d =>
 some (.inl (a.1++[b],d)))
 (some (.inr a.1)))
  Zi (([]:List Rat),(0:Int))) fun e =>
 some e
noncomputable def Zyh (half:List Rat):Option Bool :=
 bnd (α:=Int)
 (bnd (Zg (σ:=Int) (ρ:=Unit ⊕ Int) (fun a =>
 ifb (decide (a<(half.length:Int)))
 (bnd (idx half a) fun b =>
 bnd (Z8 b) fun c =>
 ifb (decide (c≤(0:Int)))
 (some (.inr (.inr a)))
 (bnd (chk .i64 (a+(1:Int))) fun d =>
 some (.inl d)))
 (some (.inr (.inl ()))))
   Zi (0:Int)) fun e =>
  match e with
| .inl h=>(some (-1:Int))
| .inr f=>(some f)) fun g =>
 some (decide ((0:Int)≤g))
noncomputable def ZLf (a:List (List Rat)) (lo:List Rat) (hi:List Rat):Option Bool :=
 bnd (α:=Bool)
 (bnd (Zuf a) fun b =>
 ifb b
 (ifb (decide ((a.length:Int)≤(48:Int)))
 (bnd (Zzc a) fun c =>
 ifb (decide (c≤(48:Int)))
 (ifb ((lo.length:Int)==(a.length:Int))
 (some ((hi.length:Int)==(a.length:Int)))
 (some false))
 (some false))
 (some false))
 (some false)) fun d =>
 some d
set_option maxRecDepth 100000
variable {m n R:Nat} {A:Mx} {B C:Nat→Rat}
theorem Zom {α:Type} {N i j:Nat} (f:Nat→α) (h:i≤j) (hj:j≤N):ZR (vx N f) (i:Int) (j:Int)=some (vx (j-i) fun k=>f (i+k)):=by
 unfold ZR;rw [Zj,if_pos (by omega)];congr 1;refine List.ext_getElem (by simp [Zj];omega) fun a h1 h2=>?_;simp [vx]
theorem vx_join {α:Type} (n m:Nat) (f g:Nat→α):vx n f++vx m g=vx (n+m) fun i=>if i<n then f i else g (i-n):=by
 apply List.ext_getElem?;intro i;by_cases h:i<n
 ·rw [List.getElem?_append_left (by rw [Zj];exact h),Z7b _ h,Z7b _ (by omega),if_pos h]
 ·rw [List.getElem?_append_right (by rw [Zj];omega),Zj];by_cases h2:i-n<m
  ·rw [Z7b _ h2,Z7b _ (by omega),if_neg h]
  ·rw [List.getElem?_eq_none (by rw [Zj];omega),List.getElem?_eq_none (by rw [Zj];omega)]
theorem ZMt {f:Nat→Rat} (hn:n≤1000):Zhj (vx n f)=some (vx n fun i=>- f i):=by
 unfold Zhj ZGa;refine Zo (ZH (fun q=>(vx q fun i=>- f i,(q:Int))) n rfl (by omega) (fun q hq=>?_) ?_) rfl
 ·simp only [Zj];rw [decide_eq_true (by omega),Zd,Zm _ hq,Za,Za,Z5a q fun i=>- f i,Zea (by rw [Zj];omega),Za,Zk (by omega) (by omega),Za];rfl
 ·simp only [Zj];rw [decide_eq_false (by omega),Ze]
theorem ZSl {x:Nat→Rat} (hn:n≤1000):∃ b,Zyh (vx n x)=some b∧(b=false ↔ ∀ k,k<n→0<x k):=by
  unfold Zyh;obtain ⟨e,g1,g2⟩:=Z9e (body:=fun s1 =>
    ifb (decide (s1<((vx n x).length:Int)))
    (bnd (idx (vx n x) s1) fun y2 =>
     bnd (Z8 y2) fun y3 =>
     ifb (decide (y3≤(0:Int)))
     (some (.inr (.inr s1)))
     (bnd (chk .i64 (s1+(1:Int))) fun y4 =>
      some (.inl y4)))
    (some (.inr (.inl ())))) n hn (fun k=>¬ 0<x k) (fun k hk=>by
      rw [Zj,decide_eq_true (by omega),Zd,Zm _ hk,Za];unfold Z8;rw [Za];by_cases e:0<x k
      · exact .inr ⟨fun h=>h e,by rw [decide_eq_false (fun h=>by have:=(ZIa _).2 e;omega),Ze,Zk (by omega) (by omega),Za];rfl⟩
      · exact .inl ⟨e,by rw [decide_eq_true (Int.not_lt.1 fun h=>e ((ZIa _).1 h)),Zd]⟩) (by rw [Zj,decide_eq_false (by omega),Ze])
  refine ZI g1 ?_;rcases g2 with ⟨rfl,h⟩ | ⟨k,hk,rfl,h⟩
  · exact ⟨_,rfl,by simp;exact fun k hk=>Classical.not_not.1 (h k hk)⟩
  · refine ⟨_,rfl,?_⟩;rw [decide_eq_true (show (0:Int)≤(k:Int) by omega)];simp;exact ⟨k,hk,h⟩
theorem ZOo {lo hi:Nat→Rat} (h0:R=0→n=0) (hR:R≤32) (hn:n≤32):ZLf (mx R n A) (vx R lo) (vx R hi)=some true:=by
 unfold ZLf;refine Zo (y:=true) ?_ rfl;rw [Zct A h0 hR hn,Za,Zd,Zwa,decide_eq_true (by omega),Zd,ZLh A h0,Za,decide_eq_true (by omega),Zd,Zj,Zj,show ((R:Int)==(R:Int))=true by simp,Zd]
noncomputable def ZVl (a:List (List Rat)) (x:List Rat) (lo:List Rat) (hi:List Rat):Option Bool :=
 bnd (Zzh a x) fun b =>
 bnd (α:=Bool)
 (bnd (Zof lo b) fun c =>
 ifb c
 (bnd (Zof b hi) fun d =>
 some d)
 (some false)) fun e =>
 some e
noncomputable def ZQj (a:List (List Rat)) (u:List Rat) (v:List Rat):Option (List Rat) :=
 bnd (Zg (σ:=(List Rat)×Int) (ρ:=List Rat) (fun b =>
 ifb (decide (b.2<(u.length:Int)))
 (bnd (idx u b.2) fun e =>
 bnd (idx v b.2) fun f =>
 bnd (Zrb e f) fun c =>
 bnd (ZC 56 (b.1++[c])) fun _ =>
 bnd (chk .i64 (b.2+(1:Int))) fun g =>
 some (.inl (b.1++[c],g)))
 (some (.inr b.1)))
  Zi (([]:List Rat),(0:Int))) fun d =>
 bnd (Zzc a) fun h =>
 bnd (ZJe h) fun i =>
 bnd (ZKh (a,d,i) d) fun j =>
 some j
set_option maxRecDepth 100000
variable {R n K:Nat} {A:Mx} {L H:Nat→Rat}
theorem ZMy (x:List (List Rat)):Zzc x=some ((x.headD []).length:Int):=by
 unfold Zzc;by_cases h:x.length=0
 ·rw [show ((x.length:Int)==(0:Int))=true by simp [h],Zd,List.length_eq_zero_iff.1 h];rfl
 ·rw [(show ((x.length:Int)==(0:Int))=false by rw [beq_eq_false_iff_ne];omega),Ze,show (0:Int)=((0:Nat):Int) from rfl,ZYm (ZDk (show 0<x.length by omega)),Za]
theorem ZUw (a:List (List Rat)) (b c:List Rat) (ha:a.length≤1000):Dec (ZLf a b c) (Znc a b c):=by
  unfold ZLf Zuf;rw [ZMy,Za];generalize hn:(a.headD []).length=n;refine (Zhf (Z9k (P:=a.length≤32∧n≤32∧∀ k,k<a.length→∀ r,a[k]? = some r→r.length=n) (Q:=a.length≤48∧n≤48∧b.length=a.length∧c.length=a.length) (Zhf (ZSf (by rw [decide_eq_true_iff];omega) fun h1=>ZSf (by rw [decide_eq_true_iff];omega) fun h2=>?_)) fun h=>ZSf (by rw [decide_eq_true_iff];omega) fun _=>?_)).congr ⟨fun h=>⟨by omega,by omega,h.1.1,by rw [hn];exact h.1.2.1,fun r hr=>?_⟩,fun h=>⟨⟨h.2.2.1,by rw [← hn];exact h.2.2.2.1,fun k hk r hr=>by rw [h.2.2.2.2 r (List.mem_of_getElem? hr),hn]⟩,by have:=h.2.2.1;omega,by have:=h.2.2.2.1;omega,h.1.symm,h.2.1.symm⟩⟩
  · obtain ⟨e,g1,g2⟩:=Z9e (body:=fun s2 =>
       ifb (decide (s2<(a.length:Int)))
       (bnd (idx a s2) fun y3 =>
        ifb ((y3.length:Int) != (n:Int))
        (some (.inr (.inr s2)))
        (bnd (chk .i64 (s2+(1:Int))) fun y4 =>
         some (.inl y4)))
       (some (.inr (.inl ())))) a.length ha (fun k=>∃ r,a[k]? = some r∧r.length≠n) (fun k hk=>by
          rw [decide_eq_true (by omega),Zd,Zz hk,Za];by_cases e:a[k].length=n
          · refine .inr ⟨fun ⟨r,hr,hl⟩=>?_,?_⟩
            · rw [List.getElem?_eq_getElem hk] at hr;cases hr;exact hl e
            · rw [show ((a[k].length:Int) != (n:Int))=false by simp [e],Ze,Zk (by omega) (by omega),Za];rfl
          · exact .inl ⟨⟨_,List.getElem?_eq_getElem hk,e⟩,by rw [(ZAd _ _).2 e,Zd]⟩) (by rw [decide_eq_false (by omega),Ze])
    refine ⟨!(decide ((0:Int)≤e)),Zo g1 rfl,?_⟩;rcases g2 with ⟨rfl,h⟩ | ⟨k,hk,rfl,h⟩
    · refine ⟨fun _ k hk r hr=>Classical.byContradiction fun hne=>h k hk ⟨r,hr,hne⟩,fun _=>rfl⟩
    · rw [decide_eq_true (show (0:Int)≤(k:Int) by omega)];refine ⟨fun h=>(by cases h),fun hall=>?_⟩;obtain ⟨r,hr,hl⟩:=h;exact absurd (hall k hk r hr) hl
  · rw [Za];exact ZSf (by rw [decide_eq_true_iff];omega) fun _=>ZSf (beqN _ _) fun _=>ZKu (beqN _ _)
  · obtain ⟨k,hk,e⟩:=List.mem_iff_getElem.1 hr;rw [hn];exact h.1.2.2 k hk r (by rw [List.getElem?_eq_getElem hk,e])
theorem ZNB {x:Nat→Rat} (hA:∀ i j,i<R→j<n→sz K (A i j)) (hL:∀ i,i<R→sz (61*(2*K+1)) (L i)) (hH:∀ i,i<R→sz (61*(2*K+1)) (H i)) (hx:∀ j,j<n→sz K (x j)) (hR:R≤60) (hn:n≤60) (hK:62*(2*K+1)≤300000000) :
  Dec (ZVl (mx R n A) (vx n x) (vx R L) (vx R H)) ((∀ i,i<R→L i≤sm n (fun k=>A i k*x k))∧∀ i,i<R→sm n (fun k=>A i k*x k)≤H i):=by
 have hk1:(n+1)*(K+K+1)≤1099511627776:=by
  have:(n+1)*(K+K+1)≤61*(K+K+1):=Nat.mul_le_mul_right _ (by omega);omega
 unfold ZVl;rw [timesS hA hx (by omega) (by omega) hk1,Za];exact Zhf (Z9k (ZUq (K:=61*(2*K+1)) (fun i hi=>hL i hi) (fun i hi=>Zsb (hA i · hi ·) hx hn) (by omega) (Nat.le_refl R) (by omega)) fun _=>Zhf (ZUq (K:=61*(2*K+1)) (fun i hi=>Zsb (hA i · hi ·) hx hn) (fun i hi=>hH i hi) (by omega) (Nat.le_refl R) (by omega)))
theorem ZTB {u v:Nat→Rat} (h0:R=0→n=0) (hA:∀ i j,i<R→j<n→sz K (A i j)) (hu:∀ j,j<R→sz K (u j)) (hv:∀ j,j<R→sz K (v j)) (hR:R≤60) (hn:n≤60) (hK:62*(3*K+2)≤700000000):ZQj (mx R n A) (vx R u) (vx R v)=some (vx n fun k=>sm R fun i=>(u i-v i)*A i k):=by
 unfold ZQj;refine Zo (y:=vx R fun i=>u i-v i) (ZH (fun q=>(vx q fun i=>u i-v i,(q:Int))) R rfl (by omega) (fun q hq=>?_) ?_) ?_
 ·simp only [Zj];rw [decide_eq_true (by omega),Zd,Zm _ hq,Za,Zm _ hq,Za,Z2e (hu q hq) (hv q hq) (by omega) (by omega),Za,Z5a q fun i=>u i-v i,Zea (by rw [Zj];omega),Za,Zk (by omega) (by omega),Za];rfl
 ·simp only [Zj];rw [decide_eq_false (by omega),Ze]
 ·rw [ZLh A h0,Za,Zrj (by omega),Za,psumsS (K:=K) (k:=2*K+1) hA (fun i hi=>(Zaf (hu i hi) (hv i hi)).mono (by omega)) (by omega) (by omega) (Nat.le_refl R) (by
   have:(R+1)*(K+(2*K+1)+1)≤61*(K+(2*K+1)+1):=Nat.mul_le_mul_right _ (by omega);omega),Za]
noncomputable def ZKk (l:List Rat) (f:Rat):Option (List Rat) :=
 bnd (Zg (σ:=(List Rat)×Int) (ρ:=List Rat) (fun a =>
 ifb (decide (a.2<(l.length:Int)))
 (bnd (idx l a.2) fun c =>
 bnd (ZWa c f) fun b =>
 bnd (ZC 56 (a.1++[b])) fun _ =>
 bnd (chk .i64 (a.2+(1:Int))) fun d =>
 some (.inl (a.1++[b],d)))
 (some (.inr a.1)))
  Zi (([]:List Rat),(0:Int))) fun e =>
 some e
noncomputable def ZLe (a:List (List Rat)) (b:List Rat) (half:List Rat) (n:Rat×(List Rat)×(List Rat)×(List Rat)):Option Bool :=
 bnd (α:=Bool)
 (bnd (ZLf a b half) fun f =>
 ifb (!f)
 (some true)
 (bnd (Zyh half) fun g =>
 ifb g
 (some true)
 (bnd (Z8 n.1) fun h =>
 ifb (decide (h<(0:Int)))
 (some true)
 (bnd (Zzc a) fun i =>
 ifb ((n.2.1.length:Int) != i)
 (some true)
 (bnd (ZUc n.2.1) fun j =>
 some (!j)))))) fun k =>
 ifb k
 (some false)
 (bnd (α:=Bool)
 (ifb ((n.2.2.1.length:Int) != (a.length:Int))
 (some true)
 (ifb ((n.2.2.2.length:Int) != (a.length:Int))
 (some true)
 (bnd (ZUc n.2.2.1) fun l =>
 ifb (!l)
 (some true)
 (bnd (ZUc n.2.2.2) fun m =>
 ifb (!m)
 (some true)
 (bnd (ZQj a n.2.2.1 n.2.2.2) fun o =>
 bnd (ZUc o) fun p =>
 some (!p)))))) fun q =>
 ifb q
 (some false)
 (bnd (ZKk half n.1) fun d =>
 bnd (ZIb 56 b) fun r =>
 bnd (ZIb 56 b) fun s =>
 bnd (Zg (σ:=Int×(List Rat)×(List Rat)) (ρ:=(List Rat)×(List Rat)) (fun c =>
 ifb (decide (c.1<(b.length:Int)))
 (bnd (idx b c.1) fun t =>
 bnd (idx d c.1) fun u =>
 bnd (Zrb t u) fun v =>
 bnd (idx b c.1) fun w =>
 bnd (idx d c.1) fun x =>
 bnd (Zzb w x) fun y =>
 bnd (idx c.2.1 c.1) fun L =>
 bnd (idx c.2.2 c.1) fun M =>
 bnd (chk .i64 (c.1+(1:Int))) fun z =>
 some (.inl (z,c.2.1.set c.1.toNat v,c.2.2.set c.1.toNat y)))
 (some (.inr (c.2.1,c.2.2))))
    Zi ((0:Int),r,s)) fun e =>
 bnd (Zbc half n.2.2.1) fun A =>
 bnd (Zbc half n.2.2.2) fun B =>
 bnd (Zzb A B) fun C =>
 bnd (α:=Bool)
 (bnd (ZVl a n.2.1 e.1 e.2) fun D =>
 ifb D
 (bnd (ZJa (1:Int)) fun E =>
 bnd (ZKc C E) fun F =>
 ifb (decide (F≤(0:Int)))
 (bnd (Zbc b n.2.2.2) fun G =>
 bnd (Zbc b n.2.2.1) fun H =>
 bnd (Zrb G H) fun I =>
 bnd (ZOf n.1 I) fun J =>
 some J)
 (some false))
 (some false)) fun K =>
 some K))
set_option maxRecDepth 100000
variable {R n K:Nat} {A:Mx} {B H:Nat→Rat}
def NProv (R n:Nat) (A:Mx) (B H:Nat→Rat) (r:Rat) (p q s:Nat) (x u v:Nat→Rat):Prop :=
 (∀ i,i<R→0<H i)∧0≤r∧p=n∧q=R∧s=R∧Miss R n A B H x r∧MissD R n A B H u v r
theorem Zaw {k m:Nat} {f:Nat→Rat} {r:Rat} (hf:∀ i,i<R→sz k (f i)) (hr:sz m r) (hk:k≤1099511627776) (hm:m≤1099511627776) (hR:R≤1000):ZKk (vx R f) r=some (vx R fun i=>f i*r):=by
 unfold ZKk;refine Zo (ZH (fun q=>(vx q fun i=>f i*r,(q:Int))) R rfl (by omega) (fun q hq=>?_) ?_) rfl
 ·simp only [Zj];rw [decide_eq_true (by omega),Zd,Zm _ hq,Za,ZAc (hf q hq) hr hk hm,Za,Z5a q fun i=>f i*r,Zea (by rw [Zj];omega),Za,Zk (by omega) (by omega),Za];rfl
 ·simp only [Zj];rw [decide_eq_false (by omega),Ze]
theorem ZAu {r:Rat} {p q s:Nat} {x u v:Nat→Rat} (h0:R=0→n=0) (hA:∀ i j,i<R→j<n→sz K (A i j)) (hB:∀ i,i<R→sz K (B i)) (hH:∀ i,i<R→sz K (H i)) (zr:sz K r) (hx:∀ j,j<p→sz K (x j)) (hu:∀ j,j<q→sz K (u j)) (hv:∀ j,j<s→sz K (v j)) (hR:R≤32) (hn:n≤32) (hp:p≤60) (hq:q≤60) (hs:s≤60) (hK:62*(3*K+2)≤350000000) :
    Dec (ZLe (mx R n A) (vx R B) (vx R H) (r,vx p x,vx q u,vx s v)) (NProv R n A B H r p q s x u v):=by
  unfold ZLe;have hK2:62*(2*K+1)≤300000000:=by omega
  rw [ZOo h0 hR hn,Za,ZMe];simp only [Zj,Zwa];have nar:Dec (bnd (Zyh (vx R H)) fun b=>some (!b)) (∀ i,i<R→0<H i):=by
    obtain ⟨b,h1,h2⟩:=ZSl (n:=R) (x:=H) (by omega);exact ⟨!b,by rw [h1,Za],by cases b <;> simp_all⟩
  refine (Zki (P:=(∀ i,i<R→0<H i)∧0≤r∧p=n∧∀ k,k<p→0≤x k) (Q:=(q=R∧s=R∧(∀ i,i<q→0≤u i)∧(∀ i,i<s→0≤v i)∧∀ k,k<n→0≤sm R (fun i=>(u i-v i)*A i k))∧((∀ i,i<R→B i-H i*r≤sm n (fun k=>A i k*x k))∧∀ i,i<R→sm n (fun k=>A i k*x k)≤B i+H i*r)∧sm R (fun i=>H i*u i)+sm R (fun i=>H i*v i)≤1∧r=sm R (fun i=>B i*v i)-sm R (fun i=>B i*u i)) ?_ fun h=>?_).congr ⟨fun h=>?_,fun h=>?_⟩
  · obtain ⟨b,h1,h2⟩:=ZSl (n:=R) (x:=H) (by omega);rw [h1,Za];refine ZWc (by cases b <;> simp_all) fun _=>?_;unfold Z8;rw [Za];refine ZWc (P:=0≤r) (by rw [decide_eq_true_iff,ZXa,Rat.not_le]) fun _=>?_;rw [ZLh A h0,Za];exact ZWc (ZAd p n) fun _=>ZKl (Zcl (by omega))
  · obtain ⟨_,r0,rfl,_⟩:=h;refine Zki (ZWc (ZAd q R) fun e1=>ZWc (ZAd s R) fun e2=>Zwl (Zcl (by omega)) fun _=>Zwl (Zcl (by omega)) fun _=>?_) fun h=>?_
    · subst e1;subst e2;rw [ZTB h0 hA hu hv hs (by omega) (by omega),Za];exact ZKl (Zcl (by omega))
    · obtain ⟨rfl,rfl,_⟩:=h;have zo:∀ i,i<s→sz (K+K) (H i*r):=fun i hi=>ZPa (hH i hi) zr;rw [Zaw hH zr (by omega) (by omega) (by omega),Za,ZDe (by rw [Zj];omega),Za,Za];have zl:∀ i,i<s→sz (61*(2*K+1)) (B i-H i*r):=fun i hi=>(Zaf (hB i hi) (zo i hi)).mono (by omega);have zh:∀ i,i<s→sz (61*(2*K+1)) (B i+H i*r):=fun i hi=>(ZGg (hB i hi) (zo i hi)).mono (by omega);have lp:Zg (σ:=Int×(List Rat)×(List Rat)) (ρ:=(List Rat)×(List Rat)) (fun s15 =>
         ifb (decide (s15.1<(s:Int)))
         (bnd (idx (vx s B) s15.1) fun y16 =>
          bnd (idx (vx s fun i=>H i*r) s15.1) fun y17 =>
          bnd (Zrb y16 y17) fun y18 =>
          bnd (idx (vx s B) s15.1) fun y19 =>
          bnd (idx (vx s fun i=>H i*r) s15.1) fun y20 =>
          bnd (Zzb y19 y20) fun y21 =>
          bnd (idx s15.2.1 s15.1) fun y22 =>
          bnd (idx s15.2.2 s15.1) fun y23 =>
          bnd (chk .i64 (s15.1+(1:Int))) fun y24 =>
          some (.inl (y24,s15.2.1.set s15.1.toNat y18,s15.2.2.set s15.1.toNat y21)))
         (some (.inr (s15.2.1,s15.2.2))))
        Zi ((0:Int),vx s B,vx s B)=some (vx s fun i=>B i-H i*r,vx s fun i=>B i+H i*r):=by
        refine ZH (fun q=>((q:Int),vx s (fun i=>if i<q then B i-H i*r else B i),vx s (fun i=>if i<q then B i+H i*r else B i))) s ?_ (by omega) (fun q hq=>?_) ?_
        · exact Prod.ext rfl (Prod.ext (Zy fun i _=>if_neg (by omega)) (Zy fun i _=>if_neg (by omega)))
        · simp only;rw [decide_eq_true (by omega),Zd,Zm _ hq,Za,Zm _ hq,Za,Z2e (hB q hq) (zo q hq) (by omega) (by omega),Za,Za,Za,Zxg (hB q hq) (zo q hq) (by omega) (by omega),Za,Zm _ hq,Za,Zm _ hq,Za,Zk (by omega) (by omega),Za];simp only [Int.toNat_natCast,ZCa];refine congrArg (fun x=>some (Sum.inl x)) (Prod.ext (by simp) (Prod.ext (Zy fun i hi=>?_) (Zy fun i hi=>?_)))
          · by_cases e:i=q
            · rw [if_pos e,if_pos (by omega),e]
            · rw [if_neg e];by_cases e2:i<q
              · rw [if_pos e2,if_pos (by omega)]
              · rw [if_neg e2,if_neg (by omega)]
          · by_cases e:i=q
            · rw [if_pos e,if_pos (by omega),e]
            · rw [if_neg e];by_cases e2:i<q
              · rw [if_pos e2,if_pos (by omega)]
              · rw [if_neg e2,if_neg (by omega)]
        · simp only;rw [decide_eq_false (by omega),Ze];exact congrArg (fun x=>some (Sum.inr x)) (Prod.ext (Zy fun i hi=>if_pos hi) (Zy fun i hi=>if_pos hi))
      rw [lp,Za,Zfk (N:=0) hH hu hq hK2,Za,Zfk (N:=0) hH hv hs hK2,Za,Zxg (Zsb hH hu hq) (Zsb hH hv hs) (by omega) (by omega),Za];refine Zhf (Z9k (ZNB hA zl zh hx (by omega) hp hK2) fun _=>?_);rw [Z1b,Za,show (((1:Int)):Rat)=1 from rfl,ZTh (ZGg (Zsb hH hu hq) (Zsb hH hv hs)) ZPf (by omega) (by omega),Za];refine ZSf (by rw [decide_eq_true_iff,← Int.not_lt,ZIa];grind) fun _=>?_;rw [Zfk (N:=0) hB hv hs hK2,Za,Zfk (N:=0) hB hu hq hK2,Za,Z2e (Zsb hB hv hs) (Zsb hB hu hq) (by omega) (by omega),Za];exact Zhf (ZZy _ _)
  · obtain ⟨⟨a1,a2,a3,a4⟩,⟨b1,b2,b3,b4,b5⟩,⟨c1,c2⟩,c3,c4⟩:=h;exact ⟨a1,a2,a3,b1,b2,⟨fun k hk=>a4 k (by omega),c1,c2⟩,⟨fun i hi=>b3 i (by omega),fun i hi=>b4 i (by omega),b5,c3,c4⟩⟩
  · obtain ⟨a1,a2,a3,b1,b2,h1,h2⟩:=h;exact ⟨⟨a1,a2,a3,fun k hk=>h1.nn k (by omega)⟩,⟨b1,b2,fun i hi=>h2.nu i (by omega),fun i hi=>h2.nv i (by omega),h2.le⟩,⟨h1.lo,h1.hi⟩,h2.w,h2.r⟩
noncomputable def ZTl (a:List (List (Rat×Rat×Rat×Rat))) (b:List (Rat×Rat×Rat×Rat)) (half:List (Rat×Rat×Rat×Rat)) (r:Rat×Rat×Rat×Rat) (x:List (Rat×Rat×Rat×Rat)) (u:List (Rat×Rat×Rat×Rat)) (v:List (Rat×Rat×Rat×Rat)):Option Bool :=
 bnd (α:=Bool)
 (bnd (Zog a b half) fun f =>
 ifb (!f)
 (some true)
 (bnd (ZHf r) fun g =>
 ifb (decide (g<(0:Int)))
 (some true)
 (bnd (Zmi a) fun h =>
 ifb ((x.length:Int) != h)
 (some true)
 (bnd (ZSg x) fun i =>
 ifb (!i)
 (some true)
 (bnd (Zbk a u v) fun j =>
 some (!j)))))) fun k =>
 ifb k
 (some false)
 (bnd (Zg (σ:=Int) (ρ:=Unit ⊕ Bool) (fun c =>
 ifb (decide (c<(a.length:Int)))
 (bnd (idx half c) fun l =>
 bnd (ZHf l) fun m =>
 ifb (decide (m≤(0:Int)))
 (some (.inr (.inr false)))
 (bnd (idx a c) fun n =>
 bnd (Zhd n x) fun o =>
 bnd (idx b c) fun p =>
 bnd (Zee o p) fun d =>
 bnd (idx half c) fun q =>
 bnd (Z8i r q) fun e =>
 bnd (α:=Bool)
 (bnd (Z4g d e) fun s =>
 ifb (decide ((0:Int)<s))
 (some true)
 (bnd (ZTi d) fun t =>
 bnd (Z4g t e) fun w =>
 some (decide ((0:Int)<w)))) fun y =>
 ifb y
 (some (.inr (.inr false)))
 (bnd (chk .i64 (c+(1:Int))) fun z =>
 some (.inl z))))
 (some (.inr (.inl ()))))
   Zi (0:Int)) fun A =>
  match A with
| .inl N=>(bnd (Zhd half u) fun B =>
 bnd (Zhd half v) fun C =>
 bnd (Z1h B C) fun D =>
 bnd (α:=Bool)
 (bnd (Zaa (1:Int)) fun E =>
 bnd (Zbd E) fun F =>
 bnd (Z4g D F) fun G =>
 ifb (decide (G≤(0:Int)))
 (bnd (Zhd b v) fun H =>
 bnd (Zhd b u) fun I =>
 bnd (Zee H I) fun J =>
 bnd (ZSi r J) fun K =>
 some K)
 (some false)) fun L =>
 some L)
| .inr M=>(some M))
set_option maxRecDepth 100000
variable {R n K:Nat} {A:Mx} {B H:Nat→Rat}
theorem ZBw {r:Rat} {p q s:Nat} {x u v:Nat→Rat} (h0:R=0→n=0) (hA:∀ i j,i<R→j<n→sz K (A i j)) (hB:∀ i,i<R→sz K (B i)) (hH:∀ i,i<R→sz K (H i)) (zr:sz K r) (hx:∀ j,j<p→sz K (x j)) (hu:∀ j,j<q→sz K (u j)) (hv:∀ j,j<s→sz K (v j)) (hR:R≤32) (hn:n≤32) (hp:p≤60) (hq:q≤60) (hs:s≤60) (hK:62*(3*K+2)≤350000000) :
  Dec (ZTl (smx R n A) (sv R B) (sv R H) (sq r) (sv p x) (sv q u) (sv s v)) (NProv R n A B H r p q s x u v):=by
 unfold ZTl;have hK2:62*(2*K+1)≤300000000:=by omega
 rw [ZOm h0 hR hn,Za,ZMe,Znj zr (by omega),Za,Zrp h0,Za];simp only [ZQb,ZTd];refine (Zki (P:=0≤r∧p=n∧(∀ k,k<p→0≤x k)∧(q=R∧s=R∧(∀ i,i<R→0≤u i)∧(∀ i,i<R→0≤v i)∧∀ k,k<n→0≤sm R (fun i=>(u i-v i)*A i k))) (Q:=(∀ i,i<R→0<H i∧B i-H i*r≤sm n (fun k=>A i k*x k)∧sm n (fun k=>A i k*x k)≤B i+H i*r)∧sm R (fun i=>H i*u i)+sm R (fun i=>H i*v i)≤1∧r=sm R (fun i=>B i*v i)-sm R (fun i=>B i*u i)) ?_ fun h=>?_).congr ⟨fun h=>?_,fun h=>?_⟩
 ·refine ZWc (P:=0≤r) (by rw [decide_eq_true_iff,ZXa,Rat.not_le]) fun _=>ZWc (ZAd p n) fun _=>Zwl (Z8n hx (by omega) (by omega)) fun _=>ZKl (ZJA h0 hA hu hv (by omega) (by omega) hq hs (by omega))
 ·obtain ⟨r0,rfl,_,rfl,rfl,_⟩:=h;refine Zko (Zso s (by omega) (fun i=>0<H i∧B i-H i*r≤sm p (fun k=>A i k*x k)∧sm p (fun k=>A i k*x k)≤B i+H i*r) (fun i hi=>?_) ?_) (fun _=>?_) rfl
  ·rw [decide_eq_true (by omega),Zd,ZBf _ hi,Za,Znj (hH i hi) (by omega),Za];by_cases hh:0<H i
   ·have zd:=Zaf (Zsb (hA i · hi ·) hx hp) (hB i hi);have zm:=ZPa zr (hH i hi);rw [decide_eq_false (fun e=>by have:=(ZIa _).2 hh;omega),Ze,Zqo _ hi,Za,Zqi (hA i · hi ·) hx hp (Nat.le_refl p) hK2,Za,ZBf _ hi,Za,ZBj (Zsb (hA i · hi ·) hx hp) (hB i hi) (by omega),Za,Za,ZNp zr (hH i hi) (by omega),Za,ZGp zd zm (by omega),Za];by_cases h1:sm p (fun k=>A i k*x k)≤B i+H i*r
    ·rw [decide_eq_false (fun e=>by have:=(ZIa _).1 e;grind),Ze,Zpq zd (by omega),Za,ZGp (ZTc zd) zm (by omega),Za,Za];by_cases h2:B i-H i*r≤sm p (fun k=>A i k*x k)
     ·exact .inl ⟨⟨hh,h2,h1⟩,by rw [decide_eq_false (fun e=>by have:=(ZIa _).1 e;grind),Ze,Zk (by omega) (by omega),Za];rfl⟩
     ·exact .inr ⟨fun h=>h2 h.2.1,by rw [decide_eq_true ((ZIa _).2 (by have:=Rat.not_le.1 h2;grind)),Zd]⟩
    ·rw [decide_eq_true ((ZIa _).2 (by have:=Rat.not_le.1 h1;grind)),Zd,Za,Zd];exact .inr ⟨fun h=>h1 h.2.2,rfl⟩
   ·rw [decide_eq_true (Int.not_lt.1 fun e=>hh ((ZIa _).1 e)),Zd];exact .inr ⟨fun h=>hh h.1,rfl⟩
  ·rw [decide_eq_false (by omega),Ze]
  ·show Dec (bnd (Zhd (sv s H) (sv s u)) _) _;rw [Zqi hH hu hq (Nat.le_refl _) hK2,Za,Zqi hH hv hs (Nat.le_refl _) hK2,Za,ZIn (Zsb hH hu hq) (Zsb hH hv hs) (by omega),Za];refine Zhf ?_;unfold Zaa;rw [Za,Zij,Za,show (((1:Int)):Rat)=1 from rfl,ZGp (ZGg (Zsb hH hu hq) (Zsb hH hv hs)) ZPf (by omega),Za];refine ZSf (by rw [decide_eq_true_iff,← Int.not_lt,ZIa];grind) fun _=>?_;rw [Zqi hB hv hs (Nat.le_refl _) hK2,Za,Zqi hB hu hq (Nat.le_refl _) hK2,Za,ZBj (Zsb hB hv hs) (Zsb hB hu hq) (by omega),Za];exact Zhf (Z6w zr (Zaf (Zsb hB hv hs) (Zsb hB hu hq)) (by omega))
 ·obtain ⟨⟨a1,a2,a3,b1,b2,b3,b4,b5⟩,c1,c3,c4⟩:=h;exact ⟨fun i hi=>(c1 i hi).1,a1,a2,b1,b2,⟨fun k hk=>a3 k (by omega),fun i hi=>(c1 i hi).2.1,fun i hi=>(c1 i hi).2.2⟩,⟨b3,b4,b5,c3,c4⟩⟩
 ·obtain ⟨a1,a2,a3,b1,b2,h1,h2⟩:=h;exact ⟨⟨a2,a3,fun k hk=>h1.nn k (by omega),b1,b2,h2.nu,h2.nv,h2.le⟩,fun i hi=>⟨a1 i hi,h1.lo i hi,h1.hi i hi⟩,h2.w,h2.r⟩
set_option maxRecDepth 100000
def Z4c (l:List UInt8):Prop:=∀ c ∈ l,48≤c.toNat∧c.toNat≤57
def dv (a:Nat) (l:List UInt8):Nat:=l.foldl (fun a c=>10*a+(c.toNat-48)) a
theorem ZXs (a:Nat) (x y:List UInt8):dv a (x++y)=dv (dv a x) y:=List.foldl_append
theorem Zjm:∀ (l:List UInt8) (a:Nat),dv a l=a*10^l.length+dv 0 l
 | [],a=>by unfold dv;simp
 | c :: l,a=>by
  have e1:dv a (c :: l)=dv (10*a+(c.toNat-48)) l:=rfl
  have e2:dv 0 (c :: l)=dv (10*0+(c.toNat-48)) l:=rfl
  rw [e1,e2,Zjm l (10*a+(c.toNat-48)),Zjm l (10*0+(c.toNat-48)),List.length_cons,Nat.pow_succ]
  generalize 10^l.length=p
  generalize c.toNat-48=d
  grind
theorem dv_lt:∀ (l:List UInt8),Z4c l→dv 0 l<10^l.length
 | [],_=>by unfold dv;simp
 | c :: l,h=>by
  have e2:dv 0 (c :: l)=dv (10*0+(c.toNat-48)) l:=rfl
  have hc:=h c (List.mem_cons_self ..)
  have ih:=dv_lt l fun x hx=>h x (List.mem_cons_of_mem _ hx)
  rw [e2,Zjm l,List.length_cons,Nat.pow_succ]
  generalize 10^l.length=p at *
  have:(10*0+(c.toNat-48))*p≤9*p:=Nat.mul_le_mul_right _ (by omega)
  omega
theorem Zqv:∀ (k n:Nat),n≤k→Z4c (ZF n)∧dv 0 (ZF n)=n
 | k,0,_=>by rw [ZEc];exact ⟨fun c hc=>(by cases hc),rfl⟩
 | 0,n+1,h=>by omega
 | k+1,n+1,h=>by
  obtain ⟨a,b⟩:=Zqv k ((n+1) / 10) (by omega)
  have hd:(UInt8.ofNat (48+(n+1)%10)).toNat=48+(n+1)%10:=by simp;omega
  rw [ZGe (by omega)]
  refine ⟨fun c hc=>?_,?_⟩
  ·rcases List.mem_append.1 hc with hc | hc
   ·exact a c hc
   ·rw [List.mem_singleton.1 hc,hd];omega
  ·rw [ZXs,b]
   show 10*((n+1) / 10)+((UInt8.ofNat (48+(n+1)%10)).toNat-48)=n+1
   rw [hd];omega
theorem ZAr:∀ (k n:Nat),n≤k→n≠0→∃ c l,ZF n=c :: l∧c.toNat≠48
 | k,0,_,h=>absurd rfl h
 | 0,n+1,h,_=>by omega
 | k+1,n+1,h,_=>by
  rw [ZGe (by omega)]
  by_cases h0:(n+1) / 10=0
  ·rw [h0,ZEc]
   exact ⟨_,_,rfl,by simp;omega⟩
  ·obtain ⟨c,l,e,hc⟩:=ZAr k ((n+1) / 10) (by omega) h0
   rw [e]
   exact ⟨c,_,rfl,hc⟩
theorem Zup (n:Nat):Z4c (ZW n)∧dv 0 (ZW n)=n∧0<(ZW n).length∧((ZW n).length=1∨(ZW n).getD 0 0≠48):=by
 unfold ZW;by_cases h:n=0
 ·rw [if_pos h];subst h;exact ⟨fun c hc=>by rw [List.mem_singleton.1 hc];decide,rfl,by decide,.inl rfl⟩
 ·rw [if_neg h];obtain ⟨a,b⟩:=Zqv n n (Nat.le_refl _);obtain ⟨c,l,e,hc⟩:=ZAr n n (Nat.le_refl _) h;refine ⟨a,b,by rw [e];simp,.inr ?_⟩;rw [e];intro k;apply hc;have:c=48:=k;rw [this];rfl
end Go.Eng
namespace Go.Eng
open Go.RowKit
section
variable {P:Program} {N:Nat} {G:V→Value→Prop} {w0:Base} {v0:Zb} {U X:Nat→Prop} {f:Fr} {l:Lo} {a:Act} {w:World} {γ:Nat→Gh} {v:Zb} {ℓ:List Loc} {n:Nat}
variable {d:Option Nat} {ty:TypeId} {pos:String} {aft:Array Edge} {g:Option (Nat×Bool)}
theorem ZZv {ty:TypeId} {t:T} (hs:St N w0 v0 [] ℓ v a w):∀ k:Nat,∃ es,Zna v ty t (List.replicate k (none,0)) (List.replicate k ([]:List t.den)) es∧St N w0 v0 [] (es++ℓ) v a w
 | 0=>⟨[],rfl,hs⟩
 | k+1=>by
  obtain ⟨es,h1,h2⟩:=ZZv hs k
  exact ⟨.own none ty t.n 0 0 [] :: es,⟨[],es,rfl,rfl,h1⟩,h2.nilLoc ty t.n⟩
theorem Z7t {α:Type}:∀ k:Nat,Zp (List.replicate k ((none:Option Nat),0)) (List.replicate k ([]:List α))=(List.replicate k [Value.slice none 0 0]).flatten
 | 0=>rfl
 | k+1=>by simp only [List.replicate_succ,Zp,List.flatten_cons,Z7t k];rfl
theorem ZAA {C:Cf} (hr:RelX N G w0 v0 U X f l a w γ v ℓ) (hU:∀ k,U k→X k) (hX:X n) (hn:¬ U n) {t:TypeId} {x y:Operand} {o:Oper} {Post:Unit→Fr→Lo→Prop} (ho:o=⟨d,.makeSlice t x y,ty,pos,aft,g⟩) (hd:∀ k,o.dst=some k→k<N)
  (h:Zn n (Z1 C n o) f l Post):Zxa C.P N G w0 v0 X o a w Post:=by
 subst ho;simp only [Z1] at h;obtain ⟨V1,h1,_,hA⟩:=ZG hr h;obtain ⟨V2,h2,_,hB⟩:=ZG hr hA;obtain ⟨κ,i,rfl,hC⟩:=Zjb hB;obtain ⟨κ',j,rfl,hD⟩:=Zjb hC;clear h hA hB hC;have h:=hD;obtain ⟨e1,_⟩:=ZHa h1;obtain ⟨e2,_⟩:=ZHa h2;split at h
 ·rename_i q dd hq;obtain ⟨hE,hby⟩:=ZTo hq;obtain ⟨_,hmk,h⟩:=h;obtain ⟨m0,m1,m2,m3⟩:=ZBd hmk;obtain ⟨E,hEE,hp⟩:=hr.lr;have hst:=hr.st.perm hp;obtain ⟨σ,hσ,ev1,ev2⟩:=hst.ev2 x y;rw [e1] at ev1;rw [e2] at ev2;obtain ⟨b,w',hrun,hst'⟩:=Znp hE hσ m0 m1 m2 m3;have hrun':=hrun (d:=some dd) (ty:=ty) (pos:=pos) (aft:=aft) (g:=g) ev1 ev2;split at h
  ·split at h
   ·rename_i q2 r hq2 hz hs1;have hs1:=Nat.eq_of_beq_eq_true hs1;split at h
    ·rename_i s hs;split at h
     ·have hz1:q.z.cells.toList=[.slice none 0 0]:=by
       have h1:=Zff hz;have h2:=hE.cells;rw [hs1] at h2;have h3:q.z.cells.toList.length=1:=by simpa using h2
       rw [h1] at h3 ⊢;simp at h3;rw [h3]
      obtain ⟨es,hR,hst2⟩:=ZZv (ty:=q2.e) (t:=s) hst'.bare i.toNat;have hst3:St N w0 v0 [] (.own (some b) q.e 1 (List.replicate i.toNat ([]:List s.den)).length j.toNat (Zp (List.replicate i.toNat ((none:Option Nat),0)) (List.replicate i.toNat ([]:List s.den))) :: es++E.flatten) v a w':=by
       rw [Z7t,List.length_replicate];rw [hs1,hz1] at hst2;exact hst2.perm List.perm_middle
      have hrun2:=hrun';rw [show (Value.slice (mkA (some b)) i.toNat j.toNat) = .slice (mkA (some b)) (List.replicate i.toNat ([]:List s.den)).length j.toNat by rw [List.length_replicate]] at hrun2;exact Z5l hr hU hX hn hd hEE rfl hR hst3 hrun2 h
     ·exact h.elim
    ·exact h.elim
   ·exact h.elim
  ·split at h
   ·rename_i s hs;split at h
    ·rename_i z r hz hzo hsz;have hsz:=Nat.eq_of_beq_eq_true hsz;obtain ⟨c1,k1,k2⟩:=Z0v (v:=v) hzo hz;have hl:=Rep.len _ k2;have hc:=hE.cells;have hr0:r=[]:=by
      have:q.z.cells.toList.length=q.sz:=by simpa using hc
      rw [k1,List.length_append,hl,ZS,hsz] at this;exact List.length_eq_zero_iff.1 (by omega)
     rw [hr0,List.append_nil] at k1;have hrel:=ZUh k2 i.toNat;rw [k1] at hst';have hst2:St N w0 v0 [] (.own (some b) q.e s.n (List.replicate i.toNat z).length j.toNat (List.replicate i.toNat c1).flatten :: E.flatten) v a w':=by
      rw [List.length_replicate,← hsz];exact hst'.bare
     have hrun2:=hrun';rw [show (Value.slice (mkA (some b)) i.toNat j.toNat) = .slice (mkA (some b)) (List.replicate i.toNat z).length j.toNat by rw [List.length_replicate]] at hrun2;exact ZWg hr hU hX hn hd hEE rfl hst2 hrel hrun2 h
    ·exact h.elim
   ·exact h.elim
 ·exact h.elim
theorem ZZp {x:V} {cs:List Value} (h:RR v γ l false x cs) (hk:x.ok U):RR v γ l false (Z6f x) cs∧(Z6f x).ok U:=by
 unfold Z6f;split
 ·split
  ·rename_i hc;obtain ⟨h1,h2⟩:=Zen (U:=U) (γ:=γ) (l:=l) hc h;exact ⟨h1,h2⟩
  ·exact ⟨h,hk⟩
 ·exact ⟨h,hk⟩
theorem Zpt:∀ {fs:List Field},ZFl P fs=true→∀ w,∃ L:List (Nat×Nat),(fs.mapM fun (f:Field)=>(do pure (f.offset,← sizeOf f.type):Sem (Nat×Nat))).run P w = .ok L w∧∀ (i:Nat) fd,fs[i]? = some fd→∃ inf,P.info? fd.type=some inf∧L[i]? = some (fd.offset,inf.size)
 | [],_,w=>⟨[],by simp,fun i fd h=>by simp at h⟩
 | fd :: fs,h,w=>by
  simp only [ZFl] at h
  split at h
  ·rename_i inf hinf
   obtain ⟨L,h1,h2⟩:=Zpt h w
   refine ⟨(fd.offset,inf.size) :: L,?_,fun i fd' hi=>?_⟩
   ·simp at h1
    simp [List.mapM_cons,Z1k hinf,h1]
   ·cases i with
    | zero=>simp at hi;subst hi;exact ⟨inf,hinf,rfl⟩
    | succ i=>simp at hi;simpa using h2 i fd' hi
  ·cases h
theorem ZSv {s:TypeId} {fs:Array Field} (hs:P.underlying s=some (.struct fs)) {places:Nat→Option (Nat×Nat)} (hp:∀ (i:Nat) (fd:Field),fs.toList[i]? = some fd→∃ inf,P.info? fd.type=some inf∧places i=some (fd.offset,inf.size)) :
  ∀ {ps:List (Nat×Operand)} {c z z':V} {cs:List Value} {vals:List Value},RR v γ l true c vals→c.ok U→vals.length=ps.length→RR v γ l false z cs→z.ok U→putF P s z (zipV ps c)=some z' →
  ∃ cs',Instr.fill places cs.toArray ((ps.map (·.1)).zip vals)=some cs'.toArray∧RR v γ l false z' cs'∧z'.ok U∧z'.isAgg=z.isAgg
 | [],c,z,z',cs,vals,hc,hk,hl,hz,hkz,h=>by
  have hv:vals=[]:=List.length_eq_zero_iff.1 hl
  subst hv
  have h:some z=some z':=by
   cases c <;> exact h
  cases h
  exact ⟨cs,rfl,hz,hkz,rfl⟩
 | p :: ps,c,z,z',cs,vals,hc,hk,hl,hz,hkz,h=>by
  cases vals with
  | nil=>simp at hl
  | cons y vals =>
   cases c with
   | cons x c =>
    obtain ⟨cx,vs,e,h1,h2⟩:=hc
    cases e
    simp only [zipV,putF] at h;split at h
    ·rename_i fd hfd;split at h
     ·rename_i q hq;split at h
      ·rename_i zz hsz hfit hput;have hsz:=Nat.eq_of_beq_eq_true hsz;obtain ⟨k1,k2,k3,k4⟩:=ZCf FU hput hz h1 hkz hk.1;have hfd':fs.toList[p.1]? = some fd:=by
        unfold fldT at hfd;rw [hs] at hfd;exact hfd
       obtain ⟨inf,hinf,hpl⟩:=hp _ _ hfd';have hlen:cx.length=inf.size:=by
        rw [ZKd h1,hsz];unfold szA at hq;rw [hinf] at hq;split at hq
        ·rename_i i d e1 e2;cases e1;cases hq;rfl
        ·cases hq
       obtain ⟨hcells,_⟩:=ZIk h1 hfit;obtain ⟨cs',q1,q2,q3,q4⟩:=ZSv hs hp (ps:=ps) h2 hk.2 (by simpa using hl) k1 k2 h;refine ⟨cs',?_,q2,q3,q4.trans k4⟩;simp only [List.map_cons,List.zip_cons_cons];rw [Zbo (cs:=cx) (off:=fd.offset) (by rw [hpl,hlen]) hcells (by simpa using k3)]
       simpa using q1
      ·cases h
     ·cases h
    ·cases h
   | nl=>cases (show (y :: vals)=[] from hc)
   | _=>exact (show False from hc).elim
theorem ZWt {n sz:Nat} {places:Nat→Option (Nat×Nat)} (hp:∀ i,i<n→places i=some (i*sz,sz)) :
  ∀ {ps:List (Nat×Operand)} {c z z':V} {cs:List Value} {vals:List Value},RR v γ l true c vals→c.ok U→vals.length=ps.length→RR v γ l false z cs→z.ok U→putA n sz z (zipV ps c)=some z' →
  ∃ cs',Instr.fill places cs.toArray ((ps.map (·.1)).zip vals)=some cs'.toArray∧RR v γ l false z' cs'∧z'.ok U∧z'.isAgg=z.isAgg
 | [],c,z,z',cs,vals,hc,hk,hl,hz,hkz,h=>by
  have hv:vals=[]:=List.length_eq_zero_iff.1 hl
  subst hv
  have h:some z=some z':=by
   cases c <;> exact h
  cases h
  exact ⟨cs,rfl,hz,hkz,rfl⟩
 | p :: ps,c,z,z',cs,vals,hc,hk,hl,hz,hkz,h=>by
  cases vals with
  | nil=>simp at hl
  | cons y vals =>
   cases c with
   | cons x c =>
    obtain ⟨cx,vs,e,h1,h2⟩:=hc
    cases e
    simp only [zipV,putA] at h;split at h
    ·rename_i zz hlt hsz hfit hput;have hlt:p.1<n:=Nat.le_of_ble_eq_true hlt;have hsz:=Nat.eq_of_beq_eq_true hsz;obtain ⟨k1,k2,k3,k4⟩:=ZCf FU hput hz h1 hkz hk.1;have hlen:cx.length=sz:=by rw [ZKd h1,hsz]
     obtain ⟨hcells,_⟩:=ZIk h1 hfit;obtain ⟨cs',q1,q2,q3,q4⟩:=ZWt hp (ps:=ps) h2 hk.2 (by simpa using hl) k1 k2 h;refine ⟨cs',?_,q2,q3,q4.trans k4⟩;simp only [List.map_cons,List.zip_cons_cons];rw [Zbo (cs:=cx) (off:=p.1*sz) (by rw [hp _ hlt,hlen]) hcells (by simpa using k3)]
     simpa using q1
    ·cases h
   | nl=>cases (show (y :: vals)=[] from hc)
   | _=>exact (show False from hc).elim
theorem ZSy {C:Cf} (hr:RelX N G w0 v0 U X f l a w γ v ℓ) (hU:∀ k,U k→X k) (hX:X n) {t:TypeId} {ps:Array (Nat×Operand)} {o:Oper} {Post:Unit→Fr→Lo→Prop} (ho:o=⟨d,.build t ps,ty,pos,aft,g⟩) (hd:∀ k,o.dst=some k→k<N)
  (h:Zn n (Z1 C n o) f l Post):Zxa C.P N G w0 v0 X o a w Post:=by
 subst ho;simp only [Z1] at h;split at h
 ·rename_i z fs hz ht;split at h
  ·rename_i hfl hag1 hag2;obtain ⟨y,cs,hy,hcells,hzz,hkz,_⟩:=Z2n (v:=v) (γ:=γ) (l:=l) (U:=U) hz;obtain ⟨L,hL1,hL2⟩:=Zpt hfl w;have hA:(fs.mapM fun (f:Field)=>(do pure (f.offset,← sizeOf f.type):Sem (Nat×Nat))).run C.P w = .ok L.toArray w:=by
    rw [Array.mapM_eq_mapM_toList];simp at hL1;simp [hL1]
   have hplaces:∀ (i:Nat) (fd:Field),fs.toList[i]? = some fd→∃ inf,C.P.info? fd.type=some inf∧(L.toArray[·]?) i=some (fd.offset,inf.size):=fun i fd hi=>by
    obtain ⟨inf,h1,h2⟩:=hL2 i fd hi;exact ⟨inf,h1,by simpa using h2⟩
   have hev:∀ (vals:List (Nat×Value)) (cs':List Value),ps.toList.map (fun p=>(p.1,a.eval p.2))=vals→Instr.fill (L.toArray[·]?) cs.toArray vals=some cs'.toArray→(execOp a.eval ⟨d,.build t ps,ty,pos,aft,g⟩).run C.P w = .ok (.value (.agg cs'.toArray)) w:=by
    intro vals cs' hv hf;obtain ⟨σ,hσ,hev⟩:=hr.st.evs (ps.toList.map (·.2));refine ZSp hσ vals ?_ ?_
    ·rw [← hv,List.map_map];refine List.map_congr_left fun p hp=>?_;rw [hev p.2 (List.mem_map.2 ⟨p,hp,rfl⟩)];rfl
    ·simp at hA hf;simp [Instr.build,hy w,hcells,run_underlying ht,hA,hf]
   split at h
   ·rename_i hps;refine ZN hr hU (hev [] cs (by rw [hps];rfl) rfl) hd hX ?_ (V.ok.mono hU hkz) h;have:=Zec hzz (fun c e=>by subst e;cases hag2);unfold V.val at this;rw [hag2] at this;exact this
   ·rename_i hps;obtain ⟨c,h1,h2,h⟩:=Zhg hr h;split at h
    ·rename_i z' hz';obtain ⟨o1,o2⟩:=ZZp hzz hkz;have hvl:=h1;rw [List.map_map] at h1;obtain ⟨cs',k1,k2,k3,k4⟩:=ZSv ht hplaces (ps:=ps.toList) h1 h2 (by simp) o1 o2 hz';refine ZN hr hU (hev _ cs' rfl ?_) hd hX ?_ (V.ok.mono hU k3) h
     ·rw [← k1];congr 1;rw [List.zip_map,← List.map_id (ps.toList.zip ps.toList)];simp [List.zip_eq_zipWith,List.zipWith_self,List.map_map]
     ·have:=Zec k2 (fun c e=>by subst e;rw [hag1] at k4;cases k4);unfold V.val at this;rw [k4,hag1] at this;exact this
    ·exact h.elim
  ·exact h.elim
 ·rename_i z m e hz ht;split at h
  ·rename_i inf hinf hag1 hag2;obtain ⟨y,cs,hy,hcells,hzz,hkz,_⟩:=Z2n (v:=v) (γ:=γ) (l:=l) (U:=U) hz;obtain ⟨c,h1,h2,h⟩:=Zhg hr h;split at h
   ·rename_i z' hz';obtain ⟨o1,o2⟩:=ZZp hzz hkz;rw [List.map_map] at h1;obtain ⟨cs',k1,k2,k3,k4⟩:=ZWt (places:=fun i=>some (i*inf.size,inf.size)) (fun i _=>rfl) (ps:=ps.toList) h1 h2 (by simp) o1 o2 hz';obtain ⟨σ,hσ,hev⟩:=hr.st.evs (ps.toList.map (·.2));have hk1:Instr.fill (fun i=>some (i*inf.size,inf.size)) cs.toArray (ps.toList.map fun p=>(p.1,a.eval p.2))=some cs'.toArray:=by
     rw [← k1];congr 1;rw [List.zip_map,← List.map_id (ps.toList.zip ps.toList)];simp [List.zip_eq_zipWith,List.zipWith_self,List.map_map]
    refine ZN hr hU (ZSp hσ (ps.toList.map fun p=>(p.1,a.eval p.2)) ?_ (z:=.agg cs'.toArray) ?_) hd hX ?_ (V.ok.mono hU k3) h
    ·rw [List.map_map];refine List.map_congr_left fun p hp=>?_;rw [hev p.2 (List.mem_map.2 ⟨p,hp,rfl⟩)];rfl
    ·simp [Instr.build,hy w,hcells,run_underlying ht,Z1k hinf,hk1]
    ·have:=Zec k2 (fun c e=>by subst e;rw [hag1] at k4;cases k4);unfold V.val at this;rw [k4,hag1] at this;exact this
   ·exact h.elim
  ·exact h.elim
 ·exact h.elim
end
end Go.Eng
namespace Go.Eng
open Go.RowKit
def CT.isAgg:CT→Bool
 | .dat t=>t.agg
 | .agg _=>true
 | _=>false
def CT.vl (c:CT) (cs:List Value):Value:=match c.isAgg with
 | true=>.agg cs.toArray
 | false=>cs.headD Go.undef
def CR (v:Zb):(c:CT)→Bool→c.den→List Value→List Loc→Prop
 | .dat t,false,x,cs,es=>t.rep.rel v cs x∧es=[]
 | .own ty t,false,(xs:List t.den),cs,es=>∃ ob cap d,cs=[.slice (mkA ob) xs.length cap]∧t.rep.rels v d xs∧es=[.own ob ty t.n xs.length cap d]
 | .mat ty ty2 t,false,(m:List (List t.den)),cs,es=>∃ ob cap rows es2,cs=[.slice (mkA ob) m.length cap]∧Zna v ty2 t rows m es2∧es = .own ob ty 1 m.length cap (Zp rows m) :: es2
 | .nl,_,_,cs,es=>cs=[]∧es=[]
 | .one a,false,x,cs,es=>CR v a false x cs es
 | .one a,true,x,cs,es=>∃ c,cs=[a.vl c]∧CR v a false x c es
 | .cons a b,false,x,cs,es=>∃ c1 c2 e1 e2,cs=c1++c2∧es=e1++e2∧CR v a false x.1 c1 e1∧CR v b false x.2 c2 e2
 | .cons a b,true,x,cs,es=>∃ c1 xs e1 e2,cs=a.vl c1 :: xs∧es=e1++e2∧CR v a false x.1 c1 e1∧CR v b true x.2 xs e2
 | .agg c,false,x,cs,es=>CR v c false x cs es
 | .box ty c,false,x,cs,es=>∃ b c1 e1,cs=[.pointer (some ⟨b,0,none⟩)]∧CR v c false x c1 e1∧c1.all plain=true∧es = .box b ty c1 :: e1
 | _,_,_,_,_=>False
def CRL (v:Zb):(c:CT)→c.den→Gh→List Loc→Prop
 | .own ty t,(xs:List t.den),g,es=>∃ ob cap d,g = .own ob cap∧t.rep.rels v d xs∧es=[.own ob ty t.n xs.length cap d]
 | .mat ty ty2 t,(m:List (List t.den)),g,es=>∃ ob cap rows es2,g = .mat ob cap rows∧Zna v ty2 t rows m es2∧es = .own ob ty 1 m.length cap (Zp rows m) :: es2
 | .box ty c,z,g,es=>∃ b c1 e1,g = .box b∧CR v c false z c1 e1∧c1.all plain=true∧es = .box b ty c1 :: e1
 | .agg (.mat ty ty2 t),(m:List (List t.den)),g,es=>∃ ob cap rows es2,g = .mat ob cap rows∧Zna v ty2 t rows m es2∧es = .own ob ty 1 m.length cap (Zp rows m) :: es2
 | _,_,_,_=>False
end Go.Eng
namespace Go.Eng
open Go.RowKit
def Z0a (v:Zb):(ts:List T)→List Value→ZD ts→Prop
 | [],vals,_=>vals=[]
 | [t],vals,x=>∃ cs,vals=[t.rep.val cs]∧t.rep.rel v cs x
 | t :: u :: r,vals,x=>∃ cs vs,vals=t.rep.val cs :: vs∧t.rep.rel v cs x.1∧Z0a v (u :: r) vs x.2
def Zoe (v:Zb) (ts:List T) (y:Value) (z:ZD ts):Prop:=match ts,z with
 | [t],z=>∃ cs,y=t.rep.val cs∧t.rep.rel v cs z
 | ts,z=>∃ vals:List Value,y = .tuple vals.toArray∧Z0a v ts vals z
def ZId (P:Program) (f:FuncId) (c:Con):Prop:=∀ (w:World) (v:Zb) (vals:List Value) (x:ZD c.args) (z:ZD c.res),VIn v w→Z0a v c.args vals x→c.F x=some z →
 (ZO P f∧Ret P f vals.toArray w v fun y v'=>Zoe v' c.res y z) ∨ ∃ y,(∀ w,(callFunc f vals.toArray).run P w = .ok (.value y) w)∧Zoe v c.res y z
def Zif (P:Program) (f:FuncId) (c:ConO):Prop:=∀ (w:World) (v:Zb) (vals:List Value) (x:ZD c.args) (z:List c.t.den),VIn v w→Z0a v c.args vals x→c.F x=some z →
 ZO P f∧RetO P f vals.toArray w v (OwnR c.t.rep c.ty c.t.n z w)
def Z1j (P:Program) (f:FuncId) (c:ConI):Prop:=∀ (w:World) (v:Zb) (ob:Option Nat) (n cap:Nat) (cs:List Value) (l:List c.t.den) (i:Int) (bv kv:Nat) (c0:Array Value) (x:c.t.den) (z:List c.t.den),VIn v w→(Loc.own ob c.ty c.t.n n cap cs).holds w→(∀ b,ob=some b→v b=none)→c.t.rep.rels v cs l→n=l.length →
 1≤kv→v bv=some (.cells c0 c.ty (0,0))→c.t.rep.rel v (c0.toList.take c.t.n) x→inR .i64 i→c.F l i x=some z →
 ZO P f∧Zud P f #[.slice (mkA ob) n cap,.int .i64 i,.slice (some ⟨bv,0,none⟩) 1 kv] w v ob.toList (OwnI c.t.rep c.ty c.t.n z ob w)
def OwnM (ty ty2:TypeId) (t:T) (m:List (List t.den)) (w:World) (r:Value) (v':Zb) (w':World):Prop :=
 ∃ ob cap rows es,r = .slice (mkA ob) m.length cap∧Zna v' ty2 t rows m es∧(∀ x ∈ Loc.own ob ty 1 m.length cap (Zp rows m) :: es,x.holds w'∧∀ b,x.blk=some b→w.heap.size≤b∧v' b=none)∧((Loc.own ob ty 1 m.length cap (Zp rows m) :: es).filterMap Loc.blk).Nodup
def Zph (P:Program) (f:FuncId) (c:ConM):Prop:=∀ (w:World) (v:Zb) (vals:List Value) (x:ZD c.args) (z:List (List c.t.den)),VIn v w→Z0a v c.args vals x→c.F x=some z →
 ZO P f∧RetO P f vals.toArray w v (OwnM c.ty c.ty2 c.t z w)
def OwnB (ty:TypeId) (c:CT) (res:List T) (b:Nat) (r:c.den×ZD res) (lent:List Nat) (w:World) (y:Value) (v':Zb) (w':World):Prop :=
 Zoe v' res y r.2∧∃ es',CRL v' (.box ty c) r.1 (.box b) es'∧(∀ e ∈ es',e.holds w'∧∀ k,e.blk=some k→(w.heap.size≤k∨k ∈ lent)∧v' k=none)∧(es'.filterMap Loc.blk).Nodup
def Z7f (P:Program) (f:FuncId) (c:ConB):Prop:=∀ (w:World) (v:Zb) (b:Nat) (es:List Loc) (vals:List Value) (z:c.c.den) (x:ZD c.args) (r:c.c.den×ZD c.res),VIn v w→CRL v (.box c.ty c.c) z (.box b) es→(∀ e ∈ es,e.holds w∧∀ k,e.blk=some k→v k=none)→(es.filterMap Loc.blk).Nodup→Z0a v c.args vals x→c.F z x=some r →
 ZO P f∧Zud P f (Value.pointer (some ⟨b,0,none⟩) :: vals).toArray w v (es.filterMap Loc.blk) (OwnB c.ty c.c c.res b r (es.filterMap Loc.blk) w)
def ZIh (P:Program) (f:FuncId) (c:ConD):Prop:=∀ (w:World) (v:Zb) (ob:Option Nat) (n cap:Nat) (cs:List Value) (l:List c.t.den) (i j:Int) (z:List c.t.den),VIn v w→(Loc.own ob c.ty c.t.n n cap cs).holds w→(∀ b,ob=some b→v b=none)→c.t.rep.rels v cs l→n=l.length→inR .i64 i→inR .i64 j→c.F l i j=some z →
 ZO P f∧Zud P f #[.slice (mkA ob) n cap,.int .i64 i,.int .i64 j] w v ob.toList (OwnI c.t.rep c.ty c.t.n z ob w)
structure CfOK (C:Cf):Prop where
 c:∀ f c,Z3 C.cons f=some c→ZId C.P f c
 o:∀ f c,Z3 C.owns f=some c→Zif C.P f c
 i:∀ f c,Z3 C.ins f=some c→Z1j C.P f c
 m:∀ t s f,lkM C.meths t s=some f→∀ y w,(method (C.P.types.size+Made.depth) t y s).run C.P w = .ok (f,y) w
 q:∀ f c,Z3 C.omats f=some c→Zph C.P f c
 b:∀ f c,Z3 C.boxs f=some c→Z7f C.P f c
 d:∀ f c,Z3 C.dels f=some c→ZIh C.P f c
section
variable {P:Program} {N:Nat} {G:V→Value→Prop} {w0:Base} {v0:Zb} {U X:Nat→Prop} {f:Fr} {l:Lo} {a:Act} {w:World} {γ:Nat→Gh} {v:Zb} {ℓ:List Loc} {n:Nat}
variable {d:Option Nat} {ty:TypeId} {pos:String} {aft:Array Edge} {g:Option (Nat×Bool)}
theorem Z9u (hr:RelX N G w0 v0 U X f l a w γ v ℓ) {lo:Option Operand} {k:Option Int→Ev Unit} {Post:Unit→Fr→Lo→Prop} (h:Zn n (optI lo k) f l Post):∃ i,Zn n (k i) f l Post∧((lo=none∧i=none) ∨ ∃ y κ q,lo=some y∧i=some q∧a.eval y = .int κ q):=by
 cases lo with
 | none=>exact ⟨none,h,.inl ⟨rfl,rfl⟩⟩
 | some y =>
  obtain ⟨V1,h1,_,hA⟩:=ZG hr h;obtain ⟨κ,i,rfl,hB⟩:=Zjb hA;exact ⟨some i,hB,.inr ⟨y,κ,i,rfl,rfl,(ZHa h1).1⟩⟩
theorem Zkl (hr:RelX N G w0 v0 U X f l a w γ v ℓ) (hU:∀ k,U k→X k) (hX:X n) {t:TypeId} {x:Operand} {lo hi:Option Operand} {o:Oper} {p:V} {i j:Option Int} {Post:Unit→Fr→Lo→Prop} (ho:o=⟨d,.slice t x lo hi none,ty,pos,aft,g⟩) (hd:∀ k,o.dst=some k→k<N) (hp:RV v γ l p (a.eval x))
  (hlo:(lo=none∧i=none) ∨ ∃ y κ q,lo=some y∧i=some q∧a.eval y = .int κ q) (hhi:(hi=none∧j=none) ∨ ∃ y κ q,hi=some y∧j=some q∧a.eval y = .int κ q) (h:Zn n (cutE P o t p i j) f l Post):Zxa P N G w0 v0 X o a w Post:=by
 obtain ⟨σ,hσ,hev⟩:=hr.st.evs (x :: (lo.toList++hi.toList));have hx:=hev x (by simp);have h1:∀ m:Int,(Zth i 0=m)→(lo=none∧m=0) ∨ ∃ y k,lo=some y∧ev σ y=some (.int k m):=by
  intro m hm;rcases hlo with ⟨e1,e2⟩ | ⟨y,κ,q,e1,e2,e3⟩
  ·subst e2;exact .inl ⟨e1,hm.symm⟩
  ·subst e1 e2;have hm:q=m:=hm;exact .inr ⟨y,κ,rfl,by rw [hev y (by simp),e3,hm]⟩
 have h2:∀ (len:Nat) (m:Int),(Zth j (len:Int)=m)→(hi=none∧m=len) ∨ ∃ y k,hi=some y∧ev σ y=some (.int k m):=by
  intro len m hm;rcases hhi with ⟨e1,e2⟩ | ⟨y,κ,q,e1,e2,e3⟩
  ·subst e2;exact .inl ⟨e1,hm.symm⟩
  ·subst e1 e2;have hm:q=m:=hm;exact .inr ⟨y,κ,rfl,by rw [hev y (by simp),e3,hm]⟩
 unfold cutE at h;split at h
 ·rename_i s xs;obtain ⟨qa,m,c,hy,hR⟩:=ZAp hp;rw [hy] at hx;split at h
  ·rename_i q hq;split at h
   ·rename_i hb;have hb:=Nat.eq_of_beq_eq_true hb;have hSl:=ZFm hq;rw [hb,← ZS] at hSl;obtain ⟨yy,hyy,h⟩:=h;obtain ⟨c0,c1,c2,c3,_⟩:=Zqg hyy;obtain ⟨q',cap',hrun,hrel⟩:=ZCz hσ hSl hR c0 c1 c2;rw [← c3] at hrel;subst ho;exact ZN hr hU (hrun hx (h1 _ rfl) (h2 _ _ rfl)) hd hX (x:=.data (.slice s) yy) ⟨[_],hrel,rfl⟩ trivial h
   ·exact h.elim
  ·exact h.elim
 ·obtain ⟨e1,e2⟩:=ZOh hp;rw [e1] at hx;split at h
  ·rename_i ht;obtain ⟨yy,hyy,h⟩:=h;subst ho;exact ZN hr hU (Zcz hσ hx ht (h1 _ rfl) (h2 _ _ rfl) hyy) hd hX (ZXj (ZUx hyy e2)) trivial h
  ·exact h.elim
 ·exact h.elim
theorem ZDg {ρ:Type}:∀ (g:Nat) {t:T} {x:V} {k:t.den→Ev ρ} {l:Lo} {Post:ρ→Fr→Lo→Prop},Zn n (conv g t x k) f l Post→x.isAgg=t.agg
 | 0,_,_,_,_,_,h=>h.elim
 | g+1,t,x,k,l,Post,h=>by
  cases x with
  | data s x =>
   simp only [conv] at h
   split at h
   ·rename_i y hy
    obtain ⟨e,_⟩:=Z6 hy
    subst e;rfl
   ·split at h
    ·rfl
    ·rfl
    ·rfl
    ·rfl
    ·rfl
    ·split at h
     ·rename_i c hc
      have h1:=ZDg g (x:=.agg c) h
      have h2:s.agg=true:=by
       unfold ZUe at hc;split at hc <;> first | rfl | cases hc
      exact h2.trans h1
     ·exact h.elim
  | nilS =>
   simp only [conv] at h;split at h <;> first | rfl | exact h.elim
  | own u =>
   simp only [conv] at h;obtain ⟨e,he,h⟩:=h;obtain ⟨kk,st,L⟩:=e
   cases L with
   | box _ _=>exact h.elim
   | mid _ _ _ _ _ _=>exact h.elim
   | own ty s xs fz =>
    cases fz with
    | true=>exact ZDg g (x:=.data (.slice s) xs) h
    | false=>exact ZDg g (x:=.data (.slice s) xs) h
   | mat ty _ s m _=>exact ZDg g (x:=.data (.slice (.slice s)) m) h
  | agg c =>
   cases c with
   | cons x1 c =>
    cases c with
    | cons x2 r=>simp only [conv] at h;split at h <;> first | rfl | exact h.elim
    | nl=>simp only [conv] at h;split at h <;> first | rfl | exact h.elim
    | _=>simp only [conv] at h;exact h.elim
   | _=>simp only [conv] at h;exact h.elim
  | ptr u o =>
   cases o with
   | succ _=>simp only [conv] at h;exact h.elim
   | zero=>simp only [conv] at h;split at h <;> first | rfl | exact h.elim
  | _=>simp only [conv] at h;exact h.elim
theorem Zkq {x:V} {t:T} {cs:List Value} (h:x.isAgg=t.agg):x.val cs=t.rep.val cs:=by
 unfold V.val Rep.val;rw [h,ZAq]
 cases t.agg <;> rfl
theorem Zkm {v v':Zb} (h:v.le v'):∀ {ts:List T} {vals:List Value} {x:ZD ts},Z0a v ts vals x→Z0a v' ts vals x
 | [],_,_,k=>k
 | [_],_,_,⟨cs,h1,h2⟩=>⟨cs,h1,Rep.mono _ h h2⟩
 | _ :: _ :: _,_,_,⟨cs,vs,h1,h2,h3⟩=>⟨cs,vs,h1,Rep.mono _ h h2,Zkm h h3⟩
theorem Zag {ρ:Type} (hn:¬ U n) (hX:X n):∀ {ts:List T} {c:V} {k:ZD ts→Ev ρ} {l:Lo} {γ:Nat→Gh} {v:Zb} {ℓ:List Loc} {Post:ρ→Fr→Lo→Prop},Zn n (Zhe ts c k) f l Post→RelX N G w0 v0 U X f l a w γ v ℓ→c.ok U →
  ∃ x l' γ' v' ℓ',Zn n (k x) f l' Post∧RelX N G w0 v0 U X f l' a w γ' v' ℓ'∧Le U v γ l v' γ' l'∧∀ vals,RR v γ l true c vals→Z0a v' ts vals x
 | [],c,k,l,γ,v,ℓ,Post,h,hr,hk=>by
  obtain ⟨E,hE,_⟩:=hr.lr
  cases c with
  | nl=>exact ⟨(),l,γ,v,ℓ,h,hr,Le.refl hE (Zb.le_refl _),fun vals hv=>hv⟩
  | _=>exact h.elim
 | [t],c,k,l,γ,v,ℓ,Post,h,hr,hk=>by
  cases c with
  | cons x c =>
   cases c with
   | nl =>
    have hag:=ZDg FU (n:=n) (f:=f) (l:=l) (t:=t) (x:=x) h
    obtain ⟨y,l1,γ1,v1,ℓ1,h,r1,le1,q1⟩:=ZWd hn hX FU h hr hk.1
    refine ⟨y,l1,γ1,v1,ℓ1,h,r1,le1,fun vals hv=>?_⟩
    obtain ⟨cs,vs,rfl,h1,h2⟩:=hv
    have h2:vs=[]:=h2
    subst h2
    exact ⟨cs,by rw [Zkq hag],q1 _ h1⟩
   | _=>exact h.elim
  | _=>exact h.elim
 | t :: u :: r,c,k,l,γ,v,ℓ,Post,h,hr,hk=>by
  cases c with
  | cons x c =>
   have h':Zn n (conv FU t x fun x=>Zhe (u :: r) c fun y=>k (x,y)) f l Post:=by
    cases c <;> exact h
   have hag:=ZDg FU (n:=n) (f:=f) (l:=l) (t:=t) (x:=x) h';obtain ⟨y,l1,γ1,v1,ℓ1,h1,r1,le1,q1⟩:=ZWd hn hX FU h' hr hk.1;obtain ⟨ys,l2,γ2,v2,ℓ2,h2,r2,le2,q2⟩:=Zag hn hX h1 r1 hk.2;refine ⟨(y,ys),l2,γ2,v2,ℓ2,h2,r2,le1.trans le2,fun vals hv=>?_⟩;obtain ⟨cs,vs,rfl,h3,h4⟩:=hv;exact ⟨cs,vs,by rw [Zkq hag],Rep.mono _ le2.v (q1 _ h3),q2 _ (Ztb le1 hk.2 h4)⟩
  | _=>exact h.elim
theorem ZMq {v:Zb}:∀ {ts:List T} {vals:List Value} {x:ZD ts},Z0a v ts vals x→RR v γ l true (Znf ts x) vals∧(Znf ts x).ok U
 | [],_,_,h=>⟨h,trivial⟩
 | [t],_,x,⟨cs,h1,h2⟩=>⟨⟨cs,[],by rw [h1];exact congrArg (fun z=>[z]) (Z7h (t:=t) (x:=x) (cs:=cs)).symm,h2,rfl⟩,trivial,trivial⟩
 | t :: u :: r,_,x,⟨cs,vs,h1,h2,h3⟩=>by
  obtain ⟨k1,k2⟩:=ZMq h3
  exact ⟨⟨cs,vs,by rw [h1];exact congrArg (· :: vs) (Z7h (t:=t) (x:=x.1) (cs:=cs)).symm,h2,k1⟩,trivial,k2⟩
theorem Zsn {v:Zb} {ts:List T} {y:Value} {z:ZD ts} (h:Zoe v ts y z):RV v γ l (ZHd (Znf ts z)) y∧(ZHd (Znf ts z)).ok U:=by
 match ts,z,h with
 | [],z,⟨vals,h1,h2⟩=>exact ⟨⟨vals,h2,h1⟩,trivial⟩
 | [t],z,⟨cs,h1,h2⟩=>exact ⟨⟨cs,h2,by rw [h1];exact (Z7h (t:=t) (x:=z) (cs:=cs)).symm⟩,trivial⟩
 | t :: u :: r,z,⟨vals,h1,h2⟩ =>
  obtain ⟨k1,k2⟩:=ZMq (γ:=γ) (l:=l) (U:=U) h2
  cases r <;> exact ⟨⟨vals,k1,h1⟩,k2⟩
theorem Z9q {σ:List (Nat×Value)} (hS:St N w0 v0 σ ℓ v a w) {x:Operand} {m:String} {f:FuncId} {xs:Array Operand} {ats:Array TypeId} {t:TypeId} {y:Value} (vals:List Value) (hm:∀ w,(method (P.types.size+Made.depth) t y m).run P w = .ok (f,y) w) (e:ev σ x=some (.iface t y))
  (h:xs.toList.map (ev σ)=vals.map some) {r:Go.Next} (hf:(callFunc f (y :: vals).toArray).run P w = .ok r w):(execOp a.eval ⟨d,.call ⟨.invoke x m,xs,ats⟩,ty,pos,aft,g⟩).run P w = .ok r w:=by
 have hx:xs.map a.eval=vals.toArray:=by
  apply Array.ext';rw [Array.toList_map];generalize xs.toList=l at h;clear hf
  induction l generalizing vals with
  | nil=>cases vals <;> simp_all
  | cons y l ih =>
   cases vals with
   | nil=>simp at h
   | cons u vals =>
    simp at h;simp [hS.eval h.1,ih vals h.2]
 simp [execOp,resolve,invoke,callMethod,hx,hS.eval e,hm,hf]
theorem ZRo (hr:RelX N G w0 v0 U X f l a w γ v ℓ) (hU:∀ k,U k→X k) (hX:X n) (hn:¬ U n) {e:TypeId} {s:T} {xs:List s.den} {o:Oper} {ob:Option Nat} {cap:Nat} {cs:List Value} {Post:Unit→Fr→Lo→Prop} (hd:∀ k,o.dst=some k→k<N)
  (hst:St N w0 v0 [] (.own ob e s.n xs.length cap cs :: ℓ) v a w) (hc:s.rep.rels v cs xs) (h:Zn n (Ev.new n (.own e s xs false) (ret o (.own n))) f l Post):∃ f' l',Post () f' l'∧Rel N G w0 v0 X f' l' (a.put o.dst (.slice (mkA ob) xs.length cap)) w:=by
 obtain ⟨hnew,h⟩:=h;obtain ⟨E,hE,hpm⟩:=hr.lr;have hr':=hr.new (γ':=Zoc γ n (.own ob cap)) (L':=.own e s xs false) hX hX hn hnew hE (hst.perm (List.Perm.cons _ hpm)) (Zb.le_refl _) (fun _ h=>Z6b h) ⟨ob,cap,cs,Zgb,hc,rfl⟩ (List.Perm.refl _) trivial;unfold ret at h
 cases hdd:o.dst with
 | none=>rw [hdd] at h;exact h.elim
 | some d =>
  rw [hdd] at h;refine ⟨_,_,h,_,_,_,(hr'.mono hU fun _ h=>h).put (hd d hdd) (x:=.own n) ⟨[_],⟨_,rfl,by cases ob <;> rfl,fun e' he'=>?_⟩,rfl⟩ hX hX⟩;rw [ZU,if_pos rfl] at he';cases he';exact ⟨_,_,Zgb,rfl⟩
theorem St.addL {K:Nat} {w0:Base} {v0:Zb} {σ:List (Nat×Value)} {ℓ es:List Loc} {v:Zb} {a:Act} {w:World} {s:Nat} (h:St K w0 v0 σ ℓ v a w) (hs:w0.wd.heap.size≤s) (hnew:∀ x ∈ es,x.holds w∧∀ b,x.blk=some b→s≤b∧v b=none) (hnd:(es.filterMap Loc.blk).Nodup) (hold:∀ x ∈ ℓ,∀ b,x.blk=some b→b<s):St K w0 v0 σ (es++ℓ) v a w:=by
 refine ⟨h.size,h.dfr,h.fr,h.ext,h.vst,fun x hx=>?_,?_⟩
 ·rcases List.mem_append.1 hx with hx | hx
  ·exact ⟨(hnew x hx).1,fun b eb=>⟨.inl (Nat.le_trans hs ((hnew x hx).2 b eb).1),((hnew x hx).2 b eb).2⟩⟩
  ·exact h.loc x hx
 ·rw [List.filterMap_append];refine List.nodup_append.2 ⟨hnd,h.nd,fun b hb b' hb' e=>?_⟩;subst e;obtain ⟨x,hx,hxb⟩:=List.mem_filterMap.1 hb;obtain ⟨y,hy,hyb⟩:=List.mem_filterMap.1 hb';have h1:=((hnew x hx).2 b hxb).1;have h2:=hold y hy b hyb;omega
theorem put_mat (hr:RelX N G w0 v0 U X f l a w γ v ℓ) (hU:∀ k,U k→X k) (hX:X n) (hn:¬ U n) {ty ty2:TypeId} {t:T} {m:List (List t.den)} {o:Oper} {ob:Option Nat} {cap:Nat} {rows:List (Option Nat×Nat)} {es:List Loc} {Post:Unit→Fr→Lo→Prop} (hd:∀ k,o.dst=some k→k<N)
  (hst:St N w0 v0 [] ((.own ob ty 1 m.length cap (Zp rows m) :: es)++ℓ) v a w) (hc:Zna v ty2 t rows m es) (h:Zn n (Ev.new n (.mat ty ty2 t m n) (ret o (.own n))) f l Post):∃ f' l',Post () f' l'∧Rel N G w0 v0 X f' l' (a.put o.dst (.slice (mkA ob) m.length cap)) w:=by
 obtain ⟨hnew,h⟩:=h;obtain ⟨E,hE,hpm⟩:=hr.lr;have hr':=hr.new (γ':=Zoc γ n (.mat ob cap rows)) (L':=.mat ty ty2 t m n) (es':=.own ob ty 1 m.length cap (Zp rows m) :: es) hX hX hn hnew hE (hst.perm (List.Perm.append_left _ hpm)) (Zb.le_refl _) (fun _ h=>Z6b h) ⟨ob,cap,rows,es,Zgb,hc,rfl⟩ (List.Perm.refl _) hX;unfold ret at h
 cases hdd:o.dst with
 | none=>rw [hdd] at h;exact h.elim
 | some d =>
  rw [hdd] at h;refine ⟨_,_,h,_,_,_,(hr'.mono hU fun _ h=>h).put (hd d hdd) (x:=.own n) ⟨[_],⟨_,rfl,by cases ob <;> rfl,fun e' he'=>?_⟩,rfl⟩ hX hX⟩;rw [ZU,if_pos rfl] at he';cases he';exact ⟨_,_,_,Zgb,rfl⟩
theorem Zvv {c:ConI} {fid:FuncId} (hI:Z1j P fid c) (hr:RelX N G w0 v0 U X f l a w γ v ℓ) (hU:∀ k,U k→X k) (hX:X n) (hn:¬ U n) {o:Oper} {Post:Unit→Fr→Lo→Prop} (hd:∀ k,o.dst=some k→k<N) {ob:Option Nat} {cap:Nat} {cs:List Value} {xs:List c.t.den} {i:Int} {bv kv:Nat} {c0:Array Value} {x:c.t.den} {z:List c.t.den}
  (hst:St N w0 v0 [] (.own ob c.ty c.t.n xs.length cap cs :: ℓ) v a w) (hA:c.t.rep.rels v cs xs) (hkv:1≤kv) (hbv:v bv=some (.cells c0 c.ty (0,0))) (hx:c.t.rep.rel v (c0.toList.take c.t.n) x) (hi:inR .i64 i) (hz:c.F xs i x=some z)
  (hent:ZO P fid→(execOp a.eval o).run P w = .ok (.enter fid #[.slice (mkA ob) xs.length cap,.int .i64 i,.slice (some ⟨bv,0,none⟩) 1 kv]) w) (h:Zn n (Ev.new n (.own c.ty c.t z false) (ret o (.own n))) f l Post):Zxa P N G w0 v0 X o a w Post:=by
 obtain ⟨hh,hb⟩:=hst.loc _ List.mem_cons_self;obtain ⟨hen,hret⟩:=hI w v ob xs.length cap cs xs i bv kv c0 x z hst.vin hh (fun b e=>(hb b e).2) hA rfl hkv hbv hx hi hz;refine Zkd (hent hen) (Calls.mono hret fun e w' ⟨r,v',e1,e2,e3,e4⟩=>⟨r,e1,?_⟩);obtain ⟨ob',n',cap',cs',rfl,hh',hb',hA',hn'⟩:=e4;subst hn';have hS:=hst.afterI (i:=0) (e':=.own ob' c.ty c.t.n z.length cap' cs') rfl e2 e3 hh' fun b hb=>by
  obtain ⟨q1,q2⟩:=hb' b hb;exact ⟨q1,q2⟩
 have hS:St N w0 v0 [] (.own ob' c.ty c.t.n z.length cap' cs' :: ℓ) v' a w':=hS;exact ZRo (hr.go e3.le (hS.drop (List.sublist_cons_self _ _))) hU hX hn hd hS hA' h
theorem Ztw {c:ConD} {fid:FuncId} (hI:ZIh P fid c) (hr:RelX N G w0 v0 U X f l a w γ v ℓ) (hU:∀ k,U k→X k) (hX:X n) (hn:¬ U n) {o:Oper} {Post:Unit→Fr→Lo→Prop} (hd:∀ k,o.dst=some k→k<N) {ob:Option Nat} {cap:Nat} {cs:List Value} {xs:List c.t.den} {i j:Int} {z:List c.t.den}
  (hst:St N w0 v0 [] (.own ob c.ty c.t.n xs.length cap cs :: ℓ) v a w) (hA:c.t.rep.rels v cs xs) (hi:inR .i64 i) (hj:inR .i64 j) (hz:c.F xs i j=some z)
  (hent:ZO P fid→(execOp a.eval o).run P w = .ok (.enter fid #[.slice (mkA ob) xs.length cap,.int .i64 i,.int .i64 j]) w) (h:Zn n (Ev.new n (.own c.ty c.t z false) (ret o (.own n))) f l Post):Zxa P N G w0 v0 X o a w Post:=by
 obtain ⟨hh,hb⟩:=hst.loc _ List.mem_cons_self;obtain ⟨hen,hret⟩:=hI w v ob xs.length cap cs xs i j z hst.vin hh (fun b e=>(hb b e).2) hA rfl hi hj hz;refine Zkd (hent hen) (Calls.mono hret fun e w' ⟨r,v',e1,e2,e3,e4⟩=>⟨r,e1,?_⟩);obtain ⟨ob',n',cap',cs',rfl,hh',hb',hA',hn'⟩:=e4;subst hn';have hS:=hst.afterI (i:=0) (e':=.own ob' c.ty c.t.n z.length cap' cs') rfl e2 e3 hh' fun b hb=>by
  obtain ⟨q1,q2⟩:=hb' b hb;exact ⟨q1,q2⟩
 have hS:St N w0 v0 [] (.own ob' c.ty c.t.n z.length cap' cs' :: ℓ) v' a w':=hS;exact ZRo (hr.go e3.le (hS.drop (List.sublist_cons_self _ _))) hU hX hn hd hS hA' h
theorem Zsv {C:Cf} (hC:CfOK C) (hr:RelX N G w0 v0 U X f l a w γ v ℓ) (hU:∀ k,U k→X k) (hX:X n) (hn:¬ U n) {fid:FuncId} {c:V} {vals:List Value} {o:Oper} {Post:Unit→Fr→Lo→Prop} (hd:∀ k,o.dst=some k→k<N)
  (hent:ZO C.P fid→(execOp a.eval o).run C.P w = .ok (.enter fid vals.toArray) w) (hval:∀ y,(∀ w,(callFunc fid vals.toArray).run C.P w = .ok (.value y) w)→(execOp a.eval o).run C.P w = .ok (.value y) w)
  (hc:RR v γ l true c vals) (hk:c.ok U) (h:Zn n (ZTj C n o fid c) f l Post):Zxa C.P N G w0 v0 X o a w Post:=by
 unfold ZTj at h;split at h
 ·rename_i con hcon;obtain ⟨p,l1,γ1,v1,ℓ1,h,r1,le1,q1⟩:=Zag hn hX h hr hk;obtain ⟨z,hz,h⟩:=h;have hR:=q1 _ hc;rcases hC.c fid con hcon w v1 _ p z r1.st.vin hR hz with ⟨hen,hret⟩ | ⟨y,hv,hres⟩
  ·refine Zkd (hent hen) (Calls.mono hret fun e w' ⟨r,v',e1,e2,e3,e4⟩=>⟨r,e1,?_⟩);have r2:=r1.go e3.le (r1.st.step e2 e3);obtain ⟨k1,k2⟩:=Zsn (γ:=γ1) (l:=l1) (U:=X) e4;unfold ret at h
   cases hdd:o.dst with
   | none=>rw [hdd] at h;exact h.elim
   | some dd =>
    rw [hdd] at h;exact ⟨_,_,h,_,_,_,(r2.mono hU fun _ h=>h).put (hd dd hdd) k1 k2 hX⟩
  ·obtain ⟨k1,k2⟩:=Zsn (γ:=γ1) (l:=l1) (U:=X) hres;exact ZN r1 hU (hval y hv) hd hX k1 k2 h
 ·split at h
  ·rename_i con hcon;obtain ⟨p,l1,γ1,v1,ℓ1,h,r1,le1,q1⟩:=Zag hn hX h hr hk;obtain ⟨z,hz,h⟩:=h;have hR:=q1 _ hc;obtain ⟨hen,hret⟩:=hC.o fid con hcon w v1 _ p z r1.st.vin hR hz;refine Zkd (hent hen) (Calls.mono hret fun e w' ⟨r,v',e1,e2,e3,e4⟩=>⟨r,e1,?_⟩);obtain ⟨ob,n',cap,cs,rfl,hh,hb,hA,hn'⟩:=e4;subst hn';have h':=r1.st.step e2 e3;refine ZRo (r1.go e3.le h') hU hX hn hd (cs:=cs) ⟨h'.size,h'.dfr,h'.fr,h'.ext,h'.vst,fun x hx=>?_,?_⟩ hA h
   ·rcases List.mem_cons.1 hx with rfl | hx
    ·exact ⟨hh,fun b eb=>⟨.inl (Nat.le_trans r1.st.ext.size (hb b eb).1),(hb b eb).2⟩⟩
    ·exact h'.loc x hx
   ·cases ob with
    | none=>rw [List.filterMap_cons_none (show (Loc.own none con.ty con.t.n z.length cap cs).blk=none from rfl)];exact h'.nd
    | some b =>
     rw [List.filterMap_cons_some (show (Loc.own (some b) con.ty con.t.n z.length cap cs).blk=some b from rfl)];refine List.nodup_cons.2 ⟨fun hm=>?_,h'.nd⟩;obtain ⟨x,hx,hxb⟩:=List.mem_filterMap.1 hm;obtain ⟨c,T',hg⟩:=Loc.blk_get (r1.st.loc x hx).1 hxb;have h1:=Zxe hg;have h2:=(hb b rfl).1;omega
  ·split at h
   ·rename_i con hcon;have hI:=hC.i fid con hcon;unfold insE at h;split at h
    ·rename_i A i u2;obtain ⟨cA,xs1,rfl,hA1,xs2,xs3,rfl,hI1,xs4,xs5,rfl,hU2,hnl⟩:=hc;have hnl:xs5=[]:=hnl;subst hnl;obtain ⟨e2,he2,h⟩:=h;obtain ⟨k2,st2,L2⟩:=e2;have hk2:k2=u2:=(Zs he2).2;subst hk2
     cases L2 with
     | own ty2 s2 l2 fz =>
      cases fz with
      | true=>exact h.elim
      | false =>
       simp only at h;split at h
       ·rename_i x hty hcast;have hty:=Nat.eq_of_beq_eq_true hty;subst hty;obtain ⟨c3,c4⟩:=Z6 hcast;obtain ⟨es2,E2,g1,_,_,g3,r1⟩:=hr.del he2;obtain ⟨ob2,cap2,cs2,g4,g5,rfl⟩:=g1;have g4:γ k2 = .own ob2 cap2:=g4;obtain ⟨y2,rfl,_,hy2⟩:=hU2;obtain ⟨ob2',cap2',g6,g7⟩:=hy2 _ he2;rw [g4] at g6;cases g6;have hst2:=hr.st.perm g3;obtain ⟨hh2,hb2⟩:=hst2.loc _ List.mem_cons_self;have hc3:s2=con.t:=by injection c3
        subst hc3;have hl2:l2=[x]:=c4;subst hl2
        cases ob2 with
        | none=>obtain ⟨q,_⟩:=hh2;cases q
        | some bv =>
         obtain ⟨hl,cur,hg,hle,_,hcz,htk⟩:=hh2;obtain ⟨v1,hv1,hv2,hst3⟩:=hst2.publish (i:=0) (ℓ':=E2.flatten) rfl rfl hg rfl;have r2:=r1.go hv1 hst3;have hx1:con.t.rep.rel v1 (cur.toList.take con.t.n) x:=by
          have hq:con.t.rep.rels v1 cs2 [x]:=ZQ hv1 g5;obtain ⟨d1,d2,e1,e2,e3⟩:=hq;have e3:d2=[]:=e3;subst e3;rw [List.append_nil] at e1;subst e1;have:cur.toList.take ([x].length*con.t.n)=cs2:=htk;rw [show [x].length*con.t.n=con.t.n by simp] at this;rw [this];exact e2
         have hi:inR .i64 i:=by obtain ⟨_,q⟩:=hI1;exact q
         have hiv:(V.data (.int .i64) i).val xs2 = .int .i64 i:=by obtain ⟨q,_⟩:=hI1;subst q;rfl
         have hle0:=Le.era hr k2;have lv:Le U v γ l v1 γ (era l k2):=hle0.trans (by obtain ⟨EE,hEE,_⟩:=r1.lr;exact Le.refl hEE hv1)
         cases A with
         | own u =>
          simp only at h;obtain ⟨e,he,h⟩:=h;obtain ⟨k,st,L⟩:=e;have hkk:k=u:=(Zs he).2;subst hkk
          cases L with
          | own ty s xs fz =>
           cases fz with
           | true=>exact h.elim
           | false =>
            simp only at h;split at h
            ·rename_i l' hty hcast;have hty:=Nat.eq_of_beq_eq_true hty;subst hty;obtain ⟨c5,c6⟩:=Z6 hcast;have hc5:s=con.t:=by injection c5
             subst hc5;have hl':xs=l':=c6;subst hl';obtain ⟨z,hz,h⟩:=h;obtain ⟨es,E3,d1,_,_,d3,r3⟩:=r2.del he;obtain ⟨ob,cap,cs,d4,d5,rfl⟩:=d1;have d4:γ k = .own ob cap:=d4;have hA2:=Ztb lv (x:=.own k) hk.1 hA1;obtain ⟨y,rfl,_,hy⟩:=hA2;obtain ⟨ob',cap',d6,d7⟩:=hy _ he;rw [d4] at d6;cases d6;refine Zvv hI r3 hU hX hn hd (hst3.perm d3) d5 (kv:=cap2) (by simpa using hle) hv2 hx1 hi hz (fun hen=>?_) h;rw [hent hen,ZMg (x:=.own k) rfl,d7,hiv,ZMg (x:=.own k2) rfl,g7];rfl
            ·exact h.elim
          | box _ _=>exact h.elim
          | mid _ _ _ _ _ _=>exact h.elim
          | mat _ _ _ _ _=>exact h.elim
         | nilS =>
          simp only at h;obtain ⟨z,hz,h⟩:=h;have hA1:cA=[.slice none 0 0]:=hA1;subst hA1;refine Zvv hI r2 hU hX hn hd (ob:=none) (cap:=0) (cs:=[]) (xs:=[]) (hst3.nilLoc con.ty con.t.n) rfl (kv:=cap2) (by simpa using hle) hv2 hx1 hi hz (fun hen=>?_) h;rw [hent hen,hiv,ZMg (x:=.own k2) rfl,g7];rfl
         | _=>exact h.elim
       ·exact h.elim
     | box _ _=>exact h.elim
     | mid _ _ _ _ _ _=>exact h.elim
     | mat _ _ _ _ _=>exact h.elim
    ·exact h.elim
   ·split at h
    ·rename_i con hcon;obtain ⟨p,l1,γ1,v1,ℓ1,h,r1,le1,q1⟩:=Zag hn hX h hr hk;obtain ⟨z,hz,h⟩:=h;have hR:=q1 _ hc;obtain ⟨hen,hret⟩:=hC.q fid con hcon w v1 _ p z r1.st.vin hR hz;refine Zkd (hent hen) (Calls.mono hret fun e w' ⟨r,v',e1,e2,e3,e4⟩=>⟨r,e1,?_⟩);obtain ⟨ob,cap,rows,es,rfl,hA,hh,hb⟩:=e4;have h':=r1.st.step e2 e3;refine put_mat (r1.go e3.le h') hU hX hn hd (h'.addL r1.st.ext.size hh hb fun x hx b hxb=>?_) hA h;obtain ⟨c,T',hg⟩:=Loc.blk_get (r1.st.loc x hx).1 hxb;exact Zxe hg
    ·split at h
     ·rename_i con hcon;have hI:=hC.d fid con hcon;unfold delE at h;split at h
      ·rename_i u i j;obtain ⟨cA,x1,rfl,hA,cI,x2,rfl,hI1,cJ,x3,rfl,hJ,hnl⟩:=hc;have hnl:x3=[]:=hnl;subst hnl;obtain ⟨e,he,h⟩:=h;obtain ⟨kk,st,L⟩:=e;have hkk:kk=u:=(Zs he).2;subst hkk
       cases L with
       | own ty s xs fz =>
        cases fz with
        | true=>exact h.elim
        | false =>
         simp only at h;split at h
         ·rename_i ys hty hcast;have hty:=Nat.eq_of_beq_eq_true hty;subst hty;obtain ⟨c5,c6⟩:=Z6 hcast;have hc5:s=con.t:=by injection c5
          subst hc5;have hl':xs=ys:=c6;subst hl';obtain ⟨z,hz,h⟩:=h;obtain ⟨es,E',h1,_,h2,h3,r1⟩:=hr.del he;obtain ⟨ob,cap,cs,g1,g2,rfl⟩:=h1;have g1:γ kk = .own ob cap:=g1;obtain ⟨y,rfl,_,hy⟩:=hA;obtain ⟨ob',cap',g3,g4⟩:=hy _ he;rw [g1] at g3;cases g3;have hi:inR .i64 i:=by obtain ⟨_,q⟩:=hI1;exact q
          have hiv:(V.data (.int .i64) i).val cI = .int .i64 i:=by obtain ⟨q,_⟩:=hI1;subst q;rfl
          have hj:inR .i64 j:=by obtain ⟨_,q⟩:=hJ;exact q
          have hjv:(V.data (.int .i64) j).val cJ = .int .i64 j:=by obtain ⟨q,_⟩:=hJ;subst q;rfl
          refine Ztw hI r1 hU hX hn hd (hr.st.perm h3) g2 hi hj hz (fun hen=>?_) h;rw [hent hen,ZMg (x:=.own kk) rfl,g4,hiv,hjv]
         ·exact h.elim
       | box _ _=>exact h.elim
       | mid _ _ _ _ _ _=>exact h.elim
       | mat _ _ _ _ _=>exact h.elim
      ·exact h.elim
     ·exact h.elim
theorem Zav:∀ {c:V} {i:Nat} {z:V} {vals:List Value},nthV c i=some z→RR v γ l true c vals→c.ok U→∃ y,vals[i]? = some y∧RV v γ l z y∧z.ok U
 | .cons x c,0,z,vals,h,hr,hk=>by
  cases h
  obtain ⟨cs,xs,rfl,h1,h2⟩:=hr
  exact ⟨_,rfl,Zec h1 (fun c e=>by subst e;exact h1),hk.1⟩
 | .cons x c,i+1,z,vals,h,hr,hk=>by
  obtain ⟨cs,xs,rfl,h1,h2⟩:=hr
  obtain ⟨y,k1,k2,k3⟩:=Zav (c:=c) h h2 hk.2
  exact ⟨y,by simpa using k1,k2,k3⟩
theorem ZPs {v:Zb} {a:T}:∀ {n:Nat} {x:(Zzf a n).den} {cs:List Value},0<n→(Zzf a n).rep.rel v cs x→a.rep.rels v cs (Zme a n x)∧(Zme a n x).length=n
 | 0,_,_,h,_=>by omega
 | 1,x,cs,_,h=>⟨Ztp h,rfl⟩
 | 2,x,cs,_,h=>by
  obtain ⟨c1,c2,h1,h2,h3⟩:=h
  exact ⟨⟨c1,c2,h1,h2,Ztp h3⟩,rfl⟩
 | k+3,x,cs,_,h=>by
  obtain ⟨c1,c2,h1,h2,h3⟩:=h
  obtain ⟨k1,k2⟩:=ZPs (n:=k+2) (by omega) h3
  exact ⟨⟨c1,c2,h1,h2,k1⟩,by show (Zme a (k+2) x.2).length+1=_;rw [k2]⟩
theorem RelX.slot (h:RelX N G w0 v0 U X f l a w γ v ℓ) {t m:Nat} {z:V} (hr:RV v γ l z (a.tmps.getD t undef)) (hk:z.ok U) (hX:X m):RelX N G w0 v0 U X (⟨t,m,z⟩ :: f) l a w γ v ℓ:=by
 refine ⟨h.st,fun t' e' he'=>?_,h.lr,h.nd,fun t' e' he'=>?_,h.ul,h.gh⟩
 ·rw [ZU] at he';split at he'
  ·rename_i hk'
   cases he'
   have hk':t=t':=hk';rw [← hk'];exact hr
  ·exact h.fr t' e' he'
 ·rw [ZU] at he';split at he'
  ·cases he';exact ⟨hk,hX⟩
  ·exact h.uf t' e' he'
theorem ZyA {σ:List (Nat×Value)} (hS:St N w0 v0 σ ℓ v a w) {t e:TypeId} {n b:Nat} {i:TypeInfo} {x:Operand} (ht:P.underlying t=some (.array n e)) (hi:P.info? e=some i) (e1:ev σ x=some (.pointer (some ⟨b,0,none⟩))) :
  (execOp a.eval ⟨d,.slice t x none none none,ty,pos,aft,g⟩).run P w = .ok (.value (.slice (some ⟨b,0,none⟩) n n)) w:=by
 have h2:∀ w,(underlying t).run P w = .ok (.array n e) w:=fun w=>run_underlying ht w;have h3:∀ w,(sizeOf e).run P w = .ok i.size w:=fun w=>by simp [sizeOf,typeInfo,hi]
 by_cases hn:n=0
 ·subst hn;simp [execOp,Instr.sliceAt,Instr.sureAddr,hS.eval e1,h2,h3,Instr.sliceBounds,Zua]
 ·simp [execOp,Instr.sliceAt,Instr.sureAddr,hS.eval e1,h2,h3,Instr.sliceBounds,Zua]
theorem arrE_ok {C:Cf} (hr:RelX N G w0 v0 U X f l a w γ v ℓ) (hU:∀ k,U k→X k) (hX:X n) (hn:¬ U n) {t:TypeId} {s u off:Nat} {lo hi:Option Operand} {i j:Option Int} {o:Oper} {Post:Unit→Fr→Lo→Prop} (ho:o=⟨d,.slice t (.tmp s) lo hi none,ty,pos,aft,g⟩) (hd:∀ k,o.dst=some k→k<N) (hp:RV v γ l (.ptr u off) (a.eval (.tmp s))) (hk:U u)
  (hlo:(lo=none∧i=none) ∨ ∃ y κ q,lo=some y∧i=some q∧a.eval y = .int κ q) (hhi:(hi=none∧j=none) ∨ ∃ y κ q,hi=some y∧j=some q∧a.eval y = .int κ q) (h:Zn n (arrE C o t s u off i j) f l Post):Zxa C.P N G w0 v0 X o a w Post:=by
 unfold arrE at h;split at h
 ·rename_i m e h0 hu;have h0:=Nat.eq_of_beq_eq_true h0;subst h0;have hlo:lo=none:=by
   rcases hlo with h1 | ⟨_,_,_,_,h1,_⟩
   ·exact h1.1
   ·cases h1
  have hhi:hi=none:=by
   rcases hhi with h1 | ⟨_,_,_,_,h1,_⟩
   ·exact h1.1
   ·cases h1
  subst hlo hhi;split at h
  ·rename_i α q hα hq hm0 hm1;have hm0:1≤m:=Nat.le_of_ble_eq_true hm0;have hm1:=Nat.le_of_ble_eq_true hm1;split at h
   ·obtain ⟨⟨k0,st0,L⟩,he,h⟩:=h;have hkk:k0=u:=(Zs he).2;subst hkk
    cases L with
    | box ty0 c =>
     simp only at h;obtain ⟨y,hy0,_,hy⟩:=Zka hp (fun _ e=>by cases e) rfl rfl;have hy0:a.eval (.tmp s)=y:=(List.cons.inj hy0).1;obtain ⟨b,g1,rfl⟩:=hy _ he;obtain ⟨es,E',h1,_,_,h3,_⟩:=hr.del he;obtain ⟨b',cs,g2,g3,g4,rfl⟩:=h1;have g2:γ k0 = .box b':=g2;rw [g1] at g2;cases g2;obtain ⟨x1,l1,γ1,v1,ℓ1,hB,r1,le1,q1⟩:=ZWd hn hX FU h hr (hr.ul _ (Zs he).1).2.2;obtain ⟨⟨k1,st1,L1⟩,he1,hC⟩:=hB;have hkk1:k1=k0:=(Zs he1).2;subst hkk1
     cases L1 with
     | box ty1 c1 =>
      obtain ⟨e0,he0,hce⟩:=le1.l _ _ hk he1;rw [he] at he0;cases he0;have hce:γ1 k1=γ k1:=hce;obtain ⟨es1,E1,f1,_,_,f3,r2⟩:=r1.del he1;obtain ⟨b1,cs1,f4,f5,f6,rfl⟩:=f1;have f4:γ1 k1 = .box b1:=f4;rw [hce,g1] at f4;cases f4;have m0:=(hr.st.loc _ (h3.mem_iff.2 (List.mem_append_left _ (List.mem_singleton.2 rfl)))).1;have m1:=(r1.st.loc _ (f3.mem_iff.2 (List.mem_append_left _ (List.mem_singleton.2 rfl)))).1;have m0:w.heap[b]? = some (.cells cs.toArray ty0 (0,0)):=m0;have m1:w.heap[b]? = some (.cells cs1.toArray ty1 (0,0)):=m1;rw [m0] at m1;have hcs:cs=cs1:=by
       have:=Option.some.inj m1
       injection this with h1 _ _
       have:=congrArg Array.toList h1
       simpa using this
      subst hcs;obtain ⟨v',hv,hs1,hAt⟩:=(r1.st.perm f3).pubVar (i:=0) rfl rfl;have hs1:St N w0 v0 [] E1.flatten v' a w:=hs1;have r3:=r2.go hv hs1;have hrel:=Rep.mono _ hv (q1 _ g3);have r4:=r3.slot (t:=s) (m:=n) (z:=.vp (Zzf α m) x1 0) ⟨[_],⟨b,0,cs,hAt,hrel,rfl⟩,hy0⟩ trivial hX;obtain ⟨i0,hi0⟩:∃ i0,C.P.info? e=some i0:=by
       unfold szA at hq;split at hq
       ·rename_i i0 _ hi0 _;exact ⟨i0,hi0⟩
       ·cases hq
      obtain ⟨σ,hσ,e1⟩:=r4.st.ev1 (.tmp s);rw [hy0] at e1;obtain ⟨k4,k5⟩:=ZPs (by omega) hrel;subst ho;refine ZN r4 hU (ZyA hσ hu hi0 e1) hd hX (x:=.data (.slice α) (Zme α m x1)) ⟨[.slice (some ⟨b,0,none⟩) m m],?_,rfl⟩ trivial hC;obtain ⟨c2,T2,fr2,hvb,htk⟩:=hAt;have hlen:=Zcd k4;rw [k5] at hlen;refine ⟨some ⟨b,0,none⟩,m,by rw [show (Zme α m x1).length=m from k5],by rw [show (Zme α m x1).length=m from k5];exact Nat.le_refl _,by unfold maxLen;omega,.inr ⟨b,0,c2,T2,fr2,rfl,hvb,?_⟩⟩;rw [show (Zme α m x1).length=m from k5,← hlen,htk];exact k4
     | own _ _ _ _=>exact hC.elim
     | mat _ _ _ _ _=>exact hC.elim
     | mid _ _ _ _ _ _=>exact hC.elim
    | own _ _ _ _=>exact h.elim
    | mat _ _ _ _ _=>exact h.elim
    | mid _ _ _ _ _ _=>exact h.elim
   ·exact h.elim
  ·exact h.elim
 ·exact h.elim
theorem RelX.dup (h:RelX N G w0 v0 U X f l a w γ v ℓ) {t:Nat} {e:En V} (he:lkE f t=some e):RelX N G w0 v0 U X (e :: f) l a w γ v ℓ:=by
 obtain ⟨hm,hk⟩:=Zs he;have key:∀ t',lkE (e :: f) t'=lkE f t':=fun t'=>by
  rw [ZU];split
  ·rename_i hk';rw [← hk',hk];exact he.symm
  ·rfl
 exact ⟨h.st,fun t' e' he'=>h.fr t' e' (by rw [← key];exact he'),h.lr,h.nd,fun t' e' he'=>h.uf t' e' (by rw [← key];exact he'),h.ul,h.gh⟩
theorem run_mkI {σ:List (Nat×Value)} (hS:St N w0 v0 σ ℓ v a w) {t:TypeId} {x:Operand} {y:Value} {D:TypeDesc} (e:ev σ x=some y) (h:P.underlying t=some D) (hn:∀ q,some D≠some (.interface q)) :
  (execOp a.eval ⟨d,.makeInterface t x,ty,pos,aft,g⟩).run P w = .ok (.value (.iface t y)) w:=by
 have hx:=hS.eval e;have:(Instr.makeInterface t y).run P w = .ok (.iface t y) w:=by
  cases D with
  | interface q=>exact absurd rfl (hn q)
  | _=>simp [Instr.makeInterface,run_underlying h]
 simp [execOp,hx,this]
theorem ZJx {σ:List (Nat×Value)} (hS:St N w0 v0 σ ℓ v a w) {x y z u s t:Operand} {k:IntKind} {p q r p' q' r':Int} {ats:Array TypeId} (e:ev σ x=some (.int k p)) (e':ev σ y=some (.int k q)) (e2:ev σ z=some (.int k r)) (e3:ev σ u=some (.int k p')) (e4:ev σ s=some (.int k q')) (e5:ev σ t=some (.int k r')) :
  (execOp a.eval ⟨d,.call ⟨.builtin .max,#[x,y,z,u,s,t],ats⟩,ty,pos,aft,g⟩).run P w = .ok (.value (.int k (max (max (max (max (max p q) r) p') q') r'))) w:=by
 simp [execOp,resolve,invoke,builtin,Builtin.max_,hS.eval e,hS.eval e',hS.eval e2,hS.eval e3,hS.eval e4,hS.eval e5,Zwp]
theorem ZKm {C:Cf} (hC:CfOK C) (hr:RelX N G w0 v0 U X f l a w γ v ℓ) (hU:∀ k,U k→X k) (hX:X n) (hn:¬ U n) {o:Oper} {Post:Unit→Fr→Lo→Prop} (hd:∀ k,o.dst=some k→k<N) (h:Zn n (Z1 C n o) f l Post):Zxa C.P N G w0 v0 X o a w Post:=by
 obtain ⟨d,op,ty,pos,aft,g⟩:=o
 cases op with
 | move x =>
  simp only [Z1] at h;obtain ⟨V1,h1,k1,hA⟩:=ZG hr h;obtain ⟨σ,hσ,e1⟩:=hr.st.ev1 x;exact ZN hr hU (ZL hσ e1) hd hX h1 (V.ok.mono hU k1) hA
 | assign x =>
  simp only [Z1] at h;split at h
  ·rename_i hx;have hx:x = .const (.pointer none):=by
    unfold Zks at hx;split at hx
    ·rfl
    ·cases hx
   subst hx;obtain ⟨h0,hA⟩:=h;have e0:Go.Eng.era (⟨n,n,LV.box 0 .undef⟩ :: l) n=l:=by
    simp only [era];rw [show Nat.beq n n=true from Nat.beq_refl n]
   have hA:Zn n (ret ⟨d,.assign (.const (.pointer none)),ty,pos,aft,g⟩ (.ptr n 0)) f (Go.Eng.era (⟨n,n,LV.box 0 .undef⟩ :: l) n) Post:=hA;rw [e0] at hA;obtain ⟨σ,hσ,e1⟩:=hr.st.ev1 (.const (.pointer none));exact ZN hr hU (Z5d hσ e1) hd hX (x:=.ptr n 0) ⟨[.pointer none],⟨_,rfl,rfl,fun e he=>by rw [h0] at he;cases he⟩,rfl⟩ hX hA
  ·obtain ⟨V1,h1,k1,hA⟩:=ZG hr h;obtain ⟨σ,hσ,e1⟩:=hr.st.ev1 x;exact ZN hr hU (Z5d hσ e1) hd hX h1 (V.ok.mono hU k1) hA
 | nilCheck x =>
  simp only [Z1] at h;obtain ⟨V1,h1,k1,hA⟩:=ZG hr h;split at hA
  ·rename_i α y;obtain ⟨cs,hcs,e0⟩:=h1;obtain ⟨b,o',c,rfl,hat,hrel⟩:=(show (rPtr α.rep).rel v cs y from hcs);obtain ⟨σ,hσ,e1⟩:=hr.st.ev1 x;rw [e0] at e1;have e1:ev σ x=some (.pointer (some ⟨b,o',none⟩)):=e1;have hrun:(execOp a.eval ⟨d,.nilCheck x,ty,pos,aft,g⟩).run C.P w = .ok (.value (.pointer (some ⟨b,o',none⟩))) w:=by simp [execOp,hσ.eval e1]
   exact ZN hr hU hrun hd hX (x:=.vp α y 0) ⟨[_],⟨b,o',c,hat,hrel,rfl⟩,rfl⟩ trivial hA
  obtain ⟨hB,b,o',e',_⟩:=Zhm h1 k1 hA;obtain ⟨σ,hσ,e1⟩:=hr.st.ev1 x;rw [e'] at e1 h1;have hrun:(execOp a.eval ⟨d,.nilCheck x,ty,pos,aft,g⟩).run C.P w = .ok (.value (.pointer (some ⟨b,o',none⟩))) w:=by simp [execOp,hσ.eval e1]
  exact ZN hr hU hrun hd hX h1 (V.ok.mono hU k1) hB
 | extract x i =>
  simp only [Z1] at h;obtain ⟨V1,h1,k1,hA⟩:=ZG hr h;split at hA
  ·rename_i c;split at hA
   ·rename_i z hz;obtain ⟨vals,h2,h3⟩:=h1;obtain ⟨y,q1,q2,q3⟩:=Zav hz h2 k1;obtain ⟨σ,hσ,e1⟩:=hr.st.ev1 x;rw [h3] at e1;exact ZN hr hU (ZFa hσ e1 (by simpa using q1)) hd hX q2 (V.ok.mono hU q3) hA
   ·exact hA.elim
  ·exact hA.elim
 | alloc t =>
  simp only [Z1] at h;split at h
  ·rename_i z hz;obtain ⟨y,cs,hy,hcells,hzz,hkz,hp⟩:=Z2n (v:=v) (γ:=γ) (l:=l) (U:=U) hz;refine ZKs hr hU hX hn hd hzz hkz hp ?_ h;have:=ZMn (a:=a) (w:=w) (d:=d) (ty:=ty) (pos:=pos) (aft:=aft) (g:=g) hy;rw [hcells] at this;exact this
  ·exact h.elim
 | box t x =>
  simp only [Z1] at h;obtain ⟨V1,h1,k1,hA⟩:=ZG hr h;split at hA
  ·rename_i hfit;obtain ⟨cs,hcs,hqe⟩:=ZKb h1 (ZJo hfit);obtain ⟨hcells,hpl⟩:=ZIk hcs hfit;obtain ⟨σ,hσ,e1⟩:=hr.st.ev1 x;rw [hqe] at e1;refine ZKs hr hU hX hn hd hcs k1 hpl ?_ hA;have:=Z9t (t:=t) (d:=d) (ty:=ty) (pos:=pos) (aft:=aft) (g:=g) (P:=C.P) hσ e1;rw [show (V1.val cs).cells=cs.toArray from hcells] at this;exact this
  ·exact hA.elim
 | load t x =>
  simp only [Z1] at h;obtain ⟨V1,h1,k1,hA⟩:=ZG hr h;split at hA
  ·exact Z0B hr hU hX hn rfl hd h1 hA
  obtain ⟨z,y,q1,q2,q3,hB⟩:=ldE_ok (d:=d) (ty:=ty) (pos:=pos) (aft:=aft) (g:=g) hr h1 k1 hA;exact ZN hr hU q1 hd hX q2 (V.ok.mono hU q3) hB
 | store t x y =>
  simp only [Z1] at h
  cases d with
  | some d=>exact h.elim
  | none =>
   obtain ⟨V1,h1,k1,hA⟩:=ZG hr h;obtain ⟨V2,h2,k2,hB⟩:=ZG hr hA;exact stE_ok hr hU hX hn rfl h1 h2 k1 k2 hB
 | fieldAddr s x i =>
  simp only [Z1] at h;obtain ⟨V1,h1,k1,hA⟩:=ZG hr h;obtain ⟨z,y,q1,q2,q3,hB⟩:=fldE_ok (d:=d) (ty:=ty) (pos:=pos) (aft:=aft) (g:=g) hr h1 k1 hA;exact ZN hr hU q1 hd hX q2 (V.ok.mono hU q3) hB
 | field s x i =>
  simp only [Z1] at h;obtain ⟨V1,h1,k1,hA⟩:=ZG hr h;split at hA
  ·rename_i fd hfd hag;split at hA
   ·rename_i q hq;split at hA
    ·rename_i z hz;obtain ⟨cs,hcs,hqe⟩:=ZKb h1 (fun c e=>by subst e;cases hag);obtain ⟨q1,q2,q3⟩:=Zut hq hz hcs k1 w;obtain ⟨σ,hσ,e1⟩:=hr.st.ev1 x;have hv:V1.val cs = .agg cs.toArray:=by unfold V.val;rw [hag]
     rw [hqe,hv] at e1;refine ZN hr hU (ZWy hσ e1 ?_) hd hX (Zec q2 (fun c e=>by subst e;exact q2)) (V.ok.mono hU q3) hA;unfold fldT at hfd;split at hfd
     ·rename_i fs hfs;have hfd':fs[i]? = some fd:=by rw [← Array.getElem?_toList];exact hfd
      simp [Instr.field,run_underlying hfs,hfd',asAgg,q1]
     ·cases hfd
    ·exact hA.elim
   ·exact hA.elim
  ·exact hA.elim
 | indexAddr t x i =>
  simp only [Z1] at h;obtain ⟨V1,h1,k1,hA⟩:=ZG hr h;obtain ⟨V2,h2,k2,hB⟩:=ZG hr hA;obtain ⟨κ,j,rfl,hC'⟩:=Zjb hB;split at hC'
  ·unfold altE at hC';split at hC'
   ·exact alts_ok hr hU hX rfl hd h1 k1 (ZHa h2).1 hC'
   ·exact hC'.elim
  ·exact ixE_ok hr hU hX rfl hd h1 k1 (ZHa h2).1 hC'
 | index t x i =>
  simp only [Z1] at h;obtain ⟨V1,h1,k1,hA⟩:=ZG hr h;obtain ⟨V2,h2,k2,hB⟩:=ZG hr hA;obtain ⟨κ,j,rfl,hC'⟩:=Zjb hB;obtain ⟨e2,_⟩:=ZHa h2;obtain ⟨σ,hσ,ev1,ev2⟩:=hr.st.ev2 x i;rw [e2] at ev2;split at hC'
  ·obtain ⟨e1,_⟩:=ZOh h1;rw [e1] at ev1;split at hC'
   ·rename_i ht;obtain ⟨y,hy,hC'⟩:=hC';exact ZN hr hU (ZQx hσ ev1 ev2 ht hy) hd hX (ZNa (u8_inR y)) trivial hC'
   ·exact hC'.elim
  ·split at hC'
   ·rename_i m e ht;split at hC'
    ·rename_i q hq hag b0 b1;have b0:(0:Int)≤j:=by simpa using b0
     have b1:@LT.lt Int _ j (m:Int):=by simpa using b1
     split at hC'
     ·rename_i z hz;obtain ⟨cs,hcs,hqe⟩:=ZKb h1 (fun c e=>by subst e;cases hag);obtain ⟨q1,q2,q3⟩:=Zut hq hz hcs k1 w;have hv:V1.val cs = .agg cs.toArray:=by unfold V.val;rw [hag]
      rw [hqe,hv] at ev1;refine ZN hr hU (ZIB hσ ev1 ev2 ?_) hd hX (Zec q2 (fun c e=>by subst e;exact q2)) (V.ok.mono hU q3) hC';simp [Instr.index,asIntOf,run_underlying ht,b0,b1,(ZTf hq).size,q1]
     ·exact hC'.elim
    ·exact hC'.elim
   ·exact hC'.elim
 | binOp op t x y t' =>
  simp only [Z1] at h;obtain ⟨V1,h1,k1,hA⟩:=ZG hr h;obtain ⟨V2,h2,k2,hB⟩:=ZG hr hA;obtain ⟨z,q,q1,q2,q3,hC'⟩:=binE_ok (d:=d) (ty:=ty) (pos:=pos) (aft:=aft) (g:=g) (t':=t') hr h1 h2 hB;exact ZN hr hU q1 hd hX q2 (V.ok.mono hU q3) hC'
 | unOp u t x =>
  cases u with
  | not =>
   simp only [Z1] at h;obtain ⟨V1,h1,k1,hA⟩:=ZG hr h;obtain ⟨b,rfl,hB⟩:=ZdB hA;obtain ⟨σ,hσ,e1⟩:=hr.st.ev1 x;rw [ZNg h1] at e1;exact ZN hr hU (ZBq hσ e1) hd hX Z0c trivial hB
  | neg =>
   simp only [Z1] at h;obtain ⟨V1,h1,k1,hA⟩:=ZG hr h;obtain ⟨κ,i,rfl,hB⟩:=Zjb hA;obtain ⟨σ,hσ,e1⟩:=hr.st.ev1 x;rw [(ZHa h1).1] at e1;exact ZN hr hU (run_neg hσ e1) hd hX (ZNa (Zac _ _)) trivial hB
  | _=>exact h.elim
 | convert s t x =>
  simp only [Z1] at h;obtain ⟨V1,h1,k1,hA⟩:=ZG hr h;obtain ⟨σ,hσ,e1⟩:=hr.st.ev1 x;split at hA
  ·rename_i κ i ds κ' hs ht;obtain ⟨q1,q2⟩:=ZHa h1;rw [q1] at e1;have hcv:∀ w,(convert s t (.int κ i)).run C.P w = .ok (.int κ' (κ'.wrap i)) w:=fun w=>by
    simp [convert,run_underlying hs,run_underlying ht,Conv.intToInt]
   split at hA
   ·rename_i hk;have hk:=Zrc hk;subst hk;refine ZN hr hU (Z9f hσ e1 hcv) hd hX (x:=.data (.int κ) i) ?_ trivial hA;rw [Zjd q2];exact ZNa q2
   ·exact ZN hr hU (Z9f hσ e1 hcv) hd hX (ZNa (Zac _ _)) trivial hA
  ·rename_i hs ht;obtain ⟨q1,q2⟩:=ZOh h1;rw [q1] at e1;exact ZN hr hU (Z9f hσ e1 (fun w=>by simp [convert,run_underlying hs,run_underlying ht])) hd hX (ZXj q2) trivial hA
  ·exact hA.elim
 | makeInterface t x =>
  simp only [Z1] at h;obtain ⟨V1,h1,k1,hA⟩:=ZG hr h;split at hA
  ·rename_i hfit;split at hA
   ·exact hA.elim
   ·rename_i D hni hD;obtain ⟨cs,hcs,hqe⟩:=ZKb h1 (ZJo hfit);obtain ⟨σ,hσ,e1⟩:=hr.st.ev1 x;rw [hqe] at e1;refine ZN hr hU (run_mkI hσ e1 hD fun q e=>hni q (Option.some.inj e)) hd hX (x:=.ifc t V1) ⟨[_],⟨cs,hcs,rfl⟩,rfl⟩ (V.ok.mono hU k1) hA
   ·exact hA.elim
  ·exact hA.elim
 | makeFunc fn first cap =>
  cases fn with
  | func fi =>
   simp only [Z1] at h;split at h
   ·rename_i hfirst;obtain ⟨c,h1,k1,hA⟩:=Zhg hr h;obtain ⟨σ,hσ,hev⟩:=hr.st.evs cap.toList;have hargs:cap.toList.map (ev σ)=(cap.toList.map a.eval).map some:=by
     rw [List.map_map];exact List.map_congr_left fun y hy=>hev y hy
    have hf:first = #[]:=by
     apply Array.ext';simpa using hfirst
    subst hf;exact ZN hr hU (ZGx hσ _ hargs) hd hX (x:=.fn fi c) ⟨[_],⟨_,h1,rfl⟩,rfl⟩ (V.ok.mono hU k1) hA
   ·exact h.elim
  | _=>exact h.elim
 | makeSlice t x y=>exact ZAA hr hU hX hn rfl hd h
 | buildSlice t m ps=>exact Zpz hr hU hX hn rfl hd h
 | build t ps=>exact ZSy hr hU hX rfl hd h
 | slice t x lo hi mx =>
  cases mx with
  | some _=>exact h.elim
  | none =>
   simp only [Z1] at h;obtain ⟨i,hA,hlo⟩:=Z9u hr h;obtain ⟨j,hB,hhi⟩:=Z9u hr hA;obtain ⟨V1,h1,k1,hC'⟩:=ZG hr hB;split at hC'
   ·rename_i u;obtain ⟨en,he,hC'⟩:=hC';obtain ⟨kk,st,L⟩:=en
    cases L with
    | own ty0 s xs fz =>
     obtain ⟨ys,l1,γ1,v1,ℓ1,hD,r1,le1,q1⟩:=ZWd hn hX FU hC' hr k1;obtain ⟨cs,hcs,hqe⟩:=ZKb h1 (fun c e=>by cases e);have hrel:=q1 _ hcs;exact Zkl (p:=.data (.slice s) ys) r1 hU hX rfl hd ⟨cs,hrel,hqe⟩ hlo hhi hD
    | box _ _=>exact hC'.elim
    | mid _ _ _ _ _ _=>exact hC'.elim
    | mat _ _ _ _ _=>exact hC'.elim
   ·obtain ⟨cs,hcs,hqe⟩:=Zkh h1;exact Zkl (p:=.data (.slice (.int .u64)) (Zc 18446744073709551616 _)) hr hU hX rfl hd ⟨cs,hcs,hqe⟩ hlo hhi hC'
   ·obtain ⟨cs,hcs,hqe⟩:=Zkh h1;exact Zkl (p:=.data (.slice (.int .u32)) (Zc 4294967296 _)) hr hU hX rfl hd ⟨cs,hcs,hqe⟩ hlo hhi hC'
   ·split at hC'
    ·exact arrE_ok hr hU hX hn rfl hd h1 k1 hlo hhi hC'
    ·exact hC'.elim
   ·exact Zkl hr hU hX rfl hd h1 hlo hhi hC'
 | pick c x y =>
  cases c with
  | tmp c =>
   simp only [Z1] at h;obtain ⟨s,b,hf,h1,h2⟩:=h;have hr':=RelX.dup hr hf;have hc:=ZNg (hr.fr c _ hf);obtain ⟨σ,hσ,hev⟩:=hr.st.evs [.tmp c,x,y];have e0:=hev (.tmp c) (by simp);have e0:ev σ (.tmp c)=some (.bool b):=e0.trans (congrArg some hc);have ex:=hev x (by simp);have ey:=hev y (by simp)
   cases b with
   | true =>
    obtain ⟨V1,q1,k1,hA⟩:=ZG hr' (h1 rfl);exact ZN hr' hU (Zvf hσ e0 (by rw [if_pos rfl];exact ex)) hd hX q1 (V.ok.mono hU k1) hA
   | false =>
    obtain ⟨V1,q1,k1,hA⟩:=ZG hr' (h2 rfl);exact ZN hr' hU (Zvf hσ e0 (by rw [if_neg (by decide)];exact ey)) hd hX q1 (V.ok.mono hU k1) hA
  | _=>exact h.elim
 | call c =>
  obtain ⟨callee,args,ats⟩:=c
  cases callee with
  | value x =>
   simp only [Z1] at h;obtain ⟨V1,h1,k1,hA⟩:=ZG hr h;obtain ⟨c,h2,k2,hB⟩:=Zhg hr hA;split at hB
   ·rename_i fi;obtain ⟨cs,⟨vs,q1,rfl⟩,q3⟩:=h1;have q1:vs=[]:=q1;subst q1;have q3:a.eval x = .func (.func fi) #[] #[]:=q3;obtain ⟨σ,hσ,hev⟩:=hr.st.evs (x :: args.toList);have hfx:=hev x (by simp);rw [q3] at hfx;have hargs:args.toList.map (ev σ)=(args.toList.map a.eval).map some:=by
     rw [List.map_map];exact List.map_congr_left fun y hy=>hev y (by simp [hy])
    exact Zsv hC hr hU hX hn hd (fun hen=>ZBa hσ _ hen hfx hargs) (fun y hv=>ZWk hσ _ hv hfx hargs) h2 k2 hB
   ·exact hB.elim
  | invoke r m =>
   simp only [Z1] at h;obtain ⟨V1,h1,k1,hA⟩:=ZG hr h;obtain ⟨c,h2,k2,hB⟩:=Zhg hr hA;split at hB
   ·rename_i t x;split at hB
    ·rename_i fi hfi;obtain ⟨cs,⟨cc,q1,rfl⟩,q3⟩:=h1;have q3:a.eval r = .iface t (x.val cc):=q3;obtain ⟨σ,hσ,hev⟩:=hr.st.evs (r :: args.toList);have hfx:=hev r (by simp);rw [q3] at hfx;have hargs:args.toList.map (ev σ)=(args.toList.map a.eval).map some:=by
      rw [List.map_map];exact List.map_congr_left fun y hy=>hev y (by simp [hy])
     exact Zsv hC hr hU hX hn (c:=.cons x c) (vals:=x.val cc :: args.toList.map a.eval) hd (fun hen=>Z9q hσ _ (fun w=>hC.m t m fi hfi _ w) hfx hargs (hen _ w)) (fun y hv=>Z9q hσ _ (fun w=>hC.m t m fi hfi _ w) hfx hargs (by
      have:=hv w;exact this)) ⟨cc,_,rfl,q1,h2⟩ ⟨k1,k2⟩ hB
    ·exact hB.elim
   ·exact hB.elim
  | builtin b =>
   cases b with
   | len =>
    simp only [Z1] at h;split at h
    ·rename_i x t hx ht;have hx:args = #[x]:=by apply Array.ext';exact hx
     have ht:ats = #[t]:=by apply Array.ext';exact ht
     subst hx ht;obtain ⟨V1,h1,k1,hA⟩:=ZG hr h;obtain ⟨m,q1,q2,hB⟩:=lenE_ok (d:=d) (ty:=ty) (pos:=pos) (aft:=aft) (g:=g) hr h1 hA;exact ZN hr hU q1 hd hX (ZNa q2) trivial hB
    ·exact h.elim
   | append =>
    simp only [Z1] at h;split at h
    ·rename_i x y t t' hx ht;split at h
     ·rename_i hb;have hb:=Nat.eq_of_beq_eq_true hb;subst hb;have hx:args = #[x,y]:=by apply Array.ext';exact hx
      have ht:ats = #[t,t]:=by apply Array.ext';exact ht
      subst hx ht;obtain ⟨V1,h1,k1,hA⟩:=ZG hr h;obtain ⟨V2,h2,k2,hB⟩:=ZG hr hA;exact appE_ok hr hU hX hn rfl hd h1 h2 k1 k2 hB
     ·exact h.elim
    ·exact h.elim
   | max =>
    simp only [Z1] at h;split at h
    ·rename_i x y hx;have hx:args = #[x,y]:=by apply Array.ext';exact hx
     subst hx;obtain ⟨V1,h1,k1,hA⟩:=ZG hr h;obtain ⟨V2,h2,k2,hB⟩:=ZG hr hA;obtain ⟨κ,i,rfl,hC'⟩:=Zjb hB;obtain ⟨κ',j,rfl,hD⟩:=Zjb hC';split at hD
     ·rename_i hk;have hk:=Zrc hk;subst hk;obtain ⟨e1,r1⟩:=ZHa h1;obtain ⟨e2,r2⟩:=ZHa h2;obtain ⟨σ,hσ,ev1,ev2⟩:=hr.st.ev2 x y;rw [e1] at ev1;rw [e2] at ev2;exact ZN hr hU (run_max hσ ev1 ev2) hd hX (ZNa (Z3e r1 r2)) trivial hD
     ·exact hD.elim
    ·rename_i x y z hx;have hx:args = #[x,y,z]:=by apply Array.ext';exact hx
     subst hx;obtain ⟨V1,h1,k1,hA⟩:=ZG hr h;obtain ⟨V2,h2,k2,hB⟩:=ZG hr hA;obtain ⟨V3,h3,k3,hB'⟩:=ZG hr hB;obtain ⟨κ,i,rfl,hC'⟩:=Zjb hB';obtain ⟨κ',j,rfl,hD⟩:=Zjb hC';obtain ⟨κ'',q,rfl,hE⟩:=Zjb hD;split at hE
     ·rename_i hk hk2;have hk:=Zrc hk;subst hk;have hk2:=Zrc hk2;subst hk2;obtain ⟨e1,r1⟩:=ZHa h1;obtain ⟨e2,r2⟩:=ZHa h2;obtain ⟨e3,r3⟩:=ZHa h3;obtain ⟨σ,hσ,ev1,ev2,ev3⟩:=hr.st.ev3 x y z;rw [e1] at ev1;rw [e2] at ev2;rw [e3] at ev3;exact ZN hr hU (Z1y hσ ev1 ev2 ev3) hd hX (ZNa (Z3e (Z3e r1 r2) r3)) trivial hE
     ·exact hE.elim
    ·rename_i x1 x2 x3 x4 x5 x6 hx;have hx:args = #[x1,x2,x3,x4,x5,x6]:=by apply Array.ext';exact hx
     subst hx;obtain ⟨V1,h1,k1,hA⟩:=ZG hr h;obtain ⟨V2,h2,k2,hA⟩:=ZG hr hA;obtain ⟨V3,h3,k3,hA⟩:=ZG hr hA;obtain ⟨V4,h4,k4,hA⟩:=ZG hr hA;obtain ⟨V5,h5,k5,hA⟩:=ZG hr hA;obtain ⟨V6,h6,k6,hA⟩:=ZG hr hA;obtain ⟨κ,i1,rfl,hB1⟩:=Zjb hA;obtain ⟨κ2,i2,rfl,hB2⟩:=Zjb hB1;obtain ⟨κ3,i3,rfl,hB3⟩:=Zjb hB2;obtain ⟨κ4,i4,rfl,hB4⟩:=Zjb hB3;obtain ⟨κ5,i5,rfl,hB5⟩:=Zjb hB4;obtain ⟨κ6,i6,rfl,hB6⟩:=Zjb hB5;split at hB6
     ·have g2:=Zrc (show kEq κ κ2=true by assumption)
      cases g2
      have g3:=Zrc (show kEq κ κ3=true by assumption)
      cases g3
      have g4:=Zrc (show kEq κ κ4=true by assumption)
      cases g4
      have g5:=Zrc (show kEq κ κ5=true by assumption)
      cases g5
      have g6:=Zrc (show kEq κ κ6=true by assumption)
      cases g6
      obtain ⟨e1,r1⟩:=ZHa h1;obtain ⟨e2,r2⟩:=ZHa h2;obtain ⟨e3,r3⟩:=ZHa h3;obtain ⟨e4,r4⟩:=ZHa h4;obtain ⟨e5,r5⟩:=ZHa h5;obtain ⟨e6,r6⟩:=ZHa h6;obtain ⟨σ,hσ,ev1,ev2,ev3,ev4,ev5,ev6⟩:=hr.st.ev6 x1 x2 x3 x4 x5 x6;rw [e1] at ev1;rw [e2] at ev2;rw [e3] at ev3;rw [e4] at ev4;rw [e5] at ev5;rw [e6] at ev6;exact ZN hr hU (ZJx hσ ev1 ev2 ev3 ev4 ev5 ev6) hd hX (ZNa (Z3e (Z3e (Z3e (Z3e (Z3e r1 r2) r3) r4) r5) r6)) trivial hB6
     ·exact hB6.elim
    ·exact h.elim
   | min =>
    simp only [Z1] at h;split at h
    ·rename_i x y hx;have hx:args = #[x,y]:=by apply Array.ext';exact hx
     subst hx;obtain ⟨V1,h1,k1,hA⟩:=ZG hr h;obtain ⟨V2,h2,k2,hB⟩:=ZG hr hA;obtain ⟨κ,i,rfl,hC'⟩:=Zjb hB;obtain ⟨κ',j,rfl,hD⟩:=Zjb hC';split at hD
     ·rename_i hk;have hk:=Zrc hk;subst hk;obtain ⟨e1,r1⟩:=ZHa h1;obtain ⟨e2,r2⟩:=ZHa h2;obtain ⟨σ,hσ,ev1,ev2⟩:=hr.st.ev2 x y;rw [e1] at ev1;rw [e2] at ev2;exact ZN hr hU (run_min hσ ev1 ev2) hd hX (ZNa (min_inR r1 r2)) trivial hD
     ·exact hD.elim
    ·exact h.elim
   | _=>exact h.elim
 | _=>exact h.elim
end
end Go.Eng
namespace Go.Eng
open Go.RowKit
def ZHk (s:List UInt8) (c:Int):Option Int:=some (Lib.indexByte s c.toNat.toUInt8)
theorem Zjy {s:List UInt8} {c z:Int} (h:ZHk s c=some z):z=Lib.indexByte s c.toNat.toUInt8∧True:=⟨(Option.some.inj h).symm,trivial⟩
theorem idxb_v {P:Program} {f:FuncId} (hf:Z7d P f Extern.BytealgIndexByte.indexByte) (s:List UInt8) (c:Int) (w:World):(callFunc f #[.string (Zv s),.int .u8 c]).run P w = .ok (.value (.int .i64 (Lib.indexByte s c.toNat.toUInt8))) w:=by
 rw [hf.run,Lib.run_indexByteString];rfl
theorem Z0p (c:UInt8):∀ l:List UInt8,-1≤Lib.indexByte l c∧Lib.indexByte l c≤l.length
 | []=>by simp [Lib.indexByte]
 | b :: l=>by
  have ih:=Z0p c l
  unfold Lib.indexByte
  split
  ·simp;omega
  ·split
   ·simp;omega
   ·rw [List.length_cons];omega
theorem idxb_in {s:List UInt8} {c:Int} (h:s.length≤maxLen):inR .i64 (Lib.indexByte s c.toNat.toUInt8):=by
 have:=Z0p c.toNat.toUInt8 s;unfold maxLen at h;exact Z3a.2 (by omega)
noncomputable def ZPe (str:List UInt8):Option Bool :=
 bnd (Zg (σ:=Int) (ρ:=Unit ⊕ Bool) (fun a =>
 ifb (decide (a<(str.length:Int)))
 (bnd (α:=Bool)
 (bnd (idx str a) fun b =>
 ifb (decide (((b.toNat:Nat):Int)<(48:Int)))
 (some true)
 (bnd (idx str a) fun c =>
 some (decide ((57:Int)<((c.toNat:Nat):Int))))) fun d =>
 ifb d
 (some (.inr (.inr false)))
 (bnd (chk .i64 (a+(1:Int))) fun e =>
 some (.inl e)))
 (some (.inr (.inl ()))))
  Zi (0:Int)) fun f =>
 match f with
| .inl h=>(some (str != ([]:List UInt8)))
| .inr g=>(some g)
noncomputable def ZRc (str:List UInt8):Option Nat :=
 bnd (Zg (σ:=Nat×Int) (ρ:=Nat) (fun a =>
 ifb (decide (a.2<(str.length:Int)))
 (bnd (ZKa [(10:Int)]) fun b =>
 bnd (Zza a.1 b) fun c =>
 bnd (idx str a.2) fun d =>
 bnd (Z8b (IntKind.u64.wrap (IntKind.u8.wrap (((d.toNat:Nat):Int)-(48:Int))))) fun e =>
 bnd (ZKe c e) fun f =>
 bnd (chk .i64 (a.2+(1:Int))) fun g =>
 some (.inl (f,g)))
 (some (.inr a.1)))
  Zi ((0:Nat),(0:Int))) fun h =>
 some h
noncomputable def Zfh (str:List UInt8) (p:List UInt8):Option ((List UInt8)×Bool) :=
 bnd (α:=(List UInt8)×Bool)
 (bnd (α:=Bool)
 (ifb (decide ((p.length:Int)≤(str.length:Int)))
 (bnd (ZR str (0:Int) (p.length:Int)) fun b =>
 some (b==p))
 (some false)) fun c =>
 ifb (!c)
 (some (str,false))
 (bnd (ZR str (p.length:Int) (str.length:Int)) fun d =>
 some (d,true))) fun a =>
 some (a.1,a.2)
noncomputable def Zam (s:List UInt8) (sub:List UInt8):Option Int :=
 bnd (α:=Bool)
 (ifb ((sub.length:Int)==(0:Int))
 (some true)
 (some (sub==s))) fun a =>
 ifb a
 (some (0:Int))
 (ifb ((sub.length:Int)==(1:Int))
 (bnd (idx sub (0:Int)) fun b =>
 bnd (ZHk s ((b.toNat:Nat):Int)) fun c =>
 some c)
 (ifb (decide ((s.length:Int)≤(sub.length:Int)))
 (some (-1:Int))
   (none)))
noncomputable def ZIg (str:List UInt8) (sep:List UInt8):Option ((List UInt8)×(List UInt8)×Bool) :=
 bnd (α:=(List UInt8)×(List UInt8)×Bool)
 (bnd (Zam str sep) fun a =>
 ifb (decide ((0:Int)≤a))
 (bnd (ZR str (0:Int) a) fun c =>
 bnd (chk .i64 (a+(sep.length:Int))) fun d =>
 bnd (ZR str d (str.length:Int)) fun e =>
 some (c,e,true))
 (some (str,([]:List UInt8),false))) fun b =>
 some (b.1,b.2.1,b.2.2)
noncomputable def Zck (x:Rat):Option Rat :=
 bnd (Zsg x) fun d =>
 bnd (Zfh d ([45]:List UInt8)) fun c =>
 bnd (ZIg c.1 ([47]:List UInt8)) fun a =>
 bnd (α:=List UInt8)
 (ifb (!a.2.2)
 (some ([49]:List UInt8))
 (some a.2.1)) fun b =>
 bnd (α:=Bool)
 (bnd (ZPe a.1) fun e =>
 ifb (!e)
 (some true)
 (bnd (ZPe b) fun f =>
 ifb (!f)
 (some true)
 (bnd (ZRc b) fun g =>
 some (((Zc 4294967296 g).length:Int)==(0:Int))))) fun h =>
 ifb h
 (bnd (Zaa (0:Int)) fun i =>
 some i)
 (bnd (ZRc a.1) fun j =>
 bnd (ZRc b) fun k =>
 bnd (ZEa c.2 j k) fun l =>
 some l)
set_option maxRecDepth 100000
theorem Z6p:∀ (k n:Nat),n<10^k→(ZF n).length≤k
 | 0,n,h=>by
  have:n=0:=by simpa using h
  rw [this];unfold ZF;simp
 | k+1,n,h=>by
  unfold ZF
  split
  ·simp
  ·have:=Z6p k (n / 10) (by rw [Nat.pow_succ] at h;omega)
   simp;omega
theorem Zkr (n:Nat):(ZW n).length≤bl n+1:=by
 unfold ZW;split
 ·simp
 ·have h:n<10^bl n:=Nat.lt_of_lt_of_le (ZJc n) (Nat.pow_le_pow_left (by decide) _);have:=Z6p _ _ h;omega
theorem dv_dig {l:List UInt8} (h:Z4c l):(Zc 4294967296 (dv 0 l)).length≤l.length:=by
 refine ZPd (Nat.lt_of_lt_of_le (dv_lt l h) (Nat.pow_le_pow_left (by decide) _))
theorem ZRv {l:List UInt8} (h:Z4c l) (k:Nat):Z4c (l.take k):=fun c hc=>h c (List.mem_of_mem_take hc)
theorem Zwu {l:List UInt8} (h:Z4c l) (hl:l.length≤10000000000):ZRc l=some (dv 0 l):=by
 unfold ZRc;have ten:ZKa [(10:Int)]=some 10:=by decide +kernel
 refine Zo (y:=dv 0 l) (ZH (fun q=>(dv 0 (l.take q),(q:Int))) l.length (by simp [dv]) (by omega) (fun q hq=>?_) ?_) rfl
 ·simp only;have e:l.take (q+1)=l.take q++[l[q]]:=by rw [List.take_succ_eq_append_getElem hq]
  have hd:=h _ (List.getElem_mem hq);have hs:=dv_dig (ZRv h q);rw [List.length_take] at hs;have ev:dv 0 (l.take (q+1))=dv 0 (l.take q)*10+(l[q].toNat-48):=by rw [e,ZXs];unfold dv;simp;omega
  have hs2:(Zc 4294967296 (dv 0 (l.take q)*10)).length≤q+1:=by
   refine ZPd ?_;have:=dv_lt _ (ZRv h q);rw [List.length_take,Nat.min_eq_left (by omega)] at this;have h2:10^q≤4294967296^q:=Nat.pow_le_pow_left (by decide) _;rw [Nat.pow_succ];omega
  have w1:IntKind.u64.wrap (IntKind.u8.wrap (((l[q].toNat:Nat):Int)-(48:Int)))=((l[q].toNat-48:Nat):Int):=by
   have e8:IntKind.u8.wrap (((l[q].toNat:Nat):Int)-(48:Int))=((l[q].toNat-48:Nat):Int):=by
    rw [show ((l[q].toNat:Nat):Int)-(48:Int)=((l[q].toNat-48:Nat):Int) by omega];exact Zjd (Zip.2 (by omega))
   rw [e8];exact Zjd (ZPc.2 (by omega))
  have hs3:(Zc 4294967296 (l[q].toNat-48)).length≤1:=ZPd (by omega);rw [decide_eq_true (by omega),Zd,ten,Za];unfold Zza Z8b ZKe;rw [if_pos ⟨(by unfold ZJ;omega),(by unfold ZJ;have:(Zc 4294967296 10).length≤1:=ZPd (by omega);omega)⟩,Za,Zz hq,Za,w1,Za,Int.toNat_natCast,if_pos ⟨(by unfold ZJ;omega),(by unfold ZJ;omega)⟩,Za,Zk (by omega) (by omega),Za,ev];rfl
 ·simp only;rw [decide_eq_false (by omega),Ze,List.take_length]
theorem Zmt {l:List UInt8} (h:Z4c l) (h0:0<l.length) (hl:l.length≤10000000000):ZPe l=some true:=by
 unfold ZPe;refine Zo (y:=.inl ()) (ZH (fun q=>(q:Int)) l.length rfl (by omega) (fun q hq=>?_) ?_) ?_
 ·have hd:=h _ (List.getElem_mem hq);rw [decide_eq_true (by omega),Zd,Zz hq,Za,decide_eq_false (by omega),Ze,Za,decide_eq_false (by omega),Za,Ze,Zk (by omega) (by omega),Za];rfl
 ·rw [decide_eq_false (by omega),Ze]
 ·cases l with
  | nil=>cases h0
  | cons a l=>rfl
theorem Zzi {α:Type} {l:List α} {i j:Nat} (h:i≤j) (hj:j≤l.length):ZR l (i:Int) (j:Int)=some ((l.take j).drop i):=by
 unfold ZR;rw [if_pos ⟨by omega,by omega,by omega⟩,Int.toNat_natCast,Int.toNat_natCast]
theorem Zgz (l:List UInt8):Zfh (45 :: l) [45]=some (l,true):=by
 unfold Zfh;have c1:ZR ((45:UInt8) :: l) (0:Int) ((([45]:List UInt8).length:Nat):Int)=some [45]:=Zzi (i:=0) (j:=1) (by omega) (by simp);have c2:ZR ((45:UInt8) :: l) ((([45]:List UInt8).length:Nat):Int) ((((45:UInt8) :: l).length:Nat):Int)=some l:=by
  have:=Zzi (l:=(45:UInt8) :: l) (i:=1) (j:=((45:UInt8) :: l).length) (by simp) (Nat.le_refl _);rw [List.take_length] at this;exact this
 rw [decide_eq_true (by simp;omega),Zd,c1,Za,show (([45]:List UInt8)==[45])=true by decide,Za,show (!true)=false from rfl,Ze,c2,Za,Za]
theorem Zqx {a:UInt8} {l:List UInt8} (h:a≠45):Zfh (a :: l) [45]=some (a :: l,false):=by
 unfold Zfh;have c1:ZR (a :: l) (0:Int) ((([45]:List UInt8).length:Nat):Int)=some [a]:=Zzi (i:=0) (j:=1) (by omega) (by simp);rw [decide_eq_true (by simp;omega),Zd,c1,Za,show (([a]:List UInt8)==[45])=false by simpa using h,Za,show (!false)=true from rfl,Zd,Za]
theorem Zmv {c:UInt8}:∀ {l:List UInt8},(∀ b,b ∈ l→b≠c)→Lib.indexByte l c = -1
 | [],_=>rfl
 | b :: l,h=>by
  unfold Lib.indexByte
  rw [Zmv (l:=l) fun x hx=>h x (List.mem_cons_of_mem _ hx),if_neg (by simpa using h b (List.mem_cons_self ..))]
  rfl
theorem Zdv {c:UInt8} (t:List UInt8):∀ {l:List UInt8},(∀ b,b ∈ l→b≠c)→Lib.indexByte (l++c :: t) c=(l.length:Int)
 | [],_=>by simp [Lib.indexByte]
 | b :: l,h=>by
  rw [List.cons_append]
  unfold Lib.indexByte
  rw [Zdv t (l:=l) fun x hx=>h x (List.mem_cons_of_mem _ hx),if_neg (by simpa using h b (List.mem_cons_self ..)),if_neg (by simp)]
  simp
theorem Zum {l:List UInt8} (h:Z4c l):∀ b,b ∈ l→b≠47:=fun b hb e=>by
 have:=(h b hb).1
 rw [e] at this
 exact absurd this (by decide)
theorem Z3r (s:List UInt8) (c:UInt8) (hs:s≠[c]):Zam s [c]=some (Lib.indexByte s c):=by
 unfold Zam ZHk;rw [show (((([c]:List UInt8).length:Nat):Int)==(0:Int))=false from rfl,Ze,show (([c]:List UInt8)==s)=false by rw [beq_eq_false_iff_ne];exact fun h=>hs h.symm,Za,Ze,show (((([c]:List UInt8).length:Nat):Int)==(1:Int))=true from rfl,Zd,show idx ([c]:List UInt8) (0:Int)=some c from rfl,Za,Za,Int.toNat_natCast];simp
theorem tCut_no {l:List UInt8} (h:Z4c l):ZIg l [47]=some (l,[],false):=by
 unfold ZIg;have:l≠[47]:=fun e=>Zum h 47 (by rw [e];simp) rfl;rw [Z3r l 47 this,Za,Zmv (Zum h),decide_eq_false (by omega),Ze,Za]
theorem Z3w {l t:List UInt8} (h:Z4c l) (h0:0<l.length) (ht:(l++47 :: t).length≤100000000000):ZIg (l++47 :: t) [47]=some (l,t,true):=by
 unfold ZIg;have hl:(l++47 :: t).length=l.length+t.length+1:=by simp;omega
 have:l++47 :: t≠[47]:=fun e=>by have:=congrArg List.length e;simp at this;omega
 have c1:ZR (l++(47:UInt8) :: t) (0:Int) (l.length:Int)=some l:=by
  have:=Zzi (l:=l++(47:UInt8) :: t) (i:=0) (j:=l.length) (by omega) (by omega);rw [List.take_left' rfl] at this;exact this
 have c2:ZR (l++(47:UInt8) :: t) ((l.length+1:Nat):Int) (((l++(47:UInt8) :: t).length:Nat):Int)=some t:=by
  have:=Zzi (l:=l++(47:UInt8) :: t) (i:=l.length+1) (j:=(l++(47:UInt8) :: t).length) (by omega) (Nat.le_refl _);rw [List.take_length] at this;rw [this,← List.drop_drop,List.drop_left' rfl];rfl
 rw [Z3r _ 47 this,Za,Zdv t (Zum h),decide_eq_true (by omega),Zd,c1,Za,show ((([47]:List UInt8).length:Nat):Int)=1 from rfl,Zk (by omega) (by omega),Za,show (l.length:Int)+1=((l.length+1:Nat):Int) by omega,c2,Za,Za]
theorem ZLt {x:Rat} {k:Nat} (h:sz k x) (hk:k≤1000000000) (n:Bool) (hn:n=decide (x.num<0)):(bnd (ZIg (ZW x.num.natAbs++(if x.den=1 then [] else 47 :: ZW x.den)) ([47]:List UInt8)) fun y3 =>
 bnd (α:=List UInt8)
 (ifb (!y3.2.2)
  (some ([49]:List UInt8))
  (some y3.2.1)) fun x4 =>
 bnd (α:=Bool)
 (bnd (ZPe y3.1) fun y5 =>
  ifb (!y5)
  (some true)
  (bnd (ZPe x4) fun y6 =>
   ifb (!y6)
   (some true)
   (bnd (ZRc x4) fun y7 =>
    some (((Zc 4294967296 y7).length:Int)==(0:Int))))) fun x8 =>
 ifb x8
 (bnd (Zaa (0:Int)) fun y9 =>
  some y9)
 (bnd (ZRc y3.1) fun y10 =>
  bnd (ZRc x4) fun y11 =>
  bnd (ZEa n y10 y11) fun y12 =>
  some y12))=some x:=by
  obtain ⟨a1,a2,a3,_⟩:=Zup x.num.natAbs;obtain ⟨b1,b2,b3,_⟩:=Zup x.den;have la:(ZW x.num.natAbs).length≤1000000001:=by have:=Zkr x.num.natAbs;have:=h.1;omega
  have lb:(ZW x.den).length≤1000000001:=by have:=Zkr x.den;have:=h.2;omega
  have hsz:∀ {n:Nat},bl n≤k→Zda n:=fun {n} hb=>by
    have h1:n<4294967296^bl n:=Nat.lt_of_lt_of_le (ZJc n) (Nat.pow_le_pow_left (by decide) _);have:=ZPd h1;unfold Zda;omega
  have fin:∀ d:List UInt8,Z4c d→0<d.length→d.length≤1000000001→dv 0 d=x.den→bnd (α:=Bool)
     (bnd (ZPe (ZW x.num.natAbs)) fun y5 =>
      ifb (!y5)
      (some true)
      (bnd (ZPe d) fun y6 =>
       ifb (!y6)
       (some true)
       (bnd (ZRc d) fun y7 =>
        some (((Zc 4294967296 y7).length:Int)==(0:Int))))) (fun x8 =>
     ifb x8
     (bnd (Zaa (0:Int)) fun y9 =>
      some y9)
     (bnd (ZRc (ZW x.num.natAbs)) fun y10 =>
      bnd (ZRc d) fun y11 =>
      bnd (ZEa n y10 y11) fun y12 =>
      some y12))=some x:=by
    intro d d1 d2 d3 d4;rw [Zmt a1 a3 (by omega),Za,show (!true)=false from rfl,Ze,Zmt d1 d2 (by omega),Za,show (!true)=false from rfl,Ze,Zwu d1 (by omega),Za,Za,d4,ZRi,decide_eq_false x.den_nz,Ze,Zwu a1 (by omega),Za,a2,Za];unfold ZEa;rw [if_pos ⟨hsz h.1,hsz h.2,x.den_nz⟩,Za];congr 1;have e:sgn n x.num.natAbs=x.num:=by
      rw [hn];unfold sgn;by_cases h:x.num<0
      · rw [decide_eq_true h];simp;omega
      · rw [decide_eq_false h];simp;omega
    rw [e];exact Rat.mkRat_self x
  by_cases hd:x.den=1
  · rw [if_pos hd,List.append_nil,tCut_no a1,Za];simp only;rw [show (!false)=true from rfl,Zd,Za];exact fin [49] (fun c hc=>by simp at hc;subst hc;decide) (by decide) (by decide) (by rw [hd];rfl)
  · rw [if_neg hd,Z3w a1 a3 (by simp;omega),Za];simp only;rw [show (!true)=false from rfl,Ze,Za];exact fin _ b1 b3 lb b2
theorem Z0w {x:Rat} {k:Nat} (h:sz k x) (hk:k≤1000000000):Zck x=some x:=by
 obtain ⟨a1,a2,a3,_⟩:=Zup x.num.natAbs;unfold Zck Zsg;rw [if_pos (h.ok (by omega)),Za];unfold txtQ;rw [List.append_assoc];by_cases hx:x.num<0
 ·rw [if_pos hx,List.cons_append,List.nil_append,Zgz,Za];exact ZLt h hk true (decide_eq_true hx).symm
 ·rw [if_neg hx,List.nil_append];obtain ⟨c,l,e⟩:∃ c l,ZW x.num.natAbs=c :: l:=by
   cases hd:ZW x.num.natAbs with
   | nil=>rw [hd] at a3;cases a3
   | cons c l=>exact ⟨c,l,rfl⟩
  have hc:c≠45:=fun h=>by
   have:=(a1 c (by rw [e];exact List.mem_cons_self ..)).1;rw [h] at this;exact absurd this (by decide)
  have:=Zqx (a:=c) (l:=l++(if x.den=1 then [] else 47 :: ZW x.den)) hc;rw [← List.cons_append,← e] at this;rw [this,Za];exact ZLt h hk false (decide_eq_false hx).symm
noncomputable def ZFj (x:Rat):Option (Rat×Rat×Rat×Rat) :=
 bnd (Zck x) fun a =>
 bnd (Zbd a) fun b =>
 some b
noncomputable def Z3h (l:List Rat):Option (List (Rat×Rat×Rat×Rat)) :=
 bnd (Zg (σ:=(List (Rat×Rat×Rat×Rat))×Int) (ρ:=List (Rat×Rat×Rat×Rat)) (fun a =>
 ifb (decide (a.2<(l.length:Int)))
 (bnd (idx l a.2) fun c =>
 bnd (ZFj c) fun b =>
 bnd (ZC 224 (a.1++[b])) fun _ =>
 bnd (chk .i64 (a.2+(1:Int))) fun d =>
 some (.inl (a.1++[b],d)))
 (some (.inr a.1)))
  Zi (([]:List (Rat×Rat×Rat×Rat)),(0:Int))) fun e =>
 some e
set_option maxRecDepth 100000
theorem Ztu {x:Rat} {k:Nat} (h:sz k x) (hk:k≤1000000000):ZFj x=some (sq x):=by
 unfold ZFj;rw [Z0w h hk,Za,Zij,Za]
theorem ZWo {n k:Nat} {f:Nat→Rat} (h:∀ i,i<n→sz k (f i)) (hk:k≤1000000000) (hn:n≤1000):Z3h (vx n f)=some (sv n f):=by
 unfold Z3h;refine Zo (ZH (fun q=>(sv q f,(q:Int))) n rfl (by omega) (fun q hq=>?_) ?_) rfl
 ·simp only [Zj];have e:sv q f++[sq (f q)]=sv (q+1) f:=Z5a q fun i=>sq (f i);rw [decide_eq_true (by omega),Zd,Zm _ hq,Za,Ztu (h q hq) hk,Za,e,Zea (by rw [ZQb];omega),Za,Zk (by omega) (by omega),Za];rfl
 ·simp only [Zj];rw [decide_eq_false (by omega),Ze]
noncomputable def ZEf (a:List (List Rat)) (b:List Rat) (half:List Rat):Option ((Rat×(List Rat)×(List Rat)×(List Rat))×Int) :=
 bnd (ZLf a b half) fun q =>
 ifb (!q)
 (some (((0:Rat),([]:List Rat),([]:List Rat),([]:List Rat)),(4:Int)))
 (bnd (Zyh half) fun r =>
 ifb r
 (some (((0:Rat),([]:List Rat),([]:List Rat),([]:List Rat)),(1:Int)))
 (bnd (Zzc a) fun f =>
 bnd (ZIb 56 b) fun m =>
 bnd (Zhj b) fun n =>
 bnd (ZC 56 (m++n)) fun _ =>
 bnd (ZJe f) fun o =>
 bnd (ZJa (-1:Int)) fun p =>
 bnd (ZC 56 (o++[p])) fun _ =>
 bnd (Zg (σ:=Int×((List (List Rat))×(List Rat)×(List Rat))) (ρ:=(List (List Rat))×(List Rat)×(List Rat)) (fun c =>
 ifb (decide (c.1<(a.length:Int)))
 (bnd (idx a c.1) fun s =>
 bnd (ZIb 56 s) fun g =>
 bnd (idx half c.1) fun t =>
 bnd (ZGa t) fun h =>
 bnd (ZC 56 (g++[h])) fun _ =>
 bnd (ZC 24 (c.2.1++[g++[h]])) fun _ =>
 bnd (chk .i64 (c.1+(1:Int))) fun u =>
 some (.inl (u,c.2.1++[g++[h]],c.2.2.1,c.2.2.2)))
 (some (.inr (c.2.1,c.2.2.1,c.2.2.2))))
    Zi ((0:Int),([]:List (List Rat)),m++n,o++[p])) fun i =>
 bnd (Zg (σ:=Int×((List (List Rat))×(List Rat)×(List Rat))) (ρ:=(List (List Rat))×(List Rat)×(List Rat)) (fun d =>
 ifb (decide (d.1<(a.length:Int)))
 (bnd (idx a d.1) fun v =>
 bnd (Zhj v) fun j =>
 bnd (idx half d.1) fun w =>
 bnd (ZGa w) fun k =>
 bnd (ZC 56 (j++[k])) fun _ =>
 bnd (ZC 24 (d.2.1++[j++[k]])) fun _ =>
 bnd (chk .i64 (d.1+(1:Int))) fun x =>
 some (.inl (x,d.2.1++[j++[k]],d.2.2.1,d.2.2.2)))
 (some (.inr (d.2.1,d.2.2.1,d.2.2.2))))
    Zi ((0:Int),i.1,i.2.1,i.2.2)) fun l =>
 bnd (Z0h (l.1,l.2.1,l.2.2)) fun e =>
 bnd (idx e.2.2.1 f) fun y =>
 bnd (ZR e.2.2.1 (0:Int) f) fun z =>
 bnd (ZIb 56 z) fun A =>
 bnd (ZR e.2.2.2.1 (0:Int) (a.length:Int)) fun B =>
 bnd (ZIb 56 B) fun C =>
 bnd (ZR e.2.2.2.1 (a.length:Int) (e.2.2.2.1.length:Int)) fun D =>
 bnd (ZIb 56 D) fun E =>
 some ((y,A,C,E),(0:Int))))
set_option maxRecDepth 100000
variable {m n R:Nat} {A:Mx} {B H:Nat→Rat}
def ZZ (R n:Nat) (A:Mx) (H:Nat→Rat):Mx:=fun i k=>if i<R then (if k<n then A i k else-H i) else if k<n then-A (i-R) k else-H (i-R)
def Zcb (R:Nat) (B L:Nat→Rat):Nat→Rat:=fun i=>if i<R then B i else-L (i-R)
def Zub (n:Nat):Nat→Rat:=fun k=>if k<n then 0 else -1
theorem Zwo (x:Nat→Rat) (i:Nat):sm (n+1) (fun k=>ZZ R n A H i k*x k)=(if i<R then sm n (fun k=>A i k*x k)-H i*x n else-sm n (fun k=>A (i-R) k*x k)-H (i-R)*x n):=by
 show sm n (fun k=>ZZ R n A H i k*x k)+ZZ R n A H i n*x n=_;by_cases h:i<R
 ·rw [if_pos h,ZT (g:=fun k=>A i k*x k) fun k hk=>by unfold ZZ;rw [if_pos h,if_pos hk]];unfold ZZ;rw [if_pos h,if_neg (Nat.lt_irrefl n)];grind
 ·rw [if_neg h,ZT (g:=fun k=>(-1)*(A (i-R) k*x k)) fun k hk=>by unfold ZZ;rw [if_neg h,if_pos hk];grind,ZUb];unfold ZZ;rw [if_neg h,if_neg (Nat.lt_irrefl n)];grind
theorem Z2v (x:Nat→Rat):sm (n+1) (fun k=>Zub n k*x k) = - x n:=by
 show sm n (fun k=>Zub n k*x k)+Zub n n*x n=_;rw [Zia fun k hk=>by unfold Zub;rw [if_pos hk];exact Rat.zero_mul _];unfold Zub;rw [if_neg (Nat.lt_irrefl n)];grind
theorem ZJt (f:Nat→Rat):sm (R+R) f=sm R f+sm R (fun i=>f (R+i)):=Zzs R R f
theorem ZOz (y:Nat→Rat) (L:Nat→Rat):sm (R+R) (fun i=>Zcb R B L i*y i)=sm R (fun i=>B i*y i)-sm R (fun i=>L i*y (R+i)):=by
 rw [ZJt,ZT (g:=fun i=>B i*y i) fun i hi=>by unfold Zcb;rw [if_pos hi]];rw [ZT (f:=fun i=>Zcb R B L (R+i)*y (R+i)) (g:=fun i=>(-1)*(L i*y (R+i))) fun i hi=>by unfold Zcb;rw [if_neg (by omega),show R+i-R=i by omega];grind,ZUb];grind
theorem ZVw {x:Nat→Rat} {s:Rat} (hs:0≤s) (h:Miss R n A B H x s):Feas (R+R) (n+1) (ZZ R n A H) (Zcb R B B) (fun k=>if k<n then x k else s):=by
 have e:∀ i,sm n (fun k=>A i k*(if k<n then x k else s))=sm n (fun k=>A i k*x k):=fun i=>ZT fun k hk=>by rw [if_pos hk]
 refine ⟨fun k hk=>?_,fun i hi=>?_⟩
 ·show 0≤if k<n then x k else s;split
  ·exact h.nn k (by assumption)
  ·exact hs
 ·rw [Zwo];simp only [if_neg (Nat.lt_irrefl n),e];unfold Zcb;by_cases g:i<R
  ·rw [if_pos g,if_pos g];have:=h.hi i g;grind
  ·rw [if_neg g,if_neg g];have:=h.lo (i-R) (by omega);grind
theorem ZOw {x:Nat→Rat} (h:Feas (R+R) (n+1) (ZZ R n A H) (Zcb R B B) x):0≤x n∧Miss R n A B H x (x n):=by
 refine ⟨h.nn n (by omega),fun k hk=>h.nn k (by omega),fun i hi=>?_,fun i hi=>?_⟩
 ·have:=h.le (R+i) (by omega);rw [Zwo,if_neg (by omega),show R+i-R=i by omega] at this;unfold Zcb at this;rw [if_neg (by omega),show R+i-R=i by omega] at this;grind
 ·have:=h.le i (by omega);rw [Zwo,if_pos hi] at this;unfold Zcb at this;rw [if_pos hi] at this;grind
theorem Zpx {y:Nat→Rat} (h:Dual (R+R) (n+1) (ZZ R n A H) (Zcb R B B) (Zub n) y):MissD R n A B H y (fun i=>y (R+i)) (- sm (R+R) (fun i=>Zcb R B B i*y i)):=by
 have col:∀ k,sm (R+R) (fun i=>y i*ZZ R n A H i k)=if k<n then sm R (fun i=>(y i-y (R+i))*A i k) else-(sm R (fun i=>H i*y i)+sm R (fun i=>H i*y (R+i))):=fun k=>by
  rw [ZJt];by_cases g:k<n
  ·rw [if_pos g];have e1:sm R (fun i=>y i*ZZ R n A H i k)=sm R (fun i=>y i*A i k):=ZT fun i hi=>by unfold ZZ;rw [if_pos hi,if_pos g]
   have e2:sm R (fun i=>y (R+i)*ZZ R n A H (R+i) k)=sm R (fun i=>(-1)*(y (R+i)*A i k)):=ZT fun i hi=>by unfold ZZ;rw [if_neg (by omega),if_pos g,show R+i-R=i by omega];grind
   rw [e1,e2,← ZPh];exact ZT fun i _=>by grind
  ·rw [if_neg g];have e1:sm R (fun i=>y i*ZZ R n A H i k)=sm R (fun i=>(-1)*(H i*y i)):=ZT fun i hi=>by unfold ZZ;rw [if_pos hi,if_neg g];grind
   have e2:sm R (fun i=>y (R+i)*ZZ R n A H (R+i) k)=sm R (fun i=>(-1)*(H i*y (R+i))):=ZT fun i hi=>by unfold ZZ;rw [if_neg (by omega),if_neg g,show R+i-R=i by omega];grind
   rw [e1,e2,ZUb,ZUb];grind
 refine ⟨fun i hi=>h.nn i (by omega),fun i hi=>h.nn (R+i) (by omega),fun k hk=>?_,?_,?_⟩
 ·have:=h.le k (by omega);rw [col,if_pos hk] at this;unfold Zub at this;rw [if_pos hk] at this;exact this
 ·have:=h.le n (by omega);rw [col,if_neg (Nat.lt_irrefl n)] at this;unfold Zub at this;rw [if_neg (Nat.lt_irrefl n)] at this;grind
 ·rw [ZOz];grind
theorem Znz {x u v:Nat→Rat} {r s:Rat} (hs:0≤s) (h:Miss R n A B H x s) (hd:MissD R n A B H u v r):r≤s:=by
 have h1:0≤sm n (fun k=>sm R (fun i=>(u i-v i)*A i k)*x k):=Zdh fun k hk=>Rat.mul_nonneg (hd.le k hk) (h.nn k hk);rw [ZEn] at h1;have e1:sm R (fun i=>(u i-v i)*sm n (fun k=>A i k*x k))=sm R (fun i=>u i*sm n (fun k=>A i k*x k))-sm R (fun i=>v i*sm n (fun k=>A i k*x k)):=by
  rw [← Zch];exact ZT fun i _=>by grind
 have h2:sm R (fun i=>u i*sm n (fun k=>A i k*x k))≤sm R (fun i=>B i*u i+s*(H i*u i)):=ZCj fun i hi=>by
  have:=Rat.mul_le_mul_of_nonneg_left (h.hi i hi) (hd.nu i hi);grind
 have h3:sm R (fun i=>B i*v i-s*(H i*v i))≤sm R (fun i=>v i*sm n (fun k=>A i k*x k)):=ZCj fun i hi=>by
  have:=Rat.mul_le_mul_of_nonneg_left (h.lo i hi) (hd.nv i hi);grind
 rw [ZPh,ZUb] at h2;rw [Zch,ZUb] at h3;have h4:=Rat.mul_le_mul_of_nonneg_left hd.w hs;have h5:=hd.r;grind
set_option maxRecDepth 100000
variable {m n R:Nat} {A:Mx} {B H:Nat→Rat}
theorem Zox (i:Nat) (hi:i<R):vx n (A i)++[- H i]=vx (n+1) (ZZ R n A H i):=by
 have e:vx n (A i)=vx n (ZZ R n A H i):=Zy fun k hk=>by unfold ZZ;rw [if_pos hi,if_pos hk]
 have e2:- H i=ZZ R n A H i n:=by unfold ZZ;rw [if_pos hi,if_neg (Nat.lt_irrefl n)]
 rw [e,e2];exact Z5a n _
theorem Z8A (i:Nat):(vx n fun k=>- A i k)++[- H i]=vx (n+1) (ZZ R n A H (R+i)):=by
 have e:(vx n fun k=>- A i k)=vx n (ZZ R n A H (R+i)):=Zy fun k hk=>by unfold ZZ;rw [if_neg (by omega),if_pos hk,show R+i-R=i by omega]
 have e2:- H i=ZZ R n A H (R+i) n:=by unfold ZZ;rw [if_neg (by omega),if_neg (Nat.lt_irrefl n),show R+i-R=i by omega]
 rw [e,e2];exact Z5a n _
theorem two_vx (L:Nat→Rat):vx R B++vx R (fun i=>- L i)=vx (R+R) (Zcb R B L):=(vx_join R R _ _).trans (Zy fun i hi=>rfl)
theorem cloC_vx:(vx n fun _=>(0:Rat))++[-1]=vx (n+1) (Zub n):=by
 have e:(vx n fun _=>(0:Rat))=vx n (Zub n):=Zy fun k hk=>(if_pos hk).symm;have e2:(-1:Rat)=Zub n n:=(if_neg (Nat.lt_irrefl n)).symm;rw [e,e2];exact Z5a n _
theorem sz_m1 {k:Nat} (hk:1≤k):sz k (-1:Rat):=ZTc (ZPf.mono hk)
theorem cloA_sz {k:Nat} (hA:∀ i j,i<R→j<n→sz k (A i j)) (hH:∀ i,i<R→sz k (H i)) (i j:Nat) (hi:i<R+R) (hj:j<n+1):sz k (ZZ R n A H i j):=by
 unfold ZZ;split
 ·split
  ·exact hA _ _ (by assumption) (by assumption)
  ·exact ZTc (hH _ (by assumption))
 ·split
  ·exact ZTc (hA _ _ (by omega) (by assumption))
  ·exact ZTc (hH _ (by omega))
theorem twoB_sz {k:Nat} {L:Nat→Rat} (hB:∀ i,i<R→sz k (B i)) (hL:∀ i,i<R→sz k (L i)) (i:Nat) (hi:i<R+R):sz k (Zcb R B L i):=by
 unfold Zcb;split
 ·exact hB _ (by assumption)
 ·exact ZTc (hL _ (by omega))
theorem cloC_sz {k:Nat} (hk:1≤k) (j:Nat):sz k (Zub n j):=by
 unfold Zub;split
 ·exact Zpb.mono hk
 ·exact sz_m1 hk
theorem Zxu:∀ R,(∀ i,i<R→0<H i)→∃ s,0≤s∧∀ i,i<R→B i≤H i*s∧- B i≤H i*s
 | 0,_=>⟨0,Rat.le_refl,fun i hi=>by omega⟩
 | R+1,h=>by
  obtain ⟨s,h1,h2⟩:=Zxu R fun i hi=>h i (by omega)
  have hp:=h R (by omega)
  have hi0:0≤(H R)⁻¹:=Rat.le_of_lt (Rat.inv_pos.2 hp)
  have hc:H R*(H R)⁻¹=1:=Rat.mul_inv_cancel _ (fun e=>by rw [e] at hp;exact Rat.lt_irrefl hp)
  have ha:∃ t:Rat,0≤t∧B R≤t∧- B R≤t:=by
   by_cases g:0≤B R
   ·exact ⟨B R,g,Rat.le_refl,by grind⟩
   ·exact ⟨- B R,by grind,by grind,Rat.le_refl⟩
  obtain ⟨t,t1,t2,t3⟩:=ha;have ht:0≤t*(H R)⁻¹:=Rat.mul_nonneg t1 hi0;refine ⟨s+t*(H R)⁻¹,by grind,fun i hi=>?_⟩;by_cases e:i=R
  ·subst e;have e1:H i*(s+t*(H i)⁻¹)=H i*s+t:=by
    have:H i*(s+t*(H i)⁻¹)=H i*s+t*(H i*(H i)⁻¹):=by grind
    rw [this,hc];grind
   have:=Rat.mul_nonneg (Rat.le_of_lt hp) h1;rw [e1];exact ⟨by grind,by grind⟩
  ·have h3:=h2 i (by omega);have h4:=Rat.mul_nonneg (Rat.le_of_lt (h i (by omega))) ht;exact ⟨by grind,by grind⟩
theorem ZjA {s:Rat} (h:∀ i,i<R→B i≤H i*s∧- B i≤H i*s):Miss R n A B H (fun _=>0) s:=by
 have e:∀ i,sm n (fun k=>A i k*(0:Rat))=0:=fun i=>Zia fun k _=>Rat.mul_zero _;refine ⟨fun k _=>Rat.le_refl,fun i hi=>?_,fun i hi=>?_⟩
 ·rw [e];have:=h i hi;grind
 ·rw [e];have:=h i hi;grind
set_option maxRecDepth 100000
variable {m n R:Nat} {A:Mx} {L H:Nat→Rat}
set_option maxRecDepth 100000
theorem Znc.okM {a:List (List (Int×Int))} {b c:List (Int×Int)} (h:Znc a b c):okM a:=⟨h.2.2.1,h.2.2.2.1,h.2.2.2.2⟩
theorem bnd_no {a:List (List (Int×Int))} {b c:List (Int×Int)} (ha:a.length≤1000) (hV:¬ Znc a b c):ZLf (a.map (·.map Zx)) (b.map Zx) (c.map Zx)=some false∧Zog (a.map (·.map fun r=>sq (Zx r))) (b.map fun r=>sq (Zx r)) (c.map fun r=>sq (Zx r))=some false:=by
 constructor
 ·obtain ⟨e,g1,g2⟩:=ZUw (a.map (·.map Zx)) (b.map Zx) (c.map Zx) (by rw [List.length_map];omega);rw [g1]
  cases e with
  | false=>rfl
  | true=>exact absurd ((Znc.map Zx Zx Zx).1 (g2.1 rfl)) hV
 ·obtain ⟨e,g1,g2⟩:=Zcu (a.map (·.map fun r=>sq (Zx r))) (b.map fun r=>sq (Zx r)) (c.map fun r=>sq (Zx r)) (by rw [List.length_map];omega);rw [g1]
  cases e with
  | false=>rfl
  | true=>exact absurd ((Znc.map (fun r=>sq (Zx r)) (fun r=>sq (Zx r)) (fun r=>sq (Zx r))).1 (g2.1 rfl)) hV
theorem Dec.yes {x:Option Bool} {P:Prop} (h:Dec x P) (hp:P):x=some true:=by
 obtain ⟨b,e,h⟩:=h;rw [e,h.2 hp]
set_option maxRecDepth 100000
variable {m n R:Nat} {A:Mx} {B H:Nat→Rat}
def NearOK (R n W:Nat) (A:Mx) (B H:Nat→Rat) (z:Rat×List Rat×List Rat×List Rat):Prop :=
 ∃ r x u v,z=(r,vx n x,vx R u,vx R v)∧0≤r∧Miss R n A B H x r∧MissD R n A B H u v r∧sz W r∧(∀ k,k<n→sz W (x k))∧(∀ i,i<R→sz W (u i))∧∀ i,i<R→sz W (v i)
theorem clo_ans {W:Nat} {z:AnsT} (hp:∀ i,i<R→0<H i) (h:ZBe (R+R) (n+1) W (ZZ R n A H) (Zcb R B B) (Zub n) z):∃ x y,z.2.2.1=vx (n+1) x∧z.2.2.2.1=vx (R+R) y∧0≤x n∧Miss R n A B H x (x n)∧MissD R n A B H y (fun i=>y (R+i)) (x n)∧(∀ k,k<n+1→sz W (x k))∧∀ i,i<R+R→sz W (y i):=by
 rcases h with ⟨y,rfl,hy,_⟩ | ⟨x,y,v,rfl,hx,hv,hy,hv2,zx,zy,_⟩ | ⟨x,d,rfl,_,hd,_⟩
 ·obtain ⟨s,s0,hs⟩:=Zxu (B:=B) R hp;exact (Zxw hy (ZVw (A:=A) (n:=n) s0 (ZjA hs))).elim
 ·obtain ⟨h1,h2⟩:=ZOw hx;have h3:=Zpx hy;rw [← hv2,hv,Z2v,Rat.neg_neg] at h3;exact ⟨x,y,rfl,rfl,h1,h2,h3,zx,zy⟩
 ·have h1:=hd.pos;rw [Z2v] at h1;have h2:=hd.nn n (by omega);grind
theorem Zay {k Rb:Nat} (h0:R=0→n=0) (hr:R+R≤Rb∨n+1+1≤Rb) (hA:∀ i j,i<R→j<n→sz k (A i j)) (hB:∀ i,i<R→sz k (B i)) (hH:∀ i,i<R→sz k (H i)) (hp:∀ i,i<R→0<H i) (hk:1≤k) (hR:R≤32) (hn:n≤32) (hN:n+1+(R+R)+1≤60) (hS:(n+1+1)*((k*((R+R+1)*(n+1+1))+1)+aw k (R+R) (n+1) Rb+2)≤137438953472) :
  ∃ z,ZEf (mx R n A) (vx R B) (vx R H)=some (z,0)∧NearOK R n (aw k (R+R) (n+1) Rb) A B H z:=by
 obtain ⟨z,g1,g2⟩:=lmax_sz hr (cloA_sz hA hH) (twoB_sz hB hB) (fun j _=>cloC_sz (n:=n) hk j) hk (by omega) (by omega) hN hS;obtain ⟨x,y,e1,e2,h1,h2,h3,h4,h5⟩:=clo_ans hp g2;refine ⟨(x n,vx n x,vx R y,vx R fun i=>y (R+i)),?_,x n,x,y,fun i=>y (R+i),rfl,h1,h2,h3,h4 n (by omega),fun k hk=>h4 k (by omega),fun i hi=>h5 i (by omega),fun i hi=>h5 (R+i) (by omega)⟩;unfold ZEf;rw [ZOo h0 hR hn,Za,ZMe];obtain ⟨b,n1,n2⟩:=ZSl (n:=R) (x:=H) (by omega);rw [n1,Za,n2.2 hp,Ze,ZLh A h0,Za,ZDe (by rw [Zj];omega),Za,ZMt (by omega),Za,two_vx,Zea (by rw [Zj];omega),Za,Zrj (by omega),Za,Z1b,Za,show (((-1:Int)):Rat) = -1 from rfl,cloC_vx,Zea (by rw [Zj];omega),Za];refine Zo (y:=(mx R (n+1) (ZZ R n A H),vx (R+R) (Zcb R B B),vx (n+1) (Zub n))) (ZH (fun q=>((q:Int),vx q (fun i=>vx (n+1) (ZZ R n A H i)),vx (R+R) (Zcb R B B),vx (n+1) (Zub n))) R rfl (by omega) (fun q hq=>?_) ?_) ?_
 ·simp only;rw [Zwa,decide_eq_true (by omega),Zd,ZLa _ hq,Za,ZDe (by rw [Zj];omega),Za,Zm _ hq,Za];unfold ZGa;rw [Za,Zox q hq,Zea (by rw [Zj];omega),Za,Z5a q fun i=>vx (n+1) (ZZ R n A H i),Zea (by rw [Zj];omega),Za,Zk (by omega) (by omega),Za];rfl
 ·simp only;rw [Zwa,decide_eq_false (by omega),Ze];rfl
 refine Zo (y:=(mx (R+R) (n+1) (ZZ R n A H),vx (R+R) (Zcb R B B),vx (n+1) (Zub n))) (ZH (fun q=>((q:Int),vx (R+q) (fun i=>vx (n+1) (ZZ R n A H i)),vx (R+R) (Zcb R B B),vx (n+1) (Zub n))) R rfl (by omega) (fun q hq=>?_) ?_) ?_
 ·simp only;rw [Zwa,decide_eq_true (by omega),Zd,ZLa _ hq,Za,ZMt (by omega),Za,Zm _ hq,Za];unfold ZGa;rw [Za,Z8A q,Zea (by rw [Zj];omega),Za,Z5a (R+q) fun i=>vx (n+1) (ZZ R n A H i),Zea (by rw [Zj];omega),Za,Zk (by omega) (by omega),Za];rfl
 ·simp only;rw [Zwa,decide_eq_false (by omega),Ze];rfl
 simp only;rw [g1,Za,e1,e2,Zm _ (by omega),Za,show (0:Int)=((0:Nat):Int) from rfl,Zom x (Nat.zero_le n) (by omega),Za,Zwa,Zj,Zom y (Nat.zero_le R) (by omega),Zom y (show R≤R+R by omega) (Nat.le_refl _)];simp only [Nat.sub_zero,Nat.zero_add,Nat.add_sub_cancel];rw [ZDe (by rw [Zj];omega),Za,Za,ZDe (by rw [Zj];omega),Za,Za,ZDe (by rw [Zj];omega),Za]
noncomputable def Zol (m:List (List Rat)) (x:List Rat) (b:List Rat):Option ((List Rat)×Int) :=
 bnd (α:=Bool)
 (bnd (Zuf m) fun f =>
 ifb (!f)
 (some true)
 (bnd (Zzc m) fun g =>
 ifb ((x.length:Int) != g)
 (some true)
 (some ((b.length:Int) != (m.length:Int))))) fun h =>
 ifb h
 (some (([]:List Rat),(4:Int)))
 (bnd (Zg (σ:=(List Rat)×Int) (ρ:=List Rat) (fun c =>
 ifb (decide (c.2<(m.length:Int)))
 (bnd (idx m c.2) fun i =>
 bnd (Zbc i x) fun d =>
 bnd (ZC 56 (c.1++[d])) fun _ =>
 bnd (chk .i64 (c.2+(1:Int))) fun j =>
 some (.inl (c.1++[d],j)))
 (some (.inr c.1)))
   Zi (([]:List Rat),(0:Int))) fun e =>
 bnd (Zg (σ:=Int×(List Rat)) (ρ:=List Rat) (fun a =>
 ifb (decide (a.1<(e.length:Int)))
 (bnd (idx a.2 a.1) fun k =>
 bnd (idx b a.1) fun l =>
 bnd (Zrb k l) fun n =>
 bnd (idx a.2 a.1) fun q =>
 bnd (chk .i64 (a.1+(1:Int))) fun o =>
 some (.inl (o,a.2.set a.1.toNat n)))
 (some (.inr a.2)))
   Zi ((0:Int),e)) fun p =>
 some (p,(0:Int)))
noncomputable def Zyl (a:List (List (Int×Int))) (b:List (Int×Int)) (half:List (Int×Int)) (other:List (Int×Int)):Option Bool :=
 bnd (α:=Bool)
 (bnd (Z2l a b half) fun n =>
 ifb (!n)
 (some true)
 (some (decide ((60:Int)<(other.length:Int))))) fun o =>
 ifb o
 (bnd Zue fun p =>
 some p)
 (bnd (Zyf a) fun f =>
 bnd (Zpe b) fun g =>
 bnd (Zpe half) fun d =>
 bnd (ZEf f.1 g.1 d.1) fun c =>
 bnd (Zjh a) fun q =>
 bnd (Zae b) fun r =>
 bnd (Zae half) fun s =>
 bnd (Zog q r s) fun t =>
 ifb (!t)
 (bnd (α:=Bool)
 (ifb (c.2==(4:Int))
 (bnd (ZLe f.1 g.1 d.1 c.1) fun u =>
 ifb (!u)
 (bnd Zue fun v =>
 some v)
 (some false))
 (some false)) fun w =>
 some w)
 (bnd (Zg (σ:=Int) (ρ:=Unit ⊕ Bool) (fun i =>
 ifb (decide (i<(d.1.length:Int)))
 (bnd (idx d.1 i) fun x =>
 bnd (Z8 x) fun y =>
 ifb (decide (y≤(0:Int)))
 (bnd (α:=Bool)
 (ifb (c.2==(1:Int))
 (bnd (ZLe f.1 g.1 d.1 c.1) fun z =>
 ifb (!z)
 (bnd Zue fun A =>
 some A)
 (some false))
 (some false)) fun B =>
 some (.inr (.inr B)))
 (bnd (chk .i64 (i+(1:Int))) fun C =>
 some (.inl C)))
 (some (.inr (.inl ()))))
    Zi (0:Int)) fun D =>
   match D with
| .inl aj=>(bnd (ZFj c.1.1) fun E =>
 bnd (Z3h c.1.2.1) fun F =>
 bnd (Z3h c.1.2.2.1) fun G =>
 bnd (Z3h c.1.2.2.2) fun H =>
 bnd (α:=Bool)
 (ifb (c.2 != (0:Int))
 (some true)
 (bnd (Zjh a) fun I =>
 bnd (Zae b) fun J =>
 bnd (Zae half) fun K =>
 bnd (ZTl I J K E F G H) fun L =>
 ifb (!L)
 (some true)
 (bnd (ZLe f.1 g.1 d.1 c.1) fun M =>
 some (!M)))) fun N =>
 ifb N
 (some false)
 (bnd (Zpe other) fun j =>
 bnd (Zg (σ:=Int) (ρ:=Unit ⊕ Bool) (fun k =>
 ifb (decide (k<(j.1.length:Int)))
 (bnd (idx j.1 k) fun O =>
 bnd (Z8 O) fun P =>
 ifb (decide (P<(0:Int)))
 (bnd Zue fun Q =>
 some (.inr (.inr Q)))
 (bnd (chk .i64 (k+(1:Int))) fun R =>
 some (.inl R)))
 (some (.inr (.inl ()))))
      Zi (0:Int)) fun S =>
     match S with
| .inl ak=>(bnd (Zol f.1 j.1 g.1) fun l =>
 ifb (l.2 != (0:Int))
 (bnd Zue fun T =>
 some T)
 (bnd (Zg (σ:=Int×Rat) (ρ:=Rat ⊕ Bool) (fun e =>
 ifb (decide (e.1<(l.1.length:Int)))
 (bnd (idx l.1 e.1) fun U =>
 bnd (idx d.1 e.1) fun V =>
 bnd (Z0e U V) fun h =>
 bnd (Z8 h.1) fun W =>
 bnd (α:=Rat)
 (ifb (decide (W<(0:Int)))
 (bnd (ZGa h.1) fun X =>
 some X)
 (some h.1)) fun m =>
 ifb (h.2 != (0:Int))
 (some (.inr (.inr false)))
 (bnd (ZKc m e.2) fun Y =>
 bnd (α:=Rat)
 (ifb (decide ((0:Int)<Y))
 (some m)
 (some e.2)) fun Z =>
 bnd (chk .i64 (e.1+(1:Int))) fun aa =>
 some (.inl (aa,Z))))
 (some (.inr (.inl e.2))))
        Zi ((0:Int),(0:Rat))) fun ab =>
       match ab with
| .inl ac=>(bnd (α:=Bool)
 (bnd (ZKc c.1.1 ac) fun ad =>
 ifb (decide (ad≤(0:Int)))
 (bnd Zue fun ae =>
 some ae)
 (some false)) fun af =>
 some af)
| .inr ag=>(some ag)))
| .inr ah=>(some ah)))
| .inr ai=>(some ai)))
set_option maxRecDepth 100000
theorem Dec.no {x:Option Bool} {P:Prop} (h:Dec x P) (hp:¬ P):x=some false:=by
 obtain ⟨b,e,h⟩:=h
 cases b with
 | false=>exact e
 | true=>exact absurd (h.1 rfl) hp
theorem Zyw {R n p K k:Nat} {A:Mx} {x b:Nat→Rat} (h0:R=0→n=0) (hR:R≤32) (hn:n≤32) (hA:∀ i j,i<R→j<n→sz K (A i j)) (hx:∀ j,j<p→sz K (x j)) (hb:∀ i,i<R→sz K (b i)) (hK:33*(K+K+1)≤100000000000) :
  Zol (mx R n A) (vx p x) (vx R b)=if p=n then some (vx R fun i=>sm n (fun j=>A i j*x j)-b i,0) else some ([],4):=by
 unfold Zol;rw [Zct A h0 hR hn,Za,ZMe,ZLh A h0,Za,Zj,Zj,Zwa];by_cases hp:p=n
 ·subst hp;rw [if_pos rfl,neF,Ze,neF,Za,Ze];have hk:(p+1)*(K+K+1)≤33*(K+K+1):=Nat.mul_le_mul_right _ (by omega);have zs:∀ i,i<R→sz (33*(K+K+1)) (sm p fun j=>A i j*x j):=fun i hi=>(Zhv (hA i · hi ·) hx).mono hk;refine Zo (y:=vx R fun i=>sm p fun j=>A i j*x j) (ZH (fun q=>(vx q fun i=>sm p fun j=>A i j*x j,(q:Int))) R rfl (by omega) (fun q hq=>?_) ?_) ?_
  ·simp only;rw [decide_eq_true (by omega),Zd,ZLa _ hq,Za,dotS (hA q · hq ·) hx (by omega) (by omega),Za,Z5a q (fun i=>sm p fun j=>A i j*x j),Zea (by rw [Zj];omega),Za,Zk (by omega) (by omega),Za];rfl
  ·simp only;rw [decide_eq_false (by omega),Ze]
  ·simp only [Zj];refine Zo (y:=vx R fun i=>sm p (fun j=>A i j*x j)-b i) (ZH (fun q=>((q:Int),vx R fun i=>if i<q then sm p (fun j=>A i j*x j)-b i else sm p fun j=>A i j*x j)) R ?_ (by omega) (fun q hq=>?_) ?_) rfl
   ·exact Prod.ext rfl (Zy fun i _=>if_neg (by omega))
   ·simp only;rw [decide_eq_true (by omega),Zd,Zm _ hq,Za,if_neg (by omega),Zm _ hq,Za,Z2e (zs q hq) (hb q hq) (by omega) (by omega),Za,Za,Zk (by omega) (by omega),Za];simp only [Int.toNat_natCast,ZCa];refine congrArg (fun x=>some (Sum.inl x)) (Prod.ext (by simp) (Zy fun i hi=>?_));by_cases e:i=q
    ·rw [if_pos e,if_pos (by omega),e]
    ·rw [if_neg e];by_cases e2:i<q
     ·rw [if_pos e2,if_pos (by omega)]
     ·rw [if_neg e2,if_neg (by omega)]
   ·simp only;rw [decide_eq_false (by omega),Ze];exact congrArg (fun x=>some (Sum.inr x)) (Zy fun i hi=>if_pos hi)
 ·rw [if_neg hp,(ZAd p n).2 hp,Zd,Za,Zd]
def wor (q:Nat→Rat):Nat→Rat
 | 0=>0
 | i+1=>if wor q i<q i then q i else wor q i
theorem ZBv (q:Nat→Rat):∀ n,0≤wor q n∧∀ i,i<n→q i≤wor q n
 | 0=>⟨Rat.le_refl,fun i hi=>by omega⟩
 | n+1=>by
  obtain ⟨h1,h2⟩:=ZBv q n
  unfold wor
  split
  ·rename_i h
   refine ⟨by grind,fun i hi=>?_⟩
   by_cases e:i=n
   ·rw [e];exact Rat.le_refl
   ·have:=h2 i (by omega);grind
  ·rename_i h
   refine ⟨h1,fun i hi=>?_⟩
   by_cases e:i=n
   ·rw [e];exact Rat.not_lt.1 h
   ·exact h2 i (by omega)
theorem Zhq {K n:Nat} {q:Nat→Rat} (h:∀ i,i<n→sz K (q i)) (hK:1≤K):∀ i,i≤n→sz K (wor q i)
 | 0,_=>Zpb.mono hK
 | i+1,hi=>by
  unfold wor
  split
  ·exact h i (by omega)
  ·exact Zhq h hK i (by omega)
def Zuc (x:Rat):Rat:=if x<0 then -x else x
theorem ZLv {x h s:Rat} (hh:0<h) (g:Zuc (x / h)≤s):-(h*s)≤x∧x≤h*s:=by
 have hne:h≠0:=fun e=>by rw [e] at hh;exact Rat.lt_irrefl hh
 have e1:x / h*h=x:=by rw [Rat.div_def,Rat.mul_assoc,Rat.inv_mul_cancel _ hne,Rat.mul_one]
 unfold Zuc at g;generalize x / h=y at *;subst e1;split at g
 ·rename_i h2;have h3:=Rat.mul_le_mul_of_nonneg_left g (Rat.le_of_lt hh);have h4:=Rat.mul_lt_mul_of_pos_left h2 hh;constructor <;> grind
 ·rename_i h2;have h3:=Rat.mul_le_mul_of_nonneg_left g (Rat.le_of_lt hh);have h4:=Rat.mul_nonneg (Rat.le_of_lt hh) (Rat.not_lt.1 h2);constructor <;> grind
theorem Zbt (P:Nat→Prop) (R:Nat):(∀ i,i<R→P i) ∨ ∃ k,k<R∧¬ P k∧∀ i,i<k→P i:=by
 induction R with
 | zero=>exact .inl fun i hi=>by omega
 | succ q ih =>
  rcases ih with h | ⟨k,h1,h2,h3⟩
  ·by_cases e:P q
   ·exact .inl fun i hi=>by
     by_cases e2:i=q
     ·rw [e2];exact e
     ·exact h i (by omega)
   ·exact .inr ⟨q,by omega,e,h⟩
  ·exact .inr ⟨k,by omega,h2,h3⟩
theorem Zmx {a:List (List (Int×Int))} {b c o:List (Int×Int)} (ha:∀ r,r ∈ a→∀ x,x ∈ r→i64 x) (hb:∀ x,x ∈ b→i64 x) (hc:∀ x,x ∈ c→i64 x) (ho:∀ x,x ∈ o→i64 x) (hr:∀ r,r ∈ a→r.length≤1048576):Zyl a b c o=some true:=by
 unfold Zyl;have aw0:bnd Zue (fun y=>some y)=some true:=by rw [Zsr,Za]
 obtain ⟨e,l1,l2⟩:=ZZz a b c hr;rw [l1,Za]
 cases e with
 | false=>rw [Zlh,Za,Zd,aw0]
 | true =>
 rw [ZMe];obtain ⟨la,lk,lb,lc⟩:=l2 rfl;by_cases hpo:60<o.length
 ·rw [decide_eq_true (show (60:Int)<(o.length:Int) by omega),Za,Zd,aw0]
 rw [decide_eq_false (show ¬ (60:Int)<(o.length:Int) by omega),Za,Ze];rw [Z6x a (by omega) hr,Za,ZZj b (by omega),Za,ZZj c (by omega),Za];simp only;rw [Z1B a (by omega) hr,Z4n b (by omega),Z4n c (by omega),ZZj o (by omega)];by_cases hV:Znc a b c
 rotate_left
 ·obtain ⟨e1,e2⟩:=bnd_no (by omega) hV;have e3:ZEf (a.map (·.map Zx)) (b.map Zx) (c.map Zx)=some ((0,[],[],[]),4):=by
   unfold ZEf;rw [e1,Za,Zlh]
  have e4:∀ z,ZLe (a.map (·.map Zx)) (b.map Zx) (c.map Zx) z=some false:=fun z=>by
   unfold ZLe;rw [e1,Za,Zlh,Za,Zd]
  rw [e3,Za,Za,Za,Za,e2,Za,Zlh,show (((0:Rat),([]:List Rat),([]:List Rat),([]:List Rat)),(4:Int)).2=4 from rfl,show ((4:Int)==(4:Int))=true from rfl,Zd,e4,Za,Zlh,aw0,Za]
 obtain ⟨k1,k2⟩:=lk hV.okM;obtain ⟨v1,v2,v3,v4,v5⟩:=hV;have h0:a.length=0→(a.headD []).length=0:=fun h=>by rw [List.length_eq_zero_iff.1 h];rfl
 rw [rows_mx v5,Z5m b,Z5m c,Z5m o,ZcB v5,ZWs b,ZWs c,← v1,← v2];have zA:∀ i j,sz 64 (rt a i j):=rt_sz ha;have zB:∀ i,sz 64 (rv b i):=rv_sz hb;have zC:∀ i,sz 64 (rv c i):=rv_sz hc;have zO:∀ i,sz 64 (rv o i):=rv_sz ho;generalize rt a=A at *;generalize rv b=B at *;generalize rv c=H at *;generalize rv o=O at *;generalize a.length=R at *;generalize (a.headD []).length=n at *;generalize o.length=p at *;have w0:64≤2^8*(6657+1):=by decide
 have zA':∀ i j,i<R→j<n→sz (2^8*(6657+1)) (A i j):=fun i j _ _=>(zA i j).mono w0;have zB':∀ i,i<R→sz (2^8*(6657+1)) (B i):=fun i _=>(zB i).mono w0;have zH':∀ i,i<R→sz (2^8*(6657+1)) (H i):=fun i _=>(zC i).mono w0;have z0:∀ (f:Nat→Rat) j,j<0→sz (2^8*(6657+1)) (f j):=fun f j hj=>by omega
 simp only [Zj];rcases Zbt (fun i=>0<H i) R with hp | ⟨k,hk,h8,h9⟩
 rotate_left
 ·have e3:ZEf (mx R n A) (vx R B) (vx R H)=some ((0,[],[],[]),1):=by
   unfold ZEf;obtain ⟨z,n1,n2⟩:=ZSl (n:=R) (x:=H) (by omega);have:z=true:=by
    cases z with
    | true=>rfl
    | false=>exact absurd (n2.1 rfl k hk) h8
   rw [ZOo h0 (by omega) (by omega),Za,ZMe,n1,Za,this,Zd]
  have e4:ZLe (mx R n A) (vx R B) (vx R H) (0,[],[],[])=some false:=(ZAu (r:=0) (p:=0) (q:=0) (s:=0) (x:=fun _=>0) (u:=fun _=>0) (v:=fun _=>0) h0 zA' zB' zH' (Zpb.mono (by omega)) (z0 _) (z0 _) (z0 _) (by omega) (by omega) (by omega) (by omega) (by omega) (by decide)).no fun h=>h8 (h.1 k hk);rw [e3,Za,Za,Za,Za,ZOm h0 (by omega) (by omega),Za,ZMe];refine Zo (y:=.inr true) (ZH (fun q=>(q:Int)) k rfl (by omega) (fun q hq=>?_) ?_) rfl
  ·rw [decide_eq_true (by omega),Zd,Zm _ (by omega),Za];unfold Z8;rw [Za,decide_eq_false (fun h=>by have:=(ZIa _).2 (h9 q hq);omega),Ze,Zk (by omega) (by omega),Za];rfl
  ·rw [decide_eq_true (by omega),Zd,Zm _ hk,Za];unfold Z8;rw [Za,decide_eq_true (Int.not_lt.1 fun h=>h8 ((ZIa _).1 h)),Zd,show (((0:Rat),([]:List Rat),([]:List Rat),([]:List Rat)),(1:Int)).2=1 from rfl,show ((1:Int)==(1:Int))=true from rfl,Zd,e4,Za,Zlh,aw0,Za]
 have q1:(R+R+1)*(n+1+1)≤13*8:=Nat.mul_le_mul (by omega) (by omega);have q2:aw 64 (R+R) (n+1) 8≤2^8*(6657+1):=by
  unfold aw kk;have:2^8*(64*((R+R+1)*(n+1+1))+1+1)≤2^8*(6657+1):=Nat.mul_le_mul_left _ (by omega);omega
 obtain ⟨z,g1,g2⟩:=Zay (R:=R) (n:=n) (A:=A) (B:=B) (H:=H) (k:=64) (Rb:=8) h0 (.inr (by omega)) (fun i j _ _=>zA i j) (fun i _=>zB i) (fun i _=>zC i) hp (by omega) (by omega) (by omega) (by omega) (by
  have:(n+1+1)*(64*((R+R+1)*(n+1+1))+1+aw 64 (R+R) (n+1) 8+2)≤8*(64*(13*8)+1+2^8*(6657+1)+2):=Nat.mul_le_mul (by omega) (by omega);omega)
 obtain ⟨r,x,u,v,rfl,r0,hm,hd,zr,zx,zu,zv⟩:=g2;have zr:=zr.mono q2;have zx:=fun k hk=>(zx k hk).mono q2;have zu:=fun k hk=>(zu k hk).mono q2;have zv:=fun k hk=>(zv k hk).mono q2;have np:NProv R n A B H r n R R x u v:=⟨hp,r0,rfl,rfl,rfl,hm,hd⟩;have c1:=(ZAu h0 zA' zB' zH' zr zx zu zv (by omega) (by omega) (by omega) (by omega) (by omega) (by decide)).yes np;have c2:=(ZBw h0 zA' zB' zH' zr zx zu zv (by omega) (by omega) (by omega) (by omega) (by omega) (by decide)).yes np;rw [g1,Za,Za,Za,Za,ZOm h0 (by omega) (by omega),Za,ZMe];refine Zo (y:=.inl ()) (ZH (fun q=>(q:Int)) R rfl (by omega) (fun q hq=>?_) ?_) ?_
 ·rw [decide_eq_true (by omega),Zd,Zm _ hq,Za];unfold Z8;rw [Za,decide_eq_false (fun h=>by have:=(ZIa _).2 (hp q hq);omega),Ze,Zk (by omega) (by omega),Za];rfl
 ·rw [decide_eq_false (by omega),Ze]
 simp only;rw [Ztu zr (by omega),Za,ZWo zx (by omega) (by omega),Za,ZWo zu (by omega) (by omega),Za,ZWo zv (by omega) (by omega),Za,show ((0:Int) != (0:Int))=false from rfl,Ze,Za,Za,Za,c2,Za,ZMe,c1,Za,show (!true)=false from rfl,Za,Ze,Za];simp only [Zj];rcases Zbt (fun i=>0≤O i) p with hO | ⟨k,hk,h8,h9⟩
 rotate_left
 ·refine Zo (y:=.inr true) (ZH (fun q=>(q:Int)) k rfl (by omega) (fun q hq=>?_) ?_) rfl
  ·rw [decide_eq_true (by omega),Zd,Zm _ (by omega),Za];unfold Z8;rw [Za,decide_eq_false (fun h=>by have:=(ZXa _).1 h;have:=h9 q hq;grind),Ze,Zk (by omega) (by omega),Za];rfl
  ·rw [decide_eq_true (by omega),Zd,Zm _ hk,Za];unfold Z8;rw [Za,decide_eq_true ((ZXa _).2 (Rat.not_le.1 h8)),Zd,Zsr,Za]
 refine Zo (y:=.inl ()) (ZH (fun q=>(q:Int)) p rfl (by omega) (fun q hq=>?_) ?_) ?_
 ·rw [decide_eq_true (by omega),Zd,Zm _ hq,Za];unfold Z8;rw [Za,decide_eq_false (fun h=>by have:=(ZXa _).1 h;have:=hO q hq;grind),Ze,Zk (by omega) (by omega),Za];rfl
 ·rw [decide_eq_false (by omega),Ze]
 simp only;rw [Zyw (k:=0) (K:=64) h0 (by omega) (by omega) (fun i j _ _=>zA i j) (fun i _=>zO i) (fun i _=>zB i) (by decide)];by_cases hpn:p=n
 rotate_left
 ·rw [if_neg hpn,Za,show (([]:List Rat),(4:Int)).2=4 from rfl,show ((4:Int) != (0:Int))=true from rfl,Zd,aw0]
 subst hpn;rw [if_pos rfl,Za];simp only;rw [show ((0:Int) != (0:Int))=false from rfl,Ze];simp only [Zj];have zd:∀ i,i<R→sz 10000 (sm p (fun j=>A i j*O j)-B i):=fun i _=>by
  have h1:=Zaf (Zhv (n:=p) (K:=64) (k:=64) (fun j _=>zA i j) (fun j _=>zO j)) (zB i);refine h1.mono ?_;have:(p+1)*(64+64+1)≤7*(64+64+1):=Nat.mul_le_mul_right _ (by omega);omega
 have ne:∀ i,i<R→H i≠0:=fun i hi e=>by have:=hp i hi;rw [e] at this;exact Rat.lt_irrefl this
 have zq:∀ i,i<R→sz 20000 (Zuc ((sm p (fun j=>A i j*O j)-B i) / H i)):=fun i hi=>by
  have h1:=Zgm (zd i hi) (zC i);unfold Zuc;split
  ·exact (ZTc h1).mono (by omega)
  ·exact h1.mono (by omega)
 have zw:=Zhq zq (by omega);obtain ⟨w1,w2⟩:=ZBv (fun i=>Zuc ((sm p (fun j=>A i j*O j)-B i) / H i)) R;refine Zo (y:=.inl (wor (fun i=>Zuc ((sm p (fun j=>A i j*O j)-B i) / H i)) R)) (ZH (fun q=>((q:Int),wor (fun i=>Zuc ((sm p (fun j=>A i j*O j)-B i) / H i)) q)) R rfl (by omega) (fun q hq=>?_) ?_) ?_
 ·simp only;have zz:=Zgm (zd q hq) (zC q);rw [decide_eq_true (by omega),Zd,Zm _ hq,Za,Zm _ hq,Za,qdivB (zd q hq) (zC q) (by omega) (by omega) (ne q hq),Za];unfold Z8;rw [Za];refine Zo (y:=Zuc ((sm p (fun j=>A q j*O j)-B q) / H q)) ?_ ?_
  ·unfold Zuc;by_cases e:(sm p (fun j=>A q j*O j)-B q) / H q<0
   ·rw [decide_eq_true ((ZXa _).2 e),Zd,if_pos e];rfl
   ·rw [decide_eq_false (fun h=>e ((ZXa _).1 h)),Ze,if_neg e]
  ·rw [show ((0:Int) != (0:Int))=false from rfl,Ze,ZTh (zq q hq) (zw q (by omega)) (by omega) (by omega),Za];refine Zo (y:=wor (fun i=>Zuc ((sm p (fun j=>A i j*O j)-B i) / H i)) (q+1)) ?_ ?_
   ·show _=some (if wor _ q<_ then _ else _);by_cases e:wor (fun i=>Zuc ((sm p (fun j=>A i j*O j)-B i) / H i)) q<Zuc ((sm p (fun j=>A q j*O j)-B q) / H q)
    ·rw [decide_eq_true ((ZIa _).2 (by grind)),Zd,if_pos e]
    ·rw [decide_eq_false (fun h=>e (by have:=(ZIa _).1 h;grind)),Ze,if_neg e]
   ·rw [Zk (by omega) (by omega),Za];rfl
 ·simp only;rw [decide_eq_false (by omega),Ze]
 simp only;have hms:Miss R p A B H O (wor (fun i=>Zuc ((sm p (fun j=>A i j*O j)-B i) / H i)) R):=⟨hO,fun i hi=>by have:=(ZLv (hp i hi) (w2 i hi)).1;grind,fun i hi=>by have:=(ZLv (hp i hi) (w2 i hi)).2;grind⟩;have hle:=Znz w1 hms hd;rw [ZTh zr (zw R (Nat.le_refl R)) (by omega) (by omega),Za,decide_eq_true (Int.not_lt.1 fun h=>by have:=(ZIa _).1 h;grind),Zd,aw0,Za]
end Go.Eng
namespace Go.Proofs.YtfplgmfefadhdaaGreat
open Go.RowKit Go.WideShapes Go.ChangeShapes Go.Eng
theorem ZsA {P:Program} {t e:TypeId} {α:Type} {A:Rep α} {S:α→Prop} (ht:P.underlying t=some (.slice e)) (hA:ZVi P e A S) (ce:P.cellsOf e=A.n) (hn:0<A.n):ZVi P t (Zu A) (fun l=>∀ x,x ∈ l→S x):=by
 intro H enc W fuel cs x h;rcases Go.Deep.open_slice ht h with ⟨rfl,_⟩ | ⟨a,len,cap,m,n,D,Pl,rfl,_,hl,hm,hmm,rfl,hx⟩
 ·exact ⟨[],Zqh A _,fun _ x hx=>by cases hx⟩
 ·rw [ce] at hx;have hlm:len≤m:=by rw [hmm];simp;omega
  by_cases h0:len=0
  ·subst h0;exact ⟨[],⟨some a,cap,rfl,hl,hm,.inl rfl⟩,fun _ x hx=>by cases hx⟩
  ·obtain ⟨cs0,hc0,_⟩:=hx 0 (by omega);obtain ⟨_,hlen0,hcell0⟩:=World.cells?_some hc0;have h00:=hcell0 0 (by omega);rw [List.getElem?_eq_getElem (by omega)] at h00;have hspot:=World.cell?_spot h00;obtain ⟨b,off,spot⟩:=a;have hs:spot=none:=by simpa [Addr.add] using hspot
   subst hs;obtain ⟨c,T,fr,hg⟩:∃ c T fr,W.heap[b]? = some (.cells c T fr):=by
    rw [Zua,Zua] at h00;simp only [World.cell?] at h00;split at h00
    ·rename_i c T fr hg;exact ⟨c,T,fr,hg⟩
    ·cases h00
   have key:∀ k,k≤len→∃ l:List α,l.length=k∧A.rels (Zjj W) ((c.toList.drop off).take (k*A.n)) l∧((∀ i,i<k→Rows.uptoBulk (D i)≤1048576)→∀ x,x ∈ l→S x):=by
    intro k
    induction k with
    | zero=>intro _;exact ⟨[],rfl,by rw [Nat.zero_mul,List.take_zero];exact Z2d,fun _ x hx=>by cases hx⟩
    | succ k ih =>
     intro hk;obtain ⟨l,hll,hr,hS⟩:=ih (by omega);obtain ⟨cs',hc',ht'⟩:=hx k (by omega);rw [Zua] at hc';have e1:=ZJr hg hc';obtain ⟨y,hy,hyS⟩:=hA _ _ _ _ _ _ ht';refine ⟨l++[y],by simp [hll],?_,fun hB x hx=>?_⟩
     ·have e2:(c.toList.drop off).take ((k+1)*A.n)=(c.toList.drop off).take (k*A.n)++cs':=by
       rw [e1,Nat.succ_mul,List.take_add,List.drop_drop]
      rw [e2];exact ZVb hr ⟨cs',[],by simp,hy,Z2d⟩
     ·rcases List.mem_append.1 hx with hx | hx
      ·exact hS (fun i hi=>hB i (by omega)) x hx
      ·rw [List.mem_singleton.1 hx];exact hyS (hB k (by omega))
   obtain ⟨l,hll,hr,hS⟩:=key len (Nat.le_refl _);subst hll;refine ⟨l,⟨some ⟨b,off,none⟩,cap,rfl,hl,hm,.inr ⟨b,off,c,T,fr,rfl,hg,hr⟩⟩,fun hw=>hS fun i hi=>?_⟩;simp only [Rows.uptoBulk] at hw;have:=ZVv (l:=(List.range l.length).map D) (List.mem_map.2 ⟨i,List.mem_range.2 hi,rfl⟩);omega
end Go.Proofs.YtfplgmfefadhdaaGreat
namespace Go.Eng
theorem ZJj {α:Type} {A:Rep α} {v:Zb} {cs:List Value} {l:List α} (h:(Zu A).rel v cs l) {x:α} (hx:x ∈ l):∃ c,A.rel v c x:=by
 obtain ⟨q,cap,rfl,h1,h2,h3⟩:=h;rcases h3 with rfl | ⟨b,off,c,T,fr,e,hb,hr⟩
 ·cases hx
 ·obtain ⟨i,hi,rfl⟩:=List.getElem_of_mem hx;exact ⟨_,ZVa hr (List.getElem?_eq_getElem hi)⟩
end Go.Eng
namespace Go.Eng
open Go.RowKit
def Old (m:Nat) (f:Fr) (l:Lo) (f':Fr) (l':Lo):Prop:=(∀ t e,lkE f' t=some e→e.st<m→lkE f t=some e)∧∀ u e,lkE l' u=some e→e.st<m→lkE l u=some e
theorem Old.refl {m:Nat} {f:Fr} {l:Lo}:Old m f l f l:=⟨fun _ _ h _=>h,fun _ _ h _=>h⟩
theorem Old.trans {m m':Nat} {f f' f'':Fr} {l l' l'':Lo} (h:Old m f l f' l') (k:Old m' f' l' f'' l'') (hm:m≤m'):Old m f l f'' l'' :=
 ⟨fun t e he hs=>h.1 t e (k.1 t e he (by omega)) hs,fun t e he hs=>h.2 t e (k.2 t e he (by omega)) hs⟩
theorem Old.mono {m m':Nat} {f f':Fr} {l l':Lo} (h:Old m' f l f' l') (hm:m≤m'):Old m f l f' l':=⟨fun t e he hs=>h.1 t e he (by omega),fun t e he hs=>h.2 t e he (by omega)⟩
theorem Old.put {m n:Nat} {f:Fr} {l:Lo} {d:Nat} {x:V} (h:m≤n):Old m f l (⟨d,n,x⟩ :: f) l:=by
 refine ⟨fun t e he hs=>?_,fun _ _ h _=>h⟩;rw [ZU] at he;split at he
 ·cases he;exact absurd hs (by show ¬ n<m;omega)
 ·exact he
theorem Old.dup {m:Nat} {f:Fr} {l:Lo} {t:Nat} {e:En V} (h:lkE f t=some e):Old m f l (e :: f) l:=by
 obtain ⟨_,hk⟩:=Zs h;refine ⟨fun t' e' he _=>?_,fun _ _ h _=>h⟩;rw [ZU] at he;split at he
 ·rename_i hk';cases he;rw [← hk',hk];exact h
 ·exact he
theorem Zoj {ρ:Type} {n m:Nat} (hm:m≤n) {f0:Fr} {l0:Lo}:∀ {e:Ev ρ} {f:Fr} {l:Lo} {K:ρ→Fr→Lo→Prop},Old m f0 l0 f l→(l.map En.k).Nodup→Zn n e f l K→Zn n e f l fun x f' l'=>K x f' l'∧Old m f0 l0 f' l':=by
 intro e;have wr:∀ {f:Fr} {l:Lo} {u:Nat} {L:LV},Old m f0 l0 f l→(l.map En.k).Nodup→Old m f0 l0 f (⟨u,n,L⟩ :: era l u)∧((⟨u,n,L⟩ :: era l u:Lo).map En.k).Nodup:=by
  intro f l u L ho hn;obtain ⟨n1,n2⟩:=ZOb (t:=u) hn;refine ⟨⟨ho.1,fun k e he hs=>?_⟩,List.nodup_cons.2 ⟨n2,n1⟩⟩;rw [ZU] at he;split at he
  ·cases he;exact absurd hs (by show ¬ n<m;omega)
  ·rw [Z4b hn] at he;split at he
   ·cases he
   ·exact ho.2 k e he hs
 induction e with
 | fail=>intro f l K ho hn h;exact h
 | done x=>intro f l K ho hn h;exact ⟨h,ho⟩
 | rdS t q ih=>intro f l K ho hn h;obtain ⟨x,hx,h⟩:=h;exact ⟨x,hx,ih _ ho hn h⟩
 | rdL u q ih=>intro f l K ho hn h;obtain ⟨x,hx,h⟩:=h;exact ⟨x,hx,ih _ _ ho hn h⟩
 | wrS t x e ih=>intro f l K ho hn h;exact ih (ho.trans (Old.put hm) (Nat.le_refl m)) hn h
 | wrL u L e ih=>intro f l K ho hn h;exact ih (wr ho hn).1 (wr ho hn).2 h
 | new u L e ih =>
  intro f l K ho hn h;refine ⟨h.1,ih ⟨ho.1,fun k e he hs=>?_⟩ (List.nodup_cons.2 ⟨Z5g h.1,hn⟩) h.2⟩;rw [ZU] at he;split at he
  ·cases he;exact absurd hs (by show ¬ n<m;omega)
  ·exact ho.2 k e he hs
 | del u e ih =>
  intro f l K ho hn h;refine ih ⟨ho.1,fun k e he hs=>?_⟩ (ZOb hn).1 h;rw [Z4b hn] at he;split at he
  ·cases he
  ·exact ho.2 k e he hs
 | bind x q ih=>intro f l K ho hn h;obtain ⟨x,hx,h⟩:=h;exact ⟨x,hx,ih _ ho hn h⟩
 | test t e1 e2 i1 i2 =>
  intro f l K ho hn h;obtain ⟨s,b,h1,h2,h3⟩:=h;have hd:=ho.trans (Old.dup (m:=m) (l:=l) h1) (Nat.le_refl m);exact ⟨s,b,h1,fun e=>i1 hd hn (h2 e),fun e=>i2 hd hn (h3 e)⟩
 | alt b e1 e2 i1 i2=>intro f l K ho hn h;exact ⟨fun e=>i1 ho hn (h.1 e),fun e=>i2 ho hn (h.2 e)⟩
section
variable {N:Nat} {G:V→Value→Prop} {w0:Base} {v0:Zb} {U X:Nat→Prop} {f:Fr} {l:Lo} {a:Act} {w:World} {γ:Nat→Gh} {v:Zb} {ℓ:List Loc} {n:Nat}
def GoodG (P:Program) (ops:Array Oper) (N:Nat) (G:V→Value→Prop) (w0:Base) (v0:Zb) (X:Nat→Prop) (o:Oper) (a:Act) (w:World) (Post:Unit→Fr→Lo→Prop):Prop :=
 (Region.wanted o (yielded ops a.tmps)=true∧Zxa P N G w0 v0 X o a w Post)∨(Region.wanted o (yielded ops a.tmps)=false∧∃ f' l',Post () f' l'∧Rel N G w0 v0 X f' l' (a.put o.dst undef) w)
theorem ZNj (hr:RelX N G w0 v0 U X f l a w γ v ℓ) (hU:∀ k,U k→X k) (hX:X n) {o:Oper} {Post:Unit→Fr→Lo→Prop} (hd:∀ k,o.dst=some k→k<N) (h:Zn n (ZAh o) f l Post):∃ f' l',Post () f' l'∧Rel N G w0 v0 X f' l' (a.put o.dst undef) w:=by
 unfold ZAh at h
 cases hdd:o.dst with
 | none=>rw [hdd] at h;exact ⟨f,l,h,γ,v,ℓ,hr.mono hU fun _ h=>h⟩
 | some d=>rw [hdd] at h;exact ⟨_,l,h,γ,v,ℓ,(hr.mono hU fun _ h=>h).put (hd d hdd) (x:=.undef) ⟨[undef],rfl,rfl⟩ trivial hX⟩
theorem Zlo {C:Cf} (hC:CfOK C) {ops:Array Oper} (hr:RelX N G w0 v0 U X f l a w γ v ℓ) (hU:∀ k,U k→X k) (hX:X n) (hn:¬ U n) {o:Oper} {Post:Unit→Fr→Lo→Prop} (hds:∀ o ∈ ops.toList,∀ k,o.dst=some k→k<N) (hd:∀ k,o.dst=some k→k<N)
  (h:Zn n (gop C ops.toList n o) f l Post):GoodG C.P ops N G w0 v0 X o a w Post:=by
 unfold gop at h;split at h
 ·rename_i hg;exact .inl ⟨Z5b hg,ZKm hC hr hU hX hn hd h⟩
 ·rename_i j want hg;split at h
  ·rename_i q hq;split at h
   ·rename_i t ht;have htN:t<N:=hds q (List.mem_of_getElem? hq) t ht;have hgd:(ops[j]?).bind (·.dst)=some t:=by rw [← Array.getElem?_toList,hq];exact ht
    obtain ⟨e,he,h⟩:=h;obtain ⟨σ,hσ,hev⟩:=hr.st.evs [.tmp t];have hl:look σ t=some (a.tmps.getD t undef):=hev (.tmp t) (by simp);have hrv:=hr.fr t e he;obtain ⟨ek,est,ex⟩:=e;have hk:ek=t:=(Zs he).2;subst hk
    cases ex with
    | undef =>
     obtain ⟨cs,h1,h2⟩:=hrv;have h1:cs=[undef]:=h1;subst h1;have h2:a.tmps.getD ek undef=undef:=h2;rw [h2] at hl;exact .inr ⟨ZAe hσ hg hgd hl htN,ZNj hr hU hX hd h⟩
    | data tt b =>
     cases tt with
     | bool =>
      have h2:=ZNg hrv;have h2:a.tmps.getD ek undef = .bool b:=h2;rw [h2] at hl
      cases want with
      | true =>
       obtain ⟨s,b',h3,h4,h5⟩:=h;rw [he] at h3
       cases h3
       cases b with
       | true=>exact .inl ⟨Z2f hσ hg hgd hl htN,ZKm hC (RelX.dup hr he) hU hX hn hd (h4 rfl)⟩
       | false=>exact .inr ⟨ZAi hσ hg hgd hl htN,ZNj (RelX.dup hr he) hU hX hd (h5 rfl)⟩
      | false =>
       obtain ⟨s,b',h3,h4,h5⟩:=h;rw [he] at h3
       cases h3
       cases b with
       | true=>exact .inr ⟨ZAi hσ hg hgd hl htN,ZNj (RelX.dup hr he) hU hX hd (h4 rfl)⟩
       | false=>exact .inl ⟨Z2f hσ hg hgd hl htN,ZKm hC (RelX.dup hr he) hU hX hn hd (h5 rfl)⟩
     | _=>exact h.elim
    | _=>exact h.elim
   ·exact h.elim
  ·exact h.elim
theorem GoodG.list {P:Program} {ops:Array Oper} {Q:Exit→Act→World→Prop} {o:Oper} {rest:List Oper} {Post:Unit→Fr→Lo→Prop} (h:GoodG P ops N G w0 v0 X o a w Post)
  (k:∀ f' l' a' w',Post () f' l'→Rel N G w0 v0 X f' l' a' w'→wpList P ops Q rest a' w'):wpList P ops Q (o :: rest) a w:=by
 rcases h with ⟨hw,hg⟩ | ⟨hw,f',l',h1,h2⟩
 ·exact ZLc hw (Z9n hg fun x w' ⟨f',l',h1,h2⟩=>k f' l' _ w' h1 h2)
 ·unfold wpList;rw [if_neg (by rw [hw];decide)];exact k f' l' _ w h1 h2
end
end Go.Eng
namespace Go.Eng
open Go.RowKit
inductive Et where
 | rS (t:Nat) (e:En V)
 | rL (u:Nat) (e:En LV)
 | wS (e:En V)
 | dup (e:En V)
 | wL (e:En LV)
 | nL (e:En LV)
 | dL (u:Nat)
def okT:List Et→Fr→Lo→Prop
 | [],_,_=>True
 | .rS t e :: τ,f,l=>lkE f t=some e∧okT τ f l
 | .rL u e :: τ,f,l=>lkE l u=some e∧okT τ f l
 | .wS e :: τ,f,l=>okT τ (e :: f) l
 | .dup e :: τ,f,l=>lkE f e.k=some e∧okT τ (e :: f) l
 | .wL e :: τ,f,l=>okT τ f (e :: era l e.k)
 | .nL e :: τ,f,l=>lkE l e.k=none∧okT τ f (e :: l)
 | .dL u :: τ,f,l=>okT τ f (era l u)
def Z3b:List Et→Fr→Fr
 | [],f=>f
 | .wS e :: τ,f=>Z3b τ (e :: f)
 | .dup e :: τ,f=>Z3b τ (e :: f)
 | _ :: τ,f=>Z3b τ f
def Zhc:List Et→Lo→Lo
 | [],l=>l
 | .wL e :: τ,l=>Zhc τ (e :: era l e.k)
 | .nL e :: τ,l=>Zhc τ (e :: l)
 | .dL u :: τ,l=>Zhc τ (era l u)
 | _ :: τ,l=>Zhc τ l
def rdS:List Et→Nat→Prop
 | [],_=>False
 | .rS t _ :: τ,k=>k=t∨rdS τ k
 | .dup e :: τ,k=>k=e.k∨rdS τ k
 | _ :: τ,k=>rdS τ k
def rdL:List Et→Nat→Prop
 | [],_=>False
 | .rL u _ :: τ,k=>k=u∨rdL τ k
 | .nL e :: τ,k=>k=e.k∨rdL τ k
 | _ :: τ,k=>rdL τ k
def Zfb:List Et→Nat→Option (Option (En V))
 | [],_=>none
 | .wS e :: τ,t=>match Zfb τ t with
  | some z=>some z
  | none=>if e.k=t then some (some e) else none
 | _ :: τ,t=>Zfb τ t
def Zta:List Et→Nat→Option (Option (En LV))
 | [],_=>none
 | .wL e :: τ,t=>match Zta τ t with
  | some z=>some z
  | none=>if e.k=t then some (some e) else none
 | .nL e :: τ,t=>match Zta τ t with
  | some z=>some z
  | none=>if e.k=t then some (some e) else none
 | .dL u :: τ,t=>match Zta τ t with
  | some z=>some z
  | none=>if u=t then some none else none
 | _ :: τ,t=>Zta τ t
def fpT:List Et→Fp→Fp
 | [],p=>p
 | .rS t _ :: τ,p=>fpT τ ⟨bit p.rs t,p.ws,p.rl,p.wl⟩
 | .rL u _ :: τ,p=>fpT τ ⟨p.rs,p.ws,bit p.rl u,p.wl⟩
 | .wS e :: τ,p=>fpT τ ⟨p.rs,bit p.ws e.k,p.rl,p.wl⟩
 | .dup e :: τ,p=>fpT τ ⟨bit p.rs e.k,p.ws,p.rl,p.wl⟩
 | .wL e :: τ,p=>fpT τ ⟨p.rs,p.ws,p.rl,bit p.wl e.k⟩
 | .nL e :: τ,p=>fpT τ ⟨p.rs,p.ws,bit p.rl e.k,bit p.wl e.k⟩
 | .dL u :: τ,p=>fpT τ ⟨p.rs,p.ws,p.rl,bit p.wl u⟩
def Tr {ρ:Type} (n:Nat):Ev ρ→List Et→ρ→Prop
 | .fail,_,_=>False
 | .done r,τ,x=>τ=[]∧x=r
 | .rdS t k,τ,x=>∃ e τ',τ = .rS t e :: τ'∧Tr n (k e.x) τ' x
 | .rdL u k,τ,x=>∃ e τ',τ = .rL u e :: τ'∧Tr n (k e.st e.x) τ' x
 | .wrS t v e,τ,x=>∃ τ',τ = .wS ⟨t,n,v⟩ :: τ'∧Tr n e τ' x
 | .wrL u L e,τ,x=>∃ τ',τ = .wL ⟨u,n,L⟩ :: τ'∧Tr n e τ' x
 | .new u L e,τ,x=>∃ τ',τ = .nL ⟨u,n,L⟩ :: τ'∧Tr n e τ' x
 | .del u e,τ,x=>∃ τ',τ = .dL u :: τ'∧Tr n e τ' x
 | .bind y k,τ,x=>∃ z,y=some z∧Tr n (k z) τ x
 | .test t e1 e2,τ,x=>∃ s b τ',τ = .dup ⟨t,s,.data .bool b⟩ :: τ'∧(b=true→Tr n e1 τ' x)∧(b=false→Tr n e2 τ' x)
 | .alt b e1 e2,τ,x=>(b=true→Tr n e1 τ x)∧(b=false→Tr n e2 τ x)
theorem Zvz {ρ α:Type} {n:Nat} {r:α}:∀ {e:Ev ρ} {f:Fr} {l:Lo} {p:Fp} {K:ρ→Fr→Lo→Fp→Option α},ZCb n e f l p K=some r→∃ x τ,Tr n e τ x∧okT τ f l∧K x (Z3b τ f) (Zhc τ l) (fpT τ p)=some r:=by
 intro e
 induction e with
 | fail=>intro f l p K h;cases h
 | done x=>intro f l p K h;exact ⟨x,[],⟨rfl,rfl⟩,trivial,h⟩
 | rdS t k ih =>
  intro f l p K h;simp only [ZCb] at h;split at h
  ·rename_i e he;obtain ⟨x,τ,h1,h2,h3⟩:=ih _ h;exact ⟨x,.rS t e :: τ,⟨e,τ,rfl,h1⟩,⟨he,h2⟩,h3⟩
  ·cases h
 | rdL u k ih =>
  intro f l p K h;simp only [ZCb] at h;split at h
  ·rename_i e he;obtain ⟨x,τ,h1,h2,h3⟩:=ih _ _ h;exact ⟨x,.rL u e :: τ,⟨e,τ,rfl,h1⟩,⟨he,h2⟩,h3⟩
  ·cases h
 | wrS t v e ih=>intro f l p K h;obtain ⟨x,τ,h1,h2,h3⟩:=ih h;exact ⟨x,.wS ⟨t,n,v⟩ :: τ,⟨τ,rfl,h1⟩,h2,h3⟩
 | wrL u L e ih=>intro f l p K h;obtain ⟨x,τ,h1,h2,h3⟩:=ih h;exact ⟨x,.wL ⟨u,n,L⟩ :: τ,⟨τ,rfl,h1⟩,h2,h3⟩
 | new u L e ih =>
  intro f l p K h;simp only [ZCb] at h;split at h
  ·rename_i he;obtain ⟨x,τ,h1,h2,h3⟩:=ih h;exact ⟨x,.nL ⟨u,n,L⟩ :: τ,⟨τ,rfl,h1⟩,⟨he,h2⟩,h3⟩
  ·cases h
 | del u e ih=>intro f l p K h;obtain ⟨x,τ,h1,h2,h3⟩:=ih h;exact ⟨x,.dL u :: τ,⟨τ,rfl,h1⟩,h2,h3⟩
 | bind y k ih =>
  intro f l p K h;obtain ⟨z,hz,h⟩:=Zpa h;obtain ⟨x,τ,h1,h2,h3⟩:=ih _ h;exact ⟨x,τ,⟨z,hz,h1⟩,h2,h3⟩
 | test t e1 e2 i1 i2 =>
  intro f l p K h;simp only [ZCb] at h;split at h
  ·rename_i k s b hx;obtain ⟨_,hk⟩:=Zs hx;have hk:k=t:=hk;subst hk
   cases b with
   | true =>
    obtain ⟨x,τ,h1,h2,h3⟩:=i1 h;exact ⟨x,.dup ⟨k,s,.data .bool true⟩ :: τ,⟨s,true,τ,rfl,fun _=>h1,fun e=>by cases e⟩,⟨hx,h2⟩,h3⟩
   | false =>
    obtain ⟨x,τ,h1,h2,h3⟩:=i2 h;exact ⟨x,.dup ⟨k,s,.data .bool false⟩ :: τ,⟨s,false,τ,rfl,(fun e=>by cases e),fun _=>h1⟩,⟨hx,h2⟩,h3⟩
  ·cases h
 | alt b e1 e2 i1 i2 =>
  intro f l p K h
  cases b with
  | true =>
   obtain ⟨x,τ,h1,h2,h3⟩:=i1 h;exact ⟨x,τ,⟨fun _=>h1,fun e=>by cases e⟩,h2,h3⟩
  | false =>
   obtain ⟨x,τ,h1,h2,h3⟩:=i2 h;exact ⟨x,τ,⟨(fun e=>by cases e),fun _=>h1⟩,h2,h3⟩
theorem ZDn {ρ:Type} {n:Nat}:∀ {e:Ev ρ} {τ:List Et} {x:ρ} {f:Fr} {l:Lo},Tr n e τ x→okT τ f l→Zn n e f l fun x' f' l'=>x'=x∧f'=Z3b τ f∧l'=Zhc τ l:=by
 intro e
 induction e with
 | fail=>intro τ x f l h k;exact h
 | done r=>intro τ x f l h k;obtain ⟨rfl,rfl⟩:=h;exact ⟨rfl,rfl,rfl⟩
 | rdS t q ih=>intro τ x f l h k;obtain ⟨e,τ',rfl,h⟩:=h;exact ⟨e,k.1,ih _ (τ:=τ') h k.2⟩
 | rdL u q ih=>intro τ x f l h k;obtain ⟨e,τ',rfl,h⟩:=h;exact ⟨e,k.1,ih _ _ (τ:=τ') h k.2⟩
 | wrS t v e ih=>intro τ x f l h k;obtain ⟨τ',rfl,h⟩:=h;exact ih (τ:=τ') h k
 | wrL u L e ih=>intro τ x f l h k;obtain ⟨τ',rfl,h⟩:=h;exact ih (τ:=τ') h k
 | new u L e ih=>intro τ x f l h k;obtain ⟨τ',rfl,h⟩:=h;exact ⟨k.1,ih (τ:=τ') h k.2⟩
 | del u e ih=>intro τ x f l h k;obtain ⟨τ',rfl,h⟩:=h;exact ih (τ:=τ') h k
 | bind y q ih=>intro τ x f l h k;obtain ⟨z,hz,h⟩:=h;exact ⟨z,hz,ih _ h k⟩
 | test t e1 e2 i1 i2=>intro τ x f l h k;obtain ⟨s,b,τ',rfl,h1,h2⟩:=h;exact ⟨s,b,k.1,fun e=>i1 (τ:=τ') (h1 e) k.2,fun e=>i2 (τ:=τ') (h2 e) k.2⟩
 | alt b e1 e2 i1 i2=>intro τ x f l h k;exact ⟨fun e=>i1 (h.1 e) k,fun e=>i2 (h.2 e) k⟩
theorem Zmd:∀ {τ:List Et} {f:Fr} {l:Lo} {t:Nat},okT τ f l→lkE (Z3b τ f) t=(Zfb τ t).getD (lkE f t)
 | [],_,_,_,_=>rfl
 | .rS _ _ :: τ,_,_,_,h=>Zmd (τ:=τ) h.2
 | .rL _ _ :: τ,_,_,_,h=>Zmd (τ:=τ) h.2
 | .wL _ :: τ,_,_,_,h=>Zmd (τ:=τ) h
 | .nL _ :: τ,_,_,_,h=>Zmd (τ:=τ) h.2
 | .dL _ :: τ,_,_,_,h=>Zmd (τ:=τ) h
 | .wS e :: τ,f,l,t,h=>by
  have:=Zmd (t:=t) (show okT τ (e :: f) l from h)
  simp only [Z3b,Zfb]
  rw [this,ZU]
  cases Zfb τ t with
  | some z=>rfl
  | none=>by_cases h:e.k=t <;> simp [h]
 | .dup e :: τ,f,l,t,h=>by
  have:=Zmd (t:=t) (show okT τ (e :: f) l from h.2)
  simp only [Z3b,Zfb]
  rw [this,ZU]
  congr 1
  by_cases hk:e.k=t
  ·rw [if_pos hk,← hk,h.1]
  ·rw [if_neg hk]
theorem ZIc:∀ {τ:List Et} {f:Fr} {l:Lo},(l.map En.k).Nodup→okT τ f l→((Zhc τ l).map En.k).Nodup∧∀ t,lkE (Zhc τ l) t=(Zta τ t).getD (lkE l t)
 | [],_,_,hn,_=>⟨hn,fun _=>rfl⟩
 | .rS _ _ :: τ,_,_,hn,h=>ZIc (τ:=τ) hn h.2
 | .rL _ _ :: τ,_,_,hn,h=>ZIc (τ:=τ) hn h.2
 | .wS _ :: τ,_,_,hn,h=>ZIc (τ:=τ) hn h
 | .dup _ :: τ,_,_,hn,h=>ZIc (τ:=τ) hn h.2
 | .wL e :: τ,f,l,hn,h=>by
  obtain ⟨n1,n2⟩:=ZOb (t:=e.k) hn
  obtain ⟨k1,k2⟩:=ZIc (τ:=τ) (l:=e :: era l e.k) (List.nodup_cons.2 ⟨n2,n1⟩) h
  refine ⟨k1,fun t=>(k2 t).trans ?_⟩
  simp only [Zta]
  rw [ZU,Z4b hn]
  cases Zta τ t with
  | some z=>rfl
  | none=>by_cases hk:e.k=t <;> simp [hk]
 | .nL e :: τ,f,l,hn,h=>by
  obtain ⟨k1,k2⟩:=ZIc (τ:=τ) (l:=e :: l) (List.nodup_cons.2 ⟨Z5g h.1,hn⟩) h.2
  refine ⟨k1,fun t=>(k2 t).trans ?_⟩
  simp only [Zta]
  rw [ZU]
  cases Zta τ t with
  | some z=>rfl
  | none=>by_cases hk:e.k=t <;> simp [hk]
 | .dL u :: τ,f,l,hn,h=>by
  obtain ⟨k1,k2⟩:=ZIc (τ:=τ) (l:=era l u) (ZOb hn).1 h
  refine ⟨k1,fun t=>(k2 t).trans ?_⟩
  simp only [Zta]
  rw [Z4b hn]
  cases Zta τ t with
  | some z=>rfl
  | none=>by_cases hk:u=t <;> simp [hk]
theorem Zze:∀ {τ:List Et} {f f2:Fr} {l l2:Lo},(l.map En.k).Nodup→(l2.map En.k).Nodup→okT τ f l→(∀ t,rdS τ t→lkE f t=lkE f2 t)→(∀ u,rdL τ u→lkE l u=lkE l2 u)→okT τ f2 l2
 | [],_,_,_,_,_,_,_,_,_=>trivial
 | .rS t e :: τ,_,_,_,_,n1,n2,h,k1,k2=>⟨(k1 t (.inl rfl)).symm.trans h.1,Zze n1 n2 h.2 (fun t ht=>k1 t (.inr ht)) k2⟩
 | .rL u e :: τ,_,_,_,_,n1,n2,h,k1,k2=>⟨(k2 u (.inl rfl)).symm.trans h.1,Zze n1 n2 h.2 k1 fun u hu=>k2 u (.inr hu)⟩
 | .wS e :: τ,f,f2,_,_,n1,n2,h,k1,k2=>Zze (τ:=τ) n1 n2 h (fun t ht=>by
   rw [ZU,ZU]
   by_cases hk:e.k=t
   ·rw [if_pos hk,if_pos hk]
   ·rw [if_neg hk,if_neg hk];exact k1 t ht) k2
 | .dup e :: τ,f,f2,_,_,n1,n2,h,k1,k2=>⟨(k1 e.k (.inl rfl)).symm.trans h.1,Zze (τ:=τ) n1 n2 h.2 (fun t ht=>by
   rw [ZU,ZU]
   by_cases hk:e.k=t
   ·rw [if_pos hk,if_pos hk]
   ·rw [if_neg hk,if_neg hk];exact k1 t (.inr ht)) k2⟩
 | .wL e :: τ,_,_,l,l2,n1,n2,h,k1,k2=>by
  obtain ⟨a1,a2⟩:=ZOb (t:=e.k) n1
  obtain ⟨b1,b2⟩:=ZOb (t:=e.k) n2
  refine Zze (τ:=τ) (l:=e :: era l e.k) (l2:=e :: era l2 e.k) (List.nodup_cons.2 ⟨a2,a1⟩) (List.nodup_cons.2 ⟨b2,b1⟩) h k1 fun u hu=>?_
  rw [ZU,ZU]
  by_cases hk:e.k=u
  ·rw [if_pos hk,if_pos hk]
  ·rw [if_neg hk,if_neg hk,Z4b n1,Z4b n2,if_neg hk,if_neg hk];exact k2 u hu
 | .nL e :: τ,_,_,l,l2,n1,n2,h,k1,k2=>by
  have he:lkE l2 e.k=none:=(k2 e.k (.inl rfl)).symm.trans h.1
  refine ⟨he,Zze (τ:=τ) (l:=e :: l) (l2:=e :: l2) (List.nodup_cons.2 ⟨Z5g h.1,n1⟩) (List.nodup_cons.2 ⟨Z5g he,n2⟩) h.2 k1 fun u hu=>?_⟩
  rw [ZU,ZU]
  by_cases hk:e.k=u
  ·rw [if_pos hk,if_pos hk]
  ·rw [if_neg hk,if_neg hk];exact k2 u (.inr hu)
 | .dL u :: τ,_,_,l,l2,n1,n2,h,k1,k2=>by
  refine Zze (τ:=τ) (ZOb n1).1 (ZOb n2).1 h k1 fun k hk=>?_
  rw [Z4b n1,Z4b n2]
  by_cases e:u=k
  ·rw [if_pos e,if_pos e]
  ·rw [if_neg e,if_neg e];exact k2 k hk
theorem Zef {m k:Nat}:(bit m k).testBit k=true:=by
 show (m ||| 2^k).testBit k=true;rw [Nat.testBit_or,Nat.testBit_two_pow_self,Bool.or_true]
theorem Z6e {m k t:Nat} (h:m.testBit t=true):(bit m k).testBit t=true:=by
 show (m ||| 2^k).testBit t=true;rw [Nat.testBit_or,h,Bool.true_or]
structure Fp.le (p q:Fp):Prop where
 rs:∀ t,p.rs.testBit t=true→q.rs.testBit t=true
 ws:∀ t,p.ws.testBit t=true→q.ws.testBit t=true
 rl:∀ t,p.rl.testBit t=true→q.rl.testBit t=true
 wl:∀ t,p.wl.testBit t=true→q.wl.testBit t=true
theorem Fp.le.trans {p q r:Fp} (h:p.le q) (k:q.le r):p.le r:=⟨fun t e=>k.rs t (h.rs t e),fun t e=>k.ws t (h.ws t e),fun t e=>k.rl t (h.rl t e),fun t e=>k.wl t (h.wl t e)⟩
theorem ZZb:∀ {τ:List Et} {p:Fp},p.le (fpT τ p)
 | [],_=>⟨fun _ h=>h,fun _ h=>h,fun _ h=>h,fun _ h=>h⟩
 | .rS t _ :: τ,p=>Fp.le.trans (q:=⟨bit p.rs t,p.ws,p.rl,p.wl⟩) ⟨fun _ h=>Z6e h,fun _ h=>h,fun _ h=>h,fun _ h=>h⟩ (ZZb (τ:=τ))
 | .rL u _ :: τ,p=>Fp.le.trans (q:=⟨p.rs,p.ws,bit p.rl u,p.wl⟩) ⟨fun _ h=>h,fun _ h=>h,fun _ h=>Z6e h,fun _ h=>h⟩ (ZZb (τ:=τ))
 | .wS e :: τ,p=>Fp.le.trans (q:=⟨p.rs,bit p.ws e.k,p.rl,p.wl⟩) ⟨fun _ h=>h,fun _ h=>Z6e h,fun _ h=>h,fun _ h=>h⟩ (ZZb (τ:=τ))
 | .dup e :: τ,p=>Fp.le.trans (q:=⟨bit p.rs e.k,p.ws,p.rl,p.wl⟩) ⟨fun _ h=>Z6e h,fun _ h=>h,fun _ h=>h,fun _ h=>h⟩ (ZZb (τ:=τ))
 | .wL e :: τ,p=>Fp.le.trans (q:=⟨p.rs,p.ws,p.rl,bit p.wl e.k⟩) ⟨fun _ h=>h,fun _ h=>h,fun _ h=>h,fun _ h=>Z6e h⟩ (ZZb (τ:=τ))
 | .nL e :: τ,p=>Fp.le.trans (q:=⟨p.rs,p.ws,bit p.rl e.k,bit p.wl e.k⟩) ⟨fun _ h=>h,fun _ h=>h,fun _ h=>Z6e h,fun _ h=>Z6e h⟩ (ZZb (τ:=τ))
 | .dL u :: τ,p=>Fp.le.trans (q:=⟨p.rs,p.ws,p.rl,bit p.wl u⟩) ⟨fun _ h=>h,fun _ h=>h,fun _ h=>h,fun _ h=>Z6e h⟩ (ZZb (τ:=τ))
theorem Zye:∀ {τ:List Et} {p:Fp} {t:Nat},rdS τ t→(fpT τ p).rs.testBit t=true
 | .rS t _ :: τ,_,_,.inl e=>by subst e;exact (ZZb (τ:=τ)).rs _ Zef
 | .dup _ :: τ,_,_,.inl e=>by subst e;exact (ZZb (τ:=τ)).rs _ Zef
 | .rS t _ :: τ,_,_,.inr h=>Zye (τ:=τ) h
 | .dup _ :: τ,_,_,.inr h=>Zye (τ:=τ) h
 | .rL _ _ :: τ,_,_,h=>Zye (τ:=τ) h
 | .wS _ :: τ,_,_,h=>Zye (τ:=τ) h
 | .wL _ :: τ,_,_,h=>Zye (τ:=τ) h
 | .nL _ :: τ,_,_,h=>Zye (τ:=τ) h
 | .dL _ :: τ,_,_,h=>Zye (τ:=τ) h
theorem Zse:∀ {τ:List Et} {p:Fp} {t:Nat},rdL τ t→(fpT τ p).rl.testBit t=true
 | .rL t _ :: τ,_,_,.inl e=>by subst e;exact (ZZb (τ:=τ)).rl _ Zef
 | .nL _ :: τ,_,_,.inl e=>by subst e;exact (ZZb (τ:=τ)).rl _ Zef
 | .rL t _ :: τ,_,_,.inr h=>Zse (τ:=τ) h
 | .nL _ :: τ,_,_,.inr h=>Zse (τ:=τ) h
 | .rS _ _ :: τ,_,_,h=>Zse (τ:=τ) h
 | .wS _ :: τ,_,_,h=>Zse (τ:=τ) h
 | .dup _ :: τ,_,_,h=>Zse (τ:=τ) h
 | .wL _ :: τ,_,_,h=>Zse (τ:=τ) h
 | .dL _ :: τ,_,_,h=>Zse (τ:=τ) h
theorem Z7c:∀ {τ:List Et} {p:Fp} {t:Nat},Zfb τ t≠none→(fpT τ p).ws.testBit t=true
 | [],_,_,h=>absurd rfl h
 | .wS e :: τ,_,t,h=>by
  by_cases hk:e.k=t
  ·subst hk;exact (ZZb (τ:=τ)).ws _ Zef
  ·refine Z7c (τ:=τ) fun h0=>h ?_
   simp only [Zfb,h0,if_neg hk]
 | .rS _ _ :: τ,_,_,h=>Z7c (τ:=τ) h
 | .rL _ _ :: τ,_,_,h=>Z7c (τ:=τ) h
 | .dup _ :: τ,_,_,h=>Z7c (τ:=τ) h
 | .wL _ :: τ,_,_,h=>Z7c (τ:=τ) h
 | .nL _ :: τ,_,_,h=>Z7c (τ:=τ) h
 | .dL _ :: τ,_,_,h=>Z7c (τ:=τ) h
theorem Z8c:∀ {τ:List Et} {p:Fp} {t:Nat},Zta τ t≠none→(fpT τ p).wl.testBit t=true
 | [],_,_,h=>absurd rfl h
 | .wL e :: τ,_,t,h=>by
  by_cases hk:e.k=t
  ·subst hk;exact (ZZb (τ:=τ)).wl _ Zef
  ·refine Z8c (τ:=τ) fun h0=>h ?_
   simp only [Zta,h0,if_neg hk]
 | .nL e :: τ,_,t,h=>by
  by_cases hk:e.k=t
  ·subst hk;exact (ZZb (τ:=τ)).wl _ Zef
  ·refine Z8c (τ:=τ) fun h0=>h ?_
   simp only [Zta,h0,if_neg hk]
 | .dL u :: τ,_,t,h=>by
  by_cases hk:u=t
  ·subst hk;exact (ZZb (τ:=τ)).wl _ Zef
  ·refine Z8c (τ:=τ) fun h0=>h ?_
   simp only [Zta,h0,if_neg hk]
 | .rS _ _ :: τ,_,_,h=>Z8c (τ:=τ) h
 | .rL _ _ :: τ,_,_,h=>Z8c (τ:=τ) h
 | .wS _ :: τ,_,_,h=>Z8c (τ:=τ) h
 | .dup _ :: τ,_,_,h=>Z8c (τ:=τ) h
theorem Zah {a b t:Nat} (h:Nat.land a b=0) (ha:a.testBit t=true) (hb:b.testBit t=true):False:=by
 have:(a &&& b).testBit t=true:=by rw [Nat.testBit_and,ha,hb];rfl
 rw [show (a &&& b)=0 from h] at this;simp at this
theorem Zoo {a b:Nat} (h:Nat.lor a b=0):a=0∧b=0:=by
 have h:a ||| b=0:=h;exact Nat.or_eq_zero_iff.1 h
theorem ZOk {a b t:Nat} (h:a.testBit t=true∨b.testBit t=true):(Nat.lor a b).testBit t=true:=by
 show (a ||| b).testBit t=true;rw [Nat.testBit_or];rcases h with h | h <;> simp [h]
structure Apart (τ σ:List Et):Prop where
 s1:∀ t,Zfb τ t≠none→rdS σ t→False
 s2:∀ t,Zfb τ t≠none→Zfb σ t≠none→False
 s3:∀ t,rdS τ t→Zfb σ t≠none→False
 l1:∀ t,Zta τ t≠none→rdL σ t→False
 l2:∀ t,Zta τ t≠none→Zta σ t≠none→False
 l3:∀ t,rdL τ t→Zta σ t≠none→False
theorem ZEv {τ σ:List Et} {p q:Fp} (h:(fpT τ p).free (fpT σ q)=true):Apart τ σ:=by
 have h:=Nat.eq_of_beq_eq_true h;obtain ⟨h1,h2⟩:=Zoo h;obtain ⟨h3,h4⟩:=Zoo h1;obtain ⟨h5,h6⟩:=Zoo h2;exact ⟨fun t a b=>Zah h3 (Z7c a) (ZOk (.inl (Zye b))),fun t a b=>Zah h3 (Z7c a) (ZOk (.inr (Z7c b))),fun t a b=>Zah h4 (Zye a) (Z7c b),
  fun t a b=>Zah h5 (Z8c a) (ZOk (.inl (Zse b))),fun t a b=>Zah h5 (Z8c a) (ZOk (.inr (Z8c b))),fun t a b=>Zah h6 (Zse a) (Z8c b)⟩
end Go.Eng
