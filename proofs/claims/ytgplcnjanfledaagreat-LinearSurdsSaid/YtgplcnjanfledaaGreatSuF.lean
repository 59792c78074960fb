/- Lemmas towards the statement: the engine of the walks, the functions' models, laws and walks, part 6. Conditions: as each states. -/
import Derived.Test.YtgplcnjanfledaaGreatSuE
set_option linter.all false
set_option maxHeartbeats 4000000
set_option maxRecDepth 100000
namespace Go.Eng
open Go.RowKit
variable {U:Act→World→Prop}{I:Array Bool}{r:Array Oper}{β:Bool}{G:CT}{H:Cf}{W:En LV→List dY→Prop}{N k:Exit→Act→World→Prop}{P j:Fr}{Q:List Nat}{C:List Oper}{F:List Value}{n δ:List dY}{Y e y:Lo}{Z c g w:Nat}{J R f:Nat→Gh}{u:Nat→Prop}{A:Oper}{S:Program}{h α:Type}{t:Fr→Lo→Nat→Option h}{E:Unit→Fr→Lo→Prop}{O:V}{d:V→Value→Prop}{o:World}{B i:Zb}{m:dW}{L:h}{x:h→Fr→Lo→Prop}
section
abbrev QD:=(Int×Int)×(Int×Int)×(Int×Int)×Int×Int
def Z1(q:QD):Su:=⟨kN q.1,kN q.2.1,kN q.2.2.1,kN q.2.2.2⟩
def bR(r:Int×Int):Prop:=(r.1.natAbs≤2^20)∧r.2.natAbs≤2^20
instance (r:Int×Int):Decidable (bR r):=inferInstanceAs (Decidable (_∧_))
def bQ(q:QD):Prop:=bR q.1∧bR q.2.1∧bR q.2.2.1∧bR q.2.2.2
def Bq(B d:Nat)(x:Su):Prop:=∃n:I4,(n.1.natAbs≤B∧n.2.1.natAbs≤B∧n.2.2.1.natAbs≤B∧n.2.2.2.natAbs≤B)∧Sc n ((d:Nat):Rat) x
theorem GW{r:Int×Int}(h:bR r):∃(d:Nat) (n:Int),0<d∧d≤2^20∧n.natAbs≤2^20∧((n:Int):Rat)=kN r*((d:Nat):Rat):=by
 obtain⟨a,b⟩:=r;obtain⟨f,g⟩:=h;simp only at f g;unfold kN;by_cases c:b=0
 ·subst c;refine⟨1,a,by decide,by decide,f,?_⟩;simp[Rat.mul_one]
 ·refine⟨b.natAbs,if b<0 then -a else a,by omega,g,by split <;> (try rw[Int.natAbs_neg]) <;> exact f,?_⟩;have j:((b:Int):Rat)≠0:=λe=>c (Rat.intCast_inj.1 (by rw[e];rfl));simp only[c,if_false,Rat.divInt_eq_div];by_cases i:b<0
  ·have e:((b.natAbs:Nat):Rat)= -((b:Int):Rat):=by
    rw[←Rat.intCast_neg,show -b=((b.natAbs:Nat):Int) by omega];rfl
   rw[iP i,e,Rat.intCast_neg];grind
  ·have e:((b.natAbs:Nat):Rat)=((b:Int):Rat):=by
    conv=>rhs;rw[show b=((b.natAbs:Nat):Int) by omega]
    rfl
   rw[iN i,e];grind
theorem TY{q:QD}(h:bQ q):∃d:Nat,0<d∧d≤2^80∧Bq (2^80) d (Z1 q):=by
 obtain⟨x,y,A,B⟩:=h;obtain⟨f,G,K,k,C,p⟩:=GW x;obtain⟨g,H,L,l,D,r⟩:=GW y;obtain⟨i,I,M,m,E,s⟩:=GW A;obtain⟨j,J,N,o,F,t⟩:=GW B;have q:∀{u v w z:Nat},u≤2^20→v≤2^20→w≤2^20→z≤2^20→u*(v*(w*z))≤2^80:=λa b c d=>Nat.le_trans (Nat.mul_le_mul a (Nat.mul_le_mul b (Nat.mul_le_mul c d))) (by decide);have e:∀(n:Int) (u:Nat),(n*(u:Int)).natAbs=n.natAbs*u:=λn u=>by rw[Int.natAbs_mul,Int.natAbs_natCast]
 refine⟨f*(g*(i*j)),Nat.mul_pos K (Nat.mul_pos L (Nat.mul_pos M N)),q k l m o,(G*((g*(i*j):Nat):Int),H*((f*(i*j):Nat):Int),I*((f*(g*j):Nat):Int),J*((f*(g*i):Nat):Int)),⟨by rw[e];exact q C l m o,by rw[e];exact q D k m o,by rw[e];exact q E k l o,by rw[e];exact q F k l m⟩,?_⟩;have c:∀u:Nat,(((u:Nat):Int):Rat)=((u:Nat):Rat):=λu=>rfl;refine⟨?_,?_,?_,?_⟩ <;> simp only[Rat.intCast_mul,c,Rat.natCast_mul,p,r,s,t,Z1] <;> grind
theorem Q4:∀l:List QD,(∀q,q ∈ l→bQ q)→∃d:Nat,0<d∧d≤2^(80*l.length)∧∀q,q ∈ l→Bq (2^(80*l.length)) d (Z1 q)
 |[],_=>⟨1,by decide,Nat.le_refl 1,λq f=>by cases f⟩
 |x :: l,h=>by
  obtain⟨d,A,k,w⟩:=TY (h x (List.mem_cons_self ..))
  obtain⟨e,D,m,y⟩:=Q4 l λq f=>h q (List.mem_cons_of_mem _ f)
  have c:∀u:Nat,(((u:Nat):Int):Rat)=((u:Nat):Rat):=λu=>rfl
  have g:∀(n:Int) (u:Nat),(n*(u:Int)).natAbs=n.natAbs*u:=λn u=>by rw[Int.natAbs_mul,Int.natAbs_natCast]
  have ml:∀{B d e C:Nat} {x:Su},Bq B d x→e≤C→Bq (B*C) (d*e) x:=λ{B d e C x} t i=>by
   obtain⟨n,⟨o,p,r,s⟩,E,F,G,H⟩:=t
   refine⟨(n.1*(e:Int),n.2.1*(e:Int),n.2.2.1*(e:Int),n.2.2.2*(e:Int)),⟨by rw[g];exact Nat.mul_le_mul o i,by rw[g];exact Nat.mul_le_mul p i,by rw[g];exact Nat.mul_le_mul r i,by rw[g];exact Nat.mul_le_mul s i⟩,?_⟩
   refine⟨?_,?_,?_,?_⟩ <;> simp only[Rat.intCast_mul,c,Rat.natCast_mul,E,F,G,H] <;> exact Rat.mul_assoc _ _ _
  have j:2^(80*(x :: l).length)=2^80*2^(80*l.length):=by rw[←Nat.pow_add,List.length_cons];congr 1;omega
  refine⟨d*e,Nat.mul_pos A D,by rw[j];exact Nat.mul_le_mul k m,λq f=>?_⟩
  rw[j]
  rcases List.mem_cons.1 f with rfl |f
  ·exact ml w m
  ·have:=ml (y q f) k
   rw[Nat.mul_comm (2^80),Nat.mul_comm d]
   exact this
theorem Wc(x:Su)(q:Rat):x*Su.rat q=⟨x.p*q,x.q*q,x.r*q,x.s*q⟩:=by
 show Su.mul _ _=_;simp only[Su.mul,Su.rat,Su.mk.injEq];refine⟨?_,?_,?_,?_⟩ <;> grind
theorem Bq.ins{x:Su}(h:Bq (2^c) g x):eI (c+1) (x*Su.rat ((g:Nat):Rat)):=by
 obtain⟨n,⟨j,k,l,m⟩,d,e,f,i⟩:=h;have:=Nat.pow_succ (n:=2) (m:=c);have hp:=Nat.two_pow_pos c;rw[Wc];exact⟨n,⟨by omega,by omega,by omega,by omega⟩,by rw[Rat.mul_one];exact d,by rw[Rat.mul_one];exact e,by rw[Rat.mul_one];exact f,by rw[Rat.mul_one];exact i⟩
theorem PQ(h:g≤2^c):eI (c+1) (Su.rat ((g:Nat):Rat)):=by
 have:=Nat.pow_succ (n:=2) (m:=c);have hp:=Nat.two_pow_pos c;exact⟨((g:Int),0,0,0),⟨by show(g:Int).natAbs<_;omega,by show 0<_;omega,by show 0<_;omega,by show 0<_;omega⟩,(Rat.mul_one _).symm,(Rat.mul_one _).symm,(Rat.mul_one _).symm,(Rat.mul_one _).symm⟩
theorem Uu(h:0<c):Su.rat ((c:Nat):Rat)≠0:=λe=>by
 have:=congrArg Su.p e
 have:=Rat.natCast_inj.1 (show((c:Nat):Rat)=((0:Nat):Rat) from this)
 omega
theorem uK{q:QD}(h:bQ q):Zs (Z1 q):=by
 obtain⟨d,f,c,e⟩:=TY h;exact jG (Uu f) e.ins (PQ c) (by omega)
theorem Wo{l:List (Int×Int)}(g:l.length≤1000):gc (Fs l) (∀r,r ∈ l→bR r):=by
 unfold Fs;refine(Gj (Q:=True) (GH l.length (by omega) (λk=>∀r,l[k]?= some r→bR r) (λk c=>?_) ?_) (λ_=>DN trivial) rfl).congr ⟨λh r d=>?_,λh=>⟨λk c r d=>h r (mG d),trivial⟩⟩
 ·rw[eo (by omega),Ze,Zz c,Za];have f:(dV (decide ((1048576:Int)<max l[k].1 l[k].2)) (some true) (some (decide (min l[k].1 l[k].2<(-1048576:Int)))))=some (decide (¬bR l[k])):=by
   unfold bR;by_cases h:(1048576:Int)<max l[k].1 l[k].2
   ·rw[eo h,Ze,eo (by omega)]
   ·rw[eg h,Zf];congr 1;rw[decide_eq_decide];omega
  rw[f,Za];by_cases h:bR l[k]
  ·refine .inl ⟨λr d=>by rw[List.getElem?_eq_getElem c]at d;cases d;exact h,?_⟩;rw[eg (λe=>e h),Zf,Zk (by omega) (by omega),Za];rfl
  ·exact .inr ⟨λe=>h (e _ (List.getElem?_eq_getElem c)),by rw[eo h,Ze]⟩
 ·rw[eg (by omega),Zf]
 ·obtain⟨k,c,e⟩:=List.mem_iff_getElem.1 d;exact h.1 k c r (by rw[List.getElem?_eq_getElem c,e])
theorem KF{l:List QD}(g:l.length≤1000):gc (qh l) (∀q,q ∈ l→bQ q):=by
 unfold qh;refine(Gj (Q:=True) (GH l.length (by omega) (λk=>∀r,l[k]?= some r→bQ r) (λk c=>?_) ?_) (λ_=>DN trivial) rfl).congr ⟨λh r d=>?_,λh=>⟨λk c r d=>h r (mG d),trivial⟩⟩
 ·rw[eo (by omega),Ze,Zz c,Za];obtain⟨b,e,f⟩:=Wo (l:=[l[k].1,l[k].2.1,l[k].2.2.1,l[k].2.2.2]) (by simp);have f:b=true↔bQ l[k]:=by
   rw[f];unfold bQ;simp
  rw[e,Za]
  cases b with
  |true=>exact .inl ⟨λr d=>by rw[List.getElem?_eq_getElem c]at d;cases d;exact f.1 rfl,by rw[show(!true)=false from rfl,Zf,Zk (by omega) (by omega),Za];rfl⟩
  |false=>exact .inr ⟨λe=>(by have:=f.2 (e _ (List.getElem?_eq_getElem c));cases this),by rw[show(!false)=true from rfl,Ze]⟩
 ·rw[eg (by omega),Zf]
 ·obtain⟨k,c,e⟩:=List.mem_iff_getElem.1 d;exact h.1 k c r (by rw[List.getElem?_eq_getElem c,e])
theorem J3{l:List QD}(h:∀q,q ∈ l→bQ q)(j:l.length≤1000):A7 l=some (l.map Z1,l.map λq=>ts (Z1 q)):=by
 unfold A7
 let d:Nat→(List Su)×(List (Rat×Rat×Rat×Rat))×Int:=λk=>((l.take k).map Z1,(l.take k).map (λq=>ts (Z1 q)),(k:Int))
 refine Zu (y:=(l.map Z1,l.map λq=>ts (Z1 q))) (fL d l.length rfl (by omega) (λk c=>?_) ?_) rfl
 ·have g:l.take (k+1)=l.take k++[l[k]]:=by rw[List.take_succ_eq_append_getElem c]
  have e:GI l[k]=some (Z1 l[k]):=by
   unfold GI qF Id;rw[Za,Za,Za,Za];rw[iP (show Sz fZ ⟨kN l[k].1,kN l[k].2.1,kN l[k].2.2.1,kN l[k].2.2.2⟩ from uK (h _ (List.getElem_mem c))),Za];rfl
  have f:H6 l[k]=some (ts (Z1 l[k])):=by
   unfold H6 oI;rw[Za,Za,Za,Za];rfl
  have i:min k l.length=k:=by omega
  simp only[d];rw[eo (by omega),Ze,Zz c,Za,e,Za,ii (by simp only[lA,List.length_map,List.length_take,List.length_singleton];omega),Za,f,Za,ii (by simp only[lA,List.length_map,List.length_take,List.length_singleton];omega),Za,Zk (by omega) (by omega),Za,g,List.map_append,List.map_append];rfl
 ·simp only[d];rw[eg (by omega),Zf,List.take_length]
theorem WD{x:Su}(h:Zs x):wb x=some (ts x):=by
 obtain⟨d,e,f,g⟩:=h.S4;have c:fZ≤1000000000:=by decide
 unfold wb FN;rw[iP h,Za];simp only;rw[F5 d c,Za,F5 e c,Za,F5 f c,Za,F5 g c,Za];rfl
noncomputable def wK(x:Rat)(y:Rat):Option Rat :=
 some y
noncomputable def ja(n:Int):Option Rat :=
 dU (vk n) λa=>
 dU (wK (0:Rat) a) λb=>
 some b
noncomputable def JK(m:List (List Rat)):Option ((List (List Rat))×(List Int)×Rat) :=
 dU (mk 24 (m.length:Int) (m.length:Int)) λ_=>
 dU (Zg (σ:=Int×(List (List Rat))) (ρ:=List (List Rat)) (λe=>
 dV (decide (e.1<(m.length:Int)))
 (dU (dX m e.1) λr=>
 dU (j9 56 r) λs=>
 dU (dX e.2 e.1) λy4=>
 dU (chk .i64 (e.1+(1:Int))) λt=>
 some (.inl (t,e.2.set e.1.toNat s)))
 (some (.inr e.2)))
  Zh ((0:Int),List.replicate (m.length:Int).toNat ([]:List Rat))) λi=>
 dU (ja (1:Int)) λu=>
 dU (α:=Int)
 (dV ((i.length:Int)==(0:Int))
 (some (0:Int))
 (dU (dX i (0:Int)) λv=>
 some (v.length:Int))) λw=>
 dU (Zg (σ:=(List Int)×Int×(List (List Rat))×Rat) (ρ:=(List Int)×(List (List Rat))×Rat) (λa=>
 dV (decide (a.2.1<w))
 (dU (α:=(List Int)×(List (List Rat))×Rat)
 (dU (Zg (σ:=Int) (ρ:=Int) (λg=>
 dU (α:=Bool)
 (dV (decide (g<(a.2.2.1.length:Int)))
 (dU (dX a.2.2.1 g) λx=>
 dU (dX x a.2.1) λy=>
 dU (m9 y) λz=>
 some z)
 (some false)) λA=>
 dV A
 (dU (chk .i64 (g+(1:Int))) λB=>
 some (.inl B))
 (some (.inr g)))
      Zh (a.1.length:Int)) λf=>
 dV (f==(a.2.2.1.length:Int))
 (dU (ja (0:Int)) λC=>
 some (a.1,a.2.2.1,C))
 (dU (α:=(List (List Rat))×Rat)
 (dV (f != (a.1.length:Int))
 (dU (dX a.2.2.1 (a.1.length:Int)) λab=>
 dU (dX a.2.2.1 f) λac=>
 dU (dX a.2.2.1 f) λad=>
 dU (dX a.2.2.1 (a.1.length:Int)) λae=>
 dU (jY ((a.1.length:Int).toNat) ((a.1.length:Int).toNat)) λ_=>
 dU (jY f.toNat f.toNat) λ_=>
 dU (mD a.2.2.2) λD=>
 some (nF a.2.2.1 f.toNat ((a.1.length:Int).toNat),D))
 (some (a.2.2.1,a.2.2.2))) λh=>
 dU (dX h.1 (a.1.length:Int)) λE=>
 dU (dX E a.2.1) λl=>
 dU (jm h.2 l) λF=>
 dU (dX h.1 (a.1.length:Int)) λG=>
 dU (Zg (σ:=Int×(List (List Rat))) (ρ:=List (List Rat)) (λd=>
 dV (decide (d.1<(G.length:Int)))
 (dU (dX d.2 (a.1.length:Int)) λn=>
 dU (dX d.2 (a.1.length:Int)) λH=>
 dU (dX H d.1) λI=>
 dU (Ca I l) λJ=>
 dU (dX n d.1) λaf=>
 dU (chk .i64 (d.1+(1:Int))) λK=>
 some (.inl (K,d.2.set ((a.1.length:Int).toNat) (n.set d.1.toNat J.1))))
 (some (.inr d.2)))
       Zh ((0:Int),h.1)) λo=>
 dU (Zg (σ:=Int×(List (List Rat))) (ρ:=List (List Rat)) (λb=>
 dV (decide (b.1<(o.length:Int)))
 (dU (α:=List (List Rat))
 (dU (dX b.2 b.1) λL=>
 dU (dX L a.2.1) λp=>
 dU (α:=Bool)
 (dV (b.1==(a.1.length:Int))
 (some true)
 (dU (m9 p) λM=>
 some M)) λN=>
 dV N
 (some b.2)
 (dU (dX b.2 b.1) λO=>
 dU (Zg (σ:=Int×(List (List Rat))) (ρ:=List (List Rat)) (λc=>
 dV (decide (c.1<(O.length:Int)))
 (dU (dX c.2 b.1) λq=>
 dU (dX c.2 b.1) λP=>
 dU (dX P c.1) λQ=>
 dU (dX c.2 (a.1.length:Int)) λR=>
 dU (dX R c.1) λS=>
 dU (jm p S) λT=>
 dU (pI Q T) λU=>
 dU (dX q c.1) λag=>
 dU (chk .i64 (c.1+(1:Int))) λV=>
 some (.inl (V,c.2.set b.1.toNat (q.set c.1.toNat U))))
 (some (.inr c.2)))
            Zh ((0:Int),b.2)) λW=>
 some W)) λX=>
 dU (chk .i64 (b.1+(1:Int))) λY=>
 some (.inl (Y,X)))
 (some (.inr b.2)))
       Zh ((0:Int),o)) λZ=>
 dU (ZE 8 (a.1++[a.2.1])) λ_=>
 some (a.1++[a.2.1],Z,F))) λj=>
 dU (chk .i64 (a.2.1+(1:Int))) λaa=>
 some (.inl (j.1,aa,j.2.1,j.2.2)))
 (some (.inr (a.1,a.2.2.1,a.2.2.2))))
  Zh (([]:List Int),(0:Int),i,u)) λk=>
 some (k.2.1,k.1,k.2.2)
noncomputable def Hz(m:List (List Rat)):Option Int :=
 dV ((m.length:Int)==(0:Int))
 (some (0:Int))
 (dU (dX m (0:Int)) λa=>
 some (a.length:Int))
noncomputable def Nj(m:List (List Rat)):Option Bool :=
 dU (Hz m) λb=>
 dU (α:=Bool)
 (dV (decide ((m.length:Int)≤(32:Int)))
 (dV (decide (b≤(32:Int)))
 (dU (α:=Int)
 (dU (Zg (σ:=Int) (ρ:=Unit ⊕ Int) (λa=>
 dV (decide (a<(m.length:Int)))
 (dU (dX m a) λc=>
 dV ((c.length:Int) != b)
 (some (.inr (.inr a)))
 (dU (chk .i64 (a+(1:Int))) λd=>
 some (.inl d)))
 (some (.inr (.inl ()))))
      Zh (0:Int)) λe=>
     match e with
|.inl i=>(some (-1:Int))
|.inr f=>(some f)) λg=>
 some (!(decide ((0:Int)≤g))))
 (some false))
 (some false)) λh=>
 some h
noncomputable def Pc(m:List (List Rat)):Option ((List (List Rat))×(List Int)×Int) :=
 dU (Nj m) λb=>
 dV (!b)
 (some (([]:List (List Rat)),([]:List Int),(4:Int)))
 (dU (JK m) λa=>
 some (a.1,a.2.1,(0:Int)))
noncomputable def Ud(l:(List Int))(v:Int):Option (Int) :=
 dU (dU (Zg (λs:Int=>match s with
|a=>
 (dV (decide (a<(l.length:Int)))
 (dU (dX l a) λb=>
 dV (v==b)
 (some (.inr ((.inl a))))
 (dU (chk .i64 (a+(1:Int))) λc=>
 some (.inl c)))
 (some (.inr ((.inr (()))))))) Zh (0:Int))
 (λ(p:(Int) ⊕ (Unit))=>match p with
|.inl d=>
 (some ((.inr d)))
|.inr (())=>
 (some ((.inl (()))))))
 (λ(p:(Unit) ⊕ (Int))=>match p with
|.inl (())=>
 (some (-1:Int))
|.inr e=>
 (some e))
noncomputable def P5(l:(List Int))(v:Int):Option (Bool) :=
 dU (Ud l v) λa=>
 some (decide ((0:Int)≤a))
noncomputable def ST(m:List (List Rat)):Option ((List (List Rat))×Int) :=
 dU (Nj m) λg=>
 dV (!g)
 (some (([]:List (List Rat)),(4:Int)))
 (dU (JK m) λc=>
 dU (Hz m) λh=>
 dU (Zg (σ:=(List (List Rat))×Int) (ρ:=List (List Rat)) (λa=>
 dV (decide (a.2<h))
 (dU (α:=List (List Rat))
 (dU (P5 c.2.1 a.2) λi=>
 dV i
 (some a.1)
 (dU (Hz m) λj=>
 dU (ja (0:Int)) λk=>
 dU (iY 56 [k] j) λd=>
 dU (ja (1:Int)) λl=>
 dU (dX d a.2) λu=>
 dU (Zg (σ:=Int×(List Rat)) (ρ:=List Rat) (λb=>
 dV (decide (b.1<(c.2.1.length:Int)))
 (dU (dX c.2.1 b.1) λe=>
 dU (dX c.1 b.1) λn=>
 dU (dX n a.2) λo=>
 dU (mD o) λp=>
 dU (dX b.2 e) λv=>
 dU (chk .i64 (b.1+(1:Int))) λq=>
 some (.inl (q,b.2.set e.toNat p)))
 (some (.inr b.2)))
        Zh ((0:Int),d.set a.2.toNat l)) λf=>
 dU (ZE 24 (a.1++[f])) λ_=>
 some (a.1++[f]))) λr=>
 dU (chk .i64 (a.2+(1:Int))) λs=>
 some (.inl (r,s)))
 (some (.inr a.1)))
   Zh (([]:List (List Rat)),(0:Int))) λt=>
 some (t,(0:Int)))
noncomputable def Kc(p:(List (List Rat))×(List Rat)×(List Rat)):Option Int :=
 dU (α:=Bool)
 (dV ((p.1.length:Int) != (p.2.1.length:Int))
 (some true)
 (dV (decide ((12:Int)<(p.2.1.length:Int)))
 (some true)
 (dV (decide ((48:Int)<(p.2.2.length:Int)))
 (some true)
 (dU (α:=Int)
 (dU (Zg (σ:=Int) (ρ:=Unit ⊕ Int) (λa=>
 dV (decide (a<(p.1.length:Int)))
 (dU (dX p.1 a) λb=>
 dV ((b.length:Int) != (p.2.2.length:Int))
 (some (.inr (.inr a)))
 (dU (chk .i64 (a+(1:Int))) λc=>
 some (.inl c)))
 (some (.inr (.inl ()))))
       Zh (0:Int)) λd=>
      match d with
|.inl h=>(some (-1:Int))
|.inr e=>(some e)) λf=>
 some (decide ((0:Int)≤f)))))) λg=>
 dV g
 (some (4:Int))
 (some (0:Int))
noncomputable def G2(x:List Rat)(y:List Rat):Option Bool :=
 dU (Zg (σ:=Int) (ρ:=Unit ⊕ Bool) (λa=>
 dV (decide (a<(x.length:Int)))
 (dU (dX x a) λb=>
 dU (dX y a) λc=>
 dU (Cb b c) λd=>
 dV (decide ((0:Int)<d))
 (some (.inr (.inr false)))
 (dU (chk .i64 (a+(1:Int))) λe=>
 some (.inl e)))
 (some (.inr (.inl ()))))
  Zh (0:Int)) λf=>
 match f with
|.inl h=>(some true)
|.inr g=>(some g)
noncomputable def A0(x:List Rat)(y:List Rat):Option Rat :=
 dU (ja (0:Int)) λb=>
 dU (Zg (σ:=Int×Rat) (ρ:=Rat) (λa=>
 dV (decide (a.1<(x.length:Int)))
 (dU (dX x a.1) λc=>
 dU (dX y a.1) λd=>
 dU (jm c d) λe=>
 dU (pf a.2 e) λf=>
 dU (chk .i64 (a.1+(1:Int))) λg=>
 some (.inl (g,f)))
 (some (.inr a.2)))
  Zh ((0:Int),b)) λh=>
 some h
noncomputable def A4(x:List Rat):Option Bool :=
 dU (α:=Int)
 (dU (Zg (σ:=Int) (ρ:=Unit ⊕ Int) (λa=>
 dV (decide (a<(x.length:Int)))
 (dU (dX x a) λb=>
 dU (lm b) λc=>
 dV (decide (c<(0:Int)))
 (some (.inr (.inr a)))
 (dU (chk .i64 (a+(1:Int))) λd=>
 some (.inl d)))
 (some (.inr (.inl ()))))
   Zh (0:Int)) λe=>
  match e with
|.inl h=>(some (-1:Int))
|.inr f=>(some f)) λg=>
 some (!(decide ((0:Int)≤g)))
noncomputable def KG(m:List (List Rat))(x:List Rat):Option (List Rat) :=
 dU (Zg (σ:=(List Rat)×Int) (ρ:=List Rat) (λa=>
 dV (decide (a.2<(m.length:Int)))
 (dU (dX m a.2) λc=>
 dU (A0 c x) λb=>
 dU (ZE 56 (a.1++[b])) λ_=>
 dU (chk .i64 (a.2+(1:Int))) λd=>
 some (.inl (a.1++[b],d)))
 (some (.inr a.1)))
  Zh (([]:List Rat),(0:Int))) λe=>
 some e
noncomputable def De(n:Int):Option (List Rat) :=
 dU (ja (0:Int)) λa=>
 dU (iY 56 [a] n) λb=>
 some b
noncomputable def Me(p:(List (List Rat))×(List Rat)×(List Rat))(y:List Rat):Option (List Rat) :=
 dU (De (p.2.2.length:Int)) λd=>
 dU (Zg (σ:=Int×(List Rat)) (ρ:=List Rat) (λb=>
 dV (decide (b.1<(p.1.length:Int)))
 (dU (dX p.1 b.1) λc=>
 dU (Zg (σ:=Int×(List Rat)) (ρ:=List Rat) (λa=>
 dV (decide (a.1<(c.length:Int)))
 (dU (dX c a.1) λe=>
 dU (dX a.2 a.1) λf=>
 dU (dX y b.1) λg=>
 dU (jm g e) λh=>
 dU (pf f h) λi=>
 dU (dX a.2 a.1) λn=>
 dU (chk .i64 (a.1+(1:Int))) λj=>
 some (.inl (j,a.2.set a.1.toNat i)))
 (some (.inr a.2)))
     Zh ((0:Int),b.2)) λk=>
 dU (chk .i64 (b.1+(1:Int))) λl=>
 some (.inl (l,k)))
 (some (.inr b.2)))
  Zh ((0:Int),d)) λm=>
 some m
noncomputable def OR(p:(List (List Rat))×(List Rat)×(List Rat))(y:List Rat):Option Bool :=
 dU (α:=Bool)
 (dV ((y.length:Int)==(p.2.1.length:Int))
 (dU (A4 y) λa=>
 dV a
 (dU (Me p y) λb=>
 dU (G2 p.2.2 b) λc=>
 some c)
 (some false))
 (some false)) λd=>
 some d
noncomputable def OO(p:(List (List Rat))×(List Rat)×(List Rat))(x:List Rat):Option Bool :=
 dU (α:=Bool)
 (dU (A4 x) λa=>
 dV a
 (dU (KG p.1 x) λb=>
 dU (G2 b p.2.1) λc=>
 some c)
 (some false)) λd=>
 some d
noncomputable def NY(x:Rat)(y:Rat):Option (Bool) :=
 dU (dV ((decide (x.num<0))==(decide (y.num<0)))
 (dU (nc ((x.num).natAbs) ((y.num).natAbs)) λa=>
 dV (a==(0:Int))
 (dU (nc ((ZJ x.den)) ((ZJ y.den))) λb=>
 some (b==(0:Int)))
 (some false))
 (some false))
 (λ(c:Bool)=>
 (some c))
noncomputable def OH(p:(List (List Rat))×(List Rat)×(List Rat))(a:Int×Rat×(List Rat)×(List Rat)×(List Rat)):Option Bool :=
 dU (Kc p) λc=>
 dV (c != (0:Int))
 (some false)
 (dU (α:=Bool)
 (dV ((a.2.2.1.length:Int)==(p.2.2.length:Int))
 (dU (OO p a.2.2.1) λd=>
 some d)
 (some false)) λb=>
 dV (a.1==(1:Int))
 (dU (α:=Bool)
 (dV b
 (dU (OR p a.2.2.2.1) λe=>
 dV e
 (dV ((a.2.2.2.2.length:Int)==(0:Int))
 (dU (A0 p.2.2 a.2.2.1) λf=>
 dU (Dg a.2.1 f) λg=>
 dV g
 (dU (A0 p.2.1 a.2.2.2.1) λh=>
 dU (Dg a.2.1 h) λi=>
 some i)
 (some false))
 (some false))
 (some false))
 (some false)) λj=>
 some j)
 (dV (a.1==(2:Int))
 (dU (α:=Bool)
 (dV ((a.2.2.1.length:Int)==(0:Int))
 (dV ((a.2.2.2.2.length:Int)==(0:Int))
 (dU (m9 a.2.1) λk=>
 dV k
 (dV ((a.2.2.2.1.length:Int)==(p.2.1.length:Int))
 (dU (A4 a.2.2.2.1) λl=>
 dV l
 (dU (Me p a.2.2.2.1) λm=>
 dU (A4 m) λn=>
 dV n
 (dU (A0 p.2.1 a.2.2.2.1) λo=>
 dU (lm o) λq=>
 some (decide (q<(0:Int))))
 (some false))
 (some false))
 (some false))
 (some false))
 (some false))
 (some false)) λr=>
 some r)
 (dV (a.1==(3:Int))
 (dU (α:=Bool)
 (dV (!b)
 (some true)
 (dV (decide ((0:Int)<(a.2.2.2.1.length:Int)))
 (some true)
 (dU (m9 a.2.1) λs=>
 dV (!s)
 (some true)
 (some ((a.2.2.2.2.length:Int) != (p.2.2.length:Int)))))) λt=>
 dV t
 (some false)
 (dU (α:=Bool)
 (dU (A4 a.2.2.2.2) λu=>
 dV u
 (dU (KG p.1 a.2.2.2.2) λv=>
 dU (De (p.2.1.length:Int)) λw=>
 dU (G2 v w) λx=>
 dV x
 (dU (A0 p.2.2 a.2.2.2.2) λy=>
 dU (lm y) λz=>
 some (decide ((0:Int)<z)))
 (some false))
 (some false)) λA=>
 some A))
 (some false))))
noncomputable def Rv(m:List (List Rat)):Option (List (List Rat)) :=
 dU (mk 24 (m.length:Int) (m.length:Int)) λ_=>
 dU (Zg (σ:=Int×(List (List Rat))) (ρ:=List (List Rat)) (λa=>
 dV (decide (a.1<(m.length:Int)))
 (dU (dX m a.1) λb=>
 dU (j9 56 b) λc=>
 dU (dX a.2 a.1) λf=>
 dU (chk .i64 (a.1+(1:Int))) λd=>
 some (.inl (d,a.2.set a.1.toNat c)))
 (some (.inr a.2)))
  Zh ((0:Int),List.replicate (m.length:Int).toNat ([]:List Rat))) λe=>
 some e
noncomputable def G6(t:(List (List Rat))×(List Rat)×(List Rat)×Rat×(List Int)×(List Int))(r:Int)(c:Int):Option (((List (List Rat))×(List Rat)×(List Rat)×Rat×(List Int)×(List Int))×Unit) :=
 dU (ja (1:Int)) λu=>
 dU (dX t.1 r) λv=>
 dU (dX v c) λw=>
 dU (Ca u w) λg=>
 dU (dX t.1 r) λx=>
 dU (Zg (σ:=Int×(List (List Rat))) (ρ:=List (List Rat)) (λe=>
 dV (decide (e.1<(x.length:Int)))
 (dU (dX e.2 r) λk=>
 dU (dX e.2 r) λy=>
 dU (dX y e.1) λz=>
 dU (jm z g.1) λA=>
 dU (dX k e.1) λaq=>
 dU (chk .i64 (e.1+(1:Int))) λB=>
 some (.inl (B,e.2.set r.toNat (k.set e.1.toNat A))))
 (some (.inr e.2)))
  Zh ((0:Int),t.1)) λh=>
 dU (dX h r) λi=>
 dU (dX i c) λar=>
 dU (dX t.2.1 r) λC=>
 dU (jm C g.1) λD=>
 dU (dX t.2.1 r) λau=>
 dU (Zg (σ:=Int×(List (List Rat))×(List Rat)) (ρ:=(List (List Rat))×(List Rat)) (λa=>
 dV (decide (a.1<((h.set r.toNat (i.set c.toNat g.1)).length:Int)))
 (dU (α:=(List (List Rat))×(List Rat))
 (dU (α:=Bool)
 (dV (a.1==r)
 (some true)
 (dU (dX a.2.1 a.1) λE=>
 dU (dX E c) λF=>
 dU (m9 F) λG=>
 some G)) λH=>
 dV H
 (some (a.2.1,a.2.2))
 (dU (dX a.2.1 a.1) λI=>
 dU (dX I c) λJ=>
 dU (dX a.2.2 a.1) λK=>
 dU (dX a.2.2 r) λL=>
 dU (jm J L) λM=>
 dU (pI K M) λN=>
 dU (dX a.2.2 a.1) λav=>
 dU (dX a.2.1 a.1) λl=>
 dU (dX l c) λm=>
 dU (Zg (σ:=Int×(List (List Rat))) (ρ:=List (List Rat)) (λb=>
 dV (decide (b.1<(l.length:Int)))
 (dU (dX b.2 ((a.1.toNat:Nat):Int)) λO=>
 dU (dX O b.1) λP=>
 dU (dX b.2 r) λQ=>
 dU (dX Q b.1) λR=>
 dU (jm m R) λS=>
 dU (pI P S) λT=>
 dU (dX b.2 ((a.1.toNat:Nat):Int)) λn=>
 dU (dX n b.1) λaw=>
 dU (chk .i64 (b.1+(1:Int))) λU=>
 some (.inl (U,b.2.set a.1.toNat (n.set b.1.toNat T))))
 (some (.inr b.2)))
       Zh ((0:Int),a.2.1)) λj=>
 dU (dX j r) λV=>
 dU (dX V c) λW=>
 dU (jm m W) λX=>
 dU (mD X) λY=>
 dU (dX j ((a.1.toNat:Nat):Int)) λo=>
 dU (dX o c) λax=>
 some (j.set a.1.toNat (o.set c.toNat Y),a.2.2.set a.1.toNat N))) λp=>
 dU (chk .i64 (a.1+(1:Int))) λZ=>
 some (.inl (Z,p.1,p.2)))
 (some (.inr (a.2.1,a.2.2))))
  Zh ((0:Int),h.set r.toNat (i.set c.toNat g.1),t.2.1.set r.toNat D)) λf=>
 dU (dX t.2.2.1 c) λaa=>
 dU (dX f.2 r) λab=>
 dU (jm aa ab) λac=>
 dU (pf t.2.2.2.1 ac) λad=>
 dU (dX t.2.2.1 c) λq=>
 dU (Zg (σ:=Int×(List Rat)) (ρ:=List Rat) (λd=>
 dV (decide (d.1<(t.2.2.1.length:Int)))
 (dU (dX d.2 d.1) λae=>
 dU (dX f.1 r) λaf=>
 dU (dX af d.1) λag=>
 dU (jm q ag) λah=>
 dU (pI ae ah) λai=>
 dU (dX d.2 d.1) λay=>
 dU (chk .i64 (d.1+(1:Int))) λaj=>
 some (.inl (aj,d.2.set d.1.toNat ai)))
 (some (.inr d.2)))
  Zh ((0:Int),t.2.2.1)) λs=>
 dU (dX f.1 r) λak=>
 dU (dX ak c) λal=>
 dU (jm q al) λam=>
 dU (mD am) λan=>
 dU (dX s c) λaz=>
 dU (dX t.2.2.2.2.2 c) λao=>
 dU (dX t.2.2.2.2.1 r) λap=>
 dU (dX t.2.2.2.2.1 r) λaA=>
 dU (dX t.2.2.2.2.2 c) λaB=>
 some ((f.1,f.2,s.set c.toNat an,ad,t.2.2.2.2.1.set r.toNat ao,t.2.2.2.2.2.set c.toNat ap),())
noncomputable def SH(t:(List (List Rat))×(List Rat)×(List Rat)×Rat×(List Int)×(List Int))(n:Int)(k:Int):Option (((List (List Rat))×(List Rat)×(List Rat)×Rat×(List Int)×(List Int))×(List Rat)) :=
 dU (ja (0:Int)) λd=>
 dU (iY 56 [d] k) λe=>
 dU (Zg (σ:=Int×(List Rat)) (ρ:=List Rat) (λa=>
 dV (decide (a.1<(t.2.2.2.2.2.length:Int)))
 (dU (dX t.2.2.2.2.2 a.1) λb=>
 dU (α:=Bool)
 (dV (decide (n≤b))
 (dU (chk .i64 (n+k)) λf=>
 some (decide (b<f)))
 (some false)) λg=>
 dU (α:=List Rat)
 (dV g
 (dU (chk .i64 (b-n)) λc=>
 dU (dX t.2.2.1 a.1) λh=>
 dU (mD h) λi=>
 dU (dX a.2 c) λo=>
 some (a.2.set c.toNat i))
 (some a.2)) λj=>
 dU (chk .i64 (a.1+(1:Int))) λl=>
 some (.inl (l,j)))
 (some (.inr a.2)))
  Zh ((0:Int),e)) λm=>
 some ((t.1,t.2.1,t.2.2.1,t.2.2.2.1,t.2.2.2.2.1,t.2.2.2.2.2),m)
noncomputable def QU(t:(List (List Rat))×(List Rat)×(List Rat)×Rat×(List Int)×(List Int)):Option (((List (List Rat))×(List Rat)×(List Rat)×Rat×(List Int)×(List Int))×Int) :=
 dU (Zg (σ:=Int×Int) (ρ:=Int) (λa=>
 dV (decide (a.2<(t.2.2.1.length:Int)))
 (dU (dX t.2.2.1 a.2) λb=>
 dU (α:=Bool)
 (dU (lm b) λc=>
 dV (decide ((0:Int)<c))
 (dV (decide (a.1<(0:Int)))
 (some true)
 (dU (dX t.2.2.2.2.2 a.2) λd=>
 dU (dX t.2.2.2.2.2 a.1) λe=>
 some (decide (d<e))))
 (some false)) λf=>
 dU (α:=Int)
 (dV f
 (some a.2)
 (some a.1)) λg=>
 dU (chk .i64 (a.2+(1:Int))) λh=>
 some (.inl (g,h)))
 (some (.inr a.1)))
  Zh ((-1:Int),(0:Int))) λi=>
 some ((t.1,t.2.1,t.2.2.1,t.2.2.2.1,t.2.2.2.2.1,t.2.2.2.2.2),i)
noncomputable def Tj(t:(List (List Rat))×(List Rat)×(List Rat)×Rat×(List Int)×(List Int))(c:Int)(w:Int):Option (((List (List Rat))×(List Rat)×(List Rat)×Rat×(List Int)×(List Int))×Int) :=
 dU (Zg (σ:=Int×Int×Rat) (ρ:=Int) (λa=>
 dV (decide (a.2.1<(t.1.length:Int)))
 (dU (α:=Int×Rat)
 (dU (dX t.1 a.2.1) λg=>
 dU (dX g c) λh=>
 dU (lm h) λi=>
 dV (decide (i≤(0:Int)))
 (some (a.1,a.2.2))
 (dU (dX t.2.1 a.2.1) λj=>
 dU (dX t.1 a.2.1) λk=>
 dU (dX k c) λl=>
 dU (Ca j l) λb=>
 dU (α:=Int)
 (dV (decide ((0:Int)≤a.1))
 (dU (Cb b.1 a.2.2) λm=>
 some m)
 (some (0:Int))) λd=>
 dU (α:=Bool)
 (dV (decide (a.1<(0:Int)))
 (some true)
 (dV (decide (d<(0:Int)))
 (some true)
 (dV (d==(0:Int))
 (dU (dX t.2.2.2.2.1 a.1) λn=>
 dV (n != w)
 (dU (dX t.2.2.2.2.1 a.2.1) λo=>
 dV (o==w)
 (some true)
 (dU (dX t.2.2.2.2.1 a.2.1) λp=>
 dU (dX t.2.2.2.2.1 a.1) λq=>
 some (decide (p<q))))
 (some false))
 (some false)))) λr=>
 dU (α:=Int×Rat)
 (dV r
 (some (a.2.1,b.1))
 (some (a.1,a.2.2))) λe=>
 some (e.1,e.2))) λf=>
 dU (chk .i64 (a.2.1+(1:Int))) λs=>
 some (.inl (f.1,s,f.2)))
 (some (.inr a.1)))
  Zh ((-1:Int),(0:Int),(0:Rat))) λu=>
 some ((t.1,t.2.1,t.2.2.1,t.2.2.2.1,t.2.2.2.2.1,t.2.2.2.2.2),u)
noncomputable def Mm(t:(List (List Rat))×(List Rat)×(List Rat)×Rat×(List Int)×(List Int))(f:Int):Option (((List (List Rat))×(List Rat)×(List Rat)×Rat×(List Int)×(List Int))×Int) :=
 dU (Zg (σ:=(List (List Rat))×(List Rat)×(List Rat)×Rat×(List Int)×(List Int)) (ρ:=Int×((List (List Rat))×(List Rat)×(List Rat)×Rat×(List Int)×(List Int))) (λd=>
 dU (QU (d.1,d.2.1,d.2.2.1,d.2.2.2.1,d.2.2.2.2.1,d.2.2.2.2.2)) λa=>
 dV (decide (a.2<(0:Int)))
 (some (.inr ((-1:Int),a.1.1,a.1.2.1,a.1.2.2.1,a.1.2.2.2.1,a.1.2.2.2.2.1,a.1.2.2.2.2.2)))
 (dU (Tj (a.1.1,a.1.2.1,a.1.2.2.1,a.1.2.2.2.1,a.1.2.2.2.2.1,a.1.2.2.2.2.2) a.2 f) λb=>
 dV (decide (b.2<(0:Int)))
 (some (.inr (a.2,b.1.1,b.1.2.1,b.1.2.2.1,b.1.2.2.2.1,b.1.2.2.2.2.1,b.1.2.2.2.2.2)))
 (dU (G6 (b.1.1,b.1.2.1,b.1.2.2.1,b.1.2.2.2.1,b.1.2.2.2.2.1,b.1.2.2.2.2.2) b.2 a.2) λe=>
 some (.inl (e.1.1,e.1.2.1,e.1.2.2.1,e.1.2.2.2.1,e.1.2.2.2.2.1,e.1.2.2.2.2.2)))))
  Zh (t.1,t.2.1,t.2.2.1,t.2.2.2.1,t.2.2.2.2.1,t.2.2.2.2.2)) λc=>
 some ((c.2.1,c.2.2.1,c.2.2.2.1,c.2.2.2.2.1,c.2.2.2.2.2.1,c.2.2.2.2.2.2),c.1)
noncomputable def TO(t:(List (List Rat))×(List Rat)×(List Rat)×Rat×(List Int)×(List Int))(p:(List (List Rat))×(List Rat)×(List Rat)):Option (((List (List Rat))×(List Rat)×(List Rat)×Rat×(List Int)×(List Int))×(List Rat)×Bool) :=
 dU (chk .i64 ((p.2.2.length:Int)+(p.2.1.length:Int))) λm=>
 dU (Zg (σ:=Int×Int) (ρ:=Int) (λf=>
 dV (decide (f.2<(t.2.1.length:Int)))
 (dU (dX t.2.1 f.2) λy=>
 dU (α:=Bool)
 (dU (lm y) λI=>
 dV (decide (I<(0:Int)))
 (dV (decide (f.1<(0:Int)))
 (some true)
 (dU (dX t.2.1 f.1) λJ=>
 dU (Cb y J) λK=>
 some (decide (K<(0:Int)))))
 (some false)) λL=>
 dU (α:=Int)
 (dV L
 (some f.2)
 (some f.1)) λM=>
 dU (chk .i64 (f.2+(1:Int))) λN=>
 some (.inl (M,N)))
 (some (.inr f.1)))
  Zh ((-1:Int),(0:Int))) λz=>
 dV (decide (z<(0:Int)))
 (some ((t.1,t.2.1,t.2.2.1,t.2.2.2.1,t.2.2.2.2.1,t.2.2.2.2.2),([]:List Rat),true))
 (dU (Zg (σ:=Int×(List (List Rat))) (ρ:=List (List Rat)) (λc=>
 dV (decide (c.1<(t.1.length:Int)))
 (dU (dX c.2 c.1) λA=>
 dU (ja (-1:Int)) λB=>
 dU (ZE 56 (A++[B])) λ_=>
 dU (dX c.2 c.1) λaL=>
 dU (jY c.1.toNat c.1.toNat) λ_=>
 dU (chk .i64 (c.1+(1:Int))) λO=>
 some (.inl (O,c.2.set c.1.toNat (A++[B]))))
 (some (.inr c.2)))
   Zh ((0:Int),t.1)) λP=>
 dU (ZE 8 (t.2.2.2.2.2++[m])) λ_=>
 dU (ja (0:Int)) λQ=>
 dU (iY 56 [Q] (p.2.2.length:Int)) λC=>
 dU (ja (-1:Int)) λD=>
 dU (ZE 56 (C++[D])) λ_=>
 dU (G6 (P,t.2.1,C++[D],t.2.2.2.1,t.2.2.2.2.1,t.2.2.2.2.2++[m]) z (p.2.2.length:Int)) λi=>
 dU (Mm (i.1.1,i.1.2.1,i.1.2.2.1,i.1.2.2.2.1,i.1.2.2.2.2.1,i.1.2.2.2.2.2) m) λb=>
 dU (lm b.1.2.2.2.1) λR=>
 dV (decide (R<(0:Int)))
 (dU (SH (b.1.1,b.1.2.1,b.1.2.2.1,b.1.2.2.2.1,b.1.2.2.2.2.1,b.1.2.2.2.2.2) (p.2.2.length:Int) (p.2.1.length:Int)) λg=>
 some ((g.1.1,g.1.2.1,g.1.2.2.1,g.1.2.2.2.1,g.1.2.2.2.2.1,g.1.2.2.2.2.2),g.2,false))
 (dU (α:=Int)
 (dU (Zg (σ:=Int) (ρ:=Unit ⊕ Int) (λn=>
 dV (decide (n<(b.1.2.2.2.2.1.length:Int)))
 (dU (dX b.1.2.2.2.2.1 n) λS=>
 dV (m==S)
 (some (.inr (.inr n)))
 (dU (chk .i64 (n+(1:Int))) λT=>
 some (.inl T)))
 (some (.inr (.inl ()))))
     Zh (0:Int)) λU=>
    match U with
|.inl aM=>(some (-1:Int))
|.inr V=>(some V)) λw=>
 dU (α:=(List (List Rat))×(List Rat)×(List Rat)×Rat×(List Int)×(List Int))
 (dV (decide ((0:Int)≤w))
 (dU (dX b.1.1 w) λE=>
 dU (α:=Int)
 (dU (Zg (σ:=Int) (ρ:=Unit ⊕ Int) (λo=>
 dV (decide (o<(E.length:Int)))
 (dU (dX E o) λW=>
 dU (m9 W) λX=>
 dV (!X)
 (some (.inr (.inr o)))
 (dU (chk .i64 (o+(1:Int))) λY=>
 some (.inl Y)))
 (some (.inr (.inl ()))))
       Zh (0:Int)) λZ=>
      match Z with
|.inl aN=>(some (-1:Int))
|.inr aa=>(some aa)) λab=>
 dU (G6 (b.1.1,b.1.2.1,b.1.2.2.1,b.1.2.2.2.1,b.1.2.2.2.2.1,b.1.2.2.2.2.2) w ab) λj=>
 some (j.1.1,j.1.2.1,j.1.2.2.1,j.1.2.2.2.1,j.1.2.2.2.2.1,j.1.2.2.2.2.2))
 (some (b.1.1,b.1.2.1,b.1.2.2.1,b.1.2.2.2.1,b.1.2.2.2.2.1,b.1.2.2.2.2.2))) λh=>
 dU (α:=Int)
 (dU (Zg (σ:=Int) (ρ:=Unit ⊕ Int) (λq=>
 dV (decide (q<(h.2.2.2.2.2.length:Int)))
 (dU (dX h.2.2.2.2.2 q) λac=>
 dV (m==ac)
 (some (.inr (.inr q)))
 (dU (chk .i64 (q+(1:Int))) λad=>
 some (.inl ad)))
 (some (.inr (.inl ()))))
     Zh (0:Int)) λae=>
    match ae with
|.inl aO=>(some (-1:Int))
|.inr af=>(some af)) λr=>
 dU (chk .i64 (r+(1:Int))) λag=>
 dU (kn h.2.2.2.2.2 r ag) λF=>
 dU (Zg (σ:=Int×(List (List Rat))) (ρ:=List (List Rat)) (λd=>
 dV (decide (d.1<(h.1.length:Int)))
 (dU (dX d.2 d.1) λah=>
 dU (chk .i64 (r+(1:Int))) λai=>
 dU (kn ah r ai) λaj=>
 dU (dX d.2 d.1) λaP=>
 dU (jY d.1.toNat d.1.toNat) λ_=>
 dU (chk .i64 (d.1+(1:Int))) λak=>
 some (.inl (ak,d.2.set d.1.toNat aj)))
 (some (.inr d.2)))
    Zh ((0:Int),h.1)) λal=>
 dU (ja (0:Int)) λam=>
 dU (iY 56 [am] (F.length:Int)) λan=>
 dU (ja (0:Int)) λao=>
 dU (Zg (σ:=Int×((List (List Rat))×(List Rat)×(List Rat)×Rat×(List Int)×(List Int))) (ρ:=(List (List Rat))×(List Rat)×(List Rat)×Rat×(List Int)×(List Int)) (λa=>
 dV (decide (a.1<(p.2.2.length:Int)))
 (dU (α:=(List (List Rat))×(List Rat)×(List Rat)×Rat×(List Int)×(List Int))
 (dU (dX p.2.2 a.1) λx=>
 dU (α:=Int)
 (dU (Zg (σ:=Int) (ρ:=Unit ⊕ Int) (λs=>
 dV (decide (s<(a.2.2.2.2.2.2.length:Int)))
 (dU (dX a.2.2.2.2.2.2 s) λap=>
 dV (a.1==ap)
 (some (.inr (.inr s)))
 (dU (chk .i64 (s+(1:Int))) λaq=>
 some (.inl aq)))
 (some (.inr (.inl ()))))
         Zh (0:Int)) λar=>
        match ar with
|.inl aQ=>(some (-1:Int))
|.inr au=>(some au)) λu=>
 dV (decide ((0:Int)≤u))
 (dU (dX a.2.2.2.1 u) λav=>
 dU (pf av x) λaw=>
 dU (dX a.2.2.2.1 u) λaR=>
 some (a.2.1,a.2.2.1,a.2.2.2.1.set u.toNat aw,a.2.2.2.2.1,a.2.2.2.2.2.1,a.2.2.2.2.2.2))
 (dU (α:=Int)
 (dU (Zg (σ:=Int) (ρ:=Unit ⊕ Int) (λv=>
 dV (decide (v<(a.2.2.2.2.2.1.length:Int)))
 (dU (dX a.2.2.2.2.2.1 v) λax=>
 dV (a.1==ax)
 (some (.inr (.inr v)))
 (dU (chk .i64 (v+(1:Int))) λay=>
 some (.inl ay)))
 (some (.inr (.inl ()))))
          Zh (0:Int)) λaz=>
         match az with
|.inl aS=>(some (-1:Int))
|.inr aA=>(some aA)) λG=>
 dU (dX a.2.2.1 G) λaB=>
 dU (jm x aB) λaC=>
 dU (pf a.2.2.2.2.1 aC) λaD=>
 dU (dX a.2.1 G) λH=>
 dU (Zg (σ:=Int×(List Rat)) (ρ:=List Rat) (λe=>
 dV (decide (e.1<(H.length:Int)))
 (dU (dX H e.1) λaE=>
 dU (dX e.2 e.1) λaF=>
 dU (jm x aE) λaG=>
 dU (pI aF aG) λaH=>
 dU (dX e.2 e.1) λaT=>
 dU (chk .i64 (e.1+(1:Int))) λaI=>
 some (.inl (aI,e.2.set e.1.toNat aH)))
 (some (.inr e.2)))
         Zh ((0:Int),a.2.2.2.1)) λaJ=>
 some (a.2.1,a.2.2.1,aJ,aD,a.2.2.2.2.2.1,a.2.2.2.2.2.2))) λk=>
 dU (chk .i64 (a.1+(1:Int))) λaK=>
 some (.inl (aK,k.1,k.2.1,k.2.2.1,k.2.2.2.1,k.2.2.2.2.1,k.2.2.2.2.2)))
 (some (.inr (a.2.1,a.2.2.1,a.2.2.2.1,a.2.2.2.2.1,a.2.2.2.2.2.1,a.2.2.2.2.2.2))))
    Zh ((0:Int),al,h.2.1,an,ao,h.2.2.2.2.1,F)) λl=>
 some ((l.1,l.2.1,l.2.2.1,l.2.2.2.1,l.2.2.2.2.1,l.2.2.2.2.2),([]:List Rat),true)))
noncomputable def RD(t:(List (List Rat))×(List Rat)×(List Rat)×Rat×(List Int)×(List Int))(n:Int)(k:Int):Option (List Rat) :=
 dU (De k) λd=>
 dU (Zg (σ:=Int×(List Rat)) (ρ:=List Rat) (λa=>
 dV (decide (a.1<(t.2.2.2.2.2.length:Int)))
 (dU (dX t.2.2.2.2.2 a.1) λb=>
 dU (α:=Bool)
 (dV (decide (n≤b))
 (dU (chk .i64 (n+k)) λe=>
 some (decide (b<e)))
 (some false)) λf=>
 dU (α:=List Rat)
 (dV f
 (dU (chk .i64 (b-n)) λc=>
 dU (dX t.2.2.1 a.1) λg=>
 dU (mD g) λh=>
 dU (dX a.2 c) λm=>
 some (a.2.set c.toNat h))
 (some a.2)) λi=>
 dU (chk .i64 (a.1+(1:Int))) λj=>
 some (.inl (j,i)))
 (some (.inr a.2)))
  Zh ((0:Int),d)) λl=>
 some l
noncomputable def Jg(t:(List (List Rat))×(List Rat)×(List Rat)×Rat×(List Int)×(List Int))(n:Int):Option (List Rat) :=
 dU (De n) λc=>
 dU (Zg (σ:=Int×(List Rat)) (ρ:=List Rat) (λa=>
 dV (decide (a.1<(t.2.2.2.2.1.length:Int)))
 (dU (dX t.2.2.2.2.1 a.1) λb=>
 dU (α:=List Rat)
 (dV (decide (b<n))
 (dU (dX t.2.1 a.1) λd=>
 dU (dX a.2 b) λh=>
 some (a.2.set b.toNat d))
 (some a.2)) λe=>
 dU (chk .i64 (a.1+(1:Int))) λf=>
 some (.inl (f,e)))
 (some (.inr a.2)))
  Zh ((0:Int),c)) λg=>
 some g
noncomputable def Oq(p:(List (List Rat))×(List Rat)×(List Rat)):Option (Int×Rat×(List Rat)×(List Rat)×(List Rat)) :=
 dU (Rv p.1) λn=>
 dU (j9 56 p.2.1) λo=>
 dU (j9 56 p.2.2) λq=>
 dU (ja (0:Int)) λr=>
 dU (Zg (σ:=Int×((List (List Rat))×(List Rat)×(List Rat)×Rat×(List Int)×(List Int))) (ρ:=(List (List Rat))×(List Rat)×(List Rat)×Rat×(List Int)×(List Int)) (λa=>
 dV (decide (a.1<(p.2.2.length:Int)))
 (dU (ZE 8 (a.2.2.2.2.2.2++[a.1])) λ_=>
 dU (chk .i64 (a.1+(1:Int))) λs=>
 some (.inl (s,a.2.1,a.2.2.1,a.2.2.2.1,a.2.2.2.2.1,a.2.2.2.2.2.1,a.2.2.2.2.2.2++[a.1])))
 (some (.inr (a.2.1,a.2.2.1,a.2.2.2.1,a.2.2.2.2.1,a.2.2.2.2.2.1,a.2.2.2.2.2.2))))
  Zh ((0:Int),n,o,q,r,([]:List Int),([]:List Int))) λg=>
 dU (Zg (σ:=Int×((List (List Rat))×(List Rat)×(List Rat)×Rat×(List Int)×(List Int))) (ρ:=(List (List Rat))×(List Rat)×(List Rat)×Rat×(List Int)×(List Int)) (λb=>
 dV (decide (b.1<(p.2.1.length:Int)))
 (dU (chk .i64 ((p.2.2.length:Int)+b.1)) λl=>
 dU (ZE 8 (b.2.2.2.2.2.1++[l])) λ_=>
 dU (chk .i64 (b.1+(1:Int))) λt=>
 some (.inl (t,b.2.1,b.2.2.1,b.2.2.2.1,b.2.2.2.2.1,b.2.2.2.2.2.1++[l],b.2.2.2.2.2.2)))
 (some (.inr (b.2.1,b.2.2.1,b.2.2.2.1,b.2.2.2.2.1,b.2.2.2.2.2.1,b.2.2.2.2.2.2))))
  Zh ((0:Int),g.1,g.2.1,g.2.2.1,g.2.2.2.1,g.2.2.2.2.1,g.2.2.2.2.2)) λh=>
 dU (ja (0:Int)) λm=>
 dU (TO (h.1,h.2.1,h.2.2.1,h.2.2.2.1,h.2.2.2.2.1,h.2.2.2.2.2) p) λd=>
 dV (!d.2.2)
 (some ((2:Int),m,([]:List Rat),d.2.1,([]:List Rat)))
 (dU (α:=((List (List Rat))×(List Rat)×(List Rat)×Rat×(List Int)×(List Int))×Int)
 (dU (Mm (d.1.1,d.1.2.1,d.1.2.2.1,d.1.2.2.2.1,d.1.2.2.2.2.1,d.1.2.2.2.2.2) (-1:Int)) λf=>
 some ((f.1.1,f.1.2.1,f.1.2.2.1,f.1.2.2.2.1,f.1.2.2.2.2.1,f.1.2.2.2.2.2),f.2)) λc=>
 dV (decide (c.2<(0:Int)))
 (dU (Jg c.1 (p.2.2.length:Int)) λu=>
 dU (RD c.1 (p.2.2.length:Int) (p.2.1.length:Int)) λv=>
 some ((1:Int),c.1.2.2.2.1,u,v,([]:List Rat)))
 (dU (ja (0:Int)) λw=>
 dU (iY 56 [w] (p.2.2.length:Int)) λi=>
 dU (dX c.1.2.2.2.2.2 c.2) λj=>
 dU (α:=List Rat)
 (dV (decide (j<(p.2.2.length:Int)))
 (dU (ja (1:Int)) λx=>
 dU (dX i j) λG=>
 some (i.set j.toNat x))
 (some i)) λy=>
 dU (Zg (σ:=Int×(List Rat)) (ρ:=List Rat) (λe=>
 dV (decide (e.1<(c.1.2.2.2.2.1.length:Int)))
 (dU (dX c.1.2.2.2.2.1 e.1) λk=>
 dU (α:=List Rat)
 (dV (decide (k<(p.2.2.length:Int)))
 (dU (dX c.1.1 e.1) λz=>
 dU (dX z c.2) λA=>
 dU (mD A) λB=>
 dU (dX e.2 k) λH=>
 some (e.2.set k.toNat B))
 (some e.2)) λC=>
 dU (chk .i64 (e.1+(1:Int))) λD=>
 some (.inl (D,C)))
 (some (.inr e.2)))
    Zh ((0:Int),y)) λE=>
 dU (Jg c.1 (p.2.2.length:Int)) λF=>
 some ((3:Int),m,F,([]:List Rat),E)))
noncomputable def Qp(p:(List (List Rat))×(List Rat)×(List Rat)):Option ((Int×Rat×(List Rat)×(List Rat)×(List Rat))×Int) :=
 dU (Kc p) λa=>
 dV (a != (0:Int))
 (some (((0:Int),(0:Rat),([]:List Rat),([]:List Rat),([]:List Rat)),a))
 (dU (Oq p) λb=>
 some (b,(0:Int)))
noncomputable def JZ(x:Rat):Option ((Rat×Rat×Rat×Rat)×Rat×Rat×Rat×Rat) :=
 dU (vD x) λa=>
 dU (fU (0:Int)) λb=>
 dU (vD b) λc=>
 some (a,c)
noncomputable def OE(x:(Rat×Rat×Rat×Rat)×Rat×Rat×Rat×Rat)(y:(Rat×Rat×Rat×Rat)×Rat×Rat×Rat×Rat):Option ((Rat×Rat×Rat×Rat)×Rat×Rat×Rat×Rat) :=
 dU (w9 x.1 y.1) λa=>
 dU (w9 x.2 y.2) λb=>
 some (a,b)
noncomputable def PC(x:(Rat×Rat×Rat×Rat)×Rat×Rat×Rat×Rat):Option Bool :=
 dU (α:=Bool)
 (dU (vu x.1) λa=>
 dV a
 (dU (vu x.2) λb=>
 some b)
 (some false)) λc=>
 some c
noncomputable def RJ(x:(Rat×Rat×Rat×Rat)×Rat×Rat×Rat×Rat)(y:(Rat×Rat×Rat×Rat)×Rat×Rat×Rat×Rat):Option Bool :=
 dU (OE x y) λa=>
 dU (PC a) λb=>
 some b
noncomputable def wF(x:List Rat)(y:List ((Rat×Rat×Rat×Rat)×Rat×Rat×Rat×Rat)):Option Bool :=
 dV ((x.length:Int) != (y.length:Int))
 (some false)
 (dU (Zg (σ:=Int) (ρ:=Unit ⊕ Bool) (λa=>
 dV (decide (a<(x.length:Int)))
 (dU (α:=Bool)
 (dU (dX x a) λb=>
 dU (dX y a) λc=>
 dU (wD b c.1.1) λd=>
 dV (!d)
 (some true)
 (dU (dX y a) λe=>
 dU (dX y a) λf=>
 dU (JZ f.1.1) λg=>
 dU (RJ e g) λh=>
 some (!h))) λi=>
 dV i
 (some (.inr (.inr false)))
 (dU (chk .i64 (a+(1:Int))) λj=>
 some (.inl j)))
 (some (.inr (.inl ()))))
   Zh (0:Int)) λk=>
  match k with
|.inl m=>(some true)
|.inr l=>(some l))
noncomputable def KC(x:List (List Rat))(y:List (List ((Rat×Rat×Rat×Rat)×Rat×Rat×Rat×Rat))):Option Bool :=
 dV ((x.length:Int) != (y.length:Int))
 (some false)
 (dU (Zg (σ:=Int) (ρ:=Unit ⊕ Bool) (λa=>
 dV (decide (a<(x.length:Int)))
 (dU (dX x a) λb=>
 dU (dX y a) λc=>
 dU (wF b c) λd=>
 dV (!d)
 (some (.inr (.inr false)))
 (dU (chk .i64 (a+(1:Int))) λe=>
 some (.inl e)))
 (some (.inr (.inl ()))))
   Zh (0:Int)) λf=>
  match f with
|.inl h=>(some true)
|.inr g=>(some g))
noncomputable def Hl(l:List (Int×Int)):Option ((List Rat)×(List ((Rat×Rat×Rat×Rat)×Rat×Rat×Rat×Rat))) :=
 dU (Zg (σ:=(List Rat)×(List ((Rat×Rat×Rat×Rat)×Rat×Rat×Rat×Rat))×Int) (ρ:=(List Rat)×(List ((Rat×Rat×Rat×Rat)×Rat×Rat×Rat×Rat))) (λa=>
 dV (decide (a.2.2<(l.length:Int)))
 (dU (dX l a.2.2) λb=>
 dU (qF b) λc=>
 dU (ZE 56 (a.1++[c])) λ_=>
 dU (oI b) λf=>
 dU (JZ f) λd=>
 dU (ZE 448 (a.2.1++[d])) λ_=>
 dU (chk .i64 (a.2.2+(1:Int))) λg=>
 some (.inl (a.1++[c],a.2.1++[d],g)))
 (some (.inr (a.1,a.2.1))))
  Zh (([]:List Rat),([]:List ((Rat×Rat×Rat×Rat)×Rat×Rat×Rat×Rat)),(0:Int))) λe=>
 some (e.1,e.2)
noncomputable def HX(l:List (Int×Int)):Option (List (Rat×Rat×Rat×Rat)) :=
 dU (Zg (σ:=(List (Rat×Rat×Rat×Rat))×Int) (ρ:=List (Rat×Rat×Rat×Rat)) (λa=>
 dV (decide (a.2<(l.length:Int)))
 (dU (dX l a.2) λc=>
 dU (oI c) λd=>
 dU (vD d) λb=>
 dU (ZE 224 (a.1++[b])) λ_=>
 dU (chk .i64 (a.2+(1:Int))) λe=>
 some (.inl (a.1++[b],e)))
 (some (.inr a.1)))
  Zh (([]:List (Rat×Rat×Rat×Rat)),(0:Int))) λf=>
 some f
noncomputable def Qr(m:List (List (Int×Int))):Option (List (List (Rat×Rat×Rat×Rat))) :=
 dU (mk 24 (m.length:Int) (m.length:Int)) λ_=>
 dU (Zg (σ:=Int×(List (List (Rat×Rat×Rat×Rat)))) (ρ:=List (List (Rat×Rat×Rat×Rat))) (λa=>
 dV (decide (a.1<(m.length:Int)))
 (dU (dX m a.1) λb=>
 dU (HX b) λc=>
 dU (dX a.2 a.1) λf=>
 dU (chk .i64 (a.1+(1:Int))) λd=>
 some (.inl (d,a.2.set a.1.toNat c)))
 (some (.inr a.2)))
  Zh ((0:Int),List.replicate (m.length:Int).toNat ([]:List (Rat×Rat×Rat×Rat)))) λe=>
 some e
noncomputable def Dj(m:List (List (Int×Int))):Option ((List (List Rat))×(List (List ((Rat×Rat×Rat×Rat)×Rat×Rat×Rat×Rat)))) :=
 dU (mk 24 (m.length:Int) (m.length:Int)) λ_=>
 dU (mk 24 (m.length:Int) (m.length:Int)) λ_=>
 dU (Zg (σ:=Int×(List (List Rat))×(List (List ((Rat×Rat×Rat×Rat)×Rat×Rat×Rat×Rat)))) (ρ:=(List (List Rat))×(List (List ((Rat×Rat×Rat×Rat)×Rat×Rat×Rat×Rat)))) (λa=>
 dV (decide (a.1<(m.length:Int)))
 (dU (dX m a.1) λd=>
 dU (Hl d) λb=>
 dU (dX a.2.1 a.1) λf=>
 dU (dX a.2.2 a.1) λg=>
 dU (chk .i64 (a.1+(1:Int))) λe=>
 some (.inl (e,a.2.1.set a.1.toNat b.1,a.2.2.set a.1.toNat b.2)))
 (some (.inr (a.2.1,a.2.2))))
  Zh ((0:Int),List.replicate (m.length:Int).toNat ([]:List Rat),List.replicate (m.length:Int).toNat ([]:List ((Rat×Rat×Rat×Rat)×Rat×Rat×Rat×Rat)))) λc=>
 some (c.1,c.2)
noncomputable def To(a:List (List (Int×Int)))(b:List (Int×Int))(c:List (Int×Int)):Option (((List (List Rat))×(List Rat)×(List Rat))×((List (List (Rat×Rat×Rat×Rat)))×(List (Rat×Rat×Rat×Rat))×(List (Rat×Rat×Rat×Rat)))) :=
 dU (Dj a) λd=>
 dU (Hl b) λe=>
 dU (Hl c) λf=>
 dU (Qr a) λg=>
 dU (HX b) λh=>
 dU (HX c) λi=>
 some ((d.1,e.1,f.1),(g,h,i))
noncomputable def xt  : Option Bool :=
 dU (Dj [[((2:Int),(0:Int)),((4:Int),(0:Int)),((2:Int),(0:Int))],[((1:Int),(0:Int)),((2:Int),(0:Int)),((3:Int),(0:Int))]]) λc=>
 dU (Pc c.1) λa=>
 dU (ST c.1) λd=>
 dU (Dj [[((1:Int),(0:Int)),((2:Int),(0:Int)),((0:Int),(0:Int))],[((0:Int),(0:Int)),((0:Int),(0:Int)),((1:Int),(0:Int))]]) λf=>
 dU (Dj [[((-2:Int),(0:Int)),((1:Int),(0:Int)),((0:Int),(0:Int))]]) λg=>
 dU (To [[((1:Int),(0:Int)),((1:Int),(0:Int))],[((1:Int),(0:Int)),((0:Int),(0:Int))]] [((4:Int),(0:Int)),((2:Int),(0:Int))] [((3:Int),(0:Int)),((2:Int),(0:Int))]) λe=>
 dU (Qp e.1) λb=>
 dU (α:=Bool)
 (dV (a.2.2==(0:Int))
 (dV (d.2==(0:Int))
 (dV (b.2==(0:Int))
 (dU (KC a.1 f.2) λh=>
 dV h
 (dU (KC d.1 g.2) λi=>
 dV i
 (dV ((a.2.1.length:Int)==(2:Int))
 (dU (dX a.2.1 (1:Int)) λj=>
 dV (j==(2:Int))
 (dV (b.1.1==(1:Int))
 (dU (yn b.1.2.1) λk=>
 dV (k==([49,48]:List UInt8))
 (dU (OH e.1 b.1) λl=>
 some l)
 (some false))
 (some false))
 (some false))
 (some false))
 (some false))
 (some false))
 (some false))
 (some false))
 (some false)) λm=>
 some m
theorem UP:xt=some true:=by decide +kernel
noncomputable def Fu(a:List (List ((Int×Int)×(Int×Int)×(Int×Int)×Int×Int)))(b:List ((Int×Int)×(Int×Int)×(Int×Int)×Int×Int))(c:List ((Int×Int)×(Int×Int)×(Int×Int)×Int×Int)):Option Bool :=
 dU (α:=Bool)
 (dV (decide ((3:Int)<(a.length:Int)))
 (some true)
 (dV (decide ((4:Int)<(b.length:Int)))
 (some true)
 (dV (decide ((3:Int)<(c.length:Int)))
 (some true)
 (dU (qh b) λw=>
 dV (!w)
 (some true)
 (dU (qh c) λx=>
 some (!x)))))) λy=>
 dV y
 (dU xt λz=>
 some z)
 (dU (Zg (σ:=Int×((List (List Su))×(List Su)×(List Su))×((List (List (Rat×Rat×Rat×Rat)))×(List (Rat×Rat×Rat×Rat))×(List (Rat×Rat×Rat×Rat)))) (ρ:=(((List (List Su))×(List Su)×(List Su))×((List (List (Rat×Rat×Rat×Rat)))×(List (Rat×Rat×Rat×Rat))×(List (Rat×Rat×Rat×Rat)))) ⊕ Bool) (λd=>
 dV (decide (d.1<(a.length:Int)))
 (dU (dX a d.1) λr=>
 dU (α:=Bool)
 (dV (decide ((3:Int)<(r.length:Int)))
 (some true)
 (dU (qh r) λA=>
 some (!A))) λB=>
 dV B
 (dU xt λC=>
 some (.inr (.inr C)))
 (dU (A7 r) λj=>
 dU (ZE 24 (d.2.1.1++[j.1])) λ_=>
 dU (ZE 24 (d.2.2.1++[j.2])) λ_=>
 dU (chk .i64 (d.1+(1:Int))) λD=>
 some (.inl (D,(d.2.1.1++[j.1],d.2.1.2.1,d.2.1.2.2),d.2.2.1++[j.2],d.2.2.2.1,d.2.2.2.2))))
 (some (.inr (.inl ((d.2.1.1,d.2.1.2.1,d.2.1.2.2),d.2.2.1,d.2.2.2.1,d.2.2.2.2)))))
   Zh ((0:Int),(([]:List (List Su)),([]:List Su),([]:List Su)),([]:List (List (Rat×Rat×Rat×Rat))),([]:List (Rat×Rat×Rat×Rat)),([]:List (Rat×Rat×Rat×Rat)))) λE=>
  match E with
|.inl k=>(dU (A7 b) λl=>
 dU (A7 c) λm=>
 dU (BJ (k.1.1,l.1,m.1)) λe=>
 dU (Bt (k.2.1,l.2,m.2)) λF=>
 dV (!F)
 (dU (α:=Bool)
 (dV (e.2==(4:Int))
 (dU xt λG=>
 some G)
 (some false)) λH=>
 some H)
 (dU (Zg (σ:=Int×((List (Rat×Rat×Rat×Rat))×(List (Rat×Rat×Rat×Rat))×(List (Rat×Rat×Rat×Rat))×(List (Rat×Rat×Rat×Rat)))) (ρ:=(List (Rat×Rat×Rat×Rat))×(List (Rat×Rat×Rat×Rat))×(List (Rat×Rat×Rat×Rat))×(List (Rat×Rat×Rat×Rat))) (λf=>
 dV (decide (f.1<([e.1.2.1].length:Int)))
 (dU (dX [e.1.2.1] f.1) λI=>
 dU (wb I) λs=>
 dU (ZE 224 (f.2.1++[s])) λ_=>
 dU (chk .i64 (f.1+(1:Int))) λJ=>
 some (.inl (J,f.2.1++[s],f.2.2.1,f.2.2.2.1,f.2.2.2.2)))
 (some (.inr (f.2.1,f.2.2.1,f.2.2.2.1,f.2.2.2.2))))
     Zh ((0:Int),([]:List (Rat×Rat×Rat×Rat)),([]:List (Rat×Rat×Rat×Rat)),([]:List (Rat×Rat×Rat×Rat)),([]:List (Rat×Rat×Rat×Rat)))) λn=>
 dU (Zg (σ:=Int×((List (Rat×Rat×Rat×Rat))×(List (Rat×Rat×Rat×Rat))×(List (Rat×Rat×Rat×Rat))×(List (Rat×Rat×Rat×Rat)))) (ρ:=(List (Rat×Rat×Rat×Rat))×(List (Rat×Rat×Rat×Rat))×(List (Rat×Rat×Rat×Rat))×(List (Rat×Rat×Rat×Rat))) (λg=>
 dV (decide (g.1<(e.1.2.2.1.length:Int)))
 (dU (dX e.1.2.2.1 g.1) λK=>
 dU (wb K) λt=>
 dU (ZE 224 (g.2.2.1++[t])) λ_=>
 dU (chk .i64 (g.1+(1:Int))) λL=>
 some (.inl (L,g.2.1,g.2.2.1++[t],g.2.2.2.1,g.2.2.2.2)))
 (some (.inr (g.2.1,g.2.2.1,g.2.2.2.1,g.2.2.2.2))))
     Zh ((0:Int),n.1,n.2.1,n.2.2.1,n.2.2.2)) λo=>
 dU (Zg (σ:=Int×((List (Rat×Rat×Rat×Rat))×(List (Rat×Rat×Rat×Rat))×(List (Rat×Rat×Rat×Rat))×(List (Rat×Rat×Rat×Rat)))) (ρ:=(List (Rat×Rat×Rat×Rat))×(List (Rat×Rat×Rat×Rat))×(List (Rat×Rat×Rat×Rat))×(List (Rat×Rat×Rat×Rat))) (λh=>
 dV (decide (h.1<(e.1.2.2.2.1.length:Int)))
 (dU (dX e.1.2.2.2.1 h.1) λM=>
 dU (wb M) λu=>
 dU (ZE 224 (h.2.2.2.1++[u])) λ_=>
 dU (chk .i64 (h.1+(1:Int))) λN=>
 some (.inl (N,h.2.1,h.2.2.1,h.2.2.2.1++[u],h.2.2.2.2)))
 (some (.inr (h.2.1,h.2.2.1,h.2.2.2.1,h.2.2.2.2))))
     Zh ((0:Int),o.1,o.2.1,o.2.2.1,o.2.2.2)) λp=>
 dU (Zg (σ:=Int×((List (Rat×Rat×Rat×Rat))×(List (Rat×Rat×Rat×Rat))×(List (Rat×Rat×Rat×Rat))×(List (Rat×Rat×Rat×Rat)))) (ρ:=(List (Rat×Rat×Rat×Rat))×(List (Rat×Rat×Rat×Rat))×(List (Rat×Rat×Rat×Rat))×(List (Rat×Rat×Rat×Rat))) (λi=>
 dV (decide (i.1<(e.1.2.2.2.2.length:Int)))
 (dU (dX e.1.2.2.2.2 i.1) λO=>
 dU (wb O) λv=>
 dU (ZE 224 (i.2.2.2.2++[v])) λ_=>
 dU (chk .i64 (i.1+(1:Int))) λP=>
 some (.inl (P,i.2.1,i.2.2.1,i.2.2.2.1,i.2.2.2.2++[v])))
 (some (.inr (i.2.1,i.2.2.1,i.2.2.2.1,i.2.2.2.2))))
     Zh ((0:Int),p.1,p.2.1,p.2.2.1,p.2.2.2)) λq=>
 dU (dX q.1 (0:Int)) λQ=>
 dU (α:=Bool)
 (dV (e.2==(0:Int))
 (dU (FP (k.2.1,l.2,m.2) (e.1.1,Q,q.2.1,q.2.2.1,q.2.2.2)) λR=>
 dV R
 (dU (F' (k.1.1,l.1,m.1) e.1) λS=>
 dV S
 (dU xt λT=>
 some T)
 (some false))
 (some false))
 (some false)) λU=>
 some U))
|.inr V=>(some V))
open Gt
def zQ:QD:=((0,0),(0,0),(0,0),0,0)
def qM(a:List (List QD)):Gx Su:=λi j=>Z1 ((a.getD i []).getD j zQ)
def qV(l:List QD):Nat→Su:=λj=>Z1 (l.getD j zQ)
theorem Ck(d:h)(f:h→α)(l:List h):l.map f=vx l.length λi=>f (l.getD i d):=by
 apply List.ext_getElem?;intro i;by_cases c:i<l.length
 ·rw[qf _ c];simp[List.getD_eq_getElem?_getD,c]
 ·rw[List.getElem?_eq_none (by simpa using c),List.getElem?_eq_none (by rw[Zo];omega)]
theorem Ti{a:List (List h)}(d:h)(f:h→α)(k:∀r,r ∈ a→r.length=c):a.map (λr=>r.map f)=vx a.length λi=>vx c λj=>f ((a.getD i []).getD j d):=by
 rw[Ck []];refine ZP λi e=>?_;have g:a.getD i []=a[i]:=by simp[List.getD_eq_getElem?_getD,e]
 rw[Ck d f,g,k _ (List.getElem_mem e),←g]
theorem Kr{l:List QD}(h:c<l.length):l.getD c zQ ∈ l:=by
 rw[L9 h];exact List.getElem_mem h
theorem tz{a:List (List QD)}{b c:List QD}(w:∀r,r ∈ a→∀q,q ∈ r→bQ q)(x:∀q,q ∈ b→bQ q)(y:∀q,q ∈ c→bQ q)(A:a.length=b.length)(g:∀r,r ∈ a→r.length=c.length)(B:b.length≤3)(C:c.length≤3):(fR c.length (qM a) (qV b) (qV c)).cd eI 1201 b.length c.length:=by
 have s:∀a:List (List QD),(∀r,r ∈ a→r.length=c.length)→a.flatten.length=a.length*c.length:=λa=>by
  induction a with
  |nil=>intro _;simp
  |cons r a D=>
   intro h;rw[List.flatten_cons,lA,D λr g=>h r (List.mem_cons_of_mem _ g),h r (List.mem_cons_self ..),List.length_cons,Nat.succ_mul];omega
 obtain⟨d,n,o,p⟩:=Q4 (a.flatten++(b++c)) (λq e=>by
  rcases List.mem_append.1 e with e |e
  ·obtain⟨r,t,u⟩:=List.mem_flatten.1 e;exact w r t q u
  ·rcases List.mem_append.1 e with e |e
   ·exact x q e
   ·exact y q e)
 have E:(a.flatten++(b++c)).length≤15:=by
  rw[lA,lA,s a g,A];have:=Nat.mul_le_mul B C;omega
 have l:∀{q:QD},q ∈ a.flatten++(b++c)→eI 1201 (Z1 q*Su.rat ((d:Nat):Rat)):=λe=>eI.mono (by omega) (p _ e).ins;refine⟨Su.rat ((d:Nat):Rat),Uu n,eI.mono (by omega) (PQ o),λi j m k=>?_,λi m=>?_,λj k=>?_,?_⟩
 ·have f:i<a.length:=by omega
  refine l (List.mem_append_left _ (List.mem_flatten.2 ⟨a.getD i [],?_,?_⟩))
  ·rw[L9 f];exact List.getElem_mem f
  ·refine Kr ?_;rw[L9 f,g _ (List.getElem_mem f)];exact k
 ·exact l (List.mem_append_right _ (List.mem_append_left _ (Kr m)))
 ·exact l (List.mem_append_right _ (List.mem_append_right _ (Kr k)))
 ·show eI 1201 (0*_);rw[vK];exact eI.zero.mono (by omega)
theorem Fh{l:List Su}(m:∀x,x ∈ l→Zs x)(o:l.length≤1000)(d:List (Rat×Rat×Rat×Rat)→h)(f:Int×h→Option ((Int×h) ⊕ h))(i:∀(k:Nat) (c:List (Rat×Rat×Rat×Rat)),(e:k<l.length)→c.length=k→f ((k:Int),d c)=dU (wb l[k]) λy=>dU (ZE 224 (c++[y])) λ_=>dU (chk .i64 ((k:Int)+1)) λz=>some (.inl (z,d (c++[y]))))(j:∀c,f ((l.length:Int),d c)=some (.inr (d c))):Zg f Zh ((0:Int),d [])=some (d (l.map ts)):=by
 refine fL (λk=>((k:Int),d ((l.take k).map ts))) l.length rfl (by omega) (λk e=>?_) ?_
 ·have n:l.take (k+1)=l.take k++[l[k]]:=by rw[List.take_succ_eq_append_getElem e]
  have g:((l.take k).map ts).length=k:=by rw[List.length_map,List.length_take];omega
  rw[i k _ e g,WD (m _ (List.getElem_mem e)),Za,ii (by rw[lA,g,List.length_singleton];omega),Za,Zk (by omega) (by omega),Za,n,List.map_append];rfl
 ·rw[j,List.take_length]
theorem pL{A:Gx Su}{B C:Nat→Su}{z:Int×Su×(List Su)×(List Su)×(List Su)}(h:mM c g w A B C z)(r:w≤12000)(s:c≤12)(t:g≤47):Zs z.2.1∧(∀x,x ∈ z.2.2.1→Zs x)∧(∀x,x ∈ z.2.2.2.1→Zs x)∧(∀x,x ∈ z.2.2.2.2→Zs x)∧z.2.2.1.length≤1000∧z.2.2.2.1.length≤1000∧z.2.2.2.2.length≤1000:=by
 have e:∀{k:Nat} {f:Nat→Su} {D:Su},Ov w k f D→∀x,x ∈ vx k f→Zs x:=λ{k f D} o x m=>by
  obtain⟨i,p,rfl⟩:=List.mem_map.1 m;exact o.zs (by omega) (List.mem_range.1 p)
 have l:∀x:Su,x ∈ ([]:List Su)→Zs x:=λx m=>by cases m
 rcases h with⟨y,E,rfl,_,j⟩ |⟨x,y,v,E,rfl,_,_,_,_,n,j,ov⟩ |⟨x,d,E,rfl,_,_,n,q⟩
 ·exact⟨yj,l,e j,l,by simp,by simp only[Zo];omega,by simp⟩
 ·exact⟨jG j.1 ov j.2.1 (by omega),e n,e j,l,by simp only[Zo];omega,by simp only[Zo];omega,by simp⟩
 ·exact⟨yj,e n,l,e q,by simp only[Zo];omega,by simp,by simp only[Zo];omega⟩
theorem VO(a:List (List QD))(b c:List QD):Fu a b c=some true:=by
  have G:dU xt (λy=>some y)=some true:=by rw[UP,Za]
  unfold Fu;obtain⟨g,hg,a1⟩:gc (dV (decide ((3:Int)<(a.length:Int)))
  (some true)
  (dV (decide ((4:Int)<(b.length:Int)))
   (some true)
   (dV (decide ((3:Int)<(c.length:Int)))
    (some true)
    (dU (qh b) λy1=>
     dV (!y1)
     (some true)
     (dU (qh c) λy2=>
      some (!y2)))))) (¬(a.length≤3∧b.length≤4∧c.length≤3∧(∀q,q ∈ b→bQ q)∧∀q,q ∈ c→bQ q)):=by
    refine xT (by rw[decide_eq_true_iff];omega) λ_=>xT (by rw[decide_eq_true_iff];omega) λ_=>xT (by rw[decide_eq_true_iff];omega) λ_=>?_;refine EY (KF (by omega)) λ_=>OA (KF (by omega))
  rw[hg,Za]
  cases g with
  |true=>rw[Ze,G]
  |false=>
  rw[Zf];obtain⟨la,lb,lc,N,O⟩:a.length≤3∧b.length≤4∧c.length≤3∧(∀q,q ∈ b→bQ q)∧∀q,q ∈ c→bQ q:=Classical.byContradiction λh=>by have:=a1.2 h;cases this
  suffices hs:∃z,dU (Zg _ Zh _) _=some z∧z=true by
    obtain⟨z,e,rfl⟩:=hs;exact e
  have a0:∀r:List QD,gc (dV (decide ((3:Int)<(r.length:Int))) (some true) (dU (qh r) λy7=>some (!y7))) (¬(r.length≤3∧∀q,q ∈ r→bQ q)):=λr=>
    xT (by rw[decide_eq_true_iff];omega) λ_=>OA (KF (by omega))
  let p:Nat→List (List Su):=λk=>(a.take k).map λr=>r.map Z1
  let t:Nat→List (List (Rat×Rat×Rat×Rat)):=λk=>(a.take k).map λr=>r.map λq=>ts (Z1 q)
  refine Ey (λk s=>s=((k:Int),(p k,([]:List Su),([]:List Su)),t k,([]:List (Rat×Rat×Rat×Rat)),([]:List (Rat×Rat×Rat×Rat)))∧∀i r,i<k→a[i]?= some r→r.length≤3∧∀q,q ∈ r→bQ q) (λr=>r= .inr true∨(r= .inl ((p a.length,[],[]),t a.length,[],[])∧∀r,r ∈ a→r.length≤3∧∀q,q ∈ r→bQ q)) a.length ⟨rfl,λi r E=>by omega⟩ (by omega) (λk s o u=>?_) (λr l=>?_)
  · obtain⟨rfl,u⟩:=u;by_cases F:k<a.length
    · simp only;rw[eo (by omega),Ze,Zz F,Za];obtain⟨w,ew,hw⟩:=a0 a[k];rw[ew,Za]
      cases w with
      |true=>exact .inr ⟨_,by rw[Ze,UP,Za],.inl rfl⟩
      | false=>
        have P:a[k].length≤3∧∀q,q ∈ a[k]→bQ q:=Classical.byContradiction λh=>by have:=hw.2 h;cases this
        have tk:a.take (k+1)=a.take k++[a[k]]:=by rw[List.take_succ_eq_append_getElem F]
        refine .inl ⟨_,F,?_,rfl,λi r E l=>?_⟩
        · rw[Zf,J3 P.2 (by omega),Za,ii (by simp only[p,lA,List.length_map,List.length_take,List.length_singleton];omega),Za,ii (by simp only[t,lA,List.length_map,List.length_take,List.length_singleton];omega),Za,Zk (by omega) (by omega),Za];simp only[p,t,tk,List.map_append];rfl
        · by_cases e:i=k
          · subst e;rw[List.getElem?_eq_getElem F]at l
            cases l
            exact P
          · exact u i r (by omega) l
    · have:k=a.length:=by omega
      subst this;refine .inr ⟨_,?_,.inr ⟨rfl,λr l=>?_⟩⟩
      · simp only;rw[eg (by omega),Zf]
      · obtain⟨i,E,e⟩:=List.mem_iff_getElem.1 l;exact u i r E (by rw[List.getElem?_eq_getElem E,e])
  · rcases l with rfl |⟨rfl,l⟩
    · exact⟨true,rfl,rfl⟩
    refine⟨true,?_,rfl⟩;have eP:p a.length=a.map λr=>r.map Z1:=by simp only[p,List.take_length]
    have eQ:t a.length=a.map λr=>r.map λq=>ts (Z1 q):=by simp only[t,List.take_length]
    simp only;rw[J3 N (by omega),Za,J3 O (by omega),Za,eP,eQ];simp only;obtain⟨W,M,Q⟩:=T6 (a:=a.map λr=>r.map λq=>ts (Z1 q)) (b:=b.map λq=>ts (Z1 q)) (c:=c.map λq=>ts (Z1 q)) (by rw[List.length_map];omega);have K:∀{α:Type} (f:QD→α),np (a.map λr=>r.map f) (b.map f) (c.map f)↔np a b c:=λf=>by
      unfold np;simp only[List.length_map,List.mem_map];exact⟨λh=>⟨h.1,h.2.1,h.2.2.1,λr l=>by have:=h.2.2.2 _ ⟨r,l,rfl⟩;rwa [List.length_map]at this⟩,λh=>⟨h.1,h.2.1,h.2.2.1,λr ⟨r',l,e⟩=>by rw[←e,List.length_map];exact h.2.2.2 r' l⟩⟩
    by_cases D:np a b c
    · have a3:=Q.2 ((K _).2 D);subst a3;obtain⟨I,v2,v3,J⟩:=D;have cd:=tz (λr h=>(l r h).2) N O I J (by omega) lc;have fA:(a.map λr=>r.map Z1)=fg b.length c.length (qM a):=by rw[←I];exact Ti zQ Z1 J
      have fB:b.map Z1=vx b.length (qV b):=Ck zQ Z1 b;have fC:c.map Z1=vx c.length (qV c):=Ck zQ Z1 c;have tA:(a.map λr=>r.map λq=>ts (Z1 q))=uJ b.length c.length (qM a):=by rw[←I];exact Ti zQ (λq=>ts (Z1 q)) J
      have tB:(b.map λq=>ts (Z1 q))=tv b.length (qV b):=Ck zQ (λq=>ts (Z1 q)) b;have tC:(c.map λq=>ts (Z1 q))=tv c.length (qV c):=Ck zQ (λq=>ts (Z1 q)) c;have hm:b.length≤3:=by omega
      rw[M,fA,fB,fC,tA,tB,tC];generalize qM a=A at *;generalize qV b=B at *;generalize qV c=C at *;generalize b.length=m at *;generalize c.length=n at *;have a4:kq 1201 3=9643:=by decide
      obtain⟨z,g1,H⟩:=WH (R:=3) (.inl hm) cd (by omega) (by omega) (by omega) (by omega);have zz:=pL H (by omega) (by omega) (by omega);have p7:=VB cd H (by omega) (by omega) (by omega);have L:=XX cd H (by omega) (by omega) (by omega);rw[g1,Za,Za,show(!true)=false from rfl,Zf];obtain⟨X,Y,Z,z3,R,S,U⟩:=zz;obtain⟨a5,v,x,y,d⟩:=z;simp only at X Y Z z3 R S U p7 L ⊢;refine Zu (y:=([ts v],[],[],[])) ?_ ?_
      · refine Fh (l:=[v]) (λx hx=>by rw[List.mem_singleton.1 hx];exact X) (by simp) (λj=>(j,([]:List (Rat×Rat×Rat×Rat)),([]:List (Rat×Rat×Rat×Rat)),([]:List (Rat×Rat×Rat×Rat)))) _ (λk j o _=>?_) (λj=>?_)
        · simp only;rw[eo (by omega),Ze,Zz o,Za]
        · simp only;rw[eg (by omega),Zf]
      refine Zu (y:=([ts v],x.map ts,[],[])) ?_ ?_
      · refine Fh (l:=x) Y R (λj=>([ts v],j,([]:List (Rat×Rat×Rat×Rat)),([]:List (Rat×Rat×Rat×Rat)))) _ (λk j o _=>?_) (λj=>?_)
        · simp only;rw[eo (by omega),Ze,Zz o,Za]
        · simp only;rw[eg (by omega),Zf]
      refine Zu (y:=([ts v],x.map ts,y.map ts,[])) ?_ ?_
      · refine Fh (l:=y) Z S (λj=>([ts v],x.map ts,j,([]:List (Rat×Rat×Rat×Rat)))) _ (λk j o _=>?_) (λj=>?_)
        · simp only;rw[eo (by omega),Ze,Zz o,Za]
        · simp only;rw[eg (by omega),Zf]
      refine Zu (y:=([ts v],x.map ts,y.map ts,d.map ts)) ?_ ?_
      · refine Fh (l:=d) z3 U (λj=>([ts v],x.map ts,y.map ts,j)) _ (λk j o _=>?_) (λj=>?_)
        · simp only;rw[eo (by omega),Ze,Zz o,Za]
        · simp only;rw[eg (by omega),Zf]
      simp only;rw[show dX [ts v] (0:Int)=some (ts v) from rfl,Za,show((0:Int)==(0:Int))=true from rfl,Ze,p7,Za,Ze,L,Za,Ze,G,Za]
    · have a2:W=false:=by
        cases W with
        |false=>rfl
        |true=>exact absurd ((K _).1 (Q.1 rfl)) D
      subst a2;obtain⟨z,ez⟩:=uL (a:=a.map λr=>r.map Z1) (b:=b.map Z1) (c:=c.map Z1) (by rw[List.length_map];omega) (λh=>D ((K _).1 h));rw[ez,Za,M,Za,show(!false)=true from rfl,Ze];simp only;rw[show((4:Int)==(4:Int))=true from rfl,Ze,G,Za]
end
section
open Go.WideShapes Go.ChangeShapes
theorem ZzB{t:TypeId}{f g i j:Field}{Z δ:Type}{A:ee h}{B:ee α}{C:ee Z}{D:ee δ}(P:S.underlying t=some (.struct #[f,g,i,j]))(G:kh S f.type A)(I:kh S g.type B)(J:kh S i.type C)(K:kh S j.type D)(Q:f.offset=0)(s:S.cellsOf f.type=A.n)(R:g.offset=A.n)(u:S.cellsOf g.type=B.n)(U:i.offset=A.n+B.n)(w:S.cellsOf i.type=C.n)(X:j.offset=A.n+B.n+C.n)(y:S.cellsOf j.type=D.n)(E:S.cellsOf t=A.n+B.n+C.n+D.n):kh S t (Zj A (Zj B (Zj C D))):=by
 intro H a0 W a1 e x F;obtain⟨Y,n,_,_,O,r,k⟩:=DataW.trod_struct P F;have r:Y.length=4:=r;have l:=k 0 f rfl;have m:=k 1 g rfl;have o:=k 2 i rfl;have p:=k 3 j rfl;rw[List.getElem?_eq_getElem (by omega)]at l m o p;rw[Q,s,List.drop_zero]at l;rw[R,u]at m;rw[U,w]at o;rw[X,y]at p;obtain⟨a,L⟩:=G _ _ _ _ _ _ l;obtain⟨b,M⟩:=I _ _ _ _ _ _ m;obtain⟨c,N⟩:=J _ _ _ _ _ _ o;obtain⟨d,q⟩:=K _ _ _ _ _ _ p;rw[List.take_of_length_le (by rw[List.length_drop,O,E];omega)]at q;refine⟨(a,b,c,d),e.take A.n,e.drop A.n,(List.take_append_drop _ _).symm,L,(e.drop A.n).take B.n,e.drop (A.n+B.n),?_,M,(e.drop (A.n+B.n)).take C.n,e.drop (A.n+B.n+C.n),?_,N,q⟩
 ·exact(List.take_append_drop B.n (e.drop A.n)).symm.trans (by rw[List.drop_drop])
 ·exact(List.take_append_drop C.n (e.drop (A.n+B.n))).symm.trans (by rw[List.drop_drop])
end
def eX(m:Nat)(f:Fr)(l:Lo)(c:Fr)(d:Lo):Prop:=(∀t e,eC c t=some e→e.st<m→eC f t=some e)∧∀u e,eC d u=some e→e.st<m→eC l u=some e
theorem eX.refl:eX c j e j e:=⟨λ_ _ h _=>h,λ_ _ h _=>h⟩
theorem eX.trans{i:Fr}(h:eX c j e P y)(k:eX g P y i Y)(l:c≤g):eX c j e i Y :=
 ⟨λt d f hs=>h.1 t d (k.1 t d f (by omega)) hs,λt d f hs=>h.2 t d (k.2 t d f (by omega)) hs⟩
theorem eX.mono{l:Lo}(h:eX g j l P y)(f:c≤g):eX c j l P y:=⟨λt e d hs=>h.1 t e d (by omega),λt e d hs=>h.2 t e d (by omega)⟩
theorem eX.put{x:V}(h:c≤g):eX c j e (⟨w,g,x⟩ :: j) e:=by
 refine⟨λt f d hs=>?_,λ_ _ h _=>h⟩;rw[ZU]at d;split at d
 ·cases d;exact absurd hs (by show¬g<c;omega)
 ·exact d
theorem eX.dup{m:Nat}{l:Lo}{e:En V}(h:eC j g=some e):eX m j l (e :: j) l:=by
 obtain⟨_,d⟩:=Zv h;refine⟨λk i c _=>?_,λ_ _ h _=>h⟩;rw[ZU]at c;split at c
 ·rename_i f;cases c;rw[←f,d];exact h
 ·exact c
theorem DT(F:g≤c):∀{n:Ev h} {f:Fr} {l:Lo} {K:h→Fr→Lo→Prop},eX g j e f l→(l.map En.k).Nodup→Zn c n f l K→Zn c n f l λx w B=>K x w B∧eX g j e w B:=by
 intro n;have C:∀{f:Fr} {l:Lo} {u:Nat} {L:LV},eX g j e f l→(l.map En.k).Nodup→eX g j e f (⟨u,c,L⟩ :: era l u)∧((⟨u,c,L⟩ :: era l u:Lo).map En.k).Nodup:=by
  intro f l u L i m;obtain⟨I,J⟩:=jQ (t:=u) m;refine⟨⟨i.1,λk n o hs=>?_⟩,List.nodup_cons.2 ⟨J,I⟩⟩;rw[ZU]at o;split at o
  ·cases o;exact absurd hs (by show¬c<g;omega)
  ·rw[kG m]at o;split at o
   ·cases o
   ·exact i.2 k n o hs
 induction n with
 |fail=>intro f l K i m d;exact d
 |done x=>intro f l K i m d;exact⟨d,i⟩
 |rdS t q p=>intro f l K i m d;obtain⟨x,r,d⟩:=d;exact⟨x,r,p _ i m d⟩
 |rdL u q p=>intro f l K i m d;obtain⟨x,r,d⟩:=d;exact⟨x,r,p _ _ i m d⟩
 |wrS t x n p=>intro f l K i m d;exact p (i.trans (eX.put F) (Nat.le_refl g)) m d
 |wrL u L n p=>intro f l K i m d;exact p (C i m).1 (C i m).2 d
 |new u L n p=>
  intro f l K i m d;refine⟨d.1,p ⟨i.1,λk n o hs=>?_⟩ (List.nodup_cons.2 ⟨B5 d.1,m⟩) d.2⟩;rw[ZU]at o;split at o
  ·cases o;exact absurd hs (by show¬c<g;omega)
  ·exact i.2 k n o hs
 |del u n p=>
  intro f l K i m d;refine p ⟨i.1,λk n o hs=>?_⟩ (jQ m).1 d;rw[kG m]at o;split at o
  ·cases o
  ·exact i.2 k n o hs
 |bind x q p=>intro f l K i m d;obtain⟨x,r,d⟩:=d;exact⟨x,r,p _ i m d⟩
 |test t M N G H=>
  intro f l K i m d;obtain⟨s,b,y,D,E⟩:=d;have A:=i.trans (eX.dup (m:=g) (l:=l) y) (Nat.le_refl g);exact⟨s,b,y,λn=>G A m (D n),λn=>H A m (E n)⟩
def mP(P:Program)(f:Array Oper)(N:Nat)(G:V→Value→Prop)(h:dW)(g:Zb)(X:Nat→Prop)(o:Oper)(a:Act)(w:World)(c:Unit→Fr→Lo→Prop):Prop :=
 (Region.wanted o (yielded f a.tmps)=true∧gP P N G h g X o a w c)∨(Region.wanted o (yielded f a.tmps)=false∧∃d e,c () d e∧fG N G h g X d e (a.put o.dst undef) w)
theorem HU{N:Nat}{X:Nat→Prop}{a:Act}{v:Zb}(q:dZ N d m i u X j e a o f v n)(p:∀k,u k→X k)(t:X g)(w:∀k,A.dst=some k→k<N)(h:Zn g (AP A) j e E):∃l r,E () l r∧fG N d m i X l r (a.put A.dst undef) o:=by
 unfold AP at h
 cases c:A.dst with
 |none=>rw[c]at h;exact⟨j,e,h,f,v,n,q.mono p λ_ h=>h⟩
 |some s=>rw[c]at h;exact⟨_,e,h,f,v,n,(q.mono p λ_ h=>h).put (w s c) (x:=.undef) ⟨[undef],rfl,rfl⟩ trivial t⟩
theorem Nc{N:Nat}{X:Nat→Prop}{a:Act}{v:Zb}(O:e9 H)(l:dZ N d m i u X j e a o f v n)(y:∀k,u k→X k)(B:X g)(P:¬u g)(a0:∀A ∈ r.toList,∀k,A.dst=some k→k<N)(C:∀k,A.dst=some k→k<N)(h:Zn g (wB H r.toList g A) j e E):mP H.P r N d m i X A a o E:=by
 unfold wB at h;split at h
 ·rename_i w;exact .inl ⟨jS w,Kg O l y B P C h⟩
 ·rename_i a2 a3 w;split at h
  ·rename_i q R;split at h
   ·rename_i t U;have G:t<N:=a0 q (mG R) t U;have F:(r[a2]?).bind (·.dst)=some t:=by rw[←Array.getElem?_toList,R];exact U
    obtain⟨Q,c,h⟩:=h;obtain⟨σ,I,a1⟩:=l.st.evs [.tmp t];have x:look σ t=some (a.tmps.getD t undef):=a1 (.tmp t) (by simp);have S:=l.fr t Q c;obtain⟨J,a4,Z⟩:=Q;have hk:J=t:=(Zv c).2;subst hk
    cases Z with
    |undef=>
     obtain⟨Y,K,p⟩:=S;have K:Y=[undef]:=K;subst K;have p:a.tmps.getD J undef=undef:=p;rw[p]at x;exact .inr ⟨qq I w F x G,HU l y B C h⟩
    |data tt b=>
     cases tt with
     |bool=>
      have p:=xY S;have p:a.tmps.getD J undef= .bool b:=p;rw[p]at x
      cases a3 with
      |true=>
       obtain⟨s,W,D,L,M⟩:=h;rw[c]at D
       cases D
       cases b with
       |true=>exact .inl ⟨pV I w F x G,Kg O (dZ.dup l c) y B P C (L rfl)⟩
       |false=>exact .inr ⟨Er I w F x G,HU (dZ.dup l c) y B C (M rfl)⟩
      |false=>
       obtain⟨s,W,D,L,M⟩:=h;rw[c]at D
       cases D
       cases b with
       |true=>exact .inr ⟨Er I w F x G,HU (dZ.dup l c) y B C (L rfl)⟩
       |false=>exact .inl ⟨pV I w F x G,Kg O (dZ.dup l c) y B P C (M rfl)⟩
     |_=>exact h.elim
    |_=>exact h.elim
   ·exact h.elim
  ·exact h.elim
theorem mP.list{N:Nat}{a:Act}(h:mP S r N d m i u A a o E)(p:∀c e n f,E () c e→fG N d m i u c e n f→wpList S r k C n f):wpList S r k (A :: C) a o:=by
 rcases h with⟨l,q⟩ |⟨l,c,e,g,j⟩
 ·exact md l (IU q λx f ⟨c,e,g,j⟩=>p c e _ f g j)
 ·unfold wpList;rw[iN (by rw[l];decide)];exact p c e _ o g j
inductive Et where
 |rS (t:Nat) (e:En V)
 |rL (u:Nat) (e:En LV)
 |wS (e:En V)
 |dup (e:En V)
 |wL (e:En LV)
 |nL (e:En LV)
 |dL (u:Nat)
variable {D:List Et→Nat→Option h}
def i9:List Et→Fr→Lo→Prop
 |[],_,_=>True
 |.rS t e :: c,f,l=>eC f t=some e∧i9 c f l
 |.rL u e :: c,f,l=>eC l u=some e∧i9 c f l
 |.wS e :: c,f,l=>i9 c (e :: f) l
 |.dup e :: c,f,l=>eC f e.k=some e∧i9 c (e :: f) l
 |.wL e :: c,f,l=>i9 c f (e :: era l e.k)
 |.nL e :: c,f,l=>eC l e.k=none∧i9 c f (e :: l)
 |.dL u :: c,f,l=>i9 c f (era l u)
def kD:List Et→Fr→Fr
 |[],f=>f
 |.wS e :: c,f=>kD c (e :: f)
 |.dup e :: c,f=>kD c (e :: f)
 |_ :: c,f=>kD c f
def kQ:List Et→Lo→Lo
 |[],l=>l
 |.wL e :: c,l=>kQ c (e :: era l e.k)
 |.nL e :: c,l=>kQ c (e :: l)
 |.dL u :: c,l=>kQ c (era l u)
 |_ :: c,l=>kQ c l
def rdS:List Et→Nat→Prop
 |[],_=>False
 |.rS t _ :: c,k=>k=t∨rdS c k
 |.dup e :: c,k=>k=e.k∨rdS c k
 |_ :: c,k=>rdS c k
def rdL:List Et→Nat→Prop
 |[],_=>False
 |.rL u _ :: c,k=>k=u∨rdL c k
 |.nL e :: c,k=>k=e.k∨rdL c k
 |_ :: c,k=>rdL c k
def iV:List Et→Nat→Option (Option (En V))
 |[],_=>none
 |.wS e :: c,t=>match iV c t with
  |some z=>some z
  |none=>if e.k=t then some (some e) else none
 |_ :: c,t=>iV c t
def gC:List Et→Nat→Option (Option (En LV))
 |[],_=>none
 |.wL e :: c,t=>match gC c t with
  |some z=>some z
  |none=>if e.k=t then some (some e) else none
 |.nL e :: c,t=>match gC c t with
  |some z=>some z
  |none=>if e.k=t then some (some e) else none
 |.dL u :: c,t=>match gC c t with
  |some z=>some z
  |none=>if u=t then some none else none
 |_ :: c,t=>gC c t
def ik:List Et→Fp→Fp
 |[],p=>p
 |.rS t _ :: c,p=>ik c ⟨gm p.rs t,p.ws,p.rl,p.wl⟩
 |.rL u _ :: c,p=>ik c ⟨p.rs,p.ws,gm p.rl u,p.wl⟩
 |.wS e :: c,p=>ik c ⟨p.rs,gm p.ws e.k,p.rl,p.wl⟩
 |.dup e :: c,p=>ik c ⟨gm p.rs e.k,p.ws,p.rl,p.wl⟩
 |.wL e :: c,p=>ik c ⟨p.rs,p.ws,p.rl,gm p.wl e.k⟩
 |.nL e :: c,p=>ik c ⟨p.rs,p.ws,gm p.rl e.k,gm p.wl e.k⟩
 |.dL u :: c,p=>ik c ⟨p.rs,p.ws,p.rl,gm p.wl u⟩
def Tr{f:Type}(n:Nat):Ev f→List Et→f→Prop
 |.fail,_,_=>False
 |.done r,d,x=>d=[]∧x=r
 |.rdS t k,d,x=>∃e c,d= .rS t e :: c∧Tr n (k e.x) c x
 |.rdL u k,d,x=>∃e c,d= .rL u e :: c∧Tr n (k e.st e.x) c x
 |.wrS t v e,d,x=>∃c,d= .wS ⟨t,n,v⟩ :: c∧Tr n e c x
 |.wrL u L e,d,x=>∃c,d= .wL ⟨u,n,L⟩ :: c∧Tr n e c x
 |.new u L e,d,x=>∃c,d= .nL ⟨u,n,L⟩ :: c∧Tr n e c x
 |.del u e,d,x=>∃c,d= .dL u :: c∧Tr n e c x
 |.bind y k,d,x=>∃z,y=some z∧Tr n (k z) d x
 |.test t g h,d,x=>∃s b c,d= .dup ⟨t,s,.data .bool b⟩ :: c∧(b=true→Tr n g c x)∧(b=false→Tr n h c x)
theorem VV{r:α}:∀{e:Ev h} {f:Fr} {l:Lo} {p:Fp} {K:h→Fr→Lo→Fp→Option α},ki c e f l p K=some r→∃x g,Tr c e g x∧i9 g f l∧K x (kD g f) (kQ g l) (ik g p)=some r:=by
 intro e
 induction e with
 |fail=>intro f l p K d;cases d
 |done x=>intro f l p K d;exact⟨x,[],⟨rfl,rfl⟩,trivial,d⟩
 |rdS t k n=>
  intro f l p K d;simp only[ki]at d;split at d
  ·rename_i e o;obtain⟨x,g,i,j,m⟩:=n _ d;exact⟨x,.rS t e :: g,⟨e,g,rfl,i⟩,⟨o,j⟩,m⟩
  ·cases d
 |rdL u k n=>
  intro f l p K d;simp only[ki]at d;split at d
  ·rename_i e o;obtain⟨x,g,i,j,m⟩:=n _ _ d;exact⟨x,.rL u e :: g,⟨e,g,rfl,i⟩,⟨o,j⟩,m⟩
  ·cases d
 |wrS t v e n=>intro f l p K d;obtain⟨x,g,i,j,m⟩:=n d;exact⟨x,.wS ⟨t,c,v⟩ :: g,⟨g,rfl,i⟩,j,m⟩
 |wrL u L e n=>intro f l p K d;obtain⟨x,g,i,j,m⟩:=n d;exact⟨x,.wL ⟨u,c,L⟩ :: g,⟨g,rfl,i⟩,j,m⟩
 |new u L e n=>
  intro f l p K d;simp only[ki]at d;split at d
  ·rename_i o;obtain⟨x,g,i,j,m⟩:=n d;exact⟨x,.nL ⟨u,c,L⟩ :: g,⟨g,rfl,i⟩,⟨o,j⟩,m⟩
  ·cases d
 |del u e n=>intro f l p K d;obtain⟨x,g,i,j,m⟩:=n d;exact⟨x,.dL u :: g,⟨g,rfl,i⟩,j,m⟩
 |bind y k n=>
  intro f l p K d;obtain⟨z,A,d⟩:=f9 d;obtain⟨x,g,i,j,m⟩:=n _ d;exact⟨x,g,⟨z,A,i⟩,j,m⟩
 |test t D E B C=>
  intro f l p K d;simp only[ki]at d;split at d
  ·rename_i k s b w;obtain⟨_,q⟩:=Zv w;have q:k=t:=q;subst q
   cases b with
   |true=>
    obtain⟨x,g,i,j,m⟩:=B d;exact⟨x,.dup ⟨k,s,.data .bool true⟩ :: g,⟨s,true,g,rfl,λ_=>i,λe=>by cases e⟩,⟨w,j⟩,m⟩
   |false=>
    obtain⟨x,g,i,j,m⟩:=C d;exact⟨x,.dup ⟨k,s,.data .bool false⟩ :: g,⟨s,false,g,rfl,(λe=>by cases e),λ_=>i⟩,⟨w,j⟩,m⟩
  ·cases d
theorem L6:∀{e:Ev h} {τ:List Et} {x:h} {f:Fr} {l:Lo},Tr c e τ x→i9 τ f l→Zn c e f l λB j A=>B=x∧j=kD τ f∧A=kQ τ l:=by
 intro e
 induction e with
 |fail=>intro τ x f l d k;exact d
 |done r=>intro τ x f l d k;obtain⟨rfl,rfl⟩:=d;exact⟨rfl,rfl,rfl⟩
 |rdS t q i=>intro τ x f l d k;obtain⟨e,g,rfl,d⟩:=d;exact⟨e,k.1,i _ (τ:=g) d k.2⟩
 |rdL u q i=>intro τ x f l d k;obtain⟨e,g,rfl,d⟩:=d;exact⟨e,k.1,i _ _ (τ:=g) d k.2⟩
 |wrS t v e i=>intro τ x f l d k;obtain⟨g,rfl,d⟩:=d;exact i (τ:=g) d k
 |wrL u L e i=>intro τ x f l d k;obtain⟨g,rfl,d⟩:=d;exact i (τ:=g) d k
 |new u L e i=>intro τ x f l d k;obtain⟨g,rfl,d⟩:=d;exact⟨k.1,i (τ:=g) d k.2⟩
 |del u e i=>intro τ x f l d k;obtain⟨g,rfl,d⟩:=d;exact i (τ:=g) d k
 |bind y q i=>intro τ x f l d k;obtain⟨z,o,d⟩:=d;exact⟨z,o,i _ d k⟩
 |test t C D p w=>intro τ x f l d k;obtain⟨s,b,g,rfl,m,n⟩:=d;exact⟨s,b,k.1,λe=>p (τ:=g) (m e) k.2,λe=>w (τ:=g) (n e) k.2⟩
theorem ni:∀{τ:List Et} {f:Fr} {l:Lo} {t:Nat},i9 τ f l→eC (kD τ f) t=(iV τ t).getD (eC f t)
 |[],_,_,_,_=>rfl
 |.rS _ _ :: τ,_,_,_,h=>ni (τ:=τ) h.2
 |.rL _ _ :: τ,_,_,_,h=>ni (τ:=τ) h.2
 |.wL _ :: τ,_,_,_,h=>ni (τ:=τ) h
 |.nL _ :: τ,_,_,_,h=>ni (τ:=τ) h.2
 |.dL _ :: τ,_,_,_,h=>ni (τ:=τ) h
 |.wS e :: τ,f,l,t,h=>by
  have:=ni (t:=t) (show i9 τ (e :: f) l from h)
  simp only[kD,iV]
  rw[this,ZU]
  cases iV τ t with
  |some z=>rfl
  |none=>by_cases h:e.k=t <;> simp[h]
 |.dup e :: τ,f,l,t,h=>by
  have:=ni (t:=t) (show i9 τ (e :: f) l from h.2)
  simp only[kD,iV]
  rw[this,ZU]
  congr 1
  by_cases c:e.k=t
  ·rw[iP c,←c,h.1]
  ·rw[iN c]
theorem mA:∀{τ:List Et} {f:Fr} {l:Lo},(l.map En.k).Nodup→i9 τ f l→((kQ τ l).map En.k).Nodup∧∀t,eC (kQ τ l) t=(gC τ t).getD (eC l t)
 |[],_,_,c,_=>⟨c,λ_=>rfl⟩
 |.rS _ _ :: τ,_,_,c,h=>mA (τ:=τ) c h.2
 |.rL _ _ :: τ,_,_,c,h=>mA (τ:=τ) c h.2
 |.wS _ :: τ,_,_,c,h=>mA (τ:=τ) c h
 |.dup _ :: τ,_,_,c,h=>mA (τ:=τ) c h.2
 |.wL e :: τ,f,l,c,h=>by
  obtain⟨j,k⟩:=jQ (t:=e.k) c
  obtain⟨g,i⟩:=mA (τ:=τ) (l:=e :: era l e.k) (List.nodup_cons.2 ⟨k,j⟩) h
  refine⟨g,λt=>(i t).trans ?_⟩
  simp only[gC]
  rw[ZU,kG c]
  cases gC τ t with
  |some z=>rfl
  |none=>by_cases d:e.k=t <;> simp[d]
 |.nL e :: τ,f,l,c,h=>by
  obtain⟨g,i⟩:=mA (τ:=τ) (l:=e :: l) (List.nodup_cons.2 ⟨B5 h.1,c⟩) h.2
  refine⟨g,λt=>(i t).trans ?_⟩
  simp only[gC]
  rw[ZU]
  cases gC τ t with
  |some z=>rfl
  |none=>by_cases d:e.k=t <;> simp[d]
 |.dL u :: τ,f,l,c,h=>by
  obtain⟨g,i⟩:=mA (τ:=τ) (l:=era l u) (jQ c).1 h
  refine⟨g,λt=>(i t).trans ?_⟩
  simp only[gC]
  rw[kG c]
  cases gC τ t with
  |some z=>rfl
  |none=>by_cases d:u=t <;> simp[d]
theorem qB:∀{τ:List Et} {f o:Fr} {l l2:Lo},(l.map En.k).Nodup→(l2.map En.k).Nodup→i9 τ f l→(∀t,rdS τ t→eC f t=eC o t)→(∀u,rdL τ u→eC l u=eC l2 u)→i9 τ o l2
 |[],_,_,_,_,_,_,_,_,_=>trivial
 |.rS t e :: τ,_,_,_,_,i,j,h,d,g=>⟨(d t (.inl rfl)).symm.trans h.1,qB i j h.2 (λt m=>d t (.inr m)) g⟩
 |.rL u e :: τ,_,_,_,_,i,j,h,d,g=>⟨(g u (.inl rfl)).symm.trans h.1,qB i j h.2 d λu n=>g u (.inr n)⟩
 | .wS e :: τ,f,o,_,_,i,j,h,d,g=>qB (τ:=τ) i j h (λt m=>by
   rw[ZU,ZU]
   by_cases c:e.k=t
   ·rw[iP c,iP c]
   ·rw[iN c,iN c];exact d t m) g
 | .dup e :: τ,f,o,_,_,i,j,h,d,g=>⟨(d e.k (.inl rfl)).symm.trans h.1,qB (τ:=τ) i j h.2 (λt m=>by
   rw[ZU,ZU]
   by_cases c:e.k=t
   ·rw[iP c,iP c]
   ·rw[iN c,iN c];exact d t (.inr m)) g⟩
 |.wL e :: τ,_,_,l,l2,i,j,h,d,g=>by
  obtain⟨q,r⟩:=jQ (t:=e.k) i
  obtain⟨s,w⟩:=jQ (t:=e.k) j
  refine qB (τ:=τ) (l:=e :: era l e.k) (l2:=e :: era l2 e.k) (List.nodup_cons.2 ⟨r,q⟩) (List.nodup_cons.2 ⟨w,s⟩) h d λu n=>?_
  rw[ZU,ZU]
  by_cases c:e.k=u
  ·rw[iP c,iP c]
  ·rw[iN c,iN c,kG i,kG j,iN c,iN c];exact g u n
 |.nL e :: τ,_,_,l,l2,i,j,h,d,g=>by
  have p:eC l2 e.k=none:=(g e.k (.inl rfl)).symm.trans h.1
  refine⟨p,qB (τ:=τ) (l:=e :: l) (l2:=e :: l2) (List.nodup_cons.2 ⟨B5 h.1,i⟩) (List.nodup_cons.2 ⟨B5 p,j⟩) h.2 d λu n=>?_⟩
  rw[ZU,ZU]
  by_cases c:e.k=u
  ·rw[iP c,iP c]
  ·rw[iN c,iN c];exact g u (.inr n)
 |.dL u :: τ,_,_,l,l2,i,j,h,d,g=>by
  refine qB (τ:=τ) (jQ i).1 (jQ j).1 h d λk c=>?_
  rw[kG i,kG j]
  by_cases e:u=k
  ·rw[iP e,iP e]
  ·rw[iN e,iN e];exact g k c
theorem vj:(gm c g).testBit g=true:=by
 show(c |||2^g).testBit g=true;rw[Nat.testBit_or,Nat.testBit_two_pow_self,Bool.or_true]
theorem wi(h:c.testBit w=true):(gm c g).testBit w=true:=by
 show(c |||2^g).testBit w=true;rw[Nat.testBit_or,h,Bool.true_or]
structure Fp.le(p q:Fp):Prop where
 rs:∀t,p.rs.testBit t=true→q.rs.testBit t=true
 ws:∀t,p.ws.testBit t=true→q.ws.testBit t=true
 rl:∀t,p.rl.testBit t=true→q.rl.testBit t=true
 wl:∀t,p.wl.testBit t=true→q.wl.testBit t=true
theorem Fp.le.trans{p q r:Fp}(h:p.le q)(k:q.le r):p.le r:=⟨λt e=>k.rs t (h.rs t e),λt e=>k.ws t (h.ws t e),λt e=>k.rl t (h.rl t e),λt e=>k.wl t (h.wl t e)⟩
theorem kt:∀{τ:List Et} {p:Fp},p.le (ik τ p)
 |[],_=>⟨λ_ h=>h,λ_ h=>h,λ_ h=>h,λ_ h=>h⟩
 |.rS t _ :: τ,p=>Fp.le.trans (q:=⟨gm p.rs t,p.ws,p.rl,p.wl⟩) ⟨λ_ h=>wi h,λ_ h=>h,λ_ h=>h,λ_ h=>h⟩ (kt (τ:=τ))
 |.rL u _ :: τ,p=>Fp.le.trans (q:=⟨p.rs,p.ws,gm p.rl u,p.wl⟩) ⟨λ_ h=>h,λ_ h=>h,λ_ h=>wi h,λ_ h=>h⟩ (kt (τ:=τ))
 |.wS e :: τ,p=>Fp.le.trans (q:=⟨p.rs,gm p.ws e.k,p.rl,p.wl⟩) ⟨λ_ h=>h,λ_ h=>wi h,λ_ h=>h,λ_ h=>h⟩ (kt (τ:=τ))
 |.dup e :: τ,p=>Fp.le.trans (q:=⟨gm p.rs e.k,p.ws,p.rl,p.wl⟩) ⟨λ_ h=>wi h,λ_ h=>h,λ_ h=>h,λ_ h=>h⟩ (kt (τ:=τ))
 |.wL e :: τ,p=>Fp.le.trans (q:=⟨p.rs,p.ws,p.rl,gm p.wl e.k⟩) ⟨λ_ h=>h,λ_ h=>h,λ_ h=>h,λ_ h=>wi h⟩ (kt (τ:=τ))
 |.nL e :: τ,p=>Fp.le.trans (q:=⟨p.rs,p.ws,gm p.rl e.k,gm p.wl e.k⟩) ⟨λ_ h=>h,λ_ h=>h,λ_ h=>wi h,λ_ h=>wi h⟩ (kt (τ:=τ))
 |.dL u :: τ,p=>Fp.le.trans (q:=⟨p.rs,p.ws,p.rl,gm p.wl u⟩) ⟨λ_ h=>h,λ_ h=>h,λ_ h=>h,λ_ h=>wi h⟩ (kt (τ:=τ))
theorem qm:∀{τ:List Et} {p:Fp} {t:Nat},rdS τ t→(ik τ p).rs.testBit t=true
 |.rS t _ :: τ,_,_,.inl e=>by subst e;exact(kt (τ:=τ)).rs _ vj
 |.dup _ :: τ,_,_,.inl e=>by subst e;exact(kt (τ:=τ)).rs _ vj
 |.rS t _ :: τ,_,_,.inr h=>qm (τ:=τ) h
 |.dup _ :: τ,_,_,.inr h=>qm (τ:=τ) h
 |.rL _ _ :: τ,_,_,h=>qm (τ:=τ) h
 |.wS _ :: τ,_,_,h=>qm (τ:=τ) h
 |.wL _ :: τ,_,_,h=>qm (τ:=τ) h
 |.nL _ :: τ,_,_,h=>qm (τ:=τ) h
 |.dL _ :: τ,_,_,h=>qm (τ:=τ) h
theorem qn:∀{τ:List Et} {p:Fp} {t:Nat},rdL τ t→(ik τ p).rl.testBit t=true
 |.rL t _ :: τ,_,_,.inl e=>by subst e;exact(kt (τ:=τ)).rl _ vj
 |.nL _ :: τ,_,_,.inl e=>by subst e;exact(kt (τ:=τ)).rl _ vj
 |.rL t _ :: τ,_,_,.inr h=>qn (τ:=τ) h
 |.nL _ :: τ,_,_,.inr h=>qn (τ:=τ) h
 |.rS _ _ :: τ,_,_,h=>qn (τ:=τ) h
 |.wS _ :: τ,_,_,h=>qn (τ:=τ) h
 |.dup _ :: τ,_,_,h=>qn (τ:=τ) h
 |.wL _ :: τ,_,_,h=>qn (τ:=τ) h
 |.dL _ :: τ,_,_,h=>qn (τ:=τ) h
theorem mZ:∀{τ:List Et} {p:Fp} {t:Nat},iV τ t≠none→(ik τ p).ws.testBit t=true
 |[],_,_,h=>absurd rfl h
 |.wS e :: τ,_,t,h=>by
  by_cases c:e.k=t
  ·subst c;exact(kt (τ:=τ)).ws _ vj
  ·refine mZ (τ:=τ) λd=>h ?_
   simp only[iV,d,iN c]
 |.rS _ _ :: τ,_,_,h=>mZ (τ:=τ) h
 |.rL _ _ :: τ,_,_,h=>mZ (τ:=τ) h
 |.dup _ :: τ,_,_,h=>mZ (τ:=τ) h
 |.wL _ :: τ,_,_,h=>mZ (τ:=τ) h
 |.nL _ :: τ,_,_,h=>mZ (τ:=τ) h
 |.dL _ :: τ,_,_,h=>mZ (τ:=τ) h
theorem nm:∀{τ:List Et} {p:Fp} {t:Nat},gC τ t≠none→(ik τ p).wl.testBit t=true
 |[],_,_,h=>absurd rfl h
 |.wL e :: τ,_,t,h=>by
  by_cases c:e.k=t
  ·subst c;exact(kt (τ:=τ)).wl _ vj
  ·refine nm (τ:=τ) λd=>h ?_
   simp only[gC,d,iN c]
 |.nL e :: τ,_,t,h=>by
  by_cases c:e.k=t
  ·subst c;exact(kt (τ:=τ)).wl _ vj
  ·refine nm (τ:=τ) λd=>h ?_
   simp only[gC,d,iN c]
 |.dL u :: τ,_,t,h=>by
  by_cases c:u=t
  ·subst c;exact(kt (τ:=τ)).wl _ vj
  ·refine nm (τ:=τ) λd=>h ?_
   simp only[gC,d,iN c]
 |.rS _ _ :: τ,_,_,h=>nm (τ:=τ) h
 |.rL _ _ :: τ,_,_,h=>nm (τ:=τ) h
 |.wS _ :: τ,_,_,h=>nm (τ:=τ) h
 |.dup _ :: τ,_,_,h=>nm (τ:=τ) h
theorem Ce{a b:Nat}(h:Nat.land a b=0)(c:a.testBit w=true)(d:b.testBit w=true):False:=by
 have:(a &&& b).testBit w=true:=by rw[Nat.testBit_and,c,d];rfl
 rw[show(a &&& b)=0 from h]at this;simp at this
theorem Kq{a b:Nat}(h:Nat.lor a b=0):a=0∧b=0:=by
 have h:a |||b=0:=h;exact Nat.or_eq_zero_iff.1 h
theorem Hq{a b:Nat}(h:a.testBit w=true∨b.testBit w=true):(Nat.lor a b).testBit w=true:=by
 show(a |||b).testBit w=true;rw[Nat.testBit_or];rcases h with h |h <;> simp[h]
structure fp(τ σ:List Et):Prop where
 s1:∀t,iV τ t≠none→rdS σ t→False
 s2:∀t,iV τ t≠none→iV σ t≠none→False
 s3:∀t,rdS τ t→iV σ t≠none→False
 l1:∀t,gC τ t≠none→rdL σ t→False
 l2:∀t,gC τ t≠none→gC σ t≠none→False
 l3:∀t,rdL τ t→gC σ t≠none→False
theorem Ty{f e:List Et}{p q:Fp}(h:(ik f p).free (ik e q)=true):fp f e:=by
 have h:=eH h;obtain⟨g,i⟩:=Kq h;obtain⟨c,j⟩:=Kq g;obtain⟨d,k⟩:=Kq i;exact⟨λt a b=>Ce c (mZ a) (Hq (.inl (qm b))),λt a b=>Ce c (mZ a) (Hq (.inr (mZ b))),λt a b=>Ce j (qm a) (mZ b),
  λt a b=>Ce d (nm a) (Hq (.inl (qn b))),λt a b=>Ce d (nm a) (Hq (.inr (nm b))),λt a b=>Ce k (qn a) (nm b)⟩
def vX:List (List Et)→Fr→Fr
 |[],f=>f
 |c :: r,f=>vX r (kD c f)
def qx:List (List Et)→Lo→Lo
 |[],l=>l
 |c :: r,l=>qx r (kQ c l)
def kx:List (List Et)→Fr→Lo→Prop
 |[],_,_=>True
 |c :: r,f,l=>i9 c f l∧kx r (kD c f) (kQ c l)
def gL{d:Type}(e:List Et→Nat→Option d)(sel:Nat→Bool):List (List Et)→Nat→d→Nat→d
 |[],_,c,_=>c
 |f :: r,i,c,t=>gL e sel r (i+1) (if sel i then(e f t).getD c else c) t
theorem ql{sel k:Nat→Bool}:∀{g:List (List Et)} {i:Nat} {d:h},(∀j f,g[j]?= some f→D f c≠none→sel (i+j)=k (i+j))→gL D sel g i d c=gL D k g i d c
 |[],_,_,_=>rfl
 |f :: r,i,d,l=>by
  have m:(if sel i then(D f c).getD d else d)=(if k i then(D f c).getD d else d):=by
   cases n:D f c with
   |none=>simp
   |some z=>
    have:=l 0 f rfl (by rw[n];exact λe=>by cases e);rw[Nat.add_zero]at this;rw[this]
  simp only[gL];rw[m];exact ql λj p o hs=>by have:=l (j+1) p o hs;rwa [←Nat.add_assoc,Nat.add_right_comm]at this
theorem oM{sel:Nat→Bool}:∀{f:List (List Et)} {i:Nat} {e:h},(∀j d,f[j]?= some d→sel (i+j)=true→D d c=none)→gL D sel f i e c=e
 |[],_,_,_=>rfl
 |d :: r,i,e,g=>by
  simp only[gL]
  rw[oM λj l k hs=>g (j+1) l k (by rwa [←Nat.add_assoc,Nat.add_right_comm])]
  by_cases hs:sel i=true
  ·rw[iP hs,g 0 d rfl hs];rfl
  ·rw[iN hs]
theorem JX{sel:Nat→Bool}:∀{f:List (List Et)} {i k:Nat} {g:h} {τ:List Et} {z:h},f[k]?= some τ→sel (i+k)=true→D τ c=some z→(∀j d,k<j→f[j]?= some d→sel (i+j)=true→D d c=none)→gL D sel f i g c=z
 |[],_,_,_,_,_,e,_,_,_=>by cases e
 |d :: r,i,0,g,τ,z,e,hs,l,m=>by
  cases e
  simp only[gL]
  rw[iP (show sel i=true from hs),l]
  exact oM λj d n o=>m (j+1) d (by omega) n (by rwa [←Nat.add_assoc,Nat.add_right_comm])
 |d :: r,i,k+1,g,τ,z,e,hs,l,m=>by
  simp only[gL]
  exact JX (k:=k) (τ:=τ) e (by rwa [Nat.add_right_comm]) l λj p q n o=>m (j+1) p (by omega) n (by rwa [←Nat.add_assoc,Nat.add_right_comm])
theorem LK:∀{d:List (List Et)} {f:Fr} {l:Lo} {b i:Nat} {k:List Et},kx d f l→(l.map En.k).Nodup→d[i]?= some k→∃g c,i9 k g c∧(c.map En.k).Nodup∧(∀t,eC g t=gL iV (λj=>decide (j<b+i)) d b (eC f t) t)∧∀t,eC c t=gL gC (λj=>decide (j<b+i)) d b (eC l t) t
 |[],_,_,_,_,_,_,_,h=>by cases h
 |y :: r,f,l,b,0,k,h,m,n=>by
  cases n
  refine⟨f,l,h.1,m,λt=>(oM λj _ _ hs=>?_).symm,λt=>(oM λj _ _ hs=>?_).symm⟩ <;> (have:=of_decide_eq_true hs;omega)
 |y :: r,f,l,b,i+1,k,h,m,n=>by
  obtain⟨x,p⟩:=mA m h.1
  obtain⟨g,c,q,s,u,w⟩:=LK (b:=b+1) (i:=i) h.2 x n
  have e:(λj=>decide (j<b+1+i))=λj=>decide (j<b+(i+1)):=by funext j;congr 1;rw[Nat.add_assoc,Nat.add_comm 1 i]
  have o:decide (b<b+(i+1))=true:=by simp
  refine⟨g,c,q,s,λt=>?_,λt=>?_⟩
  ·rw[u t,e,ni h.1];simp only[gL];rw[iP o]
  ·rw[w t,e,p t];simp only[gL];rw[iP o]
theorem Jc:∀{c:List (List Et)} {f:Fr} {l:Lo} {b:Nat},kx c f l→(l.map En.k).Nodup→((qx c l).map En.k).Nodup∧(∀t,eC (vX c f) t=gL iV (λ_=>true) c b (eC f t) t)∧∀t,eC (qx c l) t=gL gC (λ_=>true) c b (eC l t) t
 |[],_,_,_,_,e=>⟨e,λ_=>rfl,λ_=>rfl⟩
 |d :: r,f,l,b,h,e=>by
  obtain⟨m,g⟩:=mA e h.1
  obtain⟨i,j,k⟩:=Jc (b:=b+1) h.2 m
  refine⟨i,λt=>?_,λt=>?_⟩
  ·rw[show vX (d :: r) f=vX r (kD d f) from rfl,j t,ni h.1];rfl
  ·rw[show qx (d :: r) l=qx r (kQ d l) from rfl,k t,g t];rfl
theorem Ia:∀{g:List Oper} {f:Fr} {l:Lo} {n:Nat} {K:Fr→Lo→Nat→List Fp→Option h},pn H C g f l n K=some L→
  ∃ c:List (List Et),c.length=g.length∧kx c f l∧(∀i o e,g[i]?= some o→c[i]?= some e→Tr (n+i) (wB H C (n+i) o) e ())∧K (vX c f) (qx c l) (n+g.length) (c.map λe=>ik e Fp.no)=some L
 |[],f,l,n,K,d=>⟨[],rfl,trivial,λ_ _ _ d=>by simp at d,d⟩
 |o :: g,f,l,n,K,d=>by
  simp only[pn]at d
  obtain⟨⟨⟩,e,m,p,q⟩:=VV d
  obtain⟨c,r,s,t,u⟩:=Ia q
  refine⟨e :: c,by simp[r],⟨p,s⟩,λi w x j k=>?_,?_⟩
  ·cases i with
   |zero=>cases j;cases k;exact m
   |succ i=>have:=t i w x j k;rwa [Nat.add_right_comm]at this
  ·rw[List.length_cons,←Nat.add_assoc,Nat.add_right_comm];exact u
theorem X8{A:Prop}:∀{e:Ev h} {f:Fr} {l:Lo} {K:h→Fr→Lo→Prop},Zn c e f l K→(∀x j r,K x j r→A)→A:=by
 intro e
 induction e with
 |fail=>intro f l K d k;exact d.elim
 |done x=>intro f l K d k;exact k _ _ _ d
 |rdS t q g=>intro f l K d k;obtain⟨x,i,d⟩:=d;exact g _ d k
 |rdL u q g=>intro f l K d k;obtain⟨x,i,d⟩:=d;exact g _ _ d k
 |wrS t x e g=>intro f l K d k;exact g d k
 |wrL u L e g=>intro f l K d k;exact g d k
 |new u L e g=>intro f l K d k;exact g d.2 k
 |del u e g=>intro f l K d k;exact g d k
 |bind x q g=>intro f l K d k;obtain⟨x,i,d⟩:=d;exact g _ d k
 |test t w y o p=>
  intro f l K d k;obtain⟨s,b,B,m,n⟩:=d
  cases b with
  |true=>exact o (m rfl) k
  |false=>exact p (n rfl) k
theorem IC:∀{g:List Oper} {d:List (List Et)} {f:Fr} {l:Lo} {n:Nat},c≤n→d.length=g.length→kx d f l→(l.map En.k).Nodup→(∀i o e,g[i]?= some o→d[i]?= some e→Tr (n+i) (wB H C (n+i) o) e ())→eX c f l (vX d f) (qx d l)
 |_,[],_,_,_,_,_,_,_,_=>eX.refl
 |[],_ :: _,_,_,_,_,h,_,_,_=>by cases h
 |o :: g,e :: d,f,l,n,t,s,h,j,k=>by
  have q:=DT t eX.refl j (L6 (k 0 o e rfl rfl) h.1)
  have r:eX c f l (kD e f) (kQ e l):=X8 q λx B D ⟨⟨_,m,p⟩,h⟩=>by subst m;subst p;exact h
  exact r.trans (IC (n:=n+1) (by omega) (by simpa using s) h.2 (mA j h.1).1 λi y A u w=>by
   have:=k (i+1) y A u w
   rwa [←Nat.add_assoc,Nat.add_right_comm]at this) (Nat.le_refl c)
theorem Qq{q:Fp}:∀{f:List Fp} {d:Nat},p7 c q f d=true→∀i p,f[i]?= some p→c.testBit (d+i)=true∨p.free q=true
 |[],_,_,_,_,h=>by cases h
 |j :: r,d,h,i,p,hp=>by
  simp only[p7]at h
  cases i with
  |zero=>
   cases hp
   rw[Nat.add_zero]
   split at h
   ·rename_i e;exact .inl e
   ·split at h
    ·rename_i e;exact .inr e
    ·cases h
  |succ i=>
   have g:p7 c q r (d+1)=true:=by
    split at h
    ·exact h
    ·split at h
     ·exact h
     ·cases h
   have:=Qq g i p hp
   rwa [Nat.add_right_comm]at this
theorem LJ:∀{e:List Fp} {d:List Fp} {c:List Nat},mc d c e=true→∀j q,e[j]?= some q→∃m,c[j]?= some m∧∀i p,(d++e)[i]?= some p→i<d.length+j→m.testBit i=true∨p.free q=true
 |[],_,_,_,_,_,h=>by cases h
 |r :: e,d,c,h,j,q,f=>by
  cases c with
  |nil=>cases h
  |cons o c=>
   simp only[mc]at h
   split at h
   ·rename_i g
    cases j with
    |zero=>
     cases f
     refine⟨o,rfl,λi p hp n=>?_⟩
     rw[List.getElem?_append_left (by omega)]at hp
     have:=Qq g i p hp
     rwa [Nat.zero_add]at this
    |succ j=>
     obtain⟨m,k,l⟩:=LJ h j q f
     refine⟨m,k,λi p hp n=>l i p (by rw[fj];exact hp) (by simp;omega)⟩
   ·cases h
theorem FJ{done:List Nat}:∀{es:List Edge} {m:Nat},(kj done es m).testBit c=true→m.testBit c=true∨ ∃e ∈ es,Region.binds .any e=true∧(c=e.on∨(done.getD e.on 0).testBit c=true)
 |[],_,h=>.inl h
 |e :: r,m,h=>by
  simp only[kj]at h
  split at h
  ·rename_i j
   rcases FJ h with h |⟨d,i,f,g⟩
   ·have h:((m |||2^e.on) |||done.getD e.on 0).testBit c=true:=h
    rw[Nat.testBit_or,Nat.testBit_or,Nat.testBit_two_pow,Bool.or_eq_true,Bool.or_eq_true]at h
    rcases h with(h |h) |h
    ·exact .inl h
    ·exact .inr ⟨e,by simp,j,.inl (by simpa using(of_decide_eq_true h).symm)⟩
    ·exact .inr ⟨e,by simp,j,.inr h⟩
   ·exact .inr ⟨d,by simp[i],f,g⟩
  ·rcases FJ h with h |⟨d,i,f,g⟩
   ·exact .inl h
   ·exact .inr ⟨d,by simp[i],f,g⟩
theorem QE:∀{os:List Oper} {done:List Nat} {j:Nat} {m:Nat},done[j]?= some m→(gv os done)[j]?= some m
 |[],_,_,_,h=>h
 |o :: os,done,j,m,h=>QE (os:=os) (by rw[List.getElem?_append_left (List.getElem?_eq_some_iff.1 h).1];exact h)
theorem BD{S:Nat→Prop}:∀{os:List Oper} {done:List Nat},(∀j o,os[j]?= some o→S (done.length+j)→∀e ∈ o.after,Region.binds .any e=true→S e.on)→(∀j m,done[j]?= some m→S j→∀i,m.testBit i=true→S i)→
  ∀ j o m,os[j]?= some o→(gv os done)[done.length+j]?= some m→(∀e ∈ o.after,Region.binds .any e=true→S e.on)→∀i,m.testBit i=true→S i
 |[],_,_,_,_,_,_,h,_,_,_,_=>by cases h
 |l :: os,done,s,t,j,o,m,w,n,p,i,q=>by
  have y:(∀e ∈ l.after,Region.binds .any e=true→S e.on)→∀i,(kj done l.after.toList 0).testBit i=true→S i:=λp i q=>by
   rcases FJ q with h |⟨e,A,B,c⟩
   ·simp at h
   ·have f:=p e (by simpa using A) B
    rcases c with c |c
    ·subst c;exact f
    ·cases r:done[e.on]? with
     |none=>rw[List.getD_eq_getElem?_getD,r]at c;simp at c
     |some x=>rw[List.getD_eq_getElem?_getD,r]at c;exact t _ x r f i c
  simp only[gv]at n
  cases j with
  |zero=>
   cases w
   rw[Nat.add_zero]at n
   have:(gv os (done++[kj done l.after.toList 0]))[done.length]?= some (kj done l.after.toList 0):=QE (by simp)
   rw[this]at n;cases n
   exact y p i q
  |succ j=>
   refine BD (os:=os) (done:=done++[kj done l.after.toList 0]) (λg E C f=>s (g+1) E C (by rw[lA,List.length_singleton]at f;rwa [←Nat.add_assoc,Nat.add_right_comm])) (λg D d f=>?_) j o m w (by rw[lA,List.length_singleton,Nat.add_right_comm];exact n) p i q
   rcases Nat.lt_or_ge g done.length with h |h
   ·rw[List.getElem?_append_left h]at d;exact t g D d f
   ·rw[List.getElem?_append_right h]at d
    cases u:g-done.length with
    |zero=>
     rw[u]at d;cases d
     refine y (s 0 l rfl ?_)
     rwa [Nat.add_zero,show done.length=g by omega]
    |succ k=>rw[u]at d;cases d
theorem FT:∀{g:List Oper} {f:Nat},kJ f g=true→∀i o,g[i]?= some o→∀e ∈ o.after,Region.binds .any e=true→e.on<f+i
 |[],_,_,_,_,h,_,_,_=>by cases h
 |p :: g,f,h,i,o,j,e,c,d=>by
  simp only[kJ]at h
  split at h
  ·rename_i m
   cases i with
   |zero=>
    cases j
    have:∀{es:List Edge},CB f es=true→∀e ∈ es,Region.binds .any e=true→e.on<f:=by
     intro es
     induction es with
     |nil=>intro _ e h;cases h
     |cons x r l=>
      intro h e c d;simp only[CB]at h;split at h
      ·split at h
       ·rename_i n;rcases List.mem_cons.1 c with rfl |c
        ·exact lB n
        ·exact l h e c d
       ·cases h
      ·rename_i k;rcases List.mem_cons.1 c with rfl |c
       ·rw[d]at k;cases k
       ·exact l h e c d
    exact this m e (by simpa using c) d
   |succ i=>have:=FT h i o j e c d;omega
  ·cases h
theorem pO(hp:e.Perm y):∀{E:List (List dY)},F2 W e E→∃c,F2 W y c∧E.flatten.Perm c.flatten:=by
 induction hp with
 |nil=>intro E h;exact⟨E,h,List.Perm.refl _⟩
 |cons x _ n=>
  intro E h
  cases E with
  |nil=>exact h.elim
  |cons es E=>
   obtain⟨c,d,f⟩:=n h.2;exact⟨es :: c,⟨h.1,d⟩,by simp only[List.flatten_cons];exact List.Perm.append_left _ f⟩
 |swap x o e=>
  intro E h
  cases E with
  |nil=>exact h.elim
  |cons es E=>
   cases E with
   |nil=>exact h.2.elim
   |cons i E=>
    refine⟨i :: es :: E,⟨h.2.1,h.1,h.2.2⟩,?_⟩;simp only[List.flatten_cons];rw[←fj,←fj];exact List.Perm.append_right _ List.perm_append_comm
 |trans _ _ l m=>
  intro E h;obtain⟨c,d,f⟩:=l h;obtain⟨g,j,k⟩:=m d;exact⟨g,j,f.trans k⟩
theorem oW(d:(e.map En.k).Nodup){c:En LV}(h:c ∈ e):eC e c.k=some c:=by
 induction e with
 |nil=>cases h
 |cons p r g=>
  simp only[List.map_cons,List.nodup_cons]at d;rw[ZU];rcases List.mem_cons.1 h with rfl |h
  ·rw[iP rfl]
  ·rw[iN λf=>d.1 (List.mem_map.2 ⟨c,h,Eq.symm f⟩)];exact g d.2 h
theorem Uy(c:(e.map En.k).Nodup):e.Nodup:=by
 induction e with
 |nil=>exact List.nodup_nil
 |cons p r d=>
  simp only[List.map_cons,List.nodup_cons]at c;exact List.nodup_cons.2 ⟨λh=>c.1 (List.mem_map.2 ⟨p,h,rfl⟩),d c.2⟩
theorem WJ(d:(e.map En.k).Nodup)(f:(y.map En.k).Nodup)(h:∀u,eC e u=eC y u):e.Perm y:=by
 refine(List.perm_ext_iff_of_nodup (Uy d) (Uy f)).2 λg=>⟨λc=>?_,λc=>?_⟩
 ·have:=oW d c;rw[h]at this;exact(Zv this).1
 ·have:=oW f c;rw[←h]at this;exact(Zv this).1
theorem dZ.look{N:Nat}{X:Nat→Prop}{a:Act}{v:Zb}(h:dZ N d m i u X j e a o f v n)(C:(y.map En.k).Nodup)(A:∀t,eC P t=eC j t)(B:∀k,eC y k=eC e k):dZ N d m i u X P y a o f v n:=by
 obtain⟨E,s,hp⟩:=h.lr;have p:Le u v f e v f y:=by
  have:=Le.refl (U:=u) s (Zb.le_refl v);exact⟨Zb.le_refl _,λk F I c=>this.l k F I (by rw[←B];exact c)⟩
 have q:=WJ h.nd C λk=>(B k).symm;obtain⟨D,G,H⟩:=pO q s;refine⟨h.st,λt g c=>?_,⟨D,G.imp λg c es J=>?_,hp.trans H⟩,C,λt g c=>h.uf t g ((A t)▸ c),λg c=>h.ul g (q.mem_iff.2 c),λx r l=>⟨jD p (h.gh x r l).2 (h.gh x r l).1,(h.gh x r l).2⟩⟩
 ·have w:=(A t)▸ c;exact jD p (h.uf t g w).1 (h.fr t g w)
 ·exact CP p (h.ul g (q.mem_iff.2 c)).2.2 rfl J
theorem fG.draw{N:Nat}{a:Act}(h:fG N d m i u j e a o):fG N d m i u j e a o.drew:=by
 obtain⟨c,v,f,h⟩:=h;exact⟨c,v,f,h.st.drew,h.fr,h.lr,h.nd,h.uf,h.ul,h.gh⟩
def sel(c:Array Bool):Nat→Bool:=λj=>c.getD j false
def UE(n:Nat)(c:Array Bool):Nat→Prop:=λk=>k<n∨ ∃j,c.getD j false=true∧k=n+j
structure wY(N:Nat)(G:V→Value→Prop)(w0:dW)(v0:Zb)(ops:Array Oper)(Ts:List (List Et))(f:Fr)(l:Lo)(n:Nat)(listed:Array Bool)(a:Act)(w:World):Prop where
 size:listed.size=ops.size
 closed:∀(j:Nat) (o:Oper),ops[j]?= some o→listed.getD j false=true→∀e ∈ o.after,Region.binds .any e=true→listed.getD e.on false=true
 rel:∃f1 l1,fG N G w0 v0 (UE n listed) f1 l1 a w∧(∀t,eC f1 t=gL iV (sel listed) Ts 0 (eC f t) t)∧∀t,eC l1 t=gL gC (sel listed) Ts 0 (eC l t) t
theorem Dn(c:kJ 0 r.toList=true)(hs:I.size=r.size):∀(n j:Nat),j<n→j<r.size→I.getD j true=false→Region.ready .any r I≠[]
 |0,j,h,_,_=>by omega
 |n+1,j,h,g,k=>by
  intro f
  by_cases hp:∃e ∈ (r[j]).after,Region.binds .any e=true∧I.getD e.on false=false
  ·obtain⟨e,d,i,l⟩:=hp
   have o:=FT c j r[j] (by simp[g]) e d i
   refine Dn c hs n e.on (by omega) (by omega) ?_ f
   rw[iG (by omega)];exact l
  ·have:j ∈ Region.ready .any r I:=mem_ready.2 ⟨k,r[j],by simp[g],λe d c=>by
    cases m:I.getD e.on false with
    |true=>rfl
    |false=>exact absurd ⟨e,d,c,m⟩ hp⟩
   rw[f]at this;cases this
theorem W4{N:Nat}(hC:e9 H){Ts:List (List Et)}(hb:kJ 0 r.toList=true)(ae:∀o ∈ r.toList,∀E,o.dst=some E→E<N)(hl:Ts.length=r.toList.length)(hn:(e.map En.k).Nodup)(ai:kx Ts j e)(b0:∀l o u,r.toList[l]?= some o→Ts[l]?= some u→Tr (g+l) (wB H r.toList (g+l) o) u ())(av:mc [] (gv r.toList []) (Ts.map λu=>ik u Fp.no)=true)(hQ:∀W L,fG N d m i (· < g+r.toList.length) (vX Ts j) (qx Ts e) W L→k .normal W L):∀(X:Nat) (n:Array Bool) (a:Act) (w:World),left n=X→wY N d m i r Ts j e g n a w→wpAny H.P .any r k X n a w:=by
 have an:∀(l c:Nat) (u f:List Et),l<c→Ts[l]?= some u→Ts[c]?= some f→∃K,(gv r.toList [])[c]?= some K∧(K.testBit l=true∨fp u f):=by
  intro l c u f a2 G J;obtain⟨K,F,Y⟩:=LJ av c (ik f Fp.no) (by simp[J]);refine⟨K,F,(Y l (ik u Fp.no) (by simp[G]) (by simpa using a2)).imp_right Ty⟩
 have am:∀(c:Nat) (f:List Et),Ts[c]?= some f→∃o,r[c]?= some o:=λc f h=>by
  have:=(List.getElem?_eq_some_iff.1 h).1;rw[hl]at this;exact⟨r[c]'(by simpa using this),by simp⟩
 intro X
 induction X with
 |zero=>
  intro n a w af C;have a1:∀c,n.getD c true=true:=λc=>GX af;refine⟨?_,?_⟩
  ·cases hx:Region.ready .any r n with
   |nil=>rfl
   |cons p b5=>
    obtain⟨F,_⟩:=mem_ready.1 (show p ∈ Region.ready .any r n by rw[hx];simp);rw[a1 p]at F;cases F
  ·obtain⟨f1,l1,⟨γ,v,aq,F⟩,Y,h3⟩:=C.rel;obtain⟨k1,k2,k3⟩:=Jc (b:=0) ai hn;have aj:∀(c:Nat) (f:List Et),Ts[c]?= some f→sel n (0+c)=true:=λc f h=>by
    obtain⟨o,ho⟩:=am c f h;rw[Nat.zero_add];show n.getD c false=true;rw[←iG (by rw[C.size];exact l4 ho)];exact a1 c
   refine hQ a w ⟨γ,v,aq,(F.look k1 (λt=>?_) λt=>?_).mono (λE hk=>?_) λE hk=>?_⟩
   ·rw[k2 t,Y t];exact(ql λc f s _=>(aj c f s)).symm
   ·rw[k3 t,h3 t];exact(ql λc f s _=>(aj c f s)).symm
   all_goals
    rcases hk with hk |⟨c,s,rfl⟩
    ·omega
    ·have:c<n.size:=by
      rcases Nat.lt_or_ge c n.size with h |h
      ·exact h
      ·simp[Array.getElem?_eq_none h]at s
     rw[C.size]at this;simp;omega
 |succ X ih=>
  intro n a w af C;refine⟨λh0=>?_,λl hi=>?_⟩
  ·obtain⟨c,s,a3⟩:=FI (listed:=n) (by omega);exact absurd h0 (Dn hb C.size (c+1) c (by omega) (by rw[←C.size];exact s) a3)
  ·obtain⟨ak,o,ho,a1⟩:=mem_ready.1 hi;have a5:l<n.size:=by rw[C.size];exact l4 ho
   have a8:n.getD l false=false:=by rw[←iG a5];exact ak
   have I:r.toList[l]?= some o:=by rw[Array.getElem?_toList];exact ho
   have ax:l<Ts.length:=by rw[hl];exact(List.getElem?_eq_some_iff.1 I).1
   have G:Ts[l]?= some Ts[l]:=List.getElem?_eq_getElem ax;generalize hg:Ts[l]=u at G;obtain⟨fi,li,b1,b2,b3,b4⟩:=LK (b:=0) ai hn G;obtain⟨f1,l1,⟨γ,v,aq,F⟩,Y,h3⟩:=C.rel;have ar:∀(c:Nat) (f:List Et),c<l→Ts[c]?= some f→n.getD c false=true∨fp f u:=by
    intro c f s J;obtain⟨K,R,S⟩:=an c l f u s J G;refine S.imp_left λa4=>?_;refine BD (S:=λE=>n.getD E false=true) (done:=[]) (λj' o' I hS=>C.closed j' o' (by rw[←Array.getElem?_toList];exact I) (by simpa using hS)) (λj' m' a7=>by simp at a7) l o K I (by simpa using R) a1 c a4
   have aa:∀(c:Nat) (f:List Et),l<c→Ts[c]?= some f→n.getD c false=false∨fp u f:=by
    intro c f s J;obtain⟨K,R,S⟩:=an l c u f s G J;refine S.imp_left λa4=>?_
    cases hx:n.getD c false with
    |false=>rfl
    |true=>
     obtain⟨oj,ah⟩:=am c f J;have:=BD (S:=λE=>n.getD E false=true) (done:=[]) (λj' o' I hS=>C.closed j' o' (by rw[←Array.getElem?_toList];exact I) (by simpa using hS)) (λj' m' a7=>by simp at a7) c oj K (by rw[Array.getElem?_toList];exact ah) (by simpa using R) (C.closed c oj ah hx) l a4;rw[a8]at this;cases this
   have ao:∀{U:Type} (B:List Et→Nat→Option U) (P:Nat→Prop) (M:U) (t:Nat),P t→(∀f,fp f u→P t→B f t≠none→False)→(∀f,fp u f→P t→B f t≠none→False)→gL B (λc=>decide (c<0+l)) Ts 0 M t=gL B (sel n) Ts 0 M t:=by
    intro U B P M t hP hA hB;refine ql λc f s A=>?_;simp only[Nat.zero_add];rcases Nat.lt_trichotomy c l with h |h |h
    ·rcases ar c f h s with q |q
     ·rw[eo h];exact q.symm
     ·exact(hA f q hP A).elim
    ·subst h;rw[eg (Nat.lt_irrefl _)];exact a8.symm
    ·rcases aa c f h s with q |q
     ·rw[eg (by omega)];exact q.symm
     ·exact(hB f q hP A).elim
   have a9:i9 u f1 l1:=by
    refine qB b2 F.nd b1 (λt ht=>?_) λt ht=>?_
    ·rw[b3 t,Y t];exact ao iV (rdS u) _ t ht (λf q hp A=>q.s1 t A hp) λf q hp A=>q.s3 t hp A
    ·rw[b4 t,h3 t];exact ao gC (rdL u) _ t ht (λf q hp A=>q.l1 t A hp) λf q hp A=>q.l3 t hp A
   have az:=L6 (b0 l o u I G) a9;have ay:¬UE g n (g+l):=by
    rintro(h |⟨c,s,D⟩)
    ·omega
    ·have:l=c:=by omega
     subst this;rw[a8]at s;cases s
   have a0:∀c,sel (n.setIfInBounds l true) c=if l=c then true else sel n c:=λc=>by
    by_cases h:l=c
    ·subst h;rw[iP rfl];exact jM a5
    ·rw[iN h];exact ir h
   have ab:∀E,UE g n E→UE g (n.setIfInBounds l true) E:=by
    rintro E (h |⟨c,s,D⟩)
    ·exact .inl h
    ·refine .inr ⟨c,?_,D⟩;have:=a0 c;unfold sel at this;rw[this,s];split <;> rfl
   have au:UE g (n.setIfInBounds l true) (g+l):=.inr ⟨l,jM a5,rfl⟩;have aw:=Nc (X:=UE g (n.setIfInBounds l true)) hC (F.mono (λ_ h=>h) ab) ab au ay ae (ae o (mG I)) az;have ap:∀{U:Type} (B:List Et→Nat→Option U) (M:U) (t:Nat),(∀f,fp u f→B u t≠none→B f t≠none→False)→gL B (sel (n.setIfInBounds l true)) Ts 0 M t=(B u t).getD (gL B (sel n) Ts 0 M t):=by
    intro U B M t hA
    cases Z:B u t with
    |none=>
     refine ql λc f s A=>?_;rw[Nat.zero_add,a0 c,iN];intro D;subst D;rw[G]at s;cases s;exact A Z
    |some z=>
     refine JX (k:=l) G (by rw[Nat.zero_add,a0 l,iP rfl]) Z λc f a2 J hs=>?_;rw[Nat.zero_add,a0 c,iN (by omega)]at hs;rcases aa c f a2 J with q |q
     ·rw[show sel n c=false from q]at hs;cases hs
     ·cases hx:B f t with
      |none=>rfl
      |some y=>exact(hA f q (by rw[Z];exact λD=>by cases D) (by rw[hx];exact λD=>by cases D)).elim
   have al:∀O Q W L,((()=()∧O=kD u f1∧Q=kQ u l1)∧True)→fG N d m i (UE g (n.setIfInBounds l true)) O Q W L→wpAny H.P .any r k X (n.setIfInBounds l true) W L:=by
    rintro O Q W L ⟨⟨_,rfl,rfl⟩,_⟩ hr;refine ih _ _ _ (by have:=BS ak;omega) ⟨by simp[C.size],λc oj s a6 D Z ad=>?_,_,_,hr,λt=>?_,λt=>?_⟩
    ·have a3:=a0 D.on;have ag:=a0 c;unfold sel at a3 ag;rw[a3];split
     ·rfl
     ·rw[ag]at a6;split at a6
      ·rename_i a2;subst a2;rw[ho]at s;cases s;exact a1 D Z ad
      ·exact C.closed c oj s a6 D Z ad
    ·rw[ni a9,Y t];exact(ap iV _ t λf q hp A=>q.s2 t hp A).symm
    ·rw[(mA F.nd a9).2 t,h3 t];exact(ap gC _ t λf q hp A=>q.l2 t hp A).symm
   unfold wpOp;rw[ho];rcases aw with⟨hw,hg⟩ |⟨hw,O,Q,R,S⟩
   ·simp only[hw,if_true];exact .inl (Gv rfl hg λx L ⟨O,Q,R,S⟩=>al O Q _ L ⟨⟨rfl,R.2⟩,trivial⟩ S)
   ·simp only[hw];exact al O Q _ w ⟨⟨rfl,R.2⟩,trivial⟩ S
theorem TF:∀{c:List Oper} {done:List Nat},(gv c done).length=done.length+c.length
 |[],done=>by simp[gv]
 |o :: c,done=>by
  simp only[gv]
  rw[TF]
  simp;omega
theorem Ns:∀{k:Nat},nJ c k=true→∀i,i<k→c.testBit i=true
 |0,_,_,h=>by omega
 |k+1,h,i,f=>by
  simp only[nJ]at h
  split at h
  ·rename_i e
   rcases Nat.lt_or_ge i k with d |d
   ·exact Ns h i d
   ·rw[show i=k by omega];exact e
  ·cases h
theorem Vy(h:Gi C=some A):C.dropLast++[A]=C∧A.guard=none∧∀i,i<C.dropLast.length→(kj (gv C.dropLast []) A.after.toList 0).testBit i=true:=by
 unfold Gi at h;split at h
 ·cases h
 ·rename_i q d;split at h
  ·cases h
  ·rename_i c;split at h
   ·rename_i e
    cases h
    refine⟨?_,?_,Ns e⟩
    ·rcases List.eq_nil_or_concat C with rfl |⟨L,b,rfl⟩
     ·cases d
     ·simp at d;subst d;simp
    ·unfold Pn at c;split at c
     ·rename_i f;exact f
     ·cases c
   ·cases h
theorem Hh{b:Bool}(h:¬g=c):(I.setIfInBounds c true).getD g b=I.getD g b:=by
 simp[Array.getD_eq_getD_getElem?,Array.getElem?_setIfInBounds_ne (Ne.symm h)]
theorem Oj{N:Nat}{G:V→Value→Prop}{w0:dW}{v0:Zb}(hC:e9 H){Ts:List (List Et)}{Q:Exit→Act→World→Prop}(J:r.toList.dropLast++[A]=r.toList)(K:A.guard=none)(az:∀i,i<r.toList.dropLast.length→(kj (gv r.toList.dropLast []) A.after.toList 0).testBit i=true)(hb:kJ 0 r.toList=true)(ak:∀o ∈ r.toList,∀k,o.dst=some k→k<N)(hl:Ts.length=r.toList.dropLast.length)(hn:(e.map En.k).Nodup)(ao:kx Ts j e)(bd:∀i o n,r.toList.dropLast[i]?= some o→Ts[i]?= some n→Tr (g+i) (wB H r.toList (g+i) o) n ())(b5:mc [] (gv r.toList.dropLast []) (Ts.map λn=>ik n Fp.no)=true)(hQ:∀R M,fG N G w0 v0 (· < g+r.toList.dropLast.length) (vX Ts j) (qx Ts e) R M→wpList H.P r Q [A] R M):∀(W:Nat) (f:Array Bool) (a:Act) (w:World),left f=W+1→f.getD r.toList.dropLast.length true=false→wY N G w0 v0 r Ts j e g f a w→wpAny H.P .any r Q (W+1) f a w:=by
 have bi:r.size=r.toList.dropLast.length+1:=by
  have:=congrArg List.length J;simp at this ⊢;omega
 have a7:∀{c:Nat} {o:Oper},r.toList.dropLast[c]?= some o→r[c]?= some o:=λ{c o} h=>by
  rw[←Array.getElem?_toList,←J,List.getElem?_append_left (List.getElem?_eq_some_iff.1 h).1];exact h
 have ae:r[r.toList.dropLast.length]?= some A:=by
  rw[←Array.getElem?_toList]
  conv=>lhs;rw[←J]
  simp
 have ar:∀(i c:Nat) (n d:List Et),i<c→Ts[i]?= some n→Ts[c]?= some d→∃m,(gv r.toList.dropLast [])[c]?= some m∧(m.testBit i=true∨fp n d):=by
  intro i c n d a3 L O;obtain⟨m,C,I⟩:=LJ b5 c (ik d Fp.no) (by simp[O]);refine⟨m,C,(I i (ik n Fp.no) (by simp[L]) (by simpa using a3)).imp_right Ty⟩
 have bg:∀(c:Nat) (d:List Et),Ts[c]?= some d→∃o,r.toList.dropLast[c]?= some o:=λc d h=>by
  have:=(List.getElem?_eq_some_iff.1 h).1;rw[hl]at this;exact⟨_,List.getElem?_eq_getElem this⟩
 have ab:∀{f:Array Bool} {a:Act} {w:World},wY N G w0 v0 r Ts j e g f a w→∀c o,r.toList.dropLast[c]?= some o→f.getD (([]:List Nat).length+c) false=true→∀s ∈ o.after,Region.binds .any s=true→f.getD s.on false=true:=λu c o F hS=>u.closed c o (a7 F) (by simpa using hS);intro W
 induction W with
 |zero=>
  intro f a w b6 Z u;have b9:r.toList.dropLast.length<f.size:=by rw[u.size];omega
  have h0:left (f.setIfInBounds r.toList.dropLast.length true)=0:=by have:=BS Z;omega
  have ai:∀c,(f.setIfInBounds r.toList.dropLast.length true).getD c true=true:=λc=>GX h0;have a1:∀c,c≠r.toList.dropLast.length→c<f.size→f.getD c false=true:=λc l a0=>by
   have:=ai c;rw[←iG a0];rw[Hh l]at this;exact this
  refine⟨λh0=>?_,λi hi=>?_⟩
  ·exact absurd h0 (Dn hb u.size (r.toList.dropLast.length+1) r.toList.dropLast.length (by omega) (by omega) Z)
  ·obtain⟨a6,o,F,bh⟩:=mem_ready.1 hi;have X:i<f.size:=by rw[u.size];exact l4 F
   have b8:i=r.toList.dropLast.length:=by
    rcases Nat.decEq i r.toList.dropLast.length with h |h
    ·have:=a1 i h X;rw[←iG X,a6]at this;cases this
    ·exact h
   subst b8;rw[ae]at F
   cases F
   obtain⟨f1,l1,⟨γ,v,aw,C⟩,I,E⟩:=u.rel;obtain⟨k1,k2,k3⟩:=Jc (b:=0) ao hn;have ap:∀(c:Nat) (d:List Et),Ts[c]?= some d→sel f (0+c)=true:=λc d h=>by
    have l:=(List.getElem?_eq_some_iff.1 h).1;rw[hl]at l;rw[Nat.zero_add];exact a1 c (by omega) (by omega)
   have hw:=hQ a w ⟨γ,v,aw,(C.look k1 (λt=>by rw[k2 t,I t];exact(ql λc d l _=>(ap c d l).symm)) λt=>by rw[k3 t,E t];exact(ql λc d l _=>(ap c d l).symm)).mono (λk hk=>?_) λk hk=>?_⟩
   ·unfold wpOp;rw[ae];unfold wpList at hw;have bf:Region.wanted A (yielded r a.tmps)=true:=jS K;simp only[bf,if_true]at hw ⊢;refine hw.imp_left (Oper.wp_mono λR M hq=>⟨?_,hq⟩)
    cases hx:Region.ready .any r (f.setIfInBounds r.toList.dropLast.length true) with
    |nil=>rfl
    |cons p bj=>
     obtain⟨C,_⟩:=mem_ready.1 (show p ∈ Region.ready .any r (f.setIfInBounds r.toList.dropLast.length true) by rw[hx];simp);rw[ai p]at C;cases C
   all_goals
    rcases hk with hk |⟨c,l,rfl⟩
    ·omega
    ·have a0:c<f.size:=by
      rcases Nat.lt_or_ge c f.size with h |h
      ·exact h
      ·simp[Array.getElem?_eq_none h]at l
     have B:c≠r.toList.dropLast.length:=λs=>by
      rw[s,←iG b9,Z]at l;cases l
     rw[u.size]at a0;show g+c<g+_;omega
 |succ W ih=>
  intro f a w b6 Z u;refine⟨λh0=>?_,λi hi=>?_⟩
  ·exact absurd h0 (Dn hb u.size (r.toList.dropLast.length+1) r.toList.dropLast.length (by omega) (by omega) Z)
  ·obtain⟨a6,o,F,a1⟩:=mem_ready.1 hi;have X:i<f.size:=by rw[u.size];exact l4 F
   have ad:f.getD i false=false:=by rw[←iG X];exact a6
   have B:i≠r.toList.dropLast.length:=by
    intro s;subst s;rw[ae]at F
    cases F
    have b0:∀c,c<r.toList.dropLast.length→f.getD c false=true:=λc l=>by
     rcases FJ (az c l) with h |⟨s,C,I,E⟩
     ·simp at h
     ·have hS:=a1 s (by simpa using C) I;rcases E with E |E
      ·rw[E];exact hS
      ·cases K:(gv r.toList.dropLast [])[s.on]? with
       |none=>rw[List.getD_eq_getElem?_getD,K]at E;simp at E
       |some m=>
        rw[List.getD_eq_getElem?_getD,K]at E;have a0:s.on<r.toList.dropLast.length:=by
         have:=(List.getElem?_eq_some_iff.1 K).1;rw[TF]at this;simpa using this
        have am:=List.getElem?_eq_getElem a0;exact BD (S:=λk=>f.getD k false=true) (done:=[]) (ab u) (λj' m' a4=>by simp at a4) s.on _ m am (by simpa using K) (u.closed s.on _ (a7 am) hS) c E
    have h0:left (f.setIfInBounds r.toList.dropLast.length true)=W+1:=by have:=BS Z;omega
    obtain⟨c,l,Y⟩:=FI (listed:=f.setIfInBounds r.toList.dropLast.length true) (by omega);have a9:c<f.size:=by simpa using l
    rcases Nat.decEq c r.toList.dropLast.length with h |h
    ·have C:=b0 c (by rw[u.size]at a9;omega);rw[←iG a9]at C;rw[Hh h,C]at Y;cases Y
    ·subst h;have:(f.setIfInBounds r.toList.dropLast.length true).getD r.toList.dropLast.length true=true:=by simp[a9]
     rw[this]at Y;cases Y
   have ba:i<r.toList.dropLast.length:=by
    rw[u.size]at X;omega
   have a5:r.toList.dropLast[i]?= some o:=by
    have:=List.getElem?_eq_getElem ba;rw[this];have I:=a7 this;rw[F]at I;exact I.symm
   have a0:i<Ts.length:=by rw[hl];exact(List.getElem?_eq_some_iff.1 a5).1
   have L:Ts[i]?= some Ts[i]:=List.getElem?_eq_getElem a0;generalize K:Ts[i]=n at L;obtain⟨fi,li,b1,b2,b3,b4⟩:=LK (b:=0) ao hn L;obtain⟨f1,l1,⟨γ,v,aw,C⟩,I,E⟩:=u.rel;have ax:∀(c:Nat) (d:List Et),c<i→Ts[c]?= some d→f.getD c false=true∨fp d n:=by
    intro c d l O;obtain⟨m,q1,q2⟩:=ar c i d n l O L;refine q2.imp_left λa8=>?_;refine BD (S:=λk=>f.getD k false=true) (done:=[]) (ab u) (λj' m' a4=>by simp at a4) i o m a5 (by simpa using q1) a1 c a8
   have ag:∀(c:Nat) (d:List Et),i<c→Ts[c]?= some d→f.getD c false=false∨fp n d:=by
    intro c d l O;obtain⟨m,q1,q2⟩:=ar i c n d l L O;refine q2.imp_left λa8=>?_
    cases hx:f.getD c false with
    |false=>rfl
    |true=>
     obtain⟨oj,an⟩:=bg c d O;have:=BD (S:=λk=>f.getD k false=true) (done:=[]) (ab u) (λj' m' a4=>by simp at a4) c oj m an (by simpa using q1) (u.closed c oj (a7 an) hx) i a8;rw[ad]at this;cases this
   have au:∀{β:Type} (D:List Et→Nat→Option β) (P:Nat→Prop) (S:β) (t:Nat),P t→(∀d,fp d n→P t→D d t≠none→False)→(∀d,fp n d→P t→D d t≠none→False)→gL D (λc=>decide (c<0+i)) Ts 0 S t=gL D (sel f) Ts 0 S t:=by
    intro β D P S t hP hA hB;refine ql λc d l B=>?_;simp only[Nat.zero_add];rcases Nat.lt_trichotomy c i with h |h |h
    ·rcases ax c d h l with q |q
     ·rw[eo h];exact q.symm
     ·exact(hA d q hP B).elim
    ·subst h;rw[eg (Nat.lt_irrefl _)];exact ad.symm
    ·rcases ag c d h l with q |q
     ·rw[eg (by omega)];exact q.symm
     ·exact(hB d q hP B).elim
   have af:i9 n f1 l1:=by
    refine qB b2 C.nd b1 (λt ht=>?_) λt ht=>?_
    ·rw[b3 t,I t];exact au iV (rdS n) _ t ht (λd q hp B=>q.s1 t B hp) λd q hp B=>q.s3 t hp B
    ·rw[b4 t,E t];exact au gC (rdL n) _ t ht (λd q hp B=>q.l1 t B hp) λd q hp B=>q.l3 t hp B
   have bc:=L6 (bd i o n a5 L) af;have bb:¬UE g f (g+i):=by
    rintro(h |⟨c,l,s⟩)
    ·omega
    ·have:i=c:=by omega
     subst this;rw[ad]at l;cases l
   have a2:∀c,sel (f.setIfInBounds i true) c=if i=c then true else sel f c:=λc=>by
    by_cases h:i=c
    ·subst h;rw[iP rfl];exact jM X
    ·rw[iN h];exact ir h
   have ah:∀k,UE g f k→UE g (f.setIfInBounds i true) k:=by
    rintro k (h |⟨c,l,s⟩)
    ·exact .inl h
    ·refine .inr ⟨c,?_,s⟩;have:=a2 c;unfold sel at this;rw[this,l];split <;> rfl
   have ay:UE g (f.setIfInBounds i true) (g+i):=.inr ⟨i,jM X,rfl⟩;have b7:=Nc (X:=UE g (f.setIfInBounds i true)) hC (C.mono (λ_ h=>h) ah) ah ay bb ak (ak o (by rw[←J];exact List.mem_append_left _ (mG a5))) bc;have av:∀{β:Type} (D:List Et→Nat→Option β) (S:β) (t:Nat),(∀d,fp n d→D n t≠none→D d t≠none→False)→gL D (sel (f.setIfInBounds i true)) Ts 0 S t=(D n t).getD (gL D (sel f) Ts 0 S t):=by
    intro β D S t hA
    cases J:D n t with
    |none=>
     refine ql λc d l B=>?_;rw[Nat.zero_add,a2 c,iN];intro s;subst s;rw[L]at l;cases l;exact B J
    |some z=>
     refine JX (k:=i) L (by rw[Nat.zero_add,a2 i,iP rfl]) J λc d a3 O hs=>?_;rw[Nat.zero_add,a2 c,iN (by omega)]at hs;rcases ag c d a3 O with q |q
     ·rw[show sel f c=false from q]at hs;cases hs
     ·cases hx:D d t with
      |none=>rfl
      |some y=>exact(hA d q (by rw[J];exact λs=>by cases s) (by rw[hx];exact λs=>by cases s)).elim
   have aq:∀U l' R M,((()=()∧U=kD n f1∧l'=kQ n l1)∧True)→fG N G w0 v0 (UE g (f.setIfInBounds i true)) U l' R M→wpAny H.P .any r Q (W+1) (f.setIfInBounds i true) R M:=by
    rintro U l' R M ⟨⟨_,rfl,rfl⟩,_⟩ hr;refine ih _ _ _ (by have:=BS a6;omega) (by
     rw[Hh (Ne.symm B)];exact Z) ⟨by simp[u.size],λc oj l aa s J aj=>?_,_,_,hr,λt=>?_,λt=>?_⟩
    ·have Y:=a2 s.on;have al:=a2 c;unfold sel at Y al;rw[Y];split
     ·rfl
     ·rw[al]at aa;split at aa
      ·rename_i a3;subst a3;rw[F]at l;cases l;exact a1 s J aj
      ·exact u.closed c oj l aa s J aj
    ·rw[ni af,I t];exact(av iV _ t λd q hp B=>q.s2 t hp B).symm
    ·rw[(mA C.nd af).2 t,E t];exact(av gC _ t λd q hp B=>q.l2 t hp B).symm
   unfold wpOp;rw[F];rcases b7 with⟨hw,K⟩ |⟨hw,U,l',q1,q2⟩
   ·simp only[hw,if_true];exact .inl (Gv rfl K λx M ⟨U,l',q1,q2⟩=>aq U l' _ M ⟨⟨rfl,q1.2⟩,trivial⟩ q2)
   ·simp only[hw];exact aq U l' _ w ⟨⟨rfl,q1.2⟩,trivial⟩ q2
def ns(N:Nat)(G:V→Value→Prop)(j:dW)(i:Zb)(n:Nat)(f:Fr)(l:Lo)(p:Fr→Lo→Nat→Prop)(S:Act→World→Prop):Prop :=
 ∀ c d e g h,p c d e→n≤e→eX n f l c d→fG N G j i (· < e) c d g h→S g h
theorem ns.step{N:Nat}{p:Fr→Lo→Nat→Prop}(h:ns N d m i g j e p U)(k:g≤w)(l:eX g j e P y):ns N d m i w P y p U :=
 λf q r c s hp t n o=>h f q r c s hp (by omega) (l.trans n k) o
theorem rP{N:Nat}(D:e9 H){id:Nat}{a:Act}(K:H.P.follows .mixedOrders=true)(F:kJ 0 r.toList=true)(I:∀A ∈ r.toList,∀y,A.dst=some y→y<N)(f:(pn H r.toList r.toList j e w λj e w O=>match mc [] (gv r.toList []) O with
   |true=>t j e w
   |false=>none)=some L)(c:fG N d m i (· < w) j e a o)(E:ns N d m i w j e (λj e w=>t j e w=some L) (k .normal)):(Code.region id r true).wp H.P k a o:=by
 obtain⟨B,p,q,s,l⟩:=Ia f;split at l
 ·rename_i G;have x:(e.map En.k).Nodup:=by obtain⟨_,_,_,c⟩:=c;exact c.nd
  refine wp_region_any K ?_;have n:∀g,(Array.replicate r.size false).getD g false=false:=λg=>getD_replicate_false _ _;have J:left (Array.replicate r.size false)=r.size:=by simp[left]
  refine W4 D (Ts:=B) F I p x q s G (λC Q M=>E _ _ _ C Q l (by omega) (IC (Nat.le_refl w) p q x s) M) r.size _ a o.drew J ⟨by simp,λg A _ u=>?_,j,e,?_,λP=>?_,λP=>?_⟩
  ·rw[n]at u;cases u
  ·obtain⟨R,v,S,c⟩:=c.draw;exact⟨R,v,S,c.mono (λ_ f=>.inl f) λ_ f=>.inl f⟩
  ·exact(oM λg _ _ hs=>by rw[show sel _ _=false from n _]at hs;cases hs).symm
  ·exact(oM λg _ _ hs=>by rw[show sel _ _=false from n _]at hs;cases hs).symm
 ·cases l
def we(C:Cf)(cf:fq):Prop:=∀{j:Type} {g:FuncId} {i:V} {l:Lo} {n:Nat} {K:V→Lo→Nat→Option j} {r:j},cf j g i l n K=some r→∀{N:Nat} {G:V→Value→Prop} {p:dW} {m:Zb} {a:Act} {w:World} {q:Nat→Gh} {v:Zb} {u:List dY} {o:List Value},
 dZ N G p m (· < n) (· < n) [] l a w q v u→RR v q l true i o→i.ok (· < n)→ZT C.P g∧Calls C.P g o.toArray w λe t=>∃y c h d s k x,e= .returned y∧K c h d=some r∧n≤d∧(∀f,eX n f l f h)∧dZ N G p m (· < d) (· < d) [] h a t s k x∧RV k s h (po c) y∧(po c).ok (· < d)
theorem O3{N:Nat}{X:Nat→Prop}{a:Act}{v:Zb}(k:dZ N d m i u X j e a o f v n):∀{g:List Operand} {c:V},Hi j g=some c→RR v f e true c (g.map a.eval)∧c.ok u
 |[],c,h=>by cases h;exact⟨rfl,trivial⟩
 |x :: g,c,h=>by
  simp only[Hi]at h
  split at h
  ·cases h
  ·rename_i D E t q r
   cases h
   obtain⟨y,A⟩:=MP k q
   obtain⟨B,C⟩:=O3 k r
   obtain⟨l,s,w⟩:=jv y (λc p=>t c (by rw[p]))
   exact⟨⟨l,_,by rw[List.map_cons,w],s,B⟩,A,C⟩
  ·cases h
theorem PL{v:Zb}:∀{c d:V} {g i:List Value},RR v f e true c g→RR v f e true d i→c.ok u→d.ok u→RR v f e true (rh c d) (g++i)∧(rh c d).ok u
 |.nl,d,g,i,h,k,_,j=>by rw[show g=[] from h];exact⟨k,j⟩
 |.cons a b,d,g,i,⟨m,s,n,o,p⟩,k,l,j=>by
  subst n
  obtain⟨q,r⟩:=PL (c:=b) p k l.2 j
  exact⟨⟨m,_,rfl,o,q⟩,l.1,r⟩
theorem sf{N:Nat}{cf:fq}(a8:we H cf){I:FuncId}{a:Act}{v:Zb}(p:Ih H j A=some (I,O))(E:lL cf A I O P e g t=some L)(M:dZ N d m i (· < g) (· < g) j e a o f v n)(Y:dZ N d m i (· < g) (· < g) P e a o f v n)(hd:∀k,A.dst=some k→k<N):jB H.P A a o λx S=>∃G C r,t G C r=some L∧g≤r∧eX g P e G C∧fG N d m i (· < r) G C (a.put A.dst x) S:=by
 obtain⟨D,op,ty,af,a2,gd⟩:=A;unfold Ih at p;split at p
 ·rename_i c K;have K:op= .call c:=K;subst K;obtain⟨a4,F,a3⟩:=c;split at p
  ·rename_i x Q;have Q:a4= .value x:=Q;subst Q;split at p
   ·rename_i g' ah w;split at p
    ·cases p
    ·split at p
     ·rename_i ag a6
      cases p
      unfold lL at E
      cases D with
      |none=>cases E
      |some D=>
       obtain⟨q1,q2⟩:=MP M w;obtain⟨cs,⟨vs,q3,rfl⟩,R⟩:=q1;have R:a.eval x= .func (.func I) #[] vs.toArray:=R;obtain⟨q5,q6⟩:=O3 M a6;obtain⟨q7,q8⟩:=PL q5 q3 q6 q2;have J:∀k,k<g→k<g+1:=λk E=>by omega
       let G':V→Value→Prop:=λx y=>d x y∨ ∃q l,eC P q=some l∧x=l.x∧y=a.tmps.getD q undef
       have ab:dZ N G' m i (· < g+1) (· < g+1) [] e a o f v n:=by
        have B:=Y.mono J J;refine⟨B.st,λq l s=>(by cases s),B.lr,B.nd,λq l s=>(by cases s),B.ul,λx y w=>?_⟩;rcases w with w |⟨q,l,U,rfl,rfl⟩
        ·exact B.gh x y w
        ·exact⟨B.fr q l U,(B.uf q l U).1⟩
       obtain⟨a9,a7⟩:=a8 E ab q7 (V.ok.mono J q8);obtain⟨σ,ae,W⟩:=M.st.evs (x :: F.toList);have X:=W x (by simp);rw[R]at X;have a5:F.toList.map (ev σ)=(F.toList.map a.eval).map some:=by
        rw[List.map_map];exact List.map_congr_left λy hy=>W y (by simp[hy])
       have ad:=X0 (d:=some D) (ty:=ty) (pos:=af) (aft:=a2) (g:=gd) (ats:=a3) ae _ _ a9 X a5;refine o5 ad (Calls.mono a7 λl S ⟨y,c,C,r,a0,Z,a1,e1,e2,e3,e4,u,e6,e7⟩=>⟨y,e1,_,C,r,e2,by omega,((e4 P).mono (by omega)).trans (eX.put (Nat.le_refl g)) (Nat.le_refl g),a0,Z,a1,?_⟩);have aa:dZ N d m i (· < r) (· < r) P C a S a0 Z a1:=by
        refine⟨u.st,λq l s=>(u.gh _ _ (.inr ⟨q,l,s,rfl,rfl⟩)).1,u.lr,u.nd,λq l s=>⟨(u.gh _ _ (.inr ⟨q,l,s,rfl,rfl⟩)).2,?_⟩,u.ul,λx y w=>u.gh x y (.inl w)⟩;have:=(Y.uf q l s).2;show l.st<r;have:l.st<g:=this;omega
       exact aa.put (hd D rfl) e6 e7 (show g<r by omega)
     ·cases p
   ·cases p
  ·cases p
 ·cases p
theorem si{N:Nat}{cf:fq}(a1:we H cf){Q:FuncId}{a:Act}(hi:Ih H j A=some (Q,O))(c:zo cf r.toList A Q O j e g t=some L)(l:fG N d m i (· < g) j e a o)(a2:∀A ∈ r.toList,∀f,A.dst=some f→f<N)(hd:∀f,A.dst=some f→f<N)(Z:ns N d m i g j e (λj e g=>t j e g=some L) λa o=>wpList H.P r k C a o):wpList H.P r k (A :: C) a o:=by
 obtain⟨γ,v,a0,l⟩:=l;have Y:∀{u:Fr},eX g j e u e→dZ N d m i (· < g) (· < g) u e a o γ v a0→Region.wanted A (yielded r a.tmps)=true→lL cf A Q O u e g t=some L→wpList H.P r k (A :: C) a o:=λS M U c=>
  md U (IU (sf a1 hi c l M hd) λx w' ⟨P,W,n',e1,e2,e3,e4⟩=>Z P W n' _ w' e1 e2 (S.trans e3 (Nat.le_refl g)) e4)
 have X:∀{u:Fr},eX g j e u e→dZ N d m i (· < g) (· < g) u e a o γ v a0→Region.wanted A (yielded r a.tmps)=false→GM A u e g t=some L→wpList H.P r k (A :: C) a o:=λS M U c=>by
  have D:=DT (Nat.le_refl g) eX.refl M.nd (BM c);obtain⟨P,W,⟨q1,q2⟩,q3⟩:=HU (X:=(· < g+1)) (M.mono (λ_ c=>c) λf c=>(show f<g+1 by have:f<g:=c;omega)) (λf c=>(show f<g+1 by have:f<g:=c;omega)) (Nat.lt_succ_self g) hd D;unfold wpList;rw[iN (by rw[U];decide)];exact Z P W _ _ o q1 (by omega) (S.trans q2 (Nat.le_refl g)) q3
 unfold zo at c;split at c
 ·rename_i y;exact Y eX.refl l (jS y) c
 ·rename_i a4 a5 y;split at c
  ·rename_i q hq;split at c
   ·rename_i n ht;have G:n<N:=a2 q (mG hq) n ht;have F:(r[a4]?).bind (·.dst)=some n:=by rw[←Array.getElem?_toList,hq];exact ht
    obtain⟨σ,I,a3⟩:=l.st.evs [.tmp n];have B:look σ n=some (a.tmps.getD n undef):=a3 (.tmp n) (by simp);split at c
    ·rename_i p s b w;have R:p=n:=(Zv w).2;subst R;have E:a.tmps.getD p undef= .bool b:=xY (l.fr p _ w);rw[E]at B;have J:=dZ.dup l w;have K:=eX.dup (m:=g) (l:=e) w
     cases a5 <;> cases b
     ·exact Y K J (pV I y F B G) c
     ·exact X K J (Er I y F B G) c
     ·exact X K J (Er I y F B G) c
     ·exact Y K J (pV I y F B G) c
    ·rename_i p s w;have R:p=n:=(Zv w).2;subst R;obtain⟨cs,D,E⟩:=l.fr p _ w;have D:cs=[undef]:=D;subst D;have E:a.tmps.getD p undef=undef:=E;rw[E]at B;exact X eX.refl l (qq I y F B G) c
    ·cases c
   ·cases c
  ·cases c
theorem AY{N:Nat}(u:e9 H){cf:fq}(x:we H cf)(p:∀o ∈ r.toList,∀e,o.dst=some e→e<N):∀{s:List Oper} {f:Fr} {l:Lo} {n:Nat} {a:Act} {w:World},ll H cf r.toList s f l n t=some L→(∀o ∈ s,o ∈ r.toList)→
  fG N d m i (· < n) f l a w→ns N d m i n f l (λf l n=>t f l n=some L) (k .normal)→wpList H.P r k s a w
 |[],f,l,n,a,w,c,_,j,q=>q f l n a w c (Nat.le_refl n) eX.refl j
 |o :: s,f,l,n,a,w,c,A,j,q=>by
  have E:=p o (A o (by simp))
  simp only[ll]at c
  split at c
  ·obtain⟨R,v,S,j⟩:=j
   have I:=DT (Nat.le_refl n) eX.refl j.nd (BM c)
   refine(Nc u (X:=(· < n+1)) (j.mono (λ_ c=>c) λe c=>(show e<n+1 by have:e<n:=c;omega)) (λe c=>(show e<n+1 by have:e<n:=c;omega)) (Nat.lt_succ_self n) (Nat.lt_irrefl n) p E I).list λG K F O ⟨B,C⟩ D=>?_
   exact AY u x p B (λo y=>A o (by simp[y])) D (q.step (by omega) C)
  ·rename_i g P J
   refine si x J c j p E λG K Q F O B C D M=>?_
   exact AY u x p B (λo y=>A o (by simp[y])) M (q.step C D)
theorem Yg{N:Nat}(y:e9 H){cf:fq}(O:we H cf){id:Nat}{a:Act}(q:Gi r.toList=some A)(S:H.P.follows .mixedOrders=true)(M:kJ 0 r.toList=true)(B:∀A ∈ r.toList,∀F,A.dst=some F→F<N)(f:(pn H r.toList r.toList.dropLast j e w λj e w Z=>match mc [] (gv r.toList.dropLast []) Z with
   |true=>ll H cf r.toList [A] j e w t
   |false=>none)=some L)(c:fG N d m i (· < w) j e a o)(J:ns N d m i w j e (λj e w=>t j e w=some L) (k .normal)):(Code.region id r true).wp H.P k a o:=by
 obtain⟨I,s,u,x,p⟩:=Ia f;obtain⟨l,Q,K⟩:=Vy q;split at p
 ·rename_i P;have D:(e.map En.k).Nodup:=by obtain⟨_,_,_,c⟩:=c;exact c.nd
  have E:r.size=r.toList.dropLast.length+1:=by
   have:=congrArg List.length l;simp at this ⊢;omega
  have a2:∀A ∈ r.toList.dropLast,A ∈ r.toList:=λA q=>by rw[←l];exact List.mem_append_left _ q
  have W:A ∈ r.toList:=by rw[←l];simp
  refine wp_region_any S ?_;have n:∀g,(Array.replicate r.size false).getD g false=false:=λg=>getD_replicate_false _ _;have R:left (Array.replicate r.size false)=r.toList.dropLast.length+1:=by rw[←E];simp[left]
  have G:=Oj (G:=d) (w0:=m) (v0:=i) (Q:=k) y (Ts:=I) l Q K M B s D u x P (λa' w' Y=>?_) r.toList.dropLast.length (Array.replicate r.size false) a o.drew R ?_ ⟨by simp,λg A _ C=>?_,j,e,?_,λa0=>?_,λa0=>?_⟩
  ·rw[←E]at G;exact G
  ·have X:=IC (Nat.le_refl w) s u D x;exact AY y O B p (λo' U=>by rcases List.mem_singleton.1 U with rfl;exact W) Y (J.step (by omega) X)
  ·rw[iG (by rw[Array.size_replicate];omega)];exact n _
  ·rw[n]at C;cases C
  ·obtain⟨γ,v,a1,c⟩:=c.draw;exact⟨γ,v,a1,c.mono (λ_ f=>.inl f) λ_ f=>.inl f⟩
  ·exact(oM λg _ _ hs=>by rw[show sel _ _=false from n _]at hs;cases hs).symm
  ·exact(oM λg _ _ hs=>by rw[show sel _ _=false from n _]at hs;cases hs).symm
 ·cases p
theorem Ez:∀{d:List Oper},Ci c d=true→∀o ∈ d,∀k,o.dst=some k→k<c
 |[],_,_,h,_,_=>by cases h
 |o :: d,h,j,e,k,f=>by
  simp only[Ci]at h
  rcases List.mem_cons.1 e with rfl |e
  ·rw[f]at h
   simp only at h
   split at h
   ·rename_i i;exact lB i
   ·cases h
  ·have g:Ci c d=true:=by
    split at h
    ·split at h
     ·exact h
     ·cases h
    ·exact h
   exact Ez g j e k f
theorem B9(h:O.isAgg=G.isAgg):O.val F=G.vl F:=by
 unfold V.val CT.vl;rw[h]
 cases G.isAgg <;> rfl
theorem Mh{v:Zb}(h:v.le B):∀{c:CT} {m:Bool} {x:c.den} {g:List Value} {es:List dY},CR v c m x g es→CR B c m x g es:=by
 intro c
 induction c with
 |dat t=>intro m x g es k;cases m <;> first |exact⟨ee.mono _ h k.1,k.2⟩ |exact k
 |own w t=>
  intro m x g es k;cases m
  ·obtain⟨ob,q,d,e,f,i⟩:=k;exact⟨ob,q,d,e,ZQ h f,i⟩
  ·exact k
 |mat w C t=>
  intro m x g es k;cases m
  ·obtain⟨ob,q,A,y,e,f,i⟩:=k;exact⟨ob,q,A,y,e,mn h f,i⟩
  ·exact k
 |nl=>intro m x g es k;cases m <;> exact k
 |one a j=>
  intro m x g es k;cases m
  ·exact j (m:=false) k
  ·obtain⟨c,e,f⟩:=k;exact⟨c,e,j f⟩
 |cons a b s u=>
  intro m x g es k;cases m
  ·obtain⟨l,p,n,r,e,f,i,o⟩:=k;exact⟨l,p,n,r,e,f,s i,u o⟩
  ·obtain⟨l,p,n,r,e,f,i,o⟩:=k;exact⟨l,p,n,r,e,f,s i,u o⟩
 |agg c j=>intro m x g es k;cases m <;> first |exact j (m:=false) k |exact k
 |box w c j=>
  intro m x g es k;cases m
  ·obtain⟨b,l,n,e,f,i,o⟩:=k;exact⟨b,l,n,e,j f,i,o⟩
  ·exact k
theorem pk{c es r:List h}:(c++(es++r)).Perm (es++(c++r)):=by
 rw[←fj,←fj];exact List.Perm.append_right _ List.perm_append_comm
theorem XH{t:T}{k:t.den→Ev h}{v:Zb}(d:Zn c (conv g t O k) j e x)(i:RR v f e β O F):β=false:=by
 cases β with
 |false=>rfl
 |true=>
  cases g with
  |zero=>exact d.elim
  |succ g=>cases O <;> first |exact i.elim |(simp only[conv]at d;exact d.elim)
theorem vw{N:Nat}{w0:dW}{U:Nat→Prop}{X:Nat→Prop}{a:Act}(hn:¬U g)(hX:X g):∀(a0:Nat) {c:CT} {x:V} {K:c.den→Ev h} {l:Lo} {a6:h→Fr→Lo→Prop} {C:Nat→Gh} {v:Zb} {a2 ex:List dY} {m:Bool} {cs:List Value},
  Zn g (fP a0 c x K) j l a6→dZ N d w0 i U X j l a o C v a2→St N w0 i [] (ex++a2) v a o→x.ok U→RR v C l m x cs→
  ∃ z l' a4 Z a5 es,Zn g (K z) j l' a6∧dZ N d w0 i U X j l' a o a4 Z a5∧St N w0 i [] (es++(ex++a5)) Z a o∧Le U v C l Z a4 l'∧CR Z c m z cs es∧x.isAgg=c.isAgg
 |0,_,_,_,_,_,_,_,_,_,_,_,f,_,_,_,_=>f.elim
 |a0+1,c,x,K,l,a6,C,v,a2,ex,m,cs,f,p,R,hk,n=>by
  obtain⟨E,hE,_⟩:=p.lr
  have aa:Le U v C l v C l:=Le.refl hE (Zb.le_refl _)
  cases c with
  |dat t=>
   simp only[fP]at f
   have hm:=XH f n
   subst hm
   have ah:=xX FU f
   obtain⟨y,F,H,G,I,s,w,A,q,B⟩:=iT hn hX FU f p R hk
   exact⟨y,F,H,G,I,[],s,w,A,q,⟨B _ n,rfl⟩,ah⟩
  |own ty t=>
   cases x with
   |own u=>
    cases m with
    |true=>exact n.elim
    |false=>
    simp only[fP]at f
    obtain⟨e,Q,f⟩:=f
    obtain⟨O,st,L⟩:=e
    have a1:O=u:=(Zv Q).2
    subst a1
    obtain⟨y,rfl,_,W⟩:=n
    have W:=W _ Q
    obtain⟨es,E',r,_,_,h3,h4⟩:=p.del Q
    cases L with
    |own ae t' xs fz=>
     cases fz with
     |true=>exact f.elim
     |false=>
      simp only at f
      split at f
      ·rename_i ys S a8
       have S:=eH S
       subst S
       obtain⟨c3,c4⟩:=fK a8
       cases c3;cases c4
       obtain⟨ob,a3,a7,P,g2,rfl⟩:=r
       have P:C O= .own ob a3:=P
       obtain⟨ai,af,g3,g4⟩:=W
       rw[P]at g3;cases g3
       exact⟨_,_,_,_,_,_,f,h4,R.perm ((List.Perm.append_left ex h3).trans pk),Le.era p O,⟨ob,a3,a7,by rw[g4],g2,rfl⟩,rfl⟩
      ·exact f.elim
    |box _ _=>exact f.elim
    |mid _ _ _ _ _ _=>exact f.elim
    |mat _ _ _ _ _=>exact f.elim
   |nilS=>
    cases m with
    |true=>exact n.elim
    |false=>
    simp only[fP]at f
    have n:cs=[.slice none 0 0]:=n
    subst n
    exact⟨_,l,C,v,a2,[.own none ty t.n 0 0 []],f,p,R.nilLoc ty t.n,aa,⟨none,0,[],rfl,rfl,rfl⟩,rfl⟩
   |_=>simp only[fP]at f;exact f.elim
  |mat ty an t=>
   cases x with
   |own u=>
    cases m with
    |true=>exact n.elim
    |false=>
    simp only[fP]at f
    obtain⟨e,Q,f⟩:=f
    obtain⟨O,st,L⟩:=e
    have a1:O=u:=(Zv Q).2
    subst a1
    obtain⟨y,rfl,_,W⟩:=n
    have W:=W _ Q
    obtain⟨es,E',r,_,_,h3,h4⟩:=p.del Q
    cases L with
    |mat ae ao t' mm hv=>
     simp only at f
     split at f
     ·rename_i m' S a9 a8
      have S:=eH S
      have a9:=eH a9
      subst S a9
      obtain⟨c3,c4⟩:=fK a8
      cases c3;cases c4
      obtain⟨ob,a3,ad,ag,P,g2,rfl⟩:=r
      have P:C O= .mat ob a3 ad:=P
      obtain⟨ai,af,am,g3,g4⟩:=W
      rw[P]at g3;cases g3
      exact⟨_,_,_,_,_,_,f,h4,R.perm ((List.Perm.append_left ex h3).trans pk),Le.era p O,⟨ob,a3,ad,ag,by rw[g4],g2,rfl⟩,rfl⟩
     ·exact f.elim
    |box _ _=>exact f.elim
    |mid _ _ _ _ _ _=>exact f.elim
    |own _ _ _ _=>exact f.elim
   |nilS=>
    cases m with
    |true=>exact n.elim
    |false=>
    simp only[fP]at f
    have n:cs=[.slice none 0 0]:=n
    subst n
    exact⟨_,l,C,v,a2,[.own none ty 1 0 0 []],f,p,R.nilLoc ty 1,aa,⟨none,0,[],[],rfl,rfl,rfl⟩,rfl⟩
   |_=>simp only[fP]at f;exact f.elim
  |nl=>
   cases x with
   |nl=>
    simp only[fP]at f
    have n:cs=[]:=by cases m <;> exact n
    exact⟨_,l,C,v,a2,[],f,p,R,aa,(by cases m <;> exact⟨n,rfl⟩),rfl⟩
   |_=>simp only[fP]at f;exact f.elim
  |one c=>
   cases x with
   |cons x1 x2=>
    cases x2 with
    |nl=>
     simp only[fP]at f
     cases m with
     |false=>
      obtain⟨D,c2,rfl,r,J⟩:=n
      have J:c2=[]:=J
      subst J
      obtain⟨z,F,H,G,I,es,s,w,A,q,B,Y⟩:=vw hn hX a0 f p R hk.1 r
      exact⟨z,F,H,G,I,es,s,w,A,q,(by rw[List.append_nil];exact B),rfl⟩
     |true=>
      obtain⟨D,xs,rfl,r,J⟩:=n
      have J:xs=[]:=J
      subst J
      obtain⟨z,F,H,G,I,es,s,w,A,q,B,Y⟩:=vw hn hX a0 f p R hk.1 r
      exact⟨z,F,H,G,I,es,s,w,A,q,⟨D,(by rw[B9 Y]),B⟩,rfl⟩
    |_=>simp only[fP]at f;exact f.elim
   |_=>simp only[fP]at f;exact f.elim
  |cons c a7=>
   cases x with
   |cons x1 x2=>
    simp only[fP]at f
    have step:∀{D:List Value} {m2:Bool} {c2:List Value},RR v C l false x1 D→RR v C l m2 x2 c2→∃z l' a4 Z a5 M e2,Zn g (K z) j l' a6∧dZ N d w0 i U X j l' a o a4 Z a5∧St N w0 i [] ((M++e2)++(ex++a5)) Z a o∧Le U v C l Z a4 l'∧CR Z c false z.1 D M∧CR Z a7 m2 z.2 c2 e2∧x1.isAgg=c.isAgg:=by
     intro D m2 c2 r J;obtain⟨z1,F,H,G,I,M,s,w,A,q,B,Y⟩:=vw hn hX a0 f p R hk.1 r;obtain⟨z2,l2,ak,v2,al,e2,q1,q2,q3,q4,q5,q6⟩:=vw hn hX a0 (ex:=M++ex) s w (by rw[fj];exact A) hk.2 (jl q hk.2 J);refine⟨(z1,z2),l2,ak,v2,al,M,e2,q1,q2,q3.perm ?_,q.trans q4,Mh q4.v B,q5,Y⟩;rw[fj,fj];exact pk
    cases m with
    |false=>
     obtain⟨D,c2,rfl,r,J⟩:=n;obtain⟨z,F,H,G,I,M,e2,s,w,A,q,B,Y,k7⟩:=step r J;exact⟨z,F,H,G,I,_,s,w,A,q,⟨D,c2,M,e2,rfl,rfl,B,Y⟩,rfl⟩
    |true=>
     obtain⟨D,xs,rfl,r,J⟩:=n;obtain⟨z,F,H,G,I,M,e2,s,w,A,q,B,Y,k7⟩:=step r J;exact⟨z,F,H,G,I,_,s,w,A,q,⟨D,xs,M,e2,by rw[B9 k7],rfl,B,Y⟩,rfl⟩
   |_=>simp only[fP]at f;exact f.elim
  |agg c=>
   cases x with
   |agg x1=>
    cases m with
    |true=>exact n.elim
    |false=>
    simp only[fP]at f;obtain⟨z,F,H,G,I,es,s,w,A,q,B,Y⟩:=vw hn hX a0 (x:=x1) (m:=false) f p R hk n;exact⟨z,F,H,G,I,es,s,w,A,q,B,rfl⟩
   |_=>simp only[fP]at f;exact f.elim
  |box ty c=>
   cases x with
   |ptr u aj=>
    cases aj with
    |succ k=>simp only[fP]at f;exact f.elim
    |zero=>
    cases m with
    |true=>exact n.elim
    |false=>
    simp only[fP]at f;obtain⟨e,Q,f⟩:=f;obtain⟨O,st,L⟩:=e;obtain⟨hm,a1⟩:=Zv Q;have a1:O=u:=a1;subst a1;obtain⟨y,rfl,_,W⟩:=n;have W:=W _ Q;obtain⟨es,E',r,_,_,h3,h4⟩:=p.del Q
    cases L with
    |box ae x1=>
     simp only at f;split at f
     ·rename_i S;have S:=eH S;subst S;obtain⟨b,D,P,g2,g3,rfl⟩:=r;have P:C O= .box b:=P;obtain⟨b',g4,g5⟩:=W;rw[P]at g4;cases g4;have ab:x1.ok U:=(p.ul _ hm).2.2;obtain⟨z,F,H,G,I,M,s,w,A,q,B,Y⟩:=vw hn hX a0 (ex:=.box b ty D :: ex) f h4 (R.perm ((List.Perm.append_left ex h3).trans pk)) ab (jl (Le.era p O) ab g2);refine⟨z,F,H,G,I,.box b ty D :: M,s,w,A.perm ?_,(Le.era p O).trans q,⟨b,D,M,by rw[g5],B,g3,rfl⟩,rfl⟩;exact List.perm_middle
     ·exact f.elim
    |own _ _ _ _=>exact f.elim
    |mid _ _ _ _ _ _=>exact f.elim
    |mat _ _ _ _ _=>exact f.elim
   |_=>simp only[fP]at f;exact f.elim
theorem VZ{K:G.den→Ev h}(d:Zn c (fP g G (.tup O) K) j e x):False:=by
 cases g with
 |zero=>exact d
 |succ g=>
  cases G with
  |dat t=>
   simp only[fP]at d;have:∀(g:Nat),Zn c (conv g t (.tup O) K) j e x→False:=λg d=>by cases g <;> exact d
   exact this _ d
  |_=>simp only[fP]at d;exact d
theorem F2.append{R:h→α→Prop}:∀{l d:List h} {m e:List α},F2 R l m→F2 R d e→F2 R (l++d) (m++e)
 |[],_,[],_,_,k=>k
 |_ :: _,_,_ :: _,_,c,k=>⟨c.1,F2.append c.2 k⟩
 |[],_,_ :: _,_,c,_=>c.elim
 |_ :: _,_,[],_,c,_=>c.elim
theorem K8{la:Lo}(h:∀e ∈ la++y,R e.k=(if e.k ∈ la.map En.k then f e.k else J e.k)∧eC Y e.k=some e):∀e ∈ la,R e.k=f e.k∧eC Y e.k=some e:=λe d=>by
 obtain⟨c,g⟩:=h e (List.mem_append_left _ d)
 rw[iP (List.mem_map.2 ⟨e,d,rfl⟩)]at c
 exact⟨c,g⟩
theorem MI{la:Lo}(i:∀e ∈ y,e.k ∉ la.map En.k)(h:∀e ∈ la++y,R e.k=(if e.k ∈ la.map En.k then f e.k else J e.k)∧eC Y e.k=some e):∀e ∈ y,R e.k=J e.k∧eC Y e.k=some e:=λe d=>by
 obtain⟨c,g⟩:=h e (List.mem_append_right _ d)
 rw[iN (i e d)]at c
 exact⟨c,g⟩
theorem G0{la:Lo}(c:(la.map En.k).Nodup)(d:(y.map En.k).Nodup)(f:∀e ∈ y,e.k ∉ la.map En.k):((la++y).map En.k).Nodup:=by
 rw[List.map_append];refine List.nodup_append.2 ⟨c,d,λx h j i e=>?_⟩;subst e;obtain⟨e,g,rfl⟩:=List.mem_map.1 i;exact f e g h
theorem Ux{v:Zb}:∀(c:CT) {m:Bool} {z:c.den} {w:List Value} {es:List dY} (n:Nat) {x:V} {l2:Lo} {n2:Nat},CR v c m z w es→Zl c z n=(x,l2,n2)→
  n≤n2∧(∀e ∈ l2,n≤e.k∧e.k<n2∧n≤e.st∧e.st<n2∧e.x.ok (· < n2) (· < n2))∧(l2.map En.k).Nodup∧x.ok (· < n2)∧x.isAgg=c.isAgg∧
  ∃ q:Nat→Gh,∀(g:Nat→Gh) (l:Lo),(∀e ∈ l2,g e.k=q e.k∧eC l e.k=some e)→RR v g l m x w∧∃E,F2 (gQ v g l) l2 E∧es.Perm E.flatten:=by
 intro c
 induction c with
 |dat t=>
  intro m z w es n x l2 n2 h j
  cases m with
  |true=>exact h.elim
  |false=>
  cases j
  obtain⟨G,rfl⟩:=h;exact⟨Nat.le_refl _,λe f=>(by cases f),List.nodup_nil,trivial,rfl,λ_=>.box 0,λg l _=>⟨G,[],trivial,List.Perm.refl _⟩⟩
 |own ty t=>
  intro m z w es n x l2 n2 h j
  cases m with
  |true=>exact h.elim
  |false=>
  cases j
  obtain⟨ob,F,d,rfl,A,rfl⟩:=h;refine⟨Nat.le_succ _,λe f=>?_,?_,Nat.lt_succ_self n,rfl,λ_=>.own ob F,λg l i=>?_⟩
  ·rcases List.mem_singleton.1 f with rfl;exact⟨Nat.le_refl _,Nat.lt_succ_self _,Nat.le_refl _,Nat.lt_succ_self _,trivial⟩
  ·exact List.nodup_cons.2 ⟨by simp,List.nodup_nil⟩
  ·obtain⟨B,O⟩:=i _ (List.mem_singleton.2 rfl);refine⟨⟨_,rfl,rfl,λe f=>?_⟩,[_],⟨⟨ob,F,d,B,A,rfl⟩,trivial⟩,List.Perm.refl _⟩;rw[show eC l n=_ from O]at f;cases f;exact⟨ob,F,B,rfl⟩
 |mat ty a5 t=>
  intro m z w es n x l2 n2 h j
  cases m with
  |true=>exact h.elim
  |false=>
  cases j
  obtain⟨ob,F,a0,a1,rfl,A,rfl⟩:=h;refine⟨Nat.le_succ _,λe f=>?_,?_,Nat.lt_succ_self n,rfl,λ_=>.mat ob F a0,λg l i=>?_⟩
  ·rcases List.mem_singleton.1 f with rfl;exact⟨Nat.le_refl _,Nat.lt_succ_self _,Nat.le_refl _,Nat.lt_succ_self _,Nat.lt_succ_self n⟩
  ·exact List.nodup_cons.2 ⟨by simp,List.nodup_nil⟩
  ·obtain⟨B,O⟩:=i _ (List.mem_singleton.2 rfl);refine⟨⟨_,rfl,rfl,λe f=>?_⟩,[_],⟨⟨ob,F,a0,a1,B,A,rfl⟩,trivial⟩,by simp⟩;rw[show eC l n=_ from O]at f;cases f;exact⟨ob,F,a0,B,rfl⟩
 |nl=>
  intro m z w es n x l2 n2 h j
  cases j
  have h:w=[]∧es=[]:=by cases m <;> exact h
  obtain⟨rfl,rfl⟩:=h;exact⟨Nat.le_refl _,λe f=>(by cases f),List.nodup_nil,trivial,rfl,λ_=>.box 0,λg l _=>⟨by cases m <;> rfl,[],trivial,List.Perm.refl _⟩⟩
 |one c K=>
  intro m z w es n x l2 n2 h j;have j:((.cons (Zl c z n).1 .nl:V),(Zl c z n).2.1,(Zl c z n).2.2)=(x,l2,n2):=j
  cases j
  cases m with
  |false=>
   obtain⟨r,p,s,u,C,q,o⟩:=K n (x:=(Zl c z n).1) (l2:=(Zl c z n).2.1) (n2:=(Zl c z n).2.2) h rfl;exact⟨r,p,s,⟨u,trivial⟩,rfl,q,λg l i=>⟨⟨w,[],by simp,(o g l i).1,rfl⟩,(o g l i).2⟩⟩
  |true=>
   obtain⟨y,rfl,h⟩:=h;obtain⟨r,p,s,u,C,q,o⟩:=K n (x:=(Zl c z n).1) (l2:=(Zl c z n).2.1) (n2:=(Zl c z n).2.2) h rfl;exact⟨r,p,s,⟨u,trivial⟩,rfl,q,λg l i=>⟨⟨y,[],by rw[B9 C],(o g l i).1,rfl⟩,(o g l i).2⟩⟩
 |cons c d ia ib=>
  intro m z w es n x l2 n2 h j;have j:((.cons (Zl c z.1 n).1 (Zl d z.2 (Zl c z.1 n).2.2).1:V),(Zl c z.1 n).2.1++(Zl d z.2 (Zl c z.1 n).2.2).2.1,(Zl d z.2 (Zl c z.1 n).2.2).2.2)=(x,l2,n2):=j
  cases j
  have step:∀{y D:List Value} {Y:Bool} {I M:List dY},CR v c false z.1 y I→CR v d Y z.2 D M→es=I++M→n≤(Zl d z.2 (Zl c z.1 n).2.2).2.2∧(∀e ∈ (Zl c z.1 n).2.1++(Zl d z.2 (Zl c z.1 n).2.2).2.1,n≤e.k∧e.k<(Zl d z.2 (Zl c z.1 n).2.2).2.2∧n≤e.st∧e.st<(Zl d z.2 (Zl c z.1 n).2.2).2.2∧e.x.ok (· < (Zl d z.2 (Zl c z.1 n).2.2).2.2) (· < (Zl d z.2 (Zl c z.1 n).2.2).2.2))∧(((Zl c z.1 n).2.1++(Zl d z.2 (Zl c z.1 n).2.2).2.1).map En.k).Nodup∧((Zl c z.1 n).1.ok (· < (Zl d z.2 (Zl c z.1 n).2.2).2.2)∧(Zl d z.2 (Zl c z.1 n).2.2).1.ok (· < (Zl d z.2 (Zl c z.1 n).2.2).2.2))∧(Zl c z.1 n).1.isAgg=c.isAgg∧
    ∃ q:Nat→Gh,∀(g:Nat→Gh) (l:Lo),(∀e ∈ (Zl c z.1 n).2.1++(Zl d z.2 (Zl c z.1 n).2.2).2.1,g e.k=q e.k∧eC l e.k=some e)→RR v g l false (Zl c z.1 n).1 y∧RR v g l Y (Zl d z.2 (Zl c z.1 n).2.2).1 D∧∃E,F2 (gQ v g l) ((Zl c z.1 n).2.1++(Zl d z.2 (Zl c z.1 n).2.2).2.1) E∧es.Perm E.flatten:=by
   intro y D Y I M G A f;obtain⟨r,p,s,u,C,a3,o⟩:=ia n (x:=(Zl c z.1 n).1) (l2:=(Zl c z.1 n).2.1) (n2:=(Zl c z.1 n).2.2) G rfl;obtain⟨S,U,Z,q4,q5,a4,q6⟩:=ib (Zl c z.1 n).2.2 (x:=(Zl d z.2 (Zl c z.1 n).2.2).1) (l2:=(Zl d z.2 (Zl c z.1 n).2.2).2.1) (n2:=(Zl d z.2 (Zl c z.1 n).2.2).2.2) A rfl;have J:∀e ∈ (Zl d z.2 (Zl c z.1 n).2.2).2.1,e.k ∉ ((Zl c z.1 n).2.1).map En.k:=λe f X=>by
    obtain⟨e',a2,N⟩:=List.mem_map.1 X;have:=(p e' a2).2.1;have:=(U e f).1;omega
   have R:∀k,k<(Zl c z.1 n).2.2→k<(Zl d z.2 (Zl c z.1 n).2.2).2.2:=λk N=>Nat.lt_of_lt_of_le N S;refine⟨Nat.le_trans r S,λe f=>?_,G0 s Z J,⟨V.ok.mono R u,q4⟩,C,λk=>if k ∈ ((Zl c z.1 n).2.1).map En.k then a3 k else a4 k,λg l i=>⟨(o g l (K8 i)).1,(q6 g l (MI J i)).1,?_⟩⟩
   ·rcases List.mem_append.1 f with f |f
    ·obtain⟨L,H,W,P,Q⟩:=p e f;exact⟨L,R _ H,W,R _ P,LV.ok.mono R R Q⟩
    ·obtain⟨L,H,W,P,Q⟩:=U e f;exact⟨Nat.le_trans r L,H,Nat.le_trans r W,P,Q⟩
   ·obtain⟨E1,g1,g2⟩:=(o g l (K8 i)).2;obtain⟨E2,g3,g4⟩:=(q6 g l (MI J i)).2;exact⟨E1++E2,g1.append g3,by rw[f,List.flatten_append];exact g2.append g4⟩
  cases m with
  |false=>
   obtain⟨y,D,I,M,rfl,f,G,A⟩:=h;obtain⟨r,p,s,u,C,q,o⟩:=step G A f;exact⟨r,p,s,u,rfl,q,λg l i=>⟨⟨y,D,rfl,(o g l i).1,(o g l i).2.1⟩,(o g l i).2.2⟩⟩
  |true=>
   obtain⟨y,D,I,M,rfl,f,G,A⟩:=h;obtain⟨r,p,s,u,C,q,o⟩:=step G A f;exact⟨r,p,s,u,rfl,q,λg l i=>⟨⟨y,D,by rw[B9 C],(o g l i).1,(o g l i).2.1⟩,(o g l i).2.2⟩⟩
 |agg c K=>
  intro m z w es n x l2 n2 h j
  cases m with
  |true=>exact h.elim
  |false=>
  have j:((.agg (Zl c z n).1:V),(Zl c z n).2.1,(Zl c z n).2.2)=(x,l2,n2):=j
  cases j
  obtain⟨r,p,s,u,C,q,o⟩:=K (m:=false) n (x:=(Zl c z n).1) (l2:=(Zl c z n).2.1) (n2:=(Zl c z n).2.2) h rfl;exact⟨r,p,s,u,rfl,q,o⟩
 |box ty c K=>
  intro m z w es n x l2 n2 h j
  cases m with
  |true=>exact h.elim
  |false=>
  have j:((.ptr n 0:V),(⟨n,n,.box ty (Zl c z (n+1)).1⟩ :: (Zl c z (n+1)).2.1:Lo),(Zl c z (n+1)).2.2)=(x,l2,n2):=j
  cases j
  obtain⟨b,y,I,rfl,A,h3,rfl⟩:=h;obtain⟨r,p,s,u,C,q,o⟩:=K (m:=false) (n+1) (x:=(Zl c z (n+1)).1) (l2:=(Zl c z (n+1)).2.1) (n2:=(Zl c z (n+1)).2.2) A rfl;have J:∀e ∈ (Zl c z (n+1)).2.1,e.k≠n:=λe f N=>by have:=(p e f).1;omega
  refine⟨by omega,λe f=>?_,List.nodup_cons.2 ⟨λX=>?_,s⟩,(show n<_ by omega),rfl,λk=>if k=n then .box b else q k,λg l i=>?_⟩
  ·rcases List.mem_cons.1 f with rfl |f
   ·exact⟨Nat.le_refl _,(show n<_ by omega),Nat.le_refl _,(show n<_ by omega),u⟩
   ·obtain⟨L,H,W,P,Q⟩:=p e f;exact⟨by omega,H,by omega,P,Q⟩
  ·obtain⟨e,f,N⟩:=List.mem_map.1 X;exact J e f N
  ·obtain⟨B,O⟩:=i _ List.mem_cons_self;have B:g n= .box b:=by rw[show g n=_ from B];exact iP rfl
   obtain⟨S,E,U,Z⟩:=o g l λe f=>by
    obtain⟨L,H⟩:=i e (List.mem_cons_of_mem _ f);exact⟨L.trans (iN (J e f)),H⟩
   refine⟨⟨_,rfl,rfl,λe f=>?_⟩,[_] :: E,⟨⟨b,y,B,S,h3,rfl⟩,U⟩,by rw[List.flatten_cons];exact List.Perm.cons _ Z⟩;rw[show eC l n=_ from O]at f;cases f;exact⟨b,B,rfl⟩
theorem Xu{v:Zb}(h:v.le B){z:G.den}{g:Gh}{es:List dY}(k:pN v G z g es):pN B G z g es:=by
 cases G with
 |own m t=>obtain⟨ob,i,d,c,e,f⟩:=k;exact⟨ob,i,d,c,ZQ h e,f⟩
 |mat m q t=>obtain⟨ob,i,l,j,c,e,f⟩:=k;exact⟨ob,i,l,j,c,mn h e,f⟩
 |box m G=>obtain⟨b,n,o,c,e,f,p⟩:=k;exact⟨b,n,o,c,Mh h e,f,p⟩
 |agg G=>cases G with
  |mat m q t=>obtain⟨ob,i,l,j,c,e,f⟩:=k;exact⟨ob,i,l,j,c,mn h e,f⟩
  |_=>exact k.elim
 |_=>exact k.elim
def Bl(p:Nat→Prop)(h:Nat):(c:CT)→c.den→LV→Prop
 |.own d t,z,L=>L= .own d t z false
 |.mat d e t,z,L=>∃f,p f∧L= .mat d e t z f
 |.box d _,_,L=>∃x,L= .box d x
 |.agg (.mat d e t),z,L=>L= .mat d e t z h
 |_,_,_=>False
theorem ZyB{d e h:LV}(i:CE u f J c g w d e)(j:CE u J R c w Z e h):CE u f R c g Z d h:=CE.tr i j
theorem JS{q:Nat→Prop}{x p:LV}(n:∀k,u k→q k)(e:R c=J c)(d:CE q f J c g w x p):CE u f R c g w x p:=by
  cases x <;> cases p <;> simp only[CE]at d ⊢
  · rw[e,d]
  · exact⟨e.trans d.1,d.2.1,d.2.2.1,λh=>d.2.2.2 (n _ h)⟩
  all_goals first
    |exact⟨e.trans d.1,d.2⟩
    |exact e.trans d
    |(obtain⟨ob,m,o,i,j,l⟩:=d;exact⟨ob,m,o,i,e.trans j,l⟩)
    | (obtain⟨i,j,⟨ob,m,o,y,l,r,s⟩,t⟩:=d
       exact⟨i,j,⟨ob,m,o,y,l,e.trans r,λh=>s (n _ h)⟩,λh=>t (n _ h)⟩)
theorem pM{n0 r:Nat}{z:G.den}{L p:LV}{v:Zb}{es:List dY}(l:∀k,n0≤k→¬u k)(hs:n0≤w)(h:Bl (λ_=>True) r G z L)(j:Bl (n0≤·) r G z p)(m:J c=f c)(q:pN v G z (f c) es):CE u f J c g w L p:=by
 cases G with
 |own o t=>subst h;subst j;exact⟨m,rfl,rfl,λe=>absurd e (l _ hs)⟩
 |mat o C t=>
  obtain⟨D,_,rfl⟩:=h;obtain⟨E,y,rfl⟩:=j;obtain⟨ob,n,i,s,d,A,B⟩:=q;exact⟨rfl,rfl,⟨ob,n,i,i,d,m.trans d,λe=>absurd e (l _ y)⟩,λe=>absurd e (l _ hs)⟩
 |box o G=>obtain⟨x,rfl⟩:=h;obtain⟨F,rfl⟩:=j;exact m
 |agg G=>cases G with
  |mat o C t=>
   subst h;subst j;obtain⟨ob,n,i,s,d,A,B⟩:=q;exact⟨rfl,rfl,⟨ob,n,i,i,d,m.trans d,λ_=>⟨rfl,rfl,rfl⟩⟩,λe=>absurd e (l _ hs)⟩
  |_=>exact h.elim
 |_=>exact h.elim
theorem J2{N:Nat}{U:Nat→Prop}{X:Nat→Prop}{a:Act}(hn:¬U g)(hX:X g)(hu:U Z){K:G.den→Ev h}{v:Zb}{ex:List dY}(c:Zn g (mI w G Z K) j e x)(p:dZ N d m i U X j e a o f v n)(M:St N m i [] (ex++n) v a o):
  ∃ z O a3 P a4 es e0,Zn g (K z) j O x∧dZ N d m i U X j O a o a3 P a4∧St N m i [] (es++(ex++a4)) P a o∧Le U v f e P a3 O∧pN P G z (f Z) es∧eC e Z=some e0∧eC O Z=none∧Bl (λ_=>True) w G z e0.x:=by
 cases G with
 |own J t=>
  simp only[mI]at c;obtain⟨s,k,c⟩:=c;obtain⟨q,st,L⟩:=s;have r:q=Z:=(Zv k).2;subst r;obtain⟨es,Q,A,_,_,B,C⟩:=p.del k
  cases L with
  |own a0 t' xs fz=>
   cases fz with
   |true=>exact c.elim
   |false=>
    simp only at c;split at c
    ·rename_i ys l I;have l:=eH l;subst l;obtain⟨E,F⟩:=fK I
     cases E;cases F
     obtain⟨ob,H,a5,u,y,rfl⟩:=A;exact⟨_,_,_,_,_,_,_,c,C,M.perm ((List.Perm.append_left ex B).trans pk),Le.era p q,⟨ob,H,a5,u,y,rfl⟩,k,DW (jQ p.nd).2,rfl⟩
    ·exact c.elim
  |box _ _=>exact c.elim
  |mid _ _ _ _ _ _=>exact c.elim
  |mat _ _ _ _ _=>exact c.elim
 |mat J a6 t=>
  simp only[mI]at c;obtain⟨s,k,c⟩:=c;obtain⟨q,st,L⟩:=s;have r:q=Z:=(Zv k).2;subst r;obtain⟨es,Q,A,_,_,B,C⟩:=p.del k
  cases L with
  |mat a0 a7 t' mm hv=>
   simp only at c;split at c
   ·rename_i m' l D I;have l:=eH l;have D:=eH D;subst l D;obtain⟨E,F⟩:=fK I
    cases E;cases F
    obtain⟨ob,H,Y,S,u,y,rfl⟩:=A;exact⟨_,_,_,_,_,_,_,c,C,M.perm ((List.Perm.append_left ex B).trans pk),Le.era p q,⟨ob,H,Y,S,u,y,rfl⟩,k,DW (jQ p.nd).2,hv,trivial,rfl⟩
   ·exact c.elim
  |box _ _=>exact c.elim
  |mid _ _ _ _ _ _=>exact c.elim
  |own _ _ _ _=>exact c.elim
 |box J G=>
  simp only[mI]at c;obtain⟨s,k,c⟩:=c;obtain⟨q,st,L⟩:=s;obtain⟨hm,r⟩:=Zv k;have r:q=Z:=r;subst r;obtain⟨es,Q,A,_,_,B,C⟩:=p.del k
  cases L with
  |box a0 x1=>
   simp only at c;split at c
   ·rename_i l;have l:=eH l;subst l;obtain⟨b,R,u,y,g3,rfl⟩:=A;have a2:x1.ok U:=(p.ul _ hm).2.2;obtain⟨z,l1,a8,v1,a9,e1,k1,k2,k3,k4,k5,k6⟩:=vw hn hX FU (ex:=.box b J R :: ex) c C (M.perm ((List.Perm.append_left ex B).trans pk)) a2 (jl (Le.era p q) a2 y);refine⟨z,l1,a8,v1,a9,.box b J R :: e1,_,k1,k2,k3.perm ?_,(Le.era p q).trans k4,⟨b,R,e1,u,k5,g3,rfl⟩,k,?_,x1,rfl⟩
    ·exact List.perm_middle
    ·cases hx:eC l1 q with
     |none=>rfl
     |some e'=>
      obtain⟨s,a1,_⟩:=k4.l q e' hu hx;rw[DW (jQ p.nd).2]at a1;cases a1
   ·exact c.elim
  |own _ _ _ _=>exact c.elim
  |mid _ _ _ _ _ _=>exact c.elim
  |mat _ _ _ _ _=>exact c.elim
 |agg G=>cases G with
  |mat J a6 t=>
   simp only[mI]at c;obtain⟨s,k,c⟩:=c;obtain⟨q,st,L⟩:=s;have r:q=Z:=(Zv k).2;subst r;obtain⟨es,Q,A,_,_,B,C⟩:=p.del k
   cases L with
   |mat a0 a7 t' mm hv=>
    simp only at c;split at c
    ·rename_i m' l D I W;have l:=eH l;have D:=eH D;have W:=eH W;subst l D W;obtain⟨E,F⟩:=fK I
     cases E;cases F
     obtain⟨ob,H,Y,S,u,y,rfl⟩:=A;exact⟨_,_,_,_,_,_,_,c,C,M.perm ((List.Perm.append_left ex B).trans pk),Le.era p q,⟨ob,H,Y,S,u,y,rfl⟩,k,DW (jQ p.nd).2,rfl⟩
    ·exact c.elim
   |box _ _=>exact c.elim
   |mid _ _ _ _ _ _=>exact c.elim
   |own _ _ _ _=>exact c.elim
  |_=>simp only[mI]at c;exact c.elim
 |_=>simp only[mI]at c;exact c.elim
theorem C0:∀(g:Nat) {x z:V} {q n:Nat} {m:Bool} {U:Nat→Prop},f8 g x q n m=some z→x.ok U→z.ok U
 |0,_,_,_,_,_,_,h,_=>by cases h
 |g+1,x,z,q,n,m,U,h,d=>by
  have e:∀{y:V},(match Nat.beq q 0,Nat.beq y.size n,rU y.isAgg m with
    |true,true,true=>some y
    |_,_,_=>match y with
     |.agg c=>f8 g c q n m
     |.data t x=>match kr t x with
      |some c=>f8 g c q n m
      |none=>none
     |_=>none)=some z→y.ok U→z.ok U:=by
   intro y k d;split at k
   ·cases k;exact d
   ·split at k
    ·exact C0 g k d
    ·split at k
     ·rename_i s;exact C0 g k (ON s)
     ·cases k
    ·cases k
  cases x with
  |nl=>simp only[f8]at h;cases h
  |cons a b=>
   simp only[f8]at h;split at h
   ·exact C0 g h d.1
   ·split at h
    ·exact C0 g h d.2
    ·cases h
  |data t x=>exact e (y:=.data t x) h d
  |agg c=>exact e (y:=.agg c) h d
  |nilS=>exact e (y:=.nilS) h d
  |own u=>exact e (y:=.own u) h d
  |row u i p l t r=>exact e (y:=.row u i p l t r) h d
  |ptr u o=>exact e (y:=.ptr u o) h d
  |el u i l t x o=>exact e (y:=.el u i l t x o) h d
  |rp u i p l t r=>exact e (y:=.rp u i p l t r) h d
  |rel u i j p l t r x o=>exact e (y:=.rel u i j p l t r x o) h d
  |vp t x o=>exact e (y:=.vp t x o) h d
  |tup c=>exact e (y:=.tup c) h d
  |fn f c=>exact e (y:=.fn f c) h d
  |ifc f c=>exact e (y:=.ifc f c) h d
  |undef=>exact e (y:=.undef) h d
structure H0(G:V→Value→Prop)(n0:Nat)(f0:Fr)(l0:Lo):Prop where
 f:∀t e,eC f0 t=some e→e.x.ok (· < n0)∧e.st<n0
 l:∀e ∈ l0,e.k<n0∧e.st<n0∧e.x.ok (· < n0) (· < n0)
 nd:(l0.map En.k).Nodup
 g:∀x y,G x y→x.ok (· < n0)
theorem fG.h0{N:Nat}{a:Act}(h:fG N d m i (· < g) j e a o):H0 d g j e:=by
 obtain⟨f,v,k,h⟩:=h;exact⟨h.uf,h.ul,h.nd,λx y c=>(h.gh x y c).2⟩
theorem sc(f:H0 d c j e)(u:Nat):hZ e u≤c:=by
 unfold hZ;split
 ·rename_i g;exact Nat.le_of_lt (f.l _ (Zv g).1).2.2
 ·exact Nat.zero_le _
theorem Qs(h:IF O=some c)(d:O.ok (· < g)):c<g:=by
 unfold IF at h;split at h
 ·cases h;exact d
 ·cases h;exact d
 ·cases h
theorem M1(g:H0 d c j e):∀{p:Pl} {u:Nat},lD j e p=some u→u<c
 |.sl s,u,h=>by
  simp only[lD]at h
  split at h
  ·rename_i k f;exact Qs h (g.f _ _ f).1
  ·cases h
 |.fld p l,u,h=>by
  simp only[lD]at h
  split at h
  ·split at h
   ·rename_i f
    split at h
    ·rename_i i
     have:=(g.l _ (Zv f).1).2.2
     exact Qs h (C0 FU i this)
    ·cases h
   ·cases h
  ·cases h
def k9(a:Act)(v:Zb)(t:Nat)(c:CT)(z:c.den)(es:List dY):Prop:=∃d,a.tmps.getD t undef=c.vl d∧CR v c false z d es
def kX(v:Zb)(m:Nat→Gh)(l:Lo)(e:Nat)(k:Fr)(h:Lo)(u:Nat)(p:Pl)(c:CT)(z:c.den)(es:List dY):Prop :=
 lD k h p=some u∧∃g d,eC l u=some d∧pN v c z g es∧∀(j:Nat→Gh) (i:Nat) (f:LV),j u=g→e≤i→Bl (e≤·) (hZ h u) c z f→CE (· < e) m j u d.st i d.x f
def pR(a:Act)(v:Zb)(j:Nat→Gh)(l:Lo)(i:Nat)(g:Fr)(h:Lo):(vs:List Vr)→(wx (vs.map Vr.ct)).den→List dY→List Nat→Prop
 |[],_,es,d=>es=[]∧d=[]
 |[.s t c],z,es,d=>d=[]∧k9 a v t c z es
 |[.l p c],z,es,d=>∃u,d=[u]∧kX v j l i g h u p c z es
 |.s t c :: w :: r,z,es,d=>∃e f,es=e++f∧k9 a v t c z.1 e∧pR a v j l i g h (w :: r) z.2 f d
 |.l p c :: w :: r,z,es,d=>∃e f u k,es=e++f∧d=u :: k∧kX v j l i g h u p c z.1 e∧pR a v j l i g h (w :: r) z.2 f k
theorem YU{a:Act}{v:Zb}(h:v.le B){z:G.den}{es:List dY}(k:k9 a v c G z es):k9 a B c G z es:=by
 obtain⟨d,e,f⟩:=k;exact⟨d,e,Mh h f⟩
theorem ZdC{v:Zb}(h:v.le B){p:Pl}{z:G.den}{es:List dY}(k:kX v f e c j y g p G z es):kX B f e c j y g p G z es:=by
 obtain⟨l,i,d,m,n,o⟩:=k;exact⟨l,i,d,m,Xu h n,o⟩
theorem QS{N:Nat}{a:Act}{K:G.den→Ev h}{v:Zb}(k:Zn g (.rdS w λv=>fP FU G v K) j e x)(s:dZ N d m i (· < g) (· < g+1) j e a o f v n)(B:St N m i [] (δ++n) v a o):
  ∃ z l p c r es,Zn g (K z) j l x∧dZ N d m i (· < g) (· < g+1) j l a o p c r∧St N m i [] (es++(δ++r)) c a o∧Le (· < g) v f e c p l∧k9 a c w G z es:=by
 obtain⟨t,u,k⟩:=k;have D:=s.fr w t u;obtain⟨y,A,E⟩:=jv D (λq C=>by rw[C]at k;exact VZ k);obtain⟨z,l,p,c,r,es,F,H,I,J,L,M⟩:=vw (U:=(· < g)) (X:=(· < g+1)) (Nat.lt_irrefl g) (Nat.lt_succ_self g) FU k s B (s.uf w t u).1 A;exact⟨z,l,p,c,r,es,F,H,I,J,y,by rw[E,B9 M],L⟩
theorem Oz{N:Nat}{a:Act}{p:Pl}{K:G.den→Ev h}{v vE:Zb}(I:H0 d Z P Y)(B:Z≤g)(u:lD P Y p=some w)(t:Zn g (mI (hZ Y w) G w K) j e x)(R:dZ N d m i (· < g) (· < g+1) j e a o f v n)(M:St N m i [] (δ++n) v a o)(L:Le (· < g) vE J y v f e):
  ∃ z c q l r es,Zn g (K z) j c x∧dZ N d m i (· < g) (· < g+1) j c a o q l r∧St N m i [] (es++(δ++r)) l a o∧Le (· < g) v f e l q c∧kX l J y Z P Y w p G z es∧(∃F,eC e w=some F)∧eC c w=none:=by
 have C:w<g:=Nat.lt_of_lt_of_le (M1 I u) B;obtain⟨z,c,q,l,r,es,s,S,U,W,X,D,E,k7,k8⟩:=J2 (U:=(· < g)) (X:=(· < g+1)) (Nat.lt_irrefl g) (Nat.lt_succ_self g) C t R M;obtain⟨H,q1,q2⟩:=L.l w s C E;refine⟨z,c,q,l,r,es,S,U,W,X,⟨u,f w,H,q1,D,λa1 a0 L' O hs Q=>?_⟩,⟨s,E⟩,k7⟩;exact ZyB (JS (λk A=>Nat.lt_of_lt_of_le A B) rfl q2) (pM (n0:=Z) (λk A t=>by omega) hs k8 Q O D)
theorem LL{N:Nat}{a:Act}(X:H0 d w P e)(a0:w≤g):∀{vs:List Vr} {K:(wx (vs.map Vr.ct)).den→Ev h} {l:Lo} {I:h→Fr→Lo→Prop} {C:Nat→Gh} {v:Zb} {H ex:List dY},
  Zn g (vN P e vs K) j l I→dZ N d m i (· < g) (· < g+1) j l a o C v H→St N m i [] (ex++H) v a o→Le (· < g) B f y v C l→
  ∃ z S Y G Z es F,Zn g (K z) j S I∧dZ N d m i (· < g) (· < g+1) j S a o Y G Z∧St N m i [] (es++(ex++Z)) G a o∧Le (· < g) v C l G Y S∧pR a G f y w P e vs z es F∧F.Nodup∧∀u ∈ F,u<w∧(∃U,eC l u=some U)∧u ∈ nC P e vs
 |[],K,l,I,C,v,H,ex,k,s,A,D=>by
  obtain⟨E,a4,_⟩:=s.lr
  exact⟨(),l,C,v,H,[],[],k,s,A,Le.refl a4 (Zb.le_refl _),⟨rfl,rfl⟩,List.nodup_nil,λu n=>by cases n⟩
 |[.s t c],K,l,I,C,v,H,ex,k,s,A,D=>by
  obtain⟨z,S,Y,G,Z,es,M,O,Q,q,R⟩:=QS k s A
  exact⟨z,S,Y,G,Z,es,[],M,O,Q,q,⟨rfl,R⟩,List.nodup_nil,λu n=>by cases n⟩
 |[.l p c],K,l,I,C,v,H,ex,k,s,A,D=>by
  simp only[vN]at k
  split at k
  ·rename_i u L
   obtain⟨z,S,Y,G,Z,es,M,O,Q,q,R,k6,k7⟩:=Oz X a0 L k s A D
   refine⟨z,S,Y,G,Z,es,[u],M,O,Q,q,⟨u,rfl,R⟩,List.nodup_cons.2 ⟨by simp,List.nodup_nil⟩,λu' n=>?_⟩
   rcases List.mem_singleton.1 n with rfl
   exact⟨M1 X L,k6,by simp only[nC,L];simp⟩
  ·exact k.elim
 |.s t c :: o :: r,K,l,I,C,v,H,ex,k,s,A,D=>by
  obtain⟨z1,l1,a5,v1,a6,J,M,O,Q,q,R⟩:=QS (K:=λx=>vN P e (o :: r) λa1=>K (x,a1)) k s A
  obtain⟨z2,l2,a2,v2,a3,e2,F,q1,q2,q3,q4,q5,q6,q7⟩:=LL X a0 (ex:=J++ex) M O (by rw[fj];exact Q) (D.trans q)
  refine⟨(z1,z2),l2,a2,v2,a3,J++e2,F,q1,q2,q3.perm ?_,q.trans q4,⟨J,e2,rfl,YU q4.v R,q5⟩,q6,λu n=>?_⟩
  ·rw[fj,fj];exact pk
  ·obtain⟨g1,⟨U,W⟩,g3⟩:=q7 u n
   obtain⟨e',g4,_⟩:=q.l u U (show u<_ by omega) W
   refine⟨g1,⟨e',g4⟩,?_⟩
   simp only[nC]
   split
   ·exact List.mem_cons_of_mem _ g3
   ·exact g3
 |.l p c :: o :: r,K,l,I,C,v,H,ex,k,s,A,D=>by
  simp only[vN]at k
  split at k
  ·rename_i u L
   obtain⟨z1,l1,a5,v1,a6,J,M,O,Q,q,R,k6,k7⟩:=Oz (K:=λx=>vN P e (o :: r) λa1=>K (x,a1)) X a0 L k s A D
   obtain⟨z2,l2,a2,v2,a3,e2,F,q1,q2,q3,q4,q5,q6,q7⟩:=LL X a0 (ex:=J++ex) M O (by rw[fj];exact Q) (D.trans q)
   refine⟨(z1,z2),l2,a2,v2,a3,J++e2,u :: F,q1,q2,q3.perm ?_,q.trans q4,⟨J,e2,u,F,rfl,rfl,ZdC q4.v R,q5⟩,List.nodup_cons.2 ⟨λn=>?_,q6⟩,λu' n=>?_⟩
   ·rw[fj,fj];exact pk
   ·obtain⟨_,⟨U,W⟩,_⟩:=q7 u n
    rw[k7]at W;cases W
   ·have hg:nC P e (.l p c :: o :: r)=u :: nC P e (o :: r):=by simp only[nC,L]
    rw[hg]
    rcases List.mem_cons.1 n with rfl |n
    ·exact⟨M1 X L,k6,List.mem_cons_self⟩
    ·obtain⟨g1,⟨U,W⟩,g3⟩:=q7 u' n
     obtain⟨e',g4,_⟩:=q.l u' U (show u'<_ by omega) W
     exact⟨g1,⟨e',g4⟩,List.mem_cons_of_mem _ g3⟩
  ·exact k.elim
theorem Lu{v:Zb}{hh:Nat}{z:G.den}{g:Gh}{es:List dY}{u n:Nat}{l2:Lo}{n2:Nat}(h:pN v G z g es)(W:u<n)(H:hh≤n)(o:fN hh G z u n=(l2,n2)):
  n<n2∧(∀e ∈ l2,(e.k=u∧Bl (n≤·) hh G z e.x∨n≤e.k∧e.k<n2)∧n≤e.st∧e.st<n2∧e.x.ok (· < n2) (· < n2))∧(l2.map En.k).Nodup∧
  ∃ r:Nat→Gh,r u=g∧∀(f:Nat→Gh) (l:Lo),(∀e ∈ l2,f e.k=r e.k∧eC l e.k=some e)→∃E,F2 (gQ v f l) l2 E∧es.Perm E.flatten:=by
 cases G with
 |own q t=>
  cases o
  obtain⟨ob,i,d,rfl,m,rfl⟩:=h;refine⟨Nat.lt_succ_self n,λe c=>?_,List.nodup_cons.2 ⟨by simp,List.nodup_nil⟩,λ_=>.own ob i,rfl,λf l j=>?_⟩
  ·rcases List.mem_singleton.1 c with rfl;exact⟨.inl ⟨rfl,rfl⟩,Nat.le_refl _,Nat.lt_succ_self _,trivial⟩
  ·exact⟨[_],⟨⟨ob,i,d,(j _ (List.mem_singleton.2 rfl)).1,m,rfl⟩,trivial⟩,List.Perm.refl _⟩
 |mat q R t=>
  cases o
  obtain⟨ob,i,p,s,rfl,m,rfl⟩:=h;refine⟨Nat.lt_succ_self n,λe c=>?_,List.nodup_cons.2 ⟨by simp,List.nodup_nil⟩,λ_=>.mat ob i p,rfl,λf l j=>?_⟩
  ·rcases List.mem_singleton.1 c with rfl;exact⟨.inl ⟨rfl,n,Nat.le_refl _,rfl⟩,Nat.le_refl _,Nat.lt_succ_self _,Nat.lt_succ_self n⟩
  ·exact⟨[_],⟨⟨ob,i,p,s,(j _ (List.mem_singleton.2 rfl)).1,m,rfl⟩,trivial⟩,by simp⟩
 |box q G=>
  have o:((⟨u,n,.box q (Zl G z (n+1)).1⟩ :: (Zl G z (n+1)).2.1:Lo),(Zl G z (n+1)).2.2)=(l2,n2):=o
  cases o
  obtain⟨b,D,S,rfl,m,F,rfl⟩:=h;obtain⟨X,B,J,K,Y,r,L⟩:=Ux G (m:=false) (n+1) (x:=(Zl G z (n+1)).1) (l2:=(Zl G z (n+1)).2.1) (n2:=(Zl G z (n+1)).2.2) m rfl;have y:∀e ∈ (Zl G z (n+1)).2.1,e.k≠u:=λe c A=>by have:=(B e c).1;omega
  refine⟨by omega,λe c=>?_,List.nodup_cons.2 ⟨λI=>?_,J⟩,λk=>if k=u then .box b else r k,iP rfl,λf l j=>?_⟩
  ·rcases List.mem_cons.1 c with rfl |c
   ·exact⟨.inl ⟨rfl,_,rfl⟩,Nat.le_refl _,(show n<_ by omega),K⟩
   ·obtain⟨C,x,Z,P,Q⟩:=B e c;exact⟨.inr ⟨by omega,x⟩,by omega,P,Q⟩
  ·obtain⟨e,c,A⟩:=List.mem_map.1 I;exact y e c A
  ·obtain⟨w,U⟩:=j _ List.mem_cons_self;have w:f u= .box b:=by rw[show f u=_ from w];exact iP rfl
   obtain⟨M,E,N,O⟩:=L f l λe c=>by
    obtain⟨C,x⟩:=j e (List.mem_cons_of_mem _ c);exact⟨C.trans (iN (y e c)),x⟩
   exact⟨[_] :: E,⟨⟨b,D,w,M,F,rfl⟩,N⟩,by rw[List.flatten_cons];exact List.Perm.cons _ O⟩
 |agg G=>cases G with
  |mat q R t=>
   cases o
   obtain⟨ob,i,p,s,rfl,m,rfl⟩:=h;refine⟨Nat.lt_succ_self n,λe c=>?_,List.nodup_cons.2 ⟨by simp,List.nodup_nil⟩,λ_=>.mat ob i p,rfl,λf l j=>?_⟩
   ·rcases List.mem_singleton.1 c with rfl;exact⟨.inl ⟨rfl,rfl⟩,Nat.le_refl _,Nat.lt_succ_self _,Nat.lt_succ_of_le H⟩
   ·exact⟨[_],⟨⟨ob,i,p,s,(j _ (List.mem_singleton.2 rfl)).1,m,rfl⟩,trivial⟩,by simp⟩
  |_=>exact h.elim
 |_=>exact h.elim
structure IV(a:Act)(v:Zb)(γE:Nat→Gh)(lE:Lo)(n0:Nat)(us:List Nat)(n1 m:Nat)(f':Fr)(l':Lo)(es:List dY)(γ0:Nat→Gh):Prop where
 le:n1≤m
 l:∀e ∈ l',(e.k ∈ us∨n1≤e.k∧e.k<m)∧n1≤e.st∧e.st<m∧e.x.ok (· < m) (· < m)
 nd:(l'.map En.k).Nodup
 f:∀e ∈ f',e.x.ok (· < m)∧n1≤e.st∧e.st<m
 r:∀(γ:Nat→Gh) (l:Lo),(∀e ∈ l',γ e.k=γ0 e.k∧eC l e.k=some e)→(∀e ∈ f',RV v γ l e.x (a.tmps.getD e.k undef))∧(∃E,F2 (gQ v γ l) l' E∧es.Perm E.flatten)∧∀e ∈ l',e.k<n0→∃e0,eC lE e.k=some e0∧CE (· < n0) γE γ e.k e0.st e.st e0.x e.x
theorem IV.none{a:Act}{v:Zb}:IV a v f e c [] g g [] [] [] λ_=>.box 0 :=
 ⟨Nat.le_refl _,λh d=>(by cases d),List.nodup_nil,λh d=>(by cases d),λi l _=>⟨λh d=>(by cases d),⟨[],trivial,List.Perm.refl _⟩,λh d=>(by cases d)⟩⟩
theorem IV.add{a:Act}{v:Zb}{t:List Nat}(h:IV a v f e c Q g w j y n J)(k:IV a v f e c t w Z P Y δ R)(I:∀u ∈ t,u ∉ Q)(D:∀u ∈ Q++t,u<g):
  IV a v f e c (Q++t) g Z (j++P) (y++Y) (n++δ) λk=>if k ∈ y.map En.k then J k else R k:=by
 have B:∀m ∈ Y,m.k ∉ y.map En.k:=λm d N=>by
  obtain⟨H,K,M⟩:=List.mem_map.1 N;have p:=(h.l H K).1;have r:=(k.l m d).1;have a0:=h.le;rw[M]at p;rcases p with p |p <;> rcases r with r |r
  ·exact I _ r p
  ·have:=D _ (List.mem_append_left _ p);omega
  ·have:=D _ (List.mem_append_right _ r);omega
  ·omega
 have q:∀x,x<w→x<Z:=λx L=>Nat.lt_of_lt_of_le L k.le;refine⟨Nat.le_trans h.le k.le,λm d=>?_,G0 h.nd k.nd B,λm d=>?_,λE l C=>?_⟩
 ·rcases List.mem_append.1 d with d |d
  ·obtain⟨i,s,o,A⟩:=h.l m d;refine⟨?_,s,q _ o,LV.ok.mono q q A⟩;rcases i with i |i
   ·exact .inl (List.mem_append_left _ i)
   ·exact .inr ⟨i.1,q _ i.2⟩
  ·obtain⟨i,s,o,A⟩:=k.l m d;have:=h.le;refine⟨?_,by omega,o,A⟩;rcases i with i |i
   ·exact .inl (List.mem_append_right _ i)
   ·exact .inr ⟨by omega,i.2⟩
 ·rcases List.mem_append.1 d with d |d
  ·obtain⟨i,s,o⟩:=h.f m d;exact⟨V.ok.mono q i,s,q _ o⟩
  ·obtain⟨i,s,o⟩:=k.f m d;have:=h.le;exact⟨i,by omega,o⟩
 ·obtain⟨O,⟨F,S,U⟩,W⟩:=h.r E l (K8 C);obtain⟨X,⟨G,q2,q3⟩,q4⟩:=k.r E l (MI B C);refine⟨λm d=>?_,⟨F++G,S.append q2,by rw[List.flatten_append];exact U.append q3⟩,λm d=>?_⟩
  ·rcases List.mem_append.1 d with d |d
   ·exact O m d
   ·exact X m d
  ·rcases List.mem_append.1 d with d |d
   ·exact W m d
   ·exact q4 m d
theorem IV.s{a:Act}{v:Zb}{γE:Nat→Gh}{lE:Lo}{z:G.den}{es:List dY}(h:k9 a v g G z es)(B:c≤w):∃j,IV a v γE lE c [] w (Zl G z (w+1)).2.2 [⟨g,w,(Zl G z (w+1)).1⟩] (Zl G z (w+1)).2.1 es j:=by
 obtain⟨y,o,p⟩:=h;obtain⟨C,m,q,r,s,j,n⟩:=Ux G (w+1) (x:=(Zl G z (w+1)).1) (l2:=(Zl G z (w+1)).2.1) (n2:=(Zl G z (w+1)).2.2) p rfl;refine⟨j,by omega,λe d=>?_,q,λe d=>?_,λi l k=>⟨λe d=>?_,(n i l k).2,λe d A=>?_⟩⟩
 ·obtain⟨D,t,E,u,x⟩:=m e d;exact⟨.inr ⟨by omega,t⟩,by omega,u,x⟩
 ·rcases List.mem_singleton.1 d with rfl;exact⟨r,Nat.le_refl _,(show w<_ by omega)⟩
 ·rcases List.mem_singleton.1 d with rfl;have f:=(n i l k).1;have:=km f (λG e=>by rw[e]at f;exact f);show RV v i l (Zl G z (w+1)).1 (a.tmps.getD g undef);rw[o,←B9 s];exact this
 ·have:=(m e d).1;omega
theorem IV.p{a:Act}{v:Zb}{γE:Nat→Gh}{lE:Lo}{p:Pl}{z:G.den}{es:List dY}(h:kX v γE lE c j y g p G z es)(D:g<w)(C:c≤w)(k:hZ y g≤w):∃m,IV a v γE lE c [g] w (fN (hZ y g) G z g w).2 [] (fN (hZ y g) G z g w).1 es m:=by
 obtain⟨_,M,u,x,A,B⟩:=h;obtain⟨O,o,E,m,F,H⟩:=Lu A D k (l2:=(fN (hZ y g) G z g w).1) (n2:=(fN (hZ y g) G z g w).2) rfl;refine⟨m,by omega,λe f=>?_,E,λe f=>(by cases f),λs l n=>⟨λe f=>(by cases f),H s l n,λe f N=>?_⟩⟩
 ·obtain⟨d,q,K,L⟩:=o e f;refine⟨?_,q,K,L⟩;rcases d with d |d
  ·exact .inl (List.mem_singleton.2 d.1)
  ·exact .inr d
 ·obtain⟨d,q,_,_⟩:=o e f;rcases d with⟨d,i⟩ |d
  ·refine⟨u,by rw[d];exact x,?_⟩;rw[d];have:Bl (c≤·) (hZ y g) G z e.x:=by
    cases G with
    |mat r P t=>obtain⟨k,I,J⟩:=i;exact⟨k,Nat.le_trans C I,J⟩
    |own r t=>exact i
    |box r t=>exact i
    |agg G=>cases G <;> first |exact i |exact i.elim
    |_=>exact i.elim
   refine B s e.st e.x ?_ (by omega) this;have:=(n e f).1;rw[d]at this;rw[this,F]
  ·omega
theorem I5{a:Act}{v:Zb}:∀{vs:List Vr} {z:(wx (vs.map Vr.ct)).den} {es:List dY} {k:List Nat} {n1:Nat},pR a v f e c j y vs z es k→k.Nodup→(∀u ∈ k,u<n1)→c≤n1→(∀u,hZ y u≤c)→
  ∃ H,IV a v f e c k n1 (jP j y vs z n1).2.2 (jP j y vs z n1).1 (jP j y vs z n1).2.1 es H
 |[],z,es,k,n1,h,m,i,g,l=>by
  obtain⟨rfl,rfl⟩:=h
  exact⟨_,IV.none⟩
 |[.s t d],z,es,k,n1,h,m,i,g,l=>by
  obtain⟨rfl,h⟩:=h
  exact IV.s h g
 |[.l p d],z,es,k,n1,h,m,i,g,l=>by
  obtain⟨u,rfl,h⟩:=h
  have s:jP j y [.l p d] z n1=([],(fN (hZ y u) d z u n1).1,(fN (hZ y u) d z u n1).2):=by simp only[jP,h.1]
  rw[s]
  exact IV.p h (i u (by simp)) g (Nat.le_trans (l u) g)
 |.s t d :: w :: r,z,es,k,n1,h,m,i,g,l=>by
  obtain⟨C,D,rfl,q,x⟩:=h
  obtain⟨I,o⟩:=IV.s (a:=a) (v:=v) (γE:=f) (lE:=e) q g
  have n:=o.le
  obtain⟨J,A⟩:=I5 (vs:=w :: r) (n1:=(Zl d z.1 (n1+1)).2.2) x m (λu h=>Nat.lt_of_lt_of_le (i u h) n) (Nat.le_trans g n) l
  exact⟨_,o.add A (λu _ h=>by cases h) i⟩
 |.l p d :: w :: r,z,es,k,n1,h,m,i,g,l=>by
  obtain⟨C,D,u,K,rfl,rfl,q,x⟩:=h
  obtain⟨I,o⟩:=IV.p (a:=a) (v:=v) (γE:=f) (lE:=e) q (i u (by simp)) g (Nat.le_trans (l u) g)
  have n:=o.le
  obtain⟨F,G⟩:=List.nodup_cons.1 m
  obtain⟨J,A⟩:=I5 (vs:=w :: r) (n1:=(fN (hZ y u) d z.1 u n1).2) x G (λB h=>Nat.lt_of_lt_of_le (i B (by simp[h])) n) (Nat.le_trans g n) l
  have s:jP j y (.l p d :: w :: r) z n1=((jP j y (w :: r) z.2 (fN (hZ y u) d z.1 u n1).2).1,(fN (hZ y u) d z.1 u n1).1++(jP j y (w :: r) z.2 (fN (hZ y u) d z.1 u n1).2).2.1,(jP j y (w :: r) z.2 (fN (hZ y u) d z.1 u n1).2).2.2):=by simp only[jP,q.1]
  rw[s]
  refine⟨_,o.add A (λB h E=>?_) i⟩
  rcases List.mem_singleton.1 E with rfl
  exact F h
theorem F2.impm{R c:h→α→Prop}:∀{l:List h} {m:List α},(∀a ∈ l,∀b ∈ m,R a b→c a b)→F2 R l m→F2 c l m
 |[],[],_,_=>trivial
 |a :: l,b :: m,d,k=>⟨d a (by simp) b (by simp) k.1,F2.impm (λx e y f=>d x (by simp[e]) y (by simp[f])) k.2⟩
 |[],_ :: _,_,k=>k.elim
 |_ :: _,[],_,k=>k.elim
theorem TD:∀{s l:Lo} {E:List (List dY)},(s.map En.k).Nodup→(∀e ∈ s,eC l e.k=some e)→(l.map En.k).Nodup→F2 W l E→∃c f,F2 W s c∧E.flatten.Perm (c.flatten++f)
 |[],l,E,_,_,_,_=>⟨[],E.flatten,trivial,List.Perm.refl _⟩
 |e :: s,l,E,d,hs,j,o=>by
  simp only[List.map_cons,List.nodup_cons]at d
  obtain⟨es,r,k,m,n⟩:=xq o (hs e (by simp))
  obtain⟨c,f,p,q⟩:=TD (s:=s) (l:=era l e.k) d.2 (λg i=>by
   rw[kG j,iN (λh=>d.1 (by rw[h];exact List.mem_map.2 ⟨g,i,rfl⟩))]
   exact hs g (by simp[i])) (jQ j).1 m
  exact⟨es :: c,f,⟨k,p⟩,n.trans (by rw[List.flatten_cons,fj];exact List.Perm.append_left _ q)⟩
theorem IT{l d:List (En h)}:eC (l++d) c=(eC l c).or (eC d c):=by
 induction l with
 |nil=>rfl
 |cons p r e=>
  rw[List.cons_append,ZU,ZU];split
  ·rfl
  ·exact e
theorem RO{l:Lo}:∀{s:Lo},Ej c l s=true→∀e ∈ s,∃d,eC l e.k=some d∧d.st<c
 |[],_,_,h=>by cases h
 |e :: s,h,i,f=>by
  simp only[Ej]at h
  split at h
  ·rename_i d j
   split at h
   ·cases h
   ·rename_i g
    rcases List.mem_cons.1 f with rfl |f
    ·exact⟨d,j,Nat.lt_of_not_le λk=>by rw[Nat.ble_eq_true_of_le k]at g;cases g⟩
    ·exact RO h i f
  ·cases h
theorem Tc:∀{s:List Nat},DK c j s=true→∀t ∈ s,∃d,eC j t=some d∧d.st<c
 |[],_,_,h=>by cases h
 |t :: s,h,k,e=>by
  simp only[DK]at h
  split at h
  ·rename_i d g
   split at h
   ·cases h
   ·rename_i f
    rcases List.mem_cons.1 e with rfl |e
    ·exact⟨d,g,Nat.lt_of_not_le λi=>by rw[Nat.ble_eq_true_of_le i]at f;cases f⟩
    ·exact Tc h k e
  ·cases h
theorem M3:∀{c:List Nat} {t:Nat} {e:En V},eC (nh j c) t=some e→eC j t=some e∧t ∈ c
 |[],_,_,h=>by cases h
 |k :: c,t,e,h=>by
  simp only[nh]at h
  split at h
  ·rename_i g d
   rw[ZU]at h
   split at h
   ·rename_i f
    cases h
    have:=(Zv d).2
    rw[this]at f;subst f
    exact⟨d,by simp⟩
   ·have:=M3 h;exact⟨this.1,by simp[this.2]⟩
  ·have:=M3 h;exact⟨this.1,by simp[this.2]⟩
theorem ZwB:lY Q c=true↔c ∈ Q:=by
 induction Q with
 |nil=>simp[lY]
 |cons k r f=>
  simp only[lY]
  cases d:Nat.beq k c
  ·simp only[List.mem_cons];rw[f];have:¬c=k:=λe=>by rw[e]at d;simp at d
   simp[this]
  ·have:=eH d;simp[this]
theorem RM{b:Nat}{rs us:List Nat}:∀{l:Lo},(pF b rs us l).Sublist l∧∀e ∈ pF b rs us l,e.k ∉ us
 |[]=>⟨List.Sublist.slnil,λe h=>by cases h⟩
 |e :: r=>by
  obtain⟨f,g⟩:=RM (b:=b) (rs:=rs) (us:=us) (l:=r)
  simp only[pF]
  split
  ·exact⟨f.cons e,g⟩
  ·rename_i c
   have c:e.k ∉ us:=λh=>by rw[ZwB.2 h]at c;cases c
   have j:(e :: pF b rs us r).Sublist (e :: r)∧∀d ∈ e :: pF b rs us r,d.k ∉ us:=⟨f.cons_cons e,λd i=>by
    rcases List.mem_cons.1 i with rfl |i
    ·exact c
    ·exact g d i⟩
   split
   ·exact j
   ·split
    ·exact j
    ·exact⟨f.cons e,g⟩
theorem ZkF{N:Nat}{a:Act}{fI:Fr}{s D:Lo}{v X:Zb}{es:List dY}{ks:List Nat}(I:H0 d g P y)(hn:g≤w)(hr:dZ N d m i (· < w) (· < w) j e a o f v n)(a7:dZ N d m i (· < w) (· < w+1) j Y a o J X δ)(a9:St N m i [] (es++δ) X a o)(a6:Le (· < w) v f e X J Y)(av:eX w j e j Y)(ho:eX g P y j e)(hs:s.Sublist y)(ay:∀h ∈ s,h.k ∉ Q)(aw:Ej g Y s=true)(az:∀u ∈ Q,u<g)(U:IV a X f e g Q g Z fI D es R)(ar:DK g j ks=true):
  ∃ B b2,(∀h ∈ D,B h.k=R h.k∧eC (D++s) h.k=some h)∧dZ N d m i (· < Z) (· < Z) (fI++nh P ks) (D++s) a o B X b2∧eX g P y (fI++nh P ks) (D++s):=by
 have a1:∀h ∈ s,h ∈ y:=λh l=>hs.subset l;have ai:(s.map En.k).Nodup:=(hs.map _).nodup I.nd;have a8:∀h ∈ s,eC Y h.k=some h∧eC e h.k=some h:=λh l=>by
  obtain⟨H,h1,h2⟩:=RO aw h l;have h3:=av.2 h.k H h1 (Nat.lt_of_lt_of_le h2 hn);have h4:=ho.2 h.k H h3 h2;rw[oW I.nd (a1 h l)]at h4
  cases h4
  exact⟨h1,h3⟩
 have af:∀h ∈ s,h.k ∉ D.map En.k:=λh l M=>by
  obtain⟨H,a2,K⟩:=List.mem_map.1 M;have h1:=(I.l h (a1 h l)).1;rcases(U.l H a2).1 with h2 |h2
  ·exact ay h l (K▸ h2)
  ·omega
 have ag:((D++s).map En.k).Nodup:=G0 U.nd ai af
 let B:Nat→Gh:=λk=>if k ∈ D.map En.k then R k else J k
 have aj:∀h ∈ D,B h.k=R h.k∧eC (D++s) h.k=some h:=λh l=>
  ⟨iP (List.mem_map.2 ⟨h,l,rfl⟩),oW ag (List.mem_append_left _ l)⟩
 have ak:∀h ∈ s,B h.k=J h.k:=λh l=>iN (af h l);obtain⟨r1,⟨EN,r2,r3⟩,r4⟩:=U.r B (D++s) aj;obtain⟨E,hE,b6⟩:=hr.lr;have aa:Le (· < g) v f e X B (D++s):=⟨a6.v,λu H hu a2=>by
  have au:=(Zv a2).1;have K:=(Zv a2).2;rcases List.mem_append.1 au with M |M
  ·obtain⟨e0,p,q⟩:=r4 H M (by rw[K];exact hu);rw[K]at p q;exact⟨e0,p,q⟩
  ·obtain⟨p,q⟩:=a8 H M;rw[K]at p q;obtain⟨h,r,G⟩:=a6.l u H (Nat.lt_of_lt_of_le hu hn) p;refine⟨h,r,JS (λk K=>Nat.lt_of_lt_of_le K hn) ?_ G⟩;have:=ak H M;rw[K]at this;exact this⟩
 have W:∀k,k<g→k<Z:=λk K=>Nat.lt_of_lt_of_le K U.le;obtain⟨E2,an,ah⟩:=a7.lr;obtain⟨Es,b8,t1,t2⟩:=TD ai (λh l=>(a8 h l).1) a7.nd an;have hS:F2 (gQ X B (D++s)) s Es:=t1.impm λh l ae ap hR=>by
  have aq:∀x ∈ ae,x ∈ δ:=λx C=>ah.mem_iff.2 (t2.mem_iff.2 (List.mem_append_left _ (List.mem_flatten.2 ⟨ae,ap,C⟩)));have O:=ak h l;obtain⟨p,q⟩:=a8 h l;have hU:=I.l h (a1 h l);obtain⟨eE,r,G⟩:=a6.l h.k h (Nat.lt_of_lt_of_le hU.1 hn) p;rw[q]at r;cases r;obtain⟨A,st,L⟩:=h
  cases L with
  |box ty c=>
   obtain⟨b,cs,F,S,g3,rfl⟩:=hR;obtain⟨b3,b5⟩:=vT hE (Zv q).1;obtain⟨jj,b4,k1,k2⟩:=hr.loc q;obtain⟨b0,a3,d1,d2,d3,rfl⟩:=k1;have F:J A= .box b:=F;have d1:f A= .box b0:=d1;have G:J A=f A:=G;have hb:b=b0:=by rw[F,d1]at G;cases G;rfl
   subst hb;obtain⟨b7,hi⟩:=k2 _ (List.mem_singleton.2 rfl);have m1:=(hr.st.loc _ (mG hi)).1;have m2:=(a7.st.loc _ (aq _ (List.mem_singleton.2 rfl))).1;have m1:o.heap[b]?= some (.cells a3.toArray ty (0,0)):=m1;have m2:o.heap[b]?= some (.cells cs.toArray ty (0,0)):=m2;rw[m1]at m2;have ao:a3=cs:=by
    have:=Option.some.inj m2
    injection this with h1 _ _
    have:=congrArg Array.toList h1
    simpa using this
   subst ao;exact⟨b,a3,by rw[show B A=J A from O];exact F,jl aa hU.2.2 d2,d3,rfl⟩
  |own ty t xs fz=>
   cases fz with
   |false=>obtain⟨ob,a0,al,F,S⟩:=hR;exact⟨ob,a0,al,by rw[show B A=J A from O];exact F,S⟩
   |true=>obtain⟨ob,a0,F,S⟩:=hR;exact⟨ob,a0,by rw[show B A=J A from O];exact F,S⟩
  |mat ty b1 t mm hv=>obtain⟨ob,a0,ab,a4,F,S⟩:=hR;exact⟨ob,a0,ab,a4,by rw[show B A=J A from O];exact F,S⟩
  |mid ty b1 t mm hv s=>obtain⟨ob,a0,ab,a4,hs,am,F,S⟩:=hR;exact⟨ob,a0,ab,a4,hs,am,by rw[show B A=J A from O];exact F,S⟩
 have ax:St N m i [] (EN.flatten++Es.flatten) X a o:=by
  have h1:=a9.perm ((List.Perm.append r3 (ah.trans t2)));refine h1.drop ?_;rw[←fj];exact List.sublist_append_left _ _
 have a5:∀t h,eC (nh P ks) t=some h→eC j t=some h∧eC P t=some h:=λt h l=>by
  obtain⟨p,q⟩:=M3 l;obtain⟨H,r,G⟩:=Tc ar t q;have:=ho.1 t H r G;rw[p]at this;cases this;exact⟨r,p⟩
 refine⟨B,_,aj,⟨ax,λt h l=>?_,⟨EN++Es,r2.append hS,by rw[List.flatten_append]⟩,ag,λt h l=>?_,λh l=>?_,λx ad O=>?_⟩,λt h l a9=>?_,λu h l a9=>?_⟩
 ·rw[IT]at l
  cases C:eC fI t with
  |some e1=>
   rw[C]at l;cases l;obtain⟨p,q⟩:=Zv C;rw[←q];exact r1 h p
  |none=>
   rw[C]at l;obtain⟨p,q⟩:=a5 t h l;exact jD aa (I.f t h q).1 (hr.fr t h p)
 ·rw[IT]at l
  cases C:eC fI t with
  |some e1=>
   rw[C]at l;cases l;obtain⟨p,q,r⟩:=U.f h (Zv C).1;exact⟨p,r⟩
  |none=>
   rw[C]at l;obtain⟨p,q⟩:=a5 t h l;obtain⟨r,G⟩:=I.f t h q;exact⟨V.ok.mono W r,W _ G⟩
 ·rcases List.mem_append.1 l with l |l
  ·obtain⟨p,q,r,G⟩:=U.l h l;refine⟨?_,r,G⟩;rcases p with p |p
   ·exact W _ (az _ p)
   ·exact p.2
  ·obtain⟨p,q,r⟩:=I.l h (a1 h l);exact⟨W _ p,W _ q,LV.ok.mono W W r⟩
 ·exact⟨jD aa (I.g x ad O) (hr.gh x ad O).1,V.ok.mono W (I.g x ad O)⟩
 ·rw[IT]at l
  cases C:eC fI t with
  |some e1=>
   rw[C]at l;cases l;have:=(U.f h (Zv C).1).2.1;omega
  |none=>
   rw[C]at l;exact(a5 t h l).2
 ·rcases List.mem_append.1 (Zv l).1 with M |M
  ·have:=(U.l h M).2.1;omega
  ·have:=oW I.nd (a1 h M);rw[(Zv l).2]at this;exact this
def bF(c:Fr)(d:Lo)(j:Js)(x:jT j)(n:Nat):Fr:=(jP c d j.vs x n).1++nh c j.keep
def bL(b:Nat)(c:Fr)(d:Lo)(j:Js)(x:jT j)(n:Nat):Lo:=(jP c d j.vs x n).2.1++oi b c d j j.vs
def bN(c:Fr)(d:Lo)(j:Js)(x:jT j)(n:Nat):Nat:=(jP c d j.vs x n).2.2
theorem FR{b:Nat}{c:Js}{x:jT c}{K:Fr→Lo→Nat→h}:build b j e c x g K=K (bF j e c x g) (bL b j e c x g) (bN j e c x g):=rfl
theorem Hy{N:Nat}{a:Act}{b:Nat}{c:Js}{K:jT c→Option h}(n:H0 d w j e)(s:w≤Z)(f:fG N d m i (· < Z) P y a o)(H:eX w j e P y)(g:qD b w Z j e P y c K=some L):
  ∃ x,K x=some L∧w≤bN j e c x w∧fG N d m i (· < bN j e c x w) (bF j e c x w) (bL b j e c x w) a o∧eX w j e (bF j e c x w) (bL b j e c x w):=by
 obtain⟨γ,v,a1,f⟩:=f;have B:=DT (Nat.le_refl Z) eX.refl f.nd (BM g);have I:dZ N d m i (· < Z) (· < Z+1) P y a o γ v a1:=f.mono (λ_ g=>g) λk g=>(show k<Z+1 by have:k<Z:=g;omega);obtain⟨E,C,_⟩:=f.lr;obtain⟨x,l2,a4,Y,a5,es,us,J,M,O,Q,R,S,p⟩:=LL (ex:=[]) n s B I f.st (Le.refl C (Zb.le_refl _));obtain⟨q,X⟩:=J;split at q
 ·rename_i F D;obtain⟨a3,r⟩:=I5 R S (λu l=>(p u l).1) (Nat.le_refl w) (sc n);have t:=RM (b:=b) (rs:=D2 e 50 (zj (nh j c.keep)) []) (us:=EF j e c.drop c.vs) (l:=e);obtain⟨a0,a2,_,U,W⟩:=ZkF n s f M O Q X H t.1 (λA G l=>t.2 A G (List.mem_append_right _ (p _ l).2.2)) D (λu l=>(p u l).1) r F;exact⟨x,q,r.le,⟨a0,Y,a2,U⟩,W⟩
 ·cases q
def pP(P:Program)(d:Array Value)(w:World)(c:List ResultVar)(e:List Value):Prop:=F2 (λr y=>lX P d w r y) c e
def mT(P:Program)(f:List ResultVar)(N:Nat)(G:V→Value→Prop)(h:dW)(g:Zb)(c:V)(l:Lo)(n:Nat)(a:Act)(w:World):Prop :=
 ∃ e v i d,dZ N G h g (· < n) (· < n) [] l a w e v i∧RR v e l true c d∧c.ok (· < n)∧pP P a.tmps w f d
def ld(m:Nat)(l c:Lo):Prop:=∀u e,eC c u=some e→e.st<m→eC l u=some e
theorem eX.l(h:eX c j e P y):ld c e y:=h.2
theorem ld.trans(h:ld c e y)(k:ld g y Y)(i:c≤g):ld c e Y:=λu d f hs=>h u d (k u d f (by omega)) hs
theorem ld.mono{l:Lo}(h:ld g l y)(f:c≤g):ld c l y:=λu e d hs=>h u e d (by omega)
theorem lw{v:Zb}:∀{i:V} {k t:Nat} {d:En V} {l:List Value},RR v f e true i l→i.ok u→eC (jt c k i) t=some d→∃y,k≤t∧l[t-k]?= some y∧RV v f e d.x y∧d.x.ok u∧d.st=c:=by
 intro i
 induction i with
 |cons a b w q=>
  intro k t d l h m g;obtain⟨o,A,rfl,n,p⟩:=h;simp only[jt]at g;rw[ZU]at g;split at g
  ·rename_i j
   cases g
   have j:k=t:=j;subst j;exact⟨a.val o,Nat.le_refl _,by simp,km n (λi d=>by subst d;exact n),m.1,rfl⟩
  ·rename_i j;have j:¬k=t:=j;obtain⟨y,x,r,s⟩:=q p m.2 g;refine⟨y,by omega,?_,s⟩;have:t-k=(t-(k+1))+1:=by omega
   rw[this];simpa using r
 |_=>intro k t d l h m g;cases g
theorem UA{v:Zb}:∀{c:V} {d:List Value},RR v f e true c d→d.length=nX c:=by
 intro c
 induction c with
 |nl=>intro d h;rw[show d=[] from h];rfl
 |cons a b l i=>intro d h;obtain⟨j,m,rfl,k,g⟩:=h;simp[i g,nX]
 |_=>intro d h;exact h.elim
theorem XR{N N':Nat}{a:Act}{v:Zb}(c:dZ N d m i (· < w) (· < w) [] e a o f v n)(s:RR v f e true O F)(u:O.ok (· < w))(E:F.length≤N'):
  dZ N' d m i (· < w+1) (· < w+1) (jt w 0 O) e { tmps:=F.toArray++Array.replicate (N'-F.toArray.size) undef,defers:=[] } o f v n:=by
 have g:=c.mono (U':=(· < w+1)) (X':=(· < w+1)) (λk h=>(show k<w+1 by have:k<w:=h;omega)) λk h=>(show k<w+1 by have:k<w:=h;omega);refine⟨⟨by simp;omega,rfl,λt x h=>(by cases h),c.st.ext,c.st.vst,c.st.loc,c.st.nd⟩,λt p l=>?_,g.lr,g.nd,λt p l=>?_,g.ul,g.gh⟩
 ·obtain⟨y,A,j,q,r,C⟩:=lw s u l;have D:t<F.length:=(List.getElem?_eq_some_iff.1 j).1;have B:F[t]=y:=(List.getElem?_eq_some_iff.1 j).2;have:((F.toArray++Array.replicate (N'-F.toArray.size) undef).getD t undef)=y:=by
   simp[Array.getElem?_append,D,B]
  rw[this];exact q
 ·obtain⟨y,A,j,q,r,C⟩:=lw s u l;exact⟨V.ok.mono (λk h=>(show k<w+1 by have:k<w:=h;omega)) r,by show p.st<w+1;omega⟩
theorem WA{N:Nat}{a:Act}{v:Zb}{k:Nat}(c:dZ N d m i (· < g) (· < g) [] e a o f v n)(w:RR v f e true O F)(A:O.ok (· < g)):
  dZ (k+F.length) d m i (· < g+1) (· < g+1) (jt g k O) e { tmps:=(List.replicate k undef++F).toArray,defers:=[] } o f v n:=by
 have j:=c.mono (U':=(· < g+1)) (X':=(· < g+1)) (λk h=>(show k<g+1 by have:k<g:=h;omega)) λk h=>(show k<g+1 by have:k<g:=h;omega);refine⟨⟨by simp,rfl,λt x h=>(by cases h),c.st.ext,c.st.vst,c.st.loc,c.st.nd⟩,λt p l=>?_,j.lr,j.nd,λt p l=>?_,j.ul,j.gh⟩
 ·obtain⟨y,q,r,s,u,B⟩:=lw w A l;have:((List.replicate k undef++F).toArray.getD t undef)=y:=by
   rw[Array.getD_eq_getD_getElem?,List.getElem?_toArray,List.getElem?_append_right (by simpa using q)];simp[r]
  rw[this];exact s
 ·obtain⟨y,q,r,s,u,B⟩:=lw w A l;exact⟨V.ok.mono (λk h=>(show k<g+1 by have:k<g:=h;omega)) u,by show p.st<g+1;omega⟩
theorem zf{y:Value}(h:F[g]?= some y):(List.replicate c undef++F).toArray.getD (c+g) undef=y:=by
 rw[Array.getD_eq_getD_getElem?,List.getElem?_toArray,List.getElem?_append_right (by simp)];simp[h]
theorem SW{v:Zb}{U:Nat→Prop}{o:Array Value}(m:∀t d,eC j t=some d→RV v f e d.x (o.getD t undef)∧d.x.ok U):∀{vals:List Value} {t:Nat} {c:V},Gy j vals.length t=some c→(∀i y,vals[i]?= some y→o.getD (t+i) undef=y)→RR v f e true c vals∧c.ok U
 |[],t,c,h,_=>by cases h;exact⟨rfl,trivial⟩
 |y :: vals,t,c,h,n=>by
  simp only[List.length_cons,Gy]at h
  split at h
  ·cases h
  ·rename_i d H D w B
   cases h
   obtain⟨r,u⟩:=m t d w
   obtain⟨p,A,E⟩:=jv r (λq g=>by obtain⟨k,s,x⟩:=d;have g:x= .tup q:=g;subst g;exact D _ _ _ rfl)
   obtain⟨F,G⟩:=SW m (vals:=vals) B λi y C=>by
    have:=n (i+1) y (by simpa using C)
    rwa [show t+(i+1)=t+1+i by omega]at this
   have l:=n 0 y (by simp)
   rw[Nat.add_zero]at l
   exact⟨⟨p,vals,by rw[←l,E],A,F⟩,u,G⟩
  ·cases h
theorem YI{N:Nat}{a:Act}{β:Type}{F:List ResultVar}{b:Nat}{r:Js}{K:jT r→Option h}(J:H0 d w j e)(P:w≤Z)(p:mT S F N d m i O y Z a o)(Q:ld w e y)(f:Ei b w Z j e O y r K=some L):
  ∃ x,K x=some L∧∀{KR:V→Lo→Nat→Option β} {q:β},build b j e r x w (Ad r.vs KR)=some q→∃s A B,KR s A B=some q∧w≤B∧mT S F N d m i s A B a o∧ld w e A:=by
 obtain⟨γ,v,a7,G,p,u,D,U⟩:=p;unfold Ei at f;split at f
 ·rename_i k a3 R;split at f
  ·rename_i E;have E:=eH E;have a5:=UA u;have W:=WA (k:=1000) p u D;obtain⟨x,X,Y,k3,k4⟩:=Hy J (Nat.le_succ_of_le P) ⟨_,_,_,W⟩ ⟨λt n g a4=>by
    obtain⟨a0,h1,h2,h3,h4,h5⟩:=lw u D g;omega,Q⟩ f
   refine⟨x,X,λ{KR q} l=>?_⟩;rw[FR]at l;unfold Ad at l;rw[R]at l;simp only at l;split at l
   ·rename_i s C;obtain⟨a1,v',a2,c⟩:=k3;refine⟨s,_,_,l,Y,⟨a1,v',a2,G,⟨⟨p.st.size,p.st.dfr,λt x f=>(by cases f),c.st.ext,c.st.vst,c.st.loc,c.st.nd⟩,λt n g=>(by cases g),c.lr,c.nd,λt n g=>(by cases g),c.ul,c.gh⟩,?_⟩,k4.l⟩;rw[show k-1000=G.length by omega]at C;obtain⟨H,I⟩:=SW (U:=(· < bN j e r x w)) (λt n g=>⟨c.fr t n g,(c.uf t n g).1⟩) C λa6 a0 M=>by
     exact zf M
    exact⟨H,I,U⟩
   ·cases l
  ·cases f
 ·cases f
theorem ZeB{a:Act}(d:∀e a w,e ≠ .normal→N e a w→k e a w){r:Result _root_.Go.Next}(h:A.upon S a U N r):A.upon S a U k r:=by
 have l:LetsOut N→LetsOut k:=λ⟨i,o,j⟩=>⟨i,o,d _ _ _ (λe=>by cases e) j⟩
 cases r with
 |ok n m=>
  cases n <;> simp only[Oper.upon]at h ⊢
  case enter f args=>
   refine Calls.mono h λe p g=>?_
   cases e with
   |returned v=>exact g
   |panicked c=>exact d _ _ _ (λe=>by cases e) g
   |outgrown=>exact l g
  all_goals exact h
 |halt x m=>
  cases x <;> simp only[Oper.upon]at h ⊢
  case panic v=>exact d _ _ _ (λe=>by cases e) h
  all_goals exact h
theorem ZgF{g:Array Oper}(j:r[c]?= some A)(l:g[c]?= some A)(q:A.guard=none)(f:∀e a o,e ≠ .normal→N e a o→k e a o){d:Act→World→Prop}(p:∀a o,d a o→U a o){a:Act}(h:wpOp S g N c d a o):wpOp S r k c U a o:=by
 unfold wpOp at h ⊢;rw[l]at h;rw[j];simp only[jS q,if_true]at h ⊢;rcases h with h |⟨m,i,s,n⟩
 ·exact .inl (Oper.wp_mono p (ZeB f h))
 ·exact .inr ⟨m,i,s,f _ _ _ (λe=>by cases e) n⟩
def u7(P:Program)(c:Array Oper)(o:Oper)(Q:Exit→Act→World→Prop):Exit→Act→World→Prop
 |.normal,a,w=>wpList P c Q [o] a w
 |e,a,w=>Q e a w
theorem yf(h:c<I.size):(I.push false).getD c β=I.getD c β:=by
 simp[Array.getD_eq_getD_getElem?,Array.getElem?_push_lt h,h]
theorem V0:(I.push false).getD I.size β=false:=by
 simp[Array.getD_eq_getD_getElem?]
theorem Wt(h:c<I.size):(I.push false).setIfInBounds c true=(I.setIfInBounds c true).push false:=by
 apply Array.ext_getElem?;intro j;simp only[Array.getElem?_setIfInBounds,Array.getElem?_push,Array.size_setIfInBounds,Array.size_push];by_cases e:c=j
 ·subst e;rw[iP rfl,iP (by omega),iN (by omega),iP rfl,iP h]
 ·rw[iN e,iN e]
theorem Uo{P:Program}{Q:Exit→Act→World→Prop}{ops:Array Oper}{o2:Oper}(O:ops.size=c+1)(l:ops[c]?= some o2)(K:o2.guard=none)(J:∀j,j<c→lG ops c j=true)(A:kJ 0 ops.toList=true)(L:∀i o,i<c→ops[i]?= some o→o.guard=none){ops':Array Oper}(a2:ops'.size=c)(U:∀i,i<c→ops'[i]?= ops[i]?):∀(s:Nat) (d:Array Bool) (a:Act) (w:World),d.size=c→left d=s→wpAny P .any ops' (u7 P ops o2 Q) s d a w→wpAny P .any ops Q (s+1) (d.push false) a w
 |0,d,a,w,t,R,h=>by
  have m:∀j,j<c→d.getD j false=true:=λj hj=>by
   have:=GX R (j:=j)
   rw[←iG (by omega)];exact this
  have W:c ∈ Region.ready .any ops (d.push false):=mem_ready.2 ⟨by rw[←t];exact V0,o2,l,λe n B=>by
   have Z:=FT A c o2 (by rw[Array.getElem?_toList];exact l) e n B
   rw[yf (by omega)];exact m _ (by omega)⟩
  refine⟨λE=>(by rw[E]at W;cases W),λi G=>?_⟩
  obtain⟨u,o,g,_⟩:=mem_ready.1 G
  have C:i=c:=by
   have:=l4 g;rcases Nat.lt_or_ge i c with f |f
   ·rw[yf (by omega),iG (by omega),m i f]at u;cases u
   ·omega
  subst C;have H:wpList P ops Q [o2] a w:=h.2;unfold wpOp;rw[l];unfold wpList at H;simp only[jS K,if_true]at H ⊢;refine H.imp_left (Oper.wp_mono λI Y k=>⟨?_,k⟩)
  cases hx:Region.ready .any ops ((d.push false).setIfInBounds i true) with
  |nil=>rfl
  |cons p r=>
   obtain⟨x,q,k,_⟩:=mem_ready.1 (show p ∈ Region.ready .any ops ((d.push false).setIfInBounds i true) by rw[hx];simp);have hp:=l4 k;rcases Nat.decEq p i with f |f
   ·rw[Hh f,yf (by omega),iG (by omega),m p (by omega)]at x;cases x
   ·subst f;have:((d.push false).setIfInBounds p true).getD p true=true:=by simp[Array.getD_eq_getD_getElem?,t]
    rw[this]at x;cases x
 |s+1,d,a,w,t,R,h=>by
  obtain⟨D,M,N⟩:=FI (listed:=d) (by omega);have M:D<c:=by omega
  have a3:(d.push false).getD D true=false:=by rw[yf (by omega)];exact N
  refine⟨λE=>absurd E (Dn A (by simp[t,O]) (c+1) D (by omega) (by omega) a3),λi G=>?_⟩;obtain⟨u,o,g,m⟩:=mem_ready.1 G;have Z:=l4 g;have C:i<c:=by
   rcases Nat.lt_or_ge i c with f |f
   ·exact f
   ·have:i=c:=by omega
    subst this;rw[l]at g;cases g;have:=J D M;simp only[lG,l]at this;obtain⟨e,n,F⟩:=Array.any_eq_true'.1 this;simp only[Bool.and_eq_true,beq_iff_eq]at F;have y:=m e n F.1;rw[F.2,yf (by omega),←iG (by omega),N]at y
    cases y
  have X:d.getD i true=false:=by rw[yf (by omega)]at u;exact u
  have S:ops'[i]?= some o:=(U i C).trans g;have a1:i ∈ Region.ready .any ops' d:=mem_ready.2 ⟨X,o,S,λe n B=>by
   have y:=m e n B;have a4:=FT A i o (by rw[Array.getElem?_toList];exact g) e n B
   rwa [yf (by omega)]at y⟩
  refine ZgF g S (L i o C g) (λe a w a0 k=>?_) (λI Y k=>?_) (h.2 i a1)
  ·cases e <;> first |exact absurd rfl a0 |exact k
  ·rw[Wt (by omega)];exact Uo O l K J A L a2 U s _ I Y (by simp[t]) (by have:=BS X;omega) k
theorem ZsD{N:Nat}{G:V→Value→Prop}{w0:dW}{v0:Zb}(s:e9 H){cf:fq}(I:we H cf){ops:Array Oper}{o:Oper}{K:Fr→Lo→Nat→Option h}{Q:Exit→Act→World→Prop}{a:Act}{w:World}(n:ops.toList.dropLast++[o]=ops.toList)(M:o.guard=none)(E:∀i,i<ops.toList.dropLast.length→(kj (gv ops.toList.dropLast []) o.after.toList 0).testBit i=true)(F:kJ 0 ops.toList=true)(u:∀o ∈ ops.toList,∀k,o.dst=some k→k<N)(d:(pn H ops.toList ops.toList.dropLast j e g λj e g W=>match mc [] (gv ops.toList.dropLast []) W with
   |true=>ll H cf ops.toList [o] j e g K
   |false=>none)=some L)(c:fG N G w0 v0 (· < g) j e a w)(D:ns N G w0 v0 g j e (λj e g=>K j e g=some L) (Q .normal)):wpAny H.P .any ops Q ops.size (Array.replicate ops.size false) a w.drew:=by
 obtain⟨C,p,q,r,m⟩:=Ia d;split at m
 ·rename_i J;have y:(e.map En.k).Nodup:=by obtain⟨_,_,_,c⟩:=c;exact c.nd
  have A:ops.size=ops.toList.dropLast.length+1:=by
   have:=congrArg List.length n;simp at this ⊢;omega
  have R:o ∈ ops.toList:=by rw[←n];simp
  have l:∀f,(Array.replicate ops.size false).getD f false=false:=λf=>getD_replicate_false _ _;have O:left (Array.replicate ops.size false)=ops.toList.dropLast.length+1:=by rw[←A];simp[left]
  have B:=Oj (G:=G) (w0:=w0) (v0:=v0) (Q:=Q) s (Ts:=C) n M E F u p y q r J (λZ w' U=>?_) ops.toList.dropLast.length (Array.replicate ops.size false) a w.drew O ?_ ⟨by simp,λf o _ x=>?_,j,e,?_,λt=>?_,λt=>?_⟩
  ·rw[←A]at B;exact B
  ·have S:=IC (Nat.le_refl g) p q y r;exact AY s I u m (λo' P=>by rcases List.mem_singleton.1 P with rfl;exact R) U (D.step (by omega) S)
  ·rw[iG (by rw[Array.size_replicate];omega)];exact l _
  ·rw[l]at x;cases x
  ·obtain⟨X,v,Y,c⟩:=c.draw;exact⟨X,v,Y,c.mono (λ_ d=>.inl d) λ_ d=>.inl d⟩
  ·exact(oM λf _ _ hs=>by rw[show sel _ _=false from l _]at hs;cases hs).symm
  ·exact(oM λf _ _ hs=>by rw[show sel _ _=false from l _]at hs;cases hs).symm
 ·cases m
theorem ZxF{c:Oper}(h:F3 Q C=some (A,c)):C=C.dropLast++[c]∧(C.dropLast.dropLast++[A]=C.dropLast∧A.guard=none∧∀i,i<C.dropLast.dropLast.length→(kj (gv C.dropLast.dropLast []) A.after.toList 0).testBit i=true)∧c.guard=none∧kJ 0 C.dropLast=true∧
  (∀j,j<C.dropLast.length→lG C.toArray C.dropLast.length j=true)∧∀o ∈ C.dropLast,o.guard=none:=by
 unfold F3 at h;split at h
 ·rename_i B y s r;split at h
  ·rename_i d x n m;split at h
   ·rename_i w e f g k
    cases h
    obtain⟨D,t⟩:=List.getLast?_eq_some_iff.1 s;have l:C=C.dropLast++[c]:=by rw[t,List.dropLast_concat]
    obtain⟨E,u⟩:=List.getLast?_eq_some_iff.1 r;exact⟨l,⟨by rw[u,List.dropLast_concat],n,Ns k⟩,m,e,λj p=>List.all_eq_true.1 f j (List.mem_range.2 p),λo q=>by simpa using List.all_eq_true.1 g o q⟩
   ·cases h
  ·cases h
 ·cases h
theorem WN{N:Nat}(x:e9 H){cf:fq}(B:we H cf){id:Nat}{f:Oper}{a:Act}(n:F3 H.mats r.toList=some (A,f))(U:H.P.follows .mixedOrders=true)(I:kJ 0 r.toList=true)(C:∀c ∈ r.toList,∀q,c.dst=some q→q<N)(F:(pn H r.toList.dropLast r.toList.dropLast.dropLast j e w λj e w ps=>match mc [] (gv r.toList.dropLast.dropLast []) ps with
   |true=>ll H cf r.toList.dropLast [A] j e w λj e w=>ll H cf r.toList [f] j e w t
   |false=>none)=some L)(Z:fG N d m i (· < w) j e a o)(G:ns N d m i w j e (λj e w=>t j e w=some L) (k .normal)):(Code.region id r true).wp H.P k a o:=by
 obtain⟨l,u,O,J,M,P⟩:=ZxF n;refine wp_region_any U ?_;have D:r.size=r.toList.dropLast.length+1:=by
  have:=congrArg List.length l;simp at this ⊢;omega
 have y:∀g,g<r.toList.dropLast.length→r.toList.dropLast.toArray[g]?= r[g]?:=λg s=>by
  rw[List.getElem?_toArray,←Array.getElem?_toList]
  conv=>rhs;rw[l]
  rw[List.getElem?_append_left s]
 have S:r[r.toList.dropLast.length]?= some f:=by
  rw[←Array.getElem?_toList]
  conv=>lhs;rw[l]
  simp
 have X:f ∈ r.toList:=by rw[l];simp
 have a0:∀c ∈ r.toList.dropLast.toArray.toList,c ∈ r.toList:=λc n=>by rw[l];exact List.mem_append_left _ (by simpa using n)
 have p:r.toList.dropLast.toArray.toList=r.toList.dropLast:=by simp
 have a2:=Uo (P:=H.P) (Q:=k) (ops:=r) (o2:=f) D S O (λa1 Q=>by have:=M a1 Q;simpa using this) I (λg c s Y=>P c (by
   have:=y g s;rw[Y,List.getElem?_toArray]at this;exact mG this)) (ops':=r.toList.dropLast.toArray) (by simp) y r.toList.dropLast.length (Array.replicate r.toList.dropLast.length false) a o.drew (by simp) (by simp[left])
  (by
   have K:=ZsD (N:=N) (G:=d) (w0:=m) (v0:=i) (ops:=r.toList.dropLast.toArray) (o:=A) (Q:=u7 H.P r f (k)) (a:=a) (w:=o) (K:=λj e w=>ll H cf r.toList [f] j e w t) x B (by rw[p];exact u.1) u.2.1 (by rw[p];exact u.2.2) (by rw[p];exact J) (λc n q R=>C c (a0 c n) q R) (by rw[p];exact F) Z
    (λf1 l1 n1 a3 w1 q1 q2 q3 q4=>AY x B C q1 (λo' W=>by rcases List.mem_singleton.1 W with rfl;exact X) q4 (G.step q2 q3))
   simpa using K)
 rw[D];have E:(Array.replicate r.toList.dropLast.length false).push false=Array.replicate (r.toList.dropLast.length+1) false:=by
  rw[Array.replicate_succ]
 rw[←E];exact a2
end Go.Eng
