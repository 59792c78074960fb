/- Lemmas towards the statement: the engine of the walks, the functions' models, laws and walks, part 5. Conditions: as each states. -/
import Derived.Test.YtlaibjmfjnhaoaaGreatMcD
set_option linter.all false
set_option maxRecDepth 100000
namespace Go.Eng
def ZOb:List Rat:=[(1:Rat) / 10,1,10]
def tT:Nat→Rat:=λk=>ZOb.getD k 0
theorem Zvh:Zje ZOb=0:=by decide +kernel
theorem tT_sz:∀ k,k<ZOb.length→sz 64 (ZOb.getD k 0):=λk hk=>by
 have hk:k<3:=hk
 rcases (show k=0∨k=1∨k=2 by omega) with rfl | rfl | rfl <;> constructor <;> decide +kernel
theorem tT_in:∀ i,i<3→0<tT i∧(0<i→tT (i-1)<tT i):=(Zzm.1 Zvh).2
theorem Ziv {rest:Int} {ws:Int×Int×Int} (h0:inR .u8 rest) (h1:inR .u8 ws.1) (h2:inR .u8 ws.2.1) (h3:inR .u8 ws.2.2):∃ x:Nat→Rat,Zjk rest ws=some (mkB 3 x tT,ZOb)∧(∀ k,k<4→0≤x k)∧∀ k,k<4→sz 64 (x k):=by
 have h0:=Z0d.1 h0;have h1:=Z0d.1 h1;have h2:=Z0d.1 h2;have h3:=Z0d.1 h3;obtain⟨a0,e0,p0,q0,w0⟩:=rem8 (m:=20) h0.1 (by omega) (by omega);obtain⟨a1,e1,p1,q1,w1⟩:=rem8 (m:=20) h1.1 (by omega) (by omega);obtain⟨a2,e2,p2,q2,w2⟩:=rem8 (m:=20) h2.1 (by omega) (by omega);obtain⟨a3,e3,p3,q3,w3⟩:=rem8 (m:=20) h3.1 (by omega) (by omega);have et:ZLb (1:Int) (10:Int)=some ((1:Rat) / 10):=by
  unfold ZLb ZLf;rw[Za];decide +kernel
 have qi:∀ z:Int,ZR z=some (z:Rat):=λz=>rfl;refine⟨λk=>match k with | 0=>(a0:Rat) | 1=>(a1:Rat) | 2=>(a2:Rat) | _=>(a3:Rat),?_,λk hk=>?_,λk hk=>?_⟩
 ·unfold Zjk;rw[e0,Za,w0,qi,Za,et,Za,qi,Za,qi,Za,show idx [(1:Rat) / 10,((1:Int):Rat),((10:Int):Rat)] (0:Int)=some ((1:Rat) / 10) from rfl,Za,Z1 (by simp),Za,e1,Za,w1,qi,Za,Z1 (by simp),Za,Za,Za,Za,show idx [(1:Rat) / 10,((1:Int):Rat),((10:Int):Rat)] (1:Int)=some ((1:Int):Rat) from rfl,Za,Z1 (by simp),Za,e2,Za,w2,qi,Za,Z1 (by simp),Za,Za,Za,Za,show idx [(1:Rat) / 10,((1:Int):Rat),((10:Int):Rat)] (2:Int)=some ((10:Int):Rat) from rfl,Za,Z1 (by simp),Za,e3,Za,w3,qi,Za,Z1 (by simp),Za];rfl
 ·rcases (show k=0∨k=1∨k=2∨k=3 by omega) with rfl | rfl | rfl | rfl <;> exact Rat.intCast_le_intCast.2 (by assumption)
 ·rcases (show k=0∨k=1∨k=2∨k=3 by omega) with rfl | rfl | rfl | rfl <;> exact Z4i (by omega)
theorem mc_nn {t w:Rat} (ht:0<t) (hw:0≤w):0≤un1 t w∧0≤un2 t w:=by
 have h1:0≤w*t:=Rat.mul_nonneg hw (Rat.le_of_lt ht);have h2:0≤w*t*(w*t):=Rat.mul_nonneg h1 h1;have h3:(0:Rat)<w*t*(w*t)+1:=by grind
 have h4:=Rat.le_of_lt (Rat.inv_pos.2 h3);unfold un1 un2;rw[Rat.div_def,Rat.div_def];exact⟨Rat.mul_nonneg h2 h4,Rat.mul_nonneg h1 h4⟩
theorem mc_rs {r:RBR} {w:Rat} (h0:0≤r.1) (h:∀ i,i<r.2.length→0≤(gP r.2 i).1∧0<(gP r.2 i).2) (hw:0≤w):∀ i,i≤r.2.length→0≤(rs r w i).1∧0≤(rs r w i).2
 | 0,_=>⟨h0,Rat.le_refl⟩
 | i+1,hi=>by
  obtain⟨a,b⟩:=mc_rs h0 h hw i (by omega)
  obtain⟨c,d⟩:=h i (by omega)
  obtain⟨e,f⟩:=mc_nn d hw
  exact⟨by have:=Rat.mul_nonneg e c;show 0≤_+_;grind,by have:=Rat.mul_nonneg f c;show 0≤_+_;grind⟩
theorem Zcs {a b:Nat} (h1:1≤a) (h2:a≤4) (h3:1≤b) (h4:b≤4):aw (8*7800+3) (b+b+(b+b)) (a+1+1) (a+3)≤1000000000∧(a+1+1+1)*(((8*7800+3)*((b+b+(b+b)+1)*(a+1+1+1))+1)+aw (8*7800+3) (b+b+(b+b)) (a+1+1) (a+3)+2)≤137438953472:=by
 rcases (show a=1∨a=2∨a=3∨a=4 by omega) with rfl | rfl | rfl | rfl <;> rcases (show b=1∨b=2∨b=3∨b=4 by omega) with rfl | rfl | rfl | rfl <;> decide
theorem mc_le {W n:Nat} {l:List P4} {x t:Nat→Rat} {f:RBR×Rat×List (Rat×Rat)} {s:Rat} (hh:∀ i,i<l.length→0<(gR l i).2.2.2) (hx:∀ k,k<n+1→0≤x k) (hf:Zgf W l n t f) (h0:0≤s) (he:∀ i,i<l.length→q1F (mkB n x t) (gR l i)≤s∧q2F (mkB n x t) (gR l i)≤s):f.2.1≤s:=by
 obtain⟨r,y,u,v,rfl,r0,hm,hd,_⟩:=hf;exact Rat.le_trans (Z5o (Zlj (mkB n x t) l l.length).1 (ZGx hh hx) hd) (ZGl h0 _ he)
theorem ZRl {W n:Nat} {l:List P4} {t:Nat→Rat} {f:RBR×Rat×List (Rat×Rat)} (hf:Zgf W l n t f):0≤f.2.1∧sz W f.2.1:=by
 obtain⟨r,y,u,v,rfl,r0,_,_,z1,_⟩:=hf;exact⟨r0,z1⟩
theorem ZXh {x h s:Rat} (hh:0<h) (h1:-(h*s)≤x) (h2:x≤h*s):Zja x / h≤s:=(Zmm hh).2 ⟨h1,h2⟩
theorem sgnQ (x:Rat):ZN x=some x.num.sign:=rfl
theorem mc_sgn {x y:Rat}:((x-y).num.sign≤0)↔x≤y:=by
 have h:=ZSc (x-y);constructor
 ·intro k;exact Rat.not_lt.1 λh2=>absurd (h.2 (by grind)) (by omega)
 ·intro k;have:¬ 0<x-y:=λh2=>absurd k (Rat.not_le.2 (by grind));exact Int.not_lt.1 λq=>this (h.1 q)
noncomputable def ZXe (l:List (Rat×Rat×Rat×Rat)) (other:List (Rat×Rat×Rat×Rat)) (r:Rat):Option (List (Rat×Rat×Rat×Rat)) :=
 bnd (Zx 224 (([]:List (Rat×Rat×Rat×Rat))++l)) λ_ =>
 bnd (Zg (σ:=(List (Rat×Rat×Rat×Rat))×Int) (ρ:=List (Rat×Rat×Rat×Rat)) (λa =>
 ifb (decide (a.2<(other.length:Int)))
 (bnd (idx other a.2) λb =>
 bnd (Zia b.1 r) λc =>
 bnd (Zx 224 (a.1++[(c,b.2)])) λ_ =>
 bnd (chk .i64 (a.2+(1:Int))) λd =>
 some (.inl (a.1++[(c,b.2)],d)))
 (some (.inr a.1)))
  Zk (([]:List (Rat×Rat×Rat×Rat))++l,(0:Int))) λe =>
 some e
noncomputable def ZYf (l:List (Rat×Rat×Rat×Rat)) (other:List (Rat×Rat×Rat×Rat)) (rs:List Rat) (tms:List Rat):Option (Int×Rat×Int) :=
 bnd (Zg (σ:=Int×Int×Rat) (ρ:=(Int×Rat) ⊕ (Int×Rat×Int)) (λa =>
 ifb (decide (a.2.1<(rs.length:Int)))
 (bnd (idx rs a.2.1) λf =>
 bnd (ZXe l other f) λg =>
 bnd (Zae g tms) λb =>
 ifb (b.2 != (0:Int))
 (some (.inr (.inr ((0:Int),(0:Rat),b.2))))
 (bnd (α:=Bool)
 (ifb (a.2.1==(0:Int))
 (some true)
 (bnd (Z1b b.1.2.1 a.2.2) λh =>
 some (decide (h<(0:Int))))) λi =>
 bnd (α:=Int×Rat)
 (ifb i
 (some (a.2.1,b.1.2.1))
 (some (a.1,a.2.2))) λd =>
 bnd (chk .i64 (a.2.1+(1:Int))) λj =>
 some (.inl (d.1,j,d.2))))
 (some (.inr (.inl (a.1,a.2.2)))))
  Zk ((0:Int),(0:Int),(0:Rat))) λk =>
 match k with
| .inl e=>(some (e.1,e.2,(0:Int)))
| .inr c=>(some (c.1,c.2.1,c.2.2))
noncomputable def ZNe (l:List Rat):Option Int :=
 bnd (α:=Bool)
 (ifb (decide ((l.length:Int)<(1:Int)))
 (some true)
 (some (decide ((16:Int)<(l.length:Int))))) λb =>
 ifb b
 (some (4:Int))
 (bnd (Zg (σ:=Int) (ρ:=Unit ⊕ Int) (λa =>
 ifb (decide (a<(l.length:Int)))
 (bnd (idx l a) λc =>
 bnd (ZN c) λd =>
 ifb (decide (d≤(0:Int)))
 (some (.inr (.inr (1:Int))))
 (bnd (chk .i64 (a+(1:Int))) λe =>
 some (.inl e)))
 (some (.inr (.inl ()))))
   Zk (0:Int)) λf =>
  match f with
| .inl h=>(some (0:Int))
| .inr g=>(some g))
noncomputable def Zlk (l:List (Rat×Rat×Rat×Rat)) (other:List (Rat×Rat×Rat×Rat)) (rs:List Rat) (tms:List Rat):Option (Int×Rat×Int) :=
 bnd (Zg (σ:=Int) (ρ:=Unit ⊕ (Int×Rat×Int)) (λa =>
 ifb (decide (a<(2:Int)))
 (bnd (α:=List (Rat×Rat×Rat×Rat))
 (ifb (decide (a=(0:Int)))
 (some l)
 (ifb (decide (a=(1:Int)))
 (some other)
      (none))) λg =>
 bnd (ZCf g) λd =>
 ifb (d != (0:Int))
 (some (.inr (.inr ((0:Int),(0:Rat),d))))
 (bnd (chk .i64 (a+(1:Int))) λh =>
 some (.inl h)))
 (some (.inr (.inl ()))))
  Zk (0:Int)) λi =>
 match i with
| .inl k=>(bnd (chk .i64 ((l.length:Int)+(other.length:Int))) λj =>
 ifb (decide ((12:Int)<j))
 (some ((0:Int),(0:Rat),(4:Int)))
 (bnd (Zyf tms) λe =>
 ifb (e != (0:Int))
 (some ((0:Int),(0:Rat),e))
 (bnd (ZNe rs) λf =>
 ifb (f != (0:Int))
 (some ((0:Int),(0:Rat),f))
 (bnd (ZYf l other rs tms) λb =>
 some (b.1,b.2.1,b.2.2)))))
| .inr c=>(some (c.1,c.2.1,c.2.2))
noncomputable def ZXk (l:List (List (Rat×Rat×Rat×Rat))) (rs:List Rat) (tms:List Rat):Option ((List Int)×((Rat×(List (Rat×Rat)))×Rat×(List (Rat×Rat)))×Int) :=
 bnd (α:=Bool)
 (ifb (decide ((l.length:Int)<(1:Int)))
 (some true)
 (some (decide ((16:Int)<(l.length:Int))))) λo =>
 ifb o
 (some (([]:List Int),(((0:Rat),([]:List (Rat×Rat))),(0:Rat),([]:List (Rat×Rat))),(4:Int)))
 (bnd (Zg (σ:=Int×Int) (ρ:=Int ⊕ ((List Int)×((Rat×(List (Rat×Rat)))×Rat×(List (Rat×Rat)))×Int)) (λd =>
 ifb (decide (d.2<(l.length:Int)))
 (bnd (idx l d.2) λg =>
 bnd (ZCf g) λh =>
 ifb (h != (0:Int))
 (some (.inr (.inr (([]:List Int),(((0:Rat),([]:List (Rat×Rat))),(0:Rat),([]:List (Rat×Rat))),h))))
 (bnd (chk .i64 (d.1+(g.length:Int))) λp =>
 bnd (chk .i64 (d.2+(1:Int))) λq =>
 some (.inl (p,q))))
 (some (.inr (.inl d.1))))
   Zk ((0:Int),(0:Int))) λr =>
  match r with
| .inl s=>(ifb (decide ((12:Int)<s))
 (some (([]:List Int),(((0:Rat),([]:List (Rat×Rat))),(0:Rat),([]:List (Rat×Rat))),(4:Int)))
 (bnd (Zyf tms) λi =>
 ifb (i != (0:Int))
 (some (([]:List Int),(((0:Rat),([]:List (Rat×Rat))),(0:Rat),([]:List (Rat×Rat))),i))
 (bnd (ZNe rs) λj =>
 ifb (j != (0:Int))
 (some (([]:List Int),(((0:Rat),([]:List (Rat×Rat))),(0:Rat),([]:List (Rat×Rat))),j))
 (bnd (idx l (0:Int)) λt =>
 bnd (ZWa l (1:Int) (l.length:Int)) λk =>
 bnd (Zg (σ:=(List (Rat×Rat×Rat×Rat))×(List Int)×Int) (ρ:=((List (Rat×Rat×Rat×Rat))×(List Int)) ⊕ ((List Int)×((Rat×(List (Rat×Rat)))×Rat×(List (Rat×Rat)))×Int)) (λa =>
 ifb (decide (a.2.2<(k.length:Int)))
 (bnd (idx k a.2.2) λm =>
 bnd (ZYf a.1 m rs tms) λe =>
 ifb (e.2.2 != (0:Int))
 (some (.inr (.inr (([]:List Int),(((0:Rat),([]:List (Rat×Rat))),(0:Rat),([]:List (Rat×Rat))),e.2.2))))
 (bnd (idx rs e.1) λu =>
 bnd (ZXe a.1 m u) λv =>
 bnd (Zx 8 (a.2.1++[e.1])) λ_ =>
 bnd (chk .i64 (a.2.2+(1:Int))) λw =>
 some (.inl (v,a.2.1++[e.1],w))))
 (some (.inr (.inl (a.1,a.2.1)))))
       Zk (t,[(-1:Int)],(0:Int))) λx =>
      match x with
| .inl n=>(bnd (Zae n.1 tms) λf =>
 ifb (f.2 != (0:Int))
 (some (([]:List Int),(((0:Rat),([]:List (Rat×Rat))),(0:Rat),([]:List (Rat×Rat))),f.2))
 (some (n.2,f.1,(0:Int))))
| .inr b=>(some (b.1,((b.2.1.1.1,b.2.1.1.2),b.2.1.2.1,b.2.1.2.2),b.2.2))))))
| .inr c=>(some (c.1,((c.2.1.1.1,c.2.1.1.2),c.2.1.2.1,c.2.1.2.2),c.2.2)))
abbrev FitT:=RBR×Rat×List (Rat×Rat)
def shL (l other:List P4) (r:Rat):List P4:=l++other.map λx=>(x.1*r,x.2)
theorem Zht (l other:List P4) (r:Rat):(shL l other r).length=l.length+other.length:=by unfold shL;simp
theorem shL_0 {l other:List P4} {r:Rat} {i:Nat} (h:i<l.length):gR (shL l other r) i=gR l i:=by
 unfold shL gR;rw[List.getD_eq_getElem?_getD,List.getD_eq_getElem?_getD,List.getElem?_append_left h]
theorem shL_1 {l other:List P4} {r:Rat} {i:Nat} (h:i<other.length):gR (shL l other r) (l.length+i)=((gR other i).1*r,(gR other i).2):=by
 unfold shL gR;rw[List.getD_eq_getElem?_getD,List.getElem?_append_right (by omega),Nat.add_sub_cancel_left,List.getElem?_map,List.getD_eq_getElem?_getD,List.getElem?_eq_getElem h];rfl
theorem ZCv {l other:List P4} {r:Rat} {K k:Nat} (h:∀ i,i<other.length→sz K (gR other i).1) (hr:sz k r) (hK:K≤1099511627776) (hk:k≤1099511627776) (hl:l.length≤1000) (ho:other.length≤1000):ZXe l other r=some (shL l other r):=by
 unfold ZXe;rw[List.nil_append,Z1 (by omega),Za];refine Zo (y:=shL l other r) (ZZ (λq=>(shL l (other.take q) r,(q:Int))) other.length ?_ (by omega) (λq hq=>?_) ?_) rfl
 ·unfold shL;simp
 ·have g:=ZUb (l:=other) (d:=((0:Rat),(0:Rat),(0:Rat),(0:Rat))) hq;have e:shL l (other.take q) r++[((gR other q).1*r,(gR other q).2)]=shL l (other.take (q+1)) r:=by
   unfold shL;rw[List.take_succ_eq_append_getElem hq,List.map_append,← aAq];show _=_++[(other[q].1*r,other[q].2)];rw[← g]
  simp only;rw[dTq (by omega),Zf,Zy hq,Za,← g,ZVa (h q hq) hr hK hk,Za,e,Z1 (by rw[Zht,List.length_take];omega),Za,Zl (by omega) (by omega),Za];rfl
 ·simp only;rw[dFq (by omega),Ze,List.take_length]
def bAt (M:Nat→Rat):Nat→Nat
 | 0=>0
 | i+1=>if i=0 then 0 else if M i<M (bAt M i) then i else bAt M i
theorem Zwm (M:Nat→Rat):∀ n,1≤n→bAt M n<n∧∀ j,j<n→M (bAt M n)≤M j∧(j<bAt M n→M (bAt M n)<M j)
 | 0,h=>by omega
 | 1,_=>by
  have e:bAt M 1=0:=rfl
  rw[e]
  exact⟨by omega,λj hj=>by obtain rfl:j=0:=(by omega);exact⟨Rat.le_refl,λh=>by omega⟩⟩
 | i+2,_=>by
  obtain⟨h1,h2⟩:=Zwm M (i+1) (by omega)
  have e:bAt M (i+2)=if M (i+1)<M (bAt M (i+1)) then i+1 else bAt M (i+1):=rfl
  rw[e]
  by_cases h:M (i+1)<M (bAt M (i+1))
  ·rw[iP h]
   refine⟨by omega,λj hj=>?_⟩
   by_cases ej:j=i+1
   ·rw[ej];exact⟨Rat.le_refl,λh=>by omega⟩
   ·have:=(h2 j (by omega)).1
    exact⟨by grind,λ_=>by grind⟩
  ·rw[iN h]
   refine⟨by omega,λj hj=>?_⟩
   by_cases ej:j=i+1
   ·rw[ej];exact⟨Rat.not_lt.1 h,λh=>by omega⟩
   ·exact h2 j (by omega)
theorem ZCw {l other:List P4} {rs tms:List Rat} {W:Nat} {F:Nat→FitT} (hF:∀ j,j<rs.length→∃ y,ZXe l other (rs.getD j 0)=some y∧Zae y tms=some (F j,0)∧sz W (F j).2.1) (hW:W≤1099511627776) (hn:rs.length≤1000) (h1:1≤rs.length) :
  ZYf l other rs tms=some ((bAt (λj=>(F j).2.1) rs.length:Int),(F (bAt (λj=>(F j).2.1) rs.length)).2.1,0):=by
 unfold ZYf;refine Zo (y:=.inl ((bAt (λj=>(F j).2.1) rs.length:Int),(F (bAt (λj=>(F j).2.1) rs.length)).2.1)) (ZZ (λq=>((bAt (λj=>(F j).2.1) q:Int),(q:Int),if q=0 then (0:Rat) else (F (bAt (λj=>(F j).2.1) q)).2.1)) rs.length rfl (by omega) (λq hq=>?_) ?_) rfl
 ·obtain⟨y,e1,e2,e3⟩:=hF q hq;simp only;rw[dTq (by omega),Zf,ZPe hq,Za,e1,Za,e2,Za,show ((0:Int) != (0:Int))=false from rfl,Ze];have eb:bAt (λj=>(F j).2.1) (q+1)=if q=0 then 0 else if (F q).2.1<(F (bAt (λj=>(F j).2.1) q)).2.1 then q else bAt (λj=>(F j).2.1) q:=rfl;have hif:(if q+1=0 then (0:Rat) else (F (bAt (λj=>(F j).2.1) (q+1))).2.1)=(F (bAt (λj=>(F j).2.1) (q+1))).2.1:=iN (by omega);by_cases h0:q=0
  ·subst h0;rw[show (((0:Nat):Int)==(0:Int))=true from rfl,Zf,Za,Zf,Za,Zl (by omega) (by omega),Za,hif,eb,iP rfl];rfl
  ·have hb:=(Zwm (λj=>(F j).2.1) q (by omega)).1;have zb:=(hF _ (show bAt (λj=>(F j).2.1) q<rs.length by omega));obtain⟨_,_,_,zb⟩:=zb;rw[show ((q:Int)==(0:Int))=false by rw[beq_eq_false_iff_ne];omega,Ze,iN h0,Zxe e3 zb hW hW,Za,Za,hif,eb,iN h0];by_cases h:(F q).2.1<(F (bAt (λj=>(F j).2.1) q)).2.1
   ·rw[dTq ((ZIc _).2 (by grind)),Zf,Za,iP h,Zl (by omega) (by omega),Za];rfl
   ·rw[dFq (λg=>h (by have:=(ZIc _).1 g;grind)),Ze,Za,iN h,Zl (by omega) (by omega),Za];rfl
 ·simp only;rw[dFq (by omega),Ze,iN (by omega)]
theorem ZAw {l:List Rat} (h1:1≤l.length) (h2:l.length≤16) (hp:∀ i,i<l.length→0<l.getD i 0):ZNe l=some 0:=by
 unfold ZNe;rw[dFq (by omega),Ze,dFq (by omega),Za,Ze];refine Zo (y:=.inl ()) (ZZ (λq=>(q:Int)) l.length rfl (by omega) (λq hq=>?_) ?_) rfl
 ·rw[dTq (by omega),Zf,ZPe hq,Za];unfold ZN;rw[Za,dFq (λh=>by have:=(ZSc _).2 (hp q hq);omega),Ze,Zl (by omega) (by omega),Za];rfl
 ·rw[dFq (by omega),Ze]
theorem Z9w {l other:List P4} {rs tms:List Rat} {K a:Nat} {b:Rat} (h1:ZBc l=0) (h2:ZBc other=0) (hl:l.length+other.length≤12) (ht:∀ i,i<tms.length→sz K (tX tms i)) (hK:K≤1099511627776) (h3:Zje tms=0) (h4:ZNe rs=some 0) (h5:ZYf l other rs tms=some ((a:Int),b,0)):Zlk l other rs tms=some ((a:Int),b,0):=by
 unfold Zlk;refine Zo (y:=.inl ()) (ZZ (λq=>(q:Int)) 2 rfl (by omega) (λq hq=>?_) ?_) ?_
 ·rcases (show q=0∨q=1 by omega) with rfl | rfl
  ·rw[dTq (by omega),Zf,dTq (by omega),Zf,Za,ZJh,h1,Za,show ((0:Int) != (0:Int))=false from rfl,Ze,Zl (by omega) (by omega),Za];rfl
  ·rw[dTq (by omega),Zf,dFq (by omega),Ze,dTq (by omega),Zf,Za,ZJh,h2,Za,show ((0:Int) != (0:Int))=false from rfl,Ze,Zl (by omega) (by omega),Za];rfl
 ·rw[dFq (by omega),Ze]
 simp only;rw[Zl (by omega) (by omega),Za,dFq (by omega),Ze,ZOi ht hK,h3,Za,show ((0:Int) != (0:Int))=false from rfl,Ze,h4,Za,show ((0:Int) != (0:Int))=false from rfl,Ze,h5,Za]
theorem ZTt {L:List (List P4)} {rs tms:List Rat} {K:Nat} {T:Nat→List P4} {AT:Nat→Nat} {f:FitT} (hL:1≤L.length) (hL2:L.length≤16) (hc:∀ i,i<L.length→ZBc (L.getD i [])=0) (hs:∀ q,q≤L.length→((L.take q).map List.length).sum≤12) (ht:∀ i,i<tms.length→sz K (tX tms i)) (hK:K≤1099511627776) (h3:Zje tms=0) (h4:ZNe rs=some 0)
  (h0:T 0=L.getD 0 []) (hT:∀ q,q+1<L.length→∃ b r,ZYf (T q) (L.getD (q+1) []) rs tms=some ((AT q:Int),b,0)∧idx rs (AT q:Int)=some r∧ZXe (T q) (L.getD (q+1) []) r=some (T (q+1))) (hf:Zae (T (L.length-1)) tms=some (f,0)) :
  ZXk L rs tms=some ((-1:Int) :: (vx (L.length-1) λq=>(AT q:Int)),f,0):=by
 unfold ZXk;have gl:∀ {i:Nat},i<L.length→idx L (i:Int)=some (L.getD i []):=λ{i} h=>by rw[Zy h,ZUb h]
 rw[dFq (by omega),Ze,dFq (by omega),Za,Ze];refine Zo (y:=.inl (((L.map List.length).sum:Nat):Int)) (ZZ (λq=>(((((L.take q).map List.length).sum:Nat):Int),(q:Int))) L.length (by simp) (by omega) (λq hq=>?_) ?_) ?_
 ·have e:((L.take (q+1)).map List.length).sum=((L.take q).map List.length).sum+(L.getD q []).length:=by
   rw[List.take_succ_eq_append_getElem hq,List.map_append,List.sum_append,ZUb hq];simp
  have:=hs (q+1) (by omega);simp only;rw[dTq (by omega),Zf,gl hq,Za,ZJh,hc q hq,Za,show ((0:Int) != (0:Int))=false from rfl,Ze,Zl (by omega) (by omega),Za,Zl (by omega) (by omega),Za,e];simp
 ·simp only;rw[dFq (by omega),Ze,List.take_length]
 have hs':=hs L.length (Nat.le_refl _);rw[List.take_length]at hs';simp only;rw[dFq (by omega),Ze,ZOi ht hK,h3,Za,show ((0:Int) != (0:Int))=false from rfl,Ze,h4,Za,show ((0:Int) != (0:Int))=false from rfl,Ze,show (0:Int)=((0:Nat):Int) from rfl,gl (by omega),Za];have hcut:ZWa L (1:Int) (L.length:Int)=some (L.drop 1):=by
  unfold ZWa;rw[iP ⟨by omega,by omega,by omega⟩,tN,List.take_length];rfl
 have hdl:(L.drop 1).length=L.length-1:=List.length_drop;have gd:∀ {i:Nat},i+1<L.length→idx (L.drop 1) (i:Int)=some (L.getD (i+1) []):=λ{i} h=>by
  rw[Zy (by rw[hdl];omega),List.getElem_drop,ZUb h];congr 2;omega
 rw[hcut,Za,hdl,← h0];refine Zo (y:=.inl (T (L.length-1),(-1:Int) :: (vx (L.length-1) λq=>(AT q:Int)))) (ZZ (λq=>(T q,(-1:Int) :: (vx q λq=>(AT q:Int)),(q:Int))) (L.length-1) rfl (by omega) (λq hq=>?_) ?_) ?_
 ·obtain⟨b,r,e1,e2,e3⟩:=hT q (by omega);have e4:((-1:Int) :: (vx q λq=>(AT q:Int)))++[(AT q:Int)]=(-1:Int) :: (vx (q+1) λq=>(AT q:Int)):=by
   rw[List.cons_append,Zkb q λq=>(AT q:Int)]
  simp only;rw[dTq (by omega),Zf,gd (by omega),Za,e1,Za,show ((0:Int) != (((0:Nat):Int)))=false from rfl,Ze,e2,Za,e3,Za,e4,Z1 (by rw[List.length_cons,Zi];omega),Za,Zl (by omega) (by omega),Za];rfl
 ·simp only;rw[dFq (by omega),Ze]
 simp only;rw[hf,Za];rfl
noncomputable def ZPi (r:Rat×(List (Rat×Rat))) (fs:Int×Int) (x:Rat):Option ((List (Rat×Rat×Rat×Rat))×(List (Rat×Rat×Rat×Rat))×Bool) :=
 bnd (α:=(List (Rat×Rat×Rat×Rat))×(List (Rat×Rat×Rat×Rat))×Bool)
 (bnd (rem .u8 fs.1 (30:Int)) λl =>
 bnd (chk .i64 ((1:Int)+(IntKind.i64.wrap l))) λm =>
 bnd (ZR m) λc =>
 bnd (Z2e r c) λa =>
 bnd (ZPc c x) λd =>
 bnd (α:=Bool)
 (ifb (a.2.2 != (0:Int))
 (some true)
 (some (d.2 != (0:Int)))) λn =>
 ifb n
 (some (([]:List (Rat×Rat×Rat×Rat)),([]:List (Rat×Rat×Rat×Rat)),false))
 (bnd (ZLb (1:Int) (2:Int)) λf =>
 bnd (Zx 224 (([]:List (Rat×Rat×Rat×Rat))++[(c,a.1,a.2.1,f)])) λ_ =>
 bnd (ZLb (1:Int) (2:Int)) λg =>
 bnd (Zx 224 (([]:List (Rat×Rat×Rat×Rat))++[(d.1,a.1,a.2.1,g)])) λ_ =>
 bnd (rem .u8 fs.2 (30:Int)) λo =>
 bnd (chk .i64 ((1:Int)+(IntKind.i64.wrap o))) λp =>
 bnd (ZR p) λe =>
 bnd (Z2e r e) λb =>
 bnd (ZPc e x) λh =>
 bnd (α:=Bool)
 (ifb (b.2.2 != (0:Int))
 (some true)
 (some (h.2 != (0:Int)))) λq =>
 ifb q
 (some (([]:List (Rat×Rat×Rat×Rat)),([]:List (Rat×Rat×Rat×Rat)),false))
 (bnd (ZLb (1:Int) (2:Int)) λj =>
 bnd (Zx 224 ((([]:List (Rat×Rat×Rat×Rat))++[(c,a.1,a.2.1,f)])++[(e,b.1,b.2.1,j)])) λ_ =>
 bnd (ZLb (1:Int) (2:Int)) λk =>
 bnd (Zx 224 ((([]:List (Rat×Rat×Rat×Rat))++[(d.1,a.1,a.2.1,g)])++[(h.1,b.1,b.2.1,k)])) λ_ =>
 some ((([]:List (Rat×Rat×Rat×Rat))++[(c,a.1,a.2.1,f)])++[(e,b.1,b.2.1,j)],(([]:List (Rat×Rat×Rat×Rat))++[(d.1,a.1,a.2.1,g)])++[(h.1,b.1,b.2.1,k)],true)))) λi =>
 some (i.1,i.2.1,i.2.2)
noncomputable def ZVk (rest:Int) (ws:Int×Int×Int) (fs:Int×Int) (wh:Int) (off:Int×Int):Option Bool :=
 bnd (Zjk rest ws) λe =>
 bnd (ZR (1:Int)) λg =>
 bnd (ZR (2:Int)) λh =>
 bnd (ZR (5:Int)) λi =>
 bnd (rem .i64 (IntKind.i64.wrap wh) (3:Int)) λm =>
 bnd (idx [g,h,i] m) λn =>
 bnd (ZPi e.1 fs n) λa =>
 ifb (!a.2.2)
 (some false)
 (bnd (Zlk a.1 a.2.1 [g,h,i] e.2) λl =>
 bnd (ZXk [a.1,a.2.1] [g,h,i] e.2) λf =>
 bnd (α:=Bool)
 (ifb (l.2.2 != (0:Int))
 (some true)
 (ifb (f.2.2 != (0:Int))
 (some true)
 (bnd (ZDb l.2.1) λo =>
 ifb (!o)
 (some true)
 (bnd (ZDb f.2.1.2.1) λp =>
 ifb (!p)
 (some true)
 (ifb ((f.1.length:Int) != (2:Int))
 (some true)
 (bnd (idx f.1 (0:Int)) λq =>
 some (q != (-1:Int)))))))) λr =>
 ifb r
 (some false)
 (bnd (idx a.1 (0:Int)) λs =>
 bnd (ZLb (IntKind.i64.wrap off.1) (256:Int)) λt =>
 bnd (Zua s.2.1 t) λc =>
 bnd (idx a.1 (0:Int)) λb =>
 bnd (idx (a.1.set 0 (b.1,c,b.2.2)) (0:Int)) λu =>
 bnd (ZN u.2.1) λv =>
 ifb (decide (v<(0:Int)))
 (bnd ZAg λw =>
 some w)
 (bnd (idx (a.1.set 0 (b.1,c,b.2.2)) (1:Int)) λx =>
 bnd (ZLb (IntKind.i64.wrap off.2) (256:Int)) λy =>
 bnd (Zua x.2.1 y) λj =>
 bnd (idx (a.1.set 0 (b.1,c,b.2.2)) (1:Int)) λd =>
 bnd (idx ((a.1.set 0 (b.1,c,b.2.2)).set 1 (d.1,j,d.2.2)) (1:Int)) λz =>
 bnd (ZN z.2.1) λA =>
 ifb (decide (A<(0:Int)))
 (bnd ZAg λB =>
 some B)
 (bnd (Zfi ((a.1.set 0 (b.1,c,b.2.2)).set 1 (d.1,j,d.2.2)) e.2) λk =>
 bnd (α:=Bool)
 (ifb (k.2==(0:Int))
 (bnd (ZR (1:Int)) λC =>
 bnd (Z1b k.1.2.1 C) λD =>
 ifb (decide (D≤(0:Int)))
 (bnd (Z6h ((a.1.set 0 (b.1,c,b.2.2)).set 1 (d.1,j,d.2.2)) e.2 k.1) λE =>
 ifb E
 (bnd ZAg λF =>
 some F)
 (some false))
 (some false))
 (some false)) λG =>
 some G))))
def mcR (r:RBR) (w w':Rat):P4:=(w',(ZP r w).1,(ZP r w).2,(1:Rat) / 2)
theorem mc_half:ZLb (1:Int) (2:Int)=some ((1:Rat) / 2):=by
 unfold ZLb ZLf;rw[Za];decide +kernel
theorem ZMu {r:RBR} {fs:Int×Int} {x:Rat} {a1 a2:Int} (e1:rem .u8 fs.1 (30:Int)=some a1) (w1:IntKind.i64.wrap a1=a1) (p1:0≤a1) (q1:a1<30) (e2:rem .u8 fs.2 (30:Int)=some a2) (w2:IntKind.i64.wrap a2=a2) (p2:0≤a2) (q2:a2<30) (hx:sz 64 x) (x0:x≠0)
  (hR:∀ w,sz 64 w→0≤w→Z2e r w=some ((ZP r w).1,(ZP r w).2,0)):ZPi r fs x=some ([mcR r ((1+a1:Int):Rat) ((1+a1:Int):Rat),mcR r ((1+a2:Int):Rat) ((1+a2:Int):Rat)],[mcR r ((1+a1:Int):Rat) (((1+a1:Int):Rat) / x),mcR r ((1+a2:Int):Rat) (((1+a2:Int):Rat) / x)],true):=by
 have qi:∀ z:Int,ZR z=some (z:Rat):=λz=>rfl;have zi:∀ z:Int,0≤z→z≤1000→sz 64 (z:Rat):=λz h h2=>Z4i (by omega);have ni:∀ z:Int,0≤z→(0:Rat)≤(z:Rat):=λz h=>by have:=Rat.intCast_le_intCast.2 h;exact this
 unfold ZPi;rw[e1,Za,w1,Zl (by omega) (by omega),Za,qi,Za,hR _ (zi _ (by omega) (by omega)) (ni _ (by omega)),Za,ZKe (zi _ (by omega) (by omega)) hx (by decide) (by decide) x0,Za];simp only;rw[show ((0:Int) != (0:Int))=false from rfl,Ze,Za,Ze,mc_half,Za,Z1 (by simp),Za,Za,Z1 (by simp),Za,e2,Za,w2,Zl (by omega) (by omega),Za,qi,Za,hR _ (zi _ (by omega) (by omega)) (ni _ (by omega)),Za,ZKe (zi _ (by omega) (by omega)) hx (by decide) (by decide) x0,Za];simp only;rw[show ((0:Int) != (0:Int))=false from rfl,Ze,Za,Ze,Za,Z1 (by simp),Za,Za,Z1 (by simp),Za,Za];rfl
theorem Zop {d:Int} (h:-128≤d∧d≤127):∃ o:Rat,ZLb (IntKind.i64.wrap d) (256:Int)=some o∧sz 64 o∧-((1:Rat) / 2)≤o∧o≤(1:Rat) / 2:=by
 have hw:IntKind.i64.wrap d=d:=Z2c (ZFb.2 (by omega));rw[hw];refine⟨Zuf (d,256),by unfold ZLb ZLf;rw[Za],Z3v ⟨⟨by simp only;omega,by simp only;omega⟩,by simp only;omega,by simp only;omega⟩,?_⟩;have e:Zuf (d,256)=(d:Rat) / 256:=by
  unfold Zuf;rw[iN (show ¬ (256:Int)=0 by omega),Rat.divInt_eq_div];rfl
 have h1:((-128:Int):Rat)≤(d:Rat):=Rat.intCast_le_intCast.2 h.1;have h2:(d:Rat)≤((127:Int):Rat):=Rat.intCast_le_intCast.2 h.2;have i:(256:Rat)*(256:Rat)⁻¹=1:=Rat.mul_inv_cancel _ (by decide);have ip:(0:Rat)<(256:Rat)⁻¹:=Rat.inv_pos.2 (by decide);have i2:(1:Rat) / 2=128*(256:Rat)⁻¹:=by decide +kernel
 rw[e,i2,Rat.div_def];generalize (256:Rat)⁻¹=j at *;have m1:=Rat.mul_nonneg (show 0≤(d:Rat)-((-128:Int):Rat) by grind) (Rat.le_of_lt ip);have m2:=Rat.mul_nonneg (show 0≤((127:Int):Rat)-(d:Rat) by grind) (Rat.le_of_lt ip);have c1:((-128:Int):Rat) = -128:=rfl;have c2:((127:Int):Rat)=127:=rfl;rw[c1]at m1;rw[c2]at m2;constructor <;> grind
def mcF:Nat→Rat:=λj=>([(1:Rat),2,5]:List Rat).getD j 0
theorem Zgj:∀ j,j<3→sz 64 (mcF j)∧0<mcF j:=λj hj=>by
 rcases (show j=0∨j=1∨j=2 by omega) with rfl | rfl | rfl <;> (refine⟨⟨?_,?_⟩,?_⟩ <;> decide +kernel)
theorem mc_fit0 {W n:Nat} {l:List P4} {x t:Nat→Rat} {f:FitT} (hh:∀ i,i<l.length→0<(gR l i).2.2.2) (hx:∀ k,k<n+1→0≤x k) (hf:Zgf W l n t f) (he:∀ i,i<l.length→(gR l i).2.1=(ZP (mkB n x t) (gR l i).1).1∧(gR l i).2.2.1=(ZP (mkB n x t) (gR l i).1).2):f.2.1=0:=by
 refine Rat.le_antisymm (mc_le hh hx hf Rat.le_refl λi hi=>?_) (ZRl hf).1;obtain⟨h1,h2⟩:=he i hi;unfold q1F q2F;rw[h1,h2,Rat.sub_self,Rat.sub_self];have:=ZXh (x:=0) (s:=0) (hh i hi) (by grind) (by grind);exact⟨this,this⟩
theorem Zbx {rest wh:Int} {ws:Int×Int×Int} {fs off:Int×Int} (h0:inR .u8 rest) (h1:inR .u8 ws.1) (h2:inR .u8 ws.2.1) (h3:inR .u8 ws.2.2) (f1:inR .u8 fs.1) (f2:inR .u8 fs.2) (hw:inR .u8 wh) (o1:inR .i8 off.1) (o2:inR .i8 off.2):ZVk rest ws fs wh off=some true:=by
 obtain⟨x,t0,x0,xz⟩:=Ziv h0 h1 h2 h3;have f1:=Z0d.1 f1;have f2:=Z0d.1 f2;have hw:=Z0d.1 hw;obtain⟨a1,e1,p1,q1,w1⟩:=rem8 (m:=30) f1.1 (by omega) (by omega);obtain⟨a2,e2,p2,q2,w2⟩:=rem8 (m:=30) f2.1 (by omega) (by omega);obtain⟨d1,r1,z1,l1,u1⟩:=Zop (d:=off.1) o1;obtain⟨d2,r2,z2,l2,u2⟩:=Zop (d:=off.2) o2;have c1:ZR (1:Int)=some (1:Rat):=rfl;have c2:ZR (2:Int)=some (2:Rat):=rfl;have c5:ZR (5:Int)=some (5:Rat):=rfl;have zm:∀ i,i<(mkB 3 x tT).2.length→sz 64 (gP (mkB 3 x tT).2 i).1∧sz 64 (gP (mkB 3 x tT).2 i).2:=λi hi=>by
  rw[Zcc]at hi;rw[ZVq hi];exact⟨xz _ (by omega),tT_sz i hi⟩
 have hB:ZVe (mkB 3 x tT)=0:=Zns (by omega) (λk hk=>x0 k (by omega)) (λi hi=>tT_in i (by omega));have hR:∀ w,sz 64 w→0≤w→Z2e (mkB 3 x tT) w=some ((ZP (mkB 3 x tT) w).1,(ZP (mkB 3 x tT) w).2,0):=λw hw h=>Zcy (K:=64) (W:=64) (xz 0 (by omega)) zm hw h hB (by decide);have hzR:∀ w,sz 64 w→sz 7600 (ZP (mkB 3 x tT) w).1∧sz 7600 (ZP (mkB 3 x tT) w).2:=λw hw=>by
  have:=Zvm (K:=64) (W:=64) (r:=mkB 3 x tT) (xz 0 (by omega)) zm hw (by rw[Zcc];omega);exact⟨this.1.mono (by decide),this.2.mono (by decide)⟩
 have hnR:∀ w,0≤w→0≤(ZP (mkB 3 x tT) w).1∧0≤(ZP (mkB 3 x tT) w).2:=λw hw=>mc_rs (r:=mkB 3 x tT) (x0 0 (by omega)) (λi hi=>by
  rw[Zcc]at hi;rw[ZVq hi];exact⟨x0 _ (by omega),(tT_in i (by omega)).1⟩) hw _ (Nat.le_refl _)
 have wk:IntKind.i64.wrap wh=wh:=Z2c (ZFb.2 (by omega));have km1:=Int.tmod_nonneg (3:Int) hw.1;have km2:=Int.tmod_lt_of_pos wh (show (0:Int)<(3:Int) by omega);have ek:rem .i64 wh (3:Int)=some (wh.tmod 3):=by unfold rem;rw[iN (by omega)]
 obtain⟨o,ho⟩:∃ o:Nat,wh.tmod 3=(o:Int):=⟨(wh.tmod 3).toNat,by omega⟩;have om:o<3:=by omega
 obtain⟨zo,po⟩:=Zgj o om;have no:mcF o≠0:=λh=>by rw[h]at po;exact absurd po (Rat.lt_irrefl)
 have eo:idx [(1:Rat),2,5] (o:Int)=some (mcF o):=ZPe (l:=[(1:Rat),2,5]) om;have qi:∀ z:Int,ZR z=some (z:Rat):=λz=>rfl;have zi:∀ z:Int,0≤z→z≤1000→sz 64 (z:Rat):=λz h h2=>Z4i (by omega);have pi:∀ z:Int,0<z→(0:Rat)<(z:Rat):=λz h=>by have:=Rat.intCast_lt_intCast.2 h;exact this
 have htr:=ZMu (r:=mkB 3 x tT) (fs:=fs) (x:=mcF o) e1 w1 p1 q1 e2 w2 p2 q2 zo no hR;have zW0:=zi (1+a1) (by omega) (by omega);have zW1:=zi (1+a2) (by omega) (by omega);have pW0:=pi (1+a1) (by omega);have pW1:=pi (1+a2) (by omega);generalize ((1+a1:Int):Rat)=W0 at *;generalize ((1+a2:Int):Rat)=W1 at *;unfold ZVk;rw[t0,Za,c1,Za,c2,Za,c5,Za,wk,ek,Za,ho,eo,Za];simp only;rw[htr,Za];simp only;rw[show (!true)=false from rfl,Ze];generalize hr:mkB 3 x tT=r at *;have hWf:∃ w:Nat→Rat,w 0=W0∧w 1=W1∧(∀ i,i<2→sz 64 (w i)∧0<w i):=⟨λi=>if i=0 then W0 else W1,rfl,rfl,λi hi=>by
  rcases (show i=0∨i=1 by omega) with rfl | rfl
  ·exact⟨zW0,pW0⟩
  ·exact⟨zW1,pW1⟩⟩
 obtain⟨w,hw0,hw1,hwz⟩:=hWf;have g1:∀ i,i<2→gR [mcR r W0 W0,mcR r W1 W1] i=mcR r (w i) (w i):=λi hi=>by
  rcases (show i=0∨i=1 by omega) with rfl | rfl
  ·rw[hw0];rfl
  ·rw[hw1];rfl
 have g2:∀ i,i<2→gR [mcR r W0 (W0 / mcF o),mcR r W1 (W1 / mcF o)] i=mcR r (w i) (w i / mcF o):=λi hi=>by
  rcases (show i=0∨i=1 by omega) with rfl | rfl
  ·rw[hw0];rfl
  ·rw[hw1];rfl
 have hl1:[mcR r W0 W0,mcR r W1 W1].length=2:=rfl;have hl2:[mcR r W0 (W0 / mcF o),mcR r W1 (W1 / mcF o)].length=2:=rfl;have hoth:∀ i,i<2→sz 130 (w i / mcF o):=λi hi=>(ZWf (hwz i hi).1 zo).mono (by decide);have pd:∀ {a b:Rat},0<a→0<b→0<a / b:=λ{a b} ha hb=>by rw[Rat.div_def];exact Rat.mul_pos ha (Rat.inv_pos.2 hb)
 have hf2:(0:Rat)<(1:Rat) / 2:=by decide +kernel
 have zh2:sz 64 ((1:Rat) / 2):=by constructor <;> decide +kernel
 have cG1:ZBc [mcR r W0 W0,mcR r W1 W1]=0:=Z5h.2 ⟨by rw[hl1];omega,λi hi=>by
  rw[hl1]at hi;rw[g1 i hi];have:=hnR (w i) (Rat.le_of_lt (hwz i hi).2);exact⟨(hwz i hi).2,hf2,this.1,this.2⟩⟩
 have cG2:ZBc [mcR r W0 (W0 / mcF o),mcR r W1 (W1 / mcF o)]=0:=Z5h.2 ⟨by rw[hl2];omega,λi hi=>by
  rw[hl2]at hi;rw[g2 i hi];have:=hnR (w i) (Rat.le_of_lt (hwz i hi).2);exact⟨pd (hwz i hi).2 po,hf2,this.1,this.2⟩⟩
 have ht:∀ k,k<ZOb.length→sz 7800 (ZOb.getD k 0):=λk hk=>(tT_sz k hk).mono (by decide);have hlr:[(1:Rat),2,5].length=3:=rfl;have gr:∀ i,i<3→[(1:Rat),2,5].getD i 0=mcF i:=λi _=>rfl;have last:∀ {A B:P4},A.1=W0∧A.2.2=(mcR r W0 W0).2.2→B.1=W1∧B.2.2=(mcR r W1 W1).2.2→A.2.1=(ZP r W0).1+d1→B.2.1=(ZP r W1).1+d2→0≤A.2.1→0≤B.2.1→∃ f,Zfi [A,B] ZOb=some (f,0)∧f.2.1≤1∧sz 1000000000 f.2.1∧Z6h [A,B] ZOb f=some true:=by
  intro A B hA hB' sA sB nA nB;have gA:gR [A,B] 0=A:=rfl;have gB:gR [A,B] 1=B:=rfl;have hl:[A,B].length=2:=rfl;have hA1:A.2.2.1=(ZP r W0).2:=by rw[hA.2];rfl
  have hA2:A.2.2.2=(1:Rat) / 2:=by rw[hA.2];rfl
  have hB1:B.2.2.1=(ZP r W1).2:=by rw[hB'.2];rfl
  have hB2:B.2.2.2=(1:Rat) / 2:=by rw[hB'.2];rfl
  have zA:=hzR W0 zW0;have zB:=hzR W1 zW1;have nR0:=hnR W0 (Rat.le_of_lt pW0);have nR1:=hnR W1 (Rat.le_of_lt pW1);have hg:GoodR 7800 [A,B]:=⟨λi hi=>by
    rw[hl]at hi;rcases (show i=0∨i=1 by omega) with rfl | rfl
    ·rw[gA,hA.1,sA,hA1,hA2];exact⟨zW0.mono (by decide),(ZLc zA.1 z1).mono (by decide),zA.2.mono (by decide),zh2.mono (by decide)⟩
    ·rw[gB,hB'.1,sB,hB1,hB2];exact⟨zW1.mono (by decide),(ZLc zB.1 z2).mono (by decide),zB.2.mono (by decide),zh2.mono (by decide)⟩,λi hi=>by
    rw[hl]at hi;rcases (show i=0∨i=1 by omega) with rfl | rfl
    ·rw[gA,hA2];exact hf2
    ·rw[gB,hB2];exact hf2⟩
  have cG:ZBc [A,B]=0:=Z5h.2 ⟨by rw[hl];omega,λi hi=>by
   rw[hl]at hi;rcases (show i=0∨i=1 by omega) with rfl | rfl
   ·rw[gA,hA.1,hA1,hA2];exact⟨pW0,hf2,nA,nR0.2⟩
   ·rw[gB,hB'.1,hB1,hB2];exact⟨pW1,hf2,nB,nR1.2⟩⟩
  obtain⟨b1,b2⟩:=Zcs (a:=3) (b:=2) (by omega) (by omega) (by omega) (by omega);obtain⟨f,k1,k2⟩:=Zow (K:=7800) (W:=1000000000) hg ht cG Zvh (by rw[hl];decide) (by rw[hl];exact b1) (by rw[hl];exact b2) (by decide);have k3:Zgf 1000000000 [A,B] 3 (λk=>ZOb.getD k 0) f:=k2;have hh2:(1:Rat) / 2*1=(1:Rat) / 2:=by decide +kernel
  refine⟨f,k1,mc_le hg.h (λk hk=>x0 k (by omega)) k3 (by decide) (λi hi=>?_),(ZRl k3).2,ZJu (K:=7800) (W:=1000000000) hg ht cG Zvh (by decide) k2⟩;have er:mkB 3 x (λk=>ZOb.getD k 0)=r:=by rw[← hr];rfl
  rw[er];unfold q1F q2F;rw[hl]at hi;rcases (show i=0∨i=1 by omega) with rfl | rfl
  ·rw[gA,hA.1,sA,hA1,hA2];exact⟨ZXh hf2 (by rw[hh2];grind) (by rw[hh2];grind),ZXh hf2 (by rw[hh2];grind) (by rw[hh2];grind)⟩
  ·rw[gB,hB'.1,sB,hB1,hB2];exact⟨ZXh hf2 (by rw[hh2];grind) (by rw[hh2];grind),ZXh hf2 (by rw[hh2];grind) (by rw[hh2];grind)⟩
 have zA:=(hzR W0 zW0).1;have zB:=(hzR W1 zW1).1;have dA:(mcR r W0 W0).2.1=(ZP r W0).1:=rfl;have dB:(mcR r W1 W1).2.1=(ZP r W1).1:=rfl;have dA1:(mcR r W0 W0).1=W0:=rfl;have dB1:(mcR r W1 W1).1=W1:=rfl;generalize hL2:[mcR r W0 (W0 / mcF o),mcR r W1 (W1 / mcF o)]=m2 at *;clear hL2;generalize hL1:[mcR r W0 W0,mcR r W1 W1]=m1 at *;have sl:∀ j,(shL m1 m2 (mcF j)).length=4:=λj=>by rw[Zht,hl1,hl2]
 have gs1:∀ j i,i<2→gR (shL m1 m2 (mcF j)) i=mcR r (w i) (w i):=λj i hi=>by rw[shL_0 (by omega),g1 i hi]
 have gs2:∀ j i,i<2→gR (shL m1 m2 (mcF j)) (2+i)=(w i / mcF o*mcF j,(mcR r (w i) (w i)).2):=λj i hi=>by
  have:=shL_1 (l:=m1) (other:=m2) (r:=mcF j) (i:=i) (by omega);rw[hl1]at this;rw[this,g2 i hi];rfl
 have hg:∀ j,j<3→GoodR 7800 (shL m1 m2 (mcF j)):=λj hj=>⟨λi hi=>by
   rw[sl]at hi;by_cases h:i<2
   ·rw[gs1 j i h];have:=hzR (w i) (hwz i h).1;exact⟨(hwz i h).1.mono (by decide),this.1.mono (by decide),this.2.mono (by decide),zh2.mono (by decide)⟩
   ·obtain⟨i',rfl⟩:∃ i',i=2+i':=⟨i-2,by omega⟩;rw[gs2 j i' (by omega)];have:=hzR (w i') (hwz i' (by omega)).1;exact⟨(Zva (hoth i' (by omega)) (Zgj j hj).1).mono (by decide),this.1.mono (by decide),this.2.mono (by decide),zh2.mono (by decide)⟩,λi hi=>by
   rw[sl]at hi;by_cases h:i<2
   ·rw[gs1 j i h];exact hf2
   ·obtain⟨i',rfl⟩:∃ i',i=2+i':=⟨i-2,by omega⟩;rw[gs2 j i' (by omega)];exact hf2⟩
 obtain⟨F,hF⟩:=Classical.axiomOfChoice (r:=λ(j:Nat) (f:FitT)=>j<3→Zae (shL m1 m2 (mcF j)) ZOb=some (f,0)∧Zgf 1000000000 (shL m1 m2 (mcF j)) 3 (λk=>ZOb.getD k 0) f) (λj=>by
  by_cases hj:j<3
  ·obtain⟨b1,b2⟩:=Zcs (a:=3) (b:=4) (by omega) (by omega) (by omega) (by omega);obtain⟨f,k1,k2⟩:=Z3p (K:=7800) (W:=1000000000) (hg j hj) ht (by rw[sl];omega) (by rw[sl];omega) (by decide) (by rw[sl];decide) (by rw[sl];exact b1) (by rw[sl];exact b2) (by decide);exact⟨f,λ_=>⟨k1,k2⟩⟩
  ·exact⟨((0,[]),0,[]),λh=>absurd h hj⟩)
 have er:mkB 3 x (λk=>ZOb.getD k 0)=r:=by rw[← hr];rfl
 have own:(F o).2.1=0:=mc_fit0 (hg o om).h (λk hk=>x0 k (by omega)) (hF o om).2 (λi hi=>by
  rw[sl]at hi;rw[er];by_cases h:i<2
  ·rw[gs1 o i h];exact⟨rfl,rfl⟩
  ·obtain⟨i',rfl⟩:∃ i',i=2+i':=⟨i-2,by omega⟩;rw[gs2 o i' (by omega)];rw[Rat.div_mul_cancel no];exact⟨rfl,rfl⟩)
 have fnn:∀ j,j<3→0≤(F j).2.1∧sz 1000000000 (F j).2.1:=λj hj=>ZRl (hF j hj).2;obtain⟨b1,b2⟩:=Zwm (λj=>(F j).2.1) 3 (by omega);have bz:(F (bAt (λj=>(F j).2.1) 3)).2.1=0:=Rat.le_antisymm (by rw[← own];exact (b2 o om).1) (fnn _ b1).1;have hsd:∀ j,j<3→ZXe m1 m2 (mcF j)=some (shL m1 m2 (mcF j)):=λj hj=>ZCv (K:=130) (k:=64) (λi hi=>by rw[hl2]at hi;rw[g2 i hi];exact hoth i hi) (Zgj j hj).1 (by decide) (by decide) (by omega) (by omega);have hsh:=ZCw (l:=m1) (other:=m2) (rs:=[(1:Rat),2,5]) (tms:=ZOb) (W:=1000000000) (F:=F) (λj hj=>by
  rw[hlr]at hj;rw[gr j hj];exact⟨_,hsd j hj,(hF j hj).1,(fnn j hj).2⟩) (by decide) (by decide) (by decide)
 rw[hlr]at hsh;have hrc:ZNe [(1:Rat),2,5]=some 0:=ZAw (by decide) (by decide) (λi hi=>by rw[hlr]at hi;rw[gr i hi];exact (Zgj i hi).2);have hS:=Z9w (K:=7800) cG1 cG2 (by omega) ht (by decide) Zvh hrc hsh;have hM:=ZTt (L:=[m1,m2]) (rs:=[(1:Rat),2,5]) (tms:=ZOb) (K:=7800) (T:=λq=>if q=0 then m1 else shL m1 m2 (mcF (bAt (λj=>(F j).2.1) 3))) (AT:=λ_=>bAt (λj=>(F j).2.1) 3) (f:=F (bAt (λj=>(F j).2.1) 3)) (by simp) (by simp) (λi hi=>by
   rcases (show i=0∨i=1 by have:i<2:=hi;omega) with rfl | rfl
   ·exact cG1
   ·exact cG2) (λq hq=>by
   rcases (show q=0∨q=1∨q=2 by have:q≤2:=hq;omega) with rfl | rfl | rfl
   ·exact Nat.zero_le _
   ·show m1.length+0≤12;omega
   ·show m1.length+(m2.length+0)≤12;omega) ht (by decide) Zvh hrc rfl (λq hq=>by
   have:q=0:=by have:q+1<2:=hq;omega
   subst this;exact⟨_,_,hsh,ZPe (l:=[(1:Rat),2,5]) b1,hsd _ b1⟩) (hF _ b1).1
 rw[hS,Za,hM,Za];simp only;have e2:((-1:Int) :: (vx ([m1,m2].length-1) λq=>((bAt (λj=>(F j).2.1) 3:Nat):Int)))=[-1,((bAt (λj=>(F j).2.1) 3:Nat):Int)]:=rfl;rw[e2,bz];generalize bAt (λj=>(F j).2.1) 3=B at *;rw[show ((0:Int) != (0:Int))=false from rfl,Ze,Ze,show ZDb (0:Rat)=some true from rfl,Za,show (!true)=false from rfl,Ze,Za,show (!true)=false from rfl,Ze,show (([(-1:Int),(B:Int)].length:Int) != (2:Int))=false from rfl,Ze,show idx [(-1:Int),(B:Int)] (0:Int)=some (-1) from rfl,Za,show ((-1:Int) != (-1:Int))=false from rfl,Za,Ze];clear hM hS hsh hsd b1 b2 bz fnn own hF hg gs1 gs2 sl cG1 cG2 g1 g2 hl1 hl2 e2;subst hL1;rw[show idx [mcR r W0 W0,mcR r W1 W1] (0:Int)=some (mcR r W0 W0) from rfl,Za,r1,Za,dA,Z5b zA z1 (by decide) (by decide),Za,Za];have s1:[mcR r W0 W0,mcR r W1 W1].set 0 ((mcR r W0 W0).1,(ZP r W0).1+d1,(mcR r W0 W0).2.2)=[((mcR r W0 W0).1,(ZP r W0).1+d1,(mcR r W0 W0).2.2),mcR r W1 W1]:=rfl;rw[s1];generalize hA:((mcR r W0 W0).1,(ZP r W0).1+d1,(mcR r W0 W0).2.2)=A at *;have A1:A.1=W0∧A.2.2=(mcR r W0 W0).2.2:=by rw[← hA];exact⟨rfl,rfl⟩
 have A2:A.2.1=(ZP r W0).1+d1:=by rw[← hA]
 rw[show idx [A,mcR r W1 W1] (0:Int)=some A from rfl,Za,sgnQ,Za];by_cases n1:A.2.1.num.sign<0
 ·rw[dTq n1,Zf,Zsl,Za]
 rw[dFq n1,Ze,show idx [A,mcR r W1 W1] (1:Int)=some (mcR r W1 W1) from rfl,Za,r2,Za,dB,Z5b zB z2 (by decide) (by decide),Za,Za];have s2:[A,mcR r W1 W1].set 1 ((mcR r W1 W1).1,(ZP r W1).1+d2,(mcR r W1 W1).2.2)=[A,((mcR r W1 W1).1,(ZP r W1).1+d2,(mcR r W1 W1).2.2)]:=rfl;rw[s2];generalize hB2:((mcR r W1 W1).1,(ZP r W1).1+d2,(mcR r W1 W1).2.2)=B2 at *;have B1:B2.1=W1∧B2.2.2=(mcR r W1 W1).2.2:=by rw[← hB2];exact⟨rfl,rfl⟩
 have B3:B2.2.1=(ZP r W1).1+d2:=by rw[← hB2]
 rw[show idx [A,B2] (1:Int)=some B2 from rfl,Za,sgnQ,Za];by_cases n2:B2.2.1.num.sign<0
 ·rw[dTq n2,Zf,Zsl,Za]
 rw[dFq n2,Ze];have nn:∀ {q:Rat},¬ q.num.sign<0→0≤q:=λ{q} h=>by rw[ZIc]at h;exact Rat.not_lt.1 h
 obtain⟨f,k1,k2,k3,k4⟩:=last A1 B1 A2 B3 (nn n1) (nn n2);rw[k1,Za];simp only;rw[show ((0:Int)==(0:Int))=true from rfl,Zf,Za,Zxe k3 Z6c (by decide) (by decide),Za,dTq (by rw[mc_sgn];exact k2),Zf,k4,Za,Zf,Zsl,Za,Za]
end Go.Eng
namespace Go.Eng
open Go.RowKit Go.WideShapes Go.ChangeShapes
end Go.Eng
namespace Go.Eng
open Go.RowKit
section
variable {P:Program} {N:Nat} {G:V→Value→Prop} {w0:Base} {v0:Zb} {U X:Nat→Prop} {f:Fr} {l:Lo} {a:Act} {w:World} {γ:Nat→Gh} {v:Zb} {ℓ:List Loc} {n:Nat}
variable {d:Option Nat} {ty:TypeId} {pos:String} {aft:Array Edge} {g:Option (Nat×Bool)}
theorem Zbo {ty:TypeId} {t:T} (hs:St N w0 v0 [] ℓ v a w):∀ k:Nat,∃ es,Zfa v ty t (List.replicate k (none,0)) (List.replicate k ([]:List t.den)) es∧St N w0 v0 [] (es++ℓ) v a w
 | 0=>⟨[],rfl,hs⟩
 | k+1=>by
  obtain⟨es,h1,h2⟩:=Zbo hs k
  exact⟨.own none ty t.n 0 0 [] :: es,⟨[],es,rfl,rfl,h1⟩,h2.nilLoc ty t.n⟩
theorem Zqt {α:Type}:∀ k:Nat,Zm (List.replicate k ((none:Option Nat),0)) (List.replicate k ([]:List α))=(List.replicate k [Value.slice none 0 0]).flatten
 | 0=>rfl
 | k+1=>by simp only[List.replicate_succ,Zm,List.flatten_cons,Zqt k];rfl
theorem ZGw {C:Cf} (hr:RelX N G w0 v0 U X f l a w γ v ℓ) (hU:∀ k,U k→X k) (hX:X n) (hn:¬ U n) {t:TypeId} {x y:Operand} {o:Oper} {Post:Unit→Fr→Lo→Prop} (ho:o=⟨d,.makeSlice t x y,ty,pos,aft,g⟩) (hd:∀ k,o.dst=some k→k<N)
  (h:Zj n (ZW C n o) f l Post):Zha C.P N G w0 v0 X o a w Post:=by
 subst ho;simp only[ZW]at h;obtain⟨V1,h1,_,hA⟩:=ZD hr h;obtain⟨V2,h2,_,hB⟩:=ZD hr hA;obtain⟨κ,i,rfl,hC⟩:=Z4a hB;obtain⟨κ',j,rfl,hD⟩:=Z4a hC;clear h hA hB hC;have h:=hD;obtain⟨e1,_⟩:=ZBa h1;obtain⟨e2,_⟩:=ZBa h2;split at h
 ·rename_i q dd hq;obtain⟨hE,hby⟩:=Z6m hq;obtain⟨_,hmk,h⟩:=h;obtain⟨m0,m1,m2,m3⟩:=ZPd hmk;obtain⟨E,hEE,hp⟩:=hr.lr;have hst:=hr.st.perm hp;obtain⟨σ,hσ,ev1,ev2⟩:=hst.ev2 x y;rw[e1]at ev1;rw[e2]at ev2;obtain⟨b,w',hrun,hst'⟩:=Z2k hE hσ m0 m1 m2 m3;have hrun':=hrun (d:=some dd) (ty:=ty) (pos:=pos) (aft:=aft) (g:=g) ev1 ev2;split at h
  ·split at h
   ·rename_i q2 r hq2 hz hs1;have hs1:=eQ hs1;split at h
    ·rename_i s hs;split at h
     ·have hz1:q.z.cells.toList=[.slice none 0 0]:=by
       have h1:=Z3e hz;have h2:=hE.cells;rw[hs1]at h2;have h3:q.z.cells.toList.length=1:=by simpa using h2
       rw[h1]at h3 ⊢;simp at h3;rw[h3]
      obtain⟨es,hR,hst2⟩:=Zbo (ty:=q2.e) (t:=s) hst'.bare i.toNat;have hst3:St N w0 v0 [] (.own (some b) q.e 1 (List.replicate i.toNat ([]:List s.den)).length j.toNat (Zm (List.replicate i.toNat ((none:Option Nat),0)) (List.replicate i.toNat ([]:List s.den))) :: es++E.flatten) v a w':=by
       rw[Zqt,List.length_replicate];rw[hs1,hz1]at hst2;exact hst2.perm List.perm_middle
      have hrun2:=hrun';rw[show (Value.slice (mkA (some b)) i.toNat j.toNat) = .slice (mkA (some b)) (List.replicate i.toNat ([]:List s.den)).length j.toNat by rw[List.length_replicate]]at hrun2;exact Zaj hr hU hX hn hd hEE rfl hR hst3 hrun2 h
     ·exact h.elim
    ·exact h.elim
   ·exact h.elim
  ·split at h
   ·rename_i s hs;split at h
    ·rename_i z r hz hzo hsz;have hsz:=eQ hsz;obtain⟨c1,k1,k2⟩:=ZOp (v:=v) hzo hz;have hl:=Rep.len _ k2;have hc:=hE.cells;have hr0:r=[]:=by
      have:q.z.cells.toList.length=q.sz:=by simpa using hc
      rw[k1,lA,hl,ZQ,hsz]at this;exact List.length_eq_zero_iff.1 (by omega)
     rw[hr0,List.append_nil]at k1;have hrel:=ZJg k2 i.toNat;rw[k1]at hst';have hst2:St N w0 v0 [] (.own (some b) q.e s.n (List.replicate i.toNat z).length j.toNat (List.replicate i.toNat c1).flatten :: E.flatten) v a w':=by
      rw[List.length_replicate,← hsz];exact hst'.bare
     have hrun2:=hrun';rw[show (Value.slice (mkA (some b)) i.toNat j.toNat) = .slice (mkA (some b)) (List.replicate i.toNat z).length j.toNat by rw[List.length_replicate]]at hrun2;exact Zzg hr hU hX hn hd hEE rfl hst2 hrel hrun2 h
    ·exact h.elim
   ·exact h.elim
 ·exact h.elim
theorem Zwo {x:V} {cs:List Value} (h:RR v γ l false x cs) (hk:x.ok U):RR v γ l false (Zof x) cs∧(Zof x).ok U:=by
 unfold Zof;split
 ·split
  ·rename_i hc;obtain⟨h1,h2⟩:=Z2l (U:=U) (γ:=γ) (l:=l) hc h;exact⟨h1,h2⟩
  ·exact⟨h,hk⟩
 ·exact⟨h,hk⟩
theorem ZJs:∀ {fs:List Field},Z6i P fs=true→∀ w,∃ L:List (Nat×Nat),(fs.mapM λ(f:Field)=>(do pure (f.offset,← sizeOf f.type):Sem (Nat×Nat))).run P w = .ok L w∧∀ (i:Nat) fd,fs[i]? = some fd→∃ inf,P.info? fd.type=some inf∧L[i]? = some (fd.offset,inf.size)
 | [],_,w=>⟨[],by simp,λi fd h=>by simp at h⟩
 | fd :: fs,h,w=>by
  simp only[Z6i]at h
  split at h
  ·rename_i inf hinf
   obtain⟨L,h1,h2⟩:=ZJs h w
   refine⟨(fd.offset,inf.size) :: L,?_,λi fd' hi=>?_⟩
   ·simp at h1
    simp[List.mapM_cons,Zek hinf,h1]
   ·cases i with
    | zero=>simp at hi;subst hi;exact⟨inf,hinf,rfl⟩
    | succ i=>simp at hi;simpa using h2 i fd' hi
  ·cases h
theorem ZCo {s:TypeId} {fs:Array Field} (hs:P.underlying s=some (.struct fs)) {places:Nat→Option (Nat×Nat)} (hp:∀ (i:Nat) (fd:Field),fs.toList[i]? = some fd→∃ inf,P.info? fd.type=some inf∧places i=some (fd.offset,inf.size)) :
  ∀ {ps:List (Nat×Operand)} {c z z':V} {cs:List Value} {vals:List Value},RR v γ l true c vals→c.ok U→vals.length=ps.length→RR v γ l false z cs→z.ok U→putF P s z (zipV ps c)=some z' →
  ∃ cs',Instr.fill places cs.toArray ((ps.map (·.1)).zip vals)=some cs'.toArray∧RR v γ l false z' cs'∧z'.ok U∧z'.isAgg=z.isAgg
 | [],c,z,z',cs,vals,hc,hk,hl,hz,hkz,h=>by
  have hv:vals=[]:=List.length_eq_zero_iff.1 hl
  subst hv
  have h:some z=some z':=by
   cases c <;> exact h
  cases h
  exact⟨cs,rfl,hz,hkz,rfl⟩
 | p :: ps,c,z,z',cs,vals,hc,hk,hl,hz,hkz,h=>by
  cases vals with
  | nil=>simp at hl
  | cons y vals =>
   cases c with
   | cons x c =>
    obtain⟨cx,vs,e,h1,h2⟩:=hc
    cases e
    simp only[zipV,putF]at h;split at h
    ·rename_i fd hfd;split at h
     ·rename_i q hq;split at h
      ·rename_i zz hsz hfit hput;have hsz:=eQ hsz;obtain⟨k1,k2,k3,k4⟩:=Zye FU hput hz h1 hkz hk.1;have hfd':fs.toList[p.1]? = some fd:=by
        unfold fldT at hfd;rw[hs]at hfd;exact hfd
       obtain⟨inf,hinf,hpl⟩:=hp _ _ hfd';have hlen:cx.length=inf.size:=by
        rw[ZNd h1,hsz];unfold szA at hq;rw[hinf]at hq;split at hq
        ·rename_i i d e1 e2;cases e1;cases hq;rfl
        ·cases hq
       obtain⟨hcells,_⟩:=Zej h1 hfit;obtain⟨cs',q1,q2,q3,q4⟩:=ZCo hs hp (ps:=ps) h2 hk.2 (by simpa using hl) k1 k2 h;refine⟨cs',?_,q2,q3,q4.trans k4⟩;simp only[List.map_cons,List.zip_cons_cons];rw[ZVm (cs:=cx) (off:=fd.offset) (by rw[hpl,hlen]) hcells (by simpa using k3)]
       simpa using q1
      ·cases h
     ·cases h
    ·cases h
   | nl=>cases (show (y :: vals)=[] from hc)
   | _=>exact (show False from hc).elim
theorem Z5r {n sz:Nat} {places:Nat→Option (Nat×Nat)} (hp:∀ i,i<n→places i=some (i*sz,sz)) :
  ∀ {ps:List (Nat×Operand)} {c z z':V} {cs:List Value} {vals:List Value},RR v γ l true c vals→c.ok U→vals.length=ps.length→RR v γ l false z cs→z.ok U→putA n sz z (zipV ps c)=some z' →
  ∃ cs',Instr.fill places cs.toArray ((ps.map (·.1)).zip vals)=some cs'.toArray∧RR v γ l false z' cs'∧z'.ok U∧z'.isAgg=z.isAgg
 | [],c,z,z',cs,vals,hc,hk,hl,hz,hkz,h=>by
  have hv:vals=[]:=List.length_eq_zero_iff.1 hl
  subst hv
  have h:some z=some z':=by
   cases c <;> exact h
  cases h
  exact⟨cs,rfl,hz,hkz,rfl⟩
 | p :: ps,c,z,z',cs,vals,hc,hk,hl,hz,hkz,h=>by
  cases vals with
  | nil=>simp at hl
  | cons y vals =>
   cases c with
   | cons x c =>
    obtain⟨cx,vs,e,h1,h2⟩:=hc
    cases e
    simp only[zipV,putA]at h;split at h
    ·rename_i zz hlt hsz hfit hput;have hlt:p.1<n:=lB hlt;have hsz:=eQ hsz;obtain⟨k1,k2,k3,k4⟩:=Zye FU hput hz h1 hkz hk.1;have hlen:cx.length=sz:=by rw[ZNd h1,hsz]
     obtain⟨hcells,_⟩:=Zej h1 hfit;obtain⟨cs',q1,q2,q3,q4⟩:=Z5r hp (ps:=ps) h2 hk.2 (by simpa using hl) k1 k2 h;refine⟨cs',?_,q2,q3,q4.trans k4⟩;simp only[List.map_cons,List.zip_cons_cons];rw[ZVm (cs:=cx) (off:=p.1*sz) (by rw[hp _ hlt,hlen]) hcells (by simpa using k3)]
     simpa using q1
    ·cases h
   | nl=>cases (show (y :: vals)=[] from hc)
   | _=>exact (show False from hc).elim
theorem ZUy {C:Cf} (hr:RelX N G w0 v0 U X f l a w γ v ℓ) (hU:∀ k,U k→X k) (hX:X n) {t:TypeId} {ps:Array (Nat×Operand)} {o:Oper} {Post:Unit→Fr→Lo→Prop} (ho:o=⟨d,.build t ps,ty,pos,aft,g⟩) (hd:∀ k,o.dst=some k→k<N)
  (h:Zj n (ZW C n o) f l Post):Zha C.P N G w0 v0 X o a w Post:=by
 subst ho;simp only[ZW]at h;split at h
 ·rename_i z fs hz ht;split at h
  ·rename_i hfl hag1 hag2;obtain⟨y,cs,hy,hcells,hzz,hkz,_⟩:=ZXm (v:=v) (γ:=γ) (l:=l) (U:=U) hz;obtain⟨L,hL1,hL2⟩:=ZJs hfl w;have hA:(fs.mapM λ(f:Field)=>(do pure (f.offset,← sizeOf f.type):Sem (Nat×Nat))).run C.P w = .ok L.toArray w:=by
    rw[Array.mapM_eq_mapM_toList];simp at hL1;simp[hL1]
   have hplaces:∀ (i:Nat) (fd:Field),fs.toList[i]? = some fd→∃ inf,C.P.info? fd.type=some inf∧(L.toArray[·]?) i=some (fd.offset,inf.size):=λi fd hi=>by
    obtain⟨inf,h1,h2⟩:=hL2 i fd hi;exact⟨inf,h1,by simpa using h2⟩
   have hev:∀ (vals:List (Nat×Value)) (cs':List Value),ps.toList.map (λp=>(p.1,a.eval p.2))=vals→Instr.fill (L.toArray[·]?) cs.toArray vals=some cs'.toArray→(execOp a.eval ⟨d,.build t ps,ty,pos,aft,g⟩).run C.P w = .ok (.value (.agg cs'.toArray)) w:=by
    intro vals cs' hv hf;obtain⟨σ,hσ,hev⟩:=hr.st.evs (ps.toList.map (·.2));refine Z4r hσ vals ?_ ?_
    ·rw[← hv,List.map_map];refine List.map_congr_left λp hp=>?_;rw[hev p.2 (List.mem_map.2 ⟨p,hp,rfl⟩)];rfl
    ·simp at hA hf;simp[Instr.build,hy w,hcells,run_underlying ht,hA,hf]
   split at h
   ·rename_i hps;refine ZK hr hU (hev [] cs (by rw[hps];rfl) rfl) hd hX ?_ (V.ok.mono hU hkz) h;have:=Zkc hzz (λc e=>by subst e;cases hag2);unfold V.val at this;rw[hag2]at this;exact this
   ·rename_i hps;obtain⟨c,h1,h2,h⟩:=ZPf hr h;split at h
    ·rename_i z' hz';obtain⟨o1,o2⟩:=Zwo hzz hkz;have hvl:=h1;rw[List.map_map]at h1;obtain⟨cs',k1,k2,k3,k4⟩:=ZCo ht hplaces (ps:=ps.toList) h1 h2 (by simp) o1 o2 hz';refine ZK hr hU (hev _ cs' rfl ?_) hd hX ?_ (V.ok.mono hU k3) h
     ·rw[← k1];congr 1;rw[List.zip_map,← List.map_id (ps.toList.zip ps.toList)];simp[List.zip_eq_zipWith,List.zipWith_self,List.map_map]
     ·have:=Zkc k2 (λc e=>by subst e;rw[hag1]at k4;cases k4);unfold V.val at this;rw[k4,hag1]at this;exact this
    ·exact h.elim
  ·exact h.elim
 ·rename_i z m e hz ht;split at h
  ·rename_i inf hinf hag1 hag2;obtain⟨y,cs,hy,hcells,hzz,hkz,_⟩:=ZXm (v:=v) (γ:=γ) (l:=l) (U:=U) hz;obtain⟨c,h1,h2,h⟩:=ZPf hr h;split at h
   ·rename_i z' hz';obtain⟨o1,o2⟩:=Zwo hzz hkz;rw[List.map_map]at h1;obtain⟨cs',k1,k2,k3,k4⟩:=Z5r (places:=λi=>some (i*inf.size,inf.size)) (λi _=>rfl) (ps:=ps.toList) h1 h2 (by simp) o1 o2 hz';obtain⟨σ,hσ,hev⟩:=hr.st.evs (ps.toList.map (·.2));have hk1:Instr.fill (λi=>some (i*inf.size,inf.size)) cs.toArray (ps.toList.map λp=>(p.1,a.eval p.2))=some cs'.toArray:=by
     rw[← k1];congr 1;rw[List.zip_map,← List.map_id (ps.toList.zip ps.toList)];simp[List.zip_eq_zipWith,List.zipWith_self,List.map_map]
    refine ZK hr hU (Z4r hσ (ps.toList.map λp=>(p.1,a.eval p.2)) ?_ (z:=.agg cs'.toArray) ?_) hd hX ?_ (V.ok.mono hU k3) h
    ·rw[List.map_map];refine List.map_congr_left λp hp=>?_;rw[hev p.2 (List.mem_map.2 ⟨p,hp,rfl⟩)];rfl
    ·simp[Instr.build,hy w,hcells,run_underlying ht,Zek hinf,hk1]
    ·have:=Zkc k2 (λc e=>by subst e;rw[hag1]at k4;cases k4);unfold V.val at this;rw[k4,hag1]at this;exact this
   ·exact h.elim
  ·exact h.elim
 ·exact h.elim
end
end Go.Eng
namespace Go.Eng
open Go.RowKit
def CT.isAgg:CT→Bool
 | .dat t=>t.agg
 | .agg _=>true
 | _=>false
def CT.vl (c:CT) (cs:List Value):Value:=match c.isAgg with
 | true=>.agg cs.toArray
 | false=>cs.headD Go.undef
def CR (v:Zb):(c:CT)→Bool→c.den→List Value→List Loc→Prop
 | .dat t,false,x,cs,es=>t.rep.rel v cs x∧es=[]
 | .own ty t,false,(xs:List t.den),cs,es=>∃ ob cap d,cs=[.slice (mkA ob) xs.length cap]∧t.rep.rels v d xs∧es=[.own ob ty t.n xs.length cap d]
 | .mat ty ty2 t,false,(m:List (List t.den)),cs,es=>∃ ob cap rows es2,cs=[.slice (mkA ob) m.length cap]∧Zfa v ty2 t rows m es2∧es = .own ob ty 1 m.length cap (Zm rows m) :: es2
 | .nl,_,_,cs,es=>cs=[]∧es=[]
 | .one a,false,x,cs,es=>CR v a false x cs es
 | .one a,true,x,cs,es=>∃ c,cs=[a.vl c]∧CR v a false x c es
 | .cons a b,false,x,cs,es=>∃ c1 c2 e1 e2,cs=c1++c2∧es=e1++e2∧CR v a false x.1 c1 e1∧CR v b false x.2 c2 e2
 | .cons a b,true,x,cs,es=>∃ c1 xs e1 e2,cs=a.vl c1 :: xs∧es=e1++e2∧CR v a false x.1 c1 e1∧CR v b true x.2 xs e2
 | .agg c,false,x,cs,es=>CR v c false x cs es
 | .box ty c,false,x,cs,es=>∃ b c1 e1,cs=[.pointer (some ⟨b,0,none⟩)]∧CR v c false x c1 e1∧c1.all plain=true∧es = .box b ty c1 :: e1
 | _,_,_,_,_=>False
def CRL (v:Zb):(c:CT)→c.den→Gh→List Loc→Prop
 | .own ty t,(xs:List t.den),g,es=>∃ ob cap d,g = .own ob cap∧t.rep.rels v d xs∧es=[.own ob ty t.n xs.length cap d]
 | .mat ty ty2 t,(m:List (List t.den)),g,es=>∃ ob cap rows es2,g = .mat ob cap rows∧Zfa v ty2 t rows m es2∧es = .own ob ty 1 m.length cap (Zm rows m) :: es2
 | .box ty c,z,g,es=>∃ b c1 e1,g = .box b∧CR v c false z c1 e1∧c1.all plain=true∧es = .box b ty c1 :: e1
 | .agg (.mat ty ty2 t),(m:List (List t.den)),g,es=>∃ ob cap rows es2,g = .mat ob cap rows∧Zfa v ty2 t rows m es2∧es = .own ob ty 1 m.length cap (Zm rows m) :: es2
 | _,_,_,_=>False
def Zca (v:Zb):(ts:List T)→List Value→Zt ts→Prop
 | [],vals,_=>vals=[]
 | [t],vals,x=>∃ cs,vals=[t.rep.val cs]∧t.rep.rel v cs x
 | t :: u :: r,vals,x=>∃ cs vs,vals=t.rep.val cs :: vs∧t.rep.rel v cs x.1∧Zca v (u :: r) vs x.2
def Zpd (v:Zb) (ts:List T) (y:Value) (z:Zt ts):Prop:=match ts,z with
 | [t],z=>∃ cs,y=t.rep.val cs∧t.rep.rel v cs z
 | ts,z=>∃ vals:List Value,y = .tuple vals.toArray∧Zca v ts vals z
def ZGc (P:Program) (f:FuncId) (c:Con):Prop:=∀ (w:World) (v:Zb) (vals:List Value) (x:Zt c.args) (z:Zt c.res),VIn v w→Zca v c.args vals x→c.F x=some z →
 (ZB P f∧Ret P f vals.toArray w v λy v'=>Zpd v' c.res y z) ∨ ∃ y,(∀ w,(callFunc f vals.toArray).run P w = .ok (.value y) w)∧Zpd v c.res y z
def ZMe (P:Program) (f:FuncId) (c:ConO):Prop:=∀ (w:World) (v:Zb) (vals:List Value) (x:Zt c.args) (z:List c.t.den),VIn v w→Zca v c.args vals x→c.F x=some z →
 ZB P f∧RetO P f vals.toArray w v (OwnR c.t.rep c.ty c.t.n z w)
def ZNk (P:Program) (f:FuncId) (c:ConI):Prop:=∀ (w:World) (v:Zb) (ob:Option Nat) (n cap:Nat) (cs:List Value) (l:List c.t.den) (i:Int) (bv kv:Nat) (c0:Array Value) (x:c.t.den) (z:List c.t.den),VIn v w→(Loc.own ob c.ty c.t.n n cap cs).holds w→(∀ b,ob=some b→v b=none)→c.t.rep.rels v cs l→n=l.length →
 1≤kv→v bv=some (.cells c0 c.ty (0,0))→c.t.rep.rel v (c0.toList.take c.t.n) x→inR .i64 i→c.F l i x=some z →
 ZB P f∧Zcd P f #[.slice (mkA ob) n cap,.int .i64 i,.slice (some ⟨bv,0,none⟩) 1 kv] w v ob.toList (OwnI c.t.rep c.ty c.t.n z ob w)
def OwnM (ty ty2:TypeId) (t:T) (m:List (List t.den)) (w:World) (r:Value) (v':Zb) (w':World):Prop :=
 ∃ ob cap rows es,r = .slice (mkA ob) m.length cap∧Zfa v' ty2 t rows m es∧(∀ x ∈ Loc.own ob ty 1 m.length cap (Zm rows m) :: es,x.holds w'∧∀ b,x.blk=some b→w.heap.size≤b∧v' b=none)∧((Loc.own ob ty 1 m.length cap (Zm rows m) :: es).filterMap Loc.blk).Nodup
def Ztg (P:Program) (f:FuncId) (c:ConM):Prop:=∀ (w:World) (v:Zb) (vals:List Value) (x:Zt c.args) (z:List (List c.t.den)),VIn v w→Zca v c.args vals x→c.F x=some z →
 ZB P f∧RetO P f vals.toArray w v (OwnM c.ty c.ty2 c.t z w)
def OwnB (ty:TypeId) (c:CT) (res:List T) (b:Nat) (r:c.den×Zt res) (lent:List Nat) (w:World) (y:Value) (v':Zb) (w':World):Prop :=
 Zpd v' res y r.2∧∃ es',CRL v' (.box ty c) r.1 (.box b) es'∧(∀ e ∈ es',e.holds w'∧∀ k,e.blk=some k→(w.heap.size≤k∨k ∈ lent)∧v' k=none)∧(es'.filterMap Loc.blk).Nodup
def ZSf (P:Program) (f:FuncId) (c:ConB):Prop:=∀ (w:World) (v:Zb) (b:Nat) (es:List Loc) (vals:List Value) (z:c.c.den) (x:Zt c.args) (r:c.c.den×Zt c.res),VIn v w→CRL v (.box c.ty c.c) z (.box b) es→(∀ e ∈ es,e.holds w∧∀ k,e.blk=some k→v k=none)→(es.filterMap Loc.blk).Nodup→Zca v c.args vals x→c.F z x=some r →
 ZB P f∧Zcd P f (Value.pointer (some ⟨b,0,none⟩) :: vals).toArray w v (es.filterMap Loc.blk) (OwnB c.ty c.c c.res b r (es.filterMap Loc.blk) w)
def ZPg (P:Program) (f:FuncId) (c:ConD):Prop:=∀ (w:World) (v:Zb) (ob:Option Nat) (n cap:Nat) (cs:List Value) (l:List c.t.den) (i j:Int) (z:List c.t.den),VIn v w→(Loc.own ob c.ty c.t.n n cap cs).holds w→(∀ b,ob=some b→v b=none)→c.t.rep.rels v cs l→n=l.length→inR .i64 i→inR .i64 j→c.F l i j=some z →
 ZB P f∧Zcd P f #[.slice (mkA ob) n cap,.int .i64 i,.int .i64 j] w v ob.toList (OwnI c.t.rep c.ty c.t.n z ob w)
def OwnPR (ty:TypeId) (t:T) (res:List T) (z:List t.den×Zt res) (w:World) (y:Value) (v':Zb) (w':World):Prop :=
 ∃ r0 rest,y = .tuple (r0 :: rest).toArray∧OwnR t.rep ty t.n z.1 w r0 v' w'∧Zca v' res rest z.2
def Zph (P:Program) (f:FuncId) (c:ConP):Prop:=∀ (w:World) (v:Zb) (vals:List Value) (x:Zt c.args) (z:List c.t.den×Zt c.res),VIn v w→Zca v c.args vals x→c.F x=some z →
 ZB P f∧RetO P f vals.toArray w v (OwnPR c.ty c.t c.res z w)
structure CfOK (C:Cf):Prop where
 c:∀ f c,ZO C.cons f=some c→ZGc C.P f c
 o:∀ f c,ZO C.owns f=some c→ZMe C.P f c
 i:∀ f c,ZO C.ins f=some c→ZNk C.P f c
 m:∀ t s f,lkM C.meths t s=some f→∀ y w,(method (C.P.types.size+Made.depth) t y s).run C.P w = .ok (f,y) w
 q:∀ f c,ZO C.omats f=some c→Ztg C.P f c
 b:∀ f c,ZO C.boxs f=some c→ZSf C.P f c
 d:∀ f c,ZO C.dels f=some c→ZPg C.P f c
 p:∀ f c,ZO C.pows f=some c→Zph C.P f c
section
variable {P:Program} {N:Nat} {G:V→Value→Prop} {w0:Base} {v0:Zb} {U X:Nat→Prop} {f:Fr} {l:Lo} {a:Act} {w:World} {γ:Nat→Gh} {v:Zb} {ℓ:List Loc} {n:Nat}
variable {d:Option Nat} {ty:TypeId} {pos:String} {aft:Array Edge} {g:Option (Nat×Bool)}
theorem ZRp (hr:RelX N G w0 v0 U X f l a w γ v ℓ) {lo:Option Operand} {k:Option Int→Ev Unit} {Post:Unit→Fr→Lo→Prop} (h:Zj n (optI lo k) f l Post):∃ i,Zj n (k i) f l Post∧((lo=none∧i=none) ∨ ∃ y κ q,lo=some y∧i=some q∧a.eval y = .int κ q):=by
 cases lo with
 | none=>exact⟨none,h,.inl ⟨rfl,rfl⟩⟩
 | some y =>
  obtain⟨V1,h1,_,hA⟩:=ZD hr h;obtain⟨κ,i,rfl,hB⟩:=Z4a hA;exact⟨some i,hB,.inr ⟨y,κ,i,rfl,rfl,(ZBa h1).1⟩⟩
theorem Zoj (hr:RelX N G w0 v0 U X f l a w γ v ℓ) (hU:∀ k,U k→X k) (hX:X n) {t:TypeId} {x:Operand} {lo hi:Option Operand} {o:Oper} {p:V} {i j:Option Int} {Post:Unit→Fr→Lo→Prop} (ho:o=⟨d,.slice t x lo hi none,ty,pos,aft,g⟩) (hd:∀ k,o.dst=some k→k<N) (hp:RV v γ l p (a.eval x))
  (hlo:(lo=none∧i=none) ∨ ∃ y κ q,lo=some y∧i=some q∧a.eval y = .int κ q) (hhi:(hi=none∧j=none) ∨ ∃ y κ q,hi=some y∧j=some q∧a.eval y = .int κ q) (h:Zj n (cutE P o t p i j) f l Post):Zha P N G w0 v0 X o a w Post:=by
 obtain⟨σ,hσ,hev⟩:=hr.st.evs (x :: (lo.toList++hi.toList));have hx:=hev x (by simp);have h1:∀ m:Int,(Zxg i 0=m)→(lo=none∧m=0) ∨ ∃ y k,lo=some y∧ev σ y=some (.int k m):=by
  intro m hm;rcases hlo with ⟨e1,e2⟩ | ⟨y,κ,q,e1,e2,e3⟩
  ·subst e2;exact .inl ⟨e1,hm.symm⟩
  ·subst e1 e2;have hm:q=m:=hm;exact .inr ⟨y,κ,rfl,by rw[hev y (by simp),e3,hm]⟩
 have h2:∀ (len:Nat) (m:Int),(Zxg j (len:Int)=m)→(hi=none∧m=len) ∨ ∃ y k,hi=some y∧ev σ y=some (.int k m):=by
  intro len m hm;rcases hhi with ⟨e1,e2⟩ | ⟨y,κ,q,e1,e2,e3⟩
  ·subst e2;exact .inl ⟨e1,hm.symm⟩
  ·subst e1 e2;have hm:q=m:=hm;exact .inr ⟨y,κ,rfl,by rw[hev y (by simp),e3,hm]⟩
 unfold cutE at h;split at h
 ·rename_i s xs;obtain⟨qa,m,c,hy,hR⟩:=ZBn hp;rw[hy]at hx;split at h
  ·rename_i q hq;split at h
   ·rename_i hb;have hb:=eQ hb;have hSl:=ZDl hq;rw[hb,← ZQ]at hSl;obtain⟨yy,hyy,h⟩:=h;obtain⟨c0,c1,c2,c3,_⟩:=Z9f hyy;obtain⟨q',cap',hrun,hrel⟩:=ZSx hσ hSl hR c0 c1 c2;rw[← c3]at hrel;subst ho;exact ZK hr hU (hrun hx (h1 _ rfl) (h2 _ _ rfl)) hd hX (x:=.data (.slice s) yy) ⟨[_],hrel,rfl⟩ trivial h
   ·exact h.elim
  ·exact h.elim
 ·obtain⟨e1,e2⟩:=Zig hp;rw[e1]at hx;split at h
  ·rename_i ht;obtain⟨yy,hyy,h⟩:=h;subst ho;exact ZK hr hU (ZQx hσ hx ht (h1 _ rfl) (h2 _ _ rfl) hyy) hd hX (Znk (Z6x hyy e2)) trivial h
  ·exact h.elim
 ·exact h.elim
theorem Zag {ρ:Type}:∀ (g:Nat) {t:T} {x:V} {k:t.den→Ev ρ} {l:Lo} {Post:ρ→Fr→Lo→Prop},Zj n (conv g t x k) f l Post→x.isAgg=t.agg
 | 0,_,_,_,_,_,h=>h.elim
 | g+1,t,x,k,l,Post,h=>by
  cases x with
  | data s x =>
   simp only[conv]at h
   split at h
   ·rename_i y hy
    obtain⟨e,_⟩:=ZX hy
    subst e;rfl
   ·split at h
    ·rfl
    ·rfl
    ·rfl
    ·rfl
    ·rfl
    ·split at h
     ·rename_i c hc
      have h1:=Zag g (x:=.agg c) h
      have h2:s.agg=true:=by
       unfold Zne at hc;split at hc <;> first | rfl | cases hc
      exact h2.trans h1
     ·exact h.elim
  | nilS =>
   simp only[conv]at h;split at h <;> first | rfl | exact h.elim
  | own u =>
   simp only[conv]at h;obtain⟨e,he,h⟩:=h;obtain⟨kk,st,L⟩:=e
   cases L with
   | box _ _=>exact h.elim
   | mid _ _ _ _ _ _=>exact h.elim
   | own ty s xs fz =>
    cases fz with
    | true=>exact Zag g (x:=.data (.slice s) xs) h
    | false=>exact Zag g (x:=.data (.slice s) xs) h
   | mat ty _ s m _=>exact Zag g (x:=.data (.slice (.slice s)) m) h
  | agg c =>
   cases c with
   | cons x1 c =>
    cases c with
    | cons x2 r=>simp only[conv]at h;split at h <;> first | rfl | exact h.elim
    | nl=>simp only[conv]at h;split at h <;> first | rfl | exact h.elim
    | _=>simp only[conv]at h;exact h.elim
   | _=>simp only[conv]at h;exact h.elim
  | ptr u o =>
   cases o with
   | succ _=>simp only[conv]at h;exact h.elim
   | zero=>simp only[conv]at h;split at h <;> first | rfl | exact h.elim
  | _=>simp only[conv]at h;exact h.elim
theorem Zso {x:V} {t:T} {cs:List Value} (h:x.isAgg=t.agg):x.val cs=t.rep.val cs:=by
 unfold V.val Rep.val;rw[h,ZPq]
 cases t.agg <;> rfl
theorem Zvn {v v':Zb} (h:v.le v'):∀ {ts:List T} {vals:List Value} {x:Zt ts},Zca v ts vals x→Zca v' ts vals x
 | [],_,_,k=>k
 | [_],_,_,⟨cs,h1,h2⟩=>⟨cs,h1,Rep.mono _ h h2⟩
 | _ :: _ :: _,_,_,⟨cs,vs,h1,h2,h3⟩=>⟨cs,vs,h1,Rep.mono _ h h2,Zvn h h3⟩
theorem Zie {ρ:Type} (hn:¬ U n) (hX:X n):∀ {ts:List T} {c:V} {k:Zt ts→Ev ρ} {l:Lo} {γ:Nat→Gh} {v:Zb} {ℓ:List Loc} {Post:ρ→Fr→Lo→Prop},Zj n (Zjd ts c k) f l Post→RelX N G w0 v0 U X f l a w γ v ℓ→c.ok U →
  ∃ x l' γ' v' ℓ',Zj n (k x) f l' Post∧RelX N G w0 v0 U X f l' a w γ' v' ℓ'∧Le U v γ l v' γ' l'∧∀ vals,RR v γ l true c vals→Zca v' ts vals x
 | [],c,k,l,γ,v,ℓ,Post,h,hr,hk=>by
  obtain⟨E,hE,_⟩:=hr.lr
  cases c with
  | nl=>exact⟨(),l,γ,v,ℓ,h,hr,Le.refl hE (Zb.le_refl _),λvals hv=>hv⟩
  | _=>exact h.elim
 | [t],c,k,l,γ,v,ℓ,Post,h,hr,hk=>by
  cases c with
  | cons x c =>
   cases c with
   | nl =>
    have hag:=Zag FU (n:=n) (f:=f) (l:=l) (t:=t) (x:=x) h
    obtain⟨y,l1,γ1,v1,ℓ1,h,r1,le1,q1⟩:=ZCd hn hX FU h hr hk.1
    refine⟨y,l1,γ1,v1,ℓ1,h,r1,le1,λvals hv=>?_⟩
    obtain⟨cs,vs,rfl,h1,h2⟩:=hv
    have h2:vs=[]:=h2
    subst h2
    exact⟨cs,by rw[Zso hag],q1 _ h1⟩
   | _=>exact h.elim
  | _=>exact h.elim
 | t :: u :: r,c,k,l,γ,v,ℓ,Post,h,hr,hk=>by
  cases c with
  | cons x c =>
   have h':Zj n (conv FU t x λx=>Zjd (u :: r) c λy=>k (x,y)) f l Post:=by
    cases c <;> exact h
   have hag:=Zag FU (n:=n) (f:=f) (l:=l) (t:=t) (x:=x) h';obtain⟨y,l1,γ1,v1,ℓ1,h1,r1,le1,q1⟩:=ZCd hn hX FU h' hr hk.1;obtain⟨ys,l2,γ2,v2,ℓ2,h2,r2,le2,q2⟩:=Zie hn hX h1 r1 hk.2;refine⟨(y,ys),l2,γ2,v2,ℓ2,h2,r2,le1.trans le2,λvals hv=>?_⟩;obtain⟨cs,vs,rfl,h3,h4⟩:=hv;exact⟨cs,vs,by rw[Zso hag],Rep.mono _ le2.v (q1 _ h3),q2 _ (Zjb le1 hk.2 h4)⟩
  | _=>exact h.elim
theorem Zgm {v:Zb}:∀ {ts:List T} {vals:List Value} {x:Zt ts},Zca v ts vals x→RR v γ l true (Zfd ts x) vals∧(Zfd ts x).ok U
 | [],_,_,h=>⟨h,trivial⟩
 | [t],_,x,⟨cs,h1,h2⟩=>⟨⟨cs,[],by rw[h1];exact congrArg (λz=>[z]) (ZZe (t:=t) (x:=x) (cs:=cs)).symm,h2,rfl⟩,trivial,trivial⟩
 | t :: u :: r,_,x,⟨cs,vs,h1,h2,h3⟩=>by
  obtain⟨k1,k2⟩:=Zgm h3
  exact⟨⟨cs,vs,by rw[h1];exact congrArg (· :: vs) (ZZe (t:=t) (x:=x.1) (cs:=cs)).symm,h2,k1⟩,trivial,k2⟩
theorem ZIm {v:Zb} {ts:List T} {y:Value} {z:Zt ts} (h:Zpd v ts y z):RV v γ l (ZDd (Zfd ts z)) y∧(ZDd (Zfd ts z)).ok U:=by
 match ts,z,h with
 | [],z,⟨vals,h1,h2⟩=>exact⟨⟨vals,h2,h1⟩,trivial⟩
 | [t],z,⟨cs,h1,h2⟩=>exact⟨⟨cs,h2,by rw[h1];exact (ZZe (t:=t) (x:=z) (cs:=cs)).symm⟩,trivial⟩
 | t :: u :: r,z,⟨vals,h1,h2⟩ =>
  obtain⟨k1,k2⟩:=Zgm (γ:=γ) (l:=l) (U:=U) h2
  cases r <;> exact⟨⟨vals,k1,h1⟩,k2⟩
theorem Zvs {σ:List (Nat×Value)} (hS:St N w0 v0 σ ℓ v a w) {x:Operand} {m:String} {f:FuncId} {xs:Array Operand} {ats:Array TypeId} {t:TypeId} {y:Value} (vals:List Value) (hm:∀ w,(method (P.types.size+Made.depth) t y m).run P w = .ok (f,y) w) (e:ev σ x=some (.iface t y))
  (h:xs.toList.map (ev σ)=vals.map some) {r:Go.Next} (hf:(callFunc f (y :: vals).toArray).run P w = .ok r w):(execOp a.eval ⟨d,.call ⟨.invoke x m,xs,ats⟩,ty,pos,aft,g⟩).run P w = .ok r w:=by
 have hx:xs.map a.eval=vals.toArray:=by
  apply Array.ext';rw[Array.toList_map];generalize xs.toList=l at h;clear hf
  induction l generalizing vals with
  | nil=>cases vals <;> simp_all
  | cons y l ih =>
   cases vals with
   | nil=>simp at h
   | cons u vals =>
    simp at h;simp[hS.eval h.1,ih vals h.2]
 simp[execOp,resolve,invoke,callMethod,hx,hS.eval e,hm,hf]
theorem ZEn (hr:RelX N G w0 v0 U X f l a w γ v ℓ) (hU:∀ k,U k→X k) (hX:X n) (hn:¬ U n) {e:TypeId} {s:T} {xs:List s.den} {o:Oper} {ob:Option Nat} {cap:Nat} {cs:List Value} {Post:Unit→Fr→Lo→Prop} (hd:∀ k,o.dst=some k→k<N)
  (hst:St N w0 v0 [] (.own ob e s.n xs.length cap cs :: ℓ) v a w) (hc:s.rep.rels v cs xs) (h:Zj n (Ev.new n (.own e s xs false) (ret o (.own n))) f l Post):∃ f' l',Post () f' l'∧Rel N G w0 v0 X f' l' (a.put o.dst (.slice (mkA ob) xs.length cap)) w:=by
 obtain⟨hnew,h⟩:=h;obtain⟨E,hE,hpm⟩:=hr.lr;have hr':=hr.new (γ':=Z2b γ n (.own ob cap)) (L':=.own e s xs false) hX hX hn hnew hE (hst.perm (List.Perm.cons _ hpm)) (Zb.le_refl _) (λ_ h=>ZXb h) ⟨ob,cap,cs,ZPa,hc,rfl⟩ (List.Perm.refl _) trivial;unfold ret at h
 cases hdd:o.dst with
 | none=>rw[hdd]at h;exact h.elim
 | some d =>
  rw[hdd]at h;refine⟨_,_,h,_,_,_,(hr'.mono hU λ_ h=>h).put (hd d hdd) (x:=.own n) ⟨[_],⟨_,rfl,by cases ob <;> rfl,λe' he'=>?_⟩,rfl⟩ hX hX⟩;rw[ZI,iP rfl]at he';cases he';exact⟨_,_,ZPa,rfl⟩
theorem Zfv (hr:RelX N G w0 v0 U X f l a w γ v ℓ) (hU:∀ k,U k→X k) (hX:X n) (hn:¬ U n) {e:TypeId} {s:T} {xs:List s.den} {res:List T} {z2:Zt res} {rest:List Value} {o:Oper} {ob:Option Nat} {cap:Nat} {cs:List Value} {Post:Unit→Fr→Lo→Prop} (hd:∀ k,o.dst=some k→k<N)
  (hst:St N w0 v0 [] (.own ob e s.n xs.length cap cs :: ℓ) v a w) (hc:s.rep.rels v cs xs) (hrest:Zca v res rest z2) (h:Zj n (Ev.new n (.own e s xs false) (ret o (.tup (.cons (.own n) (Zfd res z2))))) f l Post):∃ f' l',Post () f' l'∧Rel N G w0 v0 X f' l' (a.put o.dst (.tuple (.slice (mkA ob) xs.length cap :: rest).toArray)) w:=by
 obtain⟨hnew,h⟩:=h;obtain⟨E,hE,hpm⟩:=hr.lr;have hr':=hr.new (γ':=Z2b γ n (.own ob cap)) (L':=.own e s xs false) hX hX hn hnew hE (hst.perm (List.Perm.cons _ hpm)) (Zb.le_refl _) (λ_ h=>ZXb h) ⟨ob,cap,cs,ZPa,hc,rfl⟩ (List.Perm.refl _) trivial;unfold ret at h
 cases hdd:o.dst with
 | none=>rw[hdd]at h;exact h.elim
 | some d =>
  rw[hdd]at h;obtain⟨k1,k2⟩:=Zgm (γ:=Z2b γ n (.own ob cap)) (l:=⟨n,n,LV.own e s xs false⟩ :: l) (U:=X) hrest;refine⟨_,_,h,_,_,_,(hr'.mono hU λ_ h=>h).put (hd d hdd) (x:=.tup (.cons (.own n) (Zfd res z2))) ⟨_ :: rest,⟨[_],rest,rfl,⟨_,rfl,by cases ob <;> rfl,λe' he'=>?_⟩,k1⟩,rfl⟩ ⟨hX,k2⟩ hX⟩;rw[ZI,iP rfl]at he';cases he';exact⟨_,_,ZPa,rfl⟩
theorem St.addL {K:Nat} {w0:Base} {v0:Zb} {σ:List (Nat×Value)} {ℓ es:List Loc} {v:Zb} {a:Act} {w:World} {s:Nat} (h:St K w0 v0 σ ℓ v a w) (hs:w0.wd.heap.size≤s) (hnew:∀ x ∈ es,x.holds w∧∀ b,x.blk=some b→s≤b∧v b=none) (hnd:(es.filterMap Loc.blk).Nodup) (hold:∀ x ∈ ℓ,∀ b,x.blk=some b→b<s):St K w0 v0 σ (es++ℓ) v a w:=by
 refine⟨h.size,h.dfr,h.fr,h.ext,h.vst,λx hx=>?_,?_⟩
 ·rcases List.mem_append.1 hx with hx | hx
  ·exact⟨(hnew x hx).1,λb eb=>⟨.inl (Nat.le_trans hs ((hnew x hx).2 b eb).1),((hnew x hx).2 b eb).2⟩⟩
  ·exact h.loc x hx
 ·rw[List.filterMap_append];refine List.nodup_append.2 ⟨hnd,h.nd,λb hb b' hb' e=>?_⟩;subst e;obtain⟨x,hx,hxb⟩:=List.mem_filterMap.1 hb;obtain⟨y,hy,hyb⟩:=List.mem_filterMap.1 hb';have h1:=((hnew x hx).2 b hxb).1;have h2:=hold y hy b hyb;omega
theorem put_mat (hr:RelX N G w0 v0 U X f l a w γ v ℓ) (hU:∀ k,U k→X k) (hX:X n) (hn:¬ U n) {ty ty2:TypeId} {t:T} {m:List (List t.den)} {o:Oper} {ob:Option Nat} {cap:Nat} {rows:List (Option Nat×Nat)} {es:List Loc} {Post:Unit→Fr→Lo→Prop} (hd:∀ k,o.dst=some k→k<N)
  (hst:St N w0 v0 [] ((.own ob ty 1 m.length cap (Zm rows m) :: es)++ℓ) v a w) (hc:Zfa v ty2 t rows m es) (h:Zj n (Ev.new n (.mat ty ty2 t m n) (ret o (.own n))) f l Post):∃ f' l',Post () f' l'∧Rel N G w0 v0 X f' l' (a.put o.dst (.slice (mkA ob) m.length cap)) w:=by
 obtain⟨hnew,h⟩:=h;obtain⟨E,hE,hpm⟩:=hr.lr;have hr':=hr.new (γ':=Z2b γ n (.mat ob cap rows)) (L':=.mat ty ty2 t m n) (es':=.own ob ty 1 m.length cap (Zm rows m) :: es) hX hX hn hnew hE (hst.perm (List.Perm.append_left _ hpm)) (Zb.le_refl _) (λ_ h=>ZXb h) ⟨ob,cap,rows,es,ZPa,hc,rfl⟩ (List.Perm.refl _) hX;unfold ret at h
 cases hdd:o.dst with
 | none=>rw[hdd]at h;exact h.elim
 | some d =>
  rw[hdd]at h;refine⟨_,_,h,_,_,_,(hr'.mono hU λ_ h=>h).put (hd d hdd) (x:=.own n) ⟨[_],⟨_,rfl,by cases ob <;> rfl,λe' he'=>?_⟩,rfl⟩ hX hX⟩;rw[ZI,iP rfl]at he';cases he';exact⟨_,_,_,ZPa,rfl⟩
theorem ZVo {c:ConI} {fid:FuncId} (hI:ZNk P fid c) (hr:RelX N G w0 v0 U X f l a w γ v ℓ) (hU:∀ k,U k→X k) (hX:X n) (hn:¬ U n) {o:Oper} {Post:Unit→Fr→Lo→Prop} (hd:∀ k,o.dst=some k→k<N) {ob:Option Nat} {cap:Nat} {cs:List Value} {xs:List c.t.den} {i:Int} {bv kv:Nat} {c0:Array Value} {x:c.t.den} {z:List c.t.den}
  (hst:St N w0 v0 [] (.own ob c.ty c.t.n xs.length cap cs :: ℓ) v a w) (hA:c.t.rep.rels v cs xs) (hkv:1≤kv) (hbv:v bv=some (.cells c0 c.ty (0,0))) (hx:c.t.rep.rel v (c0.toList.take c.t.n) x) (hi:inR .i64 i) (hz:c.F xs i x=some z)
  (hent:ZB P fid→(execOp a.eval o).run P w = .ok (.enter fid #[.slice (mkA ob) xs.length cap,.int .i64 i,.slice (some ⟨bv,0,none⟩) 1 kv]) w) (h:Zj n (Ev.new n (.own c.ty c.t z false) (ret o (.own n))) f l Post):Zha P N G w0 v0 X o a w Post:=by
 obtain⟨hh,hb⟩:=hst.loc _ List.mem_cons_self;obtain⟨hen,hret⟩:=hI w v ob xs.length cap cs xs i bv kv c0 x z hst.vin hh (λb e=>(hb b e).2) hA rfl hkv hbv hx hi hz;refine ZHc (hent hen) (Calls.mono hret λe w' ⟨r,v',e1,e2,e3,e4⟩=>⟨r,e1,?_⟩);obtain⟨ob',n',cap',cs',rfl,hh',hb',hA',hn'⟩:=e4;subst hn';have hS:=hst.afterI (i:=0) (e':=.own ob' c.ty c.t.n z.length cap' cs') rfl e2 e3 hh' λb hb=>by
  obtain⟨q1,q2⟩:=hb' b hb;exact⟨q1,q2⟩
 have hS:St N w0 v0 [] (.own ob' c.ty c.t.n z.length cap' cs' :: ℓ) v' a w':=hS;exact ZEn (hr.go e3.le (hS.drop (List.sublist_cons_self _ _))) hU hX hn hd hS hA' h
theorem Ztw {c:ConD} {fid:FuncId} (hI:ZPg P fid c) (hr:RelX N G w0 v0 U X f l a w γ v ℓ) (hU:∀ k,U k→X k) (hX:X n) (hn:¬ U n) {o:Oper} {Post:Unit→Fr→Lo→Prop} (hd:∀ k,o.dst=some k→k<N) {ob:Option Nat} {cap:Nat} {cs:List Value} {xs:List c.t.den} {i j:Int} {z:List c.t.den}
  (hst:St N w0 v0 [] (.own ob c.ty c.t.n xs.length cap cs :: ℓ) v a w) (hA:c.t.rep.rels v cs xs) (hi:inR .i64 i) (hj:inR .i64 j) (hz:c.F xs i j=some z)
  (hent:ZB P fid→(execOp a.eval o).run P w = .ok (.enter fid #[.slice (mkA ob) xs.length cap,.int .i64 i,.int .i64 j]) w) (h:Zj n (Ev.new n (.own c.ty c.t z false) (ret o (.own n))) f l Post):Zha P N G w0 v0 X o a w Post:=by
 obtain⟨hh,hb⟩:=hst.loc _ List.mem_cons_self;obtain⟨hen,hret⟩:=hI w v ob xs.length cap cs xs i j z hst.vin hh (λb e=>(hb b e).2) hA rfl hi hj hz;refine ZHc (hent hen) (Calls.mono hret λe w' ⟨r,v',e1,e2,e3,e4⟩=>⟨r,e1,?_⟩);obtain⟨ob',n',cap',cs',rfl,hh',hb',hA',hn'⟩:=e4;subst hn';have hS:=hst.afterI (i:=0) (e':=.own ob' c.ty c.t.n z.length cap' cs') rfl e2 e3 hh' λb hb=>by
  obtain⟨q1,q2⟩:=hb' b hb;exact⟨q1,q2⟩
 have hS:St N w0 v0 [] (.own ob' c.ty c.t.n z.length cap' cs' :: ℓ) v' a w':=hS;exact ZEn (hr.go e3.le (hS.drop (List.sublist_cons_self _ _))) hU hX hn hd hS hA' h
theorem ZKs {C:Cf} (hC:CfOK C) (hr:RelX N G w0 v0 U X f l a w γ v ℓ) (hU:∀ k,U k→X k) (hX:X n) (hn:¬ U n) {fid:FuncId} {c:V} {vals:List Value} {o:Oper} {Post:Unit→Fr→Lo→Prop} (hd:∀ k,o.dst=some k→k<N)
  (hent:ZB C.P fid→(execOp a.eval o).run C.P w = .ok (.enter fid vals.toArray) w) (hval:∀ y,(∀ w,(callFunc fid vals.toArray).run C.P w = .ok (.value y) w)→(execOp a.eval o).run C.P w = .ok (.value y) w)
  (hc:RR v γ l true c vals) (hk:c.ok U) (h:Zj n (Zhj C n o fid c) f l Post):Zha C.P N G w0 v0 X o a w Post:=by
 unfold Zhj at h;split at h
 ·rename_i con hcon;obtain⟨p,l1,γ1,v1,ℓ1,h,r1,le1,q1⟩:=Zie hn hX h hr hk;obtain⟨z,hz,h⟩:=h;have hR:=q1 _ hc;rcases hC.c fid con hcon w v1 _ p z r1.st.vin hR hz with ⟨hen,hret⟩ | ⟨y,hv,hres⟩
  ·refine ZHc (hent hen) (Calls.mono hret λe w' ⟨r,v',e1,e2,e3,e4⟩=>⟨r,e1,?_⟩);have r2:=r1.go e3.le (r1.st.step e2 e3);obtain⟨k1,k2⟩:=ZIm (γ:=γ1) (l:=l1) (U:=X) e4;unfold ret at h
   cases hdd:o.dst with
   | none=>rw[hdd]at h;exact h.elim
   | some dd =>
    rw[hdd]at h;exact⟨_,_,h,_,_,_,(r2.mono hU λ_ h=>h).put (hd dd hdd) k1 k2 hX⟩
  ·obtain⟨k1,k2⟩:=ZIm (γ:=γ1) (l:=l1) (U:=X) hres;exact ZK r1 hU (hval y hv) hd hX k1 k2 h
 ·split at h
  ·rename_i con hcon;obtain⟨p,l1,γ1,v1,ℓ1,h,r1,le1,q1⟩:=Zie hn hX h hr hk;obtain⟨z,hz,h⟩:=h;have hR:=q1 _ hc;obtain⟨hen,hret⟩:=hC.o fid con hcon w v1 _ p z r1.st.vin hR hz;refine ZHc (hent hen) (Calls.mono hret λe w' ⟨r,v',e1,e2,e3,e4⟩=>⟨r,e1,?_⟩);obtain⟨ob,n',cap,cs,rfl,hh,hb,hA,hn'⟩:=e4;subst hn';have h':=r1.st.step e2 e3;refine ZEn (r1.go e3.le h') hU hX hn hd (cs:=cs) ⟨h'.size,h'.dfr,h'.fr,h'.ext,h'.vst,λx hx=>?_,?_⟩ hA h
   ·rcases List.mem_cons.1 hx with rfl | hx
    ·exact⟨hh,λb eb=>⟨.inl (Nat.le_trans r1.st.ext.size (hb b eb).1),(hb b eb).2⟩⟩
    ·exact h'.loc x hx
   ·cases ob with
    | none=>rw[List.filterMap_cons_none (show (Loc.own none con.ty con.t.n z.length cap cs).blk=none from rfl)];exact h'.nd
    | some b =>
     rw[List.filterMap_cons_some (show (Loc.own (some b) con.ty con.t.n z.length cap cs).blk=some b from rfl)];refine List.nodup_cons.2 ⟨λhm=>?_,h'.nd⟩;obtain⟨x,hx,hxb⟩:=List.mem_filterMap.1 hm;obtain⟨c,T',hg⟩:=Loc.blk_get (r1.st.loc x hx).1 hxb;have h1:=ZGd hg;have h2:=(hb b rfl).1;omega
  ·split at h
   ·rename_i con hcon;have hI:=hC.i fid con hcon;unfold insE at h;split at h
    ·rename_i A i u2;obtain⟨cA,xs1,rfl,hA1,xs2,xs3,rfl,hI1,xs4,xs5,rfl,hU2,hnl⟩:=hc;have hnl:xs5=[]:=hnl;subst hnl;obtain⟨e2,he2,h⟩:=h;obtain⟨k2,st2,L2⟩:=e2;have hk2:k2=u2:=(Zq he2).2;subst hk2
     cases L2 with
     | own ty2 s2 l2 fz =>
      cases fz with
      | true=>exact h.elim
      | false =>
       simp only at h;split at h
       ·rename_i x hty hcast;have hty:=eQ hty;subst hty;obtain⟨c3,c4⟩:=ZX hcast;obtain⟨es2,E2,g1,_,_,g3,r1⟩:=hr.del he2;obtain⟨ob2,cap2,cs2,g4,g5,rfl⟩:=g1;have g4:γ k2 = .own ob2 cap2:=g4;obtain⟨y2,rfl,_,hy2⟩:=hU2;obtain⟨ob2',cap2',g6,g7⟩:=hy2 _ he2;rw[g4]at g6;cases g6;have hst2:=hr.st.perm g3;obtain⟨hh2,hb2⟩:=hst2.loc _ List.mem_cons_self;have hc3:s2=con.t:=by injection c3
        subst hc3;have hl2:l2=[x]:=c4;subst hl2
        cases ob2 with
        | none=>obtain⟨q,_⟩:=hh2;cases q
        | some bv =>
         obtain⟨hl,cur,hg,hle,_,hcz,htk⟩:=hh2;obtain⟨v1,hv1,hv2,hst3⟩:=hst2.publish (i:=0) (ℓ':=E2.flatten) rfl rfl hg rfl;have r2:=r1.go hv1 hst3;have hx1:con.t.rep.rel v1 (cur.toList.take con.t.n) x:=by
          have hq:con.t.rep.rels v1 cs2 [x]:=ZL hv1 g5;obtain⟨d1,d2,e1,e2,e3⟩:=hq;have e3:d2=[]:=e3;subst e3;rw[List.append_nil]at e1;subst e1;have:cur.toList.take ([x].length*con.t.n)=cs2:=htk;rw[show [x].length*con.t.n=con.t.n by simp]at this;rw[this];exact e2
         have hi:inR .i64 i:=by obtain⟨_,q⟩:=hI1;exact q
         have hiv:(V.data (.int .i64) i).val xs2 = .int .i64 i:=by obtain⟨q,_⟩:=hI1;subst q;rfl
         have hle0:=Le.era hr k2;have lv:Le U v γ l v1 γ (era l k2):=hle0.trans (by obtain⟨EE,hEE,_⟩:=r1.lr;exact Le.refl hEE hv1)
         cases A with
         | own u =>
          simp only at h;obtain⟨e,he,h⟩:=h;obtain⟨k,st,L⟩:=e;have hkk:k=u:=(Zq he).2;subst hkk
          cases L with
          | own ty s xs fz =>
           cases fz with
           | true=>exact h.elim
           | false =>
            simp only at h;split at h
            ·rename_i l' hty hcast;have hty:=eQ hty;subst hty;obtain⟨c5,c6⟩:=ZX hcast;have hc5:s=con.t:=by injection c5
             subst hc5;have hl':xs=l':=c6;subst hl';obtain⟨z,hz,h⟩:=h;obtain⟨es,E3,d1,_,_,d3,r3⟩:=r2.del he;obtain⟨ob,cap,cs,d4,d5,rfl⟩:=d1;have d4:γ k = .own ob cap:=d4;have hA2:=Zjb lv (x:=.own k) hk.1 hA1;obtain⟨y,rfl,_,hy⟩:=hA2;obtain⟨ob',cap',d6,d7⟩:=hy _ he;rw[d4]at d6;cases d6;refine ZVo hI r3 hU hX hn hd (hst3.perm d3) d5 (kv:=cap2) (by simpa using hle) hv2 hx1 hi hz (λhen=>?_) h;rw[hent hen,ZBf (x:=.own k) rfl,d7,hiv,ZBf (x:=.own k2) rfl,g7];rfl
            ·exact h.elim
          | box _ _=>exact h.elim
          | mid _ _ _ _ _ _=>exact h.elim
          | mat _ _ _ _ _=>exact h.elim
         | nilS =>
          simp only at h;obtain⟨z,hz,h⟩:=h;have hA1:cA=[.slice none 0 0]:=hA1;subst hA1;refine ZVo hI r2 hU hX hn hd (ob:=none) (cap:=0) (cs:=[]) (xs:=[]) (hst3.nilLoc con.ty con.t.n) rfl (kv:=cap2) (by simpa using hle) hv2 hx1 hi hz (λhen=>?_) h;rw[hent hen,hiv,ZBf (x:=.own k2) rfl,g7];rfl
         | _=>exact h.elim
       ·exact h.elim
     | box _ _=>exact h.elim
     | mid _ _ _ _ _ _=>exact h.elim
     | mat _ _ _ _ _=>exact h.elim
    ·exact h.elim
   ·split at h
    ·rename_i con hcon;obtain⟨p,l1,γ1,v1,ℓ1,h,r1,le1,q1⟩:=Zie hn hX h hr hk;obtain⟨z,hz,h⟩:=h;have hR:=q1 _ hc;obtain⟨hen,hret⟩:=hC.q fid con hcon w v1 _ p z r1.st.vin hR hz;refine ZHc (hent hen) (Calls.mono hret λe w' ⟨r,v',e1,e2,e3,e4⟩=>⟨r,e1,?_⟩);obtain⟨ob,cap,rows,es,rfl,hA,hh,hb⟩:=e4;have h':=r1.st.step e2 e3;refine put_mat (r1.go e3.le h') hU hX hn hd (h'.addL r1.st.ext.size hh hb λx hx b hxb=>?_) hA h;obtain⟨c,T',hg⟩:=Loc.blk_get (r1.st.loc x hx).1 hxb;exact ZGd hg
    ·split at h
     ·rename_i con hcon;have hI:=hC.d fid con hcon;unfold delE at h;split at h
      ·rename_i u i j;obtain⟨cA,x1,rfl,hA,cI,x2,rfl,hI1,cJ,x3,rfl,hJ,hnl⟩:=hc;have hnl:x3=[]:=hnl;subst hnl;obtain⟨e,he,h⟩:=h;obtain⟨kk,st,L⟩:=e;have hkk:kk=u:=(Zq he).2;subst hkk
       cases L with
       | own ty s xs fz =>
        cases fz with
        | true=>exact h.elim
        | false =>
         simp only at h;split at h
         ·rename_i ys hty hcast;have hty:=eQ hty;subst hty;obtain⟨c5,c6⟩:=ZX hcast;have hc5:s=con.t:=by injection c5
          subst hc5;have hl':xs=ys:=c6;subst hl';obtain⟨z,hz,h⟩:=h;obtain⟨es,E',h1,_,h2,h3,r1⟩:=hr.del he;obtain⟨ob,cap,cs,g1,g2,rfl⟩:=h1;have g1:γ kk = .own ob cap:=g1;obtain⟨y,rfl,_,hy⟩:=hA;obtain⟨ob',cap',g3,g4⟩:=hy _ he;rw[g1]at g3;cases g3;have hi:inR .i64 i:=by obtain⟨_,q⟩:=hI1;exact q
          have hiv:(V.data (.int .i64) i).val cI = .int .i64 i:=by obtain⟨q,_⟩:=hI1;subst q;rfl
          have hj:inR .i64 j:=by obtain⟨_,q⟩:=hJ;exact q
          have hjv:(V.data (.int .i64) j).val cJ = .int .i64 j:=by obtain⟨q,_⟩:=hJ;subst q;rfl
          refine Ztw hI r1 hU hX hn hd (hr.st.perm h3) g2 hi hj hz (λhen=>?_) h;rw[hent hen,ZBf (x:=.own kk) rfl,g4,hiv,hjv]
         ·exact h.elim
       | box _ _=>exact h.elim
       | mid _ _ _ _ _ _=>exact h.elim
       | mat _ _ _ _ _=>exact h.elim
      ·exact h.elim
     ·split at h
      ·rename_i con hcon;obtain⟨p,l1,γ1,v1,ℓ1,h,r1,le1,q1⟩:=Zie hn hX h hr hk;obtain⟨z,hz,h⟩:=h;have hR:=q1 _ hc;obtain⟨hen,hret⟩:=hC.p fid con hcon w v1 _ p z r1.st.vin hR hz;refine ZHc (hent hen) (Calls.mono hret λe w' ⟨r,v',e1,e2,e3,e4⟩=>⟨r,e1,?_⟩);obtain⟨r0,rest,rfl,⟨ob,n',cap,cs,rfl,hh,hb,hA,hn'⟩,hrest⟩:=e4;subst hn';have h':=r1.st.step e2 e3;refine Zfv (r1.go e3.le h') hU hX hn hd (cs:=cs) ⟨h'.size,h'.dfr,h'.fr,h'.ext,h'.vst,λx hx=>?_,?_⟩ hA hrest h
       ·rcases List.mem_cons.1 hx with rfl | hx
        ·exact⟨hh,λb eb=>⟨.inl (Nat.le_trans r1.st.ext.size (hb b eb).1),(hb b eb).2⟩⟩
        ·exact h'.loc x hx
       ·cases ob with
        | none=>rw[List.filterMap_cons_none (show (Loc.own none con.ty con.t.n z.1.length cap cs).blk=none from rfl)];exact h'.nd
        | some b =>
         rw[List.filterMap_cons_some (show (Loc.own (some b) con.ty con.t.n z.1.length cap cs).blk=some b from rfl)];refine List.nodup_cons.2 ⟨λhm=>?_,h'.nd⟩;obtain⟨x,hx,hxb⟩:=List.mem_filterMap.1 hm;obtain⟨c,T',hg⟩:=Loc.blk_get (r1.st.loc x hx).1 hxb;have h1:=ZGd hg;have h2:=(hb b rfl).1;omega
      ·exact h.elim
theorem Zhs:∀ {c:V} {i:Nat} {z:V} {vals:List Value},nthV c i=some z→RR v γ l true c vals→c.ok U→∃ y,vals[i]? = some y∧RV v γ l z y∧z.ok U
 | .cons x c,0,z,vals,h,hr,hk=>by
  cases h
  obtain⟨cs,xs,rfl,h1,h2⟩:=hr
  exact⟨_,rfl,Zkc h1 (λc e=>by subst e;exact h1),hk.1⟩
 | .cons x c,i+1,z,vals,h,hr,hk=>by
  obtain⟨cs,xs,rfl,h1,h2⟩:=hr
  obtain⟨y,k1,k2,k3⟩:=Zhs (c:=c) h h2 hk.2
  exact⟨y,by simpa using k1,k2,k3⟩
theorem Zsp {v:Zb} {a:T}:∀ {n:Nat} {x:(Zff a n).den} {cs:List Value},0<n→(Zff a n).rep.rel v cs x→a.rep.rels v cs (Z2d a n x)∧(Z2d a n x).length=n
 | 0,_,_,h,_=>by omega
 | 1,x,cs,_,h=>⟨ZHm h,rfl⟩
 | 2,x,cs,_,h=>by
  obtain⟨c1,c2,h1,h2,h3⟩:=h
  exact⟨⟨c1,c2,h1,h2,ZHm h3⟩,rfl⟩
 | k+3,x,cs,_,h=>by
  obtain⟨c1,c2,h1,h2,h3⟩:=h
  obtain⟨k1,k2⟩:=Zsp (n:=k+2) (by omega) h3
  exact⟨⟨c1,c2,h1,h2,k1⟩,by show (Z2d a (k+2) x.2).length+1=_;rw[k2]⟩
theorem RelX.slot (h:RelX N G w0 v0 U X f l a w γ v ℓ) {t m:Nat} {z:V} (hr:RV v γ l z (a.tmps.getD t undef)) (hk:z.ok U) (hX:X m):RelX N G w0 v0 U X (⟨t,m,z⟩ :: f) l a w γ v ℓ:=by
 refine⟨h.st,λt' e' he'=>?_,h.lr,h.nd,λt' e' he'=>?_,h.ul,h.gh⟩
 ·rw[ZI]at he';split at he'
  ·rename_i hk'
   cases he'
   have hk':t=t':=hk';rw[← hk'];exact hr
  ·exact h.fr t' e' he'
 ·rw[ZI]at he';split at he'
  ·cases he';exact⟨hk,hX⟩
  ·exact h.uf t' e' he'
theorem Z3w {σ:List (Nat×Value)} (hS:St N w0 v0 σ ℓ v a w) {t e:TypeId} {n b:Nat} {i:TypeInfo} {x:Operand} (ht:P.underlying t=some (.array n e)) (hi:P.info? e=some i) (e1:ev σ x=some (.pointer (some ⟨b,0,none⟩))) :
  (execOp a.eval ⟨d,.slice t x none none none,ty,pos,aft,g⟩).run P w = .ok (.value (.slice (some ⟨b,0,none⟩) n n)) w:=by
 have h2:∀ w,(underlying t).run P w = .ok (.array n e) w:=λw=>run_underlying ht w;have h3:∀ w,(sizeOf e).run P w = .ok i.size w:=λw=>by simp[sizeOf,typeInfo,hi]
 by_cases hn:n=0
 ·subst hn;simp[execOp,Instr.sliceAt,Instr.sureAddr,hS.eval e1,h2,h3,Instr.sliceBounds,Zcb]
 ·simp[execOp,Instr.sliceAt,Instr.sureAddr,hS.eval e1,h2,h3,Instr.sliceBounds,Zcb]
theorem arrE_ok {C:Cf} (hr:RelX N G w0 v0 U X f l a w γ v ℓ) (hU:∀ k,U k→X k) (hX:X n) (hn:¬ U n) {t:TypeId} {s u off:Nat} {lo hi:Option Operand} {i j:Option Int} {o:Oper} {Post:Unit→Fr→Lo→Prop} (ho:o=⟨d,.slice t (.tmp s) lo hi none,ty,pos,aft,g⟩) (hd:∀ k,o.dst=some k→k<N) (hp:RV v γ l (.ptr u off) (a.eval (.tmp s))) (hk:U u)
  (hlo:(lo=none∧i=none) ∨ ∃ y κ q,lo=some y∧i=some q∧a.eval y = .int κ q) (hhi:(hi=none∧j=none) ∨ ∃ y κ q,hi=some y∧j=some q∧a.eval y = .int κ q) (h:Zj n (arrE C o t s u off i j) f l Post):Zha C.P N G w0 v0 X o a w Post:=by
 unfold arrE at h;split at h
 ·rename_i m e h0 hu;have h0:=eQ h0;subst h0;have hlo:lo=none:=by
   rcases hlo with h1 | ⟨_,_,_,_,h1,_⟩
   ·exact h1.1
   ·cases h1
  have hhi:hi=none:=by
   rcases hhi with h1 | ⟨_,_,_,_,h1,_⟩
   ·exact h1.1
   ·cases h1
  subst hlo hhi;split at h
  ·rename_i α q hα hq hm0 hm1;have hm0:1≤m:=lB hm0;have hm1:=lB hm1;split at h
   ·obtain⟨⟨k0,st0,L⟩,he,h⟩:=h;have hkk:k0=u:=(Zq he).2;subst hkk
    cases L with
    | box ty0 c =>
     simp only at h;obtain⟨y,hy0,_,hy⟩:=Z9 hp (λ_ e=>by cases e) rfl rfl;have hy0:a.eval (.tmp s)=y:=(List.cons.inj hy0).1;obtain⟨b,g1,rfl⟩:=hy _ he;obtain⟨es,E',h1,_,_,h3,_⟩:=hr.del he;obtain⟨b',cs,g2,g3,g4,rfl⟩:=h1;have g2:γ k0 = .box b':=g2;rw[g1]at g2;cases g2;obtain⟨x1,l1,γ1,v1,ℓ1,hB,r1,le1,q1⟩:=ZCd hn hX FU h hr (hr.ul _ (Zq he).1).2.2;obtain⟨⟨k1,st1,L1⟩,he1,hC⟩:=hB;have hkk1:k1=k0:=(Zq he1).2;subst hkk1
     cases L1 with
     | box ty1 c1 =>
      obtain⟨e0,he0,hce⟩:=le1.l _ _ hk he1;rw[he]at he0;cases he0;have hce:γ1 k1=γ k1:=hce;obtain⟨es1,E1,f1,_,_,f3,r2⟩:=r1.del he1;obtain⟨b1,cs1,f4,f5,f6,rfl⟩:=f1;have f4:γ1 k1 = .box b1:=f4;rw[hce,g1]at f4;cases f4;have m0:=(hr.st.loc _ (h3.mem_iff.2 (List.mem_append_left _ (List.mem_singleton.2 rfl)))).1;have m1:=(r1.st.loc _ (f3.mem_iff.2 (List.mem_append_left _ (List.mem_singleton.2 rfl)))).1;have m0:w.heap[b]? = some (.cells cs.toArray ty0 (0,0)):=m0;have m1:w.heap[b]? = some (.cells cs1.toArray ty1 (0,0)):=m1;rw[m0]at m1;have hcs:cs=cs1:=by
       have:=Option.some.inj m1
       injection this with h1 _ _
       have:=congrArg Array.toList h1
       simpa using this
      subst hcs;obtain⟨v',hv,hs1,hAt⟩:=(r1.st.perm f3).pubVar (i:=0) rfl rfl;have hs1:St N w0 v0 [] E1.flatten v' a w:=hs1;have r3:=r2.go hv hs1;have hrel:=Rep.mono _ hv (q1 _ g3);have r4:=r3.slot (t:=s) (m:=n) (z:=.vp (Zff α m) x1 0) ⟨[_],⟨b,0,cs,hAt,hrel,rfl⟩,hy0⟩ trivial hX;obtain⟨i0,hi0⟩:∃ i0,C.P.info? e=some i0:=by
       unfold szA at hq;split at hq
       ·rename_i i0 _ hi0 _;exact⟨i0,hi0⟩
       ·cases hq
      obtain⟨σ,hσ,e1⟩:=r4.st.ev1 (.tmp s);rw[hy0]at e1;obtain⟨k4,k5⟩:=Zsp (by omega) hrel;subst ho;refine ZK r4 hU (Z3w hσ hu hi0 e1) hd hX (x:=.data (.slice α) (Z2d α m x1)) ⟨[.slice (some ⟨b,0,none⟩) m m],?_,rfl⟩ trivial hC;obtain⟨c2,T2,fr2,hvb,htk⟩:=hAt;have hlen:=ZZc k4;rw[k5]at hlen;refine⟨some ⟨b,0,none⟩,m,by rw[show (Z2d α m x1).length=m from k5],by rw[show (Z2d α m x1).length=m from k5];exact Nat.le_refl _,by unfold maxLen;omega,.inr ⟨b,0,c2,T2,fr2,rfl,hvb,?_⟩⟩;rw[show (Z2d α m x1).length=m from k5,← hlen,htk];exact k4
     | own _ _ _ _=>exact hC.elim
     | mat _ _ _ _ _=>exact hC.elim
     | mid _ _ _ _ _ _=>exact hC.elim
    | own _ _ _ _=>exact h.elim
    | mat _ _ _ _ _=>exact h.elim
    | mid _ _ _ _ _ _=>exact h.elim
   ·exact h.elim
  ·exact h.elim
 ·exact h.elim
theorem RelX.dup (h:RelX N G w0 v0 U X f l a w γ v ℓ) {t:Nat} {e:En V} (he:lkE f t=some e):RelX N G w0 v0 U X (e :: f) l a w γ v ℓ:=by
 obtain⟨hm,hk⟩:=Zq he;have key:∀ t',lkE (e :: f) t'=lkE f t':=λt'=>by
  rw[ZI];split
  ·rename_i hk';rw[← hk',hk];exact he.symm
  ·rfl
 exact⟨h.st,λt' e' he'=>h.fr t' e' (by rw[← key];exact he'),h.lr,h.nd,λt' e' he'=>h.uf t' e' (by rw[← key];exact he'),h.ul,h.gh⟩
theorem run_mkI {σ:List (Nat×Value)} (hS:St N w0 v0 σ ℓ v a w) {t:TypeId} {x:Operand} {y:Value} {D:TypeDesc} (e:ev σ x=some y) (h:P.underlying t=some D) (hn:∀ q,some D≠some (.interface q)) :
  (execOp a.eval ⟨d,.makeInterface t x,ty,pos,aft,g⟩).run P w = .ok (.value (.iface t y)) w:=by
 have hx:=hS.eval e;have:(Instr.makeInterface t y).run P w = .ok (.iface t y) w:=by
  cases D with
  | interface q=>exact absurd rfl (hn q)
  | _=>simp[Instr.makeInterface,run_underlying h]
 simp[execOp,hx,this]
theorem Zww {σ:List (Nat×Value)} (hS:St N w0 v0 σ ℓ v a w) {x y z u s t:Operand} {k:IntKind} {p q r p' q' r':Int} {ats:Array TypeId} (e:ev σ x=some (.int k p)) (e':ev σ y=some (.int k q)) (e2:ev σ z=some (.int k r)) (e3:ev σ u=some (.int k p')) (e4:ev σ s=some (.int k q')) (e5:ev σ t=some (.int k r')) :
  (execOp a.eval ⟨d,.call ⟨.builtin .max,#[x,y,z,u,s,t],ats⟩,ty,pos,aft,g⟩).run P w = .ok (.value (.int k (max (max (max (max (max p q) r) p') q') r'))) w:=by
 simp[execOp,resolve,invoke,builtin,Builtin.max_,hS.eval e,hS.eval e',hS.eval e2,hS.eval e3,hS.eval e4,hS.eval e5,ZZk]
theorem Zut {C:Cf} (hr:RelX N G w0 v0 U X f l a w γ v ℓ) (hU:∀ k,U k→X k) (hX:X n) {t:TypeId} {x i:Operand} {o:Oper} {V1:V} {κ:IntKind} {j:Int} {Post:Unit→Fr→Lo→Prop} (ho:o=⟨d,.index t x i,ty,pos,aft,g⟩) (hd:∀ k,o.dst=some k→k<N) (h1:RV v γ l V1 (a.eval x)) (k1:V1.ok U)
  (e2:a.eval i = .int κ j) (hC':Zj n (ixV C o t V1 j) f l Post):Zha C.P N G w0 v0 X o a w Post:=by
 subst ho;obtain⟨σ,hσ,ev1,ev2⟩:=hr.st.ev2 x i;rw[e2]at ev2;unfold ixV at hC';split at hC'
 ·rename_i m e ht;split at hC'
  ·rename_i q hq hag b0 b1;have b0:(0:Int)≤j:=by simpa using b0
   have b1:@LT.lt Int _ j (m:Int):=by simpa using b1
   split at hC'
   ·rename_i z hz;obtain⟨cs,hcs,hqe⟩:=Zpb h1 (λc e=>by subst e;cases hag);obtain⟨q1,q2,q3⟩:=Z5q hq hz hcs k1 w;have hv:V1.val cs = .agg cs.toArray:=by unfold V.val;rw[hag]
    rw[hqe,hv]at ev1;refine ZK hr hU (Znv hσ ev1 ev2 ?_) hd hX (Zkc q2 (λc e=>by subst e;exact q2)) (V.ok.mono hU q3) hC';simp[Instr.index,asIntOf,run_underlying ht,b0,b1,(ZIf hq).size,q1]
   ·exact hC'.elim
  ·exact hC'.elim
 ·exact hC'.elim
theorem Zmx {C:Cf} (hr:RelX N G w0 v0 U X f l a w γ v ℓ) (hU:∀ k,U k→X k) (hX:X n) {t:TypeId} {x i:Operand} {o:Oper} {V1:V} {κ:IntKind} {j:Int} {Post:Unit→Fr→Lo→Prop} (ho:o=⟨d,.index t x i,ty,pos,aft,g⟩) (hd:∀ k,o.dst=some k→k<N) (h1:RV v γ l V1 (a.eval x)) (k1:V1.ok U)
  (e2:a.eval i = .int κ j):∀ {m k:Nat},Zj n (altsV C o t V1 j m k) f l Post→Zha C.P N G w0 v0 X o a w Post:=by
 intro m
 induction m with
 | zero=>intro k h;exact h.elim
 | succ m ih =>
  intro k h;by_cases e:j=(k:Int)
  ·have h3:=h.1 (dTq e);rw[← e]at h3;exact Zut hr hU hX ho hd h1 k1 e2 h3
  ·exact ih (h.2 (dFq e))
theorem Zbl {C:Cf} (hC:CfOK C) (hr:RelX N G w0 v0 U X f l a w γ v ℓ) (hU:∀ k,U k→X k) (hX:X n) (hn:¬ U n) {o:Oper} {Post:Unit→Fr→Lo→Prop} (hd:∀ k,o.dst=some k→k<N) (h:Zj n (ZW C n o) f l Post):Zha C.P N G w0 v0 X o a w Post:=by
 obtain⟨d,op,ty,pos,aft,g⟩:=o
 cases op with
 | move x =>
  simp only[ZW]at h;obtain⟨V1,h1,k1,hA⟩:=ZD hr h;obtain⟨σ,hσ,e1⟩:=hr.st.ev1 x;exact ZK hr hU (ZF hσ e1) hd hX h1 (V.ok.mono hU k1) hA
 | assign x =>
  simp only[ZW]at h;split at h
  ·rename_i hx;have hx:x = .const (.pointer none):=by
    unfold Z8n at hx;split at hx
    ·rfl
    ·cases hx
   subst hx;obtain⟨h0,hA⟩:=h;have e0:Go.Eng.era (⟨n,n,LV.box 0 .undef⟩ :: l) n=l:=by
    simp only[era];rw[show Nat.beq n n=true from Nat.beq_refl n]
   have hA:Zj n (ret ⟨d,.assign (.const (.pointer none)),ty,pos,aft,g⟩ (.ptr n 0)) f (Go.Eng.era (⟨n,n,LV.box 0 .undef⟩ :: l) n) Post:=hA;rw[e0]at hA;obtain⟨σ,hσ,e1⟩:=hr.st.ev1 (.const (.pointer none));exact ZK hr hU (Zwd hσ e1) hd hX (x:=.ptr n 0) ⟨[.pointer none],⟨_,rfl,rfl,λe he=>by rw[h0]at he;cases he⟩,rfl⟩ hX hA
  ·obtain⟨V1,h1,k1,hA⟩:=ZD hr h;obtain⟨σ,hσ,e1⟩:=hr.st.ev1 x;exact ZK hr hU (Zwd hσ e1) hd hX h1 (V.ok.mono hU k1) hA
 | nilCheck x =>
  simp only[ZW]at h;obtain⟨V1,h1,k1,hA⟩:=ZD hr h;split at hA
  ·rename_i α y;obtain⟨cs,hcs,e0⟩:=h1;obtain⟨b,o',c,rfl,hat,hrel⟩:=(show (rPtr α.rep).rel v cs y from hcs);obtain⟨σ,hσ,e1⟩:=hr.st.ev1 x;rw[e0]at e1;have e1:ev σ x=some (.pointer (some ⟨b,o',none⟩)):=e1;have hrun:(execOp a.eval ⟨d,.nilCheck x,ty,pos,aft,g⟩).run C.P w = .ok (.value (.pointer (some ⟨b,o',none⟩))) w:=by simp[execOp,hσ.eval e1]
   exact ZK hr hU hrun hd hX (x:=.vp α y 0) ⟨[_],⟨b,o',c,hat,hrel,rfl⟩,rfl⟩ trivial hA
  obtain⟨hB,b,o',e',_⟩:=Zbn h1 k1 hA;obtain⟨σ,hσ,e1⟩:=hr.st.ev1 x;rw[e']at e1 h1;have hrun:(execOp a.eval ⟨d,.nilCheck x,ty,pos,aft,g⟩).run C.P w = .ok (.value (.pointer (some ⟨b,o',none⟩))) w:=by simp[execOp,hσ.eval e1]
  exact ZK hr hU hrun hd hX h1 (V.ok.mono hU k1) hB
 | extract x i =>
  simp only[ZW]at h;obtain⟨V1,h1,k1,hA⟩:=ZD hr h;split at hA
  ·rename_i c;split at hA
   ·rename_i z hz;obtain⟨vals,h2,h3⟩:=h1;obtain⟨y,q1,q2,q3⟩:=Zhs hz h2 k1;obtain⟨σ,hσ,e1⟩:=hr.st.ev1 x;rw[h3]at e1;exact ZK hr hU (Zya hσ e1 (by simpa using q1)) hd hX q2 (V.ok.mono hU q3) hA
   ·exact hA.elim
  ·exact hA.elim
 | alloc t =>
  simp only[ZW]at h;split at h
  ·rename_i z hz;obtain⟨y,cs,hy,hcells,hzz,hkz,hp⟩:=ZXm (v:=v) (γ:=γ) (l:=l) (U:=U) hz;refine Z4s hr hU hX hn hd hzz hkz hp ?_ h;have:=Zgn (a:=a) (w:=w) (d:=d) (ty:=ty) (pos:=pos) (aft:=aft) (g:=g) hy;rw[hcells]at this;exact this
  ·exact h.elim
 | box t x =>
  simp only[ZW]at h;obtain⟨V1,h1,k1,hA⟩:=ZD hr h;split at hA
  ·rename_i hfit;obtain⟨cs,hcs,hqe⟩:=Zpb h1 (Zzn hfit);obtain⟨hcells,hpl⟩:=Zej hcs hfit;obtain⟨σ,hσ,e1⟩:=hr.st.ev1 x;rw[hqe]at e1;refine Z4s hr hU hX hn hd hcs k1 hpl ?_ hA;have:=ZDr (t:=t) (d:=d) (ty:=ty) (pos:=pos) (aft:=aft) (g:=g) (P:=C.P) hσ e1;rw[show (V1.val cs).cells=cs.toArray from hcells]at this;exact this
  ·exact hA.elim
 | load t x =>
  simp only[ZW]at h;obtain⟨V1,h1,k1,hA⟩:=ZD hr h;split at hA
  ·exact ZKx hr hU hX hn rfl hd h1 hA
  obtain⟨z,y,q1,q2,q3,hB⟩:=ldE_ok (d:=d) (ty:=ty) (pos:=pos) (aft:=aft) (g:=g) hr h1 k1 hA;exact ZK hr hU q1 hd hX q2 (V.ok.mono hU q3) hB
 | store t x y =>
  simp only[ZW]at h
  cases d with
  | some d=>exact h.elim
  | none =>
   obtain⟨V1,h1,k1,hA⟩:=ZD hr h;obtain⟨V2,h2,k2,hB⟩:=ZD hr hA;exact stE_ok hr hU hX hn rfl h1 h2 k1 k2 hB
 | fieldAddr s x i =>
  simp only[ZW]at h;obtain⟨V1,h1,k1,hA⟩:=ZD hr h;obtain⟨z,y,q1,q2,q3,hB⟩:=fldE_ok (d:=d) (ty:=ty) (pos:=pos) (aft:=aft) (g:=g) hr h1 k1 hA;exact ZK hr hU q1 hd hX q2 (V.ok.mono hU q3) hB
 | field s x i =>
  simp only[ZW]at h;obtain⟨V1,h1,k1,hA⟩:=ZD hr h;split at hA
  ·rename_i fd hfd hag;split at hA
   ·rename_i q hq;split at hA
    ·rename_i z hz;obtain⟨cs,hcs,hqe⟩:=Zpb h1 (λc e=>by subst e;cases hag);obtain⟨q1,q2,q3⟩:=Z5q hq hz hcs k1 w;obtain⟨σ,hσ,e1⟩:=hr.st.ev1 x;have hv:V1.val cs = .agg cs.toArray:=by unfold V.val;rw[hag]
     rw[hqe,hv]at e1;refine ZK hr hU (Zbu hσ e1 ?_) hd hX (Zkc q2 (λc e=>by subst e;exact q2)) (V.ok.mono hU q3) hA;unfold fldT at hfd;split at hfd
     ·rename_i fs hfs;have hfd':fs[i]? = some fd:=by rw[← Array.getElem?_toList];exact hfd
      simp[Instr.field,run_underlying hfs,hfd',asAgg,q1]
     ·cases hfd
    ·exact hA.elim
   ·exact hA.elim
  ·exact hA.elim
 | indexAddr t x i =>
  simp only[ZW]at h;obtain⟨V1,h1,k1,hA⟩:=ZD hr h;obtain⟨V2,h2,k2,hB⟩:=ZD hr hA;obtain⟨κ,j,rfl,hC'⟩:=Z4a hB;split at hC'
  ·unfold altE at hC';split at hC'
   ·exact alts_ok hr hU hX rfl hd h1 k1 (ZBa h2).1 hC'
   ·exact hC'.elim
  ·exact ixE_ok hr hU hX rfl hd h1 k1 (ZBa h2).1 hC'
 | index t x i =>
  simp only[ZW]at h;obtain⟨V1,h1,k1,hA⟩:=ZD hr h;obtain⟨V2,h2,k2,hB⟩:=ZD hr hA;obtain⟨κ,j,rfl,hC'⟩:=Z4a hB;obtain⟨e2,_⟩:=ZBa h2;obtain⟨σ,hσ,ev1,ev2⟩:=hr.st.ev2 x i;rw[e2]at ev2;split at hC'
  ·obtain⟨e1,_⟩:=Zig h1;rw[e1]at ev1;split at hC'
   ·rename_i ht;obtain⟨y,hy,hC'⟩:=hC';exact ZK hr hU (Zav hσ ev1 ev2 ht hy) hd hX (ZAa (u8_inR y)) trivial hC'
   ·exact hC'.elim
  ·split at hC'
   ·unfold altvE at hC';split at hC'
    ·exact Zmx hr hU hX rfl hd h1 k1 e2 hC'
    ·exact hC'.elim
   ·exact Zut hr hU hX rfl hd h1 k1 e2 hC'
 | binOp op t x y t' =>
  simp only[ZW]at h;obtain⟨V1,h1,k1,hA⟩:=ZD hr h;obtain⟨V2,h2,k2,hB⟩:=ZD hr hA;obtain⟨z,q,q1,q2,q3,hC'⟩:=binE_ok (d:=d) (ty:=ty) (pos:=pos) (aft:=aft) (g:=g) (t':=t') hr h1 h2 hB;exact ZK hr hU q1 hd hX q2 (V.ok.mono hU q3) hC'
 | unOp u t x =>
  cases u with
  | not =>
   simp only[ZW]at h;obtain⟨V1,h1,k1,hA⟩:=ZD hr h;obtain⟨b,rfl,hB⟩:=Zex hA;obtain⟨σ,hσ,e1⟩:=hr.st.ev1 x;rw[ZEf h1]at e1;exact ZK hr hU (ZKp hσ e1) hd hX ZNc trivial hB
  | neg =>
   simp only[ZW]at h;obtain⟨V1,h1,k1,hA⟩:=ZD hr h;obtain⟨κ,i,rfl,hB⟩:=Z4a hA;obtain⟨σ,hσ,e1⟩:=hr.st.ev1 x;rw[(ZBa h1).1]at e1;exact ZK hr hU (run_neg hσ e1) hd hX (ZAa (Zdc _ _)) trivial hB
  | _=>exact h.elim
 | convert s t x =>
  simp only[ZW]at h;obtain⟨V1,h1,k1,hA⟩:=ZD hr h;obtain⟨σ,hσ,e1⟩:=hr.st.ev1 x;split at hA
  ·rename_i κ i ds κ' hs ht;obtain⟨q1,q2⟩:=ZBa h1;rw[q1]at e1;have hcv:∀ w,(convert s t (.int κ i)).run C.P w = .ok (.int κ' (κ'.wrap i)) w:=λw=>by
    simp[convert,run_underlying hs,run_underlying ht,Conv.intToInt]
   split at hA
   ·rename_i hk;have hk:=Zwc hk;subst hk;refine ZK hr hU (Zmf hσ e1 hcv) hd hX (x:=.data (.int κ) i) ?_ trivial hA;rw[Z2c q2];exact ZAa q2
   ·exact ZK hr hU (Zmf hσ e1 hcv) hd hX (ZAa (Zdc _ _)) trivial hA
  ·rename_i hs ht;obtain⟨q1,q2⟩:=Zig h1;rw[q1]at e1;exact ZK hr hU (Zmf hσ e1 (λw=>by simp[convert,run_underlying hs,run_underlying ht])) hd hX (Znk q2) trivial hA
  ·exact hA.elim
 | makeInterface t x =>
  simp only[ZW]at h;obtain⟨V1,h1,k1,hA⟩:=ZD hr h;split at hA
  ·rename_i hfit;split at hA
   ·exact hA.elim
   ·rename_i D hni hD;obtain⟨cs,hcs,hqe⟩:=Zpb h1 (Zzn hfit);obtain⟨σ,hσ,e1⟩:=hr.st.ev1 x;rw[hqe]at e1;refine ZK hr hU (run_mkI hσ e1 hD λq e=>hni q (Option.some.inj e)) hd hX (x:=.ifc t V1) ⟨[_],⟨cs,hcs,rfl⟩,rfl⟩ (V.ok.mono hU k1) hA
   ·exact hA.elim
  ·exact hA.elim
 | makeFunc fn first cap =>
  cases fn with
  | func fi =>
   simp only[ZW]at h;split at h
   ·rename_i hfirst;obtain⟨c,h1,k1,hA⟩:=ZPf hr h;obtain⟨σ,hσ,hev⟩:=hr.st.evs cap.toList;have hargs:cap.toList.map (ev σ)=(cap.toList.map a.eval).map some:=by
     rw[List.map_map];exact List.map_congr_left λy hy=>hev y hy
    have hf:first = #[]:=by
     apply Array.ext';simpa using hfirst
    subst hf;exact ZK hr hU (ZRw hσ _ hargs) hd hX (x:=.fn fi c) ⟨[_],⟨_,h1,rfl⟩,rfl⟩ (V.ok.mono hU k1) hA
   ·exact h.elim
  | _=>exact h.elim
 | makeSlice t x y=>exact ZGw hr hU hX hn rfl hd h
 | buildSlice t m ps=>exact ZYu hr hU hX hn rfl hd h
 | build t ps=>exact ZUy hr hU hX rfl hd h
 | slice t x lo hi mx =>
  cases mx with
  | some _=>exact h.elim
  | none =>
   simp only[ZW]at h;obtain⟨i,hA,hlo⟩:=ZRp hr h;obtain⟨j,hB,hhi⟩:=ZRp hr hA;obtain⟨V1,h1,k1,hC'⟩:=ZD hr hB;split at hC'
   ·rename_i u;obtain⟨en,he,hC'⟩:=hC';obtain⟨kk,st,L⟩:=en
    cases L with
    | own ty0 s xs fz =>
     obtain⟨ys,l1,γ1,v1,ℓ1,hD,r1,le1,q1⟩:=ZCd hn hX FU hC' hr k1;obtain⟨cs,hcs,hqe⟩:=Zpb h1 (λc e=>by cases e);have hrel:=q1 _ hcs;exact Zoj (p:=.data (.slice s) ys) r1 hU hX rfl hd ⟨cs,hrel,hqe⟩ hlo hhi hD
    | box _ _=>exact hC'.elim
    | mid _ _ _ _ _ _=>exact hC'.elim
    | mat _ _ _ _ _=>exact hC'.elim
   ·obtain⟨cs,hcs,hqe⟩:=Z7g h1;exact Zoj (p:=.data (.slice (.int .u64)) (Zc 18446744073709551616 _)) hr hU hX rfl hd ⟨cs,hcs,hqe⟩ hlo hhi hC'
   ·obtain⟨cs,hcs,hqe⟩:=Z7g h1;exact Zoj (p:=.data (.slice (.int .u32)) (Zc 4294967296 _)) hr hU hX rfl hd ⟨cs,hcs,hqe⟩ hlo hhi hC'
   ·split at hC'
    ·exact arrE_ok hr hU hX hn rfl hd h1 k1 hlo hhi hC'
    ·exact hC'.elim
   ·exact Zoj hr hU hX rfl hd h1 hlo hhi hC'
 | pick c x y =>
  cases c with
  | tmp c =>
   simp only[ZW]at h;obtain⟨s,b,hf,h1,h2⟩:=h;have hr':=RelX.dup hr hf;have hc:=ZEf (hr.fr c _ hf);obtain⟨σ,hσ,hev⟩:=hr.st.evs [.tmp c,x,y];have e0:=hev (.tmp c) (by simp);have e0:ev σ (.tmp c)=some (.bool b):=e0.trans (congrArg some hc);have ex:=hev x (by simp);have ey:=hev y (by simp)
   cases b with
   | true =>
    obtain⟨V1,q1,k1,hA⟩:=ZD hr' (h1 rfl);exact ZK hr' hU (ZRe hσ e0 (by rw[iP rfl];exact ex)) hd hX q1 (V.ok.mono hU k1) hA
   | false =>
    obtain⟨V1,q1,k1,hA⟩:=ZD hr' (h2 rfl);exact ZK hr' hU (ZRe hσ e0 (by rw[iN (by decide)];exact ey)) hd hX q1 (V.ok.mono hU k1) hA
  | _=>exact h.elim
 | call c =>
  obtain⟨callee,args,ats⟩:=c
  cases callee with
  | value x =>
   simp only[ZW]at h;obtain⟨V1,h1,k1,hA⟩:=ZD hr h;obtain⟨c,h2,k2,hB⟩:=ZPf hr hA;split at hB
   ·rename_i fi;obtain⟨cs,⟨vs,q1,rfl⟩,q3⟩:=h1;have q1:vs=[]:=q1;subst q1;have q3:a.eval x = .func (.func fi) #[] #[]:=q3;obtain⟨σ,hσ,hev⟩:=hr.st.evs (x :: args.toList);have hfx:=hev x (by simp);rw[q3]at hfx;have hargs:args.toList.map (ev σ)=(args.toList.map a.eval).map some:=by
     rw[List.map_map];exact List.map_congr_left λy hy=>hev y (by simp[hy])
    exact ZKs hC hr hU hX hn hd (λhen=>Zoa hσ _ hen hfx hargs) (λy hv=>Zcj hσ _ hv hfx hargs) h2 k2 hB
   ·exact hB.elim
  | invoke r m =>
   simp only[ZW]at h;obtain⟨V1,h1,k1,hA⟩:=ZD hr h;obtain⟨c,h2,k2,hB⟩:=ZPf hr hA;split at hB
   ·rename_i t x;split at hB
    ·rename_i fi hfi;obtain⟨cs,⟨cc,q1,rfl⟩,q3⟩:=h1;have q3:a.eval r = .iface t (x.val cc):=q3;obtain⟨σ,hσ,hev⟩:=hr.st.evs (r :: args.toList);have hfx:=hev r (by simp);rw[q3]at hfx;have hargs:args.toList.map (ev σ)=(args.toList.map a.eval).map some:=by
      rw[List.map_map];exact List.map_congr_left λy hy=>hev y (by simp[hy])
     exact ZKs hC hr hU hX hn (c:=.cons x c) (vals:=x.val cc :: args.toList.map a.eval) hd (λhen=>Zvs hσ _ (λw=>hC.m t m fi hfi _ w) hfx hargs (hen _ w)) (λy hv=>Zvs hσ _ (λw=>hC.m t m fi hfi _ w) hfx hargs (by
      have:=hv w;exact this)) ⟨cc,_,rfl,q1,h2⟩ ⟨k1,k2⟩ hB
    ·exact hB.elim
   ·exact hB.elim
  | builtin b =>
   cases b with
   | len =>
    simp only[ZW]at h;split at h
    ·rename_i x t hx ht;have hx:args = #[x]:=by apply Array.ext';exact hx
     have ht:ats = #[t]:=by apply Array.ext';exact ht
     subst hx ht;obtain⟨V1,h1,k1,hA⟩:=ZD hr h;obtain⟨m,q1,q2,hB⟩:=lenE_ok (d:=d) (ty:=ty) (pos:=pos) (aft:=aft) (g:=g) hr h1 hA;exact ZK hr hU q1 hd hX (ZAa q2) trivial hB
    ·exact h.elim
   | append =>
    simp only[ZW]at h;split at h
    ·rename_i x y t t' hx ht;split at h
     ·rename_i hb;have hb:=eQ hb;subst hb;have hx:args = #[x,y]:=by apply Array.ext';exact hx
      have ht:ats = #[t,t]:=by apply Array.ext';exact ht
      subst hx ht;obtain⟨V1,h1,k1,hA⟩:=ZD hr h;obtain⟨V2,h2,k2,hB⟩:=ZD hr hA;exact appE_ok hr hU hX hn rfl hd h1 h2 k1 k2 hB
     ·exact h.elim
    ·exact h.elim
   | max =>
    simp only[ZW]at h;split at h
    ·rename_i x y hx;have hx:args = #[x,y]:=by apply Array.ext';exact hx
     subst hx;obtain⟨V1,h1,k1,hA⟩:=ZD hr h;obtain⟨V2,h2,k2,hB⟩:=ZD hr hA;obtain⟨κ,i,rfl,hC'⟩:=Z4a hB;obtain⟨κ',j,rfl,hD⟩:=Z4a hC';split at hD
     ·rename_i hk;have hk:=Zwc hk;subst hk;obtain⟨e1,r1⟩:=ZBa h1;obtain⟨e2,r2⟩:=ZBa h2;obtain⟨σ,hσ,ev1,ev2⟩:=hr.st.ev2 x y;rw[e1]at ev1;rw[e2]at ev2;exact ZK hr hU (run_max hσ ev1 ev2) hd hX (ZAa (ZJe r1 r2)) trivial hD
     ·exact hD.elim
    ·rename_i x y z hx;have hx:args = #[x,y,z]:=by apply Array.ext';exact hx
     subst hx;obtain⟨V1,h1,k1,hA⟩:=ZD hr h;obtain⟨V2,h2,k2,hB⟩:=ZD hr hA;obtain⟨V3,h3,k3,hB'⟩:=ZD hr hB;obtain⟨κ,i,rfl,hC'⟩:=Z4a hB';obtain⟨κ',j,rfl,hD⟩:=Z4a hC';obtain⟨κ'',q,rfl,hE⟩:=Z4a hD;split at hE
     ·rename_i hk hk2;have hk:=Zwc hk;subst hk;have hk2:=Zwc hk2;subst hk2;obtain⟨e1,r1⟩:=ZBa h1;obtain⟨e2,r2⟩:=ZBa h2;obtain⟨e3,r3⟩:=ZBa h3;obtain⟨σ,hσ,ev1,ev2,ev3⟩:=hr.st.ev3 x y z;rw[e1]at ev1;rw[e2]at ev2;rw[e3]at ev3;exact ZK hr hU (ZBx hσ ev1 ev2 ev3) hd hX (ZAa (ZJe (ZJe r1 r2) r3)) trivial hE
     ·exact hE.elim
    ·rename_i x1 x2 x3 x4 x5 x6 hx;have hx:args = #[x1,x2,x3,x4,x5,x6]:=by apply Array.ext';exact hx
     subst hx;obtain⟨V1,h1,k1,hA⟩:=ZD hr h;obtain⟨V2,h2,k2,hA⟩:=ZD hr hA;obtain⟨V3,h3,k3,hA⟩:=ZD hr hA;obtain⟨V4,h4,k4,hA⟩:=ZD hr hA;obtain⟨V5,h5,k5,hA⟩:=ZD hr hA;obtain⟨V6,h6,k6,hA⟩:=ZD hr hA;obtain⟨κ,i1,rfl,hB1⟩:=Z4a hA;obtain⟨κ2,i2,rfl,hB2⟩:=Z4a hB1;obtain⟨κ3,i3,rfl,hB3⟩:=Z4a hB2;obtain⟨κ4,i4,rfl,hB4⟩:=Z4a hB3;obtain⟨κ5,i5,rfl,hB5⟩:=Z4a hB4;obtain⟨κ6,i6,rfl,hB6⟩:=Z4a hB5;split at hB6
     ·have g2:=Zwc (show kEq κ κ2=true by assumption)
      cases g2
      have g3:=Zwc (show kEq κ κ3=true by assumption)
      cases g3
      have g4:=Zwc (show kEq κ κ4=true by assumption)
      cases g4
      have g5:=Zwc (show kEq κ κ5=true by assumption)
      cases g5
      have g6:=Zwc (show kEq κ κ6=true by assumption)
      cases g6
      obtain⟨e1,r1⟩:=ZBa h1;obtain⟨e2,r2⟩:=ZBa h2;obtain⟨e3,r3⟩:=ZBa h3;obtain⟨e4,r4⟩:=ZBa h4;obtain⟨e5,r5⟩:=ZBa h5;obtain⟨e6,r6⟩:=ZBa h6;obtain⟨σ,hσ,ev1,ev2,ev3,ev4,ev5,ev6⟩:=hr.st.ev6 x1 x2 x3 x4 x5 x6;rw[e1]at ev1;rw[e2]at ev2;rw[e3]at ev3;rw[e4]at ev4;rw[e5]at ev5;rw[e6]at ev6;exact ZK hr hU (Zww hσ ev1 ev2 ev3 ev4 ev5 ev6) hd hX (ZAa (ZJe (ZJe (ZJe (ZJe (ZJe r1 r2) r3) r4) r5) r6)) trivial hB6
     ·exact hB6.elim
    ·exact h.elim
   | min =>
    simp only[ZW]at h;split at h
    ·rename_i x y hx;have hx:args = #[x,y]:=by apply Array.ext';exact hx
     subst hx;obtain⟨V1,h1,k1,hA⟩:=ZD hr h;obtain⟨V2,h2,k2,hB⟩:=ZD hr hA;obtain⟨κ,i,rfl,hC'⟩:=Z4a hB;obtain⟨κ',j,rfl,hD⟩:=Z4a hC';split at hD
     ·rename_i hk;have hk:=Zwc hk;subst hk;obtain⟨e1,r1⟩:=ZBa h1;obtain⟨e2,r2⟩:=ZBa h2;obtain⟨σ,hσ,ev1,ev2⟩:=hr.st.ev2 x y;rw[e1]at ev1;rw[e2]at ev2;exact ZK hr hU (run_min hσ ev1 ev2) hd hX (ZAa (min_inR r1 r2)) trivial hD
     ·exact hD.elim
    ·exact h.elim
   | _=>exact h.elim
 | _=>exact h.elim
end
end Go.Eng
namespace Go.Eng
open Go.RowKit
def Old (m:Nat) (f:Fr) (l:Lo) (f':Fr) (l':Lo):Prop:=(∀ t e,lkE f' t=some e→e.st<m→lkE f t=some e)∧∀ u e,lkE l' u=some e→e.st<m→lkE l u=some e
theorem Old.refl {m:Nat} {f:Fr} {l:Lo}:Old m f l f l:=⟨λ_ _ h _=>h,λ_ _ h _=>h⟩
theorem Old.trans {m m':Nat} {f f' f'':Fr} {l l' l'':Lo} (h:Old m f l f' l') (k:Old m' f' l' f'' l'') (hm:m≤m'):Old m f l f'' l'' :=
 ⟨λt e he hs=>h.1 t e (k.1 t e he (by omega)) hs,λt e he hs=>h.2 t e (k.2 t e he (by omega)) hs⟩
theorem Old.mono {m m':Nat} {f f':Fr} {l l':Lo} (h:Old m' f l f' l') (hm:m≤m'):Old m f l f' l':=⟨λt e he hs=>h.1 t e he (by omega),λt e he hs=>h.2 t e he (by omega)⟩
theorem Old.put {m n:Nat} {f:Fr} {l:Lo} {d:Nat} {x:V} (h:m≤n):Old m f l (⟨d,n,x⟩ :: f) l:=by
 refine⟨λt e he hs=>?_,λ_ _ h _=>h⟩;rw[ZI]at he;split at he
 ·cases he;exact absurd hs (by show ¬ n<m;omega)
 ·exact he
theorem Old.dup {m:Nat} {f:Fr} {l:Lo} {t:Nat} {e:En V} (h:lkE f t=some e):Old m f l (e :: f) l:=by
 obtain⟨_,hk⟩:=Zq h;refine⟨λt' e' he _=>?_,λ_ _ h _=>h⟩;rw[ZI]at he;split at he
 ·rename_i hk';cases he;rw[← hk',hk];exact h
 ·exact he
theorem Zni {ρ:Type} {n m:Nat} (hm:m≤n) {f0:Fr} {l0:Lo}:∀ {e:Ev ρ} {f:Fr} {l:Lo} {K:ρ→Fr→Lo→Prop},Old m f0 l0 f l→(l.map En.k).Nodup→Zj n e f l K→Zj n e f l λx f' l'=>K x f' l'∧Old m f0 l0 f' l':=by
 intro e;have wr:∀ {f:Fr} {l:Lo} {u:Nat} {L:LV},Old m f0 l0 f l→(l.map En.k).Nodup→Old m f0 l0 f (⟨u,n,L⟩ :: era l u)∧((⟨u,n,L⟩ :: era l u:Lo).map En.k).Nodup:=by
  intro f l u L ho hn;obtain⟨n1,n2⟩:=ZRb (t:=u) hn;refine⟨⟨ho.1,λk e he hs=>?_⟩,List.nodup_cons.2 ⟨n2,n1⟩⟩;rw[ZI]at he;split at he
  ·cases he;exact absurd hs (by show ¬ n<m;omega)
  ·rw[Z3b hn]at he;split at he
   ·cases he
   ·exact ho.2 k e he hs
 induction e with
 | fail=>intro f l K ho hn h;exact h
 | done x=>intro f l K ho hn h;exact⟨h,ho⟩
 | rdS t q ih=>intro f l K ho hn h;obtain⟨x,hx,h⟩:=h;exact⟨x,hx,ih _ ho hn h⟩
 | rdL u q ih=>intro f l K ho hn h;obtain⟨x,hx,h⟩:=h;exact⟨x,hx,ih _ _ ho hn h⟩
 | wrS t x e ih=>intro f l K ho hn h;exact ih (ho.trans (Old.put hm) (Nat.le_refl m)) hn h
 | wrL u L e ih=>intro f l K ho hn h;exact ih (wr ho hn).1 (wr ho hn).2 h
 | new u L e ih =>
  intro f l K ho hn h;refine⟨h.1,ih ⟨ho.1,λk e he hs=>?_⟩ (List.nodup_cons.2 ⟨Zeh h.1,hn⟩) h.2⟩;rw[ZI]at he;split at he
  ·cases he;exact absurd hs (by show ¬ n<m;omega)
  ·exact ho.2 k e he hs
 | del u e ih =>
  intro f l K ho hn h;refine ih ⟨ho.1,λk e he hs=>?_⟩ (ZRb hn).1 h;rw[Z3b hn]at he;split at he
  ·cases he
  ·exact ho.2 k e he hs
 | bind x q ih=>intro f l K ho hn h;obtain⟨x,hx,h⟩:=h;exact⟨x,hx,ih _ ho hn h⟩
 | test t e1 e2 i1 i2 =>
  intro f l K ho hn h;obtain⟨s,b,h1,h2,h3⟩:=h;have hd:=ho.trans (Old.dup (m:=m) (l:=l) h1) (Nat.le_refl m);exact⟨s,b,h1,λe=>i1 hd hn (h2 e),λe=>i2 hd hn (h3 e)⟩
 | alt b e1 e2 i1 i2=>intro f l K ho hn h;exact⟨λe=>i1 ho hn (h.1 e),λe=>i2 ho hn (h.2 e)⟩
section
variable {N:Nat} {G:V→Value→Prop} {w0:Base} {v0:Zb} {U X:Nat→Prop} {f:Fr} {l:Lo} {a:Act} {w:World} {γ:Nat→Gh} {v:Zb} {ℓ:List Loc} {n:Nat}
def GoodG (P:Program) (ops:Array Oper) (N:Nat) (G:V→Value→Prop) (w0:Base) (v0:Zb) (X:Nat→Prop) (o:Oper) (a:Act) (w:World) (Post:Unit→Fr→Lo→Prop):Prop :=
 (Region.wanted o (yielded ops a.tmps)=true∧Zha P N G w0 v0 X o a w Post)∨(Region.wanted o (yielded ops a.tmps)=false∧∃ f' l',Post () f' l'∧Rel N G w0 v0 X f' l' (a.put o.dst undef) w)
theorem ZXi (hr:RelX N G w0 v0 U X f l a w γ v ℓ) (hU:∀ k,U k→X k) (hX:X n) {o:Oper} {Post:Unit→Fr→Lo→Prop} (hd:∀ k,o.dst=some k→k<N) (h:Zj n (ZHg o) f l Post):∃ f' l',Post () f' l'∧Rel N G w0 v0 X f' l' (a.put o.dst undef) w:=by
 unfold ZHg at h
 cases hdd:o.dst with
 | none=>rw[hdd]at h;exact⟨f,l,h,γ,v,ℓ,hr.mono hU λ_ h=>h⟩
 | some d=>rw[hdd]at h;exact⟨_,l,h,γ,v,ℓ,(hr.mono hU λ_ h=>h).put (hd d hdd) (x:=.undef) ⟨[undef],rfl,rfl⟩ trivial hX⟩
theorem Zyl {C:Cf} (hC:CfOK C) {ops:Array Oper} (hr:RelX N G w0 v0 U X f l a w γ v ℓ) (hU:∀ k,U k→X k) (hX:X n) (hn:¬ U n) {o:Oper} {Post:Unit→Fr→Lo→Prop} (hds:∀ o ∈ ops.toList,∀ k,o.dst=some k→k<N) (hd:∀ k,o.dst=some k→k<N)
  (h:Zj n (gop C ops.toList n o) f l Post):GoodG C.P ops N G w0 v0 X o a w Post:=by
 unfold gop at h;split at h
 ·rename_i hg;exact .inl ⟨Zlc hg,Zbl hC hr hU hX hn hd h⟩
 ·rename_i j want hg;split at h
  ·rename_i q hq;split at h
   ·rename_i t ht;have htN:t<N:=hds q (mG hq) t ht;have hgd:(ops[j]?).bind (·.dst)=some t:=by rw[← Array.getElem?_toList,hq];exact ht
    obtain⟨e,he,h⟩:=h;obtain⟨σ,hσ,hev⟩:=hr.st.evs [.tmp t];have hl:look σ t=some (a.tmps.getD t undef):=hev (.tmp t) (by simp);have hrv:=hr.fr t e he;obtain⟨ek,est,ex⟩:=e;have hk:ek=t:=(Zq he).2;subst hk
    cases ex with
    | undef =>
     obtain⟨cs,h1,h2⟩:=hrv;have h1:cs=[undef]:=h1;subst h1;have h2:a.tmps.getD ek undef=undef:=h2;rw[h2]at hl;exact .inr ⟨Zpe hσ hg hgd hl htN,ZXi hr hU hX hd h⟩
    | data tt b =>
     cases tt with
     | bool =>
      have h2:=ZEf hrv;have h2:a.tmps.getD ek undef = .bool b:=h2;rw[h2]at hl
      cases want with
      | true =>
       obtain⟨s,b',h3,h4,h5⟩:=h;rw[he]at h3
       cases h3
       cases b with
       | true=>exact .inl ⟨Zkf hσ hg hgd hl htN,Zbl hC (RelX.dup hr he) hU hX hn hd (h4 rfl)⟩
       | false=>exact .inr ⟨Zgi hσ hg hgd hl htN,ZXi (RelX.dup hr he) hU hX hd (h5 rfl)⟩
      | false =>
       obtain⟨s,b',h3,h4,h5⟩:=h;rw[he]at h3
       cases h3
       cases b with
       | true=>exact .inr ⟨Zgi hσ hg hgd hl htN,ZXi (RelX.dup hr he) hU hX hd (h4 rfl)⟩
       | false=>exact .inl ⟨Zkf hσ hg hgd hl htN,Zbl hC (RelX.dup hr he) hU hX hn hd (h5 rfl)⟩
     | _=>exact h.elim
    | _=>exact h.elim
   ·exact h.elim
  ·exact h.elim
theorem GoodG.list {P:Program} {ops:Array Oper} {Q:Exit→Act→World→Prop} {o:Oper} {rest:List Oper} {Post:Unit→Fr→Lo→Prop} (h:GoodG P ops N G w0 v0 X o a w Post)
  (k:∀ f' l' a' w',Post () f' l'→Rel N G w0 v0 X f' l' a' w'→wpList P ops Q rest a' w'):wpList P ops Q (o :: rest) a w:=by
 rcases h with ⟨hw,hg⟩ | ⟨hw,f',l',h1,h2⟩
 ·exact ZMc hw (ZRn hg λx w' ⟨f',l',h1,h2⟩=>k f' l' _ w' h1 h2)
 ·unfold wpList;rw[iN (by rw[hw];decide)];exact k f' l' _ w h1 h2
end
end Go.Eng
namespace Go.Eng
open Go.RowKit
inductive Et where
 | rS (t:Nat) (e:En V)
 | rL (u:Nat) (e:En LV)
 | wS (e:En V)
 | dup (e:En V)
 | wL (e:En LV)
 | nL (e:En LV)
 | dL (u:Nat)
def okT:List Et→Fr→Lo→Prop
 | [],_,_=>True
 | .rS t e :: τ,f,l=>lkE f t=some e∧okT τ f l
 | .rL u e :: τ,f,l=>lkE l u=some e∧okT τ f l
 | .wS e :: τ,f,l=>okT τ (e :: f) l
 | .dup e :: τ,f,l=>lkE f e.k=some e∧okT τ (e :: f) l
 | .wL e :: τ,f,l=>okT τ f (e :: era l e.k)
 | .nL e :: τ,f,l=>lkE l e.k=none∧okT τ f (e :: l)
 | .dL u :: τ,f,l=>okT τ f (era l u)
def Zjc:List Et→Fr→Fr
 | [],f=>f
 | .wS e :: τ,f=>Zjc τ (e :: f)
 | .dup e :: τ,f=>Zjc τ (e :: f)
 | _ :: τ,f=>Zjc τ f
def Zoc:List Et→Lo→Lo
 | [],l=>l
 | .wL e :: τ,l=>Zoc τ (e :: era l e.k)
 | .nL e :: τ,l=>Zoc τ (e :: l)
 | .dL u :: τ,l=>Zoc τ (era l u)
 | _ :: τ,l=>Zoc τ l
def rdS:List Et→Nat→Prop
 | [],_=>False
 | .rS t _ :: τ,k=>k=t∨rdS τ k
 | .dup e :: τ,k=>k=e.k∨rdS τ k
 | _ :: τ,k=>rdS τ k
def rdL:List Et→Nat→Prop
 | [],_=>False
 | .rL u _ :: τ,k=>k=u∨rdL τ k
 | .nL e :: τ,k=>k=e.k∨rdL τ k
 | _ :: τ,k=>rdL τ k
def Z9a:List Et→Nat→Option (Option (En V))
 | [],_=>none
 | .wS e :: τ,t=>match Z9a τ t with
  | some z=>some z
  | none=>if e.k=t then some (some e) else none
 | _ :: τ,t=>Z9a τ t
def Zla:List Et→Nat→Option (Option (En LV))
 | [],_=>none
 | .wL e :: τ,t=>match Zla τ t with
  | some z=>some z
  | none=>if e.k=t then some (some e) else none
 | .nL e :: τ,t=>match Zla τ t with
  | some z=>some z
  | none=>if e.k=t then some (some e) else none
 | .dL u :: τ,t=>match Zla τ t with
  | some z=>some z
  | none=>if u=t then some none else none
 | _ :: τ,t=>Zla τ t
def fpT:List Et→Fp→Fp
 | [],p=>p
 | .rS t _ :: τ,p=>fpT τ ⟨bit p.rs t,p.ws,p.rl,p.wl⟩
 | .rL u _ :: τ,p=>fpT τ ⟨p.rs,p.ws,bit p.rl u,p.wl⟩
 | .wS e :: τ,p=>fpT τ ⟨p.rs,bit p.ws e.k,p.rl,p.wl⟩
 | .dup e :: τ,p=>fpT τ ⟨bit p.rs e.k,p.ws,p.rl,p.wl⟩
 | .wL e :: τ,p=>fpT τ ⟨p.rs,p.ws,p.rl,bit p.wl e.k⟩
 | .nL e :: τ,p=>fpT τ ⟨p.rs,p.ws,bit p.rl e.k,bit p.wl e.k⟩
 | .dL u :: τ,p=>fpT τ ⟨p.rs,p.ws,p.rl,bit p.wl u⟩
def Tr {ρ:Type} (n:Nat):Ev ρ→List Et→ρ→Prop
 | .fail,_,_=>False
 | .done r,τ,x=>τ=[]∧x=r
 | .rdS t k,τ,x=>∃ e τ',τ = .rS t e :: τ'∧Tr n (k e.x) τ' x
 | .rdL u k,τ,x=>∃ e τ',τ = .rL u e :: τ'∧Tr n (k e.st e.x) τ' x
 | .wrS t v e,τ,x=>∃ τ',τ = .wS ⟨t,n,v⟩ :: τ'∧Tr n e τ' x
 | .wrL u L e,τ,x=>∃ τ',τ = .wL ⟨u,n,L⟩ :: τ'∧Tr n e τ' x
 | .new u L e,τ,x=>∃ τ',τ = .nL ⟨u,n,L⟩ :: τ'∧Tr n e τ' x
 | .del u e,τ,x=>∃ τ',τ = .dL u :: τ'∧Tr n e τ' x
 | .bind y k,τ,x=>∃ z,y=some z∧Tr n (k z) τ x
 | .test t e1 e2,τ,x=>∃ s b τ',τ = .dup ⟨t,s,.data .bool b⟩ :: τ'∧(b=true→Tr n e1 τ' x)∧(b=false→Tr n e2 τ' x)
 | .alt b e1 e2,τ,x=>(b=true→Tr n e1 τ x)∧(b=false→Tr n e2 τ x)
theorem Znw {ρ α:Type} {n:Nat} {r:α}:∀ {e:Ev ρ} {f:Fr} {l:Lo} {p:Fp} {K:ρ→Fr→Lo→Fp→Option α},Zxb n e f l p K=some r→∃ x τ,Tr n e τ x∧okT τ f l∧K x (Zjc τ f) (Zoc τ l) (fpT τ p)=some r:=by
 intro e
 induction e with
 | fail=>intro f l p K h;cases h
 | done x=>intro f l p K h;exact⟨x,[],⟨rfl,rfl⟩,trivial,h⟩
 | rdS t k ih =>
  intro f l p K h;simp only[Zxb]at h;split at h
  ·rename_i e he;obtain⟨x,τ,h1,h2,h3⟩:=ih _ h;exact⟨x,.rS t e :: τ,⟨e,τ,rfl,h1⟩,⟨he,h2⟩,h3⟩
  ·cases h
 | rdL u k ih =>
  intro f l p K h;simp only[Zxb]at h;split at h
  ·rename_i e he;obtain⟨x,τ,h1,h2,h3⟩:=ih _ _ h;exact⟨x,.rL u e :: τ,⟨e,τ,rfl,h1⟩,⟨he,h2⟩,h3⟩
  ·cases h
 | wrS t v e ih=>intro f l p K h;obtain⟨x,τ,h1,h2,h3⟩:=ih h;exact⟨x,.wS ⟨t,n,v⟩ :: τ,⟨τ,rfl,h1⟩,h2,h3⟩
 | wrL u L e ih=>intro f l p K h;obtain⟨x,τ,h1,h2,h3⟩:=ih h;exact⟨x,.wL ⟨u,n,L⟩ :: τ,⟨τ,rfl,h1⟩,h2,h3⟩
 | new u L e ih =>
  intro f l p K h;simp only[Zxb]at h;split at h
  ·rename_i he;obtain⟨x,τ,h1,h2,h3⟩:=ih h;exact⟨x,.nL ⟨u,n,L⟩ :: τ,⟨τ,rfl,h1⟩,⟨he,h2⟩,h3⟩
  ·cases h
 | del u e ih=>intro f l p K h;obtain⟨x,τ,h1,h2,h3⟩:=ih h;exact⟨x,.dL u :: τ,⟨τ,rfl,h1⟩,h2,h3⟩
 | bind y k ih =>
  intro f l p K h;obtain⟨z,hz,h⟩:=Zea h;obtain⟨x,τ,h1,h2,h3⟩:=ih _ h;exact⟨x,τ,⟨z,hz,h1⟩,h2,h3⟩
 | test t e1 e2 i1 i2 =>
  intro f l p K h;simp only[Zxb]at h;split at h
  ·rename_i k s b hx;obtain⟨_,hk⟩:=Zq hx;have hk:k=t:=hk;subst hk
   cases b with
   | true =>
    obtain⟨x,τ,h1,h2,h3⟩:=i1 h;exact⟨x,.dup ⟨k,s,.data .bool true⟩ :: τ,⟨s,true,τ,rfl,λ_=>h1,λe=>by cases e⟩,⟨hx,h2⟩,h3⟩
   | false =>
    obtain⟨x,τ,h1,h2,h3⟩:=i2 h;exact⟨x,.dup ⟨k,s,.data .bool false⟩ :: τ,⟨s,false,τ,rfl,(λe=>by cases e),λ_=>h1⟩,⟨hx,h2⟩,h3⟩
  ·cases h
 | alt b e1 e2 i1 i2 =>
  intro f l p K h
  cases b with
  | true =>
   obtain⟨x,τ,h1,h2,h3⟩:=i1 h;exact⟨x,τ,⟨λ_=>h1,λe=>by cases e⟩,h2,h3⟩
  | false =>
   obtain⟨x,τ,h1,h2,h3⟩:=i2 h;exact⟨x,τ,⟨(λe=>by cases e),λ_=>h1⟩,h2,h3⟩
theorem ZAl {ρ:Type} {n:Nat}:∀ {e:Ev ρ} {τ:List Et} {x:ρ} {f:Fr} {l:Lo},Tr n e τ x→okT τ f l→Zj n e f l λx' f' l'=>x'=x∧f'=Zjc τ f∧l'=Zoc τ l:=by
 intro e
 induction e with
 | fail=>intro τ x f l h k;exact h
 | done r=>intro τ x f l h k;obtain⟨rfl,rfl⟩:=h;exact⟨rfl,rfl,rfl⟩
 | rdS t q ih=>intro τ x f l h k;obtain⟨e,τ',rfl,h⟩:=h;exact⟨e,k.1,ih _ (τ:=τ') h k.2⟩
 | rdL u q ih=>intro τ x f l h k;obtain⟨e,τ',rfl,h⟩:=h;exact⟨e,k.1,ih _ _ (τ:=τ') h k.2⟩
 | wrS t v e ih=>intro τ x f l h k;obtain⟨τ',rfl,h⟩:=h;exact ih (τ:=τ') h k
 | wrL u L e ih=>intro τ x f l h k;obtain⟨τ',rfl,h⟩:=h;exact ih (τ:=τ') h k
 | new u L e ih=>intro τ x f l h k;obtain⟨τ',rfl,h⟩:=h;exact⟨k.1,ih (τ:=τ') h k.2⟩
 | del u e ih=>intro τ x f l h k;obtain⟨τ',rfl,h⟩:=h;exact ih (τ:=τ') h k
 | bind y q ih=>intro τ x f l h k;obtain⟨z,hz,h⟩:=h;exact⟨z,hz,ih _ h k⟩
 | test t e1 e2 i1 i2=>intro τ x f l h k;obtain⟨s,b,τ',rfl,h1,h2⟩:=h;exact⟨s,b,k.1,λe=>i1 (τ:=τ') (h1 e) k.2,λe=>i2 (τ:=τ') (h2 e) k.2⟩
 | alt b e1 e2 i1 i2=>intro τ x f l h k;exact⟨λe=>i1 (h.1 e) k,λe=>i2 (h.2 e) k⟩
theorem Z0c:∀ {τ:List Et} {f:Fr} {l:Lo} {t:Nat},okT τ f l→lkE (Zjc τ f) t=(Z9a τ t).getD (lkE f t)
 | [],_,_,_,_=>rfl
 | .rS _ _ :: τ,_,_,_,h=>Z0c (τ:=τ) h.2
 | .rL _ _ :: τ,_,_,_,h=>Z0c (τ:=τ) h.2
 | .wL _ :: τ,_,_,_,h=>Z0c (τ:=τ) h
 | .nL _ :: τ,_,_,_,h=>Z0c (τ:=τ) h.2
 | .dL _ :: τ,_,_,_,h=>Z0c (τ:=τ) h
 | .wS e :: τ,f,l,t,h=>by
  have:=Z0c (t:=t) (show okT τ (e :: f) l from h)
  simp only[Zjc,Z9a]
  rw[this,ZI]
  cases Z9a τ t with
  | some z=>rfl
  | none=>by_cases h:e.k=t <;> simp[h]
 | .dup e :: τ,f,l,t,h=>by
  have:=Z0c (t:=t) (show okT τ (e :: f) l from h.2)
  simp only[Zjc,Z9a]
  rw[this,ZI]
  congr 1
  by_cases hk:e.k=t
  ·rw[iP hk,← hk,h.1]
  ·rw[iN hk]
theorem ZDc:∀ {τ:List Et} {f:Fr} {l:Lo},(l.map En.k).Nodup→okT τ f l→((Zoc τ l).map En.k).Nodup∧∀ t,lkE (Zoc τ l) t=(Zla τ t).getD (lkE l t)
 | [],_,_,hn,_=>⟨hn,λ_=>rfl⟩
 | .rS _ _ :: τ,_,_,hn,h=>ZDc (τ:=τ) hn h.2
 | .rL _ _ :: τ,_,_,hn,h=>ZDc (τ:=τ) hn h.2
 | .wS _ :: τ,_,_,hn,h=>ZDc (τ:=τ) hn h
 | .dup _ :: τ,_,_,hn,h=>ZDc (τ:=τ) hn h.2
 | .wL e :: τ,f,l,hn,h=>by
  obtain⟨n1,n2⟩:=ZRb (t:=e.k) hn
  obtain⟨k1,k2⟩:=ZDc (τ:=τ) (l:=e :: era l e.k) (List.nodup_cons.2 ⟨n2,n1⟩) h
  refine⟨k1,λt=>(k2 t).trans ?_⟩
  simp only[Zla]
  rw[ZI,Z3b hn]
  cases Zla τ t with
  | some z=>rfl
  | none=>by_cases hk:e.k=t <;> simp[hk]
 | .nL e :: τ,f,l,hn,h=>by
  obtain⟨k1,k2⟩:=ZDc (τ:=τ) (l:=e :: l) (List.nodup_cons.2 ⟨Zeh h.1,hn⟩) h.2
  refine⟨k1,λt=>(k2 t).trans ?_⟩
  simp only[Zla]
  rw[ZI]
  cases Zla τ t with
  | some z=>rfl
  | none=>by_cases hk:e.k=t <;> simp[hk]
 | .dL u :: τ,f,l,hn,h=>by
  obtain⟨k1,k2⟩:=ZDc (τ:=τ) (l:=era l u) (ZRb hn).1 h
  refine⟨k1,λt=>(k2 t).trans ?_⟩
  simp only[Zla]
  rw[Z3b hn]
  cases Zla τ t with
  | some z=>rfl
  | none=>by_cases hk:u=t <;> simp[hk]
theorem Z5d:∀ {τ:List Et} {f f2:Fr} {l l2:Lo},(l.map En.k).Nodup→(l2.map En.k).Nodup→okT τ f l→(∀ t,rdS τ t→lkE f t=lkE f2 t)→(∀ u,rdL τ u→lkE l u=lkE l2 u)→okT τ f2 l2
 | [],_,_,_,_,_,_,_,_,_=>trivial
 | .rS t e :: τ,_,_,_,_,n1,n2,h,k1,k2=>⟨(k1 t (.inl rfl)).symm.trans h.1,Z5d n1 n2 h.2 (λt ht=>k1 t (.inr ht)) k2⟩
 | .rL u e :: τ,_,_,_,_,n1,n2,h,k1,k2=>⟨(k2 u (.inl rfl)).symm.trans h.1,Z5d n1 n2 h.2 k1 λu hu=>k2 u (.inr hu)⟩
 | .wS e :: τ,f,f2,_,_,n1,n2,h,k1,k2=>Z5d (τ:=τ) n1 n2 h (λt ht=>by
   rw[ZI,ZI]
   by_cases hk:e.k=t
   ·rw[iP hk,iP hk]
   ·rw[iN hk,iN hk];exact k1 t ht) k2
 | .dup e :: τ,f,f2,_,_,n1,n2,h,k1,k2=>⟨(k1 e.k (.inl rfl)).symm.trans h.1,Z5d (τ:=τ) n1 n2 h.2 (λt ht=>by
   rw[ZI,ZI]
   by_cases hk:e.k=t
   ·rw[iP hk,iP hk]
   ·rw[iN hk,iN hk];exact k1 t (.inr ht)) k2⟩
 | .wL e :: τ,_,_,l,l2,n1,n2,h,k1,k2=>by
  obtain⟨a1,a2⟩:=ZRb (t:=e.k) n1
  obtain⟨b1,b2⟩:=ZRb (t:=e.k) n2
  refine Z5d (τ:=τ) (l:=e :: era l e.k) (l2:=e :: era l2 e.k) (List.nodup_cons.2 ⟨a2,a1⟩) (List.nodup_cons.2 ⟨b2,b1⟩) h k1 λu hu=>?_
  rw[ZI,ZI]
  by_cases hk:e.k=u
  ·rw[iP hk,iP hk]
  ·rw[iN hk,iN hk,Z3b n1,Z3b n2,iN hk,iN hk];exact k2 u hu
 | .nL e :: τ,_,_,l,l2,n1,n2,h,k1,k2=>by
  have he:lkE l2 e.k=none:=(k2 e.k (.inl rfl)).symm.trans h.1
  refine⟨he,Z5d (τ:=τ) (l:=e :: l) (l2:=e :: l2) (List.nodup_cons.2 ⟨Zeh h.1,n1⟩) (List.nodup_cons.2 ⟨Zeh he,n2⟩) h.2 k1 λu hu=>?_⟩
  rw[ZI,ZI]
  by_cases hk:e.k=u
  ·rw[iP hk,iP hk]
  ·rw[iN hk,iN hk];exact k2 u (.inr hu)
 | .dL u :: τ,_,_,l,l2,n1,n2,h,k1,k2=>by
  refine Z5d (τ:=τ) (ZRb n1).1 (ZRb n2).1 h k1 λk hk=>?_
  rw[Z3b n1,Z3b n2]
  by_cases e:u=k
  ·rw[iP e,iP e]
  ·rw[iN e,iN e];exact k2 k hk
theorem ZGe {m k:Nat}:(bit m k).testBit k=true:=by
 show (m ||| 2^k).testBit k=true;rw[Nat.testBit_or,Nat.testBit_two_pow_self,Bool.or_true]
theorem ZIe {m k t:Nat} (h:m.testBit t=true):(bit m k).testBit t=true:=by
 show (m ||| 2^k).testBit t=true;rw[Nat.testBit_or,h,Bool.true_or]
structure Fp.le (p q:Fp):Prop where
 rs:∀ t,p.rs.testBit t=true→q.rs.testBit t=true
 ws:∀ t,p.ws.testBit t=true→q.ws.testBit t=true
 rl:∀ t,p.rl.testBit t=true→q.rl.testBit t=true
 wl:∀ t,p.wl.testBit t=true→q.wl.testBit t=true
theorem Fp.le.trans {p q r:Fp} (h:p.le q) (k:q.le r):p.le r:=⟨λt e=>k.rs t (h.rs t e),λt e=>k.ws t (h.ws t e),λt e=>k.rl t (h.rl t e),λt e=>k.wl t (h.wl t e)⟩
theorem ZWb:∀ {τ:List Et} {p:Fp},p.le (fpT τ p)
 | [],_=>⟨λ_ h=>h,λ_ h=>h,λ_ h=>h,λ_ h=>h⟩
 | .rS t _ :: τ,p=>Fp.le.trans (q:=⟨bit p.rs t,p.ws,p.rl,p.wl⟩) ⟨λ_ h=>ZIe h,λ_ h=>h,λ_ h=>h,λ_ h=>h⟩ (ZWb (τ:=τ))
 | .rL u _ :: τ,p=>Fp.le.trans (q:=⟨p.rs,p.ws,bit p.rl u,p.wl⟩) ⟨λ_ h=>h,λ_ h=>h,λ_ h=>ZIe h,λ_ h=>h⟩ (ZWb (τ:=τ))
 | .wS e :: τ,p=>Fp.le.trans (q:=⟨p.rs,bit p.ws e.k,p.rl,p.wl⟩) ⟨λ_ h=>h,λ_ h=>ZIe h,λ_ h=>h,λ_ h=>h⟩ (ZWb (τ:=τ))
 | .dup e :: τ,p=>Fp.le.trans (q:=⟨bit p.rs e.k,p.ws,p.rl,p.wl⟩) ⟨λ_ h=>ZIe h,λ_ h=>h,λ_ h=>h,λ_ h=>h⟩ (ZWb (τ:=τ))
 | .wL e :: τ,p=>Fp.le.trans (q:=⟨p.rs,p.ws,p.rl,bit p.wl e.k⟩) ⟨λ_ h=>h,λ_ h=>h,λ_ h=>h,λ_ h=>ZIe h⟩ (ZWb (τ:=τ))
 | .nL e :: τ,p=>Fp.le.trans (q:=⟨p.rs,p.ws,bit p.rl e.k,bit p.wl e.k⟩) ⟨λ_ h=>h,λ_ h=>h,λ_ h=>ZIe h,λ_ h=>ZIe h⟩ (ZWb (τ:=τ))
 | .dL u :: τ,p=>Fp.le.trans (q:=⟨p.rs,p.ws,p.rl,bit p.wl u⟩) ⟨λ_ h=>h,λ_ h=>h,λ_ h=>h,λ_ h=>ZIe h⟩ (ZWb (τ:=τ))
theorem ZVd:∀ {τ:List Et} {p:Fp} {t:Nat},rdS τ t→(fpT τ p).rs.testBit t=true
 | .rS t _ :: τ,_,_,.inl e=>by subst e;exact (ZWb (τ:=τ)).rs _ ZGe
 | .dup _ :: τ,_,_,.inl e=>by subst e;exact (ZWb (τ:=τ)).rs _ ZGe
 | .rS t _ :: τ,_,_,.inr h=>ZVd (τ:=τ) h
 | .dup _ :: τ,_,_,.inr h=>ZVd (τ:=τ) h
 | .rL _ _ :: τ,_,_,h=>ZVd (τ:=τ) h
 | .wS _ :: τ,_,_,h=>ZVd (τ:=τ) h
 | .wL _ :: τ,_,_,h=>ZVd (τ:=τ) h
 | .nL _ :: τ,_,_,h=>ZVd (τ:=τ) h
 | .dL _ :: τ,_,_,h=>ZVd (τ:=τ) h
theorem Zwe:∀ {τ:List Et} {p:Fp} {t:Nat},rdL τ t→(fpT τ p).rl.testBit t=true
 | .rL t _ :: τ,_,_,.inl e=>by subst e;exact (ZWb (τ:=τ)).rl _ ZGe
 | .nL _ :: τ,_,_,.inl e=>by subst e;exact (ZWb (τ:=τ)).rl _ ZGe
 | .rL t _ :: τ,_,_,.inr h=>Zwe (τ:=τ) h
 | .nL _ :: τ,_,_,.inr h=>Zwe (τ:=τ) h
 | .rS _ _ :: τ,_,_,h=>Zwe (τ:=τ) h
 | .wS _ :: τ,_,_,h=>Zwe (τ:=τ) h
 | .dup _ :: τ,_,_,h=>Zwe (τ:=τ) h
 | .wL _ :: τ,_,_,h=>Zwe (τ:=τ) h
 | .dL _ :: τ,_,_,h=>Zwe (τ:=τ) h
theorem ZWc:∀ {τ:List Et} {p:Fp} {t:Nat},Z9a τ t≠none→(fpT τ p).ws.testBit t=true
 | [],_,_,h=>absurd rfl h
 | .wS e :: τ,_,t,h=>by
  by_cases hk:e.k=t
  ·subst hk;exact (ZWb (τ:=τ)).ws _ ZGe
  ·refine ZWc (τ:=τ) λh0=>h ?_
   simp only[Z9a,h0,iN hk]
 | .rS _ _ :: τ,_,_,h=>ZWc (τ:=τ) h
 | .rL _ _ :: τ,_,_,h=>ZWc (τ:=τ) h
 | .dup _ :: τ,_,_,h=>ZWc (τ:=τ) h
 | .wL _ :: τ,_,_,h=>ZWc (τ:=τ) h
 | .nL _ :: τ,_,_,h=>ZWc (τ:=τ) h
 | .dL _ :: τ,_,_,h=>ZWc (τ:=τ) h
theorem ZTc:∀ {τ:List Et} {p:Fp} {t:Nat},Zla τ t≠none→(fpT τ p).wl.testBit t=true
 | [],_,_,h=>absurd rfl h
 | .wL e :: τ,_,t,h=>by
  by_cases hk:e.k=t
  ·subst hk;exact (ZWb (τ:=τ)).wl _ ZGe
  ·refine ZTc (τ:=τ) λh0=>h ?_
   simp only[Zla,h0,iN hk]
 | .nL e :: τ,_,t,h=>by
  by_cases hk:e.k=t
  ·subst hk;exact (ZWb (τ:=τ)).wl _ ZGe
  ·refine ZTc (τ:=τ) λh0=>h ?_
   simp only[Zla,h0,iN hk]
 | .dL u :: τ,_,t,h=>by
  by_cases hk:u=t
  ·subst hk;exact (ZWb (τ:=τ)).wl _ ZGe
  ·refine ZTc (τ:=τ) λh0=>h ?_
   simp only[Zla,h0,iN hk]
 | .rS _ _ :: τ,_,_,h=>ZTc (τ:=τ) h
 | .rL _ _ :: τ,_,_,h=>ZTc (τ:=τ) h
 | .wS _ :: τ,_,_,h=>ZTc (τ:=τ) h
 | .dup _ :: τ,_,_,h=>ZTc (τ:=τ) h
theorem Zmh {a b t:Nat} (h:Nat.land a b=0) (ha:a.testBit t=true) (hb:b.testBit t=true):False:=by
 have:(a &&& b).testBit t=true:=by rw[Nat.testBit_and,ha,hb];rfl
 rw[show (a &&& b)=0 from h]at this;simp at this
theorem Z1m {a b:Nat} (h:Nat.lor a b=0):a=0∧b=0:=by
 have h:a ||| b=0:=h;exact Nat.or_eq_zero_iff.1 h
theorem ZWi {a b t:Nat} (h:a.testBit t=true∨b.testBit t=true):(Nat.lor a b).testBit t=true:=by
 show (a ||| b).testBit t=true;rw[Nat.testBit_or];rcases h with h | h <;> simp[h]
structure Apart (τ σ:List Et):Prop where
 s1:∀ t,Z9a τ t≠none→rdS σ t→False
 s2:∀ t,Z9a τ t≠none→Z9a σ t≠none→False
 s3:∀ t,rdS τ t→Z9a σ t≠none→False
 l1:∀ t,Zla τ t≠none→rdL σ t→False
 l2:∀ t,Zla τ t≠none→Zla σ t≠none→False
 l3:∀ t,rdL τ t→Zla σ t≠none→False
theorem ZYp {τ σ:List Et} {p q:Fp} (h:(fpT τ p).free (fpT σ q)=true):Apart τ σ:=by
 have h:=eQ h;obtain⟨h1,h2⟩:=Z1m h;obtain⟨h3,h4⟩:=Z1m h1;obtain⟨h5,h6⟩:=Z1m h2;exact⟨λt a b=>Zmh h3 (ZWc a) (ZWi (.inl (ZVd b))),λt a b=>Zmh h3 (ZWc a) (ZWi (.inr (ZWc b))),λt a b=>Zmh h4 (ZVd a) (ZWc b),
  λt a b=>Zmh h5 (ZTc a) (ZWi (.inl (Zwe b))),λt a b=>Zmh h5 (ZTc a) (ZWi (.inr (ZTc b))),λt a b=>Zmh h6 (Zwe a) (ZTc b)⟩
def Z7e:List (List Et)→Fr→Fr
 | [],f=>f
 | τ :: r,f=>Z7e r (Zjc τ f)
def Z4d:List (List Et)→Lo→Lo
 | [],l=>l
 | τ :: r,l=>Z4d r (Zoc τ l)
def okTs:List (List Et)→Fr→Lo→Prop
 | [],_,_=>True
 | τ :: r,f,l=>okT τ f l∧okTs r (Zjc τ f) (Zoc τ l)
def Zqa {β:Type} (eff:List Et→Nat→Option β) (sel:Nat→Bool):List (List Et)→Nat→β→Nat→β
 | [],_,acc,_=>acc
 | τ :: r,i,acc,t=>Zqa eff sel r (i+1) (if sel i then (eff τ t).getD acc else acc) t
section
variable {β:Type} {eff:List Et→Nat→Option β}
theorem Zte {sel sel':Nat→Bool} {t:Nat}:∀ {Ts:List (List Et)} {i:Nat} {acc:β},(∀ j τ,Ts[j]? = some τ→eff τ t≠none→sel (i+j)=sel' (i+j))→Zqa eff sel Ts i acc t=Zqa eff sel' Ts i acc t
 | [],_,_,_=>rfl
 | τ :: r,i,acc,h=>by
  have h1:(if sel i then (eff τ t).getD acc else acc)=(if sel' i then (eff τ t).getD acc else acc):=by
   cases he:eff τ t with
   | none=>simp
   | some z =>
    have:=h 0 τ rfl (by rw[he];exact λe=>by cases e);rw[Nat.add_zero]at this;rw[this]
  simp only[Zqa];rw[h1];exact Zte λj σ hj hs=>by have:=h (j+1) σ hj hs;rwa [← Nat.add_assoc,Nat.add_right_comm]at this
theorem ZTe {sel:Nat→Bool} {t:Nat}:∀ {Ts:List (List Et)} {i:Nat} {acc:β},(∀ j τ,Ts[j]? = some τ→sel (i+j)=true→eff τ t=none)→Zqa eff sel Ts i acc t=acc
 | [],_,_,_=>rfl
 | τ :: r,i,acc,h=>by
  simp only[Zqa]
  rw[ZTe λj σ hj hs=>h (j+1) σ hj (by rwa [← Nat.add_assoc,Nat.add_right_comm])]
  by_cases hs:sel i=true
  ·rw[iP hs,h 0 τ rfl hs];rfl
  ·rw[iN hs]
theorem Zwn {sel:Nat→Bool} {t:Nat}:∀ {Ts:List (List Et)} {i k:Nat} {acc:β} {τ:List Et} {z:β},Ts[k]? = some τ→sel (i+k)=true→eff τ t=some z→(∀ j σ,k<j→Ts[j]? = some σ→sel (i+j)=true→eff σ t=none)→Zqa eff sel Ts i acc t=z
 | [],_,_,_,_,_,h,_,_,_=>by cases h
 | σ :: r,i,0,acc,τ,z,h,hs,he,hj=>by
  cases h
  simp only[Zqa]
  rw[iP (show sel i=true from hs),he]
  exact ZTe λj σ hσ hsj=>hj (j+1) σ (by omega) hσ (by rwa [← Nat.add_assoc,Nat.add_right_comm])
 | σ :: r,i,k+1,acc,τ,z,h,hs,he,hj=>by
  simp only[Zqa]
  exact Zwn (k:=k) (τ:=τ) h (by rwa [Nat.add_right_comm]) he λj σ' hkj hσ hsj=>hj (j+1) σ' (by omega) hσ (by rwa [← Nat.add_assoc,Nat.add_right_comm])
end
theorem Z4m:∀ {Ts:List (List Et)} {f:Fr} {l:Lo} {b i:Nat} {τ:List Et},okTs Ts f l→(l.map En.k).Nodup→Ts[i]? = some τ→∃ fi li,okT τ fi li∧(li.map En.k).Nodup∧(∀ t,lkE fi t=Zqa Z9a (λj=>decide (j<b+i)) Ts b (lkE f t) t)∧∀ t,lkE li t=Zqa Zla (λj=>decide (j<b+i)) Ts b (lkE l t) t
 | [],_,_,_,_,_,_,_,h=>by cases h
 | σ :: r,f,l,b,0,τ,h,hn,ht=>by
  cases ht
  refine⟨f,l,h.1,hn,λt=>(ZTe λj _ _ hs=>?_).symm,λt=>(ZTe λj _ _ hs=>?_).symm⟩ <;> (have:=of_decide_eq_true hs;omega)
 | σ :: r,f,l,b,i+1,τ,h,hn,ht=>by
  obtain⟨n1,hl⟩:=ZDc hn h.1
  obtain⟨fi,li,k1,k2,k3,k4⟩:=Z4m (b:=b+1) (i:=i) h.2 n1 ht
  have e:(λj=>decide (j<b+1+i))=λj=>decide (j<b+(i+1)):=by funext j;congr 1;rw[Nat.add_assoc,Nat.add_comm 1 i]
  have hb:decide (b<b+(i+1))=true:=by simp
  refine⟨fi,li,k1,k2,λt=>?_,λt=>?_⟩
  ·rw[k3 t,e,Z0c h.1];simp only[Zqa];rw[iP hb]
  ·rw[k4 t,e,hl t];simp only[Zqa];rw[iP hb]
theorem Z9k:∀ {Ts:List (List Et)} {f:Fr} {l:Lo} {b:Nat},okTs Ts f l→(l.map En.k).Nodup→((Z4d Ts l).map En.k).Nodup∧(∀ t,lkE (Z7e Ts f) t=Zqa Z9a (λ_=>true) Ts b (lkE f t) t)∧∀ t,lkE (Z4d Ts l) t=Zqa Zla (λ_=>true) Ts b (lkE l t) t
 | [],_,_,_,_,hn=>⟨hn,λ_=>rfl,λ_=>rfl⟩
 | τ :: r,f,l,b,h,hn=>by
  obtain⟨n1,hl⟩:=ZDc hn h.1
  obtain⟨k1,k2,k3⟩:=Z9k (b:=b+1) h.2 n1
  refine⟨k1,λt=>?_,λt=>?_⟩
  ·rw[show Z7e (τ :: r) f=Z7e r (Zjc τ f) from rfl,k2 t,Z0c h.1];rfl
  ·rw[show Z4d (τ :: r) l=Z4d r (Zoc τ l) from rfl,k3 t,hl t];rfl
theorem ZTm {α:Type} {C:Cf} {ops:List Oper} {r:α}:∀ {os:List Oper} {f:Fr} {l:Lo} {n:Nat} {K:Fr→Lo→Nat→List Fp→Option α},Z0f C ops os f l n K=some r →
  ∃ Ts:List (List Et),Ts.length=os.length∧okTs Ts f l∧(∀ i o τ,os[i]? = some o→Ts[i]? = some τ→Tr (n+i) (gop C ops (n+i) o) τ ())∧K (Z7e Ts f) (Z4d Ts l) (n+os.length) (Ts.map λτ=>fpT τ Fp.no)=some r
 | [],f,l,n,K,h=>⟨[],rfl,trivial,λ_ _ _ h=>by simp at h,h⟩
 | o :: os,f,l,n,K,h=>by
  simp only[Z0f]at h
  obtain⟨⟨⟩,τ,h1,h2,h3⟩:=Znw h
  obtain⟨Ts,k1,k2,k3,k4⟩:=ZTm h3
  refine⟨τ :: Ts,by simp[k1],⟨h2,k2⟩,λi o' τ' ho ht=>?_,?_⟩
  ·cases i with
   | zero=>cases ho;cases ht;exact h1
   | succ i=>have:=k3 i o' τ' ho ht;rwa [Nat.add_right_comm]at this
  ·rw[List.length_cons,← Nat.add_assoc,Nat.add_right_comm];exact k4
theorem ZIu {ρ:Type} {n:Nat} {A:Prop}:∀ {e:Ev ρ} {f:Fr} {l:Lo} {K:ρ→Fr→Lo→Prop},Zj n e f l K→(∀ x f' l',K x f' l'→A)→A:=by
 intro e
 induction e with
 | fail=>intro f l K h k;exact h.elim
 | done x=>intro f l K h k;exact k _ _ _ h
 | rdS t q ih=>intro f l K h k;obtain⟨x,hx,h⟩:=h;exact ih _ h k
 | rdL u q ih=>intro f l K h k;obtain⟨x,hx,h⟩:=h;exact ih _ _ h k
 | wrS t x e ih=>intro f l K h k;exact ih h k
 | wrL u L e ih=>intro f l K h k;exact ih h k
 | new u L e ih=>intro f l K h k;exact ih h.2 k
 | del u e ih=>intro f l K h k;exact ih h k
 | bind x q ih=>intro f l K h k;obtain⟨x,hx,h⟩:=h;exact ih _ h k
 | test t e1 e2 i1 i2 =>
  intro f l K h k;obtain⟨s,b,h1,h2,h3⟩:=h
  cases b with
  | true=>exact i1 (h2 rfl) k
  | false=>exact i2 (h3 rfl) k
 | alt b e1 e2 i1 i2 =>
  intro f l K h k
  cases b with
  | true=>exact i1 (h.1 rfl) k
  | false=>exact i2 (h.2 rfl) k
theorem Zbm {C:Cf} {ops:List Oper} {m:Nat}:∀ {os:List Oper} {Ts:List (List Et)} {f:Fr} {l:Lo} {n:Nat},m≤n→Ts.length=os.length→okTs Ts f l→(l.map En.k).Nodup→(∀ i o τ,os[i]? = some o→Ts[i]? = some τ→Tr (n+i) (gop C ops (n+i) o) τ ())→Old m f l (Z7e Ts f) (Z4d Ts l)
 | _,[],_,_,_,_,_,_,_,_=>Old.refl
 | [],_ :: _,_,_,_,_,h,_,_,_=>by cases h
 | o :: os,τ :: Ts,f,l,n,hm,hl,h,hn,ht=>by
  have h1:=Zni hm Old.refl hn (ZAl (ht 0 o τ rfl rfl) h.1)
  have h2:Old m f l (Zjc τ f) (Zoc τ l):=ZIu h1 λx f' l' ⟨⟨_,e1,e2⟩,h⟩=>by subst e1;subst e2;exact h
  exact h2.trans (Zbm (n:=n+1) (by omega) (by simpa using hl) h.2 (ZDc hn h.1).1 λi o' τ' ho hτ=>by
   have:=ht (i+1) o' τ' ho hτ
   rwa [← Nat.add_assoc,Nat.add_right_comm]at this) (Nat.le_refl m)
theorem Ztq {m:Nat} {q:Fp}:∀ {bef:List Fp} {i0:Nat},chk1 m q bef i0=true→∀ i p,bef[i]? = some p→m.testBit (i0+i)=true∨p.free q=true
 | [],_,_,_,_,h=>by cases h
 | p0 :: r,i0,h,i,p,hp=>by
  simp only[chk1]at h
  cases i with
  | zero =>
   cases hp
   rw[Nat.add_zero]
   split at h
   ·rename_i e;exact .inl e
   ·split at h
    ·rename_i e;exact .inr e
    ·cases h
  | succ i =>
   have h':chk1 m q r (i0+1)=true:=by
    split at h
    ·exact h
    ·split at h
     ·exact h
     ·cases h
   have:=Ztq h' i p hp
   rwa [Nat.add_right_comm]at this
theorem ZTn:∀ {qs:List Fp} {bef:List Fp} {ms:List Nat},Z1d bef ms qs=true→∀ j q,qs[j]? = some q→∃ m,ms[j]? = some m∧∀ i p,(bef++qs)[i]? = some p→i<bef.length+j→m.testBit i=true∨p.free q=true
 | [],_,_,_,_,_,h=>by cases h
 | q0 :: qs,bef,ms,h,j,q,hq=>by
  cases ms with
  | nil=>cases h
  | cons m0 ms =>
   simp only[Z1d]at h
   split at h
   ·rename_i h1
    cases j with
    | zero =>
     cases hq
     refine⟨m0,rfl,λi p hp hi=>?_⟩
     rw[List.getElem?_append_left (by omega)]at hp
     have:=Ztq h1 i p hp
     rwa [Nat.zero_add]at this
    | succ j =>
     obtain⟨m,h2,h3⟩:=ZTn h j q hq
     refine⟨m,h2,λi p hp hi=>h3 i p (by rw[aAq];exact hp) (by simp;omega)⟩
   ·cases h
theorem ZFk {done:List Nat} {t:Nat}:∀ {es:List Edge} {m:Nat},(ZRc done es m).testBit t=true→m.testBit t=true ∨ ∃ e ∈ es,Region.binds .any e=true∧(t=e.on∨(done.getD e.on 0).testBit t=true)
 | [],_,h=>.inl h
 | e :: r,m,h=>by
  simp only[ZRc]at h
  split at h
  ·rename_i hb
   rcases ZFk h with h | ⟨e',he,h1,h2⟩
   ·have h:((m ||| 2^e.on) ||| done.getD e.on 0).testBit t=true:=h
    rw[Nat.testBit_or,Nat.testBit_or,Nat.testBit_two_pow,Bool.or_eq_true,Bool.or_eq_true]at h
    rcases h with (h | h) | h
    ·exact .inl h
    ·exact .inr ⟨e,by simp,hb,.inl (by simpa using (of_decide_eq_true h).symm)⟩
    ·exact .inr ⟨e,by simp,hb,.inr h⟩
   ·exact .inr ⟨e',by simp[he],h1,h2⟩
  ·rcases ZFk h with h | ⟨e',he,h1,h2⟩
   ·exact .inl h
   ·exact .inr ⟨e',by simp[he],h1,h2⟩
theorem ZAr:∀ {os:List Oper} {done:List Nat} {j:Nat} {m:Nat},done[j]? = some m→(Z1a os done)[j]? = some m
 | [],_,_,_,h=>h
 | o :: os,done,j,m,h=>ZAr (os:=os) (by rw[List.getElem?_append_left (List.getElem?_eq_some_iff.1 h).1];exact h)
theorem Zog {S:Nat→Prop}:∀ {os:List Oper} {done:List Nat},(∀ j o,os[j]? = some o→S (done.length+j)→∀ e ∈ o.after,Region.binds .any e=true→S e.on)→(∀ j m,done[j]? = some m→S j→∀ i,m.testBit i=true→S i) →
  ∀ j o m,os[j]? = some o→(Z1a os done)[done.length+j]? = some m→(∀ e ∈ o.after,Region.binds .any e=true→S e.on)→∀ i,m.testBit i=true→S i
 | [],_,_,_,_,_,_,h,_,_,_,_=>by cases h
 | o0 :: os,done,hc,hd,j,o,m,ho,hm,he,i,hi=>by
  have key:(∀ e ∈ o0.after,Region.binds .any e=true→S e.on)→∀ i,(ZRc done o0.after.toList 0).testBit i=true→S i:=λhe i hi=>by
   rcases ZFk hi with h | ⟨e,h1,h2,h3⟩
   ·simp at h
   ·have hS:=he e (by simpa using h1) h2
    rcases h3 with h3 | h3
    ·subst h3;exact hS
    ·cases hg:done[e.on]? with
     | none=>rw[List.getD_eq_getElem?_getD,hg]at h3;simp at h3
     | some x=>rw[List.getD_eq_getElem?_getD,hg]at h3;exact hd _ x hg hS i h3
  simp only[Z1a]at hm
  cases j with
  | zero =>
   cases ho
   rw[Nat.add_zero]at hm
   have:(Z1a os (done++[ZRc done o0.after.toList 0]))[done.length]? = some (ZRc done o0.after.toList 0):=ZAr (by simp)
   rw[this]at hm;cases hm
   exact key he i hi
  | succ j =>
   refine Zog (os:=os) (done:=done++[ZRc done o0.after.toList 0]) (λj' o' ho' hS=>hc (j'+1) o' ho' (by rw[lA,List.length_singleton]at hS;rwa [← Nat.add_assoc,Nat.add_right_comm])) (λj' m' hm' hS=>?_) j o m ho (by rw[lA,List.length_singleton,Nat.add_right_comm];exact hm) he i hi
   rcases Nat.lt_or_ge j' done.length with h | h
   ·rw[List.getElem?_append_left h]at hm';exact hd j' m' hm' hS
   ·rw[List.getElem?_append_right h]at hm'
    cases hj:j'-done.length with
    | zero =>
     rw[hj]at hm';cases hm'
     refine key (hc 0 o0 rfl ?_)
     rwa [Nat.add_zero,show done.length=j' by omega]
    | succ k=>rw[hj]at hm';cases hm'
theorem Zyr:∀ {os:List Oper} {i0:Nat},Zve i0 os=true→∀ i o,os[i]? = some o→∀ e ∈ o.after,Region.binds .any e=true→e.on<i0+i
 | [],_,_,_,_,h,_,_,_=>by cases h
 | o0 :: os,i0,h,i,o,ho,e,he,hb=>by
  simp only[Zve]at h
  split at h
  ·rename_i h1
   cases i with
   | zero =>
    cases ho
    have:∀ {es:List Edge},Z7h i0 es=true→∀ e ∈ es,Region.binds .any e=true→e.on<i0:=by
     intro es
     induction es with
     | nil=>intro _ e h;cases h
     | cons x r ih =>
      intro h e he hb;simp only[Z7h]at h;split at h
      ·split at h
       ·rename_i hlt;rcases List.mem_cons.1 he with rfl | he
        ·exact lB hlt
        ·exact ih h e he hb
       ·cases h
      ·rename_i hx;rcases List.mem_cons.1 he with rfl | he
       ·rw[hb]at hx;cases hx
       ·exact ih h e he hb
    exact this h1 e (by simpa using he) hb
   | succ i=>have:=Zyr h i o ho e he hb;omega
  ·cases h
section
variable {P:Program} {K:Nat} {w0:Base} {v0:Zb} {σ:List (Nat×Value)} {ℓ:List Loc} {v:Zb} {a:Act} {w:World} {ops:Array Oper} {Q:Exit→Act→World→Prop} {rest:List Oper}
end
end Go.Eng
namespace Go.Eng
open Go.RowKit
section
variable {N:Nat} {G:V→Value→Prop} {w0:Base} {v0:Zb}
theorem F2_perm {R:En LV→List Loc→Prop} {l l2:Lo} (hp:l.Perm l2):∀ {E:List (List Loc)},F2 R l E→∃ E2,F2 R l2 E2∧E.flatten.Perm E2.flatten:=by
 induction hp with
 | nil=>intro E h;exact⟨E,h,List.Perm.refl _⟩
 | cons x _ ih =>
  intro E h
  cases E with
  | nil=>exact h.elim
  | cons es E =>
   obtain⟨E2,h1,h2⟩:=ih h.2;exact⟨es :: E2,⟨h.1,h1⟩,by simp only[List.flatten_cons];exact List.Perm.append_left _ h2⟩
 | swap x y l =>
  intro E h
  cases E with
  | nil=>exact h.elim
  | cons es E =>
   cases E with
   | nil=>exact h.2.elim
   | cons es2 E =>
    refine⟨es2 :: es :: E,⟨h.2.1,h.1,h.2.2⟩,?_⟩;simp only[List.flatten_cons];rw[← aAq,← aAq];exact List.Perm.append_right _ List.perm_append_comm
 | trans _ _ i1 i2 =>
  intro E h;obtain⟨E2,h1,h2⟩:=i1 h;obtain⟨E3,h3,h4⟩:=i2 h1;exact⟨E3,h3,h2.trans h4⟩
theorem ZEc {l:Lo} (hn:(l.map En.k).Nodup) {e:En LV} (h:e ∈ l):lkE l e.k=some e:=by
 induction l with
 | nil=>cases h
 | cons p r ih =>
  simp only[List.map_cons,List.nodup_cons]at hn;rw[ZI];rcases List.mem_cons.1 h with rfl | h
  ·rw[iP rfl]
  ·rw[iN λe2=>hn.1 (List.mem_map.2 ⟨e,h,Eq.symm e2⟩)];exact ih hn.2 h
theorem Z7r {l:Lo} (hn:(l.map En.k).Nodup):l.Nodup:=by
 induction l with
 | nil=>exact List.nodup_nil
 | cons p r ih =>
  simp only[List.map_cons,List.nodup_cons]at hn;exact List.nodup_cons.2 ⟨λh=>hn.1 (List.mem_map.2 ⟨p,h,rfl⟩),ih hn.2⟩
theorem Z7t {l l2:Lo} (hn:(l.map En.k).Nodup) (hn2:(l2.map En.k).Nodup) (h:∀ u,lkE l u=lkE l2 u):l.Perm l2:=by
 refine (List.perm_ext_iff_of_nodup (Z7r hn) (Z7r hn2)).2 λe=>⟨λhe=>?_,λhe=>?_⟩
 ·have:=ZEc hn he;rw[h]at this;exact (Zq this).1
 ·have:=ZEc hn2 he;rw[← h]at this;exact (Zq this).1
theorem RelX.look {U X:Nat→Prop} {f f2:Fr} {l l2:Lo} {a:Act} {w:World} {γ:Nat→Gh} {v:Zb} {ℓ:List Loc} (h:RelX N G w0 v0 U X f l a w γ v ℓ) (hn2:(l2.map En.k).Nodup) (hf:∀ t,lkE f2 t=lkE f t) (hl:∀ u,lkE l2 u=lkE l u):RelX N G w0 v0 U X f2 l2 a w γ v ℓ:=by
 obtain⟨E,hE,hp⟩:=h.lr;have hle:Le U v γ l v γ l2:=by
  have:=Le.refl (U:=U) hE (Zb.le_refl v);exact⟨Zb.le_refl _,λu e' hk he=>this.l u e' hk (by rw[← hl];exact he)⟩
 have hpl:=Z7t h.nd hn2 λu=>(hl u).symm;obtain⟨E2,h1,h2⟩:=F2_perm hpl hE;refine⟨h.st,λt e he=>?_,⟨E2,h1.imp λe he es hr=>?_,hp.trans h2⟩,hn2,λt e he=>h.uf t e ((hf t) ▸ he),λe he=>h.ul e (hpl.mem_iff.2 he),λx y hg=>⟨Z7a hle (h.gh x y hg).2 (h.gh x y hg).1,(h.gh x y hg).2⟩⟩
 ·have he':=(hf t) ▸ he;exact Z7a hle (h.uf t e he').1 (h.fr t e he')
 ·exact Zlg hle (h.ul e (hpl.mem_iff.2 he)).2.2 rfl hr
end
end Go.Eng
namespace Go.Eng
open Go.RowKit
section
variable {N:Nat} {G:V→Value→Prop} {w0:Base} {v0:Zb}
theorem Rel.draw {U:Nat→Prop} {f:Fr} {l:Lo} {a:Act} {w:World} (h:Rel N G w0 v0 U f l a w):Rel N G w0 v0 U f l a w.drew:=by
 obtain⟨γ,v,ℓ,h⟩:=h;exact⟨γ,v,ℓ,h.st.drew,h.fr,h.lr,h.nd,h.uf,h.ul,h.gh⟩
def sel (listed:Array Bool):Nat→Bool:=λj=>listed.getD j false
def UE (n:Nat) (listed:Array Bool):Nat→Prop:=λk=>k<n ∨ ∃ j,listed.getD j false=true∧k=n+j
structure Inv (N:Nat) (G:V→Value→Prop) (w0:Base) (v0:Zb) (ops:Array Oper) (Ts:List (List Et)) (f:Fr) (l:Lo) (n:Nat) (listed:Array Bool) (a:Act) (w:World):Prop where
 size:listed.size=ops.size
 closed:∀ (j:Nat) (o:Oper),ops[j]? = some o→listed.getD j false=true→∀ e ∈ o.after,Region.binds .any e=true→listed.getD e.on false=true
 rel:∃ f1 l1,Rel N G w0 v0 (UE n listed) f1 l1 a w∧(∀ t,lkE f1 t=Zqa Z9a (sel listed) Ts 0 (lkE f t) t)∧∀ t,lkE l1 t=Zqa Zla (sel listed) Ts 0 (lkE l t) t
theorem ZHj {ops:Array Oper} (hb:Zve 0 ops.toList=true) {listed:Array Bool} (hs:listed.size=ops.size):∀ (n j:Nat),j<n→j<ops.size→listed.getD j true=false→Region.ready .any ops listed≠[]
 | 0,j,h,_,_=>by omega
 | n+1,j,h,hj,hl=>by
  intro h0
  by_cases hp:∃ e ∈ (ops[j]).after,Region.binds .any e=true∧listed.getD e.on false=false
  ·obtain⟨e,he,hbb,hn⟩:=hp
   have hlt:=Zyr hb j ops[j] (by simp[hj]) e he hbb
   refine ZHj hb hs n e.on (by omega) (by omega) ?_ h0
   rw[ZYb (by omega)];exact hn
  ·have:j ∈ Region.ready .any ops listed:=mem_ready.2 ⟨hl,ops[j],by simp[hj],λe he hb=>by
    cases hx:listed.getD e.on false with
    | true=>rfl
    | false=>exact absurd ⟨e,he,hb,hx⟩ hp⟩
   rw[h0]at this;cases this
theorem Zny {C:Cf} (hC:CfOK C) {ops:Array Oper} {Ts:List (List Et)} {f:Fr} {l:Lo} {n:Nat} {Q:Exit→Act→World→Prop} (hb:Zve 0 ops.toList=true) (hds:∀ o ∈ ops.toList,∀ k,o.dst=some k→k<N) (hl:Ts.length=ops.toList.length)
  (hn:(l.map En.k).Nodup) (hok:okTs Ts f l) (htr:∀ i o τ,ops.toList[i]? = some o→Ts[i]? = some τ→Tr (n+i) (gop C ops.toList (n+i) o) τ ()) (hch:Z1d [] (Z1a ops.toList []) (Ts.map λτ=>fpT τ Fp.no)=true)
  (hQ:∀ a' w',Rel N G w0 v0 (· < n+ops.toList.length) (Z7e Ts f) (Z4d Ts l) a' w'→Q .normal a' w'):∀ (fuel:Nat) (listed:Array Bool) (a:Act) (w:World),left listed=fuel→Inv N G w0 v0 ops Ts f l n listed a w→wpAny C.P .any ops Q fuel listed a w:=by
 have ord:∀ (i j:Nat) (τ σ:List Et),i<j→Ts[i]? = some τ→Ts[j]? = some σ→∃ m,(Z1a ops.toList [])[j]? = some m∧(m.testBit i=true∨Apart τ σ):=by
  intro i j τ σ hij hτ hσ;obtain⟨m,h1,h2⟩:=ZTn hch j (fpT σ Fp.no) (by simp[hσ]);refine⟨m,h1,(h2 i (fpT τ Fp.no) (by simp[hτ]) (by simpa using hij)).imp_right ZYp⟩
 have opAt:∀ (j:Nat) (σ:List Et),Ts[j]? = some σ→∃ o,ops[j]? = some o:=λj σ h=>by
  have:=(List.getElem?_eq_some_iff.1 h).1;rw[hl]at this;exact⟨ops[j]'(by simpa using this),by simp⟩
 intro fuel
 induction fuel with
 | zero =>
  intro listed a w hfu hI;have hall:∀ j,listed.getD j true=true:=λj=>Z3k hfu;refine⟨?_,?_⟩
  ·cases hx:Region.ready .any ops listed with
   | nil=>rfl
   | cons p r =>
    obtain⟨h1,_⟩:=mem_ready.1 (show p ∈ Region.ready .any ops listed by rw[hx];simp);rw[hall p]at h1;cases h1
  ·obtain⟨f1,l1,⟨γ,v,ℓ,h1⟩,h2,h3⟩:=hI.rel;obtain⟨k1,k2,k3⟩:=Z9k (b:=0) hok hn;have hsel:∀ (j:Nat) (σ:List Et),Ts[j]? = some σ→sel listed (0+j)=true:=λj σ h=>by
    obtain⟨o,ho⟩:=opAt j σ h;rw[Nat.zero_add];show listed.getD j false=true;rw[← ZYb (by rw[hI.size];exact ZYd ho)];exact hall j
   refine hQ a w ⟨γ,v,ℓ,(h1.look k1 (λt=>?_) λt=>?_).mono (λk hk=>?_) λk hk=>?_⟩
   ·rw[k2 t,h2 t];exact (Zte λj σ hj _=>(hsel j σ hj)).symm
   ·rw[k3 t,h3 t];exact (Zte λj σ hj _=>(hsel j σ hj)).symm
   all_goals
    rcases hk with hk | ⟨j,hj,rfl⟩
    ·omega
    ·have:j<listed.size:=by
      rcases Nat.lt_or_ge j listed.size with h | h
      ·exact h
      ·simp[Array.getElem?_eq_none h]at hj
     rw[hI.size]at this;simp;omega
 | succ fuel ih =>
  intro listed a w hfu hI;refine⟨λh0=>?_,λi hi=>?_⟩
  ·obtain⟨j,hj,hj2⟩:=Z1k (listed:=listed) (by omega);exact absurd h0 (ZHj hb hI.size (j+1) j (by omega) (by rw[← hI.size];exact hj) hj2)
  ·obtain⟨hun,o,ho,hall⟩:=mem_ready.1 hi;have hil:i<listed.size:=by rw[hI.size];exact ZYd ho
   have hunf:listed.getD i false=false:=by rw[← ZYb hil];exact hun
   have ho':ops.toList[i]? = some o:=by rw[Array.getElem?_toList];exact ho
   have hlt:i<Ts.length:=by rw[hl];exact (List.getElem?_eq_some_iff.1 ho').1
   have hτ:Ts[i]? = some Ts[i]:=List.getElem?_eq_getElem hlt;generalize hg:Ts[i]=τ at hτ;obtain⟨fi,li,b1,b2,b3,b4⟩:=Z4m (b:=0) hok hn hτ;obtain⟨f1,l1,⟨γ,v,ℓ,h1⟩,h2,h3⟩:=hI.rel;have befo:∀ (j:Nat) (σ:List Et),j<i→Ts[j]? = some σ→listed.getD j false=true∨Apart σ τ:=by
    intro j σ hj hσ;obtain⟨m,q1,q2⟩:=ord j i σ τ hj hσ hτ;refine q2.imp_left λhbit=>?_;refine Zog (S:=λk=>listed.getD k false=true) (done:=[]) (λj' o' ho' hS=>hI.closed j' o' (by rw[← Array.getElem?_toList];exact ho') (by simpa using hS)) (λj' m' hm'=>by simp at hm') i o m ho' (by simpa using q1) hall j hbit
   have afte:∀ (j:Nat) (σ:List Et),i<j→Ts[j]? = some σ→listed.getD j false=false∨Apart τ σ:=by
    intro j σ hj hσ;obtain⟨m,q1,q2⟩:=ord i j τ σ hj hτ hσ;refine q2.imp_left λhbit=>?_
    cases hx:listed.getD j false with
    | false=>rfl
    | true =>
     obtain⟨oj,hoj⟩:=opAt j σ hσ;have:=Zog (S:=λk=>listed.getD k false=true) (done:=[]) (λj' o' ho' hS=>hI.closed j' o' (by rw[← Array.getElem?_toList];exact ho') (by simpa using hS)) (λj' m' hm'=>by simp at hm') j oj m (by rw[Array.getElem?_toList];exact hoj) (by simpa using q1) (hI.closed j oj hoj hx) i hbit;rw[hunf]at this;cases this
   have same:∀ {β:Type} (eff:List Et→Nat→Option β) (P:Nat→Prop) (acc:β) (t:Nat),P t→(∀ σ,Apart σ τ→P t→eff σ t≠none→False)→(∀ σ,Apart τ σ→P t→eff σ t≠none→False)→Zqa eff (λj=>decide (j<0+i)) Ts 0 acc t=Zqa eff (sel listed) Ts 0 acc t:=by
    intro β eff P acc t hP hA hB;refine Zte λj σ hj hne=>?_;simp only[Nat.zero_add];rcases Nat.lt_trichotomy j i with h | h | h
    ·rcases befo j σ h hj with q | q
     ·rw[dTq h];exact q.symm
     ·exact (hA σ q hP hne).elim
    ·subst h;rw[dFq (Nat.lt_irrefl _)];exact hunf.symm
    ·rcases afte j σ h hj with q | q
     ·rw[dFq (by omega)];exact q.symm
     ·exact (hB σ q hP hne).elim
   have okτ:okT τ f1 l1:=by
    refine Z5d b2 h1.nd b1 (λt ht=>?_) λt ht=>?_
    ·rw[b3 t,h2 t];exact same Z9a (rdS τ) _ t ht (λσ q hp hne=>q.s1 t hne hp) λσ q hp hne=>q.s3 t hp hne
    ·rw[b4 t,h3 t];exact same Zla (rdL τ) _ t ht (λσ q hp hne=>q.l1 t hne hp) λσ q hp hne=>q.l3 t hp hne
   have hruns:=ZAl (htr i o τ ho' hτ) okτ;have hnU:¬ UE n listed (n+i):=by
    rintro (h | ⟨j,hj,e⟩)
    ·omega
    ·have:i=j:=by omega
     subst this;rw[hunf]at hj;cases hj
   have selS:∀ j,sel (listed.setIfInBounds i true) j=if i=j then true else sel listed j:=λj=>by
    by_cases h:i=j
    ·subst h;rw[iP rfl];exact ZSb hil
    ·rw[iN h];exact ZRa h
   have hUE:∀ k,UE n listed k→UE n (listed.setIfInBounds i true) k:=by
    rintro k (h | ⟨j,hj,e⟩)
    ·exact .inl h
    ·refine .inr ⟨j,?_,e⟩;have:=selS j;unfold sel at this;rw[this,hj];split <;> rfl
   have hXi:UE n (listed.setIfInBounds i true) (n+i):=.inr ⟨i,ZSb hil,rfl⟩;have hgg:=Zyl (X:=UE n (listed.setIfInBounds i true)) hC (h1.mono (λ_ h=>h) hUE) hUE hXi hnU hds (hds o (mG ho')) hruns;have upd:∀ {β:Type} (eff:List Et→Nat→Option β) (acc:β) (t:Nat),(∀ σ,Apart τ σ→eff τ t≠none→eff σ t≠none→False)→Zqa eff (sel (listed.setIfInBounds i true)) Ts 0 acc t=(eff τ t).getD (Zqa eff (sel listed) Ts 0 acc t):=by
    intro β eff acc t hA
    cases he:eff τ t with
    | none =>
     refine Zte λj σ hj hne=>?_;rw[Nat.zero_add,selS j,iN];intro e;subst e;rw[hτ]at hj;cases hj;exact hne he
    | some z =>
     refine Zwn (k:=i) hτ (by rw[Nat.zero_add,selS i,iP rfl]) he λj σ hij hσ hs=>?_;rw[Nat.zero_add,selS j,iN (by omega)]at hs;rcases afte j σ hij hσ with q | q
     ·rw[show sel listed j=false from q]at hs;cases hs
     ·cases hx:eff σ t with
      | none=>rfl
      | some y=>exact (hA σ q (by rw[he];exact λe=>by cases e) (by rw[hx];exact λe=>by cases e)).elim
   have nxt:∀ f' l' a' w',((()=()∧f'=Zjc τ f1∧l'=Zoc τ l1)∧True)→Rel N G w0 v0 (UE n (listed.setIfInBounds i true)) f' l' a' w'→wpAny C.P .any ops Q fuel (listed.setIfInBounds i true) a' w':=by
    rintro f' l' a' w' ⟨⟨_,rfl,rfl⟩,_⟩ hr;refine ih _ _ _ (by have:=Zhi hun;omega) ⟨by simp[hI.size],λj oj hj hlj e he hbb=>?_,_,_,hr,λt=>?_,λt=>?_⟩
    ·have hj2:=selS e.on;have hj3:=selS j;unfold sel at hj2 hj3;rw[hj2];split
     ·rfl
     ·rw[hj3]at hlj;split at hlj
      ·rename_i hij;subst hij;rw[ho]at hj;cases hj;exact hall e he hbb
      ·exact hI.closed j oj hj hlj e he hbb
    ·rw[Z0c okτ,h2 t];exact (upd Z9a _ t λσ q hp hne=>q.s2 t hp hne).symm
    ·rw[(ZDc h1.nd okτ).2 t,h3 t];exact (upd Zla _ t λσ q hp hne=>q.l2 t hp hne).symm
   unfold wpOp;rw[ho];rcases hgg with ⟨hw,hg⟩ | ⟨hw,f',l',q1,q2⟩
   ·simp only[hw,if_true];exact .inl (ZWk rfl hg λx w' ⟨f',l',q1,q2⟩=>nxt f' l' _ w' ⟨⟨rfl,q1.2⟩,trivial⟩ q2)
   ·simp only[hw];exact nxt f' l' _ w ⟨⟨rfl,q1.2⟩,trivial⟩ q2
end
end Go.Eng
namespace Go.Eng
open Go.RowKit
section
variable {N:Nat} {G:V→Value→Prop} {w0:Base} {v0:Zb}
theorem Z6n:∀ {os:List Oper} {done:List Nat},(Z1a os done).length=done.length+os.length
 | [],done=>by simp[Z1a]
 | o :: os,done=>by
  simp only[Z1a]
  rw[Z6n]
  simp;omega
theorem ZJq {m:Nat}:∀ {k:Nat},allB m k=true→∀ i,i<k→m.testBit i=true
 | 0,_,_,h=>by omega
 | k+1,h,i,hi=>by
  simp only[allB]at h
  split at h
  ·rename_i hb
   rcases Nat.lt_or_ge i k with h1 | h1
   ·exact ZJq h i h1
   ·rw[show i=k by omega];exact hb
  ·cases h
theorem Zqw {ops:List Oper} {o:Oper} (h:Zfj ops=some o):ops.dropLast++[o]=ops∧o.guard=none∧∀ i,i<ops.dropLast.length→(ZRc (Z1a ops.dropLast []) o.after.toList 0).testBit i=true:=by
 unfold Zfj at h;split at h
 ·cases h
 ·rename_i q hq;split at h
  ·cases h
  ·rename_i hc;split at h
   ·rename_i hb
    cases h
    refine⟨?_,?_,ZJq hb⟩
    ·rcases List.eq_nil_or_concat ops with rfl | ⟨L,b,rfl⟩
     ·cases hq
     ·simp at hq;subst hq;simp
    ·unfold ZGo at hc;split at hc
     ·rename_i hg;exact hg
     ·cases hc
   ·cases h
theorem ZSn {l:Array Bool} {i j:Nat} {b:Bool} (h:¬ j=i):(l.setIfInBounds i true).getD j b=l.getD j b:=by
 simp[Array.getD_eq_getD_getElem?,Array.getElem?_setIfInBounds_ne (Ne.symm h)]
theorem Zyy {C:Cf} (hC:CfOK C) {ops:Array Oper} {ol:Oper} {Ts:List (List Et)} {f:Fr} {l:Lo} {n:Nat} {Q:Exit→Act→World→Prop} (he:ops.toList.dropLast++[ol]=ops.toList) (hg:ol.guard=none) (hanc:∀ i,i<ops.toList.dropLast.length→(ZRc (Z1a ops.toList.dropLast []) ol.after.toList 0).testBit i=true)
  (hb:Zve 0 ops.toList=true) (hds:∀ o ∈ ops.toList,∀ k,o.dst=some k→k<N) (hl:Ts.length=ops.toList.dropLast.length)
  (hn:(l.map En.k).Nodup) (hok:okTs Ts f l) (htr:∀ i o τ,ops.toList.dropLast[i]? = some o→Ts[i]? = some τ→Tr (n+i) (gop C ops.toList (n+i) o) τ ()) (hch:Z1d [] (Z1a ops.toList.dropLast []) (Ts.map λτ=>fpT τ Fp.no)=true)
  (hQ:∀ a' w',Rel N G w0 v0 (· < n+ops.toList.dropLast.length) (Z7e Ts f) (Z4d Ts l) a' w'→wpList C.P ops Q [ol] a' w'):∀ (fuel:Nat) (listed:Array Bool) (a:Act) (w:World),left listed=fuel+1→listed.getD ops.toList.dropLast.length true=false→Inv N G w0 v0 ops Ts f l n listed a w→wpAny C.P .any ops Q (fuel+1) listed a w:=by
 have hsz:ops.size=ops.toList.dropLast.length+1:=by
  have:=congrArg List.length he;simp at this ⊢;omega
 have initAt:∀ {j:Nat} {o:Oper},ops.toList.dropLast[j]? = some o→ops[j]? = some o:=λ{j o} h=>by
  rw[← Array.getElem?_toList,← he,List.getElem?_append_left (List.getElem?_eq_some_iff.1 h).1];exact h
 have lastAt:ops[ops.toList.dropLast.length]? = some ol:=by
  rw[← Array.getElem?_toList]
  conv=>lhs;rw[← he]
  simp
 have ord:∀ (i j:Nat) (τ σ:List Et),i<j→Ts[i]? = some τ→Ts[j]? = some σ→∃ m,(Z1a ops.toList.dropLast [])[j]? = some m∧(m.testBit i=true∨Apart τ σ):=by
  intro i j τ σ hij hτ hσ;obtain⟨m,h1,h2⟩:=ZTn hch j (fpT σ Fp.no) (by simp[hσ]);refine⟨m,h1,(h2 i (fpT τ Fp.no) (by simp[hτ]) (by simpa using hij)).imp_right ZYp⟩
 have opAt:∀ (j:Nat) (σ:List Et),Ts[j]? = some σ→∃ o,ops.toList.dropLast[j]? = some o:=λj σ h=>by
  have:=(List.getElem?_eq_some_iff.1 h).1;rw[hl]at this;exact⟨_,List.getElem?_eq_getElem this⟩
 have hsub:∀ {listed:Array Bool} {a:Act} {w:World},Inv N G w0 v0 ops Ts f l n listed a w→∀ j o,ops.toList.dropLast[j]? = some o→listed.getD (([]:List Nat).length+j) false=true→∀ e ∈ o.after,Region.binds .any e=true→listed.getD e.on false=true:=λhI j o ho hS=>hI.closed j o (initAt ho) (by simpa using hS);intro fuel
 induction fuel with
 | zero =>
  intro listed a w hfu hlast hI;have hll:ops.toList.dropLast.length<listed.size:=by rw[hI.size];omega
  have h0:left (listed.setIfInBounds ops.toList.dropLast.length true)=0:=by have:=Zhi hlast;omega
  have hall':∀ j,(listed.setIfInBounds ops.toList.dropLast.length true).getD j true=true:=λj=>Z3k h0;have hall:∀ j,j≠ops.toList.dropLast.length→j<listed.size→listed.getD j false=true:=λj hj hlt=>by
   have:=hall' j;rw[← ZYb hlt];rw[ZSn hj]at this;exact this
  refine⟨λh0=>?_,λi hi=>?_⟩
  ·exact absurd h0 (ZHj hb hI.size (ops.toList.dropLast.length+1) ops.toList.dropLast.length (by omega) (by omega) hlast)
  ·obtain⟨hun,o,ho,hbef⟩:=mem_ready.1 hi;have hil:i<listed.size:=by rw[hI.size];exact ZYd ho
   have hi2:i=ops.toList.dropLast.length:=by
    rcases Nat.decEq i ops.toList.dropLast.length with h | h
    ·have:=hall i h hil;rw[← ZYb hil,hun]at this;cases this
    ·exact h
   subst hi2;rw[lastAt]at ho
   cases ho
   obtain⟨f1,l1,⟨γ,v,ℓ,h1⟩,h2,h3⟩:=hI.rel;obtain⟨k1,k2,k3⟩:=Z9k (b:=0) hok hn;have hsel:∀ (j:Nat) (σ:List Et),Ts[j]? = some σ→sel listed (0+j)=true:=λj σ h=>by
    have hj:=(List.getElem?_eq_some_iff.1 h).1;rw[hl]at hj;rw[Nat.zero_add];exact hall j (by omega) (by omega)
   have hw:=hQ a w ⟨γ,v,ℓ,(h1.look k1 (λt=>by rw[k2 t,h2 t];exact (Zte λj σ hj _=>(hsel j σ hj).symm)) λt=>by rw[k3 t,h3 t];exact (Zte λj σ hj _=>(hsel j σ hj).symm)).mono (λk hk=>?_) λk hk=>?_⟩
   ·unfold wpOp;rw[lastAt];unfold wpList at hw;have hwt:Region.wanted ol (yielded ops a.tmps)=true:=Zlc hg;simp only[hwt,if_true]at hw ⊢;refine hw.imp_left (Oper.wp_mono λa' w' hq=>⟨?_,hq⟩)
    cases hx:Region.ready .any ops (listed.setIfInBounds ops.toList.dropLast.length true) with
    | nil=>rfl
    | cons p r =>
     obtain⟨h1,_⟩:=mem_ready.1 (show p ∈ Region.ready .any ops (listed.setIfInBounds ops.toList.dropLast.length true) by rw[hx];simp);rw[hall' p]at h1;cases h1
   all_goals
    rcases hk with hk | ⟨j,hj,rfl⟩
    ·omega
    ·have hlt:j<listed.size:=by
      rcases Nat.lt_or_ge j listed.size with h | h
      ·exact h
      ·simp[Array.getElem?_eq_none h]at hj
     have hne:j≠ops.toList.dropLast.length:=λe=>by
      rw[e,← ZYb hll,hlast]at hj;cases hj
     rw[hI.size]at hlt;show n+j<n+_;omega
 | succ fuel ih =>
  intro listed a w hfu hlast hI;refine⟨λh0=>?_,λi hi=>?_⟩
  ·exact absurd h0 (ZHj hb hI.size (ops.toList.dropLast.length+1) ops.toList.dropLast.length (by omega) (by omega) hlast)
  ·obtain⟨hun,o,ho,hall⟩:=mem_ready.1 hi;have hil:i<listed.size:=by rw[hI.size];exact ZYd ho
   have hunf:listed.getD i false=false:=by rw[← ZYb hil];exact hun
   have hne:i≠ops.toList.dropLast.length:=by
    intro e;subst e;rw[lastAt]at ho
    cases ho
    have hbits:∀ j,j<ops.toList.dropLast.length→listed.getD j false=true:=λj hj=>by
     rcases ZFk (hanc j hj) with h | ⟨e,h1,h2,h3⟩
     ·simp at h
     ·have hS:=hall e (by simpa using h1) h2;rcases h3 with h3 | h3
      ·rw[h3];exact hS
      ·cases hg:(Z1a ops.toList.dropLast [])[e.on]? with
       | none=>rw[List.getD_eq_getElem?_getD,hg]at h3;simp at h3
       | some m =>
        rw[List.getD_eq_getElem?_getD,hg]at h3;have hlt:e.on<ops.toList.dropLast.length:=by
         have:=(List.getElem?_eq_some_iff.1 hg).1;rw[Z6n]at this;simpa using this
        have hoe:=List.getElem?_eq_getElem hlt;exact Zog (S:=λk=>listed.getD k false=true) (done:=[]) (hsub hI) (λj' m' hm'=>by simp at hm') e.on _ m hoe (by simpa using hg) (hI.closed e.on _ (initAt hoe) hS) j h3
    have h0:left (listed.setIfInBounds ops.toList.dropLast.length true)=fuel+1:=by have:=Zhi hlast;omega
    obtain⟨j,hj,hj2⟩:=Z1k (listed:=listed.setIfInBounds ops.toList.dropLast.length true) (by omega);have hjs:j<listed.size:=by simpa using hj
    rcases Nat.decEq j ops.toList.dropLast.length with h | h
    ·have h1:=hbits j (by rw[hI.size]at hjs;omega);rw[← ZYb hjs]at h1;rw[ZSn h,h1]at hj2;cases hj2
    ·subst h;have:(listed.setIfInBounds ops.toList.dropLast.length true).getD ops.toList.dropLast.length true=true:=by simp[hjs]
     rw[this]at hj2;cases hj2
   have hlt0:i<ops.toList.dropLast.length:=by
    rw[hI.size]at hil;omega
   have ho':ops.toList.dropLast[i]? = some o:=by
    have:=List.getElem?_eq_getElem hlt0;rw[this];have h2:=initAt this;rw[ho]at h2;exact h2.symm
   have hlt:i<Ts.length:=by rw[hl];exact (List.getElem?_eq_some_iff.1 ho').1
   have hτ:Ts[i]? = some Ts[i]:=List.getElem?_eq_getElem hlt;generalize hg:Ts[i]=τ at hτ;obtain⟨fi,li,b1,b2,b3,b4⟩:=Z4m (b:=0) hok hn hτ;obtain⟨f1,l1,⟨γ,v,ℓ,h1⟩,h2,h3⟩:=hI.rel;have befo:∀ (j:Nat) (σ:List Et),j<i→Ts[j]? = some σ→listed.getD j false=true∨Apart σ τ:=by
    intro j σ hj hσ;obtain⟨m,q1,q2⟩:=ord j i σ τ hj hσ hτ;refine q2.imp_left λhbit=>?_;refine Zog (S:=λk=>listed.getD k false=true) (done:=[]) (hsub hI) (λj' m' hm'=>by simp at hm') i o m ho' (by simpa using q1) hall j hbit
   have afte:∀ (j:Nat) (σ:List Et),i<j→Ts[j]? = some σ→listed.getD j false=false∨Apart τ σ:=by
    intro j σ hj hσ;obtain⟨m,q1,q2⟩:=ord i j τ σ hj hτ hσ;refine q2.imp_left λhbit=>?_
    cases hx:listed.getD j false with
    | false=>rfl
    | true =>
     obtain⟨oj,hoj⟩:=opAt j σ hσ;have:=Zog (S:=λk=>listed.getD k false=true) (done:=[]) (hsub hI) (λj' m' hm'=>by simp at hm') j oj m hoj (by simpa using q1) (hI.closed j oj (initAt hoj) hx) i hbit;rw[hunf]at this;cases this
   have same:∀ {β:Type} (eff:List Et→Nat→Option β) (P:Nat→Prop) (acc:β) (t:Nat),P t→(∀ σ,Apart σ τ→P t→eff σ t≠none→False)→(∀ σ,Apart τ σ→P t→eff σ t≠none→False)→Zqa eff (λj=>decide (j<0+i)) Ts 0 acc t=Zqa eff (sel listed) Ts 0 acc t:=by
    intro β eff P acc t hP hA hB;refine Zte λj σ hj hne=>?_;simp only[Nat.zero_add];rcases Nat.lt_trichotomy j i with h | h | h
    ·rcases befo j σ h hj with q | q
     ·rw[dTq h];exact q.symm
     ·exact (hA σ q hP hne).elim
    ·subst h;rw[dFq (Nat.lt_irrefl _)];exact hunf.symm
    ·rcases afte j σ h hj with q | q
     ·rw[dFq (by omega)];exact q.symm
     ·exact (hB σ q hP hne).elim
   have okτ:okT τ f1 l1:=by
    refine Z5d b2 h1.nd b1 (λt ht=>?_) λt ht=>?_
    ·rw[b3 t,h2 t];exact same Z9a (rdS τ) _ t ht (λσ q hp hne=>q.s1 t hne hp) λσ q hp hne=>q.s3 t hp hne
    ·rw[b4 t,h3 t];exact same Zla (rdL τ) _ t ht (λσ q hp hne=>q.l1 t hne hp) λσ q hp hne=>q.l3 t hp hne
   have hruns:=ZAl (htr i o τ ho' hτ) okτ;have hnU:¬ UE n listed (n+i):=by
    rintro (h | ⟨j,hj,e⟩)
    ·omega
    ·have:i=j:=by omega
     subst this;rw[hunf]at hj;cases hj
   have selS:∀ j,sel (listed.setIfInBounds i true) j=if i=j then true else sel listed j:=λj=>by
    by_cases h:i=j
    ·subst h;rw[iP rfl];exact ZSb hil
    ·rw[iN h];exact ZRa h
   have hUE:∀ k,UE n listed k→UE n (listed.setIfInBounds i true) k:=by
    rintro k (h | ⟨j,hj,e⟩)
    ·exact .inl h
    ·refine .inr ⟨j,?_,e⟩;have:=selS j;unfold sel at this;rw[this,hj];split <;> rfl
   have hXi:UE n (listed.setIfInBounds i true) (n+i):=.inr ⟨i,ZSb hil,rfl⟩;have hgg:=Zyl (X:=UE n (listed.setIfInBounds i true)) hC (h1.mono (λ_ h=>h) hUE) hUE hXi hnU hds (hds o (by rw[← he];exact List.mem_append_left _ (mG ho'))) hruns;have upd:∀ {β:Type} (eff:List Et→Nat→Option β) (acc:β) (t:Nat),(∀ σ,Apart τ σ→eff τ t≠none→eff σ t≠none→False)→Zqa eff (sel (listed.setIfInBounds i true)) Ts 0 acc t=(eff τ t).getD (Zqa eff (sel listed) Ts 0 acc t):=by
    intro β eff acc t hA
    cases he:eff τ t with
    | none =>
     refine Zte λj σ hj hne=>?_;rw[Nat.zero_add,selS j,iN];intro e;subst e;rw[hτ]at hj;cases hj;exact hne he
    | some z =>
     refine Zwn (k:=i) hτ (by rw[Nat.zero_add,selS i,iP rfl]) he λj σ hij hσ hs=>?_;rw[Nat.zero_add,selS j,iN (by omega)]at hs;rcases afte j σ hij hσ with q | q
     ·rw[show sel listed j=false from q]at hs;cases hs
     ·cases hx:eff σ t with
      | none=>rfl
      | some y=>exact (hA σ q (by rw[he];exact λe=>by cases e) (by rw[hx];exact λe=>by cases e)).elim
   have nxt:∀ f' l' a' w',((()=()∧f'=Zjc τ f1∧l'=Zoc τ l1)∧True)→Rel N G w0 v0 (UE n (listed.setIfInBounds i true)) f' l' a' w'→wpAny C.P .any ops Q (fuel+1) (listed.setIfInBounds i true) a' w':=by
    rintro f' l' a' w' ⟨⟨_,rfl,rfl⟩,_⟩ hr;refine ih _ _ _ (by have:=Zhi hun;omega) (by
     rw[ZSn (Ne.symm hne)];exact hlast) ⟨by simp[hI.size],λj oj hj hlj e he hbb=>?_,_,_,hr,λt=>?_,λt=>?_⟩
    ·have hj2:=selS e.on;have hj3:=selS j;unfold sel at hj2 hj3;rw[hj2];split
     ·rfl
     ·rw[hj3]at hlj;split at hlj
      ·rename_i hij;subst hij;rw[ho]at hj;cases hj;exact hall e he hbb
      ·exact hI.closed j oj hj hlj e he hbb
    ·rw[Z0c okτ,h2 t];exact (upd Z9a _ t λσ q hp hne=>q.s2 t hp hne).symm
    ·rw[(ZDc h1.nd okτ).2 t,h3 t];exact (upd Zla _ t λσ q hp hne=>q.l2 t hp hne).symm
   unfold wpOp;rw[ho];rcases hgg with ⟨hw,hg⟩ | ⟨hw,f',l',q1,q2⟩
   ·simp only[hw,if_true];exact .inl (ZWk rfl hg λx w' ⟨f',l',q1,q2⟩=>nxt f' l' _ w' ⟨⟨rfl,q1.2⟩,trivial⟩ q2)
   ·simp only[hw];exact nxt f' l' _ w ⟨⟨rfl,q1.2⟩,trivial⟩ q2
end
end Go.Eng
namespace Go.Eng
open Go.RowKit
def Pin (ks:List Nat) (pv:Nat→Value) (a:Act):Prop:=∀ t,Zta ks t=true→a.tmps.getD t undef=pv t
def Pn (ks:List Nat) (pv:Nat→Value) (Q:Exit→Act→World→Prop):Exit→Act→World→Prop:=λe a w=>(e ≠ .outgrown→Pin ks pv a)→Q e a w
theorem Pin.nil {pv:Nat→Value} {a:Act}:Pin [] pv a:=λ_ h=>by cases h
theorem Pin.put {ks:List Nat} {pv:Nat→Value} {a:Act} (h:Pin ks pv a) {o:Oper} (hd:∀ k,o.dst=some k→Zta ks k=false) (y:Value):Pin ks pv (a.put o.dst y):=λt ht=>by
 cases hk:o.dst with
 | none=>exact h t ht
 | some d =>
  have hne:¬ d=t:=λe=>by subst e;rw[hd d hk]at ht;cases ht
  have:(a.put (some d) y).tmps.getD t undef=a.tmps.getD t undef:=by simp[Act.put,Array.getElem?_setIfInBounds_ne hne]
  rw[this];exact h t ht
theorem Pin.defer {ks:List Nat} {pv:Nat→Value} {a:Act} (h:Pin ks pv a) (d:Deferred):Pin ks pv { a with defers:=d :: a.defers }:=h
theorem Zls {P:Program} {ks:List Nat} {pv:Nat→Value} {Q:Exit→Act→World→Prop} {o:Oper} {a:Act} {K K':Act→World→Prop} (hp:Pin ks pv a) (hd:∀ k,o.dst=some k→Zta ks k=false) (hK:∀ a' w',Pin ks pv a'→K a' w'→K' a' w') {r:Result Go.Next} (h:o.upon P a K (Pn ks pv Q) r):o.upon P a K' Q r:=by
 cases r with
 | ok n w' =>
  cases n <;> simp only[Oper.upon]at h ⊢
  case value v=>exact hK _ _ (hp.put hd v) h
  case skip=>exact hK _ _ (hp.put hd _) h
  case defer d=>exact hK _ _ ((hp.defer d).put hd _) h
  case enter f args =>
   refine Calls.mono h λe w'' he=>?_
   cases e with
   | returned v=>exact hK _ _ (hp.put hd v) he
   | panicked c=>exact he λ_=>hp
   | outgrown=>obtain⟨a1,w1,h1⟩:=he;exact⟨a1,w1,h1 λe=>absurd rfl e⟩
  case row row args=>exact Rows.mono h λv w'' he=>hK _ _ (hp.put hd v) he
  all_goals exact h
 | halt x w' =>
  cases x <;> simp only[Oper.upon]at h ⊢
  case panic v=>exact h λ_=>hp
  all_goals exact h
theorem Zxt {ks:List Nat} {pv:Nat→Value} {Q:Exit→Act→World→Prop} (h:LetsOut (Pn ks pv Q)):LetsOut Q:=by
 obtain⟨a1,w1,h1⟩:=h;exact⟨a1,w1,h1 λe=>absurd rfl e⟩
theorem Z7o {P:Program} {ks:List Nat} {pv:Nat→Value} {Q:Exit→Act→World→Prop} {ops:Array Oper}:∀ {os:List Oper} {a:Act} {w:World},(∀ o ∈ os,∀ k,o.dst=some k→Zta ks k=false)→Pin ks pv a→wpList P ops (Pn ks pv Q) os a w→wpList P ops Q os a w
 | [],a,w,_,hp,h=>h λ_=>hp
 | o :: os,a,w,hd,hp,h=>by
  have hd1:=hd o (by simp)
  have ih:∀ a' w',Pin ks pv a'→wpList P ops (Pn ks pv Q) os a' w'→wpList P ops Q os a' w':=λa' w' hp' h'=>Z7o (λo ho=>hd o (by simp[ho])) hp' h'
  unfold wpList at h ⊢
  split
  ·rename_i hw
   simp only[hw,if_true]at h
   rcases h with h | ⟨h1,h2⟩
   ·exact .inl (Zls hp hd1 ih h)
   ·exact .inr ⟨h1,Zxt h2⟩
  ·rename_i hw
   simp only[hw]at h
   exact ih _ _ (hp.put hd1 _) h
theorem Z2h {P:Program} {ks:List Nat} {pv:Nat→Value} {Q:Exit→Act→World→Prop} {ops:Array Oper} (hd:∀ o ∈ ops.toList,∀ k,o.dst=some k→Zta ks k=false):∀ {fuel:Nat} {listed:Array Bool} {a:Act} {w:World},Pin ks pv a→wpAny P .any ops (Pn ks pv Q) fuel listed a w→wpAny P .any ops Q fuel listed a w
 | 0,listed,a,w,hp,h=>⟨h.1,h.2 λ_=>hp⟩
 | fuel+1,listed,a,w,hp,h=>by
  refine⟨λh0=>h.1 h0 λ_=>hp,λi hi=>?_⟩
  have h:=h.2 i hi
  unfold wpOp at h ⊢
  split
  ·rename_i ho
   simp only[ho]at h
   exact Z2h hd hp h
  ·rename_i o ho
   simp only[ho]at h
   have hd1:=hd o (by rw[← Array.getElem?_toList]at ho;exact mG ho)
   split
   ·rename_i hw
    simp only[hw,if_true]at h
    rcases h with h | ⟨h1,h2⟩
    ·exact .inl (Zls hp hd1 (λa' w' hp' h'=>Z2h hd hp' h') h)
    ·exact .inr ⟨h1,Zxt h2⟩
   ·rename_i hw
    simp only[hw]at h
    exact Z2h hd (hp.put hd1 _) h
section
variable {N:Nat} {G:V→Value→Prop} {w0:Base} {v0:Zb}
def Zue (N:Nat) (G:V→Value→Prop) (w0:Base) (v0:Zb) (n:Nat) (f:Fr) (l:Lo) (p:Fr→Lo→Nat→Prop) (S:Act→World→Prop):Prop :=
 ∀ f' l' n' a' w',p f' l' n'→n≤n'→Old n f l f' l'→Rel N G w0 v0 (· < n') f' l' a' w'→S a' w'
theorem Zue.step {n n1:Nat} {f f1:Fr} {l l1:Lo} {p:Fr→Lo→Nat→Prop} {S:Act→World→Prop} (h:Zue N G w0 v0 n f l p S) (hn:n≤n1) (ho:Old n f l f1 l1):Zue N G w0 v0 n1 f1 l1 p S :=
 λf' l' n' a' w' hp hn' ho' hr=>h f' l' n' a' w' hp (by omega) (ho.trans ho' hn) hr
theorem draw_ok {C:Cf} (hC:CfOK C) {α:Type} {r:α} {id:Nat} {ops:Array Oper} {f:Fr} {l:Lo} {n:Nat} {K:Fr→Lo→Nat→Option α} {Q:Exit→Act→World→Prop} {a:Act} {w:World} (hm:C.P.follows .mixedOrders=true) (hb:Zve 0 ops.toList=true) (hds:∀ o ∈ ops.toList,∀ k,o.dst=some k→k<N) {ks:List Nat} {pv:Nat→Value} (hks:∀ o ∈ ops.toList,∀ k,o.dst=some k→Zta ks k=false) (hpn:Pin ks pv a)
  (h:(Z0f C ops.toList ops.toList f l n λf l n ps=>match Z1d [] (Z1a ops.toList []) ps with
   | true=>K f l n
   | false=>none)=some r) (hr:Rel N G w0 v0 (· < n) f l a w) (hQ:Zue N G w0 v0 n f l (λf l n=>K f l n=some r) (Pn ks pv Q .normal)):(Code.region id ops true).wp C.P Q a w:=by
 obtain⟨Ts,h1,h2,h3,h4⟩:=ZTm h;split at h4
 ·rename_i hch;have hn:(l.map En.k).Nodup:=by obtain⟨_,_,_,hr⟩:=hr;exact hr.nd
  refine wp_region_any hm (Z2h hks hpn ?_);have hz:∀ j,(Array.replicate ops.size false).getD j false=false:=λj=>getD_replicate_false _ _;have hl:left (Array.replicate ops.size false)=ops.size:=by simp[left]
  refine Zny hC (Ts:=Ts) hb hds h1 hn h2 h3 hch (λa' w' hr'=>hQ _ _ _ a' w' h4 (by omega) (Zbm (Nat.le_refl n) h1 h2 hn h3) hr') ops.size _ a w.drew hl ⟨by simp,λj o _ hj=>?_,f,l,?_,λt=>?_,λt=>?_⟩
  ·rw[hz]at hj;cases hj
  ·obtain⟨γ,v,ℓ,hr⟩:=hr.draw;exact⟨γ,v,ℓ,hr.mono (λ_ h=>.inl h) λ_ h=>.inl h⟩
  ·exact (ZTe λj _ _ hs=>by rw[show sel _ _=false from hz _]at hs;cases hs).symm
  ·exact (ZTe λj _ _ hs=>by rw[show sel _ _=false from hz _]at hs;cases hs).symm
 ·cases h4
def ZEe (C:Cf) (cf:CallF):Prop:=∀ {α:Type} {g:FuncId} {ags:V} {l:Lo} {n:Nat} {K:V→Lo→Nat→Option α} {r:α},cf α g ags l n K=some r→∀ {N:Nat} {G:V→Value→Prop} {w0:Base} {v0:Zb} {a:Act} {w:World} {γ:Nat→Gh} {v:Zb} {ℓ:List Loc} {vals:List Value},
 RelX N G w0 v0 (· < n) (· < n) [] l a w γ v ℓ→RR v γ l true ags vals→ags.ok (· < n)→ZB C.P g∧Calls C.P g vals.toArray w λe w'=>∃ y c l' n' γ' v' ℓ',e = .returned y∧K c l' n'=some r∧n≤n'∧(∀ f,Old n f l f l')∧RelX N G w0 v0 (· < n') (· < n') [] l' a w' γ' v' ℓ'∧RV v' γ' l' (ZDd c) y∧(ZDd c).ok (· < n')
theorem Zms {U X:Nat→Prop} {f:Fr} {l:Lo} {a:Act} {w:World} {γ:Nat→Gh} {v:Zb} {ℓ:List Loc} (hr:RelX N G w0 v0 U X f l a w γ v ℓ):∀ {xs:List Operand} {c:V},ZRj f xs=some c→RR v γ l true c (xs.map a.eval)∧c.ok U
 | [],c,h=>by cases h;exact⟨rfl,trivial⟩
 | x :: xs,c,h=>by
  simp only[ZRj]at h
  split at h
  ·cases h
  ·rename_i V1 c1 hnt h1 h2
   cases h
   obtain⟨q1,q2⟩:=Z1n hr h1
   obtain⟨q3,q4⟩:=Zms hr h2
   obtain⟨cs,hcs,hqe⟩:=Zpb q1 (λc e=>hnt c (by rw[e]))
   exact⟨⟨cs,_,by rw[List.map_cons,hqe],hcs,q3⟩,q2,q4⟩
  ·cases h
theorem ZIp {v:Zb} {γ:Nat→Gh} {l:Lo} {U:Nat→Prop}:∀ {c d:V} {xs ys:List Value},RR v γ l true c xs→RR v γ l true d ys→c.ok U→d.ok U→RR v γ l true (appV c d) (xs++ys)∧(appV c d).ok U
 | .nl,d,xs,ys,h,k,_,kd=>by rw[show xs=[] from h];exact⟨k,kd⟩
 | .cons a b,d,xs,ys,⟨cs,zs,e1,e2,e3⟩,k,kc,kd=>by
  subst e1
  obtain⟨q1,q2⟩:=ZIp (c:=b) e3 k kc.2 kd
  exact⟨⟨cs,_,rfl,e2,q1⟩,kc.1,q2⟩
theorem inl1_ok {C:Cf} {cf:CallF} (hcf:ZEe C cf) {α:Type} {r:α} {o:Oper} {g:FuncId} {ags:V} {f0 f:Fr} {l:Lo} {n:Nat} {K:Fr→Lo→Nat→Option α} {a:Act} {w:World} {γ:Nat→Gh} {v:Zb} {ℓ:List Loc} (hi:ZRk C f0 o=some (g,ags)) (h:inl1 cf o g ags f l n K=some r)
  (hr0:RelX N G w0 v0 (· < n) (· < n) f0 l a w γ v ℓ) (hr:RelX N G w0 v0 (· < n) (· < n) f l a w γ v ℓ) (hd:∀ k,o.dst=some k→k<N):Zsb C.P o a w λx w'=>∃ f' l' n',K f' l' n'=some r∧n≤n'∧Old n f l f' l'∧Rel N G w0 v0 (· < n') f' l' (a.put o.dst x) w':=by
 obtain⟨d,op,ty,pos,aft,gd⟩:=o;unfold ZRk at hi;split at hi
 ·rename_i c hop;have hop:op = .call c:=hop;subst hop;obtain⟨callee,args,ats⟩:=c;split at hi
  ·rename_i x hx;have hx:callee = .value x:=hx;subst hx;split at hi
   ·rename_i g' cap hg;split at hi
    ·cases hi
    ·split at hi
     ·rename_i ags' has
      cases hi
      unfold inl1 at h
      cases d with
      | none=>cases h
      | some d =>
       obtain⟨q1,q2⟩:=Z1n hr0 hg;obtain⟨cs,⟨vs,q3,rfl⟩,q4⟩:=q1;have q4:a.eval x = .func (.func g) #[] vs.toArray:=q4;obtain⟨q5,q6⟩:=Zms hr0 has;obtain⟨q7,q8⟩:=ZIp q5 q3 q6 q2;have hlt:∀ k,k<n→k<n+1:=λk h=>by omega
       let G':V→Value→Prop:=λx y=>G x y ∨ ∃ t e,lkE f t=some e∧x=e.x∧y=a.tmps.getD t undef
       have hrG:RelX N G' w0 v0 (· < n+1) (· < n+1) [] l a w γ v ℓ:=by
        have hm:=hr.mono hlt hlt;refine⟨hm.st,λt e he=>(by cases he),hm.lr,hm.nd,λt e he=>(by cases he),hm.ul,λx y hg=>?_⟩;rcases hg with hg | ⟨t,e,h1,rfl,rfl⟩
        ·exact hm.gh x y hg
        ·exact⟨hm.fr t e h1,(hm.uf t e h1).1⟩
       obtain⟨hen,hcalls⟩:=hcf h hrG q7 (V.ok.mono hlt q8);obtain⟨σ,hσ,hev⟩:=hr0.st.evs (x :: args.toList);have hfx:=hev x (by simp);rw[q4]at hfx;have hargs:args.toList.map (ev σ)=(args.toList.map a.eval).map some:=by
        rw[List.map_map];exact List.map_congr_left λy hy=>hev y (by simp[hy])
       have hrun:=ZYw (d:=some d) (ty:=ty) (pos:=pos) (aft:=aft) (g:=gd) (ats:=ats) hσ _ _ hen hfx hargs;refine ZHc hrun (Calls.mono hcalls λe w' ⟨y,c,l',n',γ',v',ℓ',e1,e2,e3,e4,e5,e6,e7⟩=>⟨y,e1,_,l',n',e2,by omega,((e4 f).mono (by omega)).trans (Old.put (Nat.le_refl n)) (Nat.le_refl n),γ',v',ℓ',?_⟩);have hr2:RelX N G w0 v0 (· < n') (· < n') f l' a w' γ' v' ℓ':=by
        refine⟨e5.st,λt e he=>(e5.gh _ _ (.inr ⟨t,e,he,rfl,rfl⟩)).1,e5.lr,e5.nd,λt e he=>⟨(e5.gh _ _ (.inr ⟨t,e,he,rfl,rfl⟩)).2,?_⟩,e5.ul,λx y hg=>e5.gh x y (.inl hg)⟩;have:=(hr.uf t e he).2;show e.st<n';have:e.st<n:=this;omega
       exact hr2.put (hd d rfl) e6 e7 (show n<n' by omega)
     ·cases hi
   ·cases hi
  ·cases hi
 ·cases hi
theorem inlG_ok {C:Cf} {cf:CallF} (hcf:ZEe C cf) {α:Type} {r:α} {ops:Array Oper} {o:Oper} {rest:List Oper} {g:FuncId} {ags:V} {f:Fr} {l:Lo} {n:Nat} {K:Fr→Lo→Nat→Option α} {Q:Exit→Act→World→Prop} {a:Act} {w:World} (hi:ZRk C f o=some (g,ags)) (h:inlG cf ops.toList o g ags f l n K=some r)
  (hr:Rel N G w0 v0 (· < n) f l a w) (hds:∀ o ∈ ops.toList,∀ k,o.dst=some k→k<N) (hd:∀ k,o.dst=some k→k<N) (hQ:Zue N G w0 v0 n f l (λf l n=>K f l n=some r) λa w=>wpList C.P ops Q rest a w):wpList C.P ops Q (o :: rest) a w:=by
 obtain⟨γ,v,ℓ,hr⟩:=hr;have yes:∀ {f1:Fr},Old n f l f1 l→RelX N G w0 v0 (· < n) (· < n) f1 l a w γ v ℓ→Region.wanted o (yielded ops a.tmps)=true→inl1 cf o g ags f1 l n K=some r→wpList C.P ops Q (o :: rest) a w:=λho hr1 hw h =>
  ZMc hw (ZRn (inl1_ok hcf hi h hr hr1 hd) λx w' ⟨f',l',n',e1,e2,e3,e4⟩=>hQ f' l' n' _ w' e1 e2 (ho.trans e3 (Nat.le_refl n)) e4)
 have no:∀ {f1:Fr},Old n f l f1 l→RelX N G w0 v0 (· < n) (· < n) f1 l a w γ v ℓ→Region.wanted o (yielded ops a.tmps)=false→Zck o f1 l n K=some r→wpList C.P ops Q (o :: rest) a w:=λho hr1 hw h=>by
  have h1:=Zni (Nat.le_refl n) Old.refl hr1.nd (ZJf h);obtain⟨f',l',⟨q1,q2⟩,q3⟩:=ZXi (X:=(· < n+1)) (hr1.mono (λ_ h=>h) λk h=>(show k<n+1 by have:k<n:=h;omega)) (λk h=>(show k<n+1 by have:k<n:=h;omega)) (Nat.lt_succ_self n) hd h1;unfold wpList;rw[iN (by rw[hw];decide)];exact hQ f' l' _ _ w q1 (by omega) (ho.trans q2 (Nat.le_refl n)) q3
 unfold inlG at h;split at h
 ·rename_i hg;exact yes Old.refl hr (Zlc hg) h
 ·rename_i j want hg;split at h
  ·rename_i q hq;split at h
   ·rename_i t ht;have htN:t<N:=hds q (mG hq) t ht;have hgd:(ops[j]?).bind (·.dst)=some t:=by rw[← Array.getElem?_toList,hq];exact ht
    obtain⟨σ,hσ,hev⟩:=hr.st.evs [.tmp t];have hl:look σ t=some (a.tmps.getD t undef):=hev (.tmp t) (by simp);split at h
    ·rename_i ek s b he;have hk:ek=t:=(Zq he).2;subst hk;have h2:a.tmps.getD ek undef = .bool b:=ZEf (hr.fr ek _ he);rw[h2]at hl;have hdup:=RelX.dup hr he;have hold:=Old.dup (m:=n) (l:=l) he
     cases want <;> cases b
     ·exact yes hold hdup (Zkf hσ hg hgd hl htN) h
     ·exact no hold hdup (Zgi hσ hg hgd hl htN) h
     ·exact no hold hdup (Zgi hσ hg hgd hl htN) h
     ·exact yes hold hdup (Zkf hσ hg hgd hl htN) h
    ·rename_i ek s he;have hk:ek=t:=(Zq he).2;subst hk;obtain⟨cs,h1,h2⟩:=hr.fr ek _ he;have h1:cs=[undef]:=h1;subst h1;have h2:a.tmps.getD ek undef=undef:=h2;rw[h2]at hl;exact no Old.refl hr (Zpe hσ hg hgd hl htN) h
    ·cases h
   ·cases h
  ·cases h
theorem Zqk {C:Cf} (hC:CfOK C) {cf:CallF} (hcf:ZEe C cf) {α:Type} {r:α} {ops:Array Oper} {Q:Exit→Act→World→Prop} (hds:∀ o ∈ ops.toList,∀ k,o.dst=some k→k<N) {K:Fr→Lo→Nat→Option α}:∀ {os:List Oper} {f:Fr} {l:Lo} {n:Nat} {a:Act} {w:World},iops C cf ops.toList os f l n K=some r→(∀ o ∈ os,o ∈ ops.toList) →
  Rel N G w0 v0 (· < n) f l a w→Zue N G w0 v0 n f l (λf l n=>K f l n=some r) (Q .normal)→wpList C.P ops Q os a w
 | [],f,l,n,a,w,h,_,hr,hQ=>hQ f l n a w h (Nat.le_refl n) Old.refl hr
 | o :: os,f,l,n,a,w,h,hos,hr,hQ=>by
  have hd:=hds o (hos o (by simp))
  simp only[iops]at h
  split at h
  ·obtain⟨γ,v,ℓ,hr⟩:=hr
   have h1:=Zni (Nat.le_refl n) Old.refl hr.nd (ZJf h)
   refine (Zyl hC (X:=(· < n+1)) (hr.mono (λ_ h=>h) λk h=>(show k<n+1 by have:k<n:=h;omega)) (λk h=>(show k<n+1 by have:k<n:=h;omega)) (Nat.lt_succ_self n) (Nat.lt_irrefl n) hds hd h1).list λf' l' a' w' ⟨q1,q2⟩ q3=>?_
   exact Zqk hC hcf hds q1 (λo ho=>hos o (by simp[ho])) q3 (hQ.step (by omega) q2)
  ·rename_i g ags hi
   refine inlG_ok hcf hi h hr hds hd λf' l' n' a' w' q1 q2 q3 q4=>?_
   exact Zqk hC hcf hds q1 (λo ho=>hos o (by simp[ho])) q4 (hQ.step q2 q3)
theorem Z0v {C:Cf} (hC:CfOK C) {cf:CallF} (hcf:ZEe C cf) {α:Type} {r:α} {id:Nat} {ops:Array Oper} {o:Oper} {f:Fr} {l:Lo} {n:Nat} {K:Fr→Lo→Nat→Option α} {Q:Exit→Act→World→Prop} {a:Act} {w:World} (ho:Zfj ops.toList=some o) (hm:C.P.follows .mixedOrders=true) (hb:Zve 0 ops.toList=true) (hds:∀ o ∈ ops.toList,∀ k,o.dst=some k→k<N) {ks:List Nat} {pv:Nat→Value} (hks:∀ o ∈ ops.toList,∀ k,o.dst=some k→Zta ks k=false) (hpn:Pin ks pv a)
  (h:(Z0f C ops.toList ops.toList.dropLast f l n λf l n ps=>match Z1d [] (Z1a ops.toList.dropLast []) ps with
   | true=>iops C cf ops.toList [o] f l n K
   | false=>none)=some r) (hr:Rel N G w0 v0 (· < n) f l a w) (hQ:Zue N G w0 v0 n f l (λf l n=>K f l n=some r) (Pn ks pv Q .normal)):(Code.region id ops true).wp C.P Q a w:=by
 obtain⟨Ts,h1,h2,h3,h4⟩:=ZTm h;obtain⟨he,hg,hanc⟩:=Zqw ho;split at h4
 ·rename_i hch;have hn:(l.map En.k).Nodup:=by obtain⟨_,_,_,hr⟩:=hr;exact hr.nd
  have hsz:ops.size=ops.toList.dropLast.length+1:=by
   have:=congrArg List.length he;simp at this ⊢;omega
  have hin:∀ o ∈ ops.toList.dropLast,o ∈ ops.toList:=λo ho=>by rw[← he];exact List.mem_append_left _ ho
  have hol:o ∈ ops.toList:=by rw[← he];simp
  refine wp_region_any hm (Z2h hks hpn ?_);have hz:∀ j,(Array.replicate ops.size false).getD j false=false:=λj=>getD_replicate_false _ _;have hl:left (Array.replicate ops.size false)=ops.toList.dropLast.length+1:=by rw[← hsz];simp[left]
  have key:=Zyy (G:=G) (w0:=w0) (v0:=v0) (Q:=Pn ks pv Q) hC (Ts:=Ts) he hg hanc hb hds h1 hn h2 h3 hch (λa' w' hr'=>?_) ops.toList.dropLast.length (Array.replicate ops.size false) a w.drew hl ?_ ⟨by simp,λj o _ hj=>?_,f,l,?_,λt=>?_,λt=>?_⟩
  ·rw[← hsz]at key;exact key
  ·have hold:=Zbm (Nat.le_refl n) h1 h2 hn h3;exact Zqk hC hcf hds h4 (λo' ho'=>by rcases List.mem_singleton.1 ho' with rfl;exact hol) hr' (hQ.step (by omega) hold)
  ·rw[ZYb (by rw[Array.size_replicate];omega)];exact hz _
  ·rw[hz]at hj;cases hj
  ·obtain⟨γ,v,ℓ,hr⟩:=hr.draw;exact⟨γ,v,ℓ,hr.mono (λ_ h=>.inl h) λ_ h=>.inl h⟩
  ·exact (ZTe λj _ _ hs=>by rw[show sel _ _=false from hz _]at hs;cases hs).symm
  ·exact (ZTe λj _ _ hs=>by rw[show sel _ _=false from hz _]at hs;cases hs).symm
 ·cases h4
theorem ZSl {K:Nat} {ks:List Nat}:∀ {os:List Oper},Z1g K ks os=true→∀ o ∈ os,∀ k,o.dst=some k→k<K∧Zta ks k=false
 | [],_,_,h,_,_=>by cases h
 | o :: os,h,o',ho',k,hk=>by
  simp only[Z1g]at h
  rcases List.mem_cons.1 ho' with rfl | ho'
  ·rw[hk]at h
   simp only at h
   split at h
   ·rename_i hb hm;exact⟨lB hb,hm⟩
   ·cases h
  ·have h':Z1g K ks os=true:=by
    split at h
    ·split at h
     ·exact h
     ·cases h
    ·exact h
   exact ZSl h' o' ho' k hk
end
end Go.Eng
namespace Go.Eng
open Go.RowKit
theorem Zrg {x:V} {c:CT} {cs:List Value} (h:x.isAgg=c.isAgg):x.val cs=c.vl cs:=by
 unfold V.val CT.vl;rw[h]
 cases c.isAgg <;> rfl
theorem Znl {v v':Zb} (h:v.le v'):∀ {c:CT} {m:Bool} {x:c.den} {cs:List Value} {es:List Loc},CR v c m x cs es→CR v' c m x cs es:=by
 intro c
 induction c with
 | dat t=>intro m x cs es k;cases m <;> first | exact⟨Rep.mono _ h k.1,k.2⟩ | exact k
 | own ty t =>
  intro m x cs es k;cases m
  ·obtain⟨ob,cap,d,h1,h2,h3⟩:=k;exact⟨ob,cap,d,h1,ZL h h2,h3⟩
  ·exact k
 | mat ty ty2 t =>
  intro m x cs es k;cases m
  ·obtain⟨ob,cap,rows,es2,h1,h2,h3⟩:=k;exact⟨ob,cap,rows,es2,h1,ZOc h h2,h3⟩
  ·exact k
 | nl=>intro m x cs es k;cases m <;> exact k
 | one a ih =>
  intro m x cs es k;cases m
  ·exact ih (m:=false) k
  ·obtain⟨c,h1,h2⟩:=k;exact⟨c,h1,ih h2⟩
 | cons a b ia ib =>
  intro m x cs es k;cases m
  ·obtain⟨c1,c2,e1,e2,h1,h2,h3,h4⟩:=k;exact⟨c1,c2,e1,e2,h1,h2,ia h3,ib h4⟩
  ·obtain⟨c1,c2,e1,e2,h1,h2,h3,h4⟩:=k;exact⟨c1,c2,e1,e2,h1,h2,ia h3,ib h4⟩
 | agg c ih=>intro m x cs es k;cases m <;> first | exact ih (m:=false) k | exact k
 | box ty c ih =>
  intro m x cs es k;cases m
  ·obtain⟨b,c1,e1,h1,h2,h3,h4⟩:=k;exact⟨b,c1,e1,h1,ih h2,h3,h4⟩
  ·exact k
theorem ZBd {α:Type} {ex es r:List α}:(ex++(es++r)).Perm (es++(ex++r)):=by
 rw[← aAq,← aAq];exact List.Perm.append_right _ List.perm_append_comm
section
variable {N:Nat} {G:V→Value→Prop} {w0:Base} {v0:Zb} {U X:Nat→Prop} {f:Fr} {a:Act} {w:World} {n:Nat}
theorem Zgx {ρ:Type} {g:Nat} {t:T} {x:V} {k:t.den→Ev ρ} {l:Lo} {Post:ρ→Fr→Lo→Prop} {v:Zb} {γ:Nat→Gh} {m:Bool} {cs:List Value} (h:Zj n (conv g t x k) f l Post) (hr:RR v γ l m x cs):m=false:=by
 cases m with
 | false=>rfl
 | true =>
  cases g with
  | zero=>exact h.elim
  | succ g=>cases x <;> first | exact hr.elim | (simp only[conv]at h;exact h.elim)
theorem Z6e {ρ:Type} (hn:¬ U n) (hX:X n):∀ (g:Nat) {c:CT} {x:V} {K:c.den→Ev ρ} {l:Lo} {Post:ρ→Fr→Lo→Prop} {γ:Nat→Gh} {v:Zb} {ℓ ex:List Loc} {m:Bool} {cs:List Value},
  Zj n (Z7 g c x K) f l Post→RelX N G w0 v0 U X f l a w γ v ℓ→St N w0 v0 [] (ex++ℓ) v a w→x.ok U→RR v γ l m x cs →
  ∃ z l' γ' v' ℓ' es,Zj n (K z) f l' Post∧RelX N G w0 v0 U X f l' a w γ' v' ℓ'∧St N w0 v0 [] (es++(ex++ℓ')) v' a w∧Le U v γ l v' γ' l'∧CR v' c m z cs es∧x.isAgg=c.isAgg
 | 0,_,_,_,_,_,_,_,_,_,_,_,h,_,_,_,_=>h.elim
 | g+1,c,x,K,l,Post,γ,v,ℓ,ex,m,cs,h,hr,hex,hk,hx=>by
  obtain⟨E,hE,_⟩:=hr.lr
  have rfl':Le U v γ l v γ l:=Le.refl hE (Zb.le_refl _)
  cases c with
  | dat t =>
   simp only[Z7]at h
   have hm:=Zgx h hx
   subst hm
   have hag:=Zag FU h
   obtain⟨y,l1,γ1,v1,ℓ1,k1,k2,k3,k4,k5⟩:=Zab hn hX FU h hr hex hk
   exact⟨y,l1,γ1,v1,ℓ1,[],k1,k2,k3,k4,⟨k5 _ hx,rfl⟩,hag⟩
  | own ty t =>
   cases x with
   | own u =>
    cases m with
    | true=>exact hx.elim
    | false =>
    simp only[Z7]at h
    obtain⟨e,he,h⟩:=h
    obtain⟨kk,st,L⟩:=e
    have hkk:kk=u:=(Zq he).2
    subst hkk
    obtain⟨y,rfl,_,hy⟩:=hx
    have hy:=hy _ he
    obtain⟨es,E',h1,_,_,h3,h4⟩:=hr.del he
    cases L with
    | own ty' t' xs fz =>
     cases fz with
     | true=>exact h.elim
     | false =>
      simp only at h
      split at h
      ·rename_i ys hty hcast
       have hty:=eQ hty
       subst hty
       obtain⟨c3,c4⟩:=ZX hcast
       cases c3;cases c4
       obtain⟨ob,cap,d,g1,g2,rfl⟩:=h1
       have g1:γ kk = .own ob cap:=g1
       obtain⟨ob',cap',g3,g4⟩:=hy
       rw[g1]at g3;cases g3
       exact⟨_,_,_,_,_,_,h,h4,hex.perm ((List.Perm.append_left ex h3).trans ZBd),Le.era hr kk,⟨ob,cap,d,by rw[g4],g2,rfl⟩,rfl⟩
      ·exact h.elim
    | box _ _=>exact h.elim
    | mid _ _ _ _ _ _=>exact h.elim
    | mat _ _ _ _ _=>exact h.elim
   | nilS =>
    cases m with
    | true=>exact hx.elim
    | false =>
    simp only[Z7]at h
    have hx:cs=[.slice none 0 0]:=hx
    subst hx
    exact⟨_,l,γ,v,ℓ,[.own none ty t.n 0 0 []],h,hr,hex.nilLoc ty t.n,rfl',⟨none,0,[],rfl,rfl,rfl⟩,rfl⟩
   | _=>simp only[Z7]at h;exact h.elim
  | mat ty ty2 t =>
   cases x with
   | own u =>
    cases m with
    | true=>exact hx.elim
    | false =>
    simp only[Z7]at h
    obtain⟨e,he,h⟩:=h
    obtain⟨kk,st,L⟩:=e
    have hkk:kk=u:=(Zq he).2
    subst hkk
    obtain⟨y,rfl,_,hy⟩:=hx
    have hy:=hy _ he
    obtain⟨es,E',h1,_,_,h3,h4⟩:=hr.del he
    cases L with
    | mat ty' ty2' t' mm hv =>
     simp only at h
     split at h
     ·rename_i m' hty hty2 hcast
      have hty:=eQ hty
      have hty2:=eQ hty2
      subst hty hty2
      obtain⟨c3,c4⟩:=ZX hcast
      cases c3;cases c4
      obtain⟨ob,cap,rows,es2,g1,g2,rfl⟩:=h1
      have g1:γ kk = .mat ob cap rows:=g1
      obtain⟨ob',cap',rows',g3,g4⟩:=hy
      rw[g1]at g3;cases g3
      exact⟨_,_,_,_,_,_,h,h4,hex.perm ((List.Perm.append_left ex h3).trans ZBd),Le.era hr kk,⟨ob,cap,rows,es2,by rw[g4],g2,rfl⟩,rfl⟩
     ·exact h.elim
    | box _ _=>exact h.elim
    | mid _ _ _ _ _ _=>exact h.elim
    | own _ _ _ _=>exact h.elim
   | nilS =>
    cases m with
    | true=>exact hx.elim
    | false =>
    simp only[Z7]at h
    have hx:cs=[.slice none 0 0]:=hx
    subst hx
    exact⟨_,l,γ,v,ℓ,[.own none ty 1 0 0 []],h,hr,hex.nilLoc ty 1,rfl',⟨none,0,[],[],rfl,rfl,rfl⟩,rfl⟩
   | _=>simp only[Z7]at h;exact h.elim
  | nl =>
   cases x with
   | nl =>
    simp only[Z7]at h
    have hx:cs=[]:=by cases m <;> exact hx
    exact⟨_,l,γ,v,ℓ,[],h,hr,hex,rfl',(by cases m <;> exact⟨hx,rfl⟩),rfl⟩
   | _=>simp only[Z7]at h;exact h.elim
  | one c =>
   cases x with
   | cons x1 x2 =>
    cases x2 with
    | nl =>
     simp only[Z7]at h
     cases m with
     | false =>
      obtain⟨c1,c2,rfl,h1,h2⟩:=hx
      have h2:c2=[]:=h2
      subst h2
      obtain⟨z,l1,γ1,v1,ℓ1,es,k1,k2,k3,k4,k5,k6⟩:=Z6e hn hX g h hr hex hk.1 h1
      exact⟨z,l1,γ1,v1,ℓ1,es,k1,k2,k3,k4,(by rw[List.append_nil];exact k5),rfl⟩
     | true =>
      obtain⟨c1,xs,rfl,h1,h2⟩:=hx
      have h2:xs=[]:=h2
      subst h2
      obtain⟨z,l1,γ1,v1,ℓ1,es,k1,k2,k3,k4,k5,k6⟩:=Z6e hn hX g h hr hex hk.1 h1
      exact⟨z,l1,γ1,v1,ℓ1,es,k1,k2,k3,k4,⟨c1,(by rw[Zrg k6]),k5⟩,rfl⟩
    | _=>simp only[Z7]at h;exact h.elim
   | _=>simp only[Z7]at h;exact h.elim
  | cons c d =>
   cases x with
   | cons x1 x2 =>
    simp only[Z7]at h
    have step:∀ {c1:List Value} {m2:Bool} {c2:List Value},RR v γ l false x1 c1→RR v γ l m2 x2 c2→∃ z l' γ' v' ℓ' e1 e2,Zj n (K z) f l' Post∧RelX N G w0 v0 U X f l' a w γ' v' ℓ'∧St N w0 v0 [] ((e1++e2)++(ex++ℓ')) v' a w∧Le U v γ l v' γ' l'∧CR v' c false z.1 c1 e1∧CR v' d m2 z.2 c2 e2∧x1.isAgg=c.isAgg:=by
     intro c1 m2 c2 h1 h2;obtain⟨z1,l1,γ1,v1,ℓ1,e1,k1,k2,k3,k4,k5,k6⟩:=Z6e hn hX g h hr hex hk.1 h1;obtain⟨z2,l2,γ2,v2,ℓ2,e2,q1,q2,q3,q4,q5,q6⟩:=Z6e hn hX g (ex:=e1++ex) k1 k2 (by rw[aAq];exact k3) hk.2 (Zjb k4 hk.2 h2);refine⟨(z1,z2),l2,γ2,v2,ℓ2,e1,e2,q1,q2,q3.perm ?_,k4.trans q4,Znl q4.v k5,q5,k6⟩;rw[aAq,aAq];exact ZBd
    cases m with
    | false =>
     obtain⟨c1,c2,rfl,h1,h2⟩:=hx;obtain⟨z,l1,γ1,v1,ℓ1,e1,e2,k1,k2,k3,k4,k5,k6,k7⟩:=step h1 h2;exact⟨z,l1,γ1,v1,ℓ1,_,k1,k2,k3,k4,⟨c1,c2,e1,e2,rfl,rfl,k5,k6⟩,rfl⟩
    | true =>
     obtain⟨c1,xs,rfl,h1,h2⟩:=hx;obtain⟨z,l1,γ1,v1,ℓ1,e1,e2,k1,k2,k3,k4,k5,k6,k7⟩:=step h1 h2;exact⟨z,l1,γ1,v1,ℓ1,_,k1,k2,k3,k4,⟨c1,xs,e1,e2,by rw[Zrg k7],rfl,k5,k6⟩,rfl⟩
   | _=>simp only[Z7]at h;exact h.elim
  | agg c =>
   cases x with
   | agg x1 =>
    cases m with
    | true=>exact hx.elim
    | false =>
    simp only[Z7]at h;obtain⟨z,l1,γ1,v1,ℓ1,es,k1,k2,k3,k4,k5,k6⟩:=Z6e hn hX g (x:=x1) (m:=false) h hr hex hk hx;exact⟨z,l1,γ1,v1,ℓ1,es,k1,k2,k3,k4,k5,rfl⟩
   | _=>simp only[Z7]at h;exact h.elim
  | box ty c =>
   cases x with
   | ptr u off =>
    cases off with
    | succ k=>simp only[Z7]at h;exact h.elim
    | zero =>
    cases m with
    | true=>exact hx.elim
    | false =>
    simp only[Z7]at h;obtain⟨e,he,h⟩:=h;obtain⟨kk,st,L⟩:=e;obtain⟨hm,hkk⟩:=Zq he;have hkk:kk=u:=hkk;subst hkk;obtain⟨y,rfl,_,hy⟩:=hx;have hy:=hy _ he;obtain⟨es,E',h1,_,_,h3,h4⟩:=hr.del he
    cases L with
    | box ty' x1 =>
     simp only at h;split at h
     ·rename_i hty;have hty:=eQ hty;subst hty;obtain⟨b,c1,g1,g2,g3,rfl⟩:=h1;have g1:γ kk = .box b:=g1;obtain⟨b',g4,g5⟩:=hy;rw[g1]at g4;cases g4;have hk1:x1.ok U:=(hr.ul _ hm).2.2;obtain⟨z,l1,γ1,v1,ℓ1,e1,k1,k2,k3,k4,k5,k6⟩:=Z6e hn hX g (ex:=.box b ty c1 :: ex) h h4 (hex.perm ((List.Perm.append_left ex h3).trans ZBd)) hk1 (Zjb (Le.era hr kk) hk1 g2);refine⟨z,l1,γ1,v1,ℓ1,.box b ty c1 :: e1,k1,k2,k3.perm ?_,(Le.era hr kk).trans k4,⟨b,c1,e1,by rw[g5],k5,g3,rfl⟩,rfl⟩;exact List.perm_middle
     ·exact h.elim
    | own _ _ _ _=>exact h.elim
    | mid _ _ _ _ _ _=>exact h.elim
    | mat _ _ _ _ _=>exact h.elim
   | _=>simp only[Z7]at h;exact h.elim
theorem Z7v {ρ:Type} {g:Nat} {c:CT} {q:V} {K:c.den→Ev ρ} {l:Lo} {Post:ρ→Fr→Lo→Prop} (h:Zj n (Z7 g c (.tup q) K) f l Post):False:=by
 cases g with
 | zero=>exact h
 | succ g =>
  cases c with
  | dat t =>
   simp only[Z7]at h;have:∀ (g:Nat),Zj n (conv g t (.tup q) K) f l Post→False:=λg h=>by cases g <;> exact h
   exact this _ h
  | _=>simp only[Z7]at h;exact h
end
theorem F2.append {α β:Type} {R:α→β→Prop}:∀ {l l':List α} {m m':List β},F2 R l m→F2 R l' m'→F2 R (l++l') (m++m')
 | [],_,[],_,_,k=>k
 | _ :: _,_,_ :: _,_,h,k=>⟨h.1,F2.append h.2 k⟩
 | [],_,_ :: _,_,h,_=>h.elim
 | _ :: _,_,[],_,h,_=>h.elim
theorem Z0k {la lb:Lo} {γa γb:Nat→Gh} {γ:Nat→Gh} {l:Lo} (h:∀ e ∈ la++lb,γ e.k=(if e.k ∈ la.map En.k then γa e.k else γb e.k)∧lkE l e.k=some e):∀ e ∈ la,γ e.k=γa e.k∧lkE l e.k=some e:=λe he=>by
 obtain⟨h1,h2⟩:=h e (List.mem_append_left _ he)
 rw[iP (List.mem_map.2 ⟨e,he,rfl⟩)]at h1
 exact⟨h1,h2⟩
theorem Zxn {la lb:Lo} {γa γb:Nat→Gh} {γ:Nat→Gh} {l:Lo} (hd:∀ e ∈ lb,e.k ∉ la.map En.k) (h:∀ e ∈ la++lb,γ e.k=(if e.k ∈ la.map En.k then γa e.k else γb e.k)∧lkE l e.k=some e):∀ e ∈ lb,γ e.k=γb e.k∧lkE l e.k=some e:=λe he=>by
 obtain⟨h1,h2⟩:=h e (List.mem_append_right _ he)
 rw[iN (hd e he)]at h1
 exact⟨h1,h2⟩
theorem ZXj {la lb:Lo} (ha:(la.map En.k).Nodup) (hb:(lb.map En.k).Nodup) (hd:∀ e ∈ lb,e.k ∉ la.map En.k):((la++lb).map En.k).Nodup:=by
 rw[List.map_append];refine List.nodup_append.2 ⟨ha,hb,λx hx y hy e=>?_⟩;subst e;obtain⟨e,he,rfl⟩:=List.mem_map.1 hy;exact hd e he hx
theorem ZGp {v:Zb}:∀ (c:CT) {m:Bool} {z:c.den} {cs:List Value} {es:List Loc} (n:Nat) {x:V} {l2:Lo} {n2:Nat},CR v c m z cs es→Zh c z n=(x,l2,n2) →
  n≤n2∧(∀ e ∈ l2,n≤e.k∧e.k<n2∧n≤e.st∧e.st<n2∧e.x.ok (· < n2) (· < n2))∧(l2.map En.k).Nodup∧x.ok (· < n2)∧x.isAgg=c.isAgg ∧
  ∃ γ0:Nat→Gh,∀ (γ:Nat→Gh) (l:Lo),(∀ e ∈ l2,γ e.k=γ0 e.k∧lkE l e.k=some e)→RR v γ l m x cs∧∃ E,F2 (Zma v γ l) l2 E∧es.Perm E.flatten:=by
 intro c
 induction c with
 | dat t =>
  intro m z cs es n x l2 n2 h hi
  cases m with
  | true=>exact h.elim
  | false =>
  cases hi
  obtain⟨h1,rfl⟩:=h;exact⟨Nat.le_refl _,λe he=>(by cases he),List.nodup_nil,trivial,rfl,λ_=>.box 0,λγ l _=>⟨h1,[],trivial,List.Perm.refl _⟩⟩
 | own ty t =>
  intro m z cs es n x l2 n2 h hi
  cases m with
  | true=>exact h.elim
  | false =>
  cases hi
  obtain⟨ob,cap,d,rfl,h2,rfl⟩:=h;refine⟨Nat.le_succ _,λe he=>?_,?_,Nat.lt_succ_self n,rfl,λ_=>.own ob cap,λγ l hl=>?_⟩
  ·rcases List.mem_singleton.1 he with rfl;exact⟨Nat.le_refl _,Nat.lt_succ_self _,Nat.le_refl _,Nat.lt_succ_self _,trivial⟩
  ·exact List.nodup_cons.2 ⟨by simp,List.nodup_nil⟩
  ·obtain⟨hg,hlk⟩:=hl _ (List.mem_singleton.2 rfl);refine⟨⟨_,rfl,rfl,λe he=>?_⟩,[_],⟨⟨ob,cap,d,hg,h2,rfl⟩,trivial⟩,List.Perm.refl _⟩;rw[show lkE l n=_ from hlk]at he;cases he;exact⟨ob,cap,hg,rfl⟩
 | mat ty ty2 t =>
  intro m z cs es n x l2 n2 h hi
  cases m with
  | true=>exact h.elim
  | false =>
  cases hi
  obtain⟨ob,cap,rows,es2,rfl,h2,rfl⟩:=h;refine⟨Nat.le_succ _,λe he=>?_,?_,Nat.lt_succ_self n,rfl,λ_=>.mat ob cap rows,λγ l hl=>?_⟩
  ·rcases List.mem_singleton.1 he with rfl;exact⟨Nat.le_refl _,Nat.lt_succ_self _,Nat.le_refl _,Nat.lt_succ_self _,Nat.lt_succ_self n⟩
  ·exact List.nodup_cons.2 ⟨by simp,List.nodup_nil⟩
  ·obtain⟨hg,hlk⟩:=hl _ (List.mem_singleton.2 rfl);refine⟨⟨_,rfl,rfl,λe he=>?_⟩,[_],⟨⟨ob,cap,rows,es2,hg,h2,rfl⟩,trivial⟩,by simp⟩;rw[show lkE l n=_ from hlk]at he;cases he;exact⟨ob,cap,rows,hg,rfl⟩
 | nl =>
  intro m z cs es n x l2 n2 h hi
  cases hi
  have h:cs=[]∧es=[]:=by cases m <;> exact h
  obtain⟨rfl,rfl⟩:=h;exact⟨Nat.le_refl _,λe he=>(by cases he),List.nodup_nil,trivial,rfl,λ_=>.box 0,λγ l _=>⟨by cases m <;> rfl,[],trivial,List.Perm.refl _⟩⟩
 | one c ih =>
  intro m z cs es n x l2 n2 h hi;have hi:((.cons (Zh c z n).1 .nl:V),(Zh c z n).2.1,(Zh c z n).2.2)=(x,l2,n2):=hi
  cases hi
  cases m with
  | false =>
   obtain⟨k1,k2,k3,k4,k5,γ0,k6⟩:=ih n (x:=(Zh c z n).1) (l2:=(Zh c z n).2.1) (n2:=(Zh c z n).2.2) h rfl;exact⟨k1,k2,k3,⟨k4,trivial⟩,rfl,γ0,λγ l hl=>⟨⟨cs,[],by simp,(k6 γ l hl).1,rfl⟩,(k6 γ l hl).2⟩⟩
  | true =>
   obtain⟨c1,rfl,h⟩:=h;obtain⟨k1,k2,k3,k4,k5,γ0,k6⟩:=ih n (x:=(Zh c z n).1) (l2:=(Zh c z n).2.1) (n2:=(Zh c z n).2.2) h rfl;exact⟨k1,k2,k3,⟨k4,trivial⟩,rfl,γ0,λγ l hl=>⟨⟨c1,[],by rw[Zrg k5],(k6 γ l hl).1,rfl⟩,(k6 γ l hl).2⟩⟩
 | cons c d ia ib =>
  intro m z cs es n x l2 n2 h hi;have hi:((.cons (Zh c z.1 n).1 (Zh d z.2 (Zh c z.1 n).2.2).1:V),(Zh c z.1 n).2.1++(Zh d z.2 (Zh c z.1 n).2.2).2.1,(Zh d z.2 (Zh c z.1 n).2.2).2.2)=(x,l2,n2):=hi
  cases hi
  have step:∀ {c1 c2:List Value} {m2:Bool} {e1 e2:List Loc},CR v c false z.1 c1 e1→CR v d m2 z.2 c2 e2→es=e1++e2→n≤(Zh d z.2 (Zh c z.1 n).2.2).2.2∧(∀ e ∈ (Zh c z.1 n).2.1++(Zh d z.2 (Zh c z.1 n).2.2).2.1,n≤e.k∧e.k<(Zh d z.2 (Zh c z.1 n).2.2).2.2∧n≤e.st∧e.st<(Zh d z.2 (Zh c z.1 n).2.2).2.2∧e.x.ok (· < (Zh d z.2 (Zh c z.1 n).2.2).2.2) (· < (Zh d z.2 (Zh c z.1 n).2.2).2.2))∧(((Zh c z.1 n).2.1++(Zh d z.2 (Zh c z.1 n).2.2).2.1).map En.k).Nodup∧((Zh c z.1 n).1.ok (· < (Zh d z.2 (Zh c z.1 n).2.2).2.2)∧(Zh d z.2 (Zh c z.1 n).2.2).1.ok (· < (Zh d z.2 (Zh c z.1 n).2.2).2.2))∧(Zh c z.1 n).1.isAgg=c.isAgg ∧
    ∃ γ0:Nat→Gh,∀ (γ:Nat→Gh) (l:Lo),(∀ e ∈ (Zh c z.1 n).2.1++(Zh d z.2 (Zh c z.1 n).2.2).2.1,γ e.k=γ0 e.k∧lkE l e.k=some e)→RR v γ l false (Zh c z.1 n).1 c1∧RR v γ l m2 (Zh d z.2 (Zh c z.1 n).2.2).1 c2∧∃ E,F2 (Zma v γ l) ((Zh c z.1 n).2.1++(Zh d z.2 (Zh c z.1 n).2.2).2.1) E∧es.Perm E.flatten:=by
   intro c1 c2 m2 e1 e2 h1 h2 he;obtain⟨k1,k2,k3,k4,k5,γa,k6⟩:=ia n (x:=(Zh c z.1 n).1) (l2:=(Zh c z.1 n).2.1) (n2:=(Zh c z.1 n).2.2) h1 rfl;obtain⟨q1,q2,q3,q4,q5,γb,q6⟩:=ib (Zh c z.1 n).2.2 (x:=(Zh d z.2 (Zh c z.1 n).2.2).1) (l2:=(Zh d z.2 (Zh c z.1 n).2.2).2.1) (n2:=(Zh d z.2 (Zh c z.1 n).2.2).2.2) h2 rfl;have hd:∀ e ∈ (Zh d z.2 (Zh c z.1 n).2.2).2.1,e.k ∉ ((Zh c z.1 n).2.1).map En.k:=λe he hm=>by
    obtain⟨e',he',hk⟩:=List.mem_map.1 hm;have:=(k2 e' he').2.1;have:=(q2 e he).1;omega
   have up:∀ k,k<(Zh c z.1 n).2.2→k<(Zh d z.2 (Zh c z.1 n).2.2).2.2:=λk hk=>Nat.lt_of_lt_of_le hk q1;refine⟨Nat.le_trans k1 q1,λe he=>?_,ZXj k3 q3 hd,⟨V.ok.mono up k4,q4⟩,k5,λk=>if k ∈ ((Zh c z.1 n).2.1).map En.k then γa k else γb k,λγ l hl=>⟨(k6 γ l (Z0k hl)).1,(q6 γ l (Zxn hd hl)).1,?_⟩⟩
   ·rcases List.mem_append.1 he with he | he
    ·obtain⟨r1,r2,r3,r4,r5⟩:=k2 e he;exact⟨r1,up _ r2,r3,up _ r4,LV.ok.mono up up r5⟩
    ·obtain⟨r1,r2,r3,r4,r5⟩:=q2 e he;exact⟨Nat.le_trans k1 r1,r2,Nat.le_trans k1 r3,r4,r5⟩
   ·obtain⟨E1,g1,g2⟩:=(k6 γ l (Z0k hl)).2;obtain⟨E2,g3,g4⟩:=(q6 γ l (Zxn hd hl)).2;exact⟨E1++E2,g1.append g3,by rw[he,List.flatten_append];exact g2.append g4⟩
  cases m with
  | false =>
   obtain⟨c1,c2,e1,e2,rfl,he,h1,h2⟩:=h;obtain⟨k1,k2,k3,k4,k5,γ0,k6⟩:=step h1 h2 he;exact⟨k1,k2,k3,k4,rfl,γ0,λγ l hl=>⟨⟨c1,c2,rfl,(k6 γ l hl).1,(k6 γ l hl).2.1⟩,(k6 γ l hl).2.2⟩⟩
  | true =>
   obtain⟨c1,c2,e1,e2,rfl,he,h1,h2⟩:=h;obtain⟨k1,k2,k3,k4,k5,γ0,k6⟩:=step h1 h2 he;exact⟨k1,k2,k3,k4,rfl,γ0,λγ l hl=>⟨⟨c1,c2,by rw[Zrg k5],(k6 γ l hl).1,(k6 γ l hl).2.1⟩,(k6 γ l hl).2.2⟩⟩
 | agg c ih =>
  intro m z cs es n x l2 n2 h hi
  cases m with
  | true=>exact h.elim
  | false =>
  have hi:((.agg (Zh c z n).1:V),(Zh c z n).2.1,(Zh c z n).2.2)=(x,l2,n2):=hi
  cases hi
  obtain⟨k1,k2,k3,k4,k5,γ0,k6⟩:=ih (m:=false) n (x:=(Zh c z n).1) (l2:=(Zh c z n).2.1) (n2:=(Zh c z n).2.2) h rfl;exact⟨k1,k2,k3,k4,rfl,γ0,k6⟩
 | box ty c ih =>
  intro m z cs es n x l2 n2 h hi
  cases m with
  | true=>exact h.elim
  | false =>
  have hi:((.ptr n 0:V),(⟨n,n,.box ty (Zh c z (n+1)).1⟩ :: (Zh c z (n+1)).2.1:Lo),(Zh c z (n+1)).2.2)=(x,l2,n2):=hi
  cases hi
  obtain⟨b,c1,e1,rfl,h2,h3,rfl⟩:=h;obtain⟨k1,k2,k3,k4,k5,γ0,k6⟩:=ih (m:=false) (n+1) (x:=(Zh c z (n+1)).1) (l2:=(Zh c z (n+1)).2.1) (n2:=(Zh c z (n+1)).2.2) h2 rfl;have hd:∀ e ∈ (Zh c z (n+1)).2.1,e.k≠n:=λe he hk=>by have:=(k2 e he).1;omega
  refine⟨by omega,λe he=>?_,List.nodup_cons.2 ⟨λhm=>?_,k3⟩,(show n<_ by omega),rfl,λk=>if k=n then .box b else γ0 k,λγ l hl=>?_⟩
  ·rcases List.mem_cons.1 he with rfl | he
   ·exact⟨Nat.le_refl _,(show n<_ by omega),Nat.le_refl _,(show n<_ by omega),k4⟩
   ·obtain⟨r1,r2,r3,r4,r5⟩:=k2 e he;exact⟨by omega,r2,by omega,r4,r5⟩
  ·obtain⟨e,he,hk⟩:=List.mem_map.1 hm;exact hd e he hk
  ·obtain⟨hg,hlk⟩:=hl _ List.mem_cons_self;have hg:γ n = .box b:=by rw[show γ n=_ from hg];exact iP rfl
   obtain⟨q1,E,q2,q3⟩:=k6 γ l λe he=>by
    obtain⟨r1,r2⟩:=hl e (List.mem_cons_of_mem _ he);exact⟨r1.trans (iN (hd e he)),r2⟩
   refine⟨⟨_,rfl,rfl,λe he=>?_⟩,[_] :: E,⟨⟨b,c1,hg,q1,h3,rfl⟩,q2⟩,by rw[List.flatten_cons];exact List.Perm.cons _ q3⟩;rw[show lkE l n=_ from hlk]at he;cases he;exact⟨b,hg,rfl⟩
end Go.Eng
namespace Go.Eng
open Go.RowKit
theorem Zfw {v v':Zb} (h:v.le v') {c:CT} {z:c.den} {g:Gh} {es:List Loc} (k:CRL v c z g es):CRL v' c z g es:=by
 cases c with
 | own ty t=>obtain⟨ob,cap,d,h1,h2,h3⟩:=k;exact⟨ob,cap,d,h1,ZL h h2,h3⟩
 | mat ty ty2 t=>obtain⟨ob,cap,rows,es2,h1,h2,h3⟩:=k;exact⟨ob,cap,rows,es2,h1,ZOc h h2,h3⟩
 | box ty c=>obtain⟨b,c1,e1,h1,h2,h3,h4⟩:=k;exact⟨b,c1,e1,h1,Znl h h2,h3,h4⟩
 | agg c=>cases c with
  | mat ty ty2 t=>obtain⟨ob,cap,rows,es2,h1,h2,h3⟩:=k;exact⟨ob,cap,rows,es2,h1,ZOc h h2,h3⟩
  | _=>exact k.elim
 | _=>exact k.elim
def Zcg (p:Nat→Prop) (h:Nat):(c:CT)→c.den→LV→Prop
 | .own ty t,z,L=>L = .own ty t z false
 | .mat ty ty2 t,z,L=>∃ hv,p hv∧L = .mat ty ty2 t z hv
 | .box ty _,_,L=>∃ x,L = .box ty x
 | .agg (.mat ty ty2 t),z,L=>L = .mat ty ty2 t z h
 | _,_,_=>False
theorem ZTx {U:Nat→Prop} {γ1 γ2 γ3:Nat→Gh} {u s1 s2 s3:Nat} {x1 x2 x3:LV} (c1:CE U γ1 γ2 u s1 s2 x1 x2) (c2:CE U γ2 γ3 u s2 s3 x2 x3):CE U γ1 γ3 u s1 s3 x1 x3:=CE.tr c1 c2
theorem Zpm {U U':Nat→Prop} {γ γ1 γ2:Nat→Gh} {u s s':Nat} {x x':LV} (hU:∀ k,U k→U' k) (hg:γ2 u=γ1 u) (c:CE U' γ γ1 u s s' x x'):CE U γ γ2 u s s' x x':=by
  cases x <;> cases x' <;> simp only[CE]at c ⊢
  · rw[hg,c]
  · exact⟨hg.trans c.1,c.2.1,c.2.2.1,λh=>c.2.2.2 (hU _ h)⟩
  all_goals first
    | (obtain⟨ob,cap,rows,a1,a2,a3⟩:=c;exact⟨ob,cap,rows,a1,hg.trans a2,a3⟩)
    | (obtain⟨a1,a2,⟨ob,cap,rows,rows',a3,a4,a5⟩,a6⟩:=c
       exact⟨a1,a2,⟨ob,cap,rows,rows',a3,hg.trans a4,λh=>a5 (hU _ h)⟩,λh=>a6 (hU _ h)⟩)
theorem CE_head {U:Nat→Prop} {γ γ':Nat→Gh} {u s s' n0 hh:Nat} {c:CT} {z:c.den} {L L':LV} {v:Zb} {es:List Loc} (hU:∀ k,n0≤k→¬ U k) (hs:n0≤s') (h:Zcg (λ_=>True) hh c z L) (h':Zcg (n0≤·) hh c z L') (hg:γ' u=γ u) (hc:CRL v c z (γ u) es):CE U γ γ' u s s' L L':=by
 cases c with
 | own ty t=>subst h;subst h';exact⟨hg,rfl,rfl,λe=>absurd e (hU _ hs)⟩
 | mat ty ty2 t =>
  obtain⟨hv,_,rfl⟩:=h;obtain⟨hv',h2,rfl⟩:=h';obtain⟨ob,cap,rows,es2,h3,h4,h5⟩:=hc;exact⟨rfl,rfl,⟨ob,cap,rows,rows,h3,hg.trans h3,λe=>absurd e (hU _ h2)⟩,λe=>absurd e (hU _ hs)⟩
 | box ty c=>obtain⟨x,rfl⟩:=h;obtain⟨x',rfl⟩:=h';exact hg
 | agg c=>cases c with
  | mat ty ty2 t =>
   subst h;subst h';obtain⟨ob,cap,rows,es2,h3,h4,h5⟩:=hc;exact⟨rfl,rfl,⟨ob,cap,rows,rows,h3,hg.trans h3,λ_=>⟨rfl,rfl,rfl⟩⟩,λe=>absurd e (hU _ hs)⟩
  | _=>exact h.elim
 | _=>exact h.elim
section
variable {N:Nat} {G:V→Value→Prop} {w0:Base} {v0:Zb} {U X:Nat→Prop} {f:Fr} {a:Act} {w:World} {n:Nat}
theorem ZMn {ρ:Type} (hn:¬ U n) (hX:X n) {hh:Nat} {c:CT} {u:Nat} (hu:U u) {K:c.den→Ev ρ} {l:Lo} {Post:ρ→Fr→Lo→Prop} {γ:Nat→Gh} {v:Zb} {ℓ ex:List Loc}
  (h:Zj n (ZQc hh c u K) f l Post) (hr:RelX N G w0 v0 U X f l a w γ v ℓ) (hex:St N w0 v0 [] (ex++ℓ) v a w) :
  ∃ z l' γ' v' ℓ' es e0,Zj n (K z) f l' Post∧RelX N G w0 v0 U X f l' a w γ' v' ℓ'∧St N w0 v0 [] (es++(ex++ℓ')) v' a w∧Le U v γ l v' γ' l'∧CRL v' c z (γ u) es∧lkE l u=some e0∧lkE l' u=none∧Zcg (λ_=>True) hh c z e0.x:=by
 cases c with
 | own ty t =>
  simp only[ZQc]at h;obtain⟨e,he,h⟩:=h;obtain⟨kk,st,L⟩:=e;have hkk:kk=u:=(Zq he).2;subst hkk;obtain⟨es,E',h1,_,_,h3,h4⟩:=hr.del he
  cases L with
  | own ty' t' xs fz =>
   cases fz with
   | true=>exact h.elim
   | false =>
    simp only at h;split at h
    ·rename_i ys hty hcast;have hty:=eQ hty;subst hty;obtain⟨c3,c4⟩:=ZX hcast
     cases c3;cases c4
     obtain⟨ob,cap,d,g1,g2,rfl⟩:=h1;exact⟨_,_,_,_,_,_,_,h,h4,hex.perm ((List.Perm.append_left ex h3).trans ZBd),Le.era hr kk,⟨ob,cap,d,g1,g2,rfl⟩,he,Zpi (ZRb hr.nd).2,rfl⟩
    ·exact h.elim
  | box _ _=>exact h.elim
  | mid _ _ _ _ _ _=>exact h.elim
  | mat _ _ _ _ _=>exact h.elim
 | mat ty ty2 t =>
  simp only[ZQc]at h;obtain⟨e,he,h⟩:=h;obtain⟨kk,st,L⟩:=e;have hkk:kk=u:=(Zq he).2;subst hkk;obtain⟨es,E',h1,_,_,h3,h4⟩:=hr.del he
  cases L with
  | mat ty' ty2' t' mm hv =>
   simp only at h;split at h
   ·rename_i m' hty hty2 hcast;have hty:=eQ hty;have hty2:=eQ hty2;subst hty hty2;obtain⟨c3,c4⟩:=ZX hcast
    cases c3;cases c4
    obtain⟨ob,cap,rows,es2,g1,g2,rfl⟩:=h1;exact⟨_,_,_,_,_,_,_,h,h4,hex.perm ((List.Perm.append_left ex h3).trans ZBd),Le.era hr kk,⟨ob,cap,rows,es2,g1,g2,rfl⟩,he,Zpi (ZRb hr.nd).2,hv,trivial,rfl⟩
   ·exact h.elim
  | box _ _=>exact h.elim
  | mid _ _ _ _ _ _=>exact h.elim
  | own _ _ _ _=>exact h.elim
 | box ty c =>
  simp only[ZQc]at h;obtain⟨e,he,h⟩:=h;obtain⟨kk,st,L⟩:=e;obtain⟨hm,hkk⟩:=Zq he;have hkk:kk=u:=hkk;subst hkk;obtain⟨es,E',h1,_,_,h3,h4⟩:=hr.del he
  cases L with
  | box ty' x1 =>
   simp only at h;split at h
   ·rename_i hty;have hty:=eQ hty;subst hty;obtain⟨b,c1,g1,g2,g3,rfl⟩:=h1;have hk1:x1.ok U:=(hr.ul _ hm).2.2;obtain⟨z,l1,γ1,v1,ℓ1,e1,k1,k2,k3,k4,k5,k6⟩:=Z6e hn hX FU (ex:=.box b ty c1 :: ex) h h4 (hex.perm ((List.Perm.append_left ex h3).trans ZBd)) hk1 (Zjb (Le.era hr kk) hk1 g2);refine⟨z,l1,γ1,v1,ℓ1,.box b ty c1 :: e1,_,k1,k2,k3.perm ?_,(Le.era hr kk).trans k4,⟨b,c1,e1,g1,k5,g3,rfl⟩,he,?_,x1,rfl⟩
    ·exact List.perm_middle
    ·cases hx:lkE l1 kk with
     | none=>rfl
     | some e' =>
      obtain⟨e,he2,_⟩:=k4.l kk e' hu hx;rw[Zpi (ZRb hr.nd).2]at he2;cases he2
   ·exact h.elim
  | own _ _ _ _=>exact h.elim
  | mid _ _ _ _ _ _=>exact h.elim
  | mat _ _ _ _ _=>exact h.elim
 | agg c=>cases c with
  | mat ty ty2 t =>
   simp only[ZQc]at h;obtain⟨e,he,h⟩:=h;obtain⟨kk,st,L⟩:=e;have hkk:kk=u:=(Zq he).2;subst hkk;obtain⟨es,E',h1,_,_,h3,h4⟩:=hr.del he
   cases L with
   | mat ty' ty2' t' mm hv =>
    simp only at h;split at h
    ·rename_i m' hty hty2 hcast hhv;have hty:=eQ hty;have hty2:=eQ hty2;have hhv:=eQ hhv;subst hty hty2 hhv;obtain⟨c3,c4⟩:=ZX hcast
     cases c3;cases c4
     obtain⟨ob,cap,rows,es2,g1,g2,rfl⟩:=h1;exact⟨_,_,_,_,_,_,_,h,h4,hex.perm ((List.Perm.append_left ex h3).trans ZBd),Le.era hr kk,⟨ob,cap,rows,es2,g1,g2,rfl⟩,he,Zpi (ZRb hr.nd).2,rfl⟩
    ·exact h.elim
   | box _ _=>exact h.elim
   | mid _ _ _ _ _ _=>exact h.elim
   | own _ _ _ _=>exact h.elim
  | _=>simp only[ZQc]at h;exact h.elim
 | _=>simp only[ZQc]at h;exact h.elim
end
theorem ZHi:∀ (g:Nat) {x z:V} {off n:Nat} {ag:Bool} {U:Nat→Prop},Zga g x off n ag=some z→x.ok U→z.ok U
 | 0,_,_,_,_,_,_,h,_=>by cases h
 | g+1,x,z,off,n,ag,U,h,hk=>by
  have whole:∀ {y:V},(match Nat.beq off 0,Nat.beq y.size n,eqB y.isAgg ag with
    | true,true,true=>some y
    | _,_,_=>match y with
     | .agg c=>Zga g c off n ag
     | .data t x=>match Z9b t x with
      | some c=>Zga g c off n ag
      | none=>none
     | _=>none)=some z→y.ok U→z.ok U:=by
   intro y hy hk;split at hy
   ·cases hy;exact hk
   ·split at hy
    ·exact ZHi g hy hk
    ·split at hy
     ·rename_i he;exact ZHi g hy (ZKr he)
     ·cases hy
    ·cases hy
  cases x with
  | nl=>simp only[Zga]at h;cases h
  | cons a b =>
   simp only[Zga]at h;split at h
   ·exact ZHi g h hk.1
   ·split at h
    ·exact ZHi g h hk.2
    ·cases h
  | data t x=>exact whole (y:=.data t x) h hk
  | agg c=>exact whole (y:=.agg c) h hk
  | nilS=>exact whole (y:=.nilS) h hk
  | own u=>exact whole (y:=.own u) h hk
  | row u i hv cv t r=>exact whole (y:=.row u i hv cv t r) h hk
  | ptr u o=>exact whole (y:=.ptr u o) h hk
  | el u i cv t x o=>exact whole (y:=.el u i cv t x o) h hk
  | rp u i hv cv t r=>exact whole (y:=.rp u i hv cv t r) h hk
  | rel u i j hv cv t r x o=>exact whole (y:=.rel u i j hv cv t r x o) h hk
  | vp t x o=>exact whole (y:=.vp t x o) h hk
  | tup c=>exact whole (y:=.tup c) h hk
  | fn f c=>exact whole (y:=.fn f c) h hk
  | ifc f c=>exact whole (y:=.ifc f c) h hk
  | undef=>exact whole (y:=.undef) h hk
structure H0 (G:V→Value→Prop) (n0:Nat) (f0:Fr) (l0:Lo):Prop where
 f:∀ t e,lkE f0 t=some e→e.x.ok (· < n0)∧e.st<n0
 l:∀ e ∈ l0,e.k<n0∧e.st<n0∧e.x.ok (· < n0) (· < n0)
 nd:(l0.map En.k).Nodup
 g:∀ x y,G x y→x.ok (· < n0)
theorem Rel.h0 {N:Nat} {G:V→Value→Prop} {w0:Base} {v0:Zb} {n:Nat} {f:Fr} {l:Lo} {a:Act} {w:World} (h:Rel N G w0 v0 (· < n) f l a w):H0 G n f l:=by
 obtain⟨γ,v,ℓ,h⟩:=h;exact⟨h.uf,h.ul,h.nd,λx y hg=>(h.gh x y hg).2⟩
theorem hvOf_le {G:V→Value→Prop} {n0:Nat} {f0:Fr} {l0:Lo} (h0:H0 G n0 f0 l0) (u:Nat):ZEa l0 u≤n0:=by
 unfold ZEa;split
 ·rename_i he;exact Nat.le_of_lt (h0.l _ (Zq he).1).2.2
 ·exact Nat.zero_le _
theorem Zsq {x:V} {u n:Nat} (h:idV x=some u) (hk:x.ok (· < n)):u<n:=by
 unfold idV at h;split at h
 ·cases h;exact hk
 ·cases h;exact hk
 ·cases h
theorem Zdm {G:V→Value→Prop} {n0:Nat} {f0:Fr} {l0:Lo} (h0:H0 G n0 f0 l0):∀ {p:Pl} {u:Nat},Zpc f0 l0 p=some u→u<n0
 | .sl s,u,h=>by
  simp only[Zpc]at h
  split at h
  ·rename_i e he;exact Zsq h (h0.f _ _ he).1
  ·cases h
 | .fld p off,u,h=>by
  simp only[Zpc]at h
  split at h
  ·split at h
   ·rename_i he
    split at h
    ·rename_i hg
     have:=(h0.l _ (Zq he).1).2.2
     exact Zsq h (ZHi FU hg this)
    ·cases h
   ·cases h
  ·cases h
def SRel (a:Act) (v:Zb) (t:Nat) (c:CT) (z:c.den) (es:List Loc):Prop:=∃ cs,a.tmps.getD t undef=c.vl cs∧CR v c false z cs es
def LRel (v:Zb) (γ:Nat→Gh) (l:Lo) (n0:Nat) (f0:Fr) (l0:Lo) (u:Nat) (p:Pl) (c:CT) (z:c.den) (es:List Loc):Prop :=
 Zpc f0 l0 p=some u∧∃ g e0,lkE l u=some e0∧CRL v c z g es∧∀ (γ':Nat→Gh) (st':Nat) (L':LV),γ' u=g→n0≤st'→Zcg (n0≤·) (ZEa l0 u) c z L'→CE (· < n0) γ γ' u e0.st st' e0.x L'
def VRel (a:Act) (v:Zb) (γ:Nat→Gh) (l:Lo) (n0:Nat) (f0:Fr) (l0:Lo):(vs:List Vr)→(ctL (vs.map Vr.ct)).den→List Loc→List Nat→Prop
 | [],_,es,us=>es=[]∧us=[]
 | [.s t c],z,es,us=>us=[]∧SRel a v t c z es
 | [.l p c],z,es,us=>∃ u,us=[u]∧LRel v γ l n0 f0 l0 u p c z es
 | .s t c :: w :: r,z,es,us=>∃ e1 e2,es=e1++e2∧SRel a v t c z.1 e1∧VRel a v γ l n0 f0 l0 (w :: r) z.2 e2 us
 | .l p c :: w :: r,z,es,us=>∃ e1 e2 u us',es=e1++e2∧us=u :: us'∧LRel v γ l n0 f0 l0 u p c z.1 e1∧VRel a v γ l n0 f0 l0 (w :: r) z.2 e2 us'
theorem ZSu {a:Act} {v v':Zb} (h:v.le v') {t:Nat} {c:CT} {z:c.den} {es:List Loc} (k:SRel a v t c z es):SRel a v' t c z es:=by
 obtain⟨cs,h1,h2⟩:=k;exact⟨cs,h1,Znl h h2⟩
theorem ZMt {v v':Zb} (h:v.le v') {γ:Nat→Gh} {l:Lo} {n0:Nat} {f0:Fr} {l0:Lo} {u:Nat} {p:Pl} {c:CT} {z:c.den} {es:List Loc} (k:LRel v γ l n0 f0 l0 u p c z es):LRel v' γ l n0 f0 l0 u p c z es:=by
 obtain⟨h1,g,e0,h2,h3,h4⟩:=k;exact⟨h1,g,e0,h2,Zfw h h3,h4⟩
section
variable {N:Nat} {G:V→Value→Prop} {w0:Base} {v0:Zb} {f:Fr} {a:Act} {w:World} {n:Nat}
theorem Zlq {ρ:Type} {t:Nat} {c:CT} {K:c.den→Ev ρ} {l:Lo} {Post:ρ→Fr→Lo→Prop} {γ:Nat→Gh} {v:Zb} {ℓ ex:List Loc}
  (h:Zj n (.rdS t λv=>Z7 FU c v K) f l Post) (hr:RelX N G w0 v0 (· < n) (· < n+1) f l a w γ v ℓ) (hex:St N w0 v0 [] (ex++ℓ) v a w) :
  ∃ z l' γ' v' ℓ' es,Zj n (K z) f l' Post∧RelX N G w0 v0 (· < n) (· < n+1) f l' a w γ' v' ℓ'∧St N w0 v0 [] (es++(ex++ℓ')) v' a w∧Le (· < n) v γ l v' γ' l'∧SRel a v' t c z es:=by
 obtain⟨e,he,h⟩:=h;have hrv:=hr.fr t e he;obtain⟨cs,hcs,hy⟩:=Zpb hrv (λq hq=>by rw[hq]at h;exact Z7v h);obtain⟨z,l',γ',v',ℓ',es,k1,k2,k3,k4,k5,k6⟩:=Z6e (U:=(· < n)) (X:=(· < n+1)) (Nat.lt_irrefl n) (Nat.lt_succ_self n) FU h hr hex (hr.uf t e he).1 hcs;exact⟨z,l',γ',v',ℓ',es,k1,k2,k3,k4,cs,by rw[hy,Zrg k6],k5⟩
theorem ZSo {ρ:Type} {u:Nat} {p:Pl} {c:CT} {K:c.den→Ev ρ} {l lE f0l:Lo} {f0:Fr} {n0:Nat} {Post:ρ→Fr→Lo→Prop} {γ γE:Nat→Gh} {v vE:Zb} {ℓ ex:List Loc} (h0:H0 G n0 f0 f0l) (hn0:n0≤n) (hid:Zpc f0 f0l p=some u)
  (h:Zj n (ZQc (ZEa f0l u) c u K) f l Post) (hr:RelX N G w0 v0 (· < n) (· < n+1) f l a w γ v ℓ) (hex:St N w0 v0 [] (ex++ℓ) v a w) (hE:Le (· < n) vE γE lE v γ l) :
  ∃ z l' γ' v' ℓ' es,Zj n (K z) f l' Post∧RelX N G w0 v0 (· < n) (· < n+1) f l' a w γ' v' ℓ'∧St N w0 v0 [] (es++(ex++ℓ')) v' a w∧Le (· < n) v γ l v' γ' l'∧LRel v' γE lE n0 f0 f0l u p c z es∧(∃ e,lkE l u=some e)∧lkE l' u=none:=by
 have hu:u<n:=Nat.lt_of_lt_of_le (Zdm h0 hid) hn0;obtain⟨z,l',γ',v',ℓ',es,e0,k1,k2,k3,k4,k5,k6,k7,k8⟩:=ZMn (U:=(· < n)) (X:=(· < n+1)) (Nat.lt_irrefl n) (Nat.lt_succ_self n) hu h hr hex;obtain⟨eE,q1,q2⟩:=hE.l u e0 hu k6;refine⟨z,l',γ',v',ℓ',es,k1,k2,k3,k4,⟨hid,γ u,eE,q1,k5,λγ2 st' L' hg hs hh=>?_⟩,⟨e0,k6⟩,k7⟩;exact ZTx (Zpm (λk hk=>Nat.lt_of_lt_of_le hk hn0) rfl q2) (CE_head (n0:=n0) (λk hk h=>by omega) hs k8 hh hg k5)
theorem ZRm {ρ:Type} {f0:Fr} {l0 lE:Lo} {n0:Nat} {γE:Nat→Gh} {vE:Zb} (h0:H0 G n0 f0 l0) (hn0:n0≤n):∀ {vs:List Vr} {K:(ctL (vs.map Vr.ct)).den→Ev ρ} {l:Lo} {Post:ρ→Fr→Lo→Prop} {γ:Nat→Gh} {v:Zb} {ℓ ex:List Loc},
  Zj n (Zaf f0 l0 vs K) f l Post→RelX N G w0 v0 (· < n) (· < n+1) f l a w γ v ℓ→St N w0 v0 [] (ex++ℓ) v a w→Le (· < n) vE γE lE v γ l →
  ∃ z l' γ' v' ℓ' es us,Zj n (K z) f l' Post∧RelX N G w0 v0 (· < n) (· < n+1) f l' a w γ' v' ℓ'∧St N w0 v0 [] (es++(ex++ℓ')) v' a w∧Le (· < n) v γ l v' γ' l'∧VRel a v' γE lE n0 f0 l0 vs z es us∧us.Nodup∧∀ u ∈ us,u<n0∧(∃ e,lkE l u=some e)∧u ∈ Z8c f0 l0 vs
 | [],K,l,Post,γ,v,ℓ,ex,h,hr,hex,hE=>by
  obtain⟨E,hE',_⟩:=hr.lr
  exact⟨(),l,γ,v,ℓ,[],[],h,hr,hex,Le.refl hE' (Zb.le_refl _),⟨rfl,rfl⟩,List.nodup_nil,λu hu=>by cases hu⟩
 | [.s t c],K,l,Post,γ,v,ℓ,ex,h,hr,hex,hE=>by
  obtain⟨z,l',γ',v',ℓ',es,k1,k2,k3,k4,k5⟩:=Zlq h hr hex
  exact⟨z,l',γ',v',ℓ',es,[],k1,k2,k3,k4,⟨rfl,k5⟩,List.nodup_nil,λu hu=>by cases hu⟩
 | [.l p c],K,l,Post,γ,v,ℓ,ex,h,hr,hex,hE=>by
  simp only[Zaf]at h
  split at h
  ·rename_i u hid
   obtain⟨z,l',γ',v',ℓ',es,k1,k2,k3,k4,k5,k6,k7⟩:=ZSo h0 hn0 hid h hr hex hE
   refine⟨z,l',γ',v',ℓ',es,[u],k1,k2,k3,k4,⟨u,rfl,k5⟩,List.nodup_cons.2 ⟨by simp,List.nodup_nil⟩,λu' hu=>?_⟩
   rcases List.mem_singleton.1 hu with rfl
   exact⟨Zdm h0 hid,k6,by simp only[Z8c,hid];simp⟩
  ·exact h.elim
 | .s t c :: w :: r,K,l,Post,γ,v,ℓ,ex,h,hr,hex,hE=>by
  obtain⟨z1,l1,γ1,v1,ℓ1,e1,k1,k2,k3,k4,k5⟩:=Zlq (K:=λx=>Zaf f0 l0 (w :: r) λy=>K (x,y)) h hr hex
  obtain⟨z2,l2,γ2,v2,ℓ2,e2,us,q1,q2,q3,q4,q5,q6,q7⟩:=ZRm h0 hn0 (ex:=e1++ex) k1 k2 (by rw[aAq];exact k3) (hE.trans k4)
  refine⟨(z1,z2),l2,γ2,v2,ℓ2,e1++e2,us,q1,q2,q3.perm ?_,k4.trans q4,⟨e1,e2,rfl,ZSu q4.v k5,q5⟩,q6,λu hu=>?_⟩
  ·rw[aAq,aAq];exact ZBd
  ·obtain⟨g1,⟨e,g2⟩,g3⟩:=q7 u hu
   obtain⟨e',g4,_⟩:=k4.l u e (show u<_ by omega) g2
   refine⟨g1,⟨e',g4⟩,?_⟩
   simp only[Z8c]
   split
   ·exact List.mem_cons_of_mem _ g3
   ·exact g3
 | .l p c :: w :: r,K,l,Post,γ,v,ℓ,ex,h,hr,hex,hE=>by
  simp only[Zaf]at h
  split at h
  ·rename_i u hid
   obtain⟨z1,l1,γ1,v1,ℓ1,e1,k1,k2,k3,k4,k5,k6,k7⟩:=ZSo (K:=λx=>Zaf f0 l0 (w :: r) λy=>K (x,y)) h0 hn0 hid h hr hex hE
   obtain⟨z2,l2,γ2,v2,ℓ2,e2,us,q1,q2,q3,q4,q5,q6,q7⟩:=ZRm h0 hn0 (ex:=e1++ex) k1 k2 (by rw[aAq];exact k3) (hE.trans k4)
   refine⟨(z1,z2),l2,γ2,v2,ℓ2,e1++e2,u :: us,q1,q2,q3.perm ?_,k4.trans q4,⟨e1,e2,u,us,rfl,rfl,ZMt q4.v k5,q5⟩,List.nodup_cons.2 ⟨λhu=>?_,q6⟩,λu' hu=>?_⟩
   ·rw[aAq,aAq];exact ZBd
   ·obtain⟨_,⟨e,g2⟩,_⟩:=q7 u hu
    rw[k7]at g2;cases g2
   ·have hg:Z8c f0 l0 (.l p c :: w :: r)=u :: Z8c f0 l0 (w :: r):=by simp only[Z8c,hid]
    rw[hg]
    rcases List.mem_cons.1 hu with rfl | hu
    ·exact⟨Zdm h0 hid,k6,List.mem_cons_self⟩
    ·obtain⟨g1,⟨e,g2⟩,g3⟩:=q7 u' hu
     obtain⟨e',g4,_⟩:=k4.l u' e (show u'<_ by omega) g2
     exact⟨g1,⟨e',g4⟩,List.mem_cons_of_mem _ g3⟩
  ·exact h.elim
end
end Go.Eng
