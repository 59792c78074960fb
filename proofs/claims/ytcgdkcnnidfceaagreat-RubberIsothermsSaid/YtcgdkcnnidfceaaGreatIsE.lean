/- Lemmas towards the statement: the engine of the walks, the functions' models, laws and walks, part 5. Conditions: as each states. -/
import Derived.Test.YtcgdkcnnidfceaaGreatIsD
set_option linter.all false
set_option maxRecDepth 100000
namespace Go.Eng
noncomputable def ZCi (ws:Int×Int×Int×Int) (n:Int):Option ((Rat×(List (Rat×Rat)))×(List Rat)) :=
 bnd (ZQd ((1:Int),(4:Int))) fun j =>
 bnd (Zsa (1:Int)) fun k =>
 bnd (Zsa (4:Int)) fun l =>
 bnd (rem .i64 (IntKind.i64.wrap n) (3:Int)) fun m =>
 bnd (chk .i64 (m+(1:Int))) fun o =>
 bnd (ZCa [j,k,l] (0:Int) o) fun c =>
 bnd (rem .u8 ws.2.2.2 (16:Int)) fun p =>
 bnd (Zsa (IntKind.i64.wrap p)) fun q =>
 bnd (Zh (σ:=Int×(Rat×(List (Rat×Rat)))) (ρ:=Rat×(List (Rat×Rat))) (fun a =>
 ifb (decide (a.1<(c.length:Int)))
 (bnd (idx c a.1) fun b =>
 bnd (α:=Rat×(List (Rat×Rat)))
 (bnd (ZF 112 (([]:List (Rat×Rat))++a.2.2)) fun _ =>
 ifb (decide (a.1=(0:Int)))
 (bnd (rem .u8 ws.1 (16:Int)) fun r =>
 bnd (Zsa (IntKind.i64.wrap r)) fun d =>
 bnd (ZF 112 ((([]:List (Rat×Rat))++a.2.2)++[(d,b)])) fun _ =>
 some (a.2.1,(([]:List (Rat×Rat))++a.2.2)++[(d,b)]))
 (ifb (decide (a.1=(1:Int)))
 (bnd (rem .u8 ws.2.1 (16:Int)) fun s =>
 bnd (Zsa (IntKind.i64.wrap s)) fun e =>
 bnd (ZF 112 ((([]:List (Rat×Rat))++a.2.2)++[(e,b)])) fun _ =>
 some (a.2.1,(([]:List (Rat×Rat))++a.2.2)++[(e,b)]))
 (ifb (decide (a.1=(2:Int)))
 (bnd (rem .u8 ws.2.2.1 (16:Int)) fun t =>
 bnd (Zsa (IntKind.i64.wrap t)) fun f =>
 bnd (ZF 112 ((([]:List (Rat×Rat))++a.2.2)++[(f,b)])) fun _ =>
 some (a.2.1,(([]:List (Rat×Rat))++a.2.2)++[(f,b)]))
 (ifb (decide (a.1=(3:Int)))
 (bnd (rem .u8 ws.2.2.2 (16:Int)) fun u =>
 bnd (Zsa (IntKind.i64.wrap u)) fun g =>
 bnd (ZF 112 ((([]:List (Rat×Rat))++a.2.2)++[(g,b)])) fun _ =>
 some (a.2.1,(([]:List (Rat×Rat))++a.2.2)++[(g,b)]))
        (none))))) fun h =>
 bnd (chk .i64 (a.1+(1:Int))) fun v =>
 some (.inl (v,h.1,h.2)))
 (some (.inr (a.2.1,a.2.2))))
  Zm ((0:Int),q,([]:List (Rat×Rat)))) fun i =>
 some ((i.1,i.2),c)
noncomputable def Z5h (r:Rat×(List (Rat×Rat))) (places:List Int) (half:Rat):Option ((List (Rat×Rat×Rat×Rat))×Bool) :=
 bnd (Zh (σ:=(List (Rat×Rat×Rat×Rat))×Int) (ρ:=(List (Rat×Rat×Rat×Rat)) ⊕ ((List (Rat×Rat×Rat×Rat))×Bool)) (fun a =>
 ifb (decide (a.2<(places.length:Int)))
 (bnd (idx places a.2) fun e =>
 bnd (rem .u8 e (32:Int)) fun f =>
 bnd (chk .i64 ((IntKind.i64.wrap f)+(1:Int))) fun g =>
 bnd (ZQd (g,(4:Int))) fun c =>
 bnd (Zif r c) fun b =>
 ifb (b.2.2 != (0:Int))
 (some (.inr (.inr (([]:List (Rat×Rat×Rat×Rat)),false))))
 (bnd (ZF 224 (([]:List (Rat×Rat×Rat×Rat))++a.1)) fun _ =>
 bnd (ZF 224 ((([]:List (Rat×Rat×Rat×Rat))++a.1)++[(c,b.1,b.2.1,half)])) fun _ =>
 bnd (chk .i64 (a.2+(1:Int))) fun h =>
 some (.inl ((([]:List (Rat×Rat×Rat×Rat))++a.1)++[(c,b.1,b.2.1,half)],h))))
 (some (.inr (.inl a.1))))
  Zm (([]:List (Rat×Rat×Rat×Rat)),(0:Int))) fun i =>
 match i with
| .inl j=>(some (j,true))
| .inr d=>(some (d.1,d.2))
noncomputable def Zpk (ws:Int×Int×Int×Int) (n:Int) (places:(List Int)×(List Int)) (rs:List Int) (k:Int):Option Bool :=
 bnd (α:=Bool)
 (ifb (decide ((2:Int)<(places.1.length:Int)))
 (some true)
 (ifb (decide ((2:Int)<(places.2.length:Int)))
 (some true)
 (ifb (decide ((3:Int)<(rs.length:Int)))
 (some true)
 (ifb ((places.1.length:Int)==(0:Int))
 (some true)
 (ifb ((places.2.length:Int)==(0:Int))
 (some true)
 (some ((rs.length:Int)==(0:Int)))))))) fun l =>
 ifb l
 (bnd Zsg fun m =>
 some m)
 (bnd (ZCi ws n) fun f =>
 bnd (Zsa (1:Int)) fun o =>
 bnd (Z5h f.1 places.1 o) fun g =>
 bnd (Zsa (1:Int)) fun p =>
 bnd (Z5h f.1 places.2 p) fun h =>
 bnd (mk 56 (rs.length:Int) (rs.length:Int)) fun _ =>
 bnd (Zh (σ:=Int×(List Rat)) (ρ:=List Rat) (fun b =>
 ifb (decide (b.1<(rs.length:Int)))
 (bnd (idx rs b.1) fun q =>
 bnd (rem .u8 q (16:Int)) fun r =>
 bnd (chk .i64 ((IntKind.i64.wrap r)+(1:Int))) fun s =>
 bnd (ZQd (s,(4:Int))) fun t =>
 bnd (idx b.2 b.1) fun J =>
 bnd (chk .i64 (b.1+(1:Int))) fun u =>
 some (.inl (u,b.2.set b.1.toNat t)))
 (some (.inr b.2)))
   Zm ((0:Int),List.replicate (rs.length:Int).toNat (0:Rat))) fun c =>
 bnd (rem .i64 (IntKind.i64.wrap k) (c.length:Int)) fun v =>
 bnd (idx c v) fun w =>
 bnd (Zh (σ:=Int×(List (Rat×Rat×Rat×Rat))) (ρ:=(List (Rat×Rat×Rat×Rat)) ⊕ Bool) (fun a =>
 ifb (decide (a.1<(h.1.length:Int)))
 (bnd (idx a.2 a.1) fun x =>
 bnd (ZAc x.1 w) fun i =>
 ifb (i.2 != (0:Int))
 (some (.inr (.inr false)))
 (bnd (idx a.2 a.1) fun y =>
 bnd (chk .i64 (a.1+(1:Int))) fun z =>
 some (.inl (z,a.2.set a.1.toNat (i.1,y.2)))))
 (some (.inr (.inl a.2))))
   Zm ((0:Int),h.1)) fun A =>
  match A with
| .inl j=>(bnd (ZYj g.1 j c f.2) fun d =>
 bnd (α:=Bool)
 (ifb (!g.2)
 (some true)
 (ifb (!h.2)
 (some true)
 (ifb (d.2.2 != (0:Int))
 (some true)
 (ifb (decide (d.1<(0:Int)))
 (some true)
 (ifb (decide ((c.length:Int)≤d.1))
 (some true)
 (bnd (Zlc d.2.1) fun B =>
 some (!B))))))) fun C =>
 ifb C
 (some false)
 (bnd (Zej [g.1,j] c f.2) fun e =>
 bnd (α:=Bool)
 (ifb (e.2.2==(0:Int))
 (ifb ((e.1.length:Int)==(2:Int))
 (bnd (idx e.1 (0:Int)) fun D =>
 ifb (D==(-1:Int))
 (bnd (idx e.1 (1:Int)) fun E =>
 ifb (E==d.1)
 (bnd (Zlc e.2.1.2.1) fun F =>
 ifb F
 (bnd Zsg fun G =>
 some G)
 (some false))
 (some false))
 (some false))
 (some false))
 (some false)) fun H =>
 some H))
| .inr I=>(some I))
set_option maxRecDepth 100000
theorem ZSx {a b:Int} (ha:0<a) (hb:0<b):0<ZOd (a,b):=by
 unfold ZOd;rw [if_neg (show ¬ b=0 by omega)];obtain ⟨d,rfl⟩:∃ d:Nat,b=(d:Int):=⟨b.toNat,by omega⟩;show (0:Rat)<mkRat a d;have hd:d≠0:=by omega
 rw [Rat.mkRat_eq_div];rw [Rat.div_def];exact Rat.mul_pos (by have:=Rat.intCast_lt_intCast.2 ha;exact this) (Rat.inv_pos.2 (by have:=Rat.intCast_lt_intCast.2 hb;exact this))
def fw (m:Int) (p:Int):Rat:=ZOd (p.tmod m+1,4)
theorem ZTj {p m:Int} (hp:0≤p) (hm:0<m) (hm2:m≤255):rem .u8 p m=some (p.tmod m)∧IntKind.i64.wrap (p.tmod m)=p.tmod m∧chk .i64 (p.tmod m+(1:Int))=some (p.tmod m+1)∧sz 64 (fw m p)∧0<fw m p:=by
 have h1:=Int.tmod_nonneg m hp;have h2:=Int.tmod_lt_of_pos p hm;refine ⟨?_,ZJc (Zpb.2 (by omega)),Zl (by omega) (by omega),ZBv ⟨⟨by simp only;omega,by simp only;omega⟩,by simp only;omega,by simp only;omega⟩,ZSx (by omega) (by omega)⟩;unfold rem;rw [if_neg (by omega)]
theorem cutI0 {α:Type} (l:List α) {k:Nat} (h:k≤l.length):ZCa l (0:Int) (k:Int)=some (l.take k):=by
 unfold ZCa;rw [if_pos ⟨by omega,by omega,by omega⟩,Int.toNat_natCast];rfl
def Z6a:List Rat:=[ZOd (1,4),1,4]
def tI:Nat→Rat:=fun k=>Z6a.getD k 0
theorem tI_eq:Z6a=[(1:Rat) / 4,1,4]:=by decide +kernel
theorem Z8n:∀ n,1≤n→n≤3→ZLe (Z6a.take n)=0:=by
 rw [tI_eq];intro n h1 h2;rcases (show n=1∨n=2∨n=3 by omega) with rfl | rfl | rfl <;> decide +kernel
theorem tI_sz:∀ k,k<3→sz 64 (tI k):=fun k hk=>by
 unfold tI
 rw [tI_eq]
 rcases (show k=0∨k=1∨k=2 by omega) with rfl | rfl | rfl <;> constructor <;> decide +kernel
theorem ZVi {n k:Nat} (h:k<n):(Z6a.take n).getD k 0=tI k:=by
 unfold tI;rw [List.getD_eq_getElem?_getD,List.getD_eq_getElem?_getD,List.getElem?_take_of_lt h]
theorem ZXk {n:Nat} (h:n≤3):(Z6a.take n).length=n:=by rw [List.length_take];exact Nat.min_eq_left h
def xI (a b c d:Int):Nat→Rat:=fun k=>match k with | 0=>(d:Rat) | 1=>(a:Rat) | 2=>(b:Rat) | _=>(c:Rat)
theorem ZKt {ws:Int×Int×Int×Int} {n:Int} (hn:inR .u8 n) (h0:inR .u8 ws.1) (h1:inR .u8 ws.2.1) (h2:inR .u8 ws.2.2.1) (h3:inR .u8 ws.2.2.2):∃ (N:Nat) (x:Nat→Rat),1≤N∧N≤3∧ZCi ws n=some (mkB N x tI,Z6a.take N)∧(∀ k,k<4→0≤x k)∧∀ k,k<4→sz 64 (x k):=by
 have hn:=Zrc.1 hn;have h0:=Zrc.1 h0;have h1:=Zrc.1 h1;have h2:=Zrc.1 h2;have h3:=Zrc.1 h3;obtain ⟨a0,e0,p0,q0,w0⟩:=rem8 (m:=16) h0.1 (by omega) (by omega);obtain ⟨a1,e1,p1,q1,w1⟩:=rem8 (m:=16) h1.1 (by omega) (by omega);obtain ⟨a2,e2,p2,q2,w2⟩:=rem8 (m:=16) h2.1 (by omega) (by omega);obtain ⟨a3,e3,p3,q3,w3⟩:=rem8 (m:=16) h3.1 (by omega) (by omega);have wn:IntKind.i64.wrap n=n:=ZJc (Zpb.2 (by omega));have hN:rem .i64 n (3:Int)=some (n.tmod 3):=by unfold rem;rw [if_neg (by omega)]
 have t1:=Int.tmod_nonneg 3 hn.1;have t2:=Int.tmod_lt_of_pos n (show (0:Int)<3 by omega);obtain ⟨N,hN2⟩:∃ N:Nat,n.tmod 3+1=(N:Int):=⟨(n.tmod 3+1).toNat,by omega⟩;have qi:∀ z:Int,Zsa z=some (z:Rat):=fun z=>rfl;have hl:ZQd ((1:Int),(4:Int))=some (ZOd (1,4)):=rfl;refine ⟨N,xI a0 a1 a2 a3,by omega,by omega,?_,fun k hk=>?_,fun k hk=>?_⟩
 ·unfold ZCi;rw [hl,Za,qi,Za,qi,Za,wn,hN,Za,Zl (by omega) (by omega),Za,hN2,show [ZOd ((1:Int),(4:Int)),((1:Int):Rat),((4:Int):Rat)]=Z6a from rfl,cutI0 _ (show N≤Z6a.length by show N≤3;omega),Za,e3,Za,w3,qi,Za,ZXk (by omega)];refine Zq (y:=((a3:Rat),vx N fun k=>(xI a0 a1 a2 a3 (k+1),tI k))) (Z1 (fun q=>((q:Int),(a3:Rat),vx q fun k=>(xI a0 a1 a2 a3 (k+1),tI k))) N rfl (by omega) (fun q hq=>?_) ?_) rfl
  ·have ga:∀ z:Rat,z=xI a0 a1 a2 a3 (q+1)→(vx q fun k=>(xI a0 a1 a2 a3 (k+1),tI k))++[(z,tI q)]=vx (q+1) fun k=>(xI a0 a1 a2 a3 (k+1),tI k):=fun z hz=>by
    rw [hz,ZVa q fun k=>(xI a0 a1 a2 a3 (k+1),tI k)]
   simp only;rw [decide_eq_true (by omega),Zf,getT (by rw [ZXk (by omega)];exact hq),ZVi hq,Za,List.nil_append,Zha (by rw [Zi];omega),Za];rcases (show q=0∨q=1∨q=2 by omega) with rfl | rfl | rfl
   ·rw [decide_eq_true (by omega),Zf,e0,Za,w0,qi,Za,ga (a0:Rat) rfl,Zha (by rw [Zi];omega),Za,Za,Zl (by omega) (by omega),Za];rfl
   ·rw [decide_eq_false (by omega),Ze,decide_eq_true (by omega),Zf,e1,Za,w1,qi,Za,ga (a1:Rat) rfl,Zha (by rw [Zi];omega),Za,Za,Zl (by omega) (by omega),Za];rfl
   ·rw [decide_eq_false (by omega),Ze,decide_eq_false (by omega),Ze,decide_eq_true (by omega),Zf,e2,Za,w2,qi,Za,ga (a2:Rat) rfl,Zha (by rw [Zi];omega),Za,Za,Zl (by omega) (by omega),Za];rfl
  ·simp only;rw [decide_eq_false (by omega),Ze]
 ·rcases (show k=0∨k=1∨k=2∨k=3 by omega) with rfl | rfl | rfl | rfl <;> exact Rat.intCast_le_intCast.2 (by assumption)
 ·rcases (show k=0∨k=1∨k=2∨k=3 by omega) with rfl | rfl | rfl | rfl <;> exact Zgq (by omega)
def mR (r:RBR) (w:Rat):P4:=(w,(Zta r w).1,(Zta r w).2,1)
theorem ZBo {r:RBR} {places:List Int} (hp:∀ p,p ∈ places→0≤p) (hl:places.length≤1000) (hR:∀ w,sz 64 w→0≤w→Zif r w=some ((Zta r w).1,(Zta r w).2,0)):Z5h r places 1=some (vx places.length fun i=>mR r (fw 32 (places.getD i 0)),true):=by
 unfold Z5h;refine Zq (y:=.inl (vx places.length fun i=>mR r (fw 32 (places.getD i 0)))) (Z1 (fun q=>(vx q fun i=>mR r (fw 32 (places.getD i 0)),(q:Int))) places.length rfl (by omega) (fun q hq=>?_) ?_) rfl
 ·have hpq:0≤places.getD q 0:=by rw [Z2a hq];exact hp _ (List.getElem_mem hq)
  obtain ⟨f1,f2,f3,f4,f5⟩:=ZTj hpq (show (0:Int)<32 by omega) (by omega);simp only;rw [decide_eq_true (by omega),Zf,ZG hq,← Z2a (d:=(0:Int)) hq,Za,f1,Za,f2,f3,Za,show ZQd ((places.getD q 0).tmod 32+1,(4:Int))=some (fw 32 (places.getD q 0)) from rfl,Za,hR _ f4 (Rat.le_of_lt f5),Za,show ((0:Int) != (0:Int))=false from rfl,Ze,List.nil_append,Zha (by rw [Zi];omega),Za];have e:(vx q fun i=>mR r (fw 32 (places.getD i 0)))++[(fw 32 (places.getD q 0),(Zta r (fw 32 (places.getD q 0))).1,(Zta r (fw 32 (places.getD q 0))).2,1)]=vx (q+1) fun i=>mR r (fw 32 (places.getD i 0)):=ZVa q fun i=>mR r (fw 32 (places.getD i 0));rw [e,Zha (by rw [Zi];omega),Za,Zl (by omega) (by omega),Za];rfl
 ·simp only;rw [decide_eq_false (by omega),Ze]
theorem fit0 {W n:Nat} {l:List P4} {x t:Nat→Rat} {f:FitT} (hh:∀ i,i<l.length→0<(gR l i).2.2.2) (hx:∀ k,k<n+1→0≤x k) (hf:FitS W l n t f) (he:∀ i,i<l.length→gR l i=mR (mkB n x t) (gR l i).1):f.2.1=0:=by
 obtain ⟨r,y,u,v,rfl,r0,hm,hd,_⟩:=hf;refine Rat.le_antisymm ?_ r0;refine Rat.le_trans (Z7r (Zwj (mkB n x t) l l.length).1 (ZAx hh hx) hd) (Z9k Rat.le_refl _ fun i hi=>?_);have z0:ZQb 0 / (1:Rat)≤0:=by decide +kernel
 unfold q1F q2F;rw [he i hi];unfold mR;simp only;constructor
 ·rw [Rat.sub_self];exact z0
 ·rw [Rat.sub_self];exact z0
theorem is_num {a b:Nat} (h1:1≤a) (h2:a≤3) (h3:2≤b) (h4:b≤4):aw (8*7600+3) (b+b+(b+b)) (a+1+1) (a+3)≤1000000000∧(a+1+1+1)*(((8*7600+3)*((b+b+(b+b)+1)*(a+1+1+1))+1)+aw (8*7600+3) (b+b+(b+b)) (a+1+1) (a+3)+2)≤137438953472:=by
 rcases (show a=1∨a=2∨a=3 by omega) with rfl | rfl | rfl <;> rcases (show b=2∨b=3∨b=4 by omega) with rfl | rfl | rfl <;> decide
set_option maxRecDepth 100000
theorem un_nn {t w:Rat} (ht:0<t) (hw:0≤w):0≤un1 t w∧0≤un2 t w:=by
 have h1:0≤w*t:=Rat.mul_nonneg hw (Rat.le_of_lt ht);have h2:0≤w*t*(w*t):=Rat.mul_nonneg h1 h1;have h3:(0:Rat)<w*t*(w*t)+1:=by grind
 have h4:=Rat.le_of_lt (Rat.inv_pos.2 h3);unfold un1 un2;rw [Rat.div_def,Rat.div_def];exact ⟨Rat.mul_nonneg h2 h4,Rat.mul_nonneg h1 h4⟩
theorem rs_nn {r:RBR} {w:Rat} (h0:0≤r.1) (h:∀ i,i<r.2.length→0≤(gP r.2 i).1∧0<(gP r.2 i).2) (hw:0≤w):∀ i,i≤r.2.length→0≤(rs r w i).1∧0≤(rs r w i).2
 | 0,_=>⟨h0,Rat.le_refl⟩
 | i+1,hi=>by
  obtain ⟨a,b⟩:=rs_nn h0 h hw i (by omega)
  obtain ⟨c,d⟩:=h i (by omega)
  obtain ⟨e,f⟩:=un_nn d hw
  exact ⟨by have:=Rat.mul_nonneg e c;show 0≤_+_;grind,by have:=Rat.mul_nonneg f c;show 0≤_+_;grind⟩
theorem tI_in:∀ i,i<3→0<tI i∧(0<i→tI (i-1)<tI i):=(codeT_0.1 (Z8n 3 (by omega) (by omega))).2
theorem Zmu {ws:Int×Int×Int×Int} {n k:Int} {places:(List Int)×(List Int)} {rs:List Int} (hn:inR .u8 n) (h0:inR .u8 ws.1) (h1:inR .u8 ws.2.1) (h2:inR .u8 ws.2.2.1) (h3:inR .u8 ws.2.2.2) (hp1:∀ p,p ∈ places.1→inR .u8 p) (hp2:∀ p,p ∈ places.2→inR .u8 p) (hr:∀ p,p ∈ rs→inR .u8 p) (hk:inR .u8 k):Zpk ws n places rs k=some true:=by
 have aw:bnd Zsg (fun y=>some y)=some true:=by rw [Znx,Za]
 unfold Zpk;by_cases c1:2<places.1.length
 ·rw [decide_eq_true (show (2:Int)<(places.1.length:Int) by omega),Zf,Za,Zf,aw]
 rw [decide_eq_false (show ¬ (2:Int)<(places.1.length:Int) by omega),Ze];by_cases c2:2<places.2.length
 ·rw [decide_eq_true (show (2:Int)<(places.2.length:Int) by omega),Zf,Za,Zf,aw]
 rw [decide_eq_false (show ¬ (2:Int)<(places.2.length:Int) by omega),Ze];by_cases c3:3<rs.length
 ·rw [decide_eq_true (show (3:Int)<(rs.length:Int) by omega),Zf,Za,Zf,aw]
 rw [decide_eq_false (show ¬ (3:Int)<(rs.length:Int) by omega),Ze];by_cases c4:places.1.length=0
 ·rw [show ((places.1.length:Int)==(0:Int))=true by rw [beq_iff_eq];omega,Zf,Za,Zf,aw]
 rw [show ((places.1.length:Int)==(0:Int))=false by rw [beq_eq_false_iff_ne];omega,Ze];by_cases c5:places.2.length=0
 ·rw [show ((places.2.length:Int)==(0:Int))=true by rw [beq_iff_eq];omega,Zf,Za,Zf,aw]
 rw [show ((places.2.length:Int)==(0:Int))=false by rw [beq_eq_false_iff_ne];omega,Ze];by_cases c6:rs.length=0
 ·rw [show ((rs.length:Int)==(0:Int))=true by rw [beq_iff_eq];omega,Za,Zf,aw]
 rw [show ((rs.length:Int)==(0:Int))=false by rw [beq_eq_false_iff_ne];omega,Za,Ze];obtain ⟨N,x,N1,N2,em,x0,xz⟩:=ZKt (ws:=ws) hn h0 h1 h2 h3;have zm:∀ i,i<(mkB N x tI).2.length→sz 64 (gP (mkB N x tI).2 i).1∧sz 64 (gP (mkB N x tI).2 i).2:=fun i hi=>by
  rw [ZXe] at hi;rw [ZSp hi];exact ⟨xz _ (by omega),tI_sz i (by omega)⟩
 have hB:ZIf (mkB N x tI)=0:=Zru (by omega) (fun k hk=>x0 k (by omega)) (fun i hi=>tI_in i (by omega));have hR:∀ w,sz 64 w→0≤w→Zif (mkB N x tI) w=some ((Zta (mkB N x tI) w).1,(Zta (mkB N x tI) w).2,0):=fun w hw h=>Z8t (K:=64) (W:=64) (xz 0 (by omega)) zm hw h hB (by decide);have hzR:∀ w,sz 64 w→sz 7600 (Zta (mkB N x tI) w).1∧sz 7600 (Zta (mkB N x tI) w).2:=fun w hw=>by
  have:=Z6l (K:=64) (W:=64) (r:=mkB N x tI) (xz 0 (by omega)) zm hw (by rw [ZXe];omega);exact ⟨this.1.mono (by decide),this.2.mono (by decide)⟩
 have hnR:∀ w,0≤w→0≤(Zta (mkB N x tI) w).1∧0≤(Zta (mkB N x tI) w).2:=fun w hw=>rs_nn (r:=mkB N x tI) (x0 0 (by omega)) (fun i hi=>by
  rw [ZXe] at hi;rw [ZSp hi];exact ⟨x0 _ (by omega),(tI_in i (by omega)).1⟩) hw _ (Nat.le_refl _)
 rw [em,Za];simp only;have q1:Zsa (1:Int)=some 1:=rfl;rw [q1,Za,ZBo (fun p hp=>(Zrc.1 (hp1 p hp)).1) (by omega) hR,Za,Za,ZBo (fun p hp=>(Zrc.1 (hp2 p hp)).1) (by omega) hR,Za,mk_ok (by omega) (by omega),Za];simp only;have fw1:∀ i,i<places.1.length→sz 64 (fw 32 (places.1.getD i 0))∧0<fw 32 (places.1.getD i 0):=fun i hi=>by
  have:=ZTj (p:=places.1.getD i 0) (m:=32) (by rw [Z2a hi];exact (Zrc.1 (hp1 _ (List.getElem_mem hi))).1) (by omega) (by omega);exact this.2.2.2
 have fw2:∀ i,i<places.2.length→sz 64 (fw 32 (places.2.getD i 0))∧0<fw 32 (places.2.getD i 0):=fun i hi=>by
  have:=ZTj (p:=places.2.getD i 0) (m:=32) (by rw [Z2a hi];exact (Zrc.1 (hp2 _ (List.getElem_mem hi))).1) (by omega) (by omega);exact this.2.2.2
 have fwr:=fun i (hi:i<rs.length)=>ZTj (p:=rs.getD i 0) (m:=16) (by rw [Z2a hi];exact (Zrc.1 (hr _ (List.getElem_mem hi))).1) (by omega) (by omega);generalize hw1:(fun i=>fw 32 (places.1.getD i 0))=w1;have e1:(fun i=>mR (mkB N x tI) (fw 32 (places.1.getD i 0)))=fun i=>mR (mkB N x tI) (w1 i):=by rw [← hw1]
 generalize hw2:(fun i=>fw 32 (places.2.getD i 0))=w2;have e2:(fun i=>mR (mkB N x tI) (fw 32 (places.2.getD i 0)))=fun i=>mR (mkB N x tI) (w2 i):=by rw [← hw2]
 rw [e1,e2];clear e1 e2;have fw1:∀ i,i<places.1.length→sz 64 (w1 i)∧0<w1 i:=by rw [← hw1];exact fw1
 have fw2:∀ i,i<places.2.length→sz 64 (w2 i)∧0<w2 i:=by rw [← hw2];exact fw2
 generalize places.1.length=n1 at *;generalize places.2.length=n2 at *;refine Zq (y:=vx rs.length fun i=>fw 16 (rs.getD i 0)) (Z1 (fun q=>((q:Int),vx rs.length fun i=>if i<q then fw 16 (rs.getD i 0) else 0)) rs.length ?_ (by omega) (fun q hq=>?_) ?_) ?_
 ·rw [Int.toNat_natCast,ZVm];exact Prod.ext rfl (ZI fun i _=>if_neg (Nat.not_lt_zero i))
 ·obtain ⟨f1,f2,f3,f4,f5⟩:=fwr q hq;simp only;rw [decide_eq_true (by omega),Zf,ZG hq,← Z2a (d:=(0:Int)) hq,Za,f1,Za,f2,f3,Za,show ZQd ((rs.getD q 0).tmod 16+1,(4:Int))=some (fw 16 (rs.getD q 0)) from rfl,Za,Zv _ hq,Za,Zl (by omega) (by omega),Za,Int.toNat_natCast,ZLa];refine congrArg some (congrArg Sum.inl (Prod.ext (by show (q:Int)+1=((q+1:Nat):Int);omega) (ZI fun i hi=>?_)));by_cases hi2:i=q
  ·subst hi2;rw [if_pos rfl,if_pos (by omega)]
  ·rw [if_neg hi2];by_cases hi3:i<q
   ·rw [if_pos hi3,if_pos (by omega)]
   ·rw [if_neg hi3,if_neg (by omega)]
 ·simp only;rw [decide_eq_false (by omega),Ze];congr 2;exact ZI fun i hi=>by rw [if_pos hi]
 generalize hfr:(fun i=>fw 16 (rs.getD i 0))=fr;have fwr:∀ i,i<rs.length→sz 64 (fr i)∧0<fr i:=fun i hi=>by rw [← hfr];exact (fwr i hi).2.2.2
 clear hr hfr;generalize hm:rs.length=m at *;clear hm;have hk:=Zrc.1 hk;have wk:IntKind.i64.wrap k=k:=ZJc (Zpb.2 (by omega));have km1:=Int.tmod_nonneg (m:Int) hk.1;have km2:=Int.tmod_lt_of_pos k (show (0:Int)<(m:Int) by omega);have ek:rem .i64 k (m:Int)=some (k.tmod m):=by unfold rem;rw [if_neg (by omega)]
 obtain ⟨o,ho⟩:∃ o:Nat,k.tmod m=(o:Int):=⟨(k.tmod m).toNat,by omega⟩;have om:o<m:=by omega
 rw [wk,Zi,ek,Za,ho,Zv _ om,Za,Zi];obtain ⟨zo,po⟩:=fwr o om;have no:fr o≠0:=fun h=>by rw [h] at po;exact absurd po (Rat.lt_irrefl)
 refine Zq (y:=.inl (vx n2 fun i=>(w2 i / fr o,(mR (mkB N x tI) (w2 i)).2))) (Z1 (fun q=>((q:Int),vx n2 fun i=>if i<q then (w2 i / fr o,(mR (mkB N x tI) (w2 i)).2) else mR (mkB N x tI) (w2 i))) n2 ?_ (by omega) (fun q hq=>?_) ?_) ?_
 ·exact Prod.ext rfl (ZI fun i _=>if_neg (Nat.not_lt_zero i))
 ·simp only;rw [decide_eq_true (by omega),Zf,Zv _ hq,Za,if_neg (by omega),show (mR (mkB N x tI) (w2 q)).1=w2 q from rfl,Ztf (fw2 q hq).1 zo (by decide) (by decide) no,Za,show ((0:Int) != (0:Int))=false from rfl,Ze,Za,Zl (by omega) (by omega),Za,Int.toNat_natCast,ZLa];refine congrArg some (congrArg Sum.inl (Prod.ext (by show (q:Int)+1=((q+1:Nat):Int);omega) (ZI fun i hi=>?_)));by_cases hi2:i=q
  ·subst hi2;rw [if_pos rfl,if_pos (by omega)]
  ·rw [if_neg hi2];by_cases hi3:i<q
   ·rw [if_pos hi3,if_pos (by omega)]
   ·rw [if_neg hi3,if_neg (by omega)]
 ·simp only;rw [decide_eq_false (by omega),Ze];congr 3;exact ZI fun i hi=>by rw [if_pos hi]
 simp only;have hoth:∀ i,i<n2→sz 130 (w2 i / fr o):=fun i hi=>(ZMf (fw2 i hi).1 zo).mono (by decide);have hl1:(vx n1 fun i=>mR (mkB N x tI) (w1 i)).length=n1:=Zi _ _;have hl2:(vx n2 fun i=>(w2 i / fr o,(mR (mkB N x tI) (w2 i)).2)).length=n2:=Zi _ _;have hlr:(vx m fr).length=m:=Zi _ _;have g1:∀ i,i<n1→gR (vx n1 fun i=>mR (mkB N x tI) (w1 i)) i=mR (mkB N x tI) (w1 i):=fun i hi=>Zin _ _ hi;have g2:∀ i,i<n2→gR (vx n2 fun i=>(w2 i / fr o,(mR (mkB N x tI) (w2 i)).2)) i=(w2 i / fr o,(mR (mkB N x tI) (w2 i)).2):=fun i hi=>Zin _ _ hi;have gr:∀ i,i<m→(vx m fr).getD i 0=fr i:=fun i hi=>Zin _ _ hi;have pd:∀ {a b:Rat},0<a→0<b→0<a / b:=fun {a b} ha hb=>by rw [Rat.div_def];exact Rat.mul_pos ha (Rat.inv_pos.2 hb)
 have cG1:Zoe (vx n1 fun i=>mR (mkB N x tI) (w1 i))=0:=ZCn.2 ⟨by rw [hl1];omega,fun i hi=>by
  rw [hl1] at hi;rw [g1 i hi];have:=hnR (w1 i) (Rat.le_of_lt (fw1 i hi).2);exact ⟨(fw1 i hi).2,show (0:Rat)<1 by decide,this.1,this.2⟩⟩
 have cG2:Zoe (vx n2 fun i=>(w2 i / fr o,(mR (mkB N x tI) (w2 i)).2))=0:=ZCn.2 ⟨by rw [hl2];omega,fun i hi=>by
  rw [hl2] at hi;rw [g2 i hi];have:=hnR (w2 i) (Rat.le_of_lt (fw2 i hi).2);exact ⟨pd (fw2 i hi).2 po,show (0:Rat)<1 by decide,this.1,this.2⟩⟩
 generalize hL1:(vx n1 fun i=>mR (mkB N x tI) (w1 i))=l1 at *;generalize hL2:(vx n2 fun i=>(w2 i / fr o,(mR (mkB N x tI) (w2 i)).2))=l2 at *;clear hL1 hL2;have tl:(Z6a.take N).length=N:=ZXk (by omega);have ht:∀ k,k<(Z6a.take N).length→sz 7600 ((Z6a.take N).getD k 0):=fun k hk=>by
  rw [tl] at hk;rw [ZVi hk];exact (tI_sz k (by omega)).mono (by decide)
 have hT:ZLe (Z6a.take N)=0:=Z8n N N1 N2;have hft:∀ k,k<N→(fun k=>(Z6a.take N).getD k 0) k=tI k:=fun k hk=>ZVi hk;have sl:∀ j,(shL l1 l2 (fr j)).length=n1+n2:=fun j=>by rw [ZMs,hl1,hl2]
 have gs1:∀ j i,i<n1→gR (shL l1 l2 (fr j)) i=mR (mkB N x tI) (w1 i):=fun j i hi=>by rw [shL_0 (by omega),g1 i hi]
 have gs2:∀ j i,i<n2→gR (shL l1 l2 (fr j)) (n1+i)=(w2 i / fr o*fr j,(mR (mkB N x tI) (w2 i)).2):=fun j i hi=>by
  have:=shL_1 (l:=l1) (other:=l2) (r:=fr j) (i:=i) (by omega);rw [hl1] at this;rw [this,g2 i hi]
 have hg:∀ j,j<m→GoodR 7600 (shL l1 l2 (fr j)):=fun j hj=>⟨fun i hi=>by
   rw [sl] at hi;by_cases h:i<n1
   ·rw [gs1 j i h];have:=hzR (w1 i) (fw1 i h).1;exact ⟨(fw1 i h).1.mono (by decide),this.1,this.2,Zbd.mono (by decide)⟩
   ·obtain ⟨i',rfl⟩:∃ i',i=n1+i':=⟨i-n1,by omega⟩;rw [gs2 j i' (by omega)];have:=hzR (w2 i') (fw2 i' (by omega)).1;exact ⟨(Zeb (hoth i' (by omega)) (fwr j hj).1).mono (by decide),this.1,this.2,Zbd.mono (by decide)⟩,fun i hi=>by
   rw [sl] at hi;by_cases h:i<n1
   ·rw [gs1 j i h];exact show (0:Rat)<1 by decide
   ·obtain ⟨i',rfl⟩:∃ i',i=n1+i':=⟨i-n1,by omega⟩;rw [gs2 j i' (by omega)];exact show (0:Rat)<1 by decide⟩
 obtain ⟨F,hF⟩:=Classical.axiomOfChoice (r:=fun (j:Nat) (f:FitT)=>j<m→ZOe (shL l1 l2 (fr j)) (Z6a.take N)=some (f,0)∧FitS 1000000000 (shL l1 l2 (fr j)) N (fun k=>(Z6a.take N).getD k 0) f) (fun j=>by
  by_cases hj:j<m
  ·obtain ⟨b1,b2⟩:=is_num (a:=N) (b:=n1+n2) N1 N2 (by omega) (by omega);obtain ⟨f,f1,f2⟩:=ZVx (K:=7600) (W:=1000000000) (hg j hj) ht (by rw [sl];omega) (by rw [sl];omega) (by rw [tl];omega) (by rw [sl,tl];omega) (by rw [sl,tl];exact b1) (by rw [sl,tl];exact b2) (by decide);rw [tl] at f2;exact ⟨f,fun _=>⟨f1,f2⟩⟩
  ·exact ⟨((0,[]),0,[]),fun h=>absurd h hj⟩)
 have eM:mkB N x tI=mkB N x fun k=>(Z6a.take N).getD k 0:=by
  unfold mkB;rw [show (vx N fun k=>(x (k+1),tI k))=vx N fun k=>(x (k+1),(Z6a.take N).getD k 0) from ZI fun k hk=>by rw [ZVi hk]]
 have own:(F o).2.1=0:=fit0 (hg o om).h (fun k hk=>x0 k (by omega)) (hF o om).2 (fun i hi=>by
  rw [sl] at hi;rw [← eM];by_cases h:i<n1
  ·rw [gs1 o i h];rfl
  ·obtain ⟨i',rfl⟩:∃ i',i=n1+i':=⟨i-n1,by omega⟩;rw [gs2 o i' (by omega)];rw [Rat.div_mul_cancel no];rfl)
 have fnn:∀ j,j<m→0≤(F j).2.1∧sz 1000000000 (F j).2.1:=fun j hj=>by
  obtain ⟨r,y,u,v,e,r0,_,_,z1,_⟩:=(hF j hj).2;rw [e];exact ⟨r0,z1⟩
 obtain ⟨b1,b2⟩:=ZRl (fun j=>(F j).2.1) m (by omega);have bz:(F (bAt (fun j=>(F j).2.1) m)).2.1=0:=Rat.le_antisymm (by rw [← own];exact (b2 o om).1) (fnn _ b1).1;have hsd:∀ j,j<m→Zbf l1 l2 (fr j)=some (shL l1 l2 (fr j)):=fun j hj=>Zsu (K:=130) (k:=64) (fun i hi=>by rw [hl2] at hi;rw [g2 i hi];exact hoth i hi) (fwr j hj).1 (by decide) (by decide) (by omega) (by omega);have hsh:=ZLv (l:=l1) (other:=l2) (rs:=vx m fr) (tms:=Z6a.take N) (W:=1000000000) (F:=F) (fun j hj=>by
  rw [hlr] at hj;rw [gr j hj];exact ⟨_,hsd j hj,(hF j hj).1,(fnn j hj).2⟩) (by decide) (by omega) (by omega)
 rw [hlr] at hsh;have hrc:Zre (vx m fr)=some 0:=Zst (by omega) (by omega) (fun i hi=>by rw [hlr] at hi;rw [gr i hi];exact (fwr i hi).2);have hS:=Zjv (K:=7600) cG1 cG2 (by omega) ht (by decide) hT hrc hsh;have hM:=Zux (L:=[l1,l2]) (rs:=vx m fr) (tms:=Z6a.take N) (K:=7600) (T:=fun q=>if q=0 then l1 else shL l1 l2 (fr (bAt (fun j=>(F j).2.1) m))) (AT:=fun _=>bAt (fun j=>(F j).2.1) m) (f:=F (bAt (fun j=>(F j).2.1) m)) (by simp) (by simp) (fun i hi=>by
   rcases (show i=0∨i=1 by have:i<2:=hi;omega) with rfl | rfl
   ·exact cG1
   ·exact cG2) (fun q hq=>by
   rcases (show q=0∨q=1∨q=2 by have:q≤2:=hq;omega) with rfl | rfl | rfl
   ·exact Nat.zero_le _
   ·show l1.length+0≤12;omega
   ·show l1.length+(l2.length+0)≤12;omega) ht (by decide) hT hrc rfl (fun q hq=>by
   have:q=0:=by have:q+1<2:=hq;omega
   subst this;exact ⟨_,_,hsh,Zv _ b1,hsd _ b1⟩) (hF _ b1).1
 rw [hS,Za,show (!true)=false from rfl,Ze,Ze];simp only;rw [show ((0:Int) != (0:Int))=false from rfl,Ze,decide_eq_false (by omega),Ze,decide_eq_false (by omega),Ze,bz];rw [show Zlc (0:Rat)=some true from rfl,Za,show (!true)=false from rfl,Za,Ze,hM,Za];simp only;have e2:((-1:Int) :: (vx ([l1,l2].length-1) fun q=>((bAt (fun j=>(F j).2.1) m:Nat):Int)))=[-1,((bAt (fun j=>(F j).2.1) m:Nat):Int)]:=rfl;rw [show ((0:Int)==(0:Int))=true from rfl,Zf,e2];generalize bAt (fun j=>(F j).2.1) m=B at *;rw [show (([(-1:Int),(B:Int)].length:Int)==(2:Int))=true from rfl,Zf,show idx [(-1:Int),(B:Int)] (0:Int)=some (-1) from rfl,Za,show ((-1:Int)==(-1:Int))=true from rfl,Zf,show idx [(-1:Int),(B:Int)] (1:Int)=some (B:Int) from rfl,Za,show ((B:Int)==(B:Int))=true from beq_self_eq_true _,Zf,bz,show Zlc (0:Rat)=some true from rfl,Za,Zf,aw,Za]
theorem ZOk {α:Type} {A:Rep α} {v:Zb} {cs:List Value} {l:List α} (h:(ZB A).rel v cs l) {x:α} (hx:x ∈ l):∃ c,A.rel v c x:=by
 obtain ⟨q,cap,rfl,h1,h2,h3⟩:=h;rcases h3 with rfl | ⟨b,off,c,T,fr,e,hb,hr⟩
 ·cases hx
 ·obtain ⟨i,hi,rfl⟩:=List.getElem_of_mem hx;exact ⟨_,ZPa hr (List.getElem?_eq_getElem hi)⟩
end Go.Eng
namespace Go.Eng
open Go.RowKit Go.WideShapes Go.ChangeShapes
theorem dropN {cs:List Value} (m n:Nat):cs.drop m=(cs.drop m).take n++cs.drop (m+n):=by
 rw [← List.drop_drop,List.take_append_drop]
theorem Zkw {P:Program} {t e:TypeId} {α:Type} {A:Rep α} (ht:P.underlying t=some (.array 4 e)) (hA:Zdd P e A) (ce:P.cellsOf e=A.n) (ct:P.cellsOf t=A.n+(A.n+(A.n+A.n))):Zdd P t (Zja A (Zja A (Zja A A))):=by
 intro H enc W fuel cs x h;obtain ⟨xs,m,_,_,hl,hx,hf⟩:=DataW.trod_array ht h;have h0:=hf 0 (by omega);have h1:=hf 1 (by omega);have h2:=hf 2 (by omega);have h3:=hf 3 (by omega);rw [ce] at h0 h1 h2 h3;rw [List.getElem?_eq_getElem (by omega)] at h0 h1 h2 h3;rw [Nat.zero_mul,List.drop_zero] at h0;rw [Nat.one_mul] at h1;obtain ⟨a,ha⟩:=hA _ _ _ _ _ _ h0;obtain ⟨b,hb⟩:=hA _ _ _ _ _ _ h1;obtain ⟨c,hc⟩:=hA _ _ _ _ _ _ h2;obtain ⟨d,hd⟩:=hA _ _ _ _ _ _ h3;rw [List.take_of_length_le (by rw [List.length_drop,hl,ct];omega)] at hd;refine ⟨(a,b,c,d),cs.take A.n,cs.drop A.n,(List.take_append_drop _ _).symm,ha,(cs.drop A.n).take A.n,cs.drop (2*A.n),?_,hb,(cs.drop (2*A.n)).take A.n,cs.drop (3*A.n),?_,hc,hd⟩
 ·rw [show 2*A.n=A.n+A.n by omega];exact dropN _ _
 ·rw [show 3*A.n=2*A.n+A.n by omega];exact dropN _ _
end Go.Eng
namespace Go.Eng
open Go.RowKit
section
variable {P:Program} {N:Nat} {G:V→Value→Prop} {w0:Base} {v0:Zb} {U X:Nat→Prop} {f:Fr} {l:Lo} {a:Act} {w:World} {γ:Nat→Gh} {v:Zb} {ℓ:List Loc} {n:Nat}
variable {d:Option Nat} {ty:TypeId} {pos:String} {aft:Array Edge} {g:Option (Nat×Bool)}
theorem Z5p {ty:TypeId} {t:T} (hs:St N w0 v0 [] ℓ v a w):∀ k:Nat,∃ es,Zla v ty t (List.replicate k (none,0)) (List.replicate k ([]:List t.den)) es∧St N w0 v0 [] (es++ℓ) v a w
 | 0=>⟨[],rfl,hs⟩
 | k+1=>by
  obtain ⟨es,h1,h2⟩:=Z5p hs k
  exact ⟨.own none ty t.n 0 0 [] :: es,⟨[],es,rfl,rfl,h1⟩,h2.nilLoc ty t.n⟩
theorem Z2q {α:Type}:∀ k:Nat,Zo (List.replicate k ((none:Option Nat),0)) (List.replicate k ([]:List α))=(List.replicate k [Value.slice none 0 0]).flatten
 | 0=>rfl
 | k+1=>by simp only [List.replicate_succ,Zo,List.flatten_cons,Z2q k];rfl
theorem Zzu {C:Cf} (hr:RelX N G w0 v0 U X f l a w γ v ℓ) (hU:∀ k,U k→X k) (hX:X n) (hn:¬ U n) {t:TypeId} {x y:Operand} {o:Oper} {Post:Unit→Fr→Lo→Prop} (ho:o=⟨d,.makeSlice t x y,ty,pos,aft,g⟩) (hd:∀ k,o.dst=some k→k<N)
  (h:Zk n (ZY C n o) f l Post):Zna C.P N G w0 v0 X o a w Post:=by
 subst ho;simp only [ZY] at h;obtain ⟨V1,h1,_,hA⟩:=ZL hr h;obtain ⟨V2,h2,_,hB⟩:=ZL hr hA;obtain ⟨κ,i,rfl,hC⟩:=Zfb hB;obtain ⟨κ',j,rfl,hD⟩:=Zfb hC;clear h hA hB hC;have h:=hD;obtain ⟨e1,_⟩:=ZDa h1;obtain ⟨e2,_⟩:=ZDa h2;split at h
 ·rename_i q dd hq;obtain ⟨hE,hby⟩:=Zvn hq;obtain ⟨_,hmk,h⟩:=h;obtain ⟨m0,m1,m2,m3⟩:=ZKd hmk;obtain ⟨E,hEE,hp⟩:=hr.lr;have hst:=hr.st.perm hp;obtain ⟨σ,hσ,ev1,ev2⟩:=hst.ev2 x y;rw [e1] at ev1;rw [e2] at ev2;obtain ⟨b,w',hrun,hst'⟩:=Zrm hE hσ m0 m1 m2 m3;have hrun':=hrun (d:=some dd) (ty:=ty) (pos:=pos) (aft:=aft) (g:=g) ev1 ev2;split at h
  ·split at h
   ·rename_i q2 r hq2 hz hs1;have hs1:=Nat.eq_of_beq_eq_true hs1;split at h
    ·rename_i s hs;split at h
     ·have hz1:q.z.cells.toList=[.slice none 0 0]:=by
       have h1:=Z3e hz;have h2:=hE.cells;rw [hs1] at h2;have h3:q.z.cells.toList.length=1:=by simpa using h2
       rw [h1] at h3 ⊢;simp at h3;rw [h3]
      obtain ⟨es,hR,hst2⟩:=Z5p (ty:=q2.e) (t:=s) hst'.bare i.toNat;have hst3:St N w0 v0 [] (.own (some b) q.e 1 (List.replicate i.toNat ([]:List s.den)).length j.toNat (Zo (List.replicate i.toNat ((none:Option Nat),0)) (List.replicate i.toNat ([]:List s.den))) :: es++E.flatten) v a w':=by
       rw [Z2q,List.length_replicate];rw [hs1,hz1] at hst2;exact hst2.perm List.perm_middle
      have hrun2:=hrun';rw [show (Value.slice (mkA (some b)) i.toNat j.toNat) = .slice (mkA (some b)) (List.replicate i.toNat ([]:List s.den)).length j.toNat by rw [List.length_replicate]] at hrun2;exact ZEj hr hU hX hn hd hEE rfl hR hst3 hrun2 h
     ·exact h.elim
    ·exact h.elim
   ·exact h.elim
  ·split at h
   ·rename_i s hs;split at h
    ·rename_i z r hz hzo hsz;have hsz:=Nat.eq_of_beq_eq_true hsz;obtain ⟨c1,k1,k2⟩:=ZQq (v:=v) hzo hz;have hl:=Rep.len _ k2;have hc:=hE.cells;have hr0:r=[]:=by
      have:q.z.cells.toList.length=q.sz:=by simpa using hc
      rw [k1,List.length_append,hl,ZT,hsz] at this;exact List.length_eq_zero_iff.1 (by omega)
     rw [hr0,List.append_nil] at k1;have hrel:=ZEg k2 i.toNat;rw [k1] at hst';have hst2:St N w0 v0 [] (.own (some b) q.e s.n (List.replicate i.toNat z).length j.toNat (List.replicate i.toNat c1).flatten :: E.flatten) v a w':=by
      rw [List.length_replicate,← hsz];exact hst'.bare
     have hrun2:=hrun';rw [show (Value.slice (mkA (some b)) i.toNat j.toNat) = .slice (mkA (some b)) (List.replicate i.toNat z).length j.toNat by rw [List.length_replicate]] at hrun2;exact ZWg hr hU hX hn hd hEE rfl hst2 hrel hrun2 h
    ·exact h.elim
   ·exact h.elim
 ·exact h.elim
theorem ZLn {x:V} {cs:List Value} (h:RR v γ l false x cs) (hk:x.ok U):RR v γ l false (ZQf x) cs∧(ZQf x).ok U:=by
 unfold ZQf;split
 ·split
  ·rename_i hc;obtain ⟨h1,h2⟩:=Zkm (U:=U) (γ:=γ) (l:=l) hc h;exact ⟨h1,h2⟩
  ·exact ⟨h,hk⟩
 ·exact ⟨h,hk⟩
theorem Zqs:∀ {fs:List Field},Z8i P fs=true→∀ w,∃ L:List (Nat×Nat),(fs.mapM fun (f:Field)=>(do pure (f.offset,← sizeOf f.type):Sem (Nat×Nat))).run P w = .ok L w∧∀ (i:Nat) fd,fs[i]? = some fd→∃ inf,P.info? fd.type=some inf∧L[i]? = some (fd.offset,inf.size)
 | [],_,w=>⟨[],by simp,fun i fd h=>by simp at h⟩
 | fd :: fs,h,w=>by
  simp only [Z8i] at h
  split at h
  ·rename_i inf hinf
   obtain ⟨L,h1,h2⟩:=Zqs h w
   refine ⟨(fd.offset,inf.size) :: L,?_,fun i fd' hi=>?_⟩
   ·simp at h1
    simp [List.mapM_cons,ZFj hinf,h1]
   ·cases i with
    | zero=>simp at hi;subst hi;exact ⟨inf,hinf,rfl⟩
    | succ i=>simp at hi;simpa using h2 i fd' hi
  ·cases h
theorem ZPr {s:TypeId} {fs:Array Field} (hs:P.underlying s=some (.struct fs)) {places:Nat→Option (Nat×Nat)} (hp:∀ (i:Nat) (fd:Field),fs.toList[i]? = some fd→∃ inf,P.info? fd.type=some inf∧places i=some (fd.offset,inf.size)) :
  ∀ {ps:List (Nat×Operand)} {c z z':V} {cs:List Value} {vals:List Value},RR v γ l true c vals→c.ok U→vals.length=ps.length→RR v γ l false z cs→z.ok U→putF P s z (zipV ps c)=some z' →
  ∃ cs',Instr.fill places cs.toArray ((ps.map (·.1)).zip vals)=some cs'.toArray∧RR v γ l false z' cs'∧z'.ok U∧z'.isAgg=z.isAgg
 | [],c,z,z',cs,vals,hc,hk,hl,hz,hkz,h=>by
  have hv:vals=[]:=List.length_eq_zero_iff.1 hl
  subst hv
  have h:some z=some z':=by
   cases c <;> exact h
  cases h
  exact ⟨cs,rfl,hz,hkz,rfl⟩
 | p :: ps,c,z,z',cs,vals,hc,hk,hl,hz,hkz,h=>by
  cases vals with
  | nil=>simp at hl
  | cons y vals =>
   cases c with
   | cons x c =>
    obtain ⟨cx,vs,e,h1,h2⟩:=hc
    cases e
    simp only [zipV,putF] at h;split at h
    ·rename_i fd hfd;split at h
     ·rename_i q hq;split at h
      ·rename_i zz hsz hfit hput;have hsz:=Nat.eq_of_beq_eq_true hsz;obtain ⟨k1,k2,k3,k4⟩:=ZZe FU hput hz h1 hkz hk.1;have hfd':fs.toList[p.1]? = some fd:=by
        unfold fldT at hfd;rw [hs] at hfd;exact hfd
       obtain ⟨inf,hinf,hpl⟩:=hp _ _ hfd';have hlen:cx.length=inf.size:=by
        rw [Zud h1,hsz];unfold szA at hq;rw [hinf] at hq;split at hq
        ·rename_i i d e1 e2;cases e1;cases hq;rfl
        ·cases hq
       obtain ⟨hcells,_⟩:=ZXj h1 hfit;obtain ⟨cs',q1,q2,q3,q4⟩:=ZPr hs hp (ps:=ps) h2 hk.2 (by simpa using hl) k1 k2 h;refine ⟨cs',?_,q2,q3,q4.trans k4⟩;simp only [List.map_cons,List.zip_cons_cons];rw [Zlm (cs:=cx) (off:=fd.offset) (by rw [hpl,hlen]) hcells (by simpa using k3)]
       simpa using q1
      ·cases h
     ·cases h
    ·cases h
   | nl=>cases (show (y :: vals)=[] from hc)
   | _=>exact (show False from hc).elim
theorem Zmo {n sz:Nat} {places:Nat→Option (Nat×Nat)} (hp:∀ i,i<n→places i=some (i*sz,sz)) :
  ∀ {ps:List (Nat×Operand)} {c z z':V} {cs:List Value} {vals:List Value},RR v γ l true c vals→c.ok U→vals.length=ps.length→RR v γ l false z cs→z.ok U→putA n sz z (zipV ps c)=some z' →
  ∃ cs',Instr.fill places cs.toArray ((ps.map (·.1)).zip vals)=some cs'.toArray∧RR v γ l false z' cs'∧z'.ok U∧z'.isAgg=z.isAgg
 | [],c,z,z',cs,vals,hc,hk,hl,hz,hkz,h=>by
  have hv:vals=[]:=List.length_eq_zero_iff.1 hl
  subst hv
  have h:some z=some z':=by
   cases c <;> exact h
  cases h
  exact ⟨cs,rfl,hz,hkz,rfl⟩
 | p :: ps,c,z,z',cs,vals,hc,hk,hl,hz,hkz,h=>by
  cases vals with
  | nil=>simp at hl
  | cons y vals =>
   cases c with
   | cons x c =>
    obtain ⟨cx,vs,e,h1,h2⟩:=hc
    cases e
    simp only [zipV,putA] at h;split at h
    ·rename_i zz hlt hsz hfit hput;have hlt:p.1<n:=Nat.le_of_ble_eq_true hlt;have hsz:=Nat.eq_of_beq_eq_true hsz;obtain ⟨k1,k2,k3,k4⟩:=ZZe FU hput hz h1 hkz hk.1;have hlen:cx.length=sz:=by rw [Zud h1,hsz]
     obtain ⟨hcells,_⟩:=ZXj h1 hfit;obtain ⟨cs',q1,q2,q3,q4⟩:=Zmo hp (ps:=ps) h2 hk.2 (by simpa using hl) k1 k2 h;refine ⟨cs',?_,q2,q3,q4.trans k4⟩;simp only [List.map_cons,List.zip_cons_cons];rw [Zlm (cs:=cx) (off:=p.1*sz) (by rw [hp _ hlt,hlen]) hcells (by simpa using k3)]
     simpa using q1
    ·cases h
   | nl=>cases (show (y :: vals)=[] from hc)
   | _=>exact (show False from hc).elim
theorem Zmv {C:Cf} (hr:RelX N G w0 v0 U X f l a w γ v ℓ) (hU:∀ k,U k→X k) (hX:X n) {t:TypeId} {ps:Array (Nat×Operand)} {o:Oper} {Post:Unit→Fr→Lo→Prop} (ho:o=⟨d,.build t ps,ty,pos,aft,g⟩) (hd:∀ k,o.dst=some k→k<N)
  (h:Zk n (ZY C n o) f l Post):Zna C.P N G w0 v0 X o a w Post:=by
 subst ho;simp only [ZY] at h;split at h
 ·rename_i z fs hz ht;split at h
  ·rename_i hfl hag1 hag2;obtain ⟨y,cs,hy,hcells,hzz,hkz,_⟩:=Zjn (v:=v) (γ:=γ) (l:=l) (U:=U) hz;obtain ⟨L,hL1,hL2⟩:=Zqs hfl w;have hA:(fs.mapM fun (f:Field)=>(do pure (f.offset,← sizeOf f.type):Sem (Nat×Nat))).run C.P w = .ok L.toArray w:=by
    rw [Array.mapM_eq_mapM_toList];simp at hL1;simp [hL1]
   have hplaces:∀ (i:Nat) (fd:Field),fs.toList[i]? = some fd→∃ inf,C.P.info? fd.type=some inf∧(L.toArray[·]?) i=some (fd.offset,inf.size):=fun i fd hi=>by
    obtain ⟨inf,h1,h2⟩:=hL2 i fd hi;exact ⟨inf,h1,by simpa using h2⟩
   have hev:∀ (vals:List (Nat×Value)) (cs':List Value),ps.toList.map (fun p=>(p.1,a.eval p.2))=vals→Instr.fill (L.toArray[·]?) cs.toArray vals=some cs'.toArray→(execOp a.eval ⟨d,.build t ps,ty,pos,aft,g⟩).run C.P w = .ok (.value (.agg cs'.toArray)) w:=by
    intro vals cs' hv hf;obtain ⟨σ,hσ,hev⟩:=hr.st.evs (ps.toList.map (·.2));refine ZPi hσ vals ?_ ?_
    ·rw [← hv,List.map_map];refine List.map_congr_left fun p hp=>?_;rw [hev p.2 (List.mem_map.2 ⟨p,hp,rfl⟩)];rfl
    ·simp at hA hf;simp [Instr.build,hy w,hcells,run_underlying ht,hA,hf]
   split at h
   ·rename_i hps;refine ZO hr hU (hev [] cs (by rw [hps];rfl) rfl) hd hX ?_ (V.ok.mono hU hkz) h;have:=Zfc hzz (fun c e=>by subst e;cases hag2);unfold V.val at this;rw [hag2] at this;exact this
   ·rename_i hps;obtain ⟨c,h1,h2,h⟩:=Zkf hr h;split at h
    ·rename_i z' hz';obtain ⟨o1,o2⟩:=ZLn hzz hkz;have hvl:=h1;rw [List.map_map] at h1;obtain ⟨cs',k1,k2,k3,k4⟩:=ZPr ht hplaces (ps:=ps.toList) h1 h2 (by simp) o1 o2 hz';refine ZO hr hU (hev _ cs' rfl ?_) hd hX ?_ (V.ok.mono hU k3) h
     ·rw [← k1];congr 1;rw [List.zip_map,← List.map_id (ps.toList.zip ps.toList)];simp [List.zip_eq_zipWith,List.zipWith_self,List.map_map]
     ·have:=Zfc k2 (fun c e=>by subst e;rw [hag1] at k4;cases k4);unfold V.val at this;rw [k4,hag1] at this;exact this
    ·exact h.elim
  ·exact h.elim
 ·rename_i z m e hz ht;split at h
  ·rename_i inf hinf hag1 hag2;obtain ⟨y,cs,hy,hcells,hzz,hkz,_⟩:=Zjn (v:=v) (γ:=γ) (l:=l) (U:=U) hz;obtain ⟨c,h1,h2,h⟩:=Zkf hr h;split at h
   ·rename_i z' hz';obtain ⟨o1,o2⟩:=ZLn hzz hkz;rw [List.map_map] at h1;obtain ⟨cs',k1,k2,k3,k4⟩:=Zmo (places:=fun i=>some (i*inf.size,inf.size)) (fun i _=>rfl) (ps:=ps.toList) h1 h2 (by simp) o1 o2 hz';obtain ⟨σ,hσ,hev⟩:=hr.st.evs (ps.toList.map (·.2));have hk1:Instr.fill (fun i=>some (i*inf.size,inf.size)) cs.toArray (ps.toList.map fun p=>(p.1,a.eval p.2))=some cs'.toArray:=by
     rw [← k1];congr 1;rw [List.zip_map,← List.map_id (ps.toList.zip ps.toList)];simp [List.zip_eq_zipWith,List.zipWith_self,List.map_map]
    refine ZO hr hU (ZPi hσ (ps.toList.map fun p=>(p.1,a.eval p.2)) ?_ (z:=.agg cs'.toArray) ?_) hd hX ?_ (V.ok.mono hU k3) h
    ·rw [List.map_map];refine List.map_congr_left fun p hp=>?_;rw [hev p.2 (List.mem_map.2 ⟨p,hp,rfl⟩)];rfl
    ·simp [Instr.build,hy w,hcells,run_underlying ht,ZFj hinf,hk1]
    ·have:=Zfc k2 (fun c e=>by subst e;rw [hag1] at k4;cases k4);unfold V.val at this;rw [k4,hag1] at this;exact this
   ·exact h.elim
  ·exact h.elim
 ·exact h.elim
end
end Go.Eng
namespace Go.Eng
open Go.RowKit
def CT.isAgg:CT→Bool
 | .dat t=>t.agg
 | .agg _=>true
 | _=>false
def CT.vl (c:CT) (cs:List Value):Value:=match c.isAgg with
 | true=>.agg cs.toArray
 | false=>cs.headD Go.undef
def CR (v:Zb):(c:CT)→Bool→c.den→List Value→List Loc→Prop
 | .dat t,false,x,cs,es=>t.rep.rel v cs x∧es=[]
 | .own ty t,false,(xs:List t.den),cs,es=>∃ ob cap d,cs=[.slice (mkA ob) xs.length cap]∧t.rep.rels v d xs∧es=[.own ob ty t.n xs.length cap d]
 | .mat ty ty2 t,false,(m:List (List t.den)),cs,es=>∃ ob cap rows es2,cs=[.slice (mkA ob) m.length cap]∧Zla v ty2 t rows m es2∧es = .own ob ty 1 m.length cap (Zo rows m) :: es2
 | .nl,_,_,cs,es=>cs=[]∧es=[]
 | .one a,false,x,cs,es=>CR v a false x cs es
 | .one a,true,x,cs,es=>∃ c,cs=[a.vl c]∧CR v a false x c es
 | .cons a b,false,x,cs,es=>∃ c1 c2 e1 e2,cs=c1++c2∧es=e1++e2∧CR v a false x.1 c1 e1∧CR v b false x.2 c2 e2
 | .cons a b,true,x,cs,es=>∃ c1 xs e1 e2,cs=a.vl c1 :: xs∧es=e1++e2∧CR v a false x.1 c1 e1∧CR v b true x.2 xs e2
 | .agg c,false,x,cs,es=>CR v c false x cs es
 | .box ty c,false,x,cs,es=>∃ b c1 e1,cs=[.pointer (some ⟨b,0,none⟩)]∧CR v c false x c1 e1∧c1.all plain=true∧es = .box b ty c1 :: e1
 | _,_,_,_,_=>False
def CRL (v:Zb):(c:CT)→c.den→Gh→List Loc→Prop
 | .own ty t,(xs:List t.den),g,es=>∃ ob cap d,g = .own ob cap∧t.rep.rels v d xs∧es=[.own ob ty t.n xs.length cap d]
 | .mat ty ty2 t,(m:List (List t.den)),g,es=>∃ ob cap rows es2,g = .mat ob cap rows∧Zla v ty2 t rows m es2∧es = .own ob ty 1 m.length cap (Zo rows m) :: es2
 | .box ty c,z,g,es=>∃ b c1 e1,g = .box b∧CR v c false z c1 e1∧c1.all plain=true∧es = .box b ty c1 :: e1
 | .agg (.mat ty ty2 t),(m:List (List t.den)),g,es=>∃ ob cap rows es2,g = .mat ob cap rows∧Zla v ty2 t rows m es2∧es = .own ob ty 1 m.length cap (Zo rows m) :: es2
 | _,_,_,_=>False
end Go.Eng
namespace Go.Eng
open Go.RowKit
def Zoa (v:Zb):(ts:List T)→List Value→Zy ts→Prop
 | [],vals,_=>vals=[]
 | [t],vals,x=>∃ cs,vals=[t.rep.val cs]∧t.rep.rel v cs x
 | t :: u :: r,vals,x=>∃ cs vs,vals=t.rep.val cs :: vs∧t.rep.rel v cs x.1∧Zoa v (u :: r) vs x.2
def Z3d (v:Zb) (ts:List T) (y:Value) (z:Zy ts):Prop:=match ts,z with
 | [t],z=>∃ cs,y=t.rep.val cs∧t.rep.rel v cs z
 | ts,z=>∃ vals:List Value,y = .tuple vals.toArray∧Zoa v ts vals z
def ZId (P:Program) (f:FuncId) (c:Con):Prop:=∀ (w:World) (v:Zb) (vals:List Value) (x:Zy c.args) (z:Zy c.res),VIn v w→Zoa v c.args vals x→c.F x=some z →
 (ZC P f∧Ret P f vals.toArray w v fun y v'=>Z3d v' c.res y z) ∨ ∃ y,(∀ w,(callFunc f vals.toArray).run P w = .ok (.value y) w)∧Z3d v c.res y z
def ZBe (P:Program) (f:FuncId) (c:ConO):Prop:=∀ (w:World) (v:Zb) (vals:List Value) (x:Zy c.args) (z:List c.t.den),VIn v w→Zoa v c.args vals x→c.F x=some z →
 ZC P f∧RetO P f vals.toArray w v (OwnR c.t.rep c.ty c.t.n z w)
def Zmk (P:Program) (f:FuncId) (c:ConI):Prop:=∀ (w:World) (v:Zb) (ob:Option Nat) (n cap:Nat) (cs:List Value) (l:List c.t.den) (i:Int) (bv kv:Nat) (c0:Array Value) (x:c.t.den) (z:List c.t.den),VIn v w→(Loc.own ob c.ty c.t.n n cap cs).holds w→(∀ b,ob=some b→v b=none)→c.t.rep.rels v cs l→n=l.length →
 1≤kv→v bv=some (.cells c0 c.ty (0,0))→c.t.rep.rel v (c0.toList.take c.t.n) x→inR .i64 i→c.F l i x=some z →
 ZC P f∧Z9c P f #[.slice (mkA ob) n cap,.int .i64 i,.slice (some ⟨bv,0,none⟩) 1 kv] w v ob.toList (OwnI c.t.rep c.ty c.t.n z ob w)
def OwnM (ty ty2:TypeId) (t:T) (m:List (List t.den)) (w:World) (r:Value) (v':Zb) (w':World):Prop :=
 ∃ ob cap rows es,r = .slice (mkA ob) m.length cap∧Zla v' ty2 t rows m es∧(∀ x ∈ Loc.own ob ty 1 m.length cap (Zo rows m) :: es,x.holds w'∧∀ b,x.blk=some b→w.heap.size≤b∧v' b=none)∧((Loc.own ob ty 1 m.length cap (Zo rows m) :: es).filterMap Loc.blk).Nodup
def ZAg (P:Program) (f:FuncId) (c:ConM):Prop:=∀ (w:World) (v:Zb) (vals:List Value) (x:Zy c.args) (z:List (List c.t.den)),VIn v w→Zoa v c.args vals x→c.F x=some z →
 ZC P f∧RetO P f vals.toArray w v (OwnM c.ty c.ty2 c.t z w)
def OwnB (ty:TypeId) (c:CT) (res:List T) (b:Nat) (r:c.den×Zy res) (lent:List Nat) (w:World) (y:Value) (v':Zb) (w':World):Prop :=
 Z3d v' res y r.2∧∃ es',CRL v' (.box ty c) r.1 (.box b) es'∧(∀ e ∈ es',e.holds w'∧∀ k,e.blk=some k→(w.heap.size≤k∨k ∈ lent)∧v' k=none)∧(es'.filterMap Loc.blk).Nodup
def Zzf (P:Program) (f:FuncId) (c:ConB):Prop:=∀ (w:World) (v:Zb) (b:Nat) (es:List Loc) (vals:List Value) (z:c.c.den) (x:Zy c.args) (r:c.c.den×Zy c.res),VIn v w→CRL v (.box c.ty c.c) z (.box b) es→(∀ e ∈ es,e.holds w∧∀ k,e.blk=some k→v k=none)→(es.filterMap Loc.blk).Nodup→Zoa v c.args vals x→c.F z x=some r →
 ZC P f∧Z9c P f (Value.pointer (some ⟨b,0,none⟩) :: vals).toArray w v (es.filterMap Loc.blk) (OwnB c.ty c.c c.res b r (es.filterMap Loc.blk) w)
def Zlg (P:Program) (f:FuncId) (c:ConD):Prop:=∀ (w:World) (v:Zb) (ob:Option Nat) (n cap:Nat) (cs:List Value) (l:List c.t.den) (i j:Int) (z:List c.t.den),VIn v w→(Loc.own ob c.ty c.t.n n cap cs).holds w→(∀ b,ob=some b→v b=none)→c.t.rep.rels v cs l→n=l.length→inR .i64 i→inR .i64 j→c.F l i j=some z →
 ZC P f∧Z9c P f #[.slice (mkA ob) n cap,.int .i64 i,.int .i64 j] w v ob.toList (OwnI c.t.rep c.ty c.t.n z ob w)
def OwnPR (ty:TypeId) (t:T) (res:List T) (z:List t.den×Zy res) (w:World) (y:Value) (v':Zb) (w':World):Prop :=
 ∃ r0 rest,y = .tuple (r0 :: rest).toArray∧OwnR t.rep ty t.n z.1 w r0 v' w'∧Zoa v' res rest z.2
def Zgg (P:Program) (f:FuncId) (c:ConP):Prop:=∀ (w:World) (v:Zb) (vals:List Value) (x:Zy c.args) (z:List c.t.den×Zy c.res),VIn v w→Zoa v c.args vals x→c.F x=some z →
 ZC P f∧RetO P f vals.toArray w v (OwnPR c.ty c.t c.res z w)
structure CfOK (C:Cf):Prop where
 c:∀ f c,ZR C.cons f=some c→ZId C.P f c
 o:∀ f c,ZR C.owns f=some c→ZBe C.P f c
 i:∀ f c,ZR C.ins f=some c→Zmk C.P f c
 m:∀ t s f,lkM C.meths t s=some f→∀ y w,(method (C.P.types.size+Made.depth) t y s).run C.P w = .ok (f,y) w
 q:∀ f c,ZR C.omats f=some c→ZAg C.P f c
 b:∀ f c,ZR C.boxs f=some c→Zzf C.P f c
 d:∀ f c,ZR C.dels f=some c→Zlg C.P f c
 p:∀ f c,ZR C.pows f=some c→Zgg C.P f c
section
variable {P:Program} {N:Nat} {G:V→Value→Prop} {w0:Base} {v0:Zb} {U X:Nat→Prop} {f:Fr} {l:Lo} {a:Act} {w:World} {γ:Nat→Gh} {v:Zb} {ℓ:List Loc} {n:Nat}
variable {d:Option Nat} {ty:TypeId} {pos:String} {aft:Array Edge} {g:Option (Nat×Bool)}
theorem Zjq (hr:RelX N G w0 v0 U X f l a w γ v ℓ) {lo:Option Operand} {k:Option Int→Ev Unit} {Post:Unit→Fr→Lo→Prop} (h:Zk n (optI lo k) f l Post):∃ i,Zk n (k i) f l Post∧((lo=none∧i=none) ∨ ∃ y κ q,lo=some y∧i=some q∧a.eval y = .int κ q):=by
 cases lo with
 | none=>exact ⟨none,h,.inl ⟨rfl,rfl⟩⟩
 | some y =>
  obtain ⟨V1,h1,_,hA⟩:=ZL hr h;obtain ⟨κ,i,rfl,hB⟩:=Zfb hA;exact ⟨some i,hB,.inr ⟨y,κ,i,rfl,rfl,(ZDa h1).1⟩⟩
theorem ZLj (hr:RelX N G w0 v0 U X f l a w γ v ℓ) (hU:∀ k,U k→X k) (hX:X n) {t:TypeId} {x:Operand} {lo hi:Option Operand} {o:Oper} {p:V} {i j:Option Int} {Post:Unit→Fr→Lo→Prop} (ho:o=⟨d,.slice t x lo hi none,ty,pos,aft,g⟩) (hd:∀ k,o.dst=some k→k<N) (hp:RV v γ l p (a.eval x))
  (hlo:(lo=none∧i=none) ∨ ∃ y κ q,lo=some y∧i=some q∧a.eval y = .int κ q) (hhi:(hi=none∧j=none) ∨ ∃ y κ q,hi=some y∧j=some q∧a.eval y = .int κ q) (h:Zk n (cutE P o t p i j) f l Post):Zna P N G w0 v0 X o a w Post:=by
 obtain ⟨σ,hσ,hev⟩:=hr.st.evs (x :: (lo.toList++hi.toList));have hx:=hev x (by simp);have h1:∀ m:Int,(Z5g i 0=m)→(lo=none∧m=0) ∨ ∃ y k,lo=some y∧ev σ y=some (.int k m):=by
  intro m hm;rcases hlo with ⟨e1,e2⟩ | ⟨y,κ,q,e1,e2,e3⟩
  ·subst e2;exact .inl ⟨e1,hm.symm⟩
  ·subst e1 e2;have hm:q=m:=hm;exact .inr ⟨y,κ,rfl,by rw [hev y (by simp),e3,hm]⟩
 have h2:∀ (len:Nat) (m:Int),(Z5g j (len:Int)=m)→(hi=none∧m=len) ∨ ∃ y k,hi=some y∧ev σ y=some (.int k m):=by
  intro len m hm;rcases hhi with ⟨e1,e2⟩ | ⟨y,κ,q,e1,e2,e3⟩
  ·subst e2;exact .inl ⟨e1,hm.symm⟩
  ·subst e1 e2;have hm:q=m:=hm;exact .inr ⟨y,κ,rfl,by rw [hev y (by simp),e3,hm]⟩
 unfold cutE at h;split at h
 ·rename_i s xs;obtain ⟨qa,m,c,hy,hR⟩:=Z8m hp;rw [hy] at hx;split at h
  ·rename_i q hq;split at h
   ·rename_i hb;have hb:=Nat.eq_of_beq_eq_true hb;have hSl:=Z0l hq;rw [hb,← ZT] at hSl;obtain ⟨yy,hyy,h⟩:=h;obtain ⟨c0,c1,c2,c3,_⟩:=Zff hyy;obtain ⟨q',cap',hrun,hrel⟩:=Z9x hσ hSl hR c0 c1 c2;rw [← c3] at hrel;subst ho;exact ZO hr hU (hrun hx (h1 _ rfl) (h2 _ _ rfl)) hd hX (x:=.data (.slice s) yy) ⟨[_],hrel,rfl⟩ trivial h
   ·exact h.elim
  ·exact h.elim
 ·obtain ⟨e1,e2⟩:=Zvg hp;rw [e1] at hx;split at h
  ·rename_i ht;obtain ⟨yy,hyy,h⟩:=h;subst ho;exact ZO hr hU (Zjx hσ hx ht (h1 _ rfl) (h2 _ _ rfl) hyy) hd hX (Z7j (Zow hyy e2)) trivial h
  ·exact h.elim
 ·exact h.elim
theorem ZFf {ρ:Type}:∀ (g:Nat) {t:T} {x:V} {k:t.den→Ev ρ} {l:Lo} {Post:ρ→Fr→Lo→Prop},Zk n (conv g t x k) f l Post→x.isAgg=t.agg
 | 0,_,_,_,_,_,h=>h.elim
 | g+1,t,x,k,l,Post,h=>by
  cases x with
  | data s x =>
   simp only [conv] at h
   split at h
   ·rename_i y hy
    obtain ⟨e,_⟩:=ZZ hy
    subst e;rfl
   ·split at h
    ·rfl
    ·rfl
    ·rfl
    ·rfl
    ·rfl
    ·split at h
     ·rename_i c hc
      have h1:=ZFf g (x:=.agg c) h
      have h2:s.agg=true:=by
       unfold Zce at hc;split at hc <;> first | rfl | cases hc
      exact h2.trans h1
     ·exact h.elim
  | nilS =>
   simp only [conv] at h;split at h <;> first | rfl | exact h.elim
  | own u =>
   simp only [conv] at h;obtain ⟨e,he,h⟩:=h;obtain ⟨kk,st,L⟩:=e
   cases L with
   | box _ _=>exact h.elim
   | mid _ _ _ _ _ _=>exact h.elim
   | own ty s xs fz =>
    cases fz with
    | true=>exact ZFf g (x:=.data (.slice s) xs) h
    | false=>exact ZFf g (x:=.data (.slice s) xs) h
   | mat ty _ s m _=>exact ZFf g (x:=.data (.slice (.slice s)) m) h
  | agg c =>
   cases c with
   | cons x1 c =>
    cases c with
    | cons x2 r=>simp only [conv] at h;split at h <;> first | rfl | exact h.elim
    | nl=>simp only [conv] at h;split at h <;> first | rfl | exact h.elim
    | _=>simp only [conv] at h;exact h.elim
   | _=>simp only [conv] at h;exact h.elim
  | ptr u o =>
   cases o with
   | succ _=>simp only [conv] at h;exact h.elim
   | zero=>simp only [conv] at h;split at h <;> first | rfl | exact h.elim
  | _=>simp only [conv] at h;exact h.elim
theorem Zpp {x:V} {t:T} {cs:List Value} (h:x.isAgg=t.agg):x.val cs=t.rep.val cs:=by
 unfold V.val Rep.val;rw [h,ZQo]
 cases t.agg <;> rfl
theorem Zzm {v v':Zb} (h:v.le v'):∀ {ts:List T} {vals:List Value} {x:Zy ts},Zoa v ts vals x→Zoa v' ts vals x
 | [],_,_,k=>k
 | [_],_,_,⟨cs,h1,h2⟩=>⟨cs,h1,Rep.mono _ h h2⟩
 | _ :: _ :: _,_,_,⟨cs,vs,h1,h2,h3⟩=>⟨cs,vs,h1,Rep.mono _ h h2,Zzm h h3⟩
theorem ZSe {ρ:Type} (hn:¬ U n) (hX:X n):∀ {ts:List T} {c:V} {k:Zy ts→Ev ρ} {l:Lo} {γ:Nat→Gh} {v:Zb} {ℓ:List Loc} {Post:ρ→Fr→Lo→Prop},Zk n (Zyd ts c k) f l Post→RelX N G w0 v0 U X f l a w γ v ℓ→c.ok U →
  ∃ x l' γ' v' ℓ',Zk n (k x) f l' Post∧RelX N G w0 v0 U X f l' a w γ' v' ℓ'∧Le U v γ l v' γ' l'∧∀ vals,RR v γ l true c vals→Zoa v' ts vals x
 | [],c,k,l,γ,v,ℓ,Post,h,hr,hk=>by
  obtain ⟨E,hE,_⟩:=hr.lr
  cases c with
  | nl=>exact ⟨(),l,γ,v,ℓ,h,hr,Le.refl hE (Zb.le_refl _),fun vals hv=>hv⟩
  | _=>exact h.elim
 | [t],c,k,l,γ,v,ℓ,Post,h,hr,hk=>by
  cases c with
  | cons x c =>
   cases c with
   | nl =>
    have hag:=ZFf FU (n:=n) (f:=f) (l:=l) (t:=t) (x:=x) h
    obtain ⟨y,l1,γ1,v1,ℓ1,h,r1,le1,q1⟩:=Znd hn hX FU h hr hk.1
    refine ⟨y,l1,γ1,v1,ℓ1,h,r1,le1,fun vals hv=>?_⟩
    obtain ⟨cs,vs,rfl,h1,h2⟩:=hv
    have h2:vs=[]:=h2
    subst h2
    exact ⟨cs,by rw [Zpp hag],q1 _ h1⟩
   | _=>exact h.elim
  | _=>exact h.elim
 | t :: u :: r,c,k,l,γ,v,ℓ,Post,h,hr,hk=>by
  cases c with
  | cons x c =>
   have h':Zk n (conv FU t x fun x=>Zyd (u :: r) c fun y=>k (x,y)) f l Post:=by
    cases c <;> exact h
   have hag:=ZFf FU (n:=n) (f:=f) (l:=l) (t:=t) (x:=x) h';obtain ⟨y,l1,γ1,v1,ℓ1,h1,r1,le1,q1⟩:=Znd hn hX FU h' hr hk.1;obtain ⟨ys,l2,γ2,v2,ℓ2,h2,r2,le2,q2⟩:=ZSe hn hX h1 r1 hk.2;refine ⟨(y,ys),l2,γ2,v2,ℓ2,h2,r2,le1.trans le2,fun vals hv=>?_⟩;obtain ⟨cs,vs,rfl,h3,h4⟩:=hv;exact ⟨cs,vs,by rw [Zpp hag],Rep.mono _ le2.v (q1 _ h3),q2 _ (Zqb le1 hk.2 h4)⟩
  | _=>exact h.elim
theorem Znm {v:Zb}:∀ {ts:List T} {vals:List Value} {x:Zy ts},Zoa v ts vals x→RR v γ l true (ZYc ts x) vals∧(ZYc ts x).ok U
 | [],_,_,h=>⟨h,trivial⟩
 | [t],_,x,⟨cs,h1,h2⟩=>⟨⟨cs,[],by rw [h1];exact congrArg (fun z=>[z]) (ZDe (t:=t) (x:=x) (cs:=cs)).symm,h2,rfl⟩,trivial,trivial⟩
 | t :: u :: r,_,x,⟨cs,vs,h1,h2,h3⟩=>by
  obtain ⟨k1,k2⟩:=Znm h3
  exact ⟨⟨cs,vs,by rw [h1];exact congrArg (· :: vs) (ZDe (t:=t) (x:=x.1) (cs:=cs)).symm,h2,k1⟩,trivial,k2⟩
theorem ZLk {v:Zb} {ts:List T} {y:Value} {z:Zy ts} (h:Z3d v ts y z):RV v γ l (ZJd (ZYc ts z)) y∧(ZJd (ZYc ts z)).ok U:=by
 match ts,z,h with
 | [],z,⟨vals,h1,h2⟩=>exact ⟨⟨vals,h2,h1⟩,trivial⟩
 | [t],z,⟨cs,h1,h2⟩=>exact ⟨⟨cs,h2,by rw [h1];exact (ZDe (t:=t) (x:=z) (cs:=cs)).symm⟩,trivial⟩
 | t :: u :: r,z,⟨vals,h1,h2⟩ =>
  obtain ⟨k1,k2⟩:=Znm (γ:=γ) (l:=l) (U:=U) h2
  cases r <;> exact ⟨⟨vals,k1,h1⟩,k2⟩
theorem Ziq {σ:List (Nat×Value)} (hS:St N w0 v0 σ ℓ v a w) {x:Operand} {m:String} {f:FuncId} {xs:Array Operand} {ats:Array TypeId} {t:TypeId} {y:Value} (vals:List Value) (hm:∀ w,(method (P.types.size+Made.depth) t y m).run P w = .ok (f,y) w) (e:ev σ x=some (.iface t y))
  (h:xs.toList.map (ev σ)=vals.map some) {r:Go.Next} (hf:(callFunc f (y :: vals).toArray).run P w = .ok r w):(execOp a.eval ⟨d,.call ⟨.invoke x m,xs,ats⟩,ty,pos,aft,g⟩).run P w = .ok r w:=by
 have hx:xs.map a.eval=vals.toArray:=by
  apply Array.ext';rw [Array.toList_map];generalize xs.toList=l at h;clear hf
  induction l generalizing vals with
  | nil=>cases vals <;> simp_all
  | cons y l ih =>
   cases vals with
   | nil=>simp at h
   | cons u vals =>
    simp at h;simp [hS.eval h.1,ih vals h.2]
 simp [execOp,resolve,invoke,callMethod,hx,hS.eval e,hm,hf]
theorem Zbl (hr:RelX N G w0 v0 U X f l a w γ v ℓ) (hU:∀ k,U k→X k) (hX:X n) (hn:¬ U n) {e:TypeId} {s:T} {xs:List s.den} {o:Oper} {ob:Option Nat} {cap:Nat} {cs:List Value} {Post:Unit→Fr→Lo→Prop} (hd:∀ k,o.dst=some k→k<N)
  (hst:St N w0 v0 [] (.own ob e s.n xs.length cap cs :: ℓ) v a w) (hc:s.rep.rels v cs xs) (h:Zk n (Ev.new n (.own e s xs false) (ret o (.own n))) f l Post):∃ f' l',Post () f' l'∧Rel N G w0 v0 X f' l' (a.put o.dst (.slice (mkA ob) xs.length cap)) w:=by
 obtain ⟨hnew,h⟩:=h;obtain ⟨E,hE,hpm⟩:=hr.lr;have hr':=hr.new (γ':=ZYb γ n (.own ob cap)) (L':=.own e s xs false) hX hX hn hnew hE (hst.perm (List.Perm.cons _ hpm)) (Zb.le_refl _) (fun _ h=>ZWb h) ⟨ob,cap,cs,ZSa,hc,rfl⟩ (List.Perm.refl _) trivial;unfold ret at h
 cases hdd:o.dst with
 | none=>rw [hdd] at h;exact h.elim
 | some d =>
  rw [hdd] at h;refine ⟨_,_,h,_,_,_,(hr'.mono hU fun _ h=>h).put (hd d hdd) (x:=.own n) ⟨[_],⟨_,rfl,by cases ob <;> rfl,fun e' he'=>?_⟩,rfl⟩ hX hX⟩;rw [ZQ,if_pos rfl] at he';cases he';exact ⟨_,_,ZSa,rfl⟩
theorem Z4u (hr:RelX N G w0 v0 U X f l a w γ v ℓ) (hU:∀ k,U k→X k) (hX:X n) (hn:¬ U n) {e:TypeId} {s:T} {xs:List s.den} {res:List T} {z2:Zy res} {rest:List Value} {o:Oper} {ob:Option Nat} {cap:Nat} {cs:List Value} {Post:Unit→Fr→Lo→Prop} (hd:∀ k,o.dst=some k→k<N)
  (hst:St N w0 v0 [] (.own ob e s.n xs.length cap cs :: ℓ) v a w) (hc:s.rep.rels v cs xs) (hrest:Zoa v res rest z2) (h:Zk n (Ev.new n (.own e s xs false) (ret o (.tup (.cons (.own n) (ZYc res z2))))) f l Post):∃ f' l',Post () f' l'∧Rel N G w0 v0 X f' l' (a.put o.dst (.tuple (.slice (mkA ob) xs.length cap :: rest).toArray)) w:=by
 obtain ⟨hnew,h⟩:=h;obtain ⟨E,hE,hpm⟩:=hr.lr;have hr':=hr.new (γ':=ZYb γ n (.own ob cap)) (L':=.own e s xs false) hX hX hn hnew hE (hst.perm (List.Perm.cons _ hpm)) (Zb.le_refl _) (fun _ h=>ZWb h) ⟨ob,cap,cs,ZSa,hc,rfl⟩ (List.Perm.refl _) trivial;unfold ret at h
 cases hdd:o.dst with
 | none=>rw [hdd] at h;exact h.elim
 | some d =>
  rw [hdd] at h;obtain ⟨k1,k2⟩:=Znm (γ:=ZYb γ n (.own ob cap)) (l:=⟨n,n,LV.own e s xs false⟩ :: l) (U:=X) hrest;refine ⟨_,_,h,_,_,_,(hr'.mono hU fun _ h=>h).put (hd d hdd) (x:=.tup (.cons (.own n) (ZYc res z2))) ⟨_ :: rest,⟨[_],rest,rfl,⟨_,rfl,by cases ob <;> rfl,fun e' he'=>?_⟩,k1⟩,rfl⟩ ⟨hX,k2⟩ hX⟩;rw [ZQ,if_pos rfl] at he';cases he';exact ⟨_,_,ZSa,rfl⟩
theorem St.addL {K:Nat} {w0:Base} {v0:Zb} {σ:List (Nat×Value)} {ℓ es:List Loc} {v:Zb} {a:Act} {w:World} {s:Nat} (h:St K w0 v0 σ ℓ v a w) (hs:w0.wd.heap.size≤s) (hnew:∀ x ∈ es,x.holds w∧∀ b,x.blk=some b→s≤b∧v b=none) (hnd:(es.filterMap Loc.blk).Nodup) (hold:∀ x ∈ ℓ,∀ b,x.blk=some b→b<s):St K w0 v0 σ (es++ℓ) v a w:=by
 refine ⟨h.size,h.dfr,h.fr,h.ext,h.vst,fun x hx=>?_,?_⟩
 ·rcases List.mem_append.1 hx with hx | hx
  ·exact ⟨(hnew x hx).1,fun b eb=>⟨.inl (Nat.le_trans hs ((hnew x hx).2 b eb).1),((hnew x hx).2 b eb).2⟩⟩
  ·exact h.loc x hx
 ·rw [List.filterMap_append];refine List.nodup_append.2 ⟨hnd,h.nd,fun b hb b' hb' e=>?_⟩;subst e;obtain ⟨x,hx,hxb⟩:=List.mem_filterMap.1 hb;obtain ⟨y,hy,hyb⟩:=List.mem_filterMap.1 hb';have h1:=((hnew x hx).2 b hxb).1;have h2:=hold y hy b hyb;omega
theorem put_mat (hr:RelX N G w0 v0 U X f l a w γ v ℓ) (hU:∀ k,U k→X k) (hX:X n) (hn:¬ U n) {ty ty2:TypeId} {t:T} {m:List (List t.den)} {o:Oper} {ob:Option Nat} {cap:Nat} {rows:List (Option Nat×Nat)} {es:List Loc} {Post:Unit→Fr→Lo→Prop} (hd:∀ k,o.dst=some k→k<N)
  (hst:St N w0 v0 [] ((.own ob ty 1 m.length cap (Zo rows m) :: es)++ℓ) v a w) (hc:Zla v ty2 t rows m es) (h:Zk n (Ev.new n (.mat ty ty2 t m n) (ret o (.own n))) f l Post):∃ f' l',Post () f' l'∧Rel N G w0 v0 X f' l' (a.put o.dst (.slice (mkA ob) m.length cap)) w:=by
 obtain ⟨hnew,h⟩:=h;obtain ⟨E,hE,hpm⟩:=hr.lr;have hr':=hr.new (γ':=ZYb γ n (.mat ob cap rows)) (L':=.mat ty ty2 t m n) (es':=.own ob ty 1 m.length cap (Zo rows m) :: es) hX hX hn hnew hE (hst.perm (List.Perm.append_left _ hpm)) (Zb.le_refl _) (fun _ h=>ZWb h) ⟨ob,cap,rows,es,ZSa,hc,rfl⟩ (List.Perm.refl _) hX;unfold ret at h
 cases hdd:o.dst with
 | none=>rw [hdd] at h;exact h.elim
 | some d =>
  rw [hdd] at h;refine ⟨_,_,h,_,_,_,(hr'.mono hU fun _ h=>h).put (hd d hdd) (x:=.own n) ⟨[_],⟨_,rfl,by cases ob <;> rfl,fun e' he'=>?_⟩,rfl⟩ hX hX⟩;rw [ZQ,if_pos rfl] at he';cases he';exact ⟨_,_,_,ZSa,rfl⟩
theorem ZJr {c:ConI} {fid:FuncId} (hI:Zmk P fid c) (hr:RelX N G w0 v0 U X f l a w γ v ℓ) (hU:∀ k,U k→X k) (hX:X n) (hn:¬ U n) {o:Oper} {Post:Unit→Fr→Lo→Prop} (hd:∀ k,o.dst=some k→k<N) {ob:Option Nat} {cap:Nat} {cs:List Value} {xs:List c.t.den} {i:Int} {bv kv:Nat} {c0:Array Value} {x:c.t.den} {z:List c.t.den}
  (hst:St N w0 v0 [] (.own ob c.ty c.t.n xs.length cap cs :: ℓ) v a w) (hA:c.t.rep.rels v cs xs) (hkv:1≤kv) (hbv:v bv=some (.cells c0 c.ty (0,0))) (hx:c.t.rep.rel v (c0.toList.take c.t.n) x) (hi:inR .i64 i) (hz:c.F xs i x=some z)
  (hent:ZC P fid→(execOp a.eval o).run P w = .ok (.enter fid #[.slice (mkA ob) xs.length cap,.int .i64 i,.slice (some ⟨bv,0,none⟩) 1 kv]) w) (h:Zk n (Ev.new n (.own c.ty c.t z false) (ret o (.own n))) f l Post):Zna P N G w0 v0 X o a w Post:=by
 obtain ⟨hh,hb⟩:=hst.loc _ List.mem_cons_self;obtain ⟨hen,hret⟩:=hI w v ob xs.length cap cs xs i bv kv c0 x z hst.vin hh (fun b e=>(hb b e).2) hA rfl hkv hbv hx hi hz;refine ZHc (hent hen) (Calls.mono hret fun e w' ⟨r,v',e1,e2,e3,e4⟩=>⟨r,e1,?_⟩);obtain ⟨ob',n',cap',cs',rfl,hh',hb',hA',hn'⟩:=e4;subst hn';have hS:=hst.afterI (i:=0) (e':=.own ob' c.ty c.t.n z.length cap' cs') rfl e2 e3 hh' fun b hb=>by
  obtain ⟨q1,q2⟩:=hb' b hb;exact ⟨q1,q2⟩
 have hS:St N w0 v0 [] (.own ob' c.ty c.t.n z.length cap' cs' :: ℓ) v' a w':=hS;exact Zbl (hr.go e3.le (hS.drop (List.sublist_cons_self _ _))) hU hX hn hd hS hA' h
theorem Zsx {c:ConD} {fid:FuncId} (hI:Zlg P fid c) (hr:RelX N G w0 v0 U X f l a w γ v ℓ) (hU:∀ k,U k→X k) (hX:X n) (hn:¬ U n) {o:Oper} {Post:Unit→Fr→Lo→Prop} (hd:∀ k,o.dst=some k→k<N) {ob:Option Nat} {cap:Nat} {cs:List Value} {xs:List c.t.den} {i j:Int} {z:List c.t.den}
  (hst:St N w0 v0 [] (.own ob c.ty c.t.n xs.length cap cs :: ℓ) v a w) (hA:c.t.rep.rels v cs xs) (hi:inR .i64 i) (hj:inR .i64 j) (hz:c.F xs i j=some z)
  (hent:ZC P fid→(execOp a.eval o).run P w = .ok (.enter fid #[.slice (mkA ob) xs.length cap,.int .i64 i,.int .i64 j]) w) (h:Zk n (Ev.new n (.own c.ty c.t z false) (ret o (.own n))) f l Post):Zna P N G w0 v0 X o a w Post:=by
 obtain ⟨hh,hb⟩:=hst.loc _ List.mem_cons_self;obtain ⟨hen,hret⟩:=hI w v ob xs.length cap cs xs i j z hst.vin hh (fun b e=>(hb b e).2) hA rfl hi hj hz;refine ZHc (hent hen) (Calls.mono hret fun e w' ⟨r,v',e1,e2,e3,e4⟩=>⟨r,e1,?_⟩);obtain ⟨ob',n',cap',cs',rfl,hh',hb',hA',hn'⟩:=e4;subst hn';have hS:=hst.afterI (i:=0) (e':=.own ob' c.ty c.t.n z.length cap' cs') rfl e2 e3 hh' fun b hb=>by
  obtain ⟨q1,q2⟩:=hb' b hb;exact ⟨q1,q2⟩
 have hS:St N w0 v0 [] (.own ob' c.ty c.t.n z.length cap' cs' :: ℓ) v' a w':=hS;exact Zbl (hr.go e3.le (hS.drop (List.sublist_cons_self _ _))) hU hX hn hd hS hA' h
theorem Z8p {C:Cf} (hC:CfOK C) (hr:RelX N G w0 v0 U X f l a w γ v ℓ) (hU:∀ k,U k→X k) (hX:X n) (hn:¬ U n) {fid:FuncId} {c:V} {vals:List Value} {o:Oper} {Post:Unit→Fr→Lo→Prop} (hd:∀ k,o.dst=some k→k<N)
  (hent:ZC C.P fid→(execOp a.eval o).run C.P w = .ok (.enter fid vals.toArray) w) (hval:∀ y,(∀ w,(callFunc fid vals.toArray).run C.P w = .ok (.value y) w)→(execOp a.eval o).run C.P w = .ok (.value y) w)
  (hc:RR v γ l true c vals) (hk:c.ok U) (h:Zk n (Zlj C n o fid c) f l Post):Zna C.P N G w0 v0 X o a w Post:=by
 unfold Zlj at h;split at h
 ·rename_i con hcon;obtain ⟨p,l1,γ1,v1,ℓ1,h,r1,le1,q1⟩:=ZSe hn hX h hr hk;obtain ⟨z,hz,h⟩:=h;have hR:=q1 _ hc;rcases hC.c fid con hcon w v1 _ p z r1.st.vin hR hz with ⟨hen,hret⟩ | ⟨y,hv,hres⟩
  ·refine ZHc (hent hen) (Calls.mono hret fun e w' ⟨r,v',e1,e2,e3,e4⟩=>⟨r,e1,?_⟩);have r2:=r1.go e3.le (r1.st.step e2 e3);obtain ⟨k1,k2⟩:=ZLk (γ:=γ1) (l:=l1) (U:=X) e4;unfold ret at h
   cases hdd:o.dst with
   | none=>rw [hdd] at h;exact h.elim
   | some dd =>
    rw [hdd] at h;exact ⟨_,_,h,_,_,_,(r2.mono hU fun _ h=>h).put (hd dd hdd) k1 k2 hX⟩
  ·obtain ⟨k1,k2⟩:=ZLk (γ:=γ1) (l:=l1) (U:=X) hres;exact ZO r1 hU (hval y hv) hd hX k1 k2 h
 ·split at h
  ·rename_i con hcon;obtain ⟨p,l1,γ1,v1,ℓ1,h,r1,le1,q1⟩:=ZSe hn hX h hr hk;obtain ⟨z,hz,h⟩:=h;have hR:=q1 _ hc;obtain ⟨hen,hret⟩:=hC.o fid con hcon w v1 _ p z r1.st.vin hR hz;refine ZHc (hent hen) (Calls.mono hret fun e w' ⟨r,v',e1,e2,e3,e4⟩=>⟨r,e1,?_⟩);obtain ⟨ob,n',cap,cs,rfl,hh,hb,hA,hn'⟩:=e4;subst hn';have h':=r1.st.step e2 e3;refine Zbl (r1.go e3.le h') hU hX hn hd (cs:=cs) ⟨h'.size,h'.dfr,h'.fr,h'.ext,h'.vst,fun x hx=>?_,?_⟩ hA h
   ·rcases List.mem_cons.1 hx with rfl | hx
    ·exact ⟨hh,fun b eb=>⟨.inl (Nat.le_trans r1.st.ext.size (hb b eb).1),(hb b eb).2⟩⟩
    ·exact h'.loc x hx
   ·cases ob with
    | none=>rw [List.filterMap_cons_none (show (Loc.own none con.ty con.t.n z.length cap cs).blk=none from rfl)];exact h'.nd
    | some b =>
     rw [List.filterMap_cons_some (show (Loc.own (some b) con.ty con.t.n z.length cap cs).blk=some b from rfl)];refine List.nodup_cons.2 ⟨fun hm=>?_,h'.nd⟩;obtain ⟨x,hx,hxb⟩:=List.mem_filterMap.1 hm;obtain ⟨c,T',hg⟩:=Loc.blk_get (r1.st.loc x hx).1 hxb;have h1:=Zvd hg;have h2:=(hb b rfl).1;omega
  ·split at h
   ·rename_i con hcon;have hI:=hC.i fid con hcon;unfold insE at h;split at h
    ·rename_i A i u2;obtain ⟨cA,xs1,rfl,hA1,xs2,xs3,rfl,hI1,xs4,xs5,rfl,hU2,hnl⟩:=hc;have hnl:xs5=[]:=hnl;subst hnl;obtain ⟨e2,he2,h⟩:=h;obtain ⟨k2,st2,L2⟩:=e2;have hk2:k2=u2:=(Zs he2).2;subst hk2
     cases L2 with
     | own ty2 s2 l2 fz =>
      cases fz with
      | true=>exact h.elim
      | false =>
       simp only at h;split at h
       ·rename_i x hty hcast;have hty:=Nat.eq_of_beq_eq_true hty;subst hty;obtain ⟨c3,c4⟩:=ZZ hcast;obtain ⟨es2,E2,g1,_,_,g3,r1⟩:=hr.del he2;obtain ⟨ob2,cap2,cs2,g4,g5,rfl⟩:=g1;have g4:γ k2 = .own ob2 cap2:=g4;obtain ⟨y2,rfl,_,hy2⟩:=hU2;obtain ⟨ob2',cap2',g6,g7⟩:=hy2 _ he2;rw [g4] at g6;cases g6;have hst2:=hr.st.perm g3;obtain ⟨hh2,hb2⟩:=hst2.loc _ List.mem_cons_self;have hc3:s2=con.t:=by injection c3
        subst hc3;have hl2:l2=[x]:=c4;subst hl2
        cases ob2 with
        | none=>obtain ⟨q,_⟩:=hh2;cases q
        | some bv =>
         obtain ⟨hl,cur,hg,hle,_,hcz,htk⟩:=hh2;obtain ⟨v1,hv1,hv2,hst3⟩:=hst2.publish (i:=0) (ℓ':=E2.flatten) rfl rfl hg rfl;have r2:=r1.go hv1 hst3;have hx1:con.t.rep.rel v1 (cur.toList.take con.t.n) x:=by
          have hq:con.t.rep.rels v1 cs2 [x]:=ZP hv1 g5;obtain ⟨d1,d2,e1,e2,e3⟩:=hq;have e3:d2=[]:=e3;subst e3;rw [List.append_nil] at e1;subst e1;have:cur.toList.take ([x].length*con.t.n)=cs2:=htk;rw [show [x].length*con.t.n=con.t.n by simp] at this;rw [this];exact e2
         have hi:inR .i64 i:=by obtain ⟨_,q⟩:=hI1;exact q
         have hiv:(V.data (.int .i64) i).val xs2 = .int .i64 i:=by obtain ⟨q,_⟩:=hI1;subst q;rfl
         have hle0:=Le.era hr k2;have lv:Le U v γ l v1 γ (era l k2):=hle0.trans (by obtain ⟨EE,hEE,_⟩:=r1.lr;exact Le.refl hEE hv1)
         cases A with
         | own u =>
          simp only at h;obtain ⟨e,he,h⟩:=h;obtain ⟨k,st,L⟩:=e;have hkk:k=u:=(Zs he).2;subst hkk
          cases L with
          | own ty s xs fz =>
           cases fz with
           | true=>exact h.elim
           | false =>
            simp only at h;split at h
            ·rename_i l' hty hcast;have hty:=Nat.eq_of_beq_eq_true hty;subst hty;obtain ⟨c5,c6⟩:=ZZ hcast;have hc5:s=con.t:=by injection c5
             subst hc5;have hl':xs=l':=c6;subst hl';obtain ⟨z,hz,h⟩:=h;obtain ⟨es,E3,d1,_,_,d3,r3⟩:=r2.del he;obtain ⟨ob,cap,cs,d4,d5,rfl⟩:=d1;have d4:γ k = .own ob cap:=d4;have hA2:=Zqb lv (x:=.own k) hk.1 hA1;obtain ⟨y,rfl,_,hy⟩:=hA2;obtain ⟨ob',cap',d6,d7⟩:=hy _ he;rw [d4] at d6;cases d6;refine ZJr hI r3 hU hX hn hd (hst3.perm d3) d5 (kv:=cap2) (by simpa using hle) hv2 hx1 hi hz (fun hen=>?_) h;rw [hent hen,Zqf (x:=.own k) rfl,d7,hiv,Zqf (x:=.own k2) rfl,g7];rfl
            ·exact h.elim
          | box _ _=>exact h.elim
          | mid _ _ _ _ _ _=>exact h.elim
          | mat _ _ _ _ _=>exact h.elim
         | nilS =>
          simp only at h;obtain ⟨z,hz,h⟩:=h;have hA1:cA=[.slice none 0 0]:=hA1;subst hA1;refine ZJr hI r2 hU hX hn hd (ob:=none) (cap:=0) (cs:=[]) (xs:=[]) (hst3.nilLoc con.ty con.t.n) rfl (kv:=cap2) (by simpa using hle) hv2 hx1 hi hz (fun hen=>?_) h;rw [hent hen,hiv,Zqf (x:=.own k2) rfl,g7];rfl
         | _=>exact h.elim
       ·exact h.elim
     | box _ _=>exact h.elim
     | mid _ _ _ _ _ _=>exact h.elim
     | mat _ _ _ _ _=>exact h.elim
    ·exact h.elim
   ·split at h
    ·rename_i con hcon;obtain ⟨p,l1,γ1,v1,ℓ1,h,r1,le1,q1⟩:=ZSe hn hX h hr hk;obtain ⟨z,hz,h⟩:=h;have hR:=q1 _ hc;obtain ⟨hen,hret⟩:=hC.q fid con hcon w v1 _ p z r1.st.vin hR hz;refine ZHc (hent hen) (Calls.mono hret fun e w' ⟨r,v',e1,e2,e3,e4⟩=>⟨r,e1,?_⟩);obtain ⟨ob,cap,rows,es,rfl,hA,hh,hb⟩:=e4;have h':=r1.st.step e2 e3;refine put_mat (r1.go e3.le h') hU hX hn hd (h'.addL r1.st.ext.size hh hb fun x hx b hxb=>?_) hA h;obtain ⟨c,T',hg⟩:=Loc.blk_get (r1.st.loc x hx).1 hxb;exact Zvd hg
    ·split at h
     ·rename_i con hcon;have hI:=hC.d fid con hcon;unfold delE at h;split at h
      ·rename_i u i j;obtain ⟨cA,x1,rfl,hA,cI,x2,rfl,hI1,cJ,x3,rfl,hJ,hnl⟩:=hc;have hnl:x3=[]:=hnl;subst hnl;obtain ⟨e,he,h⟩:=h;obtain ⟨kk,st,L⟩:=e;have hkk:kk=u:=(Zs he).2;subst hkk
       cases L with
       | own ty s xs fz =>
        cases fz with
        | true=>exact h.elim
        | false =>
         simp only at h;split at h
         ·rename_i ys hty hcast;have hty:=Nat.eq_of_beq_eq_true hty;subst hty;obtain ⟨c5,c6⟩:=ZZ hcast;have hc5:s=con.t:=by injection c5
          subst hc5;have hl':xs=ys:=c6;subst hl';obtain ⟨z,hz,h⟩:=h;obtain ⟨es,E',h1,_,h2,h3,r1⟩:=hr.del he;obtain ⟨ob,cap,cs,g1,g2,rfl⟩:=h1;have g1:γ kk = .own ob cap:=g1;obtain ⟨y,rfl,_,hy⟩:=hA;obtain ⟨ob',cap',g3,g4⟩:=hy _ he;rw [g1] at g3;cases g3;have hi:inR .i64 i:=by obtain ⟨_,q⟩:=hI1;exact q
          have hiv:(V.data (.int .i64) i).val cI = .int .i64 i:=by obtain ⟨q,_⟩:=hI1;subst q;rfl
          have hj:inR .i64 j:=by obtain ⟨_,q⟩:=hJ;exact q
          have hjv:(V.data (.int .i64) j).val cJ = .int .i64 j:=by obtain ⟨q,_⟩:=hJ;subst q;rfl
          refine Zsx hI r1 hU hX hn hd (hr.st.perm h3) g2 hi hj hz (fun hen=>?_) h;rw [hent hen,Zqf (x:=.own kk) rfl,g4,hiv,hjv]
         ·exact h.elim
       | box _ _=>exact h.elim
       | mid _ _ _ _ _ _=>exact h.elim
       | mat _ _ _ _ _=>exact h.elim
      ·exact h.elim
     ·split at h
      ·rename_i con hcon;obtain ⟨p,l1,γ1,v1,ℓ1,h,r1,le1,q1⟩:=ZSe hn hX h hr hk;obtain ⟨z,hz,h⟩:=h;have hR:=q1 _ hc;obtain ⟨hen,hret⟩:=hC.p fid con hcon w v1 _ p z r1.st.vin hR hz;refine ZHc (hent hen) (Calls.mono hret fun e w' ⟨r,v',e1,e2,e3,e4⟩=>⟨r,e1,?_⟩);obtain ⟨r0,rest,rfl,⟨ob,n',cap,cs,rfl,hh,hb,hA,hn'⟩,hrest⟩:=e4;subst hn';have h':=r1.st.step e2 e3;refine Z4u (r1.go e3.le h') hU hX hn hd (cs:=cs) ⟨h'.size,h'.dfr,h'.fr,h'.ext,h'.vst,fun x hx=>?_,?_⟩ hA hrest h
       ·rcases List.mem_cons.1 hx with rfl | hx
        ·exact ⟨hh,fun b eb=>⟨.inl (Nat.le_trans r1.st.ext.size (hb b eb).1),(hb b eb).2⟩⟩
        ·exact h'.loc x hx
       ·cases ob with
        | none=>rw [List.filterMap_cons_none (show (Loc.own none con.ty con.t.n z.1.length cap cs).blk=none from rfl)];exact h'.nd
        | some b =>
         rw [List.filterMap_cons_some (show (Loc.own (some b) con.ty con.t.n z.1.length cap cs).blk=some b from rfl)];refine List.nodup_cons.2 ⟨fun hm=>?_,h'.nd⟩;obtain ⟨x,hx,hxb⟩:=List.mem_filterMap.1 hm;obtain ⟨c,T',hg⟩:=Loc.blk_get (r1.st.loc x hx).1 hxb;have h1:=Zvd hg;have h2:=(hb b rfl).1;omega
      ·exact h.elim
theorem Z1r:∀ {c:V} {i:Nat} {z:V} {vals:List Value},nthV c i=some z→RR v γ l true c vals→c.ok U→∃ y,vals[i]? = some y∧RV v γ l z y∧z.ok U
 | .cons x c,0,z,vals,h,hr,hk=>by
  cases h
  obtain ⟨cs,xs,rfl,h1,h2⟩:=hr
  exact ⟨_,rfl,Zfc h1 (fun c e=>by subst e;exact h1),hk.1⟩
 | .cons x c,i+1,z,vals,h,hr,hk=>by
  obtain ⟨cs,xs,rfl,h1,h2⟩:=hr
  obtain ⟨y,k1,k2,k3⟩:=Z1r (c:=c) h h2 hk.2
  exact ⟨y,by simpa using k1,k2,k3⟩
theorem ZIo {v:Zb} {a:T}:∀ {n:Nat} {x:(Z2e a n).den} {cs:List Value},0<n→(Z2e a n).rep.rel v cs x→a.rep.rels v cs (ZTd a n x)∧(ZTd a n x).length=n
 | 0,_,_,h,_=>by omega
 | 1,x,cs,_,h=>⟨ZMm h,rfl⟩
 | 2,x,cs,_,h=>by
  obtain ⟨c1,c2,h1,h2,h3⟩:=h
  exact ⟨⟨c1,c2,h1,h2,ZMm h3⟩,rfl⟩
 | k+3,x,cs,_,h=>by
  obtain ⟨c1,c2,h1,h2,h3⟩:=h
  obtain ⟨k1,k2⟩:=ZIo (n:=k+2) (by omega) h3
  exact ⟨⟨c1,c2,h1,h2,k1⟩,by show (ZTd a (k+2) x.2).length+1=_;rw [k2]⟩
theorem RelX.slot (h:RelX N G w0 v0 U X f l a w γ v ℓ) {t m:Nat} {z:V} (hr:RV v γ l z (a.tmps.getD t undef)) (hk:z.ok U) (hX:X m):RelX N G w0 v0 U X (⟨t,m,z⟩ :: f) l a w γ v ℓ:=by
 refine ⟨h.st,fun t' e' he'=>?_,h.lr,h.nd,fun t' e' he'=>?_,h.ul,h.gh⟩
 ·rw [ZQ] at he';split at he'
  ·rename_i hk'
   cases he'
   have hk':t=t':=hk';rw [← hk'];exact hr
  ·exact h.fr t' e' he'
 ·rw [ZQ] at he';split at he'
  ·cases he';exact ⟨hk,hX⟩
  ·exact h.uf t' e' he'
theorem Zax {σ:List (Nat×Value)} (hS:St N w0 v0 σ ℓ v a w) {t e:TypeId} {n b:Nat} {i:TypeInfo} {x:Operand} (ht:P.underlying t=some (.array n e)) (hi:P.info? e=some i) (e1:ev σ x=some (.pointer (some ⟨b,0,none⟩))) :
  (execOp a.eval ⟨d,.slice t x none none none,ty,pos,aft,g⟩).run P w = .ok (.value (.slice (some ⟨b,0,none⟩) n n)) w:=by
 have h2:∀ w,(underlying t).run P w = .ok (.array n e) w:=fun w=>run_underlying ht w;have h3:∀ w,(sizeOf e).run P w = .ok i.size w:=fun w=>by simp [sizeOf,typeInfo,hi]
 by_cases hn:n=0
 ·subst hn;simp [execOp,Instr.sliceAt,Instr.sureAddr,hS.eval e1,h2,h3,Instr.sliceBounds,ZFa]
 ·simp [execOp,Instr.sliceAt,Instr.sureAddr,hS.eval e1,h2,h3,Instr.sliceBounds,ZFa]
theorem arrE_ok {C:Cf} (hr:RelX N G w0 v0 U X f l a w γ v ℓ) (hU:∀ k,U k→X k) (hX:X n) (hn:¬ U n) {t:TypeId} {s u off:Nat} {lo hi:Option Operand} {i j:Option Int} {o:Oper} {Post:Unit→Fr→Lo→Prop} (ho:o=⟨d,.slice t (.tmp s) lo hi none,ty,pos,aft,g⟩) (hd:∀ k,o.dst=some k→k<N) (hp:RV v γ l (.ptr u off) (a.eval (.tmp s))) (hk:U u)
  (hlo:(lo=none∧i=none) ∨ ∃ y κ q,lo=some y∧i=some q∧a.eval y = .int κ q) (hhi:(hi=none∧j=none) ∨ ∃ y κ q,hi=some y∧j=some q∧a.eval y = .int κ q) (h:Zk n (arrE C o t s u off i j) f l Post):Zna C.P N G w0 v0 X o a w Post:=by
 unfold arrE at h;split at h
 ·rename_i m e h0 hu;have h0:=Nat.eq_of_beq_eq_true h0;subst h0;have hlo:lo=none:=by
   rcases hlo with h1 | ⟨_,_,_,_,h1,_⟩
   ·exact h1.1
   ·cases h1
  have hhi:hi=none:=by
   rcases hhi with h1 | ⟨_,_,_,_,h1,_⟩
   ·exact h1.1
   ·cases h1
  subst hlo hhi;split at h
  ·rename_i α q hα hq hm0 hm1;have hm0:1≤m:=Nat.le_of_ble_eq_true hm0;have hm1:=Nat.le_of_ble_eq_true hm1;split at h
   ·obtain ⟨⟨k0,st0,L⟩,he,h⟩:=h;have hkk:k0=u:=(Zs he).2;subst hkk
    cases L with
    | box ty0 c =>
     simp only at h;obtain ⟨y,hy0,_,hy⟩:=Zia hp (fun _ e=>by cases e) rfl rfl;have hy0:a.eval (.tmp s)=y:=(List.cons.inj hy0).1;obtain ⟨b,g1,rfl⟩:=hy _ he;obtain ⟨es,E',h1,_,_,h3,_⟩:=hr.del he;obtain ⟨b',cs,g2,g3,g4,rfl⟩:=h1;have g2:γ k0 = .box b':=g2;rw [g1] at g2;cases g2;obtain ⟨x1,l1,γ1,v1,ℓ1,hB,r1,le1,q1⟩:=Znd hn hX FU h hr (hr.ul _ (Zs he).1).2.2;obtain ⟨⟨k1,st1,L1⟩,he1,hC⟩:=hB;have hkk1:k1=k0:=(Zs he1).2;subst hkk1
     cases L1 with
     | box ty1 c1 =>
      obtain ⟨e0,he0,hce⟩:=le1.l _ _ hk he1;rw [he] at he0;cases he0;have hce:γ1 k1=γ k1:=hce;obtain ⟨es1,E1,f1,_,_,f3,r2⟩:=r1.del he1;obtain ⟨b1,cs1,f4,f5,f6,rfl⟩:=f1;have f4:γ1 k1 = .box b1:=f4;rw [hce,g1] at f4;cases f4;have m0:=(hr.st.loc _ (h3.mem_iff.2 (List.mem_append_left _ (List.mem_singleton.2 rfl)))).1;have m1:=(r1.st.loc _ (f3.mem_iff.2 (List.mem_append_left _ (List.mem_singleton.2 rfl)))).1;have m0:w.heap[b]? = some (.cells cs.toArray ty0 (0,0)):=m0;have m1:w.heap[b]? = some (.cells cs1.toArray ty1 (0,0)):=m1;rw [m0] at m1;have hcs:cs=cs1:=by
       have:=Option.some.inj m1
       injection this with h1 _ _
       have:=congrArg Array.toList h1
       simpa using this
      subst hcs;obtain ⟨v',hv,hs1,hAt⟩:=(r1.st.perm f3).pubVar (i:=0) rfl rfl;have hs1:St N w0 v0 [] E1.flatten v' a w:=hs1;have r3:=r2.go hv hs1;have hrel:=Rep.mono _ hv (q1 _ g3);have r4:=r3.slot (t:=s) (m:=n) (z:=.vp (Z2e α m) x1 0) ⟨[_],⟨b,0,cs,hAt,hrel,rfl⟩,hy0⟩ trivial hX;obtain ⟨i0,hi0⟩:∃ i0,C.P.info? e=some i0:=by
       unfold szA at hq;split at hq
       ·rename_i i0 _ hi0 _;exact ⟨i0,hi0⟩
       ·cases hq
      obtain ⟨σ,hσ,e1⟩:=r4.st.ev1 (.tmp s);rw [hy0] at e1;obtain ⟨k4,k5⟩:=ZIo (by omega) hrel;subst ho;refine ZO r4 hU (Zax hσ hu hi0 e1) hd hX (x:=.data (.slice α) (ZTd α m x1)) ⟨[.slice (some ⟨b,0,none⟩) m m],?_,rfl⟩ trivial hC;obtain ⟨c2,T2,fr2,hvb,htk⟩:=hAt;have hlen:=Z8c k4;rw [k5] at hlen;refine ⟨some ⟨b,0,none⟩,m,by rw [show (ZTd α m x1).length=m from k5],by rw [show (ZTd α m x1).length=m from k5];exact Nat.le_refl _,by unfold maxLen;omega,.inr ⟨b,0,c2,T2,fr2,rfl,hvb,?_⟩⟩;rw [show (ZTd α m x1).length=m from k5,← hlen,htk];exact k4
     | own _ _ _ _=>exact hC.elim
     | mat _ _ _ _ _=>exact hC.elim
     | mid _ _ _ _ _ _=>exact hC.elim
    | own _ _ _ _=>exact h.elim
    | mat _ _ _ _ _=>exact h.elim
    | mid _ _ _ _ _ _=>exact h.elim
   ·exact h.elim
  ·exact h.elim
 ·exact h.elim
theorem RelX.dup (h:RelX N G w0 v0 U X f l a w γ v ℓ) {t:Nat} {e:En V} (he:lkE f t=some e):RelX N G w0 v0 U X (e :: f) l a w γ v ℓ:=by
 obtain ⟨hm,hk⟩:=Zs he;have key:∀ t',lkE (e :: f) t'=lkE f t':=fun t'=>by
  rw [ZQ];split
  ·rename_i hk';rw [← hk',hk];exact he.symm
  ·rfl
 exact ⟨h.st,fun t' e' he'=>h.fr t' e' (by rw [← key];exact he'),h.lr,h.nd,fun t' e' he'=>h.uf t' e' (by rw [← key];exact he'),h.ul,h.gh⟩
theorem run_mkI {σ:List (Nat×Value)} (hS:St N w0 v0 σ ℓ v a w) {t:TypeId} {x:Operand} {y:Value} {D:TypeDesc} (e:ev σ x=some y) (h:P.underlying t=some D) (hn:∀ q,some D≠some (.interface q)) :
  (execOp a.eval ⟨d,.makeInterface t x,ty,pos,aft,g⟩).run P w = .ok (.value (.iface t y)) w:=by
 have hx:=hS.eval e;have:(Instr.makeInterface t y).run P w = .ok (.iface t y) w:=by
  cases D with
  | interface q=>exact absurd rfl (hn q)
  | _=>simp [Instr.makeInterface,run_underlying h]
 simp [execOp,hx,this]
theorem Zpt {σ:List (Nat×Value)} (hS:St N w0 v0 σ ℓ v a w) {x y z u s t:Operand} {k:IntKind} {p q r p' q' r':Int} {ats:Array TypeId} (e:ev σ x=some (.int k p)) (e':ev σ y=some (.int k q)) (e2:ev σ z=some (.int k r)) (e3:ev σ u=some (.int k p')) (e4:ev σ s=some (.int k q')) (e5:ev σ t=some (.int k r')) :
  (execOp a.eval ⟨d,.call ⟨.builtin .max,#[x,y,z,u,s,t],ats⟩,ty,pos,aft,g⟩).run P w = .ok (.value (.int k (max (max (max (max (max p q) r) p') q') r'))) w:=by
 simp [execOp,resolve,invoke,builtin,Builtin.max_,hS.eval e,hS.eval e',hS.eval e2,hS.eval e3,hS.eval e4,hS.eval e5,Zqn]
theorem ZKr {C:Cf} (hr:RelX N G w0 v0 U X f l a w γ v ℓ) (hU:∀ k,U k→X k) (hX:X n) {t:TypeId} {x i:Operand} {o:Oper} {V1:V} {κ:IntKind} {j:Int} {Post:Unit→Fr→Lo→Prop} (ho:o=⟨d,.index t x i,ty,pos,aft,g⟩) (hd:∀ k,o.dst=some k→k<N) (h1:RV v γ l V1 (a.eval x)) (k1:V1.ok U)
  (e2:a.eval i = .int κ j) (hC':Zk n (ixV C o t V1 j) f l Post):Zna C.P N G w0 v0 X o a w Post:=by
 subst ho;obtain ⟨σ,hσ,ev1,ev2⟩:=hr.st.ev2 x i;rw [e2] at ev2;unfold ixV at hC';split at hC'
 ·rename_i m e ht;split at hC'
  ·rename_i q hq hag b0 b1;have b0:(0:Int)≤j:=by simpa using b0
   have b1:@LT.lt Int _ j (m:Int):=by simpa using b1
   split at hC'
   ·rename_i z hz;obtain ⟨cs,hcs,hqe⟩:=Zzb h1 (fun c e=>by subst e;cases hag);obtain ⟨q1,q2,q3⟩:=ZXn hq hz hcs k1 w;have hv:V1.val cs = .agg cs.toArray:=by unfold V.val;rw [hag]
    rw [hqe,hv] at ev1;refine ZO hr hU (Z1w hσ ev1 ev2 ?_) hd hX (Zfc q2 (fun c e=>by subst e;exact q2)) (V.ok.mono hU q3) hC';simp [Instr.index,asIntOf,run_underlying ht,b0,b1,(ZDf hq).size,q1]
   ·exact hC'.elim
  ·exact hC'.elim
 ·exact hC'.elim
theorem Z3u {C:Cf} (hr:RelX N G w0 v0 U X f l a w γ v ℓ) (hU:∀ k,U k→X k) (hX:X n) {t:TypeId} {x i:Operand} {o:Oper} {V1:V} {κ:IntKind} {j:Int} {Post:Unit→Fr→Lo→Prop} (ho:o=⟨d,.index t x i,ty,pos,aft,g⟩) (hd:∀ k,o.dst=some k→k<N) (h1:RV v γ l V1 (a.eval x)) (k1:V1.ok U)
  (e2:a.eval i = .int κ j):∀ {m k:Nat},Zk n (altsV C o t V1 j m k) f l Post→Zna C.P N G w0 v0 X o a w Post:=by
 intro m
 induction m with
 | zero=>intro k h;exact h.elim
 | succ m ih =>
  intro k h;by_cases e:j=(k:Int)
  ·have h3:=h.1 (decide_eq_true e);rw [← e] at h3;exact ZKr hr hU hX ho hd h1 k1 e2 h3
  ·exact ih (h.2 (decide_eq_false e))
theorem Zfl {C:Cf} (hC:CfOK C) (hr:RelX N G w0 v0 U X f l a w γ v ℓ) (hU:∀ k,U k→X k) (hX:X n) (hn:¬ U n) {o:Oper} {Post:Unit→Fr→Lo→Prop} (hd:∀ k,o.dst=some k→k<N) (h:Zk n (ZY C n o) f l Post):Zna C.P N G w0 v0 X o a w Post:=by
 obtain ⟨d,op,ty,pos,aft,g⟩:=o
 cases op with
 | move x =>
  simp only [ZY] at h;obtain ⟨V1,h1,k1,hA⟩:=ZL hr h;obtain ⟨σ,hσ,e1⟩:=hr.st.ev1 x;exact ZO hr hU (ZH hσ e1) hd hX h1 (V.ok.mono hU k1) hA
 | assign x =>
  simp only [ZY] at h;split at h
  ·rename_i hx;have hx:x = .const (.pointer none):=by
    unfold Zkr at hx;split at hx
    ·rfl
    ·cases hx
   subst hx;obtain ⟨h0,hA⟩:=h;have e0:Go.Eng.era (⟨n,n,LV.box 0 .undef⟩ :: l) n=l:=by
    simp only [era];rw [show Nat.beq n n=true from Nat.beq_refl n]
   have hA:Zk n (ret ⟨d,.assign (.const (.pointer none)),ty,pos,aft,g⟩ (.ptr n 0)) f (Go.Eng.era (⟨n,n,LV.box 0 .undef⟩ :: l) n) Post:=hA;rw [e0] at hA;obtain ⟨σ,hσ,e1⟩:=hr.st.ev1 (.const (.pointer none));exact ZO hr hU (ZLc hσ e1) hd hX (x:=.ptr n 0) ⟨[.pointer none],⟨_,rfl,rfl,fun e he=>by rw [h0] at he;cases he⟩,rfl⟩ hX hA
  ·obtain ⟨V1,h1,k1,hA⟩:=ZL hr h;obtain ⟨σ,hσ,e1⟩:=hr.st.ev1 x;exact ZO hr hU (ZLc hσ e1) hd hX h1 (V.ok.mono hU k1) hA
 | nilCheck x =>
  simp only [ZY] at h;obtain ⟨V1,h1,k1,hA⟩:=ZL hr h;split at hA
  ·rename_i α y;obtain ⟨cs,hcs,e0⟩:=h1;obtain ⟨b,o',c,rfl,hat,hrel⟩:=(show (rPtr α.rep).rel v cs y from hcs);obtain ⟨σ,hσ,e1⟩:=hr.st.ev1 x;rw [e0] at e1;have e1:ev σ x=some (.pointer (some ⟨b,o',none⟩)):=e1;have hrun:(execOp a.eval ⟨d,.nilCheck x,ty,pos,aft,g⟩).run C.P w = .ok (.value (.pointer (some ⟨b,o',none⟩))) w:=by simp [execOp,hσ.eval e1]
   exact ZO hr hU hrun hd hX (x:=.vp α y 0) ⟨[_],⟨b,o',c,hat,hrel,rfl⟩,rfl⟩ trivial hA
  obtain ⟨hB,b,o',e',_⟩:=Zkn h1 k1 hA;obtain ⟨σ,hσ,e1⟩:=hr.st.ev1 x;rw [e'] at e1 h1;have hrun:(execOp a.eval ⟨d,.nilCheck x,ty,pos,aft,g⟩).run C.P w = .ok (.value (.pointer (some ⟨b,o',none⟩))) w:=by simp [execOp,hσ.eval e1]
  exact ZO hr hU hrun hd hX h1 (V.ok.mono hU k1) hB
 | extract x i =>
  simp only [ZY] at h;obtain ⟨V1,h1,k1,hA⟩:=ZL hr h;split at hA
  ·rename_i c;split at hA
   ·rename_i z hz;obtain ⟨vals,h2,h3⟩:=h1;obtain ⟨y,q1,q2,q3⟩:=Z1r hz h2 k1;obtain ⟨σ,hσ,e1⟩:=hr.st.ev1 x;rw [h3] at e1;exact ZO hr hU (Z8 hσ e1 (by simpa using q1)) hd hX q2 (V.ok.mono hU q3) hA
   ·exact hA.elim
  ·exact hA.elim
 | alloc t =>
  simp only [ZY] at h;split at h
  ·rename_i z hz;obtain ⟨y,cs,hy,hcells,hzz,hkz,hp⟩:=Zjn (v:=v) (γ:=γ) (l:=l) (U:=U) hz;refine ZDr hr hU hX hn hd hzz hkz hp ?_ h;have:=Zmg (a:=a) (w:=w) (d:=d) (ty:=ty) (pos:=pos) (aft:=aft) (g:=g) hy;rw [hcells] at this;exact this
  ·exact h.elim
 | box t x =>
  simp only [ZY] at h;obtain ⟨V1,h1,k1,hA⟩:=ZL hr h;split at hA
  ·rename_i hfit;obtain ⟨cs,hcs,hqe⟩:=Zzb h1 (Zrn hfit);obtain ⟨hcells,hpl⟩:=ZXj hcs hfit;obtain ⟨σ,hσ,e1⟩:=hr.st.ev1 x;rw [hqe] at e1;refine ZDr hr hU hX hn hd hcs k1 hpl ?_ hA;have:=Zsp (t:=t) (d:=d) (ty:=ty) (pos:=pos) (aft:=aft) (g:=g) (P:=C.P) hσ e1;rw [show (V1.val cs).cells=cs.toArray from hcells] at this;exact this
  ·exact hA.elim
 | load t x =>
  simp only [ZY] at h;obtain ⟨V1,h1,k1,hA⟩:=ZL hr h;split at hA
  ·exact Z1u hr hU hX hn rfl hd h1 hA
  obtain ⟨z,y,q1,q2,q3,hB⟩:=ldE_ok (d:=d) (ty:=ty) (pos:=pos) (aft:=aft) (g:=g) hr h1 k1 hA;exact ZO hr hU q1 hd hX q2 (V.ok.mono hU q3) hB
 | store t x y =>
  simp only [ZY] at h
  cases d with
  | some d=>exact h.elim
  | none =>
   obtain ⟨V1,h1,k1,hA⟩:=ZL hr h;obtain ⟨V2,h2,k2,hB⟩:=ZL hr hA;exact stE_ok hr hU hX hn rfl h1 h2 k1 k2 hB
 | fieldAddr s x i =>
  simp only [ZY] at h;obtain ⟨V1,h1,k1,hA⟩:=ZL hr h;obtain ⟨z,y,q1,q2,q3,hB⟩:=fldE_ok (d:=d) (ty:=ty) (pos:=pos) (aft:=aft) (g:=g) hr h1 k1 hA;exact ZO hr hU q1 hd hX q2 (V.ok.mono hU q3) hB
 | field s x i =>
  simp only [ZY] at h;obtain ⟨V1,h1,k1,hA⟩:=ZL hr h;split at hA
  ·rename_i fd hfd hag;split at hA
   ·rename_i q hq;split at hA
    ·rename_i z hz;obtain ⟨cs,hcs,hqe⟩:=Zzb h1 (fun c e=>by subst e;cases hag);obtain ⟨q1,q2,q3⟩:=ZXn hq hz hcs k1 w;obtain ⟨σ,hσ,e1⟩:=hr.st.ev1 x;have hv:V1.val cs = .agg cs.toArray:=by unfold V.val;rw [hag]
     rw [hqe,hv] at e1;refine ZO hr hU (Ziv hσ e1 ?_) hd hX (Zfc q2 (fun c e=>by subst e;exact q2)) (V.ok.mono hU q3) hA;unfold fldT at hfd;split at hfd
     ·rename_i fs hfs;have hfd':fs[i]? = some fd:=by rw [← Array.getElem?_toList];exact hfd
      simp [Instr.field,run_underlying hfs,hfd',asAgg,q1]
     ·cases hfd
    ·exact hA.elim
   ·exact hA.elim
  ·exact hA.elim
 | indexAddr t x i =>
  simp only [ZY] at h;obtain ⟨V1,h1,k1,hA⟩:=ZL hr h;obtain ⟨V2,h2,k2,hB⟩:=ZL hr hA;obtain ⟨κ,j,rfl,hC'⟩:=Zfb hB;split at hC'
  ·unfold altE at hC';split at hC'
   ·exact alts_ok hr hU hX rfl hd h1 k1 (ZDa h2).1 hC'
   ·exact hC'.elim
  ·exact ixE_ok hr hU hX rfl hd h1 k1 (ZDa h2).1 hC'
 | index t x i =>
  simp only [ZY] at h;obtain ⟨V1,h1,k1,hA⟩:=ZL hr h;obtain ⟨V2,h2,k2,hB⟩:=ZL hr hA;obtain ⟨κ,j,rfl,hC'⟩:=Zfb hB;obtain ⟨e2,_⟩:=ZDa h2;obtain ⟨σ,hσ,ev1,ev2⟩:=hr.st.ev2 x i;rw [e2] at ev2;split at hC'
  ·obtain ⟨e1,_⟩:=Zvg h1;rw [e1] at ev1;split at hC'
   ·rename_i ht;obtain ⟨y,hy,hC'⟩:=hC';exact ZO hr hU (Zpw hσ ev1 ev2 ht hy) hd hX (ZGa (u8_inR y)) trivial hC'
   ·exact hC'.elim
  ·split at hC'
   ·unfold altvE at hC';split at hC'
    ·exact Z3u hr hU hX rfl hd h1 k1 e2 hC'
    ·exact hC'.elim
   ·exact ZKr hr hU hX rfl hd h1 k1 e2 hC'
 | binOp op t x y t' =>
  simp only [ZY] at h;obtain ⟨V1,h1,k1,hA⟩:=ZL hr h;obtain ⟨V2,h2,k2,hB⟩:=ZL hr hA;obtain ⟨z,q,q1,q2,q3,hC'⟩:=binE_ok (d:=d) (ty:=ty) (pos:=pos) (aft:=aft) (g:=g) (t':=t') hr h1 h2 hB;exact ZO hr hU q1 hd hX q2 (V.ok.mono hU q3) hC'
 | unOp u t x =>
  cases u with
  | not =>
   simp only [ZY] at h;obtain ⟨V1,h1,k1,hA⟩:=ZL hr h;obtain ⟨b,rfl,hB⟩:=Zgw hA;obtain ⟨σ,hσ,e1⟩:=hr.st.ev1 x;rw [ZKf h1] at e1;exact ZO hr hU (Z5q hσ e1) hd hX ZFc trivial hB
  | neg =>
   simp only [ZY] at h;obtain ⟨V1,h1,k1,hA⟩:=ZL hr h;obtain ⟨κ,i,rfl,hB⟩:=Zfb hA;obtain ⟨σ,hσ,e1⟩:=hr.st.ev1 x;rw [(ZDa h1).1] at e1;exact ZO hr hU (Z3k hσ e1) hd hX (ZGa (Zjb _ _)) trivial hB
  | _=>exact h.elim
 | convert s t x =>
  simp only [ZY] at h;obtain ⟨V1,h1,k1,hA⟩:=ZL hr h;obtain ⟨σ,hσ,e1⟩:=hr.st.ev1 x;split at hA
  ·rename_i κ i ds κ' hs ht;obtain ⟨q1,q2⟩:=ZDa h1;rw [q1] at e1;have hcv:∀ w,(convert s t (.int κ i)).run C.P w = .ok (.int κ' (κ'.wrap i)) w:=fun w=>by
    simp [convert,run_underlying hs,run_underlying ht,Conv.intToInt]
   split at hA
   ·rename_i hk;have hk:=Ztc hk;subst hk;refine ZO hr hU (Z2c hσ e1 hcv) hd hX (x:=.data (.int κ) i) ?_ trivial hA;rw [ZJc q2];exact ZGa q2
   ·exact ZO hr hU (Z2c hσ e1 hcv) hd hX (ZGa (Zjb _ _)) trivial hA
  ·rename_i hs ht;obtain ⟨q1,q2⟩:=Zvg h1;rw [q1] at e1;exact ZO hr hU (Z2c hσ e1 (fun w=>by simp [convert,run_underlying hs,run_underlying ht])) hd hX (Z7j q2) trivial hA
  ·exact hA.elim
 | makeInterface t x =>
  simp only [ZY] at h;obtain ⟨V1,h1,k1,hA⟩:=ZL hr h;split at hA
  ·rename_i hfit;split at hA
   ·exact hA.elim
   ·rename_i D hni hD;obtain ⟨cs,hcs,hqe⟩:=Zzb h1 (Zrn hfit);obtain ⟨σ,hσ,e1⟩:=hr.st.ev1 x;rw [hqe] at e1;refine ZO hr hU (run_mkI hσ e1 hD fun q e=>hni q (Option.some.inj e)) hd hX (x:=.ifc t V1) ⟨[_],⟨cs,hcs,rfl⟩,rfl⟩ (V.ok.mono hU k1) hA
   ·exact hA.elim
  ·exact hA.elim
 | makeFunc fn first cap =>
  cases fn with
  | func fi =>
   simp only [ZY] at h;split at h
   ·rename_i hfirst;obtain ⟨c,h1,k1,hA⟩:=Zkf hr h;obtain ⟨σ,hσ,hev⟩:=hr.st.evs cap.toList;have hargs:cap.toList.map (ev σ)=(cap.toList.map a.eval).map some:=by
     rw [List.map_map];exact List.map_congr_left fun y hy=>hev y hy
    have hf:first = #[]:=by
     apply Array.ext';simpa using hfirst
    subst hf;exact ZO hr hU (Zut hσ _ hargs) hd hX (x:=.fn fi c) ⟨[_],⟨_,h1,rfl⟩,rfl⟩ (V.ok.mono hU k1) hA
   ·exact h.elim
  | _=>exact h.elim
 | makeSlice t x y=>exact Zzu hr hU hX hn rfl hd h
 | buildSlice t m ps=>exact ZPw hr hU hX hn rfl hd h
 | build t ps=>exact Zmv hr hU hX rfl hd h
 | slice t x lo hi mx =>
  cases mx with
  | some _=>exact h.elim
  | none =>
   simp only [ZY] at h;obtain ⟨i,hA,hlo⟩:=Zjq hr h;obtain ⟨j,hB,hhi⟩:=Zjq hr hA;obtain ⟨V1,h1,k1,hC'⟩:=ZL hr hB;split at hC'
   ·rename_i u;obtain ⟨en,he,hC'⟩:=hC';obtain ⟨kk,st,L⟩:=en
    cases L with
    | own ty0 s xs fz =>
     obtain ⟨ys,l1,γ1,v1,ℓ1,hD,r1,le1,q1⟩:=Znd hn hX FU hC' hr k1;obtain ⟨cs,hcs,hqe⟩:=Zzb h1 (fun c e=>by cases e);have hrel:=q1 _ hcs;exact ZLj (p:=.data (.slice s) ys) r1 hU hX rfl hd ⟨cs,hrel,hqe⟩ hlo hhi hD
    | box _ _=>exact hC'.elim
    | mid _ _ _ _ _ _=>exact hC'.elim
    | mat _ _ _ _ _=>exact hC'.elim
   ·obtain ⟨cs,hcs,hqe⟩:=ZRg h1;exact ZLj (p:=.data (.slice (.int .u64)) (Zd 18446744073709551616 _)) hr hU hX rfl hd ⟨cs,hcs,hqe⟩ hlo hhi hC'
   ·obtain ⟨cs,hcs,hqe⟩:=ZRg h1;exact ZLj (p:=.data (.slice (.int .u32)) (Zd 4294967296 _)) hr hU hX rfl hd ⟨cs,hcs,hqe⟩ hlo hhi hC'
   ·split at hC'
    ·exact arrE_ok hr hU hX hn rfl hd h1 k1 hlo hhi hC'
    ·exact hC'.elim
   ·exact ZLj hr hU hX rfl hd h1 hlo hhi hC'
 | pick c x y =>
  cases c with
  | tmp c =>
   simp only [ZY] at h;obtain ⟨s,b,hf,h1,h2⟩:=h;have hr':=RelX.dup hr hf;have hc:=ZKf (hr.fr c _ hf);obtain ⟨σ,hσ,hev⟩:=hr.st.evs [.tmp c,x,y];have e0:=hev (.tmp c) (by simp);have e0:ev σ (.tmp c)=some (.bool b):=e0.trans (congrArg some hc);have ex:=hev x (by simp);have ey:=hev y (by simp)
   cases b with
   | true =>
    obtain ⟨V1,q1,k1,hA⟩:=ZL hr' (h1 rfl);exact ZO hr' hU (Z7b hσ e0 (by rw [if_pos rfl];exact ex)) hd hX q1 (V.ok.mono hU k1) hA
   | false =>
    obtain ⟨V1,q1,k1,hA⟩:=ZL hr' (h2 rfl);exact ZO hr' hU (Z7b hσ e0 (by rw [if_neg (by decide)];exact ey)) hd hX q1 (V.ok.mono hU k1) hA
  | _=>exact h.elim
 | call c =>
  obtain ⟨callee,args,ats⟩:=c
  cases callee with
  | value x =>
   simp only [ZY] at h;obtain ⟨V1,h1,k1,hA⟩:=ZL hr h;obtain ⟨c,h2,k2,hB⟩:=Zkf hr hA;split at hB
   ·rename_i fi;obtain ⟨cs,⟨vs,q1,rfl⟩,q3⟩:=h1;have q1:vs=[]:=q1;subst q1;have q3:a.eval x = .func (.func fi) #[] #[]:=q3;obtain ⟨σ,hσ,hev⟩:=hr.st.evs (x :: args.toList);have hfx:=hev x (by simp);rw [q3] at hfx;have hargs:args.toList.map (ev σ)=(args.toList.map a.eval).map some:=by
     rw [List.map_map];exact List.map_congr_left fun y hy=>hev y (by simp [hy])
    exact Z8p hC hr hU hX hn hd (fun hen=>ZJ hσ _ hen hfx hargs) (fun y hv=>Zhc hσ _ hv hfx hargs) h2 k2 hB
   ·exact hB.elim
  | invoke r m =>
   simp only [ZY] at h;obtain ⟨V1,h1,k1,hA⟩:=ZL hr h;obtain ⟨c,h2,k2,hB⟩:=Zkf hr hA;split at hB
   ·rename_i t x;split at hB
    ·rename_i fi hfi;obtain ⟨cs,⟨cc,q1,rfl⟩,q3⟩:=h1;have q3:a.eval r = .iface t (x.val cc):=q3;obtain ⟨σ,hσ,hev⟩:=hr.st.evs (r :: args.toList);have hfx:=hev r (by simp);rw [q3] at hfx;have hargs:args.toList.map (ev σ)=(args.toList.map a.eval).map some:=by
      rw [List.map_map];exact List.map_congr_left fun y hy=>hev y (by simp [hy])
     exact Z8p hC hr hU hX hn (c:=.cons x c) (vals:=x.val cc :: args.toList.map a.eval) hd (fun hen=>Ziq hσ _ (fun w=>hC.m t m fi hfi _ w) hfx hargs (hen _ w)) (fun y hv=>Ziq hσ _ (fun w=>hC.m t m fi hfi _ w) hfx hargs (by
      have:=hv w;exact this)) ⟨cc,_,rfl,q1,h2⟩ ⟨k1,k2⟩ hB
    ·exact hB.elim
   ·exact hB.elim
  | builtin b =>
   cases b with
   | len =>
    simp only [ZY] at h;split at h
    ·rename_i x t hx ht;have hx:args = #[x]:=by apply Array.ext';exact hx
     have ht:ats = #[t]:=by apply Array.ext';exact ht
     subst hx ht;obtain ⟨V1,h1,k1,hA⟩:=ZL hr h;obtain ⟨m,q1,q2,hB⟩:=lenE_ok (d:=d) (ty:=ty) (pos:=pos) (aft:=aft) (g:=g) hr h1 hA;exact ZO hr hU q1 hd hX (ZGa q2) trivial hB
    ·exact h.elim
   | append =>
    simp only [ZY] at h;split at h
    ·rename_i x y t t' hx ht;split at h
     ·rename_i hb;have hb:=Nat.eq_of_beq_eq_true hb;subst hb;have hx:args = #[x,y]:=by apply Array.ext';exact hx
      have ht:ats = #[t,t]:=by apply Array.ext';exact ht
      subst hx ht;obtain ⟨V1,h1,k1,hA⟩:=ZL hr h;obtain ⟨V2,h2,k2,hB⟩:=ZL hr hA;exact appE_ok hr hU hX hn rfl hd h1 h2 k1 k2 hB
     ·exact h.elim
    ·exact h.elim
   | max =>
    simp only [ZY] at h;split at h
    ·rename_i x y hx;have hx:args = #[x,y]:=by apply Array.ext';exact hx
     subst hx;obtain ⟨V1,h1,k1,hA⟩:=ZL hr h;obtain ⟨V2,h2,k2,hB⟩:=ZL hr hA;obtain ⟨κ,i,rfl,hC'⟩:=Zfb hB;obtain ⟨κ',j,rfl,hD⟩:=Zfb hC';split at hD
     ·rename_i hk;have hk:=Ztc hk;subst hk;obtain ⟨e1,r1⟩:=ZDa h1;obtain ⟨e2,r2⟩:=ZDa h2;obtain ⟨σ,hσ,ev1,ev2⟩:=hr.st.ev2 x y;rw [e1] at ev1;rw [e2] at ev2;exact ZO hr hU (run_max hσ ev1 ev2) hd hX (ZGa (ZKe r1 r2)) trivial hD
     ·exact hD.elim
    ·rename_i x y z hx;have hx:args = #[x,y,z]:=by apply Array.ext';exact hx
     subst hx;obtain ⟨V1,h1,k1,hA⟩:=ZL hr h;obtain ⟨V2,h2,k2,hB⟩:=ZL hr hA;obtain ⟨V3,h3,k3,hB'⟩:=ZL hr hB;obtain ⟨κ,i,rfl,hC'⟩:=Zfb hB';obtain ⟨κ',j,rfl,hD⟩:=Zfb hC';obtain ⟨κ'',q,rfl,hE⟩:=Zfb hD;split at hE
     ·rename_i hk hk2;have hk:=Ztc hk;subst hk;have hk2:=Ztc hk2;subst hk2;obtain ⟨e1,r1⟩:=ZDa h1;obtain ⟨e2,r2⟩:=ZDa h2;obtain ⟨e3,r3⟩:=ZDa h3;obtain ⟨σ,hσ,ev1,ev2,ev3⟩:=hr.st.ev3 x y z;rw [e1] at ev1;rw [e2] at ev2;rw [e3] at ev3;exact ZO hr hU (Zeu hσ ev1 ev2 ev3) hd hX (ZGa (ZKe (ZKe r1 r2) r3)) trivial hE
     ·exact hE.elim
    ·rename_i x1 x2 x3 x4 x5 x6 hx;have hx:args = #[x1,x2,x3,x4,x5,x6]:=by apply Array.ext';exact hx
     subst hx;obtain ⟨V1,h1,k1,hA⟩:=ZL hr h;obtain ⟨V2,h2,k2,hA⟩:=ZL hr hA;obtain ⟨V3,h3,k3,hA⟩:=ZL hr hA;obtain ⟨V4,h4,k4,hA⟩:=ZL hr hA;obtain ⟨V5,h5,k5,hA⟩:=ZL hr hA;obtain ⟨V6,h6,k6,hA⟩:=ZL hr hA;obtain ⟨κ,i1,rfl,hB1⟩:=Zfb hA;obtain ⟨κ2,i2,rfl,hB2⟩:=Zfb hB1;obtain ⟨κ3,i3,rfl,hB3⟩:=Zfb hB2;obtain ⟨κ4,i4,rfl,hB4⟩:=Zfb hB3;obtain ⟨κ5,i5,rfl,hB5⟩:=Zfb hB4;obtain ⟨κ6,i6,rfl,hB6⟩:=Zfb hB5;split at hB6
     ·have g2:=Ztc (show kEq κ κ2=true by assumption)
      cases g2
      have g3:=Ztc (show kEq κ κ3=true by assumption)
      cases g3
      have g4:=Ztc (show kEq κ κ4=true by assumption)
      cases g4
      have g5:=Ztc (show kEq κ κ5=true by assumption)
      cases g5
      have g6:=Ztc (show kEq κ κ6=true by assumption)
      cases g6
      obtain ⟨e1,r1⟩:=ZDa h1;obtain ⟨e2,r2⟩:=ZDa h2;obtain ⟨e3,r3⟩:=ZDa h3;obtain ⟨e4,r4⟩:=ZDa h4;obtain ⟨e5,r5⟩:=ZDa h5;obtain ⟨e6,r6⟩:=ZDa h6;obtain ⟨σ,hσ,ev1,ev2,ev3,ev4,ev5,ev6⟩:=hr.st.ev6 x1 x2 x3 x4 x5 x6;rw [e1] at ev1;rw [e2] at ev2;rw [e3] at ev3;rw [e4] at ev4;rw [e5] at ev5;rw [e6] at ev6;exact ZO hr hU (Zpt hσ ev1 ev2 ev3 ev4 ev5 ev6) hd hX (ZGa (ZKe (ZKe (ZKe (ZKe (ZKe r1 r2) r3) r4) r5) r6)) trivial hB6
     ·exact hB6.elim
    ·exact h.elim
   | min =>
    simp only [ZY] at h;split at h
    ·rename_i x y hx;have hx:args = #[x,y]:=by apply Array.ext';exact hx
     subst hx;obtain ⟨V1,h1,k1,hA⟩:=ZL hr h;obtain ⟨V2,h2,k2,hB⟩:=ZL hr hA;obtain ⟨κ,i,rfl,hC'⟩:=Zfb hB;obtain ⟨κ',j,rfl,hD⟩:=Zfb hC';split at hD
     ·rename_i hk;have hk:=Ztc hk;subst hk;obtain ⟨e1,r1⟩:=ZDa h1;obtain ⟨e2,r2⟩:=ZDa h2;obtain ⟨σ,hσ,ev1,ev2⟩:=hr.st.ev2 x y;rw [e1] at ev1;rw [e2] at ev2;exact ZO hr hU (run_min hσ ev1 ev2) hd hX (ZGa (min_inR r1 r2)) trivial hD
     ·exact hD.elim
    ·exact h.elim
   | _=>exact h.elim
 | _=>exact h.elim
end
end Go.Eng
namespace Go.Eng
open Go.RowKit
def Old (m:Nat) (f:Fr) (l:Lo) (f':Fr) (l':Lo):Prop:=(∀ t e,lkE f' t=some e→e.st<m→lkE f t=some e)∧∀ u e,lkE l' u=some e→e.st<m→lkE l u=some e
theorem Old.refl {m:Nat} {f:Fr} {l:Lo}:Old m f l f l:=⟨fun _ _ h _=>h,fun _ _ h _=>h⟩
theorem Old.trans {m m':Nat} {f f' f'':Fr} {l l' l'':Lo} (h:Old m f l f' l') (k:Old m' f' l' f'' l'') (hm:m≤m'):Old m f l f'' l'' :=
 ⟨fun t e he hs=>h.1 t e (k.1 t e he (by omega)) hs,fun t e he hs=>h.2 t e (k.2 t e he (by omega)) hs⟩
theorem Old.mono {m m':Nat} {f f':Fr} {l l':Lo} (h:Old m' f l f' l') (hm:m≤m'):Old m f l f' l':=⟨fun t e he hs=>h.1 t e he (by omega),fun t e he hs=>h.2 t e he (by omega)⟩
theorem Old.put {m n:Nat} {f:Fr} {l:Lo} {d:Nat} {x:V} (h:m≤n):Old m f l (⟨d,n,x⟩ :: f) l:=by
 refine ⟨fun t e he hs=>?_,fun _ _ h _=>h⟩;rw [ZQ] at he;split at he
 ·cases he;exact absurd hs (by show ¬ n<m;omega)
 ·exact he
theorem Old.dup {m:Nat} {f:Fr} {l:Lo} {t:Nat} {e:En V} (h:lkE f t=some e):Old m f l (e :: f) l:=by
 obtain ⟨_,hk⟩:=Zs h;refine ⟨fun t' e' he _=>?_,fun _ _ h _=>h⟩;rw [ZQ] at he;split at he
 ·rename_i hk';cases he;rw [← hk',hk];exact h
 ·exact he
theorem Zwi {ρ:Type} {n m:Nat} (hm:m≤n) {f0:Fr} {l0:Lo}:∀ {e:Ev ρ} {f:Fr} {l:Lo} {K:ρ→Fr→Lo→Prop},Old m f0 l0 f l→(l.map En.k).Nodup→Zk n e f l K→Zk n e f l fun x f' l'=>K x f' l'∧Old m f0 l0 f' l':=by
 intro e;have wr:∀ {f:Fr} {l:Lo} {u:Nat} {L:LV},Old m f0 l0 f l→(l.map En.k).Nodup→Old m f0 l0 f (⟨u,n,L⟩ :: era l u)∧((⟨u,n,L⟩ :: era l u:Lo).map En.k).Nodup:=by
  intro f l u L ho hn;obtain ⟨n1,n2⟩:=ZIb (t:=u) hn;refine ⟨⟨ho.1,fun k e he hs=>?_⟩,List.nodup_cons.2 ⟨n2,n1⟩⟩;rw [ZQ] at he;split at he
  ·cases he;exact absurd hs (by show ¬ n<m;omega)
  ·rw [Zmc hn] at he;split at he
   ·cases he
   ·exact ho.2 k e he hs
 induction e with
 | fail=>intro f l K ho hn h;exact h
 | done x=>intro f l K ho hn h;exact ⟨h,ho⟩
 | rdS t q ih=>intro f l K ho hn h;obtain ⟨x,hx,h⟩:=h;exact ⟨x,hx,ih _ ho hn h⟩
 | rdL u q ih=>intro f l K ho hn h;obtain ⟨x,hx,h⟩:=h;exact ⟨x,hx,ih _ _ ho hn h⟩
 | wrS t x e ih=>intro f l K ho hn h;exact ih (ho.trans (Old.put hm) (Nat.le_refl m)) hn h
 | wrL u L e ih=>intro f l K ho hn h;exact ih (wr ho hn).1 (wr ho hn).2 h
 | new u L e ih =>
  intro f l K ho hn h;refine ⟨h.1,ih ⟨ho.1,fun k e he hs=>?_⟩ (List.nodup_cons.2 ⟨ZMg h.1,hn⟩) h.2⟩;rw [ZQ] at he;split at he
  ·cases he;exact absurd hs (by show ¬ n<m;omega)
  ·exact ho.2 k e he hs
 | del u e ih =>
  intro f l K ho hn h;refine ih ⟨ho.1,fun k e he hs=>?_⟩ (ZIb hn).1 h;rw [Zmc hn] at he;split at he
  ·cases he
  ·exact ho.2 k e he hs
 | bind x q ih=>intro f l K ho hn h;obtain ⟨x,hx,h⟩:=h;exact ⟨x,hx,ih _ ho hn h⟩
 | test t e1 e2 i1 i2 =>
  intro f l K ho hn h;obtain ⟨s,b,h1,h2,h3⟩:=h;have hd:=ho.trans (Old.dup (m:=m) (l:=l) h1) (Nat.le_refl m);exact ⟨s,b,h1,fun e=>i1 hd hn (h2 e),fun e=>i2 hd hn (h3 e)⟩
 | alt b e1 e2 i1 i2=>intro f l K ho hn h;exact ⟨fun e=>i1 ho hn (h.1 e),fun e=>i2 ho hn (h.2 e)⟩
section
variable {N:Nat} {G:V→Value→Prop} {w0:Base} {v0:Zb} {U X:Nat→Prop} {f:Fr} {l:Lo} {a:Act} {w:World} {γ:Nat→Gh} {v:Zb} {ℓ:List Loc} {n:Nat}
def GoodG (P:Program) (ops:Array Oper) (N:Nat) (G:V→Value→Prop) (w0:Base) (v0:Zb) (X:Nat→Prop) (o:Oper) (a:Act) (w:World) (Post:Unit→Fr→Lo→Prop):Prop :=
 (Region.wanted o (yielded ops a.tmps)=true∧Zna P N G w0 v0 X o a w Post)∨(Region.wanted o (yielded ops a.tmps)=false∧∃ f' l',Post () f' l'∧Rel N G w0 v0 X f' l' (a.put o.dst undef) w)
theorem ZTi (hr:RelX N G w0 v0 U X f l a w γ v ℓ) (hU:∀ k,U k→X k) (hX:X n) {o:Oper} {Post:Unit→Fr→Lo→Prop} (hd:∀ k,o.dst=some k→k<N) (h:Zk n (Zog o) f l Post):∃ f' l',Post () f' l'∧Rel N G w0 v0 X f' l' (a.put o.dst undef) w:=by
 unfold Zog at h
 cases hdd:o.dst with
 | none=>rw [hdd] at h;exact ⟨f,l,h,γ,v,ℓ,hr.mono hU fun _ h=>h⟩
 | some d=>rw [hdd] at h;exact ⟨_,l,h,γ,v,ℓ,(hr.mono hU fun _ h=>h).put (hd d hdd) (x:=.undef) ⟨[undef],rfl,rfl⟩ trivial hX⟩
theorem ZNm {C:Cf} (hC:CfOK C) {ops:Array Oper} (hr:RelX N G w0 v0 U X f l a w γ v ℓ) (hU:∀ k,U k→X k) (hX:X n) (hn:¬ U n) {o:Oper} {Post:Unit→Fr→Lo→Prop} (hds:∀ o ∈ ops.toList,∀ k,o.dst=some k→k<N) (hd:∀ k,o.dst=some k→k<N)
  (h:Zk n (gop C ops.toList n o) f l Post):GoodG C.P ops N G w0 v0 X o a w Post:=by
 unfold gop at h;split at h
 ·rename_i hg;exact .inl ⟨ZUb hg,Zfl hC hr hU hX hn hd h⟩
 ·rename_i j want hg;split at h
  ·rename_i q hq;split at h
   ·rename_i t ht;have htN:t<N:=hds q (List.mem_of_getElem? hq) t ht;have hgd:(ops[j]?).bind (·.dst)=some t:=by rw [← Array.getElem?_toList,hq];exact ht
    obtain ⟨e,he,h⟩:=h;obtain ⟨σ,hσ,hev⟩:=hr.st.evs [.tmp t];have hl:look σ t=some (a.tmps.getD t undef):=hev (.tmp t) (by simp);have hrv:=hr.fr t e he;obtain ⟨ek,est,ex⟩:=e;have hk:ek=t:=(Zs he).2;subst hk
    cases ex with
    | undef =>
     obtain ⟨cs,h1,h2⟩:=hrv;have h1:cs=[undef]:=h1;subst h1;have h2:a.tmps.getD ek undef=undef:=h2;rw [h2] at hl;exact .inr ⟨ZVd hσ hg hgd hl htN,ZTi hr hU hX hd h⟩
    | data tt b =>
     cases tt with
     | bool =>
      have h2:=ZKf hrv;have h2:a.tmps.getD ek undef = .bool b:=h2;rw [h2] at hl
      cases want with
      | true =>
       obtain ⟨s,b',h3,h4,h5⟩:=h;rw [he] at h3
       cases h3
       cases b with
       | true=>exact .inl ⟨ZGd hσ hg hgd hl htN,Zfl hC (RelX.dup hr he) hU hX hn hd (h4 rfl)⟩
       | false=>exact .inr ⟨Zui hσ hg hgd hl htN,ZTi (RelX.dup hr he) hU hX hd (h5 rfl)⟩
      | false =>
       obtain ⟨s,b',h3,h4,h5⟩:=h;rw [he] at h3
       cases h3
       cases b with
       | true=>exact .inr ⟨Zui hσ hg hgd hl htN,ZTi (RelX.dup hr he) hU hX hd (h4 rfl)⟩
       | false=>exact .inl ⟨ZGd hσ hg hgd hl htN,Zfl hC (RelX.dup hr he) hU hX hn hd (h5 rfl)⟩
     | _=>exact h.elim
    | _=>exact h.elim
   ·exact h.elim
  ·exact h.elim
theorem GoodG.list {P:Program} {ops:Array Oper} {Q:Exit→Act→World→Prop} {o:Oper} {rest:List Oper} {Post:Unit→Fr→Lo→Prop} (h:GoodG P ops N G w0 v0 X o a w Post)
  (k:∀ f' l' a' w',Post () f' l'→Rel N G w0 v0 X f' l' a' w'→wpList P ops Q rest a' w'):wpList P ops Q (o :: rest) a w:=by
 rcases h with ⟨hw,hg⟩ | ⟨hw,f',l',h1,h2⟩
 ·exact Zoc hw (Zul hg fun x w' ⟨f',l',h1,h2⟩=>k f' l' _ w' h1 h2)
 ·unfold wpList;rw [if_neg (by rw [hw];decide)];exact k f' l' _ w h1 h2
end
end Go.Eng
namespace Go.Eng
open Go.RowKit
inductive Et where
 | rS (t:Nat) (e:En V)
 | rL (u:Nat) (e:En LV)
 | wS (e:En V)
 | dup (e:En V)
 | wL (e:En LV)
 | nL (e:En LV)
 | dL (u:Nat)
def okT:List Et→Fr→Lo→Prop
 | [],_,_=>True
 | .rS t e :: τ,f,l=>lkE f t=some e∧okT τ f l
 | .rL u e :: τ,f,l=>lkE l u=some e∧okT τ f l
 | .wS e :: τ,f,l=>okT τ (e :: f) l
 | .dup e :: τ,f,l=>lkE f e.k=some e∧okT τ (e :: f) l
 | .wL e :: τ,f,l=>okT τ f (e :: era l e.k)
 | .nL e :: τ,f,l=>lkE l e.k=none∧okT τ f (e :: l)
 | .dL u :: τ,f,l=>okT τ f (era l u)
def Zac:List Et→Fr→Fr
 | [],f=>f
 | .wS e :: τ,f=>Zac τ (e :: f)
 | .dup e :: τ,f=>Zac τ (e :: f)
 | _ :: τ,f=>Zac τ f
def Zec:List Et→Lo→Lo
 | [],l=>l
 | .wL e :: τ,l=>Zec τ (e :: era l e.k)
 | .nL e :: τ,l=>Zec τ (e :: l)
 | .dL u :: τ,l=>Zec τ (era l u)
 | _ :: τ,l=>Zec τ l
def rdS:List Et→Nat→Prop
 | [],_=>False
 | .rS t _ :: τ,k=>k=t∨rdS τ k
 | .dup e :: τ,k=>k=e.k∨rdS τ k
 | _ :: τ,k=>rdS τ k
def rdL:List Et→Nat→Prop
 | [],_=>False
 | .rL u _ :: τ,k=>k=u∨rdL τ k
 | .nL e :: τ,k=>k=e.k∨rdL τ k
 | _ :: τ,k=>rdL τ k
def Zcb:List Et→Nat→Option (Option (En V))
 | [],_=>none
 | .wS e :: τ,t=>match Zcb τ t with
  | some z=>some z
  | none=>if e.k=t then some (some e) else none
 | _ :: τ,t=>Zcb τ t
def Zpa:List Et→Nat→Option (Option (En LV))
 | [],_=>none
 | .wL e :: τ,t=>match Zpa τ t with
  | some z=>some z
  | none=>if e.k=t then some (some e) else none
 | .nL e :: τ,t=>match Zpa τ t with
  | some z=>some z
  | none=>if e.k=t then some (some e) else none
 | .dL u :: τ,t=>match Zpa τ t with
  | some z=>some z
  | none=>if u=t then some none else none
 | _ :: τ,t=>Zpa τ t
def fpT:List Et→Fp→Fp
 | [],p=>p
 | .rS t _ :: τ,p=>fpT τ ⟨bit p.rs t,p.ws,p.rl,p.wl⟩
 | .rL u _ :: τ,p=>fpT τ ⟨p.rs,p.ws,bit p.rl u,p.wl⟩
 | .wS e :: τ,p=>fpT τ ⟨p.rs,bit p.ws e.k,p.rl,p.wl⟩
 | .dup e :: τ,p=>fpT τ ⟨bit p.rs e.k,p.ws,p.rl,p.wl⟩
 | .wL e :: τ,p=>fpT τ ⟨p.rs,p.ws,p.rl,bit p.wl e.k⟩
 | .nL e :: τ,p=>fpT τ ⟨p.rs,p.ws,bit p.rl e.k,bit p.wl e.k⟩
 | .dL u :: τ,p=>fpT τ ⟨p.rs,p.ws,p.rl,bit p.wl u⟩
def Tr {ρ:Type} (n:Nat):Ev ρ→List Et→ρ→Prop
 | .fail,_,_=>False
 | .done r,τ,x=>τ=[]∧x=r
 | .rdS t k,τ,x=>∃ e τ',τ = .rS t e :: τ'∧Tr n (k e.x) τ' x
 | .rdL u k,τ,x=>∃ e τ',τ = .rL u e :: τ'∧Tr n (k e.st e.x) τ' x
 | .wrS t v e,τ,x=>∃ τ',τ = .wS ⟨t,n,v⟩ :: τ'∧Tr n e τ' x
 | .wrL u L e,τ,x=>∃ τ',τ = .wL ⟨u,n,L⟩ :: τ'∧Tr n e τ' x
 | .new u L e,τ,x=>∃ τ',τ = .nL ⟨u,n,L⟩ :: τ'∧Tr n e τ' x
 | .del u e,τ,x=>∃ τ',τ = .dL u :: τ'∧Tr n e τ' x
 | .bind y k,τ,x=>∃ z,y=some z∧Tr n (k z) τ x
 | .test t e1 e2,τ,x=>∃ s b τ',τ = .dup ⟨t,s,.data .bool b⟩ :: τ'∧(b=true→Tr n e1 τ' x)∧(b=false→Tr n e2 τ' x)
 | .alt b e1 e2,τ,x=>(b=true→Tr n e1 τ x)∧(b=false→Tr n e2 τ x)
theorem ZJu {ρ α:Type} {n:Nat} {r:α}:∀ {e:Ev ρ} {f:Fr} {l:Lo} {p:Fp} {K:ρ→Fr→Lo→Fp→Option α},ZBb n e f l p K=some r→∃ x τ,Tr n e τ x∧okT τ f l∧K x (Zac τ f) (Zec τ l) (fpT τ p)=some r:=by
 intro e
 induction e with
 | fail=>intro f l p K h;cases h
 | done x=>intro f l p K h;exact ⟨x,[],⟨rfl,rfl⟩,trivial,h⟩
 | rdS t k ih =>
  intro f l p K h;simp only [ZBb] at h;split at h
  ·rename_i e he;obtain ⟨x,τ,h1,h2,h3⟩:=ih _ h;exact ⟨x,.rS t e :: τ,⟨e,τ,rfl,h1⟩,⟨he,h2⟩,h3⟩
  ·cases h
 | rdL u k ih =>
  intro f l p K h;simp only [ZBb] at h;split at h
  ·rename_i e he;obtain ⟨x,τ,h1,h2,h3⟩:=ih _ _ h;exact ⟨x,.rL u e :: τ,⟨e,τ,rfl,h1⟩,⟨he,h2⟩,h3⟩
  ·cases h
 | wrS t v e ih=>intro f l p K h;obtain ⟨x,τ,h1,h2,h3⟩:=ih h;exact ⟨x,.wS ⟨t,n,v⟩ :: τ,⟨τ,rfl,h1⟩,h2,h3⟩
 | wrL u L e ih=>intro f l p K h;obtain ⟨x,τ,h1,h2,h3⟩:=ih h;exact ⟨x,.wL ⟨u,n,L⟩ :: τ,⟨τ,rfl,h1⟩,h2,h3⟩
 | new u L e ih =>
  intro f l p K h;simp only [ZBb] at h;split at h
  ·rename_i he;obtain ⟨x,τ,h1,h2,h3⟩:=ih h;exact ⟨x,.nL ⟨u,n,L⟩ :: τ,⟨τ,rfl,h1⟩,⟨he,h2⟩,h3⟩
  ·cases h
 | del u e ih=>intro f l p K h;obtain ⟨x,τ,h1,h2,h3⟩:=ih h;exact ⟨x,.dL u :: τ,⟨τ,rfl,h1⟩,h2,h3⟩
 | bind y k ih =>
  intro f l p K h;obtain ⟨z,hz,h⟩:=Z0 h;obtain ⟨x,τ,h1,h2,h3⟩:=ih _ h;exact ⟨x,τ,⟨z,hz,h1⟩,h2,h3⟩
 | test t e1 e2 i1 i2 =>
  intro f l p K h;simp only [ZBb] at h;split at h
  ·rename_i k s b hx;obtain ⟨_,hk⟩:=Zs hx;have hk:k=t:=hk;subst hk
   cases b with
   | true =>
    obtain ⟨x,τ,h1,h2,h3⟩:=i1 h;exact ⟨x,.dup ⟨k,s,.data .bool true⟩ :: τ,⟨s,true,τ,rfl,fun _=>h1,fun e=>by cases e⟩,⟨hx,h2⟩,h3⟩
   | false =>
    obtain ⟨x,τ,h1,h2,h3⟩:=i2 h;exact ⟨x,.dup ⟨k,s,.data .bool false⟩ :: τ,⟨s,false,τ,rfl,(fun e=>by cases e),fun _=>h1⟩,⟨hx,h2⟩,h3⟩
  ·cases h
 | alt b e1 e2 i1 i2 =>
  intro f l p K h
  cases b with
  | true =>
   obtain ⟨x,τ,h1,h2,h3⟩:=i1 h;exact ⟨x,τ,⟨fun _=>h1,fun e=>by cases e⟩,h2,h3⟩
  | false =>
   obtain ⟨x,τ,h1,h2,h3⟩:=i2 h;exact ⟨x,τ,⟨(fun e=>by cases e),fun _=>h1⟩,h2,h3⟩
theorem ZKm {ρ:Type} {n:Nat}:∀ {e:Ev ρ} {τ:List Et} {x:ρ} {f:Fr} {l:Lo},Tr n e τ x→okT τ f l→Zk n e f l fun x' f' l'=>x'=x∧f'=Zac τ f∧l'=Zec τ l:=by
 intro e
 induction e with
 | fail=>intro τ x f l h k;exact h
 | done r=>intro τ x f l h k;obtain ⟨rfl,rfl⟩:=h;exact ⟨rfl,rfl,rfl⟩
 | rdS t q ih=>intro τ x f l h k;obtain ⟨e,τ',rfl,h⟩:=h;exact ⟨e,k.1,ih _ (τ:=τ') h k.2⟩
 | rdL u q ih=>intro τ x f l h k;obtain ⟨e,τ',rfl,h⟩:=h;exact ⟨e,k.1,ih _ _ (τ:=τ') h k.2⟩
 | wrS t v e ih=>intro τ x f l h k;obtain ⟨τ',rfl,h⟩:=h;exact ih (τ:=τ') h k
 | wrL u L e ih=>intro τ x f l h k;obtain ⟨τ',rfl,h⟩:=h;exact ih (τ:=τ') h k
 | new u L e ih=>intro τ x f l h k;obtain ⟨τ',rfl,h⟩:=h;exact ⟨k.1,ih (τ:=τ') h k.2⟩
 | del u e ih=>intro τ x f l h k;obtain ⟨τ',rfl,h⟩:=h;exact ih (τ:=τ') h k
 | bind y q ih=>intro τ x f l h k;obtain ⟨z,hz,h⟩:=h;exact ⟨z,hz,ih _ h k⟩
 | test t e1 e2 i1 i2=>intro τ x f l h k;obtain ⟨s,b,τ',rfl,h1,h2⟩:=h;exact ⟨s,b,k.1,fun e=>i1 (τ:=τ') (h1 e) k.2,fun e=>i2 (τ:=τ') (h2 e) k.2⟩
 | alt b e1 e2 i1 i2=>intro τ x f l h k;exact ⟨fun e=>i1 (h.1 e) k,fun e=>i2 (h.2 e) k⟩
theorem Zcd:∀ {τ:List Et} {f:Fr} {l:Lo} {t:Nat},okT τ f l→lkE (Zac τ f) t=(Zcb τ t).getD (lkE f t)
 | [],_,_,_,_=>rfl
 | .rS _ _ :: τ,_,_,_,h=>Zcd (τ:=τ) h.2
 | .rL _ _ :: τ,_,_,_,h=>Zcd (τ:=τ) h.2
 | .wL _ :: τ,_,_,_,h=>Zcd (τ:=τ) h
 | .nL _ :: τ,_,_,_,h=>Zcd (τ:=τ) h.2
 | .dL _ :: τ,_,_,_,h=>Zcd (τ:=τ) h
 | .wS e :: τ,f,l,t,h=>by
  have:=Zcd (t:=t) (show okT τ (e :: f) l from h)
  simp only [Zac,Zcb]
  rw [this,ZQ]
  cases Zcb τ t with
  | some z=>rfl
  | none=>by_cases h:e.k=t <;> simp [h]
 | .dup e :: τ,f,l,t,h=>by
  have:=Zcd (t:=t) (show okT τ (e :: f) l from h.2)
  simp only [Zac,Zcb]
  rw [this,ZQ]
  congr 1
  by_cases hk:e.k=t
  ·rw [if_pos hk,← hk,h.1]
  ·rw [if_neg hk]
theorem ZEc:∀ {τ:List Et} {f:Fr} {l:Lo},(l.map En.k).Nodup→okT τ f l→((Zec τ l).map En.k).Nodup∧∀ t,lkE (Zec τ l) t=(Zpa τ t).getD (lkE l t)
 | [],_,_,hn,_=>⟨hn,fun _=>rfl⟩
 | .rS _ _ :: τ,_,_,hn,h=>ZEc (τ:=τ) hn h.2
 | .rL _ _ :: τ,_,_,hn,h=>ZEc (τ:=τ) hn h.2
 | .wS _ :: τ,_,_,hn,h=>ZEc (τ:=τ) hn h
 | .dup _ :: τ,_,_,hn,h=>ZEc (τ:=τ) hn h.2
 | .wL e :: τ,f,l,hn,h=>by
  obtain ⟨n1,n2⟩:=ZIb (t:=e.k) hn
  obtain ⟨k1,k2⟩:=ZEc (τ:=τ) (l:=e :: era l e.k) (List.nodup_cons.2 ⟨n2,n1⟩) h
  refine ⟨k1,fun t=>(k2 t).trans ?_⟩
  simp only [Zpa]
  rw [ZQ,Zmc hn]
  cases Zpa τ t with
  | some z=>rfl
  | none=>by_cases hk:e.k=t <;> simp [hk]
 | .nL e :: τ,f,l,hn,h=>by
  obtain ⟨k1,k2⟩:=ZEc (τ:=τ) (l:=e :: l) (List.nodup_cons.2 ⟨ZMg h.1,hn⟩) h.2
  refine ⟨k1,fun t=>(k2 t).trans ?_⟩
  simp only [Zpa]
  rw [ZQ]
  cases Zpa τ t with
  | some z=>rfl
  | none=>by_cases hk:e.k=t <;> simp [hk]
 | .dL u :: τ,f,l,hn,h=>by
  obtain ⟨k1,k2⟩:=ZEc (τ:=τ) (l:=era l u) (ZIb hn).1 h
  refine ⟨k1,fun t=>(k2 t).trans ?_⟩
  simp only [Zpa]
  rw [Zmc hn]
  cases Zpa τ t with
  | some z=>rfl
  | none=>by_cases hk:u=t <;> simp [hk]
theorem Zae:∀ {τ:List Et} {f f2:Fr} {l l2:Lo},(l.map En.k).Nodup→(l2.map En.k).Nodup→okT τ f l→(∀ t,rdS τ t→lkE f t=lkE f2 t)→(∀ u,rdL τ u→lkE l u=lkE l2 u)→okT τ f2 l2
 | [],_,_,_,_,_,_,_,_,_=>trivial
 | .rS t e :: τ,_,_,_,_,n1,n2,h,k1,k2=>⟨(k1 t (.inl rfl)).symm.trans h.1,Zae n1 n2 h.2 (fun t ht=>k1 t (.inr ht)) k2⟩
 | .rL u e :: τ,_,_,_,_,n1,n2,h,k1,k2=>⟨(k2 u (.inl rfl)).symm.trans h.1,Zae n1 n2 h.2 k1 fun u hu=>k2 u (.inr hu)⟩
 | .wS e :: τ,f,f2,_,_,n1,n2,h,k1,k2=>Zae (τ:=τ) n1 n2 h (fun t ht=>by
   rw [ZQ,ZQ]
   by_cases hk:e.k=t
   ·rw [if_pos hk,if_pos hk]
   ·rw [if_neg hk,if_neg hk];exact k1 t ht) k2
 | .dup e :: τ,f,f2,_,_,n1,n2,h,k1,k2=>⟨(k1 e.k (.inl rfl)).symm.trans h.1,Zae (τ:=τ) n1 n2 h.2 (fun t ht=>by
   rw [ZQ,ZQ]
   by_cases hk:e.k=t
   ·rw [if_pos hk,if_pos hk]
   ·rw [if_neg hk,if_neg hk];exact k1 t (.inr ht)) k2⟩
 | .wL e :: τ,_,_,l,l2,n1,n2,h,k1,k2=>by
  obtain ⟨a1,a2⟩:=ZIb (t:=e.k) n1
  obtain ⟨b1,b2⟩:=ZIb (t:=e.k) n2
  refine Zae (τ:=τ) (l:=e :: era l e.k) (l2:=e :: era l2 e.k) (List.nodup_cons.2 ⟨a2,a1⟩) (List.nodup_cons.2 ⟨b2,b1⟩) h k1 fun u hu=>?_
  rw [ZQ,ZQ]
  by_cases hk:e.k=u
  ·rw [if_pos hk,if_pos hk]
  ·rw [if_neg hk,if_neg hk,Zmc n1,Zmc n2,if_neg hk,if_neg hk];exact k2 u hu
 | .nL e :: τ,_,_,l,l2,n1,n2,h,k1,k2=>by
  have he:lkE l2 e.k=none:=(k2 e.k (.inl rfl)).symm.trans h.1
  refine ⟨he,Zae (τ:=τ) (l:=e :: l) (l2:=e :: l2) (List.nodup_cons.2 ⟨ZMg h.1,n1⟩) (List.nodup_cons.2 ⟨ZMg he,n2⟩) h.2 k1 fun u hu=>?_⟩
  rw [ZQ,ZQ]
  by_cases hk:e.k=u
  ·rw [if_pos hk,if_pos hk]
  ·rw [if_neg hk,if_neg hk];exact k2 u (.inr hu)
 | .dL u :: τ,_,_,l,l2,n1,n2,h,k1,k2=>by
  refine Zae (τ:=τ) (ZIb n1).1 (ZIb n2).1 h k1 fun k hk=>?_
  rw [Zmc n1,Zmc n2]
  by_cases e:u=k
  ·rw [if_pos e,if_pos e]
  ·rw [if_neg e,if_neg e];exact k2 k hk
theorem ZPe {m k:Nat}:(bit m k).testBit k=true:=by
 show (m ||| 2^k).testBit k=true;rw [Nat.testBit_or,Nat.testBit_two_pow_self,Bool.or_true]
theorem Zye {m k t:Nat} (h:m.testBit t=true):(bit m k).testBit t=true:=by
 show (m ||| 2^k).testBit t=true;rw [Nat.testBit_or,h,Bool.true_or]
structure Fp.le (p q:Fp):Prop where
 rs:∀ t,p.rs.testBit t=true→q.rs.testBit t=true
 ws:∀ t,p.ws.testBit t=true→q.ws.testBit t=true
 rl:∀ t,p.rl.testBit t=true→q.rl.testBit t=true
 wl:∀ t,p.wl.testBit t=true→q.wl.testBit t=true
theorem Fp.le.trans {p q r:Fp} (h:p.le q) (k:q.le r):p.le r:=⟨fun t e=>k.rs t (h.rs t e),fun t e=>k.ws t (h.ws t e),fun t e=>k.rl t (h.rl t e),fun t e=>k.wl t (h.wl t e)⟩
theorem Z3b:∀ {τ:List Et} {p:Fp},p.le (fpT τ p)
 | [],_=>⟨fun _ h=>h,fun _ h=>h,fun _ h=>h,fun _ h=>h⟩
 | .rS t _ :: τ,p=>Fp.le.trans (q:=⟨bit p.rs t,p.ws,p.rl,p.wl⟩) ⟨fun _ h=>Zye h,fun _ h=>h,fun _ h=>h,fun _ h=>h⟩ (Z3b (τ:=τ))
 | .rL u _ :: τ,p=>Fp.le.trans (q:=⟨p.rs,p.ws,bit p.rl u,p.wl⟩) ⟨fun _ h=>h,fun _ h=>h,fun _ h=>Zye h,fun _ h=>h⟩ (Z3b (τ:=τ))
 | .wS e :: τ,p=>Fp.le.trans (q:=⟨p.rs,bit p.ws e.k,p.rl,p.wl⟩) ⟨fun _ h=>h,fun _ h=>Zye h,fun _ h=>h,fun _ h=>h⟩ (Z3b (τ:=τ))
 | .dup e :: τ,p=>Fp.le.trans (q:=⟨bit p.rs e.k,p.ws,p.rl,p.wl⟩) ⟨fun _ h=>Zye h,fun _ h=>h,fun _ h=>h,fun _ h=>h⟩ (Z3b (τ:=τ))
 | .wL e :: τ,p=>Fp.le.trans (q:=⟨p.rs,p.ws,p.rl,bit p.wl e.k⟩) ⟨fun _ h=>h,fun _ h=>h,fun _ h=>h,fun _ h=>Zye h⟩ (Z3b (τ:=τ))
 | .nL e :: τ,p=>Fp.le.trans (q:=⟨p.rs,p.ws,bit p.rl e.k,bit p.wl e.k⟩) ⟨fun _ h=>h,fun _ h=>h,fun _ h=>Zye h,fun _ h=>Zye h⟩ (Z3b (τ:=τ))
 | .dL u :: τ,p=>Fp.le.trans (q:=⟨p.rs,p.ws,p.rl,bit p.wl u⟩) ⟨fun _ h=>h,fun _ h=>h,fun _ h=>h,fun _ h=>Zye h⟩ (Z3b (τ:=τ))
theorem Zje:∀ {τ:List Et} {p:Fp} {t:Nat},rdS τ t→(fpT τ p).rs.testBit t=true
 | .rS t _ :: τ,_,_,.inl e=>by subst e;exact (Z3b (τ:=τ)).rs _ ZPe
 | .dup _ :: τ,_,_,.inl e=>by subst e;exact (Z3b (τ:=τ)).rs _ ZPe
 | .rS t _ :: τ,_,_,.inr h=>Zje (τ:=τ) h
 | .dup _ :: τ,_,_,.inr h=>Zje (τ:=τ) h
 | .rL _ _ :: τ,_,_,h=>Zje (τ:=τ) h
 | .wS _ :: τ,_,_,h=>Zje (τ:=τ) h
 | .wL _ :: τ,_,_,h=>Zje (τ:=τ) h
 | .nL _ :: τ,_,_,h=>Zje (τ:=τ) h
 | .dL _ :: τ,_,_,h=>Zje (τ:=τ) h
theorem Zke:∀ {τ:List Et} {p:Fp} {t:Nat},rdL τ t→(fpT τ p).rl.testBit t=true
 | .rL t _ :: τ,_,_,.inl e=>by subst e;exact (Z3b (τ:=τ)).rl _ ZPe
 | .nL _ :: τ,_,_,.inl e=>by subst e;exact (Z3b (τ:=τ)).rl _ ZPe
 | .rL t _ :: τ,_,_,.inr h=>Zke (τ:=τ) h
 | .nL _ :: τ,_,_,.inr h=>Zke (τ:=τ) h
 | .rS _ _ :: τ,_,_,h=>Zke (τ:=τ) h
 | .wS _ :: τ,_,_,h=>Zke (τ:=τ) h
 | .dup _ :: τ,_,_,h=>Zke (τ:=τ) h
 | .wL _ :: τ,_,_,h=>Zke (τ:=τ) h
 | .dL _ :: τ,_,_,h=>Zke (τ:=τ) h
theorem Zid:∀ {τ:List Et} {p:Fp} {t:Nat},Zcb τ t≠none→(fpT τ p).ws.testBit t=true
 | [],_,_,h=>absurd rfl h
 | .wS e :: τ,_,t,h=>by
  by_cases hk:e.k=t
  ·subst hk;exact (Z3b (τ:=τ)).ws _ ZPe
  ·refine Zid (τ:=τ) fun h0=>h ?_
   simp only [Zcb,h0,if_neg hk]
 | .rS _ _ :: τ,_,_,h=>Zid (τ:=τ) h
 | .rL _ _ :: τ,_,_,h=>Zid (τ:=τ) h
 | .dup _ :: τ,_,_,h=>Zid (τ:=τ) h
 | .wL _ :: τ,_,_,h=>Zid (τ:=τ) h
 | .nL _ :: τ,_,_,h=>Zid (τ:=τ) h
 | .dL _ :: τ,_,_,h=>Zid (τ:=τ) h
theorem Z3c:∀ {τ:List Et} {p:Fp} {t:Nat},Zpa τ t≠none→(fpT τ p).wl.testBit t=true
 | [],_,_,h=>absurd rfl h
 | .wL e :: τ,_,t,h=>by
  by_cases hk:e.k=t
  ·subst hk;exact (Z3b (τ:=τ)).wl _ ZPe
  ·refine Z3c (τ:=τ) fun h0=>h ?_
   simp only [Zpa,h0,if_neg hk]
 | .nL e :: τ,_,t,h=>by
  by_cases hk:e.k=t
  ·subst hk;exact (Z3b (τ:=τ)).wl _ ZPe
  ·refine Z3c (τ:=τ) fun h0=>h ?_
   simp only [Zpa,h0,if_neg hk]
 | .dL u :: τ,_,t,h=>by
  by_cases hk:u=t
  ·subst hk;exact (Z3b (τ:=τ)).wl _ ZPe
  ·refine Z3c (τ:=τ) fun h0=>h ?_
   simp only [Zpa,h0,if_neg hk]
 | .rS _ _ :: τ,_,_,h=>Z3c (τ:=τ) h
 | .rL _ _ :: τ,_,_,h=>Z3c (τ:=τ) h
 | .wS _ :: τ,_,_,h=>Z3c (τ:=τ) h
 | .dup _ :: τ,_,_,h=>Z3c (τ:=τ) h
theorem Zug {a b t:Nat} (h:Nat.land a b=0) (ha:a.testBit t=true) (hb:b.testBit t=true):False:=by
 have:(a &&& b).testBit t=true:=by rw [Nat.testBit_and,ha,hb];rfl
 rw [show (a &&& b)=0 from h] at this;simp at this
theorem ZVl {a b:Nat} (h:Nat.lor a b=0):a=0∧b=0:=by
 have h:a ||| b=0:=h;exact Nat.or_eq_zero_iff.1 h
theorem ZEk {a b t:Nat} (h:a.testBit t=true∨b.testBit t=true):(Nat.lor a b).testBit t=true:=by
 show (a ||| b).testBit t=true;rw [Nat.testBit_or];rcases h with h | h <;> simp [h]
structure Apart (τ σ:List Et):Prop where
 s1:∀ t,Zcb τ t≠none→rdS σ t→False
 s2:∀ t,Zcb τ t≠none→Zcb σ t≠none→False
 s3:∀ t,rdS τ t→Zcb σ t≠none→False
 l1:∀ t,Zpa τ t≠none→rdL σ t→False
 l2:∀ t,Zpa τ t≠none→Zpa σ t≠none→False
 l3:∀ t,rdL τ t→Zpa σ t≠none→False
theorem Zsr {τ σ:List Et} {p q:Fp} (h:(fpT τ p).free (fpT σ q)=true):Apart τ σ:=by
 have h:=Nat.eq_of_beq_eq_true h;obtain ⟨h1,h2⟩:=ZVl h;obtain ⟨h3,h4⟩:=ZVl h1;obtain ⟨h5,h6⟩:=ZVl h2;exact ⟨fun t a b=>Zug h3 (Zid a) (ZEk (.inl (Zje b))),fun t a b=>Zug h3 (Zid a) (ZEk (.inr (Zid b))),fun t a b=>Zug h4 (Zje a) (Zid b),
  fun t a b=>Zug h5 (Z3c a) (ZEk (.inl (Zke b))),fun t a b=>Zug h5 (Z3c a) (ZEk (.inr (Z3c b))),fun t a b=>Zug h6 (Zke a) (Z3c b)⟩
end Go.Eng
namespace Go.Eng
open Go.RowKit
def ZEe:List (List Et)→Fr→Fr
 | [],f=>f
 | τ :: r,f=>ZEe r (Zac τ f)
def Zde:List (List Et)→Lo→Lo
 | [],l=>l
 | τ :: r,l=>Zde r (Zec τ l)
def okTs:List (List Et)→Fr→Lo→Prop
 | [],_,_=>True
 | τ :: r,f,l=>okT τ f l∧okTs r (Zac τ f) (Zec τ l)
def Zva {β:Type} (eff:List Et→Nat→Option β) (sel:Nat→Bool):List (List Et)→Nat→β→Nat→β
 | [],_,acc,_=>acc
 | τ :: r,i,acc,t=>Zva eff sel r (i+1) (if sel i then (eff τ t).getD acc else acc) t
section
variable {β:Type} {eff:List Et→Nat→Option β}
theorem Zme {sel sel':Nat→Bool} {t:Nat}:∀ {Ts:List (List Et)} {i:Nat} {acc:β},(∀ j τ,Ts[j]? = some τ→eff τ t≠none→sel (i+j)=sel' (i+j))→Zva eff sel Ts i acc t=Zva eff sel' Ts i acc t
 | [],_,_,_=>rfl
 | τ :: r,i,acc,h=>by
  have h1:(if sel i then (eff τ t).getD acc else acc)=(if sel' i then (eff τ t).getD acc else acc):=by
   cases he:eff τ t with
   | none=>simp
   | some z =>
    have:=h 0 τ rfl (by rw [he];exact fun e=>by cases e);rw [Nat.add_zero] at this;rw [this]
  simp only [Zva];rw [h1];exact Zme fun j σ hj hs=>by have:=h (j+1) σ hj hs;rwa [← Nat.add_assoc,Nat.add_right_comm] at this
theorem ZFe {sel:Nat→Bool} {t:Nat}:∀ {Ts:List (List Et)} {i:Nat} {acc:β},(∀ j τ,Ts[j]? = some τ→sel (i+j)=true→eff τ t=none)→Zva eff sel Ts i acc t=acc
 | [],_,_,_=>rfl
 | τ :: r,i,acc,h=>by
  simp only [Zva]
  rw [ZFe fun j σ hj hs=>h (j+1) σ hj (by rwa [← Nat.add_assoc,Nat.add_right_comm])]
  by_cases hs:sel i=true
  ·rw [if_pos hs,h 0 τ rfl hs];rfl
  ·rw [if_neg hs]
theorem Zsm {sel:Nat→Bool} {t:Nat}:∀ {Ts:List (List Et)} {i k:Nat} {acc:β} {τ:List Et} {z:β},Ts[k]? = some τ→sel (i+k)=true→eff τ t=some z→(∀ j σ,k<j→Ts[j]? = some σ→sel (i+j)=true→eff σ t=none)→Zva eff sel Ts i acc t=z
 | [],_,_,_,_,_,h,_,_,_=>by cases h
 | σ :: r,i,0,acc,τ,z,h,hs,he,hj=>by
  cases h
  simp only [Zva]
  rw [if_pos (show sel i=true from hs),he]
  exact ZFe fun j σ hσ hsj=>hj (j+1) σ (by omega) hσ (by rwa [← Nat.add_assoc,Nat.add_right_comm])
 | σ :: r,i,k+1,acc,τ,z,h,hs,he,hj=>by
  simp only [Zva]
  exact Zsm (k:=k) (τ:=τ) h (by rwa [Nat.add_right_comm]) he fun j σ' hkj hσ hsj=>hj (j+1) σ' (by omega) hσ (by rwa [← Nat.add_assoc,Nat.add_right_comm])
end
theorem Zmm:∀ {Ts:List (List Et)} {f:Fr} {l:Lo} {b i:Nat} {τ:List Et},okTs Ts f l→(l.map En.k).Nodup→Ts[i]? = some τ→∃ fi li,okT τ fi li∧(li.map En.k).Nodup∧(∀ t,lkE fi t=Zva Zcb (fun j=>decide (j<b+i)) Ts b (lkE f t) t)∧∀ t,lkE li t=Zva Zpa (fun j=>decide (j<b+i)) Ts b (lkE l t) t
 | [],_,_,_,_,_,_,_,h=>by cases h
 | σ :: r,f,l,b,0,τ,h,hn,ht=>by
  cases ht
  refine ⟨f,l,h.1,hn,fun t=>(ZFe fun j _ _ hs=>?_).symm,fun t=>(ZFe fun j _ _ hs=>?_).symm⟩ <;> (have:=of_decide_eq_true hs;omega)
 | σ :: r,f,l,b,i+1,τ,h,hn,ht=>by
  obtain ⟨n1,hl⟩:=ZEc hn h.1
  obtain ⟨fi,li,k1,k2,k3,k4⟩:=Zmm (b:=b+1) (i:=i) h.2 n1 ht
  have e:(fun j=>decide (j<b+1+i))=fun j=>decide (j<b+(i+1)):=by funext j;congr 1;rw [Nat.add_assoc,Nat.add_comm 1 i]
  have hb:decide (b<b+(i+1))=true:=by simp
  refine ⟨fi,li,k1,k2,fun t=>?_,fun t=>?_⟩
  ·rw [k3 t,e,Zcd h.1];simp only [Zva];rw [if_pos hb]
  ·rw [k4 t,e,hl t];simp only [Zva];rw [if_pos hb]
theorem ZLl:∀ {Ts:List (List Et)} {f:Fr} {l:Lo} {b:Nat},okTs Ts f l→(l.map En.k).Nodup→((Zde Ts l).map En.k).Nodup∧(∀ t,lkE (ZEe Ts f) t=Zva Zcb (fun _=>true) Ts b (lkE f t) t)∧∀ t,lkE (Zde Ts l) t=Zva Zpa (fun _=>true) Ts b (lkE l t) t
 | [],_,_,_,_,hn=>⟨hn,fun _=>rfl,fun _=>rfl⟩
 | τ :: r,f,l,b,h,hn=>by
  obtain ⟨n1,hl⟩:=ZEc hn h.1
  obtain ⟨k1,k2,k3⟩:=ZLl (b:=b+1) h.2 n1
  refine ⟨k1,fun t=>?_,fun t=>?_⟩
  ·rw [show ZEe (τ :: r) f=ZEe r (Zac τ f) from rfl,k2 t,Zcd h.1];rfl
  ·rw [show Zde (τ :: r) l=Zde r (Zec τ l) from rfl,k3 t,hl t];rfl
theorem Z6m {α:Type} {C:Cf} {ops:List Oper} {r:α}:∀ {os:List Oper} {f:Fr} {l:Lo} {n:Nat} {K:Fr→Lo→Nat→List Fp→Option α},Zyf C ops os f l n K=some r →
  ∃ Ts:List (List Et),Ts.length=os.length∧okTs Ts f l∧(∀ i o τ,os[i]? = some o→Ts[i]? = some τ→Tr (n+i) (gop C ops (n+i) o) τ ())∧K (ZEe Ts f) (Zde Ts l) (n+os.length) (Ts.map fun τ=>fpT τ Fp.no)=some r
 | [],f,l,n,K,h=>⟨[],rfl,trivial,fun _ _ _ h=>by simp at h,h⟩
 | o :: os,f,l,n,K,h=>by
  simp only [Zyf] at h
  obtain ⟨⟨⟩,τ,h1,h2,h3⟩:=ZJu h
  obtain ⟨Ts,k1,k2,k3,k4⟩:=Z6m h3
  refine ⟨τ :: Ts,by simp [k1],⟨h2,k2⟩,fun i o' τ' ho ht=>?_,?_⟩
  ·cases i with
   | zero=>cases ho;cases ht;exact h1
   | succ i=>have:=k3 i o' τ' ho ht;rwa [Nat.add_right_comm] at this
  ·rw [List.length_cons,← Nat.add_assoc,Nat.add_right_comm];exact k4
theorem ZMt {ρ:Type} {n:Nat} {A:Prop}:∀ {e:Ev ρ} {f:Fr} {l:Lo} {K:ρ→Fr→Lo→Prop},Zk n e f l K→(∀ x f' l',K x f' l'→A)→A:=by
 intro e
 induction e with
 | fail=>intro f l K h k;exact h.elim
 | done x=>intro f l K h k;exact k _ _ _ h
 | rdS t q ih=>intro f l K h k;obtain ⟨x,hx,h⟩:=h;exact ih _ h k
 | rdL u q ih=>intro f l K h k;obtain ⟨x,hx,h⟩:=h;exact ih _ _ h k
 | wrS t x e ih=>intro f l K h k;exact ih h k
 | wrL u L e ih=>intro f l K h k;exact ih h k
 | new u L e ih=>intro f l K h k;exact ih h.2 k
 | del u e ih=>intro f l K h k;exact ih h k
 | bind x q ih=>intro f l K h k;obtain ⟨x,hx,h⟩:=h;exact ih _ h k
 | test t e1 e2 i1 i2 =>
  intro f l K h k;obtain ⟨s,b,h1,h2,h3⟩:=h
  cases b with
  | true=>exact i1 (h2 rfl) k
  | false=>exact i2 (h3 rfl) k
 | alt b e1 e2 i1 i2 =>
  intro f l K h k
  cases b with
  | true=>exact i1 (h.1 rfl) k
  | false=>exact i2 (h.2 rfl) k
theorem ZXl {C:Cf} {ops:List Oper} {m:Nat}:∀ {os:List Oper} {Ts:List (List Et)} {f:Fr} {l:Lo} {n:Nat},m≤n→Ts.length=os.length→okTs Ts f l→(l.map En.k).Nodup→(∀ i o τ,os[i]? = some o→Ts[i]? = some τ→Tr (n+i) (gop C ops (n+i) o) τ ())→Old m f l (ZEe Ts f) (Zde Ts l)
 | _,[],_,_,_,_,_,_,_,_=>Old.refl
 | [],_ :: _,_,_,_,_,h,_,_,_=>by cases h
 | o :: os,τ :: Ts,f,l,n,hm,hl,h,hn,ht=>by
  have h1:=Zwi hm Old.refl hn (ZKm (ht 0 o τ rfl rfl) h.1)
  have h2:Old m f l (Zac τ f) (Zec τ l):=ZMt h1 fun x f' l' ⟨⟨_,e1,e2⟩,h⟩=>by subst e1;subst e2;exact h
  exact h2.trans (ZXl (n:=n+1) (by omega) (by simpa using hl) h.2 (ZEc hn h.1).1 fun i o' τ' ho hτ=>by
   have:=ht (i+1) o' τ' ho hτ
   rwa [← Nat.add_assoc,Nat.add_right_comm] at this) (Nat.le_refl m)
theorem Z2s {m:Nat} {q:Fp}:∀ {bef:List Fp} {i0:Nat},chk1 m q bef i0=true→∀ i p,bef[i]? = some p→m.testBit (i0+i)=true∨p.free q=true
 | [],_,_,_,_,h=>by cases h
 | p0 :: r,i0,h,i,p,hp=>by
  simp only [chk1] at h
  cases i with
  | zero =>
   cases hp
   rw [Nat.add_zero]
   split at h
   ·rename_i e;exact .inl e
   ·split at h
    ·rename_i e;exact .inr e
    ·cases h
  | succ i =>
   have h':chk1 m q r (i0+1)=true:=by
    split at h
    ·exact h
    ·split at h
     ·exact h
     ·cases h
   have:=Z2s h' i p hp
   rwa [Nat.add_right_comm] at this
theorem Zel:∀ {qs:List Fp} {bef:List Fp} {ms:List Nat},Z0d bef ms qs=true→∀ j q,qs[j]? = some q→∃ m,ms[j]? = some m∧∀ i p,(bef++qs)[i]? = some p→i<bef.length+j→m.testBit i=true∨p.free q=true
 | [],_,_,_,_,_,h=>by cases h
 | q0 :: qs,bef,ms,h,j,q,hq=>by
  cases ms with
  | nil=>cases h
  | cons m0 ms =>
   simp only [Z0d] at h
   split at h
   ·rename_i h1
    cases j with
    | zero =>
     cases hq
     refine ⟨m0,rfl,fun i p hp hi=>?_⟩
     rw [List.getElem?_append_left (by omega)] at hp
     have:=Z2s h1 i p hp
     rwa [Nat.zero_add] at this
    | succ j =>
     obtain ⟨m,h2,h3⟩:=Zel h j q hq
     refine ⟨m,h2,fun i p hp hi=>h3 i p (by rw [List.append_assoc];exact hp) (by simp;omega)⟩
   ·cases h
theorem Zxj {done:List Nat} {t:Nat}:∀ {es:List Edge} {m:Nat},(ZMc done es m).testBit t=true→m.testBit t=true ∨ ∃ e ∈ es,Region.binds .any e=true∧(t=e.on∨(done.getD e.on 0).testBit t=true)
 | [],_,h=>.inl h
 | e :: r,m,h=>by
  simp only [ZMc] at h
  split at h
  ·rename_i hb
   rcases Zxj h with h | ⟨e',he,h1,h2⟩
   ·have h:((m ||| 2^e.on) ||| done.getD e.on 0).testBit t=true:=h
    rw [Nat.testBit_or,Nat.testBit_or,Nat.testBit_two_pow,Bool.or_eq_true,Bool.or_eq_true] at h
    rcases h with (h | h) | h
    ·exact .inl h
    ·exact .inr ⟨e,by simp,hb,.inl (by simpa using (of_decide_eq_true h).symm)⟩
    ·exact .inr ⟨e,by simp,hb,.inr h⟩
   ·exact .inr ⟨e',by simp [he],h1,h2⟩
  ·rcases Zxj h with h | ⟨e',he,h1,h2⟩
   ·exact .inl h
   ·exact .inr ⟨e',by simp [he],h1,h2⟩
theorem ZRr:∀ {os:List Oper} {done:List Nat} {j:Nat} {m:Nat},done[j]? = some m→(ZWa os done)[j]? = some m
 | [],_,_,_,h=>h
 | o :: os,done,j,m,h=>ZRr (os:=os) (by rw [List.getElem?_append_left (List.getElem?_eq_some_iff.1 h).1];exact h)
theorem Z1g {S:Nat→Prop}:∀ {os:List Oper} {done:List Nat},(∀ j o,os[j]? = some o→S (done.length+j)→∀ e ∈ o.after,Region.binds .any e=true→S e.on)→(∀ j m,done[j]? = some m→S j→∀ i,m.testBit i=true→S i) →
  ∀ j o m,os[j]? = some o→(ZWa os done)[done.length+j]? = some m→(∀ e ∈ o.after,Region.binds .any e=true→S e.on)→∀ i,m.testBit i=true→S i
 | [],_,_,_,_,_,_,h,_,_,_,_=>by cases h
 | o0 :: os,done,hc,hd,j,o,m,ho,hm,he,i,hi=>by
  have key:(∀ e ∈ o0.after,Region.binds .any e=true→S e.on)→∀ i,(ZMc done o0.after.toList 0).testBit i=true→S i:=fun he i hi=>by
   rcases Zxj hi with h | ⟨e,h1,h2,h3⟩
   ·simp at h
   ·have hS:=he e (by simpa using h1) h2
    rcases h3 with h3 | h3
    ·subst h3;exact hS
    ·cases hg:done[e.on]? with
     | none=>rw [List.getD_eq_getElem?_getD,hg] at h3;simp at h3
     | some x=>rw [List.getD_eq_getElem?_getD,hg] at h3;exact hd _ x hg hS i h3
  simp only [ZWa] at hm
  cases j with
  | zero =>
   cases ho
   rw [Nat.add_zero] at hm
   have:(ZWa os (done++[ZMc done o0.after.toList 0]))[done.length]? = some (ZMc done o0.after.toList 0):=ZRr (by simp)
   rw [this] at hm;cases hm
   exact key he i hi
  | succ j =>
   refine Z1g (os:=os) (done:=done++[ZMc done o0.after.toList 0]) (fun j' o' ho' hS=>hc (j'+1) o' ho' (by rw [List.length_append,List.length_singleton] at hS;rwa [← Nat.add_assoc,Nat.add_right_comm])) (fun j' m' hm' hS=>?_) j o m ho (by rw [List.length_append,List.length_singleton,Nat.add_right_comm];exact hm) he i hi
   rcases Nat.lt_or_ge j' done.length with h | h
   ·rw [List.getElem?_append_left h] at hm';exact hd j' m' hm' hS
   ·rw [List.getElem?_append_right h] at hm'
    cases hj:j'-done.length with
    | zero =>
     rw [hj] at hm';cases hm'
     refine key (hc 0 o0 rfl ?_)
     rwa [Nat.add_zero,show done.length=j' by omega]
    | succ k=>rw [hj] at hm';cases hm'
theorem Zts:∀ {os:List Oper} {i0:Nat},Z9d i0 os=true→∀ i o,os[i]? = some o→∀ e ∈ o.after,Region.binds .any e=true→e.on<i0+i
 | [],_,_,_,_,h,_,_,_=>by cases h
 | o0 :: os,i0,h,i,o,ho,e,he,hb=>by
  simp only [Z9d] at h
  split at h
  ·rename_i h1
   cases i with
   | zero =>
    cases ho
    have:∀ {es:List Edge},Zxh i0 es=true→∀ e ∈ es,Region.binds .any e=true→e.on<i0:=by
     intro es
     induction es with
     | nil=>intro _ e h;cases h
     | cons x r ih =>
      intro h e he hb;simp only [Zxh] at h;split at h
      ·split at h
       ·rename_i hlt;rcases List.mem_cons.1 he with rfl | he
        ·exact Nat.le_of_ble_eq_true hlt
        ·exact ih h e he hb
       ·cases h
      ·rename_i hx;rcases List.mem_cons.1 he with rfl | he
       ·rw [hb] at hx;cases hx
       ·exact ih h e he hb
    exact this h1 e (by simpa using he) hb
   | succ i=>have:=Zts h i o ho e he hb;omega
  ·cases h
end Go.Eng
namespace Go.Eng
open Go.RowKit
section
variable {N:Nat} {G:V→Value→Prop} {w0:Base} {v0:Zb}
theorem F2_perm {R:En LV→List Loc→Prop} {l l2:Lo} (hp:l.Perm l2):∀ {E:List (List Loc)},F2 R l E→∃ E2,F2 R l2 E2∧E.flatten.Perm E2.flatten:=by
 induction hp with
 | nil=>intro E h;exact ⟨E,h,List.Perm.refl _⟩
 | cons x _ ih =>
  intro E h
  cases E with
  | nil=>exact h.elim
  | cons es E =>
   obtain ⟨E2,h1,h2⟩:=ih h.2;exact ⟨es :: E2,⟨h.1,h1⟩,by simp only [List.flatten_cons];exact List.Perm.append_left _ h2⟩
 | swap x y l =>
  intro E h
  cases E with
  | nil=>exact h.elim
  | cons es E =>
   cases E with
   | nil=>exact h.2.elim
   | cons es2 E =>
    refine ⟨es2 :: es :: E,⟨h.2.1,h.1,h.2.2⟩,?_⟩;simp only [List.flatten_cons];rw [← List.append_assoc,← List.append_assoc];exact List.Perm.append_right _ List.perm_append_comm
 | trans _ _ i1 i2 =>
  intro E h;obtain ⟨E2,h1,h2⟩:=i1 h;obtain ⟨E3,h3,h4⟩:=i2 h1;exact ⟨E3,h3,h2.trans h4⟩
theorem ZAd {l:Lo} (hn:(l.map En.k).Nodup) {e:En LV} (h:e ∈ l):lkE l e.k=some e:=by
 induction l with
 | nil=>cases h
 | cons p r ih =>
  simp only [List.map_cons,List.nodup_cons] at hn;rw [ZQ];rcases List.mem_cons.1 h with rfl | h
  ·rw [if_pos rfl]
  ·rw [if_neg fun e2=>hn.1 (List.mem_map.2 ⟨e,h,Eq.symm e2⟩)];exact ih hn.2 h
theorem Zqr {l:Lo} (hn:(l.map En.k).Nodup):l.Nodup:=by
 induction l with
 | nil=>exact List.nodup_nil
 | cons p r ih =>
  simp only [List.map_cons,List.nodup_cons] at hn;exact List.nodup_cons.2 ⟨fun h=>hn.1 (List.mem_map.2 ⟨p,h,rfl⟩),ih hn.2⟩
theorem ZEu {l l2:Lo} (hn:(l.map En.k).Nodup) (hn2:(l2.map En.k).Nodup) (h:∀ u,lkE l u=lkE l2 u):l.Perm l2:=by
 refine (List.perm_ext_iff_of_nodup (Zqr hn) (Zqr hn2)).2 fun e=>⟨fun he=>?_,fun he=>?_⟩
 ·have:=ZAd hn he;rw [h] at this;exact (Zs this).1
 ·have:=ZAd hn2 he;rw [← h] at this;exact (Zs this).1
theorem RelX.look {U X:Nat→Prop} {f f2:Fr} {l l2:Lo} {a:Act} {w:World} {γ:Nat→Gh} {v:Zb} {ℓ:List Loc} (h:RelX N G w0 v0 U X f l a w γ v ℓ) (hn2:(l2.map En.k).Nodup) (hf:∀ t,lkE f2 t=lkE f t) (hl:∀ u,lkE l2 u=lkE l u):RelX N G w0 v0 U X f2 l2 a w γ v ℓ:=by
 obtain ⟨E,hE,hp⟩:=h.lr;have hle:Le U v γ l v γ l2:=by
  have:=Le.refl (U:=U) hE (Zb.le_refl v);exact ⟨Zb.le_refl _,fun u e' hk he=>this.l u e' hk (by rw [← hl];exact he)⟩
 have hpl:=ZEu h.nd hn2 fun u=>(hl u).symm;obtain ⟨E2,h1,h2⟩:=F2_perm hpl hE;refine ⟨h.st,fun t e he=>?_,⟨E2,h1.imp fun e he es hr=>?_,hp.trans h2⟩,hn2,fun t e he=>h.uf t e ((hf t) ▸ he),fun e he=>h.ul e (hpl.mem_iff.2 he),fun x y hg=>⟨ZEb hle (h.gh x y hg).2 (h.gh x y hg).1,(h.gh x y hg).2⟩⟩
 ·have he':=(hf t) ▸ he;exact ZEb hle (h.uf t e he').1 (h.fr t e he')
 ·exact Zeh hle (h.ul e (hpl.mem_iff.2 he)).2.2 rfl hr
end
end Go.Eng
namespace Go.Eng
open Go.RowKit
section
variable {N:Nat} {G:V→Value→Prop} {w0:Base} {v0:Zb}
theorem Rel.draw {U:Nat→Prop} {f:Fr} {l:Lo} {a:Act} {w:World} (h:Rel N G w0 v0 U f l a w):Rel N G w0 v0 U f l a w.drew:=by
 obtain ⟨γ,v,ℓ,h⟩:=h;exact ⟨γ,v,ℓ,h.st.drew,h.fr,h.lr,h.nd,h.uf,h.ul,h.gh⟩
def sel (listed:Array Bool):Nat→Bool:=fun j=>listed.getD j false
def UE (n:Nat) (listed:Array Bool):Nat→Prop:=fun k=>k<n ∨ ∃ j,listed.getD j false=true∧k=n+j
structure Inv (N:Nat) (G:V→Value→Prop) (w0:Base) (v0:Zb) (ops:Array Oper) (Ts:List (List Et)) (f:Fr) (l:Lo) (n:Nat) (listed:Array Bool) (a:Act) (w:World):Prop where
 size:listed.size=ops.size
 closed:∀ (j:Nat) (o:Oper),ops[j]? = some o→listed.getD j false=true→∀ e ∈ o.after,Region.binds .any e=true→listed.getD e.on false=true
 rel:∃ f1 l1,Rel N G w0 v0 (UE n listed) f1 l1 a w∧(∀ t,lkE f1 t=Zva Zcb (sel listed) Ts 0 (lkE f t) t)∧∀ t,lkE l1 t=Zva Zpa (sel listed) Ts 0 (lkE l t) t
theorem Zlk {ops:Array Oper} (hb:Z9d 0 ops.toList=true) {listed:Array Bool} (hs:listed.size=ops.size):∀ (n j:Nat),j<n→j<ops.size→listed.getD j true=false→Region.ready .any ops listed≠[]
 | 0,j,h,_,_=>by omega
 | n+1,j,h,hj,hl=>by
  intro h0
  by_cases hp:∃ e ∈ (ops[j]).after,Region.binds .any e=true∧listed.getD e.on false=false
  ·obtain ⟨e,he,hbb,hn⟩:=hp
   have hlt:=Zts hb j ops[j] (by simp [hj]) e he hbb
   refine Zlk hb hs n e.on (by omega) (by omega) ?_ h0
   rw [Z1b (by omega)];exact hn
  ·have:j ∈ Region.ready .any ops listed:=mem_ready.2 ⟨hl,ops[j],by simp [hj],fun e he hb=>by
    cases hx:listed.getD e.on false with
    | true=>rfl
    | false=>exact absurd ⟨e,he,hb,hx⟩ hp⟩
   rw [h0] at this;cases this
theorem Znu {C:Cf} (hC:CfOK C) {ops:Array Oper} {Ts:List (List Et)} {f:Fr} {l:Lo} {n:Nat} {Q:Exit→Act→World→Prop} (hb:Z9d 0 ops.toList=true) (hds:∀ o ∈ ops.toList,∀ k,o.dst=some k→k<N) (hl:Ts.length=ops.toList.length)
  (hn:(l.map En.k).Nodup) (hok:okTs Ts f l) (htr:∀ i o τ,ops.toList[i]? = some o→Ts[i]? = some τ→Tr (n+i) (gop C ops.toList (n+i) o) τ ()) (hch:Z0d [] (ZWa ops.toList []) (Ts.map fun τ=>fpT τ Fp.no)=true)
  (hQ:∀ a' w',Rel N G w0 v0 (· < n+ops.toList.length) (ZEe Ts f) (Zde Ts l) a' w'→Q .normal a' w'):∀ (fuel:Nat) (listed:Array Bool) (a:Act) (w:World),left listed=fuel→Inv N G w0 v0 ops Ts f l n listed a w→wpAny C.P .any ops Q fuel listed a w:=by
 have ord:∀ (i j:Nat) (τ σ:List Et),i<j→Ts[i]? = some τ→Ts[j]? = some σ→∃ m,(ZWa ops.toList [])[j]? = some m∧(m.testBit i=true∨Apart τ σ):=by
  intro i j τ σ hij hτ hσ;obtain ⟨m,h1,h2⟩:=Zel hch j (fpT σ Fp.no) (by simp [hσ]);refine ⟨m,h1,(h2 i (fpT τ Fp.no) (by simp [hτ]) (by simpa using hij)).imp_right Zsr⟩
 have opAt:∀ (j:Nat) (σ:List Et),Ts[j]? = some σ→∃ o,ops[j]? = some o:=fun j σ h=>by
  have:=(List.getElem?_eq_some_iff.1 h).1;rw [hl] at this;exact ⟨ops[j]'(by simpa using this),by simp⟩
 intro fuel
 induction fuel with
 | zero =>
  intro listed a w hfu hI;have hall:∀ j,listed.getD j true=true:=fun j=>Zhm hfu;refine ⟨?_,?_⟩
  ·cases hx:Region.ready .any ops listed with
   | nil=>rfl
   | cons p r =>
    obtain ⟨h1,_⟩:=mem_ready.1 (show p ∈ Region.ready .any ops listed by rw [hx];simp);rw [hall p] at h1;cases h1
  ·obtain ⟨f1,l1,⟨γ,v,ℓ,h1⟩,h2,h3⟩:=hI.rel;obtain ⟨k1,k2,k3⟩:=ZLl (b:=0) hok hn;have hsel:∀ (j:Nat) (σ:List Et),Ts[j]? = some σ→sel listed (0+j)=true:=fun j σ h=>by
    obtain ⟨o,ho⟩:=opAt j σ h;rw [Nat.zero_add];show listed.getD j false=true;rw [← Z1b (by rw [hI.size];exact Zee ho)];exact hall j
   refine hQ a w ⟨γ,v,ℓ,(h1.look k1 (fun t=>?_) fun t=>?_).mono (fun k hk=>?_) fun k hk=>?_⟩
   ·rw [k2 t,h2 t];exact (Zme fun j σ hj _=>(hsel j σ hj)).symm
   ·rw [k3 t,h3 t];exact (Zme fun j σ hj _=>(hsel j σ hj)).symm
   all_goals
    rcases hk with hk | ⟨j,hj,rfl⟩
    ·omega
    ·have:j<listed.size:=by
      rcases Nat.lt_or_ge j listed.size with h | h
      ·exact h
      ·simp [Array.getElem?_eq_none h] at hj
     rw [hI.size] at this;simp;omega
 | succ fuel ih =>
  intro listed a w hfu hI;refine ⟨fun h0=>?_,fun i hi=>?_⟩
  ·obtain ⟨j,hj,hj2⟩:=ZQk (listed:=listed) (by omega);exact absurd h0 (Zlk hb hI.size (j+1) j (by omega) (by rw [← hI.size];exact hj) hj2)
  ·obtain ⟨hun,o,ho,hall⟩:=mem_ready.1 hi;have hil:i<listed.size:=by rw [hI.size];exact Zee ho
   have hunf:listed.getD i false=false:=by rw [← Z1b hil];exact hun
   have ho':ops.toList[i]? = some o:=by rw [Array.getElem?_toList];exact ho
   have hlt:i<Ts.length:=by rw [hl];exact (List.getElem?_eq_some_iff.1 ho').1
   have hτ:Ts[i]? = some Ts[i]:=List.getElem?_eq_getElem hlt;generalize hg:Ts[i]=τ at hτ;obtain ⟨fi,li,b1,b2,b3,b4⟩:=Zmm (b:=0) hok hn hτ;obtain ⟨f1,l1,⟨γ,v,ℓ,h1⟩,h2,h3⟩:=hI.rel;have befo:∀ (j:Nat) (σ:List Et),j<i→Ts[j]? = some σ→listed.getD j false=true∨Apart σ τ:=by
    intro j σ hj hσ;obtain ⟨m,q1,q2⟩:=ord j i σ τ hj hσ hτ;refine q2.imp_left fun hbit=>?_;refine Z1g (S:=fun k=>listed.getD k false=true) (done:=[]) (fun j' o' ho' hS=>hI.closed j' o' (by rw [← Array.getElem?_toList];exact ho') (by simpa using hS)) (fun j' m' hm'=>by simp at hm') i o m ho' (by simpa using q1) hall j hbit
   have afte:∀ (j:Nat) (σ:List Et),i<j→Ts[j]? = some σ→listed.getD j false=false∨Apart τ σ:=by
    intro j σ hj hσ;obtain ⟨m,q1,q2⟩:=ord i j τ σ hj hτ hσ;refine q2.imp_left fun hbit=>?_
    cases hx:listed.getD j false with
    | false=>rfl
    | true =>
     obtain ⟨oj,hoj⟩:=opAt j σ hσ;have:=Z1g (S:=fun k=>listed.getD k false=true) (done:=[]) (fun j' o' ho' hS=>hI.closed j' o' (by rw [← Array.getElem?_toList];exact ho') (by simpa using hS)) (fun j' m' hm'=>by simp at hm') j oj m (by rw [Array.getElem?_toList];exact hoj) (by simpa using q1) (hI.closed j oj hoj hx) i hbit;rw [hunf] at this;cases this
   have same:∀ {β:Type} (eff:List Et→Nat→Option β) (P:Nat→Prop) (acc:β) (t:Nat),P t→(∀ σ,Apart σ τ→P t→eff σ t≠none→False)→(∀ σ,Apart τ σ→P t→eff σ t≠none→False)→Zva eff (fun j=>decide (j<0+i)) Ts 0 acc t=Zva eff (sel listed) Ts 0 acc t:=by
    intro β eff P acc t hP hA hB;refine Zme fun j σ hj hne=>?_;simp only [Nat.zero_add];rcases Nat.lt_trichotomy j i with h | h | h
    ·rcases befo j σ h hj with q | q
     ·rw [decide_eq_true h];exact q.symm
     ·exact (hA σ q hP hne).elim
    ·subst h;rw [decide_eq_false (Nat.lt_irrefl _)];exact hunf.symm
    ·rcases afte j σ h hj with q | q
     ·rw [decide_eq_false (by omega)];exact q.symm
     ·exact (hB σ q hP hne).elim
   have okτ:okT τ f1 l1:=by
    refine Zae b2 h1.nd b1 (fun t ht=>?_) fun t ht=>?_
    ·rw [b3 t,h2 t];exact same Zcb (rdS τ) _ t ht (fun σ q hp hne=>q.s1 t hne hp) fun σ q hp hne=>q.s3 t hp hne
    ·rw [b4 t,h3 t];exact same Zpa (rdL τ) _ t ht (fun σ q hp hne=>q.l1 t hne hp) fun σ q hp hne=>q.l3 t hp hne
   have hruns:=ZKm (htr i o τ ho' hτ) okτ;have hnU:¬ UE n listed (n+i):=by
    rintro (h | ⟨j,hj,e⟩)
    ·omega
    ·have:i=j:=by omega
     subst this;rw [hunf] at hj;cases hj
   have selS:∀ j,sel (listed.setIfInBounds i true) j=if i=j then true else sel listed j:=fun j=>by
    by_cases h:i=j
    ·subst h;rw [if_pos rfl];exact ZNb hil
    ·rw [if_neg h];exact ZQa h
   have hUE:∀ k,UE n listed k→UE n (listed.setIfInBounds i true) k:=by
    rintro k (h | ⟨j,hj,e⟩)
    ·exact .inl h
    ·refine .inr ⟨j,?_,e⟩;have:=selS j;unfold sel at this;rw [this,hj];split <;> rfl
   have hXi:UE n (listed.setIfInBounds i true) (n+i):=.inr ⟨i,ZNb hil,rfl⟩;have hgg:=ZNm (X:=UE n (listed.setIfInBounds i true)) hC (h1.mono (fun _ h=>h) hUE) hUE hXi hnU hds (hds o (List.mem_of_getElem? ho')) hruns;have upd:∀ {β:Type} (eff:List Et→Nat→Option β) (acc:β) (t:Nat),(∀ σ,Apart τ σ→eff τ t≠none→eff σ t≠none→False)→Zva eff (sel (listed.setIfInBounds i true)) Ts 0 acc t=(eff τ t).getD (Zva eff (sel listed) Ts 0 acc t):=by
    intro β eff acc t hA
    cases he:eff τ t with
    | none =>
     refine Zme fun j σ hj hne=>?_;rw [Nat.zero_add,selS j,if_neg];intro e;subst e;rw [hτ] at hj;cases hj;exact hne he
    | some z =>
     refine Zsm (k:=i) hτ (by rw [Nat.zero_add,selS i,if_pos rfl]) he fun j σ hij hσ hs=>?_;rw [Nat.zero_add,selS j,if_neg (by omega)] at hs;rcases afte j σ hij hσ with q | q
     ·rw [show sel listed j=false from q] at hs;cases hs
     ·cases hx:eff σ t with
      | none=>rfl
      | some y=>exact (hA σ q (by rw [he];exact fun e=>by cases e) (by rw [hx];exact fun e=>by cases e)).elim
   have nxt:∀ f' l' a' w',((()=()∧f'=Zac τ f1∧l'=Zec τ l1)∧True)→Rel N G w0 v0 (UE n (listed.setIfInBounds i true)) f' l' a' w'→wpAny C.P .any ops Q fuel (listed.setIfInBounds i true) a' w':=by
    rintro f' l' a' w' ⟨⟨_,rfl,rfl⟩,_⟩ hr;refine ih _ _ _ (by have:=ZLh hun;omega) ⟨by simp [hI.size],fun j oj hj hlj e he hbb=>?_,_,_,hr,fun t=>?_,fun t=>?_⟩
    ·have hj2:=selS e.on;have hj3:=selS j;unfold sel at hj2 hj3;rw [hj2];split
     ·rfl
     ·rw [hj3] at hlj;split at hlj
      ·rename_i hij;subst hij;rw [ho] at hj;cases hj;exact hall e he hbb
      ·exact hI.closed j oj hj hlj e he hbb
    ·rw [Zcd okτ,h2 t];exact (upd Zcb _ t fun σ q hp hne=>q.s2 t hp hne).symm
    ·rw [(ZEc h1.nd okτ).2 t,h3 t];exact (upd Zpa _ t fun σ q hp hne=>q.l2 t hp hne).symm
   unfold wpOp;rw [ho];rcases hgg with ⟨hw,hg⟩ | ⟨hw,f',l',q1,q2⟩
   ·simp only [hw,if_true];exact .inl (ZCj rfl hg fun x w' ⟨f',l',q1,q2⟩=>nxt f' l' _ w' ⟨⟨rfl,q1.2⟩,trivial⟩ q2)
   ·simp only [hw];exact nxt f' l' _ w ⟨⟨rfl,q1.2⟩,trivial⟩ q2
end
end Go.Eng
namespace Go.Eng
open Go.RowKit
section
variable {N:Nat} {G:V→Value→Prop} {w0:Base} {v0:Zb}
theorem ZHs:∀ {os:List Oper} {done:List Nat},(ZWa os done).length=done.length+os.length
 | [],done=>by simp [ZWa]
 | o :: os,done=>by
  simp only [ZWa]
  rw [ZHs]
  simp;omega
theorem Zmp {m:Nat}:∀ {k:Nat},allB m k=true→∀ i,i<k→m.testBit i=true
 | 0,_,_,h=>by omega
 | k+1,h,i,hi=>by
  simp only [allB] at h
  split at h
  ·rename_i hb
   rcases Nat.lt_or_ge i k with h1 | h1
   ·exact Zmp h i h1
   ·rw [show i=k by omega];exact hb
  ·cases h
theorem ZJw {ops:List Oper} {o:Oper} (h:Zdk ops=some o):ops.dropLast++[o]=ops∧o.guard=none∧∀ i,i<ops.dropLast.length→(ZMc (ZWa ops.dropLast []) o.after.toList 0).testBit i=true:=by
 unfold Zdk at h;split at h
 ·cases h
 ·rename_i q hq;split at h
  ·cases h
  ·rename_i hc;split at h
   ·rename_i hb
    cases h
    refine ⟨?_,?_,Zmp hb⟩
    ·rcases List.eq_nil_or_concat ops with rfl | ⟨L,b,rfl⟩
     ·cases hq
     ·simp at hq;subst hq;simp
    ·unfold Z0q at hc;split at hc
     ·rename_i hg;exact hg
     ·cases hc
   ·cases h
theorem ZAm {l:Array Bool} {i j:Nat} {b:Bool} (h:¬ j=i):(l.setIfInBounds i true).getD j b=l.getD j b:=by
 simp [Array.getD_eq_getD_getElem?,Array.getElem?_setIfInBounds_ne (Ne.symm h)]
theorem Zsv {C:Cf} (hC:CfOK C) {ops:Array Oper} {ol:Oper} {Ts:List (List Et)} {f:Fr} {l:Lo} {n:Nat} {Q:Exit→Act→World→Prop} (he:ops.toList.dropLast++[ol]=ops.toList) (hg:ol.guard=none) (hanc:∀ i,i<ops.toList.dropLast.length→(ZMc (ZWa ops.toList.dropLast []) ol.after.toList 0).testBit i=true)
  (hb:Z9d 0 ops.toList=true) (hds:∀ o ∈ ops.toList,∀ k,o.dst=some k→k<N) (hl:Ts.length=ops.toList.dropLast.length)
  (hn:(l.map En.k).Nodup) (hok:okTs Ts f l) (htr:∀ i o τ,ops.toList.dropLast[i]? = some o→Ts[i]? = some τ→Tr (n+i) (gop C ops.toList (n+i) o) τ ()) (hch:Z0d [] (ZWa ops.toList.dropLast []) (Ts.map fun τ=>fpT τ Fp.no)=true)
  (hQ:∀ a' w',Rel N G w0 v0 (· < n+ops.toList.dropLast.length) (ZEe Ts f) (Zde Ts l) a' w'→wpList C.P ops Q [ol] a' w'):∀ (fuel:Nat) (listed:Array Bool) (a:Act) (w:World),left listed=fuel+1→listed.getD ops.toList.dropLast.length true=false→Inv N G w0 v0 ops Ts f l n listed a w→wpAny C.P .any ops Q (fuel+1) listed a w:=by
 have hsz:ops.size=ops.toList.dropLast.length+1:=by
  have:=congrArg List.length he;simp at this ⊢;omega
 have initAt:∀ {j:Nat} {o:Oper},ops.toList.dropLast[j]? = some o→ops[j]? = some o:=fun {j o} h=>by
  rw [← Array.getElem?_toList,← he,List.getElem?_append_left (List.getElem?_eq_some_iff.1 h).1];exact h
 have lastAt:ops[ops.toList.dropLast.length]? = some ol:=by
  rw [← Array.getElem?_toList]
  conv=>lhs;rw [← he]
  simp
 have ord:∀ (i j:Nat) (τ σ:List Et),i<j→Ts[i]? = some τ→Ts[j]? = some σ→∃ m,(ZWa ops.toList.dropLast [])[j]? = some m∧(m.testBit i=true∨Apart τ σ):=by
  intro i j τ σ hij hτ hσ;obtain ⟨m,h1,h2⟩:=Zel hch j (fpT σ Fp.no) (by simp [hσ]);refine ⟨m,h1,(h2 i (fpT τ Fp.no) (by simp [hτ]) (by simpa using hij)).imp_right Zsr⟩
 have opAt:∀ (j:Nat) (σ:List Et),Ts[j]? = some σ→∃ o,ops.toList.dropLast[j]? = some o:=fun j σ h=>by
  have:=(List.getElem?_eq_some_iff.1 h).1;rw [hl] at this;exact ⟨_,List.getElem?_eq_getElem this⟩
 have hsub:∀ {listed:Array Bool} {a:Act} {w:World},Inv N G w0 v0 ops Ts f l n listed a w→∀ j o,ops.toList.dropLast[j]? = some o→listed.getD (([]:List Nat).length+j) false=true→∀ e ∈ o.after,Region.binds .any e=true→listed.getD e.on false=true:=fun hI j o ho hS=>hI.closed j o (initAt ho) (by simpa using hS);intro fuel
 induction fuel with
 | zero =>
  intro listed a w hfu hlast hI;have hll:ops.toList.dropLast.length<listed.size:=by rw [hI.size];omega
  have h0:left (listed.setIfInBounds ops.toList.dropLast.length true)=0:=by have:=ZLh hlast;omega
  have hall':∀ j,(listed.setIfInBounds ops.toList.dropLast.length true).getD j true=true:=fun j=>Zhm h0;have hall:∀ j,j≠ops.toList.dropLast.length→j<listed.size→listed.getD j false=true:=fun j hj hlt=>by
   have:=hall' j;rw [← Z1b hlt];rw [ZAm hj] at this;exact this
  refine ⟨fun h0=>?_,fun i hi=>?_⟩
  ·exact absurd h0 (Zlk hb hI.size (ops.toList.dropLast.length+1) ops.toList.dropLast.length (by omega) (by omega) hlast)
  ·obtain ⟨hun,o,ho,hbef⟩:=mem_ready.1 hi;have hil:i<listed.size:=by rw [hI.size];exact Zee ho
   have hi2:i=ops.toList.dropLast.length:=by
    rcases Nat.decEq i ops.toList.dropLast.length with h | h
    ·have:=hall i h hil;rw [← Z1b hil,hun] at this;cases this
    ·exact h
   subst hi2;rw [lastAt] at ho
   cases ho
   obtain ⟨f1,l1,⟨γ,v,ℓ,h1⟩,h2,h3⟩:=hI.rel;obtain ⟨k1,k2,k3⟩:=ZLl (b:=0) hok hn;have hsel:∀ (j:Nat) (σ:List Et),Ts[j]? = some σ→sel listed (0+j)=true:=fun j σ h=>by
    have hj:=(List.getElem?_eq_some_iff.1 h).1;rw [hl] at hj;rw [Nat.zero_add];exact hall j (by omega) (by omega)
   have hw:=hQ a w ⟨γ,v,ℓ,(h1.look k1 (fun t=>by rw [k2 t,h2 t];exact (Zme fun j σ hj _=>(hsel j σ hj).symm)) fun t=>by rw [k3 t,h3 t];exact (Zme fun j σ hj _=>(hsel j σ hj).symm)).mono (fun k hk=>?_) fun k hk=>?_⟩
   ·unfold wpOp;rw [lastAt];unfold wpList at hw;have hwt:Region.wanted ol (yielded ops a.tmps)=true:=ZUb hg;simp only [hwt,if_true] at hw ⊢;refine hw.imp_left (Oper.wp_mono fun a' w' hq=>⟨?_,hq⟩)
    cases hx:Region.ready .any ops (listed.setIfInBounds ops.toList.dropLast.length true) with
    | nil=>rfl
    | cons p r =>
     obtain ⟨h1,_⟩:=mem_ready.1 (show p ∈ Region.ready .any ops (listed.setIfInBounds ops.toList.dropLast.length true) by rw [hx];simp);rw [hall' p] at h1;cases h1
   all_goals
    rcases hk with hk | ⟨j,hj,rfl⟩
    ·omega
    ·have hlt:j<listed.size:=by
      rcases Nat.lt_or_ge j listed.size with h | h
      ·exact h
      ·simp [Array.getElem?_eq_none h] at hj
     have hne:j≠ops.toList.dropLast.length:=fun e=>by
      rw [e,← Z1b hll,hlast] at hj;cases hj
     rw [hI.size] at hlt;show n+j<n+_;omega
 | succ fuel ih =>
  intro listed a w hfu hlast hI;refine ⟨fun h0=>?_,fun i hi=>?_⟩
  ·exact absurd h0 (Zlk hb hI.size (ops.toList.dropLast.length+1) ops.toList.dropLast.length (by omega) (by omega) hlast)
  ·obtain ⟨hun,o,ho,hall⟩:=mem_ready.1 hi;have hil:i<listed.size:=by rw [hI.size];exact Zee ho
   have hunf:listed.getD i false=false:=by rw [← Z1b hil];exact hun
   have hne:i≠ops.toList.dropLast.length:=by
    intro e;subst e;rw [lastAt] at ho
    cases ho
    have hbits:∀ j,j<ops.toList.dropLast.length→listed.getD j false=true:=fun j hj=>by
     rcases Zxj (hanc j hj) with h | ⟨e,h1,h2,h3⟩
     ·simp at h
     ·have hS:=hall e (by simpa using h1) h2;rcases h3 with h3 | h3
      ·rw [h3];exact hS
      ·cases hg:(ZWa ops.toList.dropLast [])[e.on]? with
       | none=>rw [List.getD_eq_getElem?_getD,hg] at h3;simp at h3
       | some m =>
        rw [List.getD_eq_getElem?_getD,hg] at h3;have hlt:e.on<ops.toList.dropLast.length:=by
         have:=(List.getElem?_eq_some_iff.1 hg).1;rw [ZHs] at this;simpa using this
        have hoe:=List.getElem?_eq_getElem hlt;exact Z1g (S:=fun k=>listed.getD k false=true) (done:=[]) (hsub hI) (fun j' m' hm'=>by simp at hm') e.on _ m hoe (by simpa using hg) (hI.closed e.on _ (initAt hoe) hS) j h3
    have h0:left (listed.setIfInBounds ops.toList.dropLast.length true)=fuel+1:=by have:=ZLh hlast;omega
    obtain ⟨j,hj,hj2⟩:=ZQk (listed:=listed.setIfInBounds ops.toList.dropLast.length true) (by omega);have hjs:j<listed.size:=by simpa using hj
    rcases Nat.decEq j ops.toList.dropLast.length with h | h
    ·have h1:=hbits j (by rw [hI.size] at hjs;omega);rw [← Z1b hjs] at h1;rw [ZAm h,h1] at hj2;cases hj2
    ·subst h;have:(listed.setIfInBounds ops.toList.dropLast.length true).getD ops.toList.dropLast.length true=true:=by simp [hjs]
     rw [this] at hj2;cases hj2
   have hlt0:i<ops.toList.dropLast.length:=by
    rw [hI.size] at hil;omega
   have ho':ops.toList.dropLast[i]? = some o:=by
    have:=List.getElem?_eq_getElem hlt0;rw [this];have h2:=initAt this;rw [ho] at h2;exact h2.symm
   have hlt:i<Ts.length:=by rw [hl];exact (List.getElem?_eq_some_iff.1 ho').1
   have hτ:Ts[i]? = some Ts[i]:=List.getElem?_eq_getElem hlt;generalize hg:Ts[i]=τ at hτ;obtain ⟨fi,li,b1,b2,b3,b4⟩:=Zmm (b:=0) hok hn hτ;obtain ⟨f1,l1,⟨γ,v,ℓ,h1⟩,h2,h3⟩:=hI.rel;have befo:∀ (j:Nat) (σ:List Et),j<i→Ts[j]? = some σ→listed.getD j false=true∨Apart σ τ:=by
    intro j σ hj hσ;obtain ⟨m,q1,q2⟩:=ord j i σ τ hj hσ hτ;refine q2.imp_left fun hbit=>?_;refine Z1g (S:=fun k=>listed.getD k false=true) (done:=[]) (hsub hI) (fun j' m' hm'=>by simp at hm') i o m ho' (by simpa using q1) hall j hbit
   have afte:∀ (j:Nat) (σ:List Et),i<j→Ts[j]? = some σ→listed.getD j false=false∨Apart τ σ:=by
    intro j σ hj hσ;obtain ⟨m,q1,q2⟩:=ord i j τ σ hj hτ hσ;refine q2.imp_left fun hbit=>?_
    cases hx:listed.getD j false with
    | false=>rfl
    | true =>
     obtain ⟨oj,hoj⟩:=opAt j σ hσ;have:=Z1g (S:=fun k=>listed.getD k false=true) (done:=[]) (hsub hI) (fun j' m' hm'=>by simp at hm') j oj m hoj (by simpa using q1) (hI.closed j oj (initAt hoj) hx) i hbit;rw [hunf] at this;cases this
   have same:∀ {β:Type} (eff:List Et→Nat→Option β) (P:Nat→Prop) (acc:β) (t:Nat),P t→(∀ σ,Apart σ τ→P t→eff σ t≠none→False)→(∀ σ,Apart τ σ→P t→eff σ t≠none→False)→Zva eff (fun j=>decide (j<0+i)) Ts 0 acc t=Zva eff (sel listed) Ts 0 acc t:=by
    intro β eff P acc t hP hA hB;refine Zme fun j σ hj hne=>?_;simp only [Nat.zero_add];rcases Nat.lt_trichotomy j i with h | h | h
    ·rcases befo j σ h hj with q | q
     ·rw [decide_eq_true h];exact q.symm
     ·exact (hA σ q hP hne).elim
    ·subst h;rw [decide_eq_false (Nat.lt_irrefl _)];exact hunf.symm
    ·rcases afte j σ h hj with q | q
     ·rw [decide_eq_false (by omega)];exact q.symm
     ·exact (hB σ q hP hne).elim
   have okτ:okT τ f1 l1:=by
    refine Zae b2 h1.nd b1 (fun t ht=>?_) fun t ht=>?_
    ·rw [b3 t,h2 t];exact same Zcb (rdS τ) _ t ht (fun σ q hp hne=>q.s1 t hne hp) fun σ q hp hne=>q.s3 t hp hne
    ·rw [b4 t,h3 t];exact same Zpa (rdL τ) _ t ht (fun σ q hp hne=>q.l1 t hne hp) fun σ q hp hne=>q.l3 t hp hne
   have hruns:=ZKm (htr i o τ ho' hτ) okτ;have hnU:¬ UE n listed (n+i):=by
    rintro (h | ⟨j,hj,e⟩)
    ·omega
    ·have:i=j:=by omega
     subst this;rw [hunf] at hj;cases hj
   have selS:∀ j,sel (listed.setIfInBounds i true) j=if i=j then true else sel listed j:=fun j=>by
    by_cases h:i=j
    ·subst h;rw [if_pos rfl];exact ZNb hil
    ·rw [if_neg h];exact ZQa h
   have hUE:∀ k,UE n listed k→UE n (listed.setIfInBounds i true) k:=by
    rintro k (h | ⟨j,hj,e⟩)
    ·exact .inl h
    ·refine .inr ⟨j,?_,e⟩;have:=selS j;unfold sel at this;rw [this,hj];split <;> rfl
   have hXi:UE n (listed.setIfInBounds i true) (n+i):=.inr ⟨i,ZNb hil,rfl⟩;have hgg:=ZNm (X:=UE n (listed.setIfInBounds i true)) hC (h1.mono (fun _ h=>h) hUE) hUE hXi hnU hds (hds o (by rw [← he];exact List.mem_append_left _ (List.mem_of_getElem? ho'))) hruns;have upd:∀ {β:Type} (eff:List Et→Nat→Option β) (acc:β) (t:Nat),(∀ σ,Apart τ σ→eff τ t≠none→eff σ t≠none→False)→Zva eff (sel (listed.setIfInBounds i true)) Ts 0 acc t=(eff τ t).getD (Zva eff (sel listed) Ts 0 acc t):=by
    intro β eff acc t hA
    cases he:eff τ t with
    | none =>
     refine Zme fun j σ hj hne=>?_;rw [Nat.zero_add,selS j,if_neg];intro e;subst e;rw [hτ] at hj;cases hj;exact hne he
    | some z =>
     refine Zsm (k:=i) hτ (by rw [Nat.zero_add,selS i,if_pos rfl]) he fun j σ hij hσ hs=>?_;rw [Nat.zero_add,selS j,if_neg (by omega)] at hs;rcases afte j σ hij hσ with q | q
     ·rw [show sel listed j=false from q] at hs;cases hs
     ·cases hx:eff σ t with
      | none=>rfl
      | some y=>exact (hA σ q (by rw [he];exact fun e=>by cases e) (by rw [hx];exact fun e=>by cases e)).elim
   have nxt:∀ f' l' a' w',((()=()∧f'=Zac τ f1∧l'=Zec τ l1)∧True)→Rel N G w0 v0 (UE n (listed.setIfInBounds i true)) f' l' a' w'→wpAny C.P .any ops Q (fuel+1) (listed.setIfInBounds i true) a' w':=by
    rintro f' l' a' w' ⟨⟨_,rfl,rfl⟩,_⟩ hr;refine ih _ _ _ (by have:=ZLh hun;omega) (by
     rw [ZAm (Ne.symm hne)];exact hlast) ⟨by simp [hI.size],fun j oj hj hlj e he hbb=>?_,_,_,hr,fun t=>?_,fun t=>?_⟩
    ·have hj2:=selS e.on;have hj3:=selS j;unfold sel at hj2 hj3;rw [hj2];split
     ·rfl
     ·rw [hj3] at hlj;split at hlj
      ·rename_i hij;subst hij;rw [ho] at hj;cases hj;exact hall e he hbb
      ·exact hI.closed j oj hj hlj e he hbb
    ·rw [Zcd okτ,h2 t];exact (upd Zcb _ t fun σ q hp hne=>q.s2 t hp hne).symm
    ·rw [(ZEc h1.nd okτ).2 t,h3 t];exact (upd Zpa _ t fun σ q hp hne=>q.l2 t hp hne).symm
   unfold wpOp;rw [ho];rcases hgg with ⟨hw,hg⟩ | ⟨hw,f',l',q1,q2⟩
   ·simp only [hw,if_true];exact .inl (ZCj rfl hg fun x w' ⟨f',l',q1,q2⟩=>nxt f' l' _ w' ⟨⟨rfl,q1.2⟩,trivial⟩ q2)
   ·simp only [hw];exact nxt f' l' _ w ⟨⟨rfl,q1.2⟩,trivial⟩ q2
end
end Go.Eng
namespace Go.Eng
open Go.RowKit
section
variable {N:Nat} {G:V→Value→Prop} {w0:Base} {v0:Zb}
def ZUd (N:Nat) (G:V→Value→Prop) (w0:Base) (v0:Zb) (n:Nat) (f:Fr) (l:Lo) (p:Fr→Lo→Nat→Prop) (S:Act→World→Prop):Prop :=
 ∀ f' l' n' a' w',p f' l' n'→n≤n'→Old n f l f' l'→Rel N G w0 v0 (· < n') f' l' a' w'→S a' w'
theorem ZUd.step {n n1:Nat} {f f1:Fr} {l l1:Lo} {p:Fr→Lo→Nat→Prop} {S:Act→World→Prop} (h:ZUd N G w0 v0 n f l p S) (hn:n≤n1) (ho:Old n f l f1 l1):ZUd N G w0 v0 n1 f1 l1 p S :=
 fun f' l' n' a' w' hp hn' ho' hr=>h f' l' n' a' w' hp (by omega) (ho.trans ho' hn) hr
theorem draw_ok {C:Cf} (hC:CfOK C) {α:Type} {r:α} {id:Nat} {ops:Array Oper} {f:Fr} {l:Lo} {n:Nat} {K:Fr→Lo→Nat→Option α} {Q:Exit→Act→World→Prop} {a:Act} {w:World} (hm:C.P.follows .mixedOrders=true) (hb:Z9d 0 ops.toList=true) (hds:∀ o ∈ ops.toList,∀ k,o.dst=some k→k<N)
  (h:(Zyf C ops.toList ops.toList f l n fun f l n ps=>match Z0d [] (ZWa ops.toList []) ps with
   | true=>K f l n
   | false=>none)=some r) (hr:Rel N G w0 v0 (· < n) f l a w) (hQ:ZUd N G w0 v0 n f l (fun f l n=>K f l n=some r) (Q .normal)):(Code.region id ops true).wp C.P Q a w:=by
 obtain ⟨Ts,h1,h2,h3,h4⟩:=Z6m h;split at h4
 ·rename_i hch;have hn:(l.map En.k).Nodup:=by obtain ⟨_,_,_,hr⟩:=hr;exact hr.nd
  refine wp_region_any hm ?_;have hz:∀ j,(Array.replicate ops.size false).getD j false=false:=fun j=>getD_replicate_false _ _;have hl:left (Array.replicate ops.size false)=ops.size:=by simp [left]
  refine Znu hC (Ts:=Ts) hb hds h1 hn h2 h3 hch (fun a' w' hr'=>hQ _ _ _ a' w' h4 (by omega) (ZXl (Nat.le_refl n) h1 h2 hn h3) hr') ops.size _ a w.drew hl ⟨by simp,fun j o _ hj=>?_,f,l,?_,fun t=>?_,fun t=>?_⟩
  ·rw [hz] at hj;cases hj
  ·obtain ⟨γ,v,ℓ,hr⟩:=hr.draw;exact ⟨γ,v,ℓ,hr.mono (fun _ h=>.inl h) fun _ h=>.inl h⟩
  ·exact (ZFe fun j _ _ hs=>by rw [show sel _ _=false from hz _] at hs;cases hs).symm
  ·exact (ZFe fun j _ _ hs=>by rw [show sel _ _=false from hz _] at hs;cases hs).symm
 ·cases h4
def Zwg (C:Cf) (cf:CallF):Prop:=∀ {α:Type} {g:FuncId} {ags:V} {l:Lo} {n:Nat} {K:V→Lo→Nat→Option α} {r:α},cf α g ags l n K=some r→∀ {N:Nat} {G:V→Value→Prop} {w0:Base} {v0:Zb} {a:Act} {w:World} {γ:Nat→Gh} {v:Zb} {ℓ:List Loc} {vals:List Value},
 RelX N G w0 v0 (· < n) (· < n) [] l a w γ v ℓ→RR v γ l true ags vals→ags.ok (· < n)→ZC C.P g∧Calls C.P g vals.toArray w fun e w'=>∃ y c l' n' γ' v' ℓ',e = .returned y∧K c l' n'=some r∧n≤n'∧(∀ f,Old n f l f l')∧RelX N G w0 v0 (· < n') (· < n') [] l' a w' γ' v' ℓ'∧RV v' γ' l' (ZJd c) y∧(ZJd c).ok (· < n')
theorem Zjp {U X:Nat→Prop} {f:Fr} {l:Lo} {a:Act} {w:World} {γ:Nat→Gh} {v:Zb} {ℓ:List Loc} (hr:RelX N G w0 v0 U X f l a w γ v ℓ):∀ {xs:List Operand} {c:V},ZYi f xs=some c→RR v γ l true c (xs.map a.eval)∧c.ok U
 | [],c,h=>by cases h;exact ⟨rfl,trivial⟩
 | x :: xs,c,h=>by
  simp only [ZYi] at h
  split at h
  ·cases h
  ·rename_i V1 c1 hnt h1 h2
   cases h
   obtain ⟨q1,q2⟩:=ZRm hr h1
   obtain ⟨q3,q4⟩:=Zjp hr h2
   obtain ⟨cs,hcs,hqe⟩:=Zzb q1 (fun c e=>hnt c (by rw [e]))
   exact ⟨⟨cs,_,by rw [List.map_cons,hqe],hcs,q3⟩,q2,q4⟩
  ·cases h
theorem Zop {v:Zb} {γ:Nat→Gh} {l:Lo} {U:Nat→Prop}:∀ {c d:V} {xs ys:List Value},RR v γ l true c xs→RR v γ l true d ys→c.ok U→d.ok U→RR v γ l true (appV c d) (xs++ys)∧(appV c d).ok U
 | .nl,d,xs,ys,h,k,_,kd=>by rw [show xs=[] from h];exact ⟨k,kd⟩
 | .cons a b,d,xs,ys,⟨cs,zs,e1,e2,e3⟩,k,kc,kd=>by
  subst e1
  obtain ⟨q1,q2⟩:=Zop (c:=b) e3 k kc.2 kd
  exact ⟨⟨cs,_,rfl,e2,q1⟩,kc.1,q2⟩
theorem inl1_ok {C:Cf} {cf:CallF} (hcf:Zwg C cf) {α:Type} {r:α} {o:Oper} {g:FuncId} {ags:V} {f0 f:Fr} {l:Lo} {n:Nat} {K:Fr→Lo→Nat→Option α} {a:Act} {w:World} {γ:Nat→Gh} {v:Zb} {ℓ:List Loc} (hi:ZUi C f0 o=some (g,ags)) (h:inl1 cf o g ags f l n K=some r)
  (hr0:RelX N G w0 v0 (· < n) (· < n) f0 l a w γ v ℓ) (hr:RelX N G w0 v0 (· < n) (· < n) f l a w γ v ℓ) (hd:∀ k,o.dst=some k→k<N):Zub C.P o a w fun x w'=>∃ f' l' n',K f' l' n'=some r∧n≤n'∧Old n f l f' l'∧Rel N G w0 v0 (· < n') f' l' (a.put o.dst x) w':=by
 obtain ⟨d,op,ty,pos,aft,gd⟩:=o;unfold ZUi at hi;split at hi
 ·rename_i c hop;have hop:op = .call c:=hop;subst hop;obtain ⟨callee,args,ats⟩:=c;split at hi
  ·rename_i x hx;have hx:callee = .value x:=hx;subst hx;split at hi
   ·rename_i g' cap hg;split at hi
    ·cases hi
    split at hi
    ·split at hi
     ·rename_i ags' has
      cases hi
      unfold inl1 at h
      cases d with
      | none=>cases h
      | some d =>
       obtain ⟨q1,q2⟩:=ZRm hr0 hg;obtain ⟨cs,⟨vs,q3,rfl⟩,q4⟩:=q1;have q4:a.eval x = .func (.func g) #[] vs.toArray:=q4;obtain ⟨q5,q6⟩:=Zjp hr0 has;obtain ⟨q7,q8⟩:=Zop q5 q3 q6 q2;have hlt:∀ k,k<n→k<n+1:=fun k h=>by omega
       let G':V→Value→Prop:=fun x y=>G x y ∨ ∃ t e,lkE f t=some e∧x=e.x∧y=a.tmps.getD t undef
       have hrG:RelX N G' w0 v0 (· < n+1) (· < n+1) [] l a w γ v ℓ:=by
        have hm:=hr.mono hlt hlt;refine ⟨hm.st,fun t e he=>(by cases he),hm.lr,hm.nd,fun t e he=>(by cases he),hm.ul,fun x y hg=>?_⟩;rcases hg with hg | ⟨t,e,h1,rfl,rfl⟩
        ·exact hm.gh x y hg
        ·exact ⟨hm.fr t e h1,(hm.uf t e h1).1⟩
       obtain ⟨hen,hcalls⟩:=hcf h hrG q7 (V.ok.mono hlt q8);obtain ⟨σ,hσ,hev⟩:=hr0.st.evs (x :: args.toList);have hfx:=hev x (by simp);rw [q4] at hfx;have hargs:args.toList.map (ev σ)=(args.toList.map a.eval).map some:=by
        rw [List.map_map];exact List.map_congr_left fun y hy=>hev y (by simp [hy])
       have hrun:=ZMv (d:=some d) (ty:=ty) (pos:=pos) (aft:=aft) (g:=gd) (ats:=ats) hσ _ _ hen hfx hargs;refine ZHc hrun (Calls.mono hcalls fun e w' ⟨y,c,l',n',γ',v',ℓ',e1,e2,e3,e4,e5,e6,e7⟩=>⟨y,e1,_,l',n',e2,by omega,((e4 f).mono (by omega)).trans (Old.put (Nat.le_refl n)) (Nat.le_refl n),γ',v',ℓ',?_⟩);have hr2:RelX N G w0 v0 (· < n') (· < n') f l' a w' γ' v' ℓ':=by
        refine ⟨e5.st,fun t e he=>(e5.gh _ _ (.inr ⟨t,e,he,rfl,rfl⟩)).1,e5.lr,e5.nd,fun t e he=>⟨(e5.gh _ _ (.inr ⟨t,e,he,rfl,rfl⟩)).2,?_⟩,e5.ul,fun x y hg=>e5.gh x y (.inl hg)⟩;have:=(hr.uf t e he).2;show e.st<n';have:e.st<n:=this;omega
       exact hr2.put (hd d rfl) e6 e7 (show n<n' by omega)
     ·cases hi
    ·cases hi
   ·cases hi
  ·cases hi
 ·cases hi
theorem inlG_ok {C:Cf} {cf:CallF} (hcf:Zwg C cf) {α:Type} {r:α} {ops:Array Oper} {o:Oper} {rest:List Oper} {g:FuncId} {ags:V} {f:Fr} {l:Lo} {n:Nat} {K:Fr→Lo→Nat→Option α} {Q:Exit→Act→World→Prop} {a:Act} {w:World} (hi:ZUi C f o=some (g,ags)) (h:inlG cf ops.toList o g ags f l n K=some r)
  (hr:Rel N G w0 v0 (· < n) f l a w) (hds:∀ o ∈ ops.toList,∀ k,o.dst=some k→k<N) (hd:∀ k,o.dst=some k→k<N) (hQ:ZUd N G w0 v0 n f l (fun f l n=>K f l n=some r) fun a w=>wpList C.P ops Q rest a w):wpList C.P ops Q (o :: rest) a w:=by
 obtain ⟨γ,v,ℓ,hr⟩:=hr;have yes:∀ {f1:Fr},Old n f l f1 l→RelX N G w0 v0 (· < n) (· < n) f1 l a w γ v ℓ→Region.wanted o (yielded ops a.tmps)=true→inl1 cf o g ags f1 l n K=some r→wpList C.P ops Q (o :: rest) a w:=fun ho hr1 hw h =>
  Zoc hw (Zul (inl1_ok hcf hi h hr hr1 hd) fun x w' ⟨f',l',n',e1,e2,e3,e4⟩=>hQ f' l' n' _ w' e1 e2 (ho.trans e3 (Nat.le_refl n)) e4)
 have no:∀ {f1:Fr},Old n f l f1 l→RelX N G w0 v0 (· < n) (· < n) f1 l a w γ v ℓ→Region.wanted o (yielded ops a.tmps)=false→Z1i o f1 l n K=some r→wpList C.P ops Q (o :: rest) a w:=fun ho hr1 hw h=>by
  have h1:=Zwi (Nat.le_refl n) Old.refl hr1.nd (ZXg h);obtain ⟨f',l',⟨q1,q2⟩,q3⟩:=ZTi (X:=(· < n+1)) (hr1.mono (fun _ h=>h) fun k h=>(show k<n+1 by have:k<n:=h;omega)) (fun k h=>(show k<n+1 by have:k<n:=h;omega)) (Nat.lt_succ_self n) hd h1;unfold wpList;rw [if_neg (by rw [hw];decide)];exact hQ f' l' _ _ w q1 (by omega) (ho.trans q2 (Nat.le_refl n)) q3
 unfold inlG at h;split at h
 ·rename_i hg;exact yes Old.refl hr (ZUb hg) h
 ·rename_i j want hg;split at h
  ·rename_i q hq;split at h
   ·rename_i t ht;have htN:t<N:=hds q (List.mem_of_getElem? hq) t ht;have hgd:(ops[j]?).bind (·.dst)=some t:=by rw [← Array.getElem?_toList,hq];exact ht
    obtain ⟨σ,hσ,hev⟩:=hr.st.evs [.tmp t];have hl:look σ t=some (a.tmps.getD t undef):=hev (.tmp t) (by simp);split at h
    ·rename_i ek s b he;have hk:ek=t:=(Zs he).2;subst hk;have h2:a.tmps.getD ek undef = .bool b:=ZKf (hr.fr ek _ he);rw [h2] at hl;have hdup:=RelX.dup hr he;have hold:=Old.dup (m:=n) (l:=l) he
     cases want <;> cases b
     ·exact yes hold hdup (ZGd hσ hg hgd hl htN) h
     ·exact no hold hdup (Zui hσ hg hgd hl htN) h
     ·exact no hold hdup (Zui hσ hg hgd hl htN) h
     ·exact yes hold hdup (ZGd hσ hg hgd hl htN) h
    ·rename_i ek s he;have hk:ek=t:=(Zs he).2;subst hk;obtain ⟨cs,h1,h2⟩:=hr.fr ek _ he;have h1:cs=[undef]:=h1;subst h1;have h2:a.tmps.getD ek undef=undef:=h2;rw [h2] at hl;exact no Old.refl hr (ZVd hσ hg hgd hl htN) h
    ·cases h
   ·cases h
  ·cases h
theorem ZEi {C:Cf} (hC:CfOK C) {cf:CallF} (hcf:Zwg C cf) {α:Type} {r:α} {ops:Array Oper} {Q:Exit→Act→World→Prop} (hds:∀ o ∈ ops.toList,∀ k,o.dst=some k→k<N) {K:Fr→Lo→Nat→Option α}:∀ {os:List Oper} {f:Fr} {l:Lo} {n:Nat} {a:Act} {w:World},iops C cf ops.toList os f l n K=some r→(∀ o ∈ os,o ∈ ops.toList) →
  Rel N G w0 v0 (· < n) f l a w→ZUd N G w0 v0 n f l (fun f l n=>K f l n=some r) (Q .normal)→wpList C.P ops Q os a w
 | [],f,l,n,a,w,h,_,hr,hQ=>hQ f l n a w h (Nat.le_refl n) Old.refl hr
 | o :: os,f,l,n,a,w,h,hos,hr,hQ=>by
  have hd:=hds o (hos o (by simp))
  simp only [iops] at h
  split at h
  ·obtain ⟨γ,v,ℓ,hr⟩:=hr
   have h1:=Zwi (Nat.le_refl n) Old.refl hr.nd (ZXg h)
   refine (ZNm hC (X:=(· < n+1)) (hr.mono (fun _ h=>h) fun k h=>(show k<n+1 by have:k<n:=h;omega)) (fun k h=>(show k<n+1 by have:k<n:=h;omega)) (Nat.lt_succ_self n) (Nat.lt_irrefl n) hds hd h1).list fun f' l' a' w' ⟨q1,q2⟩ q3=>?_
   exact ZEi hC hcf hds q1 (fun o ho=>hos o (by simp [ho])) q3 (hQ.step (by omega) q2)
  ·rename_i g ags hi
   refine inlG_ok hcf hi h hr hds hd fun f' l' n' a' w' q1 q2 q3 q4=>?_
   exact ZEi hC hcf hds q1 (fun o ho=>hos o (by simp [ho])) q4 (hQ.step q2 q3)
theorem ZNx {C:Cf} (hC:CfOK C) {cf:CallF} (hcf:Zwg C cf) {α:Type} {r:α} {id:Nat} {ops:Array Oper} {o:Oper} {f:Fr} {l:Lo} {n:Nat} {K:Fr→Lo→Nat→Option α} {Q:Exit→Act→World→Prop} {a:Act} {w:World} (ho:Zdk ops.toList=some o) (hm:C.P.follows .mixedOrders=true) (hb:Z9d 0 ops.toList=true) (hds:∀ o ∈ ops.toList,∀ k,o.dst=some k→k<N)
  (h:(Zyf C ops.toList ops.toList.dropLast f l n fun f l n ps=>match Z0d [] (ZWa ops.toList.dropLast []) ps with
   | true=>iops C cf ops.toList [o] f l n K
   | false=>none)=some r) (hr:Rel N G w0 v0 (· < n) f l a w) (hQ:ZUd N G w0 v0 n f l (fun f l n=>K f l n=some r) (Q .normal)):(Code.region id ops true).wp C.P Q a w:=by
 obtain ⟨Ts,h1,h2,h3,h4⟩:=Z6m h;obtain ⟨he,hg,hanc⟩:=ZJw ho;split at h4
 ·rename_i hch;have hn:(l.map En.k).Nodup:=by obtain ⟨_,_,_,hr⟩:=hr;exact hr.nd
  have hsz:ops.size=ops.toList.dropLast.length+1:=by
   have:=congrArg List.length he;simp at this ⊢;omega
  have hin:∀ o ∈ ops.toList.dropLast,o ∈ ops.toList:=fun o ho=>by rw [← he];exact List.mem_append_left _ ho
  have hol:o ∈ ops.toList:=by rw [← he];simp
  refine wp_region_any hm ?_;have hz:∀ j,(Array.replicate ops.size false).getD j false=false:=fun j=>getD_replicate_false _ _;have hl:left (Array.replicate ops.size false)=ops.toList.dropLast.length+1:=by rw [← hsz];simp [left]
  have key:=Zsv (G:=G) (w0:=w0) (v0:=v0) (Q:=Q) hC (Ts:=Ts) he hg hanc hb hds h1 hn h2 h3 hch (fun a' w' hr'=>?_) ops.toList.dropLast.length (Array.replicate ops.size false) a w.drew hl ?_ ⟨by simp,fun j o _ hj=>?_,f,l,?_,fun t=>?_,fun t=>?_⟩
  ·rw [← hsz] at key;exact key
  ·have hold:=ZXl (Nat.le_refl n) h1 h2 hn h3;exact ZEi hC hcf hds h4 (fun o' ho'=>by rcases List.mem_singleton.1 ho' with rfl;exact hol) hr' (hQ.step (by omega) hold)
  ·rw [Z1b (by rw [Array.size_replicate];omega)];exact hz _
  ·rw [hz] at hj;cases hj
  ·obtain ⟨γ,v,ℓ,hr⟩:=hr.draw;exact ⟨γ,v,ℓ,hr.mono (fun _ h=>.inl h) fun _ h=>.inl h⟩
  ·exact (ZFe fun j _ _ hs=>by rw [show sel _ _=false from hz _] at hs;cases hs).symm
  ·exact (ZFe fun j _ _ hs=>by rw [show sel _ _=false from hz _] at hs;cases hs).symm
 ·cases h4
theorem Z0i {K:Nat}:∀ {os:List Oper},Zig K os=true→∀ o ∈ os,∀ k,o.dst=some k→k<K
 | [],_,_,h,_,_=>by cases h
 | o :: os,h,o',ho',k,hk=>by
  simp only [Zig] at h
  rcases List.mem_cons.1 ho' with rfl | ho'
  ·rw [hk] at h
   simp only at h
   split at h
   ·rename_i hb;exact Nat.le_of_ble_eq_true hb
   ·cases h
  ·have h':Zig K os=true:=by
    split at h
    ·split at h
     ·exact h
     ·cases h
    ·exact h
   exact Z0i h' o' ho' k hk
end
end Go.Eng
namespace Go.Eng
open Go.RowKit
theorem Zxg {x:V} {c:CT} {cs:List Value} (h:x.isAgg=c.isAgg):x.val cs=c.vl cs:=by
 unfold V.val CT.vl;rw [h]
 cases c.isAgg <;> rfl
theorem Zym {v v':Zb} (h:v.le v'):∀ {c:CT} {m:Bool} {x:c.den} {cs:List Value} {es:List Loc},CR v c m x cs es→CR v' c m x cs es:=by
 intro c
 induction c with
 | dat t=>intro m x cs es k;cases m <;> first | exact ⟨Rep.mono _ h k.1,k.2⟩ | exact k
 | own ty t =>
  intro m x cs es k;cases m
  ·obtain ⟨ob,cap,d,h1,h2,h3⟩:=k;exact ⟨ob,cap,d,h1,ZP h h2,h3⟩
  ·exact k
 | mat ty ty2 t =>
  intro m x cs es k;cases m
  ·obtain ⟨ob,cap,rows,es2,h1,h2,h3⟩:=k;exact ⟨ob,cap,rows,es2,h1,ZUc h h2,h3⟩
  ·exact k
 | nl=>intro m x cs es k;cases m <;> exact k
 | one a ih =>
  intro m x cs es k;cases m
  ·exact ih (m:=false) k
  ·obtain ⟨c,h1,h2⟩:=k;exact ⟨c,h1,ih h2⟩
 | cons a b ia ib =>
  intro m x cs es k;cases m
  ·obtain ⟨c1,c2,e1,e2,h1,h2,h3,h4⟩:=k;exact ⟨c1,c2,e1,e2,h1,h2,ia h3,ib h4⟩
  ·obtain ⟨c1,c2,e1,e2,h1,h2,h3,h4⟩:=k;exact ⟨c1,c2,e1,e2,h1,h2,ia h3,ib h4⟩
 | agg c ih=>intro m x cs es k;cases m <;> first | exact ih (m:=false) k | exact k
 | box ty c ih =>
  intro m x cs es k;cases m
  ·obtain ⟨b,c1,e1,h1,h2,h3,h4⟩:=k;exact ⟨b,c1,e1,h1,ih h2,h3,h4⟩
  ·exact k
theorem Zzd {α:Type} {ex es r:List α}:(ex++(es++r)).Perm (es++(ex++r)):=by
 rw [← List.append_assoc,← List.append_assoc];exact List.Perm.append_right _ List.perm_append_comm
section
variable {N:Nat} {G:V→Value→Prop} {w0:Base} {v0:Zb} {U X:Nat→Prop} {f:Fr} {a:Act} {w:World} {n:Nat}
theorem ZTw {ρ:Type} {g:Nat} {t:T} {x:V} {k:t.den→Ev ρ} {l:Lo} {Post:ρ→Fr→Lo→Prop} {v:Zb} {γ:Nat→Gh} {m:Bool} {cs:List Value} (h:Zk n (conv g t x k) f l Post) (hr:RR v γ l m x cs):m=false:=by
 cases m with
 | false=>rfl
 | true =>
  cases g with
  | zero=>exact h.elim
  | succ g=>cases x <;> first | exact hr.elim | (simp only [conv] at h;exact h.elim)
theorem Z0e {ρ:Type} (hn:¬ U n) (hX:X n):∀ (g:Nat) {c:CT} {x:V} {K:c.den→Ev ρ} {l:Lo} {Post:ρ→Fr→Lo→Prop} {γ:Nat→Gh} {v:Zb} {ℓ ex:List Loc} {m:Bool} {cs:List Value},
  Zk n (Zca g c x K) f l Post→RelX N G w0 v0 U X f l a w γ v ℓ→St N w0 v0 [] (ex++ℓ) v a w→x.ok U→RR v γ l m x cs →
  ∃ z l' γ' v' ℓ' es,Zk n (K z) f l' Post∧RelX N G w0 v0 U X f l' a w γ' v' ℓ'∧St N w0 v0 [] (es++(ex++ℓ')) v' a w∧Le U v γ l v' γ' l'∧CR v' c m z cs es∧x.isAgg=c.isAgg
 | 0,_,_,_,_,_,_,_,_,_,_,_,h,_,_,_,_=>h.elim
 | g+1,c,x,K,l,Post,γ,v,ℓ,ex,m,cs,h,hr,hex,hk,hx=>by
  obtain ⟨E,hE,_⟩:=hr.lr
  have rfl':Le U v γ l v γ l:=Le.refl hE (Zb.le_refl _)
  cases c with
  | dat t =>
   simp only [Zca] at h
   have hm:=ZTw h hx
   subst hm
   have hag:=ZFf FU h
   obtain ⟨y,l1,γ1,v1,ℓ1,k1,k2,k3,k4,k5⟩:=Z1a hn hX FU h hr hex hk
   exact ⟨y,l1,γ1,v1,ℓ1,[],k1,k2,k3,k4,⟨k5 _ hx,rfl⟩,hag⟩
  | own ty t =>
   cases x with
   | own u =>
    cases m with
    | true=>exact hx.elim
    | false =>
    simp only [Zca] at h
    obtain ⟨e,he,h⟩:=h
    obtain ⟨kk,st,L⟩:=e
    have hkk:kk=u:=(Zs he).2
    subst hkk
    obtain ⟨y,rfl,_,hy⟩:=hx
    have hy:=hy _ he
    obtain ⟨es,E',h1,_,_,h3,h4⟩:=hr.del he
    cases L with
    | own ty' t' xs fz =>
     cases fz with
     | true=>exact h.elim
     | false =>
      simp only at h
      split at h
      ·rename_i ys hty hcast
       have hty:=Nat.eq_of_beq_eq_true hty
       subst hty
       obtain ⟨c3,c4⟩:=ZZ hcast
       cases c3;cases c4
       obtain ⟨ob,cap,d,g1,g2,rfl⟩:=h1
       have g1:γ kk = .own ob cap:=g1
       obtain ⟨ob',cap',g3,g4⟩:=hy
       rw [g1] at g3;cases g3
       exact ⟨_,_,_,_,_,_,h,h4,hex.perm ((List.Perm.append_left ex h3).trans Zzd),Le.era hr kk,⟨ob,cap,d,by rw [g4],g2,rfl⟩,rfl⟩
      ·exact h.elim
    | box _ _=>exact h.elim
    | mid _ _ _ _ _ _=>exact h.elim
    | mat _ _ _ _ _=>exact h.elim
   | nilS =>
    cases m with
    | true=>exact hx.elim
    | false =>
    simp only [Zca] at h
    have hx:cs=[.slice none 0 0]:=hx
    subst hx
    exact ⟨_,l,γ,v,ℓ,[.own none ty t.n 0 0 []],h,hr,hex.nilLoc ty t.n,rfl',⟨none,0,[],rfl,rfl,rfl⟩,rfl⟩
   | _=>simp only [Zca] at h;exact h.elim
  | mat ty ty2 t =>
   cases x with
   | own u =>
    cases m with
    | true=>exact hx.elim
    | false =>
    simp only [Zca] at h
    obtain ⟨e,he,h⟩:=h
    obtain ⟨kk,st,L⟩:=e
    have hkk:kk=u:=(Zs he).2
    subst hkk
    obtain ⟨y,rfl,_,hy⟩:=hx
    have hy:=hy _ he
    obtain ⟨es,E',h1,_,_,h3,h4⟩:=hr.del he
    cases L with
    | mat ty' ty2' t' mm hv =>
     simp only at h
     split at h
     ·rename_i m' hty hty2 hcast
      have hty:=Nat.eq_of_beq_eq_true hty
      have hty2:=Nat.eq_of_beq_eq_true hty2
      subst hty hty2
      obtain ⟨c3,c4⟩:=ZZ hcast
      cases c3;cases c4
      obtain ⟨ob,cap,rows,es2,g1,g2,rfl⟩:=h1
      have g1:γ kk = .mat ob cap rows:=g1
      obtain ⟨ob',cap',rows',g3,g4⟩:=hy
      rw [g1] at g3;cases g3
      exact ⟨_,_,_,_,_,_,h,h4,hex.perm ((List.Perm.append_left ex h3).trans Zzd),Le.era hr kk,⟨ob,cap,rows,es2,by rw [g4],g2,rfl⟩,rfl⟩
     ·exact h.elim
    | box _ _=>exact h.elim
    | mid _ _ _ _ _ _=>exact h.elim
    | own _ _ _ _=>exact h.elim
   | nilS =>
    cases m with
    | true=>exact hx.elim
    | false =>
    simp only [Zca] at h
    have hx:cs=[.slice none 0 0]:=hx
    subst hx
    exact ⟨_,l,γ,v,ℓ,[.own none ty 1 0 0 []],h,hr,hex.nilLoc ty 1,rfl',⟨none,0,[],[],rfl,rfl,rfl⟩,rfl⟩
   | _=>simp only [Zca] at h;exact h.elim
  | nl =>
   cases x with
   | nl =>
    simp only [Zca] at h
    have hx:cs=[]:=by cases m <;> exact hx
    exact ⟨_,l,γ,v,ℓ,[],h,hr,hex,rfl',(by cases m <;> exact ⟨hx,rfl⟩),rfl⟩
   | _=>simp only [Zca] at h;exact h.elim
  | one c =>
   cases x with
   | cons x1 x2 =>
    cases x2 with
    | nl =>
     simp only [Zca] at h
     cases m with
     | false =>
      obtain ⟨c1,c2,rfl,h1,h2⟩:=hx
      have h2:c2=[]:=h2
      subst h2
      obtain ⟨z,l1,γ1,v1,ℓ1,es,k1,k2,k3,k4,k5,k6⟩:=Z0e hn hX g h hr hex hk.1 h1
      exact ⟨z,l1,γ1,v1,ℓ1,es,k1,k2,k3,k4,(by rw [List.append_nil];exact k5),rfl⟩
     | true =>
      obtain ⟨c1,xs,rfl,h1,h2⟩:=hx
      have h2:xs=[]:=h2
      subst h2
      obtain ⟨z,l1,γ1,v1,ℓ1,es,k1,k2,k3,k4,k5,k6⟩:=Z0e hn hX g h hr hex hk.1 h1
      exact ⟨z,l1,γ1,v1,ℓ1,es,k1,k2,k3,k4,⟨c1,(by rw [Zxg k6]),k5⟩,rfl⟩
    | _=>simp only [Zca] at h;exact h.elim
   | _=>simp only [Zca] at h;exact h.elim
  | cons c d =>
   cases x with
   | cons x1 x2 =>
    simp only [Zca] at h
    have step:∀ {c1:List Value} {m2:Bool} {c2:List Value},RR v γ l false x1 c1→RR v γ l m2 x2 c2→∃ z l' γ' v' ℓ' e1 e2,Zk n (K z) f l' Post∧RelX N G w0 v0 U X f l' a w γ' v' ℓ'∧St N w0 v0 [] ((e1++e2)++(ex++ℓ')) v' a w∧Le U v γ l v' γ' l'∧CR v' c false z.1 c1 e1∧CR v' d m2 z.2 c2 e2∧x1.isAgg=c.isAgg:=by
     intro c1 m2 c2 h1 h2;obtain ⟨z1,l1,γ1,v1,ℓ1,e1,k1,k2,k3,k4,k5,k6⟩:=Z0e hn hX g h hr hex hk.1 h1;obtain ⟨z2,l2,γ2,v2,ℓ2,e2,q1,q2,q3,q4,q5,q6⟩:=Z0e hn hX g (ex:=e1++ex) k1 k2 (by rw [List.append_assoc];exact k3) hk.2 (Zqb k4 hk.2 h2);refine ⟨(z1,z2),l2,γ2,v2,ℓ2,e1,e2,q1,q2,q3.perm ?_,k4.trans q4,Zym q4.v k5,q5,k6⟩;rw [List.append_assoc,List.append_assoc];exact Zzd
    cases m with
    | false =>
     obtain ⟨c1,c2,rfl,h1,h2⟩:=hx;obtain ⟨z,l1,γ1,v1,ℓ1,e1,e2,k1,k2,k3,k4,k5,k6,k7⟩:=step h1 h2;exact ⟨z,l1,γ1,v1,ℓ1,_,k1,k2,k3,k4,⟨c1,c2,e1,e2,rfl,rfl,k5,k6⟩,rfl⟩
    | true =>
     obtain ⟨c1,xs,rfl,h1,h2⟩:=hx;obtain ⟨z,l1,γ1,v1,ℓ1,e1,e2,k1,k2,k3,k4,k5,k6,k7⟩:=step h1 h2;exact ⟨z,l1,γ1,v1,ℓ1,_,k1,k2,k3,k4,⟨c1,xs,e1,e2,by rw [Zxg k7],rfl,k5,k6⟩,rfl⟩
   | _=>simp only [Zca] at h;exact h.elim
  | agg c =>
   cases x with
   | agg x1 =>
    cases m with
    | true=>exact hx.elim
    | false =>
    simp only [Zca] at h;obtain ⟨z,l1,γ1,v1,ℓ1,es,k1,k2,k3,k4,k5,k6⟩:=Z0e hn hX g (x:=x1) (m:=false) h hr hex hk hx;exact ⟨z,l1,γ1,v1,ℓ1,es,k1,k2,k3,k4,k5,rfl⟩
   | _=>simp only [Zca] at h;exact h.elim
  | box ty c =>
   cases x with
   | ptr u off =>
    cases off with
    | succ k=>simp only [Zca] at h;exact h.elim
    | zero =>
    cases m with
    | true=>exact hx.elim
    | false =>
    simp only [Zca] at h;obtain ⟨e,he,h⟩:=h;obtain ⟨kk,st,L⟩:=e;obtain ⟨hm,hkk⟩:=Zs he;have hkk:kk=u:=hkk;subst hkk;obtain ⟨y,rfl,_,hy⟩:=hx;have hy:=hy _ he;obtain ⟨es,E',h1,_,_,h3,h4⟩:=hr.del he
    cases L with
    | box ty' x1 =>
     simp only at h;split at h
     ·rename_i hty;have hty:=Nat.eq_of_beq_eq_true hty;subst hty;obtain ⟨b,c1,g1,g2,g3,rfl⟩:=h1;have g1:γ kk = .box b:=g1;obtain ⟨b',g4,g5⟩:=hy;rw [g1] at g4;cases g4;have hk1:x1.ok U:=(hr.ul _ hm).2.2;obtain ⟨z,l1,γ1,v1,ℓ1,e1,k1,k2,k3,k4,k5,k6⟩:=Z0e hn hX g (ex:=.box b ty c1 :: ex) h h4 (hex.perm ((List.Perm.append_left ex h3).trans Zzd)) hk1 (Zqb (Le.era hr kk) hk1 g2);refine ⟨z,l1,γ1,v1,ℓ1,.box b ty c1 :: e1,k1,k2,k3.perm ?_,(Le.era hr kk).trans k4,⟨b,c1,e1,by rw [g5],k5,g3,rfl⟩,rfl⟩;exact List.perm_middle
     ·exact h.elim
    | own _ _ _ _=>exact h.elim
    | mid _ _ _ _ _ _=>exact h.elim
    | mat _ _ _ _ _=>exact h.elim
   | _=>simp only [Zca] at h;exact h.elim
theorem Z1t {ρ:Type} {g:Nat} {c:CT} {q:V} {K:c.den→Ev ρ} {l:Lo} {Post:ρ→Fr→Lo→Prop} (h:Zk n (Zca g c (.tup q) K) f l Post):False:=by
 cases g with
 | zero=>exact h
 | succ g =>
  cases c with
  | dat t =>
   simp only [Zca] at h;have:∀ (g:Nat),Zk n (conv g t (.tup q) K) f l Post→False:=fun g h=>by cases g <;> exact h
   exact this _ h
  | _=>simp only [Zca] at h;exact h
end
theorem F2.append {α β:Type} {R:α→β→Prop}:∀ {l l':List α} {m m':List β},F2 R l m→F2 R l' m'→F2 R (l++l') (m++m')
 | [],_,[],_,_,k=>k
 | _ :: _,_,_ :: _,_,h,k=>⟨h.1,F2.append h.2 k⟩
 | [],_,_ :: _,_,h,_=>h.elim
 | _ :: _,_,[],_,h,_=>h.elim
theorem ZQl {la lb:Lo} {γa γb:Nat→Gh} {γ:Nat→Gh} {l:Lo} (h:∀ e ∈ la++lb,γ e.k=(if e.k ∈ la.map En.k then γa e.k else γb e.k)∧lkE l e.k=some e):∀ e ∈ la,γ e.k=γa e.k∧lkE l e.k=some e:=fun e he=>by
 obtain ⟨h1,h2⟩:=h e (List.mem_append_left _ he)
 rw [if_pos (List.mem_map.2 ⟨e,he,rfl⟩)] at h1
 exact ⟨h1,h2⟩
theorem Zml {la lb:Lo} {γa γb:Nat→Gh} {γ:Nat→Gh} {l:Lo} (hd:∀ e ∈ lb,e.k ∉ la.map En.k) (h:∀ e ∈ la++lb,γ e.k=(if e.k ∈ la.map En.k then γa e.k else γb e.k)∧lkE l e.k=some e):∀ e ∈ lb,γ e.k=γb e.k∧lkE l e.k=some e:=fun e he=>by
 obtain ⟨h1,h2⟩:=h e (List.mem_append_right _ he)
 rw [if_neg (hd e he)] at h1
 exact ⟨h1,h2⟩
theorem Zuk {la lb:Lo} (ha:(la.map En.k).Nodup) (hb:(lb.map En.k).Nodup) (hd:∀ e ∈ lb,e.k ∉ la.map En.k):((la++lb).map En.k).Nodup:=by
 rw [List.map_append];refine List.nodup_append.2 ⟨ha,hb,fun x hx y hy e=>?_⟩;subst e;obtain ⟨e,he,rfl⟩:=List.mem_map.1 hy;exact hd e he hx
theorem ZYn {v:Zb}:∀ (c:CT) {m:Bool} {z:c.den} {cs:List Value} {es:List Loc} (n:Nat) {x:V} {l2:Lo} {n2:Nat},CR v c m z cs es→Zj c z n=(x,l2,n2) →
  n≤n2∧(∀ e ∈ l2,n≤e.k∧e.k<n2∧n≤e.st∧e.st<n2∧e.x.ok (· < n2) (· < n2))∧(l2.map En.k).Nodup∧x.ok (· < n2)∧x.isAgg=c.isAgg ∧
  ∃ γ0:Nat→Gh,∀ (γ:Nat→Gh) (l:Lo),(∀ e ∈ l2,γ e.k=γ0 e.k∧lkE l e.k=some e)→RR v γ l m x cs∧∃ E,F2 (ZAa v γ l) l2 E∧es.Perm E.flatten:=by
 intro c
 induction c with
 | dat t =>
  intro m z cs es n x l2 n2 h hi
  cases m with
  | true=>exact h.elim
  | false =>
  cases hi
  obtain ⟨h1,rfl⟩:=h;exact ⟨Nat.le_refl _,fun e he=>(by cases he),List.nodup_nil,trivial,rfl,fun _=>.box 0,fun γ l _=>⟨h1,[],trivial,List.Perm.refl _⟩⟩
 | own ty t =>
  intro m z cs es n x l2 n2 h hi
  cases m with
  | true=>exact h.elim
  | false =>
  cases hi
  obtain ⟨ob,cap,d,rfl,h2,rfl⟩:=h;refine ⟨Nat.le_succ _,fun e he=>?_,?_,Nat.lt_succ_self n,rfl,fun _=>.own ob cap,fun γ l hl=>?_⟩
  ·rcases List.mem_singleton.1 he with rfl;exact ⟨Nat.le_refl _,Nat.lt_succ_self _,Nat.le_refl _,Nat.lt_succ_self _,trivial⟩
  ·exact List.nodup_cons.2 ⟨by simp,List.nodup_nil⟩
  ·obtain ⟨hg,hlk⟩:=hl _ (List.mem_singleton.2 rfl);refine ⟨⟨_,rfl,rfl,fun e he=>?_⟩,[_],⟨⟨ob,cap,d,hg,h2,rfl⟩,trivial⟩,List.Perm.refl _⟩;rw [show lkE l n=_ from hlk] at he;cases he;exact ⟨ob,cap,hg,rfl⟩
 | mat ty ty2 t =>
  intro m z cs es n x l2 n2 h hi
  cases m with
  | true=>exact h.elim
  | false =>
  cases hi
  obtain ⟨ob,cap,rows,es2,rfl,h2,rfl⟩:=h;refine ⟨Nat.le_succ _,fun e he=>?_,?_,Nat.lt_succ_self n,rfl,fun _=>.mat ob cap rows,fun γ l hl=>?_⟩
  ·rcases List.mem_singleton.1 he with rfl;exact ⟨Nat.le_refl _,Nat.lt_succ_self _,Nat.le_refl _,Nat.lt_succ_self _,Nat.lt_succ_self n⟩
  ·exact List.nodup_cons.2 ⟨by simp,List.nodup_nil⟩
  ·obtain ⟨hg,hlk⟩:=hl _ (List.mem_singleton.2 rfl);refine ⟨⟨_,rfl,rfl,fun e he=>?_⟩,[_],⟨⟨ob,cap,rows,es2,hg,h2,rfl⟩,trivial⟩,by simp⟩;rw [show lkE l n=_ from hlk] at he;cases he;exact ⟨ob,cap,rows,hg,rfl⟩
 | nl =>
  intro m z cs es n x l2 n2 h hi
  cases hi
  have h:cs=[]∧es=[]:=by cases m <;> exact h
  obtain ⟨rfl,rfl⟩:=h;exact ⟨Nat.le_refl _,fun e he=>(by cases he),List.nodup_nil,trivial,rfl,fun _=>.box 0,fun γ l _=>⟨by cases m <;> rfl,[],trivial,List.Perm.refl _⟩⟩
 | one c ih =>
  intro m z cs es n x l2 n2 h hi;have hi:((.cons (Zj c z n).1 .nl:V),(Zj c z n).2.1,(Zj c z n).2.2)=(x,l2,n2):=hi
  cases hi
  cases m with
  | false =>
   obtain ⟨k1,k2,k3,k4,k5,γ0,k6⟩:=ih n (x:=(Zj c z n).1) (l2:=(Zj c z n).2.1) (n2:=(Zj c z n).2.2) h rfl;exact ⟨k1,k2,k3,⟨k4,trivial⟩,rfl,γ0,fun γ l hl=>⟨⟨cs,[],by simp,(k6 γ l hl).1,rfl⟩,(k6 γ l hl).2⟩⟩
  | true =>
   obtain ⟨c1,rfl,h⟩:=h;obtain ⟨k1,k2,k3,k4,k5,γ0,k6⟩:=ih n (x:=(Zj c z n).1) (l2:=(Zj c z n).2.1) (n2:=(Zj c z n).2.2) h rfl;exact ⟨k1,k2,k3,⟨k4,trivial⟩,rfl,γ0,fun γ l hl=>⟨⟨c1,[],by rw [Zxg k5],(k6 γ l hl).1,rfl⟩,(k6 γ l hl).2⟩⟩
 | cons c d ia ib =>
  intro m z cs es n x l2 n2 h hi;have hi:((.cons (Zj c z.1 n).1 (Zj d z.2 (Zj c z.1 n).2.2).1:V),(Zj c z.1 n).2.1++(Zj d z.2 (Zj c z.1 n).2.2).2.1,(Zj d z.2 (Zj c z.1 n).2.2).2.2)=(x,l2,n2):=hi
  cases hi
  have step:∀ {c1 c2:List Value} {m2:Bool} {e1 e2:List Loc},CR v c false z.1 c1 e1→CR v d m2 z.2 c2 e2→es=e1++e2→n≤(Zj d z.2 (Zj c z.1 n).2.2).2.2∧(∀ e ∈ (Zj c z.1 n).2.1++(Zj d z.2 (Zj c z.1 n).2.2).2.1,n≤e.k∧e.k<(Zj d z.2 (Zj c z.1 n).2.2).2.2∧n≤e.st∧e.st<(Zj d z.2 (Zj c z.1 n).2.2).2.2∧e.x.ok (· < (Zj d z.2 (Zj c z.1 n).2.2).2.2) (· < (Zj d z.2 (Zj c z.1 n).2.2).2.2))∧(((Zj c z.1 n).2.1++(Zj d z.2 (Zj c z.1 n).2.2).2.1).map En.k).Nodup∧((Zj c z.1 n).1.ok (· < (Zj d z.2 (Zj c z.1 n).2.2).2.2)∧(Zj d z.2 (Zj c z.1 n).2.2).1.ok (· < (Zj d z.2 (Zj c z.1 n).2.2).2.2))∧(Zj c z.1 n).1.isAgg=c.isAgg ∧
    ∃ γ0:Nat→Gh,∀ (γ:Nat→Gh) (l:Lo),(∀ e ∈ (Zj c z.1 n).2.1++(Zj d z.2 (Zj c z.1 n).2.2).2.1,γ e.k=γ0 e.k∧lkE l e.k=some e)→RR v γ l false (Zj c z.1 n).1 c1∧RR v γ l m2 (Zj d z.2 (Zj c z.1 n).2.2).1 c2∧∃ E,F2 (ZAa v γ l) ((Zj c z.1 n).2.1++(Zj d z.2 (Zj c z.1 n).2.2).2.1) E∧es.Perm E.flatten:=by
   intro c1 c2 m2 e1 e2 h1 h2 he;obtain ⟨k1,k2,k3,k4,k5,γa,k6⟩:=ia n (x:=(Zj c z.1 n).1) (l2:=(Zj c z.1 n).2.1) (n2:=(Zj c z.1 n).2.2) h1 rfl;obtain ⟨q1,q2,q3,q4,q5,γb,q6⟩:=ib (Zj c z.1 n).2.2 (x:=(Zj d z.2 (Zj c z.1 n).2.2).1) (l2:=(Zj d z.2 (Zj c z.1 n).2.2).2.1) (n2:=(Zj d z.2 (Zj c z.1 n).2.2).2.2) h2 rfl;have hd:∀ e ∈ (Zj d z.2 (Zj c z.1 n).2.2).2.1,e.k ∉ ((Zj c z.1 n).2.1).map En.k:=fun e he hm=>by
    obtain ⟨e',he',hk⟩:=List.mem_map.1 hm;have:=(k2 e' he').2.1;have:=(q2 e he).1;omega
   have up:∀ k,k<(Zj c z.1 n).2.2→k<(Zj d z.2 (Zj c z.1 n).2.2).2.2:=fun k hk=>Nat.lt_of_lt_of_le hk q1;refine ⟨Nat.le_trans k1 q1,fun e he=>?_,Zuk k3 q3 hd,⟨V.ok.mono up k4,q4⟩,k5,fun k=>if k ∈ ((Zj c z.1 n).2.1).map En.k then γa k else γb k,fun γ l hl=>⟨(k6 γ l (ZQl hl)).1,(q6 γ l (Zml hd hl)).1,?_⟩⟩
   ·rcases List.mem_append.1 he with he | he
    ·obtain ⟨r1,r2,r3,r4,r5⟩:=k2 e he;exact ⟨r1,up _ r2,r3,up _ r4,LV.ok.mono up up r5⟩
    ·obtain ⟨r1,r2,r3,r4,r5⟩:=q2 e he;exact ⟨Nat.le_trans k1 r1,r2,Nat.le_trans k1 r3,r4,r5⟩
   ·obtain ⟨E1,g1,g2⟩:=(k6 γ l (ZQl hl)).2;obtain ⟨E2,g3,g4⟩:=(q6 γ l (Zml hd hl)).2;exact ⟨E1++E2,g1.append g3,by rw [he,List.flatten_append];exact g2.append g4⟩
  cases m with
  | false =>
   obtain ⟨c1,c2,e1,e2,rfl,he,h1,h2⟩:=h;obtain ⟨k1,k2,k3,k4,k5,γ0,k6⟩:=step h1 h2 he;exact ⟨k1,k2,k3,k4,rfl,γ0,fun γ l hl=>⟨⟨c1,c2,rfl,(k6 γ l hl).1,(k6 γ l hl).2.1⟩,(k6 γ l hl).2.2⟩⟩
  | true =>
   obtain ⟨c1,c2,e1,e2,rfl,he,h1,h2⟩:=h;obtain ⟨k1,k2,k3,k4,k5,γ0,k6⟩:=step h1 h2 he;exact ⟨k1,k2,k3,k4,rfl,γ0,fun γ l hl=>⟨⟨c1,c2,by rw [Zxg k5],(k6 γ l hl).1,(k6 γ l hl).2.1⟩,(k6 γ l hl).2.2⟩⟩
 | agg c ih =>
  intro m z cs es n x l2 n2 h hi
  cases m with
  | true=>exact h.elim
  | false =>
  have hi:((.agg (Zj c z n).1:V),(Zj c z n).2.1,(Zj c z n).2.2)=(x,l2,n2):=hi
  cases hi
  obtain ⟨k1,k2,k3,k4,k5,γ0,k6⟩:=ih (m:=false) n (x:=(Zj c z n).1) (l2:=(Zj c z n).2.1) (n2:=(Zj c z n).2.2) h rfl;exact ⟨k1,k2,k3,k4,rfl,γ0,k6⟩
 | box ty c ih =>
  intro m z cs es n x l2 n2 h hi
  cases m with
  | true=>exact h.elim
  | false =>
  have hi:((.ptr n 0:V),(⟨n,n,.box ty (Zj c z (n+1)).1⟩ :: (Zj c z (n+1)).2.1:Lo),(Zj c z (n+1)).2.2)=(x,l2,n2):=hi
  cases hi
  obtain ⟨b,c1,e1,rfl,h2,h3,rfl⟩:=h;obtain ⟨k1,k2,k3,k4,k5,γ0,k6⟩:=ih (m:=false) (n+1) (x:=(Zj c z (n+1)).1) (l2:=(Zj c z (n+1)).2.1) (n2:=(Zj c z (n+1)).2.2) h2 rfl;have hd:∀ e ∈ (Zj c z (n+1)).2.1,e.k≠n:=fun e he hk=>by have:=(k2 e he).1;omega
  refine ⟨by omega,fun e he=>?_,List.nodup_cons.2 ⟨fun hm=>?_,k3⟩,(show n<_ by omega),rfl,fun k=>if k=n then .box b else γ0 k,fun γ l hl=>?_⟩
  ·rcases List.mem_cons.1 he with rfl | he
   ·exact ⟨Nat.le_refl _,(show n<_ by omega),Nat.le_refl _,(show n<_ by omega),k4⟩
   ·obtain ⟨r1,r2,r3,r4,r5⟩:=k2 e he;exact ⟨by omega,r2,by omega,r4,r5⟩
  ·obtain ⟨e,he,hk⟩:=List.mem_map.1 hm;exact hd e he hk
  ·obtain ⟨hg,hlk⟩:=hl _ List.mem_cons_self;have hg:γ n = .box b:=by rw [show γ n=_ from hg];exact if_pos rfl
   obtain ⟨q1,E,q2,q3⟩:=k6 γ l fun e he=>by
    obtain ⟨r1,r2⟩:=hl e (List.mem_cons_of_mem _ he);exact ⟨r1.trans (if_neg (hd e he)),r2⟩
   refine ⟨⟨_,rfl,rfl,fun e he=>?_⟩,[_] :: E,⟨⟨b,c1,hg,q1,h3,rfl⟩,q2⟩,by rw [List.flatten_cons];exact List.Perm.cons _ q3⟩;rw [show lkE l n=_ from hlk] at he;cases he;exact ⟨b,hg,rfl⟩
end Go.Eng
namespace Go.Eng
open Go.RowKit
theorem Z8u {v v':Zb} (h:v.le v') {c:CT} {z:c.den} {g:Gh} {es:List Loc} (k:CRL v c z g es):CRL v' c z g es:=by
 cases c with
 | own ty t=>obtain ⟨ob,cap,d,h1,h2,h3⟩:=k;exact ⟨ob,cap,d,h1,ZP h h2,h3⟩
 | mat ty ty2 t=>obtain ⟨ob,cap,rows,es2,h1,h2,h3⟩:=k;exact ⟨ob,cap,rows,es2,h1,ZUc h h2,h3⟩
 | box ty c=>obtain ⟨b,c1,e1,h1,h2,h3,h4⟩:=k;exact ⟨b,c1,e1,h1,Zym h h2,h3,h4⟩
 | agg c=>cases c with
  | mat ty ty2 t=>obtain ⟨ob,cap,rows,es2,h1,h2,h3⟩:=k;exact ⟨ob,cap,rows,es2,h1,ZUc h h2,h3⟩
  | _=>exact k.elim
 | _=>exact k.elim
def Z6f (p:Nat→Prop) (h:Nat):(c:CT)→c.den→LV→Prop
 | .own ty t,z,L=>L = .own ty t z false
 | .mat ty ty2 t,z,L=>∃ hv,p hv∧L = .mat ty ty2 t z hv
 | .box ty _,_,L=>∃ x,L = .box ty x
 | .agg (.mat ty ty2 t),z,L=>L = .mat ty ty2 t z h
 | _,_,_=>False
theorem ZLx {U:Nat→Prop} {γ1 γ2 γ3:Nat→Gh} {u s1 s2 s3:Nat} {x1 x2 x3:LV} (c1:CE U γ1 γ2 u s1 s2 x1 x2) (c2:CE U γ2 γ3 u s2 s3 x2 x3):CE U γ1 γ3 u s1 s3 x1 x3:=CE.tr c1 c2
theorem Zfn {U U':Nat→Prop} {γ γ1 γ2:Nat→Gh} {u s s':Nat} {x x':LV} (hU:∀ k,U k→U' k) (hg:γ2 u=γ1 u) (c:CE U' γ γ1 u s s' x x'):CE U γ γ2 u s s' x x':=by
  cases x <;> cases x' <;> simp only [CE] at c ⊢
  · rw [hg,c]
  · exact ⟨hg.trans c.1,c.2.1,c.2.2.1,fun h=>c.2.2.2 (hU _ h)⟩
  all_goals first
    | (obtain ⟨ob,cap,rows,a1,a2,a3⟩:=c;exact ⟨ob,cap,rows,a1,hg.trans a2,a3⟩)
    | (obtain ⟨a1,a2,⟨ob,cap,rows,rows',a3,a4,a5⟩,a6⟩:=c
       exact ⟨a1,a2,⟨ob,cap,rows,rows',a3,hg.trans a4,fun h=>a5 (hU _ h)⟩,fun h=>a6 (hU _ h)⟩)
theorem CE_head {U:Nat→Prop} {γ γ':Nat→Gh} {u s s' n0 hh:Nat} {c:CT} {z:c.den} {L L':LV} {v:Zb} {es:List Loc} (hU:∀ k,n0≤k→¬ U k) (hs:n0≤s') (h:Z6f (fun _=>True) hh c z L) (h':Z6f (n0≤·) hh c z L') (hg:γ' u=γ u) (hc:CRL v c z (γ u) es):CE U γ γ' u s s' L L':=by
 cases c with
 | own ty t=>subst h;subst h';exact ⟨hg,rfl,rfl,fun e=>absurd e (hU _ hs)⟩
 | mat ty ty2 t =>
  obtain ⟨hv,_,rfl⟩:=h;obtain ⟨hv',h2,rfl⟩:=h';obtain ⟨ob,cap,rows,es2,h3,h4,h5⟩:=hc;exact ⟨rfl,rfl,⟨ob,cap,rows,rows,h3,hg.trans h3,fun e=>absurd e (hU _ h2)⟩,fun e=>absurd e (hU _ hs)⟩
 | box ty c=>obtain ⟨x,rfl⟩:=h;obtain ⟨x',rfl⟩:=h';exact hg
 | agg c=>cases c with
  | mat ty ty2 t =>
   subst h;subst h';obtain ⟨ob,cap,rows,es2,h3,h4,h5⟩:=hc;exact ⟨rfl,rfl,⟨ob,cap,rows,rows,h3,hg.trans h3,fun _=>⟨rfl,rfl,rfl⟩⟩,fun e=>absurd e (hU _ hs)⟩
  | _=>exact h.elim
 | _=>exact h.elim
section
variable {N:Nat} {G:V→Value→Prop} {w0:Base} {v0:Zb} {U X:Nat→Prop} {f:Fr} {a:Act} {w:World} {n:Nat}
theorem ZGk {ρ:Type} (hn:¬ U n) (hX:X n) {hh:Nat} {c:CT} {u:Nat} (hu:U u) {K:c.den→Ev ρ} {l:Lo} {Post:ρ→Fr→Lo→Prop} {γ:Nat→Gh} {v:Zb} {ℓ ex:List Loc}
  (h:Zk n (ZTc hh c u K) f l Post) (hr:RelX N G w0 v0 U X f l a w γ v ℓ) (hex:St N w0 v0 [] (ex++ℓ) v a w) :
  ∃ z l' γ' v' ℓ' es e0,Zk n (K z) f l' Post∧RelX N G w0 v0 U X f l' a w γ' v' ℓ'∧St N w0 v0 [] (es++(ex++ℓ')) v' a w∧Le U v γ l v' γ' l'∧CRL v' c z (γ u) es∧lkE l u=some e0∧lkE l' u=none∧Z6f (fun _=>True) hh c z e0.x:=by
 cases c with
 | own ty t =>
  simp only [ZTc] at h;obtain ⟨e,he,h⟩:=h;obtain ⟨kk,st,L⟩:=e;have hkk:kk=u:=(Zs he).2;subst hkk;obtain ⟨es,E',h1,_,_,h3,h4⟩:=hr.del he
  cases L with
  | own ty' t' xs fz =>
   cases fz with
   | true=>exact h.elim
   | false =>
    simp only at h;split at h
    ·rename_i ys hty hcast;have hty:=Nat.eq_of_beq_eq_true hty;subst hty;obtain ⟨c3,c4⟩:=ZZ hcast
     cases c3;cases c4
     obtain ⟨ob,cap,d,g1,g2,rfl⟩:=h1;exact ⟨_,_,_,_,_,_,_,h,h4,hex.perm ((List.Perm.append_left ex h3).trans Zzd),Le.era hr kk,⟨ob,cap,d,g1,g2,rfl⟩,he,Zch (ZIb hr.nd).2,rfl⟩
    ·exact h.elim
  | box _ _=>exact h.elim
  | mid _ _ _ _ _ _=>exact h.elim
  | mat _ _ _ _ _=>exact h.elim
 | mat ty ty2 t =>
  simp only [ZTc] at h;obtain ⟨e,he,h⟩:=h;obtain ⟨kk,st,L⟩:=e;have hkk:kk=u:=(Zs he).2;subst hkk;obtain ⟨es,E',h1,_,_,h3,h4⟩:=hr.del he
  cases L with
  | mat ty' ty2' t' mm hv =>
   simp only at h;split at h
   ·rename_i m' hty hty2 hcast;have hty:=Nat.eq_of_beq_eq_true hty;have hty2:=Nat.eq_of_beq_eq_true hty2;subst hty hty2;obtain ⟨c3,c4⟩:=ZZ hcast
    cases c3;cases c4
    obtain ⟨ob,cap,rows,es2,g1,g2,rfl⟩:=h1;exact ⟨_,_,_,_,_,_,_,h,h4,hex.perm ((List.Perm.append_left ex h3).trans Zzd),Le.era hr kk,⟨ob,cap,rows,es2,g1,g2,rfl⟩,he,Zch (ZIb hr.nd).2,hv,trivial,rfl⟩
   ·exact h.elim
  | box _ _=>exact h.elim
  | mid _ _ _ _ _ _=>exact h.elim
  | own _ _ _ _=>exact h.elim
 | box ty c =>
  simp only [ZTc] at h;obtain ⟨e,he,h⟩:=h;obtain ⟨kk,st,L⟩:=e;obtain ⟨hm,hkk⟩:=Zs he;have hkk:kk=u:=hkk;subst hkk;obtain ⟨es,E',h1,_,_,h3,h4⟩:=hr.del he
  cases L with
  | box ty' x1 =>
   simp only at h;split at h
   ·rename_i hty;have hty:=Nat.eq_of_beq_eq_true hty;subst hty;obtain ⟨b,c1,g1,g2,g3,rfl⟩:=h1;have hk1:x1.ok U:=(hr.ul _ hm).2.2;obtain ⟨z,l1,γ1,v1,ℓ1,e1,k1,k2,k3,k4,k5,k6⟩:=Z0e hn hX FU (ex:=.box b ty c1 :: ex) h h4 (hex.perm ((List.Perm.append_left ex h3).trans Zzd)) hk1 (Zqb (Le.era hr kk) hk1 g2);refine ⟨z,l1,γ1,v1,ℓ1,.box b ty c1 :: e1,_,k1,k2,k3.perm ?_,(Le.era hr kk).trans k4,⟨b,c1,e1,g1,k5,g3,rfl⟩,he,?_,x1,rfl⟩
    ·exact List.perm_middle
    ·cases hx:lkE l1 kk with
     | none=>rfl
     | some e' =>
      obtain ⟨e,he2,_⟩:=k4.l kk e' hu hx;rw [Zch (ZIb hr.nd).2] at he2;cases he2
   ·exact h.elim
  | own _ _ _ _=>exact h.elim
  | mid _ _ _ _ _ _=>exact h.elim
  | mat _ _ _ _ _=>exact h.elim
 | agg c=>cases c with
  | mat ty ty2 t =>
   simp only [ZTc] at h;obtain ⟨e,he,h⟩:=h;obtain ⟨kk,st,L⟩:=e;have hkk:kk=u:=(Zs he).2;subst hkk;obtain ⟨es,E',h1,_,_,h3,h4⟩:=hr.del he
   cases L with
   | mat ty' ty2' t' mm hv =>
    simp only at h;split at h
    ·rename_i m' hty hty2 hcast hhv;have hty:=Nat.eq_of_beq_eq_true hty;have hty2:=Nat.eq_of_beq_eq_true hty2;have hhv:=Nat.eq_of_beq_eq_true hhv;subst hty hty2 hhv;obtain ⟨c3,c4⟩:=ZZ hcast
     cases c3;cases c4
     obtain ⟨ob,cap,rows,es2,g1,g2,rfl⟩:=h1;exact ⟨_,_,_,_,_,_,_,h,h4,hex.perm ((List.Perm.append_left ex h3).trans Zzd),Le.era hr kk,⟨ob,cap,rows,es2,g1,g2,rfl⟩,he,Zch (ZIb hr.nd).2,rfl⟩
    ·exact h.elim
   | box _ _=>exact h.elim
   | mid _ _ _ _ _ _=>exact h.elim
   | own _ _ _ _=>exact h.elim
  | _=>simp only [ZTc] at h;exact h.elim
 | _=>simp only [ZTc] at h;exact h.elim
end
theorem Zhi:∀ (g:Nat) {x z:V} {off n:Nat} {ag:Bool} {U:Nat→Prop},Zma g x off n ag=some z→x.ok U→z.ok U
 | 0,_,_,_,_,_,_,h,_=>by cases h
 | g+1,x,z,off,n,ag,U,h,hk=>by
  have whole:∀ {y:V},(match Nat.beq off 0,Nat.beq y.size n,eqB y.isAgg ag with
    | true,true,true=>some y
    | _,_,_=>match y with
     | .agg c=>Zma g c off n ag
     | .data t x=>match ZSb t x with
      | some c=>Zma g c off n ag
      | none=>none
     | _=>none)=some z→y.ok U→z.ok U:=by
   intro y hy hk;split at hy
   ·cases hy;exact hk
   ·split at hy
    ·exact Zhi g hy hk
    ·split at hy
     ·rename_i he;exact Zhi g hy (Ztr he)
     ·cases hy
    ·cases hy
  cases x with
  | nl=>simp only [Zma] at h;cases h
  | cons a b =>
   simp only [Zma] at h;split at h
   ·exact Zhi g h hk.1
   ·split at h
    ·exact Zhi g h hk.2
    ·cases h
  | data t x=>exact whole (y:=.data t x) h hk
  | agg c=>exact whole (y:=.agg c) h hk
  | nilS=>exact whole (y:=.nilS) h hk
  | own u=>exact whole (y:=.own u) h hk
  | row u i hv cv t r=>exact whole (y:=.row u i hv cv t r) h hk
  | ptr u o=>exact whole (y:=.ptr u o) h hk
  | el u i cv t x o=>exact whole (y:=.el u i cv t x o) h hk
  | rp u i hv cv t r=>exact whole (y:=.rp u i hv cv t r) h hk
  | rel u i j hv cv t r x o=>exact whole (y:=.rel u i j hv cv t r x o) h hk
  | vp t x o=>exact whole (y:=.vp t x o) h hk
  | tup c=>exact whole (y:=.tup c) h hk
  | fn f c=>exact whole (y:=.fn f c) h hk
  | ifc f c=>exact whole (y:=.ifc f c) h hk
  | undef=>exact whole (y:=.undef) h hk
structure H0 (G:V→Value→Prop) (n0:Nat) (f0:Fr) (l0:Lo):Prop where
 f:∀ t e,lkE f0 t=some e→e.x.ok (· < n0)∧e.st<n0
 l:∀ e ∈ l0,e.k<n0∧e.st<n0∧e.x.ok (· < n0) (· < n0)
 nd:(l0.map En.k).Nodup
 g:∀ x y,G x y→x.ok (· < n0)
theorem Rel.h0 {N:Nat} {G:V→Value→Prop} {w0:Base} {v0:Zb} {n:Nat} {f:Fr} {l:Lo} {a:Act} {w:World} (h:Rel N G w0 v0 (· < n) f l a w):H0 G n f l:=by
 obtain ⟨γ,v,ℓ,h⟩:=h;exact ⟨h.uf,h.ul,h.nd,fun x y hg=>(h.gh x y hg).2⟩
theorem hvOf_le {G:V→Value→Prop} {n0:Nat} {f0:Fr} {l0:Lo} (h0:H0 G n0 f0 l0) (u:Nat):ZJa l0 u≤n0:=by
 unfold ZJa;split
 ·rename_i he;exact Nat.le_of_lt (h0.l _ (Zs he).1).2.2
 ·exact Nat.zero_le _
theorem Zao {x:V} {u n:Nat} (h:idV x=some u) (hk:x.ok (· < n)):u<n:=by
 unfold idV at h;split at h
 ·cases h;exact hk
 ·cases h;exact hk
 ·cases h
theorem ZYk {G:V→Value→Prop} {n0:Nat} {f0:Fr} {l0:Lo} (h0:H0 G n0 f0 l0):∀ {p:Pl} {u:Nat},Zwc f0 l0 p=some u→u<n0
 | .sl s,u,h=>by
  simp only [Zwc] at h
  split at h
  ·rename_i e he;exact Zao h (h0.f _ _ he).1
  ·cases h
 | .fld p off,u,h=>by
  simp only [Zwc] at h
  split at h
  ·split at h
   ·rename_i he
    split at h
    ·rename_i hg
     have:=(h0.l _ (Zs he).1).2.2
     exact Zao h (Zhi FU hg this)
    ·cases h
   ·cases h
  ·cases h
def SRel (a:Act) (v:Zb) (t:Nat) (c:CT) (z:c.den) (es:List Loc):Prop:=∃ cs,a.tmps.getD t undef=c.vl cs∧CR v c false z cs es
def LRel (v:Zb) (γ:Nat→Gh) (l:Lo) (n0:Nat) (f0:Fr) (l0:Lo) (u:Nat) (p:Pl) (c:CT) (z:c.den) (es:List Loc):Prop :=
 Zwc f0 l0 p=some u∧∃ g e0,lkE l u=some e0∧CRL v c z g es∧∀ (γ':Nat→Gh) (st':Nat) (L':LV),γ' u=g→n0≤st'→Z6f (n0≤·) (ZJa l0 u) c z L'→CE (· < n0) γ γ' u e0.st st' e0.x L'
def VRel (a:Act) (v:Zb) (γ:Nat→Gh) (l:Lo) (n0:Nat) (f0:Fr) (l0:Lo):(vs:List Vr)→(ctL (vs.map Vr.ct)).den→List Loc→List Nat→Prop
 | [],_,es,us=>es=[]∧us=[]
 | [.s t c],z,es,us=>us=[]∧SRel a v t c z es
 | [.l p c],z,es,us=>∃ u,us=[u]∧LRel v γ l n0 f0 l0 u p c z es
 | .s t c :: w :: r,z,es,us=>∃ e1 e2,es=e1++e2∧SRel a v t c z.1 e1∧VRel a v γ l n0 f0 l0 (w :: r) z.2 e2 us
 | .l p c :: w :: r,z,es,us=>∃ e1 e2 u us',es=e1++e2∧us=u :: us'∧LRel v γ l n0 f0 l0 u p c z.1 e1∧VRel a v γ l n0 f0 l0 (w :: r) z.2 e2 us'
theorem Zhx {a:Act} {v v':Zb} (h:v.le v') {t:Nat} {c:CT} {z:c.den} {es:List Loc} (k:SRel a v t c z es):SRel a v' t c z es:=by
 obtain ⟨cs,h1,h2⟩:=k;exact ⟨cs,h1,Zym h h2⟩
theorem Zdu {v v':Zb} (h:v.le v') {γ:Nat→Gh} {l:Lo} {n0:Nat} {f0:Fr} {l0:Lo} {u:Nat} {p:Pl} {c:CT} {z:c.den} {es:List Loc} (k:LRel v γ l n0 f0 l0 u p c z es):LRel v' γ l n0 f0 l0 u p c z es:=by
 obtain ⟨h1,g,e0,h2,h3,h4⟩:=k;exact ⟨h1,g,e0,h2,Z8u h h3,h4⟩
section
variable {N:Nat} {G:V→Value→Prop} {w0:Base} {v0:Zb} {f:Fr} {a:Act} {w:World} {n:Nat}
theorem Zdq {ρ:Type} {t:Nat} {c:CT} {K:c.den→Ev ρ} {l:Lo} {Post:ρ→Fr→Lo→Prop} {γ:Nat→Gh} {v:Zb} {ℓ ex:List Loc}
  (h:Zk n (.rdS t fun v=>Zca FU c v K) f l Post) (hr:RelX N G w0 v0 (· < n) (· < n+1) f l a w γ v ℓ) (hex:St N w0 v0 [] (ex++ℓ) v a w) :
  ∃ z l' γ' v' ℓ' es,Zk n (K z) f l' Post∧RelX N G w0 v0 (· < n) (· < n+1) f l' a w γ' v' ℓ'∧St N w0 v0 [] (es++(ex++ℓ')) v' a w∧Le (· < n) v γ l v' γ' l'∧SRel a v' t c z es:=by
 obtain ⟨e,he,h⟩:=h;have hrv:=hr.fr t e he;obtain ⟨cs,hcs,hy⟩:=Zzb hrv (fun q hq=>by rw [hq] at h;exact Z1t h);obtain ⟨z,l',γ',v',ℓ',es,k1,k2,k3,k4,k5,k6⟩:=Z0e (U:=(· < n)) (X:=(· < n+1)) (Nat.lt_irrefl n) (Nat.lt_succ_self n) FU h hr hex (hr.uf t e he).1 hcs;exact ⟨z,l',γ',v',ℓ',es,k1,k2,k3,k4,cs,by rw [hy,Zxg k6],k5⟩
theorem Z3r {ρ:Type} {u:Nat} {p:Pl} {c:CT} {K:c.den→Ev ρ} {l lE f0l:Lo} {f0:Fr} {n0:Nat} {Post:ρ→Fr→Lo→Prop} {γ γE:Nat→Gh} {v vE:Zb} {ℓ ex:List Loc} (h0:H0 G n0 f0 f0l) (hn0:n0≤n) (hid:Zwc f0 f0l p=some u)
  (h:Zk n (ZTc (ZJa f0l u) c u K) f l Post) (hr:RelX N G w0 v0 (· < n) (· < n+1) f l a w γ v ℓ) (hex:St N w0 v0 [] (ex++ℓ) v a w) (hE:Le (· < n) vE γE lE v γ l) :
  ∃ z l' γ' v' ℓ' es,Zk n (K z) f l' Post∧RelX N G w0 v0 (· < n) (· < n+1) f l' a w γ' v' ℓ'∧St N w0 v0 [] (es++(ex++ℓ')) v' a w∧Le (· < n) v γ l v' γ' l'∧LRel v' γE lE n0 f0 f0l u p c z es∧(∃ e,lkE l u=some e)∧lkE l' u=none:=by
 have hu:u<n:=Nat.lt_of_lt_of_le (ZYk h0 hid) hn0;obtain ⟨z,l',γ',v',ℓ',es,e0,k1,k2,k3,k4,k5,k6,k7,k8⟩:=ZGk (U:=(· < n)) (X:=(· < n+1)) (Nat.lt_irrefl n) (Nat.lt_succ_self n) hu h hr hex;obtain ⟨eE,q1,q2⟩:=hE.l u e0 hu k6;refine ⟨z,l',γ',v',ℓ',es,k1,k2,k3,k4,⟨hid,γ u,eE,q1,k5,fun γ2 st' L' hg hs hh=>?_⟩,⟨e0,k6⟩,k7⟩;exact ZLx (Zfn (fun k hk=>Nat.lt_of_lt_of_le hk hn0) rfl q2) (CE_head (n0:=n0) (fun k hk h=>by omega) hs k8 hh hg k5)
theorem Z0m {ρ:Type} {f0:Fr} {l0 lE:Lo} {n0:Nat} {γE:Nat→Gh} {vE:Zb} (h0:H0 G n0 f0 l0) (hn0:n0≤n):∀ {vs:List Vr} {K:(ctL (vs.map Vr.ct)).den→Ev ρ} {l:Lo} {Post:ρ→Fr→Lo→Prop} {γ:Nat→Gh} {v:Zb} {ℓ ex:List Loc},
  Zk n (ZGe f0 l0 vs K) f l Post→RelX N G w0 v0 (· < n) (· < n+1) f l a w γ v ℓ→St N w0 v0 [] (ex++ℓ) v a w→Le (· < n) vE γE lE v γ l →
  ∃ z l' γ' v' ℓ' es us,Zk n (K z) f l' Post∧RelX N G w0 v0 (· < n) (· < n+1) f l' a w γ' v' ℓ'∧St N w0 v0 [] (es++(ex++ℓ')) v' a w∧Le (· < n) v γ l v' γ' l'∧VRel a v' γE lE n0 f0 l0 vs z es us∧us.Nodup∧∀ u ∈ us,u<n0∧(∃ e,lkE l u=some e)∧u ∈ Z6c f0 l0 vs
 | [],K,l,Post,γ,v,ℓ,ex,h,hr,hex,hE=>by
  obtain ⟨E,hE',_⟩:=hr.lr
  exact ⟨(),l,γ,v,ℓ,[],[],h,hr,hex,Le.refl hE' (Zb.le_refl _),⟨rfl,rfl⟩,List.nodup_nil,fun u hu=>by cases hu⟩
 | [.s t c],K,l,Post,γ,v,ℓ,ex,h,hr,hex,hE=>by
  obtain ⟨z,l',γ',v',ℓ',es,k1,k2,k3,k4,k5⟩:=Zdq h hr hex
  exact ⟨z,l',γ',v',ℓ',es,[],k1,k2,k3,k4,⟨rfl,k5⟩,List.nodup_nil,fun u hu=>by cases hu⟩
 | [.l p c],K,l,Post,γ,v,ℓ,ex,h,hr,hex,hE=>by
  simp only [ZGe] at h
  split at h
  ·rename_i u hid
   obtain ⟨z,l',γ',v',ℓ',es,k1,k2,k3,k4,k5,k6,k7⟩:=Z3r h0 hn0 hid h hr hex hE
   refine ⟨z,l',γ',v',ℓ',es,[u],k1,k2,k3,k4,⟨u,rfl,k5⟩,List.nodup_cons.2 ⟨by simp,List.nodup_nil⟩,fun u' hu=>?_⟩
   rcases List.mem_singleton.1 hu with rfl
   exact ⟨ZYk h0 hid,k6,by simp only [Z6c,hid];simp⟩
  ·exact h.elim
 | .s t c :: w :: r,K,l,Post,γ,v,ℓ,ex,h,hr,hex,hE=>by
  obtain ⟨z1,l1,γ1,v1,ℓ1,e1,k1,k2,k3,k4,k5⟩:=Zdq (K:=fun x=>ZGe f0 l0 (w :: r) fun y=>K (x,y)) h hr hex
  obtain ⟨z2,l2,γ2,v2,ℓ2,e2,us,q1,q2,q3,q4,q5,q6,q7⟩:=Z0m h0 hn0 (ex:=e1++ex) k1 k2 (by rw [List.append_assoc];exact k3) (hE.trans k4)
  refine ⟨(z1,z2),l2,γ2,v2,ℓ2,e1++e2,us,q1,q2,q3.perm ?_,k4.trans q4,⟨e1,e2,rfl,Zhx q4.v k5,q5⟩,q6,fun u hu=>?_⟩
  ·rw [List.append_assoc,List.append_assoc];exact Zzd
  ·obtain ⟨g1,⟨e,g2⟩,g3⟩:=q7 u hu
   obtain ⟨e',g4,_⟩:=k4.l u e (show u<_ by omega) g2
   refine ⟨g1,⟨e',g4⟩,?_⟩
   simp only [Z6c]
   split
   ·exact List.mem_cons_of_mem _ g3
   ·exact g3
 | .l p c :: w :: r,K,l,Post,γ,v,ℓ,ex,h,hr,hex,hE=>by
  simp only [ZGe] at h
  split at h
  ·rename_i u hid
   obtain ⟨z1,l1,γ1,v1,ℓ1,e1,k1,k2,k3,k4,k5,k6,k7⟩:=Z3r (K:=fun x=>ZGe f0 l0 (w :: r) fun y=>K (x,y)) h0 hn0 hid h hr hex hE
   obtain ⟨z2,l2,γ2,v2,ℓ2,e2,us,q1,q2,q3,q4,q5,q6,q7⟩:=Z0m h0 hn0 (ex:=e1++ex) k1 k2 (by rw [List.append_assoc];exact k3) (hE.trans k4)
   refine ⟨(z1,z2),l2,γ2,v2,ℓ2,e1++e2,u :: us,q1,q2,q3.perm ?_,k4.trans q4,⟨e1,e2,u,us,rfl,rfl,Zdu q4.v k5,q5⟩,List.nodup_cons.2 ⟨fun hu=>?_,q6⟩,fun u' hu=>?_⟩
   ·rw [List.append_assoc,List.append_assoc];exact Zzd
   ·obtain ⟨_,⟨e,g2⟩,_⟩:=q7 u hu
    rw [k7] at g2;cases g2
   ·have hg:Z6c f0 l0 (.l p c :: w :: r)=u :: Z6c f0 l0 (w :: r):=by simp only [Z6c,hid]
    rw [hg]
    rcases List.mem_cons.1 hu with rfl | hu
    ·exact ⟨ZYk h0 hid,k6,List.mem_cons_self⟩
    ·obtain ⟨g1,⟨e,g2⟩,g3⟩:=q7 u' hu
     obtain ⟨e',g4,_⟩:=k4.l u' e (show u'<_ by omega) g2
     exact ⟨g1,⟨e',g4⟩,List.mem_cons_of_mem _ g3⟩
  ·exact h.elim
end
end Go.Eng
namespace Go.Eng
open Go.RowKit
theorem Zcn {v:Zb} {hh:Nat} {c:CT} {z:c.den} {g:Gh} {es:List Loc} {u n:Nat} {l2:Lo} {n2:Nat} (h:CRL v c z g es) (hu:u<n) (hhn:hh≤n) (hi:Zba hh c z u n=(l2,n2)) :
  n<n2∧(∀ e ∈ l2,(e.k=u∧Z6f (n≤·) hh c z e.x∨n≤e.k∧e.k<n2)∧n≤e.st∧e.st<n2∧e.x.ok (· < n2) (· < n2))∧(l2.map En.k).Nodup ∧
  ∃ γ0:Nat→Gh,γ0 u=g∧∀ (γ:Nat→Gh) (l:Lo),(∀ e ∈ l2,γ e.k=γ0 e.k∧lkE l e.k=some e)→∃ E,F2 (ZAa v γ l) l2 E∧es.Perm E.flatten:=by
 cases c with
 | own ty t =>
  cases hi
  obtain ⟨ob,cap,d,rfl,h2,rfl⟩:=h;refine ⟨Nat.lt_succ_self n,fun e he=>?_,List.nodup_cons.2 ⟨by simp,List.nodup_nil⟩,fun _=>.own ob cap,rfl,fun γ l hl=>?_⟩
  ·rcases List.mem_singleton.1 he with rfl;exact ⟨.inl ⟨rfl,rfl⟩,Nat.le_refl _,Nat.lt_succ_self _,trivial⟩
  ·exact ⟨[_],⟨⟨ob,cap,d,(hl _ (List.mem_singleton.2 rfl)).1,h2,rfl⟩,trivial⟩,List.Perm.refl _⟩
 | mat ty ty2 t =>
  cases hi
  obtain ⟨ob,cap,rows,es2,rfl,h2,rfl⟩:=h;refine ⟨Nat.lt_succ_self n,fun e he=>?_,List.nodup_cons.2 ⟨by simp,List.nodup_nil⟩,fun _=>.mat ob cap rows,rfl,fun γ l hl=>?_⟩
  ·rcases List.mem_singleton.1 he with rfl;exact ⟨.inl ⟨rfl,n,Nat.le_refl _,rfl⟩,Nat.le_refl _,Nat.lt_succ_self _,Nat.lt_succ_self n⟩
  ·exact ⟨[_],⟨⟨ob,cap,rows,es2,(hl _ (List.mem_singleton.2 rfl)).1,h2,rfl⟩,trivial⟩,by simp⟩
 | box ty c =>
  have hi:((⟨u,n,.box ty (Zj c z (n+1)).1⟩ :: (Zj c z (n+1)).2.1:Lo),(Zj c z (n+1)).2.2)=(l2,n2):=hi
  cases hi
  obtain ⟨b,c1,e1,rfl,h2,h3,rfl⟩:=h;obtain ⟨k1,k2,k3,k4,k5,γ0,k6⟩:=ZYn c (m:=false) (n+1) (x:=(Zj c z (n+1)).1) (l2:=(Zj c z (n+1)).2.1) (n2:=(Zj c z (n+1)).2.2) h2 rfl;have hd:∀ e ∈ (Zj c z (n+1)).2.1,e.k≠u:=fun e he hk=>by have:=(k2 e he).1;omega
  refine ⟨by omega,fun e he=>?_,List.nodup_cons.2 ⟨fun hm=>?_,k3⟩,fun k=>if k=u then .box b else γ0 k,if_pos rfl,fun γ l hl=>?_⟩
  ·rcases List.mem_cons.1 he with rfl | he
   ·exact ⟨.inl ⟨rfl,_,rfl⟩,Nat.le_refl _,(show n<_ by omega),k4⟩
   ·obtain ⟨r1,r2,r3,r4,r5⟩:=k2 e he;exact ⟨.inr ⟨by omega,r2⟩,by omega,r4,r5⟩
  ·obtain ⟨e,he,hk⟩:=List.mem_map.1 hm;exact hd e he hk
  ·obtain ⟨hg,hlk⟩:=hl _ List.mem_cons_self;have hg:γ u = .box b:=by rw [show γ u=_ from hg];exact if_pos rfl
   obtain ⟨q1,E,q2,q3⟩:=k6 γ l fun e he=>by
    obtain ⟨r1,r2⟩:=hl e (List.mem_cons_of_mem _ he);exact ⟨r1.trans (if_neg (hd e he)),r2⟩
   exact ⟨[_] :: E,⟨⟨b,c1,hg,q1,h3,rfl⟩,q2⟩,by rw [List.flatten_cons];exact List.Perm.cons _ q3⟩
 | agg c=>cases c with
  | mat ty ty2 t =>
   cases hi
   obtain ⟨ob,cap,rows,es2,rfl,h2,rfl⟩:=h;refine ⟨Nat.lt_succ_self n,fun e he=>?_,List.nodup_cons.2 ⟨by simp,List.nodup_nil⟩,fun _=>.mat ob cap rows,rfl,fun γ l hl=>?_⟩
   ·rcases List.mem_singleton.1 he with rfl;exact ⟨.inl ⟨rfl,rfl⟩,Nat.le_refl _,Nat.lt_succ_self _,Nat.lt_succ_of_le hhn⟩
   ·exact ⟨[_],⟨⟨ob,cap,rows,es2,(hl _ (List.mem_singleton.2 rfl)).1,h2,rfl⟩,trivial⟩,by simp⟩
  | _=>exact h.elim
 | _=>exact h.elim
structure IV (a:Act) (v:Zb) (γE:Nat→Gh) (lE:Lo) (n0:Nat) (us:List Nat) (n1 m:Nat) (f':Fr) (l':Lo) (es:List Loc) (γ0:Nat→Gh):Prop where
 le:n1≤m
 l:∀ e ∈ l',(e.k ∈ us∨n1≤e.k∧e.k<m)∧n1≤e.st∧e.st<m∧e.x.ok (· < m) (· < m)
 nd:(l'.map En.k).Nodup
 f:∀ e ∈ f',e.x.ok (· < m)∧n1≤e.st∧e.st<m
 r:∀ (γ:Nat→Gh) (l:Lo),(∀ e ∈ l',γ e.k=γ0 e.k∧lkE l e.k=some e)→(∀ e ∈ f',RV v γ l e.x (a.tmps.getD e.k undef))∧(∃ E,F2 (ZAa v γ l) l' E∧es.Perm E.flatten)∧∀ e ∈ l',e.k<n0→∃ e0,lkE lE e.k=some e0∧CE (· < n0) γE γ e.k e0.st e.st e0.x e.x
section
variable {a:Act} {v:Zb} {γE:Nat→Gh} {lE:Lo} {n0:Nat}
theorem IV.none {n1:Nat}:IV a v γE lE n0 [] n1 n1 [] [] [] fun _=>.box 0 :=
 ⟨Nat.le_refl _,fun e he=>(by cases he),List.nodup_nil,fun e he=>(by cases he),fun γ l _=>⟨fun e he=>(by cases he),⟨[],trivial,List.Perm.refl _⟩,fun e he=>(by cases he)⟩⟩
theorem IV.add {us1 us2:List Nat} {n1 m1 m:Nat} {f1 f2:Fr} {l1 l2:Lo} {es1 es2:List Loc} {γ1 γ2:Nat→Gh} (h:IV a v γE lE n0 us1 n1 m1 f1 l1 es1 γ1) (k:IV a v γE lE n0 us2 m1 m f2 l2 es2 γ2) (hd:∀ u ∈ us2,u ∉ us1) (hu:∀ u ∈ us1++us2,u<n1) :
  IV a v γE lE n0 (us1++us2) n1 m (f1++f2) (l1++l2) (es1++es2) fun k=>if k ∈ l1.map En.k then γ1 k else γ2 k:=by
 have hd':∀ e ∈ l2,e.k ∉ l1.map En.k:=fun e he hm=>by
  obtain ⟨e',he',hk⟩:=List.mem_map.1 hm;have h1:=(h.l e' he').1;have h2:=(k.l e he).1;have hle:=h.le;rw [hk] at h1;rcases h1 with h1 | h1 <;> rcases h2 with h2 | h2
  ·exact hd _ h2 h1
  ·have:=hu _ (List.mem_append_left _ h1);omega
  ·have:=hu _ (List.mem_append_right _ h2);omega
  ·omega
 have up:∀ j,j<m1→j<m:=fun j hj=>Nat.lt_of_lt_of_le hj k.le;refine ⟨Nat.le_trans h.le k.le,fun e he=>?_,Zuk h.nd k.nd hd',fun e he=>?_,fun γ l hl=>?_⟩
 ·rcases List.mem_append.1 he with he | he
  ·obtain ⟨r1,r2,r3,r4⟩:=h.l e he;refine ⟨?_,r2,up _ r3,LV.ok.mono up up r4⟩;rcases r1 with r1 | r1
   ·exact .inl (List.mem_append_left _ r1)
   ·exact .inr ⟨r1.1,up _ r1.2⟩
  ·obtain ⟨r1,r2,r3,r4⟩:=k.l e he;have:=h.le;refine ⟨?_,by omega,r3,r4⟩;rcases r1 with r1 | r1
   ·exact .inl (List.mem_append_right _ r1)
   ·exact .inr ⟨by omega,r1.2⟩
 ·rcases List.mem_append.1 he with he | he
  ·obtain ⟨r1,r2,r3⟩:=h.f e he;exact ⟨V.ok.mono up r1,r2,up _ r3⟩
  ·obtain ⟨r1,r2,r3⟩:=k.f e he;have:=h.le;exact ⟨r1,by omega,r3⟩
 ·obtain ⟨p1,⟨E1,p2,p3⟩,p4⟩:=h.r γ l (ZQl hl);obtain ⟨q1,⟨E2,q2,q3⟩,q4⟩:=k.r γ l (Zml hd' hl);refine ⟨fun e he=>?_,⟨E1++E2,p2.append q2,by rw [List.flatten_append];exact p3.append q3⟩,fun e he=>?_⟩
  ·rcases List.mem_append.1 he with he | he
   ·exact p1 e he
   ·exact q1 e he
  ·rcases List.mem_append.1 he with he | he
   ·exact p4 e he
   ·exact q4 e he
theorem IV.s {t n1:Nat} {c:CT} {z:c.den} {es:List Loc} (h:SRel a v t c z es) (hn:n0≤n1):∃ γ0,IV a v γE lE n0 [] n1 (Zj c z (n1+1)).2.2 [⟨t,n1,(Zj c z (n1+1)).1⟩] (Zj c z (n1+1)).2.1 es γ0:=by
 obtain ⟨cs,h1,h2⟩:=h;obtain ⟨k1,k2,k3,k4,k5,γ0,k6⟩:=ZYn c (n1+1) (x:=(Zj c z (n1+1)).1) (l2:=(Zj c z (n1+1)).2.1) (n2:=(Zj c z (n1+1)).2.2) h2 rfl;refine ⟨γ0,by omega,fun e he=>?_,k3,fun e he=>?_,fun γ l hl=>⟨fun e he=>?_,(k6 γ l hl).2,fun e he hk=>?_⟩⟩
 ·obtain ⟨r1,r2,r3,r4,r5⟩:=k2 e he;exact ⟨.inr ⟨by omega,r2⟩,by omega,r4,r5⟩
 ·rcases List.mem_singleton.1 he with rfl;exact ⟨k4,Nat.le_refl _,(show n1<_ by omega)⟩
 ·rcases List.mem_singleton.1 he with rfl;have hq:=(k6 γ l hl).1;have:=Zfc hq (fun c e=>by rw [e] at hq;exact hq);show RV v γ l (Zj c z (n1+1)).1 (a.tmps.getD t undef);rw [h1,← Zxg k5];exact this
 ·have:=(k2 e he).1;omega
theorem IV.p {u n1:Nat} {p:Pl} {c:CT} {z:c.den} {es:List Loc} {f0:Fr} {l0:Lo} (h:LRel v γE lE n0 f0 l0 u p c z es) (hu:u<n1) (hn:n0≤n1) (hv:ZJa l0 u≤n1):∃ γ0,IV a v γE lE n0 [u] n1 (Zba (ZJa l0 u) c z u n1).2 [] (Zba (ZJa l0 u) c z u n1).1 es γ0:=by
 obtain ⟨_,g,e0,h2,h3,h4⟩:=h;obtain ⟨k1,k2,k3,γ0,k4,k5⟩:=Zcn h3 hu hv (l2:=(Zba (ZJa l0 u) c z u n1).1) (n2:=(Zba (ZJa l0 u) c z u n1).2) rfl;refine ⟨γ0,by omega,fun e he=>?_,k3,fun e he=>(by cases he),fun γ l hl=>⟨fun e he=>(by cases he),k5 γ l hl,fun e he hk=>?_⟩⟩
 ·obtain ⟨r1,r2,r3,r4⟩:=k2 e he;refine ⟨?_,r2,r3,r4⟩;rcases r1 with r1 | r1
  ·exact .inl (List.mem_singleton.2 r1.1)
  ·exact .inr r1
 ·obtain ⟨r1,r2,_,_⟩:=k2 e he;rcases r1 with ⟨r1,r5⟩ | r1
  ·refine ⟨e0,by rw [r1];exact h2,?_⟩;rw [r1];have:Z6f (n0≤·) (ZJa l0 u) c z e.x:=by
    cases c with
    | mat ty ty2 t=>obtain ⟨hv,q1,q2⟩:=r5;exact ⟨hv,Nat.le_trans hn q1,q2⟩
    | own ty t=>exact r5
    | box ty t=>exact r5
    | agg c=>cases c <;> first | exact r5 | exact r5.elim
    | _=>exact r5.elim
   refine h4 γ e.st e.x ?_ (by omega) this;have:=(hl e he).1;rw [r1] at this;rw [this,k4]
  ·omega
theorem Zdm {f0:Fr} {l0:Lo}:∀ {vs:List Vr} {z:(ctL (vs.map Vr.ct)).den} {es:List Loc} {us:List Nat} {n1:Nat},VRel a v γE lE n0 f0 l0 vs z es us→us.Nodup→(∀ u ∈ us,u<n1)→n0≤n1→(∀ u,ZJa l0 u≤n0) →
  ∃ γ0,IV a v γE lE n0 us n1 (ZKb f0 l0 vs z n1).2.2 (ZKb f0 l0 vs z n1).1 (ZKb f0 l0 vs z n1).2.1 es γ0
 | [],z,es,us,n1,h,hn,hu,h0,hv=>by
  obtain ⟨rfl,rfl⟩:=h
  exact ⟨_,IV.none⟩
 | [.s t c],z,es,us,n1,h,hn,hu,h0,hv=>by
  obtain ⟨rfl,h⟩:=h
  exact IV.s h h0
 | [.l p c],z,es,us,n1,h,hn,hu,h0,hv=>by
  obtain ⟨u,rfl,h⟩:=h
  have e:ZKb f0 l0 [.l p c] z n1=([],(Zba (ZJa l0 u) c z u n1).1,(Zba (ZJa l0 u) c z u n1).2):=by simp only [ZKb,h.1]
  rw [e]
  exact IV.p h (hu u (by simp)) h0 (Nat.le_trans (hv u) h0)
 | .s t c :: w :: r,z,es,us,n1,h,hn,hu,h0,hv=>by
  obtain ⟨e1,e2,rfl,h1,h2⟩:=h
  obtain ⟨γ1,k1⟩:=IV.s (a:=a) (v:=v) (γE:=γE) (lE:=lE) h1 h0
  have hle:=k1.le
  obtain ⟨γ2,k2⟩:=Zdm (vs:=w :: r) (n1:=(Zj c z.1 (n1+1)).2.2) h2 hn (fun u h=>Nat.lt_of_lt_of_le (hu u h) hle) (Nat.le_trans h0 hle) hv
  exact ⟨_,k1.add k2 (fun u _ h=>by cases h) hu⟩
 | .l p c :: w :: r,z,es,us,n1,h,hn,hu,h0,hv=>by
  obtain ⟨e1,e2,u,us',rfl,rfl,h1,h2⟩:=h
  obtain ⟨γ1,k1⟩:=IV.p (a:=a) (v:=v) (γE:=γE) (lE:=lE) h1 (hu u (by simp)) h0 (Nat.le_trans (hv u) h0)
  have hle:=k1.le
  obtain ⟨n3,n4⟩:=List.nodup_cons.1 hn
  obtain ⟨γ2,k2⟩:=Zdm (vs:=w :: r) (n1:=(Zba (ZJa l0 u) c z.1 u n1).2) h2 n4 (fun u' h=>Nat.lt_of_lt_of_le (hu u' (by simp [h])) hle) (Nat.le_trans h0 hle) hv
  have e:ZKb f0 l0 (.l p c :: w :: r) z n1=((ZKb f0 l0 (w :: r) z.2 (Zba (ZJa l0 u) c z.1 u n1).2).1,(Zba (ZJa l0 u) c z.1 u n1).1++(ZKb f0 l0 (w :: r) z.2 (Zba (ZJa l0 u) c z.1 u n1).2).2.1,(ZKb f0 l0 (w :: r) z.2 (Zba (ZJa l0 u) c z.1 u n1).2).2.2):=by simp only [ZKb,h1.1]
  rw [e]
  refine ⟨_,k1.add k2 (fun u' h hm=>?_) hu⟩
  rcases List.mem_singleton.1 hm with rfl
  exact n3 h
end
theorem F2.impm {α β:Type} {R R':α→β→Prop}:∀ {l:List α} {m:List β},(∀ a ∈ l,∀ b ∈ m,R a b→R' a b)→F2 R l m→F2 R' l m
 | [],[],_,_=>trivial
 | a :: l,b :: m,h,k=>⟨h a (by simp) b (by simp) k.1,F2.impm (fun x hx y hy=>h x (by simp [hx]) y (by simp [hy])) k.2⟩
 | [],_ :: _,_,k=>k.elim
 | _ :: _,[],_,k=>k.elim
theorem Zgs {R:En LV→List Loc→Prop}:∀ {s l:Lo} {E:List (List Loc)},(s.map En.k).Nodup→(∀ e ∈ s,lkE l e.k=some e)→(l.map En.k).Nodup→F2 R l E→∃ Es rest,F2 R s Es∧E.flatten.Perm (Es.flatten++rest)
 | [],l,E,_,_,_,_=>⟨[],E.flatten,trivial,List.Perm.refl _⟩
 | e :: s,l,E,hn,hs,hl,hE=>by
  simp only [List.map_cons,List.nodup_cons] at hn
  obtain ⟨es,E',h1,h2,h3⟩:=Zwf hE (hs e (by simp))
  obtain ⟨Es,rest,k1,k2⟩:=Zgs (s:=s) (l:=era l e.k) hn.2 (fun e2 he=>by
   rw [Zmc hl,if_neg (fun h=>hn.1 (by rw [h];exact List.mem_map.2 ⟨e2,he,rfl⟩))]
   exact hs e2 (by simp [he])) (ZIb hl).1 h2
  exact ⟨es :: Es,rest,⟨h1,k1⟩,h3.trans (by rw [List.flatten_cons,List.append_assoc];exact List.Perm.append_left _ k2)⟩
theorem ZIk {β:Type} {l l':List (En β)} {k:Nat}:lkE (l++l') k=(lkE l k).or (lkE l' k):=by
 induction l with
 | nil=>rfl
 | cons p r ih =>
  rw [List.cons_append,ZQ,ZQ];split
  ·rfl
  ·exact ih
theorem Zqq {n:Nat} {l:Lo}:∀ {s:Lo},ZTh n l s=true→∀ e ∈ s,∃ e',lkE l e.k=some e'∧e'.st<n
 | [],_,_,h=>by cases h
 | e :: s,h,e1,he1=>by
  simp only [ZTh] at h
  split at h
  ·rename_i e' he'
   split at h
   ·cases h
   ·rename_i hb
    rcases List.mem_cons.1 he1 with rfl | he1
    ·exact ⟨e',he',Nat.lt_of_not_le fun hle=>by rw [Nat.ble_eq_true_of_le hle] at hb;cases hb⟩
    ·exact Zqq h e1 he1
  ·cases h
theorem Zvq {n:Nat} {f:Fr}:∀ {s:List Nat},ZFh n f s=true→∀ t ∈ s,∃ e',lkE f t=some e'∧e'.st<n
 | [],_,_,h=>by cases h
 | t :: s,h,t1,ht1=>by
  simp only [ZFh] at h
  split at h
  ·rename_i e' he'
   split at h
   ·cases h
   ·rename_i hb
    rcases List.mem_cons.1 ht1 with rfl | ht1
    ·exact ⟨e',he',Nat.lt_of_not_le fun hle=>by rw [Nat.ble_eq_true_of_le hle] at hb;cases hb⟩
    ·exact Zvq h t1 ht1
  ·cases h
theorem ZPm {f:Fr}:∀ {ks:List Nat} {t:Nat} {e:En V},lkE (Z0c f ks) t=some e→lkE f t=some e∧t ∈ ks
 | [],_,_,h=>by cases h
 | k :: ks,t,e,h=>by
  simp only [Z0c] at h
  split at h
  ·rename_i e' he'
   rw [ZQ] at h
   split at h
   ·rename_i hk
    cases h
    have:=(Zs he').2
    rw [this] at hk;subst hk
    exact ⟨he',by simp⟩
   ·have:=ZPm h;exact ⟨this.1,by simp [this.2]⟩
  ·have:=ZPm h;exact ⟨this.1,by simp [this.2]⟩
theorem Zby {l:List Nat} {t:Nat}:Z7c l t=true↔t ∈ l:=by
 induction l with
 | nil=>simp [Z7c]
 | cons k r ih =>
  simp only [Z7c]
  cases hb:Nat.beq k t
  ·simp only [List.mem_cons];rw [ih];have:¬ t=k:=fun e=>by rw [e] at hb;simp at hb
   simp [this]
  ·have:=Nat.eq_of_beq_eq_true hb;simp [this]
theorem ZBq {b:Nat} {rs us:List Nat}:∀ {l:Lo},(ZFd b rs us l).Sublist l∧∀ e ∈ ZFd b rs us l,e.k ∉ us
 | []=>⟨List.Sublist.slnil,fun e h=>by cases h⟩
 | e :: r=>by
  obtain ⟨h1,h2⟩:=ZBq (b:=b) (rs:=rs) (us:=us) (l:=r)
  simp only [ZFd]
  split
  ·exact ⟨h1.cons e,h2⟩
  ·rename_i hm
   have hm:e.k ∉ us:=fun h=>by rw [Zby.2 h] at hm;cases hm
   have both:(e :: ZFd b rs us r).Sublist (e :: r)∧∀ e' ∈ e :: ZFd b rs us r,e'.k ∉ us:=⟨h1.cons_cons e,fun e' he'=>by
    rcases List.mem_cons.1 he' with rfl | he'
    ·exact hm
    ·exact h2 e' he'⟩
   split
   ·exact both
   ·split
    ·exact both
    ·exact ⟨h1.cons e,h2⟩
end Go.Eng
