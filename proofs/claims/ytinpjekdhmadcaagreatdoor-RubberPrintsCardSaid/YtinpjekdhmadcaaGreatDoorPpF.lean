/- Lemmas towards the statement: the engine of the walks, the functions' models, laws and walks, part 6. Conditions: as each states. -/
import Derived.Test.YtinpjekdhmadcaaGreatDoorProg
import Derived.Test.YtinpjekdhmadcaaGreatDoorPpE
set_option linter.all false
set_option maxRecDepth 100000
namespace Go.Eng
open Go.RowKit
theorem Zlg {x:V} {c:CT} {cs:List Value} (h:x.isAgg=c.isAgg):x.val cs=c.vl cs:=by
 unfold V.val CT.vl;rw[h]
 cases c.isAgg <;> rfl
theorem Zbl {v v':Zb} (h:v.le v'):∀ {c:CT} {m:Bool} {x:c.den} {cs:List Value} {es:List Loc},CR v c m x cs es→CR v' c m x cs es:=by
 intro c
 induction c with
 | dat t=>intro m x cs es k;cases m <;> first | exact⟨Rep.mono _ h k.1,k.2⟩ | exact k
 | own ty t =>
  intro m x cs es k;cases m
  ·obtain⟨ob,cap,d,h1,h2,h3⟩:=k;exact⟨ob,cap,d,h1,ZR h h2,h3⟩
  ·exact k
 | mat ty ty2 t =>
  intro m x cs es k;cases m
  ·obtain⟨ob,cap,rows,es2,h1,h2,h3⟩:=k;exact⟨ob,cap,rows,es2,h1,Zqc h h2,h3⟩
  ·exact k
 | nl=>intro m x cs es k;cases m <;> exact k
 | one a ih =>
  intro m x cs es k;cases m
  ·exact ih (m:=false) k
  ·obtain⟨c,h1,h2⟩:=k;exact⟨c,h1,ih h2⟩
 | cons a b ia ib =>
  intro m x cs es k;cases m
  ·obtain⟨c1,c2,e1,e2,h1,h2,h3,h4⟩:=k;exact⟨c1,c2,e1,e2,h1,h2,ia h3,ib h4⟩
  ·obtain⟨c1,c2,e1,e2,h1,h2,h3,h4⟩:=k;exact⟨c1,c2,e1,e2,h1,h2,ia h3,ib h4⟩
 | agg c ih=>intro m x cs es k;cases m <;> first | exact ih (m:=false) k | exact k
 | box ty c ih =>
  intro m x cs es k;cases m
  ·obtain⟨b,c1,e1,h1,h2,h3,h4⟩:=k;exact⟨b,c1,e1,h1,ih h2,h3,h4⟩
  ·exact k
 | mp=>intro m x cs es k;cases m <;> exact k
 | it=>intro m x cs es k;cases m <;> exact k
 | lst ty tyD tyG g =>
  intro m x cs es k;cases m
  ·rcases k with k | ⟨l,y,b,cap,d,d0,o1,o2,k1,k2,d1,d2,h1,h2,h3,h4,h5,h6,h7⟩
   ·exact Or.inl k
   ·exact Or.inr ⟨l,y,b,cap,d,d0,o1,o2,k1,k2,d1,d2,h1,h2,ZR h h3,Rep.mono _ h h4,ZR h h5,ZR h h6,h7⟩
  ·exact k
theorem ZGc {α:Type} {ex es r:List α}:(ex++(es++r)).Perm (es++(ex++r)):=by
 rw[← aAq,← aAq];exact List.Perm.append_right _ List.perm_append_comm
section
variable {N:Nat} {G:V→Value→Prop} {w0:Base} {v0:Zb} {U X:Nat→Prop} {f:Fr} {a:Act} {w:World} {n:Nat}
theorem ZGw {ρ:Type} {g:Nat} {t:T} {x:V} {k:t.den→Ev ρ} {l:Lo} {Post:ρ→Fr→Lo→Prop} {v:Zb} {γ:Nat→Gh} {m:Bool} {cs:List Value} (h:Zj n (conv g t x k) f l Post) (hr:RR v γ l m x cs):m=false:=by
 cases m with
 | false=>rfl
 | true =>
  cases g with
  | zero=>exact h.elim
  | succ g=>cases x <;> first | exact hr.elim | (simp only[conv]at h;exact h.elim)
theorem Zhe {ρ:Type} (hn:¬ U n) (hX:X n):∀ (g:Nat) {c:CT} {x:V} {K:c.den→Ev ρ} {l:Lo} {Post:ρ→Fr→Lo→Prop} {γ:Nat→Gh} {v:Zb} {ℓ ex:List Loc} {m:Bool} {cs:List Value},
  Zj n (Z0 g c x K) f l Post→RelX N G w0 v0 U X f l a w γ v ℓ→St N w0 v0 [] (ex++ℓ) v a w→x.ok U→RR v γ l m x cs →
  ∃ z l' γ' v' ℓ' es,Zj n (K z) f l' Post∧RelX N G w0 v0 U X f l' a w γ' v' ℓ'∧St N w0 v0 [] (es++(ex++ℓ')) v' a w∧Le U v γ l v' γ' l'∧CR v' c m z cs es∧x.isAgg=c.isAgg
 | 0,_,_,_,_,_,_,_,_,_,_,_,h,_,_,_,_=>h.elim
 | g+1,c,x,K,l,Post,γ,v,ℓ,ex,m,cs,h,hr,hex,hk,hx=>by
  obtain⟨E,hE,_⟩:=hr.lr
  have rfl':Le U v γ l v γ l:=Le.refl hE (Zb.le_refl _)
  cases c with
  | dat t =>
   simp only[Z0]at h
   have hm:=ZGw h hx
   subst hm
   have hag:=Zff FU h
   obtain⟨y,l1,γ1,v1,ℓ1,k1,k2,k3,k4,k5⟩:=ZXa hn hX FU h hr hex hk
   exact⟨y,l1,γ1,v1,ℓ1,[],k1,k2,k3,k4,⟨k5 _ hx,rfl⟩,hag⟩
  | own ty t =>
   cases x with
   | own u =>
    cases m with
    | true=>exact hx.elim
    | false =>
    simp only[Z0]at h
    obtain⟨e,he,h⟩:=h
    obtain⟨kk,st,L⟩:=e
    have hkk:kk=u:=(Zk he).2
    subst hkk
    obtain⟨y,rfl,_,hy⟩:=hx
    have hy:=hy _ he
    obtain⟨es,E',h1,_,_,h3,h4⟩:=hr.del he
    cases L with
    | own ty' t' xs fz =>
     cases fz with
     | true=>exact h.elim
     | false =>
      simp only at h
      split at h
      ·rename_i ys hty hcast
       have hty:=eQ hty
       subst hty
       obtain⟨c3,c4⟩:=Z2 hcast
       cases c3;cases c4
       obtain⟨ob,cap,d,g1,g2,rfl⟩:=h1
       have g1:γ kk = .own ob cap:=g1
       obtain⟨ob',cap',g3,g4⟩:=hy
       rw[g1]at g3;cases g3
       exact⟨_,_,_,_,_,_,h,h4,hex.perm ((List.Perm.append_left ex h3).trans ZGc),Le.era hr kk,⟨ob,cap,d,by rw[g4],g2,rfl⟩,rfl⟩
      ·exact h.elim
    | box _ _=>exact h.elim
    | mid _ _ _ _ _ _=>exact h.elim
    | mat _ _ _ _ _=>exact h.elim
    | mp _=>exact h.elim
    | it _ _=>exact h.elim
    | lst _ _ _ _=>exact h.elim
   | nilS =>
    cases m with
    | true=>exact hx.elim
    | false =>
    simp only[Z0]at h
    have hx:cs=[.slice none 0 0]:=hx
    subst hx
    exact⟨_,l,γ,v,ℓ,[.own none ty t.n 0 0 []],h,hr,hex.nilLoc ty t.n,rfl',⟨none,0,[],rfl,rfl,rfl⟩,rfl⟩
   | _=>simp only[Z0]at h;exact h.elim
  | mat ty ty2 t =>
   cases x with
   | own u =>
    cases m with
    | true=>exact hx.elim
    | false =>
    simp only[Z0]at h
    obtain⟨e,he,h⟩:=h
    obtain⟨kk,st,L⟩:=e
    have hkk:kk=u:=(Zk he).2
    subst hkk
    obtain⟨y,rfl,_,hy⟩:=hx
    have hy:=hy _ he
    obtain⟨es,E',h1,_,_,h3,h4⟩:=hr.del he
    cases L with
    | mat ty' ty2' t' mm hv =>
     simp only at h
     split at h
     ·rename_i m' hty hty2 hcast
      have hty:=eQ hty
      have hty2:=eQ hty2
      subst hty hty2
      obtain⟨c3,c4⟩:=Z2 hcast
      cases c3;cases c4
      obtain⟨ob,cap,rows,es2,g1,g2,rfl⟩:=h1
      have g1:γ kk = .mat ob cap rows:=g1
      obtain⟨ob',cap',rows',g3,g4⟩:=hy
      rw[g1]at g3;cases g3
      exact⟨_,_,_,_,_,_,h,h4,hex.perm ((List.Perm.append_left ex h3).trans ZGc),Le.era hr kk,⟨ob,cap,rows,es2,by rw[g4],g2,rfl⟩,rfl⟩
     ·exact h.elim
    | box _ _=>exact h.elim
    | mid _ _ _ _ _ _=>exact h.elim
    | own _ _ _ _=>exact h.elim
    | mp _=>exact h.elim
    | it _ _=>exact h.elim
    | lst _ _ _ _=>exact h.elim
   | nilS =>
    cases m with
    | true=>exact hx.elim
    | false =>
    simp only[Z0]at h
    have hx:cs=[.slice none 0 0]:=hx
    subst hx
    exact⟨_,l,γ,v,ℓ,[.own none ty 1 0 0 []],h,hr,hex.nilLoc ty 1,rfl',⟨none,0,[],[],rfl,rfl,rfl⟩,rfl⟩
   | _=>simp only[Z0]at h;exact h.elim
  | nl =>
   cases x with
   | nl =>
    simp only[Z0]at h
    have hx:cs=[]:=by cases m <;> exact hx
    exact⟨_,l,γ,v,ℓ,[],h,hr,hex,rfl',(by cases m <;> exact⟨hx,rfl⟩),rfl⟩
   | _=>simp only[Z0]at h;exact h.elim
  | one c =>
   cases x with
   | cons x1 x2 =>
    cases x2 with
    | nl =>
     simp only[Z0]at h
     cases m with
     | false =>
      obtain⟨c1,c2,rfl,h1,h2⟩:=hx
      have h2:c2=[]:=h2
      subst h2
      obtain⟨z,l1,γ1,v1,ℓ1,es,k1,k2,k3,k4,k5,k6⟩:=Zhe hn hX g h hr hex hk.1 h1
      exact⟨z,l1,γ1,v1,ℓ1,es,k1,k2,k3,k4,(by rw[List.append_nil];exact k5),rfl⟩
     | true =>
      obtain⟨c1,xs,rfl,h1,h2⟩:=hx
      have h2:xs=[]:=h2
      subst h2
      obtain⟨z,l1,γ1,v1,ℓ1,es,k1,k2,k3,k4,k5,k6⟩:=Zhe hn hX g h hr hex hk.1 h1
      exact⟨z,l1,γ1,v1,ℓ1,es,k1,k2,k3,k4,⟨c1,(by rw[Zlg k6]),k5⟩,rfl⟩
    | _=>simp only[Z0]at h;exact h.elim
   | _=>simp only[Z0]at h;exact h.elim
  | cons c d =>
   cases x with
   | cons x1 x2 =>
    simp only[Z0]at h
    have step:∀ {c1:List Value} {m2:Bool} {c2:List Value},RR v γ l false x1 c1→RR v γ l m2 x2 c2→∃ z l' γ' v' ℓ' e1 e2,Zj n (K z) f l' Post∧RelX N G w0 v0 U X f l' a w γ' v' ℓ'∧St N w0 v0 [] ((e1++e2)++(ex++ℓ')) v' a w∧Le U v γ l v' γ' l'∧CR v' c false z.1 c1 e1∧CR v' d m2 z.2 c2 e2∧x1.isAgg=c.isAgg:=by
     intro c1 m2 c2 h1 h2;obtain⟨z1,l1,γ1,v1,ℓ1,e1,k1,k2,k3,k4,k5,k6⟩:=Zhe hn hX g h hr hex hk.1 h1;obtain⟨z2,l2,γ2,v2,ℓ2,e2,q1,q2,q3,q4,q5,q6⟩:=Zhe hn hX g (ex:=e1++ex) k1 k2 (by rw[aAq];exact k3) hk.2 (ZAa k4 hk.2 h2);refine⟨(z1,z2),l2,γ2,v2,ℓ2,e1,e2,q1,q2,q3.perm ?_,k4.trans q4,Zbl q4.v k5,q5,k6⟩;rw[aAq,aAq];exact ZGc
    cases m with
    | false =>
     obtain⟨c1,c2,rfl,h1,h2⟩:=hx;obtain⟨z,l1,γ1,v1,ℓ1,e1,e2,k1,k2,k3,k4,k5,k6,k7⟩:=step h1 h2;exact⟨z,l1,γ1,v1,ℓ1,_,k1,k2,k3,k4,⟨c1,c2,e1,e2,rfl,rfl,k5,k6⟩,rfl⟩
    | true =>
     obtain⟨c1,xs,rfl,h1,h2⟩:=hx;obtain⟨z,l1,γ1,v1,ℓ1,e1,e2,k1,k2,k3,k4,k5,k6,k7⟩:=step h1 h2;exact⟨z,l1,γ1,v1,ℓ1,_,k1,k2,k3,k4,⟨c1,xs,e1,e2,by rw[Zlg k7],rfl,k5,k6⟩,rfl⟩
   | _=>simp only[Z0]at h;exact h.elim
  | agg c =>
   cases x with
   | agg x1 =>
    cases m with
    | true=>exact hx.elim
    | false =>
    simp only[Z0]at h;obtain⟨z,l1,γ1,v1,ℓ1,es,k1,k2,k3,k4,k5,k6⟩:=Zhe hn hX g (x:=x1) (m:=false) h hr hex hk hx;exact⟨z,l1,γ1,v1,ℓ1,es,k1,k2,k3,k4,k5,rfl⟩
   | _=>simp only[Z0]at h;exact h.elim
  | box ty c =>
   cases x with
   | ptr u off =>
    cases off with
    | succ k=>simp only[Z0]at h;exact h.elim
    | zero =>
    cases m with
    | true=>exact hx.elim
    | false =>
    simp only[Z0]at h;obtain⟨e,he,h⟩:=h;obtain⟨kk,st,L⟩:=e;obtain⟨hm,hkk⟩:=Zk he;have hkk:kk=u:=hkk;subst hkk;obtain⟨y,rfl,_,hy⟩:=hx;have hy:=hy _ he;obtain⟨es,E',h1,_,_,h3,h4⟩:=hr.del he
    cases L with
    | box ty' x1 =>
     simp only at h;split at h
     ·rename_i hty;have hty:=eQ hty;subst hty;obtain⟨b,c1,g1,g2,g3,rfl⟩:=h1;have g1:γ kk = .box b:=g1;obtain⟨b',g4,g5⟩:=hy;rw[g1]at g4;cases g4;have hk1:x1.ok U:=(hr.ul _ hm).2.2;obtain⟨z,l1,γ1,v1,ℓ1,e1,k1,k2,k3,k4,k5,k6⟩:=Zhe hn hX g (ex:=.box b ty c1 :: ex) h h4 (hex.perm ((List.Perm.append_left ex h3).trans ZGc)) hk1 (ZAa (Le.era hr kk) hk1 g2);refine⟨z,l1,γ1,v1,ℓ1,.box b ty c1 :: e1,k1,k2,k3.perm ?_,(Le.era hr kk).trans k4,⟨b,c1,e1,by rw[g5],k5,g3,rfl⟩,rfl⟩;exact List.perm_middle
     ·exact h.elim
    | own _ _ _ _=>exact h.elim
    | mid _ _ _ _ _ _=>exact h.elim
    | mat _ _ _ _ _=>exact h.elim
    | mp _=>exact h.elim
    | it _ _=>exact h.elim
    | lst _ _ _ _=>exact h.elim
   | _=>simp only[Z0]at h;exact h.elim
  | mp =>
   cases x with
   | own u =>
    cases m with
    | true=>exact hx.elim
    | false =>
    simp only[Z0]at h;obtain⟨e,he,h⟩:=h;obtain⟨kk,st,L⟩:=e;have hkk:kk=u:=(Zk he).2;subst hkk;obtain⟨y,rfl,_,hy⟩:=hx;have hy:=hy _ he;obtain⟨es,E',h1,_,_,h3,h4⟩:=hr.del he
    cases L with
    | mp mm=>exact⟨_,_,_,_,_,_,h,h4,hex.perm ((List.Perm.append_left ex h3).trans ZGc),Le.era hr kk,⟨γ kk,y,rfl,hy,h1⟩,rfl⟩
    | _=>exact h.elim
   | data t d =>
    simp only[Z0]at h;split at h
    ·rename_i heq;cases heq
    ·rename_i m0 heq;split at h
     ·cases heq
      cases m with
      | true=>exact hx.elim
      | false =>
      have hx:cs=[.map none]:=hx;subst hx;exact⟨_,l,γ,v,ℓ,[],h,hr,hex,rfl',⟨.box 0,_,rfl,rfl,rfl⟩,rfl⟩
     ·exact h.elim
    ·exact h.elim
   | _=>simp only[Z0]at h;exact h.elim
  | it=>simp only[Z0]at h;exact h.elim
  | lst ty tyD tyG e =>
   cases x with
   | nilS =>
    cases m with
    | true=>exact hx.elim
    | false =>
    simp only[Z0]at h;have hx:cs=[.slice none 0 0]:=hx;subst hx;exact⟨_,l,γ,v,ℓ,[],h,hr,hex,rfl',Or.inl ⟨rfl,rfl,rfl⟩,rfl⟩
   | own u =>
    cases m with
    | true=>exact hx.elim
    | false =>
    simp only[Z0]at h;obtain⟨en,he,h⟩:=h;obtain⟨kk,st,L⟩:=en;obtain⟨hm,hkk⟩:=Zk he;have hkk:kk=u:=hkk;subst hkk;obtain⟨y,rfl,_,hy⟩:=hx;have hy:=hy _ he;obtain⟨es,E',h1,_,_,h3,h4⟩:=hr.del he
    cases L with
    | lst ty' t' xs c1 =>
     simp only at h;split at h
     ·rename_i ys hty hcast;have hty:=eQ hty;subst hty;obtain⟨c3,c4⟩:=Z2 hcast
      cases c3;cases c4
      obtain⟨b,cap,cs0,cl,g1,g2,g3,g4,g5,rfl⟩:=h1;have g1:γ kk = .own (some b) cap:=g1;obtain⟨ob',cap',q1,q2⟩:=hy;rw[g1]at q1;cases q1;have hk1:c1.ok U:=(hr.ul _ hm).2.2;obtain⟨z,l1,γ1,v1,ℓ1,e1,k1,k2,k3,k4,k5,k6⟩:=Zhe hn hX g (ex:=.own (some b) ty 3 (xs.length+1) cap (cs0++cl) :: ex) h h4 (hex.perm ((List.Perm.append_left ex h3).trans ZGc)) hk1 (ZAa (Le.era hr kk) hk1 g3);obtain⟨d0,c2,ea,eb,rfl,rfl,⟨r1,rfl⟩,r2⟩:=k5;obtain⟨c5,c6,ec,ed,rfl,rfl,⟨o1,n1,d1,rfl,r3,rfl⟩,r4⟩:=r2;obtain⟨o2,n2,d2,rfl,r5,rfl⟩:=r4;refine⟨_,l1,γ1,v1,ℓ1,_,k1,k2,k3.perm ?_,(Le.era hr kk).trans k4,Or.inr ⟨_,z,b,cap,cs0,d0,o1,o2,n1,n2,d1,d2,rfl,by rw[q2];rfl,ZR ((Le.era hr kk).trans k4).v g2,r1,r3,r5,rfl⟩,rfl⟩;exact List.perm_middle
     ·exact h.elim
    | _=>exact h.elim
   | _=>simp only[Z0]at h;exact h.elim
theorem Zex {ρ:Type} {g:Nat} {c:CT} {q:V} {K:c.den→Ev ρ} {l:Lo} {Post:ρ→Fr→Lo→Prop} (h:Zj n (Z0 g c (.tup q) K) f l Post):False:=by
 cases g with
 | zero=>exact h
 | succ g =>
  cases c with
  | dat t =>
   simp only[Z0]at h;have:∀ (g:Nat),Zj n (conv g t (.tup q) K) f l Post→False:=λg h=>by cases g <;> exact h
   exact this _ h
  | _=>simp only[Z0]at h;exact h
end
theorem F2.append {α β:Type} {R:α→β→Prop}:∀ {l l':List α} {m m':List β},F2 R l m→F2 R l' m'→F2 R (l++l') (m++m')
 | [],_,[],_,_,k=>k
 | _ :: _,_,_ :: _,_,h,k=>⟨h.1,F2.append h.2 k⟩
 | [],_,_ :: _,_,h,_=>h.elim
 | _ :: _,_,[],_,h,_=>h.elim
theorem Zpl {la lb:Lo} {γa γb:Nat→Gh} {γ:Nat→Gh} {l:Lo} (h:∀ e ∈ la++lb,γ e.k=(if e.k ∈ la.map En.k then γa e.k else γb e.k)∧lkE l e.k=some e):∀ e ∈ la,γ e.k=γa e.k∧lkE l e.k=some e:=λe he=>by
 obtain⟨h1,h2⟩:=h e (List.mem_append_left _ he)
 rw[iP (List.mem_map.2 ⟨e,he,rfl⟩)]at h1
 exact⟨h1,h2⟩
theorem ZQk {la lb:Lo} {γa γb:Nat→Gh} {γ:Nat→Gh} {l:Lo} (hd:∀ e ∈ lb,e.k ∉ la.map En.k) (h:∀ e ∈ la++lb,γ e.k=(if e.k ∈ la.map En.k then γa e.k else γb e.k)∧lkE l e.k=some e):∀ e ∈ lb,γ e.k=γb e.k∧lkE l e.k=some e:=λe he=>by
 obtain⟨h1,h2⟩:=h e (List.mem_append_right _ he)
 rw[iN (hd e he)]at h1
 exact⟨h1,h2⟩
theorem Zui {la lb:Lo} (ha:(la.map En.k).Nodup) (hb:(lb.map En.k).Nodup) (hd:∀ e ∈ lb,e.k ∉ la.map En.k):((la++lb).map En.k).Nodup:=by
 rw[List.map_append];refine List.nodup_append.2 ⟨ha,hb,λx hx y hy e=>?_⟩;subst e;obtain⟨e,he,rfl⟩:=List.mem_map.1 hy;exact hd e he hx
theorem ZFq {v:Zb}:∀ (c:CT) {m:Bool} {z:c.den} {cs:List Value} {es:List Loc} (n:Nat) {x:V} {l2:Lo} {n2:Nat},CR v c m z cs es→Zl c z n=(x,l2,n2) →
  n≤n2∧(∀ e ∈ l2,n≤e.k∧e.k<n2∧n≤e.st∧e.st<n2∧e.x.ok (· < n2) (· < n2))∧(l2.map En.k).Nodup∧x.ok (· < n2)∧x.isAgg=c.isAgg ∧
  ∃ γ0:Nat→Gh,∀ (γ:Nat→Gh) (l:Lo),(∀ e ∈ l2,γ e.k=γ0 e.k∧lkE l e.k=some e)→RR v γ l m x cs∧∃ E,F2 (Zsa v γ l) l2 E∧es.Perm E.flatten:=by
 intro c
 induction c with
 | dat t =>
  intro m z cs es n x l2 n2 h hi
  cases m with
  | true=>exact h.elim
  | false =>
  cases hi
  obtain⟨h1,rfl⟩:=h;exact⟨Nat.le_refl _,λe he=>(by cases he),List.nodup_nil,trivial,rfl,λ_=>.box 0,λγ l _=>⟨h1,[],trivial,List.Perm.refl _⟩⟩
 | own ty t =>
  intro m z cs es n x l2 n2 h hi
  cases m with
  | true=>exact h.elim
  | false =>
  cases hi
  obtain⟨ob,cap,d,rfl,h2,rfl⟩:=h;refine⟨Nat.le_succ _,λe he=>?_,?_,Nat.lt_succ_self n,rfl,λ_=>.own ob cap,λγ l hl=>?_⟩
  ·rcases List.mem_singleton.1 he with rfl;exact⟨Nat.le_refl _,Nat.lt_succ_self _,Nat.le_refl _,Nat.lt_succ_self _,trivial⟩
  ·exact List.nodup_cons.2 ⟨by simp,List.nodup_nil⟩
  ·obtain⟨hg,hlk⟩:=hl _ (List.mem_singleton.2 rfl);refine⟨⟨_,rfl,rfl,λe he=>?_⟩,[_],⟨⟨ob,cap,d,hg,h2,rfl⟩,trivial⟩,List.Perm.refl _⟩;rw[show lkE l n=_ from hlk]at he;cases he;exact⟨ob,cap,hg,rfl⟩
 | mat ty ty2 t =>
  intro m z cs es n x l2 n2 h hi
  cases m with
  | true=>exact h.elim
  | false =>
  cases hi
  obtain⟨ob,cap,rows,es2,rfl,h2,rfl⟩:=h;refine⟨Nat.le_succ _,λe he=>?_,?_,Nat.lt_succ_self n,rfl,λ_=>.mat ob cap rows,λγ l hl=>?_⟩
  ·rcases List.mem_singleton.1 he with rfl;exact⟨Nat.le_refl _,Nat.lt_succ_self _,Nat.le_refl _,Nat.lt_succ_self _,Nat.lt_succ_self n⟩
  ·exact List.nodup_cons.2 ⟨by simp,List.nodup_nil⟩
  ·obtain⟨hg,hlk⟩:=hl _ (List.mem_singleton.2 rfl);refine⟨⟨_,rfl,rfl,λe he=>?_⟩,[_],⟨⟨ob,cap,rows,es2,hg,h2,rfl⟩,trivial⟩,by simp⟩;rw[show lkE l n=_ from hlk]at he;cases he;exact⟨ob,cap,rows,hg,rfl⟩
 | nl =>
  intro m z cs es n x l2 n2 h hi
  cases hi
  have h:cs=[]∧es=[]:=by cases m <;> exact h
  obtain⟨rfl,rfl⟩:=h;exact⟨Nat.le_refl _,λe he=>(by cases he),List.nodup_nil,trivial,rfl,λ_=>.box 0,λγ l _=>⟨by cases m <;> rfl,[],trivial,List.Perm.refl _⟩⟩
 | one c ih =>
  intro m z cs es n x l2 n2 h hi;have hi:((.cons (Zl c z n).1 .nl:V),(Zl c z n).2.1,(Zl c z n).2.2)=(x,l2,n2):=hi
  cases hi
  cases m with
  | false =>
   obtain⟨k1,k2,k3,k4,k5,γ0,k6⟩:=ih n (x:=(Zl c z n).1) (l2:=(Zl c z n).2.1) (n2:=(Zl c z n).2.2) h rfl;exact⟨k1,k2,k3,⟨k4,trivial⟩,rfl,γ0,λγ l hl=>⟨⟨cs,[],by simp,(k6 γ l hl).1,rfl⟩,(k6 γ l hl).2⟩⟩
  | true =>
   obtain⟨c1,rfl,h⟩:=h;obtain⟨k1,k2,k3,k4,k5,γ0,k6⟩:=ih n (x:=(Zl c z n).1) (l2:=(Zl c z n).2.1) (n2:=(Zl c z n).2.2) h rfl;exact⟨k1,k2,k3,⟨k4,trivial⟩,rfl,γ0,λγ l hl=>⟨⟨c1,[],by rw[Zlg k5],(k6 γ l hl).1,rfl⟩,(k6 γ l hl).2⟩⟩
 | cons c d ia ib =>
  intro m z cs es n x l2 n2 h hi;have hi:((.cons (Zl c z.1 n).1 (Zl d z.2 (Zl c z.1 n).2.2).1:V),(Zl c z.1 n).2.1++(Zl d z.2 (Zl c z.1 n).2.2).2.1,(Zl d z.2 (Zl c z.1 n).2.2).2.2)=(x,l2,n2):=hi
  cases hi
  have step:∀ {c1 c2:List Value} {m2:Bool} {e1 e2:List Loc},CR v c false z.1 c1 e1→CR v d m2 z.2 c2 e2→es=e1++e2→n≤(Zl d z.2 (Zl c z.1 n).2.2).2.2∧(∀ e ∈ (Zl c z.1 n).2.1++(Zl d z.2 (Zl c z.1 n).2.2).2.1,n≤e.k∧e.k<(Zl d z.2 (Zl c z.1 n).2.2).2.2∧n≤e.st∧e.st<(Zl d z.2 (Zl c z.1 n).2.2).2.2∧e.x.ok (· < (Zl d z.2 (Zl c z.1 n).2.2).2.2) (· < (Zl d z.2 (Zl c z.1 n).2.2).2.2))∧(((Zl c z.1 n).2.1++(Zl d z.2 (Zl c z.1 n).2.2).2.1).map En.k).Nodup∧((Zl c z.1 n).1.ok (· < (Zl d z.2 (Zl c z.1 n).2.2).2.2)∧(Zl d z.2 (Zl c z.1 n).2.2).1.ok (· < (Zl d z.2 (Zl c z.1 n).2.2).2.2))∧(Zl c z.1 n).1.isAgg=c.isAgg ∧
    ∃ γ0:Nat→Gh,∀ (γ:Nat→Gh) (l:Lo),(∀ e ∈ (Zl c z.1 n).2.1++(Zl d z.2 (Zl c z.1 n).2.2).2.1,γ e.k=γ0 e.k∧lkE l e.k=some e)→RR v γ l false (Zl c z.1 n).1 c1∧RR v γ l m2 (Zl d z.2 (Zl c z.1 n).2.2).1 c2∧∃ E,F2 (Zsa v γ l) ((Zl c z.1 n).2.1++(Zl d z.2 (Zl c z.1 n).2.2).2.1) E∧es.Perm E.flatten:=by
   intro c1 c2 m2 e1 e2 h1 h2 he;obtain⟨k1,k2,k3,k4,k5,γa,k6⟩:=ia n (x:=(Zl c z.1 n).1) (l2:=(Zl c z.1 n).2.1) (n2:=(Zl c z.1 n).2.2) h1 rfl;obtain⟨q1,q2,q3,q4,q5,γb,q6⟩:=ib (Zl c z.1 n).2.2 (x:=(Zl d z.2 (Zl c z.1 n).2.2).1) (l2:=(Zl d z.2 (Zl c z.1 n).2.2).2.1) (n2:=(Zl d z.2 (Zl c z.1 n).2.2).2.2) h2 rfl;have hd:∀ e ∈ (Zl d z.2 (Zl c z.1 n).2.2).2.1,e.k ∉ ((Zl c z.1 n).2.1).map En.k:=λe he hm=>by
    obtain⟨e',he',hk⟩:=List.mem_map.1 hm;have:=(k2 e' he').2.1;have:=(q2 e he).1;omega
   have up:∀ k,k<(Zl c z.1 n).2.2→k<(Zl d z.2 (Zl c z.1 n).2.2).2.2:=λk hk=>Nat.lt_of_lt_of_le hk q1;refine⟨Nat.le_trans k1 q1,λe he=>?_,Zui k3 q3 hd,⟨V.ok.mono up k4,q4⟩,k5,λk=>if k ∈ ((Zl c z.1 n).2.1).map En.k then γa k else γb k,λγ l hl=>⟨(k6 γ l (Zpl hl)).1,(q6 γ l (ZQk hd hl)).1,?_⟩⟩
   ·rcases List.mem_append.1 he with he | he
    ·obtain⟨r1,r2,r3,r4,r5⟩:=k2 e he;exact⟨r1,up _ r2,r3,up _ r4,LV.ok.mono up up r5⟩
    ·obtain⟨r1,r2,r3,r4,r5⟩:=q2 e he;exact⟨Nat.le_trans k1 r1,r2,Nat.le_trans k1 r3,r4,r5⟩
   ·obtain⟨E1,g1,g2⟩:=(k6 γ l (Zpl hl)).2;obtain⟨E2,g3,g4⟩:=(q6 γ l (ZQk hd hl)).2;exact⟨E1++E2,g1.append g3,by rw[he,List.flatten_append];exact g2.append g4⟩
  cases m with
  | false =>
   obtain⟨c1,c2,e1,e2,rfl,he,h1,h2⟩:=h;obtain⟨k1,k2,k3,k4,k5,γ0,k6⟩:=step h1 h2 he;exact⟨k1,k2,k3,k4,rfl,γ0,λγ l hl=>⟨⟨c1,c2,rfl,(k6 γ l hl).1,(k6 γ l hl).2.1⟩,(k6 γ l hl).2.2⟩⟩
  | true =>
   obtain⟨c1,c2,e1,e2,rfl,he,h1,h2⟩:=h;obtain⟨k1,k2,k3,k4,k5,γ0,k6⟩:=step h1 h2 he;exact⟨k1,k2,k3,k4,rfl,γ0,λγ l hl=>⟨⟨c1,c2,by rw[Zlg k5],(k6 γ l hl).1,(k6 γ l hl).2.1⟩,(k6 γ l hl).2.2⟩⟩
 | agg c ih =>
  intro m z cs es n x l2 n2 h hi
  cases m with
  | true=>exact h.elim
  | false =>
  have hi:((.agg (Zl c z n).1:V),(Zl c z n).2.1,(Zl c z n).2.2)=(x,l2,n2):=hi
  cases hi
  obtain⟨k1,k2,k3,k4,k5,γ0,k6⟩:=ih (m:=false) n (x:=(Zl c z n).1) (l2:=(Zl c z n).2.1) (n2:=(Zl c z n).2.2) h rfl;exact⟨k1,k2,k3,k4,rfl,γ0,k6⟩
 | box ty c ih =>
  intro m z cs es n x l2 n2 h hi
  cases m with
  | true=>exact h.elim
  | false =>
  have hi:((.ptr n 0:V),(⟨n,n,.box ty (Zl c z (n+1)).1⟩ :: (Zl c z (n+1)).2.1:Lo),(Zl c z (n+1)).2.2)=(x,l2,n2):=hi
  cases hi
  obtain⟨b,c1,e1,rfl,h2,h3,rfl⟩:=h;obtain⟨k1,k2,k3,k4,k5,γ0,k6⟩:=ih (m:=false) (n+1) (x:=(Zl c z (n+1)).1) (l2:=(Zl c z (n+1)).2.1) (n2:=(Zl c z (n+1)).2.2) h2 rfl;have hd:∀ e ∈ (Zl c z (n+1)).2.1,e.k≠n:=λe he hk=>by have:=(k2 e he).1;omega
  refine⟨by omega,λe he=>?_,List.nodup_cons.2 ⟨λhm=>?_,k3⟩,(show n<_ by omega),rfl,λk=>if k=n then .box b else γ0 k,λγ l hl=>?_⟩
  ·rcases List.mem_cons.1 he with rfl | he
   ·exact⟨Nat.le_refl _,(show n<_ by omega),Nat.le_refl _,(show n<_ by omega),k4⟩
   ·obtain⟨r1,r2,r3,r4,r5⟩:=k2 e he;exact⟨by omega,r2,by omega,r4,r5⟩
  ·obtain⟨e,he,hk⟩:=List.mem_map.1 hm;exact hd e he hk
  ·obtain⟨hg,hlk⟩:=hl _ List.mem_cons_self;have hg:γ n = .box b:=by rw[show γ n=_ from hg];exact iP rfl
   obtain⟨q1,E,q2,q3⟩:=k6 γ l λe he=>by
    obtain⟨r1,r2⟩:=hl e (List.mem_cons_of_mem _ he);exact⟨r1.trans (iN (hd e he)),r2⟩
   refine⟨⟨_,rfl,rfl,λe he=>?_⟩,[_] :: E,⟨⟨b,c1,hg,q1,h3,rfl⟩,q2⟩,by rw[List.flatten_cons];exact List.Perm.cons _ q3⟩;rw[show lkE l n=_ from hlk]at he;cases he;exact⟨b,hg,rfl⟩
 | mp =>
  intro m z cs es n x l2 n2 h hi
  cases m with
  | true=>exact h.elim
  | false =>
  cases hi
  obtain⟨g,y,rfl,h2,h3⟩:=h;refine⟨Nat.le_succ _,λe he=>?_,?_,Nat.lt_succ_self n,rfl,λ_=>g,λγ l hl=>?_⟩
  ·rcases List.mem_singleton.1 he with rfl;exact⟨Nat.le_refl _,Nat.lt_succ_self _,Nat.le_refl _,Nat.lt_succ_self _,trivial⟩
  ·exact List.nodup_cons.2 ⟨by simp,List.nodup_nil⟩
  ·obtain⟨hg,hlk⟩:=hl _ (List.mem_singleton.2 rfl);have hg:γ n=g:=hg;refine⟨⟨_,rfl,ZSx h2,λe he=>?_⟩,[_],⟨(show ZZe (γ n) z es by rw[hg];exact h3),trivial⟩,by simp⟩;rw[show lkE l n=_ from hlk]at he;cases he;show mpH (γ n) z y;rw[hg];exact h2
 | it=>intro m z cs es n x l2 n2 h hi;cases m <;> exact h.elim
 | lst ty tyD tyG e =>
  intro m z cs es n x l2 n2 h hi
  cases m with
  | true=>exact h.elim
  | false =>
  rcases h with ⟨rfl,rfl,rfl⟩ | ⟨l0,y0,b,cap,d,d0,o1,o2,k1,k2,d1,d2,rfl,rfl,h3,h4,h5,h6,rfl⟩
  ·cases hi
   exact⟨Nat.le_refl _,λe he=>(by cases he),List.nodup_nil,trivial,rfl,λ_=>.box 0,λγ l _=>⟨rfl,[],trivial,List.Perm.refl _⟩⟩
  ·have hi:((.own n:V),([⟨n,n,.lst ty (stepT e) l0 (.agg (.cons (.data .str y0.1) (.cons (.own (n+1)) (.cons (.own (n+2)) .nl))))⟩,⟨n+1,n+1,.own tyD .str y0.2.1 false⟩,⟨n+2,n+2,.own tyG e y0.2.2 false⟩]:Lo),n+3)=(x,l2,n2):=by
    exact hi
   cases hi
   refine⟨by omega,λe he=>?_,?_,(show n<_ by omega),rfl,λk=>if k=n then .own (some b) cap else if k=n+1 then .own o1 k1 else .own o2 k2,λγ l hl=>?_⟩
   ·simp only[List.mem_cons,List.mem_nil_iff,or_false]at he;rcases he with rfl | rfl | rfl
    ·exact⟨Nat.le_refl _,(show n<_ by omega),Nat.le_refl _,(show n<_ by omega),⟨trivial,(show n+1<n+3 by omega),(show n+2<n+3 by omega),trivial⟩⟩
    ·exact⟨(show n≤n+1 by omega),(show n+1<n+3 by omega),(show n≤n+1 by omega),(show n+1<n+3 by omega),trivial⟩
    ·exact⟨(show n≤n+2 by omega),(show n+2<n+3 by omega),(show n≤n+2 by omega),(show n+2<n+3 by omega),trivial⟩
   ·simp
   ·obtain⟨a1,b1⟩:=hl _ (by simp:(⟨n,n,.lst ty (stepT e) l0 (.agg (.cons (.data .str y0.1) (.cons (.own (n+1)) (.cons (.own (n+2)) .nl))))⟩:En LV) ∈ _);obtain⟨a2,b2⟩:=hl _ (by simp:(⟨n+1,n+1,.own tyD .str y0.2.1 false⟩:En LV) ∈ _);obtain⟨a3,b3⟩:=hl _ (by simp:(⟨n+2,n+2,.own tyG e y0.2.2 false⟩:En LV) ∈ _);have a1:γ n = .own (some b) cap:=a1.trans (iP rfl);have a2:γ (n+1) = .own o1 k1:=a2.trans ((iN (by show ¬ n+1=n;omega)).trans (iP rfl));have a3:γ (n+2) = .own o2 k2:=a3.trans ((iN (by show ¬ n+2=n;omega)).trans (iN (by show ¬ n+2=n+1;omega)));have hpl:(d0++[Value.slice (mkA o1) y0.2.1.length k1,.slice (mkA o2) y0.2.2.length k2]).all plain=true:=by
     rw[List.all_append,Rep.flat _ h4];cases o1 <;> cases o2 <;> rfl
    have hd0:d0.length=1:=Rep.len _ h4;refine⟨⟨_,rfl,rfl,λe he=>?_⟩,[[_],[_],[_]],⟨⟨b,cap,d,_,a1,h3,?_,hpl,?_,rfl⟩,⟨o1,k1,d1,a2,h5,rfl⟩,⟨o2,k2,d2,a3,h6,rfl⟩,trivial⟩,List.Perm.refl _⟩
    ·rw[show lkE l n=_ from b1]at he;cases he;exact⟨_,_,a1,rfl⟩
    ·refine⟨d0,[Value.slice (mkA o1) y0.2.1.length k1,.slice (mkA o2) y0.2.2.length k2],rfl,h4,[Value.slice (mkA o1) y0.2.1.length k1],[.slice (mkA o2) y0.2.2.length k2],rfl,⟨_,rfl,by cases o1 <;> rfl,λe he=>?_⟩,[.slice (mkA o2) y0.2.2.length k2],[],rfl,⟨_,rfl,by cases o2 <;> rfl,λe he=>?_⟩,rfl⟩
     ·rw[show lkE l (n+1)=_ from b2]at he;cases he;exact⟨_,_,a2,rfl⟩
     ·rw[show lkE l (n+2)=_ from b3]at he;cases he;exact⟨_,_,a3,rfl⟩
    ·rw[lA,hd0];rfl
end Go.Eng
namespace Go.Eng
open Go.RowKit
theorem ZXu {v v':Zb} (h:v.le v') {c:CT} {z:c.den} {g:Gh} {es:List Loc} (k:CRL v c z g es):CRL v' c z g es:=by
 cases c with
 | own ty t=>obtain⟨ob,cap,d,h1,h2,h3⟩:=k;exact⟨ob,cap,d,h1,ZR h h2,h3⟩
 | mat ty ty2 t=>obtain⟨ob,cap,rows,es2,h1,h2,h3⟩:=k;exact⟨ob,cap,rows,es2,h1,Zqc h h2,h3⟩
 | box ty c=>obtain⟨b,c1,e1,h1,h2,h3,h4⟩:=k;exact⟨b,c1,e1,h1,Zbl h h2,h3,h4⟩
 | agg c=>cases c with
  | mat ty ty2 t=>obtain⟨ob,cap,rows,es2,h1,h2,h3⟩:=k;exact⟨ob,cap,rows,es2,h1,Zqc h h2,h3⟩
  | _=>exact k.elim
 | it=>exact k
 | _=>exact k.elim
def Zbg (p:Nat→Prop) (h:Nat):(c:CT)→c.den→LV→Prop
 | .own ty t,z,L=>L = .own ty t z false
 | .mat ty ty2 t,z,L=>∃ hv,p hv∧L = .mat ty ty2 t z hv
 | .box ty _,_,L=>∃ x,L = .box ty x
 | .agg (.mat ty ty2 t),z,L=>L = .mat ty ty2 t z h
 | .it,z,L=>L = .it z.1 z.2
 | _,_,_=>False
theorem ZSr {U:Nat→Prop} {γ1 γ2 γ3:Nat→Gh} {u s1 s2 s3:Nat} {x1 x2 x3:LV} (c1:CE U γ1 γ2 u s1 s2 x1 x2) (c2:CE U γ2 γ3 u s2 s3 x2 x3):CE U γ1 γ3 u s1 s3 x1 x3:=CE.tr c1 c2
theorem ZGk {U U':Nat→Prop} {γ γ1 γ2:Nat→Gh} {u s s':Nat} {x x':LV} (hU:∀ k,U k→U' k) (hg:γ2 u=γ1 u) (c:CE U' γ γ1 u s s' x x'):CE U γ γ2 u s s' x x':=by
  cases x <;> cases x' <;> simp only[CE]at c ⊢
  · rw[hg,c]
  · exact⟨hg.trans c.1,c.2.1,c.2.2.1,λh=>c.2.2.2 (hU _ h)⟩
  all_goals first
    | exact⟨hg.trans c.1,c.2⟩
    | exact hg.trans c
    | (obtain⟨ob,cap,rows,a1,a2,a3⟩:=c;exact⟨ob,cap,rows,a1,hg.trans a2,a3⟩)
    | (obtain⟨a1,a2,⟨ob,cap,rows,rows',a3,a4,a5⟩,a6⟩:=c
       exact⟨a1,a2,⟨ob,cap,rows,rows',a3,hg.trans a4,λh=>a5 (hU _ h)⟩,λh=>a6 (hU _ h)⟩)
theorem CE_head {U:Nat→Prop} {γ γ':Nat→Gh} {u s s' n0 hh:Nat} {c:CT} {z:c.den} {L L':LV} {v:Zb} {es:List Loc} (hU:∀ k,n0≤k→¬ U k) (hs:n0≤s') (h:Zbg (λ_=>True) hh c z L) (h':Zbg (n0≤·) hh c z L') (hg:γ' u=γ u) (hc:CRL v c z (γ u) es):CE U γ γ' u s s' L L':=by
 cases c with
 | own ty t=>subst h;subst h';exact⟨hg,rfl,rfl,λe=>absurd e (hU _ hs)⟩
 | mat ty ty2 t =>
  obtain⟨hv,_,rfl⟩:=h;obtain⟨hv',h2,rfl⟩:=h';obtain⟨ob,cap,rows,es2,h3,h4,h5⟩:=hc;exact⟨rfl,rfl,⟨ob,cap,rows,rows,h3,hg.trans h3,λe=>absurd e (hU _ h2)⟩,λe=>absurd e (hU _ hs)⟩
 | box ty c=>obtain⟨x,rfl⟩:=h;obtain⟨x',rfl⟩:=h';exact hg
 | agg c=>cases c with
  | mat ty ty2 t =>
   subst h;subst h';obtain⟨ob,cap,rows,es2,h3,h4,h5⟩:=hc;exact⟨rfl,rfl,⟨ob,cap,rows,rows,h3,hg.trans h3,λ_=>⟨rfl,rfl,rfl⟩⟩,λe=>absurd e (hU _ hs)⟩
  | _=>exact h.elim
 | it=>subst h;subst h';exact hg
 | _=>exact h.elim
section
variable {N:Nat} {G:V→Value→Prop} {w0:Base} {v0:Zb} {U X:Nat→Prop} {f:Fr} {a:Act} {w:World} {n:Nat}
theorem Zxk {ρ:Type} (hn:¬ U n) (hX:X n) {hh:Nat} {c:CT} {u:Nat} (hu:U u) {K:c.den→Ev ρ} {l:Lo} {Post:ρ→Fr→Lo→Prop} {γ:Nat→Gh} {v:Zb} {ℓ ex:List Loc}
  (h:Zj n (Zjc hh c u K) f l Post) (hr:RelX N G w0 v0 U X f l a w γ v ℓ) (hex:St N w0 v0 [] (ex++ℓ) v a w) :
  ∃ z l' γ' v' ℓ' es e0,Zj n (K z) f l' Post∧RelX N G w0 v0 U X f l' a w γ' v' ℓ'∧St N w0 v0 [] (es++(ex++ℓ')) v' a w∧Le U v γ l v' γ' l'∧CRL v' c z (γ u) es∧lkE l u=some e0∧lkE l' u=none∧Zbg (λ_=>True) hh c z e0.x:=by
 cases c with
 | own ty t =>
  simp only[Zjc]at h;obtain⟨e,he,h⟩:=h;obtain⟨kk,st,L⟩:=e;have hkk:kk=u:=(Zk he).2;subst hkk;obtain⟨es,E',h1,_,_,h3,h4⟩:=hr.del he
  cases L with
  | own ty' t' xs fz =>
   cases fz with
   | true=>exact h.elim
   | false =>
    simp only at h;split at h
    ·rename_i ys hty hcast;have hty:=eQ hty;subst hty;obtain⟨c3,c4⟩:=Z2 hcast
     cases c3;cases c4
     obtain⟨ob,cap,d,g1,g2,rfl⟩:=h1;exact⟨_,_,_,_,_,_,_,h,h4,hex.perm ((List.Perm.append_left ex h3).trans ZGc),Le.era hr kk,⟨ob,cap,d,g1,g2,rfl⟩,he,ZHg (Zzb hr.nd).2,rfl⟩
    ·exact h.elim
  | box _ _=>exact h.elim
  | mid _ _ _ _ _ _=>exact h.elim
  | mp _=>exact h.elim
  | it _ _=>exact h.elim
  | lst _ _ _ _=>exact h.elim
  | mat _ _ _ _ _=>exact h.elim
 | mat ty ty2 t =>
  simp only[Zjc]at h;obtain⟨e,he,h⟩:=h;obtain⟨kk,st,L⟩:=e;have hkk:kk=u:=(Zk he).2;subst hkk;obtain⟨es,E',h1,_,_,h3,h4⟩:=hr.del he
  cases L with
  | mat ty' ty2' t' mm hv =>
   simp only at h;split at h
   ·rename_i m' hty hty2 hcast;have hty:=eQ hty;have hty2:=eQ hty2;subst hty hty2;obtain⟨c3,c4⟩:=Z2 hcast
    cases c3;cases c4
    obtain⟨ob,cap,rows,es2,g1,g2,rfl⟩:=h1;exact⟨_,_,_,_,_,_,_,h,h4,hex.perm ((List.Perm.append_left ex h3).trans ZGc),Le.era hr kk,⟨ob,cap,rows,es2,g1,g2,rfl⟩,he,ZHg (Zzb hr.nd).2,hv,trivial,rfl⟩
   ·exact h.elim
  | box _ _=>exact h.elim
  | mid _ _ _ _ _ _=>exact h.elim
  | mp _=>exact h.elim
  | it _ _=>exact h.elim
  | lst _ _ _ _=>exact h.elim
  | own _ _ _ _=>exact h.elim
 | box ty c =>
  simp only[Zjc]at h;obtain⟨e,he,h⟩:=h;obtain⟨kk,st,L⟩:=e;obtain⟨hm,hkk⟩:=Zk he;have hkk:kk=u:=hkk;subst hkk;obtain⟨es,E',h1,_,_,h3,h4⟩:=hr.del he
  cases L with
  | box ty' x1 =>
   simp only at h;split at h
   ·rename_i hty;have hty:=eQ hty;subst hty;obtain⟨b,c1,g1,g2,g3,rfl⟩:=h1;have hk1:x1.ok U:=(hr.ul _ hm).2.2;obtain⟨z,l1,γ1,v1,ℓ1,e1,k1,k2,k3,k4,k5,k6⟩:=Zhe hn hX FU (ex:=.box b ty c1 :: ex) h h4 (hex.perm ((List.Perm.append_left ex h3).trans ZGc)) hk1 (ZAa (Le.era hr kk) hk1 g2);refine⟨z,l1,γ1,v1,ℓ1,.box b ty c1 :: e1,_,k1,k2,k3.perm ?_,(Le.era hr kk).trans k4,⟨b,c1,e1,g1,k5,g3,rfl⟩,he,?_,x1,rfl⟩
    ·exact List.perm_middle
    ·cases hx:lkE l1 kk with
     | none=>rfl
     | some e' =>
      obtain⟨e,he2,_⟩:=k4.l kk e' hu hx;rw[ZHg (Zzb hr.nd).2]at he2;cases he2
   ·exact h.elim
  | own _ _ _ _=>exact h.elim
  | mid _ _ _ _ _ _=>exact h.elim
  | mp _=>exact h.elim
  | it _ _=>exact h.elim
  | lst _ _ _ _=>exact h.elim
  | mat _ _ _ _ _=>exact h.elim
 | agg c=>cases c with
  | mat ty ty2 t =>
   simp only[Zjc]at h;obtain⟨e,he,h⟩:=h;obtain⟨kk,st,L⟩:=e;have hkk:kk=u:=(Zk he).2;subst hkk;obtain⟨es,E',h1,_,_,h3,h4⟩:=hr.del he
   cases L with
   | mat ty' ty2' t' mm hv =>
    simp only at h;split at h
    ·rename_i m' hty hty2 hcast hhv;have hty:=eQ hty;have hty2:=eQ hty2;have hhv:=eQ hhv;subst hty hty2 hhv;obtain⟨c3,c4⟩:=Z2 hcast
     cases c3;cases c4
     obtain⟨ob,cap,rows,es2,g1,g2,rfl⟩:=h1;exact⟨_,_,_,_,_,_,_,h,h4,hex.perm ((List.Perm.append_left ex h3).trans ZGc),Le.era hr kk,⟨ob,cap,rows,es2,g1,g2,rfl⟩,he,ZHg (Zzb hr.nd).2,rfl⟩
    ·exact h.elim
   | box _ _=>exact h.elim
   | mid _ _ _ _ _ _=>exact h.elim
   | mp _=>exact h.elim
   | it _ _=>exact h.elim
   | lst _ _ _ _=>exact h.elim
   | own _ _ _ _=>exact h.elim
  | _=>simp only[Zjc]at h;exact h.elim
 | it =>
  simp only[Zjc]at h;obtain⟨e,he,h⟩:=h;obtain⟨kk,st,L⟩:=e;have hkk:kk=u:=(Zk he).2;subst hkk;obtain⟨es,E',h1,_,_,h3,h4⟩:=hr.del he
  cases L with
  | it s p=>exact⟨_,_,_,_,_,_,_,h,h4,hex.perm ((List.Perm.append_left ex h3).trans ZGc),Le.era hr kk,h1,he,ZHg (Zzb hr.nd).2,rfl⟩
  | _=>exact h.elim
 | _=>simp only[Zjc]at h;exact h.elim
end
theorem Zei:∀ (g:Nat) {x z:V} {off n:Nat} {ag:Bool} {U:Nat→Prop},Zga g x off n ag=some z→x.ok U→z.ok U
 | 0,_,_,_,_,_,_,h,_=>by cases h
 | g+1,x,z,off,n,ag,U,h,hk=>by
  have whole:∀ {y:V},(match Nat.beq off 0,Nat.beq y.size n,eqB y.isAgg ag with
    | true,true,true=>some y
    | _,_,_=>match y with
     | .agg c=>Zga g c off n ag
     | .data t x=>match Zac t x with
      | some c=>Zga g c off n ag
      | none=>none
     | _=>none)=some z→y.ok U→z.ok U:=by
   intro y hy hk;split at hy
   ·cases hy;exact hk
   ·split at hy
    ·exact Zei g hy hk
    ·split at hy
     ·rename_i he;exact Zei g hy (Znt he)
     ·cases hy
    ·cases hy
  cases x with
  | nl=>simp only[Zga]at h;cases h
  | cons a b =>
   simp only[Zga]at h;split at h
   ·exact Zei g h hk.1
   ·split at h
    ·exact Zei g h hk.2
    ·cases h
  | data t x=>exact whole (y:=.data t x) h hk
  | agg c=>exact whole (y:=.agg c) h hk
  | nilS=>exact whole (y:=.nilS) h hk
  | own u=>exact whole (y:=.own u) h hk
  | row u i hv cv t r=>exact whole (y:=.row u i hv cv t r) h hk
  | ptr u o=>exact whole (y:=.ptr u o) h hk
  | el u i cv t x o=>exact whole (y:=.el u i cv t x o) h hk
  | rp u i hv cv t r=>exact whole (y:=.rp u i hv cv t r) h hk
  | rel u i j hv cv t r x o=>exact whole (y:=.rel u i j hv cv t r x o) h hk
  | vp t x o=>exact whole (y:=.vp t x o) h hk
  | tup c=>exact whole (y:=.tup c) h hk
  | fn f c=>exact whole (y:=.fn f c) h hk
  | ifc f c=>exact whole (y:=.ifc f c) h hk
  | undef=>exact whole (y:=.undef) h hk
structure H0 (G:V→Value→Prop) (n0:Nat) (f0:Fr) (l0:Lo):Prop where
 f:∀ t e,lkE f0 t=some e→e.x.ok (· < n0)∧e.st<n0
 l:∀ e ∈ l0,e.k<n0∧e.st<n0∧e.x.ok (· < n0) (· < n0)
 nd:(l0.map En.k).Nodup
 g:∀ x y,G x y→x.ok (· < n0)
theorem Rel.h0 {N:Nat} {G:V→Value→Prop} {w0:Base} {v0:Zb} {n:Nat} {f:Fr} {l:Lo} {a:Act} {w:World} (h:Rel N G w0 v0 (· < n) f l a w):H0 G n f l:=by
 obtain⟨γ,v,ℓ,h⟩:=h;exact⟨h.uf,h.ul,h.nd,λx y hg=>(h.gh x y hg).2⟩
theorem hvOf_le {G:V→Value→Prop} {n0:Nat} {f0:Fr} {l0:Lo} (h0:H0 G n0 f0 l0) (u:Nat):ZWa l0 u≤n0:=by
 unfold ZWa;split
 ·rename_i he;exact Nat.le_of_lt (h0.l _ (Zk he).1).2.2
 ·exact Nat.zero_le _
theorem ZYr {x:V} {u n:Nat} (h:idV x=some u) (hk:x.ok (· < n)):u<n:=by
 unfold idV at h;split at h
 ·cases h;exact hk
 ·cases h;exact hk
 ·cases h
theorem ZRk {G:V→Value→Prop} {n0:Nat} {f0:Fr} {l0:Lo} (h0:H0 G n0 f0 l0):∀ {p:Pl} {u:Nat},Zdc f0 l0 p=some u→u<n0
 | .sl s,u,h=>by
  simp only[Zdc]at h
  split at h
  ·rename_i e he;exact ZYr h (h0.f _ _ he).1
  ·cases h
 | .fld p off,u,h=>by
  simp only[Zdc]at h
  split at h
  ·split at h
   ·rename_i he
    split at h
    ·rename_i hg
     have:=(h0.l _ (Zk he).1).2.2
     exact ZYr h (Zei FU hg this)
    ·cases h
   ·cases h
  ·cases h
def SRel (a:Act) (v:Zb) (t:Nat) (c:CT) (z:c.den) (es:List Loc):Prop:=∃ cs,a.tmps.getD t undef=c.vl cs∧CR v c false z cs es
def LRel (v:Zb) (γ:Nat→Gh) (l:Lo) (n0:Nat) (f0:Fr) (l0:Lo) (u:Nat) (p:Pl) (c:CT) (z:c.den) (es:List Loc):Prop :=
 Zdc f0 l0 p=some u∧∃ g e0,lkE l u=some e0∧CRL v c z g es∧∀ (γ':Nat→Gh) (st':Nat) (L':LV),γ' u=g→n0≤st'→Zbg (n0≤·) (ZWa l0 u) c z L'→CE (· < n0) γ γ' u e0.st st' e0.x L'
def VRel (a:Act) (v:Zb) (γ:Nat→Gh) (l:Lo) (n0:Nat) (f0:Fr) (l0:Lo):(vs:List Vr)→(ctL (vs.map Vr.ct)).den→List Loc→List Nat→Prop
 | [],_,es,us=>es=[]∧us=[]
 | [.s t c],z,es,us=>us=[]∧SRel a v t c z es
 | [.l p c],z,es,us=>∃ u,us=[u]∧LRel v γ l n0 f0 l0 u p c z es
 | .s t c :: w :: r,z,es,us=>∃ e1 e2,es=e1++e2∧SRel a v t c z.1 e1∧VRel a v γ l n0 f0 l0 (w :: r) z.2 e2 us
 | .l p c :: w :: r,z,es,us=>∃ e1 e2 u us',es=e1++e2∧us=u :: us'∧LRel v γ l n0 f0 l0 u p c z.1 e1∧VRel a v γ l n0 f0 l0 (w :: r) z.2 e2 us'
theorem ZKu {a:Act} {v v':Zb} (h:v.le v') {t:Nat} {c:CT} {z:c.den} {es:List Loc} (k:SRel a v t c z es):SRel a v' t c z es:=by
 obtain⟨cs,h1,h2⟩:=k;exact⟨cs,h1,Zbl h h2⟩
theorem ZLv {v v':Zb} (h:v.le v') {γ:Nat→Gh} {l:Lo} {n0:Nat} {f0:Fr} {l0:Lo} {u:Nat} {p:Pl} {c:CT} {z:c.den} {es:List Loc} (k:LRel v γ l n0 f0 l0 u p c z es):LRel v' γ l n0 f0 l0 u p c z es:=by
 obtain⟨h1,g,e0,h2,h3,h4⟩:=k;exact⟨h1,g,e0,h2,ZXu h h3,h4⟩
section
variable {N:Nat} {G:V→Value→Prop} {w0:Base} {v0:Zb} {f:Fr} {a:Act} {w:World} {n:Nat}
theorem Zdt {ρ:Type} {t:Nat} {c:CT} {K:c.den→Ev ρ} {l:Lo} {Post:ρ→Fr→Lo→Prop} {γ:Nat→Gh} {v:Zb} {ℓ ex:List Loc}
  (h:Zj n (.rdS t λv=>Z0 FU c v K) f l Post) (hr:RelX N G w0 v0 (· < n) (· < n+1) f l a w γ v ℓ) (hex:St N w0 v0 [] (ex++ℓ) v a w) :
  ∃ z l' γ' v' ℓ' es,Zj n (K z) f l' Post∧RelX N G w0 v0 (· < n) (· < n+1) f l' a w γ' v' ℓ'∧St N w0 v0 [] (es++(ex++ℓ')) v' a w∧Le (· < n) v γ l v' γ' l'∧SRel a v' t c z es:=by
 obtain⟨e,he,h⟩:=h;have hrv:=hr.fr t e he;obtain⟨cs,hcs,hy⟩:=Z8a hrv (λq hq=>by rw[hq]at h;exact Zex h);obtain⟨z,l',γ',v',ℓ',es,k1,k2,k3,k4,k5,k6⟩:=Zhe (U:=(· < n)) (X:=(· < n+1)) (Nat.lt_irrefl n) (Nat.lt_succ_self n) FU h hr hex (hr.uf t e he).1 hcs;exact⟨z,l',γ',v',ℓ',es,k1,k2,k3,k4,cs,by rw[hy,Zlg k6],k5⟩
theorem ZEs {ρ:Type} {u:Nat} {p:Pl} {c:CT} {K:c.den→Ev ρ} {l lE f0l:Lo} {f0:Fr} {n0:Nat} {Post:ρ→Fr→Lo→Prop} {γ γE:Nat→Gh} {v vE:Zb} {ℓ ex:List Loc} (h0:H0 G n0 f0 f0l) (hn0:n0≤n) (hid:Zdc f0 f0l p=some u)
  (h:Zj n (Zjc (ZWa f0l u) c u K) f l Post) (hr:RelX N G w0 v0 (· < n) (· < n+1) f l a w γ v ℓ) (hex:St N w0 v0 [] (ex++ℓ) v a w) (hE:Le (· < n) vE γE lE v γ l) :
  ∃ z l' γ' v' ℓ' es,Zj n (K z) f l' Post∧RelX N G w0 v0 (· < n) (· < n+1) f l' a w γ' v' ℓ'∧St N w0 v0 [] (es++(ex++ℓ')) v' a w∧Le (· < n) v γ l v' γ' l'∧LRel v' γE lE n0 f0 f0l u p c z es∧(∃ e,lkE l u=some e)∧lkE l' u=none:=by
 have hu:u<n:=Nat.lt_of_lt_of_le (ZRk h0 hid) hn0;obtain⟨z,l',γ',v',ℓ',es,e0,k1,k2,k3,k4,k5,k6,k7,k8⟩:=Zxk (U:=(· < n)) (X:=(· < n+1)) (Nat.lt_irrefl n) (Nat.lt_succ_self n) hu h hr hex;obtain⟨eE,q1,q2⟩:=hE.l u e0 hu k6;refine⟨z,l',γ',v',ℓ',es,k1,k2,k3,k4,⟨hid,γ u,eE,q1,k5,λγ2 st' L' hg hs hh=>?_⟩,⟨e0,k6⟩,k7⟩;exact ZSr (ZGk (λk hk=>Nat.lt_of_lt_of_le hk hn0) rfl q2) (CE_head (n0:=n0) (λk hk h=>by omega) hs k8 hh hg k5)
theorem ZBl {ρ:Type} {f0:Fr} {l0 lE:Lo} {n0:Nat} {γE:Nat→Gh} {vE:Zb} (h0:H0 G n0 f0 l0) (hn0:n0≤n):∀ {vs:List Vr} {K:(ctL (vs.map Vr.ct)).den→Ev ρ} {l:Lo} {Post:ρ→Fr→Lo→Prop} {γ:Nat→Gh} {v:Zb} {ℓ ex:List Loc},
  Zj n (ZAe f0 l0 vs K) f l Post→RelX N G w0 v0 (· < n) (· < n+1) f l a w γ v ℓ→St N w0 v0 [] (ex++ℓ) v a w→Le (· < n) vE γE lE v γ l →
  ∃ z l' γ' v' ℓ' es us,Zj n (K z) f l' Post∧RelX N G w0 v0 (· < n) (· < n+1) f l' a w γ' v' ℓ'∧St N w0 v0 [] (es++(ex++ℓ')) v' a w∧Le (· < n) v γ l v' γ' l'∧VRel a v' γE lE n0 f0 l0 vs z es us∧us.Nodup∧∀ u ∈ us,u<n0∧(∃ e,lkE l u=some e)∧u ∈ Zid f0 l0 vs
 | [],K,l,Post,γ,v,ℓ,ex,h,hr,hex,hE=>by
  obtain⟨E,hE',_⟩:=hr.lr
  exact⟨(),l,γ,v,ℓ,[],[],h,hr,hex,Le.refl hE' (Zb.le_refl _),⟨rfl,rfl⟩,List.nodup_nil,λu hu=>by cases hu⟩
 | [.s t c],K,l,Post,γ,v,ℓ,ex,h,hr,hex,hE=>by
  obtain⟨z,l',γ',v',ℓ',es,k1,k2,k3,k4,k5⟩:=Zdt h hr hex
  exact⟨z,l',γ',v',ℓ',es,[],k1,k2,k3,k4,⟨rfl,k5⟩,List.nodup_nil,λu hu=>by cases hu⟩
 | [.l p c],K,l,Post,γ,v,ℓ,ex,h,hr,hex,hE=>by
  simp only[ZAe]at h
  split at h
  ·rename_i u hid
   obtain⟨z,l',γ',v',ℓ',es,k1,k2,k3,k4,k5,k6,k7⟩:=ZEs h0 hn0 hid h hr hex hE
   refine⟨z,l',γ',v',ℓ',es,[u],k1,k2,k3,k4,⟨u,rfl,k5⟩,List.nodup_cons.2 ⟨by simp,List.nodup_nil⟩,λu' hu=>?_⟩
   rcases List.mem_singleton.1 hu with rfl
   exact⟨ZRk h0 hid,k6,by simp only[Zid,hid];simp⟩
  ·exact h.elim
 | .s t c :: w :: r,K,l,Post,γ,v,ℓ,ex,h,hr,hex,hE=>by
  obtain⟨z1,l1,γ1,v1,ℓ1,e1,k1,k2,k3,k4,k5⟩:=Zdt (K:=λx=>ZAe f0 l0 (w :: r) λy=>K (x,y)) h hr hex
  obtain⟨z2,l2,γ2,v2,ℓ2,e2,us,q1,q2,q3,q4,q5,q6,q7⟩:=ZBl h0 hn0 (ex:=e1++ex) k1 k2 (by rw[aAq];exact k3) (hE.trans k4)
  refine⟨(z1,z2),l2,γ2,v2,ℓ2,e1++e2,us,q1,q2,q3.perm ?_,k4.trans q4,⟨e1,e2,rfl,ZKu q4.v k5,q5⟩,q6,λu hu=>?_⟩
  ·rw[aAq,aAq];exact ZGc
  ·obtain⟨g1,⟨e,g2⟩,g3⟩:=q7 u hu
   obtain⟨e',g4,_⟩:=k4.l u e (show u<_ by omega) g2
   refine⟨g1,⟨e',g4⟩,?_⟩
   simp only[Zid]
   split
   ·exact List.mem_cons_of_mem _ g3
   ·exact g3
 | .l p c :: w :: r,K,l,Post,γ,v,ℓ,ex,h,hr,hex,hE=>by
  simp only[ZAe]at h
  split at h
  ·rename_i u hid
   obtain⟨z1,l1,γ1,v1,ℓ1,e1,k1,k2,k3,k4,k5,k6,k7⟩:=ZEs (K:=λx=>ZAe f0 l0 (w :: r) λy=>K (x,y)) h0 hn0 hid h hr hex hE
   obtain⟨z2,l2,γ2,v2,ℓ2,e2,us,q1,q2,q3,q4,q5,q6,q7⟩:=ZBl h0 hn0 (ex:=e1++ex) k1 k2 (by rw[aAq];exact k3) (hE.trans k4)
   refine⟨(z1,z2),l2,γ2,v2,ℓ2,e1++e2,u :: us,q1,q2,q3.perm ?_,k4.trans q4,⟨e1,e2,u,us,rfl,rfl,ZLv q4.v k5,q5⟩,List.nodup_cons.2 ⟨λhu=>?_,q6⟩,λu' hu=>?_⟩
   ·rw[aAq,aAq];exact ZGc
   ·obtain⟨_,⟨e,g2⟩,_⟩:=q7 u hu
    rw[k7]at g2;cases g2
   ·have hg:Zid f0 l0 (.l p c :: w :: r)=u :: Zid f0 l0 (w :: r):=by simp only[Zid,hid]
    rw[hg]
    rcases List.mem_cons.1 hu with rfl | hu
    ·exact⟨ZRk h0 hid,k6,List.mem_cons_self⟩
    ·obtain⟨g1,⟨e,g2⟩,g3⟩:=q7 u' hu
     obtain⟨e',g4,_⟩:=k4.l u' e (show u'<_ by omega) g2
     exact⟨g1,⟨e',g4⟩,List.mem_cons_of_mem _ g3⟩
  ·exact h.elim
end
end Go.Eng
namespace Go.Eng
open Go.RowKit
theorem Zkj {v:Zb} {hh:Nat} {c:CT} {z:c.den} {g:Gh} {es:List Loc} {u n:Nat} {l2:Lo} {n2:Nat} (h:CRL v c z g es) (hu:u<n) (hhn:hh≤n) (hi:Z1 hh c z u n=(l2,n2)) :
  n<n2∧(∀ e ∈ l2,(e.k=u∧Zbg (n≤·) hh c z e.x∨n≤e.k∧e.k<n2)∧n≤e.st∧e.st<n2∧e.x.ok (· < n2) (· < n2))∧(l2.map En.k).Nodup ∧
  ∃ γ0:Nat→Gh,γ0 u=g∧∀ (γ:Nat→Gh) (l:Lo),(∀ e ∈ l2,γ e.k=γ0 e.k∧lkE l e.k=some e)→∃ E,F2 (Zsa v γ l) l2 E∧es.Perm E.flatten:=by
 cases c with
 | own ty t =>
  cases hi
  obtain⟨ob,cap,d,rfl,h2,rfl⟩:=h;refine⟨Nat.lt_succ_self n,λe he=>?_,List.nodup_cons.2 ⟨by simp,List.nodup_nil⟩,λ_=>.own ob cap,rfl,λγ l hl=>?_⟩
  ·rcases List.mem_singleton.1 he with rfl;exact⟨.inl ⟨rfl,rfl⟩,Nat.le_refl _,Nat.lt_succ_self _,trivial⟩
  ·exact⟨[_],⟨⟨ob,cap,d,(hl _ (List.mem_singleton.2 rfl)).1,h2,rfl⟩,trivial⟩,List.Perm.refl _⟩
 | mat ty ty2 t =>
  cases hi
  obtain⟨ob,cap,rows,es2,rfl,h2,rfl⟩:=h;refine⟨Nat.lt_succ_self n,λe he=>?_,List.nodup_cons.2 ⟨by simp,List.nodup_nil⟩,λ_=>.mat ob cap rows,rfl,λγ l hl=>?_⟩
  ·rcases List.mem_singleton.1 he with rfl;exact⟨.inl ⟨rfl,n,Nat.le_refl _,rfl⟩,Nat.le_refl _,Nat.lt_succ_self _,Nat.lt_succ_self n⟩
  ·exact⟨[_],⟨⟨ob,cap,rows,es2,(hl _ (List.mem_singleton.2 rfl)).1,h2,rfl⟩,trivial⟩,by simp⟩
 | box ty c =>
  have hi:((⟨u,n,.box ty (Zl c z (n+1)).1⟩ :: (Zl c z (n+1)).2.1:Lo),(Zl c z (n+1)).2.2)=(l2,n2):=hi
  cases hi
  obtain⟨b,c1,e1,rfl,h2,h3,rfl⟩:=h;obtain⟨k1,k2,k3,k4,k5,γ0,k6⟩:=ZFq c (m:=false) (n+1) (x:=(Zl c z (n+1)).1) (l2:=(Zl c z (n+1)).2.1) (n2:=(Zl c z (n+1)).2.2) h2 rfl;have hd:∀ e ∈ (Zl c z (n+1)).2.1,e.k≠u:=λe he hk=>by have:=(k2 e he).1;omega
  refine⟨by omega,λe he=>?_,List.nodup_cons.2 ⟨λhm=>?_,k3⟩,λk=>if k=u then .box b else γ0 k,iP rfl,λγ l hl=>?_⟩
  ·rcases List.mem_cons.1 he with rfl | he
   ·exact⟨.inl ⟨rfl,_,rfl⟩,Nat.le_refl _,(show n<_ by omega),k4⟩
   ·obtain⟨r1,r2,r3,r4,r5⟩:=k2 e he;exact⟨.inr ⟨by omega,r2⟩,by omega,r4,r5⟩
  ·obtain⟨e,he,hk⟩:=List.mem_map.1 hm;exact hd e he hk
  ·obtain⟨hg,hlk⟩:=hl _ List.mem_cons_self;have hg:γ u = .box b:=by rw[show γ u=_ from hg];exact iP rfl
   obtain⟨q1,E,q2,q3⟩:=k6 γ l λe he=>by
    obtain⟨r1,r2⟩:=hl e (List.mem_cons_of_mem _ he);exact⟨r1.trans (iN (hd e he)),r2⟩
   exact⟨[_] :: E,⟨⟨b,c1,hg,q1,h3,rfl⟩,q2⟩,by rw[List.flatten_cons];exact List.Perm.cons _ q3⟩
 | agg c=>cases c with
  | mat ty ty2 t =>
   cases hi
   obtain⟨ob,cap,rows,es2,rfl,h2,rfl⟩:=h;refine⟨Nat.lt_succ_self n,λe he=>?_,List.nodup_cons.2 ⟨by simp,List.nodup_nil⟩,λ_=>.mat ob cap rows,rfl,λγ l hl=>?_⟩
   ·rcases List.mem_singleton.1 he with rfl;exact⟨.inl ⟨rfl,rfl⟩,Nat.le_refl _,Nat.lt_succ_self _,Nat.lt_succ_of_le hhn⟩
   ·exact⟨[_],⟨⟨ob,cap,rows,es2,(hl _ (List.mem_singleton.2 rfl)).1,h2,rfl⟩,trivial⟩,by simp⟩
  | _=>exact h.elim
 | it =>
  cases hi
  obtain⟨b,rfl,rfl⟩:=h;refine⟨Nat.lt_succ_self n,λe he=>?_,List.nodup_cons.2 ⟨by simp,List.nodup_nil⟩,λ_=>.box b,rfl,λγ l hl=>?_⟩
  ·rcases List.mem_singleton.1 he with rfl;exact⟨.inl ⟨rfl,rfl⟩,Nat.le_refl _,Nat.lt_succ_self _,trivial⟩
  ·exact⟨[_],⟨⟨b,(hl _ (List.mem_singleton.2 rfl)).1,rfl⟩,trivial⟩,List.Perm.refl _⟩
 | _=>exact h.elim
structure IV (a:Act) (v:Zb) (γE:Nat→Gh) (lE:Lo) (n0:Nat) (us:List Nat) (n1 m:Nat) (f':Fr) (l':Lo) (es:List Loc) (γ0:Nat→Gh):Prop where
 le:n1≤m
 l:∀ e ∈ l',(e.k ∈ us∨n1≤e.k∧e.k<m)∧n1≤e.st∧e.st<m∧e.x.ok (· < m) (· < m)
 nd:(l'.map En.k).Nodup
 f:∀ e ∈ f',e.x.ok (· < m)∧n1≤e.st∧e.st<m
 r:∀ (γ:Nat→Gh) (l:Lo),(∀ e ∈ l',γ e.k=γ0 e.k∧lkE l e.k=some e)→(∀ e ∈ f',RV v γ l e.x (a.tmps.getD e.k undef))∧(∃ E,F2 (Zsa v γ l) l' E∧es.Perm E.flatten)∧∀ e ∈ l',e.k<n0→∃ e0,lkE lE e.k=some e0∧CE (· < n0) γE γ e.k e0.st e.st e0.x e.x
section
variable {a:Act} {v:Zb} {γE:Nat→Gh} {lE:Lo} {n0:Nat}
theorem IV.none {n1:Nat}:IV a v γE lE n0 [] n1 n1 [] [] [] λ_=>.box 0 :=
 ⟨Nat.le_refl _,λe he=>(by cases he),List.nodup_nil,λe he=>(by cases he),λγ l _=>⟨λe he=>(by cases he),⟨[],trivial,List.Perm.refl _⟩,λe he=>(by cases he)⟩⟩
theorem IV.add {us1 us2:List Nat} {n1 m1 m:Nat} {f1 f2:Fr} {l1 l2:Lo} {es1 es2:List Loc} {γ1 γ2:Nat→Gh} (h:IV a v γE lE n0 us1 n1 m1 f1 l1 es1 γ1) (k:IV a v γE lE n0 us2 m1 m f2 l2 es2 γ2) (hd:∀ u ∈ us2,u ∉ us1) (hu:∀ u ∈ us1++us2,u<n1) :
  IV a v γE lE n0 (us1++us2) n1 m (f1++f2) (l1++l2) (es1++es2) λk=>if k ∈ l1.map En.k then γ1 k else γ2 k:=by
 have hd':∀ e ∈ l2,e.k ∉ l1.map En.k:=λe he hm=>by
  obtain⟨e',he',hk⟩:=List.mem_map.1 hm;have h1:=(h.l e' he').1;have h2:=(k.l e he).1;have hle:=h.le;rw[hk]at h1;rcases h1 with h1 | h1 <;> rcases h2 with h2 | h2
  ·exact hd _ h2 h1
  ·have:=hu _ (List.mem_append_left _ h1);omega
  ·have:=hu _ (List.mem_append_right _ h2);omega
  ·omega
 have up:∀ j,j<m1→j<m:=λj hj=>Nat.lt_of_lt_of_le hj k.le;refine⟨Nat.le_trans h.le k.le,λe he=>?_,Zui h.nd k.nd hd',λe he=>?_,λγ l hl=>?_⟩
 ·rcases List.mem_append.1 he with he | he
  ·obtain⟨r1,r2,r3,r4⟩:=h.l e he;refine⟨?_,r2,up _ r3,LV.ok.mono up up r4⟩;rcases r1 with r1 | r1
   ·exact .inl (List.mem_append_left _ r1)
   ·exact .inr ⟨r1.1,up _ r1.2⟩
  ·obtain⟨r1,r2,r3,r4⟩:=k.l e he;have:=h.le;refine⟨?_,by omega,r3,r4⟩;rcases r1 with r1 | r1
   ·exact .inl (List.mem_append_right _ r1)
   ·exact .inr ⟨by omega,r1.2⟩
 ·rcases List.mem_append.1 he with he | he
  ·obtain⟨r1,r2,r3⟩:=h.f e he;exact⟨V.ok.mono up r1,r2,up _ r3⟩
  ·obtain⟨r1,r2,r3⟩:=k.f e he;have:=h.le;exact⟨r1,by omega,r3⟩
 ·obtain⟨p1,⟨E1,p2,p3⟩,p4⟩:=h.r γ l (Zpl hl);obtain⟨q1,⟨E2,q2,q3⟩,q4⟩:=k.r γ l (ZQk hd' hl);refine⟨λe he=>?_,⟨E1++E2,p2.append q2,by rw[List.flatten_append];exact p3.append q3⟩,λe he=>?_⟩
  ·rcases List.mem_append.1 he with he | he
   ·exact p1 e he
   ·exact q1 e he
  ·rcases List.mem_append.1 he with he | he
   ·exact p4 e he
   ·exact q4 e he
theorem IV.s {t n1:Nat} {c:CT} {z:c.den} {es:List Loc} (h:SRel a v t c z es) (hn:n0≤n1):∃ γ0,IV a v γE lE n0 [] n1 (Zl c z (n1+1)).2.2 [⟨t,n1,(Zl c z (n1+1)).1⟩] (Zl c z (n1+1)).2.1 es γ0:=by
 obtain⟨cs,h1,h2⟩:=h;obtain⟨k1,k2,k3,k4,k5,γ0,k6⟩:=ZFq c (n1+1) (x:=(Zl c z (n1+1)).1) (l2:=(Zl c z (n1+1)).2.1) (n2:=(Zl c z (n1+1)).2.2) h2 rfl;refine⟨γ0,by omega,λe he=>?_,k3,λe he=>?_,λγ l hl=>⟨λe he=>?_,(k6 γ l hl).2,λe he hk=>?_⟩⟩
 ·obtain⟨r1,r2,r3,r4,r5⟩:=k2 e he;exact⟨.inr ⟨by omega,r2⟩,by omega,r4,r5⟩
 ·rcases List.mem_singleton.1 he with rfl;exact⟨k4,Nat.le_refl _,(show n1<_ by omega)⟩
 ·rcases List.mem_singleton.1 he with rfl;have hq:=(k6 γ l hl).1;have:=ZYb hq (λc e=>by rw[e]at hq;exact hq);show RV v γ l (Zl c z (n1+1)).1 (a.tmps.getD t undef);rw[h1,← Zlg k5];exact this
 ·have:=(k2 e he).1;omega
theorem IV.p {u n1:Nat} {p:Pl} {c:CT} {z:c.den} {es:List Loc} {f0:Fr} {l0:Lo} (h:LRel v γE lE n0 f0 l0 u p c z es) (hu:u<n1) (hn:n0≤n1) (hv:ZWa l0 u≤n1):∃ γ0,IV a v γE lE n0 [u] n1 (Z1 (ZWa l0 u) c z u n1).2 [] (Z1 (ZWa l0 u) c z u n1).1 es γ0:=by
 obtain⟨_,g,e0,h2,h3,h4⟩:=h;obtain⟨k1,k2,k3,γ0,k4,k5⟩:=Zkj h3 hu hv (l2:=(Z1 (ZWa l0 u) c z u n1).1) (n2:=(Z1 (ZWa l0 u) c z u n1).2) rfl;refine⟨γ0,by omega,λe he=>?_,k3,λe he=>(by cases he),λγ l hl=>⟨λe he=>(by cases he),k5 γ l hl,λe he hk=>?_⟩⟩
 ·obtain⟨r1,r2,r3,r4⟩:=k2 e he;refine⟨?_,r2,r3,r4⟩;rcases r1 with r1 | r1
  ·exact .inl (List.mem_singleton.2 r1.1)
  ·exact .inr r1
 ·obtain⟨r1,r2,_,_⟩:=k2 e he;rcases r1 with ⟨r1,r5⟩ | r1
  ·refine⟨e0,by rw[r1];exact h2,?_⟩;rw[r1];have:Zbg (n0≤·) (ZWa l0 u) c z e.x:=by
    cases c with
    | mat ty ty2 t=>obtain⟨hv,q1,q2⟩:=r5;exact⟨hv,Nat.le_trans hn q1,q2⟩
    | own ty t=>exact r5
    | box ty t=>exact r5
    | agg c=>cases c <;> first | exact r5 | exact r5.elim
    | it=>exact r5
    | _=>exact r5.elim
   refine h4 γ e.st e.x ?_ (by omega) this;have:=(hl e he).1;rw[r1]at this;rw[this,k4]
  ·omega
theorem Zel {f0:Fr} {l0:Lo}:∀ {vs:List Vr} {z:(ctL (vs.map Vr.ct)).den} {es:List Loc} {us:List Nat} {n1:Nat},VRel a v γE lE n0 f0 l0 vs z es us→us.Nodup→(∀ u ∈ us,u<n1)→n0≤n1→(∀ u,ZWa l0 u≤n0) →
  ∃ γ0,IV a v γE lE n0 us n1 (ZOb f0 l0 vs z n1).2.2 (ZOb f0 l0 vs z n1).1 (ZOb f0 l0 vs z n1).2.1 es γ0
 | [],z,es,us,n1,h,hn,hu,h0,hv=>by
  obtain⟨rfl,rfl⟩:=h
  exact⟨_,IV.none⟩
 | [.s t c],z,es,us,n1,h,hn,hu,h0,hv=>by
  obtain⟨rfl,h⟩:=h
  exact IV.s h h0
 | [.l p c],z,es,us,n1,h,hn,hu,h0,hv=>by
  obtain⟨u,rfl,h⟩:=h
  have e:ZOb f0 l0 [.l p c] z n1=([],(Z1 (ZWa l0 u) c z u n1).1,(Z1 (ZWa l0 u) c z u n1).2):=by simp only[ZOb,h.1]
  rw[e]
  exact IV.p h (hu u (by simp)) h0 (Nat.le_trans (hv u) h0)
 | .s t c :: w :: r,z,es,us,n1,h,hn,hu,h0,hv=>by
  obtain⟨e1,e2,rfl,h1,h2⟩:=h
  obtain⟨γ1,k1⟩:=IV.s (a:=a) (v:=v) (γE:=γE) (lE:=lE) h1 h0
  have hle:=k1.le
  obtain⟨γ2,k2⟩:=Zel (vs:=w :: r) (n1:=(Zl c z.1 (n1+1)).2.2) h2 hn (λu h=>Nat.lt_of_lt_of_le (hu u h) hle) (Nat.le_trans h0 hle) hv
  exact⟨_,k1.add k2 (λu _ h=>by cases h) hu⟩
 | .l p c :: w :: r,z,es,us,n1,h,hn,hu,h0,hv=>by
  obtain⟨e1,e2,u,us',rfl,rfl,h1,h2⟩:=h
  obtain⟨γ1,k1⟩:=IV.p (a:=a) (v:=v) (γE:=γE) (lE:=lE) h1 (hu u (by simp)) h0 (Nat.le_trans (hv u) h0)
  have hle:=k1.le
  obtain⟨n3,n4⟩:=List.nodup_cons.1 hn
  obtain⟨γ2,k2⟩:=Zel (vs:=w :: r) (n1:=(Z1 (ZWa l0 u) c z.1 u n1).2) h2 n4 (λu' h=>Nat.lt_of_lt_of_le (hu u' (by simp[h])) hle) (Nat.le_trans h0 hle) hv
  have e:ZOb f0 l0 (.l p c :: w :: r) z n1=((ZOb f0 l0 (w :: r) z.2 (Z1 (ZWa l0 u) c z.1 u n1).2).1,(Z1 (ZWa l0 u) c z.1 u n1).1++(ZOb f0 l0 (w :: r) z.2 (Z1 (ZWa l0 u) c z.1 u n1).2).2.1,(ZOb f0 l0 (w :: r) z.2 (Z1 (ZWa l0 u) c z.1 u n1).2).2.2):=by simp only[ZOb,h1.1]
  rw[e]
  refine⟨_,k1.add k2 (λu' h hm=>?_) hu⟩
  rcases List.mem_singleton.1 hm with rfl
  exact n3 h
end
theorem F2.impm {α β:Type} {R R':α→β→Prop}:∀ {l:List α} {m:List β},(∀ a ∈ l,∀ b ∈ m,R a b→R' a b)→F2 R l m→F2 R' l m
 | [],[],_,_=>trivial
 | a :: l,b :: m,h,k=>⟨h a (by simp) b (by simp) k.1,F2.impm (λx hx y hy=>h x (by simp[hx]) y (by simp[hy])) k.2⟩
 | [],_ :: _,_,k=>k.elim
 | _ :: _,[],_,k=>k.elim
theorem Zcr {R:En LV→List Loc→Prop}:∀ {s l:Lo} {E:List (List Loc)},(s.map En.k).Nodup→(∀ e ∈ s,lkE l e.k=some e)→(l.map En.k).Nodup→F2 R l E→∃ Es rest,F2 R s Es∧E.flatten.Perm (Es.flatten++rest)
 | [],l,E,_,_,_,_=>⟨[],E.flatten,trivial,List.Perm.refl _⟩
 | e :: s,l,E,hn,hs,hl,hE=>by
  simp only[List.map_cons,List.nodup_cons]at hn
  obtain⟨es,E',h1,h2,h3⟩:=Zzf hE (hs e (by simp))
  obtain⟨Es,rest,k1,k2⟩:=Zcr (s:=s) (l:=era l e.k) hn.2 (λe2 he=>by
   rw[ZVb hl,iN (λh=>hn.1 (by rw[h];exact List.mem_map.2 ⟨e2,he,rfl⟩))]
   exact hs e2 (by simp[he])) (Zzb hl).1 h2
  exact⟨es :: Es,rest,⟨h1,k1⟩,h3.trans (by rw[List.flatten_cons,aAq];exact List.Perm.append_left _ k2)⟩
theorem ZYk {β:Type} {l l':List (En β)} {k:Nat}:lkE (l++l') k=(lkE l k).or (lkE l' k):=by
 induction l with
 | nil=>rfl
 | cons p r ih =>
  rw[List.cons_append,ZL,ZL];split
  ·rfl
  ·exact ih
theorem Zkr {n:Nat} {l:Lo}:∀ {s:Lo},Zbi n l s=true→∀ e ∈ s,∃ e',lkE l e.k=some e'∧e'.st<n
 | [],_,_,h=>by cases h
 | e :: s,h,e1,he1=>by
  simp only[Zbi]at h
  split at h
  ·rename_i e' he'
   split at h
   ·cases h
   ·rename_i hb
    rcases List.mem_cons.1 he1 with rfl | he1
    ·exact⟨e',he',Nat.lt_of_not_le λhle=>by rw[Nat.ble_eq_true_of_le hle]at hb;cases hb⟩
    ·exact Zkr h e1 he1
  ·cases h
theorem ZPr {n:Nat} {f:Fr}:∀ {s:List Nat},Zlh n f s=true→∀ t ∈ s,∃ e',lkE f t=some e'∧e'.st<n
 | [],_,_,h=>by cases h
 | t :: s,h,t1,ht1=>by
  simp only[Zlh]at h
  split at h
  ·rename_i e' he'
   split at h
   ·cases h
   ·rename_i hb
    rcases List.mem_cons.1 ht1 with rfl | ht1
    ·exact⟨e',he',Nat.lt_of_not_le λhle=>by rw[Nat.ble_eq_true_of_le hle]at hb;cases hb⟩
    ·exact ZPr h t1 ht1
  ·cases h
theorem Zsi {f:Fr}:∀ {ks:List Nat} {t:Nat} {e:En V},lkE (Zhb f ks) t=some e→lkE f t=some e∧t ∈ ks
 | [],_,_,h=>by cases h
 | k :: ks,t,e,h=>by
  simp only[Zhb]at h
  split at h
  ·rename_i e' he'
   rw[ZL]at h
   split at h
   ·rename_i hk
    cases h
    have:=(Zk he').2
    rw[this]at hk;subst hk
    exact⟨he',by simp⟩
   ·have:=Zsi h;exact⟨this.1,by simp[this.2]⟩
  ·have:=Zsi h;exact⟨this.1,by simp[this.2]⟩
theorem ZUf {l:List Nat} {t:Nat}:Zja l t=true↔t ∈ l:=by
 induction l with
 | nil=>simp[Zja]
 | cons k r ih =>
  simp only[Zja]
  cases hb:Nat.beq k t
  ·simp only[List.mem_cons];rw[ih];have:¬ t=k:=λe=>by rw[e]at hb;simp at hb
   simp[this]
  ·have:=eQ hb;simp[this]
theorem ZEr {b:Nat} {rs us:List Nat}:∀ {l:Lo},(ZLd b rs us l).Sublist l∧∀ e ∈ ZLd b rs us l,e.k ∉ us
 | []=>⟨List.Sublist.slnil,λe h=>by cases h⟩
 | e :: r=>by
  obtain⟨h1,h2⟩:=ZEr (b:=b) (rs:=rs) (us:=us) (l:=r)
  simp only[ZLd]
  split
  ·exact⟨h1.cons e,h2⟩
  ·rename_i hm
   have hm:e.k ∉ us:=λh=>by rw[ZUf.2 h]at hm;cases hm
   have both:(e :: ZLd b rs us r).Sublist (e :: r)∧∀ e' ∈ e :: ZLd b rs us r,e'.k ∉ us:=⟨h1.cons_cons e,λe' he'=>by
    rcases List.mem_cons.1 he' with rfl | he'
    ·exact hm
    ·exact h2 e' he'⟩
   split
   ·exact both
   ·split
    ·exact both
    ·exact⟨h1.cons e,h2⟩
end Go.Eng
namespace Go.Eng
open Go.RowKit
section
variable {N:Nat} {G:V→Value→Prop} {w0:Base} {v0:Zb} {a:Act} {w:World}
theorem Z1t {n0 n m:Nat} {f f0 fI:Fr} {l l0 l2 s lN:Lo} {γ γ2 γ0:Nat→Gh} {v v2:Zb} {ℓ ℓ2 es:List Loc} {us ks:List Nat}
  (h0:H0 G n0 f0 l0) (hn:n0≤n) (hr:RelX N G w0 v0 (· < n) (· < n) f l a w γ v ℓ) (hr2:RelX N G w0 v0 (· < n) (· < n+1) f l2 a w γ2 v2 ℓ2) (hst:St N w0 v0 [] (es++ℓ2) v2 a w) (hle:Le (· < n) v γ l v2 γ2 l2)
  (ho1:Old n f l f l2) (ho:Old n0 f0 l0 f l) (hs:s.Sublist l0) (hsu:∀ e ∈ s,e.k ∉ us) (hss:Zbi n0 l2 s=true) (hus:∀ u ∈ us,u<n0) (hI:IV a v2 γ l n0 us n0 m fI lN es γ0) (hks:Zlh n0 f ks=true) :
  ∃ γN ℓN,(∀ e ∈ lN,γN e.k=γ0 e.k∧lkE (lN++s) e.k=some e)∧RelX N G w0 v0 (· < m) (· < m) (fI++Zhb f0 ks) (lN++s) a w γN v2 ℓN∧Old n0 f0 l0 (fI++Zhb f0 ks) (lN++s):=by
 have hsm:∀ e ∈ s,e ∈ l0:=λe he=>hs.subset he;have hsn:(s.map En.k).Nodup:=(hs.map _).nodup h0.nd;have hs2:∀ e ∈ s,lkE l2 e.k=some e∧lkE l e.k=some e:=λe he=>by
  obtain⟨e',h1,h2⟩:=Zkr hss e he;have h3:=ho1.2 e.k e' h1 (Nat.lt_of_lt_of_le h2 hn);have h4:=ho.2 e.k e' h3 h2;rw[ZTb h0.nd (hsm e he)]at h4
  cases h4
  exact⟨h1,h3⟩
 have hdis:∀ e ∈ s,e.k ∉ lN.map En.k:=λe he hm=>by
  obtain⟨e',he',hk⟩:=List.mem_map.1 hm;have h1:=(h0.l e (hsm e he)).1;rcases (hI.l e' he').1 with h2 | h2
  ·exact hsu e he (hk ▸ h2)
  ·omega
 have hnd:((lN++s).map En.k).Nodup:=Zui hI.nd hsn hdis
 let γN:Nat→Gh:=λk=>if k ∈ lN.map En.k then γ0 k else γ2 k
 have hγ:∀ e ∈ lN,γN e.k=γ0 e.k∧lkE (lN++s) e.k=some e:=λe he =>
  ⟨iP (List.mem_map.2 ⟨e,he,rfl⟩),ZTb hnd (List.mem_append_left _ he)⟩
 have hγs:∀ e ∈ s,γN e.k=γ2 e.k:=λe he=>iN (hdis e he);obtain⟨r1,⟨EN,r2,r3⟩,r4⟩:=hI.r γN (lN++s) hγ;obtain⟨E,hE,hpE⟩:=hr.lr;have leN:Le (· < n0) v γ l v2 γN (lN++s):=⟨hle.v,λu e' hu he'=>by
  have hmem:=(Zk he').1;have hk:=(Zk he').2;rcases List.mem_append.1 hmem with hm | hm
  ·obtain⟨e0,q1,q2⟩:=r4 e' hm (by rw[hk];exact hu);rw[hk]at q1 q2;exact⟨e0,q1,q2⟩
  ·obtain⟨q1,q2⟩:=hs2 e' hm;rw[hk]at q1 q2;obtain⟨e,q3,q4⟩:=hle.l u e' (Nat.lt_of_lt_of_le hu hn) q1;refine⟨e,q3,ZGk (λk hk=>Nat.lt_of_lt_of_le hk hn) ?_ q4⟩;have:=hγs e' hm;rw[hk]at this;exact this⟩
 have up:∀ k,k<n0→k<m:=λk hk=>Nat.lt_of_lt_of_le hk hI.le;obtain⟨E2,hE2,hpE2⟩:=hr2.lr;obtain⟨Es,rest,t1,t2⟩:=Zcr hsn (λe he=>(hs2 e he).1) hr2.nd hE2;have hS:F2 (Zsa v2 γN (lN++s)) s Es:=t1.impm λe he es' hes hR=>by
  have hin:∀ x ∈ es',x ∈ ℓ2:=λx hx=>hpE2.mem_iff.2 (t2.mem_iff.2 (List.mem_append_left _ (List.mem_flatten.2 ⟨es',hes,hx⟩)));have hg:=hγs e he;obtain⟨q1,q2⟩:=hs2 e he;have hU:=h0.l e (hsm e he);obtain⟨eE,q3,q4⟩:=hle.l e.k e (Nat.lt_of_lt_of_le hU.1 hn) q1;rw[q2]at q3;cases q3;obtain⟨kk,st,L⟩:=e
  cases L with
  | box ty c =>
   obtain⟨b,cs,g1,g2,g3,rfl⟩:=hR;obtain⟨es0,hes0⟩:=ZCd hE (Zk q2).1;obtain⟨jj,es1,k1,k2⟩:=hr.loc q2;obtain⟨b0,cs0,d1,d2,d3,rfl⟩:=k1;have g1:γ2 kk = .box b:=g1;have d1:γ kk = .box b0:=d1;have q4:γ2 kk=γ kk:=q4;have hb:b=b0:=by rw[g1,d1]at q4;cases q4;rfl
   subst hb;obtain⟨i,hi⟩:=k2 _ (List.mem_singleton.2 rfl);have m1:=(hr.st.loc _ (mG hi)).1;have m2:=(hr2.st.loc _ (hin _ (List.mem_singleton.2 rfl))).1;have m1:w.heap[b]? = some (.cells cs0.toArray ty (0,0)):=m1;have m2:w.heap[b]? = some (.cells cs.toArray ty (0,0)):=m2;rw[m1]at m2;have hcs:cs0=cs:=by
    have:=Option.some.inj m2
    injection this with h1 _ _
    have:=congrArg Array.toList h1
    simpa using this
   subst hcs;exact⟨b,cs0,by rw[show γN kk=γ2 kk from hg];exact g1,ZAa leN hU.2.2 d2,d3,rfl⟩
  | own ty t xs fz =>
   cases fz with
   | false=>obtain⟨ob,cap,d,g1,g2⟩:=hR;exact⟨ob,cap,d,by rw[show γN kk=γ2 kk from hg];exact g1,g2⟩
   | true=>obtain⟨ob,cap,g1,g2⟩:=hR;exact⟨ob,cap,by rw[show γN kk=γ2 kk from hg];exact g1,g2⟩
  | mat ty ty2 t mm hv=>obtain⟨ob,cap,rows,es2,g1,g2⟩:=hR;exact⟨ob,cap,rows,es2,by rw[show γN kk=γ2 kk from hg];exact g1,g2⟩
  | mid ty ty2 t mm hv s=>obtain⟨ob,cap,rows,es2,hs,es3,g1,g2⟩:=hR;exact⟨ob,cap,rows,es2,hs,es3,by rw[show γN kk=γ2 kk from hg];exact g1,g2⟩
  | mp mm=>exact (show ZZe (γN kk) mm _ by rw[show γN kk=γ2 kk from hg];exact hR)
  | it s p=>obtain⟨b,g1,g2⟩:=hR;exact⟨b,by rw[show γN kk=γ2 kk from hg];exact g1,g2⟩
  | lst ty t xs c =>
   obtain⟨b,cap,cs,cl,g1,g2,g3,g4,g5,rfl⟩:=hR;obtain⟨jj,es1,k1,k2⟩:=hr.loc q2;obtain⟨b0,cap0,cs0,cl0,d1,d2,d3,d4,d5,rfl⟩:=k1;have g1:γ2 kk = .own (some b) cap:=g1;have d1:γ kk = .own (some b0) cap0:=d1;have q4:γ2 kk=γ kk:=q4.1;have hb:b=b0∧cap=cap0:=by rw[g1,d1]at q4;cases q4;exact⟨rfl,rfl⟩
   obtain⟨rfl,rfl⟩:=hb;obtain⟨i,hi⟩:=k2 _ (List.mem_singleton.2 rfl);have m1:=(hr.st.loc _ (mG hi)).1;have m2:=(hr2.st.loc _ (hin _ (List.mem_singleton.2 rfl))).1;obtain⟨_,cur0,t1,_,_,_,t2⟩:=m1;obtain⟨_,cur1,t3,_,_,_,t4⟩:=m2;rw[t1]at t3;cases t3;rw[t2]at t4;obtain⟨rfl,rfl⟩:=List.append_inj t4 ((Z6a d2).trans (Z6a g2).symm);exact⟨b,cap,cs0,cl0,by rw[show γN kk=γ2 kk from hg];exact g1,ZR leN.v d2,ZAa leN hU.2.2 d3,d4,d5,rfl⟩
 have hstN:St N w0 v0 [] (EN.flatten++Es.flatten) v2 a w:=by
  have h1:=hst.perm ((List.Perm.append r3 (hpE2.trans t2)));refine h1.drop ?_;rw[← aAq];exact List.sublist_append_left _ _
 have hkeep:∀ t e,lkE (Zhb f0 ks) t=some e→lkE f t=some e∧lkE f0 t=some e:=λt e he=>by
  obtain⟨q1,q2⟩:=Zsi he;obtain⟨e',q3,q4⟩:=ZPr hks t q2;have:=ho.1 t e' q3 q4;rw[q1]at this;cases this;exact⟨q3,q1⟩
 refine⟨γN,_,hγ,⟨hstN,λt e he=>?_,⟨EN++Es,r2.append hS,by rw[List.flatten_append]⟩,hnd,λt e he=>?_,λe he=>?_,λx y hg=>?_⟩,λt e he hst=>?_,λu e he hst=>?_⟩
 ·rw[ZYk]at he
  cases hx:lkE fI t with
  | some e1 =>
   rw[hx]at he;cases he;obtain⟨q1,q2⟩:=Zk hx;rw[← q2];exact r1 e q1
  | none =>
   rw[hx]at he;obtain⟨q1,q2⟩:=hkeep t e he;exact ZVa leN (h0.f t e q2).1 (hr.fr t e q1)
 ·rw[ZYk]at he
  cases hx:lkE fI t with
  | some e1 =>
   rw[hx]at he;cases he;obtain⟨q1,q2,q3⟩:=hI.f e (Zk hx).1;exact⟨q1,q3⟩
  | none =>
   rw[hx]at he;obtain⟨q1,q2⟩:=hkeep t e he;obtain⟨q3,q4⟩:=h0.f t e q2;exact⟨V.ok.mono up q3,up _ q4⟩
 ·rcases List.mem_append.1 he with he | he
  ·obtain⟨q1,q2,q3,q4⟩:=hI.l e he;refine⟨?_,q3,q4⟩;rcases q1 with q1 | q1
   ·exact up _ (hus _ q1)
   ·exact q1.2
  ·obtain⟨q1,q2,q3⟩:=h0.l e (hsm e he);exact⟨up _ q1,up _ q2,LV.ok.mono up up q3⟩
 ·exact⟨ZVa leN (h0.g x y hg) (hr.gh x y hg).1,V.ok.mono up (h0.g x y hg)⟩
 ·rw[ZYk]at he
  cases hx:lkE fI t with
  | some e1 =>
   rw[hx]at he;cases he;have:=(hI.f e (Zk hx).1).2.1;omega
  | none =>
   rw[hx]at he;exact (hkeep t e he).2
 ·rcases List.mem_append.1 (Zk he).1 with hm | hm
  ·have:=(hI.l e hm).2.1;omega
  ·have:=ZTb h0.nd (hsm e hm);rw[(Zk he).2]at this;exact this
def bF (f0:Fr) (l0:Lo) (j:Js) (x:jT j) (n:Nat):Fr:=(ZOb f0 l0 j.vs x n).1++Zhb f0 j.keep
def bL (b:Nat) (f0:Fr) (l0:Lo) (j:Js) (x:jT j) (n:Nat):Lo:=(ZOb f0 l0 j.vs x n).2.1++stayL b f0 l0 j j.vs
def bN (f0:Fr) (l0:Lo) (j:Js) (x:jT j) (n:Nat):Nat:=(ZOb f0 l0 j.vs x n).2.2
theorem ZCk {α:Type} {b:Nat} {f0:Fr} {l0:Lo} {j:Js} {x:jT j} {n:Nat} {K:Fr→Lo→Nat→α}:build b f0 l0 j x n K=K (bF f0 l0 j x n) (bL b f0 l0 j x n) (bN f0 l0 j x n):=rfl
theorem ZJk {α:Type} {r:α} {b n0 n:Nat} {f0 f:Fr} {l0 l:Lo} {j:Js} {K:jT j→Option α} (h0:H0 G n0 f0 l0) (hn:n0≤n) (hr:Rel N G w0 v0 (· < n) f l a w) (ho:Old n0 f0 l0 f l) (h:Zie b n0 n f0 l0 f l j K=some r) :
  ∃ x,K x=some r∧n0≤bN f0 l0 j x n0∧Rel N G w0 v0 (· < bN f0 l0 j x n0) (bF f0 l0 j x n0) (bL b f0 l0 j x n0) a w∧Old n0 f0 l0 (bF f0 l0 j x n0) (bL b f0 l0 j x n0):=by
 obtain⟨γ,v,ℓ,hr⟩:=hr;have h1:=ZQd (Nat.le_refl n) Old.refl hr.nd (Z6c h);have hr':RelX N G w0 v0 (· < n) (· < n+1) f l a w γ v ℓ:=hr.mono (λ_ h=>h) λk h=>(show k<n+1 by have:k<n:=h;omega);obtain⟨E,hE,_⟩:=hr.lr;obtain⟨x,l2,γ2,v2,ℓ2,es,us,k1,k2,k3,k4,k5,k6,k7⟩:=ZBl (ex:=[]) h0 hn h1 hr' hr.st (Le.refl hE (Zb.le_refl _));obtain⟨q1,q2⟩:=k1;split at q1
 ·rename_i hS hL;obtain⟨γ0,hI⟩:=Zel k5 k6 (λu hu=>(k7 u hu).1) (Nat.le_refl n0) (hvOf_le h0);have hsub:=ZEr (b:=b) (rs:=Zog l0 50 (idsF (Zhb f0 j.keep)) []) (us:=gone f0 l0 j.drop j.vs) (l:=l0);obtain⟨γN,ℓN,_,p2,p3⟩:=Z1t h0 hn hr k2 k3 k4 q2 ho hsub.1 (λe he hu=>hsub.2 e he (List.mem_append_right _ (k7 _ hu).2.2)) hL (λu hu=>(k7 u hu).1) hI hS;exact⟨x,q1,hI.le,⟨γN,v2,ℓN,p2⟩,p3⟩
 ·cases q1
def Ress (P:Program) (tmps:Array Value) (w:World) (rs:List ResultVar) (vals:List Value):Prop:=F2 (λr y=>Res P tmps w r y) rs vals
def RetR (P:Program) (rs:List ResultVar) (N:Nat) (G:V→Value→Prop) (w0:Base) (v0:Zb) (c:V) (l:Lo) (n:Nat) (a:Act) (w:World):Prop :=
 ∃ γ v ℓ vals,RelX N G w0 v0 (· < n) (· < n) [] l a w γ v ℓ∧RR v γ l true c vals∧c.ok (· < n)∧Ress P a.tmps w rs vals
def Ztc (m:Nat) (l l':Lo):Prop:=∀ u e,lkE l' u=some e→e.st<m→lkE l u=some e
theorem Old.l {m:Nat} {f f':Fr} {l l':Lo} (h:Old m f l f' l'):Ztc m l l':=h.2
theorem Ztc.trans {m m':Nat} {l l' l'':Lo} (h:Ztc m l l') (k:Ztc m' l' l'') (hm:m≤m'):Ztc m l l'':=λu e he hs=>h u e (k u e he (by omega)) hs
theorem Ztc.mono {m m':Nat} {l l':Lo} (h:Ztc m' l l') (hm:m≤m'):Ztc m l l':=λu e he hs=>h u e he (by omega)
end
theorem Zce {v:Zb} {γ:Nat→Gh} {l:Lo} {U:Nat→Prop} {n:Nat}:∀ {c:V} {k t:Nat} {e:En V} {vals:List Value},RR v γ l true c vals→c.ok U→lkE (ZBc n k c) t=some e→∃ y,k≤t∧vals[t-k]? = some y∧RV v γ l e.x y∧e.x.ok U∧e.st=n:=by
 intro c
 induction c with
 | cons a b ia ib =>
  intro k t e vals h hk he;obtain⟨cs,xs,rfl,h1,h2⟩:=h;simp only[ZBc]at he;rw[ZL]at he;split at he
  ·rename_i hkt
   cases he
   have hkt:k=t:=hkt;subst hkt;exact⟨a.val cs,Nat.le_refl _,by simp,ZYb h1 (λc e=>by subst e;exact h1),hk.1,rfl⟩
  ·rename_i hkt;have hkt:¬ k=t:=hkt;obtain⟨y,q1,q2,q3⟩:=ib h2 hk.2 he;refine⟨y,by omega,?_,q3⟩;have:t-k=(t-(k+1))+1:=by omega
   rw[this];simpa using q2
 | _=>intro k t e vals h hk he;cases he
theorem Zkt {v:Zb} {γ:Nat→Gh} {l:Lo}:∀ {c:V} {vals:List Value},RR v γ l true c vals→vals.length=lenV c:=by
 intro c
 induction c with
 | nl=>intro vals h;rw[show vals=[] from h];rfl
 | cons a b ia ib=>intro vals h;obtain⟨cs,xs,rfl,h1,h2⟩:=h;simp[ib h2,lenV]
 | _=>intro vals h;exact h.elim
theorem Zgx {N N':Nat} {G:V→Value→Prop} {w0:Base} {v0:Zb} {a:Act} {w:World} {γ:Nat→Gh} {v:Zb} {ℓ:List Loc} {ags:V} {l:Lo} {n:Nat} {vals:List Value} (hr:RelX N G w0 v0 (· < n) (· < n) [] l a w γ v ℓ) (has:RR v γ l true ags vals) (hk:ags.ok (· < n)) (hN:vals.length≤N') :
  RelX N' G w0 v0 (· < n+1) (· < n+1) (ZBc n 0 ags) l { tmps:=vals.toArray++Array.replicate (N'-vals.toArray.size) undef,defers:=[] } w γ v ℓ:=by
 have hm:=hr.mono (U':=(· < n+1)) (X':=(· < n+1)) (λk h=>(show k<n+1 by have:k<n:=h;omega)) λk h=>(show k<n+1 by have:k<n:=h;omega);refine⟨⟨by simp;omega,rfl,λt x h=>(by cases h),hr.st.ext,hr.st.vst,hr.st.loc,hr.st.nd⟩,λt e he=>?_,hm.lr,hm.nd,λt e he=>?_,hm.ul,hm.gh⟩
 ·obtain⟨y,h1,h2,h3,h4,h5⟩:=Zce has hk he;have hlt:t<vals.length:=(List.getElem?_eq_some_iff.1 h2).1;have h3':vals[t]=y:=(List.getElem?_eq_some_iff.1 h2).2;have:((vals.toArray++Array.replicate (N'-vals.toArray.size) undef).getD t undef)=y:=by
   simp[Array.getElem?_append,hlt,h3']
  rw[this];exact h3
 ·obtain⟨y,h1,h2,h3,h4,h5⟩:=Zce has hk he;exact⟨V.ok.mono (λk h=>(show k<n+1 by have:k<n:=h;omega)) h4,by show e.st<n+1;omega⟩
theorem ZPw {N:Nat} {G:V→Value→Prop} {w0:Base} {v0:Zb} {a:Act} {w:World} {γ:Nat→Gh} {v:Zb} {ℓ:List Loc} {ags:V} {l:Lo} {n k:Nat} {vals:List Value} (hr:RelX N G w0 v0 (· < n) (· < n) [] l a w γ v ℓ) (has:RR v γ l true ags vals) (hk:ags.ok (· < n)) :
  RelX (k+vals.length) G w0 v0 (· < n+1) (· < n+1) (ZBc n k ags) l { tmps:=(List.replicate k undef++vals).toArray,defers:=[] } w γ v ℓ:=by
 have hm:=hr.mono (U':=(· < n+1)) (X':=(· < n+1)) (λk h=>(show k<n+1 by have:k<n:=h;omega)) λk h=>(show k<n+1 by have:k<n:=h;omega);refine⟨⟨by simp,rfl,λt x h=>(by cases h),hr.st.ext,hr.st.vst,hr.st.loc,hr.st.nd⟩,λt e he=>?_,hm.lr,hm.nd,λt e he=>?_,hm.ul,hm.gh⟩
 ·obtain⟨y,h1,h2,h3,h4,h5⟩:=Zce has hk he;have:((List.replicate k undef++vals).toArray.getD t undef)=y:=by
   rw[Array.getD_eq_getD_getElem?,List.getElem?_toArray,List.getElem?_append_right (by simpa using h1)];simp[h2]
  rw[this];exact h3
 ·obtain⟨y,h1,h2,h3,h4,h5⟩:=Zce has hk he;exact⟨V.ok.mono (λk h=>(show k<n+1 by have:k<n:=h;omega)) h4,by show e.st<n+1;omega⟩
theorem getRep {vals:List Value} {k i:Nat} {y:Value} (h:vals[i]? = some y):(List.replicate k undef++vals).toArray.getD (k+i) undef=y:=by
 rw[Array.getD_eq_getD_getElem?,List.getElem?_toArray,List.getElem?_append_right (by simp)];simp[h]
theorem ZBp {v:Zb} {γ:Nat→Gh} {l:Lo} {U:Nat→Prop} {f:Fr} {tm:Array Value} (hf:∀ t e,lkE f t=some e→RV v γ l e.x (tm.getD t undef)∧e.x.ok U):∀ {vals:List Value} {t:Nat} {c:V},Zyk f vals.length t=some c→(∀ i y,vals[i]? = some y→tm.getD (t+i) undef=y)→RR v γ l true c vals∧c.ok U
 | [],t,c,h,_=>by cases h;exact⟨rfl,trivial⟩
 | y :: vals,t,c,h,hv=>by
  simp only[List.length_cons,Zyk]at h
  split at h
  ·cases h
  ·rename_i e c' hnt hc he
   cases h
   obtain⟨h1,h2⟩:=hf t e hc
   obtain⟨cs,hcs,hy⟩:=Z8a h1 (λq hq=>by obtain⟨k,s,x⟩:=e;have hq:x = .tup q:=hq;subst hq;exact hnt _ _ _ rfl)
   obtain⟨k1,k2⟩:=ZBp hf (vals:=vals) he λi y hi=>by
    have:=hv (i+1) y (by simpa using hi)
    rwa [show t+(i+1)=t+1+i by omega]at this
   have h0:=hv 0 y (by simp)
   rw[Nat.add_zero]at h0
   exact⟨⟨cs,vals,by rw[← h0,hy],hcs,k1⟩,h2,k2⟩
  ·cases h
section
variable {N:Nat} {G:V→Value→Prop} {w0:Base} {v0:Zb} {a:Act} {w:World}
theorem Zeu {α β:Type} {r:α} {P:Program} {rs:List ResultVar} {b n0 n:Nat} {f0:Fr} {l0 l:Lo} {c:V} {j:Js} {K:jT j→Option α} (h0:H0 G n0 f0 l0) (hn:n0≤n) (hr:RetR P rs N G w0 v0 c l n a w) (ho:Ztc n0 l0 l) (h:Zmi b n0 n f0 l0 c l j K=some r) :
  ∃ x,K x=some r∧∀ {KR:V→Lo→Nat→Option β} {q:β},build b f0 l0 j x n0 (retK j.vs KR)=some q→∃ c' l' m,KR c' l' m=some q∧n0≤m∧RetR P rs N G w0 v0 c' l' m a w∧Ztc n0 l0 l':=by
 obtain⟨γ,v,ℓ,vals,hr,hc,hk,hres⟩:=hr;unfold Zmi at h;split at h
 ·rename_i k hkeep hord;split at h
  ·rename_i hlen;have hlen:=eQ hlen;have hvl:=Zkt hc;have hx:=ZPw (k:=1000) hr hc hk;obtain⟨x,k1,k2,k3,k4⟩:=ZJk h0 (Nat.le_succ_of_le hn) ⟨_,_,_,hx⟩ ⟨λt e he hst=>by
    obtain⟨y,h1,h2,h3,h4,h5⟩:=Zce hc hk he;omega,ho⟩ h
   refine⟨x,k1,λ{KR q} hq=>?_⟩;rw[ZCk]at hq;unfold retK at hq;rw[hord]at hq;simp only at hq;split at hq
   ·rename_i c' hc';obtain⟨γ',v',ℓ',hr'⟩:=k3;refine⟨c',_,_,hq,k2,⟨γ',v',ℓ',vals,⟨⟨hr.st.size,hr.st.dfr,λt x h=>(by cases h),hr'.st.ext,hr'.st.vst,hr'.st.loc,hr'.st.nd⟩,λt e he=>(by cases he),hr'.lr,hr'.nd,λt e he=>(by cases he),hr'.ul,hr'.gh⟩,?_⟩,k4.l⟩;rw[show k-1000=vals.length by omega]at hc';obtain⟨g1,g2⟩:=ZBp (U:=(· < bN f0 l0 j x n0)) (λt e he=>⟨hr'.fr t e he,(hr'.uf t e he).1⟩) hc' λi y hi=>by
     exact getRep hi
    exact⟨g1,g2,hres⟩
   ·cases hq
  ·cases h
 ·cases h
end
end Go.Eng
namespace Go.Eng
open Go.RowKit
theorem Z5x:∀ {t:T},ZUg t=true→∀ {v v':Zb} {cs:List Value} {x:t.den},t.rep.rel v cs x→t.rep.rel v' cs x:=by
 intro t
 induction t with
 | int k=>intro _ v v' cs x h;exact h
 | bool=>intro _ v v' cs x h;exact h
 | flt k=>intro _ v v' cs x h;exact h
 | str=>intro _ v v' cs x h;exact h
 | one a ih=>intro ht v v' cs x h;exact ih ht (x:=x) h
 | pair a b ia ib =>
  intro ht v v' cs x h;simp only[ZUg]at ht;split at ht
  ·rename_i ha;obtain⟨c1,c2,e,h1,h2⟩:=h;exact⟨c1,c2,e,ia ha h1,ib ht h2⟩
  ·cases ht
 | _=>intro ht;cases ht
theorem ZTk {v v':Zb} {γ γ':Nat→Gh} {l l':Lo}:∀ {x:V},ZDc x=true→∀ {b:Bool} {cs:List Value},RR v γ l b x cs→RR v' γ' l' b x cs:=by
 intro x
 induction x with
 | data t x=>intro hx b cs h;cases b with
  | false=>exact Z5x (t:=t) hx h
  | true=>exact h.elim
 | cons a c ia ic =>
  intro hx b cs h;simp only[ZDc]at hx;split at hx
  ·rename_i ha
   cases b with
   | false=>obtain⟨c1,c2,e,h1,h2⟩:=h;exact⟨c1,c2,e,ia ha h1,ic hx h2⟩
   | true=>obtain⟨c1,xs,e,h1,h2⟩:=h;exact⟨c1,xs,e,ia ha h1,ic hx h2⟩
  ·cases hx
 | agg c ih=>intro hx b cs h;cases b with
  | false=>exact ih hx (b:=false) h
  | true=>exact h.elim
 | tup c ih=>intro hx b cs h;cases b <;> exact h.elim
 | undef=>intro hx b cs h;cases b <;> exact h
 | nilS=>intro hx b cs h;cases b <;> exact h
 | nl=>intro hx b cs h;cases b <;> exact h
 | _=>intro hx;cases hx
theorem flat_RV {v v':Zb} {γ γ':Nat→Gh} {l l':Lo} {x:V} {y:Value} (hx:ZDc x=true) (h:RV v γ l x y):RV v' γ' l' x y:=by
 cases x with
 | tup c=>obtain⟨vs,h1,e⟩:=h;exact⟨vs,ZTk (x:=c) hx h1,e⟩
 | _=>obtain⟨cs,h1,e⟩:=h;exact⟨cs,ZTk hx h1,e⟩
theorem Zqs {U:Nat→Prop}:∀ {x:V},ZDc x=true→x.ok U:=by
 intro x
 induction x with
 | cons a c ia ic =>
  intro hx;simp only[ZDc]at hx;split at hx
  ·rename_i ha;exact⟨ia ha,ic hx⟩
  ·cases hx
 | agg c ih=>intro hx;exact ih hx
 | tup c ih=>intro hx;exact ih hx
 | data t x=>intro _;trivial
 | undef=>intro _;trivial
 | nilS=>intro _;trivial
 | nl=>intro _;trivial
 | _=>intro hx;cases hx
theorem Zjh {f r:Fr}:∀ {ss:List Nat} {t:Nat} {e:En V},lkE (Zfc f r ss) t=some e→(lkE f t=some e∧ZDc e.x=true)∨lkE r t=some e
 | [],_,_,h=>.inr h
 | s :: ss,t,e,h=>by
  simp only[Zfc]at h
  split at h
  ·rename_i e1 he
   split at h
   ·rename_i hfl
    rw[ZL]at h
    split at h
    ·rename_i hk
     cases h
     have:=(Zk he).2
     rw[hk]at this;subst this
     exact .inl ⟨he,hfl⟩
    ·exact Zjh h
   ·exact Zjh h
  ·exact Zjh h
theorem lkE_sub {us:List Nat}:∀ {l:Lo} {u:Nat} {e:En LV},lkE (Zlb us l) u=some e→(l.map En.k).Nodup→lkE l u=some e:=by
 intro l u e h hn;have hsub:(Zlb us l).Sublist l:=by
  clear h hn
  induction l with
  | nil=>exact List.Sublist.slnil
  | cons p r ih =>
   simp only[Zlb];split
   ·exact ih.cons_cons p
   ·exact ih.cons p
 obtain⟨hm,hk⟩:=Zk h;have:=ZTb hn (hsub.subset hm);rw[hk]at this;exact this
theorem Zuk {us:List Nat}:∀ {l:Lo},(Zlb us l).Sublist l:=by
 intro l
 induction l with
 | nil=>exact List.Sublist.slnil
 | cons p r ih =>
  simp only[Zlb];split
  ·exact ih.cons_cons p
  ·exact ih.cons p
theorem ZYu {us:List Nat} {e:En LV}:∀ {l:Lo},e ∈ Zlb us l→Zja us e.k=true:=by
 intro l
 induction l with
 | nil=>intro h;cases h
 | cons p r ih =>
  intro h;simp only[Zlb]at h;split at h
  ·rename_i hp;rcases List.mem_cons.1 h with rfl | h
   ·exact hp
   ·exact ih h
  ·exact ih h
theorem ZGq {R:En LV→List Loc→Prop} {us:List Nat}:∀ {l:Lo} {E:List (List Loc)},F2 R l E→∃ E',F2 R (Zlb us l) E'∧E'.flatten.Sublist E.flatten
 | [],[],_=>⟨[],trivial,List.Sublist.refl _⟩
 | [],_ :: _,h=>h.elim
 | _ :: _,[],h=>h.elim
 | p :: r,es :: E,h=>by
  obtain⟨E',h1,h2⟩:=ZGq (us:=us) h.2
  simp only[Zlb]
  split
  ·exact⟨es :: E',⟨h.1,h1⟩,by simp only[List.flatten_cons];exact List.Sublist.append (List.Sublist.refl _) h2⟩
  ·exact⟨E',h1,by simp only[List.flatten_cons];exact h2.trans (List.sublist_append_right _ _)⟩
section
variable {N:Nat} {G:V→Value→Prop} {w0:Base} {v0:Zb} {U X:Nat→Prop} {f:Fr} {l:Lo} {a:Act} {w:World} {γ:Nat→Gh} {v:Zb} {ℓ:List Loc}
theorem RelX.sub (h:RelX N G w0 v0 U X f l a w γ v ℓ) (us:List Nat):∃ ℓ',RelX N G w0 v0 U X f (Zlb us l) a w γ v ℓ'∧∃ E',F2 (Zsa v γ (Zlb us l)) (Zlb us l) E'∧ℓ'=E'.flatten:=by
 obtain⟨E,hE,hp⟩:=h.lr;have hle:Le U v γ l v γ (Zlb us l):=⟨Zb.le_refl _,λk e' _ he=>by
  have he':=lkE_sub he h.nd;refine⟨e',he',?_⟩;obtain⟨hm,hk'⟩:=Zk he';obtain⟨es,hr⟩:=ZCd hE hm;have:=Zkf (U:=U) (γ':=γ) hr rfl;rw[hk']at this;exact this⟩
 obtain⟨E',h1,h2⟩:=ZGq (us:=us) hE;have h3:F2 (Zsa v γ (Zlb us l)) (Zlb us l) E':=h1.imp λe he es hr=>Z4f hle (h.ul e (Zuk.subset he)).2.2 rfl hr;exact⟨_,⟨(h.st.perm hp).drop h2,λt e he=>ZVa hle (h.uf t e he).1 (h.fr t e he),⟨E',h3,List.Perm.refl _⟩,(Zuk.map _).nodup h.nd,h.uf,λe he=>h.ul e (Zuk.subset he),λx y hg=>⟨ZVa hle (h.gh x y hg).2 (h.gh x y hg).1,(h.gh x y hg).2⟩⟩,E',h3,rfl⟩
def IsFz (l:Lo) (u:Nat):Prop:=∃ k st ty t xs,lkE l u=some ⟨k,st,.own ty t xs true⟩
theorem ZTm {ρ:Type} {n:Nat} {e:Ev ρ} {Post:ρ→Fr→Lo→Prop} (hn:¬ U n) (hX:X n):∀ {ids:List Nat} {l:Lo} {v:Zb} {ℓ:List Loc},Zj n (Zyh e ids) f l Post→RelX N G w0 v0 U X f l a w γ v ℓ→∃ l1 v' ℓ',Zj n e f l1 Post∧RelX N G w0 v0 U X f l1 a w γ v' ℓ'∧(∀ u,IsFz l u→IsFz l1 u)∧∀ u ∈ ids,IsFz l1 u
 | [],l,v,ℓ,h,hr=>⟨l,v,ℓ,h,hr,λ_ h=>h,λ_ h=>by cases h⟩
 | u :: ids,l,v,ℓ,h,hr=>by
  obtain⟨⟨kk,st,L⟩,hu,h⟩:=h
  cases L with
  | own ty t xs fz =>
   cases fz with
   | false =>
    obtain⟨v',ℓ',h1,_⟩:=hr.freeze (ex:=[]) (n:=n) hr.st hu hn hX
    obtain⟨l2,v2,ℓ2,h0,h2,h3,h4⟩:=ZTm hn hX h h1
    have hz:IsFz (⟨u,n,.own ty t xs true⟩ :: era l u) u:=⟨u,n,ty,t,xs,by rw[ZL,iP rfl]⟩
    refine⟨l2,v2,ℓ2,h0,h2,λu' hu'=>h3 u' ?_,λu' hu'=>?_⟩
    ·obtain⟨k',st',ty',t',xs',e⟩:=hu'
     have hne:¬ u=u':=λe2=>by subst e2;rw[hu]at e;cases e
     exact⟨k',st',ty',t',xs',by rw[ZL,iN hne,ZVb hr.nd,iN hne];exact e⟩
    ·rcases List.mem_cons.1 hu' with rfl | hu'
     ·exact h3 _ hz
     ·exact h4 u' hu'
   | true =>
    obtain⟨l2,v2,ℓ2,h0,h2,h3,h4⟩:=ZTm hn hX h hr
    refine⟨l2,v2,ℓ2,h0,h2,h3,λu' hu'=>?_⟩
    rcases List.mem_cons.1 hu' with rfl | hu'
    ·exact h3 _ ⟨_,_,_,_,_,hu⟩
    ·exact h4 u' hu'
  | box _ _=>exact h.elim
  | mat _ _ _ _ _=>exact h.elim
  | mid _ _ _ _ _ _=>exact h.elim
  | mp _=>exact h.elim
  | it _ _=>exact h.elim
  | lst _ _ _ _=>exact h.elim
theorem ZLs {ρ:Type} {n:Nat} {e:Ev ρ} {Post:ρ→Fr→Lo→Prop} (hn:¬ U n) (hX:X n):∀ {bs:List (Nat×T)} {f:Fr} {l:Lo} {γ:Nat→Gh} {v:Zb} {ℓ:List Loc},Zj n (ZGj e bs) f l Post→RelX N G w0 v0 U X f l a w γ v ℓ→∃ f1 l1 γ' v' ℓ',Zj n e f1 l1 Post∧RelX N G w0 v0 U X f1 l1 a w γ' v' ℓ'
 | [],f,l,γ,v,ℓ,h,hr=>⟨f,l,γ,v,ℓ,h,hr⟩
 | p :: bs,f,l,γ,v,ℓ,h,hr=>by
  obtain⟨⟨kk,st,x⟩,hu,h⟩:=h
  cases x with
  | ptr u off =>
   obtain⟨y,l',γ',v',ℓ',h1,h2,_,h4⟩:=ZSc hn hX FU h hr (hr.uf _ _ hu).1
   obtain⟨cs,hcs,hy⟩:=Z8a (hr.fr _ _ hu) (λc e=>by cases e)
   obtain⟨b,o,c,e0,hat,hrel⟩:=(show (rPtr p.2.rep).rel v' cs y from h4 cs hcs)
   have hyy:a.tmps.getD p.1 undef = .pointer (some ⟨b,o,none⟩):=by rw[hy,e0];rfl
   have r2:=h2.slot (t:=p.1) (m:=n) (z:=.vp p.2 y 0) ⟨[_],⟨b,o,c,hat,hrel,rfl⟩,hyy⟩ trivial hX
   exact ZLs hn hX h1 r2
  | _=>exact h.elim
theorem Zps {R:En LV→List Loc→Prop}:∀ {l:Lo} {E:List (List Loc)},F2 R l E→(∀ e ∈ l,∀ es,R e es→es=[])→E.flatten=[]
 | [],[],_,_=>rfl
 | [],_ :: _,h,_=>h.elim
 | _ :: _,[],h,_=>h.elim
 | p :: r,es :: E,h,k=>by
  rw[List.flatten_cons,k p (by simp) es h.1,Zps h.2 λe he=>k e (by simp[he])];rfl
theorem lend_in {n:Nat} {ids:List Nat} {bs:List (Nat×T)} {Post:Unit→Fr→Lo→Prop} (h:RelX N G w0 v0 (· < n) (· < n) f l a w γ v ℓ) (hz:Zj n (ZGj (Zyh (.done ()) ids) bs) f l Post):∃ f1 l1 γ1 v1,Post () f1 l1∧RelX N G (w:Base) v1 (· < n+1) (· < n+1) f1 (Zlb ids l1) a w γ1 v1 []:=by
 have hm:=h.mono (U':=(· < n)) (X':=(· < n+1)) (λk h=>h) λk h=>(show k<n+1 by have:k<n:=h;omega);obtain⟨f1,l0,γ,v2,ℓ0,hz1,hm1⟩:=ZLs (U:=(· < n)) (X:=(· < n+1)) (Nat.lt_irrefl n) (Nat.lt_succ_self n) hz hm;obtain⟨l1,v1,ℓ1,hP,h1,_,h3⟩:=ZTm (U:=(· < n)) (X:=(· < n+1)) (Nat.lt_irrefl n) (Nat.lt_succ_self n) hz1 hm1;obtain⟨ℓ2,h4,E',h5,h6⟩:=h1.sub ids;have e0:ℓ2=[]:=by
  rw[h6];refine Zps h5 λe he es hr=>?_;obtain⟨k',st',ty',t',xs',e1⟩:=h3 e.k (ZUf.1 (ZYu he));have e2:=ZTb h1.nd (Zuk.subset he);rw[e1]at e2
  cases e2
  obtain⟨ob,cap,_,_,rfl⟩:=hr;rfl
 subst e0;have h4:=h4.mono (U':=(· < n+1)) (X':=(· < n+1)) (λk h=>(show k<n+1 by have:k<n:=h;omega)) λ_ h=>h;exact⟨f1,l1,γ,v1,hP,⟨h4.st.size,h4.st.dfr,h4.st.fr,ExtB.refl _,⟨Zb.le_refl _,h4.st.vst.vin,λ_ _ _=>rfl⟩,λe he=>(by cases he),List.nodup_nil⟩,h4.fr,h4.lr,h4.nd,h4.uf,h4.ul,h4.gh⟩
theorem ZGp {n:Nat} {F:Fr} {v1 v':Zb} {ℓ':List Loc} {a':Act} {w':World} (h:RelX N G w0 v0 (· < n) (· < n) f l a w γ v ℓ) (hs:St N (w:Base) v1 [] ℓ' v' a' w') (hU:∀ k,k<n→U k) (hX:∀ k,k<n→X k)
  (hF:∀ t e,lkE F t=some e→RV v γ l e.x (a'.tmps.getD t undef)∧e.x.ok U∧X e.st):RelX N G w0 v0 U X F l a' w' γ v ℓ:=by
 have hx:Ext w w':=hs.ext.ext;refine⟨⟨hs.size,hs.dfr,λt x e=>(by cases e),h.st.ext.trans hx,⟨h.st.vst.le,λb o e=>hx.get (h.st.vst.vin b o e),h.st.vst.old⟩,λe he=>⟨Loc.holds_ext hx (h.st.loc e he).1,(h.st.loc e he).2⟩,h.st.nd⟩,λt e he=>(hF t e he).1,h.lr,h.nd,λt e he=>(hF t e he).2,λe he=>?_,λx y hg=>⟨(h.gh x y hg).1,V.ok.mono hU (h.gh x y hg).2⟩⟩;exact⟨hX _ (h.ul e he).1,hX _ (h.ul e he).2.1,LV.ok.mono hU hX (h.ul e he).2.2⟩
theorem Z4u {n n':Nat} {f' f1:Fr} {ls l1 l':Lo} {γ':Nat→Gh} {v1 v':Zb} {ℓ':List Loc} {a':Act} {w':World} {fl keep:List Nat} (h:RelX N G w0 v0 (· < n) (· < n) f l a w γ v ℓ) (h':RelX N G (w:Base) v1 (· < n') (· < n') f' l' a' w' γ' v' ℓ') (hn:n+1≤n') (ho0:Old n f l f1 l1) (ho:Old (n+1) f1 ls f' l')
  (hp:∀ t,Zja keep t=true→a'.tmps.getD t undef=a.tmps.getD t undef):(∀ t e,lkE (Zfc f' (Zhb f keep) fl) t=some e→RV v γ l e.x (a'.tmps.getD t undef)∧e.x.ok (· < n)∧e.st<n')∧∀ t e,lkE (Zfc f' (Zhb f keep) fl) t=some e→e.st<n→lkE f t=some e:=by
 refine⟨λt e he=>?_,λt e he hst=>?_⟩
 ·rcases Zjh he with ⟨h1,h2⟩ | h1
  ·exact⟨flat_RV h2 (h'.fr t e h1),Zqs h2,(h'.uf t e h1).2⟩
  ·obtain⟨h2,h3⟩:=Zsi h1;have h4:=h.uf t e h2;refine⟨?_,h4.1,(show e.st<n' by have:e.st<n:=h4.2;omega)⟩;rw[hp t (ZUf.2 h3)];exact h.fr t e h2
 ·rcases Zjh he with ⟨h1,h2⟩ | h1
  ·exact ho0.1 t e (ho.1 t e h1 (by omega)) hst
  ·exact (Zsi h1).1
theorem Zll {d:Nat} {U:Nat→Prop} (hl:lkE l d=none) (hd:U d):∀ {cs:List Value},cs.all plain=true→RR v γ l false (Zwg d cs.length) cs∧(Zwg d cs.length).ok U
 | [],_=>⟨rfl,trivial⟩
 | c :: cs,h=>by
  rw[List.all_cons,Bool.and_eq_true]at h
  obtain⟨h1,h2⟩:=Zll hl hd h.2
  refine⟨⟨[c],cs,rfl,⟨c,rfl,h.1,λe he=>?_⟩,h1⟩,hd,h2⟩
  rw[hl]at he;cases he
theorem Z0o {n n' m:Nat} {f' f1 fb:Fr} {ls l1 l' lb:Lo} {γ':Nat→Gh} {v1 v':Zb} {ℓ':List Loc} {a':Act} {w':World} {fl keep nb:List Nat} (h:RelX N G w0 v0 (· < n) (· < n) f l a w γ v ℓ) (h':RelX N G (w:Base) v1 (· < n') (· < n') f' l' a' w' γ' v' ℓ') (hn:n+1≤n') (ho0:Old n f l f1 l1) (ho:Old (n+1) f1 ls f' l')
  (hp:∀ t,Zja keep t=true→a'.tmps.getD t undef=a.tmps.getD t undef) (hb:nbL n n' f' l' l nb=some (fb,lb,m)):n≤m∧Rel N G w0 v0 (· < m) (fb++Zfc f' (Zhb f keep) fl) lb a' w'∧Old n f l (fb++Zfc f' (Zhb f keep) fl) lb:=by
 obtain⟨hF,hO⟩:=Z4u (fl:=fl) h h' hn ho0 ho hp;have hcore:RelX N G w0 v0 (· < n) (· < n') (Zfc f' (Zhb f keep) fl) l a' w' γ v ℓ:=ZGp h h'.st (λk hk=>hk) (λk hk=>(show k<n' by omega)) hF;unfold nbL at hb;split at hb
 ·cases hb
  exact⟨by omega,⟨_,_,_,hcore.mono (λk hk=>(show k<n' by have:k<n:=hk;omega)) λ_ h=>h⟩,⟨hO,λu e he _=>he⟩⟩
 ·rename_i s;split at hb
  ·rename_i k0 st0 u hs;split at hb
   ·rename_i k1 st1 ty c hu hnone hlt;split at hb
    ·rename_i hag
     cases hb
     have hlt:n<u:=lB hlt;have hk1:k1=u:=(Zk hu).2;subst hk1;have hu':k1<n':=(h'.ul _ (Zk hu).1).1;obtain⟨E',hE',hpE'⟩:=h'.lr;obtain⟨es,E2,r1,_,r3⟩:=Zzf hE' hu;obtain⟨b,cs,g1,g2,g3,rfl⟩:=r1;have hmem:Loc.box b ty cs ∈ ℓ':=hpE'.mem_iff.2 (r3.mem_iff.2 (List.mem_append_left _ (List.mem_singleton.2 rfl)));obtain⟨hh,hbb⟩:=h'.st.loc _ hmem;have hwb:w.heap.size≤b:=by
      rcases (hbb b rfl).1 with q | q
      ·exact q
      ·cases q
     have hlen:=Z1c g2;have hln:lkE (⟨k1,n',.box ty (.agg (Zwg n c.size))⟩ :: l) n=none:=by
      rw[ZL,iN (show ¬ k1=n by omega)]
      cases hx:lkE l n with
      | none=>rfl
      | some e =>
       obtain⟨q1,q2⟩:=Zk hx;have:e.k<n:=(h.ul e q1).1;omega
     obtain⟨d1,d2⟩:=Zll (v:=v) (γ:=ZPa γ k1 (.box b)) (U:=(· < n'+1)) hln (show n<n'+1 by omega) g3;rw[hlen]at d1 d2;have hst:St N w0 v0 [] (.box b ty cs :: ℓ) v a' w':=by
      refine⟨hcore.st.size,hcore.st.dfr,hcore.st.fr,hcore.st.ext,hcore.st.vst,λe he=>?_,?_⟩
      ·rcases List.mem_cons.1 he with rfl | he
       ·refine⟨hh,λk hk=>?_⟩
        cases hk
        exact⟨.inl (Nat.le_trans h.st.ext.size hwb),h.st.vst.vin.none hwb⟩
       ·exact hcore.st.loc e he
      ·rw[List.filterMap_cons_some (show (Loc.box b ty cs).blk=some b from rfl),List.nodup_cons];refine⟨λhm=>?_,h.st.nd⟩;obtain⟨e,he,hk⟩:=List.mem_filterMap.1 hm;obtain⟨_,hg⟩:=Loc.blk_get (h.st.loc e he).1 hk;have:=Z5b hg;omega
     have hcore2:=hcore.mono (U':=(· < n)) (X':=(· < n'+1)) (λ_ h=>h) λk hk=>(show k<n'+1 by have:k<n':=hk;omega);obtain⟨E,hE,hpE⟩:=hcore2.lr;have q1:RelX N G w0 v0 (λk=>k<n∨k=n) (· < n'+1) (Zfc f' (Zhb f keep) fl) (⟨k1,n',.box ty (.agg (Zwg n c.size))⟩ :: l) a' w' (ZPa γ k1 (.box b)) v (.box b ty cs :: ℓ):=by
      have hcore3:=hcore2.mono (U':=λk=>k<n∨k=n) (X':=(· < n'+1)) (λ_ h=>.inl h) λ_ h=>h;refine hcore3.new (show n'<n'+1 by omega) (show k1<n'+1 by omega) (λhh=>?_) hnone hE hst (Zb.le_refl _) (λk hk=>Z9a hk) ⟨b,cs,Zla,d1,g3,rfl⟩ (List.Perm.cons _ hpE) ?_
      ·rcases hh with hh | hh <;> omega
      ·exact (Zll (v:=v) (γ:=ZPa γ k1 (.box b)) (U:=λk=>k<n∨k=n) hln (.inr rfl) g3).2 |> λq=>by rw[hlen]at q;exact q
     have q2:=q1.mono (U':=(· < n'+1)) (X':=(· < n'+1)) (λk hk=>(show k<n'+1 by rcases hk with hk | hk <;> omega)) λ_ h=>h;obtain⟨cs1,⟨y,rfl,hpl,hy⟩,hyy⟩:=h'.fr _ _ hs;obtain⟨b2,g4,rfl⟩:=hy _ hu;rw[g1]at g4;cases g4;have hyy:a'.tmps.getD s undef = .pointer (some ⟨b,0,none⟩):=hyy;have q3:=q2.slot (t:=s) (m:=n') (z:=.ptr k1 0) ⟨[_],⟨_,rfl,hpl,λe he=>?_⟩,hyy⟩ (show k1<n'+1 by omega) (show n'<n'+1 by omega)
     ·refine⟨by omega,⟨_,_,_,q3⟩,λt e he hst=>?_,λu e he hst=>?_⟩
      ·rw[List.singleton_append,ZL]at he;split at he
       ·cases he;exact absurd hst (by show ¬ n'<n;omega)
       ·exact hO t e he hst
      ·rw[ZL]at he;split at he
       ·cases he;exact absurd hst (by show ¬ n'<n;omega)
       ·exact he
     ·rw[ZL,iP rfl]at he
      cases he
      exact⟨b,Zla,rfl⟩
    ·cases hb
   ·cases hb
  ·cases hb
 ·cases hb
end
end Go.Eng
namespace Go.Eng
open Go.RowKit
section
variable {N:Nat} {G:V→Value→Prop} {w0:Base} {v0:Zb}
structure KOK (P:Program) (rs:List ResultVar) (N:Nat) (G:V→Value→Prop) (w0:Base) (v0:Zb) {α:Type} (n:Nat) (f:Fr) (l:Lo) (K:Kt α) (r:α) (Q:Exit→Act→World→Prop):Prop where
 norm:Znc N G w0 v0 n f l (λf l n=>K.norm f l n=some r) (Q .normal)
 exit:∀ i,Znc N G w0 v0 n f l (λf l n=>K.exit i f l n=some r) (Q (.exit i))
 ret:∀ c l' n' a' w',K.ret c l' n'=some r→n≤n'→Ztc n l l'→RetR P rs N G w0 v0 c l' n' a' w'→Q .ret a' w'
theorem KOK.step {P:Program} {rs:List ResultVar} {α:Type} {n n1:Nat} {f f1:Fr} {l l1:Lo} {K:Kt α} {r:α} {Q:Exit→Act→World→Prop} (h:KOK P rs N G w0 v0 n f l K r Q) (hn:n≤n1) (ho:Old n f l f1 l1):KOK P rs N G w0 v0 n1 f1 l1 K r Q :=
 ⟨h.norm.step hn ho,λi=>(h.exit i).step hn ho,λc l' n' a' w' hk hn' ho' hr=>h.ret c l' n' a' w' hk (by omega) (ho.l.trans ho' hn) hr⟩
def kdE:Kd→Exit
 | .norm=>.normal
 | .exit i=>.exit i
 | .ret=>.ret
theorem Z3j {a b:Kd} (h:kdEq a b=true):a=b:=by
 cases a <;> cases b <;> first | rfl | (cases h;done) | (rw[eQ h])
theorem ZRr {P:Program} {rs:List ResultVar} {α β:Type} {b n0 n:Nat} {f0 f:Fr} {l0 l:Lo} {o:Kd×Js} {K:jT o.2→Option α} {x':α} {a:Act} {w:World} {Q:Exit→Act→World→Prop} (h0:H0 G n0 f0 l0) (hn:n0≤n) (hk:o.1 ≠ .ret) (hr:Rel N G w0 v0 (· < n) f l a w) (ho:Old n0 f0 l0 f l) (h:Zie b n0 n f0 l0 f l o.2 K=some x') :
  ∃ y,K y=some x'∧∀ {Kout:Kt β} {r:β},ZCg b f0 l0 n0 Kout o y=some r→KOK P rs N G w0 v0 n0 f0 l0 Kout r Q→Q (kdE o.1) a w:=by
 obtain⟨y,h1,h2,h3,h4⟩:=ZJk h0 hn hr ho h;refine⟨y,h1,λ{Kout r} hx hK=>?_⟩;unfold ZCg at hx;split at hx
 ·rename_i e;rw[ZCk]at hx;rw[e];exact hK.norm _ _ _ a w hx h2 h4 h3
 ·rename_i i e;rw[ZCk]at hx;rw[e];exact hK.exit i _ _ _ a w hx h2 h4 h3
 ·rename_i e;exact absurd e hk
theorem ZVt {P:Program} {rs:List ResultVar} {α β:Type} {b n0 n:Nat} {f0:Fr} {l0 l:Lo} {c:V} {o:Kd×Js} {K:jT o.2→Option α} {x':α} {a:Act} {w:World} {Q:Exit→Act→World→Prop} (h0:H0 G n0 f0 l0) (hn:n0≤n) (hk:o.1 = .ret) (hr:RetR P rs N G w0 v0 c l n a w) (ho:Ztc n0 l0 l) (h:Zmi b n0 n f0 l0 c l o.2 K=some x') :
  ∃ y,K y=some x'∧∀ {Kout:Kt β} {r:β},ZCg b f0 l0 n0 Kout o y=some r→KOK P rs N G w0 v0 n0 f0 l0 Kout r Q→Q .ret a w:=by
 obtain⟨y,h1,h2⟩:=Zeu (β:=β) h0 hn hr ho h;refine⟨y,h1,λ{Kout r} hx hK=>?_⟩;unfold ZCg at hx;split at hx
 ·rename_i e;rw[hk]at e;cases e
 ·rename_i e;rw[hk]at e;cases e
 ·obtain⟨c',l',m,k0,k1,k2,k3⟩:=h2 hx;exact hK.ret _ _ _ a w k0 k1 k3 k2
theorem Zzi {P:Program} {rs:List ResultVar} {β:Type} {b n0 n:Nat} {f0 f:Fr} {l0 l:Lo} {a:Act} {w:World} {Q:Exit→Act→World→Prop} {kd:Kd} {c:V} (h0:H0 G n0 f0 l0) (hn:n0≤n) (hk:kd ≠ .ret) (hr:Rel N G w0 v0 (· < n) f l a w) (ho:Old n0 f0 l0 f l) :
  ∀ {os:List (Kd×Js)} {α:Type} {K:sumT os→Option α} {x':α},ZHc b n0 n f0 l0 kd c f l os K=some x' →
  ∃ y,K y=some x'∧∀ {Kout:Kt β} {r:β},arms b f0 l0 n0 Kout os y=some r→KOK P rs N G w0 v0 n0 f0 l0 Kout r Q→Q (kdE kd) a w
 | [],α,K,x',h=>by cases h
 | [o],α,K,x',h=>by
  simp only[ZHc]at h
  split at h
  ·rename_i he
   have he:=Z3j he
   have h:Zie b n0 n f0 l0 f l o.2 K=some x':=by cases kd <;> first | exact h | exact absurd rfl hk
   obtain⟨y,h1,h2⟩:=ZRr (P:=P) (rs:=rs) (β:=β) (Q:=Q) h0 hn (by rw[he];exact hk) hr ho h
   exact⟨y,h1,λ{Kout r} hx hK=>he ▸ h2 hx hK⟩
  ·cases h
 | o :: p :: os,α,K,x',h=>by
  simp only[ZHc]at h
  split at h
  ·rename_i he
   have he:=Z3j he
   have h:Zie b n0 n f0 l0 f l o.2 (λx=>K (.inl x))=some x':=by cases kd <;> first | exact h | exact absurd rfl hk
   obtain⟨y,h1,h2⟩:=ZRr (P:=P) (rs:=rs) (β:=β) (Q:=Q) h0 hn (by rw[he];exact hk) hr ho h
   exact⟨.inl y,h1,λ{Kout r} hx hK=>he ▸ h2 hx hK⟩
  ·obtain⟨y,h1,h2⟩:=Zzi h0 hn hk hr ho (os:=p :: os) h
   exact⟨.inr y,h1,λ{Kout r} hx hK=>h2 hx hK⟩
theorem Zrl {P:Program} {rs:List ResultVar} {β:Type} {b n0 n:Nat} {f0 f:Fr} {l0 l:Lo} {a:Act} {w:World} {Q:Exit→Act→World→Prop} {c:V} (h0:H0 G n0 f0 l0) (hn:n0≤n) (hr:RetR P rs N G w0 v0 c l n a w) (ho:Ztc n0 l0 l) :
  ∀ {os:List (Kd×Js)} {α:Type} {K:sumT os→Option α} {x':α},ZHc b n0 n f0 l0 .ret c f l os K=some x' →
  ∃ y,K y=some x'∧∀ {Kout:Kt β} {r:β},arms b f0 l0 n0 Kout os y=some r→KOK P rs N G w0 v0 n0 f0 l0 Kout r Q→Q .ret a w
 | [],α,K,x',h=>by cases h
 | [o],α,K,x',h=>by
  simp only[ZHc]at h
  split at h
  ·rename_i he
   exact ZVt h0 hn (Z3j he) hr ho h
  ·cases h
 | o :: p :: os,α,K,x',h=>by
  simp only[ZHc]at h
  split at h
  ·rename_i he
   obtain⟨y,h1,h2⟩:=ZVt (P:=P) (rs:=rs) (β:=β) (Q:=Q) h0 hn (Z3j he) hr ho h
   exact⟨.inl y,h1,λ{Kout r} hx hK=>h2 hx hK⟩
  ·obtain⟨y,h1,h2⟩:=Zrl h0 hn hr ho (os:=p :: os) h
   exact⟨.inr y,h1,λ{Kout r} hx hK=>h2 hx hK⟩
def xo (z:Option (FuncId×List PanicEntry)):Exit→Exit
 | .exit i=>match z,Nat.beq i 999 with
  | some p,true=>.panic p.2
  | _,_=>.exit i
 | e=>e
def Qx (z:Option (FuncId×List PanicEntry)) (Q:Exit→Act→World→Prop):Exit→Act→World→Prop:=λe a w=>Q (xo z e) a w
theorem Zpk (z:Option (FuncId×List PanicEntry)) (i:Nat):(∃ p,z=some p∧Nat.beq i 999=true∧xo z (.exit i) = .panic p.2)∨xo z (.exit i) = .exit i:=by
 unfold xo
 cases z with
 | none=>exact .inr rfl
 | some p =>
  cases hb:Nat.beq i 999 with
  | true=>exact .inl ⟨p,rfl,rfl,by simp[hb]⟩
  | false=>exact .inr (by simp[hb])
theorem ZXm {z:Option (FuncId×List PanicEntry)} {A:Act→World→Prop} {Q:Exit→Act→World→Prop} {i:Nat} {a:Act} {w:World} (h:Qx z Q (.exit i) a w):Qx z (Exit.then A Q) (.exit i) a w:=by
 unfold Qx at h ⊢;rcases Zpk z i with ⟨p,_,_,e⟩ | e <;> rw[e]at h ⊢ <;> exact h
theorem Qx_goto {z:Option (FuncId×List PanicEntry)} {Q:Exit→Act→World→Prop} {i:Nat} {a:Act} {w:World} (h:Qx z Q (.exit i) a w):Qx z (Exit.noGoto Q) (.exit i) a w:=by
 unfold Qx at h ⊢;rcases Zpk z i with ⟨p,_,_,e⟩ | e <;> rw[e]at h ⊢ <;> exact h
def CW (P:Program):Code→(Exit→Act→World→Prop)→Act→World→Prop
 | .seq x y,Q=>CW P x (Exit.then (CW P y Q) Q)
 | c,Q=>c.wp P Q
theorem Zxw {K K':Act→World→Prop} {Q:Exit→Act→World→Prop} (h:∀ a w,K a w→K' a w):∀ e a w,Exit.then K Q e a w→Exit.then K' Q e a w:=by
 intro e a w hh
 cases e with
 | normal=>exact h a w hh
 | _=>exact hh
theorem CW.wp {P:Program}:∀ {c:Code} {Q:Exit→Act→World→Prop} {a:Act} {w:World},CW P c Q a w→c.wp P Q a w:=by
 intro c
 induction c with
 | seq x y ix iy=>intro Q a w h;exact wp_seq (wp_mono (ix h) (Zxw λa w h=>iy h))
 | _=>intro Q a w h;exact h
theorem CW.mono {P:Program}:∀ {c:Code} {Q Q':Exit→Act→World→Prop},(∀ e a w,Q e a w→Q' e a w)→∀ {a:Act} {w:World},CW P c Q a w→CW P c Q' a w:=by
 intro c
 induction c with
 | seq x y ix iy =>
  intro Q Q' hq a w h;refine ix (λe a w he=>?_) h
  cases e with
  | normal=>exact iy hq he
  | _=>exact hq _ _ _ he
 | _=>intro Q Q' hq a w h;exact wp_mono h hq
def IH (P:Program) (z:Option (FuncId×List PanicEntry)) (rs:List ResultVar) (N:Nat) (G:V→Value→Prop) (c:Code) (g:List Nat→(β:Type)→Go β) (a:Act) (w:World):Prop :=
 ∀ {β:Type} {a':Ann} {f:Fr} {l:Lo} {n:Nat} {K':Kt β} {r':β} {ks:List Nat} {pv:Nat→Value} {w0:Base} {v0:Zb} {Q:Exit→Act→World→Prop},g ks β a' f l n K'=some r'→Rel N G w0 v0 (· < n) f l a w→Pin ks pv a→KOK P rs N G w0 v0 n f l K' r' (Pn ks pv (Qx z Q))→CW P c Q a w
theorem kok_pn {P:Program} {rs:List ResultVar} {α:Type} {n:Nat} {f:Fr} {l:Lo} {K:Kt α} {r:α} {ks:List Nat} {pv:Nat→Value} {Q:Exit→Act→World→Prop} (h:KOK P rs N G w0 v0 n f l K r Q):KOK P rs N G w0 v0 n f l K r (Pn ks pv Q) :=
 ⟨λf' l' n' a' w' hp hn ho hr _=>h.norm f' l' n' a' w' hp hn ho hr,λi f' l' n' a' w' hp hn ho hr _=>h.exit i f' l' n' a' w' hp hn ho hr,λc l' n' a' w' hp hn ho hr _=>h.ret c l' n' a' w' hp hn ho hr⟩
theorem ZCp {P:Program} {z:Option (FuncId×List PanicEntry)} {rs:List ResultVar} {c:Code} {α:Type} {b n:Nat} {ks:List Nat} {pv:Nat→Value} {ann:Ann} {f:Fr} {l:Lo} {K:Kt α} {g:List Nat→(β:Type)→Go β} {r:α} {a:Act} {w:World} {Q:Exit→Act→World→Prop} (h:ZZi b ks ann f l n K g=some r) (hr:Rel N G w0 v0 (· < n) f l a w) (hpn:Pin ks pv a) (hK:KOK P rs N G w0 v0 n f l K r (Pn ks pv (Qx z Q)))
  (ih:IH P z rs N G c g a w):CW P c Q a w:=by
 unfold ZZi at h;split at h
 ·rename_i j a';obtain⟨x,hx,harms⟩:=ZG h;have h0:=hr.h0;refine ih hx hr hpn ⟨λf' l' n' a' w' hp hn' ho' hr'=>?_,λi f' l' n' a' w' hp hn' ho' hr'=>?_,λc l' n' a' w' hp hn' ho' hr'=>?_⟩
  ·obtain⟨y,h1,h2⟩:=Zzi (P:=P) (rs:=rs) (β:=α) (Q:=Pn ks pv (Qx z Q)) (kd:=.norm) h0 hn' (λe=>by cases e) hr' ho' hp
   cases h1
   exact h2 harms hK
  ·obtain⟨y,h1,h2⟩:=Zzi (P:=P) (rs:=rs) (β:=α) (Q:=Pn ks pv (Qx z Q)) (kd:=.exit i) h0 hn' (λe=>by cases e) hr' ho' hp
   cases h1
   exact h2 harms hK
  ·obtain⟨y,h1,h2⟩:=Zrl (P:=P) (rs:=rs) (β:=α) (Q:=Pn ks pv (Qx z Q)) h0 hn' hr' ho' hp
   cases h1
   exact h2 harms hK
 ·exact ih h hr hpn hK
theorem ZMj {P:Program} {z:Option (FuncId×List PanicEntry)} {rs:List ResultVar} {c:Code} {α:Type} {b n:Nat} {ks:List Nat} {pv:Nat→Value} {ann:Ann} {f:Fr} {l:Lo} {K:Kt α} {g:List Nat→(β:Type)→Go β} {r:α} {a:Act} {w:World} {Q:Exit→Act→World→Prop} (h:Ztg b ks ann f l n K g=some r) (hr:Rel N G w0 v0 (· < n) f l a w) (hpn:Pin ks pv a) (hK:KOK P rs N G w0 v0 n f l K r (Pn ks pv (Qx z Q)))
  (ih:IH P z rs N G c g a w):CW P c Q a w:=by
 unfold Ztg at h;split at h
 ·rename_i us bs nb fl keep a';split at h
  ·rename_i ids _;obtain⟨γ,v,ℓ,hr⟩:=hr;have hru:=ZQd (Nat.le_refl n) Old.refl hr.nd (Z6c h);obtain⟨f1,l1,γ1,v1,⟨h,ho0⟩,h1⟩:=lend_in hr hru;have hpin:Pin (keep++ks) (λt=>a.tmps.getD t undef) a:=λt _=>rfl;have hback:∀ {a2:Act},Pin (keep++ks) (λt=>a.tmps.getD t undef) a2→Pin ks pv a2∧∀ t,Zja keep t=true→a2.tmps.getD t undef=a.tmps.getD t undef:=λh2=>⟨λt ht=>(h2 t (ZUf.2 (List.mem_append_right _ (ZUf.1 ht)))).trans (hpn t ht),λt ht=>h2 t (ZUf.2 (List.mem_append_left _ (ZUf.1 ht)))⟩;refine ZCp (z:=z) (rs:=rs) h ⟨_,_,_,h1⟩ hpin (Q:=Q) ⟨λf' l' n' a' w' hp hn' ho' hr' hpp=>?_,λi f' l' n' a' w' hp hn' ho' hr' hpp=>?_,λc l' n' a' w' hp hn' ho' hr' hpp=>?_⟩ ?_
   ·obtain⟨γ',v',ℓ',hr'⟩:=hr';obtain⟨q1,q2⟩:=hback (hpp (λe=>by cases e));have hp:(match nbL n n' f' l' l nb with | some (fb,lb,m)=>K.norm (fb++Zfc f' (Zhb f keep) fl) lb m | none=>none)=some r:=hp;split at hp
    ·rename_i fb lb m hb;obtain⟨k0,k1,k2⟩:=Z0o (fl:=fl) hr hr' hn' ho0 ho' q2 hb;exact hK.norm _ _ _ a' w' hp k0 k2 k1 λ_=>q1
    ·cases hp
   ·obtain⟨γ',v',ℓ',hr'⟩:=hr';obtain⟨q1,q2⟩:=hback (hpp (λe=>by cases e));obtain⟨k0,k1,k2⟩:=Z0o (fl:=fl) (nb:=[]) hr hr' hn' ho0 ho' q2 rfl;exact hK.exit i _ _ _ a' w' hp (by omega) k2 k1 λ_=>q1
   ·have hp:(match ZDc c with | true=>K.ret c l n' | false=>none)=some r:=hp;split at hp
    ·rename_i hfl;obtain⟨γ',v',ℓ',vals,hr',hc',hk',hres⟩:=hr';obtain⟨q1,q2⟩:=hback (hpp (λe=>by cases e));have k1:RelX N G w0 v0 (· < n') (· < n') [] l a' w' γ v ℓ:=ZGp hr hr'.st (λk hk=>(show k<n' by omega)) (λk hk=>(show k<n' by omega)) λt e he=>by cases he
     exact hK.ret c _ _ a' w' hp (by omega) (λu e he _=>he) ⟨_,_,_,vals,k1,ZTk hfl hc',Zqs hfl,hres⟩ λ_=>q1
    ·cases hp
   ·exact ih
  ·cases h
 ·exact ZCp h hr hpn hK ih
theorem ZVq {P:Program} {z:Option (FuncId×List PanicEntry)} {rs:List ResultVar} {c:Code} {α:Type} {a':Ann} {g:(β:Type)→Go β} {r:α} {ks:List Nat} {pv:Nat→Value}:∀ (k:Nat) {n:Nat} {f:Fr} {l:Lo} {K:Kt α} {a:Act} {w:World} {Q:Exit→Act→World→Prop},rounds g a' k f l n K=some r→Rel N G w0 v0 (· < n) f l a w→Pin ks pv a→KOK P rs N G w0 v0 n f l K r (Pn ks pv (Qx z Q)) →
  (∀ {β:Type} {a':Ann} {f':Fr} {l':Lo} {n':Nat} {K':Kt β} {r':β} {a:Act} {w:World} {Q':Exit→Act→World→Prop},g β a' f' l' n' K'=some r'→Rel N G w0 v0 (· < n') f' l' a w→Pin ks pv a→KOK P rs N G w0 v0 n' f' l' K' r' (Pn ks pv (Qx z Q'))→c.wp P Q' a w)→Code.rounds P c Q k a w
 | 0,n,f,l,K,a,w,Q,h,_,_,_,_=>by cases h
 | k+1,n,f,l,K,a,w,Q,h,hr,hpn,hK,ih =>
  Z4x (ih (Q':=Exit.then (Code.rounds P c Q k) Q) h hr hpn ⟨λf' l' n' a' w' hp hn' ho' hr' hpp=>ZVq k hp hr' (hpp λe=>by cases e) (hK.step hn' ho') ih,λi f' l' n' a' w' hp hn' ho' hr' hpp=>ZXm (hK.exit i f' l' n' a' w' hp hn' ho' hr' hpp),λc l' n' a' w' hp hn' ho' hr' hpp=>hK.ret c l' n' a' w' hp hn' ho' hr' hpp⟩)
theorem Ztz {P:Program} {z:Option (FuncId×List PanicEntry)} {rs:List ResultVar} {c:Code} {α:Type} {b n:Nat} {ann:Ann} {f:Fr} {l:Lo} {K:Kt α} {g:(β:Type)→Go β} {r:α} {a:Act} {w:World} {Q:Exit→Act→World→Prop} {ks:List Nat} {pv:Nat→Value} (h:loopI b ann f l n K g=some r) (hr:Rel N G w0 v0 (· < n) f l a w) (hpn:Pin ks pv a) (hK:KOK P rs N G w0 v0 n f l K r (Pn ks pv (Qx z Q)))
  (ih:∀ {β:Type} {a':Ann} {f':Fr} {l':Lo} {n':Nat} {K':Kt β} {r':β} {a:Act} {w:World} {Q':Exit→Act→World→Prop},g β a' f' l' n' K'=some r'→Rel N G w0 v0 (· < n') f' l' a w→Pin ks pv a→KOK P rs N G w0 v0 n' f' l' K' r' (Pn ks pv (Qx z Q'))→c.wp P Q' a w):(Code.loop c).wp P Q a w:=by
 unfold loopI at h;split at h
 ·rename_i j ann';have h0:=hr.h0;obtain⟨zz,h1,h2,h3,h4⟩:=ZJk h0 (Nat.le_refl n) hr Old.refl h;obtain⟨y,hl,harms⟩:=ZG h1;refine Zfe hl (λs a w=>n≤bN f l j.head s n∧Rel N G w0 v0 (· < bN f l j.head s n) (bF f l j.head s n) (bL b f l j.head s n) a w∧Old n f l (bF f l j.head s n) (bL b f l j.head s n)∧Pin ks pv a) ⟨h2,h3,h4,hpn⟩ ?_;rintro s a w st ⟨i1,i2,i3,i4⟩ hst N' hN hR;rw[ZCk]at hst;refine ih hst i2 i4 ⟨λf' l' n' a' w' hp hn' ho' hr' hpp=>?_,λi f' l' n' a' w' hp hn' ho' hr' hpp=>?_,λc l' n' a' w' hp hn' ho' hr' hpp=>?_⟩
  ·obtain⟨x,k1,k2,k3,k4⟩:=ZJk h0 (Nat.le_trans i1 hn') hr' (i3.trans ho' i1) hp
   cases k1
   exact hN x rfl a' w' ⟨k2,k3,k4,hpp λe=>by cases e⟩
  ·obtain⟨y',k1,k2⟩:=Zzi (P:=P) (rs:=rs) (β:=α) (Q:=Pn ks pv (Qx z Q)) (kd:=.exit i) h0 (Nat.le_trans i1 hn') (λe=>by cases e) hr' (i3.trans ho' i1) hp
   cases k1
   have:=hR y' rfl;subst this;exact ZXm (k2 harms hK hpp)
  ·obtain⟨y',k1,k2⟩:=Zrl (P:=P) (rs:=rs) (β:=α) (Q:=Pn ks pv (Qx z Q)) h0 (Nat.le_trans i1 hn') hr' (i3.l.trans ho' i1) hp
   cases k1
   have:=hR y' rfl;subst this;exact k2 harms hK hpp
 ·rename_i k ann';exact wp_loop_rounds k (ZVq k h hr hpn hK ih)
 ·cases h
theorem ZTx {P:Program} {f:Fr} {l:Lo} {a:Act} {w:World} {γ:Nat→Gh} {v:Zb} {ℓ:List Loc} {n:Nat} (hr:RelX N G w0 v0 (· < n) (· < n) f l a w γ v ℓ) {q:ResultVar} {z:V} (h:ZXl f l P q=some z) (hz:∀ c,z ≠ .tup c):∃ cs,RR v γ l false z cs∧z.ok (· < n)∧Res P a.tmps w q (z.val cs):=by
 unfold ZXl at h;split at h
 ·rename_i t;split at h
  ·rename_i e he
   cases h
   obtain⟨cs,h1,h2⟩:=Z8a (hr.fr t e he) hz;obtain⟨σ,hσ,hev⟩:=hr.st.ev1 (.tmp t);exact⟨cs,h1,(hr.uf t e he).1,by rw[← h2];exact ZY hσ hev⟩
  ·cases h
 ·rename_i x t;split at h
  ·rename_i k st u he;split at h
   ·rename_i k2 st2 ty c hu;split at h
    ·rename_i q hq;have hrv:=hr.fr x _ he;obtain⟨y,hy0,_,hy⟩:=Z6 hrv (λ_ e=>by cases e) rfl rfl
     cases hy0
     obtain⟨b',g4,g5⟩:=hy _ hu;obtain⟨hkk,es,hes,hmem⟩:=hr.loc hu;obtain⟨b,cs,g1,g2,g3,rfl⟩:=hes;have hkk:k2=u:=hkk;subst hkk;have g1:γ k2 = .box b:=g1;rw[g1]at g4;cases g4;have hc:c.ok (· < n):=(hr.ul _ (Zk hu).1).2.2;obtain⟨k1,k2',k3,k4,k5⟩:=ZMc FU h g2 hc;obtain⟨i,hi⟩:=hmem _ (List.mem_singleton.2 rfl);have hlen:((cs.drop 0).take q.1).length=q.1:=by simp at k5 ⊢;omega
     have hw:=hr.st.box hi 0 ((cs.drop 0).take q.1) (by rw[hlen]);obtain⟨σ,hσ,hev⟩:=hr.st.ev1 (.tmp x);have g5:a.eval (.tmp x)=_:=g5;rw[g5]at hev;have ht:=Zde hq;refine⟨_,k1,k2',?_⟩
     cases hag:z.isAgg with
     | true =>
      rw[← k4,hag]at ht;unfold V.val;rw[hag];exact Zaq hσ hev ht hlen hw
     | false =>
      rw[← k4,hag]at ht;have h1:=ZJc FU h hag;have e3:=Z0g k1 h1 hag;rw[← k3,h1]at ht;rw[e3]at hw;exact res_one hσ hev ht hw
    ·cases h
   ·cases h
  ·cases h
theorem ZYn {P:Program} {f:Fr} {l:Lo} {a:Act} {w:World} {γ:Nat→Gh} {v:Zb} {ℓ:List Loc} {n:Nat} (hr:RelX N G w0 v0 (· < n) (· < n) f l a w γ v ℓ):∀ {rs:List ResultVar} {c:V},ZCi f l P rs=some c→∃ vals,RR v γ l true c vals∧c.ok (· < n)∧Ress P a.tmps w rs vals
 | [],c,h=>by cases h;exact⟨[],rfl,trivial,trivial⟩
 | q :: rs,c,h=>by
  simp only[ZCi]at h
  split at h
  ·cases h
  ·rename_i z c1 hnt h1 h2
   cases h
   obtain⟨cs,k1,k2,k3⟩:=ZTx hr h1 (λc e=>hnt c (by rw[e]))
   obtain⟨vals,q1,q2,q3⟩:=ZYn hr h2
   exact⟨_,⟨cs,vals,rfl,k1,q1⟩,⟨k2,q2⟩,k3,q3⟩
  ·cases h
theorem ZXw {id i:Nat} {Q:Exit→Act→World→Prop} {a:Act} {w:World} (h:(Nat.beq i id=true→Q .normal a w)∧(Nat.beq i id=false→Q (.exit i) a w)):Exit.inBlock id Q (.exit i) a w:=by
 cases hb:Nat.beq i id
 ·have hne:¬ i=id:=λe=>by rw[e]at hb;simp at hb
  simp only[Exit.inBlock,iN hne];exact h.2 hb
 ·simp only[Exit.inBlock,iP (eQ hb)];exact h.1 hb
theorem ZRu {C:Cf} {id i:Nat} {Q:Exit→Act→World→Prop} {a:Act} {w:World} (hid:Zti C id=false) (h:(Nat.beq i id=true→Q .normal a w)∧(Nat.beq i id=false→Qx C.ex.pan Q (.exit i) a w)):Qx C.ex.pan (Exit.inBlock id Q) (.exit i) a w:=by
 unfold Qx at h ⊢;rcases Zpk C.ex.pan i with ⟨p,e1,e2,e⟩ | e
 ·rw[e]at h ⊢;refine h.2 ?_
  cases hb:Nat.beq i id with
  | false=>rfl
  | true =>
   rw[eQ hb]at e2;unfold Zti at hid;rw[e1,e2]at hid;cases hid
 ·rw[e]at h ⊢;exact ZXw h
theorem Pn.mk {ks:List Nat} {pv:Nat→Value} {Q:Exit→Act→World→Prop} {e:Exit} {a:Act} {w:World} (h:Pn ks pv Q e a w) (hp:Pin ks pv a):Q e a w:=h λ_=>hp
theorem Zyy {C:Cf} (hC:CfOK C) {cf:CallF} (hcf:Zgd C cf) {rs:List ResultVar} {b:Nat}:∀ (c:Code) {α:Type} {ann:Ann} {f:Fr} {l:Lo} {n:Nat} {K:Kt α} {r:α} {ks:List Nat} {pv:Nat→Value} {w0:Base} {v0:Zb} {Q:Exit→Act→World→Prop} {a:Act} {w:World},
  Zyb C cf rs b N c ks α ann f l n K=some r→Rel N G w0 v0 (· < n) f l a w→Pin ks pv a→KOK C.P rs N G w0 v0 n f l K r (Pn ks pv (Qx C.ex.pan Q))→CW C.P c Q a w:=by
 intro c
 induction c with
 | skip=>intro α ann f l n K r ks pv w0 v0 Q a w h hr hpn hK;exact wp_skip ((hK.norm f l n a w h (Nat.le_refl n) Old.refl hr).mk hpn)
 | label i=>intro α ann f l n K r ks pv w0 v0 Q a w h hr hpn hK;exact wp_label ((hK.norm f l n a w h (Nat.le_refl n) Old.refl hr).mk hpn)
 | region id ops draw =>
  intro α ann f l n K r ks pv w0 v0 Q a w hh hr hpn hK;refine ZMj hh hr hpn hK ?_;clear hh hr hpn hK;intro β a' f l n K' r' ks pv w0 v0 Q h hr hpn hK2
  dsimp only at h
  split at h
  ·rename_i hds;have hd:=ZRl hds;split at h
   ·exact wp_region_list (Z0k (λo ho k hk=>(hd o ho k hk).2) hpn (Zbj hC hcf (λo ho k hk=>(hd o ho k hk).1) h (λo ho=>ho) hr hK2.norm))
   ·rename_i o x hmu;refine wp_region_list (Z0k (λo ho k hk=>(hd o ho k hk).2) hpn (must_ok (Q:=Pn ks pv Q) hC hcf (λo ho k hk=>(hd o ho k hk).1) hmu h hr hK2.norm (hK2.exit 999) λp hp a w hq hpp=>?_));have:=hq λ_=>hpp λe=>by cases e
    unfold Qx xo at this;rw[hp]at this;exact this
  ·rename_i hds;have hd:=ZRl hds;split at h
   ·rename_i hm hb;split at h
    ·exact mid_ok hC hcf hm (λo ho k hk=>(hd o ho k hk).1) (λo ho k hk=>(hd o ho k hk).2) hpn h hr hK2.norm
    split at h
    ·exact draw_ok hC hm hb (λo ho k hk=>(hd o ho k hk).1) (λo ho k hk=>(hd o ho k hk).2) hpn h hr hK2.norm
    ·rename_i o ho;exact Zry hC hcf ho hm hb (λo ho k hk=>(hd o ho k hk).1) (λo ho k hk=>(hd o ho k hk).2) hpn h hr hK2.norm
   ·cases h
  ·cases h
 | seq x y ix iy =>
  intro α ann f l n K r ks pv w0 v0 Q a w h hr hpn hK;refine ZMj h hr hpn hK ?_;clear h hr hpn hK;intro β a' f l n K' r' ks pv w0 v0 Q h hr hpn hK;refine (ix h hr hpn ⟨λf' l' n' a' w' hp hn' ho' hr' hpp=>iy hp hr' (hpp λe=>by cases e) (hK.step hn' ho'),λi f' l' n' a' w' hp hn' ho' hr' hpp=>ZXm (hK.exit i f' l' n' a' w' hp hn' ho' hr' hpp),λc l' n' a' w' hp hn' ho' hr' hpp=>hK.ret c l' n' a' w' hp hn' ho' hr' hpp⟩)
 | cond c x y ix iy =>
  intro α ann f l n K r ks pv w0 v0 Q a w h hr hpn hK;refine ZMj h hr hpn hK ?_;clear h hr hpn hK;intro β a' f l n K' r' ks pv w0 v0 Q h hr hpn hK
  cases c with
  | tmp t =>
   simp only at h;split at h
   ·rename_i k s q he;have hk:k=t:=(Zk he).2;subst hk;obtain⟨γ,v,ℓ,hr⟩:=hr;have hev:a.eval (.tmp k) = .bool q:=Z7e (hr.fr k _ he);have hdup:=RelX.dup hr he;have hold:=Old.dup (m:=n) (l:=l) he
    cases q with
    | true=>exact wp_cond_true hev (ix h ⟨γ,v,ℓ,hdup⟩ hpn (hK.step (Nat.le_refl n) hold)).wp
    | false=>exact wp_cond_false hev (iy h ⟨γ,v,ℓ,hdup⟩ hpn (hK.step (Nat.le_refl n) hold)).wp
   ·cases h
  | const v =>
   cases v with
   | bool b=>cases b with
    | true=>exact wp_cond_true rfl (ix h hr hpn hK).wp
    | false=>exact wp_cond_false rfl (iy h hr hpn hK).wp
   | _=>cases h
  | _=>cases h
 | block id x ix =>
  intro α ann f l n K r ks pv w0 v0 Q a w h hr hpn hK;refine ZMj h hr hpn hK ?_;clear h hr hpn hK;intro β a' f l n K' r' ks pv w0 v0 Q h hr hpn hK
  dsimp only at h
  split at h
  ·cases h
  rename_i hid;refine wp_block (CW.wp (ix h hr hpn ⟨λf' l' n' a' w' hp hn' ho' hr' hpp=>hK.norm f' l' n' a' w' hp hn' ho' hr' hpp,λi f' l' n' a' w' hp hn' ho' hr' hpp=>ZRu hid ⟨λe=>?_,λe=>?_⟩,λc l' n' a' w' hp hn' ho' hr' hpp=>hK.ret c l' n' a' w' hp hn' ho' hr' hpp⟩))
  ·simp only[e]at hp;exact (hK.norm f' l' n' a' w' hp hn' ho' hr').mk (hpp λe=>by cases e)
  ·simp only[e]at hp;exact (hK.exit i f' l' n' a' w' hp hn' ho' hr').mk (hpp λe=>by cases e)
 | loop x ix =>
  intro α ann f l n K r ks pv w0 v0 Q a w h hr hpn hK;exact Ztz h hr hpn hK λh hr hpn hK=>(ix h hr hpn hK).wp
 | scope x ix =>
  intro α ann f l n K r ks pv w0 v0 Q a w h hr hpn hK;exact wp_scope_straight (CW.wp (ix h hr hpn ⟨λf' l' n' a' w' hp hn' ho' hr' hpp=>hK.norm f' l' n' a' w' hp hn' ho' hr' hpp,λi f' l' n' a' w' hp hn' ho' hr' hpp=>Qx_goto (hK.exit i f' l' n' a' w' hp hn' ho' hr' hpp),λc l' n' a' w' hp hn' ho' hr' hpp=>hK.ret c l' n' a' w' hp hn' ho' hr' hpp⟩))
 | exit i =>
  intro α ann f l n K r ks pv w0 v0 Q a w h hr hpn hK;simp only[Zyb]at h;split at h
  ·cases h
  ·rename_i hid;have:=(hK.exit i f l n a w h (Nat.le_refl n) Old.refl hr).mk hpn;refine wp_exit ?_;unfold Qx at this;rcases Zpk C.ex.pan i with ⟨p,e1,e2,_⟩ | e
   ·unfold Zti at hid;rw[e1,e2]at hid;cases hid
   ·rw[e]at this;exact this
 | ret =>
  intro α ann f l n K r ks pv w0 v0 Q a w h hr hpn hK;simp only[Zyb]at h;split at h
  ·rename_i c hc;obtain⟨γ,v,ℓ,hr⟩:=hr;obtain⟨vals,k1,k2,k3⟩:=ZYn hr hc;exact wp_ret ((hK.ret c l n a w h (Nat.le_refl n) (λu e he _=>he) ⟨γ,v,ℓ,vals,⟨hr.st,λt e he=>(by cases he),hr.lr,hr.nd,λt e he=>(by cases he),hr.ul,hr.gh⟩,k1,k2,k3⟩).mk hpn)
  ·cases h
 | _=>intro α ann f l n K r ks pv w0 v0 Q a w h hr hpn hK;cases h
theorem Znn {C:Cf} (hC:CfOK C) {cf:CallF} (hcf:Zgd C cf) {rs:List ResultVar} {b:Nat} (c:Code) {α:Type} {ann:Ann} {f:Fr} {l:Lo} {n:Nat} {K:Kt α} {r:α} {Q:Exit→Act→World→Prop} {a:Act} {w:World}
  (h:Zyb C cf rs b N c [] α ann f l n K=some r) (hr:Rel N G w0 v0 (· < n) f l a w) (hK:KOK C.P rs N G w0 v0 n f l K r (Qx C.ex.pan Q)):c.wp C.P Q a w :=
 (Zyy hC hcf c h hr (pv:=λ_=>undef) Pin.nil (kok_pn hK)).wp
end
end Go.Eng
namespace Go.Eng
open Go.RowKit
theorem St.afterB {K:Nat} {w0:Base} {v0:Zb} {σ:List (Nat×Value)} {ℓ es es':List Loc} {v v':Zb} {a:Act} {w w':World} (h:St K w0 v0 σ (es++ℓ) v a w) (x:ExtB ⟨w,es.filterMap Loc.blk⟩ w') (s:VStepB ⟨w,es.filterMap Loc.blk⟩ v w' v')
  (hh:∀ e ∈ es',e.holds w'∧∀ k,e.blk=some k→(w.heap.size≤k∨k ∈ es.filterMap Loc.blk)∧v' k=none) (hnd:(es'.filterMap Loc.blk).Nodup):St K w0 v0 σ (es'++ℓ) v' a w':=by
 have lentIn:∀ k,k ∈ es.filterMap Loc.blk→(w0.wd.heap.size≤k∨k ∈ w0.lent):=λk hk=>by
  obtain⟨e,he,hb⟩:=List.mem_filterMap.1 hk;exact ((h.loc e (List.mem_append_left _ he)).2 k hb).1
 have nl:∀ k,k<w0.wd.heap.size→k ∉ w0.lent→k ∉ es.filterMap Loc.blk:=λk hk hl hm=>by
  rcases lentIn k hm with h' | h'
  ·omega
  ·exact hl h'
 have nd:=h.nd;rw[List.filterMap_append]at nd;have dis:=(List.nodup_append.1 nd).2.2;have oth:∀ y ∈ ℓ,∀ b',y.blk=some b'→b'<w.heap.size∧b' ∉ es.filterMap Loc.blk:=λy hy b' hb=>by
  obtain⟨_,hg2⟩:=Loc.blk_get (h.loc y (List.mem_append_right _ hy)).1 hb;refine⟨Z5b hg2,λhm=>?_⟩;exact dis b' hm b' (List.mem_filterMap.2 ⟨y,hy,hb⟩) rfl
 refine⟨h.size,h.dfr,h.fr,⟨x.os.trans h.ext.os,x.tape.trans h.ext.tape,x.output.trans h.ext.output,Nat.le_trans h.ext.size x.size,λk hk hl=>?_⟩,⟨Zb.le_trans h.vst.le s.le,s.vin,λk hk hl=>?_⟩,λy hy=>?_,?_⟩
 ·rw[x.block k (Nat.lt_of_lt_of_le hk h.ext.size) (nl k hk hl)];exact h.ext.block k hk hl
 ·rw[s.old k (Nat.lt_of_lt_of_le hk h.ext.size) (nl k hk hl)];exact h.vst.old k hk hl
 ·rcases List.mem_append.1 hy with hy | hy
  ·obtain⟨h1,h2⟩:=hh y hy;refine⟨h1,λb hb=>⟨?_,(h2 b hb).2⟩⟩;rcases (h2 b hb).1 with h3 | h3
   ·exact .inl (Nat.le_trans h.ext.size h3)
   ·exact lentIn b h3
  ·obtain⟨h1,h2⟩:=h.loc y (List.mem_append_right _ hy);have same:∀ b',y.blk=some b'→w'.heap[b']? = w.heap[b']?:=λb' hb2=>by
    obtain⟨o1,o3⟩:=oth y hy b' hb2;exact x.block b' o1 o3
   refine⟨?_,λb' hb2=>⟨(h2 b' hb2).1,?_⟩⟩
   ·cases y with
    | box b' T' cs=>show _=_;rw[same b' rfl];exact h1
    | own b' T' sz n cap cs =>
     cases b' with
     | none=>exact h1
     | some b' =>
      obtain⟨q1,c,q2,q3⟩:=h1;exact⟨q1,c,by rw[same b' rfl];exact q2,q3⟩
    | mp b' l=>obtain⟨es3,c',k1,k2⟩:=h1;exact⟨es3,c',by rw[same b' rfl];exact k1,k2⟩
    | it b' s p=>show _=_;rw[same b' rfl];exact h1
   ·obtain⟨o1,o3⟩:=oth y hy b' hb2;rw[s.old b' o1 o3];exact (h2 b' hb2).2
 ·rw[List.filterMap_append];refine List.nodup_append.2 ⟨hnd,(List.nodup_append.1 nd).2.1,λk hk k2 hk2 e=>?_⟩;subst e;obtain⟨e',he',hb'⟩:=List.mem_filterMap.1 hk;obtain⟨y,hy,hyb⟩:=List.mem_filterMap.1 hk2;obtain⟨o1,o3⟩:=oth y hy k hyb;rcases ((hh e' he').2 k hb').1 with h3 | h3
  ·omega
  ·exact o3 h3
theorem Zwl {n:Nat}:∀ {l:Lo},ZGe n l=true→∀ e ∈ l,∀ ty t xs c,e.x ≠ .lst ty t xs c
 | [],_,_,h,_,_,_,_=>by cases h
 | e0 :: r,h,e,he,ty,t,xs,c=>by
  unfold ZGe at h
  intro hx
  rcases List.mem_cons.1 he with rfl | he
  ·rw[hx]at h;cases h
  ·refine Zwl (n:=n) (l:=r) ?_ e he ty t xs c hx
   split at h
   ·split at h
    ·exact h
    ·cases h
   ·cases h
   ·exact h
theorem Zgj {n:Nat}:∀ {l:Lo},ZGe n l=true→∀ e ∈ l,∀ ty c,e.x = .box ty c→e.st<n
 | [],_,e,he,_,_,_=>by cases he
 | p :: r,h,e,he,ty,c,hx=>by
  unfold ZGe at h
  rcases List.mem_cons.1 he with rfl | he
  ·split at h
   ·split at h
    ·rename_i hb
     exact of_decide_eq_true (by simpa [Nat.blt_eq] using hb)
    ·cases h
   ·cases h
   ·rename_i hne _
    exact absurd hx (hne ty c)
  ·split at h
   ·split at h
    ·exact Zgj h e he ty c hx
    ·cases h
   ·cases h
   ·exact Zgj h e he ty c hx
theorem ZQu {P:Program} {g:FuncId} {cb:ConB} (hB:Z9h P g cb) {α:Type} {ags:V} {l:Lo} {n:Nat} {K:V→Lo→Nat→Option α} {r:α} (h:callB cb ags l n K=some r) {N:Nat} {G:V→Value→Prop} {w0:Base} {v0:Zb} {a:Act} {w:World} {γ:Nat→Gh} {v:Zb} {ℓ:List Loc} {vals:List Value}
  (hr:RelX N G w0 v0 (· < n) (· < n) [] l a w γ v ℓ) (has:RR v γ l true ags vals) (hk:ags.ok (· < n)):ZF P g∧Calls P g vals.toArray w λe w'=>∃ y c l' n' γ' v' ℓ',e = .returned y∧K c l' n'=some r∧n≤n'∧(∀ f,Old n f l f l')∧RelX N G w0 v0 (· < n') (· < n') [] l' a w' γ' v' ℓ'∧RV v' γ' l' (ZLc c) y∧(ZLc c).ok (· < n'):=by
 unfold callB at h;split at h
 ·rename_i u rest;obtain⟨cs,xs,rfl,hp,hrest⟩:=has;obtain⟨y,rfl,_,hy⟩:=hp;have hu:u<n:=hk.1;have h1:=ZQd (Nat.le_refl n) Old.refl hr.nd (Z6c h);have hr1:RelX N G w0 v0 (· < n) (· < n+1) [] l a w γ v ℓ:=hr.mono (λ_ h=>h) λk h=>(show k<n+1 by have:k<n:=h;omega);obtain⟨x,l1,γ1,v1,ℓ1,h2,r1,le1,q1⟩:=Zae (U:=(· < n)) (X:=(· < n+1)) (Nat.lt_irrefl n) (Nat.lt_succ_self n) h1 hr1 hk.2;obtain⟨z,l2,γ2,v2,ℓ2,es,e0,h3,r2,hst,le2,hcrl,he0,hnone,hhead⟩:=Zxk (U:=(· < n)) (X:=(· < n+1)) (Nat.lt_irrefl n) (Nat.lt_succ_self n) (ex:=[]) hu h2 r1 r1.st;have hst:St N w0 v0 [] (es++ℓ2) v2 a w:=hst;obtain⟨res,hF,h4,hold⟩:=h3;have le:=le1.trans le2;obtain⟨b,c1,e1,hgb,hcr,hpl,hes⟩:=hcrl;obtain⟨xh,hxh⟩:=hhead;obtain⟨ey,hey,hce⟩:=le1.l u e0 hu he0;obtain⟨b',hb1,hb2⟩:∃ b',γ u = .box b'∧y = .pointer (some ⟨b',0,none⟩):=by
   have hy:=hy ey hey;obtain⟨kk,st,L⟩:=ey
   cases L with
   | box ty c=>exact hy
   | lst _ _ _ _=>rw[hxh]at hce;exact hce.elim
   | it _ _=>rw[hxh]at hce;exact hce.elim
   | own _ _ _ _=>rw[hxh]at hce;exact hce.elim
   | _=>exact hy.elim
  have hg1:γ1 u=γ u:=by
   rw[hxh]at hce;obtain⟨kk,st,L⟩:=ey
   cases L with
   | box ty c=>exact hce
   | _=>exact hce.elim
  have hbb:b'=b:=by rw[hgb,hb1]at hg1;cases hg1;rfl
  subst hbb;subst hb2;have harg:=Zgk le2.v (q1 _ hrest);have hloc:∀ e ∈ es,e.holds w∧∀ k,e.blk=some k→v2 k=none:=λe he=>by
   obtain⟨t1,t2⟩:=hst.loc e (List.mem_append_left _ he);exact⟨t1,λk hk=>(t2 k hk).2⟩
  have hndes:(es.filterMap Loc.blk).Nodup:=by
   have:=hst.nd;rw[List.filterMap_append]at this;exact (List.nodup_append.1 this).1
  obtain⟨hen,hret⟩:=hB w v2 b' es xs z x res hst.vin ⟨b',c1,e1,rfl,hcr,hpl,hes⟩ hloc hndes harg hF;refine⟨hen,Calls.mono hret λe w' ⟨y,v',e2,hext,hvs,hres,es',hcrl',hes',hnd'⟩=>?_⟩;have hstN:St N w0 v0 [] (es'++ℓ2) v' a w':=hst.afterB hext hvs hes' hnd';split at h4
  ·rename_i hbo;have hn1:∀ k,k<n→k<n+1:=λk h=>by omega
   obtain⟨k1,k2,k3,γ0,k4,k5⟩:=Zkj (hh:=0) hcrl' (Nat.lt_succ_of_lt hu) (Nat.zero_le _) (l2:=(Z1 0 (.box cb.ty cb.c) res.1 u (n+1)).1) (n2:=(Z1 0 (.box cb.ty cb.c) res.1 u (n+1)).2) rfl;have h4:K (ZCc cb.res res.2) ((Z1 0 (.box cb.ty cb.c) res.1 u (n+1)).1++l2) (Z1 0 (.box cb.ty cb.c) res.1 u (n+1)).2=some r:=h4;generalize (Z1 0 (.box cb.ty cb.c) res.1 u (n+1)).1=lI at k2 k3 k5 h4;generalize (Z1 0 (.box cb.ty cb.c) res.1 u (n+1)).2=m at k1 k2 h4;have hdis:∀ e ∈ l2,e.k ∉ lI.map En.k:=λe he hm=>by
    obtain⟨e',he',hkk⟩:=List.mem_map.1 hm;have h1:e.k<n+1:=(r2.ul e he).1;rcases (k2 e' he').1 with ⟨q,_⟩ | q
    ·have:=Zof hnone;exact this (List.mem_map.2 ⟨e,he,by rw[← hkk,q]⟩)
    ·omega
   have hnd:((lI++l2).map En.k).Nodup:=Zui k3 r2.nd hdis
   let γN:Nat→Gh:=λk=>if k ∈ lI.map En.k then γ0 k else γ2 k
   have hγI:∀ e ∈ lI,γN e.k=γ0 e.k∧lkE (lI++l2) e.k=some e:=λe he=>⟨iP (List.mem_map.2 ⟨e,he,rfl⟩),ZTb hnd (List.mem_append_left _ he)⟩;have hγ2:∀ e ∈ l2,γN e.k=γ2 e.k:=λe he=>iN (hdis e he);obtain⟨EI,hEI,hpI⟩:=k5 γN (lI++l2) hγI;obtain⟨E2,hE2,hp2⟩:=r2.lr;have leN:Le (· < n) v γ l v' γN (lI++l2):=⟨Zb.le_trans le.v hvs.le,λq e' hq he'=>by
    obtain⟨hmem,hkk⟩:=Zk he';rcases List.mem_append.1 hmem with hm | hm
    ·rcases (k2 e' hm).1 with ⟨q1,xh2,q2⟩ | q1
     ·have hqu:q=u:=by rw[← hkk,q1]
      subst hqu;refine⟨ey,hey,?_⟩;obtain⟨ky,sy,Ly⟩:=ey;obtain⟨k',s',L'⟩:=e';have q2:L' = .box cb.ty xh2:=q2;subst q2;have hyy:=hy _ hey
      cases Ly with
      | box ty c =>
       show γN q=γ q;have:=(hγI _ hm).1;have hkk:k'=q:=hkk;subst hkk;rw[this,hb1];exact k4
      | lst _ _ _ _=>rw[hxh]at hce;exact hce.elim
      | it _ _=>rw[hxh]at hce;exact hce.elim
      | own _ _ _ _=>rw[hxh]at hce;exact hce.elim
      | _=>exact hyy.elim
     ·have hq:q<n:=hq;omega
    ·have hl2:lkE l2 q=some e':=by rw[← hkk];exact ZTb r2.nd hm
     obtain⟨e,q3,q4⟩:=le.l q e' hq hl2;refine⟨e,q3,ZGk (λk hk=>hk) ?_ q4⟩;rw[← hkk];exact hγ2 e' hm⟩
   have hS2:F2 (Zsa v' γN (lI++l2)) l2 E2:=hE2.impm λe he es2 hes2 hR=>by
    have hin:∀ x ∈ es2,x ∈ ℓ2:=λx hx=>hp2.mem_iff.2 (List.mem_flatten.2 ⟨es2,hes2,hx⟩);have hg:=hγ2 e he;obtain⟨kk,st,L⟩:=e
    cases L with
    | box ty c =>
     obtain⟨bb,cs2,g1,g2,g3,rfl⟩:=hR;have hst':st<n:=Zgj hbo _ he ty c rfl;have hlk:=ZTb r2.nd he;have hlk0:=hold.2 kk _ hlk hst';obtain⟨jj,es0,t1,t2⟩:=hr.loc hlk0;obtain⟨b0,cs0,d1,d2,d3,rfl⟩:=t1;have g1:γ2 kk = .box bb:=g1;have d1:γ kk = .box b0:=d1;have hkn:kk<n:=(hr.ul _ (Zk hlk0).1).1;obtain⟨eE,q3,q4⟩:=le.l kk _ hkn hlk;rw[hlk0]at q3;cases q3;have q4:γ2 kk=γ kk:=q4;have hbb:bb=b0:=by rw[g1,d1]at q4;cases q4;rfl
     subst hbb;obtain⟨i,hi⟩:=t2 _ (List.mem_singleton.2 rfl);have m1:=(hr.st.loc _ (mG hi)).1;have m2:=(hst.loc _ (List.mem_append_right _ (hin _ (List.mem_singleton.2 rfl)))).1;have m1:w.heap[bb]? = some (.cells cs0.toArray ty (0,0)):=m1;have m2:w.heap[bb]? = some (.cells cs2.toArray ty (0,0)):=m2;rw[m1]at m2;have hcs:cs0=cs2:=by
      have:=Option.some.inj m2
      injection this with h1 _ _
      have:=congrArg Array.toList h1
      simpa using this
     subst hcs;exact⟨bb,cs0,by rw[show γN kk=γ2 kk from hg];exact g1,ZAa leN (hr.ul _ (Zk hlk0).1).2.2 d2,d3,rfl⟩
    | own ty t xs fz =>
     cases fz with
     | false=>obtain⟨ob,cap,d,g1,g2,g3⟩:=hR;exact⟨ob,cap,d,by rw[show γN kk=γ2 kk from hg];exact g1,ZR hvs.le g2,g3⟩
     | true=>obtain⟨ob,cap,g1,g2,g3⟩:=hR;exact⟨ob,cap,by rw[show γN kk=γ2 kk from hg];exact g1,Rep.mono _ hvs.le g2,g3⟩
    | mat ty ty2 t mm hv=>obtain⟨ob,cap,rows,es3,g1,g2,g3⟩:=hR;exact⟨ob,cap,rows,es3,by rw[show γN kk=γ2 kk from hg];exact g1,Zqc hvs.le g2,g3⟩
    | mid ty ty2 t mm hv s=>obtain⟨ob,cap,rows,es3,hs,es4,g1,g2,g3⟩:=hR;exact⟨ob,cap,rows,es3,hs,es4,by rw[show γN kk=γ2 kk from hg];exact g1,Zqc hvs.le g2,g3⟩
    | mp mm=>show ZZe (γN kk) mm es2;rw[show γN kk=γ2 kk from hg];exact hR
    | lst ty t xs c=>exact (Zwl hbo _ he _ _ _ _ rfl).elim
    | it s p=>obtain⟨b2,g1,g2⟩:=hR;exact⟨b2,by rw[show γN kk=γ2 kk from hg];exact g1,g2⟩
   obtain⟨t1,t2⟩:=Zij (γ:=γN) (l:=lI++l2) (U:=(· < m)) hres;have up:∀ k,k<n→k<m:=λk h=>by omega
   have up1:∀ k,k<n+1→k<m:=λk h=>by omega
   refine⟨y,_,_,_,γN,v',_,e2,h4,by omega,λf=>⟨λ_ _ h _=>h,λq e' he' hsq=>?_⟩,⟨hstN.perm (List.Perm.append hpI hp2),λt e he=>(by cases he),⟨EI++E2,hEI.append hS2,by rw[List.flatten_append]⟩,hnd,λt e he=>(by cases he),λe he=>?_,λx y hg=>⟨ZVa leN (hr.gh x y hg).2 (hr.gh x y hg).1,V.ok.mono up (hr.gh x y hg).2⟩⟩,t1,t2⟩
   ·obtain⟨hmem,hkk⟩:=Zk he';rcases List.mem_append.1 hmem with hm | hm
    ·have:=(k2 e' hm).2.1;omega
    ·have hl2:lkE l2 q=some e':=by rw[← hkk];exact ZTb r2.nd hm
     exact hold.2 q e' hl2 hsq
   ·rcases List.mem_append.1 he with he | he
    ·obtain⟨p1,p2,p3,p4⟩:=k2 e he;refine⟨?_,p3,p4⟩;rcases p1 with ⟨p1,_⟩ | p1
     ·show e.k<m;omega
     ·exact p1.2
    ·obtain⟨p1,p2,p3⟩:=r2.ul e he;exact⟨up1 _ p1,up1 _ p2,LV.ok.mono up up1 p3⟩
  ·cases h4
 ·cases h
theorem Z3t {v:Zb} {γ:Nat→Gh} {l:Lo} {U:Nat→Prop}:∀ {ags rest x:V} {vals:List Value},Zcj ags=some (rest,x)→RR v γ l true ags vals→ags.ok U→rest.ok U∧x.ok U∧∃ vs c,vals=vs++[x.val c]∧RR v γ l true rest vs∧RR v γ l false x c:=by
 intro ags
 induction ags with
 | cons a b ia ib =>
  intro rest x vals h hr hk;obtain⟨c,xs,rfl,h1,h2⟩:=hr;unfold Zcj at h;split at h
  ·rename_i heq
   cases heq
   cases h
   have h2:xs=[]:=h2;subst h2;exact⟨trivial,hk.1,[],c,rfl,rfl,h1⟩
  ·rename_i heq
   cases heq
   split at h
   ·rename_i r' y hl
    cases h
    obtain⟨k1,k2,vs,c',rfl,k3,k4⟩:=ib hl h2 hk.2;exact⟨⟨hk.1,k1⟩,k2,_ :: vs,c',rfl,⟨c,vs,rfl,h1,k3⟩,k4⟩
   ·cases h
  ·cases h
 | _=>intro rest x vals h;cases h
theorem Ztu {P:Program} {g:FuncId} {cb:ConS} (hB:ZOi P g cb) {α:Type} {ags:V} {l:Lo} {n:Nat} {K:V→Lo→Nat→Option α} {r:α} (h:callS cb ags l n K=some r) {N:Nat} {G:V→Value→Prop} {w0:Base} {v0:Zb} {a:Act} {w:World} {γ:Nat→Gh} {v:Zb} {ℓ:List Loc} {vals:List Value}
  (hr:RelX N G w0 v0 (· < n) (· < n) [] l a w γ v ℓ) (has:RR v γ l true ags vals) (hk:ags.ok (· < n)):ZF P g∧Calls P g vals.toArray w λe w'=>∃ y c l' n' γ' v' ℓ',e = .returned y∧K c l' n'=some r∧n≤n'∧(∀ f,Old n f l f l')∧RelX N G w0 v0 (· < n') (· < n') [] l' a w' γ' v' ℓ'∧RV v' γ' l' (ZLc c) y∧(ZLc c).ok (· < n'):=by
 unfold callS at h;split at h
 ·rename_i rest u hl;obtain⟨hkr,hu,xs,cc,rfl,hrest,hp⟩:=Z3t hl has hk;obtain⟨y,rfl,_,hy⟩:=hp;have hu:u<n:=hu;have h1:=ZQd (Nat.le_refl n) Old.refl hr.nd (Z6c h);have hr1:RelX N G w0 v0 (· < n) (· < n+1) [] l a w γ v ℓ:=hr.mono (λ_ h=>h) λk h=>(show k<n+1 by have:k<n:=h;omega);obtain⟨x,l1,γ1,v1,ℓ1,h2,r1,le1,q1⟩:=Zae (U:=(· < n)) (X:=(· < n+1)) (Nat.lt_irrefl n) (Nat.lt_succ_self n) h1 hr1 hkr;obtain⟨z,l2,γ2,v2,ℓ2,es,e0,h3,r2,hst,le2,hcrl,he0,hnone,hhead⟩:=Zxk (U:=(· < n)) (X:=(· < n+1)) (Nat.lt_irrefl n) (Nat.lt_succ_self n) (ex:=[]) hu h2 r1 r1.st;have hst:St N w0 v0 [] (es++ℓ2) v2 a w:=hst;obtain⟨res,hF,h4,hold⟩:=h3;have le:=le1.trans le2;obtain⟨ob,cap,d,hgb,hrel,hes⟩:=hcrl;subst hes;have hh0:e0.x = .own cb.ty cb.t z false:=hhead;obtain⟨ey,hey,hce⟩:=le1.l u e0 hu he0;obtain⟨ob',cap',hg1,hy1⟩:∃ ob' cap',γ1 u = .own ob' cap'∧y = .slice (mkA ob') (List.length (show List cb.t.den from z)) cap':=by
   have:=ZVs (hy ey hey) hce;rw[hh0]at this;exact this
  rw[hgb]at hg1;cases hg1;subst hy1;have harg:=Zgk le2.v (q1 _ hrest);have hloc0:=hst.loc (.own ob cb.ty cb.t.n (List.length (show List cb.t.den from z)) cap d) (List.mem_append_left _ (List.mem_singleton.2 rfl));obtain⟨hen,hret⟩:=hB w v2 ob cap d xs z x res hst.vin hloc0.1 (λb hb=>(hloc0.2 b hb).2) hrel harg hF;refine⟨hen,Calls.mono hret λe w' ⟨y,v',e2,hext,hvs,hres,hlen,d',hrel',hh',hn'⟩=>?_⟩;have hes':∀ e ∈ [Loc.own ob cb.ty cb.t.n (List.length (show List cb.t.den from z)) cap d'],e.holds w'∧∀ k,e.blk=some k→(w.heap.size≤k∨k ∈ [Loc.own ob cb.ty cb.t.n (List.length (show List cb.t.den from z)) cap d].filterMap Loc.blk)∧v' k=none:=λe he=>by
   rw[List.mem_singleton.1 he];refine⟨hh',λk hk=>⟨.inr ?_,hn' k hk⟩⟩;exact List.mem_filterMap.2 ⟨_,List.mem_singleton.2 rfl,hk⟩
  have hnd':([Loc.own ob cb.ty cb.t.n (List.length (show List cb.t.den from z)) cap d'].filterMap Loc.blk).Nodup:=by
   cases ob with
   | none=>exact List.nodup_nil
   | some b=>exact List.nodup_cons.2 ⟨by simp,List.nodup_nil⟩
  have hstN:St N w0 v0 [] ([Loc.own ob cb.ty cb.t.n (List.length (show List cb.t.den from z)) cap d']++ℓ2) v' a w':=hst.afterB hext hvs hes' hnd';have hcrl':CRL v' (.own cb.ty cb.t) res.1 (.own ob cap) [Loc.own ob cb.ty cb.t.n (List.length (show List cb.t.den from z)) cap d']:=⟨ob,cap,d',rfl,hrel',by rw[hlen]⟩;split at h4
  ·rename_i hbo;have hn1:∀ k,k<n→k<n+1:=λk h=>by omega
   obtain⟨k1,k2,k3,γ0,k4,k5⟩:=Zkj (hh:=0) hcrl' (Nat.lt_succ_of_lt hu) (Nat.zero_le _) (l2:=(Z1 0 (.own cb.ty cb.t) res.1 u (n+1)).1) (n2:=(Z1 0 (.own cb.ty cb.t) res.1 u (n+1)).2) rfl;have h4:K (ZCc cb.res res.2) ((Z1 0 (.own cb.ty cb.t) res.1 u (n+1)).1++l2) (Z1 0 (.own cb.ty cb.t) res.1 u (n+1)).2=some r:=h4;generalize (Z1 0 (.own cb.ty cb.t) res.1 u (n+1)).1=lI at k2 k3 k5 h4;generalize (Z1 0 (.own cb.ty cb.t) res.1 u (n+1)).2=m at k1 k2 h4;have hdis:∀ e ∈ l2,e.k ∉ lI.map En.k:=λe he hm=>by
    obtain⟨e',he',hkk⟩:=List.mem_map.1 hm;have h1:e.k<n+1:=(r2.ul e he).1;rcases (k2 e' he').1 with ⟨q,_⟩ | q
    ·have:=Zof hnone;exact this (List.mem_map.2 ⟨e,he,by rw[← hkk,q]⟩)
    ·omega
   have hnd:((lI++l2).map En.k).Nodup:=Zui k3 r2.nd hdis
   let γN:Nat→Gh:=λk=>if k ∈ lI.map En.k then γ0 k else γ2 k
   have hγI:∀ e ∈ lI,γN e.k=γ0 e.k∧lkE (lI++l2) e.k=some e:=λe he=>⟨iP (List.mem_map.2 ⟨e,he,rfl⟩),ZTb hnd (List.mem_append_left _ he)⟩;have hγ2:∀ e ∈ l2,γN e.k=γ2 e.k:=λe he=>iN (hdis e he);obtain⟨EI,hEI,hpI⟩:=k5 γN (lI++l2) hγI;obtain⟨E2,hE2,hp2⟩:=r2.lr;have leN:Le (· < n) v γ l v' γN (lI++l2):=⟨Zb.le_trans le.v hvs.le,λq e' hq he'=>by
    obtain⟨hmem,hkk⟩:=Zk he';rcases List.mem_append.1 hmem with hm | hm
    ·obtain⟨kq,kst,_,_⟩:=k2 e' hm;rcases kq with ⟨q1,q2⟩ | q1
     ·have hqu:q=u:=by rw[← hkk,q1]
      subst hqu;refine⟨ey,hey,ZSr hce ?_⟩;have q2:e'.x = .own cb.ty cb.t res.1 false:=q2;rw[hh0,q2];refine⟨?_,rfl,hlen,λhU=>?_⟩
      ·have:=(hγI _ hm).1;rw[hkk]at this;rw[this,k4,hgb]
      ·have hU:e'.st<n:=hU;omega
     ·have hq:q<n:=hq;omega
    ·have hl2:lkE l2 q=some e':=by rw[← hkk];exact ZTb r2.nd hm
     obtain⟨e,q3,q4⟩:=le.l q e' hq hl2;refine⟨e,q3,ZGk (λk hk=>hk) ?_ q4⟩;rw[← hkk];exact hγ2 e' hm⟩
   have hS2:F2 (Zsa v' γN (lI++l2)) l2 E2:=hE2.impm λe he es2 hes2 hR=>by
    have hin:∀ x ∈ es2,x ∈ ℓ2:=λx hx=>hp2.mem_iff.2 (List.mem_flatten.2 ⟨es2,hes2,hx⟩);have hg:=hγ2 e he;obtain⟨kk,st,L⟩:=e
    cases L with
    | box ty c =>
     obtain⟨bb,cs2,g1,g2,g3,rfl⟩:=hR;have hst':st<n:=Zgj hbo _ he ty c rfl;have hlk:=ZTb r2.nd he;have hlk0:=hold.2 kk _ hlk hst';obtain⟨jj,es0,t1,t2⟩:=hr.loc hlk0;obtain⟨b0,cs0,d1,d2,d3,rfl⟩:=t1;have g1:γ2 kk = .box bb:=g1;have d1:γ kk = .box b0:=d1;have hkn:kk<n:=(hr.ul _ (Zk hlk0).1).1;obtain⟨eE,q3,q4⟩:=le.l kk _ hkn hlk;rw[hlk0]at q3;cases q3;have q4:γ2 kk=γ kk:=q4;have hbb:bb=b0:=by rw[g1,d1]at q4;cases q4;rfl
     subst hbb;obtain⟨i,hi⟩:=t2 _ (List.mem_singleton.2 rfl);have m1:=(hr.st.loc _ (mG hi)).1;have m2:=(hst.loc _ (List.mem_append_right _ (hin _ (List.mem_singleton.2 rfl)))).1;have m1:w.heap[bb]? = some (.cells cs0.toArray ty (0,0)):=m1;have m2:w.heap[bb]? = some (.cells cs2.toArray ty (0,0)):=m2;rw[m1]at m2;have hcs:cs0=cs2:=by
      have:=Option.some.inj m2
      injection this with h1 _ _
      have:=congrArg Array.toList h1
      simpa using this
     subst hcs;exact⟨bb,cs0,by rw[show γN kk=γ2 kk from hg];exact g1,ZAa leN (hr.ul _ (Zk hlk0).1).2.2 d2,d3,rfl⟩
    | own ty t xs fz =>
     cases fz with
     | false=>obtain⟨ob,cap,d,g1,g2,g3⟩:=hR;exact⟨ob,cap,d,by rw[show γN kk=γ2 kk from hg];exact g1,ZR hvs.le g2,g3⟩
     | true=>obtain⟨ob,cap,g1,g2,g3⟩:=hR;exact⟨ob,cap,by rw[show γN kk=γ2 kk from hg];exact g1,Rep.mono _ hvs.le g2,g3⟩
    | mat ty ty2 t mm hv=>obtain⟨ob,cap,rows,es3,g1,g2,g3⟩:=hR;exact⟨ob,cap,rows,es3,by rw[show γN kk=γ2 kk from hg];exact g1,Zqc hvs.le g2,g3⟩
    | mid ty ty2 t mm hv s=>obtain⟨ob,cap,rows,es3,hs,es4,g1,g2,g3⟩:=hR;exact⟨ob,cap,rows,es3,hs,es4,by rw[show γN kk=γ2 kk from hg];exact g1,Zqc hvs.le g2,g3⟩
    | mp mm=>show ZZe (γN kk) mm es2;rw[show γN kk=γ2 kk from hg];exact hR
    | lst ty t xs c=>exact (Zwl hbo _ he _ _ _ _ rfl).elim
    | it s p=>obtain⟨b2,g1,g2⟩:=hR;exact⟨b2,by rw[show γN kk=γ2 kk from hg];exact g1,g2⟩
   obtain⟨t1,t2⟩:=Zij (γ:=γN) (l:=lI++l2) (U:=(· < m)) hres;have up:∀ k,k<n→k<m:=λk h=>by omega
   have up1:∀ k,k<n+1→k<m:=λk h=>by omega
   refine⟨y,_,_,_,γN,v',_,e2,h4,by omega,λf=>⟨λ_ _ h _=>h,λq e' he' hsq=>?_⟩,⟨hstN.perm (List.Perm.append hpI hp2),λt e he=>(by cases he),⟨EI++E2,hEI.append hS2,by rw[List.flatten_append]⟩,hnd,λt e he=>(by cases he),λe he=>?_,λx y hg=>⟨ZVa leN (hr.gh x y hg).2 (hr.gh x y hg).1,V.ok.mono up (hr.gh x y hg).2⟩⟩,t1,t2⟩
   ·obtain⟨hmem,hkk⟩:=Zk he';rcases List.mem_append.1 hmem with hm | hm
    ·have:=(k2 e' hm).2.1;omega
    ·have hl2:lkE l2 q=some e':=by rw[← hkk];exact ZTb r2.nd hm
     exact hold.2 q e' hl2 hsq
   ·rcases List.mem_append.1 he with he | he
    ·obtain⟨p1,p2,p3,p4⟩:=k2 e he;refine⟨?_,p3,p4⟩;rcases p1 with ⟨p1,_⟩ | p1
     ·show e.k<m;omega
     ·exact p1.2
    ·obtain⟨p1,p2,p3⟩:=r2.ul e he;exact⟨up1 _ p1,up1 _ p2,LV.ok.mono up up1 p3⟩
  ·cases h4
 ·cases h
def Z5e:List Value→Value
 | [x]=>x
 | vs=>.tuple vs.toArray
theorem Zgo {P:Program} {tmps:Array Value} {w:World}:∀ {rs:List ResultVar} {vals:List Value},Ress P tmps w rs vals→(rs.mapM (Z7i tmps)).run P w = .ok vals w
 | [],[],_=>by simp
 | q :: rs,y :: vals,h=>by
  have h1:=Zkk h.1
  have h2:=Zgo (rs:=rs) (vals:=vals) h.2
  simp[List.mapM_cons,h1,h2]
 | [],_ :: _,h=>h.elim
 | _ :: _,[],h=>h.elim
theorem Zpi {P:Program} {fn:Func} {tmps:Array Value} {w:World} {vals:List Value} (h:Ress P tmps w fn.results.toList vals):(results fn tmps).run P w = .ok (Z5e vals) w:=by
 have h1:=Zgo h;rw[Zqm];rw[Array.mapM_eq_mapM_toList]
 match vals with
 | []=>simp[h1,Z5e]
 | [x]=>simp[h1,Z5e]
 | x :: y :: r=>simp[h1,Z5e]
theorem oneV_ok {v:Zb} {γ:Nat→Gh} {l:Lo} {U:Nat→Prop} {c:V} {vals:List Value} (h:RR v γ l true c vals) (hk:c.ok U):RV v γ l (ZLc c) (Z5e vals)∧(ZLc c).ok U:=by
 cases c with
 | nl=>rw[show vals=[] from h];exact⟨⟨[],rfl,rfl⟩,trivial⟩
 | cons a b =>
  obtain⟨cs,xs,rfl,h1,h2⟩:=h
  cases b with
  | nl =>
   rw[show xs=[] from h2];exact⟨ZYb h1 (λc e=>by subst e;exact h1),hk.1⟩
  | cons a2 b2 =>
   obtain⟨cs2,xs2,rfl,h3,h4⟩:=h2;exact⟨⟨_,⟨cs,_,rfl,h1,cs2,xs2,rfl,h3,h4⟩,rfl⟩,hk⟩
  | _=>exact h2.elim
 | _=>exact h.elim
theorem Zvn:∀ {l:List Value} {k t:Nat} {y:Value},l[t]? = some y→look (Z3c k l) (k+t)=some y
 | [],_,_,_,h=>by simp at h
 | x :: l,k,0,y,h=>by
  simp at h;subst h
  exact Z4e rfl
 | x :: l,k,t+1,y,h=>by
  have h1:=Zvn (l:=l) (k:=k+1) (t:=t) (y:=y) (by simpa using h)
  rw[show Z3c k (x :: l)=(k,x) :: Z3c (k+1) l from rfl,ZIg (by omega),show k+(t+1)=k+1+t by omega]
  exact h1
def ZAd (C:Cf) (inl:Inl):Prop:=∀ g p,ZV inl g=some p→C.P.funcs[g]? = some p.1∧ZF C.P g
theorem ZAo {C:Cf} (hC:CfOK C) {inl:Inl} (hinl:ZAd C inl) (d:Nat):Zgd C (ZTg C inl d):=by
 induction d with
 | zero=>intro α g ags l n K r h;cases h
 | succ d ih =>
  intro α g ags l n K r h N G w0 v0 a w γ v ℓ vals hr has hk;simp only[ZTg]at h;split at h
  ·rename_i cb hcb;exact ZQu (hC.b g cb hcb) h hr has hk
  split at h
  ·rename_i cs hcs;exact Ztu (hC.s g cs hcs) h hr has hk
  ·split at h
   ·rename_i fn ann hg;obtain⟨hf,hen⟩:=hinl g _ hg;split at h
    ·rename_i c hc hb;have hlen:=Zkt has;have hb:=lB hb;have hx:=Zgx (N':=fn.ntmps) hr has hk (by rw[hlen];exact hb);refine⟨hen,calls_of_wp hf hc ?_⟩;refine Znn hC ih c h ⟨γ,v,ℓ,hx⟩ ⟨λf' l' n' a' w' hp hn' ho' hr'=>?_,λi f' l' n' a' w' hp hn' ho' hr'=>(by cases hp),λc l' n' a' w' hp hn' ho' hr'=>?_⟩
     ·unfold endN at hp;split at hp
      ·rename_i hres;obtain⟨γ',v',ℓ',hr'⟩:=hr';refine⟨hr'.st.dfr,_,Zpi (vals:=[]) (by rw[hres];exact trivial),_,.nl,l',n',γ',v',ℓ',rfl,hp,by omega,λf=>⟨λ_ _ h _=>h,ho'.l.mono (by omega)⟩,⟨⟨hr.st.size,hr.st.dfr,λt x h=>(by cases h),hr'.st.ext,hr'.st.vst,hr'.st.loc,hr'.st.nd⟩,λt e he=>(by cases he),hr'.lr,hr'.nd,λt e he=>(by cases he),hr'.ul,hr'.gh⟩,?_⟩;exact⟨⟨[],rfl,rfl⟩,trivial⟩
      ·cases hp
     ·obtain⟨γ',v',ℓ',vals',hr',hc',hk',hres⟩:=hr';exact⟨hr'.st.dfr,_,Zpi hres,_,c,l',n',γ',v',ℓ',rfl,hp,by omega,λf=>⟨λ_ _ h _=>h,ho'.mono (by omega)⟩,⟨⟨hr.st.size,hr.st.dfr,λt x h=>(by cases h),hr'.st.ext,hr'.st.vst,hr'.st.loc,hr'.st.nd⟩,λt e he=>(by cases he),hr'.lr,hr'.nd,λt e he=>(by cases he),hr'.ul,hr'.gh⟩,oneV_ok hc' hk'⟩
    ·cases h
   ·cases h
theorem Z4h {v:Zb} {γ:Nat→Gh} {l:Lo} {U:Nat→Prop}:∀ {ts:List T} {vals:List Value} {x:ZC ts},ZJa v ts vals x→RR v γ l true (Zxd ts x) vals∧(Zxd ts x).ok U∧vals.length=ts.length
 | [],_,_,h=>⟨h,trivial,by rw[show _=[] from h];rfl⟩
 | [t],_,x,⟨cs,h1,h2⟩=>⟨⟨cs,[],by rw[h1];exact congrArg (λz=>[z]) (Zjg (t:=t) (x:=x) (cs:=cs)).symm,h2,rfl⟩,⟨trivial,trivial⟩,by rw[h1];rfl⟩
 | t :: u :: r,_,x,⟨cs,vs,h1,h2,h3⟩=>by
  obtain⟨k1,k2,k3⟩:=Z4h (γ:=γ) (l:=l) (U:=U) h3
  exact⟨⟨cs,vs,by rw[h1];exact congrArg (· :: vs) (Zjg (t:=t) (x:=x.1) (cs:=cs)).symm,h2,k1⟩,⟨trivial,k2⟩,by rw[h1];simp[k3]⟩
theorem Zer {v:Zb}:∀ {ts:List T} {vals:List Value} {z:ZC ts},ZJa v ts vals z→Z4c v ts (Z5e vals) z
 | [],_,_,h=>by rw[show _=[] from h];exact⟨[],rfl,rfl⟩
 | [t],_,x,⟨cs,h1,h2⟩=>by rw[h1];exact⟨cs,rfl,h2⟩
 | t :: u :: r,vals,x,h=>by
  obtain⟨cs,vs,h1,h2,h3⟩:=h
  have hl:1≤vs.length:=by
   cases r with
   | nil=>obtain⟨cs2,e,_⟩:=h3;rw[e];simp
   | cons u2 r2=>obtain⟨cs2,vs2,e,_⟩:=h3;rw[e];simp
  have e:Z5e vals = .tuple vals.toArray:=by
   subst h1
   cases vs with
   | nil=>simp at hl
   | cons y ys=>rfl
  rw[e];exact⟨vals,rfl,cs,vs,h1,h2,h3⟩
theorem Zsm {C:Cf} (hC:CfOK C) {inl:Inl} (hinl:ZAd C inl) {f:FuncId} {fn:Func} {ann:Ann} {ats rts:List T} {x:ZC ats} {z:ZC rts} (hf:C.P.funcs[f]? = some fn) (hl:Nat.ble ats.length fn.ntmps=true) (h:Zch C inl fn ann ats rts x=some z)
  {w:World} {v:Zb} {vals:List Value} (hv:VIn v w) (ha:ZJa v ats vals x):Ret C.P f vals.toArray w v λy v'=>Z4c v' rts y z:=by
 unfold Zch at h;split at h
 ·rename_i c hc;obtain⟨h1,h2,h3⟩:=Z4h (γ:=λ_=>.box 0) (l:=[]) (U:=(· < 0)) ha;have hK:vals.length≤fn.ntmps:=by rw[h3];exact lB hl
  refine ZWb hv hf hc rfl hK λa hS=>?_;have hr:RelX fn.ntmps (λ_ _=>False) w v (· < 1) (· < 1) (ZBc 0 0 (Zxd ats x)) [] a w (λ_=>.box 0) v []:=by
   refine⟨⟨hS.size,hS.dfr,λt x h=>(by cases h),hS.ext,hS.vst,hS.loc,hS.nd⟩,λt e he=>?_,⟨[],trivial,List.Perm.refl _⟩,List.nodup_nil,λt e he=>?_,λe he=>(by cases he),λx y h=>h.elim⟩
   ·obtain⟨y,q1,q2,q3,q4,q5⟩:=Zce h1 h2 he;have:=hS.fr t y ?_
    ·rw[this];exact q3
    ·have q2:vals[t-0]? = some y:=q2;have:=Zvn (k:=0) (t:=t) (y:=y) (by simpa using q2)
     rwa [Nat.zero_add]at this
   ·obtain⟨y,q1,q2,q3,q4,q5⟩:=Zce h1 h2 he;exact⟨V.ok.mono (λk h=>absurd h (Nat.not_lt_zero k)) q4,by show e.st<1;omega⟩
  refine Znn hC (ZAo hC hinl 20) c h ⟨_,_,_,hr⟩ ⟨λf' l' n' a' w' hp hn' ho' hr'=>(by cases hp),λi f' l' n' a' w' hp hn' ho' hr'=>(by cases hp),λc l' n' a' w' hp hn' ho' hr'=>?_⟩;obtain⟨γ',v',ℓ',vals',hr',hc',hk',hres⟩:=hr';have hr2:RelX fn.ntmps (λ_ _=>False) w v (· < n') (· < n'+1) [] l' a' w' γ' v' ℓ':=hr'.mono (λ_ h=>h) λk h=>(show k<n'+1 by have:k<n':=h;omega);obtain⟨y,l2,γ2,v2,ℓ2,k1,k2,k3,k4⟩:=Zae (U:=(· < n')) (X:=(· < n'+1)) (Nat.lt_irrefl n') (Nat.lt_succ_self n') (Z6c hp) hr2 hk';have k1:some y=some z:=k1
  cases k1
  exact⟨k2.st.dfr,_,Zpi hres,_,v2,rfl,k2.st.ext.ext,k2.st.vst.ext,Zer (k4 _ hc')⟩
 ·cases h
def CL (P:Program):List (FuncId×Con)→Prop
 | []=>True
 | p :: r=>ZBd P p.1 p.2∧CL P r
def OL (P:Program):List (FuncId×ConO)→Prop
 | []=>True
 | p :: r=>Zkn P p.1 p.2∧OL P r
def IL (P:Program):List (FuncId×ConI)→Prop
 | []=>True
 | p :: r=>ZXj P p.1 p.2∧IL P r
def ML (P:Program):List ((TypeId×String)×FuncId)→Prop
 | []=>True
 | p :: r=>(∀ y w,(method (P.types.size+Made.depth) p.1.1 y p.1.2).run P w = .ok (p.2,y) w)∧ML P r
def NL (P:Program):Inl→Prop
 | []=>True
 | p :: r=>(P.funcs[p.1]? = some p.2.1∧ZF P p.1)∧NL P r
theorem CL_ok {P:Program}:∀ {l:List (FuncId×Con)},CL P l→∀ f c,ZV l f=some c→ZBd P f c
 | [],_,_,_,h=>by cases h
 | p :: r,hl,f,c,h=>by
  simp only[ZV]at h
  split at h
  ·rename_i hb;cases h;rw[← eQ hb];exact hl.1
  ·exact CL_ok hl.2 f c h
theorem OL_ok {P:Program}:∀ {l:List (FuncId×ConO)},OL P l→∀ f c,ZV l f=some c→Zkn P f c
 | [],_,_,_,h=>by cases h
 | p :: r,hl,f,c,h=>by
  simp only[ZV]at h
  split at h
  ·rename_i hb;cases h;rw[← eQ hb];exact hl.1
  ·exact OL_ok hl.2 f c h
theorem IL_ok {P:Program}:∀ {l:List (FuncId×ConI)},IL P l→∀ f c,ZV l f=some c→ZXj P f c
 | [],_,_,_,h=>by cases h
 | p :: r,hl,f,c,h=>by
  simp only[ZV]at h
  split at h
  ·rename_i hb;cases h;rw[← eQ hb];exact hl.1
  ·exact IL_ok hl.2 f c h
theorem ML_ok {P:Program}:∀ {l:List ((TypeId×String)×FuncId)},ML P l→∀ t s f,lkM l t s=some f→∀ y w,(method (P.types.size+Made.depth) t y s).run P w = .ok (f,y) w
 | [],_,_,_,_,h=>by cases h
 | p :: r,hl,t,s,f,h=>by
  simp only[lkM]at h
  split at h
  ·rename_i hb hs
   cases h
   rw[← eQ hb,← eq_of_beq hs];exact hl.1
  ·exact ML_ok hl.2 t s f h
def QL (P:Program):List (FuncId×ConM)→Prop
 | []=>True
 | p :: r=>Zon P p.1 p.2∧QL P r
theorem QL_ok {P:Program}:∀ {l:List (FuncId×ConM)},QL P l→∀ f c,ZV l f=some c→Zon P f c
 | [],_,_,_,h=>by cases h
 | p :: r,hl,f,c,h=>by
  simp only[ZV]at h
  split at h
  ·rename_i hb;cases h;rw[← eQ hb];exact hl.1
  ·exact QL_ok hl.2 f c h
def BL (P:Program):List (FuncId×ConB)→Prop
 | []=>True
 | p :: r=>Z9h P p.1 p.2∧BL P r
theorem BL_ok {P:Program}:∀ {l:List (FuncId×ConB)},BL P l→∀ f c,ZV l f=some c→Z9h P f c
 | [],_,_,_,h=>by cases h
 | p :: r,k,f,c,h=>by
  simp only[ZV]at h
  split at h
  ·rename_i hb
   cases h
   rw[← eQ hb];exact k.1
  ·exact BL_ok k.2 f c h
def DL (P:Program):List (FuncId×ConD)→Prop
 | []=>True
 | p :: r=>ZAi P p.1 p.2∧DL P r
theorem DL_ok {P:Program}:∀ {l:List (FuncId×ConD)},DL P l→∀ f c,ZV l f=some c→ZAi P f c
 | [],_,_,_,h=>by cases h
 | p :: r,k,f,c,h=>by
  simp only[ZV]at h
  split at h
  ·rename_i hb
   cases h
   rw[← eQ hb];exact k.1
  ·exact DL_ok k.2 f c h
def PL (P:Program):List (FuncId×ConP)→Prop
 | []=>True
 | p :: r=>ZOm P p.1 p.2∧PL P r
theorem PL_ok {P:Program}:∀ {l:List (FuncId×ConP)},PL P l→∀ f c,ZV l f=some c→ZOm P f c
 | [],_,_,_,h=>by cases h
 | p :: r,k,f,c,h=>by
  simp only[ZV]at h
  split at h
  ·rename_i hb
   cases h
   rw[← eQ hb];exact k.1
  ·exact PL_ok k.2 f c h
def SL (P:Program):List (FuncId×ConS)→Prop
 | []=>True
 | p :: r=>ZOi P p.1 p.2∧SL P r
theorem SL_ok {P:Program}:∀ {l:List (FuncId×ConS)},SL P l→∀ f c,ZV l f=some c→ZOi P f c
 | [],_,_,_,h=>by cases h
 | p :: r,k,f,c,h=>by
  simp only[ZV]at h
  split at h
  ·rename_i hb
   cases h
   rw[← eQ hb];exact k.1
  ·exact SL_ok k.2 f c h
theorem CfOK.of {C:Cf} (hc:CL C.P C.cons) (ho:OL C.P C.owns) (hi:IL C.P C.ins) (hm:ML C.P C.meths) (hq:QL C.P C.omats:=by exact trivial) (hb:BL C.P C.boxs:=by exact trivial) (hd:DL C.P C.dels:=by exact trivial) (hpo:PL C.P C.pows:=by exact trivial) (hsl:SL C.P C.sls:=by exact trivial) (hpan:ZLf C:=by exact trivial):CfOK C:=⟨SL_ok hsl,CL_ok hc,OL_ok ho,IL_ok hi,ML_ok hm,QL_ok hq,BL_ok hb,DL_ok hd,PL_ok hpo,hpan⟩
theorem ZAd.of {C:Cf}:∀ {l:Inl},NL C.P l→ZAd C l
 | [],_,_,_,h=>by cases h
 | p :: r,hl,g,q,h=>by
  simp only[ZV]at h
  split at h
  ·rename_i hb;cases h;rw[← eQ hb];exact hl.1
  ·exact ZAd.of (l:=r) hl.2 g q h
def endB (ty:TypeId) (c:CT) (rts:List T) (cv:V) (l:Lo) (n:Nat):Option (c.den×ZC rts):=ZIa n (ZOc rts cv λy=>Zjc 0 (.box ty c) 0 λz=>.done (z,y)) [] l λr _ _=>some r
theorem tr:True:=trivial
abbrev Ann.n (a:Ann):Ann:=.two .no a
abbrev Ann.f (a:Ann):Ann:=.two a .no
abbrev Ann.j (s:List Nat) (p:List Pl) (v:List Vr) (a:Ann):Ann:=.cut ⟨⟨[],[],[]⟩,[(.norm,⟨s,p,v⟩)]⟩ a
abbrev Ann.r (s:List Nat) (p:List Pl) (v:List Vr) (a:Ann):Ann:=.cut ⟨⟨[],[],[]⟩,[(.ret,⟨s,p,v⟩)]⟩ a
abbrev Ann.l (s:List Nat) (p:List Pl) (v:List Vr) (k:Nat) (s':List Nat) (p':List Pl) (v':List Vr) (a:Ann):Ann:=.cut ⟨⟨s,p,v⟩,[(.exit k,⟨s',p',v'⟩)]⟩ a
def ConR (P:Program) (f:FuncId) (c:Con):Prop:=∀ (w:World) (v:Zb) (vals:List Value) (x:ZC c.args) (z:ZC c.res),VIn v w→ZJa v c.args vals x→c.F x=some z→ZF P f∧Ret P f vals.toArray w v λy v'=>Z4c v' c.res y z
theorem Zr {P:Program} {f:FuncId} {c:Con} (h:ConR P f c):ZBd P f c:=λw v vals x z hv ha hz=>.inl (h w v vals x z hv ha hz)
theorem Zfa {f:FuncId} {ats rts:List T} {F:ZC ats→Option (ZC rts)} {C:Cf} (ann:Ann) {fn:Func} (hf:C.P.funcs[f]? = some fn) (inl:Inl) (h:∀ x,Zch C inl fn ann ats rts x=F x) (hc:CL C.P C.cons:=by exact tr) (ho:OL C.P C.owns:=by exact tr) (hm:ML C.P C.meths:=by exact tr) (hn:NL C.P inl:=by exact tr)
  (hq:QL C.P C.omats:=by exact tr) (hb:BL C.P C.boxs:=by exact tr) (hd:DL C.P C.dels:=by exact tr) (hpo:PL C.P C.pows:=by exact tr) (hsl:SL C.P C.sls:=by exact tr) (hpan:ZLf C:=by exact tr) (hi:IL C.P C.ins:=by exact tr) (hen:ZF C.P f:=by exact λ_ _=>by kernel_rfl) (hl:Nat.ble ats.length fn.ntmps=true:=by exact rfl):ConR C.P f ⟨ats,rts,F⟩ :=
 λ_ _ _ x _ hv ha hz=>⟨hen,Zsm (CfOK.of hc ho hi hm hq hb hd hpo hsl hpan) (ZAd.of hn) hf hl ((h x).trans hz) hv ha⟩
theorem ZH {f:FuncId} {ats rts:List T} {F:ZC ats→Option (ZC rts)} {C:Cf} (ann:Ann) {fn:Func} (hf:C.P.funcs[f]? = some fn) (inl:Inl) (h:∀ v vals x z,ZJa v ats vals x→F x=some z→Zch C inl fn ann ats rts x=some z) (hc:CL C.P C.cons:=by exact tr) (ho:OL C.P C.owns:=by exact tr) (hm:ML C.P C.meths:=by exact tr) (hn:NL C.P inl:=by exact tr)
  (hq:QL C.P C.omats:=by exact tr) (hb:BL C.P C.boxs:=by exact tr) (hd:DL C.P C.dels:=by exact tr) (hpo:PL C.P C.pows:=by exact tr) (hsl:SL C.P C.sls:=by exact tr) (hpan:ZLf C:=by exact tr) (hi:IL C.P C.ins:=by exact tr) (hen:ZF C.P f:=by exact λ_ _=>by kernel_rfl) (hl:Nat.ble ats.length fn.ntmps=true:=by exact rfl):ConR C.P f ⟨ats,rts,F⟩ :=
 λ_ v vals x z hv ha hz=>⟨hen,Zsm (CfOK.of hc ho hi hm hq hb hd hpo hsl hpan) (ZAd.of hn) hf hl (h v vals x z ha hz) hv ha⟩
theorem ZSi {f:FuncId} {ax rs:List T} {F:ZC ax→Option (ZC rs)} {C:Cf} (ann:Ann) {fn:Func} (hf:C.P.funcs[f]? = some fn) (inl:Inl) (ats rts:List T) (gA:ZC ax→ZC ats) (gR:ZC rs→ZC rts) (h:∀ v vals x z,ZJa v ax vals x→F x=some z→Zch C inl fn ann ats rts (gA x)=some (gR z))
  (hc:CL C.P C.cons:=by exact tr) (ho:OL C.P C.owns:=by exact tr) (hm:ML C.P C.meths:=by exact tr) (hn:NL C.P inl:=by exact tr)
  (hA:∀ v vals x,ZJa v ax vals x→ZJa v ats vals (gA x):=by exact λ_ _ _ h=>h) (hR:∀ v y z,Z4c v rts y (gR z)→Z4c v rs y z:=by exact λ_ _ _ h=>h)
  (hq:QL C.P C.omats:=by exact tr) (hb:BL C.P C.boxs:=by exact tr) (hd:DL C.P C.dels:=by exact tr) (hpo:PL C.P C.pows:=by exact tr) (hsl:SL C.P C.sls:=by exact tr) (hpan:ZLf C:=by exact tr) (hi:IL C.P C.ins:=by exact tr) (hen:ZF C.P f:=by exact λ_ _=>by kernel_rfl) (hl:Nat.ble ats.length fn.ntmps=true:=by exact rfl):ConR C.P f ⟨ax,rs,F⟩ :=
 λ_ v vals x z hv ha hz=>⟨hen,(Zsm (CfOK.of hc ho hi hm hq hb hd hpo hsl hpan) (ZAd.of hn) hf hl (h v vals x z ha hz) hv (hA v vals x ha)).mono λy v' _ hy=>hR v' y z hy⟩
end Go.Eng
namespace Go.Eng
open Go.Proofs Go.RowKit
abbrev lf:List (TypeId×Nat):=[(42,0),(44,2),(46,3),(78,1),(80,4)]
noncomputable abbrev cf0 (c:List (FuncId×Con)) (m:List Nat) (o:List (FuncId×ConO)) (s:List ((TypeId×String)×FuncId)):Cf:=⟨Tryz.prog,lf,c,m,o,[],s,{}⟩
noncomputable abbrev cf2 (l:List (TypeId×Nat)) (c:List (FuncId×Con)):Cf:=⟨Tryz.prog,l,c,[],[],[],[],{}⟩
noncomputable abbrev cf1 (c:List (FuncId×Con)) (m:List Nat) (o:List (FuncId×ConO)) (s:List ((TypeId×String)×FuncId)) (q:List (FuncId×ConM)) (b:List (FuncId×ConB)) (d:List (FuncId×ConD)):Cf:=⟨Tryz.prog,lf,c,m,o,[],s,⟨[],q,b,d,[],none⟩⟩
abbrev KQ (q:FuncId×Con):=ZBd Tryz.prog q.1 q.2
abbrev KR (q:FuncId×Con):=ConR Tryz.prog q.1 q.2
abbrev KB (q:FuncId×ConB):=Z9h Tryz.prog q.1 q.2
set_option maxHeartbeats 4000000
noncomputable def Zxe:FuncId×Con:=(96,⟨[.slice (.int .u64)],[.leaf 0],λp=>ZSa p⟩)
theorem cut_r:KR Zxe:=ZSi (C:=cf2 [] []) (.n (.f (.j [] [] [.s 0 (.dat (.slice (.int .u64)))] (.f (.l [] [] [.s 0 (.dat (.slice (.int .u64)))] 0 [] [] [.s 0 (.dat (.slice (.int .u64)))] (.f (.f (.f (.j [0] [] [.s 14 (.dat .bool)] .no))))))))) Tryz.func96 [] [.slice (.int .u64)] [.slice (.int .u64)] (λx=>(x)) (λz=>(Zc 18446744073709551616 z)) (λv vals x z ha hz=>by obtain⟨c0,e0,p0⟩:=ha;exact .trans (by kernel_rfl) (by cases hz;exact (cut_eq (Zcm p0).1 (Zcm p0).2)))
theorem ZAg:KQ Zxe:=Zr cut_r
noncomputable def Zgf:FuncId×Con:=(56,⟨[.int .u64],[.leaf 0],λp=>Zgb p⟩)
theorem ZNr:KR Zgf:=ZH (C:=cf2 [(42,0)] [Zxe]) .no Tryz.func56 [] (λv vals x z ha hz=>.trans (by kernel_rfl) (ZAv hz)) ⟨ZAg,tr⟩
theorem ZCh:KQ Zgf:=Zr ZNr
noncomputable def of_q:FuncId×Con:=(31,⟨[.int .i64],[.leaf 2],λp=>ofF p⟩)
theorem of_r:KR of_q:=ZH (C:=cf0 [Zgf] [] [] []) .no Tryz.func31 [] (λv vals x z ha hz=>by obtain⟨c0,e0,p0⟩:=ha;exact .trans (by kernel_rfl) (ofF_eq p0.2 hz)) ⟨ZCh,tr⟩
theorem of_k:KQ of_q:=Zr of_r
noncomputable def Zjj:FuncId×Con:=(12,⟨[.int .i64],[.leaf 3],λp=>Zsd p⟩)
theorem Zdl:KQ Zjj:=Zr (ZH (C:=cf0 [of_q] [] [] []) .no Tryz.func12 [] (λv vals x z ha hz=>.trans (by kernel_rfl) (Zvx hz)) ⟨of_k,tr⟩)
noncomputable def ZAp:FuncId×Con:=(58,⟨[.leaf 2],[.int .i64],λp=>Zuh p⟩)
theorem isign_k:KQ ZAp:=Zr (ZH (C:=cf0 [] [] [] []) .no Tryz.func58 [] (λv vals x z ha hz=>.trans (by kernel_rfl) (Zhu hz)))
noncomputable def ZGg:FuncId×Con:=(33,⟨[.leaf 3],[.int .i64],λp=>ZMb p⟩)
theorem Zfh:KQ ZGg:=Zr (ZH (C:=cf0 [ZAp] [] [] []) .no Tryz.func33 [] (λv vals x z ha hz=>.trans (by kernel_rfl) (Z1w hz)) ⟨isign_k,tr⟩)
noncomputable def ZOn:FuncId×Con:=(160,⟨[.int .u64],[.int .i64],λp=>ZQh p⟩)
theorem len64_k:KQ ZOn:=Zr (ZH (C:=cf2 [] []) (.n (.two (.n (.j [] [] [.s 0 (.dat (.int .u64)),.s 2 (.dat (.int .i64))] .no)) (.two (.n (.j [] [] [.s 0 (.dat (.int .u64)),.s 2 (.dat (.int .i64))] .no)) (.f (.n (.j [] [] [.s 0 (.dat (.int .u64)),.s 2 (.dat (.int .i64))] .no)))))) Tryz.func160 [] (λv vals x z ha hz=>.trans (by kernel_rfl) (Z4v hz)))
noncomputable def Z1k:FuncId×Con:=(138,⟨[.int .u64],[.int .i64],λp=>Zud p⟩)
theorem Zuo:KR Z1k:=ZH (C:=cf2 [] [ZOn]) .no Tryz.func138 [] (λv vals x z ha hz=>.trans (by kernel_rfl) (ZAx hz)) ⟨len64_k,tr⟩
theorem lz64_k:KQ Z1k:=Zr Zuo
noncomputable def ZWk:FuncId×Con:=(105,⟨[.int .u64,.int .u64,.int .u64],[.int .u64,.int .u64],λp=>Zdd p.1 p.2.1 p.2.2⟩)
theorem ZHt:KR ZWk:=ZH (C:=cf2 [] [Z1k]) (.n (.n (.n (.n (.n (.n (.n (.n (.n (.n (.n (.n (.n (.n (.two (.j [2,8,9,10,11,13,14] [] [.s 15 (.dat (.int .u64))] (.f (.l [2,8,9,10,11,13,14] [] [.s 15 (.dat (.int .u64)),.s 16 (.dat (.int .u64))] 0 [2,8,9,10,11,13,14] [] [.s 15 (.dat (.int .u64))] (.f (.f (.f (.j [2,8,9,10,11,13,14,15,16] [] [.s 78 (.dat .bool)] .no))))))) (.n (.n (.n (.f (.j [2,8,14,15,17] [] [.s 18 (.dat (.int .u64))] (.f (.l [2,8,9,10,14,15,17] [] [.s 16 (.dat (.int .u64)),.s 18 (.dat (.int .u64))] 2 [2,8,14,15,17] [] [.s 18 (.dat (.int .u64))] (.f (.f (.f (.j [2,8,9,10,14,15,16,17,18] [] [.s 113 (.dat .bool)] .no)))))))))))))))))))))))))) Tryz.func105 [] (λv vals x z ha hz=>.trans (by kernel_rfl) (Z8y hz)) ⟨lz64_k,tr⟩
theorem div64_k:KQ ZWk:=Zr ZHt
noncomputable def Znz:FuncId×Con:=(68,⟨[.leaf 0,.int .u64],[.leaf 0,.int .u64],λp=>ZJd p.1 p.2⟩)
theorem Z9x:KR Znz:=ZH (C:=cf2 [(42,0)] [Zxe,ZWk]) (.n (.n (.n (.f (.n (.j [] [] [.s 6 (.own 137 (.int .u64)),.s 7 (.dat (.int .u64))] (.f (.l [0,1] [] [.s 6 (.own 137 (.int .u64)),.s 7 (.dat (.int .u64)),.s 8 (.dat (.int .i64))] 0 [] [] [.s 6 (.own 137 (.int .u64)),.s 7 (.dat (.int .u64))] .no)))))))) Tryz.func68 [] (λv vals x z ha hz=>by obtain⟨c0,w0,e0,p0,c1,e1,p1⟩:=ha;exact .trans (by kernel_rfl) (Z9v p1.2 hz)) ⟨ZAg,div64_k,tr⟩
theorem ZIo {h:World} {b:Zb} (hv:VIn b h) {c:List Value} {a:Nat} (i:Rep.rel Zu b c a) {d:List Value} {n:Int} (j:Rep.rel (Zd .u64) b d n) {z:Nat×Int} (hm:ZJd a n=some z) :
  Ret Tryz.prog 68 #[Zu.val c,(Zd .u64).val d] h b (λy v'=>∃ f g,y=Value.tuple #[Zu.val f,(Zd .u64).val g]∧Zu.rel v' f z.1∧(Zd .u64).rel v' g z.2) :=
 (Z9x h b [Zu.val c,(Zd .u64).val d] (a,n) z hv ⟨c,_,rfl,i,d,rfl,j⟩ hm).2.mono λy v' _ ⟨_,e,f,_,q,k,g,q',l⟩=>by subst q';subst q;exact⟨f,g,e,k,l⟩
noncomputable def cmp_q:FuncId×Con:=(128,⟨[.leaf 0,.leaf 0],[.int .i64],λp=>ZIe p.1 p.2⟩)
theorem cmp_r:KR cmp_q:=ZSi (C:=cf2 [] []) (.n (.n (.f (.n (.cut ⟨⟨[],[],[]⟩,[(.norm,⟨[],[],[]⟩),(.ret,⟨[],[],[.s 1000 (.dat (.int .i64))]⟩)]⟩ (.f (.cut ⟨⟨[0,1],[],[.s 5 (.dat (.int .i64))]⟩,[(.ret,⟨[],[],[.s 1000 (.dat (.int .i64))]⟩),(.exit 0,⟨[],[],[]⟩)]⟩ .no))))))) Tryz.func128 [] [.slice (.int .u64),.slice (.int .u64)] [.int .i64] (λx=>((Zc 18446744073709551616 x.1),(Zc 18446744073709551616 x.2))) (λz=>z) (λv vals x z ha hz=>by obtain⟨c0,w0,e0,p0,c1,e1,p1⟩:=ha;exact .trans (by kernel_rfl) ((cmp_eq (Z5n p0) (Z5n p1)).trans hz))
theorem cmp_k:KQ cmp_q:=Zr cmp_r
theorem cmp_c {f:World} {c:Zb} (hv:VIn c f) {d:List Value} {a:Nat} (h:Rep.rel Zu c d a) {e:List Value} {b:Nat} (i:Rep.rel Zu c e b) {z:Int} (hm:ZIe a b=some z) :
  Ret Tryz.prog 128 #[Zu.val d,Zu.val e] f c (λy v'=>∃ g,y=(Zd .i64).val g∧(Zd .i64).rel v' g z) :=
 (cmp_r f c [Zu.val d,Zu.val e] (a,b) z hv ⟨d,_,rfl,h,e,rfl,i⟩ hm).2
theorem Zfk {d:World} {b:Zb} (hv:VIn b d) {c:List Value} {a:(List Int)} (f:Rep.rel (Zs (Zd .u64)) b c a) {z:Nat} (hm:ZSa a=some z) :
  Ret Tryz.prog 96 #[(Zs (Zd .u64)).val c] d b (λy v'=>∃ e,y=Zu.val e∧Zu.rel v' e z) :=
 (cut_r d b [(Zs (Zd .u64)).val c] (a) z hv ⟨c,rfl,f⟩ hm).2
theorem div64_c {h:World} {a:Zb} (hv:VIn a h) {b:List Value} {hi:Int} (i:Rep.rel (Zd .u64) a b hi) {c:List Value} {lo:Int} (j:Rep.rel (Zd .u64) a c lo) {d:List Value} {y:Int} (k:Rep.rel (Zd .u64) a d y) {z:Int×Int} (hm:Zdd hi lo y=some z) :
  Ret Tryz.prog 105 #[(Zd .u64).val b,(Zd .u64).val c,(Zd .u64).val d] h a (λy v'=>∃ f g,y=Value.tuple #[(Zd .u64).val f,(Zd .u64).val g]∧(Zd .u64).rel v' f z.1∧(Zd .u64).rel v' g z.2) :=
 (ZHt h a [(Zd .u64).val b,(Zd .u64).val c,(Zd .u64).val d] (hi,lo,y) z hv ⟨b,_,rfl,i,c,_,rfl,j,d,rfl,k⟩ hm).2.mono λy v' _ ⟨_,e,f,_,q,l,g,q',m⟩=>by subst q';subst q;exact⟨f,g,e,l,m⟩
noncomputable def ZDl:FuncId×Con:=(130,⟨[.int .u64,.int .u64],[.int .u64,.int .u64],λp=>Zbd p.1 p.2⟩)
theorem Zsq:KR ZDl:=ZH (C:=cf2 [] []) .no Tryz.func130 [] (λv vals x z ha hz=>.trans (by kernel_rfl) (Z7t hz))
theorem mul64_k:KQ ZDl:=Zr Zsq
theorem ZKp {g:World} {a:Zb} (hv:VIn a g) {b:List Value} {x:Int} (h:Rep.rel (Zd .u64) a b x) {c:List Value} {y:Int} (i:Rep.rel (Zd .u64) a c y) {z:Int×Int} (hm:Zbd x y=some z) :
  Ret Tryz.prog 130 #[(Zd .u64).val b,(Zd .u64).val c] g a (λy v'=>∃ d f,y=Value.tuple #[(Zd .u64).val d,(Zd .u64).val f]∧(Zd .u64).rel v' d z.1∧(Zd .u64).rel v' f z.2) :=
 (Zsq g a [(Zd .u64).val b,(Zd .u64).val c] (x,y) z hv ⟨b,_,rfl,h,c,rfl,i⟩ hm).2.mono λy v' _ ⟨_,e,d,_,q,j,f,q',k⟩=>by subst q';subst q;exact⟨d,f,e,j,k⟩
end Go.Eng
namespace Go.Eng
open Go.RowKit
theorem Zt {α:Type _} {a b:α} (h:some a=some b):a=b:=Option.some.inj h
theorem Z7 (b:Bool):b=true∨b=false:=(Bool.eq_false_or_eq_true b)
theorem leT {a b c:Zb} (h:a.le b) (k:b.le c):a.le c:=Zb.le_trans h k
theorem leR (v:Zb):v.le v:=Zb.le_refl v
theorem bO {α β:Type _} {x:Option α} {f:α→Option β} {z:β} {G:Prop} (h:bnd x f=some z) (k:∀ y,x=some y→f y=some z→G):G:=by obtain⟨y,e,h⟩:=ZG h;exact k y e h
theorem Zz {P:Program} {Q:Exit→Act→World→Prop} {a:Act} {w:World} {id:Nat} {l:List Oper} (h:wpList P l.toArray Q l a w):(Code.region id l.toArray false).wp P Q a w:=wp_region_lit h
theorem Zo {P:Program} {Q:Exit→Act→World→Prop} {a:Act} {w:World} {x y:Code} (h:∀ K:Act→World→Prop,(∀ a w,y.wp P Q a w→K a w)→x.wp P (Exit.then K Q) a w):(Code.seq x y).wp P Q a w:=wp_seq_k h
theorem ZNa {α:Type} {A:Rep α} {v v':Zb} {cs:List Value} {x:α} (hv:v.le v') (h:A.rel v cs x):A.rel v' cs x:=A.mono hv h
theorem Rflat {α:Type} (A:Rep α) {v:Zb} {cs:List Value} {x:α} (h:A.rel v cs x):cs.all plain=true:=A.flat h
theorem Atm {v v':Zb} {b off:Nat} {cs:List Value} (h:v.le v') (k:At v b off cs):At v' b off cs:=At.mono h k
end Go.Eng
namespace Go.Eng
open Go.Proofs Go.RowKit
theorem Zwq:ZMg Tryz.prog 184 20 1:=⟨5,λ_=>by kernel_rfl,λ_=>by kernel_rfl⟩
theorem Zmq:ConvI Tryz.prog 137 3 .u64 .i64:=λ_ _=>by kernel_rfl
theorem ZCy:ConvI Tryz.prog 137 5 .u64 .u8:=λ_ _=>by kernel_rfl
theorem ZBu:ConvI Tryz.prog 3 137 .i64 .u64:=λ_ _=>by kernel_rfl
theorem ZFh:Elem Tryz.prog 42 137 1 8 (Value.int IntKind.u64 0):=⟨Tryz.underlying42,by kernel_rfl,rfl,by decide⟩
theorem ZIp:Elem Tryz.prog 64 9 1 16 (Value.string (Zg [])):=⟨Tryz.underlying64,by kernel_rfl,rfl,by decide⟩
theorem k_en102:ZF Tryz.prog 102:=λ_ _=>by kernel_rfl
theorem k_en105:ZF Tryz.prog 105:=λ_ _=>by kernel_rfl
theorem ZVp:ZF Tryz.prog 128:=λ_ _=>by kernel_rfl
theorem ZDq:ZF Tryz.prog 130:=λ_ _=>by kernel_rfl
theorem Zdm:ZF Tryz.prog 132:=λ_ _=>by kernel_rfl
theorem Zxm:ZF Tryz.prog 133:=λ_ _=>by kernel_rfl
theorem k_en134:ZF Tryz.prog 134:=λ_ _=>by kernel_rfl
theorem k_en135:ZF Tryz.prog 135:=λ_ _=>by kernel_rfl
theorem ZMi:ZF Tryz.prog 136:=λ_ _=>by kernel_rfl
theorem k_en138:ZF Tryz.prog 138:=λ_ _=>by kernel_rfl
theorem k_en148:ZF Tryz.prog 148:=λ_ _=>by kernel_rfl
theorem k_en149:ZF Tryz.prog 149:=λ_ _=>by kernel_rfl
theorem ZDr:ZF Tryz.prog 155:=λ_ _=>by kernel_rfl
theorem k_en157:ZF Tryz.prog 157:=λ_ _=>by kernel_rfl
theorem k_en159:ZF Tryz.prog 159:=λ_ _=>by kernel_rfl
theorem k_en163:ZF Tryz.prog 163:=λ_ _=>by kernel_rfl
theorem ZMq:ZF Tryz.prog 166:=λ_ _=>by kernel_rfl
theorem k_en167:ZF Tryz.prog 167:=λ_ _=>by kernel_rfl
theorem ZEq:ZF Tryz.prog 168:=λ_ _=>by kernel_rfl
theorem k_en25:ZF Tryz.prog 25:=λ_ _=>by kernel_rfl
theorem k_en28:ZF Tryz.prog 28:=λ_ _=>by kernel_rfl
theorem k_en31:ZF Tryz.prog 31:=λ_ _=>by kernel_rfl
theorem Zus:ZF Tryz.prog 56:=λ_ _=>by kernel_rfl
theorem Zkp:ZF Tryz.prog 68:=λ_ _=>by kernel_rfl
theorem k_en69:ZF Tryz.prog 69:=λ_ _=>by kernel_rfl
theorem k_en70:ZF Tryz.prog 70:=λ_ _=>by kernel_rfl
theorem k_en89:ZF Tryz.prog 89:=λ_ _=>by kernel_rfl
theorem k_en90:ZF Tryz.prog 90:=λ_ _=>by kernel_rfl
theorem Z4i:ZF Tryz.prog 96:=λ_ _=>by kernel_rfl
theorem Zbs:ZPc Tryz.prog 131 add64Entry:=⟨_,Tryz.func131,by kernel_rfl,by kernel_rfl,by kernel_rfl,by kernel_rfl⟩
theorem Z2v:ZPc Tryz.prog 154 ZEj:=⟨_,Tryz.func154,by kernel_rfl,by kernel_rfl,by kernel_rfl,by kernel_rfl⟩
theorem Zth:ZPc Tryz.prog 164 Extern.MathFloatBits.float64frombits:=⟨_,Tryz.func164,by kernel_rfl,by kernel_rfl,by kernel_rfl,by kernel_rfl⟩
theorem Zqi:ZPc Tryz.prog 165 Extern.MathFloatBits.float64bits:=⟨_,Tryz.func165,by kernel_rfl,by kernel_rfl,by kernel_rfl,by kernel_rfl⟩
theorem ZOo:ZFi Tryz.prog 44 0 0:=λ_ _ _=>by kernel_rfl
theorem ZMv:ZFi Tryz.prog 44 1 1:=λ_ _ _=>by kernel_rfl
theorem ZNh:Tryz.prog.follows .mixedOrders=true:=by kernel_rfl
theorem Zha:Zaf Tryz.prog 42 137 1:=⟨λ_=>by kernel_rfl,λ_=>by kernel_rfl⟩
theorem ZJl:Zaf Tryz.prog 64 9 1:=⟨λ_=>by kernel_rfl,λ_=>by kernel_rfl⟩
theorem ZCb:Sized Tryz.prog 137 1 false:=⟨λ_=>by kernel_rfl,λ_=>by kernel_rfl⟩
theorem k_sz4:Sized Tryz.prog 4 1 false:=⟨λ_=>by kernel_rfl,λ_=>by kernel_rfl⟩
theorem k_sz42:Sized Tryz.prog 42 1 false:=⟨λ_=>by kernel_rfl,λ_=>by kernel_rfl⟩
theorem Z5i:Sized Tryz.prog 44 2 true:=⟨λ_=>by kernel_rfl,λ_=>by kernel_rfl⟩
theorem ZHe:Sized Tryz.prog 46 3 true:=⟨λ_=>by kernel_rfl,λ_=>by kernel_rfl⟩
theorem k_sz5:Sized Tryz.prog 5 1 false:=⟨λ_=>by kernel_rfl,λ_=>by kernel_rfl⟩
theorem k_sz9:Sized Tryz.prog 9 1 false:=⟨λ_=>by kernel_rfl,λ_=>by kernel_rfl⟩
theorem k_zv184:∀ w,(zeroValue 184).run Tryz.prog w = .ok (Value.agg #[Value.int IntKind.u8 0,Value.int IntKind.u8 0,Value.int IntKind.u8 0,Value.int IntKind.u8 0,Value.int IntKind.u8 0,Value.int IntKind.u8 0,Value.int IntKind.u8 0,Value.int IntKind.u8 0,Value.int IntKind.u8 0,Value.int IntKind.u8 0,Value.int IntKind.u8 0,Value.int IntKind.u8 0,Value.int IntKind.u8 0,Value.int IntKind.u8 0,Value.int IntKind.u8 0,Value.int IntKind.u8 0,Value.int IntKind.u8 0,Value.int IntKind.u8 0,Value.int IntKind.u8 0,Value.int IntKind.u8 0]) w:=λ_=>by kernel_rfl
theorem k_zv44:∀ w,(zeroValue 44).run Tryz.prog w = .ok (Value.agg #[Value.bool false,Value.slice none 0 0]) w:=λ_=>by kernel_rfl
theorem ZIs:∀ w,(zeroValue 46).run Tryz.prog w = .ok (Value.agg #[Value.bool false,Value.slice none 0 0,Value.slice none 0 0]) w:=λ_=>by kernel_rfl
theorem k_zv96:∀ w,(zeroValue 96).run Tryz.prog w = .ok (Value.agg #[Value.pointer none,Value.slice none 0 0]) w:=λ_=>by kernel_rfl
theorem take_w {R:World} {o:Zb} (hv:VIn o R) {a off0 g C:Nat} {E:TypeId} {pre0 cs0 post0:List Value} {u:(List Int)} (bf:R.heap[a]? = some (.cells (pre0++cs0++post0).toArray E (0,0))) (aG:off0=pre0.length) (bg:o a=none) (au:g=u.length) (bh:g≤C∧C≤maxLen) (r:Rep.rels (Zd .u64) o cs0 u) {c1:List Value} {v:Nat} (D:Rep.rel Zu o c1 v) {c2:List Value} {q:Int} (p2:Rep.rel (Zd .u64) o c2 q) {z:Bool×(List Int)} (H:ZAh u v q=some z):ZPd Tryz.prog 163 #[.slice (some ⟨a,off0,none⟩) g C,Zu.val c1,(Zd .u64).val c2] R o [a] (λy v' w'=>(∃ r0,y=Znb.val r0∧Znb.rel v' r0 z.1)∧v' a=none∧∃ cs,w'.heap[a]? = some (.cells (pre0++cs++post0).toArray E (0,0))∧g=z.2.length∧Rep.rels (Zd .u64) v' cs z.2):=by
 obtain⟨q1,V,W,rfl⟩:=ZGa D;obtain⟨rfl,r4⟩:=p2;refine Zqr (K:=79) (args:=[.slice (some ⟨a,off0,none⟩) (g) C,.slice q1 V W,.int .u64 q]) hv bf bg Tryz.func163 rfl rfl zl λf S=>?_;unfold ZAh at H;refine sr (mw S rfl λf S=>oe (Zo λ_ bi=>bO H λJ bj H=>bO H λcF av H=>Zz (mv S rfl λf S=>ov S rfl (Zec S (ZYa D) rfl rfl Zha) λf S=>ov S rfl (Zw S rfl rfl (ZYc bj)) λf S=>?_)));obtain⟨aH,aQ⟩:∃ c:List Value,c=(List.replicate (J).toNat [.int .u64 0]).flatten:=⟨_,rfl⟩;obtain⟨aR,w,bk,S⟩:=Zfo ZFh S (l:=J) (c:=J) (Z6d av).1 (Z6d av).2.1 (Z6d av).2.2.1 (Z6d av).2.2.2 aQ;have bm:Rep.rels (Zd .u64) o aH (List.replicate (J).toNat (0:Int)):=by rw[aQ];exact Zbh (show Rep.rel (Zd .u64) _ [.int .u64 0] _ from (ZS (by decide))) _
 refine Z8e wn rfl zl (bk rfl rfl) S λf S=>mw S rfl λf S=>Zx (Zh (bi _ _ (sr (mw S rfl λf S=>oe (Zo λ_ bn=>sr (mv S rfl λf S=>ov S rfl (Zec S (ZYa D) rfl rfl Zha) λf S=>mv S rfl λf S=>oe ?_))))));obtain⟨bo,bp,bq⟩:=ZG H;refine Zrb (λf w=>∃ L b aI s G h X,(L,b)=bo∧Zb.le o X∧St 79 ⟨R,[a]⟩ o [(0,.slice (some ⟨a,off0,none⟩) (g) C),(1,.slice q1 V W),(7,.slice (mkA aI) s G),(8,.int .u64 b)] [Loc.box a E (pre0++cs0++post0),Loc.own aI 137 1 s G h] X f w∧Rep.rels (Zd .u64) X h L∧s=L.length∧inR .u64 b) (λ_ br=>?_) ?_
 ·have H:=bp;refine wp_block ?_;obtain⟨cG,bs,bt⟩:=ZG H;have S:=S.reorder (ℓ':=[Loc.box a E (pre0++cs0++post0),Loc.own (some aR) 137 1 ((J).toNat) (J).toNat aH]) [1,0] rfl (by decide);refine Zfe bs (λbu f w=>∃ Y ag m aw M Z I ax,(Y,ag,m)=bu∧Zb.le o ax∧St 79 ⟨R,[a]⟩ o [(0,.slice (some ⟨a,off0,none⟩) (g) C),(1,.slice q1 V W),(2,.int .u64 q),(7,.slice (mkA aw) M Z),(8,.int .u64 ag),(20,.slice q1 V W),(21,.int .i64 ((((Zc 18446744073709551616 v)).length:Int))),(22,.int .i64 m)] [Loc.box a E (pre0++cs0++post0),Loc.own aw 137 1 M Z I] ax f w∧Rep.rels (Zd .u64) ax I Y∧M=Y.length∧inR .u64 ag∧inR .i64 m) ⟨_,_,_,some aR,(J).toNat,(J).toNat,aH,_,rfl,(leR _),(S.fr' rfl),bm,(repN (x:=(0:Int))),(by decide),(by decide)⟩ ?_;rintro _ f w st ⟨Y,ag,m,aw,M,Z,I,ax,hq,ay,S,ah,ai,bv,cH⟩ H cI bw bx;subst hq;have r:=ZR ay r;refine sr (ov S rfl (Zw S rfl rfl ZRd) λf S=>oe (Zo λ_ bz=>?_));rcases Z7 (decide (m<(((Zc 18446744073709551616 v)).length:Int))) with aj | aj
  ·have H:=Z9 H aj;refine Zoa S rfl aj (wp_skip (Zh (bz _ _ (Zo λ_ bA=>wp_block (Zo λ_ bB=>bO H λaJ aK H=>Zz (mv S rfl λf S=>?_))))));have D:=ZNa ay D;obtain⟨_,aS,aT,cJ,rfl,bC,bD⟩:=ZIb D (Zp aK).2.1;obtain⟨rfl,bE⟩:=bD;refine ov S rfl (Zxa S rfl rfl Zha (Zp aK).1 (ltI (ZYa D) (Zp aK).2.2.1)) λf S=>ov S rfl (Zob S rfl ZCb (S.view bC)) λf S=>mw S rfl λf S=>mw S rfl λf S=>Zx (Zh (bB _ _ (Zo λ_ bG=>bO H λaU bH H=>Zz (mv S rfl λf S=>mv S rfl λf S=>opc S rfl (ZO S [.int .u64 aJ,.int .u64 q] ZDq rfl rfl) (ZKp S.vin (show Rep.rel (Zd .u64) _ [.int .u64 aJ] aJ from (ZS bE)) (show Rep.rel (Zd .u64) _ [.int .u64 q] q from (ZS r4)) bH) ?_))));rintro _ aV f w aL ⟨cK,cL,rfl,bI,bJ⟩ S;have r:=ZR aL r;have ah:=ZR aL ah;obtain⟨rfl,cM⟩:=bI;obtain⟨rfl,cO⟩:=bJ;refine mv S rfl λf S=>ov S rfl (Zka S rfl rfl) λf S=>ov S rfl (Zka S rfl rfl) λf S=>mw S rfl λf S=>mw S rfl λf S=>Zx (Zh (bG _ _ (sr (mw S rfl λf S=>oe (Zo λ_ bK=>bO H λN aW H=>bO H λcP aa H=>Zz ?_)))));refine mv S rfl λf S=>mv S rfl λf S=>mv S rfl λf S=>mv S rfl λf S=>ov S rfl (Zlc S [.int .u64 (aU.2),.int .u64 ag,.int .u64 0] (ZPl Zbs aW) rfl rfl) λf S=>mv S rfl λf S=>ov S rfl (Zka S rfl rfl) λf S=>ov S rfl (Zka S rfl rfl) λf S=>?_
   obtain⟨aX,rfl⟩:=Z5c S (j:=1) rfl (posN ai (Zp aa).2.2.2);have aY:=ZHa ah (Zp aa).2.1;obtain⟨cQ,bM⟩:∃ c,(List.take (Zd .u64).n (List.drop ((m).toNat*(Zd .u64).n) I))=c:=⟨_,rfl⟩;rw[bM]at aY;obtain⟨rfl,cR⟩:=aY;refine ov S rfl (Zxa S rfl rfl Zha (Zp aa).1 (ltI ai (Zp aa).2.2.1)) λf S=>?_;obtain⟨w,bP,S⟩:=Zfd S ZCb (off:=0+(m).toNat*1) (z:=.int .u64 (N.1)) (cs:=[.int .u64 (N.1)]) (Zmd rfl) rfl (i:=1) rfl (Zkh S (j:=1) rfl (ltN ai (Zp aa).2.2.2)) (by first | rfl | simp[plain]);have bQ:Rep.rels (Zd .u64) aV (List.take (0+(m).toNat*1) I++[Value.int IntKind.u64 (N.1)]++List.drop (0+(m).toNat*1+1) I) (Y.set (m).toNat N.1):=ZGf ah (Zp aa).2.2.2 (show Rep.rel (Zd .u64) aV [.int .u64 (N.1)] _ from (ZS (Zkm aW))) rfl rfl;have bR:M=(Y.set (m).toNat N.1).length:=setN ai;refine ZTf wn rfl (bP rfl rfl) (mw S rfl λf S=>Zx ?_);have S:=S.fr' (σ':=[(0,.slice (some ⟨a,off0,none⟩) (g) C),(1,.slice (some ⟨aS,aT,none⟩) V W),(2,.int .u64 q),(7,.slice (mkA (some aX)) (M) Z),(11,.int .u64 (aU.1)),(13,.int .u64 (N.2)),(20,.slice (some ⟨aS,aT,none⟩) V W),(21,.int .i64 ((((Zc 18446744073709551616 v)).length:Int))),(22,.int .i64 m)]) rfl
   refine Zh (bK _ _ (Zz (mv S rfl λf S=>mv S rfl λf S=>ov S rfl (Zw S rfl rfl Z2k) λf S=>mw S rfl λf S=>Zx (Zkd (Zh (bA _ _ (bO H λcS aZ H=>Zz (ov S rfl (Zw S rfl rfl (ZYc aZ)) λf S=>mv S rfl λf S=>Zx ?_))))))));obtain rfl:=Zt H;refine bw _ rfl _ _ ⟨_,_,_,some aX,M,Z,(List.take (0+(m).toNat*1) I++[Value.int IntKind.u64 (N.1)]++List.drop (0+(m).toNat*1+1) I),_,rfl,(leT ay aL),(S.fr' rfl),bQ,bR,(Zub _ _),(Zcb aZ).2⟩
  have H:=Zaa H aj;refine Zea S rfl aj (wp_exit (ZGb ?_));obtain rfl:=Zt H;have hq:=bx _ rfl;subst hq;have H:=bt;refine ZGb (Zke ?_);obtain rfl:=Zt H;refine Zh (br _ _ ⟨_,_,aw,M,Z,I,_,rfl,(leT (leR _) ay),(S.fr' rfl),ah,ai,bv⟩)
 rintro f w ⟨L,b,aI,s,G,h,X,hq,a0,S,a1,az,bS⟩;subst hq;have H:=bq;have r:=ZR a0 r;refine Zh (bn _ _ (Zo λ_ bT=>bO H λcT ab H=>Zz (mv S rfl λf S=>mv S rfl λf S=>?_)));have D:=ZNa a0 D;refine ov S rfl (Zec S (ZYa D) rfl rfl Zha) λf S=>mv S rfl λf S=>?_;obtain⟨ac,rfl⟩:=Z5c S (j:=1) rfl (posN az (Zp ab).2.2.2);have a2:=ZHa a1 (Zp ab).2.1;obtain⟨cU,bU⟩:∃ c,(List.take (Zd .u64).n (List.drop (((((Zc 18446744073709551616 v)).length:Int)).toNat*(Zd .u64).n) h))=c:=⟨_,rfl⟩;rw[bU]at a2;obtain⟨rfl,cV⟩:=a2;refine ov S rfl (Zxa S rfl rfl Zha (Zp ab).1 (ltI az (Zp ab).2.2.1)) λf S=>?_;obtain⟨w,bV,S⟩:=Zfd S ZCb (off:=0+((((Zc 18446744073709551616 v)).length:Int)).toNat*1) (z:=.int .u64 b) (cs:=[.int .u64 b]) (Zmd rfl) rfl (i:=1) rfl (Zkh S (j:=1) rfl (ltN az (Zp ab).2.2.2)) (by first | rfl | simp[plain]);have p:Rep.rels (Zd .u64) X (List.take (0+((((Zc 18446744073709551616 v)).length:Int)).toNat*1) h++[Value.int IntKind.u64 (b)]++List.drop (0+((((Zc 18446744073709551616 v)).length:Int)).toNat*1+1) h) (L.set ((((Zc 18446744073709551616 v)).length:Int)).toNat b):=ZGf a1 (Zp ab).2.2.2 (show Rep.rel (Zd .u64) X [.int .u64 b] _ from (ZS bS)) rfl rfl
 have aM:s=(L.set ((((Zc 18446744073709551616 v)).length:Int)).toNat b).length:=setN az;refine ZTf wn rfl (bV rfl rfl) (Zx (Zh (bT _ _ (Zo λ_ bW=>Zo λ_ bX=>bO H λcW bY H=>bO H λcX bZ H=>bO H λb1 b2 H=>Zz (mv S rfl λf S=>?_)))));have p0s120:=r;have h69s120:=p;have b3:=S.vst.le;obtain⟨cY,cZ,a3,t,S,b4,b5,b6,T⟩:=S.lendSeg (i:=0) (A:=(Zd .u64)) (l:=u) (ℓ':=[Loc.own (some ac) 137 1 s G ((List.take (0+((((Zc 18446744073709551616 v)).length:Int)).toNat*1) h++[Value.int IntKind.u64 (b)]++List.drop (0+((((Zc 18446744073709551616 v)).length:Int)).toNat*1+1) h))]) rfl rfl aG r au bh;have p:=ZR a3 p;refine opc S rfl (ZO S [.slice (some ⟨a,off0,none⟩) (g) C] Z4i rfl rfl) (Zfk S.vin (show Rep.rel (Zs (Zd .u64)) _ [.slice (some ⟨a,off0,none⟩) (g) C] u from T) bY) ?_;rintro _ c0 f w aA ⟨c3,rfl,P⟩ S;have p:=ZR aA p;have t:=aA _ _ t;obtain⟨b7,b8,b9,rfl⟩:=ZGa P;refine mv S rfl λf S=>?_;have T:=ZNa aA T;have h128s137:=T;have h69s137:=p;have h133s137:=P;have h124s137:=t;have ca:=S.vst.le;obtain⟨c4,c5,aB,ak,S,cb,cc,cd,ce⟩:=S.lendSlice (i:=0) (A:=(Zd .u64)) (l:=(L.set ((((Zc 18446744073709551616 v)).length:Int)).toNat b)) (ℓ':=[]) rfl rfl rfl p aM
 have t:=aB _ _ t;refine opc S rfl (ZO S [.slice (mkA (some ac)) (s) G] Z4i rfl rfl) (Zfk S.vin (show Rep.rel (Zs (Zd .u64)) _ [.slice (mkA (some ac)) (s) G] ((L.set ((((Zc 18446744073709551616 v)).length:Int)).toNat b)) from ce) bZ) ?_;rintro _ c6 f w al ⟨c7,rfl,a4⟩ S;have t:=al _ _ t;have ak:=al _ _ ak;obtain⟨cg,ch,ci,rfl⟩:=ZGa a4;have P:=ZNa (leT aB al) P;refine opc S rfl (ZO S [.slice b7 b8 b9,.slice cg ch ci] ZVp rfl rfl) (cmp_c S.vin P a4 b2) ?_;rintro _ c8 f w am ⟨c9,rfl,cj⟩ S;have t:=am _ _ t;have ak:=am _ _ ak;obtain⟨rfl,da⟩:=cj;refine ov S rfl (Zw S rfl rfl ZRd) λf S=>Zx ?_;obtain⟨db,an,S⟩:=S.takeBack (e:=Loc.own (some ac) 137 1 s G ((List.take (0+((((Zc 18446744073709551616 v)).length:Int)).toNat*1) h++[Value.int IntKind.u64 (b)]++List.drop (0+((((Zc 18446744073709551616 v)).length:Int)).toNat*1+1) h))) (leT (leT aB al) am) rfl ak cb cc ca cd;have T:=ZNa (leT (leT aB al) am) T;have T:=ZNa an h128s137;have p:=ZR an h69s137;have P:=ZNa am P;have P:=ZNa an h133s137;have t:=an _ _ h124s137;obtain⟨a5,a6,S⟩:=S.takeBack (e:=Loc.box a E (pre0++cs0++post0)) (leT (leT a3 aA) an) rfl t b4 b5 b3 b6;have r:=ZR a6 p0s120
 have p:=ZR a6 h69s120;refine Zh (bX _ _ ?_);rcases Z7 (decide (b1<(0:Int))) with ao | ao
 ·have H:=Z9 H ao;refine Zoa S rfl ao (sr (mw S rfl λf S=>oe (wp_ret (Z4b ?_))));obtain rfl:=Zt H;refine ZDn S (Zvb rfl (ZY S rfl)) ⟨⟨[.bool false],rfl,Zoh⟩,(S.boxAt (j:=0) rfl).2,_,(S.boxAt (j:=0) rfl).1,au,r⟩
 have H:=Zaa H ao;refine Zea S rfl ao (wp_skip (Zh (bW _ _ (sr (mw S rfl λf S=>oe (Zo λ_ ck=>sr (mv S rfl λf S=>ov S rfl (Zec S au rfl rfl Zha) λf S=>mv S rfl λf S=>oe ?_)))))));obtain⟨cl,cm,cn⟩:=ZG H;refine Zrb (λf w=>∃ aC aN aD,aC=cl∧Zb.le a5 aD∧St 79 ⟨R,[a]⟩ o [] [Loc.box a E (pre0++aN++post0)] aD f w∧Rep.rels (Zd .u64) aD aN aC∧g=aC.length) (λ_ co=>?_) ?_
 ·have H:=cm;refine wp_block ?_;obtain⟨dc,cp,cq⟩:=ZG H;refine Zfe cp (λcr f w=>∃ ad ap d B ae,(ad,ap,d)=cr∧Zb.le a5 ae∧St 79 ⟨R,[a]⟩ o [(0,.slice (some ⟨a,off0,none⟩) (g) C),(7,.slice (mkA (some ac)) (s) G),(14,.int .u64 ap),(58,.int .i64 ((u.length:Int))),(59,.int .i64 d)] [Loc.box a E (pre0++B++post0),Loc.own (some ac) 137 1 s G ((List.take (0+((((Zc 18446744073709551616 v)).length:Int)).toNat*1) h++[Value.int IntKind.u64 (b)]++List.drop (0+((((Zc 18446744073709551616 v)).length:Int)).toNat*1+1) h))] ae f w∧Rep.rels (Zd .u64) ae B ad∧g=ad.length∧inR .u64 ap∧inR .i64 d) ⟨_,_,_,cs0,_,rfl,(leR _),(S.fr' rfl),r,au,(by decide),(by decide)⟩ ?_;rintro _ f w st ⟨ad,ap,d,B,ae,hq,aO,S,af,Q,dd,de⟩ H df ct cu;subst hq;have p:=ZR aO p;refine sr (ov S rfl (Zw S rfl rfl ZRd) λf S=>oe (Zo λ_ cv=>?_));rcases Z7 (decide (d<(u.length:Int))) with aq | aq
  ·have H:=Z9 H aq;refine Zoa S rfl aq (wp_skip (Zh (cv _ _ (Zo λ_ cw=>wp_block (sr (mv S rfl λf S=>mw S rfl λf S=>oe (bO H λa7 aE H=>bO H λa8 aF H=>bO H λU aP H=>bO H λdg ar H=>ZSh (fl:=#[true,true,true,true,true,true,true,true,true,true,true,false,true,true,true,true,false,false]) ZNh (by kernel_rfl) S ?_)))))));intro ops O F w S;refine rfa O F 0 rfl rfl S (Z3 S rfl) λf S=>rfa O F 1 rfl rfl S (Z3 S rfl) λf S=>rfa O F 2 rfl rfl S (Z3 S rfl) λf S=>rfa O F 3 rfl rfl S (Z3 S rfl) λf S=>?_;have a9:=ZHa af (Zp aE).2.1;obtain⟨dh,ba⟩:∃ c,(List.take (Zd .u64).n (List.drop ((d).toNat*(Zd .u64).n) B))=c:=⟨_,rfl⟩;rw[ba]at a9;obtain⟨rfl,cx⟩:=a9;refine rfa O F 4 rfl rfl S (Zxa S rfl rfl Zha (Zp aE).1 (ltI Q (Zp aE).2.2.1)) λf S=>rfa O F 5 rfl rfl S (Zob S rfl ZCb (ZHh S (j:=0) rfl aG (Zse af Q) ba (ltN Q (Zp aE).2.2.2) 0 [.int .u64 a7] rfl zl)) λf S=>rfa O F 6 rfl rfl S (Z3 S rfl) λf S=>rfa O F 7 rfl rfl S (Z3 S rfl) λf S=>?_;have bb:=ZHa p (Zp aF).2.1;obtain⟨di,bc⟩:∃ c,(List.take (Zd .u64).n (List.drop ((d).toNat*(Zd .u64).n) (List.take (0+((((Zc 18446744073709551616 v)).length:Int)).toNat*1) h++[Value.int IntKind.u64 (b)]++List.drop (0+((((Zc 18446744073709551616 v)).length:Int)).toNat*1+1) h)))=c:=⟨_,rfl⟩
   rw[bc]at bb;obtain⟨rfl,cy⟩:=bb;refine rfa O F 8 rfl rfl S (Zxa S rfl rfl Zha (Zp aF).1 (ltI aM (Zp aF).2.2.1)) λf S=>rfa O F 9 rfl rfl S (Zob S rfl ZCb (ZGd S (j:=1) rfl bc (ltN aM (Zp aF).2.2.2) 0 [.int .u64 a8] rfl zl)) λf S=>rfa O F 10 rfl rfl S (Z3 S rfl) λf S=>go1 O F 11 (nva [5,9,10,4,8,2,3,6,7] [0,1] O rfl rfl S (Zlc S [.int .u64 a7,.int .u64 a8,.int .u64 ap] (ZSp Z2v cx cy aP) rfl rfl) λf S=>⟨(py S rfl rfl (Z3 S rfl) (py S rfl rfl (Z3 S rfl) Z2b)),rfa O F 12 rfl rfl S (Z3 S rfl) λf S=>rfa O F 13 rfl rfl S (Zka S rfl rfl) λf S=>rfa O F 14 rfl rfl S (Zka S rfl rfl) λf S=>?_⟩);have bd:=ZHa af (Zp ar).2.1;obtain⟨dj,cz⟩:∃ c,(List.take (Zd .u64).n (List.drop ((d).toNat*(Zd .u64).n) B))=c:=⟨_,rfl⟩;rw[cz]at bd;obtain⟨rfl,dk⟩:=bd;refine rfa O F 15 rfl rfl S (Zxa S rfl rfl Zha (Zp ar).1 (ltI Q (Zp ar).2.2.1)) λf S=>go1 O F 16 ?_;obtain⟨w,cA,S⟩:=Zpz S (k:=(d).toNat) ZCb (z:=.int .u64 (U.1)) (c:=[.int .u64 (U.1)]) (Zmd rfl) rfl (i:=0) rfl aG (Zse af Q) (ltN Q (Zp ar).2.2.2) rfl (by first | rfl | simp[plain]);have cB:Rep.rels (Zd .u64) ae (List.take (0+(d).toNat*1) B++[Value.int IntKind.u64 (U.1)]++List.drop (0+(d).toNat*1+1) B) (ad.set (d).toNat U.1):=ZGf af (Zp ar).2.2.2 (show Rep.rel (Zd .u64) ae [.int .u64 (U.1)] _ from (ZS (Z3p aP))) rfl rfl
   have cC:g=(ad.set (d).toNat U.1).length:=setN Q;refine nxs [0,1,2,3,4,5,6,7,8,9,10,11,12,13,15] [14] O rfl rfl (cA rfl rfl) (⟨(py S rfl rfl (Zka S rfl rfl) Z2b),go1 O F 17 (nva [0,1,2,3,4,5,6,7,8,9,10,11,12,13,14,15,16] [] O rfl rfl S (Z9d S rfl) λf S=>⟨Z2b,fin1 O F (Zkd (Zh (cw _ _ (bO H λdl be H=>Zz (ov S rfl (Zw S rfl rfl (ZYc be)) λf S=>mv S rfl λf S=>Zx ?_)))))⟩)⟩);obtain rfl:=Zt H;refine ct _ rfl _ _ ⟨_,_,_,(List.take (0+(d).toNat*1) B++[Value.int IntKind.u64 (U.1)]++List.drop (0+(d).toNat*1+1) B),_,rfl,aO,(S.fr' rfl),cB,cC,(Z0s aP),(Zcb be).2⟩
  have H:=Zaa H aq;refine Zea S rfl aq (wp_exit (ZGb ?_));obtain rfl:=Zt H;have hq:=cu _ rfl;subst hq;have H:=cq;refine ZGb (Zke ?_);obtain rfl:=Zt H;have S:=S.reorder (ℓ':=[Loc.box a E (pre0++B++post0)]) [0] rfl (by decide);refine Zh (co _ _ ⟨_,B,_,rfl,(leT (leR _) aO),(S.fr' rfl),af,Q⟩)
 rintro f w ⟨aC,aN,aD,hq,dn,S,cD,cE⟩;subst hq;have H:=cn;refine Zh (ck _ _ (sr (mw S rfl λf S=>oe (wp_ret ?_))));obtain rfl:=Zt H;refine ZDn S (Zvb rfl (ZY S rfl)) ⟨⟨[.bool true],rfl,Zoh⟩,(S.boxAt (j:=0) rfl).2,_,(S.boxAt (j:=0) rfl).1,cE,cD⟩
theorem take_c {d:World} {a:Zb} (hv:VIn a d) {b off0 c e:Nat} {f:TypeId} {pre0 cs0 post0:List Value} {u:(List Int)} (l:d.heap[b]? = some (.cells (pre0++cs0++post0).toArray f (0,0))) (m:off0=pre0.length) (n:a b=none) (o:c=u.length) (p:c≤e∧e≤maxLen) (g:Rep.rels (Zd .u64) a cs0 u) {h:List Value} {v:Nat} (r:Rep.rel Zu a h v) {i:List Value} {q:Int} (j:Rep.rel (Zd .u64) a i q) {z:Bool×(List Int)} (hm:Zfg u v q=some z) :
  ZPd Tryz.prog 163 #[Value.slice (some ⟨b,off0,none⟩) c e,Zu.val h,(Zd .u64).val i] d a [b] (λy v' w'=>(∃ k,y=Znb.val k∧Znb.rel v' k z.1)∧v' b=none∧∃ cs,w'.heap[b]? = some (.cells (pre0++cs++post0).toArray f (0,0))∧c=z.2.length∧Rep.rels (Zd .u64) v' cs z.2) :=
 take_w hv l m n o p g r j (ZVx (ZZk g) j.2 hm)
theorem digit_w {x:World} {m:Zb} (hv:VIn m x) {a off0 e h:Nat} {A:TypeId} {pre0 cs0 post0:List Value} {u:(List Int)} (a0:x.heap[a]? = some (.cells (pre0++cs0++post0).toArray A (0,0))) (G:off0=pre0.length) (a1:m a=none) (k:e=u.length) (a2:e≤h∧h≤maxLen) (d:Rep.rels (Zd .u64) m cs0 u) {c1:List Value} {v:Nat} (g:Rep.rel Zu m c1 v) {z:Int×(List Int)} (H:Z7h u v=some z):ZPd Tryz.prog 148 #[.slice (some ⟨a,off0,none⟩) e h,Zu.val c1] x m [a] (λy v' w'=>(∃ r0,y=(Zd .u64).val r0∧(Zd .u64).rel v' r0 z.1)∧v' a=none∧∃ cs,w'.heap[a]? = some (.cells (pre0++cs++post0).toArray A (0,0))∧e=z.2.length∧Rep.rels (Zd .u64) v' cs z.2):=by
 obtain⟨q1,o,p,rfl⟩:=ZGa g;refine Zqr (K:=90) (args:=[.slice (some ⟨a,off0,none⟩) (e) h,.slice q1 o p]) hv a0 a1 Tryz.func148 rfl rfl zl λf S=>?_;unfold Z7h at H;refine sr (mw S rfl λf S=>oe (sr (mv S rfl λf S=>ov S rfl (Zec S (ZYa g) rfl rfl Zha) λf S=>mw S rfl λf S=>oe (sr (mw S rfl λf S=>oe (Zo λ_ a3=>Zo λ_ a4=>bO H λaE V H=>?_))))));refine bO H λck a5 H=>bO H λa6 aj H=>ZSh (fl:=#[true,true,true,true,true,true,true,true,true,true]) ZNh (by kernel_rfl) S ?_;intro ops O F w S;refine rfa O F 0 rfl rfl S (Z3 S rfl) λf S=>rfa O F 1 rfl rfl S (Z3 S rfl) λf S=>?_;have aF:=ZHa d (Zp V).2.1;obtain⟨cl,aG⟩:∃ c,(List.take (Zd .u64).n (List.drop (((((Zc 18446744073709551616 v)).length:Int)).toNat*(Zd .u64).n) cs0))=c:=⟨_,rfl⟩;rw[aG]at aF;obtain⟨rfl,cm⟩:=aF;refine rfa O F 2 rfl rfl S (Zxa S rfl rfl Zha (Zp V).1 (ltI k (Zp V).2.2.1)) λf S=>rfa O F 3 rfl rfl S (Zob S rfl ZCb (ZHh S (j:=0) rfl G (Zse d k) aG (ltN k (Zp V).2.2.2) 0 [.int .u64 aE] rfl zl)) λf S=>rfa O F 4 rfl rfl S (Z3 S rfl) λf S=>rfa O F 5 rfl rfl S (Z3 S rfl) λf S=>rfa O F 6 rfl rfl S (Zw S rfl rfl (Ztb a5)) λf S=>?_;obtain⟨_,r,s,cn,rfl,a7,a8⟩:=ZIb g (Zp aj).2.1
 obtain⟨rfl,co⟩:=a8;refine rfa O F 7 rfl rfl S (Zxa S rfl rfl Zha (Zp aj).1 (ltI (ZYa g) (Zp aj).2.2.1)) λf S=>rfa O F 8 rfl rfl S (Zob S rfl ZCb (S.view a7)) λf S=>rfa O F 9 rfl rfl S (Zw S rfl rfl ZRd) λf S=>fin1 O F (Zh (a4 _ _ ?_));obtain⟨a9,ba,bb⟩:=ZG H;refine Zrb (λf w=>∃ W I,W=a9∧Zb.le m I∧St 90 ⟨x,[a]⟩ m [(0,.slice (some ⟨a,off0,none⟩) (e) h),(1,.slice (some ⟨r,s,none⟩) o p),(6,.int .u64 W)] [Loc.box a A (pre0++cs0++post0)] I f w∧inR .u64 W) (λ_ aH=>?_) ?_
 ·have H:=ba;rcases Z7 (decide (aE<a6)) with J | J
  ·have H:=Z9 H J;refine Zoa S rfl J (sr (mw S rfl λf S=>oe (Zo λ_ bc=>bO H λX Y H=>bO H λbd be H=>bO H λZ aa H=>bO H λcp bf H=>bO H λak al H=>bO H λaI bg H=>ZSh (fl:=#[true,true,true,true,true,true,true,true,true,true,true,true,true,true,false,true,true,true,false,false]) ZNh (by kernel_rfl) S ?_)));intro ops O F w S;refine rfa O F 0 rfl rfl S (Z3 S rfl) λf S=>rfa O F 1 rfl rfl S (Z3 S rfl) λf S=>?_;have aJ:=ZHa d (Zp Y).2.1;obtain⟨cq,aK⟩:∃ c,(List.take (Zd .u64).n (List.drop (((((Zc 18446744073709551616 v)).length:Int)).toNat*(Zd .u64).n) cs0))=c:=⟨_,rfl⟩;rw[aK]at aJ;obtain⟨rfl,bh⟩:=aJ;refine rfa O F 2 rfl rfl S (Zxa S rfl rfl Zha (Zp Y).1 (ltI k (Zp Y).2.2.1)) λf S=>rfa O F 3 rfl rfl S (Zob S rfl ZCb (ZHh S (j:=0) rfl G (Zse d k) aK (ltN k (Zp Y).2.2.2) 0 [.int .u64 X] rfl zl)) λf S=>rfa O F 4 rfl rfl S (Z3 S rfl) λf S=>rfa O F 5 rfl rfl S (Z3 S rfl) λf S=>rfa O F 6 rfl rfl S (Zw S rfl rfl (Ztb be)) λf S=>?_;have aL:=ZHa d (Zp aa).2.1;obtain⟨cr,aM⟩:∃ c,(List.take (Zd .u64).n (List.drop ((bd).toNat*(Zd .u64).n) cs0))=c:=⟨_,rfl⟩;rw[aM]at aL;obtain⟨rfl,bi⟩:=aL;refine rfa O F 7 rfl rfl S (Zxa S rfl rfl Zha (Zp aa).1 (ltI k (Zp aa).2.2.1)) λf S=>rfa O F 8 rfl rfl S (Zob S rfl ZCb (ZHh S (j:=0) rfl G (Zse d k) aM (ltN k (Zp aa).2.2.2) 0 [.int .u64 Z] rfl zl)) λf S=>rfa O F 9 rfl rfl S (Z3 S rfl) λf S=>rfa O F 10 rfl rfl S (Z3 S rfl) λf S=>rfa O F 11 rfl rfl S (Zw S rfl rfl (Ztb bf)) λf S=>?_
   obtain⟨ct,am,bj⟩:=ZUm g (Zp al).2.1;obtain⟨rfl,bk⟩:=bj;refine rfa O F 12 rfl rfl S (Zxa S rfl rfl Zha (Zp al).1 (ltI (ZYa g) (Zp al).2.2.1)) λf S=>rfa O F 13 rfl rfl S (Zob S rfl ZCb (S.view am)) λf S=>go1 O F 14 (nxc [3,8,13,2,7,12,0,1,4,6,9,11,5,10] [] O rfl S rfl (ZO S [.int .u64 X,.int .u64 Z,.int .u64 ak] k_en105 rfl rfl) (div64_c S.vin (show Rep.rel (Zd .u64) _ [.int .u64 X] X from (ZS bh)) (show Rep.rel (Zd .u64) _ [.int .u64 Z] Z from (ZS bi)) (show Rep.rel (Zd .u64) _ [.int .u64 ak] ak from (ZS bk)) bg) ?_);rintro _ aN f w ab ⟨cu,cv,rfl,bm,bn⟩ S;have d:=ZR ab d;have am:=Atm ab am;obtain⟨rfl,bo⟩:=bm;obtain⟨rfl,bp⟩:=bn;refine⟨Z2b,rfa O F 15 rfl rfl S (Z3 S rfl) λf S=>rfa O F 16 rfl rfl S (Zka S rfl rfl) λf S=>rfa O F 17 rfl rfl S (Zka S rfl rfl) λf S=>go1 O F 18 (nva [0,1,2,3,4,5,6,7,8,9,10,11,12,13,14,15,16] [17] O rfl rfl S (Z9d S rfl) λf S=>⟨(py S rfl rfl (Zka S rfl rfl) Z2b),go1 O F 19 (nva [0,1,2,3,4,5,6,7,8,9,10,11,12,13,14,15,16,17,18] [] O rfl rfl S (Z9d S rfl) λf S=>⟨Z2b,fin1 O F ?_⟩)⟩)⟩;have S:=S.fr' (σ':=[(0,.slice (some ⟨a,off0,none⟩) (e) h),(1,.slice (some ⟨r,s,none⟩) o p),(5,.int .i64 ((((Zc 18446744073709551616 v)).length:Int))),(6,.int .u64 (aI.1)),(7,.int .u64 (aI.2))]) rfl
   refine Zh (bc _ _ ?_);obtain⟨bq,br,bs⟩:=ZG H;refine Zrb (λf w=>∃ ac an,ac=bq∧Zb.le aN an∧St 90 ⟨x,[a]⟩ m [(0,.slice (some ⟨a,off0,none⟩) (e) h),(1,.slice (some ⟨r,s,none⟩) o p),(6,.int .u64 ac)] [Loc.box a A (pre0++cs0++post0)] an f w∧inR .u64 ac) (λ_ aO=>?_) ?_
   ·have H:=br;refine wp_block ?_;obtain⟨cw,bt,aP⟩:=ZG H;refine Zfe bt (λbu f w=>∃ q l ao,(q,l)=bu∧Zb.le aN ao∧St 90 ⟨x,[a]⟩ m [(0,.slice (some ⟨a,off0,none⟩) (e) h),(1,.slice (some ⟨r,s,none⟩) o p),(5,.int .i64 ((((Zc 18446744073709551616 v)).length:Int))),(6,.int .u64 q),(7,.int .u64 l)] [Loc.box a A (pre0++cs0++post0)] ao f w∧inR .u64 q∧inR .u64 l) ⟨_,_,_,rfl,(leR _),(S.fr' rfl),bo,bp⟩ ?_;rintro _ f w st ⟨q,l,ao,hq,L,S,aQ,cx⟩ H cy bv aR;subst hq;have d:=ZR L d;refine wp_block (Zo λ_ bw=>bO H λcz bx H=>bO H λap aq H=>bO H λB bz H=>Zz (mv S rfl λf S=>mv S rfl λf S=>mv S rfl λf S=>ov S rfl (Zw S rfl rfl (Ztb bx)) λf S=>?_));have g:=ZNa (leT ab L) g;obtain⟨cA,ar,bA⟩:=ZUm g (Zp aq).2.1;obtain⟨rfl,bB⟩:=bA;refine ov S rfl (Zxa S rfl rfl Zha (Zp aq).1 (ltI (ZYa g) (Zp aq).2.2.1)) λf S=>ov S rfl (Zob S rfl ZCb (S.view ar)) λf S=>opc S rfl (ZO S [.int .u64 q,.int .u64 ap] ZDq rfl rfl) (ZKp S.vin (show Rep.rel (Zd .u64) _ [.int .u64 q] q from (ZS aQ)) (show Rep.rel (Zd .u64) _ [.int .u64 ap] ap from (ZS bB)) bz) ?_;rintro _ bC f w E ⟨cB,cC,rfl,bD,bE⟩ S
    have d:=ZR E d;have ar:=Atm E ar;obtain⟨rfl,cD⟩:=bD;obtain⟨rfl,cE⟩:=bE;refine mv S rfl λf S=>ov S rfl (Zka S rfl rfl) λf S=>ov S rfl (Zka S rfl rfl) λf S=>mw S rfl λf S=>mw S rfl λf S=>Zx (Zh (bw _ _ (Zo λ_ bG=>Zo λ_ bH=>?_)));obtain⟨bI,bJ,bK⟩:=ZG H;refine Zrb (λf w=>∃ ad au,ad=bI∧Zb.le bC au∧St 90 ⟨x,[a]⟩ m [(0,.slice (some ⟨a,off0,none⟩) (e) h),(1,.slice (some ⟨r,s,none⟩) o p),(5,.int .i64 ((((Zc 18446744073709551616 v)).length:Int))),(6,.int .u64 q),(7,.int .u64 l),(67,.bool ad)] [Loc.box a A (pre0++cs0++post0)] au f w) (λ_ av=>?_) ?_
    ·have H:=bJ;refine Zz (mv S rfl λf S=>mv S rfl λf S=>ov S rfl (Zw S rfl rfl ZRd) λf S=>mv S rfl λf S=>?_);rcases Z7 (decide (B.1<l)) with M | M
     ·have H:=Z9 H M;have S:=S.bool (t:=54) rfl M;refine opn S rfl rfl rfl rfl λf S=>opn S rfl rfl rfl rfl λf S=>opn S rfl rfl rfl rfl λf S=>opn S rfl rfl rfl rfl λf S=>Z3e S (ZVd S rfl rfl rfl zl) rfl zl λf S=>Z3e S (ZVd S rfl rfl rfl zl) rfl zl λf S=>Z3e S (ZVd S rfl rfl rfl zl) rfl zl λf S=>Z3e S (ZVd S rfl rfl rfl zl) rfl zl λf S=>Z3e S (ZVd S rfl rfl rfl zl) rfl zl λf S=>Z3e S (ZVd S rfl rfl rfl zl) rfl zl λf S=>Z3e S (ZVd S rfl rfl rfl zl) rfl zl λf S=>opn S rfl rfl rfl rfl λf S=>ov S rfl (ZEc S (b:=true) rfl rfl) λf S=>Zx ?_;have S:=S.fr' (σ':=[(0,.slice (some ⟨a,off0,none⟩) (e) h),(1,.slice (some ⟨r,s,none⟩) o p),(5,.int .i64 ((((Zc 18446744073709551616 v)).length:Int))),(6,.int .u64 q),(7,.int .u64 l),(55,undef),(56,undef),(57,undef),(58,undef),(59,undef),(60,undef),(61,undef),(62,undef),(63,undef),(64,undef),(65,undef),(66,undef),(67,.bool true)]) rfl;obtain rfl:=Zt H;refine Zh (av _ _ ⟨_,_,rfl,(leR _),(S.fr' rfl)⟩)
     have H:=Zaa H M;have S:=S.bool (t:=54) rfl M;refine opy S rfl rfl rfl rfl (Z3 S rfl) λf S=>opy S rfl rfl rfl rfl (Z3 S rfl) λf S=>opy S rfl rfl rfl rfl (Zw S rfl rfl Z8g) λf S=>opy S rfl rfl rfl rfl (Z3 S rfl) λf S=>?_;rcases Z7 (B.1==l) with C | C
     ·have H:=Z9 H C;have S:=S.bool (t:=57) rfl C;have S:=S.bool (t:=58) rfl C;refine bO H λaw bM H=>bO H λN ae H=>opy S rfl rfl rfl rfl (Z3 S rfl) λf S=>opy S rfl rfl rfl rfl (Z3 S rfl) λf S=>opy S rfl rfl rfl rfl (Z3 S rfl) λf S=>opy S rfl rfl rfl rfl (Zw S rfl rfl (Ztb bM)) λf S=>?_;have aS:=ZHa d (Zp ae).2.1;obtain⟨cF,aT⟩:∃ c,(List.take (Zd .u64).n (List.drop ((aw).toNat*(Zd .u64).n) cs0))=c:=⟨_,rfl⟩;rw[aT]at aS;obtain⟨rfl,cG⟩:=aS;refine opy S rfl rfl rfl rfl (Zxa S rfl rfl Zha (Zp ae).1 (ltI k (Zp ae).2.2.1)) λf S=>opy S rfl rfl rfl rfl (Zob S rfl ZCb (ZHh S (j:=0) rfl G (Zse d k) aT (ltN k (Zp ae).2.2.2) 0 [.int .u64 N] rfl zl)) λf S=>opy S rfl rfl rfl rfl (Zw S rfl rfl Zip) λf S=>opy S rfl rfl rfl rfl (ZEc S (b:=true) rfl rfl) λf S=>ov S rfl (ZEc S (b:=false) rfl rfl) λf S=>Zx ?_;have S:=S.fr' (σ':=[(0,.slice (some ⟨a,off0,none⟩) (e) h),(1,.slice (some ⟨r,s,none⟩) o p),(5,.int .i64 ((((Zc 18446744073709551616 v)).length:Int))),(6,.int .u64 q),(7,.int .u64 l),(55,.int .u64 (B.1)),(56,.int .u64 l),(57,.bool true),(58,.bool true),(59,.int .u64 (B.2)),(60,.slice (some ⟨a,off0,none⟩) (e) h),(61,.int .i64 ((((Zc 18446744073709551616 v)).length:Int))),(62,.int .i64 aw),(63,.pointer (some ⟨a,off0+(aw).toNat*1,none⟩)),(64,.int .u64 N),(65,.bool (decide (B.2≤N))),(66,.bool (decide (B.2≤N))),(67,.bool (decide (B.2≤N)))]) rfl
      obtain rfl:=Zt H;refine Zh (av _ _ ⟨_,_,rfl,(leR _),(S.fr' rfl)⟩)
     have H:=Zaa H C;have S:=S.bool (t:=57) rfl C;have S:=S.bool (t:=58) rfl C;refine opn S rfl rfl rfl rfl λf S=>opn S rfl rfl rfl rfl λf S=>opn S rfl rfl rfl rfl λf S=>opn S rfl rfl rfl rfl λf S=>opn S rfl rfl rfl rfl λf S=>opn S rfl rfl rfl rfl λf S=>opn S rfl rfl rfl rfl λf S=>opy S rfl rfl rfl rfl (ZEc S (b:=false) rfl rfl) λf S=>ov S rfl (ZEc S (b:=false) rfl rfl) λf S=>Zx ?_;have S:=S.fr' (σ':=[(0,.slice (some ⟨a,off0,none⟩) (e) h),(1,.slice (some ⟨r,s,none⟩) o p),(5,.int .i64 ((((Zc 18446744073709551616 v)).length:Int))),(6,.int .u64 q),(7,.int .u64 l),(55,.int .u64 (B.1)),(56,.int .u64 l),(57,.bool false),(58,.bool false),(59,undef),(60,undef),(61,undef),(62,undef),(63,undef),(64,undef),(65,undef),(66,.bool false),(67,.bool false)]) rfl;obtain rfl:=Zt H;refine Zh (av _ _ ⟨_,_,rfl,(leR _),(S.fr' rfl)⟩)
    rintro f w ⟨ad,au,hq,P,S⟩;subst hq;have H:=bK;have d:=ZR P d;refine Zh (bH _ _ ?_);rcases Z7 (ad) with Q | Q
    ·have H:=Z9 H Q;refine Zoa S rfl Q (wp_exit (ZGb (ZWs rfl ?_)));obtain rfl:=Zt H;have hq:=aR _ rfl;subst hq;have H:=aP;refine ZGb (Zke ?_);obtain rfl:=Zt H;refine Zh (aO _ _ ⟨_,_,rfl,(leT (leT (leT (leR _) L) E) P),(S.fr' rfl),aQ⟩)
    have H:=Zaa H Q;refine Zea S rfl Q (wp_skip (Zh (bG _ _ (sr (mv S rfl λf S=>ov S rfl (Zw S rfl rfl ZIl) λf S=>mw S rfl λf S=>oe (sr (mw S rfl λf S=>oe (Zo λ_ bP=>bO H λcH bQ H=>bO H λbR ax H=>?_))))))));refine bO H λbS aU H=>Zz (mv S rfl λf S=>mv S rfl λf S=>mv S rfl λf S=>ov S rfl (Zw S rfl rfl (Ztb bQ)) λf S=>?_);have g:=ZNa (leT E P) g;obtain⟨cI,bT,bU⟩:=ZUm g (Zp ax).2.1;obtain⟨rfl,cJ⟩:=bU;refine ov S rfl (Zxa S rfl rfl Zha (Zp ax).1 (ltI (ZYa g) (Zp ax).2.2.1)) λf S=>ov S rfl (Zob S rfl ZCb (S.view bT)) λf S=>ov S rfl (Zlc S [.int .u64 l,.int .u64 bR,.int .u64 0] (ZPl Zbs aU) rfl rfl) λf S=>mv S rfl λf S=>ov S rfl (Zka S rfl rfl) λf S=>ov S rfl (Zka S rfl rfl) λf S=>mw S rfl λf S=>mw S rfl λf S=>Zx (Zh (bP _ _ (sr (mv S rfl λf S=>ov S rfl (Zw S rfl rfl ZSg) λf S=>oe ?_))));rcases Z7 (decide ((0:Int)<bS.2)) with R | R
    ·have H:=Z9 H R;refine Zoa S rfl R (wp_exit (ZWs rfl ?_));obtain rfl:=Zt H;have hq:=aR _ rfl;subst hq;have H:=aP;refine ZGb (Zke ?_);obtain rfl:=Zt H;refine Zh (aO _ _ ⟨_,_,rfl,(leT (leT (leT (leR _) L) E) P),(S.fr' rfl),(Zub _ _)⟩)
    have H:=Zaa H R;refine Zea S rfl R (wp_skip (Zkd ?_));obtain rfl:=Zt H;refine bv _ rfl _ _ ⟨_,_,_,rfl,(leT (leT L E) P),(S.fr' rfl),(Zub _ _),(Zkm aU)⟩
   rintro f w ⟨ac,an,hq,aV,S,bV⟩;subst hq;have H:=bs;have d:=ZR aV d;obtain rfl:=Zt H;refine Zh (aH _ _ ⟨_,_,rfl,(leT (leT (leR _) ab) aV),(S.fr' rfl),bV⟩)
  have H:=Zaa H J;refine Zea S rfl J (wp_skip ?_);obtain rfl:=Zt H;refine Zh (aH _ _ ⟨_,_,rfl,(leR _),(S.fr' rfl),(by decide)⟩)
 rintro f w ⟨W,I,hq,aW,S,bW⟩;subst hq;have H:=bb;have d:=ZR aW d;refine Zh (a3 _ _ (Zo λ_ bX=>?_));obtain⟨bY,bZ,b1⟩:=ZG H;refine Zrb (λf w=>∃ af T ay ag,(af,T)=bY∧Zb.le I ag∧St 90 ⟨x,[a]⟩ m [(6,.int .u64 T)] [Loc.box a A (pre0++ay++post0)] ag f w∧Rep.rels (Zd .u64) ag ay af∧e=af.length∧inR .u64 T) (λ_ b2=>?_) ?_
 ·have H:=bZ;refine wp_block ?_;obtain⟨cK,b3,b4⟩:=ZG H;refine Zfe b3 (λb5 f w=>∃ ah D az ai,(ah,D)=b5∧Zb.le I ai∧St 90 ⟨x,[a]⟩ m [(0,.slice (some ⟨a,off0,none⟩) (e) h),(1,.slice (some ⟨r,s,none⟩) o p),(6,.int .u64 D)] [Loc.box a A (pre0++az++post0)] ai f w∧Rep.rels (Zd .u64) ai az ah∧e=ah.length∧inR .u64 D) ⟨_,_,cs0,_,rfl,(leR _),(S.fr' rfl),d,k,bW⟩ ?_;rintro _ f w st ⟨ah,D,az,ai,hq,aA,S,aB,b6,aX⟩ H cL b7 b8;subst hq;refine Zo λ_ b9=>Zo λ_ ca=>bO H λcb cc H=>Zz (mv S rfl λf S=>mv S rfl λf S=>mv S rfl λf S=>?_);have g:=ZNa (leT aW aA) g;refine Zlo S wn rfl zl (ZO S [.slice (some ⟨a,off0,none⟩) (e) h,.slice (some ⟨r,s,none⟩) o p,.int .u64 D] k_en163 rfl rfl) (i:=0) rfl rfl (take_c S.vin (S.boxAt (j:=0) rfl).1 G (S.boxAt (j:=0) rfl).2 b6 a2 aB g (show Rep.rel (Zd .u64) _ [.int .u64 D] D from (ZS aX)) cc) ?_;rintro _ cM f w aC ⟨⟨cO,rfl,cd⟩,ce,aD,cg,aY,aZ⟩ hSf;have aB:=ZR aC aB;have S:=hSf (Loc.box a A (pre0++aD++post0)) rfl cg ce;obtain rfl:=cd;refine ov S rfl (Zhr S rfl) λf S=>Zx (Zh (ca _ _ ?_));rcases Z7 (!(cb.1)) with U | U
  ·have H:=Z9 H U;refine Zoa S rfl U (wp_skip (Zh (b9 _ _ (wp_block (Zz (mv S rfl λf S=>ov S rfl (Zw S rfl rfl ZIl) λf S=>mw S rfl λf S=>Zx (Zkd ?_)))))));obtain rfl:=Zt H;refine b7 _ rfl _ _ ⟨_,_,aD,_,rfl,(leT aA aC),(S.fr' rfl),aZ,aY,(Zub _ _)⟩
  have H:=Zaa H U;refine Zea S rfl U (wp_exit (ZGb ?_));obtain rfl:=Zt H;have hq:=b8 _ rfl;subst hq;have H:=b4;refine ZGb (Zke ?_);obtain rfl:=Zt H;refine Zh (b2 _ _ ⟨_,_,aD,_,rfl,(leT (leT (leR _) aA) aC),(S.fr' rfl),aZ,aY,aX⟩)
 rintro f w ⟨af,T,ay,ag,hq,cP,S,ch,ci,cj⟩;subst hq;have H:=b1;refine Zh (bX _ _ (sr (mv S rfl λf S=>mw S rfl λf S=>oe (wp_ret ?_))));obtain rfl:=Zt H;refine ZDn S (Zvb rfl (ZY S rfl)) ⟨⟨[.int .u64 T],rfl,(ZS cj)⟩,(S.boxAt (j:=0) rfl).2,_,(S.boxAt (j:=0) rfl).1,ci,ch⟩
theorem digit_c {d:World} {b:Zb} (hv:VIn b d) {a off0 c e:Nat} {f:TypeId} {pre0 cs0 post0:List Value} {u:(List Int)} (j:d.heap[a]? = some (.cells (pre0++cs0++post0).toArray f (0,0))) (k:off0=pre0.length) (l:b a=none) (m:c=u.length) (n:c≤e∧e≤maxLen) (g:Rep.rels (Zd .u64) b cs0 u) {h:List Value} {v:Nat} (o:Rep.rel Zu b h v) {z:Int×(List Int)} (hm:Z7f u v=some z) :
  ZPd Tryz.prog 148 #[Value.slice (some ⟨a,off0,none⟩) c e,Zu.val h] d b [a] (λy v' w'=>(∃ i,y=(Zd .u64).val i∧(Zd .u64).rel v' i z.1)∧v' a=none∧∃ cs,w'.heap[a]? = some (.cells (pre0++cs++post0).toArray f (0,0))∧c=z.2.length∧Rep.rels (Zd .u64) v' cs z.2) :=
 digit_w hv j k l m n g o (ZVy (ZZk g) hm)
noncomputable def left_q:FuncId×Con:=(136,⟨[.leaf 0,.int .i64],[.leaf 0],λp=>ZKc p.1 p.2⟩)
theorem left_r:KR left_q:=ZH (C:=cf2 [(42,0)] [Zxe]) (.n (.two (.f (.j [0,1] [] [.s 14 (.dat .bool)] .no)) (.n (.f (.n (.j [] [] [.s 5 (.own 137 (.int .u64))] (.f (.l [1,23,24] [] [.s 5 (.own 137 (.int .u64)),.s 25 (.dat (.int .i64))] 0 [] [] [.s 5 (.own 137 (.int .u64))] .no)))))))) Tryz.func136 [] (λv vals x z ha hz=>.trans (by kernel_rfl) (ZDv hz)) ⟨ZAg,tr⟩
theorem Znk {e:World} {b:Zb} (hv:VIn b e) {c:List Value} {a:Nat} (g:Rep.rel Zu b c a) {d:List Value} {n:Int} (h:Rep.rel (Zd .i64) b d n) {z:Nat} (hm:ZKc a n=some z) :
  Ret Tryz.prog 136 #[Zu.val c,(Zd .i64).val d] e b (λy v'=>∃ f,y=Zu.val f∧Zu.rel v' f z) :=
 (left_r e b [Zu.val c,(Zd .i64).val d] (a,n) z hv ⟨c,_,rfl,g,d,rfl,h⟩ hm).2
theorem lz64_c {c:World} {a:Zb} (hv:VIn a c) {b:List Value} {x:Int} (e:Rep.rel (Zd .u64) a b x) {z:Int} (hm:Zud x=some z) :
  Ret Tryz.prog 138 #[(Zd .u64).val b] c a (λy v'=>∃ d,y=(Zd .i64).val d∧(Zd .i64).rel v' d z) :=
 (Zuo c a [(Zd .u64).val b] (x) z hv ⟨b,rfl,e⟩ hm).2
noncomputable def right_q:FuncId×Con:=(149,⟨[.leaf 0,.int .i64],[.leaf 0],λp=>Zwf p.1 p.2⟩)
theorem right_r:KR right_q:=ZH (C:=cf2 [(42,0)] [Zxe]) (.n (.n (.n (.f (.n (.j [] [] [.s 5 (.own 137 (.int .u64))] (.f (.l [0,1,19] [] [.s 5 (.own 137 (.int .u64)),.s 20 (.dat (.int .i64))] 0 [] [] [.s 5 (.own 137 (.int .u64))] (.f (.n (.n (.f (.f (.n (.n (.n (.j [0,1,19,20] [] [.s 5 (.own 137 (.int .u64))] .no))))))))))))))))) Tryz.func149 [] (λv vals x z ha hz=>by obtain⟨c0,w0,e0,p0,c1,e1,p1⟩:=ha;exact .trans (by kernel_rfl) (Z1u p1.2 hz)) ⟨ZAg,tr⟩
theorem right_c {e:World} {b:Zb} (hv:VIn b e) {c:List Value} {a:Nat} (g:Rep.rel Zu b c a) {d:List Value} {n:Int} (h:Rep.rel (Zd .i64) b d n) {z:Nat} (hm:Zwf a n=some z) :
  Ret Tryz.prog 149 #[Zu.val c,(Zd .i64).val d] e b (λy v'=>∃ f,y=Zu.val f∧Zu.rel v' f z) :=
 (right_r e b [Zu.val c,(Zd .i64).val d] (a,n) z hv ⟨c,_,rfl,g,d,rfl,h⟩ hm).2
theorem ZUn {c:World} {a:Zb} (hv:VIn a c) {b:List Value} {n:Int} (e:Rep.rel (Zd .u64) a b n) {z:Nat} (hm:Zgb n=some z) :
  Ret Tryz.prog 56 #[(Zd .u64).val b] c a (λy v'=>∃ d,y=Zu.val d∧Zu.rel v' d z) :=
 (ZNr c a [(Zd .u64).val b] (n) z hv ⟨b,rfl,e⟩ hm).2
theorem ZZx {w0:World} {F:Zb} (hv:VIn F w0) {c0:List Value} {a:Nat} (m:Rep.rel Zu F c0 a) {c1:List Value} {b:Nat} (g:Rep.rel Zu F c1 b) {z:Nat×Nat} (H:ZUh a b=some z):Ret Tryz.prog 122 #[Zu.val c0,Zu.val c1] w0 F (λy v'=>∃ r0 r1,y = .tuple #[Zu.val r0,Zu.val r1]∧Zu.rel v' r0 z.1∧Zu.rel v' r1 z.2):=by
 obtain⟨R,T,U,rfl⟩:=ZGa m;obtain⟨q4,n5,k6,rfl⟩:=ZGa g;refine ZWb (K:=84) (args:=[.slice R T U,.slice q4 n5 k6]) hv Tryz.func122 rfl rfl zl λf S=>?_;unfold ZUh at H;refine sr (mw S rfl λf S=>mw S rfl λf S=>oe (Zo λ_ bb=>wp_block (Zo λ_ bc=>bO H λbd be H=>Zz (mv S rfl λf S=>mv S rfl λf S=>opc S rfl (ZO S [.slice R T U,.slice q4 n5 k6] ZVp rfl rfl) (cmp_c S.vin m g be) ?_))));rintro _ cW f w aj ⟨cX,rfl,bf⟩ S;obtain⟨rfl,cY⟩:=bf;refine ov S rfl (Zw S rfl rfl ZRd) λf S=>mw S rfl λf S=>Zx (Zh (bc _ _ ?_));rcases Z7 (decide (bd<(0:Int))) with V | V
 ·have H:=Z9 H V;refine Zoa S rfl V (sr (mv S rfl λf S=>mw S rfl λf S=>mw S rfl λf S=>oe (wp_ret (Z3g (Z4b ?_)))));obtain rfl:=Zt H;have m:=ZNa aj m;refine Zta S (Zzc rfl (ZY S rfl) (ZY S rfl)) ⟨[.slice none 0 0],[.slice R T U],rfl,(Zvg _),m⟩
 have H:=Zaa H V;refine Zea S rfl V (sr (mv S rfl λf S=>?_));have g:=ZNa aj g;refine ov S rfl (Zec S (ZYa g) rfl rfl Zha) λf S=>ov S rfl (Zw S rfl rfl Z8g) λf S=>mw S rfl λf S=>oe ?_;rcases Z7 (((((Zc 18446744073709551616 b)).length:Int))==(1:Int)) with W | W
 ·have H:=Z9 H W;refine Zoa S rfl W (Zo λ_ bg=>bO H λau av H=>bO H λaw bh H=>Zz (mv S rfl λf S=>mv S rfl λf S=>?_));obtain⟨_,cZ,c2,c3,rfl,ax,bi⟩:=ZIb g (Zp av).2.1;obtain⟨rfl,bj⟩:=bi;refine ov S rfl (Zxa S rfl rfl Zha (Zp av).1 (ltI (ZYa g) (Zp av).2.2.1)) λf S=>ov S rfl (Zob S rfl ZCb (S.view ax)) λf S=>?_;have m:=ZNa aj m;refine opc S rfl (ZO S [.slice R T U,.int .u64 au] Zkp rfl rfl) (ZIo S.vin m (show Rep.rel (Zd .u64) _ [.int .u64 au] au from (ZS bj)) bh) ?_;rintro _ c4 f w bk ⟨c5,c6,rfl,ak,bm⟩ S;have ax:=Atm bk ax;obtain⟨aS,aT,aU,rfl⟩:=ZGa ak;obtain⟨rfl,bn⟩:=bm;refine mv S rfl λf S=>ov S rfl (Zka S rfl rfl) λf S=>ov S rfl (Zka S rfl rfl) λf S=>mw S rfl λf S=>mw S rfl λf S=>Zx (Zh (bg _ _ (Zo λ_ bo=>bO H λc7 bp H=>Zz (mv S rfl λf S=>mv S rfl λf S=>opc S rfl (ZO S [.int .u64 (aw.2)] Zus rfl rfl) (ZUn S.vin (show Rep.rel (Zd .u64) _ [.int .u64 (aw.2)] aw.2 from (ZS bn)) bp) ?_))));rintro _ c8 f w bq ⟨c9,rfl,aV⟩ S;obtain⟨aW,aX,aY,rfl⟩:=ZGa aV;refine mw S rfl λf S=>mw S rfl λf S=>Zx ?_;have S:=S.fr' (σ':=[(4,.slice aS aT aU),(5,.slice aW aX aY)]) rfl;refine Zh (bo _ _ (wp_ret (Z3g (Z4b ?_))))
  obtain rfl:=Zt H;have ak:=ZNa bq ak;refine Zta S (Zzc rfl (ZY S rfl) (ZY S rfl)) ⟨[.slice aS aT aU],[.slice aW aX aY],rfl,ak,aV⟩
 have H:=Zaa H W;refine Zea S rfl W (wp_skip (Zkd (Zh (bb _ _ (Zo λ_ br=>bO H λda bs H=>bO H λay az H=>bO H λk bt H=>Zz (mv S rfl λf S=>mv S rfl λf S=>ov S rfl (Zec S (ZYa g) rfl rfl Zha) λf S=>ov S rfl (Zw S rfl rfl (Ztb bs)) λf S=>?_))))));obtain⟨_,bu,bv,db,rfl,aA,bw⟩:=ZIb g (Zp az).2.1;obtain⟨rfl,bx⟩:=bw;refine ov S rfl (Zxa S rfl rfl Zha (Zp az).1 (ltI (ZYa g) (Zp az).2.2.1)) λf S=>ov S rfl (Zob S rfl ZCb (S.view aA)) λf S=>opc S rfl (ZO S [.int .u64 ay] k_en138 rfl rfl) (lz64_c S.vin (show Rep.rel (Zd .u64) _ [.int .u64 ay] ay from (ZS bx)) bt) ?_;rintro _ dc f w aB ⟨dd,rfl,bz⟩ S;have aA:=Atm aB aA;obtain⟨rfl,aC⟩:=bz;refine mw S rfl λf S=>Zx (Zh (br _ _ (Zo λ_ bA=>bO H λbB bC H=>Zz (mv S rfl λf S=>mv S rfl λf S=>?_))));have g:=ZNa aB g;refine opc S rfl (ZO S [.slice (some ⟨bu,bv,none⟩) n5 k6,.int .i64 k] ZMi rfl rfl) (Znk S.vin g (show Rep.rel (Zd .i64) _ [.int .i64 k] k from (ZS aC)) bC) ?_;rintro _ bD f w bE ⟨de,rfl,v⟩ S;obtain⟨aD,aE,aF,rfl⟩:=ZGa v;refine mw S rfl λf S=>Zx (Zh (bA _ _ (Zo λ_ bG=>bO H λX bH H=>bO H λdf bI H=>bO H λdg bJ H=>Zz ?_)))
 obtain⟨dh,w,bK,S⟩:=ZJg (P:=Tryz.prog) (t:=42) (e:=137) S (n:=0) (cs:=[]) (vals:=[]) (sz:=1) rfl (by decide) (λ_=>by kernel_rfl);have aG:Rep.rels (Zd .u64) bD [] []:=Zve;refine Z8e wn rfl zl (bK rfl) S λf S=>mv S rfl λf S=>mv S rfl λf S=>?_;have m:=ZNa (leT (leT aj aB) bE) m;refine opc S rfl (ZO S [.slice R T U,.int .i64 k] ZMi rfl rfl) (Znk S.vin m (show Rep.rel (Zd .i64) _ [.int .i64 k] k from (ZS aC)) bH) ?_;rintro _ al f w aZ ⟨di,rfl,aH⟩ S;have aG:=ZR aZ aG;obtain⟨dj,dk,dl,rfl⟩:=ZGa aH;have aI:=S;obtain⟨dn,dp,a0,w,bM,S,bP⟩:=ZDe (ty:=42) (A:=(Zd .u64)) ZFh S (i:=0) (n':=(([]:(List Int))++((Zc 18446744073709551616 X))).length) rfl aH (appN rfl (ZYa aH)) (ZFd bI) (by decide);have bQ:=Zuc aG bP;refine Z8e wn rfl zl (Zvd aI rfl rfl bM) S λf S=>?_;obtain⟨dq,w,bR,S⟩:=ZJg S (n:=1) (cs:=[.int .u64 0]) (vals:=[(0,.int .u64 0)]) (sz:=1) rfl (by decide) (ZSq ZFh (x:=.int .u64 0) (cs:=[.int .u64 0]) rfl rfl (by decide));have aJ:Rep.rels (Zd .u64) al [.int .u64 0] [(0:Int)]:=(ZGs (ZS (by decide)) Zve);refine Z8e wn rfl zl (bR rfl) S λf S=>?_;have aI:=S;obtain⟨aK,aL,w,bS,S⟩:=Z0j (ty:=42) ZFh S (i:=1) (n':=((([]:(List Int))++((Zc 18446744073709551616 X)))++[(0:Int)]).length) rfl (Zse aJ rfl) (Z0m S (j:=0) rfl) (Zfj aJ) (appN rfl rfl) (ZFd bJ) (by decide)
 have bT:=Zuc bQ aJ;refine Z8e wn rfl zl (Zvd aI rfl rfl bS) S λf S=>mw S rfl λf S=>Zx ?_;have S:=S.fr' (σ':=[(8,.int .i64 k),(9,.slice aD aE aF),(10,.slice (mkA aK) (((([]:(List Int))++((Zc 18446744073709551616 X)))++[(0:Int)]).length) aL)]) rfl;refine Zh (bG _ _ (sr (mv S rfl λf S=>?_)));have v:=ZNa aZ v;refine ov S rfl (Zec S (ZYa v) rfl rfl Zha) λf S=>mw S rfl λf S=>oe (Zo λ_ bU=>bO H λq bV H=>bO H λdr am H=>Zz (mv S rfl λf S=>ov S rfl (Zec S rfl rfl rfl Zha) λf S=>mv S rfl λf S=>ov S rfl (Zw S rfl rfl (Ztb bV)) λf S=>?_));obtain⟨aM,a1⟩:∃ c:List Value,c=(List.replicate (q).toNat [.int .u64 0]).flatten:=⟨_,rfl⟩;obtain⟨a2,w,bW,S⟩:=Zfo ZFh S (l:=q) (c:=q) (Z6d am).1 (Z6d am).2.1 (Z6d am).2.2.1 (Z6d am).2.2.2 a1;have bX:Rep.rels (Zd .u64) al aM (List.replicate (q).toNat (0:Int)):=by rw[a1];exact Zbh (show Rep.rel (Zd .u64) _ [.int .u64 0] _ from (ZS (by decide))) _
 refine Z8e wn rfl zl (bW rfl rfl) S λf S=>mw S rfl λf S=>Zx (Zh (bU _ _ (Zo λ_ bY=>Zo λ_ bZ=>bO H λds a3 H=>Zz (mv S rfl λf S=>ov S rfl (Zec S (repN (x:=(0:Int))) rfl rfl Zha) λf S=>ov S rfl (Zw S rfl rfl (Ztb a3)) λf S=>mw S rfl λf S=>Zx (Zh (bZ _ _ ?_))))));obtain⟨b0,b1,b2⟩:=ZG H;refine Zrb (λf w=>∃ G I J B L an Y M Z aN aa,(G,I)=b0∧Zb.le al aa∧St 84 w0 F [(8,.int .i64 k),(10,.slice (mkA J) B L),(12,.slice (mkA Y) M Z)] [Loc.own J 137 1 B L an,Loc.own Y 137 1 M Z aN] aa f w∧Rep.rels (Zd .u64) aa an G∧B=G.length∧Rep.rels (Zd .u64) aa aN I∧M=I.length) (λ_ b3=>?_) ?_
 ·have H:=b1;refine wp_block ?_;obtain⟨dt,b4,b5⟩:=ZG H;have S:=S.reorder (ℓ':=[Loc.own aK 137 1 (((([]:(List Int))++((Zc 18446744073709551616 X)))++[(0:Int)]).length) aL ((([]++a0)++[.int .u64 0])),Loc.own (some a2) 137 1 ((q).toNat) (q).toNat aM]) [2,0] rfl (by decide);refine Zfe b4 (λb6 f w=>∃ ao N d ap C D s aq E ab o ac,(ao,N,d)=b6∧Zb.le al ac∧St 84 w0 F [(8,.int .i64 k),(9,.slice aD aE aF),(10,.slice (mkA ap) C D),(11,.int .i64 ((((Zc 18446744073709551616 bB)).length:Int))),(12,.slice (mkA aq) E ab),(13,.int .i64 d)] [Loc.own ap 137 1 C D s,Loc.own aq 137 1 E ab o] ac f w∧Rep.rels (Zd .u64) ac s ao∧C=ao.length∧Rep.rels (Zd .u64) ac o N∧E=N.length∧inR .i64 d) ⟨_,_,_,aK,((([]:(List Int))++((Zc 18446744073709551616 X)))++[(0:Int)]).length,aL,(([]++a0)++[.int .u64 0]),some a2,(q).toNat,(q).toNat,aM,_,rfl,(leR _),(S.fr' rfl),bT,rfl,bX,(repN (x:=(0:Int))),(Zcb a3).2⟩ ?_;rintro _ f w st ⟨ao,N,d,ap,C,D,s,aq,E,ab,o,ac,hq,aO,S,ad,ae,af,ag,du⟩ H dw b7 b8
  subst hq;refine Zo λ_ b9=>sr (mv S rfl λf S=>ov S rfl (Zw S rfl rfl Zci) λf S=>oe ?_);rcases Z7 (decide ((0:Int)≤d)) with ah | ah
  ·have H:=Z9 H ah;refine Zoa S rfl ah (wp_skip (Zh (b9 _ _ (Zo λ_ ca=>wp_block (bO H λdx cb H=>bO H λO cc H=>bO H λdy h H=>bO H λu cd H=>bO H λdz Q H=>Zz (mv S rfl λf S=>mv S rfl λf S=>mv S rfl λf S=>?_))))));refine mv S rfl λf S=>mv S rfl λf S=>mv S rfl λf S=>ov S rfl (Zw S rfl rfl (ZYc cb)) λf S=>ov S rfl (Zw S rfl rfl (ZYc cc)) λf S=>?_;obtain⟨aP,rfl⟩:=Z5c S (j:=0) rfl (by have:=Zrc h;have:=ae;omega);refine ov S rfl (ZSw S (j:=0) rfl Zha (Zrc h).1 (Zrc h).2.1 (by have:=(Zrc h).2.2.1;have:=ae;omega) rfl rfl rfl) λf S=>mv S rfl λf S=>?_;obtain⟨pre399,post400,ce,cg,ch,ci,cj,ck⟩:=Zxv S (i:=0) (lo:=(d).toNat) (hi:=(O).toNat) rfl (Zrc h).2.2.2.2.2.1 (by have:=(Zrc h).2.2.2.2.2.2;have:=ae;omega);have v:=ZNa aO v;refine Zlo S wn rfl zl (ZO S [.slice (some ⟨aP,(d).toNat*1,none⟩) ((O-d).toNat) (D-(d).toNat),.slice aD aE aF] k_en148 rfl rfl) (i:=0) rfl rfl (digit_c S.vin ce ch cg (Zrc h).2.2.2.2.1 ⟨ZIu (Zrc h).1 (Zrc h).2.1 ci,cj⟩ (Z5y ad rfl (Zrc h).2.2.2.1) v cd) ?_;rintro _ a4 f w aQ ⟨⟨dA,rfl,cl⟩,cm,aR,cn,co,a5⟩ hSf;have ad:=ZR aQ ad
   have af:=ZR aQ af;have a6:((O).toNat-(d).toNat)=u.2.length:=by have:=co;have:=Zrc h;omega
   have S:=hSf (Loc.own (some aP) 137 1 C D (List.take ((d).toNat*1) s++aR++List.drop ((O).toNat*1) s)) rfl (ck _ aR (Zse a5 a6) cn) cm;have cp:=Zpx (p:=(d).toNat) (r:=(O).toNat) (sz:=1) ad a5 rfl;have cq:=Zfz ae (Zrc h).2.2.2.2.2.1 (Zrc h).2.2.2.2.2.2 a6;obtain⟨rfl,cr⟩:=cl;obtain⟨ct,rfl⟩:=Z5c S (j:=1) rfl (posN ag (Zp Q).2.2.2);have a7:=ZHa af (Zp Q).2.1;obtain⟨dB,cu⟩:∃ c,(List.take (Zd .u64).n (List.drop ((d).toNat*(Zd .u64).n) o))=c:=⟨_,rfl⟩;rw[cu]at a7;obtain⟨rfl,dD⟩:=a7;refine ov S rfl (Zxa S rfl rfl Zha (Zp Q).1 (ltI ag (Zp Q).2.2.1)) λf S=>?_;obtain⟨w,cv,S⟩:=Zfd S ZCb (off:=0+(d).toNat*1) (z:=.int .u64 (u.1)) (cs:=[.int .u64 (u.1)]) (Zmd rfl) rfl (i:=1) rfl (Zkh S (j:=1) rfl (ltN ag (Zp Q).2.2.2)) (by first | rfl | simp[plain]);have cw:Rep.rels (Zd .u64) a4 (List.take (0+(d).toNat*1) o++[Value.int IntKind.u64 (u.1)]++List.drop (0+(d).toNat*1+1) o) (N.set (d).toNat u.1):=ZGf af (Zp Q).2.2.2 (show Rep.rel (Zd .u64) a4 [.int .u64 (u.1)] _ from (ZS cr)) rfl rfl;have cx:E=(N.set (d).toNat u.1).length:=setN ag;refine ZTf wn rfl (cv rfl rfl) (Zx (Zkd (Zh (ca _ _ (bO H λdE a8 H=>Zz (mv S rfl λf S=>ov S rfl (Zw S rfl rfl (Ztb a8)) λf S=>mw S rfl λf S=>Zx ?_))))))
   obtain rfl:=Zt H;refine b7 _ rfl _ _ ⟨_,_,_,some aP,C,D,(List.take ((d).toNat*1) s++aR++List.drop ((O).toNat*1) s),some ct,E,ab,(List.take (0+(d).toNat*1) o++[Value.int IntKind.u64 (u.1)]++List.drop (0+(d).toNat*1+1) o),_,rfl,(leT aO aQ),(S.fr' rfl),cp,cq,cw,cx,(Zcb a8).2⟩
  have H:=Zaa H ah;refine Zea S rfl ah (wp_exit (ZGb ?_));obtain rfl:=Zt H;have hq:=b8 _ rfl;subst hq;have H:=b5;refine ZGb (Zke ?_);obtain rfl:=Zt H;refine Zh (b3 _ _ ⟨_,_,ap,C,D,s,aq,E,ab,o,_,rfl,(leT (leR _) aO),(S.fr' rfl),ad,ae,af,ag⟩)
 rintro f w ⟨G,I,J,B,L,an,Y,M,Z,aN,aa,hq,dF,S,ai,cy,cz,cA⟩;subst hq;have H:=b2;refine Zh (bY _ _ (Zo λ_ cB=>bO H λdG cC H=>bO H λdH cD H=>bO H λdI cE H=>Zz (mv S rfl λf S=>?_)));obtain⟨dJ,cF,S,cG⟩:=S.pubSlice (i:=1) (A:=(Zd .u64)) (l:=I) (ℓ':=[Loc.own J 137 1 B L an]) rfl rfl cA cz rfl;have ai:=ZR cF ai;refine opc S rfl (ZO S [.slice (mkA Y) M Z] Z4i rfl rfl) (Zfk S.vin (show Rep.rel (Zs (Zd .u64)) _ [.slice (mkA Y) M Z] I from cG) cC) ?_;rintro _ dK f w cH ⟨dL,rfl,ar⟩ S;have ai:=ZR cH ai;obtain⟨cI,cJ,cK,rfl⟩:=ZGa ar;refine mv S rfl λf S=>?_;obtain⟨dM,cL,S,cM⟩:=S.pubSlice (i:=0) (A:=(Zd .u64)) (l:=G) (ℓ':=[]) rfl rfl cy ai rfl;refine opc S rfl (ZO S [.slice (mkA J) B L] Z4i rfl rfl) (Zfk S.vin (show Rep.rel (Zs (Zd .u64)) _ [.slice (mkA J) B L] G from cM) cD) ?_;rintro _ dN f w cO ⟨dO,rfl,a9⟩ S;obtain⟨cP,cQ,cR,rfl⟩:=ZGa a9;refine mv S rfl λf S=>opc S rfl (ZO S [.slice cP cQ cR,.int .i64 k] k_en149 rfl rfl) (right_c S.vin a9 (show Rep.rel (Zd .i64) _ [.int .i64 k] k from (ZS aC)) cE) ?_;rintro _ dP f w cS ⟨dQ,rfl,ba⟩ S;obtain⟨cT,cU,cV,rfl⟩:=ZGa ba
 refine mw S rfl λf S=>mw S rfl λf S=>Zx (Zh (cB _ _ (wp_ret ?_)));obtain rfl:=Zt H;have ar:=ZNa (leT (leT cL cO) cS) ar;refine Zta S (Zzc rfl (ZY S rfl) (ZY S rfl)) ⟨[.slice cI cJ cK],[.slice cT cU cV],rfl,ar,ba⟩
theorem ZJx {d:World} {c:Zb} (hv:VIn c d) {e:List Value} {a:Nat} (i:Rep.rel Zu c e a) {f:List Value} {b:Nat} (j:Rep.rel Zu c f b) {z:Nat×Nat} (hm:ZId a b=some z) :
  Ret Tryz.prog 122 #[Zu.val e,Zu.val f] d c (λy v'=>∃ g h,y=Value.tuple #[Zu.val g,Zu.val h]∧Zu.rel v' g z.1∧Zu.rel v' h z.2) :=
 ZZx hv i j (ZOx hm)
noncomputable def ZBj:FuncId×Con:=(122,⟨[.leaf 0,.leaf 0],[.leaf 0,.leaf 0],λp=>ZId p.1 p.2⟩)
theorem Z1s:ZBd Tryz.prog ZBj.1 ZBj.2:=λw v vals x z hv ha hz=>by
 obtain⟨c0,w0,e0,p0,c1,e1,p1⟩:=ha;subst e0;subst e1
 exact .inl ⟨λ_ _=>by kernel_rfl,Ret.mono (ZJx hv p0 p1 hz) λy v' _ ⟨r0,r1,e,h0,h1⟩=>⟨_,e,r0,_,rfl,h0,r1,rfl,h1⟩⟩
noncomputable def ZBr:FuncId×Con:=(147,⟨[.leaf 0,.leaf 0],[.int .u64],λp=>Zcg p.1 p.2⟩)
theorem small_k:KQ ZBr:=Zr (ZH (C:=cf2 [(42,0)] []) (.n (.n (.two (.n (.j [1] [] [.s 5 (.dat (.int .u64))] .no)) (.n (.f (.j [] [] [.s 5 (.dat (.int .u64))] (.f (.l [] [] [.s 5 (.dat (.int .u64)),.s 6 (.dat (.int .u64))] 0 [] [] [.s 5 (.dat (.int .u64))] .no)))))))) Tryz.func147 [] (λv vals x z ha hz=>.trans (by kernel_rfl) (Zzx hz)))
noncomputable def gcd_q:FuncId×Con:=(120,⟨[.leaf 0,.leaf 0],[.leaf 0],λp=>gcdF p.1 p.2⟩)
theorem gcd_k:KQ gcd_q:=Zr (ZH (C:=cf2 [(42,0)] [Zgf,ZBj,ZBr]) (.n (.f (.cut ⟨⟨[],[],[]⟩,[(.norm,⟨[],[],[.s 0 (.dat (.leaf 0))]⟩),(.ret,⟨[],[],[.s 1000 (.dat (.leaf 0))]⟩)]⟩ (.f (.cut ⟨⟨[],[],[.s 0 (.dat (.leaf 0)),.s 1 (.dat (.leaf 0))]⟩,[(.ret,⟨[],[],[.s 1000 (.dat (.leaf 0))]⟩),(.exit 0,⟨[],[],[.s 0 (.dat (.leaf 0))]⟩)]⟩ (.f (.n (.f (.f (.f (.j [0,1] [] [.s 17 (.dat .bool)] .no))))))))))) Tryz.func120 [] (λv vals x z ha hz=>.trans (by kernel_rfl) (gcdF_eq hz)) ⟨ZCh,Z1s,small_k,tr⟩)
noncomputable def ZLn:FuncId×Con:=(121,⟨[.leaf 0],[.bool],λp=>ZOf p⟩)
theorem Zcq:KQ ZLn:=Zr (ZSi (C:=cf2 [] []) (.n (.f (.j [] [] [.s 2 (.dat .bool)] .no))) Tryz.func121 [] [.slice (.int .u64)] [.bool] (λx=>((Zc 18446744073709551616 x))) (λz=>z) (λv vals x z ha hz=>.trans (by kernel_rfl) (Zzu.trans hz)))
noncomputable def ZQf:FuncId×Con:=(89,⟨[.leaf 2,.leaf 0],[.leaf 3],λp=>ZQb p.1 p.2⟩)
theorem ZKq:KR ZQf:=ZH (C:=cf0 [gcd_q,ZLn,ZBj] [] [] []) (.n (.two (.n (.n (.j [2,4] [] [.s 1 (.dat (.leaf 0)),.l (.sl 2) (.box 44 (.dat (.pair .bool (.leaf 0))))] .no))) (.f (.n (.j [2,4] [] [.s 1 (.dat (.leaf 0))] .no))))) Tryz.func89 [] (λv vals x z ha hz=>.trans (by kernel_rfl) (Zfw hz)) ⟨gcd_k,Zcq,Z1s,tr⟩
theorem Z7g:KQ ZQf:=Zr ZKq
noncomputable def Zwj:FuncId×Con:=(97,⟨[.leaf 0],[.leaf 0],λp=>ZIc p⟩)
theorem ZSl:KQ Zwj:=Zr (ZH (C:=cf0 [Zgf] [] [] []) .no Tryz.func97 [] (λv vals x z ha hz=>.trans (by kernel_rfl) (Zav hz)) ⟨ZCh,tr⟩)
noncomputable def ZZd:FuncId×Con:=(90,⟨[.bool,.leaf 0],[.leaf 2],λp=>ZOa p.1 p.2⟩)
theorem ZKo:KR ZZd:=ZH (C:=cf0 [] [] [] []) (.n (.f (.j [4] [] [.l (.sl 4) (.box 44 (.dat (.pair .bool (.leaf 0))))] .no))) Tryz.func90 [] (λv vals x z ha hz=>.trans (by kernel_rfl) (ZUx hz))
theorem ZHf:KQ ZZd:=Zr ZKo
noncomputable def ZWj:FuncId×Con:=(131,⟨[.int .u64,.int .u64,.int .u64],[.int .u64,.int .u64],λp=>ZEb p.1 p.2.1 p.2.2⟩)
theorem Z1n:ZBd Tryz.prog ZWj.1 ZWj.2:=λw v vals x z _ ha hz=>by
 obtain⟨c0,w0,e0,p0,c1,w1,e1,p1,c2,e2,p2⟩:=ha
 subst e0 e1 e2
 obtain⟨rfl,h0⟩:=p0
 obtain⟨rfl,h1⟩:=p1
 obtain⟨rfl,h2⟩:=p2
 have p0:(Zd .u64).rel v [.int .u64 x.1] x.1:=⟨rfl,h0⟩
 have p1:(Zd .u64).rel v [.int .u64 x.2.1] x.2.1:=⟨rfl,h1⟩
 exact .inr ⟨.tuple #[.int .u64 z.1,.int .u64 z.2],λw=>ZPl (show ZPc Tryz.prog 131 add64Entry from ⟨_,Tryz.func131,by kernel_rfl,by kernel_rfl,by kernel_rfl,by kernel_rfl⟩) hz w,_,rfl,_,_,rfl,⟨rfl,Zkm hz⟩,_,rfl,⟨rfl,addW_hi p0.2 p1.2 hz⟩⟩
noncomputable def Z2e:FuncId×Con:=(100,⟨[.leaf 0,.leaf 0],[.leaf 0],λp=>ZDb p.1 p.2⟩)
theorem ZXf:KQ Z2e:=Zr (ZH (C:=cf2 [(42,0)] [Zxe,ZLn,ZDl,ZWj]) (.n (.n (.n (.n (.f (.n (.j [] [] [.s 5 (.own 137 (.int .u64))] (.f (.l [1,26,27] [] [.s 5 (.own 137 (.int .u64)),.s 28 (.dat (.int .i64))] 0 [] [] [.s 5 (.own 137 (.int .u64))] (.f (.n (.n (.f (.f (.n (.n (.f (.n (.j [1,6,26,27,28] [] [.s 5 (.own 137 (.int .u64)),.s 8 (.dat (.int .u64))] (.f (.l [1,6,7,26,27,28,33,34] [] [.s 5 (.own 137 (.int .u64)),.s 8 (.dat (.int .u64)),.s 35 (.dat (.int .i64))] 2 [1,6,26,27,28] [] [.s 5 (.own 137 (.int .u64)),.s 8 (.dat (.int .u64))] .no))))))))))))))))))))) Tryz.func100 [] (λv vals x z ha hz=>.trans (by kernel_rfl) (Zgz hz)) ⟨ZAg,Zcq,mul64_k,Z1n,tr⟩)
noncomputable def Z9k:FuncId×Con:=(98,⟨[.leaf 2,.leaf 0],[.leaf 2],λp=>Zye p.1 p.2⟩)
theorem ZNt:KQ Z9k:=Zr (ZH (C:=cf0 [ZZd,Z2e] [] [] []) .no Tryz.func98 [] (λv vals x z ha hz=>.trans (by kernel_rfl) (ZNy hz)) ⟨ZHf,ZXf,tr⟩)
noncomputable def ZZm:FuncId×Con:=(127,⟨[.leaf 0,.leaf 0],[.leaf 0],λp=>Zyf p.1 p.2⟩)
theorem Zrt:KQ ZZm:=Zr (ZH (C:=cf2 [(42,0)] [ZWj]) (.n (.two (.n (.j [] [] [.s 0 (.dat (.leaf 0)),.s 1 (.dat (.leaf 0))] .no)) (.n (.n (.two (.n (.j [] [] [.s 5 (.own 137 (.int .u64)),.s 6 (.dat (.int .u64))] (.f (.l [1,23,24] [] [.s 5 (.own 137 (.int .u64)),.s 6 (.dat (.int .u64)),.s 25 (.dat (.int .i64))] 0 [] [] [.s 5 (.own 137 (.int .u64)),.s 6 (.dat (.int .u64))] (.f (.n (.n (.f (.f (.n (.n (.f (.n (.j [1,5,6,7,8,23,24,25] [] [.s 9 (.dat (.int .u64))] .no)))))))))))))) (.f (.n (.j [] [] [.s 5 (.own 137 (.int .u64))] .no)))))))) Tryz.func127 [] (λv vals x z ha hz=>.trans (by kernel_rfl) (ZEy hz)) ⟨Z1n,tr⟩)
noncomputable def ZGn:FuncId×Con:=(154,⟨[.int .u64,.int .u64,.int .u64],[.int .u64,.int .u64],λp=>Zed p.1 p.2.1 p.2.2⟩)
theorem sub64_k:ZBd Tryz.prog ZGn.1 ZGn.2:=λw v vals x z _ ha hz=>by
 obtain⟨c0,w0,e0,p0,c1,w1,e1,p1,c2,e2,p2⟩:=ha
 subst e0 e1 e2
 obtain⟨rfl,h0⟩:=p0
 obtain⟨rfl,h1⟩:=p1
 obtain⟨rfl,h2⟩:=p2
 have p0:(Zd .u64).rel v [.int .u64 x.1] x.1:=⟨rfl,h0⟩
 have p1:(Zd .u64).rel v [.int .u64 x.2.1] x.2.1:=⟨rfl,h1⟩
 exact .inr ⟨.tuple #[.int .u64 z.1,.int .u64 z.2],λw=>ZSp (show ZPc Tryz.prog 154 ZEj from ⟨_,Tryz.func154,by kernel_rfl,by kernel_rfl,by kernel_rfl,by kernel_rfl⟩) p0.2 p1.2 hz w,_,rfl,_,_,rfl,⟨rfl,Z3p hz⟩,_,rfl,⟨rfl,Z0s hz⟩⟩
noncomputable def ZSn:FuncId×Con:=(129,⟨[.leaf 0,.leaf 0],[.leaf 0],λp=>ZNg p.1 p.2⟩)
theorem minus_k:KQ ZSn:=Zr (ZH (C:=cf2 [(42,0)] [Zxe,ZGn]) (.n (.n (.n (.f (.n (.j [] [] [.s 5 (.own 137 (.int .u64))] (.f (.l [1,13,14] [] [.s 5 (.own 137 (.int .u64)),.s 6 (.dat (.int .u64)),.s 15 (.dat (.int .i64))] 0 [] [] [.s 5 (.own 137 (.int .u64))] (.f (.n (.n (.f (.f (.n (.n (.f (.n (.j [1,5,6,7,8,13,14,15] [] [.s 9 (.dat (.int .u64))] .no)))))))))))))))))) Tryz.func129 [] (λv vals x z ha hz=>.trans (by kernel_rfl) (ZFx hz)) ⟨ZAg,sub64_k,tr⟩)
noncomputable def Zgt:FuncId×Con:=(99,⟨[.leaf 2,.leaf 2],[.leaf 2],λp=>Zwi p.1 p.2⟩)
theorem iplus_k:KQ Zgt:=Zr (ZH (C:=cf0 [ZZd,ZZm,cmp_q,ZSn] [] [] []) .no Tryz.func99 [] (λv vals x z ha hz=>.trans (by kernel_rfl) (Z8x hz)) ⟨ZHf,Zrt,cmp_k,minus_k,tr⟩)
noncomputable def ZLh:FuncId×Con:=(60,⟨[.leaf 3,.leaf 3],[.leaf 3],λp=>Z4d p.1 p.2⟩)
theorem ZIi:KQ ZLh:=Zr (ZH (C:=cf0 [ZQf,Zwj,Z9k,Zgt,Z2e] [] [] []) .no Tryz.func60 [] (λv vals x z ha hz=>.trans (by kernel_rfl) (Zjv hz)) ⟨Z7g,ZSl,ZNt,iplus_k,ZXf,tr⟩)
noncomputable def ZJq:FuncId×Con:=(137,⟨[.leaf 2],[.leaf 2],λp=>Znh p⟩)
theorem Zbu:KQ ZJq:=Zr (ZH (C:=cf0 [ZZd] [] [] []) .no Tryz.func137 [] (λv vals x z ha hz=>.trans (by kernel_rfl) (Zgv hz)) ⟨ZHf,tr⟩)
noncomputable def ZIr:FuncId×Con:=(103,⟨[.leaf 3],[.leaf 3],λp=>Zih p⟩)
theorem qneg_k:KQ ZIr:=Zr (ZH (C:=cf0 [ZJq] [] [] []) .no Tryz.func103 [] (λv vals x z ha hz=>.trans (by kernel_rfl) (Zlu hz)) ⟨Zbu,tr⟩)
noncomputable def Zrj:FuncId×Con:=(65,⟨[.leaf 3,.leaf 3],[.leaf 3],λp=>ZNe p.1 p.2⟩)
theorem Zcn:KQ Zrj:=Zr (ZH (C:=cf0 [ZLh,ZIr] [] [] []) .no Tryz.func65 [] (λv vals x z ha hz=>.trans (by kernel_rfl) (ZHv hz)) ⟨ZIi,qneg_k,tr⟩)
noncomputable def Zdk:FuncId×Con:=(57,⟨[.leaf 3,.leaf 3],[.int .i64],λp=>Ztf p.1 p.2⟩)
theorem Zql:KQ Zdk:=Zr (ZH (C:=cf0 [ZGg,Zrj] [] [] []) .no Tryz.func57 [] (λv vals x z ha hz=>.trans (by kernel_rfl) (Z6v hz)) ⟨Zfh,Zcn,tr⟩)
noncomputable def ZVr:FuncId×Con:=(32,⟨[.pair (.leaf 3) (.slice (.pair (.leaf 3) (.leaf 3)))],[.int .i64],λp=>Z7o p⟩)
theorem ZKx:KQ ZVr:=Zr (Zfa (C:=cf0 [ZGg,Zdk] [] [] []) (.n (.n (.f (.n (.cut ⟨⟨[],[],[]⟩,[(.norm,⟨[],[],[]⟩),(.ret,⟨[],[],[.s 1000 (.dat (.int .i64))]⟩)]⟩ (.f (.cut ⟨⟨[1,16,17],[],[.s 18 (.dat (.int .i64))]⟩,[(.ret,⟨[],[],[.s 1000 (.dat (.int .i64))]⟩),(.exit 1,⟨[],[],[]⟩)]⟩ (.f (.n (.n (.f (.f (.n (.two (.f (.j [1,3,4,16,17,18] [] [.s 32 (.dat .bool)] .no)) (.f (.j [1,16,17,18] [] [.s 47 (.dat .bool)] .no)))))))))))))))) Tryz.func32 [] (λ_=>by kernel_rfl) ⟨Zfh,Zql,tr⟩)
noncomputable def Zxt:FuncId×Con:=(101,⟨[.leaf 2,.leaf 2],[.leaf 2],λp=>Zji p.1 p.2⟩)
theorem Zsy:KQ Zxt:=Zr (ZH (C:=cf0 [ZZd,Z2e] [] [] []) .no Tryz.func101 [] (λv vals x z ha hz=>.trans (by kernel_rfl) (Zmv hz)) ⟨ZHf,ZXf,tr⟩)
noncomputable def Zem:FuncId×Con:=(61,⟨[.leaf 3,.leaf 3],[.leaf 3],λp=>ZMf p.1 p.2⟩)
theorem ZXq:KQ Zem:=Zr (ZH (C:=cf0 [ZQf,Zwj,Z2e,Zxt] [] [] []) .no Tryz.func61 [] (λv vals x z ha hz=>.trans (by kernel_rfl) (ZQy hz)) ⟨Z7g,ZSl,ZXf,Zsy,tr⟩)
noncomputable def ZXn:FuncId×Con:=(104,⟨[.leaf 3],[.bool],λp=>Zvh p⟩)
theorem qzero_k:KQ ZXn:=Zr (ZH (C:=cf0 [] [] [] []) .no Tryz.func104 [] (λv vals x z ha hz=>.trans (by kernel_rfl) (ZWv hz)))
noncomputable def ZBi:FuncId×Con:=(66,⟨[.leaf 3,.leaf 3],[.leaf 3,.int .i64],λp=>ZBf p.1 p.2⟩)
theorem ZCl:KQ ZBi:=Zr (ZH (C:=cf0 [ZQf,ZZd,Zwj,Z9k,Z2e,ZXn] [] [] []) (.n (.n (.f (.j [2,3,4] [] [.s 6 (.box 44 (.dat (.leaf 2)))] .no)))) Tryz.func66 [] (λv vals x z ha hz=>.trans (by kernel_rfl) (Ziz hz)) ⟨Z7g,ZHf,ZSl,ZNt,ZXf,qzero_k,tr⟩)
noncomputable def Zao:FuncId×Con:=(59,⟨[.leaf 3,.leaf 3],[.leaf 3,.leaf 3],λp=>ZPn p.1 p.2⟩)
theorem runit_k:KQ Zao:=Zr (Zfa (C:=cf0 [Zjj,ZLh,Zem,ZBi] [] [] []) (.n (.n (.n (.f (.j [4,5,6,7] [] [.s 8 (.box 46 (.dat (.leaf 3)))] .no))))) Tryz.func59 [] (λ_=>by kernel_rfl) ⟨Zdl,ZIi,ZXq,ZCl,tr⟩)
noncomputable def Zkq:FuncId×Con:=(34,⟨[.pair (.leaf 3) (.slice (.pair (.leaf 3) (.leaf 3))),.leaf 3],[.leaf 3,.leaf 3],λp=>Zcs p.1 p.2⟩)
theorem Zlx:KQ Zkq:=Zr (Zfa (C:=cf0 [Zao,ZLh,Zem] [] [] []) (.n (.n (.f (.n (.j [4,5,6,7] [] [.l (.sl 6) (.box 46 (.dat (.leaf 3))),.l (.sl 7) (.box 46 (.dat (.leaf 3)))] (.f (.l [3,4,5,6,7,16,17] [] [.l (.sl 6) (.box 46 (.dat (.leaf 3))),.l (.sl 7) (.box 46 (.dat (.leaf 3))),.s 18 (.dat (.int .i64))] 0 [4,5,6,7] [] [.l (.sl 6) (.box 46 (.dat (.leaf 3))),.l (.sl 7) (.box 46 (.dat (.leaf 3)))] .no))))))) Tryz.func34 [] (λ_=>by kernel_rfl) ⟨runit_k,ZIi,ZXq,tr⟩)
noncomputable def Zwr:FuncId×Con:=(13,⟨[.pair (.leaf 3) (.slice (.pair (.leaf 3) (.leaf 3))),.leaf 3],[.leaf 3,.leaf 3,.int .i64],λp=>Zoo p.1 p.2⟩)
theorem ZUv:KQ Zwr:=Zr (Zfa (C:=cf0 [ZVr,ZGg,Zkq] [] [] []) .no Tryz.func13 [] (λ_=>by kernel_rfl) ⟨ZKx,Zfh,Zlx,tr⟩)
theorem of_c {c:World} {a:Zb} (hv:VIn a c) {b:List Value} {n:Int} (e:Rep.rel (Zd .i64) a b n) {z:Int} (hm:ofF n=some z) :
  Ret Tryz.prog 31 #[(Zd .i64).val b] c a (λy v'=>∃ d,y=Zkb.val d∧Zkb.rel v' d z) :=
 (of_r c a [(Zd .i64).val b] (n) z hv ⟨b,rfl,e⟩ hm).2
theorem over_c {e:World} {a:Zb} (hv:VIn a e) {b:List Value} {n:Int} (g:Rep.rel Zkb a b n) {c:List Value} {d:Nat} (h:Rep.rel Zu a c d) {z:Rat} (hm:ZQb n d=some z) :
  Ret Tryz.prog 89 #[Zkb.val b,Zu.val c] e a (λy v'=>∃ f,y=ZUa.val f∧ZUa.rel v' f z) :=
 (ZKq e a [Zkb.val b,Zu.val c] (n,d) z hv ⟨b,_,rfl,g,c,rfl,h⟩ hm).2
end Go.Eng
