/- Lemmas towards the statement: the engine of the walks, the functions' models, laws and walks, part 3. Conditions: as each states. -/
import Derived.Lib.Bytealg
import Derived.Test.YtkfabbhcopajnaaDoorBwB
set_option linter.all false
set_option maxRecDepth 100000
namespace Go.Eng
noncomputable def ZPe (b:(List ((List UInt8)×Int×Int×(List (List (List UInt8)))))×(Option MPd)) (name:List UInt8):Option ((List (List UInt8))×Int) :=
 bnd (ZMc b name) λc =>
 ifb (c.2 != (0:Int))
 (some (([]:List (List UInt8)),c.2))
 (bnd (mk 1 (b.1.length:Int) (b.1.length:Int)) λ_ =>
 bnd (Zde (List.replicate (b.1.length:Int).toNat false) b c.1) λd =>
 bnd (Zl (σ:=Int×(List Bool)) (ρ:=List Bool) (λa =>
 ifb (decide (a.1<(d.1.length:Int)))
 (bnd (idx a.2 a.1) λe =>
 bnd (α:=List Bool)
 (ifb e
 (bnd (Zxd b a.1 c.1) λf =>
 bnd (idx f c.1) λg =>
 bnd (idx a.2 a.1) λl =>
 some (a.2.set a.1.toNat g))
 (bnd (idx a.2 a.1) λm =>
 some (a.2.set a.1.toNat false))) λh =>
 bnd (chk .i64 (a.1+(1:Int))) λi =>
 some (.inl (i,h)))
 (some (.inr a.2)))
   Zu ((0:Int),d.1)) λj =>
 bnd (Zfd b j) λk =>
 some (k,(0:Int)))
noncomputable def Zff (b:(List ((List UInt8)×Int×Int×(List (List (List UInt8)))))×(Option MPd)) (name:List UInt8):Option ((List (List UInt8))×Int) :=
 bnd (ZMc b name) λa =>
 ifb (a.2 != (0:Int))
 (some (([]:List (List UInt8)),a.2))
 (bnd (mk 1 (b.1.length:Int) (b.1.length:Int)) λ_ =>
 bnd (Zde (List.replicate (b.1.length:Int).toNat false) b a.1) λc =>
 bnd (Zfd b c.1) λd =>
 some (d,(0:Int)))
abbrev Itm:=List UInt8×Int×Int×List (List (List UInt8))
structure BK (items:List Itm) (mp:Option MPd):Prop where
 len:items.length≤30
 at_:∀ (i:Nat) (x:Itm),items[i]? = some x→Zh mp x.1=some (i:Int)
 from_:∀ (i:Nat) (x:Itm),items[i]? = some x→∀ c ∈ x.2.2.2,∀ s ∈ c,∃ j:Nat,j<i∧Zh mp s=some (j:Int)
 szs:∀ x ∈ items,x.2.2.2.length≤8∧∀ c ∈ x.2.2.2,c.length≤8
def pos (mp:Option MPd) (s:List UInt8):Nat:=((Zh mp s).getD 0).toNat
def frm (items:List Itm) (i:Nat):List (List (List UInt8)):=match items[i]? with
 | some x=>x.2.2.2
 | none=>[]
def inp (items:List Itm) (mp:Option MPd) (i:Nat):List Nat:=(frm items i).flatten.map (pos mp)
def nmo (items:List Itm) (i:Nat):List UInt8:=match items[i]? with
 | some x=>x.1
 | none=>[]
theorem Back.app {inp:Nat→List Nat} {ks ks':List Nat} {M M1 M2:Nat→Bool} (h:Back inp ks M M1) (h':Back inp ks' M1 M2):Back inp (ks++ks') M M2:=by
 induction h with
 | nil=>exact h'
 | skip h r ih=>exact .skip h (ih h')
 | go h s r ihs ihr=>exact .go h s (ihr h')
section
variable {items:List Itm} {mp:Option MPd}
theorem ZGg {i:Nat} {x:Itm} (h:items[i]? = some x):frm items i=x.2.2.2:=by unfold frm;rw[h]
theorem ZWd {i:Nat} {x:Itm} (h:items[i]? = some x):nmo items i=x.1:=by unfold nmo;rw[h]
theorem BK.pos (hB:BK items mp) {i:Nat} {x:Itm} (h:items[i]? = some x) {c:List (List UInt8)} (hc:c ∈ x.2.2.2) {s:List UInt8} (hs:s ∈ c):(Zh mp s).getD 0=((Go.Eng.pos mp s:Nat):Int)∧Go.Eng.pos mp s<i:=by
 obtain⟨j,hj,e⟩:=hB.from_ i x h c hc s hs;unfold Go.Eng.pos;rw[e];exact⟨rfl,hj⟩
theorem BK.inp_lt (hB:BK items mp) (i c:Nat) (h:c ∈ inp items mp i):c<i:=by
 unfold inp frm at h;obtain⟨s,hs,rfl⟩:=List.mem_map.1 h;obtain⟨ch,hch,hs⟩:=List.mem_flatten.1 hs;split at hch
 ·rename_i x hx;exact (hB.pos hx hch hs).2
 ·cases hch
theorem BK.nm_inj (hB:BK items mp) {i j:Nat} (hi:i<items.length) (hj:j<items.length) (h:nmo items i=nmo items j):i=j:=by
 have h1:=List.getElem?_eq_getElem hi;have h2:=List.getElem?_eq_getElem hj;rw[ZWd h1,ZWd h2]at h;have e1:=hB.at_ i _ h1;have e2:=hB.at_ j _ h2;rw[h,e2]at e1;have:=Option.some.inj e1;omega
theorem Zki (hB:BK items mp):∀ (kf i:Nat) (M:Nat→Bool),i<kf→i<items.length→∃ z,Zcc kf (bx items.length M) (items,mp) (i:Int)=some z∧∃ M',z=(bx items.length M',())∧Back (inp items mp) (inp items mp i) M M'
  | 0,i,M,h,_=>absurd h (Nat.not_lt_zero i)
  | kf+1,i,M,h,hi=>by
    have hlen:=hB.len
    have hx:=List.getElem?_eq_getElem hi
    generalize items[i]=x at hx
    have hfrm:=ZGg hx
    have hsz:=hB.szs x (mG hx)
    unfold Zcc
    refine Ztf (Zwa hx) ?_
    dsimp only
    have outer:=Z3b (body:=λ(s2:Int×List Bool) =>
      ifb (decide (s2.1<(x.2.2.2.length:Int)))
      (bnd (idx x.2.2.2 s2.1) λy3 =>
       bnd (Zl (σ:=Int×(List Bool)) (ρ:=List Bool) (λs4 =>
         ifb (decide (s4.1<(y3.length:Int)))
         (bnd (idx y3 s4.1) λy5 =>
          bnd (idx s4.2 ((Zh mp y5).getD 0)) λy6 =>
          bnd (α:=List Bool)
          (ifb (!y6)
           (bnd (idx s4.2 ((Zh mp y5).getD 0)) λy7 =>
            bnd (Zcc kf (s4.2.set (((Zh mp y5).getD 0).toNat) true) (items,mp) ((Zh mp y5).getD 0)) λy8 =>
            some y8.1)
           (some s4.2)) λx9 =>
          bnd (chk .i64 (s4.1+(1:Int))) λy10 =>
          some (.inl (y10,x9)))
         (some (.inr s4.2)))
        Zu ((0:Int),s2.2)) λx11 =>
       bnd (chk .i64 (s2.1+(1:Int))) λy12 =>
       some (.inl (y12,x11)))
      (some (.inr s2.2))) (s:=((0:Int),bx items.length M)) (λk s=>∃ Mk,s=((k:Int),bx items.length Mk)∧Back (inp items mp) ((x.2.2.2.take k).flatten.map (pos mp)) M Mk)
      (λr=>∃ M',r=bx items.length M'∧Back (inp items mp) (inp items mp i) M M') x.2.2.2.length ⟨M,rfl,.nil⟩ (by omega) (λk s hk ⟨Mk,e,hb⟩=>by
        subst e
        refine .inl ?_
        dsimp only
        rw[dT (by omega),Zq,ZQa hk,Zb]
        have hc:x.2.2.2[k] ∈ x.2.2.2:=List.getElem_mem hk
        have hcl:=hsz.2 _ hc
        have htk:x.2.2.2.take (k+1)=x.2.2.2.take k++[x.2.2.2[k]]:=List.take_succ_eq_append_getElem hk
        generalize x.2.2.2[k]=c at hc hcl htk
        have inner:=Z3b (body:=λ(s4:Int×List Bool) =>
          ifb (decide (s4.1<(c.length:Int)))
          (bnd (idx c s4.1) λy5 =>
           bnd (idx s4.2 ((Zh mp y5).getD 0)) λy6 =>
           bnd (α:=List Bool)
           (ifb (!y6)
            (bnd (idx s4.2 ((Zh mp y5).getD 0)) λy7 =>
             bnd (Zcc kf (s4.2.set (((Zh mp y5).getD 0).toNat) true) (items,mp) ((Zh mp y5).getD 0)) λy8 =>
             some y8.1)
            (some s4.2)) λx9 =>
           bnd (chk .i64 (s4.1+(1:Int))) λy10 =>
           some (.inl (y10,x9)))
          (some (.inr s4.2))) (s:=((0:Int),bx items.length Mk)) (λj s=>∃ Mj,s=((j:Int),bx items.length Mj)∧Back (inp items mp) ((c.take j).map (pos mp)) Mk Mj)
          (λr=>∃ M',r=bx items.length M'∧Back (inp items mp) (c.map (pos mp)) Mk M') c.length ⟨Mk,rfl,.nil⟩ (by omega) (λj s hj ⟨Mj,e,hb2⟩=>by
            subst e
            refine .inl ?_
            dsimp only
            rw[dT (by omega),Zq,ZQa hj,Zb]
            have hs:c[j] ∈ c:=List.getElem_mem hj
            have htj:c.take (j+1)=c.take j++[c[j]]:=List.take_succ_eq_append_getElem hj
            generalize c[j]=s at hs htj
            obtain⟨hp,hlt⟩:=hB.pos hx hc hs
            rw[hp]
            generalize hpp:pos mp s=p at hp hlt
            rw[Zyc Mj (show p<items.length by omega),Zb]
            rw[htj,List.map_append,List.map_cons,List.map_nil,hpp]
            cases hm:Mj p with
            | true =>
              rw[show (!true)=false from rfl,Zi,Zb,ZT (by omega),Zb]
              exact⟨_,rfl,Mj,rfl,hb2.app (.skip hm .nil)⟩
            | false =>
              rw[show (!false)=true from rfl,Zq,Zb]
              obtain⟨z,hz,M',rfl,hb3⟩:=Zki hB kf p (ZJb Mj p) (by omega) (by omega)
              have hset:(bx items.length Mj).set ((p:Int).toNat) true=bx items.length (ZJb Mj p):=by
                rw[Int.toNat_natCast,Zud];rfl
              rw[hset,hz,Zb,Zb,ZT (by omega),Zb];exact⟨_,rfl,M',rfl,hb2.app (.go hm hb3 .nil)⟩) λs ⟨Mj,e,hb2⟩=>by
            subst e
            dsimp only
            rw[dF (by omega),Zi];rw[List.take_length]at hb2;exact⟨_,rfl,Mj,rfl,hb2⟩
        obtain⟨r,hr,M1,rfl,hb1⟩:=inner;rw[hr,Zb,ZT (by omega),Zb];refine⟨_,rfl,M1,rfl,?_⟩;rw[htk,List.flatten_append,List.flatten_singleton,List.map_append];exact hb.app hb1) λs ⟨Mk,e,hb⟩=>by
        subst e
        dsimp only
        rw[dF (by omega),Zi];rw[List.take_length]at hb;refine⟨_,rfl,Mk,rfl,?_⟩;unfold inp;rw[hfrm];exact hb
    obtain⟨r,hr,M1,rfl,hb1⟩:=outer;refine Ztf hr ?_;exact⟨_,rfl,M1,rfl,hb1⟩
end
theorem ZUd {α:Type} {body:Int→Option (Int ⊕ (Unit ⊕ Int))} (l:List α) (q:α→Bool) (hn:l.length<2^62) (h:∀ (i:Nat) (a:α),l[i]? = some a→body (i:Int)=if q a=true then some (.inr (.inr (i:Int))) else some (.inl ((i:Int)+1))) (he:body (l.length:Int)=some (.inr (.inl ()))) :
  ∃ z:Int,bnd (Zl body Zu (0:Int)) (λx=>match x with
   | .inl _=>some (-1:Int)
   | .inr r=>some r)=some z∧decide ((0:Int)≤z)=l.any q:=by
 obtain⟨z,h1,h2⟩:=ZOj (body:=body) (λi=>match l[i]? with
  | some a=>q a
  | none=>false) l.length hn (λi hi=>by
   have:=List.getElem?_eq_getElem hi;rw[h i _ this,this]) he
 refine⟨z,h1,h2.trans ?_⟩;apply Bool.eq_iff_iff.2;rw[List.any_eq_true,List.any_eq_true];constructor
 ·rintro⟨i,hi,hq⟩;have hi:=List.mem_range.1 hi;have:=List.getElem?_eq_getElem hi;rw[this]at hq;exact⟨_,List.getElem_mem hi,hq⟩
 ·rintro⟨a,ha,hq⟩;obtain⟨i,hi⟩:=List.getElem?_of_mem ha;refine⟨i,List.mem_range.2 (List.getElem?_eq_some_iff.1 hi).1,?_⟩;simp only[hi];exact hq
section
variable {items:List Itm} {mp:Option MPd}
def Zea (items:List Itm) (M:Nat→Bool):List (List UInt8):=((List.range items.length).filter M).map (nmo items)
theorem Zjg (M:Nat→Bool):(Zea items M).length≤items.length:=by
 unfold Zea;rw[List.length_map];exact Nat.le_trans (List.length_filter_le _ _) (by simp)
theorem ZCg (hB:BK items mp) {M:Nat→Bool} {k:Nat} (hk:k<items.length):nmo items k ∈ Zea items M↔M k=true:=by
 unfold Zea;constructor
 ·intro h;obtain⟨j,hj,e⟩:=List.mem_map.1 h;obtain⟨h1,h2⟩:=List.mem_filter.1 hj;rw[hB.nm_inj (List.mem_range.1 h1) hk e]at h2;exact h2
 ·intro h;exact List.mem_map.2 ⟨k,List.mem_filter.2 ⟨List.mem_range.2 hk,h⟩,rfl⟩
theorem Zig (hB:BK items mp) (M:Nat→Bool):Zfd (items,mp) (bx items.length M)=some (Zea items M):=by
 have hlen:=hB.len;unfold Zfd;refine ZP (Zoc (λk=>(((List.range k).filter M).map (nmo items),(k:Int))) items.length rfl (by omega) (λk hk=>?_) ?_) rfl
 ·dsimp only
  have hx:=List.getElem?_eq_getElem hk;generalize items[k]=x at hx;rw[Zpd,dT (by omega),Zq,Zyc M hk,Zb,List.range_succ,List.filter_append,List.map_append];have hl:(((List.range k).filter M).map (nmo items)).length≤k:=by
   rw[List.length_map];exact Nat.le_trans (List.length_filter_le _ _) (by simp)
  cases hm:M k with
  | true =>
   rw[Zq,Zwa hx,Zb,ZXc (by rw[lA,List.length_singleton];omega),Zb,Zb,ZT (by omega),Zb];simp[hm,ZWd hx]
  | false =>
   rw[Zi,Zb,ZT (by omega),Zb];simp[hm]
 ·dsimp only
  rw[Zpd,dF (by omega),Zi];rfl
theorem ZGf (hB:BK items mp) {i:Nat} (hi:i<items.length):ZMc (items,mp) (nmo items i)=some ((i:Int),0):=by
 have hx:=List.getElem?_eq_getElem hi;unfold ZMc
 try dsimp only
 rw[ZWd hx,hB.at_ i _ hx];rfl
theorem Znh (hB:BK items mp) {i:Nat} (hi:i<items.length):∃ M,Zde (List.replicate ((items.length:Int)).toNat false) (items,mp) (i:Int)=some (bx items.length M,())∧∀ k,M k=true↔Anc (inp items mp) k i:=by
 have hlen:=hB.len;obtain⟨z,hz,M,rfl,hb⟩:=Zki hB 40 i (λ_=>false) (by omega) hi;refine⟨M,?_,λk=>hb.anc k⟩;unfold Zde;rw[Int.toNat_natCast,Zlf];exact hz
theorem Ztl (hB:BK items mp) {i:Nat} (hi:i<items.length):∃ M,Zff (items,mp) (nmo items i)=some (Zea items M,0)∧∀ k,M k=true↔Anc (inp items mp) k i:=by
 have hlen:=hB.len;obtain⟨M,h1,h2⟩:=Znh hB hi;refine⟨M,?_,h2⟩;unfold Zff;rw[ZGf hB hi,Zb]
 try dsimp only
 rw[show ((0:Int) != 0)=false from rfl,Zi,Zze (by omega) (by omega),Zb,h1,Zb]
 try dsimp only
 rw[Zig hB,Zb]
theorem Zdl (hB:BK items mp) {k i:Nat} (hk:k<items.length) (hi:i<items.length):∃ l,Zxd (items,mp) (k:Int) (i:Int)=some l∧l.length=i+1:=by
  have hlen:=hB.len;unfold Zxd;rw[ZT (by omega),Zb,Zze (by omega) (by omega),Zb,ZT (by omega),Zb]
  · have main:=Z3b (body:=λ(s3:Int×List Bool) =>
      ifb (decide (s3.1≤(i:Int)))
      (bnd (idx items s3.1) λy4 =>
       bnd (α:=Int)
       (bnd (Zl (σ:=Int) (ρ:=Unit ⊕ Int) (λs5 =>
          ifb (decide (s5<(y4.2.2.2.length:Int)))
          (bnd (idx y4.2.2.2 s5) λy6 =>
           bnd (α:=Int)
           (bnd (Zl (σ:=Int) (ρ:=Unit ⊕ Int) (λs7 =>
              ifb (decide (s7<(y6.length:Int)))
              (bnd (idx y6 s7) λy8 =>
               bnd (α:=Bool)
               (ifb (((Zh mp y8).getD 0) != (k:Int))
                (bnd (idx s3.2 ((Zh mp y8).getD 0)) λy9 =>
                 some (!y9))
                (some false)) λx10 =>
               ifb x10
               (some (.inr (.inr s7)))
               (bnd (chk .i64 (s7+(1:Int))) λy11 =>
                some (.inl y11)))
              (some (.inr (.inl ()))))
             Zu (0:Int)) λx12 =>
            match x12 with
            | .inl r13=>(some (-1:Int))
            | .inr r14=>(some r14)) λx15 =>
           ifb (!(decide ((0:Int)≤x15)))
           (some (.inr (.inr s5)))
           (bnd (chk .i64 (s5+(1:Int))) λy16 =>
            some (.inl y16)))
          (some (.inr (.inl ()))))
         Zu (0:Int)) λx17 =>
        match x17 with
        | .inl r18=>(some (-1:Int))
        | .inr r19=>(some r19)) λx20 =>
       bnd (idx s3.2 s3.1) λy21 =>
       bnd (chk .i64 (s3.1+(1:Int))) λy22 =>
       some (.inl (y22,s3.2.set s3.1.toNat (decide ((0:Int)≤x20)))))
      (some (.inr s3.2))) (s:=(((k+1:Nat):Int),List.replicate (((i+1:Nat):Int)).toNat false)) (λt s=>∃ O,s=(((k+1+t:Nat):Int),bx (i+1) O)) (λr=>r.length=i+1) (i-k) ⟨λ_=>false,by rw[Int.toNat_natCast,Zlf]⟩ (by omega) (λt s ht ⟨O,e⟩=>by
        subst e;refine .inl ?_;have hj:k+1+t≤i:=by omega
        obtain⟨j,hjj⟩:∃ j,j=k+1+t:=⟨_,rfl⟩;rw[← hjj]at hj;rw[show (((k+1+t:Nat):Int),bx (i+1) O)=((j:Int),bx (i+1) O) by rw[hjj]];have hx:=List.getElem?_eq_getElem (show j<items.length by omega);generalize items[j]=x at hx;have hsz:=hB.szs x (mG hx)
        try dsimp only
        rw[dT (by omega),Zq,Zwa hx,Zb];obtain⟨z,hz,hd⟩:=ZUd x.2.2.2 (λc=>!(c.any λs=>(pos mp s != k) && !(O (pos mp s)))) (by omega) (body:=λs5 =>
          ifb (decide (s5<(x.2.2.2.length:Int)))
          (bnd (idx x.2.2.2 s5) λy6 =>
           bnd (α:=Int)
           (bnd (Zl (σ:=Int) (ρ:=Unit ⊕ Int) (λs7 =>
              ifb (decide (s7<(y6.length:Int)))
              (bnd (idx y6 s7) λy8 =>
               bnd (α:=Bool)
               (ifb (((Zh mp y8).getD 0) != (k:Int))
                (bnd (idx (bx (i+1) O) ((Zh mp y8).getD 0)) λy9 =>
                 some (!y9))
                (some false)) λx10 =>
               ifb x10
               (some (.inr (.inr s7)))
               (bnd (chk .i64 (s7+(1:Int))) λy11 =>
                some (.inl y11)))
              (some (.inr (.inl ()))))
             Zu (0:Int)) λx12 =>
            match x12 with
            | .inl r13=>(some (-1:Int))
            | .inr r14=>(some r14)) λx15 =>
           ifb (!(decide ((0:Int)≤x15)))
           (some (.inr (.inr s5)))
           (bnd (chk .i64 (s5+(1:Int))) λy16 =>
            some (.inl y16)))
          (some (.inr (.inl ())))) (λa c hc=>by
            have ha:=(List.getElem?_eq_some_iff.1 hc).1;have hcm:=mG hc;have hcl:=hsz.2 c hcm
            try dsimp only
            rw[dT (by omega),Zq,Zwa hc,Zb];obtain⟨z2,hz2,hd2⟩:=ZUd c (λs=>(pos mp s != k) && !(O (pos mp s))) (by omega) (body:=λs7 =>
              ifb (decide (s7<(c.length:Int)))
              (bnd (idx c s7) λy8 =>
               bnd (α:=Bool)
               (ifb (((Zh mp y8).getD 0) != (k:Int))
                (bnd (idx (bx (i+1) O) ((Zh mp y8).getD 0)) λy9 =>
                 some (!y9))
                (some false)) λx10 =>
               ifb x10
               (some (.inr (.inr s7)))
               (bnd (chk .i64 (s7+(1:Int))) λy11 =>
                some (.inl y11)))
              (some (.inr (.inl ())))) (λb s hs=>by
                have hb:=(List.getElem?_eq_some_iff.1 hs).1;obtain⟨hp,hlt⟩:=hB.pos hx hcm (mG hs)
                try dsimp only
                rw[dT (by omega),Zq,Zwa hs,Zb,hp];generalize pos mp s=p at hlt;have hpk:((p:Int) != (k:Int))=(p != k):=by
                  apply Bool.eq_iff_iff.2;simp only[bne_iff_ne,ne_eq];omega
                rw[hpk]
                cases hq:p != k with
                | true =>
                  rw[Zq,Zyc O (by omega),Zb,Zb]
                  cases ho:O p with
                  | true=>rw[show (!true)=false from rfl,Zi,ZXb (by omega) (by omega),Zb];rfl
                  | false=>rw[show (!false)=true from rfl,Zq];rfl
                | false=>rw[Zi,Zb,Zi,ZXb (by omega) (by omega),Zb];rfl) (by
                try dsimp only
                rw[dF (by omega),Zi])
            refine ZP hz2 ?_;rw[hd2]
            cases hq:(c.any λs=>(pos mp s != k) && !(O (pos mp s))) with
            | true=>rw[show (!true)=false from rfl,Zi,ZXb (by omega) (by omega),Zb];rfl
            | false=>rw[show (!false)=true from rfl,Zq];rfl) (by
            try dsimp only
            rw[dF (by omega),Zi])
        refine⟨(((j+1:Nat):Int),(bx (i+1) O).set ((j:Int)).toNat (decide ((0:Int)≤z))),ZP hz (by rw[Zyc O (by omega),Zb,ZT (by omega),Zb]),_,Prod.ext (by show ((j+1:Nat):Int)=_;rw[hjj];rfl) (by rw[Int.toNat_natCast];exact Zud _ _ _ _)⟩) λs ⟨O,e⟩=>by
        subst e
        try dsimp only
        rw[dF (by omega),Zi];exact⟨_,rfl,Zpd _ _⟩
    obtain⟨r,hr,hl⟩:=main;exact Ztf hr ⟨_,rfl,hl⟩
end
noncomputable def Zbh (l:List Int):Option Int :=
 bnd (Zl (σ:=Int×Int) (ρ:=Int) (λa =>
 ifb (decide (a.2<(l.length:Int)))
 (bnd (idx l a.2) λb =>
 bnd (α:=Int)
 (ifb (decide (b<(0:Int)))
 (bnd (chk .i64 (a.1+(1:Int))) λc =>
 some c)
 (some a.1)) λd =>
 bnd (chk .i64 (a.2+(1:Int))) λe =>
 some (.inl (d,e)))
 (some (.inr a.1)))
  Zu ((0:Int),(0:Int))) λf =>
 some f
noncomputable def ZBi (f:Int) (n:Int):Option Int :=
 bnd (Zl (σ:=Int) (ρ:=Int) (λa =>
 bnd (chk .i64 (f*a)) λb =>
 bnd (chk .i64 (b+n)) λc =>
 bnd (rem .i64 c (37:Int)) λd =>
 ifb (d != (0:Int))
 (bnd (chk .i64 (a+(1:Int))) λe =>
 some (.inl e))
 (some (.inr a)))
  Zu (0:Int)) λg =>
 some g
noncomputable def Zzi (l:List Int):Option Int :=
 bnd (Zl (σ:=Int×Int) (ρ:=Int) (λa =>
 ifb (decide (a.2<(l.length:Int)))
 (bnd (idx l a.2) λb =>
 bnd (chk .i64 (a.2+(1:Int))) λc =>
 bnd (chk .i64 (c*(max b (0:Int)))) λd =>
 bnd (chk .i64 (a.1+d)) λe =>
 bnd (chk .i64 (a.2+(1:Int))) λf =>
 some (.inl (e,f)))
 (some (.inr a.1)))
  Zu ((0:Int),(0:Int))) λg =>
 bnd (rem .i64 g (37:Int)) λh =>
 some h
end Go.Eng
namespace Go.Eng
open Go.RowKit
section
variable {P:Program} {N:Nat} {G:V→Value→Prop} {w0:Base} {v0:Za} {U X:Nat→Prop} {f:Fr} {l:Lo} {a:Act} {w:World} {γ:Nat→Gh} {v:Za} {ℓ:List Loc} {n:Nat}
variable {d:Option Nat} {ty:TypeId} {pos:String} {aft:Array Edge} {g:Option (Nat×Bool)}
theorem ZXg {ty:TypeId} {t:T} (hs:St N w0 v0 [] ℓ v a w):∀ k:Nat,∃ es,ZD v ty t (List.replicate k (none,0)) (List.replicate k ([]:List t.den)) es∧St N w0 v0 [] (es++ℓ) v a w
 | 0=>⟨[],rfl,hs⟩
 | k+1=>by
  obtain⟨es,h1,h2⟩:=ZXg hs k
  exact⟨.own none ty t.n 0 0 [] :: es,⟨[],es,rfl,rfl,h1⟩,h2.nilLoc ty t.n⟩
theorem Zzh {α:Type}:∀ k:Nat,Zf (List.replicate k ((none:Option Nat),0)) (List.replicate k ([]:List α))=(List.replicate k [Value.slice none 0 0]).flatten
 | 0=>rfl
 | k+1=>by simp only[List.replicate_succ,Zf,List.flatten_cons,Zzh k];rfl
theorem Zpl {C:Cf} (hr:RelX N G w0 v0 U X f l a w γ v ℓ) (hU:∀ k,U k→X k) (hX:X n) (hn:¬ U n) {t:TypeId} {x y:Operand} {o:Oper} {Post:Unit→Fr→Lo→Prop} (ho:o=⟨d,.makeSlice t x y,ty,pos,aft,g⟩) (hd:∀ k,o.dst=some k→k<N)
  (h:Zc n (Zp C n o) f l Post):Zz C.P N G w0 v0 X o a w Post:=by
 subst ho;simp only[Zp]at h;obtain⟨V1,h1,_,hA⟩:=Zj hr h;obtain⟨V2,h2,_,hB⟩:=Zj hr hA;obtain⟨κ,i,rfl,hC⟩:=Z1 hB;obtain⟨κ',j,rfl,hD⟩:=Z1 hC;clear h hA hB hC;have h:=hD;obtain⟨e1,_⟩:=ZG h1;obtain⟨e2,_⟩:=ZG h2;split at h
 ·rename_i q dd hq;obtain⟨hE,hby⟩:=Zzf hq;obtain⟨_,hmk,h⟩:=h;obtain⟨m0,m1,m2,m3⟩:=mk_some hmk;obtain⟨E,hEE,hp⟩:=hr.lr;have hst:=hr.st.perm hp;obtain⟨σ,hσ,ev1,ev2⟩:=hst.ev2 x y;rw[e1]at ev1;rw[e2]at ev2;obtain⟨b,w',hrun,hst'⟩:=st_make hE hσ m0 m1 m2 m3;have hrun':=hrun (d:=some dd) (ty:=ty) (pos:=pos) (aft:=aft) (g:=g) ev1 ev2;split at h
  ·split at h
   ·rename_i q2 r hq2 hz hs1;have hs1:=eQ hs1;split at h
    ·rename_i s hs;split at h
     ·have hz1:q.z.cells.toList=[.slice none 0 0]:=by
       have h1:=Z9b hz;have h2:=hE.cells;rw[hs1]at h2;have h3:q.z.cells.toList.length=1:=by simpa using h2
       rw[h1]at h3 ⊢;simp at h3;rw[h3]
      obtain⟨es,hR,hst2⟩:=ZXg (ty:=q2.e) (t:=s) hst'.bare i.toNat;have hst3:St N w0 v0 [] (.own (some b) q.e 1 (List.replicate i.toNat ([]:List s.den)).length j.toNat (Zf (List.replicate i.toNat ((none:Option Nat),0)) (List.replicate i.toNat ([]:List s.den))) :: es++E.flatten) v a w':=by
       rw[Zzh,List.length_replicate];rw[hs1,hz1]at hst2;exact hst2.perm List.perm_middle
      have hrun2:=hrun';rw[show (Value.slice (mkA (some b)) i.toNat j.toNat) = .slice (mkA (some b)) (List.replicate i.toNat ([]:List s.den)).length j.toNat by rw[List.length_replicate]]at hrun2;exact ZBe hr hU hX hn hd hEE rfl hR hst3 hrun2 h
     ·exact h.elim
    ·exact h.elim
   ·exact h.elim
  ·split at h
   ·rename_i s hs;split at h
    ·rename_i z r hz hzo hsz;have hsz:=eQ hsz;obtain⟨c1,k1,k2⟩:=Zmi (v:=v) hzo hz;have hl:=Rep.len _ k2;have hc:=hE.cells;have hr0:r=[]:=by
      have:q.z.cells.toList.length=q.sz:=by simpa using hc
      rw[k1,lA,hl,Zn,hsz]at this;exact List.length_eq_zero_iff.1 (by omega)
     rw[hr0,List.append_nil]at k1;have hrel:=ZLj k2 i.toNat;rw[k1]at hst';have hst2:St N w0 v0 [] (.own (some b) q.e s.n (List.replicate i.toNat z).length j.toNat (List.replicate i.toNat c1).flatten :: E.flatten) v a w':=by
      rw[List.length_replicate,← hsz];exact hst'.bare
     have hrun2:=hrun';rw[show (Value.slice (mkA (some b)) i.toNat j.toNat) = .slice (mkA (some b)) (List.replicate i.toNat z).length j.toNat by rw[List.length_replicate]]at hrun2;exact ZJc hr hU hX hn hd hEE rfl hst2 hrel hrun2 h
    ·exact h.elim
   ·exact h.elim
 ·exact h.elim
theorem Zaj {x:V} {cs:List Value} (h:RR v γ l false x cs) (hk:x.ok U):RR v γ l false (Zjc x) cs∧(Zjc x).ok U:=by
 unfold Zjc;split
 ·split
  ·rename_i hc;obtain⟨h1,h2⟩:=Zqg (U:=U) (γ:=γ) (l:=l) hc h;exact⟨h1,h2⟩
  ·exact⟨h,hk⟩
 ·exact⟨h,hk⟩
theorem ZFi:∀ {fs:List Field},Z3d P fs=true→∀ w,∃ L:List (Nat×Nat),(fs.mapM λ(f:Field)=>(do pure (f.offset,← sizeOf f.type):Sem (Nat×Nat))).run P w = .ok L w∧∀ (i:Nat) fd,fs[i]? = some fd→∃ inf,P.info? fd.type=some inf∧L[i]? = some (fd.offset,inf.size)
 | [],_,w=>⟨[],by simp,λi fd h=>by simp at h⟩
 | fd :: fs,h,w=>by
  simp only[Z3d]at h
  split at h
  ·rename_i inf hinf
   obtain⟨L,h1,h2⟩:=ZFi h w
   refine⟨(fd.offset,inf.size) :: L,?_,λi fd' hi=>?_⟩
   ·simp at h1
    simp[List.mapM_cons,ZBd hinf,h1]
   ·cases i with
    | zero=>simp at hi;subst hi;exact⟨inf,hinf,rfl⟩
    | succ i=>simp at hi;simpa using h2 i fd' hi
  ·cases h
theorem ZIi {s:TypeId} {fs:Array Field} (hs:P.underlying s=some (.struct fs)) {places:Nat→Option (Nat×Nat)} (hp:∀ (i:Nat) (fd:Field),fs.toList[i]? = some fd→∃ inf,P.info? fd.type=some inf∧places i=some (fd.offset,inf.size)) :
  ∀ {ps:List (Nat×Operand)} {c z z':V} {cs:List Value} {vals:List Value},RR v γ l true c vals→c.ok U→vals.length=ps.length→RR v γ l false z cs→z.ok U→putF P s z (zipV ps c)=some z' →
  ∃ cs',Instr.fill places cs.toArray ((ps.map (·.1)).zip vals)=some cs'.toArray∧RR v γ l false z' cs'∧z'.ok U∧z'.isAgg=z.isAgg
 | [],c,z,z',cs,vals,hc,hk,hl,hz,hkz,h=>by
  have hv:vals=[]:=List.length_eq_zero_iff.1 hl
  subst hv
  have h:some z=some z':=by
   cases c <;> exact h
  cases h
  exact⟨cs,rfl,hz,hkz,rfl⟩
 | p :: ps,c,z,z',cs,vals,hc,hk,hl,hz,hkz,h=>by
  cases vals with
  | nil=>simp at hl
  | cons y vals =>
   cases c with
   | cons x c =>
    obtain⟨cx,vs,e,h1,h2⟩:=hc
    cases e
    simp only[zipV,putF]at h;split at h
    ·rename_i fd hfd;split at h
     ·rename_i q hq;split at h
      ·rename_i zz hsz hfit hput;have hsz:=eQ hsz;obtain⟨k1,k2,k3,k4⟩:=ZSb FU hput hz h1 hkz hk.1;have hfd':fs.toList[p.1]? = some fd:=by
        unfold fldT at hfd;rw[hs]at hfd;exact hfd
       obtain⟨inf,hinf,hpl⟩:=hp _ _ hfd';have hlen:cx.length=inf.size:=by
        rw[ZZa h1,hsz];unfold szA at hq;rw[hinf]at hq;split at hq
        ·rename_i i d e1 e2;cases e1;cases hq;rfl
        ·cases hq
       obtain⟨hcells,_⟩:=Zkf h1 hfit;obtain⟨cs',q1,q2,q3,q4⟩:=ZIi hs hp (ps:=ps) h2 hk.2 (by simpa using hl) k1 k2 h;refine⟨cs',?_,q2,q3,q4.trans k4⟩;simp only[List.map_cons,List.zip_cons_cons];rw[Zug (cs:=cx) (off:=fd.offset) (by rw[hpl,hlen]) hcells (by simpa using k3)]
       simpa using q1
      ·cases h
     ·cases h
    ·cases h
   | nl=>cases (show (y :: vals)=[] from hc)
   | _=>exact (show False from hc).elim
theorem ZAi {n sz:Nat} {places:Nat→Option (Nat×Nat)} (hp:∀ i,i<n→places i=some (i*sz,sz)) :
  ∀ {ps:List (Nat×Operand)} {c z z':V} {cs:List Value} {vals:List Value},RR v γ l true c vals→c.ok U→vals.length=ps.length→RR v γ l false z cs→z.ok U→putA n sz z (zipV ps c)=some z' →
  ∃ cs',Instr.fill places cs.toArray ((ps.map (·.1)).zip vals)=some cs'.toArray∧RR v γ l false z' cs'∧z'.ok U∧z'.isAgg=z.isAgg
 | [],c,z,z',cs,vals,hc,hk,hl,hz,hkz,h=>by
  have hv:vals=[]:=List.length_eq_zero_iff.1 hl
  subst hv
  have h:some z=some z':=by
   cases c <;> exact h
  cases h
  exact⟨cs,rfl,hz,hkz,rfl⟩
 | p :: ps,c,z,z',cs,vals,hc,hk,hl,hz,hkz,h=>by
  cases vals with
  | nil=>simp at hl
  | cons y vals =>
   cases c with
   | cons x c =>
    obtain⟨cx,vs,e,h1,h2⟩:=hc
    cases e
    simp only[zipV,putA]at h;split at h
    ·rename_i zz hlt hsz hfit hput;have hlt:p.1<n:=lB hlt;have hsz:=eQ hsz;obtain⟨k1,k2,k3,k4⟩:=ZSb FU hput hz h1 hkz hk.1;have hlen:cx.length=sz:=by rw[ZZa h1,hsz]
     obtain⟨hcells,_⟩:=Zkf h1 hfit;obtain⟨cs',q1,q2,q3,q4⟩:=ZAi hp (ps:=ps) h2 hk.2 (by simpa using hl) k1 k2 h;refine⟨cs',?_,q2,q3,q4.trans k4⟩;simp only[List.map_cons,List.zip_cons_cons];rw[Zug (cs:=cx) (off:=p.1*sz) (by rw[hp _ hlt,hlen]) hcells (by simpa using k3)]
     simpa using q1
    ·cases h
   | nl=>cases (show (y :: vals)=[] from hc)
   | _=>exact (show False from hc).elim
theorem Zzm {C:Cf} (hr:RelX N G w0 v0 U X f l a w γ v ℓ) (hU:∀ k,U k→X k) (hX:X n) {t:TypeId} {ps:Array (Nat×Operand)} {o:Oper} {Post:Unit→Fr→Lo→Prop} (ho:o=⟨d,.build t ps,ty,pos,aft,g⟩) (hd:∀ k,o.dst=some k→k<N)
  (h:Zc n (Zp C n o) f l Post):Zz C.P N G w0 v0 X o a w Post:=by
 subst ho;simp only[Zp]at h;split at h
 ·rename_i z fs hz ht;split at h
  ·rename_i hfl hag1 hag2;obtain⟨y,cs,hy,hcells,hzz,hkz,_⟩:=Zwg (v:=v) (γ:=γ) (l:=l) (U:=U) hz;obtain⟨L,hL1,hL2⟩:=ZFi hfl w;have hA:(fs.mapM λ(f:Field)=>(do pure (f.offset,← sizeOf f.type):Sem (Nat×Nat))).run C.P w = .ok L.toArray w:=by
    rw[Array.mapM_eq_mapM_toList];simp at hL1;simp[hL1]
   have hplaces:∀ (i:Nat) (fd:Field),fs.toList[i]? = some fd→∃ inf,C.P.info? fd.type=some inf∧(L.toArray[·]?) i=some (fd.offset,inf.size):=λi fd hi=>by
    obtain⟨inf,h1,h2⟩:=hL2 i fd hi;exact⟨inf,h1,by simpa using h2⟩
   have hev:∀ (vals:List (Nat×Value)) (cs':List Value),ps.toList.map (λp=>(p.1,a.eval p.2))=vals→Instr.fill (L.toArray[·]?) cs.toArray vals=some cs'.toArray→(execOp a.eval ⟨d,.build t ps,ty,pos,aft,g⟩).run C.P w = .ok (.value (.agg cs'.toArray)) w:=by
    intro vals cs' hv hf;obtain⟨σ,hσ,hev⟩:=hr.st.evs (ps.toList.map (·.2));refine Z9i hσ vals ?_ ?_
    ·rw[← hv,List.map_map];refine List.map_congr_left λp hp=>?_;rw[hev p.2 (List.mem_map.2 ⟨p,hp,rfl⟩)];rfl
    ·simp at hA hf;simp[Instr.build,hy w,hcells,run_underlying ht,hA,hf]
   split at h
   ·rename_i hps;refine Zt hr hU (hev [] cs (by rw[hps];rfl) rfl) hd hX ?_ (V.ok.mono hU hkz) h;have:=Zpa hzz (λc e=>by subst e;cases hag2);unfold V.val at this;rw[hag2]at this;exact this
   ·rename_i hps;obtain⟨c,h1,h2,h⟩:=Z8b hr h;split at h
    ·rename_i z' hz';obtain⟨o1,o2⟩:=Zaj hzz hkz;have hvl:=h1;rw[List.map_map]at h1;obtain⟨cs',k1,k2,k3,k4⟩:=ZIi ht hplaces (ps:=ps.toList) h1 h2 (by simp) o1 o2 hz';refine Zt hr hU (hev _ cs' rfl ?_) hd hX ?_ (V.ok.mono hU k3) h
     ·rw[← k1];congr 1;rw[List.zip_map,← List.map_id (ps.toList.zip ps.toList)];simp[List.zip_eq_zipWith,List.zipWith_self,List.map_map]
     ·have:=Zpa k2 (λc e=>by subst e;rw[hag1]at k4;cases k4);unfold V.val at this;rw[k4,hag1]at this;exact this
    ·exact h.elim
  ·exact h.elim
 ·rename_i z m e hz ht;split at h
  ·rename_i inf hinf hag1 hag2;obtain⟨y,cs,hy,hcells,hzz,hkz,_⟩:=Zwg (v:=v) (γ:=γ) (l:=l) (U:=U) hz;obtain⟨c,h1,h2,h⟩:=Z8b hr h;split at h
   ·rename_i z' hz';obtain⟨o1,o2⟩:=Zaj hzz hkz;rw[List.map_map]at h1;obtain⟨cs',k1,k2,k3,k4⟩:=ZAi (places:=λi=>some (i*inf.size,inf.size)) (λi _=>rfl) (ps:=ps.toList) h1 h2 (by simp) o1 o2 hz';obtain⟨σ,hσ,hev⟩:=hr.st.evs (ps.toList.map (·.2));have hk1:Instr.fill (λi=>some (i*inf.size,inf.size)) cs.toArray (ps.toList.map λp=>(p.1,a.eval p.2))=some cs'.toArray:=by
     rw[← k1];congr 1;rw[List.zip_map,← List.map_id (ps.toList.zip ps.toList)];simp[List.zip_eq_zipWith,List.zipWith_self,List.map_map]
    refine Zt hr hU (Z9i hσ (ps.toList.map λp=>(p.1,a.eval p.2)) ?_ (z:=.agg cs'.toArray) ?_) hd hX ?_ (V.ok.mono hU k3) h
    ·rw[List.map_map];refine List.map_congr_left λp hp=>?_;rw[hev p.2 (List.mem_map.2 ⟨p,hp,rfl⟩)];rfl
    ·simp[Instr.build,hy w,hcells,run_underlying ht,ZBd hinf,hk1]
    ·have:=Zpa k2 (λc e=>by subst e;rw[hag1]at k4;cases k4);unfold V.val at this;rw[k4,hag1]at this;exact this
   ·exact h.elim
  ·exact h.elim
 ·exact h.elim
end
end Go.Eng
namespace Go.Eng
open Go.RowKit
def CT.isAgg:CT→Bool
 | .dat t=>t.agg
 | .agg _=>true
 | _=>false
def CT.vl (c:CT) (cs:List Value):Value:=match c.isAgg with
 | true=>.agg cs.toArray
 | false=>cs.headD Go.undef
def CR (v:Za):(c:CT)→Bool→c.den→List Value→List Loc→Prop
 | .dat t,false,x,cs,es=>t.rep.rel v cs x∧es=[]
 | .own ty t,false,(xs:List t.den),cs,es=>∃ ob cap d,cs=[.slice (mkA ob) xs.length cap]∧t.rep.rels v d xs∧es=[.own ob ty t.n xs.length cap d]
 | .mat ty ty2 t,false,(m:List (List t.den)),cs,es=>∃ ob cap rows es2,cs=[.slice (mkA ob) m.length cap]∧ZD v ty2 t rows m es2∧es = .own ob ty 1 m.length cap (Zf rows m) :: es2
 | .nl,_,_,cs,es=>cs=[]∧es=[]
 | .one a,false,x,cs,es=>CR v a false x cs es
 | .one a,true,x,cs,es=>∃ c,cs=[a.vl c]∧CR v a false x c es
 | .cons a b,false,x,cs,es=>∃ c1 c2 e1 e2,cs=c1++c2∧es=e1++e2∧CR v a false x.1 c1 e1∧CR v b false x.2 c2 e2
 | .cons a b,true,x,cs,es=>∃ c1 xs e1 e2,cs=a.vl c1 :: xs∧es=e1++e2∧CR v a false x.1 c1 e1∧CR v b true x.2 xs e2
 | .agg c,false,x,cs,es=>CR v c false x cs es
 | .box ty c,false,x,cs,es=>∃ b c1 e1,cs=[.pointer (some ⟨b,0,none⟩)]∧CR v c false x c1 e1∧c1.all plain=true∧es = .box b ty c1 :: e1
 | .mp,false,(m:Option MPd),cs,es=>∃ g y,cs=[y]∧mpH g m y∧Z6b g m es
 | _,_,_,_,_=>False
def CRL (v:Za):(c:CT)→c.den→Gh→List Loc→Prop
 | .own ty t,(xs:List t.den),g,es=>∃ ob cap d,g = .own ob cap∧t.rep.rels v d xs∧es=[.own ob ty t.n xs.length cap d]
 | .mat ty ty2 t,(m:List (List t.den)),g,es=>∃ ob cap rows es2,g = .mat ob cap rows∧ZD v ty2 t rows m es2∧es = .own ob ty 1 m.length cap (Zf rows m) :: es2
 | .box ty c,z,g,es=>∃ b c1 e1,g = .box b∧CR v c false z c1 e1∧c1.all plain=true∧es = .box b ty c1 :: e1
 | .agg (.mat ty ty2 t),(m:List (List t.den)),g,es=>∃ ob cap rows es2,g = .mat ob cap rows∧ZD v ty2 t rows m es2∧es = .own ob ty 1 m.length cap (Zf rows m) :: es2
 | _,_,_,_=>False
def ZY (v:Za):(ts:List T)→List Value→Zk ts→Prop
 | [],vals,_=>vals=[]
 | [t],vals,x=>∃ cs,vals=[t.rep.val cs]∧t.rep.rel v cs x
 | t :: u :: r,vals,x=>∃ cs vs,vals=t.rep.val cs :: vs∧t.rep.rel v cs x.1∧ZY v (u :: r) vs x.2
def ZWb (v:Za) (ts:List T) (y:Value) (z:Zk ts):Prop:=match ts,z with
 | [t],z=>∃ cs,y=t.rep.val cs∧t.rep.rel v cs z
 | ts,z=>∃ vals:List Value,y = .tuple vals.toArray∧ZY v ts vals z
def Zed (P:Program) (f:FuncId) (c:Con):Prop:=∀ (w:World) (v:Za) (vals:List Value) (x:Zk c.args) (z:Zk c.res),VIn v w→ZY v c.args vals x→c.F x=some z →
 (ZM P f∧Ret P f vals.toArray w v λy v'=>ZWb v' c.res y z) ∨ ∃ y,(∀ w,(callFunc f vals.toArray).run P w = .ok (.value y) w)∧ZWb v c.res y z
def Ztd (P:Program) (f:FuncId) (c:ConO):Prop:=∀ (w:World) (v:Za) (vals:List Value) (x:Zk c.args) (z:List c.t.den),VIn v w→ZY v c.args vals x→c.F x=some z →
 ZM P f∧RetO P f vals.toArray w v (OwnR c.t.rep c.ty c.t.n z w)
def ZMe (P:Program) (f:FuncId) (c:ConI):Prop:=∀ (w:World) (v:Za) (ob:Option Nat) (n cap:Nat) (cs:List Value) (l:List c.t.den) (i:Int) (bv kv:Nat) (c0:Array Value) (x:c.t.den) (z:List c.t.den),VIn v w→(Loc.own ob c.ty c.t.n n cap cs).holds w→(∀ b,ob=some b→v b=none)→c.t.rep.rels v cs l→n=l.length →
 1≤kv→v bv=some (.cells c0 c.ty (0,0))→c.t.rep.rel v (c0.toList.take c.t.n) x→inR .i64 i→c.F l i x=some z →
 ZM P f∧RetL P f #[.slice (mkA ob) n cap,.int .i64 i,.slice (some ⟨bv,0,none⟩) 1 kv] w v ob.toList (OwnI c.t.rep c.ty c.t.n z ob w)
def OwnM (ty ty2:TypeId) (t:T) (m:List (List t.den)) (w:World) (r:Value) (v':Za) (w':World):Prop :=
 ∃ ob cap rows es,r = .slice (mkA ob) m.length cap∧ZD v' ty2 t rows m es∧(∀ x ∈ Loc.own ob ty 1 m.length cap (Zf rows m) :: es,x.holds w'∧∀ b,x.blk=some b→w.heap.size≤b∧v' b=none)∧((Loc.own ob ty 1 m.length cap (Zf rows m) :: es).filterMap Loc.blk).Nodup
def Z2f (P:Program) (f:FuncId) (c:ConM):Prop:=∀ (w:World) (v:Za) (vals:List Value) (x:Zk c.args) (z:List (List c.t.den)),VIn v w→ZY v c.args vals x→c.F x=some z →
 ZM P f∧RetO P f vals.toArray w v (OwnM c.ty c.ty2 c.t z w)
def OwnB (ty:TypeId) (c:CT) (res:List T) (b:Nat) (r:c.den×Zk res) (lent:List Nat) (w:World) (y:Value) (v':Za) (w':World):Prop :=
 ZWb v' res y r.2∧∃ es',CRL v' (.box ty c) r.1 (.box b) es'∧(∀ e ∈ es',e.holds w'∧∀ k,e.blk=some k→(w.heap.size≤k∨k ∈ lent)∧v' k=none)∧(es'.filterMap Loc.blk).Nodup
def Zpc (P:Program) (f:FuncId) (c:ConB):Prop:=∀ (w:World) (v:Za) (b:Nat) (es:List Loc) (vals:List Value) (z:c.c.den) (x:Zk c.args) (r:c.c.den×Zk c.res),VIn v w→CRL v (.box c.ty c.c) z (.box b) es→(∀ e ∈ es,e.holds w∧∀ k,e.blk=some k→v k=none)→(es.filterMap Loc.blk).Nodup→ZY v c.args vals x→c.F z x=some r →
 ZM P f∧RetL P f (Value.pointer (some ⟨b,0,none⟩) :: vals).toArray w v (es.filterMap Loc.blk) (OwnB c.ty c.c c.res b r (es.filterMap Loc.blk) w)
def ZIe (P:Program) (f:FuncId) (c:ConD):Prop:=∀ (w:World) (v:Za) (ob:Option Nat) (n cap:Nat) (cs:List Value) (l:List c.t.den) (i j:Int) (z:List c.t.den),VIn v w→(Loc.own ob c.ty c.t.n n cap cs).holds w→(∀ b,ob=some b→v b=none)→c.t.rep.rels v cs l→n=l.length→inR .i64 i→inR .i64 j→c.F l i j=some z →
 ZM P f∧RetL P f #[.slice (mkA ob) n cap,.int .i64 i,.int .i64 j] w v ob.toList (OwnI c.t.rep c.ty c.t.n z ob w)
def OwnPR (ty:TypeId) (t:T) (res:List T) (z:List t.den×Zk res) (w:World) (y:Value) (v':Za) (w':World):Prop :=
 ∃ r0 rest,y = .tuple (r0 :: rest).toArray∧OwnR t.rep ty t.n z.1 w r0 v' w'∧ZY v' res rest z.2
def Zag (P:Program) (f:FuncId) (c:ConP):Prop:=∀ (w:World) (v:Za) (vals:List Value) (x:Zk c.args) (z:List c.t.den×Zk c.res),VIn v w→ZY v c.args vals x→c.F x=some z →
 ZM P f∧RetO P f vals.toArray w v (OwnPR c.ty c.t c.res z w)
def OwnS (ty:TypeId) (t:T) (res:List T) (ob:Option Nat) (n cap:Nat) (r:List t.den×Zk res) (y:Value) (v':Za) (w':World):Prop :=
 ZWb v' res y r.2∧r.1.length=n∧∃ d,t.rep.rels v' d r.1∧(Loc.own ob ty t.n n cap d).holds w'∧∀ b,ob=some b→v' b=none
def Zac (P:Program) (f:FuncId) (c:ConS):Prop:=∀ (w:World) (v:Za) (ob:Option Nat) (cap:Nat) (d vals:List Value) (z:List c.t.den) (x:Zk c.args) (r:List c.t.den×Zk c.res),VIn v w→(Loc.own ob c.ty c.t.n z.length cap d).holds w→(∀ b,ob=some b→v b=none)→c.t.rep.rels v d z→ZY v c.args vals x→c.F z x=some r →
 ZM P f∧RetL P f (vals++[Value.slice (mkA ob) z.length cap]).toArray w v ([Loc.own ob c.ty c.t.n z.length cap d].filterMap Loc.blk) (OwnS c.ty c.t c.res ob z.length cap r)
structure CfOK (C:Cf):Prop where
 s:∀ f c,Zr C.sls f=some c→Zac C.P f c
 c:∀ f c,Zr C.cons f=some c→Zed C.P f c
 o:∀ f c,Zr C.owns f=some c→Ztd C.P f c
 i:∀ f c,Zr C.ins f=some c→ZMe C.P f c
 m:∀ t s f,lkM C.meths t s=some f→∀ y w,(method (C.P.types.size+Made.depth) t y s).run C.P w = .ok (f,y) w
 q:∀ f c,Zr C.omats f=some c→Z2f C.P f c
 b:∀ f c,Zr C.boxs f=some c→Zpc C.P f c
 d:∀ f c,Zr C.dels f=some c→ZIe C.P f c
 p:∀ f c,Zr C.pows f=some c→Zag C.P f c
section
variable {P:Program} {N:Nat} {G:V→Value→Prop} {w0:Base} {v0:Za} {U X:Nat→Prop} {f:Fr} {l:Lo} {a:Act} {w:World} {γ:Nat→Gh} {v:Za} {ℓ:List Loc} {n:Nat}
variable {d:Option Nat} {ty:TypeId} {pos:String} {aft:Array Edge} {g:Option (Nat×Bool)}
theorem ZNh (hr:RelX N G w0 v0 U X f l a w γ v ℓ) {lo:Option Operand} {k:Option Int→Ev Unit} {Post:Unit→Fr→Lo→Prop} (h:Zc n (optI lo k) f l Post):∃ i,Zc n (k i) f l Post∧((lo=none∧i=none) ∨ ∃ y κ q,lo=some y∧i=some q∧a.eval y = .int κ q):=by
 cases lo with
 | none=>exact⟨none,h,.inl ⟨rfl,rfl⟩⟩
 | some y =>
  obtain⟨V1,h1,_,hA⟩:=Zj hr h;obtain⟨κ,i,rfl,hB⟩:=Z1 hA;exact⟨some i,hB,.inr ⟨y,κ,i,rfl,rfl,(ZG h1).1⟩⟩
theorem ZJe (hr:RelX N G w0 v0 U X f l a w γ v ℓ) (hU:∀ k,U k→X k) (hX:X n) {t:TypeId} {x:Operand} {lo hi:Option Operand} {o:Oper} {p:V} {i j:Option Int} {Post:Unit→Fr→Lo→Prop} (ho:o=⟨d,.slice t x lo hi none,ty,pos,aft,g⟩) (hd:∀ k,o.dst=some k→k<N) (hp:RV v γ l p (a.eval x))
  (hlo:(lo=none∧i=none) ∨ ∃ y κ q,lo=some y∧i=some q∧a.eval y = .int κ q) (hhi:(hi=none∧j=none) ∨ ∃ y κ q,hi=some y∧j=some q∧a.eval y = .int κ q) (h:Zc n (cutE P o t p i j) f l Post):Zz P N G w0 v0 X o a w Post:=by
 obtain⟨σ,hσ,hev⟩:=hr.st.evs (x :: (lo.toList++hi.toList));have hx:=hev x (by simp);have h1:∀ m:Int,(ZOc i 0=m)→(lo=none∧m=0) ∨ ∃ y k,lo=some y∧ev σ y=some (.int k m):=by
  intro m hm;rcases hlo with ⟨e1,e2⟩ | ⟨y,κ,q,e1,e2,e3⟩
  ·subst e2;exact .inl ⟨e1,hm.symm⟩
  ·subst e1 e2;have hm:q=m:=hm;exact .inr ⟨y,κ,rfl,by rw[hev y (by simp),e3,hm]⟩
 have h2:∀ (len:Nat) (m:Int),(ZOc j (len:Int)=m)→(hi=none∧m=len) ∨ ∃ y k,hi=some y∧ev σ y=some (.int k m):=by
  intro len m hm;rcases hhi with ⟨e1,e2⟩ | ⟨y,κ,q,e1,e2,e3⟩
  ·subst e2;exact .inl ⟨e1,hm.symm⟩
  ·subst e1 e2;have hm:q=m:=hm;exact .inr ⟨y,κ,rfl,by rw[hev y (by simp),e3,hm]⟩
 unfold cutE at h;split at h
 ·rename_i s xs;obtain⟨qa,m,c,hy,hR⟩:=Zzg hp;rw[hy]at hx;split at h
  ·rename_i q hq;split at h
   ·rename_i hb;have hb:=eQ hb;have hSl:=ZPf hq;rw[hb,← Zn]at hSl;obtain⟨yy,hyy,h⟩:=h;obtain⟨c0,c1,c2,c3,_⟩:=Zdg hyy;obtain⟨q',cap',hrun,hrel⟩:=ZBk hσ hSl hR c0 c1 c2;rw[← c3]at hrel;subst ho;exact Zt hr hU (hrun hx (h1 _ rfl) (h2 _ _ rfl)) hd hX (x:=.data (.slice s) yy) ⟨[_],hrel,rfl⟩ trivial h
   ·exact h.elim
  ·exact h.elim
 ·obtain⟨e1,e2⟩:=Z6a hp;rw[e1]at hx;split at h
  ·rename_i ht;obtain⟨yy,hyy,h⟩:=h;subst ho;exact Zt hr hU (Z7k hσ hx ht (h1 _ rfl) (h2 _ _ rfl) hyy) hd hX (Zef (ZSk hyy e2)) trivial h
  ·exact h.elim
 ·exact h.elim
theorem Zdc {ρ:Type}:∀ (g:Nat) {t:T} {x:V} {k:t.den→Ev ρ} {l:Lo} {Post:ρ→Fr→Lo→Prop},Zc n (conv g t x k) f l Post→x.isAgg=t.agg
 | 0,_,_,_,_,_,h=>h.elim
 | g+1,t,x,k,l,Post,h=>by
  cases x with
  | data s x =>
   simp only[conv]at h
   split at h
   ·rename_i y hy
    obtain⟨e,_⟩:=Zx hy
    subst e;rfl
   ·split at h
    ·rfl
    ·rfl
    ·rfl
    ·rfl
    ·rfl
    ·split at h
     ·rename_i c hc
      have h1:=Zdc g (x:=.agg c) h
      have h2:s.agg=true:=by
       unfold ZKb at hc;split at hc <;> first | rfl | cases hc
      exact h2.trans h1
     ·exact h.elim
  | nilS =>
   simp only[conv]at h;split at h <;> first | rfl | exact h.elim
  | own u =>
   simp only[conv]at h;obtain⟨e,he,h⟩:=h;obtain⟨kk,st,L⟩:=e
   cases L with
   | box _ _=>exact h.elim
   | mid _ _ _ _ _ _=>exact h.elim
   | mp _ =>
    simp only at h;split at h <;> first | rfl | exact h.elim
   | own ty s xs fz =>
    cases fz with
    | true=>exact Zdc g (x:=.data (.slice s) xs) h
    | false=>exact Zdc g (x:=.data (.slice s) xs) h
   | mat ty _ s m _=>exact Zdc g (x:=.data (.slice (.slice s)) m) h
  | agg c =>
   cases c with
   | cons x1 c =>
    cases c with
    | cons x2 r=>simp only[conv]at h;split at h <;> first | rfl | exact h.elim
    | nl=>simp only[conv]at h;split at h <;> first | rfl | exact h.elim
    | _=>simp only[conv]at h;exact h.elim
   | _=>simp only[conv]at h;exact h.elim
  | ptr u o =>
   cases o with
   | succ _=>simp only[conv]at h;exact h.elim
   | zero=>simp only[conv]at h;split at h <;> first | rfl | exact h.elim
  | _=>simp only[conv]at h;exact h.elim
theorem Zlh {x:V} {t:T} {cs:List Value} (h:x.isAgg=t.agg):x.val cs=t.rep.val cs:=by
 unfold V.val Rep.val;rw[h,Zfh]
 cases t.agg <;> rfl
theorem ZYd {v v':Za} (h:v.le v'):∀ {ts:List T} {vals:List Value} {x:Zk ts},ZY v ts vals x→ZY v' ts vals x
 | [],_,_,k=>k
 | [_],_,_,⟨cs,h1,h2⟩=>⟨cs,h1,Rep.mono _ h h2⟩
 | _ :: _ :: _,_,_,⟨cs,vs,h1,h2,h3⟩=>⟨cs,vs,h1,Rep.mono _ h h2,ZYd h h3⟩
theorem Zmb {ρ:Type} (hn:¬ U n) (hX:X n):∀ {ts:List T} {c:V} {k:Zk ts→Ev ρ} {l:Lo} {γ:Nat→Gh} {v:Za} {ℓ:List Loc} {Post:ρ→Fr→Lo→Prop},Zc n (ZVa ts c k) f l Post→RelX N G w0 v0 U X f l a w γ v ℓ→c.ok U →
  ∃ x l' γ' v' ℓ',Zc n (k x) f l' Post∧RelX N G w0 v0 U X f l' a w γ' v' ℓ'∧Le U v γ l v' γ' l'∧∀ vals,RR v γ l true c vals→ZY v' ts vals x
 | [],c,k,l,γ,v,ℓ,Post,h,hr,hk=>by
  obtain⟨E,hE,_⟩:=hr.lr
  cases c with
  | nl=>exact⟨(),l,γ,v,ℓ,h,hr,Le.refl hE (Za.le_refl _),λvals hv=>hv⟩
  | _=>exact h.elim
 | [t],c,k,l,γ,v,ℓ,Post,h,hr,hk=>by
  cases c with
  | cons x c =>
   cases c with
   | nl =>
    have hag:=Zdc FU (n:=n) (f:=f) (l:=l) (t:=t) (x:=x) h
    obtain⟨y,l1,γ1,v1,ℓ1,h,r1,le1,q1⟩:=Z3a hn hX FU h hr hk.1
    refine⟨y,l1,γ1,v1,ℓ1,h,r1,le1,λvals hv=>?_⟩
    obtain⟨cs,vs,rfl,h1,h2⟩:=hv
    have h2:vs=[]:=h2
    subst h2
    exact⟨cs,by rw[Zlh hag],q1 _ h1⟩
   | _=>exact h.elim
  | _=>exact h.elim
 | t :: u :: r,c,k,l,γ,v,ℓ,Post,h,hr,hk=>by
  cases c with
  | cons x c =>
   have h':Zc n (conv FU t x λx=>ZVa (u :: r) c λy=>k (x,y)) f l Post:=by
    cases c <;> exact h
   have hag:=Zdc FU (n:=n) (f:=f) (l:=l) (t:=t) (x:=x) h';obtain⟨y,l1,γ1,v1,ℓ1,h1,r1,le1,q1⟩:=Z3a hn hX FU h' hr hk.1;obtain⟨ys,l2,γ2,v2,ℓ2,h2,r2,le2,q2⟩:=Zmb hn hX h1 r1 hk.2;refine⟨(y,ys),l2,γ2,v2,ℓ2,h2,r2,le1.trans le2,λvals hv=>?_⟩;obtain⟨cs,vs,rfl,h3,h4⟩:=hv;exact⟨cs,vs,by rw[Zlh hag],Rep.mono _ le2.v (q1 _ h3),q2 _ (Z7 le1 hk.2 h4)⟩
  | _=>exact h.elim
theorem Zeg {v:Za}:∀ {ts:List T} {vals:List Value} {x:Zk ts},ZY v ts vals x→RR v γ l true (ZLa ts x) vals∧(ZLa ts x).ok U
 | [],_,_,h=>⟨h,trivial⟩
 | [t],_,x,⟨cs,h1,h2⟩=>⟨⟨cs,[],by rw[h1];exact congrArg (λz=>[z]) (Zdd (t:=t) (x:=x) (cs:=cs)).symm,h2,rfl⟩,trivial,trivial⟩
 | t :: u :: r,_,x,⟨cs,vs,h1,h2,h3⟩=>by
  obtain⟨k1,k2⟩:=Zeg h3
  exact⟨⟨cs,vs,by rw[h1];exact congrArg (· :: vs) (Zdd (t:=t) (x:=x.1) (cs:=cs)).symm,h2,k1⟩,trivial,k2⟩
theorem Z7d {v:Za} {ts:List T} {y:Value} {z:Zk ts} (h:ZWb v ts y z):RV v γ l (ZTa (ZLa ts z)) y∧(ZTa (ZLa ts z)).ok U:=by
 match ts,z,h with
 | [],z,⟨vals,h1,h2⟩=>exact⟨⟨vals,h2,h1⟩,trivial⟩
 | [t],z,⟨cs,h1,h2⟩=>exact⟨⟨cs,h2,by rw[h1];exact (Zdd (t:=t) (x:=z) (cs:=cs)).symm⟩,trivial⟩
 | t :: u :: r,z,⟨vals,h1,h2⟩ =>
  obtain⟨k1,k2⟩:=Zeg (γ:=γ) (l:=l) (U:=U) h2
  cases r <;> exact⟨⟨vals,k1,h1⟩,k2⟩
theorem Zgj {σ:List (Nat×Value)} (hS:St N w0 v0 σ ℓ v a w) {x:Operand} {m:String} {f:FuncId} {xs:Array Operand} {ats:Array TypeId} {t:TypeId} {y:Value} (vals:List Value) (hm:∀ w,(method (P.types.size+Made.depth) t y m).run P w = .ok (f,y) w) (e:ev σ x=some (.iface t y))
  (h:xs.toList.map (ev σ)=vals.map some) {r:Go.Next} (hf:(callFunc f (y :: vals).toArray).run P w = .ok r w):(execOp a.eval ⟨d,.call ⟨.invoke x m,xs,ats⟩,ty,pos,aft,g⟩).run P w = .ok r w:=by
 have hx:xs.map a.eval=vals.toArray:=by
  apply Array.ext';rw[Array.toList_map];generalize xs.toList=l at h;clear hf
  induction l generalizing vals with
  | nil=>cases vals <;> simp_all
  | cons y l ih =>
   cases vals with
   | nil=>simp at h
   | cons u vals =>
    simp at h;simp[hS.eval h.1,ih vals h.2]
 simp[execOp,resolve,invoke,callMethod,hx,hS.eval e,hm,hf]
theorem Zyf (hr:RelX N G w0 v0 U X f l a w γ v ℓ) (hU:∀ k,U k→X k) (hX:X n) (hn:¬ U n) {e:TypeId} {s:T} {xs:List s.den} {o:Oper} {ob:Option Nat} {cap:Nat} {cs:List Value} {Post:Unit→Fr→Lo→Prop} (hd:∀ k,o.dst=some k→k<N)
  (hst:St N w0 v0 [] (.own ob e s.n xs.length cap cs :: ℓ) v a w) (hc:s.rep.rels v cs xs) (h:Zc n (Ev.new n (.own e s xs false) (ret o (.own n))) f l Post):∃ f' l',Post () f' l'∧Rel N G w0 v0 X f' l' (a.put o.dst (.slice (mkA ob) xs.length cap)) w:=by
 obtain⟨hnew,h⟩:=h;obtain⟨E,hE,hpm⟩:=hr.lr;have hr':=hr.new (γ':=Z4 γ n (.own ob cap)) (L':=.own e s xs false) hX hX hn hnew hE (hst.perm (List.Perm.cons _ hpm)) (Za.le_refl _) (λ_ h=>Zba h) ⟨ob,cap,cs,ZN,hc,rfl⟩ (List.Perm.refl _) trivial;unfold ret at h
 cases hdd:o.dst with
 | none=>rw[hdd]at h;exact h.elim
 | some d =>
  rw[hdd]at h;refine⟨_,_,h,_,_,_,(hr'.mono hU λ_ h=>h).put (hd d hdd) (x:=.own n) ⟨[_],⟨_,rfl,by cases ob <;> rfl,λe' he'=>?_⟩,rfl⟩ hX hX⟩;rw[Zm,iP rfl]at he';cases he';exact⟨_,_,ZN,rfl⟩
theorem ZEk (hr:RelX N G w0 v0 U X f l a w γ v ℓ) (hU:∀ k,U k→X k) (hX:X n) (hn:¬ U n) {e:TypeId} {s:T} {xs:List s.den} {res:List T} {z2:Zk res} {rest:List Value} {o:Oper} {ob:Option Nat} {cap:Nat} {cs:List Value} {Post:Unit→Fr→Lo→Prop} (hd:∀ k,o.dst=some k→k<N)
  (hst:St N w0 v0 [] (.own ob e s.n xs.length cap cs :: ℓ) v a w) (hc:s.rep.rels v cs xs) (hrest:ZY v res rest z2) (h:Zc n (Ev.new n (.own e s xs false) (ret o (.tup (.cons (.own n) (ZLa res z2))))) f l Post):∃ f' l',Post () f' l'∧Rel N G w0 v0 X f' l' (a.put o.dst (.tuple (.slice (mkA ob) xs.length cap :: rest).toArray)) w:=by
 obtain⟨hnew,h⟩:=h;obtain⟨E,hE,hpm⟩:=hr.lr;have hr':=hr.new (γ':=Z4 γ n (.own ob cap)) (L':=.own e s xs false) hX hX hn hnew hE (hst.perm (List.Perm.cons _ hpm)) (Za.le_refl _) (λ_ h=>Zba h) ⟨ob,cap,cs,ZN,hc,rfl⟩ (List.Perm.refl _) trivial;unfold ret at h
 cases hdd:o.dst with
 | none=>rw[hdd]at h;exact h.elim
 | some d =>
  rw[hdd]at h;obtain⟨k1,k2⟩:=Zeg (γ:=Z4 γ n (.own ob cap)) (l:=⟨n,n,LV.own e s xs false⟩ :: l) (U:=X) hrest;refine⟨_,_,h,_,_,_,(hr'.mono hU λ_ h=>h).put (hd d hdd) (x:=.tup (.cons (.own n) (ZLa res z2))) ⟨_ :: rest,⟨[_],rest,rfl,⟨_,rfl,by cases ob <;> rfl,λe' he'=>?_⟩,k1⟩,rfl⟩ ⟨hX,k2⟩ hX⟩;rw[Zm,iP rfl]at he';cases he';exact⟨_,_,ZN,rfl⟩
theorem St.addL {K:Nat} {w0:Base} {v0:Za} {σ:List (Nat×Value)} {ℓ es:List Loc} {v:Za} {a:Act} {w:World} {s:Nat} (h:St K w0 v0 σ ℓ v a w) (hs:w0.wd.heap.size≤s) (hnew:∀ x ∈ es,x.holds w∧∀ b,x.blk=some b→s≤b∧v b=none) (hnd:(es.filterMap Loc.blk).Nodup) (hold:∀ x ∈ ℓ,∀ b,x.blk=some b→b<s):St K w0 v0 σ (es++ℓ) v a w:=by
 refine⟨h.size,h.dfr,h.fr,h.ext,h.vst,λx hx=>?_,?_⟩
 ·rcases List.mem_append.1 hx with hx | hx
  ·exact⟨(hnew x hx).1,λb eb=>⟨.inl (Nat.le_trans hs ((hnew x hx).2 b eb).1),((hnew x hx).2 b eb).2⟩⟩
  ·exact h.loc x hx
 ·rw[List.filterMap_append];refine List.nodup_append.2 ⟨hnd,h.nd,λb hb b' hb' e=>?_⟩;subst e;obtain⟨x,hx,hxb⟩:=List.mem_filterMap.1 hb;obtain⟨y,hy,hyb⟩:=List.mem_filterMap.1 hb';have h1:=((hnew x hx).2 b hxb).1;have h2:=hold y hy b hyb;omega
theorem put_mat (hr:RelX N G w0 v0 U X f l a w γ v ℓ) (hU:∀ k,U k→X k) (hX:X n) (hn:¬ U n) {ty ty2:TypeId} {t:T} {m:List (List t.den)} {o:Oper} {ob:Option Nat} {cap:Nat} {rows:List (Option Nat×Nat)} {es:List Loc} {Post:Unit→Fr→Lo→Prop} (hd:∀ k,o.dst=some k→k<N)
  (hst:St N w0 v0 [] ((.own ob ty 1 m.length cap (Zf rows m) :: es)++ℓ) v a w) (hc:ZD v ty2 t rows m es) (h:Zc n (Ev.new n (.mat ty ty2 t m n) (ret o (.own n))) f l Post):∃ f' l',Post () f' l'∧Rel N G w0 v0 X f' l' (a.put o.dst (.slice (mkA ob) m.length cap)) w:=by
 obtain⟨hnew,h⟩:=h;obtain⟨E,hE,hpm⟩:=hr.lr;have hr':=hr.new (γ':=Z4 γ n (.mat ob cap rows)) (L':=.mat ty ty2 t m n) (es':=.own ob ty 1 m.length cap (Zf rows m) :: es) hX hX hn hnew hE (hst.perm (List.Perm.append_left _ hpm)) (Za.le_refl _) (λ_ h=>Zba h) ⟨ob,cap,rows,es,ZN,hc,rfl⟩ (List.Perm.refl _) hX;unfold ret at h
 cases hdd:o.dst with
 | none=>rw[hdd]at h;exact h.elim
 | some d =>
  rw[hdd]at h;refine⟨_,_,h,_,_,_,(hr'.mono hU λ_ h=>h).put (hd d hdd) (x:=.own n) ⟨[_],⟨_,rfl,by cases ob <;> rfl,λe' he'=>?_⟩,rfl⟩ hX hX⟩;rw[Zm,iP rfl]at he';cases he';exact⟨_,_,_,ZN,rfl⟩
theorem ZNj {c:ConI} {fid:FuncId} (hI:ZMe P fid c) (hr:RelX N G w0 v0 U X f l a w γ v ℓ) (hU:∀ k,U k→X k) (hX:X n) (hn:¬ U n) {o:Oper} {Post:Unit→Fr→Lo→Prop} (hd:∀ k,o.dst=some k→k<N) {ob:Option Nat} {cap:Nat} {cs:List Value} {xs:List c.t.den} {i:Int} {bv kv:Nat} {c0:Array Value} {x:c.t.den} {z:List c.t.den}
  (hst:St N w0 v0 [] (.own ob c.ty c.t.n xs.length cap cs :: ℓ) v a w) (hA:c.t.rep.rels v cs xs) (hkv:1≤kv) (hbv:v bv=some (.cells c0 c.ty (0,0))) (hx:c.t.rep.rel v (c0.toList.take c.t.n) x) (hi:inR .i64 i) (hz:c.F xs i x=some z)
  (hent:ZM P fid→(execOp a.eval o).run P w = .ok (.enter fid #[.slice (mkA ob) xs.length cap,.int .i64 i,.slice (some ⟨bv,0,none⟩) 1 kv]) w) (h:Zc n (Ev.new n (.own c.ty c.t z false) (ret o (.own n))) f l Post):Zz P N G w0 v0 X o a w Post:=by
 obtain⟨hh,hb⟩:=hst.loc _ List.mem_cons_self;obtain⟨hen,hret⟩:=hI w v ob xs.length cap cs xs i bv kv c0 x z hst.vin hh (λb e=>(hb b e).2) hA rfl hkv hbv hx hi hz;refine ZDc (hent hen) (Calls.mono hret λe w' ⟨r,v',e1,e2,e3,e4⟩=>⟨r,e1,?_⟩);obtain⟨ob',n',cap',cs',rfl,hh',hb',hA',hn'⟩:=e4;subst hn';have hS:=hst.afterI (i:=0) (e':=.own ob' c.ty c.t.n z.length cap' cs') rfl e2 e3 hh' λb hb=>by
  obtain⟨q1,q2⟩:=hb' b hb;exact⟨q1,q2⟩
 have hS:St N w0 v0 [] (.own ob' c.ty c.t.n z.length cap' cs' :: ℓ) v' a w':=hS;exact Zyf (hr.go e3.le (hS.drop (List.sublist_cons_self _ _))) hU hX hn hd hS hA' h
theorem Z7j {c:ConD} {fid:FuncId} (hI:ZIe P fid c) (hr:RelX N G w0 v0 U X f l a w γ v ℓ) (hU:∀ k,U k→X k) (hX:X n) (hn:¬ U n) {o:Oper} {Post:Unit→Fr→Lo→Prop} (hd:∀ k,o.dst=some k→k<N) {ob:Option Nat} {cap:Nat} {cs:List Value} {xs:List c.t.den} {i j:Int} {z:List c.t.den}
  (hst:St N w0 v0 [] (.own ob c.ty c.t.n xs.length cap cs :: ℓ) v a w) (hA:c.t.rep.rels v cs xs) (hi:inR .i64 i) (hj:inR .i64 j) (hz:c.F xs i j=some z)
  (hent:ZM P fid→(execOp a.eval o).run P w = .ok (.enter fid #[.slice (mkA ob) xs.length cap,.int .i64 i,.int .i64 j]) w) (h:Zc n (Ev.new n (.own c.ty c.t z false) (ret o (.own n))) f l Post):Zz P N G w0 v0 X o a w Post:=by
 obtain⟨hh,hb⟩:=hst.loc _ List.mem_cons_self;obtain⟨hen,hret⟩:=hI w v ob xs.length cap cs xs i j z hst.vin hh (λb e=>(hb b e).2) hA rfl hi hj hz;refine ZDc (hent hen) (Calls.mono hret λe w' ⟨r,v',e1,e2,e3,e4⟩=>⟨r,e1,?_⟩);obtain⟨ob',n',cap',cs',rfl,hh',hb',hA',hn'⟩:=e4;subst hn';have hS:=hst.afterI (i:=0) (e':=.own ob' c.ty c.t.n z.length cap' cs') rfl e2 e3 hh' λb hb=>by
  obtain⟨q1,q2⟩:=hb' b hb;exact⟨q1,q2⟩
 have hS:St N w0 v0 [] (.own ob' c.ty c.t.n z.length cap' cs' :: ℓ) v' a w':=hS;exact Zyf (hr.go e3.le (hS.drop (List.sublist_cons_self _ _))) hU hX hn hd hS hA' h
theorem ZEh {C:Cf} (hC:CfOK C) (hr:RelX N G w0 v0 U X f l a w γ v ℓ) (hU:∀ k,U k→X k) (hX:X n) (hn:¬ U n) {fid:FuncId} {c:V} {vals:List Value} {o:Oper} {Post:Unit→Fr→Lo→Prop} (hd:∀ k,o.dst=some k→k<N)
  (hent:ZM C.P fid→(execOp a.eval o).run C.P w = .ok (.enter fid vals.toArray) w) (hval:∀ y,(∀ w,(callFunc fid vals.toArray).run C.P w = .ok (.value y) w)→(execOp a.eval o).run C.P w = .ok (.value y) w)
  (hc:RR v γ l true c vals) (hk:c.ok U) (h:Zc n (Zne C n o fid c) f l Post):Zz C.P N G w0 v0 X o a w Post:=by
 unfold Zne at h;split at h
 ·rename_i con hcon;obtain⟨p,l1,γ1,v1,ℓ1,h,r1,le1,q1⟩:=Zmb hn hX h hr hk;obtain⟨z,hz,h⟩:=h;have hR:=q1 _ hc;rcases hC.c fid con hcon w v1 _ p z r1.st.vin hR hz with ⟨hen,hret⟩ | ⟨y,hv,hres⟩
  ·refine ZDc (hent hen) (Calls.mono hret λe w' ⟨r,v',e1,e2,e3,e4⟩=>⟨r,e1,?_⟩);have r2:=r1.go e3.le (r1.st.step e2 e3);obtain⟨k1,k2⟩:=Z7d (γ:=γ1) (l:=l1) (U:=X) e4;unfold ret at h
   cases hdd:o.dst with
   | none=>rw[hdd]at h;exact h.elim
   | some dd =>
    rw[hdd]at h;exact⟨_,_,h,_,_,_,(r2.mono hU λ_ h=>h).put (hd dd hdd) k1 k2 hX⟩
  ·obtain⟨k1,k2⟩:=Z7d (γ:=γ1) (l:=l1) (U:=X) hres;exact Zt r1 hU (hval y hv) hd hX k1 k2 h
 ·split at h
  ·rename_i con hcon;obtain⟨p,l1,γ1,v1,ℓ1,h,r1,le1,q1⟩:=Zmb hn hX h hr hk;obtain⟨z,hz,h⟩:=h;have hR:=q1 _ hc;obtain⟨hen,hret⟩:=hC.o fid con hcon w v1 _ p z r1.st.vin hR hz;refine ZDc (hent hen) (Calls.mono hret λe w' ⟨r,v',e1,e2,e3,e4⟩=>⟨r,e1,?_⟩);obtain⟨ob,n',cap,cs,rfl,hh,hb,hA,hn'⟩:=e4;subst hn';have h':=r1.st.step e2 e3;refine Zyf (r1.go e3.le h') hU hX hn hd (cs:=cs) ⟨h'.size,h'.dfr,h'.fr,h'.ext,h'.vst,λx hx=>?_,?_⟩ hA h
   ·rcases List.mem_cons.1 hx with rfl | hx
    ·exact⟨hh,λb eb=>⟨.inl (Nat.le_trans r1.st.ext.size (hb b eb).1),(hb b eb).2⟩⟩
    ·exact h'.loc x hx
   ·cases ob with
    | none=>rw[List.filterMap_cons_none (show (Loc.own none con.ty con.t.n z.length cap cs).blk=none from rfl)];exact h'.nd
    | some b =>
     rw[List.filterMap_cons_some (show (Loc.own (some b) con.ty con.t.n z.length cap cs).blk=some b from rfl)];refine List.nodup_cons.2 ⟨λhm=>?_,h'.nd⟩;obtain⟨x,hx,hxb⟩:=List.mem_filterMap.1 hm;obtain⟨_,hg⟩:=Loc.blk_get (r1.st.loc x hx).1 hxb;have h1:=ZHb hg;have h2:=(hb b rfl).1;omega
  ·split at h
   ·rename_i con hcon;have hI:=hC.i fid con hcon;unfold insE at h;split at h
    ·rename_i A i u2;obtain⟨cA,xs1,rfl,hA1,xs2,xs3,rfl,hI1,xs4,xs5,rfl,hU2,hnl⟩:=hc;have hnl:xs5=[]:=hnl;subst hnl;obtain⟨e2,he2,h⟩:=h;obtain⟨k2,st2,L2⟩:=e2;have hk2:k2=u2:=(Ze he2).2;subst hk2
     cases L2 with
     | own ty2 s2 l2 fz =>
      cases fz with
      | true=>exact h.elim
      | false =>
       simp only at h;split at h
       ·rename_i x hty hcast;have hty:=eQ hty;subst hty;obtain⟨c3,c4⟩:=Zx hcast;obtain⟨es2,E2,g1,_,_,g3,r1⟩:=hr.del he2;obtain⟨ob2,cap2,cs2,g4,g5,rfl⟩:=g1;have g4:γ k2 = .own ob2 cap2:=g4;obtain⟨y2,rfl,_,hy2⟩:=hU2;obtain⟨ob2',cap2',g6,g7⟩:=hy2 _ he2;rw[g4]at g6;cases g6;have hst2:=hr.st.perm g3;obtain⟨hh2,hb2⟩:=hst2.loc _ List.mem_cons_self;have hc3:s2=con.t:=by injection c3
        subst hc3;have hl2:l2=[x]:=c4;subst hl2
        cases ob2 with
        | none=>obtain⟨q,_⟩:=hh2;cases q
        | some bv =>
         obtain⟨hl,cur,hg,hle,_,hcz,htk⟩:=hh2;obtain⟨v1,hv1,hv2,hst3⟩:=hst2.publish (i:=0) (ℓ':=E2.flatten) rfl rfl hg rfl;have r2:=r1.go hv1 hst3;have hx1:con.t.rep.rel v1 (cur.toList.take con.t.n) x:=by
          have hq:con.t.rep.rels v1 cs2 [x]:=Zlb hv1 g5;obtain⟨d1,d2,e1,e2,e3⟩:=hq;have e3:d2=[]:=e3;subst e3;rw[List.append_nil]at e1;subst e1;have:cur.toList.take ([x].length*con.t.n)=cs2:=htk;rw[show [x].length*con.t.n=con.t.n by simp]at this;rw[this];exact e2
         have hi:inR .i64 i:=by obtain⟨_,q⟩:=hI1;exact q
         have hiv:(V.data (.int .i64) i).val xs2 = .int .i64 i:=by obtain⟨q,_⟩:=hI1;subst q;rfl
         have hle0:=Le.era hr k2;have lv:Le U v γ l v1 γ (era l k2):=hle0.trans (by obtain⟨EE,hEE,_⟩:=r1.lr;exact Le.refl hEE hv1)
         cases A with
         | own u =>
          simp only at h;obtain⟨e,he,h⟩:=h;obtain⟨k,st,L⟩:=e;have hkk:k=u:=(Ze he).2;subst hkk
          cases L with
          | own ty s xs fz =>
           cases fz with
           | true=>exact h.elim
           | false =>
            simp only at h;split at h
            ·rename_i l' hty hcast;have hty:=eQ hty;subst hty;obtain⟨c5,c6⟩:=Zx hcast;have hc5:s=con.t:=by injection c5
             subst hc5;have hl':xs=l':=c6;subst hl';obtain⟨z,hz,h⟩:=h;obtain⟨es,E3,d1,_,_,d3,r3⟩:=r2.del he;obtain⟨ob,cap,cs,d4,d5,rfl⟩:=d1;have d4:γ k = .own ob cap:=d4;have hA2:=Z7 lv (x:=.own k) hk.1 hA1;obtain⟨y,rfl,_,hy⟩:=hA2;obtain⟨ob',cap',d6,d7⟩:=hy _ he;rw[d4]at d6;cases d6;refine ZNj hI r3 hU hX hn hd (hst3.perm d3) d5 (kv:=cap2) (by simpa using hle) hv2 hx1 hi hz (λhen=>?_) h;rw[hent hen,Zmc (x:=.own k) rfl,d7,hiv,Zmc (x:=.own k2) rfl,g7];rfl
            ·exact h.elim
          | box _ _=>exact h.elim
          | mid _ _ _ _ _ _=>exact h.elim
          | mp _=>exact h.elim
          | mat _ _ _ _ _=>exact h.elim
         | nilS =>
          simp only at h;obtain⟨z,hz,h⟩:=h;have hA1:cA=[.slice none 0 0]:=hA1;subst hA1;refine ZNj hI r2 hU hX hn hd (ob:=none) (cap:=0) (cs:=[]) (xs:=[]) (hst3.nilLoc con.ty con.t.n) rfl (kv:=cap2) (by simpa using hle) hv2 hx1 hi hz (λhen=>?_) h;rw[hent hen,hiv,Zmc (x:=.own k2) rfl,g7];rfl
         | _=>exact h.elim
       ·exact h.elim
     | box _ _=>exact h.elim
     | mid _ _ _ _ _ _=>exact h.elim
     | mp _=>exact h.elim
     | mat _ _ _ _ _=>exact h.elim
    ·exact h.elim
   ·split at h
    ·rename_i con hcon;obtain⟨p,l1,γ1,v1,ℓ1,h,r1,le1,q1⟩:=Zmb hn hX h hr hk;obtain⟨z,hz,h⟩:=h;have hR:=q1 _ hc;obtain⟨hen,hret⟩:=hC.q fid con hcon w v1 _ p z r1.st.vin hR hz;refine ZDc (hent hen) (Calls.mono hret λe w' ⟨r,v',e1,e2,e3,e4⟩=>⟨r,e1,?_⟩);obtain⟨ob,cap,rows,es,rfl,hA,hh,hb⟩:=e4;have h':=r1.st.step e2 e3;refine put_mat (r1.go e3.le h') hU hX hn hd (h'.addL r1.st.ext.size hh hb λx hx b hxb=>?_) hA h;obtain⟨_,hg⟩:=Loc.blk_get (r1.st.loc x hx).1 hxb;exact ZHb hg
    ·split at h
     ·rename_i con hcon;have hI:=hC.d fid con hcon;unfold delE at h;split at h
      ·rename_i u i j;obtain⟨cA,x1,rfl,hA,cI,x2,rfl,hI1,cJ,x3,rfl,hJ,hnl⟩:=hc;have hnl:x3=[]:=hnl;subst hnl;obtain⟨e,he,h⟩:=h;obtain⟨kk,st,L⟩:=e;have hkk:kk=u:=(Ze he).2;subst hkk
       cases L with
       | own ty s xs fz =>
        cases fz with
        | true=>exact h.elim
        | false =>
         simp only at h;split at h
         ·rename_i ys hty hcast;have hty:=eQ hty;subst hty;obtain⟨c5,c6⟩:=Zx hcast;have hc5:s=con.t:=by injection c5
          subst hc5;have hl':xs=ys:=c6;subst hl';obtain⟨z,hz,h⟩:=h;obtain⟨es,E',h1,_,h2,h3,r1⟩:=hr.del he;obtain⟨ob,cap,cs,g1,g2,rfl⟩:=h1;have g1:γ kk = .own ob cap:=g1;obtain⟨y,rfl,_,hy⟩:=hA;obtain⟨ob',cap',g3,g4⟩:=hy _ he;rw[g1]at g3;cases g3;have hi:inR .i64 i:=by obtain⟨_,q⟩:=hI1;exact q
          have hiv:(V.data (.int .i64) i).val cI = .int .i64 i:=by obtain⟨q,_⟩:=hI1;subst q;rfl
          have hj:inR .i64 j:=by obtain⟨_,q⟩:=hJ;exact q
          have hjv:(V.data (.int .i64) j).val cJ = .int .i64 j:=by obtain⟨q,_⟩:=hJ;subst q;rfl
          refine Z7j hI r1 hU hX hn hd (hr.st.perm h3) g2 hi hj hz (λhen=>?_) h;rw[hent hen,Zmc (x:=.own kk) rfl,g4,hiv,hjv]
         ·exact h.elim
       | box _ _=>exact h.elim
       | mid _ _ _ _ _ _=>exact h.elim
       | mp _=>exact h.elim
       | mat _ _ _ _ _=>exact h.elim
      ·exact h.elim
     ·split at h
      ·rename_i con hcon;obtain⟨p,l1,γ1,v1,ℓ1,h,r1,le1,q1⟩:=Zmb hn hX h hr hk;obtain⟨z,hz,h⟩:=h;have hR:=q1 _ hc;obtain⟨hen,hret⟩:=hC.p fid con hcon w v1 _ p z r1.st.vin hR hz;refine ZDc (hent hen) (Calls.mono hret λe w' ⟨r,v',e1,e2,e3,e4⟩=>⟨r,e1,?_⟩);obtain⟨r0,rest,rfl,⟨ob,n',cap,cs,rfl,hh,hb,hA,hn'⟩,hrest⟩:=e4;subst hn';have h':=r1.st.step e2 e3;refine ZEk (r1.go e3.le h') hU hX hn hd (cs:=cs) ⟨h'.size,h'.dfr,h'.fr,h'.ext,h'.vst,λx hx=>?_,?_⟩ hA hrest h
       ·rcases List.mem_cons.1 hx with rfl | hx
        ·exact⟨hh,λb eb=>⟨.inl (Nat.le_trans r1.st.ext.size (hb b eb).1),(hb b eb).2⟩⟩
        ·exact h'.loc x hx
       ·cases ob with
        | none=>rw[List.filterMap_cons_none (show (Loc.own none con.ty con.t.n z.1.length cap cs).blk=none from rfl)];exact h'.nd
        | some b =>
         rw[List.filterMap_cons_some (show (Loc.own (some b) con.ty con.t.n z.1.length cap cs).blk=some b from rfl)];refine List.nodup_cons.2 ⟨λhm=>?_,h'.nd⟩;obtain⟨x,hx,hxb⟩:=List.mem_filterMap.1 hm;obtain⟨_,hg⟩:=Loc.blk_get (r1.st.loc x hx).1 hxb;have h1:=ZHb hg;have h2:=(hb b rfl).1;omega
      ·exact h.elim
theorem ZYh:∀ {c:V} {i:Nat} {z:V} {vals:List Value},nthV c i=some z→RR v γ l true c vals→c.ok U→∃ y,vals[i]? = some y∧RV v γ l z y∧z.ok U
 | .cons x c,0,z,vals,h,hr,hk=>by
  cases h
  obtain⟨cs,xs,rfl,h1,h2⟩:=hr
  exact⟨_,rfl,Zpa h1 (λc e=>by subst e;exact h1),hk.1⟩
 | .cons x c,i+1,z,vals,h,hr,hk=>by
  obtain⟨cs,xs,rfl,h1,h2⟩:=hr
  obtain⟨y,k1,k2,k3⟩:=ZYh (c:=c) h h2 hk.2
  exact⟨y,by simpa using k1,k2,k3⟩
theorem RelX.slot (h:RelX N G w0 v0 U X f l a w γ v ℓ) {t m:Nat} {z:V} (hr:RV v γ l z (a.tmps.getD t undef)) (hk:z.ok U) (hX:X m):RelX N G w0 v0 U X (⟨t,m,z⟩ :: f) l a w γ v ℓ:=by
 refine⟨h.st,λt' e' he'=>?_,h.lr,h.nd,λt' e' he'=>?_,h.ul,h.gh⟩
 ·rw[Zm]at he';split at he'
  ·rename_i hk'
   cases he'
   have hk':t=t':=hk';rw[← hk'];exact hr
  ·exact h.fr t' e' he'
 ·rw[Zm]at he';split at he'
  ·cases he';exact⟨hk,hX⟩
  ·exact h.uf t' e' he'
theorem Zcl {σ:List (Nat×Value)} (hS:St N w0 v0 σ ℓ v a w) {t e:TypeId} {n b:Nat} {i:TypeInfo} {x:Operand} (ht:P.underlying t=some (.array n e)) (hi:P.info? e=some i) (e1:ev σ x=some (.pointer (some ⟨b,0,none⟩))) :
  (execOp a.eval ⟨d,.slice t x none none none,ty,pos,aft,g⟩).run P w = .ok (.value (.slice (some ⟨b,0,none⟩) n n)) w:=by
 have h2:∀ w,(underlying t).run P w = .ok (.array n e) w:=λw=>run_underlying ht w;have h3:∀ w,(sizeOf e).run P w = .ok i.size w:=λw=>by simp[sizeOf,typeInfo,hi]
 by_cases hn:n=0
 ·subst hn;simp[execOp,Instr.sliceAt,Instr.sureAddr,hS.eval e1,h2,h3,Instr.sliceBounds,ZMa]
 ·simp[execOp,Instr.sliceAt,Instr.sureAddr,hS.eval e1,h2,h3,Instr.sliceBounds,ZMa]
theorem arrE_ok {C:Cf} (hr:RelX N G w0 v0 U X f l a w γ v ℓ) (hU:∀ k,U k→X k) (hX:X n) (hn:¬ U n) {t:TypeId} {s u off:Nat} {lo hi:Option Operand} {i j:Option Int} {o:Oper} {Post:Unit→Fr→Lo→Prop} (ho:o=⟨d,.slice t (.tmp s) lo hi none,ty,pos,aft,g⟩) (hd:∀ k,o.dst=some k→k<N) (hp:RV v γ l (.ptr u off) (a.eval (.tmp s))) (hk:U u)
  (hlo:(lo=none∧i=none) ∨ ∃ y κ q,lo=some y∧i=some q∧a.eval y = .int κ q) (hhi:(hi=none∧j=none) ∨ ∃ y κ q,hi=some y∧j=some q∧a.eval y = .int κ q) (h:Zc n (arrE C o t s u off i j) f l Post):Zz C.P N G w0 v0 X o a w Post:=by
 unfold arrE at h;split at h
 ·rename_i m e h0 hu;have h0:=eQ h0;subst h0;have hlo:lo=none:=by
   rcases hlo with h1 | ⟨_,_,_,_,h1,_⟩
   ·exact h1.1
   ·cases h1
  have hhi:hi=none:=by
   rcases hhi with h1 | ⟨_,_,_,_,h1,_⟩
   ·exact h1.1
   ·cases h1
  subst hlo hhi;split at h
  ·rename_i α q hα hq hm0 hm1;have hm0:1≤m:=lB hm0;have hm1:=lB hm1;split at h
   ·obtain⟨⟨k0,st0,L⟩,he,h⟩:=h;have hkk:k0=u:=(Ze he).2;subst hkk
    cases L with
    | box ty0 c =>
     simp only at h;obtain⟨y,hy0,_,hy⟩:=Zy hp (λ_ e=>by cases e) rfl rfl;have hy0:a.eval (.tmp s)=y:=(List.cons.inj hy0).1;obtain⟨b,g1,rfl⟩:=hy _ he;obtain⟨es,E',h1,_,_,h3,_⟩:=hr.del he;obtain⟨b',cs,g2,g3,g4,rfl⟩:=h1;have g2:γ k0 = .box b':=g2;rw[g1]at g2;cases g2;obtain⟨x1,l1,γ1,v1,ℓ1,hB,r1,le1,q1⟩:=Z3a hn hX FU h hr (hr.ul _ (Ze he).1).2.2;obtain⟨⟨k1,st1,L1⟩,he1,hC⟩:=hB;have hkk1:k1=k0:=(Ze he1).2;subst hkk1
     cases L1 with
     | box ty1 c1 =>
      obtain⟨e0,he0,hce⟩:=le1.l _ _ hk he1;rw[he]at he0;cases he0;have hce:γ1 k1=γ k1:=hce;obtain⟨es1,E1,f1,_,_,f3,r2⟩:=r1.del he1;obtain⟨b1,cs1,f4,f5,f6,rfl⟩:=f1;have f4:γ1 k1 = .box b1:=f4;rw[hce,g1]at f4;cases f4;have m0:=(hr.st.loc _ (h3.mem_iff.2 (List.mem_append_left _ (List.mem_singleton.2 rfl)))).1;have m1:=(r1.st.loc _ (f3.mem_iff.2 (List.mem_append_left _ (List.mem_singleton.2 rfl)))).1;have m0:w.heap[b]? = some (.cells cs.toArray ty0 (0,0)):=m0;have m1:w.heap[b]? = some (.cells cs1.toArray ty1 (0,0)):=m1;rw[m0]at m1;have hcs:cs=cs1:=by
       have:=Option.some.inj m1
       injection this with h1 _ _
       have:=congrArg Array.toList h1
       simpa using this
      subst hcs;obtain⟨v',hv,hs1,hAt⟩:=(r1.st.perm f3).pubVar (i:=0) rfl rfl;have hs1:St N w0 v0 [] E1.flatten v' a w:=hs1;have r3:=r2.go hv hs1;have hrel:=Rep.mono _ hv (q1 _ g3);have r4:=r3.slot (t:=s) (m:=n) (z:=.vp (ZC α m) x1 0) ⟨[_],⟨b,0,cs,hAt,hrel,rfl⟩,hy0⟩ trivial hX;obtain⟨i0,hi0⟩:∃ i0,C.P.info? e=some i0:=by
       unfold szA at hq;split at hq
       ·rename_i i0 _ hi0 _;exact⟨i0,hi0⟩
       ·cases hq
      obtain⟨σ,hσ,e1⟩:=r4.st.ev1 (.tmp s);rw[hy0]at e1;obtain⟨k4,k5⟩:=ZLc (by omega) hrel;subst ho;refine Zt r4 hU (Zcl hσ hu hi0 e1) hd hX (x:=.data (.slice α) (Z2 α m x1)) ⟨[.slice (some ⟨b,0,none⟩) m m],?_,rfl⟩ trivial hC;obtain⟨c2,T2,fr2,hvb,htk⟩:=hAt;have hlen:=Zkb k4;rw[k5]at hlen;refine⟨some ⟨b,0,none⟩,m,by rw[show (Z2 α m x1).length=m from k5],by rw[show (Z2 α m x1).length=m from k5];exact Nat.le_refl _,by unfold maxLen;omega,.inr ⟨b,0,c2,T2,fr2,rfl,hvb,?_⟩⟩;rw[show (Z2 α m x1).length=m from k5,← hlen,htk];exact k4
     | own _ _ _ _=>exact hC.elim
     | mat _ _ _ _ _=>exact hC.elim
     | mid _ _ _ _ _ _=>exact hC.elim
     | mp _=>exact hC.elim
    | own _ _ _ _=>exact h.elim
    | mat _ _ _ _ _=>exact h.elim
    | mid _ _ _ _ _ _=>exact h.elim
    | mp _=>exact h.elim
   ·exact h.elim
  ·exact h.elim
 ·exact h.elim
theorem RelX.dup (h:RelX N G w0 v0 U X f l a w γ v ℓ) {t:Nat} {e:En V} (he:lkE f t=some e):RelX N G w0 v0 U X (e :: f) l a w γ v ℓ:=by
 obtain⟨hm,hk⟩:=Ze he;have key:∀ t',lkE (e :: f) t'=lkE f t':=λt'=>by
  rw[Zm];split
  ·rename_i hk';rw[← hk',hk];exact he.symm
  ·rfl
 exact⟨h.st,λt' e' he'=>h.fr t' e' (by rw[← key];exact he'),h.lr,h.nd,λt' e' he'=>h.uf t' e' (by rw[← key];exact he'),h.ul,h.gh⟩
theorem run_mkI {σ:List (Nat×Value)} (hS:St N w0 v0 σ ℓ v a w) {t:TypeId} {x:Operand} {y:Value} {D:TypeDesc} (e:ev σ x=some y) (h:P.underlying t=some D) (hn:∀ q,some D≠some (.interface q)) :
  (execOp a.eval ⟨d,.makeInterface t x,ty,pos,aft,g⟩).run P w = .ok (.value (.iface t y)) w:=by
 have hx:=hS.eval e;have:(Instr.makeInterface t y).run P w = .ok (.iface t y) w:=by
  cases D with
  | interface q=>exact absurd rfl (hn q)
  | _=>simp[Instr.makeInterface,run_underlying h]
 simp[execOp,hx,this]
theorem Zbk {σ:List (Nat×Value)} (hS:St N w0 v0 σ ℓ v a w) {x y z u s t:Operand} {k:IntKind} {p q r p' q' r':Int} {ats:Array TypeId} (e:ev σ x=some (.int k p)) (e':ev σ y=some (.int k q)) (e2:ev σ z=some (.int k r)) (e3:ev σ u=some (.int k p')) (e4:ev σ s=some (.int k q')) (e5:ev σ t=some (.int k r')) :
  (execOp a.eval ⟨d,.call ⟨.builtin .max,#[x,y,z,u,s,t],ats⟩,ty,pos,aft,g⟩).run P w = .ok (.value (.int k (max (max (max (max (max p q) r) p') q') r'))) w:=by
 simp[execOp,resolve,invoke,builtin,Builtin.max_,hS.eval e,hS.eval e',hS.eval e2,hS.eval e3,hS.eval e4,hS.eval e5,Zvf]
theorem Zdi {C:Cf} (hr:RelX N G w0 v0 U X f l a w γ v ℓ) (hU:∀ k,U k→X k) (hX:X n) {t:TypeId} {x i:Operand} {o:Oper} {V1:V} {κ:IntKind} {j:Int} {Post:Unit→Fr→Lo→Prop} (ho:o=⟨d,.index t x i,ty,pos,aft,g⟩) (hd:∀ k,o.dst=some k→k<N) (h1:RV v γ l V1 (a.eval x)) (k1:V1.ok U)
  (e2:a.eval i = .int κ j) (hC':Zc n (ixV C o t V1 j) f l Post):Zz C.P N G w0 v0 X o a w Post:=by
 subst ho;obtain⟨σ,hσ,ev1,ev2⟩:=hr.st.ev2 x i;rw[e2]at ev2;unfold ixV at hC';split at hC'
 ·rename_i m e ht;split at hC'
  ·rename_i q hq hag b0 b1;have b0:(0:Int)≤j:=by simpa using b0
   have b1:@LT.lt Int _ j (m:Int):=by simpa using b1
   split at hC'
   ·rename_i z hz;obtain⟨cs,hcs,hqe⟩:=Z3 h1 (λc e=>by subst e;cases hag);obtain⟨q1,q2,q3⟩:=Z2i hq hz hcs k1 w;have hv:V1.val cs = .agg cs.toArray:=by unfold V.val;rw[hag]
    rw[hqe,hv]at ev1;refine Zt hr hU (ZOh hσ ev1 ev2 ?_) hd hX (Zpa q2 (λc e=>by subst e;exact q2)) (V.ok.mono hU q3) hC';simp[Instr.index,asIntOf,run_underlying ht,b0,b1,(ZMb hq).size,q1]
   ·exact hC'.elim
  ·exact hC'.elim
 ·exact hC'.elim
theorem ZQk {C:Cf} (hr:RelX N G w0 v0 U X f l a w γ v ℓ) (hU:∀ k,U k→X k) (hX:X n) {t:TypeId} {x i:Operand} {o:Oper} {V1:V} {κ:IntKind} {j:Int} {Post:Unit→Fr→Lo→Prop} (ho:o=⟨d,.index t x i,ty,pos,aft,g⟩) (hd:∀ k,o.dst=some k→k<N) (h1:RV v γ l V1 (a.eval x)) (k1:V1.ok U)
  (e2:a.eval i = .int κ j):∀ {m k:Nat},Zc n (altsV C o t V1 j m k) f l Post→Zz C.P N G w0 v0 X o a w Post:=by
 intro m
 induction m with
 | zero=>intro k h;exact h.elim
 | succ m ih =>
  intro k h;by_cases e:j=(k:Int)
  ·have h3:=h.1 (dT e);rw[← e]at h3;exact Zdi hr hU hX ho hd h1 k1 e2 h3
  ·exact ih (h.2 (dF e))
theorem Zll {α:T}:∀ m,(ZC α m).agg=true
 | 0 | 1 | 2=>rfl
 | _+3=>rfl
theorem Z9l {P:Program} {t:TypeId} {q:Nat×Bool} (ht:szA P t=some q) {α:T} {y:α.den} {off:Nat} {cs:List Value} (hn:q.1=α.n) (ha:q.2=α.agg) (hrel:α.rep.rel v ((cs.drop off).take α.n) y) (hlen:((cs.drop off).take α.n).length=α.n) (hle:off+α.n≤cs.length) (w:World) :
  (part t cs.toArray off).run P w = .ok ((V.data α y).val ((cs.drop off).take α.n)) w:=by
 have hS:=ZMb ht;unfold part
 cases hag:q.2 with
 | true =>
  have h1:=hS.agg w;rw[hag]at h1;have h3:(cs.toArray.extract off (off+α.n))=((cs.drop off).take α.n).toArray:=by
   apply Array.ext';rw[Array.toList_extract];simp[List.extract,List.take_drop]
  have h4:(V.data α y).isAgg=true:=by show α.agg=true;rw[← ha,hag]
  simp[h1,hS.size,hn,V.val,h4,h3]
 | false =>
  have h1:=hS.agg w;rw[hag]at h1;have h4:(V.data α y).isAgg=false:=by show α.agg=false;rw[← ha,hag]
  have h2:α.n=1:=T_one (by rw[← ha,hag]);have h5:cs[off]? = some ((V.data α y).val ((cs.drop off).take α.n)):=by
   unfold V.val;rw[h4,h2];have:off<cs.length:=by omega
   rw[List.getElem?_eq_getElem this,List.drop_eq_getElem_cons this];rfl
  have h5':cs.toArray[off]? = some ((V.data α y).val ((cs.drop off).take α.n)):=by simpa using h5
  simp[h1,h5']
theorem ixQ_ok {C:Cf} (hr:RelX N G w0 v0 U X f l a w γ v ℓ) (hU:∀ k,U k→X k) (hX:X n) {t:TypeId} {x i:Operand} {o:Oper} {V1:V} {κ:IntKind} {j:Int} {Post:Unit→Fr→Lo→Prop} (ho:o=⟨d,.indexAddr t x i,ty,pos,aft,g⟩) (hd:∀ k,o.dst=some k→k<N) (hp:RV v γ l V1 (a.eval x))
  (hi:a.eval i = .int κ j) (h:Zc n (ixQ C o t V1 j) f l Post):Zz C.P N G w0 v0 X o a w Post:=by
 unfold ixQ at h;split at h
 ·rename_i m e hu;split at h
  ·rename_i α q hα hq hm0;have hm0:0<m:=lB hm0;split at h
   ·rename_i u hqn;have hqn:=eQ hqn;obtain⟨⟨kk,st,L⟩,he,h⟩:=h;obtain⟨yy,hy0,_,hyy⟩:=Zy hp (λ_ e=>by cases e) rfl rfl;have hy0:a.eval x=yy:=(List.cons.inj hy0).1;have hyy:=hyy _ he;have hkk:kk=u:=(Ze he).2;subst hkk
    cases L with
    | box ty0 c =>
     obtain⟨b,g1,rfl⟩:=hyy
     cases c with
     | data s0 x0 =>
      simp only at h;split at h
      ·rename_i x1 hty hx1;obtain⟨c3,c4⟩:=Zx hx1;subst c3;subst c4;obtain⟨y,hy,h⟩:=h;have hy:idx (Z2 α m x0) j=some y:=hy;obtain⟨r1,r2,r3,r4⟩:=ZPa hy;obtain⟨_,es,hes,hmem⟩:=hr.loc he;obtain⟨b',cs,q1,q2,q3,rfl⟩:=hes;obtain⟨k1,k2⟩:=ZLc hm0 (show (ZC α m).rep.rel v cs x0 from q2);have hrel:=ZWa k1 r2;rw[k2]at r3;obtain⟨inf,hinf,hsz⟩:∃ i0,C.P.info? e=some i0∧q.1=i0.size:=by
        unfold szA at hq;split at hq
        ·rename_i i0 _ hi0 _;cases hq;exact⟨i0,hi0,rfl⟩
        ·cases hq
       have hA:Z5e C.P t m inf.size:=⟨e,λw=>run_underlying hu w,λw=>ZBd hinf w⟩;obtain⟨σ,hσ,e1,e2⟩:=hr.st.ev2 x i;rw[hy0]at e1;rw[hi]at e2;subst ho;refine Zt hr hU (Z4h hσ hA e1 e2 r1 r3 (0+j.toNat*α.n+0) (by rw[← hsz,hqn];omega)) hd hX (x:=.el kk j.toNat st α y 0) ⟨[_],⟨_,rfl,Zjb,⟨_,hrel⟩,λe' he'=>?_⟩,rfl⟩ ⟨(hr.ul _ (Ze he).1).1,(hr.ul _ (Ze he).1).2.1⟩ h;rw[he]at he';cases he';exact⟨b,g1,rfl⟩
      ·exact h.elim
     | _=>exact h.elim
    | own _ _ _ _=>exact h.elim
    | mat _ _ _ _ _=>exact h.elim
    | mid _ _ _ _ _ _=>exact h.elim
    | mp _=>exact h.elim
   ·exact h.elim
  ·exact h.elim
 ·exact h.elim
theorem ixW_ok {C:Cf} (hr:RelX N G w0 v0 U X f l a w γ v ℓ) (hU:∀ k,U k→X k) (hX:X n) {t:TypeId} {x i:Operand} {o:Oper} {V1:V} {κ:IntKind} {j:Int} {Post:Unit→Fr→Lo→Prop} (ho:o=⟨d,.index t x i,ty,pos,aft,g⟩) (hd:∀ k,o.dst=some k→k<N) (h1:RV v γ l V1 (a.eval x))
  (e2:a.eval i = .int κ j) (h:Zc n (ixW C o t V1 j) f l Post):Zz C.P N G w0 v0 X o a w Post:=by
 subst ho;obtain⟨σ,hσ,ev1,ev2⟩:=hr.st.ev2 x i;rw[e2]at ev2;unfold ixW at h;split at h
 ·rename_i m e ht;split at h
  ·rename_i α q s0 x0 hα hq hm0;have hm0:0<m:=lB hm0;split at h
   ·rename_i x1 hqn hag hx1;have hqn:=eQ hqn;have hag:=Z7e hag;obtain⟨c3,c4⟩:=Zx hx1;subst c3;subst c4;obtain⟨y,hy,h⟩:=h;have hy:idx (Z2 α m x0) j=some y:=hy;obtain⟨r1,r2,r3,r4⟩:=ZPa hy;obtain⟨cs,hcs,hqe⟩:=Z3 h1 (λc e=>by cases e);have hcs:(ZC α m).rep.rel v cs x0:=hcs;obtain⟨k1,k2⟩:=ZLc hm0 hcs;have hrel:=ZWa k1 r2;rw[Zn]at hrel;rw[k2]at r3;have hagg:(V.data (ZC α m) x0).isAgg=true:=Zll m;have hv:(V.data (ZC α m) x0).val cs = .agg cs.toArray:=by unfold V.val;rw[hagg]
    rw[hqe,hv]at ev1;have hcl:=Zkb k1;rw[Zn,k2]at hcl;have hlen:=Rep.len _ hrel;rw[Zn]at hlen;refine Zt hr hU (ZOh hσ ev1 ev2 (z:=(V.data α y).val ((cs.drop (j.toNat*α.n)).take α.n)) ?_) hd hX (x:=.data α y) ⟨_,hrel,rfl⟩ trivial h;have b0:(0:Int)≤j:=r1;have b1:@LT.lt Int _ j (m:Int):=r3;have hp:=Z9l hq hqn hag hrel hlen (cs:=cs) (off:=j.toNat*α.n) (by
     have:j.toNat<m:=by omega
     rw[hcl,← Nat.succ_mul];exact Nat.mul_le_mul_right _ this) w
    simp[Instr.index,asIntOf,run_underlying ht,b0,b1,(ZMb hq).size,hqn,hp]
   ·exact h.elim
  ·exact h.elim
 ·exact h.elim
theorem ZNf {P:Program} {t:TypeId} {z:Int} (h:ZAd P t=some z):(∀ w,(zeroValue t).run P w = .ok (.int .i64 z) w)∧z=0:=by
 unfold ZAd at h;split at h
 ·rename_i i hi;split at h
  ·rename_i y hy;split at h
   ·rename_i h0
    cases h
    exact⟨λw=>by simp[zeroValue,typeInfo,hi,hy],h0⟩
   ·cases h
  ·cases h
 ·cases h
theorem new_map (hr:RelX N G w0 v0 U X f l a w γ v ℓ) (hU:∀ k,U k→X k) (hX:X n) (hn:¬ U n) {o:Oper} {Post:Unit→Fr→Lo→Prop} (hd:∀ k,o.dst=some k→k<N)
  (hrun:(execOp a.eval o).run P w = .ok (.value (.map (some w.heap.size))) (w.alloc (.map #[] 0))) (h:Zc n (Ev.new n (.mp (some [])) (ret o (.own n))) f l Post):Zz P N G w0 v0 X o a w Post:=by
 obtain⟨hnew,h⟩:=h;obtain⟨E,hE,hpm⟩:=hr.lr;have hst:=(hr.st.perm hpm).newLoc (.map #[] 0) (e:=.mp w.heap.size []) rfl ⟨#[],0,heap_alloc_new w _,rfl⟩;have hr':=hr.new (γ':=Z4 γ n (.box w.heap.size)) (L':=.mp (some [])) hX hX hn hnew hE hst (Za.le_refl _) (λ_ h=>Zba h) (es':=[.mp w.heap.size []]) ⟨_,ZN,rfl,λ_ h=>(by cases h)⟩ (List.Perm.refl _) trivial;refine fin (x:=.own n) (hr'.mono hU λ_ h=>h) hrun hd hX ⟨[_],⟨_,rfl,rfl,λe' he'=>?_⟩,rfl⟩ hX h;rw[Zm,iP rfl]at he';cases he';exact⟨_,ZN,rfl⟩
theorem Z0l {m m':Option MPd} {s:List UInt8} {i:Int} (h:ZVc m s i=some m'):∃ m0,m=some m0∧ZH m0 s=none∧m'=some (m0++[(s,i)]):=by
 unfold ZVc at h;split at h
 ·cases h
 ·split at h
  ·rename_i hg;cases h;exact⟨_,rfl,hg,rfl⟩
  ·cases h
theorem mp_obj (hr:RelX N G w0 v0 U X f l a w γ v ℓ) {u k st:Nat} {m:MPd} (he:lkE l u=some ⟨k,st,.mp (some m)⟩):∃ b es c,γ u = .box b∧w.heap[b]? = some (.map es c)∧mpL es.toList m∧∀ x ∈ m,inR .i64 x.2:=by
 obtain⟨jj,es0,t1,t2⟩:=hr.loc he;have hk:k=u:=(Ze he).2;subst hk;obtain⟨b,g1,rfl,g2⟩:=t1;obtain⟨i,hi⟩:=t2 _ (List.mem_singleton.2 rfl);obtain⟨es,c,q1,q2⟩:=(hr.st.loc _ (mG hi)).1;exact⟨b,es,c,g1,q1,q2,g2⟩
theorem mp_look (hr:RelX N G w0 v0 U X f l a w γ v ℓ) {u k st:Nat} {m:Option MPd} (he:lkE l u=some ⟨k,st,.mp m⟩) {y:Value} (hy:mpH (γ u) m y) {mty kt et:TypeId} (hm:P.underlying mty=some (.map kt et)) (hk:P.underlying kt=some .string) {z0:Int} (hz:(zeroValue et).run P w = .ok (.int .i64 z0) w) (h0:inR .i64 z0) (s:List UInt8) :
  (Instr.lookup mty y (.string (Zg s)) true).run P w = .ok (.tuple #[.int .i64 ((Zh m s).getD z0),.bool (Zh m s).isSome]) w∧(Instr.lookup mty y (.string (Zg s)) false).run P w = .ok (.int .i64 ((Zh m s).getD z0)) w∧inR .i64 ((Zh m s).getD z0):=by
 cases m with
 | none =>
  have hy:y = .map none:=hy;subst hy;exact⟨ZAh hm hk hz,ZCi hm hk hz,h0⟩
 | some m =>
  obtain⟨b,es,c,q1,q2,q3,q4⟩:=mp_obj hr he;obtain⟨b',g1,rfl⟩:=hy;rw[q1]at g1;cases g1;refine⟨ZEi hm hk hz q2 q3,Z5g hm hk hz q2 q3,?_⟩;show inR .i64 ((ZH m s).getD z0)
  cases e:ZH m s with
  | none=>exact h0
  | some x =>
   obtain⟨z,hz,h2⟩:=ZDf e;show inR .i64 x;rw[← h2];exact q4 z hz
theorem mp_put (hr:RelX N G w0 v0 U X f l a w γ v ℓ) (hX:X n) {u k st:Nat} {m:MPd} (he:lkE l u=some ⟨k,st,.mp (some m)⟩) {y:Value} (hy:mpH (γ u) (some m) y) {mty kt et:TypeId} (hm:P.underlying mty=some (.map kt et)) (hk:P.underlying kt=some .string) {s:List UInt8} {i:Int} (hi:inR .i64 i) (hg:ZH m s=none) :
  ∃ w' ℓ',(Instr.mapUpdate mty y (.string (Zg s)) (.int .i64 i)).run P w = .ok () w'∧RelX N G w0 v0 U X f (⟨u,n,.mp (some (m++[(s,i)]))⟩ :: era l u) a w' γ v ℓ':=by
 obtain⟨hmm,hkk⟩:=Ze he;have hkk:k=u:=hkk;subst hkk;obtain⟨es,E',h1,h2,h5,h3,h4⟩:=hr.del he;obtain⟨b,g1,rfl,g2⟩:=h1;obtain⟨b',g3,rfl⟩:=hy;have g1:γ k = .box b:=g1;rw[g1]at g3;cases g3;have hs:St N w0 v0 [] (.mp b (mpV m) :: E'.flatten) v a w:=hr.st.perm h3;obtain⟨es,c,q1,q2⟩:=(hs.loc _ List.mem_cons_self).1;obtain⟨es',c',r1,r2⟩:=ZYl (x:=i) hm hk q1 q2 hg;have hs':=hs.setMap (c':=c') (l':=mpV (m++[(s,i)])) r2;refine⟨_,_,r1,hr.upd hX (hr.ul _ hmm).1 h2 hs' (Le.upd hr he (Za.le_refl _) (λ_ _=>rfl) ⟨rfl,rfl⟩) (λ_ _=>rfl) ⟨b,g1,rfl,λx hx=>?_⟩ (List.Perm.refl _) trivial⟩;rcases List.mem_append.1 hx with hx | hx
 ·exact g2 x hx
 ·rw[List.mem_singleton.1 hx];exact hi
theorem ZQf {C:Cf} (hC:CfOK C) (hr:RelX N G w0 v0 U X f l a w γ v ℓ) (hU:∀ k,U k→X k) (hX:X n) (hn:¬ U n) {o:Oper} {Post:Unit→Fr→Lo→Prop} (hd:∀ k,o.dst=some k→k<N) (h:Zc n (Zp C n o) f l Post):Zz C.P N G w0 v0 X o a w Post:=by
 obtain⟨d,op,ty,pos,aft,g⟩:=o
 cases op with
 | move x =>
  simp only[Zp]at h;obtain⟨V1,h1,k1,hA⟩:=Zj hr h;obtain⟨σ,hσ,e1⟩:=hr.st.ev1 x;exact Zt hr hU (Z1f hσ e1) hd hX h1 (V.ok.mono hU k1) hA
 | assign x =>
  simp only[Zp]at h;split at h
  ·rename_i hx;have hx:x = .const (.pointer none):=by
    unfold ZAe at hx;split at hx
    ·rfl
    ·cases hx
   subst hx;obtain⟨h0,hA⟩:=h;have e0:Go.Eng.era (⟨n,n,LV.box 0 .undef⟩ :: l) n=l:=by
    simp only[era];rw[show Nat.beq n n=true from Nat.beq_refl n]
   have hA:Zc n (ret ⟨d,.assign (.const (.pointer none)),ty,pos,aft,g⟩ (.ptr n 0)) f (Go.Eng.era (⟨n,n,LV.box 0 .undef⟩ :: l) n) Post:=hA;rw[e0]at hA;obtain⟨σ,hσ,e1⟩:=hr.st.ev1 (.const (.pointer none));exact Zt hr hU (Z5f hσ e1) hd hX (x:=.ptr n 0) ⟨[.pointer none],⟨_,rfl,rfl,λe he=>by rw[h0]at he;cases he⟩,rfl⟩ hX hA
  ·obtain⟨V1,h1,k1,hA⟩:=Zj hr h;obtain⟨σ,hσ,e1⟩:=hr.st.ev1 x;exact Zt hr hU (Z5f hσ e1) hd hX h1 (V.ok.mono hU k1) hA
 | nilCheck x =>
  simp only[Zp]at h;obtain⟨V1,h1,k1,hA⟩:=Zj hr h;split at hA
  ·rename_i α y;obtain⟨cs,hcs,e0⟩:=h1;obtain⟨b,o',c,rfl,hat,hrel⟩:=(show (rPtr α.rep).rel v cs y from hcs);obtain⟨σ,hσ,e1⟩:=hr.st.ev1 x;rw[e0]at e1;have e1:ev σ x=some (.pointer (some ⟨b,o',none⟩)):=e1;have hrun:(execOp a.eval ⟨d,.nilCheck x,ty,pos,aft,g⟩).run C.P w = .ok (.value (.pointer (some ⟨b,o',none⟩))) w:=by simp[execOp,hσ.eval e1]
   exact Zt hr hU hrun hd hX (x:=.vp α y 0) ⟨[_],⟨b,o',c,hat,hrel,rfl⟩,rfl⟩ trivial hA
  obtain⟨hB,b,o',e',_⟩:=ZPd h1 k1 hA;obtain⟨σ,hσ,e1⟩:=hr.st.ev1 x;rw[e']at e1 h1;have hrun:(execOp a.eval ⟨d,.nilCheck x,ty,pos,aft,g⟩).run C.P w = .ok (.value (.pointer (some ⟨b,o',none⟩))) w:=by simp[execOp,hσ.eval e1]
  exact Zt hr hU hrun hd hX h1 (V.ok.mono hU k1) hB
 | extract x i =>
  simp only[Zp]at h;obtain⟨V1,h1,k1,hA⟩:=Zj hr h;split at hA
  ·rename_i c;split at hA
   ·rename_i z hz;obtain⟨vals,h2,h3⟩:=h1;obtain⟨y,q1,q2,q3⟩:=ZYh hz h2 k1;obtain⟨σ,hσ,e1⟩:=hr.st.ev1 x;rw[h3]at e1;exact Zt hr hU (Zyk hσ e1 (by simpa using q1)) hd hX q2 (V.ok.mono hU q3) hA
   ·exact hA.elim
  ·exact hA.elim
 | alloc t =>
  simp only[Zp]at h;split at h
  ·rename_i z hz;obtain⟨y,cs,hy,hcells,hzz,hkz,hp⟩:=Zwg (v:=v) (γ:=γ) (l:=l) (U:=U) hz;refine Zgh hr hU hX hn hd hzz hkz hp ?_ h;have:=Zdk (a:=a) (w:=w) (d:=d) (ty:=ty) (pos:=pos) (aft:=aft) (g:=g) hy;rw[hcells]at this;exact this
  ·exact h.elim
 | box t x =>
  simp only[Zp]at h;obtain⟨V1,h1,k1,hA⟩:=Zj hr h;split at hA
  ·rename_i hfit;obtain⟨cs,hcs,hqe⟩:=Z3 h1 (ZYf hfit);obtain⟨hcells,hpl⟩:=Zkf hcs hfit;obtain⟨σ,hσ,e1⟩:=hr.st.ev1 x;rw[hqe]at e1;refine Zgh hr hU hX hn hd hcs k1 hpl ?_ hA;have:=ZUi (t:=t) (d:=d) (ty:=ty) (pos:=pos) (aft:=aft) (g:=g) (P:=C.P) hσ e1;rw[show (V1.val cs).cells=cs.toArray from hcells]at this;exact this
  ·exact hA.elim
 | load t x =>
  simp only[Zp]at h;obtain⟨V1,h1,k1,hA⟩:=Zj hr h;split at hA
  ·exact ZEm hr hU hX hn rfl hd h1 hA
  obtain⟨z,y,q1,q2,q3,hB⟩:=Zmg (d:=d) (ty:=ty) (pos:=pos) (aft:=aft) (g:=g) hr h1 k1 hA;exact Zt hr hU q1 hd hX q2 (V.ok.mono hU q3) hB
 | store t x y =>
  simp only[Zp]at h
  cases d with
  | some d=>exact h.elim
  | none =>
   obtain⟨V1,h1,k1,hA⟩:=Zj hr h;obtain⟨V2,h2,k2,hB⟩:=Zj hr hA;exact stE_ok hr hU hX hn rfl h1 h2 k1 k2 hB
 | fieldAddr s x i =>
  simp only[Zp]at h;obtain⟨V1,h1,k1,hA⟩:=Zj hr h;obtain⟨z,y,q1,q2,q3,hB⟩:=Z5h (d:=d) (ty:=ty) (pos:=pos) (aft:=aft) (g:=g) hr h1 k1 hA;exact Zt hr hU q1 hd hX q2 (V.ok.mono hU q3) hB
 | field s x i =>
  simp only[Zp]at h;obtain⟨V1,h1,k1,hA⟩:=Zj hr h;split at hA
  ·rename_i fd hfd hag;split at hA
   ·rename_i q hq;split at hA
    ·rename_i z hz;obtain⟨cs,hcs,hqe⟩:=Z3 h1 (λc e=>by subst e;cases hag);obtain⟨q1,q2,q3⟩:=Z2i hq hz hcs k1 w;obtain⟨σ,hσ,e1⟩:=hr.st.ev1 x;have hv:V1.val cs = .agg cs.toArray:=by unfold V.val;rw[hag]
     rw[hqe,hv]at e1;refine Zt hr hU (ZRl hσ e1 ?_) hd hX (Zpa q2 (λc e=>by subst e;exact q2)) (V.ok.mono hU q3) hA;unfold fldT at hfd;split at hfd
     ·rename_i fs hfs;have hfd':fs[i]? = some fd:=by rw[← Array.getElem?_toList];exact hfd
      simp[Instr.field,run_underlying hfs,hfd',asAgg,q1]
     ·cases hfd
    ·exact hA.elim
   ·exact hA.elim
  ·exact hA.elim
 | indexAddr t x i =>
  simp only[Zp]at h;obtain⟨V1,h1,k1,hA⟩:=Zj hr h;obtain⟨V2,h2,k2,hB⟩:=Zj hr hA;obtain⟨κ,j,rfl,hC'⟩:=Z1 hB;split at hC'
  ·unfold altE at hC';split at hC'
   ·exact alts_ok hr hU hX rfl hd h1 k1 (ZG h2).1 hC'
   ·exact hC'.elim
  ·exact ixQ_ok hr hU hX rfl hd h1 (ZG h2).1 hC'
  ·exact ixE_ok hr hU hX rfl hd h1 k1 (ZG h2).1 hC'
 | index t x i =>
  simp only[Zp]at h;obtain⟨V1,h1,k1,hA⟩:=Zj hr h;obtain⟨V2,h2,k2,hB⟩:=Zj hr hA;obtain⟨κ,j,rfl,hC'⟩:=Z1 hB;obtain⟨e2,_⟩:=ZG h2;obtain⟨σ,hσ,ev1,ev2⟩:=hr.st.ev2 x i;rw[e2]at ev2;split at hC'
  ·obtain⟨e1,_⟩:=Z6a h1;rw[e1]at ev1;split at hC'
   ·rename_i ht;obtain⟨y,hy,hC'⟩:=hC';exact Zt hr hU (Zxm hσ ev1 ev2 ht hy) hd hX (ZO (Zci y)) trivial hC'
   ·exact hC'.elim
  ·split at hC'
   ·unfold altvE at hC';split at hC'
    ·exact ZQk hr hU hX rfl hd h1 k1 e2 hC'
    ·exact hC'.elim
   ·exact ixW_ok hr hU hX rfl hd h1 e2 hC'
   ·exact Zdi hr hU hX rfl hd h1 k1 e2 hC'
 | binOp op t x y t' =>
  simp only[Zp]at h;split at h
  ·rename_i hy;have hy:y = .const (.pointer none):=by
    unfold ZAe at hy;split at hy
    ·rfl
    ·cases hy
   subst hy;obtain⟨V1,h1,k1,hA⟩:=Zj hr h;unfold nilE at hA;split at hA
   ·rename_i e ht;have key:∀ {b o:Nat},a.eval x = .pointer (some ⟨b,o,none⟩)→(execOp a.eval ⟨d,.binOp .eql t x (.const (.pointer none)) t',ty,pos,aft,g⟩).run C.P w = .ok (.value (.bool false)) w:=λ{b o} he=>by
     have h:∀ w:World,(Op.equal t (.pointer (some ⟨b,o,none⟩)) (.pointer none)).run C.P w = .ok false w:=λw=>by
      show (Op.equalIn (9999+1) t (.pointer (some ⟨b,o,none⟩)) (.pointer none)).run C.P w=_;unfold Op.equalIn;simp[run_underlying ht]
     have hc:a.eval (.const (.pointer none)) = .pointer none:=rfl;simp[execOp,he,hc,eqGuard,binOp,h]
    split at hA
    ·rename_i α y;obtain⟨cs,hcs,e0⟩:=h1;obtain⟨b,o',c,rfl,hat,hrel⟩:=(show (rPtr α.rep).rel v cs y from hcs);exact Zt hr hU (key (b:=b) (o:=o') e0) hd hX (x:=.data .bool false) Zma trivial hA
    ·obtain⟨hB,b,o',e',_⟩:=ZPd h1 k1 hA;exact Zt hr hU (key e') hd hX (x:=.data .bool false) Zma trivial hB
   ·exact hA.elim
  obtain⟨V1,h1,k1,hA⟩:=Zj hr h;obtain⟨V2,h2,k2,hB⟩:=Zj hr hA;obtain⟨z,q,q1,q2,q3,hC'⟩:=binE_ok (d:=d) (ty:=ty) (pos:=pos) (aft:=aft) (g:=g) (t':=t') hr h1 h2 hB;exact Zt hr hU q1 hd hX q2 (V.ok.mono hU q3) hC'
 | unOp u t x =>
  cases u with
  | not =>
   simp only[Zp]at h;obtain⟨V1,h1,k1,hA⟩:=Zj hr h;obtain⟨b,rfl,hB⟩:=ZBm hA;obtain⟨σ,hσ,e1⟩:=hr.st.ev1 x;rw[Zzc h1]at e1;exact Zt hr hU (run_not hσ e1) hd hX Zma trivial hB
  | neg =>
   simp only[Zp]at h;obtain⟨V1,h1,k1,hA⟩:=Zj hr h;obtain⟨κ,i,rfl,hB⟩:=Z1 hA;obtain⟨σ,hσ,e1⟩:=hr.st.ev1 x;rw[(ZG h1).1]at e1;exact Zt hr hU (run_neg hσ e1) hd hX (ZO (Zub _ _)) trivial hB
  | _=>exact h.elim
 | convert s t x =>
  simp only[Zp]at h;obtain⟨V1,h1,k1,hA⟩:=Zj hr h;obtain⟨σ,hσ,e1⟩:=hr.st.ev1 x;split at hA
  ·rename_i κ i ds κ' hs ht;obtain⟨q1,q2⟩:=ZG h1;rw[q1]at e1;have hcv:∀ w,(convert s t (.int κ i)).run C.P w = .ok (.int κ' (κ'.wrap i)) w:=λw=>by
    simp[convert,run_underlying hs,run_underlying ht,Conv.intToInt]
   split at hA
   ·rename_i hk;have hk:=ZJa hk;subst hk;refine Zt hr hU (ZIg hσ e1 hcv) hd hX (x:=.data (.int κ) i) ?_ trivial hA;rw[ZIc q2];exact ZO q2
   ·exact Zt hr hU (ZIg hσ e1 hcv) hd hX (ZO (Zub _ _)) trivial hA
  ·rename_i hs ht;obtain⟨q1,q2⟩:=Z6a h1;rw[q1]at e1;exact Zt hr hU (ZIg hσ e1 (λw=>by simp[convert,run_underlying hs,run_underlying ht])) hd hX (Zef q2) trivial hA
  ·rename_i l e hs ht;split at hA
   ·rename_i he;obtain⟨q1,q2⟩:=Z6a h1;rw[q1]at e1;obtain⟨q,k,v',w',r1,r2,r3,r4⟩:=Zhk hσ l hs ht he q2;refine fin (x:=.data (.slice (.int .u8)) (Zfb l)) ((hr.go r2 r3.bare).mono hU λ_ h=>h) (r1 e1) hd hX ⟨[_],r4,rfl⟩ trivial hA
   ·exact hA.elim
  ·exact hA.elim
 | makeInterface t x =>
  simp only[Zp]at h;obtain⟨V1,h1,k1,hA⟩:=Zj hr h;split at hA
  ·rename_i hfit;split at hA
   ·exact hA.elim
   ·rename_i D hni hD;obtain⟨cs,hcs,hqe⟩:=Z3 h1 (ZYf hfit);obtain⟨σ,hσ,e1⟩:=hr.st.ev1 x;rw[hqe]at e1;refine Zt hr hU (run_mkI hσ e1 hD λq e=>hni q (Option.some.inj e)) hd hX (x:=.ifc t V1) ⟨[_],⟨cs,hcs,rfl⟩,rfl⟩ (V.ok.mono hU k1) hA
   ·exact hA.elim
  ·exact hA.elim
 | makeFunc fn first cap =>
  cases fn with
  | func fi =>
   simp only[Zp]at h;split at h
   ·rename_i hfirst;obtain⟨c,h1,k1,hA⟩:=Z8b hr h;obtain⟨σ,hσ,hev⟩:=hr.st.evs cap.toList;have hargs:cap.toList.map (ev σ)=(cap.toList.map a.eval).map some:=by
     rw[List.map_map];exact List.map_congr_left λy hy=>hev y hy
    have hf:first = #[]:=by
     apply Array.ext';simpa using hfirst
    subst hf;exact Zt hr hU (Z7i hσ _ hargs) hd hX (x:=.fn fi c) ⟨[_],⟨_,h1,rfl⟩,rfl⟩ (V.ok.mono hU k1) hA
   ·exact h.elim
  | _=>exact h.elim
 | makeSlice t x y=>exact Zpl hr hU hX hn rfl hd h
 | buildSlice t m ps=>exact Zlm hr hU hX hn rfl hd h
 | build t ps=>exact Zzm hr hU hX rfl hd h
 | slice t x lo hi mx =>
  cases mx with
  | some _=>exact h.elim
  | none =>
   simp only[Zp]at h;obtain⟨i,hA,hlo⟩:=ZNh hr h;obtain⟨j,hB,hhi⟩:=ZNh hr hA;obtain⟨V1,h1,k1,hC'⟩:=Zj hr hB;split at hC'
   ·rename_i u;obtain⟨en,he,hC'⟩:=hC';obtain⟨kk,st,L⟩:=en
    cases L with
    | own ty0 s xs fz =>
     obtain⟨ys,l1,γ1,v1,ℓ1,hD,r1,le1,q1⟩:=Z3a hn hX FU hC' hr k1;obtain⟨cs,hcs,hqe⟩:=Z3 h1 (λc e=>by cases e);have hrel:=q1 _ hcs;exact ZJe (p:=.data (.slice s) ys) r1 hU hX rfl hd ⟨cs,hrel,hqe⟩ hlo hhi hD
    | box _ _=>exact hC'.elim
    | mp _=>exact hC'.elim
    | mid _ _ _ _ _ _=>exact hC'.elim
    | mat _ _ _ _ _=>exact hC'.elim
   ·obtain⟨cs,hcs,hqe⟩:=Z9a h1;exact ZJe (p:=.data (.slice (.int .u64)) (ZE 18446744073709551616 _)) hr hU hX rfl hd ⟨cs,hcs,hqe⟩ hlo hhi hC'
   ·obtain⟨cs,hcs,hqe⟩:=Z9a h1;exact ZJe (p:=.data (.slice (.int .u32)) (ZE 4294967296 _)) hr hU hX rfl hd ⟨cs,hcs,hqe⟩ hlo hhi hC'
   ·split at hC'
    ·exact arrE_ok hr hU hX hn rfl hd h1 k1 hlo hhi hC'
    ·exact hC'.elim
   ·exact ZJe hr hU hX rfl hd h1 hlo hhi hC'
 | pick c x y =>
  cases c with
  | tmp c =>
   simp only[Zp]at h;obtain⟨s,b,hf,h1,h2⟩:=h;have hr':=RelX.dup hr hf;have hc:=Zzc (hr.fr c _ hf);obtain⟨σ,hσ,hev⟩:=hr.st.evs [.tmp c,x,y];have e0:=hev (.tmp c) (by simp);have e0:ev σ (.tmp c)=some (.bool b):=e0.trans (congrArg some hc);have ex:=hev x (by simp);have ey:=hev y (by simp)
   cases b with
   | true =>
    obtain⟨V1,q1,k1,hA⟩:=Zj hr' (h1 rfl);exact Zt hr' hU (Zxi hσ e0 (by rw[iP rfl];exact ex)) hd hX q1 (V.ok.mono hU k1) hA
   | false =>
    obtain⟨V1,q1,k1,hA⟩:=Zj hr' (h2 rfl);exact Zt hr' hU (Zxi hσ e0 (by rw[iN (by decide)];exact ey)) hd hX q1 (V.ok.mono hU k1) hA
  | _=>exact h.elim
 | call c =>
  obtain⟨callee,args,ats⟩:=c
  cases callee with
  | value x =>
   simp only[Zp]at h;obtain⟨V1,h1,k1,hA⟩:=Zj hr h;obtain⟨c,h2,k2,hB⟩:=Z8b hr hA;split at hB
   ·rename_i fi;obtain⟨cs,⟨vs,q1,rfl⟩,q3⟩:=h1;have q1:vs=[]:=q1;subst q1;have q3:a.eval x = .func (.func fi) #[] #[]:=q3;obtain⟨σ,hσ,hev⟩:=hr.st.evs (x :: args.toList);have hfx:=hev x (by simp);rw[q3]at hfx;have hargs:args.toList.map (ev σ)=(args.toList.map a.eval).map some:=by
     rw[List.map_map];exact List.map_congr_left λy hy=>hev y (by simp[hy])
    exact ZEh hC hr hU hX hn hd (λhen=>Znm hσ _ hen hfx hargs) (λy hv=>ZXl hσ _ hv hfx hargs) h2 k2 hB
   ·exact hB.elim
  | invoke r m =>
   simp only[Zp]at h;obtain⟨V1,h1,k1,hA⟩:=Zj hr h;obtain⟨c,h2,k2,hB⟩:=Z8b hr hA;split at hB
   ·rename_i t x;split at hB
    ·rename_i fi hfi;obtain⟨cs,⟨cc,q1,rfl⟩,q3⟩:=h1;have q3:a.eval r = .iface t (x.val cc):=q3;obtain⟨σ,hσ,hev⟩:=hr.st.evs (r :: args.toList);have hfx:=hev r (by simp);rw[q3]at hfx;have hargs:args.toList.map (ev σ)=(args.toList.map a.eval).map some:=by
      rw[List.map_map];exact List.map_congr_left λy hy=>hev y (by simp[hy])
     exact ZEh hC hr hU hX hn (c:=.cons x c) (vals:=x.val cc :: args.toList.map a.eval) hd (λhen=>Zgj hσ _ (λw=>hC.m t m fi hfi _ w) hfx hargs (hen _ w)) (λy hv=>Zgj hσ _ (λw=>hC.m t m fi hfi _ w) hfx hargs (by
      have:=hv w;exact this)) ⟨cc,_,rfl,q1,h2⟩ ⟨k1,k2⟩ hB
    ·exact hB.elim
   ·exact hB.elim
  | builtin b =>
   cases b with
   | len =>
    simp only[Zp]at h;split at h
    ·rename_i x t hx ht;have hx:args = #[x]:=by apply Array.ext';exact hx
     have ht:ats = #[t]:=by apply Array.ext';exact ht
     subst hx ht;obtain⟨V1,h1,k1,hA⟩:=Zj hr h;obtain⟨m,q1,q2,hB⟩:=lenE_ok (d:=d) (ty:=ty) (pos:=pos) (aft:=aft) (g:=g) hr h1 hA;exact Zt hr hU q1 hd hX (ZO q2) trivial hB
    ·exact h.elim
   | append =>
    simp only[Zp]at h;split at h
    ·rename_i x y t t' hx ht;split at h
     ·rename_i hb;have hb:=eQ hb;subst hb;have hx:args = #[x,y]:=by apply Array.ext';exact hx
      have ht:ats = #[t,t]:=by apply Array.ext';exact ht
      subst hx ht;obtain⟨V1,h1,k1,hA⟩:=Zj hr h;obtain⟨V2,h2,k2,hB⟩:=Zj hr hA;exact appE_ok hr hU hX hn rfl hd h1 h2 k1 k2 hB
     ·exact h.elim
    ·exact h.elim
   | max =>
    simp only[Zp]at h;split at h
    ·rename_i x y hx;have hx:args = #[x,y]:=by apply Array.ext';exact hx
     subst hx;obtain⟨V1,h1,k1,hA⟩:=Zj hr h;obtain⟨V2,h2,k2,hB⟩:=Zj hr hA;obtain⟨κ,i,rfl,hC'⟩:=Z1 hB;obtain⟨κ',j,rfl,hD⟩:=Z1 hC';split at hD
     ·rename_i hk;have hk:=ZJa hk;subst hk;obtain⟨e1,r1⟩:=ZG h1;obtain⟨e2,r2⟩:=ZG h2;obtain⟨σ,hσ,ev1,ev2⟩:=hr.st.ev2 x y;rw[e1]at ev1;rw[e2]at ev2;exact Zt hr hU (run_max hσ ev1 ev2) hd hX (ZO (ZTb r1 r2)) trivial hD
     ·exact hD.elim
    ·rename_i x y z hx;have hx:args = #[x,y,z]:=by apply Array.ext';exact hx
     subst hx;obtain⟨V1,h1,k1,hA⟩:=Zj hr h;obtain⟨V2,h2,k2,hB⟩:=Zj hr hA;obtain⟨V3,h3,k3,hB'⟩:=Zj hr hB;obtain⟨κ,i,rfl,hC'⟩:=Z1 hB';obtain⟨κ',j,rfl,hD⟩:=Z1 hC';obtain⟨κ'',q,rfl,hE⟩:=Z1 hD;split at hE
     ·rename_i hk hk2;have hk:=ZJa hk;subst hk;have hk2:=ZJa hk2;subst hk2;obtain⟨e1,r1⟩:=ZG h1;obtain⟨e2,r2⟩:=ZG h2;obtain⟨e3,r3⟩:=ZG h3;obtain⟨σ,hσ,ev1,ev2,ev3⟩:=hr.st.ev3 x y z;rw[e1]at ev1;rw[e2]at ev2;rw[e3]at ev3;exact Zt hr hU (ZGm hσ ev1 ev2 ev3) hd hX (ZO (ZTb (ZTb r1 r2) r3)) trivial hE
     ·exact hE.elim
    ·rename_i x1 x2 x3 x4 x5 x6 hx;have hx:args = #[x1,x2,x3,x4,x5,x6]:=by apply Array.ext';exact hx
     subst hx;obtain⟨V1,h1,k1,hA⟩:=Zj hr h;obtain⟨V2,h2,k2,hA⟩:=Zj hr hA;obtain⟨V3,h3,k3,hA⟩:=Zj hr hA;obtain⟨V4,h4,k4,hA⟩:=Zj hr hA;obtain⟨V5,h5,k5,hA⟩:=Zj hr hA;obtain⟨V6,h6,k6,hA⟩:=Zj hr hA;obtain⟨κ,i1,rfl,hB1⟩:=Z1 hA;obtain⟨κ2,i2,rfl,hB2⟩:=Z1 hB1;obtain⟨κ3,i3,rfl,hB3⟩:=Z1 hB2;obtain⟨κ4,i4,rfl,hB4⟩:=Z1 hB3;obtain⟨κ5,i5,rfl,hB5⟩:=Z1 hB4;obtain⟨κ6,i6,rfl,hB6⟩:=Z1 hB5;split at hB6
     ·have g2:=ZJa (show kEq κ κ2=true by assumption)
      cases g2
      have g3:=ZJa (show kEq κ κ3=true by assumption)
      cases g3
      have g4:=ZJa (show kEq κ κ4=true by assumption)
      cases g4
      have g5:=ZJa (show kEq κ κ5=true by assumption)
      cases g5
      have g6:=ZJa (show kEq κ κ6=true by assumption)
      cases g6
      obtain⟨e1,r1⟩:=ZG h1;obtain⟨e2,r2⟩:=ZG h2;obtain⟨e3,r3⟩:=ZG h3;obtain⟨e4,r4⟩:=ZG h4;obtain⟨e5,r5⟩:=ZG h5;obtain⟨e6,r6⟩:=ZG h6;obtain⟨σ,hσ,ev1,ev2,ev3,ev4,ev5,ev6⟩:=hr.st.ev6 x1 x2 x3 x4 x5 x6;rw[e1]at ev1;rw[e2]at ev2;rw[e3]at ev3;rw[e4]at ev4;rw[e5]at ev5;rw[e6]at ev6;exact Zt hr hU (Zbk hσ ev1 ev2 ev3 ev4 ev5 ev6) hd hX (ZO (ZTb (ZTb (ZTb (ZTb (ZTb r1 r2) r3) r4) r5) r6)) trivial hB6
     ·exact hB6.elim
    ·exact h.elim
   | min =>
    simp only[Zp]at h;split at h
    ·rename_i x y hx;have hx:args = #[x,y]:=by apply Array.ext';exact hx
     subst hx;obtain⟨V1,h1,k1,hA⟩:=Zj hr h;obtain⟨V2,h2,k2,hB⟩:=Zj hr hA;obtain⟨κ,i,rfl,hC'⟩:=Z1 hB;obtain⟨κ',j,rfl,hD⟩:=Z1 hC';split at hD
     ·rename_i hk;have hk:=ZJa hk;subst hk;obtain⟨e1,r1⟩:=ZG h1;obtain⟨e2,r2⟩:=ZG h2;obtain⟨σ,hσ,ev1,ev2⟩:=hr.st.ev2 x y;rw[e1]at ev1;rw[e2]at ev2;exact Zt hr hU (run_min hσ ev1 ev2) hd hX (ZO (min_inR r1 r2)) trivial hD
     ·exact hD.elim
    ·exact h.elim
   | _=>exact h.elim
 | lookup t x k q =>
  simp only[Zp]at h;obtain⟨V1,h1,k1,hA⟩:=Zj hr h;obtain⟨V2,h2,k2,hB⟩:=Zj hr hA;split at hB
  ·rename_i m s kt et ht;split at hB
   ·rename_i hk he;split at hB
    ·rename_i z hz;obtain⟨σ,hσ,ev1,ev2⟩:=hr.st.ev2 x k;obtain⟨cs,hcs,hq⟩:=Z9a h1;have hcs:rMp.rel v cs m:=hcs;obtain⟨y0,rfl⟩:∃ y0,cs=[y0]:=by
      have:=rMp.len hcs
      match cs,this with
      | [y0],_=>exact⟨y0,rfl⟩
     obtain⟨e2,_⟩:=Z6a h2;rw[e2]at ev2;rw[show a.eval x=y0 from hq]at ev1;obtain⟨hy,hz0⟩:=ZNf hz;have hrun:=Znl (s:=s) ht hk (hy w) hσ.vin hcs;refine Zt hr hU (y:=.tuple #[.int .i64 ((Zh m s).getD z),.bool (Zh m s).isSome]) ?_ hd hX (x:=.tup (.cons (.data (.int .i64) ((Zh m s).getD z)) (.cons (.data .bool (Zh m s).isSome) .nl))) ?_ ⟨trivial,trivial,trivial⟩ hB
     ·simp[execOp,hσ.eval ev1,hσ.eval ev2,hrun]
     ·exact⟨_,⟨[.int .i64 _],[.bool _],rfl,⟨rfl,ZTh hcs s (by rw[hz0];exact Z2a.2 ⟨by omega,by omega⟩)⟩,⟨[.bool _],[],rfl,rfl,rfl⟩⟩,rfl⟩
    ·exact hB.elim
   ·rename_i hk he;split at hB
    ·rename_i z hz;obtain⟨σ,hσ,ev1,ev2⟩:=hr.st.ev2 x k;obtain⟨cs,hcs,hq⟩:=Z9a h1;have hcs:rMp.rel v cs m:=hcs;obtain⟨y0,rfl⟩:∃ y0,cs=[y0]:=by
      have:=rMp.len hcs
      match cs,this with
      | [y0],_=>exact⟨y0,rfl⟩
     obtain⟨e2,_⟩:=Z6a h2;rw[e2]at ev2;rw[show a.eval x=y0 from hq]at ev1;obtain⟨hy,hz0⟩:=ZNf hz;have hrun:=ZPl (s:=s) ht hk (hy w) hσ.vin hcs;refine Zt hr hU (y:=.int .i64 ((Zh m s).getD z)) ?_ hd hX (x:=.data (.int .i64) ((Zh m s).getD z)) (ZO (ZTh hcs s (by rw[hz0];exact Z2a.2 ⟨by omega,by omega⟩))) trivial hB;simp[execOp,hσ.eval ev1,hσ.eval ev2,hrun]
    ·exact hB.elim
   ·exact hB.elim
  ·rename_i u s kt et ht;split at hB
   ·rename_i z hk he hz;obtain⟨e,hle,hB⟩:=hB;obtain⟨kk,st,L⟩:=e;obtain⟨σ,hσ,ev1,ev2⟩:=hr.st.ev2 x k;obtain⟨e2,_⟩:=Z6a h2;rw[e2]at ev2;obtain⟨cs,⟨y0,rfl,_,hy0⟩,hq⟩:=h1;have hq:a.eval x=y0:=hq;rw[hq]at ev1;have hy0:=hy0 _ hle
    cases L with
    | mp m =>
     have hy0:mpH (γ u) m y0:=hy0;obtain⟨hy,hz0⟩:=ZNf hz;obtain⟨r1,r2,r3⟩:=mp_look hr hle hy0 ht hk (hy w) (by rw[hz0];exact Z2a.2 ⟨by omega,by omega⟩) s
     cases q with
     | true =>
      refine Zt hr hU (y:=.tuple #[.int .i64 ((Zh m s).getD z),.bool (Zh m s).isSome]) ?_ hd hX (x:=.tup (.cons (.data (.int .i64) ((Zh m s).getD z)) (.cons (.data .bool (Zh m s).isSome) .nl))) ?_ ⟨trivial,trivial,trivial⟩ hB
      ·simp[execOp,hσ.eval ev1,hσ.eval ev2,r1]
      ·exact⟨_,⟨[.int .i64 _],[.bool _],rfl,⟨rfl,r3⟩,⟨[.bool _],[],rfl,rfl,rfl⟩⟩,rfl⟩
     | false =>
      refine Zt hr hU (y:=.int .i64 ((Zh m s).getD z)) ?_ hd hX (x:=.data (.int .i64) ((Zh m s).getD z)) (ZO r3) trivial hB;simp[execOp,hσ.eval ev1,hσ.eval ev2,r2]
    | _=>exact hB.elim
   ·exact hB.elim
  ·exact hB.elim
 | makeMap t rs =>
  cases rs with
  | some _=>simp only[Zp]at h;exact h.elim
  | none =>
   simp only[Zp]at h;refine new_map hr hU hX hn hd ?_ h;rfl
 | mapUpdate t x k y =>
  simp only[Zp]at h
  cases d with
  | some _=>exact h.elim
  | none =>
  simp only at h;obtain⟨V1,h1,k1,hA⟩:=Zj hr h;obtain⟨V2,h2,k2,hB⟩:=Zj hr hA;obtain⟨V3,h3,k3,hC⟩:=Zj hr hB;split at hC
  ·rename_i u s i kt et ht;split at hC
   ·rename_i hk;obtain⟨e,hle,hC⟩:=hC;obtain⟨kk,st,L⟩:=e;obtain⟨σ,hσ,ev1,ev2,ev3⟩:=hr.st.ev3 x k y;obtain⟨e2,_⟩:=Z6a h2;obtain⟨e3,hi⟩:=ZG h3;rw[e2]at ev2;rw[e3]at ev3;obtain⟨cs,⟨y0,rfl,_,hy0⟩,hq⟩:=h1;have hq:a.eval x=y0:=hq;rw[hq]at ev1;have hy0:=hy0 _ hle
    cases L with
    | mp m =>
     have hy0:mpH (γ u) m y0:=hy0;obtain⟨m',hp,hC⟩:=hC;obtain⟨m0,rfl,hg,rfl⟩:=Z0l hp;obtain⟨w',ℓ',r1,r2⟩:=mp_put hr hX hle hy0 ht hk hi hg;refine ZDb r2 hU rfl ?_ hC;simp[execOp,hσ.eval ev1,hσ.eval ev2,hσ.eval ev3,r1]
    | _=>exact hC.elim
   ·exact hC.elim
  ·exact hC.elim
 | _=>exact h.elim
end
end Go.Eng
namespace Go.Eng
open Go.RowKit
def idxbF (s:List UInt8) (c:Int):Option Int:=some (Lib.indexByte s c.toNat.toUInt8)
theorem Z6j {s:List UInt8} {c z:Int} (h:idxbF s c=some z):z=Lib.indexByte s c.toNat.toUInt8∧True:=⟨(Option.some.inj h).symm,trivial⟩
theorem idxb_v {P:Program} {f:FuncId} (hf:ZSe P f Extern.BytealgIndexByte.indexByte) (s:List UInt8) (c:Int) (w:World):(callFunc f #[.string (Zg s),.int .u8 c]).run P w = .ok (.value (.int .i64 (Lib.indexByte s c.toNat.toUInt8))) w:=by
 rw[hf.run,Lib.run_indexByteString];rfl
theorem ZLi (c:UInt8):∀ l:List UInt8,-1≤Lib.indexByte l c∧Lib.indexByte l c≤l.length
 | []=>by simp[Lib.indexByte]
 | b :: l=>by
  have ih:=ZLi c l
  unfold Lib.indexByte
  split
  ·simp;omega
  ·split
   ·simp;omega
   ·rw[List.length_cons];omega
theorem idxb_in {s:List UInt8} {c:Int} (h:s.length≤maxLen):inR .i64 (Lib.indexByte s c.toNat.toUInt8):=by
 have:=ZLi c.toNat.toUInt8 s;unfold maxLen at h;exact Z2a.2 (by omega)
noncomputable def Z0g (str:List UInt8) (c:Int):Option Int :=
 bnd (idxbF str c) λa =>
 some a
noncomputable def ZSi (str:List UInt8):Option (List Int) :=
 bnd (Zl (σ:=(List Int)×Int) (ρ:=List Int) (λa =>
 ifb (decide (a.2<((Zfb str).length:Int)))
 (bnd (idx (Zfb str) a.2) λc =>
 bnd (Z0g ([48,49,50,51,52,53,54,55,56,57,65,66,67,68,69,70,71,72,73,74,75,76,77,78,79,80,81,82,83,84,85,86,87,88,89,90,45]:List UInt8) c) λb =>
 bnd (Zfa 8 (a.1++[b])) λ_ =>
 bnd (chk .i64 (a.2+(1:Int))) λd =>
 some (.inl (a.1++[b],d)))
 (some (.inr a.1)))
  Zu (([]:List Int),(0:Int))) λe =>
 some e
noncomputable def Z7g (body:List UInt8):Option ((List UInt8)×Int) :=
 bnd (α:=Bool)
 (ifb (body==([]:List UInt8))
 (some true)
 (some (decide ((23:Int)<(body.length:Int))))) λc =>
 ifb c
 (some (([]:List UInt8),(4:Int)))
 (bnd (ZSi body) λa =>
 bnd (Zbh a) λd =>
 ifb (decide ((0:Int)<d))
 (some (([]:List UInt8),(2:Int)))
 (bnd (chk .i64 ((body.length:Int)+(1:Int))) λe =>
 bnd (Zzi a) λf =>
 bnd (ZBi e f) λg =>
 bnd (ZKa ([48,49,50,51,52,53,54,55,56,57,65,66,67,68,69,70,71,72,73,74,75,76,77,78,79,80,81,82,83,84,85,86,87,88,89,90,45]:List UInt8) g (([48,49,50,51,52,53,54,55,56,57,65,66,67,68,69,70,71,72,73,74,75,76,77,78,79,80,81,82,83,84,85,86,87,88,89,90,45]:List UInt8).length:Int)) λh =>
 bnd (ZKa h (0:Int) (1:Int)) λb =>
 bnd (ZBb (body++b)) λ_ =>
 some (body++b,(0:Int))))
noncomputable def Z8f  : Option Bool :=
 bnd (Z7g ([65,49]:List UInt8)) λa =>
 bnd (α:=Bool)
 (ifb (a.2==(0:Int))
 (some (a.1==([65,49,88]:List UInt8)))
 (some false)) λb =>
 some b
noncomputable def ZFd (x:(List UInt8)×Int×Int×(List (List (List UInt8)))):Option ((List UInt8)×Int×Int×(List (List (List UInt8)))) :=
 bnd (ZCb 24 x.2.2.2) λb =>
 bnd (Zl (σ:=Int×(List (List (List UInt8)))) (ρ:=List (List (List UInt8))) (λa =>
 ifb (decide (a.1<(b.length:Int)))
 (bnd (idx a.2 a.1) λc =>
 bnd (ZCb 16 c) λd =>
 bnd (idx a.2 a.1) λg =>
 bnd (chk .i64 (a.1+(1:Int))) λe =>
 some (.inl (e,a.2.set a.1.toNat d)))
 (some (.inr a.2)))
  Zu ((0:Int),b)) λf =>
 some (x.1,x.2.1,x.2.2.1,f)
noncomputable def ZLd (str:List UInt8):Option Bool :=
 bnd (α:=Bool)
 (ifb (decide ((str.length:Int)<(1:Int)))
 (some true)
 (some (decide ((24:Int)<(str.length:Int))))) λc =>
 ifb c
 (some false)
 (bnd (Zl (σ:=Int) (ρ:=Unit ⊕ Bool) (λb =>
 ifb (decide (b<((Zfb str).length:Int)))
 (bnd (idx (Zfb str) b) λa =>
 bnd (α:=Bool)
 (ifb (decide ((97:Int)≤a))
 (ifb (decide (a≤(122:Int)))
 (some true)
 (ifb (decide ((65:Int)≤a))
 (ifb (decide (a≤(90:Int)))
 (some true)
 (ifb (decide ((48:Int)≤a))
 (some (decide (a≤(57:Int))))
 (some false)))
 (ifb (decide ((48:Int)≤a))
 (some (decide (a≤(57:Int))))
 (some false))))
 (ifb (decide ((65:Int)≤a))
 (ifb (decide (a≤(90:Int)))
 (some true)
 (ifb (decide ((48:Int)≤a))
 (some (decide (a≤(57:Int))))
 (some false)))
 (ifb (decide ((48:Int)≤a))
 (some (decide (a≤(57:Int))))
 (some false)))) λd =>
 bnd (α:=Bool)
 (ifb (!d)
 (ifb (a != (45:Int))
 (ifb (a != (95:Int))
 (some (a != (46:Int)))
 (some false))
 (some false))
 (some false)) λe =>
 ifb e
 (some (.inr (.inr false)))
 (bnd (chk .i64 (b+(1:Int))) λf =>
 some (.inl f)))
 (some (.inr (.inl ()))))
   Zu (0:Int)) λg =>
  match g with
| .inl i=>(some true)
| .inr h=>(some h))
noncomputable def Zie (b:(List ((List UInt8)×Int×Int×(List (List (List UInt8)))))×(Option MPd)) (x:(List UInt8)×Int×Int×(List (List (List UInt8)))):Option (((List ((List UInt8)×Int×Int×(List (List (List UInt8)))))×(Option MPd))×Int) :=
 bnd (α:=Int)
 (bnd (α:=Bool)
 (bnd (ZLd x.1) λk =>
 ifb (!k)
 (some true)
 (ifb (decide (x.2.1<(0:Int)))
 (some true)
 (ifb (decide ((3:Int)<x.2.1))
 (some true)
 (ifb (decide (x.2.2.1<(0:Int)))
 (some true)
 (some ((x.2.1==(0:Int)) != ((x.2.2.2.length:Int)==(0:Int)))))))) λl =>
 ifb l
 (some (1:Int))
 (bnd (α:=Bool)
 (ifb (decide ((8:Int)<(x.2.2.2.length:Int)))
 (some true)
 (bnd (α:=Int)
 (bnd (Zl (σ:=Int) (ρ:=Unit ⊕ Int) (λa =>
 ifb (decide (a<(x.2.2.2.length:Int)))
 (bnd (idx x.2.2.2 a) λh =>
 bnd (α:=Bool)
 (ifb (decide ((h.length:Int)<(1:Int)))
 (some true)
 (some (decide ((8:Int)<(h.length:Int))))) λm =>
 ifb m
 (some (.inr (.inr a)))
 (bnd (chk .i64 (a+(1:Int))) λn =>
 some (.inl n)))
 (some (.inr (.inl ()))))
       Zu (0:Int)) λo =>
      match o with
| .inl E=>(some (-1:Int))
| .inr p=>(some p)) λq =>
 some (decide ((0:Int)≤q)))) λr =>
 ifb r
 (some (4:Int))
 (ifb ((Zh b.2 x.1).isSome)
 (some (8:Int))
 (bnd (Zl (σ:=Int) (ρ:=Unit ⊕ Int) (λf =>
 ifb (decide (f<(x.2.2.2.length:Int)))
 (bnd (idx x.2.2.2 f) λg =>
 bnd (Zl (σ:=Int) (ρ:=Unit ⊕ Int) (λc =>
 ifb (decide (c<(g.length:Int)))
 (bnd (idx g c) λd =>
 ifb (!((Zh b.2 d).isSome))
 (some (.inr (.inr (5:Int))))
 (bnd (idx b.1 ((Zh b.2 d).getD 0)) λs =>
 ifb (s.2.1==(3:Int))
 (some (.inr (.inr (1:Int))))
 (bnd (idx b.1 ((Zh b.2 d).getD 0)) λt =>
 ifb (decide (x.2.2.1<t.2.2.1))
 (some (.inr (.inr (7:Int))))
 (bnd (ZKa g (0:Int) c) λu =>
 bnd (Zhc u d) λv =>
 ifb v
 (some (.inr (.inr (8:Int))))
 (bnd (chk .i64 (c+(1:Int))) λw =>
 some (.inl w))))))
 (some (.inr (.inl ()))))
         Zu (0:Int)) λy =>
        match y with
| .inl F=>(bnd (chk .i64 (f+(1:Int))) λz =>
 some (.inl z))
| .inr A=>(some (.inr (.inr A))))
 (some (.inr (.inl ()))))
      Zu (0:Int)) λB =>
     match B with
| .inl G=>(some (0:Int))
| .inr C=>(some C))))) λi =>
 ifb (i != (0:Int))
 (some ((b.1,b.2),i))
 (ifb (decide ((1024:Int)≤(b.1.length:Int)))
 (some ((b.1,b.2),(9:Int)))
 (bnd (α:=(List ((List UInt8)×Int×Int×(List (List (List UInt8)))))×(Option MPd))
 (ifb b.2.isNone
 (some (b.1,(some []:Option MPd)))
 (some (b.1,b.2))) λe =>
 bnd (ZVc e.2 x.1 (e.1.length:Int)) λD =>
 bnd (ZFd x) λj =>
 bnd (Zfa 56 (e.1++[j])) λ_ =>
 some ((e.1++[j],D),(0:Int))))
noncomputable def Zoe (b:(List ((List UInt8)×Int×Int×(List (List (List UInt8)))))×(Option MPd)) (name:List UInt8):Option (((List ((List UInt8)×Int×Int×(List (List (List UInt8)))))×(Option MPd))×((List UInt8)×Int×Int×(List (List (List UInt8))))×Int) :=
 bnd (α:=Int×Int)
 (ifb ((Zh b.2 name).isSome)
 (some (((Zh b.2 name).getD 0),(0:Int)))
 (some ((0:Int),(5:Int)))) λa =>
 ifb (a.2 != (0:Int))
 (some ((b.1,b.2),(([]:List UInt8),(0:Int),(0:Int),([]:List (List (List UInt8)))),a.2))
 (bnd (idx b.1 a.1) λc =>
 bnd (ZFd c) λd =>
 some ((b.1,b.2),d,(0:Int)))
noncomputable def ZKh (i:Int):Option (List UInt8) :=
 ifb (decide (i<(10:Int)))
 (bnd (chk .i64 (i+(1:Int))) λa =>
 bnd (ZKa ([48,49,50,51,52,53,54,55,56,57,97,98,99,100,101,102,103,104,105,106,107,108,109,110,111,112,113,114,115,116,117,118,119,120,121,122]:List UInt8) i a) λb =>
 some b)
 (bnd (chk .i64 (i*(2:Int))) λc =>
 bnd (chk .i64 (i*(2:Int))) λd =>
 bnd (chk .i64 (d+(2:Int))) λe =>
 bnd (ZKa ([48,48,48,49,48,50,48,51,48,52,48,53,48,54,48,55,48,56,48,57,49,48,49,49,49,50,49,51,49,52,49,53,49,54,49,55,49,56,49,57,50,48,50,49,50,50,50,51,50,52,50,53,50,54,50,55,50,56,50,57,51,48,51,49,51,50,51,51,51,52,51,53,51,54,51,55,51,56,51,57,52,48,52,49,52,50,52,51,52,52,52,53,52,54,52,55,52,56,52,57,53,48,53,49,53,50,53,51,53,52,53,53,53,54,53,55,53,56,53,57,54,48,54,49,54,50,54,51,54,52,54,53,54,54,54,55,54,56,54,57,55,48,55,49,55,50,55,51,55,52,55,53,55,54,55,55,55,56,55,57,56,48,56,49,56,50,56,51,56,52,56,53,56,54,56,55,56,56,56,57,57,48,57,49,57,50,57,51,57,52,57,53,57,54,57,55,57,56,57,57]:List UInt8) c e) λf =>
 some f)
noncomputable def Z7h (i:Int) (base:Int):Option (List UInt8) :=
 ifb (base==(10:Int))
 (bnd (α:=Bool)
 (ifb (decide ((0:Int)≤i))
 (some (decide (i<(100:Int))))
 (some false)) λa =>
 ifb a
 (bnd (ZKh i) λb =>
 some b)
 (bnd (α:=Int)
 (ifb (decide (i<(0:Int)))
 (some (IntKind.u64.wrap (-(IntKind.u64.wrap i))))
 (some (IntKind.u64.wrap i))) λc =>
   none))
 (none)
noncomputable def Zvj (i:Int):Option (List UInt8) :=
 bnd (Z7h i (10:Int)) λa =>
 some a
noncomputable def Z9d (i:Int):Option (List UInt8) :=
 bnd (Zvj i) λa =>
 some a
noncomputable def Zhd (l:List (Int×Int×Int×Int)):Option (((List ((List UInt8)×Int×Int×(List (List (List UInt8)))))×(Option MPd))×(List (List UInt8))×Bool) :=
 bnd (Zl (σ:=(List (List UInt8))×Int×((List ((List UInt8)×Int×Int×(List (List (List UInt8)))))×(Option MPd))) (ρ:=((List (List UInt8))×((List ((List UInt8)×Int×Int×(List (List (List UInt8)))))×(Option MPd))) ⊕ (Unit×(List (List UInt8))×Bool)) (λa =>
 ifb (decide (a.2.1<(l.length:Int)))
 (bnd (idx l a.2.1) λf =>
 ifb (decide ((30:Int)≤a.2.1))
 (some (.inr (.inl (a.1,a.2.2.1,a.2.2.2))))
 (bnd (Z9d a.2.1) λm =>
 bnd (ZBb (([110]:List UInt8)++m)) λ_ =>
 bnd (rem .u8 f.1 (4:Int)) λt =>
 bnd (Zl (σ:=(List (List UInt8))×Int×((List ((List UInt8)×Int×Int×(List (List (List UInt8)))))×(Option MPd))) (ρ:=((List (List UInt8))×((List ((List UInt8)×Int×Int×(List (List (List UInt8)))))×(Option MPd))) ⊕ (Unit×(List (List UInt8))×Bool)) (λb =>
 ifb (decide (b.2.1<(a.1.length:Int)))
 (bnd (idx a.1 b.2.1) λn =>
 bnd (Zoe (b.2.2.1,b.2.2.2) n) λh =>
 ifb (h.2.2 != (0:Int))
 (some (.inr (.inr ((),([]:List (List UInt8)),false))))
 (bnd (α:=List (List UInt8))
 (ifb (h.2.1.2.1 != (3:Int))
 (bnd (Zfa 16 (b.1++[n])) λ_ =>
 some (b.1++[n]))
 (some b.1)) λu =>
 bnd (chk .i64 (b.2.1+(1:Int))) λv =>
 some (.inl (u,v,h.1.1,h.1.2))))
 (some (.inr (.inl (b.1,b.2.2.1,b.2.2.2)))))
      Zu (([]:List (List UInt8)),(0:Int),a.2.2.1,a.2.2.2)) λw =>
     match w with
| .inl e=>(bnd (α:=(List UInt8)×Int×Int×(List (List (List UInt8))))
 (ifb ((e.1.length:Int)==(0:Int))
 (some (([110]:List UInt8)++m,(0:Int),a.2.1,([]:List (List (List UInt8)))))
 (some (([110]:List UInt8)++m,IntKind.i64.wrap t,a.2.1,([]:List (List (List UInt8)))))) λd =>
 bnd (α:=(List UInt8)×Int×Int×(List (List (List UInt8))))
 (ifb (d.2.1==(3:Int))
 (bnd (Z9d a.2.1) λs =>
 bnd (ZBb (([116]:List UInt8)++s)) λ_ =>
 some (([116]:List UInt8)++s,d.2.1,d.2.2.1,d.2.2.2))
 (some (d.1,d.2.1,d.2.2.1,d.2.2.2))) λc =>
 bnd (α:=(List UInt8)×Int×Int×(List (List (List UInt8))))
 (ifb (c.2.1 != (0:Int))
 (bnd (rem .i64 (IntKind.i64.wrap f.2.1) (e.1.length:Int)) λx =>
 bnd (idx e.1 x) λg =>
 bnd (rem .i64 (IntKind.i64.wrap f.2.2.1) (e.1.length:Int)) λy =>
 bnd (idx e.1 y) λi =>
 bnd (α:=Bool)
 (bnd (rem .u8 f.2.2.2 (3:Int)) λz =>
 ifb (z==(0:Int))
 (some (g != i))
 (some false)) λA =>
 bnd (α:=(List UInt8)×(Int×(Int×(List (List (List UInt8))))))
 (ifb A
 (some (c.1,c.2.1,c.2.2.1,[[g,i]]))
 (bnd (rem .u8 f.2.2.2 (3:Int)) λB =>
 bnd (α:=(List UInt8)×(Int×(Int×(List (List (List UInt8))))))
 (ifb (B==(1:Int))
 (bnd (Zfa 24 ([[g]]++[[i]])) λ_ =>
 some (c.1,c.2.1,c.2.2.1,[[g]]++[[i]]))
 (some (c.1,c.2.1,c.2.2.1,[[g]]))) λj =>
 some (j.1,j.2.1,j.2.2.1,j.2.2.2))) λk =>
 some (k.1,k.2.1,k.2.2.1,k.2.2.2))
 (some c)) λo =>
 bnd (Zie (e.2.1,e.2.2) o) λp =>
 ifb (p.2 != (0:Int))
 (some (.inr (.inr ((),([]:List (List UInt8)),false))))
 (bnd (Zfa 16 (a.1++[o.1])) λ_ =>
 bnd (chk .i64 (a.2.1+(1:Int))) λC =>
 some (.inl (a.1++[o.1],C,p.1.1,p.1.2))))
| .inr q=>(some (.inr (.inr (q.1,q.2.1,q.2.2))))))
 (some (.inr (.inl (a.1,a.2.2.1,a.2.2.2)))))
  Zu (([]:List (List UInt8)),(0:Int),([]:List ((List UInt8)×Int×Int×(List (List (List UInt8))))),(none:Option MPd))) λD =>
 match D with
| .inl r=>(some ((r.2.1,r.2.2),r.1,true))
| .inr E=>(none)
noncomputable def ZMd (l:List (Int×Int×Int×Int)):Option Bool :=
 bnd (Zhd l) λa =>
 ifb (!a.2.2)
 (some false)
 (bnd (Zl (σ:=Int) (ρ:=Unit ⊕ Bool) (λb =>
 ifb (decide (b<(a.2.1.length:Int)))
 (bnd (idx a.2.1 b) λc =>
 bnd (Zff a.1 c) λd =>
 bnd (ZPe a.1 c) λe =>
 bnd (α:=Bool)
 (ifb (d.2 != (0:Int))
 (some true)
 (some (e.2 != (0:Int)))) λj =>
 ifb j
 (some (.inr (.inr false)))
 (bnd (Zl (σ:=Int) (ρ:=Unit ⊕ Bool) (λf =>
 ifb (decide (f<(e.1.length:Int)))
 (bnd (idx e.1 f) λk =>
 bnd (Zhc d.1 k) λm =>
 ifb (!m)
 (some (.inr (.inr false)))
 (bnd (chk .i64 (f+(1:Int))) λn =>
 some (.inl n)))
 (some (.inr (.inl ()))))
       Zu (0:Int)) λo =>
      match o with
| .inl A=>(bnd (Zl (σ:=Int) (ρ:=Unit ⊕ Bool) (λg =>
 ifb (decide (g<(a.2.1.length:Int)))
 (bnd (idx a.2.1 g) λh =>
 bnd (ZTe a.1 h) λi =>
 bnd (α:=Bool)
 (ifb (i.2 != (0:Int))
 (some true)
 (bnd (Zhc i.1 c) λp =>
 bnd (Zhc d.1 h) λq =>
 some (p != q))) λr =>
 ifb r
 (some (.inr (.inr false)))
 (bnd (chk .i64 (g+(1:Int))) λs =>
 some (.inl s)))
 (some (.inr (.inl ()))))
        Zu (0:Int)) λt =>
       match t with
| .inl B=>(bnd (chk .i64 (b+(1:Int))) λu =>
 some (.inl u))
| .inr v=>(some (.inr (.inr v))))
| .inr w=>(some (.inr (.inr w)))))
 (some (.inr (.inl ()))))
   Zu (0:Int)) λx =>
  match x with
| .inl C=>(bnd Z8f λy =>
 some y)
| .inr z=>(some z))
section
variable {items:List Itm} {mp:Option MPd}
theorem Z9j (hB:BK items mp) {i:Nat} (hi:i<items.length):∃ M,ZPe (items,mp) (nmo items i)=some (Zea items M,0)∧∀ k,k<items.length→M k=true→Anc (inp items mp) k i:=by
  have hlen:=hB.len;obtain⟨M0,h1,h2⟩:=Znh hB hi;unfold ZPe;rw[ZGf hB hi,Zb]
  try dsimp only
  rw[show ((0:Int) != 0)=false from rfl,Zi,Zze (by omega) (by omega),Zb,h1,Zb]
  try dsimp only
  have main:=Z3b (body:=λ(s3:Int×List Bool) =>
    ifb (decide (s3.1<((bx items.length M0).length:Int)))
    (bnd (idx s3.2 s3.1) λy4 =>
     bnd (α:=List Bool)
     (ifb y4
      (bnd (Zxd (items,mp) s3.1 (i:Int)) λy5 =>
       bnd (idx y5 (i:Int)) λy6 =>
       bnd (idx s3.2 s3.1) λy7 =>
       some (s3.2.set s3.1.toNat y6))
      (bnd (idx s3.2 s3.1) λy8 =>
       some (s3.2.set s3.1.toNat false))) λx9 =>
     bnd (chk .i64 (s3.1+(1:Int))) λy10 =>
     some (.inl (y10,x9)))
    (some (.inr s3.2))) (s:=((0:Int),bx items.length M0)) (λt s=>∃ M,s=((t:Int),bx items.length M)∧∀ k,M k=true→M0 k=true) (λr=>∃ M,r=bx items.length M∧∀ k,M k=true→M0 k=true) items.length ⟨M0,rfl,λ_ h=>h⟩ (by omega) (λt s ht ⟨M,e,hM⟩=>by
      subst e;refine .inl ?_
      try dsimp only
      rw[Zpd,dT (by omega),Zq,Zyc M ht,Zb]
      cases hm:M t with
      | true =>
        obtain⟨l,hl,hll⟩:=Zdl hB ht hi;have hil:i<l.length:=by omega
        rw[Zq,hl,Zb,ZQa hil,Zb,Zb,Zb,ZT (by omega),Zb,Int.toNat_natCast,Zud];refine⟨_,rfl,_,rfl,λk hk=>?_⟩;by_cases e:k=t
        · subst e;exact hM _ hm
        · rw[iN e]at hk;exact hM k hk
      | false =>
        rw[Zi,Zb,Zb,ZT (by omega),Zb,Int.toNat_natCast,Zud];refine⟨_,rfl,_,rfl,λk hk=>?_⟩;by_cases e:k=t
        · rw[iP e]at hk;cases hk
        · rw[iN e]at hk;exact hM k hk) λs ⟨M,e,hM⟩=>by
      subst e
      try dsimp only
      rw[Zpd,dF (by omega),Zi];exact⟨_,rfl,M,rfl,hM⟩
  obtain⟨r,hr,M,rfl,hM⟩:=main;refine⟨M,ZP hr ?_,λk _ hk=>(h2 k).1 (hM k hk)⟩;rw[Zig hB,Zb]
theorem uses_ok (hB:BK items mp) {i:Nat} (hi:i<items.length):∃ M,ZTe (items,mp) (nmo items i)=some (Zea items M,0)∧∀ k,k<items.length→(M k=true↔Anc (inp items mp) i k):=by
  have hlen:=hB.len;unfold ZTe;rw[ZGf hB hi,Zb]
  try dsimp only
  rw[show ((0:Int) != 0)=false from rfl,Zi,Zze (by omega) (by omega),Zb,ZT (by omega),Zb];have main:=Z3b (body:=λ(s3:Int×List Bool) =>
    ifb (decide (s3.1<(items.length:Int)))
    (bnd (idx items s3.1) λy4 =>
     bnd (α:=Int)
     (bnd (Zl (σ:=Int) (ρ:=Unit ⊕ Int) (λs5 =>
        ifb (decide (s5<(y4.2.2.2.length:Int)))
        (bnd (idx y4.2.2.2 s5) λy6 =>
         bnd (α:=Int)
         (bnd (Zl (σ:=Int) (ρ:=Unit ⊕ Int) (λs7 =>
            ifb (decide (s7<(y6.length:Int)))
            (bnd (idx y6 s7) λy8 =>
             bnd (α:=Bool)
             (bnd (idx s3.2 ((Zh mp y8).getD 0)) λy9 =>
              ifb y9
              (some true)
              (ifb (((Zh mp y8).getD 0)==(i:Int))
               (some true)
               (some false))) λx10 =>
             ifb x10
             (some (.inr (.inr s7)))
             (bnd (chk .i64 (s7+(1:Int))) λy11 =>
              some (.inl y11)))
            (some (.inr (.inl ()))))
           Zu (0:Int)) λx12 =>
          match x12 with
          | .inl r13=>(some (-1:Int))
          | .inr r14=>(some r14)) λx15 =>
         ifb (decide ((0:Int)≤x15))
         (some (.inr (.inr s5)))
         (bnd (chk .i64 (s5+(1:Int))) λy16 =>
          some (.inl y16)))
        (some (.inr (.inl ()))))
       Zu (0:Int)) λx17 =>
      match x17 with
      | .inl r18=>(some (-1:Int))
      | .inr r19=>(some r19)) λx20 =>
     bnd (idx s3.2 s3.1) λy21 =>
     bnd (chk .i64 (s3.1+(1:Int))) λy22 =>
     some (.inl (y22,s3.2.set s3.1.toNat (decide ((0:Int)≤x20)))))
    (some (.inr s3.2))) (s:=(((i+1:Nat):Int),List.replicate ((items.length:Int)).toNat false)) (λt s=>∃ S,s=(((i+1+t:Nat):Int),bx items.length S)∧(∀ k,k<i+1+t→(S k=true↔i<k∧∃ c,c ∈ inp items mp k∧(S c=true∨c=i)))∧∀ k,i+1+t≤k→S k=false)
    (λr=>∃ S,r=bx items.length S∧∀ k,k<items.length→(S k=true↔i<k∧∃ c,c ∈ inp items mp k∧(S c=true∨c=i))) (items.length-(i+1)) ⟨λ_=>false,by rw[Int.toNat_natCast,Zlf],λk hk=>⟨λh=>(by cases h),λh=>(by omega)⟩,λ_ _=>rfl⟩ (by omega) (λt s ht ⟨S,e,hS,hS0⟩=>by
      subst e;refine .inl ?_;obtain⟨j,hjj⟩:∃ j,j=i+1+t:=⟨_,rfl⟩;have hj:j<items.length:=by omega
      rw[← hjj]at hS hS0;rw[show (((i+1+t:Nat):Int),bx items.length S)=((j:Int),bx items.length S) by rw[hjj]];have hx:=List.getElem?_eq_getElem hj;generalize items[j]=x at hx;have hsz:=hB.szs x (mG hx)
      try dsimp only
      rw[dT (by omega),Zq,Zwa hx,Zb];obtain⟨z,hz,hd⟩:=ZUd x.2.2.2 (λc=>c.any λs=>S (pos mp s) || (pos mp s==i)) (by omega) (body:=λs5 =>
        ifb (decide (s5<(x.2.2.2.length:Int)))
        (bnd (idx x.2.2.2 s5) λy6 =>
         bnd (α:=Int)
         (bnd (Zl (σ:=Int) (ρ:=Unit ⊕ Int) (λs7 =>
            ifb (decide (s7<(y6.length:Int)))
            (bnd (idx y6 s7) λy8 =>
             bnd (α:=Bool)
             (bnd (idx (bx items.length S) ((Zh mp y8).getD 0)) λy9 =>
              ifb y9
              (some true)
              (ifb (((Zh mp y8).getD 0)==(i:Int))
               (some true)
               (some false))) λx10 =>
             ifb x10
             (some (.inr (.inr s7)))
             (bnd (chk .i64 (s7+(1:Int))) λy11 =>
              some (.inl y11)))
            (some (.inr (.inl ()))))
           Zu (0:Int)) λx12 =>
          match x12 with
          | .inl r13=>(some (-1:Int))
          | .inr r14=>(some r14)) λx15 =>
         ifb (decide ((0:Int)≤x15))
         (some (.inr (.inr s5)))
         (bnd (chk .i64 (s5+(1:Int))) λy16 =>
          some (.inl y16)))
        (some (.inr (.inl ())))) (λa c hc=>by
          have ha:=(List.getElem?_eq_some_iff.1 hc).1;have hcm:=mG hc;have hcl:=hsz.2 c hcm
          try dsimp only
          rw[dT (by omega),Zq,Zwa hc,Zb];obtain⟨z2,hz2,hd2⟩:=ZUd c (λs=>S (pos mp s) || (pos mp s==i)) (by omega) (body:=λs7 =>
            ifb (decide (s7<(c.length:Int)))
            (bnd (idx c s7) λy8 =>
             bnd (α:=Bool)
             (bnd (idx (bx items.length S) ((Zh mp y8).getD 0)) λy9 =>
              ifb y9
              (some true)
              (ifb (((Zh mp y8).getD 0)==(i:Int))
               (some true)
               (some false))) λx10 =>
             ifb x10
             (some (.inr (.inr s7)))
             (bnd (chk .i64 (s7+(1:Int))) λy11 =>
              some (.inl y11)))
            (some (.inr (.inl ())))) (λb s hs=>by
              have hb:=(List.getElem?_eq_some_iff.1 hs).1;obtain⟨hp,hlt⟩:=hB.pos hx hcm (mG hs)
              try dsimp only
              rw[dT (by omega),Zq,Zwa hs,Zb,hp];generalize pos mp s=p at hlt;rw[Zyc S (by omega),Zb];have hpk:((p:Int)==(i:Int))=(p==i):=by
                apply Bool.eq_iff_iff.2;simp only[beq_iff_eq];omega
              rw[hpk]
              cases ho:S p with
              | true=>rw[Zq,Zb,Zq];rfl
              | false =>
                rw[Zi]
                cases hq:p==i with
                | true=>rw[Zq,Zb,Zq];rfl
                | false=>rw[Zi,Zb,Zi,ZXb (by omega) (by omega),Zb];rfl) (by
              try dsimp only
              rw[dF (by omega),Zi])
          refine ZP hz2 ?_;rw[hd2]
          cases hq:(c.any λs=>S (pos mp s) || (pos mp s==i)) with
          | true=>rw[Zq];rfl
          | false=>rw[Zi,ZXb (by omega) (by omega),Zb];rfl) (by
          try dsimp only
          rw[dF (by omega),Zi])
      refine⟨(((j+1:Nat):Int),(bx items.length S).set ((j:Int)).toNat (decide ((0:Int)≤z))),ZP hz (by rw[Zyc S hj,Zb,ZT (by omega),Zb]),λk=>if k=j then decide ((0:Int)≤z) else S k,Prod.ext (by show ((j+1:Nat):Int)=_;rw[hjj];rfl) (by rw[Int.toNat_natCast];exact Zud _ _ _ _),λk hk=>?_,λk hk=>?_⟩
      · have hval:decide ((0:Int)≤z)=true ↔ ∃ c,c ∈ inp items mp j∧(S c=true∨c=i):=by
          rw[hd,List.any_eq_true];constructor
          · rintro⟨c,hc,hh⟩;obtain⟨s,hs,hh⟩:=List.any_eq_true.1 hh;refine⟨pos mp s,?_,?_⟩
            · unfold inp;rw[ZGg hx];exact List.mem_map.2 ⟨s,List.mem_flatten.2 ⟨c,hc,hs⟩,rfl⟩
            · rw[Bool.or_eq_true,beq_iff_eq]at hh;exact hh
          · rintro⟨p,hp,hh⟩;unfold inp at hp;rw[ZGg hx]at hp;obtain⟨s,hs,rfl⟩:=List.mem_map.1 hp;obtain⟨c,hc,hs⟩:=List.mem_flatten.1 hs;exact⟨c,hc,List.any_eq_true.2 ⟨s,hs,by rw[Bool.or_eq_true,beq_iff_eq];exact hh⟩⟩
        have hsame:∀ c,c ∈ inp items mp k→((if c=j then decide ((0:Int)≤z) else S c)=S c):=λc hc=>by
          have:=hB.inp_lt k c hc;rw[iN (by omega)]
        have hex:(∃ c,c ∈ inp items mp k∧((if c=j then decide ((0:Int)≤z) else S c)=true∨c=i)) ↔ ∃ c,c ∈ inp items mp k∧(S c=true∨c=i):=by
          constructor
          · rintro⟨c,hc,hh⟩;rw[hsame c hc]at hh;exact⟨c,hc,hh⟩
          · rintro⟨c,hc,hh⟩;exact⟨c,hc,by rw[hsame c hc];exact hh⟩
        rw[hex];show ((if k=j then decide ((0:Int)≤z) else S k)=true↔_);by_cases e:k=j
        · subst e;rw[iP rfl,hval];constructor
          · intro h;exact⟨by omega,h⟩
          · intro h;exact h.2
        · rw[iN e];exact hS k (by omega)
      · show (if k=j then decide ((0:Int)≤z) else S k)=false;rw[iN (by omega)];exact hS0 k (by omega)) λs ⟨S,e,hS,hS0⟩=>by
      subst e
      try dsimp only
      rw[dF (by omega),Zi];exact⟨_,rfl,S,rfl,λk hk=>hS k (by omega)⟩
  obtain⟨r,hr,S,rfl,hS⟩:=main;refine⟨S,ZP hr ?_,Zjl hB.inp_lt hS⟩;rw[Zig hB,Zb]
theorem Zom:Z8f=some true:=by decide +kernel
end
theorem Zvl {l:List (Int×Int×Int×Int)} {items:List Itm} {mp:Option MPd} (hB:BK items mp) (h:Zhd l=some ((items,mp),items.map (·.1),true)):ZMd l=some true:=by
 have hlen:=hB.len;have nm:∀ {k:Nat},k<items.length→idx (items.map (·.1)) (k:Int)=some (nmo items k):=λ{k} hk=>by
  have hx:=List.getElem?_eq_getElem hk;refine Zwa ?_;rw[List.getElem?_map,hx,ZWd hx];rfl
 unfold ZMd;refine ZP h ?_
 try dsimp only
 rw[show (!true)=false from rfl,Zi];refine ZP (Zoc (λk=>(k:Int)) items.length rfl (by omega) (λk hk=>?_) ?_ (r:=.inl ())) ?_
 ·try dsimp only
  obtain⟨Ms,s1,s2⟩:=Ztl hB hk;obtain⟨Mc,c1,c2⟩:=Z9j hB hk;rw[List.length_map,dT (by omega),Zq,nm hk,Zb,s1,Zb,c1,Zb]
  try dsimp only
  rw[show ((0:Int) != 0)=false from rfl,Zi,Zb,Zi];have hl1:=Zjg (items:=items) Mc;have hl2:=Zjg (items:=items) Ms;refine ZP (Zoc (λj=>(j:Int)) (Zea items Mc).length rfl (by omega) (λj hj=>?_) ?_ (r:=.inl ())) ?_
  ·try dsimp only
   rw[dT (by omega),Zq,ZQa hj,Zb,Z6e (by omega),Zb];have hm:(Zea items Mc)[j] ∈ Zea items Ms:=by
    have h1:=List.getElem_mem hj;generalize (Zea items Mc)[j]=s at h1;unfold Zea at h1;obtain⟨q,hq,rfl⟩:=List.mem_map.1 h1;obtain⟨q1,q2⟩:=List.mem_filter.1 hq;have q1:=List.mem_range.1 q1;exact (ZCg hB q1).2 ((s2 q).2 (c2 q q1 q2))
   rw[dT hm,show (!true)=false from rfl,Zi,ZT (by omega),Zb]
  ·try dsimp only
   rw[dF (by omega),Zi]
  ·try dsimp only
   refine ZP (Zoc (λj=>(j:Int)) items.length rfl (by omega) (λj hj=>?_) ?_ (r:=.inl ())) ?_
   ·try dsimp only
    obtain⟨Mu,u1,u2⟩:=uses_ok hB hj;have hl3:=Zjg (items:=items) Mu;rw[dT (by omega),Zq,nm hj,Zb,u1,Zb]
    try dsimp only
    rw[show ((0:Int) != 0)=false from rfl,Zi,Z6e (by omega),Zb,Z6e (by omega),Zb,Zb];have e:decide (nmo items k ∈ Zea items Mu)=decide (nmo items j ∈ Zea items Ms):=decide_eq_decide.2 (by rw[ZCg hB hk,ZCg hB hj,u2 k hk,s2 j]);rw[e];have e2:(decide (nmo items j ∈ Zea items Ms) != decide (nmo items j ∈ Zea items Ms))=false:=by simp
    rw[e2,Zi,ZT (by omega),Zb]
   ·try dsimp only
    rw[dF (by omega),Zi]
   ·try dsimp only
    rw[ZT (by omega),Zb]
 ·try dsimp only
  rw[List.length_map,dF (by omega),Zi]
 ·try dsimp only
  rw[Zom,Zb]
def dg (i:Nat):List UInt8:=if i<10 then [48+i.toUInt8] else [48+(i / 10).toUInt8,48+(i%10).toUInt8]
theorem Zql:∀ i:Fin 30,Z9d ((i.1:Nat):Int)=some (dg i.1):=by decide +kernel
theorem dg_fin:∀ i j:Fin 30,dg i.1=dg j.1→i=j:=by decide +kernel
theorem ZWg:∀ i:Fin 30,ZLd (110 :: dg i.1)=some true∧ZLd (116 :: dg i.1)=some true:=by decide +kernel
theorem dg_len (i:Nat):(dg i).length≤2:=by unfold dg;split <;> simp
def mpE:Nat→List (List UInt8)→MPd
 | _,[]=>[]
 | k,s :: r=>(s,(k:Int)) :: mpE (k+1) r
theorem ZUh:∀ (k:Nat) (l:List (List UInt8)) (s:List UInt8),mpE k (l++[s])=mpE k l++[(s,((k+l.length:Nat):Int))]
 | _,[],_=>rfl
 | k,a :: l,s=>by
  show (a,(k:Int)) :: mpE (k+1) (l++[s])=(a,(k:Int)) :: (mpE (k+1) l++[(s,((k+(l.length+1):Nat):Int))])
  rw[ZUh (k+1) l s,show k+1+l.length=k+(l.length+1) by omega]
theorem ZSg:∀ (k:Nat) (l:List (List UInt8)) (s:List UInt8),s ∉ l→ZH (mpE k l) s=none
 | _,[],_,_=>rfl
 | k,a :: l,s,h=>by
  have h1:a≠s:=λe=>h (by simp[e])
  show (if a=s then some (k:Int) else ZH (mpE (k+1) l) s)=none
  rw[iN h1]
  exact ZSg (k+1) l s λhm=>h (by simp[hm])
theorem ZXi:∀ (k:Nat) (l:List (List UInt8)) (s:List UInt8) (i:Nat),l.Nodup→l[i]? = some s→ZH (mpE k l) s=some ((k+i:Nat):Int)
 | _,[],_,_,_,h=>by simp at h
 | k,a :: l,s,0,_,h=>by
  have h:a=s:=by simpa using h
  subst h
  show (if a=a then some (k:Int) else _)=_
  rw[iP rfl];rfl
 | k,a :: l,s,i+1,hn,h=>by
  have h:l[i]? = some s:=by simpa using h
  have h1:a≠s:=λe=>(List.nodup_cons.1 hn).1 (e ▸ mG h)
  show (if a=s then some (k:Int) else ZH (mpE (k+1) l) s)=_
  rw[iN h1,ZXi (k+1) l s i (List.nodup_cons.1 hn).2 h,show k+1+i=k+(i+1) by omega]
structure BI (items:List Itm) (mp:Option MPd):Prop where
 bk:BK items mp
 mp_:mp=if items=[] then none else some (mpE 0 (items.map (·.1)))
 nd:(items.map (·.1)).Nodup
 nm:∀ (i:Nat) (x:Itm),items[i]? = some x→x.1=110 :: dg i∨x.1=116 :: dg i
 tm:∀ (i:Nat) (x:Itm),items[i]? = some x→x.2.2.1=(i:Int)
section
variable {items:List Itm} {mp:Option MPd}
theorem mp_at (hn:(items.map (·.1)).Nodup) (hm:mp=if items=[] then none else some (mpE 0 (items.map (·.1)))) {i:Nat} {x:Itm} (h:items[i]? = some x):Zh mp x.1=some (i:Int):=by
 have hne:items≠[]:=λe=>by rw[e]at h;simp at h
 rw[hm,iN hne];show ZH (mpE 0 (items.map (·.1))) x.1=_;rw[ZXi 0 _ x.1 i hn (by rw[List.getElem?_map,h];rfl),Nat.zero_add]
theorem BI.none_ (hB:BI items mp) {s:List UInt8} (h:s ∉ items.map (·.1)):Zh mp s=none:=by
 rw[hB.mp_];split
 ·rfl
 ·exact ZSg 0 _ s h
theorem BI.fresh (hB:BI items mp) {n:Nat} (hn:n=items.length) (h30:n<30) {s:List UInt8} (hs:s=110 :: dg n∨s=116 :: dg n):s ∉ items.map (·.1):=by
 intro hm;obtain⟨x,hx,rfl⟩:=List.mem_map.1 hm;obtain⟨i,hi⟩:=List.getElem?_of_mem hx;have hil:=(List.getElem?_eq_some_iff.1 hi).1;have hd:dg i=dg n:=by
  rcases hB.nm i x hi with h1 | h1 <;> rcases hs with h2 | h2 <;> rw[h1]at h2 <;> first
   | exact (List.cons.inj h2).2
   | exact absurd (List.cons.inj h2).1 (by decide)
 have:=dg_fin ⟨i,by omega⟩ ⟨n,h30⟩ hd;have:=congrArg Fin.val this;simp at this;omega
theorem ZVi {x:Itm} (h:x.2.2.2.length≤8) (h2:∀ c ∈ x.2.2.2,c.length≤8):ZFd x=some x:=by
 unfold ZFd;rw[Zyj (by omega),Zb];refine ZP (Zoc (λk=>((k:Int),x.2.2.2)) x.2.2.2.length rfl (by omega) (λk hk=>?_) ?_ (r:=x.2.2.2)) rfl
 ·try dsimp only
  have:=h2 _ (List.getElem_mem hk);rw[dT (by omega),Zq,ZQa hk,Zb,Zyj (by omega),Zb,Zb,ZT (by omega),Zb,Int.toNat_natCast,List.set_getElem_self]
 ·try dsimp only
  rw[dF (by omega),Zi]
theorem get_ok (hB:BI items mp) {k:Nat} {x:Itm} (h:items[k]? = some x):Zoe (items,mp) x.1=some ((items,mp),x,0):=by
 have hsz:=hB.bk.szs x (mG h);unfold Zoe
 try dsimp only
 rw[hB.bk.at_ k x h];rw[show ((some (k:Int)).isSome)=true from rfl,Zq,Zb]
 try dsimp only
 rw[show ((0:Int) != 0)=false from rfl,Zi];show bnd (idx items (k:Int)) _=_;rw[Zwa h,Zb,ZVi hsz.1 hsz.2,Zb]
structure New (items:List Itm) (x:Itm):Prop where
 name:x.1=110 :: dg items.length∨x.1=116 :: dg items.length
 kind:0≤x.2.1∧x.2.1≤3
 time:x.2.2.1=(items.length:Int)
 lot:x.2.1=0↔x.2.2.2=[]
 len:x.2.2.2.length≤2
 ch:∀ c ∈ x.2.2.2,1≤c.length∧c.length≤2∧c.Nodup∧∀ s ∈ c,∃ (j:Nat) (y:Itm),items[j]? = some y∧y.1=s∧y.2.1≠3
theorem Ztk (hB:BI items mp) (hn:items.length<30) {x:Itm} (hx:New items x):∃ mp',Zie (items,mp) x=some ((items++[x],mp'),0)∧BI (items++[x]) mp':=by
  have hfresh:=hB.fresh rfl hn hx.name;have hlen:=hx.len;have hname:ZLd x.1=some true:=by
    rcases hx.name with h | h <;> rw[h]
    · exact (ZWg ⟨items.length,hn⟩).1
    · exact (ZWg ⟨items.length,hn⟩).2
  have hnd:((items++[x]).map (·.1)).Nodup:=by
    rw[List.map_append,List.map_cons,List.map_nil];exact List.nodup_append.2 ⟨hB.nd,by simp,λa ha b hb=>by rw[List.mem_singleton.1 hb];exact λe=>hfresh (e ▸ ha)⟩
  have hat:∀ (i:Nat) (y:Itm),(items++[x])[i]? = some y→(i<items.length∧items[i]? = some y)∨(i=items.length∧y=x):=λi y h=>by
    rcases Nat.lt_or_ge i items.length with h1 | h1
    · rw[List.getElem?_append_left h1]at h;exact .inl ⟨h1,h⟩
    · rw[List.getElem?_append_right h1]at h
      cases hk:i-items.length with
      | zero=>rw[hk]at h;exact .inr ⟨by omega,by simpa using h.symm⟩
      | succ q=>rw[hk]at h;simp at h
  have hmp:(some (mpE 0 ((items++[x]).map (·.1))):Option MPd)=if items++[x]=[] then none else some (mpE 0 ((items++[x]).map (·.1))):=by rw[iN (by simp)]
  have hnew:BI (items++[x]) (some (mpE 0 ((items++[x]).map (·.1)))):=by
    have hat2:∀ (i:Nat) (y:Itm),(items++[x])[i]? = some y→Zh (some (mpE 0 ((items++[x]).map (·.1)))) y.1=some (i:Int):=λi y h=>mp_at hnd hmp h;refine⟨⟨by simp;omega,hat2,λi y h c hc s hs=>?_,λy hy=>?_⟩,hmp,hnd,λi y h=>?_,λi y h=>?_⟩
    · rcases hat i y h with ⟨h1,h2⟩ | ⟨h1,rfl⟩
      · obtain⟨j,hj,hm⟩:=hB.bk.from_ i y h2 c hc s hs;have hjl:j<items.length:=by omega
        have hz:=List.getElem?_eq_getElem hjl;generalize items[j]=z at hz;have e:=hB.bk.at_ j z hz;have hsz:s=z.1:=by
          have:∃ q:Nat,∃ z':Itm,items[q]? = some z'∧z'.1=s:=by
            by_cases hmem:s ∈ items.map (·.1)
            · obtain⟨z',hz',e'⟩:=List.mem_map.1 hmem;obtain⟨q,hq⟩:=List.getElem?_of_mem hz';exact⟨q,z',hq,e'⟩
            · rw[hB.none_ hmem]at hm;cases hm
          obtain⟨q,z',hq,e'⟩:=this;have e2:=hB.bk.at_ q z' hq;rw[e',hm]at e2;have:=Option.some.inj e2;have hqj:q=j:=by omega
          subst hqj;rw[hz]at hq;cases hq;exact e'.symm
        refine⟨j,hj,?_⟩;rw[hsz];exact hat2 j z (by rw[List.getElem?_append_left hjl];exact hz)
      · obtain⟨_,_,_,h4⟩:=hx.ch c hc;obtain⟨j,z,hz,e,_⟩:=h4 s hs;have hjl:=(List.getElem?_eq_some_iff.1 hz).1;refine⟨j,by omega,?_⟩;rw[← e];exact hat2 j z (by rw[List.getElem?_append_left hjl];exact hz)
    · rcases List.mem_append.1 hy with hy | hy
      · exact hB.bk.szs y hy
      · rw[List.mem_singleton.1 hy];exact⟨by omega,λc hc=>by have:=(hx.ch c hc).2.1;omega⟩
    · rcases hat i y h with ⟨h1,h2⟩ | ⟨h1,rfl⟩
      · exact hB.nm i y h2
      · rw[h1];exact hx.name
    · rcases hat i y h with ⟨h1,h2⟩ | ⟨h1,rfl⟩
      · exact hB.tm i y h2
      · rw[h1];exact hx.time
  refine⟨_,?_,hnew⟩;unfold Zie
  try dsimp only
  refine ZP (y:=0) ?_ ?_
  · refine ZP (y:=false) ?_ ?_
    · rw[hname,Zb,show (!true)=false from rfl,Zi,dF (by have:=hx.kind;omega),Zi,dF (by have:=hx.kind;omega),Zi,dF (by have:=hx.time;omega),Zi];congr 1;have h1:((x.2.2.2.length:Int)==(0:Int))=(x.2.1==(0:Int)):=by
        apply Bool.eq_iff_iff.2;simp only[beq_iff_eq];rw[hx.lot];constructor
        · intro h;exact List.eq_nil_of_length_eq_zero (by omega)
        · intro h;rw[h];rfl
      rw[h1];simp
    rw[Zi];refine ZP (y:=false) ?_ ?_
    · rw[dF (by omega),Zi];obtain⟨z,hz,hd⟩:=ZUd x.2.2.2 (λc=>decide ((c.length:Int)<1) || decide ((8:Int)<(c.length:Int))) (by omega) (body:=λs3 =>
        ifb (decide (s3<(x.2.2.2.length:Int)))
        (bnd (idx x.2.2.2 s3) λy4 =>
         bnd (α:=Bool)
         (ifb (decide ((y4.length:Int)<(1:Int)))
          (some true)
          (some (decide ((8:Int)<(y4.length:Int))))) λx5 =>
         ifb x5
         (some (.inr (.inr s3)))
         (bnd (chk .i64 (s3+(1:Int))) λy6 =>
          some (.inl y6)))
        (some (.inr (.inl ())))) (λi c hc=>by
          have hi:=(List.getElem?_eq_some_iff.1 hc).1
          try dsimp only
          rw[dT (by omega),Zq,Zwa hc,Zb]
          cases h1:decide ((c.length:Int)<1) with
          | true=>rw[Zq,Zb,Zq];rfl
          | false =>
            rw[Zi,Zb]
            cases h2:decide ((8:Int)<(c.length:Int)) with
            | true=>rw[Zq];rfl
            | false=>rw[Zi,ZXb (by omega) (by omega),Zb];rfl) (by
          try dsimp only
          rw[dF (by omega),Zi])
      refine ZP hz ?_;rw[hd];congr 1;rw[List.any_eq_false];intro c hc;obtain⟨h1,h2,_⟩:=hx.ch c hc;rw[dF (by omega),dF (by omega)];decide
    rw[Zi,hB.none_ hfresh,show ((none:Option Int).isSome)=false from rfl,Zi];refine ZP (Zoc (λk=>(k:Int)) x.2.2.2.length rfl (by omega) (λk hk=>?_) ?_ (r:=.inl ())) ?_
    · try dsimp only
      have hc:x.2.2.2[k] ∈ x.2.2.2:=List.getElem_mem hk;rw[dT (by omega),Zq,ZQa hk,Zb];generalize x.2.2.2[k]=c at hc;obtain⟨c1,c2,c3,c4⟩:=hx.ch c hc;refine ZP (Zoc (λk=>(k:Int)) c.length rfl (by omega) (λj hj=>?_) ?_ (r:=.inl ())) ?_
      · try dsimp only
        have hs:c[j] ∈ c:=List.getElem_mem hj;rw[dT (by omega),Zq,ZQa hj,Zb];have htk:c[j] ∉ c.take j:=by
          intro hm;obtain⟨q,hq,e⟩:=List.getElem_of_mem hm;have hq1:q<j:=by simp at hq;omega
          rw[List.getElem_take]at e;exact (List.pairwise_iff_getElem.1 c3 q j (by omega) hj hq1) e
        generalize c[j]=s at hs htk;obtain⟨q,y,hy,e,hk3⟩:=c4 s hs;have hq:=(List.getElem?_eq_some_iff.1 hy).1;have hm:=hB.bk.at_ q y hy;rw[e]at hm;rw[hm,show (!((some (q:Int)).isSome))=false from rfl,Zi];show bnd (idx items (q:Int)) _=_;rw[Zwa hy,Zb];have hk3':(y.2.1==(3:Int))=false:=by simpa using hk3
        rw[hk3',Zi];show bnd (idx items (q:Int)) _=_;rw[Zwa hy,Zb,dF (by rw[hx.time,hB.tm q y hy];omega),Zi];have hcut:ZKa c (0:Int) (j:Int)=some (c.take j):=by
          unfold ZKa;rw[iP ⟨by omega,by omega,by omega⟩];simp
        rw[hcut,Zb,Z6e (by rw[List.length_take];omega),Zb,dF htk,Zi,ZT (by omega),Zb]
      · try dsimp only
        rw[dF (by omega),Zi]
      · try dsimp only
        rw[ZT (by omega),Zb]
    · try dsimp only
      rw[dF (by omega),Zi]
    · rfl
  · rw[show ((0:Int) != 0)=false from rfl,Zi,dF (by omega),Zi];have hput:∃ m0,(ifb mp.isNone (some (items,(some []:Option MPd))) (some (items,mp)))=some (items,some m0)∧m0=mpE 0 (items.map (·.1)):=by
      rw[hB.mp_];by_cases h:items=[]
      · rw[iP h];exact⟨[],rfl,by rw[h];rfl⟩
      · rw[iN h];exact⟨_,rfl,rfl⟩
    obtain⟨m0,h1,h2⟩:=hput;refine ZP h1 ?_
    try dsimp only
    have hp:ZVc (some m0) x.1 (items.length:Int)=some (some (mpE 0 ((items++[x]).map (·.1)))):=by
      unfold ZVc;rw[h2];simp only;rw[ZSg 0 _ x.1 hfresh];simp only;rw[List.map_append,List.map_cons,List.map_nil,ZUh,List.length_map,Nat.zero_add]
    rw[hp,Zb,ZVi (by omega) (λc hc=>by have:=(hx.ch c hc).2.1;omega),Zb,ZXc (by rw[lA,List.length_singleton];omega),Zb]
end
theorem Zdf {k:IntKind} {p q:Nat} (hq:0<q):rem k (p:Int) (q:Int)=some ((p%q:Nat):Int):=by
 unfold rem;rw[iN (by omega)];congr 1
theorem ZUg {p:Nat} (h:p≤9223372036854775807):IntKind.i64.wrap (p:Int)=(p:Int):=ZIc (Z2a.2 ⟨by omega,by omega⟩)
def U4 (x:Int×Int×Int×Int):Prop:=(0≤x.1∧x.1≤255)∧(0≤x.2.1∧x.2.1≤255)∧(0≤x.2.2.1∧x.2.2.1≤255)∧0≤x.2.2.2∧x.2.2.2≤255
theorem ZVe {x:Int} (h:0≤x):∃ p:Nat,x=(p:Int):=⟨x.toNat,by omega⟩
def Fre (items:List Itm) (s:List UInt8):Prop:=∃ (j:Nat) (y:Itm),items[j]? = some y∧y.1=s∧y.2.1≠3
theorem ZZg {S R Y Z:Type} {g:Y→Z} {P:Y→Prop} {body:S→Option (S ⊕ R)} {s:S} {f:R→Option Z} (I:Nat→S→Prop) (Q:R→Prop) (n:Nat) (h0:I 0 s) (hn:n<2^64)
  (h:∀ k s,k<n→I k s→(∃ s',body s=some (.inl s')∧I (k+1) s') ∨ ∃ r,body s=some (.inr r)∧Q r)
  (he:∀ s,I n s→∃ r,body s=some (.inr r)∧Q r) (hf:∀ r,Q r→∃ y,f r=some (g y)∧P y):∃ y,bnd (Zl body Zu s) f=some (g y)∧P y:=by
 obtain⟨r,h1,h2⟩:=Z3b I Q n h0 hn h he;obtain⟨y,h3,h4⟩:=hf r h2;exact⟨y,ZP h1 h3,h4⟩
theorem Z9c {X Y Z:Type} {g:Y→Z} {P:Y→Prop} (Q:X→Prop) {x:Option X} {f:X→Option Z} (h:∃ a,x=some a∧Q a) (hf:∀ a,Q a→∃ y,f a=some (g y)∧P y):∃ y,bnd x f=some (g y)∧P y:=by
 obtain⟨a,h1,h2⟩:=h;obtain⟨y,h3,h4⟩:=hf a h2;exact⟨y,ZP h1 h3,h4⟩
theorem ZXk {l:List (Int×Int×Int×Int)} (hl:∀ x ∈ l,U4 x):∃ z,Zhd l=some z∧∃ items mp,z=((items,mp),items.map (·.1),true)∧BK items mp:=by
 unfold Zhd;refine ZZg (g:=id) (λk s=>∃ items mp,s=(items.map (·.1),(k:Int),items,mp)∧BI items mp∧items.length=k)
  (λr=>∃ items mp,r = .inl (items.map (·.1),items,mp)∧BK items mp) (min l.length 30) ⟨[],none,rfl,⟨⟨by simp,λi x h=>(by simp at h),λi x h=>(by simp at h),λx h=>(by cases h)⟩,rfl,by simp,λi x h=>(by simp at h),λi x h=>(by simp at h)⟩,rfl⟩ (by omega) (λk s hk ⟨items,mp,e,hB,hkl⟩=>?_) (λs ⟨items,mp,e,hB,hkl⟩=>?_) λr ⟨items,mp,e,hB⟩=>?_
 ·subst e;refine .inl ?_;have hk1:k<l.length:=by omega
  have hk30:k<30:=by omega
  try dsimp only
  rw[dT (by omega),Zq,ZQa hk1,Zb,dF (by omega),Zi,Zql ⟨k,hk30⟩,Zb];have hdl:=dg_len k;have hu:=hl _ (List.getElem_mem hk1);generalize l[k]=y at hu;obtain⟨y0,y1,y2,y3⟩:=y;obtain⟨⟨u0,u0'⟩,⟨u1,u1'⟩,⟨u2,u2'⟩,u3,u3'⟩:=hu
  try dsimp only at u0 u0' u1 u1' u2 u2' u3 u3' ⊢
  obtain⟨p0,rfl⟩:=ZVe u0;obtain⟨p1,rfl⟩:=ZVe u1;obtain⟨p2,rfl⟩:=ZVe u2;obtain⟨p3,rfl⟩:=ZVe u3;rw[ZBj (by simp;omega),Zb,show (4:Int)=((4:Nat):Int) from rfl,Zdf (by omega),Zb];refine ZZg (g:=Sum.inl) (λj s=>∃ fr:List (List UInt8),s=(fr,(j:Int),items,mp)∧fr.length≤j∧∀ s ∈ fr,Fre items s)
   (λr=>∃ fr:List (List UInt8),r = .inl (fr,items,mp)∧fr.length≤items.length∧∀ s ∈ fr,Fre items s) items.length ⟨[],rfl,Nat.le_refl _,λs h=>(by cases h)⟩ (by omega) (λj s hj ⟨fr,e,hfl,hfr⟩=>?_) (λs ⟨fr,e,hfl,hfr⟩=>?_) λr ⟨fr,e,hfl,hfr⟩=>?_
  ·subst e;refine .inl ?_;have hx:=List.getElem?_eq_getElem hj;generalize items[j]=x at hx;have hix:idx (items.map (·.1)) (j:Int)=some x.1:=Zwa (by rw[List.getElem?_map,hx];rfl)
   try dsimp only
   rw[List.length_map,dT (by omega),Zq,hix,Zb,get_ok hB hx,Zb]
   try dsimp only
   rw[show ((0:Int) != 0)=false from rfl,Zi]
   cases h3:x.2.1 != (3:Int) with
   | true =>
    rw[Zq,ZXc (by rw[lA,List.length_singleton];omega),Zb,Zb,ZT (by omega),Zb];refine⟨_,rfl,_,rfl,by rw[lA,List.length_singleton];omega,λs hs=>?_⟩;rcases List.mem_append.1 hs with hs | hs
    ·exact hfr s hs
    ·rw[List.mem_singleton.1 hs];exact⟨j,x,hx,rfl,by simpa using h3⟩
   | false =>
    rw[Zi,Zb,ZT (by omega),Zb];exact⟨_,rfl,fr,rfl,by omega,hfr⟩
  ·subst e
   try dsimp only
   rw[List.length_map,dF (by omega),Zi];exact⟨_,rfl,fr,rfl,hfl,hfr⟩
  ·subst e
   try dsimp only
   refine Z9c (g:=Sum.inl) (λx=>∃ kd:Int,x=(110 :: dg k,kd,(k:Int),([]:List (List (List UInt8))))∧0≤kd∧kd≤3∧(kd≠0→fr≠[])) ?_ λx ⟨kd,e,k0,k3,kf⟩=>?_
   ·cases h:((fr.length:Int)==0) with
    | true =>
     rw[Zq];exact⟨_,rfl,0,rfl,by omega,by omega,λh=>absurd rfl h⟩
    | false =>
     rw[Zi,ZUg (by omega)];refine⟨_,rfl,_,rfl,by omega,by omega,λ_ e=>?_⟩;rw[e]at h;cases h
   subst e
   try dsimp only
   refine Z9c (g:=Sum.inl) (λx=>∃ nm,x=(nm,kd,(k:Int),([]:List (List (List UInt8))))∧(nm=110 :: dg k∨nm=116 :: dg k)) ?_ λx ⟨nm,e,hnm⟩=>?_
   ·cases h:(kd==3) with
    | true =>
     rw[Zq,Zb,ZBj (by simp;omega),Zb];exact⟨_,rfl,_,rfl,.inr rfl⟩
    | false =>
     rw[Zi];exact⟨_,rfl,_,rfl,.inl rfl⟩
   subst e
   try dsimp only
   have mkNew:∀ fm:List (List (List UInt8)),(kd=0↔fm=[])→fm.length≤2→(∀ c ∈ fm,1≤c.length∧c.length≤2∧c.Nodup∧∀ s ∈ c,Fre items s)→New items (nm,kd,(k:Int),fm):=λfm h1 h2 h3 =>
    ⟨by rw[hkl];exact hnm,⟨k0,k3⟩,by rw[hkl],h1,h2,h3⟩
   refine Z9c (g:=Sum.inl) (λx=>x.1=nm∧New items x) ?_ λx ⟨hx1,hx⟩=>?_
   ·cases h:(kd != 0) with
    | false =>
     have hkd:kd=0:=by simpa using h
     rw[Zi];exact⟨_,rfl,rfl,mkNew [] (by simp[hkd]) (by simp) λc hc=>(by cases hc)⟩
    | true =>
     have hkd:kd≠0:=by simpa using h
     have hpos:0<fr.length:=List.length_pos_iff.2 (kf hkd);rw[Zq,ZUg (by omega),Zdf hpos,Zb,ZQa (Nat.mod_lt _ hpos),Zb,ZUg (by omega),Zdf hpos,Zb,ZQa (Nat.mod_lt _ hpos),Zb];have ha:=hfr _ (List.getElem_mem (Nat.mod_lt p1 hpos));have hb:=hfr _ (List.getElem_mem (Nat.mod_lt p2 hpos));generalize fr[p1%fr.length]'(Nat.mod_lt p1 hpos)=s1 at ha;generalize fr[p2%fr.length]'(Nat.mod_lt p2 hpos)=s2 at hb;have one:∀ {s:List UInt8},Fre items s→1≤[s].length∧[s].length≤2∧[s].Nodup∧∀ q ∈ [s],Fre items q:=λ{s} hs=>⟨by simp,by simp,by simp,λq hq=>by rw[List.mem_singleton.1 hq];exact hs⟩;rw[show (3:Int)=((3:Nat):Int) from rfl,Zdf (by omega),Zb];refine Z9c (g:=id) (λx:Bool=>x=true→s1≠s2) ?_ λx20 h20=>?_
     ·cases h:((((p3%3:Nat):Int))==(0:Int)) with
      | true=>rw[Zq];exact⟨_,rfl,λh=>by simpa using h⟩
      | false=>rw[Zi];exact⟨_,rfl,λh=>by cases h⟩
     refine Z9c (g:=id) (λx=>∃ fm,x=(nm,kd,(k:Int),fm)∧(kd=0↔fm=[])∧fm.length≤2∧∀ c ∈ fm,1≤c.length∧c.length≤2∧c.Nodup∧∀ s ∈ c,Fre items s) ?_ λx23 ⟨fm,e,h1,h2,h3⟩=>?_
     ·cases x20 with
      | true =>
       have hne:=h20 rfl;rw[Zq];refine⟨_,rfl,_,rfl,by simp[hkd],by simp,λc hc=>?_⟩;rw[List.mem_singleton.1 hc];refine⟨by simp,by simp,by simpa using hne,λq hq=>?_⟩;rcases List.mem_cons.1 hq with rfl | hq
       ·exact ha
       ·rw[List.mem_singleton.1 hq];exact hb
      | false =>
       rw[Zi,Zb];refine Z9c (g:=id) (λx=>∃ fm,x=(nm,kd,(k:Int),fm)∧(kd=0↔fm=[])∧fm.length≤2∧∀ c ∈ fm,1≤c.length∧c.length≤2∧c.Nodup∧∀ s ∈ c,Fre items s) ?_ λx22 ⟨fm,e,h1,h2,h3⟩=>?_
       ·cases h:((((p3%3:Nat):Int))==(1:Int)) with
        | true =>
         rw[Zq,ZXc (by simp),Zb];refine⟨_,rfl,_,rfl,by simp[hkd],by simp,λc hc=>?_⟩;rcases List.mem_append.1 hc with hc | hc
         ·rw[List.mem_singleton.1 hc];exact one ha
         ·rw[List.mem_singleton.1 hc];exact one hb
        | false =>
         rw[Zi];refine⟨_,rfl,_,rfl,by simp[hkd],by simp,λc hc=>?_⟩;rw[List.mem_singleton.1 hc];exact one ha
       ·subst e;exact⟨_,rfl,fm,rfl,h1,h2,h3⟩
     ·subst e;exact⟨_,rfl,rfl,mkNew fm h1 h2 h3⟩
   ·obtain⟨mp',he,hB'⟩:=Ztk hB (by omega) hx;rw[he,Zb]
    try dsimp only
    rw[show ((0:Int) != 0)=false from rfl,Zi,ZXc (by rw[lA,List.length_map,List.length_singleton];omega),Zb,ZT (by omega),Zb];exact⟨_,rfl,items++[x],mp',by rw[List.map_append];rfl,hB',by simp[hkl]⟩
 ·subst e
  try dsimp only
  rcases Nat.lt_or_ge l.length 31 with h | h
  ·rcases Nat.lt_or_ge l.length 30 with h2 | h2
   ·rw[dF (by omega),Zi];exact⟨_,rfl,items,mp,rfl,hB.bk⟩
   ·rw[dF (by omega),Zi];exact⟨_,rfl,items,mp,rfl,hB.bk⟩
  ·have e30:(min l.length 30)=30:=by omega
   rw[e30,dT (by omega),Zq,ZQa (show 30<l.length by omega),Zb];rw[show decide ((30:Int)≤((30:Nat):Int))=true from by decide,Zq];exact⟨_,rfl,items,mp,rfl,hB.bk⟩
 ·subst e;exact⟨_,rfl,items,mp,rfl,hB⟩
theorem ZIl {l:List (Int×Int×Int×Int)} (hl:∀ x ∈ l,U4 x):ZMd l=some true:=by
 obtain⟨z,h1,items,mp,rfl,hB⟩:=ZXk hl;exact Zvl hB h1
end Go.Eng
namespace Go.Eng
open Go.RowKit
theorem ZZl {α:Type} {A:Rep α} {v:Za} {cs:List Value} {l:List α} (h:(Zo A).rel v cs l) {x:α} (hx:x ∈ l):∃ c,A.rel v c x:=by
 obtain⟨q,cap,rfl,h1,h2,h3⟩:=h;rcases h3 with rfl | ⟨b,off,c,T,fr,e,hb,hr⟩
 ·cases hx
 ·obtain⟨i,hi,rfl⟩:=List.getElem_of_mem hx;exact⟨_,ZWa hr (List.getElem?_eq_getElem hi)⟩
end Go.Eng
namespace Go.Eng
open Go.RowKit Go.WideShapes Go.ChangeShapes
theorem dropN {cs:List Value} (m n:Nat):cs.drop m=(cs.drop m).take n++cs.drop (m+n):=by
 rw[← List.drop_drop,List.take_append_drop]
theorem Ztm {P:Program} {t e:TypeId} {α:Type} {A:Rep α} (ht:P.underlying t=some (.array 4 e)) (hA:ZVb P e A) (ce:P.cellsOf e=A.n) (ct:P.cellsOf t=A.n+(A.n+(A.n+A.n))):ZVb P t (ZI A (ZI A (ZI A A))):=by
 intro H enc W fuel cs x h;obtain⟨xs,m,_,_,hl,hx,hf⟩:=DataW.trod_array ht h;have h0:=hf 0 (by omega);have h1:=hf 1 (by omega);have h2:=hf 2 (by omega);have h3:=hf 3 (by omega);rw[ce]at h0 h1 h2 h3;rw[List.getElem?_eq_getElem (by omega)]at h0 h1 h2 h3;rw[Nat.zero_mul,List.drop_zero]at h0;rw[Nat.one_mul]at h1;obtain⟨a,ha⟩:=hA _ _ _ _ _ _ h0;obtain⟨b,hb⟩:=hA _ _ _ _ _ _ h1;obtain⟨c,hc⟩:=hA _ _ _ _ _ _ h2;obtain⟨d,hd⟩:=hA _ _ _ _ _ _ h3;rw[List.take_of_length_le (by rw[List.length_drop,hl,ct];omega)]at hd;refine⟨(a,b,c,d),cs.take A.n,cs.drop A.n,(List.take_append_drop _ _).symm,ha,(cs.drop A.n).take A.n,cs.drop (2*A.n),?_,hb,(cs.drop (2*A.n)).take A.n,cs.drop (3*A.n),?_,hc,hd⟩
 ·rw[show 2*A.n=A.n+A.n by omega];exact dropN _ _
 ·rw[show 3*A.n=2*A.n+A.n by omega];exact dropN _ _
end Go.Eng
namespace Go.Eng
open Go.RowKit
def Old (m:Nat) (f:Fr) (l:Lo) (f':Fr) (l':Lo):Prop:=(∀ t e,lkE f' t=some e→e.st<m→lkE f t=some e)∧∀ u e,lkE l' u=some e→e.st<m→lkE l u=some e
theorem Old.refl {m:Nat} {f:Fr} {l:Lo}:Old m f l f l:=⟨λ_ _ h _=>h,λ_ _ h _=>h⟩
theorem Old.trans {m m':Nat} {f f' f'':Fr} {l l' l'':Lo} (h:Old m f l f' l') (k:Old m' f' l' f'' l'') (hm:m≤m'):Old m f l f'' l'' :=
 ⟨λt e he hs=>h.1 t e (k.1 t e he (by omega)) hs,λt e he hs=>h.2 t e (k.2 t e he (by omega)) hs⟩
theorem Old.mono {m m':Nat} {f f':Fr} {l l':Lo} (h:Old m' f l f' l') (hm:m≤m'):Old m f l f' l':=⟨λt e he hs=>h.1 t e he (by omega),λt e he hs=>h.2 t e he (by omega)⟩
theorem Old.put {m n:Nat} {f:Fr} {l:Lo} {d:Nat} {x:V} (h:m≤n):Old m f l (⟨d,n,x⟩ :: f) l:=by
 refine⟨λt e he hs=>?_,λ_ _ h _=>h⟩;rw[Zm]at he;split at he
 ·cases he;exact absurd hs (by show ¬ n<m;omega)
 ·exact he
theorem Old.dup {m:Nat} {f:Fr} {l:Lo} {t:Nat} {e:En V} (h:lkE f t=some e):Old m f l (e :: f) l:=by
 obtain⟨_,hk⟩:=Ze h;refine⟨λt' e' he _=>?_,λ_ _ h _=>h⟩;rw[Zm]at he;split at he
 ·rename_i hk';cases he;rw[← hk',hk];exact h
 ·exact he
theorem Ztb {ρ:Type} {n m:Nat} (hm:m≤n) {f0:Fr} {l0:Lo}:∀ {e:Ev ρ} {f:Fr} {l:Lo} {K:ρ→Fr→Lo→Prop},Old m f0 l0 f l→(l.map En.k).Nodup→Zc n e f l K→Zc n e f l λx f' l'=>K x f' l'∧Old m f0 l0 f' l':=by
 intro e;have wr:∀ {f:Fr} {l:Lo} {u:Nat} {L:LV},Old m f0 l0 f l→(l.map En.k).Nodup→Old m f0 l0 f (⟨u,n,L⟩ :: era l u)∧((⟨u,n,L⟩ :: era l u:Lo).map En.k).Nodup:=by
  intro f l u L ho hn;obtain⟨n1,n2⟩:=Zga (t:=u) hn;refine⟨⟨ho.1,λk e he hs=>?_⟩,List.nodup_cons.2 ⟨n2,n1⟩⟩;rw[Zm]at he;split at he
  ·cases he;exact absurd hs (by show ¬ n<m;omega)
  ·rw[Zxa hn]at he;split at he
   ·cases he
   ·exact ho.2 k e he hs
 induction e with
 | fail=>intro f l K ho hn h;exact h
 | done x=>intro f l K ho hn h;exact⟨h,ho⟩
 | rdS t q ih=>intro f l K ho hn h;obtain⟨x,hx,h⟩:=h;exact⟨x,hx,ih _ ho hn h⟩
 | rdL u q ih=>intro f l K ho hn h;obtain⟨x,hx,h⟩:=h;exact⟨x,hx,ih _ _ ho hn h⟩
 | wrS t x e ih=>intro f l K ho hn h;exact ih (ho.trans (Old.put hm) (Nat.le_refl m)) hn h
 | wrL u L e ih=>intro f l K ho hn h;exact ih (wr ho hn).1 (wr ho hn).2 h
 | new u L e ih =>
  intro f l K ho hn h;refine⟨h.1,ih ⟨ho.1,λk e he hs=>?_⟩ (List.nodup_cons.2 ⟨Zqc h.1,hn⟩) h.2⟩;rw[Zm]at he;split at he
  ·cases he;exact absurd hs (by show ¬ n<m;omega)
  ·exact ho.2 k e he hs
 | del u e ih =>
  intro f l K ho hn h;refine ih ⟨ho.1,λk e he hs=>?_⟩ (Zga hn).1 h;rw[Zxa hn]at he;split at he
  ·cases he
  ·exact ho.2 k e he hs
 | bind x q ih=>intro f l K ho hn h;obtain⟨x,hx,h⟩:=h;exact⟨x,hx,ih _ ho hn h⟩
 | test t e1 e2 i1 i2 =>
  intro f l K ho hn h;obtain⟨s,b,h1,h2,h3⟩:=h;have hd:=ho.trans (Old.dup (m:=m) (l:=l) h1) (Nat.le_refl m);exact⟨s,b,h1,λe=>i1 hd hn (h2 e),λe=>i2 hd hn (h3 e)⟩
 | alt b e1 e2 i1 i2=>intro f l K ho hn h;exact⟨λe=>i1 ho hn (h.1 e),λe=>i2 ho hn (h.2 e)⟩
section
variable {N:Nat} {G:V→Value→Prop} {w0:Base} {v0:Za} {U X:Nat→Prop} {f:Fr} {l:Lo} {a:Act} {w:World} {γ:Nat→Gh} {v:Za} {ℓ:List Loc} {n:Nat}
def GoodG (P:Program) (ops:Array Oper) (N:Nat) (G:V→Value→Prop) (w0:Base) (v0:Za) (X:Nat→Prop) (o:Oper) (a:Act) (w:World) (Post:Unit→Fr→Lo→Prop):Prop :=
 (Region.wanted o (yielded ops a.tmps)=true∧Zz P N G w0 v0 X o a w Post)∨(Region.wanted o (yielded ops a.tmps)=false∧∃ f' l',Post () f' l'∧Rel N G w0 v0 X f' l' (a.put o.dst undef) w)
theorem ZDe (hr:RelX N G w0 v0 U X f l a w γ v ℓ) (hU:∀ k,U k→X k) (hX:X n) {o:Oper} {Post:Unit→Fr→Lo→Prop} (hd:∀ k,o.dst=some k→k<N) (h:Zc n (ZRc o) f l Post):∃ f' l',Post () f' l'∧Rel N G w0 v0 X f' l' (a.put o.dst undef) w:=by
 unfold ZRc at h
 cases hdd:o.dst with
 | none=>rw[hdd]at h;exact⟨f,l,h,γ,v,ℓ,hr.mono hU λ_ h=>h⟩
 | some d=>rw[hdd]at h;exact⟨_,l,h,γ,v,ℓ,(hr.mono hU λ_ h=>h).put (hd d hdd) (x:=.undef) ⟨[undef],rfl,rfl⟩ trivial hX⟩
theorem Z4e {C:Cf} (hC:CfOK C) {ops:Array Oper} (hr:RelX N G w0 v0 U X f l a w γ v ℓ) (hU:∀ k,U k→X k) (hX:X n) (hn:¬ U n) {o:Oper} {Post:Unit→Fr→Lo→Prop} (hds:∀ o ∈ ops.toList,∀ k,o.dst=some k→k<N) (hd:∀ k,o.dst=some k→k<N)
  (h:Zc n (gop C ops.toList n o) f l Post):GoodG C.P ops N G w0 v0 X o a w Post:=by
 unfold gop at h;split at h
 ·rename_i hg;exact .inl ⟨Zta hg,ZQf hC hr hU hX hn hd h⟩
 ·rename_i j want hg;split at h
  ·rename_i q hq;split at h
   ·rename_i t ht;have htN:t<N:=hds q (mG hq) t ht;have hgd:(ops[j]?).bind (·.dst)=some t:=by rw[← Array.getElem?_toList,hq];exact ht
    obtain⟨e,he,h⟩:=h;obtain⟨σ,hσ,hev⟩:=hr.st.evs [.tmp t];have hl:look σ t=some (a.tmps.getD t undef):=hev (.tmp t) (by simp);have hrv:=hr.fr t e he;obtain⟨ek,est,ex⟩:=e;have hk:ek=t:=(Ze he).2;subst hk
    cases ex with
    | undef =>
     obtain⟨cs,h1,h2⟩:=hrv;have h1:cs=[undef]:=h1;subst h1;have h2:a.tmps.getD ek undef=undef:=h2;rw[h2]at hl;exact .inr ⟨Zdh hσ hg hgd hl htN,ZDe hr hU hX hd h⟩
    | data tt b =>
     cases tt with
     | bool =>
      have h2:=Zzc hrv;have h2:a.tmps.getD ek undef = .bool b:=h2;rw[h2]at hl
      cases want with
      | true =>
       obtain⟨s,b',h3,h4,h5⟩:=h;rw[he]at h3
       cases h3
       cases b with
       | true=>exact .inl ⟨ZYe hσ hg hgd hl htN,ZQf hC (RelX.dup hr he) hU hX hn hd (h4 rfl)⟩
       | false=>exact .inr ⟨Zif hσ hg hgd hl htN,ZDe (RelX.dup hr he) hU hX hd (h5 rfl)⟩
      | false =>
       obtain⟨s,b',h3,h4,h5⟩:=h;rw[he]at h3
       cases h3
       cases b with
       | true=>exact .inr ⟨Zif hσ hg hgd hl htN,ZDe (RelX.dup hr he) hU hX hd (h4 rfl)⟩
       | false=>exact .inl ⟨ZYe hσ hg hgd hl htN,ZQf hC (RelX.dup hr he) hU hX hn hd (h5 rfl)⟩
     | _=>exact h.elim
    | _=>exact h.elim
   ·exact h.elim
  ·exact h.elim
theorem GoodG.list {P:Program} {ops:Array Oper} {Q:Exit→Act→World→Prop} {o:Oper} {rest:List Oper} {Post:Unit→Fr→Lo→Prop} (h:GoodG P ops N G w0 v0 X o a w Post)
  (k:∀ f' l' a' w',Post () f' l'→Rel N G w0 v0 X f' l' a' w'→wpList P ops Q rest a' w'):wpList P ops Q (o :: rest) a w:=by
 rcases h with ⟨hw,hg⟩ | ⟨hw,f',l',h1,h2⟩
 ·exact ZVd hw (ZUc hg λx w' ⟨f',l',h1,h2⟩=>k f' l' _ w' h1 h2)
 ·unfold wpList;rw[iN (by rw[hw];decide)];exact k f' l' _ w h1 h2
end
end Go.Eng
namespace Go.Eng
open Go.RowKit
inductive Et where
 | rS (t:Nat) (e:En V)
 | rL (u:Nat) (e:En LV)
 | wS (e:En V)
 | dup (e:En V)
 | wL (e:En LV)
 | nL (e:En LV)
 | dL (u:Nat)
def okT:List Et→Fr→Lo→Prop
 | [],_,_=>True
 | .rS t e :: τ,f,l=>lkE f t=some e∧okT τ f l
 | .rL u e :: τ,f,l=>lkE l u=some e∧okT τ f l
 | .wS e :: τ,f,l=>okT τ (e :: f) l
 | .dup e :: τ,f,l=>lkE f e.k=some e∧okT τ (e :: f) l
 | .wL e :: τ,f,l=>okT τ f (e :: era l e.k)
 | .nL e :: τ,f,l=>lkE l e.k=none∧okT τ f (e :: l)
 | .dL u :: τ,f,l=>okT τ f (era l u)
def Zza:List Et→Fr→Fr
 | [],f=>f
 | .wS e :: τ,f=>Zza τ (e :: f)
 | .dup e :: τ,f=>Zza τ (e :: f)
 | _ :: τ,f=>Zza τ f
def Zya:List Et→Lo→Lo
 | [],l=>l
 | .wL e :: τ,l=>Zya τ (e :: era l e.k)
 | .nL e :: τ,l=>Zya τ (e :: l)
 | .dL u :: τ,l=>Zya τ (era l u)
 | _ :: τ,l=>Zya τ l
def rdS:List Et→Nat→Prop
 | [],_=>False
 | .rS t _ :: τ,k=>k=t∨rdS τ k
 | .dup e :: τ,k=>k=e.k∨rdS τ k
 | _ :: τ,k=>rdS τ k
def rdL:List Et→Nat→Prop
 | [],_=>False
 | .rL u _ :: τ,k=>k=u∨rdL τ k
 | .nL e :: τ,k=>k=e.k∨rdL τ k
 | _ :: τ,k=>rdL τ k
def Z9:List Et→Nat→Option (Option (En V))
 | [],_=>none
 | .wS e :: τ,t=>match Z9 τ t with
  | some z=>some z
  | none=>if e.k=t then some (some e) else none
 | _ :: τ,t=>Z9 τ t
def ZJ:List Et→Nat→Option (Option (En LV))
 | [],_=>none
 | .wL e :: τ,t=>match ZJ τ t with
  | some z=>some z
  | none=>if e.k=t then some (some e) else none
 | .nL e :: τ,t=>match ZJ τ t with
  | some z=>some z
  | none=>if e.k=t then some (some e) else none
 | .dL u :: τ,t=>match ZJ τ t with
  | some z=>some z
  | none=>if u=t then some none else none
 | _ :: τ,t=>ZJ τ t
def fpT:List Et→Fp→Fp
 | [],p=>p
 | .rS t _ :: τ,p=>fpT τ ⟨bit p.rs t,p.ws,p.rl,p.wl⟩
 | .rL u _ :: τ,p=>fpT τ ⟨p.rs,p.ws,bit p.rl u,p.wl⟩
 | .wS e :: τ,p=>fpT τ ⟨p.rs,bit p.ws e.k,p.rl,p.wl⟩
 | .dup e :: τ,p=>fpT τ ⟨bit p.rs e.k,p.ws,p.rl,p.wl⟩
 | .wL e :: τ,p=>fpT τ ⟨p.rs,p.ws,p.rl,bit p.wl e.k⟩
 | .nL e :: τ,p=>fpT τ ⟨p.rs,p.ws,bit p.rl e.k,bit p.wl e.k⟩
 | .dL u :: τ,p=>fpT τ ⟨p.rs,p.ws,p.rl,bit p.wl u⟩
def Tr {ρ:Type} (n:Nat):Ev ρ→List Et→ρ→Prop
 | .fail,_,_=>False
 | .done r,τ,x=>τ=[]∧x=r
 | .rdS t k,τ,x=>∃ e τ',τ = .rS t e :: τ'∧Tr n (k e.x) τ' x
 | .rdL u k,τ,x=>∃ e τ',τ = .rL u e :: τ'∧Tr n (k e.st e.x) τ' x
 | .wrS t v e,τ,x=>∃ τ',τ = .wS ⟨t,n,v⟩ :: τ'∧Tr n e τ' x
 | .wrL u L e,τ,x=>∃ τ',τ = .wL ⟨u,n,L⟩ :: τ'∧Tr n e τ' x
 | .new u L e,τ,x=>∃ τ',τ = .nL ⟨u,n,L⟩ :: τ'∧Tr n e τ' x
 | .del u e,τ,x=>∃ τ',τ = .dL u :: τ'∧Tr n e τ' x
 | .bind y k,τ,x=>∃ z,y=some z∧Tr n (k z) τ x
 | .test t e1 e2,τ,x=>∃ s b τ',τ = .dup ⟨t,s,.data .bool b⟩ :: τ'∧(b=true→Tr n e1 τ' x)∧(b=false→Tr n e2 τ' x)
 | .alt b e1 e2,τ,x=>(b=true→Tr n e1 τ x)∧(b=false→Tr n e2 τ x)
theorem Zem {ρ α:Type} {n:Nat} {r:α}:∀ {e:Ev ρ} {f:Fr} {l:Lo} {p:Fp} {K:ρ→Fr→Lo→Fp→Option α},Zda n e f l p K=some r→∃ x τ,Tr n e τ x∧okT τ f l∧K x (Zza τ f) (Zya τ l) (fpT τ p)=some r:=by
 intro e
 induction e with
 | fail=>intro f l p K h;cases h
 | done x=>intro f l p K h;exact⟨x,[],⟨rfl,rfl⟩,trivial,h⟩
 | rdS t k ih =>
  intro f l p K h;simp only[Zda]at h;split at h
  ·rename_i e he;obtain⟨x,τ,h1,h2,h3⟩:=ih _ h;exact⟨x,.rS t e :: τ,⟨e,τ,rfl,h1⟩,⟨he,h2⟩,h3⟩
  ·cases h
 | rdL u k ih =>
  intro f l p K h;simp only[Zda]at h;split at h
  ·rename_i e he;obtain⟨x,τ,h1,h2,h3⟩:=ih _ _ h;exact⟨x,.rL u e :: τ,⟨e,τ,rfl,h1⟩,⟨he,h2⟩,h3⟩
  ·cases h
 | wrS t v e ih=>intro f l p K h;obtain⟨x,τ,h1,h2,h3⟩:=ih h;exact⟨x,.wS ⟨t,n,v⟩ :: τ,⟨τ,rfl,h1⟩,h2,h3⟩
 | wrL u L e ih=>intro f l p K h;obtain⟨x,τ,h1,h2,h3⟩:=ih h;exact⟨x,.wL ⟨u,n,L⟩ :: τ,⟨τ,rfl,h1⟩,h2,h3⟩
 | new u L e ih =>
  intro f l p K h;simp only[Zda]at h;split at h
  ·rename_i he;obtain⟨x,τ,h1,h2,h3⟩:=ih h;exact⟨x,.nL ⟨u,n,L⟩ :: τ,⟨τ,rfl,h1⟩,⟨he,h2⟩,h3⟩
  ·cases h
 | del u e ih=>intro f l p K h;obtain⟨x,τ,h1,h2,h3⟩:=ih h;exact⟨x,.dL u :: τ,⟨τ,rfl,h1⟩,h2,h3⟩
 | bind y k ih =>
  intro f l p K h;obtain⟨z,hz,h⟩:=Zbc h;obtain⟨x,τ,h1,h2,h3⟩:=ih _ h;exact⟨x,τ,⟨z,hz,h1⟩,h2,h3⟩
 | test t e1 e2 i1 i2 =>
  intro f l p K h;simp only[Zda]at h;split at h
  ·rename_i k s b hx;obtain⟨_,hk⟩:=Ze hx;have hk:k=t:=hk;subst hk
   cases b with
   | true =>
    obtain⟨x,τ,h1,h2,h3⟩:=i1 h;exact⟨x,.dup ⟨k,s,.data .bool true⟩ :: τ,⟨s,true,τ,rfl,λ_=>h1,λe=>by cases e⟩,⟨hx,h2⟩,h3⟩
   | false =>
    obtain⟨x,τ,h1,h2,h3⟩:=i2 h;exact⟨x,.dup ⟨k,s,.data .bool false⟩ :: τ,⟨s,false,τ,rfl,(λe=>by cases e),λ_=>h1⟩,⟨hx,h2⟩,h3⟩
  ·cases h
 | alt b e1 e2 i1 i2 =>
  intro f l p K h
  cases b with
  | true =>
   obtain⟨x,τ,h1,h2,h3⟩:=i1 h;exact⟨x,τ,⟨λ_=>h1,λe=>by cases e⟩,h2,h3⟩
  | false =>
   obtain⟨x,τ,h1,h2,h3⟩:=i2 h;exact⟨x,τ,⟨(λe=>by cases e),λ_=>h1⟩,h2,h3⟩
theorem ZBf {ρ:Type} {n:Nat}:∀ {e:Ev ρ} {τ:List Et} {x:ρ} {f:Fr} {l:Lo},Tr n e τ x→okT τ f l→Zc n e f l λx' f' l'=>x'=x∧f'=Zza τ f∧l'=Zya τ l:=by
 intro e
 induction e with
 | fail=>intro τ x f l h k;exact h
 | done r=>intro τ x f l h k;obtain⟨rfl,rfl⟩:=h;exact⟨rfl,rfl,rfl⟩
 | rdS t q ih=>intro τ x f l h k;obtain⟨e,τ',rfl,h⟩:=h;exact⟨e,k.1,ih _ (τ:=τ') h k.2⟩
 | rdL u q ih=>intro τ x f l h k;obtain⟨e,τ',rfl,h⟩:=h;exact⟨e,k.1,ih _ _ (τ:=τ') h k.2⟩
 | wrS t v e ih=>intro τ x f l h k;obtain⟨τ',rfl,h⟩:=h;exact ih (τ:=τ') h k
 | wrL u L e ih=>intro τ x f l h k;obtain⟨τ',rfl,h⟩:=h;exact ih (τ:=τ') h k
 | new u L e ih=>intro τ x f l h k;obtain⟨τ',rfl,h⟩:=h;exact⟨k.1,ih (τ:=τ') h k.2⟩
 | del u e ih=>intro τ x f l h k;obtain⟨τ',rfl,h⟩:=h;exact ih (τ:=τ') h k
 | bind y q ih=>intro τ x f l h k;obtain⟨z,hz,h⟩:=h;exact⟨z,hz,ih _ h k⟩
 | test t e1 e2 i1 i2=>intro τ x f l h k;obtain⟨s,b,τ',rfl,h1,h2⟩:=h;exact⟨s,b,k.1,λe=>i1 (τ:=τ') (h1 e) k.2,λe=>i2 (τ:=τ') (h2 e) k.2⟩
 | alt b e1 e2 i1 i2=>intro τ x f l h k;exact⟨λe=>i1 (h.1 e) k,λe=>i2 (h.2 e) k⟩
theorem Zdb:∀ {τ:List Et} {f:Fr} {l:Lo} {t:Nat},okT τ f l→lkE (Zza τ f) t=(Z9 τ t).getD (lkE f t)
 | [],_,_,_,_=>rfl
 | .rS _ _ :: τ,_,_,_,h=>Zdb (τ:=τ) h.2
 | .rL _ _ :: τ,_,_,_,h=>Zdb (τ:=τ) h.2
 | .wL _ :: τ,_,_,_,h=>Zdb (τ:=τ) h
 | .nL _ :: τ,_,_,_,h=>Zdb (τ:=τ) h.2
 | .dL _ :: τ,_,_,_,h=>Zdb (τ:=τ) h
 | .wS e :: τ,f,l,t,h=>by
  have:=Zdb (t:=t) (show okT τ (e :: f) l from h)
  simp only[Zza,Z9]
  rw[this,Zm]
  cases Z9 τ t with
  | some z=>rfl
  | none=>by_cases h:e.k=t <;> simp[h]
 | .dup e :: τ,f,l,t,h=>by
  have:=Zdb (t:=t) (show okT τ (e :: f) l from h.2)
  simp only[Zza,Z9]
  rw[this,Zm]
  congr 1
  by_cases hk:e.k=t
  ·rw[iP hk,← hk,h.1]
  ·rw[iN hk]
theorem ZSa:∀ {τ:List Et} {f:Fr} {l:Lo},(l.map En.k).Nodup→okT τ f l→((Zya τ l).map En.k).Nodup∧∀ t,lkE (Zya τ l) t=(ZJ τ t).getD (lkE l t)
 | [],_,_,hn,_=>⟨hn,λ_=>rfl⟩
 | .rS _ _ :: τ,_,_,hn,h=>ZSa (τ:=τ) hn h.2
 | .rL _ _ :: τ,_,_,hn,h=>ZSa (τ:=τ) hn h.2
 | .wS _ :: τ,_,_,hn,h=>ZSa (τ:=τ) hn h
 | .dup _ :: τ,_,_,hn,h=>ZSa (τ:=τ) hn h.2
 | .wL e :: τ,f,l,hn,h=>by
  obtain⟨n1,n2⟩:=Zga (t:=e.k) hn
  obtain⟨k1,k2⟩:=ZSa (τ:=τ) (l:=e :: era l e.k) (List.nodup_cons.2 ⟨n2,n1⟩) h
  refine⟨k1,λt=>(k2 t).trans ?_⟩
  simp only[ZJ]
  rw[Zm,Zxa hn]
  cases ZJ τ t with
  | some z=>rfl
  | none=>by_cases hk:e.k=t <;> simp[hk]
 | .nL e :: τ,f,l,hn,h=>by
  obtain⟨k1,k2⟩:=ZSa (τ:=τ) (l:=e :: l) (List.nodup_cons.2 ⟨Zqc h.1,hn⟩) h.2
  refine⟨k1,λt=>(k2 t).trans ?_⟩
  simp only[ZJ]
  rw[Zm]
  cases ZJ τ t with
  | some z=>rfl
  | none=>by_cases hk:e.k=t <;> simp[hk]
 | .dL u :: τ,f,l,hn,h=>by
  obtain⟨k1,k2⟩:=ZSa (τ:=τ) (l:=era l u) (Zga hn).1 h
  refine⟨k1,λt=>(k2 t).trans ?_⟩
  simp only[ZJ]
  rw[Zxa hn]
  cases ZJ τ t with
  | some z=>rfl
  | none=>by_cases hk:u=t <;> simp[hk]
theorem ZNb:∀ {τ:List Et} {f f2:Fr} {l l2:Lo},(l.map En.k).Nodup→(l2.map En.k).Nodup→okT τ f l→(∀ t,rdS τ t→lkE f t=lkE f2 t)→(∀ u,rdL τ u→lkE l u=lkE l2 u)→okT τ f2 l2
 | [],_,_,_,_,_,_,_,_,_=>trivial
 | .rS t e :: τ,_,_,_,_,n1,n2,h,k1,k2=>⟨(k1 t (.inl rfl)).symm.trans h.1,ZNb n1 n2 h.2 (λt ht=>k1 t (.inr ht)) k2⟩
 | .rL u e :: τ,_,_,_,_,n1,n2,h,k1,k2=>⟨(k2 u (.inl rfl)).symm.trans h.1,ZNb n1 n2 h.2 k1 λu hu=>k2 u (.inr hu)⟩
 | .wS e :: τ,f,f2,_,_,n1,n2,h,k1,k2=>ZNb (τ:=τ) n1 n2 h (λt ht=>by
   rw[Zm,Zm]
   by_cases hk:e.k=t
   ·rw[iP hk,iP hk]
   ·rw[iN hk,iN hk];exact k1 t ht) k2
 | .dup e :: τ,f,f2,_,_,n1,n2,h,k1,k2=>⟨(k1 e.k (.inl rfl)).symm.trans h.1,ZNb (τ:=τ) n1 n2 h.2 (λt ht=>by
   rw[Zm,Zm]
   by_cases hk:e.k=t
   ·rw[iP hk,iP hk]
   ·rw[iN hk,iN hk];exact k1 t (.inr ht)) k2⟩
 | .wL e :: τ,_,_,l,l2,n1,n2,h,k1,k2=>by
  obtain⟨a1,a2⟩:=Zga (t:=e.k) n1
  obtain⟨b1,b2⟩:=Zga (t:=e.k) n2
  refine ZNb (τ:=τ) (l:=e :: era l e.k) (l2:=e :: era l2 e.k) (List.nodup_cons.2 ⟨a2,a1⟩) (List.nodup_cons.2 ⟨b2,b1⟩) h k1 λu hu=>?_
  rw[Zm,Zm]
  by_cases hk:e.k=u
  ·rw[iP hk,iP hk]
  ·rw[iN hk,iN hk,Zxa n1,Zxa n2,iN hk,iN hk];exact k2 u hu
 | .nL e :: τ,_,_,l,l2,n1,n2,h,k1,k2=>by
  have he:lkE l2 e.k=none:=(k2 e.k (.inl rfl)).symm.trans h.1
  refine⟨he,ZNb (τ:=τ) (l:=e :: l) (l2:=e :: l2) (List.nodup_cons.2 ⟨Zqc h.1,n1⟩) (List.nodup_cons.2 ⟨Zqc he,n2⟩) h.2 k1 λu hu=>?_⟩
  rw[Zm,Zm]
  by_cases hk:e.k=u
  ·rw[iP hk,iP hk]
  ·rw[iN hk,iN hk];exact k2 u (.inr hu)
 | .dL u :: τ,_,_,l,l2,n1,n2,h,k1,k2=>by
  refine ZNb (τ:=τ) (Zga n1).1 (Zga n2).1 h k1 λk hk=>?_
  rw[Zxa n1,Zxa n2]
  by_cases e:u=k
  ·rw[iP e,iP e]
  ·rw[iN e,iN e];exact k2 k hk
theorem Z7b {m k:Nat}:(bit m k).testBit k=true:=by
 show (m ||| 2^k).testBit k=true;rw[Nat.testBit_or,Nat.testBit_two_pow_self,Bool.or_true]
theorem ZQb {m k t:Nat} (h:m.testBit t=true):(bit m k).testBit t=true:=by
 show (m ||| 2^k).testBit t=true;rw[Nat.testBit_or,h,Bool.true_or]
structure Fp.le (p q:Fp):Prop where
 rs:∀ t,p.rs.testBit t=true→q.rs.testBit t=true
 ws:∀ t,p.ws.testBit t=true→q.ws.testBit t=true
 rl:∀ t,p.rl.testBit t=true→q.rl.testBit t=true
 wl:∀ t,p.wl.testBit t=true→q.wl.testBit t=true
theorem Fp.le.trans {p q r:Fp} (h:p.le q) (k:q.le r):p.le r:=⟨λt e=>k.rs t (h.rs t e),λt e=>k.ws t (h.ws t e),λt e=>k.rl t (h.rl t e),λt e=>k.wl t (h.wl t e)⟩
theorem Zra:∀ {τ:List Et} {p:Fp},p.le (fpT τ p)
 | [],_=>⟨λ_ h=>h,λ_ h=>h,λ_ h=>h,λ_ h=>h⟩
 | .rS t _ :: τ,p=>Fp.le.trans (q:=⟨bit p.rs t,p.ws,p.rl,p.wl⟩) ⟨λ_ h=>ZQb h,λ_ h=>h,λ_ h=>h,λ_ h=>h⟩ (Zra (τ:=τ))
 | .rL u _ :: τ,p=>Fp.le.trans (q:=⟨p.rs,p.ws,bit p.rl u,p.wl⟩) ⟨λ_ h=>h,λ_ h=>h,λ_ h=>ZQb h,λ_ h=>h⟩ (Zra (τ:=τ))
 | .wS e :: τ,p=>Fp.le.trans (q:=⟨p.rs,bit p.ws e.k,p.rl,p.wl⟩) ⟨λ_ h=>h,λ_ h=>ZQb h,λ_ h=>h,λ_ h=>h⟩ (Zra (τ:=τ))
 | .dup e :: τ,p=>Fp.le.trans (q:=⟨bit p.rs e.k,p.ws,p.rl,p.wl⟩) ⟨λ_ h=>ZQb h,λ_ h=>h,λ_ h=>h,λ_ h=>h⟩ (Zra (τ:=τ))
 | .wL e :: τ,p=>Fp.le.trans (q:=⟨p.rs,p.ws,p.rl,bit p.wl e.k⟩) ⟨λ_ h=>h,λ_ h=>h,λ_ h=>h,λ_ h=>ZQb h⟩ (Zra (τ:=τ))
 | .nL e :: τ,p=>Fp.le.trans (q:=⟨p.rs,p.ws,bit p.rl e.k,bit p.wl e.k⟩) ⟨λ_ h=>h,λ_ h=>h,λ_ h=>ZQb h,λ_ h=>ZQb h⟩ (Zra (τ:=τ))
 | .dL u :: τ,p=>Fp.le.trans (q:=⟨p.rs,p.ws,p.rl,bit p.wl u⟩) ⟨λ_ h=>h,λ_ h=>h,λ_ h=>h,λ_ h=>ZQb h⟩ (Zra (τ:=τ))
theorem ZEb:∀ {τ:List Et} {p:Fp} {t:Nat},rdS τ t→(fpT τ p).rs.testBit t=true
 | .rS t _ :: τ,_,_,.inl e=>by subst e;exact (Zra (τ:=τ)).rs _ Z7b
 | .dup _ :: τ,_,_,.inl e=>by subst e;exact (Zra (τ:=τ)).rs _ Z7b
 | .rS t _ :: τ,_,_,.inr h=>ZEb (τ:=τ) h
 | .dup _ :: τ,_,_,.inr h=>ZEb (τ:=τ) h
 | .rL _ _ :: τ,_,_,h=>ZEb (τ:=τ) h
 | .wS _ :: τ,_,_,h=>ZEb (τ:=τ) h
 | .wL _ :: τ,_,_,h=>ZEb (τ:=τ) h
 | .nL _ :: τ,_,_,h=>ZEb (τ:=τ) h
 | .dL _ :: τ,_,_,h=>ZEb (τ:=τ) h
theorem ZOb:∀ {τ:List Et} {p:Fp} {t:Nat},rdL τ t→(fpT τ p).rl.testBit t=true
 | .rL t _ :: τ,_,_,.inl e=>by subst e;exact (Zra (τ:=τ)).rl _ Z7b
 | .nL _ :: τ,_,_,.inl e=>by subst e;exact (Zra (τ:=τ)).rl _ Z7b
 | .rL t _ :: τ,_,_,.inr h=>ZOb (τ:=τ) h
 | .nL _ :: τ,_,_,.inr h=>ZOb (τ:=τ) h
 | .rS _ _ :: τ,_,_,h=>ZOb (τ:=τ) h
 | .wS _ :: τ,_,_,h=>ZOb (τ:=τ) h
 | .dup _ :: τ,_,_,h=>ZOb (τ:=τ) h
 | .wL _ :: τ,_,_,h=>ZOb (τ:=τ) h
 | .dL _ :: τ,_,_,h=>ZOb (τ:=τ) h
theorem Zeb:∀ {τ:List Et} {p:Fp} {t:Nat},Z9 τ t≠none→(fpT τ p).ws.testBit t=true
 | [],_,_,h=>absurd rfl h
 | .wS e :: τ,_,t,h=>by
  by_cases hk:e.k=t
  ·subst hk;exact (Zra (τ:=τ)).ws _ Z7b
  ·refine Zeb (τ:=τ) λh0=>h ?_
   simp only[Z9,h0,iN hk]
 | .rS _ _ :: τ,_,_,h=>Zeb (τ:=τ) h
 | .rL _ _ :: τ,_,_,h=>Zeb (τ:=τ) h
 | .dup _ :: τ,_,_,h=>Zeb (τ:=τ) h
 | .wL _ :: τ,_,_,h=>Zeb (τ:=τ) h
 | .nL _ :: τ,_,_,h=>Zeb (τ:=τ) h
 | .dL _ :: τ,_,_,h=>Zeb (τ:=τ) h
theorem Z8a:∀ {τ:List Et} {p:Fp} {t:Nat},ZJ τ t≠none→(fpT τ p).wl.testBit t=true
 | [],_,_,h=>absurd rfl h
 | .wL e :: τ,_,t,h=>by
  by_cases hk:e.k=t
  ·subst hk;exact (Zra (τ:=τ)).wl _ Z7b
  ·refine Z8a (τ:=τ) λh0=>h ?_
   simp only[ZJ,h0,iN hk]
 | .nL e :: τ,_,t,h=>by
  by_cases hk:e.k=t
  ·subst hk;exact (Zra (τ:=τ)).wl _ Z7b
  ·refine Z8a (τ:=τ) λh0=>h ?_
   simp only[ZJ,h0,iN hk]
 | .dL u :: τ,_,t,h=>by
  by_cases hk:u=t
  ·subst hk;exact (Zra (τ:=τ)).wl _ Z7b
  ·refine Z8a (τ:=τ) λh0=>h ?_
   simp only[ZJ,h0,iN hk]
 | .rS _ _ :: τ,_,_,h=>Z8a (τ:=τ) h
 | .rL _ _ :: τ,_,_,h=>Z8a (τ:=τ) h
 | .wS _ :: τ,_,_,h=>Z8a (τ:=τ) h
 | .dup _ :: τ,_,_,h=>Z8a (τ:=τ) h
theorem ZWc {a b t:Nat} (h:Nat.land a b=0) (ha:a.testBit t=true) (hb:b.testBit t=true):False:=by
 have:(a &&& b).testBit t=true:=by rw[Nat.testBit_and,ha,hb];rfl
 rw[show (a &&& b)=0 from h]at this;simp at this
theorem Zhg {a b:Nat} (h:Nat.lor a b=0):a=0∧b=0:=by
 have h:a ||| b=0:=h;exact Nat.or_eq_zero_iff.1 h
theorem ZQe {a b t:Nat} (h:a.testBit t=true∨b.testBit t=true):(Nat.lor a b).testBit t=true:=by
 show (a ||| b).testBit t=true;rw[Nat.testBit_or];rcases h with h | h <;> simp[h]
structure Apart (τ σ:List Et):Prop where
 s1:∀ t,Z9 τ t≠none→rdS σ t→False
 s2:∀ t,Z9 τ t≠none→Z9 σ t≠none→False
 s3:∀ t,rdS τ t→Z9 σ t≠none→False
 l1:∀ t,ZJ τ t≠none→rdL σ t→False
 l2:∀ t,ZJ τ t≠none→ZJ σ t≠none→False
 l3:∀ t,rdL τ t→ZJ σ t≠none→False
theorem ZRi {τ σ:List Et} {p q:Fp} (h:(fpT τ p).free (fpT σ q)=true):Apart τ σ:=by
 have h:=eQ h;obtain⟨h1,h2⟩:=Zhg h;obtain⟨h3,h4⟩:=Zhg h1;obtain⟨h5,h6⟩:=Zhg h2;exact⟨λt a b=>ZWc h3 (Zeb a) (ZQe (.inl (ZEb b))),λt a b=>ZWc h3 (Zeb a) (ZQe (.inr (Zeb b))),λt a b=>ZWc h4 (ZEb a) (Zeb b),
  λt a b=>ZWc h5 (Z8a a) (ZQe (.inl (ZOb b))),λt a b=>ZWc h5 (Z8a a) (ZQe (.inr (Z8a b))),λt a b=>ZWc h6 (ZOb a) (Z8a b)⟩
def Z0b:List (List Et)→Fr→Fr
 | [],f=>f
 | τ :: r,f=>Z0b r (Zza τ f)
def ZGb:List (List Et)→Lo→Lo
 | [],l=>l
 | τ :: r,l=>ZGb r (Zya τ l)
def okTs:List (List Et)→Fr→Lo→Prop
 | [],_,_=>True
 | τ :: r,f,l=>okT τ f l∧okTs r (Zza τ f) (Zya τ l)
def ZK {β:Type} (eff:List Et→Nat→Option β) (sel:Nat→Bool):List (List Et)→Nat→β→Nat→β
 | [],_,acc,_=>acc
 | τ :: r,i,acc,t=>ZK eff sel r (i+1) (if sel i then (eff τ t).getD acc else acc) t
section
variable {β:Type} {eff:List Et→Nat→Option β}
theorem ZAb {sel sel':Nat→Bool} {t:Nat}:∀ {Ts:List (List Et)} {i:Nat} {acc:β},(∀ j τ,Ts[j]? = some τ→eff τ t≠none→sel (i+j)=sel' (i+j))→ZK eff sel Ts i acc t=ZK eff sel' Ts i acc t
 | [],_,_,_=>rfl
 | τ :: r,i,acc,h=>by
  have h1:(if sel i then (eff τ t).getD acc else acc)=(if sel' i then (eff τ t).getD acc else acc):=by
   cases he:eff τ t with
   | none=>simp
   | some z =>
    have:=h 0 τ rfl (by rw[he];exact λe=>by cases e);rw[Nat.add_zero]at this;rw[this]
  simp only[ZK];rw[h1];exact ZAb λj σ hj hs=>by have:=h (j+1) σ hj hs;rwa [← Nat.add_assoc,Nat.add_right_comm]at this
theorem ZUb {sel:Nat→Bool} {t:Nat}:∀ {Ts:List (List Et)} {i:Nat} {acc:β},(∀ j τ,Ts[j]? = some τ→sel (i+j)=true→eff τ t=none)→ZK eff sel Ts i acc t=acc
 | [],_,_,_=>rfl
 | τ :: r,i,acc,h=>by
  simp only[ZK]
  rw[ZUb λj σ hj hs=>h (j+1) σ hj (by rwa [← Nat.add_assoc,Nat.add_right_comm])]
  by_cases hs:sel i=true
  ·rw[iP hs,h 0 τ rfl hs];rfl
  ·rw[iN hs]
theorem ZBg {sel:Nat→Bool} {t:Nat}:∀ {Ts:List (List Et)} {i k:Nat} {acc:β} {τ:List Et} {z:β},Ts[k]? = some τ→sel (i+k)=true→eff τ t=some z→(∀ j σ,k<j→Ts[j]? = some σ→sel (i+j)=true→eff σ t=none)→ZK eff sel Ts i acc t=z
 | [],_,_,_,_,_,h,_,_,_=>by cases h
 | σ :: r,i,0,acc,τ,z,h,hs,he,hj=>by
  cases h
  simp only[ZK]
  rw[iP (show sel i=true from hs),he]
  exact ZUb λj σ hσ hsj=>hj (j+1) σ (by omega) hσ (by rwa [← Nat.add_assoc,Nat.add_right_comm])
 | σ :: r,i,k+1,acc,τ,z,h,hs,he,hj=>by
  simp only[ZK]
  exact ZBg (k:=k) (τ:=τ) h (by rwa [Nat.add_right_comm]) he λj σ' hkj hσ hsj=>hj (j+1) σ' (by omega) hσ (by rwa [← Nat.add_assoc,Nat.add_right_comm])
end
theorem ZOg:∀ {Ts:List (List Et)} {f:Fr} {l:Lo} {b i:Nat} {τ:List Et},okTs Ts f l→(l.map En.k).Nodup→Ts[i]? = some τ→∃ fi li,okT τ fi li∧(li.map En.k).Nodup∧(∀ t,lkE fi t=ZK Z9 (λj=>decide (j<b+i)) Ts b (lkE f t) t)∧∀ t,lkE li t=ZK ZJ (λj=>decide (j<b+i)) Ts b (lkE l t) t
 | [],_,_,_,_,_,_,_,h=>by cases h
 | σ :: r,f,l,b,0,τ,h,hn,ht=>by
  cases ht
  refine⟨f,l,h.1,hn,λt=>(ZUb λj _ _ hs=>?_).symm,λt=>(ZUb λj _ _ hs=>?_).symm⟩ <;> (have:=of_decide_eq_true hs;omega)
 | σ :: r,f,l,b,i+1,τ,h,hn,ht=>by
  obtain⟨n1,hl⟩:=ZSa hn h.1
  obtain⟨fi,li,k1,k2,k3,k4⟩:=ZOg (b:=b+1) (i:=i) h.2 n1 ht
  have e:(λj=>decide (j<b+1+i))=λj=>decide (j<b+(i+1)):=by funext j;congr 1;rw[Nat.add_assoc,Nat.add_comm 1 i]
  have hb:decide (b<b+(i+1))=true:=by simp
  refine⟨fi,li,k1,k2,λt=>?_,λt=>?_⟩
  ·rw[k3 t,e,Zdb h.1];simp only[ZK];rw[iP hb]
  ·rw[k4 t,e,hl t];simp only[ZK];rw[iP hb]
theorem ZJg:∀ {Ts:List (List Et)} {f:Fr} {l:Lo} {b:Nat},okTs Ts f l→(l.map En.k).Nodup→((ZGb Ts l).map En.k).Nodup∧(∀ t,lkE (Z0b Ts f) t=ZK Z9 (λ_=>true) Ts b (lkE f t) t)∧∀ t,lkE (ZGb Ts l) t=ZK ZJ (λ_=>true) Ts b (lkE l t) t
 | [],_,_,_,_,hn=>⟨hn,λ_=>rfl,λ_=>rfl⟩
 | τ :: r,f,l,b,h,hn=>by
  obtain⟨n1,hl⟩:=ZSa hn h.1
  obtain⟨k1,k2,k3⟩:=ZJg (b:=b+1) h.2 n1
  refine⟨k1,λt=>?_,λt=>?_⟩
  ·rw[show Z0b (τ :: r) f=Z0b r (Zza τ f) from rfl,k2 t,Zdb h.1];rfl
  ·rw[show ZGb (τ :: r) l=ZGb r (Zya τ l) from rfl,k3 t,hl t];rfl
theorem ZZf {α:Type} {C:Cf} {ops:List Oper} {r:α}:∀ {os:List Oper} {f:Fr} {l:Lo} {n:Nat} {K:Fr→Lo→Nat→List Fp→Option α},Zgc C ops os f l n K=some r →
  ∃ Ts:List (List Et),Ts.length=os.length∧okTs Ts f l∧(∀ i o τ,os[i]? = some o→Ts[i]? = some τ→Tr (n+i) (gop C ops (n+i) o) τ ())∧K (Z0b Ts f) (ZGb Ts l) (n+os.length) (Ts.map λτ=>fpT τ Fp.no)=some r
 | [],f,l,n,K,h=>⟨[],rfl,trivial,λ_ _ _ h=>by simp at h,h⟩
 | o :: os,f,l,n,K,h=>by
  simp only[Zgc]at h
  obtain⟨⟨⟩,τ,h1,h2,h3⟩:=Zem h
  obtain⟨Ts,k1,k2,k3,k4⟩:=ZZf h3
  refine⟨τ :: Ts,by simp[k1],⟨h2,k2⟩,λi o' τ' ho ht=>?_,?_⟩
  ·cases i with
   | zero=>cases ho;cases ht;exact h1
   | succ i=>have:=k3 i o' τ' ho ht;rwa [Nat.add_right_comm]at this
  ·rw[List.length_cons,← Nat.add_assoc,Nat.add_right_comm];exact k4
theorem Zfl {ρ:Type} {n:Nat} {A:Prop}:∀ {e:Ev ρ} {f:Fr} {l:Lo} {K:ρ→Fr→Lo→Prop},Zc n e f l K→(∀ x f' l',K x f' l'→A)→A:=by
 intro e
 induction e with
 | fail=>intro f l K h k;exact h.elim
 | done x=>intro f l K h k;exact k _ _ _ h
 | rdS t q ih=>intro f l K h k;obtain⟨x,hx,h⟩:=h;exact ih _ h k
 | rdL u q ih=>intro f l K h k;obtain⟨x,hx,h⟩:=h;exact ih _ _ h k
 | wrS t x e ih=>intro f l K h k;exact ih h k
 | wrL u L e ih=>intro f l K h k;exact ih h k
 | new u L e ih=>intro f l K h k;exact ih h.2 k
 | del u e ih=>intro f l K h k;exact ih h k
 | bind x q ih=>intro f l K h k;obtain⟨x,hx,h⟩:=h;exact ih _ h k
 | test t e1 e2 i1 i2 =>
  intro f l K h k;obtain⟨s,b,h1,h2,h3⟩:=h
  cases b with
  | true=>exact i1 (h2 rfl) k
  | false=>exact i2 (h3 rfl) k
 | alt b e1 e2 i1 i2 =>
  intro f l K h k
  cases b with
  | true=>exact i1 (h.1 rfl) k
  | false=>exact i2 (h.2 rfl) k
theorem Zpf {C:Cf} {ops:List Oper} {m:Nat}:∀ {os:List Oper} {Ts:List (List Et)} {f:Fr} {l:Lo} {n:Nat},m≤n→Ts.length=os.length→okTs Ts f l→(l.map En.k).Nodup→(∀ i o τ,os[i]? = some o→Ts[i]? = some τ→Tr (n+i) (gop C ops (n+i) o) τ ())→Old m f l (Z0b Ts f) (ZGb Ts l)
 | _,[],_,_,_,_,_,_,_,_=>Old.refl
 | [],_ :: _,_,_,_,_,h,_,_,_=>by cases h
 | o :: os,τ :: Ts,f,l,n,hm,hl,h,hn,ht=>by
  have h1:=Ztb hm Old.refl hn (ZBf (ht 0 o τ rfl rfl) h.1)
  have h2:Old m f l (Zza τ f) (Zya τ l):=Zfl h1 λx f' l' ⟨⟨_,e1,e2⟩,h⟩=>by subst e1;subst e2;exact h
  exact h2.trans (Zpf (n:=n+1) (by omega) (by simpa using hl) h.2 (ZSa hn h.1).1 λi o' τ' ho hτ=>by
   have:=ht (i+1) o' τ' ho hτ
   rwa [← Nat.add_assoc,Nat.add_right_comm]at this) (Nat.le_refl m)
theorem Z4i {m:Nat} {q:Fp}:∀ {bef:List Fp} {i0:Nat},chk1 m q bef i0=true→∀ i p,bef[i]? = some p→m.testBit (i0+i)=true∨p.free q=true
 | [],_,_,_,_,h=>by cases h
 | p0 :: r,i0,h,i,p,hp=>by
  simp only[chk1]at h
  cases i with
  | zero =>
   cases hp
   rw[Nat.add_zero]
   split at h
   ·rename_i e;exact .inl e
   ·split at h
    ·rename_i e;exact .inr e
    ·cases h
  | succ i =>
   have h':chk1 m q r (i0+1)=true:=by
    split at h
    ·exact h
    ·split at h
     ·exact h
     ·cases h
   have:=Z4i h' i p hp
   rwa [Nat.add_right_comm]at this
theorem Zsf:∀ {qs:List Fp} {bef:List Fp} {ms:List Nat},ZLb bef ms qs=true→∀ j q,qs[j]? = some q→∃ m,ms[j]? = some m∧∀ i p,(bef++qs)[i]? = some p→i<bef.length+j→m.testBit i=true∨p.free q=true
 | [],_,_,_,_,_,h=>by cases h
 | q0 :: qs,bef,ms,h,j,q,hq=>by
  cases ms with
  | nil=>cases h
  | cons m0 ms =>
   simp only[ZLb]at h
   split at h
   ·rename_i h1
    cases j with
    | zero =>
     cases hq
     refine⟨m0,rfl,λi p hp hi=>?_⟩
     rw[List.getElem?_append_left (by omega)]at hp
     have:=Z4i h1 i p hp
     rwa [Nat.zero_add]at this
    | succ j =>
     obtain⟨m,h2,h3⟩:=Zsf h j q hq
     refine⟨m,h2,λi p hp hi=>h3 i p (by rw[aA];exact hp) (by simp;omega)⟩
   ·cases h
theorem ZCe {done:List Nat} {t:Nat}:∀ {es:List Edge} {m:Nat},(ZOa done es m).testBit t=true→m.testBit t=true ∨ ∃ e ∈ es,Region.binds .any e=true∧(t=e.on∨(done.getD e.on 0).testBit t=true)
 | [],_,h=>.inl h
 | e :: r,m,h=>by
  simp only[ZOa]at h
  split at h
  ·rename_i hb
   rcases ZCe h with h | ⟨e',he,h1,h2⟩
   ·have h:((m ||| 2^e.on) ||| done.getD e.on 0).testBit t=true:=h
    rw[Nat.testBit_or,Nat.testBit_or,Nat.testBit_two_pow,Bool.or_eq_true,Bool.or_eq_true]at h
    rcases h with (h | h) | h
    ·exact .inl h
    ·exact .inr ⟨e,by simp,hb,.inl (by simpa using (of_decide_eq_true h).symm)⟩
    ·exact .inr ⟨e,by simp,hb,.inr h⟩
   ·exact .inr ⟨e',by simp[he],h1,h2⟩
  ·rcases ZCe h with h | ⟨e',he,h1,h2⟩
   ·exact .inl h
   ·exact .inr ⟨e',by simp[he],h1,h2⟩
theorem Zah:∀ {os:List Oper} {done:List Nat} {j:Nat} {m:Nat},done[j]? = some m→(ZW os done)[j]? = some m
 | [],_,_,_,h=>h
 | o :: os,done,j,m,h=>Zah (os:=os) (by rw[List.getElem?_append_left (List.getElem?_eq_some_iff.1 h).1];exact h)
theorem ZPc {S:Nat→Prop}:∀ {os:List Oper} {done:List Nat},(∀ j o,os[j]? = some o→S (done.length+j)→∀ e ∈ o.after,Region.binds .any e=true→S e.on)→(∀ j m,done[j]? = some m→S j→∀ i,m.testBit i=true→S i) →
  ∀ j o m,os[j]? = some o→(ZW os done)[done.length+j]? = some m→(∀ e ∈ o.after,Region.binds .any e=true→S e.on)→∀ i,m.testBit i=true→S i
 | [],_,_,_,_,_,_,h,_,_,_,_=>by cases h
 | o0 :: os,done,hc,hd,j,o,m,ho,hm,he,i,hi=>by
  have key:(∀ e ∈ o0.after,Region.binds .any e=true→S e.on)→∀ i,(ZOa done o0.after.toList 0).testBit i=true→S i:=λhe i hi=>by
   rcases ZCe hi with h | ⟨e,h1,h2,h3⟩
   ·simp at h
   ·have hS:=he e (by simpa using h1) h2
    rcases h3 with h3 | h3
    ·subst h3;exact hS
    ·cases hg:done[e.on]? with
     | none=>rw[List.getD_eq_getElem?_getD,hg]at h3;simp at h3
     | some x=>rw[List.getD_eq_getElem?_getD,hg]at h3;exact hd _ x hg hS i h3
  simp only[ZW]at hm
  cases j with
  | zero =>
   cases ho
   rw[Nat.add_zero]at hm
   have:(ZW os (done++[ZOa done o0.after.toList 0]))[done.length]? = some (ZOa done o0.after.toList 0):=Zah (by simp)
   rw[this]at hm;cases hm
   exact key he i hi
  | succ j =>
   refine ZPc (os:=os) (done:=done++[ZOa done o0.after.toList 0]) (λj' o' ho' hS=>hc (j'+1) o' ho' (by rw[lA,List.length_singleton]at hS;rwa [← Nat.add_assoc,Nat.add_right_comm])) (λj' m' hm' hS=>?_) j o m ho (by rw[lA,List.length_singleton,Nat.add_right_comm];exact hm) he i hi
   rcases Nat.lt_or_ge j' done.length with h | h
   ·rw[List.getElem?_append_left h]at hm';exact hd j' m' hm' hS
   ·rw[List.getElem?_append_right h]at hm'
    cases hj:j'-done.length with
    | zero =>
     rw[hj]at hm';cases hm'
     refine key (hc 0 o0 rfl ?_)
     rwa [Nat.add_zero,show done.length=j' by omega]
    | succ k=>rw[hj]at hm';cases hm'
theorem Z2h:∀ {os:List Oper} {i0:Nat},Zvb i0 os=true→∀ i o,os[i]? = some o→∀ e ∈ o.after,Region.binds .any e=true→e.on<i0+i
 | [],_,_,_,_,h,_,_,_=>by cases h
 | o0 :: os,i0,h,i,o,ho,e,he,hb=>by
  simp only[Zvb]at h
  split at h
  ·rename_i h1
   cases i with
   | zero =>
    cases ho
    have:∀ {es:List Edge},ZDd i0 es=true→∀ e ∈ es,Region.binds .any e=true→e.on<i0:=by
     intro es
     induction es with
     | nil=>intro _ e h;cases h
     | cons x r ih =>
      intro h e he hb;simp only[ZDd]at h;split at h
      ·split at h
       ·rename_i hlt;rcases List.mem_cons.1 he with rfl | he
        ·exact lB hlt
        ·exact ih h e he hb
       ·cases h
      ·rename_i hx;rcases List.mem_cons.1 he with rfl | he
       ·rw[hb]at hx;cases hx
       ·exact ih h e he hb
    exact this h1 e (by simpa using he) hb
   | succ i=>have:=Z2h h i o ho e he hb;omega
  ·cases h
section
variable {P:Program} {K:Nat} {w0:Base} {v0:Za} {σ:List (Nat×Value)} {ℓ:List Loc} {v:Za} {a:Act} {w:World} {ops:Array Oper} {Q:Exit→Act→World→Prop} {rest:List Oper}
end
end Go.Eng
namespace Go.Eng
open Go.RowKit
section
variable {N:Nat} {G:V→Value→Prop} {w0:Base} {v0:Za}
theorem F2_perm {R:En LV→List Loc→Prop} {l l2:Lo} (hp:l.Perm l2):∀ {E:List (List Loc)},F2 R l E→∃ E2,F2 R l2 E2∧E.flatten.Perm E2.flatten:=by
 induction hp with
 | nil=>intro E h;exact⟨E,h,List.Perm.refl _⟩
 | cons x _ ih =>
  intro E h
  cases E with
  | nil=>exact h.elim
  | cons es E =>
   obtain⟨E2,h1,h2⟩:=ih h.2;exact⟨es :: E2,⟨h.1,h1⟩,by simp only[List.flatten_cons];exact List.Perm.append_left _ h2⟩
 | swap x y l =>
  intro E h
  cases E with
  | nil=>exact h.elim
  | cons es E =>
   cases E with
   | nil=>exact h.2.elim
   | cons es2 E =>
    refine⟨es2 :: es :: E,⟨h.2.1,h.1,h.2.2⟩,?_⟩;simp only[List.flatten_cons];rw[← aA,← aA];exact List.Perm.append_right _ List.perm_append_comm
 | trans _ _ i1 i2 =>
  intro E h;obtain⟨E2,h1,h2⟩:=i1 h;obtain⟨E3,h3,h4⟩:=i2 h1;exact⟨E3,h3,h2.trans h4⟩
theorem Zna {l:Lo} (hn:(l.map En.k).Nodup) {e:En LV} (h:e ∈ l):lkE l e.k=some e:=by
 induction l with
 | nil=>cases h
 | cons p r ih =>
  simp only[List.map_cons,List.nodup_cons]at hn;rw[Zm];rcases List.mem_cons.1 h with rfl | h
  ·rw[iP rfl]
  ·rw[iN λe2=>hn.1 (List.mem_map.2 ⟨e,h,Eq.symm e2⟩)];exact ih hn.2 h
theorem Z3i {l:Lo} (hn:(l.map En.k).Nodup):l.Nodup:=by
 induction l with
 | nil=>exact List.nodup_nil
 | cons p r ih =>
  simp only[List.map_cons,List.nodup_cons]at hn;exact List.nodup_cons.2 ⟨λh=>hn.1 (List.mem_map.2 ⟨p,h,rfl⟩),ih hn.2⟩
theorem ZTl {l l2:Lo} (hn:(l.map En.k).Nodup) (hn2:(l2.map En.k).Nodup) (h:∀ u,lkE l u=lkE l2 u):l.Perm l2:=by
 refine (List.perm_ext_iff_of_nodup (Z3i hn) (Z3i hn2)).2 λe=>⟨λhe=>?_,λhe=>?_⟩
 ·have:=Zna hn he;rw[h]at this;exact (Ze this).1
 ·have:=Zna hn2 he;rw[← h]at this;exact (Ze this).1
theorem RelX.look {U X:Nat→Prop} {f f2:Fr} {l l2:Lo} {a:Act} {w:World} {γ:Nat→Gh} {v:Za} {ℓ:List Loc} (h:RelX N G w0 v0 U X f l a w γ v ℓ) (hn2:(l2.map En.k).Nodup) (hf:∀ t,lkE f2 t=lkE f t) (hl:∀ u,lkE l2 u=lkE l u):RelX N G w0 v0 U X f2 l2 a w γ v ℓ:=by
 obtain⟨E,hE,hp⟩:=h.lr;have hle:Le U v γ l v γ l2:=by
  have:=Le.refl (U:=U) hE (Za.le_refl v);exact⟨Za.le_refl _,λu e' hk he=>this.l u e' hk (by rw[← hl];exact he)⟩
 have hpl:=ZTl h.nd hn2 λu=>(hl u).symm;obtain⟨E2,h1,h2⟩:=F2_perm hpl hE;refine⟨h.st,λt e he=>?_,⟨E2,h1.imp λe he es hr=>?_,hp.trans h2⟩,hn2,λt e he=>h.uf t e ((hf t) ▸ he),λe he=>h.ul e (hpl.mem_iff.2 he),λx y hg=>⟨ZX hle (h.gh x y hg).2 (h.gh x y hg).1,(h.gh x y hg).2⟩⟩
 ·have he':=(hf t) ▸ he;exact ZX hle (h.uf t e he').1 (h.fr t e he')
 ·exact Z1c hle (h.ul e (hpl.mem_iff.2 he)).2.2 rfl hr
end
end Go.Eng
namespace Go.Eng
open Go.RowKit
section
variable {N:Nat} {G:V→Value→Prop} {w0:Base} {v0:Za}
theorem Rel.draw {U:Nat→Prop} {f:Fr} {l:Lo} {a:Act} {w:World} (h:Rel N G w0 v0 U f l a w):Rel N G w0 v0 U f l a w.drew:=by
 obtain⟨γ,v,ℓ,h⟩:=h;exact⟨γ,v,ℓ,h.st.drew,h.fr,h.lr,h.nd,h.uf,h.ul,h.gh⟩
def sel (listed:Array Bool):Nat→Bool:=λj=>listed.getD j false
def UE (n:Nat) (listed:Array Bool):Nat→Prop:=λk=>k<n ∨ ∃ j,listed.getD j false=true∧k=n+j
structure Inv (N:Nat) (G:V→Value→Prop) (w0:Base) (v0:Za) (ops:Array Oper) (Ts:List (List Et)) (f:Fr) (l:Lo) (n:Nat) (listed:Array Bool) (a:Act) (w:World):Prop where
 size:listed.size=ops.size
 closed:∀ (j:Nat) (o:Oper),ops[j]? = some o→listed.getD j false=true→∀ e ∈ o.after,Region.binds .any e=true→listed.getD e.on false=true
 rel:∃ f1 l1,Rel N G w0 v0 (UE n listed) f1 l1 a w∧(∀ t,lkE f1 t=ZK Z9 (sel listed) Ts 0 (lkE f t) t)∧∀ t,lkE l1 t=ZK ZJ (sel listed) Ts 0 (lkE l t) t
theorem Z2e {ops:Array Oper} (hb:Zvb 0 ops.toList=true) {listed:Array Bool} (hs:listed.size=ops.size):∀ (n j:Nat),j<n→j<ops.size→listed.getD j true=false→Region.ready .any ops listed≠[]
 | 0,j,h,_,_=>by omega
 | n+1,j,h,hj,hl=>by
  intro h0
  by_cases hp:∃ e ∈ (ops[j]).after,Region.binds .any e=true∧listed.getD e.on false=false
  ·obtain⟨e,he,hbb,hn⟩:=hp
   have hlt:=Z2h hb j ops[j] (by simp[hj]) e he hbb
   refine Z2e hb hs n e.on (by omega) (by omega) ?_ h0
   rw[Zva (by omega)];exact hn
  ·have:j ∈ Region.ready .any ops listed:=mem_ready.2 ⟨hl,ops[j],by simp[hj],λe he hb=>by
    cases hx:listed.getD e.on false with
    | true=>rfl
    | false=>exact absurd ⟨e,he,hb,hx⟩ hp⟩
   rw[h0]at this;cases this
theorem Zim {C:Cf} (hC:CfOK C) {ops:Array Oper} {Ts:List (List Et)} {f:Fr} {l:Lo} {n:Nat} {Q:Exit→Act→World→Prop} (hb:Zvb 0 ops.toList=true) (hds:∀ o ∈ ops.toList,∀ k,o.dst=some k→k<N) (hl:Ts.length=ops.toList.length)
  (hn:(l.map En.k).Nodup) (hok:okTs Ts f l) (htr:∀ i o τ,ops.toList[i]? = some o→Ts[i]? = some τ→Tr (n+i) (gop C ops.toList (n+i) o) τ ()) (hch:ZLb [] (ZW ops.toList []) (Ts.map λτ=>fpT τ Fp.no)=true)
  (hQ:∀ a' w',Rel N G w0 v0 (· < n+ops.toList.length) (Z0b Ts f) (ZGb Ts l) a' w'→Q .normal a' w'):∀ (fuel:Nat) (listed:Array Bool) (a:Act) (w:World),left listed=fuel→Inv N G w0 v0 ops Ts f l n listed a w→wpAny C.P .any ops Q fuel listed a w:=by
 have ord:∀ (i j:Nat) (τ σ:List Et),i<j→Ts[i]? = some τ→Ts[j]? = some σ→∃ m,(ZW ops.toList [])[j]? = some m∧(m.testBit i=true∨Apart τ σ):=by
  intro i j τ σ hij hτ hσ;obtain⟨m,h1,h2⟩:=Zsf hch j (fpT σ Fp.no) (by simp[hσ]);refine⟨m,h1,(h2 i (fpT τ Fp.no) (by simp[hτ]) (by simpa using hij)).imp_right ZRi⟩
 have opAt:∀ (j:Nat) (σ:List Et),Ts[j]? = some σ→∃ o,ops[j]? = some o:=λj σ h=>by
  have:=(List.getElem?_eq_some_iff.1 h).1;rw[hl]at this;exact⟨ops[j]'(by simpa using this),by simp⟩
 intro fuel
 induction fuel with
 | zero =>
  intro listed a w hfu hI;have hall:∀ j,listed.getD j true=true:=λj=>ZWf hfu;refine⟨?_,?_⟩
  ·cases hx:Region.ready .any ops listed with
   | nil=>rfl
   | cons p r =>
    obtain⟨h1,_⟩:=mem_ready.1 (show p ∈ Region.ready .any ops listed by rw[hx];simp);rw[hall p]at h1;cases h1
  ·obtain⟨f1,l1,⟨γ,v,ℓ,h1⟩,h2,h3⟩:=hI.rel;obtain⟨k1,k2,k3⟩:=ZJg (b:=0) hok hn;have hsel:∀ (j:Nat) (σ:List Et),Ts[j]? = some σ→sel listed (0+j)=true:=λj σ h=>by
    obtain⟨o,ho⟩:=opAt j σ h;rw[Nat.zero_add];show listed.getD j false=true;rw[← Zva (by rw[hI.size];exact ZEa ho)];exact hall j
   refine hQ a w ⟨γ,v,ℓ,(h1.look k1 (λt=>?_) λt=>?_).mono (λk hk=>?_) λk hk=>?_⟩
   ·rw[k2 t,h2 t];exact (ZAb λj σ hj _=>(hsel j σ hj)).symm
   ·rw[k3 t,h3 t];exact (ZAb λj σ hj _=>(hsel j σ hj)).symm
   all_goals
    rcases hk with hk | ⟨j,hj,rfl⟩
    ·omega
    ·have:j<listed.size:=by
      rcases Nat.lt_or_ge j listed.size with h | h
      ·exact h
      ·simp[Array.getElem?_eq_none h]at hj
     rw[hI.size]at this;simp;omega
 | succ fuel ih =>
  intro listed a w hfu hI;refine⟨λh0=>?_,λi hi=>?_⟩
  ·obtain⟨j,hj,hj2⟩:=Zbg (listed:=listed) (by omega);exact absurd h0 (Z2e hb hI.size (j+1) j (by omega) (by rw[← hI.size];exact hj) hj2)
  ·obtain⟨hun,o,ho,hall⟩:=mem_ready.1 hi;have hil:i<listed.size:=by rw[hI.size];exact ZEa ho
   have hunf:listed.getD i false=false:=by rw[← Zva hil];exact hun
   have ho':ops.toList[i]? = some o:=by rw[Array.getElem?_toList];exact ho
   have hlt:i<Ts.length:=by rw[hl];exact (List.getElem?_eq_some_iff.1 ho').1
   have hτ:Ts[i]? = some Ts[i]:=List.getElem?_eq_getElem hlt;generalize hg:Ts[i]=τ at hτ;obtain⟨fi,li,b1,b2,b3,b4⟩:=ZOg (b:=0) hok hn hτ;obtain⟨f1,l1,⟨γ,v,ℓ,h1⟩,h2,h3⟩:=hI.rel;have befo:∀ (j:Nat) (σ:List Et),j<i→Ts[j]? = some σ→listed.getD j false=true∨Apart σ τ:=by
    intro j σ hj hσ;obtain⟨m,q1,q2⟩:=ord j i σ τ hj hσ hτ;refine q2.imp_left λhbit=>?_;refine ZPc (S:=λk=>listed.getD k false=true) (done:=[]) (λj' o' ho' hS=>hI.closed j' o' (by rw[← Array.getElem?_toList];exact ho') (by simpa using hS)) (λj' m' hm'=>by simp at hm') i o m ho' (by simpa using q1) hall j hbit
   have afte:∀ (j:Nat) (σ:List Et),i<j→Ts[j]? = some σ→listed.getD j false=false∨Apart τ σ:=by
    intro j σ hj hσ;obtain⟨m,q1,q2⟩:=ord i j τ σ hj hτ hσ;refine q2.imp_left λhbit=>?_
    cases hx:listed.getD j false with
    | false=>rfl
    | true =>
     obtain⟨oj,hoj⟩:=opAt j σ hσ;have:=ZPc (S:=λk=>listed.getD k false=true) (done:=[]) (λj' o' ho' hS=>hI.closed j' o' (by rw[← Array.getElem?_toList];exact ho') (by simpa using hS)) (λj' m' hm'=>by simp at hm') j oj m (by rw[Array.getElem?_toList];exact hoj) (by simpa using q1) (hI.closed j oj hoj hx) i hbit;rw[hunf]at this;cases this
   have same:∀ {β:Type} (eff:List Et→Nat→Option β) (P:Nat→Prop) (acc:β) (t:Nat),P t→(∀ σ,Apart σ τ→P t→eff σ t≠none→False)→(∀ σ,Apart τ σ→P t→eff σ t≠none→False)→ZK eff (λj=>decide (j<0+i)) Ts 0 acc t=ZK eff (sel listed) Ts 0 acc t:=by
    intro β eff P acc t hP hA hB;refine ZAb λj σ hj hne=>?_;simp only[Nat.zero_add];rcases Nat.lt_trichotomy j i with h | h | h
    ·rcases befo j σ h hj with q | q
     ·rw[dT h];exact q.symm
     ·exact (hA σ q hP hne).elim
    ·subst h;rw[dF (Nat.lt_irrefl _)];exact hunf.symm
    ·rcases afte j σ h hj with q | q
     ·rw[dF (by omega)];exact q.symm
     ·exact (hB σ q hP hne).elim
   have okτ:okT τ f1 l1:=by
    refine ZNb b2 h1.nd b1 (λt ht=>?_) λt ht=>?_
    ·rw[b3 t,h2 t];exact same Z9 (rdS τ) _ t ht (λσ q hp hne=>q.s1 t hne hp) λσ q hp hne=>q.s3 t hp hne
    ·rw[b4 t,h3 t];exact same ZJ (rdL τ) _ t ht (λσ q hp hne=>q.l1 t hne hp) λσ q hp hne=>q.l3 t hp hne
   have hruns:=ZBf (htr i o τ ho' hτ) okτ;have hnU:¬ UE n listed (n+i):=by
    rintro (h | ⟨j,hj,e⟩)
    ·omega
    ·have:i=j:=by omega
     subst this;rw[hunf]at hj;cases hj
   have selS:∀ j,sel (listed.setIfInBounds i true) j=if i=j then true else sel listed j:=λj=>by
    by_cases h:i=j
    ·subst h;rw[iP rfl];exact Zka hil
    ·rw[iN h];exact ZU h
   have hUE:∀ k,UE n listed k→UE n (listed.setIfInBounds i true) k:=by
    rintro k (h | ⟨j,hj,e⟩)
    ·exact .inl h
    ·refine .inr ⟨j,?_,e⟩;have:=selS j;unfold sel at this;rw[this,hj];split <;> rfl
   have hXi:UE n (listed.setIfInBounds i true) (n+i):=.inr ⟨i,Zka hil,rfl⟩;have hgg:=Z4e (X:=UE n (listed.setIfInBounds i true)) hC (h1.mono (λ_ h=>h) hUE) hUE hXi hnU hds (hds o (mG ho')) hruns;have upd:∀ {β:Type} (eff:List Et→Nat→Option β) (acc:β) (t:Nat),(∀ σ,Apart τ σ→eff τ t≠none→eff σ t≠none→False)→ZK eff (sel (listed.setIfInBounds i true)) Ts 0 acc t=(eff τ t).getD (ZK eff (sel listed) Ts 0 acc t):=by
    intro β eff acc t hA
    cases he:eff τ t with
    | none =>
     refine ZAb λj σ hj hne=>?_;rw[Nat.zero_add,selS j,iN];intro e;subst e;rw[hτ]at hj;cases hj;exact hne he
    | some z =>
     refine ZBg (k:=i) hτ (by rw[Nat.zero_add,selS i,iP rfl]) he λj σ hij hσ hs=>?_;rw[Nat.zero_add,selS j,iN (by omega)]at hs;rcases afte j σ hij hσ with q | q
     ·rw[show sel listed j=false from q]at hs;cases hs
     ·cases hx:eff σ t with
      | none=>rfl
      | some y=>exact (hA σ q (by rw[he];exact λe=>by cases e) (by rw[hx];exact λe=>by cases e)).elim
   have nxt:∀ f' l' a' w',((()=()∧f'=Zza τ f1∧l'=Zya τ l1)∧True)→Rel N G w0 v0 (UE n (listed.setIfInBounds i true)) f' l' a' w'→wpAny C.P .any ops Q fuel (listed.setIfInBounds i true) a' w':=by
    rintro f' l' a' w' ⟨⟨_,rfl,rfl⟩,_⟩ hr;refine ih _ _ _ (by have:=ZCd hun;omega) ⟨by simp[hI.size],λj oj hj hlj e he hbb=>?_,_,_,hr,λt=>?_,λt=>?_⟩
    ·have hj2:=selS e.on;have hj3:=selS j;unfold sel at hj2 hj3;rw[hj2];split
     ·rfl
     ·rw[hj3]at hlj;split at hlj
      ·rename_i hij;subst hij;rw[ho]at hj;cases hj;exact hall e he hbb
      ·exact hI.closed j oj hj hlj e he hbb
    ·rw[Zdb okτ,h2 t];exact (upd Z9 _ t λσ q hp hne=>q.s2 t hp hne).symm
    ·rw[(ZSa h1.nd okτ).2 t,h3 t];exact (upd ZJ _ t λσ q hp hne=>q.l2 t hp hne).symm
   unfold wpOp;rw[ho];rcases hgg with ⟨hw,hg⟩ | ⟨hw,f',l',q1,q2⟩
   ·simp only[hw,if_true];exact .inl (Zte rfl hg λx w' ⟨f',l',q1,q2⟩=>nxt f' l' _ w' ⟨⟨rfl,q1.2⟩,trivial⟩ q2)
   ·simp only[hw];exact nxt f' l' _ w ⟨⟨rfl,q1.2⟩,trivial⟩ q2
end
end Go.Eng
namespace Go.Eng
open Go.RowKit
section
variable {N:Nat} {G:V→Value→Prop} {w0:Base} {v0:Za}
theorem ZJh:∀ {os:List Oper} {done:List Nat},(ZW os done).length=done.length+os.length
 | [],done=>by simp[ZW]
 | o :: os,done=>by
  simp only[ZW]
  rw[ZJh]
  simp;omega
theorem ZYi {m:Nat}:∀ {k:Nat},allB m k=true→∀ i,i<k→m.testBit i=true
 | 0,_,_,h=>by omega
 | k+1,h,i,hi=>by
  simp only[allB]at h
  split at h
  ·rename_i hb
   rcases Nat.lt_or_ge i k with h1 | h1
   ·exact ZYi h i h1
   ·rw[show i=k by omega];exact hb
  ·cases h
theorem Z4k {ops:List Oper} {o:Oper} (h:Z8e ops=some o):ops.dropLast++[o]=ops∧o.guard=none∧∀ i,i<ops.dropLast.length→(ZOa (ZW ops.dropLast []) o.after.toList 0).testBit i=true:=by
 unfold Z8e at h;split at h
 ·cases h
 ·rename_i q hq;split at h
  ·cases h
  ·rename_i hc;split at h
   ·rename_i hb
    cases h
    refine⟨?_,?_,ZYi hb⟩
    ·rcases List.eq_nil_or_concat ops with rfl | ⟨L,b,rfl⟩
     ·cases hq
     ·simp at hq;subst hq;simp
    ·unfold Zvh at hc;split at hc
     ·rename_i hg;exact hg
     ·cases hc
   ·cases h
theorem Z0f {l:Array Bool} {i j:Nat} {b:Bool} (h:¬ j=i):(l.setIfInBounds i true).getD j b=l.getD j b:=by
 simp[Array.getD_eq_getD_getElem?,Array.getElem?_setIfInBounds_ne (Ne.symm h)]
theorem ZFk {C:Cf} (hC:CfOK C) {ops:Array Oper} {ol:Oper} {Ts:List (List Et)} {f:Fr} {l:Lo} {n:Nat} {Q:Exit→Act→World→Prop} (he:ops.toList.dropLast++[ol]=ops.toList) (hg:ol.guard=none) (hanc:∀ i,i<ops.toList.dropLast.length→(ZOa (ZW ops.toList.dropLast []) ol.after.toList 0).testBit i=true)
  (hb:Zvb 0 ops.toList=true) (hds:∀ o ∈ ops.toList,∀ k,o.dst=some k→k<N) (hl:Ts.length=ops.toList.dropLast.length)
  (hn:(l.map En.k).Nodup) (hok:okTs Ts f l) (htr:∀ i o τ,ops.toList.dropLast[i]? = some o→Ts[i]? = some τ→Tr (n+i) (gop C ops.toList (n+i) o) τ ()) (hch:ZLb [] (ZW ops.toList.dropLast []) (Ts.map λτ=>fpT τ Fp.no)=true)
  (hQ:∀ a' w',Rel N G w0 v0 (· < n+ops.toList.dropLast.length) (Z0b Ts f) (ZGb Ts l) a' w'→wpList C.P ops Q [ol] a' w'):∀ (fuel:Nat) (listed:Array Bool) (a:Act) (w:World),left listed=fuel+1→listed.getD ops.toList.dropLast.length true=false→Inv N G w0 v0 ops Ts f l n listed a w→wpAny C.P .any ops Q (fuel+1) listed a w:=by
 have hsz:ops.size=ops.toList.dropLast.length+1:=by
  have:=congrArg List.length he;simp at this ⊢;omega
 have initAt:∀ {j:Nat} {o:Oper},ops.toList.dropLast[j]? = some o→ops[j]? = some o:=λ{j o} h=>by
  rw[← Array.getElem?_toList,← he,List.getElem?_append_left (List.getElem?_eq_some_iff.1 h).1];exact h
 have lastAt:ops[ops.toList.dropLast.length]? = some ol:=by
  rw[← Array.getElem?_toList]
  conv=>lhs;rw[← he]
  simp
 have ord:∀ (i j:Nat) (τ σ:List Et),i<j→Ts[i]? = some τ→Ts[j]? = some σ→∃ m,(ZW ops.toList.dropLast [])[j]? = some m∧(m.testBit i=true∨Apart τ σ):=by
  intro i j τ σ hij hτ hσ;obtain⟨m,h1,h2⟩:=Zsf hch j (fpT σ Fp.no) (by simp[hσ]);refine⟨m,h1,(h2 i (fpT τ Fp.no) (by simp[hτ]) (by simpa using hij)).imp_right ZRi⟩
 have opAt:∀ (j:Nat) (σ:List Et),Ts[j]? = some σ→∃ o,ops.toList.dropLast[j]? = some o:=λj σ h=>by
  have:=(List.getElem?_eq_some_iff.1 h).1;rw[hl]at this;exact⟨_,List.getElem?_eq_getElem this⟩
 have hsub:∀ {listed:Array Bool} {a:Act} {w:World},Inv N G w0 v0 ops Ts f l n listed a w→∀ j o,ops.toList.dropLast[j]? = some o→listed.getD (([]:List Nat).length+j) false=true→∀ e ∈ o.after,Region.binds .any e=true→listed.getD e.on false=true:=λhI j o ho hS=>hI.closed j o (initAt ho) (by simpa using hS);intro fuel
 induction fuel with
 | zero =>
  intro listed a w hfu hlast hI;have hll:ops.toList.dropLast.length<listed.size:=by rw[hI.size];omega
  have h0:left (listed.setIfInBounds ops.toList.dropLast.length true)=0:=by have:=ZCd hlast;omega
  have hall':∀ j,(listed.setIfInBounds ops.toList.dropLast.length true).getD j true=true:=λj=>ZWf h0;have hall:∀ j,j≠ops.toList.dropLast.length→j<listed.size→listed.getD j false=true:=λj hj hlt=>by
   have:=hall' j;rw[← Zva hlt];rw[Z0f hj]at this;exact this
  refine⟨λh0=>?_,λi hi=>?_⟩
  ·exact absurd h0 (Z2e hb hI.size (ops.toList.dropLast.length+1) ops.toList.dropLast.length (by omega) (by omega) hlast)
  ·obtain⟨hun,o,ho,hbef⟩:=mem_ready.1 hi;have hil:i<listed.size:=by rw[hI.size];exact ZEa ho
   have hi2:i=ops.toList.dropLast.length:=by
    rcases Nat.decEq i ops.toList.dropLast.length with h | h
    ·have:=hall i h hil;rw[← Zva hil,hun]at this;cases this
    ·exact h
   subst hi2;rw[lastAt]at ho
   cases ho
   obtain⟨f1,l1,⟨γ,v,ℓ,h1⟩,h2,h3⟩:=hI.rel;obtain⟨k1,k2,k3⟩:=ZJg (b:=0) hok hn;have hsel:∀ (j:Nat) (σ:List Et),Ts[j]? = some σ→sel listed (0+j)=true:=λj σ h=>by
    have hj:=(List.getElem?_eq_some_iff.1 h).1;rw[hl]at hj;rw[Nat.zero_add];exact hall j (by omega) (by omega)
   have hw:=hQ a w ⟨γ,v,ℓ,(h1.look k1 (λt=>by rw[k2 t,h2 t];exact (ZAb λj σ hj _=>(hsel j σ hj).symm)) λt=>by rw[k3 t,h3 t];exact (ZAb λj σ hj _=>(hsel j σ hj).symm)).mono (λk hk=>?_) λk hk=>?_⟩
   ·unfold wpOp;rw[lastAt];unfold wpList at hw;have hwt:Region.wanted ol (yielded ops a.tmps)=true:=Zta hg;simp only[hwt,if_true]at hw ⊢;refine hw.imp_left (Oper.wp_mono λa' w' hq=>⟨?_,hq⟩)
    cases hx:Region.ready .any ops (listed.setIfInBounds ops.toList.dropLast.length true) with
    | nil=>rfl
    | cons p r =>
     obtain⟨h1,_⟩:=mem_ready.1 (show p ∈ Region.ready .any ops (listed.setIfInBounds ops.toList.dropLast.length true) by rw[hx];simp);rw[hall' p]at h1;cases h1
   all_goals
    rcases hk with hk | ⟨j,hj,rfl⟩
    ·omega
    ·have hlt:j<listed.size:=by
      rcases Nat.lt_or_ge j listed.size with h | h
      ·exact h
      ·simp[Array.getElem?_eq_none h]at hj
     have hne:j≠ops.toList.dropLast.length:=λe=>by
      rw[e,← Zva hll,hlast]at hj;cases hj
     rw[hI.size]at hlt;show n+j<n+_;omega
 | succ fuel ih =>
  intro listed a w hfu hlast hI;refine⟨λh0=>?_,λi hi=>?_⟩
  ·exact absurd h0 (Z2e hb hI.size (ops.toList.dropLast.length+1) ops.toList.dropLast.length (by omega) (by omega) hlast)
  ·obtain⟨hun,o,ho,hall⟩:=mem_ready.1 hi;have hil:i<listed.size:=by rw[hI.size];exact ZEa ho
   have hunf:listed.getD i false=false:=by rw[← Zva hil];exact hun
   have hne:i≠ops.toList.dropLast.length:=by
    intro e;subst e;rw[lastAt]at ho
    cases ho
    have hbits:∀ j,j<ops.toList.dropLast.length→listed.getD j false=true:=λj hj=>by
     rcases ZCe (hanc j hj) with h | ⟨e,h1,h2,h3⟩
     ·simp at h
     ·have hS:=hall e (by simpa using h1) h2;rcases h3 with h3 | h3
      ·rw[h3];exact hS
      ·cases hg:(ZW ops.toList.dropLast [])[e.on]? with
       | none=>rw[List.getD_eq_getElem?_getD,hg]at h3;simp at h3
       | some m =>
        rw[List.getD_eq_getElem?_getD,hg]at h3;have hlt:e.on<ops.toList.dropLast.length:=by
         have:=(List.getElem?_eq_some_iff.1 hg).1;rw[ZJh]at this;simpa using this
        have hoe:=List.getElem?_eq_getElem hlt;exact ZPc (S:=λk=>listed.getD k false=true) (done:=[]) (hsub hI) (λj' m' hm'=>by simp at hm') e.on _ m hoe (by simpa using hg) (hI.closed e.on _ (initAt hoe) hS) j h3
    have h0:left (listed.setIfInBounds ops.toList.dropLast.length true)=fuel+1:=by have:=ZCd hlast;omega
    obtain⟨j,hj,hj2⟩:=Zbg (listed:=listed.setIfInBounds ops.toList.dropLast.length true) (by omega);have hjs:j<listed.size:=by simpa using hj
    rcases Nat.decEq j ops.toList.dropLast.length with h | h
    ·have h1:=hbits j (by rw[hI.size]at hjs;omega);rw[← Zva hjs]at h1;rw[Z0f h,h1]at hj2;cases hj2
    ·subst h;have:(listed.setIfInBounds ops.toList.dropLast.length true).getD ops.toList.dropLast.length true=true:=by simp[hjs]
     rw[this]at hj2;cases hj2
   have hlt0:i<ops.toList.dropLast.length:=by
    rw[hI.size]at hil;omega
   have ho':ops.toList.dropLast[i]? = some o:=by
    have:=List.getElem?_eq_getElem hlt0;rw[this];have h2:=initAt this;rw[ho]at h2;exact h2.symm
   have hlt:i<Ts.length:=by rw[hl];exact (List.getElem?_eq_some_iff.1 ho').1
   have hτ:Ts[i]? = some Ts[i]:=List.getElem?_eq_getElem hlt;generalize hg:Ts[i]=τ at hτ;obtain⟨fi,li,b1,b2,b3,b4⟩:=ZOg (b:=0) hok hn hτ;obtain⟨f1,l1,⟨γ,v,ℓ,h1⟩,h2,h3⟩:=hI.rel;have befo:∀ (j:Nat) (σ:List Et),j<i→Ts[j]? = some σ→listed.getD j false=true∨Apart σ τ:=by
    intro j σ hj hσ;obtain⟨m,q1,q2⟩:=ord j i σ τ hj hσ hτ;refine q2.imp_left λhbit=>?_;refine ZPc (S:=λk=>listed.getD k false=true) (done:=[]) (hsub hI) (λj' m' hm'=>by simp at hm') i o m ho' (by simpa using q1) hall j hbit
   have afte:∀ (j:Nat) (σ:List Et),i<j→Ts[j]? = some σ→listed.getD j false=false∨Apart τ σ:=by
    intro j σ hj hσ;obtain⟨m,q1,q2⟩:=ord i j τ σ hj hτ hσ;refine q2.imp_left λhbit=>?_
    cases hx:listed.getD j false with
    | false=>rfl
    | true =>
     obtain⟨oj,hoj⟩:=opAt j σ hσ;have:=ZPc (S:=λk=>listed.getD k false=true) (done:=[]) (hsub hI) (λj' m' hm'=>by simp at hm') j oj m hoj (by simpa using q1) (hI.closed j oj (initAt hoj) hx) i hbit;rw[hunf]at this;cases this
   have same:∀ {β:Type} (eff:List Et→Nat→Option β) (P:Nat→Prop) (acc:β) (t:Nat),P t→(∀ σ,Apart σ τ→P t→eff σ t≠none→False)→(∀ σ,Apart τ σ→P t→eff σ t≠none→False)→ZK eff (λj=>decide (j<0+i)) Ts 0 acc t=ZK eff (sel listed) Ts 0 acc t:=by
    intro β eff P acc t hP hA hB;refine ZAb λj σ hj hne=>?_;simp only[Nat.zero_add];rcases Nat.lt_trichotomy j i with h | h | h
    ·rcases befo j σ h hj with q | q
     ·rw[dT h];exact q.symm
     ·exact (hA σ q hP hne).elim
    ·subst h;rw[dF (Nat.lt_irrefl _)];exact hunf.symm
    ·rcases afte j σ h hj with q | q
     ·rw[dF (by omega)];exact q.symm
     ·exact (hB σ q hP hne).elim
   have okτ:okT τ f1 l1:=by
    refine ZNb b2 h1.nd b1 (λt ht=>?_) λt ht=>?_
    ·rw[b3 t,h2 t];exact same Z9 (rdS τ) _ t ht (λσ q hp hne=>q.s1 t hne hp) λσ q hp hne=>q.s3 t hp hne
    ·rw[b4 t,h3 t];exact same ZJ (rdL τ) _ t ht (λσ q hp hne=>q.l1 t hne hp) λσ q hp hne=>q.l3 t hp hne
   have hruns:=ZBf (htr i o τ ho' hτ) okτ;have hnU:¬ UE n listed (n+i):=by
    rintro (h | ⟨j,hj,e⟩)
    ·omega
    ·have:i=j:=by omega
     subst this;rw[hunf]at hj;cases hj
   have selS:∀ j,sel (listed.setIfInBounds i true) j=if i=j then true else sel listed j:=λj=>by
    by_cases h:i=j
    ·subst h;rw[iP rfl];exact Zka hil
    ·rw[iN h];exact ZU h
   have hUE:∀ k,UE n listed k→UE n (listed.setIfInBounds i true) k:=by
    rintro k (h | ⟨j,hj,e⟩)
    ·exact .inl h
    ·refine .inr ⟨j,?_,e⟩;have:=selS j;unfold sel at this;rw[this,hj];split <;> rfl
   have hXi:UE n (listed.setIfInBounds i true) (n+i):=.inr ⟨i,Zka hil,rfl⟩;have hgg:=Z4e (X:=UE n (listed.setIfInBounds i true)) hC (h1.mono (λ_ h=>h) hUE) hUE hXi hnU hds (hds o (by rw[← he];exact List.mem_append_left _ (mG ho'))) hruns;have upd:∀ {β:Type} (eff:List Et→Nat→Option β) (acc:β) (t:Nat),(∀ σ,Apart τ σ→eff τ t≠none→eff σ t≠none→False)→ZK eff (sel (listed.setIfInBounds i true)) Ts 0 acc t=(eff τ t).getD (ZK eff (sel listed) Ts 0 acc t):=by
    intro β eff acc t hA
    cases he:eff τ t with
    | none =>
     refine ZAb λj σ hj hne=>?_;rw[Nat.zero_add,selS j,iN];intro e;subst e;rw[hτ]at hj;cases hj;exact hne he
    | some z =>
     refine ZBg (k:=i) hτ (by rw[Nat.zero_add,selS i,iP rfl]) he λj σ hij hσ hs=>?_;rw[Nat.zero_add,selS j,iN (by omega)]at hs;rcases afte j σ hij hσ with q | q
     ·rw[show sel listed j=false from q]at hs;cases hs
     ·cases hx:eff σ t with
      | none=>rfl
      | some y=>exact (hA σ q (by rw[he];exact λe=>by cases e) (by rw[hx];exact λe=>by cases e)).elim
   have nxt:∀ f' l' a' w',((()=()∧f'=Zza τ f1∧l'=Zya τ l1)∧True)→Rel N G w0 v0 (UE n (listed.setIfInBounds i true)) f' l' a' w'→wpAny C.P .any ops Q (fuel+1) (listed.setIfInBounds i true) a' w':=by
    rintro f' l' a' w' ⟨⟨_,rfl,rfl⟩,_⟩ hr;refine ih _ _ _ (by have:=ZCd hun;omega) (by
     rw[Z0f (Ne.symm hne)];exact hlast) ⟨by simp[hI.size],λj oj hj hlj e he hbb=>?_,_,_,hr,λt=>?_,λt=>?_⟩
    ·have hj2:=selS e.on;have hj3:=selS j;unfold sel at hj2 hj3;rw[hj2];split
     ·rfl
     ·rw[hj3]at hlj;split at hlj
      ·rename_i hij;subst hij;rw[ho]at hj;cases hj;exact hall e he hbb
      ·exact hI.closed j oj hj hlj e he hbb
    ·rw[Zdb okτ,h2 t];exact (upd Z9 _ t λσ q hp hne=>q.s2 t hp hne).symm
    ·rw[(ZSa h1.nd okτ).2 t,h3 t];exact (upd ZJ _ t λσ q hp hne=>q.l2 t hp hne).symm
   unfold wpOp;rw[ho];rcases hgg with ⟨hw,hg⟩ | ⟨hw,f',l',q1,q2⟩
   ·simp only[hw,if_true];exact .inl (Zte rfl hg λx w' ⟨f',l',q1,q2⟩=>nxt f' l' _ w' ⟨⟨rfl,q1.2⟩,trivial⟩ q2)
   ·simp only[hw];exact nxt f' l' _ w ⟨⟨rfl,q1.2⟩,trivial⟩ q2
end
end Go.Eng
