/- Lemmas towards the statement: the engine of the walks, the functions' models, laws and walks, part 5. Conditions: as each states. -/
import Derived.Test.YtlobnbckbknhgaaGreatLoD
set_option linter.all false
set_option maxRecDepth 100000
namespace Go.Eng
open Go.RowKit
def Zya (v:Zb):(ts:List T)→List Value→Zw ts→Prop
 | [],vals,_=>vals=[]
 | [t],vals,x=>∃ cs,vals=[t.rep.val cs]∧t.rep.rel v cs x
 | t :: u :: r,vals,x=>∃ cs vs,vals=t.rep.val cs :: vs∧t.rep.rel v cs x.1∧Zya v (u :: r) vs x.2
def ZXd (v:Zb) (ts:List T) (y:Value) (z:Zw ts):Prop:=match ts,z with
 | [t],z=>∃ cs,y=t.rep.val cs∧t.rep.rel v cs z
 | ts,z=>∃ vals:List Value,y = .tuple vals.toArray∧Zya v ts vals z
def Z4d (P:Program) (f:FuncId) (c:Con):Prop:=∀ (w:World) (v:Zb) (vals:List Value) (x:Zw c.args) (z:Zw c.res),VIn v w→Zya v c.args vals x→c.F x=some z →
 (ZL P f∧Ret P f vals.toArray w v λy v'=>ZXd v' c.res y z) ∨ ∃ y,(∀ w,(callFunc f vals.toArray).run P w = .ok (.value y) w)∧ZXd v c.res y z
def Zte (P:Program) (f:FuncId) (c:ConO):Prop:=∀ (w:World) (v:Zb) (vals:List Value) (x:Zw c.args) (z:List c.t.den),VIn v w→Zya v c.args vals x→c.F x=some z →
 ZL P f∧RetO P f vals.toArray w v (OwnR c.t.rep c.ty c.t.n z w)
def Znk (P:Program) (f:FuncId) (c:ConI):Prop:=∀ (w:World) (v:Zb) (ob:Option Nat) (n cap:Nat) (cs:List Value) (l:List c.t.den) (i:Int) (bv kv:Nat) (c0:Array Value) (x:c.t.den) (z:List c.t.den),VIn v w→(Loc.own ob c.ty c.t.n n cap cs).holds w→(∀ b,ob=some b→v b=none)→c.t.rep.rels v cs l→n=l.length →
 1≤kv→v bv=some (.cells c0 c.ty (0,0))→c.t.rep.rel v (c0.toList.take c.t.n) x→inR .i64 i→c.F l i x=some z →
 ZL P f∧Z9c P f #[.slice (mkA ob) n cap,.int .i64 i,.slice (some ⟨bv,0,none⟩) 1 kv] w v ob.toList (OwnI c.t.rep c.ty c.t.n z ob w)
def OwnM (ty ty2:TypeId) (t:T) (m:List (List t.den)) (w:World) (r:Value) (v':Zb) (w':World):Prop :=
 ∃ ob cap rows es,r = .slice (mkA ob) m.length cap∧Zga v' ty2 t rows m es∧(∀ x ∈ Loc.own ob ty 1 m.length cap (Zn rows m) :: es,x.holds w'∧∀ b,x.blk=some b→w.heap.size≤b∧v' b=none)∧((Loc.own ob ty 1 m.length cap (Zn rows m) :: es).filterMap Loc.blk).Nodup
def Zhh (P:Program) (f:FuncId) (c:ConM):Prop:=∀ (w:World) (v:Zb) (vals:List Value) (x:Zw c.args) (z:List (List c.t.den)),VIn v w→Zya v c.args vals x→c.F x=some z →
 ZL P f∧RetO P f vals.toArray w v (OwnM c.ty c.ty2 c.t z w)
def OwnB (ty:TypeId) (c:CT) (res:List T) (b:Nat) (r:c.den×Zw res) (lent:List Nat) (w:World) (y:Value) (v':Zb) (w':World):Prop :=
 ZXd v' res y r.2∧∃ es',CRL v' (.box ty c) r.1 (.box b) es'∧(∀ e ∈ es',e.holds w'∧∀ k,e.blk=some k→(w.heap.size≤k∨k ∈ lent)∧v' k=none)∧(es'.filterMap Loc.blk).Nodup
def Z4f (P:Program) (f:FuncId) (c:ConB):Prop:=∀ (w:World) (v:Zb) (b:Nat) (es:List Loc) (vals:List Value) (z:c.c.den) (x:Zw c.args) (r:c.c.den×Zw c.res),VIn v w→CRL v (.box c.ty c.c) z (.box b) es→(∀ e ∈ es,e.holds w∧∀ k,e.blk=some k→v k=none)→(es.filterMap Loc.blk).Nodup→Zya v c.args vals x→c.F z x=some r →
 ZL P f∧Z9c P f (Value.pointer (some ⟨b,0,none⟩) :: vals).toArray w v (es.filterMap Loc.blk) (OwnB c.ty c.c c.res b r (es.filterMap Loc.blk) w)
def Zmh (P:Program) (f:FuncId) (c:ConD):Prop:=∀ (w:World) (v:Zb) (ob:Option Nat) (n cap:Nat) (cs:List Value) (l:List c.t.den) (i j:Int) (z:List c.t.den),VIn v w→(Loc.own ob c.ty c.t.n n cap cs).holds w→(∀ b,ob=some b→v b=none)→c.t.rep.rels v cs l→n=l.length→inR .i64 i→inR .i64 j→c.F l i j=some z →
 ZL P f∧Z9c P f #[.slice (mkA ob) n cap,.int .i64 i,.int .i64 j] w v ob.toList (OwnI c.t.rep c.ty c.t.n z ob w)
def OwnPR (ty:TypeId) (t:T) (res:List T) (z:List t.den×Zw res) (w:World) (y:Value) (v':Zb) (w':World):Prop :=
 ∃ r0 rest,y = .tuple (r0 :: rest).toArray∧OwnR t.rep ty t.n z.1 w r0 v' w'∧Zya v' res rest z.2
def ZFm (P:Program) (f:FuncId) (c:ConP):Prop:=∀ (w:World) (v:Zb) (vals:List Value) (x:Zw c.args) (z:List c.t.den×Zw c.res),VIn v w→Zya v c.args vals x→c.F x=some z →
 ZL P f∧RetO P f vals.toArray w v (OwnPR c.ty c.t c.res z w)
structure CfOK (C:Cf):Prop where
 c:∀ f c,ZP C.cons f=some c→Z4d C.P f c
 o:∀ f c,ZP C.owns f=some c→Zte C.P f c
 i:∀ f c,ZP C.ins f=some c→Znk C.P f c
 m:∀ t s f,lkM C.meths t s=some f→∀ y w,(method (C.P.types.size+Made.depth) t y s).run C.P w = .ok (f,y) w
 q:∀ f c,ZP C.omats f=some c→Zhh C.P f c
 b:∀ f c,ZP C.boxs f=some c→Z4f C.P f c
 d:∀ f c,ZP C.dels f=some c→Zmh C.P f c
 p:∀ f c,ZP C.pows f=some c→ZFm C.P f c
section
variable {P:Program} {N:Nat} {G:V→Value→Prop} {w0:Base} {v0:Zb} {U X:Nat→Prop} {f:Fr} {l:Lo} {a:Act} {w:World} {γ:Nat→Gh} {v:Zb} {ℓ:List Loc} {n:Nat}
variable {d:Option Nat} {ty:TypeId} {pos:String} {aft:Array Edge} {g:Option (Nat×Bool)}
theorem Ztq (hr:RelX N G w0 v0 U X f l a w γ v ℓ) {lo:Option Operand} {k:Option Int→Ev Unit} {Post:Unit→Fr→Lo→Prop} (h:Zj n (optI lo k) f l Post):∃ i,Zj n (k i) f l Post∧((lo=none∧i=none) ∨ ∃ y κ q,lo=some y∧i=some q∧a.eval y = .int κ q):=by
 cases lo with
 | none=>exact⟨none,h,.inl ⟨rfl,rfl⟩⟩
 | some y =>
  obtain⟨V1,h1,_,hA⟩:=ZF hr h;obtain⟨κ,i,rfl,hB⟩:=Z2a hA;exact⟨some i,hB,.inr ⟨y,κ,i,rfl,rfl,(Zza h1).1⟩⟩
theorem ZLj (hr:RelX N G w0 v0 U X f l a w γ v ℓ) (hU:∀ k,U k→X k) (hX:X n) {t:TypeId} {x:Operand} {lo hi:Option Operand} {o:Oper} {p:V} {i j:Option Int} {Post:Unit→Fr→Lo→Prop} (ho:o=⟨d,.slice t x lo hi none,ty,pos,aft,g⟩) (hd:∀ k,o.dst=some k→k<N) (hp:RV v γ l p (a.eval x))
  (hlo:(lo=none∧i=none) ∨ ∃ y κ q,lo=some y∧i=some q∧a.eval y = .int κ q) (hhi:(hi=none∧j=none) ∨ ∃ y κ q,hi=some y∧j=some q∧a.eval y = .int κ q) (h:Zj n (cutE P o t p i j) f l Post):Zba P N G w0 v0 X o a w Post:=by
 obtain⟨σ,hσ,hev⟩:=hr.st.evs (x :: (lo.toList++hi.toList));have hx:=hev x (by simp);have h1:∀ m:Int,(Z4g i 0=m)→(lo=none∧m=0) ∨ ∃ y k,lo=some y∧ev σ y=some (.int k m):=by
  intro m hm;rcases hlo with ⟨e1,e2⟩ | ⟨y,κ,q,e1,e2,e3⟩
  ·subst e2;exact .inl ⟨e1,hm.symm⟩
  ·subst e1 e2;have hm:q=m:=hm;exact .inr ⟨y,κ,rfl,by rw[hev y (by simp),e3,hm]⟩
 have h2:∀ (len:Nat) (m:Int),(Z4g j (len:Int)=m)→(hi=none∧m=len) ∨ ∃ y k,hi=some y∧ev σ y=some (.int k m):=by
  intro len m hm;rcases hhi with ⟨e1,e2⟩ | ⟨y,κ,q,e1,e2,e3⟩
  ·subst e2;exact .inl ⟨e1,hm.symm⟩
  ·subst e1 e2;have hm:q=m:=hm;exact .inr ⟨y,κ,rfl,by rw[hev y (by simp),e3,hm]⟩
 unfold cutE at h;split at h
 ·rename_i s xs;obtain⟨qa,m,c,hy,hR⟩:=ZXn hp;rw[hy]at hx;split at h
  ·rename_i q hq;split at h
   ·rename_i hb;have hb:=eQ hb;have hSl:=Zco hq;rw[hb,← ZD]at hSl;obtain⟨yy,hyy,h⟩:=h;obtain⟨c0,c1,c2,c3,_⟩:=ZRf hyy;obtain⟨q',cap',hrun,hrel⟩:=ZAv hσ hSl hR c0 c1 c2;rw[← c3]at hrel;subst ho;exact ZI hr hU (hrun hx (h1 _ rfl) (h2 _ _ rfl)) hd hX (x:=.data (.slice s) yy) ⟨[_],hrel,rfl⟩ trivial h
   ·exact h.elim
  ·exact h.elim
 ·obtain⟨e1,e2⟩:=ZQg hp;rw[e1]at hx;split at h
  ·rename_i ht;obtain⟨yy,hyy,h⟩:=h;subst ho;exact ZI hr hU (ZSv hσ hx ht (h1 _ rfl) (h2 _ _ rfl) hyy) hd hX (Z6i (Zqz hyy e2)) trivial h
  ·exact h.elim
 ·exact h.elim
theorem Zmf {ρ:Type}:∀ (g:Nat) {t:T} {x:V} {k:t.den→Ev ρ} {l:Lo} {Post:ρ→Fr→Lo→Prop},Zj n (conv g t x k) f l Post→x.isAgg=t.agg
 | 0,_,_,_,_,_,h=>h.elim
 | g+1,t,x,k,l,Post,h=>by
  cases x with
  | data s x =>
   simp only[conv]at h
   split at h
   ·rename_i y hy
    obtain⟨e,_⟩:=ZV hy
    subst e;rfl
   ·split at h
    ·rfl
    ·rfl
    ·rfl
    ·rfl
    ·rfl
    ·split at h
     ·rename_i c hc
      have h1:=Zmf g (x:=.agg c) h
      have h2:s.agg=true:=by
       unfold Zje at hc;split at hc <;> first | rfl | cases hc
      exact h2.trans h1
     ·exact h.elim
  | nilS =>
   simp only[conv]at h;split at h <;> first | rfl | exact h.elim
  | own u =>
   simp only[conv]at h;obtain⟨e,he,h⟩:=h;obtain⟨kk,st,L⟩:=e
   cases L with
   | box _ _=>exact h.elim
   | mid _ _ _ _ _ _=>exact h.elim
   | own ty s xs fz =>
    cases fz with
    | true=>exact Zmf g (x:=.data (.slice s) xs) h
    | false=>exact Zmf g (x:=.data (.slice s) xs) h
   | mat ty _ s m _=>exact Zmf g (x:=.data (.slice (.slice s)) m) h
  | agg c =>
   cases c with
   | cons x1 c =>
    cases c with
    | cons x2 r=>simp only[conv]at h;split at h <;> first | rfl | exact h.elim
    | nl=>simp only[conv]at h;split at h <;> first | rfl | exact h.elim
    | _=>simp only[conv]at h;exact h.elim
   | _=>simp only[conv]at h;exact h.elim
  | ptr u o =>
   cases o with
   | succ _=>simp only[conv]at h;exact h.elim
   | zero=>simp only[conv]at h;split at h <;> first | rfl | exact h.elim
  | _=>simp only[conv]at h;exact h.elim
theorem ZRt {x:V} {t:T} {cs:List Value} (h:x.isAgg=t.agg):x.val cs=t.rep.val cs:=by
 unfold V.val Rep.val;rw[h,ZIt]
 cases t.agg <;> rfl
theorem Zzl {v v':Zb} (h:v.le v'):∀ {ts:List T} {vals:List Value} {x:Zw ts},Zya v ts vals x→Zya v' ts vals x
 | [],_,_,k=>k
 | [_],_,_,⟨cs,h1,h2⟩=>⟨cs,h1,Rep.mono _ h h2⟩
 | _ :: _ :: _,_,_,⟨cs,vs,h1,h2,h3⟩=>⟨cs,vs,h1,Rep.mono _ h h2,Zzl h h3⟩
theorem ZVe {ρ:Type} (hn:¬ U n) (hX:X n):∀ {ts:List T} {c:V} {k:Zw ts→Ev ρ} {l:Lo} {γ:Nat→Gh} {v:Zb} {ℓ:List Loc} {Post:ρ→Fr→Lo→Prop},Zj n (ZId ts c k) f l Post→RelX N G w0 v0 U X f l a w γ v ℓ→c.ok U →
  ∃ x l' γ' v' ℓ',Zj n (k x) f l' Post∧RelX N G w0 v0 U X f l' a w γ' v' ℓ'∧Le U v γ l v' γ' l'∧∀ vals,RR v γ l true c vals→Zya v' ts vals x
 | [],c,k,l,γ,v,ℓ,Post,h,hr,hk=>by
  obtain⟨E,hE,_⟩:=hr.lr
  cases c with
  | nl=>exact⟨(),l,γ,v,ℓ,h,hr,Le.refl hE (Zb.le_refl _),λvals hv=>hv⟩
  | _=>exact h.elim
 | [t],c,k,l,γ,v,ℓ,Post,h,hr,hk=>by
  cases c with
  | cons x c =>
   cases c with
   | nl =>
    have hag:=Zmf FU (n:=n) (f:=f) (l:=l) (t:=t) (x:=x) h
    obtain⟨y,l1,γ1,v1,ℓ1,h,r1,le1,q1⟩:=Zdd hn hX FU h hr hk.1
    refine⟨y,l1,γ1,v1,ℓ1,h,r1,le1,λvals hv=>?_⟩
    obtain⟨cs,vs,rfl,h1,h2⟩:=hv
    have h2:vs=[]:=h2
    subst h2
    exact⟨cs,by rw[ZRt hag],q1 _ h1⟩
   | _=>exact h.elim
  | _=>exact h.elim
 | t :: u :: r,c,k,l,γ,v,ℓ,Post,h,hr,hk=>by
  cases c with
  | cons x c =>
   have h':Zj n (conv FU t x λx=>ZId (u :: r) c λy=>k (x,y)) f l Post:=by
    cases c <;> exact h
   have hag:=Zmf FU (n:=n) (f:=f) (l:=l) (t:=t) (x:=x) h';obtain⟨y,l1,γ1,v1,ℓ1,h1,r1,le1,q1⟩:=Zdd hn hX FU h' hr hk.1;obtain⟨ys,l2,γ2,v2,ℓ2,h2,r2,le2,q2⟩:=ZVe hn hX h1 r1 hk.2;refine⟨(y,ys),l2,γ2,v2,ℓ2,h2,r2,le1.trans le2,λvals hv=>?_⟩;obtain⟨cs,vs,rfl,h3,h4⟩:=hv;exact⟨cs,vs,by rw[ZRt hag],Rep.mono _ le2.v (q1 _ h3),q2 _ (Zcb le1 hk.2 h4)⟩
  | _=>exact h.elim
theorem ZDn {v:Zb}:∀ {ts:List T} {vals:List Value} {x:Zw ts},Zya v ts vals x→RR v γ l true (ZJc ts x) vals∧(ZJc ts x).ok U
 | [],_,_,h=>⟨h,trivial⟩
 | [t],_,x,⟨cs,h1,h2⟩=>⟨⟨cs,[],by rw[h1];exact congrArg (λz=>[z]) (Zlg (t:=t) (x:=x) (cs:=cs)).symm,h2,rfl⟩,trivial,trivial⟩
 | t :: u :: r,_,x,⟨cs,vs,h1,h2,h3⟩=>by
  obtain⟨k1,k2⟩:=ZDn h3
  exact⟨⟨cs,vs,by rw[h1];exact congrArg (· :: vs) (Zlg (t:=t) (x:=x.1) (cs:=cs)).symm,h2,k1⟩,trivial,k2⟩
theorem ZIn {v:Zb} {ts:List T} {y:Value} {z:Zw ts} (h:ZXd v ts y z):RV v γ l (Zmd (ZJc ts z)) y∧(Zmd (ZJc ts z)).ok U:=by
 match ts,z,h with
 | [],z,⟨vals,h1,h2⟩=>exact⟨⟨vals,h2,h1⟩,trivial⟩
 | [t],z,⟨cs,h1,h2⟩=>exact⟨⟨cs,h2,by rw[h1];exact (Zlg (t:=t) (x:=z) (cs:=cs)).symm⟩,trivial⟩
 | t :: u :: r,z,⟨vals,h1,h2⟩ =>
  obtain⟨k1,k2⟩:=ZDn (γ:=γ) (l:=l) (U:=U) h2
  cases r <;> exact⟨⟨vals,k1,h1⟩,k2⟩
theorem ZRo {σ:List (Nat×Value)} (hS:St N w0 v0 σ ℓ v a w) {x:Operand} {m:String} {f:FuncId} {xs:Array Operand} {ats:Array TypeId} {t:TypeId} {y:Value} (vals:List Value) (hm:∀ w,(method (P.types.size+Made.depth) t y m).run P w = .ok (f,y) w) (e:ev σ x=some (.iface t y))
  (h:xs.toList.map (ev σ)=vals.map some) {r:Go.Next} (hf:(callFunc f (y :: vals).toArray).run P w = .ok r w):(execOp a.eval ⟨d,.call ⟨.invoke x m,xs,ats⟩,ty,pos,aft,g⟩).run P w = .ok r w:=by
 have hx:xs.map a.eval=vals.toArray:=by
  apply Array.ext';rw[Array.toList_map];generalize xs.toList=l at h;clear hf
  induction l generalizing vals with
  | nil=>cases vals <;> simp_all
  | cons y l ih =>
   cases vals with
   | nil=>simp at h
   | cons u vals =>
    simp at h;simp[hS.eval h.1,ih vals h.2]
 simp[execOp,resolve,invoke,callMethod,hx,hS.eval e,hm,hf]
theorem Zjn (hr:RelX N G w0 v0 U X f l a w γ v ℓ) (hU:∀ k,U k→X k) (hX:X n) (hn:¬ U n) {e:TypeId} {s:T} {xs:List s.den} {o:Oper} {ob:Option Nat} {cap:Nat} {cs:List Value} {Post:Unit→Fr→Lo→Prop} (hd:∀ k,o.dst=some k→k<N)
  (hst:St N w0 v0 [] (.own ob e s.n xs.length cap cs :: ℓ) v a w) (hc:s.rep.rels v cs xs) (h:Zj n (Ev.new n (.own e s xs false) (ret o (.own n))) f l Post):∃ f' l',Post () f' l'∧Rel N G w0 v0 X f' l' (a.put o.dst (.slice (mkA ob) xs.length cap)) w:=by
 obtain⟨hnew,h⟩:=h;obtain⟨E,hE,hpm⟩:=hr.lr;have hr':=hr.new (γ':=Zeb γ n (.own ob cap)) (L':=.own e s xs false) hX hX hn hnew hE (hst.perm (List.Perm.cons _ hpm)) (Zb.le_refl _) (λ_ h=>ZFb h) ⟨ob,cap,cs,ZAa,hc,rfl⟩ (List.Perm.refl _) trivial;unfold ret at h
 cases hdd:o.dst with
 | none=>rw[hdd]at h;exact h.elim
 | some d =>
  rw[hdd]at h;refine⟨_,_,h,_,_,_,(hr'.mono hU λ_ h=>h).put (hd d hdd) (x:=.own n) ⟨[_],⟨_,rfl,by cases ob <;> rfl,λe' he'=>?_⟩,rfl⟩ hX hX⟩;rw[ZE,iP rfl]at he';cases he';exact⟨_,_,ZAa,rfl⟩
theorem Zqy (hr:RelX N G w0 v0 U X f l a w γ v ℓ) (hU:∀ k,U k→X k) (hX:X n) (hn:¬ U n) {e:TypeId} {s:T} {xs:List s.den} {res:List T} {z2:Zw res} {rest:List Value} {o:Oper} {ob:Option Nat} {cap:Nat} {cs:List Value} {Post:Unit→Fr→Lo→Prop} (hd:∀ k,o.dst=some k→k<N)
  (hst:St N w0 v0 [] (.own ob e s.n xs.length cap cs :: ℓ) v a w) (hc:s.rep.rels v cs xs) (hrest:Zya v res rest z2) (h:Zj n (Ev.new n (.own e s xs false) (ret o (.tup (.cons (.own n) (ZJc res z2))))) f l Post):∃ f' l',Post () f' l'∧Rel N G w0 v0 X f' l' (a.put o.dst (.tuple (.slice (mkA ob) xs.length cap :: rest).toArray)) w:=by
 obtain⟨hnew,h⟩:=h;obtain⟨E,hE,hpm⟩:=hr.lr;have hr':=hr.new (γ':=Zeb γ n (.own ob cap)) (L':=.own e s xs false) hX hX hn hnew hE (hst.perm (List.Perm.cons _ hpm)) (Zb.le_refl _) (λ_ h=>ZFb h) ⟨ob,cap,cs,ZAa,hc,rfl⟩ (List.Perm.refl _) trivial;unfold ret at h
 cases hdd:o.dst with
 | none=>rw[hdd]at h;exact h.elim
 | some d =>
  rw[hdd]at h;obtain⟨k1,k2⟩:=ZDn (γ:=Zeb γ n (.own ob cap)) (l:=⟨n,n,LV.own e s xs false⟩ :: l) (U:=X) hrest;refine⟨_,_,h,_,_,_,(hr'.mono hU λ_ h=>h).put (hd d hdd) (x:=.tup (.cons (.own n) (ZJc res z2))) ⟨_ :: rest,⟨[_],rest,rfl,⟨_,rfl,by cases ob <;> rfl,λe' he'=>?_⟩,k1⟩,rfl⟩ ⟨hX,k2⟩ hX⟩;rw[ZE,iP rfl]at he';cases he';exact⟨_,_,ZAa,rfl⟩
theorem St.addL {K:Nat} {w0:Base} {v0:Zb} {σ:List (Nat×Value)} {ℓ es:List Loc} {v:Zb} {a:Act} {w:World} {s:Nat} (h:St K w0 v0 σ ℓ v a w) (hs:w0.wd.heap.size≤s) (hnew:∀ x ∈ es,x.holds w∧∀ b,x.blk=some b→s≤b∧v b=none) (hnd:(es.filterMap Loc.blk).Nodup) (hold:∀ x ∈ ℓ,∀ b,x.blk=some b→b<s):St K w0 v0 σ (es++ℓ) v a w:=by
 refine⟨h.size,h.dfr,h.fr,h.ext,h.vst,λx hx=>?_,?_⟩
 ·rcases List.mem_append.1 hx with hx | hx
  ·exact⟨(hnew x hx).1,λb eb=>⟨.inl (Nat.le_trans hs ((hnew x hx).2 b eb).1),((hnew x hx).2 b eb).2⟩⟩
  ·exact h.loc x hx
 ·rw[List.filterMap_append];refine List.nodup_append.2 ⟨hnd,h.nd,λb hb b' hb' e=>?_⟩;subst e;obtain⟨x,hx,hxb⟩:=List.mem_filterMap.1 hb;obtain⟨y,hy,hyb⟩:=List.mem_filterMap.1 hb';have h1:=((hnew x hx).2 b hxb).1;have h2:=hold y hy b hyb;omega
theorem put_mat (hr:RelX N G w0 v0 U X f l a w γ v ℓ) (hU:∀ k,U k→X k) (hX:X n) (hn:¬ U n) {ty ty2:TypeId} {t:T} {m:List (List t.den)} {o:Oper} {ob:Option Nat} {cap:Nat} {rows:List (Option Nat×Nat)} {es:List Loc} {Post:Unit→Fr→Lo→Prop} (hd:∀ k,o.dst=some k→k<N)
  (hst:St N w0 v0 [] ((.own ob ty 1 m.length cap (Zn rows m) :: es)++ℓ) v a w) (hc:Zga v ty2 t rows m es) (h:Zj n (Ev.new n (.mat ty ty2 t m n) (ret o (.own n))) f l Post):∃ f' l',Post () f' l'∧Rel N G w0 v0 X f' l' (a.put o.dst (.slice (mkA ob) m.length cap)) w:=by
 obtain⟨hnew,h⟩:=h;obtain⟨E,hE,hpm⟩:=hr.lr;have hr':=hr.new (γ':=Zeb γ n (.mat ob cap rows)) (L':=.mat ty ty2 t m n) (es':=.own ob ty 1 m.length cap (Zn rows m) :: es) hX hX hn hnew hE (hst.perm (List.Perm.append_left _ hpm)) (Zb.le_refl _) (λ_ h=>ZFb h) ⟨ob,cap,rows,es,ZAa,hc,rfl⟩ (List.Perm.refl _) hX;unfold ret at h
 cases hdd:o.dst with
 | none=>rw[hdd]at h;exact h.elim
 | some d =>
  rw[hdd]at h;refine⟨_,_,h,_,_,_,(hr'.mono hU λ_ h=>h).put (hd d hdd) (x:=.own n) ⟨[_],⟨_,rfl,by cases ob <;> rfl,λe' he'=>?_⟩,rfl⟩ hX hX⟩;rw[ZE,iP rfl]at he';cases he';exact⟨_,_,_,ZAa,rfl⟩
theorem Zjq {c:ConI} {fid:FuncId} (hI:Znk P fid c) (hr:RelX N G w0 v0 U X f l a w γ v ℓ) (hU:∀ k,U k→X k) (hX:X n) (hn:¬ U n) {o:Oper} {Post:Unit→Fr→Lo→Prop} (hd:∀ k,o.dst=some k→k<N) {ob:Option Nat} {cap:Nat} {cs:List Value} {xs:List c.t.den} {i:Int} {bv kv:Nat} {c0:Array Value} {x:c.t.den} {z:List c.t.den}
  (hst:St N w0 v0 [] (.own ob c.ty c.t.n xs.length cap cs :: ℓ) v a w) (hA:c.t.rep.rels v cs xs) (hkv:1≤kv) (hbv:v bv=some (.cells c0 c.ty (0,0))) (hx:c.t.rep.rel v (c0.toList.take c.t.n) x) (hi:inR .i64 i) (hz:c.F xs i x=some z)
  (hent:ZL P fid→(execOp a.eval o).run P w = .ok (.enter fid #[.slice (mkA ob) xs.length cap,.int .i64 i,.slice (some ⟨bv,0,none⟩) 1 kv]) w) (h:Zj n (Ev.new n (.own c.ty c.t z false) (ret o (.own n))) f l Post):Zba P N G w0 v0 X o a w Post:=by
 obtain⟨hh,hb⟩:=hst.loc _ List.mem_cons_self;obtain⟨hen,hret⟩:=hI w v ob xs.length cap cs xs i bv kv c0 x z hst.vin hh (λb e=>(hb b e).2) hA rfl hkv hbv hx hi hz;refine ZGc (hent hen) (Calls.mono hret λe w' ⟨r,v',e1,e2,e3,e4⟩=>⟨r,e1,?_⟩);obtain⟨ob',n',cap',cs',rfl,hh',hb',hA',hn'⟩:=e4;subst hn';have hS:=hst.afterI (i:=0) (e':=.own ob' c.ty c.t.n z.length cap' cs') rfl e2 e3 hh' λb hb=>by
  obtain⟨q1,q2⟩:=hb' b hb;exact⟨q1,q2⟩
 have hS:St N w0 v0 [] (.own ob' c.ty c.t.n z.length cap' cs' :: ℓ) v' a w':=hS;exact Zjn (hr.go e3.le (hS.drop (List.sublist_cons_self _ _))) hU hX hn hd hS hA' h
theorem ZZz {c:ConD} {fid:FuncId} (hI:Zmh P fid c) (hr:RelX N G w0 v0 U X f l a w γ v ℓ) (hU:∀ k,U k→X k) (hX:X n) (hn:¬ U n) {o:Oper} {Post:Unit→Fr→Lo→Prop} (hd:∀ k,o.dst=some k→k<N) {ob:Option Nat} {cap:Nat} {cs:List Value} {xs:List c.t.den} {i j:Int} {z:List c.t.den}
  (hst:St N w0 v0 [] (.own ob c.ty c.t.n xs.length cap cs :: ℓ) v a w) (hA:c.t.rep.rels v cs xs) (hi:inR .i64 i) (hj:inR .i64 j) (hz:c.F xs i j=some z)
  (hent:ZL P fid→(execOp a.eval o).run P w = .ok (.enter fid #[.slice (mkA ob) xs.length cap,.int .i64 i,.int .i64 j]) w) (h:Zj n (Ev.new n (.own c.ty c.t z false) (ret o (.own n))) f l Post):Zba P N G w0 v0 X o a w Post:=by
 obtain⟨hh,hb⟩:=hst.loc _ List.mem_cons_self;obtain⟨hen,hret⟩:=hI w v ob xs.length cap cs xs i j z hst.vin hh (λb e=>(hb b e).2) hA rfl hi hj hz;refine ZGc (hent hen) (Calls.mono hret λe w' ⟨r,v',e1,e2,e3,e4⟩=>⟨r,e1,?_⟩);obtain⟨ob',n',cap',cs',rfl,hh',hb',hA',hn'⟩:=e4;subst hn';have hS:=hst.afterI (i:=0) (e':=.own ob' c.ty c.t.n z.length cap' cs') rfl e2 e3 hh' λb hb=>by
  obtain⟨q1,q2⟩:=hb' b hb;exact⟨q1,q2⟩
 have hS:St N w0 v0 [] (.own ob' c.ty c.t.n z.length cap' cs' :: ℓ) v' a w':=hS;exact Zjn (hr.go e3.le (hS.drop (List.sublist_cons_self _ _))) hU hX hn hd hS hA' h
theorem Z6t {C:Cf} (hC:CfOK C) (hr:RelX N G w0 v0 U X f l a w γ v ℓ) (hU:∀ k,U k→X k) (hX:X n) (hn:¬ U n) {fid:FuncId} {c:V} {vals:List Value} {o:Oper} {Post:Unit→Fr→Lo→Prop} (hd:∀ k,o.dst=some k→k<N)
  (hent:ZL C.P fid→(execOp a.eval o).run C.P w = .ok (.enter fid vals.toArray) w) (hval:∀ y,(∀ w,(callFunc fid vals.toArray).run C.P w = .ok (.value y) w)→(execOp a.eval o).run C.P w = .ok (.value y) w)
  (hc:RR v γ l true c vals) (hk:c.ok U) (h:Zj n (ZSi C n o fid c) f l Post):Zba C.P N G w0 v0 X o a w Post:=by
 unfold ZSi at h;split at h
 ·rename_i con hcon;obtain⟨p,l1,γ1,v1,ℓ1,h,r1,le1,q1⟩:=ZVe hn hX h hr hk;obtain⟨z,hz,h⟩:=h;have hR:=q1 _ hc;rcases hC.c fid con hcon w v1 _ p z r1.st.vin hR hz with ⟨hen,hret⟩ | ⟨y,hv,hres⟩
  ·refine ZGc (hent hen) (Calls.mono hret λe w' ⟨r,v',e1,e2,e3,e4⟩=>⟨r,e1,?_⟩);have r2:=r1.go e3.le (r1.st.step e2 e3);obtain⟨k1,k2⟩:=ZIn (γ:=γ1) (l:=l1) (U:=X) e4;unfold ret at h
   cases hdd:o.dst with
   | none=>rw[hdd]at h;exact h.elim
   | some dd =>
    rw[hdd]at h;exact⟨_,_,h,_,_,_,(r2.mono hU λ_ h=>h).put (hd dd hdd) k1 k2 hX⟩
  ·obtain⟨k1,k2⟩:=ZIn (γ:=γ1) (l:=l1) (U:=X) hres;exact ZI r1 hU (hval y hv) hd hX k1 k2 h
 ·split at h
  ·rename_i con hcon;obtain⟨p,l1,γ1,v1,ℓ1,h,r1,le1,q1⟩:=ZVe hn hX h hr hk;obtain⟨z,hz,h⟩:=h;have hR:=q1 _ hc;obtain⟨hen,hret⟩:=hC.o fid con hcon w v1 _ p z r1.st.vin hR hz;refine ZGc (hent hen) (Calls.mono hret λe w' ⟨r,v',e1,e2,e3,e4⟩=>⟨r,e1,?_⟩);obtain⟨ob,n',cap,cs,rfl,hh,hb,hA,hn'⟩:=e4;subst hn';have h':=r1.st.step e2 e3;refine Zjn (r1.go e3.le h') hU hX hn hd (cs:=cs) ⟨h'.size,h'.dfr,h'.fr,h'.ext,h'.vst,λx hx=>?_,?_⟩ hA h
   ·rcases List.mem_cons.1 hx with rfl | hx
    ·exact⟨hh,λb eb=>⟨.inl (Nat.le_trans r1.st.ext.size (hb b eb).1),(hb b eb).2⟩⟩
    ·exact h'.loc x hx
   ·cases ob with
    | none=>rw[List.filterMap_cons_none (show (Loc.own none con.ty con.t.n z.length cap cs).blk=none from rfl)];exact h'.nd
    | some b =>
     rw[List.filterMap_cons_some (show (Loc.own (some b) con.ty con.t.n z.length cap cs).blk=some b from rfl)];refine List.nodup_cons.2 ⟨λhm=>?_,h'.nd⟩;obtain⟨x,hx,hxb⟩:=List.mem_filterMap.1 hm;obtain⟨c,T',hg⟩:=Loc.blk_get (r1.st.loc x hx).1 hxb;have h1:=Z6c hg;have h2:=(hb b rfl).1;omega
  ·split at h
   ·rename_i con hcon;have hI:=hC.i fid con hcon;unfold insE at h;split at h
    ·rename_i A i u2;obtain⟨cA,xs1,rfl,hA1,xs2,xs3,rfl,hI1,xs4,xs5,rfl,hU2,hnl⟩:=hc;have hnl:xs5=[]:=hnl;subst hnl;obtain⟨e2,he2,h⟩:=h;obtain⟨k2,st2,L2⟩:=e2;have hk2:k2=u2:=(Zl he2).2;subst hk2
     cases L2 with
     | own ty2 s2 l2 fz =>
      cases fz with
      | true=>exact h.elim
      | false =>
       simp only at h;split at h
       ·rename_i x hty hcast;have hty:=eQ hty;subst hty;obtain⟨c3,c4⟩:=ZV hcast;obtain⟨es2,E2,g1,_,_,g3,r1⟩:=hr.del he2;obtain⟨ob2,cap2,cs2,g4,g5,rfl⟩:=g1;have g4:γ k2 = .own ob2 cap2:=g4;obtain⟨y2,rfl,_,hy2⟩:=hU2;obtain⟨ob2',cap2',g6,g7⟩:=hy2 _ he2;rw[g4]at g6;cases g6;have hst2:=hr.st.perm g3;obtain⟨hh2,hb2⟩:=hst2.loc _ List.mem_cons_self;have hc3:s2=con.t:=by injection c3
        subst hc3;have hl2:l2=[x]:=c4;subst hl2
        cases ob2 with
        | none=>obtain⟨q,_⟩:=hh2;cases q
        | some bv =>
         obtain⟨hl,cur,hg,hle,_,hcz,htk⟩:=hh2;obtain⟨v1,hv1,hv2,hst3⟩:=hst2.publish (i:=0) (ℓ':=E2.flatten) rfl rfl hg rfl;have r2:=r1.go hv1 hst3;have hx1:con.t.rep.rel v1 (cur.toList.take con.t.n) x:=by
          have hq:con.t.rep.rels v1 cs2 [x]:=ZO hv1 g5;obtain⟨d1,d2,e1,e2,e3⟩:=hq;have e3:d2=[]:=e3;subst e3;rw[List.append_nil]at e1;subst e1;have:cur.toList.take ([x].length*con.t.n)=cs2:=htk;rw[show [x].length*con.t.n=con.t.n by simp]at this;rw[this];exact e2
         have hi:inR .i64 i:=by obtain⟨_,q⟩:=hI1;exact q
         have hiv:(V.data (.int .i64) i).val xs2 = .int .i64 i:=by obtain⟨q,_⟩:=hI1;subst q;rfl
         have hle0:=Le.era hr k2;have lv:Le U v γ l v1 γ (era l k2):=hle0.trans (by obtain⟨EE,hEE,_⟩:=r1.lr;exact Le.refl hEE hv1)
         cases A with
         | own u =>
          simp only at h;obtain⟨e,he,h⟩:=h;obtain⟨k,st,L⟩:=e;have hkk:k=u:=(Zl he).2;subst hkk
          cases L with
          | own ty s xs fz =>
           cases fz with
           | true=>exact h.elim
           | false =>
            simp only at h;split at h
            ·rename_i l' hty hcast;have hty:=eQ hty;subst hty;obtain⟨c5,c6⟩:=ZV hcast;have hc5:s=con.t:=by injection c5
             subst hc5;have hl':xs=l':=c6;subst hl';obtain⟨z,hz,h⟩:=h;obtain⟨es,E3,d1,_,_,d3,r3⟩:=r2.del he;obtain⟨ob,cap,cs,d4,d5,rfl⟩:=d1;have d4:γ k = .own ob cap:=d4;have hA2:=Zcb lv (x:=.own k) hk.1 hA1;obtain⟨y,rfl,_,hy⟩:=hA2;obtain⟨ob',cap',d6,d7⟩:=hy _ he;rw[d4]at d6;cases d6;refine Zjq hI r3 hU hX hn hd (hst3.perm d3) d5 (kv:=cap2) (by simpa using hle) hv2 hx1 hi hz (λhen=>?_) h;rw[hent hen,Zif (x:=.own k) rfl,d7,hiv,Zif (x:=.own k2) rfl,g7];rfl
            ·exact h.elim
          | box _ _=>exact h.elim
          | mid _ _ _ _ _ _=>exact h.elim
          | mat _ _ _ _ _=>exact h.elim
         | nilS =>
          simp only at h;obtain⟨z,hz,h⟩:=h;have hA1:cA=[.slice none 0 0]:=hA1;subst hA1;refine Zjq hI r2 hU hX hn hd (ob:=none) (cap:=0) (cs:=[]) (xs:=[]) (hst3.nilLoc con.ty con.t.n) rfl (kv:=cap2) (by simpa using hle) hv2 hx1 hi hz (λhen=>?_) h;rw[hent hen,hiv,Zif (x:=.own k2) rfl,g7];rfl
         | _=>exact h.elim
       ·exact h.elim
     | box _ _=>exact h.elim
     | mid _ _ _ _ _ _=>exact h.elim
     | mat _ _ _ _ _=>exact h.elim
    ·exact h.elim
   ·split at h
    ·rename_i con hcon;obtain⟨p,l1,γ1,v1,ℓ1,h,r1,le1,q1⟩:=ZVe hn hX h hr hk;obtain⟨z,hz,h⟩:=h;have hR:=q1 _ hc;obtain⟨hen,hret⟩:=hC.q fid con hcon w v1 _ p z r1.st.vin hR hz;refine ZGc (hent hen) (Calls.mono hret λe w' ⟨r,v',e1,e2,e3,e4⟩=>⟨r,e1,?_⟩);obtain⟨ob,cap,rows,es,rfl,hA,hh,hb⟩:=e4;have h':=r1.st.step e2 e3;refine put_mat (r1.go e3.le h') hU hX hn hd (h'.addL r1.st.ext.size hh hb λx hx b hxb=>?_) hA h;obtain⟨c,T',hg⟩:=Loc.blk_get (r1.st.loc x hx).1 hxb;exact Z6c hg
    ·split at h
     ·rename_i con hcon;have hI:=hC.d fid con hcon;unfold delE at h;split at h
      ·rename_i u i j;obtain⟨cA,x1,rfl,hA,cI,x2,rfl,hI1,cJ,x3,rfl,hJ,hnl⟩:=hc;have hnl:x3=[]:=hnl;subst hnl;obtain⟨e,he,h⟩:=h;obtain⟨kk,st,L⟩:=e;have hkk:kk=u:=(Zl he).2;subst hkk
       cases L with
       | own ty s xs fz =>
        cases fz with
        | true=>exact h.elim
        | false =>
         simp only at h;split at h
         ·rename_i ys hty hcast;have hty:=eQ hty;subst hty;obtain⟨c5,c6⟩:=ZV hcast;have hc5:s=con.t:=by injection c5
          subst hc5;have hl':xs=ys:=c6;subst hl';obtain⟨z,hz,h⟩:=h;obtain⟨es,E',h1,_,h2,h3,r1⟩:=hr.del he;obtain⟨ob,cap,cs,g1,g2,rfl⟩:=h1;have g1:γ kk = .own ob cap:=g1;obtain⟨y,rfl,_,hy⟩:=hA;obtain⟨ob',cap',g3,g4⟩:=hy _ he;rw[g1]at g3;cases g3;have hi:inR .i64 i:=by obtain⟨_,q⟩:=hI1;exact q
          have hiv:(V.data (.int .i64) i).val cI = .int .i64 i:=by obtain⟨q,_⟩:=hI1;subst q;rfl
          have hj:inR .i64 j:=by obtain⟨_,q⟩:=hJ;exact q
          have hjv:(V.data (.int .i64) j).val cJ = .int .i64 j:=by obtain⟨q,_⟩:=hJ;subst q;rfl
          refine ZZz hI r1 hU hX hn hd (hr.st.perm h3) g2 hi hj hz (λhen=>?_) h;rw[hent hen,Zif (x:=.own kk) rfl,g4,hiv,hjv]
         ·exact h.elim
       | box _ _=>exact h.elim
       | mid _ _ _ _ _ _=>exact h.elim
       | mat _ _ _ _ _=>exact h.elim
      ·exact h.elim
     ·split at h
      ·rename_i con hcon;obtain⟨p,l1,γ1,v1,ℓ1,h,r1,le1,q1⟩:=ZVe hn hX h hr hk;obtain⟨z,hz,h⟩:=h;have hR:=q1 _ hc;obtain⟨hen,hret⟩:=hC.p fid con hcon w v1 _ p z r1.st.vin hR hz;refine ZGc (hent hen) (Calls.mono hret λe w' ⟨r,v',e1,e2,e3,e4⟩=>⟨r,e1,?_⟩);obtain⟨r0,rest,rfl,⟨ob,n',cap,cs,rfl,hh,hb,hA,hn'⟩,hrest⟩:=e4;subst hn';have h':=r1.st.step e2 e3;refine Zqy (r1.go e3.le h') hU hX hn hd (cs:=cs) ⟨h'.size,h'.dfr,h'.fr,h'.ext,h'.vst,λx hx=>?_,?_⟩ hA hrest h
       ·rcases List.mem_cons.1 hx with rfl | hx
        ·exact⟨hh,λb eb=>⟨.inl (Nat.le_trans r1.st.ext.size (hb b eb).1),(hb b eb).2⟩⟩
        ·exact h'.loc x hx
       ·cases ob with
        | none=>rw[List.filterMap_cons_none (show (Loc.own none con.ty con.t.n z.1.length cap cs).blk=none from rfl)];exact h'.nd
        | some b =>
         rw[List.filterMap_cons_some (show (Loc.own (some b) con.ty con.t.n z.1.length cap cs).blk=some b from rfl)];refine List.nodup_cons.2 ⟨λhm=>?_,h'.nd⟩;obtain⟨x,hx,hxb⟩:=List.mem_filterMap.1 hm;obtain⟨c,T',hg⟩:=Loc.blk_get (r1.st.loc x hx).1 hxb;have h1:=Z6c hg;have h2:=(hb b rfl).1;omega
      ·exact h.elim
theorem ZLp:∀ {c:V} {i:Nat} {z:V} {vals:List Value},nthV c i=some z→RR v γ l true c vals→c.ok U→∃ y,vals[i]? = some y∧RV v γ l z y∧z.ok U
 | .cons x c,0,z,vals,h,hr,hk=>by
  cases h
  obtain⟨cs,xs,rfl,h1,h2⟩:=hr
  exact⟨_,rfl,ZQb h1 (λc e=>by subst e;exact h1),hk.1⟩
 | .cons x c,i+1,z,vals,h,hr,hk=>by
  obtain⟨cs,xs,rfl,h1,h2⟩:=hr
  obtain⟨y,k1,k2,k3⟩:=ZLp (c:=c) h h2 hk.2
  exact⟨y,by simpa using k1,k2,k3⟩
theorem RelX.slot (h:RelX N G w0 v0 U X f l a w γ v ℓ) {t m:Nat} {z:V} (hr:RV v γ l z (a.tmps.getD t undef)) (hk:z.ok U) (hX:X m):RelX N G w0 v0 U X (⟨t,m,z⟩ :: f) l a w γ v ℓ:=by
 refine⟨h.st,λt' e' he'=>?_,h.lr,h.nd,λt' e' he'=>?_,h.ul,h.gh⟩
 ·rw[ZE]at he';split at he'
  ·rename_i hk'
   cases he'
   have hk':t=t':=hk';rw[← hk'];exact hr
  ·exact h.fr t' e' he'
 ·rw[ZE]at he';split at he'
  ·cases he';exact⟨hk,hX⟩
  ·exact h.uf t' e' he'
theorem Ziw {σ:List (Nat×Value)} (hS:St N w0 v0 σ ℓ v a w) {t e:TypeId} {n b:Nat} {i:TypeInfo} {x:Operand} (ht:P.underlying t=some (.array n e)) (hi:P.info? e=some i) (e1:ev σ x=some (.pointer (some ⟨b,0,none⟩))) :
  (execOp a.eval ⟨d,.slice t x none none none,ty,pos,aft,g⟩).run P w = .ok (.value (.slice (some ⟨b,0,none⟩) n n)) w:=by
 have h2:∀ w,(underlying t).run P w = .ok (.array n e) w:=λw=>run_underlying ht w;have h3:∀ w,(sizeOf e).run P w = .ok i.size w:=λw=>by simp[sizeOf,typeInfo,hi]
 by_cases hn:n=0
 ·subst hn;simp[execOp,Instr.sliceAt,Instr.sureAddr,hS.eval e1,h2,h3,Instr.sliceBounds,Zoa]
 ·simp[execOp,Instr.sliceAt,Instr.sureAddr,hS.eval e1,h2,h3,Instr.sliceBounds,Zoa]
theorem arrE_ok {C:Cf} (hr:RelX N G w0 v0 U X f l a w γ v ℓ) (hU:∀ k,U k→X k) (hX:X n) (hn:¬ U n) {t:TypeId} {s u off:Nat} {lo hi:Option Operand} {i j:Option Int} {o:Oper} {Post:Unit→Fr→Lo→Prop} (ho:o=⟨d,.slice t (.tmp s) lo hi none,ty,pos,aft,g⟩) (hd:∀ k,o.dst=some k→k<N) (hp:RV v γ l (.ptr u off) (a.eval (.tmp s))) (hk:U u)
  (hlo:(lo=none∧i=none) ∨ ∃ y κ q,lo=some y∧i=some q∧a.eval y = .int κ q) (hhi:(hi=none∧j=none) ∨ ∃ y κ q,hi=some y∧j=some q∧a.eval y = .int κ q) (h:Zj n (arrE C o t s u off i j) f l Post):Zba C.P N G w0 v0 X o a w Post:=by
 unfold arrE at h;split at h
 ·rename_i m e h0 hu;have h0:=eQ h0;subst h0;have hlo:lo=none:=by
   rcases hlo with h1 | ⟨_,_,_,_,h1,_⟩
   ·exact h1.1
   ·cases h1
  have hhi:hi=none:=by
   rcases hhi with h1 | ⟨_,_,_,_,h1,_⟩
   ·exact h1.1
   ·cases h1
  subst hlo hhi;split at h
  ·rename_i α q hα hq hm0 hm1;have hm0:1≤m:=lBq hm0;have hm1:=lBq hm1;split at h
   ·obtain⟨⟨k0,st0,L⟩,he,h⟩:=h;have hkk:k0=u:=(Zl he).2;subst hkk
    cases L with
    | box ty0 c =>
     simp only at h;obtain⟨y,hy0,_,hy⟩:=Z4 hp (λ_ e=>by cases e) rfl rfl;have hy0:a.eval (.tmp s)=y:=(List.cons.inj hy0).1;obtain⟨b,g1,rfl⟩:=hy _ he;obtain⟨es,E',h1,_,_,h3,_⟩:=hr.del he;obtain⟨b',cs,g2,g3,g4,rfl⟩:=h1;have g2:γ k0 = .box b':=g2;rw[g1]at g2;cases g2;obtain⟨x1,l1,γ1,v1,ℓ1,hB,r1,le1,q1⟩:=Zdd hn hX FU h hr (hr.ul _ (Zl he).1).2.2;obtain⟨⟨k1,st1,L1⟩,he1,hC⟩:=hB;have hkk1:k1=k0:=(Zl he1).2;subst hkk1
     cases L1 with
     | box ty1 c1 =>
      obtain⟨e0,he0,hce⟩:=le1.l _ _ hk he1;rw[he]at he0;cases he0;have hce:γ1 k1=γ k1:=hce;obtain⟨es1,E1,f1,_,_,f3,r2⟩:=r1.del he1;obtain⟨b1,cs1,f4,f5,f6,rfl⟩:=f1;have f4:γ1 k1 = .box b1:=f4;rw[hce,g1]at f4;cases f4;have m0:=(hr.st.loc _ (h3.mem_iff.2 (List.mem_append_left _ (List.mem_singleton.2 rfl)))).1;have m1:=(r1.st.loc _ (f3.mem_iff.2 (List.mem_append_left _ (List.mem_singleton.2 rfl)))).1;have m0:w.heap[b]? = some (.cells cs.toArray ty0 (0,0)):=m0;have m1:w.heap[b]? = some (.cells cs1.toArray ty1 (0,0)):=m1;rw[m0]at m1;have hcs:cs=cs1:=by
       have:=Option.some.inj m1
       injection this with h1 _ _
       have:=congrArg Array.toList h1
       simpa using this
      subst hcs;obtain⟨v',hv,hs1,hAt⟩:=(r1.st.perm f3).pubVar (i:=0) rfl rfl;have hs1:St N w0 v0 [] E1.flatten v' a w:=hs1;have r3:=r2.go hv hs1;have hrel:=Rep.mono _ hv (q1 _ g3);have r4:=r3.slot (t:=s) (m:=n) (z:=.vp (Zfa α m) x1 0) ⟨[_],⟨b,0,cs,hAt,hrel,rfl⟩,hy0⟩ trivial hX;obtain⟨i0,hi0⟩:∃ i0,C.P.info? e=some i0:=by
       unfold szA at hq;split at hq
       ·rename_i i0 _ hi0 _;exact⟨i0,hi0⟩
       ·cases hq
      obtain⟨σ,hσ,e1⟩:=r4.st.ev1 (.tmp s);rw[hy0]at e1;obtain⟨k4,k5⟩:=Znh (by omega) hrel;subst ho;refine ZI r4 hU (Ziw hσ hu hi0 e1) hd hX (x:=.data (.slice α) (ZUa α m x1)) ⟨[.slice (some ⟨b,0,none⟩) m m],?_,rfl⟩ trivial hC;obtain⟨c2,T2,fr2,hvb,htk⟩:=hAt;have hlen:=ZVb k4;rw[k5]at hlen;refine⟨some ⟨b,0,none⟩,m,by rw[show (ZUa α m x1).length=m from k5],by rw[show (ZUa α m x1).length=m from k5];exact Nat.le_refl _,by unfold maxLen;omega,.inr ⟨b,0,c2,T2,fr2,rfl,hvb,?_⟩⟩;rw[show (ZUa α m x1).length=m from k5,← hlen,htk];exact k4
     | own _ _ _ _=>exact hC.elim
     | mat _ _ _ _ _=>exact hC.elim
     | mid _ _ _ _ _ _=>exact hC.elim
    | own _ _ _ _=>exact h.elim
    | mat _ _ _ _ _=>exact h.elim
    | mid _ _ _ _ _ _=>exact h.elim
   ·exact h.elim
  ·exact h.elim
 ·exact h.elim
theorem RelX.dup (h:RelX N G w0 v0 U X f l a w γ v ℓ) {t:Nat} {e:En V} (he:lkE f t=some e):RelX N G w0 v0 U X (e :: f) l a w γ v ℓ:=by
 obtain⟨hm,hk⟩:=Zl he;have key:∀ t',lkE (e :: f) t'=lkE f t':=λt'=>by
  rw[ZE];split
  ·rename_i hk';rw[← hk',hk];exact he.symm
  ·rfl
 exact⟨h.st,λt' e' he'=>h.fr t' e' (by rw[← key];exact he'),h.lr,h.nd,λt' e' he'=>h.uf t' e' (by rw[← key];exact he'),h.ul,h.gh⟩
theorem run_mkI {σ:List (Nat×Value)} (hS:St N w0 v0 σ ℓ v a w) {t:TypeId} {x:Operand} {y:Value} {D:TypeDesc} (e:ev σ x=some y) (h:P.underlying t=some D) (hn:∀ q,some D≠some (.interface q)) :
  (execOp a.eval ⟨d,.makeInterface t x,ty,pos,aft,g⟩).run P w = .ok (.value (.iface t y)) w:=by
 have hx:=hS.eval e;have:(Instr.makeInterface t y).run P w = .ok (.iface t y) w:=by
  cases D with
  | interface q=>exact absurd rfl (hn q)
  | _=>simp[Instr.makeInterface,run_underlying h]
 simp[execOp,hx,this]
theorem ZGx {σ:List (Nat×Value)} (hS:St N w0 v0 σ ℓ v a w) {x y z u s t:Operand} {k:IntKind} {p q r p' q' r':Int} {ats:Array TypeId} (e:ev σ x=some (.int k p)) (e':ev σ y=some (.int k q)) (e2:ev σ z=some (.int k r)) (e3:ev σ u=some (.int k p')) (e4:ev σ s=some (.int k q')) (e5:ev σ t=some (.int k r')) :
  (execOp a.eval ⟨d,.call ⟨.builtin .max,#[x,y,z,u,s,t],ats⟩,ty,pos,aft,g⟩).run P w = .ok (.value (.int k (max (max (max (max (max p q) r) p') q') r'))) w:=by
 simp[execOp,resolve,invoke,builtin,Builtin.max_,hS.eval e,hS.eval e',hS.eval e2,hS.eval e3,hS.eval e4,hS.eval e5,ZLn]
theorem ZYs {C:Cf} (hr:RelX N G w0 v0 U X f l a w γ v ℓ) (hU:∀ k,U k→X k) (hX:X n) {t:TypeId} {x i:Operand} {o:Oper} {V1:V} {κ:IntKind} {j:Int} {Post:Unit→Fr→Lo→Prop} (ho:o=⟨d,.index t x i,ty,pos,aft,g⟩) (hd:∀ k,o.dst=some k→k<N) (h1:RV v γ l V1 (a.eval x)) (k1:V1.ok U)
  (e2:a.eval i = .int κ j) (hC':Zj n (ixV C o t V1 j) f l Post):Zba C.P N G w0 v0 X o a w Post:=by
 subst ho;obtain⟨σ,hσ,ev1,ev2⟩:=hr.st.ev2 x i;rw[e2]at ev2;unfold ixV at hC';split at hC'
 ·rename_i m e ht;split at hC'
  ·rename_i q hq hag b0 b1;have b0:(0:Int)≤j:=by simpa using b0
   have b1:@LT.lt Int _ j (m:Int):=by simpa using b1
   split at hC'
   ·rename_i z hz;obtain⟨cs,hcs,hqe⟩:=Z1a h1 (λc e=>by subst e;cases hag);obtain⟨q1,q2,q3⟩:=Z7t hq hz hcs k1 w;have hv:V1.val cs = .agg cs.toArray:=by unfold V.val;rw[hag]
    rw[hqe,hv]at ev1;refine ZI hr hU (Zkq hσ ev1 ev2 ?_) hd hX (ZQb q2 (λc e=>by subst e;exact q2)) (V.ok.mono hU q3) hC';simp[Instr.index,asIntOf,run_underlying ht,b0,b1,(Zde hq).size,q1]
   ·exact hC'.elim
  ·exact hC'.elim
 ·exact hC'.elim
theorem Z1v {C:Cf} (hr:RelX N G w0 v0 U X f l a w γ v ℓ) (hU:∀ k,U k→X k) (hX:X n) {t:TypeId} {x i:Operand} {o:Oper} {V1:V} {κ:IntKind} {j:Int} {Post:Unit→Fr→Lo→Prop} (ho:o=⟨d,.index t x i,ty,pos,aft,g⟩) (hd:∀ k,o.dst=some k→k<N) (h1:RV v γ l V1 (a.eval x)) (k1:V1.ok U)
  (e2:a.eval i = .int κ j):∀ {m k:Nat},Zj n (altsV C o t V1 j m k) f l Post→Zba C.P N G w0 v0 X o a w Post:=by
 intro m
 induction m with
 | zero=>intro k h;exact h.elim
 | succ m ih =>
  intro k h;by_cases e:j=(k:Int)
  ·have h3:=h.1 (dTq e);rw[← e]at h3;exact ZYs hr hU hX ho hd h1 k1 e2 h3
  ·exact ih (h.2 (dFq e))
theorem Ztz {α:T}:∀ m,(Zfa α m).agg=true
 | 0 | 1 | 2=>rfl
 | _+3=>rfl
theorem Z4y {P:Program} {t:TypeId} {q:Nat×Bool} (ht:szA P t=some q) {α:T} {y:α.den} {off:Nat} {cs:List Value} (hn:q.1=α.n) (ha:q.2=α.agg) (hrel:α.rep.rel v ((cs.drop off).take α.n) y) (hlen:((cs.drop off).take α.n).length=α.n) (hle:off+α.n≤cs.length) (w:World) :
  (part t cs.toArray off).run P w = .ok ((V.data α y).val ((cs.drop off).take α.n)) w:=by
 have hS:=Zde ht;unfold part
 cases hag:q.2 with
 | true =>
  have h1:=hS.agg w;rw[hag]at h1;have h3:(cs.toArray.extract off (off+α.n))=((cs.drop off).take α.n).toArray:=by
   apply Array.ext';rw[Array.toList_extract];simp[List.extract,List.take_drop]
  have h4:(V.data α y).isAgg=true:=by show α.agg=true;rw[← ha,hag]
  simp[h1,hS.size,hn,V.val,h4,h3]
 | false =>
  have h1:=hS.agg w;rw[hag]at h1;have h4:(V.data α y).isAgg=false:=by show α.agg=false;rw[← ha,hag]
  have h2:α.n=1:=T_one (by rw[← ha,hag]);have h5:cs[off]? = some ((V.data α y).val ((cs.drop off).take α.n)):=by
   unfold V.val;rw[h4,h2];have:off<cs.length:=by omega
   rw[List.getElem?_eq_getElem this,List.drop_eq_getElem_cons this];rfl
  have h5':cs.toArray[off]? = some ((V.data α y).val ((cs.drop off).take α.n)):=by simpa using h5
  simp[h1,h5']
theorem ixQ_ok {C:Cf} (hr:RelX N G w0 v0 U X f l a w γ v ℓ) (hU:∀ k,U k→X k) (hX:X n) {t:TypeId} {x i:Operand} {o:Oper} {V1:V} {κ:IntKind} {j:Int} {Post:Unit→Fr→Lo→Prop} (ho:o=⟨d,.indexAddr t x i,ty,pos,aft,g⟩) (hd:∀ k,o.dst=some k→k<N) (hp:RV v γ l V1 (a.eval x))
  (hi:a.eval i = .int κ j) (h:Zj n (ixQ C o t V1 j) f l Post):Zba C.P N G w0 v0 X o a w Post:=by
 unfold ixQ at h;split at h
 ·rename_i m e hu;split at h
  ·rename_i α q hα hq hm0;have hm0:0<m:=lBq hm0;split at h
   ·rename_i u hqn;have hqn:=eQ hqn;obtain⟨⟨kk,st,L⟩,he,h⟩:=h;obtain⟨yy,hy0,_,hyy⟩:=Z4 hp (λ_ e=>by cases e) rfl rfl;have hy0:a.eval x=yy:=(List.cons.inj hy0).1;have hyy:=hyy _ he;have hkk:kk=u:=(Zl he).2;subst hkk
    cases L with
    | box ty0 c =>
     obtain⟨b,g1,rfl⟩:=hyy
     cases c with
     | data s0 x0 =>
      simp only at h;split at h
      ·rename_i x1 hty hx1;obtain⟨c3,c4⟩:=ZV hx1;subst c3;subst c4;obtain⟨y,hy,h⟩:=h;have hy:idx (ZUa α m x0) j=some y:=hy;obtain⟨r1,r2,r3,r4⟩:=Zm hy;obtain⟨_,es,hes,hmem⟩:=hr.loc he;obtain⟨b',cs,q1,q2,q3,rfl⟩:=hes;obtain⟨k1,k2⟩:=Znh hm0 (show (Zfa α m).rep.rel v cs x0 from q2);have hrel:=Zva k1 r2;rw[k2]at r3;obtain⟨inf,hinf,hsz⟩:∃ i0,C.P.info? e=some i0∧q.1=i0.size:=by
        unfold szA at hq;split at hq
        ·rename_i i0 _ hi0 _;cases hq;exact⟨i0,hi0,rfl⟩
        ·cases hq
       have hA:Zkh C.P t m inf.size:=⟨e,λw=>run_underlying hu w,λw=>Zui hinf w⟩;obtain⟨σ,hσ,e1,e2⟩:=hr.st.ev2 x i;rw[hy0]at e1;rw[hi]at e2;subst ho;refine ZI hr hU (Zxq hσ hA e1 e2 r1 r3 (0+j.toNat*α.n+0) (by rw[← hsz,hqn];omega)) hd hX (x:=.el kk j.toNat st α y 0) ⟨[_],⟨_,rfl,Zqd,⟨_,hrel⟩,λe' he'=>?_⟩,rfl⟩ ⟨(hr.ul _ (Zl he).1).1,(hr.ul _ (Zl he).1).2.1⟩ h;rw[he]at he';cases he';exact⟨b,g1,rfl⟩
      ·exact h.elim
     | _=>exact h.elim
    | own _ _ _ _=>exact h.elim
    | mat _ _ _ _ _=>exact h.elim
    | mid _ _ _ _ _ _=>exact h.elim
   ·exact h.elim
  ·exact h.elim
 ·exact h.elim
theorem ixW_ok {C:Cf} (hr:RelX N G w0 v0 U X f l a w γ v ℓ) (hU:∀ k,U k→X k) (hX:X n) {t:TypeId} {x i:Operand} {o:Oper} {V1:V} {κ:IntKind} {j:Int} {Post:Unit→Fr→Lo→Prop} (ho:o=⟨d,.index t x i,ty,pos,aft,g⟩) (hd:∀ k,o.dst=some k→k<N) (h1:RV v γ l V1 (a.eval x))
  (e2:a.eval i = .int κ j) (h:Zj n (ixW C o t V1 j) f l Post):Zba C.P N G w0 v0 X o a w Post:=by
 subst ho;obtain⟨σ,hσ,ev1,ev2⟩:=hr.st.ev2 x i;rw[e2]at ev2;unfold ixW at h;split at h
 ·rename_i m e ht;split at h
  ·rename_i α q s0 x0 hα hq hm0;have hm0:0<m:=lBq hm0;split at h
   ·rename_i x1 hqn hag hx1;have hqn:=eQ hqn;have hag:=Zvj hag;obtain⟨c3,c4⟩:=ZV hx1;subst c3;subst c4;obtain⟨y,hy,h⟩:=h;have hy:idx (ZUa α m x0) j=some y:=hy;obtain⟨r1,r2,r3,r4⟩:=Zm hy;obtain⟨cs,hcs,hqe⟩:=Z1a h1 (λc e=>by cases e);have hcs:(Zfa α m).rep.rel v cs x0:=hcs;obtain⟨k1,k2⟩:=Znh hm0 hcs;have hrel:=Zva k1 r2;rw[ZD]at hrel;rw[k2]at r3;have hagg:(V.data (Zfa α m) x0).isAgg=true:=Ztz m;have hv:(V.data (Zfa α m) x0).val cs = .agg cs.toArray:=by unfold V.val;rw[hagg]
    rw[hqe,hv]at ev1;have hcl:=ZVb k1;rw[ZD,k2]at hcl;have hlen:=Rep.len _ hrel;rw[ZD]at hlen;refine ZI hr hU (Zkq hσ ev1 ev2 (z:=(V.data α y).val ((cs.drop (j.toNat*α.n)).take α.n)) ?_) hd hX (x:=.data α y) ⟨_,hrel,rfl⟩ trivial h;have b0:(0:Int)≤j:=r1;have b1:@LT.lt Int _ j (m:Int):=r3;have hp:=Z4y hq hqn hag hrel hlen (cs:=cs) (off:=j.toNat*α.n) (by
     have:j.toNat<m:=by omega
     rw[hcl,← Nat.succ_mul];exact mR _ this) w
    simp[Instr.index,asIntOf,run_underlying ht,b0,b1,(Zde hq).size,hqn,hp]
   ·exact h.elim
  ·exact h.elim
 ·exact h.elim
theorem ZCl {C:Cf} (hC:CfOK C) (hr:RelX N G w0 v0 U X f l a w γ v ℓ) (hU:∀ k,U k→X k) (hX:X n) (hn:¬ U n) {o:Oper} {Post:Unit→Fr→Lo→Prop} (hd:∀ k,o.dst=some k→k<N) (h:Zj n (ZW C n o) f l Post):Zba C.P N G w0 v0 X o a w Post:=by
 obtain⟨d,op,ty,pos,aft,g⟩:=o
 cases op with
 | move x =>
  simp only[ZW]at h;obtain⟨V1,h1,k1,hA⟩:=ZF hr h;obtain⟨σ,hσ,e1⟩:=hr.st.ev1 x;exact ZI hr hU (ZG hσ e1) hd hX h1 (V.ok.mono hU k1) hA
 | assign x =>
  simp only[ZW]at h;split at h
  ·rename_i hx;have hx:x = .const (.pointer none):=by
    unfold Zgq at hx;split at hx
    ·rfl
    ·cases hx
   subst hx;obtain⟨h0,hA⟩:=h;have e0:Go.Eng.era (⟨n,n,LV.box 0 .undef⟩ :: l) n=l:=by
    simp only[era];rw[show Nat.beq n n=true from Nat.beq_refl n]
   have hA:Zj n (ret ⟨d,.assign (.const (.pointer none)),ty,pos,aft,g⟩ (.ptr n 0)) f (Go.Eng.era (⟨n,n,LV.box 0 .undef⟩ :: l) n) Post:=hA;rw[e0]at hA;obtain⟨σ,hσ,e1⟩:=hr.st.ev1 (.const (.pointer none));exact ZI hr hU (Ztd hσ e1) hd hX (x:=.ptr n 0) ⟨[.pointer none],⟨_,rfl,rfl,λe he=>by rw[h0]at he;cases he⟩,rfl⟩ hX hA
  ·obtain⟨V1,h1,k1,hA⟩:=ZF hr h;obtain⟨σ,hσ,e1⟩:=hr.st.ev1 x;exact ZI hr hU (Ztd hσ e1) hd hX h1 (V.ok.mono hU k1) hA
 | nilCheck x =>
  simp only[ZW]at h;obtain⟨V1,h1,k1,hA⟩:=ZF hr h;split at hA
  ·rename_i α y;obtain⟨cs,hcs,e0⟩:=h1;obtain⟨b,o',c,rfl,hat,hrel⟩:=(show (rPtr α.rep).rel v cs y from hcs);obtain⟨σ,hσ,e1⟩:=hr.st.ev1 x;rw[e0]at e1;have e1:ev σ x=some (.pointer (some ⟨b,o',none⟩)):=e1;have hrun:(execOp a.eval ⟨d,.nilCheck x,ty,pos,aft,g⟩).run C.P w = .ok (.value (.pointer (some ⟨b,o',none⟩))) w:=by simp[execOp,hσ.eval e1]
   exact ZI hr hU hrun hd hX (x:=.vp α y 0) ⟨[_],⟨b,o',c,hat,hrel,rfl⟩,rfl⟩ trivial hA
  obtain⟨hB,b,o',e',_⟩:=Zwl h1 k1 hA;obtain⟨σ,hσ,e1⟩:=hr.st.ev1 x;rw[e']at e1 h1;have hrun:(execOp a.eval ⟨d,.nilCheck x,ty,pos,aft,g⟩).run C.P w = .ok (.value (.pointer (some ⟨b,o',none⟩))) w:=by simp[execOp,hσ.eval e1]
  exact ZI hr hU hrun hd hX h1 (V.ok.mono hU k1) hB
 | extract x i =>
  simp only[ZW]at h;obtain⟨V1,h1,k1,hA⟩:=ZF hr h;split at hA
  ·rename_i c;split at hA
   ·rename_i z hz;obtain⟨vals,h2,h3⟩:=h1;obtain⟨y,q1,q2,q3⟩:=ZLp hz h2 k1;obtain⟨σ,hσ,e1⟩:=hr.st.ev1 x;rw[h3]at e1;exact ZI hr hU (ZGa hσ e1 (by simpa using q1)) hd hX q2 (V.ok.mono hU q3) hA
   ·exact hA.elim
  ·exact hA.elim
 | alloc t =>
  simp only[ZW]at h;split at h
  ·rename_i z hz;obtain⟨y,cs,hy,hcells,hzz,hkz,hp⟩:=ZXm (v:=v) (γ:=γ) (l:=l) (U:=U) hz;refine Zhp hr hU hX hn hd hzz hkz hp ?_ h;have:=Zzn (a:=a) (w:=w) (d:=d) (ty:=ty) (pos:=pos) (aft:=aft) (g:=g) hy;rw[hcells]at this;exact this
  ·exact h.elim
 | box t x =>
  simp only[ZW]at h;obtain⟨V1,h1,k1,hA⟩:=ZF hr h;split at hA
  ·rename_i hfit;obtain⟨cs,hcs,hqe⟩:=Z1a h1 (ZGn hfit);obtain⟨hcells,hpl⟩:=ZRi hcs hfit;obtain⟨σ,hσ,e1⟩:=hr.st.ev1 x;rw[hqe]at e1;refine Zhp hr hU hX hn hd hcs k1 hpl ?_ hA;have:=ZYt (t:=t) (d:=d) (ty:=ty) (pos:=pos) (aft:=aft) (g:=g) (P:=C.P) hσ e1;rw[show (V1.val cs).cells=cs.toArray from hcells]at this;exact this
  ·exact hA.elim
 | load t x =>
  simp only[ZW]at h;obtain⟨V1,h1,k1,hA⟩:=ZF hr h;split at hA
  ·exact ZIu hr hU hX hn rfl hd h1 hA
  obtain⟨z,y,q1,q2,q3,hB⟩:=ldE_ok (d:=d) (ty:=ty) (pos:=pos) (aft:=aft) (g:=g) hr h1 k1 hA;exact ZI hr hU q1 hd hX q2 (V.ok.mono hU q3) hB
 | store t x y =>
  simp only[ZW]at h
  cases d with
  | some d=>exact h.elim
  | none =>
   obtain⟨V1,h1,k1,hA⟩:=ZF hr h;obtain⟨V2,h2,k2,hB⟩:=ZF hr hA;exact stE_ok hr hU hX hn rfl h1 h2 k1 k2 hB
 | fieldAddr s x i =>
  simp only[ZW]at h;obtain⟨V1,h1,k1,hA⟩:=ZF hr h;obtain⟨z,y,q1,q2,q3,hB⟩:=fldE_ok (d:=d) (ty:=ty) (pos:=pos) (aft:=aft) (g:=g) hr h1 k1 hA;exact ZI hr hU q1 hd hX q2 (V.ok.mono hU q3) hB
 | field s x i =>
  simp only[ZW]at h;obtain⟨V1,h1,k1,hA⟩:=ZF hr h;split at hA
  ·rename_i fd hfd hag;split at hA
   ·rename_i q hq;split at hA
    ·rename_i z hz;obtain⟨cs,hcs,hqe⟩:=Z1a h1 (λc e=>by subst e;cases hag);obtain⟨q1,q2,q3⟩:=Z7t hq hz hcs k1 w;obtain⟨σ,hσ,e1⟩:=hr.st.ev1 x;have hv:V1.val cs = .agg cs.toArray:=by unfold V.val;rw[hag]
     rw[hqe,hv]at e1;refine ZI hr hU (ZOv hσ e1 ?_) hd hX (ZQb q2 (λc e=>by subst e;exact q2)) (V.ok.mono hU q3) hA;unfold fldT at hfd;split at hfd
     ·rename_i fs hfs;have hfd':fs[i]? = some fd:=by rw[← Array.getElem?_toList];exact hfd
      simp[Instr.field,run_underlying hfs,hfd',asAgg,q1]
     ·cases hfd
    ·exact hA.elim
   ·exact hA.elim
  ·exact hA.elim
 | indexAddr t x i =>
  simp only[ZW]at h;obtain⟨V1,h1,k1,hA⟩:=ZF hr h;obtain⟨V2,h2,k2,hB⟩:=ZF hr hA;obtain⟨κ,j,rfl,hC'⟩:=Z2a hB;split at hC'
  ·unfold altE at hC';split at hC'
   ·exact alts_ok hr hU hX rfl hd h1 k1 (Zza h2).1 hC'
   ·exact hC'.elim
  ·exact ixQ_ok hr hU hX rfl hd h1 (Zza h2).1 hC'
  ·exact ixE_ok hr hU hX rfl hd h1 k1 (Zza h2).1 hC'
 | index t x i =>
  simp only[ZW]at h;obtain⟨V1,h1,k1,hA⟩:=ZF hr h;obtain⟨V2,h2,k2,hB⟩:=ZF hr hA;obtain⟨κ,j,rfl,hC'⟩:=Z2a hB;obtain⟨e2,_⟩:=Zza h2;obtain⟨σ,hσ,ev1,ev2⟩:=hr.st.ev2 x i;rw[e2]at ev2;split at hC'
  ·obtain⟨e1,_⟩:=ZQg h1;rw[e1]at ev1;split at hC'
   ·rename_i ht;obtain⟨y,hy,hC'⟩:=hC';exact ZI hr hU (ZUy hσ ev1 ev2 ht hy) hd hX (ZHa (u8_inR y)) trivial hC'
   ·exact hC'.elim
  ·split at hC'
   ·unfold altvE at hC';split at hC'
    ·exact Z1v hr hU hX rfl hd h1 k1 e2 hC'
    ·exact hC'.elim
   ·exact ixW_ok hr hU hX rfl hd h1 e2 hC'
   ·exact ZYs hr hU hX rfl hd h1 k1 e2 hC'
 | binOp op t x y t' =>
  simp only[ZW]at h;obtain⟨V1,h1,k1,hA⟩:=ZF hr h;obtain⟨V2,h2,k2,hB⟩:=ZF hr hA;obtain⟨z,q,q1,q2,q3,hC'⟩:=binE_ok (d:=d) (ty:=ty) (pos:=pos) (aft:=aft) (g:=g) (t':=t') hr h1 h2 hB;exact ZI hr hU q1 hd hX q2 (V.ok.mono hU q3) hC'
 | unOp u t x =>
  cases u with
  | not =>
   simp only[ZW]at h;obtain⟨V1,h1,k1,hA⟩:=ZF hr h;obtain⟨b,rfl,hB⟩:=Zyx hA;obtain⟨σ,hσ,e1⟩:=hr.st.ev1 x;rw[Zcf h1]at e1;exact ZI hr hU (Z4p hσ e1) hd hX Zoc trivial hB
  | neg =>
   simp only[ZW]at h;obtain⟨V1,h1,k1,hA⟩:=ZF hr h;obtain⟨κ,i,rfl,hB⟩:=Z2a hA;obtain⟨σ,hσ,e1⟩:=hr.st.ev1 x;rw[(Zza h1).1]at e1;exact ZI hr hU (run_neg hσ e1) hd hX (ZHa (Z1b _ _)) trivial hB
  | _=>exact h.elim
 | convert s t x =>
  simp only[ZW]at h;obtain⟨V1,h1,k1,hA⟩:=ZF hr h;obtain⟨σ,hσ,e1⟩:=hr.st.ev1 x;split at hA
  ·rename_i κ i ds κ' hs ht;obtain⟨q1,q2⟩:=Zza h1;rw[q1]at e1;have hcv:∀ w,(convert s t (.int κ i)).run C.P w = .ok (.int κ' (κ'.wrap i)) w:=λw=>by
    simp[convert,run_underlying hs,run_underlying ht,Conv.intToInt]
   split at hA
   ·rename_i hk;have hk:=Zcc hk;subst hk;refine ZI hr hU (Zef hσ e1 hcv) hd hX (x:=.data (.int κ) i) ?_ trivial hA;rw[Zhe q2];exact ZHa q2
   ·exact ZI hr hU (Zef hσ e1 hcv) hd hX (ZHa (Z1b _ _)) trivial hA
  ·rename_i hs ht;obtain⟨q1,q2⟩:=ZQg h1;rw[q1]at e1;exact ZI hr hU (Zef hσ e1 (λw=>by simp[convert,run_underlying hs,run_underlying ht])) hd hX (Z6i q2) trivial hA
  ·exact hA.elim
 | makeInterface t x =>
  simp only[ZW]at h;obtain⟨V1,h1,k1,hA⟩:=ZF hr h;split at hA
  ·rename_i hfit;split at hA
   ·exact hA.elim
   ·rename_i D hni hD;obtain⟨cs,hcs,hqe⟩:=Z1a h1 (ZGn hfit);obtain⟨σ,hσ,e1⟩:=hr.st.ev1 x;rw[hqe]at e1;refine ZI hr hU (run_mkI hσ e1 hD λq e=>hni q (Option.some.inj e)) hd hX (x:=.ifc t V1) ⟨[_],⟨cs,hcs,rfl⟩,rfl⟩ (V.ok.mono hU k1) hA
   ·exact hA.elim
  ·exact hA.elim
 | makeFunc fn first cap =>
  cases fn with
  | func fi =>
   simp only[ZW]at h;split at h
   ·rename_i hfirst;obtain⟨c,h1,k1,hA⟩:=ZTf hr h;obtain⟨σ,hσ,hev⟩:=hr.st.evs cap.toList;have hargs:cap.toList.map (ev σ)=(cap.toList.map a.eval).map some:=by
     rw[List.map_map];exact List.map_congr_left λy hy=>hev y hy
    have hf:first = #[]:=by
     apply Array.ext';simpa using hfirst
    subst hf;exact ZI hr hU (ZGv hσ _ hargs) hd hX (x:=.fn fi c) ⟨[_],⟨_,h1,rfl⟩,rfl⟩ (V.ok.mono hU k1) hA
   ·exact h.elim
  | _=>exact h.elim
 | makeSlice t x y=>exact Z4u hr hU hX hn rfl hd h
 | buildSlice t m ps=>exact Z7w hr hU hX hn rfl hd h
 | build t ps=>exact Zww hr hU hX rfl hd h
 | slice t x lo hi mx =>
  cases mx with
  | some _=>exact h.elim
  | none =>
   simp only[ZW]at h;obtain⟨i,hA,hlo⟩:=Ztq hr h;obtain⟨j,hB,hhi⟩:=Ztq hr hA;obtain⟨V1,h1,k1,hC'⟩:=ZF hr hB;split at hC'
   ·rename_i u;obtain⟨en,he,hC'⟩:=hC';obtain⟨kk,st,L⟩:=en
    cases L with
    | own ty0 s xs fz =>
     obtain⟨ys,l1,γ1,v1,ℓ1,hD,r1,le1,q1⟩:=Zdd hn hX FU hC' hr k1;obtain⟨cs,hcs,hqe⟩:=Z1a h1 (λc e=>by cases e);have hrel:=q1 _ hcs;exact ZLj (p:=.data (.slice s) ys) r1 hU hX rfl hd ⟨cs,hrel,hqe⟩ hlo hhi hD
    | box _ _=>exact hC'.elim
    | mid _ _ _ _ _ _=>exact hC'.elim
    | mat _ _ _ _ _=>exact hC'.elim
   ·obtain⟨cs,hcs,hqe⟩:=Zjg h1;exact ZLj (p:=.data (.slice (.int .u64)) (Zc 18446744073709551616 _)) hr hU hX rfl hd ⟨cs,hcs,hqe⟩ hlo hhi hC'
   ·obtain⟨cs,hcs,hqe⟩:=Zjg h1;exact ZLj (p:=.data (.slice (.int .u32)) (Zc 4294967296 _)) hr hU hX rfl hd ⟨cs,hcs,hqe⟩ hlo hhi hC'
   ·split at hC'
    ·exact arrE_ok hr hU hX hn rfl hd h1 k1 hlo hhi hC'
    ·exact hC'.elim
   ·exact ZLj hr hU hX rfl hd h1 hlo hhi hC'
 | pick c x y =>
  cases c with
  | tmp c =>
   simp only[ZW]at h;obtain⟨s,b,hf,h1,h2⟩:=h;have hr':=RelX.dup hr hf;have hc:=Zcf (hr.fr c _ hf);obtain⟨σ,hσ,hev⟩:=hr.st.evs [.tmp c,x,y];have e0:=hev (.tmp c) (by simp);have e0:ev σ (.tmp c)=some (.bool b):=e0.trans (congrArg some hc);have ex:=hev x (by simp);have ey:=hev y (by simp)
   cases b with
   | true =>
    obtain⟨V1,q1,k1,hA⟩:=ZF hr' (h1 rfl);exact ZI hr' hU (Zse hσ e0 (by rw[iP rfl];exact ex)) hd hX q1 (V.ok.mono hU k1) hA
   | false =>
    obtain⟨V1,q1,k1,hA⟩:=ZF hr' (h2 rfl);exact ZI hr' hU (Zse hσ e0 (by rw[iN (by decide)];exact ey)) hd hX q1 (V.ok.mono hU k1) hA
  | _=>exact h.elim
 | call c =>
  obtain⟨callee,args,ats⟩:=c
  cases callee with
  | value x =>
   simp only[ZW]at h;obtain⟨V1,h1,k1,hA⟩:=ZF hr h;obtain⟨c,h2,k2,hB⟩:=ZTf hr hA;split at hB
   ·rename_i fi;obtain⟨cs,⟨vs,q1,rfl⟩,q3⟩:=h1;have q1:vs=[]:=q1;subst q1;have q3:a.eval x = .func (.func fi) #[] #[]:=q3;obtain⟨σ,hσ,hev⟩:=hr.st.evs (x :: args.toList);have hfx:=hev x (by simp);rw[q3]at hfx;have hargs:args.toList.map (ev σ)=(args.toList.map a.eval).map some:=by
     rw[List.map_map];exact List.map_congr_left λy hy=>hev y (by simp[hy])
    exact Z6t hC hr hU hX hn hd (λhen=>Zwa hσ _ hen hfx hargs) (λy hv=>ZCj hσ _ hv hfx hargs) h2 k2 hB
   ·exact hB.elim
  | invoke r m =>
   simp only[ZW]at h;obtain⟨V1,h1,k1,hA⟩:=ZF hr h;obtain⟨c,h2,k2,hB⟩:=ZTf hr hA;split at hB
   ·rename_i t x;split at hB
    ·rename_i fi hfi;obtain⟨cs,⟨cc,q1,rfl⟩,q3⟩:=h1;have q3:a.eval r = .iface t (x.val cc):=q3;obtain⟨σ,hσ,hev⟩:=hr.st.evs (r :: args.toList);have hfx:=hev r (by simp);rw[q3]at hfx;have hargs:args.toList.map (ev σ)=(args.toList.map a.eval).map some:=by
      rw[List.map_map];exact List.map_congr_left λy hy=>hev y (by simp[hy])
     exact Z6t hC hr hU hX hn (c:=.cons x c) (vals:=x.val cc :: args.toList.map a.eval) hd (λhen=>ZRo hσ _ (λw=>hC.m t m fi hfi _ w) hfx hargs (hen _ w)) (λy hv=>ZRo hσ _ (λw=>hC.m t m fi hfi _ w) hfx hargs (by
      have:=hv w;exact this)) ⟨cc,_,rfl,q1,h2⟩ ⟨k1,k2⟩ hB
    ·exact hB.elim
   ·exact hB.elim
  | builtin b =>
   cases b with
   | len =>
    simp only[ZW]at h;split at h
    ·rename_i x t hx ht;have hx:args = #[x]:=by apply Array.ext';exact hx
     have ht:ats = #[t]:=by apply Array.ext';exact ht
     subst hx ht;obtain⟨V1,h1,k1,hA⟩:=ZF hr h;obtain⟨m,q1,q2,hB⟩:=lenE_ok (d:=d) (ty:=ty) (pos:=pos) (aft:=aft) (g:=g) hr h1 hA;exact ZI hr hU q1 hd hX (ZHa q2) trivial hB
    ·exact h.elim
   | append =>
    simp only[ZW]at h;split at h
    ·rename_i x y t t' hx ht;split at h
     ·rename_i hb;have hb:=eQ hb;subst hb;have hx:args = #[x,y]:=by apply Array.ext';exact hx
      have ht:ats = #[t,t]:=by apply Array.ext';exact ht
      subst hx ht;obtain⟨V1,h1,k1,hA⟩:=ZF hr h;obtain⟨V2,h2,k2,hB⟩:=ZF hr hA;exact appE_ok hr hU hX hn rfl hd h1 h2 k1 k2 hB
     ·exact h.elim
    ·exact h.elim
   | max =>
    simp only[ZW]at h;split at h
    ·rename_i x y hx;have hx:args = #[x,y]:=by apply Array.ext';exact hx
     subst hx;obtain⟨V1,h1,k1,hA⟩:=ZF hr h;obtain⟨V2,h2,k2,hB⟩:=ZF hr hA;obtain⟨κ,i,rfl,hC'⟩:=Z2a hB;obtain⟨κ',j,rfl,hD⟩:=Z2a hC';split at hD
     ·rename_i hk;have hk:=Zcc hk;subst hk;obtain⟨e1,r1⟩:=Zza h1;obtain⟨e2,r2⟩:=Zza h2;obtain⟨σ,hσ,ev1,ev2⟩:=hr.st.ev2 x y;rw[e1]at ev1;rw[e2]at ev2;exact ZI hr hU (run_max hσ ev1 ev2) hd hX (ZHa (ZCe r1 r2)) trivial hD
     ·exact hD.elim
    ·rename_i x y z hx;have hx:args = #[x,y,z]:=by apply Array.ext';exact hx
     subst hx;obtain⟨V1,h1,k1,hA⟩:=ZF hr h;obtain⟨V2,h2,k2,hB⟩:=ZF hr hA;obtain⟨V3,h3,k3,hB'⟩:=ZF hr hB;obtain⟨κ,i,rfl,hC'⟩:=Z2a hB';obtain⟨κ',j,rfl,hD⟩:=Z2a hC';obtain⟨κ'',q,rfl,hE⟩:=Z2a hD;split at hE
     ·rename_i hk hk2;have hk:=Zcc hk;subst hk;have hk2:=Zcc hk2;subst hk2;obtain⟨e1,r1⟩:=Zza h1;obtain⟨e2,r2⟩:=Zza h2;obtain⟨e3,r3⟩:=Zza h3;obtain⟨σ,hσ,ev1,ev2,ev3⟩:=hr.st.ev3 x y z;rw[e1]at ev1;rw[e2]at ev2;rw[e3]at ev3;exact ZI hr hU (Z0z hσ ev1 ev2 ev3) hd hX (ZHa (ZCe (ZCe r1 r2) r3)) trivial hE
     ·exact hE.elim
    ·rename_i x1 x2 x3 x4 x5 x6 hx;have hx:args = #[x1,x2,x3,x4,x5,x6]:=by apply Array.ext';exact hx
     subst hx;obtain⟨V1,h1,k1,hA⟩:=ZF hr h;obtain⟨V2,h2,k2,hA⟩:=ZF hr hA;obtain⟨V3,h3,k3,hA⟩:=ZF hr hA;obtain⟨V4,h4,k4,hA⟩:=ZF hr hA;obtain⟨V5,h5,k5,hA⟩:=ZF hr hA;obtain⟨V6,h6,k6,hA⟩:=ZF hr hA;obtain⟨κ,i1,rfl,hB1⟩:=Z2a hA;obtain⟨κ2,i2,rfl,hB2⟩:=Z2a hB1;obtain⟨κ3,i3,rfl,hB3⟩:=Z2a hB2;obtain⟨κ4,i4,rfl,hB4⟩:=Z2a hB3;obtain⟨κ5,i5,rfl,hB5⟩:=Z2a hB4;obtain⟨κ6,i6,rfl,hB6⟩:=Z2a hB5;split at hB6
     ·have g2:=Zcc (show kEq κ κ2=true by assumption)
      cases g2
      have g3:=Zcc (show kEq κ κ3=true by assumption)
      cases g3
      have g4:=Zcc (show kEq κ κ4=true by assumption)
      cases g4
      have g5:=Zcc (show kEq κ κ5=true by assumption)
      cases g5
      have g6:=Zcc (show kEq κ κ6=true by assumption)
      cases g6
      obtain⟨e1,r1⟩:=Zza h1;obtain⟨e2,r2⟩:=Zza h2;obtain⟨e3,r3⟩:=Zza h3;obtain⟨e4,r4⟩:=Zza h4;obtain⟨e5,r5⟩:=Zza h5;obtain⟨e6,r6⟩:=Zza h6;obtain⟨σ,hσ,ev1,ev2,ev3,ev4,ev5,ev6⟩:=hr.st.ev6 x1 x2 x3 x4 x5 x6;rw[e1]at ev1;rw[e2]at ev2;rw[e3]at ev3;rw[e4]at ev4;rw[e5]at ev5;rw[e6]at ev6;exact ZI hr hU (ZGx hσ ev1 ev2 ev3 ev4 ev5 ev6) hd hX (ZHa (ZCe (ZCe (ZCe (ZCe (ZCe r1 r2) r3) r4) r5) r6)) trivial hB6
     ·exact hB6.elim
    ·exact h.elim
   | min =>
    simp only[ZW]at h;split at h
    ·rename_i x y hx;have hx:args = #[x,y]:=by apply Array.ext';exact hx
     subst hx;obtain⟨V1,h1,k1,hA⟩:=ZF hr h;obtain⟨V2,h2,k2,hB⟩:=ZF hr hA;obtain⟨κ,i,rfl,hC'⟩:=Z2a hB;obtain⟨κ',j,rfl,hD⟩:=Z2a hC';split at hD
     ·rename_i hk;have hk:=Zcc hk;subst hk;obtain⟨e1,r1⟩:=Zza h1;obtain⟨e2,r2⟩:=Zza h2;obtain⟨σ,hσ,ev1,ev2⟩:=hr.st.ev2 x y;rw[e1]at ev1;rw[e2]at ev2;exact ZI hr hU (run_min hσ ev1 ev2) hd hX (ZHa (min_inR r1 r2)) trivial hD
     ·exact hD.elim
    ·exact h.elim
   | _=>exact h.elim
 | _=>exact h.elim
end
end Go.Eng
namespace Go.Eng
open Go.RowKit
def Old (m:Nat) (f:Fr) (l:Lo) (f':Fr) (l':Lo):Prop:=(∀ t e,lkE f' t=some e→e.st<m→lkE f t=some e)∧∀ u e,lkE l' u=some e→e.st<m→lkE l u=some e
theorem Old.refl {m:Nat} {f:Fr} {l:Lo}:Old m f l f l:=⟨λ_ _ h _=>h,λ_ _ h _=>h⟩
theorem Old.trans {m m':Nat} {f f' f'':Fr} {l l' l'':Lo} (h:Old m f l f' l') (k:Old m' f' l' f'' l'') (hm:m≤m'):Old m f l f'' l'' :=
 ⟨λt e he hs=>h.1 t e (k.1 t e he (by omega)) hs,λt e he hs=>h.2 t e (k.2 t e he (by omega)) hs⟩
theorem Old.mono {m m':Nat} {f f':Fr} {l l':Lo} (h:Old m' f l f' l') (hm:m≤m'):Old m f l f' l':=⟨λt e he hs=>h.1 t e he (by omega),λt e he hs=>h.2 t e he (by omega)⟩
theorem Old.put {m n:Nat} {f:Fr} {l:Lo} {d:Nat} {x:V} (h:m≤n):Old m f l (⟨d,n,x⟩ :: f) l:=by
 refine⟨λt e he hs=>?_,λ_ _ h _=>h⟩;rw[ZE]at he;split at he
 ·cases he;exact absurd hs (by show ¬ n<m;omega)
 ·exact he
theorem Old.dup {m:Nat} {f:Fr} {l:Lo} {t:Nat} {e:En V} (h:lkE f t=some e):Old m f l (e :: f) l:=by
 obtain⟨_,hk⟩:=Zl h;refine⟨λt' e' he _=>?_,λ_ _ h _=>h⟩;rw[ZE]at he;split at he
 ·rename_i hk';cases he;rw[← hk',hk];exact h
 ·exact he
theorem ZIg {ρ:Type} {n m:Nat} (hm:m≤n) {f0:Fr} {l0:Lo}:∀ {e:Ev ρ} {f:Fr} {l:Lo} {K:ρ→Fr→Lo→Prop},Old m f0 l0 f l→(l.map En.k).Nodup→Zj n e f l K→Zj n e f l λx f' l'=>K x f' l'∧Old m f0 l0 f' l':=by
 intro e;have wr:∀ {f:Fr} {l:Lo} {u:Nat} {L:LV},Old m f0 l0 f l→(l.map En.k).Nodup→Old m f0 l0 f (⟨u,n,L⟩ :: era l u)∧((⟨u,n,L⟩ :: era l u:Lo).map En.k).Nodup:=by
  intro f l u L ho hn;obtain⟨n1,n2⟩:=ZAb (t:=u) hn;refine⟨⟨ho.1,λk e he hs=>?_⟩,List.nodup_cons.2 ⟨n2,n1⟩⟩;rw[ZE]at he;split at he
  ·cases he;exact absurd hs (by show ¬ n<m;omega)
  ·rw[ZJb hn]at he;split at he
   ·cases he
   ·exact ho.2 k e he hs
 induction e with
 | fail=>intro f l K ho hn h;exact h
 | done x=>intro f l K ho hn h;exact⟨h,ho⟩
 | rdS t q ih=>intro f l K ho hn h;obtain⟨x,hx,h⟩:=h;exact⟨x,hx,ih _ ho hn h⟩
 | rdL u q ih=>intro f l K ho hn h;obtain⟨x,hx,h⟩:=h;exact⟨x,hx,ih _ _ ho hn h⟩
 | wrS t x e ih=>intro f l K ho hn h;exact ih (ho.trans (Old.put hm) (Nat.le_refl m)) hn h
 | wrL u L e ih=>intro f l K ho hn h;exact ih (wr ho hn).1 (wr ho hn).2 h
 | new u L e ih =>
  intro f l K ho hn h;refine⟨h.1,ih ⟨ho.1,λk e he hs=>?_⟩ (List.nodup_cons.2 ⟨ZFg h.1,hn⟩) h.2⟩;rw[ZE]at he;split at he
  ·cases he;exact absurd hs (by show ¬ n<m;omega)
  ·exact ho.2 k e he hs
 | del u e ih =>
  intro f l K ho hn h;refine ih ⟨ho.1,λk e he hs=>?_⟩ (ZAb hn).1 h;rw[ZJb hn]at he;split at he
  ·cases he
  ·exact ho.2 k e he hs
 | bind x q ih=>intro f l K ho hn h;obtain⟨x,hx,h⟩:=h;exact⟨x,hx,ih _ ho hn h⟩
 | test t e1 e2 i1 i2 =>
  intro f l K ho hn h;obtain⟨s,b,h1,h2,h3⟩:=h;have hd:=ho.trans (Old.dup (m:=m) (l:=l) h1) (Nat.le_refl m);exact⟨s,b,h1,λe=>i1 hd hn (h2 e),λe=>i2 hd hn (h3 e)⟩
 | alt b e1 e2 i1 i2=>intro f l K ho hn h;exact⟨λe=>i1 ho hn (h.1 e),λe=>i2 ho hn (h.2 e)⟩
section
variable {N:Nat} {G:V→Value→Prop} {w0:Base} {v0:Zb} {U X:Nat→Prop} {f:Fr} {l:Lo} {a:Act} {w:World} {γ:Nat→Gh} {v:Zb} {ℓ:List Loc} {n:Nat}
def GoodG (P:Program) (ops:Array Oper) (N:Nat) (G:V→Value→Prop) (w0:Base) (v0:Zb) (X:Nat→Prop) (o:Oper) (a:Act) (w:World) (Post:Unit→Fr→Lo→Prop):Prop :=
 (Region.wanted o (yielded ops a.tmps)=true∧Zba P N G w0 v0 X o a w Post)∨(Region.wanted o (yielded ops a.tmps)=false∧∃ f' l',Post () f' l'∧Rel N G w0 v0 X f' l' (a.put o.dst undef) w)
theorem Znj (hr:RelX N G w0 v0 U X f l a w γ v ℓ) (hU:∀ k,U k→X k) (hX:X n) {o:Oper} {Post:Unit→Fr→Lo→Prop} (hd:∀ k,o.dst=some k→k<N) (h:Zj n (ZKg o) f l Post):∃ f' l',Post () f' l'∧Rel N G w0 v0 X f' l' (a.put o.dst undef) w:=by
 unfold ZKg at h
 cases hdd:o.dst with
 | none=>rw[hdd]at h;exact⟨f,l,h,γ,v,ℓ,hr.mono hU λ_ h=>h⟩
 | some d=>rw[hdd]at h;exact⟨_,l,h,γ,v,ℓ,(hr.mono hU λ_ h=>h).put (hd d hdd) (x:=.undef) ⟨[undef],rfl,rfl⟩ trivial hX⟩
theorem Zbl {C:Cf} (hC:CfOK C) {ops:Array Oper} (hr:RelX N G w0 v0 U X f l a w γ v ℓ) (hU:∀ k,U k→X k) (hX:X n) (hn:¬ U n) {o:Oper} {Post:Unit→Fr→Lo→Prop} (hds:∀ o ∈ ops.toList,∀ k,o.dst=some k→k<N) (hd:∀ k,o.dst=some k→k<N)
  (h:Zj n (gop C ops.toList n o) f l Post):GoodG C.P ops N G w0 v0 X o a w Post:=by
 unfold gop at h;split at h
 ·rename_i hg;exact .inl ⟨Z7b hg,ZCl hC hr hU hX hn hd h⟩
 ·rename_i j want hg;split at h
  ·rename_i q hq;split at h
   ·rename_i t ht;have htN:t<N:=hds q (mG hq) t ht;have hgd:(ops[j]?).bind (·.dst)=some t:=by rw[← Array.getElem?_toList,hq];exact ht
    obtain⟨e,he,h⟩:=h;obtain⟨σ,hσ,hev⟩:=hr.st.evs [.tmp t];have hl:look σ t=some (a.tmps.getD t undef):=hev (.tmp t) (by simp);have hrv:=hr.fr t e he;obtain⟨ek,est,ex⟩:=e;have hk:ek=t:=(Zl he).2;subst hk
    cases ex with
    | undef =>
     obtain⟨cs,h1,h2⟩:=hrv;have h1:cs=[undef]:=h1;subst h1;have h2:a.tmps.getD ek undef=undef:=h2;rw[h2]at hl;exact .inr ⟨ZZd hσ hg hgd hl htN,Znj hr hU hX hd h⟩
    | data tt b =>
     cases tt with
     | bool =>
      have h2:=Zcf hrv;have h2:a.tmps.getD ek undef = .bool b:=h2;rw[h2]at hl
      cases want with
      | true =>
       obtain⟨s,b',h3,h4,h5⟩:=h;rw[he]at h3
       cases h3
       cases b with
       | true=>exact .inl ⟨Zgf hσ hg hgd hl htN,ZCl hC (RelX.dup hr he) hU hX hn hd (h4 rfl)⟩
       | false=>exact .inr ⟨ZLi hσ hg hgd hl htN,Znj (RelX.dup hr he) hU hX hd (h5 rfl)⟩
      | false =>
       obtain⟨s,b',h3,h4,h5⟩:=h;rw[he]at h3
       cases h3
       cases b with
       | true=>exact .inr ⟨ZLi hσ hg hgd hl htN,Znj (RelX.dup hr he) hU hX hd (h4 rfl)⟩
       | false=>exact .inl ⟨Zgf hσ hg hgd hl htN,ZCl hC (RelX.dup hr he) hU hX hn hd (h5 rfl)⟩
     | _=>exact h.elim
    | _=>exact h.elim
   ·exact h.elim
  ·exact h.elim
theorem GoodG.list {P:Program} {ops:Array Oper} {Q:Exit→Act→World→Prop} {o:Oper} {rest:List Oper} {Post:Unit→Fr→Lo→Prop} (h:GoodG P ops N G w0 v0 X o a w Post)
  (k:∀ f' l' a' w',Post () f' l'→Rel N G w0 v0 X f' l' a' w'→wpList P ops Q rest a' w'):wpList P ops Q (o :: rest) a w:=by
 rcases h with ⟨hw,hg⟩ | ⟨hw,f',l',h1,h2⟩
 ·exact ZEc hw (Zym hg λx w' ⟨f',l',h1,h2⟩=>k f' l' _ w' h1 h2)
 ·unfold wpList;rw[iN (by rw[hw];decide)];exact k f' l' _ w h1 h2
end
end Go.Eng
namespace Go.Eng
open Go.RowKit
inductive Et where
 | rS (t:Nat) (e:En V)
 | rL (u:Nat) (e:En LV)
 | wS (e:En V)
 | dup (e:En V)
 | wL (e:En LV)
 | nL (e:En LV)
 | dL (u:Nat)
def okT:List Et→Fr→Lo→Prop
 | [],_,_=>True
 | .rS t e :: τ,f,l=>lkE f t=some e∧okT τ f l
 | .rL u e :: τ,f,l=>lkE l u=some e∧okT τ f l
 | .wS e :: τ,f,l=>okT τ (e :: f) l
 | .dup e :: τ,f,l=>lkE f e.k=some e∧okT τ (e :: f) l
 | .wL e :: τ,f,l=>okT τ f (e :: era l e.k)
 | .nL e :: τ,f,l=>lkE l e.k=none∧okT τ f (e :: l)
 | .dL u :: τ,f,l=>okT τ f (era l u)
def Z6b:List Et→Fr→Fr
 | [],f=>f
 | .wS e :: τ,f=>Z6b τ (e :: f)
 | .dup e :: τ,f=>Z6b τ (e :: f)
 | _ :: τ,f=>Z6b τ f
def ZZb:List Et→Lo→Lo
 | [],l=>l
 | .wL e :: τ,l=>ZZb τ (e :: era l e.k)
 | .nL e :: τ,l=>ZZb τ (e :: l)
 | .dL u :: τ,l=>ZZb τ (era l u)
 | _ :: τ,l=>ZZb τ l
def rdS:List Et→Nat→Prop
 | [],_=>False
 | .rS t _ :: τ,k=>k=t∨rdS τ k
 | .dup e :: τ,k=>k=e.k∨rdS τ k
 | _ :: τ,k=>rdS τ k
def rdL:List Et→Nat→Prop
 | [],_=>False
 | .rL u _ :: τ,k=>k=u∨rdL τ k
 | .nL e :: τ,k=>k=e.k∨rdL τ k
 | _ :: τ,k=>rdL τ k
def Z3a:List Et→Nat→Option (Option (En V))
 | [],_=>none
 | .wS e :: τ,t=>match Z3a τ t with
  | some z=>some z
  | none=>if e.k=t then some (some e) else none
 | _ :: τ,t=>Z3a τ t
def Zqa:List Et→Nat→Option (Option (En LV))
 | [],_=>none
 | .wL e :: τ,t=>match Zqa τ t with
  | some z=>some z
  | none=>if e.k=t then some (some e) else none
 | .nL e :: τ,t=>match Zqa τ t with
  | some z=>some z
  | none=>if e.k=t then some (some e) else none
 | .dL u :: τ,t=>match Zqa τ t with
  | some z=>some z
  | none=>if u=t then some none else none
 | _ :: τ,t=>Zqa τ t
def fpT:List Et→Fp→Fp
 | [],p=>p
 | .rS t _ :: τ,p=>fpT τ ⟨bit p.rs t,p.ws,p.rl,p.wl⟩
 | .rL u _ :: τ,p=>fpT τ ⟨p.rs,p.ws,bit p.rl u,p.wl⟩
 | .wS e :: τ,p=>fpT τ ⟨p.rs,bit p.ws e.k,p.rl,p.wl⟩
 | .dup e :: τ,p=>fpT τ ⟨bit p.rs e.k,p.ws,p.rl,p.wl⟩
 | .wL e :: τ,p=>fpT τ ⟨p.rs,p.ws,p.rl,bit p.wl e.k⟩
 | .nL e :: τ,p=>fpT τ ⟨p.rs,p.ws,bit p.rl e.k,bit p.wl e.k⟩
 | .dL u :: τ,p=>fpT τ ⟨p.rs,p.ws,p.rl,bit p.wl u⟩
def Tr {ρ:Type} (n:Nat):Ev ρ→List Et→ρ→Prop
 | .fail,_,_=>False
 | .done r,τ,x=>τ=[]∧x=r
 | .rdS t k,τ,x=>∃ e τ',τ = .rS t e :: τ'∧Tr n (k e.x) τ' x
 | .rdL u k,τ,x=>∃ e τ',τ = .rL u e :: τ'∧Tr n (k e.st e.x) τ' x
 | .wrS t v e,τ,x=>∃ τ',τ = .wS ⟨t,n,v⟩ :: τ'∧Tr n e τ' x
 | .wrL u L e,τ,x=>∃ τ',τ = .wL ⟨u,n,L⟩ :: τ'∧Tr n e τ' x
 | .new u L e,τ,x=>∃ τ',τ = .nL ⟨u,n,L⟩ :: τ'∧Tr n e τ' x
 | .del u e,τ,x=>∃ τ',τ = .dL u :: τ'∧Tr n e τ' x
 | .bind y k,τ,x=>∃ z,y=some z∧Tr n (k z) τ x
 | .test t e1 e2,τ,x=>∃ s b τ',τ = .dup ⟨t,s,.data .bool b⟩ :: τ'∧(b=true→Tr n e1 τ' x)∧(b=false→Tr n e2 τ' x)
 | .alt b e1 e2,τ,x=>(b=true→Tr n e1 τ x)∧(b=false→Tr n e2 τ x)
theorem Z5u {ρ α:Type} {n:Nat} {r:α}:∀ {e:Ev ρ} {f:Fr} {l:Lo} {p:Fp} {K:ρ→Fr→Lo→Fp→Option α},Znb n e f l p K=some r→∃ x τ,Tr n e τ x∧okT τ f l∧K x (Z6b τ f) (ZZb τ l) (fpT τ p)=some r:=by
 intro e
 induction e with
 | fail=>intro f l p K h;cases h
 | done x=>intro f l p K h;exact⟨x,[],⟨rfl,rfl⟩,trivial,h⟩
 | rdS t k ih =>
  intro f l p K h;simp only[Znb]at h;split at h
  ·rename_i e he;obtain⟨x,τ,h1,h2,h3⟩:=ih _ h;exact⟨x,.rS t e :: τ,⟨e,τ,rfl,h1⟩,⟨he,h2⟩,h3⟩
  ·cases h
 | rdL u k ih =>
  intro f l p K h;simp only[Znb]at h;split at h
  ·rename_i e he;obtain⟨x,τ,h1,h2,h3⟩:=ih _ _ h;exact⟨x,.rL u e :: τ,⟨e,τ,rfl,h1⟩,⟨he,h2⟩,h3⟩
  ·cases h
 | wrS t v e ih=>intro f l p K h;obtain⟨x,τ,h1,h2,h3⟩:=ih h;exact⟨x,.wS ⟨t,n,v⟩ :: τ,⟨τ,rfl,h1⟩,h2,h3⟩
 | wrL u L e ih=>intro f l p K h;obtain⟨x,τ,h1,h2,h3⟩:=ih h;exact⟨x,.wL ⟨u,n,L⟩ :: τ,⟨τ,rfl,h1⟩,h2,h3⟩
 | new u L e ih =>
  intro f l p K h;simp only[Znb]at h;split at h
  ·rename_i he;obtain⟨x,τ,h1,h2,h3⟩:=ih h;exact⟨x,.nL ⟨u,n,L⟩ :: τ,⟨τ,rfl,h1⟩,⟨he,h2⟩,h3⟩
  ·cases h
 | del u e ih=>intro f l p K h;obtain⟨x,τ,h1,h2,h3⟩:=ih h;exact⟨x,.dL u :: τ,⟨τ,rfl,h1⟩,h2,h3⟩
 | bind y k ih =>
  intro f l p K h;obtain⟨z,hz,h⟩:=Zja h;obtain⟨x,τ,h1,h2,h3⟩:=ih _ h;exact⟨x,τ,⟨z,hz,h1⟩,h2,h3⟩
 | test t e1 e2 i1 i2 =>
  intro f l p K h;simp only[Znb]at h;split at h
  ·rename_i k s b hx;obtain⟨_,hk⟩:=Zl hx;have hk:k=t:=hk;subst hk
   cases b with
   | true =>
    obtain⟨x,τ,h1,h2,h3⟩:=i1 h;exact⟨x,.dup ⟨k,s,.data .bool true⟩ :: τ,⟨s,true,τ,rfl,λ_=>h1,λe=>by cases e⟩,⟨hx,h2⟩,h3⟩
   | false =>
    obtain⟨x,τ,h1,h2,h3⟩:=i2 h;exact⟨x,.dup ⟨k,s,.data .bool false⟩ :: τ,⟨s,false,τ,rfl,(λe=>by cases e),λ_=>h1⟩,⟨hx,h2⟩,h3⟩
  ·cases h
 | alt b e1 e2 i1 i2 =>
  intro f l p K h
  cases b with
  | true =>
   obtain⟨x,τ,h1,h2,h3⟩:=i1 h;exact⟨x,τ,⟨λ_=>h1,λe=>by cases e⟩,h2,h3⟩
  | false =>
   obtain⟨x,τ,h1,h2,h3⟩:=i2 h;exact⟨x,τ,⟨(λe=>by cases e),λ_=>h1⟩,h2,h3⟩
theorem Z2m {ρ:Type} {n:Nat}:∀ {e:Ev ρ} {τ:List Et} {x:ρ} {f:Fr} {l:Lo},Tr n e τ x→okT τ f l→Zj n e f l λx' f' l'=>x'=x∧f'=Z6b τ f∧l'=ZZb τ l:=by
 intro e
 induction e with
 | fail=>intro τ x f l h k;exact h
 | done r=>intro τ x f l h k;obtain⟨rfl,rfl⟩:=h;exact⟨rfl,rfl,rfl⟩
 | rdS t q ih=>intro τ x f l h k;obtain⟨e,τ',rfl,h⟩:=h;exact⟨e,k.1,ih _ (τ:=τ') h k.2⟩
 | rdL u q ih=>intro τ x f l h k;obtain⟨e,τ',rfl,h⟩:=h;exact⟨e,k.1,ih _ _ (τ:=τ') h k.2⟩
 | wrS t v e ih=>intro τ x f l h k;obtain⟨τ',rfl,h⟩:=h;exact ih (τ:=τ') h k
 | wrL u L e ih=>intro τ x f l h k;obtain⟨τ',rfl,h⟩:=h;exact ih (τ:=τ') h k
 | new u L e ih=>intro τ x f l h k;obtain⟨τ',rfl,h⟩:=h;exact⟨k.1,ih (τ:=τ') h k.2⟩
 | del u e ih=>intro τ x f l h k;obtain⟨τ',rfl,h⟩:=h;exact ih (τ:=τ') h k
 | bind y q ih=>intro τ x f l h k;obtain⟨z,hz,h⟩:=h;exact⟨z,hz,ih _ h k⟩
 | test t e1 e2 i1 i2=>intro τ x f l h k;obtain⟨s,b,τ',rfl,h1,h2⟩:=h;exact⟨s,b,k.1,λe=>i1 (τ:=τ') (h1 e) k.2,λe=>i2 (τ:=τ') (h2 e) k.2⟩
 | alt b e1 e2 i1 i2=>intro τ x f l h k;exact⟨λe=>i1 (h.1 e) k,λe=>i2 (h.2 e) k⟩
theorem ZPc:∀ {τ:List Et} {f:Fr} {l:Lo} {t:Nat},okT τ f l→lkE (Z6b τ f) t=(Z3a τ t).getD (lkE f t)
 | [],_,_,_,_=>rfl
 | .rS _ _ :: τ,_,_,_,h=>ZPc (τ:=τ) h.2
 | .rL _ _ :: τ,_,_,_,h=>ZPc (τ:=τ) h.2
 | .wL _ :: τ,_,_,_,h=>ZPc (τ:=τ) h
 | .nL _ :: τ,_,_,_,h=>ZPc (τ:=τ) h.2
 | .dL _ :: τ,_,_,_,h=>ZPc (τ:=τ) h
 | .wS e :: τ,f,l,t,h=>by
  have:=ZPc (t:=t) (show okT τ (e :: f) l from h)
  simp only[Z6b,Z3a]
  rw[this,ZE]
  cases Z3a τ t with
  | some z=>rfl
  | none=>by_cases h:e.k=t <;> simp[h]
 | .dup e :: τ,f,l,t,h=>by
  have:=ZPc (t:=t) (show okT τ (e :: f) l from h.2)
  simp only[Z6b,Z3a]
  rw[this,ZE]
  congr 1
  by_cases hk:e.k=t
  ·rw[iP hk,← hk,h.1]
  ·rw[iN hk]
theorem ZDc:∀ {τ:List Et} {f:Fr} {l:Lo},(l.map En.k).Nodup→okT τ f l→((ZZb τ l).map En.k).Nodup∧∀ t,lkE (ZZb τ l) t=(Zqa τ t).getD (lkE l t)
 | [],_,_,hn,_=>⟨hn,λ_=>rfl⟩
 | .rS _ _ :: τ,_,_,hn,h=>ZDc (τ:=τ) hn h.2
 | .rL _ _ :: τ,_,_,hn,h=>ZDc (τ:=τ) hn h.2
 | .wS _ :: τ,_,_,hn,h=>ZDc (τ:=τ) hn h
 | .dup _ :: τ,_,_,hn,h=>ZDc (τ:=τ) hn h.2
 | .wL e :: τ,f,l,hn,h=>by
  obtain⟨n1,n2⟩:=ZAb (t:=e.k) hn
  obtain⟨k1,k2⟩:=ZDc (τ:=τ) (l:=e :: era l e.k) (List.nodup_cons.2 ⟨n2,n1⟩) h
  refine⟨k1,λt=>(k2 t).trans ?_⟩
  simp only[Zqa]
  rw[ZE,ZJb hn]
  cases Zqa τ t with
  | some z=>rfl
  | none=>by_cases hk:e.k=t <;> simp[hk]
 | .nL e :: τ,f,l,hn,h=>by
  obtain⟨k1,k2⟩:=ZDc (τ:=τ) (l:=e :: l) (List.nodup_cons.2 ⟨ZFg h.1,hn⟩) h.2
  refine⟨k1,λt=>(k2 t).trans ?_⟩
  simp only[Zqa]
  rw[ZE]
  cases Zqa τ t with
  | some z=>rfl
  | none=>by_cases hk:e.k=t <;> simp[hk]
 | .dL u :: τ,f,l,hn,h=>by
  obtain⟨k1,k2⟩:=ZDc (τ:=τ) (l:=era l u) (ZAb hn).1 h
  refine⟨k1,λt=>(k2 t).trans ?_⟩
  simp only[Zqa]
  rw[ZJb hn]
  cases Zqa τ t with
  | some z=>rfl
  | none=>by_cases hk:u=t <;> simp[hk]
theorem Zfe:∀ {τ:List Et} {f f2:Fr} {l l2:Lo},(l.map En.k).Nodup→(l2.map En.k).Nodup→okT τ f l→(∀ t,rdS τ t→lkE f t=lkE f2 t)→(∀ u,rdL τ u→lkE l u=lkE l2 u)→okT τ f2 l2
 | [],_,_,_,_,_,_,_,_,_=>trivial
 | .rS t e :: τ,_,_,_,_,n1,n2,h,k1,k2=>⟨(k1 t (.inl rfl)).symm.trans h.1,Zfe n1 n2 h.2 (λt ht=>k1 t (.inr ht)) k2⟩
 | .rL u e :: τ,_,_,_,_,n1,n2,h,k1,k2=>⟨(k2 u (.inl rfl)).symm.trans h.1,Zfe n1 n2 h.2 k1 λu hu=>k2 u (.inr hu)⟩
 | .wS e :: τ,f,f2,_,_,n1,n2,h,k1,k2=>Zfe (τ:=τ) n1 n2 h (λt ht=>by
   rw[ZE,ZE]
   by_cases hk:e.k=t
   ·rw[iP hk,iP hk]
   ·rw[iN hk,iN hk];exact k1 t ht) k2
 | .dup e :: τ,f,f2,_,_,n1,n2,h,k1,k2=>⟨(k1 e.k (.inl rfl)).symm.trans h.1,Zfe (τ:=τ) n1 n2 h.2 (λt ht=>by
   rw[ZE,ZE]
   by_cases hk:e.k=t
   ·rw[iP hk,iP hk]
   ·rw[iN hk,iN hk];exact k1 t (.inr ht)) k2⟩
 | .wL e :: τ,_,_,l,l2,n1,n2,h,k1,k2=>by
  obtain⟨a1,a2⟩:=ZAb (t:=e.k) n1
  obtain⟨b1,b2⟩:=ZAb (t:=e.k) n2
  refine Zfe (τ:=τ) (l:=e :: era l e.k) (l2:=e :: era l2 e.k) (List.nodup_cons.2 ⟨a2,a1⟩) (List.nodup_cons.2 ⟨b2,b1⟩) h k1 λu hu=>?_
  rw[ZE,ZE]
  by_cases hk:e.k=u
  ·rw[iP hk,iP hk]
  ·rw[iN hk,iN hk,ZJb n1,ZJb n2,iN hk,iN hk];exact k2 u hu
 | .nL e :: τ,_,_,l,l2,n1,n2,h,k1,k2=>by
  have he:lkE l2 e.k=none:=(k2 e.k (.inl rfl)).symm.trans h.1
  refine⟨he,Zfe (τ:=τ) (l:=e :: l) (l2:=e :: l2) (List.nodup_cons.2 ⟨ZFg h.1,n1⟩) (List.nodup_cons.2 ⟨ZFg he,n2⟩) h.2 k1 λu hu=>?_⟩
  rw[ZE,ZE]
  by_cases hk:e.k=u
  ·rw[iP hk,iP hk]
  ·rw[iN hk,iN hk];exact k2 u (.inr hu)
 | .dL u :: τ,_,_,l,l2,n1,n2,h,k1,k2=>by
  refine Zfe (τ:=τ) (ZAb n1).1 (ZAb n2).1 h k1 λk hk=>?_
  rw[ZJb n1,ZJb n2]
  by_cases e:u=k
  ·rw[iP e,iP e]
  ·rw[iN e,iN e];exact k2 k hk
theorem ZBe {m k:Nat}:(bit m k).testBit k=true:=by
 show (m ||| 2^k).testBit k=true;rw[Nat.testBit_or,Nat.testBit_two_pow_self,Bool.or_true]
theorem ZOe {m k t:Nat} (h:m.testBit t=true):(bit m k).testBit t=true:=by
 show (m ||| 2^k).testBit t=true;rw[Nat.testBit_or,h,Bool.true_or]
structure Fp.le (p q:Fp):Prop where
 rs:∀ t,p.rs.testBit t=true→q.rs.testBit t=true
 ws:∀ t,p.ws.testBit t=true→q.ws.testBit t=true
 rl:∀ t,p.rl.testBit t=true→q.rl.testBit t=true
 wl:∀ t,p.wl.testBit t=true→q.wl.testBit t=true
theorem Fp.le.trans {p q r:Fp} (h:p.le q) (k:q.le r):p.le r:=⟨λt e=>k.rs t (h.rs t e),λt e=>k.ws t (h.ws t e),λt e=>k.rl t (h.rl t e),λt e=>k.wl t (h.wl t e)⟩
theorem ZMb:∀ {τ:List Et} {p:Fp},p.le (fpT τ p)
 | [],_=>⟨λ_ h=>h,λ_ h=>h,λ_ h=>h,λ_ h=>h⟩
 | .rS t _ :: τ,p=>Fp.le.trans (q:=⟨bit p.rs t,p.ws,p.rl,p.wl⟩) ⟨λ_ h=>ZOe h,λ_ h=>h,λ_ h=>h,λ_ h=>h⟩ (ZMb (τ:=τ))
 | .rL u _ :: τ,p=>Fp.le.trans (q:=⟨p.rs,p.ws,bit p.rl u,p.wl⟩) ⟨λ_ h=>h,λ_ h=>h,λ_ h=>ZOe h,λ_ h=>h⟩ (ZMb (τ:=τ))
 | .wS e :: τ,p=>Fp.le.trans (q:=⟨p.rs,bit p.ws e.k,p.rl,p.wl⟩) ⟨λ_ h=>h,λ_ h=>ZOe h,λ_ h=>h,λ_ h=>h⟩ (ZMb (τ:=τ))
 | .dup e :: τ,p=>Fp.le.trans (q:=⟨bit p.rs e.k,p.ws,p.rl,p.wl⟩) ⟨λ_ h=>ZOe h,λ_ h=>h,λ_ h=>h,λ_ h=>h⟩ (ZMb (τ:=τ))
 | .wL e :: τ,p=>Fp.le.trans (q:=⟨p.rs,p.ws,p.rl,bit p.wl e.k⟩) ⟨λ_ h=>h,λ_ h=>h,λ_ h=>h,λ_ h=>ZOe h⟩ (ZMb (τ:=τ))
 | .nL e :: τ,p=>Fp.le.trans (q:=⟨p.rs,p.ws,bit p.rl e.k,bit p.wl e.k⟩) ⟨λ_ h=>h,λ_ h=>h,λ_ h=>ZOe h,λ_ h=>ZOe h⟩ (ZMb (τ:=τ))
 | .dL u :: τ,p=>Fp.le.trans (q:=⟨p.rs,p.ws,p.rl,bit p.wl u⟩) ⟨λ_ h=>h,λ_ h=>h,λ_ h=>h,λ_ h=>ZOe h⟩ (ZMb (τ:=τ))
theorem Zae:∀ {τ:List Et} {p:Fp} {t:Nat},rdS τ t→(fpT τ p).rs.testBit t=true
 | .rS t _ :: τ,_,_,.inl e=>by subst e;exact (ZMb (τ:=τ)).rs _ ZBe
 | .dup _ :: τ,_,_,.inl e=>by subst e;exact (ZMb (τ:=τ)).rs _ ZBe
 | .rS t _ :: τ,_,_,.inr h=>Zae (τ:=τ) h
 | .dup _ :: τ,_,_,.inr h=>Zae (τ:=τ) h
 | .rL _ _ :: τ,_,_,h=>Zae (τ:=τ) h
 | .wS _ :: τ,_,_,h=>Zae (τ:=τ) h
 | .wL _ :: τ,_,_,h=>Zae (τ:=τ) h
 | .nL _ :: τ,_,_,h=>Zae (τ:=τ) h
 | .dL _ :: τ,_,_,h=>Zae (τ:=τ) h
theorem Zce:∀ {τ:List Et} {p:Fp} {t:Nat},rdL τ t→(fpT τ p).rl.testBit t=true
 | .rL t _ :: τ,_,_,.inl e=>by subst e;exact (ZMb (τ:=τ)).rl _ ZBe
 | .nL _ :: τ,_,_,.inl e=>by subst e;exact (ZMb (τ:=τ)).rl _ ZBe
 | .rL t _ :: τ,_,_,.inr h=>Zce (τ:=τ) h
 | .nL _ :: τ,_,_,.inr h=>Zce (τ:=τ) h
 | .rS _ _ :: τ,_,_,h=>Zce (τ:=τ) h
 | .wS _ :: τ,_,_,h=>Zce (τ:=τ) h
 | .dup _ :: τ,_,_,h=>Zce (τ:=τ) h
 | .wL _ :: τ,_,_,h=>Zce (τ:=τ) h
 | .dL _ :: τ,_,_,h=>Zce (τ:=τ) h
theorem Z8c:∀ {τ:List Et} {p:Fp} {t:Nat},Z3a τ t≠none→(fpT τ p).ws.testBit t=true
 | [],_,_,h=>absurd rfl h
 | .wS e :: τ,_,t,h=>by
  by_cases hk:e.k=t
  ·subst hk;exact (ZMb (τ:=τ)).ws _ ZBe
  ·refine Z8c (τ:=τ) λh0=>h ?_
   simp only[Z3a,h0,iN hk]
 | .rS _ _ :: τ,_,_,h=>Z8c (τ:=τ) h
 | .rL _ _ :: τ,_,_,h=>Z8c (τ:=τ) h
 | .dup _ :: τ,_,_,h=>Z8c (τ:=τ) h
 | .wL _ :: τ,_,_,h=>Z8c (τ:=τ) h
 | .nL _ :: τ,_,_,h=>Z8c (τ:=τ) h
 | .dL _ :: τ,_,_,h=>Z8c (τ:=τ) h
theorem ZZc:∀ {τ:List Et} {p:Fp} {t:Nat},Zqa τ t≠none→(fpT τ p).wl.testBit t=true
 | [],_,_,h=>absurd rfl h
 | .wL e :: τ,_,t,h=>by
  by_cases hk:e.k=t
  ·subst hk;exact (ZMb (τ:=τ)).wl _ ZBe
  ·refine ZZc (τ:=τ) λh0=>h ?_
   simp only[Zqa,h0,iN hk]
 | .nL e :: τ,_,t,h=>by
  by_cases hk:e.k=t
  ·subst hk;exact (ZMb (τ:=τ)).wl _ ZBe
  ·refine ZZc (τ:=τ) λh0=>h ?_
   simp only[Zqa,h0,iN hk]
 | .dL u :: τ,_,t,h=>by
  by_cases hk:u=t
  ·subst hk;exact (ZMb (τ:=τ)).wl _ ZBe
  ·refine ZZc (τ:=τ) λh0=>h ?_
   simp only[Zqa,h0,iN hk]
 | .rS _ _ :: τ,_,_,h=>ZZc (τ:=τ) h
 | .rL _ _ :: τ,_,_,h=>ZZc (τ:=τ) h
 | .wS _ :: τ,_,_,h=>ZZc (τ:=τ) h
 | .dup _ :: τ,_,_,h=>ZZc (τ:=τ) h
theorem Zog {a b t:Nat} (h:Nat.land a b=0) (ha:a.testBit t=true) (hb:b.testBit t=true):False:=by
 have:(a &&& b).testBit t=true:=by rw[Nat.testBit_and,ha,hb];rfl
 rw[show (a &&& b)=0 from h]at this;simp at this
theorem ZLm {a b:Nat} (h:Nat.lor a b=0):a=0∧b=0:=by
 have h:a ||| b=0:=h;exact Nat.or_eq_zero_iff.1 h
theorem ZIk {a b t:Nat} (h:a.testBit t=true∨b.testBit t=true):(Nat.lor a b).testBit t=true:=by
 show (a ||| b).testBit t=true;rw[Nat.testBit_or];rcases h with h | h <;> simp[h]
structure Apart (τ σ:List Et):Prop where
 s1:∀ t,Z3a τ t≠none→rdS σ t→False
 s2:∀ t,Z3a τ t≠none→Z3a σ t≠none→False
 s3:∀ t,rdS τ t→Z3a σ t≠none→False
 l1:∀ t,Zqa τ t≠none→rdL σ t→False
 l2:∀ t,Zqa τ t≠none→Zqa σ t≠none→False
 l3:∀ t,rdL τ t→Zqa σ t≠none→False
theorem ZMr {τ σ:List Et} {p q:Fp} (h:(fpT τ p).free (fpT σ q)=true):Apart τ σ:=by
 have h:=eQ h;obtain⟨h1,h2⟩:=ZLm h;obtain⟨h3,h4⟩:=ZLm h1;obtain⟨h5,h6⟩:=ZLm h2;exact⟨λt a b=>Zog h3 (Z8c a) (ZIk (.inl (Zae b))),λt a b=>Zog h3 (Z8c a) (ZIk (.inr (Z8c b))),λt a b=>Zog h4 (Zae a) (Z8c b),
  λt a b=>Zog h5 (ZZc a) (ZIk (.inl (Zce b))),λt a b=>Zog h5 (ZZc a) (ZIk (.inr (ZZc b))),λt a b=>Zog h6 (Zce a) (ZZc b)⟩
def ZFe:List (List Et)→Fr→Fr
 | [],f=>f
 | τ :: r,f=>ZFe r (Z6b τ f)
def Zle:List (List Et)→Lo→Lo
 | [],l=>l
 | τ :: r,l=>Zle r (ZZb τ l)
def okTs:List (List Et)→Fr→Lo→Prop
 | [],_,_=>True
 | τ :: r,f,l=>okT τ f l∧okTs r (Z6b τ f) (ZZb τ l)
def Zsa {β:Type} (eff:List Et→Nat→Option β) (sel:Nat→Bool):List (List Et)→Nat→β→Nat→β
 | [],_,acc,_=>acc
 | τ :: r,i,acc,t=>Zsa eff sel r (i+1) (if sel i then (eff τ t).getD acc else acc) t
section
variable {β:Type} {eff:List Et→Nat→Option β}
theorem Zke {sel sel':Nat→Bool} {t:Nat}:∀ {Ts:List (List Et)} {i:Nat} {acc:β},(∀ j τ,Ts[j]? = some τ→eff τ t≠none→sel (i+j)=sel' (i+j))→Zsa eff sel Ts i acc t=Zsa eff sel' Ts i acc t
 | [],_,_,_=>rfl
 | τ :: r,i,acc,h=>by
  have h1:(if sel i then (eff τ t).getD acc else acc)=(if sel' i then (eff τ t).getD acc else acc):=by
   cases he:eff τ t with
   | none=>simp
   | some z =>
    have:=h 0 τ rfl (by rw[he];exact λe=>by cases e);rw[Nat.add_zero]at this;rw[this]
  simp only[Zsa];rw[h1];exact Zke λj σ hj hs=>by have:=h (j+1) σ hj hs;rwa [← Nat.add_assoc,Nat.add_right_comm]at this
theorem ZQe {sel:Nat→Bool} {t:Nat}:∀ {Ts:List (List Et)} {i:Nat} {acc:β},(∀ j τ,Ts[j]? = some τ→sel (i+j)=true→eff τ t=none)→Zsa eff sel Ts i acc t=acc
 | [],_,_,_=>rfl
 | τ :: r,i,acc,h=>by
  simp only[Zsa]
  rw[ZQe λj σ hj hs=>h (j+1) σ hj (by rwa [← Nat.add_assoc,Nat.add_right_comm])]
  by_cases hs:sel i=true
  ·rw[iP hs,h 0 τ rfl hs];rfl
  ·rw[iN hs]
theorem Zvl {sel:Nat→Bool} {t:Nat}:∀ {Ts:List (List Et)} {i k:Nat} {acc:β} {τ:List Et} {z:β},Ts[k]? = some τ→sel (i+k)=true→eff τ t=some z→(∀ j σ,k<j→Ts[j]? = some σ→sel (i+j)=true→eff σ t=none)→Zsa eff sel Ts i acc t=z
 | [],_,_,_,_,_,h,_,_,_=>by cases h
 | σ :: r,i,0,acc,τ,z,h,hs,he,hj=>by
  cases h
  simp only[Zsa]
  rw[iP (show sel i=true from hs),he]
  exact ZQe λj σ hσ hsj=>hj (j+1) σ (by omega) hσ (by rwa [← Nat.add_assoc,Nat.add_right_comm])
 | σ :: r,i,k+1,acc,τ,z,h,hs,he,hj=>by
  simp only[Zsa]
  exact Zvl (k:=k) (τ:=τ) h (by rwa [Nat.add_right_comm]) he λj σ' hkj hσ hsj=>hj (j+1) σ' (by omega) hσ (by rwa [← Nat.add_assoc,Nat.add_right_comm])
end
theorem ZFl:∀ {Ts:List (List Et)} {f:Fr} {l:Lo} {b i:Nat} {τ:List Et},okTs Ts f l→(l.map En.k).Nodup→Ts[i]? = some τ→∃ fi li,okT τ fi li∧(li.map En.k).Nodup∧(∀ t,lkE fi t=Zsa Z3a (λj=>decide (j<b+i)) Ts b (lkE f t) t)∧∀ t,lkE li t=Zsa Zqa (λj=>decide (j<b+i)) Ts b (lkE l t) t
 | [],_,_,_,_,_,_,_,h=>by cases h
 | σ :: r,f,l,b,0,τ,h,hn,ht=>by
  cases ht
  refine⟨f,l,h.1,hn,λt=>(ZQe λj _ _ hs=>?_).symm,λt=>(ZQe λj _ _ hs=>?_).symm⟩ <;> (have:=of_decide_eq_true hs;omega)
 | σ :: r,f,l,b,i+1,τ,h,hn,ht=>by
  obtain⟨n1,hl⟩:=ZDc hn h.1
  obtain⟨fi,li,k1,k2,k3,k4⟩:=ZFl (b:=b+1) (i:=i) h.2 n1 ht
  have e:(λj=>decide (j<b+1+i))=λj=>decide (j<b+(i+1)):=by funext j;congr 1;rw[Nat.add_assoc,Nat.add_comm 1 i]
  have hb:decide (b<b+(i+1))=true:=by simp
  refine⟨fi,li,k1,k2,λt=>?_,λt=>?_⟩
  ·rw[k3 t,e,ZPc h.1];simp only[Zsa];rw[iP hb]
  ·rw[k4 t,e,hl t];simp only[Zsa];rw[iP hb]
theorem ZBn:∀ {Ts:List (List Et)} {f:Fr} {l:Lo} {b:Nat},okTs Ts f l→(l.map En.k).Nodup→((Zle Ts l).map En.k).Nodup∧(∀ t,lkE (ZFe Ts f) t=Zsa Z3a (λ_=>true) Ts b (lkE f t) t)∧∀ t,lkE (Zle Ts l) t=Zsa Zqa (λ_=>true) Ts b (lkE l t) t
 | [],_,_,_,_,hn=>⟨hn,λ_=>rfl,λ_=>rfl⟩
 | τ :: r,f,l,b,h,hn=>by
  obtain⟨n1,hl⟩:=ZDc hn h.1
  obtain⟨k1,k2,k3⟩:=ZBn (b:=b+1) h.2 n1
  refine⟨k1,λt=>?_,λt=>?_⟩
  ·rw[show ZFe (τ :: r) f=ZFe r (Z6b τ f) from rfl,k2 t,ZPc h.1];rfl
  ·rw[show Zle (τ :: r) l=Zle r (ZZb τ l) from rfl,k3 t,hl t];rfl
theorem ZNn {α:Type} {C:Cf} {ops:List Oper} {r:α}:∀ {os:List Oper} {f:Fr} {l:Lo} {n:Nat} {K:Fr→Lo→Nat→List Fp→Option α},Ztf C ops os f l n K=some r →
  ∃ Ts:List (List Et),Ts.length=os.length∧okTs Ts f l∧(∀ i o τ,os[i]? = some o→Ts[i]? = some τ→Tr (n+i) (gop C ops (n+i) o) τ ())∧K (ZFe Ts f) (Zle Ts l) (n+os.length) (Ts.map λτ=>fpT τ Fp.no)=some r
 | [],f,l,n,K,h=>⟨[],rfl,trivial,λ_ _ _ h=>by simp at h,h⟩
 | o :: os,f,l,n,K,h=>by
  simp only[Ztf]at h
  obtain⟨⟨⟩,τ,h1,h2,h3⟩:=Z5u h
  obtain⟨Ts,k1,k2,k3,k4⟩:=ZNn h3
  refine⟨τ :: Ts,by simp[k1],⟨h2,k2⟩,λi o' τ' ho ht=>?_,?_⟩
  ·cases i with
   | zero=>cases ho;cases ht;exact h1
   | succ i=>have:=k3 i o' τ' ho ht;rwa [Nat.add_right_comm]at this
  ·rw[List.length_cons,← Nat.add_assoc,Nat.add_right_comm];exact k4
theorem Znz {ρ:Type} {n:Nat} {A:Prop}:∀ {e:Ev ρ} {f:Fr} {l:Lo} {K:ρ→Fr→Lo→Prop},Zj n e f l K→(∀ x f' l',K x f' l'→A)→A:=by
 intro e
 induction e with
 | fail=>intro f l K h k;exact h.elim
 | done x=>intro f l K h k;exact k _ _ _ h
 | rdS t q ih=>intro f l K h k;obtain⟨x,hx,h⟩:=h;exact ih _ h k
 | rdL u q ih=>intro f l K h k;obtain⟨x,hx,h⟩:=h;exact ih _ _ h k
 | wrS t x e ih=>intro f l K h k;exact ih h k
 | wrL u L e ih=>intro f l K h k;exact ih h k
 | new u L e ih=>intro f l K h k;exact ih h.2 k
 | del u e ih=>intro f l K h k;exact ih h k
 | bind x q ih=>intro f l K h k;obtain⟨x,hx,h⟩:=h;exact ih _ h k
 | test t e1 e2 i1 i2 =>
  intro f l K h k;obtain⟨s,b,h1,h2,h3⟩:=h
  cases b with
  | true=>exact i1 (h2 rfl) k
  | false=>exact i2 (h3 rfl) k
 | alt b e1 e2 i1 i2 =>
  intro f l K h k
  cases b with
  | true=>exact i1 (h.1 rfl) k
  | false=>exact i2 (h.2 rfl) k
theorem Z3n {C:Cf} {ops:List Oper} {m:Nat}:∀ {os:List Oper} {Ts:List (List Et)} {f:Fr} {l:Lo} {n:Nat},m≤n→Ts.length=os.length→okTs Ts f l→(l.map En.k).Nodup→(∀ i o τ,os[i]? = some o→Ts[i]? = some τ→Tr (n+i) (gop C ops (n+i) o) τ ())→Old m f l (ZFe Ts f) (Zle Ts l)
 | _,[],_,_,_,_,_,_,_,_=>Old.refl
 | [],_ :: _,_,_,_,_,h,_,_,_=>by cases h
 | o :: os,τ :: Ts,f,l,n,hm,hl,h,hn,ht=>by
  have h1:=ZIg hm Old.refl hn (Z2m (ht 0 o τ rfl rfl) h.1)
  have h2:Old m f l (Z6b τ f) (ZZb τ l):=Znz h1 λx f' l' ⟨⟨_,e1,e2⟩,h⟩=>by subst e1;subst e2;exact h
  exact h2.trans (Z3n (n:=n+1) (by omega) (by simpa using hl) h.2 (ZDc hn h.1).1 λi o' τ' ho hτ=>by
   have:=ht (i+1) o' τ' ho hτ
   rwa [← Nat.add_assoc,Nat.add_right_comm]at this) (Nat.le_refl m)
theorem Zlr {m:Nat} {q:Fp}:∀ {bef:List Fp} {i0:Nat},chk1 m q bef i0=true→∀ i p,bef[i]? = some p→m.testBit (i0+i)=true∨p.free q=true
 | [],_,_,_,_,h=>by cases h
 | p0 :: r,i0,h,i,p,hp=>by
  simp only[chk1]at h
  cases i with
  | zero =>
   cases hp
   rw[Nat.add_zero]
   split at h
   ·rename_i e;exact .inl e
   ·split at h
    ·rename_i e;exact .inr e
    ·cases h
  | succ i =>
   have h':chk1 m q r (i0+1)=true:=by
    split at h
    ·exact h
    ·split at h
     ·exact h
     ·cases h
   have:=Zlr h' i p hp
   rwa [Nat.add_right_comm]at this
theorem ZJn:∀ {qs:List Fp} {bef:List Fp} {ms:List Nat},Z0d bef ms qs=true→∀ j q,qs[j]? = some q→∃ m,ms[j]? = some m∧∀ i p,(bef++qs)[i]? = some p→i<bef.length+j→m.testBit i=true∨p.free q=true
 | [],_,_,_,_,_,h=>by cases h
 | q0 :: qs,bef,ms,h,j,q,hq=>by
  cases ms with
  | nil=>cases h
  | cons m0 ms =>
   simp only[Z0d]at h
   split at h
   ·rename_i h1
    cases j with
    | zero =>
     cases hq
     refine⟨m0,rfl,λi p hp hi=>?_⟩
     rw[List.getElem?_append_left (by omega)]at hp
     have:=Zlr h1 i p hp
     rwa [Nat.zero_add]at this
    | succ j =>
     obtain⟨m,h2,h3⟩:=ZJn h j q hq
     refine⟨m,h2,λi p hp hi=>h3 i p (by rw[aAq];exact hp) (by simp;omega)⟩
   ·cases h
theorem Z4i {done:List Nat} {t:Nat}:∀ {es:List Edge} {m:Nat},(ZHc done es m).testBit t=true→m.testBit t=true ∨ ∃ e ∈ es,Region.binds .any e=true∧(t=e.on∨(done.getD e.on 0).testBit t=true)
 | [],_,h=>.inl h
 | e :: r,m,h=>by
  simp only[ZHc]at h
  split at h
  ·rename_i hb
   rcases Z4i h with h | ⟨e',he,h1,h2⟩
   ·have h:((m ||| 2^e.on) ||| done.getD e.on 0).testBit t=true:=h
    rw[Nat.testBit_or,Nat.testBit_or,Nat.testBit_two_pow,Bool.or_eq_true,Bool.or_eq_true]at h
    rcases h with (h | h) | h
    ·exact .inl h
    ·exact .inr ⟨e,by simp,hb,.inl (by simpa using (of_decide_eq_true h).symm)⟩
    ·exact .inr ⟨e,by simp,hb,.inr h⟩
   ·exact .inr ⟨e',by simp[he],h1,h2⟩
  ·rcases Z4i h with h | ⟨e',he,h1,h2⟩
   ·exact .inl h
   ·exact .inr ⟨e',by simp[he],h1,h2⟩
theorem Zys:∀ {os:List Oper} {done:List Nat} {j:Nat} {m:Nat},done[j]? = some m→(ZWa os done)[j]? = some m
 | [],_,_,_,h=>h
 | o :: os,done,j,m,h=>Zys (os:=os) (by rw[List.getElem?_append_left (List.getElem?_eq_some_iff.1 h).1];exact h)
theorem Zrg {S:Nat→Prop}:∀ {os:List Oper} {done:List Nat},(∀ j o,os[j]? = some o→S (done.length+j)→∀ e ∈ o.after,Region.binds .any e=true→S e.on)→(∀ j m,done[j]? = some m→S j→∀ i,m.testBit i=true→S i) →
  ∀ j o m,os[j]? = some o→(ZWa os done)[done.length+j]? = some m→(∀ e ∈ o.after,Region.binds .any e=true→S e.on)→∀ i,m.testBit i=true→S i
 | [],_,_,_,_,_,_,h,_,_,_,_=>by cases h
 | o0 :: os,done,hc,hd,j,o,m,ho,hm,he,i,hi=>by
  have key:(∀ e ∈ o0.after,Region.binds .any e=true→S e.on)→∀ i,(ZHc done o0.after.toList 0).testBit i=true→S i:=λhe i hi=>by
   rcases Z4i hi with h | ⟨e,h1,h2,h3⟩
   ·simp at h
   ·have hS:=he e (by simpa using h1) h2
    rcases h3 with h3 | h3
    ·subst h3;exact hS
    ·cases hg:done[e.on]? with
     | none=>rw[List.getD_eq_getElem?_getD,hg]at h3;simp at h3
     | some x=>rw[List.getD_eq_getElem?_getD,hg]at h3;exact hd _ x hg hS i h3
  simp only[ZWa]at hm
  cases j with
  | zero =>
   cases ho
   rw[Nat.add_zero]at hm
   have:(ZWa os (done++[ZHc done o0.after.toList 0]))[done.length]? = some (ZHc done o0.after.toList 0):=Zys (by simp)
   rw[this]at hm;cases hm
   exact key he i hi
  | succ j =>
   refine Zrg (os:=os) (done:=done++[ZHc done o0.after.toList 0]) (λj' o' ho' hS=>hc (j'+1) o' ho' (by rw[lAq,List.length_singleton]at hS;rwa [← Nat.add_assoc,Nat.add_right_comm])) (λj' m' hm' hS=>?_) j o m ho (by rw[lAq,List.length_singleton,Nat.add_right_comm];exact hm) he i hi
   rcases Nat.lt_or_ge j' done.length with h | h
   ·rw[List.getElem?_append_left h]at hm';exact hd j' m' hm' hS
   ·rw[List.getElem?_append_right h]at hm'
    cases hj:j'-done.length with
    | zero =>
     rw[hj]at hm';cases hm'
     refine key (hc 0 o0 rfl ?_)
     rwa [Nat.add_zero,show done.length=j' by omega]
    | succ k=>rw[hj]at hm';cases hm'
theorem ZKs:∀ {os:List Oper} {i0:Nat},ZVd i0 os=true→∀ i o,os[i]? = some o→∀ e ∈ o.after,Region.binds .any e=true→e.on<i0+i
 | [],_,_,_,_,h,_,_,_=>by cases h
 | o0 :: os,i0,h,i,o,ho,e,he,hb=>by
  simp only[ZVd]at h
  split at h
  ·rename_i h1
   cases i with
   | zero =>
    cases ho
    have:∀ {es:List Edge},Zji i0 es=true→∀ e ∈ es,Region.binds .any e=true→e.on<i0:=by
     intro es
     induction es with
     | nil=>intro _ e h;cases h
     | cons x r ih =>
      intro h e he hb;simp only[Zji]at h;split at h
      ·split at h
       ·rename_i hlt;rcases List.mem_cons.1 he with rfl | he
        ·exact lBq hlt
        ·exact ih h e he hb
       ·cases h
      ·rename_i hx;rcases List.mem_cons.1 he with rfl | he
       ·rw[hb]at hx;cases hx
       ·exact ih h e he hb
    exact this h1 e (by simpa using he) hb
   | succ i=>have:=ZKs h i o ho e he hb;omega
  ·cases h
section
variable {P:Program} {K:Nat} {w0:Base} {v0:Zb} {σ:List (Nat×Value)} {ℓ:List Loc} {v:Zb} {a:Act} {w:World} {ops:Array Oper} {Q:Exit→Act→World→Prop} {rest:List Oper}
end
end Go.Eng
namespace Go.Eng
open Go.RowKit
section
variable {N:Nat} {G:V→Value→Prop} {w0:Base} {v0:Zb}
theorem F2_perm {R:En LV→List Loc→Prop} {l l2:Lo} (hp:l.Perm l2):∀ {E:List (List Loc)},F2 R l E→∃ E2,F2 R l2 E2∧E.flatten.Perm E2.flatten:=by
 induction hp with
 | nil=>intro E h;exact⟨E,h,List.Perm.refl _⟩
 | cons x _ ih =>
  intro E h
  cases E with
  | nil=>exact h.elim
  | cons es E =>
   obtain⟨E2,h1,h2⟩:=ih h.2;exact⟨es :: E2,⟨h.1,h1⟩,by simp only[List.flatten_cons];exact List.Perm.append_left _ h2⟩
 | swap x y l =>
  intro E h
  cases E with
  | nil=>exact h.elim
  | cons es E =>
   cases E with
   | nil=>exact h.2.elim
   | cons es2 E =>
    refine⟨es2 :: es :: E,⟨h.2.1,h.1,h.2.2⟩,?_⟩;simp only[List.flatten_cons];rw[← aAq,← aAq];exact List.Perm.append_right _ List.perm_append_comm
 | trans _ _ i1 i2 =>
  intro E h;obtain⟨E2,h1,h2⟩:=i1 h;obtain⟨E3,h3,h4⟩:=i2 h1;exact⟨E3,h3,h2.trans h4⟩
theorem Zpc {l:Lo} (hn:(l.map En.k).Nodup) {e:En LV} (h:e ∈ l):lkE l e.k=some e:=by
 induction l with
 | nil=>cases h
 | cons p r ih =>
  simp only[List.map_cons,List.nodup_cons]at hn;rw[ZE];rcases List.mem_cons.1 h with rfl | h
  ·rw[iP rfl]
  ·rw[iN λe2=>hn.1 (List.mem_map.2 ⟨e,h,Eq.symm e2⟩)];exact ih hn.2 h
theorem ZGo {l:Lo} (hn:(l.map En.k).Nodup):l.Nodup:=by
 induction l with
 | nil=>exact List.nodup_nil
 | cons p r ih =>
  simp only[List.map_cons,List.nodup_cons]at hn;exact List.nodup_cons.2 ⟨λh=>hn.1 (List.mem_map.2 ⟨p,h,rfl⟩),ih hn.2⟩
theorem ZPv {l l2:Lo} (hn:(l.map En.k).Nodup) (hn2:(l2.map En.k).Nodup) (h:∀ u,lkE l u=lkE l2 u):l.Perm l2:=by
 refine (List.perm_ext_iff_of_nodup (ZGo hn) (ZGo hn2)).2 λe=>⟨λhe=>?_,λhe=>?_⟩
 ·have:=Zpc hn he;rw[h]at this;exact (Zl this).1
 ·have:=Zpc hn2 he;rw[← h]at this;exact (Zl this).1
theorem RelX.look {U X:Nat→Prop} {f f2:Fr} {l l2:Lo} {a:Act} {w:World} {γ:Nat→Gh} {v:Zb} {ℓ:List Loc} (h:RelX N G w0 v0 U X f l a w γ v ℓ) (hn2:(l2.map En.k).Nodup) (hf:∀ t,lkE f2 t=lkE f t) (hl:∀ u,lkE l2 u=lkE l u):RelX N G w0 v0 U X f2 l2 a w γ v ℓ:=by
 obtain⟨E,hE,hp⟩:=h.lr;have hle:Le U v γ l v γ l2:=by
  have:=Le.refl (U:=U) hE (Zb.le_refl v);exact⟨Zb.le_refl _,λu e' hk he=>this.l u e' hk (by rw[← hl];exact he)⟩
 have hpl:=ZPv h.nd hn2 λu=>(hl u).symm;obtain⟨E2,h1,h2⟩:=F2_perm hpl hE;refine⟨h.st,λt e he=>?_,⟨E2,h1.imp λe he es hr=>?_,hp.trans h2⟩,hn2,λt e he=>h.uf t e ((hf t) ▸ he),λe he=>h.ul e (hpl.mem_iff.2 he),λx y hg=>⟨Z6a hle (h.gh x y hg).2 (h.gh x y hg).1,(h.gh x y hg).2⟩⟩
 ·have he':=(hf t) ▸ he;exact Z6a hle (h.uf t e he').1 (h.fr t e he')
 ·exact ZYg hle (h.ul e (hpl.mem_iff.2 he)).2.2 rfl hr
end
end Go.Eng
namespace Go.Eng
open Go.RowKit
section
variable {N:Nat} {G:V→Value→Prop} {w0:Base} {v0:Zb}
theorem Rel.draw {U:Nat→Prop} {f:Fr} {l:Lo} {a:Act} {w:World} (h:Rel N G w0 v0 U f l a w):Rel N G w0 v0 U f l a w.drew:=by
 obtain⟨γ,v,ℓ,h⟩:=h;exact⟨γ,v,ℓ,h.st.drew,h.fr,h.lr,h.nd,h.uf,h.ul,h.gh⟩
def sel (listed:Array Bool):Nat→Bool:=λj=>listed.getD j false
def UE (n:Nat) (listed:Array Bool):Nat→Prop:=λk=>k<n ∨ ∃ j,listed.getD j false=true∧k=n+j
structure Inv (N:Nat) (G:V→Value→Prop) (w0:Base) (v0:Zb) (ops:Array Oper) (Ts:List (List Et)) (f:Fr) (l:Lo) (n:Nat) (listed:Array Bool) (a:Act) (w:World):Prop where
 size:listed.size=ops.size
 closed:∀ (j:Nat) (o:Oper),ops[j]? = some o→listed.getD j false=true→∀ e ∈ o.after,Region.binds .any e=true→listed.getD e.on false=true
 rel:∃ f1 l1,Rel N G w0 v0 (UE n listed) f1 l1 a w∧(∀ t,lkE f1 t=Zsa Z3a (sel listed) Ts 0 (lkE f t) t)∧∀ t,lkE l1 t=Zsa Zqa (sel listed) Ts 0 (lkE l t) t
theorem Z3i {ops:Array Oper} (hb:ZVd 0 ops.toList=true) {listed:Array Bool} (hs:listed.size=ops.size):∀ (n j:Nat),j<n→j<ops.size→listed.getD j true=false→Region.ready .any ops listed≠[]
 | 0,j,h,_,_=>by omega
 | n+1,j,h,hj,hl=>by
  intro h0
  by_cases hp:∃ e ∈ (ops[j]).after,Region.binds .any e=true∧listed.getD e.on false=false
  ·obtain⟨e,he,hbb,hn⟩:=hp
   have hlt:=ZKs hb j ops[j] (by simp[hj]) e he hbb
   refine Z3i hb hs n e.on (by omega) (by omega) ?_ h0
   rw[ZIb (by omega)];exact hn
  ·have:j ∈ Region.ready .any ops listed:=mem_ready.2 ⟨hl,ops[j],by simp[hj],λe he hb=>by
    cases hx:listed.getD e.on false with
    | true=>rfl
    | false=>exact absurd ⟨e,he,hb,hx⟩ hp⟩
   rw[h0]at this;cases this
theorem ZTu {C:Cf} (hC:CfOK C) {ops:Array Oper} {Ts:List (List Et)} {f:Fr} {l:Lo} {n:Nat} {Q:Exit→Act→World→Prop} (hb:ZVd 0 ops.toList=true) (hds:∀ o ∈ ops.toList,∀ k,o.dst=some k→k<N) (hl:Ts.length=ops.toList.length)
  (hn:(l.map En.k).Nodup) (hok:okTs Ts f l) (htr:∀ i o τ,ops.toList[i]? = some o→Ts[i]? = some τ→Tr (n+i) (gop C ops.toList (n+i) o) τ ()) (hch:Z0d [] (ZWa ops.toList []) (Ts.map λτ=>fpT τ Fp.no)=true)
  (hQ:∀ a' w',Rel N G w0 v0 (· < n+ops.toList.length) (ZFe Ts f) (Zle Ts l) a' w'→Q .normal a' w'):∀ (fuel:Nat) (listed:Array Bool) (a:Act) (w:World),left listed=fuel→Inv N G w0 v0 ops Ts f l n listed a w→wpAny C.P .any ops Q fuel listed a w:=by
 have ord:∀ (i j:Nat) (τ σ:List Et),i<j→Ts[i]? = some τ→Ts[j]? = some σ→∃ m,(ZWa ops.toList [])[j]? = some m∧(m.testBit i=true∨Apart τ σ):=by
  intro i j τ σ hij hτ hσ;obtain⟨m,h1,h2⟩:=ZJn hch j (fpT σ Fp.no) (by simp[hσ]);refine⟨m,h1,(h2 i (fpT τ Fp.no) (by simp[hτ]) (by simpa using hij)).imp_right ZMr⟩
 have opAt:∀ (j:Nat) (σ:List Et),Ts[j]? = some σ→∃ o,ops[j]? = some o:=λj σ h=>by
  have:=(List.getElem?_eq_some_iff.1 h).1;rw[hl]at this;exact⟨ops[j]'(by simpa using this),by simp⟩
 intro fuel
 induction fuel with
 | zero =>
  intro listed a w hfu hI;have hall:∀ j,listed.getD j true=true:=λj=>Z8l hfu;refine⟨?_,?_⟩
  ·cases hx:Region.ready .any ops listed with
   | nil=>rfl
   | cons p r =>
    obtain⟨h1,_⟩:=mem_ready.1 (show p ∈ Region.ready .any ops listed by rw[hx];simp);rw[hall p]at h1;cases h1
  ·obtain⟨f1,l1,⟨γ,v,ℓ,h1⟩,h2,h3⟩:=hI.rel;obtain⟨k1,k2,k3⟩:=ZBn (b:=0) hok hn;have hsel:∀ (j:Nat) (σ:List Et),Ts[j]? = some σ→sel listed (0+j)=true:=λj σ h=>by
    obtain⟨o,ho⟩:=opAt j σ h;rw[Nat.zero_add];show listed.getD j false=true;rw[← ZIb (by rw[hI.size];exact ZWd ho)];exact hall j
   refine hQ a w ⟨γ,v,ℓ,(h1.look k1 (λt=>?_) λt=>?_).mono (λk hk=>?_) λk hk=>?_⟩
   ·rw[k2 t,h2 t];exact (Zke λj σ hj _=>(hsel j σ hj)).symm
   ·rw[k3 t,h3 t];exact (Zke λj σ hj _=>(hsel j σ hj)).symm
   all_goals
    rcases hk with hk | ⟨j,hj,rfl⟩
    ·omega
    ·have:j<listed.size:=by
      rcases Nat.lt_or_ge j listed.size with h | h
      ·exact h
      ·simp[Array.getElem?_eq_none h]at hj
     rw[hI.size]at this;simp;omega
 | succ fuel ih =>
  intro listed a w hfu hI;refine⟨λh0=>?_,λi hi=>?_⟩
  ·obtain⟨j,hj,hj2⟩:=ZZm (listed:=listed) (by omega);exact absurd h0 (Z3i hb hI.size (j+1) j (by omega) (by rw[← hI.size];exact hj) hj2)
  ·obtain⟨hun,o,ho,hall⟩:=mem_ready.1 hi;have hil:i<listed.size:=by rw[hI.size];exact ZWd ho
   have hunf:listed.getD i false=false:=by rw[← ZIb hil];exact hun
   have ho':ops.toList[i]? = some o:=by rw[Array.getElem?_toList];exact ho
   have hlt:i<Ts.length:=by rw[hl];exact (List.getElem?_eq_some_iff.1 ho').1
   have hτ:Ts[i]? = some Ts[i]:=List.getElem?_eq_getElem hlt;generalize hg:Ts[i]=τ at hτ;obtain⟨fi,li,b1,b2,b3,b4⟩:=ZFl (b:=0) hok hn hτ;obtain⟨f1,l1,⟨γ,v,ℓ,h1⟩,h2,h3⟩:=hI.rel;have befo:∀ (j:Nat) (σ:List Et),j<i→Ts[j]? = some σ→listed.getD j false=true∨Apart σ τ:=by
    intro j σ hj hσ;obtain⟨m,q1,q2⟩:=ord j i σ τ hj hσ hτ;refine q2.imp_left λhbit=>?_;refine Zrg (S:=λk=>listed.getD k false=true) (done:=[]) (λj' o' ho' hS=>hI.closed j' o' (by rw[← Array.getElem?_toList];exact ho') (by simpa using hS)) (λj' m' hm'=>by simp at hm') i o m ho' (by simpa using q1) hall j hbit
   have afte:∀ (j:Nat) (σ:List Et),i<j→Ts[j]? = some σ→listed.getD j false=false∨Apart τ σ:=by
    intro j σ hj hσ;obtain⟨m,q1,q2⟩:=ord i j τ σ hj hτ hσ;refine q2.imp_left λhbit=>?_
    cases hx:listed.getD j false with
    | false=>rfl
    | true =>
     obtain⟨oj,hoj⟩:=opAt j σ hσ;have:=Zrg (S:=λk=>listed.getD k false=true) (done:=[]) (λj' o' ho' hS=>hI.closed j' o' (by rw[← Array.getElem?_toList];exact ho') (by simpa using hS)) (λj' m' hm'=>by simp at hm') j oj m (by rw[Array.getElem?_toList];exact hoj) (by simpa using q1) (hI.closed j oj hoj hx) i hbit;rw[hunf]at this;cases this
   have same:∀ {β:Type} (eff:List Et→Nat→Option β) (P:Nat→Prop) (acc:β) (t:Nat),P t→(∀ σ,Apart σ τ→P t→eff σ t≠none→False)→(∀ σ,Apart τ σ→P t→eff σ t≠none→False)→Zsa eff (λj=>decide (j<0+i)) Ts 0 acc t=Zsa eff (sel listed) Ts 0 acc t:=by
    intro β eff P acc t hP hA hB;refine Zke λj σ hj hne=>?_;simp only[Nat.zero_add];rcases Nat.lt_trichotomy j i with h | h | h
    ·rcases befo j σ h hj with q | q
     ·rw[dTq h];exact q.symm
     ·exact (hA σ q hP hne).elim
    ·subst h;rw[dFq (Nat.lt_irrefl _)];exact hunf.symm
    ·rcases afte j σ h hj with q | q
     ·rw[dFq (by omega)];exact q.symm
     ·exact (hB σ q hP hne).elim
   have okτ:okT τ f1 l1:=by
    refine Zfe b2 h1.nd b1 (λt ht=>?_) λt ht=>?_
    ·rw[b3 t,h2 t];exact same Z3a (rdS τ) _ t ht (λσ q hp hne=>q.s1 t hne hp) λσ q hp hne=>q.s3 t hp hne
    ·rw[b4 t,h3 t];exact same Zqa (rdL τ) _ t ht (λσ q hp hne=>q.l1 t hne hp) λσ q hp hne=>q.l3 t hp hne
   have hruns:=Z2m (htr i o τ ho' hτ) okτ;have hnU:¬ UE n listed (n+i):=by
    rintro (h | ⟨j,hj,e⟩)
    ·omega
    ·have:i=j:=by omega
     subst this;rw[hunf]at hj;cases hj
   have selS:∀ j,sel (listed.setIfInBounds i true) j=if i=j then true else sel listed j:=λj=>by
    by_cases h:i=j
    ·subst h;rw[iP rfl];exact ZCb hil
    ·rw[iN h];exact ZNa h
   have hUE:∀ k,UE n listed k→UE n (listed.setIfInBounds i true) k:=by
    rintro k (h | ⟨j,hj,e⟩)
    ·exact .inl h
    ·refine .inr ⟨j,?_,e⟩;have:=selS j;unfold sel at this;rw[this,hj];split <;> rfl
   have hXi:UE n (listed.setIfInBounds i true) (n+i):=.inr ⟨i,ZCb hil,rfl⟩;have hgg:=Zbl (X:=UE n (listed.setIfInBounds i true)) hC (h1.mono (λ_ h=>h) hUE) hUE hXi hnU hds (hds o (mG ho')) hruns;have upd:∀ {β:Type} (eff:List Et→Nat→Option β) (acc:β) (t:Nat),(∀ σ,Apart τ σ→eff τ t≠none→eff σ t≠none→False)→Zsa eff (sel (listed.setIfInBounds i true)) Ts 0 acc t=(eff τ t).getD (Zsa eff (sel listed) Ts 0 acc t):=by
    intro β eff acc t hA
    cases he:eff τ t with
    | none =>
     refine Zke λj σ hj hne=>?_;rw[Nat.zero_add,selS j,iN];intro e;subst e;rw[hτ]at hj;cases hj;exact hne he
    | some z =>
     refine Zvl (k:=i) hτ (by rw[Nat.zero_add,selS i,iP rfl]) he λj σ hij hσ hs=>?_;rw[Nat.zero_add,selS j,iN (by omega)]at hs;rcases afte j σ hij hσ with q | q
     ·rw[show sel listed j=false from q]at hs;cases hs
     ·cases hx:eff σ t with
      | none=>rfl
      | some y=>exact (hA σ q (by rw[he];exact λe=>by cases e) (by rw[hx];exact λe=>by cases e)).elim
   have nxt:∀ f' l' a' w',((()=()∧f'=Z6b τ f1∧l'=ZZb τ l1)∧True)→Rel N G w0 v0 (UE n (listed.setIfInBounds i true)) f' l' a' w'→wpAny C.P .any ops Q fuel (listed.setIfInBounds i true) a' w':=by
    rintro f' l' a' w' ⟨⟨_,rfl,rfl⟩,_⟩ hr;refine ih _ _ _ (by have:=ZRh hun;omega) ⟨by simp[hI.size],λj oj hj hlj e he hbb=>?_,_,_,hr,λt=>?_,λt=>?_⟩
    ·have hj2:=selS e.on;have hj3:=selS j;unfold sel at hj2 hj3;rw[hj2];split
     ·rfl
     ·rw[hj3]at hlj;split at hlj
      ·rename_i hij;subst hij;rw[ho]at hj;cases hj;exact hall e he hbb
      ·exact hI.closed j oj hj hlj e he hbb
    ·rw[ZPc okτ,h2 t];exact (upd Z3a _ t λσ q hp hne=>q.s2 t hp hne).symm
    ·rw[(ZDc h1.nd okτ).2 t,h3 t];exact (upd Zqa _ t λσ q hp hne=>q.l2 t hp hne).symm
   unfold wpOp;rw[ho];rcases hgg with ⟨hw,hg⟩ | ⟨hw,f',l',q1,q2⟩
   ·simp only[hw,if_true];exact .inl (Zdj rfl hg λx w' ⟨f',l',q1,q2⟩=>nxt f' l' _ w' ⟨⟨rfl,q1.2⟩,trivial⟩ q2)
   ·simp only[hw];exact nxt f' l' _ w ⟨⟨rfl,q1.2⟩,trivial⟩ q2
end
end Go.Eng
namespace Go.Eng
open Go.RowKit
section
variable {N:Nat} {G:V→Value→Prop} {w0:Base} {v0:Zb}
theorem ZMt:∀ {os:List Oper} {done:List Nat},(ZWa os done).length=done.length+os.length
 | [],done=>by simp[ZWa]
 | o :: os,done=>by
  simp only[ZWa]
  rw[ZMt]
  simp;omega
theorem Zxo {m:Nat}:∀ {k:Nat},allB m k=true→∀ i,i<k→m.testBit i=true
 | 0,_,_,h=>by omega
 | k+1,h,i,hi=>by
  simp only[allB]at h
  split at h
  ·rename_i hb
   rcases Nat.lt_or_ge i k with h1 | h1
   ·exact Zxo h i h1
   ·rw[show i=k by omega];exact hb
  ·cases h
theorem Z0y {ops:List Oper} {o:Oper} (h:ZUi ops=some o):ops.dropLast++[o]=ops∧o.guard=none∧∀ i,i<ops.dropLast.length→(ZHc (ZWa ops.dropLast []) o.after.toList 0).testBit i=true:=by
 unfold ZUi at h;split at h
 ·cases h
 ·rename_i q hq;split at h
  ·cases h
  ·rename_i hc;split at h
   ·rename_i hb
    cases h
    refine⟨?_,?_,Zxo hb⟩
    ·rcases List.eq_nil_or_concat ops with rfl | ⟨L,b,rfl⟩
     ·cases hq
     ·simp at hq;subst hq;simp
    ·unfold ZUr at hc;split at hc
     ·rename_i hg;exact hg
     ·cases hc
   ·cases h
theorem Zhl {l:Array Bool} {i j:Nat} {b:Bool} (h:¬ j=i):(l.setIfInBounds i true).getD j b=l.getD j b:=by
 simp[Array.getD_eq_getD_getElem?,Array.getElem?_setIfInBounds_ne (Ne.symm h)]
theorem Zmv {C:Cf} (hC:CfOK C) {ops:Array Oper} {ol:Oper} {Ts:List (List Et)} {f:Fr} {l:Lo} {n:Nat} {Q:Exit→Act→World→Prop} (he:ops.toList.dropLast++[ol]=ops.toList) (hg:ol.guard=none) (hanc:∀ i,i<ops.toList.dropLast.length→(ZHc (ZWa ops.toList.dropLast []) ol.after.toList 0).testBit i=true)
  (hb:ZVd 0 ops.toList=true) (hds:∀ o ∈ ops.toList,∀ k,o.dst=some k→k<N) (hl:Ts.length=ops.toList.dropLast.length)
  (hn:(l.map En.k).Nodup) (hok:okTs Ts f l) (htr:∀ i o τ,ops.toList.dropLast[i]? = some o→Ts[i]? = some τ→Tr (n+i) (gop C ops.toList (n+i) o) τ ()) (hch:Z0d [] (ZWa ops.toList.dropLast []) (Ts.map λτ=>fpT τ Fp.no)=true)
  (hQ:∀ a' w',Rel N G w0 v0 (· < n+ops.toList.dropLast.length) (ZFe Ts f) (Zle Ts l) a' w'→wpList C.P ops Q [ol] a' w'):∀ (fuel:Nat) (listed:Array Bool) (a:Act) (w:World),left listed=fuel+1→listed.getD ops.toList.dropLast.length true=false→Inv N G w0 v0 ops Ts f l n listed a w→wpAny C.P .any ops Q (fuel+1) listed a w:=by
 have hsz:ops.size=ops.toList.dropLast.length+1:=by
  have:=congrArg List.length he;simp at this ⊢;omega
 have initAt:∀ {j:Nat} {o:Oper},ops.toList.dropLast[j]? = some o→ops[j]? = some o:=λ{j o} h=>by
  rw[← Array.getElem?_toList,← he,List.getElem?_append_left (List.getElem?_eq_some_iff.1 h).1];exact h
 have lastAt:ops[ops.toList.dropLast.length]? = some ol:=by
  rw[← Array.getElem?_toList]
  conv=>lhs;rw[← he]
  simp
 have ord:∀ (i j:Nat) (τ σ:List Et),i<j→Ts[i]? = some τ→Ts[j]? = some σ→∃ m,(ZWa ops.toList.dropLast [])[j]? = some m∧(m.testBit i=true∨Apart τ σ):=by
  intro i j τ σ hij hτ hσ;obtain⟨m,h1,h2⟩:=ZJn hch j (fpT σ Fp.no) (by simp[hσ]);refine⟨m,h1,(h2 i (fpT τ Fp.no) (by simp[hτ]) (by simpa using hij)).imp_right ZMr⟩
 have opAt:∀ (j:Nat) (σ:List Et),Ts[j]? = some σ→∃ o,ops.toList.dropLast[j]? = some o:=λj σ h=>by
  have:=(List.getElem?_eq_some_iff.1 h).1;rw[hl]at this;exact⟨_,List.getElem?_eq_getElem this⟩
 have hsub:∀ {listed:Array Bool} {a:Act} {w:World},Inv N G w0 v0 ops Ts f l n listed a w→∀ j o,ops.toList.dropLast[j]? = some o→listed.getD (([]:List Nat).length+j) false=true→∀ e ∈ o.after,Region.binds .any e=true→listed.getD e.on false=true:=λhI j o ho hS=>hI.closed j o (initAt ho) (by simpa using hS);intro fuel
 induction fuel with
 | zero =>
  intro listed a w hfu hlast hI;have hll:ops.toList.dropLast.length<listed.size:=by rw[hI.size];omega
  have h0:left (listed.setIfInBounds ops.toList.dropLast.length true)=0:=by have:=ZRh hlast;omega
  have hall':∀ j,(listed.setIfInBounds ops.toList.dropLast.length true).getD j true=true:=λj=>Z8l h0;have hall:∀ j,j≠ops.toList.dropLast.length→j<listed.size→listed.getD j false=true:=λj hj hlt=>by
   have:=hall' j;rw[← ZIb hlt];rw[Zhl hj]at this;exact this
  refine⟨λh0=>?_,λi hi=>?_⟩
  ·exact absurd h0 (Z3i hb hI.size (ops.toList.dropLast.length+1) ops.toList.dropLast.length (by omega) (by omega) hlast)
  ·obtain⟨hun,o,ho,hbef⟩:=mem_ready.1 hi;have hil:i<listed.size:=by rw[hI.size];exact ZWd ho
   have hi2:i=ops.toList.dropLast.length:=by
    rcases Nat.decEq i ops.toList.dropLast.length with h | h
    ·have:=hall i h hil;rw[← ZIb hil,hun]at this;cases this
    ·exact h
   subst hi2;rw[lastAt]at ho
   cases ho
   obtain⟨f1,l1,⟨γ,v,ℓ,h1⟩,h2,h3⟩:=hI.rel;obtain⟨k1,k2,k3⟩:=ZBn (b:=0) hok hn;have hsel:∀ (j:Nat) (σ:List Et),Ts[j]? = some σ→sel listed (0+j)=true:=λj σ h=>by
    have hj:=(List.getElem?_eq_some_iff.1 h).1;rw[hl]at hj;rw[Nat.zero_add];exact hall j (by omega) (by omega)
   have hw:=hQ a w ⟨γ,v,ℓ,(h1.look k1 (λt=>by rw[k2 t,h2 t];exact (Zke λj σ hj _=>(hsel j σ hj).symm)) λt=>by rw[k3 t,h3 t];exact (Zke λj σ hj _=>(hsel j σ hj).symm)).mono (λk hk=>?_) λk hk=>?_⟩
   ·unfold wpOp;rw[lastAt];unfold wpList at hw;have hwt:Region.wanted ol (yielded ops a.tmps)=true:=Z7b hg;simp only[hwt,if_true]at hw ⊢;refine hw.imp_left (Oper.wp_mono λa' w' hq=>⟨?_,hq⟩)
    cases hx:Region.ready .any ops (listed.setIfInBounds ops.toList.dropLast.length true) with
    | nil=>rfl
    | cons p r =>
     obtain⟨h1,_⟩:=mem_ready.1 (show p ∈ Region.ready .any ops (listed.setIfInBounds ops.toList.dropLast.length true) by rw[hx];simp);rw[hall' p]at h1;cases h1
   all_goals
    rcases hk with hk | ⟨j,hj,rfl⟩
    ·omega
    ·have hlt:j<listed.size:=by
      rcases Nat.lt_or_ge j listed.size with h | h
      ·exact h
      ·simp[Array.getElem?_eq_none h]at hj
     have hne:j≠ops.toList.dropLast.length:=λe=>by
      rw[e,← ZIb hll,hlast]at hj;cases hj
     rw[hI.size]at hlt;show n+j<n+_;omega
 | succ fuel ih =>
  intro listed a w hfu hlast hI;refine⟨λh0=>?_,λi hi=>?_⟩
  ·exact absurd h0 (Z3i hb hI.size (ops.toList.dropLast.length+1) ops.toList.dropLast.length (by omega) (by omega) hlast)
  ·obtain⟨hun,o,ho,hall⟩:=mem_ready.1 hi;have hil:i<listed.size:=by rw[hI.size];exact ZWd ho
   have hunf:listed.getD i false=false:=by rw[← ZIb hil];exact hun
   have hne:i≠ops.toList.dropLast.length:=by
    intro e;subst e;rw[lastAt]at ho
    cases ho
    have hbits:∀ j,j<ops.toList.dropLast.length→listed.getD j false=true:=λj hj=>by
     rcases Z4i (hanc j hj) with h | ⟨e,h1,h2,h3⟩
     ·simp at h
     ·have hS:=hall e (by simpa using h1) h2;rcases h3 with h3 | h3
      ·rw[h3];exact hS
      ·cases hg:(ZWa ops.toList.dropLast [])[e.on]? with
       | none=>rw[List.getD_eq_getElem?_getD,hg]at h3;simp at h3
       | some m =>
        rw[List.getD_eq_getElem?_getD,hg]at h3;have hlt:e.on<ops.toList.dropLast.length:=by
         have:=(List.getElem?_eq_some_iff.1 hg).1;rw[ZMt]at this;simpa using this
        have hoe:=List.getElem?_eq_getElem hlt;exact Zrg (S:=λk=>listed.getD k false=true) (done:=[]) (hsub hI) (λj' m' hm'=>by simp at hm') e.on _ m hoe (by simpa using hg) (hI.closed e.on _ (initAt hoe) hS) j h3
    have h0:left (listed.setIfInBounds ops.toList.dropLast.length true)=fuel+1:=by have:=ZRh hlast;omega
    obtain⟨j,hj,hj2⟩:=ZZm (listed:=listed.setIfInBounds ops.toList.dropLast.length true) (by omega);have hjs:j<listed.size:=by simpa using hj
    rcases Nat.decEq j ops.toList.dropLast.length with h | h
    ·have h1:=hbits j (by rw[hI.size]at hjs;omega);rw[← ZIb hjs]at h1;rw[Zhl h,h1]at hj2;cases hj2
    ·subst h;have:(listed.setIfInBounds ops.toList.dropLast.length true).getD ops.toList.dropLast.length true=true:=by simp[hjs]
     rw[this]at hj2;cases hj2
   have hlt0:i<ops.toList.dropLast.length:=by
    rw[hI.size]at hil;omega
   have ho':ops.toList.dropLast[i]? = some o:=by
    have:=List.getElem?_eq_getElem hlt0;rw[this];have h2:=initAt this;rw[ho]at h2;exact h2.symm
   have hlt:i<Ts.length:=by rw[hl];exact (List.getElem?_eq_some_iff.1 ho').1
   have hτ:Ts[i]? = some Ts[i]:=List.getElem?_eq_getElem hlt;generalize hg:Ts[i]=τ at hτ;obtain⟨fi,li,b1,b2,b3,b4⟩:=ZFl (b:=0) hok hn hτ;obtain⟨f1,l1,⟨γ,v,ℓ,h1⟩,h2,h3⟩:=hI.rel;have befo:∀ (j:Nat) (σ:List Et),j<i→Ts[j]? = some σ→listed.getD j false=true∨Apart σ τ:=by
    intro j σ hj hσ;obtain⟨m,q1,q2⟩:=ord j i σ τ hj hσ hτ;refine q2.imp_left λhbit=>?_;refine Zrg (S:=λk=>listed.getD k false=true) (done:=[]) (hsub hI) (λj' m' hm'=>by simp at hm') i o m ho' (by simpa using q1) hall j hbit
   have afte:∀ (j:Nat) (σ:List Et),i<j→Ts[j]? = some σ→listed.getD j false=false∨Apart τ σ:=by
    intro j σ hj hσ;obtain⟨m,q1,q2⟩:=ord i j τ σ hj hτ hσ;refine q2.imp_left λhbit=>?_
    cases hx:listed.getD j false with
    | false=>rfl
    | true =>
     obtain⟨oj,hoj⟩:=opAt j σ hσ;have:=Zrg (S:=λk=>listed.getD k false=true) (done:=[]) (hsub hI) (λj' m' hm'=>by simp at hm') j oj m hoj (by simpa using q1) (hI.closed j oj (initAt hoj) hx) i hbit;rw[hunf]at this;cases this
   have same:∀ {β:Type} (eff:List Et→Nat→Option β) (P:Nat→Prop) (acc:β) (t:Nat),P t→(∀ σ,Apart σ τ→P t→eff σ t≠none→False)→(∀ σ,Apart τ σ→P t→eff σ t≠none→False)→Zsa eff (λj=>decide (j<0+i)) Ts 0 acc t=Zsa eff (sel listed) Ts 0 acc t:=by
    intro β eff P acc t hP hA hB;refine Zke λj σ hj hne=>?_;simp only[Nat.zero_add];rcases Nat.lt_trichotomy j i with h | h | h
    ·rcases befo j σ h hj with q | q
     ·rw[dTq h];exact q.symm
     ·exact (hA σ q hP hne).elim
    ·subst h;rw[dFq (Nat.lt_irrefl _)];exact hunf.symm
    ·rcases afte j σ h hj with q | q
     ·rw[dFq (by omega)];exact q.symm
     ·exact (hB σ q hP hne).elim
   have okτ:okT τ f1 l1:=by
    refine Zfe b2 h1.nd b1 (λt ht=>?_) λt ht=>?_
    ·rw[b3 t,h2 t];exact same Z3a (rdS τ) _ t ht (λσ q hp hne=>q.s1 t hne hp) λσ q hp hne=>q.s3 t hp hne
    ·rw[b4 t,h3 t];exact same Zqa (rdL τ) _ t ht (λσ q hp hne=>q.l1 t hne hp) λσ q hp hne=>q.l3 t hp hne
   have hruns:=Z2m (htr i o τ ho' hτ) okτ;have hnU:¬ UE n listed (n+i):=by
    rintro (h | ⟨j,hj,e⟩)
    ·omega
    ·have:i=j:=by omega
     subst this;rw[hunf]at hj;cases hj
   have selS:∀ j,sel (listed.setIfInBounds i true) j=if i=j then true else sel listed j:=λj=>by
    by_cases h:i=j
    ·subst h;rw[iP rfl];exact ZCb hil
    ·rw[iN h];exact ZNa h
   have hUE:∀ k,UE n listed k→UE n (listed.setIfInBounds i true) k:=by
    rintro k (h | ⟨j,hj,e⟩)
    ·exact .inl h
    ·refine .inr ⟨j,?_,e⟩;have:=selS j;unfold sel at this;rw[this,hj];split <;> rfl
   have hXi:UE n (listed.setIfInBounds i true) (n+i):=.inr ⟨i,ZCb hil,rfl⟩;have hgg:=Zbl (X:=UE n (listed.setIfInBounds i true)) hC (h1.mono (λ_ h=>h) hUE) hUE hXi hnU hds (hds o (by rw[← he];exact List.mem_append_left _ (mG ho'))) hruns;have upd:∀ {β:Type} (eff:List Et→Nat→Option β) (acc:β) (t:Nat),(∀ σ,Apart τ σ→eff τ t≠none→eff σ t≠none→False)→Zsa eff (sel (listed.setIfInBounds i true)) Ts 0 acc t=(eff τ t).getD (Zsa eff (sel listed) Ts 0 acc t):=by
    intro β eff acc t hA
    cases he:eff τ t with
    | none =>
     refine Zke λj σ hj hne=>?_;rw[Nat.zero_add,selS j,iN];intro e;subst e;rw[hτ]at hj;cases hj;exact hne he
    | some z =>
     refine Zvl (k:=i) hτ (by rw[Nat.zero_add,selS i,iP rfl]) he λj σ hij hσ hs=>?_;rw[Nat.zero_add,selS j,iN (by omega)]at hs;rcases afte j σ hij hσ with q | q
     ·rw[show sel listed j=false from q]at hs;cases hs
     ·cases hx:eff σ t with
      | none=>rfl
      | some y=>exact (hA σ q (by rw[he];exact λe=>by cases e) (by rw[hx];exact λe=>by cases e)).elim
   have nxt:∀ f' l' a' w',((()=()∧f'=Z6b τ f1∧l'=ZZb τ l1)∧True)→Rel N G w0 v0 (UE n (listed.setIfInBounds i true)) f' l' a' w'→wpAny C.P .any ops Q (fuel+1) (listed.setIfInBounds i true) a' w':=by
    rintro f' l' a' w' ⟨⟨_,rfl,rfl⟩,_⟩ hr;refine ih _ _ _ (by have:=ZRh hun;omega) (by
     rw[Zhl (Ne.symm hne)];exact hlast) ⟨by simp[hI.size],λj oj hj hlj e he hbb=>?_,_,_,hr,λt=>?_,λt=>?_⟩
    ·have hj2:=selS e.on;have hj3:=selS j;unfold sel at hj2 hj3;rw[hj2];split
     ·rfl
     ·rw[hj3]at hlj;split at hlj
      ·rename_i hij;subst hij;rw[ho]at hj;cases hj;exact hall e he hbb
      ·exact hI.closed j oj hj hlj e he hbb
    ·rw[ZPc okτ,h2 t];exact (upd Z3a _ t λσ q hp hne=>q.s2 t hp hne).symm
    ·rw[(ZDc h1.nd okτ).2 t,h3 t];exact (upd Zqa _ t λσ q hp hne=>q.l2 t hp hne).symm
   unfold wpOp;rw[ho];rcases hgg with ⟨hw,hg⟩ | ⟨hw,f',l',q1,q2⟩
   ·simp only[hw,if_true];exact .inl (Zdj rfl hg λx w' ⟨f',l',q1,q2⟩=>nxt f' l' _ w' ⟨⟨rfl,q1.2⟩,trivial⟩ q2)
   ·simp only[hw];exact nxt f' l' _ w ⟨⟨rfl,q1.2⟩,trivial⟩ q2
end
end Go.Eng
namespace Go.Eng
open Go.RowKit
def Pin (ks:List Nat) (pv:Nat→Value) (a:Act):Prop:=∀ t,Zia ks t=true→a.tmps.getD t undef=pv t
def Pn (ks:List Nat) (pv:Nat→Value) (Q:Exit→Act→World→Prop):Exit→Act→World→Prop:=λe a w=>(e ≠ .outgrown→Pin ks pv a)→Q e a w
theorem Pin.nil {pv:Nat→Value} {a:Act}:Pin [] pv a:=λ_ h=>by cases h
theorem Pin.put {ks:List Nat} {pv:Nat→Value} {a:Act} (h:Pin ks pv a) {o:Oper} (hd:∀ k,o.dst=some k→Zia ks k=false) (y:Value):Pin ks pv (a.put o.dst y):=λt ht=>by
 cases hk:o.dst with
 | none=>exact h t ht
 | some d =>
  have hne:¬ d=t:=λe=>by subst e;rw[hd d hk]at ht;cases ht
  have:(a.put (some d) y).tmps.getD t undef=a.tmps.getD t undef:=by simp[Act.put,Array.getElem?_setIfInBounds_ne hne]
  rw[this];exact h t ht
theorem Pin.defer {ks:List Nat} {pv:Nat→Value} {a:Act} (h:Pin ks pv a) (d:Deferred):Pin ks pv { a with defers:=d :: a.defers }:=h
theorem Zas {P:Program} {ks:List Nat} {pv:Nat→Value} {Q:Exit→Act→World→Prop} {o:Oper} {a:Act} {K K':Act→World→Prop} (hp:Pin ks pv a) (hd:∀ k,o.dst=some k→Zia ks k=false) (hK:∀ a' w',Pin ks pv a'→K a' w'→K' a' w') {r:Result Go.Next} (h:o.upon P a K (Pn ks pv Q) r):o.upon P a K' Q r:=by
 cases r with
 | ok n w' =>
  cases n <;> simp only[Oper.upon]at h ⊢
  case value v=>exact hK _ _ (hp.put hd v) h
  case skip=>exact hK _ _ (hp.put hd _) h
  case defer d=>exact hK _ _ ((hp.defer d).put hd _) h
  case enter f args =>
   refine Calls.mono h λe w'' he=>?_
   cases e with
   | returned v=>exact hK _ _ (hp.put hd v) he
   | panicked c=>exact he λ_=>hp
   | outgrown=>obtain⟨a1,w1,h1⟩:=he;exact⟨a1,w1,h1 λe=>absurd rfl e⟩
  case row row args=>exact Rows.mono h λv w'' he=>hK _ _ (hp.put hd v) he
  all_goals exact h
 | halt x w' =>
  cases x <;> simp only[Oper.upon]at h ⊢
  case panic v=>exact h λ_=>hp
  all_goals exact h
theorem Zhu {ks:List Nat} {pv:Nat→Value} {Q:Exit→Act→World→Prop} (h:LetsOut (Pn ks pv Q)):LetsOut Q:=by
 obtain⟨a1,w1,h1⟩:=h;exact⟨a1,w1,h1 λe=>absurd rfl e⟩
theorem Zyr {P:Program} {ks:List Nat} {pv:Nat→Value} {Q:Exit→Act→World→Prop} {ops:Array Oper}:∀ {os:List Oper} {a:Act} {w:World},(∀ o ∈ os,∀ k,o.dst=some k→Zia ks k=false)→Pin ks pv a→wpList P ops (Pn ks pv Q) os a w→wpList P ops Q os a w
 | [],a,w,_,hp,h=>h λ_=>hp
 | o :: os,a,w,hd,hp,h=>by
  have hd1:=hd o (by simp)
  have ih:∀ a' w',Pin ks pv a'→wpList P ops (Pn ks pv Q) os a' w'→wpList P ops Q os a' w':=λa' w' hp' h'=>Zyr (λo ho=>hd o (by simp[ho])) hp' h'
  unfold wpList at h ⊢
  split
  ·rename_i hw
   simp only[hw,if_true]at h
   rcases h with h | ⟨h1,h2⟩
   ·exact .inl (Zas hp hd1 ih h)
   ·exact .inr ⟨h1,Zhu h2⟩
  ·rename_i hw
   simp only[hw]at h
   exact ih _ _ (hp.put hd1 _) h
theorem ZPi {P:Program} {ks:List Nat} {pv:Nat→Value} {Q:Exit→Act→World→Prop} {ops:Array Oper} (hd:∀ o ∈ ops.toList,∀ k,o.dst=some k→Zia ks k=false):∀ {fuel:Nat} {listed:Array Bool} {a:Act} {w:World},Pin ks pv a→wpAny P .any ops (Pn ks pv Q) fuel listed a w→wpAny P .any ops Q fuel listed a w
 | 0,listed,a,w,hp,h=>⟨h.1,h.2 λ_=>hp⟩
 | fuel+1,listed,a,w,hp,h=>by
  refine⟨λh0=>h.1 h0 λ_=>hp,λi hi=>?_⟩
  have h:=h.2 i hi
  unfold wpOp at h ⊢
  split
  ·rename_i ho
   simp only[ho]at h
   exact ZPi hd hp h
  ·rename_i o ho
   simp only[ho]at h
   have hd1:=hd o (by rw[← Array.getElem?_toList]at ho;exact mG ho)
   split
   ·rename_i hw
    simp only[hw,if_true]at h
    rcases h with h | ⟨h1,h2⟩
    ·exact .inl (Zas hp hd1 (λa' w' hp' h'=>ZPi hd hp' h') h)
    ·exact .inr ⟨h1,Zhu h2⟩
   ·rename_i hw
    simp only[hw]at h
    exact ZPi hd (hp.put hd1 _) h
section
variable {N:Nat} {G:V→Value→Prop} {w0:Base} {v0:Zb}
def ZLd (N:Nat) (G:V→Value→Prop) (w0:Base) (v0:Zb) (n:Nat) (f:Fr) (l:Lo) (p:Fr→Lo→Nat→Prop) (S:Act→World→Prop):Prop :=
 ∀ f' l' n' a' w',p f' l' n'→n≤n'→Old n f l f' l'→Rel N G w0 v0 (· < n') f' l' a' w'→S a' w'
theorem ZLd.step {n n1:Nat} {f f1:Fr} {l l1:Lo} {p:Fr→Lo→Nat→Prop} {S:Act→World→Prop} (h:ZLd N G w0 v0 n f l p S) (hn:n≤n1) (ho:Old n f l f1 l1):ZLd N G w0 v0 n1 f1 l1 p S :=
 λf' l' n' a' w' hp hn' ho' hr=>h f' l' n' a' w' hp (by omega) (ho.trans ho' hn) hr
theorem draw_ok {C:Cf} (hC:CfOK C) {α:Type} {r:α} {id:Nat} {ops:Array Oper} {f:Fr} {l:Lo} {n:Nat} {K:Fr→Lo→Nat→Option α} {Q:Exit→Act→World→Prop} {a:Act} {w:World} (hm:C.P.follows .mixedOrders=true) (hb:ZVd 0 ops.toList=true) (hds:∀ o ∈ ops.toList,∀ k,o.dst=some k→k<N) {ks:List Nat} {pv:Nat→Value} (hks:∀ o ∈ ops.toList,∀ k,o.dst=some k→Zia ks k=false) (hpn:Pin ks pv a)
  (h:(Ztf C ops.toList ops.toList f l n λf l n ps=>match Z0d [] (ZWa ops.toList []) ps with
   | true=>K f l n
   | false=>none)=some r) (hr:Rel N G w0 v0 (· < n) f l a w) (hQ:ZLd N G w0 v0 n f l (λf l n=>K f l n=some r) (Pn ks pv Q .normal)):(Code.region id ops true).wp C.P Q a w:=by
 obtain⟨Ts,h1,h2,h3,h4⟩:=ZNn h;split at h4
 ·rename_i hch;have hn:(l.map En.k).Nodup:=by obtain⟨_,_,_,hr⟩:=hr;exact hr.nd
  refine wp_region_any hm (ZPi hks hpn ?_);have hz:∀ j,(Array.replicate ops.size false).getD j false=false:=λj=>getD_replicate_false _ _;have hl:left (Array.replicate ops.size false)=ops.size:=by simp[left]
  refine ZTu hC (Ts:=Ts) hb hds h1 hn h2 h3 hch (λa' w' hr'=>hQ _ _ _ a' w' h4 (by omega) (Z3n (Nat.le_refl n) h1 h2 hn h3) hr') ops.size _ a w.drew hl ⟨by simp,λj o _ hj=>?_,f,l,?_,λt=>?_,λt=>?_⟩
  ·rw[hz]at hj;cases hj
  ·obtain⟨γ,v,ℓ,hr⟩:=hr.draw;exact⟨γ,v,ℓ,hr.mono (λ_ h=>.inl h) λ_ h=>.inl h⟩
  ·exact (ZQe λj _ _ hs=>by rw[show sel _ _=false from hz _]at hs;cases hs).symm
  ·exact (ZQe λj _ _ hs=>by rw[show sel _ _=false from hz _]at hs;cases hs).symm
 ·cases h4
def Zsf (C:Cf) (cf:CallF):Prop:=∀ {α:Type} {g:FuncId} {ags:V} {l:Lo} {n:Nat} {K:V→Lo→Nat→Option α} {r:α},cf α g ags l n K=some r→∀ {N:Nat} {G:V→Value→Prop} {w0:Base} {v0:Zb} {a:Act} {w:World} {γ:Nat→Gh} {v:Zb} {ℓ:List Loc} {vals:List Value},
 RelX N G w0 v0 (· < n) (· < n) [] l a w γ v ℓ→RR v γ l true ags vals→ags.ok (· < n)→ZL C.P g∧Calls C.P g vals.toArray w λe w'=>∃ y c l' n' γ' v' ℓ',e = .returned y∧K c l' n'=some r∧n≤n'∧(∀ f,Old n f l f l')∧RelX N G w0 v0 (· < n') (· < n') [] l' a w' γ' v' ℓ'∧RV v' γ' l' (Zmd c) y∧(Zmd c).ok (· < n')
theorem ZSo {U X:Nat→Prop} {f:Fr} {l:Lo} {a:Act} {w:World} {γ:Nat→Gh} {v:Zb} {ℓ:List Loc} (hr:RelX N G w0 v0 U X f l a w γ v ℓ):∀ {xs:List Operand} {c:V},Zqk f xs=some c→RR v γ l true c (xs.map a.eval)∧c.ok U
 | [],c,h=>by cases h;exact⟨rfl,trivial⟩
 | x :: xs,c,h=>by
  simp only[Zqk]at h
  split at h
  ·cases h
  ·rename_i V1 c1 hnt h1 h2
   cases h
   obtain⟨q1,q2⟩:=Zqo hr h1
   obtain⟨q3,q4⟩:=ZSo hr h2
   obtain⟨cs,hcs,hqe⟩:=Z1a q1 (λc e=>hnt c (by rw[e]))
   exact⟨⟨cs,_,by rw[List.map_cons,hqe],hcs,q3⟩,q2,q4⟩
  ·cases h
theorem Zup {v:Zb} {γ:Nat→Gh} {l:Lo} {U:Nat→Prop}:∀ {c d:V} {xs ys:List Value},RR v γ l true c xs→RR v γ l true d ys→c.ok U→d.ok U→RR v γ l true (appV c d) (xs++ys)∧(appV c d).ok U
 | .nl,d,xs,ys,h,k,_,kd=>by rw[show xs=[] from h];exact⟨k,kd⟩
 | .cons a b,d,xs,ys,⟨cs,zs,e1,e2,e3⟩,k,kc,kd=>by
  subst e1
  obtain⟨q1,q2⟩:=Zup (c:=b) e3 k kc.2 kd
  exact⟨⟨cs,_,rfl,e2,q1⟩,kc.1,q2⟩
theorem inl1_ok {C:Cf} {cf:CallF} (hcf:Zsf C cf) {α:Type} {r:α} {o:Oper} {g:FuncId} {ags:V} {f0 f:Fr} {l:Lo} {n:Nat} {K:Fr→Lo→Nat→Option α} {a:Act} {w:World} {γ:Nat→Gh} {v:Zb} {ℓ:List Loc} (hi:ZMj C f0 o=some (g,ags)) (h:inl1 cf o g ags f l n K=some r)
  (hr0:RelX N G w0 v0 (· < n) (· < n) f0 l a w γ v ℓ) (hr:RelX N G w0 v0 (· < n) (· < n) f l a w γ v ℓ) (hd:∀ k,o.dst=some k→k<N):Zlb C.P o a w λx w'=>∃ f' l' n',K f' l' n'=some r∧n≤n'∧Old n f l f' l'∧Rel N G w0 v0 (· < n') f' l' (a.put o.dst x) w':=by
 obtain⟨d,op,ty,pos,aft,gd⟩:=o;unfold ZMj at hi;split at hi
 ·rename_i c hop;have hop:op = .call c:=hop;subst hop;obtain⟨callee,args,ats⟩:=c;split at hi
  ·rename_i x hx;have hx:callee = .value x:=hx;subst hx;split at hi
   ·rename_i g' cap hg;split at hi
    ·cases hi
    ·split at hi
     ·rename_i ags' has
      cases hi
      unfold inl1 at h
      cases d with
      | none=>cases h
      | some d =>
       obtain⟨q1,q2⟩:=Zqo hr0 hg;obtain⟨cs,⟨vs,q3,rfl⟩,q4⟩:=q1;have q4:a.eval x = .func (.func g) #[] vs.toArray:=q4;obtain⟨q5,q6⟩:=ZSo hr0 has;obtain⟨q7,q8⟩:=Zup q5 q3 q6 q2;have hlt:∀ k,k<n→k<n+1:=λk h=>by omega
       let G':V→Value→Prop:=λx y=>G x y ∨ ∃ t e,lkE f t=some e∧x=e.x∧y=a.tmps.getD t undef
       have hrG:RelX N G' w0 v0 (· < n+1) (· < n+1) [] l a w γ v ℓ:=by
        have hm:=hr.mono hlt hlt;refine⟨hm.st,λt e he=>(by cases he),hm.lr,hm.nd,λt e he=>(by cases he),hm.ul,λx y hg=>?_⟩;rcases hg with hg | ⟨t,e,h1,rfl,rfl⟩
        ·exact hm.gh x y hg
        ·exact⟨hm.fr t e h1,(hm.uf t e h1).1⟩
       obtain⟨hen,hcalls⟩:=hcf h hrG q7 (V.ok.mono hlt q8);obtain⟨σ,hσ,hev⟩:=hr0.st.evs (x :: args.toList);have hfx:=hev x (by simp);rw[q4]at hfx;have hargs:args.toList.map (ev σ)=(args.toList.map a.eval).map some:=by
        rw[List.map_map];exact List.map_congr_left λy hy=>hev y (by simp[hy])
       have hrun:=ZOu (d:=some d) (ty:=ty) (pos:=pos) (aft:=aft) (g:=gd) (ats:=ats) hσ _ _ hen hfx hargs;refine ZGc hrun (Calls.mono hcalls λe w' ⟨y,c,l',n',γ',v',ℓ',e1,e2,e3,e4,e5,e6,e7⟩=>⟨y,e1,_,l',n',e2,by omega,((e4 f).mono (by omega)).trans (Old.put (Nat.le_refl n)) (Nat.le_refl n),γ',v',ℓ',?_⟩);have hr2:RelX N G w0 v0 (· < n') (· < n') f l' a w' γ' v' ℓ':=by
        refine⟨e5.st,λt e he=>(e5.gh _ _ (.inr ⟨t,e,he,rfl,rfl⟩)).1,e5.lr,e5.nd,λt e he=>⟨(e5.gh _ _ (.inr ⟨t,e,he,rfl,rfl⟩)).2,?_⟩,e5.ul,λx y hg=>e5.gh x y (.inl hg)⟩;have:=(hr.uf t e he).2;show e.st<n';have:e.st<n:=this;omega
       exact hr2.put (hd d rfl) e6 e7 (show n<n' by omega)
     ·cases hi
   ·cases hi
  ·cases hi
 ·cases hi
theorem inlG_ok {C:Cf} {cf:CallF} (hcf:Zsf C cf) {α:Type} {r:α} {ops:Array Oper} {o:Oper} {rest:List Oper} {g:FuncId} {ags:V} {f:Fr} {l:Lo} {n:Nat} {K:Fr→Lo→Nat→Option α} {Q:Exit→Act→World→Prop} {a:Act} {w:World} (hi:ZMj C f o=some (g,ags)) (h:inlG cf ops.toList o g ags f l n K=some r)
  (hr:Rel N G w0 v0 (· < n) f l a w) (hds:∀ o ∈ ops.toList,∀ k,o.dst=some k→k<N) (hd:∀ k,o.dst=some k→k<N) (hQ:ZLd N G w0 v0 n f l (λf l n=>K f l n=some r) λa w=>wpList C.P ops Q rest a w):wpList C.P ops Q (o :: rest) a w:=by
 obtain⟨γ,v,ℓ,hr⟩:=hr;have yes:∀ {f1:Fr},Old n f l f1 l→RelX N G w0 v0 (· < n) (· < n) f1 l a w γ v ℓ→Region.wanted o (yielded ops a.tmps)=true→inl1 cf o g ags f1 l n K=some r→wpList C.P ops Q (o :: rest) a w:=λho hr1 hw h =>
  ZEc hw (Zym (inl1_ok hcf hi h hr hr1 hd) λx w' ⟨f',l',n',e1,e2,e3,e4⟩=>hQ f' l' n' _ w' e1 e2 (ho.trans e3 (Nat.le_refl n)) e4)
 have no:∀ {f1:Fr},Old n f l f1 l→RelX N G w0 v0 (· < n) (· < n) f1 l a w γ v ℓ→Region.wanted o (yielded ops a.tmps)=false→ZLk o f1 l n K=some r→wpList C.P ops Q (o :: rest) a w:=λho hr1 hw h=>by
  have h1:=ZIg (Nat.le_refl n) Old.refl hr1.nd (ZYf h);obtain⟨f',l',⟨q1,q2⟩,q3⟩:=Znj (X:=(· < n+1)) (hr1.mono (λ_ h=>h) λk h=>(show k<n+1 by have:k<n:=h;omega)) (λk h=>(show k<n+1 by have:k<n:=h;omega)) (Nat.lt_succ_self n) hd h1;unfold wpList;rw[iN (by rw[hw];decide)];exact hQ f' l' _ _ w q1 (by omega) (ho.trans q2 (Nat.le_refl n)) q3
 unfold inlG at h;split at h
 ·rename_i hg;exact yes Old.refl hr (Z7b hg) h
 ·rename_i j want hg;split at h
  ·rename_i q hq;split at h
   ·rename_i t ht;have htN:t<N:=hds q (mG hq) t ht;have hgd:(ops[j]?).bind (·.dst)=some t:=by rw[← Array.getElem?_toList,hq];exact ht
    obtain⟨σ,hσ,hev⟩:=hr.st.evs [.tmp t];have hl:look σ t=some (a.tmps.getD t undef):=hev (.tmp t) (by simp);split at h
    ·rename_i ek s b he;have hk:ek=t:=(Zl he).2;subst hk;have h2:a.tmps.getD ek undef = .bool b:=Zcf (hr.fr ek _ he);rw[h2]at hl;have hdup:=RelX.dup hr he;have hold:=Old.dup (m:=n) (l:=l) he
     cases want <;> cases b
     ·exact yes hold hdup (Zgf hσ hg hgd hl htN) h
     ·exact no hold hdup (ZLi hσ hg hgd hl htN) h
     ·exact no hold hdup (ZLi hσ hg hgd hl htN) h
     ·exact yes hold hdup (Zgf hσ hg hgd hl htN) h
    ·rename_i ek s he;have hk:ek=t:=(Zl he).2;subst hk;obtain⟨cs,h1,h2⟩:=hr.fr ek _ he;have h1:cs=[undef]:=h1;subst h1;have h2:a.tmps.getD ek undef=undef:=h2;rw[h2]at hl;exact no Old.refl hr (ZZd hσ hg hgd hl htN) h
    ·cases h
   ·cases h
  ·cases h
theorem Zyk {C:Cf} (hC:CfOK C) {cf:CallF} (hcf:Zsf C cf) {α:Type} {r:α} {ops:Array Oper} {Q:Exit→Act→World→Prop} (hds:∀ o ∈ ops.toList,∀ k,o.dst=some k→k<N) {K:Fr→Lo→Nat→Option α}:∀ {os:List Oper} {f:Fr} {l:Lo} {n:Nat} {a:Act} {w:World},iops C cf ops.toList os f l n K=some r→(∀ o ∈ os,o ∈ ops.toList) →
  Rel N G w0 v0 (· < n) f l a w→ZLd N G w0 v0 n f l (λf l n=>K f l n=some r) (Q .normal)→wpList C.P ops Q os a w
 | [],f,l,n,a,w,h,_,hr,hQ=>hQ f l n a w h (Nat.le_refl n) Old.refl hr
 | o :: os,f,l,n,a,w,h,hos,hr,hQ=>by
  have hd:=hds o (hos o (by simp))
  simp only[iops]at h
  split at h
  ·obtain⟨γ,v,ℓ,hr⟩:=hr
   have h1:=ZIg (Nat.le_refl n) Old.refl hr.nd (ZYf h)
   refine (Zbl hC (X:=(· < n+1)) (hr.mono (λ_ h=>h) λk h=>(show k<n+1 by have:k<n:=h;omega)) (λk h=>(show k<n+1 by have:k<n:=h;omega)) (Nat.lt_succ_self n) (Nat.lt_irrefl n) hds hd h1).list λf' l' a' w' ⟨q1,q2⟩ q3=>?_
   exact Zyk hC hcf hds q1 (λo ho=>hos o (by simp[ho])) q3 (hQ.step (by omega) q2)
  ·rename_i g ags hi
   refine inlG_ok hcf hi h hr hds hd λf' l' n' a' w' q1 q2 q3 q4=>?_
   exact Zyk hC hcf hds q1 (λo ho=>hos o (by simp[ho])) q4 (hQ.step q2 q3)
theorem ZBy {C:Cf} (hC:CfOK C) {cf:CallF} (hcf:Zsf C cf) {α:Type} {r:α} {id:Nat} {ops:Array Oper} {o:Oper} {f:Fr} {l:Lo} {n:Nat} {K:Fr→Lo→Nat→Option α} {Q:Exit→Act→World→Prop} {a:Act} {w:World} (ho:ZUi ops.toList=some o) (hm:C.P.follows .mixedOrders=true) (hb:ZVd 0 ops.toList=true) (hds:∀ o ∈ ops.toList,∀ k,o.dst=some k→k<N) {ks:List Nat} {pv:Nat→Value} (hks:∀ o ∈ ops.toList,∀ k,o.dst=some k→Zia ks k=false) (hpn:Pin ks pv a)
  (h:(Ztf C ops.toList ops.toList.dropLast f l n λf l n ps=>match Z0d [] (ZWa ops.toList.dropLast []) ps with
   | true=>iops C cf ops.toList [o] f l n K
   | false=>none)=some r) (hr:Rel N G w0 v0 (· < n) f l a w) (hQ:ZLd N G w0 v0 n f l (λf l n=>K f l n=some r) (Pn ks pv Q .normal)):(Code.region id ops true).wp C.P Q a w:=by
 obtain⟨Ts,h1,h2,h3,h4⟩:=ZNn h;obtain⟨he,hg,hanc⟩:=Z0y ho;split at h4
 ·rename_i hch;have hn:(l.map En.k).Nodup:=by obtain⟨_,_,_,hr⟩:=hr;exact hr.nd
  have hsz:ops.size=ops.toList.dropLast.length+1:=by
   have:=congrArg List.length he;simp at this ⊢;omega
  have hin:∀ o ∈ ops.toList.dropLast,o ∈ ops.toList:=λo ho=>by rw[← he];exact List.mem_append_left _ ho
  have hol:o ∈ ops.toList:=by rw[← he];simp
  refine wp_region_any hm (ZPi hks hpn ?_);have hz:∀ j,(Array.replicate ops.size false).getD j false=false:=λj=>getD_replicate_false _ _;have hl:left (Array.replicate ops.size false)=ops.toList.dropLast.length+1:=by rw[← hsz];simp[left]
  have key:=Zmv (G:=G) (w0:=w0) (v0:=v0) (Q:=Pn ks pv Q) hC (Ts:=Ts) he hg hanc hb hds h1 hn h2 h3 hch (λa' w' hr'=>?_) ops.toList.dropLast.length (Array.replicate ops.size false) a w.drew hl ?_ ⟨by simp,λj o _ hj=>?_,f,l,?_,λt=>?_,λt=>?_⟩
  ·rw[← hsz]at key;exact key
  ·have hold:=Z3n (Nat.le_refl n) h1 h2 hn h3;exact Zyk hC hcf hds h4 (λo' ho'=>by rcases List.mem_singleton.1 ho' with rfl;exact hol) hr' (hQ.step (by omega) hold)
  ·rw[ZIb (by rw[Array.size_replicate];omega)];exact hz _
  ·rw[hz]at hj;cases hj
  ·obtain⟨γ,v,ℓ,hr⟩:=hr.draw;exact⟨γ,v,ℓ,hr.mono (λ_ h=>.inl h) λ_ h=>.inl h⟩
  ·exact (ZQe λj _ _ hs=>by rw[show sel _ _=false from hz _]at hs;cases hs).symm
  ·exact (ZQe λj _ _ hs=>by rw[show sel _ _=false from hz _]at hs;cases hs).symm
 ·cases h4
theorem ZQn {K:Nat} {ks:List Nat}:∀ {os:List Oper},ZTg K ks os=true→∀ o ∈ os,∀ k,o.dst=some k→k<K∧Zia ks k=false
 | [],_,_,h,_,_=>by cases h
 | o :: os,h,o',ho',k,hk=>by
  simp only[ZTg]at h
  rcases List.mem_cons.1 ho' with rfl | ho'
  ·rw[hk]at h
   simp only at h
   split at h
   ·rename_i hb hm;exact⟨lBq hb,hm⟩
   ·cases h
  ·have h':ZTg K ks os=true:=by
    split at h
    ·split at h
     ·exact h
     ·cases h
    ·exact h
   exact ZQn h' o' ho' k hk
end
end Go.Eng
namespace Go.Eng
open Go.RowKit
theorem Z6f {x:V} {c:CT} {cs:List Value} (h:x.isAgg=c.isAgg):x.val cs=c.vl cs:=by
 unfold V.val CT.vl;rw[h]
 cases c.isAgg <;> rfl
theorem Zxn {v v':Zb} (h:v.le v'):∀ {c:CT} {m:Bool} {x:c.den} {cs:List Value} {es:List Loc},CR v c m x cs es→CR v' c m x cs es:=by
 intro c
 induction c with
 | dat t=>intro m x cs es k;cases m <;> first | exact⟨Rep.mono _ h k.1,k.2⟩ | exact k
 | own ty t =>
  intro m x cs es k;cases m
  ·obtain⟨ob,cap,d,h1,h2,h3⟩:=k;exact⟨ob,cap,d,h1,ZO h h2,h3⟩
  ·exact k
 | mat ty ty2 t =>
  intro m x cs es k;cases m
  ·obtain⟨ob,cap,rows,es2,h1,h2,h3⟩:=k;exact⟨ob,cap,rows,es2,h1,Zvc h h2,h3⟩
  ·exact k
 | nl=>intro m x cs es k;cases m <;> exact k
 | one a ih =>
  intro m x cs es k;cases m
  ·exact ih (m:=false) k
  ·obtain⟨c,h1,h2⟩:=k;exact⟨c,h1,ih h2⟩
 | cons a b ia ib =>
  intro m x cs es k;cases m
  ·obtain⟨c1,c2,e1,e2,h1,h2,h3,h4⟩:=k;exact⟨c1,c2,e1,e2,h1,h2,ia h3,ib h4⟩
  ·obtain⟨c1,c2,e1,e2,h1,h2,h3,h4⟩:=k;exact⟨c1,c2,e1,e2,h1,h2,ia h3,ib h4⟩
 | agg c ih=>intro m x cs es k;cases m <;> first | exact ih (m:=false) k | exact k
 | box ty c ih =>
  intro m x cs es k;cases m
  ·obtain⟨b,c1,e1,h1,h2,h3,h4⟩:=k;exact⟨b,c1,e1,h1,ih h2,h3,h4⟩
  ·exact k
theorem Zwd {α:Type} {ex es r:List α}:(ex++(es++r)).Perm (es++(ex++r)):=by
 rw[← aAq,← aAq];exact List.Perm.append_right _ List.perm_append_comm
section
variable {N:Nat} {G:V→Value→Prop} {w0:Base} {v0:Zb} {U X:Nat→Prop} {f:Fr} {a:Act} {w:World} {n:Nat}
theorem ZJw {ρ:Type} {g:Nat} {t:T} {x:V} {k:t.den→Ev ρ} {l:Lo} {Post:ρ→Fr→Lo→Prop} {v:Zb} {γ:Nat→Gh} {m:Bool} {cs:List Value} (h:Zj n (conv g t x k) f l Post) (hr:RR v γ l m x cs):m=false:=by
 cases m with
 | false=>rfl
 | true =>
  cases g with
  | zero=>exact h.elim
  | succ g=>cases x <;> first | exact hr.elim | (simp only[conv]at h;exact h.elim)
theorem ZMe {ρ:Type} (hn:¬ U n) (hX:X n):∀ (g:Nat) {c:CT} {x:V} {K:c.den→Ev ρ} {l:Lo} {Post:ρ→Fr→Lo→Prop} {γ:Nat→Gh} {v:Zb} {ℓ ex:List Loc} {m:Bool} {cs:List Value},
  Zj n (Z2 g c x K) f l Post→RelX N G w0 v0 U X f l a w γ v ℓ→St N w0 v0 [] (ex++ℓ) v a w→x.ok U→RR v γ l m x cs →
  ∃ z l' γ' v' ℓ' es,Zj n (K z) f l' Post∧RelX N G w0 v0 U X f l' a w γ' v' ℓ'∧St N w0 v0 [] (es++(ex++ℓ')) v' a w∧Le U v γ l v' γ' l'∧CR v' c m z cs es∧x.isAgg=c.isAgg
 | 0,_,_,_,_,_,_,_,_,_,_,_,h,_,_,_,_=>h.elim
 | g+1,c,x,K,l,Post,γ,v,ℓ,ex,m,cs,h,hr,hex,hk,hx=>by
  obtain⟨E,hE,_⟩:=hr.lr
  have rfl':Le U v γ l v γ l:=Le.refl hE (Zb.le_refl _)
  cases c with
  | dat t =>
   simp only[Z2]at h
   have hm:=ZJw h hx
   subst hm
   have hag:=Zmf FU h
   obtain⟨y,l1,γ1,v1,ℓ1,k1,k2,k3,k4,k5⟩:=Z5a hn hX FU h hr hex hk
   exact⟨y,l1,γ1,v1,ℓ1,[],k1,k2,k3,k4,⟨k5 _ hx,rfl⟩,hag⟩
  | own ty t =>
   cases x with
   | own u =>
    cases m with
    | true=>exact hx.elim
    | false =>
    simp only[Z2]at h
    obtain⟨e,he,h⟩:=h
    obtain⟨kk,st,L⟩:=e
    have hkk:kk=u:=(Zl he).2
    subst hkk
    obtain⟨y,rfl,_,hy⟩:=hx
    have hy:=hy _ he
    obtain⟨es,E',h1,_,_,h3,h4⟩:=hr.del he
    cases L with
    | own ty' t' xs fz =>
     cases fz with
     | true=>exact h.elim
     | false =>
      simp only at h
      split at h
      ·rename_i ys hty hcast
       have hty:=eQ hty
       subst hty
       obtain⟨c3,c4⟩:=ZV hcast
       cases c3;cases c4
       obtain⟨ob,cap,d,g1,g2,rfl⟩:=h1
       have g1:γ kk = .own ob cap:=g1
       obtain⟨ob',cap',g3,g4⟩:=hy
       rw[g1]at g3;cases g3
       exact⟨_,_,_,_,_,_,h,h4,hex.perm ((List.Perm.append_left ex h3).trans Zwd),Le.era hr kk,⟨ob,cap,d,by rw[g4],g2,rfl⟩,rfl⟩
      ·exact h.elim
    | box _ _=>exact h.elim
    | mid _ _ _ _ _ _=>exact h.elim
    | mat _ _ _ _ _=>exact h.elim
   | nilS =>
    cases m with
    | true=>exact hx.elim
    | false =>
    simp only[Z2]at h
    have hx:cs=[.slice none 0 0]:=hx
    subst hx
    exact⟨_,l,γ,v,ℓ,[.own none ty t.n 0 0 []],h,hr,hex.nilLoc ty t.n,rfl',⟨none,0,[],rfl,rfl,rfl⟩,rfl⟩
   | _=>simp only[Z2]at h;exact h.elim
  | mat ty ty2 t =>
   cases x with
   | own u =>
    cases m with
    | true=>exact hx.elim
    | false =>
    simp only[Z2]at h
    obtain⟨e,he,h⟩:=h
    obtain⟨kk,st,L⟩:=e
    have hkk:kk=u:=(Zl he).2
    subst hkk
    obtain⟨y,rfl,_,hy⟩:=hx
    have hy:=hy _ he
    obtain⟨es,E',h1,_,_,h3,h4⟩:=hr.del he
    cases L with
    | mat ty' ty2' t' mm hv =>
     simp only at h
     split at h
     ·rename_i m' hty hty2 hcast
      have hty:=eQ hty
      have hty2:=eQ hty2
      subst hty hty2
      obtain⟨c3,c4⟩:=ZV hcast
      cases c3;cases c4
      obtain⟨ob,cap,rows,es2,g1,g2,rfl⟩:=h1
      have g1:γ kk = .mat ob cap rows:=g1
      obtain⟨ob',cap',rows',g3,g4⟩:=hy
      rw[g1]at g3;cases g3
      exact⟨_,_,_,_,_,_,h,h4,hex.perm ((List.Perm.append_left ex h3).trans Zwd),Le.era hr kk,⟨ob,cap,rows,es2,by rw[g4],g2,rfl⟩,rfl⟩
     ·exact h.elim
    | box _ _=>exact h.elim
    | mid _ _ _ _ _ _=>exact h.elim
    | own _ _ _ _=>exact h.elim
   | nilS =>
    cases m with
    | true=>exact hx.elim
    | false =>
    simp only[Z2]at h
    have hx:cs=[.slice none 0 0]:=hx
    subst hx
    exact⟨_,l,γ,v,ℓ,[.own none ty 1 0 0 []],h,hr,hex.nilLoc ty 1,rfl',⟨none,0,[],[],rfl,rfl,rfl⟩,rfl⟩
   | _=>simp only[Z2]at h;exact h.elim
  | nl =>
   cases x with
   | nl =>
    simp only[Z2]at h
    have hx:cs=[]:=by cases m <;> exact hx
    exact⟨_,l,γ,v,ℓ,[],h,hr,hex,rfl',(by cases m <;> exact⟨hx,rfl⟩),rfl⟩
   | _=>simp only[Z2]at h;exact h.elim
  | one c =>
   cases x with
   | cons x1 x2 =>
    cases x2 with
    | nl =>
     simp only[Z2]at h
     cases m with
     | false =>
      obtain⟨c1,c2,rfl,h1,h2⟩:=hx
      have h2:c2=[]:=h2
      subst h2
      obtain⟨z,l1,γ1,v1,ℓ1,es,k1,k2,k3,k4,k5,k6⟩:=ZMe hn hX g h hr hex hk.1 h1
      exact⟨z,l1,γ1,v1,ℓ1,es,k1,k2,k3,k4,(by rw[List.append_nil];exact k5),rfl⟩
     | true =>
      obtain⟨c1,xs,rfl,h1,h2⟩:=hx
      have h2:xs=[]:=h2
      subst h2
      obtain⟨z,l1,γ1,v1,ℓ1,es,k1,k2,k3,k4,k5,k6⟩:=ZMe hn hX g h hr hex hk.1 h1
      exact⟨z,l1,γ1,v1,ℓ1,es,k1,k2,k3,k4,⟨c1,(by rw[Z6f k6]),k5⟩,rfl⟩
    | _=>simp only[Z2]at h;exact h.elim
   | _=>simp only[Z2]at h;exact h.elim
  | cons c d =>
   cases x with
   | cons x1 x2 =>
    simp only[Z2]at h
    have step:∀ {c1:List Value} {m2:Bool} {c2:List Value},RR v γ l false x1 c1→RR v γ l m2 x2 c2→∃ z l' γ' v' ℓ' e1 e2,Zj n (K z) f l' Post∧RelX N G w0 v0 U X f l' a w γ' v' ℓ'∧St N w0 v0 [] ((e1++e2)++(ex++ℓ')) v' a w∧Le U v γ l v' γ' l'∧CR v' c false z.1 c1 e1∧CR v' d m2 z.2 c2 e2∧x1.isAgg=c.isAgg:=by
     intro c1 m2 c2 h1 h2;obtain⟨z1,l1,γ1,v1,ℓ1,e1,k1,k2,k3,k4,k5,k6⟩:=ZMe hn hX g h hr hex hk.1 h1;obtain⟨z2,l2,γ2,v2,ℓ2,e2,q1,q2,q3,q4,q5,q6⟩:=ZMe hn hX g (ex:=e1++ex) k1 k2 (by rw[aAq];exact k3) hk.2 (Zcb k4 hk.2 h2);refine⟨(z1,z2),l2,γ2,v2,ℓ2,e1,e2,q1,q2,q3.perm ?_,k4.trans q4,Zxn q4.v k5,q5,k6⟩;rw[aAq,aAq];exact Zwd
    cases m with
    | false =>
     obtain⟨c1,c2,rfl,h1,h2⟩:=hx;obtain⟨z,l1,γ1,v1,ℓ1,e1,e2,k1,k2,k3,k4,k5,k6,k7⟩:=step h1 h2;exact⟨z,l1,γ1,v1,ℓ1,_,k1,k2,k3,k4,⟨c1,c2,e1,e2,rfl,rfl,k5,k6⟩,rfl⟩
    | true =>
     obtain⟨c1,xs,rfl,h1,h2⟩:=hx;obtain⟨z,l1,γ1,v1,ℓ1,e1,e2,k1,k2,k3,k4,k5,k6,k7⟩:=step h1 h2;exact⟨z,l1,γ1,v1,ℓ1,_,k1,k2,k3,k4,⟨c1,xs,e1,e2,by rw[Z6f k7],rfl,k5,k6⟩,rfl⟩
   | _=>simp only[Z2]at h;exact h.elim
  | agg c =>
   cases x with
   | agg x1 =>
    cases m with
    | true=>exact hx.elim
    | false =>
    simp only[Z2]at h;obtain⟨z,l1,γ1,v1,ℓ1,es,k1,k2,k3,k4,k5,k6⟩:=ZMe hn hX g (x:=x1) (m:=false) h hr hex hk hx;exact⟨z,l1,γ1,v1,ℓ1,es,k1,k2,k3,k4,k5,rfl⟩
   | _=>simp only[Z2]at h;exact h.elim
  | box ty c =>
   cases x with
   | ptr u off =>
    cases off with
    | succ k=>simp only[Z2]at h;exact h.elim
    | zero =>
    cases m with
    | true=>exact hx.elim
    | false =>
    simp only[Z2]at h;obtain⟨e,he,h⟩:=h;obtain⟨kk,st,L⟩:=e;obtain⟨hm,hkk⟩:=Zl he;have hkk:kk=u:=hkk;subst hkk;obtain⟨y,rfl,_,hy⟩:=hx;have hy:=hy _ he;obtain⟨es,E',h1,_,_,h3,h4⟩:=hr.del he
    cases L with
    | box ty' x1 =>
     simp only at h;split at h
     ·rename_i hty;have hty:=eQ hty;subst hty;obtain⟨b,c1,g1,g2,g3,rfl⟩:=h1;have g1:γ kk = .box b:=g1;obtain⟨b',g4,g5⟩:=hy;rw[g1]at g4;cases g4;have hk1:x1.ok U:=(hr.ul _ hm).2.2;obtain⟨z,l1,γ1,v1,ℓ1,e1,k1,k2,k3,k4,k5,k6⟩:=ZMe hn hX g (ex:=.box b ty c1 :: ex) h h4 (hex.perm ((List.Perm.append_left ex h3).trans Zwd)) hk1 (Zcb (Le.era hr kk) hk1 g2);refine⟨z,l1,γ1,v1,ℓ1,.box b ty c1 :: e1,k1,k2,k3.perm ?_,(Le.era hr kk).trans k4,⟨b,c1,e1,by rw[g5],k5,g3,rfl⟩,rfl⟩;exact List.perm_middle
     ·exact h.elim
    | own _ _ _ _=>exact h.elim
    | mid _ _ _ _ _ _=>exact h.elim
    | mat _ _ _ _ _=>exact h.elim
   | _=>simp only[Z2]at h;exact h.elim
theorem ZDx {ρ:Type} {g:Nat} {c:CT} {q:V} {K:c.den→Ev ρ} {l:Lo} {Post:ρ→Fr→Lo→Prop} (h:Zj n (Z2 g c (.tup q) K) f l Post):False:=by
 cases g with
 | zero=>exact h
 | succ g =>
  cases c with
  | dat t =>
   simp only[Z2]at h;have:∀ (g:Nat),Zj n (conv g t (.tup q) K) f l Post→False:=λg h=>by cases g <;> exact h
   exact this _ h
  | _=>simp only[Z2]at h;exact h
end
theorem F2.append {α β:Type} {R:α→β→Prop}:∀ {l l':List α} {m m':List β},F2 R l m→F2 R l' m'→F2 R (l++l') (m++m')
 | [],_,[],_,_,k=>k
 | _ :: _,_,_ :: _,_,h,k=>⟨h.1,F2.append h.2 k⟩
 | [],_,_ :: _,_,h,_=>h.elim
 | _ :: _,_,[],_,h,_=>h.elim
theorem ZNm {la lb:Lo} {γa γb:Nat→Gh} {γ:Nat→Gh} {l:Lo} (h:∀ e ∈ la++lb,γ e.k=(if e.k ∈ la.map En.k then γa e.k else γb e.k)∧lkE l e.k=some e):∀ e ∈ la,γ e.k=γa e.k∧lkE l e.k=some e:=λe he=>by
 obtain⟨h1,h2⟩:=h e (List.mem_append_left _ he)
 rw[iP (List.mem_map.2 ⟨e,he,rfl⟩)]at h1
 exact⟨h1,h2⟩
theorem ZXl {la lb:Lo} {γa γb:Nat→Gh} {γ:Nat→Gh} {l:Lo} (hd:∀ e ∈ lb,e.k ∉ la.map En.k) (h:∀ e ∈ la++lb,γ e.k=(if e.k ∈ la.map En.k then γa e.k else γb e.k)∧lkE l e.k=some e):∀ e ∈ lb,γ e.k=γb e.k∧lkE l e.k=some e:=λe he=>by
 obtain⟨h1,h2⟩:=h e (List.mem_append_right _ he)
 rw[iN (hd e he)]at h1
 exact⟨h1,h2⟩
theorem Z7k {la lb:Lo} (ha:(la.map En.k).Nodup) (hb:(lb.map En.k).Nodup) (hd:∀ e ∈ lb,e.k ∉ la.map En.k):((la++lb).map En.k).Nodup:=by
 rw[List.map_append];refine List.nodup_append.2 ⟨ha,hb,λx hx y hy e=>?_⟩;subst e;obtain⟨e,he,rfl⟩:=List.mem_map.1 hy;exact hd e he hx
theorem Zvr {v:Zb}:∀ (c:CT) {m:Bool} {z:c.den} {cs:List Value} {es:List Loc} (n:Nat) {x:V} {l2:Lo} {n2:Nat},CR v c m z cs es→Zk c z n=(x,l2,n2) →
  n≤n2∧(∀ e ∈ l2,n≤e.k∧e.k<n2∧n≤e.st∧e.st<n2∧e.x.ok (· < n2) (· < n2))∧(l2.map En.k).Nodup∧x.ok (· < n2)∧x.isAgg=c.isAgg ∧
  ∃ γ0:Nat→Gh,∀ (γ:Nat→Gh) (l:Lo),(∀ e ∈ l2,γ e.k=γ0 e.k∧lkE l e.k=some e)→RR v γ l m x cs∧∃ E,F2 (Zra v γ l) l2 E∧es.Perm E.flatten:=by
 intro c
 induction c with
 | dat t =>
  intro m z cs es n x l2 n2 h hi
  cases m with
  | true=>exact h.elim
  | false =>
  cases hi
  obtain⟨h1,rfl⟩:=h;exact⟨Nat.le_refl _,λe he=>(by cases he),List.nodup_nil,trivial,rfl,λ_=>.box 0,λγ l _=>⟨h1,[],trivial,List.Perm.refl _⟩⟩
 | own ty t =>
  intro m z cs es n x l2 n2 h hi
  cases m with
  | true=>exact h.elim
  | false =>
  cases hi
  obtain⟨ob,cap,d,rfl,h2,rfl⟩:=h;refine⟨Nat.le_succ _,λe he=>?_,?_,Nat.lt_succ_self n,rfl,λ_=>.own ob cap,λγ l hl=>?_⟩
  ·rcases List.mem_singleton.1 he with rfl;exact⟨Nat.le_refl _,Nat.lt_succ_self _,Nat.le_refl _,Nat.lt_succ_self _,trivial⟩
  ·exact List.nodup_cons.2 ⟨by simp,List.nodup_nil⟩
  ·obtain⟨hg,hlk⟩:=hl _ (List.mem_singleton.2 rfl);refine⟨⟨_,rfl,rfl,λe he=>?_⟩,[_],⟨⟨ob,cap,d,hg,h2,rfl⟩,trivial⟩,List.Perm.refl _⟩;rw[show lkE l n=_ from hlk]at he;cases he;exact⟨ob,cap,hg,rfl⟩
 | mat ty ty2 t =>
  intro m z cs es n x l2 n2 h hi
  cases m with
  | true=>exact h.elim
  | false =>
  cases hi
  obtain⟨ob,cap,rows,es2,rfl,h2,rfl⟩:=h;refine⟨Nat.le_succ _,λe he=>?_,?_,Nat.lt_succ_self n,rfl,λ_=>.mat ob cap rows,λγ l hl=>?_⟩
  ·rcases List.mem_singleton.1 he with rfl;exact⟨Nat.le_refl _,Nat.lt_succ_self _,Nat.le_refl _,Nat.lt_succ_self _,Nat.lt_succ_self n⟩
  ·exact List.nodup_cons.2 ⟨by simp,List.nodup_nil⟩
  ·obtain⟨hg,hlk⟩:=hl _ (List.mem_singleton.2 rfl);refine⟨⟨_,rfl,rfl,λe he=>?_⟩,[_],⟨⟨ob,cap,rows,es2,hg,h2,rfl⟩,trivial⟩,by simp⟩;rw[show lkE l n=_ from hlk]at he;cases he;exact⟨ob,cap,rows,hg,rfl⟩
 | nl =>
  intro m z cs es n x l2 n2 h hi
  cases hi
  have h:cs=[]∧es=[]:=by cases m <;> exact h
  obtain⟨rfl,rfl⟩:=h;exact⟨Nat.le_refl _,λe he=>(by cases he),List.nodup_nil,trivial,rfl,λ_=>.box 0,λγ l _=>⟨by cases m <;> rfl,[],trivial,List.Perm.refl _⟩⟩
 | one c ih =>
  intro m z cs es n x l2 n2 h hi;have hi:((.cons (Zk c z n).1 .nl:V),(Zk c z n).2.1,(Zk c z n).2.2)=(x,l2,n2):=hi
  cases hi
  cases m with
  | false =>
   obtain⟨k1,k2,k3,k4,k5,γ0,k6⟩:=ih n (x:=(Zk c z n).1) (l2:=(Zk c z n).2.1) (n2:=(Zk c z n).2.2) h rfl;exact⟨k1,k2,k3,⟨k4,trivial⟩,rfl,γ0,λγ l hl=>⟨⟨cs,[],by simp,(k6 γ l hl).1,rfl⟩,(k6 γ l hl).2⟩⟩
  | true =>
   obtain⟨c1,rfl,h⟩:=h;obtain⟨k1,k2,k3,k4,k5,γ0,k6⟩:=ih n (x:=(Zk c z n).1) (l2:=(Zk c z n).2.1) (n2:=(Zk c z n).2.2) h rfl;exact⟨k1,k2,k3,⟨k4,trivial⟩,rfl,γ0,λγ l hl=>⟨⟨c1,[],by rw[Z6f k5],(k6 γ l hl).1,rfl⟩,(k6 γ l hl).2⟩⟩
 | cons c d ia ib =>
  intro m z cs es n x l2 n2 h hi;have hi:((.cons (Zk c z.1 n).1 (Zk d z.2 (Zk c z.1 n).2.2).1:V),(Zk c z.1 n).2.1++(Zk d z.2 (Zk c z.1 n).2.2).2.1,(Zk d z.2 (Zk c z.1 n).2.2).2.2)=(x,l2,n2):=hi
  cases hi
  have step:∀ {c1 c2:List Value} {m2:Bool} {e1 e2:List Loc},CR v c false z.1 c1 e1→CR v d m2 z.2 c2 e2→es=e1++e2→n≤(Zk d z.2 (Zk c z.1 n).2.2).2.2∧(∀ e ∈ (Zk c z.1 n).2.1++(Zk d z.2 (Zk c z.1 n).2.2).2.1,n≤e.k∧e.k<(Zk d z.2 (Zk c z.1 n).2.2).2.2∧n≤e.st∧e.st<(Zk d z.2 (Zk c z.1 n).2.2).2.2∧e.x.ok (· < (Zk d z.2 (Zk c z.1 n).2.2).2.2) (· < (Zk d z.2 (Zk c z.1 n).2.2).2.2))∧(((Zk c z.1 n).2.1++(Zk d z.2 (Zk c z.1 n).2.2).2.1).map En.k).Nodup∧((Zk c z.1 n).1.ok (· < (Zk d z.2 (Zk c z.1 n).2.2).2.2)∧(Zk d z.2 (Zk c z.1 n).2.2).1.ok (· < (Zk d z.2 (Zk c z.1 n).2.2).2.2))∧(Zk c z.1 n).1.isAgg=c.isAgg ∧
    ∃ γ0:Nat→Gh,∀ (γ:Nat→Gh) (l:Lo),(∀ e ∈ (Zk c z.1 n).2.1++(Zk d z.2 (Zk c z.1 n).2.2).2.1,γ e.k=γ0 e.k∧lkE l e.k=some e)→RR v γ l false (Zk c z.1 n).1 c1∧RR v γ l m2 (Zk d z.2 (Zk c z.1 n).2.2).1 c2∧∃ E,F2 (Zra v γ l) ((Zk c z.1 n).2.1++(Zk d z.2 (Zk c z.1 n).2.2).2.1) E∧es.Perm E.flatten:=by
   intro c1 c2 m2 e1 e2 h1 h2 he;obtain⟨k1,k2,k3,k4,k5,γa,k6⟩:=ia n (x:=(Zk c z.1 n).1) (l2:=(Zk c z.1 n).2.1) (n2:=(Zk c z.1 n).2.2) h1 rfl;obtain⟨q1,q2,q3,q4,q5,γb,q6⟩:=ib (Zk c z.1 n).2.2 (x:=(Zk d z.2 (Zk c z.1 n).2.2).1) (l2:=(Zk d z.2 (Zk c z.1 n).2.2).2.1) (n2:=(Zk d z.2 (Zk c z.1 n).2.2).2.2) h2 rfl;have hd:∀ e ∈ (Zk d z.2 (Zk c z.1 n).2.2).2.1,e.k ∉ ((Zk c z.1 n).2.1).map En.k:=λe he hm=>by
    obtain⟨e',he',hk⟩:=List.mem_map.1 hm;have:=(k2 e' he').2.1;have:=(q2 e he).1;omega
   have up:∀ k,k<(Zk c z.1 n).2.2→k<(Zk d z.2 (Zk c z.1 n).2.2).2.2:=λk hk=>Nat.lt_of_lt_of_le hk q1;refine⟨Nat.le_trans k1 q1,λe he=>?_,Z7k k3 q3 hd,⟨V.ok.mono up k4,q4⟩,k5,λk=>if k ∈ ((Zk c z.1 n).2.1).map En.k then γa k else γb k,λγ l hl=>⟨(k6 γ l (ZNm hl)).1,(q6 γ l (ZXl hd hl)).1,?_⟩⟩
   ·rcases List.mem_append.1 he with he | he
    ·obtain⟨r1,r2,r3,r4,r5⟩:=k2 e he;exact⟨r1,up _ r2,r3,up _ r4,LV.ok.mono up up r5⟩
    ·obtain⟨r1,r2,r3,r4,r5⟩:=q2 e he;exact⟨Nat.le_trans k1 r1,r2,Nat.le_trans k1 r3,r4,r5⟩
   ·obtain⟨E1,g1,g2⟩:=(k6 γ l (ZNm hl)).2;obtain⟨E2,g3,g4⟩:=(q6 γ l (ZXl hd hl)).2;exact⟨E1++E2,g1.append g3,by rw[he,List.flatten_append];exact g2.append g4⟩
  cases m with
  | false =>
   obtain⟨c1,c2,e1,e2,rfl,he,h1,h2⟩:=h;obtain⟨k1,k2,k3,k4,k5,γ0,k6⟩:=step h1 h2 he;exact⟨k1,k2,k3,k4,rfl,γ0,λγ l hl=>⟨⟨c1,c2,rfl,(k6 γ l hl).1,(k6 γ l hl).2.1⟩,(k6 γ l hl).2.2⟩⟩
  | true =>
   obtain⟨c1,c2,e1,e2,rfl,he,h1,h2⟩:=h;obtain⟨k1,k2,k3,k4,k5,γ0,k6⟩:=step h1 h2 he;exact⟨k1,k2,k3,k4,rfl,γ0,λγ l hl=>⟨⟨c1,c2,by rw[Z6f k5],(k6 γ l hl).1,(k6 γ l hl).2.1⟩,(k6 γ l hl).2.2⟩⟩
 | agg c ih =>
  intro m z cs es n x l2 n2 h hi
  cases m with
  | true=>exact h.elim
  | false =>
  have hi:((.agg (Zk c z n).1:V),(Zk c z n).2.1,(Zk c z n).2.2)=(x,l2,n2):=hi
  cases hi
  obtain⟨k1,k2,k3,k4,k5,γ0,k6⟩:=ih (m:=false) n (x:=(Zk c z n).1) (l2:=(Zk c z n).2.1) (n2:=(Zk c z n).2.2) h rfl;exact⟨k1,k2,k3,k4,rfl,γ0,k6⟩
 | box ty c ih =>
  intro m z cs es n x l2 n2 h hi
  cases m with
  | true=>exact h.elim
  | false =>
  have hi:((.ptr n 0:V),(⟨n,n,.box ty (Zk c z (n+1)).1⟩ :: (Zk c z (n+1)).2.1:Lo),(Zk c z (n+1)).2.2)=(x,l2,n2):=hi
  cases hi
  obtain⟨b,c1,e1,rfl,h2,h3,rfl⟩:=h;obtain⟨k1,k2,k3,k4,k5,γ0,k6⟩:=ih (m:=false) (n+1) (x:=(Zk c z (n+1)).1) (l2:=(Zk c z (n+1)).2.1) (n2:=(Zk c z (n+1)).2.2) h2 rfl;have hd:∀ e ∈ (Zk c z (n+1)).2.1,e.k≠n:=λe he hk=>by have:=(k2 e he).1;omega
  refine⟨by omega,λe he=>?_,List.nodup_cons.2 ⟨λhm=>?_,k3⟩,(show n<_ by omega),rfl,λk=>if k=n then .box b else γ0 k,λγ l hl=>?_⟩
  ·rcases List.mem_cons.1 he with rfl | he
   ·exact⟨Nat.le_refl _,(show n<_ by omega),Nat.le_refl _,(show n<_ by omega),k4⟩
   ·obtain⟨r1,r2,r3,r4,r5⟩:=k2 e he;exact⟨by omega,r2,by omega,r4,r5⟩
  ·obtain⟨e,he,hk⟩:=List.mem_map.1 hm;exact hd e he hk
  ·obtain⟨hg,hlk⟩:=hl _ List.mem_cons_self;have hg:γ n = .box b:=by rw[show γ n=_ from hg];exact iP rfl
   obtain⟨q1,E,q2,q3⟩:=k6 γ l λe he=>by
    obtain⟨r1,r2⟩:=hl e (List.mem_cons_of_mem _ he);exact⟨r1.trans (iN (hd e he)),r2⟩
   refine⟨⟨_,rfl,rfl,λe he=>?_⟩,[_] :: E,⟨⟨b,c1,hg,q1,h3,rfl⟩,q2⟩,by rw[List.flatten_cons];exact List.Perm.cons _ q3⟩;rw[show lkE l n=_ from hlk]at he;cases he;exact⟨b,hg,rfl⟩
end Go.Eng
namespace Go.Eng
open Go.RowKit
theorem Zcy {v v':Zb} (h:v.le v') {c:CT} {z:c.den} {g:Gh} {es:List Loc} (k:CRL v c z g es):CRL v' c z g es:=by
 cases c with
 | own ty t=>obtain⟨ob,cap,d,h1,h2,h3⟩:=k;exact⟨ob,cap,d,h1,ZO h h2,h3⟩
 | mat ty ty2 t=>obtain⟨ob,cap,rows,es2,h1,h2,h3⟩:=k;exact⟨ob,cap,rows,es2,h1,Zvc h h2,h3⟩
 | box ty c=>obtain⟨b,c1,e1,h1,h2,h3,h4⟩:=k;exact⟨b,c1,e1,h1,Zxn h h2,h3,h4⟩
 | agg c=>cases c with
  | mat ty ty2 t=>obtain⟨ob,cap,rows,es2,h1,h2,h3⟩:=k;exact⟨ob,cap,rows,es2,h1,Zvc h h2,h3⟩
  | _=>exact k.elim
 | _=>exact k.elim
def Z6g (p:Nat→Prop) (h:Nat):(c:CT)→c.den→LV→Prop
 | .own ty t,z,L=>L = .own ty t z false
 | .mat ty ty2 t,z,L=>∃ hv,p hv∧L = .mat ty ty2 t z hv
 | .box ty _,_,L=>∃ x,L = .box ty x
 | .agg (.mat ty ty2 t),z,L=>L = .mat ty ty2 t z h
 | _,_,_=>False
theorem ZXw {U:Nat→Prop} {γ1 γ2 γ3:Nat→Gh} {u s1 s2 s3:Nat} {x1 x2 x3:LV} (c1:CE U γ1 γ2 u s1 s2 x1 x2) (c2:CE U γ2 γ3 u s2 s3 x2 x3):CE U γ1 γ3 u s1 s3 x1 x3:=CE.tr c1 c2
theorem ZZn {U U':Nat→Prop} {γ γ1 γ2:Nat→Gh} {u s s':Nat} {x x':LV} (hU:∀ k,U k→U' k) (hg:γ2 u=γ1 u) (c:CE U' γ γ1 u s s' x x'):CE U γ γ2 u s s' x x':=by
  cases x <;> cases x' <;> simp only[CE]at c ⊢
  · rw[hg,c]
  · exact⟨hg.trans c.1,c.2.1,c.2.2.1,λh=>c.2.2.2 (hU _ h)⟩
  all_goals first
    | (obtain⟨ob,cap,rows,a1,a2,a3⟩:=c;exact⟨ob,cap,rows,a1,hg.trans a2,a3⟩)
    | (obtain⟨a1,a2,⟨ob,cap,rows,rows',a3,a4,a5⟩,a6⟩:=c
       exact⟨a1,a2,⟨ob,cap,rows,rows',a3,hg.trans a4,λh=>a5 (hU _ h)⟩,λh=>a6 (hU _ h)⟩)
theorem CE_head {U:Nat→Prop} {γ γ':Nat→Gh} {u s s' n0 hh:Nat} {c:CT} {z:c.den} {L L':LV} {v:Zb} {es:List Loc} (hU:∀ k,n0≤k→¬ U k) (hs:n0≤s') (h:Z6g (λ_=>True) hh c z L) (h':Z6g (n0≤·) hh c z L') (hg:γ' u=γ u) (hc:CRL v c z (γ u) es):CE U γ γ' u s s' L L':=by
 cases c with
 | own ty t=>subst h;subst h';exact⟨hg,rfl,rfl,λe=>absurd e (hU _ hs)⟩
 | mat ty ty2 t =>
  obtain⟨hv,_,rfl⟩:=h;obtain⟨hv',h2,rfl⟩:=h';obtain⟨ob,cap,rows,es2,h3,h4,h5⟩:=hc;exact⟨rfl,rfl,⟨ob,cap,rows,rows,h3,hg.trans h3,λe=>absurd e (hU _ h2)⟩,λe=>absurd e (hU _ hs)⟩
 | box ty c=>obtain⟨x,rfl⟩:=h;obtain⟨x',rfl⟩:=h';exact hg
 | agg c=>cases c with
  | mat ty ty2 t =>
   subst h;subst h';obtain⟨ob,cap,rows,es2,h3,h4,h5⟩:=hc;exact⟨rfl,rfl,⟨ob,cap,rows,rows,h3,hg.trans h3,λ_=>⟨rfl,rfl,rfl⟩⟩,λe=>absurd e (hU _ hs)⟩
  | _=>exact h.elim
 | _=>exact h.elim
section
variable {N:Nat} {G:V→Value→Prop} {w0:Base} {v0:Zb} {U X:Nat→Prop} {f:Fr} {a:Act} {w:World} {n:Nat}
theorem Zsn {ρ:Type} (hn:¬ U n) (hX:X n) {hh:Nat} {c:CT} {u:Nat} (hu:U u) {K:c.den→Ev ρ} {l:Lo} {Post:ρ→Fr→Lo→Prop} {γ:Nat→Gh} {v:Zb} {ℓ ex:List Loc}
  (h:Zj n (ZFc hh c u K) f l Post) (hr:RelX N G w0 v0 U X f l a w γ v ℓ) (hex:St N w0 v0 [] (ex++ℓ) v a w) :
  ∃ z l' γ' v' ℓ' es e0,Zj n (K z) f l' Post∧RelX N G w0 v0 U X f l' a w γ' v' ℓ'∧St N w0 v0 [] (es++(ex++ℓ')) v' a w∧Le U v γ l v' γ' l'∧CRL v' c z (γ u) es∧lkE l u=some e0∧lkE l' u=none∧Z6g (λ_=>True) hh c z e0.x:=by
 cases c with
 | own ty t =>
  simp only[ZFc]at h;obtain⟨e,he,h⟩:=h;obtain⟨kk,st,L⟩:=e;have hkk:kk=u:=(Zl he).2;subst hkk;obtain⟨es,E',h1,_,_,h3,h4⟩:=hr.del he
  cases L with
  | own ty' t' xs fz =>
   cases fz with
   | true=>exact h.elim
   | false =>
    simp only at h;split at h
    ·rename_i ys hty hcast;have hty:=eQ hty;subst hty;obtain⟨c3,c4⟩:=ZV hcast
     cases c3;cases c4
     obtain⟨ob,cap,d,g1,g2,rfl⟩:=h1;exact⟨_,_,_,_,_,_,_,h,h4,hex.perm ((List.Perm.append_left ex h3).trans Zwd),Le.era hr kk,⟨ob,cap,d,g1,g2,rfl⟩,he,Z1h (ZAb hr.nd).2,rfl⟩
    ·exact h.elim
  | box _ _=>exact h.elim
  | mid _ _ _ _ _ _=>exact h.elim
  | mat _ _ _ _ _=>exact h.elim
 | mat ty ty2 t =>
  simp only[ZFc]at h;obtain⟨e,he,h⟩:=h;obtain⟨kk,st,L⟩:=e;have hkk:kk=u:=(Zl he).2;subst hkk;obtain⟨es,E',h1,_,_,h3,h4⟩:=hr.del he
  cases L with
  | mat ty' ty2' t' mm hv =>
   simp only at h;split at h
   ·rename_i m' hty hty2 hcast;have hty:=eQ hty;have hty2:=eQ hty2;subst hty hty2;obtain⟨c3,c4⟩:=ZV hcast
    cases c3;cases c4
    obtain⟨ob,cap,rows,es2,g1,g2,rfl⟩:=h1;exact⟨_,_,_,_,_,_,_,h,h4,hex.perm ((List.Perm.append_left ex h3).trans Zwd),Le.era hr kk,⟨ob,cap,rows,es2,g1,g2,rfl⟩,he,Z1h (ZAb hr.nd).2,hv,trivial,rfl⟩
   ·exact h.elim
  | box _ _=>exact h.elim
  | mid _ _ _ _ _ _=>exact h.elim
  | own _ _ _ _=>exact h.elim
 | box ty c =>
  simp only[ZFc]at h;obtain⟨e,he,h⟩:=h;obtain⟨kk,st,L⟩:=e;obtain⟨hm,hkk⟩:=Zl he;have hkk:kk=u:=hkk;subst hkk;obtain⟨es,E',h1,_,_,h3,h4⟩:=hr.del he
  cases L with
  | box ty' x1 =>
   simp only at h;split at h
   ·rename_i hty;have hty:=eQ hty;subst hty;obtain⟨b,c1,g1,g2,g3,rfl⟩:=h1;have hk1:x1.ok U:=(hr.ul _ hm).2.2;obtain⟨z,l1,γ1,v1,ℓ1,e1,k1,k2,k3,k4,k5,k6⟩:=ZMe hn hX FU (ex:=.box b ty c1 :: ex) h h4 (hex.perm ((List.Perm.append_left ex h3).trans Zwd)) hk1 (Zcb (Le.era hr kk) hk1 g2);refine⟨z,l1,γ1,v1,ℓ1,.box b ty c1 :: e1,_,k1,k2,k3.perm ?_,(Le.era hr kk).trans k4,⟨b,c1,e1,g1,k5,g3,rfl⟩,he,?_,x1,rfl⟩
    ·exact List.perm_middle
    ·cases hx:lkE l1 kk with
     | none=>rfl
     | some e' =>
      obtain⟨e,he2,_⟩:=k4.l kk e' hu hx;rw[Z1h (ZAb hr.nd).2]at he2;cases he2
   ·exact h.elim
  | own _ _ _ _=>exact h.elim
  | mid _ _ _ _ _ _=>exact h.elim
  | mat _ _ _ _ _=>exact h.elim
 | agg c=>cases c with
  | mat ty ty2 t =>
   simp only[ZFc]at h;obtain⟨e,he,h⟩:=h;obtain⟨kk,st,L⟩:=e;have hkk:kk=u:=(Zl he).2;subst hkk;obtain⟨es,E',h1,_,_,h3,h4⟩:=hr.del he
   cases L with
   | mat ty' ty2' t' mm hv =>
    simp only at h;split at h
    ·rename_i m' hty hty2 hcast hhv;have hty:=eQ hty;have hty2:=eQ hty2;have hhv:=eQ hhv;subst hty hty2 hhv;obtain⟨c3,c4⟩:=ZV hcast
     cases c3;cases c4
     obtain⟨ob,cap,rows,es2,g1,g2,rfl⟩:=h1;exact⟨_,_,_,_,_,_,_,h,h4,hex.perm ((List.Perm.append_left ex h3).trans Zwd),Le.era hr kk,⟨ob,cap,rows,es2,g1,g2,rfl⟩,he,Z1h (ZAb hr.nd).2,rfl⟩
    ·exact h.elim
   | box _ _=>exact h.elim
   | mid _ _ _ _ _ _=>exact h.elim
   | own _ _ _ _=>exact h.elim
  | _=>simp only[ZFc]at h;exact h.elim
 | _=>simp only[ZFc]at h;exact h.elim
end
theorem Z2h:∀ (g:Nat) {x z:V} {off n:Nat} {ag:Bool} {U:Nat→Prop},Zca g x off n ag=some z→x.ok U→z.ok U
 | 0,_,_,_,_,_,_,h,_=>by cases h
 | g+1,x,z,off,n,ag,U,h,hk=>by
  have whole:∀ {y:V},(match Nat.beq off 0,Nat.beq y.size n,eqB y.isAgg ag with
    | true,true,true=>some y
    | _,_,_=>match y with
     | .agg c=>Zca g c off n ag
     | .data t x=>match ZKb t x with
      | some c=>Zca g c off n ag
      | none=>none
     | _=>none)=some z→y.ok U→z.ok U:=by
   intro y hy hk;split at hy
   ·cases hy;exact hk
   ·split at hy
    ·exact Z2h g hy hk
    ·split at hy
     ·rename_i he;exact Z2h g hy (Z1q he)
     ·cases hy
    ·cases hy
  cases x with
  | nl=>simp only[Zca]at h;cases h
  | cons a b =>
   simp only[Zca]at h;split at h
   ·exact Z2h g h hk.1
   ·split at h
    ·exact Z2h g h hk.2
    ·cases h
  | data t x=>exact whole (y:=.data t x) h hk
  | agg c=>exact whole (y:=.agg c) h hk
  | nilS=>exact whole (y:=.nilS) h hk
  | own u=>exact whole (y:=.own u) h hk
  | row u i hv cv t r=>exact whole (y:=.row u i hv cv t r) h hk
  | ptr u o=>exact whole (y:=.ptr u o) h hk
  | el u i cv t x o=>exact whole (y:=.el u i cv t x o) h hk
  | rp u i hv cv t r=>exact whole (y:=.rp u i hv cv t r) h hk
  | rel u i j hv cv t r x o=>exact whole (y:=.rel u i j hv cv t r x o) h hk
  | vp t x o=>exact whole (y:=.vp t x o) h hk
  | tup c=>exact whole (y:=.tup c) h hk
  | fn f c=>exact whole (y:=.fn f c) h hk
  | ifc f c=>exact whole (y:=.ifc f c) h hk
  | undef=>exact whole (y:=.undef) h hk
structure H0 (G:V→Value→Prop) (n0:Nat) (f0:Fr) (l0:Lo):Prop where
 f:∀ t e,lkE f0 t=some e→e.x.ok (· < n0)∧e.st<n0
 l:∀ e ∈ l0,e.k<n0∧e.st<n0∧e.x.ok (· < n0) (· < n0)
 nd:(l0.map En.k).Nodup
 g:∀ x y,G x y→x.ok (· < n0)
theorem Rel.h0 {N:Nat} {G:V→Value→Prop} {w0:Base} {v0:Zb} {n:Nat} {f:Fr} {l:Lo} {a:Act} {w:World} (h:Rel N G w0 v0 (· < n) f l a w):H0 G n f l:=by
 obtain⟨γ,v,ℓ,h⟩:=h;exact⟨h.uf,h.ul,h.nd,λx y hg=>(h.gh x y hg).2⟩
theorem hvOf_le {G:V→Value→Prop} {n0:Nat} {f0:Fr} {l0:Lo} (h0:H0 G n0 f0 l0) (u:Nat):ZKa l0 u≤n0:=by
 unfold ZKa;split
 ·rename_i he;exact Nat.le_of_lt (h0.l _ (Zl he).1).2.2
 ·exact Nat.zero_le _
theorem Zpt {x:V} {u n:Nat} (h:idV x=some u) (hk:x.ok (· < n)):u<n:=by
 unfold idV at h;split at h
 ·cases h;exact hk
 ·cases h;exact hk
 ·cases h
theorem Zim {G:V→Value→Prop} {n0:Nat} {f0:Fr} {l0:Lo} (h0:H0 G n0 f0 l0):∀ {p:Pl} {u:Nat},Z5b f0 l0 p=some u→u<n0
 | .sl s,u,h=>by
  simp only[Z5b]at h
  split at h
  ·rename_i e he;exact Zpt h (h0.f _ _ he).1
  ·cases h
 | .fld p off,u,h=>by
  simp only[Z5b]at h
  split at h
  ·split at h
   ·rename_i he
    split at h
    ·rename_i hg
     have:=(h0.l _ (Zl he).1).2.2
     exact Zpt h (Z2h FU hg this)
    ·cases h
   ·cases h
  ·cases h
def SRel (a:Act) (v:Zb) (t:Nat) (c:CT) (z:c.den) (es:List Loc):Prop:=∃ cs,a.tmps.getD t undef=c.vl cs∧CR v c false z cs es
def LRel (v:Zb) (γ:Nat→Gh) (l:Lo) (n0:Nat) (f0:Fr) (l0:Lo) (u:Nat) (p:Pl) (c:CT) (z:c.den) (es:List Loc):Prop :=
 Z5b f0 l0 p=some u∧∃ g e0,lkE l u=some e0∧CRL v c z g es∧∀ (γ':Nat→Gh) (st':Nat) (L':LV),γ' u=g→n0≤st'→Z6g (n0≤·) (ZKa l0 u) c z L'→CE (· < n0) γ γ' u e0.st st' e0.x L'
def VRel (a:Act) (v:Zb) (γ:Nat→Gh) (l:Lo) (n0:Nat) (f0:Fr) (l0:Lo):(vs:List Vr)→(ctL (vs.map Vr.ct)).den→List Loc→List Nat→Prop
 | [],_,es,us=>es=[]∧us=[]
 | [.s t c],z,es,us=>us=[]∧SRel a v t c z es
 | [.l p c],z,es,us=>∃ u,us=[u]∧LRel v γ l n0 f0 l0 u p c z es
 | .s t c :: w :: r,z,es,us=>∃ e1 e2,es=e1++e2∧SRel a v t c z.1 e1∧VRel a v γ l n0 f0 l0 (w :: r) z.2 e2 us
 | .l p c :: w :: r,z,es,us=>∃ e1 e2 u us',es=e1++e2∧us=u :: us'∧LRel v γ l n0 f0 l0 u p c z.1 e1∧VRel a v γ l n0 f0 l0 (w :: r) z.2 e2 us'
theorem Zfw {a:Act} {v v':Zb} (h:v.le v') {t:Nat} {c:CT} {z:c.den} {es:List Loc} (k:SRel a v t c z es):SRel a v' t c z es:=by
 obtain⟨cs,h1,h2⟩:=k;exact⟨cs,h1,Zxn h h2⟩
theorem Zwy {v v':Zb} (h:v.le v') {γ:Nat→Gh} {l:Lo} {n0:Nat} {f0:Fr} {l0:Lo} {u:Nat} {p:Pl} {c:CT} {z:c.den} {es:List Loc} (k:LRel v γ l n0 f0 l0 u p c z es):LRel v' γ l n0 f0 l0 u p c z es:=by
 obtain⟨h1,g,e0,h2,h3,h4⟩:=k;exact⟨h1,g,e0,h2,Zcy h h3,h4⟩
section
variable {N:Nat} {G:V→Value→Prop} {w0:Base} {v0:Zb} {f:Fr} {a:Act} {w:World} {n:Nat}
theorem Zgu {ρ:Type} {t:Nat} {c:CT} {K:c.den→Ev ρ} {l:Lo} {Post:ρ→Fr→Lo→Prop} {γ:Nat→Gh} {v:Zb} {ℓ ex:List Loc}
  (h:Zj n (.rdS t λv=>Z2 FU c v K) f l Post) (hr:RelX N G w0 v0 (· < n) (· < n+1) f l a w γ v ℓ) (hex:St N w0 v0 [] (ex++ℓ) v a w) :
  ∃ z l' γ' v' ℓ' es,Zj n (K z) f l' Post∧RelX N G w0 v0 (· < n) (· < n+1) f l' a w γ' v' ℓ'∧St N w0 v0 [] (es++(ex++ℓ')) v' a w∧Le (· < n) v γ l v' γ' l'∧SRel a v' t c z es:=by
 obtain⟨e,he,h⟩:=h;have hrv:=hr.fr t e he;obtain⟨cs,hcs,hy⟩:=Z1a hrv (λq hq=>by rw[hq]at h;exact ZDx h);obtain⟨z,l',γ',v',ℓ',es,k1,k2,k3,k4,k5,k6⟩:=ZMe (U:=(· < n)) (X:=(· < n+1)) (Nat.lt_irrefl n) (Nat.lt_succ_self n) FU h hr hex (hr.uf t e he).1 hcs;exact⟨z,l',γ',v',ℓ',es,k1,k2,k3,k4,cs,by rw[hy,Z6f k6],k5⟩
theorem Zaq {ρ:Type} {u:Nat} {p:Pl} {c:CT} {K:c.den→Ev ρ} {l lE f0l:Lo} {f0:Fr} {n0:Nat} {Post:ρ→Fr→Lo→Prop} {γ γE:Nat→Gh} {v vE:Zb} {ℓ ex:List Loc} (h0:H0 G n0 f0 f0l) (hn0:n0≤n) (hid:Z5b f0 f0l p=some u)
  (h:Zj n (ZFc (ZKa f0l u) c u K) f l Post) (hr:RelX N G w0 v0 (· < n) (· < n+1) f l a w γ v ℓ) (hex:St N w0 v0 [] (ex++ℓ) v a w) (hE:Le (· < n) vE γE lE v γ l) :
  ∃ z l' γ' v' ℓ' es,Zj n (K z) f l' Post∧RelX N G w0 v0 (· < n) (· < n+1) f l' a w γ' v' ℓ'∧St N w0 v0 [] (es++(ex++ℓ')) v' a w∧Le (· < n) v γ l v' γ' l'∧LRel v' γE lE n0 f0 f0l u p c z es∧(∃ e,lkE l u=some e)∧lkE l' u=none:=by
 have hu:u<n:=Nat.lt_of_lt_of_le (Zim h0 hid) hn0;obtain⟨z,l',γ',v',ℓ',es,e0,k1,k2,k3,k4,k5,k6,k7,k8⟩:=Zsn (U:=(· < n)) (X:=(· < n+1)) (Nat.lt_irrefl n) (Nat.lt_succ_self n) hu h hr hex;obtain⟨eE,q1,q2⟩:=hE.l u e0 hu k6;refine⟨z,l',γ',v',ℓ',es,k1,k2,k3,k4,⟨hid,γ u,eE,q1,k5,λγ2 st' L' hg hs hh=>?_⟩,⟨e0,k6⟩,k7⟩;exact ZXw (ZZn (λk hk=>Nat.lt_of_lt_of_le hk hn0) rfl q2) (CE_head (n0:=n0) (λk hk h=>by omega) hs k8 hh hg k5)
theorem Zln {ρ:Type} {f0:Fr} {l0 lE:Lo} {n0:Nat} {γE:Nat→Gh} {vE:Zb} (h0:H0 G n0 f0 l0) (hn0:n0≤n):∀ {vs:List Vr} {K:(ctL (vs.map Vr.ct)).den→Ev ρ} {l:Lo} {Post:ρ→Fr→Lo→Prop} {γ:Nat→Gh} {v:Zb} {ℓ ex:List Loc},
  Zj n (Zne f0 l0 vs K) f l Post→RelX N G w0 v0 (· < n) (· < n+1) f l a w γ v ℓ→St N w0 v0 [] (ex++ℓ) v a w→Le (· < n) vE γE lE v γ l →
  ∃ z l' γ' v' ℓ' es us,Zj n (K z) f l' Post∧RelX N G w0 v0 (· < n) (· < n+1) f l' a w γ' v' ℓ'∧St N w0 v0 [] (es++(ex++ℓ')) v' a w∧Le (· < n) v γ l v' γ' l'∧VRel a v' γE lE n0 f0 l0 vs z es us∧us.Nodup∧∀ u ∈ us,u<n0∧(∃ e,lkE l u=some e)∧u ∈ Z5c f0 l0 vs
 | [],K,l,Post,γ,v,ℓ,ex,h,hr,hex,hE=>by
  obtain⟨E,hE',_⟩:=hr.lr
  exact⟨(),l,γ,v,ℓ,[],[],h,hr,hex,Le.refl hE' (Zb.le_refl _),⟨rfl,rfl⟩,List.nodup_nil,λu hu=>by cases hu⟩
 | [.s t c],K,l,Post,γ,v,ℓ,ex,h,hr,hex,hE=>by
  obtain⟨z,l',γ',v',ℓ',es,k1,k2,k3,k4,k5⟩:=Zgu h hr hex
  exact⟨z,l',γ',v',ℓ',es,[],k1,k2,k3,k4,⟨rfl,k5⟩,List.nodup_nil,λu hu=>by cases hu⟩
 | [.l p c],K,l,Post,γ,v,ℓ,ex,h,hr,hex,hE=>by
  simp only[Zne]at h
  split at h
  ·rename_i u hid
   obtain⟨z,l',γ',v',ℓ',es,k1,k2,k3,k4,k5,k6,k7⟩:=Zaq h0 hn0 hid h hr hex hE
   refine⟨z,l',γ',v',ℓ',es,[u],k1,k2,k3,k4,⟨u,rfl,k5⟩,List.nodup_cons.2 ⟨by simp,List.nodup_nil⟩,λu' hu=>?_⟩
   rcases List.mem_singleton.1 hu with rfl
   exact⟨Zim h0 hid,k6,by simp only[Z5c,hid];simp⟩
  ·exact h.elim
 | .s t c :: w :: r,K,l,Post,γ,v,ℓ,ex,h,hr,hex,hE=>by
  obtain⟨z1,l1,γ1,v1,ℓ1,e1,k1,k2,k3,k4,k5⟩:=Zgu (K:=λx=>Zne f0 l0 (w :: r) λy=>K (x,y)) h hr hex
  obtain⟨z2,l2,γ2,v2,ℓ2,e2,us,q1,q2,q3,q4,q5,q6,q7⟩:=Zln h0 hn0 (ex:=e1++ex) k1 k2 (by rw[aAq];exact k3) (hE.trans k4)
  refine⟨(z1,z2),l2,γ2,v2,ℓ2,e1++e2,us,q1,q2,q3.perm ?_,k4.trans q4,⟨e1,e2,rfl,Zfw q4.v k5,q5⟩,q6,λu hu=>?_⟩
  ·rw[aAq,aAq];exact Zwd
  ·obtain⟨g1,⟨e,g2⟩,g3⟩:=q7 u hu
   obtain⟨e',g4,_⟩:=k4.l u e (show u<_ by omega) g2
   refine⟨g1,⟨e',g4⟩,?_⟩
   simp only[Z5c]
   split
   ·exact List.mem_cons_of_mem _ g3
   ·exact g3
 | .l p c :: w :: r,K,l,Post,γ,v,ℓ,ex,h,hr,hex,hE=>by
  simp only[Zne]at h
  split at h
  ·rename_i u hid
   obtain⟨z1,l1,γ1,v1,ℓ1,e1,k1,k2,k3,k4,k5,k6,k7⟩:=Zaq (K:=λx=>Zne f0 l0 (w :: r) λy=>K (x,y)) h0 hn0 hid h hr hex hE
   obtain⟨z2,l2,γ2,v2,ℓ2,e2,us,q1,q2,q3,q4,q5,q6,q7⟩:=Zln h0 hn0 (ex:=e1++ex) k1 k2 (by rw[aAq];exact k3) (hE.trans k4)
   refine⟨(z1,z2),l2,γ2,v2,ℓ2,e1++e2,u :: us,q1,q2,q3.perm ?_,k4.trans q4,⟨e1,e2,u,us,rfl,rfl,Zwy q4.v k5,q5⟩,List.nodup_cons.2 ⟨λhu=>?_,q6⟩,λu' hu=>?_⟩
   ·rw[aAq,aAq];exact Zwd
   ·obtain⟨_,⟨e,g2⟩,_⟩:=q7 u hu
    rw[k7]at g2;cases g2
   ·have hg:Z5c f0 l0 (.l p c :: w :: r)=u :: Z5c f0 l0 (w :: r):=by simp only[Z5c,hid]
    rw[hg]
    rcases List.mem_cons.1 hu with rfl | hu
    ·exact⟨Zim h0 hid,k6,List.mem_cons_self⟩
    ·obtain⟨g1,⟨e,g2⟩,g3⟩:=q7 u' hu
     obtain⟨e',g4,_⟩:=k4.l u' e (show u'<_ by omega) g2
     exact⟨g1,⟨e',g4⟩,List.mem_cons_of_mem _ g3⟩
  ·exact h.elim
end
end Go.Eng
namespace Go.Eng
open Go.RowKit
theorem Zxl {v:Zb} {hh:Nat} {c:CT} {z:c.den} {g:Gh} {es:List Loc} {u n:Nat} {l2:Lo} {n2:Nat} (h:CRL v c z g es) (hu:u<n) (hhn:hh≤n) (hi:Z1 hh c z u n=(l2,n2)) :
  n<n2∧(∀ e ∈ l2,(e.k=u∧Z6g (n≤·) hh c z e.x∨n≤e.k∧e.k<n2)∧n≤e.st∧e.st<n2∧e.x.ok (· < n2) (· < n2))∧(l2.map En.k).Nodup ∧
  ∃ γ0:Nat→Gh,γ0 u=g∧∀ (γ:Nat→Gh) (l:Lo),(∀ e ∈ l2,γ e.k=γ0 e.k∧lkE l e.k=some e)→∃ E,F2 (Zra v γ l) l2 E∧es.Perm E.flatten:=by
 cases c with
 | own ty t =>
  cases hi
  obtain⟨ob,cap,d,rfl,h2,rfl⟩:=h;refine⟨Nat.lt_succ_self n,λe he=>?_,List.nodup_cons.2 ⟨by simp,List.nodup_nil⟩,λ_=>.own ob cap,rfl,λγ l hl=>?_⟩
  ·rcases List.mem_singleton.1 he with rfl;exact⟨.inl ⟨rfl,rfl⟩,Nat.le_refl _,Nat.lt_succ_self _,trivial⟩
  ·exact⟨[_],⟨⟨ob,cap,d,(hl _ (List.mem_singleton.2 rfl)).1,h2,rfl⟩,trivial⟩,List.Perm.refl _⟩
 | mat ty ty2 t =>
  cases hi
  obtain⟨ob,cap,rows,es2,rfl,h2,rfl⟩:=h;refine⟨Nat.lt_succ_self n,λe he=>?_,List.nodup_cons.2 ⟨by simp,List.nodup_nil⟩,λ_=>.mat ob cap rows,rfl,λγ l hl=>?_⟩
  ·rcases List.mem_singleton.1 he with rfl;exact⟨.inl ⟨rfl,n,Nat.le_refl _,rfl⟩,Nat.le_refl _,Nat.lt_succ_self _,Nat.lt_succ_self n⟩
  ·exact⟨[_],⟨⟨ob,cap,rows,es2,(hl _ (List.mem_singleton.2 rfl)).1,h2,rfl⟩,trivial⟩,by simp⟩
 | box ty c =>
  have hi:((⟨u,n,.box ty (Zk c z (n+1)).1⟩ :: (Zk c z (n+1)).2.1:Lo),(Zk c z (n+1)).2.2)=(l2,n2):=hi
  cases hi
  obtain⟨b,c1,e1,rfl,h2,h3,rfl⟩:=h;obtain⟨k1,k2,k3,k4,k5,γ0,k6⟩:=Zvr c (m:=false) (n+1) (x:=(Zk c z (n+1)).1) (l2:=(Zk c z (n+1)).2.1) (n2:=(Zk c z (n+1)).2.2) h2 rfl;have hd:∀ e ∈ (Zk c z (n+1)).2.1,e.k≠u:=λe he hk=>by have:=(k2 e he).1;omega
  refine⟨by omega,λe he=>?_,List.nodup_cons.2 ⟨λhm=>?_,k3⟩,λk=>if k=u then .box b else γ0 k,iP rfl,λγ l hl=>?_⟩
  ·rcases List.mem_cons.1 he with rfl | he
   ·exact⟨.inl ⟨rfl,_,rfl⟩,Nat.le_refl _,(show n<_ by omega),k4⟩
   ·obtain⟨r1,r2,r3,r4,r5⟩:=k2 e he;exact⟨.inr ⟨by omega,r2⟩,by omega,r4,r5⟩
  ·obtain⟨e,he,hk⟩:=List.mem_map.1 hm;exact hd e he hk
  ·obtain⟨hg,hlk⟩:=hl _ List.mem_cons_self;have hg:γ u = .box b:=by rw[show γ u=_ from hg];exact iP rfl
   obtain⟨q1,E,q2,q3⟩:=k6 γ l λe he=>by
    obtain⟨r1,r2⟩:=hl e (List.mem_cons_of_mem _ he);exact⟨r1.trans (iN (hd e he)),r2⟩
   exact⟨[_] :: E,⟨⟨b,c1,hg,q1,h3,rfl⟩,q2⟩,by rw[List.flatten_cons];exact List.Perm.cons _ q3⟩
 | agg c=>cases c with
  | mat ty ty2 t =>
   cases hi
   obtain⟨ob,cap,rows,es2,rfl,h2,rfl⟩:=h;refine⟨Nat.lt_succ_self n,λe he=>?_,List.nodup_cons.2 ⟨by simp,List.nodup_nil⟩,λ_=>.mat ob cap rows,rfl,λγ l hl=>?_⟩
   ·rcases List.mem_singleton.1 he with rfl;exact⟨.inl ⟨rfl,rfl⟩,Nat.le_refl _,Nat.lt_succ_self _,Nat.lt_succ_of_le hhn⟩
   ·exact⟨[_],⟨⟨ob,cap,rows,es2,(hl _ (List.mem_singleton.2 rfl)).1,h2,rfl⟩,trivial⟩,by simp⟩
  | _=>exact h.elim
 | _=>exact h.elim
structure IV (a:Act) (v:Zb) (γE:Nat→Gh) (lE:Lo) (n0:Nat) (us:List Nat) (n1 m:Nat) (f':Fr) (l':Lo) (es:List Loc) (γ0:Nat→Gh):Prop where
 le:n1≤m
 l:∀ e ∈ l',(e.k ∈ us∨n1≤e.k∧e.k<m)∧n1≤e.st∧e.st<m∧e.x.ok (· < m) (· < m)
 nd:(l'.map En.k).Nodup
 f:∀ e ∈ f',e.x.ok (· < m)∧n1≤e.st∧e.st<m
 r:∀ (γ:Nat→Gh) (l:Lo),(∀ e ∈ l',γ e.k=γ0 e.k∧lkE l e.k=some e)→(∀ e ∈ f',RV v γ l e.x (a.tmps.getD e.k undef))∧(∃ E,F2 (Zra v γ l) l' E∧es.Perm E.flatten)∧∀ e ∈ l',e.k<n0→∃ e0,lkE lE e.k=some e0∧CE (· < n0) γE γ e.k e0.st e.st e0.x e.x
section
variable {a:Act} {v:Zb} {γE:Nat→Gh} {lE:Lo} {n0:Nat}
theorem IV.none {n1:Nat}:IV a v γE lE n0 [] n1 n1 [] [] [] λ_=>.box 0 :=
 ⟨Nat.le_refl _,λe he=>(by cases he),List.nodup_nil,λe he=>(by cases he),λγ l _=>⟨λe he=>(by cases he),⟨[],trivial,List.Perm.refl _⟩,λe he=>(by cases he)⟩⟩
theorem IV.add {us1 us2:List Nat} {n1 m1 m:Nat} {f1 f2:Fr} {l1 l2:Lo} {es1 es2:List Loc} {γ1 γ2:Nat→Gh} (h:IV a v γE lE n0 us1 n1 m1 f1 l1 es1 γ1) (k:IV a v γE lE n0 us2 m1 m f2 l2 es2 γ2) (hd:∀ u ∈ us2,u ∉ us1) (hu:∀ u ∈ us1++us2,u<n1) :
  IV a v γE lE n0 (us1++us2) n1 m (f1++f2) (l1++l2) (es1++es2) λk=>if k ∈ l1.map En.k then γ1 k else γ2 k:=by
 have hd':∀ e ∈ l2,e.k ∉ l1.map En.k:=λe he hm=>by
  obtain⟨e',he',hk⟩:=List.mem_map.1 hm;have h1:=(h.l e' he').1;have h2:=(k.l e he).1;have hle:=h.le;rw[hk]at h1;rcases h1 with h1 | h1 <;> rcases h2 with h2 | h2
  ·exact hd _ h2 h1
  ·have:=hu _ (List.mem_append_left _ h1);omega
  ·have:=hu _ (List.mem_append_right _ h2);omega
  ·omega
 have up:∀ j,j<m1→j<m:=λj hj=>Nat.lt_of_lt_of_le hj k.le;refine⟨Nat.le_trans h.le k.le,λe he=>?_,Z7k h.nd k.nd hd',λe he=>?_,λγ l hl=>?_⟩
 ·rcases List.mem_append.1 he with he | he
  ·obtain⟨r1,r2,r3,r4⟩:=h.l e he;refine⟨?_,r2,up _ r3,LV.ok.mono up up r4⟩;rcases r1 with r1 | r1
   ·exact .inl (List.mem_append_left _ r1)
   ·exact .inr ⟨r1.1,up _ r1.2⟩
  ·obtain⟨r1,r2,r3,r4⟩:=k.l e he;have:=h.le;refine⟨?_,by omega,r3,r4⟩;rcases r1 with r1 | r1
   ·exact .inl (List.mem_append_right _ r1)
   ·exact .inr ⟨by omega,r1.2⟩
 ·rcases List.mem_append.1 he with he | he
  ·obtain⟨r1,r2,r3⟩:=h.f e he;exact⟨V.ok.mono up r1,r2,up _ r3⟩
  ·obtain⟨r1,r2,r3⟩:=k.f e he;have:=h.le;exact⟨r1,by omega,r3⟩
 ·obtain⟨p1,⟨E1,p2,p3⟩,p4⟩:=h.r γ l (ZNm hl);obtain⟨q1,⟨E2,q2,q3⟩,q4⟩:=k.r γ l (ZXl hd' hl);refine⟨λe he=>?_,⟨E1++E2,p2.append q2,by rw[List.flatten_append];exact p3.append q3⟩,λe he=>?_⟩
  ·rcases List.mem_append.1 he with he | he
   ·exact p1 e he
   ·exact q1 e he
  ·rcases List.mem_append.1 he with he | he
   ·exact p4 e he
   ·exact q4 e he
theorem IV.s {t n1:Nat} {c:CT} {z:c.den} {es:List Loc} (h:SRel a v t c z es) (hn:n0≤n1):∃ γ0,IV a v γE lE n0 [] n1 (Zk c z (n1+1)).2.2 [⟨t,n1,(Zk c z (n1+1)).1⟩] (Zk c z (n1+1)).2.1 es γ0:=by
 obtain⟨cs,h1,h2⟩:=h;obtain⟨k1,k2,k3,k4,k5,γ0,k6⟩:=Zvr c (n1+1) (x:=(Zk c z (n1+1)).1) (l2:=(Zk c z (n1+1)).2.1) (n2:=(Zk c z (n1+1)).2.2) h2 rfl;refine⟨γ0,by omega,λe he=>?_,k3,λe he=>?_,λγ l hl=>⟨λe he=>?_,(k6 γ l hl).2,λe he hk=>?_⟩⟩
 ·obtain⟨r1,r2,r3,r4,r5⟩:=k2 e he;exact⟨.inr ⟨by omega,r2⟩,by omega,r4,r5⟩
 ·rcases List.mem_singleton.1 he with rfl;exact⟨k4,Nat.le_refl _,(show n1<_ by omega)⟩
 ·rcases List.mem_singleton.1 he with rfl;have hq:=(k6 γ l hl).1;have:=ZQb hq (λc e=>by rw[e]at hq;exact hq);show RV v γ l (Zk c z (n1+1)).1 (a.tmps.getD t undef);rw[h1,← Z6f k5];exact this
 ·have:=(k2 e he).1;omega
theorem IV.p {u n1:Nat} {p:Pl} {c:CT} {z:c.den} {es:List Loc} {f0:Fr} {l0:Lo} (h:LRel v γE lE n0 f0 l0 u p c z es) (hu:u<n1) (hn:n0≤n1) (hv:ZKa l0 u≤n1):∃ γ0,IV a v γE lE n0 [u] n1 (Z1 (ZKa l0 u) c z u n1).2 [] (Z1 (ZKa l0 u) c z u n1).1 es γ0:=by
 obtain⟨_,g,e0,h2,h3,h4⟩:=h;obtain⟨k1,k2,k3,γ0,k4,k5⟩:=Zxl h3 hu hv (l2:=(Z1 (ZKa l0 u) c z u n1).1) (n2:=(Z1 (ZKa l0 u) c z u n1).2) rfl;refine⟨γ0,by omega,λe he=>?_,k3,λe he=>(by cases he),λγ l hl=>⟨λe he=>(by cases he),k5 γ l hl,λe he hk=>?_⟩⟩
 ·obtain⟨r1,r2,r3,r4⟩:=k2 e he;refine⟨?_,r2,r3,r4⟩;rcases r1 with r1 | r1
  ·exact .inl (List.mem_singleton.2 r1.1)
  ·exact .inr r1
 ·obtain⟨r1,r2,_,_⟩:=k2 e he;rcases r1 with ⟨r1,r5⟩ | r1
  ·refine⟨e0,by rw[r1];exact h2,?_⟩;rw[r1];have:Z6g (n0≤·) (ZKa l0 u) c z e.x:=by
    cases c with
    | mat ty ty2 t=>obtain⟨hv,q1,q2⟩:=r5;exact⟨hv,Nat.le_trans hn q1,q2⟩
    | own ty t=>exact r5
    | box ty t=>exact r5
    | agg c=>cases c <;> first | exact r5 | exact r5.elim
    | _=>exact r5.elim
   refine h4 γ e.st e.x ?_ (by omega) this;have:=(hl e he).1;rw[r1]at this;rw[this,k4]
  ·omega
theorem Zmo {f0:Fr} {l0:Lo}:∀ {vs:List Vr} {z:(ctL (vs.map Vr.ct)).den} {es:List Loc} {us:List Nat} {n1:Nat},VRel a v γE lE n0 f0 l0 vs z es us→us.Nodup→(∀ u ∈ us,u<n1)→n0≤n1→(∀ u,ZKa l0 u≤n0) →
  ∃ γ0,IV a v γE lE n0 us n1 (ZEb f0 l0 vs z n1).2.2 (ZEb f0 l0 vs z n1).1 (ZEb f0 l0 vs z n1).2.1 es γ0
 | [],z,es,us,n1,h,hn,hu,h0,hv=>by
  obtain⟨rfl,rfl⟩:=h
  exact⟨_,IV.none⟩
 | [.s t c],z,es,us,n1,h,hn,hu,h0,hv=>by
  obtain⟨rfl,h⟩:=h
  exact IV.s h h0
 | [.l p c],z,es,us,n1,h,hn,hu,h0,hv=>by
  obtain⟨u,rfl,h⟩:=h
  have e:ZEb f0 l0 [.l p c] z n1=([],(Z1 (ZKa l0 u) c z u n1).1,(Z1 (ZKa l0 u) c z u n1).2):=by simp only[ZEb,h.1]
  rw[e]
  exact IV.p h (hu u (by simp)) h0 (Nat.le_trans (hv u) h0)
 | .s t c :: w :: r,z,es,us,n1,h,hn,hu,h0,hv=>by
  obtain⟨e1,e2,rfl,h1,h2⟩:=h
  obtain⟨γ1,k1⟩:=IV.s (a:=a) (v:=v) (γE:=γE) (lE:=lE) h1 h0
  have hle:=k1.le
  obtain⟨γ2,k2⟩:=Zmo (vs:=w :: r) (n1:=(Zk c z.1 (n1+1)).2.2) h2 hn (λu h=>Nat.lt_of_lt_of_le (hu u h) hle) (Nat.le_trans h0 hle) hv
  exact⟨_,k1.add k2 (λu _ h=>by cases h) hu⟩
 | .l p c :: w :: r,z,es,us,n1,h,hn,hu,h0,hv=>by
  obtain⟨e1,e2,u,us',rfl,rfl,h1,h2⟩:=h
  obtain⟨γ1,k1⟩:=IV.p (a:=a) (v:=v) (γE:=γE) (lE:=lE) h1 (hu u (by simp)) h0 (Nat.le_trans (hv u) h0)
  have hle:=k1.le
  obtain⟨n3,n4⟩:=List.nodup_cons.1 hn
  obtain⟨γ2,k2⟩:=Zmo (vs:=w :: r) (n1:=(Z1 (ZKa l0 u) c z.1 u n1).2) h2 n4 (λu' h=>Nat.lt_of_lt_of_le (hu u' (by simp[h])) hle) (Nat.le_trans h0 hle) hv
  have e:ZEb f0 l0 (.l p c :: w :: r) z n1=((ZEb f0 l0 (w :: r) z.2 (Z1 (ZKa l0 u) c z.1 u n1).2).1,(Z1 (ZKa l0 u) c z.1 u n1).1++(ZEb f0 l0 (w :: r) z.2 (Z1 (ZKa l0 u) c z.1 u n1).2).2.1,(ZEb f0 l0 (w :: r) z.2 (Z1 (ZKa l0 u) c z.1 u n1).2).2.2):=by simp only[ZEb,h1.1]
  rw[e]
  refine⟨_,k1.add k2 (λu' h hm=>?_) hu⟩
  rcases List.mem_singleton.1 hm with rfl
  exact n3 h
end
theorem F2.impm {α β:Type} {R R':α→β→Prop}:∀ {l:List α} {m:List β},(∀ a ∈ l,∀ b ∈ m,R a b→R' a b)→F2 R l m→F2 R' l m
 | [],[],_,_=>trivial
 | a :: l,b :: m,h,k=>⟨h a (by simp) b (by simp) k.1,F2.impm (λx hx y hy=>h x (by simp[hx]) y (by simp[hy])) k.2⟩
 | [],_ :: _,_,k=>k.elim
 | _ :: _,[],_,k=>k.elim
theorem Zwt {R:En LV→List Loc→Prop}:∀ {s l:Lo} {E:List (List Loc)},(s.map En.k).Nodup→(∀ e ∈ s,lkE l e.k=some e)→(l.map En.k).Nodup→F2 R l E→∃ Es rest,F2 R s Es∧E.flatten.Perm (Es.flatten++rest)
 | [],l,E,_,_,_,_=>⟨[],E.flatten,trivial,List.Perm.refl _⟩
 | e :: s,l,E,hn,hs,hl,hE=>by
  simp only[List.map_cons,List.nodup_cons]at hn
  obtain⟨es,E',h1,h2,h3⟩:=ZYe hE (hs e (by simp))
  obtain⟨Es,rest,k1,k2⟩:=Zwt (s:=s) (l:=era l e.k) hn.2 (λe2 he=>by
   rw[ZJb hl,iN (λh=>hn.1 (by rw[h];exact List.mem_map.2 ⟨e2,he,rfl⟩))]
   exact hs e2 (by simp[he])) (ZAb hl).1 h2
  exact⟨es :: Es,rest,⟨h1,k1⟩,h3.trans (by rw[List.flatten_cons,aAq];exact List.Perm.append_left _ k2)⟩
theorem Z9k {β:Type} {l l':List (En β)} {k:Nat}:lkE (l++l') k=(lkE l k).or (lkE l' k):=by
 induction l with
 | nil=>rfl
 | cons p r ih =>
  rw[List.cons_append,ZE,ZE];split
  ·rfl
  ·exact ih
theorem ZHt {n:Nat} {l:Lo}:∀ {s:Lo},Zzh n l s=true→∀ e ∈ s,∃ e',lkE l e.k=some e'∧e'.st<n
 | [],_,_,h=>by cases h
 | e :: s,h,e1,he1=>by
  simp only[Zzh]at h
  split at h
  ·rename_i e' he'
   split at h
   ·cases h
   ·rename_i hb
    rcases List.mem_cons.1 he1 with rfl | he1
    ·exact⟨e',he',Nat.lt_of_not_le λhle=>by rw[Nat.ble_eq_true_of_le hle]at hb;cases hb⟩
    ·exact ZHt h e1 he1
  ·cases h
theorem Zht {n:Nat} {f:Fr}:∀ {s:List Nat},ZOh n f s=true→∀ t ∈ s,∃ e',lkE f t=some e'∧e'.st<n
 | [],_,_,h=>by cases h
 | t :: s,h,t1,ht1=>by
  simp only[ZOh]at h
  split at h
  ·rename_i e' he'
   split at h
   ·cases h
   ·rename_i hb
    rcases List.mem_cons.1 ht1 with rfl | ht1
    ·exact⟨e',he',Nat.lt_of_not_le λhle=>by rw[Nat.ble_eq_true_of_le hle]at hb;cases hb⟩
    ·exact Zht h t1 ht1
  ·cases h
theorem ZCh {f:Fr}:∀ {ks:List Nat} {t:Nat} {e:En V},lkE (ZRa f ks) t=some e→lkE f t=some e∧t ∈ ks
 | [],_,_,h=>by cases h
 | k :: ks,t,e,h=>by
  simp only[ZRa]at h
  split at h
  ·rename_i e' he'
   rw[ZE]at h
   split at h
   ·rename_i hk
    cases h
    have:=(Zl he').2
    rw[this]at hk;subst hk
    exact⟨he',by simp⟩
   ·have:=ZCh h;exact⟨this.1,by simp[this.2]⟩
  ·have:=ZCh h;exact⟨this.1,by simp[this.2]⟩
theorem Zdf {l:List Nat} {t:Nat}:Zia l t=true↔t ∈ l:=by
 induction l with
 | nil=>simp[Zia]
 | cons k r ih =>
  simp only[Zia]
  cases hb:Nat.beq k t
  ·simp only[List.mem_cons];rw[ih];have:¬ t=k:=λe=>by rw[e]at hb;simp at hb
   simp[this]
  ·have:=eQ hb;simp[this]
theorem Ztr {b:Nat} {rs us:List Nat}:∀ {l:Lo},(Zvd b rs us l).Sublist l∧∀ e ∈ Zvd b rs us l,e.k ∉ us
 | []=>⟨List.Sublist.slnil,λe h=>by cases h⟩
 | e :: r=>by
  obtain⟨h1,h2⟩:=Ztr (b:=b) (rs:=rs) (us:=us) (l:=r)
  simp only[Zvd]
  split
  ·exact⟨h1.cons e,h2⟩
  ·rename_i hm
   have hm:e.k ∉ us:=λh=>by rw[Zdf.2 h]at hm;cases hm
   have both:(e :: Zvd b rs us r).Sublist (e :: r)∧∀ e' ∈ e :: Zvd b rs us r,e'.k ∉ us:=⟨h1.cons_cons e,λe' he'=>by
    rcases List.mem_cons.1 he' with rfl | he'
    ·exact hm
    ·exact h2 e' he'⟩
   split
   ·exact both
   ·split
    ·exact both
    ·exact⟨h1.cons e,h2⟩
end Go.Eng
namespace Go.Eng
open Go.RowKit
section
variable {N:Nat} {G:V→Value→Prop} {w0:Base} {v0:Zb} {a:Act} {w:World}
theorem ZAw {n0 n m:Nat} {f f0 fI:Fr} {l l0 l2 s lN:Lo} {γ γ2 γ0:Nat→Gh} {v v2:Zb} {ℓ ℓ2 es:List Loc} {us ks:List Nat}
  (h0:H0 G n0 f0 l0) (hn:n0≤n) (hr:RelX N G w0 v0 (· < n) (· < n) f l a w γ v ℓ) (hr2:RelX N G w0 v0 (· < n) (· < n+1) f l2 a w γ2 v2 ℓ2) (hst:St N w0 v0 [] (es++ℓ2) v2 a w) (hle:Le (· < n) v γ l v2 γ2 l2)
  (ho1:Old n f l f l2) (ho:Old n0 f0 l0 f l) (hs:s.Sublist l0) (hsu:∀ e ∈ s,e.k ∉ us) (hss:Zzh n0 l2 s=true) (hus:∀ u ∈ us,u<n0) (hI:IV a v2 γ l n0 us n0 m fI lN es γ0) (hks:ZOh n0 f ks=true) :
  ∃ γN ℓN,(∀ e ∈ lN,γN e.k=γ0 e.k∧lkE (lN++s) e.k=some e)∧RelX N G w0 v0 (· < m) (· < m) (fI++ZRa f0 ks) (lN++s) a w γN v2 ℓN∧Old n0 f0 l0 (fI++ZRa f0 ks) (lN++s):=by
 have hsm:∀ e ∈ s,e ∈ l0:=λe he=>hs.subset he;have hsn:(s.map En.k).Nodup:=(hs.map _).nodup h0.nd;have hs2:∀ e ∈ s,lkE l2 e.k=some e∧lkE l e.k=some e:=λe he=>by
  obtain⟨e',h1,h2⟩:=ZHt hss e he;have h3:=ho1.2 e.k e' h1 (Nat.lt_of_lt_of_le h2 hn);have h4:=ho.2 e.k e' h3 h2;rw[Zpc h0.nd (hsm e he)]at h4
  cases h4
  exact⟨h1,h3⟩
 have hdis:∀ e ∈ s,e.k ∉ lN.map En.k:=λe he hm=>by
  obtain⟨e',he',hk⟩:=List.mem_map.1 hm;have h1:=(h0.l e (hsm e he)).1;rcases (hI.l e' he').1 with h2 | h2
  ·exact hsu e he (hk ▸ h2)
  ·omega
 have hnd:((lN++s).map En.k).Nodup:=Z7k hI.nd hsn hdis
 let γN:Nat→Gh:=λk=>if k ∈ lN.map En.k then γ0 k else γ2 k
 have hγ:∀ e ∈ lN,γN e.k=γ0 e.k∧lkE (lN++s) e.k=some e:=λe he =>
  ⟨iP (List.mem_map.2 ⟨e,he,rfl⟩),Zpc hnd (List.mem_append_left _ he)⟩
 have hγs:∀ e ∈ s,γN e.k=γ2 e.k:=λe he=>iN (hdis e he);obtain⟨r1,⟨EN,r2,r3⟩,r4⟩:=hI.r γN (lN++s) hγ;obtain⟨E,hE,hpE⟩:=hr.lr;have leN:Le (· < n0) v γ l v2 γN (lN++s):=⟨hle.v,λu e' hu he'=>by
  have hmem:=(Zl he').1;have hk:=(Zl he').2;rcases List.mem_append.1 hmem with hm | hm
  ·obtain⟨e0,q1,q2⟩:=r4 e' hm (by rw[hk];exact hu);rw[hk]at q1 q2;exact⟨e0,q1,q2⟩
  ·obtain⟨q1,q2⟩:=hs2 e' hm;rw[hk]at q1 q2;obtain⟨e,q3,q4⟩:=hle.l u e' (Nat.lt_of_lt_of_le hu hn) q1;refine⟨e,q3,ZZn (λk hk=>Nat.lt_of_lt_of_le hk hn) ?_ q4⟩;have:=hγs e' hm;rw[hk]at this;exact this⟩
 have up:∀ k,k<n0→k<m:=λk hk=>Nat.lt_of_lt_of_le hk hI.le;obtain⟨E2,hE2,hpE2⟩:=hr2.lr;obtain⟨Es,rest,t1,t2⟩:=Zwt hsn (λe he=>(hs2 e he).1) hr2.nd hE2;have hS:F2 (Zra v2 γN (lN++s)) s Es:=t1.impm λe he es' hes hR=>by
  have hin:∀ x ∈ es',x ∈ ℓ2:=λx hx=>hpE2.mem_iff.2 (t2.mem_iff.2 (List.mem_append_left _ (List.mem_flatten.2 ⟨es',hes,hx⟩)));have hg:=hγs e he;obtain⟨q1,q2⟩:=hs2 e he;have hU:=h0.l e (hsm e he);obtain⟨eE,q3,q4⟩:=hle.l e.k e (Nat.lt_of_lt_of_le hU.1 hn) q1;rw[q2]at q3;cases q3;obtain⟨kk,st,L⟩:=e
  cases L with
  | box ty c =>
   obtain⟨b,cs,g1,g2,g3,rfl⟩:=hR;obtain⟨es0,hes0⟩:=ZSd hE (Zl q2).1;obtain⟨jj,es1,k1,k2⟩:=hr.loc q2;obtain⟨b0,cs0,d1,d2,d3,rfl⟩:=k1;have g1:γ2 kk = .box b:=g1;have d1:γ kk = .box b0:=d1;have q4:γ2 kk=γ kk:=q4;have hb:b=b0:=by rw[g1,d1]at q4;cases q4;rfl
   subst hb;obtain⟨i,hi⟩:=k2 _ (List.mem_singleton.2 rfl);have m1:=(hr.st.loc _ (mG hi)).1;have m2:=(hr2.st.loc _ (hin _ (List.mem_singleton.2 rfl))).1;have m1:w.heap[b]? = some (.cells cs0.toArray ty (0,0)):=m1;have m2:w.heap[b]? = some (.cells cs.toArray ty (0,0)):=m2;rw[m1]at m2;have hcs:cs0=cs:=by
    have:=Option.some.inj m2
    injection this with h1 _ _
    have:=congrArg Array.toList h1
    simpa using this
   subst hcs;exact⟨b,cs0,by rw[show γN kk=γ2 kk from hg];exact g1,Zcb leN hU.2.2 d2,d3,rfl⟩
  | own ty t xs fz =>
   cases fz with
   | false=>obtain⟨ob,cap,d,g1,g2⟩:=hR;exact⟨ob,cap,d,by rw[show γN kk=γ2 kk from hg];exact g1,g2⟩
   | true=>obtain⟨ob,cap,g1,g2⟩:=hR;exact⟨ob,cap,by rw[show γN kk=γ2 kk from hg];exact g1,g2⟩
  | mat ty ty2 t mm hv=>obtain⟨ob,cap,rows,es2,g1,g2⟩:=hR;exact⟨ob,cap,rows,es2,by rw[show γN kk=γ2 kk from hg];exact g1,g2⟩
  | mid ty ty2 t mm hv s=>obtain⟨ob,cap,rows,es2,hs,es3,g1,g2⟩:=hR;exact⟨ob,cap,rows,es2,hs,es3,by rw[show γN kk=γ2 kk from hg];exact g1,g2⟩
 have hstN:St N w0 v0 [] (EN.flatten++Es.flatten) v2 a w:=by
  have h1:=hst.perm ((List.Perm.append r3 (hpE2.trans t2)));refine h1.drop ?_;rw[← aAq];exact List.sublist_append_left _ _
 have hkeep:∀ t e,lkE (ZRa f0 ks) t=some e→lkE f t=some e∧lkE f0 t=some e:=λt e he=>by
  obtain⟨q1,q2⟩:=ZCh he;obtain⟨e',q3,q4⟩:=Zht hks t q2;have:=ho.1 t e' q3 q4;rw[q1]at this;cases this;exact⟨q3,q1⟩
 refine⟨γN,_,hγ,⟨hstN,λt e he=>?_,⟨EN++Es,r2.append hS,by rw[List.flatten_append]⟩,hnd,λt e he=>?_,λe he=>?_,λx y hg=>?_⟩,λt e he hst=>?_,λu e he hst=>?_⟩
 ·rw[Z9k]at he
  cases hx:lkE fI t with
  | some e1 =>
   rw[hx]at he;cases he;obtain⟨q1,q2⟩:=Zl hx;rw[← q2];exact r1 e q1
  | none =>
   rw[hx]at he;obtain⟨q1,q2⟩:=hkeep t e he;exact Z6a leN (h0.f t e q2).1 (hr.fr t e q1)
 ·rw[Z9k]at he
  cases hx:lkE fI t with
  | some e1 =>
   rw[hx]at he;cases he;obtain⟨q1,q2,q3⟩:=hI.f e (Zl hx).1;exact⟨q1,q3⟩
  | none =>
   rw[hx]at he;obtain⟨q1,q2⟩:=hkeep t e he;obtain⟨q3,q4⟩:=h0.f t e q2;exact⟨V.ok.mono up q3,up _ q4⟩
 ·rcases List.mem_append.1 he with he | he
  ·obtain⟨q1,q2,q3,q4⟩:=hI.l e he;refine⟨?_,q3,q4⟩;rcases q1 with q1 | q1
   ·exact up _ (hus _ q1)
   ·exact q1.2
  ·obtain⟨q1,q2,q3⟩:=h0.l e (hsm e he);exact⟨up _ q1,up _ q2,LV.ok.mono up up q3⟩
 ·exact⟨Z6a leN (h0.g x y hg) (hr.gh x y hg).1,V.ok.mono up (h0.g x y hg)⟩
 ·rw[Z9k]at he
  cases hx:lkE fI t with
  | some e1 =>
   rw[hx]at he;cases he;have:=(hI.f e (Zl hx).1).2.1;omega
  | none =>
   rw[hx]at he;exact (hkeep t e he).2
 ·rcases List.mem_append.1 (Zl he).1 with hm | hm
  ·have:=(hI.l e hm).2.1;omega
  ·have:=Zpc h0.nd (hsm e hm);rw[(Zl he).2]at this;exact this
def bF (f0:Fr) (l0:Lo) (j:Js) (x:jT j) (n:Nat):Fr:=(ZEb f0 l0 j.vs x n).1++ZRa f0 j.keep
def bL (b:Nat) (f0:Fr) (l0:Lo) (j:Js) (x:jT j) (n:Nat):Lo:=(ZEb f0 l0 j.vs x n).2.1++stayL b f0 l0 j j.vs
def bN (f0:Fr) (l0:Lo) (j:Js) (x:jT j) (n:Nat):Nat:=(ZEb f0 l0 j.vs x n).2.2
theorem Z3k {α:Type} {b:Nat} {f0:Fr} {l0:Lo} {j:Js} {x:jT j} {n:Nat} {K:Fr→Lo→Nat→α}:build b f0 l0 j x n K=K (bF f0 l0 j x n) (bL b f0 l0 j x n) (bN f0 l0 j x n):=rfl
theorem ZOk {α:Type} {r:α} {b n0 n:Nat} {f0 f:Fr} {l0 l:Lo} {j:Js} {K:jT j→Option α} (h0:H0 G n0 f0 l0) (hn:n0≤n) (hr:Rel N G w0 v0 (· < n) f l a w) (ho:Old n0 f0 l0 f l) (h:ZYd b n0 n f0 l0 f l j K=some r) :
  ∃ x,K x=some r∧n0≤bN f0 l0 j x n0∧Rel N G w0 v0 (· < bN f0 l0 j x n0) (bF f0 l0 j x n0) (bL b f0 l0 j x n0) a w∧Old n0 f0 l0 (bF f0 l0 j x n0) (bL b f0 l0 j x n0):=by
 obtain⟨γ,v,ℓ,hr⟩:=hr;have h1:=ZIg (Nat.le_refl n) Old.refl hr.nd (ZYf h);have hr':RelX N G w0 v0 (· < n) (· < n+1) f l a w γ v ℓ:=hr.mono (λ_ h=>h) λk h=>(show k<n+1 by have:k<n:=h;omega);obtain⟨E,hE,_⟩:=hr.lr;obtain⟨x,l2,γ2,v2,ℓ2,es,us,k1,k2,k3,k4,k5,k6,k7⟩:=Zln (ex:=[]) h0 hn h1 hr' hr.st (Le.refl hE (Zb.le_refl _));obtain⟨q1,q2⟩:=k1;split at q1
 ·rename_i hS hL;obtain⟨γ0,hI⟩:=Zmo k5 k6 (λu hu=>(k7 u hu).1) (Nat.le_refl n0) (hvOf_le h0);have hsub:=Ztr (b:=b) (rs:=Zwi l0 50 (idsF (ZRa f0 j.keep)) []) (us:=gone f0 l0 j.drop j.vs) (l:=l0);obtain⟨γN,ℓN,_,p2,p3⟩:=ZAw h0 hn hr k2 k3 k4 q2 ho hsub.1 (λe he hu=>hsub.2 e he (List.mem_append_right _ (k7 _ hu).2.2)) hL (λu hu=>(k7 u hu).1) hI hS;exact⟨x,q1,hI.le,⟨γN,v2,ℓN,p2⟩,p3⟩
 ·cases q1
def Ress (P:Program) (tmps:Array Value) (w:World) (rs:List ResultVar) (vals:List Value):Prop:=F2 (λr y=>Res P tmps w r y) rs vals
def RetR (P:Program) (rs:List ResultVar) (N:Nat) (G:V→Value→Prop) (w0:Base) (v0:Zb) (c:V) (l:Lo) (n:Nat) (a:Act) (w:World):Prop :=
 ∃ γ v ℓ vals,RelX N G w0 v0 (· < n) (· < n) [] l a w γ v ℓ∧RR v γ l true c vals∧c.ok (· < n)∧Ress P a.tmps w rs vals
def Zjc (m:Nat) (l l':Lo):Prop:=∀ u e,lkE l' u=some e→e.st<m→lkE l u=some e
theorem Old.l {m:Nat} {f f':Fr} {l l':Lo} (h:Old m f l f' l'):Zjc m l l':=h.2
theorem Zjc.trans {m m':Nat} {l l' l'':Lo} (h:Zjc m l l') (k:Zjc m' l' l'') (hm:m≤m'):Zjc m l l'':=λu e he hs=>h u e (k u e he (by omega)) hs
theorem Zjc.mono {m m':Nat} {l l':Lo} (h:Zjc m' l l') (hm:m≤m'):Zjc m l l':=λu e he hs=>h u e he (by omega)
end
theorem Zac {v:Zb} {γ:Nat→Gh} {l:Lo} {U:Nat→Prop} {n:Nat}:∀ {c:V} {k t:Nat} {e:En V} {vals:List Value},RR v γ l true c vals→c.ok U→lkE (Zyb n k c) t=some e→∃ y,k≤t∧vals[t-k]? = some y∧RV v γ l e.x y∧e.x.ok U∧e.st=n:=by
 intro c
 induction c with
 | cons a b ia ib =>
  intro k t e vals h hk he;obtain⟨cs,xs,rfl,h1,h2⟩:=h;simp only[Zyb]at he;rw[ZE]at he;split at he
  ·rename_i hkt
   cases he
   have hkt:k=t:=hkt;subst hkt;exact⟨a.val cs,Nat.le_refl _,by simp,ZQb h1 (λc e=>by subst e;exact h1),hk.1,rfl⟩
  ·rename_i hkt;have hkt:¬ k=t:=hkt;obtain⟨y,q1,q2,q3⟩:=ib h2 hk.2 he;refine⟨y,by omega,?_,q3⟩;have:t-k=(t-(k+1))+1:=by omega
   rw[this];simpa using q2
 | _=>intro k t e vals h hk he;cases he
theorem ZAt {v:Zb} {γ:Nat→Gh} {l:Lo}:∀ {c:V} {vals:List Value},RR v γ l true c vals→vals.length=lenV c:=by
 intro c
 induction c with
 | nl=>intro vals h;rw[show vals=[] from h];rfl
 | cons a b ia ib=>intro vals h;obtain⟨cs,xs,rfl,h1,h2⟩:=h;simp[ib h2,lenV]
 | _=>intro vals h;exact h.elim
theorem Zkz {N N':Nat} {G:V→Value→Prop} {w0:Base} {v0:Zb} {a:Act} {w:World} {γ:Nat→Gh} {v:Zb} {ℓ:List Loc} {ags:V} {l:Lo} {n:Nat} {vals:List Value} (hr:RelX N G w0 v0 (· < n) (· < n) [] l a w γ v ℓ) (has:RR v γ l true ags vals) (hk:ags.ok (· < n)) (hN:vals.length≤N') :
  RelX N' G w0 v0 (· < n+1) (· < n+1) (Zyb n 0 ags) l { tmps:=vals.toArray++Array.replicate (N'-vals.toArray.size) undef,defers:=[] } w γ v ℓ:=by
 have hm:=hr.mono (U':=(· < n+1)) (X':=(· < n+1)) (λk h=>(show k<n+1 by have:k<n:=h;omega)) λk h=>(show k<n+1 by have:k<n:=h;omega);refine⟨⟨by simp;omega,rfl,λt x h=>(by cases h),hr.st.ext,hr.st.vst,hr.st.loc,hr.st.nd⟩,λt e he=>?_,hm.lr,hm.nd,λt e he=>?_,hm.ul,hm.gh⟩
 ·obtain⟨y,h1,h2,h3,h4,h5⟩:=Zac has hk he;have hlt:t<vals.length:=(List.getElem?_eq_some_iff.1 h2).1;have h3':vals[t]=y:=(List.getElem?_eq_some_iff.1 h2).2;have:((vals.toArray++Array.replicate (N'-vals.toArray.size) undef).getD t undef)=y:=by
   simp[Array.getElem?_append,hlt,h3']
  rw[this];exact h3
 ·obtain⟨y,h1,h2,h3,h4,h5⟩:=Zac has hk he;exact⟨V.ok.mono (λk h=>(show k<n+1 by have:k<n:=h;omega)) h4,by show e.st<n+1;omega⟩
theorem ZLv {N:Nat} {G:V→Value→Prop} {w0:Base} {v0:Zb} {a:Act} {w:World} {γ:Nat→Gh} {v:Zb} {ℓ:List Loc} {ags:V} {l:Lo} {n k:Nat} {vals:List Value} (hr:RelX N G w0 v0 (· < n) (· < n) [] l a w γ v ℓ) (has:RR v γ l true ags vals) (hk:ags.ok (· < n)) :
  RelX (k+vals.length) G w0 v0 (· < n+1) (· < n+1) (Zyb n k ags) l { tmps:=(List.replicate k undef++vals).toArray,defers:=[] } w γ v ℓ:=by
 have hm:=hr.mono (U':=(· < n+1)) (X':=(· < n+1)) (λk h=>(show k<n+1 by have:k<n:=h;omega)) λk h=>(show k<n+1 by have:k<n:=h;omega);refine⟨⟨by simp,rfl,λt x h=>(by cases h),hr.st.ext,hr.st.vst,hr.st.loc,hr.st.nd⟩,λt e he=>?_,hm.lr,hm.nd,λt e he=>?_,hm.ul,hm.gh⟩
 ·obtain⟨y,h1,h2,h3,h4,h5⟩:=Zac has hk he;have:((List.replicate k undef++vals).toArray.getD t undef)=y:=by
   rw[Array.getD_eq_getD_getElem?,List.getElem?_toArray,List.getElem?_append_right (by simpa using h1)];simp[h2]
  rw[this];exact h3
 ·obtain⟨y,h1,h2,h3,h4,h5⟩:=Zac has hk he;exact⟨V.ok.mono (λk h=>(show k<n+1 by have:k<n:=h;omega)) h4,by show e.st<n+1;omega⟩
theorem getRep {vals:List Value} {k i:Nat} {y:Value} (h:vals[i]? = some y):(List.replicate k undef++vals).toArray.getD (k+i) undef=y:=by
 rw[Array.getD_eq_getD_getElem?,List.getElem?_toArray,List.getElem?_append_right (by simp)];simp[h]
theorem Zvt {v:Zb} {γ:Nat→Gh} {l:Lo} {U:Nat→Prop} {f:Fr} {tm:Array Value} (hf:∀ t e,lkE f t=some e→RV v γ l e.x (tm.getD t undef)∧e.x.ok U):∀ {vals:List Value} {t:Nat} {c:V},ZDj f vals.length t=some c→(∀ i y,vals[i]? = some y→tm.getD (t+i) undef=y)→RR v γ l true c vals∧c.ok U
 | [],t,c,h,_=>by cases h;exact⟨rfl,trivial⟩
 | y :: vals,t,c,h,hv=>by
  simp only[List.length_cons,ZDj]at h
  split at h
  ·cases h
  ·rename_i e c' hnt hc he
   cases h
   obtain⟨h1,h2⟩:=hf t e hc
   obtain⟨cs,hcs,hy⟩:=Z1a h1 (λq hq=>by obtain⟨k,s,x⟩:=e;have hq:x = .tup q:=hq;subst hq;exact hnt _ _ _ rfl)
   obtain⟨k1,k2⟩:=Zvt hf (vals:=vals) he λi y hi=>by
    have:=hv (i+1) y (by simpa using hi)
    rwa [show t+(i+1)=t+1+i by omega]at this
   have h0:=hv 0 y (by simp)
   rw[Nat.add_zero]at h0
   exact⟨⟨cs,vals,by rw[← h0,hy],hcs,k1⟩,h2,k2⟩
  ·cases h
section
variable {N:Nat} {G:V→Value→Prop} {w0:Base} {v0:Zb} {a:Act} {w:World}
theorem ZcA {α β:Type} {r:α} {P:Program} {rs:List ResultVar} {b n0 n:Nat} {f0:Fr} {l0 l:Lo} {c:V} {j:Js} {K:jT j→Option α} (h0:H0 G n0 f0 l0) (hn:n0≤n) (hr:RetR P rs N G w0 v0 c l n a w) (ho:Zjc n0 l0 l) (h:Zgi b n0 n f0 l0 c l j K=some r) :
  ∃ x,K x=some r∧∀ {KR:V→Lo→Nat→Option β} {q:β},build b f0 l0 j x n0 (retK j.vs KR)=some q→∃ c' l' m,KR c' l' m=some q∧n0≤m∧RetR P rs N G w0 v0 c' l' m a w∧Zjc n0 l0 l':=by
 obtain⟨γ,v,ℓ,vals,hr,hc,hk,hres⟩:=hr;unfold Zgi at h;split at h
 ·rename_i k hkeep hord;split at h
  ·rename_i hlen;have hlen:=eQ hlen;have hvl:=ZAt hc;have hx:=ZLv (k:=1000) hr hc hk;obtain⟨x,k1,k2,k3,k4⟩:=ZOk h0 (Nat.le_succ_of_le hn) ⟨_,_,_,hx⟩ ⟨λt e he hst=>by
    obtain⟨y,h1,h2,h3,h4,h5⟩:=Zac hc hk he;omega,ho⟩ h
   refine⟨x,k1,λ{KR q} hq=>?_⟩;rw[Z3k]at hq;unfold retK at hq;rw[hord]at hq;simp only at hq;split at hq
   ·rename_i c' hc';obtain⟨γ',v',ℓ',hr'⟩:=k3;refine⟨c',_,_,hq,k2,⟨γ',v',ℓ',vals,⟨⟨hr.st.size,hr.st.dfr,λt x h=>(by cases h),hr'.st.ext,hr'.st.vst,hr'.st.loc,hr'.st.nd⟩,λt e he=>(by cases he),hr'.lr,hr'.nd,λt e he=>(by cases he),hr'.ul,hr'.gh⟩,?_⟩,k4.l⟩;rw[show k-1000=vals.length by omega]at hc';obtain⟨g1,g2⟩:=Zvt (U:=(· < bN f0 l0 j x n0)) (λt e he=>⟨hr'.fr t e he,(hr'.uf t e he).1⟩) hc' λi y hi=>by
     exact getRep hi
    exact⟨g1,g2,hres⟩
   ·cases hq
  ·cases h
 ·cases h
end
end Go.Eng
namespace Go.Eng
open Go.RowKit
theorem ZFy:∀ {t:T},ZLg t=true→∀ {v v':Zb} {cs:List Value} {x:t.den},t.rep.rel v cs x→t.rep.rel v' cs x:=by
 intro t
 induction t with
 | int k=>intro _ v v' cs x h;exact h
 | bool=>intro _ v v' cs x h;exact h
 | flt k=>intro _ v v' cs x h;exact h
 | str=>intro _ v v' cs x h;exact h
 | one a ih=>intro ht v v' cs x h;exact ih ht (x:=x) h
 | pair a b ia ib =>
  intro ht v v' cs x h;simp only[ZLg]at ht;split at ht
  ·rename_i ha;obtain⟨c1,c2,e,h1,h2⟩:=h;exact⟨c1,c2,e,ia ha h1,ib ht h2⟩
  ·cases ht
 | _=>intro ht;cases ht
theorem ZFn {v v':Zb} {γ γ':Nat→Gh} {l l':Lo}:∀ {x:V},Z9b x=true→∀ {b:Bool} {cs:List Value},RR v γ l b x cs→RR v' γ' l' b x cs:=by
 intro x
 induction x with
 | data t x=>intro hx b cs h;cases b with
  | false=>exact ZFy (t:=t) hx h
  | true=>exact h.elim
 | cons a c ia ic =>
  intro hx b cs h;simp only[Z9b]at hx;split at hx
  ·rename_i ha
   cases b with
   | false=>obtain⟨c1,c2,e,h1,h2⟩:=h;exact⟨c1,c2,e,ia ha h1,ic hx h2⟩
   | true=>obtain⟨c1,xs,e,h1,h2⟩:=h;exact⟨c1,xs,e,ia ha h1,ic hx h2⟩
  ·cases hx
 | agg c ih=>intro hx b cs h;cases b with
  | false=>exact ih hx (b:=false) h
  | true=>exact h.elim
 | tup c ih=>intro hx b cs h;cases b <;> exact h.elim
 | undef=>intro hx b cs h;cases b <;> exact h
 | nilS=>intro hx b cs h;cases b <;> exact h
 | nl=>intro hx b cs h;cases b <;> exact h
 | _=>intro hx;cases hx
theorem flat_RV {v v':Zb} {γ γ':Nat→Gh} {l l':Lo} {x:V} {y:Value} (hx:Z9b x=true) (h:RV v γ l x y):RV v' γ' l' x y:=by
 cases x with
 | tup c=>obtain⟨vs,h1,e⟩:=h;exact⟨vs,ZFn (x:=c) hx h1,e⟩
 | _=>obtain⟨cs,h1,e⟩:=h;exact⟨cs,ZFn hx h1,e⟩
theorem Z9t {U:Nat→Prop}:∀ {x:V},Z9b x=true→x.ok U:=by
 intro x
 induction x with
 | cons a c ia ic =>
  intro hx;simp only[Z9b]at hx;split at hx
  ·rename_i ha;exact⟨ia ha,ic hx⟩
  ·cases hx
 | agg c ih=>intro hx;exact ih hx
 | tup c ih=>intro hx;exact ih hx
 | data t x=>intro _;trivial
 | undef=>intro _;trivial
 | nilS=>intro _;trivial
 | nl=>intro _;trivial
 | _=>intro hx;cases hx
theorem ZHi {f r:Fr}:∀ {ss:List Nat} {t:Nat} {e:En V},lkE (ZYb f r ss) t=some e→(lkE f t=some e∧Z9b e.x=true)∨lkE r t=some e
 | [],_,_,h=>.inr h
 | s :: ss,t,e,h=>by
  simp only[ZYb]at h
  split at h
  ·rename_i e1 he
   split at h
   ·rename_i hfl
    rw[ZE]at h
    split at h
    ·rename_i hk
     cases h
     have:=(Zl he).2
     rw[hk]at this;subst this
     exact .inl ⟨he,hfl⟩
    ·exact ZHi h
   ·exact ZHi h
  ·exact ZHi h
theorem lkE_sub {us:List Nat}:∀ {l:Lo} {u:Nat} {e:En LV},lkE (Z0a us l) u=some e→(l.map En.k).Nodup→lkE l u=some e:=by
 intro l u e h hn;have hsub:(Z0a us l).Sublist l:=by
  clear h hn
  induction l with
  | nil=>exact List.Sublist.slnil
  | cons p r ih =>
   simp only[Z0a];split
   ·exact ih.cons_cons p
   ·exact ih.cons p
 obtain⟨hm,hk⟩:=Zl h;have:=Zpc hn (hsub.subset hm);rw[hk]at this;exact this
theorem Z1k {us:List Nat}:∀ {l:Lo},(Z0a us l).Sublist l:=by
 intro l
 induction l with
 | nil=>exact List.Sublist.slnil
 | cons p r ih =>
  simp only[Z0a];split
  ·exact ih.cons_cons p
  ·exact ih.cons p
theorem Zzz {us:List Nat} {e:En LV}:∀ {l:Lo},e ∈ Z0a us l→Zia us e.k=true:=by
 intro l
 induction l with
 | nil=>intro h;cases h
 | cons p r ih =>
  intro h;simp only[Z0a]at h;split at h
  ·rename_i hp;rcases List.mem_cons.1 h with rfl | h
   ·exact hp
   ·exact ih h
  ·exact ih h
theorem Zkr {R:En LV→List Loc→Prop} {us:List Nat}:∀ {l:Lo} {E:List (List Loc)},F2 R l E→∃ E',F2 R (Z0a us l) E'∧E'.flatten.Sublist E.flatten
 | [],[],_=>⟨[],trivial,List.Sublist.refl _⟩
 | [],_ :: _,h=>h.elim
 | _ :: _,[],h=>h.elim
 | p :: r,es :: E,h=>by
  obtain⟨E',h1,h2⟩:=Zkr (us:=us) h.2
  simp only[Z0a]
  split
  ·exact⟨es :: E',⟨h.1,h1⟩,by simp only[List.flatten_cons];exact List.Sublist.append (List.Sublist.refl _) h2⟩
  ·exact⟨E',h1,by simp only[List.flatten_cons];exact h2.trans (List.sublist_append_right _ _)⟩
section
variable {N:Nat} {G:V→Value→Prop} {w0:Base} {v0:Zb} {U X:Nat→Prop} {f:Fr} {l:Lo} {a:Act} {w:World} {γ:Nat→Gh} {v:Zb} {ℓ:List Loc}
theorem RelX.sub (h:RelX N G w0 v0 U X f l a w γ v ℓ) (us:List Nat):∃ ℓ',RelX N G w0 v0 U X f (Z0a us l) a w γ v ℓ'∧∃ E',F2 (Zra v γ (Z0a us l)) (Z0a us l) E'∧ℓ'=E'.flatten:=by
 obtain⟨E,hE,hp⟩:=h.lr;have hle:Le U v γ l v γ (Z0a us l):=⟨Zb.le_refl _,λk e' _ he=>by
  have he':=lkE_sub he h.nd;refine⟨e',he',?_⟩;obtain⟨hm,hk'⟩:=Zl he';obtain⟨es,hr⟩:=ZSd hE hm;have:=Z2g (U:=U) (γ':=γ) hr rfl;rw[hk']at this;exact this⟩
 obtain⟨E',h1,h2⟩:=Zkr (us:=us) hE;have h3:F2 (Zra v γ (Z0a us l)) (Z0a us l) E':=h1.imp λe he es hr=>ZYg hle (h.ul e (Z1k.subset he)).2.2 rfl hr;exact⟨_,⟨(h.st.perm hp).drop h2,λt e he=>Z6a hle (h.uf t e he).1 (h.fr t e he),⟨E',h3,List.Perm.refl _⟩,(Z1k.map _).nodup h.nd,h.uf,λe he=>h.ul e (Z1k.subset he),λx y hg=>⟨Z6a hle (h.gh x y hg).2 (h.gh x y hg).1,(h.gh x y hg).2⟩⟩,E',h3,rfl⟩
def IsFz (l:Lo) (u:Nat):Prop:=∃ k st ty t xs,lkE l u=some ⟨k,st,.own ty t xs true⟩
theorem Zol {ρ:Type} {n:Nat} {e:Ev ρ} {Post:ρ→Fr→Lo→Prop} (hn:¬ U n) (hX:X n):∀ {ids:List Nat} {l:Lo} {v:Zb} {ℓ:List Loc},Zj n (Zsh e ids) f l Post→RelX N G w0 v0 U X f l a w γ v ℓ→∃ l1 v' ℓ',Zj n e f l1 Post∧RelX N G w0 v0 U X f l1 a w γ v' ℓ'∧(∀ u,IsFz l u→IsFz l1 u)∧∀ u ∈ ids,IsFz l1 u
 | [],l,v,ℓ,h,hr=>⟨l,v,ℓ,h,hr,λ_ h=>h,λ_ h=>by cases h⟩
 | u :: ids,l,v,ℓ,h,hr=>by
  obtain⟨⟨kk,st,L⟩,hu,h⟩:=h
  cases L with
  | own ty t xs fz =>
   cases fz with
   | false =>
    obtain⟨v',ℓ',h1,_⟩:=hr.freeze (ex:=[]) (n:=n) hr.st hu hn hX
    obtain⟨l2,v2,ℓ2,h0,h2,h3,h4⟩:=Zol hn hX h h1
    have hz:IsFz (⟨u,n,.own ty t xs true⟩ :: era l u) u:=⟨u,n,ty,t,xs,by rw[ZE,iP rfl]⟩
    refine⟨l2,v2,ℓ2,h0,h2,λu' hu'=>h3 u' ?_,λu' hu'=>?_⟩
    ·obtain⟨k',st',ty',t',xs',e⟩:=hu'
     have hne:¬ u=u':=λe2=>by subst e2;rw[hu]at e;cases e
     exact⟨k',st',ty',t',xs',by rw[ZE,iN hne,ZJb hr.nd,iN hne];exact e⟩
    ·rcases List.mem_cons.1 hu' with rfl | hu'
     ·exact h3 _ hz
     ·exact h4 u' hu'
   | true =>
    obtain⟨l2,v2,ℓ2,h0,h2,h3,h4⟩:=Zol hn hX h hr
    refine⟨l2,v2,ℓ2,h0,h2,h3,λu' hu'=>?_⟩
    rcases List.mem_cons.1 hu' with rfl | hu'
    ·exact h3 _ ⟨_,_,_,_,_,hu⟩
    ·exact h4 u' hu'
  | box _ _=>exact h.elim
  | mat _ _ _ _ _=>exact h.elim
  | mid _ _ _ _ _ _=>exact h.elim
theorem Z2r {ρ:Type} {n:Nat} {e:Ev ρ} {Post:ρ→Fr→Lo→Prop} (hn:¬ U n) (hX:X n):∀ {bs:List (Nat×T)} {f:Fr} {l:Lo} {γ:Nat→Gh} {v:Zb} {ℓ:List Loc},Zj n (Z6k e bs) f l Post→RelX N G w0 v0 U X f l a w γ v ℓ→∃ f1 l1 γ' v' ℓ',Zj n e f1 l1 Post∧RelX N G w0 v0 U X f1 l1 a w γ' v' ℓ'
 | [],f,l,γ,v,ℓ,h,hr=>⟨f,l,γ,v,ℓ,h,hr⟩
 | p :: bs,f,l,γ,v,ℓ,h,hr=>by
  obtain⟨⟨kk,st,x⟩,hu,h⟩:=h
  cases x with
  | ptr u off =>
   obtain⟨y,l',γ',v',ℓ',h1,h2,_,h4⟩:=Zdd hn hX FU h hr (hr.uf _ _ hu).1
   obtain⟨cs,hcs,hy⟩:=Z1a (hr.fr _ _ hu) (λc e=>by cases e)
   obtain⟨b,o,c,e0,hat,hrel⟩:=(show (rPtr p.2.rep).rel v' cs y from h4 cs hcs)
   have hyy:a.tmps.getD p.1 undef = .pointer (some ⟨b,o,none⟩):=by rw[hy,e0];rfl
   have r2:=h2.slot (t:=p.1) (m:=n) (z:=.vp p.2 y 0) ⟨[_],⟨b,o,c,hat,hrel,rfl⟩,hyy⟩ trivial hX
   exact Z2r hn hX h1 r2
  | _=>exact h.elim
theorem ZGr {R:En LV→List Loc→Prop}:∀ {l:Lo} {E:List (List Loc)},F2 R l E→(∀ e ∈ l,∀ es,R e es→es=[])→E.flatten=[]
 | [],[],_,_=>rfl
 | [],_ :: _,h,_=>h.elim
 | _ :: _,[],h,_=>h.elim
 | p :: r,es :: E,h,k=>by
  rw[List.flatten_cons,k p (by simp) es h.1,ZGr h.2 λe he=>k e (by simp[he])];rfl
theorem lend_in {n:Nat} {ids:List Nat} {bs:List (Nat×T)} {Post:Unit→Fr→Lo→Prop} (h:RelX N G w0 v0 (· < n) (· < n) f l a w γ v ℓ) (hz:Zj n (Z6k (Zsh (.done ()) ids) bs) f l Post):∃ f1 l1 γ1 v1,Post () f1 l1∧RelX N G (w:Base) v1 (· < n+1) (· < n+1) f1 (Z0a ids l1) a w γ1 v1 []:=by
 have hm:=h.mono (U':=(· < n)) (X':=(· < n+1)) (λk h=>h) λk h=>(show k<n+1 by have:k<n:=h;omega);obtain⟨f1,l0,γ,v2,ℓ0,hz1,hm1⟩:=Z2r (U:=(· < n)) (X:=(· < n+1)) (Nat.lt_irrefl n) (Nat.lt_succ_self n) hz hm;obtain⟨l1,v1,ℓ1,hP,h1,_,h3⟩:=Zol (U:=(· < n)) (X:=(· < n+1)) (Nat.lt_irrefl n) (Nat.lt_succ_self n) hz1 hm1;obtain⟨ℓ2,h4,E',h5,h6⟩:=h1.sub ids;have e0:ℓ2=[]:=by
  rw[h6];refine ZGr h5 λe he es hr=>?_;obtain⟨k',st',ty',t',xs',e1⟩:=h3 e.k (Zdf.1 (Zzz he));have e2:=Zpc h1.nd (Z1k.subset he);rw[e1]at e2
  cases e2
  obtain⟨ob,cap,_,_,rfl⟩:=hr;rfl
 subst e0;have h4:=h4.mono (U':=(· < n+1)) (X':=(· < n+1)) (λk h=>(show k<n+1 by have:k<n:=h;omega)) λ_ h=>h;exact⟨f1,l1,γ,v1,hP,⟨h4.st.size,h4.st.dfr,h4.st.fr,ExtB.refl _,⟨Zb.le_refl _,h4.st.vst.vin,λ_ _ _=>rfl⟩,λe he=>(by cases he),List.nodup_nil⟩,h4.fr,h4.lr,h4.nd,h4.uf,h4.ul,h4.gh⟩
theorem Zir {n:Nat} {F:Fr} {v1 v':Zb} {ℓ':List Loc} {a':Act} {w':World} (h:RelX N G w0 v0 (· < n) (· < n) f l a w γ v ℓ) (hs:St N (w:Base) v1 [] ℓ' v' a' w') (hU:∀ k,k<n→U k) (hX:∀ k,k<n→X k)
  (hF:∀ t e,lkE F t=some e→RV v γ l e.x (a'.tmps.getD t undef)∧e.x.ok U∧X e.st):RelX N G w0 v0 U X F l a' w' γ v ℓ:=by
 have hx:Ext w w':=hs.ext.ext;refine⟨⟨hs.size,hs.dfr,λt x e=>(by cases e),h.st.ext.trans hx,⟨h.st.vst.le,λb o e=>hx.get (h.st.vst.vin b o e),h.st.vst.old⟩,λe he=>⟨Loc.holds_ext hx (h.st.loc e he).1,(h.st.loc e he).2⟩,h.st.nd⟩,λt e he=>(hF t e he).1,h.lr,h.nd,λt e he=>(hF t e he).2,λe he=>?_,λx y hg=>⟨(h.gh x y hg).1,V.ok.mono hU (h.gh x y hg).2⟩⟩;exact⟨hX _ (h.ul e he).1,hX _ (h.ul e he).2.1,LV.ok.mono hU hX (h.ul e he).2.2⟩
theorem Zyy {n n':Nat} {f' f1:Fr} {ls l1 l':Lo} {γ':Nat→Gh} {v1 v':Zb} {ℓ':List Loc} {a':Act} {w':World} {fl keep:List Nat} (h:RelX N G w0 v0 (· < n) (· < n) f l a w γ v ℓ) (h':RelX N G (w:Base) v1 (· < n') (· < n') f' l' a' w' γ' v' ℓ') (hn:n+1≤n') (ho0:Old n f l f1 l1) (ho:Old (n+1) f1 ls f' l')
  (hp:∀ t,Zia keep t=true→a'.tmps.getD t undef=a.tmps.getD t undef):(∀ t e,lkE (ZYb f' (ZRa f keep) fl) t=some e→RV v γ l e.x (a'.tmps.getD t undef)∧e.x.ok (· < n)∧e.st<n')∧∀ t e,lkE (ZYb f' (ZRa f keep) fl) t=some e→e.st<n→lkE f t=some e:=by
 refine⟨λt e he=>?_,λt e he hst=>?_⟩
 ·rcases ZHi he with ⟨h1,h2⟩ | h1
  ·exact⟨flat_RV h2 (h'.fr t e h1),Z9t h2,(h'.uf t e h1).2⟩
  ·obtain⟨h2,h3⟩:=ZCh h1;have h4:=h.uf t e h2;refine⟨?_,h4.1,(show e.st<n' by have:e.st<n:=h4.2;omega)⟩;rw[hp t (Zdf.2 h3)];exact h.fr t e h2
 ·rcases ZHi he with ⟨h1,h2⟩ | h1
  ·exact ho0.1 t e (ho.1 t e h1 (by omega)) hst
  ·exact (ZCh h1).1
theorem ZAm {d:Nat} {U:Nat→Prop} (hl:lkE l d=none) (hd:U d):∀ {cs:List Value},cs.all plain=true→RR v γ l false (ZDg d cs.length) cs∧(ZDg d cs.length).ok U
 | [],_=>⟨rfl,trivial⟩
 | c :: cs,h=>by
  rw[List.all_cons,Bool.and_eq_true]at h
  obtain⟨h1,h2⟩:=ZAm hl hd h.2
  refine⟨⟨[c],cs,rfl,⟨c,rfl,h.1,λe he=>?_⟩,h1⟩,hd,h2⟩
  rw[hl]at he;cases he
theorem ZGt {n n' m:Nat} {f' f1 fb:Fr} {ls l1 l' lb:Lo} {γ':Nat→Gh} {v1 v':Zb} {ℓ':List Loc} {a':Act} {w':World} {fl keep nb:List Nat} (h:RelX N G w0 v0 (· < n) (· < n) f l a w γ v ℓ) (h':RelX N G (w:Base) v1 (· < n') (· < n') f' l' a' w' γ' v' ℓ') (hn:n+1≤n') (ho0:Old n f l f1 l1) (ho:Old (n+1) f1 ls f' l')
  (hp:∀ t,Zia keep t=true→a'.tmps.getD t undef=a.tmps.getD t undef) (hb:nbL n n' f' l' l nb=some (fb,lb,m)):n≤m∧Rel N G w0 v0 (· < m) (fb++ZYb f' (ZRa f keep) fl) lb a' w'∧Old n f l (fb++ZYb f' (ZRa f keep) fl) lb:=by
 obtain⟨hF,hO⟩:=Zyy (fl:=fl) h h' hn ho0 ho hp;have hcore:RelX N G w0 v0 (· < n) (· < n') (ZYb f' (ZRa f keep) fl) l a' w' γ v ℓ:=Zir h h'.st (λk hk=>hk) (λk hk=>(show k<n' by omega)) hF;unfold nbL at hb;split at hb
 ·cases hb
  exact⟨by omega,⟨_,_,_,hcore.mono (λk hk=>(show k<n' by have:k<n:=hk;omega)) λ_ h=>h⟩,⟨hO,λu e he _=>he⟩⟩
 ·rename_i s;split at hb
  ·rename_i k0 st0 u hs;split at hb
   ·rename_i k1 st1 ty c hu hnone hlt;split at hb
    ·rename_i hag
     cases hb
     have hlt:n<u:=lBq hlt;have hk1:k1=u:=(Zl hu).2;subst hk1;have hu':k1<n':=(h'.ul _ (Zl hu).1).1;obtain⟨E',hE',hpE'⟩:=h'.lr;obtain⟨es,E2,r1,_,r3⟩:=ZYe hE' hu;obtain⟨b,cs,g1,g2,g3,rfl⟩:=r1;have hmem:Loc.box b ty cs ∈ ℓ':=hpE'.mem_iff.2 (r3.mem_iff.2 (List.mem_append_left _ (List.mem_singleton.2 rfl)));obtain⟨hh,hbb⟩:=h'.st.loc _ hmem;have hwb:w.heap.size≤b:=by
      rcases (hbb b rfl).1 with q | q
      ·exact q
      ·cases q
     have hlen:=ZNc g2;have hln:lkE (⟨k1,n',.box ty (.agg (ZDg n c.size))⟩ :: l) n=none:=by
      rw[ZE,iN (show ¬ k1=n by omega)]
      cases hx:lkE l n with
      | none=>rfl
      | some e =>
       obtain⟨q1,q2⟩:=Zl hx;have:e.k<n:=(h.ul e q1).1;omega
     obtain⟨d1,d2⟩:=ZAm (v:=v) (γ:=Zeb γ k1 (.box b)) (U:=(· < n'+1)) hln (show n<n'+1 by omega) g3;rw[hlen]at d1 d2;have hst:St N w0 v0 [] (.box b ty cs :: ℓ) v a' w':=by
      refine⟨hcore.st.size,hcore.st.dfr,hcore.st.fr,hcore.st.ext,hcore.st.vst,λe he=>?_,?_⟩
      ·rcases List.mem_cons.1 he with rfl | he
       ·refine⟨hh,λk hk=>?_⟩
        cases hk
        exact⟨.inl (Nat.le_trans h.st.ext.size hwb),h.st.vst.vin.none hwb⟩
       ·exact hcore.st.loc e he
      ·rw[List.filterMap_cons_some (show (Loc.box b ty cs).blk=some b from rfl),List.nodup_cons];refine⟨λhm=>?_,h.st.nd⟩;obtain⟨e,he,hk⟩:=List.mem_filterMap.1 hm;obtain⟨c0,T0,hg⟩:=Loc.blk_get (h.st.loc e he).1 hk;have:=Z6c hg;omega
     have hcore2:=hcore.mono (U':=(· < n)) (X':=(· < n'+1)) (λ_ h=>h) λk hk=>(show k<n'+1 by have:k<n':=hk;omega);obtain⟨E,hE,hpE⟩:=hcore2.lr;have q1:RelX N G w0 v0 (λk=>k<n∨k=n) (· < n'+1) (ZYb f' (ZRa f keep) fl) (⟨k1,n',.box ty (.agg (ZDg n c.size))⟩ :: l) a' w' (Zeb γ k1 (.box b)) v (.box b ty cs :: ℓ):=by
      have hcore3:=hcore2.mono (U':=λk=>k<n∨k=n) (X':=(· < n'+1)) (λ_ h=>.inl h) λ_ h=>h;refine hcore3.new (show n'<n'+1 by omega) (show k1<n'+1 by omega) (λhh=>?_) hnone hE hst (Zb.le_refl _) (λk hk=>ZFb hk) ⟨b,cs,ZAa,d1,g3,rfl⟩ (List.Perm.cons _ hpE) ?_
      ·rcases hh with hh | hh <;> omega
      ·exact (ZAm (v:=v) (γ:=Zeb γ k1 (.box b)) (U:=λk=>k<n∨k=n) hln (.inr rfl) g3).2 |> λq=>by rw[hlen]at q;exact q
     have q2:=q1.mono (U':=(· < n'+1)) (X':=(· < n'+1)) (λk hk=>(show k<n'+1 by rcases hk with hk | hk <;> omega)) λ_ h=>h;obtain⟨cs1,⟨y,rfl,hpl,hy⟩,hyy⟩:=h'.fr _ _ hs;obtain⟨b2,g4,rfl⟩:=hy _ hu;rw[g1]at g4;cases g4;have hyy:a'.tmps.getD s undef = .pointer (some ⟨b,0,none⟩):=hyy;have q3:=q2.slot (t:=s) (m:=n') (z:=.ptr k1 0) ⟨[_],⟨_,rfl,hpl,λe he=>?_⟩,hyy⟩ (show k1<n'+1 by omega) (show n'<n'+1 by omega)
     ·refine⟨by omega,⟨_,_,_,q3⟩,λt e he hst=>?_,λu e he hst=>?_⟩
      ·rw[List.singleton_append,ZE]at he;split at he
       ·cases he;exact absurd hst (by show ¬ n'<n;omega)
       ·exact hO t e he hst
      ·rw[ZE]at he;split at he
       ·cases he;exact absurd hst (by show ¬ n'<n;omega)
       ·exact he
     ·rw[ZE,iP rfl]at he
      cases he
      exact⟨b,ZAa,rfl⟩
    ·cases hb
   ·cases hb
  ·cases hb
 ·cases hb
end
end Go.Eng
