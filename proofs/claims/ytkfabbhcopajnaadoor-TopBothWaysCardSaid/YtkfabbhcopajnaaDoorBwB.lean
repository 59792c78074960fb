/- Lemmas towards the statement: the engine of the walks, the functions' models, laws and walks, part 2. Conditions: as each states. -/
import Derived.Laws.CopyRow
import Derived.Lib.AppendZerosOnto
import Derived.Lib.Overlaps
import Derived.LoopN
import Derived.Scope
import Derived.Test.YtkfabbhcopajnaaDoorBwA
set_option linter.all false
set_option maxRecDepth 100000
namespace Go.Eng
open Go.RowKit
inductive Gh where
 | box (b:Nat)
 | own (ob:Option Nat) (cap:Nat)
 | mat (ob:Option Nat) (cap:Nat) (rows:List (Option Nat×Nat))
def V.val (x:V) (cs:List Value):Value:=match x.isAgg with
 | true=>.agg cs.toArray
 | false=>cs.headD Go.undef
def mpH (g:Gh):Option MPd→Value→Prop
 | none,y=>y = .map none
 | some _,y=>∃ b,g = .box b∧y = .map (some b)
def Z6b (g:Gh):Option MPd→List Loc→Prop
 | none,es=>es=[]
 | some m,es=>∃ b,g = .box b∧es=[.mp b (mpV m)]∧∀ x ∈ m,inR .i64 x.2
theorem Zmk {g:Gh} {m m':Option MPd} {y:Value} (h:mpH g m y) (e:m'.isNone=m.isNone):mpH g m' y:=by
 cases m <;> cases m' <;> first | (cases e;done) | exact h
theorem ZQl {g:Gh} {m:Option MPd} {y:Value} (h:mpH g m y):plain y=true:=by
 cases m with
 | none=>rw[show y=_ from h];rfl
 | some m=>obtain⟨b,_,h⟩:=h;rw[h];rfl
def ZNc (γ:Nat→Gh) (u:Nat):LV→Value→Prop
 | .own _ _ xs _,y=>∃ ob cap,γ u = .own ob cap∧y = .slice (mkA ob) xs.length cap
 | .mat _ _ _ m _,y=>∃ ob cap rows,γ u = .mat ob cap rows∧y = .slice (mkA ob) m.length cap
 | .mid _ _ _ m _ _,y=>∃ ob cap rows,γ u = .mat ob cap rows∧y = .slice (mkA ob) m.length cap
 | .box _ _,_=>False
 | .mp m,y=>mpH (γ u) m y
def Zje (γ:Nat→Gh) (u off:Nat):LV→Value→Prop
 | .box _ _,y=>∃ b,γ u = .box b∧y = .pointer (some ⟨b,off,none⟩)
 | _,_=>False
def okEl (γ:Nat→Gh) (u i cv:Nat) (t:T) (x:t.den) (off st:Nat):LV→Value→Prop
 | .own _ s xs _,y=>∃ b cap,γ u = .own (some b) cap∧y = .pointer (some ⟨b,0+i*s.n+off,none⟩)∧i<xs.length∧(st=cv→∃ ys,ZFa s t xs=some ys∧ys[i]? = some x)
 | .box _ _,y=>∃ b,γ u = .box b∧y = .pointer (some ⟨b,0+i*t.n+off,none⟩)
 | _,_=>False
def okRp (γ:Nat→Gh) (u i cv:Nat) (t:T) (r:List t.den) (st:Nat):LV→Value→Prop
 | .mat _ _ s m _,y=>∃ b cap rows,γ u = .mat (some b) cap rows∧y = .pointer (some ⟨b,0+i*1,none⟩)∧i<m.length∧(st=cv→∃ m',Zha s t m=some m'∧m'[i]? = some r)
 | .mid _ _ s m _ _,y=>∃ b cap rows,γ u = .mat (some b) cap rows∧y = .pointer (some ⟨b,0+i*1,none⟩)∧i<m.length∧(st=cv→∃ m',Zha s t m=some m'∧m'[i]? = some r)
 | .own _ _ _ _,_=>True
 | _,_=>False
def Z9e (γ:Nat→Gh) (u i hv cv:Nat) (t:T) (r:List t.den) (st:Nat):LV→Value→Prop
 | .mat _ _ s m hv',y=>hv'=hv→∃ ob cap rows obi capi,γ u = .mat ob cap rows∧rows[i]? = some (obi,capi)∧y = .slice (mkA obi) r.length capi∧(∃ ri,m[i]? = some ri∧ri.length=r.length)∧(st=cv→∃ m',Zha s t m=some m'∧m'[i]? = some r)
 | .mid _ _ s m hv' _,y=>hv'=hv→∃ ob cap rows obi capi,γ u = .mat ob cap rows∧rows[i]? = some (obi,capi)∧y = .slice (mkA obi) r.length capi∧(∃ ri,m[i]? = some ri∧ri.length=r.length)∧(st=cv→∃ m',Zha s t m=some m'∧m'[i]? = some r)
 | .own _ _ _ _,_=>True
 | _,_=>False
def ZOe (γ:Nat→Gh) (u i j hv cv:Nat) (t:T) (r:List t.den) (x:t.den) (off st:Nat):LV→Value→Prop
 | .mat _ _ s m hv',y=>hv'=hv→∃ ob cap rows bi capi,γ u = .mat ob cap rows∧rows[i]? = some (some bi,capi)∧y = .pointer (some ⟨bi,0+j*s.n+off,none⟩)∧(∃ ri,m[i]? = some ri∧ri.length=r.length)∧j<r.length∧(st=cv→(∃ m',Zha s t m=some m'∧m'[i]? = some r)∧r[j]? = some x)
 | .mid _ _ s m hv' _,y=>hv'=hv→∃ ob cap rows bi capi,γ u = .mat ob cap rows∧rows[i]? = some (some bi,capi)∧y = .pointer (some ⟨bi,0+j*s.n+off,none⟩)∧(∃ ri,m[i]? = some ri∧ri.length=r.length)∧j<r.length∧(st=cv→(∃ m',Zha s t m=some m'∧m'[i]? = some r)∧r[j]? = some x)
 | .own _ _ _ _,_=>True
 | _,_=>False
def RR (v:Za) (γ:Nat→Gh) (l:Lo):Bool→V→List Value→Prop
 | false,.data t x,cs=>t.rep.rel v cs x
 | false,.nilS,cs=>cs=[.slice none 0 0]
 | false,.own u,cs=>∃ y,cs=[y]∧plain y=true∧∀ e,lkE l u=some e→ZNc γ u e.x y
 | false,.row u i hv cv t r,cs=>∃ y,cs=[y]∧plain y=true∧∀ e,lkE l u=some e→Z9e γ u i hv cv t r e.st e.x y
 | false,.ptr u off,cs=>∃ y,cs=[y]∧plain y=true∧∀ e,lkE l u=some e→Zje γ u off e.x y
 | false,.el u i cv t x off,cs=>∃ y,cs=[y]∧plain y=true∧(∃ c,t.rep.rel v c x)∧∀ e,lkE l u=some e→okEl γ u i cv t x off e.st e.x y
 | false,.rp u i _ cv t r,cs=>∃ y,cs=[y]∧plain y=true∧∀ e,lkE l u=some e→okRp γ u i cv t r e.st e.x y
 | false,.rel u i j hv cv t r x off,cs=>∃ y,cs=[y]∧plain y=true∧∀ e,lkE l u=some e→ZOe γ u i j hv cv t r x off e.st e.x y
 | false,.vp t x off,cs=>∃ b o c,At v b o c∧t.rep.rel v c x∧cs=[.pointer (some ⟨b,o+off,none⟩)]
 | false,.nl,cs=>cs=[]
 | false,.cons a b,cs=>∃ c1 c2,cs=c1++c2∧RR v γ l false a c1∧RR v γ l false b c2
 | false,.agg c,cs=>RR v γ l false c cs
 | false,.tup _,_=>False
 | false,.fn f c,cs=>∃ vs,RR v γ l true c vs∧cs=[.func (.func f) #[] vs.toArray]
 | false,.ifc ty c,cs=>∃ cc,RR v γ l false c cc∧cs=[.iface ty (c.val cc)]
 | false,.undef,cs=>cs=[undef]
 | true,.nl,cs=>cs=[]
 | true,.cons a b,cs=>∃ c xs,cs=a.val c :: xs∧RR v γ l false a c∧RR v γ l true b xs
 | true,_,_=>False
def RV (v:Za) (γ:Nat→Gh) (l:Lo) (x:V) (y:Value):Prop:=match x with
 | .tup c=>∃ vs,RR v γ l true c vs∧y = .tuple vs.toArray
 | x=>∃ cs,RR v γ l false x cs∧y=x.val cs
def V.ok (U:Nat→Prop):V→Prop
 | .own u=>U u
 | .row u _ hv cv _ _=>U u∧U hv∧U cv
 | .ptr u _=>U u
 | .el u _ cv _ _ _=>U u∧U cv
 | .rp u _ hv cv _ _=>U u∧U hv∧U cv
 | .rel u _ _ hv cv _ _ _ _=>U u∧U hv∧U cv
 | .cons a b=>a.ok U∧b.ok U
 | .agg c=>c.ok U
 | .tup c=>c.ok U
 | .fn _ c=>c.ok U
 | .ifc _ c=>c.ok U
 | _=>True
theorem V.ok.mono {U U':Nat→Prop} (h:∀ n,U n→U' n):∀ {x:V},x.ok U→x.ok U'
 | .own _,k=>h _ k
 | .row _ _ _ _ _ _,k=>⟨h _ k.1,h _ k.2.1,h _ k.2.2⟩
 | .ptr _ _,k=>h _ k
 | .el _ _ _ _ _ _,k=>⟨h _ k.1,h _ k.2⟩
 | .rp _ _ _ _ _ _,k=>⟨h _ k.1,h _ k.2.1,h _ k.2.2⟩
 | .rel _ _ _ _ _ _ _ _ _,k=>⟨h _ k.1,h _ k.2.1,h _ k.2.2⟩
 | .cons _ _,k=>⟨V.ok.mono h k.1,V.ok.mono h k.2⟩
 | .agg c,k=>V.ok.mono (x:=c) h k
 | .tup c,k=>V.ok.mono (x:=c) h k
 | .fn _ c,k=>V.ok.mono (x:=c) h k
 | .ifc _ c,k=>V.ok.mono (x:=c) h k
 | .data _ _,_=>trivial
 | .nilS,_=>trivial
 | .vp _ _ _,_=>trivial
 | .nl,_=>trivial
 | .undef,_=>trivial
def CEm (U:Nat→Prop) (γ γ':Nat→Gh) (u:Nat) (st st':Nat) (t:T) (m:List (List t.den)) (hv:Nat) (t':T) (m':List (List t'.den)) (hv':Nat):Prop:=t'=t∧m'.length=m.length∧(∃ ob cap rows rows',γ u = .mat ob cap rows∧γ' u = .mat ob cap rows'∧(U hv'→hv'=hv∧rows'=rows∧m'.map List.length=m.map List.length))∧(U st'→st'=st∧(⟨t',m'⟩:(t:T)×List (List t.den))=⟨t,m⟩)
def CE (U:Nat→Prop) (γ γ':Nat→Gh) (u:Nat) (st st':Nat) (L L':LV):Prop:=match L,L' with
 | .box _ _,.box _ _=>γ' u=γ u
 | .own _ t xs _,.own _ t' xs' _=>γ' u=γ u∧t'=t∧xs'.length=xs.length∧(U st'→st'=st∧(⟨t',xs'⟩:(t:T)×List t.den)=⟨t,xs⟩)
 | .mat _ _ t m hv,.mat _ _ t' m' hv'=>CEm U γ γ' u st st' t m hv t' m' hv'
 | .mat _ _ t m hv,.mid _ _ t' m' hv' _=>CEm U γ γ' u st st' t m hv t' m' hv'
 | .mid _ _ t m hv _,.mat _ _ t' m' hv'=>CEm U γ γ' u st st' t m hv t' m' hv'
 | .mid _ _ t m hv _,.mid _ _ t' m' hv' _=>CEm U γ γ' u st st' t m hv t' m' hv'
 | .mid _ _ _ m _ _,.own _ _ xs' _=>∃ ob cap rows,γ u = .mat ob cap rows∧γ' u = .own ob cap∧xs'.length=m.length
 | .mat _ _ _ m _,.own _ _ xs' _=>∃ ob cap rows,γ u = .mat ob cap rows∧γ' u = .own ob cap∧xs'.length=m.length
 | .mp m,.mp m'=>γ' u=γ u∧m'.isNone=m.isNone
 | _,_=>False
structure Le (U:Nat→Prop) (v:Za) (γ:Nat→Gh) (l:Lo) (v':Za) (γ':Nat→Gh) (l':Lo):Prop where
 v:v.le v'
 l:∀ u e',U u→lkE l' u=some e'→∃ e,lkE l u=some e∧CE U γ γ' u e.st e'.st e.x e'.x
theorem ZMh {α β:Type} {m:List (List α)} {m':List (List β)} (h:m'.map List.length=m.map List.length) {i:Nat} {r:List α} (hr:m[i]? = some r):∃ r',m'[i]? = some r'∧r'.length=r.length:=by
 have:=congrArg (·[i]?) h;simp only[List.getElem?_map,hr,Option.map_some]at this
 cases hm:m'[i]? with
 | none=>rw[hm]at this;cases this
 | some r'=>rw[hm]at this;exact⟨r',rfl,Option.some.inj this⟩
section
variable {U:Nat→Prop} {v v':Za} {γ γ':Nat→Gh} {l l':Lo}
theorem ZQj {u:Nat} {L L':LV} {st st':Nat} {y:Value} (h:ZNc γ u L y) (c:CE U γ γ' u st st' L L'):ZNc γ' u L' y:=by
 have key:∀ {t t':T} {m:List (List t.den)} {m':List (List t'.den)} {hv hv':Nat},(∃ ob cap rows,γ u = .mat ob cap rows∧y = .slice (mkA ob) m.length cap)→CEm U γ γ' u st st' t m hv t' m' hv'→∃ ob cap rows,γ' u = .mat ob cap rows∧y = .slice (mkA ob) m'.length cap:=by
  rintro t t' m m' hv hv' ⟨ob',cap',rows2,h5,h6⟩ ⟨h1,h2,⟨ob,cap,rows,rows',h3,h4,_⟩,_⟩;rw[h3]at h5;cases h5;exact⟨_,_,rows',h4,by rw[h6,h2]⟩
 have key2:∀ {t:T} {m:List (List t.den)} {t':T} {xs':List t'.den},(∃ ob cap rows,γ u = .mat ob cap rows∧y = .slice (mkA ob) m.length cap)→(∃ ob cap rows,γ u = .mat ob cap rows∧γ' u = .own ob cap∧xs'.length=m.length)→∃ ob cap,γ' u = .own ob cap∧y = .slice (mkA ob) xs'.length cap:=by
  rintro t m t' xs' ⟨ob',cap',rows',h4,h5⟩ ⟨ob,cap,rows,h1,h2,h3⟩;rw[h1]at h4;cases h4;exact⟨_,_,h2,by rw[h5,h3]⟩
 cases L <;> cases L' <;> simp only[CE]at c <;> simp only[ZNc]at h ⊢
 ·obtain⟨h1,h2,h3,_⟩:=c;obtain⟨ob,cap,h4,h5⟩:=h;exact⟨ob,cap,by rw[h1,h4],by rw[h5,h3]⟩
 all_goals first | exact key h c | exact key2 h c | (rw[c.1];exact Zmk h c.2)
theorem Zam {u off:Nat} {L L':LV} {st st':Nat} {y:Value} (h:Zje γ u off L y) (c:CE U γ γ' u st st' L L'):Zje γ' u off L' y:=by
 cases L <;> cases L' <;> simp only[CE]at c <;> simp only[Zje]at h ⊢
 obtain⟨b,h1,h2⟩:=h;exact⟨b,by rw[c,h1],h2⟩
theorem Zyl {u i cv:Nat} {t:T} {x:t.den} {off:Nat} {L L':LV} {st st':Nat} {y:Value} (hU:U cv) (h:okEl γ u i cv t x off st L y) (c:CE U γ γ' u st st' L L'):okEl γ' u i cv t x off st' L' y:=by
 cases L <;> cases L' <;> simp only[CE]at c <;> simp only[okEl]at h ⊢
 ·obtain⟨b,h5,h6⟩:=h;exact⟨b,by rw[c,h5],h6⟩
 rename_i ty t1 xs fz ty' t2 xs' fz';obtain⟨h1,h2,h3,h4⟩:=c;subst h2;obtain⟨b,cap,h5,h6,h7,h8⟩:=h;refine⟨b,cap,by rw[h1,h5],h6,by omega,λe=>?_⟩;subst e;obtain⟨e1,e2⟩:=h4 hU
 cases e2
 exact h8 e1.symm
theorem Zzk {u i cv:Nat} {t:T} {r:List t.den} {L L':LV} {st st':Nat} {y:Value} (hU:U cv) (h:okRp γ u i cv t r st L y) (c:CE U γ γ' u st st' L L'):okRp γ' u i cv t r st' L' y:=by
 have key:∀ {t1 t2:T} {m:List (List t1.den)} {m':List (List t2.den)} {hv hv':Nat},(∃ b cap rows,γ u = .mat (some b) cap rows∧y = .pointer (some ⟨b,0+i*1,none⟩)∧i<m.length∧(st=cv→∃ m',Zha t1 t m=some m'∧m'[i]? = some r))→CEm U γ γ' u st st' t1 m hv t2 m' hv'→∃ b cap rows,γ' u = .mat (some b) cap rows∧y = .pointer (some ⟨b,0+i*1,none⟩)∧i<m'.length∧(st'=cv→∃ m2,Zha t2 t m'=some m2∧m2[i]? = some r):=by
  intro t1 t2 m m' hv hv' h c;obtain⟨h2,h3,⟨ob,cap,rows,rows',g1,g2,_⟩,h4⟩:=c;subst h2;obtain⟨b,cap',rw',h5,h6,h7,h8⟩:=h;rw[g1]at h5;cases h5;refine⟨b,cap,rows',g2,h6,by omega,λe=>?_⟩;subst e;obtain⟨e1,e2⟩:=h4 hU
  cases e2
  exact h8 e1.symm
 cases L <;> cases L' <;> simp only[CE]at c <;> simp only[okRp]at h ⊢
 all_goals exact key h c
theorem ZCm {u i hv cv:Nat} {t:T} {r:List t.den} {L L':LV} {st st':Nat} {y:Value} (hH:U hv) (hU:U cv) (h:Z9e γ u i hv cv t r st L y) (c:CE U γ γ' u st st' L L'):Z9e γ' u i hv cv t r st' L' y:=by
 have key:∀ {t1 t2:T} {m:List (List t1.den)} {m':List (List t2.den)} {hv1 hv2:Nat},(hv1=hv→∃ ob cap rows obi capi,γ u = .mat ob cap rows∧rows[i]? = some (obi,capi)∧y = .slice (mkA obi) r.length capi∧(∃ ri,m[i]? = some ri∧ri.length=r.length)∧(st=cv→∃ m2,Zha t1 t m=some m2∧m2[i]? = some r))→CEm U γ γ' u st st' t1 m hv1 t2 m' hv2→(hv2=hv→∃ ob cap rows obi capi,γ' u = .mat ob cap rows∧rows[i]? = some (obi,capi)∧y = .slice (mkA obi) r.length capi∧(∃ ri,m'[i]? = some ri∧ri.length=r.length)∧(st'=cv→∃ m2,Zha t2 t m'=some m2∧m2[i]? = some r)):=by
  intro t1 t2 m m' hv1 hv2 h c;obtain⟨h2,h3,⟨ob,cap,rows,rows',g1,g2,g3⟩,h4⟩:=c;subst h2;intro e;subst e;obtain⟨e1,e2,e3⟩:=g3 hH;obtain⟨ob',cap',rw',obi,capi,k1,k2,k3,⟨ri,k4,k5⟩,k6⟩:=h e1.symm;rw[g1]at k1;cases k1;subst e2;obtain⟨r',q1,q2⟩:=ZMh e3 k4;refine⟨ob,cap,_,obi,capi,g2,k2,k3,⟨r',q1,by omega⟩,λe=>?_⟩;subst e;obtain⟨f1,f2⟩:=h4 hU
  cases f2
  exact k6 f1.symm
 cases L <;> cases L' <;> simp only[CE]at c <;> simp only[Z9e]at h ⊢
 all_goals exact key h c
theorem Z8l {u i j hv cv:Nat} {t:T} {r:List t.den} {x:t.den} {off:Nat} {L L':LV} {st st':Nat} {y:Value} (hH:U hv) (hU:U cv) (h:ZOe γ u i j hv cv t r x off st L y) (c:CE U γ γ' u st st' L L'):ZOe γ' u i j hv cv t r x off st' L' y:=by
 have key:∀ {t1 t2:T} {m:List (List t1.den)} {m':List (List t2.den)} {hv1 hv2:Nat},(hv1=hv→∃ ob cap rows bi capi,γ u = .mat ob cap rows∧rows[i]? = some (some bi,capi)∧y = .pointer (some ⟨bi,0+j*t1.n+off,none⟩)∧(∃ ri,m[i]? = some ri∧ri.length=r.length)∧j<r.length∧(st=cv→(∃ m2,Zha t1 t m=some m2∧m2[i]? = some r)∧r[j]? = some x))→CEm U γ γ' u st st' t1 m hv1 t2 m' hv2→(hv2=hv→∃ ob cap rows bi capi,γ' u = .mat ob cap rows∧rows[i]? = some (some bi,capi)∧y = .pointer (some ⟨bi,0+j*t2.n+off,none⟩)∧(∃ ri,m'[i]? = some ri∧ri.length=r.length)∧j<r.length∧(st'=cv→(∃ m2,Zha t2 t m'=some m2∧m2[i]? = some r)∧r[j]? = some x)):=by
  intro t1 t2 m m' hv1 hv2 h c;obtain⟨h2,h3,⟨ob,cap,rows,rows',g1,g2,g3⟩,h4⟩:=c;subst h2;intro e;subst e;obtain⟨e1,e2,e3⟩:=g3 hH;obtain⟨ob',cap',rw',bi,capi,k1,k2,k3,⟨ri,k4,k5⟩,k6,k7⟩:=h e1.symm;rw[g1]at k1;cases k1;subst e2;obtain⟨r',q1,q2⟩:=ZMh e3 k4;refine⟨ob,cap,_,bi,capi,g2,k2,k3,⟨r',q1,by omega⟩,k6,λe=>?_⟩;subst e;obtain⟨f1,f2⟩:=h4 hU
  cases f2
  exact k7 f1.symm
 cases L <;> cases L' <;> simp only[CE]at c <;> simp only[ZOe]at h ⊢
 all_goals exact key h c
theorem Z7 (h:Le U v γ l v' γ' l'):∀ {x:V} {m:Bool} {cs:List Value},x.ok U→RR v γ l m x cs→RR v' γ' l' m x cs:=by
 intro x
 induction x with
 | data t x=>intro m cs hk hr;cases m <;> first | exact Rep.mono _ h.v hr | exact hr
 | nilS=>intro m cs hk hr;cases m <;> first | exact hr | exact hr
 | own u =>
  intro m cs hk hr;cases m
  ·obtain⟨y,h1,hp,h2⟩:=hr;refine⟨y,h1,hp,λe' he=>?_⟩;obtain⟨e,h3,h4⟩:=h.l u e' hk he;exact ZQj (h2 e h3) h4
  ·exact hr
 | row u i hv cv t r =>
  intro m cs hk hr;cases m
  ·obtain⟨y,h1,hp,h2⟩:=hr;refine⟨y,h1,hp,λe' he=>?_⟩;obtain⟨e,h3,h4⟩:=h.l u e' hk.1 he;exact ZCm hk.2.1 hk.2.2 (h2 e h3) h4
  ·exact hr
 | ptr u off =>
  intro m cs hk hr;cases m
  ·obtain⟨y,h1,hp,h2⟩:=hr;refine⟨y,h1,hp,λe' he=>?_⟩;obtain⟨e,h3,h4⟩:=h.l u e' hk he;exact Zam (h2 e h3) h4
  ·exact hr
 | el u i cv t x off =>
  intro m cs hk hr;cases m
  ·obtain⟨y,h1,hp,⟨c0,hc0⟩,h2⟩:=hr;refine⟨y,h1,hp,⟨c0,Rep.mono _ h.v hc0⟩,λe' he=>?_⟩;obtain⟨e,h3,h4⟩:=h.l u e' hk.1 he;exact Zyl hk.2 (h2 e h3) h4
  ·exact hr
 | rp u i hv cv t r =>
  intro m cs hk hr;cases m
  ·obtain⟨y,h1,hp,h2⟩:=hr;refine⟨y,h1,hp,λe' he=>?_⟩;obtain⟨e,h3,h4⟩:=h.l u e' hk.1 he;exact Zzk hk.2.2 (h2 e h3) h4
  ·exact hr
 | rel u i j hv cv t r x off =>
  intro m cs hk hr;cases m
  ·obtain⟨y,h1,hp,h2⟩:=hr;refine⟨y,h1,hp,λe' he=>?_⟩;obtain⟨e,h3,h4⟩:=h.l u e' hk.1 he;exact Z8l hk.2.1 hk.2.2 (h2 e h3) h4
  ·exact hr
 | vp t x off =>
  intro m cs hk hr;cases m
  ·obtain⟨b,o,c,h1,h2,h3⟩:=hr;exact⟨b,o,c,At.mono h.v h1,Rep.mono _ h.v h2,h3⟩
  ·exact hr
 | nl=>intro m cs hk hr;cases m <;> first | exact hr | exact hr
 | cons a b ia ib =>
  intro m cs hk hr;cases m
  ·obtain⟨c1,c2,h1,h2,h3⟩:=hr;exact⟨c1,c2,h1,ia hk.1 h2,ib hk.2 h3⟩
  ·obtain⟨c,xs,h1,h2,h3⟩:=hr;exact⟨c,xs,h1,ia hk.1 h2,ib hk.2 h3⟩
 | agg c ih=>intro m cs hk hr;cases m <;> first | exact ih (m:=false) hk hr | exact hr
 | tup c ih=>intro m cs hk hr;cases m <;> first | exact hr | exact hr
 | fn f c ih =>
  intro m cs hk hr;cases m
  ·obtain⟨vs,h1,h2⟩:=hr;exact⟨vs,ih (m:=true) hk h1,h2⟩
  ·exact hr
 | ifc ty c ih =>
  intro m cs hk hr;cases m
  ·obtain⟨vs,h1,h2⟩:=hr;exact⟨vs,ih (m:=false) hk h1,h2⟩
  ·exact hr
 | undef=>intro m cs hk hr;cases m <;> first | exact hr | exact hr
theorem ZX (h:Le U v γ l v' γ' l') {x:V} {y:Value} (hk:x.ok U) (hr:RV v γ l x y):RV v' γ' l' x y:=by
 cases x <;> simp only[RV]at hr ⊢ <;> obtain⟨cs,h1,h2⟩:=hr <;> exact⟨cs,Z7 h hk h1,h2⟩
end
end Go.Eng
namespace Go.Eng
open Go.RowKit
def F2 {α β:Type} (R:α→β→Prop):List α→List β→Prop
 | [],[]=>True
 | a :: l,b :: m=>R a b∧F2 R l m
 | _,_=>False
theorem F2.imp {α β:Type} {R R':α→β→Prop}:∀ {l:List α} {m:List β},(∀ a ∈ l,∀ b,R a b→R' a b)→F2 R l m→F2 R' l m
 | [],[],_,_=>trivial
 | a :: l,b :: m,h,k=>⟨h a (by simp) b k.1,F2.imp (λx hx y=>h x (by simp[hx]) y) k.2⟩
 | [],_ :: _,_,k=>k.elim
 | _ :: _,[],_,k=>k.elim
def Zf {α:Type}:List (Option Nat×Nat)→List (List α)→List Value
 | p :: ps,r :: rs=>.slice (mkA p.1) r.length p.2 :: Zf ps rs
 | _,_=>[]
def ZD (v:Za) (ty:TypeId) (t:T):List (Option Nat×Nat)→List (List t.den)→List Loc→Prop
 | [],[],es=>es=[]
 | p :: ps,r :: rs,es=>∃ cs es',t.rep.rels v cs r∧es = .own p.1 ty t.n r.length p.2 cs :: es'∧ZD v ty t ps rs es'
 | _,_,_=>False
def MidR {t:T} (rows:List (Option Nat×Nat)) (m:List (List t.den)) (es2:List Loc) (hs:List Value) (es3:List Loc):Mid→Prop
 | .hol i=>hs=Zf rows m∧∃ e1 c e2,es2=e1++c :: e2∧e1.length=i∧es3=e1++e2
 | .swp i j=>es3=es2∧i<m.length∧∃ h,(Zf rows m)[j]? = some h∧hs=(Zf rows m).set i h
def ZF (v:Za) (γ:Nat→Gh) (l:Lo) (e:En LV) (es:List Loc):Prop:=match e.x with
 | .box ty c=>∃ b cs,γ e.k = .box b∧RR v γ l false c cs∧cs.all plain=true∧es=[.box b ty cs]
 | .own ty t xs false=>∃ ob cap cs,γ e.k = .own ob cap∧t.rep.rels v cs xs∧es=[.own ob ty t.n xs.length cap cs]
 | .own _ t xs true=>∃ ob cap,γ e.k = .own ob cap∧(Zo t.rep).rel v [.slice (mkA ob) xs.length cap] xs∧es=[]
 | .mat ty ty2 t m _=>∃ ob cap rows es2,γ e.k = .mat ob cap rows∧ZD v ty2 t rows m es2∧es = .own ob ty 1 m.length cap (Zf rows m) :: es2
 | .mid ty ty2 t m _ s=>∃ ob cap rows es2 hs es3,γ e.k = .mat ob cap rows∧ZD v ty2 t rows m es2∧MidR rows m es2 hs es3 s∧es = .own ob ty 1 m.length cap hs :: es3
 | .mp m=>Z6b (γ e.k) m es
def LV.ok (U X:Nat→Prop):LV→Prop
 | .box _ c=>c.ok U
 | .own _ _ _ _=>True
 | .mat _ _ _ _ hv=>X hv
 | .mid _ _ _ _ hv _=>X hv
 | .mp _=>True
theorem LV.ok.mono {U U' X X':Nat→Prop} (h:∀ n,U n→U' n) (h':∀ n,X n→X' n) {L:LV} (k:L.ok U X):L.ok U' X':=by
 cases L
 ·exact V.ok.mono h k
 ·trivial
 ·exact h' _ k
 ·exact h' _ k
 ·trivial
structure RelX (N:Nat) (G:V→Value→Prop) (w0:Base) (v0:Za) (U X:Nat→Prop) (f:Fr) (l:Lo) (a:Act) (w:World) (γ:Nat→Gh) (v:Za) (ℓ:List Loc):Prop where
 st:St N w0 v0 [] ℓ v a w
 fr:∀ t e,lkE f t=some e→RV v γ l e.x (a.tmps.getD t undef)
 lr:∃ E,F2 (ZF v γ l) l E∧ℓ.Perm E.flatten
 nd:(l.map En.k).Nodup
 uf:∀ t e,lkE f t=some e→e.x.ok U∧X e.st
 ul:∀ e ∈ l,X e.k∧X e.st∧e.x.ok U X
 gh:∀ x y,G x y→RV v γ l x y∧x.ok U
def Rel (N:Nat) (G:V→Value→Prop) (w0:Base) (v0:Za) (U:Nat→Prop) (f:Fr) (l:Lo) (a:Act) (w:World):Prop:=∃ γ v ℓ,RelX N G w0 v0 U U f l a w γ v ℓ
theorem Ze {β:Type}:∀ {l:List (En β)} {t:Nat} {e:En β},lkE l t=some e→e ∈ l∧e.k=t
 | [],_,_,h=>by cases h
 | p :: r,t,e,h=>by
  simp only[lkE]at h
  cases hb:Nat.beq p.k t
  ·rw[hb]at h;have:=Ze h;exact⟨by simp[this.1],this.2⟩
  ·rw[hb]at h;cases h;exact⟨by simp,eQ hb⟩
theorem Zm {β:Type} {p:En β} {r:List (En β)} {t:Nat}:lkE (p :: r) t=if p.k=t then some p else lkE r t:=by
 simp only[lkE]
 cases hb:Nat.beq p.k t
 ·rw[iN (λe=>by rw[e]at hb;simp at hb)]
 ·rw[iP (eQ hb)]
theorem Z5d {β:Type} {p:En β} {r:List (En β)} {t:Nat}:era (p :: r) t=if p.k=t then r else p :: era r t:=by
 simp only[era]
 cases hb:Nat.beq p.k t
 ·rw[iN (λe=>by rw[e]at hb;simp at hb)]
 ·rw[iP (eQ hb)]
theorem Zwd {β:Type} {l:List (En β)} {t:Nat}:∀ e ∈ era l t,e ∈ l:=by
 induction l with
 | nil=>intro e h;cases h
 | cons p r ih =>
  intro e h;rw[Z5d]at h;split at h
  ·simp[h]
  ·rcases List.mem_cons.1 h with h | h
   ·simp[h]
   ·simp[ih e h]
theorem Zga {β:Type} {l:List (En β)} {t:Nat} (h:(l.map En.k).Nodup):((era l t).map En.k).Nodup∧t ∉ (era l t).map En.k:=by
 induction l with
 | nil=>simp[era]
 | cons p r ih =>
  simp only[List.map_cons,List.nodup_cons]at h;rw[Z5d];split
  ·rename_i hp;subst hp;exact⟨h.2,h.1⟩
  ·rename_i hp;obtain⟨i1,i2⟩:=ih h.2;refine⟨?_,?_⟩
   ·simp only[List.map_cons,List.nodup_cons];refine⟨λhm=>h.1 ?_,i1⟩;obtain⟨e,he,hk⟩:=List.mem_map.1 hm;exact List.mem_map.2 ⟨e,Zwd e he,hk⟩
   ·simp only[List.map_cons,List.mem_cons,not_or];exact⟨λe=>hp e.symm,i2⟩
theorem ZId {β:Type} {l:List (En β)} {t:Nat} (h:t ∉ l.map En.k):lkE l t=none:=by
 cases hl:lkE l t with
 | none=>rfl
 | some e=>have:=Ze hl;exact absurd (List.mem_map.2 ⟨e,this.1,this.2⟩) h
theorem Zqc {β:Type} {l:List (En β)} {t:Nat} (h:lkE l t=none):t ∉ l.map En.k:=by
 induction l with
 | nil=>simp
 | cons p r ih =>
  rw[Zm]at h;split at h
  ·cases h
  ·rename_i hp;simp only[List.map_cons,List.mem_cons,not_or];exact⟨λe=>hp e.symm,ih h⟩
theorem Zxa {β:Type} {l:List (En β)} {t u:Nat} (h:(l.map En.k).Nodup):lkE (era l t) u=if t=u then none else lkE l u:=by
 split
 ·rename_i e;subst e;exact ZId (Zga h).2
 ·rename_i hne
  induction l with
  | nil=>rfl
  | cons p r ih =>
   simp only[List.map_cons,List.nodup_cons]at h;rw[Z5d];split
   ·rename_i hp;rw[Zm,iN (by omega)]
   ·rw[Zm,Zm];split
    ·rfl
    ·exact ih h.2
theorem ZAc {R:En LV→List Loc→Prop}:∀ {l:Lo} {E:List (List Loc)} {u:Nat} {e:En LV},F2 R l E→lkE l u=some e→∃ es E',R e es∧F2 R (era l u) E'∧E.flatten.Perm (es++E'.flatten)
 | [],_,_,_,_,h=>by cases h
 | p :: r,[],_,_,hf,_=>hf.elim
 | p :: r,es :: E,u,e,hf,h=>by
  rw[Zm]at h
  rw[Z5d]
  split at h
  ·rename_i hp;cases h;rw[iP hp];exact⟨es,E,hf.1,hf.2,List.Perm.refl _⟩
  ·rename_i hp
   rw[iN hp]
   obtain⟨es',E',h1,h2,h3⟩:=ZAc hf.2 h
   refine⟨es',es :: E',h1,⟨hf.1,h2⟩,?_⟩
   simp only[List.flatten_cons]
   exact ((List.Perm.append_left es h3).trans (by rw[← aA,← aA];exact List.Perm.append_right _ List.perm_append_comm))
theorem St.perm {K:Nat} {w0:Base} {v0:Za} {σ:List (Nat×Value)} {ℓ ℓ':List Loc} {v:Za} {a:Act} {w:World} (h:St K w0 v0 σ ℓ v a w) (p:ℓ.Perm ℓ'):St K w0 v0 σ ℓ' v a w :=
 ⟨h.size,h.dfr,h.fr,h.ext,h.vst,λe he=>h.loc e (p.mem_iff.2 he),(p.filterMap _).nodup_iff.1 h.nd⟩
section
variable {U:Nat→Prop} {v v':Za} {γ γ':Nat→Gh} {l l':Lo}
theorem ZAa (h:v.le v') {ty:TypeId} {t:T}:∀ {rows:List (Option Nat×Nat)} {m:List (List t.den)} {es:List Loc},ZD v ty t rows m es→ZD v' ty t rows m es
 | [],[],_,k=>k
 | _ :: _,_ :: _,_,⟨cs,es',h1,h2,h3⟩=>⟨cs,es',Zlb h h1,h2,ZAa h h3⟩
 | [],_ :: _,_,k=>k.elim
 | _ :: _,[],_,k=>k.elim
theorem Zlc {ty:TypeId} {t:T}:∀ {rows:List (Option Nat×Nat)} {m:List (List t.den)} {es:List Loc},ZD v ty t rows m es→rows.length=m.length
 | [],[],_,_=>rfl
 | _ :: _,_ :: _,_,⟨_,_,_,_,h3⟩=>by simp[Zlc h3]
 | [],_ :: _,_,k=>k.elim
 | _ :: _,[],_,k=>k.elim
theorem Z1c {X:Nat→Prop} (h:Le U v γ l v' γ' l') {e:En LV} {es:List Loc} (hk:e.x.ok U X) (hg:γ' e.k=γ e.k) (r:ZF v γ l e es):ZF v' γ' l' e es:=by
 obtain⟨k,st,x⟩:=e
 cases x with
 | box ty c =>
  obtain⟨b,cs,h1,h2,h3,h4⟩:=r;exact⟨b,cs,by rw[hg];exact h1,Z7 h hk h2,h3,h4⟩
 | own ty t xs fz =>
  cases fz with
  | false=>obtain⟨ob,cap,cs,h1,h2,h3⟩:=r;exact⟨ob,cap,cs,by rw[hg];exact h1,Zlb h.v h2,h3⟩
  | true=>obtain⟨ob,cap,h1,h2,h3⟩:=r;exact⟨ob,cap,by rw[hg];exact h1,Rep.mono _ h.v h2,h3⟩
 | mat ty ty2 t m hv =>
  obtain⟨ob,cap,rows,es2,h1,h2,h3⟩:=r;exact⟨ob,cap,rows,es2,by rw[hg];exact h1,ZAa h.v h2,h3⟩
 | mid ty ty2 t m hv s =>
  obtain⟨ob,cap,rows,es2,hs,es3,h1,h2,h3,h4⟩:=r;exact⟨ob,cap,rows,es2,hs,es3,by rw[hg];exact h1,ZAa h.v h2,h3,h4⟩
 | mp m=>show Z6b (γ' k) m es;rw[hg];exact r
theorem ZFc {e:En LV} {es:List Loc} (r:ZF v γ l e es) (hg:γ' e.k=γ e.k):CE U γ γ' e.k e.st e.st e.x e.x:=by
 obtain⟨k,st,x⟩:=e
 cases x with
 | box ty c=>exact hg
 | own ty t xs fz=>exact⟨hg,rfl,rfl,λ_=>⟨rfl,rfl⟩⟩
 | mat ty ty2 t m hv =>
  obtain⟨ob,cap,rows,es2,h1,_⟩:=r;exact⟨rfl,rfl,⟨ob,cap,rows,rows,h1,by rw[hg];exact h1,λ_=>⟨rfl,rfl,rfl⟩⟩,λ_=>⟨rfl,rfl⟩⟩
 | mid ty ty2 t m hv s =>
  obtain⟨ob,cap,rows,es2,hs,es3,h1,_⟩:=r;exact⟨rfl,rfl,⟨ob,cap,rows,rows,h1,by rw[hg];exact h1,λ_=>⟨rfl,rfl,rfl⟩⟩,λ_=>⟨rfl,rfl⟩⟩
 | mp m=>exact⟨hg,rfl⟩
theorem Zsb {R:En LV→List Loc→Prop}:∀ {l:Lo} {E:List (List Loc)} {e:En LV},F2 R l E→e ∈ l→∃ es,R e es
 | [],_,_,_,h=>by cases h
 | _ :: _,[],_,hf,_=>hf.elim
 | p :: r,es :: E,e,hf,h=>by
  rcases List.mem_cons.1 h with rfl | h
  ·exact⟨es,hf.1⟩
  ·exact Zsb hf.2 h
theorem Le.refl {E:List (List Loc)} (h:F2 (ZF v γ l) l E) (hv:v.le v'):Le U v γ l v' γ l :=
 ⟨hv,λu e' _ he=>⟨e',he,by
  obtain⟨hm,hk⟩:=Ze he
  obtain⟨es,hr⟩:=Zsb h hm
  have:=ZFc (U:=U) hr (rfl:γ e'.k=γ e'.k)
  rw[hk]at this;exact this⟩⟩
end
section
variable {N:Nat} {G:V→Value→Prop} {w0:Base} {v0:Za} {U X:Nat→Prop} {f:Fr} {l:Lo} {a:Act} {w:World} {γ:Nat→Gh} {v:Za} {ℓ:List Loc}
theorem RelX.upd (h:RelX N G w0 v0 U X f l a w γ v ℓ) {u n:Nat} {L':LV} {γ':Nat→Gh} {v':Za} {w':World} {ℓ':List Loc} {es':List Loc} {E':List (List Loc)}
  (hn:X n) (huU:X u) (hE:F2 (ZF v γ l) (era l u) E') (hst:St N w0 v0 [] ℓ' v' a w') (hle:Le U v γ l v' γ' (⟨u,n,L'⟩ :: era l u)) (hg:∀ k,k≠u→γ' k=γ k)
  (hl:ZF v' γ' (⟨u,n,L'⟩ :: era l u) ⟨u,n,L'⟩ es') (hp:ℓ'.Perm (es'++E'.flatten)) (hok:L'.ok U X):RelX N G w0 v0 U X f (⟨u,n,L'⟩ :: era l u) a w' γ' v' ℓ':=by
 obtain⟨n1,n2⟩:=Zga (t:=u) h.nd;refine⟨hst,λt e he=>ZX hle (h.uf t e he).1 (h.fr t e he),⟨es' :: E',⟨hl,hE.imp λe he es hr=>?_⟩,hp⟩,?_,h.uf,λe he=>?_,λx y hg=>⟨ZX hle (h.gh x y hg).2 (h.gh x y hg).1,(h.gh x y hg).2⟩⟩
 ·refine Z1c hle (h.ul e (Zwd e he)).2.2 (hg _ λhk=>n2 ?_) hr;exact List.mem_map.2 ⟨e,he,hk⟩
 ·simp only[List.map_cons,List.nodup_cons];exact⟨n2,n1⟩
 ·rcases List.mem_cons.1 he with rfl | he
  ·exact⟨huU,hn,hok⟩
  ·exact h.ul e (Zwd e he)
theorem RelX.new (h:RelX N G w0 v0 U X f l a w γ v ℓ) {u n:Nat} {L':LV} {γ':Nat→Gh} {v':Za} {w':World} {ℓ':List Loc} {es':List Loc} {E':List (List Loc)}
  (hn:X n) (huU:X u) (hfresh:¬ U u) (hnew:lkE l u=none) (hE:F2 (ZF v γ l) l E') (hst:St N w0 v0 [] ℓ' v' a w') (hv:v.le v') (hg:∀ k,k≠u→γ' k=γ k)
  (hl:ZF v' γ' (⟨u,n,L'⟩ :: l) ⟨u,n,L'⟩ es') (hp:ℓ'.Perm (es'++E'.flatten)) (hok:L'.ok U X):RelX N G w0 v0 U X f (⟨u,n,L'⟩ :: l) a w' γ' v' ℓ':=by
 have hkey:∀ e ∈ l,e.k≠u:=λe he hk=>Zqc hnew (List.mem_map.2 ⟨e,he,hk⟩);have hle:Le U v γ l v' γ' (⟨u,n,L'⟩ :: l):=⟨hv,λk e' hk he=>by
  have hne:u≠k:=λe=>hfresh (e ▸ hk);rw[Zm,iN hne]at he;refine⟨e',he,?_⟩;obtain⟨hm,hk'⟩:=Ze he;obtain⟨es,hr⟩:=Zsb hE hm;have:=ZFc (U:=U) (γ':=γ') hr (hg _ (by rw[hk'];exact λe=>hne e.symm));rw[hk']at this;exact this⟩
 refine⟨hst,λt e he=>ZX hle (h.uf t e he).1 (h.fr t e he),⟨es' :: E',⟨hl,hE.imp λe he es hr=>?_⟩,hp⟩,?_,h.uf,λe he=>?_,λx y hg=>⟨ZX hle (h.gh x y hg).2 (h.gh x y hg).1,(h.gh x y hg).2⟩⟩
 ·exact Z1c hle (h.ul e he).2.2 (hg _ (hkey e he)) hr
 ·simp only[List.map_cons,List.nodup_cons];refine⟨λhm=>?_,h.nd⟩;obtain⟨e,he,hk⟩:=List.mem_map.1 hm;exact hkey e he hk
 ·rcases List.mem_cons.1 he with rfl | he
  ·exact⟨huU,hn,hok⟩
  ·exact h.ul e he
theorem Le.era (h:RelX N G w0 v0 U X f l a w γ v ℓ) (u:Nat):Le U v γ l v γ (era l u):=by
 obtain⟨E,hE,_⟩:=h.lr;refine⟨Za.le_refl _,λk e' _ he=>?_⟩;rw[Zxa h.nd]at he;split at he
 ·cases he
 ·refine⟨e',he,?_⟩;obtain⟨hm,hk'⟩:=Ze he;obtain⟨es,hr⟩:=Zsb hE hm;have:=ZFc (U:=U) (γ':=γ) hr rfl;rw[hk']at this;exact this
theorem RelX.del (h:RelX N G w0 v0 U X f l a w γ v ℓ) {u:Nat} {e:En LV} (hu:lkE l u=some e):∃ es E',ZF v γ l e es∧F2 (ZF v γ l) (era l u) E'∧F2 (ZF v γ (era l u)) (era l u) E'∧ℓ.Perm (es++E'.flatten)∧RelX N G w0 v0 U X f (era l u) a w γ v E'.flatten:=by
 obtain⟨E,hE,hp⟩:=h.lr;obtain⟨es,E',h1,h2,h3⟩:=ZAc hE hu;have hle:=Le.era h u;have h4:F2 (ZF v γ (era l u)) (era l u) E':=h2.imp λe he es hr=>Z1c hle (h.ul e (Zwd e he)).2.2 rfl hr;exact⟨es,E',h1,h2,h4,hp.trans h3,(h.st.perm (hp.trans h3)).drop (List.sublist_append_right _ _),λt e he=>ZX hle (h.uf t e he).1 (h.fr t e he),⟨E',h4,List.Perm.refl _⟩,(Zga h.nd).1,h.uf,λe he=>h.ul e (Zwd e he),λx y hg=>⟨ZX hle (h.gh x y hg).2 (h.gh x y hg).1,(h.gh x y hg).2⟩⟩
theorem RelX.put (h:RelX N G w0 v0 U X f l a w γ v ℓ) {d n:Nat} {x:V} {y:Value} (hd:d<N) (hr:RV v γ l x y) (hx:x.ok U) (hn:X n):RelX N G w0 v0 U X (⟨d,n,x⟩ :: f) l (a.put (some d) y) w γ v ℓ:=by
 have hs:=h.st.put y hd;refine⟨⟨hs.size,hs.dfr,λt x e=>(by cases e),hs.ext,hs.vst,hs.loc,hs.nd⟩,λt e he=>?_,h.lr,h.nd,λt e he=>?_,h.ul,h.gh⟩
 ·rw[Zm]at he;split at he
  ·rename_i hdt
   cases he
   have hdt':d=t:=hdt;subst hdt';have:=hs.fr d y (ZCc rfl);rw[this];exact hr
  ·rename_i hdt;have:=h.fr t e he;have e2:(a.put (some d) y).tmps.getD t undef=a.tmps.getD t undef:=by
    have hdt':¬ d=t:=hdt;simp[Act.put,Array.getElem?_setIfInBounds_ne hdt']
   rw[e2];exact this
 ·rw[Zm]at he;split at he
  ·cases he;exact⟨hx,hn⟩
  ·exact h.uf t e he
theorem RelX.mono {U' X':Nat→Prop} (h:RelX N G w0 v0 U X f l a w γ v ℓ) (hU:∀ k,U k→U' k) (hX:∀ k,X k→X' k):RelX N G w0 v0 U' X' f l a w γ v ℓ :=
 ⟨h.st,h.fr,h.lr,h.nd,λt e he=>⟨V.ok.mono hU (h.uf t e he).1,hX _ (h.uf t e he).2⟩,λe he=>⟨hX _ (h.ul e he).1,hX _ (h.ul e he).2.1,LV.ok.mono hU hX (h.ul e he).2.2⟩,λx y hg=>⟨(h.gh x y hg).1,V.ok.mono hU (h.gh x y hg).2⟩⟩
end
end Go.Eng
namespace Go.Eng
open Go.RowKit
theorem leaf_n:∀ i,(Zpg i).n=(T.leaf i).n
 | 0 | 1 | 2 | 3 | 4 | 5 | _+6=>rfl
theorem Zol:∀ i,(Zpg i).agg=(T.leaf i).agg
 | 0 | 1 | 2 | 3 | 4 | 5 | _+6=>rfl
theorem Zn:∀ t:T,t.rep.n=t.n
 | .int _ | .bool | .flt _ | .str | .slice _ | .ptr _=>rfl
 | .one a=>Zn a
 | .pair a b=>by show a.rep.n+b.rep.n=a.n+b.n;rw[Zn a,Zn b]
 | .leaf i=>leaf_n i
theorem Zfh:∀ t:T,t.rep.agg=t.agg
 | .int _ | .bool | .flt _ | .str | .slice _ | .one _ | .pair _ _ | .ptr _=>rfl
 | .leaf i=>Zol i
theorem Zdd (t:T) (x:t.den) (cs:List Value):(V.data t x).val cs=t.rep.val cs:=by
 unfold V.val Rep.val;rw[Zfh];rfl
section
variable {v:Za} {γ:Nat→Gh} {l:Lo} {U:Nat→Prop}
theorem ZZa:∀ {x:V} {cs:List Value},RR v γ l false x cs→cs.length=x.size:=by
 intro x
 induction x with
 | data t x=>intro cs h;exact (Rep.len _ h).trans (Zn t)
 | nilS=>intro cs h;rw[show cs=_ from h];rfl
 | own u=>intro cs h;obtain⟨y,rfl,_⟩:=h;rfl
 | row u i hv cv t r=>intro cs h;obtain⟨y,rfl,_⟩:=h;rfl
 | ptr u off=>intro cs h;obtain⟨y,rfl,_⟩:=h;rfl
 | el u i cv t x off=>intro cs h;obtain⟨y,rfl,_⟩:=h;rfl
 | rp u i hv cv t r=>intro cs h;obtain⟨y,rfl,_⟩:=h;rfl
 | rel u i j hv cv t r x off=>intro cs h;obtain⟨y,rfl,_⟩:=h;rfl
 | vp t x off=>intro cs h;obtain⟨b,o,c,_,_,rfl⟩:=h;rfl
 | nl=>intro cs h;rw[show cs=_ from h];rfl
 | cons a b ia ib=>intro cs h;obtain⟨c1,c2,rfl,h1,h2⟩:=h;rw[lA,ia h1,ib h2];rfl
 | agg c ih=>intro cs h;exact ih h
 | tup c ih=>intro cs h;exact h.elim
 | fn f c ih=>intro cs h;obtain⟨vs,_,rfl⟩:=h;rfl
 | ifc ty c ih=>intro cs h;obtain⟨vs,_,rfl⟩:=h;rfl
 | undef=>intro cs h;rw[show cs=_ from h];rfl
theorem Zvk:∀ {x:V} {cs:List Value},x.plain=true→RR v γ l false x cs→cs.all plain=true:=by
 intro x
 induction x with
 | data t x=>intro cs _ h;exact Rep.flat _ h
 | nilS=>intro cs _ h;rw[show cs=_ from h];rfl
 | own u=>intro cs _ h;obtain⟨y,rfl,hp,_⟩:=h;simp[hp]
 | row u i hv cv t r=>intro cs _ h;obtain⟨y,rfl,hp,_⟩:=h;simp[hp]
 | ptr u off=>intro cs _ h;obtain⟨y,rfl,hp,_⟩:=h;simp[hp]
 | el u i cv t x off=>intro cs _ h;obtain⟨y,rfl,hp,_⟩:=h;simp[hp]
 | rp u i hv cv t r=>intro cs _ h;obtain⟨y,rfl,hp,_⟩:=h;simp[hp]
 | rel u i j hv cv t r x off=>intro cs _ h;obtain⟨y,rfl,hp,_⟩:=h;simp[hp]
 | vp t x off=>intro cs _ h;obtain⟨b,o,c,_,_,rfl⟩:=h;rfl
 | nl=>intro cs _ h;rw[show cs=_ from h];rfl
 | cons a b ia ib =>
  intro cs hp h;obtain⟨c1,c2,rfl,h1,h2⟩:=h;simp only[V.plain]at hp
  cases ha:a.plain
  ·rw[ha]at hp;cases hp
  ·rw[ha]at hp;rw[List.all_append,ia ha h1,ib hp h2];rfl
 | agg c ih=>intro cs hp h;exact ih hp h
 | tup c ih=>intro cs _ h;exact h.elim
 | fn f c ih=>intro cs _ h;obtain⟨vs,_,rfl⟩:=h;rfl
 | ifc ty c ih=>intro cs _ h;obtain⟨vs,_,rfl⟩:=h;rfl
 | undef=>intro cs hp _;cases hp
theorem Z7e {a b:Bool} (h:eqB a b=true):a=b:=by cases a <;> cases b <;> first | rfl | cases h
theorem Z0c {x:V} {cs:List Value} (h:RR v γ l false x cs) (hs:x.size=1) (ha:x.isAgg=false):cs=[x.val cs]:=by
 have h1:=ZZa h;rw[hs]at h1;obtain⟨y,rfl⟩:=List.length_eq_one_iff.1 h1;unfold V.val;rw[ha];rfl
theorem ZDk:∀ {t:T} {x:t.den} {cs:List Value},t.rep.rel v cs x→RR v γ l false (ZSd t x) cs∧(ZSd t x).ok U:=by
 intro t
 induction t with
 | pair a b ia ib =>
  intro x cs h;obtain⟨c1,c2,rfl,h1,h2⟩:=h;exact⟨⟨c1,c2,rfl,h1,(ib h2).1⟩,trivial,(ib (x:=x.2) h2).2⟩
 | _=>intro x cs h;exact⟨⟨cs,[],by simp,h,rfl⟩,trivial,trivial⟩
theorem Zqg {t:T} {x:t.den} {c:V} {cs:List Value} (h:ZKb t x=some c) (hr:t.rep.rel v cs x):RR v γ l false c cs∧c.ok U:=by
 unfold ZKb at h;split at h
 ·cases h;exact ZDk hr
 ·cases h;exact⟨⟨cs,[],by simp,hr,rfl⟩,trivial,trivial⟩
 ·rename_i i
  cases h
  have hr':ZRa.rel v cs i:=hr;obtain⟨s,q,n,k,rfl⟩:=ZKe hr';obtain⟨rfl,h2⟩:=ZBl hr';exact⟨⟨[_],[_],rfl,rfl,[_],[],rfl,h2,rfl⟩,trivial,trivial,trivial⟩
 ·rename_i q
  cases h
  have hr':rRat.rel v cs q:=hr;obtain⟨s,q1,n,k,q2,n2,k2,rfl⟩:=ZEl hr';obtain⟨h1,h2⟩:=Zbl hr';exact⟨⟨[_,_],[_],rfl,h1,[_],[],rfl,h2,rfl⟩,trivial,trivial,trivial⟩
 ·rename_i q
  cases h
  have hr':rQ.rel v cs q:=hr;obtain⟨s,q1,n,k,q2,n2,k2,rfl⟩:=Z3l hr';obtain⟨rfl,h1,h2⟩:=rQ_open hr';exact⟨⟨[_],[_,_],rfl,rfl,[_],[_],rfl,h1,[_],[],rfl,h2,rfl⟩,trivial,trivial,trivial,trivial⟩
 ·cases h
theorem Zih {t:T} {x:t.den} {c:V} {cs:List Value} (h:Zua t x=some c) (hr:t.rep.rel v cs x):RR v γ l false c cs∧c.ok U:=by
 unfold Zua at h;split at h
 ·cases h
  obtain⟨c1,c2,rfl,h1,h2⟩:=hr;exact⟨⟨c1,c2,rfl,h1,c2,[],by simp,h2,rfl⟩,trivial,trivial,trivial⟩
 ·exact Zqg h hr
theorem ZVl {t:T} {x:t.den} {c:V} (h:Zua t x=some c):t.agg=true:=by
 unfold Zua at h;split at h
 ·rfl
 ·unfold ZKb at h;split at h <;> first | rfl | cases h
theorem Z0a:∀ (g:Nat) {x z:V} {off n:Nat} {ag:Bool} {cs:List Value},ZA g x off n ag=some z→RR v γ l false x cs→x.ok U →
  RR v γ l false z ((cs.drop off).take n)∧z.ok U∧z.size=n∧z.isAgg=ag∧off+n≤cs.length
 | 0,_,_,_,_,_,_,h,_,_=>by cases h
 | g+1,x,z,off,n,ag,cs,h,hr,hk=>by
  have whole:∀ {y:V},(match Nat.beq off 0,Nat.beq y.size n,eqB y.isAgg ag with
    | true,true,true=>some y
    | _,_,_=>match y with
     | .agg c=>ZA g c off n ag
     | .data t x=>match Zua t x with
      | some c=>ZA g c off n ag
      | none=>none
     | _=>none)=some z→RR v γ l false y cs→y.ok U→RR v γ l false z ((cs.drop off).take n)∧z.ok U∧z.size=n∧z.isAgg=ag∧off+n≤cs.length:=by
   intro y hy hr hk;split at hy
   ·rename_i h1 h2 h3
    cases hy
    have h1:=eQ h1;have h2:=eQ h2;have hl:=ZZa hr;subst h1;refine⟨?_,hk,h2,Z7e h3,by omega⟩;rw[List.drop_zero,List.take_of_length_le (by omega)];exact hr
   ·split at hy
    ·exact Z0a g hy hr hk
    ·split at hy
     ·rename_i he;obtain⟨h1,h2⟩:=Zih (U:=U) he hr;exact Z0a g hy h1 h2
     ·cases hy
    ·cases hy
  cases x with
  | nl=>simp only[ZA]at h;cases h
  | cons a b =>
   simp only[ZA]at h;obtain⟨c1,c2,rfl,h1,h2⟩:=hr;have l1:=ZZa h1;split at h
   ·rename_i hb;have hb:=lB hb;obtain⟨k1,k2,k3,k4,k5⟩:=Z0a g h h1 hk.1;refine⟨?_,k2,k3,k4,by rw[lA];omega⟩;rw[List.drop_append_of_le_length (by omega),List.take_append_of_le_length (by rw[List.length_drop];omega)];exact k1
   ·split at h
    ·rename_i hb;have hb:=lB hb;obtain⟨k1,k2,k3,k4,k5⟩:=Z0a g h h2 hk.2;refine⟨?_,k2,k3,k4,by rw[lA];omega⟩;rw[List.drop_append,List.drop_of_length_le (by omega),List.nil_append,l1];exact k1
    ·cases h
  | data t x=>exact whole (y:=.data t x) h hr hk
  | agg c=>exact whole (y:=.agg c) h hr hk
  | nilS=>exact whole (y:=.nilS) h hr hk
  | own u=>exact whole (y:=.own u) h hr hk
  | row u i hv cv t r=>exact whole (y:=.row u i hv cv t r) h hr hk
  | ptr u o=>exact whole (y:=.ptr u o) h hr hk
  | el u i cv t x o=>exact whole (y:=.el u i cv t x o) h hr hk
  | rp u i hv cv t r=>exact whole (y:=.rp u i hv cv t r) h hr hk
  | rel u i j hv cv t r x o=>exact whole (y:=.rel u i j hv cv t r x o) h hr hk
  | vp t x o=>exact whole (y:=.vp t x o) h hr hk
  | tup c=>exact whole (y:=.tup c) h hr hk
  | fn f c=>exact whole (y:=.fn f c) h hr hk
  | ifc f c=>exact whole (y:=.ifc f c) h hr hk
  | undef=>exact whole (y:=.undef) h hr hk
theorem ZSb:∀ (g:Nat) {x z x':V} {off:Nat} {cs cz:List Value},Z0 g x off z=some x'→RR v γ l false x cs→RR v γ l false z cz→x.ok U→z.ok U →
  RR v γ l false x' (cs.take off++cz++cs.drop (off+cz.length))∧x'.ok U∧off+cz.length≤cs.length∧x'.isAgg=x.isAgg
 | 0,_,_,_,_,_,_,h,_,_,_,_=>by cases h
 | g+1,x,z,x',off,cs,cz,h,hr,hz,hk,hkz=>by
  have lz:=ZZa hz
  have whole:∀ {y:V},y.isAgg=x.isAgg→(match Nat.beq off 0,Nat.beq y.size z.size,eqB y.isAgg z.isAgg with
    | true,true,true=>some z
    | _,_,_=>match y with
     | .agg c=>match Z0 g c off z with
      | some c'=>some (.agg c')
      | none=>none
     | .data t x=>match Zua t x with
      | some c=>match Z0 g c off z with
       | some c'=>some (.agg c')
       | none=>none
      | none=>none
     | _=>none)=some x'→(∀ t x,y = .data t x→∀ c,Zua t x=some c→t.agg=true)→RR v γ l false y cs→y.ok U→RR v γ l false x' (cs.take off++cz++cs.drop (off+cz.length))∧x'.ok U∧off+cz.length≤cs.length∧x'.isAgg=x.isAgg:=by
   intro y hya hy hex hr hk;split at hy
   ·rename_i h1 h2 h3
    cases hy
    have h1:=eQ h1;have h2:=eQ h2;have hl:=ZZa hr;subst h1;refine⟨?_,hkz,by omega,(Z7e h3).symm.trans hya⟩;rw[List.take_zero,List.nil_append,List.drop_of_length_le (by omega),List.append_nil];exact hz
   ·split at hy
    ·split at hy
     ·rename_i he
      cases hy
      obtain⟨k1,k2,k3,k4⟩:=ZSb g he hr hz hk hkz;exact⟨k1,k2,k3,hya⟩
     ·cases hy
    ·rename_i t xx _;split at hy
     ·rename_i c hc;split at hy
      ·rename_i he
       cases hy
       obtain⟨h1,h2⟩:=Zih (U:=U) hc hr;obtain⟨k1,k2,k3,k4⟩:=ZSb g he h1 hz h2 hkz;exact⟨k1,k2,k3,(hex t xx rfl _ hc).symm.trans hya⟩
      ·cases hy
     ·cases hy
    ·cases hy
  have noex:∀ {y:V},(∀ t x,y ≠ .data t x)→(∀ t x,y = .data t x→∀ c,Zua t x=some c→t.agg=true):=λh t x e=>absurd e (h t x)
  cases x with
  | nl=>simp only[Z0]at h;cases h
  | cons a b =>
   simp only[Z0]at h;obtain⟨c1,c2,rfl,h1,h2⟩:=hr;have l1:=ZZa h1;split at h
   ·rename_i hb;have hb:=lB hb;split at h
    ·rename_i he
     cases h
     obtain⟨k1,k2,k3,k4⟩:=ZSb g he h1 hz hk.1 hkz;refine⟨⟨_,c2,?_,k1,h2⟩,⟨k2,hk.2⟩,by rw[lA];omega,rfl⟩;rw[List.take_append_of_le_length (by omega),List.drop_append_of_le_length (by omega)];simp
    ·cases h
   ·split at h
    ·rename_i hb;have hb:=lB hb;split at h
     ·rename_i he
      cases h
      obtain⟨k1,k2,k3,k4⟩:=ZSb g he h2 hz hk.2 hkz;refine⟨⟨c1,_,?_,h1,k1⟩,⟨hk.1,k2⟩,by rw[lA];omega,rfl⟩;rw[List.take_append,List.take_of_length_le (by omega),List.drop_append,List.drop_of_length_le (by omega),l1];rw[show off+cz.length-a.size=off-a.size+cz.length by omega];simp
     ·cases h
    ·cases h
  | data t xx=>exact whole (y:=.data t xx) rfl h (λt x e c hc=>by
    cases e
    exact ZVl hc) hr hk
  | agg c=>exact whole (y:=.agg c) rfl h (noex λ_ _ e=>by cases e) hr hk
  | nilS=>exact whole (y:=.nilS) rfl h (noex λ_ _ e=>by cases e) hr hk
  | own u=>exact whole (y:=.own u) rfl h (noex λ_ _ e=>by cases e) hr hk
  | row u i hv cv t r=>exact whole (y:=.row u i hv cv t r) rfl h (noex λ_ _ e=>by cases e) hr hk
  | ptr u o=>exact whole (y:=.ptr u o) rfl h (noex λ_ _ e=>by cases e) hr hk
  | el u i cv t x o=>exact whole (y:=.el u i cv t x o) rfl h (noex λ_ _ e=>by cases e) hr hk
  | rp u i hv cv t r=>exact whole (y:=.rp u i hv cv t r) rfl h (noex λ_ _ e=>by cases e) hr hk
  | rel u i j hv cv t r x o=>exact whole (y:=.rel u i j hv cv t r x o) rfl h (noex λ_ _ e=>by cases e) hr hk
  | vp t x o=>exact whole (y:=.vp t x o) rfl h (noex λ_ _ e=>by cases e) hr hk
  | tup c=>exact whole (y:=.tup c) rfl h (noex λ_ _ e=>by cases e) hr hk
  | fn f c=>exact whole (y:=.fn f c) rfl h (noex λ_ _ e=>by cases e) hr hk
  | ifc f c=>exact whole (y:=.ifc f c) rfl h (noex λ_ _ e=>by cases e) hr hk
  | undef=>exact whole (y:=.undef) rfl h (noex λ_ _ e=>by cases e) hr hk
end
end Go.Eng
namespace Go.Eng
open Go.RowKit
def Zc {ρ:Type} (n:Nat):Ev ρ→Fr→Lo→(ρ→Fr→Lo→Prop)→Prop
 | .fail,_,_,_=>False
 | .done r,f,l,K=>K r f l
 | .rdS t k,f,l,K=>∃ e,lkE f t=some e∧Zc n (k e.x) f l K
 | .rdL u k,f,l,K=>∃ e,lkE l u=some e∧Zc n (k e.st e.x) f l K
 | .wrS t x e,f,l,K=>Zc n e (⟨t,n,x⟩ :: f) l K
 | .wrL u L e,f,l,K=>Zc n e f (⟨u,n,L⟩ :: era l u) K
 | .new u L e,f,l,K=>lkE l u=none∧Zc n e f (⟨u,n,L⟩ :: l) K
 | .del u e,f,l,K=>Zc n e f (era l u) K
 | .bind x k,f,l,K=>∃ y,x=some y∧Zc n (k y) f l K
 | .test t e1 e2,f,l,K=>∃ s b,lkE f t=some ⟨t,s,.data .bool b⟩∧(b=true→Zc n e1 (⟨t,s,.data .bool b⟩ :: f) l K)∧(b=false→Zc n e2 (⟨t,s,.data .bool b⟩ :: f) l K)
 | .alt b e1 e2,f,l,K=>(b=true→Zc n e1 f l K)∧(b=false→Zc n e2 f l K)
theorem Z7a {ρ α:Type} {n:Nat} {r:α}:∀ {e:Ev ρ} {f:Fr} {l:Lo} {K:ρ→Fr→Lo→Option α},ZL n e f l K=some r→Zc n e f l λx f' l'=>K x f' l'=some r:=by
 intro e
 induction e with
 | fail=>intro f l K h;cases h
 | done x=>intro f l K h;exact h
 | rdS t k ih =>
  intro f l K h;simp only[ZL]at h;split at h
  ·rename_i x hx;exact⟨x,hx,ih _ h⟩
  ·cases h
 | rdL u k ih =>
  intro f l K h;simp only[ZL]at h;split at h
  ·rename_i x hx;exact⟨x,hx,ih _ _ h⟩
  ·cases h
 | wrS t x e ih=>intro f l K h;exact ih h
 | wrL u L e ih=>intro f l K h;exact ih h
 | new u L e ih =>
  intro f l K h;simp only[ZL]at h;split at h
  ·rename_i hx;exact⟨hx,ih h⟩
  ·cases h
 | del u e ih=>intro f l K h;exact ih h
 | bind x k ih =>
  intro f l K h;obtain⟨y,hy,h2⟩:=Zbc h;exact⟨y,hy,ih _ h2⟩
 | test t e1 e2 i1 i2 =>
  intro f l K h;simp only[ZL]at h;split at h
  ·rename_i k s b hx;obtain⟨_,hk⟩:=Ze hx;have hk:k=t:=hk;subst hk;refine⟨s,b,hx,λe=>?_,λe=>?_⟩
   ·subst e;exact i1 h
   ·subst e;exact i2 h
  ·cases h
 | alt b e1 e2 i1 i2=>intro f l K h;exact⟨λe=>by subst e;exact i1 h,λe=>by subst e;exact i2 h⟩
theorem Zc.mono {ρ:Type} {n:Nat}:∀ {e:Ev ρ} {f:Fr} {l:Lo} {K K':ρ→Fr→Lo→Prop},Zc n e f l K→(∀ r f l,K r f l→K' r f l)→Zc n e f l K':=by
 intro e
 induction e with
 | fail=>intro f l K K' h k;exact h
 | done x=>intro f l K K' h k;exact k _ _ _ h
 | rdS t q ih=>intro f l K K' h k;obtain⟨x,hx,h⟩:=h;exact⟨x,hx,ih _ h k⟩
 | rdL u q ih=>intro f l K K' h k;obtain⟨x,hx,h⟩:=h;exact⟨x,hx,ih _ _ h k⟩
 | wrS t x e ih=>intro f l K K' h k;exact ih h k
 | wrL u L e ih=>intro f l K K' h k;exact ih h k
 | new u L e ih=>intro f l K K' h k;exact⟨h.1,ih h.2 k⟩
 | del u e ih=>intro f l K K' h k;exact ih h k
 | bind x q ih=>intro f l K K' h k;obtain⟨x,hx,h⟩:=h;exact⟨x,hx,ih _ h k⟩
 | test t e1 e2 i1 i2 =>
  intro f l K K' h k;obtain⟨s,b,h1,h2,h3⟩:=h;exact⟨s,b,h1,λe=>i1 (h2 e) k,λe=>i2 (h3 e) k⟩
 | alt b e1 e2 i1 i2=>intro f l K K' h k;exact⟨λe=>i1 (h.1 e) k,λe=>i2 (h.2 e) k⟩
section
variable {N:Nat} {G:V→Value→Prop} {w0:Base} {v0:Za} {U X:Nat→Prop} {f:Fr} {l:Lo} {a:Act} {w:World} {γ:Nat→Gh} {v:Za} {ℓ:List Loc}
theorem Le.upd (h:RelX N G w0 v0 U X f l a w γ v ℓ) {u n:Nat} {e:En LV} {L':LV} {γ':Nat→Gh} {v':Za} (hu:lkE l u=some e) (hv:v.le v') (hg:∀ k,k≠u→γ' k=γ k) (hc:CE U γ γ' u e.st n e.x L') :
  Le U v γ l v' γ' (⟨u,n,L'⟩ :: Go.Eng.era l u):=by
 obtain⟨E,hE,_⟩:=h.lr;refine⟨hv,λk e' _ he=>?_⟩;rw[Zm]at he;split at he
 ·rename_i hk
  cases he
  have hk:u=k:=hk;subst hk;exact⟨e,hu,hc⟩
 ·rename_i hk;have hk:¬ u=k:=hk;rw[Zxa h.nd,iN hk]at he;refine⟨e',he,?_⟩;obtain⟨hm,hk'⟩:=Ze he;obtain⟨es,hr⟩:=Zsb hE hm;have:=ZFc (U:=U) (γ':=γ') hr (hg _ (by rw[hk'];exact λe=>hk e.symm));rw[hk']at this;exact this
theorem CE.tr {γ1 γ2 γ3:Nat→Gh} {u s1 s2 s3:Nat} {x1 x2 x3:LV} (c1:CE U γ1 γ2 u s1 s2 x1 x2) (c2:CE U γ2 γ3 u s2 s3 x2 x3):CE U γ1 γ3 u s1 s3 x1 x3:=by
 have mm:∀ {t1 t2 t3:T} {m1:List (List t1.den)} {m2:List (List t2.den)} {m3:List (List t3.den)} {hv1 hv2 hv3:Nat},CEm U γ1 γ2 u s1 s2 t1 m1 hv1 t2 m2 hv2→CEm U γ2 γ3 u s2 s3 t2 m2 hv2 t3 m3 hv3→CEm U γ1 γ3 u s1 s3 t1 m1 hv1 t3 m3 hv3:=by
  rintro t1 t2 t3 m1 m2 m3 hv1 hv2 hv3 ⟨a1,a2,⟨ob,cap,rows,rows',a3,a4,a5⟩,a6⟩ ⟨b1,b2,⟨ob2,cap2,rows2,rows3,b3,b4,b5⟩,b6⟩;rw[a4]at b3;cases b3;refine⟨b1.trans a1,by omega,⟨_,_,rows,rows3,a3,b4,λhu=>?_⟩,λhu=>?_⟩
  ·obtain⟨e1,e2,e3⟩:=b5 hu;obtain⟨g1,g2,g3⟩:=a5 (by rw[← e1];exact hu);exact⟨e1.trans g1,e2.trans g2,e3.trans g3⟩
  ·obtain⟨e1,e2⟩:=b6 hu;have:=a6 (by rw[← e1];exact hu);exact⟨e1.trans this.1,e2.trans this.2⟩
 have mo:∀ {t1 t2 t3:T} {m1:List (List t1.den)} {m2:List (List t2.den)} {xs:List t3.den} {hv1 hv2:Nat},CEm U γ1 γ2 u s1 s2 t1 m1 hv1 t2 m2 hv2→(∃ ob cap rows,γ2 u = .mat ob cap rows∧γ3 u = .own ob cap∧xs.length=m2.length)→∃ ob cap rows,γ1 u = .mat ob cap rows∧γ3 u = .own ob cap∧xs.length=m1.length:=by
  rintro t1 t2 t3 m1 m2 xs hv1 hv2 ⟨a1,a2,⟨ob,cap,rows,rows',a3,a4,_⟩,_⟩ ⟨ob2,cap2,rows2,b1,b2,b3⟩;rw[a4]at b1;cases b1;exact⟨_,_,rows,a3,b2,by omega⟩
 have oo:∀ {t1 t2 t3:T} {m1:List (List t1.den)} {xs2:List t2.den} {xs3:List t3.den},(∃ ob cap rows,γ1 u = .mat ob cap rows∧γ2 u = .own ob cap∧xs2.length=m1.length)→(γ3 u=γ2 u∧t3=t2∧xs3.length=xs2.length∧(U s3→s3=s2∧(⟨t3,xs3⟩:(t:T)×List t.den)=⟨t2,xs2⟩))→∃ ob cap rows,γ1 u = .mat ob cap rows∧γ3 u = .own ob cap∧xs3.length=m1.length:=by
  rintro t1 t2 t3 m1 xs2 xs3 ⟨ob,cap,rows,a1,a2,a3⟩ ⟨b1,b2,b3,b4⟩;exact⟨ob,cap,rows,a1,by rw[b1,a2],by omega⟩
 cases x1 <;> cases x2 <;> simp only[CE]at c1 <;> cases x3 <;> simp only[CE]at c2 ⊢
 ·rw[c2,c1]
 ·obtain⟨a1,a2,a3,a4⟩:=c1;obtain⟨b1,b2,b3,b4⟩:=c2;refine⟨b1.trans a1,b2.trans a2,b3.trans a3,λhu=>?_⟩;obtain⟨e1,e2⟩:=b4 hu;have:=a4 (by rw[← e1];exact hu);exact⟨e1.trans this.1,e2.trans this.2⟩
 all_goals first | exact mm c1 c2 | exact mo c1 c2 | exact oo c1 c2 | exact⟨c2.1.trans c1.1,c2.2.trans c1.2⟩
theorem Le.trans {v1 v2 v3:Za} {γ1 γ2 γ3:Nat→Gh} {l1 l2 l3:Lo} (h:Le U v1 γ1 l1 v2 γ2 l2) (k:Le U v2 γ2 l2 v3 γ3 l3):Le U v1 γ1 l1 v3 γ3 l3:=by
 refine⟨Za.le_trans h.v k.v,λu e3 hU he=>?_⟩;obtain⟨e2,h2,c2⟩:=k.l u e3 hU he;obtain⟨e1,h1,c1⟩:=h.l u e2 hU h2;refine⟨e1,h1,?_⟩;exact CE.tr c1 c2
theorem Zwi {ty:TypeId} {t:T}:∀ {rows:List (Option Nat×Nat)} {m:List (List t.den)} {es rest:List Loc} {v:Za},ZD v ty t rows m es→St N w0 v0 [] (es++rest) v a w →
  ∃ v',v.le v'∧St N w0 v0 [] rest v' a w∧(Zo t.rep).rels v' (Zf rows m) m
 | [],[],es,rest,v,hr,hs=>by rw[show es=[] from hr]at hs;exact⟨v,Za.le_refl _,hs,rfl⟩
 | p :: ps,r :: rs,es,rest,v,⟨cs,es',h1,h2,h3⟩,hs=>by
  subst h2
  obtain⟨v1,hv1,hs1,hr1⟩:=hs.pubSlice (i:=0) (A:=t.rep) (l:=r) rfl (Zn t).symm rfl h1 rfl
  obtain⟨v2,hv2,hs2,hr2⟩:=Zwi (ZAa hv1 h3) hs1
  exact⟨v2,Za.le_trans hv1 hv2,hs2,[_],_,rfl,Rep.mono _ hv2 hr1,hr2⟩
 | [],_ :: _,_,_,_,hr,_=>hr.elim
 | _ :: _,[],_,_,_,hr,_=>hr.elim
theorem RelX.freeze (h:RelX N G w0 v0 U X f l a w γ v ℓ) {u n k st:Nat} {ty:TypeId} {t:T} {xs:List t.den} {ex:List Loc} (hex:St N w0 v0 [] (ex++ℓ) v a w) (hu:lkE l u=some ⟨k,st,.own ty t xs false⟩) (hn:¬ U n) (hX:X n) :
  ∃ v' ℓ' ,RelX N G w0 v0 U X f (⟨u,n,.own ty t xs true⟩ :: era l u) a w γ v' ℓ'∧St N w0 v0 [] (ex++ℓ') v' a w∧Le U v γ l v' γ (⟨u,n,.own ty t xs true⟩ :: era l u)∧∃ ob cap,γ u = .own ob cap∧(Zo t.rep).rel v' [.slice (mkA ob) xs.length cap] xs:=by
 obtain⟨hm,hk⟩:=Ze hu;have hk:k=u:=hk;subst hk;obtain⟨es,E',h1,h2,_,h3,_⟩:=h.del hu;obtain⟨ob,cap,cs,g1,g2,rfl⟩:=h1;have hs:St N w0 v0 [] (.own ob ty t.n xs.length cap cs :: (ex++E'.flatten)) v a w:=hex.perm ((List.Perm.append_left ex h3).trans (by rw[List.singleton_append];exact List.perm_middle));obtain⟨v',hv,hx',hr⟩:=hs.pubSlice (i:=0) (A:=t.rep) (l:=xs) rfl (Zn t).symm rfl g2 rfl;have hx':St N w0 v0 [] (ex++E'.flatten) v' a w:=hx';have hs':St N w0 v0 [] E'.flatten v' a w:=hx'.drop (List.sublist_append_right _ _);have hle:Le U v γ l v' γ (⟨k,n,.own ty t xs true⟩ :: era l k):=Le.upd h hu hv (λ_ _=>rfl) ⟨rfl,rfl,rfl,λe=>absurd e hn⟩;exact⟨v',_,h.upd hX (h.ul _ hm).1 h2 hs' hle (λ_ _=>rfl) ⟨ob,cap,g1,hr,rfl⟩ (List.Perm.refl _) trivial,hx',hle,ob,cap,g1,hr⟩
def Z4 (γ:Nat→Gh) (u:Nat) (g:Gh):Nat→Gh:=λk=>if k=u then g else γ k
theorem ZN {γ:Nat→Gh} {u:Nat} {g:Gh}:Z4 γ u g u=g:=iP rfl
theorem Zba {γ:Nat→Gh} {u k:Nat} {g:Gh} (h:k≠u):Z4 γ u g k=γ k:=iN h
theorem RelX.freezeM (h:RelX N G w0 v0 U X f l a w γ v ℓ) {u n k st hv:Nat} {ty ty2:TypeId} {t:T} {m:List (List t.den)} {ex:List Loc} (hex:St N w0 v0 [] (ex++ℓ) v a w) (hu:lkE l u=some ⟨k,st,.mat ty ty2 t m hv⟩) (hn:¬ U n) (hX:X n) :
  ∃ γ' v' ℓ' ,RelX N G w0 v0 U X f (⟨u,n,.own ty (.slice t) m true⟩ :: era l u) a w γ' v' ℓ'∧St N w0 v0 [] (ex++ℓ') v' a w∧Le U v γ l v' γ' (⟨u,n,.own ty (.slice t) m true⟩ :: era l u)∧∃ ob cap rows,γ u = .mat ob cap rows∧γ' u = .own ob cap∧(Zo (Zo t.rep)).rel v' [.slice (mkA ob) m.length cap] m:=by
 obtain⟨hm,hk⟩:=Ze hu;have hk:k=u:=hk;subst hk;obtain⟨es,E',h1,h2,_,h3,_⟩:=h.del hu;obtain⟨ob,cap,rows,es2,g1,g2,rfl⟩:=h1;have hs:St N w0 v0 [] (es2++(.own ob ty 1 m.length cap (Zf rows m) :: (ex++E'.flatten))) v a w:=hex.perm ((List.Perm.append_left ex h3).trans (by
  rw[List.cons_append];refine List.perm_middle.trans ?_;refine (List.Perm.cons _ ?_).trans List.perm_middle.symm;rw[← aA,← aA];exact List.Perm.append_right _ List.perm_append_comm))
 obtain⟨v1,hv1,hs1,hr1⟩:=Zwi g2 hs;obtain⟨v',hv,hx',hr⟩:=hs1.pubSlice (i:=0) (A:=Zo t.rep) (l:=m) rfl rfl rfl hr1 rfl;have hx':St N w0 v0 [] (ex++E'.flatten) v' a w:=hx';have hs':St N w0 v0 [] E'.flatten v' a w:=hx'.drop (List.sublist_append_right _ _);have hle:Le U v γ l v' (Z4 γ k (.own ob cap)) (⟨k,n,.own ty (.slice t) m true⟩ :: era l k):=Le.upd h hu (Za.le_trans hv1 hv) (λ_ hne=>Zba hne) ⟨ob,cap,rows,g1,ZN,rfl⟩;refine⟨_,v',_,h.upd hX (h.ul _ hm).1 h2 hs' hle (λ_ hne=>Zba hne) ⟨ob,cap,ZN,hr,rfl⟩ (List.Perm.refl _) trivial,hx',hle,ob,cap,rows,g1,ZN,hr⟩
theorem Zx {s t:T} {x:s.den} {y:t.den} (h:T.cast s t x=some y):∃ e:s=t,e ▸ x=y:=by
 unfold T.cast at h;have:∀ (b:Bool) (hb:T.beq s t=b),T.castB s t b hb x=some y→∃ e:s=t,e ▸ x=y:=by
  intro b hb h
  cases b with
  | true=>exact⟨T.beq_eq hb,Option.some.inj h⟩
  | false=>cases h
 exact this _ _ h
theorem Zsl:∀ {t:T} {x:t.den},(ZSd t x).ok U:=by
 intro t
 induction t with
 | pair a b ia ib=>intro x;exact⟨trivial,ib (x:=x.2)⟩
 | _=>intro x;exact⟨trivial,trivial⟩
theorem Zti {t:T} {x:t.den} {c:V} (h:ZKb t x=some c):c.ok U:=by
 unfold ZKb at h;split at h
 ·cases h;exact Zsl
 ·cases h;exact⟨trivial,trivial⟩
 ·cases h;exact⟨trivial,trivial,trivial⟩
 ·cases h;exact⟨trivial,trivial,trivial⟩
 ·cases h;exact⟨trivial,trivial,trivial,trivial⟩
 ·cases h
theorem ZHi {t:T} {x:t.den} {c:V} (h:Zua t x=some c):c.ok U:=by
 unfold Zua at h;split at h
 ·cases h;exact⟨trivial,trivial,trivial⟩
 ·exact Zti h
theorem ZZi {v:Za} {s t:T} {x:s.den} {y:t.den} {cs:List Value} (hr:s.rep.rel v cs x) (h:cvtQ s t x=some y):t.rep.rel v cs y∧s.rep.n=t.rep.n:=by
 unfold cvtQ at h;split at h
 ·rename_i hc
  cases h
  obtain⟨e,he⟩:=Zx hc;subst e;subst he;exact⟨hr,rfl⟩
 ·split at h
  ·rename_i r hr1;obtain⟨e,he⟩:=Zx hr1;subst e;subst he;split at h
   ·rename_i q hq;obtain⟨e,he⟩:=Zx h;subst e;subst he;obtain⟨c1,c2,rfl,h1,c3,c4,rfl,h2,h3⟩:=hr;have h1:c1=[.bool _]:=h1;subst h1;have h2:Z5.rel v c3 _:=h2;have h3:Z5.rel v c4 _:=h3;obtain⟨qa,na,ka,rfl⟩:=Zpb h2;obtain⟨qb,nb,kb,rfl⟩:=Zpb h3;exact⟨Zsh h2 h3 hq,rfl⟩
   ·cases h
  ·cases h
theorem Zml {α β:Type} {p:Option α} {q:Option β} {z:α×β} (h:both2 p q=some z):p=some z.1∧q=some z.2:=by
 cases p <;> cases q <;> first | (cases h;done) | (cases h;exact⟨rfl,rfl⟩)
theorem cvt_ok {v:Za}:∀ {s t:T} {x:s.den} {y:t.den} {cs:List Value},s.rep.rel v cs x→cvt s t x=some y→t.rep.rel v cs y∧s.rep.n=t.rep.n:=by
 intro s
 induction s with
 | pair a b ia ib =>
  intro t x y cs hr h
  cases t with
  | pair c d =>
   obtain⟨h1,h2⟩:=Zml (show both2 (cvt a c x.1) (cvt b d x.2)=some y from h);obtain⟨c1,c2,rfl,q1,q2⟩:=hr;obtain⟨k1,k2⟩:=ia q1 h1;obtain⟨k3,k4⟩:=ib q2 h2;exact⟨⟨c1,c2,rfl,k1,k3⟩,by show _+_=_+_;rw[k2,k4]⟩
  | _=>exact ZZi hr h
 | _=>intro t x y cs hr h;exact ZZi hr h
theorem Zjj {v:Za} {s t:T}:∀ {l:List s.den} {l':List t.den} {cs:List Value},s.rep.rels v cs l→cvtL s t l=some l'→t.rep.rels v cs l'∧l'.length=l.length∧(l≠[]→s.rep.n=t.rep.n)
 | [],_,cs,hr,h=>by cases h;exact⟨hr,rfl,λe=>absurd rfl e⟩
 | x :: l,_,cs,hr,h=>by
  simp only[cvtL]at h
  split at h
  ·rename_i y z h1 h2
   cases h
   obtain⟨c1,c2,rfl,q1,q2⟩:=hr
   obtain⟨k1,k2⟩:=cvt_ok q1 h1
   obtain⟨k3,k4,_⟩:=Zjj q2 h2
   exact⟨⟨c1,c2,rfl,k1,k3⟩,by simp[k4],λ_=>k2⟩
  ·cases h
theorem ZLk {v:Za} {s t:T} {l:List s.den} {l':List t.den} {cs:List Value} (hr:(Zo s.rep).rel v cs l) (h:cvtL s t l=some l'):(Zo t.rep).rel v cs l':=by
 obtain⟨q,cap,rfl,h1,h2,h3⟩:=hr;rcases h3 with rfl | ⟨b,off,c,T',fr,e,hb,hk⟩
 ·cases h;exact⟨q,cap,rfl,h1,h2,.inl rfl⟩
 ·obtain⟨k1,k2,k3⟩:=Zjj hk h;refine⟨q,cap,by rw[k2],by omega,h2,?_⟩;by_cases hl:l=[]
  ·subst hl;cases h;exact .inl rfl
  ·exact .inr ⟨b,off,c,T',fr,e,hb,by rw[k2,← k3 hl];exact k1⟩
theorem RelX.go (h:RelX N G w0 v0 U X f l a w γ v ℓ) {v':Za} {w':World} (hle:v.le v') (hst:St N w0 v0 [] ℓ v' a w'):RelX N G w0 v0 U X f l a w' γ v' ℓ:=by
 obtain⟨E,hE,hp⟩:=h.lr;have hl:Le U v γ l v' γ l:=Le.refl hE hle;exact⟨hst,λt e he=>ZX hl (h.uf t e he).1 (h.fr t e he),⟨E,hE.imp λe he es hr=>Z1c hl (h.ul e he).2.2 rfl hr,hp⟩,h.nd,h.uf,h.ul,λx y hg=>⟨ZX hl (h.gh x y hg).2 (h.gh x y hg).1,(h.gh x y hg).2⟩⟩
theorem RelX.freezeP (h:RelX N G w0 v0 U X f l a w γ v ℓ) {u k st:Nat} {m:Option MPd} {ex:List Loc} (hex:St N w0 v0 [] (ex++ℓ) v a w) (hu:lkE l u=some ⟨k,st,.mp m⟩) :
  ∃ v' ℓ' ,RelX N G w0 v0 U X f (era l u) a w γ v' ℓ'∧St N w0 v0 [] (ex++ℓ') v' a w∧Le U v γ l v' γ (era l u)∧∀ y,mpH (γ u) m y→rMp.rel v' [y] m:=by
 obtain⟨hm,hk⟩:=Ze hu;have hk:k=u:=hk;subst hk;obtain⟨es,E',h1,h2,h5,h3,h4⟩:=h.del hu;have h1:Z6b (γ k) m es:=h1;have hle0:=Le.era h k
 cases m with
 | none =>
  obtain rfl:es=[]:=h1;refine⟨v,_,h4,hex.perm (List.Perm.append_left ex h3),hle0,λy hy=>?_⟩;rw[show y=_ from hy];rfl
 | some m =>
  obtain⟨b,g1,rfl,g2⟩:=h1;have hs:St N w0 v0 [] (.mp b (mpV m) :: (ex++E'.flatten)) v a w:=hex.perm ((List.Perm.append_left ex h3).trans (by rw[List.singleton_append];exact List.perm_middle));obtain⟨es,c,q1,q2⟩:=(hs.loc _ List.mem_cons_self).1;obtain⟨v',hv,hb,hx'⟩:=hs.publish (i:=0) rfl rfl q1 rfl;have hx':St N w0 v0 [] (ex++E'.flatten) v' a w:=hx';have hs':St N w0 v0 [] E'.flatten v' a w:=hx'.drop (List.sublist_append_right _ _);have hle:Le U v γ l v' γ (era l k):=⟨hv,hle0.l⟩;refine⟨v',_,h4.go hv hs',hx',hle,λy hy=>?_⟩;obtain⟨b',q3,rfl⟩:=hy;rw[g1]at q3;cases q3;exact⟨b,es,c,rfl,hb,q2,g2⟩
theorem Z6 {ρ:Type} {n:Nat} (hn:¬ U n) (hX:X n):∀ (g:Nat) {t:T} {x:V} {k:t.den→Ev ρ} {l:Lo} {Post:ρ→Fr→Lo→Prop} {γ:Nat→Gh} {v:Za} {ℓ ex:List Loc},Zc n (conv g t x k) f l Post→RelX N G w0 v0 U X f l a w γ v ℓ→St N w0 v0 [] (ex++ℓ) v a w→x.ok U →
  ∃ y l' γ' v' ℓ',Zc n (k y) f l' Post∧RelX N G w0 v0 U X f l' a w γ' v' ℓ'∧St N w0 v0 [] (ex++ℓ') v' a w∧Le U v γ l v' γ' l'∧∀ cs,RR v γ l false x cs→t.rep.rel v' cs y
 | 0,_,_,_,_,_,_,_,_,_,h,_,_,_=>h.elim
 | g+1,t,x,k,l,Post,γ,v,ℓ,ex,h,hr,e0,hk=>by
  obtain⟨E,hE,_⟩:=hr.lr
  have rfl':Le U v γ l v γ l:=Le.refl hE (Za.le_refl _)
  cases x with
  | data s x =>
   simp only[conv]at h
   split at h
   ·rename_i y hy
    obtain⟨e,he⟩:=Zx hy
    subst e;subst he
    exact⟨_,l,γ,v,ℓ,h,hr,e0,rfl',λcs hx=>hx⟩
   ·split at h
    ·exact⟨_,l,γ,v,ℓ,h,hr,e0,rfl',λcs hx=>hx⟩
    ·exact⟨_,l,γ,v,ℓ,h,hr,e0,rfl',λcs hx=>hx⟩
    ·obtain⟨y,hy,h⟩:=h;exact⟨y,l,γ,v,ℓ,h,hr,e0,rfl',λcs hx=>clo_rel hx hy⟩
    ·obtain⟨y,hy,h⟩:=h;exact⟨y,l,γ,v,ℓ,h,hr,e0,rfl',λcs hx=>ZKl hx hy⟩
    ·obtain⟨y,hy,h⟩:=h;exact⟨y,l,γ,v,ℓ,h,hr,e0,rfl',λcs hx=>ZLk hx hy⟩
    ·split at h
     ·rename_i c hc
      obtain⟨y,l2,γ2,v2,ℓ2,k1,k2,e2,k3,k4⟩:=Z6 hn hX g h hr e0 (x:=.agg c) (Zti (c:=c) (t:=s) (x:=x) hc:c.ok U)
      exact⟨y,l2,γ2,v2,ℓ2,k1,k2,e2,k3,λcs hx=>k4 cs (Zqg (U:=U) (γ:=γ) (l:=l) hc hx).1⟩
     ·exact h.elim
  | nilS =>
   simp only[conv]at h
   split at h
   ·exact⟨_,l,γ,v,ℓ,h,hr,e0,rfl',λcs hx=>by rw[show cs=_ from hx];exact ZTd _ _⟩
   ·exact⟨_,l,γ,v,ℓ,h,hr,e0,rfl',λcs hx=>by rw[show cs=_ from hx];exact ZZe _⟩
   ·exact⟨_,l,γ,v,ℓ,h,hr,e0,rfl',λcs hx=>by rw[show cs=_ from hx];exact ZEe _⟩
   ·exact h.elim
  | own u =>
   simp only[conv]at h
   obtain⟨e,he,h⟩:=h
   obtain⟨kk,st,L⟩:=e
   obtain⟨hm,hkk⟩:=Ze he
   have hkk:kk=u:=hkk
   subst hkk
   cases L with
   | box _ _=>exact h.elim
   | mid _ _ _ _ _ _=>exact h.elim
   | mp m =>
    simp only at h
    split at h
    ·obtain⟨v',ℓ',f1,e1,f2,f3⟩:=hr.freezeP e0 he
     refine⟨m,_,γ,v',ℓ',h,f1,e1,f2,λcs hx=>?_⟩
     obtain⟨y',rfl,hp,hy⟩:=hx
     exact f3 _ (hy _ he)
    ·exact h.elim
   | own ty s xs fz =>
    cases fz with
    | true =>
     obtain⟨es,hes⟩:=Zsb hE hm
     obtain⟨ob,cap,g1,g2,_⟩:=hes
     have g1:γ kk = .own ob cap:=g1
     obtain⟨y,l2,γ2,v2,ℓ2,k1,k2,e2,k3,k4⟩:=Z6 hn hX g h hr e0 (x:=.data (.slice s) xs) trivial
     refine⟨y,l2,γ2,v2,ℓ2,k1,k2,e2,k3,λcs hx=>?_⟩
     obtain⟨y',rfl,hp,hy⟩:=hx
     obtain⟨ob',cap',g3,g4⟩:=hy _ he
     rw[g1]at g3;cases g3
     subst g4
     exact k4 _ g2
    | false =>
     obtain⟨v',ℓ',f1,e1,f2,ob,cap,g1,g2⟩:=hr.freeze e0 he hn hX
     obtain⟨y,l2,γ2,v2,ℓ2,k1,k2,e2,k3,k4⟩:=Z6 hn hX g h f1 e1 (x:=.data (.slice s) xs) trivial
     refine⟨y,l2,γ2,v2,ℓ2,k1,k2,e2,f2.trans k3,λcs hx=>?_⟩
     obtain⟨y',rfl,hp,hy⟩:=hx
     obtain⟨ob',cap',g3,g4⟩:=hy _ he
     rw[g1]at g3;cases g3
     subst g4
     exact k4 _ g2
   | mat ty _ s m _ =>
    obtain⟨γ',v',ℓ',f1,e1,f2,ob,cap,rows,g1,g1',g2⟩:=hr.freezeM e0 he hn hX
    obtain⟨y,l2,γ2,v2,ℓ2,k1,k2,e2,k3,k4⟩:=Z6 hn hX g h f1 e1 (x:=.data (.slice (.slice s)) m) trivial
    refine⟨y,l2,γ2,v2,ℓ2,k1,k2,e2,f2.trans k3,λcs hx=>?_⟩
    obtain⟨y',rfl,hp,hy⟩:=hx
    obtain⟨ob',cap',rows',g3,g4⟩:=hy _ he
    rw[g1]at g3;cases g3
    subst g4
    exact k4 _ g2
  | agg c =>
   cases c with
   | cons x1 c =>
    cases c with
    | cons x2 r =>
     have hk1:x1.ok U:=hk.1
     have hk2:x2.ok U:=hk.2.1
     have hk3:r.ok U:=hk.2.2
     simp only[conv]at h
     split at h
     · -- an integer
      obtain⟨s,l1,γ1,v1,ℓ1,h,r1,e1,le1,q1⟩:=Z6 hn hX g h hr e0 hk1
      obtain⟨m,l2,γ2,v2,ℓ2,h,r2,e2,le2,q2⟩:=Z6 hn hX g h r1 e1 hk2
      obtain⟨y,hy,h⟩:=h
      refine⟨y,l2,γ2,v2,ℓ2,h,r2,e2,le1.trans le2,λcs hx=>?_⟩
      obtain⟨c1,c2',rfl,hx1,c2,c3,rfl,hx2,hx3⟩:=hx
      have hx3:c3=[]:=hx3
      subst hx3
      have q1:=q1 _ hx1
      have q2:=q2 _ (Z7 le1 hk2 hx2)
      have q1:c1=[.bool s]:=Rep.mono ZQc le2.v q1
      subst q1
      have q2:Zoa.rel v2 c2 m:=q2
      obtain⟨qa,na,ka,rfl⟩:=Zwc q2
      exact ZFl q2 hy
     · -- a fraction
      obtain⟨s,l1,γ1,v1,ℓ1,h,r1,e1,le1,q1⟩:=Z6 hn hX g h hr e0 hk1
      obtain⟨m,l2,γ2,v2,ℓ2,h,r2,e2,le2,q2⟩:=Z6 hn hX g h r1 e1 hk2
      obtain⟨y,hy,h⟩:=h
      refine⟨y,l2,γ2,v2,ℓ2,h,r2,e2,le1.trans le2,λcs hx=>?_⟩
      obtain⟨c1,c2',rfl,hx1,c2,c3,rfl,hx2,hx3⟩:=hx
      have hx3:c3=[]:=hx3
      subst hx3
      have q1:=q1 _ hx1
      have q2:=q2 _ (Z7 le1 hk2 hx2)
      have q1:ZRa.rel v2 c1 s:=Rep.mono ZRa le2.v q1
      obtain⟨sb,qb,nb,kb,rfl⟩:=ZKe q1
      have q2:Zoa.rel v2 c2 m:=q2
      obtain⟨qa,na,ka,rfl⟩:=Zwc q2
      exact ZRk q1 q2 hy
     · -- the reference's fraction
      rename_i x3 _
      have hk4:x3.ok U:=hk3.1
      obtain⟨s,l1,γ1,v1,ℓ1,h,r1,e1,le1,q1⟩:=Z6 hn hX g h hr e0 hk1
      obtain⟨m,l2,γ2,v2,ℓ2,h,r2,e2,le2,q2⟩:=Z6 hn hX g h r1 e1 hk2
      obtain⟨d,l3,γ3,v3,ℓ3,h,r3,e3,le3,q3⟩:=Z6 hn hX g h r2 e2 hk4
      obtain⟨y,hy,h⟩:=h
      refine⟨y,l3,γ3,v3,ℓ3,h,r3,e3,(le1.trans le2).trans le3,λcs hx=>?_⟩
      obtain⟨c1,c2',rfl,hx1,c2,c3,rfl,hx2,hx3⟩:=hx
      obtain⟨c4,c5,rfl,hx4,hx5⟩:=hx3
      have hx5:c5=[]:=hx5
      subst hx5
      have q1:=q1 _ hx1
      have q2:=q2 _ (Z7 le1 hk2 hx2)
      have q3:=q3 _ (Z7 (le1.trans le2) hk4 hx4)
      have q1:c1=[.bool s]:=q1
      subst q1
      have q2:Z5.rel v3 c2 m:=Rep.mono Z5 le3.v q2
      obtain⟨qa,na,ka,rfl⟩:=Zpb q2
      have q3:Z5.rel v3 c4 d:=q3
      obtain⟨qb,nb,kb,rfl⟩:=Zpb q3
      exact Zsh q2 q3 hy
     ·obtain⟨y1,l1,γ1,v1,ℓ1,h,r1,e1,le1,q1⟩:=Z6 hn hX g h hr e0 hk1
      obtain⟨y2,l2,γ2,v2,ℓ2,h,r2,e2,le2,q2⟩:=Z6 hn hX g h r1 e1 hk2
      refine⟨_,l2,γ2,v2,ℓ2,h,r2,e2,le1.trans le2,λcs hx=>?_⟩
      obtain⟨c1,c2',rfl,hx1,c2,c3,rfl,hx2,hx3⟩:=hx
      have hx3:c3=[]:=hx3
      subst hx3
      exact⟨c1,c2,by simp,Rep.mono _ le2.v (q1 _ hx1),q2 _ (Z7 le1 hk2 hx2)⟩
     ·obtain⟨y1,l1,γ1,v1,ℓ1,h,r1,e1,le1,q1⟩:=Z6 hn hX g h hr e0 hk1
      obtain⟨y2,l2,γ2,v2,ℓ2,h,r2,e2,le2,q2⟩:=Z6 hn hX g h r1 e1 (x:=.agg (.cons x2 r)) ⟨hk2,hk3⟩
      refine⟨_,l2,γ2,v2,ℓ2,h,r2,e2,le1.trans le2,λcs hx=>?_⟩
      obtain⟨c1,c2',rfl,hx1,c2,c3,rfl,hx2,hx3⟩:=hx
      exact⟨c1,c2++c3,rfl,Rep.mono _ le2.v (q1 _ hx1),q2 _ (Z7 le1 (x:=.agg (.cons x2 r)) ⟨hk2,hk3⟩ (m:=false) ⟨c2,c3,rfl,hx2,hx3⟩)⟩
     ·exact h.elim
    | nl =>
     simp only[conv]at h
     split at h
     ·obtain⟨y1,l1,γ1,v1,ℓ1,h,r1,e1,le1,q1⟩:=Z6 hn hX g h hr e0 hk.1
      refine⟨_,l1,γ1,v1,ℓ1,h,r1,e1,le1,λcs hx=>?_⟩
      obtain⟨c1,c2,rfl,hx1,hx2⟩:=hx
      have hx2:c2=[]:=hx2
      subst hx2
      rw[List.append_nil];exact q1 _ hx1
     ·exact h.elim
    | _=>simp only[conv]at h;exact h.elim
   | _=>simp only[conv]at h;exact h.elim
  | ptr u off =>
   cases off with
   | succ _=>simp only[conv]at h;exact h.elim
   | zero =>
    simp only[conv]at h
    split at h
    ·obtain⟨⟨k0,st0,L⟩,he,h⟩:=h
     have hkk:k0=u:=(Ze he).2
     subst hkk
     cases L with
     | box ty0 c =>
      simp only at h
      obtain⟨es,E',h1,_,_,h3,_⟩:=hr.del he
      obtain⟨b',cs,g2,g3,g4,rfl⟩:=h1
      have g2:γ k0 = .box b':=g2
      obtain⟨x1,l1,γ1,v1,ℓ1,hB,r1,e1,le1,q1⟩:=Z6 hn hX g h hr e0 (hr.ul _ (Ze he).1).2.2
      obtain⟨⟨k1,st1,L1⟩,he1,hC⟩:=hB
      have hkk1:k1=k0:=(Ze he1).2
      subst hkk1
      cases L1 with
      | box ty1 c1 =>
       obtain⟨e0',he0,hce⟩:=le1.l _ _ hk he1
       rw[he]at he0;cases he0
       have hce:γ1 k1=γ k1:=hce
       obtain⟨es1,E1,f1,_,_,f3,r2⟩:=r1.del he1
       obtain⟨b1,cs1,f4,f5,f6,rfl⟩:=f1
       have f4:γ1 k1 = .box b1:=f4
       rw[hce,g2]at f4;cases f4
       have m0:=(hr.st.loc _ (h3.mem_iff.2 (List.mem_append_left _ (List.mem_singleton.2 rfl)))).1
       have m1:=(r1.st.loc _ (f3.mem_iff.2 (List.mem_append_left _ (List.mem_singleton.2 rfl)))).1
       have m0:w.heap[b']? = some (.cells cs.toArray ty0 (0,0)):=m0
       have m1:w.heap[b']? = some (.cells cs1.toArray ty1 (0,0)):=m1
       rw[m0]at m1
       have hcs:cs=cs1:=by
        have:=Option.some.inj m1
        injection this with h1 _ _
        have:=congrArg Array.toList h1
        simpa using this
       subst hcs;have e2:St N w0 v0 [] (.box b' ty1 cs :: (ex++E1.flatten)) v1 a w:=e1.perm ((List.Perm.append_left ex f3).trans List.perm_middle);obtain⟨v',hv,hs1,hAt⟩:=e2.pubVar (i:=0) rfl rfl;have hs1:St N w0 v0 [] (ex++E1.flatten) v' a w:=hs1;have r3:=r2.go hv (hs1.drop (List.sublist_append_right _ _));obtain⟨E3,hE3,_⟩:=r2.lr;refine⟨x1,_,γ1,v',_,hC,r3,hs1,(le1.trans (Le.era r1 k1)).trans (Le.refl hE3 hv),λcs' hx=>?_⟩;obtain⟨y',rfl,_,hy⟩:=hx;obtain⟨b2,g5,rfl⟩:=hy _ he;rw[g2]at g5;cases g5;exact rPtr_mk hAt (Rep.mono _ hv (q1 _ g3))
      | own _ _ _ _=>exact hC.elim
      | mid _ _ _ _ _ _=>exact hC.elim
      | mp _=>exact hC.elim
      | mat _ _ _ _ _=>exact hC.elim
     | own _ _ _ _=>exact h.elim
     | mid _ _ _ _ _ _=>exact h.elim
     | mp _=>exact h.elim
     | mat _ _ _ _ _=>exact h.elim
    ·exact⟨(),l,γ,v,ℓ,h,hr,e0,rfl',λcs hx=>by obtain⟨y,rfl,hp,_⟩:=hx;exact⟨y,rfl,hp⟩⟩
    ·exact h.elim
  | _=>simp only[conv]at h;exact h.elim
theorem Z3a {ρ:Type} {n:Nat} (hn:¬ U n) (hX:X n) (g:Nat) {t:T} {x:V} {k:t.den→Ev ρ} {l:Lo} {Post:ρ→Fr→Lo→Prop} {γ:Nat→Gh} {v:Za} {ℓ:List Loc} (h:Zc n (conv g t x k) f l Post) (hr:RelX N G w0 v0 U X f l a w γ v ℓ) (hk:x.ok U) :
  ∃ y l' γ' v' ℓ',Zc n (k y) f l' Post∧RelX N G w0 v0 U X f l' a w γ' v' ℓ'∧Le U v γ l v' γ' l'∧∀ cs,RR v γ l false x cs→t.rep.rel v' cs y:=by
 obtain⟨y,l',γ',v',ℓ',h1,h2,_,h3,h4⟩:=Z6 (ex:=[]) hn hX g h hr hr.st hk;exact⟨y,l',γ',v',ℓ',h1,h2,h3,h4⟩
end
end Go.Eng
namespace Go.Eng
open Go.RowKit
variable {P:Program} {K:Nat} {w0:Base} {v0:Za} {σ:List (Nat×Value)} {ℓ:List Loc} {v:Za} {a:Act} {w:World}
theorem Zjm {P:Program} {Q:Exit→Act→World→Prop} {a:Act} {w:World} {c:Code} {n:Nat} (h:c.wp P (Exit.then (Code.rounds P c Q n) Q) a w):Code.rounds P c Q (n+1) a w:=h
end Go.Eng
namespace Go.Eng
open Go.RowKit
section
variable {P:Program} {K:Nat} {w0:Base} {v0:Za} {σ:List (Nat×Value)} {ℓ:List Loc} {v:Za} {a:Act} {w:World}
variable {d:Option Nat} {ty:TypeId} {pos:String} {aft:Array Edge} {g:Option (Nat×Bool)}
theorem ZOh (hS:St K w0 v0 σ ℓ v a w) {t:TypeId} {x j:Operand} {X J z:Value} (e:ev σ x=some X) (e':ev σ j=some J) (h:(Instr.index t X J).run P w = .ok z w) :
  (execOp a.eval ⟨d,.index t x j,ty,pos,aft,g⟩).run P w = .ok (.value z) w:=by
 simp[execOp,hS.eval e,hS.eval e',h]
end
end Go.Eng
namespace Go.Eng
open Go.RowKit
section
variable {K:Nat} {w0:Base} {v0:Za} {ℓ:List Loc} {v:Za} {a:Act} {w:World}
theorem St.evs (h:St K w0 v0 [] ℓ v a w):∀ xs:List Operand,∃ σ,St K w0 v0 σ ℓ v a w∧∀ x ∈ xs,ev σ x=some (a.eval x)
 | []=>⟨[],h,λ_ e=>by cases e⟩
 | x :: xs=>by
  obtain⟨σ,hs,hx⟩:=St.evs h xs
  cases x with
  | tmp t =>
   refine⟨(t,a.tmps.getD t undef) :: σ,hs.learn rfl,λz hz=>?_⟩
   rcases List.mem_cons.1 hz with rfl | hz
   ·exact ZCc rfl
   ·have h1:=hx z hz
    cases z with
    | tmp t' =>
     by_cases e:t=t'
     ·subst e;exact ZCc rfl
     ·show look _ t'=_;rw[ZEd e];exact h1
    | _=>exact h1
  | const c=>exact⟨σ,hs,λz hz=>by rcases List.mem_cons.1 hz with rfl | hz;exact rfl;exact hx z hz⟩
  | global g=>exact⟨σ,hs,λz hz=>by rcases List.mem_cons.1 hz with rfl | hz;exact rfl;exact hx z hz⟩
  | func g=>exact⟨σ,hs,λz hz=>by rcases List.mem_cons.1 hz with rfl | hz;exact rfl;exact hx z hz⟩
theorem St.ev1 (h:St K w0 v0 [] ℓ v a w) (x:Operand):∃ σ,St K w0 v0 σ ℓ v a w∧ev σ x=some (a.eval x):=by
 obtain⟨σ,h1,h2⟩:=h.evs [x];exact⟨σ,h1,h2 x (by simp)⟩
theorem St.ev2 (h:St K w0 v0 [] ℓ v a w) (x y:Operand):∃ σ,St K w0 v0 σ ℓ v a w∧ev σ x=some (a.eval x)∧ev σ y=some (a.eval y):=by
 obtain⟨σ,h1,h2⟩:=h.evs [x,y];exact⟨σ,h1,h2 x (by simp),h2 y (by simp)⟩
theorem St.ev6 (h:St K w0 v0 [] ℓ v a w) (x1 x2 x3 x4 x5 x6:Operand):∃ σ,St K w0 v0 σ ℓ v a w∧ev σ x1=some (a.eval x1)∧ev σ x2=some (a.eval x2)∧ev σ x3=some (a.eval x3)∧ev σ x4=some (a.eval x4)∧ev σ x5=some (a.eval x5)∧ev σ x6=some (a.eval x6):=by
 obtain⟨σ,h1,h2⟩:=h.evs [x1,x2,x3,x4,x5,x6];exact⟨σ,h1,h2 _ (by simp),h2 _ (by simp),h2 _ (by simp),h2 _ (by simp),h2 _ (by simp),h2 _ (by simp)⟩
theorem St.ev3 (h:St K w0 v0 [] ℓ v a w) (x y z:Operand):∃ σ,St K w0 v0 σ ℓ v a w∧ev σ x=some (a.eval x)∧ev σ y=some (a.eval y)∧ev σ z=some (a.eval z):=by
 obtain⟨σ,h1,h2⟩:=h.evs [x,y,z];exact⟨σ,h1,h2 x (by simp),h2 y (by simp),h2 z (by simp)⟩
end
section
variable {P:Program} {N:Nat} {G:V→Value→Prop} {w0:Base} {v0:Za} {U X:Nat→Prop} {f:Fr} {l:Lo} {a:Act} {w:World} {γ:Nat→Gh} {v:Za} {ℓ:List Loc} {n:Nat}
def Zz (P:Program) (N:Nat) (G:V→Value→Prop) (w0:Base) (v0:Za) (X:Nat→Prop) (o:Oper) (a:Act) (w:World) (Post:Unit→Fr→Lo→Prop):Prop :=
 Zja P o a w λx w'=>∃ f' l',Post () f' l'∧Rel N G w0 v0 X f' l' (a.put o.dst x) w'
theorem fin {o:Oper} {l':Lo} {w':World} {γ':Nat→Gh} {v':Za} {ℓ':List Loc} {x:V} {y:Value} {Post:Unit→Fr→Lo→Prop} (hr:RelX N G w0 v0 X X f l' a w' γ' v' ℓ') (hrun:(execOp a.eval o).run P w = .ok (.value y) w')
  (hd:∀ d,o.dst=some d→d<N) (hX:X n) (hv:RV v' γ' l' x y) (hk:x.ok X) (h:Zc n (ret o x) f l' Post):Zz P N G w0 v0 X o a w Post:=by
 unfold ret at h;refine Zrd hrun ?_
 cases hdd:o.dst with
 | none=>rw[hdd]at h;exact h.elim
 | some d =>
  rw[hdd]at h;exact⟨_,_,h,_,_,_,hr.put (hd d hdd) hv hk hX⟩
theorem Zt {o:Oper} {x:V} {y:Value} {Post:Unit→Fr→Lo→Prop} (hr:RelX N G w0 v0 U X f l a w γ v ℓ) (hU:∀ k,U k→X k) (hrun:(execOp a.eval o).run P w = .ok (.value y) w)
  (hd:∀ d,o.dst=some d→d<N) (hX:X n) (hv:RV v γ l x y) (hk:x.ok X) (h:Zc n (ret o x) f l Post):Zz P N G w0 v0 X o a w Post :=
 fin (hr.mono hU λ_ h=>h) hrun hd hX hv hk h
def Z2c (P:Program) (N:Nat) (G:V→Value→Prop) (w0:Base) (v0:Za) (X:Nat→Prop) (o:Oper) (a:Act) (w:World) (Post:Unit→Fr→Lo→Prop):Prop :=
 ∃ y,(execOp a.eval o).run P w = .ok (.value y) w∧∃ f' l',Post () f' l'∧Rel N G w0 v0 X f' l' (a.put o.dst y) w
theorem Z2c.good {o:Oper} {Post:Unit→Fr→Lo→Prop} (h:Z2c P N G w0 v0 X o a w Post):Zz P N G w0 v0 X o a w Post:=by
 obtain⟨y,h1,h2⟩:=h;exact Zrd h1 h2
theorem Zqa {o:Oper} {x:V} {y:Value} {Post:Unit→Fr→Lo→Prop} (hr:RelX N G w0 v0 U X f l a w γ v ℓ) (hU:∀ k,U k→X k) (hrun:(execOp a.eval o).run P w = .ok (.value y) w)
  (hd:∀ d,o.dst=some d→d<N) (hX:X n) (hv:RV v γ l x y) (hk:x.ok X) (h:Zc n (ret o x) f l Post):Z2c P N G w0 v0 X o a w Post:=by
 unfold ret at h;refine⟨y,hrun,?_⟩
 cases hdd:o.dst with
 | none=>rw[hdd]at h;exact h.elim
 | some d =>
  rw[hdd]at h;exact⟨_,_,h,_,_,_,(hr.mono hU λ_ h=>h).put (hd d hdd) hv hk hX⟩
theorem Zpa {x:V} {cs:List Value} (h:RR v γ l false x cs) (hx:∀ c,x ≠ .tup c):RV v γ l x (x.val cs):=by
 cases x with
 | tup c=>exact absurd rfl (hx c)
 | _=>exact⟨cs,h,rfl⟩
theorem Z3 {x:V} {y:Value} (h:RV v γ l x y) (hx:∀ c,x ≠ .tup c):∃ cs,RR v γ l false x cs∧y=x.val cs:=by
 cases x with
 | tup c=>exact absurd rfl (hx c)
 | _=>exact h
theorem Z9a {t:T} {x:t.den} {y:Value} (h:RV v γ l (.data t x) y):∃ cs,t.rep.rel v cs x∧y=t.rep.val cs:=by
 obtain⟨cs,h1,h2⟩:=h;exact⟨cs,h1,by rw[h2,Zdd]⟩
theorem ZG {k:IntKind} {i:Int} {y:Value} (h:RV v γ l (.data (.int k) i) y):y = .int k i∧inR k i:=by
 obtain⟨cs,h1,rfl⟩:=h;obtain⟨rfl,h2⟩:=h1;exact⟨rfl,h2⟩
theorem Zzc {b:Bool} {y:Value} (h:RV v γ l (.data .bool b) y):y = .bool b:=by
 obtain⟨cs,h1,rfl⟩:=h;have h1:cs=[.bool b]:=h1;subst h1;rfl
theorem Z6a {s:List UInt8} {y:Value} (h:RV v γ l (.data .str s) y):y = .string (Zg s)∧s.length≤maxLen:=by
 obtain⟨cs,h1,rfl⟩:=h;obtain⟨rfl,h2⟩:=h1;exact⟨rfl,h2⟩
theorem ZO {k:IntKind} {i:Int} (h:inR k i):RV v γ l (.data (.int k) i) (.int k i):=⟨[.int k i],⟨rfl,h⟩,rfl⟩
theorem Zma {b:Bool}:RV v γ l (.data .bool b) (.bool b):=⟨[.bool b],rfl,rfl⟩
theorem Zef {s:List UInt8} (h:s.length≤maxLen):RV v γ l (.data .str s) (.string (Zg s)):=⟨[.string (Zg s)],⟨rfl,h⟩,rfl⟩
theorem Zzg {t:T} {xs:List t.den} {y:Value} (h:RV v γ l (.data (.slice t) xs) y):∃ q n c,y = .slice q n c∧(Zo t.rep).rel v [.slice q n c] xs:=by
 obtain⟨cs,h1,rfl⟩:=h;obtain⟨q,n,c,rfl⟩:=ZYb (A:=t.rep) h1;exact⟨q,n,c,rfl,h1⟩
theorem Zy {x:V} {y:Value} (h:RV v γ l x y) (hx:∀ c,x ≠ .tup c) (hs:x.size=1) (ha:x.isAgg=false):RR v γ l false x [y]:=by
 obtain⟨cs,h1,rfl⟩:=Z3 h hx;rw[Z0c h1 hs ha]at h1;exact h1
theorem Zck {c:Value} {x:V} (h:ZGe c=some x):RV v γ l x c∧x.ok U:=by
 unfold ZGe at h;split at h
 ·cases h;exact⟨Zma,trivial⟩
 ·split at h
  ·cases h;exact⟨ZO (by assumption),trivial⟩
  ·cases h
 ·split at h
  ·cases h;exact⟨⟨[_],⟨rfl,by assumption⟩,rfl⟩,trivial⟩
  ·cases h
 ·rename_i s;split at h
  ·cases h
   refine⟨?_,trivial⟩;have:=Zef (v:=v) (γ:=γ) (l:=l) (s:=s.data.toList) (by assumption)
   simpa [Zg] using this
  ·cases h
 ·cases h;exact⟨⟨[_],rfl,rfl⟩,trivial⟩
 ·cases h;exact⟨⟨[_],rfl,rfl⟩,trivial⟩
 ·cases h
theorem ZEf (hr:RelX N G w0 v0 U X f l a w γ v ℓ) {x:Operand} {V':V} (h:opdV f x=some V'):RV v γ l V' (a.eval x)∧V'.ok U:=by
 cases x with
 | tmp t =>
  simp only[opdV]at h;split at h
  ·rename_i e he;cases h;exact⟨hr.fr t e he,(hr.uf _ e he).1⟩
  ·cases h
 | const c=>exact Zck h
 | func g=>cases h;exact⟨⟨[_],⟨[],rfl,rfl⟩,rfl⟩,trivial⟩
 | global g=>cases h
theorem Z1l {ρ:Type} {x:Operand} {k:V→Ev ρ} {Post:ρ→Fr→Lo→Prop} (h:Zc n (opd x k) f l Post):∃ V',opdV f x=some V'∧Zc n (k V') f l Post:=by
 cases x with
 | tmp t=>obtain⟨e,he,h⟩:=h;exact⟨e.x,by simp only[opdV,he],h⟩
 | const c =>
  simp only[opd]at h;split at h
  ·rename_i x hx;exact⟨x,hx,h⟩
  ·exact h.elim
 | func g=>exact⟨_,rfl,h⟩
 | global g=>exact h.elim
theorem Zj {ρ:Type} (hr:RelX N G w0 v0 U X f l a w γ v ℓ) {x:Operand} {k:V→Ev ρ} {Post:ρ→Fr→Lo→Prop} (h:Zc n (opd x k) f l Post):∃ V',RV v γ l V' (a.eval x)∧V'.ok U∧Zc n (k V') f l Post:=by
 obtain⟨V',h1,h2⟩:=Z1l h;obtain⟨h3,h4⟩:=ZEf hr h1;exact⟨V',h3,h4,h2⟩
theorem Z1 {ρ:Type} {x:V} {k:IntKind→Int→Ev ρ} {Post:ρ→Fr→Lo→Prop} (h:Zc n (ZV x k) f l Post):∃ κ i,x = .data (.int κ) i∧Zc n (k κ i) f l Post:=by
 unfold ZV at h;split at h
 ·exact⟨_,_,rfl,h⟩
 ·exact h.elim
theorem ZBm {ρ:Type} {x:V} {k:Bool→Ev ρ} {Post:ρ→Fr→Lo→Prop} (h:Zc n (ZAg x k) f l Post):∃ b,x = .data .bool b∧Zc n (k b) f l Post:=by
 unfold ZAg at h;split at h
 ·exact⟨_,rfl,h⟩
 ·exact h.elim
theorem Zoi {t:TypeId} {p q:Bool} (ht:P.underlying t=some .bool) (w:World):(Op.equal t (.bool p) (.bool q)).run P w = .ok (p==q) w:=by
 show (Op.equalIn (9999+1) t (.bool p) (.bool q)).run P w=_;unfold Op.equalIn;simp[run_underlying ht]
theorem Z1k {t:TypeId} {p q:Bool} (ht:P.underlying t=some .bool) (w:World):(binOp .eql t (.bool p) (.bool q)).run P w = .ok (.bool (p==q)) w:=by
 simp[binOp,Zoi ht]
theorem Zzl {t:TypeId} {p q:Bool} (ht:P.underlying t=some .bool) (w:World):(binOp .neq t (.bool p) (.bool q)).run P w = .ok (.bool (p != q)) w:=by
 simp[binOp,Zoi ht,bne]
theorem binI_ok {op:BinOp} {κ:IntKind} {i j:Int} {k:V→Ev Unit} {Post:Unit→Fr→Lo→Prop} (t:TypeId) (hi:inR κ i) (h:Zc n (binI op κ i j k) f l Post):∃ x y,(∀ w,(binOp op t (.int κ i) (.int κ j)).run P w = .ok y w)∧RV v γ l x y∧x.ok U∧Zc n (k x) f l Post:=by
 unfold binI at h;split at h
 ·split at h
  ·obtain⟨z,hz,h⟩:=h;exact⟨_,_,bin_add hz,ZO (ZZb hz).2,trivial,h⟩
  ·exact⟨_,_,Z4l,ZO (Zub _ _),trivial,h⟩
 ·split at h
  ·obtain⟨z,hz,h⟩:=h;exact⟨_,_,bin_sub hz,ZO (ZZb hz).2,trivial,h⟩
  ·exact⟨_,_,ZIk,ZO (Zub _ _),trivial,h⟩
 ·split at h
  ·obtain⟨z,hz,h⟩:=h;exact⟨_,_,bin_mul hz,ZO (ZZb hz).2,trivial,h⟩
  ·exact⟨_,_,Zfm,ZO (Zub _ _),trivial,h⟩
 ·obtain⟨z,hz,h⟩:=h;exact⟨_,_,bin_quo hz,ZO (quo_inR hz),trivial,h⟩
 ·obtain⟨z,hz,h⟩:=h;exact⟨_,_,bin_rem hz,ZO (rem_inR hi hz),trivial,h⟩
 ·exact⟨_,_,bin_and,ZO (Zub _ _),trivial,h⟩
 ·exact⟨_,_,bin_or,ZO (Zub _ _),trivial,h⟩
 ·exact⟨_,_,bin_xor,ZO (Zub _ _),trivial,h⟩
 ·exact⟨_,_,bin_lss,Zma,trivial,h⟩
 ·exact⟨_,_,bin_leq,Zma,trivial,h⟩
 ·exact⟨_,_,bin_gtr,Zma,trivial,h⟩
 ·exact⟨_,_,bin_geq,Zma,trivial,h⟩
 ·exact⟨_,_,bin_eql,Zma,trivial,h⟩
 ·exact⟨_,_,bin_neq,Zma,trivial,h⟩
 ·exact h.elim
theorem ZQi {K:Nat} {σ:List (Nat×Value)} (hS:St K w0 v0 σ ℓ v a w) {d:Option Nat} {t t2 ty kt et:TypeId} {pos:String} {aft:Array Edge} {g:Option (Nat×Bool)} {x y:Operand} {r:Option Nat} (ht:P.underlying t=some (.map kt et)) (e1:ev σ x=some (.map r)) (e2:ev σ y=some (.map none)) :
  (execOp a.eval ⟨d,.binOp .eql t x y t2,ty,pos,aft,g⟩).run P w = .ok (.value (.bool r.isNone)) w:=by
 have h:∀ w:World,(Op.equal t (.map r) (.map none)).run P w = .ok r.isNone w:=λw=>by
  show (Op.equalIn (9999+1) t (.map r) (.map none)).run P w=_;unfold Op.equalIn
  cases r <;> simp[run_underlying ht]
 simp[execOp,hS.eval e1,hS.eval e2,eqGuard,binOp,h]
theorem binE_ok (hr:RelX N G w0 v0 U X f l a w γ v ℓ) {d:Option Nat} {op:BinOp} {t t' ty:TypeId} {pos:String} {aft:Array Edge} {g:Option (Nat×Bool)} {x y:Operand} {vx vy:V} {k:V→Ev Unit} {Post:Unit→Fr→Lo→Prop} (hx:RV v γ l vx (a.eval x)) (hy:RV v γ l vy (a.eval y))
  (h:Zc n (binE P op t vx vy k) f l Post):∃ z q,(execOp a.eval ⟨d,.binOp op t x y t',ty,pos,aft,g⟩).run P w = .ok (.value q) w∧RV v γ l z q∧z.ok U∧Zc n (k z) f l Post:=by
 obtain⟨σ,hs,e1,e2⟩:=hr.st.ev2 x y;unfold binE at h;split at h
 ·obtain⟨h1,h2⟩:=ZG hx;obtain⟨h3,h4⟩:=ZG hy;rw[h1]at e1;rw[h3]at e2;split at h
  ·obtain⟨z,hz,h⟩:=h;exact⟨_,_,ZQg hs e1 e2 (bin_shl hz),ZO (Zbm h2 hz),trivial,h⟩
  ·obtain⟨z,hz,h⟩:=h;exact⟨_,_,ZQg hs e1 e2 (bin_shr hz),ZO (ZWl h2 hz),trivial,h⟩
  ·split at h
   ·rename_i hk;have hk:=ZJa hk;subst hk;obtain⟨z,q,h5,h6,h7,h8⟩:=binI_ok (P:=P) (v:=v) (γ:=γ) (U:=U) t h2 h;exact⟨z,q,ZQg hs e1 e2 h5,h6,h7,h8⟩
   ·exact h.elim
 ·have h1:=Zzc hx;have h2:=Zzc hy;rw[h1]at e1;rw[h2]at e2;split at h
  ·rename_i ht;split at h
   ·exact⟨_,_,Z9h hs e1 e2 (Z1k ht),Zma,trivial,h⟩
   ·exact⟨_,_,Z9h hs e1 e2 (Zzl ht),Zma,trivial,h⟩
   ·exact h.elim
  ·exact h.elim
 ·obtain⟨h1,h2⟩:=Z6a hx;obtain⟨h3,h4⟩:=Z6a hy;rw[h1]at e1;rw[h3]at e2;split at h
  ·obtain⟨z,hz,h⟩:=h;exact⟨_,_,ZSf hs e1 e2 (str_add hz),Zef (Z3h hz),trivial,h⟩
  ·exact⟨_,_,ZSf hs e1 e2 str_eql,Zma,trivial,h⟩
  ·exact⟨_,_,ZSf hs e1 e2 str_neq,Zma,trivial,h⟩
  ·exact h.elim
 ·rename_i m;split at h
  ·rename_i ht;obtain⟨cs,hcs,hq⟩:=Z9a hx;obtain⟨c2,hc2,hq2⟩:=Z9a hy;have hcs:rMp.rel v cs m:=hcs;have hc2:c2=[.map none]:=hc2;subst hc2;have hq2:a.eval y = .map none:=hq2;rw[hq2]at e2;obtain⟨r,hr1,hr2⟩:∃ r,cs=[.map r]∧r.isNone=m.isNone:=by
    cases m with
    | none=>exact⟨none,hcs,rfl⟩
    | some m=>obtain⟨r,es,c,h1,_⟩:=hcs;exact⟨some r,h1,rfl⟩
   subst hr1;have hq:a.eval x = .map r:=hq;rw[hq]at e1;exact⟨.data .bool m.isNone,_,ZQi hs ht e1 e2,(by rw[← hr2];exact Zma),trivial,h⟩
  ·exact h.elim
 ·rename_i u;split at h
  ·rename_i ht;obtain⟨e,he,h⟩:=h;obtain⟨kk,st,L⟩:=e;obtain⟨c2,hc2,hq2⟩:=Z9a hy;have hc2:c2=[.map none]:=hc2;subst hc2;have hq2:a.eval y = .map none:=hq2;rw[hq2]at e2;obtain⟨cs,⟨y0,rfl,_,hy0⟩,hq⟩:=hx;have hq:a.eval x=y0:=hq;rw[hq]at e1;have hy0:=hy0 _ he
   cases L with
   | mp m =>
    have hy0:mpH (γ u) m y0:=hy0;obtain⟨r,hr1,hr2⟩:∃ r,y0 = .map r∧r.isNone=m.isNone:=by
     cases m with
     | none=>exact⟨none,hy0,rfl⟩
     | some m=>obtain⟨r,_,h1⟩:=hy0;exact⟨some r,h1,rfl⟩
    subst hr1;exact⟨.data .bool m.isNone,_,ZQi hs ht e1 e2,(by rw[← hr2];exact Zma),trivial,h⟩
   | _=>exact h.elim
  ·exact h.elim
 ·exact h.elim
end
end Go.Eng
namespace Go.Eng
open Go.RowKit
theorem T_one:∀ {t:T},t.agg=false→t.n=1
 | .int _,_ | .bool,_ | .flt _,_ | .str,_ | .slice _,_ | .ptr _,_=>rfl
 | .leaf 0,_ | .leaf 1,_ | .leaf (_+5),_=>rfl
theorem Zab:∀ (g:Nat) {x z:V} {off n:Nat} {ag:Bool},ZA g x off n ag=some z→z.isAgg=false→z.size=1
 | 0,_,_,_,_,_,h,_=>by cases h
 | g+1,x,z,off,n,ag,h,hz=>by
  have whole:∀ {y:V},(y.isAgg=false→y.size=1)→(match Nat.beq off 0,Nat.beq y.size n,eqB y.isAgg ag with
    | true,true,true=>some y
    | _,_,_=>match y with
     | .agg c=>ZA g c off n ag
     | .data t x=>match Zua t x with
      | some c=>ZA g c off n ag
      | none=>none
     | _=>none)=some z→z.size=1:=by
   intro y h1 hy;split at hy
   ·cases hy;exact h1 hz
   ·split at hy
    ·exact Zab g hy hz
    ·split at hy
     ·exact Zab g hy hz
     ·cases hy
    ·cases hy
  cases x with
  | nl=>simp only[ZA]at h;cases h
  | cons a b =>
   simp only[ZA]at h;split at h
   ·exact Zab g h hz
   ·split at h
    ·exact Zab g h hz
    ·cases h
  | data t x=>exact whole (y:=.data t x) (λh=>T_one h) h
  | agg c=>exact whole (y:=.agg c) (λh=>by cases h) h
  | nilS=>exact whole (y:=.nilS) (λ_=>rfl) h
  | own u=>exact whole (y:=.own u) (λ_=>rfl) h
  | row u i hv cv t r=>exact whole (y:=.row u i hv cv t r) (λ_=>rfl) h
  | ptr u o=>exact whole (y:=.ptr u o) (λ_=>rfl) h
  | el u i cv t x o=>exact whole (y:=.el u i cv t x o) (λ_=>rfl) h
  | rp u i hv cv t r=>exact whole (y:=.rp u i hv cv t r) (λ_=>rfl) h
  | rel u i j hv cv t r x o=>exact whole (y:=.rel u i j hv cv t r x o) (λ_=>rfl) h
  | vp t x o=>exact whole (y:=.vp t x o) (λ_=>rfl) h
  | tup c=>exact whole (y:=.tup c) (λ_=>rfl) h
  | fn f c=>exact whole (y:=.fn f c) (λ_=>rfl) h
  | ifc f c=>exact whole (y:=.ifc f c) (λ_=>rfl) h
  | undef=>exact whole (y:=.undef) (λ_=>rfl) h
theorem ZLc {v:Za} {a:T}:∀ {n:Nat} {x:(ZC a n).den} {cs:List Value},0<n→(ZC a n).rep.rel v cs x→a.rep.rels v cs (Z2 a n x)∧(Z2 a n x).length=n
 | 0,_,_,h,_=>by omega
 | 1,x,cs,_,h=>⟨ZPg h,rfl⟩
 | 2,x,cs,_,h=>by
  obtain⟨c1,c2,h1,h2,h3⟩:=h
  exact⟨⟨c1,c2,h1,h2,ZPg h3⟩,rfl⟩
 | k+3,x,cs,_,h=>by
  obtain⟨c1,c2,h1,h2,h3⟩:=h
  obtain⟨k1,k2⟩:=ZLc (n:=k+2) (by omega) h3
  exact⟨⟨c1,c2,h1,h2,k1⟩,by show (Z2 a (k+2) x.2).length+1=_;rw[k2]⟩
theorem ZXh {v:Za} {a:T}:∀ {n:Nat} {x:(ZC a n).den} {cs:List Value},0<n→a.rep.rels v cs (Z2 a n x)→(ZC a n).rep.rel v cs x
 | 0,_,_,h,_=>by omega
 | 1,x,cs,_,h=>by
  obtain⟨c1,c2,rfl,h1,h2⟩:=h
  have h2:c2=[]:=h2
  subst h2
  rw[List.append_nil];exact h1
 | 2,x,cs,_,h=>by
  obtain⟨c1,c2,h1,h2,c3,c4,rfl,h3,h4⟩:=h
  have h4:c4=[]:=h4
  subst h4
  rw[List.append_nil]at h1
  exact⟨c1,c3,h1,h2,h3⟩
 | k+3,x,cs,_,h=>by
  obtain⟨c1,c2,h1,h2,h3⟩:=h
  exact⟨c1,c2,h1,h2,ZXh (n:=k+2) (by omega) h3⟩
theorem Zii {a:T}:∀ {n:Nat} {x:(ZC a n).den} {i:Nat} {y:a.den},i<n→Z2 a n (arrS a n x i y)=(Z2 a n x).set i y
 | 0,_,_,_,h=>by omega
 | 1,x,i,y,h=>by
  obtain rfl:i=0:=by omega
  rfl
 | 2,x,i,y,h=>by
  rcases (show i=0∨i=1 by omega) with rfl | rfl <;> rfl
 | k+3,x,0,y,h=>rfl
 | k+3,x,i+1,y,h=>by
  have:=Zii (a:=a) (n:=k+2) (x:=x.2) (i:=i) (y:=y) (by omega)
  show x.1 :: Z2 a (k+2) (arrS a (k+2) x.2 i y)=(x.1 :: Z2 a (k+2) x.2).set (i+1) y
  rw[this];rfl
theorem Zok {α:Type} {l:List α} {i:Nat} {y:α} (h:idx l (i:Int)=some y):l[i]? = some y:=by
 unfold idx at h;split at h
 ·simpa using h
 ·cases h
section
variable {P:Program} {N:Nat} {G:V→Value→Prop} {w0:Base} {v0:Za} {U X:Nat→Prop} {f:Fr} {l:Lo} {a:Act} {w:World} {γ:Nat→Gh} {v:Za} {ℓ:List Loc} {n:Nat}
theorem ZMb {t:TypeId} {q:Nat×Bool} (h:szA P t=some q):Sized P t q.1 q.2:=by
 unfold szA at h;split at h
 ·rename_i i d hi hd
  cases h
  refine⟨λw=>by simp[sizeOf,typeInfo,hi],λw=>?_⟩
  cases d <;> simp[isAgg,run_underlying hd,aggD]
 ·cases h
theorem ZPf {t:TypeId} {q:TypeId×Nat} (h:ZQd P t=some q):Zse P t q.1 q.2:=by
 unfold ZQd at h;split at h
 ·rename_i e he;split at h
  ·rename_i i hi
   cases h
   exact⟨λw=>run_underlying he w,λw=>by simp[sizeOf,typeInfo,hi]⟩
  ·cases h
 ·cases h
theorem RelX.loc (h:RelX N G w0 v0 U X f l a w γ v ℓ) {u:Nat} {e:En LV} (hu:lkE l u=some e):e.k=u∧∃ es,ZF v γ l e es∧∀ x ∈ es,∃ i:Nat,ℓ[i]? = some x:=by
 obtain⟨E,hE,hp⟩:=h.lr;obtain⟨es,E',h1,h2,h3⟩:=ZAc hE hu;exact⟨(Ze hu).2,es,h1,λx hx=>List.getElem?_of_mem ((hp.trans h3).mem_iff.2 (List.mem_append_left _ hx))⟩
theorem Zyd (hs:St N w0 v0 [] ℓ v a w) {t:TypeId} {q:Nat×Bool} (ht:szA P t=some q) {b off:Nat} {cs:List Value} (hc:WAt w b off cs) {z:V} (hz:RR v γ l false z cs) (h1:z.size=q.1) (h2:z.isAgg=q.2) (h3:z.isAgg=false→z.size=1)
  {d:Option Nat} {ty:TypeId} {pos:String} {aft:Array Edge} {g:Option (Nat×Bool)} {x:Operand} (e:a.eval x = .pointer (some ⟨b,off,none⟩)):(execOp a.eval ⟨d,.load t x,ty,pos,aft,g⟩).run P w = .ok (.value (z.val cs)) w:=by
 obtain⟨σ,hs',e1⟩:=hs.ev1 x;rw[e]at e1;have ht:=ZMb ht;have hl:=ZZa hz
 cases hag:z.isAgg with
 | true =>
  rw[← h2,hag,← h1,← hl]at ht;have:=ZAj (d:=d) (ty:=ty) (pos:=pos) (aft:=aft) (g:=g) hs' e1 ht rfl hc;rw[this];unfold V.val;rw[hag]
 | false =>
  have e3:=Z0c hz (h3 hag) hag;rw[e3]at hc;rw[← h2,hag]at ht;exact Zxe (d:=d) (ty:=ty) (pos:=pos) (aft:=aft) (g:=g) hs' e1 ht hc
theorem Zsd {α:Type}:∀ {rows:List (Option Nat×Nat)} {m:List (List α)} {i:Nat} {p:Option Nat×Nat} {r:List α},rows[i]? = some p→m[i]? = some r→(Zf rows m)[i]? = some (.slice (mkA p.1) r.length p.2)
 | [],_,_,_,_,h,_=>by simp at h
 | _ :: _,[],_,_,_,_,h=>by simp at h
 | p :: ps,r :: rs,0,_,_,h,h'=>by simp at h h';subst h h';rfl
 | p :: ps,r :: rs,i+1,_,_,h,h'=>by
  simp only[List.getElem?_cons_succ]at h h'
  have:=Zsd (rows:=ps) (m:=rs) (i:=i) h h'
  simpa [Zf] using this
theorem Zob {α:Type}:∀ {rows:List (Option Nat×Nat)} {m:List (List α)},rows.length=m.length→(Zf rows m).length=m.length
 | [],[],_=>rfl
 | _ :: _,_ :: _,h=>by simp[Zf];exact Zob (by simpa using h)
 | [],_ :: _,h=>by cases h
 | _ :: _,[],h=>by cases h
theorem ZRb {ty:TypeId} {t:T}:∀ {rows:List (Option Nat×Nat)} {m:List (List t.den)} {es:List Loc} {i:Nat} {r:List t.den},ZD v ty t rows m es→m[i]? = some r→∃ p cs,rows[i]? = some p∧t.rep.rels v cs r∧.own p.1 ty t.n r.length p.2 cs ∈ es
 | [],[],_,_,_,_,h=>by simp at h
 | _ :: _,_ :: _,_,0,_,⟨cs,es',h1,h2,h3⟩,h=>by simp at h;subst h h2;exact⟨_,cs,rfl,h1,by simp⟩
 | _ :: _,_ :: _,_,i+1,_,⟨cs,es',h1,h2,h3⟩,h=>by
  simp at h
  obtain⟨p,cs',g1,g2,g3⟩:=ZRb h3 h
  subst h2
  exact⟨p,cs',by simpa using g1,g2,by simp[g3]⟩
 | [],_ :: _,_,_,_,k,_=>k.elim
 | _ :: _,[],_,_,_,k,_=>k.elim
theorem ZEj {b off k:Nat} {c:List Value} (h:WAt w b off c) (m:Nat) (hk:k+m≤c.length):WAt w b (off+k) ((c.drop k).take m):=by
 obtain⟨c0,T,fr,h1,h2⟩:=h;refine⟨c0,T,fr,h1,?_⟩;have hl:((c.drop k).take m).length=m:=by simp;omega
 rw[hl];have:((c0.toList.drop off).take c.length)=c:=h2
 conv=>rhs;rw[← this]
 rw[List.drop_take,List.drop_drop,List.take_take];congr 1;omega
theorem Zmg (hr:RelX N G w0 v0 U X f l a w γ v ℓ) {d:Option Nat} {t ty:TypeId} {pos:String} {aft:Array Edge} {g:Option (Nat×Bool)} {x:Operand} {p:V} {k:V→Ev Unit} {Post:Unit→Fr→Lo→Prop} (hp:RV v γ l p (a.eval x)) (hk:p.ok U)
  (h:Zc n (ldE P t p k) f l Post):∃ z y,(execOp a.eval ⟨d,.load t x,ty,pos,aft,g⟩).run P w = .ok (.value y) w∧RV v γ l z y∧z.ok U∧Zc n (k z) f l Post:=by
 unfold ldE at h;split at h
 ·exact h.elim
 ·rename_i q hq;split at h
  · -- a variable
   rename_i u off;obtain⟨e,he,h⟩:=h;obtain⟨y,hy0,_,hy⟩:=Zy hp (λ_ e=>by cases e) rfl rfl
   cases hy0
   have hy:=hy e he;obtain⟨kk,st,L⟩:=e;obtain⟨hkk,es,hes,hmem⟩:=hr.loc he
   cases L with
   | box ty0 c =>
    simp only at h;obtain⟨b,cs,g1,g2,g3,rfl⟩:=hes;obtain⟨b',g4,g5⟩:=hy;have hkk:kk=u:=hkk;subst hkk;have g1:γ kk = .box b:=g1;rw[g1]at g4;cases g4;split at h
    ·rename_i z hz;have hc:c.ok U:=(hr.ul _ (Ze he).1).2.2;obtain⟨k1,k2,k3,k4,k5⟩:=Z0a FU hz g2 hc;obtain⟨i,hi⟩:=hmem _ (List.mem_singleton.2 rfl);have hlen:((cs.drop off).take q.1).length=q.1:=by simp;omega
     have hw:=hr.st.box hi off ((cs.drop off).take q.1) (by rw[hlen]);exact⟨z,_,Zyd hr.st hq hw k1 k3 k4 (Zab FU hz) g5,Zpa k1 (λc e=>by subst e;exact k1),k2,h⟩
    ·exact h.elim
   | own _ _ _ _=>exact h.elim
   | mid _ _ _ _ _ _=>exact h.elim
   | mp _=>exact h.elim
   | mat _ _ _ _ _=>exact h.elim
  · -- an element
   rename_i u i cv e x0 off;obtain⟨en,he,h⟩:=h;obtain⟨y,hy0,_,_,hy⟩:=Zy hp (λ_ e=>by cases e) rfl rfl
   cases hy0
   have hy:=hy en he;obtain⟨kk,st,L⟩:=en;obtain⟨hkk,es,hes,hmem⟩:=hr.loc he
   cases L with
   | own ty0 s xs fz =>
    simp only at h;obtain⟨b,cap,g1,g2,g3,g4⟩:=hy;have hkk:kk=u:=hkk;subst hkk;split at h
    ·rename_i hcv;obtain⟨ys,c1,c2⟩:=g4 (eQ hcv);obtain⟨c3,c4⟩:=Zx c1
     cases c3;cases c4
     split at h
     ·rename_i z hz;have key:∀ c,e.rep.rel v c x0→RR v γ l false z ((c.drop off).take q.1)∧z.ok U∧z.size=q.1∧z.isAgg=q.2∧off+q.1≤c.length:=λc hc=>Z0a FU hz (x:=.data e x0) hc trivial;have hcell:∃ c,e.rep.rel v c x0∧WAt w b (0+i*e.n+off) ((c.drop off).take q.1):=by
       cases fz with
       | false =>
        obtain⟨ob,cap',cs,q1,q2,rfl⟩:=hes;have q1:γ kk = .own ob cap':=q1;rw[g1]at q1;cases q1;obtain⟨j,hj⟩:=hmem _ (List.mem_singleton.2 rfl);have hrel:=ZWa q2 c2;rw[Zn]at hrel;refine⟨_,hrel,?_⟩;obtain⟨_,_,_,_,k5⟩:=key _ hrel;have hl:=Rep.len _ hrel;rw[Zn]at hl;have hlen:((((cs.drop (i*e.n)).take e.n).drop off).take q.1).length=q.1:=by
         simp only[List.length_take,List.length_drop]at k5 ⊢;omega
        exact Z5b hr.st hj rfl g3 off _ (by rw[hlen]) (by rw[hlen];omega)
       | true =>
        obtain⟨ob,cap',q1,q2,_⟩:=hes;have q1:γ kk = .own ob cap':=q1;rw[g1]at q1;cases q1;obtain⟨_,b2,o2,cs2,e2,h2,h3⟩:=Zkc q2 c2
        cases e2
        refine⟨cs2,h3,?_⟩;obtain⟨_,_,_,_,k5⟩:=key _ h3;rw[Zn]at h2;exact ZEj (hr.st.view h2) q.1 k5
      obtain⟨c,hc1,hc2⟩:=hcell;obtain⟨k1,k2,k3,k4,k5⟩:=key c hc1;exact⟨z,_,Zyd hr.st hq hc2 k1 k3 k4 (Zab FU hz) g2,Zpa k1 (λc e=>by subst e;exact k1),k2,h⟩
     ·exact h.elim
    ·exact h.elim
   | box ty1 c1 =>
    obtain⟨b,g1,g2⟩:=hy;have hkk:kk=u:=hkk;subst hkk
    cases c1 with
    | data t' w' =>
     simp only at h;split at h
     ·rename_i m e' hu;split at h
      ·rename_i w2 hw2 ho hm0;have ho:=eQ ho;subst ho;obtain⟨c3,c4⟩:=Zx hw2;subst c3;subst c4;obtain⟨y2,hy2,h⟩:=h;have hy2:idx (Z2 e m w') (i:Int)=some y2:=hy2
       dsimp only at h
       split at h
       ·rename_i z hz;obtain⟨b',cs,q1,q2,q3,rfl⟩:=hes;have q1:γ kk = .box b':=q1;rw[g1]at q1;cases q1;obtain⟨jj,hj⟩:=hmem _ (List.mem_singleton.2 rfl);obtain⟨k1,k2⟩:=ZLc (lB hm0) (show (ZC e m).rep.rel v cs w' from q2);have hx:=Zok hy2;have hrel:=ZWa k1 hx;rw[Zn]at hrel;obtain⟨p1,p2,p3,p4,p5⟩:=Z0a FU (γ:=γ) (l:=l) (U:=U) hz (x:=.data e y2) hrel trivial;have hcl:=Zkb k1;rw[Zn,k2]at hcl;have hi:i<m:=by rw[← k2];exact (List.getElem?_eq_some_iff.1 hx).1
        have hle:i*e.n+e.n≤cs.length:=by rw[hcl,← Nat.succ_mul];exact Nat.mul_le_mul_right _ hi
        rw[List.drop_zero,List.take_take]at p1;have hlen:((cs.drop (i*e.n)).take (min q.1 e.n)).length=q.1:=by
         simp only[List.length_take,List.length_drop]at p5 ⊢;omega
        have hmin:min q.1 e.n=q.1:=by
         simp only[List.length_take,List.length_drop]at p5 hlen;omega
        rw[hmin]at p1 hlen;have hw:=hr.st.box hj (0+i*e.n+0) ((cs.drop (i*e.n)).take q.1) (by rw[hlen,Nat.zero_add,Nat.add_zero]);exact⟨z,_,Zyd hr.st hq hw p1 p3 p4 (Zab FU hz) g2,Zpa p1 (λc e=>by subst e;exact p1),p2,h⟩
       ·exact h.elim
      ·exact h.elim
     ·exact h.elim
    | _=>exact h.elim
   | mid _ _ _ _ _ _=>exact h.elim
   | mp _=>exact h.elim
   | mat _ _ _ _ _=>exact h.elim
  · -- behind a pointer to what is shown
   rename_i e x0 off;obtain⟨cs,h1,h2⟩:=Z3 hp (λ_ e=>by cases e);obtain⟨b,o,c,hA,hR,rfl⟩:=h1;split at h
   ·rename_i z hz;obtain⟨k1,k2,k3,k4,k5⟩:=Z0a FU hz (x:=.data e x0) (γ:=γ) (l:=l) (U:=U) hR trivial;exact⟨z,_,Zyd hr.st hq (ZEj (hr.st.view hA) q.1 k5) k1 k3 k4 (Zab FU hz) h2,Zpa k1 (λc e=>by subst e;exact k1),k2,h⟩
   ·exact h.elim
  · -- a row's header
   rename_i u i hv cv e r;obtain⟨en,he,h⟩:=h;obtain⟨y,hy0,_,hy⟩:=Zy hp (λ_ e=>by cases e) rfl rfl
   cases hy0
   have hy:=hy en he;obtain⟨kk,st,L⟩:=en;obtain⟨hkk,es,hes,hmem⟩:=hr.loc he
   cases L with
   | mat ty0 ty2 s m hv' =>
    simp only at h;have hkk:kk=u:=hkk;subst hkk;split at h
    ·rename_i b1 b2 b3;have b1:=eQ b1;have b2:=eQ b2;subst b1 b2;obtain⟨b,cap,rows,g1,g2,g3,g4⟩:=hy;obtain⟨m',c1,c2⟩:=g4 rfl;obtain⟨c3,c4⟩:=Zx c1
     cases c3;cases c4
     obtain⟨ob,cap',rows',es2,q1,q2,rfl⟩:=hes;have q1:γ kk = .mat ob cap' rows':=q1;rw[g1]at q1;cases q1;obtain⟨p,cs,r1,r2,r3⟩:=ZRb q2 c2;obtain⟨j,hj⟩:=hmem _ List.mem_cons_self;have hh:=Zsd r1 c2;have hw:WAt w b (0+i*1) [.slice (mkA p.1) r.length p.2]:=by
      have hx:((Zf rows m).drop (i*1)).take 1=[.slice (mkA p.1) r.length p.2]:=by
       have hlt:=(List.getElem?_eq_some_iff.1 hh).1;rw[Nat.mul_one,List.drop_eq_getElem_cons hlt];simp[(List.getElem?_eq_some_iff.1 hh).2]
      have:=Z5b hr.st hj hx g3 0 [.slice (mkA p.1) r.length p.2] rfl (by simp)
      simpa using this
     have hrow:RR v γ l false (.row kk i hv' st e r) [.slice (mkA p.1) r.length p.2]:=by
      refine⟨_,rfl,rfl,λe' he'=>?_⟩;rw[he]at he';cases he';exact λ_=>⟨_,_,_,p.1,p.2,g1,r1,rfl,⟨r,c2,rfl⟩,λ_=>⟨m,c1,c2⟩⟩
     obtain⟨σ,hs',e1⟩:=hr.st.ev1 x;rw[g2]at e1;have ht:=ZMb hq;rw[b3]at ht;refine⟨_,_,Zxe hs' e1 ht hw,Zpa hrow (λc e=>by cases e),⟨hk.1,hk.2.1,hk.2.2⟩,h⟩
    ·exact h.elim
   | box _ _=>exact h.elim
   | mid _ _ _ _ _ _=>exact h.elim
   | mp _=>exact h.elim
   | own _ _ _ _=>exact h.elim
  · -- an element of a row
   rename_i u i j hv cv e r x0 off;obtain⟨en,he,h⟩:=h;obtain⟨y,hy0,_,hy⟩:=Zy hp (λ_ e=>by cases e) rfl rfl
   cases hy0
   have hy:=hy en he;obtain⟨kk,st,L⟩:=en;obtain⟨hkk,es,hes,hmem⟩:=hr.loc he
   cases L with
   | mat ty0 ty2 s m hv' =>
    simp only at h;have hkk:kk=u:=hkk;subst hkk;split at h
    ·rename_i b1 b2;have b1:=eQ b1;have b2:=eQ b2;subst b1 b2;split at h
     ·rename_i z hz;obtain⟨ob,cap,rows,bi,capi,g1,g2,g3,g4,g5,g6⟩:=hy rfl;obtain⟨⟨m',c1,c2⟩,cx⟩:=g6 rfl;obtain⟨c3,c4⟩:=Zx c1
      cases c3;cases c4
      obtain⟨ob',cap',rows',es2,q1,q2,rfl⟩:=hes;have q1:γ kk = .mat ob' cap' rows':=q1;rw[g1]at q1;cases q1;obtain⟨p,cs,r1,r2,r3⟩:=ZRb q2 c2;rw[g2]at r1;cases r1;obtain⟨jj,hj⟩:=hmem _ (List.mem_cons_of_mem _ r3);have hrel:=ZWa r2 cx;rw[Zn]at hrel;obtain⟨k1,k2,k3,k4,k5⟩:=Z0a FU hz (x:=.data e x0) (γ:=γ) (l:=l) (U:=U) hrel trivial;have hl:=Rep.len _ hrel;rw[Zn]at hl;have hlen:((((cs.drop (j*e.n)).take e.n).drop off).take q.1).length=q.1:=by
       simp only[List.length_take,List.length_drop]at k5 ⊢;omega
      have hw:=Z5b hr.st hj rfl g5 off _ (by rw[hlen]) (by rw[hlen];omega);exact⟨z,_,Zyd hr.st hq hw k1 k3 k4 (Zab FU hz) g3,Zpa k1 (λc e=>by subst e;exact k1),k2,h⟩
     ·exact h.elim
    ·exact h.elim
   | box _ _=>exact h.elim
   | mid _ _ _ _ _ _=>exact h.elim
   | mp _=>exact h.elim
   | own _ _ _ _=>exact h.elim
  ·exact h.elim
end
end Go.Eng
namespace Go.Eng
open Go.RowKit
theorem ZBd {P:Program} {t:TypeId} {i:TypeInfo} (h:P.info? t=some i) (w:World):(sizeOf t).run P w = .ok i.size w:=by simp[sizeOf,typeInfo,h]
theorem Zpm (k:IntKind):kEq k k=true:=by cases k <;> rfl
theorem ZAm (k:FloatKind):fEqK k k=true:=by cases k <;> rfl
theorem ZZc:∀ t:T,T.beq t t=true
 | .int k=>Zpm k
 | .bool | .str=>rfl
 | .flt k=>ZAm k
 | .one a=>ZZc a
 | .slice a=>ZZc a
 | .ptr a=>ZZc a
 | .pair a b=>by simp only[T.beq,ZZc a,ZZc b]
 | .leaf i=>by simp[T.beq]
theorem ZKd {t:T} {x:t.den}:T.cast t t x=some x:=by
 unfold T.cast;have:∀ (b:Bool) (hb:T.beq t t=b),b=true→T.castB t t b hb x=some x:=by
  intro b hb e;subst e;rfl
 exact this _ rfl (ZZc t)
section
variable {P:Program} {N:Nat} {G:V→Value→Prop} {w0:Base} {v0:Za} {U X:Nat→Prop} {f:Fr} {l:Lo} {a:Act} {w:World} {γ:Nat→Gh} {v:Za} {ℓ:List Loc} {n:Nat}
variable {d:Option Nat} {ty:TypeId} {pos:String} {aft:Array Edge} {g:Option (Nat×Bool)}
theorem fldA_ok {s:TypeId} {k off:Nat} (h:fldA P s k=some off):Zli P s k off:=by
 unfold fldA at h;split at h
 ·rename_i fs hfs;split at h
  ·rename_i fd hfd;split at h
   ·rename_i i hi;split at h
    ·rename_i hb
     cases h
     intro b o w;have h0:fs[k]? = some fd:=by rw[← Array.getElem?_toList];exact hfd
     have h1:¬ i.size=0:=by
      have h2:1≤i.size:=lB hb;omega
     simp[Instr.fieldAt,run_underlying hfs,h0,Instr.sureAddr,fieldPlace,ZBd hi,h1,ZMa]
    ·cases h
   ·cases h
  ·cases h
 ·cases h
theorem Zjb {b o:Nat}:plain (.pointer (some ⟨b,o,none⟩))=true:=rfl
theorem ZPd {ρ:Type} {p:V} {y:Value} {k:Ev ρ} {Post:ρ→Fr→Lo→Prop} (hp:RV v γ l p y) (hk:p.ok U) (h:Zc n (live p k) f l Post) :
  Zc n k f l Post∧∃ b o,y = .pointer (some ⟨b,o,none⟩)∧∀ off z,shift p off=some z→RV v γ l z (.pointer (some ⟨b,o+off,none⟩))∧z.ok U:=by
 unfold live at h;split at h
 ·rename_i u o;obtain⟨en,he,h⟩:=h;obtain⟨y,hy0,_,hy⟩:=Zy hp (λ_ e=>by cases e) rfl rfl
  cases hy0
  have hy:=hy en he;obtain⟨kk,st,L⟩:=en
  cases L with
  | box _ _ =>
   obtain⟨b,g1,rfl⟩:=hy;refine⟨h,b,o,rfl,λoff z hz=>?_⟩
   cases hz
   refine⟨⟨[_],⟨_,rfl,Zjb,λe' he'=>?_⟩,rfl⟩,hk⟩;rw[he]at he';cases he';exact⟨b,g1,rfl⟩
  | own _ _ _ _=>exact h.elim
  | mid _ _ _ _ _ _=>exact h.elim
  | mp _=>exact h.elim
  | mat _ _ _ _ _=>exact h.elim
 ·rename_i t x0 o;obtain⟨cs,h1,h2⟩:=Z3 hp (λ_ e=>by cases e);obtain⟨b,o',c,hA,hR,rfl⟩:=h1;refine⟨h,b,o'+o,h2,λoff z hz=>?_⟩
  cases hz
  exact⟨⟨[_],⟨b,o',c,hA,hR,by rw[Nat.add_assoc]⟩,rfl⟩,trivial⟩
 ·rename_i u i cv t x0 o;obtain⟨en,he,h⟩:=h;obtain⟨y,hy0,_,hc0,hy⟩:=Zy hp (λ_ e=>by cases e) rfl rfl
  cases hy0
  have hy:=hy en he;obtain⟨kk,st,L⟩:=en
  cases L with
  | own _ s xs fz =>
   obtain⟨b,cap,g1,rfl,g3,g4⟩:=hy;refine⟨h,b,0+i*s.n+o,rfl,λoff z hz=>?_⟩
   cases hz
   refine⟨⟨[_],⟨_,rfl,Zjb,hc0,λe' he'=>?_⟩,rfl⟩,hk⟩;rw[he]at he';cases he';exact⟨b,cap,g1,by rw[Nat.add_assoc (0+i*s.n)],g3,g4⟩
  | box _ _=>exact h.elim
  | mid _ _ _ _ _ _=>exact h.elim
  | mp _=>exact h.elim
  | mat _ _ _ _ _=>exact h.elim
 ·rename_i u i j hv cv t r x0 o;obtain⟨en,he,h⟩:=h;obtain⟨y,hy0,_,hy⟩:=Zy hp (λ_ e=>by cases e) rfl rfl
  cases hy0
  have hy:=hy en he;obtain⟨kk,st,L⟩:=en
  cases L with
  | mat _ _ s m hv' =>
   simp only at h;split at h
   ·rename_i hb;have hb:=eQ hb;subst hb;obtain⟨ob,cap,rows,bi,capi,g1,g2,rfl,g4,g5,g6⟩:=hy rfl;refine⟨h,bi,0+j*s.n+o,rfl,λoff z hz=>?_⟩
    cases hz
    refine⟨⟨[_],⟨_,rfl,Zjb,λe' he'=>?_⟩,rfl⟩,hk⟩;rw[he]at he';cases he';exact λ_=>⟨ob,cap,rows,bi,capi,g1,g2,by rw[Nat.add_assoc (0+j*s.n)],g4,g5,g6⟩
   ·exact h.elim
  | box _ _=>exact h.elim
  | mid _ _ _ _ _ _=>exact h.elim
  | mp _=>exact h.elim
  | own _ _ _ _=>exact h.elim
 ·exact h.elim
theorem Z5h (hr:RelX N G w0 v0 U X f l a w γ v ℓ) {s:TypeId} {k0:Nat} {x:Operand} {p:V} {k:V→Ev Unit} {Post:Unit→Fr→Lo→Prop} (hp:RV v γ l p (a.eval x)) (hk:p.ok U)
  (h:Zc n (fldE P s k0 p k) f l Post):∃ z y,(execOp a.eval ⟨d,.fieldAddr s x k0,ty,pos,aft,g⟩).run P w = .ok (.value y) w∧RV v γ l z y∧z.ok U∧Zc n (k z) f l Post:=by
 unfold fldE at h;split at h
 ·rename_i off hoff;split at h
  ·rename_i z hz;obtain⟨h,b,o,e,hs⟩:=ZPd hp hk h;obtain⟨h1,h2⟩:=hs _ _ hz;obtain⟨σ,hσ,e1⟩:=hr.st.ev1 x;rw[e]at e1;exact⟨z,_,ZAk hσ e1 (fldA_ok hoff),h1,h2,h⟩
  ·exact h.elim
 ·exact h.elim
theorem Zxh (hr:RelX N G w0 v0 U X f l a w γ v ℓ) (hU:∀ k,U k→X k) (hX:X n) {t:TypeId} {x i:Operand} {o:Oper} {p:V} {κ:IntKind} {j:Int} {Post:Unit→Fr→Lo→Prop} (ho:o=⟨d,.indexAddr t x i,ty,pos,aft,g⟩) (hd:∀ k,o.dst=some k→k<N) (hp:RV v γ l p (a.eval x)) (hk:p.ok U)
  (hi:a.eval i = .int κ j) (h:Zc n (ixA P o t p j) f l Post):Z2c P N G w0 v0 X o a w Post:=by
 unfold ixA at h;split at h
 ·rename_i m e he;split at h
  ·rename_i inf hinf h0 h1;split at h
   ·rename_i z hz;obtain⟨h,b,o',e',hs⟩:=ZPd hp hk h;obtain⟨k1,k2⟩:=hs _ _ hz;obtain⟨σ,hσ,e1,e2⟩:=hr.st.ev2 x i;rw[e']at e1;rw[hi]at e2;have hA:Z5e P t m inf.size:=⟨e,λw=>run_underlying he w,λw=>ZBd hinf w⟩;subst ho;exact Zqa hr hU (Z4h hσ hA e1 e2 (of_decide_eq_true h0) (of_decide_eq_true h1) _ rfl) hd hX k1 (V.ok.mono hU k2) h
   ·exact h.elim
  ·exact h.elim
 ·exact h.elim
theorem ixA_ok (hr:RelX N G w0 v0 U X f l a w γ v ℓ) (hU:∀ k,U k→X k) (hX:X n) {t:TypeId} {x i:Operand} {o:Oper} {p:V} {κ:IntKind} {j:Int} {Post:Unit→Fr→Lo→Prop} (ho:o=⟨d,.indexAddr t x i,ty,pos,aft,g⟩) (hd:∀ k,o.dst=some k→k<N) (hp:RV v γ l p (a.eval x)) (hk:p.ok U)
  (hi:a.eval i = .int κ j) (h:Zc n (ixA P o t p j) f l Post):Zz P N G w0 v0 X o a w Post:=(Zxh hr hU hX ho hd hp hk hi h).good
theorem alts_ok (hr:RelX N G w0 v0 U X f l a w γ v ℓ) (hU:∀ k,U k→X k) (hX:X n) {t:TypeId} {x i:Operand} {o:Oper} {p:V} {κ:IntKind} {j:Int} {Post:Unit→Fr→Lo→Prop} (ho:o=⟨d,.indexAddr t x i,ty,pos,aft,g⟩) (hd:∀ k,o.dst=some k→k<N) (hp:RV v γ l p (a.eval x)) (hk:p.ok U)
  (hi:a.eval i = .int κ j):∀ {m k:Nat},Zc n (alts P o t p j m k) f l Post→Zz P N G w0 v0 X o a w Post:=by
 intro m
 induction m with
 | zero=>intro k h;exact h.elim
 | succ m ih =>
  intro k h;by_cases e:j=(k:Int)
  ·have h1:=h.1 (dT e);rw[← e]at h1;exact ixA_ok hr hU hX ho hd hp hk hi h1
  ·exact ih (h.2 (dF e))
theorem ZMj (hr:RelX N G w0 v0 U X f l a w γ v ℓ) (hU:∀ k,U k→X k) (hX:X n) {t:TypeId} {x i:Operand} {o:Oper} {p:V} {κ:IntKind} {j:Int} {Post:Unit→Fr→Lo→Prop} (ho:o=⟨d,.indexAddr t x i,ty,pos,aft,g⟩) (hd:∀ k,o.dst=some k→k<N) (hp:RV v γ l p (a.eval x)) (hk:p.ok U)
  (hi:a.eval i = .int κ j) (h:Zc n (ixE P o t p j) f l Post):Z2c P N G w0 v0 X o a w Post:=by
 unfold ixE at h;split at h
 ·exact Zxh hr hU hX ho hd hp hk hi h
 ·rename_i q hq;obtain⟨σ,hσ,e1,e2⟩:=hr.st.ev2 x i;rw[hi]at e2;have hSl:=ZPf hq;split at h
  ·rename_i u;obtain⟨en,he,h⟩:=h;obtain⟨y,hy0,_,hy⟩:=Zy hp (λ_ e=>by cases e) rfl rfl;have hy0:a.eval x=y:=(List.cons.inj hy0).1;rw[hy0]at e1;have hy:=hy en he;obtain⟨kk,st,L⟩:=en;obtain⟨hkk,es,hes,hmem⟩:=hr.loc he;have hkk:kk=u:=hkk;subst hkk;have hst:U kk:=hk
   cases L with
   | own ty0 s xs fz =>
    simp only at h;split at h
    ·rename_i hb;have hb:=eQ hb;obtain⟨yy,hyy,h⟩:=h;obtain⟨j0,j1,j2,j3⟩:=ZPa hyy;obtain⟨ob,cap,g1,rfl⟩:=hy;have hob:∃ b,ob=some b:=by
      cases fz with
      | false =>
       obtain⟨ob',cap',cs,q1,q2,rfl⟩:=hes;have q1:γ kk = .own ob' cap':=q1;rw[g1]at q1;cases q1;obtain⟨jj,hj⟩:=hmem _ (List.mem_singleton.2 rfl);exact ZZd hr.st hj (by omega)
      | true =>
       obtain⟨ob',cap',q1,q2,_⟩:=hes;have q1:γ kk = .own ob' cap':=q1;rw[g1]at q1;cases q1;obtain⟨_,b2,o2,cs2,e2,h2,h3⟩:=Zkc q2 j1
       cases ob with
       | none=>cases e2
       | some b=>exact⟨b,rfl⟩
     obtain⟨b,rfl⟩:=hob;have hc0:∃ c,s.rep.rel v c yy:=by
      cases fz with
      | false=>obtain⟨_,_,cs,_,q2,_⟩:=hes;exact⟨_,ZWa q2 j1⟩
      | true=>obtain⟨_,_,_,q2,_⟩:=hes;obtain⟨_,_,_,cs,_,_,h3⟩:=Zkc q2 j1;exact⟨cs,h3⟩
     subst ho;have hrun:=Z4b (d:=d) (ty:=ty) (pos:=pos) (aft:=aft) (g:=g) hσ e1 e2 hSl j0 (by exact j2);rw[hb]at hrun;refine Zqa hr hU hrun hd hX (x:=.el kk j.toNat st s yy 0) ⟨[_],⟨_,rfl,Zjb,hc0,λe' he'=>?_⟩,rfl⟩ ⟨hU _ hst,(hr.ul _ (Ze he).1).2.1⟩ h;rw[he]at he';cases he';exact⟨b,cap,g1,rfl,j3,λ_=>⟨xs,by unfold ZFa;exact ZKd,j1⟩⟩
    ·exact h.elim
   | mat ty0 ty2 s m hv =>
    simp only at h;split at h
    ·rename_i hb;have hb:=eQ hb;obtain⟨yy,hyy,h⟩:=h;obtain⟨j0,j1,j2,j3⟩:=ZPa hyy;obtain⟨ob,cap,rows,g1,rfl⟩:=hy;obtain⟨ob',cap',rows',es2,q1,q2,rfl⟩:=hes;have q1:γ kk = .mat ob' cap' rows':=q1;rw[g1]at q1;cases q1;obtain⟨jj,hj⟩:=hmem _ List.mem_cons_self;obtain⟨b,rfl⟩:=ZZd hr.st hj (by omega);subst ho;have hrun:=Z4b (d:=d) (ty:=ty) (pos:=pos) (aft:=aft) (g:=g) hσ e1 e2 hSl j0 (by exact j2);rw[hb]at hrun;refine Zqa hr hU hrun hd hX (x:=.rp kk j.toNat hv st s yy) ⟨[_],⟨_,rfl,Zjb,λe' he'=>?_⟩,rfl⟩ ⟨hU _ hst,?_,(hr.ul _ (Ze he).1).2.1⟩ h
     ·rw[he]at he';cases he';exact⟨b,cap,rows,g1,rfl,j3,λ_=>⟨m,by unfold Zha;exact ZKd,j1⟩⟩
     ·exact (hr.ul _ (Ze he).1).2.2
    ·exact h.elim
   | mp _=>exact h.elim
   | mid ty0 ty2 s m hv smid =>
    simp only at h;split at h
    ·rename_i hb;have hb:=eQ hb;obtain⟨yy,hyy,h⟩:=h;obtain⟨j0,j1,j2,j3⟩:=ZPa hyy;obtain⟨ob,cap,rows,g1,rfl⟩:=hy;obtain⟨ob',cap',rows',es2,hsm,es3,q1,q2,q3,rfl⟩:=hes;have q1:γ kk = .mat ob' cap' rows':=q1;rw[g1]at q1;cases q1;obtain⟨jj,hj⟩:=hmem _ List.mem_cons_self;obtain⟨b,rfl⟩:=ZZd hr.st hj (by omega);subst ho;have hrun:=Z4b (d:=d) (ty:=ty) (pos:=pos) (aft:=aft) (g:=g) hσ e1 e2 hSl j0 (by exact j2);rw[hb]at hrun;refine Zqa hr hU hrun hd hX (x:=.rp kk j.toNat hv st s yy) ⟨[_],⟨_,rfl,Zjb,λe' he'=>?_⟩,rfl⟩ ⟨hU _ hst,?_,(hr.ul _ (Ze he).1).2.1⟩ h
     ·rw[he]at he';cases he';exact⟨b,cap,rows,g1,rfl,j3,λ_=>⟨m,by unfold Zha;exact ZKd,j1⟩⟩
     ·exact (hr.ul _ (Ze he).1).2.2
    ·exact h.elim
   | box _ _=>exact h.elim
  ·rename_i s xs;obtain⟨qa,m,c,hy,hR⟩:=Zzg hp;rw[hy]at e1;split at h
   ·rename_i hb;have hb:=eQ hb;obtain⟨yy,hyy,h⟩:=h;obtain⟨j0,j1,j2,j3⟩:=ZPa hyy;obtain⟨e3,b2,o2,cs2,rfl,h2,h3⟩:=Zkc hR j1;subst ho;have hrun:=Z4b (d:=d) (ty:=ty) (pos:=pos) (aft:=aft) (g:=g) hσ e1 e2 hSl j0 (by rw[e3];exact j2);rw[hb]at hrun;rw[Zn]at h2;exact Zqa hr hU hrun hd hX (x:=.vp s yy 0) ⟨[_],⟨b2,_,cs2,h2,h3,rfl⟩,rfl⟩ trivial h
   ·exact h.elim
  ·rename_i m;obtain⟨cs,h1,h2⟩:=Z9a hp;have h1:Zoa.rel v cs m:=h1;obtain⟨qa,n',k',rfl⟩:=Zwc h1;have hy:a.eval x = .slice qa n' k':=h2;rw[hy]at e1;split at h
   ·rename_i hb;have hb:=eQ hb;obtain⟨yy,hyy,h⟩:=h;obtain⟨j0,j1,j2,j3⟩:=ZPa hyy;obtain⟨e3,b2,o2,cs2,rfl,h2,h3⟩:=Zkc (A:=Zs .u64) h1 j1;subst ho;have hrun:=Z4b (d:=d) (ty:=ty) (pos:=pos) (aft:=aft) (g:=g) hσ e1 e2 hSl j0 (by rw[e3];exact j2);rw[hb]at hrun;exact Zqa hr hU hrun hd hX (x:=.vp (.int .u64) yy 0) ⟨[_],⟨b2,_,cs2,h2,h3,rfl⟩,rfl⟩ trivial h
   ·exact h.elim
  ·rename_i m;obtain⟨cs,h1,h2⟩:=Z9a hp;have h1:Z5.rel v cs m:=h1;obtain⟨qa,n',k',rfl⟩:=Zpb h1;have hy:a.eval x = .slice qa n' k':=h2;rw[hy]at e1;split at h
   ·rename_i hb;have hb:=eQ hb;obtain⟨yy,hyy,h⟩:=h;obtain⟨j0,j1,j2,j3⟩:=ZPa hyy;obtain⟨e3,b2,o2,cs2,rfl,h2,h3⟩:=Zkc (A:=Zs .u32) h1 j1;subst ho;have hrun:=Z4b (d:=d) (ty:=ty) (pos:=pos) (aft:=aft) (g:=g) hσ e1 e2 hSl j0 (by rw[e3];exact j2);rw[hb]at hrun;exact Zqa hr hU hrun hd hX (x:=.vp (.int .u32) yy 0) ⟨[_],⟨b2,_,cs2,h2,h3,rfl⟩,rfl⟩ trivial h
   ·exact h.elim
  ·rename_i u i' hv cv s r;obtain⟨en,he,h⟩:=h;obtain⟨y,hy0,_,hy⟩:=Zy hp (λ_ e=>by cases e) rfl rfl;have hy0:a.eval x=y:=(List.cons.inj hy0).1;rw[hy0]at e1;have hy:=hy en he;obtain⟨kk,st,L⟩:=en;obtain⟨hkk,es,hes,hmem⟩:=hr.loc he;have hkk:kk=u:=hkk;subst hkk
   cases L with
   | mat ty0 ty2 s' m hv' =>
    simp only at h;split at h
    ·rename_i b1 b2 b3;have b1:=eQ b1;have b2:=eQ b2;have b3:=eQ b3;subst b1 b2;obtain⟨yy,hyy,h⟩:=h;obtain⟨j0,j1,j2,j3⟩:=ZPa hyy;obtain⟨ob,cap,rows,obi,capi,g1,g2,rfl,g4,g5⟩:=hy rfl;obtain⟨m',c1,c2⟩:=g5 rfl;obtain⟨c3,c4⟩:=Zx c1
     cases c3;cases c4
     obtain⟨ob',cap',rows',es2,q1,q2,rfl⟩:=hes;have q1:γ kk = .mat ob' cap' rows':=q1;rw[g1]at q1;cases q1;obtain⟨p',cs,r1,r2,r3⟩:=ZRb q2 c2;rw[g2]at r1;cases r1;obtain⟨jj,hj⟩:=hmem _ (List.mem_cons_of_mem _ r3);obtain⟨bi,hbi⟩:=ZZd hr.st hj (by omega);have hbi:obi=some bi:=hbi;subst hbi;subst ho;have hrun:=Z4b (d:=d) (ty:=ty) (pos:=pos) (aft:=aft) (g:=g) hσ e1 e2 hSl j0 j2;rw[b3]at hrun;refine Zqa hr hU hrun hd hX (x:=.rel kk i' j.toNat hv' st s r yy 0) ⟨[_],⟨_,rfl,Zjb,λe' he'=>?_⟩,rfl⟩ ⟨hU _ hk.1,hU _ hk.2.1,hU _ hk.2.2⟩ h;rw[he]at he';cases he';exact λ_=>⟨_,_,_,bi,capi,g1,g2,rfl,g4,j3,λ_=>⟨⟨m,c1,c2⟩,j1⟩⟩
    ·rename_i b1 b2 b3;have b1:=eQ b1;have b3:=eQ b3;subst b1;split at h
     ·rename_i m' c1;obtain⟨c3,c4⟩:=Zx c1
      cases c3;cases c4
      obtain⟨r',hr',h⟩:=h;obtain⟨_,i1,_,_⟩:=ZPa hr';rw[Int.toNat_natCast]at i1;obtain⟨yy,hyy,h⟩:=h;obtain⟨j0,j1,j2,j3⟩:=ZPa hyy;obtain⟨ob,cap,rows,obi,capi,g1,g2,rfl,⟨ri,g4,g6⟩,g5⟩:=hy rfl;rw[i1]at g4;cases g4;obtain⟨ob',cap',rows',es2,q1,q2,rfl⟩:=hes;have q1:γ kk = .mat ob' cap' rows':=q1;rw[g1]at q1;cases q1;obtain⟨p',cs,r1,r2,r3⟩:=ZRb q2 i1;rw[g2]at r1;cases r1;obtain⟨jj,hj⟩:=hmem _ (List.mem_cons_of_mem _ r3);obtain⟨bi,hbi⟩:=ZZd hr.st hj (by omega);have hbi:obi=some bi:=hbi;subst hbi;subst ho;rw[← g6]at e1;have hrun:=Z4b (d:=d) (ty:=ty) (pos:=pos) (aft:=aft) (g:=g) hσ e1 e2 hSl j0 j2;rw[b3]at hrun;refine Zqa hr hU hrun hd hX (x:=.rel kk i' j.toNat hv' st _ r' yy 0) ⟨[_],⟨_,rfl,Zjb,λe' he'=>?_⟩,rfl⟩ ⟨hU _ hk.1,hU _ hk.2.1,(hr.ul _ (Ze he).1).2.1⟩ h;rw[he]at he';cases he';exact λ_=>⟨_,_,_,bi,capi,g1,g2,rfl,⟨r',i1,rfl⟩,j3,λ_=>⟨⟨m,c1,i1⟩,j1⟩⟩
     ·exact h.elim
    ·exact h.elim
   | box _ _=>exact h.elim
   | mid _ _ _ _ _ _=>exact h.elim
   | mp _=>exact h.elim
   | own _ _ _ _=>exact h.elim
  ·exact h.elim
theorem ixE_ok (hr:RelX N G w0 v0 U X f l a w γ v ℓ) (hU:∀ k,U k→X k) (hX:X n) {t:TypeId} {x i:Operand} {o:Oper} {p:V} {κ:IntKind} {j:Int} {Post:Unit→Fr→Lo→Prop} (ho:o=⟨d,.indexAddr t x i,ty,pos,aft,g⟩) (hd:∀ k,o.dst=some k→k<N) (hp:RV v γ l p (a.eval x)) (hk:p.ok U)
  (hi:a.eval i = .int κ j) (h:Zc n (ixE P o t p j) f l Post):Zz P N G w0 v0 X o a w Post:=(ZMj hr hU hX ho hd hp hk hi h).good
theorem lenE_ok (hr:RelX N G w0 v0 U X f l a w γ v ℓ) {t:TypeId} {x:Operand} {p:V} {k:Nat→Ev Unit} {Post:Unit→Fr→Lo→Prop} (hp:RV v γ l p (a.eval x)) (h:Zc n (lenE P t p k) f l Post) :
  ∃ m:Nat,(execOp a.eval ⟨d,.call ⟨.builtin .len,#[x],#[t]⟩,ty,pos,aft,g⟩).run P w = .ok (.value (.int .i64 m)) w∧inR .i64 (m:Int)∧Zc n (k m) f l Post:=by
 obtain⟨σ,hσ,e1⟩:=hr.st.ev1 x;unfold lenE at h;split at h
 ·obtain⟨h1,h2⟩:=Z6a hp;rw[h1]at e1;split at h
  ·rename_i ht;exact⟨_,ZGl hσ e1 rfl ht,str_inR h2,h⟩
  ·exact h.elim
 ·split at h
  ·exact h.elim
  ·rename_i q hq;have hSl:=ZPf hq;split at h
   ·rename_i u _;obtain⟨en,he,h⟩:=h;obtain⟨y,hy0,_,hy⟩:=Zy hp (λ_ e=>by cases e) rfl rfl;have hy0:a.eval x=y:=(List.cons.inj hy0).1;rw[hy0]at e1;have hy:=hy en he;obtain⟨kk,st,L⟩:=en;obtain⟨hkk,es,hes,hmem⟩:=hr.loc he;have hkk:kk=u:=hkk;subst hkk
    cases L with
    | own ty0 s xs fz =>
     obtain⟨ob,cap,g1,rfl⟩:=hy;refine⟨_,Zad hσ e1 rfl hSl,?_,h⟩
     cases fz with
     | false =>
      obtain⟨ob',cap',cs,q1,q2,rfl⟩:=hes;obtain⟨jj,hj⟩:=hmem _ (List.mem_singleton.2 rfl);exact ZFg hr.st hj
     | true =>
      obtain⟨ob',cap',q1,q2,_⟩:=hes;exact ZWe q2
    | mat ty0 ty2 s m hv =>
     obtain⟨ob,cap,rows,g1,rfl⟩:=hy;obtain⟨ob',cap',rows',es2,q1,q2,rfl⟩:=hes;obtain⟨jj,hj⟩:=hmem _ List.mem_cons_self;exact⟨_,Zad hσ e1 rfl hSl,ZFg hr.st hj,h⟩
    | box _ _=>exact h.elim
    | mid _ _ _ _ _ _=>exact h.elim
    | mp _=>exact h.elim
   ·rename_i s xs _;obtain⟨qa,m,c,hy,hR⟩:=Zzg hp;have hm:m=xs.length:=by obtain⟨_,_,e,_⟩:=hR;cases e;rfl
    rw[hy,hm]at e1;rw[hm]at hR;exact⟨_,Zad hσ e1 rfl hSl,ZWe hR,h⟩
   ·rename_i m _;obtain⟨cs,h1,h2⟩:=Z9a hp;have h1:Zoa.rel v cs m:=h1;obtain⟨qa,n',k',rfl⟩:=Zwc h1;have hy:a.eval x = .slice qa n' k':=h2;have hm:n'=(ZE 18446744073709551616 m).length:=by obtain⟨_,_,e,_⟩:=h1;cases e;rfl
    rw[hy,hm]at e1;rw[hm]at h1;exact⟨_,Zad hσ e1 rfl hSl,ZWe (A:=Zs .u64) h1,h⟩
   ·rename_i m _;obtain⟨cs,h1,h2⟩:=Z9a hp;have h1:Z5.rel v cs m:=h1;obtain⟨qa,n',k',rfl⟩:=Zpb h1;have hy:a.eval x = .slice qa n' k':=h2;have hm:n'=(ZE 4294967296 m).length:=by obtain⟨_,_,e,_⟩:=h1;cases e;rfl
    rw[hy,hm]at e1;rw[hm]at h1;exact⟨_,Zad hσ e1 rfl hSl,ZWe (A:=Zs .u32) h1,h⟩
   ·rename_i u i' hv cv s r _;obtain⟨en,he,h⟩:=h;obtain⟨y,hy0,_,hy⟩:=Zy hp (λ_ e=>by cases e) rfl rfl;have hy0:a.eval x=y:=(List.cons.inj hy0).1;rw[hy0]at e1;have hy:=hy en he;obtain⟨kk,st,L⟩:=en;obtain⟨hkk,es,hes,hmem⟩:=hr.loc he;have hkk:kk=u:=hkk;subst hkk
    cases L with
    | mat ty0 ty2 s' m hv' =>
     simp only at h;split at h
     ·rename_i b1;have b1:=eQ b1;subst b1;obtain⟨ob,cap,rows,obi,capi,g1,g2,rfl,⟨ri,g4,g4'⟩,g5⟩:=hy rfl;obtain⟨ob',cap',rows',es2,q1,q2,rfl⟩:=hes;have q1:γ kk = .mat ob' cap' rows':=q1;rw[g1]at q1;cases q1;obtain⟨p',cs,r1,r2,r3⟩:=ZRb q2 g4;obtain⟨jj,hj⟩:=hmem _ (List.mem_cons_of_mem _ r3);have:=ZFg hr.st hj;rw[g4']at this;exact⟨_,Zad hσ e1 rfl hSl,this,h⟩
     ·exact h.elim
    | box _ _=>exact h.elim
    | mid _ _ _ _ _ _=>exact h.elim
    | mp _=>exact h.elim
    | own _ _ _ _=>exact h.elim
   ·exact h.elim
theorem Z2i {t:TypeId} {q:Nat×Bool} (ht:szA P t=some q) {x z:V} {off:Nat} {cs:List Value} (hg:ZA FU x off q.1 q.2=some z) (hx:RR v γ l false x cs) (hk:x.ok U) (w:World) :
  (part t cs.toArray off).run P w = .ok (z.val ((cs.drop off).take q.1)) w∧RR v γ l false z ((cs.drop off).take q.1)∧z.ok U:=by
 obtain⟨k1,k2,k3,k4,k5⟩:=Z0a FU hg hx hk;refine⟨?_,k1,k2⟩;have hS:=ZMb ht;unfold part
 cases hag:q.2 with
 | true =>
  have h1:=hS.agg w;rw[hag]at h1;have h3:(cs.toArray.extract off (off+q.1))=((cs.drop off).take q.1).toArray:=by
   apply Array.ext';rw[Array.toList_extract];simp[List.extract,List.take_drop]
  simp[h1,hS.size,V.val,k4,hag]
 | false =>
  have h1:=hS.agg w;rw[hag]at h1;have h2:=Zab FU hg (by rw[k4,hag]);have h3:=Z0c k1 h2 (by rw[k4,hag]);have h4:cs[off]? = some (z.val ((cs.drop off).take q.1)):=by
   have:((cs.drop off).take q.1)[0]? = some (z.val ((cs.drop off).take q.1)):=by
    conv=>lhs;rw[h3]
    rfl
   rw[List.getElem?_take_of_lt (by omega),List.getElem?_drop]at this
   simpa using this
  have h4':cs.toArray[off]? = some (z.val ((cs.drop off).take q.1)):=by simpa using h4
  simp[h1,h4']
end
end Go.Eng
namespace Go.Eng
open Go.RowKit
def Zhb {α:Type} (p:Option Nat×Nat) (r:List α):Value:=.slice (mkA p.1) r.length p.2
section
variable {v:Za} {ty:TypeId} {t:T}
theorem Zod {α:Type}:∀ {rows:List (Option Nat×Nat)} {m:List (List α)} (k:Nat),(Zf rows m)[k]? = (rows[k]?).bind λp=>(m[k]?).map λr=>Zhb p r
 | [],_,_=>by simp[Zf]
 | _ :: _,[],k=>by cases h:(_ :: _:List (Option Nat×Nat))[k]? <;> simp[Zf]
 | p :: ps,r :: rs,0=>by simp[Zf,Zhb]
 | p :: ps,r :: rs,k+1=>by simpa [Zf] using Zod (rows:=ps) (m:=rs) k
theorem ZEc:∀ {rows:List (Option Nat×Nat)} {m:List (List t.den)} {es:List Loc},ZD v ty t rows m es↔rows.length=m.length∧es.length=m.length∧∀ (k:Nat) (p:Option Nat×Nat) (r:List t.den),rows[k]? = some p→m[k]? = some r→∃ cs,t.rep.rels v cs r∧es[k]? = some (Loc.own p.1 ty t.n r.length p.2 cs)
 | [],[],es=>by
  constructor
  ·intro h
   rw[show es=[] from h]
   exact⟨rfl,rfl,λk p r h=>by simp at h⟩
  ·rintro⟨_,h,_⟩
   exact List.length_eq_zero_iff.1 h
 | p :: ps,r :: rs,es=>by
  constructor
  ·rintro⟨cs,es',h1,rfl,h3⟩
   obtain⟨k1,k2,k3⟩:=ZEc.1 h3
   refine⟨by simp[k1],by simp[k2],λk p' r' hp hr=>?_⟩
   cases k with
   | zero=>simp at hp hr;subst hp hr;exact⟨cs,h1,rfl⟩
   | succ k=>simp only[List.getElem?_cons_succ]at hp hr ⊢;exact k3 k p' r' hp hr
  ·rintro⟨h1,h2,h3⟩
   cases es with
   | nil=>simp at h2
   | cons x es' =>
    obtain⟨cs,q1,q2⟩:=h3 0 p r rfl rfl
    simp at q2
    refine⟨cs,es',q1,by rw[q2],ZEc.2 ⟨by simpa using h1,by simpa using h2,λk p' r' hp hr=>?_⟩⟩
    have:=h3 (k+1) p' r' (by simpa using hp) (by simpa using hr)
    simpa using this
 | [],_ :: _,es=>⟨λk=>k.elim,λk=>by simp at k⟩
 | _ :: _,[],es=>⟨λk=>k.elim,λk=>by simp at k⟩
theorem ZNl {rows:List (Option Nat×Nat)} {m:List (List t.den)} {e1 e2:List Loc} {c:Loc} {p:Option Nat×Nat} {r':List t.den} {cs':List Value} (h:ZD v ty t rows m (e1++c :: e2)) (hr:t.rep.rels v cs' r') :
  (Zf rows m).take e1.length++[Zhb p r']++(Zf rows m).drop (e1.length+1)=Zf (rows.set e1.length p) (m.set e1.length r')∧ZD v ty t (rows.set e1.length p) (m.set e1.length r') (e1 ++ .own p.1 ty t.n r'.length p.2 cs' :: e2):=by
 obtain⟨k1,k2,k3⟩:=ZEc.1 h;have hlt:e1.length<m.length:=by rw[← k2];simp
 have hl:=Zob k1;constructor
 ·have e:(Zf rows m).take e1.length++[Zhb p r']++(Zf rows m).drop (e1.length+1)=(Zf rows m).set e1.length (Zhb p r'):=by
   rw[List.set_eq_take_append_cons_drop,iP (by omega)];simp
  rw[e];apply List.ext_getElem?;intro k;rw[Zod,List.getElem?_set,List.getElem?_set,List.getElem?_set];by_cases hk:e1.length=k
  ·rw[iP hk,iP hk,iP hk,iP (by omega),iP (by omega),iP (by omega)];rfl
  ·rw[iN hk,iN hk,iN hk,Zod]
 ·refine ZEc.2 ⟨by simpa using k1,by simpa using k2,λk p' r2 hp hr2=>?_⟩;rw[List.getElem?_set]at hp hr2;by_cases hk:e1.length=k
  ·subst hk;rw[iP rfl,iP (by omega)]at hp hr2
   cases hp;cases hr2
   exact⟨cs',hr,by rw[List.getElem?_append_right (Nat.le_refl _)];simp⟩
  ·rw[iN hk]at hp hr2;obtain⟨cs,q1,q2⟩:=k3 k p' r2 hp hr2;refine⟨cs,q1,?_⟩;rw[← q2];by_cases hlt2:k<e1.length
   ·rw[List.getElem?_append_left hlt2,List.getElem?_append_left hlt2]
   ·rw[List.getElem?_append_right (by omega),List.getElem?_append_right (by omega)];obtain⟨j,hj⟩:∃ j,k-e1.length=j+1:=⟨k-e1.length-1,by omega⟩;rw[hj,List.getElem?_cons_succ,List.getElem?_cons_succ]
theorem Zmm {rows:List (Option Nat×Nat)} {m:List (List t.den)} {es:List Loc} {i j:Nat} {pi pj:Option Nat×Nat} {ri rj:List t.den} (h:ZD v ty t rows m es) (hi:rows[i]? = some pi) (hj:rows[j]? = some pj) (gi:m[i]? = some ri) (gj:m[j]? = some rj) :
  ((Zf rows m).set i (Zhb pj rj)).set j (Zhb pi ri)=Zf ((rows.set i pj).set j pi) (Zib m i j)∧∃ es',es'.Perm es∧ZD v ty t ((rows.set i pj).set j pi) (Zib m i j) es':=by
 obtain⟨k1,k2,k3⟩:=ZEc.1 h;have hl:=Zob k1;have li:i<m.length:=(List.getElem?_eq_some_iff.1 gi).1;have lj:j<m.length:=(List.getElem?_eq_some_iff.1 gj).1;have hm:Zib m i j=(m.set i rj).set j ri:=by
  unfold Zib;rw[List.getD_eq_getElem?_getD,List.getD_eq_getElem?_getD,gi,gj];rfl
 obtain⟨ci,ri1,ri2⟩:=k3 i pi ri hi gi;obtain⟨cj,rj1,rj2⟩:=k3 j pj rj hj gj;have ei:i<es.length:=by omega
 have ej:j<es.length:=by omega
 have hei:es[i] = .own pi.1 ty t.n ri.length pi.2 ci:=(List.getElem?_eq_some_iff.1 ri2).2;have hej:es[j] = .own pj.1 ty t.n rj.length pj.2 cj:=(List.getElem?_eq_some_iff.1 rj2).2;rw[hm];refine⟨?_,(es.set i es[j]).set j es[i],List.set_set_perm ei ej,?_⟩
 ·apply List.ext_getElem?;intro k;rw[Zod,List.getElem?_set,List.getElem?_set,List.getElem?_set,List.getElem?_set,List.getElem?_set,List.getElem?_set];simp only[List.length_set];by_cases hk:j=k
  ·rw[iP hk,iP hk,iP hk,iP (by omega),iP (by omega),iP (by omega)];rfl
  ·rw[iN hk,iN hk,iN hk];by_cases hk2:i=k
   ·rw[iP hk2,iP hk2,iP hk2,iP (by omega),iP (by omega),iP (by omega)];rfl
   ·rw[iN hk2,iN hk2,iN hk2,Zod]
 ·refine ZEc.2 ⟨by simpa using k1,by simpa using k2,λk p' r2 hp hr2=>?_⟩;rw[List.getElem?_set,List.getElem?_set]at hp hr2 ⊢;simp only[List.length_set]at hp hr2 ⊢;by_cases hk:j=k
  ·rw[iP hk,iP (by omega)]at hp hr2
   cases hp;cases hr2
   exact⟨ci,ri1,by rw[iP hk,iP (by omega),hei]⟩
  ·rw[iN hk]at hp hr2 ⊢;by_cases hk2:i=k
   ·rw[iP hk2,iP (by omega)]at hp hr2
    cases hp;cases hr2
    exact⟨cj,rj1,by rw[iP hk2,iP (by omega),hej]⟩
   ·rw[iN hk2]at hp hr2 ⊢;exact k3 k p' r2 hp hr2
end
end Go.Eng
namespace Go.Eng
open Go.RowKit
variable {K:Nat} {w0:Base} {v0:Za} {σ:List (Nat×Value)} {ℓ:List Loc} {v:Za} {a:Act} {w:World}
theorem ZRh {α:Type} {A:Rep α} {v:Za} {cs c d:List Value} {l:List α} {i sz m p:Nat} {x:α} (h:A.rels v cs l) (hi:i<l.length) (hc:(cs.drop (i*sz)).take sz=c)
  (hx:A.rel v (c.take p++d++c.drop (p+m)) x) (hsz:sz=A.n) (hp:p+m≤sz) :
  A.rels v (cs.take (0+i*sz+p)++d++cs.drop (0+i*sz+p+m)) (l.set i x):=by
 have hl:=Zkb h;have h1:i*sz+sz≤cs.length:=by
  rw[hl,← hsz,← Nat.succ_mul];exact Nat.mul_le_mul_right _ hi
 have key:=Zri (sz:=sz) (m:=sz) h hi hx hsz hsz;have e1:cs.take (0+i*sz+p)=cs.take (0+i*sz)++c.take p:=by
  rw[← hc,List.take_take,Nat.min_eq_left (by omega),Nat.zero_add,List.take_add]
 have e2:cs.drop (0+i*sz+p+m)=c.drop (p+m)++cs.drop (0+i*sz+sz):=by
  rw[← hc,List.drop_take,List.drop_drop,Nat.zero_add,show i*sz+p+m=i*sz+(p+m) by omega];have e3:cs.drop (i*sz+sz)=(cs.drop (i*sz+(p+m))).drop (sz-(p+m)):=by
   rw[List.drop_drop];congr 1;omega
  rw[e3,List.take_append_drop]
 rw[e1,e2]
 simpa [aA] using key
theorem ZCj (hS:St K w0 v0 σ ℓ v a w) {j n cap sz:Nat} {b:Option Nat} {T:TypeId} {cs:List Value} (hj:ℓ[j]? = some (.own b T sz n cap cs)) {i p m:Nat} (h:i<n) (hp:p+m≤sz):0+i*sz+p+m≤cs.length:=by
 have:=own_fit hS hj h;omega
end Go.Eng
namespace Go.Eng
open Go.RowKit
theorem St.bare {K:Nat} {w0:Base} {v0:Za} {σ:List (Nat×Value)} {ℓ:List Loc} {v:Za} {a:Act} {w:World} (h:St K w0 v0 σ ℓ v a w):St K w0 v0 [] ℓ v a w:=h.frame Z6k
theorem Zkf {v:Za} {γ:Nat→Gh} {l:Lo} {x:V} {cs:List Value} (h:RR v γ l false x cs) (hf:x.fit=true):cellsOf (x.val cs) cs∧cs.all plain=true:=by
 unfold V.fit at hf;have hp:x.plain=true:=by
  cases hp:x.plain
  ·rw[hp]at hf;cases hf
  ·rfl
 have hpl:=Zvk hp h;refine⟨?_,hpl⟩;rw[hp]at hf;unfold V.val
 cases ha:x.isAgg with
 | true=>exact Z2l cs
 | false =>
  rw[ha]at hf;have hs:=eQ hf;have e:=Z0c h hs ha;have hv:x.val cs=cs.headD undef:=by unfold V.val;rw[ha]
  rw[hv]at e;rw[e]at hpl;have hpl':plain (cs.headD undef)=true:=by simpa using hpl
  have:=ZKc hpl';show cellsOf (cs.headD undef) cs
  conv=>arg 2;rw[e]
  exact this
theorem ZYf {x:V} (hf:x.fit=true):∀ c,x ≠ .tup c:=λc e=>by subst e;cases hf
section
variable {P:Program} {N:Nat} {G:V→Value→Prop} {w0:Base} {v0:Za} {U X:Nat→Prop} {f:Fr} {l:Lo} {a:Act} {w:World} {γ:Nat→Gh} {v:Za} {ℓ:List Loc} {n:Nat}
variable {ty:TypeId} {pos:String} {aft:Array Edge} {g:Option (Nat×Bool)}
theorem ZDb {o:Oper} {l':Lo} {w':World} {γ':Nat→Gh} {v':Za} {ℓ':List Loc} {Post:Unit→Fr→Lo→Prop} (hr:RelX N G w0 v0 U X f l' a w' γ' v' ℓ') (hU:∀ k,U k→X k) (ho:o.dst=none) (hrun:(execOp a.eval o).run P w = .ok .skip w') (h:Post () f l'):Zz P N G w0 v0 X o a w Post:=by
 refine ZJl hrun ?_;rw[ho];exact⟨_,_,h,_,_,_,hr.mono hU λ_ h=>h⟩
theorem ZOi {cs0 cs:List Value} {off:Nat} (h0:cs0.all plain=true) (h1:cs.all plain=true):(cs0.take off++cs++cs0.drop (off+cs.length)).all plain=true:=by
 have h0':=List.all_eq_true.1 h0;refine List.all_eq_true.2 λx hx=>?_;rcases List.mem_append.1 hx with hx | hx
 ·rcases List.mem_append.1 hx with hx | hx
  ·exact h0' x (List.mem_of_mem_take hx)
  ·exact List.all_eq_true.1 h1 x hx
 ·exact h0' x (List.mem_of_mem_drop hx)
theorem Zqf {t:T} {x:t.den} {z x':V} {off:Nat} {cs cz:List Value} (hg:Z0 FU (.data t x) off z=some x') (hx:t.rep.rel v cs x) (hz:RR v γ l false z cz) (hkz:z.ok U) :
  RR v γ l false x' (cs.take off++cz++cs.drop (off+cz.length))∧x'.ok U∧off+cz.length≤t.n:=by
 obtain⟨h1,h2,h3,_⟩:=ZSb FU hg (γ:=γ) (l:=l) (x:=.data t x) hx hz trivial hkz;refine⟨h1,h2,?_⟩;have:=Rep.len _ hx;rw[Zn]at this;omega
theorem Zwj {t:T}:∀ {rows:List (Option Nat×Nat)} {m:List (List t.den)} {es:List Loc} {i:Nat} {p:Option Nat×Nat} {r:List t.den},ZD v ty t rows m es→rows[i]? = some p→m[i]? = some r →
  ∃ cs e1 e2,es=e1 ++ .own p.1 ty t.n r.length p.2 cs :: e2∧t.rep.rels v cs r∧∀ (r':List t.den) (cs':List Value),r'.length=r.length→t.rep.rels v cs' r'→Zf rows (m.set i r')=Zf rows m∧ZD v ty t rows (m.set i r') (e1 ++ .own p.1 ty t.n r.length p.2 cs' :: e2)
 | [],[],_,_,_,_,_,h,_=>by simp at h
 | q :: ps,r0 :: rs,es,0,p,r,⟨cs,es',h1,h2,h3⟩,hp,hr=>by
  simp at hp hr
  subst hp hr
  refine⟨cs,[],es',by simpa using h2,h1,λr' cs' hl hc=>⟨by simp[Zf,hl],?_⟩⟩
  exact⟨cs',es',hc,by rw[← hl];rfl,h3⟩
 | q :: ps,r0 :: rs,es,i+1,p,r,⟨cs,es',h1,h2,h3⟩,hp,hr=>by
  simp only[List.getElem?_cons_succ]at hp hr
  obtain⟨c2,e1,e2,k2,k3,k4⟩:=Zwj h3 hp hr
  subst k2
  refine⟨c2,.own q.1 ty t.n r0.length q.2 cs :: e1,e2,by simpa using h2,k3,λr' cs' hl hc=>?_⟩
  obtain⟨k5,k6⟩:=k4 r' cs' hl hc
  exact⟨by simp only[List.set_cons_succ,Zf,k5],cs,_,h1,rfl,k6⟩
 | [],_ :: _,_,_,_,_,k,_,_=>k.elim
 | _ :: _,[],_,_,_,_,k,_,_=>k.elim
theorem Zai {t:T} {p:Option Nat×Nat} {r':List t.den} {cs':List Value}:∀ {rows:List (Option Nat×Nat)} {m:List (List t.den)} {es:List Loc} {i:Nat} {p0:Option Nat×Nat},ZD v ty t rows m es→rows[i]? = some p0→t.rep.rels v cs' r' →
  (Zf rows m).take i++[Value.slice (mkA p.1) r'.length p.2]++(Zf rows m).drop (i+1)=Zf (rows.set i p) (m.set i r')∧∃ e1 e2 c,es=e1++c :: e2∧ZD v ty t (rows.set i p) (m.set i r') (e1 ++ .own p.1 ty t.n r'.length p.2 cs' :: e2)
 | [],[],_,_,_,_,h,_=>by simp at h
 | q :: ps,r0 :: rs,es,0,p0,⟨cs,es',h1,h2,h3⟩,hp,hc=>by
  refine⟨by simp[Zf],[],es',_,by simpa using h2,?_⟩
  exact⟨cs',es',hc,rfl,h3⟩
 | q :: ps,r0 :: rs,es,i+1,p0,⟨cs,es',h1,h2,h3⟩,hp,hc=>by
  simp only[List.getElem?_cons_succ]at hp
  obtain⟨k1,e1,e2,c,k2,k3⟩:=Zai (p:=p) h3 hp hc
  subst k2
  refine⟨by simp only[List.set_cons_succ,Zf,List.take_succ_cons,List.drop_succ_cons,List.cons_append,k1],.own q.1 ty t.n r0.length q.2 cs :: e1,e2,c,by simpa using h2,?_⟩
  exact⟨cs,_,h1,rfl,k3⟩
 | [],_ :: _,_,_,_,k,_,_=>k.elim
 | _ :: _,[],_,_,_,k,_,_=>k.elim
theorem ZWk {α:Type} {m:List (List α)} {i:Nat} {r r':List α} (hr:m[i]? = some r) (hl:r'.length=r.length):(m.set i r').map List.length=m.map List.length:=by
 apply List.ext_getElem?;intro j;simp only[List.getElem?_map];by_cases h:i=j
 ·subst h;have hlt:=(List.getElem?_eq_some_iff.1 hr).1;rw[List.getElem?_set_self hlt,hr];simp[hl]
 ·rw[List.getElem?_set_ne h]
theorem ZHd:∀ (g:Nat) {x z x':V} {off:Nat},Z0 g x off z=some x'→x.ok U→z.ok U→x'.ok U
 | 0,_,_,_,_,h,_,_=>by cases h
 | g+1,x,z,x',off,h,hk,hkz=>by
  have whole:∀ {y:V},(match Nat.beq off 0,Nat.beq y.size z.size,eqB y.isAgg z.isAgg with
    | true,true,true=>some z
    | _,_,_=>match y with
     | .agg c=>match Z0 g c off z with
      | some c'=>some (.agg c')
      | none=>none
     | .data t x=>match Zua t x with
      | some c=>match Z0 g c off z with
       | some c'=>some (.agg c')
       | none=>none
      | none=>none
     | _=>none)=some x'→y.ok U→x'.ok U:=by
   intro y hy hk;split at hy
   ·cases hy;exact hkz
   ·split at hy
    ·split at hy
     ·rename_i c' he;cases hy;exact (show V.ok U c' from ZHd g he hk hkz)
     ·cases hy
    ·split at hy
     ·rename_i c hc;split at hy
      ·rename_i c' he;cases hy;exact (show V.ok U c' from ZHd g he (ZHi hc) hkz)
      ·cases hy
     ·cases hy
    ·cases hy
  cases x with
  | nl=>simp only[Z0]at h;cases h
  | cons a b =>
   simp only[Z0]at h;split at h
   ·split at h
    ·rename_i he;cases h;exact⟨ZHd g he hk.1 hkz,hk.2⟩
    ·cases h
   ·split at h
    ·split at h
     ·rename_i he;cases h;exact⟨hk.1,ZHd g he hk.2 hkz⟩
     ·cases h
    ·cases h
  | data t x=>exact whole (y:=.data t x) h hk
  | agg c=>exact whole (y:=.agg c) h hk
  | nilS=>exact whole (y:=.nilS) h hk
  | own u=>exact whole (y:=.own u) h hk
  | row u i hv cv t r=>exact whole (y:=.row u i hv cv t r) h hk
  | ptr u o=>exact whole (y:=.ptr u o) h hk
  | el u i cv t x o=>exact whole (y:=.el u i cv t x o) h hk
  | rp u i hv cv t r=>exact whole (y:=.rp u i hv cv t r) h hk
  | rel u i j hv cv t r x o=>exact whole (y:=.rel u i j hv cv t r x o) h hk
  | vp t x o=>exact whole (y:=.vp t x o) h hk
  | tup c=>exact whole (y:=.tup c) h hk
  | fn f c=>exact whole (y:=.fn f c) h hk
  | ifc f c=>exact whole (y:=.ifc f c) h hk
  | undef=>exact whole (y:=.undef) h hk
theorem Zpe {b off:Nat} {c c':List Value} (h:WAt w b off c) (h':WAt w b off c') (hl:c.length=c'.length):c=c':=by
 obtain⟨x,T,fr,h1,h2⟩:=h;obtain⟨x',T',fr',h3,h4⟩:=h';rw[h1]at h3;cases h3;rw[← h2,← h4,hl]
theorem Z0i (hr:RelX N G w0 v0 U X f l a w γ v ℓ) {u k st:Nat} {ty0:TypeId} {t:T} {xs:List t.den} {fz:Bool} (he:lkE l u=some ⟨k,st,.own ty0 t xs fz⟩) {b cap i:Nat} {x:t.den} (hγ:γ u = .own (some b) cap) (hx:xs[i]? = some x):∃ c,t.rep.rel v c x∧WAt w b (0+i*t.n) c:=by
 obtain⟨hkk,es,hes,hmem⟩:=hr.loc he;have hkk:k=u:=hkk;subst hkk
 cases fz with
 | false =>
  obtain⟨ob,cap',cs,q1,q2,rfl⟩:=hes;have q1:γ k = .own ob cap':=q1;rw[hγ]at q1;cases q1;obtain⟨j,hj⟩:=hmem _ (List.mem_singleton.2 rfl);have hrel:=ZWa q2 hx;rw[Zn]at hrel;have hl:=Rep.len _ hrel;rw[Zn]at hl;refine⟨_,hrel,?_⟩;have:=Z5b hr.st hj rfl (List.getElem?_eq_some_iff.1 hx).1 0 ((cs.drop (i*t.n)).take t.n) (by rw[hl,List.drop_zero,List.take_take,Nat.min_self]) (by omega)
  simpa using this
 | true =>
  obtain⟨ob,cap',q1,q2,_⟩:=hes;have q1:γ k = .own ob cap':=q1;rw[hγ]at q1;cases q1;obtain⟨_,b2,o2,cs2,e2,h2,h3⟩:=Zkc q2 hx
  cases e2
  rw[Zn]at h2;exact⟨cs2,h3,hr.st.view h2⟩
theorem ZGj (hr:RelX N G w0 v0 U X f l a w γ v ℓ) {u k st hv:Nat} {ty0 ty2:TypeId} {t:T} {m:List (List t.den)} (he:lkE l u=some ⟨k,st,.mat ty0 ty2 t m hv⟩) {ob:Option Nat} {cap i j bi capi:Nat} {rows:List (Option Nat×Nat)} {r:List t.den} {x:t.den}
  (hγ:γ u = .mat ob cap rows) (hrow:rows[i]? = some (some bi,capi)) (hm:m[i]? = some r) (hx:r[j]? = some x):∃ c,t.rep.rel v c x∧WAt w bi (0+j*t.n) c:=by
 obtain⟨hkk,es,hes,hmem⟩:=hr.loc he;have hkk:k=u:=hkk;subst hkk;obtain⟨ob',cap',rows',es2,q1,q2,rfl⟩:=hes;have q1:γ k = .mat ob' cap' rows':=q1;rw[hγ]at q1;cases q1;obtain⟨p',cs,r1,r2,r3⟩:=ZRb q2 hm;rw[hrow]at r1;cases r1;obtain⟨jj,hj⟩:=hmem _ (List.mem_cons_of_mem _ r3);have hrel:=ZWa r2 hx;rw[Zn]at hrel;have hl:=Rep.len _ hrel;rw[Zn]at hl;refine⟨_,hrel,?_⟩;have:=Z5b hr.st hj rfl (List.getElem?_eq_some_iff.1 hx).1 0 ((cs.drop (j*t.n)).take t.n) (by rw[hl,List.drop_zero,List.take_take,Nat.min_self]) (by omega)
 simpa using this
theorem stE_ok (hr:RelX N G w0 v0 U X f l a w γ v ℓ) (hU:∀ k,U k→X k) (hX:X n) (hn:¬ U n) {t:TypeId} {x y:Operand} {o:Oper} {p q:V} {Post:Unit→Fr→Lo→Prop} (ho:o=⟨none,.store t x y,ty,pos,aft,g⟩) (hp:RV v γ l p (a.eval x)) (hq:RV v γ l q (a.eval y)) (hk:p.ok U) (hkq:q.ok U)
  (h:Zc n (stE P n t p q) f l Post):Zz P N G w0 v0 X o a w Post:=by
 unfold stE at h;split at h
 ·exact h.elim
 ·rename_i sz hsz;split at h
  ·rename_i b1 b2 b3;have b1:=eQ b1;have b2:=Z7e b2;obtain⟨cs,hcs,hqe⟩:=Z3 hq (ZYf b3);obtain⟨hcells,hpl⟩:=Zkf hcs b3;have hlen:cs.length=sz.1:=(ZZa hcs).trans b1;have hS:=ZMb hsz;split at h
   · -- a variable
    rename_i u off;obtain⟨en,he,h⟩:=h;obtain⟨yy,hy0,_,hy⟩:=Zy hp (λ_ e=>by cases e) rfl rfl;have hy0:a.eval x=yy:=(List.cons.inj hy0).1;have hy:=hy en he;obtain⟨kk,st,L⟩:=en;obtain⟨hm,hkk⟩:=Ze he;have hkk:kk=u:=hkk;subst hkk
    cases L with
    | box ty0 c =>
     simp only at h;obtain⟨b',g4,rfl⟩:=hy;split at h
     ·rename_i c' hc';obtain⟨es,E',h1,h2,_,h3,_⟩:=hr.del he;obtain⟨b,cs0,g1,g2,g3,rfl⟩:=h1;have g1:γ kk = .box b:=g1;rw[g1]at g4;cases g4;have hcok:c.ok U:=(hr.ul _ hm).2.2;obtain⟨k1,k2,k3,_⟩:=ZSb FU hc' g2 hcs hcok hkq;rw[hlen]at k3;have hs:=hr.st.perm h3;obtain⟨σ,hσ,e1,e2⟩:=hs.ev2 x y;rw[hy0]at e1;rw[hqe]at e2;obtain⟨w',hrun,hst⟩:=ZRj (P:=P) hσ hS hcells hlen (i:=0) rfl (by omega) hpl;have hle:Le U v γ l v γ (⟨kk,n,.box ty0 c'⟩ :: era l kk):=Le.upd hr he (Za.le_refl _) (λ_ _=>rfl) rfl;subst ho;refine ZDb (hr.upd hX (hr.ul _ hm).1 h2 hst.bare hle (λ_ _=>rfl) ⟨_,_,g1,Z7 hle k2 k1,ZOi g3 hpl,rfl⟩ (List.Perm.refl _) k2) hU rfl (hrun e1 e2) h
     ·exact h.elim
    | own _ _ _ _=>exact h.elim
    | mid _ _ _ _ _ _=>exact h.elim
    | mp _=>exact h.elim
    | mat _ _ _ _ _=>exact h.elim
   · -- an element
    rename_i u i cv s x0 off;split at h
    ·rename_i z hz;obtain⟨yy,hy0,_,⟨c0,hc0⟩,hy⟩:=Zy hp (λ_ e=>by cases e) rfl rfl;have hy0:a.eval x=yy:=(List.cons.inj hy0).1;obtain⟨z1,z2,z3⟩:=Zqf hz hc0 hcs hkq;obtain⟨y1,l1,γ1,v1,ℓ1,h,r1,le1,q1⟩:=Z3a hn hX FU h hr z2;obtain⟨en,he,h⟩:=h;have hp1:=ZX le1 hk hp;obtain⟨yy',hy0',_,_,hy⟩:=Zy hp1 (λ_ e=>by cases e) rfl rfl;have hy0':a.eval x=yy':=(List.cons.inj hy0').1;have hy:=hy en he;obtain⟨kk,st,L⟩:=en;obtain⟨hm,hkk⟩:=Ze he;have hkk:kk=u:=hkk;subst hkk
     cases L with
     | own ty0 s' xs fz =>
      cases fz with
      | true=>exact h.elim
      | false =>
       simp only at h;obtain⟨b,cap,g1,rfl,g3,g4⟩:=hy;obtain⟨es,E',h1,h2,_,h3,_⟩:=r1.del he;obtain⟨ob,cap',cs1,f1,f2,rfl⟩:=h1;have f1:γ1 kk = .own ob cap':=f1;rw[g1]at f1;cases f1;have fin:∀ (c:List Value) (y':s'.den),(cs1.drop (i*s'.n)).take s'.n=c→off+sz.1≤s'.n→s'.rep.rel v1 (c.take off++cs++c.drop (off+sz.1)) y'→Post () f (⟨kk,n,.own ty0 s' (xs.set i y') false⟩ :: era l1 kk)→Zz P N G w0 v0 X o a w Post:=by
        intro c y' hc hfit hrel hpost;have hs:=r1.st.perm h3;obtain⟨σ,hσ,e1,e2⟩:=hs.ev2 x y;rw[hy0']at e1;rw[hqe]at e2;have hset:=ZRh f2 g3 hc hrel (Zn s').symm hfit;have hcl:=Zkb f2;rw[Zn]at hcl;have hfit2:0+i*s'.n+off+sz.1≤cs1.length:=ZCj hs (j:=0) rfl g3 hfit;obtain⟨w',hrun,hst⟩:=ZSc (P:=P) hσ hS hcells hlen (i:=0) rfl hfit2 hpl;rw[hlen]at hst;have hle:Le U v1 γ1 l1 v1 γ1 (⟨kk,n,.own ty0 s' (xs.set i y') false⟩ :: era l1 kk):=Le.upd r1 he (Za.le_refl _) (λ_ _=>rfl) ⟨rfl,rfl,by simp,λe=>absurd e hn⟩;have hst':St N w0 v0 [] (.own (some b) ty0 s'.n (xs.set i y').length cap (cs1.take (0+i*s'.n+off)++cs++cs1.drop (0+i*s'.n+off+sz.1)) :: E'.flatten) v1 a w':=by
         rw[List.length_set];exact hst.bare
        subst ho;exact ZDb (r1.upd hX (r1.ul _ hm).1 h2 hst' hle (λ_ _=>rfl) ⟨some b,cap,_,g1,hset,rfl⟩ (List.Perm.refl _) trivial) hU rfl (hrun e1 e2) hpost
       have full:off=0→sz.1=s.n→∀ y',T.cast s s' y1=some y'→Post () f (⟨kk,n,.own ty0 s' (xs.set i y') false⟩ :: era l1 kk)→Zz P N G w0 v0 X o a w Post:=by
        intro e0 e1 y' hc hpost;obtain⟨c3,c4⟩:=Zx hc;subst c3;subst c4;refine fin _ y1 rfl (by omega) ?_ hpost;have hl0:=Rep.len _ hc0;rw[Zn]at hl0;have hcl:=Zkb f2;rw[Zn]at hcl;have hdl:((cs1.drop (i*s.n)).take s.n).length=s.n:=by
         have:i*s.n+s.n≤cs1.length:=by rw[hcl,← Nat.succ_mul];exact Nat.mul_le_mul_right _ g3
         simp;omega
        have q1:=q1 _ z1;rw[e0]at q1 ⊢;rw[List.take_zero,List.drop_of_length_le (by omega)]at q1 ⊢;exact q1
       split at h
       ·rename_i hh1 hh2;split at h
        ·rename_i y' hy';exact full (eQ hh1) (b1.symm.trans (eQ hh2)) y' hy' h
        ·exact h.elim
       ·rename_i hcv _;split at h
        ·rename_i y' hy';obtain⟨ys,c1,c2⟩:=g4 (eQ hcv);obtain⟨c3,c4⟩:=Zx c1
         cases c3;cases c4
         rw[ZKd]at hy';cases hy';have hrel:=ZWa f2 c2;rw[Zn]at hrel;obtain⟨⟨k0,st0,L0⟩,he0,hce⟩:=le1.l _ _ hk.1 he;have hst:U st:=(eQ hcv) ▸ hk.2
         cases L0 with
         | own ty1 t1 xs1 fz1 =>
          obtain⟨d1,d2,d3,d4⟩:=hce;obtain⟨d5,d6⟩:=d4 hst
          cases d6
          rw[d1]at g1;obtain⟨c,hc1,hc2⟩:=Z0i hr he0 g1 c2;obtain⟨z1',_,_⟩:=Zqf hz hc1 hcs hkq;have q2:=q1 _ z1';rw[hlen]at q2;refine fin c y1 ?_ (by omega) q2 h;have g1':γ1 kk = .own (some b) cap:=by rw[d1];exact g1
          obtain⟨c',hc1',hc2'⟩:=Z0i r1 he g1' c2;have hl1:=Rep.len _ hc1;have hl2:=Rep.len _ hc1';have e1:=Zpe hc2 hc2' (hl1.trans hl2.symm);have hl3:=Rep.len _ hrel;rw[Zn]at hl1 hl3;obtain⟨jj,hj⟩:∃ i:Nat,ℓ1[i]? = some (.own (some b) ty0 s.n xs.length cap cs1):=List.getElem?_of_mem (h3.mem_iff.2 (by simp));have hw:=Z5b r1.st hj rfl g3 0 ((cs1.drop (i*s.n)).take s.n) (by rw[hl3,List.drop_zero,List.take_take,Nat.min_self]) (by omega);exact Zpe (by simpa using hw) hc2 (hl3.trans hl1.symm)
         | box _ _=>exact hce.elim
         | mp _=>exact hce.elim
         | mid _ _ _ _ _ _ =>
          obtain⟨_,_,_,_,hyl⟩:=Zy hp (λ_ e=>by cases e) rfl rfl;exact (hyl _ he0).elim
         | mat _ _ _ _ _ =>
          obtain⟨_,_,_,_,hyl⟩:=Zy hp (λ_ e=>by cases e) rfl rfl;exact (hyl _ he0).elim
        ·exact h.elim
       ·exact h.elim
     | box ty1 c1 =>
      cases c1 with
      | data t' w' =>
       simp only at h;split at h
       ·rename_i m e' hu;split at h
        ·rename_i w2 hof hvs hw2 hm0;obtain⟨⟨⟩,hin,h⟩:=h
         dsimp only at h
         split at h
         ·rename_i w3 hw3;have hof:=eQ hof;have hvs:=eQ hvs;subst hof;obtain⟨c3,c4⟩:=Zx hw2;subst c3;subst c4;have hw3:T.cast (ZC s m) (ZC s m) (arrS s m w' i y1)=some w3:=hw3;rw[ZKd]at hw3
          cases hw3
          have him:i<m:=by
           unfold inN at hin;split at hin
           ·assumption
           ·cases hin
          obtain⟨b,g1,rfl⟩:=hy;obtain⟨es,E',h1,h2,_,h3,_⟩:=r1.del he;obtain⟨b',cs1,f1,f2,f3,rfl⟩:=h1;have f1:γ1 kk = .box b':=f1;rw[g1]at f1;cases f1;have hm0:0<m:=lB hm0;have f2:(ZC s m).rep.rel v1 cs1 w':=f2;obtain⟨k1,k2⟩:=ZLc hm0 f2;have hcl:=Zkb k1;rw[Zn,k2]at hcl;have hl0:=Rep.len _ hc0;rw[Zn]at hl0;have hsn:sz.1=s.n:=b1.symm.trans hvs;have hy1:s.rep.rel v1 cs y1:=by
           have q1:=q1 _ z1;rw[List.take_zero,List.drop_of_length_le (by omega)]at q1
           simpa using q1
          have hset:=Zri k1 (by rw[k2];exact him) hy1 (Zn s).symm (hlen.trans (hsn.trans (Zn s).symm));rw[← Zii him]at hset;have hrel:=ZXh hm0 hset;have hs:=r1.st.perm h3;obtain⟨σ,hσ,e1,e2⟩:=hs.ev2 x y;rw[hy0']at e1;rw[hqe]at e2;have hle0:i*s.n+s.n≤cs1.length:=by rw[hcl,← Nat.succ_mul];exact Nat.mul_le_mul_right _ him
          obtain⟨w4,hrun,hst⟩:=ZRj (P:=P) hσ hS hcells hlen (i:=0) rfl (off:=0+i*s.n+0) (by omega) hpl;have hle:Le U v1 γ1 l1 v1 γ1 (⟨kk,n,.box ty1 (.data (ZC s m) (arrS s m w' i y1))⟩ :: era l1 kk):=Le.upd r1 he (Za.le_refl _) (λ_ _=>rfl) rfl;subst ho;exact ZDb (r1.upd hX (r1.ul _ hm).1 h2 hst.bare hle (λ_ _=>rfl) ⟨_,_,g1,hrel,ZOi f3 hpl,rfl⟩ (List.Perm.refl _) trivial) hU rfl (hrun e1 e2) h
         ·exact h.elim
        ·exact h.elim
       ·exact h.elim
      | _=>exact h.elim
     | mid _ _ _ _ _ _=>exact h.elim
     | mp _=>exact h.elim
     | mat _ _ _ _ _=>exact h.elim
    ·exact h.elim
   · -- a row is put into its place
    rename_i u i hv0 cv0 s0 r0;split at h
    ·rename_i u2 _ _;obtain⟨en,he,h⟩:=h;obtain⟨yy,hy0,_,hy⟩:=Zy hp (λ_ e=>by cases e) rfl rfl;have hy0:a.eval x=yy:=(List.cons.inj hy0).1;have hy:=hy en he;obtain⟨kk,st,L⟩:=en;obtain⟨hm,hkk⟩:=Ze he;have hkk:kk=u:=hkk;subst hkk
     cases L with
     | mat ty0 ty2 s m hv =>
      obtain⟨en2,he2,h⟩:=h;obtain⟨k2,st2,L2⟩:=en2;obtain⟨hm2,hkk2⟩:=Ze he2;have hkk2:k2=u2:=hkk2;subst hkk2
      cases L2 with
      | own ty3 s' xs fz =>
       cases fz with
       | true=>exact h.elim
       | false =>
        simp only at h;split at h
        ·rename_i l' ht3 hl';have ht3:=eQ ht3;subst ht3;obtain⟨c3,c4⟩:=Zx hl'
         cases c3;cases c4
         have hne:kk≠k2:=λe=>by subst e;rw[he]at he2;cases he2
         obtain⟨b,cap,rows,g1,rfl,g3,g4⟩:=hy;obtain⟨es2,E2,h1,h2,h2',h3,r2⟩:=hr.del he2;obtain⟨ob2,cap2,cs2,f1,f2,rfl⟩:=h1;have he':lkE (era l k2) kk=some ⟨kk,st,.mat ty0 ty3 s m hv⟩:=by
          rw[Zxa hr.nd,iN (λe=>hne e.symm)];exact he
         obtain⟨esm,E',hsp1,hsp2,hsp3⟩:=ZAc h2' he';obtain⟨ob',cap',rows,es3,q1,q2,rfl⟩:=hsp1;have q1:γ kk = .mat ob' cap' rows:=q1;rw[g1]at q1;cases q1;have hrl:=Zlc q2;obtain⟨p',hp'⟩:∃ p',rows[i]? = some p':=⟨_,List.getElem?_eq_getElem (by omega)⟩;obtain⟨hh,e1,e2,csx,k1,k3⟩:=Zai q2 hp' (p:=(ob2,cap2)) (r':=xs) f2;have hq1:a.eval y = .slice (mkA ob2) xs.length cap2:=by
          obtain⟨yq,hyq0,_,hyq⟩:=Zy hq (λ_ e=>by cases e) rfl rfl;obtain⟨oq,cq,gq1,gq2⟩:=hyq _ he2;have f1:γ k2 = .own ob2 cap2:=f1;rw[f1]at gq1;cases gq1;exact ((List.cons.inj hyq0).1).trans gq2
         have hs:St N w0 v0 [] (.own (some b) ty0 1 m.length cap (Zf rows m) :: .own ob2 ty3 s.n xs.length cap2 cs2 :: (es3++E'.flatten)) v a w:=by
          refine hr.st.perm ((h3.trans (List.Perm.append_left _ hsp3)).trans ?_);simp only[List.cons_append];exact List.Perm.swap _ _ _
         obtain⟨σ,hσ,ee1,ee2⟩:=hs.ev2 x y;rw[hy0]at ee1;rw[hq1]at ee2;have hS1:Sized P t ([Value.slice (mkA ob2) xs.length cap2]:List Value).length sz.2:=by
          have:sz.1=1:=b1.symm;rw[this]at hS;exact hS
         have hfit:0+i*1+([Value.slice (mkA ob2) xs.length cap2]:List Value).length≤(Zf rows m).length:=by
          rw[Zob hrl];simp only[List.length_singleton];omega
         obtain⟨w',hrun,hst⟩:=ZSc (P:=P) hσ hS1 (cs:=[Value.slice (mkA ob2) xs.length cap2]) (z:=.slice (mkA ob2) xs.length cap2) (ZKc rfl) rfl (i:=0) rfl hfit rfl;have hh':(Zf rows m).take (0+i*1)++[Value.slice (mkA ob2) xs.length cap2]++(Zf rows m).drop (0+i*1+1)=Zf (rows.set i (ob2,cap2)) (m.set i xs):=by
          rw[Nat.zero_add,Nat.mul_one];exact hh
         have hst:=hst.bare;simp only[List.set_cons_zero,List.length_singleton]at hst;rw[hh']at hst;subst k1;have hst':St N w0 v0 [] (.own (some b) ty0 1 (m.set i xs).length cap (Zf (rows.set i (ob2,cap2)) (m.set i xs)) :: (e1 ++ .own ob2 ty3 s.n xs.length cap2 cs2 :: e2)++E'.flatten) v a w':=by
          rw[List.length_set];refine (hst.drop (ℓ':=.own (some b) ty0 1 m.length cap (Zf (rows.set i (ob2,cap2)) (m.set i xs)) :: .own ob2 ty3 s.n xs.length cap2 cs2 :: ((e1++e2)++E'.flatten)) ?_).perm ?_
          ·refine List.Sublist.cons_cons _ (List.Sublist.cons_cons _ (List.Sublist.append (List.Sublist.append (List.Sublist.refl _) (List.sublist_cons_self _ _)) (List.Sublist.refl _)))
          ·simp only[List.cons_append];refine List.Perm.cons _ ?_;rw[← List.cons_append];exact List.Perm.append_right _ (List.perm_middle.symm)
         have hle:Le U v γ (era l k2) v (Z4 γ kk (.mat (some b) cap (rows.set i (ob2,cap2)))) (⟨kk,n,.mat ty0 ty3 s (m.set i xs) n⟩ :: era (era l k2) kk):=Le.upd r2 he' (Za.le_refl _) (λ_ hne=>Zba hne) ⟨rfl,by simp,⟨_,_,_,_,g1,ZN,λe=>absurd e hn⟩,λe=>absurd e hn⟩;subst ho;refine ZDb (r2.upd hX (r2.ul _ (Ze he').1).1 hsp2 hst' hle (λ_ hne=>Zba hne) ⟨some b,cap,rows.set i (ob2,cap2),_,ZN,k3,rfl⟩ ?_ hX) hU rfl (hrun ee1 ee2) h;exact List.Perm.refl _
        ·exact h.elim
      | box _ _=>exact h.elim
      | mid _ _ _ _ _ _=>exact h.elim
      | mp _=>exact h.elim
      | mat _ _ _ _ _=>exact h.elim
     | mp _=>exact h.elim
     | mid ty0 ty2 s m hv sm =>
      cases sm with
      | swp _ _=>exact h.elim
      | hol i1 =>
       obtain⟨_,heq,h⟩:=h;have heq:i=i1:=by
        unfold eqN at heq;split at heq
        ·assumption
        ·cases heq
       subst heq;obtain⟨en2,he2,h⟩:=h;obtain⟨k2,st2,L2⟩:=en2;obtain⟨hm2,hkk2⟩:=Ze he2;have hkk2:k2=u2:=hkk2;subst hkk2
       cases L2 with
       | own ty3 s' xs fz =>
        cases fz with
        | true=>exact h.elim
        | false =>
         simp only at h;split at h
         ·rename_i l' ht3 hl';have ht3:=eQ ht3;subst ht3;obtain⟨c3,c4⟩:=Zx hl'
          cases c3;cases c4
          have hne:kk≠k2:=λe=>by subst e;rw[he]at he2;cases he2
          obtain⟨b,cap,rows,g1,rfl,g3,g4⟩:=hy;obtain⟨es2,E2,h1,h2,h2',h3,r2⟩:=hr.del he2;obtain⟨ob2,cap2,cs2,f1,f2,rfl⟩:=h1;have he':lkE (era l k2) kk=some ⟨kk,st,.mid ty0 ty3 s m hv (.hol i)⟩:=by
           rw[Zxa hr.nd,iN (λe=>hne e.symm)];exact he
          obtain⟨esm,E',hsp1,hsp2,hsp3⟩:=ZAc h2' he';obtain⟨ob',cap',rows,es3,hs,es4,q1,q2,⟨rfl,e1,c,e2,rfl,rfl,rfl⟩,rfl⟩:=hsp1;have q1:γ kk = .mat ob' cap' rows:=q1;rw[g1]at q1;cases q1;have hrl:=Zlc q2;obtain⟨hh,k3⟩:=ZNl q2 (p:=(ob2,cap2)) (r':=xs) f2;have hq1:a.eval y = .slice (mkA ob2) xs.length cap2:=by
           obtain⟨yq,hyq0,_,hyq⟩:=Zy hq (λ_ e=>by cases e) rfl rfl;obtain⟨oq,cq,gq1,gq2⟩:=hyq _ he2;have f1:γ k2 = .own ob2 cap2:=f1;rw[f1]at gq1;cases gq1;exact ((List.cons.inj hyq0).1).trans gq2
          have hs:St N w0 v0 [] (.own (some b) ty0 1 m.length cap (Zf rows m) :: .own ob2 ty3 s.n xs.length cap2 cs2 :: (e1++e2++E'.flatten)) v a w:=by
           refine hr.st.perm ((h3.trans (List.Perm.append_left _ hsp3)).trans ?_);simp only[List.cons_append];exact List.Perm.swap _ _ _
          obtain⟨σ,hσ,ee1,ee2⟩:=hs.ev2 x y;rw[hy0]at ee1;rw[hq1]at ee2;have hS1:Sized P t ([Value.slice (mkA ob2) xs.length cap2]:List Value).length sz.2:=by
           have:sz.1=1:=b1.symm;rw[this]at hS;exact hS
          have hfit:0+e1.length*1+([Value.slice (mkA ob2) xs.length cap2]:List Value).length≤(Zf rows m).length:=by
           rw[Zob hrl];simp only[List.length_singleton];omega
          obtain⟨w',hrun,hst⟩:=ZSc (P:=P) hσ hS1 (cs:=[Value.slice (mkA ob2) xs.length cap2]) (z:=.slice (mkA ob2) xs.length cap2) (ZKc rfl) rfl (i:=0) rfl hfit rfl;have hh':(Zf rows m).take (0+e1.length*1)++[Value.slice (mkA ob2) xs.length cap2]++(Zf rows m).drop (0+e1.length*1+1)=Zf (rows.set e1.length (ob2,cap2)) (m.set e1.length xs):=by
           rw[Nat.zero_add,Nat.mul_one];exact hh
          have hst:=hst.bare;simp only[List.set_cons_zero,List.length_singleton]at hst;rw[hh']at hst;have hst':St N w0 v0 [] (.own (some b) ty0 1 (m.set e1.length xs).length cap (Zf (rows.set e1.length (ob2,cap2)) (m.set e1.length xs)) :: (e1 ++ .own ob2 ty3 s.n xs.length cap2 cs2 :: e2)++E'.flatten) v a w':=by
           rw[List.length_set];refine hst.perm ?_;simp only[List.cons_append,aA];exact List.Perm.cons _ List.perm_middle.symm
          have hle:Le U v γ (era l k2) v (Z4 γ kk (.mat (some b) cap (rows.set e1.length (ob2,cap2)))) (⟨kk,n,.mat ty0 ty3 s (m.set e1.length xs) n⟩ :: era (era l k2) kk):=Le.upd r2 he' (Za.le_refl _) (λ_ hne=>Zba hne) ⟨rfl,by simp,⟨_,_,_,_,g1,ZN,λe=>absurd e hn⟩,λe=>absurd e hn⟩;subst ho;exact ZDb (r2.upd hX (r2.ul _ (Ze he').1).1 hsp2 hst' hle (λ_ hne=>Zba hne) ⟨some b,cap,rows.set e1.length (ob2,cap2),_,ZN,k3,rfl⟩ (List.Perm.refl _) hX) hU rfl (hrun ee1 ee2) h
         ·exact h.elim
       | box _ _=>exact h.elim
       | mid _ _ _ _ _ _=>exact h.elim
       | mp _=>exact h.elim
       | mat _ _ _ _ _=>exact h.elim
     | box _ _=>exact h.elim
     | own _ _ _ _=>exact h.elim
    · -- another row's header
     rename_i u2 j hv2 cv2 t2 r2 _ _;obtain⟨en,he,h⟩:=h;obtain⟨yy,hy0,_,hy⟩:=Zy hp (λ_ e=>by cases e) rfl rfl;have hy0:a.eval x=yy:=(List.cons.inj hy0).1;have hy:=hy en he;obtain⟨yq,hq0,_,hqy⟩:=Zy hq (λ_ e=>by cases e) rfl rfl;have hq0:a.eval y=yq:=(List.cons.inj hq0).1;obtain⟨kk,st,L⟩:=en;obtain⟨hm,hkk⟩:=Ze he;have hkk:kk=u:=hkk;subst hkk;have hS1:∀ z:Value,Sized P t ([z]:List Value).length sz.2:=λz=>by
      have:sz.1=1:=b1.symm;rw[this]at hS;exact hS
     cases L with
     | mat ty0 ty2 s m hv =>
      simp only at h;split at h
      ·rename_i bu bh;have bu:=eQ bu;have bh:=eQ bh;subst bu bh;obtain⟨b,cap,rows,g1,rfl,g3,g4⟩:=hy;obtain⟨ob',cap',rows',obi,capi,j1,j2,rfl,⟨rj,j3,j4⟩,_⟩:=hqy _ he rfl;rw[g1]at j1;cases j1;obtain⟨es,E',h1,h2,_,h3,_⟩:=hr.del he;obtain⟨ob2,cap2,rows2,es3,q1,q2,rfl⟩:=h1;have q1:γ u2 = .mat ob2 cap2 rows2:=q1;rw[g1]at q1;cases q1;have hrl:=Zlc q2;have hs:=hr.st.perm h3;obtain⟨σ,hσ,ee1,ee2⟩:=hs.ev2 x y;rw[hy0]at ee1;rw[hq0]at ee2;have hfit:0+i*1+([Value.slice (mkA obi) r2.length capi]:List Value).length≤(Zf rows m).length:=by
        rw[Zob hrl];simp only[List.length_singleton];omega
       obtain⟨w',hrun,hst⟩:=ZSc (P:=P) hσ (hS1 _) (cs:=[Value.slice (mkA obi) r2.length capi]) (z:=.slice (mkA obi) r2.length capi) (ZKc rfl) rfl (i:=0) rfl hfit rfl;have hst:=hst.bare;simp only[List.set_cons_zero,List.length_singleton,List.cons_append]at hst;have hset:(Zf rows m).take (0+i*1)++[Value.slice (mkA obi) r2.length capi]++(Zf rows m).drop (0+i*1+1)=(Zf rows m).set i (.slice (mkA obi) r2.length capi):=by
        rw[List.set_eq_take_append_cons_drop,iP (by rw[Zob hrl];exact g3)];simp
       rw[hset]at hst;have hjj:(Zf rows m)[j]? = some (.slice (mkA obi) r2.length capi):=by
        rw[Zsd j2 j3,j4]
       have hle:Le U v γ l v γ (⟨u2,n,.mid ty0 ty2 s m hv (.swp i j)⟩ :: era l u2):=Le.upd hr he (Za.le_refl _) (λ_ _=>rfl) ⟨rfl,rfl,⟨_,_,_,_,g1,g1,λ_=>⟨rfl,rfl,rfl⟩⟩,λe=>absurd e hn⟩;subst ho;exact ZDb (hr.upd hX (hr.ul _ hm).1 h2 hst hle (λ_ _=>rfl) ⟨some b,cap,rows,es3,_,es3,g1,q2,⟨rfl,g3,_,hjj,rfl⟩,rfl⟩ (List.Perm.refl _) (hr.ul _ hm).2.2) hU rfl (hrun ee1 ee2) h
      ·exact h.elim
     | mp _=>exact h.elim
     | mid ty0 ty2 s m hv sm =>
      cases sm with
      | hol _=>exact h.elim
      | swp i0 j0 =>
       simp only at h;split at h
       ·rename_i bu bh;have bu:=eQ bu;have bh:=eQ bh;subst bu bh;obtain⟨_,q1,_,q2,h⟩:=h;have q1:i=j0:=by
         unfold eqN at q1;split at q1
         ·assumption
         ·cases q1
        have q2:j=i0:=by
         unfold eqN at q2;split at q2
         ·assumption
         ·cases q2
        subst q1 q2;obtain⟨b,cap,rows,g1,rfl,g3,g4⟩:=hy;obtain⟨ob',cap',rows',obi,capi,j1,j2,rfl,⟨rj,j3,j4⟩,_⟩:=hqy _ he rfl;rw[g1]at j1;cases j1;obtain⟨es,E',h1,h2,_,h3,_⟩:=hr.del he;obtain⟨ob2,cap2,rows2,es3,hs0,es4,q1,q2,⟨rfl,q3,hx,q4,rfl⟩,rfl⟩:=h1;have q1:γ u2 = .mat ob2 cap2 rows2:=q1;rw[g1]at q1;cases q1;have hrl:=Zlc q2;have hs:=hr.st.perm h3;obtain⟨σ,hσ,ee1,ee2⟩:=hs.ev2 x y;rw[hy0]at ee1;rw[hq0]at ee2;have hfit:0+i*1+([Value.slice (mkA obi) r2.length capi]:List Value).length≤((Zf rows m).set j hx).length:=by
         rw[List.length_set,Zob hrl];simp only[List.length_singleton];omega
        obtain⟨w',hrun,hst⟩:=ZSc (P:=P) hσ (hS1 _) (cs:=[Value.slice (mkA obi) r2.length capi]) (z:=.slice (mkA obi) r2.length capi) (ZKc rfl) rfl (i:=0) rfl hfit rfl;have hst:=hst.bare;simp only[List.set_cons_zero,List.length_singleton,List.cons_append]at hst;have hset:((Zf rows m).set j hx).take (0+i*1)++[Value.slice (mkA obi) r2.length capi]++((Zf rows m).set j hx).drop (0+i*1+1)=((Zf rows m).set j hx).set i (.slice (mkA obi) r2.length capi):=by
         rw[List.set_eq_take_append_cons_drop (l:=(Zf rows m).set j hx),iP (by rw[List.length_set,Zob hrl];exact g3)];simp
        rw[hset]at hst;obtain⟨pi,hpi⟩:∃ p,rows[i]? = some p:=⟨_,List.getElem?_eq_getElem (by omega)⟩;obtain⟨ri,hri⟩:∃ r,m[i]? = some r:=⟨_,List.getElem?_eq_getElem g3⟩;have hhx:hx=Zhb pi ri:=by
         rw[Zsd hpi hri]at q4;exact (Option.some.inj q4).symm
        have hhj:Value.slice (mkA obi) r2.length capi=Zhb (obi,capi) rj:=by unfold Zhb;rw[j4]
        obtain⟨w1,es5,w2,w3⟩:=Zmm q2 j2 hpi j3 hri;rw[hhx,hhj,w1]at hst;have hln:(Zib m j i).length=m.length:=by unfold Zib;simp
        have hst':St N w0 v0 [] (.own (some b) ty0 1 (Zib m j i).length cap (Zf ((rows.set j pi).set i (obi,capi)) (Zib m j i)) :: es5++E'.flatten) v a w':=by
         rw[hln];refine hst.perm ?_;simp only[List.cons_append];exact List.Perm.cons _ (List.Perm.append_right _ w2.symm)
        have hle:Le U v γ l v (Z4 γ u2 (.mat (some b) cap ((rows.set j pi).set i (obi,capi)))) (⟨u2,n,.mat ty0 ty2 s (Zib m j i) n⟩ :: era l u2):=Le.upd hr he (Za.le_refl _) (λ_ hne=>Zba hne) ⟨rfl,hln,⟨_,_,_,_,g1,ZN,λe=>absurd e hn⟩,λe=>absurd e hn⟩;subst ho;exact ZDb (hr.upd hX (hr.ul _ hm).1 h2 hst' hle (λ_ hne=>Zba hne) ⟨some b,cap,_,_,ZN,w3,rfl⟩ (List.Perm.refl _) hX) hU rfl (hrun ee1 ee2) h
       ·exact h.elim
     | box _ _=>exact h.elim
     | own _ _ _ _=>exact h.elim
    ·exact h.elim
   · -- an element of a row
    rename_i u i j hv cv s r x0 off;split at h
    ·rename_i z hz;obtain⟨yy,hy0,_,hy⟩:=Zy hp (λ_ e=>by cases e) rfl rfl;have hy0:a.eval x=yy:=(List.cons.inj hy0).1;obtain⟨⟨kz,sz0,Lz⟩,hez,h⟩:=h;have hLz:∃ ty ty2 t m hv,Lz = .mat ty ty2 t m hv:=by
      cases Lz with
      | mat ty ty2 t m hv=>exact⟨_,_,_,_,_,rfl⟩
      | _=>exact h.elim
     obtain⟨_,_,_,_,_,rfl⟩:=hLz;obtain⟨y1,l1,γ1,v1,ℓ1,hB,r1,le1,q1⟩:=Z3a hn hX FU h hr (ZHd FU hz trivial hkq);obtain⟨en,he,hC⟩:=hB;have hp1:=ZX le1 hk hp;obtain⟨yy',hy0',_,hy1⟩:=Zy hp1 (λ_ e=>by cases e) rfl rfl;have hy0':a.eval x=yy':=(List.cons.inj hy0').1;have hy1:=hy1 en he;obtain⟨kk,st,L⟩:=en;obtain⟨hm,hkk⟩:=Ze he;have hkk:kk=u:=hkk;subst hkk
     cases L with
     | mat ty0 ty2 s' m hv' =>
      simp only at hC;split at hC
      ·rename_i b4 b5;have b4:=eQ b4;have b5:=eQ b5;subst b4 b5;split at hC
       ·rename_i r' hr';obtain⟨ob,cap,rows,bi,capi,g1,g2,rfl,_,g4,g6⟩:=hy1 rfl;obtain⟨⟨m',c1,c2⟩,cx⟩:=g6 rfl;obtain⟨c3,c4⟩:=Zx c1
        cases c3;cases c4
        have hr':r.set j y1=r':=by
         obtain⟨c5,c6⟩:=Zx hr';exact c6
        subst hr';obtain⟨⟨k0,st0,L0⟩,he0,hce⟩:=le1.l _ _ hk.1 he;obtain⟨es,E',h1,h2,_,h3,_⟩:=r1.del he;obtain⟨ob',cap',rows',es3,f1,f2,rfl⟩:=h1;have f1:γ1 kk = .mat ob' cap' rows':=f1;rw[g1]at f1;cases f1
        cases L0 with
        | mat ty1 ty3 t1 m1 hv1 =>
         obtain⟨d1,d2,⟨obx,capx,rowsx,rowsy,d3,d4,d5⟩,d6⟩:=hce;obtain⟨d7,d8⟩:=d6 hk.2.2
         cases d8
         obtain⟨d9,d10,_⟩:=d5 hk.2.1;rw[g1]at d4;cases d4;subst d10;obtain⟨c,hc1,hc2⟩:=ZGj hr he0 d3 g2 c2 cx;obtain⟨c',hc1',hc2'⟩:=ZGj r1 he g1 g2 c2 cx;have e1:=Zpe hc2 hc2' ((Rep.len _ hc1).trans (Rep.len _ hc1').symm);obtain⟨z1',_,zfit⟩:=Zqf hz hc1 hcs hkq;have q2:=q1 _ z1';rw[hlen]at q2 zfit;obtain⟨csx,ea,eb,k1,k2,k3⟩:=Zwj f2 g2 c2;subst k1;have hs:St N w0 v0 [] (.own (some bi) ty2 s.n r.length capi csx :: .own ob ty0 1 m.length cap (Zf rows m) :: (ea++eb++E'.flatten)) v1 a w:=by
          refine r1.st.perm (h3.trans ?_);simp only[List.cons_append,aA];exact (List.Perm.cons _ List.perm_middle).trans (List.Perm.swap _ _ _)
         have hrel:=ZWa k2 cx;rw[Zn]at hrel;have hl3:=Rep.len _ hrel;have hl1:=Rep.len _ hc1;rw[Zn]at hl3 hl1;have hcell:(csx.drop (j*s.n)).take s.n=c:=by
          have hw:=Z5b hs (j:=0) rfl rfl g4 0 ((csx.drop (j*s.n)).take s.n) (by rw[hl3,List.drop_zero,List.take_take,Nat.min_self]) (by omega);exact Zpe (by simpa using hw) hc2 (hl3.trans hl1.symm)
         obtain⟨σ,hσ,e1,e2⟩:=hs.ev2 x y;rw[hy0']at e1;rw[hqe]at e2;have hset:=ZRh k2 g4 hcell q2 (Zn s).symm (by omega);have hfit2:0+j*s.n+off+sz.1≤csx.length:=ZCj hs (j:=0) rfl g4 (by omega);obtain⟨w',hrun,hst⟩:=ZSc (P:=P) hσ hS hcells hlen (i:=0) rfl hfit2 hpl;rw[hlen]at hst;have hst:=hst.bare;obtain⟨k4,k5⟩:=k3 (r.set j y1) _ (List.length_set ..) hset;have hst':St N w0 v0 [] (.own ob ty0 1 (m.set i (r.set j y1)).length cap (Zf rows (m.set i (r.set j y1))) :: (ea ++ .own (some bi) ty2 s.n r.length capi (csx.take (0+j*s.n+off)++cs++csx.drop (0+j*s.n+off+sz.1)) :: eb)++E'.flatten) v1 a w':=by
          rw[List.length_set,k4];refine hst.perm ?_;simp only[List.set_cons_zero,List.cons_append,aA];exact (List.Perm.swap _ _ _).trans (List.Perm.cons _ List.perm_middle.symm)
         have hle:Le U v1 γ1 l1 v1 γ1 (⟨kk,n,.mat ty0 ty2 s (m.set i (r.set j y1)) hv'⟩ :: era l1 kk):=Le.upd r1 he (Za.le_refl _) (λ_ _=>rfl) ⟨rfl,by simp,⟨_,_,_,_,g1,g1,λ_=>⟨rfl,rfl,ZWk c2 (List.length_set ..)⟩⟩,λe=>absurd e hn⟩;subst ho;exact ZDb (r1.upd hX (r1.ul _ hm).1 h2 hst' hle (λ_ _=>rfl) ⟨ob,cap,rows,_,g1,k5,rfl⟩ (List.Perm.refl _) (r1.ul _ hm).2.2) hU rfl (hrun e1 e2) hC
        | box _ _=>exact hce.elim
        | mid _ _ _ _ _ _=>rw[he0]at hez;cases hez
        | mp _=>exact hce.elim
        | own _ _ _ _=>exact hce.elim
       ·exact hC.elim
      ·exact hC.elim
     | box _ _=>exact hC.elim
     | mid _ _ _ _ _ _=>exact hC.elim
     | mp _=>exact hC.elim
     | own _ _ _ _=>exact hC.elim
    ·exact h.elim
   ·exact h.elim
  ·exact h.elim
end
end Go.Eng
namespace Go.Eng
open Go.RowKit
def Znb:Rep Value where
 n:=1
 agg:=false
 rel _ cs x:=cs=[x]∧plain x=true
 len h:=by rw[h.1];rfl
 mono _ h:=h
 flat h:=by obtain⟨h1,h2⟩:=h;rw[h1];simp[h2]
theorem ZRf {v:Za}:∀ {l:List Value},l.all plain=true→Znb.rels v l l
 | [],_=>rfl
 | x :: l,h=>by
  simp only[List.all_cons,Bool.and_eq_true]at h
  exact⟨[x],l,rfl,⟨rfl,h.1⟩,ZRf h.2⟩
theorem Zfg {v:Za}:∀ {l cs:List Value},Znb.rels v cs l→cs=l
 | [],cs,h=>h
 | x :: l,cs,h=>by
  obtain⟨c1,c2,h1,h2,h3⟩:=h
  rw[h1,h2.1,Zfg h3];rfl
theorem ZKf {α:Type}:∀ {rows:List (Option Nat×Nat)} {m:List (List α)},(Zf rows m).all plain=true
 | [],_=>rfl
 | _ :: _,[]=>rfl
 | p :: ps,r :: rs=>by
  have:=ZKf (rows:=ps) (m:=rs)
  simp only[Zf,List.all_cons,this,Bool.and_true]
  obtain⟨ob,cap⟩:=p
  cases ob <;> rfl
theorem Zij {α:Type}:∀ {rows rows2:List (Option Nat×Nat)} {m m2:List (List α)},rows.length=m.length→Zf (rows++rows2) (m++m2)=Zf rows m++Zf rows2 m2
 | [],_,[],_,_=>rfl
 | p :: ps,rows2,r :: rs,m2,h=>by
  have:=Zij (rows:=ps) (rows2:=rows2) (m:=rs) (m2:=m2) (by simpa using h)
  simp[Zf,this]
 | [],_,_ :: _,_,h=>by cases h
 | _ :: _,_,[],_,h=>by cases h
theorem ZTj {v:Za} {ty:TypeId} {t:T}:∀ {rows rows2:List (Option Nat×Nat)} {m m2:List (List t.den)} {es es2:List Loc},ZD v ty t rows m es→ZD v ty t rows2 m2 es2→ZD v ty t (rows++rows2) (m++m2) (es++es2)
 | [],_,[],_,es,_,h,k=>by rw[show es=[] from h];exact k
 | p :: ps,rows2,r :: rs,m2,es,es2,⟨cs,es',h1,h2,h3⟩,k=>by
  subst h2
  exact⟨cs,es'++es2,h1,rfl,ZTj h3 k⟩
 | [],_,_ :: _,_,_,_,h,_=>h.elim
 | _ :: _,_,[],_,_,_,h,_=>h.elim
theorem Zxk {v:Za} {ty:TypeId} {t:T} {rows:List (Option Nat×Nat)} {m:List (List t.den)} {es:List Loc} {i:Nat} {p:Option Nat×Nat} {r:List t.den} (h:ZD v ty t rows m es) (hp:rows[i]? = some p) (hr:m[i]? = some r) :
  ∃ cs e1 e2,es=e1 ++ .own p.1 ty t.n r.length p.2 cs :: e2∧e1.length=i∧t.rep.rels v cs r:=by
 obtain⟨k1,k2,k3⟩:=ZEc.1 h;obtain⟨cs,q1,q2⟩:=k3 i p r hp hr;have hlt:=(List.getElem?_eq_some_iff.1 q2).1;refine⟨cs,es.take i,es.drop (i+1),?_,by simp;omega,q1⟩;rw[← (List.getElem?_eq_some_iff.1 q2).2,← List.drop_eq_getElem_cons hlt,List.take_append_drop]
section
variable {P:Program} {N:Nat} {G:V→Value→Prop} {w0:Base} {v0:Za} {U X:Nat→Prop} {f:Fr} {l:Lo} {a:Act} {w:World} {γ:Nat→Gh} {v:Za} {ℓ:List Loc} {n:Nat}
variable {ty:TypeId} {pos:String} {aft:Array Edge} {g:Option (Nat×Bool)}
theorem ZBe (hr:RelX N G w0 v0 U X f l a w γ v ℓ) (hU:∀ k,U k→X k) (hX:X n) (hn:¬ U n) {e e2:TypeId} {s:T} {m:List (List s.den)} {rows:List (Option Nat×Nat)} {o:Oper} {ob:Option Nat} {cap:Nat} {w':World} {es ℓ':List Loc} {E:List (List Loc)} {Post:Unit→Fr→Lo→Prop} (hd:∀ k,o.dst=some k→k<N) (hE:F2 (ZF v γ l) l E) (hℓ:ℓ'=E.flatten)
  (hR:ZD v e2 s rows m es) (hst:St N w0 v0 [] (.own ob e 1 m.length cap (Zf rows m) :: es++ℓ') v a w') (hrun:(execOp a.eval o).run P w = .ok (.value (.slice (mkA ob) m.length cap)) w') (h:Zc n (Ev.new n (.mat e e2 s m n) (ret o (.own n))) f l Post):Zz P N G w0 v0 X o a w Post:=by
 obtain⟨hnew,h⟩:=h;have hr':=hr.new (γ':=Z4 γ n (.mat ob cap rows)) (L':=.mat e e2 s m n) hX hX hn hnew hE hst (Za.le_refl _) (λ_ h=>Zba h) ⟨ob,cap,rows,es,ZN,hR,rfl⟩ (by rw[hℓ]) hX;refine fin (x:=.own n) (hr'.mono hU λ_ h=>h) hrun hd hX ⟨[_],⟨_,rfl,by cases ob <;> rfl,λe' he'=>?_⟩,rfl⟩ hX h;rw[Zm,iP rfl]at he';cases he';exact⟨_,_,_,ZN,rfl⟩
theorem RelX.take (hr:RelX N G w0 v0 U X f l a w γ v ℓ) (hX:X n) (hn:¬ U n) {u st hv i:Nat} {ty0 ty2:TypeId} {t:T} {m:List (List t.den)} {r:List t.den} (he:lkE l u=some ⟨u,st,.mat ty0 ty2 t m hv⟩) {ob:Option Nat} {cap:Nat} {rows:List (Option Nat×Nat)} {p:Option Nat×Nat} (hγ:γ u = .mat ob cap rows) (hp:rows[i]? = some p) (hm:m[i]? = some r) :
  ∃ cs ℓ' E',t.rep.rels v cs r∧RelX N G w0 v0 U X f (⟨u,n,.mid ty0 ty2 t m hv (.hol i)⟩ :: era l u) a w γ v ℓ'∧F2 (ZF v γ (⟨u,n,.mid ty0 ty2 t m hv (.hol i)⟩ :: era l u)) (⟨u,n,.mid ty0 ty2 t m hv (.hol i)⟩ :: era l u) E'∧ℓ'=E'.flatten∧St N w0 v0 [] (.own p.1 ty2 t.n r.length p.2 cs :: ℓ') v a w:=by
 obtain⟨es,E',h1,h2,_,h3,_⟩:=hr.del he;obtain⟨ob',cap',rows',es3,f1,f2,rfl⟩:=h1;have f1:γ u = .mat ob' cap' rows':=f1;rw[hγ]at f1;cases f1;obtain⟨cs,e1,e2,k1,k2,k3⟩:=Zxk f2 hp hm;subst k1;have hs:St N w0 v0 [] (.own p.1 ty2 t.n r.length p.2 cs :: (.own ob ty0 1 m.length cap (Zf rows m) :: (e1++e2)++E'.flatten)) v a w:=by
  refine hr.st.perm (h3.trans ?_);simp only[List.cons_append,aA];exact (List.Perm.cons _ List.perm_middle).trans (List.Perm.swap _ _ _)
 have hle:Le U v γ l v γ (⟨u,n,.mid ty0 ty2 t m hv (.hol i)⟩ :: era l u):=Le.upd hr he (Za.le_refl _) (λ_ _=>rfl) ⟨rfl,rfl,⟨_,_,_,_,hγ,hγ,λ_=>⟨rfl,rfl,rfl⟩⟩,λe=>absurd e hn⟩;have hrl:ZF v γ (⟨u,n,.mid ty0 ty2 t m hv (.hol i)⟩ :: era l u) ⟨u,n,.mid ty0 ty2 t m hv (.hol i)⟩ (.own ob ty0 1 m.length cap (Zf rows m) :: (e1++e2)):=⟨ob,cap,rows,_,_,_,hγ,f2,⟨rfl,e1,_,e2,rfl,k2,rfl⟩,rfl⟩;have r2:=hr.upd hX (hr.ul _ (Ze he).1).1 h2 (hs.drop (List.sublist_cons_self _ _)) hle (λ_ _=>rfl) hrl (List.Perm.refl _) (hr.ul _ (Ze he).1).2.2;obtain⟨E2,hE2,hp2⟩:=r2.lr;exact⟨cs,E2.flatten,E2,k3,⟨r2.st.perm hp2,r2.fr,⟨E2,hE2,List.Perm.refl _⟩,r2.nd,r2.uf,r2.ul,r2.gh⟩,hE2,rfl,hs.perm (List.Perm.cons _ hp2)⟩
end
end Go.Eng
namespace Go.Eng
open Go.RowKit
theorem Z9b {cs r:List Value} (h:zSl cs=some r):cs = .slice none 0 0 :: r:=by
 unfold zSl at h;split at h
 ·cases h;rfl
 ·cases h
theorem Zmi {v:Za}:∀ {t:T} {cs r:List Value} {x:t.den},zOK t cs=some r→Zuc t=some x→∃ c1,cs=c1++r∧t.rep.rel v c1 x:=by
 intro t
 induction t with
 | int k =>
  intro cs r x h hx;unfold zOK at h
  cases hx
  split at h <;> try (cases h;done)
  all_goals (rename_i heq;cases heq)
  rename_i k' n rest;split at h
  ·rename_i hk
   cases h
   have:=ZJa hk;subst this;exact⟨[_],rfl,rfl,by cases k <;> decide⟩
  ·cases h
 | bool =>
  intro cs r x h hx;unfold zOK at h
  cases hx
  split at h <;> try (cases h;done)
  all_goals (rename_i heq;cases heq)
  cases h
  exact⟨[_],rfl,rfl⟩
 | flt k =>
  intro cs r x h hx;unfold zOK at h
  cases hx
  split at h <;> try (cases h;done)
  all_goals (rename_i heq;cases heq)
  split at h
  ·rename_i hk
   cases h
   have:=Zgi hk;subst this;exact⟨[_],rfl,rfl,by decide⟩
  ·cases h
 | str =>
  intro cs r x h hx;unfold zOK at h
  cases hx
  split at h <;> try (cases h;done)
  all_goals (rename_i heq;cases heq)
  rename_i s rest;split at h
  ·rename_i hs
   cases h
   refine⟨[_],rfl,?_,by show ([]:List UInt8).length≤maxLen;exact Nat.zero_le _⟩;have:s=Zg []:=by
    cases s with
    | mk d=>show _=ByteArray.mk _;congr 1;exact Array.ext' hs
   rw[this]
  ·cases h
 | one a ih =>
  intro cs r x h hx;simp only[zOK]at h;obtain⟨c1,h1,h2⟩:=ih h hx;exact⟨c1,h1,h2⟩
 | pair a b ia ib =>
  intro cs r x h hx;simp only[zOK]at h;simp only[Zuc]at hx;split at hx
  ·rename_i x1 x2 hx1 hx2
   cases hx
   split at h
   ·rename_i r1 hr1;obtain⟨c1,h1,h2⟩:=ia hr1 hx1;obtain⟨c2,h3,h4⟩:=ib h hx2;exact⟨c1++c2,by rw[h1,h3,aA],c1,c2,rfl,h2,h4⟩
   ·cases h
  ·cases hx
 | ptr a _=>intro cs r x h hx;cases hx
 | slice a _ =>
  intro cs r x h hx
  cases hx
  simp only[zOK]at h;exact⟨[_],Z9b h,ZTd _ _⟩
 | leaf i =>
  intro cs r x h hx;unfold zOK at h;split at h <;> try (cases h;done)
  all_goals (rename_i heq;cases heq)
  ·cases h;cases hx;exact⟨[_],rfl,rfl⟩
  ·cases hx;exact⟨[_],Z9b h,ZZe _⟩
  ·cases hx;exact⟨[_],Z9b h,ZEe _⟩
  ·cases hx;rw[Z9b h];exact⟨[_,_],rfl,ZVh _⟩
  ·cases hx
   split at h
   ·rename_i r1 hr1;rw[Z9b hr1,Z9b h];exact⟨[_,_,_],rfl,Zjk _⟩
   ·cases h
section
variable {P:Program} {N:Nat} {G:V→Value→Prop} {w0:Base} {v0:Za} {U X:Nat→Prop} {f:Fr} {l:Lo} {a:Act} {w:World} {γ:Nat→Gh} {v:Za} {ℓ:List Loc} {n:Nat}
variable {ty:TypeId} {pos:String} {aft:Array Edge} {g:Option (Nat×Bool)}
theorem Z0d {t:T} {cs r:List Value} {z:V} (h:Zrc t cs=some (z,r)):∃ c1,cs=c1++r∧RR v γ l false z c1∧z.ok U∧c1.all plain=true:=by
 unfold Zrc at h;split at h
 ·rename_i x r' hx hr
  cases h
  obtain⟨c1,h1,h2⟩:=Zmi (v:=v) hr hx;exact⟨c1,h1,h2,trivial,Rep.flat _ h2⟩
 ·cases h
theorem Z4g {F:TypeId→List Value→Option (V×List Value)} (hF:∀ t cs z r,F t cs=some (z,r)→∃ c1,cs=c1++r∧RR v γ l false z c1∧z.ok U∧c1.all plain=true) :
  ∀ {fs:List Field} {cs r:List Value} {z:V},Zre F fs cs=some (z,r)→∃ c1,cs=c1++r∧RR v γ l false z c1∧z.ok U∧c1.all plain=true
 | [],cs,r,z,h=>by cases h;exact⟨[],rfl,rfl,trivial,rfl⟩
 | x :: fs,cs,r,z,h=>by
  simp only[Zre]at h
  split at h
  ·rename_i y cs1 hy
   split at h
   ·rename_i c cs2 hc
    cases h
    obtain⟨c1,h1,h2,h3,h4⟩:=hF _ _ _ _ hy
    obtain⟨c2,k1,k2,k3,k4⟩:=Z4g hF hc
    exact⟨c1++c2,by rw[h1,k1,aA],⟨c1,c2,rfl,h2,k2⟩,⟨h3,k3⟩,by rw[List.all_append,h4,k4];rfl⟩
   ·cases h
  ·cases h
theorem Z0h {F:List Value→Option (V×List Value)} (hF:∀ cs z r,F cs=some (z,r)→∃ c1,cs=c1++r∧RR v γ l false z c1∧z.ok U∧c1.all plain=true):∀ {k:Nat} {cs r:List Value} {c:V},zRep F k cs=some (c,r)→∃ c1,cs=c1++r∧RR v γ l false c c1∧c.ok U∧c1.all plain=true
 | 0,cs,r,c,h=>by cases h;exact⟨[],rfl,rfl,trivial,rfl⟩
 | k+1,cs,r,c,h=>by
  simp only[zRep]at h
  split at h
  ·rename_i x cs1 hx
   split at h
   ·rename_i c' cs2 hc
    cases h
    obtain⟨c1,rfl,h2,h3,h4⟩:=hF _ _ _ hx
    obtain⟨c2,rfl,k2,k3,k4⟩:=Z0h hF hc
    exact⟨c1++c2,by simp,⟨c1,c2,rfl,h2,k2⟩,⟨h3,k3⟩,by rw[List.all_append,h4,k4];rfl⟩
   ·cases h
  ·cases h
theorem Zrf {C:Cf}:∀ (g:Nat) {t:TypeId} {cs r:List Value} {z:V},Znd C g t cs=some (z,r)→∃ c1,cs=c1++r∧RR v γ l false z c1∧z.ok U∧c1.all plain=true
 | 0,_,_,_,_,h=>by cases h
 | g+1,t,cs,r,z,h=>by
  simp only[Znd]at h
  split at h
  ·split at h
   ·cases h
    exact⟨[_,_,_],rfl,⟨[_],[_,_],rfl,rfl,[_],[_],rfl,ZEe _,[_],[],rfl,ZEe _,rfl⟩,⟨trivial,trivial,trivial,trivial⟩,rfl⟩
   ·cases h
  ·exact Z0d h
  ·split at h
   ·exact Z0d h
   ·exact Z0d h
   ·exact Z0d h
   ·exact Z0d h
   ·split at h
    ·rename_i r' hr
     cases h
     exact⟨[_],Z9b hr,rfl,trivial,rfl⟩
    ·cases h
   ·split at h
    ·rename_i c r' hc
     cases h
     obtain⟨c1,h1,h2,h3,h4⟩:=Z4g (λt cs z r h=>Zrf g h) hc
     exact⟨c1,h1,h2,h3,h4⟩
    ·cases h
   ·split at h
    ·rename_i c r' hc
     cases h
     obtain⟨c1,h1,h2,h3,h4⟩:=Z0h (λcs z r h=>Zrf g h) hc
     exact⟨c1,h1,h2,h3,h4⟩
    ·cases h
   ·cases h
theorem Zwg {C:Cf} {t:TypeId} {z:V} (h:Zcf C t=some z):∃ y cs,(∀ w,(zeroValue t).run C.P w = .ok y w)∧y.cells=cs.toArray∧RR v γ l false z cs∧z.ok U∧cs.all plain=true:=by
 unfold Zcf at h;split at h
 ·rename_i i hi;split at h
  ·rename_i y hy;split at h
   ·rename_i x hx
    cases h
    obtain⟨c1,h1,h2,h3,h4⟩:=Zrf (v:=v) (γ:=γ) (l:=l) (U:=U) FU hx;rw[List.append_nil]at h1;refine⟨y,c1,λw=>by simp[zeroValue,typeInfo,hi,hy],by rw[← h1],h2,h3,h4⟩
   ·cases h
  ·cases h
 ·cases h
theorem Zgh (hr:RelX N G w0 v0 U X f l a w γ v ℓ) (hU:∀ k,U k→X k) (hX:X n) (hn:¬ U n) {t:TypeId} {o:Oper} {c:V} {cs:List Value} {Post:Unit→Fr→Lo→Prop} (hd:∀ k,o.dst=some k→k<N) (hc:RR v γ l false c cs) (hk:c.ok U) (hp:cs.all plain=true)
  (hrun:(execOp a.eval o).run P w = .ok (.value (.pointer (some ⟨w.heap.size,0,none⟩))) (w.alloc (.cells cs.toArray t))) (h:Zc n (Ev.new n (.box t c) (ret o (.ptr n 0))) f l Post):Zz P N G w0 v0 X o a w Post:=by
 obtain⟨hnew,h⟩:=h;obtain⟨E,hE,hpm⟩:=hr.lr;have hst:=(hr.st.perm hpm).newLoc (.cells cs.toArray t) (e:=.box w.heap.size t cs) rfl (heap_alloc_new w _);have hle:Le U v γ l v (Z4 γ n (.box w.heap.size)) (⟨n,n,.box t c⟩ :: l):=⟨Za.le_refl _,λk e' hk he=>by
  have hne:n≠k:=λe=>hn (e ▸ hk);rw[Zm,iN hne]at he;refine⟨e',he,?_⟩;obtain⟨hm,hk'⟩:=Ze he;obtain⟨es,hrr⟩:=Zsb hE hm;have:=ZFc (U:=U) (γ':=Z4 γ n (.box w.heap.size)) hrr (Zba (by rw[hk'];exact λe=>hne e.symm));rw[hk']at this;exact this⟩
 have hr':=hr.new (γ':=Z4 γ n (.box w.heap.size)) (L':=.box t c) hX hX hn hnew hE hst (Za.le_refl _) (λ_ h=>Zba h) ⟨_,cs,ZN,Z7 hle hk hc,hp,rfl⟩ (List.Perm.refl _) hk;refine fin (x:=.ptr n 0) (hr'.mono hU λ_ h=>h) hrun hd hX ⟨[_],⟨_,rfl,Zjb,λe' he'=>?_⟩,rfl⟩ hX h;rw[Zm,iP rfl]at he';cases he';exact⟨_,ZN,rfl⟩
theorem ZJc (hr:RelX N G w0 v0 U X f l a w γ v ℓ) (hU:∀ k,U k→X k) (hX:X n) (hn:¬ U n) {e:TypeId} {s:T} {xs:List s.den} {o:Oper} {ob:Option Nat} {cap:Nat} {cs:List Value} {w':World} {ℓ':List Loc} {E:List (List Loc)} {Post:Unit→Fr→Lo→Prop} (hd:∀ k,o.dst=some k→k<N) (hE:F2 (ZF v γ l) l E) (hℓ:ℓ'=E.flatten)
  (hst:St N w0 v0 [] (.own ob e s.n xs.length cap cs :: ℓ') v a w') (hc:s.rep.rels v cs xs) (hrun:(execOp a.eval o).run P w = .ok (.value (.slice (mkA ob) xs.length cap)) w') (h:Zc n (Ev.new n (.own e s xs false) (ret o (.own n))) f l Post):Zz P N G w0 v0 X o a w Post:=by
 obtain⟨hnew,h⟩:=h;have hr':=hr.new (γ':=Z4 γ n (.own ob cap)) (L':=.own e s xs false) hX hX hn hnew hE hst (Za.le_refl _) (λ_ h=>Zba h) ⟨ob,cap,cs,ZN,hc,rfl⟩ (by rw[hℓ];exact List.Perm.refl _) trivial;refine fin (x:=.own n) (hr'.mono hU λ_ h=>h) hrun hd hX ⟨[_],⟨_,rfl,by cases ob <;> rfl,λe' he'=>?_⟩,rfl⟩ hX h;rw[Zm,iP rfl]at he';cases he';exact⟨_,_,ZN,rfl⟩
theorem Zzf {t:TypeId} {q:EI} (h:Zxc P t=some q):Elem P t q.e q.sz q.by_ q.z∧0<q.by_:=by
 unfold Zxc at h;split at h
 ·rename_i e he;split at h
  ·rename_i i hi;split at h
   ·rename_i z hz;split at h
    ·rename_i h1 h2 h3
     cases h
     have h1:=eQ h1;have h2:1≤i.size:=lB h2;have h3:1≤i.bytes:=lB h3;exact⟨⟨he,by simp[hi,hz],by simpa using h1,h2⟩,h3⟩
    ·cases h
   ·cases h
  ·cases h
 ·cases h
theorem Zrh {ρ:Type} {g:Nat} {s:T} {c:V} {k:List s.den→Ev ρ} {Post:ρ→Fr→Lo→Prop} (h:Zc n (conv g (.slice s) (.agg c) k) f l Post):False:=by
 cases g with
 | zero=>exact h
 | succ g =>
  cases c with
  | cons x1 c =>
   cases c with
   | cons x2 r=>simp only[conv]at h;exact h
   | nl=>simp only[conv]at h;exact h
   | _=>simp only[conv]at h;exact h
  | _=>simp only[conv]at h;exact h
theorem Zkg {ρ:Type} {g:Nat} {s:T} {x:V} {k:List s.den→Ev ρ} {Post:ρ→Fr→Lo→Prop} (h:Zc n (conv g (.slice s) x k) f l Post):x.isAgg=false∧∀ c,x ≠ .tup c:=by
 cases x with
 | agg c=>exact (Zrh h).elim
 | tup c =>
  cases g with
  | zero=>exact h.elim
  | succ g=>simp only[conv]at h;exact h.elim
 | data t x =>
  refine⟨?_,λc e=>by cases e⟩
  cases g with
  | zero=>exact h.elim
  | succ g =>
   simp only[conv]at h;split at h
   ·rename_i y hy;obtain⟨e,_⟩:=Zx hy;subst e;rfl
   ·split at h
    ·rfl
    ·rfl
    ·rfl
    ·rfl
    ·rfl
    ·split at h
     ·exact (Zrh h).elim
     ·exact h.elim
 | _=>exact⟨rfl,λc e=>by cases e⟩
theorem Zmc {x:V} {y:Value} (h:x.isAgg=false):x.val [y]=y:=by unfold V.val;rw[h];rfl
theorem Zqh {u2:Nat} {ty' ty2':TypeId} {s':T} {m':List (List s'.den)} {hv:Nat} {y:Operand} {st:Nat} (hq:RV v γ l (.own u2) (a.eval y)) (he:lkE l u2=some ⟨u2,st,.mat ty' ty2' s' m' hv⟩) {ob:Option Nat} {cap:Nat} {rows:List (Option Nat×Nat)} (q1:γ u2 = .mat ob cap rows):a.eval y = .slice (mkA ob) m'.length cap:=by
 obtain⟨yq,hyq0,_,hyq⟩:=Zy hq (λ_ e=>by cases e) rfl rfl;obtain⟨oq,cq,rq,gq1,gq2⟩:=hyq _ he;rw[q1]at gq1;cases gq1;exact ((List.cons.inj hyq0).1).trans gq2
theorem ZHj (hr:RelX N G w0 v0 U X f l a w γ v ℓ) (hU:∀ k,U k→X k) (hX:X n) (hn:¬ U n) {d:Option Nat} {t:TypeId} {x y:Operand} {o:Oper} {q:V} {pu:Option Nat} {ei:EI} {Post:Unit→Fr→Lo→Prop} (hE:Elem P t ei.e ei.sz ei.by_ ei.z) (hby:0<ei.by_) (ho:o=⟨d,.call ⟨.builtin .append,#[x,y],#[t,t]⟩,ty,pos,aft,g⟩) (hd:∀ k,o.dst=some k→k<N)
  (hp0:pu=none→a.eval x = .slice none 0 0) (hp1:∀ u,pu=some u→RV v γ l (.own u) (a.eval x)) (hq:RV v γ l q (a.eval y)) (h:Zc n (appM o n ei pu q) f l Post):Zz P N G w0 v0 X o a w Post:=by
 unfold appM at h;split at h
 ·rename_i u2;obtain⟨⟨k2,st2,L2⟩,he2,h⟩:=h;have hkk2:k2=u2:=(Ze he2).2;subst hkk2
  cases L2 with
  | mat ty' ty2' s' m' hv' =>
   simp only at h;obtain⟨es,E',h1,h2,h2',h3,r2⟩:=hr.del he2;obtain⟨ob2,cap2,rows2,es3,q1,q2,rfl⟩:=h1;have q1:γ k2 = .mat ob2 cap2 rows2:=q1;have hy0:=Zqh hq he2 q1;have hl2:=Zob (Zlc q2);have hs:=hr.st.perm h3
   cases pu with
   | none =>
    simp only at h;split at h
    ·rename_i b1 b2;have b1:=eQ b1;have b2:=eQ b2;obtain⟨_,hroom,h⟩:=h;obtain⟨v',hv,hs1,hrel⟩:=hs.pubSlice (i:=0) (A:=Znb) (l:=Zf rows2 m') rfl rfl hl2.symm (ZRf ZKf) rfl;have hs1:St N w0 v0 [] (es3++E'.flatten) v' a w:=hs1;obtain⟨σ,hσ,e1,e2⟩:=(hs1.nilLoc ei.e 1).ev2 x y;have hE':Elem P t ei.e Znb.n ei.by_ ei.z:=by rw[show Znb.n=ei.sz from b2.symm];exact hE
     obtain⟨b',cap',cs2,w',hrun,hst',hrel2⟩:=Zsc (ty:=ty) (A:=Znb) hE' hσ (i:=0) rfl hrel (n':=([]++m').length) (by simp) (Zbd hroom) hby;have hcs:=Zfg hrel2;subst hcs;rw[hp0 rfl]at e1;rw[hy0]at e2;have r3:=r2.go hv (hs1.drop (List.sublist_append_right _ _));obtain⟨E3,hE3,hp3⟩:=r3.lr;have hst':=hst'.bare;have hst3:St N w0 v0 [] (.own b' ty' 1 ([]++m').length cap' (Zf rows2 ([]++m')) :: es3++E3.flatten) v' a w':=by
      rw[← b1];exact hst'.perm (by simp only[List.set_cons_zero,List.cons_append];exact List.Perm.cons _ (List.Perm.append_left _ hp3))
     subst ho;exact ZBe r3 hU hX hn hd hE3 rfl (ZAa hv q2) hst3 (Ztc hσ e1 e2 hrun) h
    ·exact h.elim
   | some u =>
    simp only at h;split at h
    ·exact h.elim
    ·rename_i hne;have hne:u≠k2:=λe=>by subst e;simp at hne
     obtain⟨⟨k1,st1,L1⟩,he1,h⟩:=h;have hkk1:k1=u:=(Ze he1).2;subst hkk1
     cases L1 with
     | mat ty1 ty2 s m hv =>
      simp only at h;split at h
      ·rename_i m2 hm2 b1 b2 b3 b4;have b1:=eQ b1;have b2:=eQ b2;have b3:=eQ b3;have b4:=eQ b4;obtain⟨c3,c4⟩:=Zx hm2
       cases c3;cases c4
       subst b1 b2;obtain⟨_,hroom,h⟩:=h;have he1':lkE (era l k2) k1=some ⟨k1,st1,.mat ty1 ty2 _ m hv⟩:=by
        rw[Zxa hr.nd,iN (λe=>hne e.symm)];exact he1
       obtain⟨es1,E1,g1,g2,g2',g3,r3⟩:=r2.del he1';obtain⟨ob1,cap1,rows1,es4,p1,p2,rfl⟩:=g1;have p1:γ k1 = .mat ob1 cap1 rows1:=p1;have hx0:=Zqh (hp1 k1 rfl) he1 p1;have hl1:=Zlc p2;have hs:St N w0 v0 [] (.own ob2 ty1 1 m'.length cap2 (Zf rows2 m') :: (.own ob1 ty1 1 m.length cap1 (Zf rows1 m) :: (es4++es3++E1.flatten))) v a w:=by
        refine hs.perm ?_;simp only[List.cons_append];refine List.Perm.cons _ ((List.Perm.append_left _ g3).trans ?_);simp only[List.cons_append];refine List.perm_middle.trans (List.Perm.cons _ ?_);rw[← aA];exact List.Perm.append_right _ List.perm_append_comm
       obtain⟨v',hv,hs1,hrel⟩:=hs.pubSlice (i:=0) (A:=Znb) (l:=Zf rows2 m') rfl rfl hl2.symm (ZRf ZKf) rfl;have hs1:St N w0 v0 [] (.own ob1 ty1 1 m.length cap1 (Zf rows1 m) :: (es4++es3++E1.flatten)) v' a w:=hs1;obtain⟨σ,hσ,e1,e2⟩:=hs1.ev2 x y;have hE':Elem P t ty1 Znb.n ei.by_ ei.z:=by rw[show Znb.n=ei.sz from b4.symm,← b3];exact hE
       obtain⟨b',cap',cs2,w',hrun,hst',hrel2⟩:=Zsc (ty:=ty) (A:=Znb) hE' hσ (i:=0) rfl hrel (n':=(m++m').length) (by simp) (Zbd hroom) hby;have hcs:=Zfg hrel2;subst hcs;rw[hx0]at e1;rw[hy0]at e2;have r4:=r3.go hv (hs1.drop ((List.sublist_append_right _ _).trans (List.sublist_cons_self _ _)));obtain⟨E3,hE3,hp3⟩:=r4.lr;have hst':=hst'.bare;have hst3:St N w0 v0 [] (.own b' ty1 1 (m++m').length cap' (Zf (rows1++rows2) (m++m')) :: (es4++es3)++E3.flatten) v' a w':=by
        rw[Zij hl1];exact hst'.perm (by simp only[List.set_cons_zero,List.cons_append];exact List.Perm.cons _ (List.Perm.append_left _ hp3))
       subst ho;exact ZBe r4 hU hX hn hd hE3 rfl (ZTj (ZAa hv p2) (ZAa hv q2)) hst3 (Ztc hσ e1 e2 hrun) h
      ·exact h.elim
     | box _ _=>exact h.elim
     | own _ _ _ _=>exact h.elim
     | mid _ _ _ _ _ _=>exact h.elim
     | mp _=>exact h.elim
  | box _ _=>exact h.elim
  | own _ _ _ _=>exact h.elim
  | mid _ _ _ _ _ _=>exact h.elim
  | mp _=>exact h.elim
 ·exact h.elim
theorem ZEm (hr:RelX N G w0 v0 U X f l a w γ v ℓ) (hU:∀ k,U k→X k) (hX:X n) (hn:¬ U n) {d:Option Nat} {t:TypeId} {x:Operand} {o:Oper} {p:V} {Post:Unit→Fr→Lo→Prop} (ho:o=⟨d,.load t x,ty,pos,aft,g⟩) (hd:∀ k,o.dst=some k→k<N) (hp:RV v γ l p (a.eval x))
  (h:Zc n (takeE P o n t p) f l Post):Zz P N G w0 v0 X o a w Post:=by
 unfold takeE at h;split at h
 ·exact h.elim
 ·rename_i q hq;split at h
  ·rename_i u i hv cv e r hag;obtain⟨⟨kk,st,L⟩,he,h⟩:=h;have hkk:kk=u:=(Ze he).2;subst hkk;obtain⟨y,hy0,_,hy⟩:=Zy hp (λ_ e=>by cases e) rfl rfl;have hy0:a.eval x=y:=(List.cons.inj hy0).1;have hy:=hy _ he
   cases L with
   | mat ty0 ty2 s' m hv' =>
    simp only at h;split at h
    ·rename_i z b1 b2 hz;have b1:=eQ b1;have b2:=eQ b2;subst b1 b2;obtain⟨c3,c4⟩:=Zx hz
     cases c3;cases c4
     obtain⟨b,cap,rows,g1,rfl,g3,g4⟩:=hy;obtain⟨m',c1,c2⟩:=g4 rfl;obtain⟨c5,c6⟩:=Zx c1
     cases c5;cases c6
     obtain⟨hkk,es,hes,hmem⟩:=hr.loc he;obtain⟨ob,cap',rows',es2,q1,q2,rfl⟩:=hes;have q1:γ kk = .mat ob cap' rows':=q1;rw[g1]at q1;cases q1;obtain⟨p,cs,r1,r2,r3⟩:=ZRb q2 c2;obtain⟨j,hj⟩:=hmem _ List.mem_cons_self;have hh:=Zsd r1 c2;have hw:WAt w b (0+i*1) [.slice (mkA p.1) r.length p.2]:=by
      have hx:((Zf rows m).drop (i*1)).take 1=[.slice (mkA p.1) r.length p.2]:=by
       have hlt:=(List.getElem?_eq_some_iff.1 hh).1;rw[Nat.mul_one,List.drop_eq_getElem_cons hlt];simp[(List.getElem?_eq_some_iff.1 hh).2]
      have:=Z5b hr.st hj hx g3 0 [.slice (mkA p.1) r.length p.2] rfl (by simp)
      simpa using this
     obtain⟨cs2,ℓ2,E2,k1,r4,k2,k3,hst⟩:=hr.take hX hn he g1 r1 c2;obtain⟨σ,hs',e1⟩:=hr.st.ev1 x;rw[hy0]at e1;have ht:=ZMb hq;rw[hag]at ht;subst ho;exact ZJc r4 hU hX hn hd k2 k3 hst k1 (Zxe hs' e1 ht hw) h
    ·exact h.elim
   | box _ _=>exact h.elim
   | own _ _ _ _=>exact h.elim
   | mid _ _ _ _ _ _=>exact h.elim
   | mp _=>exact h.elim
  ·exact h.elim
theorem appE_ok {C:Cf} (hr:RelX N G w0 v0 U X f l a w γ v ℓ) (hU:∀ k,U k→X k) (hX:X n) (hn:¬ U n) {d:Option Nat} {t:TypeId} {x y:Operand} {o:Oper} {p q:V} {Post:Unit→Fr→Lo→Prop} (ho:o=⟨d,.call ⟨.builtin .append,#[x,y],#[t,t]⟩,ty,pos,aft,g⟩) (hd:∀ k,o.dst=some k→k<N) (hp:RV v γ l p (a.eval x)) (hq:RV v γ l q (a.eval y)) (hk:p.ok U) (hkq:q.ok U)
  (h:Zc n (appE C o n t p q) f l Post):Zz C.P N G w0 v0 X o a w Post:=by
 unfold appE at h;split at h
 ·exact h.elim
 ·rename_i ei hei;obtain⟨hE,hby⟩:=Zzf hei;split at h
  ·rename_i u;obtain⟨en,he,h⟩:=h;obtain⟨k0,st0,L⟩:=en
   cases L with
   | own ty0 s xs0 fz0 =>
    obtain⟨ys,l1,γ1,v1,ℓ1,hB,r1,le1,q1⟩:=Z3a hn hX FU h hr hkq;obtain⟨en,he1,hC⟩:=hB;have hp1:=ZX le1 hk hp;obtain⟨yy,hy0,_,hy⟩:=Zy hp1 (λ_ e=>by cases e) rfl rfl;have hy0:a.eval x=yy:=(List.cons.inj hy0).1;have hy:=hy en he1;obtain⟨kk,st,L⟩:=en;obtain⟨hm,hkk⟩:=Ze he1;have hkk:kk=u:=hkk;subst hkk
    cases L with
    | own ty1 s' xs fz =>
     cases fz with
     | true=>exact hC.elim
     | false =>
      simp only at hC;split at hC
      ·rename_i ys' hys ht hs;obtain⟨c3,c4⟩:=Zx hys
       cases c3;cases c4
       have ht:=eQ ht;have hs:=eQ hs;obtain⟨_,hroom,hC⟩:=hC;obtain⟨ob,cap,g1,rfl⟩:=hy;obtain⟨es,E',h1,_,h2,h3,r2⟩:=r1.del he1;obtain⟨ob',cap',cs,f1,f2,rfl⟩:=h1;have f1:γ1 kk = .own ob' cap':=f1;rw[g1]at f1;cases f1;have hst:=r1.st.perm h3;obtain⟨σ,hσ,e1,e2⟩:=hst.ev2 x y;obtain⟨hq1,hq2⟩:=Zkg h;obtain⟨csq,hcq,hqe⟩:=Z3 hq hq2;have hcq':(Zo s.rep).rel v1 csq ys:=q1 _ hcq;obtain⟨qa,m,c,rfl⟩:=ZYb hcq';rw[Zmc hq1]at hqe;have hml:m=ys.length:=by obtain⟨_,_,e,_⟩:=hcq';cases e;rfl
       have hE':Elem C.P t ty1 s.rep.n ei.by_ ei.z:=by rw[Zn,← hs,← ht];exact hE
       have hσ':St N w0 v0 σ (.own ob ty1 s.rep.n xs.length cap cs :: E'.flatten) v1 a w:=by rw[Zn];exact hσ
       obtain⟨b',cap',cs2,w',hrun,hst',hrel⟩:=Zsc (ty:=ty) (A:=s.rep) hE' hσ' (i:=0) rfl hcq' (n':=(xs++(show List s.den from ys)).length) (by rw[lA,hml]) (Zbd hroom) hby;rw[hy0]at e1;rw[hqe]at e2;have hst':=hst'.bare;rw[Zn]at hst';subst ho;exact ZJc r2 hU hX hn hd h2 rfl hst' (ZBc f2 hrel) (Ztc hσ e1 e2 hrun) hC
      ·exact hC.elim
    | box _ _=>exact hC.elim
    | mid _ _ _ _ _ _=>exact hC.elim
    | mp _=>exact hC.elim
    | mat _ _ _ _ _=>exact hC.elim
   | box _ _=>exact h.elim
   | mid _ _ _ _ _ _=>exact h.elim
   | mp _=>exact h.elim
   | mat _ _ _ _ _=>exact ZHj hr hU hX hn hE hby ho hd (λe=>by cases e) (λu' e=>by cases e;exact hp) hq h
  · -- a row
   rename_i u i hv cv s r;obtain⟨ys,l1,γ1,v1,ℓ1,hB,r1,le1,q1⟩:=Z3a hn hX FU h hr hkq;obtain⟨⟨kk,st,L⟩,he1,hC⟩:=hB;have hkk:kk=u:=(Ze he1).2;subst hkk;have hp1:=ZX le1 hk hp;obtain⟨yy,hy0,_,hy⟩:=Zy hp1 (λ_ e=>by cases e) rfl rfl;have hy0:a.eval x=yy:=(List.cons.inj hy0).1;have hy:=hy _ he1
   cases L with
   | mat ty1 ty2 s' m hv' =>
    simp only at hC;split at hC
    ·rename_i z b1 b2 hz b3 b4;have b1:=eQ b1;have b2:=eQ b2;have b3:=eQ b3;have b4:=eQ b4;subst b1 b2;obtain⟨c3,c4⟩:=Zx hz
     cases c3;cases c4
     obtain⟨_,hroom,hC⟩:=hC;obtain⟨ob,cap,rows,obi,capi,g1,g2,rfl,_,g6⟩:=hy rfl;obtain⟨m',c1,c2⟩:=g6 rfl;obtain⟨c5,c6⟩:=Zx c1
     cases c5;cases c6
     obtain⟨cs,ℓ2,E2,k1,r2,k2,k3,hst⟩:=r1.take hX hn he1 g1 g2 c2;obtain⟨σ,hσ,e1,e2⟩:=hst.ev2 x y;obtain⟨hq1,hq2⟩:=Zkg h;obtain⟨csq,hcq,hqe⟩:=Z3 hq hq2;have hcq':(Zo s.rep).rel v1 csq ys:=q1 _ hcq;obtain⟨qa,mm,c,rfl⟩:=ZYb hcq';rw[Zmc hq1]at hqe;have hml:mm=ys.length:=by obtain⟨_,_,e,_⟩:=hcq';cases e;rfl
     have hE':Elem C.P t ty2 s.rep.n ei.by_ ei.z:=by rw[Zn,← b4,← b3];exact hE
     have hσ':St N w0 v0 σ (.own obi ty2 s.rep.n r.length capi cs :: ℓ2) v1 a w:=by rw[Zn];exact hσ
     obtain⟨b',cap',cs2,w',hrun,hst',hrel⟩:=Zsc (ty:=ty) (A:=s.rep) hE' hσ' (i:=0) rfl hcq' (n':=(r++(show List s.den from ys)).length) (by rw[lA,hml]) (Zbd hroom) hby;rw[hy0]at e1;rw[hqe]at e2;have hst':=hst'.bare;rw[Zn]at hst';subst ho;exact ZJc r2 hU hX hn hd k2 k3 hst' (ZBc k1 hrel) (Ztc hσ e1 e2 hrun) hC
    ·exact hC.elim
   | box _ _=>exact hC.elim
   | own _ _ _ _=>exact hC.elim
   | mid _ _ _ _ _ _=>exact hC.elim
   | mp _=>exact hC.elim
  ·split at h
   ·refine ZHj hr hU hX hn hE hby ho hd (λ_=>?_) (λu' e=>by cases e) hq h;obtain⟨cs,h1,h2⟩:=hp;have h1:cs=[.slice none 0 0]:=h1;subst h1;exact h2
   split at h
   ·rename_i s hs;split at h
    ·rename_i hsz;have hsz:=eQ hsz;obtain⟨ys,l1,γ1,v1,ℓ1,hB,r1,le1,q1⟩:=Z3a hn hX FU h hr hkq;obtain⟨_,hroom,hC⟩:=hB;obtain⟨E',h2,h3⟩:=r1.lr;have hx0:a.eval x = .slice none 0 0:=by
      obtain⟨cs,h1,h2⟩:=hp;have h1:cs=[.slice none 0 0]:=h1;subst h1;exact h2
     have hst:=(r1.st.perm h3).nilLoc ei.e s.rep.n;obtain⟨σ,hσ,e1,e2⟩:=hst.ev2 x y;obtain⟨hq1,hq2⟩:=Zkg h;obtain⟨csq,hcq,hqe⟩:=Z3 hq hq2;have hcq':(Zo s.rep).rel v1 csq ys:=q1 _ hcq;obtain⟨qa,m,c,rfl⟩:=ZYb hcq';rw[Zmc hq1]at hqe;have hml:m=ys.length:=by obtain⟨_,_,e,_⟩:=hcq';cases e;rfl
     have hE':Elem C.P t ei.e s.rep.n ei.by_ ei.z:=by rw[Zn,← hsz];exact hE
     obtain⟨b',cap',cs2,w',hrun,hst',hrel⟩:=Zsc (ty:=ty) (A:=s.rep) hE' hσ (i:=0) rfl hcq' (n':=(([]:List s.den)++(show List s.den from ys)).length) (by rw[lA,hml];rfl) (Zbd hroom) hby;rw[hx0]at e1;rw[hqe]at e2;have hst':=hst'.bare;rw[Zn]at hst';subst ho;exact ZJc r1 hU hX hn hd h2 rfl hst' (ZBc Zjd hrel) (Ztc hσ e1 e2 hrun) hC
    ·exact h.elim
   ·exact h.elim
  ·exact h.elim
end
end Go.Eng
namespace Go.Eng
open Go.RowKit
variable {P:Program} {K:Nat} {w0:Base} {v0:Za} {σ:List (Nat×Value)} {ℓ:List Loc} {v:Za} {a:Act} {w:World}
variable {d:Option Nat} {ty:TypeId} {pos:String} {aft:Array Edge} {g:Option (Nat×Bool)}
theorem Zvf (k:IntKind) (p q:Int):(Builtin.max2 (.int k p) (.int k q)).run P w = .ok (.int k (max p q)) w:=by
 simp only[Builtin.max2,Sem.run_pure];congr 2;by_cases h:q>p
 ·rw[iP h];omega
 ·rw[iN h];omega
theorem min2_eq (k:IntKind) (p q:Int):(Builtin.min2 (.int k p) (.int k q)).run P w = .ok (.int k (min p q)) w:=by
 simp only[Builtin.min2,Sem.run_pure];congr 2;by_cases h:q<p
 ·rw[iP h];omega
 ·rw[iN h];omega
theorem run_max (hS:St K w0 v0 σ ℓ v a w) {x y:Operand} {k:IntKind} {p q:Int} {ats:Array TypeId} (e:ev σ x=some (.int k p)) (e':ev σ y=some (.int k q)) :
  (execOp a.eval ⟨d,.call ⟨.builtin .max,#[x,y],ats⟩,ty,pos,aft,g⟩).run P w = .ok (.value (.int k (max p q))) w:=by
 simp[execOp,resolve,invoke,builtin,Builtin.max_,hS.eval e,hS.eval e',Zvf]
theorem run_min (hS:St K w0 v0 σ ℓ v a w) {x y:Operand} {k:IntKind} {p q:Int} {ats:Array TypeId} (e:ev σ x=some (.int k p)) (e':ev σ y=some (.int k q)) :
  (execOp a.eval ⟨d,.call ⟨.builtin .min,#[x,y],ats⟩,ty,pos,aft,g⟩).run P w = .ok (.value (.int k (min p q))) w:=by
 simp[execOp,resolve,invoke,builtin,Builtin.min_,hS.eval e,hS.eval e',min2_eq]
theorem ZGm (hS:St K w0 v0 σ ℓ v a w) {x y z:Operand} {k:IntKind} {p q r:Int} {ats:Array TypeId} (e:ev σ x=some (.int k p)) (e':ev σ y=some (.int k q)) (e2:ev σ z=some (.int k r)) :
  (execOp a.eval ⟨d,.call ⟨.builtin .max,#[x,y,z],ats⟩,ty,pos,aft,g⟩).run P w = .ok (.value (.int k (max (max p q) r))) w:=by
 simp[execOp,resolve,invoke,builtin,Builtin.max_,hS.eval e,hS.eval e',hS.eval e2,Zvf]
end Go.Eng
namespace Go.Eng
open Go.RowKit
section
variable {Q:Exit→Act→World→Prop} {a:Act} {w:World}
end
end Go.Eng
namespace Go.Eng
open Go.RowKit
theorem ZZk (off:Nat):∀ (l:List Value) (k:Nat) (acc:Array Value),off+k+l.length≤acc.size→(l.zipIdx k).foldl (λcs (c,j)=>cs.setIfInBounds (off+j) c) acc=(acc.toList.take (off+k)++l++acc.toList.drop (off+k+l.length)).toArray:=by
 intro l
 induction l with
 | nil=>intro k acc h;simp
 | cons y l ih =>
  intro k acc h;simp only[List.zipIdx_cons,List.foldl_cons];rw[ih (k+1) _ (by simp at h ⊢;omega)];congr 1;simp only[Array.toList_setIfInBounds];simp only[List.length_cons]at h;have hlt:off+k<acc.toList.length:=by simp;omega
  rw[List.take_set,List.drop_set_of_lt (by omega)];rw[List.set_eq_take_append_cons_drop,iP (by simp;simp at hlt;omega)];rw[List.take_take,Nat.min_eq_left (by omega)];have e1:((acc.toList.take (off+(k+1))).drop (off+k+1))=[]:=List.drop_of_length_le (by simp;omega);rw[e1];simp;congr 1;omega
theorem Zug {place:Nat→Option (Nat×Nat)} {cells:Array Value} {i:Nat} {x:Value} {cs:List Value} {rest:List (Nat×Value)} {off:Nat} (hp:place i=some (off,cs.length)) (hx:x.cells=cs.toArray) (hc:off+cs.length≤cells.size) :
  Instr.fill place cells ((i,x) :: rest)=Instr.fill place (cells.toList.take off++cs++cells.toList.drop (off+cs.length)).toArray rest:=by
 have h1:¬ (x.cells.size≠cs.length || decide (off+x.cells.size>cells.size)):=by simp[hx,hc]
 conv=>lhs;unfold Instr.fill
 simp only[hp];rw[iN h1,hx];have:=ZZk off cs 0 cells (by omega);rw[← Array.foldl_toList];congr 1
 simpa using this
section
variable {P:Program} {N:Nat} {G:V→Value→Prop} {w0:Base} {v0:Za} {U X:Nat→Prop} {f:Fr} {l:Lo} {a:Act} {w:World} {γ:Nat→Gh} {v:Za} {ℓ:List Loc} {n:Nat}
variable {ty:TypeId} {pos:String} {aft:Array Edge} {g:Option (Nat×Bool)}
theorem Z8b {ρ:Type} (hr:RelX N G w0 v0 U X f l a w γ v ℓ):∀ {xs:List Operand} {k:V→Ev ρ} {Post:ρ→Fr→Lo→Prop},Zc n (ZFb xs k) f l Post→∃ c,RR v γ l true c (xs.map a.eval)∧c.ok U∧Zc n (k c) f l Post
 | [],k,Post,h=>⟨.nl,rfl,trivial,h⟩
 | x :: xs,k,Post,h=>by
  obtain⟨V',h1,h2,h3⟩:=Zj hr h
  have hnt:∀ c,V' ≠ .tup c:=λc e=>by subst e;exact h3.elim
  have h3':Zc n (ZFb xs λc=>k (.cons V' c)) f l Post:=by
   cases V' <;> first | exact h3 | exact h3.elim
  obtain⟨c,k1,k2,k3⟩:=Z8b hr h3';obtain⟨cs,q1,q2⟩:=Z3 h1 hnt;exact⟨.cons V' c,⟨cs,_,by rw[List.map_cons,q2],q1,k1⟩,⟨h2,k2⟩,k3⟩
theorem Zvm {ρ:Type} {g:Nat} {t:T} {x:V} {k:t.den→Ev ρ} {Post:ρ→Fr→Lo→Prop} (h:Zc n (conv g t x k) f l Post):x.isAgg=true∨x.isAgg=false∧x.size=1:=by
 cases x with
 | data s x =>
  cases ha:s.agg with
  | true=>exact .inl ha
  | false=>exact .inr ⟨ha,T_one ha⟩
 | nilS=>exact .inr ⟨rfl,rfl⟩
 | own u=>exact .inr ⟨rfl,rfl⟩
 | ptr u o=>exact .inr ⟨rfl,rfl⟩
 | agg c=>exact .inl rfl
 | _ =>
  cases g with
  | zero=>exact h.elim
  | succ g=>simp only[conv]at h;exact h.elim
theorem Zsm {x:V} {cs:List Value} (hf:x.isAgg=true∨x.isAgg=false∧x.size=1) (h:RR v γ l false x cs) (hp:cs.all plain=true):(x.val cs).cells=cs.toArray:=by
 rcases hf with ha | ⟨ha,hs⟩
 ·unfold V.val;rw[ha];rfl
 ·have e:=Z0c h hs ha;have hv:x.val cs=cs.headD undef:=by unfold V.val;rw[ha]
  rw[hv]at e ⊢;rw[e]at hp;have hp':plain (cs.headD undef)=true:=by simpa using hp
  have:=ZKc hp'
  conv=>rhs;rw[e]
  exact this
theorem Zum {ρ:Type} {t:T} (hn:¬ U n) (hX:X n):∀ {c:V} {k:List t.den→Ev ρ} {l:Lo} {γ:Nat→Gh} {v:Za} {ℓ:List Loc} {Post:ρ→Fr→Lo→Prop},Zc n (convS t c k) f l Post→RelX N G w0 v0 U X f l a w γ v ℓ→c.ok U →
  ∃ xs l' γ' v' ℓ',Zc n (k xs) f l' Post∧RelX N G w0 v0 U X f l' a w γ' v' ℓ'∧Le U v γ l v' γ' l'∧∀ vals,RR v γ l true c vals→∃ css:List (List Value),t.rep.rels v' css.flatten xs∧css.length=xs.length∧vals.map Value.cells=css.map List.toArray∧∀ cs ∈ css,cs.length=t.n:=by
 intro c
 induction c with
 | nl =>
  intro k l γ v ℓ Post h hr hk;obtain⟨E,hE,_⟩:=hr.lr;exact⟨[],l,γ,v,ℓ,h,hr,Le.refl hE (Za.le_refl _),λvals hv=>⟨[],rfl,rfl,by rw[show vals=[] from hv];rfl,λ_ h=>by cases h⟩⟩
 | cons x c _ ih =>
  intro k l γ v ℓ Post h hr hk;have hfit:=Zvm (n:=n) (f:=f) (l:=l) (g:=FU) (t:=t) (x:=x) h;obtain⟨y,l1,γ1,v1,ℓ1,h,r1,le1,q1⟩:=Z3a hn hX FU h hr hk.1;obtain⟨ys,l2,γ2,v2,ℓ2,h,r2,le2,q2⟩:=ih h r1 hk.2;refine⟨y :: ys,l2,γ2,v2,ℓ2,h,r2,le1.trans le2,λvals hv=>?_⟩;obtain⟨cs,vs,rfl,h1,h2⟩:=hv;have hrel:=q1 cs h1;obtain⟨css,k1,k2,k3,k4⟩:=q2 vs (Z7 le1 hk.2 h2);refine⟨cs :: css,⟨cs,css.flatten,rfl,Rep.mono _ le2.v hrel,k1⟩,by simp[k2],?_,λc hc=>?_⟩
  ·rw[List.map_cons,List.map_cons,k3,Zsm hfit h1 (Rep.flat _ hrel)]
  ·rcases List.mem_cons.1 hc with rfl | hc
   ·rw[Rep.len _ hrel,Zn]
   ·exact k4 c hc
 | _=>intro k l γ v ℓ Post h;exact h.elim
theorem ZMg {sz:Nat}:∀ (css:List (List Value)) (vals:List Value) (k:Nat) (cells:Array Value),vals.map Value.cells=css.map List.toArray→(∀ cs ∈ css,cs.length=sz)→cells.size=(k+css.length)*sz →
  Instr.fill (λi=>some (i*sz,sz)) cells (vals.zipIdx k |>.map λp=>(p.2,p.1))=some (cells.toList.take (k*sz)++css.flatten).toArray
 | [],[],k,cells,_,_,hc=>by
  simp only[List.length_nil,Nat.add_zero]at hc
  simp only[List.zipIdx_nil,List.map_nil,Instr.fill,List.flatten_nil,List.append_nil]
  rw[List.take_of_length_le (by simp[hc])]
 | cs :: css,x :: vals,k,cells,h,hs,hc=>by
  simp only[List.map_cons,List.cons.injEq]at h
  have hl:=hs cs (by simp)
  simp only[List.length_cons]at hc
  have hb:k*sz+sz+css.length*sz=cells.size:=by rw[hc,Nat.add_mul,Nat.succ_mul];omega
  simp only[List.zipIdx_cons,List.map_cons]
  rw[Zug (cs:=cs) (off:=k*sz) (by rw[hl]) h.1 (by omega)]
  rw[ZMg css vals (k+1) _ h.2 (λc hc=>hs c (by simp[hc])) (by
   simp only[List.size_toArray,lA,List.length_take,List.length_drop,Array.length_toList]
   rw[hl,Nat.min_eq_left (by omega),Nat.add_mul,Nat.succ_mul];omega)]
  congr 2
  have e1:(cells.toList.take (k*sz)).length=k*sz:=by simp;omega
  rw[List.flatten_cons,← aA,Nat.succ_mul]
  congr 1
  rw[List.take_append,List.take_of_length_le (by simp[hl];omega)]
  rw[show k*sz+sz-(cells.toList.take (k*sz)++cs).length=0 by rw[lA,e1,hl];omega]
  simp
 | [],_ :: _,_,_,h,_,_=>by simp at h
 | _ :: _,[],_,_,h,_,_=>by simp at h
theorem Zoh:∀ {ps:List (Nat×Operand)} {k:Nat},Zye k ps=true→ps.map (λp=>(p.1,a.eval p.2))=((ps.map λp=>a.eval p.2).zipIdx k).map λp=>(p.2,p.1)
 | [],_,_=>rfl
 | p :: ps,k,h=>by
  simp only[Zye]at h
  split at h
  ·rename_i hb
   have hb:=eQ hb
   simp only[List.map_cons,List.zipIdx_cons]
   rw[Zoh h,hb]
  ·cases h
theorem ZTf {t e:TypeId} {m sz:Nat} {inf:TypeInfo} {z:Value} {L:List (Nat×Value)} {cs:List Value} (ht:P.underlying t=some (.slice e)) (hi:P.info? e=some inf) (hz:inf.zero=some z) (hs:inf.size=sz) (hb:m*sz≤16777216)
  (hf:∀ zc:Array Value,Instr.fill (λi=>some (i*sz,sz)) ((Array.range (m*sz)).map (λi=>zc[i%zc.size]!)) L=some cs.toArray) (w:World):(Instr.buildSlice t m L.toArray).run P w = .ok (.slice (some ⟨w.heap.size,0,none⟩) m m) (w.alloc (.cells cs.toArray e)):=by
 subst hs;have hb:¬ (m*inf.size>2^24):=by omega
 unfold Instr.buildSlice;by_cases h0:m*inf.size=0
 ·have:=hf #[];simp only[h0]at this;simp[run_underlying ht,sizeOf,typeInfo,hi,h0] ; simp at this;simp[this,newRow]
 ·have:=hf z.cells;obtain⟨A,hA⟩:∃ A,A=(Array.range (m*inf.size)).map (λi=>z.cells[i%z.cells.size]!):=⟨_,rfl⟩;rw[← hA]at this;simp only[run_underlying ht,sizeOf,typeInfo,zeroValue];simp[run_underlying ht,typeInfo,hi,hz,h0,show ¬ (16777216<m*inf.size) by omega];rw[← hA,this];simp[newRow]
theorem Zlm {C:Cf} (hr:RelX N G w0 v0 U X f l a w γ v ℓ) (hU:∀ k,U k→X k) (hX:X n) (hn:¬ U n) {d:Option Nat} {t:TypeId} {m:Nat} {ps:Array (Nat×Operand)} {o:Oper} {Post:Unit→Fr→Lo→Prop} (ho:o=⟨d,.buildSlice t m ps,ty,pos,aft,g⟩) (hd:∀ k,o.dst=some k→k<N)
  (h:Zc n (Zp C n o) f l Post):Zz C.P N G w0 v0 X o a w Post:=by
 subst ho;simp only[Zp]at h;split at h
 ·rename_i q hq;obtain⟨hE,hby⟩:=Zzf hq;split at h
  ·split at h
   ·rename_i x hps hps2;have hps:=hps;obtain⟨V1,h1,hk1,h⟩:=Zj hr h;split at h
    ·rename_i u2 q2 _ hq2 _;obtain⟨⟨k2,st2,L2⟩,he2,h⟩:=h;have hkk2:k2=u2:=(Ze he2).2;subst hkk2
     cases L2 with
     | own ty2 s xs fz =>
      cases fz with
      | true=>exact h.elim
      | false =>
       simp only at h;split at h
       ·rename_i b1 b2 b3;have b3:=eQ b3;obtain⟨es,E',g1,g2,g2',g3,r2⟩:=hr.del he2;obtain⟨ob2,cap2,cs2,f1,f2,rfl⟩:=g1;have f1:γ k2 = .own ob2 cap2:=f1;have hy0:a.eval x = .slice (mkA ob2) xs.length cap2:=by
         obtain⟨yq,hyq0,_,hyq⟩:=Zy h1 (λ_ e=>by cases e) rfl rfl;obtain⟨oq,cq,gq1,gq2⟩:=hyq _ he2;rw[f1]at gq1;cases gq1;exact ((List.cons.inj hyq0).1).trans gq2
        have hcells:(Value.slice (mkA ob2) xs.length cap2).cells=[Value.slice (mkA ob2) xs.length cap2].toArray:=by cases ob2 <;> rfl
        have hz:∀ w,(Instr.buildSlice t 1 (ps.toList.map λp=>(p.1,a.eval p.2)).toArray).run C.P w = .ok (.slice (some ⟨w.heap.size,0,none⟩) 1 1) (w.alloc (.cells [Value.slice (mkA ob2) xs.length cap2].toArray q.e)):=by
         intro w;obtain⟨inf,hinf,hzz,hsz',hby'⟩:=info_parts hE.info;rw[hps,List.map_singleton];simp only[hy0];refine ZTf (sz:=1) hE.ty hinf hzz (hsz'.trans b3) (by decide) (λzc=>?_) w;have:=ZMg (sz:=1) [[Value.slice (mkA ob2) xs.length cap2]] [Value.slice (mkA ob2) xs.length cap2] 0 ((Array.range (1*1)).map (λi=>zc[i%zc.size]!)) (by simp[hcells]) (λcs hc=>by rw[List.mem_singleton.1 hc];rfl) (by simp)
         simpa using this
        have hst:=hr.st.perm g3;obtain⟨σ,hσ,hev⟩:=hst.evs (ps.toList.map (·.2));obtain⟨b,w',hrun,hst'⟩:=ZJf (P:=C.P) (t:=t) (e:=q.e) (sz:=1) hσ (by simp) (by decide) hz;have hev':ps.toList.map (λp=>(ev σ p.2).map λy=>(p.1,y))=(ps.toList.map λp=>(p.1,a.eval p.2)).map some:=by
         rw[List.map_map];refine List.map_congr_left λp hp=>?_;rw[hev p.2 (List.mem_map.2 ⟨p,hp,rfl⟩)];rfl
        exact ZBe (rows:=[(ob2,cap2)]) (m:=[xs]) r2 hU hX hn hd g2' rfl ⟨cs2,[],f2,rfl,rfl⟩ hst'.bare (hrun (d:=d) (ty:=ty) (pos:=pos) (aft:=aft) (g:=g) hev') h
       ·exact h.elim
     | box _ _=>exact h.elim
     | mat _ _ _ _ _=>exact h.elim
     | mid _ _ _ _ _ _=>exact h.elim
     | mp _=>exact h.elim
    ·exact h.elim
   ·exact h.elim
  split at h
  ·rename_i s hs ho hlen hbig;have hlen:=eQ hlen;have hbig:=lB hbig;split at h
   ·rename_i hsz;have hsz:=eQ hsz;obtain⟨c,h1,h2,h⟩:=Z8b hr h;obtain⟨xs,l1,γ1,v1,ℓ1,h,r1,le1,q1⟩:=Zum hn hX h hr h2;obtain⟨css,k1,k2,k3,k4⟩:=q1 _ h1;obtain⟨E,hEE,hp⟩:=r1.lr;have hvl:css.length=m:=by
     have:=congrArg List.length k3;simp only[List.length_map]at this;omega
    have hflat:css.flatten.length=m*q.sz:=by
     have:=Zkb k1;rw[Zn,← k2,hvl,← hsz]at this;exact this
    have hz:∀ w,(Instr.buildSlice t m (ps.toList.map λp=>(p.1,a.eval p.2)).toArray).run C.P w = .ok (.slice (some ⟨w.heap.size,0,none⟩) m m) (w.alloc (.cells css.flatten.toArray q.e)):=by
     intro w;obtain⟨inf,hinf,hzz,hsz',hby'⟩:=info_parts hE.info;rw[Zoh ho];have hm:(ps.toList.map λp=>a.eval p.2)=(ps.toList.map (·.2)).map a.eval:=by rw[List.map_map];rfl
     rw[hm];have hf:∀ zc:Array Value,Instr.fill (λi=>some (i*q.sz,q.sz)) ((Array.range (m*q.sz)).map (λi=>zc[i%zc.size]!)) ((((ps.toList.map (·.2)).map a.eval).zipIdx).map λp=>(p.2,p.1))=some css.flatten.toArray:=λzc=>by
      have:=ZMg (sz:=q.sz) css ((ps.toList.map (·.2)).map a.eval) 0 ((Array.range (m*q.sz)).map (λi=>zc[i%zc.size]!)) k3 (λcs hc=>by rw[k4 cs hc,hsz]) (by simp[hvl]);rw[Nat.zero_mul,List.take_zero,List.nil_append]at this;exact this
     obtain⟨L,hL⟩:∃ L,L=((((ps.toList.map (·.2)).map a.eval).zipIdx).map λp=>(p.2,p.1)):=⟨_,rfl⟩;rw[← hL]at hf ⊢;clear hL;exact ZTf hE.ty hinf hzz hsz' hbig hf w
    have hst:=r1.st.perm hp;obtain⟨σ,hσ,hev⟩:=hst.evs (ps.toList.map (·.2));have hmax:m≤maxLen:=by
     have h1:m≤m*q.sz:=Nat.le_mul_of_pos_right _ hE.pos;unfold maxLen;omega
    obtain⟨b,w',hrun,hst'⟩:=ZJf (P:=C.P) (t:=t) (e:=q.e) hσ hflat hmax hz;have hev':ps.toList.map (λp=>(ev σ p.2).map λy=>(p.1,y))=(ps.toList.map λp=>(p.1,a.eval p.2)).map some:=by
     rw[List.map_map];refine List.map_congr_left λp hp=>?_;rw[hev p.2 (List.mem_map.2 ⟨p,hp,rfl⟩)];rfl
    have hxl:m=xs.length:=by omega
    have hst':=hst'.bare;rw[hsz,hxl]at hst';have hrun':=hrun (d:=d) (ty:=ty) (pos:=pos) (aft:=aft) (g:=g) hev'
    conv at hrun'=>rhs;rw[hxl]
    exact ZJc r1 hU hX hn hd hEE rfl hst' k1 hrun' h
   ·exact h.elim
  ·exact h.elim
 ·exact h.elim
end
end Go.Eng
namespace Go.Eng
open Go.RowKit
section
variable {P:Program} {K:Nat} {w0:Base} {v0:Za} {σ:List (Nat×Value)} {ℓ:List Loc} {v:Za} {a:Act} {w:World}
variable {d:Option Nat} {ty:TypeId} {pos:String} {aft:Array Edge} {g:Option (Nat×Bool)}
end
end Go.Eng
namespace Go.Eng
open Go.RowKit
def OwnI {α:Type} (A:Rep α) (T:TypeId) (sz:Nat) (l:List α) (ob0:Option Nat) (w:World) (r:Value) (v':Za) (w':World):Prop :=
 ∃ ob n cap cs,r = .slice (mkA ob) n cap∧(Loc.own ob T sz n cap cs).holds w'∧(∀ b,ob=some b→(w.heap.size≤b∨ob0=some b)∧v' b=none)∧A.rels v' cs l∧n=l.length
section
variable {P:Program} {K:Nat} {w0:Base} {v0:Za} {σ:List (Nat×Value)} {ℓ:List Loc} {v:Za} {a:Act} {w:World}
theorem St.afterI {v':Za} {w':World} (h:St K w0 v0 σ ℓ v a w) {i:Nat} {e e':Loc} (hi:ℓ[i]? = some e) (x:ExtB ⟨w,e.blk.toList⟩ w') (s:VStepB ⟨w,e.blk.toList⟩ v w' v') (hh:e'.holds w') (hb':∀ b,e'.blk=some b→(w.heap.size≤b∨e.blk=some b)∧v' b=none) :
  St K w0 v0 σ (e' :: ℓ.eraseIdx i) v' a w':=by
 obtain⟨he,hv⟩:=h.loc e (mG hi);have nl:∀ k,k<w0.wd.heap.size→k ∉ w0.lent→k ∉ e.blk.toList:=λk hk hl hm=>by
  have hm:e.blk=some k:=by simpa using hm
  rcases (hv k hm).1 with h' | h'
  ·omega
  ·exact hl h'
 have oth:∀ j y,ℓ[j]? = some y→j≠i→∀ b',y.blk=some b'→b'<w.heap.size∧e.blk≠some b'∧b' ∉ e.blk.toList:=λj y hj hji b' hb2=>by
  obtain⟨_,hg2⟩:=Loc.blk_get (h.loc y (mG hj)).1 hb2;have hne:e.blk≠some b':=λhb=>Zwf h.nd hi hb j y hj hji b' hb2 rfl;exact⟨ZHb hg2,hne,by simpa using hne⟩
 refine⟨h.size,h.dfr,h.fr,⟨x.os.trans h.ext.os,x.tape.trans h.ext.tape,x.output.trans h.ext.output,Nat.le_trans h.ext.size x.size,λk hk hl=>?_⟩,⟨Za.le_trans h.vst.le s.le,s.vin,λk hk hl=>?_⟩,λy hy=>?_,?_⟩
 ·rw[x.block k (Nat.lt_of_lt_of_le hk h.ext.size) (nl k hk hl)];exact h.ext.block k hk hl
 ·rw[s.old k (Nat.lt_of_lt_of_le hk h.ext.size) (nl k hk hl)];exact h.vst.old k hk hl
 ·rcases List.mem_cons.1 hy with rfl | hy
  ·refine⟨hh,λb hb=>⟨?_,(hb' b hb).2⟩⟩;rcases (hb' b hb).1 with h1 | h1
   ·exact .inl (Nat.le_trans h.ext.size h1)
   ·exact (hv b h1).1
  ·obtain⟨j,hji,hj⟩:=List.mem_eraseIdx_iff_getElem?.1 hy;obtain⟨h1,h2⟩:=h.loc y (mG hj);have same:∀ b',y.blk=some b'→w'.heap[b']? = w.heap[b']?:=λb' hb2=>by
    obtain⟨o1,o2,o3⟩:=oth j y hj hji b' hb2;exact x.block b' o1 o3
   refine⟨?_,λb' hb2=>⟨(h2 b' hb2).1,?_⟩⟩
   ·cases y with
    | box b' T' cs=>show _=_;rw[same b' rfl];exact h1
    | own b' T' sz n cap cs =>
     cases b' with
     | none=>exact h1
     | some b'=>obtain⟨k1,c',k2,k3⟩:=h1;exact⟨k1,c',by rw[same b' rfl];exact k2,k3⟩
    | mp b' l=>obtain⟨es,c',k1,k2⟩:=h1;exact⟨es,c',by rw[same b' rfl];exact k1,k2⟩
   ·obtain⟨o1,o2,o3⟩:=oth j y hj hji b' hb2;rw[s.old b' o1 o3];exact (h2 b' hb2).2
 ·have hsub:((ℓ.eraseIdx i).filterMap Loc.blk).Nodup:=h.nd.sublist ((List.eraseIdx_sublist ..).filterMap _)
  cases hb:e'.blk with
  | none=>rw[List.filterMap_cons_none hb];exact hsub
  | some b =>
   rw[List.filterMap_cons_some hb];refine List.nodup_cons.2 ⟨λhm=>?_,hsub⟩;obtain⟨y,hy,hyb⟩:=List.mem_filterMap.1 hm;obtain⟨j,hji,hj⟩:=List.mem_eraseIdx_iff_getElem?.1 hy;obtain⟨o1,o2,o3⟩:=oth j y hj hji b hyb;rcases (hb' b hb).1 with h1 | h1
   ·omega
   ·exact o2 h1
variable {d:Option Nat} {ty:TypeId} {pos:String} {aft:Array Edge} {g:Option (Nat×Bool)}
end
end Go.Eng
namespace Go.Eng
open Go.RowKit
def ZCb {α:Type} (by_:Nat) (l:List α):Option (List α):=bnd (Zfa by_ l) λ_=>some l
theorem Zth {α:Type} {by_:Nat} {l z:List α} (h:ZCb by_ l=some z):l.length*by_≤140737488355328∧z=l:=by
 obtain⟨_,h1,h2⟩:=Zbc h;exact⟨Zbd h1,(Option.some.inj h2).symm⟩
section
variable {P:Program} {K:Nat} {w0:Base} {v0:Za} {σ:List (Nat×Value)} {ℓ:List Loc} {v:Za} {a:Act} {w:World}
variable {d:Option Nat} {ty:TypeId} {pos:String} {aft:Array Edge} {g:Option (Nat×Bool)}
theorem Zkh (hS:St K w0 v0 σ ℓ v a w) {t t2 e:TypeId} {x y:Operand} {q:Option Addr} {n c:Nat} (ht:P.underlying t=some (.slice e)) (e1:ev σ x=some (.slice q n c)) (e2:ev σ y=some (.slice none 0 0)) :
  (execOp a.eval ⟨d,.binOp .eql t x y t2,ty,pos,aft,g⟩).run P w = .ok (.value (.bool q.isNone)) w:=by
 have h:∀ w:World,(Op.equal t (.slice q n c) (.slice none 0 0)).run P w = .ok q.isNone w:=λw=>by
  show (Op.equalIn (9999+1) t (.slice q n c) (.slice none 0 0)).run P w=_;unfold Op.equalIn
  cases q <;> simp[run_underlying ht]
 simp[execOp,hS.eval e1,hS.eval e2,eqGuard,binOp,h]
theorem ZSj {t e:TypeId} {sz by_:Nat} {z:Value} (E:Elem P t e sz by_ z) (hS:St K w0 v0 σ ℓ v a w) :
  ∃ b w',((execOp a.eval ⟨d,.buildSlice t 0 #[],ty,pos,aft,g⟩).run P w = .ok (.value (.slice (mkA (some b)) 0 0)) w')∧St K w0 v0 σ (.own (some b) e sz 0 0 [] :: ℓ) v a w':=by
 obtain⟨i,h1,h2,h3,h4⟩:=info_parts E.info;obtain⟨b,w',hrun,hst⟩:=ZJf (P:=P) (t:=t) (e:=e) (sz:=sz) (n:=0) (vals:=[]) (cs:=[]) hS (by simp) (by decide) (λw=>ZTf E.ty h1 h2 h3 (by omega) (λzc=>by simp[Instr.fill]) w);exact⟨b,w',hrun (ps:=#[]) rfl,hst⟩
end
end Go.Eng

namespace Go.Eng
noncomputable def Zuf (l:List (List UInt8)) (str:List UInt8):Option Int :=
 bnd (Zl (σ:=Int) (ρ:=Unit ⊕ Int) (λa =>
 ifb (decide (a<(l.length:Int)))
 (bnd (idx l a) λb =>
 ifb (str==b)
 (some (.inr (.inr a)))
 (bnd (chk .i64 (a+(1:Int))) λc =>
 some (.inl c)))
 (some (.inr (.inl ()))))
  Zu (0:Int)) λd =>
 match d with
| .inl f=>(some (-1:Int))
| .inr e=>(some e)
noncomputable def Zhc (l:List (List UInt8)) (str:List UInt8):Option Bool :=
 bnd (Zuf l str) λa =>
 some (decide ((0:Int)≤a))
inductive Anc (inp:Nat→List Nat):Nat→Nat→Prop
 | one {k i:Nat} (h:k ∈ inp i):Anc inp k i
 | step {k c i:Nat} (h:c ∈ inp i) (a:Anc inp k c):Anc inp k i
def ZJb (M:Nat→Bool) (k:Nat):Nat→Bool:=λj=>if j=k then true else M j
inductive Back (inp:Nat→List Nat):List Nat→(Nat→Bool)→(Nat→Bool)→Prop
 | nil {M:Nat→Bool}:Back inp [] M M
 | skip {k:Nat} {ks:List Nat} {M M':Nat→Bool} (h:M k=true) (r:Back inp ks M M'):Back inp (k :: ks) M M'
 | go {k:Nat} {ks:List Nat} {M M1 M':Nat→Bool} (h:M k=false) (s:Back inp (inp k) (ZJb M k) M1) (r:Back inp ks M1 M'):Back inp (k :: ks) M M'
theorem Anc.lt {inp:Nat→List Nat} (hi:∀ i,∀ c,c ∈ inp i→c<i) {k i:Nat} (h:Anc inp k i):k<i:=by
 induction h with
 | one h=>exact hi _ _ h
 | step h a ih=>exact Nat.lt_trans ih (hi _ _ h)
theorem ZPk (M:Nat→Bool) (k:Nat):ZJb M k k=true:=by unfold ZJb;rw[iP rfl]
theorem Z9k {M:Nat→Bool} {k j:Nat} (h:M j=true):ZJb M k j=true:=by
 unfold ZJb;by_cases e:j=k
 ·rw[iP e]
 ·rw[iN e];exact h
theorem Back.law {inp:Nat→List Nat} {ks:List Nat} {M M':Nat→Bool} (h:Back inp ks M M') :
  (∀ j,M j=true→M' j=true)∧(∀ k,k ∈ ks→M' k=true)∧(∀ j,M' j=true→M j=true ∨ ∃ c,c ∈ ks∧(j=c∨Anc inp j c))∧∀ j,M' j=true→M j=false→∀ c,c ∈ inp j→M' c=true:=by
 induction h with
 | nil =>
  refine⟨λj h=>h,λk h=>?_,λj h=>Or.inl h,λj h h2=>?_⟩
  ·cases h
  ·rw[h]at h2
   cases h2
 | skip h r ih =>
  rename_i k ks M M';obtain⟨a,b,c,d⟩:=ih;refine⟨a,λj hj=>?_,λj hj=>?_,d⟩
  ·cases hj with
   | head=>exact a _ h
   | tail _ hj=>exact b _ hj
  ·rcases c j hj with h1 | ⟨x,hx,h2⟩
   ·exact .inl h1
   ·exact .inr ⟨x,.tail _ hx,h2⟩
 | go h s r ihs ihr =>
  rename_i k ks M M1 M';obtain⟨a1,b1,c1,d1⟩:=ihs;obtain⟨a2,b2,c2,d2⟩:=ihr;refine⟨λj hj=>a2 _ (a1 _ (Z9k hj)),λj hj=>?_,λj hj=>?_,λj hj hn x hx=>?_⟩
  ·cases hj with
   | head=>exact a2 _ (a1 _ (ZPk M k))
   | tail _ hj=>exact b2 _ hj
  ·rcases c2 j hj with h1 | ⟨x,hx,h2⟩
   ·rcases c1 j h1 with h3 | ⟨y,hy,h4⟩
    ·by_cases e:j=k
     ·exact .inr ⟨k,.head _,.inl e⟩
     ·unfold ZJb at h3;rw[iN e]at h3;exact .inl h3
    ·refine .inr ⟨k,.head _,.inr ?_⟩;rcases h4 with rfl | h4
     ·exact .one hy
     ·exact .step hy h4
   ·exact .inr ⟨x,.tail _ hx,h2⟩
  ·by_cases e1:M1 j=true
   ·by_cases e:j=k
    ·subst e;exact a2 _ (b1 _ hx)
    ·exact a2 _ (d1 j e1 (by unfold ZJb;rw[iN e];exact hn) x hx)
   ·exact d2 j hj (by cases hh:M1 j with
     | false=>rfl
     | true=>exact absurd hh e1) x hx
theorem Back.anc {inp:Nat→List Nat} {i:Nat} {M':Nat→Bool} (h:Back inp (inp i) (λ_=>false) M') (k:Nat):M' k=true↔Anc inp k i:=by
 obtain⟨_,b,c,d⟩:=h.law;constructor
 ·intro hk;rcases c k hk with h1 | ⟨x,hx,rfl | h2⟩
  ·cases h1
  ·exact .one hx
  ·exact .step hx h2
 ·intro hk;have key:∀ {k j:Nat},Anc inp k j→(j=i∨M' j=true)→M' k=true:=by
   intro k j a
   induction a with
   | one h1 =>
    rintro (rfl | h2)
    ·exact b _ h1
    ·exact d _ h2 rfl _ h1
   | step h1 a ih =>
    rintro (rfl | h2)
    ·exact ih (.inr (b _ h1))
    ·exact ih (.inr (d _ h2 rfl _ h1))
  exact key hk (.inl rfl)
theorem Zjl {inp:Nat→List Nat} (hi:∀ i,∀ c,c ∈ inp i→c<i) {i n:Nat} {S:Nat→Bool} (h:∀ k,k<n→(S k=true↔i<k∧∃ c,c ∈ inp k∧(S c=true∨c=i))):∀ k,k<n→(S k=true↔Anc inp i k):=by
 intro k
 induction k using Nat.strongRecOn with
 | _ k ih =>
  intro hk;rw[h k hk];constructor
  ·rintro⟨_,c,hc,hs | rfl⟩
   ·have:=hi k c hc;exact .step hc ((ih c this (by omega)).1 hs)
   ·exact .one hc
  ·intro a;refine⟨a.lt hi,?_⟩
   cases a with
   | one h1=>exact⟨i,h1,.inr rfl⟩
   | step h1 a =>
    have:=hi k _ h1;exact⟨_,h1,.inl ((ih _ this (by omega)).2 a)⟩
theorem ZP {α β:Type} {x:Option α} {y:α} {f:α→Option β} {z:Option β} (h:x=some y) (h2:f y=z):bnd x f=z:=by subst h;rw[Zb];exact h2
theorem Ztf {α β:Type} {P:β→Prop} {x:Option α} {y:α} {f:α→Option β} (h:x=some y) (h2:∃ z,f y=some z∧P z):∃ z,bnd x f=some z∧P z:=by subst h;exact h2
theorem Z3b {S R:Type} {body:S→Option (S ⊕ R)} {s:S} (I:Nat→S→Prop) (Q:R→Prop) (n:Nat) (h0:I 0 s) (hn:n<2^64)
  (h:∀ k s,k<n→I k s→(∃ s',body s=some (.inl s')∧I (k+1) s') ∨ ∃ r,body s=some (.inr r)∧Q r)
  (he:∀ s,I n s→∃ r,body s=some (.inr r)∧Q r):∃ r,Zl body Zu s=some r∧Q r:=by
 have key:∀ m f k s,k+m=n→m<f→I k s→∃ r,Zl body f s=some r∧Q r:=by
  intro m
  induction m with
  | zero =>
   intro f k s hk hf hI;obtain⟨f,rfl⟩:∃ g,f=g+1:=⟨f-1,by omega⟩;obtain rfl:k=n:=by omega
   obtain⟨r,h1,h2⟩:=he s hI;refine⟨r,?_,h2⟩;unfold Zl;rw[h1,Zb]
  | succ m ih =>
   intro f k s hk hf hI;obtain⟨f,rfl⟩:∃ g,f=g+1:=⟨f-1,by omega⟩;rcases h k s (by omega) hI with ⟨s',h1,h2⟩ | ⟨r,h1,h2⟩
   ·obtain⟨r,h3,h4⟩:=ih f (k+1) s' (by omega) (by omega) h2;refine⟨r,?_,h4⟩;unfold Zl;rw[h1,Zb];exact h3
   ·refine⟨r,?_,h2⟩;unfold Zl;rw[h1,Zb]
 exact key n Zu 0 s (by omega) (lt_FUEL (by omega)) h0
theorem Zoc {S R:Type} {body:S→Option (S ⊕ R)} {s:S} {r:R} (st:Nat→S) (n:Nat) (h0:st 0=s) (hn:n<2^64) (h:∀ k,k<n→body (st k)=some (.inl (st (k+1)))) (he:body (st n)=some (.inr r)):Zl body Zu s=some r:=by
 obtain⟨r',h1,rfl⟩:=Z3b (λk s=>s=st k) (λx=>x=r) n h0.symm hn (λk s hk e=>.inl ⟨_,by rw[e];exact h k hk,rfl⟩) λs e=>⟨r,by rw[e];exact he,rfl⟩;exact h1
theorem ZOj {body:Int→Option (Int ⊕ (Unit ⊕ Int))} (p:Nat→Bool) (n:Nat) (hn:n<2^62) (h:∀ i,i<n→body (i:Int)=if p i=true then some (.inr (.inr (i:Int))) else some (.inl ((i:Int)+1))) (he:body (n:Int)=some (.inr (.inl ()))) :
  ∃ z:Int,bnd (Zl body Zu (0:Int)) (λx=>match x with
   | .inl _=>some (-1:Int)
   | .inr r=>some r)=some z∧decide ((0:Int)≤z)=(List.range n).any p:=by
 obtain⟨r,h1,h2⟩:=Z3b (body:=body) (s:=(0:Int)) (λk s=>s=(k:Int)∧∀ j,j<k→p j=false) (λr=>(r = .inl ()∧∀ j,j<n→p j=false) ∨ ∃ i:Nat,i<n∧r = .inr (i:Int)∧p i=true) n ⟨rfl,λj hj=>absurd hj (Nat.not_lt_zero j)⟩ (by omega) (λk s hk ⟨e,hf⟩=>by
  subst e;rw[h k hk]
  cases hp:p k with
  | true=>exact .inr ⟨.inr (k:Int),by simp,.inr ⟨k,hk,rfl,hp⟩⟩
  | false =>
   refine .inl ⟨(k:Int)+1,by simp,by omega,λj hj=>?_⟩;rcases Nat.lt_or_ge j k with h' | h'
   ·exact hf j h'
   ·rw[show j=k by omega];exact hp) λs ⟨e,hf⟩=>by
  subst e;exact⟨_,he,.inl ⟨rfl,hf⟩⟩
 rcases h2 with ⟨rfl,hf⟩ | ⟨i,hi,rfl,hp⟩
 ·refine⟨-1,ZP h1 rfl,?_⟩;rw[dF (by omega)];symm;rw[List.any_eq_false];intro j hj;rw[hf j (List.mem_range.1 hj)];decide
 ·refine⟨(i:Int),ZP h1 rfl,?_⟩;rw[dT (by omega)];symm;rw[List.any_eq_true];exact⟨i,List.mem_range.2 hi,hp⟩
theorem ZXc {α:Type} {b:Nat} {l:List α} (h:l.length*b≤140737488355328):Zfa b l=some ():=by unfold Zfa;rw[iP h]
theorem ZBj {l:List UInt8} (h:l.length≤140737488355328):ZBb l=some ():=by unfold ZBb;rw[iP (by unfold maxLen;omega)]
theorem Zze {b n:Nat} (h:b*n≤281474976710656) (h2:n≤9223372036854775807):mk b (n:Int) (n:Int)=some ():=by unfold mk;rw[iP ⟨by omega,by omega,by rw[← Int.natCast_mul];omega,by omega⟩]
theorem ZT {n:Nat} (h:n<9223372036854775807):chk .i64 ((n:Int)+1)=some ((n+1:Nat):Int):=by rw[ZXb (by omega) (by omega)];rfl
theorem Zyj {α:Type} {b:Nat} {l:List α} (h:l.length*b≤140737488355328):ZCb b l=some l:=by unfold ZCb;rw[ZXc h,Zb]
def bx (n:Nat) (f:Nat→Bool):List Bool:=(List.range n).map f
theorem Zpd (n:Nat) (f:Nat→Bool):(bx n f).length=n:=by simp[bx]
theorem Zyc {n i:Nat} (f:Nat→Bool) (h:i<n):idx (bx n f) (i:Int)=some (f i):=Zwa (by simp[bx,h])
theorem Zud (n:Nat) (f:Nat→Bool) (i:Nat) (a:Bool):(bx n f).set i a=bx n (λk=>if k=i then a else f k):=by
 apply List.ext_getElem
 ·simp[bx]
 ·intro j h1 h2;simp only[bx,List.getElem_set,List.getElem_map,List.getElem_range];by_cases h:i=j
  ·subst h;simp
  ·rw[iN h,iN (λe=>h e.symm)]
theorem Zlf (n:Nat):List.replicate n false=bx n (λ_=>false):=by
 apply List.ext_getElem
 ·simp[bx]
 ·intro j h1 h2;simp[bx]
theorem Z6e {l:List (List UInt8)} (hl:l.length<2^62) (s:List UInt8):Zhc l s=some (decide (s ∈ l)):=by
  unfold Zhc Zuf;obtain⟨z,hz,hd⟩:=ZOj (λi=>s==l.getD i []) l.length hl (body:=λs1 =>
    ifb (decide (s1<(l.length:Int)))
    (bnd (idx l s1) λy2 =>
     ifb (s==y2)
     (some (.inr (.inr s1)))
     (bnd (chk .i64 (s1+(1:Int))) λy3 =>
      some (.inl y3)))
    (some (.inr (.inl ())))) (λi hi=>by
      show ifb (decide ((i:Int)<(l.length:Int))) _ _=_;rw[dT (by omega),Zq,ZQa hi,Zb];have hg:l.getD i []=l[i]:=by rw[List.getD_eq_getElem?_getD,List.getElem?_eq_getElem hi];rfl
      rw[hg]
      cases h:s==l[i] with
      | true=>rw[Zq,iP rfl]
      | false=>rw[Zi,iN (by decide),ZXb (by omega) (by omega),Zb]) (by
      show ifb (decide ((l.length:Int)<(l.length:Int))) _ _=_;rw[dF (by omega),Zi])
  refine ZP hz ?_;rw[hd];congr 1;apply Bool.eq_iff_iff.2;rw[List.any_eq_true,decide_eq_true_iff];constructor
  · rintro⟨i,hi,he⟩;have hi:=List.mem_range.1 hi;have hg:l.getD i []=l[i]:=by rw[List.getD_eq_getElem?_getD,List.getElem?_eq_getElem hi];rfl
    rw[hg]at he;rw[eq_of_beq he];exact List.getElem_mem hi
  · intro hm;obtain⟨i,hi,he⟩:=List.getElem_of_mem hm;refine⟨i,List.mem_range.2 hi,?_⟩;have hg:l.getD i []=l[i]:=by rw[List.getD_eq_getElem?_getD,List.getElem?_eq_getElem hi];rfl
    rw[hg,he];exact beq_self_eq_true s
noncomputable def ZMc (b:(List ((List UInt8)×Int×Int×(List (List (List UInt8)))))×(Option MPd)) (name:List UInt8):Option (Int×Int) :=
 ifb ((Zh b.2 name).isSome)
 (some (((Zh b.2 name).getD 0),(0:Int)))
 (some ((0:Int),(5:Int)))
noncomputable def Zfd (b:(List ((List UInt8)×Int×Int×(List (List (List UInt8)))))×(Option MPd)) (marked:List Bool):Option (List (List UInt8)) :=
 bnd (Zl (σ:=(List (List UInt8))×Int) (ρ:=List (List UInt8)) (λa =>
 ifb (decide (a.2<(marked.length:Int)))
 (bnd (idx marked a.2) λd =>
 bnd (α:=List (List UInt8))
 (ifb d
 (bnd (idx b.1 a.2) λc =>
 bnd (Zfa 16 (a.1++[c.1])) λ_ =>
 some (a.1++[c.1]))
 (some a.1)) λe =>
 bnd (chk .i64 (a.2+(1:Int))) λf =>
 some (.inl (e,f)))
 (some (.inr a.1)))
  Zu (([]:List (List UInt8)),(0:Int))) λg =>
 some g
noncomputable def ZTe (b:(List ((List UInt8)×Int×Int×(List (List (List UInt8)))))×(Option MPd)) (name:List UInt8):Option ((List (List UInt8))×Int) :=
 bnd (ZMc b name) λc =>
 ifb (c.2 != (0:Int))
 (some (([]:List (List UInt8)),c.2))
 (bnd (mk 1 (b.1.length:Int) (b.1.length:Int)) λ_ =>
 bnd (chk .i64 (c.1+(1:Int))) λi =>
 bnd (Zl (σ:=Int×(List Bool)) (ρ:=List Bool) (λa =>
 ifb (decide (a.1<(b.1.length:Int)))
 (bnd (idx b.1 a.1) λf =>
 bnd (α:=Int)
 (bnd (Zl (σ:=Int) (ρ:=Unit ⊕ Int) (λd =>
 ifb (decide (d<(f.2.2.2.length:Int)))
 (bnd (idx f.2.2.2 d) λg =>
 bnd (α:=Int)
 (bnd (Zl (σ:=Int) (ρ:=Unit ⊕ Int) (λe =>
 ifb (decide (e<(g.length:Int)))
 (bnd (idx g e) λh =>
 bnd (α:=Bool)
 (bnd (idx a.2 ((Zh b.2 h).getD 0)) λj =>
 ifb j
 (some true)
 (ifb (((Zh b.2 h).getD 0)==c.1)
 (some true)
 (some false))) λk =>
 ifb k
 (some (.inr (.inr e)))
 (bnd (chk .i64 (e+(1:Int))) λl =>
 some (.inl l)))
 (some (.inr (.inl ()))))
           Zu (0:Int)) λm =>
          match m with
| .inl w=>(some (-1:Int))
| .inr n=>(some n)) λo =>
 ifb (decide ((0:Int)≤o))
 (some (.inr (.inr d)))
 (bnd (chk .i64 (d+(1:Int))) λp =>
 some (.inl p)))
 (some (.inr (.inl ()))))
       Zu (0:Int)) λq =>
      match q with
| .inl x=>(some (-1:Int))
| .inr r=>(some r)) λs =>
 bnd (idx a.2 a.1) λy =>
 bnd (chk .i64 (a.1+(1:Int))) λt =>
 some (.inl (t,a.2.set a.1.toNat (decide ((0:Int)≤s)))))
 (some (.inr a.2)))
   Zu (i,List.replicate (b.1.length:Int).toNat false)) λu =>
 bnd (Zfd b u) λv =>
 some (v,(0:Int)))
noncomputable def Zcc:Nat→(List Bool)→((List ((List UInt8)×Int×Int×(List (List (List UInt8)))))×(Option MPd))→Int→Option (List Bool×Unit)
| 0,_,_,_=>none
| kf+1,marked,b,i =>
 bnd (idx b.1 i) λe =>
 bnd (Zl (σ:=Int×(List Bool)) (ρ:=List Bool) (λc =>
 ifb (decide (c.1<(e.2.2.2.length:Int)))
 (bnd (idx e.2.2.2 c.1) λf =>
 bnd (Zl (σ:=Int×(List Bool)) (ρ:=List Bool) (λa =>
 ifb (decide (a.1<(f.length:Int)))
 (bnd (idx f a.1) λd =>
 bnd (idx a.2 ((Zh b.2 d).getD 0)) λg =>
 bnd (α:=List Bool)
 (ifb (!g)
 (bnd (idx a.2 ((Zh b.2 d).getD 0)) λo =>
 bnd (Zcc kf (a.2.set (((Zh b.2 d).getD 0).toNat) true) b ((Zh b.2 d).getD 0)) λh =>
 some h.1)
 (some a.2)) λj =>
 bnd (chk .i64 (a.1+(1:Int))) λk =>
 some (.inl (k,j)))
 (some (.inr a.2)))
       Zu ((0:Int),c.2)) λl =>
 bnd (chk .i64 (c.1+(1:Int))) λm =>
 some (.inl (m,l)))
 (some (.inr c.2)))
    Zu ((0:Int),marked)) λn =>
 some (n,())
noncomputable def Zde (marked:List Bool) (b:(List ((List UInt8)×Int×Int×(List (List (List UInt8)))))×(Option MPd)) (i:Int):Option (List Bool×Unit):=Zcc 40 marked b i
noncomputable def Zxd (b:(List ((List UInt8)×Int×Int×(List (List (List UInt8)))))×(Option MPd)) (k:Int) (last:Int):Option (List Bool) :=
 bnd (chk .i64 (last+(1:Int))) λe =>
 bnd (mk 1 e e) λ_ =>
 bnd (chk .i64 (k+(1:Int))) λi =>
 bnd (Zl (σ:=Int×(List Bool)) (ρ:=List Bool) (λa =>
 ifb (decide (a.1≤last))
 (bnd (idx b.1 a.1) λf =>
 bnd (α:=Int)
 (bnd (Zl (σ:=Int) (ρ:=Unit ⊕ Int) (λc =>
 ifb (decide (c<(f.2.2.2.length:Int)))
 (bnd (idx f.2.2.2 c) λg =>
 bnd (α:=Int)
 (bnd (Zl (σ:=Int) (ρ:=Unit ⊕ Int) (λd =>
 ifb (decide (d<(g.length:Int)))
 (bnd (idx g d) λh =>
 bnd (α:=Bool)
 (ifb (((Zh b.2 h).getD 0) != k)
 (bnd (idx a.2 ((Zh b.2 h).getD 0)) λj =>
 some (!j))
 (some false)) λl =>
 ifb l
 (some (.inr (.inr d)))
 (bnd (chk .i64 (d+(1:Int))) λm =>
 some (.inl m)))
 (some (.inr (.inl ()))))
          Zu (0:Int)) λn =>
         match n with
| .inl w=>(some (-1:Int))
| .inr o=>(some o)) λp =>
 ifb (!(decide ((0:Int)≤p)))
 (some (.inr (.inr c)))
 (bnd (chk .i64 (c+(1:Int))) λq =>
 some (.inl q)))
 (some (.inr (.inl ()))))
      Zu (0:Int)) λr =>
     match r with
| .inl x=>(some (-1:Int))
| .inr s=>(some s)) λt =>
 bnd (idx a.2 a.1) λy =>
 bnd (chk .i64 (a.1+(1:Int))) λu =>
 some (.inl (u,a.2.set a.1.toNat (decide ((0:Int)≤t)))))
 (some (.inr a.2)))
  Zu (i,List.replicate e.toNat false)) λv =>
 some v
end Go.Eng
