/- Lemmas towards the statement: the engine of the walks, the functions' models, laws and walks, part 7. Conditions: as each states. -/
import Derived.Shelf.Strings.Builder1
import Derived.Shelf.Strings.Repeat
import Derived.Test.YtgplcnjanfledaaGreatProg
import Derived.Test.YtgplcnjanfledaaGreatSuF
set_option linter.all false
set_option maxHeartbeats 4000000
set_option maxRecDepth 100000
namespace Go.Eng
open Go.RowKit
variable {D:(β:Type)→Go β}{o:Act}{P:Array Edge}{M:Array Value}{A:Cf}{Q:Code}{g:Exit→Act→World→Prop}{G:Fr}{p:Func}{k:FuncId}{q:List (Nat×Value)}{R:List Oper}{t:List ResultVar}{I s:List T}{d:List Value}{m:List dY}{C W:Lo}{F h w:Nat}{H:Nat→Gh}{J:Option (Nat×Bool)}{a:Program}{U:T}{y:Type}{K v:TypeId}{N:V}{O:Value}{b:V→Value→Prop}{S c:World}{L:ZF s}{x:ZF s→Option (ZF I)}{B e:Zb}{i:dW}{u:eV}{z:g9}{E:y}
structure kC(P:Program)(rs:List ResultVar)(N:Nat)(G:V→Value→Prop)(w0:dW)(v0:Zb){α:Type}(n:Nat)(f:Fr)(l:Lo)(K:Kt α)(r:α)(Q:Exit→Act→World→Prop):Prop where
 norm:ns N G w0 v0 n f l (λf l n=>K.norm f l n=some r) (Q .normal)
 exit:∀i,ns N G w0 v0 n f l (λf l n=>K.exit i f l n=some r) (Q (.exit i))
 ret:∀c l' n' a' w',K.ret c l' n'=some r→n≤n'→ld n l l'→mT P rs N G w0 v0 c l' n' a' w'→Q .ret a' w'
theorem kC.step{N:Nat}{j:Fr}{K:Kt y}(h:kC a t N b i e w G C K E g)(d:w≤F)(f:eX w G C j W):kC a t N b i e F j W K E g :=
 ⟨h.norm.step d f,λo=>(h.exit o).step d f,λc p q k r l s m n=>h.ret c p q k r l (by omega) (f.l.trans m d) n⟩
def Vp:Kd→Exit
 |.norm=>.normal
 |.exit i=>.exit i
 |.ret=>.ret
theorem FB{a b:Kd}(h:zx a b=true):a=b:=by
 cases a <;> cases b <;> first |rfl |(cases h;done) |(rw[eH h])
theorem Pf{N:Nat}{P:Program}{rs:List ResultVar}{β:Type}{n:Nat}{f:Fr}{g:Kd×Js}{K:jT g.2→Option y}{Q:Exit→Act→World→Prop}(s:H0 b F G C)(v:F≤n)(u:g.1 ≠ .ret)(z:fG N b i e (· < n) f W o c)(x:eX F G C f W)(h:qD w F n G C f W g.2 K=some E):
  ∃ j,K j=some E∧∀{k:Kt β} {r:β},A3 w G C F k g j=some r→kC P rs N b i e F G C k r Q→Q (Vp g.1) o c:=by
 obtain⟨j,t,l,m,p⟩:=Hy s v z x h;refine⟨j,t,λ{k r} a q=>?_⟩;unfold A3 at a;split at a
 ·rename_i d;rw[FR]at a;rw[d];exact q.norm _ _ _ o c a l p m
 ·rename_i A d;rw[FR]at a;rw[d];exact q.exit A _ _ _ o c a l p m
 ·rename_i d;exact absurd d u
theorem Tl{N:Nat}{P:Program}{rs:List ResultVar}{β:Type}{n:Nat}{k:V}{d:Kd×Js}{K:jT d.2→Option y}{Q:Exit→Act→World→Prop}(p:H0 b F G C)(u:F≤n)(l:d.1= .ret)(x:mT P rs N b i e k W n o c)(v:ld F C W)(h:Ei w F n G C k W d.2 K=some E):
  ∃ f,K f=some E∧∀{g:Kt β} {r:β},A3 w G C F g d f=some r→kC P rs N b i e F G C g r Q→Q .ret o c:=by
 obtain⟨f,q,s⟩:=YI (β:=β) p u x v h;refine⟨f,q,λ{g r} j t=>?_⟩;unfold A3 at j;split at j
 ·rename_i a;rw[l]at a;cases a
 ·rename_i a;rw[l]at a;cases a
 ·obtain⟨H,I,m,z,A,B,D⟩:=s j;exact t.ret _ _ _ o c z A D B
theorem FO{N:Nat}{P:Program}{rs:List ResultVar}{β:Type}{n:Nat}{f:Fr}{Q:Exit→Act→World→Prop}{kd:Kd}{B:V}(t:H0 b F G C)(u:F≤n)(m:kd ≠ .ret)(z:fG N b i e (· < n) f W o c)(v:eX F G C f W):
  ∀ {os:List (Kd×Js)} {s:Type} {K:kA os→Option s} {d:s},mC w F n G C kd B f W os K=some d→
  ∃ y,K y=some d∧∀{g:Kt β} {r:β},nK w G C F g os y=some r→kC P rs N b i e F G C g r Q→Q (Vp kd) o c
 |[],s,K,d,h=>by cases h
 |[A],s,K,d,h=>by
  simp only[mC]at h
  split at h
  ·rename_i a
   have a:=FB a
   have h:qD w F n G C f W A.2 K=some d:=by cases kd <;> first |exact h |exact absurd rfl m
   obtain⟨y,j,k⟩:=Pf (P:=P) (rs:=rs) (β:=β) (Q:=Q) t u (by rw[a];exact m) z v h
   exact⟨y,j,λ{g r} q l=>a▸ k q l⟩
  ·cases h
 |A :: p :: os,s,K,d,h=>by
  simp only[mC]at h
  split at h
  ·rename_i a
   have a:=FB a
   have h:qD w F n G C f W A.2 (λx=>K (.inl x))=some d:=by cases kd <;> first |exact h |exact absurd rfl m
   obtain⟨y,j,k⟩:=Pf (P:=P) (rs:=rs) (β:=β) (Q:=Q) t u (by rw[a];exact m) z v h
   exact⟨.inl y,j,λ{g r} q l=>a▸ k q l⟩
  ·obtain⟨y,j,k⟩:=FO t u m z v (os:=p :: os) h
   exact⟨.inr y,j,λ{g r} q l=>k q l⟩
theorem La{N:Nat}{P:Program}{rs:List ResultVar}{β:Type}{n:Nat}{f:Fr}{Q:Exit→Act→World→Prop}{x:V}(j:H0 b F G C)(s:F≤n)(u:mT P rs N b i e x W n o c)(t:ld F C W):
  ∀ {os:List (Kd×Js)} {d:Type} {K:kA os→Option d} {a:d},mC w F n G C .ret x f W os K=some a→
  ∃ y,K y=some a∧∀{g:Kt β} {r:β},nK w G C F g os y=some r→kC P rs N b i e F G C g r Q→Q .ret o c
 |[],d,K,a,h=>by cases h
 |[z],d,K,a,h=>by
  simp only[mC]at h
  split at h
  ·rename_i q
   exact Tl j s (FB q) u t h
  ·cases h
 |z :: p :: os,d,K,a,h=>by
  simp only[mC]at h
  split at h
  ·rename_i q
   obtain⟨y,k,l⟩:=Tl (P:=P) (rs:=rs) (β:=β) (Q:=Q) j s (FB q) u t h
   exact⟨.inl y,k,λ{g r} v m=>l v m⟩
  ·obtain⟨y,k,l⟩:=La j s u t (os:=p :: os) h
   exact⟨.inr y,k,λ{g r} v m=>l v m⟩
theorem Fd{N:Nat}{K:Kt y}(h:A5 w u G C F K D=some E)(O:fG N b i e (· < F) G C o c)(q:kC a t N b i e F G C K E g)(A:∀{p:Type} {d:eV} {z:Kt p} {I:p},D p d G C F z=some I→kC a t N b i e F G C z I g→Q.wp a g o c):Q.wp a g o c:=by
 unfold A5 at h;split at h
 ·rename_i j d;obtain⟨x,P,v⟩:=f9 h;have s:=O.h0;refine A P ⟨λM B H d J hp l m n=>?_,λR M B H d J hp l m n=>?_,λQ B H d J hp l m n=>?_⟩
  ·obtain⟨L,f,k⟩:=FO (P:=a) (rs:=t) (β:=y) (Q:=g) (kd:=.norm) s l (λr=>by cases r) n m hp
   cases f
   exact k v q
  ·obtain⟨L,f,k⟩:=FO (P:=a) (rs:=t) (β:=y) (Q:=g) (kd:=.exit R) s l (λr=>by cases r) n m hp
   cases f
   exact k v q
  ·obtain⟨L,f,k⟩:=La (P:=a) (rs:=t) (β:=y) (Q:=g) s l n m hp
   cases f
   exact k v q
 ·exact A h q
theorem PU{N:Nat}:∀(k:Nat) {n:Nat} {f:Fr} {l:Lo} {K:Kt y} {c:Act} {w:World} {d:Exit→Act→World→Prop},rounds D u k f l n K=some E→fG N b i e (· < n) f l c w→kC a t N b i e n f l K E d→
  (∀{g:Type} {u:eV} {j:Fr} {m:Lo} {o:Nat} {q:Kt g} {s:g} {c:Act} {w:World} {Q':Exit→Act→World→Prop},D g u j m o q=some s→fG N b i e (· < o) j m c w→kC a t N b i e o j m q s Q'→Q.wp a Q' c w)→Code.rounds a Q d k c w
 |0,n,f,l,K,c,w,d,h,_,_,_=>by cases h
 |k+1,n,f,l,K,c,w,d,h,z,p,r=>
  VK (r (Q':=Exit.then (Code.rounds a Q d k) d) h z ⟨λj m o u C hp v x A=>PU k hp A (p.step v x) r,λB=>p.exit B,p.ret⟩)
theorem ZiD{N:Nat}{K:Kt y}(h:nZ w u G C F K D=some E)(J:fG N b i e (· < F) G C o c)(I:kC a t N b i e F G C K E g)(X:∀{B:Type} {m:eV} {n:Fr} {f:Lo} {l:Nat} {P:Kt B} {Y:B} {o:Act} {c:World} {R:Exit→Act→World→Prop},D B m n f l P=some Y→fG N b i e (· < l) n f o c→kC a t N b i e l n f P Y R→Q.wp a R o c):(Code.loop Q).wp a g o c:=by
 unfold nZ at h;split at h
 ·rename_i j Z;have H:=J.h0;obtain⟨z,h1,h2,h3,h4⟩:=Hy H (Nat.le_refl F) J eX.refl h;obtain⟨a2,hl,U⟩:=f9 h1;refine qN hl (λs o c=>F≤bN G C j.head s F∧fG N b i e (· < bN G C j.head s F) (bF G C j.head s F) (bL w G C j.head s F) o c∧eX F G C (bF G C j.head s F) (bL w G C j.head s F)) ⟨h2,h3,h4⟩ ?_;rintro s o c st ⟨d,i2,L⟩ W N' hN S;rw[FR]at W;refine X W i2 ⟨λn f l m M hp p q r=>?_,λa1 n f l m M hp p q r=>?_,λQ f l m M hp p q r=>?_⟩
  ·obtain⟨x,v,A,k3,k4⟩:=Hy H (Nat.le_trans d p) r (L.trans q d) hp
   cases v
   exact hN x rfl m M ⟨A,k3,k4⟩
  ·obtain⟨O,v,A⟩:=FO (P:=a) (rs:=t) (β:=y) (Q:=g) (kd:=.exit a1) H (Nat.le_trans d p) (λa0=>by cases a0) r (L.trans q d) hp
   cases v
   have:=S O rfl;subst this;exact A U I
  ·obtain⟨O,v,A⟩:=La (P:=a) (rs:=t) (β:=y) (Q:=g) H (Nat.le_trans d p) r (L.l.trans q d) hp
   cases v
   have:=S O rfl;subst this;exact A U I
 ·rename_i k Z;exact wp_loop_rounds k (PU k h J I X)
 ·cases h
theorem ZzD{N:Nat}(d:dZ N b i e (· < w) (· < w) G C o c H B m){q:ResultVar}{z:V}(h:J6 G C a q=some z)(hz:∀v,z ≠ .tup v):∃f,RR B H C false z f∧z.ok (· < w)∧lX a o.tmps c q (z.val f):=by
 unfold J6 at h;split at h
 ·rename_i t;split at h
  ·rename_i n r
   cases h
   obtain⟨f,p,S⟩:=jv (d.fr t n r) hz;obtain⟨σ,s,j⟩:=d.st.ev1 (.tmp t);exact⟨f,p,(d.uf t n r).1,by rw[←S];exact gO s j⟩
  ·cases h
 ·rename_i x t;split at h
  ·rename_i k st u r;split at h
   ·rename_i M a4 ty v F;split at h
    ·rename_i q Z;have a0:=d.fr x _ r;obtain⟨y,a1,_,hy⟩:=fW a0 (λ_ n=>by cases n) rfl rfl
     cases a1
     obtain⟨b',J,D⟩:=hy _ F;obtain⟨E,es,W,Y⟩:=d.loc F;obtain⟨P,f,A,R,g3,rfl⟩:=W;have E:M=u:=E;subst E;have A:H M= .box P:=A;rw[A]at J;cases J;have U:v.ok (· < w):=(d.ul _ (Zv F).1).2.2;obtain⟨L,a2,k3,O,k5⟩:=m7 FU h R U;obtain⟨a3,X⟩:=Y _ (List.mem_singleton.2 rfl);have K:((f.drop 0).take q.1).length=q.1:=by simp at k5 ⊢;omega
     have I:=d.st.box X 0 ((f.drop 0).take q.1) (by rw[K]);obtain⟨σ,s,j⟩:=d.st.ev1 (.tmp x);have D:o.eval (.tmp x)=_:=D;rw[D]at j;have l:=xz Z;refine⟨_,L,a2,?_⟩
     cases g:z.isAgg with
     |true=>
      rw[←O,g]at l;unfold V.val;rw[g];exact tV s j l K I
     |false=>
      rw[←O,g]at l;have p:=m6 FU h g;have Q:=Bp L p g;rw[←k3,p]at l;rw[Q]at I;exact tW s j l I
    ·cases h
   ·cases h
  ·cases h
theorem Qw{N:Nat}(j:dZ N b i e (· < w) (· < w) G C o c H B m):∀{g:List ResultVar} {d:V},GT G C a g=some d→∃f,RR B H C true d f∧d.ok (· < w)∧pP a o.tmps c g f
 |[],d,h=>by cases h;exact⟨[],rfl,trivial,trivial⟩
 |q :: g,d,h=>by
  simp only[GT]at h
  split at h
  ·cases h
  ·rename_i z A r n p
   cases h
   obtain⟨k,s,t,u⟩:=ZzD j n (λd l=>r d (by rw[l]))
   obtain⟨f,v,x,y⟩:=Qw j p
   exact⟨_,⟨k,f,rfl,s,v⟩,⟨t,x⟩,u,y⟩
  ·cases h
theorem ZjA{id:Nat}(h:(Nat.beq w id=true→g .normal o c)∧(Nat.beq w id=false→g (.exit w) o c)):Exit.inBlock id g (.exit w) o c:=by
 cases a:Nat.beq w id
 ·have b:¬w=id:=λe=>by rw[e]at a;simp at a
  simp only[Exit.inBlock,iN b];exact h.2 a
 ·simp only[Exit.inBlock,iP (eH a)];exact h.1 a
theorem D7{N:Nat}(H:e9 A){cf:fq}(X:we A cf):∀(c:Code) {m:Type} {p:eV} {f:Fr} {l:Lo} {n:Nat} {K:Kt m} {r:m} {Q:Exit→Act→World→Prop} {a:Act} {j:World},
  jr A cf t w N c m p f l n K=some r→fG N b i e (· < n) f l a j→kC A.P t N b i e n f l K r Q→c.wp A.P Q a j:=by
 intro c
 induction c with
 |skip=>intro m p f l n K r Q a j h d g;exact wp_skip (g.norm f l n a j h (Nat.le_refl n) eX.refl d)
 |label E=>intro m p f l n K r Q a j h d g;exact wp_label (g.norm f l n a j h (Nat.le_refl n) eX.refl d)
 |region id a6 a5=>
  intro m p f l n K r Q a j hh d g;refine Fd hh d g λ{β C S r'} h I=>?_;clear hh;split at h
  ·rename_i F;exact wp_region_list (AY H X (Ez F) h (λo G=>G) d I.norm)
  ·rename_i F;split at h
   ·rename_i Y W;split at h
    ·rename_i G;exact WN H X G Y W (Ez F) h d I.norm
    split at h
    ·exact rP H Y W (Ez F) h d I.norm
    ·rename_i o G;exact Yg H X G Y W (Ez F) h d I.norm
   ·cases h
  ·cases h
 |seq x y B O=>
  intro m p f l n K r Q a j h d g;refine Fd h d g λ{β C S r'} h g=>?_;refine wp_seq (B h d ⟨λU Z n' C w' hp J L M=>O hp M (g.step J L),λE=>g.exit E,g.ret⟩)
 |cond c x y B O=>
  intro m p f l n K r Q a j h d g;refine Fd h d g λ{β C S r'} h g=>?_
  cases c with
  |tmp a0=>
   simp only at h;split at h
   ·rename_i k s q z;have hk:k=a0:=(Zv z).2;subst hk;obtain⟨P,v,R,d⟩:=d;have a2:a.eval (.tmp k)= .bool q:=xY (d.fr k _ z);have a1:=dZ.dup d z;have a3:=eX.dup (m:=n) (l:=l) z
    cases q with
    |true=>exact wp_cond_true a2 (B h ⟨P,v,R,a1⟩ (g.step (Nat.le_refl n) a3))
    |false=>exact wp_cond_false a2 (O h ⟨P,v,R,a1⟩ (g.step (Nat.le_refl n) a3))
   ·cases h
  |const v=>
   cases v with
   |bool w=>cases w with
    |true=>exact wp_cond_true rfl (B h d g)
    |false=>exact wp_cond_false rfl (O h d g)
   |_=>cases h
  |_=>cases h
 |block id x B=>
  intro m p f l n K r Q a j h d g;refine Fd h d g λ{β C S r'} h g=>?_;refine wp_block (B h d ⟨g.norm,λE U Z n' C w' hp J L M=>ZjA ⟨λD=>?_,λD=>?_⟩,g.ret⟩)
  ·simp only[D]at hp;exact g.norm U Z n' C w' hp J L M
  ·simp only[D]at hp;exact g.exit E U Z n' C w' hp J L M
 |loop x B=>
  intro m p f l n K r Q a j h d g;exact ZiD h d g λh d g=>B h d g
 |scope x B=>
  intro m p f l n K r Q a j h d g;exact wp_scope_straight (B h d ⟨g.norm,g.exit,g.ret⟩)
 |exit E=>intro m p f l n K r Q a j h d g;exact wp_exit (g.exit E f l n a j h (Nat.le_refl n) eX.refl d)
 |ret=>
  intro m p f l n K r Q a j h d g;simp only[jr]at h;split at h
  ·rename_i c hc;obtain⟨P,v,R,d⟩:=d;obtain⟨a4,k1,k2,k3⟩:=Qw d hc;exact wp_ret (g.ret c l n a j h (Nat.le_refl n) (λu D z _=>z) ⟨P,v,R,a4,⟨d.st,λa0 D z=>(by cases z),d.lr,d.nd,λa0 D z=>(by cases z),d.ul,d.gh⟩,k1,k2,k3⟩)
  ·cases h
 |_=>intro m p f l n K r Q a j h d g;cases h
theorem St.afterB{es E:List dY}{I:Zb}(d:St h i e q (es++m) B o c)(x:fb ⟨c,es.filterMap dY.blk⟩ S)(s:eO ⟨c,es.filterMap dY.blk⟩ B S I)(K:∀u ∈ E,u.holds S∧∀k,u.blk=some k→(c.heap.size≤k∨k ∈ es.filterMap dY.blk)∧I k=none)(a3:(E.filterMap dY.blk).Nodup):St h i e q (E++m) I o S:=by
 have M:∀k,k ∈ es.filterMap dY.blk→(i.wd.heap.size≤k∨k ∈ i.lent):=λk f=>by
  obtain⟨u,Z,r⟩:=List.mem_filterMap.1 f;exact((d.loc u (List.mem_append_left _ Z)).2 k r).1
 have N:∀k,k<i.wd.heap.size→k ∉ i.lent→k ∉ es.filterMap dY.blk:=λk f t F=>by
  rcases M k F with J |J
  ·omega
  ·exact t J
 have G:=d.nd;rw[List.filterMap_append]at G;have U:=(List.nodup_append.1 G).2.2;have H:∀y ∈ m,∀a,y.blk=some a→a<c.heap.size∧a ∉ es.filterMap dY.blk:=λy g a r=>by
  obtain⟨_,a1⟩:=dY.blk_get (d.loc y (List.mem_append_right _ g)).1 r;refine⟨qO a1,λF=>?_⟩;exact U a F a (List.mem_filterMap.2 ⟨y,g,r⟩) rfl
 refine⟨d.size,d.dfr,d.fr,⟨x.os.trans d.ext.os,x.tape.trans d.ext.tape,x.output.trans d.ext.output,Nat.le_trans d.ext.size x.size,λk f t=>?_⟩,⟨Zb.le_trans d.vst.le s.le,s.vin,λk f t=>?_⟩,λy g=>?_,?_⟩
 ·rw[x.block k (Nat.lt_of_lt_of_le f d.ext.size) (N k f t)];exact d.ext.block k f t
 ·rw[s.old k (Nat.lt_of_lt_of_le f d.ext.size) (N k f t)];exact d.vst.old k f t
 ·rcases List.mem_append.1 g with g |g
  ·obtain⟨j,w⟩:=K y g;refine⟨j,λb r=>⟨?_,(w b r).2⟩⟩;rcases(w b r).1 with v |v
   ·exact .inl (Nat.le_trans d.ext.size v)
   ·exact M b v
  ·obtain⟨j,w⟩:=d.loc y (List.mem_append_right _ g);have D:∀a,y.blk=some a→S.heap[a]?= c.heap[a]?:=λa z=>by
    obtain⟨C,A⟩:=H y g a z;exact x.block a C A
   refine⟨?_,λa z=>⟨(w a z).1,?_⟩⟩
   ·cases y with
    |box a O R=>show _=_;rw[D a rfl];exact j
    |own a O sz n a5 R=>
     cases a with
     |none=>exact j
     |some a=>
      obtain⟨q1,P,q2,q3⟩:=j;exact⟨q1,P,by rw[D a rfl];exact q2,q3⟩
    |mp a l=>obtain⟨X,Q,k1,L⟩:=j;exact⟨X,Q,by rw[D a rfl];exact k1,L⟩
    |it a s p=>show _=_;rw[D a rfl];exact j
   ·obtain⟨C,A⟩:=H y g a z;rw[s.old a C A];exact(w a z).2
 ·rw[List.filterMap_append];refine List.nodup_append.2 ⟨a3,(List.nodup_append.1 G).2.1,λk f L a2 u=>?_⟩;subst u;obtain⟨W,a0,Y⟩:=List.mem_filterMap.1 f;obtain⟨y,g,a4⟩:=List.mem_filterMap.1 a2;obtain⟨C,A⟩:=H y g k a4;rcases((K W a0).2 k Y).1 with v |v
  ·omega
  ·exact A v
theorem I6:∀{l:Lo},Ed h l=true→∀e ∈ l,∀d c,e.x= .box d c→e.st<h
 |[],_,e,b,_,_,_=>by cases b
 |p :: r,a,e,b,d,c,f=>by
  unfold Ed at a
  rcases List.mem_cons.1 b with rfl |b
  ·split at a
   ·split at a
    ·rename_i g
     exact of_decide_eq_true (by simpa [Nat.blt_eq] using g)
    ·cases a
   ·rename_i i
    exact absurd f (i d c)
  ·split at a
   ·split at a
    ·exact I6 a e b d c f
    ·cases a
   ·exact I6 a e b d c f
theorem W7{p:fk}(hB:xR a k p){a5:V}{K:V→Lo→Nat→Option y}(r:nN p a5 C h K=some E){N:Nat}(M:dZ N b i e (· < h) (· < h) [] C o c H B m)(b8:RR B H C true a5 d)(hk:a5.ok (· < h)):ZT a k∧Calls a k d.toArray c λg w'=>∃I R l' n' ax v' cc,g= .returned I∧K R l' n'=some E∧h≤n'∧(∀f,eX h f C f l')∧dZ N b i e (· < n') (· < n') [] l' o w' ax v' cc∧RV v' ax l' (po R) I∧(po R).ok (· < n'):=by
 unfold nN at r;split at r
 ·rename_i u ci;obtain⟨cs,xs,rfl,hp,c3⟩:=b8;obtain⟨I,rfl,_,hy⟩:=hp;have hu:u<h:=hk.1;have h1:=DT (Nat.le_refl h) eX.refl M.nd (BM r);have c0:dZ N b i e (· < h) (· < h+1) [] C o c H B m:=M.mono (λ_ r=>r) λj r=>(show j<h+1 by have:j<h:=r;omega);obtain⟨x,l1,cb,v1,ck,h2,r1,au,q1⟩:=xS (U:=(· < h)) (X:=(· < h+1)) (Nat.lt_irrefl h) (Nat.lt_succ_self h) h1 c0 hk.2;obtain⟨z,A,Q,v2,ag,es,e0,h3,r2,a0,av,bd,bh,bv,bp⟩:=J2 (U:=(· < h)) (X:=(· < h+1)) (Nat.lt_irrefl h) (Nat.lt_succ_self h) (ex:=[]) hu h2 r1 r1.st;have a0:St N i e [] (es++ag) v2 o c:=a0;obtain⟨W,hF,Y,ao⟩:=h3;have le:=au.trans av;obtain⟨az,c1,e1,bo,bc,bx,bj⟩:=bd;obtain⟨xh,ad⟩:=bp;obtain⟨ey,a9,Z⟩:=au.l u e0 hu bh;obtain⟨b',aj,b9⟩:∃b',H u= .box b'∧I= .pointer (some ⟨b',0,none⟩):=by
   have hy:=hy ey a9;obtain⟨n,st,L⟩:=ey
   cases L with
   |box P R=>exact hy
   |own _ _ _ _=>rw[ad]at Z;exact Z.elim
   |_=>exact hy.elim
  have al:cb u=H u:=by
   rw[ad]at Z;obtain⟨n,st,L⟩:=ey
   cases L with
   |box P R=>exact Z
   |_=>exact Z.elim
  have a8:b'=az:=by rw[bo,aj]at al;cases al;rfl
  subst a8;subst b9;have b7:=Ma av.v (q1 _ c3);have bs:∀g ∈ es,g.holds c∧∀j,g.blk=some j→v2 j=none:=λg l=>by
   obtain⟨t1,t2⟩:=a0.loc g (List.mem_append_left _ l);exact⟨t1,λj hk=>(t2 j hk).2⟩
  have bu:(es.filterMap dY.blk).Nodup:=by
   have:=a0.nd;rw[List.filterMap_append]at this;exact(List.nodup_append.1 this).1
  obtain⟨bi,c4⟩:=hB c v2 b' es xs z x W a0.vin ⟨b',c1,e1,rfl,bc,bx,bj⟩ bs bu b7 hF;refine⟨bi,Calls.mono c4 λg w' ⟨I,v',e2,bn,a1,c2,b2,bf,bk,bt⟩=>?_⟩;have c7:St N i e [] (b2++ag) v' o w':=a0.afterB bn a1 bk bt;split at Y
  ·rename_i ba;have cg:∀j,j<h→j<h+1:=λj r=>by omega
   obtain⟨k1,k2,k3,ay,k4,k5⟩:=Lu (hh:=0) bf (Nat.lt_succ_of_lt hu) (Nat.zero_le _) (l2:=(fN 0 (.box p.ty p.c) W.1 u (h+1)).1) (n2:=(fN 0 (.box p.ty p.c) W.1 u (h+1)).2) rfl;have Y:K (vn p.res W.2) ((fN 0 (.box p.ty p.c) W.1 u (h+1)).1++A) (fN 0 (.box p.ty p.c) W.1 u (h+1)).2=some E:=Y;generalize(fN 0 (.box p.ty p.c) W.1 u (h+1)).1=O at k2 k3 k5 Y;generalize(fN 0 (.box p.ty p.c) W.1 u (h+1)).2=a4 at k1 k2 Y;have ak:∀g ∈ A,g.k ∉ O.map En.k:=λg l F=>by
    obtain⟨D,a2,G⟩:=List.mem_map.1 F;have h1:g.k<h+1:=(r2.ul g l).1;rcases(k2 D a2).1 with⟨q,_⟩ |q
    ·have:=B5 bv;exact this (List.mem_map.2 ⟨g,l,by rw[←G,q]⟩)
    ·omega
   have an:((O++A).map En.k).Nodup:=G0 k3 r2.nd ak
   let v:Nat→Gh:=λj=>if j ∈ O.map En.k then ay j else Q j
   have ar:∀g ∈ O,v g.k=ay g.k∧eC (O++A) g.k=some g:=λg l=>⟨iP (List.mem_map.2 ⟨g,l,rfl⟩),oW an (List.mem_append_left _ l)⟩;have aq:∀g ∈ A,v g.k=Q g.k:=λg l=>iN (ak g l);obtain⟨EI,b5,bw⟩:=k5 v (O++A) ar;obtain⟨E2,b4,ap⟩:=r2.lr;have aw:Le (· < h) B H C v' v (O++A):=⟨Zb.le_trans le.v a1.le,λq D hq a2=>by
    obtain⟨ab,G⟩:=Zv a2;rcases List.mem_append.1 ab with F |F
    ·rcases(k2 D F).1 with⟨q1,ca,q2⟩ |q1
     ·have bz:q=u:=by rw[←G,q1]
      subst bz;refine⟨ey,a9,?_⟩;obtain⟨ky,sy,Ly⟩:=ey;obtain⟨k',s',L'⟩:=D;have q2:L'= .box p.ty ca:=q2;subst q2;have c8:=hy _ a9
      cases Ly with
      |box P R=>
       show v q=H q;have:=(ar _ F).1;have G:k'=q:=G;subst G;rw[this,aj];exact k4
      |own _ _ _ _=>rw[ad]at Z;exact Z.elim
      |_=>exact c8.elim
     ·have hq:q<h:=hq;omega
    ·have aa:eC A q=some D:=by rw[←G];exact oW r2.nd F
     obtain⟨g,q3,q4⟩:=le.l q D hq aa;refine⟨g,q3,JS (λj hk=>hk) ?_ q4⟩;rw[←G];exact aq D F⟩
   have b6:F2 (gQ v' v (O++A)) A E2:=b4.impm λg l ai bm hR=>by
    have bq:∀x ∈ ai,x ∈ ag:=λx hx=>ap.mem_iff.2 (List.mem_flatten.2 ⟨ai,bm,hx⟩);have J:=aq g l;obtain⟨n,st,L⟩:=g
    cases L with
    |box P R=>
     obtain⟨bb,ah,w,S,U,rfl⟩:=hR;have c6:st<h:=I6 ba _ l P R rfl;have am:=oW r2.nd l;have a3:=ao.2 n _ am c6;obtain⟨jj,ce,t1,t2⟩:=M.loc a3;obtain⟨b0,a6,d1,d2,d3,rfl⟩:=t1;have w:Q n= .box bb:=w;have d1:H n= .box b0:=d1;have br:n<h:=(M.ul _ (Zv a3).1).1;obtain⟨eE,q3,q4⟩:=le.l n _ br am;rw[a3]at q3;cases q3;have q4:Q n=H n:=q4;have a8:bb=b0:=by rw[w,d1]at q4;cases q4;rfl
     subst a8;obtain⟨ch,hi⟩:=t2 _ (List.mem_singleton.2 rfl);have m1:=(M.st.loc _ (mG hi)).1;have m2:=(a0.loc _ (List.mem_append_right _ (bq _ (List.mem_singleton.2 rfl)))).1;have m1:c.heap[bb]?= some (.cells a6.toArray P (0,0)):=m1;have m2:c.heap[bb]?= some (.cells ah.toArray P (0,0)):=m2;rw[m1]at m2;have bg:a6=ah:=by
      have:=Option.some.inj m2
      injection this with h1 _ _
      have:=congrArg Array.toList h1
      simpa using this
     subst bg;exact⟨bb,a6,by rw[show v n=Q n from J];exact w,jl aw (M.ul _ (Zv a3).1).2.2 d2,d3,rfl⟩
    |own P t xs fz=>
     cases fz with
     |false=>obtain⟨ob,X,b1,w,S,U⟩:=hR;exact⟨ob,X,b1,by rw[show v n=Q n from J];exact w,ZQ a1.le S,U⟩
     |true=>obtain⟨ob,X,w,S,U⟩:=hR;exact⟨ob,X,by rw[show v n=Q n from J];exact w,ee.mono _ a1.le S,U⟩
    |mat P c9 t mm hv=>obtain⟨ob,X,ae,a7,w,S,U⟩:=hR;exact⟨ob,X,ae,a7,by rw[show v n=Q n from J];exact w,mn a1.le S,U⟩
    |mid P c9 t mm hv s=>obtain⟨ob,X,ae,a7,hs,b3,w,S,U⟩:=hR;exact⟨ob,X,ae,a7,hs,b3,by rw[show v n=Q n from J];exact w,mn a1.le S,U⟩
   obtain⟨t1,t2⟩:=L8 (γ:=v) (l:=O++A) (U:=(· < a4)) c2;have up:∀j,j<h→j<a4:=λj r=>by omega
   have af:∀j,j<h+1→j<a4:=λj r=>by omega
   refine⟨I,_,_,_,v,v',_,e2,Y,by omega,λf=>⟨λ_ _ r _=>r,λq D a2 c5=>?_⟩,⟨c7.perm (List.Perm.append bw ap),λt g l=>(by cases l),⟨EI++E2,b5.append b6,by rw[List.flatten_append]⟩,an,λt g l=>(by cases l),λg l=>?_,λx I J=>⟨jD aw (M.gh x I J).2 (M.gh x I J).1,V.ok.mono up (M.gh x I J).2⟩⟩,t1,t2⟩
   ·obtain⟨ab,G⟩:=Zv a2;rcases List.mem_append.1 ab with F |F
    ·have:=(k2 D F).2.1;omega
    ·have aa:eC A q=some D:=by rw[←G];exact oW r2.nd F
     exact ao.2 q D aa c5
   ·rcases List.mem_append.1 l with l |l
    ·obtain⟨p1,p2,p3,p4⟩:=k2 g l;refine⟨?_,p3,p4⟩;rcases p1 with⟨p1,_⟩ |p1
     ·show g.k<a4;omega
     ·exact p1.2
    ·obtain⟨p1,p2,p3⟩:=r2.ul g l;exact⟨af _ p1,af _ p2,LV.ok.mono up af p3⟩
  ·cases Y
 ·cases r
def vq:List Value→Value
 |[x]=>x
 |a=>.tuple a.toArray
theorem RC:∀{rs:List ResultVar} {vals:List Value},pP a M c rs vals→(rs.mapM (HF M)).run a c= .ok vals c
 |[],[],_=>by simp
 |q :: rs,y :: vals,h=>by
  have b:=Fx h.1
  have d:=RC (rs:=rs) (vals:=vals) h.2
  simp[List.mapM_cons,b,d]
 |[],_ :: _,h=>h.elim
 |_ :: _,[],h=>h.elim
theorem w7{vals:List Value}(h:pP a M c p.results.toList vals):(results p M).run a c= .ok (vq vals) c:=by
 have b:=RC h;rw[My];rw[Array.mapM_eq_mapM_toList]
 match vals with
 |[]=>simp[b,vq]
 |[x]=>simp[b,vq]
 |x :: y :: r=>simp[b,vq]
theorem tg{U:Nat→Prop}(h:RR e H C true N d)(g:N.ok U):RV e H C (po N) (vq d)∧(po N).ok U:=by
 cases N with
 |nl=>rw[show d=[] from h];exact⟨⟨[],rfl,rfl⟩,trivial⟩
 |cons a b=>
  obtain⟨i,n,rfl,c,f⟩:=h
  cases b with
  |nl=>
   rw[show n=[] from f];exact⟨km c (λN k=>by subst k;exact c),g.1⟩
  |cons p q=>
   obtain⟨j,o,rfl,l,m⟩:=f;exact⟨⟨_,⟨i,_,rfl,c,j,o,rfl,l,m⟩,rfl⟩,g⟩
  |_=>exact f.elim
 |_=>exact h.elim
theorem Dk:∀{l:List Value} {k t:Nat} {y:Value},l[t]?= some y→look (kS k l) (k+t)=some y
 |[],_,_,_,h=>by simp at h
 |x :: l,k,0,y,h=>by
  simp at h;subst h
  exact v7 rfl
 |x :: l,k,t+1,y,h=>by
  have a:=Dk (l:=l) (k:=k+1) (t:=t) (y:=y) (by simpa using h)
  rw[show kS k (x :: l)=(k,x) :: kS (k+1) l from rfl,Cj (by omega),show k+(t+1)=k+1+t by omega]
  exact a
def kL(C:Cf)(a:g9):Prop:=∀g p,fV a g=some p→C.P.funcs[g]?= some p.1∧ZT C.P g
theorem G9(E:e9 A)(X:kL A z)(d:Nat):we A (vg A z d):=by
 induction d with
 |zero=>intro α g J l n K r h;cases h
 |succ d ih=>
  intro α g J l n K r h N G w0 v0 a w γ v a0 a2 k q F;simp only[vg]at h;split at h
  ·rename_i L R;exact W7 (E.b g L R) h k q F
  ·split at h
   ·rename_i O a1 W;obtain⟨U,S⟩:=X g _ W;split at h
    ·rename_i c P s;have Z:=UA q;have s:=lB s;have hx:=XR (N':=O.ntmps) k q F (by rw[Z];exact s);refine⟨S,calls_of_wp U P ?_⟩;refine D7 E ih c h ⟨γ,v,a0,hx⟩ ⟨λM o p D I hp H m b=>?_,λi M o p D I hp H m b=>(by cases hp),λc o p D I hp H m b=>?_⟩
     ·unfold rT at hp;split at hp
      ·rename_i u;obtain⟨B,y,C,b⟩:=b;refine⟨b.st.dfr,_,w7 (vals:=[]) (by rw[u];exact trivial),_,.nl,o,p,B,y,C,rfl,hp,by omega,λf=>⟨λ_ _ h _=>h,m.l.mono (by omega)⟩,⟨⟨k.st.size,k.st.dfr,λt x h=>(by cases h),b.st.ext,b.st.vst,b.st.loc,b.st.nd⟩,λt e j=>(by cases j),b.lr,b.nd,λt e j=>(by cases j),b.ul,b.gh⟩,?_⟩;exact⟨⟨[],rfl,rfl⟩,trivial⟩
      ·cases hp
     ·obtain⟨B,y,C,a3,b,Q,Y,u⟩:=b;exact⟨b.st.dfr,_,w7 u,_,c,o,p,B,y,C,rfl,hp,by omega,λf=>⟨λ_ _ h _=>h,m.mono (by omega)⟩,⟨⟨k.st.size,k.st.dfr,λt x h=>(by cases h),b.st.ext,b.st.vst,b.st.loc,b.st.nd⟩,λt e j=>(by cases j),b.lr,b.nd,λt e j=>(by cases j),b.ul,b.gh⟩,tg Q Y⟩
    ·cases h
   ·cases h
theorem xO{γ:Nat→Gh}{l:Lo}{U:Nat→Prop}:∀{ts:List T} {d:List Value} {x:ZF ts},gW e ts d x→RR e γ l true (kT ts x) d∧(kT ts x).ok U∧d.length=ts.length
 |[],_,_,h=>⟨h,trivial,by rw[show _=[] from h];rfl⟩
 |[t],_,x,⟨a,b,c⟩=>⟨⟨a,[],by rw[b];exact congrArg (λz=>[z]) (Cc (t:=t) (x:=x) (cs:=a)).symm,c,rfl⟩,⟨trivial,trivial⟩,by rw[b];rfl⟩
 |t :: u :: r,_,x,⟨a,f,b,c,g⟩=>by
  obtain⟨i,j,k⟩:=xO (γ:=γ) (l:=l) (U:=U) g
  exact⟨⟨a,f,by rw[b];exact congrArg (· :: f) (Cc (t:=t) (x:=x.1) (cs:=a)).symm,c,i⟩,⟨trivial,j⟩,by rw[b];simp[k]⟩
theorem TG:∀{ts:List T} {a:List Value} {z:ZF ts},gW e ts a z→nx e ts (vq a) z
 |[],_,_,h=>by rw[show _=[] from h];exact⟨[],rfl,rfl⟩
 |[t],_,x,⟨d,c,f⟩=>by rw[c];exact⟨d,rfl,f⟩
 |t :: u :: r,a,x,h=>by
  obtain⟨d,i,c,f,g⟩:=h
  have k:1≤i.length:=by
   cases r with
   |nil=>obtain⟨j,b,_⟩:=g;rw[b];simp
   |cons m l=>obtain⟨j,n,b,_⟩:=g;rw[b];simp
  have b:vq a= .tuple a.toArray:=by
   subst c
   cases i with
   |nil=>simp at k
   |cons y o=>rfl
  rw[b];exact⟨a,rfl,d,i,c,f,g⟩
theorem LF(F:e9 A)(U:kL A z){B:ZF I}(S:A.P.funcs[k]?= some p)(X:Nat.ble s.length p.ntmps=true)(h:DP A z p u s I L=some B)(hv:fc e c)(P:gW e s d L):fM A.P k d.toArray c e λy w=>nx w I y B:=by
 unfold DP at h;split at h
 ·rename_i C Q;obtain⟨D,E,N⟩:=xO (γ:=λ_=>.box 0) (l:=[]) (U:=(· < 0)) P;have O:d.length≤p.ntmps:=by rw[N];exact lB X
  refine CM hv S Q rfl O λa f=>?_;have Y:dZ p.ntmps (λ_ _=>False) c e (· < 1) (· < 1) (jt 0 0 (kT s L)) [] a c (λ_=>.box 0) e []:=by
   refine⟨⟨f.size,f.dfr,λt L h=>(by cases h),f.ext,f.vst,f.loc,f.nd⟩,λt o g=>?_,⟨[],trivial,List.Perm.refl _⟩,List.nodup_nil,λt o g=>?_,λo g=>(by cases g),λL y h=>h.elim⟩
   ·obtain⟨y,q1,m,J,K,q5⟩:=lw D E g;have:=f.fr t y ?_
    ·rw[this];exact J
    ·have m:d[t-0]?= some y:=m;have:=Dk (k:=0) (t:=t) (y:=y) (by simpa using m)
     rwa [Nat.zero_add]at this
   ·obtain⟨y,q1,m,J,K,q5⟩:=lw D E g;exact⟨V.ok.mono (λl h=>absurd h (Nat.not_lt_zero l)) K,by show o.st<1;omega⟩
  refine D7 F (G9 F U 20) C h ⟨_,_,_,Y⟩ ⟨λM v b n x hp G H j=>(by cases hp),λi M v b n x hp G H j=>(by cases hp),λC v b n x hp G H j=>?_⟩;obtain⟨a1,w,a2,a3,j,R,W,a0⟩:=j;have Z:dZ p.ntmps (λ_ _=>False) c e (· < b) (· < b+1) [] v n x a1 w a2:=j.mono (λ_ h=>h) λl h=>(show l<b+1 by have:l<b:=h;omega);obtain⟨y,l2,a4,v2,a5,q,r,k3,k4⟩:=xS (U:=(· < b)) (X:=(· < b+1)) (Nat.lt_irrefl b) (Nat.lt_succ_self b) (BM hp) Z W;have q:some y=some B:=q
  cases q
  exact⟨r.st.dfr,_,w7 a0,_,v2,rfl,r.st.ext.ext,r.st.vst.ext,TG (k4 _ R)⟩
 ·cases h
def CL(P:Program):List (FuncId×eu)→Prop
 |[]=>True
 |p :: r=>mq P p.1 p.2∧CL P r
def OL(P:Program):List (FuncId×f7)→Prop
 |[]=>True
 |p :: r=>o8 P p.1 p.2∧OL P r
def ML(P:Program):List ((TypeId×String)×FuncId)→Prop
 |[]=>True
 |p :: r=>(∀y w,(method (P.types.size+Made.depth) p.1.1 y p.1.2).run P w= .ok (p.2,y) w)∧ML P r
def NL(P:Program):g9→Prop
 |[]=>True
 |p :: r=>(P.funcs[p.1]?= some p.2.1∧ZT P p.1)∧NL P r
theorem uU:∀{l:List (FuncId×eu)},CL a l→∀f c,fV l f=some c→mq a f c
 |[],_,_,_,h=>by cases h
 |p :: r,b,f,c,h=>by
  simp only[fV]at h
  split at h
  ·rename_i d;cases h;rw[←eH d];exact b.1
  ·exact uU b.2 f c h
theorem u4:∀{l:List (FuncId×f7)},OL a l→∀f c,fV l f=some c→o8 a f c
 |[],_,_,_,h=>by cases h
 |p :: r,b,f,c,h=>by
  simp only[fV]at h
  split at h
  ·rename_i d;cases h;rw[←eH d];exact b.1
  ·exact u4 b.2 f c h
theorem uZ:∀{l:List ((TypeId×String)×FuncId)},ML a l→∀t s f,EM l t s=some f→∀y w,(method (a.types.size+Made.depth) t y s).run a w= .ok (f,y) w
 |[],_,_,_,_,h=>by cases h
 |p :: r,b,t,s,f,h=>by
  simp only[EM]at h
  split at h
  ·rename_i c hs
   cases h
   rw[←eH c,←eq_of_beq hs];exact b.1
  ·exact uZ b.2 t s f h
def QL(P:Program):List (FuncId×iO)→Prop
 |[]=>True
 |p :: r=>Bf P p.1 p.2∧QL P r
theorem u5:∀{l:List (FuncId×iO)},QL a l→∀f c,fV l f=some c→Bf a f c
 |[],_,_,_,h=>by cases h
 |p :: r,b,f,c,h=>by
  simp only[fV]at h
  split at h
  ·rename_i d;cases h;rw[←eH d];exact b.1
  ·exact u5 b.2 f c h
def BL(P:Program):List (FuncId×fk)→Prop
 |[]=>True
 |p :: r=>xR P p.1 p.2∧BL P r
theorem uT:∀{l:List (FuncId×fk)},BL a l→∀f c,fV l f=some c→xR a f c
 |[],_,_,_,h=>by cases h
 |p :: r,k,f,c,h=>by
  simp only[fV]at h
  split at h
  ·rename_i b
   cases h
   rw[←eH b];exact k.1
  ·exact uT k.2 f c h
def DL(P:Program):List (FuncId×il)→Prop
 |[]=>True
 |p :: r=>xv P p.1 p.2∧DL P r
theorem uW:∀{l:List (FuncId×il)},DL a l→∀f c,fV l f=some c→xv a f c
 |[],_,_,_,h=>by cases h
 |p :: r,k,f,c,h=>by
  simp only[fV]at h
  split at h
  ·rename_i b
   cases h
   rw[←eH b];exact k.1
  ·exact uW k.2 f c h
theorem e9.of(b:CL A.P A.cons)(e:OL A.P A.owns)(d:ML A.P A.meths)(f:QL A.P A.omats:=by exact trivial)(a:BL A.P A.boxs:=by exact trivial)(c:DL A.P A.dels:=by exact trivial):e9 A:=⟨uU b,u4 e,uZ d,u5 f,uT a,uW c⟩
theorem kL.of:∀{l:g9},NL A.P l→kL A l
 |[],_,_,_,h=>by cases h
 |p :: r,a,g,q,h=>by
  simp only[fV]at h
  split at h
  ·rename_i b;cases h;rw[←eH b];exact a.1
  ·exact kL.of (l:=r) a.2 g q h
def yV(b:TypeId)(t:T)(c:V)(l:Lo):Option (List t.den):=match c with
 |.cons (.own u) .nl=>match eC l u with
  |some ⟨_,_,.own d a e false⟩=>match Nat.beq d b with
   |true=>mJ a t e
   |false=>none
  |_=>none
 |_=>none
def FV(C:Cf)(e:g9)(a:Func)(d:eV)(b:List T)(f:TypeId)(t:T)(x:ZF b):Option (List t.den):=match a.body with
 |some c=>jr C (vg C e 20) a.results.toList 0 a.ntmps c _ d (jt 0 0 (kT b x)) [] 1 ⟨λ_ _ _=>none,λ_ _ _ _=>none,λc l _=>yV f t c l⟩
 |none=>none
theorem ZnB(G:e9 A)(a2:kL A z){E:List U.den}(hf:A.P.funcs[k]?= some p)(hl:Nat.ble s.length p.ntmps=true)(h:FV A z p u s v U L=some E)(hv:fc e c)(ha:gW e s d L):mS A.P k d.toArray c e λy D r=>w5 U.rep v U.n E c y D r:=by
 unfold FV at h;split at h
 ·rename_i t hc;obtain⟨g,q,Y⟩:=xO (γ:=λ_=>.box 0) (l:=[]) (U:=(· < 0)) ha;have Z:d.length≤p.ntmps:=by rw[Y];exact lB hl
  refine Ch hv hf hc rfl Z λa l=>?_;have hr:dZ p.ntmps (λ_ _=>False) c e (· < 1) (· < 1) (jt 0 0 (kT s L)) [] a c (λ_=>.box 0) e []:=by
   refine⟨⟨l.size,l.dfr,λU L h=>(by cases h),l.ext,l.vst,l.loc,l.nd⟩,λU o j=>?_,⟨[],trivial,List.Perm.refl _⟩,List.nodup_nil,λU o j=>?_,λo j=>(by cases j),λL y h=>h.elim⟩
   ·obtain⟨y,m,n,M,N,q5⟩:=lw g q j;have:=l.fr U y ?_
    ·rw[this];exact M
    ·have n:d[U-0]?= some y:=n;have:=Dk (k:=0) (t:=U) (y:=y) (by simpa using n)
     rwa [Nat.zero_add]at this
   ·obtain⟨y,m,n,M,N,q5⟩:=lw g q j;exact⟨V.ok.mono (λa5 h=>absurd h (Nat.not_lt_zero a5)) N,by show o.st<1;omega⟩
  refine D7 G (G9 G a2 20) t h ⟨_,_,_,hr⟩ ⟨λW C K F r hp H I f=>(by cases hp),λi W C K F r hp H I f=>(by cases hp),λt C K F r hp H I f=>?_⟩;obtain⟨a8,D,ae,ad,f,a0,a9,a4⟩:=f;have hp:yV v U t C=some E:=hp;unfold yV at hp;split at hp
  ·rename_i ab;split at hp
   ·rename_i J st aa t' xs j;split at hp
    ·rename_i x;have x:=eH x;subst x;obtain⟨R,S⟩:=fK hp
     cases R;cases S
     obtain⟨c1,a7,rfl,⟨y,rfl,_,hy⟩,B⟩:=a0;have B:a7=[]:=B;subst B;obtain⟨ob,O,X,rfl⟩:=hy _ j;obtain⟨w,es,a1,a3⟩:=f.loc j;have w:J=_:=w;subst w;obtain⟨a6,P,Q,m,n,rfl⟩:=a1;have m:a8 J= .own a6 P:=m;rw[X]at m;cases m;obtain⟨jj,hj⟩:=a3 _ List.mem_cons_self;obtain⟨hh,hb⟩:=f.st.loc _ (mG hj);refine⟨f.st.dfr,_,w7 a4,_,D,rfl,f.st.ext.ext,f.st.vst.ext,ob,_,O,Q,rfl,hh,λb o=>?_,n,rfl⟩;obtain⟨g,q⟩:=hb b o;rcases g with g |g
     ·exact⟨g,q⟩
     ·cases g
    ·cases hp
   ·cases hp
  ·cases hp
 ·cases h
theorem yL(e:CL A.P A.cons)(n:OL A.P A.owns)(l:ML A.P A.meths)(m:NL A.P z){a:f7}(i:A.P.funcs[k]?= some p)(g:ZT A.P k)(j:Nat.ble a.args.length p.ntmps=true)(h:∀x b,a.F x=some b→FV A z p u a.args a.ty a.t x=some b)(o:QL A.P A.omats:=by exact trivial)(d:BL A.P A.boxs:=by exact trivial)(f:DL A.P A.dels:=by exact trivial):o8 A.P k a :=
 λ_ _ _ x b q c r=>⟨g,ZnB (e9.of e n l o d f) (kL.of m) i j (h x b r) q c⟩
def yU(b e:TypeId)(t:T)(c:V)(l:Lo):Option (List (List t.den)):=match c with
 |.cons (.own u) .nl=>match eC l u with
  |some ⟨_,_,.mat d f a m _⟩=>match Nat.beq d b,Nat.beq f e with
   |true,true=>jz a t m
   |_,_=>none
  |_=>none
 |_=>none
def HH(C:Cf)(e:g9)(a:Func)(d:eV)(b:List T)(f g:TypeId)(t:T)(x:ZF b):Option (List (List t.den)):=match a.body with
 |some c=>jr C (vg C e 20) a.results.toList 0 a.ntmps c _ d (jt 0 0 (kT b x)) [] 1 ⟨λ_ _ _=>none,λ_ _ _ _=>none,λc l _=>yU f g t c l⟩
 |none=>none
theorem VF{es:List dY}{E:List dY}(h:(m.filterMap dY.blk).Nodup)(hp:m.Perm (es++E)):(es.filterMap dY.blk).Nodup:=by
 have a:=(hp.filterMap dY.blk).nodup_iff.1 h;rw[List.filterMap_append]at a;exact(List.nodup_append.1 a).1
theorem Ww(F:e9 A)(a1:kL A z){C:List (List U.den)}(hf:A.P.funcs[k]?= some p)(hl:Nat.ble s.length p.ntmps=true)(h:HH A z p u s v K U L=some C)(hv:fc e c)(ha:gW e s d L):mS A.P k d.toArray c e (Cr v K U C c):=by
 unfold HH at h;split at h
 ·rename_i r hc;obtain⟨j,q,h3⟩:=xO (γ:=λ_=>.box 0) (l:=[]) (U:=(· < 0)) ha;have hK:d.length≤p.ntmps:=by rw[h3];exact lB hl
  refine Ch hv hf hc rfl hK λa l=>?_;have hr:dZ p.ntmps (λ_ _=>False) c e (· < 1) (· < 1) (jt 0 0 (kT s L)) [] a c (λ_=>.box 0) e []:=by
   refine⟨⟨l.size,l.dfr,λU L h=>(by cases h),l.ext,l.vst,l.loc,l.nd⟩,λU o g=>?_,⟨[],trivial,List.Perm.refl _⟩,List.nodup_nil,λU o g=>?_,λo g=>(by cases g),λL y h=>h.elim⟩
   ·obtain⟨y,m,n,N,O,q5⟩:=lw j q g;have:=l.fr U y ?_
    ·rw[this];exact N
    ·have n:d[U-0]?= some y:=n;have:=Dk (k:=0) (t:=U) (y:=y) (by simpa using n)
     rwa [Nat.zero_add]at this
   ·obtain⟨y,m,n,N,O,q5⟩:=lw j q g;exact⟨V.ok.mono (λa4 h=>absurd h (Nat.not_lt_zero a4)) O,by show o.st<1;omega⟩
  refine D7 F (G9 F a1 20) r h ⟨_,_,_,hr⟩ ⟨λY B M D Q hp G H f=>(by cases hp),λi Y B M D Q hp G H f=>(by cases hp),λr B M D Q hp G H f=>?_⟩;obtain⟨a8,v',ai,ah,f,a0,aa,a3⟩:=f;have hp:yU v K U r B=some C:=hp;unfold yU at hp;split at hp
  ·rename_i ag;split at hp
   ·rename_i J st ae af t' m' ab g;split at hp
    ·rename_i t w;have t:=eH t;have w:=eH w;subst t w;obtain⟨S,W⟩:=fK hp
     cases S;cases W
     obtain⟨c1,a7,rfl,⟨y,rfl,_,hy⟩,x⟩:=a0;have x:a7=[]:=x;subst x;obtain⟨ob,a9,ad,Z,rfl⟩:=hy _ g;obtain⟨E,hE,I⟩:=f.lr;obtain⟨es,E',r1,r2,P⟩:=xq hE g;obtain⟨a5,R,a6,X,m,n,rfl⟩:=r1;have a2:J=_:=(Zv g).2;subst a2;have m:a8 J= .mat a5 R a6:=m;rw[Z]at m;cases m;refine⟨f.st.dfr,_,w7 a3,_,v',rfl,f.st.ext.ext,f.st.vst.ext,_,_,_,X,rfl,n,λL hx=>?_,VF f.st.nd (I.trans P)⟩;obtain⟨hh,hb⟩:=f.st.loc L ((I.trans P).mem_iff.2 (List.mem_append_left _ hx));refine⟨hh,λb o=>?_⟩;obtain⟨j,q⟩:=hb b o;rcases j with j |j
     ·exact⟨j,q⟩
     ·cases j
    ·cases hp
   ·cases hp
  ·cases hp
 ·cases h
theorem yK(e:CL A.P A.cons)(n:OL A.P A.owns)(l:ML A.P A.meths)(m:NL A.P z){a:iO}(i:A.P.funcs[k]?= some p)(g:ZT A.P k)(j:Nat.ble a.args.length p.ntmps=true)(h:∀x b,a.F x=some b→HH A z p u a.args a.ty a.ty2 a.t x=some b)(o:QL A.P A.omats:=by exact trivial)(d:BL A.P A.boxs:=by exact trivial)(f:DL A.P A.dels:=by exact trivial):Bf A.P k a :=
 λ_ _ _ x b q c r=>⟨g,Ww (e9.of e n l o d f) (kL.of m) i j (h x b r) q c⟩
def yT(d:TypeId)(c:CT)(a:List T)(b:V)(l:Lo)(n:Nat):Option (c.den×ZF a):=iH n (pY a b λy=>mI 0 (.box d c) 0 λz=>.done (z,y)) [] l λr _ _=>some r
def HP(C:Cf)(g:g9)(a:Func)(f:eV)(d:TypeId)(c:CT)(e b:List T)(z:c.den)(x:ZF e):Option (c.den×ZF b):=match a.body with
 |some cd=>match fN 0 (.box d c) z 0 1 with
  |(l,m)=>jr C (vg C g 20) a.results.toList m a.ntmps cd _ f (jt 0 0 (.cons (.ptr 0 0) (kT e x))) l m ⟨rT a (yT d c b),λ_ _ _ _=>none,yT d c b⟩
 |none=>none
theorem Wb(hC:e9 A)(aj:kL A z){l:CT}{w:l.den}{r:l.den×ZF I}(hf:A.P.funcs[k]?= some p)(hl:Nat.ble (s.length+1) p.ntmps=true)(j:HP A z p u v l s I w L=some r){es:List dY}(hv:fc e c)(hz:pN e (.box v l) w (.box h) es)(a4:∀a ∈ es,a.holds c∧∀n,a.blk=some n→e n=none)(an:(es.filterMap dY.blk).Nodup)(ha:gW e s d L):
  oY A.P k (Value.pointer (some ⟨h,0,none⟩) :: d).toArray c e (es.filterMap dY.blk) (wZ v l I h r (es.filterMap dY.blk) c):=by
 unfold HP at j;split at j
 ·rename_i cd hc;obtain⟨k1,Y,k3,O,k4,k5⟩:=Lu (hh:=0) (u:=0) (n:=1) hz (by omega) (by omega) (l2:=(fN 0 (.box v l) w 0 1).1) (n2:=(fN 0 (.box v l) w 0 1).2) rfl;have a6:∀a ∈ (fN 0 (.box v l) w 0 1).1,eC (fN 0 (.box v l) w 0 1).1 a.k=some a:=λa b=>oW k3 b;obtain⟨E,hE,ao⟩:=k5 O _ λa b=>⟨rfl,a6 a b⟩;have a5:∀a,eC (fN 0 (.box v l) w 0 1).1 0=some a→∃xh,a.x= .box v xh:=λa b=>by
   obtain⟨hm,ax⟩:=Zv b;rcases(Y a hm).1 with⟨_,q⟩ |q
   ·exact q
   ·omega
  have j:jr A (vg A z 20) p.results.toList (fN 0 (.box v l) w 0 1).2 p.ntmps cd _ u (jt 0 0 (.cons (.ptr 0 0) (kT s L))) (fN 0 (.box v l) w 0 1).1 (fN 0 (.box v l) w 0 1).2 _=some r:=j;generalize(fN 0 (.box v l) w 0 1).1=R at Y k3 hE a6 a5 j;generalize(fN 0 (.box v l) w 0 1).2=m at k1 Y j;have a0:RR e O R true (.cons (.ptr 0 0) (kT s L)) (Value.pointer (some ⟨h,0,none⟩) :: d):=by
   obtain⟨o,J,K⟩:=xO (γ:=O) (l:=R) (U:=(· < 0)) ha;refine⟨[.pointer (some ⟨h,0,none⟩)],d,rfl,⟨_,rfl,rfl,λa b=>?_⟩,o⟩;obtain⟨xh,hx⟩:=a5 a b;rw[hx];exact⟨h,k4,rfl⟩
  have a8:(V.cons (.ptr 0 0) (kT s L)).ok (· < m):=⟨(show 0<m by omega),V.ok.mono (λn j=>absurd j (Nat.not_lt_zero n)) (xO (γ:=O) (l:=R) (U:=(· < 0)) ha).2.1⟩;have al:=(xO (γ:=O) (l:=R) (U:=(· < 0)) ha).2.2;have hK:d.length+1≤p.ntmps:=by rw[al];exact lB hl
  refine calls_of_wp hf hc ?_;have hS:=St.enter (K:=p.ntmps) hv (Value.pointer (some ⟨h,0,none⟩) :: d) (by simpa using hK);have am:∀a ∈ es,∀n,a.blk=some n→n ∈ es.filterMap dY.blk:=λa b n U=>List.mem_filterMap.2 ⟨a,b,U⟩;have hr:dZ p.ntmps (λL y=>L= .ptr 0 0∧y= .pointer (some ⟨h,0,none⟩)) ⟨c,es.filterMap dY.blk⟩ e (· < m) (· < m) (jt 0 0 (.cons (.ptr 0 0) (kT s L))) R { tmps:=(Value.pointer (some ⟨h,0,none⟩) :: d).toArray++Array.replicate (p.ntmps-(Value.pointer (some ⟨h,0,none⟩) :: d).toArray.size) undef,defers:=[] } c O e es:=by
   refine⟨⟨hS.size,hS.dfr,λt L j=>(by cases j),fb.refl ⟨c,es.filterMap dY.blk⟩,⟨Zb.le_refl _,hv,λ_ _ _=>rfl⟩,λa b=>⟨(a4 a b).1,λn U=>⟨.inr (am a b n U),(a4 a b).2 n U⟩⟩,an⟩,λt a b=>?_,⟨E,hE,ao⟩,k3,λt a b=>?_,λa b=>?_,λL y hg=>?_⟩
   ·obtain⟨y,o,J,K,M,q5⟩:=lw a0 a8 b;have:=hS.fr t y ?_
    ·rw[this];exact K
    ·have:=Dk (k:=0) (t:=t) (y:=y) (by simpa using J)
     rwa [Nat.zero_add]at this
   ·obtain⟨y,o,J,K,M,q5⟩:=lw a0 a8 b;exact⟨M,by show a.st<m;omega⟩
   ·obtain⟨o,J,K,M⟩:=Y a b;refine⟨?_,K,M⟩;rcases o with⟨o,_⟩ |o
    ·show a.k<m;omega
    ·exact o.2
   ·obtain⟨rfl,rfl⟩:=hg;obtain⟨c1,b1,o,J,K⟩:=a0;obtain⟨yy,rfl,M⟩:=J;have o:Value.pointer (some ⟨h,0,none⟩)=yy:=(List.cons.inj o).1;subst o;exact⟨⟨_,⟨_,rfl,M⟩,rfl⟩,(show 0<m by omega)⟩
  have gr:∀{Q:V} {B:Lo} {f:Nat} {D:Act} {x:World} {G:Nat→Gh} {F:Zb} {P:List dY} {vals':List Value},yT v l I Q B f=some r→m≤f→dZ p.ntmps (λL y=>L= .ptr 0 0∧y= .pointer (some ⟨h,0,none⟩)) ⟨c,es.filterMap dY.blk⟩ e (· < f) (· < f) [] B D x G F P→RR F G B true Q vals'→Q.ok (· < f)→
    ∃ C,fb ⟨c,es.filterMap dY.blk⟩ x∧eO ⟨c,es.filterMap dY.blk⟩ e x C∧wZ v l I h r (es.filterMap dY.blk) c (vq vals') C x:=by
   intro Q B f D x G F P vals' hx ay g af ab;have h1:=BM hx;have aq:dZ p.ntmps (λL y=>L= .ptr 0 0∧y= .pointer (some ⟨h,0,none⟩)) ⟨c,es.filterMap dY.blk⟩ e (· < f) (· < f+1) [] B D x G F P:=g.mono (λ_ j=>j) λn j=>(show n<f+1 by have:n<f:=j;omega);obtain⟨y,l1,b4,v1,b6,h2,r1,b0,o⟩:=xS (U:=(· < f)) (X:=(· < f+1)) (Nat.lt_irrefl f) (Nat.lt_succ_self f) h1 aq ab;obtain⟨z2,l2,b5,C,aw,a3,e0,Z,r2,H,av,ae,ag,az,ai⟩:=J2 (U:=(· < f)) (X:=(· < f+1)) (Nat.lt_irrefl f) (Nat.lt_succ_self f) (ex:=[]) (show 0<f by omega) h2 r1 r1.st;have Z:some (z2,y)=some r:=Z
   cases Z
   have H:St p.ntmps ⟨c,es.filterMap dY.blk⟩ e [] (a3++aw) C D x:=H;obtain⟨b2,c1,e1,hg,ad,ap,ah⟩:=ae;have a9:b2=h:=by
    obtain⟨⟨cs,⟨yy,rfl,_,X⟩,a2⟩,_⟩:=r1.gh _ _ ⟨rfl,rfl⟩;have a2:Value.pointer (some ⟨h,0,none⟩)=yy:=a2;subst a2;obtain⟨xh,au⟩:=ai;have X:=X _ ag;rw[au]at X;obtain⟨b3,N,S⟩:=X;rw[hg]at N;cases N;cases S;rfl
   subst a9;refine⟨C,H.ext,H.vst,TG (Ma av.v (o _ af)),a3,⟨b2,c1,e1,rfl,ad,ap,ah⟩,λa b=>?_,?_⟩
   ·exact H.loc a (List.mem_append_left _ b)
   ·have:=H.nd;rw[List.filterMap_append]at this;exact(List.nodup_append.1 this).1
  refine D7 hC (G9 hC aj 20) cd j ⟨_,_,_,hr⟩ ⟨λf' B f D x hp W a7 g=>?_,λi f' B f D x hp W a7 g=>(by cases hp),λQ B f D x hp W a7 g=>?_⟩
  ·unfold rT at hp;split at hp
   ·rename_i a1;obtain⟨G,F,P,g⟩:=g;have ar:dZ p.ntmps (λL y=>L= .ptr 0 0∧y= .pointer (some ⟨h,0,none⟩)) ⟨c,es.filterMap dY.blk⟩ e (· < f) (· < f) [] B D x G F P:=⟨⟨g.st.size,g.st.dfr,λt L j=>(by cases j),g.st.ext,g.st.vst,g.st.loc,g.st.nd⟩,λt a b=>(by cases b),g.lr,g.nd,λt a b=>(by cases b),g.ul,g.gh⟩;obtain⟨C,N,S,t3⟩:=gr hp W ar (vals':=[]) rfl trivial;exact⟨g.st.dfr,_,w7 (vals:=[]) (by rw[a1];exact trivial),_,C,rfl,N,S,t3⟩
   ·cases hp
  ·obtain⟨G,F,P,vals',g,aa,ak,a1⟩:=g;obtain⟨C,N,S,t3⟩:=gr hp W g aa ak;exact⟨g.st.dfr,_,w7 a1,_,C,rfl,N,S,t3⟩
 ·cases j
theorem yJ(f:CL A.P A.cons)(s:OL A.P A.owns)(n:ML A.P A.meths)(o:NL A.P z){a:fk}(l:A.P.funcs[k]?= some p)(i:ZT A.P k)(m:Nat.ble (a.args.length+1) p.ntmps=true)(h:∀b x r,a.F b x=some r→HP A z p u a.ty a.c a.args a.res b x=some r)(t:QL A.P A.omats:=by exact trivial)(e:BL A.P A.boxs:=by exact trivial)(g:DL A.P A.dels:=by exact trivial):xR A.P k a :=
 λ_ _ _ _ _ b x r v w j q d c=>⟨i,Wb (e9.of f s n t e g) (kL.of o) l m (h b x r c) v w j q d⟩
theorem tr:True:=trivial
abbrev eV.n(a:eV):eV:=.two .no a
abbrev eV.f(a:eV):eV:=.two a .no
abbrev eV.j(s:List Nat)(p:List Pl)(v:List Vr)(a:eV):eV:=.cut ⟨⟨[],[],[]⟩,[(.norm,⟨s,p,v⟩)]⟩ a
abbrev eV.r(s:List Nat)(p:List Pl)(v:List Vr)(a:eV):eV:=.cut ⟨⟨[],[],[]⟩,[(.ret,⟨s,p,v⟩)]⟩ a
abbrev eV.l(s:List Nat)(p:List Pl)(v:List Vr)(k:Nat)(c:List Nat)(b:List Pl)(d:List Vr)(a:eV):eV:=.cut ⟨⟨s,p,v⟩,[(.exit k,⟨c,b,d⟩)]⟩ a
def mN(P:Program)(f:FuncId)(c:eu):Prop:=∀(w:World) (v:Zb) (a:List Value) (x:ZF c.args) (z:ZF c.res),fc v w→gW v c.args a x→c.F x=some z→ZT P f∧fM P f a.toArray w v λy b=>nx b c.res y z
theorem Zi{c:eu}(h:mN a k c):mq a k c:=λw v f x z d b e=>.inl (h w v f x z d b e)
theorem Zm{C:Cf}(c:eV)(j:C.P.funcs[k]?= some p)(b:g9)(h:∀a,DP C b p c s I a=x a)(f:CL C.P C.cons:=by exact tr)(o:OL C.P C.owns:=by exact tr)(m:ML C.P C.meths:=by exact tr)(n:NL C.P b:=by exact tr)(q:QL C.P C.omats:=by exact tr)(e:BL C.P C.boxs:=by exact tr)(g:DL C.P C.dels:=by exact tr)(i:ZT C.P k:=by exact λ_ _=>by kernel_rfl)(l:Nat.ble s.length p.ntmps=true:=by exact rfl):mN C.P k ⟨s,I,x⟩ :=
 λ_ _ _ a _ r d t=>⟨i,LF (e9.of f o m q e g) (kL.of n) j l ((h a).trans t) r d⟩
theorem ZC{C:Cf}(e:eV)(l:C.P.funcs[k]?= some p)(d:g9)(h:∀v b a z,gW v s b a→x a=some z→DP C d p e s I a=some z)(g:CL C.P C.cons:=by exact tr)(q:OL C.P C.owns:=by exact tr)(n:ML C.P C.meths:=by exact tr)(o:NL C.P d:=by exact tr)(r:QL C.P C.omats:=by exact tr)(f:BL C.P C.boxs:=by exact tr)(i:DL C.P C.dels:=by exact tr)(j:ZT C.P k:=by exact λ_ _=>by kernel_rfl)(m:Nat.ble s.length p.ntmps=true:=by exact rfl):mN C.P k ⟨s,I,x⟩ :=
 λ_ v b a z t c u=>⟨j,LF (e9.of g q n r f i) (kL.of o) l m (h v b a z c u) t c⟩
theorem IA{C:Cf}(j:eV)(t:C.P.funcs[k]?= some p)(i:g9)(c d:List T)(e:ZF s→ZF c)(f:ZF I→ZF d)(h:∀v b a z,gW v s b a→x a=some z→DP C i p j c d (e a)=some (f z))(o:CL C.P C.cons:=by exact tr)(B:OL C.P C.owns:=by exact tr)(w:ML C.P C.meths:=by exact tr)(A:NL C.P i:=by exact tr)(l:∀v b a,gW v s b a→gW v c b (e a):=by exact λ_ _ _ h=>h)(m:∀v y z,nx v d y (f z)→nx v I y z:=by exact λ_ _ _ h=>h)(D:QL C.P C.omats:=by exact tr)(n:BL C.P C.boxs:=by exact tr)(q:DL C.P C.dels:=by exact tr)(r:ZT C.P k:=by exact λ_ _=>by kernel_rfl)(u:Nat.ble c.length p.ntmps=true:=by exact rfl):mN C.P k ⟨s,I,x⟩ :=
 λ_ v b a z E g G=>⟨r,(LF (e9.of o B w D n q) (kL.of A) t u (h v b a z g G) E (l v b a g)).mono λy H _ F=>m H y z F⟩
theorem Rj{F:ZF s→Option (List U.den)}{C:Cf}(b:eV)(g:C.P.funcs[k]?= some p)(a:g9)(h:∀x,FV C a p b s v U x=F x)(d:CL C.P C.cons:=by exact tr)(m:OL C.P C.owns:=by exact tr)(j:ML C.P C.meths:=by exact tr)(l:NL C.P a:=by exact tr)(n:QL C.P C.omats:=by exact tr)(c:BL C.P C.boxs:=by exact tr)(e:DL C.P C.dels:=by exact tr)(f:ZT C.P k:=by exact λ_ _=>by kernel_rfl)(i:Nat.ble s.length p.ntmps=true:=by exact rfl):o8 C.P k ⟨s,v,U,F⟩ :=
 yL d m j l g f i (λx _ o=>(h x).trans o) n c e
theorem UT{F:ZF s→Option (List (List U.den))}{C:Cf}(b:eV)(g:C.P.funcs[k]?= some p)(a:g9)(h:∀x,HH C a p b s v K U x=F x)(d:CL C.P C.cons:=by exact tr)(m:OL C.P C.owns:=by exact tr)(j:ML C.P C.meths:=by exact tr)(l:NL C.P a:=by exact tr)(n:QL C.P C.omats:=by exact tr)(c:BL C.P C.boxs:=by exact tr)(e:DL C.P C.dels:=by exact tr)(f:ZT C.P k:=by exact λ_ _=>by kernel_rfl)(i:Nat.ble s.length p.ntmps=true:=by exact rfl):Bf C.P k ⟨s,v,K,U,F⟩ :=
 yK d m j l g f i (λx _ o=>(h x).trans o) n c e
theorem mf{c:CT}{F:c.den→ZF s→Option (c.den×ZF I)}{C:Cf}(b:eV)(i:C.P.funcs[k]?= some p)(a:g9)(h:∀z x,HP C a p b v c s I z x=F z x)(e:CL C.P C.cons:=by exact tr)(n:OL C.P C.owns:=by exact tr)(l:ML C.P C.meths:=by exact tr)(m:NL C.P a:=by exact tr)(o:QL C.P C.omats:=by exact tr)(d:BL C.P C.boxs:=by exact tr)(f:DL C.P C.dels:=by exact tr)(g:ZT C.P k:=by exact λ_ _=>by kernel_rfl)(j:Nat.ble (s.length+1) p.ntmps=true:=by exact rfl):xR C.P k ⟨v,c,s,I,F⟩ :=
 yJ e n l m i g j (λz x _ q=>(h z x).trans q) o d f
section
open Go.Proofs
abbrev lf:List (TypeId×Nat):=[(37,0),(39,2),(49,1),(51,4),(77,3)]
abbrev lfS:List (TypeId×Nat):=[(37,0),(39,2),(42,8),(49,1),(51,4),(77,3)]
noncomputable abbrev eD(c:List (FuncId×eu))(m:List Nat)(o:List (FuncId×f7))(s:List ((TypeId×String)×FuncId)):Cf:=⟨Tryz.prog,lf,c,m,o,s,{}⟩
noncomputable abbrev ft(l:List (TypeId×Nat))(c:List (FuncId×eu)):Cf:=⟨Tryz.prog,l,c,[],[],[],{}⟩
noncomputable abbrev Cl(c:List (FuncId×eu))(m:List Nat)(o:List (FuncId×f7))(s:List ((TypeId×String)×FuncId))(q:List (FuncId×iO))(b:List (FuncId×fk))(d:List (FuncId×il)):Cf:=⟨Tryz.prog,lf,c,m,o,s,⟨q,b,d⟩⟩
noncomputable abbrev sL(C:Cf):Cf:=⟨C.P,lfS,C.cons,C.mats,C.owns,C.meths,C.ex⟩
abbrev KQ(q:FuncId×eu):=mq Tryz.prog q.1 q.2
abbrev KR(q:FuncId×eu):=mN Tryz.prog q.1 q.2
abbrev KO(q:FuncId×f7):=o8 Tryz.prog q.1 q.2
abbrev KW(q:FuncId×iO):=Bf Tryz.prog q.1 q.2
abbrev KB(q:FuncId×fk):=xR Tryz.prog q.1 q.2
noncomputable def Ra:FuncId×eu:=(12,⟨[.slice (.pair (.int .i64) (.int .i64))],[.bool],λp=>Fs p⟩)
theorem ZsA:KQ Ra:=Zi (Zm (C:=eD [] [] [] []) (.n (.f (.n (.f (.cut ⟨⟨[5,6],[],[.s 7 (.dat (.int .i64))]⟩,[(.exit 0,⟨[],[],[]⟩),(.ret,⟨[],[],[.s 1000 (.dat .bool)]⟩)]⟩ (.f (.n (.n (.f (.f (.n (.f (.j [5,6,7] [] [.s 24 (.dat .bool)] .no))))))))))))) Tryz.func12 [] (λ_=>by kernel_rfl))
noncomputable def RZ:FuncId×eu:=(4,⟨[.slice (.pair (.pair (.int .i64) (.int .i64)) (.pair (.pair (.int .i64) (.int .i64)) (.pair (.pair (.int .i64) (.int .i64)) (.pair (.int .i64) (.int .i64)))))],[.bool],λp=>qh p⟩)
theorem Ws:KQ RZ:=Zi (Zm (C:=eD [Ra] [] [] []) (.n (.f (.n (.f (.cut ⟨⟨[5,6],[],[.s 7 (.dat (.int .i64))]⟩,[(.exit 0,⟨[],[],[]⟩),(.ret,⟨[],[],[.s 1000 (.dat .bool)]⟩)]⟩ .no))))) Tryz.func4 [] (λ_=>by kernel_rfl) ⟨ZsA,tr⟩)
noncomputable def vt:FuncId×eu:=(160,⟨[.slice (.int .u64)],[.leaf 0],λp=>gX p⟩)
theorem wz:KR vt:=IA (C:=ft [] []) (.n (.f (.j [] [] [.s 0 (.dat (.slice (.int .u64)))] (.f (.l [] [] [.s 0 (.dat (.slice (.int .u64)))] 0 [] [] [.s 0 (.dat (.slice (.int .u64)))] (.f (.f (.f (.j [0] [] [.s 14 (.dat .bool)] .no))))))))) Tryz.func160 [] [.slice (.int .u64)] [.slice (.int .u64)] (λx=>(x)) (λz=>(Zc 18446744073709551616 z)) (λv f x z b c=>by obtain⟨d,e,a⟩:=b;exact .trans (by kernel_rfl) (by cases c;exact(yM (IS a).1 (IS a).2)))
theorem BA:KQ vt:=Zi wz
noncomputable def x6:FuncId×eu:=(115,⟨[.int .u64],[.leaf 0],λp=>ju p⟩)
theorem QJ:KR x6:=ZC (C:=ft [(37,0)] [vt]) .no Tryz.func115 [] (λv c x z b a=>.trans (by kernel_rfl) (Xv a)) ⟨BA,tr⟩
theorem CA:KQ x6:=Zi QJ
noncomputable def zP:FuncId×eu:=(149,⟨[.int .i64],[.leaf 2],λp=>wI p⟩)
theorem ER:KQ zP:=Zi (ZC (C:=eD [x6] [] [] []) .no Tryz.func149 [] (λv f x z a b=>by obtain⟨d,e,c⟩:=a;exact .trans (by kernel_rfl) (zO c.2 b)) ⟨CA,tr⟩)
noncomputable def G4:FuncId×eu:=(99,⟨[.int .i64],[.leaf 3],λp=>vk p⟩)
theorem I':KQ G4:=Zi (ZC (C:=eD [zP] [] [] []) .no Tryz.func99 [] (λv c x z b a=>.trans (by kernel_rfl) (ZoE a)) ⟨ER,tr⟩)
noncomputable def Rw:FuncId×eu:=(193,⟨[.int .u64],[.int .i64],λp=>CW p⟩)
theorem sM:KQ Rw:=Zi (ZC (C:=ft [] []) (.n (.two (.n (.j [] [] [.s 0 (.dat (.int .u64)),.s 2 (.dat (.int .i64))] .no)) (.two (.n (.j [] [] [.s 0 (.dat (.int .u64)),.s 2 (.dat (.int .i64))] .no)) (.f (.n (.j [] [] [.s 0 (.dat (.int .u64)),.s 2 (.dat (.int .i64))] .no)))))) Tryz.func193 [] (λv c x z b a=>.trans (by kernel_rfl) (Ya a)))
noncomputable def Lk:FuncId×eu:=(168,⟨[.int .u64],[.int .i64],λp=>oL p⟩)
theorem Sh:KR Lk:=ZC (C:=ft [] [Rw]) .no Tryz.func168 [] (λv c x z b a=>.trans (by kernel_rfl) (ZnC a)) ⟨sM,tr⟩
theorem zG:KQ Lk:=Zi Sh
noncomputable def KT:FuncId×eu:=(159,⟨[.int .u64,.int .u64,.int .u64],[.int .u64,.int .u64],λp=>mW p.1 p.2.1 p.2.2⟩)
theorem Pg:KR KT:=ZC (C:=ft [] [Lk]) (.n (.n (.n (.n (.n (.n (.n (.n (.n (.n (.n (.n (.n (.n (.two (.j [2,8,9,10,11,13,14] [] [.s 15 (.dat (.int .u64))] (.f (.l [2,8,9,10,11,13,14] [] [.s 15 (.dat (.int .u64)),.s 16 (.dat (.int .u64))] 0 [2,8,9,10,11,13,14] [] [.s 15 (.dat (.int .u64))] (.f (.f (.f (.j [2,8,9,10,11,13,14,15,16] [] [.s 78 (.dat .bool)] .no))))))) (.n (.n (.n (.f (.j [2,8,14,15,17] [] [.s 18 (.dat (.int .u64))] (.f (.l [2,8,9,10,14,15,17] [] [.s 16 (.dat (.int .u64)),.s 18 (.dat (.int .u64))] 2 [2,8,14,15,17] [] [.s 18 (.dat (.int .u64))] (.f (.f (.f (.j [2,8,9,10,14,15,16,17,18] [] [.s 113 (.dat .bool)] .no)))))))))))))))))))))))))) Tryz.func159 [] (λv c x z b a=>.trans (by kernel_rfl) (ZgC a)) ⟨zG,tr⟩
theorem rO:KQ KT:=Zi Pg
noncomputable def ZkB:FuncId×eu:=(108,⟨[.leaf 0,.int .u64],[.leaf 0,.int .u64],λp=>pB p.1 p.2⟩)
theorem ZvA:KR ZkB:=ZC (C:=ft [(37,0)] [KT,vt]) (.n (.n (.n (.f (.n (.j [] [] [.s 6 (.own 191 (.int .u64)),.s 7 (.dat (.int .u64))] (.f (.l [0,1] [] [.s 6 (.own 191 (.int .u64)),.s 7 (.dat (.int .u64)),.s 8 (.dat (.int .i64))] 0 [] [] [.s 6 (.own 191 (.int .u64)),.s 7 (.dat (.int .u64))] .no)))))))) Tryz.func108 [] (λv i x z a b=>by obtain⟨d,j,f,h,e,g,c⟩:=a;exact .trans (by kernel_rfl) (ZfF c.2 b)) ⟨rO,BA,tr⟩
theorem Qt{h:World}{b:Zb}(p:fc b h){c:List Value}{a:Nat}(i:ee.rel Zx b c a){d:List Value}{n:Int}(j:ee.rel (Zd .u64) b d n){z:Nat×Int}(o:pB a n=some z):
  fM Tryz.prog 108 #[Zx.val c,(Zd .u64).val d] h b (λy m=>∃f g,y=Value.tuple #[Zx.val f,(Zd .u64).val g]∧Zx.rel m f z.1∧(Zd .u64).rel m g z.2) :=
 (ZvA h b [Zx.val c,(Zd .u64).val d] (a,n) z p ⟨c,_,rfl,i,d,rfl,j⟩ o).2.mono λy m _ ⟨_,e,f,_,q,k,g,r,l⟩=>by subst r;subst q;exact⟨f,g,e,k,l⟩
noncomputable def FA:FuncId×eu:=(167,⟨[.leaf 0,.leaf 0],[.int .i64],λp=>nc p.1 p.2⟩)
theorem wv:KR FA:=IA (C:=ft [] []) (.n (.n (.f (.n (.cut ⟨⟨[],[],[]⟩,[(.norm,⟨[],[],[]⟩),(.ret,⟨[],[],[.s 1000 (.dat (.int .i64))]⟩)]⟩ (.f (.cut ⟨⟨[0,1],[],[.s 5 (.dat (.int .i64))]⟩,[(.ret,⟨[],[],[.s 1000 (.dat (.int .i64))]⟩),(.exit 0,⟨[],[],[]⟩)]⟩ .no))))))) Tryz.func167 [] [.slice (.int .u64),.slice (.int .u64)] [.int .i64] (λx=>((Zc 18446744073709551616 x.1),(Zc 18446744073709551616 x.2))) (λz=>z) (λv i x z a b=>by obtain⟨e,j,g,c,f,h,d⟩:=a;exact .trans (by kernel_rfl) ((yG (Pq c) (Pq d)).trans b))
theorem wt:KQ FA:=Zi wv
theorem wq{f:World}{c:Zb}(k:fc c f){d:List Value}{a:Nat}(h:ee.rel Zx c d a){e:List Value}{b:Nat}(i:ee.rel Zx c e b){z:Int}(j:nc a b=some z):
  fM Tryz.prog 167 #[Zx.val d,Zx.val e] f c (λy l=>∃g,y=(Zd .i64).val g∧(Zd .i64).rel l g z) :=
 (wv f c [Zx.val d,Zx.val e] (a,b) z k ⟨d,_,rfl,h,e,rfl,i⟩ j).2
theorem H4{d:World}{b:Zb}(h:fc b d){c:List Value}{a:(List Int)}(f:ee.rel (Zy (Zd .u64)) b c a){z:Nat}(g:gX a=some z):
  fM Tryz.prog 160 #[(Zy (Zd .u64)).val c] d b (λy i=>∃e,y=Zx.val e∧Zx.rel i e z) :=
 (wz d b [(Zy (Zd .u64)).val c] (a) z h ⟨c,rfl,f⟩ g).2
theorem rN{h:World}{a:Zb}(r:fc a h){b:List Value}{n:Int}(i:ee.rel (Zd .u64) a b n){c:List Value}{lo:Int}(j:ee.rel (Zd .u64) a c lo){d:List Value}{y:Int}(k:ee.rel (Zd .u64) a d y){z:Int×Int}(p:mW n lo y=some z):
  fM Tryz.prog 159 #[(Zd .u64).val b,(Zd .u64).val c,(Zd .u64).val d] h a (λy o=>∃f g,y=Value.tuple #[(Zd .u64).val f,(Zd .u64).val g]∧(Zd .u64).rel o f z.1∧(Zd .u64).rel o g z.2) :=
 (Pg h a [(Zd .u64).val b,(Zd .u64).val c,(Zd .u64).val d] (n,lo,y) z r ⟨b,_,rfl,i,c,_,rfl,j,d,rfl,k⟩ p).2.mono λy o _ ⟨_,e,f,_,q,l,g,s,m⟩=>by subst s;subst q;exact⟨f,g,e,l,m⟩
noncomputable def Jz:FuncId×eu:=(165,⟨[.int .u64,.int .u64],[.int .u64,.int .u64],λp=>kO p.1 p.2⟩)
theorem Ri:KR Jz:=ZC (C:=ft [] []) .no Tryz.func165 [] (λv c x z b a=>.trans (by kernel_rfl) (WO a))
theorem sX:KQ Jz:=Zi Ri
theorem Jv{g:World}{a:Zb}(n:fc a g){b:List Value}{x:Int}(h:ee.rel (Zd .u64) a b x){c:List Value}{y:Int}(i:ee.rel (Zd .u64) a c y){z:Int×Int}(m:kO x y=some z):
  fM Tryz.prog 165 #[(Zd .u64).val b,(Zd .u64).val c] g a (λy l=>∃d f,y=Value.tuple #[(Zd .u64).val d,(Zd .u64).val f]∧(Zd .u64).rel l d z.1∧(Zd .u64).rel l f z.2) :=
 (Ri g a [(Zd .u64).val b,(Zd .u64).val c] (x,y) z n ⟨b,_,rfl,h,c,rfl,i⟩ m).2.mono λy l _ ⟨_,e,d,_,q,j,f,o,k⟩=>by subst o;subst q;exact⟨d,f,e,j,k⟩
end
theorem ZO{c:Type _}{a b:c}(h:some a=some b):a=b:=Option.some.inj h
theorem jy(b:Bool):b=true∨b=false:=(Bool.eq_false_or_eq_true b)
theorem fx{c:Zb}(h:e.le B)(k:B.le c):e.le c:=Zb.le_trans h k
theorem gS(v:Zb):v.le v:=Zb.le_refl v
theorem bO{a b:Type _}{x:Option a}{f:a→Option b}{z:b}{G:Prop}(h:dU x f=some z)(k:∀y,x=some y→f y=some z→G):G:=by obtain⟨y,e,h⟩:=f9 h;exact k y e h
theorem ZX{id:Nat}(h:wpList a R.toArray g R o c):(Code.region id R.toArray false).wp a g o c:=wp_region_lit h
theorem ZH{P:Program}{a:Act}{y:Code}(h:∀K:Act→World→Prop,(∀a c,y.wp P g a c→K a c)→Q.wp P (Exit.then K g) a c):(Code.seq Q y).wp P g a c:=wp_seq_k h
theorem gY{A:ee y}(a:e.le B)(h:A.rel e d E):A.rel B d E:=A.mono a h
theorem NK(A:ee y)(h:A.rel e d E):d.all plain=true:=A.flat h
theorem Fc(a:e.le B)(k:At e h w d):At B h w d:=At.mono a k
section
open Go.Proofs
theorem Q5:Do Tryz.prog 244 20 1:=⟨5,λ_=>by kernel_rfl,λ_=>by kernel_rfl⟩
theorem Yj:C9 Tryz.prog 191 5 .u64 .u8:=λ_ _=>by kernel_rfl
theorem SU:eZ Tryz.prog 190 9 1 16 (Value.string (Zt [])):=⟨Tryz.underlying190,by kernel_rfl,rfl,by decide⟩
theorem D5:eZ Tryz.prog 37 191 1 8 (Value.int IntKind.u64 0):=⟨Tryz.underlying37,by kernel_rfl,rfl,by decide⟩
theorem Ot:ZT Tryz.prog 108:=λ_ _=>by kernel_rfl
theorem so:ZT Tryz.prog 109:=λ_ _=>by kernel_rfl
theorem ss:ZT Tryz.prog 110:=λ_ _=>by kernel_rfl
theorem su:ZT Tryz.prog 111:=λ_ _=>by kernel_rfl
theorem sA:ZT Tryz.prog 112:=λ_ _=>by kernel_rfl
theorem sB:ZT Tryz.prog 115:=λ_ _=>by kernel_rfl
theorem sC:ZT Tryz.prog 159:=λ_ _=>by kernel_rfl
theorem FL:ZT Tryz.prog 160:=λ_ _=>by kernel_rfl
theorem Ml:ZT Tryz.prog 165:=λ_ _=>by kernel_rfl
theorem T7:ZT Tryz.prog 167:=λ_ _=>by kernel_rfl
theorem sD:ZT Tryz.prog 168:=λ_ _=>by kernel_rfl
theorem N7:ZT Tryz.prog 169:=λ_ _=>by kernel_rfl
theorem sE:ZT Tryz.prog 170:=λ_ _=>by kernel_rfl
theorem sF:ZT Tryz.prog 171:=λ_ _=>by kernel_rfl
theorem sG:ZT Tryz.prog 194:=λ_ _=>by kernel_rfl
theorem Tq:oS Tryz.prog 166 add64Entry:=⟨_,Tryz.func166,by kernel_rfl,by kernel_rfl,by kernel_rfl,by kernel_rfl⟩
theorem X7:oS Tryz.prog 200 GE:=⟨_,Tryz.func200,by kernel_rfl,by kernel_rfl,by kernel_rfl,by kernel_rfl⟩
theorem Je:Tryz.prog.follows .mixedOrders=true:=by kernel_rfl
theorem Lv:jf Tryz.prog 190 9 1:=⟨λ_=>by kernel_rfl,λ_=>by kernel_rfl⟩
theorem fX:jf Tryz.prog 37 191 1:=⟨λ_=>by kernel_rfl,λ_=>by kernel_rfl⟩
theorem jA:eS Tryz.prog 191 1 false:=⟨λ_=>by kernel_rfl,λ_=>by kernel_rfl⟩
theorem EJ:eS Tryz.prog 5 1 false:=⟨λ_=>by kernel_rfl,λ_=>by kernel_rfl⟩
theorem EK:eS Tryz.prog 9 1 false:=⟨λ_=>by kernel_rfl,λ_=>by kernel_rfl⟩
theorem sH:∀w,(zeroValue 199).run Tryz.prog w= .ok (Value.agg #[Value.pointer none,Value.slice none 0 0]) w:=λ_=>by kernel_rfl
theorem sI:∀w,(zeroValue 244).run Tryz.prog w= .ok (Value.agg #[Value.int IntKind.u8 0,Value.int IntKind.u8 0,Value.int IntKind.u8 0,Value.int IntKind.u8 0,Value.int IntKind.u8 0,Value.int IntKind.u8 0,Value.int IntKind.u8 0,Value.int IntKind.u8 0,Value.int IntKind.u8 0,Value.int IntKind.u8 0,Value.int IntKind.u8 0,Value.int IntKind.u8 0,Value.int IntKind.u8 0,Value.int IntKind.u8 0,Value.int IntKind.u8 0,Value.int IntKind.u8 0,Value.int IntKind.u8 0,Value.int IntKind.u8 0,Value.int IntKind.u8 0,Value.int IntKind.u8 0]) w:=λ_=>by kernel_rfl
theorem Az{R:World}{o:Zb}(hv:fc o R){a j g C:Nat}{E:TypeId}{i l k:List Value}{u:(List Int)}(bf:R.heap[a]?= some (.cells (i++l++k).toArray E (0,0)))(aG:j=i.length)(bg:o a=none)(au:g=u.length)(bh:g≤C∧C≤maxLen)(r:ee.rels (Zd .u64) o l u){c1:List Value}{v:Nat}(D:ee.rel Zx o c1 v){c2:List Value}{q:Int}(p2:ee.rel (Zd .u64) o c2 q){z:Bool×(List Int)}(H:Ep u v q=some z):oY Tryz.prog 194 #[.slice (some ⟨a,j,none⟩) g C,Zx.val c1,(Zd .u64).val c2] R o [a] (λy v' w'=>(∃r0,y=ny.val r0∧ny.rel v' r0 z.1)∧v' a=none∧∃cs,w'.heap[a]?= some (.cells (i++cs++k).toArray E (0,0))∧g=z.2.length∧ee.rels (Zd .u64) v' cs z.2):=by
 obtain⟨q1,V,W,rfl⟩:=ig D;obtain⟨rfl,r4⟩:=p2;refine TW (K:=79) (args:=[.slice (some ⟨a,j,none⟩) (g) C,.slice q1 V W,.int .u64 q]) hv bf bg Tryz.func194 rfl rfl zl λf S=>?_;unfold Ep at H;refine sr (mw S rfl λf S=>oe (ZH λ_ bi=>bO H λJ bj H=>bO H λcK av H=>ZX (mv S rfl λf S=>ov S rfl (kF S (iX D) rfl rfl fX) λf S=>ov S rfl (ZD S rfl rfl (vc bj)) λf S=>?_)));obtain⟨aH,aQ⟩:∃c:List Value,c=(List.replicate (J).toNat [.int .u64 0]).flatten:=⟨_,rfl⟩;obtain⟨aR,w,bk,S⟩:=Pb D5 S (l:=J) (c:=J) (nA av).1 (nA av).2.1 (nA av).2.2.1 (nA av).2.2.2 aQ;have bm:ee.rels (Zd .u64) o aH (List.replicate (J).toNat (0:Int)):=by rw[aQ];exact ya (show ee.rel (Zd .u64) _ [.int .u64 0] _ from(Z7 (by decide))) _
 refine jN wn rfl zl (bk rfl rfl) S λf S=>mw S rfl λf S=>ZS (Zp (bi _ _ (sr (mw S rfl λf S=>oe (ZH λ_ bn=>sr (mv S rfl λf S=>ov S rfl (kF S (iX D) rfl rfl fX) λf S=>mv S rfl λf S=>oe ?_))))));obtain⟨bo,bp,bq⟩:=f9 H;refine nt (λf w=>∃L b aI s G h X,(L,b)=bo∧Zb.le o X∧St 79 ⟨R,[a]⟩ o [(0,.slice (some ⟨a,j,none⟩) (g) C),(1,.slice q1 V W),(7,.slice (eF aI) s G),(8,.int .u64 b)] [dY.box a E (i++l++k),dY.own aI 191 1 s G h] X f w∧ee.rels (Zd .u64) X h L∧s=L.length∧eJ .u64 b) (λ_ br=>?_) ?_
 ·have H:=bp;refine wp_block ?_;obtain⟨cL,bs,bt⟩:=f9 H;have S:=S.reorder (ℓ':=[dY.box a E (i++l++k),dY.own (some aR) 191 1 ((J).toNat) (J).toNat aH]) [1,0] rfl (by decide);refine qN bs (λbu f w=>∃Y ag m aw M Z I ax,(Y,ag,m)=bu∧Zb.le o ax∧St 79 ⟨R,[a]⟩ o [(0,.slice (some ⟨a,j,none⟩) (g) C),(1,.slice q1 V W),(2,.int .u64 q),(7,.slice (eF aw) M Z),(8,.int .u64 ag),(20,.slice q1 V W),(21,.int .i64 ((((Zc 18446744073709551616 v)).length:Int))),(22,.int .i64 m)] [dY.box a E (i++l++k),dY.own aw 191 1 M Z I] ax f w∧ee.rels (Zd .u64) ax I Y∧M=Y.length∧eJ .u64 ag∧eJ .i64 m) ⟨_,_,_,some aR,(J).toNat,(J).toNat,aH,_,rfl,(gS _),(S.fr' rfl),bm,(Ac (x:=(0:Int))),(by decide),(by decide)⟩ ?_;rintro _ f w st ⟨Y,ag,m,aw,M,Z,I,ax,e,ay,S,ah,ai,bv,cM⟩ H cN bw bx;subst e;have r:=ZQ ay r;refine sr (ov S rfl (ZD S rfl rfl m5) λf S=>oe (ZH λ_ bz=>?_));rcases jy (decide (m<(((Zc 18446744073709551616 v)).length:Int))) with aj |aj
  ·have H:=jH H aj;refine iU S rfl aj (wp_skip (Zp (bz _ _ (ZH λ_ bA=>wp_block (ZH λ_ bB=>bO H λaJ aK H=>ZX (mv S rfl λf S=>?_))))));have D:=gY ay D;obtain⟨_,aS,aT,cO,rfl,bC,bD⟩:=ly D (Zr aK).2.1;obtain⟨rfl,bE⟩:=bD;refine ov S rfl (gB S rfl rfl fX (Zr aK).1 (i5 (iX D) (Zr aK).2.2.1)) λf S=>ov S rfl (jb S rfl jA (S.view bC)) λf S=>mw S rfl λf S=>mw S rfl λf S=>ZS (Zp (bB _ _ (ZH λ_ bG=>bO H λaU bH H=>ZX (mv S rfl λf S=>mv S rfl λf S=>ji S rfl (gz S [.int .u64 aJ,.int .u64 q] Ml rfl rfl) (Jv S.vin (show ee.rel (Zd .u64) _ [.int .u64 aJ] aJ from(Z7 bE)) (show ee.rel (Zd .u64) _ [.int .u64 q] q from(Z7 r4)) bH) ?_))));rintro _ aV f w aL ⟨cP,cQ,rfl,bI,bJ⟩ S;have r:=ZQ aL r;have ah:=ZQ aL ah;obtain⟨rfl,cR⟩:=bI;obtain⟨rfl,cS⟩:=bJ;refine mv S rfl λf S=>ov S rfl (gF S rfl rfl) λf S=>ov S rfl (gF S rfl rfl) λf S=>mw S rfl λf S=>mw S rfl λf S=>ZS (Zp (bG _ _ (sr (mw S rfl λf S=>oe (ZH λ_ bK=>bO H λN aW H=>bO H λcT n H=>ZX ?_)))));refine mv S rfl λf S=>mv S rfl λf S=>mv S rfl λf S=>mv S rfl λf S=>ov S rfl (Fk S [.int .u64 (aU.2),.int .u64 ag,.int .u64 0] (Ky Tq aW) rfl rfl) λf S=>mv S rfl λf S=>ov S rfl (gF S rfl rfl) λf S=>ov S rfl (gF S rfl rfl) λf S=>?_
   obtain⟨aX,rfl⟩:=mr S (j:=1) rfl (zZ ai (Zr n).2.2.2);have aY:=hO ah (Zr n).2.1;obtain⟨cU,bM⟩:∃c,(List.take (Zd .u64).n (List.drop ((m).toNat*(Zd .u64).n) I))=c:=⟨_,rfl⟩;rw[bM]at aY;obtain⟨rfl,cV⟩:=aY;refine ov S rfl (gB S rfl rfl fX (Zr n).1 (i5 ai (Zr n).2.2.1)) λf S=>?_;obtain⟨w,bP,S⟩:=pK S jA (off:=0+(m).toNat*1) (z:=.int .u64 (N.1)) (cs:=[.int .u64 (N.1)]) (nw rfl) rfl (i:=1) rfl (DV S (j:=1) rfl (n7 ai (Zr n).2.2.2)) (by first |rfl |simp[plain]);have bS:ee.rels (Zd .u64) aV (List.take (0+(m).toNat*1) I++[Value.int IntKind.u64 (N.1)]++List.drop (0+(m).toNat*1+1) I) (Y.set (m).toNat N.1):=yl ah (Zr n).2.2.2 (show ee.rel (Zd .u64) aV [.int .u64 (N.1)] _ from(Z7 (LH aW))) rfl rfl;have bT:M=(Y.set (m).toNat N.1).length:=oh ai;refine H8 wn rfl (bP rfl rfl) (mw S rfl λf S=>ZS ?_);have S:=S.fr' (σ':=[(0,.slice (some ⟨a,j,none⟩) (g) C),(1,.slice (some ⟨aS,aT,none⟩) V W),(2,.int .u64 q),(7,.slice (eF (some aX)) (M) Z),(11,.int .u64 (aU.1)),(13,.int .u64 (N.2)),(20,.slice (some ⟨aS,aT,none⟩) V W),(21,.int .i64 ((((Zc 18446744073709551616 v)).length:Int))),(22,.int .i64 m)]) rfl
   refine Zp (bK _ _ (ZX (mv S rfl λf S=>mv S rfl λf S=>ov S rfl (ZD S rfl rfl JU) λf S=>mw S rfl λf S=>ZS (mX (Zp (bA _ _ (bO H λcW aZ H=>ZX (ov S rfl (ZD S rfl rfl (vc aZ)) λf S=>mv S rfl λf S=>ZS ?_))))))));obtain rfl:=ZO H;refine bw _ rfl _ _ ⟨_,_,_,some aX,M,Z,(List.take (0+(m).toNat*1) I++[Value.int IntKind.u64 (N.1)]++List.drop (0+(m).toNat*1+1) I),_,rfl,(fx ay aL),(S.fr' rfl),bS,bT,(kI _ _),(jW aZ).2⟩
  have H:=jF H aj;refine gn S rfl aj (wp_exit (iu ?_));obtain rfl:=ZO H;have e:=bx _ rfl;subst e;have H:=bt;refine iu (m8 ?_);obtain rfl:=ZO H;refine Zp (br _ _ ⟨_,_,aw,M,Z,I,_,rfl,(fx (gS _) ay),(S.fr' rfl),ah,ai,bv⟩)
 rintro f w ⟨L,b,aI,s,G,h,X,e,a0,S,a1,az,bU⟩;subst e;have H:=bq;have r:=ZQ a0 r;refine Zp (bn _ _ (ZH λ_ bV=>bO H λcX x H=>ZX (mv S rfl λf S=>mv S rfl λf S=>?_)));have D:=gY a0 D;refine ov S rfl (kF S (iX D) rfl rfl fX) λf S=>mv S rfl λf S=>?_;obtain⟨A,rfl⟩:=mr S (j:=1) rfl (zZ az (Zr x).2.2.2);have a2:=hO a1 (Zr x).2.1;obtain⟨cY,bW⟩:∃c,(List.take (Zd .u64).n (List.drop (((((Zc 18446744073709551616 v)).length:Int)).toNat*(Zd .u64).n) h))=c:=⟨_,rfl⟩;rw[bW]at a2;obtain⟨rfl,cZ⟩:=a2;refine ov S rfl (gB S rfl rfl fX (Zr x).1 (i5 az (Zr x).2.2.1)) λf S=>?_;obtain⟨w,bX,S⟩:=pK S jA (off:=0+((((Zc 18446744073709551616 v)).length:Int)).toNat*1) (z:=.int .u64 b) (cs:=[.int .u64 b]) (nw rfl) rfl (i:=1) rfl (DV S (j:=1) rfl (n7 az (Zr x).2.2.2)) (by first |rfl |simp[plain]);have p:ee.rels (Zd .u64) X (List.take (0+((((Zc 18446744073709551616 v)).length:Int)).toNat*1) h++[Value.int IntKind.u64 (b)]++List.drop (0+((((Zc 18446744073709551616 v)).length:Int)).toNat*1+1) h) (L.set ((((Zc 18446744073709551616 v)).length:Int)).toNat b):=yl a1 (Zr x).2.2.2 (show ee.rel (Zd .u64) X [.int .u64 b] _ from(Z7 bU)) rfl rfl
 have aM:s=(L.set ((((Zc 18446744073709551616 v)).length:Int)).toNat b).length:=oh az;refine H8 wn rfl (bX rfl rfl) (ZS (Zp (bV _ _ (ZH λ_ bY=>ZH λ_ bZ=>bO H λc4 b1 H=>bO H λc5 b2 H=>bO H λb3 b4 H=>ZX (mv S rfl λf S=>?_)))));have c3:=r;have b0:=p;have b5:=S.vst.le;obtain⟨c6,c7,a3,t,S,b6,b7,b8,T⟩:=S.lendSeg (i:=0) (A:=(Zd .u64)) (l:=u) (ℓ':=[dY.own (some A) 191 1 s G ((List.take (0+((((Zc 18446744073709551616 v)).length:Int)).toNat*1) h++[Value.int IntKind.u64 (b)]++List.drop (0+((((Zc 18446744073709551616 v)).length:Int)).toNat*1+1) h))]) rfl rfl aG r au bh;have p:=ZQ a3 p;refine ji S rfl (gz S [.slice (some ⟨a,j,none⟩) (g) C] FL rfl rfl) (H4 S.vin (show ee.rel (Zy (Zd .u64)) _ [.slice (some ⟨a,j,none⟩) (g) C] u from T) b1) ?_;rintro _ c8 f w aA ⟨c9,rfl,P⟩ S;have p:=ZQ aA p;have t:=aA _ _ t;obtain⟨b9,ca,cb,rfl⟩:=ig P;refine mv S rfl λf S=>?_;have T:=gY aA T;have ab:=T;have c0:=p;have ad:=P;have aa:=t;have cc:=S.vst.le;obtain⟨d0,d1,aB,ak,S,ce,cg,ch,ci⟩:=S.lendSlice (i:=0) (A:=(Zd .u64)) (l:=(L.set ((((Zc 18446744073709551616 v)).length:Int)).toNat b)) (ℓ':=[]) rfl rfl rfl p aM
 have t:=aB _ _ t;refine ji S rfl (gz S [.slice (eF (some A)) (s) G] FL rfl rfl) (H4 S.vin (show ee.rel (Zy (Zd .u64)) _ [.slice (eF (some A)) (s) G] ((L.set ((((Zc 18446744073709551616 v)).length:Int)).toNat b)) from ci) b2) ?_;rintro _ da f w al ⟨db,rfl,a4⟩ S;have t:=al _ _ t;have ak:=al _ _ ak;obtain⟨ck,cl,cm,rfl⟩:=ig a4;have P:=gY (fx aB al) P;refine ji S rfl (gz S [.slice b9 ca cb,.slice ck cl cm] T7 rfl rfl) (wq S.vin P a4 b4) ?_;rintro _ dc f w am ⟨dd,rfl,co⟩ S;have t:=am _ _ t;have ak:=am _ _ ak;obtain⟨rfl,de⟩:=co;refine ov S rfl (ZD S rfl rfl m5) λf S=>ZS ?_;obtain⟨df,an,S⟩:=S.takeBack (e:=dY.own (some A) 191 1 s G ((List.take (0+((((Zc 18446744073709551616 v)).length:Int)).toNat*1) h++[Value.int IntKind.u64 (b)]++List.drop (0+((((Zc 18446744073709551616 v)).length:Int)).toNat*1+1) h))) (fx (fx aB al) am) rfl ak ce cg cc ch;have T:=gY (fx (fx aB al) am) T;have T:=gY an ab;have p:=ZQ an c0;have P:=gY am P;have P:=gY an ad;have t:=an _ _ aa;obtain⟨a5,a6,S⟩:=S.takeBack (e:=dY.box a E (i++l++k)) (fx (fx a3 aA) an) rfl t b6 b7 b5 b8;have r:=ZQ a6 c3
 have p:=ZQ a6 b0;refine Zp (bZ _ _ ?_);rcases jy (decide (b3<(0:Int))) with ao |ao
 ·have H:=jH H ao;refine iU S rfl ao (sr (mw S rfl λf S=>oe (wp_ret (Bx ?_))));obtain rfl:=ZO H;refine IQ S (kl rfl (gO S rfl)) ⟨⟨[.bool false],rfl,Ua⟩,(S.boxAt (j:=0) rfl).2,_,(S.boxAt (j:=0) rfl).1,au,r⟩
 have H:=jF H ao;refine gn S rfl ao (wp_skip (Zp (bY _ _ (sr (mw S rfl λf S=>oe (ZH λ_ cp=>sr (mv S rfl λf S=>ov S rfl (kF S au rfl rfl fX) λf S=>mv S rfl λf S=>oe ?_)))))));obtain⟨cq,cr,ct⟩:=f9 H;refine nt (λf w=>∃aC aN aD,aC=cq∧Zb.le a5 aD∧St 79 ⟨R,[a]⟩ o [] [dY.box a E (i++aN++k)] aD f w∧ee.rels (Zd .u64) aD aN aC∧g=aC.length) (λ_ cu=>?_) ?_
 ·have H:=cr;refine wp_block ?_;obtain⟨dg,cv,cw⟩:=f9 H;refine qN cv (λcx f w=>∃K ap d B ae,(K,ap,d)=cx∧Zb.le a5 ae∧St 79 ⟨R,[a]⟩ o [(0,.slice (some ⟨a,j,none⟩) (g) C),(7,.slice (eF (some A)) (s) G),(14,.int .u64 ap),(58,.int .i64 ((u.length:Int))),(59,.int .i64 d)] [dY.box a E (i++B++k),dY.own (some A) 191 1 s G ((List.take (0+((((Zc 18446744073709551616 v)).length:Int)).toNat*1) h++[Value.int IntKind.u64 (b)]++List.drop (0+((((Zc 18446744073709551616 v)).length:Int)).toNat*1+1) h))] ae f w∧ee.rels (Zd .u64) ae B K∧g=K.length∧eJ .u64 ap∧eJ .i64 d) ⟨_,_,_,l,_,rfl,(gS _),(S.fr' rfl),r,au,(by decide),(by decide)⟩ ?_;rintro _ f w st ⟨K,ap,d,B,ae,e,aO,S,af,Q,dh,di⟩ H dj cy cz;subst e;have p:=ZQ aO p;refine sr (ov S rfl (ZD S rfl rfl m5) λf S=>oe (ZH λ_ cA=>?_));rcases jy (decide (d<(u.length:Int))) with aq |aq
  ·have H:=jH H aq;refine iU S rfl aq (wp_skip (Zp (cA _ _ (ZH λ_ cB=>wp_block (sr (mv S rfl λf S=>mw S rfl λf S=>oe (bO H λa7 aE H=>bO H λa8 aF H=>bO H λU aP H=>bO H λdk ar H=>vb (fl:=#[true,true,true,true,true,true,true,true,true,true,true,false,true,true,true,true,false,false]) Je (by kernel_rfl) S ?_)))))));intro d2 O F w S;refine fm O F 0 rfl rfl S (ZG S rfl) λf S=>fm O F 1 rfl rfl S (ZG S rfl) λf S=>fm O F 2 rfl rfl S (ZG S rfl) λf S=>fm O F 3 rfl rfl S (ZG S rfl) λf S=>?_;have a9:=hO af (Zr aE).2.1;obtain⟨dl,ba⟩:∃c,(List.take (Zd .u64).n (List.drop ((d).toNat*(Zd .u64).n) B))=c:=⟨_,rfl⟩;rw[ba]at a9;obtain⟨rfl,cC⟩:=a9;refine fm O F 4 rfl rfl S (gB S rfl rfl fX (Zr aE).1 (i5 Q (Zr aE).2.2.1)) λf S=>fm O F 5 rfl rfl S (jb S rfl jA (Cx S (j:=0) rfl aG (qK af Q) ba (n7 Q (Zr aE).2.2.2) 0 [.int .u64 a7] rfl zl)) λf S=>fm O F 6 rfl rfl S (ZG S rfl) λf S=>fm O F 7 rfl rfl S (ZG S rfl) λf S=>?_;have bb:=hO p (Zr aF).2.1;obtain⟨dm,bc⟩:∃c,(List.take (Zd .u64).n (List.drop ((d).toNat*(Zd .u64).n) (List.take (0+((((Zc 18446744073709551616 v)).length:Int)).toNat*1) h++[Value.int IntKind.u64 (b)]++List.drop (0+((((Zc 18446744073709551616 v)).length:Int)).toNat*1+1) h)))=c:=⟨_,rfl⟩
   rw[bc]at bb;obtain⟨rfl,cD⟩:=bb;refine fm O F 8 rfl rfl S (gB S rfl rfl fX (Zr aF).1 (i5 aM (Zr aF).2.2.1)) λf S=>fm O F 9 rfl rfl S (jb S rfl jA (pZ S (j:=1) rfl bc (n7 aM (Zr aF).2.2.2) 0 [.int .u64 a8] rfl zl)) λf S=>fm O F 10 rfl rfl S (ZG S rfl) λf S=>Cn O F 11 (IH [5,9,10,4,8,2,3,6,7] [0,1] O rfl rfl S (Fk S [.int .u64 a7,.int .u64 a8,.int .u64 ap] (UL X7 cC cD aP) rfl rfl) λf S=>⟨(py S rfl rfl (ZG S rfl) (py S rfl rfl (ZG S rfl) jh)),fm O F 12 rfl rfl S (ZG S rfl) λf S=>fm O F 13 rfl rfl S (gF S rfl rfl) λf S=>fm O F 14 rfl rfl S (gF S rfl rfl) λf S=>?_⟩);have bd:=hO af (Zr ar).2.1;obtain⟨dn,cE⟩:∃c,(List.take (Zd .u64).n (List.drop ((d).toNat*(Zd .u64).n) B))=c:=⟨_,rfl⟩;rw[cE]at bd;obtain⟨rfl,dp⟩:=bd;refine fm O F 15 rfl rfl S (gB S rfl rfl fX (Zr ar).1 (i5 Q (Zr ar).2.2.1)) λf S=>Cn O F 16 ?_;obtain⟨w,cF,S⟩:=Y4 S (k:=(d).toNat) jA (z:=.int .u64 (U.1)) (c:=[.int .u64 (U.1)]) (nw rfl) rfl (i:=0) rfl aG (qK af Q) (n7 Q (Zr ar).2.2.2) rfl (by first |rfl |simp[plain]);have cG:ee.rels (Zd .u64) ae (List.take (0+(d).toNat*1) B++[Value.int IntKind.u64 (U.1)]++List.drop (0+(d).toNat*1+1) B) (K.set (d).toNat U.1):=yl af (Zr ar).2.2.2 (show ee.rel (Zd .u64) ae [.int .u64 (U.1)] _ from(Z7 (Rx aP))) rfl rfl
   have cH:g=(K.set (d).toNat U.1).length:=oh Q;refine nxs [0,1,2,3,4,5,6,7,8,9,10,11,12,13,15] [14] O rfl rfl (cF rfl rfl) (⟨(py S rfl rfl (gF S rfl rfl) jh),Cn O F 17 (IH [0,1,2,3,4,5,6,7,8,9,10,11,12,13,14,15,16] [] O rfl rfl S (mg S rfl) λf S=>⟨jh,yY O F (mX (Zp (cB _ _ (bO H λdq be H=>ZX (ov S rfl (ZD S rfl rfl (vc be)) λf S=>mv S rfl λf S=>ZS ?_)))))⟩)⟩);obtain rfl:=ZO H;refine cy _ rfl _ _ ⟨_,_,_,(List.take (0+(d).toNat*1) B++[Value.int IntKind.u64 (U.1)]++List.drop (0+(d).toNat*1+1) B),_,rfl,aO,(S.fr' rfl),cG,cH,(OV aP),(jW be).2⟩
  have H:=jF H aq;refine gn S rfl aq (wp_exit (iu ?_));obtain rfl:=ZO H;have e:=cz _ rfl;subst e;have H:=cw;refine iu (m8 ?_);obtain rfl:=ZO H;have S:=S.reorder (ℓ':=[dY.box a E (i++B++k)]) [0] rfl (by decide);refine Zp (cu _ _ ⟨_,B,_,rfl,(fx (gS _) aO),(S.fr' rfl),af,Q⟩)
 rintro f w ⟨aC,aN,aD,e,dr,S,cI,cJ⟩;subst e;have H:=ct;refine Zp (cp _ _ (sr (mw S rfl λf S=>oe (wp_ret ?_))));obtain rfl:=ZO H;refine IQ S (kl rfl (gO S rfl)) ⟨⟨[.bool true],rfl,Ua⟩,(S.boxAt (j:=0) rfl).2,_,(S.boxAt (j:=0) rfl).1,cJ,cI⟩
theorem Ay{d:World}{a:Zb}(D:fc a d){b A c e:Nat}{f:TypeId}{s x B:List Value}{u:(List Int)}(l:d.heap[b]?= some (.cells (s++x++B).toArray f (0,0)))(m:A=s.length)(n:a b=none)(o:c=u.length)(p:c≤e∧e≤maxLen)(g:ee.rels (Zd .u64) a x u){h:List Value}{v:Nat}(r:ee.rel Zx a h v){i:List Value}{q:Int}(j:ee.rel (Zd .u64) a i q){z:Bool×(List Int)}(C:AR u v q=some z):
  oY Tryz.prog 194 #[Value.slice (some ⟨b,A,none⟩) c e,Zx.val h,(Zd .u64).val i] d a [b] (λy t E=>(∃k,y=ny.val k∧ny.rel t k z.1)∧t b=none∧∃w,E.heap[b]?= some (.cells (s++w++B).toArray f (0,0))∧c=z.2.length∧ee.rels (Zd .u64) t w z.2) :=
 Az D l m n o p g r j (X1 (KM g) j.2 C)
theorem rM{x:World}{m:Zb}(hv:fc m x){a i e h:Nat}{A:TypeId}{n j t:List Value}{u:(List Int)}(a0:x.heap[a]?= some (.cells (n++j++t).toArray A (0,0)))(G:i=n.length)(a1:m a=none)(k:e=u.length)(a2:e≤h∧h≤maxLen)(d:ee.rels (Zd .u64) m j u){c1:List Value}{v:Nat}(g:ee.rel Zx m c1 v){z:Int×(List Int)}(H:Df u v=some z):oY Tryz.prog 170 #[.slice (some ⟨a,i,none⟩) e h,Zx.val c1] x m [a] (λy v' w'=>(∃r0,y=(Zd .u64).val r0∧(Zd .u64).rel v' r0 z.1)∧v' a=none∧∃cs,w'.heap[a]?= some (.cells (n++cs++t).toArray A (0,0))∧e=z.2.length∧ee.rels (Zd .u64) v' cs z.2):=by
 obtain⟨q1,o,p,rfl⟩:=ig g;refine TW (K:=90) (args:=[.slice (some ⟨a,i,none⟩) (e) h,.slice q1 o p]) hv a0 a1 Tryz.func170 rfl rfl zl λf S=>?_;unfold Df at H;refine sr (mw S rfl λf S=>oe (sr (mv S rfl λf S=>ov S rfl (kF S (iX g) rfl rfl fX) λf S=>mw S rfl λf S=>oe (sr (mw S rfl λf S=>oe (ZH λ_ a3=>ZH λ_ a4=>bO H λaE V H=>?_))))));refine bO H λcp a5 H=>bO H λa6 aj H=>vb (fl:=#[true,true,true,true,true,true,true,true,true,true]) Je (by kernel_rfl) S ?_;intro b0 O F w S;refine fm O F 0 rfl rfl S (ZG S rfl) λf S=>fm O F 1 rfl rfl S (ZG S rfl) λf S=>?_;have aF:=hO d (Zr V).2.1;obtain⟨cq,aG⟩:∃c,(List.take (Zd .u64).n (List.drop (((((Zc 18446744073709551616 v)).length:Int)).toNat*(Zd .u64).n) j))=c:=⟨_,rfl⟩;rw[aG]at aF;obtain⟨rfl,cr⟩:=aF;refine fm O F 2 rfl rfl S (gB S rfl rfl fX (Zr V).1 (i5 k (Zr V).2.2.1)) λf S=>fm O F 3 rfl rfl S (jb S rfl jA (Cx S (j:=0) rfl G (qK d k) aG (n7 k (Zr V).2.2.2) 0 [.int .u64 aE] rfl zl)) λf S=>fm O F 4 rfl rfl S (ZG S rfl) λf S=>fm O F 5 rfl rfl S (ZG S rfl) λf S=>fm O F 6 rfl rfl S (ZD S rfl rfl (ko a5)) λf S=>?_;obtain⟨_,r,s,ct,rfl,a7,a8⟩:=ly g (Zr aj).2.1
 obtain⟨rfl,cu⟩:=a8;refine fm O F 7 rfl rfl S (gB S rfl rfl fX (Zr aj).1 (i5 (iX g) (Zr aj).2.2.1)) λf S=>fm O F 8 rfl rfl S (jb S rfl jA (S.view a7)) λf S=>fm O F 9 rfl rfl S (ZD S rfl rfl m5) λf S=>yY O F (Zp (a4 _ _ ?_));obtain⟨a9,ba,bb⟩:=f9 H;refine nt (λf w=>∃W I,W=a9∧Zb.le m I∧St 90 ⟨x,[a]⟩ m [(0,.slice (some ⟨a,i,none⟩) (e) h),(1,.slice (some ⟨r,s,none⟩) o p),(6,.int .u64 W)] [dY.box a A (n++j++t)] I f w∧eJ .u64 W) (λ_ aH=>?_) ?_
 ·have H:=ba;rcases jy (decide (aE<a6)) with J |J
  ·have H:=jH H J;refine iU S rfl J (sr (mw S rfl λf S=>oe (ZH λ_ bc=>bO H λX Y H=>bO H λbd be H=>bO H λZ K H=>bO H λcv bf H=>bO H λak al H=>bO H λaI bg H=>vb (fl:=#[true,true,true,true,true,true,true,true,true,true,true,true,true,true,false,true,true,true,false,false]) Je (by kernel_rfl) S ?_)));intro b0 O F w S;refine fm O F 0 rfl rfl S (ZG S rfl) λf S=>fm O F 1 rfl rfl S (ZG S rfl) λf S=>?_;have aJ:=hO d (Zr Y).2.1;obtain⟨cw,aK⟩:∃c,(List.take (Zd .u64).n (List.drop (((((Zc 18446744073709551616 v)).length:Int)).toNat*(Zd .u64).n) j))=c:=⟨_,rfl⟩;rw[aK]at aJ;obtain⟨rfl,bh⟩:=aJ;refine fm O F 2 rfl rfl S (gB S rfl rfl fX (Zr Y).1 (i5 k (Zr Y).2.2.1)) λf S=>fm O F 3 rfl rfl S (jb S rfl jA (Cx S (j:=0) rfl G (qK d k) aK (n7 k (Zr Y).2.2.2) 0 [.int .u64 X] rfl zl)) λf S=>fm O F 4 rfl rfl S (ZG S rfl) λf S=>fm O F 5 rfl rfl S (ZG S rfl) λf S=>fm O F 6 rfl rfl S (ZD S rfl rfl (ko be)) λf S=>?_;have aL:=hO d (Zr K).2.1;obtain⟨cx,aM⟩:∃c,(List.take (Zd .u64).n (List.drop ((bd).toNat*(Zd .u64).n) j))=c:=⟨_,rfl⟩;rw[aM]at aL;obtain⟨rfl,bi⟩:=aL;refine fm O F 7 rfl rfl S (gB S rfl rfl fX (Zr K).1 (i5 k (Zr K).2.2.1)) λf S=>fm O F 8 rfl rfl S (jb S rfl jA (Cx S (j:=0) rfl G (qK d k) aM (n7 k (Zr K).2.2.2) 0 [.int .u64 Z] rfl zl)) λf S=>fm O F 9 rfl rfl S (ZG S rfl) λf S=>fm O F 10 rfl rfl S (ZG S rfl) λf S=>fm O F 11 rfl rfl S (ZD S rfl rfl (ko bf)) λf S=>?_
   obtain⟨cy,am,bj⟩:=Nv g (Zr al).2.1;obtain⟨rfl,bk⟩:=bj;refine fm O F 12 rfl rfl S (gB S rfl rfl fX (Zr al).1 (i5 (iX g) (Zr al).2.2.1)) λf S=>fm O F 13 rfl rfl S (jb S rfl jA (S.view am)) λf S=>Cn O F 14 (nxc [3,8,13,2,7,12,0,1,4,6,9,11,5,10] [] O rfl S rfl (gz S [.int .u64 X,.int .u64 Z,.int .u64 ak] sC rfl rfl) (rN S.vin (show ee.rel (Zd .u64) _ [.int .u64 X] X from(Z7 bh)) (show ee.rel (Zd .u64) _ [.int .u64 Z] Z from(Z7 bi)) (show ee.rel (Zd .u64) _ [.int .u64 ak] ak from(Z7 bk)) bg) ?_);rintro _ aN f w ab ⟨cz,cA,rfl,bm,bn⟩ S;have d:=ZQ ab d;have am:=Fc ab am;obtain⟨rfl,bo⟩:=bm;obtain⟨rfl,bp⟩:=bn;refine⟨jh,fm O F 15 rfl rfl S (ZG S rfl) λf S=>fm O F 16 rfl rfl S (gF S rfl rfl) λf S=>fm O F 17 rfl rfl S (gF S rfl rfl) λf S=>Cn O F 18 (IH [0,1,2,3,4,5,6,7,8,9,10,11,12,13,14,15,16] [17] O rfl rfl S (mg S rfl) λf S=>⟨(py S rfl rfl (gF S rfl rfl) jh),Cn O F 19 (IH [0,1,2,3,4,5,6,7,8,9,10,11,12,13,14,15,16,17,18] [] O rfl rfl S (mg S rfl) λf S=>⟨jh,yY O F ?_⟩)⟩)⟩;have S:=S.fr' (σ':=[(0,.slice (some ⟨a,i,none⟩) (e) h),(1,.slice (some ⟨r,s,none⟩) o p),(5,.int .i64 ((((Zc 18446744073709551616 v)).length:Int))),(6,.int .u64 (aI.1)),(7,.int .u64 (aI.2))]) rfl
   refine Zp (bc _ _ ?_);obtain⟨bq,br,bs⟩:=f9 H;refine nt (λf w=>∃ac an,ac=bq∧Zb.le aN an∧St 90 ⟨x,[a]⟩ m [(0,.slice (some ⟨a,i,none⟩) (e) h),(1,.slice (some ⟨r,s,none⟩) o p),(6,.int .u64 ac)] [dY.box a A (n++j++t)] an f w∧eJ .u64 ac) (λ_ aO=>?_) ?_
   ·have H:=br;refine wp_block ?_;obtain⟨cB,bt,aP⟩:=f9 H;refine qN bt (λbu f w=>∃q l ao,(q,l)=bu∧Zb.le aN ao∧St 90 ⟨x,[a]⟩ m [(0,.slice (some ⟨a,i,none⟩) (e) h),(1,.slice (some ⟨r,s,none⟩) o p),(5,.int .i64 ((((Zc 18446744073709551616 v)).length:Int))),(6,.int .u64 q),(7,.int .u64 l)] [dY.box a A (n++j++t)] ao f w∧eJ .u64 q∧eJ .u64 l) ⟨_,_,_,rfl,(gS _),(S.fr' rfl),bo,bp⟩ ?_;rintro _ f w st ⟨q,l,ao,b,L,S,aQ,cC⟩ H cD bv aR;subst b;have d:=ZQ L d;refine wp_block (ZH λ_ bw=>bO H λcE bx H=>bO H λap aq H=>bO H λB bz H=>ZX (mv S rfl λf S=>mv S rfl λf S=>mv S rfl λf S=>ov S rfl (ZD S rfl rfl (ko bx)) λf S=>?_));have g:=gY (fx ab L) g;obtain⟨cF,ar,bA⟩:=Nv g (Zr aq).2.1;obtain⟨rfl,bB⟩:=bA;refine ov S rfl (gB S rfl rfl fX (Zr aq).1 (i5 (iX g) (Zr aq).2.2.1)) λf S=>ov S rfl (jb S rfl jA (S.view ar)) λf S=>ji S rfl (gz S [.int .u64 q,.int .u64 ap] Ml rfl rfl) (Jv S.vin (show ee.rel (Zd .u64) _ [.int .u64 q] q from(Z7 aQ)) (show ee.rel (Zd .u64) _ [.int .u64 ap] ap from(Z7 bB)) bz) ?_;rintro _ bC f w E ⟨cG,cH,rfl,bD,bE⟩ S
    have d:=ZQ E d;have ar:=Fc E ar;obtain⟨rfl,cI⟩:=bD;obtain⟨rfl,cJ⟩:=bE;refine mv S rfl λf S=>ov S rfl (gF S rfl rfl) λf S=>ov S rfl (gF S rfl rfl) λf S=>mw S rfl λf S=>mw S rfl λf S=>ZS (Zp (bw _ _ (ZH λ_ bG=>ZH λ_ bH=>?_)));obtain⟨bI,bJ,bK⟩:=f9 H;refine nt (λf w=>∃ad au,ad=bI∧Zb.le bC au∧St 90 ⟨x,[a]⟩ m [(0,.slice (some ⟨a,i,none⟩) (e) h),(1,.slice (some ⟨r,s,none⟩) o p),(5,.int .i64 ((((Zc 18446744073709551616 v)).length:Int))),(6,.int .u64 q),(7,.int .u64 l),(67,.bool ad)] [dY.box a A (n++j++t)] au f w) (λ_ av=>?_) ?_
    ·have H:=bJ;refine ZX (mv S rfl λf S=>mv S rfl λf S=>ov S rfl (ZD S rfl rfl m5) λf S=>mv S rfl λf S=>?_);rcases jy (decide (B.1<l)) with M |M
     ·have H:=jH H M;have S:=S.bool (t:=54) rfl M;refine mL S rfl rfl rfl rfl λf S=>mL S rfl rfl rfl rfl λf S=>mL S rfl rfl rfl rfl λf S=>mL S rfl rfl rfl rfl λf S=>vd S (qq S rfl rfl rfl zl) rfl zl λf S=>vd S (qq S rfl rfl rfl zl) rfl zl λf S=>vd S (qq S rfl rfl rfl zl) rfl zl λf S=>vd S (qq S rfl rfl rfl zl) rfl zl λf S=>vd S (qq S rfl rfl rfl zl) rfl zl λf S=>vd S (qq S rfl rfl rfl zl) rfl zl λf S=>vd S (qq S rfl rfl rfl zl) rfl zl λf S=>mL S rfl rfl rfl rfl λf S=>ov S rfl (qv S (b:=true) rfl rfl) λf S=>ZS ?_;have S:=S.fr' (σ':=[(0,.slice (some ⟨a,i,none⟩) (e) h),(1,.slice (some ⟨r,s,none⟩) o p),(5,.int .i64 ((((Zc 18446744073709551616 v)).length:Int))),(6,.int .u64 q),(7,.int .u64 l),(55,undef),(56,undef),(57,undef),(58,undef),(59,undef),(60,undef),(61,undef),(62,undef),(63,undef),(64,undef),(65,undef),(66,undef),(67,.bool true)]) rfl;obtain rfl:=ZO H;refine Zp (av _ _ ⟨_,_,rfl,(gS _),(S.fr' rfl)⟩)
     have H:=jF H M;have S:=S.bool (t:=54) rfl M;refine lS S rfl rfl rfl rfl (ZG S rfl) λf S=>lS S rfl rfl rfl rfl (ZG S rfl) λf S=>lS S rfl rfl rfl rfl (ZD S rfl rfl xw) λf S=>lS S rfl rfl rfl rfl (ZG S rfl) λf S=>?_;rcases jy (B.1==l) with C |C
     ·have H:=jH H C;have S:=S.bool (t:=57) rfl C;have S:=S.bool (t:=58) rfl C;refine bO H λaw bM H=>bO H λN ae H=>lS S rfl rfl rfl rfl (ZG S rfl) λf S=>lS S rfl rfl rfl rfl (ZG S rfl) λf S=>lS S rfl rfl rfl rfl (ZG S rfl) λf S=>lS S rfl rfl rfl rfl (ZD S rfl rfl (ko bM)) λf S=>?_;have aS:=hO d (Zr ae).2.1;obtain⟨cK,aT⟩:∃c,(List.take (Zd .u64).n (List.drop ((aw).toNat*(Zd .u64).n) j))=c:=⟨_,rfl⟩;rw[aT]at aS;obtain⟨rfl,cL⟩:=aS;refine lS S rfl rfl rfl rfl (gB S rfl rfl fX (Zr ae).1 (i5 k (Zr ae).2.2.1)) λf S=>lS S rfl rfl rfl rfl (jb S rfl jA (Cx S (j:=0) rfl G (qK d k) aT (n7 k (Zr ae).2.2.2) 0 [.int .u64 N] rfl zl)) λf S=>lS S rfl rfl rfl rfl (ZD S rfl rfl Tz) λf S=>lS S rfl rfl rfl rfl (qv S (b:=true) rfl rfl) λf S=>ov S rfl (qv S (b:=false) rfl rfl) λf S=>ZS ?_;have S:=S.fr' (σ':=[(0,.slice (some ⟨a,i,none⟩) (e) h),(1,.slice (some ⟨r,s,none⟩) o p),(5,.int .i64 ((((Zc 18446744073709551616 v)).length:Int))),(6,.int .u64 q),(7,.int .u64 l),(55,.int .u64 (B.1)),(56,.int .u64 l),(57,.bool true),(58,.bool true),(59,.int .u64 (B.2)),(60,.slice (some ⟨a,i,none⟩) (e) h),(61,.int .i64 ((((Zc 18446744073709551616 v)).length:Int))),(62,.int .i64 aw),(63,.pointer (some ⟨a,i+(aw).toNat*1,none⟩)),(64,.int .u64 N),(65,.bool (decide (B.2≤N))),(66,.bool (decide (B.2≤N))),(67,.bool (decide (B.2≤N)))]) rfl
      obtain rfl:=ZO H;refine Zp (av _ _ ⟨_,_,rfl,(gS _),(S.fr' rfl)⟩)
     have H:=jF H C;have S:=S.bool (t:=57) rfl C;have S:=S.bool (t:=58) rfl C;refine mL S rfl rfl rfl rfl λf S=>mL S rfl rfl rfl rfl λf S=>mL S rfl rfl rfl rfl λf S=>mL S rfl rfl rfl rfl λf S=>mL S rfl rfl rfl rfl λf S=>mL S rfl rfl rfl rfl λf S=>mL S rfl rfl rfl rfl λf S=>lS S rfl rfl rfl rfl (qv S (b:=false) rfl rfl) λf S=>ov S rfl (qv S (b:=false) rfl rfl) λf S=>ZS ?_;have S:=S.fr' (σ':=[(0,.slice (some ⟨a,i,none⟩) (e) h),(1,.slice (some ⟨r,s,none⟩) o p),(5,.int .i64 ((((Zc 18446744073709551616 v)).length:Int))),(6,.int .u64 q),(7,.int .u64 l),(55,.int .u64 (B.1)),(56,.int .u64 l),(57,.bool false),(58,.bool false),(59,undef),(60,undef),(61,undef),(62,undef),(63,undef),(64,undef),(65,undef),(66,.bool false),(67,.bool false)]) rfl;obtain rfl:=ZO H;refine Zp (av _ _ ⟨_,_,rfl,(gS _),(S.fr' rfl)⟩)
    rintro f w ⟨ad,au,b,P,S⟩;subst b;have H:=bK;have d:=ZQ P d;refine Zp (bH _ _ ?_);rcases jy (ad) with Q |Q
    ·have H:=jH H Q;refine iU S rfl Q (wp_exit (iu (Rt rfl ?_)));obtain rfl:=ZO H;have b:=aR _ rfl;subst b;have H:=aP;refine iu (m8 ?_);obtain rfl:=ZO H;refine Zp (aO _ _ ⟨_,_,rfl,(fx (fx (fx (gS _) L) E) P),(S.fr' rfl),aQ⟩)
    have H:=jF H Q;refine gn S rfl Q (wp_skip (Zp (bG _ _ (sr (mv S rfl λf S=>ov S rfl (ZD S rfl rfl JL) λf S=>mw S rfl λf S=>oe (sr (mw S rfl λf S=>oe (ZH λ_ bP=>bO H λcM bS H=>bO H λbT ax H=>?_))))))));refine bO H λbU aU H=>ZX (mv S rfl λf S=>mv S rfl λf S=>mv S rfl λf S=>ov S rfl (ZD S rfl rfl (ko bS)) λf S=>?_);have g:=gY (fx E P) g;obtain⟨cN,bV,bW⟩:=Nv g (Zr ax).2.1;obtain⟨rfl,cO⟩:=bW;refine ov S rfl (gB S rfl rfl fX (Zr ax).1 (i5 (iX g) (Zr ax).2.2.1)) λf S=>ov S rfl (jb S rfl jA (S.view bV)) λf S=>ov S rfl (Fk S [.int .u64 l,.int .u64 bT,.int .u64 0] (Ky Tq aU) rfl rfl) λf S=>mv S rfl λf S=>ov S rfl (gF S rfl rfl) λf S=>ov S rfl (gF S rfl rfl) λf S=>mw S rfl λf S=>mw S rfl λf S=>ZS (Zp (bP _ _ (sr (mv S rfl λf S=>ov S rfl (ZD S rfl rfl qW) λf S=>oe ?_))));rcases jy (decide ((0:Int)<bU.2)) with R |R
    ·have H:=jH H R;refine iU S rfl R (wp_exit (Rt rfl ?_));obtain rfl:=ZO H;have b:=aR _ rfl;subst b;have H:=aP;refine iu (m8 ?_);obtain rfl:=ZO H;refine Zp (aO _ _ ⟨_,_,rfl,(fx (fx (fx (gS _) L) E) P),(S.fr' rfl),(kI _ _)⟩)
    have H:=jF H R;refine gn S rfl R (wp_skip (mX ?_));obtain rfl:=ZO H;refine bv _ rfl _ _ ⟨_,_,_,rfl,(fx (fx L E) P),(S.fr' rfl),(kI _ _),(LH aU)⟩
   rintro f w ⟨ac,an,b,aV,S,bX⟩;subst b;have H:=bs;have d:=ZQ aV d;obtain rfl:=ZO H;refine Zp (aH _ _ ⟨_,_,rfl,(fx (fx (gS _) ab) aV),(S.fr' rfl),bX⟩)
  have H:=jF H J;refine gn S rfl J (wp_skip ?_);obtain rfl:=ZO H;refine Zp (aH _ _ ⟨_,_,rfl,(gS _),(S.fr' rfl),(by decide)⟩)
 rintro f w ⟨W,I,b,aW,S,bY⟩;subst b;have H:=bb;have d:=ZQ aW d;refine Zp (a3 _ _ (ZH λ_ bZ=>?_));obtain⟨b1,b2,b3⟩:=f9 H;refine nt (λf w=>∃af T ay ag,(af,T)=b1∧Zb.le I ag∧St 90 ⟨x,[a]⟩ m [(6,.int .u64 T)] [dY.box a A (n++ay++t)] ag f w∧ee.rels (Zd .u64) ag ay af∧e=af.length∧eJ .u64 T) (λ_ b4=>?_) ?_
 ·have H:=b2;refine wp_block ?_;obtain⟨cP,b5,b6⟩:=f9 H;refine qN b5 (λb7 f w=>∃ah D az ai,(ah,D)=b7∧Zb.le I ai∧St 90 ⟨x,[a]⟩ m [(0,.slice (some ⟨a,i,none⟩) (e) h),(1,.slice (some ⟨r,s,none⟩) o p),(6,.int .u64 D)] [dY.box a A (n++az++t)] ai f w∧ee.rels (Zd .u64) ai az ah∧e=ah.length∧eJ .u64 D) ⟨_,_,j,_,rfl,(gS _),(S.fr' rfl),d,k,bY⟩ ?_;rintro _ f w st ⟨ah,D,az,ai,b,aA,S,aB,b8,aX⟩ H cQ b9 ca;subst b;refine ZH λ_ cb=>ZH λ_ cc=>bO H λce cg H=>ZX (mv S rfl λf S=>mv S rfl λf S=>mv S rfl λf S=>?_);have g:=gY (fx aW aA) g;refine Vd S wn rfl zl (gz S [.slice (some ⟨a,i,none⟩) (e) h,.slice (some ⟨r,s,none⟩) o p,.int .u64 D] sG rfl rfl) (i:=0) rfl rfl (Ay S.vin (S.boxAt (j:=0) rfl).1 G (S.boxAt (j:=0) rfl).2 b8 a2 aB g (show ee.rel (Zd .u64) _ [.int .u64 D] D from(Z7 aX)) cg) ?_;rintro _ cR f w aC ⟨⟨cS,rfl,ch⟩,ci,aD,ck,aY,aZ⟩ aa;have aB:=ZQ aC aB;have S:=aa (dY.box a A (n++aD++t)) rfl ck ci;obtain rfl:=ch;refine ov S rfl (Ru S rfl) λf S=>ZS (Zp (cc _ _ ?_));rcases jy (!(ce.1)) with U |U
  ·have H:=jH H U;refine iU S rfl U (wp_skip (Zp (cb _ _ (wp_block (ZX (mv S rfl λf S=>ov S rfl (ZD S rfl rfl JL) λf S=>mw S rfl λf S=>ZS (mX ?_)))))));obtain rfl:=ZO H;refine b9 _ rfl _ _ ⟨_,_,aD,_,rfl,(fx aA aC),(S.fr' rfl),aZ,aY,(kI _ _)⟩
  have H:=jF H U;refine gn S rfl U (wp_exit (iu ?_));obtain rfl:=ZO H;have b:=ca _ rfl;subst b;have H:=b6;refine iu (m8 ?_);obtain rfl:=ZO H;refine Zp (b4 _ _ ⟨_,_,aD,_,rfl,(fx (fx (gS _) aA) aC),(S.fr' rfl),aZ,aY,aX⟩)
 rintro f w ⟨af,T,ay,ag,b,cT,S,cl,cm,co⟩;subst b;have H:=b3;refine Zp (bZ _ _ (sr (mv S rfl λf S=>mw S rfl λf S=>oe (wp_ret ?_))));obtain rfl:=ZO H;refine IQ S (kl rfl (gO S rfl)) ⟨⟨[.int .u64 T],rfl,(Z7 co)⟩,(S.boxAt (j:=0) rfl).2,_,(S.boxAt (j:=0) rfl).1,cm,cl⟩
theorem rK{d:World}{b:Zb}(A:fc b d){a t c e:Nat}{f:TypeId}{p s w:List Value}{u:(List Int)}(j:d.heap[a]?= some (.cells (p++s++w).toArray f (0,0)))(k:t=p.length)(l:b a=none)(m:c=u.length)(n:c≤e∧e≤maxLen)(g:ee.rels (Zd .u64) b s u){h:List Value}{v:Nat}(o:ee.rel Zx b h v){z:Int×(List Int)}(x:Cd u v=some z):
  oY Tryz.prog 170 #[Value.slice (some ⟨a,t,none⟩) c e,Zx.val h] d b [a] (λy q B=>(∃i,y=(Zd .u64).val i∧(Zd .u64).rel q i z.1)∧q a=none∧∃r,B.heap[a]?= some (.cells (p++r++w).toArray f (0,0))∧c=z.2.length∧ee.rels (Zd .u64) q r z.2) :=
 rM A j k l m n g o (ZsB (KM g) x)
noncomputable def zB:FuncId×eu:=(169,⟨[.leaf 0,.int .i64],[.leaf 0],λp=>oK p.1 p.2⟩)
theorem zD:KR zB:=ZC (C:=ft [(37,0)] [vt]) (.n (.two (.f (.j [0,1] [] [.s 14 (.dat .bool)] .no)) (.n (.f (.n (.j [] [] [.s 5 (.own 191 (.int .u64))] (.f (.l [1,23,24] [] [.s 5 (.own 191 (.int .u64)),.s 25 (.dat (.int .i64))] 0 [] [] [.s 5 (.own 191 (.int .u64))] .no)))))))) Tryz.func169 [] (λv c x z b a=>.trans (by kernel_rfl) (Xd a)) ⟨BA,tr⟩
theorem QC{e:World}{b:Zb}(j:fc b e){c:List Value}{a:Nat}(g:ee.rel Zx b c a){d:List Value}{n:Int}(h:ee.rel (Zd .i64) b d n){z:Nat}(i:oK a n=some z):
  fM Tryz.prog 169 #[Zx.val c,(Zd .i64).val d] e b (λy k=>∃f,y=Zx.val f∧Zx.rel k f z) :=
 (zD e b [Zx.val c,(Zd .i64).val d] (a,n) z j ⟨c,_,rfl,g,d,rfl,h⟩ i).2
theorem zF{c:World}{a:Zb}(g:fc a c){b:List Value}{x:Int}(e:ee.rel (Zd .u64) a b x){z:Int}(f:oL x=some z):
  fM Tryz.prog 168 #[(Zd .u64).val b] c a (λy h=>∃d,y=(Zd .i64).val d∧(Zd .i64).rel h d z) :=
 (Sh c a [(Zd .u64).val b] (x) z g ⟨b,rfl,e⟩ f).2
noncomputable def t6:FuncId×eu:=(171,⟨[.leaf 0,.int .i64],[.leaf 0],λp=>xn p.1 p.2⟩)
theorem t7:KR t6:=ZC (C:=ft [(37,0)] [vt]) (.n (.n (.n (.f (.n (.j [] [] [.s 5 (.own 191 (.int .u64))] (.f (.l [0,1,19] [] [.s 5 (.own 191 (.int .u64)),.s 20 (.dat (.int .i64))] 0 [] [] [.s 5 (.own 191 (.int .u64))] (.f (.n (.n (.f (.f (.n (.n (.n (.j [0,1,19,20] [] [.s 5 (.own 191 (.int .u64))] .no))))))))))))))))) Tryz.func171 [] (λv i x z a b=>by obtain⟨d,j,f,h,e,g,c⟩:=a;exact .trans (by kernel_rfl) (Wu c.2 b)) ⟨BA,tr⟩
theorem tZ{e:World}{b:Zb}(j:fc b e){c:List Value}{a:Nat}(g:ee.rel Zx b c a){d:List Value}{n:Int}(h:ee.rel (Zd .i64) b d n){z:Nat}(i:xn a n=some z):
  fM Tryz.prog 171 #[Zx.val c,(Zd .i64).val d] e b (λy k=>∃f,y=Zx.val f∧Zx.rel k f z) :=
 (t7 e b [Zx.val c,(Zd .i64).val d] (a,n) z j ⟨c,_,rfl,g,d,rfl,h⟩ i).2
theorem AE{c:World}{a:Zb}(g:fc a c){b:List Value}{n:Int}(e:ee.rel (Zd .u64) a b n){z:Nat}(f:ju n=some z):
  fM Tryz.prog 115 #[(Zd .u64).val b] c a (λy h=>∃d,y=Zx.val d∧Zx.rel h d z) :=
 (QJ c a [(Zd .u64).val b] (n) z g ⟨b,rfl,e⟩ f).2
theorem WS{w0:World}{F:Zb}(hv:fc F w0){c0:List Value}{a:Nat}(m:ee.rel Zx F c0 a){c1:List Value}{b:Nat}(g:ee.rel Zx F c1 b){z:Nat×Nat}(H:Ee a b=some z):fM Tryz.prog 117 #[Zx.val c0,Zx.val c1] w0 F (λy v'=>∃r0 r1,y= .tuple #[Zx.val r0,Zx.val r1]∧Zx.rel v' r0 z.1∧Zx.rel v' r1 z.2):=by
 obtain⟨R,T,U,rfl⟩:=ig m;obtain⟨q4,n5,k6,rfl⟩:=ig g;refine CM (K:=84) (args:=[.slice R T U,.slice q4 n5 k6]) hv Tryz.func117 rfl rfl zl λf S=>?_;unfold Ee at H;refine sr (mw S rfl λf S=>mw S rfl λf S=>oe (ZH λ_ bb=>wp_block (ZH λ_ bc=>bO H λbd be H=>ZX (mv S rfl λf S=>mv S rfl λf S=>ji S rfl (gz S [.slice R T U,.slice q4 n5 k6] T7 rfl rfl) (wq S.vin m g be) ?_))));rintro _ c2 f w K ⟨c3,rfl,bf⟩ S;obtain⟨rfl,c4⟩:=bf;refine ov S rfl (ZD S rfl rfl m5) λf S=>mw S rfl λf S=>ZS (Zp (bc _ _ ?_));rcases jy (decide (bd<(0:Int))) with V |V
 ·have H:=jH H V;refine iU S rfl V (sr (mv S rfl λf S=>mw S rfl λf S=>mw S rfl λf S=>oe (wp_ret (Tk (Bx ?_)))));obtain rfl:=ZO H;have m:=gY K m;refine yp S (Gw rfl (gO S rfl) (gO S rfl)) ⟨[.slice none 0 0],[.slice R T U],rfl,(BR _),m⟩
 have H:=jF H V;refine gn S rfl V (sr (mv S rfl λf S=>?_));have g:=gY K g;refine ov S rfl (kF S (iX g) rfl rfl fX) λf S=>ov S rfl (ZD S rfl rfl xw) λf S=>mw S rfl λf S=>oe ?_;rcases jy (((((Zc 18446744073709551616 b)).length:Int))==(1:Int)) with W |W
 ·have H:=jH H W;refine iU S rfl W (ZH λ_ bg=>bO H λau av H=>bO H λaw bh H=>ZX (mv S rfl λf S=>mv S rfl λf S=>?_));obtain⟨_,c5,c6,c7,rfl,ax,bi⟩:=ly g (Zr av).2.1;obtain⟨rfl,bj⟩:=bi;refine ov S rfl (gB S rfl rfl fX (Zr av).1 (i5 (iX g) (Zr av).2.2.1)) λf S=>ov S rfl (jb S rfl jA (S.view ax)) λf S=>?_;have m:=gY K m;refine ji S rfl (gz S [.slice R T U,.int .u64 au] Ot rfl rfl) (Qt S.vin m (show ee.rel (Zd .u64) _ [.int .u64 au] au from(Z7 bj)) bh) ?_;rintro _ c8 f w bk ⟨c9,da,rfl,P,bm⟩ S;have ax:=Fc bk ax;obtain⟨aS,aT,aU,rfl⟩:=ig P;obtain⟨rfl,bn⟩:=bm;refine mv S rfl λf S=>ov S rfl (gF S rfl rfl) λf S=>ov S rfl (gF S rfl rfl) λf S=>mw S rfl λf S=>mw S rfl λf S=>ZS (Zp (bg _ _ (ZH λ_ bo=>bO H λdb bp H=>ZX (mv S rfl λf S=>mv S rfl λf S=>ji S rfl (gz S [.int .u64 (aw.2)] sB rfl rfl) (AE S.vin (show ee.rel (Zd .u64) _ [.int .u64 (aw.2)] aw.2 from(Z7 bn)) bp) ?_))));rintro _ dc f w bq ⟨dd,rfl,aV⟩ S;obtain⟨aW,aX,aY,rfl⟩:=ig aV;refine mw S rfl λf S=>mw S rfl λf S=>ZS ?_;have S:=S.fr' (σ':=[(4,.slice aS aT aU),(5,.slice aW aX aY)]) rfl;refine Zp (bo _ _ (wp_ret (Tk (Bx ?_))))
  obtain rfl:=ZO H;have P:=gY bq P;refine yp S (Gw rfl (gO S rfl) (gO S rfl)) ⟨[.slice aS aT aU],[.slice aW aX aY],rfl,P,aV⟩
 have H:=jF H W;refine gn S rfl W (wp_skip (mX (Zp (bb _ _ (ZH λ_ br=>bO H λde bs H=>bO H λay az H=>bO H λk bt H=>ZX (mv S rfl λf S=>mv S rfl λf S=>ov S rfl (kF S (iX g) rfl rfl fX) λf S=>ov S rfl (ZD S rfl rfl (ko bs)) λf S=>?_))))));obtain⟨_,bu,bv,df,rfl,aA,bw⟩:=ly g (Zr az).2.1;obtain⟨rfl,bx⟩:=bw;refine ov S rfl (gB S rfl rfl fX (Zr az).1 (i5 (iX g) (Zr az).2.2.1)) λf S=>ov S rfl (jb S rfl jA (S.view aA)) λf S=>ji S rfl (gz S [.int .u64 ay] sD rfl rfl) (zF S.vin (show ee.rel (Zd .u64) _ [.int .u64 ay] ay from(Z7 bx)) bt) ?_;rintro _ dg f w aB ⟨dh,rfl,bz⟩ S;have aA:=Fc aB aA;obtain⟨rfl,aC⟩:=bz;refine mw S rfl λf S=>ZS (Zp (br _ _ (ZH λ_ bA=>bO H λbB bC H=>ZX (mv S rfl λf S=>mv S rfl λf S=>?_))));have g:=gY aB g;refine ji S rfl (gz S [.slice (some ⟨bu,bv,none⟩) n5 k6,.int .i64 k] N7 rfl rfl) (QC S.vin g (show ee.rel (Zd .i64) _ [.int .i64 k] k from(Z7 aC)) bC) ?_;rintro _ bD f w bE ⟨di,rfl,v⟩ S;obtain⟨aD,aE,aF,rfl⟩:=ig v;refine mw S rfl λf S=>ZS (Zp (bA _ _ (ZH λ_ bG=>bO H λX bH H=>bO H λdj bI H=>bO H λdk bJ H=>ZX ?_)))
 obtain⟨dl,w,bK,S⟩:=BC (P:=Tryz.prog) (t:=37) (e:=191) S (n:=0) (cs:=[]) (vals:=[]) (sz:=1) rfl (by decide) (λ_=>by kernel_rfl);have aG:ee.rels (Zd .u64) bD [] []:=qC;refine jN wn rfl zl (bK rfl) S λf S=>mv S rfl λf S=>mv S rfl λf S=>?_;have m:=gY (fx (fx K aB) bE) m;refine ji S rfl (gz S [.slice R T U,.int .i64 k] N7 rfl rfl) (QC S.vin m (show ee.rel (Zd .i64) _ [.int .i64 k] k from(Z7 aC)) bH) ?_;rintro _ al f w aZ ⟨dm,rfl,aH⟩ S;have aG:=ZQ aZ aG;obtain⟨dn,dp,dq,rfl⟩:=ig aH;have aI:=S;obtain⟨dr,ds,a0,w,bM,S,bP⟩:=vZ (ty:=37) (A:=(Zd .u64)) D5 S (i:=0) (n':=(([]:(List Int))++((Zc 18446744073709551616 X))).length) rfl aH (yw rfl (iX aH)) (qU bI) (by decide);have bS:=ku aG bP;refine jN wn rfl zl (pE aI rfl rfl bM) S λf S=>?_;obtain⟨dt,w,bT,S⟩:=BC S (n:=1) (cs:=[.int .u64 0]) (vals:=[(0,.int .u64 0)]) (sz:=1) rfl (by decide) (Ph D5 (x:=.int .u64 0) (cs:=[.int .u64 0]) rfl rfl (by decide));have aJ:ee.rels (Zd .u64) al [.int .u64 0] [(0:Int)]:=(PK (Z7 (by decide)) qC);refine jN wn rfl zl (bT rfl) S λf S=>?_;have aI:=S;obtain⟨aK,aL,w,bU,S⟩:=F9 (ty:=37) D5 S (i:=1) (n':=((([]:(List Int))++((Zc 18446744073709551616 X)))++[(0:Int)]).length) rfl (qK aJ rfl) (wk S (j:=0) rfl) (xD aJ) (yw rfl rfl) (qU bJ) (by decide)
 have bV:=ku bS aJ;refine jN wn rfl zl (pE aI rfl rfl bU) S λf S=>mw S rfl λf S=>ZS ?_;have S:=S.fr' (σ':=[(8,.int .i64 k),(9,.slice aD aE aF),(10,.slice (eF aK) (((([]:(List Int))++((Zc 18446744073709551616 X)))++[(0:Int)]).length) aL)]) rfl;refine Zp (bG _ _ (sr (mv S rfl λf S=>?_)));have v:=gY aZ v;refine ov S rfl (kF S (iX v) rfl rfl fX) λf S=>mw S rfl λf S=>oe (ZH λ_ bW=>bO H λq bX H=>bO H λdu am H=>ZX (mv S rfl λf S=>ov S rfl (kF S rfl rfl rfl fX) λf S=>mv S rfl λf S=>ov S rfl (ZD S rfl rfl (ko bX)) λf S=>?_));obtain⟨aM,a1⟩:∃c:List Value,c=(List.replicate (q).toNat [.int .u64 0]).flatten:=⟨_,rfl⟩;obtain⟨a2,w,bY,S⟩:=Pb D5 S (l:=q) (c:=q) (nA am).1 (nA am).2.1 (nA am).2.2.1 (nA am).2.2.2 a1;have bZ:ee.rels (Zd .u64) al aM (List.replicate (q).toNat (0:Int)):=by rw[a1];exact ya (show ee.rel (Zd .u64) _ [.int .u64 0] _ from(Z7 (by decide))) _
 refine jN wn rfl zl (bY rfl rfl) S λf S=>mw S rfl λf S=>ZS (Zp (bW _ _ (ZH λ_ b0=>ZH λ_ b1=>bO H λdw a3 H=>ZX (mv S rfl λf S=>ov S rfl (kF S (Ac (x:=(0:Int))) rfl rfl fX) λf S=>ov S rfl (ZD S rfl rfl (ko a3)) λf S=>mw S rfl λf S=>ZS (Zp (b1 _ _ ?_))))));obtain⟨b2,b3,b4⟩:=f9 H;refine nt (λf w=>∃G I J B L an Y M Z aN e,(G,I)=b2∧Zb.le al e∧St 84 w0 F [(8,.int .i64 k),(10,.slice (eF J) B L),(12,.slice (eF Y) M Z)] [dY.own J 191 1 B L an,dY.own Y 191 1 M Z aN] e f w∧ee.rels (Zd .u64) e an G∧B=G.length∧ee.rels (Zd .u64) e aN I∧M=I.length) (λ_ b5=>?_) ?_
 ·have H:=b3;refine wp_block ?_;obtain⟨dx,b6,b7⟩:=f9 H;have S:=S.reorder (ℓ':=[dY.own aK 191 1 (((([]:(List Int))++((Zc 18446744073709551616 X)))++[(0:Int)]).length) aL ((([]++a0)++[.int .u64 0])),dY.own (some a2) 191 1 ((q).toNat) (q).toNat aM]) [2,0] rfl (by decide);refine qN b6 (λb8 f w=>∃ao N d ap C D s aq E i o j,(ao,N,d)=b8∧Zb.le al j∧St 84 w0 F [(8,.int .i64 k),(9,.slice aD aE aF),(10,.slice (eF ap) C D),(11,.int .i64 ((((Zc 18446744073709551616 bB)).length:Int))),(12,.slice (eF aq) E i),(13,.int .i64 d)] [dY.own ap 191 1 C D s,dY.own aq 191 1 E i o] j f w∧ee.rels (Zd .u64) j s ao∧C=ao.length∧ee.rels (Zd .u64) j o N∧E=N.length∧eJ .i64 d) ⟨_,_,_,aK,((([]:(List Int))++((Zc 18446744073709551616 X)))++[(0:Int)]).length,aL,(([]++a0)++[.int .u64 0]),some a2,(q).toNat,(q).toNat,aM,_,rfl,(gS _),(S.fr' rfl),bV,rfl,bZ,(Ac (x:=(0:Int))),(jW a3).2⟩ ?_;rintro _ f w st ⟨ao,N,d,ap,C,D,s,aq,E,i,o,j,A,aO,S,l,n,p,r,dy⟩ H dz b9 ca
  subst A;refine ZH λ_ cb=>sr (mv S rfl λf S=>ov S rfl (ZD S rfl rfl Ms) λf S=>oe ?_);rcases jy (decide ((0:Int)≤d)) with t |t
  ·have H:=jH H t;refine iU S rfl t (wp_skip (Zp (cb _ _ (ZH λ_ cc=>wp_block (bO H λdA ce H=>bO H λO cg H=>bO H λdB h H=>bO H λu ch H=>bO H λdC Q H=>ZX (mv S rfl λf S=>mv S rfl λf S=>mv S rfl λf S=>?_))))));refine mv S rfl λf S=>mv S rfl λf S=>mv S rfl λf S=>ov S rfl (ZD S rfl rfl (vc ce)) λf S=>ov S rfl (ZD S rfl rfl (vc cg)) λf S=>?_;obtain⟨aP,rfl⟩:=mr S (j:=0) rfl (by have:=lq h;have:=n;omega);refine ov S rfl (Ye S (j:=0) rfl fX (lq h).1 (lq h).2.1 (by have:=(lq h).2.2.1;have:=n;omega) rfl rfl rfl) λf S=>mv S rfl λf S=>?_;obtain⟨ad,ab,ci,ck,cl,cm,co,cp⟩:=Xq S (i:=0) (lo:=(d).toNat) (hi:=(O).toNat) rfl (lq h).2.2.2.2.2.1 (by have:=(lq h).2.2.2.2.2.2;have:=n;omega);have v:=gY aO v;refine Vd S wn rfl zl (gz S [.slice (some ⟨aP,(d).toNat*1,none⟩) ((O-d).toNat) (D-(d).toNat),.slice aD aE aF] sE rfl rfl) (i:=0) rfl rfl (rK S.vin ci cl ck (lq h).2.2.2.2.1 ⟨YP (lq h).1 (lq h).2.1 cm,co⟩ (YX l rfl (lq h).2.2.2.1) v ch) ?_;rintro _ a4 f w aQ ⟨⟨dD,rfl,cq⟩,cr,aR,ct,cu,a5⟩ aa;have l:=ZQ aQ l
   have p:=ZQ aQ p;have a6:((O).toNat-(d).toNat)=u.2.length:=by have:=cu;have:=lq h;omega
   have S:=aa (dY.own (some aP) 191 1 C D (List.take ((d).toNat*1) s++aR++List.drop ((O).toNat*1) s)) rfl (cp _ aR (qK a5 a6) ct) cr;have cv:=Wy (p:=(d).toNat) (r:=(O).toNat) (sz:=1) l a5 rfl;have cw:=WL n (lq h).2.2.2.2.2.1 (lq h).2.2.2.2.2.2 a6;obtain⟨rfl,cx⟩:=cq;obtain⟨cy,rfl⟩:=mr S (j:=1) rfl (zZ r (Zr Q).2.2.2);have a7:=hO p (Zr Q).2.1;obtain⟨dE,cz⟩:∃c,(List.take (Zd .u64).n (List.drop ((d).toNat*(Zd .u64).n) o))=c:=⟨_,rfl⟩;rw[cz]at a7;obtain⟨rfl,dF⟩:=a7;refine ov S rfl (gB S rfl rfl fX (Zr Q).1 (i5 r (Zr Q).2.2.1)) λf S=>?_;obtain⟨w,cA,S⟩:=pK S jA (off:=0+(d).toNat*1) (z:=.int .u64 (u.1)) (cs:=[.int .u64 (u.1)]) (nw rfl) rfl (i:=1) rfl (DV S (j:=1) rfl (n7 r (Zr Q).2.2.2)) (by first |rfl |simp[plain]);have cB:ee.rels (Zd .u64) a4 (List.take (0+(d).toNat*1) o++[Value.int IntKind.u64 (u.1)]++List.drop (0+(d).toNat*1+1) o) (N.set (d).toNat u.1):=yl p (Zr Q).2.2.2 (show ee.rel (Zd .u64) a4 [.int .u64 (u.1)] _ from(Z7 cx)) rfl rfl;have cC:E=(N.set (d).toNat u.1).length:=oh r;refine H8 wn rfl (cA rfl rfl) (ZS (mX (Zp (cc _ _ (bO H λdG a8 H=>ZX (mv S rfl λf S=>ov S rfl (ZD S rfl rfl (ko a8)) λf S=>mw S rfl λf S=>ZS ?_))))))
   obtain rfl:=ZO H;refine b9 _ rfl _ _ ⟨_,_,_,some aP,C,D,(List.take ((d).toNat*1) s++aR++List.drop ((O).toNat*1) s),some cy,E,i,(List.take (0+(d).toNat*1) o++[Value.int IntKind.u64 (u.1)]++List.drop (0+(d).toNat*1+1) o),_,rfl,(fx aO aQ),(S.fr' rfl),cv,cw,cB,cC,(jW a8).2⟩
  have H:=jF H t;refine gn S rfl t (wp_exit (iu ?_));obtain rfl:=ZO H;have A:=ca _ rfl;subst A;have H:=b7;refine iu (m8 ?_);obtain rfl:=ZO H;refine Zp (b5 _ _ ⟨_,_,ap,C,D,s,aq,E,i,o,_,rfl,(fx (gS _) aO),(S.fr' rfl),l,n,p,r⟩)
 rintro f w ⟨G,I,J,B,L,an,Y,M,Z,aN,e,A,dH,S,x,cD,cE,cF⟩;subst A;have H:=b4;refine Zp (b0 _ _ (ZH λ_ cG=>bO H λdI cH H=>bO H λdJ cI H=>bO H λdK cJ H=>ZX (mv S rfl λf S=>?_)));obtain⟨dL,cK,S,cL⟩:=S.pubSlice (i:=1) (A:=(Zd .u64)) (l:=I) (ℓ':=[dY.own J 191 1 B L an]) rfl rfl cF cE rfl;have x:=ZQ cK x;refine ji S rfl (gz S [.slice (eF Y) M Z] FL rfl rfl) (H4 S.vin (show ee.rel (Zy (Zd .u64)) _ [.slice (eF Y) M Z] I from cL) cH) ?_;rintro _ dM f w cM ⟨dN,rfl,ar⟩ S;have x:=ZQ cM x;obtain⟨cN,cO,cP,rfl⟩:=ig ar;refine mv S rfl λf S=>?_;obtain⟨dO,cQ,S,cR⟩:=S.pubSlice (i:=0) (A:=(Zd .u64)) (l:=G) (ℓ':=[]) rfl rfl cD x rfl;refine ji S rfl (gz S [.slice (eF J) B L] FL rfl rfl) (H4 S.vin (show ee.rel (Zy (Zd .u64)) _ [.slice (eF J) B L] G from cR) cI) ?_;rintro _ dP f w cS ⟨dQ,rfl,a9⟩ S;obtain⟨cT,cU,cV,rfl⟩:=ig a9;refine mv S rfl λf S=>ji S rfl (gz S [.slice cT cU cV,.int .i64 k] sF rfl rfl) (tZ S.vin a9 (show ee.rel (Zd .i64) _ [.int .i64 k] k from(Z7 aC)) cJ) ?_;rintro _ dR f w cW ⟨dS,rfl,ba⟩ S;obtain⟨cX,cY,cZ,rfl⟩:=ig ba
 refine mw S rfl λf S=>mw S rfl λf S=>ZS (Zp (cG _ _ (wp_ret ?_)));obtain rfl:=ZO H;have ar:=gY (fx (fx cQ cS) cW) ar;refine yp S (Gw rfl (gO S rfl) (gO S rfl)) ⟨[.slice cN cO cP],[.slice cX cY cZ],rfl,ar,ba⟩
theorem Xm{d:World}{c:Zb}(m:fc c d){e:List Value}{a:Nat}(i:ee.rel Zx c e a){f:List Value}{b:Nat}(j:ee.rel Zx c f b){z:Nat×Nat}(l:iC a b=some z):
  fM Tryz.prog 117 #[Zx.val e,Zx.val f] d c (λy k=>∃g h,y=Value.tuple #[Zx.val g,Zx.val h]∧Zx.rel k g z.1∧Zx.rel k h z.2) :=
 WS m i j (ZcD l)
noncomputable def BK:FuncId×eu:=(117,⟨[.leaf 0,.leaf 0],[.leaf 0,.leaf 0],λp=>iC p.1 p.2⟩)
theorem Ie:mq Tryz.prog BK.1 BK.2:=λw v p x z g f h=>by
 obtain⟨m,q,a,i,n,b,j⟩:=f;subst a;subst b
 exact .inl ⟨λ_ _=>by kernel_rfl,fM.mono (Xm g i j h) λy o _ ⟨k,l,e,c,d⟩=>⟨_,e,k,_,rfl,c,l,rfl,d⟩⟩
noncomputable def QM:FuncId×eu:=(174,⟨[.leaf 0,.leaf 0],[.int .u64],λp=>BH p.1 p.2⟩)
theorem uz:KQ QM:=Zi (ZC (C:=ft [(37,0)] []) (.n (.n (.two (.n (.j [1] [] [.s 5 (.dat (.int .u64))] .no)) (.n (.f (.j [] [] [.s 5 (.dat (.int .u64))] (.f (.l [] [] [.s 5 (.dat (.int .u64)),.s 6 (.dat (.int .u64))] 0 [] [] [.s 5 (.dat (.int .u64))] .no)))))))) Tryz.func174 [] (λv c x z b a=>.trans (by kernel_rfl) (Yu a)))
noncomputable def nT:FuncId×eu:=(132,⟨[.leaf 0,.leaf 0],[.leaf 0],λp=>pc p.1 p.2⟩)
theorem wA:KQ nT:=Zi (ZC (C:=ft [(37,0)] [x6,BK,QM]) (.n (.f (.cut ⟨⟨[],[],[]⟩,[(.norm,⟨[],[],[.s 0 (.dat (.leaf 0))]⟩),(.ret,⟨[],[],[.s 1000 (.dat (.leaf 0))]⟩)]⟩ (.f (.cut ⟨⟨[],[],[.s 0 (.dat (.leaf 0)),.s 1 (.dat (.leaf 0))]⟩,[(.ret,⟨[],[],[.s 1000 (.dat (.leaf 0))]⟩),(.exit 0,⟨[],[],[.s 0 (.dat (.leaf 0))]⟩)]⟩ (.f (.n (.f (.f (.f (.j [0,1] [] [.s 17 (.dat .bool)] .no))))))))))) Tryz.func132 [] (λv c x z b a=>.trans (by kernel_rfl) (r8 a)) ⟨CA,Ie,uz,tr⟩)
noncomputable def Gn:FuncId×eu:=(133,⟨[.leaf 0],[.bool],λp=>pH p⟩)
theorem Jp:KQ Gn:=Zi (IA (C:=ft [] []) (.n (.f (.j [] [] [.s 2 (.dat .bool)] .no))) Tryz.func133 [] [.slice (.int .u64)] [.bool] (λx=>((Zc 18446744073709551616 x))) (λz=>z) (λv c x z b a=>.trans (by kernel_rfl) (ZuE.trans a)))
noncomputable def B4:FuncId×eu:=(74,⟨[.leaf 2,.leaf 0],[.leaf 3],λp=>jO p.1 p.2⟩)
theorem Da:KQ B4:=Zi (ZC (C:=eD [BK,nT,Gn] [] [] []) (.n (.two (.n (.n (.j [2,4] [] [.s 1 (.dat (.leaf 0)),.l (.sl 2) (.box 39 (.dat (.pair .bool (.leaf 0))))] .no))) (.f (.n (.j [2,4] [] [.s 1 (.dat (.leaf 0))] .no))))) Tryz.func74 [] (λv c x z b a=>.trans (by kernel_rfl) (ZsC a)) ⟨Ie,wA,Jp,tr⟩)
noncomputable def xu:FuncId×eu:=(172,⟨[.bool,.leaf 0],[.leaf 2],λp=>jc p.1 p.2⟩)
theorem Bs:KQ xu:=Zi (ZC (C:=eD [] [] [] []) (.n (.f (.j [4] [] [.l (.sl 4) (.box 39 (.dat (.pair .bool (.leaf 0))))] .no))) Tryz.func172 [] (λv c x z b a=>.trans (by kernel_rfl) (YB a)))
noncomputable def Rb:FuncId×eu:=(120,⟨[.int .i64,.int .i64],[.leaf 3,.int .i64],λp=>C7 p.1 p.2⟩)
theorem z7:KQ Rb:=Zi (ZC (C:=eD [B4,zP,xu] [] [] []) .no Tryz.func120 [] (λv i x z a b=>by obtain⟨e,j,g,c,f,h,d⟩:=a;exact .trans (by kernel_rfl) (V9 c.2 d.2 b)) ⟨Da,ER,Bs,tr⟩)
noncomputable def Ld:FuncId×eu:=(64,⟨[.pair (.int .i64) (.int .i64)],[.leaf 3],λp=>qF p⟩)
theorem NT:KQ Ld:=Zi (ZC (C:=eD [G4,Rb] [] [] []) .no Tryz.func64 [] (λv c x z b a=>.trans (by kernel_rfl) (ZxD a)) ⟨I',z7,tr⟩)
noncomputable def qe:FuncId×eu:=(177,⟨[.slice (.int .u32)],[.leaf 1],λp=>iS p⟩)
theorem vP:KQ qe:=Zi (IA (C:=ft [] []) (.n (.n (.f (.j [0] [] [.s 3 (.dat (.int .i64))] (.f (.l [0] [] [.s 3 (.dat (.int .i64))] 0 [0] [] [.s 3 (.dat (.int .i64))] (.f (.f (.f (.j [0,3] [] [.s 15 (.dat .bool)] .no)))))))))) Tryz.func177 [] [.slice (.int .u32)] [.slice (.int .u32)] (λx=>(x)) (λz=>(Zc 4294967296 z)) (λv f x z b c=>by obtain⟨d,e,a⟩:=b;exact .trans (by kernel_rfl) (by cases c;exact(tS (MQ a).1 (MQ a).2))))
noncomputable def Ea:FuncId×eu:=(137,⟨[.leaf 1,.leaf 1],[.leaf 1],λp=>gJ p.1 p.2⟩)
theorem Gd:KQ Ea:=Zi (ZC (C:=ft [(49,1),(51,4)] [qe]) (.n (.n (.f (.n (.j [] [] [.s 5 (.own 223 (.int .u32))] (.f (.l [0,1] [] [.s 5 (.own 223 (.int .u32)),.s 6 (.dat (.int .i64))] 0 [] [] [.s 5 (.own 223 (.int .u32))] (.f (.n (.f (.f (.n (.f (.n (.j [0,1,6] [] [.s 5 (.own 223 (.int .u32)),.s 7 (.dat (.int .u64))] (.f (.l [0,1,6] [] [.s 5 (.own 223 (.int .u32)),.s 7 (.dat (.int .u64)),.s 8 (.dat (.int .i64))] 2 [0,1,6] [] [.s 5 (.own 223 (.int .u32)),.s 7 (.dat (.int .u64))] .no))))))))))))))))) Tryz.func137 [] (λv c x z b a=>.trans (by kernel_rfl) (ZjF a)) ⟨vP,tr⟩)
noncomputable def DX:FuncId×eu:=(138,⟨[.int .u64],[.leaf 1],λp=>kg p⟩)
theorem Im:KQ DX:=Zi (ZC (C:=ft [(49,1),(51,4)] [qe]) .no Tryz.func138 [] (λv f x z a b=>by obtain⟨d,e,c⟩:=a;exact .trans (by kernel_rfl) (WZ c.2 b)) ⟨vP,tr⟩)
noncomputable def CG:FuncId×eu:=(178,⟨[.leaf 1,.leaf 1],[.int .i64],λp=>j6 p.1 p.2⟩)
theorem Gl:KQ CG:=Zi (ZC (C:=ft [(49,1),(51,4)] []) (.n (.n (.n (.f (.n (.cut ⟨⟨[],[],[]⟩,[(.norm,⟨[],[],[]⟩),(.ret,⟨[],[],[.s 1000 (.dat (.int .i64))]⟩)]⟩ (.f (.cut ⟨⟨[0,1],[],[.s 5 (.dat (.int .i64))]⟩,[(.ret,⟨[],[],[.s 1000 (.dat (.int .i64))]⟩),(.exit 0,⟨[],[],[]⟩)]⟩ .no)))))))) Tryz.func178 [] (λv i x z a b=>by obtain⟨e,j,g,c,f,h,d⟩:=a;exact .trans (by kernel_rfl) ((ZpE (RW c) (RW d)).trans b)))
noncomputable def LD:FuncId×eu:=(179,⟨[.leaf 1,.int .u32],[.leaf 1,.int .u32],λp=>wa p.1 p.2⟩)
theorem Q3:KQ LD:=Zi (ZC (C:=ft [(49,1),(51,4)] [qe]) (.n (.n (.n (.f (.n (.j [] [] [.s 6 (.own 223 (.int .u32)),.s 7 (.dat (.int .u64))] (.f (.l [0,1] [] [.s 6 (.own 223 (.int .u32)),.s 7 (.dat (.int .u64)),.s 8 (.dat (.int .i64))] 0 [] [] [.s 6 (.own 223 (.int .u32)),.s 7 (.dat (.int .u64))] .no)))))))) Tryz.func179 [] (λv i x z a b=>by obtain⟨d,j,f,h,e,g,c⟩:=a;exact .trans (by kernel_rfl) (Yq c.2 b)) ⟨vP,tr⟩)
noncomputable def Ni:FuncId×eu:=(180,⟨[.leaf 1],[.int .i64],λp=>wh p⟩)
theorem QI:KQ Ni:=Zi (ZC (C:=ft [(49,1),(51,4)] []) (.n (.n (.n (.f (.n (.j [] [] [.s 3 (.dat (.int .i64))] (.f (.l [] [] [.s 3 (.dat (.int .i64)),.s 4 (.dat (.int .u32))] 0 [] [] [.s 3 (.dat (.int .i64))] .no)))))))) Tryz.func180 [] (λv c x z b a=>.trans (by kernel_rfl) (YY a)))
noncomputable def Bc:FuncId×eu:=(181,⟨[.leaf 1,.int .i64],[.leaf 1],λp=>jn p.1 p.2⟩)
theorem DJ:KQ Bc:=Zi (ZC (C:=ft [(49,1),(51,4)] [qe]) (.n (.n (.n (.n (.f (.n (.j [] [] [.s 5 (.own 223 (.int .u32)),.s 6 (.dat (.int .u64))] (.f (.l [0,1] [] [.s 5 (.own 223 (.int .u32)),.s 6 (.dat (.int .u64)),.s 7 (.dat (.int .i64))] 0 [] [] [.s 5 (.own 223 (.int .u32)),.s 6 (.dat (.int .u64))] .no))))))))) Tryz.func181 [] (λv c x z b a=>.trans (by kernel_rfl) (Yy a)) ⟨vP,tr⟩)
noncomputable def Nm:FuncId×eu:=(182,⟨[.leaf 1,.leaf 1],[.leaf 1],λp=>ke p.1 p.2⟩)
theorem TK:KQ Nm:=Zi (ZC (C:=ft [(49,1),(51,4)] [qe]) (.n (.n (.n (.f (.n (.j [] [] [.s 5 (.own 223 (.int .u32))] (.f (.l [0,1] [] [.s 5 (.own 223 (.int .u32)),.s 6 (.dat (.int .i64)),.s 7 (.dat (.int .i64))] 0 [] [] [.s 5 (.own 223 (.int .u32))] (.f (.n (.f (.f (.n (.two (.n (.j [0,1,5,7] [] [.s 8 (.dat (.int .i64))] .no)) (.n (.f (.n (.j [0,1,5,7] [] [.s 6 (.dat (.int .i64)),.s 8 (.dat (.int .i64))] .no)))))))))))))))))) Tryz.func182 [] (λv c x z b a=>.trans (by kernel_rfl) (ZwF a)) ⟨vP,tr⟩)
noncomputable def Ln:FuncId×eu:=(183,⟨[.leaf 1,.int .i64],[.leaf 1],λp=>pC p.1 p.2⟩)
theorem Si:KQ Ln:=Zi (ZC (C:=ft [(49,1),(51,4)] [qe]) (.n (.n (.f (.n (.j [] [] [.s 5 (.own 223 (.int .u32))] (.f (.l [0,1] [] [.s 5 (.own 223 (.int .u32)),.s 6 (.dat (.int .i64))] 0 [] [] [.s 5 (.own 223 (.int .u32))] (.f (.n (.f (.f (.n (.f (.n (.j [0,1,5,6] [] [.s 7 (.dat (.int .u64))] .no))))))))))))))) Tryz.func183 [] (λv i x z a b=>by obtain⟨d,j,f,h,e,g,c⟩:=a;exact .trans (by kernel_rfl) (ZmF c.2 b)) ⟨vP,tr⟩)
noncomputable def Ha:FuncId×eu:=(140,⟨[.leaf 1,.leaf 1],[.leaf 1,.leaf 1],λp=>jR p.1 p.2⟩)
theorem Jw:KQ Ha:=Zi (ZC (C:=ft [(49,1),(51,4)] [Ea,DX,qe,CG,LD,Ni,Bc,Nm,Ln]) (.n (.n (.n (.n (.n (.n (.n (.f (.n (.j [8] [] [.s 10 (.dat (.leaf 1)),.s 12 (.own 223 (.int .u32))] (.f (.l [8,9,11] [] [.s 10 (.dat (.leaf 1)),.s 12 (.own 223 (.int .u32)),.s 13 (.dat (.int .i64))] 0 [8] [] [.s 10 (.dat (.leaf 1)),.s 12 (.own 223 (.int .u32))] (.f (.n (.f (.j [8,9,11,13] [] [.s 10 (.dat (.leaf 1)),.s 12 (.own 223 (.int .u32))] (.f (.n (.two (.n (.j [8,9,10,11,12,13] [] [.s 14 (.dat (.slice (.int .u32)))] .no)) (.n (.n (.two (.n (.j [8,9,10,11,12,13,14] [] [.s 15 (.dat (.int .u64))] .no)) (.n (.two (.n (.j [8,9,10,11,12,13,14] [] [.s 16 (.dat (.int .u64))] .no)) (.n (.f (.j [8,9,10,11,12,13,14] [] [.s 16 (.dat (.int .u64)),.s 17 (.dat (.leaf 1))] (.f (.l [8,9,10,11,12,13,14] [] [.s 16 (.dat (.int .u64)),.s 17 (.dat (.leaf 1))] 2 [8,9,10,11,12,13,14] [] [.s 16 (.dat (.int .u64)),.s 17 (.dat (.leaf 1))] .no))))))))))))))))))))))))))))) Tryz.func140 [] (λv c x z b a=>.trans (by kernel_rfl) (ZyF a)) ⟨Gd,Im,vP,Gl,Q3,QI,DJ,TK,Si,tr⟩)
noncomputable def P7:FuncId×eu:=(139,⟨[.leaf 1,.leaf 1],[.leaf 1],λp=>lT p.1 p.2⟩)
theorem Ae:KQ P7:=Zi (ZC (C:=ft [(49,1),(51,4)] [Ha]) (.n (.f (.j [] [] [.s 0 (.dat (.leaf 1))] (.f (.l [] [] [.s 0 (.dat (.leaf 1)),.s 1 (.dat (.leaf 1))] 0 [] [] [.s 0 (.dat (.leaf 1))] .no))))) Tryz.func139 [] (λv c x z b a=>.trans (by kernel_rfl) (tX a)) ⟨Jw,tr⟩)
noncomputable def pJ:FuncId×eu:=(81,⟨[.bool,.leaf 1,.leaf 1],[.leaf 4],λp=>gy p.1 p.2.1 p.2.2⟩)
theorem pS:KQ pJ:=Zi (ZC (C:=ft [(49,1),(51,4)] [P7,Ha]) .no Tryz.func81 [] (λv c x z b a=>.trans (by kernel_rfl) (VX a)) ⟨Ae,Jw,tr⟩)
noncomputable def vR:FuncId×eu:=(80,⟨[.int .i64],[.leaf 4],λp=>fU p⟩)
theorem yg:KQ vR:=Zi (ZC (C:=ft [(49,1),(51,4)] [pJ,DX]) .no Tryz.func80 [] (λv f x z a b=>by obtain⟨d,e,c⟩:=a;exact .trans (by kernel_rfl) (ZrD c.2 b)) ⟨pS,Im,tr⟩)
noncomputable def TZ:FuncId×eu:=(121,⟨[.int .i64,.int .i64],[.leaf 4,.int .i64],λp=>C5 p.1 p.2⟩)
theorem Ag:KQ TZ:=Zi (ZC (C:=ft [(49,1),(51,4)] [vR,pJ]) .no Tryz.func121 [] (λv i x z a b=>by obtain⟨e,j,g,c,f,h,d⟩:=a;exact .trans (by kernel_rfl) (X4 c.2 d.2 b)) ⟨yg,pS,tr⟩)
noncomputable def Gq:FuncId×eu:=(65,⟨[.pair (.int .i64) (.int .i64)],[.leaf 4],λp=>oI p⟩)
theorem og:KQ Gq:=Zi (ZC (C:=ft [(49,1),(51,4)] [vR,TZ]) .no Tryz.func65 [] (λv c x z b a=>.trans (by kernel_rfl) (ua a)) ⟨yg,Ag,tr⟩)
noncomputable def C3:FuncId×eu:=(84,⟨[.leaf 4],[.pair (.leaf 4) (.pair (.leaf 4) (.pair (.leaf 4) (.leaf 4)))],λp=>vD p⟩)
theorem Fl:KQ C3:=Zi (Zm (C:=eD [vR] [] [] []) .no Tryz.func84 [] (λ_=>by kernel_rfl) ⟨yg,tr⟩)
noncomputable def MD:FuncId×eu:=(93,⟨[.leaf 4],[.pair (.pair (.leaf 4) (.pair (.leaf 4) (.pair (.leaf 4) (.leaf 4)))) (.pair (.leaf 4) (.pair (.leaf 4) (.pair (.leaf 4) (.leaf 4))))],λp=>JZ p⟩)
theorem Uj:KQ MD:=Zi (Zm (C:=eD [vR,C3] [] [] []) .no Tryz.func93 [] (λ_=>by kernel_rfl) ⟨yg,Fl,tr⟩)
noncomputable def LY:FuncId×eu:=(43,⟨[.slice (.pair (.int .i64) (.int .i64))],[.slice (.leaf 3),.slice (.pair (.pair (.leaf 4) (.pair (.leaf 4) (.pair (.leaf 4) (.leaf 4)))) (.pair (.leaf 4) (.pair (.leaf 4) (.pair (.leaf 4) (.leaf 4)))))],λp=>Hl p⟩)
theorem OM:KQ LY:=Zi (Zm (C:=eD [Ld,Gq,MD] [] [] []) (.n (.n (.n (.f (.n (.f (.l [8,9] [] [.s 4 (.own 77 (.leaf 3)),.s 5 (.own 172 (.pair (.pair (.leaf 4) (.pair (.leaf 4) (.pair (.leaf 4) (.leaf 4)))) (.pair (.leaf 4) (.pair (.leaf 4) (.pair (.leaf 4) (.leaf 4)))))),.s 10 (.dat (.int .i64))] 0 [] [] [.s 4 (.own 77 (.leaf 3)),.s 5 (.own 172 (.pair (.pair (.leaf 4) (.pair (.leaf 4) (.pair (.leaf 4) (.leaf 4)))) (.pair (.leaf 4) (.pair (.leaf 4) (.pair (.leaf 4) (.leaf 4))))))] .no))))))) Tryz.func43 [] (λ_=>by kernel_rfl) ⟨NT,og,Uj,tr⟩)
noncomputable def Jk:FuncId×eu:=(13,⟨[.slice (.slice (.pair (.int .i64) (.int .i64)))],[.slice (.slice (.leaf 3)),.slice (.slice (.pair (.pair (.leaf 4) (.pair (.leaf 4) (.pair (.leaf 4) (.leaf 4)))) (.pair (.leaf 4) (.pair (.leaf 4) (.pair (.leaf 4) (.leaf 4))))))],λp=>Dj p⟩)
theorem Pu:KQ Jk:=Zi (Zm (C:=eD [LY] [] [] []) (.n (.n (.f (.n (.f (.l [0,4,5,14] [] [.s 15 (.dat (.int .i64)),.l (.sl 4) (.own 80 (.slice (.leaf 3))),.l (.sl 5) (.own 114 (.slice (.pair (.pair (.leaf 4) (.pair (.leaf 4) (.pair (.leaf 4) (.leaf 4)))) (.pair (.leaf 4) (.pair (.leaf 4) (.pair (.leaf 4) (.leaf 4)))))))] 0 [4,5] [] [.l (.sl 4) (.own 80 (.slice (.leaf 3))),.l (.sl 5) (.own 114 (.slice (.pair (.pair (.leaf 4) (.pair (.leaf 4) (.pair (.leaf 4) (.leaf 4)))) (.pair (.leaf 4) (.pair (.leaf 4) (.pair (.leaf 4) (.leaf 4)))))))] .no)))))) Tryz.func13 [] (λ_=>by kernel_rfl) ⟨OM,tr⟩)
noncomputable def Nf:FuncId×eu:=(46,⟨[.slice (.slice (.leaf 3))],[.int .i64],λp=>Hz p⟩)
theorem R1:KQ Nf:=Zi (Zm (C:=eD [] [] [] []) .no Tryz.func46 [] (λ_=>by kernel_rfl))
noncomputable def MW:FuncId×eu:=(44,⟨[.slice (.slice (.leaf 3))],[.bool],λp=>Nj p⟩)
theorem Qf:KQ MW:=Zi (Zm (C:=eD [Nf] [] [] []) (.n (.n (.f (.j [] [] [.s 2 (.dat .bool)] .no)))) Tryz.func44 [(94,Tryz.f94,.no),(95,Tryz.f95,.no),(147,Tryz.f147,.r [] [] [.s 1000 (.dat (.int .i64))] (.n (.f (.n (.f (.cut ⟨⟨[0,1,7],[],[.s 8 (.dat (.int .i64))]⟩,[(.exit 0,⟨[],[],[]⟩),(.ret,⟨[],[],[.s 1000 (.dat (.int .i64))]⟩)]⟩ .no))))))] (λ_=>by kernel_rfl) ⟨R1,tr⟩ tr tr ⟨⟨Tryz.func94,λ_ _=>by kernel_rfl⟩,⟨Tryz.func95,λ_ _=>by kernel_rfl⟩,⟨Tryz.func147,λ_ _=>by kernel_rfl⟩,tr⟩)
noncomputable def wM:FuncId×eu:=(249,⟨[.leaf 3,.leaf 3],[.leaf 3],λp=>wK p.1 p.2⟩)
theorem EX:KQ wM:=Zi (Zm (C:=eD [] [] [] []) .no Tryz.func249 [] (λ_=>by kernel_rfl))
theorem vC:∀y w,(method (Tryz.prog.types.size+Made.depth) 42 y "Add").run Tryz.prog w= .ok (219,y) w:=λ_ _=> by kernel_rfl
theorem BT:∀y w,(method (Tryz.prog.types.size+Made.depth) 42 y "Cmp").run Tryz.prog w= .ok (220,y) w:=λ_ _=> by kernel_rfl
theorem DB:∀y w,(method (Tryz.prog.types.size+Made.depth) 42 y "Div").run Tryz.prog w= .ok (221,y) w:=λ_ _=> by kernel_rfl
theorem p9:∀y w,(method (Tryz.prog.types.size+Made.depth) 42 y "Mul").run Tryz.prog w= .ok (222,y) w:=λ_ _=> by kernel_rfl
theorem oN:∀y w,(method (Tryz.prog.types.size+Made.depth) 42 y "Neg").run Tryz.prog w= .ok (224,y) w:=λ_ _=> by kernel_rfl
theorem OK:∀y w,(method (Tryz.prog.types.size+Made.depth) 42 y "Of").run Tryz.prog w= .ok (225,y) w:=λ_ _=> by kernel_rfl
theorem RK:∀y w,(method (Tryz.prog.types.size+Made.depth) 42 y "Same").run Tryz.prog w= .ok (226,y) w:=λ_ _=> by kernel_rfl
theorem oJ:∀y w,(method (Tryz.prog.types.size+Made.depth) 42 y "Sign").run Tryz.prog w= .ok (227,y) w:=λ_ _=> by kernel_rfl
theorem Ct:∀y w,(method (Tryz.prog.types.size+Made.depth) 42 y "Sub").run Tryz.prog w= .ok (228,y) w:=λ_ _=> by kernel_rfl
theorem xF:∀y w,(method (Tryz.prog.types.size+Made.depth) 42 y "Zero").run Tryz.prog w= .ok (229,y) w:=λ_ _=> by kernel_rfl
theorem v8:∀y w,(method (Tryz.prog.types.size+Made.depth) 77 y "Add").run Tryz.prog w= .ok (243,y) w:=λ_ _=> by kernel_rfl
theorem B':∀y w,(method (Tryz.prog.types.size+Made.depth) 77 y "Cmp").run Tryz.prog w= .ok (244,y) w:=λ_ _=> by kernel_rfl
theorem CV:∀y w,(method (Tryz.prog.types.size+Made.depth) 77 y "Div").run Tryz.prog w= .ok (245,y) w:=λ_ _=> by kernel_rfl
theorem pW:∀y w,(method (Tryz.prog.types.size+Made.depth) 77 y "Mul").run Tryz.prog w= .ok (246,y) w:=λ_ _=> by kernel_rfl
theorem pg:∀y w,(method (Tryz.prog.types.size+Made.depth) 77 y "Neg").run Tryz.prog w= .ok (248,y) w:=λ_ _=> by kernel_rfl
theorem Qj:∀y w,(method (Tryz.prog.types.size+Made.depth) 77 y "Of").run Tryz.prog w= .ok (249,y) w:=λ_ _=> by kernel_rfl
theorem QB:∀y w,(method (Tryz.prog.types.size+Made.depth) 77 y "Same").run Tryz.prog w= .ok (250,y) w:=λ_ _=> by kernel_rfl
theorem pm:∀y w,(method (Tryz.prog.types.size+Made.depth) 77 y "Sign").run Tryz.prog w= .ok (251,y) w:=λ_ _=> by kernel_rfl
theorem Cv:∀y w,(method (Tryz.prog.types.size+Made.depth) 77 y "Sub").run Tryz.prog w= .ok (252,y) w:=λ_ _=> by kernel_rfl
theorem xA:∀y w,(method (Tryz.prog.types.size+Made.depth) 77 y "Zero").run Tryz.prog w= .ok (253,y) w:=λ_ _=> by kernel_rfl
noncomputable def qj:FuncId×eu:=(49,⟨[.int .i64],[.leaf 3],λp=>ja p⟩)
theorem vr:KQ qj:=Zi (Zm (C:=eD [G4,wM] [] [] [((42,"Of"),225),((77,"Of"),249)]) .no Tryz.func49 [] (λ_=> by kernel_rfl) ⟨I',EX,tr⟩ tr ⟨OK,Qj,tr⟩)
theorem P1:eZ Tryz.prog 80 77 (Z9).n 56 (Value.agg #[Value.bool false,Value.slice none 0 0,Value.slice none 0 0]):=⟨Tryz.underlying80,by kernel_rfl,rfl,by decide⟩
noncomputable def Dd:FuncId×f7:=(148,⟨[.slice (.leaf 3)],77,.leaf 3,λp=>j9 56 p⟩)
theorem MT:o8 Tryz.prog Dd.1 Dd.2:=λw v K x z A r i=>by
 obtain⟨l,rfl,f⟩:=r
 have i:j9 56 (show List Rat from x)=some z:=i
 obtain⟨s,rfl⟩:=RQ i
 obtain⟨q,n,c,rfl⟩:=vV (show(Zy Z9).rel v l z from f)
 refine⟨λ_ _=>by kernel_rfl,?_⟩
 have h:n=(show List Rat from z).length:=by obtain⟨_,_,e,_⟩:=f;cases e;rfl
 refine Ch (K:=8) (args:=[.slice q n c]) A Tryz.func148 rfl rfl zl λd a=>?_
 refine sr ?_
 refine mw a rfl λd a=>?_
 refine oe ?_
 refine wp_seq_k λC o=>?_
 refine sr ?_
 refine mv a rfl λd a=>?_
 refine ov a rfl (QT a Tryz.underlying80 rfl rfl) λd a=>?_
 refine oe ?_
 cases q with
 |none=>
  refine iU a rfl rfl ?_
  have k:(show List Rat from z)=[]:=by
   obtain⟨J,F,e,_,_,g⟩:=f
   cases e
   rcases g with g |⟨_,_,_,_,_,m,_⟩
   ·exact g
   ·cases m
  have I:n=0:=by rw[h,k];rfl
  refine sr ?_;refine mw a rfl λd a=>?_;refine oe ?_;refine wp_ret ?_;refine Bx ?_;have j:=a.nilLoc 77 (Z9).n;have:=Bk (P:=Tryz.prog) (A:=Z9) j (i:=0) (ob:=none) (n:=0) (cap:=0) (cs:=[]) rfl (kl (fn:=Tryz.f148) (r:=.tmp 2) rfl (gO (t:=2) (y:=.slice (eF none) 0 0) j rfl)) (l:=([]:List Rat)) qC rfl;rw[k];exact this
 |some D=>
  refine gn a rfl rfl ?_;refine wp_skip ?_;refine Zp (o _ _ ?_);refine sr ?_;obtain⟨b,B,y,a⟩:=R7 P1 a;refine jN wn rfl zl y a λd a=>?_;refine mv a rfl λd a=>?_;obtain⟨E,G,H,B,t,p,u⟩:=vZ (ty:=80) (A:=Z9) P1 a (i:=0) rfl (ee.mono (Zy Z9) a.vst.le f) (n':=n) (by omega) (by rw[h];exact s) (by decide);refine jN wn rfl zl (pE a rfl rfl t) p λd a=>?_;refine mw a rfl λd a=>?_;refine oe ?_;refine wp_ret ?_;exact Bk a (i:=0) rfl (kl rfl (gO a rfl)) u h
noncomputable def qQ:FuncId×eu:=(75,⟨[.leaf 0],[.leaf 0],λp=>ZY p⟩)
theorem vL:KQ qQ:=Zi (ZC (C:=eD [x6] [] [] []) .no Tryz.func75 [] (λv c x z b a=>.trans (by kernel_rfl) (Yp a)) ⟨CA,tr⟩)
noncomputable def HN:FuncId×eu:=(166,⟨[.int .u64,.int .u64,.int .u64],[.int .u64,.int .u64],λp=>jw p.1 p.2.1 p.2.2⟩)
theorem PN:mq Tryz.prog HN.1 HN.2:=λw v o x z _ i a=>by
 obtain⟨k,p,d,b,l,q,e,c,m,f,j⟩:=i
 subst d e f
 obtain⟨rfl,g⟩:=b
 obtain⟨rfl,h⟩:=c
 obtain⟨rfl,n⟩:=j
 have b:(Zd .u64).rel v [.int .u64 x.1] x.1:=⟨rfl,g⟩
 have c:(Zd .u64).rel v [.int .u64 x.2.1] x.2.1:=⟨rfl,h⟩
 exact .inr ⟨.tuple #[.int .u64 z.1,.int .u64 z.2],λw=>Ky (show oS Tryz.prog 166 add64Entry from⟨_,Tryz.func166,by kernel_rfl,by kernel_rfl,by kernel_rfl,by kernel_rfl⟩) a w,_,rfl,_,_,rfl,⟨rfl,LH a⟩,_,rfl,⟨rfl,qZ b.2 c.2 a⟩⟩
noncomputable def oX:FuncId×eu:=(116,⟨[.leaf 0,.leaf 0],[.leaf 0],λp=>gI p.1 p.2⟩)
theorem qE:KQ oX:=Zi (ZC (C:=ft [(37,0)] [Gn,vt,Jz,HN]) (.n (.n (.n (.n (.f (.n (.j [] [] [.s 5 (.own 191 (.int .u64))] (.f (.l [1,26,27] [] [.s 5 (.own 191 (.int .u64)),.s 28 (.dat (.int .i64))] 0 [] [] [.s 5 (.own 191 (.int .u64))] (.f (.n (.n (.f (.f (.n (.n (.f (.n (.j [1,6,26,27,28] [] [.s 5 (.own 191 (.int .u64)),.s 8 (.dat (.int .u64))] (.f (.l [1,6,7,26,27,28,33,34] [] [.s 5 (.own 191 (.int .u64)),.s 8 (.dat (.int .u64)),.s 35 (.dat (.int .i64))] 2 [1,6,26,27,28] [] [.s 5 (.own 191 (.int .u64)),.s 8 (.dat (.int .u64))] .no))))))))))))))))))))) Tryz.func116 [] (λv c x z b a=>.trans (by kernel_rfl) (ZoC a)) ⟨Jp,BA,sX,PN,tr⟩)
noncomputable def w8:FuncId×eu:=(118,⟨[.leaf 2,.leaf 0],[.leaf 2],λp=>gp p.1 p.2⟩)
theorem AK:KQ w8:=Zi (ZC (C:=eD [oX,xu] [] [] []) .no Tryz.func118 [] (λv c x z b a=>.trans (by kernel_rfl) (WQ a)) ⟨qE,Bs,tr⟩)
noncomputable def BU:FuncId×eu:=(253,⟨[.leaf 3],[.bool],λp=>m9 p⟩)
theorem DA:KQ BU:=Zi (ZC (C:=eD [] [] [] []) .no Tryz.func253 [] (λv c x z b a=>.trans (by kernel_rfl) (ZkA a)))
noncomputable def GY:FuncId×eu:=(245,⟨[.leaf 3,.leaf 3],[.leaf 3,.int .i64],λp=>Ca p.1 p.2⟩)
theorem MY:KQ GY:=Zi (ZC (C:=eD [B4,qQ,oX,w8,xu,BU] [] [] []) (.n (.n (.f (.j [2,3,4] [] [.s 6 (.box 39 (.dat (.leaf 2)))] .no)))) Tryz.func245 [] (λv c x z b a=>.trans (by kernel_rfl) (Y8 a)) ⟨Da,vL,qE,AK,Bs,DA,tr⟩)
noncomputable def CI:FuncId×eu:=(236,⟨[.leaf 2,.leaf 2],[.leaf 2],λp=>fT p.1 p.2⟩)
theorem HK:KQ CI:=Zi (ZC (C:=eD [oX,xu] [] [] []) .no Tryz.func236 [] (λv c x z b a=>.trans (by kernel_rfl) (XI a)) ⟨qE,Bs,tr⟩)
noncomputable def BE:FuncId×eu:=(246,⟨[.leaf 3,.leaf 3],[.leaf 3],λp=>jm p.1 p.2⟩)
theorem DZ:KQ BE:=Zi (ZC (C:=eD [B4,qQ,oX,CI] [] [] []) .no Tryz.func246 [] (λv c x z b a=>.trans (by kernel_rfl) (XE a)) ⟨Da,vL,qE,HK,tr⟩)
noncomputable def Bb:FuncId×eu:=(231,⟨[.leaf 2],[.leaf 2],λp=>ic p⟩)
theorem D9:KQ Bb:=Zi (ZC (C:=eD [xu] [] [] []) .no Tryz.func231 [] (λv c x z b a=>.trans (by kernel_rfl) (ZmD a)) ⟨Bs,tr⟩)
noncomputable def vF:FuncId×eu:=(248,⟨[.leaf 3],[.leaf 3],λp=>mD p⟩)
theorem yc:KQ vF:=Zi (ZC (C:=eD [Bb] [] [] []) .no Tryz.func248 [] (λv c x z b a=>.trans (by kernel_rfl) (WG a)) ⟨D9,tr⟩)
noncomputable def O9:FuncId×eu:=(238,⟨[.leaf 0,.leaf 0],[.leaf 0],λp=>Em p.1 p.2⟩)
theorem zY:KQ O9:=Zi (ZC (C:=ft [(37,0)] [HN]) (.n (.two (.n (.j [] [] [.s 0 (.dat (.leaf 0)),.s 1 (.dat (.leaf 0))] .no)) (.n (.n (.two (.n (.j [] [] [.s 5 (.own 191 (.int .u64)),.s 6 (.dat (.int .u64))] (.f (.l [1,23,24] [] [.s 5 (.own 191 (.int .u64)),.s 6 (.dat (.int .u64)),.s 25 (.dat (.int .i64))] 0 [] [] [.s 5 (.own 191 (.int .u64)),.s 6 (.dat (.int .u64))] (.f (.n (.n (.f (.f (.n (.n (.f (.n (.j [1,5,6,7,8,23,24,25] [] [.s 9 (.dat (.int .u64))] .no)))))))))))))) (.f (.n (.j [] [] [.s 5 (.own 191 (.int .u64))] .no)))))))) Tryz.func238 [] (λv c x z b a=>.trans (by kernel_rfl) (ZeC a)) ⟨PN,tr⟩)
noncomputable def JA:FuncId×eu:=(200,⟨[.int .u64,.int .u64,.int .u64],[.int .u64,.int .u64],λp=>nI p.1 p.2.1 p.2.2⟩)
theorem uD:mq Tryz.prog JA.1 JA.2:=λw v o x z _ i a=>by
 obtain⟨k,p,d,b,l,q,e,c,m,f,j⟩:=i
 subst d e f
 obtain⟨rfl,g⟩:=b
 obtain⟨rfl,h⟩:=c
 obtain⟨rfl,n⟩:=j
 have b:(Zd .u64).rel v [.int .u64 x.1] x.1:=⟨rfl,g⟩
 have c:(Zd .u64).rel v [.int .u64 x.2.1] x.2.1:=⟨rfl,h⟩
 exact .inr ⟨.tuple #[.int .u64 z.1,.int .u64 z.2],λw=>UL (show oS Tryz.prog 200 GE from⟨_,Tryz.func200,by kernel_rfl,by kernel_rfl,by kernel_rfl,by kernel_rfl⟩) b.2 c.2 a w,_,rfl,_,_,rfl,⟨rfl,Rx a⟩,_,rfl,⟨rfl,OV a⟩⟩
noncomputable def N9:FuncId×eu:=(239,⟨[.leaf 0,.leaf 0],[.leaf 0],λp=>BG p.1 p.2⟩)
theorem sU:KQ N9:=Zi (ZC (C:=ft [(37,0)] [vt,JA]) (.n (.n (.n (.f (.n (.j [] [] [.s 5 (.own 191 (.int .u64))] (.f (.l [1,13,14] [] [.s 5 (.own 191 (.int .u64)),.s 6 (.dat (.int .u64)),.s 15 (.dat (.int .i64))] 0 [] [] [.s 5 (.own 191 (.int .u64))] (.f (.n (.n (.f (.f (.n (.n (.f (.n (.j [1,5,6,7,8,13,14,15] [] [.s 9 (.dat (.int .u64))] .no)))))))))))))))))) Tryz.func239 [] (λv c x z b a=>.trans (by kernel_rfl) (ZuF a)) ⟨BA,uD,tr⟩)
noncomputable def AL:FuncId×eu:=(230,⟨[.leaf 2,.leaf 2],[.leaf 2],λp=>gl p.1 p.2⟩)
theorem Ef:KQ AL:=Zi (ZC (C:=eD [FA,xu,O9,N9] [] [] []) .no Tryz.func230 [] (λv c x z b a=>.trans (by kernel_rfl) (ZvB a)) ⟨wt,Bs,zY,sU,tr⟩)
noncomputable def BI:FuncId×eu:=(243,⟨[.leaf 3,.leaf 3],[.leaf 3],λp=>pf p.1 p.2⟩)
theorem Dh:KQ BI:=Zi (ZC (C:=eD [B4,qQ,oX,w8,AL] [] [] []) .no Tryz.func243 [] (λv c x z b a=>.trans (by kernel_rfl) (Yb a)) ⟨Da,vL,qE,AK,Ef,tr⟩)
noncomputable def D0:FuncId×eu:=(252,⟨[.leaf 3,.leaf 3],[.leaf 3],λp=>pI p.1 p.2⟩)
theorem F1:KQ D0:=Zi (ZC (C:=eD [BI,vF] [] [] []) .no Tryz.func252 [] (λv c x z b a=>.trans (by kernel_rfl) (Wk a)) ⟨Dh,yc,tr⟩)
noncomputable def MA:FuncId×eu:=(45,⟨[.slice (.slice (.leaf 3))],[.slice (.slice (.leaf 3)),.slice (.int .i64),.leaf 3],λp=>JK p⟩)
theorem SP:KQ MA:=Zi (Zm (C:=eD [qj,GY,BE,vF,D0,BU] [8] [Dd] [((42,"Div"),221),((42,"Mul"),222),((42,"Neg"),224),((42,"Sub"),228),((42,"Zero"),229),((77,"Div"),245),((77,"Mul"),246),((77,"Neg"),248),((77,"Sub"),252),((77,"Zero"),253)]) (.n (.n (.n (.n (.f (.n (.f (.l [0,4,6,19] [] [.s 5 (.own 3 (.int .i64)),.s 20 (.dat (.int .i64)),.l (.sl 0) (.mat 80 77 (.leaf 3)),.l (.sl 6) (.box 77 (.dat (.leaf 3)))] 0 [0,4,6] [] [.s 5 (.own 3 (.int .i64)),.l (.sl 0) (.mat 80 77 (.leaf 3)),.l (.sl 6) (.box 77 (.dat (.leaf 3)))] (.f (.n (.n (.f (.j [0,4,6,19,20] [] [.s 5 (.own 3 (.int .i64)),.l (.sl 0) (.mat 80 77 (.leaf 3)),.l (.sl 6) (.box 77 (.dat (.leaf 3)))] (.f (.n (.n (.n (.two (.f (.l [0,4,5,6,7,8,19,20] [] [.s 9 (.dat (.int .i64))] 2 [0,4,5,6,7,8,19,20] [] [.s 9 (.dat (.int .i64))] (.f (.f (.f (.j [0,4,5,6,7,8,9,19,20] [] [.s 40 (.dat .bool)] .no)))))) (.n (.two (.n (.j [0,4,5,6,7,8,19,20] [] [.l (.sl 0) (.mat 80 77 (.leaf 3)),.l (.sl 6) (.box 77 (.dat (.leaf 3)))] .no)) (.n (.n (.two (.n (.f (.l [0,4,5,6,7,8,10,19,20,83] [] [.s 84 (.dat (.int .i64)),.l (.sl 0) (.mat 80 77 (.leaf 3))] 4 [0,4,5,6,7,8,19,20] [] [.l (.sl 0) (.mat 80 77 (.leaf 3))] .no))) (.f (.n (.f (.l [0,4,5,6,7,8,19,20,108] [] [.s 109 (.dat (.int .i64)),.l (.sl 0) (.mat 80 77 (.leaf 3))] 6 [0,4,5,6,7,19,20] [] [.l (.sl 0) (.mat 80 77 (.leaf 3))] (.f (.n (.n (.f (.j [0,4,5,6,7,8,19,20,108,109] [] [.l (.sl 0) (.mat 80 77 (.leaf 3))] (.f (.n (.n (.two (.f (.j [0,4,5,6,7,8,12,13,19,20,108,109] [] [.s 126 (.dat .bool)] .no)) (.n (.f (.l [0,4,5,6,7,8,12,13,19,20,108,109,131] [] [.s 132 (.dat (.int .i64)),.l (.sl 0) (.mat 80 77 (.leaf 3))] 8 [0,4,5,6,7,8,19,20,108,109] [] [.l (.sl 0) (.mat 80 77 (.leaf 3))] .no))))))))))))))))))))))))))))))))))))))) Tryz.func45 [(46,Tryz.f46,.r [] [] [.s 1000 (.dat (.int .i64))] .no),(96,Tryz.f96,.n (.n (.f (.n (.f (.l [3,9,10] [] [.s 11 (.dat (.int .i64)),.l (.sl 3) (.mat 80 77 (.leaf 3))] 0 [3] [] [.l (.sl 3) (.mat 80 77 (.leaf 3))] .no))))))] (λ_=> by kernel_rfl) ⟨vr,MY,DZ,yc,F1,DA,tr⟩ ⟨MT,tr⟩ ⟨DB,p9,oN,Ct,xF,CV,pW,pg,Cv,xA,tr⟩ ⟨⟨Tryz.func46,λ_ _=> by kernel_rfl⟩,⟨Tryz.func96,λ_ _=> by kernel_rfl⟩,tr⟩)
noncomputable def RP:FuncId×eu:=(14,⟨[.slice (.slice (.leaf 3))],[.slice (.slice (.leaf 3)),.slice (.int .i64),.int .i64],λp=>Pc p⟩)
theorem ZoF:KQ RP:=Zi (Zm (C:=eD [MW,MA] [] [] []) .no Tryz.func14 [] (λ_=>by kernel_rfl) ⟨Qf,SP,tr⟩)
noncomputable def Sp:FuncId×eu:=(97,⟨[.slice (.int .i64),.int .i64],[.int .i64],λp=>Ud p.1 p.2⟩)
theorem ZoA:KQ Sp:=Zi (Zm (C:=eD [] [] [] []) (.n (.f (.n (.cut ⟨⟨[],[],[]⟩,[(.norm,⟨[],[],[]⟩),(.ret,⟨[],[],[.s 1000 (.dat (.int .i64))]⟩)]⟩ (.f (.cut ⟨⟨[0,1,7],[],[.s 8 (.dat (.int .i64))]⟩,[(.ret,⟨[],[],[.s 1000 (.dat (.int .i64))]⟩),(.exit 0,⟨[],[],[]⟩)]⟩ .no)))))) Tryz.func97 [] (λ_=>by kernel_rfl))
noncomputable def UB:FuncId×eu:=(47,⟨[.slice (.int .i64),.int .i64],[.bool],λp=>P5 p.1 p.2⟩)
theorem WV:KQ UB:=Zi (Zm (C:=eD [Sp] [] [] []) .no Tryz.func47 [] (λ_=>by kernel_rfl) ⟨ZoA,tr⟩)
noncomputable def BQ(x:Int)(y:Int):Option (Int×Int) :=
 dU (kO x y) λa=>
 some ((a.1,a.2))
theorem R0{c:World}{a:Zb}(B:fc a c){d:List Value}{x:Int}(i:ee.rel (Zd .u64) a d x){e:List Value}{y:Int}(j:ee.rel (Zd .u64) a e y){z:Int×Int}(H:BQ x y=some z):fM Tryz.prog 146 #[(Zd .u64).val d,(Zd .u64).val e] c a (λy A=>∃g b,y= .tuple #[(Zd .u64).val g,(Zd .u64).val b]∧(Zd .u64).rel A g z.1∧(Zd .u64).rel A b z.2):=by
 obtain⟨rfl,b⟩:=i;obtain⟨rfl,k⟩:=j;refine CM (K:=30) (args:=[.int .u64 x,.int .u64 y]) B Tryz.func146 rfl rfl zl λf S=>?_;unfold BQ at H;refine sr (mw S rfl λf S=>mw S rfl λf S=>oe (ZH λ_ l=>gn S rfl rfl (wp_skip (Zp (l _ _ (ZH λ_ m=>bO H λh n H=>ZX (mv S rfl λf S=>mv S rfl λf S=>ji S rfl (gz S [.int .u64 x,.int .u64 y] Ml rfl rfl) (Jv S.vin (show ee.rel (Zd .u64) _ [.int .u64 x] x from(Z7 b)) (show ee.rel (Zd .u64) _ [.int .u64 y] y from(Z7 k)) n) ?_)))))));rintro _ s f w t ⟨u,v,rfl,o,p⟩ S;obtain⟨rfl,q⟩:=o;obtain⟨rfl,r⟩:=p;refine mv S rfl λf S=>ov S rfl (gF S rfl rfl) λf S=>ov S rfl (gF S rfl rfl) λf S=>mw S rfl λf S=>mw S rfl λf S=>ZS (Zp (m _ _ (sr (mv S rfl λf S=>mv S rfl λf S=>mw S rfl λf S=>mw S rfl λf S=>oe (wp_ret ?_)))));obtain rfl:=ZO H;refine yp S (Gw rfl (gO S rfl) (gO S rfl)) ⟨[.int .u64 (h.1)],[.int .u64 (h.2)],rfl,(Z7 q),(Z7 r)⟩
theorem Kk:eZ Tryz.prog 80 77 (Z9).n 56 (Value.agg #[Value.bool false,Value.slice none 0 0,Value.slice none 0 0]):=⟨Tryz.underlying80,by kernel_rfl,rfl,by decide⟩
theorem HR:jf Tryz.prog 80 77 (Z9).n:=⟨λ_=>by kernel_rfl,λ_=>by kernel_rfl⟩
theorem ZmE:Tryz.prog.follows .mixedOrders=true:=by kernel_rfl
theorem Wg:ZT Tryz.prog 146:=λ_ _=>by kernel_rfl
theorem Qh:C9 Tryz.prog 3 231 .i64 .u64:=λ_ _=>by kernel_rfl
theorem YA:C9 Tryz.prog 231 3 .u64 .i64:=λ_ _=>by kernel_rfl
noncomputable def xB:FuncId×f7:=(98,⟨[.slice (.leaf 3),.int .i64],77,.leaf 3,λp=>iY 56 p.1 p.2⟩)
theorem DE:o8 Tryz.prog xB.1 xB.2:=λw v aq x z hv ha K=>by
 obtain⟨cs,vs,rfl,p0,o,rfl,rfl,am⟩:=ha
 obtain⟨x1,k0⟩:=x
 have K:iY 56 (show List Rat from x1) k0=some z:=K
 obtain⟨y,J,ah,aa⟩:=Ro K
 have J:x1=[y]:=J
 subst J ah
 obtain⟨P,_,a6,a7⟩:=nA aa
 obtain⟨k,rfl⟩:=oZ P
 obtain⟨q,c,e,ak,al,G⟩:=(show(Zy Z9).rel v cs [y] from p0)
 subst e
 rcases G with G |⟨b,A,cc,TT,fr,rfl,af,W⟩
 ·cases G
 have a9:([y]:List Rat).length=1:=rfl
 rw[a9]at W
 obtain⟨o,c2,O,H,D⟩:=W
 have D:c2=[]:=D
 subst D
 rw[List.append_nil,Nat.one_mul]at O
 have F:=ee.len _ H
 have a0:At v b A o:=⟨cc,TT,fr,af,by rw[F];exact O⟩
 refine⟨λ_ _=>by kernel_rfl,?_⟩
 have U:((k:Int).toNat)=k:=tN k
 rw[U]
 refine Ch (K:=48) (args:=[.slice (some ⟨b,A,none⟩) 1 c,.int .i64 (k:Int)]) hv Tryz.func98 rfl rfl zl λf d=>?_
 refine sr ?_
 refine mw d rfl λf d=>?_
 refine oe ?_
 refine wp_seq_k λN1 a1=>?_
 refine sr ?_
 refine mv d rfl λf d=>?_
 refine ov d rfl (ZD d rfl rfl m5) λf d=>?_
 refine oe ?_
 refine gn d rfl (eg (by omega)) ?_
 refine wp_skip ?_
 refine Zp (a1 _ _ ?_)
 refine sr ?_
 refine mv d rfl λf d=>?_
 refine ov d rfl (iw d rfl rfl HR) λf d=>?_
 refine ov d rfl (oU d rfl (Qh _)) λf d=>?_
 refine mv d rfl λf d=>?_
 refine ov d rfl (oU d rfl (Qh _)) λf d=>?_
 have w1:IntKind.u64.wrap ((1:Nat):Int)=1:=by decide
 have w2:IntKind.u64.wrap (k:Int)=k:=lx (kE.2 (by omega))
 rw[w1,w2]at d
 have ab:BQ 1 (k:Int)=some (0,(k:Int)):=by
  unfold BQ kO;rw[iP (by omega),Za];simp only;congr 2 <;> omega
 refine Li d wn rfl zl (gz d [.int .u64 1,.int .u64 (k:Int)] Wg rfl rfl) (R0 d.vin (show ee.rel (Zd .u64) _ [.int .u64 1] 1 from Z7 (by decide)) (show ee.rel (Zd .u64) _ [.int .u64 (k:Int)] (k:Int) from Z7 (kE.2 (by omega))) ab) ?_;rintro _ v1 f M an ⟨r0,r1,rfl,⟨rfl,_⟩,⟨rfl,_⟩⟩ d;refine mv d rfl λf d=>?_;refine ov d rfl (gF d rfl rfl) λf d=>?_;refine ov d rfl (gF d rfl rfl) λf d=>?_;refine mw d rfl λf d=>?_;refine mw d rfl λf d=>?_;refine oe ?_;refine wp_seq_k λN2 a2=>?_;refine sr ?_;refine mv d rfl λf d=>?_;refine ov d rfl (ZD d rfl rfl qW) λf d=>?_;have g1:decide ((0:Int)<0)=false:=rfl;have d:St _ _ _ ((22,Value.bool false) :: _) _ _ _ _:=d;refine mv d rfl λf d=>?_;refine vY d (pV d rfl rfl rfl zl) rfl zl (ZG d rfl) λf d=>?_;refine vY d (pV d rfl rfl rfl zl) rfl zl (ZD d rfl rfl qW) λf d=>?_;refine ov d rfl (qv (b:=false) d rfl rfl) λf d=>?_;refine oe ?_;refine gn d rfl (eg (by omega)) ?_;refine wp_skip ?_;refine Zp (a2 _ _ ?_);refine sr ?_;refine mv d rfl λf d=>?_;refine ov d rfl (oU d rfl (YA _)) λf d=>?_;have w3:IntKind.i64.wrap (k:Int)=k:=lx (gT.2 (by omega));rw[w3]at d;obtain⟨s,M,ae,p⟩:=Ge Kk d (l:=(k:Int)) (c:=(k:Int)) P (Int.le_refl _) a6 a7
 refine jN wn rfl zl (ae rfl rfl) p λf d=>?_;refine mw d rfl λf d=>?_;refine oe ?_;rw[U]at d;have d:=d.fr' (σ':=[(7,.slice (eF (some s)) k k),(0,.slice (some ⟨b,A,none⟩) 1 c)]) rfl;have ai:∀{σ:List (Nat×Value)} {aj:List dY} {L:Zb} {a:Act} {t:World},St 48 w v σ aj L a t→∀j u,o[j]?= some u→t.cell? ((⟨b,A,none⟩:Addr).add j)=some u:=λd j u r=>by
  have:=(d.view (At.mono d.vst.le a0)).cell r
  rwa [gG]
 have ad:o.all plain=true:=ee.flat _ H;obtain⟨B,X⟩:∃B:List Value,B=(Value.agg #[Value.bool false,Value.slice none 0 0,Value.slice none 0 0]:Value).cells.toList:=⟨_,rfl⟩;have ag:B.length=(Z9).n:=by rw[X];rfl
 rw[←X]at d
 let wY:Nat→Act→World→Prop:=λj a t=>∃L,j≤k∧(0<k→0<j)∧St 48 w v [(8,.int .i64 (j:Int)),(7,.slice (eF (some s)) k k)] [.own (some s) 77 (Z9).n k k ((List.replicate j o).flatten++(List.replicate (k-j) B).flatten)] L a t
 have Y:=λn=>DI F n;have Z:∀n:Nat,((List.replicate n o).flatten).all plain=true:=λn=>OZ ad n;have step:=λj m (S:j+m≤k)=>SG (k:=k) F ag S;refine sr ?_;refine mv d rfl λf d=>?_;refine mv d rfl λf d=>?_;have E:St 48 w v _ [.own (some s) 77 (Z9).n k k ((List.replicate 0 o).flatten++(List.replicate (k-0) B).flatten)] v1 f M:=d;obtain⟨au,C,p⟩:=GQ (t:=80) (sT:=80) Kk E (i:=0) rfl (p:=0) (k:=min 1 k) (c:=(List.replicate (min 1 k) o).flatten) (Y _) (by omega) (Z _) (ad:=⟨b,A,none⟩) (sLen:=1) (sCap:=c) (dLen:=k) (dCap:=k) (λj u r=>by
  rcases Nat.lt_or_ge 0 k with a8 |a8
  ·rw[show min 1 k=1 by omega]at r;simp only[List.replicate_one,List.flatten_cons,List.flatten_nil,List.append_nil]at r;exact ai E j u r
  ·rw[show min 1 k=0 by omega]at r;simp at r) rfl
 have I:=step 0 (min 1 k) (by omega);simp only[List.set_cons_zero]at p;rw[I]at p;simp only[Nat.zero_add]at p;rw[Nat.zero_mul]at C;refine jN wn rfl zl (Gr E rfl rfl (C _)) p λf d=>?_;refine mw d rfl λf d=>?_;refine oe ?_;have d:=d.fr' (σ':=[(8,.int .i64 ((min 1 k:Nat):Int)),(7,.slice (eF (some s)) k k)]) rfl;refine wp_seq_k λN3 a3=>?_;refine wp_block ?_;refine fy (λm a t=>∃j,k-j<m∧wY j a t) (k+1) ⟨min 1 k,by omega,v1,by omega,by omega,d⟩ (λa t ⟨j,h,_⟩=>by omega) ?_;rintro m f av ⟨j,S,v3,R,Q,d⟩ N hN;refine wp_seq_k λN4 a4=>?_;refine sr ?_;refine mv d rfl λf d=>?_;refine mv d rfl λf d=>?_;refine ov d rfl (iw d rfl rfl HR) λf d=>?_;refine ov d rfl (ZD d rfl rfl m5) λf d=>?_;refine oe ?_;by_cases ao:j<k
 ·refine iU d rfl (eo (by omega)) ?_;refine wp_skip ?_;refine Zp (a4 _ _ ?_);refine wp_block ?_;have d:=d.fr' (σ':=[(8,.int .i64 (j:Int)),(7,.slice (eF (some s)) k k)]) rfl;refine vb (fl:=#[true,true,true,true,true,true,true,false,false,false]) ZmE (by kernel_rfl) d ?_;intro ap g l M d;refine rf g l 0 rfl (by kernel_rfl) rfl d (ZG d rfl) λf d=>?_;refine rf g l 1 rfl (by kernel_rfl) rfl d (ZG d rfl) λf d=>?_;refine rf g l 2 rfl (by kernel_rfl) rfl d (ZG d rfl) λf d=>?_;refine rf g l 3 rfl (by kernel_rfl) rfl d (PB d HR rfl rfl (by omega) (by omega)) λf d=>?_;refine rf g l 4 rfl (by kernel_rfl) rfl d (ZG d rfl) λf d=>?_;refine rf g l 5 rfl (by kernel_rfl) rfl d (ZG d rfl) λf d=>?_;refine rf g l 6 rfl (by kernel_rfl) rfl d (Dz d HR rfl rfl (by omega) (by omega)) λf d=>?_;rw[Nat.zero_add]at d;obtain⟨ar,C,p⟩:=GQ (t:=80) (sT:=80) Kk d (i:=0) rfl (p:=j) (k:=min j (k-j)) (c:=(List.replicate (min j (k-j)) o).flatten) (Y _) (by omega) (Z _) (ad:=⟨s,0,none⟩) (sLen:=j) (sCap:=k) (dLen:=k-j) (dCap:=k-j) (λi u r=>by
   have hi:=(List.getElem?_eq_some_iff.1 r).1;refine wk d (j:=0) rfl i u ?_;rw[LW (c:=o) (m:=min j (k-j)) (n:=j) (by omega),fj,List.getElem?_append_left hi];exact r) rfl
  have I:=step j (min j (k-j)) (by omega);simp only[List.set_cons_zero]at p;rw[I]at p;refine ls g l 7 (by kernel_rfl) ?_;refine Dr [3,6,1,2,4,5] [0] g rfl (by kernel_rfl) wn rfl zl (Gr d rfl rfl (C _)) p λf d=>?_;refine⟨(py d rfl rfl (ZG d rfl) jh),?_⟩;refine ls g l 8 (by kernel_rfl) ?_;have a5:chk .i64 ((j:Int)+((min j (k-j):Nat):Int))=some ((j+min j (k-j):Nat):Int):=by rw[Zk (by omega) (by omega)];rfl
  refine nv [0,7,3,6,1,2,4,5] [] g rfl (by kernel_rfl) rfl d (ZD d rfl rfl (vc a5)) λf d=>?_;refine⟨jh,?_⟩;refine ls g l 9 (by kernel_rfl) ?_;refine nv [0,1,2,3,4,5,6,7,8] [] g rfl (by kernel_rfl) rfl d (mg d rfl) λf d=>?_;refine⟨jh,?_⟩;refine AW g l (by kernel_rfl) ?_;refine mX ?_;have Q:=Q (by omega);exact Zp (hN _ _ ⟨j+min j (k-j),by omega,v3,by omega,λ_=>by omega,d.fr' rfl⟩)
 refine gn d rfl (eg (by omega)) ?_;refine wp_exit ?_;refine iu ?_;refine iu ?_;refine m8 ?_;refine Zp (a3 _ _ ?_);have R:j=k:=by omega
 subst R;rw[Nat.sub_self,List.replicate_zero,List.flatten_nil,List.append_nil]at d;refine sr ?_;refine mv d rfl λf d=>?_;refine mw d rfl λf d=>?_;refine oe ?_;refine wp_ret ?_;exact Bk d (i:=0) rfl (kl rfl (gO d rfl)) (ya (ee.mono _ d.vst.le H) _) (List.length_replicate (n:=j) (a:=y)).symm
noncomputable def P8:FuncId×eu:=(15,⟨[.slice (.slice (.leaf 3))],[.slice (.slice (.leaf 3)),.int .i64],λp=>ST p⟩)
theorem Wm:KQ P8:=Zi (Zm (C:=eD [MW,MA,Nf,UB,qj,vF] [] [xB] [((42,"Neg"),224),((77,"Neg"),248)]) (.n (.n (.n (.n (.f (.n (.f (.l [0,4,5,22] [] [.s 7 (.own 80 (.slice (.leaf 3))),.s 23 (.dat (.int .i64))] 0 [] [] [.s 7 (.own 80 (.slice (.leaf 3)))] (.f (.n (.n (.f (.j [0,4,5,22,23] [] [.s 7 (.own 80 (.slice (.leaf 3)))] (.f (.n (.n (.n (.n (.f (.n (.f (.l [0,4,5,7,8,9,22,23,36,37] [] [.s 38 (.dat (.int .i64)),.l (.sl 9) (.own 77 (.leaf 3))] 2 [0,4,5,7,9,22,23] [] [.l (.sl 9) (.own 77 (.leaf 3))] .no)))))))))))))))))))))) Tryz.func15 [(48,Tryz.f48,.no)] (λ_=> by kernel_rfl) ⟨Qf,SP,R1,WV,vr,yc,tr⟩ ⟨DE,tr⟩ ⟨oN,pg,tr⟩ ⟨⟨Tryz.func48,λ_ _=> by kernel_rfl⟩,tr⟩)
noncomputable def LZ:FuncId×eu:=(51,⟨[.slice (.pair (.int .i64) (.int .i64))],[.slice (.pair (.leaf 4) (.pair (.leaf 4) (.pair (.leaf 4) (.leaf 4))))],λp=>HX p⟩)
theorem RB:KQ LZ:=Zi (Zm (C:=eD [Gq,C3] [] [] []) (.n (.n (.f (.n (.f (.l [6,7] [] [.s 3 (.own 53 (.pair (.leaf 4) (.pair (.leaf 4) (.pair (.leaf 4) (.leaf 4))))),.s 8 (.dat (.int .i64))] 0 [] [] [.s 3 (.own 53 (.pair (.leaf 4) (.pair (.leaf 4) (.pair (.leaf 4) (.leaf 4)))))] .no)))))) Tryz.func51 [] (λ_=>by kernel_rfl) ⟨og,Fl,tr⟩)
noncomputable def Pd:FuncId×eu:=(50,⟨[.slice (.slice (.pair (.int .i64) (.int .i64)))],[.slice (.slice (.pair (.leaf 4) (.pair (.leaf 4) (.pair (.leaf 4) (.leaf 4)))))],λp=>Qr p⟩)
theorem Xp:KQ Pd:=Zi (Zm (C:=eD [LZ] [] [] []) (.n (.n (.f (.n (.f (.l [0,3,9] [] [.s 10 (.dat (.int .i64)),.l (.sl 3) (.own 31 (.slice (.pair (.leaf 4) (.pair (.leaf 4) (.pair (.leaf 4) (.leaf 4))))))] 0 [3] [] [.l (.sl 3) (.own 31 (.slice (.pair (.leaf 4) (.pair (.leaf 4) (.pair (.leaf 4) (.leaf 4))))))] .no)))))) Tryz.func50 [] (λ_=>by kernel_rfl) ⟨RB,tr⟩)
noncomputable def RU:FuncId×eu:=(16,⟨[.slice (.slice (.pair (.int .i64) (.int .i64))),.slice (.pair (.int .i64) (.int .i64)),.slice (.pair (.int .i64) (.int .i64))],[.pair (.slice (.slice (.leaf 3))) (.pair (.slice (.leaf 3)) (.slice (.leaf 3))),.pair (.slice (.slice (.pair (.leaf 4) (.pair (.leaf 4) (.pair (.leaf 4) (.leaf 4)))))) (.pair (.slice (.pair (.leaf 4) (.pair (.leaf 4) (.pair (.leaf 4) (.leaf 4))))) (.slice (.pair (.leaf 4) (.pair (.leaf 4) (.pair (.leaf 4) (.leaf 4))))))],λp=>To p.1 p.2.1 p.2.2⟩)
theorem Yk:KQ RU:=Zi (Zm (C:=eD [Jk,LY,Pd,LZ] [] [] []) .no Tryz.func16 [] (λ_=>by kernel_rfl) ⟨Pu,OM,Xp,RB,tr⟩)
noncomputable def LA:FuncId×eu:=(52,⟨[.pair (.slice (.slice (.leaf 3))) (.pair (.slice (.leaf 3)) (.slice (.leaf 3)))],[.int .i64],λp=>Kc p⟩)
theorem OU:KQ LA:=Zi (Zm (C:=eD [] [] [] []) (.n (.f (.f (.j [] [] [.s 27 (.dat .bool)] .no)))) Tryz.func52 [(94,Tryz.f94,.no),(100,Tryz.f100,.no),(147,Tryz.f147,.r [] [] [.s 1000 (.dat (.int .i64))] (.n (.f (.n (.f (.cut ⟨⟨[0,1,7],[],[.s 8 (.dat (.int .i64))]⟩,[(.exit 0,⟨[],[],[]⟩),(.ret,⟨[],[],[.s 1000 (.dat (.int .i64))]⟩)]⟩ .no))))))] (λ_=>by kernel_rfl) tr tr tr ⟨⟨Tryz.func94,λ_ _=>by kernel_rfl⟩,⟨Tryz.func100,λ_ _=>by kernel_rfl⟩,⟨Tryz.func147,λ_ _=>by kernel_rfl⟩,tr⟩)
noncomputable def Po:FuncId×iO:=(96,⟨[.slice (.slice (.leaf 3))],80,77,.leaf 3,λp=>Rv p⟩)
theorem XW:KW Po:=UT (C:=eD [] [8] [Dd] []) (.n (.n (.f (.n (.f (.l [3,9,10] [] [.s 11 (.dat (.int .i64)),.l (.sl 3) (.mat 80 77 (.leaf 3))] 0 [3] [] [.l (.sl 3) (.mat 80 77 (.leaf 3))] .no)))))) Tryz.func96 [] (λ_=>by kernel_rfl) tr ⟨MT,tr⟩
noncomputable def Dw:FuncId×f7:=(48,⟨[.int .i64],77,.leaf 3,λp=>De p⟩)
theorem Hj:KO Dw:=Rj (C:=eD [qj] [] [xB] []) .no Tryz.func48 [] (λ_=>by kernel_rfl) ⟨vr,tr⟩ ⟨DE,tr⟩
noncomputable def Tb:FuncId×eu:=(104,⟨[.ptr (.pair (.slice (.slice (.leaf 3))) (.pair (.slice (.leaf 3)) (.pair (.slice (.leaf 3)) (.pair (.leaf 3) (.pair (.slice (.int .i64)) (.slice (.int .i64))))))),.int .i64],[.slice (.leaf 3)],λp=>Jg p.1 p.2⟩)
theorem VJ:KQ Tb:=Zi (Zm (C:=eD [] [] [Dw] []) (.n (.n (.f (.n (.f (.l [0,1,5,13,14] [] [.s 15 (.dat (.int .i64)),.l (.sl 5) (.own 77 (.leaf 3))] 0 [5] [] [.l (.sl 5) (.own 77 (.leaf 3))] (.f (.n (.n (.f (.f (.n (.n (.j [0,1,5,13,14,15] [] [.l (.sl 5) (.own 77 (.leaf 3))] .no)))))))))))))) Tryz.func104 [] (λ_=>by kernel_rfl) tr ⟨Hj,tr⟩)
noncomputable def PS:FuncId×eu:=(105,⟨[.ptr (.pair (.slice (.slice (.leaf 3))) (.pair (.slice (.leaf 3)) (.pair (.slice (.leaf 3)) (.pair (.leaf 3) (.pair (.slice (.int .i64)) (.slice (.int .i64))))))),.int .i64,.int .i64],[.slice (.leaf 3)],λp=>RD p.1 p.2.1 p.2.2⟩)
theorem Wr:KQ PS:=Zi (Zm (C:=eD [vF] [] [Dw] [((42,"Neg"),224),((77,"Neg"),248)]) (.n (.n (.f (.n (.f (.l [0,1,2,7,15,16] [] [.s 17 (.dat (.int .i64)),.l (.sl 7) (.own 77 (.leaf 3))] 0 [7] [] [.l (.sl 7) (.own 77 (.leaf 3))] (.f (.n (.n (.f (.f (.n (.two (.j [0,1,2,7,8,9,15,16,17] [] [.s 31 (.dat .bool)] .no) (.j [0,1,2,7,15,16,17] [] [.l (.sl 7) (.own 77 (.leaf 3))] .no)))))))))))))) Tryz.func105 [] (λ_=> by kernel_rfl) ⟨yc,tr⟩ ⟨Hj,tr⟩ ⟨oN,pg,tr⟩)
noncomputable def IP:FuncId×eu:=(218,⟨[.leaf 2],[.int .i64],λp=>qH p⟩)
theorem Sr:KQ IP:=Zi (ZC (C:=eD [] [] [] []) .no Tryz.func218 [] (λv c x z b a=>.trans (by kernel_rfl) (Ym a)))
noncomputable def x9:FuncId×eu:=(251,⟨[.leaf 3],[.int .i64],λp=>lm p⟩)
theorem AV:KQ x9:=Zi (ZC (C:=eD [IP] [] [] []) .no Tryz.func251 [] (λv c x z b a=>.trans (by kernel_rfl) (ZwE a)) ⟨Sr,tr⟩)
noncomputable def GR:FuncId×eu:=(244,⟨[.leaf 3,.leaf 3],[.int .i64],λp=>Cb p.1 p.2⟩)
theorem Ng:KQ GR:=Zi (ZC (C:=eD [x9,D0] [] [] []) .no Tryz.func244 [] (λv c x z b a=>.trans (by kernel_rfl) (ZyA a)) ⟨AV,F1,tr⟩)
noncomputable def Kh:FuncId×fk:=(150,⟨186,(.agg (.cons (.mat 80 77 (.leaf 3)) (.cons (.own 77 (.leaf 3)) (.cons (.own 77 (.leaf 3)) (.cons (.dat (.leaf 3)) (.cons (.own 3 (.int .i64)) (.one (.own 3 (.int .i64))))))))),[.int .i64,.int .i64],[],λz x=>G6 z x.1 x.2⟩)
theorem U2:KB Kh:=mf (C:=eD [qj,BI,GY,BE,vF,D0,BU] [] [] [((42,"Add"),219),((42,"Div"),221),((42,"Mul"),222),((42,"Neg"),224),((42,"Sub"),228),((42,"Zero"),229),((77,"Add"),243),((77,"Div"),245),((77,"Mul"),246),((77,"Neg"),248),((77,"Sub"),252),((77,"Zero"),253)]) (.n (.n (.two (.n (.f (.l [0,1,2,7,37] [] [.s 38 (.dat (.int .i64)),.l (.sl 20) (.mat 80 77 (.leaf 3))] 0 [0,1,2,7] [] [.l (.sl 20) (.mat 80 77 (.leaf 3))] .no))) (.n (.n (.f (.n (.f (.l [0,1,2,94] [] [.s 95 (.dat (.int .i64)),.l (.sl 67) (.mat 80 77 (.leaf 3)),.l (.sl 77) (.own 77 (.leaf 3))] 2 [0,1,2] [] [.l (.sl 67) (.mat 80 77 (.leaf 3)),.l (.sl 77) (.own 77 (.leaf 3))] (.f (.n (.n (.f (.j [0,1,2,94,95] [] [.l (.fld (.sl 0) 0) (.mat 80 77 (.leaf 3)),.l (.fld (.sl 0) 1) (.own 77 (.leaf 3))] (.f (.n (.f (.f (.j [0,1,2,10,94,95] [] [.s 114 (.dat .bool)] .no))))))))))))))))))) Tryz.func150 [(189,Tryz.f189,.sel 1 (.n (.f (.n (.f (.l [0,1,2,3,8,15] [] [.s 16 (.dat (.int .i64)),.l (.fld (.sl 0) 0) (.agg (.mat 80 77 (.leaf 3)))] 0 [0,1,2,3,8] [] [.l (.fld (.sl 0) 0) (.agg (.mat 80 77 (.leaf 3)))] .no))))) (.n (.f (.n (.f (.l [0,1,2,3,8,15] [] [.s 16 (.dat (.int .i64)),.l (.sl 1) (.own 77 (.leaf 3))] 0 [0,1,2,3,8] [] [.l (.sl 1) (.own 77 (.leaf 3))] .no))))))] (λ_ _=> by kernel_rfl) ⟨vr,Dh,MY,DZ,yc,F1,DA,tr⟩ tr ⟨vC,DB,p9,oN,Ct,xF,v8,CV,pW,pg,Cv,xA,tr⟩ ⟨⟨Tryz.func189,λ_ _=> by kernel_rfl⟩,tr⟩
noncomputable def UF:FuncId×fk:=(154,⟨186,(.agg (.cons (.mat 80 77 (.leaf 3)) (.cons (.own 77 (.leaf 3)) (.cons (.own 77 (.leaf 3)) (.cons (.dat (.leaf 3)) (.cons (.own 3 (.int .i64)) (.one (.own 3 (.int .i64))))))))),[],[.int .i64],λz x=>QU z⟩)
theorem YT:KB UF:=mf (C:=eD [x9] [] [] [((42,"Sign"),227),((77,"Sign"),251)]) (.n (.n (.f (.n (.f (.l [0,9,10] [] [.s 3 (.dat (.int .i64)),.s 11 (.dat (.int .i64))] 0 [] [] [.s 3 (.dat (.int .i64))] (.f (.n (.n (.f (.f (.n (.two (.j [0,3,4,9,10,11] [] [.s 40 (.dat .bool)] .no) (.j [0,9,10,11] [] [.s 3 (.dat (.int .i64))] .no)))))))))))))) Tryz.func154 [] (λ_ _=> by kernel_rfl) ⟨AV,tr⟩ tr ⟨oJ,pm,tr⟩
noncomputable def SN:FuncId×fk:=(155,⟨186,(.agg (.cons (.mat 80 77 (.leaf 3)) (.cons (.own 77 (.leaf 3)) (.cons (.own 77 (.leaf 3)) (.cons (.dat (.leaf 3)) (.cons (.own 3 (.int .i64)) (.one (.own 3 (.int .i64))))))))),[.int .i64,.int .i64],[.int .i64],λz x=>Tj z x.1 x.2⟩)
theorem Wd:KB SN:=mf (C:=eD [GR,GY,x9] [] [] [((42,"Cmp"),220),((42,"Div"),221),((42,"Sign"),227),((77,"Cmp"),244),((77,"Div"),245),((77,"Sign"),251)]) (.n (.n (.n (.f (.n (.f (.l [0,1,2,8,17] [] [.s 7 (.dat (.int .i64)),.s 18 (.dat (.int .i64)),.l (.sl 8) (.box 77 (.dat (.leaf 3)))] 0 [] [] [.s 7 (.dat (.int .i64))] (.f (.n (.n (.f (.j [0,1,2,8,17,18] [] [.s 7 (.dat (.int .i64)),.l (.sl 8) (.box 77 (.dat (.leaf 3)))] (.f (.n (.n (.n (.n (.two (.n (.j [0,1,2,7,8,9,10,17,18] [] [.s 12 (.dat (.int .i64))] .no)) (.two (.j [0,1,2,7,8,9,10,17,18] [] [.s 110 (.dat .bool)] .no) (.j [0,1,2,8,17,18] [] [.s 7 (.dat (.int .i64)),.l (.sl 8) (.box 77 (.dat (.leaf 3)))] .no)))))))))))))))))))) Tryz.func155 [] (λ_ _=> by kernel_rfl) ⟨Ng,MY,AV,tr⟩ tr ⟨BT,DB,oJ,B',CV,pm,tr⟩
noncomputable def MK:FuncId×fk:=(103,⟨186,(.agg (.cons (.mat 80 77 (.leaf 3)) (.cons (.own 77 (.leaf 3)) (.cons (.own 77 (.leaf 3)) (.cons (.dat (.leaf 3)) (.cons (.own 3 (.int .i64)) (.one (.own 3 (.int .i64))))))))),[.int .i64],[.int .i64],λz x=>Mm z x⟩)
theorem QG:KB MK:=mf (C:=Cl [] [] [] [] [] [Kh,UF,SN] []) (.n (.f (.cut ⟨⟨[0,1],[.fld (.sl 0) 0,.fld (.sl 0) 1,.fld (.sl 0) 2,.fld (.sl 0) 6,.fld (.sl 0) 7],[.l (.sl 0) (.box 186 (.agg (.cons (.mat 80 77 (.leaf 3)) (.cons (.own 77 (.leaf 3)) (.cons (.own 77 (.leaf 3)) (.cons (.dat (.leaf 3)) (.cons (.own 3 (.int .i64)) (.one (.own 3 (.int .i64))))))))))]⟩,[(.ret,⟨[],[.fld (.sl 0) 0,.fld (.sl 0) 1,.fld (.sl 0) 2,.fld (.sl 0) 6,.fld (.sl 0) 7],[.s 1000 (.dat (.int .i64)),.l (.sl 0) (.box 186 (.agg (.cons (.mat 80 77 (.leaf 3)) (.cons (.own 77 (.leaf 3)) (.cons (.own 77 (.leaf 3)) (.cons (.dat (.leaf 3)) (.cons (.own 3 (.int .i64)) (.one (.own 3 (.int .i64))))))))))]⟩)]⟩ .no))) Tryz.func103 [] (λ_ _=>by kernel_rfl) tr tr tr tr tr ⟨U2,YT,Wd,tr⟩
noncomputable def TI:FuncId×fk:=(105,⟨186,(.agg (.cons (.mat 80 77 (.leaf 3)) (.cons (.own 77 (.leaf 3)) (.cons (.own 77 (.leaf 3)) (.cons (.dat (.leaf 3)) (.cons (.own 3 (.int .i64)) (.one (.own 3 (.int .i64))))))))),[.int .i64,.int .i64],[.slice (.leaf 3)],λz x=>SH z x.1 x.2⟩)
theorem Wf:KB TI:=mf (C:=eD [qj,vF] [] [xB] [((42,"Neg"),224),((77,"Neg"),248)]) (.n (.n (.f (.n (.f (.l [0,1,2,7,15,16] [] [.s 17 (.dat (.int .i64)),.l (.sl 7) (.own 77 (.leaf 3))] 0 [7] [] [.l (.sl 7) (.own 77 (.leaf 3))] (.f (.n (.n (.f (.f (.n (.two (.j [0,1,2,7,8,9,15,16,17] [] [.s 31 (.dat .bool)] .no) (.j [0,1,2,7,15,16,17] [] [.l (.sl 7) (.own 77 (.leaf 3))] .no)))))))))))))) Tryz.func105 [(48,Tryz.f48,.no)] (λ_ _=> by kernel_rfl) ⟨vr,yc,tr⟩ ⟨DE,tr⟩ ⟨oN,pg,tr⟩ ⟨⟨Tryz.func48,λ_ _=> by kernel_rfl⟩,tr⟩
end
theorem Lx{P:Program}{K:Nat}{L:dW}{J:Zb}{c:List (Nat×Value)}{M:List dY}{v:Zb}{a:Act}{w:World}{d:Option Nat}{I:TypeId}{H:String}{l:Array Edge}{g:Option (Nat×Bool)}(f:St K L J c M v a w){t e:TypeId}{sz b n h p q m:Nat}{x lo i mx:Operand}{k F G:IntKind}(j:jf P t e sz)(o:ev c x=some (.slice (some ⟨b,0,none⟩) n h))(r:ev c lo=some (.int k (p:Int)))(s:ev c i=some (.int F (q:Int)))(u:ev c mx=some (.int G (m:Int)))(z:p≤q)(A:q≤m)(B:m≤h):
  ∃ y,(execOp a.eval ⟨d,.slice t x (some lo) (some i) (some mx),I,H,l,g⟩).run P w= .ok (.value y) w:=by
 have C:(0:Int)≤(p:Int)∧(p:Int)≤(q:Int):=by omega
 have D:(0:Int)≤(q:Int)∧(q:Int)≤(m:Int):=by omega
 have E:(0:Int)≤(m:Int)∧(m:Int)≤(h:Int):=by omega
 exact⟨.slice (if m=p then some ⟨b,0,none⟩ else some (Addr.add ⟨b,0,none⟩ (p*sz))) (q-p) (m-p),by simp[execOp,Instr.sliceAt,Instr.slice,Instr.sliceBounds,Instr.sliceBound,asIntOf,f.eval o,f.eval r,f.eval s,f.eval u,j.1,j.2,z,A,B,C,D,E]⟩
theorem KJ{d:Option Nat}{E:String}(g:St h i e q m B o c){r:TypeId}{sz n f p b:Nat}{x lo j:Operand}{k D:IntKind}(l:jf a K r sz)(s:ev q x=some (.slice (some ⟨F,0,none⟩) n f))(t:ev q lo=some (.int k (p:Int)))(u:ev q j=some (.int D (b:Int)))(w:p≤b)(y:b≤f)(G:p<f):
  (execOp o.eval ⟨d,.slice K x (some lo) (some j) none,v,E,P,J⟩).run a c= .ok (.value (.slice (some ⟨F,p*sz,none⟩) (b-p) (f-p))) c:=by
 have z:(0:Int)≤(p:Int)∧(p:Int)≤(b:Int):=by omega
 have A:(0:Int)≤(b:Int)∧(b:Int)≤(f:Int):=by omega
 have C:¬f=p:=by omega
 simp[execOp,Instr.sliceAt,Instr.slice,Instr.sliceBounds,Instr.sliceBound,asIntOf,g.eval s,g.eval t,g.eval u,l.1,l.2,w,y,z,A,C,gG]
theorem KV{z:dW}{A:List (Nat×Value)}{l:List dY}{w:World}{t ty:TypeId}{sz bytes:Nat}(E:eZ a t K sz bytes O)(p:St h z e A l B o w){i n f b:Nat}(s:l[i]?= some (.own (some b) K sz n f d)){q m c:Nat}{ad:Addr}{news:List Value}(v:news.length=m*sz)(H:∀j u,news[j]?= some u→w.cell? (ad.add j)=some u)(hp:news.all plain=true)(I:q+m≤n):
  ∃ y,(Builtin.append_ #[t,t] ty #[.slice (some ⟨b,0,none⟩) q f,.slice (some ad) m c]).run a w= .ok (.slice (some ⟨b,0,none⟩) (q+m) f) y∧
   St h z e A (l.set i (.own (some b) K sz n f (d.take (q*sz)++news++d.drop (q*sz+news.length)))) B o y:=by
 obtain⟨g,G,R,hs,N⟩:=info_parts E.info;subst hs;obtain⟨P,k,r,x,F,D,L⟩:=(p.loc _ (mG s)).1;have C:q*g.size+news.length≤n*g.size:=by rw[v,←Nat.add_mul];exact mR _ I
 have M:n*g.size≤f*g.size:=mR _ x;have Q:k.toList.length=f*g.size:=by simpa using D
 have J:=run_append_room (P:=a) w t ty K g E.ty G b q f k r ad m c news v H (Iz hp) (by omega) (by omega);refine⟨_,J,p.setRow s rfl rfl ⟨?_,_,setRow_heap w b k _ K _ r,x,F,?_,?_⟩⟩
 ·simp;omega
 ·simp;omega
 ·show List.take (n*g.size) (_++_++_)=_;rw[HM _ _ _ _ C (by omega),L]
theorem Lb{z:dW}{w:World}{t ty:TypeId}{sz bytes:Nat}(E:eZ a t K sz bytes O)(l:St h z e q m B o w){i n j b:Nat}(s:m[i]?= some (.own (some b) K sz n j d)){p c:Nat}(hp:p+1≤n)(I:∀x ∈ (Builtin.zeroCells O.cells 1).toList,x.oneCell'=true):
  ∃ y k,k.length=sz∧(∀ty,(Builtin.clear_ #[t] ty #[.slice (some ⟨b,p*sz,none⟩) 1 c]).run a w= .ok (.tuple #[]) y)∧
   St h z e q (m.set i (.own (some b) K sz n j (d.take (p*sz)++k++d.drop (p*sz+k.length)))) B o y:=by
 obtain⟨Q,F,H,hs,M⟩:=info_parts E.info;obtain⟨N,f,r,u,D,C,G⟩:=(l.loc _ (mG s)).1;have g:(Builtin.zeroCells O.cells 1).toList.length=sz:=by
  have:=size_zeroCells O.cells 1;rw[E.cells]at this
  simpa using this
 have A:p*sz+sz≤n*sz:=by
  have:=mR sz hp;rw[Nat.add_mul,Nat.one_mul]at this;exact this
 have L:n*sz≤j*sz:=mR _ u;have P:f.toList.length=j*sz:=by simpa using C
 have v:=run_storeCells_at a b (p*sz) K (Builtin.zeroCells O.cells 1).toList 0 f w r (by rw[g];omega) I;have J:∀w:World,(zeroValue K).run a w= .ok O w:=λw=>by simp[zeroValue,typeInfo,F,H]
 refine⟨_,(Builtin.zeroCells O.cells 1).toList,g,λty=>?_,l.setRow s rfl rfl (c:=(f.toList.take (p*sz)++(Builtin.zeroCells O.cells 1).toList++f.toList.drop (p*sz+(Builtin.zeroCells O.cells 1).toList.length)).toArray) ⟨?_,_,setRow_heap w b f _ K _ r,u,D,?_,?_⟩⟩
 ·simp at v;simp[Builtin.clear_,run_underlying E.ty,J,v]
 ·simp at g ⊢;omega
 ·simp at g ⊢;omega
 ·show List.take (n*sz) (_++_++_)=_;rw[HM _ _ _ _ (by rw[g];exact A) (by omega),G]
theorem Mq{d:Option Nat}{j:String}(g:St h i e q m B o c){x:Operand}{r:Value}(b:ev q x=some O)(f:(Builtin.clear_ #[K] v #[O]).run a c= .ok r S):
  (execOp o.eval ⟨d,.call ⟨.builtin .clear,#[x],#[K]⟩,v,j,P,J⟩).run a c= .ok (.value r) S:=by
 simp[execOp,resolve,invoke,builtin,g.eval b,f]
theorem Mc{d:Array Oper}{b:Oper}(i:Region.wanted b (yielded d o.tmps)=true)(e:b.dst=none)(f:(execOp o.eval b).run a c= .ok (.value O) S)(h:wpList a d g R o S):wpList a d g (b :: R) o c :=
 md i (qt f (by rw[e];exact h))
theorem St.narrow{j:dW}{a:List dY}(f:St h j e q a B o c){i n m b sz:Nat}{T:TypeId}(g:a[i]?= some (.own (some F) T sz n b d))(t:m≤n):St h j e q (a.set i (.own (some F) T sz m b (d.take (m*sz)))) B o c:=by
 obtain⟨v,k,s,w,r,p,u⟩:=(f.loc _ (mG g)).1;have l:m*sz≤n*sz:=mR _ t;refine f.setSame g rfl ⟨?_,k,s,by omega,r,p,?_⟩
 ·rw[List.length_take];omega
 ·rw[←u,List.take_take,Nat.min_eq_left l]
theorem Mf{a:List Value}{sz:Nat}(h:d.length=F*sz)(i:w<F)(j:a.length=sz):
  (((d.take (w*sz)++d.drop ((w+1)*sz)++d.drop (w*sz+(d.drop ((w+1)*sz)).length)).take ((F-1)*sz)++a++(d.take (w*sz)++d.drop ((w+1)*sz)++d.drop (w*sz+(d.drop ((w+1)*sz)).length)).drop ((F-1)*sz+a.length)).take ((F-1)*sz))=d.take (w*sz)++d.drop ((w+1)*sz):=by
 have c:w*sz≤F*sz:=mR _ (by omega);have e:(w+1)*sz≤F*sz:=mR _ (by omega);have f:(w+1)*sz=w*sz+sz:=by rw[Nat.add_mul,Nat.one_mul]
 have g:(F-1)*sz=F*sz-sz:=by rw[Nat.sub_mul,Nat.one_mul]
 have b:(d.take (w*sz)++d.drop ((w+1)*sz)).length=(F-1)*sz:=by
  rw[lA,List.length_take,List.length_drop];omega
 rw[fj (List.take _ _) a,List.take_append_of_le_length (by rw[List.length_take,lA,b];omega),List.take_take,Nat.min_self,List.take_append_of_le_length (by rw[b];omega),List.take_of_length_le (by rw[b];omega)]
section
open Go.Proofs
theorem Tn:eZ Tryz.prog 73 3 ((Zd .i64)).n 8 (Value.int IntKind.i64 0):=⟨Tryz.underlying73,by kernel_rfl,rfl,by decide⟩
theorem xW:jf Tryz.prog 73 3 ((Zd .i64)).n:=⟨λ_=>by kernel_rfl,λ_=>by kernel_rfl⟩
theorem Wx:Tryz.prog.follows .mixedOrders=true:=by kernel_rfl
noncomputable def HL:FuncId×il:=(128,⟨3,.int .i64,λl i j=>kn l i j⟩)
theorem N6:xv Tryz.prog HL.1 HL.2:=λw v ob n f g l O P z L G J k x Y Z A=>by
 have A:kn (show List Int from l) O P=some z:=A
 obtain⟨i,rfl,rfl,t,rfl⟩:=Lj A
 have k:((Zd .i64)).rels v g (show List Int from l):=k
 have t:i<n:=by rw[x];exact t
 have s:g.length=n*((Zd .i64)).n:=by rw[x];exact kK k
 refine⟨λ_ _=>by kernel_rfl,?_⟩
 refine Jt (K:=33) (args:=[.slice (eF ob) n f,.int .i64 (i:Int),.int .i64 ((i+1:Nat):Int)]) L G J Tryz.func128 rfl rfl zl λc a=>?_
 obtain⟨b,rfl⟩:=mr a (j:=0) rfl (by omega)
 obtain⟨_,U,X,I,E,W,a0⟩:=(a.loc _ (mG (i:=0) rfl)).1
 unfold maxLen at E
 refine sr ?_
 refine mw a rfl λc a=>?_
 refine oe ?_
 refine sr ?_
 refine mv a rfl λc a=>?_
 refine mv a rfl λc a=>?_
 refine mv a rfl λc a=>?_
 refine mv a rfl λc a=>?_
 refine ov a rfl (iw a rfl rfl xW) λc a=>?_
 have r:=@Lx _ _ _ _ _ _ _ _ _ (some 13) 73 "" #[] none a 73 3 ((Zd .i64)).n b n f i (i+1) n (.tmp 8) (.tmp 9) (.tmp 10) (.tmp 12) .i64 .i64 .i64 xW rfl rfl rfl rfl (by omega) (by omega) I
 obtain⟨y3,r⟩:=r
 refine ov a rfl r λc a=>?_
 refine oe ?_
 refine wp_seq_k λR B=>?_
 refine sr ?_
 refine mv a rfl λc a=>?_
 refine mv a rfl λc a=>?_
 refine ov a rfl (ZD a rfl rfl xw) λc a=>?_
 refine oe ?_
 refine gn a rfl (by simp only[beq_eq_false_iff_ne,ne_eq];omega) ?_
 refine wp_skip ?_
 refine Zp (B _ _ ?_)
 refine sr ?_
 refine mv a rfl λc a=>?_
 refine ov a rfl (iw a rfl rfl xW) λc a=>?_
 refine mw a rfl λc a=>?_
 refine oe ?_
 refine wp_seq_k λS C=>?_
 refine vb (fl:=#[true,true,true,true,true,true,false,false]) Wx (by kernel_rfl) a ?_
 intro a1 d e Q a
 refine rf d e 0 rfl (by kernel_rfl) rfl a (ZG a rfl) λc a=>?_
 refine rf d e 1 rfl (by kernel_rfl) rfl a (ZG a rfl) λc a=>?_
 refine rf d e 2 rfl (by kernel_rfl) rfl a (Dz a xW rfl rfl (by omega) (by omega)) λc a=>?_
 refine rf d e 3 rfl (by kernel_rfl) rfl a (ZG a rfl) λc a=>?_
 refine rf d e 4 rfl (by kernel_rfl) rfl a (ZG a rfl) λc a=>?_
 obtain⟨o,D,K⟩:∃o:Addr,(if f=i+1 then eF (some b) else(eF (some b)).map (·.add ((i+1)*((Zd .i64)).n)))=some o∧∀j u,(g.drop ((i+1)*((Zd .i64)).n))[j]?= some u→Q.cell? (o.add j)=some u:=by
  by_cases h:f=i+1
  ·refine⟨⟨b,0,none⟩,by rw[iP h];rfl,λj u m=>?_⟩;have:g.drop ((i+1)*((Zd .i64)).n)=[]:=List.drop_eq_nil_of_le (by rw[s];exact mR _ (by omega));rw[this]at m;simp at m
  ·refine⟨(⟨b,0,none⟩:Addr).add ((i+1)*((Zd .i64)).n),by rw[iN h];rfl,λj u m=>?_⟩;have:=wk a (j:=0) rfl ((i+1)*((Zd .i64)).n+j) u (by rw[List.getElem?_drop]at m;exact m);rw[show((⟨b,0,none⟩:Addr).add ((i+1)*((Zd .i64)).n)).add j=(⟨b,0,none⟩:Addr).add ((i+1)*((Zd .i64)).n+j) by simp only[gG,Nat.add_assoc]];exact this
 refine rf d e 5 rfl (by kernel_rfl) rfl a (MS a xW rfl rfl (by omega)) λc a=>?_;rw[D]at a;have F:(g.drop ((i+1)*((Zd .i64)).n)).length=(n-(i+1))*((Zd .i64)).n:=by rw[List.length_drop,s,Nat.sub_mul]
 obtain⟨a2,q,p⟩:=KV (t:=73) (ty:=73) Tn a (i:=0) rfl (q:=i) (m:=n-(i+1)) (c:=f-(i+1)) (ad:=o) (news:=g.drop ((i+1)*((Zd .i64)).n)) F K (by rw[List.all_eq_true];intro y M;exact List.all_eq_true.1 (xD k) y (List.mem_of_mem_drop M)) (by omega);rw[show i+(n-(i+1))=n-1 by omega]at q;refine ls d e 6 (by kernel_rfl) ?_;refine Dr [2,5,0,1,3,4] [] d rfl (by kernel_rfl) wn rfl zl (MM a rfl rfl q) p λc a=>?_;refine⟨jh,?_⟩;refine ls d e 7 (by kernel_rfl) ?_;refine nv [0,1,2,3,4,5,6] [] d rfl (by kernel_rfl) rfl a (mg a rfl) λc a=>?_;refine⟨jh,?_⟩;refine AW d e (by kernel_rfl) ?_;refine Zp (C _ _ ?_);refine sr ?_;refine mv a rfl λc a=>?_;refine mv a rfl λc a=>?_;refine ov a rfl (iw a rfl rfl xW) λc a=>?_;refine mv a rfl λc a=>?_;refine ov a rfl (KJ a xW rfl rfl rfl (by omega) (by omega) (by omega)) λc a=>?_;obtain⟨a3,zc,N,q,p⟩:=Lb (t:=73) (ty:=73) Tn a (i:=0) rfl (p:=n-1) (c:=f-(n-1)) (by omega) (List.all_eq_true.1 (by kernel_rfl));have H:n-(n-1)=1:=by omega
 rw[H]at a p;refine Mc wn rfl (Mq a rfl (q _)) ?_;refine oe ?_;have a:=p.narrow (i:=0) rfl (m:=n-1) (by omega);refine sr ?_;refine mv a rfl λc a=>?_;refine mw a rfl λc a=>?_;refine oe ?_;refine wp_ret ?_;refine No a (i:=0) rfl (kl rfl (gO a rfl)) ?_ (show n-1=(List.take i l++List.drop (i+1) l).length by rw[lA,List.length_take,List.length_drop,←x];omega);rw[Mf s t N];exact ku (wj i (ZQ a.vst.le k)) (qu (i+1) (ZQ a.vst.le k))
theorem U4:eZ Tryz.prog 80 77 (Z9).n 56 (Value.agg #[Value.bool false,Value.slice none 0 0,Value.slice none 0 0]):=⟨Tryz.underlying80,by kernel_rfl,rfl,by decide⟩
theorem xy:jf Tryz.prog 80 77 (Z9).n:=⟨λ_=>by kernel_rfl,λ_=>by kernel_rfl⟩
theorem ZbE:Tryz.prog.follows .mixedOrders=true:=by kernel_rfl
noncomputable def Lc:FuncId×il:=(153,⟨77,.leaf 3,λl i j=>kn l i j⟩)
theorem YC:xv Tryz.prog Lc.1 Lc.2:=λw v ob n f g l O P z L G J k x Y Z A=>by
 have A:kn (show List Rat from l) O P=some z:=A
 obtain⟨i,rfl,rfl,t,rfl⟩:=Lj A
 have k:(Z9).rels v g (show List Rat from l):=k
 have t:i<n:=by rw[x];exact t
 have s:g.length=n*(Z9).n:=by rw[x];exact kK k
 refine⟨λ_ _=>by kernel_rfl,?_⟩
 refine Jt (K:=33) (args:=[.slice (eF ob) n f,.int .i64 (i:Int),.int .i64 ((i+1:Nat):Int)]) L G J Tryz.func153 rfl rfl zl λc a=>?_
 obtain⟨b,rfl⟩:=mr a (j:=0) rfl (by omega)
 obtain⟨_,U,X,I,E,W,a0⟩:=(a.loc _ (mG (i:=0) rfl)).1
 unfold maxLen at E
 refine sr ?_
 refine mw a rfl λc a=>?_
 refine oe ?_
 refine sr ?_
 refine mv a rfl λc a=>?_
 refine mv a rfl λc a=>?_
 refine mv a rfl λc a=>?_
 refine mv a rfl λc a=>?_
 refine ov a rfl (iw a rfl rfl xy) λc a=>?_
 have r:=@Lx _ _ _ _ _ _ _ _ _ (some 13) 80 "" #[] none a 80 77 (Z9).n b n f i (i+1) n (.tmp 8) (.tmp 9) (.tmp 10) (.tmp 12) .i64 .i64 .i64 xy rfl rfl rfl rfl (by omega) (by omega) I
 obtain⟨y3,r⟩:=r
 refine ov a rfl r λc a=>?_
 refine oe ?_
 refine wp_seq_k λR B=>?_
 refine sr ?_
 refine mv a rfl λc a=>?_
 refine mv a rfl λc a=>?_
 refine ov a rfl (ZD a rfl rfl xw) λc a=>?_
 refine oe ?_
 refine gn a rfl (by simp only[beq_eq_false_iff_ne,ne_eq];omega) ?_
 refine wp_skip ?_
 refine Zp (B _ _ ?_)
 refine sr ?_
 refine mv a rfl λc a=>?_
 refine ov a rfl (iw a rfl rfl xy) λc a=>?_
 refine mw a rfl λc a=>?_
 refine oe ?_
 refine wp_seq_k λS C=>?_
 refine vb (fl:=#[true,true,true,true,true,true,false,false]) ZbE (by kernel_rfl) a ?_
 intro a1 d e Q a
 refine rf d e 0 rfl (by kernel_rfl) rfl a (ZG a rfl) λc a=>?_
 refine rf d e 1 rfl (by kernel_rfl) rfl a (ZG a rfl) λc a=>?_
 refine rf d e 2 rfl (by kernel_rfl) rfl a (Dz a xy rfl rfl (by omega) (by omega)) λc a=>?_
 refine rf d e 3 rfl (by kernel_rfl) rfl a (ZG a rfl) λc a=>?_
 refine rf d e 4 rfl (by kernel_rfl) rfl a (ZG a rfl) λc a=>?_
 obtain⟨o,D,K⟩:∃o:Addr,(if f=i+1 then eF (some b) else(eF (some b)).map (·.add ((i+1)*(Z9).n)))=some o∧∀j u,(g.drop ((i+1)*(Z9).n))[j]?= some u→Q.cell? (o.add j)=some u:=by
  by_cases h:f=i+1
  ·refine⟨⟨b,0,none⟩,by rw[iP h];rfl,λj u m=>?_⟩;have:g.drop ((i+1)*(Z9).n)=[]:=List.drop_eq_nil_of_le (by rw[s];exact mR _ (by omega));rw[this]at m;simp at m
  ·refine⟨(⟨b,0,none⟩:Addr).add ((i+1)*(Z9).n),by rw[iN h];rfl,λj u m=>?_⟩;have:=wk a (j:=0) rfl ((i+1)*(Z9).n+j) u (by rw[List.getElem?_drop]at m;exact m);rw[show((⟨b,0,none⟩:Addr).add ((i+1)*(Z9).n)).add j=(⟨b,0,none⟩:Addr).add ((i+1)*(Z9).n+j) by simp only[gG,Nat.add_assoc]];exact this
 refine rf d e 5 rfl (by kernel_rfl) rfl a (MS a xy rfl rfl (by omega)) λc a=>?_;rw[D]at a;have F:(g.drop ((i+1)*(Z9).n)).length=(n-(i+1))*(Z9).n:=by rw[List.length_drop,s,Nat.sub_mul]
 obtain⟨a2,q,p⟩:=KV (t:=80) (ty:=80) U4 a (i:=0) rfl (q:=i) (m:=n-(i+1)) (c:=f-(i+1)) (ad:=o) (news:=g.drop ((i+1)*(Z9).n)) F K (by rw[List.all_eq_true];intro y M;exact List.all_eq_true.1 (xD k) y (List.mem_of_mem_drop M)) (by omega);rw[show i+(n-(i+1))=n-1 by omega]at q;refine ls d e 6 (by kernel_rfl) ?_;refine Dr [2,5,0,1,3,4] [] d rfl (by kernel_rfl) wn rfl zl (MM a rfl rfl q) p λc a=>?_;refine⟨jh,?_⟩;refine ls d e 7 (by kernel_rfl) ?_;refine nv [0,1,2,3,4,5,6] [] d rfl (by kernel_rfl) rfl a (mg a rfl) λc a=>?_;refine⟨jh,?_⟩;refine AW d e (by kernel_rfl) ?_;refine Zp (C _ _ ?_);refine sr ?_;refine mv a rfl λc a=>?_;refine mv a rfl λc a=>?_;refine ov a rfl (iw a rfl rfl xy) λc a=>?_;refine mv a rfl λc a=>?_;refine ov a rfl (KJ a xy rfl rfl rfl (by omega) (by omega) (by omega)) λc a=>?_;obtain⟨a3,zc,N,q,p⟩:=Lb (t:=80) (ty:=80) U4 a (i:=0) rfl (p:=n-1) (c:=f-(n-1)) (by omega) (List.all_eq_true.1 (by kernel_rfl));have H:n-(n-1)=1:=by omega
 rw[H]at a p;refine Mc wn rfl (Mq a rfl (q _)) ?_;refine oe ?_;have a:=p.narrow (i:=0) rfl (m:=n-1) (by omega);refine sr ?_;refine mv a rfl λc a=>?_;refine mw a rfl λc a=>?_;refine oe ?_;refine wp_ret ?_;refine No a (i:=0) rfl (kl rfl (gO a rfl)) ?_ (show n-1=(List.take i l++List.drop (i+1) l).length by rw[lA,List.length_take,List.length_drop,←x];omega);rw[Mf s t N];exact ku (wj i (ZQ a.vst.le k)) (qu (i+1) (ZQ a.vst.le k))
noncomputable def Ps:FuncId×fk:=(102,⟨186,(.agg (.cons (.mat 80 77 (.leaf 3)) (.cons (.own 77 (.leaf 3)) (.cons (.own 77 (.leaf 3)) (.cons (.dat (.leaf 3)) (.cons (.own 3 (.int .i64)) (.one (.own 3 (.int .i64))))))))),[.pair (.slice (.slice (.leaf 3))) (.pair (.slice (.leaf 3)) (.slice (.leaf 3)))],[.slice (.leaf 3),.bool],λz x=>TO z x⟩)
theorem YR:KB Ps:=mf (C:=Cl [qj,BI,GR,BE,x9,D0,BU] [100182] [xB] [((42,"Add"),219),((42,"Cmp"),220),((42,"Mul"),222),((42,"Sign"),227),((42,"Sub"),228),((42,"Zero"),229),((77,"Add"),243),((77,"Cmp"),244),((77,"Mul"),246),((77,"Sign"),251),((77,"Sub"),252),((77,"Zero"),253)] [] [MK,TI,Kh] [HL,Lc]) (.n (.n (.n (.two (.n (.f (.l [0,3,6,7,8,34,35] [] [.s 9 (.dat (.int .i64)),.s 36 (.dat (.int .i64))] 0 [0,3,6,7,8] [] [.s 9 (.dat (.int .i64))] (.f (.n (.n (.f (.f (.n (.two (.j [0,3,6,7,8,9,10,34,35,36] [] [.s 61 (.dat .bool)] .no) (.j [0,3,6,7,8,34,35,36] [] [.s 9 (.dat (.int .i64))] .no))))))))))) (.n (.two (.n (.f (.l [0,3,6,7,8,9,70] [] [.s 71 (.dat (.int .i64)),.l (.sl 69) (.mat 80 77 (.leaf 3))] 2 [0,3,6,7,8,9] [] [.l (.sl 69) (.mat 80 77 (.leaf 3))] .no))) (.n (.n (.n (.n (.n (.two (.n (.n (.j [0,3,8] [.fld (.sl 0) 0,.fld (.sl 0) 1,.fld (.sl 0) 2,.fld (.sl 0) 6,.fld (.sl 0) 7] [.l (.sl 0) (.box 186 (.agg (.cons (.mat 80 77 (.leaf 3)) (.cons (.own 77 (.leaf 3)) (.cons (.own 77 (.leaf 3)) (.cons (.dat (.leaf 3)) (.cons (.own 3 (.int .i64)) (.one (.own 3 (.int .i64))))))))))] .no))) (.n (.n (.two (.n (.f (.l [0,3,14,167] [] [.s 168 (.dat (.int .i64)),.l (.sl 166) (.mat 80 77 (.leaf 3))] 4 [0,3] [] [.l (.sl 166) (.mat 80 77 (.leaf 3))] .no))) (.n (.f (.n (.f (.l [0,203,204] [.fld (.sl 0) 0,.fld (.sl 0) 1,.fld (.sl 0) 2,.fld (.sl 0) 6,.fld (.sl 0) 7] [.s 205 (.dat (.int .i64)),.l (.sl 0) (.box 186 (.agg (.cons (.mat 80 77 (.leaf 3)) (.cons (.own 77 (.leaf 3)) (.cons (.own 77 (.leaf 3)) (.cons (.dat (.leaf 3)) (.cons (.own 3 (.int .i64)) (.one (.own 3 (.int .i64))))))))))] 6 [] [.fld (.sl 0) 0,.fld (.sl 0) 1,.fld (.sl 0) 2,.fld (.sl 0) 6,.fld (.sl 0) 7] [.l (.sl 0) (.box 186 (.agg (.cons (.mat 80 77 (.leaf 3)) (.cons (.own 77 (.leaf 3)) (.cons (.own 77 (.leaf 3)) (.cons (.dat (.leaf 3)) (.cons (.own 3 (.int .i64)) (.one (.own 3 (.int .i64))))))))))] (.f (.n (.n (.f (.j [0,203,204,205] [.fld (.sl 0) 0,.fld (.sl 0) 1,.fld (.sl 0) 2,.fld (.sl 0) 6,.fld (.sl 0) 7] [.l (.sl 0) (.box 186 (.agg (.cons (.mat 80 77 (.leaf 3)) (.cons (.own 77 (.leaf 3)) (.cons (.own 77 (.leaf 3)) (.cons (.dat (.leaf 3)) (.cons (.own 3 (.int .i64)) (.one (.own 3 (.int .i64))))))))))] (.f (.n (.n (.n (.n (.n (.f (.l [0,17,203,204,205,265,266] [] [.s 267 (.dat (.int .i64)),.l (.fld (.sl 0) 2) (.own 77 (.leaf 3))] 8 [0,203,204,205] [] [.l (.fld (.sl 0) 2) (.own 77 (.leaf 3))] .no))))))))))))))))))))))))))))))))) Tryz.func102 [(48,Tryz.f48,.no),(97,Tryz.f97,.r [] [] [.s 1000 (.dat (.int .i64))] (.n (.f (.n (.f (.cut ⟨⟨[0,1,7],[],[.s 8 (.dat (.int .i64))]⟩,[(.exit 0,⟨[],[],[]⟩),(.ret,⟨[],[],[.s 1000 (.dat (.int .i64))]⟩)]⟩ .no)))))),(151,Tryz.f151,.r [] [] [.s 1000 (.dat (.int .i64))] (.n (.f (.n (.f (.cut ⟨⟨[0,1,7],[],[.s 8 (.dat (.int .i64))]⟩,[(.exit 0,⟨[],[],[]⟩),(.ret,⟨[],[],[.s 1000 (.dat (.int .i64))]⟩)]⟩ .no)))))),(152,Tryz.f152,.no)] (λ_ _=> by kernel_rfl) ⟨vr,Dh,Ng,DZ,AV,F1,DA,tr⟩ ⟨DE,tr⟩ ⟨vC,BT,p9,oJ,Ct,xF,v8,B',pW,pm,Cv,xA,tr⟩ ⟨⟨Tryz.func48,λ_ _=> by kernel_rfl⟩,⟨Tryz.func97,λ_ _=> by kernel_rfl⟩,⟨Tryz.func151,λ_ _=> by kernel_rfl⟩,⟨Tryz.func152,λ_ _=> by kernel_rfl⟩,tr⟩ tr ⟨QG,Wf,U2,tr⟩ ⟨N6,YC,tr⟩
noncomputable def S7:FuncId×eu:=(53,⟨[.pair (.slice (.slice (.leaf 3))) (.pair (.slice (.leaf 3)) (.slice (.leaf 3)))],[.pair (.int .i64) (.pair (.leaf 3) (.pair (.slice (.leaf 3)) (.pair (.slice (.leaf 3)) (.slice (.leaf 3)))))],λp=>Oq p⟩)
theorem VA:KQ S7:=Zi (Zm (C:=Cl [qj,Tb,PS,vF] [] [xB,Dd] [((42,"Neg"),224),((77,"Neg"),248)] [Po] [Ps,MK] []) (.n (.n (.n (.n (.n (.two (.j [2,3,4,6] [] [.s 5 (.dat (.ptr (.pair (.slice (.slice (.leaf 3))) (.pair (.slice (.leaf 3)) (.pair (.slice (.leaf 3)) (.pair (.leaf 3) (.pair (.slice (.int .i64)) (.slice (.int .i64))))))))),.s 9 (.dat (.int .i64))] .no) (.n (.n (.two (.n (.n (.j [2,3,5,6,9,10] [] [.l (.sl 10) (.own 77 (.leaf 3))] .no))) (.f (.n (.f (.l [2,3,5,6,9,10,69,70] [] [.s 71 (.dat (.int .i64)),.l (.sl 10) (.own 77 (.leaf 3))] 0 [2,3,5,6,10] [] [.l (.sl 10) (.own 77 (.leaf 3))] (.f (.n (.n (.f (.f (.n (.n (.j [2,3,5,6,9,10,69,70,71] [] [.l (.sl 10) (.own 77 (.leaf 3))] .no))))))))))))))))))))) Tryz.func53 [(48,Tryz.f48,.no),(101,Tryz.f101,.n (.n (.two (.n (.f (.l [1,3,20] [.fld (.sl 3) 0,.fld (.sl 3) 1,.fld (.sl 3) 2] [.s 21 (.dat (.int .i64)),.l (.sl 3) (.box 186 (.agg (.cons (.mat 80 77 (.leaf 3)) (.cons (.own 77 (.leaf 3)) (.cons (.own 77 (.leaf 3)) (.cons (.dat (.leaf 3)) (.cons (.own 3 (.int .i64)) (.one (.own 3 (.int .i64))))))))))] 0 [1,3] [.fld (.sl 3) 0,.fld (.sl 3) 1,.fld (.sl 3) 2] [.l (.sl 3) (.box 186 (.agg (.cons (.mat 80 77 (.leaf 3)) (.cons (.own 77 (.leaf 3)) (.cons (.own 77 (.leaf 3)) (.cons (.dat (.leaf 3)) (.cons (.own 3 (.int .i64)) (.one (.own 3 (.int .i64))))))))))] .no))) (.f (.n (.f (.l [1,3,37] [.fld (.sl 3) 0,.fld (.sl 3) 1,.fld (.sl 3) 2,.fld (.sl 3) 6,.fld (.sl 3) 7] [.s 38 (.dat (.int .i64)),.l (.sl 3) (.box 186 (.agg (.cons (.mat 80 77 (.leaf 3)) (.cons (.own 77 (.leaf 3)) (.cons (.own 77 (.leaf 3)) (.cons (.dat (.leaf 3)) (.cons (.own 3 (.int .i64)) (.one (.own 3 (.int .i64))))))))))] 2 [3] [.fld (.sl 3) 0,.fld (.sl 3) 1,.fld (.sl 3) 2,.fld (.sl 3) 6,.fld (.sl 3) 7] [.l (.sl 3) (.box 186 (.agg (.cons (.mat 80 77 (.leaf 3)) (.cons (.own 77 (.leaf 3)) (.cons (.own 77 (.leaf 3)) (.cons (.dat (.leaf 3)) (.cons (.own 3 (.int .i64)) (.one (.own 3 (.int .i64))))))))))] .no)))))))] (λ_=> by kernel_rfl) ⟨vr,VJ,Wr,yc,tr⟩ ⟨DE,MT,tr⟩ ⟨oN,pg,tr⟩ ⟨⟨Tryz.func48,λ_ _=> by kernel_rfl⟩,⟨Tryz.func101,λ_ _=> by kernel_rfl⟩,tr⟩ ⟨XW,tr⟩ ⟨YR,QG,tr⟩)
noncomputable def Rk:FuncId×eu:=(17,⟨[.pair (.slice (.slice (.leaf 3))) (.pair (.slice (.leaf 3)) (.slice (.leaf 3)))],[.pair (.int .i64) (.pair (.leaf 3) (.pair (.slice (.leaf 3)) (.pair (.slice (.leaf 3)) (.slice (.leaf 3))))),.int .i64],λp=>Qp p⟩)
theorem XO:KQ Rk:=Zi (Zm (C:=eD [LA,S7] [] [] []) .no Tryz.func17 [] (λ_=>by kernel_rfl) ⟨OU,VA,tr⟩)
theorem WB{r:World}{d:Zb}(hv:fc d r){D:List Value}{n:Int}(L:ee.rel (Zd .u64) d D n){z:(List UInt8)}(H:G7 n=some z):fM Tryz.prog 109 #[(Zd .u64).val D] r d (λy v'=>∃E,y=iZ.val E∧iZ.rel v' E z):=by
 obtain⟨rfl,M⟩:=L;refine CM (K:=20) (args:=[.int .u64 n]) hv Tryz.func109 rfl rfl zl λf S=>?_;unfold G7 at H;refine sr (mw S rfl λf S=>oe (sr (Q8 S wn rfl zl (cs:=[.int .u8 0,.int .u8 0,.int .u8 0,.int .u8 0,.int .u8 0,.int .u8 0,.int .u8 0,.int .u8 0,.int .u8 0,.int .u8 0,.int .u8 0,.int .u8 0,.int .u8 0,.int .u8 0,.int .u8 0,.int .u8 0,.int .u8 0,.int .u8 0,.int .u8 0,.int .u8 0]) (Nu sI) λs f w S=>?_)));have S:=S.boxOwn 1 20 rfl zl;have N:ee.rels (Zd .u8) d [.int .u8 0,.int .u8 0,.int .u8 0,.int .u8 0,.int .u8 0,.int .u8 0,.int .u8 0,.int .u8 0,.int .u8 0,.int .u8 0,.int .u8 0,.int .u8 0,.int .u8 0,.int .u8 0,.int .u8 0,.int .u8 0,.int .u8 0,.int .u8 0,.int .u8 0,.int .u8 0] (List.replicate 20 (0:Int)):=ya (show ee.rel (Zd .u8) _ [Value.int .u8 0] 0 from⟨rfl,by decide⟩) 20;refine oe (sr (mw S rfl λf S=>oe (ZH λ_ O=>?_)));obtain⟨P,Q,R⟩:=f9 H;refine nt (λf w=>∃l m B t,(l,m)=P∧Zb.le d t∧St 20 r d [(3,.pointer (some ⟨s,0,none⟩)),(4,.int .i64 m)] [dY.own (some s) 244 1 20 20 B] t f w∧ee.rels (Zd .u8) t B l∧20=l.length∧eJ .i64 m) (λ_ T=>?_) ?_
 ·have H:=Q;refine wp_block ?_;obtain⟨ak,U,V⟩:=f9 H;refine qN U (λW f w=>∃h o u b k,(h,o,u)=W∧Zb.le d k∧St 20 r d [(0,.int .u64 o),(3,.pointer (some ⟨s,0,none⟩)),(4,.int .i64 u)] [dY.own (some s) 244 1 20 20 b] k f w∧ee.rels (Zd .u8) k b h∧20=h.length∧eJ .u64 o∧eJ .i64 u) ⟨_,_,_,[.int .u8 0,.int .u8 0,.int .u8 0,.int .u8 0,.int .u8 0,.int .u8 0,.int .u8 0,.int .u8 0,.int .u8 0,.int .u8 0,.int .u8 0,.int .u8 0,.int .u8 0,.int .u8 0,.int .u8 0,.int .u8 0,.int .u8 0,.int .u8 0,.int .u8 0,.int .u8 0],_,rfl,(gS _),(S.fr' rfl),N,(List.length_replicate (n:=20) (a:=(0:Int))).symm,M,(by decide)⟩ ?_;rintro _ f w st ⟨h,o,u,b,k,a,F,S,C,v,al,X⟩ H am Y Z;subst a;refine ZH λ_ i=>sr (mv S rfl λf S=>ov S rfl (ZD S rfl rfl qW) λf S=>oe ?_);rcases jy (decide ((0:Int)<o)) with p |p
  ·have H:=jH H p;refine iU S rfl p (wp_skip (Zp (i _ _ (ZH λ_ j=>wp_block (ZH λ_ K=>bO H λe G H=>ZX (mv S rfl λf S=>ov S rfl (ZD S rfl rfl (ko G)) λf S=>mw S rfl λf S=>ZS (Zp (K _ _ (bO H λg ad H=>?_)))))))));refine bO H λan q H=>ZX (mv S rfl λf S=>mv S rfl λf S=>ov S rfl (ZD S rfl rfl (TN ad)) λf S=>ov S rfl (ZD S rfl rfl JU) λf S=>ov S rfl (oU S rfl (Yj _)) λf S=>?_);have I:=hO C (Zr q).2.1;obtain⟨ao,ae⟩:∃c,(List.take (Zd .u8).n (List.drop ((e).toNat*(Zd .u8).n) b))=c:=⟨_,rfl⟩;rw[ae]at I;obtain⟨rfl,ap⟩:=I;refine ov S rfl (SX S Q5 rfl rfl (Zr q).1 (i5 v (Zr q).2.2.1)) λf S=>?_;obtain⟨w,af,S⟩:=pK S EJ (off:=0+(e).toNat*1) (z:=.int .u8 (IntKind.u8.wrap (IntKind.u64.wrap ((48:Int)+g)))) (cs:=[.int .u8 (IntKind.u8.wrap (IntKind.u64.wrap ((48:Int)+g)))]) (nw rfl) rfl (i:=0) rfl (DV S (j:=0) rfl (n7 v (Zr q).2.2.2)) (by first |rfl |simp[plain]);have ag:ee.rels (Zd .u8) k (List.take (0+(e).toNat*1) b++[Value.int IntKind.u8 (IntKind.u8.wrap (IntKind.u64.wrap ((48:Int)+g)))]++List.drop (0+(e).toNat*1+1) b) (h.set (e).toNat (IntKind.u8.wrap (IntKind.u64.wrap ((48:Int)+g)))):=yl C (Zr q).2.2.2 (show ee.rel (Zd .u8) k [.int .u8 (IntKind.u8.wrap (IntKind.u64.wrap ((48:Int)+g)))] _ from(Z7 (kI _ _))) rfl rfl
   have ah:20=(h.set (e).toNat (IntKind.u8.wrap (IntKind.u64.wrap ((48:Int)+g)))).length:=oh v;refine H8 wn rfl (af rfl rfl) (ZS (mX (Zp (j _ _ (bO H λaq J H=>ZX (mv S rfl λf S=>ov S rfl (ZD S rfl rfl (SJ J)) λf S=>mw S rfl λf S=>ZS ?_))))));obtain rfl:=ZO H;refine Y _ rfl _ _ ⟨_,_,_,(List.take (0+(e).toNat*1) b++[Value.int IntKind.u8 (IntKind.u8.wrap (IntKind.u64.wrap ((48:Int)+g)))]++List.drop (0+(e).toNat*1+1) b),_,rfl,F,(S.fr' rfl),ag,ah,(QZ J),(jW G).2⟩
  have H:=jF H p;refine gn S rfl p (wp_exit (iu ?_));obtain rfl:=ZO H;have a:=Z _ rfl;subst a;have H:=V;refine iu (m8 ?_);obtain rfl:=ZO H;refine Zp (T _ _ ⟨_,_,b,_,rfl,(fx (gS _) F),(S.fr' rfl),C,v,X⟩)
 rintro f w ⟨l,m,B,t,a,ar,S,ai,x,au⟩;subst a;have H:=R;refine Zp (O _ _ (ZH λ_ aj=>bO H λav A H=>ZX (mv S rfl λf S=>ov S rfl (Wl S Q5 rfl rfl (xi A).1 (by have:=(xi A).2.1;have:=x;omega)) λf S=>ov S rfl (YH S (j:=0) rfl ai x (by have:=(xi A).2.1;have:=(xi A).1;have:=x;omega) rfl Tryz.underlying197 Tryz.underlying5 Tryz.underlying9) λf S=>mw S rfl λf S=>ZS (Zp (aj _ _ (wp_ret ?_))))));obtain rfl:=ZO H;refine yp S (kl rfl (gO S rfl)) ⟨[.string (Zt ((oQ (l.drop ((m).toNat)))))],rfl,(D4 (by have:=x;simp only[ZnE,List.length_drop];unfold maxLen;omega))⟩
theorem XY{b:World}{a:Zb}(g:fc a b){c:List Value}{n:Int}(d:ee.rel (Zd .u64) a c n){z:(List UInt8)}(f:B8 n=some z):
  fM Tryz.prog 109 #[(Zd .u64).val c] b a (λy h=>∃e,y=iZ.val e∧iZ.rel h e z) :=
 WB g d (ZiC d.2 f)
end
end Go.Eng
namespace Go.Proofs
open Go.Shelf
def Tryz.lays105_ren:Go.Shelf.Ren:=⟨fun |105=>110 |212=>146 |99=>161 |165=>162 |166=>111 |170=>163 |169=>112 |263=>188 |264=>165 |206=>175 |240=>164 |241=>191 |276=>192 |277=>199 |n=>n,fun |9=>9 |3=>3 |4=>4 |20=>20 |0=>0 |46=>231 |109=>232 |5=>5 |72=>199 |76=>202 |51=>223 |146=>266 |53=>191 |148=>241 |70=>196 |37=>197 |75=>201 |127=>247 |164=>270 |80=>90 |n=>n,fun |n=>n⟩
theorem Tryz.lays105:Go.Proofs.Lays.n105 Tryz.prog Tryz.lays105_ren:={
 mixed:=by kernel_rfl
 f99:=Tryz.func161.trans (congrArg some (by kernel_rfl))
 f105:=Tryz.func110.trans (congrArg some (by kernel_rfl))
 f165:=Tryz.func162.trans (congrArg some (by kernel_rfl))
 f166:=Tryz.func111.trans (congrArg some (by kernel_rfl))
 f169:=Tryz.func112.trans (congrArg some (by kernel_rfl))
 f170:=Tryz.func163.trans (congrArg some (by kernel_rfl))
 f206:=Tryz.func175.trans (congrArg some (by kernel_rfl))
 f212:=Tryz.func146.trans (congrArg some (by kernel_rfl))
 f240:=Tryz.func164.trans (congrArg some (by kernel_rfl))
 f241:=Tryz.func191.trans (congrArg some (by kernel_rfl))
 f263:=Tryz.func188.trans (congrArg some (by kernel_rfl))
 f264:=Tryz.func165.trans (congrArg some (by kernel_rfl))
 f276:=Tryz.func192.trans (congrArg some (by kernel_rfl))
 f277:=Tryz.func199.trans (congrArg some (by kernel_rfl))
 t0:=Tryz.underlying0
 a0:=Tryz.isAgg0
 z0:=Tryz.sizeOf0
 v0:=Tryz.zeroValue0
 t3:=Tryz.underlying3
 a3:=Tryz.isAgg3
 z3:=Tryz.sizeOf3
 v3:=Tryz.zeroValue3
 t4:=Tryz.underlying4
 a4:=Tryz.isAgg4
 z4:=Tryz.sizeOf4
 v4:=Tryz.zeroValue4
 t5:=Tryz.underlying5
 a5:=Tryz.isAgg5
 z5:=Tryz.sizeOf5
 v5:=Tryz.zeroValue5
 t9:=Tryz.underlying9
 a9:=Tryz.isAgg9
 z9:=Tryz.sizeOf9
 v9:=Tryz.zeroValue9
 t20:=Tryz.underlying20
 a20:=Tryz.isAgg20
 z20:=Tryz.sizeOf20
 v20:=Tryz.zeroValue20
 t37:=Tryz.underlying197
 a37:=Tryz.isAgg197
 z37:=Tryz.sizeOf197
 v37:=Tryz.zeroValue197
 t46:=Tryz.underlying231
 a46:=Tryz.isAgg231
 z46:=Tryz.sizeOf231
 v46:=Tryz.zeroValue231
 t51:=Tryz.underlying223
 a51:=Tryz.isAgg223
 z51:=Tryz.sizeOf223
 v51:=Tryz.zeroValue223
 t53:=Tryz.underlying191
 a53:=Tryz.isAgg191
 z53:=Tryz.sizeOf191
 v53:=Tryz.zeroValue191
 t70:=Tryz.underlying196
 a70:=Tryz.isAgg196
 z70:=Tryz.sizeOf196
 v70:=Tryz.zeroValue196
 t72:=Tryz.underlying199
 a72:=Tryz.isAgg199
 z72:=Tryz.sizeOf199
 v72:=Tryz.zeroValue199
 t75:=Tryz.underlying201
 a75:=Tryz.isAgg201
 z75:=Tryz.sizeOf201
 v75:=Tryz.zeroValue201
 t76:=Tryz.underlying202
 a76:=Tryz.isAgg202
 z76:=Tryz.sizeOf202
 v76:=Tryz.zeroValue202
 t109:=Tryz.underlying232
 a109:=Tryz.isAgg232
 z109:=Tryz.sizeOf232
 v109:=Tryz.zeroValue232
 t127:=Tryz.underlying247
 a127:=Tryz.isAgg247
 z127:=Tryz.sizeOf247
 v127:=Tryz.zeroValue247
 t146:=Tryz.underlying266
 a146:=Tryz.isAgg266
 z146:=Tryz.sizeOf266
 v146:=Tryz.zeroValue266
 t148:=Tryz.underlying241
 a148:=Tryz.isAgg241
 z148:=Tryz.sizeOf241
 v148:=Tryz.zeroValue241
 t164:=Tryz.underlying270
 a164:=Tryz.isAgg270
 z164:=Tryz.sizeOf270
 v164:=Tryz.zeroValue270 }
theorem Tryz.Builder_Extra_105:Builder.Extra Tryz.prog Tryz.lays105_ren:={
 sizeBuilder:=by kernel_rfl
 liesBuilder:=by kernel_rfl
 t5:=Tryz.underlying5
 a5:=Tryz.isAgg5
 z5:=Tryz.sizeOf5
 v5:=Tryz.zeroValue5
 infoByte:=by kernel_rfl
 cellsByte:=by kernel_rfl
 sizeByte:=by kernel_rfl
 neB5:=by decide }
end Go.Proofs
namespace Go.Eng
open Go.RowKit
section
open Go.Proofs Go.Shelf
theorem AF:TL Tryz.prog 111 199 5:=λB b a s w h d c=>Any.Builder_WriteString { Tryz.lays105 with } Tryz.Builder_Extra_105 B b a s w h d c
theorem E5:va Tryz.prog 112 199 5:=λB b l w h a=>Any.Builder_String_any { Tryz.lays105 with } Tryz.Builder_Extra_105 B b l w h a
end
section
open Go.Proofs
theorem WW(l:List UInt8)(c:Nat):Lib.repeatL l c=(List.replicate c l).flatten:=by
 induction c with
 |zero=>rfl
 |succ c a=>simp[Lib.repeatL,List.replicate_succ,a]
theorem ZxE{b:World}{a:Zb}(q:fc a b){f:List Value}{s:List UInt8}(k:ee.rel iZ a f s){g:List Value}{c:Int}(l:ee.rel (Zd .i64) a g c){z:List UInt8}(n:AZ s c=some z):
  fM Tryz.prog 110 #[iZ.val f,(Zd .i64).val g] b a (λy r=>∃h,y=iZ.val h∧iZ.rel r h z):=by
 obtain⟨rfl,hs⟩:=k;obtain⟨rfl,o⟩:=l;unfold AZ at n;split at n
 ·rename_i p
  cases n
  obtain⟨C,rfl⟩:=oZ p.1;have o:=gT.1 o;have d:=p.2;rw[tN]at d;have:=Any.strings_Repeat Tryz.lays105 Tryz.Builder_Extra_105 (Zt s) C b (by omega) (by rw[my];exact d);refine Calls.mono this λe t ⟨i,j⟩=>?_;have m:(⟨(Lib.repeatL (Zt s).data.toList C).toArray⟩:ByteArray)=Zt (List.replicate C s).flatten:=by
   rw[WW];rfl
  rw[m]at i;exact⟨_,a,i,j,eL.ext q j,[.string (Zt (List.replicate C s).flatten)],rfl,rfl,by simp only[tN];rw[List.length_flatten];simp;unfold maxLen;rw[Nat.mul_comm]at d;omega⟩
 ·cases n
theorem AC{e:World}{c:Zb}(hv:fc c e){c0:List Value}{a:Nat}(p0:ee.rel Zx c c0 a){z:(List UInt8)}(H:DY a=some z):fM Tryz.prog 55 #[Zx.val c0] e c (λy v'=>∃r0,y=iZ.val r0∧iZ.rel v' r0 z):=by
 obtain⟨q1,n2,k3,rfl⟩:=ig p0;refine CM (K:=49) (args:=[.slice q1 n2 k3]) hv Tryz.func55 rfl rfl zl λf S=>?_;unfold DY at H;refine sr (mw S rfl λf S=>oe (sr ?_));have S:=S.nilLoc 9 1;refine ov S rfl (mg S (y:=.slice (eF none) 0 0) rfl) λf S=>oe (ZH λ_ ar=>?_);obtain⟨au,av,aw⟩:=f9 H;refine nt (λf w=>∃o F s G U I,o=au∧Zb.le c I∧St 49 e c [(3,.slice (eF F) s G)] [dY.own F 9 1 s G U] I f w∧ee.rels iZ I U o∧s=o.length) (λ_ ax=>?_) ?_
 ·have H:=av;refine wp_block ?_;obtain⟨bs,ay,az⟩:=f9 H;refine qN ay (λaA f w=>∃J g L M N p h q k t,(J,g)=aA∧Zb.le c t∧St 49 e c [(0,.slice L M N),(3,.slice (eF p) h q)] [dY.own p 9 1 h q k] t f w∧ee.rel Zx t [.slice L M N] J∧ee.rels iZ t k g∧h=g.length) ⟨_,_,_,_,_,none,0,0,[],_,rfl,(gS _),(S.fr' rfl),p0,qC,rfl⟩ ?_;rintro _ f w st ⟨J,g,L,M,N,p,h,q,k,t,i,n,S,x,d,A⟩ H bt aB aC;subst i;refine ZH λ_ aD=>sr (mv S rfl λf S=>ov S rfl (kF S (iX x) rfl rfl fX) λf S=>ov S rfl (ZD S rfl rfl qW) λf S=>oe ?_);rcases jy (decide ((0:Int)<(((Zc 18446744073709551616 J)).length:Int))) with u |u
  ·have H:=jH H u;refine iU S rfl u (wp_skip (Zp (aD _ _ (wp_block (ZH λ_ aE=>bO H λO aF H=>ZX (mv S rfl λf S=>ji S rfl (gz S [.slice L M N,.int .u64 10000000000000000000] Ot rfl rfl) (Qt S.vin x (show ee.rel (Zd .u64) _ [.int .u64 10000000000000000000] (10000000000000000000:Int) from(Z7 (by decide))) aF) ?_))))));rintro _ bu f w K ⟨bv,bw,rfl,m,aG⟩ S;have d:=ZQ K d;obtain⟨aH,aI,aJ,rfl⟩:=ig m;obtain⟨rfl,aK⟩:=aG;refine mv S rfl λf S=>ov S rfl (gF S rfl rfl) λf S=>ov S rfl (gF S rfl rfl) λf S=>mw S rfl λf S=>mw S rfl λf S=>ZS (Zp (aE _ _ (ZH λ_ aL=>bO H λbx aM H=>ZX (mv S rfl λf S=>ji S rfl (gz S [.int .u64 (O.2)] so rfl rfl) (XY S.vin (show ee.rel (Zd .u64) _ [.int .u64 (O.2)] O.2 from(Z7 aK)) aM) ?_))));rintro _ aN f w V ⟨bz,rfl,aO⟩ S;have d:=ZQ V d;obtain⟨rfl,aP⟩:=aO;refine mw S rfl λf S=>ZS (Zp (aL _ _ (ZH λ_ aQ=>sr (mv S rfl λf S=>?_))));have m:=gY V m;refine ov S rfl (kF S (iX m) rfl rfl fX) λf S=>ov S rfl (ZD S rfl rfl qW) λf S=>oe ?_;obtain⟨aR,aS,aT⟩:=f9 H;refine nt (λf w=>∃b P,b=aR∧Zb.le aN P∧St 49 e c [(3,.slice (eF p) h q),(4,.slice aH aI aJ),(6,.string (Zt b))] [dY.own p 9 1 h q k] P f w∧b.length≤maxLen) (λ_ ag=>?_) ?_
   ·have H:=aS;rcases jy (decide ((0:Int)<(((Zc 18446744073709551616 O.1)).length:Int))) with v |v
    ·have H:=jH H v;refine iU S rfl v (bO H λW ah H=>bO H λbA aU H=>bO H λbB ai H=>ZX (mv S rfl λf S=>ov S rfl (SK S rfl rfl Tryz.underlying9) λf S=>ov S rfl (ZD S rfl rfl (ko ah)) λf S=>ji S rfl (gz S [.string (Zt (([48]:List UInt8))),.int .i64 W] ss rfl rfl) (ZxE S.vin (show ee.rel iZ _ [.string (Zt (([48]:List UInt8)))] (([48]:List UInt8)) from(D4 zl)) (show ee.rel (Zd .i64) _ [.int .i64 W] W from(Z7 (jW ah).2)) aU) ?_));rintro _ bC f w aj ⟨bD,rfl,aV⟩ S;have d:=ZQ aj d;obtain⟨rfl,bE⟩:=aV;refine mv S rfl λf S=>ov S rfl (It S rfl rfl (Rs ai)) λf S=>mw S rfl λf S=>ZS ?_;obtain rfl:=ZO H;refine Zp (ag _ _ ⟨_,_,rfl,(fx (gS _) aj),(S.fr' rfl),(HC ai)⟩)
    have H:=jF H v;refine gn S rfl v (wp_skip ?_);obtain rfl:=ZO H;refine Zp (ag _ _ ⟨_,_,rfl,(gS _),(S.fr' rfl),aP⟩)
   rintro f w ⟨b,P,i,X,S,aW⟩;subst i;have H:=aT;have d:=ZQ X d;refine Zp (aQ _ _ (bO H λbG aX H=>ZX (mv S rfl λf S=>mv S rfl λf S=>?_)));obtain⟨bH,w,aY,S⟩:=BC S (n:=1) (cs:=[.string (Zt b)]) (vals:=[(0,.string (Zt b))]) (sz:=1) rfl (by decide) (Ph SU (x:=.string (Zt b)) (cs:=[.string (Zt b)]) rfl rfl (by decide));have Y:ee.rels iZ P [.string (Zt b)] [b]:=(PK (D4 aW) qC);refine jN wn rfl zl (aY rfl) S λf S=>?_;have aZ:=S;obtain⟨ak,al,w,a0,S⟩:=F9 (ty:=190) SU S (i:=1) (n':=(g++[b]).length) rfl (qK Y rfl) (wk S (j:=0) rfl) (xD Y) (yw A rfl) (qU aX) (by decide);have a1:=ku d Y;refine jN wn rfl zl (pE aZ rfl rfl a0) S λf S=>mv S rfl λf S=>mw S rfl λf S=>mw S rfl λf S=>ZS (mX ?_);obtain rfl:=ZO H;have S:=S.reorder (ℓ':=[dY.own ak 9 1 ((g++[b]).length) al ((k++[.string (Zt b)]))]) [1] rfl (by decide);have m:=gY X m;refine aB _ rfl _ _ ⟨_,_,_,_,_,ak,(g++[b]).length,al,(k++[.string (Zt b)]),_,rfl,(fx (fx (fx n K) V) X),(S.fr' rfl),m,a1,rfl⟩
  have H:=jF H u;refine gn S rfl u (wp_exit (iu ?_));obtain rfl:=ZO H;have i:=aC _ rfl;subst i;have H:=az;refine iu (m8 ?_);obtain rfl:=ZO H;refine Zp (ax _ _ ⟨_,p,h,q,k,_,rfl,(fx (gS _) n),(S.fr' rfl),d,A⟩)
 rintro f w ⟨o,F,s,G,U,I,i,bI,S,a2,am⟩;subst i;have H:=aw;refine Zp (ar _ _ (ZH λ_ a3=>sr (mv S rfl λf S=>ov S rfl (kF S am rfl rfl Lv) λf S=>ov S rfl (ZD S rfl rfl xw) λf S=>oe ?_)));rcases jy (((o.length:Int))==(0:Int)) with B |B
 ·have H:=jH H B;refine iU S rfl B (sr (mw S rfl λf S=>oe (wp_ret (Bx ?_))));obtain rfl:=ZO H;refine yp S (kl rfl (gO S rfl)) ⟨[.string (Zt (([48]:List UInt8)))],rfl,(D4 zl)⟩
 have H:=jF H B;refine gn S rfl B (wp_skip (Zp (a3 _ _ (sr ?_))));obtain⟨an,bJ,S,C⟩:=S.pubSlice (i:=0) (A:=iZ) (l:=o) (ℓ':=[]) rfl rfl am a2 rfl;refine th 5 S wn rfl zl (Nu sH) λr f w S a4=>oe (ZH λ_ a5=>ZH λ_ a6=>bO H λbK ao H=>ZX (mv S rfl λf S=>ov S rfl (kF S (iX C) rfl rfl Lv) λf S=>ov S rfl (ZD S rfl rfl (ko ao)) λf S=>mw S rfl λf S=>ZS (Zp (a6 _ _ ?_))));obtain⟨a7,a8,a9⟩:=f9 H;refine nt (λf w=>∃Q R,Q=a7∧Zb.le an R∧St 49 e c [(7,.pointer (some ⟨r,0,none⟩))] [] R f w∧AJ 199 5 r e R Q w) (λ_ ba=>?_) ?_
 ·have H:=a8;refine wp_block ?_;obtain⟨bM,bb,bc⟩:=f9 H;refine qN bb (λbd f w=>∃Z D T,(Z,D)=bd∧Zb.le an T∧St 49 e c [(3,.slice (eF F) s G),(7,.pointer (some ⟨r,0,none⟩)),(8,.int .i64 D)] [] T f w∧AJ 199 5 r e T Z w∧eJ .i64 D) ⟨_,_,_,rfl,(gS _),(S.fr' rfl),a4,(jW ao).2⟩ ?_;rintro _ f w st ⟨Z,D,T,i,j,S,ap,bP⟩ H bS be bf;subst i;refine ZH λ_ bg=>sr (mv S rfl λf S=>ov S rfl (ZD S rfl rfl Ms) λf S=>oe ?_);rcases jy (decide ((0:Int)≤D)) with E |E
  ·have H:=jH H E;refine iU S rfl E (wp_skip (Zp (bg _ _ (ZH λ_ bh=>wp_block (bO H λbi l H=>bO H λbT bj H=>ZX (mv S rfl λf S=>mv S rfl λf S=>?_))))));have C:=gY j C;obtain⟨_,bU,bV,bW,bk,bm,bn⟩:=ly C (Zr l).2.1;obtain⟨rfl,rfl⟩:=W3 bk;obtain⟨rfl,bX⟩:=bn;refine ov S rfl (gB S rfl rfl Lv (Zr l).1 (i5 (iX C) (Zr l).2.2.1)) λf S=>ov S rfl (jb S rfl EK (S.view bm)) λf S=>XZ AF ap (W1 bj) S wn rfl zl (gz S [.pointer (some ⟨r,0,none⟩),.string (Zt bi)] su rfl rfl) λf w S bo=>ZS (mX (Zp (bh _ _ (bO H λbY aq H=>ZX (mv S rfl λf S=>ov S rfl (ZD S rfl rfl (ko aq)) λf S=>mw S rfl λf S=>ZS ?_)))));obtain rfl:=ZO H;refine be _ rfl _ _ ⟨_,_,_,rfl,j,(S.fr' rfl),bo,(jW aq).2⟩
  have H:=jF H E;refine gn S rfl E (wp_exit (iu ?_));obtain rfl:=ZO H;have i:=bf _ rfl;subst i;have H:=bc;refine iu (m8 ?_);obtain rfl:=ZO H;refine Zp (ba _ _ ⟨_,_,rfl,(fx (gS _) j),(S.fr' rfl),ap⟩)
 rintro f w ⟨Q,R,i,bZ,S,bp⟩;subst i;have H:=a9;refine Zp (a5 _ _ (ZH λ_ bq=>bO H λb0 br H=>ZX (ti E5 bp S wn rfl zl (gz S [.pointer (some ⟨r,0,none⟩)] sA rfl rfl) λf w S=>mw S rfl λf S=>ZS (Zp (bq _ _ (wp_ret ?_))))));obtain rfl:=ZO H;refine yp S (kl rfl (gO S rfl)) ⟨[.string (Zt Q)],rfl,(D4 (HC br))⟩
theorem AA{c:World}{b:Zb}(h:fc b c){d:List Value}{a:Nat}(f:ee.rel Zx b d a){z:(List UInt8)}(g:xm a=some z):
  fM Tryz.prog 55 #[Zx.val d] c b (λy i=>∃e,y=iZ.val e∧iZ.rel i e z) :=
 AC h f (Xa g)
noncomputable def KE:FuncId×eu:=(55,⟨[.leaf 0],[.str],λp=>xm p⟩)
theorem AB:mq Tryz.prog KE.1 KE.2:=λw v k x z d c f=>by
 obtain⟨i,a,g⟩:=c;subst a
 exact .inl ⟨λ_ _=>by kernel_rfl,fM.mono (AA d g f) λy j _ ⟨h,e,b⟩=>⟨h,e,b⟩⟩
noncomputable def Gg:FuncId×eu:=(19,⟨[.leaf 3],[.str],λp=>yn p⟩)
theorem Mj:KQ Gg:=Zi (ZC (C:=eD [KE] [] [] []) (.n (.n (.two (.n (.j [1] [] [.s 3 (.dat .str)] .no)) (.f (.n (.j [] [] [.s 3 (.dat .str)] .no)))))) Tryz.func19 [] (λv c x z b a=>.trans (by kernel_rfl) (We a)) ⟨AB,tr⟩)
noncomputable def Qb(x:Rat):Option ((List UInt8)) :=
 dU (AX x.num.natAbs) λb=>
 dU (dV (decide (x.num<0))
 (dU (lh x) λd=>
 some (!(d)))
 (some false))
 (λ(e:Bool)=>
 (dU (dV (e)
 (dU (jg ((([45]:List UInt8))++b)) λj=>
 some (((([45]:List UInt8))++b)))
 (some b))
 (λ(a:(List UInt8))=>
 (dU (lg x) λf=>
 dU (gx ([(1:Int)])) λg=>
 dU (j6 f g) λh=>
 dU (dV (decide ((0:Int)<h))
 (dU (jg (a++(([47]:List UInt8)))) λk=>
 dU (AX x.den) λc=>
 dU (jg (((a++(([47]:List UInt8))))++c)) λl=>
 some ((((a++(([47]:List UInt8))))++c)))
 (some a))
 (λ(i:(List UInt8))=>
 (some i))))))
noncomputable def Iu:FuncId×eu:=(87,⟨[.leaf 4],[.bool],λp=>lh p⟩)
theorem JB:KQ Iu:=Zi (ZC (C:=ft [(49,1),(51,4)] []) .no Tryz.func87 [] (λv c x z b a=>.trans (by kernel_rfl) (WI a)))
noncomputable def CK:FuncId×eu:=(185,⟨[.leaf 4],[.leaf 1],λp=>lg p⟩)
theorem G1:KQ CK:=Zi (ZC (C:=ft [(49,1),(51,4)] []) .no Tryz.func185 [] (λv c x z b a=>.trans (by kernel_rfl) (VL a)))
noncomputable def RL:FuncId×eu:=(190,⟨[.leaf 1],[.str],λp=>AX p⟩)
theorem ZtC:KQ RL:=Zi (ZC (C:=ft [(49,1),(51,4)] [LD]) (.n (.n (.f (.j [] [] [.s 3 (.dat .str)] (.f (.l [] [] [.s 0 (.dat (.leaf 1)),.s 3 (.dat .str)] 0 [] [] [.s 3 (.dat .str)] (.f (.n (.f (.n (.f (.n (.j [4] [] [.s 3 (.dat .str)] (.f (.l [4] [] [.s 3 (.dat .str),.s 5 (.dat (.int .u32)),.s 6 (.dat (.int .i64))] 2 [4] [] [.s 3 (.dat .str)] (.f (.f (.f (.j [3,4,5,6] [] [.s 25 (.dat .bool)] .no))))))))))))))))))) Tryz.func190 [] (λv c x z b a=>.trans (by kernel_rfl) (ZpA a)) ⟨Q3,tr⟩)
theorem Xx{x:Rat}{z:List UInt8}(h:Hc x=some z):Qb x=some z:=by
 unfold Hc at h;split at h
 ·rename_i g;obtain⟨d,f⟩:=g
  cases h
  unfold Qb AX;have j:=FK (n:=x.num.natAbs) (by omega);have k:=FK (n:=x.den) (by omega);rw[iP (jo d),Za];have b:dV (decide (x.num<0)) (dU (lh x) λi=>some (!(i))) (some false)=some (decide (x.num<0)):=by
   unfold lh;by_cases h:x.num<0
   ·have:x≠0:=λe=>by subst e;simp at h
    rw[eo h,Ze,Za,eg this];rfl
   ·rw[eg h,Zf]
  rw[b,Za];have c:dV (decide (x.num<0)) (dU (jg ([45]++ZW x.num.natAbs)) λm=>some (([45]:List UInt8)++ZW x.num.natAbs)) (some (ZW x.num.natAbs))=some ((if x.num<0 then[45] else[])++ZW x.num.natAbs):=by
   by_cases h:x.num<0
   ·rw[eo h,Ze,qJ (by simp;omega),Za,iP h]
   ·rw[eg h,Zf,iN h];rfl
  rw[c,Za];unfold ou lg j6;have l:((if x.num<0 then[45] else[])++ZW x.num.natAbs:List UInt8).length≤4398046511105:=by
   rw[lA];split <;> simp <;> omega
  generalize((if x.num<0 then[45] else[])++ZW x.num.natAbs:List UInt8)=s at *;rw[Za,J1,Za,Za,Ue];by_cases a:x.den=1
  ·rw[a];simp[dV,dU]
  ·have:=x.den_nz;rw[eo (by omega),Ze,qJ (by simp;omega),Za,iP (jo f),Za,qJ (by simp;omega),Za,Za,iN a];simp
 ·cases h
noncomputable def UR:FuncId×eu:=(156,⟨[.leaf 4],[.str],λp=>Hc p⟩)
theorem ue:KQ UR:=Zi (ZC (C:=ft [(49,1),(51,4)] [Iu,CG,CK,RL]) (.n (.n (.two (.two (.j [1,3] [] [.s 13 (.dat .bool)] .no) (.j [1] [] [.s 3 (.dat .str)] .no)) (.f (.n (.j [] [] [.s 3 (.dat .str)] .no)))))) Tryz.func156 [] (λv c x z b a=>.trans (by kernel_rfl) (Xx a)) ⟨JB,Gl,G1,ZtC,tr⟩)
noncomputable def wE:FuncId×eu:=(106,⟨[.leaf 3,.leaf 4],[.bool],λp=>wD p.1 p.2⟩)
theorem EG:KQ wE:=Zi (Zm (C:=eD [Gg,UR] [] [] []) .no Tryz.func106 [] (λ_=>by kernel_rfl) ⟨Mj,ue,tr⟩)
noncomputable def Dt:FuncId×eu:=(31,⟨[.pair (.leaf 4) (.pair (.leaf 4) (.pair (.leaf 4) (.leaf 4)))],[.bool],λp=>vu p⟩)
theorem Iy:KQ Dt:=Zi (Zm (C:=eD [Iu] [] [] []) (.n (.f (.j [] [] [.s 2 (.dat .bool)] .no))) Tryz.func31 [] (λ_=>by kernel_rfl) ⟨JB,tr⟩)
noncomputable def Uh:FuncId×eu:=(157,⟨[.pair (.pair (.leaf 4) (.pair (.leaf 4) (.pair (.leaf 4) (.leaf 4)))) (.pair (.leaf 4) (.pair (.leaf 4) (.pair (.leaf 4) (.leaf 4))))],[.bool],λp=>PC p⟩)
theorem uQ:KQ Uh:=Zi (Zm (C:=eD [Dt] [] [] []) (.n (.f (.j [] [] [.s 2 (.dat .bool)] .no))) Tryz.func157 [] (λ_=>by kernel_rfl) ⟨Iy,tr⟩)
end
end Go.Eng
