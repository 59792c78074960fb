/- Lemmas towards the statement: the engine of the walks, the functions' models, laws and walks, part 4. Conditions: as each states. -/
import Derived.Laws.CopyRow
import Derived.Lib.AppendZerosOnto
import Derived.Lib.Overlaps
import Derived.Scope
import Derived.Test.YtgplcnjanfledaaGreatSuC
set_option linter.all false
set_option maxHeartbeats 4000000
set_option maxRecDepth 100000
namespace Go.Eng
open Go.RowKit
variable {r:Array Edge}{ζ:Array TypeId}{ξ:Cf}{Q:Fr}{L j:Int}{S:IntKind}{f:List (Nat×Value)}{C α:List Value}{g:List dY}{J:Lo}{E c d e i:Nat}{y:Nat→Gh}{x:Nat→Nat}{D q:Nat→Prop}{X:Oper}{K P:Operand}{h:Option (Nat×Bool)}{θ:Option Addr}{k κ:Option Nat}{l:Program}{H μ:Rat}{B:String}{O m:Su}{η:T}{n:Type}{R β:List n}{I Z p:TypeId}{w:Unit→Fr→Lo→Prop}{Y:V}{U:Value}{A:V→Value→Prop}{W o:World}{s:Zb}{t:dW}{M:n→Fr→Lo→Prop}
theorem vJ(h:oz C=some α):C= .slice none 0 0 :: α:=by
 unfold oz at h;split at h
 ·cases h;rfl
 ·cases h
theorem Qn{v:Zb}:∀{t:T} {e r:List Value} {x:t.den},lU t e=some r→xf t=some x→∃f,e=f++r∧t.rep.rel v f x:=by
 intro t
 induction t with
 |int k=>
  intro e r x h c;unfold lU at h
  cases c
  split at h <;> try (cases h;done)
  all_goals (rename_i g;cases g)
  rename_i F n E;split at h
  ·rename_i u
   cases h
   have:=BX u;subst this;exact⟨[_],rfl,rfl,by cases k <;> decide⟩
  ·cases h
 |bool=>
  intro e r x h c;unfold lU at h
  cases c
  split at h <;> try (cases h;done)
  all_goals (rename_i g;cases g)
  cases h
  exact⟨[_],rfl,rfl⟩
 |str=>
  intro e r x h c;unfold lU at h
  cases c
  split at h <;> try (cases h;done)
  all_goals (rename_i g;cases g)
  rename_i s E;split at h
  ·rename_i hs
   cases h
   refine⟨[_],rfl,?_,by show([]:List UInt8).length≤maxLen;exact Nat.zero_le _⟩;have:s=Zt []:=by
    cases s with
    |mk d=>show _=ByteArray.mk _;congr 1;exact Array.ext' hs
   rw[this]
  ·cases h
 |one a C=>
  intro e r x h c;simp only[lU]at h;obtain⟨f,j,l⟩:=C h c;exact⟨f,j,l⟩
 |pair a b A B=>
  intro e r x h c;simp only[lU]at h;simp only[xf]at c;split at c
  ·rename_i G H w y
   cases c
   split at h
   ·rename_i D m;obtain⟨f,j,l⟩:=A m w;obtain⟨o,p,q⟩:=B h y;exact⟨f++o,by rw[j,p,fj],f,o,rfl,l,q⟩
   ·cases h
  ·cases c
 |ptr a _=>intro e r x h c;cases c
 |slice a _=>
  intro e r x h c
  cases c
  simp only[lU]at h;exact⟨[_],vJ h,Db _ _⟩
 |leaf i=>
  intro e r x h c;unfold lU at h;split at h <;> try (cases h;done)
  all_goals (rename_i g;cases g)
  ·cases c;exact⟨[_],vJ h,BR _⟩
  ·cases c;exact⟨[_],vJ h,GZ _⟩
  ·cases c;rw[vJ h];exact⟨[_,_],rfl,BN _⟩
  ·cases c
   split at h
   ·rename_i D m;rw[vJ m,vJ h];exact⟨[_,_,_],rfl,ZqB _⟩
   ·cases h
  ·cases c
   unfold z9 at h;split at h
   ·cases h;exact⟨[_,_,_,_,_,_,_,_,_],rfl,ZfC _⟩
   ·cases h
theorem F6{v:Zb}{z:V}(h:A' η C=some (z,α)):∃c,C=c++α∧RR v y J false z c∧z.ok q∧c.all plain=true:=by
 unfold A' at h;split at h
 ·rename_i x i g f
  cases h
  obtain⟨c,e,d⟩:=Qn (v:=v) f g;exact⟨c,e,d,trivial,ee.flat _ d⟩
 ·cases h
theorem P6{v:Zb}{F:TypeId→List Value→Option (V×List Value)}(i:∀t e z r,F t e=some (z,r)→∃d,e=d++r∧RR v y J false z d∧z.ok q∧d.all plain=true):
  ∀ {g:List Field} {e r:List Value} {z:V},HQ F g e=some (z,r)→∃d,e=d++r∧RR v y J false z d∧z.ok q∧d.all plain=true
 |[],e,r,z,h=>by cases h;exact⟨[],rfl,rfl,trivial,rfl⟩
 |x :: g,e,r,z,h=>by
  simp only[HQ]at h
  split at h
  ·rename_i C A o
   split at h
   ·rename_i c B n
    cases h
    obtain⟨d,j,k,l,m⟩:=i _ _ _ _ o
    obtain⟨f,p,s,u,w⟩:=P6 i n
    exact⟨d++f,by rw[j,p,fj],⟨d,f,rfl,k,s⟩,⟨l,u⟩,by rw[List.all_append,m,w];rfl⟩
   ·cases h
  ·cases h
theorem Ou{v:Zb}{F:List Value→Option (V×List Value)}(g:∀e z r,F e=some (z,r)→∃d,e=d++r∧RR v y J false z d∧z.ok q∧d.all plain=true):∀{k:Nat} {e r:List Value} {c:V},uS F k e=some (c,r)→∃d,e=d++r∧RR v y J false c d∧c.ok q∧d.all plain=true
 |0,e,r,c,h=>by cases h;exact⟨[],rfl,rfl,trivial,rfl⟩
 |k+1,e,r,c,h=>by
  simp only[uS]at h
  split at h
  ·rename_i x u n
   split at h
   ·rename_i t w m
    cases h
    obtain⟨d,rfl,i,j,l⟩:=g _ _ _ n
    obtain⟨f,rfl,o,p,s⟩:=Ou g m
    exact⟨d++f,by simp,⟨d,f,rfl,i,o⟩,⟨j,p⟩,by rw[List.all_append,l,s];rfl⟩
   ·cases h
  ·cases h
theorem Kb{U:Nat→Prop}{l:Lo}{γ:Nat→Gh}{v:Zb}:∀(g:Nat) {t:TypeId} {e r:List Value} {z:V},Cz ξ g t e=some (z,r)→∃d,e=d++r∧RR v γ l false z d∧z.ok U∧d.all plain=true
 |0,_,_,_,_,h=>by cases h
 |g+1,t,e,r,z,h=>by
  simp only[Cz]at h
  split at h
  ·split at h
   ·cases h
    exact⟨[_,_,_],rfl,⟨[_],[_,_],rfl,rfl,[_],[_],rfl,GZ _,[_],[],rfl,GZ _,rfl⟩,⟨trivial,trivial,trivial,trivial⟩,rfl⟩
   ·cases h
  ·exact F6 h
  ·split at h
   ·exact F6 h
   ·exact F6 h
   ·exact F6 h
   ·split at h
    ·rename_i n o
     cases h
     exact⟨[_],vJ o,rfl,trivial,rfl⟩
    ·cases h
   ·split at h
    ·rename_i c n m
     cases h
     obtain⟨d,f,i,j,k⟩:=P6 (λt e z r h=>Kb g h) m
     exact⟨d,f,i,j,k⟩
    ·cases h
   ·split at h
    ·rename_i c n m
     cases h
     obtain⟨d,f,i,j,k⟩:=Ou (λe z r h=>Kb g h) m
     exact⟨d,f,i,j,k⟩
    ·cases h
   ·cases h
theorem KH{U:Nat→Prop}{l:Lo}{γ:Nat→Gh}{v:Zb}{z:V}(h:Iw ξ p=some z):∃y c,(∀w,(zeroValue p).run ξ.P w= .ok y w)∧y.cells=c.toArray∧RR v γ l false z c∧z.ok U∧c.all plain=true:=by
 unfold Iw at h;split at h
 ·rename_i i k;split at h
  ·rename_i y n;split at h
   ·rename_i x m
    cases h
    obtain⟨e,d,f,g,j⟩:=Kb (v:=v) (γ:=γ) (l:=l) (U:=U) FU m;rw[List.append_nil]at d;refine⟨y,e,λw=>by simp[zeroValue,typeInfo,k,n],by rw[←d],f,g,j⟩
   ·cases h
  ·cases h
 ·cases h
theorem Pr{N:Nat}{a:Act}{v:Zb}(j:dZ N A t s q D Q J a o y v g)(F:∀k,q k→D k)(c:D d)(x:¬q d)(H:∀k,X.dst=some k→k<N)(G:RR v y J false Y C)(f:Y.ok q)(hp:C.all plain=true)(R:(execOp a.eval X).run l o= .ok (.value (.pointer (some ⟨o.heap.size,0,none⟩))) (o.alloc (.cells C.toArray p)))(h:Zn d (Ev.new d (.box p Y) (ret X (.ptr d 0))) Q J w):gP l N A t s D X a o w:=by
 obtain⟨L,h⟩:=h;obtain⟨E,n,M⟩:=j.lr;have S:=(j.st.perm M).newLoc (.cells C.toArray p) (e:=.box o.heap.size p C) rfl (heap_alloc_new o _);have I:Le q v y J v (lF y d (.box o.heap.size)) (⟨d,d,.box p Y⟩ :: J):=⟨Zb.le_refl _,λk m f i=>by
  have B:d≠k:=λe=>x (e▸ f);rw[ZU,iN B]at i;refine⟨m,i,?_⟩;obtain⟨K,u⟩:=Zv i;obtain⟨es,P⟩:=vT n K;have:=CY (U:=q) (γ':=lF y d (.box o.heap.size)) P (kP (by rw[u];exact λe=>B e.symm));rw[u]at this;exact this⟩
 have O:=j.new (γ':=lF y d (.box o.heap.size)) (L':=.box p Y) c c x L n S (Zb.le_refl _) (λ_ h=>kP h) ⟨_,C,iR,jl I f G,hp,rfl⟩ (List.Perm.refl _) f;refine gr (x:=.ptr d 0) (O.mono F λ_ h=>h) R H c ⟨[_],⟨_,rfl,qw,λm r=>?_⟩,rfl⟩ c h;rw[ZU,iP rfl]at r;cases r;exact⟨_,iR,rfl⟩
theorem BP{N:Nat}{a:Act}{v:Zb}(F:dZ N A t s q D Q J a o y v g)(n:∀k,q k→D k)(f:D d)(x:¬q d){c:List η.den}{ob:Option Nat}{j:List dY}{E:List (List dY)}(u:∀k,X.dst=some k→k<N)(m:F2 (gQ v y J) J E)(K:j=E.flatten)(I:St N t s [] (.own ob p η.n c.length e C :: j) v a W)(r:η.rep.rels v C c)(H:(execOp a.eval X).run l o= .ok (.value (.slice (eF ob) c.length e)) W)(h:Zn d (Ev.new d (.own p η c false) (ret X (.own d))) Q J w):gP l N A t s D X a o w:=by
 obtain⟨B,h⟩:=h;have G:=F.new (γ':=lF y d (.own ob e)) (L':=.own p η c false) f f x B m I (Zb.le_refl _) (λ_ h=>kP h) ⟨ob,e,C,iR,r,rfl⟩ (by rw[K];exact List.Perm.refl _) trivial;refine gr (x:=.own d) (G.mono n λ_ h=>h) H u f ⟨[_],⟨_,rfl,by cases ob <;> rfl,λL i=>?_⟩,rfl⟩ f h;rw[ZU,iP rfl]at i;cases i;exact⟨_,_,iR,rfl⟩
theorem J7{q:EI}(h:xk l p=some q):eZ l p q.e q.sz q.by_ q.z∧0<q.by_:=by
 unfold xk at h;split at h
 ·rename_i e g;split at h
  ·rename_i i j;split at h
   ·rename_i z k;split at h
    ·rename_i c d f
     cases h
     have c:=eH c;have d:1≤i.size:=lB d;have f:1≤i.bytes:=lB f;exact⟨⟨g,by simp[j,k],by simpa using c,d⟩,f⟩
    ·cases h
   ·cases h
  ·cases h
 ·cases h
theorem PD{k:List η.den→Ev n}(h:Zn c (conv d (.slice η) (.agg Y) k) Q J M):False:=by
 cases d with
 |zero=>exact h
 |succ d=>
  cases Y with
  |cons e Y=>
   cases Y with
   |cons f r=>simp only[conv]at h;exact h
   |nl=>simp only[conv]at h;exact h
   |_=>simp only[conv]at h;exact h
  |_=>simp only[conv]at h;exact h
theorem LO{k:List η.den→Ev n}(h:Zn c (conv d (.slice η) Y k) Q J M):Y.isAgg=false∧∀f,Y ≠ .tup f:=by
 cases Y with
 |agg f=>exact(PD h).elim
 |tup f=>
  cases d with
  |zero=>exact h.elim
  |succ d=>simp only[conv]at h;exact h.elim
 |data t Y=>
  refine⟨?_,λf e=>by cases e⟩
  cases d with
  |zero=>exact h.elim
  |succ d=>
   simp only[conv]at h;split at h
   ·rename_i y g;obtain⟨e,_⟩:=fK g;subst e;rfl
   ·split at h
    ·rfl
    ·rfl
    ·rfl
    ·rfl
    ·rfl
    ·split at h
     ·exact(PD h).elim
     ·exact h.elim
 |_=>exact⟨rfl,λf e=>by cases e⟩
theorem HJ{x:V}(h:x.isAgg=false):x.val [U]=U:=by unfold V.val;rw[h];rfl
theorem Qa{a:Act}{v:Zb}{g:List (List η.den)}(l:RV v y J (.own c) (a.eval K))(k:eC J c=some ⟨c,e,.mat p I η g d⟩){ob:Option Nat}{q:List (Option Nat×Nat)}(o:y c= .mat ob i q):a.eval K= .slice (eF ob) g.length i:=by
 obtain⟨u,n,_,m⟩:=fW l (λ_ h=>by cases h) rfl rfl;obtain⟨s,r,t,f,j⟩:=m _ k;rw[o]at f;cases f;exact((List.cons.inj n).1).trans j
theorem Rz{N:Nat}{a:Act}{v:Zb}(hr:dZ N A t s q D Q J a o y v g)(hU:∀R,q R→D R)(hX:D d)(hn:¬q d){f:EI}(hE:eZ l I f.e f.sz f.by_ f.z)(aj:0<f.by_)(ho:X=⟨k,.call ⟨.builtin .append,#[K,P],#[I,I]⟩,p,B,r,h⟩)(hd:∀R,X.dst=some R→R<N)(av:κ=none→a.eval K= .slice none 0 0)(aw:∀u,κ=some u→RV v y J (.own u) (a.eval K))(hq:RV v y J Y (a.eval P))(c:Zn d (rd X d f κ Y) Q J w):gP l N A t s D X a o w:=by
 unfold rd at c;split at c
 ·rename_i u2;obtain⟨⟨W,b7,L2⟩,a8,c⟩:=c;have aq:W=u2:=(Zv a8).2;subst aq
  cases L2 with
  |mat ay b8 s' i b5=>
   simp only at c;obtain⟨es,E',h1,h2,b2,h3,r2⟩:=hr.del a8;obtain⟨am,ai,F,M,q1,q2,rfl⟩:=h1;have q1:y W= .mat am ai F:=q1;have al:=Qa hq a8 q1;have ak:=oG (xg q2);have hs:=hr.st.perm h3
   cases κ with
   |none=>
    simp only at c;split at c
    ·rename_i x C;have x:=eH x;have C:=eH C;obtain⟨_,ae,c⟩:=c;obtain⟨U,n,j,ab⟩:=hs.pubSlice (i:=0) (A:=oP) (l:=Zq F i) rfl rfl ak.symm (Na KS) rfl;have j:St N t s [] (M++E'.flatten) U a o:=j;obtain⟨σ,O,H,L⟩:=(j.nilLoc f.e 1).ev2 K P;have a4:eZ l I f.e oP.n f.by_ f.z:=by rw[show oP.n=f.sz from C.symm];exact hE
     obtain⟨b',a1,an,w',af,E,ad⟩:=vZ (ty:=p) (A:=oP) a4 O (i:=0) rfl ab (n':=([]++i).length) (by simp) (qU ae) aj;have a6:=Ll ad;subst a6;rw[av rfl]at H;rw[al]at L;have Z:=r2.go n (j.drop (List.sublist_append_right _ _));obtain⟨E3,a5,aa⟩:=Z.lr;have E:=E.bare;have ag:St N t s [] (.own b' ay 1 ([]++i).length a1 (Zq F ([]++i)) :: M++E3.flatten) U a w':=by
      rw[←x];exact E.perm (by simp only[List.set_cons_zero,List.cons_append];exact List.Perm.cons _ (List.Perm.append_left _ aa))
     subst ho;exact Hp Z hU hX hn hd a5 rfl (mn n q2) ag (pE O H L af) c
    ·exact c.elim
   |some u=>
    simp only at c;split at c
    ·exact c.elim
    ·rename_i a9;have a9:u≠W:=λe=>by subst e;simp at a9
     obtain⟨⟨S,fh,L1⟩,a7,c⟩:=c;have ap:S=u:=(Zv a7).2;subst ap
     cases L1 with
     |mat G az b6 m n=>
      simp only at c;split at c
      ·rename_i m2 au x C b3 b4;have x:=eH x;have C:=eH C;have b3:=eH b3;have b4:=eH b4;obtain⟨c3,c4⟩:=fK au
       cases c3;cases c4
       subst x C;obtain⟨_,ae,c⟩:=c;have ao:eC (era J W) S=some ⟨S,fh,.mat G az _ m n⟩:=by
        rw[kG hr.nd,iN (λe=>a9 e.symm)];exact a7
       obtain⟨b0,E1,g1,g2,b1,g3,Z⟩:=r2.del ao;obtain⟨ah,a2,a0,a3,p1,p2,rfl⟩:=g1;have p1:y S= .mat ah a2 a0:=p1;have ax:=Qa (aw S rfl) a7 p1;have ar:=xg p2;have hs:St N t s [] (.own am G 1 i.length ai (Zq F i) :: (.own ah G 1 m.length a2 (Zq a0 m) :: (a3++M++E1.flatten))) v a o:=by
        refine hs.perm ?_;simp only[List.cons_append];refine List.Perm.cons _ ((List.Perm.append_left _ g3).trans ?_);simp only[List.cons_append];refine List.perm_middle.trans (List.Perm.cons _ ?_);rw[←fj];exact List.Perm.append_right _ List.perm_append_comm
       obtain⟨U,n,j,ab⟩:=hs.pubSlice (i:=0) (A:=oP) (l:=Zq F i) rfl rfl ak.symm (Na KS) rfl;have j:St N t s [] (.own ah G 1 m.length a2 (Zq a0 m) :: (a3++M++E1.flatten)) U a o:=j;obtain⟨σ,O,H,L⟩:=j.ev2 K P;have a4:eZ l I G oP.n f.by_ f.z:=by rw[show oP.n=f.sz from b4.symm,←b3];exact hE
       obtain⟨b',a1,an,w',af,E,ad⟩:=vZ (ty:=p) (A:=oP) a4 O (i:=0) rfl ab (n':=(m++i).length) (by simp) (qU ae) aj;have a6:=Ll ad;subst a6;rw[ax]at H;rw[al]at L;have r4:=Z.go n (j.drop ((List.sublist_append_right _ _).trans (List.sublist_cons_self _ _)));obtain⟨E3,a5,aa⟩:=r4.lr;have E:=E.bare;have ag:St N t s [] (.own b' G 1 (m++i).length a1 (Zq (a0++F) (m++i)) :: (a3++M)++E3.flatten) U a w':=by
        rw[NZ ar];exact E.perm (by simp only[List.set_cons_zero,List.cons_append];exact List.Perm.cons _ (List.Perm.append_left _ aa))
       subst ho;exact Hp r4 hU hX hn hd a5 rfl (PI (mn n p2) (mn n q2)) ag (pE O H L af) c
      ·exact c.elim
     |box _ _=>exact c.elim
     |own _ _ _ _=>exact c.elim
     |mid _ _ _ _ _ _=>exact c.elim
  |box _ _=>exact c.elim
  |own _ _ _ _=>exact c.elim
  |mid _ _ _ _ _ _=>exact c.elim
 ·exact c.elim
theorem Wi{N:Nat}{a:Act}{v:Zb}(x:dZ N A t s q D Q J a o y v g)(hU:∀f,q f→D f)(S:D d)(Z:¬q d)(ho:X=⟨k,.load I K,p,B,r,h⟩)(hd:∀f,X.dst=some f→f<N)(hp:RV v y J Y (a.eval K))(c:Zn d (ot l X d I Y) Q J w):gP l N A t s D X a o w:=by
 unfold ot at c;split at c
 ·exact c.elim
 ·rename_i af hq;split at c
  ·rename_i u i hv cv e O a1;obtain⟨⟨kk,st,L⟩,n,c⟩:=c;have W:kk=u:=(Zv n).2;subst W;obtain⟨a9,M,_,H⟩:=fW hp (λ_ e=>by cases e) rfl rfl;have M:a.eval K=a9:=(List.cons.inj M).1;have H:=H _ n
   cases L with
   |mat ag ah s' m ae=>
    simp only at c;split at c
    ·rename_i z E F hz;have E:=eH E;have F:=eH F;subst E F;obtain⟨c3,c4⟩:=fK hz
     cases c3;cases c4
     obtain⟨b,aa,a7,R,rfl,g3,g4⟩:=H;obtain⟨m',c1,G⟩:=g4 rfl;obtain⟨c5,c6⟩:=fK c1
     cases c5;cases c6
     obtain⟨W,es,a2,a4⟩:=x.loc n;obtain⟨ob,a0,a8,ad,C,q2,rfl⟩:=a2;have C:y kk= .mat ob a0 a8:=C;rw[R]at C;cases C;obtain⟨Y,cs,r1,r2,r3⟩:=vU q2 G;obtain⟨j,hj⟩:=a4 _ List.mem_cons_self;have U:=CX r1 G;have hw:gM o b (0+i*1) [.slice (eF Y.1) O.length Y.2]:=by
      have hx:((Zq a7 m).drop (i*1)).take 1=[.slice (eF Y.1) O.length Y.2]:=by
       have a3:=(List.getElem?_eq_some_iff.1 U).1;rw[Nat.mul_one,List.drop_eq_getElem_cons a3];simp[(List.getElem?_eq_some_iff.1 U).2]
      have:=pZ x.st hj hx g3 0 [.slice (eF Y.1) O.length Y.2] rfl (by simp)
      simpa using this
     obtain⟨ab,ai,E2,k1,r4,k2,k3,a6⟩:=x.take S Z n R r1 G;obtain⟨σ,a5,P⟩:=x.st.ev1 K;rw[M]at P;have ht:=xz hq;rw[a1]at ht;subst ho;exact BP r4 hU S Z hd k2 k3 a6 k1 (jb a5 P ht hw) c
    ·exact c.elim
   |box _ _=>exact c.elim
   |own _ _ _ _=>exact c.elim
   |mid _ _ _ _ _ _=>exact c.elim
  ·exact c.elim
theorem rc{N:Nat}{a:Act}{v:Zb}(hr:dZ N A t s q D Q J a o y v g)(hU:∀af,q af→D af)(F:D d)(G:¬q d){am:V}(ho:X=⟨k,.call ⟨.builtin .append,#[K,P],#[I,I]⟩,p,B,r,h⟩)(hd:∀af,X.dst=some af→af<N)(hp:RV v y J Y (a.eval K))(hq:RV v y J am (a.eval P))(hk:Y.ok q)(ai:am.ok q)(f:Zn d (yv ξ X d I Y am) Q J w):gP ξ.P N A t s D X a o w:=by
 unfold yv at f;split at f
 ·exact f.elim
 ·rename_i O ax;obtain⟨hE,a4⟩:=J7 ax;split at f
  ·rename_i u;obtain⟨en,he,f⟩:=f;obtain⟨k0,fR,L⟩:=en
   cases L with
   |own ba l bb b7=>
    obtain⟨C,l1,ao,v1,av,hB,U,ah,q1⟩:=pp G F FU f hr ai;obtain⟨en,a0,j⟩:=hB;have aj:=jD ah hk hp;obtain⟨yy,a1,_,hy⟩:=fW aj (λ_ e=>by cases e) rfl rfl;have a1:a.eval K=yy:=(List.cons.inj a1).1;have hy:=hy en a0;obtain⟨kk,st,L⟩:=en;obtain⟨hm,a6⟩:=Zv a0;have a6:kk=u:=a6;subst a6
    cases L with
    |own an s' xs fz=>
     cases fz with
     |true=>exact j.elim
     |false=>
      simp only at j;split at j
      ·rename_i bc az ht hs;obtain⟨c3,c4⟩:=fK az
       cases c3;cases c4
       have ht:=eH ht;have hs:=eH hs;obtain⟨_,ab,j⟩:=j;obtain⟨ob,ap,g1,rfl⟩:=hy;obtain⟨es,E',E,_,Z,h3,r2⟩:=U.del a0;obtain⟨b0,ag,W,f1,f2,rfl⟩:=E;have f1:ao kk= .own b0 ag:=f1;rw[g1]at f1;cases f1;have ae:=U.st.perm h3;obtain⟨σ,S,H,M⟩:=ae.ev2 K P;obtain⟨a8,a9⟩:=LO f;obtain⟨a2,a5,R⟩:=jv hq a9;have x:(Zy l.rep).rel v1 a2 C:=q1 _ a5;obtain⟨qa,m,c,rfl⟩:=vV x;rw[HJ a8]at R;have a7:m=C.length:=by obtain⟨_,_,e,_⟩:=x;cases e;rfl
       have a3:eZ ξ.P I an l.rep.n O.by_ O.z:=by rw[ZK,←hs,←ht];exact hE
       have al:St N t s σ (.own ob an l.rep.n xs.length ap W :: E'.flatten) v1 a o:=by rw[ZK];exact S
       obtain⟨b',ag,aq,w',ad,n,aa⟩:=vZ (ty:=p) (A:=l.rep) a3 al (i:=0) rfl x (n':=(xs++(show List l.den from C)).length) (by rw[lA,a7]) (qU ab) a4;rw[a1]at H;rw[R]at M;have n:=n.bare;rw[ZK]at n;subst ho;exact BP r2 hU F G hd Z rfl n (ku f2 aa) (pE S H M ad) j
      ·exact j.elim
    |box _ _=>exact j.elim
    |mid _ _ _ _ _ _=>exact j.elim
    |mat _ _ _ _ _=>exact j.elim
   |box _ _=>exact f.elim
   |mid _ _ _ _ _ _=>exact f.elim
   |mat _ _ _ _ _=>exact Rz hr hU F G hE a4 ho hd (λe=>by cases e) (λu' e=>by cases e;exact hp) hq f
  · -- a row
   rename_i u i hv cv l ar;obtain⟨C,l1,ao,v1,av,hB,U,ah,q1⟩:=pp G F FU f hr ai;obtain⟨⟨kk,st,L⟩,a0,j⟩:=hB;have a6:kk=u:=(Zv a0).2;subst a6;have aj:=jD ah hk hp;obtain⟨yy,a1,_,hy⟩:=fW aj (λ_ e=>by cases e) rfl rfl;have a1:a.eval K=yy:=(List.cons.inj a1).1;have hy:=hy _ a0
   cases L with
   |mat an au s' m b8=>
    simp only at j;split at j
    ·rename_i z b1 b2 hz b3 b4;have b1:=eH b1;have b2:=eH b2;have b3:=eH b3;have b4:=eH b4;subst b1 b2;obtain⟨c3,c4⟩:=fK hz
     cases c3;cases c4
     obtain⟨_,ab,j⟩:=j;obtain⟨ob,ap,b9,b5,aw,g1,g2,rfl,_,g6⟩:=hy rfl;obtain⟨m',c1,c2⟩:=g6 rfl;obtain⟨c5,c6⟩:=fK c1
     cases c5;cases c6
     obtain⟨W,b6,E2,k1,r2,k2,k3,ae⟩:=U.take F G a0 g1 g2 c2;obtain⟨σ,S,H,M⟩:=ae.ev2 K P;obtain⟨a8,a9⟩:=LO f;obtain⟨a2,a5,R⟩:=jv hq a9;have x:(Zy l.rep).rel v1 a2 C:=q1 _ a5;obtain⟨qa,mm,c,rfl⟩:=vV x;rw[HJ a8]at R;have a7:mm=C.length:=by obtain⟨_,_,e,_⟩:=x;cases e;rfl
     have a3:eZ ξ.P I au l.rep.n O.by_ O.z:=by rw[ZK,←b4,←b3];exact hE
     have al:St N t s σ (.own b5 au l.rep.n ar.length aw W :: b6) v1 a o:=by rw[ZK];exact S
     obtain⟨b',ag,aq,w',ad,n,aa⟩:=vZ (ty:=p) (A:=l.rep) a3 al (i:=0) rfl x (n':=(ar++(show List l.den from C)).length) (by rw[lA,a7]) (qU ab) a4;rw[a1]at H;rw[R]at M;have n:=n.bare;rw[ZK]at n;subst ho;exact BP r2 hU F G hd k2 k3 n (ku k1 aa) (pE S H M ad) j
    ·exact j.elim
   |box _ _=>exact j.elim
   |own _ _ _ _=>exact j.elim
   |mid _ _ _ _ _ _=>exact j.elim
  ·split at f
   ·refine Rz hr hU F G hE a4 ho hd (λ_=>?_) (λu' e=>by cases e) hq f;obtain⟨W,E,Z⟩:=hp;have E:W=[.slice none 0 0]:=E;subst E;exact Z
   split at f
   ·rename_i l hs;split at f
    ·rename_i ak;have ak:=eH ak;obtain⟨C,l1,ao,v1,av,hB,U,ah,q1⟩:=pp G F FU f hr ai;obtain⟨_,ab,j⟩:=hB;obtain⟨E',Z,h3⟩:=U.lr;have ay:a.eval K= .slice none 0 0:=by
      obtain⟨W,E,Z⟩:=hp;have E:W=[.slice none 0 0]:=E;subst E;exact Z
     have ae:=(U.st.perm h3).nilLoc O.e l.rep.n;obtain⟨σ,S,H,M⟩:=ae.ev2 K P;obtain⟨a8,a9⟩:=LO f;obtain⟨a2,a5,R⟩:=jv hq a9;have x:(Zy l.rep).rel v1 a2 C:=q1 _ a5;obtain⟨qa,m,c,rfl⟩:=vV x;rw[HJ a8]at R;have a7:m=C.length:=by obtain⟨_,_,e,_⟩:=x;cases e;rfl
     have a3:eZ ξ.P I O.e l.rep.n O.by_ O.z:=by rw[ZK,←ak];exact hE
     obtain⟨b',ag,aq,w',ad,n,aa⟩:=vZ (ty:=p) (A:=l.rep) a3 S (i:=0) rfl x (n':=(([]:List l.den)++(show List l.den from C)).length) (by rw[lA,a7];rfl) (qU ab) a4;rw[ay]at H;rw[R]at M;have n:=n.bare;rw[ZK]at n;subst ho;exact BP U hU F G hd Z rfl n (ku qC aa) (pE S H M ad) j
    ·exact f.elim
   ·exact f.elim
  ·exact f.elim
theorem sP(k:IntKind)(p q:Int):(Builtin.max2 (.int k p) (.int k q)).run l o= .ok (.int k (max p q)) o:=by
 simp only[Builtin.max2,Sem.run_pure];congr 2;by_cases h:q>p
 ·rw[iP h];omega
 ·rw[iN h];omega
theorem sR(k:IntKind)(p q:Int):(Builtin.min2 (.int k p) (.int k q)).run l o= .ok (.int k (min p q)) o:=by
 simp only[Builtin.min2,Sem.run_pure];congr 2;by_cases h:q<p
 ·rw[iP h];omega
 ·rw[iN h];omega
theorem ug{v:Zb}{a:Act}(d:St c t s f g v a o)(e:ev f K=some (.int S j))(i:ev f P=some (.int S L)):
  (execOp a.eval ⟨k,.call ⟨.builtin .max,#[K,P],ζ⟩,p,B,r,h⟩).run l o= .ok (.value (.int S (max j L))) o:=by
 simp[execOp,resolve,invoke,builtin,Builtin.max_,d.eval e,d.eval i,sP]
theorem uh{v:Zb}{a:Act}(d:St c t s f g v a o)(e:ev f K=some (.int S j))(i:ev f P=some (.int S L)):
  (execOp a.eval ⟨k,.call ⟨.builtin .min,#[K,P],ζ⟩,p,B,r,h⟩).run l o= .ok (.value (.int S (min j L))) o:=by
 simp[execOp,resolve,invoke,builtin,Builtin.min_,d.eval e,d.eval i,sR]
theorem ZdB(e:Nat):∀(l:List Value) (k:Nat) (d:Array Value),e+k+l.length≤d.size→(l.zipIdx k).foldl (λf (c,j)=>f.setIfInBounds (e+j) c) d=(d.toList.take (e+k)++l++d.toList.drop (e+k+l.length)).toArray:=by
 intro l
 induction l with
 |nil=>intro k d h;simp
 |cons y l m=>
  intro k d h;simp only[List.zipIdx_cons,List.foldl_cons];rw[m (k+1) _ (by simp at h ⊢;omega)];congr 1;simp only[Array.toList_setIfInBounds];simp only[List.length_cons]at h;have i:e+k<d.toList.length:=by simp;omega
  rw[List.take_set,List.drop_set_of_lt (by omega)];rw[List.set_eq_take_append_cons_drop,iP (by simp;simp at i;omega)];rw[List.take_take,Nat.min_eq_left (by omega)];have g:((d.toList.take (e+(k+1))).drop (e+k+1))=[]:=List.drop_of_length_le (by simp;omega);rw[g];simp;congr 1;omega
theorem JY{e:Nat→Option (Nat×Nat)}{d:Array Value}{cs:List Value}{off:Nat}(hp:e c=some (off,cs.length))(g:U.cells=cs.toArray)(i:off+cs.length≤d.size):
  Instr.fill e d ((c,U) :: f)=Instr.fill e (d.toList.take off++cs++d.toList.drop (off+cs.length)).toArray f:=by
 have h:¬(U.cells.size≠cs.length ||decide (off+U.cells.size>d.size)):=by simp[g,i]
 conv=>lhs;unfold Instr.fill
 simp only[hp];rw[iN h,g];have:=ZdB off cs 0 d (by omega);rw[←Array.foldl_toList];congr 1
 simpa using this
theorem xN{N:Nat}{a:Act}{v:Zb}(m:dZ N A t s q D Q J a o y v g):∀{j:List Operand} {k:V→Ev n} {f:n→Fr→Lo→Prop},Zn d (qg j k) Q J f→∃c,RR v y J true c (j.map a.eval)∧c.ok q∧Zn d (k c) Q J f
 |[],k,f,h=>⟨.nl,rfl,trivial,h⟩
 |x :: j,k,f,h=>by
  obtain⟨i,r,u,l⟩:=Z0 m h
  have B:∀c,i ≠ .tup c:=λc e=>by subst e;exact l.elim
  have w:Zn d (qg j λc=>k (.cons i c)) Q J f:=by
   cases i <;> first |exact l |exact l.elim
  obtain⟨c,C,E,F⟩:=xN m w;obtain⟨p,G,H⟩:=jv r B;exact⟨.cons i c,⟨p,_,by rw[List.map_cons,H],G,C⟩,⟨u,E⟩,F⟩
theorem Xe{f:Fr}{l:Lo}{n:Nat}{e:Type}{g:Nat}{t:T}{x:V}{k:t.den→Ev e}{i:e→Fr→Lo→Prop}(h:Zn n (conv g t x k) f l i):x.isAgg=true∨x.isAgg=false∧x.size=1:=by
 cases x with
 |data s x=>
  cases d:s.agg with
  |true=>exact .inl d
  |false=>exact .inr ⟨d,u9 d⟩
 |nilS=>exact .inr ⟨rfl,rfl⟩
 |own u=>exact .inr ⟨rfl,rfl⟩
 |ptr u o=>exact .inr ⟨rfl,rfl⟩
 |agg c=>exact .inl rfl
 |_=>
  cases g with
  |zero=>exact h.elim
  |succ g=>simp only[conv]at h;exact h.elim
theorem ZoD{v:Zb}(d:Y.isAgg=true∨Y.isAgg=false∧Y.size=1)(h:RR v y J false Y C)(hp:C.all plain=true):(Y.val C).cells=C.toArray:=by
 rcases d with c |⟨c,hs⟩
 ·unfold V.val;rw[c];rfl
 ·have e:=Bp h hs c;have g:Y.val C=C.headD undef:=by unfold V.val;rw[c]
  rw[g]at e ⊢;rw[e]at hp;have f:plain (C.headD undef)=true:=by simpa using hp
  have:=nw f
  conv=>rhs;rw[e]
  exact this
theorem ZiE{N:Nat}{a:Act}(R:¬q d)(O:D d):∀{c:V} {k:List η.den→Ev n} {l:Lo} {f:Nat→Gh} {v:Zb} {m:List dY} {g:n→Fr→Lo→Prop},Zn d (nO η c k) Q l g→dZ N A t s q D Q l a o f v m→c.ok q→
  ∃ G C K F a1,Zn d (k G) Q C g∧dZ N A t s q D Q C a o K F a1∧Le q v f l F K C∧∀j,RR v f l true c j→∃e:List (List Value),η.rep.rels F e.flatten G∧e.length=G.length∧j.map Value.cells=e.map List.toArray∧∀i ∈ e,i.length=η.n:=by
 intro c
 induction c with
 |nl=>
  intro k l f v m g h r p;obtain⟨E,M,_⟩:=r.lr;exact⟨[],l,f,v,m,h,r,Le.refl M (Zb.le_refl _),λj B=>⟨[],rfl,rfl,by rw[show j=[] from B];rfl,λ_ h=>by cases h⟩⟩
 |cons x c _ S=>
  intro k l f v m g h r p;have P:=Xe (n:=d) (f:=Q) (l:=l) (g:=FU) (t:=η) (x:=x) h;obtain⟨y,l1,a3,v1,a4,h,r1,I,q1⟩:=pp R O FU h r p.1;obtain⟨ys,Z,a0,v2,a2,h,r2,J,q2⟩:=S h r1 p.2;refine⟨y :: ys,Z,a0,v2,a2,h,r2,I.trans J,λj B=>?_⟩;obtain⟨i,vs,rfl,H,L⟩:=B;have w:=q1 i H;obtain⟨e,U,W,X,Y⟩:=q2 vs (jl I p.2 L);refine⟨i :: e,⟨i,e.flatten,rfl,ee.mono _ J.v w,U⟩,by simp[W],?_,λc u=>?_⟩
  ·rw[List.map_cons,List.map_cons,X,ZoD P H (ee.flat _ w)]
  ·rcases List.mem_cons.1 u with rfl |u
   ·rw[ee.len _ w,ZK]
   ·exact Y c u
 |_=>intro k l f v m g h;exact h.elim
theorem Mp{sz:Nat}:∀(e:List (List Value)) (l:List Value) (k:Nat) (d:Array Value),l.map Value.cells=e.map List.toArray→(∀g ∈ e,g.length=sz)→d.size=(k+e.length)*sz→
  Instr.fill (λi=>some (i*sz,sz)) d (l.zipIdx k |>.map λp=>(p.2,p.1))=some (d.toList.take (k*sz)++e.flatten).toArray
 |[],[],k,d,_,_,f=>by
  simp only[List.length_nil,Nat.add_zero]at f
  simp only[List.zipIdx_nil,List.map_nil,Instr.fill,List.flatten_nil,List.append_nil]
  rw[List.take_of_length_le (by simp[f])]
 |g :: e,x :: l,k,d,h,hs,f=>by
  simp only[List.map_cons,List.cons.injEq]at h
  have j:=hs g (by simp)
  simp only[List.length_cons]at f
  have n:k*sz+sz+e.length*sz=d.size:=by rw[f,Nat.add_mul,Nat.succ_mul];omega
  simp only[List.zipIdx_cons,List.map_cons]
  rw[JY (cs:=g) (off:=k*sz) (by rw[j]) h.1 (by omega)]
  rw[Mp e l (k+1) _ h.2 (λc f=>hs c (by simp[f])) (by
   simp only[List.size_toArray,lA,List.length_take,List.length_drop,Array.length_toList]
   rw[j,Nat.min_eq_left (by omega),Nat.add_mul,Nat.succ_mul];omega)]
  congr 2
  have m:(d.toList.take (k*sz)).length=k*sz:=by simp;omega
  rw[List.flatten_cons,←fj,Nat.succ_mul]
  congr 1
  rw[List.take_append,List.take_of_length_le (by simp[j];omega)]
  rw[show k*sz+sz-(d.toList.take (k*sz)++g).length=0 by rw[lA,m,j];omega]
  simp
 |[],_ :: _,_,_,h,_,_=>by simp at h
 |_ :: _,[],_,_,h,_,_=>by simp at h
theorem Rf{a:Act}:∀{c:List (Nat×Operand)} {k:Nat},H' k c=true→c.map (λp=>(p.1,a.eval p.2))=((c.map λp=>a.eval p.2).zipIdx k).map λp=>(p.2,p.1)
 |[],_,_=>rfl
 |p :: c,k,h=>by
  simp only[H']at h
  split at h
  ·rename_i d
   have d:=eH d
   simp only[List.map_cons,List.zipIdx_cons]
   rw[Rf h,d]
  ·cases h
theorem LQ{sz:Nat}{d:TypeInfo}{z:Value}(g:l.underlying p=some (.slice I))(k:l.info? I=some d)(o:d.zero=some z)(hs:d.size=sz)(n:c*sz≤16777216)(j:∀m:Array Value,Instr.fill (λi=>some (i*sz,sz)) ((Array.range (c*sz)).map (λi=>m[i%m.size]!)) f=some C.toArray)(w:World):(Instr.buildSlice p c f.toArray).run l w= .ok (.slice (some ⟨w.heap.size,0,none⟩) c c) (w.alloc (.cells C.toArray I)):=by
 subst hs;have n:¬(c*d.size>2^24):=by omega
 unfold Instr.buildSlice;by_cases e:c*d.size=0
 ·have:=j #[];simp only[e]at this;simp[run_underlying g,sizeOf,typeInfo,k,e] ; simp at this;simp[this,newRow]
 ·have:=j z.cells;obtain⟨A,h⟩:∃A,A=(Array.range (c*d.size)).map (λi=>z.cells[i%z.cells.size]!):=⟨_,rfl⟩;rw[←h]at this;simp only[run_underlying g,sizeOf,typeInfo,zeroValue];simp[run_underlying g,typeInfo,k,o,e,show¬(16777216<c*d.size) by omega];rw[←h,this];simp[newRow]
theorem ZbD{N:Nat}{a:Act}{v:Zb}{av:List dY}{n:Nat}{ty:TypeId}{pos:String}{aft:Array Edge}{g:Option (Nat×Bool)}(G:dZ N A t s q D Q J a o y v av)(hU:∀k,q k→D k)(R:D n)(hn:¬q n){d:Option Nat}{f:Array (Nat×Operand)}(ho:X=⟨d,.buildSlice I e f,ty,pos,aft,g⟩)(hd:∀k,X.dst=some k→k<N)(h:Zn n (Z3 ξ n X) Q J w):gP ξ.P N A t s D X a o w:=by
 subst ho;simp only[Z3]at h;split at h
 ·rename_i j hq;obtain⟨F,aw⟩:=J7 hq;split at h
  ·split at h
   ·rename_i x a1 ay;have a1:=a1;obtain⟨V1,K,ax,h⟩:=Z0 G h;split at h
    ·rename_i u2 q2 _ az _;obtain⟨⟨M,b3,L2⟩,W,h⟩:=h;have am:M=u2:=(Zv W).2;subst am
     cases L2 with
     |own b4 au m fz=>
      cases fz with
      |true=>exact h.elim
      |false=>
       simp only at h;split at h
       ·rename_i b1 b2 O;have O:=eH O;obtain⟨es,E',g1,g2,ag,g3,r2⟩:=G.del W;obtain⟨l,r,ae,P,f2,rfl⟩:=g1;have P:y M= .own l r:=P;have ao:a.eval x= .slice (eF l) m.length r:=by
         obtain⟨yq,aq,_,ap⟩:=fW K (λ_ af=>by cases af) rfl rfl;obtain⟨oq,cq,a8,ah⟩:=ap _ W;rw[P]at a8;cases a8;exact((List.cons.inj aq).1).trans ah
        have ak:(Value.slice (eF l) m.length r).cells=[Value.slice (eF l) m.length r].toArray:=by cases l <;> rfl
        have hz:∀o,(Instr.buildSlice I 1 (f.toList.map λp=>(p.1,a.eval p.2)).toArray).run ξ.P o= .ok (.slice (some ⟨o.heap.size,0,none⟩) 1 1) (o.alloc (.cells [Value.slice (eF l) m.length r].toArray j.e)):=by
         intro o;obtain⟨ar,a0,a5,a4,aj⟩:=info_parts F.info;rw[a1,List.map_singleton];simp only[ao];refine LQ (sz:=1) F.ty a0 a5 (a4.trans O) (by decide) (λu=>?_) o;have:=Mp (sz:=1) [[Value.slice (eF l) m.length r]] [Value.slice (eF l) m.length r] 0 ((Array.range (1*1)).map (λi=>u[i%u.size]!)) (by simp[ak]) (λcs U=>by rw[List.mem_singleton.1 U];rfl) (by simp)
         simpa using this
        have a3:=G.st.perm g3;obtain⟨σ,a6,Y⟩:=a3.evs (f.toList.map (·.2));obtain⟨b,w',a2,B⟩:=BC (P:=ξ.P) (t:=I) (e:=j.e) (sz:=1) a6 (by simp) (by decide) hz;have Z:f.toList.map (λp=>(ev σ p.2).map λa7=>(p.1,a7))=(f.toList.map λp=>(p.1,a.eval p.2)).map some:=by
         rw[List.map_map];refine List.map_congr_left λp hp=>?_;rw[Y p.2 (List.mem_map.2 ⟨p,hp,rfl⟩)];rfl
        exact Hp (rows:=[(l,r)]) (m:=[m]) r2 hU R hn hd ag rfl ⟨ae,[],f2,rfl,rfl⟩ B.bare (a2 (d:=d) (ty:=ty) (pos:=pos) (aft:=aft) (g:=g) Z) h
       ·exact h.elim
     |box _ _=>exact h.elim
     |mat _ _ _ _ _=>exact h.elim
     |mid _ _ _ _ _ _=>exact h.elim
    ·exact h.elim
   ·exact h.elim
  split at h
  ·rename_i au hs ho a9 S;have a9:=eH a9;have S:=lB S;split at h
   ·rename_i H;have H:=eH H;obtain⟨c,K,h2,h⟩:=xN G h;obtain⟨m,l1,b5,v1,b6,h,r1,b0,q1⟩:=ZiE hn R h G h2;obtain⟨C,k1,M,k3,k4⟩:=q1 _ K;obtain⟨E,ai,hp⟩:=r1.lr;have ab:C.length=e:=by
     have:=congrArg List.length k3;simp only[List.length_map]at this;omega
    have al:C.flatten.length=e*j.sz:=by
     have:=kK k1;rw[ZK,←M,ab,←H]at this;exact this
    have hz:∀o,(Instr.buildSlice I e (f.toList.map λp=>(p.1,a.eval p.2)).toArray).run ξ.P o= .ok (.slice (some ⟨o.heap.size,0,none⟩) e e) (o.alloc (.cells C.flatten.toArray j.e)):=by
     intro o;obtain⟨ar,a0,a5,a4,aj⟩:=info_parts F.info;rw[Rf ho];have hm:(f.toList.map λp=>a.eval p.2)=(f.toList.map (·.2)).map a.eval:=by rw[List.map_map];rfl
     rw[hm];have hf:∀u:Array Value,Instr.fill (λi=>some (i*j.sz,j.sz)) ((Array.range (e*j.sz)).map (λi=>u[i%u.size]!)) ((((f.toList.map (·.2)).map a.eval).zipIdx).map λp=>(p.2,p.1))=some C.flatten.toArray:=λu=>by
      have:=Mp (sz:=j.sz) C ((f.toList.map (·.2)).map a.eval) 0 ((Array.range (e*j.sz)).map (λi=>u[i%u.size]!)) k3 (λcs U=>by rw[k4 cs U,H]) (by simp[ab]);rw[Nat.zero_mul,List.take_zero,List.nil_append]at this;exact this
     obtain⟨L,hL⟩:∃L,L=((((f.toList.map (·.2)).map a.eval).zipIdx).map λp=>(p.2,p.1)):=⟨_,rfl⟩;rw[←hL]at hf ⊢;clear hL;exact LQ F.ty a0 a5 a4 S hf o
    have a3:=r1.st.perm hp;obtain⟨σ,a6,Y⟩:=a3.evs (f.toList.map (·.2));have an:e≤maxLen:=by
     have K:e≤e*j.sz:=Nat.le_mul_of_pos_right _ F.pos;unfold maxLen;omega
    obtain⟨b,w',a2,B⟩:=BC (P:=ξ.P) (t:=I) (e:=j.e) a6 al an hz;have Z:f.toList.map (λp=>(ev σ p.2).map λa7=>(p.1,a7))=(f.toList.map λp=>(p.1,a.eval p.2)).map some:=by
     rw[List.map_map];refine List.map_congr_left λp hp=>?_;rw[Y p.2 (List.mem_map.2 ⟨p,hp,rfl⟩)];rfl
    have ad:e=m.length:=by omega
    have B:=B.bare;rw[H,ad]at B;have aa:=a2 (d:=d) (ty:=ty) (pos:=pos) (aft:=aft) (g:=g) Z
    conv at aa=>rhs;rw[ad]
    exact BP r1 hU R hn hd ai rfl B k1 aa h
   ·exact h.elim
  ·exact h.elim
 ·exact h.elim
theorem XG{P:Program}(w:World)(h B C k:TypeId)(i:TypeInfo)(g o e l:Nat)(a:Addr)(f A:Nat)(d:Array Value)(t:TypeId)(c:List Value)(y:P.underlying h=some (.slice k))(q:P.info? k=some i)(p:w.heap[g]?= some (.cells d t (0,0)))(s:c.length=Nat.min f e*i.size)(u:∀j v,c[j]?= some v→w.cell? (a.add j)=some v)(n:o+c.length≤d.size)(m:∀v ∈ c,v.oneCell'=true):
  (Builtin.copy_ #[h,B] C #[.slice (some ⟨g,o,none⟩) e l,.slice (some a) f A]).run P w=
   .ok (goInt (Nat.min f e)) (w.setRow g (d.toList.take o++c++d.toList.drop (o+c.length)).toArray):=by
 have r:=run_loadCells_list (P:=P) w a c u;have x:=run_storeCells_at P g o t c 0 d w p (by simpa using n) m;simp[Builtin.copy_,run_underlying y,Builtin.lenOf,Builtin.firstCells,sizeOf,typeInfo,q,←s,r,x]
theorem GQ{K:Nat}{B:dW}{v:Zb}{a:Act}{t sT:TypeId}{sz bytes:Nat}{z:Value}(m:eZ l t I sz bytes z)(n:St K B s f g v a o){i e b:Nat}(w:g[i]?= some (.own (some b) I sz E e C)){p k:Nat}{c:List Value}(q:c.length=k*sz)(hp:p+k≤E)(J:c.all plain=true){ad:Addr}{sLen sCap dLen dCap:Nat}(L:∀j u,c[j]?= some u→o.cell? (ad.add j)=some u)(x:Nat.min sLen dLen=k):
  ∃ A,(∀h,(Builtin.copy_ #[t,sT] h #[.slice (some ⟨b,p*sz,none⟩) dLen dCap,.slice (some ad) sLen sCap]).run l o= .ok (.int .i64 k) A)∧
   St K B s f (g.set i (.own (some b) I sz E e (C.take (p*sz)++c++C.drop (p*sz+c.length)))) v a A:=by
 obtain⟨N,H,S,hs,P⟩:=info_parts m.info;obtain⟨Q,d,r,y,G,F,M⟩:=(n.loc _ (mG w)).1;have D:p*sz+c.length≤E*sz:=by rw[q,←Nat.add_mul];exact mR _ hp
 have O:E*sz≤e*sz:=mR _ y;have R:d.toList.length=e*sz:=by simpa using F
 refine⟨_,λh=>?_,n.setRow w rfl rfl (c:=(d.toList.take (p*sz)++c++d.toList.drop (p*sz+c.length)).toArray) ⟨?_,_,setRow_heap o b d _ I _ r,y,G,?_,?_⟩⟩
 ·have:=XG (P:=l) o t sT h I N b (p*sz) dLen dCap ad sLen sCap d I c m.ty H r (by rw[x,hs];exact q) L (by omega) (Iz J);rw[this,x];rfl
 ·simp;omega
 ·simp;omega
 ·show List.take (E*sz) (_++_++_)=_;rw[HM _ _ _ _ D (by omega),M]
def Cq{f:Type}(A:ee f)(T:TypeId)(sz:Nat)(l:List f)(g:Option Nat)(w:World)(r:Value)(e:Zb)(h:World):Prop :=
 ∃ ob n c d,r= .slice (eF ob) n c∧(dY.own ob T sz n c d).holds h∧(∀b,ob=some b→(w.heap.size≤b∨g=some b)∧e b=none)∧A.rels e d l∧n=l.length
theorem Jt{K:Nat}{f:FuncId}{d:Func}{c:Code}{args:List Value}{v:Zb}{ob:Option Nat}{T:TypeId}{sz:Nat}{R:Value→Zb→World→Prop}(p:fc v o)(x:(dY.own ob T sz e i α).holds o)(A:∀b,ob=some b→v b=none)(w:l.funcs[f]?= some d)(t:d.body=some c)(s:d.ntmps=K)(y:args.length≤K)(h:∀a,St K ⟨o,ob.toList⟩ v (kS 0 args) [.own ob T sz e i α] v a o→c.wp l (bodyPost l d λn k=>∃r q,n= .returned r∧fb ⟨o,ob.toList⟩ k∧eO ⟨o,ob.toList⟩ v k q∧R r q k) a o):oY l f args.toArray o v ob.toList R:=by
 refine calls_of_wp w t ?_;subst s;refine h _ ?_;have g:=St.enter (K:=d.ntmps) p args y;refine⟨g.size,g.dfr,g.fr,fb.refl ⟨o,ob.toList⟩,⟨Zb.le_refl _,p,λ_ _ _=>rfl⟩,λn u=>?_,?_⟩
 ·rcases List.mem_singleton.1 u with rfl;refine⟨x,λm j=>?_⟩;have j:ob=some m:=j;subst j;exact⟨.inr (by simp),A m rfl⟩
 ·cases ob with
  |none=>exact List.nodup_nil
  |some b=>exact List.nodup_cons.2 ⟨by simp,List.nodup_nil⟩
theorem No{v:Zb}{a:Act}{A:ee n}{q:Func}(h:St c ⟨W,k.toList⟩ s f g v a o){i j sz:Nat}{ob:Option Nat}{T:TypeId}(B:g[i]?= some (.own ob T sz e j C))(E:(results q a.tmps).run l o= .ok (.slice (eF ob) e j) o)(w:A.rels v C R)(D:e=R.length):
  bodyPost l q (λm p=>∃r t,m= .returned r∧fb ⟨W,k.toList⟩ p∧eO ⟨W,k.toList⟩ s p t∧Cq A T sz R k W r t p) .ret a o:=by
 obtain⟨y,x⟩:=h.loc _ (mG B);refine⟨h.dfr,_,E,_,v,rfl,h.ext,h.vst,ob,e,j,C,rfl,y,λb m=>?_,w,D⟩;obtain⟨d,u⟩:=x b m;refine⟨?_,u⟩;rcases d with d |d
 ·exact .inl d
 ·exact .inr (by simpa using d)
theorem St.afterI{v:Zb}{a:Act}{O:Zb}(h:St c t s f g v a o){i:Nat}{e e':dY}(R:g[i]?= some e)(x:fb ⟨o,e.blk.toList⟩ W)(E:eO ⟨o,e.blk.toList⟩ v W O)(hh:e'.holds W)(J:∀b,e'.blk=some b→(o.heap.size≤b∨e.blk=some b)∧O b=none):
  St c t s f (e' :: g.eraseIdx i) O a W:=by
 obtain⟨he,X⟩:=h.loc e (mG R);have Y:∀k,k<t.wd.heap.size→k ∉ t.lent→k ∉ e.blk.toList:=λk w A C=>by
  have C:e.blk=some k:=by simpa using C
  rcases(X k C).1 with P |P
  ·omega
  ·exact A P
 have N:∀j y,g[j]?= some y→j≠i→∀d,y.blk=some d→d<o.heap.size∧e.blk≠some d∧d ∉ e.blk.toList:=λj y u B d r=>by
  obtain⟨_,a0⟩:=dY.blk_get (h.loc y (mG u)).1 r;have S:e.blk≠some d:=λq=>CC h.nd R q j y u B d r rfl;exact⟨qO a0,S,by simpa using S⟩
 refine⟨h.size,h.dfr,h.fr,⟨x.os.trans h.ext.os,x.tape.trans h.ext.tape,x.output.trans h.ext.output,Nat.le_trans h.ext.size x.size,λk w A=>?_⟩,⟨Zb.le_trans h.vst.le E.le,E.vin,λk w A=>?_⟩,λy D=>?_,?_⟩
 ·rw[x.block k (Nat.lt_of_lt_of_le w h.ext.size) (Y k w A)];exact h.ext.block k w A
 ·rw[E.old k (Nat.lt_of_lt_of_le w h.ext.size) (Y k w A)];exact h.vst.old k w A
 ·rcases List.mem_cons.1 D with rfl |D
  ·refine⟨hh,λb q=>⟨?_,(J b q).2⟩⟩;rcases(J b q).1 with m |m
   ·exact .inl (Nat.le_trans h.ext.size m)
   ·exact(X b m).1
  ·obtain⟨j,B,u⟩:=List.mem_eraseIdx_iff_getElem?.1 D;obtain⟨m,Q⟩:=h.loc y (mG u);have H:∀d,y.blk=some d→W.heap[d]?= o.heap[d]?:=λd r=>by
    obtain⟨F,M,G⟩:=N j y u B d r;exact x.block d F G
   refine⟨?_,λd r=>⟨(Q d r).1,?_⟩⟩
   ·cases y with
    |box d Z cs=>show _=_;rw[H d rfl];exact m
    |own d Z sz n a2 cs=>
     cases d with
     |none=>exact m
     |some d=>obtain⟨K,I,L,k3⟩:=m;exact⟨K,I,by rw[H d rfl];exact L,k3⟩
    |mp d l=>obtain⟨es,I,K,L⟩:=m;exact⟨es,I,by rw[H d rfl];exact K,L⟩
    |it d E p=>show _=_;rw[H d rfl];exact m
   ·obtain⟨F,M,G⟩:=N j y u B d r;rw[E.old d F G];exact(Q d r).2
 ·have U:((g.eraseIdx i).filterMap dY.blk).Nodup:=h.nd.sublist ((List.eraseIdx_sublist ..).filterMap _)
  cases q:e'.blk with
  |none=>rw[List.filterMap_cons_none q];exact U
  |some b=>
   rw[List.filterMap_cons_some q];refine List.nodup_cons.2 ⟨λC=>?_,U⟩;obtain⟨y,D,a1⟩:=List.mem_filterMap.1 C;obtain⟨j,B,u⟩:=List.mem_eraseIdx_iff_getElem?.1 D;obtain⟨F,M,G⟩:=N j y u B b a1;rcases(J b q).1 with m |m
   ·omega
   ·exact M m
theorem PB{v:Zb}{a:Act}(j:St c t s f g v a o){sz b e d:Nat}{lo:Operand}(m:jf l I Z sz)(n:ev f K=some (.slice (some ⟨b,i,none⟩) E e))(q:ev f lo=some (.int S (d:Int)))(hp:d≤E)(x:d<e):
  (execOp a.eval ⟨k,.slice I K (some lo) none none,p,B,r,h⟩).run l o= .ok (.value (.slice (some ⟨b,i+d*sz,none⟩) (E-d) (e-d))) o:=by
 have w:(0:Int)≤(d:Int)∧(d:Int)≤(E:Int):=by omega
 have u:¬e=d:=by omega
 simp[execOp,Instr.sliceAt,Instr.slice,Instr.sliceBounds,Instr.sliceBound,asIntOf,j.eval n,j.eval q,m.1,m.2,hp,u,gG]
theorem MS{v:Zb}{a:Act}(d:St c t s f g v a o){sz:Nat}{lo:Operand}(j:jf l I Z sz)(m:ev f K=some (.slice θ e i))(n:ev f lo=some (.int S (E:Int)))(hp:E≤e):
  (execOp a.eval ⟨k,.slice I K (some lo) none none,p,B,r,h⟩).run l o= .ok (.value (.slice (if i=E then θ else θ.map (·.add (E*sz))) (e-E) (i-E))) o:=by
 have q:(0:Int)≤(E:Int)∧(E:Int)≤(e:Int):=by omega
 simp[execOp,Instr.sliceAt,Instr.slice,Instr.sliceBounds,Instr.sliceBound,asIntOf,d.eval m,d.eval n,j.1,j.2,hp]
theorem Dz{v:Zb}{a:Act}(e:St c t s f g v a o){sz b d:Nat}(j:jf l I Z sz)(m:ev f K=some (.slice (some ⟨b,0,none⟩) i E))(n:ev f P=some (.int S (d:Int)))(hp:d≤E)(w:0<E):
  (execOp a.eval ⟨k,.slice I K none (some P) none,p,B,r,h⟩).run l o= .ok (.value (.slice (some ⟨b,0,none⟩) d E)) o:=by
 have u:(0:Int)≤(d:Int)∧(d:Int)≤(E:Int):=by omega
 have q:¬E=0:=by omega
 simp[execOp,Instr.sliceAt,Instr.slice,Instr.sliceBounds,Instr.sliceBound,asIntOf,e.eval m,e.eval n,j.1,j.2,hp,q,gG]
theorem MM{v:Zb}{a:Act}(d:St c t s f g v a o){q i:Value}(e:ev f K=some U)(j:ev f P=some q)(m:(Builtin.append_ #[I,Z] p #[U,q]).run l o= .ok i W):
  (execOp a.eval ⟨k,.call ⟨.builtin .append,#[K,P],#[I,Z]⟩,p,B,r,h⟩).run l o= .ok (.value i) W:=by
 simp[execOp,resolve,invoke,builtin,d.eval e,d.eval j,m]
theorem Gr{v:Zb}{a:Act}(d:St c t s f g v a o){q i:Value}(e:ev f K=some U)(j:ev f P=some q)(m:(Builtin.copy_ #[I,Z] p #[U,q]).run l o= .ok i W):
  (execOp a.eval ⟨k,.call ⟨.builtin .copy,#[K,P],#[I,Z]⟩,p,B,r,h⟩).run l o= .ok (.value i) W:=by
 simp[execOp,resolve,invoke,builtin,d.eval e,d.eval j,m]
def j9{c:Type}(d:Nat)(l:List c):Option (List c):=dU (ZE d l) λ_=>some l
theorem RQ{z:List n}(h:j9 c R=some z):R.length*c≤140737488355328∧z=R:=by
 obtain⟨_,d,e⟩:=f9 h;exact⟨qU d,(Option.some.inj e).symm⟩
def iY{c:Type}(d:Nat)(x:List c)(n:Int):Option (List c):=match x with
 |[z]=>dU (mk d n n) λ_=>some (List.replicate n.toNat z)
 |_=>none
theorem Ro(h:iY c R j=some β):∃z,R=[z]∧β=List.replicate j.toNat z∧mk c j j=some ():=by
 unfold iY at h;split at h
 ·obtain⟨_,d,e⟩:=f9 h;exact⟨_,rfl,(Option.some.inj e).symm,d⟩
 ·cases h
def kn{c:Type}(l:List c)(i j:Int):Option (List c):=if 0≤i∧i<l.length∧j=i+1 then some (l.take i.toNat++l.drop (i.toNat+1)) else none
theorem Lj{z:List n}(h:kn R j L=some z):∃k:Nat,j=k∧L=((k+1:Nat):Int)∧k<R.length∧z=R.take k++R.drop (k+1):=by
 unfold kn at h;split at h
 ·rename_i d;obtain⟨c,e,f⟩:=d;obtain⟨k,rfl⟩:=oZ c;exact⟨k,rfl,by omega,by omega,(Option.some.inj h).symm⟩
 ·cases h
theorem DI{sz:Nat}(h:C.length=sz)(n:Nat):((List.replicate n C).flatten).length=n*sz:=by
 rw[List.length_flatten,List.map_replicate,h,List.sum_replicate_nat]
theorem OZ(h:C.all plain=true)(n:Nat):((List.replicate n C).flatten).all plain=true:=by
 rw[List.all_eq_true];intro x e;obtain⟨l,d,c⟩:=List.mem_flatten.1 e;rw[(List.mem_replicate.1 d).2]at c;exact List.all_eq_true.1 h x c
theorem LW{c:List Value}{m n:Nat}(h:m≤n):(List.replicate n c).flatten=(List.replicate m c).flatten++(List.replicate (n-m) c).flatten:=by
 obtain⟨k,rfl⟩:=Nat.exists_eq_add_of_le h;rw[Nat.add_sub_cancel_left,←List.flatten_append,List.replicate_append_replicate]
theorem SG{z:List Value}{sz k:Nat}(f:C.length=sz)(i:z.length=sz)(h:d+e≤k):((List.replicate d C).flatten++(List.replicate (k-d) z).flatten).take (d*sz)++(List.replicate e C).flatten++((List.replicate d C).flatten++(List.replicate (k-d) z).flatten).drop (d*sz+((List.replicate e C).flatten).length)=(List.replicate (d+e) C).flatten++(List.replicate (k-(d+e)) z).flatten:=by
 have c:=DI f d;have g:=DI i e;rw[DI f e,List.take_left' c,←List.flatten_append,List.replicate_append_replicate,List.drop_append,c,List.drop_of_length_le (by rw[c];omega),List.nil_append,Nat.add_sub_cancel_left,LW (m:=e) (n:=k-d) (by omega),List.drop_left' g,Nat.sub_sub]
theorem QT{v:Zb}{a:Act}(i:St c t s f g v a o){j:TypeId}(u:l.underlying I=some (.slice j))(m:ev f K=some (.slice θ d e))(n:ev f P=some (.slice none 0 0)):
  (execOp a.eval ⟨k,.binOp .eql I K P Z,p,B,r,h⟩).run l o= .ok (.value (.bool θ.isNone)) o:=by
 have q:∀o:World,(Op.equal I (.slice θ d e) (.slice none 0 0)).run l o= .ok θ.isNone o:=λo=>by
  show(Op.equalIn (9999+1) I (.slice θ d e) (.slice none 0 0)).run l o=_;unfold Op.equalIn
  cases θ <;> simp[run_underlying u]
 simp[execOp,i.eval m,i.eval n,eqGuard,binOp,q]
theorem R7{v:Zb}{a:Act}{sz:Nat}{z:Value}(E:eZ l I Z sz e z)(q:St c t s f g v a o):
  ∃ b d,((execOp a.eval ⟨k,.buildSlice I 0 #[],p,B,r,h⟩).run l o= .ok (.value (.slice (eF (some b)) 0 0)) d)∧St c t s f (.own (some b) Z sz 0 0 [] :: g) v a d:=by
 obtain⟨i,j,m,n,x⟩:=info_parts E.info;obtain⟨b,d,u,w⟩:=BC (P:=l) (t:=I) (e:=Z) (sz:=sz) (n:=0) (vals:=[]) (cs:=[]) q (by simp) (by decide) (λo=>LQ E.ty j m n (by omega) (λy=>by simp[Instr.fill]) o);exact⟨b,d,u (ps:=#[]) rfl,w⟩
noncomputable def FH(a:Nat):Option Nat :=
 dV (((Zc 4294967296 a).length:Int)==(0:Int))
 (some (0:Nat))
 (dU (wh a) λd=>
 dU (chk .i64 (d+(1:Int))) λe=>
 dU (quo .i64 e (2:Int)) λf=>
 dU (gx [(1:Int)]) λg=>
 dU (jn g f) λh=>
 dU (Zg (σ:=Nat) (ρ:=Nat) (λb=>
 dU (jR a b) λi=>
 dU (mH b i.1) λj=>
 dU (pC j (1:Int)) λc=>
 dU (j6 c b) λk=>
 dV (decide ((0:Int)≤k))
 (some (.inr b))
 (some (.inl c)))
   Zh h) λl=>
 some l)
noncomputable def px(n:Int)(k:Int):Option Rat :=
 dU (kg n) λa=>
 dU (chk .i64 ((2:Int)*k)) λb=>
 dU (jn a b) λc=>
 dU (FH c) λd=>
 dU (gx [(1:Int)]) λe=>
 dU (jn e k) λf=>
 dU (gy false d f) λg=>
 some g
noncomputable def OW(k:Int):Option Rat :=
 dU (gx [(1:Int)]) λa=>
 dU (jn a k) λb=>
 dU (gx [(1:Int)]) λc=>
 dU (gy false b c) λd=>
 some d
noncomputable def F8(e:Int):Option Rat :=
 dV (decide (e<(0:Int)))
 (dU (gx [(1:Int)]) λa=>
 dU (jn a (IntKind.i64.wrap (-e))) λb=>
 dU (gx [(1:Int)]) λc=>
 dU (gy false c b) λd=>
 some d)
 (dU (OW e) λf=>
 some f)
theorem zu(a:Nat):∃s,s*s≤a∧a<(s+1)*(s+1):=by
 induction a with
 |zero=>exact⟨0,by decide,by decide⟩
 |succ a c=>
  obtain⟨s,d,f⟩:=c;by_cases h:a+1<(s+1)*(s+1)
  ·exact⟨s,by omega,h⟩
  ·refine⟨s+1,by omega,?_⟩;have e:(s+1+1)*(s+1+1)=(s+1)*(s+1)+2*s+3:=by
    simp only[Nat.add_mul,Nat.mul_add];omega
   omega
theorem QK{a:Nat}(c:d*d≤a)(f:0<e):d≤(e+a / e) / 2:=by
 rcases Nat.lt_or_ge d e with h |h
 · -- e=d+t
  obtain⟨t,rfl⟩:∃t,e=d+t:=⟨e-d,by omega⟩;rcases Nat.lt_or_ge d t with i |i
  ·generalize a / (d+t)=g;omega
  ·obtain⟨u,rfl⟩:∃u,d=t+u:=⟨d-t,by omega⟩;have j:u≤a / (t+u+t):=(Nat.le_div_iff_mul_le f).2 (by
    refine Nat.le_trans ?_ c;simp only[Nat.add_mul,Nat.mul_add];have:=Nat.mul_comm u t;omega)
   omega
 ·obtain⟨t,rfl⟩:∃t,d=e+t:=⟨d-e,by omega⟩;have j:e+2*t≤a / e:=(Nat.le_div_iff_mul_le f).2 (by
   refine Nat.le_trans ?_ c;simp only[Nat.add_mul,Nat.mul_add];have:=Nat.mul_comm e t;rw[show 2*t*e=2*(t*e) by rw[Nat.mul_assoc]];omega)
  omega
theorem sY{a:Nat}(c:a<(d+1)*(d+1))(g:d<e):(e+a / e) / 2<e∧2*((e+a / e) / 2-d)≤e-d:=by
 have:a / e≤d:=by
  have f:a / e<d+1:=(Nat.div_lt_iff_lt_mul (by omega)).2 (Nat.lt_of_lt_of_le c (Nat.mul_le_mul_left _ (by omega)));omega
 omega
theorem Xs{a:Nat}(o:a<2^d)(Q:d≤100000000):∃s,FH a=some s∧s*s≤a∧a<(s+1)*(s+1):=by
 obtain⟨s,l,m⟩:=zu a;refine⟨s,?_,l,m⟩;unfold FH;by_cases q:a=0
 ·subst q;have:s=0:=by
   rcases Nat.eq_zero_or_pos s with h |h
   ·exact h
   ·have:=Nat.mul_pos h h;omega
  subst this;rw[show((Zc 4294967296 0).length:Int)==0 from by unfold Zc;rfl,Ze]
 ·have D:(Zc 4294967296 a).length≠0:=λe=>q (by
   have:=fQ (B:=4294967296) (by decide) a;rw[List.length_eq_zero_iff.1 e]at this;exact this.symm)
  have P:=gU o;have c:∀{n:Nat},n<2^(d+2)→bl n≤1099511627776:=λh=>Nat.le_trans (gU h) (by omega);rw[show(((Zc 4294967296 a).length:Int)==0)=false from by simp[D],Zf];have y:gx [(1:Int)]=some 1:=by decide +kernel
  unfold wh jn;rw[iP (gH (by omega)),Za,show(bl a:Int)+1=((bl a+1:Nat):Int) by omega,Zk (by omega) (by omega),Za,show quo .i64 ((bl a+1:Nat):Int) (2:Int)=some (((bl a+1) / 2:Nat):Int) from CO (p:=bl a+1) (q:=2) (by decide) (by omega),Za,y,Za];rw[iP ⟨gH (by decide),by omega,by omega⟩,Za,tN,Nat.one_mul];refine Zu (y:=s) ?_ rfl;have G:s≤2^((bl a+1) / 2):=by
   refine Nat.le_of_lt_succ (Classical.byContradiction λh=>?_);have r:2^((bl a+1) / 2)≤s:=by omega
   have B:=Nat.mul_le_mul r r;rw[←Nat.pow_add]at B;have O:2^bl a≤2^((bl a+1) / 2+(bl a+1) / 2):=Nat.pow_le_pow_right (by decide) (by omega);have:=mV a;omega
  have E:(2:Nat)^((bl a+1) / 2)<2^(d+2):=Nat.pow_lt_pow_right (by decide) (by omega);have J:0<s:=by
   rcases Nat.eq_zero_or_pos s with h |h
   ·rw[h]at m;omega
   ·exact h
  have I:∀i x f,s≤x→x-s<2^i→x<2^(d+2)→i+1<f→Zg (σ:=Nat) (ρ:=Nat) (λk=>
    dU (jR a k) λL=>
    dU (mH k L.1) λM=>
    dU (pC M (1:Int)) λw=>
    dU (j6 w k) λK=>
    dV (decide ((0:Int)≤K))
    (some (.inr k))
    (some (.inl w))) f x=some s:=by
   intro i
   induction i with
   |zero=>
    intro x f F t j C;obtain⟨f,rfl⟩:∃g,f=g+1:=⟨f-1,by omega⟩;obtain rfl:x=s:=by omega
    have p:a / x<2^(d+2):=Nat.lt_of_le_of_lt (Nat.div_le_self a x) (Nat.lt_of_lt_of_le o (Nat.pow_le_pow_right (by decide) (by omega)));have u:=QK l J;unfold Zg jR mH pC j6;rw[iP ⟨jo (by omega),jo (c j),by omega⟩,Za];simp only;rw[iP ⟨gH (c j),gH (c p)⟩,Za,iP ⟨gH (Nat.le_trans (gU (show x+a / x<2^(d+3) by rw[Nat.pow_succ];omega)) (by omega)),by decide⟩,Za,Za];rw[show(x+a / x) / 2^(1:Int).toNat=(x+a / x) / 2 from rfl,eo (by unfold Z5;split <;> omega),Ze,Za]
   |succ i H=>
    intro x f F t j C;obtain⟨f,rfl⟩:∃g,f=g+1:=⟨f-1,by omega⟩;have p:a / x<2^(d+2):=Nat.lt_of_le_of_lt (Nat.div_le_self a x) (Nat.lt_of_lt_of_le o (Nat.pow_le_pow_right (by decide) (by omega)));have u:=QK l (show 0<x by omega);unfold Zg jR mH pC j6;rw[iP ⟨jo (by omega),jo (c j),by omega⟩,Za];simp only;rw[iP ⟨gH (c j),gH (c p)⟩,Za,iP ⟨gH (Nat.le_trans (gU (show x+a / x<2^(d+3) by rw[Nat.pow_succ];omega)) (by omega)),by decide⟩,Za,Za];rw[show(x+a / x) / 2^(1:Int).toNat=(x+a / x) / 2 from rfl];by_cases e:x=s
    ·subst e;rw[eo (by unfold Z5;split <;> omega),Ze,Za]
    ·obtain⟨A,N⟩:=sY m (show s<x by omega);rw[eg (by unfold Z5;rw[iP A];decide),Zf,Za];rw[Nat.pow_succ]at t;exact H _ f u (by omega) (by omega) (by omega)
  exact I (d+2) _ Zh G (by omega) E (ZR (by omega))
theorem Yh(n:0<c)(l:c<8)(m:d≤10000000):∃s:Nat,px (c:Int) (d:Int)=some (mkRat (s:Int) (2^d))∧s*s≤c*2^(2*d)∧c*2^(2*d)<(s+1)*(s+1):=by
 have k:c*2^(2*d)<2^(2*d+3):=by
  rw[Nat.pow_add,Nat.mul_comm (2^(2*d))];exact Nat.mul_lt_mul_of_pos_right l (Nat.two_pow_pos _)
 obtain⟨s,e,g,i⟩:=Xs k (by omega);refine⟨s,?_,g,i⟩;have hs:s<2^(d+2):=Classical.byContradiction λh=>by
  have j:=Nat.mul_le_mul (Nat.le_of_not_lt h) (Nat.le_of_not_lt h);rw[←Nat.pow_add,show d+2+(d+2)=(2*d+3)+1 by omega,Nat.pow_succ]at j;omega
 have f:gx [(1:Int)]=some 1:=by decide +kernel
 unfold px kg jn gy;rw[Za,tN,show(2:Int)*(d:Int)=((2*d:Nat):Int) by omega,Zk (by omega) (by omega),Za,iP ⟨gH (Nat.le_trans (gU (show c<2^3 by omega)) (by decide)),by omega,by omega⟩,Za,tN,e,Za,f,Za,iP ⟨gH (by decide),by omega,by omega⟩,Za,tN,Nat.one_mul,iP ⟨jo (Nat.le_trans (gU hs) (by omega)),jo (by rw[HY];omega),by have:=Nat.two_pow_pos d;omega⟩,Za];rfl
theorem XC(h:0<c)(g:c≤10000000):F8 (IntKind.i64.wrap (-(c:Int)))=some (mkRat 1 (2^c)):=by
 have w:∀z:Int,-9223372036854775808≤z→z≤9223372036854775807→IntKind.i64.wrap z=z:=λz e f=>by
  have:=Zk e f;unfold IntKind.wrap;simp[IntKind.bits,IntKind.signed];omega
 have d:gx [(1:Int)]=some 1:=by decide +kernel
 unfold F8 jn gy;rw[w _ (by omega) (by omega),eo (by omega),Ze,d,Za,w _ (by omega) (by omega),show - -(c:Int)=(c:Int) by omega,iP ⟨gH (by decide),by omega,by omega⟩,Za,Za,tN,Nat.one_mul,iP ⟨jo (by decide),jo (by rw[HY];omega),by have:=Nat.two_pow_pos c;omega⟩,Za];rfl
class Cring(F:Type) extends Add F,Mul F,Neg F,Sub F where
 zero:F
 one:F
 add_comm:∀x y:F,x+y=y+x
 add_assoc:∀x y z:F,x+y+z=x+(y+z)
 add_zero:∀x:F,x+zero=x
 add_neg:∀x:F,x+-x=zero
 sub_eq:∀x y:F,x-y=x+-y
 mul_comm:∀x y:F,x*y=y*x
 mul_assoc:∀x y z:F,x*y*z=x*(y*z)
 mul_one:∀x:F,x*one=x
 mul_add:∀x y z:F,x*(y+z)=x*y+x*z
inductive RX where
 |var (i:Nat)
 |zero
 |one
 |add (a b:RX)
 |mul (a b:RX)
 |neg (a:RX)
 |sub (a b:RX)
variable {δ ε:RX}
namespace RG
variable {F:Type} [Cring F]
def at0:List F→Nat→F
 |[],_=>Cring.zero
 |x :: _,0=>x
 |_ :: l,i+1=>at0 l i
def ev(l:List F):RX→F
 |.var i=>at0 l i
 |.zero=>Cring.zero
 |.one=>Cring.one
 |.add a b=>ev l a+ev l b
 |.mul a b=>ev l a*ev l b
 |.neg a=>-ev l a
 |.sub a b=>ev l a-ev l b
def em(l:List F):List Nat→F
 |[]=>Cring.one
 |i :: m=>at0 l i*em l m
def es(l:List F):List (List Nat)→F
 |[]=>Cring.zero
 |m :: s=>em l m+es l s
def lO(i:Nat):List Nat→List Nat
 |[]=>[i]
 |j :: m=>match Nat.ble i j with
  |true=>i :: j :: m
  |false=>j :: lO i m
def n8:List Nat→List Nat→List Nat
 |[],n=>n
 |i :: m,n=>lO i (n8 m n)
def Cs(m:List Nat):List (List Nat)→List (List Nat)
 |[]=>[]
 |n :: s=>n8 m n :: Cs m s
def nH:List (List Nat)→List (List Nat)→List (List Nat)
 |[],_=>[]
 |m :: s,t=>Cs m t++nH s t
def Vq:List Nat→List Nat→Bool
 |[],_=>true
 |_ :: _,[]=>false
 |i :: m,j :: n=>match Nat.beq i j with
  |true=>Vq m n
  |false=>Nat.ble i j
def ID:List Nat→List Nat→Bool
 |[],[]=>true
 |i :: m,j :: n=>match Nat.beq i j with
  |true=>ID m n
  |false=>false
 |_,_=>false
def lM(m:List Nat):List (List Nat)→List (List Nat)
 |[]=>[m]
 |n :: s=>match Vq m n with
  |true=>m :: n :: s
  |false=>n :: lM m s
def E4:List (List Nat)→List (List Nat)
 |[]=>[]
 |m :: s=>lM m (E4 s)
def IE:List (List Nat)→List (List Nat)→Bool
 |[],[]=>true
 |m :: s,n :: t=>match ID m n with
  |true=>IE s t
  |false=>false
 |_,_=>false
def nf:RX→List (List Nat)×List (List Nat)
 |.var i=>([[i]],[])
 |.zero=>([],[])
 |.one=>([[]],[])
 |.add a b=>((nf a).1++(nf b).1,(nf a).2++(nf b).2)
 |.mul a b=>(nH (nf a).1 (nf b).1++nH (nf a).2 (nf b).2,nH (nf a).1 (nf b).2++nH (nf a).2 (nf b).1)
 |.neg a=>((nf a).2,(nf a).1)
 |.sub a b=>((nf a).1++(nf b).2,(nf a).2++(nf b).1)
def chk(e f:RX):Bool:=IE (E4 ((nf e).1++(nf f).2)) (E4 ((nf f).1++(nf e).2))
open Cring
theorem zero_add(x:F):zero+x=x:=by rw[add_comm,add_zero]
theorem Bh(x y z:F):x+(y+z)=y+(x+z):=by rw[←add_assoc,add_comm x y,add_assoc]
theorem zI(x y z:F):x*(y*z)=y*(x*z):=by rw[←mul_assoc,mul_comm x y,mul_assoc]
theorem add_can{x y z:F}(h:x+y=x+z):y=z:=by
 have c:=congrArg (λw=>-x+w) h;simp only[←add_assoc]at c
 rwa [add_comm (-x) x,add_neg,zero_add,zero_add]at c
theorem mul_zero(x:F):x*zero=zero:=by
 have h:x*zero+x*zero=x*zero+zero:=by rw[←mul_add,add_zero,add_zero]
 exact add_can h
theorem mul_neg(x y:F):x * -y= -(x*y):=by
 refine add_can (x:=x*y) ?_;rw[←mul_add,add_neg,add_neg,mul_zero]
theorem neg_mul(x y:F):-x*y= -(x*y):=by rw[mul_comm,mul_neg,mul_comm]
theorem one_mul(x:F):one*x=x:=by rw[mul_comm,mul_one]
theorem add_mul(x y z:F):(x+y)*z=x*z+y*z:=by rw[mul_comm,mul_add,mul_comm z,mul_comm z]
theorem zero_mul(x:F):zero*x=zero:=by rw[mul_comm,mul_zero]
theorem yR(l:List F)(i:Nat)(m:List Nat):em l (lO i m)=at0 l i*em l m:=by
 induction m with
 |nil=>rfl
 |cons j m c=>
  unfold lO;split
  ·rfl
  ·show at0 l j*em l (lO i m)=at0 l i*(at0 l j*em l m);rw[c,zI]
theorem yS(l:List F)(m n:List Nat):em l (n8 m n)=em l m*em l n:=by
 induction m with
 |nil=>exact(one_mul _).symm
 |cons i m c=>
  show em l (lO i (n8 m n))=at0 l i*em l m*em l n;rw[yR,c,mul_assoc]
theorem qc(l:List F)(s t:List (List Nat)):es l (s++t)=es l s+es l t:=by
 induction s with
 |nil=>exact(zero_add _).symm
 |cons m s c=>
  show em l m+es l (s++t)=em l m+es l s+es l t;rw[c,add_assoc]
theorem rV(l:List F)(m:List Nat)(s:List (List Nat)):es l (Cs m s)=em l m*es l s:=by
 induction s with
 |nil=>exact(mul_zero _).symm
 |cons n s c=>
  show em l (n8 m n)+es l (Cs m s)=em l m*(em l n+es l s);rw[c,yS,mul_add]
theorem If(l:List F)(s t:List (List Nat)):es l (nH s t)=es l s*es l t:=by
 induction s with
 |nil=>exact(zero_mul _).symm
 |cons m s c=>
  show es l (Cs m t++nH s t)=(em l m+es l s)*es l t;rw[qc,c,rV,add_mul]
theorem yW(l:List F)(m:List Nat)(s:List (List Nat)):es l (lM m s)=em l m+es l s:=by
 induction s with
 |nil=>rfl
 |cons n s c=>
  unfold lM;split
  ·rfl
  ·show em l n+es l (lM m s)=em l m+(em l n+es l s);rw[c,Bh]
theorem O2(l:List F)(s:List (List Nat)):es l (E4 s)=es l s:=by
 induction s with
 |nil=>rfl
 |cons m s c=>
  show es l (lM m (E4 s))=em l m+es l s;rw[yW,c]
theorem TM:∀{m n:List Nat},ID m n=true→m=n
 |[],[],_=>rfl
 |i :: m,j :: n,h=>by
  unfold ID at h
  split at h
  ·rename_i e
   rw[eH e,TM h]
  ·exact Bool.noConfusion h
 |[],_ :: _,h=>by exact Bool.noConfusion h
 |_ :: _,[],h=>by exact Bool.noConfusion h
theorem Sj:∀{s t:List (List Nat)},IE s t=true→s=t
 |[],[],_=>rfl
 |m :: s,n :: t,h=>by
  unfold IE at h
  split at h
  ·rename_i e
   rw[TM e,Sj h]
  ·exact Bool.noConfusion h
 |[],_ :: _,h=>by exact Bool.noConfusion h
 |_ :: _,[],h=>by exact Bool.noConfusion h
theorem qr(l:List F):∀e:RX,ev l e+es l (nf e).2=es l (nf e).1
 |.var i=>by
  show at0 l i+zero=at0 l i*one+zero
  rw[mul_one]
 |.zero=>add_zero _
 |.one=>rfl
 |.add a b=>by
  show ev l a+ev l b+es l ((nf a).2++(nf b).2)=es l ((nf a).1++(nf b).1)
  rw[qc,qc,←qr l a,←qr l b]
  simp only[add_assoc,Bh]
 |.mul a b=>by
  show ev l a*ev l b+es l (nH (nf a).1 (nf b).2++nH (nf a).2 (nf b).1)=es l (nH (nf a).1 (nf b).1++nH (nf a).2 (nf b).2)
  rw[qc,qc,If,If,If,If,←qr l a,←qr l b]
  simp only[add_mul,mul_add]
  generalize ev l a*ev l b=x
  generalize ev l a*es l (nf b).2=y
  generalize es l (nf a).2*ev l b=z
  generalize es l (nf a).2*es l (nf b).2=w
  simp only[add_assoc]
  rw[Bh w z w,Bh z y]
 |.neg a=>by
  show -ev l a+es l (nf a).1=es l (nf a).2
  rw[←qr l a,←add_assoc,add_comm (-ev l a),add_neg,zero_add]
 |.sub a b=>by
  show ev l a-ev l b+es l ((nf a).2++(nf b).1)=es l ((nf a).1++(nf b).2)
  rw[qc,qc,←qr l a,←qr l b,sub_eq]
  rw[add_assoc,Bh (-ev l b),add_assoc (ev l a) (es l (nf a).2),←add_assoc (-ev l b) (ev l b),add_comm (-ev l b),add_neg,zero_add]
theorem chk_ok(l:List F)(h:chk δ ε=true):ev l δ=ev l ε:=by
 have d:=Sj h;have c:=congrArg (es l) d;rw[O2,O2,qc,qc,←qr l δ,←qr l ε]at c;have e:(es l (nf δ).2+es l (nf ε).2)+ev l δ=(es l (nf δ).2+es l (nf ε).2)+ev l ε:=by
  rw[add_comm,←add_assoc,c];simp only[add_assoc,add_comm,Bh]
 exact add_can e
end RG
def lW{F:Type}(l m:List F):Prop:=∃t,m=l++t
theorem ZuA(y:n)(h:lW R β):lW (y :: R) (y :: β):=by
 obtain⟨t,rfl⟩:=h;exact⟨t,rfl⟩
theorem LC{y:n}(h:lW (y :: R) β):∃t,β=y :: t∧lW R t:=by
 obtain⟨t,rfl⟩:=h;exact⟨_,rfl,t,rfl⟩
theorem xM(l:List n):lW l l:=⟨[],by simp⟩
theorem AQ{k:List n}(h:lW R β)(c:lW β k):lW R k:=by
 obtain⟨t,rfl⟩:=h;obtain⟨u,rfl⟩:=c;exact⟨t++u,by simp⟩
class Co{F:Type}(l:List F)(x:F)(i:outParam Nat)(l':outParam (List F))[Cring F]:Prop where
 at_:∀m,lW l' m→RG.at0 m i=x
 pre:lW l l'
instance {F:Type} [Cring F] (x:F):Co [] x 0 [x]:=⟨λm h=>by obtain⟨t,rfl,_⟩:=LC h;rfl,⟨[x],rfl⟩⟩
instance {F:Type} [Cring F] (l:List F) (x y:F) (i:Nat) (l':List F) [h:Co l x i l']:Co (y :: l) x (i+1) (y :: l'):=⟨λm k=>by obtain⟨t,rfl,k2⟩:=LC k;exact h.at_ t k2,ZuA y h.pre⟩
instance {F:Type} [Cring F] (l:List F) (x:F):Co (x :: l) x 0 (x :: l):=⟨λm h=>by obtain⟨t,rfl,_⟩:=LC h;rfl,xM _⟩
class RE{F:Type}(l:List F)(x:F)(e:outParam RX)(l':outParam (List F))[Cring F]:Prop where
 re:∀m,lW l' m→RG.ev m e=x
 pre:lW l l'
section
variable {F:Type} [Cring F] (l:List F)
instance (x:F) (i:Nat) (l':List F) [h:Co l x i l']:RE l x (.var i) l':=⟨h.at_,h.pre⟩
instance:RE l (Cring.zero:F) .zero l:=⟨λ_ _=>rfl,xM _⟩
instance:RE l (Cring.one:F) .one l:=⟨λ_ _=>rfl,xM _⟩
variable (x y:F) (e f:RX) (l1 l2:List F)
instance [h:RE l x e l1] [k:RE l1 y f l2]:RE l (x+y) (.add e f) l2:=⟨λm p=>by show RG.ev m e+RG.ev m f=_;rw[h.re m (AQ k.pre p),k.re m p],AQ h.pre k.pre⟩
instance [h:RE l x e l1] [k:RE l1 y f l2]:RE l (x*y) (.mul e f) l2:=⟨λm p=>by show RG.ev m e*RG.ev m f=_;rw[h.re m (AQ k.pre p),k.re m p],AQ h.pre k.pre⟩
instance [h:RE l x e l1] [k:RE l1 y f l2]:RE l (x-y) (.sub e f) l2:=⟨λm p=>by show RG.ev m e-RG.ev m f=_;rw[h.re m (AQ k.pre p),k.re m p],AQ h.pre k.pre⟩
instance [h:RE l x e l1]:RE l (-x) (.neg e) l1:=⟨λm p=>by show -RG.ev m e=_;rw[h.re m p],h.pre⟩
end
section
variable {F:Type} [Cring F] {x y a b a' b':F} {l1 l2:List F}
theorem rg[h:RE [] x δ l1][k:RE l1 y ε l2](c:RG.chk δ ε=true:=by decide +kernel):x=y:=by
 rw[←h.re l2 k.pre,←k.re l2 (xM _)];exact RG.chk_ok l2 c
theorem gu(t:a=b)(q:F)[h:RE [] (x+q*b) δ l1][k:RE l1 (y+q*a) ε l2](c:RG.chk δ ε=true:=by decide +kernel):x=y:=by
 have:=rg (x:=x+q*b) (y:=y+q*a) c;rw[t,Cring.add_comm,Cring.add_comm y]at this;exact RG.add_can this
theorem mK(t:a=b)(q:F)(e:a'=b')(d:F)[h:RE [] (x+(q*b+d*b')) δ l1][k:RE l1 (y+(q*a+d*a')) ε l2](c:RG.chk δ ε=true:=by decide +kernel):x=y:=by
 have:=rg (x:=x+(q*b+d*b')) (y:=y+(q*a+d*a')) c;rw[t,e,Cring.add_comm,Cring.add_comm y]at this;exact RG.add_can this
end
example {F:Type} [Cring F] (a b c:F):(a+b)*(a-b)=a*a-b*b+(c-c):=rg
example {F:Type} [Cring F] (a b c:F) (f:Nat→F) (h:a=b*c):(a+f 3)*(a-f 3)=(b*c+f 3)*(a-f 3):=gu h (a-f 3)
instance (priority:=10) cr0 {F:Type} [Cring F]:OfNat F 0:=⟨Cring.zero⟩
instance (priority:=10) cr1 {F:Type} [Cring F]:OfNat F 1:=⟨Cring.one⟩
instance {F:Type} [Cring F] (l:List F):RE l (0:F) .zero l:=⟨λ_ _=>rfl,xM _⟩
instance {F:Type} [Cring F] (l:List F):RE l (1:F) .one l:=⟨λ_ _=>rfl,xM _⟩
class OF(F:Type) extends Cring F where
 inv:F→F
 pos:F→Prop
 mul_inv:∀x:F,x≠0→x*inv x=1
 pos0:¬pos (0:F)
 pos1:pos (1:F)
 pos_add:∀x y:F,pos x→pos y→pos (x+y)
 pos_mul:∀x y:F,pos x→pos y→pos (x*y)
 tri:∀x:F,x=0∨pos x∨pos (-x)
section
variable {F:Type} [OF F]
instance oLT:LT F:=⟨λx y=>OF.pos (y-x)⟩
instance oLE:LE F:=⟨λx y=>¬OF.pos (x-y)⟩
instance oDv:Div F:=⟨λx y=>x*OF.inv y⟩
instance (l:List F) (x y:F) (e:RX) (l1:List F) [h:RE l (x*OF.inv y) e l1]:RE l (x / y) e l1:=⟨h.re,h.pre⟩
theorem ZB{x y a b:F}{d e:List F}(h:a<b)[i:RE [] (y-x) δ d][k:RE d (b-a) ε e](c:RG.chk δ ε=true:=by decide +kernel):x<y:=by
 show OF.pos (y-x);rw[rg (x:=y-x) (y:=b-a) c];exact h
theorem fJ{x y a b:F}{d e:List F}(h:a≤b)[i:RE [] (x-y) δ d][k:RE d (a-b) ε e](c:RG.chk δ ε=true:=by decide +kernel):x≤y:=by
 show¬OF.pos (x-y);rw[rg (x:=x-y) (y:=a-b) c];exact h
theorem iK{x y a b:F}{d e:List F}(h:a=b)[i:RE [] (x+b) δ d][k:RE d (y+a) ε e](c:RG.chk δ ε=true:=by decide +kernel):x=y:=by
 have:=rg (x:=x+b) (y:=y+a) c;rw[h,Cring.add_comm,Cring.add_comm y]at this;exact RG.add_can this
theorem lP{x:F}:0<x↔OF.pos x:=by
 show OF.pos (x-0)↔_;rw[show x-0=x from rg]
theorem jU(x:F):¬x<x:=by
 show¬OF.pos (x-x);rw[show x-x=0 from rg];exact OF.pos0
theorem I3{x y:F}:¬x≤y↔y<x:=Classical.not_not
theorem pq{x y:F}:¬x<y↔y≤x:=Iff.rfl
theorem lC{a b c d:F}(h:a<b)(k:c<d):a+c<b+d:=by
 show OF.pos (b+d-(a+c));rw[show b+d-(a+c)=(b-a)+(d-c) from rg];exact OF.pos_add _ _ h k
theorem qL(x y:F):x=y∨x<y∨y<x:=by
 rcases OF.tri (y-x) with h |h |h
 ·exact .inl (iK h.symm)
 ·exact .inr (.inl h)
 ·refine .inr (.inr ?_);show OF.pos (x-y);rw[show x-y= -(y-x) from rg];exact h
theorem kw{x y:F}:x≤y↔x<y∨x=y:=by
 constructor
 ·intro h;rcases qL x y with e |e |e
  ·exact .inr e
  ·exact .inl e
  ·exact absurd e h
 ·rintro(h |rfl)
  ·exact λk=>jU (x+y) (ZB (lC h k))
  ·exact jU x
theorem gK{x y:F}(h:x<y):x≤y:=kw.2 (.inl h)
theorem mz(x:F):x≤x:=jU x
theorem xQ{x y:F}(h:x=y):x≤y:=kw.2 (.inr h)
theorem iQ{a b c d:F}(h:a<b)(k:c≤d):a+c<b+d:=by
 rcases kw.1 k with k |rfl
 ·exact lC h k
 ·exact ZB h
theorem jp{a b c d:F}(h:a≤b)(k:c≤d):a+c≤b+d:=by
 rcases kw.1 h with h |rfl
 ·exact gK (iQ h k)
 ·exact fJ k
theorem Ff{x y z:F}(h:x≤y)(k:y≤z):x≤z:=fJ (jp h k)
theorem D'{x y z:F}(h:x<y)(k:y≤z):x<z:=ZB (iQ h k)
theorem MU{x y z:F}(h:x≤y)(k:y<z):x<z:=ZB (iQ k h)
theorem Hm{x y:F}(h:x≤y)(k:y≤x):x=y:=by
 rcases kw.1 h with h |h
 ·exact absurd h k
 ·exact h
theorem nE{x y:F}(h:x<y):x≠y:=λe=>jU x (by rw[e]at h ⊢;exact h)
theorem iv{x y:F}(h:0<x)(k:0<y):0<x*y:=lP.2 (OF.pos_mul _ _ (lP.1 h) (lP.1 k))
theorem ym{x y:F}(h:0≤x)(k:0≤y):0≤x*y:=by
 rcases kw.1 h with h |rfl
 ·rcases kw.1 k with k |rfl
  ·exact gK (iv h k)
  ·exact xQ (rg)
 ·exact xQ (rg)
theorem lk{c x y:F}(h:0≤c)(k:x≤y):c*x≤c*y:=fJ (ym h (show(0:F)≤y-x from fJ k))
theorem Hf{c x y:F}(h:0<c)(k:x<y):c*x<c*y:=ZB (iv h (show(0:F)<y-x from ZB k))
theorem oE:(0:F)<1:=lP.2 OF.pos1
theorem qG:(1:F)≠0:=λe=>nE (F:=F) oE e.symm
theorem jd{x:F}(h:x≠0):x*OF.inv x=1:=OF.mul_inv x h
theorem gV(x:F):x*0=0:=rg
theorem vK(x:F):0*x=0:=rg
theorem lQ(x:F):x*1=x:=rg
theorem ND(x:F):x+0=x:=rg
theorem vG{x:F}(h:x<x):False:=jU x h
theorem EQ{x:F}(h:x≠0):0<x*x:=by
 rcases OF.tri x with e |e |e
 ·exact absurd e h
 ·exact lP.2 (OF.pos_mul _ _ e e)
 ·rw[show x*x= -x * -x from rg];exact lP.2 (OF.pos_mul _ _ e e)
theorem DG(x:F):0≤x*x:=by
 by_cases h:x=0
 ·rw[h];exact xQ (rg)
 ·exact gK (EQ h)
theorem Xt{x:F}(h:0<x):0<OF.inv x:=by
 have d:x≠0:=λe=>nE h e.symm;have e:=jd d;have f:OF.inv x≠0:=λc=>by
  rw[c]at e;exact qG (F:=F) (by rw[←e];exact rg)
 have:=iv h (EQ f);rw[show x*(OF.inv x*OF.inv x)=OF.inv x from gu e (OF.inv x)]at this;exact this
theorem RT{x:F}(h:x≠0):OF.inv x≠0:=λe=>by
 have:=jd h
 rw[e,gV]at this
 exact qG this.symm
theorem Qk{x y:F}(h:x*y=0):x=0∨y=0:=by
 by_cases e:x=0
 ·exact .inl e
 ·refine .inr ?_;have:=jd e;exact mK this (-y) h (OF.inv x)
theorem nG{x y:F}(h:x≠0)(k:y≠0):x*y≠0:=λe=>(Qk e).elim h k
theorem jI{x:F}:0 < -x↔x<0:=⟨λh=>ZB h,λh=>ZB h⟩
theorem Lq{a b:F}(c:0<a)(h:b*b<a*a):0<a+b:=by
 rcases qL 0 (a+b) with e |e |e
 ·exact absurd h (by rw[show b*b=a*a from gu e (a-b)];exact jU _)
 ·exact e
 ·have d:0<a-b:=ZB (lC (lC c c) e);have:=iv (jI.2 e) d;exact absurd (ZB (lC h this)) (jU (0:F))
end
def gs{F:Type}[Cring F]:Nat→(Nat→F)→F
 |0,_=>0
 |n+1,f=>gs n f+f n
instance {F:Type} [Cring F] (l:List F) (f:Nat→F):RE l (gs 0 f) .zero l:=⟨λ_ _=>rfl,xM _⟩
instance {F:Type} [Cring F] (l:List F) (n:Nat) (f:Nat→F) (e:RX) (l1:List F) [h:RE l (gs n f+f n) e l1]:RE l (gs (n+1) f) e l1:=⟨h.re,h.pre⟩
section
variable {F:Type} [OF F]
theorem gN{f g:Nat→F}(h:∀j,j<c→f j=g j):gs c f=gs c g:=by
 induction c with
 |zero=>rfl
 |succ c d=>simp only[gs];rw[d λj e=>h j (by omega),h c (by omega)]
theorem Ik(n:Nat)(f g:Nat→F):gs n (λj=>f j+g j)=gs n f+gs n g:=by
 induction n with
 |zero=>exact rg
 |succ n c=>simp only[gs];rw[c];exact rg
theorem xV(n:Nat)(c:F)(f:Nat→F):gs n (λj=>c*f j)=c*gs n f:=by
 induction n with
 |zero=>exact rg
 |succ n d=>simp only[gs];rw[d];exact rg
theorem ga{n:Nat}{f:Nat→F}(h:∀j,j<n→f j=0):gs n f=0:=by
 induction n with
 |zero=>rfl
 |succ n c=>simp only[gs];rw[c λj d=>h j (by omega),h n (by omega)];exact rg
theorem ie{f:Nat→F}(l:d<c)(h:∀j,j<c→j≠d→f j=0):gs c f=f d:=by
 induction c with
 |zero=>omega
 |succ c k=>
  simp only[gs];by_cases e:d=c
  ·subst e;rw[ga λj g=>h j (by omega) (by omega)];exact rg
  ·rw[k (by omega) λj g i=>h j (by omega) i,h c (by omega) (by omega)];exact rg
theorem Kl(n:Nat)(f g:Nat→F):gs n (λj=>f j-g j)=gs n f-gs n g:=by
 induction n with
 |zero=>exact rg
 |succ n c=>simp only[gs];rw[c];exact rg
theorem Np(n:Nat)(f:Nat→F):gs n (λj=>-f j)= - gs n f:=by
 induction n with
 |zero=>exact rg
 |succ n c=>simp only[gs];rw[c];exact rg
theorem SS(n m:Nat)(f:Nat→Nat→F):gs n (λi=>gs m (f i))=gs m (λj=>gs n λi=>f i j):=by
 induction n with
 |zero=>exact(ga λj d=>rfl).symm
 |succ n c=>
  simp only[gs];rw[c,←Ik]
theorem nV(h:d<c)(f:Nat→F):gs c f=f d+gs c (λk=>if k=d then 0 else f k):=by
 have:gs c f=gs c (λk=>(if k=d then f k else 0)+(if k=d then 0 else f k)):=gN λk _=>by
  split <;> exact rg
 rw[this,Ik,ie h (λj _ e=>iN e),iP rfl]
theorem nW{f:Nat→F}(h:∀k,k<c→0≤f k):0≤gs c f:=by
 induction c with
 |zero=>exact mz _
 |succ c d=>exact fJ (jp (d λk e=>h k (by omega)) (h c (by omega)))
theorem zi{f:Nat→F}(h:0<gs c f):∃k,k<c∧0<f k:=by
 induction c with
 |zero=>exact absurd h (jU _)
 |succ c g=>
  by_cases d:0<f c
  ·exact⟨c,by omega,d⟩
  ·have h:0<gs c f+f c:=h;obtain⟨k,i,e⟩:=g (ZB (iQ h d));exact⟨k,by omega,e⟩
theorem YO(n m:Nat)(f:Nat→F):gs (n+m) f=gs n f+gs m (λi=>f (n+i)):=by
 induction m with
 |zero=>exact rg
 |succ m c=>
  show gs (n+m) f+f (n+m)=gs n f+(gs m (λi=>f (n+i))+f (n+m));rw[c];exact rg
end
abbrev Gx(F:Type):=Nat→Nat→F
namespace Su
def add(x y:Su):Su:=⟨x.p+y.p,x.q+y.q,x.r+y.r,x.s+y.s⟩
def neg(x:Su):Su:=⟨-x.p,-x.q,-x.r,-x.s⟩
def mul(x y:Su):Su:=⟨x.p*y.p+2*(x.q*y.q)+3*(x.r*y.r)+6*(x.s*y.s),x.p*y.q+x.q*y.p+3*(x.r*y.s+x.s*y.r),x.p*y.r+x.r*y.p+2*(x.q*y.s+x.s*y.q),x.p*y.s+x.s*y.p+x.q*y.r+x.r*y.q⟩
def rat(a:Rat):Su:=⟨a,0,0,0⟩
def tw3(x:Su):Su:=⟨x.p,x.q,-x.r,-x.s⟩
def tw2(x:Su):Su:=⟨x.p,-x.q,x.r,-x.s⟩
def cj(x:Su):Su:=mul (tw3 x) (tw2 (mul x (tw3 x)))
def nrm(x:Su):Rat:=(mul x (cj x)).p
def inv(x:Su):Su:=mul (cj x) (rat (1 / nrm x))
def div(x y:Su):Su:=mul x (inv y)
def isz(x:Su):Bool:=decide (x.p=0)&&(decide (x.q=0)&&(decide (x.r=0)&&decide (x.s=0)))
def wgh(s t u:Int):Int:=if s=t∨t=0 then s else if s=0 then t else s*u
def sgR(x:Rat):Int:=if x<0 then -1 else if x=0 then 0 else 1
def sg2(a b:Rat):Int:=wgh (sgR a) (sgR b) (sgR (a*a-2*(b*b)))
def sg(x:Su):Int:=wgh (sg2 x.p x.q) (sg2 x.r x.s) (sg2 (x.p*x.p+2*(x.q*x.q)-3*(x.r*x.r+2*(x.s*x.s))) (2*(x.p*x.q-3*(x.r*x.s))))
end Su
def ZA(d:Nat):Nat:=if d=0 then 1 else d
def Sz(k:Nat)(x:Su):Prop:=ZA (cn x).2<2^k∧((cn x).1.1.natAbs<2^k∧((cn x).1.2.1.natAbs<2^k∧((cn x).1.2.2.1.natAbs<2^k∧(cn x).1.2.2.2.natAbs<2^k)))
instance (k:Nat) (x:Su):Decidable (Sz k x):=inferInstanceAs (Decidable (_∧(_∧(_∧(_∧_)))))
def fZ:Nat:=100000
def o7(x y:Su):Option Su:=if Sz fZ x∧Sz fZ y then some (x.add y) else none
def vo(x y:Su):Option Su:=if Sz fZ x∧Sz fZ y then some (x.add y.neg) else none
def jC(x y:Su):Option Su:=if Sz fZ x∧Sz fZ y then some (x.mul y) else none
def Bv(x y:Su):Option (Su×Int):=if Sz fZ x∧Sz fZ y then some (if y.isz=true then(jK,3) else(x.div y,0)) else none
def qX(x:Su):Option Su:=if Sz fZ x then some x.neg else none
def vW(x:Su):Option Bool:=if Sz fZ x then some x.isz else none
def DQ(x y:Su):Option Bool:=if Sz fZ x∧Sz fZ y then some (x.add y.neg).isz else none
def nu(x:Su):Option Int:=if Sz fZ x then some x.sg else none
def oF(x y:Su):Option Int:=if Sz fZ x∧Sz fZ y then some (x.add y.neg).sg else none
def G3(x:Su)(y:Rat):Option Su:=if Sz fZ (Su.rat y) then some (Su.rat y) else none
def FN(x:Su):Option (Rat×Rat×Rat×Rat):=if Sz fZ x then some (x.p,x.q,x.r,x.s) else none
def Id(a:Rat×Rat×Rat×Rat):Option Su:=if Sz fZ ⟨a.1,a.2.1,a.2.2.1,a.2.2.2⟩ then some ⟨a.1,a.2.1,a.2.2.1,a.2.2.2⟩ else none
structure Qd(F:Type) where
 u:F
 v:F
namespace Qd
theorem ext'{x y:Qd n}(h:x.u=y.u)(k:x.v=y.v):x=y:=by
 cases x;cases y;simp only at h k;subst h k;rfl
variable {F:Type} [OF F]
abbrev N(n:F)(x:Qd F):F:=x.u*x.u-n*(x.v*x.v)
abbrev ml(n:F)(x y:Qd F):Qd F:=⟨x.u*y.u+n*(x.v*y.v),x.u*y.v+x.v*y.u⟩
def Pos(n:F)(x:Qd F):Prop:=(0<N n x∧0<x.u)∨(N n x<0∧0<x.v)
theorem EO(n:F)(x y z:Qd F):ml n (ml n x y) z=ml n x (ml n y z):=ext' (rg) (rg)
theorem zH(n:F)(x y z:Qd F):ml n x ⟨y.u+z.u,y.v+z.v⟩=⟨(ml n x y).u+(ml n x z).u,(ml n x y).v+(ml n x z).v⟩:=ext' (rg) (rg)
@[reducible] def cr(n:F):Cring (Qd F) where
 add x y:=⟨x.u+y.u,x.v+y.v⟩
 mul:=ml n
 neg x:=⟨-x.u,-x.v⟩
 sub x y:=⟨x.u-y.u,x.v-y.v⟩
 zero:=⟨0,0⟩
 one:=⟨1,0⟩
 add_comm x y:=ext' (Cring.add_comm x.u y.u) (Cring.add_comm x.v y.v)
 add_assoc x y z:=ext' (Cring.add_assoc x.u y.u z.u) (Cring.add_assoc x.v y.v z.v)
 add_zero x:=ext' (Cring.add_zero x.u) (Cring.add_zero x.v)
 add_neg x:=ext' (Cring.add_neg x.u) (Cring.add_neg x.v)
 sub_eq x y:=ext' (Cring.sub_eq x.u y.u) (Cring.sub_eq x.v y.v)
 mul_comm x y:=ext' (show x.u*y.u+n*(x.v*y.v)=y.u*x.u+n*(y.v*x.v) from rg) (show x.u*y.v+x.v*y.u=y.u*x.v+y.v*x.u from rg)
 mul_assoc:=EO n
 mul_one x:=ext' (show x.u*1+n*(x.v*0)=x.u from rg) (show x.u*0+x.v*1=x.v from rg)
 mul_add:=zH n
variable {n:F} (hn:0<n) (hs:∀x:F,x*x≠n) {x y:Qd F}
include hs in
theorem N_ne (h:x.u≠0∨x.v≠0):N n x≠0:=λe=>by
 by_cases hv:x.v=0
 ·have hu:x.u≠0:=h.resolve_right λk=>k hv
  unfold N at e
  rw[hv]at e
  exact nG hu hu (iK e)
 ·have i:=jd hv
  have e2:x.u*x.u-n*(x.v*x.v)=0:=e
  refine hs (x.u*OF.inv x.v) ?_
  have e3:x.u*OF.inv x.v*(x.u*OF.inv x.v)=n*(x.v*OF.inv x.v)*(x.v*OF.inv x.v):=gu e2 (OF.inv x.v*OF.inv x.v)
  rw[e3,i];exact rg
theorem IK(x y:Qd F):N n (ml n x y)=N n x*N n y:=rg
include hn in
theorem p1 (h:0<N n x) (h2:0<N n y) (hx:0<x.u) (hy:0<y.u):0<(ml n x y).u:=by
 refine Lq (iv hx hy) ?_;have a1:n*(y.v*y.v)<y.u*y.u:=ZB h2;have a2:n*(x.v*x.v)<x.u*x.u:=ZB h;have b1:=lk (ym (gK hn) (DG x.v)) (gK a1);have b2:=Hf (iv hy hy) a2;exact ZB (iQ b2 b1)
include hn in
theorem p2 (h:0<N n x) (h2:N n y<0) (hx:0<x.u) (hy:0<y.v):0<(ml n x y).v:=by
 refine Lq (iv hx hy) ?_;have a1:y.u*y.u<n*(y.v*y.v):=ZB h2;have a2:n*(x.v*x.v)<x.u*x.u:=ZB h;have b1:=lk (DG x.v) (gK a1);have b2:=Hf (iv hy hy) a2;exact ZB (iQ b2 b1)
include hn in
theorem p3 (h:N n x<0) (h2:N n y<0) (hx:0<x.v) (hy:0<y.v):0<(ml n x y).u:=by
 have a1:y.u*y.u<n*(y.v*y.v):=ZB h2;have a2:x.u*x.u<n*(x.v*x.v):=ZB h;have b1:=lk (DG x.u) (gK a1);have b2:=Hf (iv hn (iv hy hy)) a2;have:=Lq (b:=x.u*y.u) (iv hn (iv hx hy)) (ZB (iQ b2 b1));exact ZB this
include hn in
theorem pos_ml (h:Pos n x) (k:Pos n y):Pos n (ml n x y):=by
 unfold Pos;rw[IK];rcases h with ⟨h,h2⟩ | ⟨h,h2⟩ <;> rcases k with ⟨k,k2⟩ | ⟨k,k2⟩
 ·exact .inl ⟨iv h k,p1 hn h k h2 k2⟩
 ·exact .inr ⟨jI.1 (ZB (iv h (jI.2 k))),p2 hn h k h2 k2⟩
 ·exact .inr ⟨jI.1 (ZB (iv k (jI.2 h))),ZB (p2 hn k h k2 h2)⟩
 ·exact .inl ⟨ZB (iv (jI.2 h) (jI.2 k)),p3 hn h k h2 k2⟩
include hs in
theorem pos_one_add (h:Pos n x):Pos n ⟨x.u+1,x.v⟩:=by
 have e:N n ⟨x.u+1,x.v⟩=N n x+(x.u+x.u+1):=rg;rcases h with ⟨h,h2⟩ | ⟨h,h2⟩
 ·exact .inl ⟨ZB (lC h (lC (lC h2 h2) (oE (F:=F)))),D' h2 (fJ (gK (F:=F) oE))⟩
 ·rcases qL (N n ⟨x.u+1,x.v⟩) 0 with k | k | k
  ·exact absurd k (N_ne hs (.inr (nE h2).symm))
  ·exact .inr ⟨k,h2⟩
  ·refine .inl ⟨k,I3.1 λq=>?_⟩;have q:x.u+1≤0:=q;have h3:x.u+x.u+1<0:=ZB (iQ (iQ (oE (F:=F)) q) q);rw[e]at k;exact absurd (ZB (lC (lC h h3) k)) (jU (0:F))
include hs in
theorem inv_ok (h:x.u≠0∨x.v≠0):ml n x ⟨x.u*OF.inv (N n x),-x.v*OF.inv (N n x)⟩=⟨1,0⟩:=by
 have i:=jd (N_ne hs h);have i2:(x.u*x.u-n*(x.v*x.v))*OF.inv (N n x)=1:=i;exact ext' (iK i2) (rg)
theorem not_both(h:Pos n x):¬Pos n ⟨-x.u,-x.v⟩:=λk=>by
 have e:N n ⟨-x.u,-x.v⟩=N n x:=rg
 unfold Pos at k
 rw[e]at k
 have c:∀{z:F},0<z→0 < -z→False:=λ{z} a b=>jU (0:F) (ZB (lC a b))
 rcases h with⟨h,d⟩ |⟨h,d⟩ <;> rcases k with⟨k,f⟩ |⟨k,f⟩
 ·exact c d f
 ·exact c h (jI.2 k)
 ·exact c k (jI.2 h)
 ·exact c d f
theorem ne_or(h:x≠⟨0,0⟩):x.u≠0∨x.v≠0:=by
 by_cases c:x.u=0
 ·exact .inr λd=>h (ext' c d)
 ·exact .inl c
include hn hs in
theorem tri' (x:Qd F):x=⟨0,0⟩∨Pos n x∨Pos n ⟨-x.u,-x.v⟩:=by
 by_cases h:x=⟨0,0⟩
 ·exact .inl h
 ·refine .inr ?_;have hN:=N_ne hs (ne_or h);have e:N n ⟨-x.u,-x.v⟩=N n x:=rg;unfold Pos;rw[e];have u0:0<N n x→x.u≠0:=λk e=>by
   unfold N at k;rw[e]at k;exact absurd (ZB (iQ k (ym (gK hn) (DG x.v)))) (jU (0:F))
  have v0:N n x<0→x.v≠0:=λk e=>by
   unfold N at k;rw[e]at k;exact absurd (ZB (iQ k (DG x.u))) (jU (0:F))
  rcases qL (N n x) 0 with k | k | k
  ·exact absurd k hN
  ·rcases qL x.v 0 with q | q | q
   ·exact absurd q (v0 k)
   ·exact .inr (.inr ⟨k,jI.2 q⟩)
   ·exact .inl (.inr ⟨k,q⟩)
  ·rcases qL x.u 0 with q | q | q
   ·exact absurd q (u0 k)
   ·exact .inr (.inl ⟨k,jI.2 q⟩)
   ·exact .inl (.inl ⟨k,q⟩)
include hn hs in
theorem pos_add' (h:Pos n x) (k:Pos n y):Pos n ⟨x.u+y.u,x.v+y.v⟩:=by
 have hy:y.u≠0∨y.v≠0:=ne_or λe=>not_both k (by rw[e]at k ⊢;rw[show (⟨-0,-0⟩:Qd F)=⟨0,0⟩ from ext' (rg) (rg)];exact k)
 let w:Qd F:=⟨y.u*OF.inv (N n y),-y.v*OF.inv (N n y)⟩
 have e:=inv_ok hs hy;have hw:Pos n w:=by
  rcases tri' hn hs w with q | q | q
  ·rw[show (⟨y.u*OF.inv (N n y),-y.v*OF.inv (N n y)⟩:Qd F)=⟨0,0⟩ from q]at e;have this:y.u*0+n*(y.v*0)=1:=congrArg Qd.u e;exact absurd (iK this.symm) (qG (F:=F))
  ·exact q
  ·have e2:ml n y ⟨-w.u,-w.v⟩=⟨-1,-0⟩:=by
    have e3:ml n y w=⟨1,0⟩:=e;have a:=congrArg Qd.u e3;have b:=congrArg Qd.v e3;exact ext' (by show y.u * -w.u+n*(y.v * -w.v) = -1;have a:y.u*w.u+n*(y.v*w.v)=1:=a;exact gu a (-1)) (by show y.u * -w.v+y.v * -w.u = -0;have b:y.u*w.v+y.v*w.u=0:=b;exact gu b (-1))
   have p:=pos_ml hn k q;rw[e2]at p;exact absurd p (not_both (x:=⟨1,0⟩) (.inl ⟨by rw[show N n (⟨1,0⟩:Qd F)=1 from rg];exact oE,oE⟩))
 have h1:=pos_one_add hs (pos_ml hn h hw);have h2:=pos_ml hn k h1;have e3:ml n y w=⟨1,0⟩:=e;have a:y.u*w.u+n*(y.v*w.v)=1:=congrArg Qd.u e3;have b:y.u*w.v+y.v*w.u=0:=congrArg Qd.v e3;have:ml n y ⟨(ml n x w).u+1,(ml n x w).v⟩=⟨x.u+y.u,x.v+y.v⟩:=ext' (mK a x.u b (n*x.v)) (mK a x.v b x.u);rw[this]at h2;exact h2
end Qd
@[reducible] def ta{F:Type}[OF F](n:F)(hn:0<n)(hs:∀x:F,x*x≠n):OF (Qd F) where
 toCring:=Qd.cr n
 inv x:=⟨x.u*OF.inv (Qd.N n x),-x.v*OF.inv (Qd.N n x)⟩
 pos:=Qd.Pos n
 mul_inv x h:=Qd.inv_ok hs (Qd.ne_or h)
 pos0 h:=Qd.not_both h (by show Qd.Pos n ⟨-0,-0⟩;rw[show(⟨-0,-0⟩:Qd F)=⟨0,0⟩ from Qd.ext' (rg) (rg)];exact h)
 pos1:=.inl ⟨by show(0:F)<Qd.N n ⟨1,0⟩;rw[show Qd.N n (⟨1,0⟩:Qd F)=1 from rg];exact oE,oE⟩
 pos_add _ _:=Qd.pos_add' hn hs
 pos_mul _ _:=Qd.pos_ml hn
 tri:=Qd.tri' hn hs
def SGN{F:Type}[OF F](s:Int)(x:F):Prop:=(s=1∧0<x)∨(s=0∧x=0)∨(s= -1∧x<0)
namespace SGN
variable {F:Type} [OF F] {x:F}
theorem neg(h:SGN j x):SGN (-j) (-x):=by
 rcases h with⟨rfl,h⟩ |⟨rfl,h⟩ |⟨rfl,h⟩
 ·exact .inr (.inr ⟨rfl,ZB h⟩)
 ·exact .inr (.inl ⟨rfl,by rw[h];exact rg⟩)
 ·exact .inl ⟨rfl,ZB h⟩
theorem one{s:Int}(h:SGN s x):s=1↔0<x:=by
 rcases h with⟨rfl,h⟩ |⟨rfl,h⟩ |⟨rfl,h⟩
 ·exact⟨λ_=>h,λ_=>rfl⟩
 ·exact⟨λe=>absurd e (by decide),λe=>absurd h (nE e).symm⟩
 ·exact⟨λe=>absurd e (by decide),λe=>absurd (lC e h) (by rw[show(0:F)+x=x+0 from rg];exact jU _)⟩
theorem gt(h:SGN j x):0<j↔0<x:=by
 rw[←h.one];rcases h with⟨rfl,h⟩ |⟨rfl,h⟩ |⟨rfl,h⟩ <;> decide
theorem lt(h:SGN j x):j<0↔x<0:=by
 have:=h.neg.gt;rw[jI]at this;rw[←this];omega
theorem zero(h:SGN j x):j=0↔x=0:=by
 have a:=h.gt;have b:=h.lt;constructor
 ·rintro rfl;rcases qL x 0 with e |e |e
  ·exact e
  ·exact absurd (b.2 e) (by decide)
  ·exact absurd (a.2 e) (by decide)
 ·intro e;rw[e]at a b;have a:=mt a.1 (jU 0);have b:=mt b.1 (jU 0);omega
theorem qd{s:Int}{t:Int}{w:Int}{n:F}(g:0<n)(hs:∀x:F,x*x≠n){u v:F}(c:SGN s u)(d:SGN t v)(f:SGN w (u*u-n*(v*v))):@SGN _ (ta n g hs) (Su.wgh s t w) ⟨u,v⟩:=by
 have j:∀{u v:F} {s t w:Int},SGN s u→SGN t v→SGN w (u*u-n*(v*v))→0<Su.wgh s t w→Qd.Pos n ⟨u,v⟩:=λ{u v s t w} c d f h=>by
  have o:0<u→v=0→Qd.Pos n ⟨u,v⟩:=λh e=>.inl ⟨by show 0<u*u-n*(v*v);rw[e];exact ZB (iv h h),h⟩;have p:u=0→0<v→Qd.Pos n ⟨u,v⟩:=λe h=>.inr ⟨by show u*u-n*(v*v)<0;rw[e];exact ZB (iv g (iv h h)),h⟩;rcases c with⟨rfl,c⟩ |⟨rfl,c⟩ |⟨rfl,c⟩ <;> rcases d with⟨rfl,d⟩ |⟨rfl,d⟩ |⟨rfl,d⟩
  ·rcases qL (u*u-n*(v*v)) 0 with e |e |e
   ·exact absurd e (Qd.N_ne (x:=⟨u,v⟩) hs (.inl (nE c).symm))
   ·exact .inr ⟨e,d⟩
   ·exact .inl ⟨e,c⟩
  ·exact o c d
  ·exact .inl ⟨f.gt.1 (by have h:0<1*w:=h;omega),c⟩
  ·exact p c d
  ·exact absurd h (by show¬(0:Int)<0;decide)
  ·exact absurd h (by show¬(0:Int) < -1;decide)
  ·exact .inr ⟨f.lt.1 (by have h:0 < -1*w:=h;omega),d⟩
  ·exact absurd h (by show¬(0:Int) < -1;decide)
  ·exact absurd h (by show¬(0:Int) < -1;decide)
 letI:=ta n g hs
 have m:∀{u:F} {s:Int},SGN s u→s=1∨s=0∨s= -1:=λh=>by
  rcases h with⟨e,_⟩ |⟨e,_⟩ |⟨e,_⟩
  ·exact .inl e
  ·exact .inr (.inl e)
  ·exact .inr (.inr e)
 have l:Su.wgh (-s) (-t) w= - Su.wgh s t w:=by
  rcases m c with rfl |rfl |rfl <;> rcases m d with rfl |rfl |rfl <;> (simp[Su.wgh])
 have k:Su.wgh s t w=1∨Su.wgh s t w=0∨Su.wgh s t w= -1:=by
  rcases m c with rfl |rfl |rfl <;> rcases m d with rfl |rfl |rfl <;> rcases m f with rfl |rfl |rfl <;> decide
 have hp:=j c d f;have i:=j c.neg d.neg (show SGN w (-u * -u-n*(-v * -v)) by rw[show -u * -u-n*(-v * -v)=u*u-n*(v*v) from rg];exact f);rw[l]at i;rcases k with e |e |e
 ·exact .inl ⟨e,lP.2 (hp (by omega))⟩
 ·refine .inr (.inl ⟨e,?_⟩);have:s=0∧t=0:=by
   rcases m c with rfl |rfl |rfl <;> rcases m d with rfl |rfl |rfl <;> rcases f with⟨rfl,f⟩ |⟨rfl,f⟩ |⟨rfl,f⟩ <;> first |exact⟨rfl,rfl⟩ |exact absurd e (by decide) |skip
   all_goals exact absurd f (Qd.N_ne (x:=⟨u,v⟩) hs (.inl λe=>by have:=c.zero.2 e;omega))
  rw[show(⟨u,v⟩:Qd F)=⟨0,0⟩ from Qd.ext' (c.zero.1 this.1) (d.zero.1 this.2)];rfl
 ·exact .inr (.inr ⟨e,jI.1 (lP.2 (i (by omega)))⟩)
end SGN
theorem F0(k:0<c)(h:((j:Int):Rat)=H*((c:Nat):Rat)):H.den∣c∧j=H.num*((c / H.den:Nat):Int):=by
 have n:((c:Nat):Rat)≠0:=by
  intro e;have:(c:Rat)=((0:Nat):Rat):=by simpa using e
  have:=Rat.natCast_inj.1 this;omega
 have g:H=mkRat j c:=by
  rw[Rat.mkRat_eq_div];have:((j:Int):Rat) / ((c:Nat):Rat)=H:=by rw[h];grind
  rw[←this]
 have d:H.den=c / Nat.gcd j.natAbs c:=by rw[g,Rat.den_mkRat,iN (by omega),Nat.gcd_comm]
 have i:H.num=j / ((Nat.gcd j.natAbs c:Nat):Int):=by rw[g,Rat.num_mkRat,iN (by omega),Nat.gcd_comm]
 have f:Nat.gcd j.natAbs c∣c:=Nat.gcd_dvd_right _ _;have m:((Nat.gcd j.natAbs c:Nat):Int)∣j:=Int.ofNat_dvd_left.2 (Nat.gcd_dvd_left _ _);have o:0<Nat.gcd j.natAbs c:=Nat.gcd_pos_of_pos_right _ k;have l:c / H.den=Nat.gcd j.natAbs c:=by
  rw[d];exact Nat.div_div_self f (by omega)
 refine⟨by rw[d];exact Nat.div_dvd_of_dvd f,?_⟩;rw[l,i];exact(Int.ediv_mul_cancel m).symm
structure uY(n:I4)(d:Nat)(x:Su):Prop where
 pos:0<d
 p:((n.1:Int):Rat)=x.p*((d:Nat):Rat)
 q:((n.2.1:Int):Rat)=x.q*((d:Nat):Rat)
 r:((n.2.2.1:Int):Rat)=x.r*((d:Nat):Rat)
 s:((n.2.2.2:Int):Rat)=x.s*((d:Nat):Rat)
 low:∀k:Nat,k∣d→k∣n.1.natAbs→k∣n.2.1.natAbs→k∣n.2.2.1.natAbs→k∣n.2.2.2.natAbs→k=1
theorem H7(e:H.den∣c):H.num*((c*d / H.den:Nat):Int)=jZ c H*(d:Int):=by
 unfold jZ;rw[Nat.mul_comm c d,Nat.mul_div_assoc d e,Int.natCast_mul];rw[Int.mul_comm (d:Int),Int.mul_assoc]
theorem uY.cn{n:I4}{d:Nat}(h:uY n d m):cn m=(n,ZJ d):=by
 obtain⟨o,f⟩:=F0 h.pos h.p;obtain⟨p,g⟩:=F0 h.pos h.q;obtain⟨q,i⟩:=F0 h.pos h.r;obtain⟨r,j⟩:=F0 h.pos h.s;have s:fF m∣d:=Nat.lcm_dvd (Nat.lcm_dvd o p) (Nat.lcm_dvd q r);obtain⟨k,c⟩:=s;have u:m.p.den∣fF m:=Nat.dvd_trans (Nat.dvd_lcm_left _ _) (Nat.dvd_lcm_left _ _);have w:m.q.den∣fF m:=Nat.dvd_trans (Nat.dvd_lcm_right _ _) (Nat.dvd_lcm_left _ _);have x:m.r.den∣fF m:=Nat.dvd_trans (Nat.dvd_lcm_left _ _) (Nat.dvd_lcm_right _ _);have y:m.s.den∣fF m:=Nat.dvd_trans (Nat.dvd_lcm_right _ _) (Nat.dvd_lcm_right _ _);rw[c,H7 u]at f;rw[c,H7 w]at g;rw[c,H7 x]at i;rw[c,H7 y]at j;have l:∀{a b:Int},a=b*(k:Int)→k∣a.natAbs:=λ{a b} e=>by
  rw[e,Int.natAbs_mul,Int.natAbs_natCast];exact Nat.dvd_mul_left _ _
 have t:k=1:=h.low k ⟨fF m,by rw[c,Nat.mul_comm]⟩ (l f) (l g) (l i) (l j);subst t;rw[Nat.mul_one]at c;simp only[Int.natCast_one,Int.mul_one]at f g i j;obtain⟨A,B,C,D⟩:=n;simp only at f g i j;unfold Go.Eng.cn;rw[←f,←g,←i,←j,c]
theorem Ir(y:Rat):((y.num:Int):Rat)=y*((y.den:Nat):Rat):=by
 have e:=Rat.mkRat_self y;rw[Rat.mkRat_eq_div]at e;have f:((y.den:Nat):Rat)≠0:=by
  intro e;have:(y.den:Rat)=((0:Nat):Rat):=by simpa using e
  exact y.den_nz (Rat.natCast_inj.1 this)
 have d:((y.num:Int):Rat)=y*((y.den:Nat):Rat):=by
  have c:=congrArg (· * ((y.den:Nat):Rat)) e;simp only[Rat.div_def,Rat.mul_assoc,Rat.inv_mul_cancel _ f,Rat.mul_one]at c;exact c
 exact d
theorem Hv(x:Su):uY (jZ (fF x) x.p,jZ (fF x) x.q,jZ (fF x) x.r,jZ (fF x) x.s) (fF x) x:=by
 have o:x.p.den∣fF x:=Nat.dvd_trans (Nat.dvd_lcm_left _ _) (Nat.dvd_lcm_left _ _);have p:x.q.den∣fF x:=Nat.dvd_trans (Nat.dvd_lcm_right _ _) (Nat.dvd_lcm_left _ _);have q:x.r.den∣fF x:=Nat.dvd_trans (Nat.dvd_lcm_left _ _) (Nat.dvd_lcm_right _ _);have r:x.s.den∣fF x:=Nat.dvd_trans (Nat.dvd_lcm_right _ _) (Nat.dvd_lcm_right _ _);have n:0<fF x:=Nat.lcm_pos (Nat.lcm_pos x.p.den_pos x.q.den_pos) (Nat.lcm_pos x.r.den_pos x.s.den_pos);have val:∀{y:Rat},y.den∣fF x→((jZ (fF x) y:Int):Rat)=y*((fF x:Nat):Rat):=λ{y} j=>by
  obtain⟨k,H⟩:=j;unfold jZ;rw[H,Nat.mul_div_cancel_left k y.den_pos,Rat.intCast_mul];have s:=Ir y;rw[s,Rat.natCast_mul,Rat.mul_assoc];rfl
 refine⟨n,val o,val p,val q,val r,λk g u w A B=>?_⟩;have m:0<k:=Nat.pos_of_dvd_of_pos g n;have step:∀{y:Rat},y.den∣fF x→k∣(jZ (fF x) y).natAbs→y.den∣fF x / k:=λ{y} j h=>by
  obtain⟨c,f⟩:=j;have G:k∣c:=by
   have C:k∣y.num.natAbs*c:=by
    unfold jZ at h
    rwa [f,Nat.mul_div_cancel_left c y.den_pos,Int.natAbs_mul,Int.natAbs_natCast]at h
   have D:k∣y.den*c:=f▸ g;have E:=Nat.dvd_gcd C D
   rwa [Nat.gcd_mul_right,show Nat.gcd y.num.natAbs y.den=1 from y.reduced,Nat.one_mul]at E
  obtain⟨d,F⟩:=G;refine⟨d,?_⟩;rw[f,F,show y.den*(k*d)=k*(y.den*d) by rw[←Nat.mul_assoc,Nat.mul_comm y.den k,Nat.mul_assoc],Nat.mul_div_cancel_left _ m]
 have l:fF x∣fF x / k:=Nat.lcm_dvd (Nat.lcm_dvd (step o u) (step p w)) (Nat.lcm_dvd (step q A) (step r B));obtain⟨e,i⟩:=g;rw[i,Nat.mul_div_cancel_left _ m,←i]at l;have t:0<e:=by
  rcases Nat.eq_zero_or_pos e with h |h
  ·rw[h,Nat.mul_zero]at i;omega
  ·exact h
 have J:=Nat.le_of_dvd t l;rcases Nat.lt_or_ge 1 k with h |h
 ·have I:2*e≤k*e:=mR e h;omega
 ·omega
theorem K0{a b:Nat}(h:a*a=2*b):∃c,a=2*c:=by
 refine⟨a / 2,?_⟩;have d:=Nat.mul_mod a a 2;rcases(by omega:a%2=0∨a%2=1) with e |e
 ·omega
 ·rw[e]at d;omega
theorem Ar{a b:Nat}(h:a*a=3*b):∃c,a=3*c:=by
 refine⟨a / 3,?_⟩;have d:=Nat.mul_mod a a 3;rcases(by omega:a%3=0∨a%3=1∨a%3=2) with e |e |e
 ·omega
 ·rw[e]at d;omega
 ·rw[e]at d;omega
theorem zK:∀(b a:Nat),a*a=2*(b*b)→b=0:=by
 intro b
 induction b using Nat.strongRecOn with
 |ind b j=>
  intro a h;obtain⟨c,rfl⟩:=K0 h;have f:b*b=2*(c*c):=by
   have:2*c*(2*c)=2*(2*(c*c)):=by rw[Nat.mul_assoc,Nat.mul_left_comm c 2 c]
   omega
  rcases Nat.eq_zero_or_pos b with e |g
  ·exact e
  ·have i:c<b:=by
    rcases Nat.lt_or_ge c b with d |d
    ·exact d
    ·have:=Nat.mul_le_mul d d;have:=Nat.mul_pos g g;omega
   have:=j c i b f;subst this;simp only[Nat.mul_zero]at f;rcases Nat.mul_eq_zero.1 f with e |e <;> exact e
theorem zL:∀(b a:Nat),a*a=3*(b*b)→b=0:=by
 intro b
 induction b using Nat.strongRecOn with
 |ind b j=>
  intro a h;obtain⟨c,rfl⟩:=Ar h;have f:b*b=3*(c*c):=by
   have:3*c*(3*c)=3*(3*(c*c)):=by rw[Nat.mul_assoc,Nat.mul_left_comm c 3 c]
   omega
  rcases Nat.eq_zero_or_pos b with e |g
  ·exact e
  ·have i:c<b:=by
    rcases Nat.lt_or_ge c b with d |d
    ·exact d
    ·have:=Nat.mul_le_mul d d;have:=Nat.mul_pos g g;omega
   have:=j c i b f;subst this;simp only[Nat.mul_zero]at f;rcases Nat.mul_eq_zero.1 f with e |e <;> exact e
theorem zM:∀(b a:Nat),a*a=6*(b*b)→b=0:=by
 intro b
 induction b using Nat.strongRecOn with
 |ind b g=>
  intro a h;obtain⟨c,rfl⟩:=K0 (a:=a) (b:=3*(b*b)) (by omega);have i:2*(c*c)=3*(b*b):=by
   have:2*c*(2*c)=2*(2*(c*c)):=by rw[Nat.mul_assoc,Nat.mul_left_comm c 2 c]
   omega
  obtain⟨d,rfl⟩:=K0 (a:=b) (b:=b*b / 2) (by omega);have f:c*c=6*(d*d):=by
   have:2*d*(2*d)=2*(2*(d*d)):=by rw[Nat.mul_assoc,Nat.mul_left_comm d 2 d]
   omega
  rcases Nat.eq_zero_or_pos d with e |j
  ·omega
  ·have:=g d (by omega) c f;omega
theorem ME(g:∀b a:Nat,a*a=c*(b*b)→b=0)(q:Rat):q*q≠((c:Nat):Rat):=by
 intro h;have e:=Ir q;have f:((q.num*q.num:Int):Rat)=(((c*(q.den*q.den):Nat):Int):Rat):=by
  rw[Rat.intCast_mul,e,show(((c*(q.den*q.den):Nat):Int):Rat)=((c*(q.den*q.den):Nat):Rat) from rfl,Rat.natCast_mul,Rat.natCast_mul,←h];grind
 have d:=congrArg Int.natAbs (Rat.intCast_inj.1 f);rw[Int.natAbs_mul,Int.natAbs_natCast]at d;exact q.den_nz (g _ _ d)
theorem II(q:Rat):q*q≠2:=ME zK q
theorem Vu(q:Rat):q*q≠3:=ME zL q
theorem Vv(q:Rat):q*q≠6:=ME zM q
theorem Ic(d:∀q:Rat,q*q≠H){a b:Rat}(h:a*a=H*(b*b)):a=0∧b=0:=by
 by_cases c:b=0
 ·subst c;refine⟨?_,rfl⟩;rw[Rat.mul_zero,Rat.mul_zero]at h;rcases Rat.mul_eq_zero.1 h with e |e <;> exact e
 ·refine absurd ?_ (d (a / b));grind
theorem GO(h:m.nrm=0):m=jK:=by
 obtain⟨p,q,r,s⟩:=m;have e:(Su.nrm ⟨p,q,r,s⟩)=(p*p+2*(q*q)-3*(r*r)-6*(s*s))*(p*p+2*(q*q)-3*(r*r)-6*(s*s))-2*((2*(p*q)-6*(r*s))*(2*(p*q)-6*(r*s))):=by
  simp only[Su.nrm,Su.cj,Su.mul,Su.tw3,Su.tw2];grind
 rw[e]at h;obtain⟨c,d⟩:=Ic II (a:=p*p+2*(q*q)-3*(r*r)-6*(s*s)) (b:=2*(p*q)-6*(r*s)) (by grind);by_cases g:r*r-2*(s*s)=0
 ·obtain⟨rfl,rfl⟩:=Ic II (a:=r) (b:=s) (by grind);simp only[Rat.mul_zero]at c d;have k:p*p+2*(q*q)=0:=by grind
  have i:p*q=0:=by grind
  rcases Rat.mul_eq_zero.1 i with e |e
  ·subst e;rcases Rat.mul_eq_zero.1 (show q*q=0 by grind) with e |e <;> (subst e;rfl)
  ·subst e;rcases Rat.mul_eq_zero.1 (show p*p=0 by grind) with e |e <;> (subst e;rfl)
 ·exfalso;have j:(p*r-2*(q*s))*(q*r-p*s)=0:=by
   have:2*((p*r-2*(q*s))*(q*r-p*s))=(2*(p*q)-6*(r*s))*(r*r+2*(s*s))-2*(r*s)*(p*p+2*(q*q)-3*(r*r)-6*(s*s)):=by grind
   rw[c,d]at this;grind
  have f:(p*r-2*(q*s))*(p*r-2*(q*s))+2*((q*r-p*s)*(q*r-p*s))=3*((r*r-2*(s*s))*(r*r-2*(s*s))):=by
   have:(p*r-2*(q*s))*(p*r-2*(q*s))+2*((q*r-p*s)*(q*r-p*s))-3*((r*r-2*(s*s))*(r*r-2*(s*s)))=(p*p+2*(q*q)-3*(r*r)-6*(s*s))*(r*r+2*(s*s))-4*(r*s)*(2*(p*q)-6*(r*s)):=by grind
   rw[c,d]at this;grind
  rcases Rat.mul_eq_zero.1 j with e |e
  ·rw[e]at f;have:=(Ic Vv (a:=2*(q*r-p*s)) (b:=r*r-2*(s*s)) (by grind)).2;exact g this
  ·rw[e]at f;have:=(Ic Vu (a:=p*r-2*(q*s)) (b:=r*r-2*(s*s)) (by grind)).2;exact g this
@[reducible] def EC:Cring Rat where
 zero:=0
 one:=1
 add_comm:=Rat.add_comm
 add_assoc:=Rat.add_assoc
 add_zero:=Rat.add_zero
 add_neg:=Rat.add_neg_cancel
 sub_eq:=Rat.sub_eq_add_neg
 mul_comm:=Rat.mul_comm
 mul_assoc:=Rat.mul_assoc
 mul_one:=Rat.mul_one
 mul_add:=Rat.mul_add
@[reducible] def gE:OF Rat where
 toCring:=EC
 inv x:=x⁻¹
 pos x:=(0:Rat)<x
 mul_inv x h:=Rat.mul_inv_cancel x h
 pos0 h:=Rat.lt_irrefl h
 pos1:=by decide
 pos_add x y h k:=by have h:0<x:=h;have k:0<y:=k;show 0<x+y;grind
 pos_mul x y h k:=Rat.mul_pos h k
 tri x:=by
  show x=(0:Rat)∨0<x∨0 < -x;grind
theorem n9:@LT.lt Rat (@oLT Rat gE) 0 H↔(0:Rat)<H:=@lP Rat gE H
theorem J0(x:Rat):@SGN Rat gE (Su.sgR x) x:=by
 unfold Su.sgR;split
 ·rename_i h;exact .inr (.inr ⟨rfl,(@jI Rat gE x).1 (n9.2 (show(0:Rat) < -x by grind))⟩)
 ·split
  ·rename_i h;exact .inr (.inl ⟨rfl,h⟩)
  ·exact .inl ⟨rfl,n9.2 (show(0:Rat)<x by grind)⟩
theorem Sy:@LT.lt Rat (@oLT Rat gE) 0 2:=n9.2 (by decide)
abbrev K1:=Qd Rat
@[reducible] def jJ:OF K1:=@ta Rat gE 2 Sy II
theorem HB(a b:Rat):@SGN K1 jJ (Su.sg2 a b) ⟨a,b⟩:=@SGN.qd Rat gE _ _ _ 2 Sy II a b (J0 a) (J0 b) (J0 _)
theorem Gm:@LT.lt K1 (@oLT K1 jJ) ⟨0,0⟩ ⟨3,0⟩:=(@SGN.one K1 jJ _ _ (HB 3 0)).1 (by decide +kernel)
theorem JT(x:K1):(@Qd.ml Rat gE 2 x x)≠⟨3,0⟩:=λe=>by
 have c:x.u*x.u+2*(x.v*x.v)=3:=congrArg Qd.u e
 have d:x.u*x.v+x.v*x.u=0:=congrArg Qd.v e
 rcases Rat.mul_eq_zero.1 (show x.u*x.v=0 by grind) with h |h
 ·exact Vv (2*x.v) (by grind)
 ·exact Vu x.u (by grind)
abbrev K2:=Qd K1
@[reducible] def gZ:OF K2:=@ta K1 jJ ⟨3,0⟩ Gm JT
def jL(x:Su):K2:=⟨⟨x.p,x.q⟩,⟨x.r,x.s⟩⟩
theorem N8{y:Su}(h:jL m=jL y):m=y:=by
 cases m;cases y;cases h;rfl
theorem An(x:Su):@SGN K2 gZ x.sg (jL x):=@SGN.qd K1 jJ _ _ _ ⟨3,0⟩ Gm JT ⟨x.p,x.q⟩ ⟨x.r,x.s⟩ (HB _ _) (HB _ _) (by
 have e:(⟨x.p*x.p+2*(x.q*x.q)-3*(x.r*x.r+2*(x.s*x.s)),2*(x.p*x.q-3*(x.r*x.s))⟩:K1)=⟨(x.p*x.p+2*(x.q*x.q))-(3*(x.r*x.r+2*(x.s*x.s))+2*(0*(x.r*x.s+x.s*x.r))),(x.p*x.q+x.q*x.p)-(3*(x.r*x.s+x.s*x.r)+0*(x.r*x.r+2*(x.s*x.s)))⟩:=Qd.ext' (by grind) (by grind)
 have:=HB (x.p*x.p+2*(x.q*x.q)-3*(x.r*x.r+2*(x.s*x.s))) (2*(x.p*x.q-3*(x.r*x.s)))
 rw[e]at this
 exact this)
theorem VP(x y:Su):jL (x.mul y)= @Qd.ml K1 jJ ⟨3,0⟩ (jL x) (jL y):=by
 refine Qd.ext' (Qd.ext' ?_ ?_) (Qd.ext' ?_ ?_)
 ·show x.p*y.p+2*(x.q*y.q)+3*(x.r*y.r)+6*(x.s*y.s)=(x.p*y.p+2*(x.q*y.q))+(3*(x.r*y.r+2*(x.s*y.s))+2*(0*(x.r*y.s+x.s*y.r)));grind
 ·show x.p*y.q+x.q*y.p+3*(x.r*y.s+x.s*y.r)=(x.p*y.q+x.q*y.p)+(3*(x.r*y.s+x.s*y.r)+0*(x.r*y.r+2*(x.s*y.s)));grind
 ·show x.p*y.r+x.r*y.p+2*(x.q*y.s+x.s*y.q)=(x.p*y.r+2*(x.q*y.s))+(x.r*y.p+2*(x.s*y.q));grind
 ·show x.p*y.s+x.s*y.p+x.q*y.r+x.r*y.q=(x.p*y.s+x.q*y.r)+(x.r*y.q+x.s*y.p);grind
theorem om(x:Su):Su.mul x x.cj=Su.rat x.nrm:=by
 obtain⟨p,q,r,s⟩:=x;simp only[Su.nrm,Su.cj,Su.mul,Su.tw3,Su.tw2,Su.rat,Su.mk.injEq];refine⟨trivial,?_,?_,?_⟩ <;> grind
theorem Aw(h:m≠jK):m.mul m.inv=⟨1,0,0,0⟩:=by
 have g:m.nrm≠0:=λe=>h (GO e);have e:=om m;unfold Su.inv;generalize m.nrm=N at *;generalize m.cj=c at *;obtain⟨p,q,r,s⟩:=m;obtain⟨a,b,d,f⟩:=c;simp only[Su.mul,Su.rat,Su.mk.injEq]at e ⊢;refine⟨?_,?_,?_,?_⟩ <;> grind
instance:Cring Su where
 add:=Su.add
 mul:=Su.mul
 neg:=Su.neg
 sub x y:=x.add y.neg
 zero:=jK
 one:=⟨1,0,0,0⟩
 add_comm x y:=by show Su.mk _ _ _ _=Su.mk _ _ _ _;simp only[Su.mk.injEq];refine⟨?_,?_,?_,?_⟩ <;> grind
 add_assoc x y z:=by show Su.mk (x.p+y.p+z.p) (x.q+y.q+z.q) (x.r+y.r+z.r) (x.s+y.s+z.s)=Su.mk _ _ _ _;simp only[Su.mk.injEq];refine⟨?_,?_,?_,?_⟩ <;> exact Rat.add_assoc _ _ _
 add_zero x:=by show Su.mk (x.p+0) (x.q+0) (x.r+0) (x.s+0)=x;simp only[Rat.add_zero]
 add_neg x:=by show Su.mk (x.p+-x.p) (x.q+-x.q) (x.r+-x.r) (x.s+-x.s)=Su.mk 0 0 0 0;simp only[Rat.add_neg_cancel]
 sub_eq x y:=rfl
 mul_comm x y:=by show Su.mul x y=Su.mul y x;simp only[Su.mul,Su.mk.injEq];refine⟨?_,?_,?_,?_⟩ <;> grind
 mul_assoc x y z:=by show Su.mul (Su.mul x y) z=Su.mul x (Su.mul y z);simp only[Su.mul,Su.mk.injEq];refine⟨?_,?_,?_,?_⟩ <;> grind
 mul_one x:=by show Su.mul x ⟨1,0,0,0⟩=x;simp only[Su.mul];cases x;simp only[Su.mk.injEq];refine⟨?_,?_,?_,?_⟩ <;> grind
 mul_add x y z:=by show Su.mul x (Su.add y z)=Su.add (Su.mul x y) (Su.mul x z);simp only[Su.mul,Su.add,Su.mk.injEq];refine⟨?_,?_,?_,?_⟩ <;> grind
instance:OF Su where
 inv:=Su.inv
 pos x:=gZ.pos (jL x)
 mul_inv _ h:=Aw h
 pos0:=gZ.pos0
 pos1:=gZ.pos1
 pos_add x y h k:=@Qd.pos_add' K1 jJ ⟨3,0⟩ Gm JT (jL x) (jL y) h k
 pos_mul x y h k:=by
  show gZ.pos (jL (x.mul y));rw[VP];exact @Qd.pos_ml K1 jJ ⟨3,0⟩ Gm (jL x) (jL y) h k
 tri x:=by
  rcases gZ.tri (jL x) with h |h |h
  ·exact .inl (N8 (y:=jK) h)
  ·exact .inr (.inl h)
  ·exact .inr (.inr h)
theorem ZtB(x:Su):@Neg.neg K2 gZ.toNeg (jL x)=jL x.neg:=rfl
theorem B2(x:Su):SGN x.sg x:=by
 rcases An x with⟨e,h⟩ |⟨e,h⟩ |⟨e,h⟩
 ·have c:gZ.pos (jL x):=(@lP K2 gZ _).1 h;exact .inl ⟨e,lP.2 c⟩
 ·exact .inr (.inl ⟨e,N8 (y:=jK) h⟩)
 ·have c:=(@lP K2 gZ _).1 ((@jI K2 gZ _).2 h);rw[ZtB]at c;exact .inr (.inr ⟨e,jI.1 (lP.2 (show OF.pos x.neg from c))⟩)
structure Gt(F:Type) where
 a:Gx F
 b:Nat→F
 z:Nat→F
 v:F
 bs:Nat→Nat
 fr:Nat→Nat
namespace Gt
variable {F:Type} [OF F]
def sol(T:Gt F)(m n:Nat)(x:Nat→F):Prop:=∀i,i<m→x (T.bs i)+gs n (λk=>T.a i k*x (T.fr k))=T.b i
def obj(T:Gt F)(n:Nat)(x:Nat→F):F:=T.v+gs n (λk=>T.z k*x (T.fr k))
def piv(T:Gt F)(r c:Nat):Gt F :=
 { a:=λi k=>if i=r then(if k=c then 1 / T.a r c else T.a r k*(1 / T.a r c)) else(if k=c then -(T.a i c*(1 / T.a r c)) else T.a i k-T.a i c*(T.a r k*(1 / T.a r c))),b:=λi=>if i=r then T.b r*(1 / T.a r c) else T.b i-T.a i c*(T.b r*(1 / T.a r c)),z:=λk=>if k=c then -(T.z c*(1 / T.a r c)) else T.z k-T.z c*(T.a r k*(1 / T.a r c)),v:=T.v+T.z c*(T.b r*(1 / T.a r c)),bs:=λi=>if i=r then T.fr c else T.bs i,fr:=λk=>if k=c then T.bs r else T.fr k}
variable {T T0:Gt F} {x:Nat→F}
theorem IW{n:Nat}{r:Nat}(g:e<n)(q d:Nat→F)(h:F)(x:Nat→F)(l:d e=h)(f:F)(m:∀k,k≠e→d k=q k-f*T.a r k):
  gs n (λk=>d k*x ((T.piv r e).fr k))=gs n (λk=>q k*x (T.fr k))-f*gs n (λk=>T.a r k*x (T.fr k))+h*x (T.bs r)-(q e-f*T.a r e)*x (T.fr e):=by
 rw[nV g (λk=>d k*x ((T.piv r e).fr k)),nV g (λk=>q k*x (T.fr k)),nV g (λk=>T.a r k*x (T.fr k))];have i:(T.piv r e).fr e=T.bs r:=iP rfl;have j:gs n (λk=>if k=e then 0 else d k*x ((T.piv r e).fr k))=gs n (λk=>(if k=e then 0 else q k*x (T.fr k))-f*(if k=e then 0 else T.a r k*x (T.fr k))):=gN λk _=>by
  by_cases c:k=e
  ·rw[iP c,iP c,iP c];exact rg
  ·rw[iN c,iN c,iN c,m k c,show(T.piv r e).fr k=T.fr k from iN c];exact rg
 rw[j,Kl,xV,i,l];exact rg
theorem wP(g:e<c)(x:Nat→F)(f:T.a d e≠0):gs c (λk=>(T.piv d e).a d k*x ((T.piv d e).fr k))=(1 / T.a d e)*(gs c (λk=>T.a d k*x (T.fr k))+x (T.bs d))-x (T.fr e):=by
 have:=IW (T:=T) (r:=d) (n:=c) g (λk=>0) ((T.piv d e).a d) (1 / T.a d e) x (by simp[piv]) (-(1 / T.a d e)) (λk h=>by simp only[piv,iP,iN h];exact rg);rw[this,ga (f:=λk=>0*x (T.fr k)) (λj _=>rg)];exact gu (jd f) (-x (T.fr e))
theorem wO(h:e<c)(x:Nat→F)(f:i≠d)(g:T.a d e≠0):gs c (λk=>(T.piv d e).a i k*x ((T.piv d e).fr k))=gs c (λk=>T.a i k*x (T.fr k))-T.a i e*(1 / T.a d e)*(gs c (λk=>T.a d k*x (T.fr k))+x (T.bs d)):=by
 have:=IW (T:=T) (r:=d) (n:=c) h (T.a i) ((T.piv d e).a i) (-(T.a i e*(1 / T.a d e))) x (by simp[piv,f]) (T.a i e*(1 / T.a d e)) (λk j=>by simp only[piv,iN f,iN j];exact rg);rw[this];exact gu (jd g) (T.a i e*x (T.fr e))
theorem EZ(g:e<c)(x:Nat→F)(f:T.a d e≠0):gs c (λk=>(T.piv d e).z k*x ((T.piv d e).fr k))=gs c (λk=>T.z k*x (T.fr k))-T.z e*(1 / T.a d e)*(gs c (λk=>T.a d k*x (T.fr k))+x (T.bs d)):=by
 have:=IW (T:=T) (r:=d) (n:=c) g T.z (T.piv d e).z (-(T.z e*(1 / T.a d e))) x (by simp[piv]) (T.z e*(1 / T.a d e)) (λk h=>by simp only[piv,iN h];exact rg);rw[this];exact gu (jd f) (T.z e*x (T.fr e))
theorem tw(s:e<c)(n:i<d)(j:T.a e i≠0)(x:Nat→F):(T.piv e i).sol c d x↔T.sol c d x:=by
 have q:(T.piv e i).bs e=T.fr i:=iP rfl;have p:(T.piv e i).b e=T.b e*(1 / T.a e i):=iP rfl;constructor
 ·intro h;have l:=h e s;rw[wP n x j,q,p]at l;have r:x (T.bs e)+gs d (λk=>T.a e k*x (T.fr k))=T.b e:=mK l (T.a e i) (jd j) (T.b e-x (T.bs e)-gs d (λk=>T.a e k*x (T.fr k)));intro f o;by_cases g:f=e
  ·subst g;exact r
  ·have m:=h f o;rw[wO n x g j,show(T.piv e i).bs f=T.bs f from iN g,show(T.piv e i).b f=T.b f-T.a f i*(T.b e*(1 / T.a e i)) from iN g]at m;exact mK m 1 r (T.a f i*(1 / T.a e i))
 ·intro h;have l:=h e s;intro f o;by_cases g:f=e
  ·subst g;rw[wP n x j,q,p];exact gu l (1 / T.a f i)
  ·have m:=h f o;rw[wO n x g j,show(T.piv e i).bs f=T.bs f from iN g,show(T.piv e i).b f=T.b f-T.a f i*(T.b e*(1 / T.a e i)) from iN g];exact mK m 1 l (-(T.a f i*(1 / T.a e i)))
theorem tp(k:e<c)(j:i<d)(f:T.a e i≠0)(h:T.sol c d x):(T.piv e i).obj d x=T.obj d x:=by
 have g:=h e k;unfold obj;rw[EZ j x f,show(T.piv e i).v=T.v+T.z i*(T.b e*(1 / T.a e i)) from rfl];exact gu g (-(T.z i*(1 / T.a e i)))
structure eqv(T T0:Gt F)(m n:Nat):Prop where
 sol:∀x,T.sol m n x↔T0.sol m n x
 obj:∀x,T0.sol m n x→T.obj n x=T0.obj n x
theorem eqv.refl:T.eqv T c d:=⟨λ_=>Iff.rfl,λ_ _=>rfl⟩
theorem eqv.trans{e:Gt F}(h:T.eqv e c d)(k:e.eqv T0 c d):T.eqv T0 c d:=⟨λx=>(h.sol x).trans (k.sol x),λx f=>(h.obj x ((k.sol x).2 f)).trans (k.obj x f)⟩
theorem eqv.symm(h:T.eqv T0 c d):T0.eqv T c d:=⟨λx=>(h.sol x).symm,λx e=>(h.obj x ((h.sol x).1 e)).symm⟩
theorem Ii{m:Nat}(g:e<m)(f:i<d)(c:T.a e i≠0):(T.piv e i).eqv T m d:=⟨tw g f c,λ_ h=>tp g f c h⟩
structure arr(T:Gt F)(m n N:Nat):Prop where
 bl:∀i,i<m→T.bs i<N
 fl:∀k,k<n→T.fr k<N
 bi:∀i j,i<m→j<m→T.bs i=T.bs j→i=j
 fi:∀i j,i<n→j<n→T.fr i=T.fr j→i=j
 d:∀i k,i<m→k<n→T.bs i≠T.fr k
 cov:∀u,u<N→(∃i,i<m∧T.bs i=u)∨ ∃k,k<n∧T.fr k=u
theorem nj(T:Gt F)(r c i:Nat):(T.piv r c).bs i=if i=r then T.fr c else T.bs i:=rfl
theorem pa(T:Gt F)(r c i:Nat):(T.piv r c).fr i=if i=c then T.bs r else T.fr i:=rfl
theorem arr.piv{N:Nat}(h:T.arr c d N)(n:i<c)(l:E<d):(T.piv i E).arr c d N:=by
 refine⟨λf g=>?_,λk m=>?_,λf j g o e=>?_,λf j g o e=>?_,λf k g m e=>?_,λu t=>?_⟩
 ·rw[nj];split
  ·exact h.fl E l
  ·exact h.bl f g
 ·rw[pa];split
  ·exact h.bl i n
  ·exact h.fl k m
 ·rw[nj,nj]at e;split at e <;> split at e
  ·omega
  ·exact absurd e.symm (h.d j E o l)
  ·exact absurd e (h.d f E g l)
  ·exact h.bi f j g o e
 ·rw[pa,pa]at e;split at e <;> split at e
  ·omega
  ·exact absurd e (h.d i j n o)
  ·exact absurd e.symm (h.d i f n g)
  ·exact h.fi f j g o e
 ·rw[nj,pa]at e;split at e <;> split at e
  ·exact h.d i E n l e.symm
  ·rename_i p q;exact q (h.fi E k l m e).symm
  ·rename_i p q;exact p (h.bi f i g n e)
  ·exact h.d f k g m e
 ·rcases h.cov u t with⟨f,g,e⟩ |⟨k,m,e⟩
  ·by_cases r:f=i
   ·exact .inr ⟨E,l,by rw[pa,iP rfl,←r];exact e⟩
   ·exact .inl ⟨f,g,by rw[nj,iN r];exact e⟩
  ·by_cases s:k=E
   ·exact .inl ⟨i,n,by rw[nj,iP rfl,←s];exact e⟩
   ·exact .inr ⟨k,m,by rw[pa,iN s];exact e⟩
theorem arr.pt{N:Nat}(h:T.arr c d N)(y:Nat→F):∃x,T.sol c d x∧(∀k,k<d→x (T.fr k)=y k)∧∀i,i<c→x (T.bs i)=T.b i-gs d (λk=>T.a i k*y k):=by
 let x:Nat→F:=λu=>gs c (λi=>if T.bs i=u then T.b i-gs d (λk=>T.a i k*y k) else 0)+gs d (λk=>if T.fr k=u then y k else 0)
 have o:∀k,k<d→x (T.fr k)=y k:=λk g=>by
  show gs c _+gs d _=_;rw[ga (n:=c) λi f=>iN (h.d i k f g),ie g λj l m=>iN λe=>m (h.fi j k l g e),iP rfl];exact rg
 have n:∀i,i<c→x (T.bs i)=T.b i-gs d (λk=>T.a i k*y k):=λi f=>by
  show gs c _+gs d _=_;rw[ga (n:=d) λk g=>iN λe=>h.d i k f g e.symm,ie f λj l m=>iN λe=>m (h.bi j i l f e),iP rfl];exact rg
 clear_value x
 refine⟨x,λi f=>?_,o,n⟩;have e:gs d (λk=>T.a i k*x (T.fr k))=gs d (λk=>T.a i k*y k):=gN λk g=>by rw[o k g]
 rw[n i f,e];exact rg
theorem arr.uni{N:Nat}(h:T.arr c d N){x e:Nat→F}(o:T.sol c d x)(p:T.sol c d e)(j:∀k,k<d→x (T.fr k)=e (T.fr k)):∀u,u<N→x u=e u:=λu n=>by
 rcases h.cov u n with⟨i,l,rfl⟩ |⟨k,f,rfl⟩
 ·have g:=o i l
  have m:=p i l
  rw[gN (g:=λk=>T.a i k*e (T.fr k)) λk f=>by rw[j k f]]at g
  exact mK g 1 m (-1)
 ·exact j k f
end Gt
noncomputable def sV(p:Nat→Prop):Nat→Nat
 |0=>0
 |n+1=>sV p n+(open Classical in if p n then 2^n else 0)
theorem Mk(p:Nat→Prop)(n:Nat):sV p n<2^n:=by
 induction n with
 |zero=>exact Nat.one_pos
 |succ n c=>
  simp only[sV];split <;> omega
theorem sW:∀{n:Nat},sV q n=sV D n→∀u,u<n→(q u↔D u):=by
 intro n
 induction n with
 |zero=>intro _ u d;omega
 |succ n f=>
  intro h u d;have g:=Mk q n;have i:=Mk D n;simp only[sV]at h;have c:(q n↔D n)∧sV q n=sV D n:=by
   split at h <;> split at h
   ·rename_i a b;exact⟨⟨λ_=>b,λ_=>a⟩,by omega⟩
   ·omega
   ·omega
   ·rename_i a b;exact⟨⟨λe=>absurd e a,λe=>absurd e b⟩,by omega⟩
  by_cases e:u=n
  ·subst e;exact c.1
  ·exact f c.2 u (by omega)
theorem M6:∀(M:Nat) (f:Nat→Nat),(∀i,i≤M→f i<M)→∃i j,i<j∧j≤M∧f i=f j
 |0,f,h=>absurd (h 0 (Nat.le_refl 0)) (Nat.not_lt_zero _)
 |M+1,f,h=>by
  by_cases d:∃i,i≤M∧f i=f (M+1)
  ·obtain⟨i,g,e⟩:=d
   exact⟨i,M+1,by omega,Nat.le_refl _,e⟩
  · -- take the place of the last one away
   obtain⟨i,j,k,l,c⟩:=M6 M (λi=>if f i=M then f (M+1) else f i) (λi g=>by
    show(if f i=M then f (M+1) else f i)<M
    have n:=h i (by omega)
    have o:=h (M+1) (Nat.le_refl _)
    have p:f i≠f (M+1):=λe=>d ⟨i,g,e⟩
    split <;> omega)
   refine⟨i,j,k,by omega,?_⟩
   have g:f i≠f (M+1):=λe=>d ⟨i,by omega,e⟩
   have m:f j≠f (M+1):=λe=>d ⟨j,l,e⟩
   have c:(if f i=M then f (M+1) else f i)=(if f j=M then f (M+1) else f j):=c
   split at c <;> split at c
   ·omega
   ·exact absurd c.symm m
   ·exact absurd c g
   ·exact c
theorem NA{p:Nat→Prop}{N:Nat}(h:∃u,u<N∧p u):∃t,t<N∧p t∧∀u,u<N→p u→u≤t:=by
 induction N with
 |zero=>obtain⟨u,f,_⟩:=h;omega
 |succ N k=>
  by_cases hp:p N
  ·exact⟨N,by omega,hp,λu f _=>by omega⟩
  ·obtain⟨u,f,c⟩:=h;have j:u≠N:=λe=>hp (e▸ c);obtain⟨t,l,g,i⟩:=k ⟨u,by omega,c⟩;refine⟨t,by omega,g,λw m d=>?_⟩;have j:w≠N:=λe=>hp (e▸ d);exact i w (by omega) d
namespace Gt
variable {F:Type} [OF F]
def inB(T:Gt F)(m:Nat)(u:Nat):Prop:=∃i,i<m∧T.bs i=u
structure ent(T:Gt F)(n c:Nat):Prop where
 lt:c<n
 pos:0<T.z c
 least:∀k,k<n→0<T.z k→T.fr c≤T.fr k
structure lea(T:Gt F)(m c lst r:Nat):Prop where
 lt:r<m
 pos:0<T.a r c
 least:∀i,i<m→0<T.a i c→T.b r / T.a r c≤T.b i / T.a i c
 ties:∀i,i<m→0<T.a i c→T.b i / T.a i c=T.b r / T.a r c→T.bs r≠lst→T.bs r≤T.bs i
def fea(T:Gt F)(m:Nat):Prop:=∀i,i<m→0≤T.b i
variable {T T0:Gt F}
theorem Uk{x y:F}(c:0≤x)(d:0<y):0≤x*(1 / y):=fJ (ym c (gK (Xt d)))
theorem tn(h:T.fea c)(k:T.lea c e i d):(T.piv d e).fea c:=by
 intro f j;have l:=Uk (h d k.lt) k.pos;show 0≤if f=d then T.b d*(1 / T.a d e) else T.b f-T.a f e*(T.b d*(1 / T.a d e));split
 ·exact l
 ·by_cases hp:0<T.a f e
  ·have g:=lk (gK hp) (k.least f j hp);rw[show T.a f e*(T.b f / T.a f e)=T.b f from gu (jd (nE hp).symm) (T.b f)]at g;exact fJ g
  ·exact fJ (jp (h f j) (ym (show 0≤-T.a f e from fJ (pq.1 hp)) l))
theorem se{N:Nat}(k:i<c)(l:T.arr c d N)(u:Nat):(T.piv i E).inB c u↔u=T.fr E∨(T.inB c u∧u≠T.bs i):=by
 constructor
 ·rintro⟨g,f,e⟩;rw[nj]at e;split at e
  ·exact .inl e.symm
  ·rename_i j;refine .inr ⟨⟨g,f,e⟩,λh=>j (l.bi g i f k (e.trans h))⟩
 ·rintro(e |⟨⟨g,f,e⟩,j⟩)
  ·exact⟨i,k,by rw[nj,iP rfl,e]⟩
  ·refine⟨g,f,?_⟩;rw[nj,iN λh=>j (by rw[←e,h])];exact e
end Gt
namespace Gt
variable {F:Type} [OF F]
structure Steps(st:Nat→Gt F)(rr cc:Nat→Nat)(m n N lst K:Nat):Prop where
 step:∀k,k<K→st (k+1)=(st k).piv (rr k) (cc k)
 ent:∀k,k<K→(st k).ent n (cc k)
 lea:∀k,k<K→(st k).lea m (cc k) lst (rr k)
 arr0:(st 0).arr m n N
 fea0:(st 0).fea m
 nl:∀k,k<K→∀j,j<n→(st k).fr j≠lst
variable {st:Nat→Gt F}
theorem Steps.arr{e:Nat→Nat}{N:Nat}(h:Steps st x e c d N i E):∀k,k≤E→(st k).arr c d N
 |0,_=>h.arr0
 |k+1,f=>by rw[h.step k (by omega)];exact(h.arr k (by omega)).piv (h.lea k (by omega)).lt (h.ent k (by omega)).lt
theorem Steps.fea{e:Nat→Nat}{N:Nat}(h:Steps st x e c d N i E):∀k,k≤E→(st k).fea c
 |0,_=>h.fea0
 |k+1,f=>by rw[h.step k (by omega)];exact tn (h.fea k (by omega)) (h.lea k (by omega))
theorem Steps.nz{f:Nat→Nat}{N:Nat}(h:Steps st x f c d N i E){k:Nat}(g:k<E):(st k).a (x k) (f k)≠0:=λe=>by
 have:=(h.lea k g).pos
 rw[e]at this
 exact vG this
theorem Steps.eqv{f:Nat→Nat}{N:Nat}(h:Steps st x f c d N i E):∀k,k≤E→(st k).eqv (st 0) c d
 |0,_=>eqv.refl
 |k+1,g=>by
  have e:=Ii (m:=c) (h.lea k (by omega)).lt (h.ent k (by omega)).lt (h.nz (k:=k) (by omega))
  rw[←h.step k (by omega)]at e
  exact e.trans (h.eqv k (by omega))
theorem Steps.gain{e:Nat→Nat}{N:Nat}(h:Steps st x e c d N i E){k:Nat}(f:k<E):0≤(st k).z (e k)*((st k).b (x k)*(1 / (st k).a (x k) (e k))) :=
 ym (gK (h.ent k f).pos) (Uk (h.fea k (by omega) _ (h.lea k f).lt) (h.lea k f).pos)
theorem Steps.v{e:Nat→Nat}{N:Nat}(h:Steps st x e c d N i E){k:Nat}(f:k<E):(st (k+1)).v=(st k).v+(st k).z (e k)*((st k).b (x k)*(1 / (st k).a (x k) (e k))):=by rw[h.step k f];rfl
theorem Steps.mono{f:Nat→Nat}{N:Nat}(h:Steps st x f c d N i E){k:Nat}:∀{l:Nat},k≤l→l≤E→(st k).v≤(st l).v
 |0,g,_=>by rw[show k=0 by omega];exact mz _
 |l+1,g,o=>by
  by_cases e:k=l+1
  ·rw[e];exact mz _
  ·have j:=h.mono (k:=k) (l:=l) (by omega) (by omega)
   have m:=h.v (k:=l) (by omega)
   have n:=h.gain (k:=l) (by omega)
   rw[m];exact fJ (jp j n)
theorem C1{T:Gt F}{x:Nat→F}(h:∀k,k<c→x (T.fr k)=0):T.obj c x=T.v:=by
 unfold obj;rw[ga λk d=>by rw[h k d];exact gV _];exact rg
theorem Steps.once{m:Nat→Nat}{N:Nat}(h:Steps st x m c d N i E){f j:Nat}(ay:f<j)(L:j≤E):¬ ∀u,u<N→((st f).inB c u↔(st j).inB c u):=by
 intro a6;have A:=h.arr;have U:∀k,k≤E→∀l,l≤E→(st k).eqv (st l) c d:=λk g l s=>(h.eqv k g).trans (h.eqv l s).symm;have X:∀k,k≤E→∀l,l<d→¬(st k).inB c ((st k).fr l):=λk g l s ⟨a,y,e⟩=>(A k g).d a l y s e;obtain⟨M,am,Y,b5⟩:=(A f (by omega)).pt λ_=>0;have an:∀k,k≤E→(st k).sol c d M:=λk g=>((U k g f (by omega)).sol M).2 am;have ax:∀k,k<d→M ((st j).fr k)=0:=λk g=>by
  have ag:=(A j L).fl k g;rcases(A f (by omega)).cov _ ag with⟨a,y,e⟩ |⟨l,s,e⟩
  ·exact absurd ((a6 _ ag).1 ⟨a,y,e⟩) (X j L k g)
  ·rw[←e];exact Y l s
 have hv:(st j).v=(st f).v:=by
  have:=(U j L f (by omega)).obj M am;rw[C1 ax,C1 Y]at this;exact this
 have hb:∀k,f≤k→k<j→(st k).b (x k)=0:=λk o w=>by
  have n:=h.mono (k:=f) (l:=k) o (by omega);have r:=h.mono (k:=k+1) (l:=j) (by omega) L;have K:=h.v (k:=k) (by omega);have h6:=h.gain (k:=k) (by omega);have P:(st k).z (m k)*((st k).b (x k)*(1 / (st k).a (x k) (m k)))=0:=by
   rw[K,hv]at r;exact Hm (fJ (jp n r)) h6
  have h8:=(h.ent k (by omega)).pos;have h9:=jd (h.nz (k:=k) (by omega));rcases Qk P with P |P
  ·exact absurd P (nE h8).symm
  ·exact mK P ((st k).a (x k) (m k)) h9 (-(st k).b (x k))
 have hx:∀k,f≤k→k≤j→∀l,l<d→M ((st k).fr l)=0:=by
  intro k o
  induction k with
  |zero=>intro _ l s;rw[show 0=f by omega];exact Y l s
  |succ k I=>
   intro w l s;by_cases e:f=k+1
   ·rw[←e];exact Y l s
   ·have I:=I (by omega) (by omega);rw[h.step k (by omega),pa];split
    ·have hs:=an k (by omega) _ (h.lea k (by omega)).lt;rw[hb k (by omega) (by omega),ga λq hq=>by rw[I q hq];exact gV _]at hs;exact iK hs
    ·exact I l s
 have aw:∀k,f≤k→k≤j→∀a,a<c→M ((st k).bs a)=(st k).b a:=λk o w a y=>by
  have hs:=an k (by omega) a y;rw[ga λq hq=>by rw[hx k o w q hq];exact gV _]at hs;exact iK hs
 let J:Nat→Prop:=λu=>∃k,f≤k∧k<j∧u=(st k).fr (m k)
 let aa:Nat→Prop:=λu=>∃k,f≤k∧k<j∧u=(st k).bs (x k)
 have a9:∀k,k<E→∀u,(st (k+1)).inB c u↔u=(st k).fr (m k)∨((st k).inB c u∧u≠(st k).bs (x k)):=λk g u=>by
  rw[h.step k g];exact se (h.lea k g).lt (A k (by omega)) u
 have al:∀u,¬J u→∀k l,f≤k→k≤l→l≤j→(st l).inB c u→(st k).inB c u:=by
  intro u G k l g
  induction l with
  |zero=>intro o _ n;rw[show k=0 by omega];exact n
  |succ l I=>
   intro o w n;by_cases e:k=l+1
   ·rw[e];exact n
   ·rcases(a9 l (by omega) u).1 n with r |⟨r,_⟩
    ·exact absurd ⟨l,by omega,by omega,r⟩ G
    ·exact I (by omega) (by omega) r
 have af:∀u,¬aa u→∀k l,f≤k→k≤l→l≤j→(st k).inB c u→(st l).inB c u:=by
  intro u G k l g
  induction l with
  |zero=>intro o _ n;rw[show 0=k by omega];exact n
  |succ l I=>
   intro o w n;by_cases e:k=l+1
   ·rw[←e];exact n
   ·exact(a9 l (by omega) u).2 (.inr ⟨I (by omega) (by omega) n,λe=>G ⟨l,by omega,by omega,e⟩⟩)
 have ar:∀u,u<N→¬J u→∀k l,f≤k→k≤j→f≤l→l≤j→(st k).inB c u→(st l).inB c u:=λu H G k l o w n r K=>by
  have h6:=al u G f k (Nat.le_refl f) o w K;exact al u G l j n r (Nat.le_refl j) ((a6 u H).1 h6)
 have LE:∀u,u<N→J u→aa u:=λu H G=>Classical.byContradiction λZ=>by
  obtain⟨k,o,w,e⟩:=G;have n:(st (k+1)).inB c u:=(a9 k (by omega) u).2 (.inl e);have r:=af u Z (k+1) j (by omega) (by omega) (Nat.le_refl j) n;have K:=af u Z f k (Nat.le_refl f) o (by omega) ((a6 u H).2 r);rw[e]at K;exact X k (by omega) _ (h.ent k (by omega)).lt K
 obtain⟨t,b0,ak,ah⟩:=NA (p:=J) (N:=N) ⟨_,(A f (by omega)).fl _ (h.ent f (by omega)).lt,f,Nat.le_refl f,ay,rfl⟩;obtain⟨p,Q,ai,a1⟩:=LE t b0 ak;obtain⟨q,a5,b6,aj⟩:=ak;have W:=h.ent p (by omega);have a2:=h.lea p (by omega);have O:=h.ent q (by omega);have S:=A p (by omega);have Aq:=A q (by omega);obtain⟨B,b3,a3,au⟩:=S.pt λk=>if k=m p then 1 else 0;have o1:(st p).obj d B=(st p).v+(st p).z (m p):=by
  unfold obj;rw[ie W.lt λk g a0=>by rw[a3 k g,iN a0];exact gV _,a3 _ W.lt,iP rfl,lQ]
 have o2:(st p).obj d B=(st q).obj d B:=(U p (by omega) q (by omega)).obj B (((U p (by omega) q (by omega)).sol B).1 b3);have vv:(st p).v=(st q).v:=by
  have ao:=h.mono (k:=f) (l:=p) Q (by omega);have ab:=h.mono (k:=p) (l:=j) (by omega) L;have ap:=h.mono (k:=f) (l:=q) a5 (by omega);have ad:=h.mono (k:=q) (l:=j) (by omega) L;rw[hv]at ab ad;rw[Hm ab ao,Hm ad ap]
 have hs:0<gs d λk=>(st q).z k*B ((st q).fr k):=by
  have:=W.pos;have e:(st q).obj d B=(st q).v+gs d λk=>(st q).z k*B ((st q).fr k):=rfl;rw[←o2,o1,vv]at e;rw[show(gs d λk=>(st q).z k*B ((st q).fr k))=(st p).z (m p) from iK e.symm];exact this
 obtain⟨k,g,C⟩:=zi hs;have H:=Aq.fl k g;have nB:=X q (by omega) k g;rcases S.cov _ H with⟨a,y,e⟩ |⟨l,s,e⟩
 · -- b4 in D
  have a7:J ((st q).fr k):=Classical.byContradiction λZ=>nB (ar _ H Z p q Q (by omega) a5 (by omega) ⟨a,y,e⟩);have b2:=ah _ H a7;have ae:(st p).b a=0:=by rw[←aw p Q (by omega) a y,e];exact hx q a5 (by omega) k g
  have av:=hb p Q ai;have a8:B ((st q).fr k)= - (st p).a a (m p):=by
   rw[←e,au a y,ae,ie W.lt λaq hc a0=>by show _*(if aq=m p then(1:F) else 0)=0;rw[iN a0];exact gV _];show 0-_*(if m p=m p then(1:F) else 0)=_;rw[iP rfl];exact rg
  rw[a8]at C;by_cases R:0<(st q).z k
  ·have o:=O.least k g R;have w:(st q).fr k=t:=by omega
   have n:a=x p:=S.bi a (x p) y a2.lt (by rw[e,w,a1]);have r:=a2.pos;rw[←n]at r;exact vG (ZB (lC (iv R r) C):(0:F)<0)
  ·have a0:(st q).fr k≠t:=λe2=>by
    have:k=m q:=Aq.fi k (m q) g O.lt (by rw[e2,aj]);rw[this]at R;exact R O.pos
   have az:0<(st p).a a (m p):=by
    by_cases o:0<(st p).a a (m p)
    ·exact o
    ·have n:0≤(-(st q).z k)*(-(st p).a a (m p)):=ym (fJ (pq.1 R)) (fJ (pq.1 o));exact absurd (ZB (iQ C n)) (jU (0:F))
   have b1:=a2.ties a y az (by rw[ae,av];exact rg) (by rw[←a1,aj];exact h.nl q (by omega) _ O.lt);rw[←a1,e]at b1;omega
 · -- X in D
  have a8:B ((st q).fr k)=if l=m p then 1 else 0:=by rw[←e];exact a3 l s
  rw[a8]at C;by_cases a4:l=m p
  ·rw[iP a4,lQ]at C;have a7:J ((st q).fr k):=⟨p,Q,ai,by rw[←e,a4]⟩;have b2:=ah _ H a7;have o:=O.least k g C;have w:(st q).fr k=t:=by omega
   exact S.d (x p) l a2.lt s (by rw[e,w,a1])
  ·rw[iN a4,gV]at C;exact vG C
theorem Steps.bound{e:Nat→Nat}{N:Nat}(h:Steps st x e c d N i E):E<2^N:=by
 rcases Nat.lt_or_ge E (2^N) with l |o
 ·exact l
 ·obtain⟨m,j,f,n,g⟩:=M6 (2^N) (λk=>sV (λu=>(st k).inB c u) N) λm _=>Mk _ _;exact absurd (sW g) (h.once f (by omega))
end Gt
noncomputable def fY(p:Nat→Prop):Nat→Nat
 |0=>0
 |n+1=>fY p n+(open Classical in if p n then 1 else 0)
theorem yH(p:Nat→Prop)(n:Nat):fY p n≤n:=by
 induction n with
 |zero=>exact Nat.le_refl 0
 |succ n c=>simp only[fY];split <;> omega
theorem Vw(h:fY q c=0):∀k,k<c→¬q k:=by
 induction c with
 |zero=>intro k d;omega
 |succ c g=>
  simp only[fY]at h;intro k d;split at h
  ·omega
  ·rename_i f;by_cases e:k=c
   ·rw[e];exact f
   ·exact g (by omega) k (by omega)
theorem I2(h:0<fY q c):∃k,k<c∧q k:=Classical.byContradiction λd=>by
 have:fY q c=0:=by
  clear h
  induction c with
  |zero=>rfl
  |succ c e=>
   simp only[fY];rw[e λ⟨k,f,h⟩=>d ⟨k,by omega,h⟩,iN λh=>d ⟨c,by omega,h⟩]
 omega
theorem OQ(h:∀k,k<c→(q k↔D k)):fY q c=fY D c:=by
 induction c with
 |zero=>rfl
 |succ c f=>
  simp only[fY];rw[f λk g=>h k (by omega)];by_cases e:q c
  ·rw[iP e,iP ((h c (by omega)).1 e)]
  ·rw[iN e,iN λd=>e ((h c (by omega)).2 d)]
theorem ZcF(m:d<c)(hp:q d)(j:¬D d)(h:∀l,l<c→l≠d→(q l↔D l)):fY q c=fY D c+1:=by
 induction c with
 |zero=>omega
 |succ c k=>
  simp only[fY];by_cases e:d=c
  ·subst e;rw[iP hp,iN j,OQ λl i=>h l (by omega) (by omega)]
  ·have:=k (by omega) λl i=>h l (by omega);by_cases g:q c
   ·rw[iP g,iP ((h c (by omega) (λf=>e f.symm)).1 g)];omega
   ·rw[iN g,iN λf=>g ((h c (by omega) (λf=>e f.symm)).2 f)];omega
theorem q9(h:∀i,i<c→x i<c)(f:∀i j,i<c→j<c→x i=x j→i=j):∀y,y<c→∃i,i<c∧x i=y:=λy l=>Classical.byContradiction λk=>by
 have g:∀i,i≤c→(if i<c then x i else y)<c:=λi _=>by
  by_cases e:i<c
  ·rw[iP e];exact h i e
  ·rw[iN e];exact l
 obtain⟨i,j,m,n,d⟩:=M6 c (λi=>if i<c then x i else y) g
 have d:(if i<c then x i else y)=(if j<c then x j else y):=d
 rw[iP (by omega)]at d
 split at d
 ·have:=f i j (by omega) (by omega) d;omega
 ·exact k ⟨i,by omega,d⟩
namespace Gt
variable {F:Type} [OF F]
structure Whole(In:Nat→F→Prop):Prop where
 neg:∀{k x},In k x→In k (-x)
 mono:∀{k l x},k≤l→In k x→In l x
 mul:∀{k x y},In k x→In k y→In (2*k+5) (x*y)
 sub:∀{k x y z w},In k x→In k y→In k z→In k w→In (2*k+5) (x*y-z*w)
structure all(P:F→Prop)(T:Gt F)(m n:Nat):Prop where
 a:∀i k,i<m→k<n→P (T.a i k)
 b:∀i,i<m→P (T.b i)
 z:∀k,k<n→P (T.z k)
 v:P T.v
def cd(c:Nat→F→Prop)(K:Nat)(T:Gt F)(m n:Nat):Prop:=∃D:F,D≠0∧c K D∧T.all (λq=>c K (q*D)) m n
def kq(K k:Nat):Nat:=2^k*(K+5)-5
theorem sJ(K k:Nat):kq K (k+1)=2*kq K k+5:=by
 have c:1≤2^k:=Nat.one_le_two_pow;have d:1*(K+5)≤2^k*(K+5):=mR _ c;unfold kq;rw[Nat.pow_succ,Nat.mul_comm _ 2,Nat.mul_assoc];omega
theorem EL(h:d≤e):kq c d≤kq c e:=by
 have f:2^d*(c+5)≤2^e*(c+5):=mR _ (Nat.pow_le_pow_right (by omega) h);unfold kq;omega
variable {T T0:Gt F} {In:Nat→F→Prop}
theorem cd.piv(n:Whole In)(h:T.cd In E c d)(m:e<c)(l:i<d)(u:T.a e i≠0):(T.piv e i).cd In (2*E+5) c d:=by
 obtain⟨D,A,q,g⟩:=h;have f:=g.a e i m l;have t:=jd u;have r:∀{x y w:F},In E (x*D)→In E (y*D)→In E (w*D)→In (2*E+5) ((x-y*(w*(1 / T.a e i)))*(D*(T.a e i*D))):=λ{x y w} s G C=>by
  rw[show(x-y*(w*(1 / T.a e i)))*(D*(T.a e i*D))=x*D*(T.a e i*D)-y*D*(w*D) from gu t (-(y*D*(w*D)))];exact n.sub s f G C
 have dv:∀{x:F},In E (x*D)→In (2*E+5) (x*(1 / T.a e i)*(D*(T.a e i*D))):=λ{x} s=>by
  rw[show x*(1 / T.a e i)*(D*(T.a e i*D))=x*D*D from gu t (x*D*D)];exact n.mul s q
 have B:∀{x:F},In (2*E+5) (x*(D*(T.a e i*D)))→In (2*E+5) (-x*(D*(T.a e i*D))):=λ{x} h=>by
  rw[show -x*(D*(T.a e i*D))= -(x*(D*(T.a e i*D))) from rg];exact n.neg h
 refine⟨D*(T.a e i*D),nG A (nG u A),n.mul q f,λj k o p=>?_,λj o=>?_,λk p=>?_,?_⟩
 ·show In _ ((if j=e then(if k=i then 1 / T.a e i else T.a e k*(1 / T.a e i)) else(if k=i then -(T.a j i*(1 / T.a e i)) else T.a j k-T.a j i*(T.a e k*(1 / T.a e i))))*_);split <;> split
  ·rw[show 1 / T.a e i*(D*(T.a e i*D))=D*D from gu t (D*D)];exact n.mul q q
  ·exact dv (g.a e k m p)
  ·exact B (dv (g.a j i o l))
  ·exact r (g.a j k o p) (g.a j i o l) (g.a e k m p)
 ·show In _ ((if j=e then T.b e*(1 / T.a e i) else T.b j-T.a j i*(T.b e*(1 / T.a e i)))*_);split
  ·exact dv (g.b e m)
  ·exact r (g.b j o) (g.a j i o l) (g.b e m)
 ·show In _ ((if k=i then -(T.z i*(1 / T.a e i)) else T.z k-T.z i*(T.a e k*(1 / T.a e i)))*_);split
  ·exact B (dv (g.z i l))
  ·exact r (g.z k p) (g.z i l) (g.a e k m p)
 ·show In _ ((T.v+T.z i*(T.b e*(1 / T.a e i)))*_);have:=r g.v (show In E (-T.z i*D) by rw[show -T.z i*D= -(T.z i*D) from rg];exact n.neg (g.z i l)) (g.b e m);rw[show T.v - -T.z i*(T.b e*(1 / T.a e i))=T.v+T.z i*(T.b e*(1 / T.a e i)) from rg]at this;exact this
theorem cd.mono(f:Whole In)(h:T.cd In e c d)(g:e≤i):T.cd In i c d:=by
 obtain⟨D,o,p,j⟩:=h;exact⟨D,o,f.mono g p,λn k l m=>f.mono g (j.a n k l m),λn l=>f.mono g (j.b n l),λk m=>f.mono g (j.z k m),f.mono g j.v⟩
theorem tq(l:T.a c d≠0):(T.piv c d).piv c d=T:=by
 have j:1 / (1 / T.a c d)=T.a c d:=by
  have m:=jd (show 1 / T.a c d≠0 from nG qG (RT l));exact mK m (T.a c d) (jd l) (-OF.inv (1 / T.a c d))
 have e:(T.piv c d).a c d=1 / T.a c d:=by simp[piv]
 cases T with
 |mk a b z v bs fr=>
  simp only[piv] at *;simp only[Gt.mk.injEq];simp only[if_true,e];have i:=jd l;refine⟨?_,?_,?_,?_,?_,?_⟩
  ·funext f k
   by_cases g:f=c <;> by_cases h:k=d <;> simp only[g,h,if_true,if_false,j]
   ·exact gu i (a c k)
   ·exact gu i (a f d)
   ·exact gu i (a f d*OF.inv (a c d)*a c k)
  ·funext f
   by_cases g:f=c <;> simp only[g,if_true,if_false,j]
   ·exact gu i (b c)
   ·exact gu i (a f d*OF.inv (a c d)*b c)
  ·funext k
   by_cases h:k=d <;> simp only[h,if_true,if_false,j]
   ·exact gu i (z d)
   ·exact gu i (z d*OF.inv (a c d)*a c k)
  ·rw[j];exact gu i (-(z d*OF.inv (a c d)*b c))
  ·funext i
   by_cases g:i=c <;> simp[g]
  ·funext k
   by_cases h:k=d <;> simp[h]
theorem Ah{N:Nat}(m:T0.arr c d N)(h:T.arr c d N)(p:T.eqv T0 c d)(j:i<d)(y:T0.inB c (T.fr i)):∃f,f<c∧¬T0.inB c (T.bs f)∧T.a f i≠0:=Classical.byContradiction λE=>by
 have H:∀f,f<c→¬T0.inB c (T.bs f)→T.a f i=0:=λf g B=>Classical.byContradiction λe=>E ⟨f,g,B,e⟩
 obtain⟨K,I,n,u⟩:=h.pt λ_=>0
 obtain⟨L,J,o,w⟩:=h.pt λl=>if l=i then 1 else 0
 have t:=m.uni ((p.sol K).1 I) ((p.sol L).1 J) (λl r=>by
  have k:¬T0.inB c (T0.fr l):=λ⟨a,A,e⟩=>m.d a l A r e
  rcases h.cov _ (m.fl l r) with⟨f,g,e⟩ |⟨q,s,e⟩
  ·rw[←e]at k ⊢
   have C:gs d (λl=>T.a f l*(0:F))=0:=ga λl _=>gV _
   have D:gs d (λl=>T.a f l*(if l=i then(1:F) else 0))=T.a f i:=by
    rw[ie j λl _ G=>by rw[iN G];exact gV _,iP rfl,lQ]
   rw[u f g,w f g,C,D,H f g k]
  ·rw[←e]at k ⊢;rw[n q s,o q s,iN λx=>k (by rw[x];exact y)]) (T.fr i) (h.fl i j)
 rw[n i j,o i j,iP rfl]at t;exact absurd t.symm qG
theorem Yw{N:Nat}{P:F→Prop}(C:T0.arr c d N)(h:T.arr c d N)(D:T.eqv T0 c d)(X:∀k,k<d→¬T0.inB c (T.fr k))(w:T0.all P c d):T.all P c d:=by
 have Y:∀k,∃l,k<d→l<d∧T.fr k=T0.fr l:=λk=>by
  by_cases f:k<d
  ·rcases C.cov _ (h.fl k f) with⟨i,g,e⟩ |⟨l,p,e⟩
   ·exact absurd ⟨i,g,e⟩ (X k f)
   ·exact⟨l,λ_=>⟨p,e.symm⟩⟩
  ·exact⟨0,λe=>absurd e f⟩
 obtain⟨u,n⟩:=Classical.axiomOfChoice Y;have O:∀i j,i<d→j<d→u i=u j→i=j:=λi j g Q e=>h.fi i j g Q (by rw[(n i g).2,(n j Q).2,e]);have Z:=q9 (λi g=>(n i g).1) O;have M:∀i,i<c→∃m,m<c∧T.bs i=T0.bs m:=λi g=>by
  rcases C.cov _ (h.bl i g) with⟨a,w,e⟩ |⟨l,p,e⟩
  ·exact⟨a,w,e.symm⟩
  ·obtain⟨k,f,E⟩:=Z l p;exact absurd (by rw[←e,←E,(n k f).2]:T.bs i=T.fr k) (h.d i k g f)
 obtain⟨I,S,J,W⟩:=C.pt λ_=>0;have K:∀k,k<d→I (T.fr k)=0:=λk f=>by rw[(n k f).2];exact J _ (n k f).1
 have L:∀i m,i<c→m<c→T.bs i=T0.bs m→T.b i=T0.b m:=λi m g r e=>by
  have o:=(D.sol I).2 S i g;rw[ga λk f=>by rw[K k f];exact gV _,e,W m r,ga λk f=>gV _]at o;exact iK o.symm
 have R:T.v=T0.v:=by
  have:=D.obj I S;rw[C1 K,C1 J]at this;exact this
 have U:∀k,k<d→∃x,T0.sol c d x∧(∀s,s<d→x (T.fr s)=if s=k then 1 else 0)∧(∀l,l<d→x (T0.fr l)=if l=u k then 1 else 0)∧∀i,i<c→x (T0.bs i)=T0.b i-T0.a i (u k):=λk f=>by
  obtain⟨A,y,q,B⟩:=C.pt λl=>if l=u k then 1 else 0;refine⟨A,y,λs H=>?_,q,λi g=>?_⟩
  ·rw[(n s H).2,q _ (n s H).1];by_cases e:s=k
   ·rw[e,iP rfl,iP rfl]
   ·rw[iN e,iN λE=>e (O s k H f E)]
  ·rw[B i g,ie (n k f).1 λl _ t=>by rw[iN t];exact gV _,iP rfl,lQ]
 refine⟨λi k g f=>?_,λi g=>?_,λk f=>?_,by rw[R];exact w.v⟩
 ·obtain⟨m,r,e⟩:=M i g;obtain⟨A,y,q,G,B⟩:=U k f;have o:=(D.sol A).2 y i g;rw[ie f λl p t=>by rw[q l p,iN t];exact gV _,q k f,iP rfl,e,B m r,L i m g r e]at o;have:T.a i k=T0.a m (u k):=iK o;rw[this];exact w.a m _ r (n k f).1
 ·obtain⟨m,r,e⟩:=M i g;rw[L i m g r e];exact w.b m r
 ·obtain⟨A,y,q,G,B⟩:=U k f;have o:=D.obj A y;unfold obj at o;rw[ie f λl p t=>by rw[q l p,iN t];exact gV _,q k f,iP rfl,ie (n k f).1 λl p t=>by rw[G l p,iN t];exact gV _,G _ (n k f).1,iP rfl]at o;have:T.z k=T0.z (u k):=mK o 1 R (-1);rw[this];exact w.z _ (n k f).1
theorem Sf{n:Nat}{N:Nat}(t:Whole In)(o:T0.arr c n N)(r:T0.cd In i c n):∀(d:Nat) (T:Gt F),fY (λk=>T0.inB c (T.fr k)) n=d→T.arr c n N→T.eqv T0 c n→T.cd In (kq i d) c n
 |0,T,u,h,j=>by
  obtain⟨D,x,g,y⟩:=r
  have e:kq i 0=i:=by unfold kq;omega
  rw[e]
  exact⟨D,x,g,Yw o h j (Vw u) y⟩
 |d+1,T,u,h,j=>by
  obtain⟨k,f,s⟩:=I2 (show 0<fY (λk=>T0.inB c (T.fr k)) n by omega)
  obtain⟨m,p,C,q⟩:=Ah o h j f s
  have w:=h.piv p f
  have A:=(Ii p f q).trans j
  have E:fY (λk=>T0.inB c (T.fr k)) n=fY (λl=>T0.inB c ((T.piv m k).fr l)) n+1:=ZcF f s (by rw[pa,iP rfl];exact C) λl _ B=>by rw[pa,iN B]
  have:=Sf t o r d (T.piv m k) (by omega) w A
  have g:=this.piv t p f (show(T.piv m k).a m k≠0 by simp only[piv,if_true];exact nG qG (RT q))
  rw[tq q,←sJ]at g
  exact g
theorem rG{f:Nat→Nat}{u:Nat}(c:∀i j,i<d→j<d→f i=f j→i=j):fY (λk=>f k=u) d≤1:=by
 induction d with
 |zero=>exact Nat.zero_le 1
 |succ d l=>
  simp only[fY];have:=l λi j a b=>c i j (by omega) (by omega);split
  ·rename_i e;have:fY (λk=>f k=u) d=0:=Classical.byContradiction λh=>by
    obtain⟨k,m,g⟩:=I2 (show 0<fY (λk=>f k=u) d by omega);have:=c k d (by omega) (by omega) (g.trans e.symm);omega
   omega
  ·omega
theorem yI(p q:Nat→Prop)(n:Nat):fY (λk=>p k∨q k) n≤fY p n+fY q n:=by
 induction n with
 |zero=>exact Nat.zero_le _
 |succ n e=>
  simp only[fY];by_cases c:p n
  ·rw[iP (Or.inl c),iP c];omega
  ·by_cases d:q n
   ·rw[iP (Or.inr d),iP d];omega
   ·rw[iN (λh=>h.elim c d)];omega
theorem Og{g:Nat→Nat}(d:∀i j,i<c→j<c→x i=x j→i=j):∀m,fY (λk=>∃i,i<m∧g i=x k) c≤m
 |0=>by
  refine Nat.le_of_eq (Classical.byContradiction λh=>?_)
  obtain⟨k,_,i,d,_⟩:=I2 (Nat.pos_of_ne_zero h)
  omega
 |m+1=>by
  have l:=Og (g:=g) d m
  have n:=rG (f:=x) (u:=g m) d
  have o:=yI (λk=>∃i,i<m∧g i=x k) (λk=>x k=g m) c
  have p:fY (λk=>∃i,i<m+1∧g i=x k) c=fY (λk=>(∃i,i<m∧g i=x k)∨x k=g m) c:=OQ λk _=>by
   constructor
   ·rintro⟨i,d,e⟩
    by_cases f:i=m
    ·exact .inr (by rw[←e,f])
    ·exact .inl ⟨i,by omega,e⟩
   ·rintro(⟨i,d,e⟩ |e)
    ·exact⟨i,by omega,e⟩
    ·exact⟨m,by omega,e.symm⟩
  omega
theorem Hn{N:Nat}(e:Whole In)(n:c≤E∨d≤E)(g:T0.arr c d N)(f:T0.cd In i c d)(h:T.arr c d N)(j:T.eqv T0 c d):T.cd In (kq i E) c d:=(Sf e g f _ T rfl h j).mono e (EL (by
 have l:=yH (λk=>T0.inB c (T.fr k)) d
 have m:fY (λk=>T0.inB c (T.fr k)) d≤c:=Og h.fi c
 omega))
end Gt
section
variable {F:Type} [OF F]
def zz(n:Nat)(z:Nat→F)(fr:Nat→Nat)(u:Nat):F:=gs n λk=>if fr k=u then z k else 0
theorem AI{N:Nat}{z:Nat→F}{fr:Nat→Nat}(h:∀k,k<c→fr k<N)(g:Nat→F):gs c (λk=>z k*g (fr k))=gs N (λu=>zz c z fr u*g u):=by
 have d:gs N (λu=>zz c z fr u*g u)=gs N (λu=>gs c λk=>(if fr k=u then z k else 0)*g u):=gN λu _=>by
  unfold zz;rw[Cring.mul_comm,←xV];exact gN λk _=>Cring.mul_comm _ _
 rw[d,SS];refine gN λk f=>?_;rw[ie (h k f) λu _ i=>by rw[iN λe=>i e.symm];exact vK _,iP rfl]
theorem Ko{z:Nat→F}{fr:Nat→Nat}(h:∀k,k<c→¬0<z k)(u:Nat):zz c z fr u≤0:=by
 have:0≤gs c λk=>-(if fr k=u then z k else 0):=nW λk d=>by
  have:=pq.1 (h k d);split
  ·exact fJ this
  ·exact fJ (mz (0:F))
 rw[Np]at this;exact fJ (show 0≤-zz c z fr u from this)
open Gt
def fR(n:Nat)(A:Gx F)(B C:Nat→F):Gt F:={ a:=A,b:=B,z:=C,v:=0,bs:=λi=>n+i,fr:=λk=>k }
def fh(m n:Nat)(A:Gx F)(B:Nat→F):Gt F:={ a:=λi k=>if k<n then A i k else -1,b:=B,z:=λk=>if k<n then 0 else -1,v:=0,bs:=λi=>n+i,fr:=λk=>if k<n then k else n+m }
variable {A:Gx F} {B C:Nat→F}
theorem Jl:(fR d A B C).arr c d (d+c) :=
 ⟨λi g=>by show d+i<d+c;omega,λk f=>by show k<d+c;omega,λi j _ _ e=>by have e:d+i=d+j:=e;omega,λi j _ _ e=>e,λi k _ f e=>by have e:d+i=k:=e;omega,λu l=>by
  by_cases h:u<d
  ·exact .inr ⟨u,h,rfl⟩
  ·exact .inl ⟨u-d,by omega,by show d+(u-d)=u;omega⟩⟩
theorem IB:(fh c d A B).arr c (d+1) (d+c+1) :=
 ⟨λi f=>by show d+i<d+c+1;omega,λk l=>by show(if k<d then k else d+c)<d+c+1;split <;> omega,λi j _ _ e=>by have e:d+i=d+j:=e;omega,λi j f m e=>by
  have e:(if i<d then i else d+c)=(if j<d then j else d+c):=e
  split at e <;> split at e <;> omega,λi k f l e=>by
  have e:d+i=(if k<d then k else d+c):=e
  split at e <;> omega,λu n=>by
  by_cases h:u<d
  ·exact .inr ⟨u,by omega,iP h⟩
  ·by_cases g:u=d+c
   ·exact .inr ⟨d,by omega,by show(if d<d then d else d+c)=u;rw[iN (by omega),g]⟩
   ·exact .inl ⟨u-d,by omega,by show d+(u-d)=u;omega⟩⟩
theorem Dp(x:Nat→F):(fR d A B C).sol c d x↔ ∀i,i<c→x (d+i)+gs d (λk=>A i k*x k)=B i:=Iff.rfl
theorem CS(x:Nat→F):(fR c A B C).obj c x=gs c (λk=>C k*x k):=by
 show(0:F)+gs c (λk=>C k*x k)=_;exact rg
theorem QX(i:Nat)(x:Nat→F):gs (d+1) (λk=>(fh c d A B).a i k*x ((fh c d A B).fr k))=gs d (λk=>A i k*x k)-x (d+c):=by
 show gs d (λk=>(fh c d A B).a i k*x ((fh c d A B).fr k))+(fh c d A B).a i d*x ((fh c d A B).fr d)=_;rw[gN (g:=λk=>A i k*x k) λk e=>by show(if k<d then A i k else -1)*x (if k<d then k else d+c)=_;rw[iP e,iP e]];show _+(if d<d then A i d else -1)*x (if d<d then d else d+c)=_;rw[iN (by omega),iN (by omega)];exact rg
theorem Nt(x:Nat→F):(fh c d A B).sol c (d+1) x↔ ∀i,i<c→x (d+i)+(gs d (λk=>A i k*x k)-x (d+c))=B i:=by
 constructor
 ·intro h i e;have:=h i e;rw[QX]at this;exact this
 ·intro h i e;rw[QX];exact h i e
theorem JW(x:Nat→F):(fh c d A B).obj (d+1) x= - x (d+c):=by
 show(0:F)+(gs d (λk=>(fh c d A B).z k*x ((fh c d A B).fr k))+(fh c d A B).z d*x ((fh c d A B).fr d))=_;rw[ga λk e=>by show(if k<d then(0:F) else -1)*_=0;rw[iP e];exact vK _];show(0:F)+(0+(if d<d then(0:F) else -1)*x (if d<d then d else d+c))=_;rw[iN (by omega),iN (by omega)];exact rg
def ext(m n:Nat)(A:Gx F)(B:Nat→F)(s:F)(u:Nat→F):Nat→F:=λv=>if v<n then u v else if v<n+m then B (v-n)-gs n (λk=>A (v-n) k*u k)+s else s
theorem yX{s:F}{u:Nat→F}(f:e<d):ext c d A B s u e=u e:=iP f
theorem He{s:F}{u:Nat→F}(f:e<c):ext c d A B s u (d+e)=B e-gs d (λk=>A e k*u k)+s:=by
 unfold ext;rw[iN (by omega),iP (by omega),show d+e-d=e by omega]
theorem Dc{s:F}{u:Nat→F}:ext c d A B s u (d+c)=s:=by
 unfold ext;rw[iN (by omega),iN (by omega)]
theorem Dl{s:F}{u:Nat→F}(f:Nat→F):gs d (λk=>f k*ext c d A B s u k)=gs d (λk=>f k*u k):=gN λk e=>by rw[yX e]
def Z8(n:Nat)(T:Gt F)(c:Nat)(i:Nat):F:=- zz c T.z T.fr (n+i)
theorem Om{T:Gt F}{N:Nat}(h:∀k,k<e→T.fr k<N)(g:N=d+c∨N=d+c+1)(s:F)(hs:N=d+c→s=0)(u:Nat→F):
  gs e (λk=>T.z k*ext c d A B s u (T.fr k))=gs d (λk=>zz e T.z T.fr k*u k)-gs c (λi=>Z8 d T e i*(B i-gs d (λk=>A i k*u k)+s))+(if N=d+c then 0 else zz e T.z T.fr (d+c)*s):=by
 rw[AI h];have f:gs (d+c) (λv=>zz e T.z T.fr v*ext c d A B s u v)=gs d (λk=>zz e T.z T.fr k*u k)-gs c (λi=>Z8 d T e i*(B i-gs d (λk=>A i k*u k)+s)):=by
  rw[YO,Dl];have:gs c (λi=>zz e T.z T.fr (d+i)*ext c d A B s u (d+i))=gs c (λi=>(-1)*(Z8 d T e i*(B i-gs d (λk=>A i k*u k)+s))):=gN λi j=>by
   rw[He j];unfold Z8;exact rg
  rw[this,xV];exact rg
 rcases g with rfl |rfl
 ·rw[f,iP rfl];exact rg
 ·show gs (d+c) _+zz e T.z T.fr (d+c)*ext c d A B s u (d+c)=_;rw[f,iN (by omega),Dc]
theorem Oh{T:Gt F}(h:∀k,k<d→¬0<T.z k)(i:Nat):0≤Z8 c T d i:=by
 have:=Ko (fr:=T.fr) h (c+i);unfold Z8;exact fJ this
theorem r9(m:Nat)(f g:Nat→F)(h:∀i,i<m→f i= - g i):gs m f= - gs m g:=by rw[gN h,Np]
structure Cp(m n:Nat)(A:Gx F)(B C:Nat→F)(y:Nat→F):Prop where
 nn:∀i,i<m→0≤y i
 le:∀k,k<n→C k≤gs m (λi=>y i*A i k)
theorem rR{T:Gt F}(h:T.arr c d (d+c))(o:T.eqv (fR d A B C) c d)(n:∀k,k<d→¬0<T.z k):Cp c d A B C (Z8 d T d)∧T.v=gs c (λi=>B i*Z8 d T d i):=by
 have id:∀u:Nat→F,gs d (λk=>C k*u k)=T.v+(gs d (λk=>zz d T.z T.fr k*u k)-gs c (λi=>Z8 d T d i*(B i-gs d (λk=>A i k*u k)+0))+0):=λu=>by
  have e:=o.obj (ext c d A B 0 u) ((Dp _).2 λi p=>by rw[He p,Dl];exact rg);rw[CS,Dl]at e;rw[←e];unfold obj;rw[Om h.fl (.inl rfl) 0 (λ_=>rfl) u,iP rfl]
 have l:=id λ_=>0;have t:gs d (λk=>C k*(0:F))=0:=ga λk _=>gV _;have w:gs d (λk=>zz d T.z T.fr k*(0:F))=0:=ga λk _=>gV _;have x:gs c (λi=>Z8 d T d i*(B i-gs d (λk=>A i k*(0:F))+0))=gs c (λi=>B i*Z8 d T d i):=gN λi _=>by
  rw[ga (f:=λk=>A i k*(0:F)) λk _=>gV _];exact rg
 rw[t,w,x]at l;have m:T.v=gs c (λi=>B i*Z8 d T d i):=iK l.symm;refine⟨⟨λi _=>Oh n i,λk q=>?_⟩,m⟩;have e:=id λj=>if j=k then 1 else 0;have g:∀f:Nat→F,gs d (λj=>f j*(if j=k then(1:F) else 0))=f k:=λf=>by
  rw[ie q λj _ r=>by rw[iN r];exact gV _,iP rfl,lQ]
 rw[g,g]at e;have s:gs c (λi=>Z8 d T d i*(B i-gs d (λj=>A i j*(if j=k then(1:F) else 0))+0))=gs c (λi=>B i*Z8 d T d i)-gs c (λi=>Z8 d T d i*A i k):=by
  rw[←Kl];exact gN λi _=>by rw[g (A i)];exact rg
 rw[s]at e;rw[e,m];exact fJ (Ko (fr:=T.fr) n k)
structure j5(m n:Nat)(A:Gx F)(B:Nat→F)(y:Nat→F):Prop where
 nn:∀i,i<m→0≤y i
 le:∀k,k<n→0≤gs m (λi=>y i*A i k)
 neg:gs m (λi=>B i*y i)<0
theorem YE{T:Gt F}(h:T.arr c (d+1) (d+c+1))(q:T.eqv (fh c d A B) c (d+1))(n:∀k,k<d+1→¬0<T.z k)(w:T.v<0):j5 c d A B (Z8 d T (d+1)):=by
 have id:∀u:Nat→F,(0:F)=T.v+(gs d (λk=>zz (d+1) T.z T.fr k*u k)-gs c (λi=>Z8 d T (d+1) i*(B i-gs d (λk=>A i k*u k)+0))+zz (d+1) T.z T.fr (d+c)*0):=λu=>by
  have g:=q.obj (ext c d A B 0 u) ((Nt _).2 λi r=>by rw[He r,Dl,Dc];exact rg);rw[JW,Dc]at g;have p:T.obj (d+1) (ext c d A B 0 u)=T.v+(gs d (λk=>zz (d+1) T.z T.fr k*u k)-gs c (λi=>Z8 d T (d+1) i*(B i-gs d (λk=>A i k*u k)+0))+zz (d+1) T.z T.fr (d+c)*0):=by
   unfold obj;rw[Om h.fl (.inr rfl) 0 (λe=>by omega) u,iN (by omega)]
  rw[←p,g];exact rg
 have l:=id λ_=>0;have y:gs d (λk=>zz (d+1) T.z T.fr k*(0:F))=0:=ga λk _=>gV _;have C:gs c (λi=>Z8 d T (d+1) i*(B i-gs d (λk=>A i k*(0:F))+0))=gs c (λi=>B i*Z8 d T (d+1) i):=gN λi _=>by
  rw[ga (f:=λk=>A i k*(0:F)) λk _=>gV _];exact rg
 rw[y,C]at l;have m:T.v=gs c (λi=>B i*Z8 d T (d+1) i):=iK l.symm;refine⟨λi _=>Oh n i,λk s=>?_,by rw[←m];exact w⟩;have g:=id λj=>if j=k then 1 else 0;have o:∀f:Nat→F,gs d (λj=>f j*(if j=k then(1:F) else 0))=f k:=λf=>by
  rw[ie s λj _ t=>by rw[iN t];exact gV _,iP rfl,lQ]
 rw[o]at g;have x:gs c (λi=>Z8 d T (d+1) i*(B i-gs d (λj=>A i j*(if j=k then(1:F) else 0))+0))=gs c (λi=>B i*Z8 d T (d+1) i)-gs c (λi=>Z8 d T (d+1) i*A i k):=by
  rw[←Kl];exact gN λi _=>by rw[o (A i)];exact rg
 rw[x]at g;rw[m]at g;exact fJ (jp (Ko (fr:=T.fr) n k) (xQ g))
def ZZ(m:Nat)(T:Gt F)(u:Nat):F:=gs m λi=>if T.bs i=u then T.b i else 0
theorem qk{T:Gt F}{N:Nat}(h:T.arr c d N)(f:i<d):ZZ c T (T.fr i)=0:=ga λg e=>iN (h.d g i e f)
theorem Bu{T:Gt F}{N:Nat}(h:T.arr c d N)(f:i<c):ZZ c T (T.bs i)=T.b i:=by
 unfold ZZ;rw[ie f λj g k=>iN λe=>k (h.bi j i g f e),iP rfl]
theorem GS{T:Gt F}{N:Nat}(h:T.arr c d N):T.sol c d (ZZ c T):=λi e=>by
 rw[Bu h e,ga λk f=>by rw[qk h f];exact gV _];exact rg
theorem I7{m:Nat}{T:Gt F}(c:T.fea m)(u:Nat):0≤ZZ m T u:=nW λi d=>by
 show 0≤if T.bs i=u then T.b i else 0
 split
 ·exact c i d
 ·exact mz _
theorem Mz{T:Gt F}{N:Nat}(h:T.arr c d N):T.obj d (ZZ c T)=T.v:=C1 λk e=>qk h e
structure mO(m n:Nat)(A:Gx F)(B:Nat→F)(x:Nat→F):Prop where
 nn:∀k,k<n→0≤x k
 le:∀i,i<m→gs n (λk=>A i k*x k)≤B i
theorem rX{T:Gt F}(h:T.arr c d (d+c))(e:T.eqv (fR d A B C) c d)(f:T.fea c):mO c d A B (ZZ c T)∧T.v=gs d (λk=>C k*ZZ c T k):=by
 have hs:=(e.sol _).1 (GS h);refine⟨⟨λk _=>I7 f k,λi j=>?_⟩,?_⟩
 ·have g:=(Dp _).1 hs i j;rw[←g];exact fJ (I7 (m:=c) f (d+i))
 ·have:=e.obj _ hs;rw[Mz h,CS]at this;exact this
def iM(m:Nat)(T:Gt F)(c u:Nat):F:=if T.fr c=u then 1 else-gs m λi=>if T.bs i=u then T.a i c else 0
theorem PT{T:Gt F}{N:Nat}(h:T.arr c d N)(g:i<d)(f:E<c):iM c T i (T.bs E)= - T.a E i:=by
 unfold iM;rw[iN λe=>h.d E i f g e.symm,ie f λj k l=>iN λe=>l (h.bi j E k f e),iP rfl]
theorem BF{T:Gt F}{N:Nat}(h:T.arr c d N)(j:i<d)(f:E<d):iM c T i (T.fr E)=if E=i then 1 else 0:=by
 unfold iM;by_cases e:E=i
 ·rw[e,iP rfl,iP rfl]
 ·rw[iN λg=>e (h.fi E i f j g.symm),iN e,ga λl k=>iN (h.d l E k f)];exact rg
theorem R8{T:Gt F}{N:Nat}(h:T.arr c d N)(f:i<d):T.sol c d (λu=>ZZ c T u+iM c T i u):=λg j=>by
 have e:gs d (λk=>T.a g k*(ZZ c T (T.fr k)+iM c T i (T.fr k)))=T.a g i:=by
  rw[ie f λk l m=>by rw[qk h l,BF h f l,iN m];exact rg];rw[qk h f,BF h f f,iP rfl];exact rg
 rw[e];show ZZ c T (T.bs g)+iM c T i (T.bs g)+T.a g i=T.b g;rw[Bu h j,PT h f j];exact rg
theorem P0{T:Gt F}{N:Nat}(h:T.arr c d N)(f:i<d):T.obj d (λu=>ZZ c T u+iM c T i u)=T.v+T.z i:=by
 unfold obj;have e:gs d (λk=>T.z k*(ZZ c T (T.fr k)+iM c T i (T.fr k)))=T.z i:=by
  rw[ie f λk g j=>by rw[qk h g,BF h f g,iN j];exact rg];rw[qk h f,BF h f f,iP rfl];exact rg
 rw[e]
theorem LG{T:Gt F}(h:∀i,i<c→¬0<T.a i d)(u:Nat):0≤iM c T d u:=by
 unfold iM;split
 ·exact gK oE
 ·rw[←Np];refine nW λi e=>?_;have:=pq.1 (h i e);split
  ·exact fJ this
  ·exact fJ (mz (0:F))
structure uX(m n:Nat)(A:Gx F)(C:Nat→F)(d:Nat→F):Prop where
 nn:∀k,k<n→0≤d k
 le:∀i,i<m→gs n (λk=>A i k*d k)≤0
 pos:0<gs n (λk=>C k*d k)
theorem Ab{T:Gt F}(h:T.arr c d (d+c))(l:T.eqv (fR d A B C) c d)(m:T.ent d e)(p:∀i,i<c→¬0<T.a i e):uX c d A C (iM c T e):=by
 have hs:=(Dp (C:=C) _).1 ((l.sol _).1 (GS h));have n:=(l.sol _).1 (R8 h m.lt);have s:=(Dp (C:=C) _).1 n;have add:∀f:Nat→F,gs d (λk=>f k*(ZZ c T k+iM c T e k))=gs d (λk=>f k*ZZ c T k)+gs d (λk=>f k*iM c T e k):=λf=>by
  rw[←Ik];exact gN λk _=>rg
 refine⟨λk _=>LG p k,λi o=>?_,?_⟩
 ·have g:=hs i o;have j:=s i o;rw[add (A i)]at j;have q:=LG p (d+i);have r:gs d (λk=>A i k*iM c T e k)= - iM c T e (d+i):=mK j 1 g (-1);rw[r];exact fJ q
 ·have g:=l.obj _ n;rw[P0 h m.lt,CS,add C]at g;have j:=l.obj _ ((l.sol _).1 (GS h));rw[Mz h,CS]at j;rw[j]at g;rw[show gs d (λk=>C k*iM c T e k)=T.z e from iK g.symm];exact m.pos
end
section
open Gt
variable {F:Type} [OF F] {A:Gx F} {B C:Nat→F} {T:Gt F}
theorem ET(h:T.arr c (d+1) (d+c+1))(e:T.eqv (fh c d A B) c (d+1)):T.v= - ZZ c T (d+c):=by
 have:=e.obj _ ((e.sol _).1 (GS h));rw[Mz h,JW]at this;exact this
theorem EU(h:T.arr c (d+1) (d+c+1))(f:T.eqv (fh c d A B) c (d+1))(i:e<d+1):T.z e= - iM c T e (d+c):=by
 have g:=f.obj _ ((f.sol _).1 (R8 h i));rw[P0 h i,JW]at g;have j:=ET h f;exact mK g 1 j (-1)
theorem zV(h:T.arr c (d+1) (d+c+1))(i:T.eqv (fh c d A B) c (d+1))(j:e<d+1)(g:T.fr e=d+c):∀k,k<d+1→¬0<T.z k:=λk f=>by
 rw[EU h i f,←g,BF h f j]
 split
 ·exact λh=>vG (MU (gK (oE (F:=F))) (ZB h:(1:F)<0))
 ·exact λh=>vG (ZB h:(0:F)<0)
theorem ZfD(h:T.arr c (d+1) (d+c+1))(l:T.eqv (fh c d A B) c (d+1))(n:T.fea c)(g:T.ent (d+1) e)(m:∀i,i<c→¬0<T.a i e):False:=by
 have j:=LG m (d+c);have k:=EU h l g.lt;have f:=g.pos;rw[k]at f;exact vG (ZB (iQ f j):(0:F)<0)
theorem zW(h:T.arr c (d+1) (d+c+1))(n:T.eqv (fh c d A B) c (d+1))(q:e<c)(g:T.bs e=d+c):∃k,k<d+1∧T.a e k≠0:=Classical.byContradiction λp=>by
 have r:∀k,k<d+1→T.a e k=0:=λk j=>Classical.byContradiction λg=>p ⟨k,j,g⟩
 have l:∀s:F,s=T.b e:=λs=>by
  have f:=(n.sol (ext c d A B s λ_=>0)).2 ((Nt _).2 λi o=>by rw[He o,Dl,Dc];exact rg) e q
  rw[ga λk j=>by rw[r k j];exact vK _,g,Dc]at f
  exact iK f
 have m:=l 0
 have f:=l 1
 rw[←m]at f
 exact absurd f qG
def sk(c k:Nat):Nat:=if k<c then k else k+1
theorem sa(h:d<c+1)(f:Nat→F):gs (c+1) f=f d+gs c (λk=>f (sk d k)):=by
 induction c with
 |zero=>rw[show d=0 by omega];exact rg
 |succ c g=>
  by_cases e:d=c+1
  ·have:gs (c+1) (λk=>f (sk d k))=gs (c+1) f:=gN λk i=>by unfold sk;rw[iP (by omega)]
   rw[this,e];exact Cring.add_comm _ _
  ·show gs (c+1) f+f (c+1)=f d+(gs c (λk=>f (sk d k))+f (sk d c));rw[g (by omega),show sk d c=c+1 from iN (by omega)];exact rg
def iE(m:Nat)(T:Gt F)(u f:Nat):F:=(if T.fr f=u then 1 else 0)-gs m λi=>if T.bs i=u then T.a i f else 0
theorem WF{N:Nat}(h:T.arr c d N){x:Nat→F}(q:T.sol c d x){u:Nat}(p:u<N):x u=ZZ c T u+gs d (λf=>iE c T u f*x (T.fr f)):=by
 rcases h.cov u p with⟨i,g,rfl⟩ |⟨k,l,rfl⟩
 ·have e:gs d (λf=>iE c T (T.bs i) f*x (T.fr f))= - gs d (λf=>T.a i f*x (T.fr f)):=r9 d _ _ λf m=>by
   unfold iE;rw[iN λe=>h.d i f g m e.symm,ie g λj o n=>iN λe=>n (h.bi j i o g e),iP rfl];exact rg
  rw[e,Bu h g];exact iK (q i g)
 ·have e:gs d (λf=>iE c T (T.fr k) f*x (T.fr f))=x (T.fr k):=by
   rw[ie l λf m n=>by
    unfold iE;rw[iN λe=>n (h.fi f k m l e),ga λi g=>iN (h.d i k g l)];exact rg]
   unfold iE;rw[iP rfl,ga λi g=>iN (h.d i k g l)];exact rg
  rw[e,qk h l];exact rg
def drop(m n:Nat)(C:Nat→F)(T:Gt F)(c:Nat):Gt F :=
 let D:Gt F:={ a:=λi k=>T.a i (sk c k),b:=T.b,z:=λ_=>0,v:=0,bs:=T.bs,fr:=λk=>T.fr (sk c k) }
 { D with z:=λf=>gs n (λk=>C k*iE m D k f),v:=gs n (λk=>C k*ZZ m D k) }
theorem Ao(h:sk c d=sk c e):d=e:=by
 unfold sk at h;split at h <;> split at h <;> omega
theorem xG{n c:Nat}(d:e<n):sk c e<n+1:=by unfold sk;split <;> omega
theorem wR(c k:Nat):sk c k≠c:=by unfold sk;split <;> omega
theorem E0(i:e<c+1)(g:d<c+1)(h:e≠d):∃k,k<c∧sk d k=e:=by
 by_cases f:e<d
 ·exact⟨e,by omega,by unfold sk;rw[iP f]⟩
 ·exact⟨e-1,by omega,by unfold sk;rw[iN (by omega)];omega⟩
theorem N5(h:T.arr c (d+1) (d+c+1))(p:e<d+1)(r:T.fr e=d+c):(drop c d C T e).arr c d (d+c):=by
 refine⟨λi g=>?_,λk m=>?_,λi j g q f=>h.bi i j g q f,λi j g q f=>Ao (h.fi _ _ (xG g) (xG q) f),λi k g m=>h.d i _ g (xG m),λu x=>?_⟩
 ·have o:=h.bl i g;have s:=h.d i e g p;show T.bs i<d+c;omega
 ·have o:=h.fl _ (xG (c:=e) m);have s:T.fr (sk e k)≠T.fr e:=λf=>wR e k (h.fi _ _ (xG m) p f);show T.fr (sk e k)<d+c;omega
 ·rcases h.cov u (by omega) with o |⟨l,t,f⟩
  ·exact .inl o
  ·have w:l≠e:=λn=>by rw[n,r]at f;omega
   obtain⟨k,m,n⟩:=E0 t p w;exact .inr ⟨k,m,by show T.fr (sk e k)=u;rw[n,f]⟩
theorem UD(h:T.arr c (d+1) (d+c+1))(w:T.eqv (fh c d A B) c (d+1))(o:e<d+1)(m:T.fr e=d+c)(x:Nat→F):(drop c d C T e).sol c d x↔(fR d A B C).sol c d x:=by
 let g:Nat→F:=λu=>if u=d+c then 0 else x u
 have j:∀u,u≠d+c→g u=x u:=λu y=>iN y;have p:g (d+c)=0:=iP rfl;have nf:∀k,k<d→T.fr (sk e k)≠d+c:=λk l n=>wR e k (h.fi _ _ (xG l) o (n.trans m.symm));have q:∀i,i<c→T.bs i≠d+c:=λi f n=>h.d i e f o (n.trans m.symm);have r:∀i,gs (d+1) (λk=>T.a i k*g (T.fr k))=gs d (λk=>T.a i (sk e k)*x (T.fr (sk e k))):=λi=>by
  rw[sa o,m,p,gN (g:=λk=>T.a i (sk e k)*x (T.fr (sk e k))) λk l=>by rw[j _ (nf k l)]];exact rg
 have t:(drop c d C T e).sol c d x↔T.sol c (d+1) g:=by
  constructor
  ·intro hs i f;rw[r i,j _ (q i f)];exact hs i f
  ·intro hs i f;have:=hs i f;rw[r i,j _ (q i f)]at this;exact this
 rw[t,w.sol g,Nt,Dp];have s:∀i,gs d (λk=>A i k*g k)=gs d (λk=>A i k*x k):=λi=>gN λk l=>by rw[j k (by omega)]
 constructor
 ·intro hs i f;have:=hs i f;rw[s i,p,j _ (by omega)]at this;exact iK this
 ·intro hs i f;rw[s i,p,j _ (by omega)];have:=hs i f;exact iK this
theorem W2(h:T.arr c (d+1) (d+c+1))(j:T.eqv (fh c d A B) c (d+1))(i:e<d+1)(g:T.fr e=d+c):(drop c d C T e).eqv (fR d A B C) c d:=by
 refine⟨UD h j i g,λx p=>?_⟩;have q:=(UD (C:=C) h j i g x).2 p;have o:=N5 (C:=C) h i g;rw[CS];have l:gs d (λk=>C k*x k)=gs d (λk=>C k*ZZ c (drop c d C T e) k+C k*gs d (λf=>iE c (drop c d C T e) k f*x ((drop c d C T e).fr f))):=gN λk r=>by
  rw[WF o q (u:=k) (by omega)];exact rg
 rw[l,Ik];have m:gs d (λf=>(drop c d C T e).z f*x ((drop c d C T e).fr f))=gs d (λk=>C k*gs d (λf=>iE c (drop c d C T e) k f*x ((drop c d C T e).fr f))):=by
  have n:gs d (λf=>(drop c d C T e).z f*x ((drop c d C T e).fr f))=gs d (λf=>gs d (λk=>C k*(iE c (drop c d C T e) k f*x ((drop c d C T e).fr f)))):=gN λf _=>by
   show gs d (λk=>C k*iE c (drop c d C T e) k f)*_=_;rw[Cring.mul_comm,←xV];exact gN λk _=>rg
  rw[n,SS];exact gN λk _=>by rw[xV]
 unfold obj;rw[m];rfl
noncomputable def xr(n:Int×Int×Int×Int)(d:Nat):Option ((Int×Int×Int×Int)×Nat) :=
 dU (pc d n.1.natAbs) λc=>
 dU (pc c n.2.1.natAbs) λe=>
 dU (pc e n.2.2.1.natAbs) λf=>
 dU (pc f n.2.2.2.natAbs) λa=>
 dU (pH a) λg=>
 dU (α:=Nat×(Int×Int×Int×Int))
 (dV (!g)
 (dU (iC n.1.natAbs a) λh=>
 dU (iC n.2.1.natAbs a) λi=>
 dU (iC n.2.2.1.natAbs a) λj=>
 dU (iC n.2.2.2.natAbs a) λk=>
 dU (iC d a) λl=>
 dU (im (decide (n.1<0)) h.1) λm=>
 dU (im (decide (n.2.1<0)) i.1) λo=>
 dU (im (decide (n.2.2.1<0)) j.1) λp=>
 dU (im (decide (n.2.2.2<0)) k.1) λq=>
 some (l.1,m,o,p,q))
 (some (d,n))) λb=>
 dU (pH b.1) λr=>
 dU (α:=Nat)
 (dV r
 (some (0:Nat))
 (some b.1)) λs=>
 some (b.2,s)
noncomputable def HV(x:(Int×Int×Int×Int)×Nat)(y:(Int×Int×Int×Int)×Nat):Option ((Int×Int×Int×Int)×Nat) :=
 dU (ZY x.2) λa=>
 dU (ZY y.2) λb=>
 dU (gp x.1.1 b) λc=>
 dU (gp y.1.1 a) λd=>
 dU (gl c d) λe=>
 dU (gp x.1.2.1 b) λf=>
 dU (gp y.1.2.1 a) λg=>
 dU (gl f g) λh=>
 dU (gp x.1.2.2.1 b) λi=>
 dU (gp y.1.2.2.1 a) λj=>
 dU (gl i j) λk=>
 dU (gp x.1.2.2.2 b) λl=>
 dU (gp y.1.2.2.2 a) λm=>
 dU (gl l m) λn=>
 dU (gI a b) λo=>
 dU (xr (e,h,k,n) o) λp=>
 some p
noncomputable def JN(x:(Int×Int×Int×Int)×Nat):Option ((Int×Int×Int×Int)×Nat) :=
 dU (ic x.1.1) λa=>
 dU (ic x.1.2.1) λb=>
 dU (ic x.1.2.2.1) λc=>
 dU (ic x.1.2.2.2) λd=>
 some ((a,b,c,d),x.2)
noncomputable def Eu(x:(Int×Int×Int×Int)×Nat)(y:(Int×Int×Int×Int)×Nat):Option ((Int×Int×Int×Int)×Nat) :=
 dU (JN y) λa=>
 dU (HV x a) λb=>
 some b
noncomputable def j8(x:Int)(n:Int):Option Int :=
 dU (ju n) λa=>
 dU (gp x a) λb=>
 some b
noncomputable def oH(x:Int×Int×Int×Int)(y:Int×Int×Int×Int):Option (Int×Int×Int×Int) :=
 dU (fT x.1 y.1) λa=>
 dU (fT x.2.1 y.2.1) λb=>
 dU (j8 b (2:Int)) λc=>
 dU (gl a c) λd=>
 dU (fT x.2.2.1 y.2.2.1) λe=>
 dU (j8 e (3:Int)) λf=>
 dU (gl d f) λg=>
 dU (fT x.2.2.2 y.2.2.2) λh=>
 dU (j8 h (6:Int)) λi=>
 dU (gl g i) λj=>
 dU (fT x.1 y.2.1) λk=>
 dU (fT x.2.1 y.1) λl=>
 dU (gl k l) λm=>
 dU (fT x.2.2.1 y.2.2.2) λn=>
 dU (fT x.2.2.2 y.2.2.1) λo=>
 dU (gl n o) λp=>
 dU (j8 p (3:Int)) λq=>
 dU (gl m q) λr=>
 dU (fT x.1 y.2.2.1) λs=>
 dU (fT x.2.2.1 y.1) λt=>
 dU (gl s t) λu=>
 dU (fT x.2.1 y.2.2.2) λv=>
 dU (fT x.2.2.2 y.2.1) λw=>
 dU (gl v w) λz=>
 dU (j8 z (2:Int)) λA=>
 dU (gl u A) λB=>
 dU (fT x.1 y.2.2.2) λC=>
 dU (fT x.2.2.2 y.1) λD=>
 dU (gl C D) λE=>
 dU (fT x.2.1 y.2.2.1) λF=>
 dU (gl E F) λG=>
 dU (fT x.2.2.1 y.2.1) λH=>
 dU (gl G H) λI=>
 some (j,r,B,I)
noncomputable def K3(x:(Int×Int×Int×Int)×Nat)(y:(Int×Int×Int×Int)×Nat):Option ((Int×Int×Int×Int)×Nat) :=
 dU (oH x.1 y.1) λa=>
 dU (ZY x.2) λb=>
 dU (ZY y.2) λc=>
 dU (gI b c) λd=>
 dU (xr a d) λe=>
 some e
noncomputable def Cu(x:(Int×Int×Int×Int)×Nat):Option Bool :=
 dU (chk .i64 (((Zc 18446744073709551616 x.1.1.natAbs).length:Int)+((Zc 18446744073709551616 x.1.2.1.natAbs).length:Int))) λa=>
 dU (chk .i64 (a+((Zc 18446744073709551616 x.1.2.2.1.natAbs).length:Int))) λb=>
 dU (chk .i64 (b+((Zc 18446744073709551616 x.1.2.2.2.natAbs).length:Int))) λc=>
 some (c==(0:Int))
theorem Fq(d:Nat):mU d=ZA d:=rfl
theorem DF:m.isz=true↔m=jK:=by
 unfold Su.isz;simp only[Bool.and_eq_true,decide_eq_true_eq];constructor
 ·rintro⟨c,d,e,f⟩
  cases m;simp only at c d e f;subst c d e f;rfl
 ·rintro rfl;exact⟨rfl,rfl,rfl,rfl⟩
theorem nk(d:Nat):0<ZA d:=by unfold ZA;split <;> omega
def N4(k:Nat)(n:I4)(d:Nat)(q:Su):Prop:=((n.1:Int):Rat)=q.p*((d:Nat):Rat)∧((n.2.1:Int):Rat)=q.q*((d:Nat):Rat)∧((n.2.2.1:Int):Rat)=q.r*((d:Nat):Rat)∧((n.2.2.2:Int):Rat)=q.s*((d:Nat):Rat)∧n.1.natAbs<2^k∧n.2.1.natAbs<2^k∧n.2.2.1.natAbs<2^k∧n.2.2.2.natAbs<2^k
theorem lu(h:c<2^d)(e:d≤4398046511104):eK c:=gD (Nat.le_trans (gU h) e)
theorem kV(h:j.natAbs<2^c)(d:c≤1000000):eK j.natAbs:=lu h (by omega)
theorem zX{a b:Nat}(h:a≤b):2^a≤2^b:=Nat.pow_le_pow_right (by omega) h
theorem GK(i:0<c)(k:c∣j.natAbs):∃m:Int,im (decide (j<0)) (j.natAbs / c)=some m∧j=m*c∧m.natAbs≤j.natAbs:=by
 obtain⟨d,f⟩:=k;have e:j.natAbs / c=d:=by rw[f,Nat.mul_div_cancel_left _ i]
 rw[e];rcases Int.lt_or_le j 0 with h |h
 ·refine⟨-(d:Int),?_,?_,?_⟩
  ·unfold im;rw[iN (by
    rintro⟨_,rfl⟩;omega),eo h]
   rfl
  ·have g:j= -(j.natAbs:Int):=by omega
   rw[g,f]
   push_cast
   rw[Int.neg_mul,Int.mul_comm]
  ·rw[f,Int.natAbs_neg,Int.natAbs_natCast];exact Nat.le_mul_of_pos_left d i
 ·refine⟨(d:Int),?_,?_,?_⟩
  ·unfold im;rw[eg (by omega),iN (by simp)];rfl
  ·have g:j=(j.natAbs:Int):=by omega
   rw[g,f]
   push_cast
   rw[Int.mul_comm]
  ·rw[f,Int.natAbs_natCast];exact Nat.le_mul_of_pos_left d i
theorem GJ(m:0<c)(h:((j:Int):Rat)=H*((c*d:Nat):Rat))(l:j=L*c):((L:Int):Rat)=H*((d:Nat):Rat):=by
 have f:((c:Nat):Rat)≠0:=by
  intro k;have:=Rat.natCast_inj.1 (show((c:Nat):Rat)=((0:Nat):Rat) from k);omega
 rw[l,Rat.natCast_mul,Rat.intCast_mul]at h;have g:((c:Int):Rat)=((c:Nat):Rat):=rfl;rw[g]at h;have i:((L:Int):Rat)*((c:Nat):Rat)=(H*((d:Nat):Rat))*((c:Nat):Rat):=by grind
 have e:=congrArg (· * ((c:Nat):Rat)⁻¹) i;simp only[Rat.mul_assoc,Rat.mul_inv_cancel _ f,Rat.mul_one]at e;rw[e]
theorem QF(h:0<c):ZA (if c=1 then 0 else c)=c:=by
 unfold ZA;by_cases d:c=1
 ·rw[iP d,iP rfl,d]
 ·rw[iN d,iN (by omega)]
theorem yt(c:m.p=O.p)(d:m.q=O.q)(e:m.r=O.r)(f:m.s=O.s):m=O:=by
 cases m;cases O;simp only at c d e f;subst c d e f;rfl
theorem sO{f g:Int}{k:Nat}(w:ZA d=c)(x:ZJ c=d)(u:0<c)(y:c<2^k)(h:N4 k (j,L,f,g) c m)(A:∀e:Nat,e∣c→e∣j.natAbs→e∣L.natAbs→e∣f.natAbs→e∣g.natAbs→e=1):some ((j,L,f,g),d)=some (cn m)∧Sz k m:=by
 obtain⟨q,r,s,t,l,n,o,p⟩:=h;have i:cn m=((j,L,f,g),d):=by
  rw[uY.cn (n:=(j,L,f,g)) (d:=c) ⟨u,q,r,s,t,A⟩,x]
 refine⟨by rw[i],?_⟩;unfold Sz;rw[i];exact⟨by rw[w];exact y,l,n,o,p⟩
theorem TE(q:Su):ZA (cn q).2=fF q:=QF (Hv q).pos
theorem Sz.n4(h:Sz c m):N4 c (cn m).1 (ZA (cn m).2) m:=by
 have l:=Hv m;obtain⟨_,d,e,f,g⟩:=h;rw[TE];exact⟨l.p,l.q,l.r,l.s,d,e,f,g⟩
theorem Sz.mono{k:Nat}(h:Sz k m)(c:k≤d):Sz d m:=by
 have:=zX c;obtain⟨a,e,f,g,i⟩:=h;exact⟨by omega,by omega,by omega,by omega,by omega⟩
theorem Sz.split(h:Sz c m):∃(f g i j:Int) (d:Nat),cn m=((f,g,i,j),d)∧ZA d<2^c∧N4 c (f,g,i,j) (ZA d) m:=by
 have k:=h.n4;obtain⟨l,_⟩:=h;rcases e:cn m with⟨⟨f,g,i,j⟩,d⟩;rw[e]at k l;exact⟨f,g,i,j,d,rfl,l,k⟩
theorem Eo{k:Nat}{n:I4}{d:Nat}{q:Su}(t:k≤1000000)(o:0<d)(a5:d<2^k)(h:N4 k n d q):xr n d=some (cn q)∧Sz k q:=by
 obtain⟨L,M,N,O,b0,b1,b2,b3⟩:=h;have l:eK d:=lu a5 (by omega);have X:=kV b0 t;have Y:=kV b1 t;have Z:=kV b2 t;have o3:=kV b3 t;unfold xr;unfold pc iC pH;rw[iP ⟨l,X⟩,Za];have P:=Nat.gcd_dvd_left d n.1.natAbs;have a0:=Nat.gcd_dvd_right d n.1.natAbs;have p1:=Nat.gcd_pos_of_pos_left n.1.natAbs o;generalize a8:Nat.gcd d n.1.natAbs=G at *;rw[iP ⟨xH (Nat.le_of_dvd o P) l,Y⟩,Za];have Q:=Nat.gcd_dvd_left G n.2.1.natAbs;have a1:=Nat.gcd_dvd_right G n.2.1.natAbs;have p2:=Nat.gcd_pos_of_pos_left n.2.1.natAbs p1;generalize aa:Nat.gcd G n.2.1.natAbs=H at *;have S:=Nat.dvd_trans Q P;rw[iP ⟨xH (Nat.le_of_dvd o S) l,Z⟩,Za];have J:=Nat.gcd_dvd_left H n.2.2.1.natAbs;have a2:=Nat.gcd_dvd_right H n.2.2.1.natAbs;have p3:=Nat.gcd_pos_of_pos_left n.2.2.1.natAbs p2;generalize ab:Nat.gcd H n.2.2.1.natAbs=I at *;have U:=Nat.dvd_trans J S;rw[iP ⟨xH (Nat.le_of_dvd o U) l,o3⟩,Za];have s:=Nat.gcd_dvd_left I n.2.2.2.natAbs;have a3:=Nat.gcd_dvd_right I n.2.2.2.natAbs;have f:=Nat.gcd_pos_of_pos_left n.2.2.2.natAbs p3;generalize ad:Nat.gcd I n.2.2.2.natAbs=g at *;have W:=Nat.dvd_trans s U;have p:eK g:=xH (Nat.le_of_dvd o W) l;have a6:g∣n.1.natAbs:=Nat.dvd_trans s (Nat.dvd_trans J (Nat.dvd_trans Q a0));have a7:g∣n.2.1.natAbs:=Nat.dvd_trans s (Nat.dvd_trans J a1)
 have a9:g∣n.2.2.1.natAbs:=Nat.dvd_trans s a2;obtain⟨u,K,B,y0⟩:=GK f a6;obtain⟨w,c1,C,y1⟩:=GK f a7;obtain⟨y,c2,D,y2⟩:=GK f a9;obtain⟨A,c3,E,y3⟩:=GK f a3;obtain⟨e,j⟩:=W;have e':d / g=e:=by rw[j,Nat.mul_div_cancel_left _ f]
 have F:0<e:=by
  rcases Nat.eq_zero_or_pos e with h |h
  ·rw[h,Nat.mul_zero]at j;omega
  ·exact h
 have al:e≤d:=by rw[j];exact Nat.le_mul_of_pos_left e f
 rw[Za];have hX:dU (α:=Nat×(Int×Int×Int×Int)) (dV (!decide (g=1)) (dU (if eK n.1.natAbs∧eK g∧g≠0 then some (n.1.natAbs / g,n.1.natAbs%g) else none) λy6=>dU (if eK n.2.1.natAbs∧eK g∧g≠0 then some (n.2.1.natAbs / g,n.2.1.natAbs%g) else none) λy7=>dU (if eK n.2.2.1.natAbs∧eK g∧g≠0 then some (n.2.2.1.natAbs / g,n.2.2.1.natAbs%g) else none) λy8=>dU (if eK n.2.2.2.natAbs∧eK g∧g≠0 then some (n.2.2.2.natAbs / g,n.2.2.2.natAbs%g) else none) λy9=>dU (if eK d∧eK g∧g≠0 then some (d / g,d%g) else none) λag=>dU (im (decide (n.1<0)) y6.1) λah=>dU (im (decide (n.2.1<0)) y7.1) λai=>dU (im (decide (n.2.2.1<0)) y8.1) λaj=>dU (im (decide (n.2.2.2<0)) y9.1) λak=>some (ag.1,ah,ai,aj,ak)) (some (d,n))) (λx=>some x)=some (e,u,w,y,A):=by
  by_cases i:g=1
  ·rw[eo i,show(!true)=false from rfl,Zf,Za];subst i;rw[Int.natCast_one,Int.mul_one]at B C D E;rw[Nat.one_mul]at j;subst j B C D E;rfl
  ·rw[eg i,show(!false)=true from rfl,Ze,iP ⟨X,p,by omega⟩,Za,iP ⟨Y,p,by omega⟩,Za,iP ⟨Z,p,by omega⟩,Za,iP ⟨o3,p,by omega⟩,Za,iP ⟨l,p,by omega⟩,Za];simp only;rw[K,Za,c1,Za,c2,Za,c3,Za,Za,e']
 obtain⟨an,hx,ae⟩:=f9 hX;rw[hx,Za];obtain rfl:=Option.some.inj ae;simp only;rw[Za];have hY:dU (α:=Nat) (dV (decide (e=1)) (some (0:Nat)) (some e)) (λaf=>some ((u,w,y,A),af))=some ((u,w,y,A),if e=1 then 0 else e):=by
  by_cases i:e=1
  ·rw[eo i,Ze,Za,iP i]
  ·rw[eg i,Zf,Za,iN i]
 rw[hY];refine sO (by
  show ZA (if e=1 then 0 else e)=e;exact QF F) (by
  show ZJ e=_;rfl) F (by omega) (k:=k) (by
  rw[j]at L M N O;exact⟨GJ f L B,GJ f M C,GJ f N D,GJ f O E,by show u.natAbs<_;omega,by show w.natAbs<_;omega,by show y.natAbs<_;omega,by show A.natAbs<_;omega⟩) (λc R h0 i h2 h3=>?_)
 have r:∀{m n:Int},n=m*(g:Int)→c∣m.natAbs→c*g∣n.natAbs:=λ{m n} e h=>by
  rw[e,Int.natAbs_mul,Int.natAbs_natCast];exact Nat.mul_dvd_mul_right h g
 have a4:c*g∣g:=by
  conv=>rhs;rw[←ad,←ab,←aa,←a8]
  exact Nat.dvd_gcd (Nat.dvd_gcd (Nat.dvd_gcd (Nat.dvd_gcd (by rw[j,Nat.mul_comm g e];exact Nat.mul_dvd_mul_right R g) (r B h0)) (r C i)) (r D h2)) (r E h3)
 have am:=Nat.le_of_dvd f a4;have K:0<c:=Nat.pos_of_dvd_of_pos R F;rcases Nat.lt_or_ge 1 c with h |h
 ·have:=mR g h;omega
 ·omega
theorem me{a b:Nat}(h:j.natAbs<2^a)(d:c<2^b):(j*c).natAbs<2^(a+b):=by
 rw[Int.natAbs_mul,Int.natAbs_natCast,Nat.pow_add];exact Nat.mul_lt_mul'' h d
theorem kM{a b:Nat}(h:j.natAbs<2^a)(d:c<2^b)(e:a≤1000000)(f:b≤1000000):gp j c=some (j*c):=iP ⟨kV h e,lu d (by omega)⟩
theorem Di{a b:Nat}(h:j.natAbs<2^a)(c:L.natAbs<2^b)(d:a≤1000000)(e:b≤1000000):gl j L=some (j+L):=iP ⟨kV h d,kV c e⟩
theorem pT{a b:Nat}(h:j.natAbs<2^a)(c:L.natAbs<2^b)(d:a≤1000000)(e:b≤1000000):fT j L=some (j*L):=iP ⟨kV h d,kV c e⟩
theorem C'{a:Nat}(h:j.natAbs<2^a)(c:L.natAbs<2^a):(j+L).natAbs<2^(a+1):=by
 have:=Int.natAbs_add_le j L;rw[Nat.pow_succ];omega
theorem zJ{a b:Nat}(h:j.natAbs<2^a)(c:L.natAbs<2^b):(j*L).natAbs<2^(a+b):=by
 rw[Int.natAbs_mul,Nat.pow_add];exact Nat.mul_lt_mul'' h c
theorem Gf(h:((j:Int):Rat)=H*((c:Nat):Rat))(e:((L:Int):Rat)=μ*((d:Nat):Rat)):((j*d+L*c:Int):Rat)=(H+μ)*((c*d:Nat):Rat):=by
 rw[Rat.intCast_add,Rat.intCast_mul,Rat.intCast_mul,h,e,Rat.natCast_mul,show((d:Int):Rat)=((d:Nat):Rat) from rfl,show((c:Int):Rat)=((c:Nat):Rat) from rfl];grind
theorem tG(h:((j:Int):Rat)=H*((c:Nat):Rat)):((-j:Int):Rat)= -H*((c:Nat):Rat):=by rw[Rat.intCast_neg,h,Rat.neg_mul]
theorem ZxB{a:Nat}(h:j.natAbs<2^a)(d:a≤1000000)(e:c<8):j8 j (c:Int)=some (j*(c:Int)):=by
 unfold j8 ju;rw[Za,tN,kM h (show c<2^3 by omega) d (by omega),Za]
def LB(k c:Nat)(z:Int):Prop:=z.natAbs<c*2^k
theorem LB.add{z:Int}(h:LB c d z)(f:LB c e L):LB c (d+e) (z+L):=by
 have:=Int.natAbs_add_le z L;unfold LB at *;rw[Nat.add_mul];omega
theorem LB.mul{z:Int}(h:LB c d z)(n:Nat)(e:0<n):LB c (d*n) (z*(n:Int)):=by
 unfold LB at *;rw[Int.natAbs_mul,Int.natAbs_natCast,Nat.mul_right_comm];exact Nat.mul_lt_mul_of_pos_right h e
theorem LB.fit{z:Int}(h:LB c d z)(e:d≤16):z.natAbs<2^(c+4):=by
 have:d*2^c≤16*2^c:=mR _ e;unfold LB at h;rw[Nat.pow_add];omega
theorem LB.ml{a b:Nat}(h:j.natAbs<2^a)(c:L.natAbs<2^b):LB (a+b) 1 (j*L):=by
 unfold LB;rw[Nat.one_mul];exact zJ h c
theorem LB.pl{z:Int}(h:LB c d z)(f:LB c e L)(g:d≤16)(i:e≤16)(j:c≤999990):gl z L=some (z+L):=Di (h.fit g) (f.fit i) (by omega) (by omega)
theorem LB.fo{z:Int}(h:LB c d z)(n:Nat)(f:n<8)(e:d≤16)(g:c≤999990):j8 z (n:Int)=some (z*(n:Int)):=ZxB (h.fit e) (by omega) f
theorem Te{a b:Nat}{c e f g i k:Int}(l:j.natAbs<2^a)(m:L.natAbs<2^a)(n:c.natAbs<2^a)(o:e.natAbs<2^a)(p:f.natAbs<2^b)(q:g.natAbs<2^b)(r:i.natAbs<2^b)(u:k.natAbs<2^b)(h:a+b≤999990):∃N O P Q:Int,oH (j,L,c,e) (f,g,i,k)=some (N,O,P,Q)∧N=j*f+L*g*2+c*i*3+e*k*6∧O=j*g+L*f+(c*k+e*i)*3∧P=j*i+c*f+(L*k+e*g)*2∧Q=j*k+e*f+L*i+c*g∧N.natAbs<2^(a+b+4)∧O.natAbs<2^(a+b+4)∧P.natAbs<2^(a+b+4)∧Q.natAbs<2^(a+b+4):=by
 have I:∀{s t:Int},s.natAbs<2^a→t.natAbs<2^b→fT s t=some (s*t):=λh1 h'=>pT h1 h' (by omega) (by omega);have x:=LB.ml l p;have C:=LB.ml l q;have D:=LB.ml l r;have y:=LB.ml l u;have E:=LB.ml m p;have a1:=LB.ml m q;have F:=LB.ml m r;have G:=LB.ml m u;have H:=LB.ml n p;have a2:=LB.ml n q;have a3:=LB.ml n r;have J:=LB.ml n u;have A:=LB.ml o p;have K:=LB.ml o q;have M:=LB.ml o r;have a4:=LB.ml o u;unfold oH;simp only;rw[I l p,Za,I m q,Za,I n r,I o u,I l q,I m p,I n u,I o r,I l r,I n p,I m u,I o q,I l u,I o p,I m r,I n q];simp only[Za];clear I l m n o p q r u;generalize j*f=a5 at *;generalize j*g=a6 at *;generalize j*i=a7 at *;generalize j*k=a8 at *;generalize L*f=a9 at *;generalize L*g=aa at *;generalize L*i=ab at *;generalize L*k=ad at *;generalize c*f=ae at *;generalize c*g=af at *;generalize c*i=ag at *;generalize c*k=ah at *;generalize e*f=ai at *;generalize e*g=aj at *;generalize e*i=ak at *;generalize e*k=al at *;have d:=@lB;have W:=a1.fo 2 (d rfl) (d rfl) h;have w:=a1.mul 2 (d rfl);have Y:=a3.fo 3 (d rfl) (d rfl) h;have B:=a3.mul 3 (d rfl);have a0:=a4.fo 6 (d rfl) (d rfl) h
 have U:=a4.mul 6 (d rfl);have Z:=(J.add M).fo 3 (d rfl) (d rfl) h;have S:=(J.add M).mul 3 (d rfl);have X:=(G.add K).fo 2 (d rfl) (d rfl) h;have R:=(G.add K).mul 2 (d rfl);simp only[show(((2:Nat):Int))=2 from rfl,show(((3:Nat):Int))=3 from rfl,show(((6:Nat):Int))=6 from rfl]at W w Y B a0 U Z S X R;rw[W,Za,x.pl w (d rfl) (d rfl) h,Za,Y,Za,(x.add w).pl B (d rfl) (d rfl) h,Za,a0,Za,((x.add w).add B).pl U (d rfl) (d rfl) h,Za,
  C.pl E (d rfl) (d rfl) h,Za,J.pl M (d rfl) (d rfl) h,Za,Z,Za,(C.add E).pl S (d rfl) (d rfl) h,Za,
  D.pl H (d rfl) (d rfl) h,Za,G.pl K (d rfl) (d rfl) h,Za,X,Za,(D.add H).pl R (d rfl) (d rfl) h,Za,
  y.pl A (d rfl) (d rfl) h,Za,(y.add A).pl F (d rfl) (d rfl) h,Za,((y.add A).add F).pl a2 (d rfl) (d rfl) h,Za]
 exact⟨_,_,_,_,rfl,rfl,rfl,rfl,rfl,(((x.add w).add B).add U).fit (d rfl),((C.add E).add S).fit (d rfl),((D.add H).add R).fit (d rfl),(((y.add A).add F).add a2).fit (d rfl)⟩
theorem HZ{n:Nat}:((Zc 18446744073709551616 n).length=0)↔n=0:=by
 constructor
 ·intro h;apply Classical.byContradiction;intro c;have:=Bi (B:=18446744073709551616) (by omega) c;unfold Zc at h;rw[dif_neg (by omega)]at h;simp at h
 ·rintro rfl;unfold Zc;simp
theorem AT(f:0<c)(h:((j:Int):Rat)=H*((c:Nat):Rat)):j=0↔H=0:=by
 have d:((c:Nat):Rat)≠0:=λe=>by
  have:=Rat.natCast_inj.1 (show((c:Nat):Rat)=((0:Nat):Rat) from e);omega
 constructor
 ·rintro rfl;rcases Rat.mul_eq_zero.1 h.symm with h |h
  ·exact h
  ·exact absurd h d
 ·rintro rfl;rw[Rat.zero_mul]at h;exact Rat.intCast_inj.1 h
theorem UM{a b:Nat}(o:Sz a m)(p:Sz b O)(h:a+b≤999999):HV (cn m) (cn O)=some (cn (m.add O))∧Sz (a+b+1) (m.add O):=by
 obtain⟨c,s,t,w,A,e,f,g,i⟩:ZA (cn m).2<2^a∧N4 a (cn m).1 (ZA (cn m).2) m:=⟨o.1,o.n4⟩;obtain⟨d,B,C,E,F,j,k,l,n⟩:ZA (cn O).2<2^b∧N4 b (cn O).1 (ZA (cn O).2) O:=⟨p.1,p.n4⟩;generalize cn m=x at *;generalize cn O=y at *;have r:b+a=a+b:=Nat.add_comm _ _;unfold HV ZY;simp only[Fq];rw[Za,Za,kM e d (by omega) (by omega),Za,kM j c (by omega) (by omega),Za,Di (me e d) (me j c) (by omega) (by omega),Za,
  kM f d (by omega) (by omega),Za,kM k c (by omega) (by omega),Za,Di (me f d) (me k c) (by omega) (by omega),Za,
  kM g d (by omega) (by omega),Za,kM l c (by omega) (by omega),Za,Di (me g d) (me l c) (by omega) (by omega),Za,
  kM i d (by omega) (by omega),Za,kM n c (by omega) (by omega),Za,Di (me i d) (me n c) (by omega) (by omega),Za]
 unfold gI;rw[iP ⟨lu c (by omega),lu d (by omega)⟩,Za];have P:∀{u v:Int},u.natAbs<2^a→v.natAbs<2^b→(u*(ZA y.2:Int)+v*(ZA x.2:Int)).natAbs<2^(a+b+1):=λh q=>C' (me h d) (by rw[←r];exact me q c);have D:ZA x.2*ZA y.2<2^(a+b+1):=by
  have:=Nat.mul_lt_mul'' c d;rw[←Nat.pow_add]at this;rw[Nat.pow_succ];omega
 have hs:=Eo (k:=a+b+1) (n:=(x.1.1*(ZA y.2:Int)+y.1.1*(ZA x.2:Int),x.1.2.1*(ZA y.2:Int)+y.1.2.1*(ZA x.2:Int),x.1.2.2.1*(ZA y.2:Int)+y.1.2.2.1*(ZA x.2:Int),x.1.2.2.2*(ZA y.2:Int)+y.1.2.2.2*(ZA x.2:Int))) (q:=m.add O) (by omega) (Nat.mul_pos (nk x.2) (nk y.2)) D ⟨Gf s B,Gf t C,Gf w E,Gf A F,P e j,P f k,P g l,P i n⟩;exact⟨by rw[hs.1,Za],hs.2⟩
theorem ZrB{a b:Nat}(X:Sz a m)(Y:Sz b O)(h:a+b≤999990):K3 (cn m) (cn O)=some (cn (m.mul O))∧Sz (a+b+4) (m.mul O):=by
 obtain⟨j,k,l,n,d,S,G,s,t,u,w,I,J,K,L⟩:=X.split;obtain⟨o,p,q,r,e,U,H,x,y,A,B,M,N,P,Q⟩:=Y.split;simp only at G s t u w I J K L H x y A B M N P Q;rw[S,U];have hp:∃c f g i:Int,oH (j,k,l,n) (o,p,q,r)=some (c,f,g,i)∧c=j*o+k*p*2+l*q*3+n*r*6∧f=j*p+k*o+(l*r+n*q)*3∧g=j*q+l*o+(k*r+n*p)*2∧i=j*r+n*o+k*q+l*p∧c.natAbs<2^(a+b+4)∧f.natAbs<2^(a+b+4)∧g.natAbs<2^(a+b+4)∧i.natAbs<2^(a+b+4):=Te I J K L M N P Q h;obtain⟨c,f,g,i,R,Z,t1,t2,t3,z0,z1,z2,z3⟩:=hp;unfold K3 ZY;simp only[Fq];rw[R,Za,Za,Za];unfold gI;rw[iP ⟨lu G (by omega),lu H (by omega)⟩,Za];have D:ZA d*ZA e<2^(a+b+4):=by
  have:=Nat.mul_lt_mul'' G H;rw[←Nat.pow_add]at this;rw[Nat.pow_add];omega
 have W:N4 (a+b+4) (c,f,g,i) (ZA d*ZA e) (m.mul O):=by
  have C:(((2:Int)):Rat)=2:=rfl;have E:(((3:Int)):Rat)=3:=rfl;have F:(((6:Int)):Rat)=6:=rfl;refine⟨?_,?_,?_,?_,z0,z1,z2,z3⟩
  ·show((c:Int):Rat)=_;simp only[Z,Rat.intCast_add,Rat.intCast_mul,s,t,u,w,x,y,A,B,Rat.natCast_mul,Su.mul,C,E,F];grind
  ·show((f:Int):Rat)=_;simp only[t1,Rat.intCast_add,Rat.intCast_mul,s,t,u,w,x,y,A,B,Rat.natCast_mul,Su.mul,C,E,F];grind
  ·show((g:Int):Rat)=_;simp only[t2,Rat.intCast_add,Rat.intCast_mul,s,t,u,w,x,y,A,B,Rat.natCast_mul,Su.mul,C,E,F];grind
  ·show((i:Int):Rat)=_;simp only[t3,Rat.intCast_add,Rat.intCast_mul,s,t,u,w,x,y,A,B,Rat.natCast_mul,Su.mul,C,E,F];grind
 have hs:=Eo (k:=a+b+4) (by omega) (Nat.mul_pos (nk d) (nk e)) D W;exact⟨by rw[hs.1,Za],hs.2⟩
theorem Ij{a:Nat}(n:Sz a m)(h:a≤1000000):Cu (cn m)=some m.isz:=by
 obtain⟨B,u,w,y,A,p,q,r,s⟩:ZA (cn m).2<2^a∧N4 a (cn m).1 (ZA (cn m).2) m:=⟨n.1,n.n4⟩;generalize cn m=x at *;have o:∀{z:Int},z.natAbs<2^a→(Zc 18446744073709551616 z.natAbs).length≤68719476736:=λt=>kV t h;have K:=o p;have L:=o q;have M:=o r;have N:=o s;have c:=nk x.2;have i:=AT c u;have j:=AT c w;have k:=AT c y;have l:=AT c A;have d:=HZ (n:=x.1.1.natAbs);have e:=HZ (n:=x.1.2.1.natAbs);have f:=HZ (n:=x.1.2.2.1.natAbs);have g:=HZ (n:=x.1.2.2.2.natAbs);rw[Int.natAbs_eq_zero]at d e f g;unfold Cu;generalize(Zc 18446744073709551616 x.1.1.natAbs).length=G at *;generalize(Zc 18446744073709551616 x.1.2.1.natAbs).length=H at *;generalize(Zc 18446744073709551616 x.1.2.2.1.natAbs).length=I at *;generalize(Zc 18446744073709551616 x.1.2.2.2.natAbs).length=J at *;rw[Zk (by omega) (by omega),Za,Zk (by omega) (by omega),Za,Zk (by omega) (by omega),Za];congr 1;rw[Bool.eq_iff_iff,beq_iff_eq];show _↔m.isz=true;rw[DF];constructor
 ·intro h;exact yt (i.1 (d.1 (by omega))) (j.1 (e.1 (by omega))) (k.1 (f.1 (by omega))) (l.1 (g.1 (by omega)))
 ·intro h;rw[h]at i j k l;have C:=d.2 (i.2 rfl);have D:=e.2 (j.2 rfl);have E:=f.2 (k.2 rfl);have F:=g.2 (l.2 rfl);omega
noncomputable def A8(a:Int)(b:Int):Option Int :=
 dU (qH a) λc=>
 dU (qH b) λd=>
 dU (α:=Int)
 (dU (α:=Bool)
 (dV (c==d)
 (some true)
 (some (d==(0:Int)))) λe=>
 dV e
 (some c)
 (dV (c==(0:Int))
 (some d)
 (dU (fT a a) λf=>
 dU (fT b b) λg=>
 dU (j8 g (2:Int)) λh=>
 dU (ic h) λi=>
 dU (gl f i) λj=>
 dU (qH j) λk=>
 dU (chk .i64 (c*k)) λl=>
 some l))) λm=>
 some m
noncomputable def Hr(x:(Int×Int×Int×Int)×Nat):Option Int :=
 dU (A8 x.1.1 x.1.2.1) λa=>
 dU (A8 x.1.2.2.1 x.1.2.2.2) λb=>
 dU (α:=Int)
 (dU (α:=Bool)
 (dV (a==b)
 (some true)
 (some (b==(0:Int)))) λc=>
 dV c
 (some a)
 (dV (a==(0:Int))
 (some b)
 (dU (fT x.1.1 x.1.1) λd=>
 dU (fT x.1.2.1 x.1.2.1) λe=>
 dU (j8 e (2:Int)) λf=>
 dU (gl d f) λg=>
 dU (fT x.1.2.2.1 x.1.2.2.1) λh=>
 dU (fT x.1.2.2.2 x.1.2.2.2) λi=>
 dU (j8 i (2:Int)) λj=>
 dU (gl h j) λk=>
 dU (j8 k (3:Int)) λl=>
 dU (ic l) λm=>
 dU (gl g m) λn=>
 dU (fT x.1.1 x.1.2.1) λo=>
 dU (fT x.1.2.2.1 x.1.2.2.2) λp=>
 dU (j8 p (3:Int)) λq=>
 dU (ic q) λr=>
 dU (gl o r) λs=>
 dU (j8 s (2:Int)) λt=>
 dU (A8 n t) λu=>
 dU (chk .i64 (a*u)) λv=>
 some v))) λw=>
 some w
noncomputable def K6(x:(Int×Int×Int×Int)×Nat)(y:(Int×Int×Int×Int)×Nat):Option Int :=
 dU (Eu x y) λa=>
 dU (Hr a) λb=>
 some b
noncomputable def Ja(x:(Int×Int×Int×Int)×Nat):Option (Rat×Rat×Rat×Rat) :=
 dU (ZY x.2) λa=>
 dU (jO x.1.1 a) λb=>
 dU (ZY x.2) λc=>
 dU (jO x.1.2.1 c) λd=>
 dU (ZY x.2) λe=>
 dU (jO x.1.2.2.1 e) λf=>
 dU (ZY x.2) λg=>
 dU (jO x.1.2.2.2 g) λh=>
 some (b,d,f,h)
noncomputable def Jm(x:(Int×Int×Int×Int)×Nat)(y:Rat):Option ((Int×Int×Int×Int)×Nat) :=
 some ((y.num,(0:Int),(0:Int),(0:Int)),ZJ y.den)
noncomputable def Jy(a:Rat×Rat×Rat×Rat):Option ((Int×Int×Int×Int)×Nat) :=
 dU (ju (1:Int)) λc=>
 dU (ZY (ZJ a.1.den)) λd=>
 dU (gI c d) λe=>
 dU (ZY (ZJ a.2.1.den)) λf=>
 dU (gI e f) λg=>
 dU (ZY (ZJ a.2.2.1.den)) λh=>
 dU (gI g h) λi=>
 dU (ZY (ZJ a.2.2.2.den)) λj=>
 dU (gI i j) λb=>
 dU (ZY (ZJ a.1.den)) λk=>
 dU (iC b k) λl=>
 dU (gp a.1.num l.1) λm=>
 dU (ZY (ZJ a.2.1.den)) λn=>
 dU (iC b n) λo=>
 dU (gp a.2.1.num o.1) λp=>
 dU (ZY (ZJ a.2.2.1.den)) λq=>
 dU (iC b q) λr=>
 dU (gp a.2.2.1.num r.1) λs=>
 dU (ZY (ZJ a.2.2.2.den)) λt=>
 dU (iC b t) λu=>
 dU (gp a.2.2.2.num u.1) λv=>
 dU (xr (m,p,s,v) b) λw=>
 some w
theorem uY.neg{n:I4}(h:uY n c m):uY (-n.1,-n.2.1,-n.2.2.1,-n.2.2.2) c m.neg :=
 ⟨h.pos,tG h.p,tG h.q,tG h.r,tG h.s,λk i d e f g=>h.low k i (by simpa using d) (by simpa using e) (by simpa using f) (by simpa using g)⟩
theorem TV(x:Su):cn x.neg=((-(cn x).1.1,-(cn x).1.2.1,-(cn x).1.2.2.1,-(cn x).1.2.2.2),(cn x).2):=(Hv x).neg.cn
theorem R2:JN (cn m)=some (cn m.neg):=by
 rw[TV];rfl
theorem Sz.neg(h:Sz c m):Sz c m.neg:=by
 unfold Sz at *;rw[TV];simp only[Int.natAbs_neg];exact h
theorem Ke{a b:Nat}(c:Sz a m)(d:Sz b O)(h:a+b≤999999):Eu (cn m) (cn O)=some (cn (m.add O.neg))∧Sz (a+b+1) (m.add O.neg):=by
 have:=UM c d.neg h;refine⟨?_,this.2⟩;unfold Eu;rw[R2,Za,this.1,Za]
theorem C2(g:0<c)(h:((j:Int):Rat)=H*((c:Nat):Rat)):Su.sgR H=j.sign:=by
 have i:(0:Rat)<((c:Nat):Rat):=by
  have:=Rat.natCast_lt_natCast.2 g
  simpa using this
 unfold Su.sgR;by_cases f:H<0
 ·rw[iP f];have:((j:Int):Rat)<0:=by
   rw[h];have:=Rat.mul_lt_mul_of_pos_right f i
   rwa [Rat.zero_mul]at this
  have:=Rat.intCast_lt_intCast.1 (show((j:Int):Rat)<((0:Int):Rat) from this);exact(Int.sign_eq_neg_one_of_neg this).symm
 ·rw[iN f];by_cases d:H=0
  ·rw[iP d,(AT g h).2 d];rfl
  ·rw[iN d];have:j≠0:=λe=>d ((AT g h).1 e);have hp:(0:Rat)<H:=by grind
   have k:(0:Rat)<((j:Int):Rat):=by
    rw[h];have:=Rat.mul_lt_mul_of_pos_right hp i
    rwa [Rat.zero_mul]at this
   have:=Rat.intCast_lt_intCast.1 (show((0:Int):Rat)<((j:Int):Rat) from k);exact(Int.sign_eq_one_of_pos this).symm
theorem CD(x:Rat):-1≤Su.sgR x∧Su.sgR x≤1:=by
 unfold Su.sgR;split
 ·omega
 ·split <;> omega
theorem Fa{u:Int}(hs:-1≤j∧j≤1)(d:-1≤L∧L≤1)(e:-1≤u∧u≤1):-1≤Su.wgh j L u∧Su.wgh j L u≤1:=by
 have c:j= -1∨j=0∨j=1:=by omega
 unfold Su.wgh;split
 ·exact hs
 ·split
  ·exact d
  ·rcases c with rfl |rfl |rfl <;> omega
theorem wQ(a b:Rat):-1≤Su.sg2 a b∧Su.sg2 a b≤1:=Fa (CD _) (CD _) (CD _)
theorem US{t:Int}{X:Option Int}{d:Int}(g:X=some (j*d)):dU (α:=Int) (dU (α:=Bool) (dV (j==t) (some true) (some (t==(0:Int)))) λi=>dV i (some j) (dV (j==(0:Int)) (some t) X)) (λx=>some x)=some (Su.wgh j t d):=by
 have e:(dV (j==t) (some true) (some (t==(0:Int))))=some (decide (j=t∨t=0)):=by
  by_cases h:j=t
  ·subst h;rw[show(j==j)=true from by simp,Ze,eo (Or.inl rfl)]
  ·rw[show(j==t)=false from by simpa using h,Zf];congr 1;rw[Bool.eq_iff_iff,beq_iff_eq,decide_eq_true_eq];exact⟨Or.inr,λf=>f.resolve_left h⟩
 rw[e,Za];unfold Su.wgh;by_cases h:j=t∨t=0
 ·rw[eo h,Ze,Za,iP h]
 ·rw[eg h,Zf,iN h];by_cases c:j=0
  ·rw[show(j==(0:Int))=true from by simpa using c,Ze,Za,iP c]
  ·rw[show(j==(0:Int))=false from by simpa using c,Zf,iN c,g,Za]
theorem UZ(hs:-1≤j∧j≤1)(d:-1≤L∧L≤1):dU (chk .i64 (j*L)) (λz=>some z)=some (j*L):=by
 have c:j= -1∨j=0∨j=1:=by omega
 rw[Zk (by rcases c with rfl |rfl |rfl <;> omega) (by rcases c with rfl |rfl |rfl <;> omega),Za]
theorem vf(h:((j:Int):Rat)=H*((c:Nat):Rat))(d:((L:Int):Rat)=μ*((c:Nat):Rat)):((j*L:Int):Rat)=(H*μ)*((c*c:Nat):Rat):=by
 rw[Rat.intCast_mul,h,d,Rat.natCast_mul];grind
theorem Nb{a b:Rat}(e:0<c)(f:((j:Int):Rat)=a*((c:Nat):Rat))(i:((L:Int):Rat)=b*((c:Nat):Rat))(g:j.natAbs<2^d)(h:L.natAbs<2^d)(r:d≤490000):A8 j L=some (Su.sg2 a b):=by
 have p:=LB.ml g g;have l:=LB.ml h h;have k:=l.fo 2 (by omega) (by omega) (by omega);have m:=l.mul 2 (by omega);simp only[show(((2:Nat):Int))=2 from rfl]at k m;have q:LB (d+d) (1*2) (-(L*L*2)):=by
  unfold LB at *;rw[Int.natAbs_neg];exact m
 have n:=p.pl q (by omega) (by omega) (by omega);unfold A8 qH;rw[Za,Za];unfold Su.sg2;rw[←C2 e f,←C2 e i];refine US ?_;rw[pT g g (by omega) (by omega),Za,pT h h (by omega) (by omega),Za,k,Za];unfold ic;rw[Za,n,Za,Za];have o:((j*j+-(L*L*2):Int):Rat)=(a*a-2*(b*b))*((c*c:Nat):Rat):=by
  rw[Rat.intCast_add,Rat.intCast_neg,Rat.intCast_mul (L*L),vf f f,vf i i,show(((2:Int)):Rat)=2 from rfl];grind
 rw[←C2 (Nat.mul_pos e e) o,C2 e f];rw[←C2 e f];exact UZ (CD _) (CD _)
theorem QY(U:Sz c m)(X:c≤240000):Hr (cn m)=some m.sg:=by
 obtain⟨a,b,f,d,e,Q,W,n,o,p,q,g,i,j,k⟩:=U.split;simp only at n o p q g i j k;have x:=nk e;generalize ZA e=w at *;rw[Q];unfold Hr;simp only;rw[Nb x n o g i (by omega),Za,Nb x p q j k (by omega),Za];unfold Su.sg;refine US ?_;have A:=LB.ml g g;have J:=LB.ml i i;have C:=LB.ml j j;have L:=LB.ml k k;have B:=LB.ml g i;have K:=LB.ml j k;have l:∀{u f:Nat} {z:Int},LB u f z→LB u f (-z):=λ{u f z} h=>by unfold LB at *;rw[Int.natAbs_neg];exact h
 have D:=J.fo 2 (by omega) (by omega) (by omega);have r:=J.mul 2 (by omega);have E:=L.fo 2 (by omega) (by omega) (by omega);have s:=L.mul 2 (by omega);have F:=(C.add s).fo 3 (by omega) (by omega) (by omega);have y:=(C.add s).mul 3 (by omega);have G:=K.fo 3 (by omega) (by omega) (by omega);have t:=K.mul 3 (by omega);have H:=(B.add (l t)).fo 2 (by omega) (by omega) (by omega);have I:=(B.add (l t)).mul 2 (by omega);have M:=A.pl r (by omega) (by omega) (by omega);have N:=C.pl s (by omega) (by omega) (by omega);have O:=(A.add r).pl (l y) (by omega) (by omega) (by omega);have P:=B.pl (l t) (by omega) (by omega) (by omega);simp only[show(((2:Nat):Int))=2 from rfl,show(((3:Nat):Int))=3 from rfl]at D r E s F y G t H I M N O P;rw[pT g g (by omega) (by omega),Za,pT i i (by omega) (by omega),Za,D,Za,M,Za,pT j j (by omega) (by omega),Za,pT k k (by omega) (by omega),Za,E,Za,N,Za,F,Za];unfold ic;rw[Za,O,Za,pT g i (by omega) (by omega),Za,pT j k (by omega) (by omega),Za,G,Za,Za,P,Za,H,Za];have R:((a*a+b*b*2+-((f*f+d*d*2)*3):Int):Rat)=(m.p*m.p+2*(m.q*m.q)-3*(m.r*m.r+2*(m.s*m.s)))*((w*w:Nat):Rat):=by
  rw[Rat.intCast_add,Rat.intCast_add,Rat.intCast_neg,Rat.intCast_mul (b*b),Rat.intCast_mul (f*f+d*d*2),Rat.intCast_add,Rat.intCast_mul (d*d),vf n n,vf o o,vf p p,vf q q,show(((2:Int)):Rat)=2 from rfl,show(((3:Int)):Rat)=3 from rfl];grind
 have S:(((a*b+-(f*d*3))*2:Int):Rat)=(2*(m.p*m.q-3*(m.r*m.s)))*((w*w:Nat):Rat):=by
  rw[Rat.intCast_mul (a*b+-(f*d*3)),Rat.intCast_add,Rat.intCast_neg,Rat.intCast_mul (f*d),vf n o,vf p q,show(((2:Int)):Rat)=2 from rfl,show(((3:Int)):Rat)=3 from rfl];grind
 rw[Nb (Nat.mul_pos x x) R S (((A.add r).add (l y)).fit (by omega)) (I.fit (by omega)) (by omega),Za];exact UZ (wQ _ _) (wQ _ _)
theorem YN{a b:Nat}(c:Sz a m)(d:Sz b O)(h:a+b≤239999):K6 (cn m) (cn O)=some (m.add O.neg).sg:=by
 have:=Ke c d (by omega);unfold K6;rw[this.1,Za,QY this.2 (by omega),Za]
theorem ut(z:IL)(y:Rat):Jm z y=some (cn (Su.rat y)):=by
 unfold Jm;congr 1;refine(uY.cn (n:=(y.num,0,0,0)) (d:=y.den) ⟨y.den_pos,?_,?_,?_,?_,λk c d _ _ _=>?_⟩).symm
 ·exact Ir y
 any_goals (show((0:Int):Rat)=0*_;rw[Rat.zero_mul];rfl)
 have:=Nat.dvd_gcd d c;rw[show Nat.gcd y.num.natAbs y.den=1 from y.reduced]at this;exact Nat.dvd_one.1 this
theorem Io(d:0<c)(h:((j:Int):Rat)=H*((c:Nat):Rat)):mkRat j c=H:=by
 have f:((c:Nat):Rat)≠0:=by
  intro e;have:(c:Rat)=((0:Nat):Rat):=by simpa using e
  have:=Rat.natCast_inj.1 this;omega
 rw[Rat.mkRat_eq_div,h];grind
theorem XT(t:Sz c m)(f:c≤1000000):Ja (cn m)=some (m.p,m.q,m.r,m.s):=by
 obtain⟨a,b,u,d,e,s,r,n,o,p,q,i,j,k,l⟩:=t.split;simp only at n o p q i j k l;have h:=nk e;rw[s];unfold Ja ZY jO;simp only[Fq];have g:eK (ZA e):=lu r (by omega);rw[Za,iP ⟨kV i f,g,by omega⟩,Za,Za,iP ⟨kV j f,g,by omega⟩,Za,Za,iP ⟨kV k f,g,by omega⟩,Za,Za,iP ⟨kV l f,g,by omega⟩,Za,Io h n,Io h o,Io h p,Io h q]
noncomputable def CU(x:(Int×Int×Int×Int)×Nat)(y:(Int×Int×Int×Int)×Nat):Option (((Int×Int×Int×Int)×Nat)×Int) :=
 dU (Cu y) λn=>
 dV n
 (some ((((0:Int),(0:Int),(0:Int),(0:Int)),(0:Nat)),(3:Int)))
 (dU (ic y.1.2.2.1) λg=>
 dU (ic y.1.2.2.2) λh=>
 dU (oH y.1 (y.1.1,y.1.2.1,g,h)) λe=>
 dU (ic e.2.1) λi=>
 dU (oH x.1 (y.1.1,y.1.2.1,g,h)) λo=>
 dU (oH o (e.1,i,(0:Int),(0:Int))) λf=>
 dU (oH e (e.1,i,(0:Int),(0:Int))) λc=>
 dU (ZY y.2) λp=>
 dU (gp f.1 p) λj=>
 dU (α:=Int×Int×Int×Int)
 (dV (decide (c.1<0))
 (dU (ic j) λq=>
 some (q,f.2))
 (some (j,f.2))) λd=>
 dU (ZY y.2) λr=>
 dU (gp d.2.1 r) λk=>
 dU (α:=Int×Int×Int×Int)
 (dV (decide (c.1<0))
 (dU (ic k) λs=>
 some (d.1,s,d.2.2))
 (some (d.1,k,d.2.2))) λa=>
 dU (ZY y.2) λt=>
 dU (gp a.2.2.1 t) λl=>
 dU (α:=Int×Int×Int×Int)
 (dV (decide (c.1<0))
 (dU (ic l) λu=>
 some (a.1,a.2.1,u,a.2.2.2))
 (some (a.1,a.2.1,l,a.2.2.2))) λb=>
 dU (ZY y.2) λv=>
 dU (gp b.2.2.2 v) λm=>
 dU (α:=Int×Int×Int×Int)
 (dV (decide (c.1<0))
 (dU (ic m) λw=>
 some (b.1,b.2.1,b.2.2.1,w))
 (some (b.1,b.2.1,b.2.2.1,m))) λz=>
 dU (ZY x.2) λA=>
 dU (gI A c.1.natAbs) λB=>
 dU (xr z B) λC=>
 some (C,(0:Int)))
def Sc(n:I4)(m:Rat)(x:Su):Prop:=((n.1:Int):Rat)=x.p*m∧((n.2.1:Int):Rat)=x.q*m∧((n.2.2.1:Int):Rat)=x.r*m∧((n.2.2.2:Int):Rat)=x.s*m
def Ib(k:Nat)(n:I4):Prop:=n.1.natAbs<2^k∧n.2.1.natAbs<2^k∧n.2.2.1.natAbs<2^k∧n.2.2.2.natAbs<2^k
theorem HT{a b:Nat}{u v:I4}(C:Ib a u)(D:Ib b v)(h:a+b≤999990)(N:Sc u H m)(P:Sc v μ O):∃s,oH u v=some s∧Ib (a+b+4) s∧Sc s (H*μ) (m.mul O):=by
 obtain⟨Q,R,S,U⟩:=u;obtain⟨W,X,Y,Z⟩:=v;obtain⟨p,q,r,t⟩:=C;obtain⟨w,x,y,A⟩:=D;obtain⟨c,d,e,f⟩:=N;obtain⟨g,i,j,k⟩:=P;simp only at p q r t w x y A c d e f g i j k;obtain⟨E,F,G,I,B,J,K,L,M,z⟩:=Te p q r t w x y A h;have l:(((2:Int)):Rat)=2:=rfl;have n:(((3:Int)):Rat)=3:=rfl;have o:(((6:Int)):Rat)=6:=rfl;refine⟨_,B,z,?_,?_,?_,?_⟩
 ·show((E:Int):Rat)=_;simp only[J,Rat.intCast_add,Rat.intCast_mul,c,d,e,f,g,i,j,k,Su.mul,l,n,o];grind
 ·show((F:Int):Rat)=_;simp only[K,Rat.intCast_add,Rat.intCast_mul,c,d,e,f,g,i,j,k,Su.mul,l,n,o];grind
 ·show((G:Int):Rat)=_;simp only[L,Rat.intCast_add,Rat.intCast_mul,c,d,e,f,g,i,j,k,Su.mul,l,n,o];grind
 ·show((I:Int):Rat)=_;simp only[M,Rat.intCast_add,Rat.intCast_mul,c,d,e,f,g,i,j,k,Su.mul,l,n,o];grind
theorem mY(h:((j:Int):Rat)=μ*H):((-j:Int):Rat)= -μ*H:=by rw[Rat.intCast_neg,h,Rat.neg_mul]
theorem GG{z:Rat}(g:((L:Int):Rat)=H*(((d:Nat):Rat)*((d:Nat):Rat)*(((d:Nat):Rat)*((d:Nat):Rat))))(i:H≠0)(f:((j:Int):Rat)=z*(((c:Nat):Rat)*((d:Nat):Rat)*(((d:Nat):Rat)*((d:Nat):Rat)))):(((if L<0 then -(j*(d:Int)) else j*(d:Int)):Int):Rat)=(z*(1 / H))*((c*L.natAbs:Nat):Rat):=by
 have e:((j*(d:Int):Int):Rat)=z*(1 / H)*(((c:Nat):Rat)*((L:Int):Rat)):=by
  rw[Rat.intCast_mul,f,g,show((d:Int):Rat)=((d:Nat):Rat) from rfl];grind
 rw[Rat.natCast_mul];by_cases h:L<0
 ·rw[iP h,Rat.intCast_neg,e];have:((L.natAbs:Nat):Rat)= -((L:Int):Rat):=by
   rw[←Rat.intCast_neg,show -L=((L.natAbs:Nat):Int) by omega];rfl
  rw[this];grind
 ·rw[iN h,e];have:((L.natAbs:Nat):Rat)=((L:Int):Rat):=by
   conv=>rhs;rw[show L=((L.natAbs:Nat):Int) by omega]
   rfl
  rw[this]
theorem VN(h:m.isz=false):m≠jK:=λe=>by rw[DF.2 e]at h;exact Bool.noConfusion h
theorem ZbC{a b:Nat}(hx:Sz a m)(Q:Sz b O)(h:a+8*b≤900000)(R:O.isz=false):CU (cn m) (cn O)=some (cn (m.div O),0)∧Sz (a+4*b+12) (m.div O):=by
 have a3:=VN R;have k:O.nrm≠0:=λe=>a3 (GO e);have ae:=Ij Q (by omega);obtain⟨u0,u1,u2,u3,d,ex,N,x0,x1,x2,x3,J,K,L,M⟩:=hx.split;obtain⟨q,r,o,p,e,ey,P,F,G,H,I,s,u,x,y⟩:=Q.split;simp only at x0 x1 x2 x3 J K L M F G H I s u x y;have aa:Sc (u0,u1,u2,u3) ((ZA d:Nat):Rat) m:=⟨x0,x1,x2,x3⟩;have ab:Sc (q,r,o,p) ((ZA e:Nat):Rat) O:=⟨F,G,H,I⟩;have a0:Sc (q,r,-o,-p) ((ZA e:Nat):Rat) O.tw3:=⟨F,G,mY H,mY I⟩;have a5:Ib a (u0,u1,u2,u3):=⟨J,K,L,M⟩;have a6:Ib b (q,r,o,p):=⟨s,u,x,y⟩;have S:Ib b (q,r,-o,-p):=⟨s,u,by show(-o).natAbs<_;rw[Int.natAbs_neg];exact x,by show(-p).natAbs<_;rw[Int.natAbs_neg];exact y⟩;obtain⟨⟨p0,D,p2,p3⟩,ep,C,E⟩:=HT a6 S (by omega) ab a0;obtain⟨t,et,a4,a8⟩:=HT a5 S (by omega) aa a0;have a1:Sc (p0,-D,0,0) (((ZA e:Nat):Rat)*((ZA e:Nat):Rat)) (O.mul O.tw3).tw2:=by
  refine⟨E.1,mY E.2.1,?_,?_⟩
  ·show((0:Int):Rat)=_;simp only[Su.mul,Su.tw3,Su.tw2];grind
  ·show((0:Int):Rat)=_;simp only[Su.mul,Su.tw3,Su.tw2];grind
 have U:Ib (b+b+4) (p0,-D,0,0):=⟨C.1,by show(-D).natAbs<_;rw[Int.natAbs_neg];exact C.2.1,Nat.two_pow_pos _,Nat.two_pow_pos _⟩;obtain⟨⟨X,Y,Z,n3⟩,en,f,l⟩:=HT a4 U (by omega) a8 a1;obtain⟨⟨w,w1,w2,w3⟩,ew,W,a9⟩:=HT C U (by omega) E a1;have eW:((O.mul O.tw3).mul (O.mul O.tw3).tw2).p=O.nrm:=by
  simp only[Su.nrm,Su.cj,Su.mul,Su.tw3,Su.tw2];grind
 have i:((w:Int):Rat)=O.nrm*(((ZA e:Nat):Rat)*((ZA e:Nat):Rat)*(((ZA e:Nat):Rat)*((ZA e:Nat):Rat))):=by
  rw[←eW];exact a9.1
 have pe:=nk e;have pd:=nk d;have a7:((ZA e:Nat):Rat)≠0:=λA=>by
  have:=Rat.natCast_inj.1 (show((ZA e:Nat):Rat)=((0:Nat):Rat) from A);omega
 have w0:w≠0:=λA=>by
  rw[A]at i;have h0:(((0:Int)):Rat)=0:=rfl;rw[h0]at i;rcases Rat.mul_eq_zero.1 i.symm with h |h
  ·exact k h
  ·rcases Rat.mul_eq_zero.1 h with h |h <;> (rcases Rat.mul_eq_zero.1 h with h |h <;> exact a7 h)
 have sz:∀{n:Int},n.natAbs<2^(a+b+4+(b+b+4)+4)→(if w<0 then -(n*((ZA e:Nat):Int)) else n*((ZA e:Nat):Int)).natAbs<2^(a+4*b+12):=λ{n} B=>by
  have j:=me B P;rw[show a+b+4+(b+b+4)+4+b=a+4*b+12 by omega]at j;split
  ·rw[Int.natAbs_neg];exact j
  ·exact j
 have ad:ZA d*w.natAbs<2^(a+4*b+12):=by
  have j:=Nat.mul_lt_mul'' N W.1;rw[←Nat.pow_add,show a+(b+b+4+(b+b+4)+4)=a+4*b+12 by omega]at j;exact j
 have a2:(m.mul O.tw3).mul (O.mul O.tw3).tw2=m.mul O.cj:=by
  refine yt ?_ ?_ ?_ ?_ <;> (simp only[Su.cj,Su.mul,Su.tw3,Su.tw2];grind)
 have ed:m.div O=⟨(m.mul O.cj).p*(1 / O.nrm),(m.mul O.cj).q*(1 / O.nrm),(m.mul O.cj).r*(1 / O.nrm),(m.mul O.cj).s*(1 / O.nrm)⟩:=by
  unfold Su.div Su.inv;generalize O.cj=c;generalize 1 / O.nrm=t;refine yt ?_ ?_ ?_ ?_ <;> (simp only[Su.mul,Su.rat];grind)
 rw[a2]at l;have hs:=Eo (k:=a+4*b+12) (n:=(if w<0 then -(X*((ZA e:Nat):Int)) else X*((ZA e:Nat):Int),if w<0 then -(Y*((ZA e:Nat):Int)) else Y*((ZA e:Nat):Int),if w<0 then -(Z*((ZA e:Nat):Int)) else Z*((ZA e:Nat):Int),if w<0 then -(n3*((ZA e:Nat):Int)) else n3*((ZA e:Nat):Int))) (d:=ZA d*w.natAbs) (q:=m.div O) (by omega) (Nat.mul_pos pd (by omega)) ad (by
  rw[ed];exact⟨GG i k l.1,GG i k l.2.1,GG i k l.2.2.1,GG i k l.2.2.2,sz f.1,sz f.2.1,sz f.2.2.1,sz f.2.2.2⟩)
 refine⟨?_,hs.2⟩;unfold CU;rw[ae,Za,R,Zf,ex,ey];unfold ZY ic;simp only[Fq];rw[Za,Za,ep,Za,Za,et,Za];simp only;rw[en,Za,ew,Za,Za];have g:∀{n:Int},n.natAbs<2^(a+b+4+(b+b+4)+4)→gp n (ZA e)=some (n*((ZA e:Nat):Int)):=λ{n} B=>kM B P (by omega) (by omega);have tm:gI (ZA d) w.natAbs=some (ZA d*w.natAbs):=by
  unfold gI;rw[iP ⟨lu N (by omega),lu W.1 (by omega)⟩]
 by_cases h:w<0
 ·simp only[iP h]at hs;simp only[eo h,Za,Ze,g f.1,g f.2.1,g f.2.2.1,g f.2.2.2,tm,hs.1]
 ·simp only[iN h]at hs;simp only[eg h,Za,Zf,g f.1,g f.2.1,g f.2.2.1,g f.2.2.2,tm,hs.1]
theorem Xn{a b:Nat}(d:Sz a m)(c:Sz b O)(h:a+8*b≤900000):CU (cn m) (cn O)=some (cn (if O.isz=true then(jK,(3:Int)) else(m.div O,0)).1,(if O.isz=true then(jK,(3:Int)) else(m.div O,0)).2):=by
 cases e:O.isz with
 |true=>
  rw[iP rfl];unfold CU;rw[Ij c (by omega),Za,e,Ze,Sg]
 |false=>
  rw[iN Bool.noConfusion];exact(ZbC d c h e).1
theorem Gu(g:c∣d)(h:d<2^e)(f:0<d):c<2^e:=Nat.lt_of_le_of_lt (Nat.le_of_dvd f g) h
theorem Xf(g:Sz c m)(hk:c≤100000):Jy (m.p,m.q,m.r,m.s)=some (cn m):=by
 have f:=Hv m;have J:m.p.den∣fF m:=Nat.dvd_trans (Nat.dvd_lcm_left _ _) (Nat.dvd_lcm_left _ _);have K:m.q.den∣fF m:=Nat.dvd_trans (Nat.dvd_lcm_right _ _) (Nat.dvd_lcm_left _ _);have L:m.r.den∣fF m:=Nat.dvd_trans (Nat.dvd_lcm_left _ _) (Nat.dvd_lcm_right _ _);have M:m.s.den∣fF m:=Nat.dvd_trans (Nat.dvd_lcm_right _ _) (Nat.dvd_lcm_right _ _);have l:fF m<2^c:=by have:=g.1;rwa [TE]at this
 have s:=Gu J l f.pos;have t:=Gu K l f.pos;have u:=Gu L l f.pos;have w:=Gu M l f.pos;have o:∀{q:Rat} {n:Int},q.den∣fF m→jZ (fF m) q=n→n.natAbs<2^c→q.num.natAbs<2^c:=λ{q n} R e Q=>by
  refine Nat.lt_of_le_of_lt ?_ Q;rw[←e];unfold jZ;rw[Int.natAbs_mul,Int.natAbs_natCast];exact Nat.le_mul_of_pos_right _ (Nat.div_pos (Nat.le_of_dvd f.pos R) q.den_pos)
 have F:=o J rfl g.2.1;have G:=o K rfl g.2.2.1;have H:=o L rfl g.2.2.2.1;have I:=o M rfl g.2.2.2.2;have N:(1:Nat)<2^1:=by omega
 have B:1*m.p.den<2^(1+c):=by rw[Nat.pow_add];exact Nat.mul_lt_mul'' N s
 have C:1*m.p.den*m.q.den<2^(1+c+c):=by rw[Nat.pow_add _ _ c];exact Nat.mul_lt_mul'' B t
 have E:1*m.p.den*m.q.den*m.r.den<2^(1+c+c+c):=by rw[Nat.pow_add _ _ c];exact Nat.mul_lt_mul'' C u
 have A:1*m.p.den*m.q.den*m.r.den*m.s.den<2^(1+c+c+c+c):=by rw[Nat.pow_add _ _ c];exact Nat.mul_lt_mul'' E w
 have r:∀q:Rat,mU (ZJ q.den)=q.den:=λq=>by
  have:=q.den_pos;unfold mU ZJ;split <;> (split at * <;> omega)
 unfold Jy ju ZY gI iC;rw[r,r,r,r];have U:∀{n:Nat},n<2^(1+c+c+c+c)→eK n:=λ{n} h=>lu h (by omega);have d:∀{n j:Nat},n<2^j→j≤1+c+c+c+c→eK n:=λ{n j} h hj=>lu h (by omega);have Y:m.p.den∣1*m.p.den*m.q.den*m.r.den*m.s.den:=⟨m.q.den*m.r.den*m.s.den,by rw[Nat.one_mul];simp only[Nat.mul_assoc]⟩;have Z:m.q.den∣1*m.p.den*m.q.den*m.r.den*m.s.den:=⟨m.p.den*m.r.den*m.s.den,by rw[Nat.one_mul];simp only[Nat.mul_assoc,Nat.mul_left_comm m.p.den]⟩;have q3:m.r.den∣1*m.p.den*m.q.den*m.r.den*m.s.den:=Nat.dvd_trans (Nat.dvd_mul_left _ _) (Nat.dvd_mul_right _ _);have q4:m.s.den∣1*m.p.den*m.q.den*m.r.den*m.s.den:=Nat.dvd_mul_left _ _;have X:=m.p.den_pos;have qz:=m.q.den_pos;have rz:=m.r.den_pos;have sz:=m.s.den_pos;have W:0<1*m.p.den*m.q.den*m.r.den*m.s.den:=Nat.mul_pos (Nat.mul_pos (Nat.mul_pos (Nat.mul_pos (by omega) X) qz) rz) sz;have p:=U A;have e1:(dU (some (1:Int).toNat) λy1=>some y1)=some 1:=rfl;simp only[show(1:Int).toNat=1 from rfl,Za];rw[iP ⟨lu N (by omega),d s (by omega)⟩,Za,iP ⟨d B (by omega),d t (by omega)⟩,Za,iP ⟨d C (by omega),d u (by omega)⟩,Za,iP ⟨d E (by omega),d w (by omega)⟩,Za];generalize 1*m.p.den*m.q.den*m.r.den*m.s.den=D at *;rw[iP ⟨p,d s (by omega),by omega⟩,Za]
 simp only;have i:∀n:Nat,D / n<2^(1+c+c+c+c):=λn=>Nat.lt_of_le_of_lt (Nat.div_le_self D n) A;rw[kM F (i _) (by omega) (by omega),Za,iP ⟨p,d t (by omega),by omega⟩,Za];simp only;rw[kM G (i _) (by omega) (by omega),Za,iP ⟨p,d u (by omega),by omega⟩,Za];simp only;rw[kM H (i _) (by omega) (by omega),Za,iP ⟨p,d w (by omega),by omega⟩,Za];simp only;rw[kM I (i _) (by omega) (by omega),Za];have val:∀{y:Rat},y.den∣D→((y.num*((D / y.den:Nat):Int):Int):Rat)=y*((D:Nat):Rat):=λ{y} S=>by
  obtain⟨O,P⟩:=S;rw[P,Nat.mul_div_cancel_left O y.den_pos,Rat.intCast_mul,Ir y,Rat.natCast_mul,Rat.mul_assoc];rfl
 have k:∀{n:Int} {x:Nat},n.natAbs<2^c→(n*((D / x:Nat):Int)).natAbs<2^(c+(1+c+c+c+c)):=λ{n x} h=>me h (i x);have hs:=Eo (k:=c+(1+c+c+c+c)) (n:=(m.p.num*((D / m.p.den:Nat):Int),m.q.num*((D / m.q.den:Nat):Int),m.r.num*((D / m.r.den:Nat):Int),m.s.num*((D / m.s.den:Nat):Int))) (d:=D) (q:=m) (by omega) W (Nat.lt_of_lt_of_le A (zX (by omega))) ⟨val Y,val Z,val q3,val q4,k F,k G,k H,k I⟩;rw[hs.1,Za]
def sm:Nat→(Nat→Rat)→Rat
 |0,_=>0
 |n+1,f=>sm n f+f n
abbrev Mx:=Nat→Nat→Rat
def pv(M:Mx)(piv:List Nat)(n:Nat):Nat→Rat:=λd=>match piv.idxOf? d with
 |some i=>M i n
 |none=>0
def vx{c:Type}(n:Nat)(f:Nat→c):List c:=(List.range n).map f
theorem Zo(c:Nat)(f:Nat→n):(vx c f).length=c:=by simp[vx]
theorem qf(f:Nat→n)(h:d<c):(vx c f)[d]?= some (f d):=by simp[vx,h]
theorem Zw(f:Nat→n)(h:d<c):dX (vx c f) (d:Int)=some (f d):=zk (qf f h)
theorem ZP{f g:Nat→n}(h:∀i,i<c→f i=g i):vx c f=vx c g:=List.map_congr_left λi d=>h i (List.mem_range.1 d)
theorem io(d:Nat)(f:Nat→n)(i:Nat)(a:n):(vx d f).set i a=vx d (λk=>if k=i then a else f k):=by
 apply List.ext_getElem?;intro k;by_cases c:k<d
 ·rw[qf _ c,List.getElem?_set,qf _ c];by_cases e:i=k
  ·subst e;simp[c,Zo]
  ·rw[iN e,iN (λh=>e h.symm)]
 ·rw[List.getElem?_eq_none (by simp[Zo];omega),List.getElem?_eq_none (by simp[Zo];omega)]
theorem xC(c:Nat)(f:Nat→n):vx c f++[f c]=vx (c+1) f:=by simp[vx,List.range_succ]
theorem R4(c:Nat)(a:n):List.replicate c a=vx c (λ_=>a):=by
 apply List.ext_getElem?;intro k;by_cases d:k<c
 ·rw[qf _ d];simp[d]
 ·rw[List.getElem?_eq_none (by simp;omega),List.getElem?_eq_none (by simp[Zo];omega)]
def mx(R n:Nat)(M:Mx):List (List Rat):=vx R λi=>vx n (M i)
theorem ZM{c:Type}{P:c→Prop}{x:Option n}{y:n}{f:n→Option c}(h:x=some y)(d:∃z,f y=some z∧P z):∃z,dU x f=some z∧P z:=by subst h;exact d
theorem Ey{R Z:Type}{P:Z→Prop}{j:n→Option (n ⊕ R)}{s:n}{f:R→Option Z}(I:Nat→n→Prop)(Q:R→Prop)(e:Nat)(o:I 0 s)(C:e<2^64)(h:∀k s,k≤e→I k s→(∃i,k<e∧j s=some (.inl i)∧I (k+1) i)∨ ∃r,j s=some (.inr r)∧Q r)(u:∀r,Q r→∃z,f r=some z∧P z):∃z,dU (Zg j Zh s) f=some z∧P z:=by
 have B:∀m g k s,k+m=e→m<g→I k s→∃r,Zg j g s=some r∧Q r:=by
  intro m
  induction m with
  |zero=>
   intro g k s y w l;obtain⟨g,rfl⟩:∃x,g=x+1:=⟨g-1,by omega⟩;rcases h k s (by omega) l with⟨i,c,_⟩ |⟨r,c,d⟩
   ·omega
   ·exact⟨r,by unfold Zg;rw[c,Za],d⟩
  |succ m A=>
   intro g k s y w l;obtain⟨g,rfl⟩:∃x,g=x+1:=⟨g-1,by omega⟩;rcases h k s (by omega) l with⟨i,c,d,p⟩ |⟨r,c,d⟩
   ·obtain⟨r,q,t⟩:=A g (k+1) i (by omega) (by omega) p;exact⟨r,by unfold Zg;rw[d,Za];exact q,t⟩
   ·exact⟨r,by unfold Zg;rw[c,Za],d⟩
 obtain⟨r,c,d⟩:=B e Zh 0 s (by omega) (ZR (by omega)) o;exact ZM c (u r d)
theorem uE{N D:Int}(f:H=(N:Rat) / (D:Rat))(k:N.natAbs<2^c)(e:D.natAbs<2^c)(g:D≠0):sz c H:=by
 rw[f,←Rat.divInt_eq_div,Ix];rcases Dm (if D<0 then -N else N) D.natAbs with⟨d,h⟩ |d
 ·have i:bl (if D<0 then -N else N).natAbs≤c:=gU (by split <;> omega);have j:bl D.natAbs≤c:=gU e;exact⟨by omega,by omega⟩
 ·omega
end
noncomputable def iJ(n:Int):Option Su :=
 dU (vk n) λa=>
 dU (G3 jK a) λb=>
 some b
theorem S9{c:Type}{P:c→Prop}(Q:n→Prop){x:Option n}{f:n→Option c}(h:∃y,x=some y∧Q y)(d:∀y,Q y→∃z,f y=some z∧P z):∃z,dU x f=some z∧P z:=by
 obtain⟨y,h,q⟩:=h;exact ZM h (d y q)
theorem PJ{b:Nat}(h:b*d≤281474976710656)(c:d≤1000000000):mk b (d:Int) (d:Int)=some ():=by
 unfold mk;rw[iP ⟨by omega,by omega,by omega,by omega⟩]
theorem Ui(i:Nat):jY i i=some ():=by unfold jY;rw[iP rfl]
theorem LU{b:Nat}(h:R.length*b≤140737488355328):j9 b R=some R:=by
 unfold j9;rw[ii h,Za]
abbrev Zs(x:Su):Prop:=Sz fZ x
theorem ow(h:Zs m)(k:Zs O):o7 m O=some (m+O):=iP ⟨h,k⟩
theorem uO(h:Zs m)(k:Zs O):vo m O=some (m-O):=iP ⟨h,k⟩
theorem mE(h:Zs m)(k:Zs O):jC m O=some (m*O):=iP ⟨h,k⟩
theorem E7(h:Zs m)(k:Zs O)(e:O≠0):Bv m O=some (m / O,0):=by
 unfold Bv;rw[iP ⟨h,k⟩,iN λq=>e (DF.1 q)];rfl
theorem uN(h:Zs m):qX m=some (-m):=iP h
theorem GA(h:Zs m):∃b,vW m=some b∧(b=true↔m=0):=⟨_,iP h,DF⟩
theorem wV(h:Zs m)(k:Zs O):∃b,DQ m O=some b∧(b=true↔m=O):=⟨_,iP ⟨h,k⟩,DF.trans ⟨λe=>iK (show m-O=0 from e),λe=>by show m-O=0;rw[e];exact rg⟩⟩
theorem xK(h:Zs m):∃s:Int,nu m=some s∧SGN s m:=⟨_,iP h,B2 m⟩
theorem uM{x y:Su}(h:Zs x)(k:Zs y):∃s:Int,oF x y=some s∧SGN s (x-y):=⟨_,iP ⟨h,k⟩,B2 (x-y)⟩
def eI(k:Nat)(x:Su):Prop:=∃n:I4,Ib k n∧Sc n 1 x
theorem eI.mul{a b:Nat}(h:eI a m)(k:eI b O):eI (a+b+4) (m*O):=by
 obtain⟨⟨o,p,q,r⟩,⟨c,e,f,g⟩,x,y,A,B⟩:=h;obtain⟨⟨s,t,u,w⟩,⟨i,j,l,n⟩,C,D,E,F⟩:=k;simp only[Rat.mul_one]at c e f g i j l n x y A B C D E F;have G:=LB.ml c i;have H:=LB.ml c j;have I:=LB.ml c l;have J:=LB.ml c n;have K:=LB.ml e i;have L:=LB.ml e j;have M:=LB.ml e l;have N:=LB.ml e n;have P:=LB.ml f i;have Q:=LB.ml f j;have R:=LB.ml f l;have S:=LB.ml f n;have U:=LB.ml g i;have W:=LB.ml g j;have X:=LB.ml g l;have Y:=LB.ml g n;have d:=@lB;refine⟨(o*s+p*t*(2:Nat)+q*u*(3:Nat)+r*w*(6:Nat),o*t+p*s+(q*w+r*u)*(3:Nat),o*u+q*s+(p*w+r*t)*(2:Nat),o*w+r*s+p*u+q*t),⟨(((G.add (L.mul 2 (d rfl))).add (R.mul 3 (d rfl))).add (Y.mul 6 (d rfl))).fit (d rfl),((H.add K).add ((S.add X).mul 3 (d rfl))).fit (d rfl),((I.add P).add ((N.add W).mul 2 (d rfl))).fit (d rfl),(((J.add U).add M).add Q).fit (d rfl)⟩,?_,?_,?_,?_⟩
 all_goals
  show((_:Int):Rat)=_*1;simp only[Rat.intCast_add,Rat.intCast_mul,x,y,A,B,C,D,E,F,show(((2:Nat):Int):Rat)=2 from rfl,show(((3:Nat):Int):Rat)=3 from rfl,show(((6:Nat):Int):Rat)=6 from rfl,Rat.mul_one]
 ·show _=m.p*O.p+2*(m.q*O.q)+3*(m.r*O.r)+6*(m.s*O.s);grind
 ·show _=m.p*O.q+m.q*O.p+3*(m.r*O.s+m.s*O.r);grind
 ·show _=m.p*O.r+m.r*O.p+2*(m.q*O.s+m.s*O.q);grind
 ·show _=m.p*O.s+m.s*O.p+m.q*O.r+m.r*O.q;grind
theorem eI.neg{a:Nat}(h:eI a m):eI a (-m):=by
 obtain⟨⟨g,i,j,k⟩,⟨c,d,e,f⟩,l,n,o,p⟩:=h;exact⟨(-g,-i,-j,-k),⟨by simpa using c,by simpa using d,by simpa using e,by simpa using f⟩,mY l,mY n,mY o,mY p⟩
theorem eI.mono{a b:Nat}(h:a≤b)(k:eI a m):eI b m:=by
 obtain⟨u,⟨c,d,e,f⟩,k⟩:=k;have:=zX h;exact⟨u,⟨by omega,by omega,by omega,by omega⟩,k⟩
theorem eI.add{a:Nat}(h:eI a m)(k:eI a O):eI (a+1) (m+O):=by
 obtain⟨⟨w,x,y,A⟩,⟨c,d,e,f⟩,n,o,p,q⟩:=h;obtain⟨⟨B,C,D,E⟩,⟨g,i,j,l⟩,r,s,t,u⟩:=k;simp only at c d e f g i j l n o p q r s t u;refine⟨(w+B,x+C,y+D,A+E),⟨C' c g,C' d i,C' e j,C' f l⟩,?_,?_,?_,?_⟩
 all_goals
  show((_:Int):Rat)=_;rw[Rat.intCast_add]
 ·rw[n,r,←Rat.add_mul];rfl
 ·rw[o,s,←Rat.add_mul];rfl
 ·rw[p,t,←Rat.add_mul];rfl
 ·rw[q,u,←Rat.add_mul];rfl
theorem vM:Gt.Whole eI where
 neg:=eI.neg
 mono:=eI.mono
 mul h k:=(h.mul k).mono (by omega)
 sub {k x y z w} h h2 h3 h4:=by
  have:=((h.mul h2).add (h3.neg.mul h4)).mono (show k+k+4+1≤2*k+5 by omega);rw[show x*y+-z*w=x*y-z*w from rg]at this;exact this
theorem eI.zero:eI 0 0:=⟨(0,0,0,0),⟨by decide,by decide,by decide,by decide⟩,by decide +kernel,by decide +kernel,by decide +kernel,by decide +kernel⟩
theorem eI.one:eI 1 1:=⟨(1,0,0,0),⟨by decide,by decide,by decide,by decide⟩,by decide +kernel,by decide +kernel,by decide +kernel,by decide +kernel⟩
theorem eI.cj(q:eI c m):eI (c+(c+c+4)+4) m.cj:=by
 have r:eI c m.tw3:=by
  obtain⟨⟨h,i,j,k⟩,⟨d,e,f,g⟩,l,n,o,p⟩:=q;exact⟨(h,i,-j,-k),⟨d,e,by simpa using f,by simpa using g⟩,l,n,mY o,mY p⟩
 have s:eI (c+c+4) (m*m.tw3).tw2:=by
  obtain⟨⟨h,i,j,k⟩,⟨d,e,f,g⟩,l,n,o,p⟩:=q.mul r;exact⟨(h,-i,j,-k),⟨d,by simpa using e,f,by simpa using g⟩,l,mY n,o,mY p⟩
 exact r.mul s
theorem pQ(F:O≠0)(h:eI c (m*O))(u:eI c O)(G:4*c+12≤1000000):Sz (4*c+12) m:=by
 have o:O.nrm≠0:=λe=>F (GO e);have cj:=u.cj;obtain⟨⟨y,A,B,C⟩,⟨p,r,s,t⟩,i,j,k,l⟩:=(h.mul cj).mono (show _≤4*c+12 by omega);obtain⟨⟨w,_⟩,⟨D,_⟩,d,_⟩:=(u.mul cj).mono (show _≤4*c+12 by omega);simp only[Rat.mul_one]at p r s t i j k l D d;have d:((w:Int):Rat)=O.nrm:=d;have L:w≠0:=λe=>o (by rw[←d,e];rfl);have e:m*O*O.cj=m*Su.rat O.nrm:=by
  have E:O*O.cj=Su.rat O.nrm:=om O;rw[←E];exact rg
 rw[e]at i j k l;have part:∀q:Rat,(m*Su.rat q).p=m.p*q∧(m*Su.rat q).q=m.q*q∧(m*Su.rat q).r=m.r*q∧(m*Su.rat q).s=m.s*q:=λq=>by
  refine⟨?_,?_,?_,?_⟩
  ·show m.p*q+2*(m.q*0)+3*(m.r*0)+6*(m.s*0)=_;grind
  ·show m.p*0+m.q*q+3*(m.r*0+m.s*0)=_;grind
  ·show m.p*0+m.r*q+2*(m.q*0+m.s*0)=_;grind
  ·show m.p*0+m.s*q+m.q*0+m.r*0=_;grind
 obtain⟨H,I,J,K⟩:=part O.nrm;rw[H,←d]at i;rw[I,←d]at j;rw[J,←d]at k;rw[K,←d]at l;have f:∀{n:Int} {q:Rat},((n:Int):Rat)=q*((w:Int):Rat)→(((if w<0 then -n else n:Int)):Rat)=q*((w.natAbs:Nat):Rat):=λ{n q} x=>by
  by_cases g:w<0
  ·rw[iP g,Rat.intCast_neg,x];have:((w.natAbs:Nat):Rat)= -((w:Int):Rat):=by
    rw[←Rat.intCast_neg,show -w=((w.natAbs:Nat):Int) by omega];rfl
   rw[this];grind
  ·rw[iN g,x];have:((w.natAbs:Nat):Rat)=((w:Int):Rat):=by
    conv=>rhs;rw[show w=((w.natAbs:Nat):Int) by omega]
    rfl
   rw[this]
 have sz:∀{n:Int},n.natAbs<2^(4*c+12)→(if w<0 then -n else n).natAbs<2^(4*c+12):=λ{n} o=>by
  split
  ·rwa [Int.natAbs_neg]
  ·exact o
 exact(Eo (n:=(if w<0 then -y else y,if w<0 then -A else A,if w<0 then -B else B,if w<0 then -C else C)) (d:=w.natAbs) (q:=m) G (by omega) D ⟨f i,f j,f k,f l,sz p,sz r,sz s,sz t⟩).2
theorem jG{k:Nat}(c:O≠0)(h:eI k (m*O))(d:eI k O)(e:k≤24900):Zs m:=(pQ c h d (by omega)).mono (by unfold fZ;omega)
theorem yj:Zs 0:=⟨by decide +kernel,by decide +kernel,by decide +kernel,by decide +kernel,by decide +kernel⟩
theorem Mn(n:Int):Sz fZ (Su.rat ((n:Int):Rat))→iJ n=some (Su.rat ((n:Int):Rat)):=λh=>by
 unfold iJ vk G3
 rw[Za,iP h,Za]
noncomputable def NU(x:Rat):Option (Int) :=
 dU (lh x) λa=>
 dV (a)
 (some (0:Int))
 (dV (decide (x.num<0))
 (some (-1:Int))
 (some (1:Int)))
noncomputable def Nk(x:Rat)(y:Rat):Option (Rat) :=
 dU (lg x) λa=>
 dU (lg y) λb=>
 dU (gJ x.num.natAbs b) λc=>
 dU (gJ y.num.natAbs a) λd=>
 dV ((decide (x.num<0))==(decide (y.num<0)))
 (dU (mH c d) λe=>
 dU (gJ a b) λf=>
 dU (gy (decide (x.num<0)) e f) λg=>
 some g)
 (dU (j6 c d) λh=>
 dV (decide ((0:Int)≤h))
 (dU (ke c d) λi=>
 dU (gJ a b) λj=>
 dU (gy (decide (x.num<0)) i j) λk=>
 some k)
 (dU (ke d c) λl=>
 dU (gJ a b) λm=>
 dU (gy (decide (y.num<0)) l m) λn=>
 some n))
noncomputable def P4(x:Rat)(y:Rat):Option (Rat) :=
 dU (gJ x.num.natAbs y.num.natAbs) λa=>
 dU (lg x) λb=>
 dU (lg y) λc=>
 dU (gJ b c) λd=>
 dU (gy ((decide (x.num<0)) != (decide (y.num<0))) a d) λe=>
 some e
noncomputable def DM(x:Rat×Rat×Rat×Rat)(k:Int):Option (Rat×Rat) :=
 dU (F8 (IntKind.i64.wrap (-k))) λa=>
 dU (dX [(1:Int),(2:Int),(3:Int),(6:Int)] (1:Int)) λo=>
 dU (px o k) λb=>
 dU (ZV x.2.1 b) λc=>
 dU (Z2 b a) λp=>
 dU (ZV x.2.1 p) λd=>
 dU (kR x.2.1) λq=>
 dU (α:=Rat×Rat)
 (dV (decide (q<(0:Int)))
 (some (d,c))
 (some (c,d))) λe=>
 dU (Z2 x.1 e.1) λr=>
 dU (Z2 x.1 e.2) λs=>
 dU (dX [(1:Int),(2:Int),(3:Int),(6:Int)] (2:Int)) λt=>
 dU (px t k) λf=>
 dU (ZV x.2.2.1 f) λg=>
 dU (Z2 f a) λu=>
 dU (ZV x.2.2.1 u) λh=>
 dU (kR x.2.2.1) λv=>
 dU (α:=Rat×Rat)
 (dV (decide (v<(0:Int)))
 (some (h,g))
 (some (g,h))) λi=>
 dU (Z2 r i.1) λw=>
 dU (Z2 s i.2) λy=>
 dU (dX [(1:Int),(2:Int),(3:Int),(6:Int)] (3:Int)) λz=>
 dU (px z k) λj=>
 dU (ZV x.2.2.2 j) λl=>
 dU (Z2 j a) λA=>
 dU (ZV x.2.2.2 A) λm=>
 dU (kR x.2.2.2) λB=>
 dU (α:=Rat×Rat)
 (dV (decide (B<(0:Int)))
 (some (m,l))
 (some (l,m))) λn=>
 dU (Z2 w n.1) λC=>
 dU (Z2 y n.2) λD=>
 some (C,D)
noncomputable def vu(x:Rat×Rat×Rat×Rat):Option Bool :=
 dU (α:=Bool)
 (dU (lh x.1) λa=>
 dV a
 (dU (lh x.2.1) λb=>
 dV b
 (dU (lh x.2.2.1) λc=>
 dV c
 (dU (lh x.2.2.2) λd=>
 some d)
 (some false))
 (some false))
 (some false)) λe=>
 some e
noncomputable def pD(x:Rat×Rat×Rat×Rat):Option Int :=
 dU (vu x) λc=>
 dV c
 (some (0:Int))
 (dU (Zg (σ:=Int) (ρ:=Int) (λa=>
 dU (DM x a) λb=>
 dU (kR b.1) λd=>
 dV (decide ((0:Int)<d))
 (some (.inr (1:Int)))
 (dU (kR b.2) λe=>
 dV (decide (e<(0:Int)))
 (some (.inr (-1:Int)))
 (dU (chk .i64 ((2:Int)*a)) λf=>
 some (.inl f))))
   Zh (16:Int)) λg=>
 some g)
end Go.Eng
