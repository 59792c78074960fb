/- Lemmas towards the statement: the engine of the walks, the functions' models, laws and walks, part 5. Conditions: as each states. -/
import Derived.Lib.Bytealg
import Derived.Test.YtgplcnjanfledaaGreatSuD
set_option linter.all false
set_option maxHeartbeats 4000000
set_option maxRecDepth 100000
namespace Go.Eng
open Go.RowKit
variable {A:Array Edge}{X:Cf}{E:Fr}{Q:FuncId}{x:Gt Su}{y:Gx Su}{Z:Int}{G:List (Nat×Value)}{w:List UInt8}{R:List Value}{g:List dY}{B:Lo}{L S c d l:Nat}{i:Nat→Gh}{h m:Nat→Prop}{j t:Nat→Su}{K:Oper}{O:Operand}{q:Option (Nat×Bool)}{M:Option Bool}{r:Option Nat}{F:Program}{P:Prop}{U:Rat}{I:String}{N p:Su}{D:Type}{C H:TypeId}{e:Unit→Fr→Lo→Prop}{Y:Value}{f:V→Value→Prop}{o:World}{k u:Zb}{n:dW}
def ts(x:Su):Rat×Rat×Rat×Rat:=(x.p,x.q,x.r,x.s)
theorem p8(a b:Rat):Su.rat (a*b)=Su.rat a*Su.rat b:=by
 show _=Su.mul _ _;simp only[Su.rat,Su.mul,Su.mk.injEq];refine⟨?_,?_,?_,?_⟩ <;> grind
theorem nD(a b:Rat):Su.rat (a+b)=Su.rat a+Su.rat b:=by
 show _=Su.add _ _;simp only[Su.rat,Su.add,Su.mk.injEq];refine⟨?_,?_,?_,?_⟩ <;> grind
theorem KK(a:Rat):Su.rat (-a)= -Su.rat a:=by
 show _=Su.neg _;simp only[Su.rat,Su.neg,Su.mk.injEq];refine⟨?_,?_,?_,?_⟩ <;> grind
theorem Aa(a:Rat):(Su.rat a).sg=Su.sgR a:=by
 have z:Su.sgR 0=0:=by decide +kernel
 have e:∀u v:Int,Su.wgh u 0 v=u:=λu v=>iP (.inr rfl);unfold Su.sg Su.rat Su.sg2;simp only[z,e]
theorem Gp{a:Rat}:(0:Su)<Su.rat a↔0<a:=by
 rw[←(B2 (Su.rat a)).one,Aa];unfold Su.sgR;split
 ·rename_i h;exact⟨λc=>absurd c (by decide),λc=>by grind⟩
 ·split
  ·rename_i h;subst h;exact⟨λc=>absurd c (by decide),λc=>by grind⟩
  ·exact⟨λ_=>by grind,λ_=>rfl⟩
theorem By{a b:Rat}:Su.rat a<Su.rat b↔a<b:=by
 have h:=Gp (a:=b+-a);rw[nD,KK]at h;exact⟨λk=>by have:=h.1 (ZB k);grind,λk=>ZB (h.2 (by grind))⟩
theorem pw{a b:Rat}:Su.rat a≤Su.rat b↔a≤b:=by
 have h:=By (a:=b) (b:=a);exact⟨λk=>Rat.not_lt.1 λe=>k (h.2 e),λk e=>Rat.not_lt.2 k (h.1 e)⟩
def JQ:Su:=⟨0,1,0,0⟩
def JC:Su:=⟨0,0,1,0⟩
def I8:Su:=⟨0,0,0,1⟩
theorem Mo(x:Su):x=Su.rat x.p+(Su.rat x.q*JQ+(Su.rat x.r*JC+Su.rat x.s*I8)):=by
 show x=Su.add _ (Su.add (Su.mul _ _) (Su.add (Su.mul _ _) (Su.mul _ _)))
 cases x
 simp only[Su.rat,Su.mul,Su.add,JQ,JC,I8,Su.mk.injEq];refine⟨?_,?_,?_,?_⟩ <;> grind
structure jk(n:Nat)(R:Su):Prop where
 pos:0<R
 sq:R*R=Su.rat (n:Rat)
theorem Mv:jk 2 JQ:=⟨(B2 _).one.1 (by decide +kernel),yt (by decide +kernel) (by decide +kernel) (by decide +kernel) (by decide +kernel)⟩
theorem LM:jk 3 JC:=⟨(B2 _).one.1 (by decide +kernel),yt (by decide +kernel) (by decide +kernel) (by decide +kernel) (by decide +kernel)⟩
theorem MB:jk 6 I8:=⟨(B2 _).one.1 (by decide +kernel),yt (by decide +kernel) (by decide +kernel) (by decide +kernel) (by decide +kernel)⟩
theorem wU[OF D]{a b:D}(d:0≤b)(h:a*a≤b*b):a≤b:=λk=>by
 have c:b<a:=ZB k
 have e:=lk d (gK c)
 have f:=Hf (MU d c) c
 exact h (ZB (iQ f e))
theorem jk.le{n:Nat}(h:jk n p)(c:U*U≤(n:Rat)):Su.rat U≤p:=wU (gK h.pos) (by rw[h.sq,←p8];exact pw.2 c)
theorem jk.ge(h:jk c p){r:Rat}(d:0≤r)(e:(c:Rat)≤r*r):p≤Su.rat r:=wU (show Su.rat 0≤Su.rat r from pw.2 d) (by rw[h.sq,←p8];exact pw.2 e)
theorem Lf{r d B:Rat}(e:Su.rat r≤p)(f:p≤Su.rat (r+d))(hs:0≤d)(g:-B≤U∧U≤B):
  let u:=if U<0 then U*(r+d) else U*r
  let v:=if U<0 then U*r else U*(r+d)
  Su.rat u≤Su.rat U*p∧Su.rat U*p≤Su.rat v∧v≤u+B*d:=by
 by_cases h:U<0
 ·simp only[iP h];have c:(0:Su)≤Su.rat (-U):=gK (Gp.2 (by grind));have a:=lk c e;have b:=lk c f;rw[KK]at a b;refine⟨by rw[p8];exact fJ b,by rw[p8];exact fJ a,?_⟩;have:=Rat.mul_le_mul_of_nonneg_right (show -U≤B by grind) hs;grind
 ·simp only[iN h];have c:(0:Su)≤Su.rat U:=show Su.rat 0≤Su.rat U from pw.2 (by grind);refine⟨by rw[p8];exact lk c e,by rw[p8];exact lk c f,?_⟩;have:=Rat.mul_le_mul_of_nonneg_right g.2 hs;grind
theorem Mb(g:jk c p)(t:0<c)(i:c<8)(q:d≤10000000):∃r:Rat,px (c:Int) (d:Int)=some r∧Su.rat r≤p∧p≤Su.rat (r+mkRat 1 (2^d))∧sz (d+3) r:=by
 obtain⟨s,e,m,n⟩:=Yh t i q;have x:(0:Rat)<((2^d:Nat):Rat):=by
  have:=Rat.natCast_lt_natCast.2 (Nat.two_pow_pos d)
  simpa using this
 have y:(s:Rat)*(s:Rat)≤(c:Rat)*(((2^d:Nat):Rat)*((2^d:Nat):Rat)):=by
  have:=Rat.natCast_le_natCast.2 m;rw[show 2*d=d+d by omega,Nat.pow_add]at this
  simpa only[Rat.natCast_mul] using this
 have A:(c:Rat)*(((2^d:Nat):Rat)*((2^d:Nat):Rat))≤((s:Rat)+1)*((s:Rat)+1):=by
  have:=Rat.natCast_le_natCast.2 (Nat.le_of_lt n);rw[show 2*d=d+d by omega,Nat.pow_add]at this
  simpa only[Rat.natCast_mul,Rat.natCast_add,show((1:Nat):Rat)=1 from rfl] using this
 have es:mkRat (s:Int) (2^d)=(s:Rat) / ((2^d:Nat):Rat):=by rw[Rat.mkRat_eq_div];rfl
 have k:mkRat 1 (2^d)=1 / ((2^d:Nat):Rat):=by rw[Rat.mkRat_eq_div];rfl
 generalize((2^d:Nat):Rat)=P at *;have H:P*(1 / P)=1:=by grind
 have f:(0:Rat)<1 / P:=by rw[Rat.div_def,Rat.one_mul];exact Rat.inv_pos.2 x
 have j:∀{a b:Rat},a≤b→a*((1 / P)*(1 / P))≤b*((1 / P)*(1 / P)):=λh=>Rat.mul_le_mul_of_nonneg_right h (Rat.le_of_lt (Rat.mul_pos f f));have u:=j y;have w:=j A;have l:(c:Rat)*(P*P)*((1 / P)*(1 / P))=(c:Rat):=by grind
 rw[l]at u w;refine⟨_,e,?_,?_,?_⟩
 ·rw[es];exact g.le (by grind)
 ·have B:(0:Rat)≤(s:Rat):=by
   have:=Rat.natCast_le_natCast.2 (Nat.zero_le s)
   simpa using this
  rw[es,k];refine g.ge ?_ (by grind);have:=Rat.mul_nonneg B (Rat.le_of_lt f);grind
 ·have hs:s<2^(d+2):=Classical.byContradiction λh=>by
   have o:=Nat.mul_le_mul (Nat.le_of_not_lt h) (Nat.le_of_not_lt h);rw[←Nat.pow_add,show d+2+(d+2)=2*d+4 by omega]at o;have F:c*2^(2*d)<8*2^(2*d):=Nat.mul_lt_mul_of_pos_right i (Nat.two_pow_pos _);have G:2^(2*d+4)=16*2^(2*d):=by rw[Nat.pow_add,Nat.mul_comm]
   omega
  rcases Dm (s:Int) (2^d) with⟨C,D⟩ |C
  ·have E:bl (s:Int).natAbs≤d+2:=gU (by simpa using hs);rw[HY]at D;exact⟨by omega,by omega⟩
  ·have:=Nat.two_pow_pos d;omega
theorem uF(k:Nat):sz (k+1) (mkRat 1 (2^k)):=by
 rcases Dm 1 (2^k) with⟨c,d⟩ |c
 ·rw[HY]at d;exact⟨Nat.le_trans c (by show 1≤k+1;omega),by omega⟩
 ·have:=Nat.two_pow_pos k;omega
theorem XA(k:Nat):(0:Rat)<mkRat 1 (2^k):=by
 rw[Rat.mkRat_eq_div,Rat.div_def,show((1:Int):Rat)=1 from rfl,Rat.one_mul];refine Rat.inv_pos.2 ?_;have:=Rat.natCast_lt_natCast.2 (Nat.two_pow_pos k)
 simpa using this
theorem QH{k:Nat}(hp:sz c p.p)(w:sz c p.q)(x:sz c p.r)(hs:sz c p.s)(K:-U≤p.q∧p.q≤U)(L:-U≤p.r∧p.r≤U)(bs:-U≤p.s∧p.s≤U)(X:0<k)(m:k≤10000000)(hW:c≤10000000):
  ∃ lo o,DM (ts p) (k:Int)=some (lo,o)∧Su.rat lo≤p∧p≤Su.rat o∧o≤lo+3*U*mkRat 1 (2^k):=by
 obtain⟨i,O,Y,R,C⟩:=Mb Mv (by decide) (by decide) m;obtain⟨j,P,Z,S,D⟩:=Mb LM (by decide) (by decide) m;obtain⟨l,Q,l6,W,E⟩:=Mb MB (by decide) (by decide) m;have t:=uF k;have fR:=Rat.le_of_lt (XA k);obtain⟨G,H,a3⟩:=Lf Y R fR K;obtain⟨I,J,b3⟩:=Lf Z S fR L;obtain⟨M,N,c3⟩:=Lf l6 W fR bs;have ite:∀{q r:Rat},sz c q→sz (k+3) r→sz (c+2*k+8) (if q<0 then q*(r+mkRat 1 (2^k)) else q*r)∧sz (c+2*k+8) (if q<0 then q*r else q*(r+mkRat 1 (2^k))):=λ{q r} g d=>by
  have u:=(DU g d).mono (show c+(k+3)≤c+2*k+8 by omega);have v:=(DU g (qS d t)).mono (show c+(k+3+(k+1)+1)≤c+2*k+8 by omega);split
  ·exact⟨v,u⟩
  ·exact⟨u,v⟩
 have f:=ite w C;have n:=ite x D;have y:=ite hs E;have s:∀{q r:Rat} {F:Rat×Rat→Option (Rat×Rat)},sz c q→sz (k+3) r→(dU (ZV q r) λA=>dU (Z2 r (mkRat 1 (2^k))) λy5=>dU (ZV q y5) λB=>dU (kR q) λy7=>dU (α:=Rat×Rat) (dV (decide (y7<(0:Int))) (some (B,A)) (some (A,B))) F)=F (if q<0 then q*(r+mkRat 1 (2^k)) else q*r,if q<0 then q*r else q*(r+mkRat 1 (2^k))):=λ{q r F} g d=>by
  rw[Dq g d (by omega),Za,l8 d t (by omega),Za,Dq g (qS d t) (by omega),Za];unfold kR;rw[Za];by_cases h:q<0
  ·rw[eo (Int.sign_neg_iff.2 (Dy.2 h)),Ze,Za,iP h,iP h]
  ·rw[eg (λe=>h (Dy.1 (Int.sign_neg_iff.1 e))),Zf,Za,iN h,iN h]
 unfold DM;rw[XC X m,Za,show dX [(1:Int),(2:Int),(3:Int),(6:Int)] (1:Int)=some 2 from rfl,Za,show px 2 (k:Int)=some i from O,Za];simp only[ts];rw[s w C];generalize(if p.q<0 then p.q*(i+mkRat 1 (2^k)) else p.q*i)=u2 at *;generalize(if p.q<0 then p.q*i else p.q*(i+mkRat 1 (2^k)))=v2 at *;simp only;rw[l8 hp f.1 (by omega),Za,l8 hp f.2 (by omega),Za,show dX [(1:Int),(2:Int),(3:Int),(6:Int)] (2:Int)=some 3 from rfl,Za,show px 3 (k:Int)=some j from P,Za,s x D];generalize(if p.r<0 then p.r*(j+mkRat 1 (2^k)) else p.r*j)=u3 at *;generalize(if p.r<0 then p.r*j else p.r*(j+mkRat 1 (2^k)))=v3 at *;simp only;rw[l8 (qS hp f.1) n.1 (by omega),Za,l8 (qS hp f.2) n.2 (by omega),Za,show dX [(1:Int),(2:Int),(3:Int),(6:Int)] (3:Int)=some 6 from rfl,Za,show px 6 (k:Int)=some l from Q,Za,s hs E];generalize(if p.s<0 then p.s*(l+mkRat 1 (2^k)) else p.s*l)=u6 at *;generalize(if p.s<0 then p.s*l else p.s*(l+mkRat 1 (2^k)))=v6 at *;simp only;rw[l8 (qS (qS hp f.1) n.1) y.1 (by omega),Za,l8 (qS (qS hp f.2) n.2) y.2 (by omega),Za];refine⟨_,_,rfl,?_,?_,by grind⟩
 ·rw[nD,nD,nD];have:=jp (jp G I) M;refine Ff ?_ (xQ (Mo p).symm);exact fJ this
 ·rw[nD,nD,nD];have:=jp (jp H J) N;refine Ff (xQ (Mo p)) ?_;exact fJ this
noncomputable def Cy(x:Rat×Rat×Rat×Rat)(y:Rat×Rat×Rat×Rat):Option (Rat×Rat×Rat×Rat) :=
 dU (Z2 x.1 y.1) λa=>
 dU (Z2 x.2.1 y.2.1) λb=>
 dU (Z2 x.2.2.1 y.2.2.1) λc=>
 dU (Z2 x.2.2.2 y.2.2.2) λd=>
 some (a,b,c,d)
noncomputable def I1(x:Rat):Option (Rat) :=
 dU (lg x) λa=>
 dU (gy (!(decide (x.num<0))) x.num.natAbs a) λb=>
 some b
noncomputable def Gc(x:Rat×Rat×Rat×Rat):Option (Rat×Rat×Rat×Rat) :=
 dU (qR x.1) λa=>
 dU (qR x.2.1) λb=>
 dU (qR x.2.2.1) λc=>
 dU (qR x.2.2.2) λd=>
 some (a,b,c,d)
noncomputable def w9(x:Rat×Rat×Rat×Rat)(y:Rat×Rat×Rat×Rat):Option (Rat×Rat×Rat×Rat) :=
 dU (Gc y) λa=>
 dU (Cy x a) λb=>
 some b
noncomputable def Ec(x:Rat×Rat×Rat×Rat)(y:Rat×Rat×Rat×Rat):Option Int :=
 dU (w9 x y) λa=>
 dU (pD a) λb=>
 some b
noncomputable def Eg(x:Rat×Rat×Rat×Rat)(y:Rat×Rat×Rat×Rat):Option Bool :=
 dU (w9 x y) λa=>
 dU (vu a) λb=>
 some b
theorem oa(n:Nat):(0:Rat)≤(n:Rat):=by
 have:=Rat.natCast_le_natCast.2 (Nat.zero_le n)
 simpa using this
theorem pb{B c:Rat}(h:U≤B)(e:0≤B)(d:0≤p)(f:p≤Su.rat c):Su.rat U*p≤Su.rat (B*c):=by
 have a:=lk d (pw.2 h);have b:=lk (show Su.rat 0≤Su.rat B from pw.2 e) f;rw[p8];exact fJ (jp a b)
theorem eI.ub{z:Su}(h:eI c z):z≤Su.rat (8*((2^c:Nat):Rat)):=by
 obtain⟨⟨x,y,A,B⟩,⟨f,g,i,j⟩,k,l,m,o⟩:=h;simp only[Rat.mul_one]at f g i j k l m o;have d:∀{n:Int} {q:Rat},n.natAbs<2^c→((n:Int):Rat)=q→q≤((2^c:Nat):Rat):=λ{n q} w p=>by
  rw[←p];exact Rat.intCast_le_intCast.2 (show n≤((2^c:Nat):Int) by omega)
 have e:=oa (2^c);generalize((2^c:Nat):Rat)=P at *;have s:=pb (d g l) e (gK Mv.pos) (Mv.ge (r:=2) (by decide) (by decide +kernel));have t:=pb (d i m) e (gK LM.pos) (LM.ge (r:=2) (by decide) (by decide +kernel));have u:=pb (d j o) e (gK MB.pos) (MB.ge (r:=3) (by decide) (by decide +kernel));have r:=pw.2 (d f k);refine Ff (xQ (Mo z)) ?_;have:=jp r (jp s (jp t u));rw[show(8:Rat)*P=P+(P*2+(P*2+P*3)) by grind,nD,nD,nD];exact this
theorem eI.low(h:eI c p)(f:0<p):1≤p*Su.rat (8*((2^(3*c+8):Nat):Rat)):=by
 have d:=(h.cj).mono (show _≤3*c+8 by omega);have e:p*p.cj=Su.rat p.nrm:=om p;have i:p.nrm≠0:=λk=>(nE f) (GO k).symm;have o:∃w:Int,((w:Int):Rat)=p.nrm:=by
  obtain⟨⟨w,_⟩,_,s,_⟩:=h.mul h.cj;exact⟨w,by rw[s,Rat.mul_one];rfl⟩
 obtain⟨w,q⟩:=o;rw[←q]at e i;have r:w≠0:=λe=>i (by rw[e];rfl);have j:∀{d:Su} {w:Int},eI (3*c+8) d→p*d=Su.rat (w:Rat)→0<w→1≤p*Su.rat (8*((2^(3*c+8):Nat):Rat)):=λ{d w} m n hp=>by
  have g:=lk (gK f) m.ub;have l:(1:Su)≤Su.rat (w:Rat):=show Su.rat 1≤_ from pw.2 (Rat.intCast_le_intCast.2 (show(1:Int)≤w by omega));rw[n]at g;exact Ff l g
 rcases Int.lt_or_gt_of_ne r with h |h
 ·refine j (w:=-w) d.neg ?_ (by omega);rw[Rat.intCast_neg,KK,←e];exact rg
 ·exact j d e h
theorem NB(k:l<2^c)(q:5*c+16≤d):3*((2^c:Nat):Rat)*mkRat 1 (2^d)*((l:Rat)*(8*((2^(3*c+8):Nat):Rat)))<1:=by
 have j:3*2^c*(l*(8*2^(3*c+8)))<2^d:=by
  have e:3*2^c*(2^c*(8*2^(3*c+8)))=3*2^(5*c+11):=by
   rw[show 5*c+11=c+(c+(3+(3*c+8))) by omega,Nat.pow_add 2 c,Nat.pow_add 2 c,Nat.pow_add 2 3,Nat.mul_assoc]
  have f:3*2^c*(l*(8*2^(3*c+8)))≤3*2^c*(2^c*(8*2^(3*c+8))):=Nat.mul_le_mul_left _ (mR _ (Nat.le_of_lt k));have o:2^(5*c+13)≤2^d:=Nat.pow_le_pow_right (by decide) (by omega);have p:2^(5*c+13)=4*2^(5*c+11):=by rw[show 5*c+13=2+(5*c+11) by omega,Nat.pow_add]
  have:=Nat.two_pow_pos (5*c+11);omega
 have f:=Rat.natCast_lt_natCast.2 j;simp only[Rat.natCast_mul]at f;have g:mkRat 1 (2^d)=1 / ((2^d:Nat):Rat):=by rw[Rat.mkRat_eq_div];rfl
 have n:(0:Rat)<((2^d:Nat):Rat):=by
  have:=Rat.natCast_lt_natCast.2 (Nat.two_pow_pos d)
  simpa using this
 rw[g];have h:((3:Nat):Rat)=3:=rfl;have i:((8:Nat):Rat)=8:=rfl;rw[h,i]at f;generalize((2^d:Nat):Rat)=P at *;generalize((2^c:Nat):Rat)=B at *;generalize((2^(3*c+8):Nat):Rat)=C at *;generalize((l:Nat):Rat)=l at *;have m:(0:Rat)<1 / P:=by rw[Rat.div_def,Rat.one_mul];exact Rat.inv_pos.2 n
 have:=Rat.mul_lt_mul_of_pos_right f m;grind
theorem wm{k:Nat}(h:Sz c p)(r:0<p)(w:5*c+16≤k):Su.rat (3*((2^c:Nat):Rat)*mkRat 1 (2^k))<p:=by
 obtain⟨y,A,B,C,d,_,t,D,E,F,G,i,j,n,o⟩:=h.split;have u:=nk d;generalize ZA d=m at *;have g:(0:Rat)<(m:Rat):=by
  have:=Rat.natCast_lt_natCast.2 u
  simpa using this
 have part:∀q:Rat,p*Su.rat q=⟨p.p*q,p.q*q,p.r*q,p.s*q⟩:=λq=>by
  show Su.mul _ _=_;simp only[Su.mul,Su.rat,Su.mk.injEq];refine⟨?_,?_,?_,?_⟩ <;> grind
 have x:eI c (p*Su.rat (m:Rat)):=⟨(y,A,B,C),⟨i,j,n,o⟩,by rw[part];exact⟨by rw[Rat.mul_one];exact D,by rw[Rat.mul_one];exact E,by rw[Rat.mul_one];exact F,by rw[Rat.mul_one];exact G⟩⟩;have l:=x.low (iv r (Gp.2 g));refine I3.1 λq=>?_;have s:(0:Su)≤Su.rat ((m:Rat)*(8*((2^(3*c+8):Nat):Rat))):=show Su.rat 0≤_ from pw.2 (Rat.mul_nonneg (Rat.le_of_lt g) (Rat.mul_nonneg (by decide) (oa _)));have f:=lk s q;have e:Su.rat (3*((2^c:Nat):Rat)*mkRat 1 (2^k)*((m:Rat)*(8*((2^(3*c+8):Nat):Rat))))<1:=show _<Su.rat 1 from By.2 (NB t w);rw[p8]at e;rw[p8 (m:Rat)]at f e;exact vG (ZB (iQ e (jp f l)):(0:Su)<0)
theorem Sz.part(h:Sz c p):(sz c p.p∧sz c p.q∧sz c p.r∧sz c p.s)∧∀q,q=p.q∨q=p.r∨q=p.s→-((2^c:Nat):Rat)≤q∧q≤((2^c:Nat):Rat):=by
 obtain⟨D,E,F,G,d,_,x,A,s,t,u,w,i,j,k⟩:=h.split;have y:=nk d;generalize ZA d=m at *;have C:((m:Nat):Rat)≠0:=λe=>by
  have:=Rat.natCast_inj.1 (show((m:Nat):Rat)=((0:Nat):Rat) from e);omega
 have z:∀{n:Int} {q:Rat},n.natAbs<2^c→((n:Int):Rat)=q*(m:Rat)→sz c q:=λ{n q} l f=>by
  refine uE (N:=n) (D:=(m:Int)) ?_ l (by simpa using x) (by omega);rw[f,show(((m:Nat):Int):Rat)=(m:Rat) from rfl];grind
 have g:∀{n:Int} {q:Rat},n.natAbs<2^c→((n:Int):Rat)=q*(m:Rat)→-((2^c:Nat):Rat)≤q∧q≤((2^c:Nat):Rat):=λ{n q} l f=>by
  have r:(1:Rat)≤(m:Rat):=by
   have:=Rat.natCast_le_natCast.2 (show 1≤m from y)
   simpa using this
  have H:q*(m:Rat)≤((2^c:Nat):Rat):=by rw[←f];exact Rat.intCast_le_intCast.2 (show n≤((2^c:Nat):Int) by omega)
  have I:-((2^c:Nat):Rat)≤q*(m:Rat):=by
   rw[←f];have:=Rat.intCast_le_intCast.2 (show -((2^c:Nat):Int)≤n by omega);rw[Rat.intCast_neg]at this;exact this
  have B:=oa (2^c);generalize((2^c:Nat):Rat)=P at *;by_cases o:q<0
  ·have:=Rat.mul_le_mul_of_nonneg_left r (show 0≤-q by grind);exact⟨by grind,by grind⟩
  ·have:=Rat.mul_le_mul_of_nonneg_left r (show 0≤q by grind);exact⟨by grind,by grind⟩
 refine⟨⟨z w A,z i s,z j t,z k u⟩,λq o=>?_⟩;rcases o with rfl |rfl |rfl
 ·exact g i s
 ·exact g j t
 ·exact g k u
theorem Iq(x:Su):∃b,vu (ts x)=some b∧(b=true↔x=0):=by
 unfold vu ts lh;have e:x=0↔x.p=0∧x.q=0∧x.r=0∧x.s=0:=⟨λh=>by rw[h];exact⟨rfl,rfl,rfl,rfl⟩,λh=>yt h.1 h.2.1 h.2.2.1 h.2.2.2⟩;simp only[Za];by_cases c:x.p=0
 ·rw[eo c,Ze];by_cases d:x.q=0
  ·rw[eo d,Ze];by_cases f:x.r=0
   ·rw[eo f,Ze];exact⟨_,rfl,by rw[decide_eq_true_iff,e];exact⟨λh=>⟨c,d,f,h⟩,λh=>h.2.2.2⟩⟩
   ·rw[eg f,Zf];exact⟨false,rfl,by simp[e,f]⟩
  ·rw[eg d,Zf];exact⟨false,rfl,by simp[e,d]⟩
 ·rw[eg c,Zf];exact⟨false,rfl,by simp[e,c]⟩
theorem un(h:Sz c p)(L:5*c+16≤524288):∃s:Int,pD (ts p)=some s∧SGN s p:=by
  obtain⟨b,D,t⟩:=Iq p;unfold pD;rw[D,Za]
  cases b with
  |true=>exact⟨0,by rw[Ze],.inr (.inl ⟨rfl,t.1 rfl⟩)⟩
  | false=>
    have F:p≠0:=λe=>by have:=t.2 e;cases this
    rw[Zf];obtain⟨⟨x,y,A,B⟩,j⟩:=h.part;have H:∀d i f,i+d=15→d<f→∃s:Int,Zg (σ:=Int) (ρ:=Int) (λu=>
        dU (DM (ts p) u) λw=>
        dU (kR w.1) λI=>
        dV (decide ((0:Int)<I))
        (some (.inr (1:Int)))
        (dU (kR w.2) λJ=>
         dV (decide (J<(0:Int)))
         (some (.inr (-1:Int)))
         (dU (chk .i64 ((2:Int)*u)) λK=>
          some (.inl K)))) f ((16*2^i:Nat):Int)=some s∧SGN s p:=by
      intro d
      induction d with
      | zero=>
        intro i f l E;obtain⟨f,rfl⟩:∃g,f=g+1:=⟨f-1,by omega⟩;obtain rfl:i=15:=by omega
        obtain⟨lo,l,e,m,r,k⟩:=QH (k:=16*2^15) x y A B (j _ (.inl rfl)) (j _ (.inr (.inl rfl))) (j _ (.inr (.inr rfl))) (by decide) (by decide) (by omega);unfold Zg kR;rw[e,Za,Za];have k:=pw.2 k;rw[nD]at k;rcases qL p 0 with g |g |g
        · exact absurd g F
        · have a:=wm h.neg (jI.2 g) (k:=16*2^15) (by omega);have a:Su.rat (3*((2^c:Nat):Rat)*mkRat 1 (2^(16*2^15))) < -p:=a;have n:Su.rat l<Su.rat 0:=show _<(0:Su) from ZB (iQ a (jp k m));have C:Su.rat lo<Su.rat 0:=show _<(0:Su) from ZB (iQ g m);rw[eg (λq=>by have:=G8.1 (Int.sign_pos_iff.1 q);have:=By.1 C;grind),Zf,Za,eo (Int.sign_neg_iff.2 (Dy.2 (By.1 n))),Ze,Za];exact⟨-1,rfl,.inr (.inr ⟨rfl,g⟩)⟩
        · have a:=wm h g (k:=16*2^15) (by omega);have n:Su.rat 0<Su.rat lo:=show(0:Su)<_ from ZB (iQ a (jp k r));rw[eo (Int.sign_pos_iff.2 (G8.2 (By.1 n))),Ze,Za];exact⟨1,rfl,.inl ⟨rfl,g⟩⟩
      | succ d G=>
        intro i f l E;obtain⟨f,rfl⟩:∃g,f=g+1:=⟨f-1,by omega⟩;have hp:16*2^i≤16*2^15:=Nat.mul_le_mul_left _ (Nat.pow_le_pow_right (by decide) (by omega));obtain⟨lo,l,e,m,r,k⟩:=QH (k:=16*2^i) x y A B (j _ (.inl rfl)) (j _ (.inr (.inl rfl))) (j _ (.inr (.inr rfl))) (Nat.mul_pos (by decide) (Nat.two_pow_pos i)) (by omega) (by omega);unfold Zg kR;rw[e,Za,Za];by_cases g:0<lo
        · rw[eo (Int.sign_pos_iff.2 (G8.2 g)),Ze,Za];exact⟨1,rfl,.inl ⟨rfl,D' (Gp.2 g) m⟩⟩
        · rw[eg (λq=>g (G8.1 (Int.sign_pos_iff.1 q))),Zf,Za];by_cases o:l<0
          · rw[eo (Int.sign_neg_iff.2 (Dy.2 o)),Ze,Za];exact⟨-1,rfl,.inr (.inr ⟨rfl,MU r (show Su.rat l<Su.rat 0 from By.2 o)⟩)⟩
          · rw[eg (λq=>o (Dy.1 (Int.sign_neg_iff.1 q))),Zf,show(2:Int)*((16*2^i:Nat):Int)=((16*2^(i+1):Nat):Int) by rw[Nat.pow_succ];omega,Zk (by omega) (by rw[Nat.pow_succ];omega),Za,Za];exact G (i+1) f (by omega) (by omega)
    obtain⟨s,e,hs⟩:=H 15 0 Zh (by omega) (ZR (by omega));have e:Zg (σ:=Int) (ρ:=Int) _ Zh (16:Int)=some s:=e;exact⟨s,by rw[e,Za],hs⟩
theorem Bz(h:Zs p):∃s:Int,pD (ts p)=some s∧SGN s p:=un h (by decide)
section
noncomputable def wg(t:(List (List Su))×(List Su)×(List Su)×Su×(List Int)×(List Int))(r:Int)(c:Int):Option (((List (List Su))×(List Su)×(List Su)×Su×(List Int)×(List Int))×Unit) :=
 dU (iJ (1:Int)) λu=>
 dU (dX t.1 r) λv=>
 dU (dX v c) λw=>
 dU (Bv u w) λg=>
 dU (dX t.1 r) λx=>
 dU (Zg (σ:=Int×(List (List Su))) (ρ:=List (List Su)) (λe=>
 dV (decide (e.1<(x.length:Int)))
 (dU (dX e.2 r) λk=>
 dU (dX e.2 r) λy=>
 dU (dX y e.1) λz=>
 dU (jC z g.1) λA=>
 dU (dX k e.1) λaq=>
 dU (chk .i64 (e.1+(1:Int))) λB=>
 some (.inl (B,e.2.set r.toNat (k.set e.1.toNat A))))
 (some (.inr e.2)))
  Zh ((0:Int),t.1)) λh=>
 dU (dX h r) λi=>
 dU (dX i c) λar=>
 dU (dX t.2.1 r) λC=>
 dU (jC C g.1) λD=>
 dU (dX t.2.1 r) λau=>
 dU (Zg (σ:=Int×(List (List Su))×(List Su)) (ρ:=(List (List Su))×(List Su)) (λa=>
 dV (decide (a.1<((h.set r.toNat (i.set c.toNat g.1)).length:Int)))
 (dU (α:=(List (List Su))×(List Su))
 (dU (α:=Bool)
 (dV (a.1==r)
 (some true)
 (dU (dX a.2.1 a.1) λE=>
 dU (dX E c) λF=>
 dU (vW F) λG=>
 some G)) λH=>
 dV H
 (some (a.2.1,a.2.2))
 (dU (dX a.2.1 a.1) λI=>
 dU (dX I c) λJ=>
 dU (dX a.2.2 a.1) λK=>
 dU (dX a.2.2 r) λL=>
 dU (jC J L) λM=>
 dU (vo K M) λN=>
 dU (dX a.2.2 a.1) λav=>
 dU (dX a.2.1 a.1) λl=>
 dU (dX l c) λm=>
 dU (Zg (σ:=Int×(List (List Su))) (ρ:=List (List Su)) (λb=>
 dV (decide (b.1<(l.length:Int)))
 (dU (dX b.2 ((a.1.toNat:Nat):Int)) λO=>
 dU (dX O b.1) λP=>
 dU (dX b.2 r) λQ=>
 dU (dX Q b.1) λR=>
 dU (jC m R) λS=>
 dU (vo P S) λT=>
 dU (dX b.2 ((a.1.toNat:Nat):Int)) λn=>
 dU (dX n b.1) λaw=>
 dU (chk .i64 (b.1+(1:Int))) λU=>
 some (.inl (U,b.2.set a.1.toNat (n.set b.1.toNat T))))
 (some (.inr b.2)))
       Zh ((0:Int),a.2.1)) λj=>
 dU (dX j r) λV=>
 dU (dX V c) λW=>
 dU (jC m W) λX=>
 dU (qX X) λY=>
 dU (dX j ((a.1.toNat:Nat):Int)) λo=>
 dU (dX o c) λax=>
 some (j.set a.1.toNat (o.set c.toNat Y),a.2.2.set a.1.toNat N))) λp=>
 dU (chk .i64 (a.1+(1:Int))) λZ=>
 some (.inl (Z,p.1,p.2)))
 (some (.inr (a.2.1,a.2.2))))
  Zh ((0:Int),h.set r.toNat (i.set c.toNat g.1),t.2.1.set r.toNat D)) λf=>
 dU (dX t.2.2.1 c) λaa=>
 dU (dX f.2 r) λab=>
 dU (jC aa ab) λac=>
 dU (o7 t.2.2.2.1 ac) λad=>
 dU (dX t.2.2.1 c) λq=>
 dU (Zg (σ:=Int×(List Su)) (ρ:=List Su) (λd=>
 dV (decide (d.1<(t.2.2.1.length:Int)))
 (dU (dX d.2 d.1) λae=>
 dU (dX f.1 r) λaf=>
 dU (dX af d.1) λag=>
 dU (jC q ag) λah=>
 dU (vo ae ah) λai=>
 dU (dX d.2 d.1) λay=>
 dU (chk .i64 (d.1+(1:Int))) λaj=>
 some (.inl (aj,d.2.set d.1.toNat ai)))
 (some (.inr d.2)))
  Zh ((0:Int),t.2.2.1)) λs=>
 dU (dX f.1 r) λak=>
 dU (dX ak c) λal=>
 dU (jC q al) λam=>
 dU (qX am) λan=>
 dU (dX s c) λaz=>
 dU (dX t.2.2.2.2.2 c) λao=>
 dU (dX t.2.2.2.2.1 r) λap=>
 dU (dX t.2.2.2.2.1 r) λaA=>
 dU (dX t.2.2.2.2.2 c) λaB=>
 some ((f.1,f.2,s.set c.toNat an,ad,t.2.2.2.2.1.set r.toNat ao,t.2.2.2.2.2.set c.toNat ap),())
abbrev IN:=(List (List Su))×(List Su)×(List Su)×Su×(List Int)×(List Int)
def fg{c:Type}(R n:Nat)(M:Nat→Nat→c):List (List c):=vx R λi=>vx n (M i)
theorem jx(R n:Nat)(M:Nat→Nat→D):(fg R n M).length=R:=Zo _ _
theorem qY{M e:Nat→Nat→D}(h:∀i,i<c→∀j,j<d→M i j=e i j):fg c d M=fg c d e:=ZP λi f=>ZP λj g=>h i f j g
theorem je(M:Nat→Nat→D)(h:l<c):dX (fg c d M) (l:Int)=some (vx d (M l)):=Zw _ h
theorem GC(M:Nat→Nat→D)(i:Nat)(g:Nat→D):(fg c d M).set i (vx d g)=fg c d (λk j=>if k=i then g j else M k j):=by
 unfold fg;rw[io];exact ZP λk f=>by by_cases e:k=i <;> simp[e]
def eT(m n:Nat)(T:Gt Su):IN:=(fg m n T.a,vx m T.b,vx n T.z,T.v,vx m (λi=>(T.bs i:Int)),vx n (λk=>(T.fr k:Int)))
theorem E8:iJ 1=some 1:=Mn 1 (by decide +kernel)
theorem qI:iJ 0=some 0:=Mn 0 yj
theorem E9:iJ (-1)=some (-1):=Mn (-1) (by decide +kernel)
theorem Zs1:Zs 1:=by decide +kernel
namespace Gt
theorem yu(T:Gt Su)(r c k:Nat):(T.piv r c).a r k=if k=c then 1 / T.a r c else T.a r k*(1 / T.a r c):=iP rfl
theorem Ub(T:Gt Su)(e k:Nat)(h:d≠c):(T.piv c e).a d k=if k=e then -(T.a d e*(1 / T.a c e)) else T.a d k-T.a d e*(T.a c k*(1 / T.a c e)):=iN h
theorem Eb(T:Gt Su)(r c:Nat):(T.piv r c).b r=T.b r*(1 / T.a r c):=iP rfl
theorem Tm(T:Gt Su)(e:Nat)(h:d≠c):(T.piv c e).b d=T.b d-T.a d e*(T.b c*(1 / T.a c e)):=iN h
theorem EW(T:Gt Su)(r c k:Nat):(T.piv r c).z k=if k=c then -(T.z c*(1 / T.a r c)) else T.z k-T.z c*(T.a r k*(1 / T.a r c)):=rfl
def j7(T:Gt Su)(r c i:Nat):Gx Su:=λd k=>if d=r then(T.piv r c).a r k else if d<i then(T.piv r c).a d k else T.a d k
def mu(T:Gt Su)(r c i:Nat):Nat→Su:=λd=>if d=r then(T.piv r c).b r else if d<i then(T.piv r c).b d else T.b d
end Gt
open Gt
structure PZ(T:Gt Su)(m n r c:Nat):Prop where
 z:T.all Zs m n
 p:(T.piv r c).all Zs m n
 f:Zs (1 / T.a r c)
 qa:∀i k,i<m→k<n→Zs (T.a i c*(T.piv r c).a r k)
 qb:∀i,i<m→Zs (T.a i c*(T.piv r c).b r)
 za:∀k,k<n→Zs (T.z c*(T.piv r c).a r k)
 zb:Zs (T.z c*(T.piv r c).b r)
theorem AS{T:Gt Su}(h:T.cd eI l c d)(j:l≤24900):T.all Zs c d:=by
 obtain⟨D,g,e,f⟩:=h;exact⟨λi k m n=>jG g (f.a i k m n) e j,λi m=>jG g (f.b i m) e j,λk n=>jG g (f.z k n) e j,jG g f.v e j⟩
theorem mQ{T:Gt Su}(h:T.cd eI S c d)(j:l<c)(g:L<d)(o:T.a l L≠0)(F:S≤12400):PZ T c d l L:=by
 have C:=AS h (by omega);have hp:=AS (h.piv vM j g o) (by omega);obtain⟨D,s,r,e⟩:=h;have i:=jd o;have f:=e.a l L j g;have t:=nG s (nG o s);have u:=vM.mul r f;have q:∀{x y:Su},eI S (x*D)→eI S (y*D)→Zs (x*(y*(1 / T.a l L))):=λ{x y} m B=>jG t (by
  rw[show x*(y*(1 / T.a l L))*(D*(T.a l L*D))=(x*D)*(y*D) from gu i (x*y*D*D)];exact vM.mul m B) u (by omega)
 have E:∀{x:Su},eI S (x*D)→Zs (x*(1 / T.a l L)):=λ{x} m=>jG t (by
  rw[show x*(1 / T.a l L)*(D*(T.a l L*D))=(x*D)*D from gu i (x*D*D)];exact vM.mul m r) u (by omega)
 have w:∀{x:Su} {k:Nat},eI S (x*D)→k<d→Zs (x*(T.piv l L).a l k):=λ{x k} m n=>by
  rw[yu];split
  ·exact E m
  ·exact q m (e.a l k j n)
 have A:Zs (1 / T.a l L):=by
  have:=hp.a l L j g
  rwa [yu,iP rfl]at this
 exact⟨C,hp,A,λi k p n=>w (e.a i L p g) n,λi p=>by rw[Eb];exact q (e.a i L p g) (e.b l j),λk n=>w (e.z L g) n,by rw[Eb];exact q (e.z L g) (e.b l j)⟩
set_option maxRecDepth 100000 in
theorem KI{T:Gt Su}(m:l<c)(n:L<d)(J:T.a l L≠0)(Q:PZ T c d l L)(P:c≤1000)(R:d≤1000):wg (eT c d T) (l:Int) (L:Int)=some (eT c d (T.piv l L),()):=by
 have s:=Q.z;unfold wg eT;refine Zu E8 ?_;refine Zu (je _ m) ?_;refine Zu (Zw _ n) ?_;refine Zu (y:=(1 / T.a l L,0)) (E7 Zs1 (s.a l L m n) J) ?_;refine Zu (je _ m) ?_;refine Zu (y:=fg c d (λi k=>if i=l∧k<d then T.a l k*(1 / T.a l L) else T.a i k)) (fL (λj=>((j:Int),fg c d (λi k=>if i=l∧k<j then T.a l k*(1 / T.a l L) else T.a i k))) d ?_ (by omega) (λj q=>?_) ?_) ?_
 ·exact Prod.ext rfl (qY λi o k p=>iN (by omega))
 ·simp only;rw[Zo,eo (by omega),Ze,je _ m,Za,Za,Zw _ q,Za,iN (by omega),mE (s.a l j m q) Q.f,Za,Za,Zk (by omega) (by omega),Za];simp only[tN];rw[io,GC];refine congrArg (λx=>some (Sum.inl x)) (Prod.ext (by simp) (qY λi o k p=>?_));by_cases e:i=l
  ·rw[iP e];by_cases f:k=j
   ·rw[iP f,iP ⟨e,by omega⟩,f]
   ·rw[iN f,e];by_cases g:k<j
    ·rw[iP ⟨trivial,g⟩,iP ⟨rfl,by omega⟩]
    ·rw[iN (by omega),iN (by omega)]
  ·rw[iN e,iN (by omega),iN (by omega)]
 ·simp only;rw[Zo,eg (by omega),Zf]
 refine Zu (je _ m) ?_;refine Zu (Zw _ n) ?_;refine Zu (Zw _ m) ?_;refine Zu (mE (s.b l m) Q.f) ?_;refine Zu (Zw _ m) ?_;simp only[tN];rw[io,GC,io];have F:fg c d (λk j=>if k=l then(if j=L then 1 / T.a l L else if True∧j<d then T.a l j*(1 / T.a l L) else T.a l j) else if k=l∧j<d then T.a l j*(1 / T.a l L) else T.a k j)=fg c d (j7 T l L 0):=qY λi o k p=>by
  unfold j7;by_cases e:i=l
  ·rw[iP e,iP e,yu];split
   ·rfl
   ·rw[iP ⟨trivial,p⟩]
  ·rw[iN e,iN e,iN (by omega),iN (by omega)]
 have G:vx c (λk=>if k=l then T.b l*(1 / T.a l L) else T.b k)=vx c (mu T l L 0):=ZP λi o=>by
  unfold mu;by_cases e:i=l
  ·rw[iP e,iP e,Eb]
  ·rw[iN e,iN e,iN (by omega)]
 rw[F,G];have A:∀i k,j7 T l L i l k=(T.piv l L).a l k:=λi k=>iP rfl;have E:∀i,mu T l L i l=(T.piv l L).b l:=λi=>iP rfl;refine Zu (y:=(fg c d (j7 T l L c),vx c (mu T l L c))) (fL (λi=>((i:Int),fg c d (j7 T l L i),vx c (mu T l L i))) c rfl (by omega) (λi o=>?_) ?_) ?_
 ·simp only;rw[jx,eo (by omega),Ze];refine Zu (y:=(fg c d (j7 T l L (i+1)),vx c (mu T l L (i+1)))) ?_ (by rw[Zk (by omega) (by omega),Za];rfl);by_cases e:i=l
  ·rw[show((i:Int)==(l:Int))=true by simp[e],Ze,Za,Ze];refine congrArg some (Prod.ext (qY λh t k p=>?_) (ZP λh t=>?_))
   ·unfold j7;by_cases f:h=l
    ·rw[iP f,iP f]
    ·rw[iN f,iN f];by_cases g:h<i
     ·rw[iP g,iP (by omega)]
     ·rw[iN g,iN (by omega)]
   ·unfold mu;by_cases f:h=l
    ·rw[iP f,iP f]
    ·rw[iN f,iN f];by_cases g:h<i
     ·rw[iP g,iP (by omega)]
     ·rw[iN g,iN (by omega)]
  ·have w:∀k,j7 T l L i i k=T.a i k:=λk=>by unfold j7;rw[iN e,iN (by omega)]
   have N:mu T l L i i=T.b i:=by unfold mu;rw[iN e,iN (by omega)]
   rw[show((i:Int)==(l:Int))=false by simp;omega,Zf,je _ o,Za,Zw _ n,Za,w];obtain⟨b,H,C⟩:=GA (s.a i L o n);rw[H,Za,Za];by_cases u:T.a i L=0
   ·rw[C.2 u,Ze];refine congrArg some (Prod.ext (qY λh t k p=>?_) (ZP λh t=>?_))
    ·unfold j7;by_cases f:h=l
     ·rw[iP f,iP f]
     ·rw[iN f,iN f];by_cases g:h<i
      ·rw[iP g,iP (by omega)]
      ·rw[iN g];by_cases r:h=i
       ·rw[iP (by omega),r,Ub T L k e,u];split
        ·rename_i M;rw[M,u];exact rg
        ·exact rg
       ·rw[iN (by omega)]
    ·unfold mu;by_cases f:h=l
     ·rw[iP f,iP f]
     ·rw[iN f,iN f];by_cases g:h<i
      ·rw[iP g,iP (by omega)]
      ·rw[iN g];by_cases r:h=i
       ·rw[iP (by omega),r,Tm T L e,u];exact rg
       ·rw[iN (by omega)]
   ·have B:Zs (T.a i L):=s.a i L o n;have I:b=false:=by cases b with |true=>exact absurd (C.1 rfl) u |false=>rfl
    subst I;rw[Zf,Za,Zw _ n,Za,Zw _ o,Za,N,Zw _ m,Za,E,w,mE B (Q.p.b l m),Za,uO (s.b i o) (Q.qb i o),Za,Za,Za,Zw _ n,Za,w];simp only[tN]
    let y:Nat→Gx Su:=λj h k=>if h=i∧k<j then T.a i k-T.a i L*(T.piv l L).a l k else j7 T l L i h k
    have D:∀j k,y j l k=(T.piv l L).a l k:=λj k=>by show(if _ then _ else _)=_;rw[iN (by omega)];exact A i k
    refine Zu (y:=fg c d (y d)) (fL (λj=>((j:Int),fg c d (y j))) d ?_ (by omega) (λj q=>?_) ?_) ?_
    ·exact Prod.ext rfl (qY λh t k p=>iN (by omega))
    ·have O:y j i j=T.a i j:=by show(if _ then _ else _)=_;rw[iN (by omega)];exact w j
     simp only;rw[Zo,eo (by omega),Ze,je _ o,Za,Zw _ q,Za,je _ m,Za,Zw _ q,Za,D,O,mE B (Q.p.a l j m q),Za,uO (s.a i j o q) (Q.qa i j o q),Za,Za,Zw _ q,Za,Zk (by omega) (by omega),Za];simp only[tN];rw[io,GC];refine congrArg (λx=>some (Sum.inl x)) (Prod.ext (by simp) (qY λh t k p=>?_));show _=if _ then _ else _;by_cases f:h=i
     ·rw[iP f];by_cases g:k=j
      ·rw[iP g,iP ⟨f,by omega⟩,g]
      ·rw[iN g];show(if _ then _ else _)=_;by_cases r:k<j
       ·rw[iP ⟨rfl,r⟩,iP ⟨f,by omega⟩]
       ·rw[iN (by omega),iN (by omega),f]
     ·rw[iN f];show(if _ then _ else _)=_;rw[iN (by omega),iN (by omega)]
    ·simp only;rw[Zo,eg (by omega),Zf]
    rw[je _ m,Za,Zw _ n,Za,D,mE B (Q.p.a l L m n),Za,uN (Q.qa i L o n),Za,je _ o,Za,Zw _ n,Za,io,GC,io];refine congrArg some (Prod.ext (qY λh t k p=>?_) (ZP λh t=>?_))
    ·by_cases f:h=i
     ·have K:j7 T l L (i+1) h k=(T.piv l L).a i k:=by unfold j7;rw[iN (by omega),iP (by omega),f]
      rw[iP f,K,Ub T L k e];by_cases g:k=L
      ·rw[iP g,iP g,yu,iP rfl]
      ·rw[iN g,iN g];show(if _ then _ else _)=_;rw[iP ⟨rfl,p⟩,yu,iN g]
     ·rw[iN f];show(if _ then _ else _)=_;rw[iN (by omega)];unfold j7;by_cases g:h=l
      ·rw[iP g,iP g]
      ·rw[iN g,iN g];by_cases r:h<i
       ·rw[iP r,iP (by omega)]
       ·rw[iN r,iN (by omega)]
    ·unfold mu;by_cases f:h=i
     ·rw[iP f,iN (by omega),iP (by omega),f,Tm T L e,Eb]
     ·rw[iN f];by_cases g:h=l
      ·rw[iP g,iP g]
      ·rw[iN g,iN g];by_cases r:h<i
       ·rw[iP r,iP (by omega)]
       ·rw[iN r,iN (by omega)]
 ·simp only;rw[jx,eg (by omega),Zf]
 have zz:Zs (T.z L):=s.z L n;refine Zu (Zw _ n) ?_;refine Zu (Zw _ m) ?_;rw[E];refine Zu (mE zz (Q.p.b l m)) ?_;refine Zu (ow s.v Q.zb) ?_;refine Zu (Zw _ n) ?_;refine Zu (y:=vx d (λk=>T.z k-T.z L*(T.piv l L).a l k)) (fL (λj=>((j:Int),vx d (λk=>if k<j then T.z k-T.z L*(T.piv l L).a l k else T.z k))) d ?_ (by omega) (λj q=>?_) ?_) ?_
 ·exact Prod.ext rfl (ZP λk p=>iN (by omega))
 ·simp only;rw[Zo,eo (by omega),Ze,Zw _ q,Za,je _ m,Za,Zw _ q,Za,A,iN (by omega),mE zz (Q.p.a l j m q),Za,uO (s.z j q) (Q.za j q),Za,Za,Zk (by omega) (by omega),Za];simp only[tN];rw[io];refine congrArg (λx=>some (Sum.inl x)) (Prod.ext (by simp) (ZP λk p=>?_));by_cases f:k=j
  ·rw[iP f,iP (by omega),f]
  ·rw[iN f];by_cases g:k<j
   ·rw[iP g,iP (by omega)]
   ·rw[iN g,iN (by omega)]
 ·simp only;rw[Zo,eg (by omega),Zf];exact congrArg (λx=>some (Sum.inr x)) (ZP λk p=>iP p)
 refine Zu (je _ m) ?_;refine Zu (Zw _ n) ?_;rw[A];refine Zu (mE zz (Q.p.a l L m n)) ?_;refine Zu (uN (Q.za L n)) ?_;refine Zu (Zw _ n) ?_;refine Zu (Zw _ n) ?_;refine Zu (Zw _ m) ?_;refine Zu (Zw _ m) ?_;refine Zu (Zw _ n) ?_;simp only[tN];rw[io,io,io];refine congrArg (λx=>some (x,())) (Prod.ext (qY λi o k p=>?_) (Prod.ext (ZP λi o=>?_) (Prod.ext (ZP λk p=>?_) (Prod.ext ?_ (Prod.ext (ZP λi o=>?_) (ZP λk p=>?_))))))
 ·unfold j7;by_cases e:i=l
  ·rw[iP e,e]
  ·rw[iN e,iP o]
 ·unfold mu;by_cases e:i=l
  ·rw[iP e,e]
  ·rw[iN e,iP o]
 ·rw[EW];by_cases e:k=L
  ·rw[iP e,iP e,yu,iP rfl]
  ·rw[iN e,iN e,yu,iN e]
 ·show T.v+T.z L*(T.piv l L).b l=_;rw[Eb];rfl
 ·rw[nj];split <;> rfl
 ·rw[pa];split <;> rfl
end
noncomputable def B6(t:(List (List Su))×(List Su)×(List Su)×Su×(List Int)×(List Int)):Option (((List (List Su))×(List Su)×(List Su)×Su×(List Int)×(List Int))×Int) :=
 dU (Zg (σ:=Int×Int) (ρ:=Int) (λa=>
 dV (decide (a.2<(t.2.2.1.length:Int)))
 (dU (dX t.2.2.1 a.2) λb=>
 dU (α:=Bool)
 (dU (nu b) λc=>
 dV (decide ((0:Int)<c))
 (dV (decide (a.1<(0:Int)))
 (some true)
 (dU (dX t.2.2.2.2.2 a.2) λd=>
 dU (dX t.2.2.2.2.2 a.1) λe=>
 some (decide (d<e))))
 (some false)) λf=>
 dU (α:=Int)
 (dV f
 (some a.2)
 (some a.1)) λg=>
 dU (chk .i64 (a.2+(1:Int))) λh=>
 some (.inl (g,h)))
 (some (.inr a.1)))
  Zh ((-1:Int),(0:Int))) λi=>
 some ((t.1,t.2.1,t.2.2.1,t.2.2.2.1,t.2.2.2.2.1,t.2.2.2.2.2),i)
noncomputable def BY(t:(List (List Su))×(List Su)×(List Su)×Su×(List Int)×(List Int))(c:Int)(w:Int):Option (((List (List Su))×(List Su)×(List Su)×Su×(List Int)×(List Int))×Int) :=
 dU (Zg (σ:=Int×Int×Su) (ρ:=Int) (λa=>
 dV (decide (a.2.1<(t.1.length:Int)))
 (dU (α:=Int×Su)
 (dU (dX t.1 a.2.1) λg=>
 dU (dX g c) λh=>
 dU (nu h) λi=>
 dV (decide (i≤(0:Int)))
 (some (a.1,a.2.2))
 (dU (dX t.2.1 a.2.1) λj=>
 dU (dX t.1 a.2.1) λk=>
 dU (dX k c) λl=>
 dU (Bv j l) λb=>
 dU (α:=Int)
 (dV (decide ((0:Int)≤a.1))
 (dU (oF b.1 a.2.2) λm=>
 some m)
 (some (0:Int))) λd=>
 dU (α:=Bool)
 (dV (decide (a.1<(0:Int)))
 (some true)
 (dV (decide (d<(0:Int)))
 (some true)
 (dV (d==(0:Int))
 (dU (dX t.2.2.2.2.1 a.1) λn=>
 dV (n != w)
 (dU (dX t.2.2.2.2.1 a.2.1) λo=>
 dV (o==w)
 (some true)
 (dU (dX t.2.2.2.2.1 a.2.1) λp=>
 dU (dX t.2.2.2.2.1 a.1) λq=>
 some (decide (p<q))))
 (some false))
 (some false)))) λr=>
 dU (α:=Int×Su)
 (dV r
 (some (a.2.1,b.1))
 (some (a.1,a.2.2))) λe=>
 some (e.1,e.2))) λf=>
 dU (chk .i64 (a.2.1+(1:Int))) λs=>
 some (.inl (f.1,s,f.2)))
 (some (.inr a.1)))
  Zh ((-1:Int),(0:Int),jK)) λu=>
 some ((t.1,t.2.1,t.2.2.1,t.2.2.2.1,t.2.2.2.2.1,t.2.2.2.2.2),u)
noncomputable def El(t:(List (List Su))×(List Su)×(List Su)×Su×(List Int)×(List Int))(f:Int):Option (((List (List Su))×(List Su)×(List Su)×Su×(List Int)×(List Int))×Int) :=
 dU (Zg (σ:=(List (List Su))×(List Su)×(List Su)×Su×(List Int)×(List Int)) (ρ:=Int×((List (List Su))×(List Su)×(List Su)×Su×(List Int)×(List Int))) (λd=>
 dU (B6 (d.1,d.2.1,d.2.2.1,d.2.2.2.1,d.2.2.2.2.1,d.2.2.2.2.2)) λa=>
 dV (decide (a.2<(0:Int)))
 (some (.inr ((-1:Int),a.1.1,a.1.2.1,a.1.2.2.1,a.1.2.2.2.1,a.1.2.2.2.2.1,a.1.2.2.2.2.2)))
 (dU (BY (a.1.1,a.1.2.1,a.1.2.2.1,a.1.2.2.2.1,a.1.2.2.2.2.1,a.1.2.2.2.2.2) a.2 f) λb=>
 dV (decide (b.2<(0:Int)))
 (some (.inr (a.2,b.1.1,b.1.2.1,b.1.2.2.1,b.1.2.2.2.1,b.1.2.2.2.2.1,b.1.2.2.2.2.2)))
 (dU (wg (b.1.1,b.1.2.1,b.1.2.2.1,b.1.2.2.2.1,b.1.2.2.2.2.1,b.1.2.2.2.2.2) b.2 a.2) λe=>
 some (.inl (e.1.1,e.1.2.1,e.1.2.2.1,e.1.2.2.2.1,e.1.2.2.2.2.1,e.1.2.2.2.2.2)))))
  Zh (t.1,t.2.1,t.2.2.1,t.2.2.2.1,t.2.2.2.2.1,t.2.2.2.2.2)) λc=>
 some ((c.2.1,c.2.2.1,c.2.2.2.1,c.2.2.2.2.1,c.2.2.2.2.2.1,c.2.2.2.2.2.2),c.1)
section
open Gt
set_option maxRecDepth 100000 in
theorem YG{T:Gt Su}{m:Nat}(G:∀k,k<d→Zs (T.z k))(K:d≤1000):∃z,B6 (eT m d T)=some z∧∃e,z=(eT m d T,e)∧(e= -1∧(∀k,k<d→¬0<T.z k)∨ ∃c:Nat,e=(c:Int)∧T.ent d c):=by
 unfold B6 eT;refine Ey (λk s=>∃e,s=(e,(k:Int))∧(e= -1∧(∀j,j<k→¬0<T.z j)∨ ∃c:Nat,e=(c:Int)∧c<k∧0<T.z c∧∀j,j<k→0<T.z j→T.fr c≤T.fr j)) (λe=>e= -1∧(∀k,k<d→¬0<T.z k)∨ ∃c:Nat,e=(c:Int)∧T.ent d c) d ⟨-1,rfl,.inl ⟨rfl,λj i=>by omega⟩⟩ (by omega) (λk s J F=>?_) (λe E=>⟨_,rfl,e,rfl,E⟩);obtain⟨e,rfl,p⟩:=F;by_cases n:k<d
 ·left;simp only;rw[Zo,eo (by omega),Ze,Zw _ n,Za];obtain⟨w,es,B⟩:=xK (G k n);rw[es,Za];obtain⟨b,D,x⟩:∃b:Bool,(dV (decide ((0:Int)<w)) (dV (decide (e<(0:Int))) (some true) (dU (dX (vx d (λk=>(T.fr k:Int))) (k:Int)) λH=>dU (dX (vx d (λk=>(T.fr k:Int))) e) λI=>some (decide (H<I)))) (some false))=some b∧(b=true↔0<T.z k∧(e<0∨ ∃c:Nat,e=(c:Int)∧T.fr k<T.fr c)):=by
   by_cases hp:0<T.z k
   ·rw[eo (B.gt.2 hp),Ze];rcases p with⟨rfl,_⟩ |⟨c,rfl,y,_⟩
    ·exact⟨true,by rw[eo (by omega),Ze],by simp[hp]⟩
    ·refine⟨decide ((T.fr k:Int)<(T.fr c:Int)),by rw[eg (by omega),Zf,Zw _ n,Za,Zw _ (by omega),Za],?_⟩;rw[decide_eq_true_iff];constructor
     ·intro h;exact⟨hp,.inr ⟨c,rfl,by omega⟩⟩
     ·rintro⟨_,h |⟨r,C,u⟩⟩
      ·omega
      ·have:r=c:=by omega
       subst this;omega
   ·exact⟨false,by rw[eg (λh=>hp (B.gt.1 h)),Zf],by simp[hp]⟩
  rw[D,Za]
  cases b with
  |true=>
   obtain⟨hp,y⟩:=x.1 rfl;refine⟨((k:Int),((k+1:Nat):Int)),n,by rw[Ze,Za,Zk (by omega) (by omega),Za];rfl,_,rfl,.inr ⟨k,rfl,by omega,hp,λj i g=>?_⟩⟩;by_cases f:j=k
   ·rw[f];exact Nat.le_refl _
   ·rcases p with⟨rfl,o⟩ |⟨c,rfl,t,q,l⟩
    ·exact absurd g (o j (Nat.lt_of_le_of_ne (Nat.lt_succ_iff.1 i) f))
    ·rcases y with h |⟨r,C,u⟩
     ·omega
     ·have:r=c:=by omega
      subst this;exact Nat.le_of_lt (Nat.lt_of_lt_of_le u (l j (Nat.lt_of_le_of_ne (Nat.lt_succ_iff.1 i) f) g))
  |false=>
   have A:¬(0<T.z k∧(e<0∨ ∃c:Nat,e=(c:Int)∧T.fr k<T.fr c)):=λh=>by simpa using x.2 h
   refine⟨(e,((k+1:Nat):Int)),n,by rw[Zf,Za,Zk (by omega) (by omega),Za];rfl,_,rfl,?_⟩;rcases p with⟨rfl,o⟩ |⟨c,rfl,t,q,l⟩
   ·refine .inl ⟨rfl,λj i=>?_⟩;by_cases f:j=k
    ·rw[f];exact λh=>A ⟨h,.inl (by omega)⟩
    ·exact o j (by omega)
   ·refine .inr ⟨c,rfl,by omega,q,λj i g=>?_⟩;by_cases f:j=k
    ·rw[f]at g ⊢;exact Nat.le_of_not_lt λh=>A ⟨g,.inr ⟨c,rfl,h⟩⟩
    ·exact l j (by omega) g
 ·right;have:k=d:=by omega
  subst this;refine⟨e,by simp only;rw[Zo,eg (by omega),Zf],?_⟩;rcases p with⟨rfl,o⟩ |⟨c,rfl,t,q,l⟩
  ·exact .inl ⟨rfl,o⟩
  ·exact .inr ⟨c,rfl,t,q,l⟩
set_option maxRecDepth 100000 in
theorem Wa{T:Gt Su}{m n lst:Nat}{last:Int}(F:l<n)(M:T.all Zs m n)(Q:∀i,i<m→0<T.a i l→Zs (T.b i / T.a i l))(Z:m≤1000)(hn:n≤1000)(H:∀i,i<m→((T.bs i:Int)=last↔T.bs i=lst)):
  ∃ z,BY (eT m n T) (l:Int) last=some z∧∃e,z=(eT m n T,e)∧(e= -1∧(∀i,i<m→¬0<T.a i l)∨ ∃r:Nat,e=(r:Int)∧T.lea m l lst r):=by
 let q:Nat→Su:=λi=>T.b i / T.a i l
 unfold BY eT;refine Ey (λi s=>∃e,∃w,s=(e,(i:Int),w)∧(e= -1∧(∀j,j<i→¬0<T.a j l)∨ ∃r:Nat,e=(r:Int)∧w=q r∧r<i∧0<T.a r l∧∀j,j<i→0<T.a j l→q r≤q j∧(q j=q r→T.bs r≠lst→T.bs r≤T.bs j))) (λe=>e= -1∧(∀i,i<m→¬0<T.a i l)∨ ∃r:Nat,e=(r:Int)∧T.lea m l lst r) m ⟨-1,_,rfl,.inl ⟨rfl,λj f=>by omega⟩⟩ (by omega) (λi s Y B=>?_) (λe o=>⟨_,rfl,e,rfl,o⟩);obtain⟨e,w,rfl,B⟩:=B;by_cases t:i<m
 ·left;simp only;rw[jx,eo (by omega),Ze]
  suffices hs:∃u y,(dU (α:=Int×Su) _ (λE=>dU (chk .i64 ((i:Int)+(1:Int))) λO=>some (.inl (E.1,O,E.2))):Option ((Int×Int×Su) ⊕ Int))=some (.inl (u,((i+1:Nat):Int),y))∧(u= -1∧(∀j,j<i+1→¬0<T.a j l)∨ ∃r:Nat,u=(r:Int)∧y=q r∧r<i+1∧0<T.a r l∧∀j,j<i+1→0<T.a j l→q r≤q j∧(q j=q r→T.bs r≠lst→T.bs r≤T.bs j)) by
   obtain⟨u,y,S,U⟩:=hs;exact⟨_,t,S,u,y,rfl,U⟩
  have gr:∀{X:Option (Int×Su)} {u:Int} {y:Su},X=some (u,y)→(dU X (λE=>dU (chk .i64 ((i:Int)+(1:Int))) λO=>some (.inl (E.1,O,E.2))):Option ((Int×Int×Su) ⊕ Int))=some (.inl (u,((i+1:Nat):Int),y)):=λh=>by
   rw[h,Za,Zk (by omega) (by omega),Za];rfl
  rw[je _ t,Za,Zw _ F,Za];obtain⟨g,es,P⟩:=xK (M.a i l t F);rw[es,Za];by_cases hp:0<T.a i l
  ·rw[eg (show¬g≤0 from λh=>by have:=P.gt.2 hp;omega),Zf,Zw _ t,Za,Za,Zw _ F,Za,E7 (M.b i t) (M.a i l t F) (nE hp).symm,Za];have J:∀(h:∀j,j<i→0<T.a j l→q i≤q j∧(q j=q i→T.bs i≠lst→T.bs i≤T.bs j)),(((i:Nat):Int)= -1∧(∀j,j<i+1→¬0<T.a j l)∨ ∃r:Nat,((i:Nat):Int)=(r:Int)∧q i=q r∧r<i+1∧0<T.a r l∧∀j,j<i+1→0<T.a j l→q r≤q j∧(q j=q r→T.bs r≠lst→T.bs r≤T.bs j)):=λh=>.inr ⟨i,rfl,rfl,by omega,hp,λj f c=>by
    by_cases k:j=i
    ·rw[k];exact⟨mz _,λ_ _=>Nat.le_refl _⟩
    ·exact h j (by omega) c⟩
   rcases B with⟨rfl,D⟩ |⟨r,rfl,rfl,L,A,p⟩
   ·refine⟨(i:Int),q i,gr ?_,J λj f c=>absurd c (D j f)⟩;rw[show(decide ((0:Int)≤-1))=false from rfl,Zf,Za,show(decide ((-1:Int)<0))=true from rfl,Ze,Za,Ze,Za]
   ·rw[eo (show(0:Int)≤(r:Int) by omega),Ze];obtain⟨d,R,G⟩:=uM (x:=q i) (y:=q r) (Q i t hp) (Q r (by omega) A);rw[show oF (T.b i / T.a i l,(0:Int)).1 ((r:Int),(i:Int),q r).2.2=some d from R,Za,Za,eg (show¬(r:Int)<0 by omega),Zf];have N:(∀(h:q r≤q i∧(q i=q r→T.bs r≠lst→T.bs r≤T.bs i)),(((r:Nat):Int)= -1∧(∀j,j<i+1→¬0<T.a j l)∨ ∃x:Nat,((r:Nat):Int)=(x:Int)∧q r=q x∧x<i+1∧0<T.a x l∧∀j,j<i+1→0<T.a j l→q x≤q j∧(q j=q x→T.bs x≠lst→T.bs x≤T.bs j))):=λh=>.inr ⟨r,rfl,rfl,by omega,A,λj f c=>by
     by_cases k:j=i
     ·rw[k];exact h
     ·exact p j (by omega) c⟩
    by_cases C:q i<q r
    ·refine⟨(i:Int),q i,gr ?_,J λj f c=>?_⟩
     ·rw[eo (G.lt.2 (ZB C)),Ze,Za,Ze,Za]
     ·have:=(p j f c).1;exact⟨gK (D' C this),λk=>absurd k (nE (D' C this)).symm⟩
    ·rw[eg (λh=>C (ZB (G.lt.1 h))),Zf];by_cases o:q i=q r
     ·rw[show(d==0)=true by rw[beq_iff_eq,G.zero,o];exact rg,Ze,Zw _ (show r<m by omega),Za];by_cases I:T.bs r=lst
      ·refine⟨(r:Int),q r,gr ?_,N ⟨by rw[o];exact mz _,λ_ h=>absurd I h⟩⟩;rw[show((T.bs r:Int) != last)=false by rw[bne_eq_false_iff_eq];exact(H r (by omega)).2 I,Zf,Za,Zf,Za]
      ·rw[show((T.bs r:Int) != last)=true by rw[bne_iff_ne];exact λh=>I ((H r (by omega)).1 h),Ze,Zw _ t,Za];by_cases K:T.bs i=lst
       ·refine⟨(i:Int),q i,gr ?_,J λj f c=>⟨by rw[o];exact(p j f c).1,λ_ h=>absurd K h⟩⟩;rw[show((T.bs i:Int)==last)=true by rw[beq_iff_eq];exact(H i t).2 K,Ze,Za,Ze,Za]
       ·rw[show((T.bs i:Int)==last)=false by rw[beq_eq_false_iff_ne];exact λh=>K ((H i t).1 h),Zf,Za];by_cases W:T.bs i<T.bs r
        ·refine⟨(i:Int),q i,gr ?_,J λj f c=>⟨by rw[o];exact(p j f c).1,λk h=>?_⟩⟩
         ·rw[Za,eo (by omega),Za,Ze,Za]
         ·exact Nat.le_of_lt (Nat.lt_of_lt_of_le W ((p j f c).2 (by rw[k,o]) I))
        ·refine⟨(r:Int),q r,gr ?_,N ⟨by rw[o];exact mz _,λ_ _=>by omega⟩⟩;rw[Za,eg (by omega),Za,Zf,Za]
     ·refine⟨(r:Int),q r,gr ?_,N ⟨pq.1 C,λh=>absurd h o⟩⟩;rw[show(d==0)=false by rw[beq_eq_false_iff_ne];exact λh=>o (iK (G.zero.1 h)),Zf,Za,Zf,Za]
  ·refine⟨e,w,gr ?_,?_⟩
   ·rw[eo (show g≤0 from Int.not_lt.1 λh=>hp (P.gt.1 h)),Ze]
   ·rcases B with⟨rfl,D⟩ |⟨r,rfl,rfl,L,A,p⟩
    ·refine .inl ⟨rfl,λj f=>?_⟩;by_cases k:j=i
     ·rw[k];exact hp
     ·exact D j (by omega)
    ·refine .inr ⟨r,rfl,rfl,by omega,A,λj f c=>?_⟩;by_cases k:j=i
     ·rw[k]at c;exact absurd c hp
     ·exact p j (by omega) c
 ·right;have:i=m:=by omega
  subst this;refine⟨e,by simp only;rw[jx,eg (by omega),Zf],?_⟩;rcases B with⟨rfl,D⟩ |⟨r,rfl,rfl,L,A,p⟩
  ·exact .inl ⟨rfl,D⟩
  ·exact .inr ⟨r,rfl,L,A,λj f c=>(p j f c).1,λj f c=>(p j f c).2⟩
namespace Gt
theorem Steps.more{f:Nat→Gt Su}{m l:Nat→Nat}{N:Nat}(h:Steps f m l c d N L S){r g:Nat}(n:(f S).ent d g)(o:(f S).lea c g L r)(p:∀j,j<d→(f S).fr j≠L):
  Steps (λj=>if j=S+1 then(f S).piv r g else f j) (λj=>if j=S then r else m j) (λj=>if j=S then g else l j) c d N L (S+1):=by
 have k:∀j,j<S+1→(if j=S+1 then(f S).piv r g else f j)=f j:=λj i=>iN (by omega);refine⟨λj i=>?_,λj i=>?_,λj i=>?_,?_,?_,λj i=>?_⟩
 ·rw[k j i];show(if j+1=S+1 then(f S).piv r g else f (j+1))=(f j).piv (if j=S then r else m j) (if j=S then g else l j);by_cases e:j=S
  ·rw[iP (by omega),iP e,iP e,e]
  ·rw[iN (by omega),iN e,iN e];exact h.step j (by omega)
 ·rw[k j i];show(f j).ent d (if j=S then g else l j);by_cases e:j=S
  ·rw[iP e,e];exact n
  ·rw[iN e];exact h.ent j (by omega)
 ·rw[k j i];show(f j).lea c (if j=S then g else l j) L (if j=S then r else m j);by_cases e:j=S
  ·rw[iP e,iP e,e];exact o
  ·rw[iN e,iN e];exact h.lea j (by omega)
 ·rw[k 0 (by omega)];exact h.arr0
 ·rw[k 0 (by omega)];exact h.fea0
 ·rw[k j i];by_cases e:j=S
  ·rw[e];exact p
  ·exact h.nl j (by omega)
end Gt
theorem tK{T:Gt Su}(h:T.cd eI S c d)(g:l<c)(m:L<d)(i:0<T.a l L)(k:S≤24900):Zs (T.b l / T.a l L):=by
 obtain⟨D,j,n,f⟩:=h;have e:=(nE i).symm;exact jG (nG e j) (by rw[show T.b l / T.a l L*(T.a l L*D)=T.b l*D from gu (jd e) (T.b l*D)];exact f.b l g) (f.a l L g m) k
theorem Vx{N:Nat}(h:N≤60):2^N<2^64:=Nat.pow_lt_pow_right (by omega) (by omega)
def w6(m n N:Nat)(f d:Gt Su)(e:Int):Prop:=d.arr m n N∧d.eqv f m n∧d.fea m∧(e= -1∧(∀k,k<n→¬0<d.z k)∨ ∃c:Nat,e=(c:Int)∧d.ent n c∧∀i,i<m→¬0<d.a i c)
set_option maxRecDepth 100000 in
theorem Tv{T s:Gt Su}{N lst R:Nat}{last:Int}(hr:c≤R∨d≤R)(h0:s.arr c d N)(X:s.cd eI S c d)(he:T.eqv s c d)(ha:T.arr c d N)(hf:T.fea c)(hN:N≤60)(P:c≤1000)(K:d≤1000)(hK:kq S R≤12400)(hl:∀u,u<N→((u:Int)=last↔u=lst))(nl:∀n:Gt Su,n.arr c d N→n.eqv s c d→(∃q,n.ent d q)→∀j,j<d→n.fr j≠lst):∃z,El (eT c d T) last=some z∧∃n e,z=(eT c d n,e)∧w6 c d N s n e:=by
  unfold El;refine S9 (Q:=λr=>∃n e,r=(e,eT c d n)∧w6 c d N s n e) ?_ (λy hy=>?_)
  · have a1:∀B k (l:Nat→Gt Su) (L E:Nat→Nat) f,Gt.Steps l L E c d N lst k→l 0=T→2^N≤B+k→B<f→∃r,Zg (σ:=IN) (ρ:=Int×IN) (λx=>
       dU (B6 (x.1,x.2.1,x.2.2.1,x.2.2.2.1,x.2.2.2.2.1,x.2.2.2.2.2)) λm=>
       dV (decide (m.2<(0:Int)))
       (some (.inr ((-1:Int),m.1.1,m.1.2.1,m.1.2.2.1,m.1.2.2.2.1,m.1.2.2.2.2.1,m.1.2.2.2.2.2)))
       (dU (BY (m.1.1,m.1.2.1,m.1.2.2.1,m.1.2.2.2.1,m.1.2.2.2.2.1,m.1.2.2.2.2.2) m.2 last) λo=>
        dV (decide (o.2<(0:Int)))
        (some (.inr (m.2,o.1.1,o.1.2.1,o.1.2.2.1,o.1.2.2.2.1,o.1.2.2.2.2.1,o.1.2.2.2.2.2)))
        (dU (wg (o.1.1,o.1.2.1,o.1.2.2.1,o.1.2.2.2.1,o.1.2.2.2.2.1,o.1.2.2.2.2.2) o.2 m.2) λA=>
         some (.inl (A.1.1,A.1.2.1,A.1.2.2.1,A.1.2.2.2.1,A.1.2.2.2.2.1,A.1.2.2.2.2.2))))) f (eT c d (l k))=some r∧∃n e,r=(e,eT c d n)∧w6 c d N s n e:=by
      intro B
      induction B with
      | zero=>
        intro k l L E f w _ h2 _;have:=w.bound;omega
      | succ B ih=>
        intro k l L E f w M h2 h3;obtain⟨f,rfl⟩:∃g,f=g+1:=⟨f-1,by omega⟩;have C:=w.arr k (Nat.le_refl k);have D:(l k).eqv s c d:=by
          have:=w.eqv k (Nat.le_refl k);rw[M]at this;exact this.trans he
        have O:=w.fea k (Nat.le_refl k);have H:=Hn vM hr h0 X C D;have U:=AS H (by omega);unfold Zg;obtain⟨z1,F,e,rfl,p⟩:=YG (T:=l k) (m:=c) U.z K;have F:B6 ((eT c d (l k)).1,(eT c d (l k)).2.1,(eT c d (l k)).2.2.1,(eT c d (l k)).2.2.2.1,(eT c d (l k)).2.2.2.2.1,(eT c d (l k)).2.2.2.2.2)=some (eT c d (l k),e):=F;rw[F,Za];rcases p with⟨rfl,p⟩ |⟨q,rfl,p⟩
        · rw[show(decide ((-1:Int)<0))=true from rfl,Ze,Za];exact⟨_,rfl,l k,-1,rfl,C,D,O,.inl ⟨rfl,p⟩⟩
        · rw[eg (show¬(q:Int)<0 by omega),Zf];obtain⟨z2,G,Y,rfl,t⟩:=Wa (T:=l k) (m:=c) (n:=d) (lst:=lst) (last:=last) p.lt U (λi I h=>tK H I p.lt h (by omega)) P K λi I=>hl _ (C.bl i I);have G:BY ((eT c d (l k)).1,(eT c d (l k)).2.1,(eT c d (l k)).2.2.1,(eT c d (l k)).2.2.2.1,(eT c d (l k)).2.2.2.2.1,(eT c d (l k)).2.2.2.2.2) (q:Int) last=some (eT c d (l k),Y):=G;simp only;rw[G,Za];rcases t with⟨rfl,t⟩ |⟨r,rfl,t⟩
          · rw[show(decide ((-1:Int)<0))=true from rfl,Ze,Za];exact⟨_,rfl,l k,(q:Int),rfl,C,D,O,.inr ⟨q,rfl,p,t⟩⟩
          · rw[eg (show¬(r:Int)<0 by omega),Zf];have Q:(l k).a r q≠0:=λe=>by have:=t.pos;rw[e]at this;exact vG this
            have Z:wg ((eT c d (l k)).1,(eT c d (l k)).2.1,(eT c d (l k)).2.2.1,(eT c d (l k)).2.2.2.1,(eT c d (l k)).2.2.2.2.1,(eT c d (l k)).2.2.2.2.2) (r:Int) (q:Int)=some (eT c d ((l k).piv r q),()):=KI t.lt p.lt Q (mQ H t.lt p.lt Q hK) P K;simp only;rw[Z,Za,Za];have a0:=w.more p t (nl _ C D ⟨q,p⟩);obtain⟨r',W,q2⟩:=ih (k+1) _ _ _ f a0 (by show(if 0=k+1 then _ else l 0)=T;rw[iN (by omega)];exact M) (by omega) (by omega);rw[iP rfl]at W;exact⟨r',W,q2⟩
    exact a1 (2^N) 0 (λ_=>T) (λ_=>0) (λ_=>0) Zh ⟨λk J=>by omega,λk J=>by omega,λk J=>by omega,ha,hf,λk J=>by omega⟩ rfl (by omega) (ZR (Nat.lt_trans (Vx hN) (by decide)))
  · obtain⟨n,e,rfl,hq⟩:=hy;exact⟨_,rfl,n,e,rfl,hq⟩
noncomputable def xj(n:Int):Option (List Su) :=
 dU (iJ (0:Int)) λa=>
 dU (iY 152 [a] n) λb=>
 some b
noncomputable def D8(t:(List (List Su))×(List Su)×(List Su)×Su×(List Int)×(List Int))(n:Int):Option (List Su) :=
 dU (xj n) λc=>
 dU (Zg (σ:=Int×(List Su)) (ρ:=List Su) (λa=>
 dV (decide (a.1<(t.2.2.2.2.1.length:Int)))
 (dU (dX t.2.2.2.2.1 a.1) λb=>
 dU (α:=List Su)
 (dV (decide (b<n))
 (dU (dX t.2.1 a.1) λd=>
 dU (dX a.2 b) λh=>
 some (a.2.set b.toNat d))
 (some a.2)) λe=>
 dU (chk .i64 (a.1+(1:Int))) λf=>
 some (.inl (f,e)))
 (some (.inr a.2)))
  Zh ((0:Int),c)) λg=>
 some g
noncomputable def FM(t:(List (List Su))×(List Su)×(List Su)×Su×(List Int)×(List Int))(n:Int)(k:Int):Option (List Su) :=
 dU (xj k) λd=>
 dU (Zg (σ:=Int×(List Su)) (ρ:=List Su) (λa=>
 dV (decide (a.1<(t.2.2.2.2.2.length:Int)))
 (dU (dX t.2.2.2.2.2 a.1) λb=>
 dU (α:=Bool)
 (dV (decide (n≤b))
 (dU (chk .i64 (n+k)) λe=>
 some (decide (b<e)))
 (some false)) λf=>
 dU (α:=List Su)
 (dV f
 (dU (chk .i64 (b-n)) λc=>
 dU (dX t.2.2.1 a.1) λg=>
 dU (qX g) λh=>
 dU (dX a.2 c) λm=>
 some (a.2.set c.toNat h))
 (some a.2)) λi=>
 dU (chk .i64 (a.1+(1:Int))) λj=>
 some (.inl (j,i)))
 (some (.inr a.2)))
  Zh ((0:Int),d)) λl=>
 some l
noncomputable def Hg(t:(List (List Su))×(List Su)×(List Su)×Su×(List Int)×(List Int))(n:Int)(k:Int):Option (((List (List Su))×(List Su)×(List Su)×Su×(List Int)×(List Int))×(List Su)) :=
 dU (iJ (0:Int)) λd=>
 dU (iY 152 [d] k) λe=>
 dU (Zg (σ:=Int×(List Su)) (ρ:=List Su) (λa=>
 dV (decide (a.1<(t.2.2.2.2.2.length:Int)))
 (dU (dX t.2.2.2.2.2 a.1) λb=>
 dU (α:=Bool)
 (dV (decide (n≤b))
 (dU (chk .i64 (n+k)) λf=>
 some (decide (b<f)))
 (some false)) λg=>
 dU (α:=List Su)
 (dV g
 (dU (chk .i64 (b-n)) λc=>
 dU (dX t.2.2.1 a.1) λh=>
 dU (qX h) λi=>
 dU (dX a.2 c) λo=>
 some (a.2.set c.toNat i))
 (some a.2)) λj=>
 dU (chk .i64 (a.1+(1:Int))) λl=>
 some (.inl (l,j)))
 (some (.inr a.2)))
  Zh ((0:Int),e)) λm=>
 some ((t.1,t.2.1,t.2.2.1,t.2.2.2.1,t.2.2.2.2.1,t.2.2.2.2.2),m)
end
section
open Gt
theorem Ek(d:c≤1000):iY 152 [(0:Su)] (c:Int)=some (vx c λ_=>(0:Su)):=by
 unfold iY;simp only;rw[PJ (by omega) (by omega),Za,tN,R4]
theorem FE(d:c≤1000):xj (c:Int)=some (vx c λ_=>(0:Su)):=by
 unfold xj;rw[qI,Za,Ek d,Za]
theorem Bd{body:Int→Option (Int ⊕ (Unit ⊕ Int))}(k:Nat)(t:k≤1000)(p:Nat→Prop)(m:∀i,i<k→(p i∧body (i:Int)=some (.inr (.inr (i:Int))))∨(¬p i∧body (i:Int)=some (.inl ((i+1:Nat):Int))))(n:body (k:Int)=some (.inr (.inl ()))):
  ∃ e:Int,(dU (Zg body Zh (0:Int)) λx=>match x with |.inl _=>some (-1:Int) |.inr r=>some r)=some e∧((e= -1∧∀i,i<k→¬p i)∨ ∃i,i<k∧e=(i:Int)∧p i):=by
 refine Ey (λi s=>s=(i:Int)∧∀j,j<i→¬p j) (λr=>(r= .inl ()∧∀i,i<k→¬p i)∨ ∃i,i<k∧r= .inr (i:Int)∧p i) k ⟨rfl,λj o=>by omega⟩ (by omega) (λi s l c=>?_) (λr q=>?_)
 ·obtain⟨rfl,c⟩:=c;by_cases g:i<k
  ·rcases m i g with⟨d,f⟩ |⟨d,f⟩
   ·exact .inr ⟨_,f,.inr ⟨i,g,rfl,d⟩⟩
   ·refine .inl ⟨_,g,f,rfl,λj o=>?_⟩;by_cases e:j=i
    ·rw[e];exact d
    ·exact c j (by omega)
  ·have:i=k:=by omega
   subst this;exact .inr ⟨_,n,.inl ⟨rfl,c⟩⟩
 ·rcases q with⟨rfl,h⟩ |⟨i,l,rfl,h⟩
  ·exact⟨-1,rfl,.inl ⟨rfl,h⟩⟩
  ·exact⟨(i:Int),rfl,.inr ⟨i,l,rfl,h⟩⟩
theorem NX(f:Nat→D)(j:d<c+1):kn (vx (c+1) f) (d:Int) ((d+1:Nat):Int)=some (vx c λk=>f (sk d k)):=by
 unfold kn;rw[iP ⟨by omega,by rw[Zo];omega,rfl⟩];refine congrArg some (List.ext_getElem? λi=>?_);have g:(List.take d (vx (c+1) f)).length=d:=by rw[List.length_take,Zo];omega
 simp only[tN];by_cases e:i<d
 ·rw[List.getElem?_append_left (by rw[g];exact e),List.getElem?_take,iP e,qf f (by omega),qf _ (by omega)];unfold sk;rw[iP e]
 ·rw[List.getElem?_append_right (by rw[g];omega),g,List.getElem?_drop];by_cases h:i<c
  ·rw[qf _ (by omega),qf _ h];unfold sk;rw[iN e];congr 2;omega
  ·rw[List.getElem?_eq_none (by rw[Zo];omega),List.getElem?_eq_none (by rw[Zo];omega)]
set_option maxRecDepth 100000 in
theorem T9{T:Gt Su}{N:Nat}(h:T.arr c l N)(q:c≤1000)(m:d≤1000):D8 (eT c l T) (d:Int)=some (vx d (ZZ c T)):=by
 unfold D8 eT;refine Zu (FE m) ?_;refine Zu (y:=vx d (ZZ c T)) (fL (λi=>((i:Int),vx d (ZZ i T))) c ?_ (by omega) (λi f=>?_) ?_) rfl
 ·rfl
 ·simp only;rw[Zo,eo (by omega),Ze,Zw _ f,Za];refine Zu (y:=vx d (ZZ (i+1) T)) ?_ (by rw[Zk (by omega) (by omega),Za];rfl);have o:ZZ i T (T.bs i)=0:=ga λj p=>iN λe=>by have:=h.bi j i (by omega) f e;omega
  by_cases k:T.bs i<d
  ·rw[eo (by omega),Ze,Zw _ f,Za,Zw _ k,Za];simp only[tN];rw[io];refine congrArg some (ZP λu n=>?_);show _=ZZ i T u+(if T.bs i=u then T.b i else 0);by_cases e:u=T.bs i
   ·rw[iP e,iP e.symm,e,o];exact rg
   ·rw[iN e,iN λg=>e g.symm];exact rg
  ·rw[eg (by omega),Zf];refine congrArg some (ZP λu n=>?_);show _=ZZ i T u+(if T.bs i=u then T.b i else 0);rw[iN (by omega)];exact rg
 ·simp only;rw[Zo,eg (by omega),Zf]
theorem PM{T:Gt Su}{N:Nat}(h:T.arr c l N)(r:∀S,S<l→Zs (T.z S))(E:c≤1000)(G:l≤1000)(F:d≤1000)(D:S≤1000):
   Zg (σ:=Int×(List Su)) (ρ:=List Su) (λf=>
   dV (decide (f.1<((vx l λS=>(T.fr S:Int)).length:Int)))
   (dU (dX (vx l λS=>(T.fr S:Int)) f.1) λk=>
    dU (α:=Bool)
    (dV (decide ((d:Int)≤k))
     (dU (chk .i64 ((d:Int)+(S:Int))) λw=>
      some (decide (k<w)))
     (some false)) λt=>
    dU (α:=List Su)
    (dV t
     (dU (chk .i64 (k-(d:Int))) λn=>
      dU (dX (vx l T.z) f.1) λx=>
      dU (qX x) λy=>
      dU (dX f.2 n) λI=>
      some (f.2.set n.toNat y))
     (some f.2)) λs=>
    dU (chk .i64 (f.1+(1:Int))) λu=>
    some (.inl (u,s)))
   (some (.inr f.2)))
  Zh ((0:Int),vx S λ_=>(0:Su))=some (vx S (Z8 d T l)):=by
  refine fL (λj=>((j:Int),vx S (Z8 d T j))) l ?_ (by omega) (λj g=>?_) ?_
  · refine Prod.ext rfl (ZP λi _=>?_);show -(0:Su)=0;exact rg
  · simp only;rw[Zo,eo (by omega),Ze,Zw _ g,Za];have step:∀i,Z8 d T (j+1) i=Z8 d T j i-(if T.fr j=d+i then T.z j else 0):=λi=>by
      show -(zz j T.z T.fr (d+i)+(if T.fr j=d+i then T.z j else 0))= -(zz j T.z T.fr (d+i))-_;exact rg
    refine Zu (y:=decide (d≤T.fr j∧T.fr j<d+S)) ?_ ?_
    · by_cases C:d≤T.fr j
      · rw[eo (by omega),Ze,Zk (by omega) (by omega),Za];refine congrArg some ?_;rw[decide_eq_decide];omega
      · rw[eg (by omega),Zf,eg (by omega)]
    · refine Zu (y:=vx S (Z8 d T (j+1))) ?_ (by rw[Zk (by omega) (by omega),Za];rfl);by_cases m:d≤T.fr j∧T.fr j<d+S
      · have o:(T.fr j:Int)-(d:Int)=((T.fr j-d:Nat):Int):=by omega
        rw[eo m,Ze,o,Zk (by omega) (by omega),Za,Zw _ g,Za,uN (r j g),Za,Zw _ (by omega),Za];simp only[tN];rw[io];refine congrArg some (ZP λi p=>?_);rw[step i];by_cases e:i=T.fr j-d
        · have A:Z8 d T j i=0:=by
            show -(zz j T.z T.fr (d+i))=0;have:zz j T.z T.fr (d+i)=0:=ga λq H=>iN λB=>by have:=h.fi q j (by omega) g (by omega);omega
            rw[this];exact rg
          rw[iP e,iP (by omega),A];exact rg
        · rw[iN e,iN (by omega)];exact rg
      · rw[eg m,Zf];refine congrArg some (ZP λi p=>?_);rw[step i,iN (by omega)];exact rg
  · simp only;rw[Zo,eg (by omega),Zf]
theorem Xl{T:Gt Su}{N:Nat}(h:T.arr c l N)(j:∀S,S<l→Zs (T.z S))(f:c≤1000)(i:l≤1000)(g:d≤1000)(e:S≤1000):FM (eT c l T) (d:Int) (S:Int)=some (vx S (Z8 d T l)):=by
 unfold FM eT;refine Zu (FE e) ?_;exact Zu (PM h j f i g e) rfl
theorem ZyE{T:Gt Su}{N:Nat}(h:T.arr c l N)(j:∀S,S<l→Zs (T.z S))(f:c≤1000)(i:l≤1000)(g:d≤1000)(e:S≤1000):Hg (eT c l T) (d:Int) (S:Int)=some (eT c l T,vx S (Z8 d T l)):=by
 unfold Hg eT;refine Zu qI ?_;refine Zu (Ek e) ?_;exact Zu (PM h j f i g e) rfl
noncomputable def Ga(t:(List (List Su))×(List Su)×(List Su)×Su×(List Int)×(List Int))(p:(List (List Su))×(List Su)×(List Su)):Option (((List (List Su))×(List Su)×(List Su)×Su×(List Int)×(List Int))×(List Su)×Bool) :=
 dU (chk .i64 ((p.2.2.length:Int)+(p.2.1.length:Int))) λm=>
 dU (Zg (σ:=Int×Int) (ρ:=Int) (λf=>
 dV (decide (f.2<(t.2.1.length:Int)))
 (dU (dX t.2.1 f.2) λy=>
 dU (α:=Bool)
 (dU (nu y) λI=>
 dV (decide (I<(0:Int)))
 (dV (decide (f.1<(0:Int)))
 (some true)
 (dU (dX t.2.1 f.1) λJ=>
 dU (oF y J) λK=>
 some (decide (K<(0:Int)))))
 (some false)) λL=>
 dU (α:=Int)
 (dV L
 (some f.2)
 (some f.1)) λM=>
 dU (chk .i64 (f.2+(1:Int))) λN=>
 some (.inl (M,N)))
 (some (.inr f.1)))
  Zh ((-1:Int),(0:Int))) λz=>
 dV (decide (z<(0:Int)))
 (some ((t.1,t.2.1,t.2.2.1,t.2.2.2.1,t.2.2.2.2.1,t.2.2.2.2.2),([]:List Su),true))
 (dU (Zg (σ:=Int×(List (List Su))) (ρ:=List (List Su)) (λc=>
 dV (decide (c.1<(t.1.length:Int)))
 (dU (dX c.2 c.1) λA=>
 dU (iJ (-1:Int)) λB=>
 dU (ZE 152 (A++[B])) λ_=>
 dU (dX c.2 c.1) λaL=>
 dU (jY c.1.toNat c.1.toNat) λ_=>
 dU (chk .i64 (c.1+(1:Int))) λO=>
 some (.inl (O,c.2.set c.1.toNat (A++[B]))))
 (some (.inr c.2)))
   Zh ((0:Int),t.1)) λP=>
 dU (ZE 8 (t.2.2.2.2.2++[m])) λ_=>
 dU (iJ (0:Int)) λQ=>
 dU (iY 152 [Q] (p.2.2.length:Int)) λC=>
 dU (iJ (-1:Int)) λD=>
 dU (ZE 152 (C++[D])) λ_=>
 dU (wg (P,t.2.1,C++[D],t.2.2.2.1,t.2.2.2.2.1,t.2.2.2.2.2++[m]) z (p.2.2.length:Int)) λi=>
 dU (El (i.1.1,i.1.2.1,i.1.2.2.1,i.1.2.2.2.1,i.1.2.2.2.2.1,i.1.2.2.2.2.2) m) λb=>
 dU (nu b.1.2.2.2.1) λR=>
 dV (decide (R<(0:Int)))
 (dU (Hg (b.1.1,b.1.2.1,b.1.2.2.1,b.1.2.2.2.1,b.1.2.2.2.2.1,b.1.2.2.2.2.2) (p.2.2.length:Int) (p.2.1.length:Int)) λg=>
 some ((g.1.1,g.1.2.1,g.1.2.2.1,g.1.2.2.2.1,g.1.2.2.2.2.1,g.1.2.2.2.2.2),g.2,false))
 (dU (α:=Int)
 (dU (Zg (σ:=Int) (ρ:=Unit ⊕ Int) (λn=>
 dV (decide (n<(b.1.2.2.2.2.1.length:Int)))
 (dU (dX b.1.2.2.2.2.1 n) λS=>
 dV (m==S)
 (some (.inr (.inr n)))
 (dU (chk .i64 (n+(1:Int))) λT=>
 some (.inl T)))
 (some (.inr (.inl ()))))
     Zh (0:Int)) λU=>
    match U with
|.inl aM=>(some (-1:Int))
|.inr V=>(some V)) λw=>
 dU (α:=(List (List Su))×(List Su)×(List Su)×Su×(List Int)×(List Int))
 (dV (decide ((0:Int)≤w))
 (dU (dX b.1.1 w) λE=>
 dU (α:=Int)
 (dU (Zg (σ:=Int) (ρ:=Unit ⊕ Int) (λo=>
 dV (decide (o<(E.length:Int)))
 (dU (dX E o) λW=>
 dU (vW W) λX=>
 dV (!X)
 (some (.inr (.inr o)))
 (dU (chk .i64 (o+(1:Int))) λY=>
 some (.inl Y)))
 (some (.inr (.inl ()))))
       Zh (0:Int)) λZ=>
      match Z with
|.inl aN=>(some (-1:Int))
|.inr aa=>(some aa)) λab=>
 dU (wg (b.1.1,b.1.2.1,b.1.2.2.1,b.1.2.2.2.1,b.1.2.2.2.2.1,b.1.2.2.2.2.2) w ab) λj=>
 some (j.1.1,j.1.2.1,j.1.2.2.1,j.1.2.2.2.1,j.1.2.2.2.2.1,j.1.2.2.2.2.2))
 (some (b.1.1,b.1.2.1,b.1.2.2.1,b.1.2.2.2.1,b.1.2.2.2.2.1,b.1.2.2.2.2.2))) λh=>
 dU (α:=Int)
 (dU (Zg (σ:=Int) (ρ:=Unit ⊕ Int) (λq=>
 dV (decide (q<(h.2.2.2.2.2.length:Int)))
 (dU (dX h.2.2.2.2.2 q) λac=>
 dV (m==ac)
 (some (.inr (.inr q)))
 (dU (chk .i64 (q+(1:Int))) λad=>
 some (.inl ad)))
 (some (.inr (.inl ()))))
     Zh (0:Int)) λae=>
    match ae with
|.inl aO=>(some (-1:Int))
|.inr af=>(some af)) λr=>
 dU (chk .i64 (r+(1:Int))) λag=>
 dU (kn h.2.2.2.2.2 r ag) λF=>
 dU (Zg (σ:=Int×(List (List Su))) (ρ:=List (List Su)) (λd=>
 dV (decide (d.1<(h.1.length:Int)))
 (dU (dX d.2 d.1) λah=>
 dU (chk .i64 (r+(1:Int))) λai=>
 dU (kn ah r ai) λaj=>
 dU (dX d.2 d.1) λaP=>
 dU (jY d.1.toNat d.1.toNat) λ_=>
 dU (chk .i64 (d.1+(1:Int))) λak=>
 some (.inl (ak,d.2.set d.1.toNat aj)))
 (some (.inr d.2)))
    Zh ((0:Int),h.1)) λal=>
 dU (iJ (0:Int)) λam=>
 dU (iY 152 [am] (F.length:Int)) λan=>
 dU (iJ (0:Int)) λao=>
 dU (Zg (σ:=Int×((List (List Su))×(List Su)×(List Su)×Su×(List Int)×(List Int))) (ρ:=(List (List Su))×(List Su)×(List Su)×Su×(List Int)×(List Int)) (λa=>
 dV (decide (a.1<(p.2.2.length:Int)))
 (dU (α:=(List (List Su))×(List Su)×(List Su)×Su×(List Int)×(List Int))
 (dU (dX p.2.2 a.1) λx=>
 dU (α:=Int)
 (dU (Zg (σ:=Int) (ρ:=Unit ⊕ Int) (λs=>
 dV (decide (s<(a.2.2.2.2.2.2.length:Int)))
 (dU (dX a.2.2.2.2.2.2 s) λap=>
 dV (a.1==ap)
 (some (.inr (.inr s)))
 (dU (chk .i64 (s+(1:Int))) λaq=>
 some (.inl aq)))
 (some (.inr (.inl ()))))
         Zh (0:Int)) λar=>
        match ar with
|.inl aQ=>(some (-1:Int))
|.inr au=>(some au)) λu=>
 dV (decide ((0:Int)≤u))
 (dU (dX a.2.2.2.1 u) λav=>
 dU (o7 av x) λaw=>
 dU (dX a.2.2.2.1 u) λaR=>
 some (a.2.1,a.2.2.1,a.2.2.2.1.set u.toNat aw,a.2.2.2.2.1,a.2.2.2.2.2.1,a.2.2.2.2.2.2))
 (dU (α:=Int)
 (dU (Zg (σ:=Int) (ρ:=Unit ⊕ Int) (λv=>
 dV (decide (v<(a.2.2.2.2.2.1.length:Int)))
 (dU (dX a.2.2.2.2.2.1 v) λax=>
 dV (a.1==ax)
 (some (.inr (.inr v)))
 (dU (chk .i64 (v+(1:Int))) λay=>
 some (.inl ay)))
 (some (.inr (.inl ()))))
          Zh (0:Int)) λaz=>
         match az with
|.inl aS=>(some (-1:Int))
|.inr aA=>(some aA)) λG=>
 dU (dX a.2.2.1 G) λaB=>
 dU (jC x aB) λaC=>
 dU (o7 a.2.2.2.2.1 aC) λaD=>
 dU (dX a.2.1 G) λH=>
 dU (Zg (σ:=Int×(List Su)) (ρ:=List Su) (λe=>
 dV (decide (e.1<(H.length:Int)))
 (dU (dX H e.1) λaE=>
 dU (dX e.2 e.1) λaF=>
 dU (jC x aE) λaG=>
 dU (vo aF aG) λaH=>
 dU (dX e.2 e.1) λaT=>
 dU (chk .i64 (e.1+(1:Int))) λaI=>
 some (.inl (aI,e.2.set e.1.toNat aH)))
 (some (.inr e.2)))
         Zh ((0:Int),a.2.2.2.1)) λaJ=>
 some (a.2.1,a.2.2.1,aJ,aD,a.2.2.2.2.2.1,a.2.2.2.2.2.2))) λk=>
 dU (chk .i64 (a.1+(1:Int))) λaK=>
 some (.inl (aK,k.1,k.2.1,k.2.2.1,k.2.2.2.1,k.2.2.2.2.1,k.2.2.2.2.2)))
 (some (.inr (a.2.1,a.2.2.1,a.2.2.2.1,a.2.2.2.2.1,a.2.2.2.2.2.1,a.2.2.2.2.2.2))))
    Zh ((0:Int),al,h.2.1,an,ao,h.2.2.2.2.1,F)) λl=>
 some ((l.1,l.2.1,l.2.2.1,l.2.2.2.1,l.2.2.2.2.1,l.2.2.2.2.2),([]:List Su),true)))
set_option maxRecDepth 100000 in
theorem ZvE{m:Nat}{B:Nat→Su}(x:∀i,i<m→Zs (B i))(S:m≤1000):∃e:Int,Zg (σ:=Int×Int) (ρ:=Int) (λg=>
   dV (decide (g.2<((vx m B).length:Int)))
   (dU (dX (vx m B) g.2) λG=>
    dU (α:=Bool)
    (dU (nu G) λO=>
     dV (decide (O<(0:Int)))
     (dV (decide (g.1<(0:Int)))
      (some true)
      (dU (dX (vx m B) g.1) λP=>
       dU (oF G P) λQ=>
       some (decide (Q<(0:Int)))))
     (some false)) λA=>
    dU (α:=Int)
    (dV A
     (some g.2)
     (some g.1)) λC=>
    dU (chk .i64 (g.2+(1:Int))) λD=>
    some (.inl (C,D)))
   (some (.inr g.1)))
  Zh ((-1:Int),(0:Int))=some e∧(e= -1∧(∀i,i<m→¬B i<0)∨ ∃w:Nat,e=(w:Int)∧w<m∧B w<0∧∀i,i<m→B i<0→B w≤B i):=by
  suffices h:∃z,dU (Zg _ Zh ((-1:Int),(0:Int))) (λe=>some e)=some z∧(z= -1∧(∀i,i<m→¬B i<0)∨ ∃w:Nat,z=(w:Int)∧w<m∧B w<0∧∀i,i<m→B i<0→B w≤B i) by
    obtain⟨z,I,J⟩:=h;obtain⟨y,K,L⟩:=f9 I
    cases L
    exact⟨_,K,J⟩
  refine Ey (λk s=>∃e,s=(e,(k:Int))∧(e= -1∧(∀j,j<k→¬B j<0)∨ ∃w:Nat,e=(w:Int)∧w<k∧B w<0∧∀j,j<k→B j<0→B w≤B j)) (λe=>e= -1∧(∀i,i<m→¬B i<0)∨ ∃w:Nat,e=(w:Int)∧w<m∧B w<0∧∀i,i<m→B i<0→B w≤B i) m ⟨-1,rfl,.inl ⟨rfl,λj o=>by omega⟩⟩ (by omega) (λk s R n=>?_) (λe M=>⟨_,rfl,M⟩);obtain⟨e,rfl,n⟩:=n;by_cases l:k<m
  · left;simp only;rw[Zo,eo (by omega),Ze,Zw _ l,Za];obtain⟨q,es,F⟩:=xK (x k l);rw[es,Za];have gr:∀{X:Option Bool} {b:Bool} ,X=some b→(dU (α:=Bool) X λA=>dU (α:=Int) (dV A (some (k:Int)) (some e)) λC=>dU (chk .i64 ((k:Int)+(1:Int))) λD=>(some (.inl (C,D)):Option ((Int×Int) ⊕ Int)))=some (.inl (if b then(k:Int) else e,((k+1:Nat):Int))):=λ{X b} h=>by
      rw[h,Za]
      cases b
      · rw[Zf,Za,Zk (by omega) (by omega),Za];rfl
      · rw[Ze,Za,Zk (by omega) (by omega),Za];rfl
    by_cases hp:B k<0
    · rw[eo (F.lt.2 hp),Ze];rcases n with⟨rfl,u⟩ |⟨w,rfl,N,t,r⟩
      · refine⟨_,l,gr (b:=true) (by rfl),_,rfl,.inr ⟨k,rfl,by omega,hp,λj o f=>?_⟩⟩;by_cases c:j=k
        · rw[c];exact mz _
        · exact absurd f (u j (by omega))
      · obtain⟨d,H,E⟩:=uM (x k l) (x w (by omega));rw[eg (show¬(w:Int)<0 by omega),Zf,Zw _ (by omega),Za,H,Za];refine⟨_,l,gr rfl,_,rfl,.inr ?_⟩;by_cases p:B k<B w
        · rw[eo (E.lt.2 (ZB p)),iP rfl];refine⟨k,rfl,by omega,hp,λj o f=>?_⟩;by_cases c:j=k
          · rw[c];exact mz _
          · exact gK (D' p (r j (by omega) f))
        · rw[eg (λh=>p (ZB (E.lt.1 h))),iN (by decide)];refine⟨w,rfl,by omega,t,λj o f=>?_⟩;by_cases c:j=k
          · rw[c];exact pq.1 p
          · exact r j (by omega) f
    · rw[eg (λh=>hp (F.lt.1 h)),Zf];refine⟨_,l,gr rfl,_,rfl,?_⟩;rw[iN (by decide)];rcases n with⟨rfl,u⟩ |⟨w,rfl,N,t,r⟩
      · refine .inl ⟨rfl,λj o=>?_⟩;by_cases c:j=k
        · rw[c];exact hp
        · exact u j (by omega)
      · refine .inr ⟨w,rfl,by omega,t,λj o f=>?_⟩;by_cases c:j=k
        · rw[c]at f;exact absurd f hp
        · exact r j (by omega) f
  · right;have:k=m:=by omega
    subst this;exact⟨e,by simp only;rw[Zo,eg (by omega),Zf],n⟩
theorem YD{A:Gx Su}{B:Nat→Su}(r:c≤1000)(s:d≤1000):Zg (σ:=Int×(List (List Su))) (ρ:=List (List Su)) (λf=>
    dV (decide (f.1<((fg c d A).length:Int)))
    (dU (dX f.2 f.1) λm=>
     dU (iJ (-1:Int)) λn=>
     dU (ZE 152 (m++[n])) λ_=>
     dU (dX f.2 f.1) λt=>
     dU (jY f.1.toNat f.1.toNat) λ_=>
     dU (chk .i64 (f.1+(1:Int))) λq=>
     some (.inl (q,f.2.set f.1.toNat (m++[n]))))
    (some (.inr f.2)))
   Zh ((0:Int),fg c d A)=some (fg c (d+1) (fh c d A B).a):=by
  refine fL (λk=>((k:Int),vx c λi=>if i<k then vx (d+1) ((fh c d A B).a i) else vx d (A i))) c ?_ (by omega) (λk p=>?_) ?_
  · exact Prod.ext rfl (ZP λi h=>iN (by omega))
  · simp only;rw[jx,eo (by omega),Ze,Zw _ p,Za,iN (by omega),E9,Za];have e:vx d (A k)++[(-1:Su)]=vx (d+1) ((fh c d A B).a k):=by
      rw[←xC];refine congr (congrArg _ (ZP λj o=>?_)) (congrArg (λx=>[x]) ?_)
      · show A k j=if j<d then A k j else -1;rw[iP o]
      · show _=if d<d then A k d else -1;rw[iN (by omega)]
    rw[e,ii (by rw[Zo];omega),Za,Za,Ui,Za,Zk (by omega) (by omega),Za];simp only[tN];rw[io];refine congrArg (λx=>some (Sum.inl x)) (Prod.ext (by simp) (ZP λi h=>?_));by_cases g:i=k
    · rw[iP g,iP (by omega),g]
    · rw[iN g];by_cases l:i<k
      · rw[iP l,iP (by omega)]
      · rw[iN l,iN (by omega)]
  · simp only;rw[jx,eg (by omega),Zf];exact congrArg (λx=>some (Sum.inr x)) (ZP λi h=>iP h)
theorem ZqE{M:Gx Su}(s:c≤1000)(t:d≤1000)(m:l<d+1):Zg (σ:=Int×(List (List Su))) (ρ:=List (List Su)) (λe=>
     dV (decide (e.1<((fg c (d+1) M).length:Int)))
     (dU (dX e.2 e.1) λo=>
      dU (chk .i64 ((l:Int)+(1:Int))) λp=>
      dU (kn o (l:Int) p) λq=>
      dU (dX e.2 e.1) λu=>
      dU (jY e.1.toNat e.1.toNat) λ_=>
      dU (chk .i64 (e.1+(1:Int))) λr=>
      some (.inl (r,e.2.set e.1.toNat q)))
     (some (.inr e.2)))
    Zh ((0:Int),fg c (d+1) M)=some (fg c d λi k=>M i (sk l k)):=by
  refine fL (λk=>((k:Int),vx c λi=>if i<k then vx d (λj=>M i (sk l j)) else vx (d+1) (M i))) c ?_ (by omega) (λk n=>?_) ?_
  · exact Prod.ext rfl (ZP λi g=>iN (by omega))
  · simp only;rw[jx,eo (by omega),Ze,Zw _ n,Za,iN (by omega),Zk (by omega) (by omega),Za];have:=NX (M k) m;rw[show(l:Int)+1=((l+1:Nat):Int) by omega,this,Za,Za,Ui,Za,Zk (by omega) (by omega),Za];simp only[tN];rw[io];refine congrArg (λx=>some (Sum.inl x)) (Prod.ext (by simp) (ZP λi g=>?_));by_cases f:i=k
    · rw[iP f,iP (by omega),f]
    · rw[iN f];by_cases h:i<k
      · rw[iP h,iP (by omega)]
      · rw[iN h,iN (by omega)]
  · simp only;rw[jx,eg (by omega),Zf];exact congrArg (λx=>some (Sum.inr x)) (ZP λi g=>iP g)
def iW(m:Nat)(C:Nat→Su)(D:Gt Su)(k:Nat):Gt Su:={ D with z:=λf=>gs k (λj=>C j*iE m D j f),v:=gs k (λj=>C j*ZZ m D j) }
def Ov(k n:Nat)(f:Nat→Su)(D:Su):Prop:=D≠0∧eI k D∧∀j,j<n→eI k (f j*D)
theorem Ov.zs(h:Ov c d j p)(f:c≤24900)(e:l<d):Zs (j l):=jG h.1 (h.2.2 l e) h.2.1 f
theorem SV{k:Nat}(h:∀c,c<d→eI k (j c)):eI (k+d) (gs d j):=by
 induction d with
 |zero=>exact eI.zero.mono (by omega)
 |succ d e=>exact(e λc f=>h c (by omega)).add ((h d (by omega)).mono (by omega))
theorem Ov.dot(h:Ov c l j p)(f:Ov d l t N)(k:L≤l)(g:c+d+4+l≤24900):Zs (gs L λe=>j e*t e):=by
 refine jG (k:=c+d+4+l) (nG h.1 f.1) ?_ ((h.2.1.mul f.2.1).mono (by omega)) g;rw[show(gs L λe=>j e*t e)*(p*N)=p*N*gs L λe=>j e*t e from Cring.mul_comm _ _,←xV];refine(SV (k:=c+d+4) λe i=>?_).mono (by omega);rw[show p*N*(j e*t e)=j e*p*(t e*N) from rg];exact(h.2.2 e (by omega)).mul (f.2.2 e (by omega))
theorem Ov.mul(h:Ov c l j p)(e:Ov d l t N)(f:L<l)(g:c+d+4≤24900):Zs (j L*t L):=by
 refine jG (k:=c+d+4) (nG h.1 e.1) ?_ (h.2.1.mul e.2.1) g;rw[show j L*t L*(p*N)=j L*p*(t L*N) from rg];exact(h.2.2 L f).mul (e.2.2 L f)
theorem yE{N:Nat}(h:x.arr c d N)(n:eI L p)(m:∀i k,i<c→k<d→eI L (x.a i k*p)){f:Nat}(s:S<N)(l:f<d):eI L (iE c x S f*p):=by
 unfold iE;rcases h.cov S s with⟨i,g,rfl⟩ |⟨k,q,rfl⟩
 ·rw[iN λe=>h.d i f g l e.symm,ie g λj o r=>iN λe=>r (h.bi j i o g e),iP rfl];rw[show(0-x.a i f)*p= -(x.a i f*p) from rg];exact(m i f g l).neg
 ·rw[ga (f:=λi=>if x.bs i=x.fr k then x.a i f else 0) λi g=>iN (h.d i k g q)];split
  ·rw[show(1-0)*p=p from rg];exact n
  ·rw[show((0:Su)-0)*p=0 from rg];exact eI.zero.mono (by omega)
theorem TA{T:Gt Su}{N:Nat}(h:T.arr c l N)(f:∀i,i<c→eI d (T.b i*p))(j:S<N):eI d (ZZ c T S*p):=by
 rcases h.cov S j with⟨i,e,rfl⟩ |⟨q,g,rfl⟩
 ·rw[Bu h e];exact f i e
 ·rw[qk h g,vK];exact eI.zero.mono (by omega)
set_option maxRecDepth 100000 in
theorem s9{C:Nat→Su}{D:Gt Su}{K W:Nat}{d0:Su}(h:D.arr c d (d+c))(u:Ov K d C d0)(I:N≠0)(E:eI W N)(R:∀i k,i<c→k<d→eI W (D.a i k*N))(S:∀i,i<c→eI W (D.b i*N))(hm:c≤1000)(hn:d≤1000)(hS:K+W+4+d≤24900):
   Zg (σ:=Int×((List (List Su))×(List Su)×(List Su)×Su×(List Int)×(List Int))) (ρ:=(List (List Su))×(List Su)×(List Su)×Su×(List Int)×(List Int)) (λg=>
     dV (decide (g.1<((vx d C).length:Int)))
     (dU (α:=(List (List Su))×(List Su)×(List Su)×Su×(List Int)×(List Int))
      (dU (dX (vx d C) g.1) λP=>
       dU (α:=Int)
       (dU (Zg (σ:=Int) (ρ:=Unit ⊕ Int) (λn=>
          dV (decide (n<(g.2.2.2.2.2.2.length:Int)))
          (dU (dX g.2.2.2.2.2.2 n) λF=>
           dV (g.1==F)
           (some (.inr (.inr n)))
           (dU (chk .i64 (n+(1:Int))) λG=>
            some (.inl G)))
          (some (.inr (.inl ()))))
         Zh (0:Int)) λa4=>
        match a4 with
        |.inl al=>(some (-1:Int))
        |.inr a2=>(some a2)) λM=>
       dV (decide ((0:Int)≤M))
       (dU (dX g.2.2.2.1 M) λa7=>
        dU (o7 a7 P) λa8=>
        dU (dX g.2.2.2.1 M) λan=>
        some (g.2.1,g.2.2.1,g.2.2.2.1.set M.toNat a8,g.2.2.2.2.1,g.2.2.2.2.2.1,g.2.2.2.2.2.2))
       (dU (α:=Int)
        (dU (Zg (σ:=Int) (ρ:=Unit ⊕ Int) (λL=>
           dV (decide (L<(g.2.2.2.2.2.1.length:Int)))
           (dU (dX g.2.2.2.2.2.1 L) λa9=>
            dV (g.1==a9)
            (some (.inr (.inr L)))
            (dU (chk .i64 (L+(1:Int))) λaa=>
             some (.inl aa)))
           (some (.inr (.inl ()))))
          Zh (0:Int)) λa5=>
         match a5 with
         |.inl am=>(some (-1:Int))
         |.inr a3=>(some a3)) λX=>
        dU (dX g.2.2.1 X) λab=>
        dU (jC P ab) λad=>
        dU (o7 g.2.2.2.2.1 ad) λae=>
        dU (dX g.2.1 X) λY=>
        dU (Zg (σ:=Int×(List Su)) (ρ:=List Su) (λp=>
          dV (decide (p.1<(Y.length:Int)))
          (dU (dX Y p.1) λaf=>
           dU (dX p.2 p.1) λag=>
           dU (jC P af) λah=>
           dU (vo ag ah) λai=>
           dU (dX p.2 p.1) λao=>
           dU (chk .i64 (p.1+(1:Int))) λaj=>
           some (.inl (aj,p.2.set p.1.toNat ai)))
          (some (.inr p.2)))
         Zh ((0:Int),g.2.2.2.1)) λa6=>
        some (g.2.1,g.2.2.1,a6,ae,g.2.2.2.2.2.1,g.2.2.2.2.2.2))) λA=>
      dU (chk .i64 (g.1+(1:Int))) λak=>
      some (.inl (ak,A.1,A.2.1,A.2.2.1,A.2.2.2.1,A.2.2.2.2.1,A.2.2.2.2.2)))
     (some (.inr (g.2.1,g.2.2.1,g.2.2.2.1,g.2.2.2.2.1,g.2.2.2.2.2.1,g.2.2.2.2.2.2))))
    Zh ((0:Int),eT c d (iW c C D 0))=some (eT c d (iW c C D d)):=by
  have U:∀f,f<d→Ov W d (λj=>iE c D j f) N:=λf l=>⟨I,E,λj O=>yE h E R (by omega) l⟩;have ov:Ov W d (ZZ c D) N:=⟨I,E,λj O=>TA h S (by omega)⟩;have zS:∀k f,k≤d→f<d→Zs ((iW c C D k).z f):=λk f s l=>u.dot (U f l) s (by omega);have vS:∀k,k≤d→Zs ((iW c C D k).v):=λk s=>u.dot ov s (by omega);refine fL (λk=>((k:Int),eT c d (iW c C D k))) d rfl (by omega) (λk s=>?_) ?_
  · show dV (decide ((k:Int)<((vx d C).length:Int))) _ _=_;rw[Zo,eo (by omega),Ze];refine Zu (y:=eT c d (iW c C D (k+1))) ?_ (by rw[Zk (by omega) (by omega),Za];rfl);rw[Zw _ s,Za];obtain⟨e,g1,q⟩:=Bd (body:=λn=>
          dV (decide (n<((vx d λf=>(D.fr f:Int)).length:Int)))
          (dU (dX (vx d λf=>(D.fr f:Int)) n) λF=>
           dV ((k:Int)==F)
           (some (.inr (.inr n)))
           (dU (chk .i64 (n+(1:Int))) λG=>
            some (.inl G)))
          (some (.inr (.inl ())))) d hn (λf=>D.fr f=k) (λf l=>by
            rw[Zo,eo (by omega),Ze,Zw _ l,Za];by_cases e:D.fr f=k
            · exact .inl ⟨e,by rw[show((k:Int)==(D.fr f:Int))=true by simp[e],Ze]⟩
            · exact .inr ⟨e,by rw[show((k:Int)==(D.fr f:Int))=false by simp;omega,Zf,Zk (by omega) (by omega),Za];rfl⟩) (by rw[Zo,eg (by omega),Zf])
    refine Zu g1 ?_;rcases q with⟨rfl,q⟩ |⟨f,l,rfl,q⟩
    · rw[show(decide ((0:Int)≤-1))=false from rfl,Zf];obtain⟨r,hr,a1⟩:∃r,r<c∧D.bs r=k:=by
        rcases h.cov k (by omega) with h1 |⟨f,l,e⟩
        · exact h1
        · exact absurd e (q f l)
      obtain⟨e,g3,w⟩:=Bd (body:=λn=>
          dV (decide (n<((vx c λf=>(D.bs f:Int)).length:Int)))
          (dU (dX (vx c λf=>(D.bs f:Int)) n) λF=>
           dV ((k:Int)==F)
           (some (.inr (.inr n)))
           (dU (chk .i64 (n+(1:Int))) λG=>
            some (.inl G)))
          (some (.inr (.inl ())))) c hm (λf=>D.bs f=k) (λf l=>by
            rw[Zo,eo (by omega),Ze,Zw _ l,Za];by_cases e:D.bs f=k
            · exact .inl ⟨e,by rw[show((k:Int)==(D.bs f:Int))=true by simp[e],Ze]⟩
            · exact .inr ⟨e,by rw[show((k:Int)==(D.bs f:Int))=false by simp;omega,Zf,Zk (by omega) (by omega),Za];rfl⟩) (by rw[Zo,eg (by omega),Zf])
      refine Zu g3 ?_;rcases w with⟨_,w⟩ |⟨o,t,rfl,w⟩
      · exact absurd a1 (w r hr)
      · have Z:=u.zs (by omega) s;have H:∀f,f<d→iE c D k f= - D.a o f:=λf l=>by
          unfold iE;rw[iN (q f l),←w,ie t λj O a0=>iN λe=>a0 (h.bi j o O t e),iP rfl];exact rg
        have J:ZZ c D k=D.b o:=by rw[←w];exact Bu h t
        refine Zu (Zw _ t) ?_;have pv:=u.mul ov s (by omega);rw[J]at pv;refine Zu (mE Z (jG I (S o t) E (by omega))) ?_;refine Zu (ow (vS k (by omega)) pv) ?_;refine Zu (je _ t) ?_;refine Zu (y:=vx d (iW c C D (k+1)).z) (fL (λf=>((f:Int),vx d λm=>if m<f then(iW c C D (k+1)).z m else(iW c C D k).z m)) d ?_ (by omega) (λf l=>?_) ?_) ?_
        · exact Prod.ext rfl (ZP λm _=>iN (by omega))
        · simp only;rw[Zo,eo (by omega),Ze,Zw _ l,Za,Zw _ l,Za,iN (by omega)];rw[show(iW c C D k).a o f=D.a o f from rfl,mE Z (jG I (R o f t l) E (by omega)),Za,uO (zS k f (by omega) l) (by
            have:=u.mul (U f l) s (by omega);rw[H f l]at this;have:=this.neg;rw[show(C k * -D.a o f).neg=C k*D.a o f from(rg:-(C k * -D.a o f)=C k*D.a o f)]at this;exact this),Za,Za,Zk (by omega) (by omega),Za]
          simp only[tN];rw[io];refine congrArg (λx=>some (Sum.inl x)) (Prod.ext (by simp) (ZP λm y=>?_));by_cases B:m=f
          · rw[iP B,iP (by omega),B];show _=(iW c C D k).z f+C k*iE c D k f;rw[H f l];exact rg
          · rw[iN B];by_cases Q:m<f
            · rw[iP Q,iP (by omega)]
            · rw[iN Q,iN (by omega)]
        · simp only;rw[Zo,eg (by omega),Zf];exact congrArg (λx=>some (Sum.inr x)) (ZP λm y=>iP y)
        refine congrArg some (Prod.ext rfl (Prod.ext rfl (Prod.ext rfl (Prod.ext ?_ rfl))));show(iW c C D k).v+C k*D.b o=(iW c C D k).v+C k*ZZ c D k;rw[J]
    · rw[eo (show(0:Int)≤(f:Int) by omega),Ze];have H:∀m,m<d→iE c D k m=if m=f then 1 else 0:=λm y=>by
        unfold iE;rw[ga (f:=λi=>if D.bs i=k then D.a i m else 0) λi hi=>iN (by rw[←q];exact h.d i f hi l)];by_cases e:m=f
        · rw[e,iP q,iP rfl];exact rg
        · rw[iN λB=>e (h.fi m f y l (B.trans q.symm)),iN e];exact rg
      have J:ZZ c D k=0:=by rw[←q];exact qk h l
      refine Zu (Zw _ l) ?_;refine Zu (ow (zS k f (by omega) l) (u.zs (by omega) s)) ?_;refine Zu (Zw _ l) ?_;simp only[tN];refine congrArg some (Prod.ext rfl (Prod.ext rfl (Prod.ext ?_ (Prod.ext ?_ rfl))))
      · show(vx d (iW c C D k).z).set f ((iW c C D k).z f+C k)=vx d (iW c C D (k+1)).z;rw[io];refine ZP λm y=>?_;show _=(iW c C D k).z m+C k*iE c D k m;rw[H m y];by_cases e:m=f
        · rw[iP e,iP e,e];exact rg
        · rw[iN e,iN e];exact rg
      · show(iW c C D k).v=(iW c C D k).v+C k*ZZ c D k;rw[J];exact rg
  · show dV (decide ((d:Int)<((vx d C).length:Int))) _ _=_;rw[Zo,eg (by omega),Zf]
noncomputable def vD(x:Rat):Option (Rat×Rat×Rat×Rat) :=
 dU (fU (0:Int)) λa=>
 dU (fU (0:Int)) λb=>
 dU (fU (0:Int)) λc=>
 some (x,a,b,c)
noncomputable def DD(x:Rat×Rat×Rat×Rat)(y:Rat×Rat×Rat×Rat):Option (Rat×Rat×Rat×Rat) :=
 dU (fU (0:Int)) λb=>
 dU (vD b) λa=>
 dU (ZV x.1 y.1) λc=>
 dU (Z2 a.1 c) λd=>
 dU (ZV x.1 y.2.1) λe=>
 dU (Z2 a.2.1 e) λf=>
 dU (ZV x.1 y.2.2.1) λg=>
 dU (Z2 a.2.2.1 g) λh=>
 dU (ZV x.1 y.2.2.2) λi=>
 dU (Z2 a.2.2.2 i) λj=>
 dU (ZV x.2.1 y.1) λk=>
 dU (Z2 f k) λl=>
 dU (ZV x.2.1 y.2.1) λm=>
 dU (fU (2:Int)) λn=>
 dU (ZV m n) λo=>
 dU (Z2 d o) λp=>
 dU (ZV x.2.1 y.2.2.1) λq=>
 dU (Z2 j q) λr=>
 dU (ZV x.2.1 y.2.2.2) λs=>
 dU (fU (2:Int)) λt=>
 dU (ZV s t) λu=>
 dU (Z2 h u) λv=>
 dU (ZV x.2.2.1 y.1) λw=>
 dU (Z2 v w) λz=>
 dU (ZV x.2.2.1 y.2.1) λA=>
 dU (Z2 r A) λB=>
 dU (ZV x.2.2.1 y.2.2.1) λC=>
 dU (fU (3:Int)) λD=>
 dU (ZV C D) λE=>
 dU (Z2 p E) λF=>
 dU (ZV x.2.2.1 y.2.2.2) λG=>
 dU (fU (3:Int)) λH=>
 dU (ZV G H) λI=>
 dU (Z2 l I) λJ=>
 dU (ZV x.2.2.2 y.1) λK=>
 dU (Z2 B K) λL=>
 dU (ZV x.2.2.2 y.2.1) λM=>
 dU (fU (2:Int)) λN=>
 dU (ZV M N) λO=>
 dU (Z2 z O) λP=>
 dU (ZV x.2.2.2 y.2.2.1) λQ=>
 dU (fU (3:Int)) λR=>
 dU (ZV Q R) λS=>
 dU (Z2 J S) λT=>
 dU (ZV x.2.2.2 y.2.2.2) λU=>
 dU (fU (2:Int)) λV=>
 dU (ZV U V) λW=>
 dU (fU (3:Int)) λX=>
 dU (ZV W X) λY=>
 dU (Z2 F Y) λZ=>
 some (Z,T,P,L)
noncomputable def mB(a:List (Rat×Rat×Rat×Rat))(b:List (Rat×Rat×Rat×Rat)):Option (Rat×Rat×Rat×Rat) :=
 dU (fU (0:Int)) λd=>
 dU (vD d) λe=>
 dU (Zg (σ:=Int×(Rat×Rat×Rat×Rat)) (ρ:=Rat×Rat×Rat×Rat) (λc=>
 dV (decide (c.1<(a.length:Int)))
 (dU (dX a c.1) λf=>
 dU (dX b c.1) λg=>
 dU (DD f g) λh=>
 dU (Cy c.2 h) λi=>
 dU (chk .i64 (c.1+(1:Int))) λj=>
 some (.inl (j,i)))
 (some (.inr c.2)))
  Zh ((0:Int),e)) λk=>
 some k
noncomputable def C6(a:List (List (Rat×Rat×Rat×Rat)))(k:Int):Option (List (Rat×Rat×Rat×Rat)) :=
 dU (Zg (σ:=(List (Rat×Rat×Rat×Rat))×Int) (ρ:=List (Rat×Rat×Rat×Rat)) (λb=>
 dV (decide (b.2<(a.length:Int)))
 (dU (dX a b.2) λd=>
 dU (dX d k) λc=>
 dU (ZE 224 (b.1++[c])) λ_=>
 dU (chk .i64 (b.2+(1:Int))) λe=>
 some (.inl (b.1++[c],e)))
 (some (.inr b.1)))
  Zh (([]:List (Rat×Rat×Rat×Rat)),(0:Int))) λf=>
 some f
noncomputable def vO(l:List (Rat×Rat×Rat×Rat)):Option Bool :=
 dU (Zg (σ:=Int) (ρ:=Unit ⊕ Bool) (λa=>
 dV (decide (a<(l.length:Int)))
 (dU (dX l a) λb=>
 dU (pD b) λc=>
 dV (decide (c<(0:Int)))
 (some (.inr (.inr false)))
 (dU (chk .i64 (a+(1:Int))) λd=>
 some (.inl d)))
 (some (.inr (.inl ()))))
  Zh (0:Int)) λe=>
 match e with
|.inl g=>(some true)
|.inr f=>(some f)
noncomputable def DS(p:(List (List (Rat×Rat×Rat×Rat)))×(List (Rat×Rat×Rat×Rat))×(List (Rat×Rat×Rat×Rat)))(x:List (Rat×Rat×Rat×Rat)):Option Bool :=
 dU (Zg (σ:=Int) (ρ:=Unit ⊕ Bool) (λa=>
 dV (decide (a<(p.1.length:Int)))
 (dU (dX p.1 a) λb=>
 dU (mB b x) λc=>
 dU (dX p.2.1 a) λd=>
 dU (Ec c d) λe=>
 dV (decide ((0:Int)<e))
 (some (.inr (.inr false)))
 (dU (chk .i64 (a+(1:Int))) λf=>
 some (.inl f)))
 (some (.inr (.inl ()))))
  Zh (0:Int)) λg=>
 match g with
|.inl j=>(dU (vO x) λh=>
 some h)
|.inr i=>(some i)
noncomputable def HA(p:(List (List (Rat×Rat×Rat×Rat)))×(List (Rat×Rat×Rat×Rat))×(List (Rat×Rat×Rat×Rat)))(y:List (Rat×Rat×Rat×Rat)):Option Bool :=
 dU (α:=Bool)
 (dV ((y.length:Int) != (p.2.1.length:Int))
 (some true)
 (dU (vO y) λb=>
 some (!b))) λc=>
 dV c
 (some false)
 (dU (Zg (σ:=Int) (ρ:=Unit ⊕ Bool) (λa=>
 dV (decide (a<(p.2.2.length:Int)))
 (dU (C6 p.1 a) λd=>
 dU (mB d y) λe=>
 dU (dX p.2.2 a) λf=>
 dU (Ec e f) λg=>
 dV (decide (g<(0:Int)))
 (some (.inr (.inr false)))
 (dU (chk .i64 (a+(1:Int))) λh=>
 some (.inl h)))
 (some (.inr (.inl ()))))
   Zh (0:Int)) λi=>
  match i with
|.inl k=>(some true)
|.inr j=>(some j))
noncomputable def Bt(p:(List (List (Rat×Rat×Rat×Rat)))×(List (Rat×Rat×Rat×Rat))×(List (Rat×Rat×Rat×Rat))):Option Bool :=
 dU (α:=Bool)
 (dV ((p.1.length:Int) != (p.2.1.length:Int))
 (some true)
 (dV (decide ((12:Int)<(p.2.1.length:Int)))
 (some true)
 (some (decide ((48:Int)<(p.2.2.length:Int)))))) λb=>
 dV b
 (some false)
 (dU (Zg (σ:=Int) (ρ:=Unit ⊕ Bool) (λa=>
 dV (decide (a<(p.1.length:Int)))
 (dU (dX p.1 a) λc=>
 dV ((c.length:Int) != (p.2.2.length:Int))
 (some (.inr (.inr false)))
 (dU (chk .i64 (a+(1:Int))) λd=>
 some (.inl d)))
 (some (.inr (.inl ()))))
   Zh (0:Int)) λe=>
  match e with
|.inl g=>(some true)
|.inr f=>(some f))
noncomputable def FP(p:(List (List (Rat×Rat×Rat×Rat)))×(List (Rat×Rat×Rat×Rat))×(List (Rat×Rat×Rat×Rat)))(a:Int×(Rat×Rat×Rat×Rat)×(List (Rat×Rat×Rat×Rat))×(List (Rat×Rat×Rat×Rat))×(List (Rat×Rat×Rat×Rat))):Option Bool :=
 dU (Bt p) λd=>
 dV (!d)
 (some false)
 (dV (a.1==(1:Int))
 (dU (α:=Bool)
 (dV ((a.2.2.2.2.length:Int)==(0:Int))
 (dV ((a.2.2.1.length:Int)==(p.2.2.length:Int))
 (dU (DS p a.2.2.1) λe=>
 dV e
 (dU (HA p a.2.2.2.1) λf=>
 dV f
 (dU (mB p.2.2 a.2.2.1) λg=>
 dU (Eg a.2.1 g) λh=>
 dV h
 (dU (mB p.2.1 a.2.2.2.1) λi=>
 dU (Eg a.2.1 i) λj=>
 some j)
 (some false))
 (some false))
 (some false))
 (some false))
 (some false)) λk=>
 some k)
 (dU (vu a.2.1) λl=>
 dV (!l)
 (some false)
 (dV (a.1==(2:Int))
 (dU (α:=Bool)
 (dV (decide ((0:Int)<(a.2.2.1.length:Int)))
 (some true)
 (dV (decide ((0:Int)<(a.2.2.2.2.length:Int)))
 (some true)
 (dV ((a.2.2.2.1.length:Int) != (p.2.1.length:Int))
 (some true)
 (dU (vO a.2.2.2.1) λm=>
 dV (!m)
 (some true)
 (dU (mB p.2.1 a.2.2.2.1) λn=>
 dU (pD n) λo=>
 some (decide ((0:Int)≤o))))))) λq=>
 dV q
 (some false)
 (dU (Zg (σ:=Int) (ρ:=Unit ⊕ Bool) (λb=>
 dV (decide (b<(p.2.2.length:Int)))
 (dU (C6 p.1 b) λr=>
 dU (mB r a.2.2.2.1) λs=>
 dU (pD s) λt=>
 dV (decide (t<(0:Int)))
 (some (.inr (.inr false)))
 (dU (chk .i64 (b+(1:Int))) λu=>
 some (.inl u)))
 (some (.inr (.inl ()))))
       Zh (0:Int)) λv=>
      match v with
|.inl I=>(some true)
|.inr w=>(some w)))
 (dU (α:=Bool)
 (dV (a.1 != (3:Int))
 (some true)
 (dV (decide ((0:Int)<(a.2.2.2.1.length:Int)))
 (some true)
 (dV ((a.2.2.1.length:Int) != (p.2.2.length:Int))
 (some true)
 (dV ((a.2.2.2.2.length:Int) != (p.2.2.length:Int))
 (some true)
 (dU (DS p a.2.2.1) λx=>
 dV (!x)
 (some true)
 (dU (vO a.2.2.2.2) λy=>
 some (!y))))))) λz=>
 dV z
 (some false)
 (dU (Zg (σ:=Int) (ρ:=Unit ⊕ Bool) (λc=>
 dV (decide (c<(p.1.length:Int)))
 (dU (dX p.1 c) λA=>
 dU (mB A a.2.2.2.2) λB=>
 dU (pD B) λC=>
 dV (decide ((0:Int)<C))
 (some (.inr (.inr false)))
 (dU (chk .i64 (c+(1:Int))) λD=>
 some (.inl D)))
 (some (.inr (.inl ()))))
       Zh (0:Int)) λE=>
      match E with
|.inl J=>(dU (mB p.2.2 a.2.2.2.2) λF=>
 dU (pD F) λG=>
 some (decide ((0:Int)<G)))
|.inr H=>(some H))))))
theorem Ai(hx:sz c p.p∧sz c p.q∧sz c p.r∧sz c p.s)(hy:sz c N.p∧sz c N.q∧sz c N.r∧sz c N.s)(hK:c≤10000000):DD (ts p) (ts N)=some (ts (p*N)):=by
 obtain⟨q,g,i,e⟩:=hx;obtain⟨r,j,l,f⟩:=hy;have m:sz 2 (((2:Int):Int):Rat):=by constructor <;> decide +kernel
 have o:sz 2 (((3:Int):Int):Rat):=by constructor <;> decide +kernel
 have M:∀{a b:Rat},sz c a→sz c b→ZV a b=some (a*b):=λh k=>Dq h k (by omega);have s:∀{a b:Rat},sz (2*c+2) a→sz 2 b→ZV a b=some (a*b):=λh k=>Dq h k (by omega);have P:∀{a b:Rat},sz c a→sz c b→sz (2*c+2) (a*b):=λh k=>(DU h k).mono (by omega);have n:∀{a b:Rat},sz (2*c+2) a→sz 2 b→sz (2*c+4) (a*b):=λh k=>(DU h k).mono (by omega);have w:∀{a b:Rat},sz (2*c+4) a→sz 2 b→sz (2*c+6) (a*b):=λh k=>(DU h k).mono (by omega);have A:∀{t:Nat} {a b:Rat},t≤4→sz (t*(2*c+9)+1) a→sz (2*c+6) b→Z2 a b=some (a+b)∧sz ((t+1)*(2*c+9)+1) (a+b):=λ{t a b} ht h k=>by
  have h9:t*(2*c+9)≤4*(2*c+9):=mR _ ht;exact⟨l8 h k (by omega),(qS h k).mono (by rw[show(t+1)*(2*c+9)=t*(2*c+9)+(2*c+9) from Nat.succ_mul _ _];omega)⟩
 have d:∀{k:Nat} {a:Rat},k≤2*c+6→sz k a→sz (2*c+6) a:=λh k=>k.mono h;have u:sz (0*(2*c+9)+1) (((0:Int):Int):Rat):=by constructor <;> (rw[Nat.zero_mul];decide)
 obtain⟨x,I⟩:=A (by omega) u (d (by omega) (P q r));obtain⟨y,J⟩:=A (by omega) u (d (by omega) (P q j));obtain⟨B,K⟩:=A (by omega) u (d (by omega) (P q l));obtain⟨C,L⟩:=A (by omega) u (d (by omega) (P q f));obtain⟨D,O⟩:=A (by omega) J (d (by omega) (P g r));obtain⟨E,Q⟩:=A (by omega) I (d (by omega) (n (P g j) m));obtain⟨F,R⟩:=A (by omega) L (d (by omega) (P g l));obtain⟨G,S⟩:=A (by omega) K (d (by omega) (n (P g f) m));obtain⟨H,U⟩:=A (by omega) S (d (by omega) (P i r));obtain⟨W,d1⟩:=A (by omega) R (d (by omega) (P i j));obtain⟨X,d2⟩:=A (by omega) Q (d (by omega) (n (P i l) o));obtain⟨Y,d3⟩:=A (by omega) O (d (by omega) (n (P i f) o));obtain⟨Z,d4⟩:=A (by omega) d1 (d (by omega) (P e r));obtain⟨c5,d5⟩:=A (by omega) U (d (by omega) (n (P e j) m));obtain⟨c6,d6⟩:=A (by omega) d3 (d (by omega) (n (P e l) o));obtain⟨c7,d7⟩:=A (by omega) d2 (w (n (P e f) m) o);unfold DD fU vD ts;simp only[fU,Za];rw[M q r,Za,x,Za,M q j,Za,y,Za,M q l,Za,B,Za,M q f,Za,C,Za,M g r,Za,D,Za,M g j,Za,s (P g j) m,Za,E,Za,M g l,Za,F,Za,M g f,Za,s (P g f) m,Za,G,Za,M i r,Za,H,Za,M i j,Za,W,Za,M i l,Za,s (P i l) o,Za,X,Za,M i f,Za,s (P i f) o,Za,Y,Za,M e r,Za,Z,Za,M e j,Za,s (P e j) m,Za,c5,Za,M e l,Za,s (P e l) o,Za,c6,Za,M e f,Za,s (P e f) m,Za,Dq (n (P e f) m) o (by omega),Za,c7,Za]
 have e2:(((2:Int):Int):Rat)=2:=rfl;have e3:(((3:Int):Int):Rat)=3:=rfl;have e0:(((0:Int):Int):Rat)=0:=rfl;rw[e2,e3,e0];refine congrArg some (Prod.ext ?_ (Prod.ext ?_ (Prod.ext ?_ ?_)))
 ·show _=p.p*N.p+2*(p.q*N.q)+3*(p.r*N.r)+6*(p.s*N.s);grind
 ·show _=p.p*N.q+p.q*N.p+3*(p.r*N.s+p.s*N.r);grind
 ·show _=p.p*N.r+p.r*N.p+2*(p.q*N.s+p.s*N.q);grind
 ·show _=p.p*N.s+p.s*N.p+p.q*N.r+p.r*N.q;grind
theorem Zs.S4(h:Zs p):sz fZ p.p∧sz fZ p.q∧sz fZ p.r∧sz fZ p.s:=h.part.1
theorem uk(h:Zs p)(k:Zs N):DD (ts p) (ts N)=some (ts (p*N)):=Ai h.S4 k.S4 (by decide)
theorem Td(h:Zs p)(k:Zs N):Cy (ts p) (ts N)=some (ts (p+N)):=by
 obtain⟨d,e,f,g⟩:=h.S4;obtain⟨i,j,l,m⟩:=k.S4;have c:fZ+fZ≤1000000000:=by decide
 unfold Cy ts;rw[l8 d i c,Za,l8 e j c,Za,l8 f l c,Za,l8 g m c,Za];rfl
theorem Rm(h:Zs p)(k:Zs N):w9 (ts p) (ts N)=some (ts (p-N)):=by
 obtain⟨d,f,g,i⟩:=k.S4;have c:∀{a:Rat},sz fZ a→qR a=some (-a):=λ{a} h=>by unfold qR;rw[iP (h.ok (by decide))]
 have e:Gc (ts N)=some (ts (-N)):=by
  unfold Gc ts;rw[c d,Za,c f,Za,c g,Za,c i,Za];rfl
 unfold w9;rw[e,Za,Td h (show Zs (-N) from k.neg),Za];exact congrArg (λz=>some (ts z)) (rg:p+-N=p-N)
theorem NO(h:Zs p)(k:Zs N)(d:Zs (p-N)):∃s:Int,Ec (ts p) (ts N)=some s∧SGN s (p-N):=by
 obtain⟨s,e,hs⟩:=Bz d;exact⟨s,by unfold Ec;rw[Rm h k,Za,e,Za],hs⟩
theorem QR(h:Zs p)(k:Zs N)(e:p=N):Eg (ts p) (ts N)=some true:=by
 obtain⟨b,c,d⟩:=Iq (p-N);unfold Eg;rw[Rm h k,Za,c,Za,d.2 (by rw[e];exact rg)]
def tv(n:Nat)(f:Nat→Su):List (Rat×Rat×Rat×Rat):=vx n λi=>ts (f i)
theorem kU(n:Nat)(f:Nat→Su):(tv n f).length=n:=Zo _ _
theorem BV(f:Nat→Su)(h:d<c):dX (tv c f) (d:Int)=some (ts (f d)):=Zw _ h
def uJ(m n:Nat)(A:Gx Su):List (List (Rat×Rat×Rat×Rat)):=vx m λi=>tv n (A i)
theorem vH(m n:Nat)(A:Gx Su):(uJ m n A).length=m:=Zo _ _
theorem Ka(A:Gx Su)(h:l<c):dX (uJ c d A) (l:Int)=some (tv d (A l)):=Zw _ h
theorem ve{N:Nat}{E:Su}(g:Ov c l j p)(h:Ov d l t E)(m:l≤1000)(k:l≤N)(i:c+d+4+l≤24900):mB (tv l j) (tv N t)=some (ts (gs l λe=>j e*t e)):=by
 unfold mB fU vD;rw[Za];refine Zu (y:=ts 0) (by simp only[fU,Za];rfl) ?_;refine Zu (fL (λq=>((q:Int),ts (gs q λe=>j e*t e))) l rfl (by omega) (λq f=>?_) ?_) rfl
 ·simp only[kU];rw[eo (by omega),Ze,BV _ f,Za,BV _ (by omega),Za,uk (g.zs (by omega) f) (h.zs (by omega) f),Za,Td (g.dot h (by omega) i) (g.mul h f (by omega)),Za,Zk (by omega) (by omega),Za];rfl
 ·simp only[kU];rw[eg (by omega),Zf]
theorem ZrE(f:∀k,k<c→Zs (j k))(h:∀k,k<c→0≤j k)(g:c≤1000):vO (tv c j)=some true:=by
 unfold vO;refine Zu (y:=.inl ()) (fL (λk=>(k:Int)) c rfl (by omega) (λk d=>?_) ?_) rfl
 ·obtain⟨s,es,hs⟩:=Bz (f k d);rw[kU,eo (by omega),Ze,BV _ d,Za,es,Za,eg (λe=>h k d (ZB (hs.lt.1 e):j k<0)),Zf,Zk (by omega) (by omega),Za];rfl
 ·rw[kU,eg (by omega),Zf]
theorem Q6(f:l<d)(h:c≤1000):C6 (uJ c d y) (l:Int)=some (tv c λi=>y i l):=by
 unfold C6;refine Zu (fL (λq=>(tv q λi=>y i l,(q:Int))) c rfl (by omega) (λq g=>?_) ?_) rfl
 ·simp only[vH];rw[eo (by omega),Ze,Ka _ g,Za,BV _ f,Za];have e:(tv q λi=>y i l)++[ts (y q l)]=tv (q+1) λi=>y i l:=xC q λi=>ts (y i l);rw[e,ii (by rw[kU];omega),Za,Zk (by omega) (by omega),Za];rfl
 ·simp only[vH];rw[eg (by omega),Zf]
end
section
open Gt
theorem As(h:(fR d y j t).cd eI l c d):(fh c d y j).cd eI l c (d+1):=by
 obtain⟨D,n,e,f⟩:=h;have m:eI l (0*D):=by rw[vK];exact eI.zero.mono (by omega)
 have g:eI l (-1*D):=by rw[show -1*D= -D from rg];exact e.neg
 refine⟨D,n,e,λi k o p=>?_,f.b,λk p=>?_,m⟩
 ·show eI l ((if k<d then y i k else -1)*D);split
  ·rename_i q;exact f.a i k o q
  ·exact g
 ·show eI l ((if k<d then 0 else -1)*D);split
  ·exact m
  ·exact g
theorem wW{T:Gt Su}{N:Nat}(h:T.arr c l N)(n:∀k,k<l→eI d (T.z k*p))(u:Nat):eI d (-zz l T.z T.fr u*p):=by
 rw[show -zz l T.z T.fr u*p= -(zz l T.z T.fr u*p) from rg];refine eI.neg ?_;by_cases g:∃k,k<l∧T.fr k=u
 ·obtain⟨k,f,rfl⟩:=g;unfold zz;rw[ie f λj i m=>iN λe=>m (h.fi j k i f e),iP rfl];exact n k f
 ·unfold zz;rw[ga λk f=>iN λe=>g ⟨k,f,e⟩,vK];exact eI.zero.mono (by omega)
theorem Xz(p:l<c)(k:j l<0)(n:∀i,i<c→j i<0→j l≤j i):((fh c d y j).piv l d).fea c:=by
 have g:∀i,(fh c d y j).a i d= -1:=λi=>iN (by omega);intro i m;show 0≤if i=l then j l*(1 / (fh c d y j).a l d) else j i-(fh c d y j).a i d*(j l*(1 / (fh c d y j).a l d));rw[g,g];have o:=jd (show(-1:Su)≠0 from λe=>qG (iK e.symm:(1:Su)=0));have f:j l*(1 / (-1:Su))= - j l:=gu o (-j l);split
 ·rw[f];exact gK (ZB k)
 ·rw[f];by_cases h:j i<0
  ·exact fJ (n i m h)
  ·exact gK (ZB (iQ k (pq.1 h)))
set_option maxRecDepth 100000 in
theorem ZxA{C:Nat→Su}(o:c≤L∨d+1≤L){P:(List (List Su))×(List Su)×(List Su)}(hP:P=(fg c d y,vx c j,vx d C))(G:(fR d y j C).cd eI l c d)(hm:c≤100)(hn:d≤100)(hN:d+c+1≤60)(hK:l≤12400)(hS:kq l L≤12400):
    ∃ z,Ga (eT c d (fR d y j C)) P=some z∧((∃K,z=(eT c d K,[],true)∧K.arr c d (d+c)∧K.eqv (fR d y j C) c d∧K.fea c)∨ ∃t a0 N,z=(t,vx c a0,false)∧j5 c d y j a0∧Ov (kq l L) c a0 N):=by
  subst hP;have M:(fh c d y j).cd eI l c (d+1):=As G;have s0:=AS G (by omega);have e1:(d:Int)+(c:Int)=((d+c:Nat):Int):=by omega
  unfold Ga;refine ZM (y:=((d+c:Nat):Int)) (by simp only[Zo];rw[e1,Zk (by omega) (by omega)]) ?_;obtain⟨e,g1,Y⟩:=ZvE (m:=c) (B:=j) s0.b (by omega);refine ZM g1 ?_;rcases Y with⟨rfl,Y⟩ |⟨w,rfl,J,hb,hl⟩
  · rw[show(decide ((-1:Int)<0))=true from rfl,Ze];exact⟨_,rfl,.inl ⟨fR d y j C,rfl,Jl,eqv.refl,λi q=>pq.1 (Y i q)⟩⟩
  · rw[eg (show¬(w:Int)<0 by omega),Zf];refine ZM (YD (A:=y) (B:=j) (by omega) (by omega)) ?_;refine ZM (y:=()) (ii (by show(vx d _++[_]).length*8≤_;rw[lA,Zo,List.length_singleton];omega)) ?_;refine ZM qI ?_;refine ZM (y:=vx d λ_=>(0:Su)) (by simp only[Zo];exact Ek (by omega)) ?_;refine ZM E9 ?_;have ez:(vx d λ_=>(0:Su))++[(-1:Su)]=vx (d+1) (fh c d y j).z:=by
      rw[←xC];refine congr (congrArg _ (ZP λk m=>?_)) (congrArg (λx=>[x]) ?_)
      · show(0:Su)=if k<d then 0 else -1;rw[iP m]
      · show _=if d<d then(0:Su) else -1;rw[iN (by omega)]
    have ef:(vx d λk=>(k:Int))++[((d+c:Nat):Int)]=vx (d+1) λk=>((fh c d y j).fr k:Int):=by
      rw[←xC];refine congr (congrArg _ (ZP λk m=>?_)) (congrArg (λx=>[x]) ?_)
      · show(k:Int)=((if k<d then k else d+c:Nat):Int);rw[iP m]
      · show _=((if d<d then d else d+c:Nat):Int);rw[iN (by omega)]
    rw[ez];refine ZM (y:=()) (ii (by rw[Zo];omega)) ?_;have et:(fg c (d+1) (fh c d y j).a,(eT c d (fR d y j C)).2.1,vx (d+1) (fh c d y j).z,(eT c d (fR d y j C)).2.2.2.1,(eT c d (fR d y j C)).2.2.2.2.1,(eT c d (fR d y j C)).2.2.2.2.2++[((d+c:Nat):Int)])=eT c (d+1) (fh c d y j):=Prod.ext rfl (Prod.ext rfl (Prod.ext rfl (Prod.ext rfl (Prod.ext rfl ef))));rw[et];have ne:(fh c d y j).a w d≠0:=by
      show(if d<d then y w d else(-1:Su))≠0;rw[iN (by omega)];exact λe=>qG (iK e.symm:(1:Su)=0)
    refine ZM (y:=(eT c (d+1) ((fh c d y j).piv w d),())) (by simp only[Zo];exact KI J (by omega) ne (mQ M J (by omega) ne hK) (by omega) (by omega)) ?_;have aa:((fh c d y j).piv w d).eqv (fh c d y j) c (d+1):=Ii J (by omega) ne;have a9:((fh c d y j).piv w d).arr c (d+1) (d+c+1):=IB.piv J (by omega);obtain⟨z,r1,g,e,rfl,p,F,R,af⟩:=Tv o (last:=((d+c:Nat):Int)) (lst:=d+c) IB M aa a9 (Xz J hb hl) hN (by omega) (by omega) hS (λu _=>by omega) (λT' a7 a8 ⟨B,a3⟩ an hj e=>zV a7 a8 hj e B a3.lt a3.pos);refine ZM r1 ?_;have aj:∀k,k<d+1→¬0<g.z k:=by
      rcases af with⟨_,h⟩ |⟨B,_,Z,h2⟩
      · exact h
      · exact(ZfD p F R Z h2).elim
    have W:=Hn vM o IB M p F;have s2:=AS W (by omega);obtain⟨sv,es,a6⟩:=xK s2.v;refine ZM es ?_;by_cases I:g.v<0
    · rw[eo (a6.lt.2 I),Ze];refine ZM (y:=(eT c (d+1) g,vx c (Z8 d g (d+1)))) (by simp only[Zo];exact ZyE p s2.z (by omega) (by omega) (by omega) (by omega)) ?_;obtain⟨N,hd,X,O⟩:=W;exact⟨_,rfl,.inr ⟨_,_,N,rfl,YE p F aj I,hd,X,λi q=>wW p O.z _⟩⟩
    · rw[eg (λh=>I (a6.lt.1 h)),Zf];have ai:ZZ c g (d+c)=0:=by
        have Z:=ET p F;have h2:=I7 (m:=c) R (d+c);rw[Z]at I;exact Hm (fJ (pq.1 I)) h2
      obtain⟨e3,g3,A⟩:=Bd (body:=λs=>
          dV (decide (s<((vx c λf=>(g.bs f:Int)).length:Int)))
          (dU (dX (vx c λf=>(g.bs f:Int)) s) λa1=>
           dV (((d+c:Nat):Int)==a1)
           (some (.inr (.inr s)))
           (dU (chk .i64 (s+(1:Int))) λa2=>
            some (.inl a2)))
          (some (.inr (.inl ())))) c (by omega) (λf=>g.bs f=d+c) (λf hf=>by
            rw[Zo,eo (by omega),Ze,Zw _ hf,Za];by_cases e:g.bs f=d+c
            · exact .inl ⟨e,by rw[show(((d+c:Nat):Int)==(g.bs f:Int))=true by rw[beq_iff_eq];omega,Ze]⟩
            · exact .inr ⟨e,by rw[show(((d+c:Nat):Int)==(g.bs f:Int))=false by rw[beq_eq_false_iff_ne];omega,Zf,Zk (by omega) (by omega),Za];rfl⟩) (by rw[Zo,eg (by omega),Zf])
      refine ZM g3 ?_;refine S9 (Q:=λt=>∃n:Gt Su,t=eT c (d+1) n∧n.arr c (d+1) (d+c+1)∧n.eqv (fh c d y j) c (d+1)∧n.fea c∧∀i,i<c→n.bs i≠d+c) ?_ (λt ht=>?_)
      · rcases A with⟨rfl,A⟩ |⟨r,o,rfl,A⟩
        · rw[show(decide ((0:Int)≤-1))=false from rfl,Zf];exact⟨_,rfl,g,rfl,p,F,R,A⟩
        · rw[eo (show(0:Int)≤(r:Int) by omega),Ze];refine ZM (je _ o) ?_;obtain⟨e5,g5,D⟩:=Bd (body:=λU=>
        dV (decide (U<((vx (d+1) (g.a r)).length:Int)))
        (dU (dX (vx (d+1) (g.a r)) U) λak=>
         dU (vW ak) λal=>
         dV (!al)
         (some (.inr (.inr U)))
         (dU (chk .i64 (U+(1:Int))) λam=>
          some (.inl am)))
        (some (.inr (.inl ())))) (d+1) (by omega) (λk=>g.a r k≠0) (λk m=>by
            rw[Zo,eo (by omega),Ze,Zw _ m,Za];obtain⟨b,eb,a5⟩:=GA (s2.a r k o m);rw[eb,Za];by_cases e:g.a r k=0
            · exact .inr ⟨λh=>h e,by rw[a5.2 e];show dV false _ _=_;rw[Zf,Zk (by omega) (by omega),Za];rfl⟩
            · exact .inl ⟨e,by cases b with |true=>exact absurd (a5.1 rfl) e |false=>show dV true _ _=_;rw[Ze]⟩) (by rw[Zo,eg (by omega),Zf])
          refine ZM g5 ?_;rcases D with⟨_,D⟩ |⟨k,m,rfl,D⟩
          · obtain⟨k,m,h⟩:=zW p F o A;exact absurd h (D k m)
          · refine ZM (KI o m D (mQ W o m D hS) (by omega) (by omega)) ?_;have ae:g.b r=0:=by rw[←Bu p o,A];exact ai
            refine⟨_,rfl,g.piv r k,rfl,p.piv o m,(Ii o m D).trans F,λi q=>?_,λi q=>?_⟩
            · show 0≤if i=r then g.b r*(1 / g.a r k) else g.b i-g.a i k*(g.b r*(1 / g.a r k));rw[ae];split
              · exact fJ (mz (0:Su))
              · exact fJ (R i q)
            · rw[nj];split
              · rw[←A];exact λe=>p.d r k o m e.symm
              · rename_i ah;exact λe=>ah (p.bi i r q o (e.trans A.symm))
      · obtain⟨n,rfl,Q,a4,ad,ag⟩:=ht;obtain⟨e7,g7,H⟩:=Bd (body:=λs=>
          dV (decide (s<((vx (d+1) λf=>(n.fr f:Int)).length:Int)))
          (dU (dX (vx (d+1) λf=>(n.fr f:Int)) s) λa1=>
           dV (((d+c:Nat):Int)==a1)
           (some (.inr (.inr s)))
           (dU (chk .i64 (s+(1:Int))) λa2=>
            some (.inl a2)))
          (some (.inr (.inl ())))) (d+1) (by omega) (λf=>n.fr f=d+c) (λf hf=>by
            rw[Zo,eo (by omega),Ze,Zw _ hf,Za];by_cases e:n.fr f=d+c
            · exact .inl ⟨e,by rw[show(((d+c:Nat):Int)==(n.fr f:Int))=true by rw[beq_iff_eq];omega,Ze]⟩
            · exact .inr ⟨e,by rw[show(((d+c:Nat):Int)==(n.fr f:Int))=false by rw[beq_eq_false_iff_ne];omega,Zf,Zk (by omega) (by omega),Za];rfl⟩) (by rw[Zo,eg (by omega),Zf])
        refine ZM g7 ?_;rcases H with⟨_,H⟩ |⟨B,S,rfl,H⟩
        · rcases Q.cov (d+c) (by omega) with⟨i,q,e⟩ |⟨k,m,e⟩
          · exact absurd e (ag i q)
          · exact absurd e (H k m)
        · refine ZM (y:=((B+1:Nat):Int)) (Zk (by omega) (by omega)) ?_;refine ZM (NX _ S) ?_;refine ZM (ZqE (by omega) (by omega) S) ?_;refine ZM qI ?_;refine ZM (y:=vx d λ_=>(0:Su)) (by rw[Zo];exact Ek (by omega)) ?_;refine ZM qI ?_;obtain⟨N,hd,X,O⟩:=Hn vM o IB M Q a4;have E:=N5 (C:=C) Q S H;have ab:=W2 (C:=C) Q a4 S H;refine ZM (s9 (D:={ a:=λi k=>n.a i (sk B k),b:=n.b,z:=λ_=>0,v:=0,bs:=n.bs,fr:=λk=>n.fr (sk B k) }) (C:=C) (K:=l) (W:=kq l L) (d0:=G.choose) ⟨E.bl,E.fl,E.bi,E.fi,E.d,E.cov⟩ ⟨G.choose_spec.1,G.choose_spec.2.1,G.choose_spec.2.2.z⟩ hd X (λi k q m=>O.a i _ q (xG m)) O.b (by omega) (by omega) (by omega)) ?_;exact⟨_,rfl,.inl ⟨drop c d C n B,rfl,E,ab,ad⟩⟩
noncomputable def Ip(m:List (List Su)):Option (List (List Su)) :=
 dU (mk 24 (m.length:Int) (m.length:Int)) λ_=>
 dU (Zg (σ:=Int×(List (List Su))) (ρ:=List (List Su)) (λa=>
 dV (decide (a.1<(m.length:Int)))
 (dU (dX m a.1) λb=>
 dU (j9 152 b) λc=>
 dU (dX a.2 a.1) λf=>
 dU (chk .i64 (a.1+(1:Int))) λd=>
 some (.inl (d,a.2.set a.1.toNat c)))
 (some (.inr a.2)))
  Zh ((0:Int),List.replicate (m.length:Int).toNat ([]:List Su))) λe=>
 some e
noncomputable def CZ(p:(List (List Su))×(List Su)×(List Su)):Option (Int×Su×(List Su)×(List Su)×(List Su)) :=
 dU (Ip p.1) λn=>
 dU (j9 152 p.2.1) λo=>
 dU (j9 152 p.2.2) λq=>
 dU (iJ (0:Int)) λr=>
 dU (Zg (σ:=Int×((List (List Su))×(List Su)×(List Su)×Su×(List Int)×(List Int))) (ρ:=(List (List Su))×(List Su)×(List Su)×Su×(List Int)×(List Int)) (λa=>
 dV (decide (a.1<(p.2.2.length:Int)))
 (dU (ZE 8 (a.2.2.2.2.2.2++[a.1])) λ_=>
 dU (chk .i64 (a.1+(1:Int))) λs=>
 some (.inl (s,a.2.1,a.2.2.1,a.2.2.2.1,a.2.2.2.2.1,a.2.2.2.2.2.1,a.2.2.2.2.2.2++[a.1])))
 (some (.inr (a.2.1,a.2.2.1,a.2.2.2.1,a.2.2.2.2.1,a.2.2.2.2.2.1,a.2.2.2.2.2.2))))
  Zh ((0:Int),n,o,q,r,([]:List Int),([]:List Int))) λg=>
 dU (Zg (σ:=Int×((List (List Su))×(List Su)×(List Su)×Su×(List Int)×(List Int))) (ρ:=(List (List Su))×(List Su)×(List Su)×Su×(List Int)×(List Int)) (λb=>
 dV (decide (b.1<(p.2.1.length:Int)))
 (dU (chk .i64 ((p.2.2.length:Int)+b.1)) λl=>
 dU (ZE 8 (b.2.2.2.2.2.1++[l])) λ_=>
 dU (chk .i64 (b.1+(1:Int))) λt=>
 some (.inl (t,b.2.1,b.2.2.1,b.2.2.2.1,b.2.2.2.2.1,b.2.2.2.2.2.1++[l],b.2.2.2.2.2.2)))
 (some (.inr (b.2.1,b.2.2.1,b.2.2.2.1,b.2.2.2.2.1,b.2.2.2.2.2.1,b.2.2.2.2.2.2))))
  Zh ((0:Int),g.1,g.2.1,g.2.2.1,g.2.2.2.1,g.2.2.2.2.1,g.2.2.2.2.2)) λh=>
 dU (iJ (0:Int)) λm=>
 dU (Ga (h.1,h.2.1,h.2.2.1,h.2.2.2.1,h.2.2.2.2.1,h.2.2.2.2.2) p) λd=>
 dV (!d.2.2)
 (some ((2:Int),m,([]:List Su),d.2.1,([]:List Su)))
 (dU (α:=((List (List Su))×(List Su)×(List Su)×Su×(List Int)×(List Int))×Int)
 (dU (El (d.1.1,d.1.2.1,d.1.2.2.1,d.1.2.2.2.1,d.1.2.2.2.2.1,d.1.2.2.2.2.2) (-1:Int)) λf=>
 some ((f.1.1,f.1.2.1,f.1.2.2.1,f.1.2.2.2.1,f.1.2.2.2.2.1,f.1.2.2.2.2.2),f.2)) λc=>
 dV (decide (c.2<(0:Int)))
 (dU (D8 c.1 (p.2.2.length:Int)) λu=>
 dU (FM c.1 (p.2.2.length:Int) (p.2.1.length:Int)) λv=>
 some ((1:Int),c.1.2.2.2.1,u,v,([]:List Su)))
 (dU (iJ (0:Int)) λw=>
 dU (iY 152 [w] (p.2.2.length:Int)) λi=>
 dU (dX c.1.2.2.2.2.2 c.2) λj=>
 dU (α:=List Su)
 (dV (decide (j<(p.2.2.length:Int)))
 (dU (iJ (1:Int)) λx=>
 dU (dX i j) λG=>
 some (i.set j.toNat x))
 (some i)) λy=>
 dU (Zg (σ:=Int×(List Su)) (ρ:=List Su) (λe=>
 dV (decide (e.1<(c.1.2.2.2.2.1.length:Int)))
 (dU (dX c.1.2.2.2.2.1 e.1) λk=>
 dU (α:=List Su)
 (dV (decide (k<(p.2.2.length:Int)))
 (dU (dX c.1.1 e.1) λz=>
 dU (dX z c.2) λA=>
 dU (qX A) λB=>
 dU (dX e.2 k) λH=>
 some (e.2.set k.toNat B))
 (some e.2)) λC=>
 dU (chk .i64 (e.1+(1:Int))) λD=>
 some (.inl (D,C)))
 (some (.inr e.2)))
    Zh ((0:Int),y)) λE=>
 dU (D8 c.1 (p.2.2.length:Int)) λF=>
 some ((3:Int),m,F,([]:List Su),E)))
end
section
open Gt
theorem ZgB(M:Gx Su)(o:c≤1000)(p:d≤1000):Zg (σ:=Int×(List (List Su))) (ρ:=List (List Su)) (λf=>
   dV (decide (f.1<((fg c d M).length:Int)))
   (dU (dX (fg c d M) f.1) λl=>
    dU (j9 152 l) λm=>
    dU (dX f.2 f.1) λq=>
    dU (chk .i64 (f.1+(1:Int))) λn=>
    some (.inl (n,f.2.set f.1.toNat m)))
   (some (.inr f.2)))
  Zh ((0:Int),List.replicate ((fg c d M).length:Int).toNat ([]:List Su))=some (fg c d M):=by
  refine fL (λk=>((k:Int),vx c λi=>if i<k then vx d (M i) else[])) c ?_ (by omega) (λk j=>?_) ?_
  · rw[jx];simp only[tN,R4];refine Prod.ext rfl (ZP λi g=>?_);rw[iN (by omega)]
  · simp only[jx];rw[eo (by omega),Ze,je _ j,Za,LU (by rw[Zo];omega),Za,Zw _ j,Za,Zk (by omega) (by omega),Za];simp only[tN];rw[io];refine congrArg (λx=>some (Sum.inl x)) (Prod.ext (by simp) (ZP λi g=>?_));by_cases e:i=k
    · rw[iP e,iP (by omega),e]
    · rw[iN e];by_cases h:i<k
      · rw[iP h,iP (by omega)]
      · rw[iN h,iN (by omega)]
  · simp only[jx];rw[eg (by omega),Zf];exact congrArg (λx=>some (Sum.inr x)) (ZP λi g=>iP g)
theorem ZcE(e:c≤1000)(f:d≤1000):Ip (fg c d y)=some (fg c d y):=by
 unfold Ip;refine Zu (y:=()) (by rw[jx];exact PJ (by omega) (by omega)) ?_;exact Zu (ZgB y e f) rfl
def mM(m n W:Nat)(A:Gx Su)(B C:Nat→Su)(z:Int×Su×(List Su)×(List Su)×(List Su)):Prop :=
 (∃y d,z=(2,0,[],vx m y,[])∧j5 m n A B y∧Ov W m y d)∨
 (∃x y v d,z=(1,v,vx n x,vx m y,[])∧mO m n A B x∧v=gs n (λk=>C k*x k)∧Cp m n A B C y∧v=gs m (λi=>B i*y i)∧Ov W n x d∧Ov W m y d∧eI W (v*d))∨
 ∃ x d e,z=(3,0,vx n x,[],vx n d)∧mO m n A B x∧uX m n A C d∧Ov W n x e∧Ov W n d e
theorem yO{T:Gt Su}{N:Nat}(h:T.arr c l N)(e:S<l)(j:eI d p)(g:∀i,i<c→eI d (T.a i S*p)){u:Nat}(m:u<N):eI d (iM c T S u*p):=by
 rcases h.cov u m with⟨i,f,rfl⟩ |⟨q,k,rfl⟩
 ·rw[PT h e f,show -T.a i S*p= -(T.a i S*p) from rg];exact(g i f).neg
 ·rw[BF h e k];split
  ·rw[show 1*p=p from rg];exact j
  ·rw[vK];exact eI.zero.mono (by omega)
set_option maxRecDepth 100000 in
theorem Y1(hr:c≤L∨d+1≤L)(A:(fR d y j t).cd eI l c d)(hm:c≤100)(hn:d≤100)(U:d+c+1≤60)(hK:l≤12000)(hS:kq l L≤12000):∃z,CZ (fg c d y,vx c j,vx d t)=some z∧mM c d (kq l L) y j t z:=by
 have I:c≤L∨d≤L:=by omega
 unfold CZ;refine ZM (ZcE (by omega) (by omega)) ?_;refine ZM (y:=vx c j) (LU (by rw[Zo];omega)) ?_;refine ZM (y:=vx d t) (LU (by rw[Zo];omega)) ?_;refine ZM qI ?_;refine ZM (y:=(fg c d y,vx c j,vx d t,(0:Su),[],vx d λk=>(k:Int))) (fL (λk=>((k:Int),fg c d y,vx c j,vx d t,(0:Su),[],vx k λk=>(k:Int))) d rfl (by omega) (λk H=>?_) ?_) ?_
 ·show dV (decide ((k:Int)<((vx d t).length:Int))) _ _=_;rw[Zo,eo (by omega),Ze];have e:(vx k λk=>(k:Int))++[(k:Int)]=vx (k+1) λk=>(k:Int):=xC k _;show dU (ZE 8 ((vx k λk=>(k:Int))++[(k:Int)])) _=_;rw[ii (by rw[e,Zo];omega),Za,Zk (by omega) (by omega),Za];exact congrArg (λx=>some (Sum.inl ((_:Int),_,_,_,_,_,x))) e
 ·show dV (decide ((d:Int)<((vx d t).length:Int))) _ _=_;rw[Zo,eg (by omega),Zf]
 refine ZM (y:=eT c d (fR d y j t)) (fL (λi=>((i:Int),fg c d y,vx c j,vx d t,(0:Su),(vx i λi=>((d+i:Nat):Int)),vx d λk=>(k:Int))) c rfl (by omega) (λi m=>?_) ?_) ?_
 ·show dV (decide ((i:Int)<((vx c j).length:Int))) _ _=_;rw[Zo,eo (by omega),Ze];have e:(vx i λi=>((d+i:Nat):Int))++[((d+i:Nat):Int)]=vx (i+1) λi=>((d+i:Nat):Int):=xC i _;simp only[Zo];rw[show(d:Int)+(i:Int)=((d+i:Nat):Int) by omega,Zk (by omega) (by omega),Za,ii (by rw[e,Zo];omega),Za,Zk (by omega) (by omega),Za];exact congrArg (λx=>some (Sum.inl ((_:Int),_,_,_,_,x,_))) e
 ·show dV (decide ((c:Int)<((vx c j).length:Int))) _ _=_;rw[Zo,eg (by omega),Zf];rfl
 refine ZM qI ?_;obtain⟨z,N,O⟩:=ZxA hr (C:=t) (P:=(fg c d y,vx c j,vx d t)) rfl A hm hn U (by omega) (by omega);refine ZM N ?_;rcases O with⟨T4,rfl,P,Q,R⟩ |⟨a6,a4,yd,rfl,hy,a3⟩
 ·show ∃z,dV false _ _=some z∧_;rw[Zf];obtain⟨z,r1,f,e,rfl,h,w,S,Z⟩:=Tv I (last:=(-1:Int)) (lst:=d+c) (Jl (A:=y) (B:=j) (C:=t)) A Q P R (by omega) (by omega) (by omega) (by omega) (λu _=>by omega) (λT' M a5 _ D G e=>by have:=M.fl D G;omega);refine ZM (y:=(eT c d f,e)) (Zu r1 rfl) ?_;have E:=Hn vM I Jl A h w;have K:=AS E (by omega);obtain⟨B,C,r,s⟩:=E;obtain⟨F,a1⟩:=rX h w S;have J:Ov (kq l L) d (ZZ c f) B:=⟨C,r,λk H=>TA h s.b (by omega)⟩;rcases Z with⟨rfl,hz⟩ |⟨g,rfl,n,q⟩
  ·rw[show(decide ((-1:Int)<0))=true from rfl,Ze];refine ZM (y:=vx d (ZZ c f)) (by simp only[Zo];exact T9 h (by omega) (by omega)) ?_;refine ZM (y:=vx c (Z8 d f d)) (by simp only[Zo];exact Xl h K.z (by omega) (by omega) (by omega) (by omega)) ?_;obtain⟨Y,a2⟩:=rR h w hz;exact⟨_,rfl,.inr (.inl ⟨_,_,f.v,B,rfl,F,a1,Y,a2,J,⟨C,r,λi m=>wW h s.z _⟩,s.v⟩)⟩
  ·rw[eg (show¬(g:Int)<0 by omega),Zf];refine ZM qI ?_;refine ZM (y:=vx d λ_=>(0:Su)) (by simp only[Zo];exact Ek (by omega)) ?_;refine ZM (Zw _ n.lt) ?_
   let o:Nat→Nat→Su:=λi u=>if f.fr g=u then 1 else-gs i λi=>if f.bs i=u then f.a i g else 0
   refine ZM (y:=vx d (o 0)) ?_ ?_
   ·by_cases X:f.fr g<d
    ·simp only[Zo];rw[eo (by omega),Ze,E8,Za,Zw _ X,Za];simp only[tN];rw[io];refine congrArg some (ZP λu q=>?_);show _=if f.fr g=u then(1:Su) else -0;by_cases e:u=f.fr g
     ·rw[iP e,iP e.symm]
     ·rw[iN e,iN λp=>e p.symm];exact rg
    ·simp only[Zo];rw[eg (by omega),Zf];refine congrArg some (ZP λu q=>?_);show _=if f.fr g=u then(1:Su) else -0;rw[iN (by omega)];exact rg
   ·refine ZM (y:=vx d (iM c f g)) (fL (λi=>((i:Int),vx d (o i))) c rfl (by omega) (λi m=>?_) ?_) ?_
    ·show dV (decide ((i:Int)<((vx c λi=>(f.bs i:Int)).length:Int))) (dU (dX (vx c λi=>(f.bs i:Int)) (i:Int)) _) _=_;rw[Zo,eo (by omega),Ze,Zw _ m,Za];refine Zu (y:=vx d (o (i+1))) ?_ (by rw[Zk (by omega) (by omega),Za];rfl);have a0:f.fr g≠f.bs i:=λe=>h.d i g m n.lt e.symm;have step:∀u,o (i+1) u=if f.bs i=u then-f.a i g else o i u:=λu=>by
      show(if f.fr g=u then(1:Su) else-(gs i (λi=>if f.bs i=u then f.a i g else 0)+if f.bs i=u then f.a i g else 0))=_;by_cases e:f.bs i=u
      ·rw[iP e,iP e,iN (by rw[←e];exact a0),ga λD G=>iN λp=>by have:=h.bi D i (by omega) m (p.trans e.symm);omega];exact rg
      ·rw[iN e,iN e];show _=if f.fr g=u then(1:Su) else-gs i λi=>if f.bs i=u then f.a i g else 0;rw[ND]
     by_cases W:f.bs i<d
     ·simp only[Zo];rw[eo (by omega),Ze];show dU (dX (fg c d f.a) (i:Int)) _=_;rw[je _ m,Za,Zw _ n.lt,Za,uN (K.a i g m n.lt),Za,Zw _ W,Za];simp only[tN];rw[io];refine congrArg some (ZP λu q=>?_);rw[step u];by_cases e:u=f.bs i
      ·rw[iP e,iP e.symm]
      ·rw[iN e,iN λp=>e p.symm]
     ·simp only[Zo];rw[eg (by omega),Zf];refine congrArg some (ZP λu q=>?_);rw[step u,iN (by omega)]
    ·show dV (decide ((c:Int)<((vx c λi=>(f.bs i:Int)).length:Int))) _ _=_;rw[Zo,eg (by omega),Zf];rfl
    refine ZM (y:=vx d (ZZ c f)) (by simp only[Zo];exact T9 h (by omega) (by omega)) ?_;exact⟨_,rfl,.inr (.inr ⟨_,_,B,rfl,F,Ab h w n q,J,C,r,λk H=>yO h n.lt r (λi m=>s.a i g m n.lt) (by omega)⟩)⟩
 ·show ∃z,dV true _ _=some z∧_;rw[Ze];exact⟨_,rfl,.inl ⟨a4,yd,rfl,hy,a3⟩⟩
def gc(x:Option Bool)(P:Prop):Prop:=∃b,x=some b∧(b=true↔P)
theorem gc.congr{Q:Prop}(h:gc M P)(c:P↔Q):gc M Q:=by
 obtain⟨b,e,h⟩:=h;exact⟨b,e,h.trans c⟩
theorem ZeF{c:Bool}(h:c=true↔P):gc (some c) P:=⟨c,rfl,h⟩
theorem OA(h:gc M P):gc (dU M λy=>some (!y)) (¬P):=by
 obtain⟨b,rfl,h⟩:=h;refine⟨!b,rfl,?_⟩
 cases b <;> simp_all
theorem RY(h:¬P):gc (some false) P:=⟨false,rfl,by simp[h]⟩
theorem DN(h:P):gc (some true) P:=⟨true,rfl,by simp[h]⟩
theorem rI{f:Bool→Option Bool}{Q:Prop}(h:gc M P)(c:P→gc (f true) Q)(d:¬P→gc (f false) Q):gc (dU M f) Q:=by
 obtain⟨b,rfl,h⟩:=h
 cases b with
 |true=>exact c (h.1 rfl)
 |false=>exact d λhp=>by have:=h.2 hp;cases this
theorem xT{c:Bool}{P Q:Prop}(h:c=true↔ ¬P)(f:P→gc M (¬Q)):gc (dV c (some true) M) (¬(P∧Q)):=by
 cases c with
 |true=>rw[Ze];exact DN λhp=>h.1 rfl hp.1
 |false=>
  have hp:P:=Classical.byContradiction λe=>by have:=h.2 e;cases this
  rw[Zf];exact(f hp).congr ⟨λd h=>d h.2,λh d=>h ⟨hp,d⟩⟩
theorem EY{y:Option Bool}{Q:Prop}(h:gc M P)(c:P→gc y (¬Q)):gc (dU M λb=>dV (!b) (some true) y) (¬(P∧Q)):=by
 obtain⟨b,rfl,h⟩:=h;exact xT (by cases b <;> simp_all) c
theorem rJ{y:Option Bool}{P Q:Prop}(h:gc M (¬P))(d:P→gc y Q):gc (dU M λb=>dV b (some false) y) (P∧Q):=by
 refine rI h (λhp=>?_) λhp=>?_
 ·rw[Ze];exact RY λh=>hp h.1
 ·have hp:=Classical.not_not.1 hp;rw[Zf];exact(d hp).congr ⟨λc=>⟨hp,c⟩,λh=>h.2⟩
theorem GH{f:Int→Option (Int ⊕ (Unit ⊕ Bool))}(n:Nat)(o:n<2^64)(P:Nat→Prop)(step:∀k:Nat,k<n→(P k∧f (k:Int)=some (.inl (((k+1:Nat):Int))))∨(¬P k∧f (k:Int)=some (.inr (.inr false))))(s:f (n:Int)=some (.inr (.inl ()))):
  ∃ r,Zg f Zh (0:Int)=some r∧((r= .inl ()∧∀k,k<n→P k)∨(r= .inr false∧¬ ∀k,k<n→P k)):=by
 by_cases h:∀k,k<n→P k
 ·exact⟨_,fL (λk=>(k:Int)) n rfl o (λk g=>by rcases step k g with d |d;exact d.2;exact absurd (h k g) d.1) s,.inl ⟨rfl,h⟩⟩
 ·obtain⟨k,g,d,m⟩:∃k,k<n∧¬P k∧∀i,i<k→P i:=by
   have:∀q,q≤n→(∀i,i<q→P i)∨ ∃k,k<n∧¬P k∧∀i,i<k→P i:=by
    intro q
    induction q with
    |zero=>exact λ_=>.inl λi j=>by omega
    |succ q p=>
     intro t;rcases p (by omega) with h |h
     ·by_cases e:P q
      ·exact .inl λi j=>by
        by_cases l:i=q
        ·rw[l];exact e
        ·exact h i (by omega)
      ·exact .inr ⟨q,by omega,e,h⟩
     ·exact .inr h
   rcases this n (Nat.le_refl n) with c |c
   ·exact absurd c h
   ·exact c
  refine⟨_,fL (λk=>(k:Int)) k rfl (by omega) (λi j=>?_) ?_,.inr ⟨rfl,h⟩⟩
  ·rcases step i (by omega) with c |c
   ·exact c.2
   ·exact absurd (m i j) c.1
  ·rcases step k g with c |c
   ·exact absurd c.1 d
   ·exact c.2
theorem Gj{x:Option (Unit ⊕ Bool)}{f:Unit ⊕ Bool→Option Bool}{Q:Prop}(h:∃r,x=some r∧((r= .inl ()∧P)∨(r= .inr false∧¬P)))(d:P→gc (f (.inl ())) Q)(e:f (.inr false)=some false):gc (dU x f) (P∧Q):=by
 obtain⟨r,rfl,h⟩:=h;rw[Za];rcases h with⟨rfl,h⟩ |⟨rfl,h⟩
 ·exact(d h).congr ⟨λc=>⟨h,c⟩,λh=>h.2⟩
 ·rw[e];exact RY λc=>h c.1
theorem Nw(n m:Nat):((n:Int) != (m:Int))=true↔ ¬n=m:=by simp;omega
noncomputable def vi(x:List Su)(y:List Su):Option Su :=
 dU (iJ (0:Int)) λb=>
 dU (Zg (σ:=Int×Su) (ρ:=Su) (λa=>
 dV (decide (a.1<(x.length:Int)))
 (dU (dX x a.1) λc=>
 dU (dX y a.1) λd=>
 dU (jC c d) λe=>
 dU (o7 a.2 e) λf=>
 dU (chk .i64 (a.1+(1:Int))) λg=>
 some (.inl (g,f)))
 (some (.inr a.2)))
  Zh ((0:Int),b)) λh=>
 some h
noncomputable def BW(m:List (List Su))(x:List Su):Option (List Su) :=
 dU (Zg (σ:=(List Su)×Int) (ρ:=List Su) (λa=>
 dV (decide (a.2<(m.length:Int)))
 (dU (dX m a.2) λc=>
 dU (vi c x) λb=>
 dU (ZE 152 (a.1++[b])) λ_=>
 dU (chk .i64 (a.2+(1:Int))) λd=>
 some (.inl (a.1++[b],d)))
 (some (.inr a.1)))
  Zh (([]:List Su),(0:Int))) λe=>
 some e
noncomputable def qo(x:List Su):Option Bool :=
 dU (α:=Int)
 (dU (Zg (σ:=Int) (ρ:=Unit ⊕ Int) (λa=>
 dV (decide (a<(x.length:Int)))
 (dU (dX x a) λb=>
 dU (nu b) λc=>
 dV (decide (c<(0:Int)))
 (some (.inr (.inr a)))
 (dU (chk .i64 (a+(1:Int))) λd=>
 some (.inl d)))
 (some (.inr (.inl ()))))
   Zh (0:Int)) λe=>
  match e with
|.inl h=>(some (-1:Int))
|.inr f=>(some f)) λg=>
 some (!(decide ((0:Int)≤g)))
noncomputable def vB(x:List Su)(y:List Su):Option Bool :=
 dU (Zg (σ:=Int) (ρ:=Unit ⊕ Bool) (λa=>
 dV (decide (a<(x.length:Int)))
 (dU (dX x a) λb=>
 dU (dX y a) λc=>
 dU (oF b c) λd=>
 dV (decide ((0:Int)<d))
 (some (.inr (.inr false)))
 (dU (chk .i64 (a+(1:Int))) λe=>
 some (.inl e)))
 (some (.inr (.inl ()))))
  Zh (0:Int)) λf=>
 match f with
|.inl h=>(some true)
|.inr g=>(some g)
noncomputable def Cw(p:(List (List Su))×(List Su)×(List Su))(y:List Su):Option (List Su) :=
 dU (xj (p.2.2.length:Int)) λd=>
 dU (Zg (σ:=Int×(List Su)) (ρ:=List Su) (λb=>
 dV (decide (b.1<(p.1.length:Int)))
 (dU (dX p.1 b.1) λc=>
 dU (Zg (σ:=Int×(List Su)) (ρ:=List Su) (λa=>
 dV (decide (a.1<(c.length:Int)))
 (dU (dX c a.1) λe=>
 dU (dX a.2 a.1) λf=>
 dU (dX y b.1) λg=>
 dU (jC g e) λh=>
 dU (o7 f h) λi=>
 dU (dX a.2 a.1) λn=>
 dU (chk .i64 (a.1+(1:Int))) λj=>
 some (.inl (j,a.2.set a.1.toNat i)))
 (some (.inr a.2)))
     Zh ((0:Int),b.2)) λk=>
 dU (chk .i64 (b.1+(1:Int))) λl=>
 some (.inl (l,k)))
 (some (.inr b.2)))
  Zh ((0:Int),d)) λm=>
 some m
noncomputable def Bm(p:(List (List Su))×(List Su)×(List Su))(x:List Su):Option Bool :=
 dU (α:=Bool)
 (dU (qo x) λa=>
 dV a
 (dU (BW p.1 x) λb=>
 dU (vB b p.2.1) λc=>
 some c)
 (some false)) λd=>
 some d
noncomputable def Kz(p:(List (List Su))×(List Su)×(List Su))(y:List Su):Option Bool :=
 dU (α:=Bool)
 (dV ((y.length:Int)==(p.2.1.length:Int))
 (dU (qo y) λa=>
 dV a
 (dU (Cw p y) λb=>
 dU (vB p.2.2 b) λc=>
 some c)
 (some false))
 (some false)) λd=>
 some d
noncomputable def AO(p:(List (List Su))×(List Su)×(List Su)):Option Int :=
 dU (α:=Bool)
 (dV ((p.1.length:Int) != (p.2.1.length:Int))
 (some true)
 (dV (decide ((12:Int)<(p.2.1.length:Int)))
 (some true)
 (dV (decide ((48:Int)<(p.2.2.length:Int)))
 (some true)
 (dU (α:=Int)
 (dU (Zg (σ:=Int) (ρ:=Unit ⊕ Int) (λa=>
 dV (decide (a<(p.1.length:Int)))
 (dU (dX p.1 a) λb=>
 dV ((b.length:Int) != (p.2.2.length:Int))
 (some (.inr (.inr a)))
 (dU (chk .i64 (a+(1:Int))) λc=>
 some (.inl c)))
 (some (.inr (.inl ()))))
       Zh (0:Int)) λd=>
      match d with
|.inl h=>(some (-1:Int))
|.inr e=>(some e)) λf=>
 some (decide ((0:Int)≤f)))))) λg=>
 dV g
 (some (4:Int))
 (some (0:Int))
noncomputable def BJ(p:(List (List Su))×(List Su)×(List Su)):Option ((Int×Su×(List Su)×(List Su)×(List Su))×Int) :=
 dU (AO p) λa=>
 dV (a != (0:Int))
 (some (((0:Int),jK,([]:List Su),([]:List Su),([]:List Su)),a))
 (dU (CZ p) λb=>
 some (b,(0:Int)))
end
section
noncomputable def F'(p:(List (List Su))×(List Su)×(List Su))(a:Int×Su×(List Su)×(List Su)×(List Su)):Option Bool :=
 dU (AO p) λc=>
 dV (c != (0:Int))
 (some false)
 (dU (α:=Bool)
 (dV ((a.2.2.1.length:Int)==(p.2.2.length:Int))
 (dU (Bm p a.2.2.1) λd=>
 some d)
 (some false)) λb=>
 dV (a.1==(1:Int))
 (dU (α:=Bool)
 (dV b
 (dU (Kz p a.2.2.2.1) λe=>
 dV e
 (dV ((a.2.2.2.2.length:Int)==(0:Int))
 (dU (vi p.2.2 a.2.2.1) λf=>
 dU (DQ a.2.1 f) λg=>
 dV g
 (dU (vi p.2.1 a.2.2.2.1) λh=>
 dU (DQ a.2.1 h) λi=>
 some i)
 (some false))
 (some false))
 (some false))
 (some false)) λj=>
 some j)
 (dV (a.1==(2:Int))
 (dU (α:=Bool)
 (dV ((a.2.2.1.length:Int)==(0:Int))
 (dV ((a.2.2.2.2.length:Int)==(0:Int))
 (dU (vW a.2.1) λk=>
 dV k
 (dV ((a.2.2.2.1.length:Int)==(p.2.1.length:Int))
 (dU (qo a.2.2.2.1) λl=>
 dV l
 (dU (Cw p a.2.2.2.1) λm=>
 dU (qo m) λn=>
 dV n
 (dU (vi p.2.1 a.2.2.2.1) λo=>
 dU (nu o) λq=>
 some (decide (q<(0:Int))))
 (some false))
 (some false))
 (some false))
 (some false))
 (some false))
 (some false)) λr=>
 some r)
 (dV (a.1==(3:Int))
 (dU (α:=Bool)
 (dV (!b)
 (some true)
 (dV (decide ((0:Int)<(a.2.2.2.1.length:Int)))
 (some true)
 (dU (vW a.2.1) λs=>
 dV (!s)
 (some true)
 (some ((a.2.2.2.2.length:Int) != (p.2.2.length:Int)))))) λt=>
 dV t
 (some false)
 (dU (α:=Bool)
 (dU (qo a.2.2.2.2) λu=>
 dV u
 (dU (BW p.1 a.2.2.2.2) λv=>
 dU (xj (p.2.1.length:Int)) λw=>
 dU (vB v w) λx=>
 dV x
 (dU (vi p.2.2 a.2.2.2.2) λy=>
 dU (nu y) λz=>
 some (decide ((0:Int)<z)))
 (some false))
 (some false)) λA=>
 some A))
 (some false))))
open Gt
theorem DC(g:Ov c l j p)(h:Ov d l t N)(k:l≤1000)(i:c+d+4+l≤24900):vi (vx l j) (vx l t)=some (gs l λf=>j f*t f):=by
 unfold vi;rw[qI,Za,Zo];refine Zu (fL (λq=>((q:Int),gs q λf=>j f*t f)) l rfl (by omega) (λq e=>?_) ?_) rfl
 ·simp only;rw[eo (by omega),Ze,Zw _ e,Za,Zw _ e,Za,mE (g.zs (by omega) e) (h.zs (by omega) e),Za,ow (g.dot h (by omega) i) (g.mul h e (by omega)),Za,Zk (by omega) (by omega),Za];rfl
 ·simp only;rw[eg (by omega),Zf]
theorem IX{R n:Nat}{M:Gx Su}{x:Nat→Su}(f:∀i,i<R→Ov c n (M i) p)(k:Ov d n x N)(l:R≤1000)(h:n≤1000)(g:c+d+4+n≤24900):
  BW (fg R n M) (vx n x)=some (vx R λi=>gs n λj=>M i j*x j):=by
 unfold BW;refine Zu (fL (λq=>(vx q λi=>gs n λj=>M i j*x j,(q:Int))) R rfl (by omega) (λq e=>?_) ?_) rfl
 ·simp only[jx];rw[eo (by omega),Ze,je _ e,Za,DC (f q e) k h g,Za,xC q (λi=>gs n λj=>M i j*x j),ii (by rw[Zo];omega),Za,Zk (by omega) (by omega),Za];rfl
 ·simp only[jx];rw[eg (by omega),Zf]
theorem BZ{n:Nat}{x:Nat→Su}(d:∀k,k<n→Zs (x k))(h:∀k,k<n→0≤x k)(f:n≤1000):qo (vx n x)=some true:=by
 unfold qo;refine Zu (y:=-1) (Zu (y:=.inl ()) (fL (λk=>(k:Int)) n rfl (by omega) (λk c=>?_) ?_) rfl) rfl
 ·obtain⟨s,es,hs⟩:=xK (d k c);rw[Zo,eo (by omega),Ze,Zw _ c,Za,es,Za,eg (λe=>h k c (ZB (hs.lt.1 e):x k<0)),Zf,Zk (by omega) (by omega),Za];rfl
 ·rw[Zo,eg (by omega),Zf]
theorem Ku{N:Nat}(f:∀k,k<c→Zs (j k))(g:∀k,k<c→Zs (t k))(h:∀k,k<c→j k≤t k)(l:c≤1000)(i:c≤N):vB (vx c j) (vx N t)=some true:=by
 unfold vB;refine Zu (y:=.inl ()) (fL (λk=>(k:Int)) c rfl (by omega) (λk d=>?_) ?_) rfl
 ·obtain⟨s,es,hs⟩:=uM (f k d) (g k d);rw[Zo,eo (by omega),Ze,Zw _ d,Za,Zw _ (by omega),Za,es,Za,eg (λe=>h k d (ZB (hs.gt.1 e):t k<j k)),Zf,Zk (by omega) (by omega),Za];rfl
 ·rw[Zo,eg (by omega),Zf]
theorem Ql{g:Nat→Su}(m:∀f,f<d→Ov l c (λi=>y i f) p)(o:Ov L c g N)(u:c≤1000)(r:d≤1000)(s:l+L+4+c≤24900):
  Cw (fg c d y,vx c j,vx d t) (vx c g)=some (vx d λf=>gs c λi=>g i*y i f):=by
 unfold Cw;refine Zu (y:=vx d λ_=>(0:Su)) (by simp only[Zo];exact FE r) ?_;refine Zu (fL (λi=>((i:Int),vx d λf=>gs i λi=>g i*y i f)) c rfl (by omega) (λi h=>?_) ?_) rfl
 ·simp only;rw[jx,eo (by omega),Ze,je _ h,Za];refine Zu (y:=vx d λf=>gs (i+1) λi=>g i*y i f) (fL (λL=>((L:Int),vx d λf=>if f<L then gs (i+1) (λi=>g i*y i f) else gs i (λi=>g i*y i f))) d ?_ (by omega) (λL k=>?_) ?_) (by rw[Zk (by omega) (by omega),Za];rfl)
  ·exact Prod.ext rfl (ZP λf n=>iN (by omega))
  ·simp only;rw[Zo,eo (by omega),Ze,Zw _ k,Za,Zw _ k,Za,Zw _ h,Za,iN (by omega),mE (o.zs (by omega) h) ((m L k).zs (by omega) h),Za,ow (o.dot (m L k) (by omega) (by omega)) (o.mul (m L k) h (by omega)),Za,Za,Zk (by omega) (by omega),Za];simp only[tN];rw[io];refine congrArg (λx=>some (Sum.inl x)) (Prod.ext (by simp) (ZP λf n=>?_));by_cases e:f=L
   ·rw[iP e,iP (by omega),e];rfl
   ·rw[iN e];by_cases q:f<L
    ·rw[iP q,iP (by omega)]
    ·rw[iN q,iN (by omega)]
  ·simp only;rw[Zo,eg (by omega),Zf];exact congrArg (λx=>some (Sum.inr x)) (ZP λf n=>iP n)
 ·simp only;rw[jx,eg (by omega),Zf]
def np{d e f:Type}(a:List (List d))(b:List e)(c:List f):Prop:=a.length=b.length∧b.length≤12∧c.length≤48∧∀r,r ∈ a→r.length=c.length
theorem SC{a:List (List Su)}{b c:List Su}(q:a.length≤1000):∃e,AO (a,b,c)=some e∧((np a b c∧e=0)∨(¬np a b c∧e=4)):=by
  unfold AO;simp only;by_cases j:a.length=b.length
  · rw[show((a.length:Int) != (b.length:Int))=false by simp[j],Zf];by_cases m:b.length≤12
    · rw[eg (show¬(12:Int)<(b.length:Int) by omega),Zf];by_cases n:c.length≤48
      · rw[eg (show¬(48:Int)<(c.length:Int) by omega),Zf];obtain⟨e,o,p⟩:=Bd (body:=λi=>
        dV (decide (i<(a.length:Int)))
        (dU (dX a i) λt=>
         dV ((t.length:Int) != (c.length:Int))
         (some (.inr (.inr i)))
         (dU (chk .i64 (i+(1:Int))) λu=>
          some (.inl u)))
        (some (.inr (.inl ())))) a.length q (λk=>∃r,a[k]?= some r∧r.length≠c.length) (λk d=>by
          rw[eo (by omega),Ze,Zz d,Za];by_cases e:a[k].length=c.length
          · refine .inr ⟨λ⟨r,g,l⟩=>?_,?_⟩
            · rw[List.getElem?_eq_getElem d]at g;cases g;exact l e
            · rw[show((a[k].length:Int) != (c.length:Int))=false by simp[e],Zf,Zk (by omega) (by omega),Za];rfl
          · exact .inl ⟨⟨_,List.getElem?_eq_getElem d,e⟩,by rw[show((a[k].length:Int) != (c.length:Int))=true by simp;omega,Ze]⟩) (by rw[eg (by omega),Zf])
        refine ZM (y:=decide ((0:Int)≤e)) (Zu o rfl) ?_;rcases p with⟨rfl,h⟩ |⟨k,d,rfl,h⟩
        · refine⟨0,rfl,.inl ⟨⟨j,m,n,λr g=>?_⟩,rfl⟩⟩;obtain⟨k,d,e⟩:=List.mem_iff_getElem.1 g;exact Classical.byContradiction λs=>h k d ⟨r,by rw[List.getElem?_eq_getElem d,e],s⟩
        · refine⟨4,by rw[eo (by omega),Ze],.inr ⟨λf=>?_,rfl⟩⟩;obtain⟨r,g,l⟩:=h;exact l (f.2.2.2 r (mG g))
      · rw[eo (show(48:Int)<(c.length:Int) by omega),Ze,Za,Ze];exact⟨4,rfl,.inr ⟨λf=>n f.2.2.1,rfl⟩⟩
    · rw[eo (show(12:Int)<(b.length:Int) by omega),Ze,Za,Ze];exact⟨4,rfl,.inr ⟨λf=>m f.2.1,rfl⟩⟩
  · rw[show((a.length:Int) != (b.length:Int))=true by simp;omega,Ze,Za,Ze];exact⟨4,rfl,.inr ⟨λf=>j f.1,rfl⟩⟩
theorem QP(e:c≤12)(f:d≤48):np (fg c d y) (vx c j) (vx d t):=by
 refine⟨by rw[jx,Zo],by rw[Zo];exact e,by rw[Zo];exact f,λr g=>?_⟩;obtain⟨i,_,rfl⟩:=List.mem_map.1 g;rw[Zo,Zo]
theorem TC{a:List (List Su)}{b c:List Su}(h:np a b c):AO (a,b,c)=some 0:=by
 obtain⟨e,f,d⟩:=SC (a:=a) (b:=b) (c:=c) (by have:=h.1;have:=h.2.1;omega);rcases d with⟨_,rfl⟩ |⟨d,_⟩
 ·exact f
 ·exact absurd h d
theorem uL{a:List (List Su)}{b c:List Su}(g:a.length≤1000)(h:¬np a b c):∃z,BJ (a,b,c)=some (z,4):=by
 obtain⟨e,f,d⟩:=SC (a:=a) (b:=b) (c:=c) g;rcases d with⟨d,_⟩ |⟨_,rfl⟩
 ·exact absurd d h
 ·unfold BJ;rw[f,Za];exact⟨_,rfl⟩
theorem WH{R:Nat}(m:c≤R∨d+1≤R)(e:(fR d y j t).cd eI l c d)(k:c≤12)(n:d≤47)(h:l≤12000)(i:kq l R≤12000):∃z,BJ (fg c d y,vx c j,vx d t)=some (z,0)∧mM c d (kq l R) y j t z:=by
 obtain⟨z,f,g⟩:=Y1 m e (by omega) (by omega) (by omega) h i;refine⟨z,?_,g⟩;unfold BJ;rw[TC (QP k (by omega)),Za];show dU (CZ _) _=_;rw[f,Za]
theorem XX{z:Int×Su×(List Su)×(List Su)×(List Su)}(S:(fR d y j t).cd eI l c d)(hz:mM c d L y j t z)(Y:c≤12)(hn:d≤47)(f:l+L+60≤24900):F' (fg c d y,vx c j,vx d t) z=some true:=by
 obtain⟨D,I,G,H⟩:=S;have B:∀i,i<c→Ov l d (y i) D:=λi n=>⟨I,G,λm q=>H.a i m n q⟩;have J:∀m,m<d→Ov l c (λi=>y i m) D:=λm q=>⟨I,G,λi n=>H.a i m n q⟩;have w:Ov l c j D:=⟨I,G,H.b⟩;have C:Ov l d t D:=⟨I,G,H.z⟩;have A:∀k:Nat,((k:Int)==(k:Int))=true:=λk=>by simp
 have Q:∀{x:Nat→Su} {E:Su},Ov L d x E→mO c d y j x→Bm (fg c d y,vx c j,vx d t) (vx d x)=some true:=λ{x E} p u=>by
  unfold Bm;rw[BZ (λk f=>p.zs (by omega) f) u.nn (by omega),Za,Ze,IX B p (by omega) (by omega) (by omega),Za,Ku (λi n=>(B i n).dot p (Nat.le_refl d) (by omega)) (λi n=>w.zs (by omega) n) u.le (by omega) (Nat.le_refl c)];rfl
 unfold F';rw[TC (QP Y (by omega)),Za,show((0:Int) != (0:Int))=false from rfl,Zf];rcases hz with⟨a0,E,rfl,N,g⟩ |⟨x,a0,v,E,rfl,u,Z,P,hw,p,g,ov⟩ |⟨x,a1,E,rfl,u,M,p,F⟩
 ·simp only[Zo,List.length_nil];obtain⟨b,W⟩:∃b,(dV (((0:Nat):Int)==(d:Int)) (dU (Bm (fg c d y,vx c j,vx d t) []) λy2=>some y2) (some false))=some b:=by
   by_cases h:d=0
   ·subst h;rw[A,Ze];unfold Bm;have X:qo ([]:List Su)=some true:=BZ (n:=0) (x:=λ_=>0) (λk f=>by omega) (λk f=>by omega) (by omega);rw[X,Za,Ze];have o:=IX (R:=c) (n:=0) (M:=y) (x:=λ_=>0) B (⟨g.1,g.2.1,λm q=>by omega⟩:Ov L 0 (λ_=>0) E) (by omega) (by omega) (by omega);have o:BW (fg c 0 y) []=_:=o;rw[o,Za];have K:gc (vB (vx c λi=>gs 0 λm=>y i m*0) (vx c j)) (∀k,k<c→(0:Su)≤j k):=by
     unfold vB;refine(Gj (Q:=True) (GH c (by omega) (λk=>(0:Su)≤j k) (λk f=>?_) ?_) (λ_=>DN trivial) rfl).congr ⟨λh=>h.1,λh=>⟨h,trivial⟩⟩
     ·obtain⟨s,es,hs⟩:=uM yj (w.zs (by omega) f);rw[Zo,eo (by omega),Ze,Zw _ f,Za,Zw _ f,Za];show(_∧dU (oF 0 (j k)) _=_)∨(_∧dU (oF 0 (j k)) _=_);rw[es,Za];by_cases h:(0:Su)≤j k
      ·exact .inl ⟨h,by rw[eg (λe=>h (ZB (hs.gt.1 e):j k<0)),Zf,Zk (by omega) (by omega),Za];rfl⟩
      ·exact .inr ⟨h,by rw[eo (hs.gt.2 (ZB (I3.1 h))),Ze]⟩
     ·rw[Zo,eg (by omega),Zf]
    obtain⟨b,r,_⟩:=K;rw[r];exact⟨b,rfl⟩
   ·exact⟨false,by rw[show(((0:Nat):Int)==(d:Int))=false by simp;omega,Zf]⟩
  rw[W,Za,show((2:Int)==(1:Int))=false from rfl,Zf,show((2:Int)==(2:Int))=true from rfl,Ze,show(((0:Nat):Int)==(0:Int))=true from rfl,Ze,Ze];obtain⟨R,r,o⟩:=GA yj;rw[r,Za,o.2 rfl,Ze,A,Ze,BZ (λk f=>g.zs (by omega) f) N.nn (by omega),Za,Ze,Ql J g (by omega) (by omega) (by omega),Za,BZ (λk f=>g.dot (J k f) (Nat.le_refl c) (by omega)) N.le (by omega),Za,Ze,DC w g (by omega) (by omega),Za];obtain⟨s,es,hs⟩:=xK (w.dot g (Nat.le_refl c) (by omega));rw[es,Za,eo (hs.lt.2 N.neg)];rfl
 ·simp only[Zo,List.length_nil];rw[A,Ze,Q p u,Za,Za,show((1:Int)==(1:Int))=true from rfl,Ze,Ze];unfold Kz;simp only[Zo];have O:Zs v:=jG g.1 ov g.2.1 (by omega);obtain⟨b1,r,o⟩:=wV O (C.dot p (Nat.le_refl d) (by omega));obtain⟨b2,U,K⟩:=wV O (w.dot g (Nat.le_refl c) (by omega));rw[A,Ze,BZ (λk f=>g.zs (by omega) f) P.nn (by omega),Za,Ze,Ql J g (by omega) (by omega) (by omega),Za,Ku (λm q=>C.zs (by omega) q) (λm q=>g.dot (J m q) (Nat.le_refl c) (by omega)) P.le (by omega) (Nat.le_refl d),Za,Za,Za,Ze,show(((0:Nat):Int)==(0:Int))=true from rfl,Ze,DC C p (by omega) (by omega),Za,r,Za,o.2 Z,Ze,DC w g (by omega) (by omega),Za,U,Za,K.2 hw];rfl
 ·simp only[Zo,List.length_nil];obtain⟨R,r,o⟩:=GA yj;rw[A,Ze,Q p u,Za,Za,show((3:Int)==(1:Int))=false from rfl,Zf,show((3:Int)==(2:Int))=false from rfl,Zf,show((3:Int)==(3:Int))=true from rfl,Ze,show(!true)=false from rfl,Zf,eg (show¬(0:Int)<((0:Nat):Int) by omega),Zf,r,Za,o.2 rfl,show(!true)=false from rfl,Zf,show((d:Int) != (d:Int))=false by simp,Za,Zf,BZ (λk f=>F.zs (by omega) f) M.nn (by omega),Za,Ze,IX B F (by omega) (by omega) (by omega),Za,FE (by omega),Za,Ku (λi n=>(B i n).dot F (Nat.le_refl d) (by omega)) (λi n=>yj) M.le (by omega) (Nat.le_refl c),Za,Ze,DC C F (by omega) (by omega),Za];obtain⟨s,es,hs⟩:=xK (C.dot F (Nat.le_refl d) (by omega));rw[es,Za,eo (hs.gt.2 M.pos)];rfl
theorem T6{a:List (List (Rat×Rat×Rat×Rat))}{b c:List (Rat×Rat×Rat×Rat)}(g:a.length≤1000):gc (Bt (a,b,c)) (np a b c):=by
 unfold Bt np;simp only;refine(rJ (P:=a.length=b.length∧b.length≤12∧c.length≤48) (Q:=∀k,k<a.length→∀r,a[k]?= some r→r.length=c.length) ?_ λh=>?_).congr ⟨λh=>⟨h.1.1,h.1.2.1,h.1.2.2,λr f=>by
  obtain⟨k,d,e⟩:=List.mem_iff_getElem.1 f;exact h.2 k d r (by rw[List.getElem?_eq_getElem d,e])⟩,λh=>⟨⟨h.1,h.2.1,h.2.2.1⟩,λk d r f=>h.2.2.2 r (mG f)⟩⟩
 ·refine xT (Nw _ _) λ_=>?_;refine xT (P:=b.length≤12) (by rw[decide_eq_true_iff];omega) λ_=>?_;exact ZeF (by rw[decide_eq_true_iff];omega)
 ·refine(Gj (Q:=True) (GH a.length (by omega) (λk=>∀r,a[k]?= some r→r.length=c.length) (λk d=>?_) ?_) (λ_=>DN trivial) rfl).congr ⟨λh=>h.1,λh=>⟨h,trivial⟩⟩
  ·rw[eo (by omega),Ze,Zz d,Za];by_cases e:a[k].length=c.length
   ·refine .inl ⟨λr f=>?_,?_⟩
    ·rw[List.getElem?_eq_getElem d]at f;cases f;exact e
    ·rw[show((a[k].length:Int) != (c.length:Int))=false by simp[e],Zf,Zk (by omega) (by omega),Za];rfl
   ·exact .inr ⟨λh=>e (h _ (List.getElem?_eq_getElem d)),by rw[show((a[k].length:Int) != (c.length:Int))=true by simp;omega,Ze]⟩
  ·rw[eg (by omega),Zf]
theorem ZfB(f:c≤12)(g:d≤48):Bt (uJ c d y,tv c j,tv d t)=some true:=by
 obtain⟨b,e,h⟩:=T6 (a:=uJ c d y) (b:=tv c j) (c:=tv d t) (by rw[vH];omega);rw[e,h.2 ⟨by rw[vH,kU],by rw[kU];exact f,by rw[kU];exact g,λr k=>by
  obtain⟨i,_,rfl⟩:=List.mem_map.1 k;rw[kU,kU]⟩]
theorem Ov.dif{b:Su}(h:Ov c l j p)(f:Ov d l t N)(m:eI c (b*p))(n:c+d+6+l≤24900):Zs ((gs l λe=>j e*t e)-b):=by
 refine jG (k:=c+d+5+l) (nG h.1 f.1) ?_ ((h.2.1.mul f.2.1).mono (by omega)) (by omega);have i:eI (c+d+4+l) ((gs l λe=>j e*t e)*(p*N)):=by
  rw[show(gs l λe=>j e*t e)*(p*N)=p*N*gs l λe=>j e*t e from Cring.mul_comm _ _,←xV];refine(SV (k:=c+d+4) λe g=>?_).mono (by omega);rw[show p*N*(j e*t e)=j e*p*(t e*N) from rg];exact(h.2.2 e g).mul (f.2.2 e g)
 have k:=(i.add (((m.mul f.2.1).neg).mono (show c+d+4≤c+d+4+l by omega))).mono (show _≤c+d+5+l by omega);rw[show((gs l λe=>j e*t e)-b)*(p*N)=(gs l λe=>j e*t e)*(p*N)+-(b*p*N) from rg];exact k
theorem wC(f g:Nat→Su):(gs c λj=>f j*g j)=gs c λj=>g j*f j:=gN λj _=>Cring.mul_comm _ _
theorem VB{z:Int×Su×(List Su)×(List Su)×(List Su)}(c0:(fR d y j t).cd eI l c d)(hz:mM c d L y j t z)(hm:c≤12)(hn:d≤47)(m:l+L+60≤24900):FP (uJ c d y,tv c j,tv d t) (z.1,ts z.2.1,z.2.2.1.map ts,z.2.2.2.1.map ts,z.2.2.2.2.map ts)=some true:=by
 obtain⟨D,I,H,r⟩:=c0;have A:∀i,i<c→Ov l d (y i) D:=λi h=>⟨I,H,λg u=>r.a i g h u⟩;have F:∀g,g<d→Ov l c (λi=>y i g) D:=λg u=>⟨I,H,λi h=>r.a i g h u⟩;have B:Ov l c j D:=⟨I,H,r.b⟩;have C:Ov l d t D:=⟨I,H,r.z⟩;have R:∀(k:Nat) (f:Nat→Su),(vx k f).map ts=tv k f:=λk f=>by unfold tv vx;rw[List.map_map];rfl
 have e0:∀k:Nat,((k:Int)==(k:Int))=true:=λk=>by simp
 have N:∀k:Nat,((k:Int) != (k:Int))=false:=λk=>by simp
 have J:∀{k:Nat} {x:Nat→Su} {E:Su},k≤60→Ov L k x E→(∀g,g<k→0≤x g)→vO (tv k x)=some true:=λm o p=>ZrE (λg u=>o.zs (by omega) u) p (by omega);have W:∀{x:Nat→Su} {E:Su},Ov L d x E→mO c d y j x→DS (uJ c d y,tv c j,tv d t) (tv d x)=some true:=λ{x E} o p=>by
  unfold DS;refine Zu (y:=.inl ()) (fL (λk=>(k:Int)) c rfl (by omega) (λi h=>?_) ?_) (by simp only;rw[J (by omega) o p.nn,Za])
  ·simp only;have M:=(A i h).dif o (r.b i h) (by omega);obtain⟨s,es,hs⟩:=NO ((A i h).dot o (Nat.le_refl d) (by omega)) (B.zs (by omega) h) M;rw[vH,eo (by omega),Ze,Ka _ h,Za,ve (A i h) o (by omega) (Nat.le_refl d) (by omega),Za,BV _ h,Za,es,Za,eg (λe=>p.le i h (ZB (hs.gt.1 e):j i<gs d λg=>y i g*x g)),Zf,Zk (by omega) (by omega),Za];rfl
  ·simp only;rw[vH,eg (by omega),Zf]
 unfold FP;rw[ZfB hm (by omega),Za,show(!true)=false from rfl,Zf];rcases hz with⟨K,E,rfl,Q,n⟩ |⟨x,K,v,E,rfl,p,hv,Y,hw,o,n,ov⟩ |⟨x,U,E,rfl,p,P,o,G⟩
 ·simp only[R,kU,List.map_nil,List.length_nil];obtain⟨Z,S,O⟩:=Iq 0;rw[show((2:Int)==(1:Int))=false from rfl,Zf,S,Za,O.2 rfl,show(!true)=false from rfl,Zf,show((2:Int)==(2:Int))=true from rfl,Ze,eg (show¬(0:Int)<((0:Nat):Int) by omega),Zf,Zf,N,Zf,J (by omega) n Q.nn,Za,show(!true)=false from rfl,Zf,ve B n (by omega) (Nat.le_refl c) (by omega),Za];obtain⟨s,es,hs⟩:=Bz (B.dot n (Nat.le_refl c) (by omega));rw[es,Za,eg (λq=>by have:=hs.lt.2 Q.neg;omega),Za,Zf];refine Zu (y:=.inl ()) (fL (λk=>(k:Int)) d rfl (by omega) (λk m=>?_) ?_) rfl
  ·have zz:=(F k m).dot n (Nat.le_refl c) (by omega);obtain⟨s,es,hs⟩:=Bz zz;have w:=Q.le k m;rw[wC]at w;rw[eo (by omega),Ze,Q6 m (by omega),Za,ve (F k m) n (by omega) (Nat.le_refl c) (by omega),Za,es,Za,eg (λe=>w (ZB (hs.lt.1 e):(gs c λg=>y g k*K g)<0)),Zf,Zk (by omega) (by omega),Za];rfl
  ·rw[eg (by omega),Zf]
 ·simp only[R,kU,List.map_nil,List.length_nil];have X:Zs v:=jG n.1 ov n.2.1 (by omega);have du:HA (uJ c d y,tv c j,tv d t) (tv c K)=some true:=by
   unfold HA;simp only[kU];rw[N,Zf,J (by omega) n Y.nn,Za];show dU (some false) _=_;rw[Za,Zf];refine Zu (y:=.inl ()) (fL (λk=>(k:Int)) d rfl (by omega) (λk m=>?_) ?_) rfl
   ·have M:=(F k m).dif n (r.z k m) (by omega);obtain⟨s,es,hs⟩:=NO ((F k m).dot n (Nat.le_refl c) (by omega)) (C.zs (by omega) m) M;have w:=Y.le k m;rw[wC]at w;rw[eo (by omega),Ze,Q6 m (by omega),Za,ve (F k m) n (by omega) (Nat.le_refl c) (by omega),Za,BV _ m,Za,es,Za,eg (λe=>w (ZB (hs.lt.1 e):(gs c λg=>y g k*K g)<t k)),Zf,Zk (by omega) (by omega),Za];rfl
   ·rw[eg (by omega),Zf]
  rw[show((1:Int)==(1:Int))=true from rfl,Ze,show(((0:Nat):Int)==(0:Int))=true from rfl,Ze,e0,Ze,W o p,Za,Ze,du,Za,Ze,ve C o (by omega) (Nat.le_refl d) (by omega),Za,QR X (C.dot o (Nat.le_refl d) (by omega)) hv,Za,Ze,ve B n (by omega) (Nat.le_refl c) (by omega),Za,QR X (B.dot n (Nat.le_refl c) (by omega)) hw];rfl
 ·simp only[R,kU,List.map_nil,List.length_nil];obtain⟨Z,S,O⟩:=Iq 0;rw[show((3:Int)==(1:Int))=false from rfl,Zf,S,Za,O.2 rfl,show(!true)=false from rfl,Zf,show((3:Int)==(2:Int))=false from rfl,Zf,show((3:Int) != (3:Int))=false from rfl,Zf,eg (show¬(0:Int)<((0:Nat):Int) by omega),Zf,N,Zf,Zf,W o p,Za,show(!true)=false from rfl,Zf,J (by omega) G P.nn,Za];show dU (some false) _=_;rw[Za,Zf];refine Zu (y:=.inl ()) (fL (λk=>(k:Int)) c rfl (by omega) (λi h=>?_) ?_) ?_
  ·obtain⟨s,es,hs⟩:=Bz ((A i h).dot G (Nat.le_refl d) (by omega));rw[vH,eo (by omega),Ze,Ka _ h,Za,ve (A i h) G (by omega) (Nat.le_refl d) (by omega),Za,es,Za,eg (λe=>P.le i h (ZB (hs.gt.1 e):0<gs d λg=>y i g*U g)),Zf,Zk (by omega) (by omega),Za];rfl
  ·rw[vH,eg (by omega),Zf]
  ·show dU (mB (tv d t) (tv d U)) _=_;obtain⟨s,es,hs⟩:=Bz (C.dot G (Nat.le_refl d) (by omega));rw[ve C G (by omega) (Nat.le_refl d) (by omega),Za,es,Za,eo (hs.gt.2 P.pos)]
def mj(l:List UInt8):Prop:=∀c ∈ l,48≤c.toNat∧c.toNat≤57
def dv(a:Nat)(l:List UInt8):Nat:=l.foldl (λa c=>10*a+(c.toNat-48)) a
theorem SI(a:Nat)(x y:List UInt8):dv a (x++y)=dv (dv a x) y:=List.foldl_append
theorem L5:∀(l:List UInt8) (a:Nat),dv a l=a*10^l.length+dv 0 l
 |[],a=>by unfold dv;simp
 |c :: l,a=>by
  have e:dv a (c :: l)=dv (10*a+(c.toNat-48)) l:=rfl
  have f:dv 0 (c :: l)=dv (10*0+(c.toNat-48)) l:=rfl
  rw[e,f,L5 l (10*a+(c.toNat-48)),L5 l (10*0+(c.toNat-48)),List.length_cons,Nat.pow_succ]
  generalize 10^l.length=p
  generalize c.toNat-48=d
  grind
theorem nR:∀(l:List UInt8),mj l→dv 0 l<10^l.length
 |[],_=>by unfold dv;simp
 |c :: l,h=>by
  have d:dv 0 (c :: l)=dv (10*0+(c.toNat-48)) l:=rfl
  have f:=h c (List.mem_cons_self ..)
  have g:=nR l λx e=>h x (List.mem_cons_of_mem _ e)
  rw[d,L5 l,List.length_cons,Nat.pow_succ]
  generalize 10^l.length=p at *
  have:(10*0+(c.toNat-48))*p≤9*p:=mR _ (by omega)
  omega
theorem Up:∀(k n:Nat),n≤k→mj (ZI n)∧dv 0 (ZI n)=n
 |k,0,_=>by rw[lp];exact⟨λc d=>(by cases d),rfl⟩
 |0,n+1,h=>by omega
 |k+1,n+1,h=>by
  obtain⟨a,b⟩:=Up k ((n+1) / 10) (by omega)
  have e:(UInt8.ofNat (48+(n+1)%10)).toNat=48+(n+1)%10:=by simp;omega
  rw[pU (by omega)]
  refine⟨λc d=>?_,?_⟩
  ·rcases List.mem_append.1 d with d |d
   ·exact a c d
   ·rw[List.mem_singleton.1 d,e];omega
  ·rw[SI,b]
   show 10*((n+1) / 10)+((UInt8.ofNat (48+(n+1)%10)).toNat-48)=n+1
   rw[e];omega
theorem OI:∀(k n:Nat),n≤k→n≠0→∃c l,ZI n=c :: l∧c.toNat≠48
 |k,0,_,h=>absurd rfl h
 |0,n+1,h,_=>by omega
 |k+1,n+1,h,_=>by
  rw[pU (by omega)]
  by_cases d:(n+1) / 10=0
  ·rw[d,lp]
   exact⟨_,_,rfl,by simp;omega⟩
  ·obtain⟨c,l,e,f⟩:=OI k ((n+1) / 10) (by omega) d
   rw[e]
   exact⟨c,_,rfl,f⟩
theorem Kn(n:Nat):mj (ZW n)∧dv 0 (ZW n)=n∧0<(ZW n).length∧((ZW n).length=1∨(ZW n).getD 0 0≠48):=by
 unfold ZW;by_cases h:n=0
 ·rw[iP h];subst h;exact⟨λc d=>by rw[List.mem_singleton.1 d];decide,rfl,by decide,.inl rfl⟩
 ·rw[iN h];obtain⟨a,b⟩:=Up n n (Nat.le_refl _);obtain⟨c,l,e,d⟩:=OI n n (Nat.le_refl _) h;refine⟨a,b,by rw[e];simp,.inr ?_⟩;rw[e];intro k;apply d;have:c=48:=k;rw[this];rfl
noncomputable def mh(i:List UInt8):Option Nat :=
 dU (Zg (σ:=Nat×Int) (ρ:=Nat) (λa=>
 dV (decide (a.2<(i.length:Int)))
 (dU (gx [(10:Int)]) λb=>
 dU (gJ a.1 b) λc=>
 dU (dX i a.2) λd=>
 dU (kg (IntKind.u64.wrap (IntKind.u8.wrap (((d.toNat:Nat):Int)-(48:Int))))) λe=>
 dU (mH c e) λf=>
 dU (chk .i64 (a.2+(1:Int))) λg=>
 some (.inl (f,g)))
 (some (.inr a.1)))
  Zh ((0:Nat),(0:Int))) λh=>
 some h
theorem Tp:∀(k n:Nat),n<10^k→(ZI n).length≤k
 |0,n,h=>by
  have:n=0:=by simpa using h
  rw[this];unfold ZI;simp
 |k+1,n,h=>by
  unfold ZI
  split
  ·simp
  ·have:=Tp k (n / 10) (by rw[Nat.pow_succ]at h;omega)
   simp;omega
theorem Vk(n:Nat):(ZW n).length≤bl n+1:=by
 unfold ZW;split
 ·simp
 ·have h:n<10^bl n:=Nat.lt_of_lt_of_le (mV n) (Nat.pow_le_pow_left (by decide) _);have:=Tp _ _ h;omega
theorem yQ(h:mj w):(Zc 4294967296 (dv 0 w)).length≤w.length:=by
 refine oR (Nat.lt_of_lt_of_le (nR w h) (Nat.pow_le_pow_left (by decide) _))
theorem S2(h:mj w)(k:Nat):mj (w.take k):=λc d=>h c (List.mem_of_mem_take d)
theorem Vi(h:mj w)(k:w.length≤10000000000):mh w=some (dv 0 w):=by
 unfold mh;have f:gx [(10:Int)]=some 10:=by decide +kernel
 refine Zu (y:=dv 0 w) (fL (λq=>(dv 0 (w.take q),(q:Int))) w.length (by simp[dv]) (by omega) (λq c=>?_) ?_) rfl
 ·simp only;have e:w.take (q+1)=w.take q++[w[q]]:=by rw[List.take_succ_eq_append_getElem c]
  have j:=h _ (List.getElem_mem c);have hs:=yQ (S2 h q);rw[List.length_take]at hs;have ev:dv 0 (w.take (q+1))=dv 0 (w.take q)*10+(w[q].toNat-48):=by rw[e,SI];unfold dv;simp;omega
  have l:(Zc 4294967296 (dv 0 (w.take q)*10)).length≤q+1:=by
   refine oR ?_;have:=nR _ (S2 h q);rw[List.length_take,Nat.min_eq_left (by omega)]at this;have i:10^q≤4294967296^q:=Nat.pow_le_pow_left (by decide) _;rw[Nat.pow_succ];omega
  have g:IntKind.u64.wrap (IntKind.u8.wrap (((w[q].toNat:Nat):Int)-(48:Int)))=((w[q].toNat-48:Nat):Int):=by
   have d:IntKind.u8.wrap (((w[q].toNat:Nat):Int)-(48:Int))=((w[q].toNat-48:Nat):Int):=by
    rw[show((w[q].toNat:Nat):Int)-(48:Int)=((w[q].toNat-48:Nat):Int) by omega];exact lx (Mu.2 (by omega))
   rw[d];exact lx (kE.2 (by omega))
  have m:(Zc 4294967296 (w[q].toNat-48)).length≤1:=oR (by omega);rw[eo (by omega),Ze,f,Za];unfold gJ kg mH;rw[iP ⟨(by unfold ZL;omega),(by unfold ZL;have:(Zc 4294967296 10).length≤1:=oR (by omega);omega)⟩,Za,Zz c,Za,g,Za,tN,iP ⟨(by unfold ZL;omega),(by unfold ZL;omega)⟩,Za,Zk (by omega) (by omega),Za,ev];rfl
 ·simp only;rw[eg (by omega),Zf,List.take_length]
theorem D1{l:List D}{i j:Nat}(h:i≤j)(c:j≤l.length):Z4 l (i:Int) (j:Int)=some ((l.take j).drop i):=by
 unfold Z4;rw[iP ⟨by omega,by omega,by omega⟩,tN,tN]
end
theorem Pa{N:Nat}{c:Zb}{a:Act}{v:Zb}{ty:TypeId}{t:T}(hs:St N n c [] g v a o):∀k:Nat,∃es,gk v ty t (List.replicate k (none,0)) (List.replicate k ([]:List t.den)) es∧St N n c [] (es++g) v a o
 |0=>⟨[],rfl,hs⟩
 |k+1=>by
  obtain⟨es,d,e⟩:=Pa hs k
  exact⟨.own none ty t.n 0 0 [] :: es,⟨[],es,rfl,rfl,d⟩,e.nilLoc ty t.n⟩
theorem O8:∀k:Nat,Zq (List.replicate k ((none:Option Nat),0)) (List.replicate k ([]:List D))=(List.replicate k [Value.slice none 0 0]).flatten
 |0=>rfl
 |k+1=>by simp only[List.replicate_succ,Zq,List.flatten_cons,O8 k];rfl
theorem Xc{N:Nat}{a:Act}{v:Zb}{aa:List dY}{D:Nat}{d:Option Nat}{ty:TypeId}{pos:String}{aft:Array Edge}{g:Option (Nat×Bool)}(p:dZ N f n k h m E B a o i v aa)(Z:∀u,h u→m u)(hX:m D)(hn:¬h D){y:Operand}(ho:K=⟨d,.makeSlice H O y,ty,pos,aft,g⟩)(hd:∀u,K.dst=some u→u<N)(c:Zn D (Z3 X D K) E B e):gP X.P N f n k m K a o e:=by
 subst ho;simp only[Z3]at c;obtain⟨V1,F,_,S⟩:=Z0 p c;obtain⟨V2,w,_,U⟩:=Z0 p S;obtain⟨κ,l,rfl,W⟩:=oD U;obtain⟨ae,j,rfl,hD⟩:=oD W;clear c S U W;have c:=hD;obtain⟨e1,_⟩:=lH F;obtain⟨e2,_⟩:=lH w;split at c
 ·rename_i q dd hq;obtain⟨I,ab⟩:=J7 hq;obtain⟨_,a1,c⟩:=c;obtain⟨m0,m1,m2,m3⟩:=nA a1;obtain⟨P,Y,hp⟩:=p.lr;have a5:=p.st.perm hp;obtain⟨σ,a9,Q,R⟩:=a5.ev2 O y;rw[e1]at Q;rw[e2]at R;obtain⟨b,w',a4,J⟩:=Ge I a9 m0 m1 m2 m3;have a0:=a4 (d:=some dd) (ty:=ty) (pos:=pos) (aft:=aft) (g:=g) Q R;split at c
  ·split at c
   ·rename_i q2 r ad L x;have x:=eH x;split at c
    ·rename_i s hs;split at c
     ·have a7:q.z.cells.toList=[.slice none 0 0]:=by
       have F:=vJ L;have w:=I.cells;rw[x]at w;have G:q.z.cells.toList.length=1:=by simpa using w
       rw[F]at G ⊢;simp at G;rw[G]
      obtain⟨es,hR,A⟩:=Pa (ty:=q2.e) (t:=s) J.bare l.toNat;have a6:St N n k [] (.own (some b) q.e 1 (List.replicate l.toNat ([]:List s.den)).length j.toNat (Zq (List.replicate l.toNat ((none:Option Nat),0)) (List.replicate l.toNat ([]:List s.den))) :: es++P.flatten) v a w':=by
       rw[O8,List.length_replicate];rw[x,a7]at A;exact A.perm List.perm_middle
      have t:=a0;rw[show(Value.slice (eF (some b)) l.toNat j.toNat)= .slice (eF (some b)) (List.replicate l.toNat ([]:List s.den)).length j.toNat by rw[List.length_replicate]]at t;exact Hp p Z hX hn hd Y rfl hR a6 t c
     ·exact c.elim
    ·exact c.elim
   ·exact c.elim
  ·split at c
   ·rename_i s hs;split at c
    ·rename_i z r L a8 C;have C:=eH C;obtain⟨c1,M,k2⟩:=Qn (v:=v) a8 L;have hl:=ee.len _ k2;have hc:=I.cells;have a2:r=[]:=by
      have:q.z.cells.toList.length=q.sz:=by simpa using hc
      rw[M,lA,hl,ZK,C]at this;exact List.length_eq_zero_iff.1 (by omega)
     rw[a2,List.append_nil]at M;have a3:=ya k2 l.toNat;rw[M]at J;have A:St N n k [] (.own (some b) q.e s.n (List.replicate l.toNat z).length j.toNat (List.replicate l.toNat c1).flatten :: P.flatten) v a w':=by
      rw[List.length_replicate,←C];exact J.bare
     have t:=a0;rw[show(Value.slice (eF (some b)) l.toNat j.toNat)= .slice (eF (some b)) (List.replicate l.toNat z).length j.toNat by rw[List.length_replicate]]at t;exact BP p Z hX hn hd Y rfl A a3 t c
    ·exact c.elim
   ·exact c.elim
 ·exact c.elim
theorem SQ{v:Zb}{x:V}(c:RR v i B false x R)(d:x.ok h):RR v i B false (yk x) R∧(yk x).ok h:=by
 unfold yk;split
 ·split
  ·rename_i g;obtain⟨e,f⟩:=JG (U:=h) (γ:=i) (l:=B) g c;exact⟨e,f⟩
  ·exact⟨c,d⟩
 ·exact⟨c,d⟩
theorem S8:∀{e:List Field},Hd F e=true→∀w,∃L:List (Nat×Nat),(e.mapM λ(f:Field)=>(do pure (f.offset,←sizeOf f.type):Sem (Nat×Nat))).run F w= .ok L w∧∀(i:Nat) c,e[i]?= some c→∃d,F.info? c.type=some d∧L[i]?= some (c.offset,d.size)
 |[],_,w=>⟨[],by simp,λi c h=>by simp at h⟩
 |c :: e,h,w=>by
  simp only[Hd]at h
  split at h
  ·rename_i d k
   obtain⟨L,j,m⟩:=S8 h w
   refine⟨(c.offset,d.size) :: L,?_,λi l g=>?_⟩
   ·simp at j
    simp[List.mapM_cons,F4 k,j]
   ·cases i with
    |zero=>simp at g;subst g;exact⟨d,k,rfl⟩
    |succ i=>simp at g;simpa using m i l g
  ·cases h
theorem Vl{v:Zb}{t:Array Field}(hs:F.underlying C=some (.struct t)){J:Nat→Option (Nat×Nat)}(hp:∀(H:Nat) (k:Field),t.toList[H]?= some k→∃s,F.info? k.type=some s∧J H=some (k.offset,s.size)):
  ∀ {ps:List (Nat×Operand)} {c z j:V} {l:List Value} {g:List Value},RR v i B true c g→c.ok h→g.length=ps.length→RR v i B false z l→z.ok h→tE F C z (kB ps c)=some j→
  ∃ n,Instr.fill J l.toArray ((ps.map (·.1)).zip g)=some n.toArray∧RR v i B false j n∧j.ok h∧j.isAgg=z.isAgg
 |[],c,z,j,l,g,o,A,r,G,D,f=>by
  have U:g=[]:=List.length_eq_zero_iff.1 r
  subst U
  have f:some z=some j:=by
   cases c <;> exact f
  cases f
  exact⟨l,rfl,G,D,rfl⟩
 |p :: ps,c,z,j,l,g,o,A,r,G,D,f=>by
  cases g with
  |nil=>simp at r
  |cons y g=>
   cases c with
   |cons x c=>
    obtain⟨I,vs,e,u,L⟩:=o
    cases e
    simp only[kB,tE]at f;split at f
    ·rename_i k w;split at f
     ·rename_i q m;split at f
      ·rename_i zz E O S;have E:=eH E;obtain⟨W,X,Y,Z⟩:=vI FU S G u D A.1;have N:t.toList[p.1]?= some k:=by
        unfold r7 at w;rw[hs]at w;exact w
       obtain⟨s,P,R⟩:=hp _ _ N;have Q:I.length=s.size:=by
        rw[o6 u,E];unfold kW at m;rw[P]at m;split at m
        ·rename_i H d K e2;cases K;cases m;rfl
        ·cases m
       obtain⟨M,_⟩:=HG u O;obtain⟨n,q1,q2,q3,q4⟩:=Vl hs hp (ps:=ps) L A.2 (by simpa using r) W X f;refine⟨n,?_,q2,q3,q4.trans Z⟩;simp only[List.map_cons,List.zip_cons_cons];rw[JY (cs:=I) (off:=k.offset) (by rw[R,Q]) M (by simpa using Y)]
       simpa using q1
      ·cases f
     ·cases f
    ·cases f
   |nl=>cases(show(y :: g)=[] from o)
   |_=>exact(show False from o).elim
theorem TP{v:Zb}{sz:Nat}{places:Nat→Option (Nat×Nat)}(hp:∀w,w<c→places w=some (w*sz,sz)):
  ∀ {ps:List (Nat×Operand)} {f z j:V} {k:List Value} {d:List Value},RR v i B true f d→f.ok h→d.length=ps.length→RR v i B false z k→z.ok h→tD c sz z (kB ps f)=some j→
  ∃ l,Instr.fill places k.toArray ((ps.map (·.1)).zip d)=some l.toArray∧RR v i B false j l∧j.ok h∧j.isAgg=z.isAgg
 |[],f,z,j,k,d,m,q,n,u,r,g=>by
  have H:d=[]:=List.length_eq_zero_iff.1 n
  subst H
  have g:some z=some j:=by
   cases f <;> exact g
  cases g
  exact⟨k,rfl,u,r,rfl⟩
 |p :: ps,f,z,j,k,d,m,q,n,u,r,g=>by
  cases d with
  |nil=>simp at n
  |cons y d=>
   cases f with
   |cons x f=>
    obtain⟨A,Q,e,o,C⟩:=m
    cases e
    simp only[kB,tD]at g;split at g
    ·rename_i zz s t E G;have s:p.1<c:=lB s;have t:=eH t;obtain⟨I,J,K,L⟩:=vI FU G u o r q.1;have F:A.length=sz:=by rw[o6 o,t]
     obtain⟨D,_⟩:=HG o E;obtain⟨l,M,N,O,P⟩:=TP hp (ps:=ps) C q.2 (by simpa using n) I J g;refine⟨l,?_,N,O,P.trans L⟩;simp only[List.map_cons,List.zip_cons_cons];rw[JY (cs:=A) (off:=p.1*sz) (by rw[hp _ s,F]) D (by simpa using K)]
     simpa using M
    ·cases g
   |nl=>cases(show(y :: d)=[] from m)
   |_=>exact(show False from m).elim
theorem VI{N:Nat}{a:Act}{v:Zb}(x:dZ N f n k h m E B a o i v g)(G:∀Q,h Q→m Q)(Z:m d){l:Array (Nat×Operand)}(ho:K=⟨r,.build H l,C,I,A,q⟩)(hd:∀Q,K.dst=some Q→Q<N)(j:Zn d (Z3 X d K) E B e):gP X.P N f n k m K a o e:=by
 subst ho;simp only[Z3]at j;split at j
 ·rename_i z fs hz U;split at j
  ·rename_i a7 P a0;obtain⟨y,R,hy,a1,W,S,_⟩:=KH (v:=v) (γ:=i) (l:=B) (U:=h) hz;obtain⟨L,a4,a6⟩:=S8 a7 o;have hA:(fs.mapM λ(E:Field)=>(do pure (E.offset,←sizeOf E.type):Sem (Nat×Nat))).run X.P o= .ok L.toArray o:=by
    rw[Array.mapM_eq_mapM_toList];simp at a4;simp[a4]
   have aa:∀(s:Nat) (M:Field),fs.toList[s]?= some M→∃t,X.P.info? M.type=some t∧(L.toArray[·]?) s=some (M.offset,t.size):=λs M hi=>by
    obtain⟨t,w,O⟩:=a6 s M hi;exact⟨t,w,by simpa using O⟩
   have J:∀(Y:List (Nat×Value)) (u:List Value),l.toList.map (λp=>(p.1,a.eval p.2))=Y→Instr.fill (L.toArray[·]?) R.toArray Y=some u.toArray→(execOp a.eval ⟨r,.build H l,C,I,A,q⟩).run X.P o= .ok (.value (.agg u.toArray)) o:=by
    intro Y u hv hf;obtain⟨σ,a3,J⟩:=x.st.evs (l.toList.map (·.2));refine OS a3 Y ?_ ?_
    ·rw[←hv,List.map_map];refine List.map_congr_left λp hp=>?_;rw[J p.2 (List.mem_map.2 ⟨p,hp,rfl⟩)];rfl
    ·simp at hA hf;simp[Instr.build,hy o,a1,run_underlying U,hA,hf]
   split at j
   ·rename_i a5;refine fS x G (J [] R (by rw[a5];rfl) rfl) hd Z ?_ (V.ok.mono G S) j;have:=km W (λc F=>by subst F;cases a0);unfold V.val at this;rw[a0]at this;exact this
   ·rename_i a5;obtain⟨c,w,O,j⟩:=xN x j;split at j
    ·rename_i z' a2;obtain⟨o1,o2⟩:=SQ W S;have ab:=w;rw[List.map_map]at w;obtain⟨u,k1,k2,k3,D⟩:=Vl U aa (ps:=l.toList) w O (by simp) o1 o2 a2;refine fS x G (J _ u rfl ?_) hd Z ?_ (V.ok.mono G k3) j
     ·rw[←k1];congr 1;rw[List.zip_map,←List.map_id (l.toList.zip l.toList)];simp[List.zip_eq_zipWith,List.zipWith_self,List.map_map]
     ·have:=km k2 (λc F=>by subst F;rw[P]at D;cases D);unfold V.val at this;rw[D,P]at this;exact this
    ·exact j.elim
  ·exact j.elim
 ·rename_i z ad F hz U;split at j
  ·rename_i t a8 P a0;obtain⟨y,R,hy,a1,W,S,_⟩:=KH (v:=v) (γ:=i) (l:=B) (U:=h) hz;obtain⟨c,w,O,j⟩:=xN x j;split at j
   ·rename_i z' a2;obtain⟨o1,o2⟩:=SQ W S;rw[List.map_map]at w;obtain⟨u,k1,k2,k3,D⟩:=TP (places:=λs=>some (s*t.size,t.size)) (λs _=>rfl) (ps:=l.toList) w O (by simp) o1 o2 a2;obtain⟨σ,a3,J⟩:=x.st.evs (l.toList.map (·.2));have a9:Instr.fill (λs=>some (s*t.size,t.size)) R.toArray (l.toList.map λp=>(p.1,a.eval p.2))=some u.toArray:=by
     rw[←k1];congr 1;rw[List.zip_map,←List.map_id (l.toList.zip l.toList)];simp[List.zip_eq_zipWith,List.zipWith_self,List.map_map]
    refine fS x G (OS a3 (l.toList.map λp=>(p.1,a.eval p.2)) ?_ (z:=.agg u.toArray) ?_) hd Z ?_ (V.ok.mono G k3) j
    ·rw[List.map_map];refine List.map_congr_left λp hp=>?_;rw[J p.2 (List.mem_map.2 ⟨p,hp,rfl⟩)];rfl
    ·simp[Instr.build,hy o,a1,run_underlying U,F4 a8,a9]
    ·have:=km k2 (λc F=>by subst F;rw[P]at D;cases D);unfold V.val at this;rw[D,P]at this;exact this
   ·exact j.elim
  ·exact j.elim
 ·exact j.elim
def CT.isAgg:CT→Bool
 |.dat t=>t.agg
 |.agg _=>true
 |_=>false
def CT.vl(c:CT)(d:List Value):Value:=match c.isAgg with
 |true=>.agg d.toArray
 |false=>d.headD Go.undef
def CR(v:Zb):(c:CT)→Bool→c.den→List Value→List dY→Prop
 |.dat t,false,x,e,es=>t.rep.rel v e x∧es=[]
 |.own k t,false,(h:List t.den),e,es=>∃ob i d,e=[.slice (eF ob) h.length i]∧t.rep.rels v d h∧es=[.own ob k t.n h.length i d]
 |.mat k p t,false,(m:List (List t.den)),e,es=>∃ob i o n,e=[.slice (eF ob) m.length i]∧gk v p t o m n∧es= .own ob k 1 m.length i (Zq o m) :: n
 |.nl,_,_,e,es=>e=[]∧es=[]
 |.one a,false,x,e,es=>CR v a false x e es
 |.one a,true,x,e,es=>∃c,e=[a.vl c]∧CR v a false x c es
 |.cons a b,false,x,e,es=>∃f l g j,e=f++l∧es=g++j∧CR v a false x.1 f g∧CR v b false x.2 l j
 |.cons a b,true,x,e,es=>∃f h g j,e=a.vl f :: h∧es=g++j∧CR v a false x.1 f g∧CR v b true x.2 h j
 |.agg c,false,x,e,es=>CR v c false x e es
 |.box k c,false,x,e,es=>∃b f g,e=[.pointer (some ⟨b,0,none⟩)]∧CR v c false x f g∧f.all plain=true∧es= .box b k f :: g
 |_,_,_,_,_=>False
def pN(v:Zb):(c:CT)→c.den→Gh→List dY→Prop
 |.own h t,(n:List t.den),g,es=>∃ob e d,g= .own ob e∧t.rep.rels v d n∧es=[.own ob h t.n n.length e d]
 |.mat h k t,(m:List (List t.den)),g,es=>∃ob e f i,g= .mat ob e f∧gk v k t f m i∧es= .own ob h 1 m.length e (Zq f m) :: i
 |.box h c,z,g,es=>∃b j l,g= .box b∧CR v c false z j l∧j.all plain=true∧es= .box b h j :: l
 |.agg (.mat h k t),(m:List (List t.den)),g,es=>∃ob e f i,g= .mat ob e f∧gk v k t f m i∧es= .own ob h 1 m.length e (Zq f m) :: i
 |_,_,_,_=>False
def gW(v:Zb):(ts:List T)→List Value→ZF ts→Prop
 |[],d,_=>d=[]
 |[t],d,x=>∃c,d=[t.rep.val c]∧t.rep.rel v c x
 |t :: u :: r,d,x=>∃c e,d=t.rep.val c :: e∧t.rep.rel v c x.1∧gW v (u :: r) e x.2
def nx(v:Zb)(ts:List T)(y:Value)(z:ZF ts):Prop:=match ts,z with
 |[t],z=>∃c,y=t.rep.val c∧t.rep.rel v c z
 |ts,z=>∃d:List Value,y= .tuple d.toArray∧gW v ts d z
def mq(P:Program)(f:FuncId)(c:eu):Prop:=∀(w:World) (v:Zb) (d:List Value) (x:ZF c.args) (z:ZF c.res),fc v w→gW v c.args d x→c.F x=some z→
 (ZT P f∧fM P f d.toArray w v λy e=>nx e c.res y z)∨ ∃y,(∀w,(callFunc f d.toArray).run P w= .ok (.value y) w)∧nx v c.res y z
def o8(P:Program)(f:FuncId)(c:f7):Prop:=∀(w:World) (v:Zb) (d:List Value) (x:ZF c.args) (z:List c.t.den),fc v w→gW v c.args d x→c.F x=some z→
 ZT P f∧mS P f d.toArray w v (w5 c.t.rep c.ty c.t.n z w)
def Cr(e g:TypeId)(t:T)(m:List (List t.den))(w:World)(r:Value)(f:Zb)(h:World):Prop :=
 ∃ ob c d es,r= .slice (eF ob) m.length c∧gk f g t d m es∧(∀x ∈ dY.own ob e 1 m.length c (Zq d m) :: es,x.holds h∧∀b,x.blk=some b→w.heap.size≤b∧f b=none)∧((dY.own ob e 1 m.length c (Zq d m) :: es).filterMap dY.blk).Nodup
def Bf(P:Program)(f:FuncId)(c:iO):Prop:=∀(w:World) (v:Zb) (d:List Value) (x:ZF c.args) (z:List (List c.t.den)),fc v w→gW v c.args d x→c.F x=some z→
 ZT P f∧mS P f d.toArray w v (Cr c.ty c.ty2 c.t z w)
def wZ(i:TypeId)(c:CT)(g:List T)(b:Nat)(r:c.den×ZF g)(h:List Nat)(w:World)(y:Value)(f:Zb)(j:World):Prop :=
 nx f g y r.2∧∃d,pN f (.box i c) r.1 (.box b) d∧(∀e ∈ d,e.holds j∧∀k,e.blk=some k→(w.heap.size≤k∨k ∈ h)∧f k=none)∧(d.filterMap dY.blk).Nodup
def xR(P:Program)(f:FuncId)(c:fk):Prop:=∀(w:World) (v:Zb) (b:Nat) (es:List dY) (d:List Value) (z:c.c.den) (x:ZF c.args) (r:c.c.den×ZF c.res),fc v w→pN v (.box c.ty c.c) z (.box b) es→(∀e ∈ es,e.holds w∧∀k,e.blk=some k→v k=none)→(es.filterMap dY.blk).Nodup→gW v c.args d x→c.F z x=some r→
 ZT P f∧oY P f (Value.pointer (some ⟨b,0,none⟩) :: d).toArray w v (es.filterMap dY.blk) (wZ c.ty c.c c.res b r (es.filterMap dY.blk) w)
def xv(P:Program)(f:FuncId)(c:il):Prop:=∀(w:World) (v:Zb) (ob:Option Nat) (n d:Nat) (e:List Value) (l:List c.t.den) (i j:Int) (z:List c.t.den),fc v w→(dY.own ob c.ty c.t.n n d e).holds w→(∀b,ob=some b→v b=none)→c.t.rep.rels v e l→n=l.length→eJ .i64 i→eJ .i64 j→c.F l i j=some z→
 ZT P f∧oY P f #[.slice (eF ob) n d,.int .i64 i,.int .i64 j] w v ob.toList (Cq c.t.rep c.ty c.t.n z ob w)
structure e9(C:Cf):Prop where
 c:∀f c,fV C.cons f=some c→mq C.P f c
 o:∀f c,fV C.owns f=some c→o8 C.P f c
 m:∀t s f,EM C.meths t s=some f→∀y w,(method (C.P.types.size+Made.depth) t y s).run C.P w= .ok (f,y) w
 q:∀f c,fV C.omats f=some c→Bf C.P f c
 b:∀f c,fV C.boxs f=some c→xR C.P f c
 d:∀f c,fV C.dels f=some c→xv C.P f c
theorem UX{N:Nat}{a:Act}{v:Zb}(u:dZ N f n k h m E B a o i v g){lo:Option Operand}{p:Option Int→Ev Unit}(l:Zn d (zT lo p) E B e):∃c,Zn d (p c) E B e∧((lo=none∧c=none)∨ ∃y j q,lo=some y∧c=some q∧a.eval y= .int j q):=by
 cases lo with
 |none=>exact⟨none,l,.inl ⟨rfl,rfl⟩⟩
 |some y=>
  obtain⟨w,r,_,s⟩:=Z0 u l;obtain⟨j,c,rfl,t⟩:=oD s;exact⟨some c,t,.inr ⟨y,j,c,rfl,rfl,(lH r).1⟩⟩
theorem GV{N:Nat}{a:Act}{v:Zb}(W:dZ N f n k h m E B a o i v g)(hU:∀G,h G→m G)(hX:m d){lo L:Option Operand}{p:V}{Q j:Option Int}(ho:K=⟨r,.slice H O lo L none,C,I,A,q⟩)(hd:∀G,K.dst=some G→G<N)(hp:RV v i B p (a.eval O))(a4:(lo=none∧Q=none)∨ ∃y J u,lo=some y∧Q=some u∧a.eval y= .int J u)(a3:(L=none∧j=none)∨ ∃y J u,L=some y∧j=some u∧a.eval y= .int J u)(l:Zn d (lK F K H p Q j) E B e):gP F N f n k m K a o e:=by
 obtain⟨σ,a2,U⟩:=W.st.evs (O :: (lo.toList++L.toList));have M:=U O (by simp);have Y:∀t:Int,(AU Q 0=t)→(lo=none∧t=0)∨ ∃y G,lo=some y∧ev σ y=some (.int G t):=by
  intro t D;rcases a4 with⟨w,x⟩ |⟨y,J,u,w,x,R⟩
  ·subst x;exact .inl ⟨w,D.symm⟩
  ·subst w x;have D:u=t:=D;exact .inr ⟨y,J,rfl,by rw[U y (by simp),R,D]⟩
 have Z:∀(X:Nat) (t:Int),(AU j (X:Int)=t)→(L=none∧t=X)∨ ∃y G,L=some y∧ev σ y=some (.int G t):=by
  intro X t D;rcases a3 with⟨w,x⟩ |⟨y,J,u,w,x,R⟩
  ·subst x;exact .inl ⟨w,D.symm⟩
  ·subst w x;have D:u=t:=D;exact .inr ⟨y,J,rfl,by rw[U y (by simp),R,D]⟩
 unfold lK at l;split at l
 ·rename_i s xs;obtain⟨qa,t,c,hy,hR⟩:=I9 hp;rw[hy]at M;split at l
  ·rename_i u hq;split at l
   ·rename_i S;have S:=eH S;have a0:=M7 hq;rw[S,←ZK]at a0;obtain⟨yy,P,l⟩:=l;obtain⟨c0,c1,c2,c3,_⟩:=xi P;obtain⟨q',a6,a5,a1⟩:=Yd a2 a0 hR c0 c1 c2;rw[←c3]at a1;subst ho;exact fS W hU (a5 M (Y _ rfl) (Z _ _ rfl)) hd hX (x:=.data (.slice s) yy) ⟨[_],a1,rfl⟩ trivial l
   ·exact l.elim
  ·exact l.elim
 ·obtain⟨w,x⟩:=xL hp;rw[w]at M;split at l
  ·rename_i ht;obtain⟨yy,P,l⟩:=l;subst ho;exact fS W hU (WP a2 M ht (Y _ rfl) (Z _ _ rfl) P) hd hX (HW (Xk P x)) trivial l
  ·exact l.elim
 ·exact l.elim
theorem xX{f:Fr}{n:Nat}:∀(g:Nat) {t:T} {x:V} {k:t.den→Ev D} {l:Lo} {i:D→Fr→Lo→Prop},Zn n (conv g t x k) f l i→x.isAgg=t.agg
 |0,_,_,_,_,_,h=>h.elim
 |g+1,t,x,k,l,i,h=>by
  cases x with
  |data s x=>
   simp only[conv]at h
   split at h
   ·rename_i y A
    obtain⟨e,_⟩:=fK A
    subst e;rfl
   ·split at h
    ·rfl
    ·rfl
    ·rfl
    ·rfl
    ·rfl
    ·split at h
     ·rename_i c d
      have q:=xX g (x:=.agg c) h
      have w:s.agg=true:=by
       unfold pX at d;split at d <;> first |rfl |cases d
      exact w.trans q
     ·exact h.elim
  |nilS=>
   simp only[conv]at h;split at h <;> first |rfl |exact h.elim
  |own u=>
   simp only[conv]at h;obtain⟨e,C,h⟩:=h;obtain⟨E,F,L⟩:=e
   cases L with
   |box _ _=>exact h.elim
   |mid _ _ _ _ _ _=>exact h.elim
   |own B s j p=>
    cases p with
    |true=>exact xX g (x:=.data (.slice s) j) h
    |false=>exact xX g (x:=.data (.slice s) j) h
   |mat B _ s m _=>exact xX g (x:=.data (.slice (.slice s)) m) h
  |agg c=>
   cases c with
   |cons G c=>
    cases c with
    |cons H r=>simp only[conv]at h;split at h <;> first |rfl |exact h.elim
    |nl=>simp only[conv]at h;split at h <;> first |rfl |exact h.elim
    |_=>simp only[conv]at h;exact h.elim
   |_=>simp only[conv]at h;exact h.elim
  |ptr u o=>
   cases o with
   |succ _=>simp only[conv]at h;exact h.elim
   |zero=>simp only[conv]at h;split at h <;> first |rfl |exact h.elim
  |_=>simp only[conv]at h;exact h.elim
theorem SZ{x:V}{t:T}(h:x.isAgg=t.agg):x.val R=t.rep.val R:=by
 unfold V.val ee.val;rw[h,Px]
 cases t.agg <;> rfl
theorem Ma{v:Zb}(h:v.le u):∀{ts:List T} {f:List Value} {x:ZF ts},gW v ts f x→gW u ts f x
 |[],_,_,k=>k
 |[_],_,_,⟨c,d,e⟩=>⟨c,d,ee.mono _ h e⟩
 |_ :: _ :: _,_,_,⟨c,i,d,e,g⟩=>⟨c,i,d,ee.mono _ h e,Ma h g⟩
theorem xS{N:Nat}{U:Nat→Prop}{X:Nat→Prop}{a:Act}(H:¬U d)(F:X d):∀{ts:List T} {c:V} {m:ZF ts→Ev D} {l:Lo} {e:Nat→Gh} {v:Zb} {w:List dY} {g:D→Fr→Lo→Prop},Zn d (pY ts c m) E l g→dZ N f n k U X E l a o e v w→c.ok U→
  ∃ x I S L a1,Zn d (m x) E I g∧dZ N f n k U X E I a o S L a1∧Le U v e l L S I∧∀s,RR v e l true c s→gW L ts s x
 |[],c,m,l,e,v,w,g,h,j,i=>by
  obtain⟨a3,hE,_⟩:=j.lr
  cases c with
  |nl=>exact⟨(),l,e,v,w,h,j,Le.refl hE (Zb.le_refl _),λs q=>q⟩
  |_=>exact h.elim
 |[t],c,m,l,e,v,w,g,h,j,i=>by
  cases c with
  |cons x c=>
   cases c with
   |nl=>
    have G:=xX FU (n:=d) (f:=E) (l:=l) (t:=t) (x:=x) h
    obtain⟨y,P,W,R,Y,h,K,A,J⟩:=pp H F FU h j i.1
    refine⟨y,P,W,R,Y,h,K,A,λs q=>?_⟩
    obtain⟨B,M,rfl,C,p⟩:=q
    have p:M=[]:=p
    subst p
    exact⟨B,by rw[SZ G],J _ C⟩
   |_=>exact h.elim
  |_=>exact h.elim
 |t :: u :: r,c,m,l,e,v,w,g,h,j,i=>by
  cases c with
  |cons x c=>
   have O:Zn d (conv FU t x λx=>pY (u :: r) c λy=>m (x,y)) E l g:=by
    cases c <;> exact h
   have G:=xX FU (n:=d) (f:=E) (l:=l) (t:=t) (x:=x) O;obtain⟨y,P,W,R,Y,C,K,A,J⟩:=pp H F FU O j i.1;obtain⟨ys,l2,a0,v2,a2,p,r2,Q,q2⟩:=xS H F C K i.2;refine⟨(y,ys),l2,a0,v2,a2,p,r2,A.trans Q,λs q=>?_⟩;obtain⟨B,M,rfl,Z,h4⟩:=q;exact⟨B,M,by rw[SZ G],ee.mono _ Q.v (J _ Z),q2 _ (jl A i.2 h4)⟩
  |_=>exact h.elim
theorem S6{U:Nat→Prop}{l:Lo}{γ:Nat→Gh}{v:Zb}:∀{ts:List T} {f:List Value} {x:ZF ts},gW v ts f x→RR v γ l true (vn ts x) f∧(vn ts x).ok U
 |[],_,_,h=>⟨h,trivial⟩
 |[t],_,x,⟨c,d,e⟩=>⟨⟨c,[],by rw[d];exact congrArg (λz=>[z]) (Cc (t:=t) (x:=x) (cs:=c)).symm,e,rfl⟩,trivial,trivial⟩
 |t :: u :: r,_,x,⟨c,g,d,e,i⟩=>by
  obtain⟨j,k⟩:=S6 i
  exact⟨⟨c,g,by rw[d];exact congrArg (· :: g) (Cc (t:=t) (x:=x.1) (cs:=c)).symm,e,j⟩,trivial,k⟩
theorem L8{U:Nat→Prop}{l:Lo}{γ:Nat→Gh}{v:Zb}{ts:List T}{z:ZF ts}(h:nx v ts Y z):RV v γ l (po (vn ts z)) Y∧(po (vn ts z)).ok U:=by
 match ts,z,h with
 |[],z,⟨e,c,d⟩=>exact⟨⟨e,d,c⟩,trivial⟩
 |[t],z,⟨f,c,d⟩=>exact⟨⟨f,d,by rw[c];exact(Cc (t:=t) (x:=z) (cs:=f)).symm⟩,trivial⟩
 |t :: u :: r,z,⟨e,c,d⟩=>
  obtain⟨g,i⟩:=S6 (γ:=γ) (l:=l) (U:=U) d
  cases r <;> exact⟨⟨e,g,c⟩,i⟩
theorem Rl{N:Nat}{a:Act}{v:Zb}(f:St N n k G g v a o){m:String}{d:Array Operand}{p:Array TypeId}(c:List Value)(s:∀o,(method (F.types.size+Made.depth) H Y m).run F o= .ok (Q,Y) o)(e:ev G O=some (.iface H Y))(h:d.toList.map (ev G)=c.map some){j:Go.Next}(i:(callFunc Q (Y :: c).toArray).run F o= .ok j o):(execOp a.eval ⟨r,.call ⟨.invoke O m,d,p⟩,C,I,A,q⟩).run F o= .ok j o:=by
 have t:d.map a.eval=c.toArray:=by
  apply Array.ext';rw[Array.toList_map];generalize d.toList=l at h;clear i
  induction l generalizing c with
  |nil=>cases c <;> simp_all
  |cons Y l w=>
   cases c with
   |nil=>simp at h
   |cons u c=>
    simp at h;simp[f.eval h.1,w c h.2]
 simp[execOp,resolve,invoke,callMethod,t,f.eval e,s,i]
theorem Pi{N:Nat}{a:Act}{v:Zb}(w:dZ N f n k h m E B a o i v g)(D:∀j,h j→m j)(q:m d)(H:¬h d){s:T}{p:List s.den}{ob:Option Nat}{cs:List Value}(G:∀j,K.dst=some j→j<N)(M:St N n k [] (.own ob C s.n p.length l cs :: g) v a o)(F:s.rep.rels v cs p)(c:Zn d (Ev.new d (.own C s p false) (ret K (.own d))) E B e):∃t x,e () t x∧fG N f n k m t x (a.put K.dst (.slice (eF ob) p.length l)) o:=by
 obtain⟨I,c⟩:=c;obtain⟨O,A,J⟩:=w.lr;have L:=w.new (γ':=lF i d (.own ob l)) (L':=.own C s p false) q q H I A (M.perm (List.Perm.cons _ J)) (Zb.le_refl _) (λ_ c=>kP c) ⟨ob,l,cs,iR,F,rfl⟩ (List.Perm.refl _) trivial;unfold ret at c
 cases r:K.dst with
 |none=>rw[r]at c;exact c.elim
 |some y=>
  rw[r]at c;refine⟨_,_,c,_,_,_,(L.mono D λ_ c=>c).put (G y r) (x:=.own d) ⟨[_],⟨_,rfl,by cases ob <;> rfl,λP u=>?_⟩,rfl⟩ q q⟩;rw[ZU,iP rfl]at u;cases u;exact⟨_,_,iR,rfl⟩
theorem St.addL{es:List dY}{v:Zb}{a:Act}(h:St c n k G g v a o)(hs:n.wd.heap.size≤d)(i:∀x ∈ es,x.holds o∧∀b,x.blk=some b→d≤b∧v b=none)(p:(es.filterMap dY.blk).Nodup)(q:∀x ∈ g,∀b,x.blk=some b→b<d):St c n k G (es++g) v a o:=by
 refine⟨h.size,h.dfr,h.fr,h.ext,h.vst,λx f=>?_,?_⟩
 ·rcases List.mem_append.1 f with f |f
  ·exact⟨(i x f).1,λb j=>⟨.inl (Nat.le_trans hs ((i x f).2 b j).1),((i x f).2 b j).2⟩⟩
  ·exact h.loc x f
 ·rw[List.filterMap_append];refine List.nodup_append.2 ⟨p,h.nd,λb l u m e=>?_⟩;subst e;obtain⟨x,f,r⟩:=List.mem_filterMap.1 l;obtain⟨y,s,t⟩:=List.mem_filterMap.1 m;have w:=((i x f).2 b r).1;have A:=q y s b t;omega
theorem tF{N:Nat}{a:Act}{v:Zb}(x:dZ N f n k h m E B a o i v g)(F:∀q,h q→m q)(p:m d)(J:¬h d){t:T}{j:List (List t.den)}{ob:Option Nat}{r:List (Option Nat×Nat)}{es:List dY}(I:∀q,K.dst=some q→q<N)(P:St N n k [] ((.own ob C 1 j.length l (Zq r j) :: es)++g) v a o)(G:gk v H t r j es)(c:Zn d (Ev.new d (.mat C H t j d) (ret K (.own d))) E B e):∃u y,e () u y∧fG N f n k m u y (a.put K.dst (.slice (eF ob) j.length l)) o:=by
 obtain⟨L,c⟩:=c;obtain⟨Q,D,M⟩:=x.lr;have O:=x.new (γ':=lF i d (.mat ob l r)) (L':=.mat C H t j d) (es':=.own ob C 1 j.length l (Zq r j) :: es) p p J L D (P.perm (List.Perm.append_left _ M)) (Zb.le_refl _) (λ_ c=>kP c) ⟨ob,l,r,es,iR,G,rfl⟩ (List.Perm.refl _) p;unfold ret at c
 cases s:K.dst with
 |none=>rw[s]at c;exact c.elim
 |some A=>
  rw[s]at c;refine⟨_,_,c,_,_,_,(O.mono F λ_ c=>c).put (I A s) (x:=.own d) ⟨[_],⟨_,rfl,by cases ob <;> rfl,λR w=>?_⟩,rfl⟩ p p⟩;rw[ZU,iP rfl]at w;cases w;exact⟨_,_,_,iR,rfl⟩
theorem Wp{N:Nat}{a:Act}{v:Zb}{c:il}(M:xv F Q c)(hr:dZ N f n k h m E B a o i v g)(O:∀q,h q→m q)(P:m d)(hn:¬h d)(U:∀q,K.dst=some q→q<N){ob:Option Nat}{p:List c.t.den}{j:Int}{z:List c.t.den}(u:St N n k [] (.own ob c.ty c.t.n p.length l R :: g) v a o)(J:c.t.rep.rels v R p)(hi:eJ .i64 Z)(hj:eJ .i64 j)(hz:c.F p Z j=some z)(X:ZT F Q→(execOp a.eval K).run F o= .ok (.enter Q #[.slice (eF ob) p.length l,.int .i64 Z,.int .i64 j]) o)(I:Zn d (Ev.new d (.own c.ty c.t z false) (ret K (.own d))) E B e):gP F N f n k m K a o e:=by
 obtain⟨Y,t⟩:=u.loc _ List.mem_cons_self;obtain⟨W,a2⟩:=M o v ob p.length l R p Z j z u.vin Y (λb y=>(t b y).2) J rfl hi hj hz;refine o5 (X W) (Calls.mono a2 λy w' ⟨r,v',D,G,A,H⟩=>⟨r,D,?_⟩);obtain⟨C,n',w,x,rfl,a0,S,L,a1⟩:=H;subst a1;have s:=u.afterI (i:=0) (e':=.own C c.ty c.t.n z.length w x) rfl G A a0 λb t=>by
  obtain⟨q1,q2⟩:=S b t;exact⟨q1,q2⟩
 have s:St N n k [] (.own C c.ty c.t.n z.length w x :: g) v' a w':=s;exact Pi (hr.go A.le (s.drop (List.sublist_cons_self _ _))) O P hn U s L I
theorem UU{N:Nat}{a:Act}{v:Zb}(hC:e9 X)(hr:dZ N f n k h m E B a o i v g)(W:∀a1,h a1→m a1)(D:m d)(J:¬h d){c:V}{vals:List Value}(Z:∀a1,K.dst=some a1→a1<N)(a3:ZT X.P Q→(execOp a.eval K).run X.P o= .ok (.enter Q vals.toArray) o)(am:∀y,(∀o,(callFunc Q vals.toArray).run X.P o= .ok (.value y) o)→(execOp a.eval K).run X.P o= .ok (.value y) o)(hc:RR v i B true c vals)(hk:c.ok h)(l:Zn d (GD X d K Q c) E B e):gP X.P N f n k m K a o e:=by
 unfold GD at l;split at l
 ·rename_i w F;obtain⟨p,l1,a4,v1,ad,l,t,ab,q1⟩:=xS J D l hr hk;obtain⟨z,I,l⟩:=l;have U:=q1 _ hc;rcases hC.c Q w F o v1 _ p z t.st.vin U I with⟨G,a0⟩ |⟨y,hv,al⟩
  ·refine o5 (a3 G) (Calls.mono a0 λa2 w' ⟨r,v',O,P,C,R⟩=>⟨r,O,?_⟩);have r2:=t.go C.le (t.st.step P C);obtain⟨k1,k2⟩:=L8 (γ:=a4) (l:=l1) (U:=m) R;unfold ret at l
   cases a5:K.dst with
   |none=>rw[a5]at l;exact l.elim
   |some dd=>
    rw[a5]at l;exact⟨_,_,l,_,_,_,(r2.mono W λ_ l=>l).put (Z dd a5) k1 k2 D⟩
  ·obtain⟨k1,k2⟩:=L8 (γ:=a4) (l:=l1) (U:=m) al;exact fS t W (am y hv) Z D k1 k2 l
 ·split at l
  ·rename_i w F;obtain⟨p,l1,a4,v1,ad,l,t,ab,q1⟩:=xS J D l hr hk;obtain⟨z,I,l⟩:=l;have U:=q1 _ hc;obtain⟨G,a0⟩:=hC.o Q w F o v1 _ p z t.st.vin U I;refine o5 (a3 G) (Calls.mono a0 λa2 w' ⟨r,v',O,P,C,R⟩=>⟨r,O,?_⟩);obtain⟨ob,n',M,cs,rfl,hh,Y,S,ak⟩:=R;subst ak;have A:=t.st.step P C;refine Pi (t.go C.le A) W D J Z (cs:=cs) ⟨A.size,A.dfr,A.fr,A.ext,A.vst,λx H=>?_,?_⟩ S l
   ·rcases List.mem_cons.1 H with rfl |H
    ·exact⟨hh,λb eb=>⟨.inl (Nat.le_trans t.st.ext.size (Y b eb).1),(Y b eb).2⟩⟩
    ·exact A.loc x H
   ·cases ob with
    |none=>rw[List.filterMap_cons_none (show(dY.own none w.ty w.t.n z.length M cs).blk=none from rfl)];exact A.nd
    |some b=>
     rw[List.filterMap_cons_some (show(dY.own (some b) w.ty w.t.n z.length M cs).blk=some b from rfl)];refine List.nodup_cons.2 ⟨λhm=>?_,A.nd⟩;obtain⟨x,H,a8⟩:=List.mem_filterMap.1 hm;obtain⟨_,hg⟩:=dY.blk_get (t.st.loc x H).1 a8;have h1:=qO hg;have h2:=(Y b rfl).1;omega
  ·split at l
   ·rename_i w F;obtain⟨p,l1,a4,v1,ad,l,t,ab,q1⟩:=xS J D l hr hk;obtain⟨z,I,l⟩:=l;have U:=q1 _ hc;obtain⟨G,a0⟩:=hC.q Q w F o v1 _ p z t.st.vin U I;refine o5 (a3 G) (Calls.mono a0 λa2 w' ⟨r,v',O,P,C,R⟩=>⟨r,O,?_⟩);obtain⟨ob,M,ap,es,rfl,S,hh,Y⟩:=R;have A:=t.st.step P C;refine tF (t.go C.le A) W D J Z (A.addL t.st.ext.size hh Y λx H b a8=>?_) S l;obtain⟨_,hg⟩:=dY.blk_get (t.st.loc x H).1 a8;exact qO hg
   ·split at l
    ·rename_i w F;have hI:=hC.d Q w F;unfold ED at l;split at l
     ·rename_i u a9 j;obtain⟨cA,x1,rfl,S,cI,x2,rfl,aa,cJ,x3,rfl,hJ,a6⟩:=hc;have a6:x3=[]:=a6;subst a6;obtain⟨a2,he,l⟩:=l;obtain⟨kk,st,L⟩:=a2;have ai:kk=u:=(Zv he).2;subst ai
      cases L with
      |own ty s xs fz=>
       cases fz with
       |true=>exact l.elim
       |false=>
        simp only at l;split at l
        ·rename_i ys a7 af;have a7:=eH a7;subst a7;obtain⟨c5,c6⟩:=fK af;have ae:s=w.t:=by injection c5
         subst ae;have aj:xs=ys:=c6;subst aj;obtain⟨z,I,l⟩:=l;obtain⟨es,E',h1,_,h2,h3,t⟩:=hr.del he;obtain⟨ob,M,cs,g1,g2,rfl⟩:=h1;have g1:i kk= .own ob M:=g1;obtain⟨y,rfl,_,hy⟩:=S;obtain⟨ao,an,g3,g4⟩:=hy _ he;rw[g1]at g3;cases g3;have hi:eJ .i64 a9:=by obtain⟨_,q⟩:=aa;exact q
         have ag:(V.data (.int .i64) a9).val cI= .int .i64 a9:=by obtain⟨q,_⟩:=aa;subst q;rfl
         have hj:eJ .i64 j:=by obtain⟨_,q⟩:=hJ;exact q
         have ah:(V.data (.int .i64) j).val cJ= .int .i64 j:=by obtain⟨q,_⟩:=hJ;subst q;rfl
         refine Wp hI t W D J Z (hr.st.perm h3) g2 hi hj I (λG=>?_) l;rw[a3 G,HJ (x:=.own kk) rfl,g4,ag,ah]
        ·exact l.elim
      |box _ _=>exact l.elim
      |mid _ _ _ _ _ _=>exact l.elim
      |mat _ _ _ _ _=>exact l.elim
     ·exact l.elim
    ·exact l.elim
theorem NR{v:Zb}:∀{c:V} {l:Nat} {z:V} {d:List Value},zN c l=some z→RR v i B true c d→c.ok h→∃y,d[l]?= some y∧RV v i B z y∧z.ok h
 |.cons x c,0,z,d,f,k,j=>by
  cases f
  obtain⟨n,r,rfl,g,m⟩:=k
  exact⟨_,rfl,km g (λc e=>by subst e;exact g),j.1⟩
 |.cons x c,l+1,z,d,f,k,j=>by
  obtain⟨n,r,rfl,g,m⟩:=k
  obtain⟨y,o,p,q⟩:=NR (c:=c) f m j.2
  exact⟨y,by simpa using o,p,q⟩
theorem dZ.slot{N:Nat}{X:Nat→Prop}{a:Act}{v:Zb}(d:dZ N f n k h X E B a o i v g){t m:Nat}{z:V}(r:RV v i B z (a.tmps.getD t undef))(q:z.ok h)(p:X m):dZ N f n k h X (⟨t,m,z⟩ :: E) B a o i v g:=by
 refine⟨d.st,λe j c=>?_,d.lr,d.nd,λe j c=>?_,d.ul,d.gh⟩
 ·rw[ZU]at c;split at c
  ·rename_i l
   cases c
   have l:t=e:=l;rw[←l];exact r
  ·exact d.fr e j c
 ·rw[ZU]at c;split at c
  ·cases c;exact⟨q,p⟩
  ·exact d.uf e j c
theorem ZjD{N:Nat}{a:Act}{v:Zb}(j:St N n k G g v a o){e:TypeId}{b:Nat}{i:TypeInfo}(p:F.underlying H=some (.array d e))(l:F.info? e=some i)(c:ev G O=some (.pointer (some ⟨b,0,none⟩))):
  (execOp a.eval ⟨r,.slice H O none none none,C,I,A,q⟩).run F o= .ok (.value (.slice (some ⟨b,0,none⟩) d d)) o:=by
 have f:∀o,(underlying H).run F o= .ok (.array d e) o:=λo=>run_underlying p o;have h:∀o,(sizeOf e).run F o= .ok i.size o:=λo=>by simp[sizeOf,typeInfo,l]
 by_cases m:d=0
 ·subst m;simp[execOp,Instr.sliceAt,Instr.sureAddr,j.eval c,f,h,Instr.sliceBounds,gG]
 ·simp[execOp,Instr.sliceAt,Instr.sureAddr,j.eval c,f,h,Instr.sliceBounds,gG]
theorem rk{N:Nat}{a:Act}{v:Zb}(P:dZ N f n k h m E B a o i v g)(hU:∀D,h D→m D)(hX:m d)(hn:¬h d){lo O:Option Operand}{a7 j:Option Int}(ho:K=⟨r,.slice H (.tmp l) lo O none,C,I,A,q⟩)(hd:∀D,K.dst=some D→D<N)(hp:RV v i B (.ptr L S) (a.eval (.tmp l)))(hk:h L)(a5:(lo=none∧a7=none)∨ ∃y κ u,lo=some y∧a7=some u∧a.eval y= .int κ u)(a3:(O=none∧j=none)∨ ∃y κ u,O=some y∧j=some u∧a.eval y= .int κ u)(p:Zn d (yx X K H l L S a7 j) E B e):gP X.P N f n k m K a o e:=by
 unfold yx at p;split at p
 ·rename_i s a0 h0 hu;have h0:=eH h0;subst h0;have a5:lo=none:=by
   rcases a5 with t |⟨_,_,_,_,t,_⟩
   ·exact t.1
   ·cases t
  have a3:O=none:=by
   rcases a3 with t |⟨_,_,_,_,t,_⟩
   ·exact t.1
   ·cases t
  subst a5 a3;split at p
  ·rename_i w u av hq ad ae;have ad:1≤s:=lB ad;have ae:=lB ae;split at p
   ·obtain⟨⟨k0,fR,ah⟩,x,p⟩:=p;have ak:k0=L:=(Zv x).2;subst ak
    cases ah with
    |box aq c=>
     simp only at p;obtain⟨y,Q,_,hy⟩:=fW hp (λ_ a0=>by cases a0) rfl rfl;have Q:a.eval (.tmp l)=y:=(List.cons.inj Q).1;obtain⟨b,g1,rfl⟩:=hy _ x;obtain⟨es,E',t,_,_,h3,_⟩:=P.del x;obtain⟨b',Z,J,g3,g4,rfl⟩:=t;have J:i k0= .box b':=J;rw[g1]at J;cases J;obtain⟨F,l1,ag,v1,aw,hB,r1,ap,q1⟩:=pp hn hX FU p P (P.ul _ (Zv x).1).2.2;obtain⟨⟨U,fh,L1⟩,a2,M⟩:=hB;have al:U=k0:=(Zv a2).2;subst al
     cases L1 with
     |box ar c1=>
      obtain⟨e0,aa,a1⟩:=ap.l _ _ hk a2;rw[x]at aa;cases aa;have a1:ag U=i U:=a1;obtain⟨au,E1,f1,_,_,f3,r2⟩:=r1.del a2;obtain⟨b1,a8,G,f5,f6,rfl⟩:=f1;have G:ag U= .box b1:=G;rw[a1,g1]at G;cases G;have m0:=(P.st.loc _ (h3.mem_iff.2 (List.mem_append_left _ (List.mem_singleton.2 rfl)))).1;have Y:=(r1.st.loc _ (f3.mem_iff.2 (List.mem_append_left _ (List.mem_singleton.2 rfl)))).1;have m0:o.heap[b]?= some (.cells Z.toArray aq (0,0)):=m0;have Y:o.heap[b]?= some (.cells a8.toArray ar (0,0)):=Y;rw[m0]at Y;have aj:Z=a8:=by
       have:=Option.some.inj Y
       injection this with t _ _
       have:=congrArg Array.toList t
       simpa using this
      subst aj;obtain⟨v',hv,a6,a9⟩:=(r1.st.perm f3).pubVar (i:=0) rfl rfl;have a6:St N n k [] E1.flatten v' a o:=a6;have r3:=r2.go hv a6;have af:=ee.mono _ hv (q1 _ g3);have r4:=r3.slot (t:=l) (m:=d) (z:=.vp (iz w s) F 0) ⟨[_],⟨b,0,Z,a9,af,rfl⟩,Q⟩ trivial hX;obtain⟨R,a4⟩:∃R,X.P.info? a0=some R:=by
       unfold kW at hq;split at hq
       ·rename_i R _ a4 _;exact⟨R,a4⟩
       ·cases hq
      obtain⟨σ,ao,e1⟩:=r4.st.ev1 (.tmp l);rw[Q]at e1;obtain⟨k4,W⟩:=Fi (by omega) af;subst ho;refine fS r4 hU (ZjD ao hu a4 e1) hd hX (x:=.data (.slice w) (jX w s F)) ⟨[.slice (some ⟨b,0,none⟩) s s],?_,rfl⟩ trivial M;obtain⟨c2,T2,ai,an,am⟩:=a9;have ab:=kK k4;rw[W]at ab;refine⟨some ⟨b,0,none⟩,s,by rw[show(jX w s F).length=s from W],by rw[show(jX w s F).length=s from W];exact Nat.le_refl _,by unfold maxLen;omega,.inr ⟨b,0,c2,T2,ai,rfl,an,?_⟩⟩;rw[show(jX w s F).length=s from W,←ab,am];exact k4
     |own _ _ _ _=>exact M.elim
     |mat _ _ _ _ _=>exact M.elim
     |mid _ _ _ _ _ _=>exact M.elim
    |own _ _ _ _=>exact p.elim
    |mat _ _ _ _ _=>exact p.elim
    |mid _ _ _ _ _ _=>exact p.elim
   ·exact p.elim
  ·exact p.elim
 ·exact p.elim
theorem dZ.dup{N:Nat}{a:Act}{v:Zb}(c:dZ N f n k h m E B a o i v g){e:En V}(q:eC E d=some e):dZ N f n k h m (e :: E) B a o i v g:=by
 obtain⟨u,s⟩:=Zv q;have r:∀j,eC (e :: E) j=eC E j:=λj=>by
  rw[ZU];split
  ·rename_i t;rw[←t,s];exact q.symm
  ·rfl
 exact⟨c.st,λj l p=>c.fr j l (by rw[←r];exact p),c.lr,c.nd,λj l p=>c.uf j l (by rw[←r];exact p),c.ul,c.gh⟩
theorem ui{N:Nat}{a:Act}{v:Zb}(d:St N n k G g v a o){D:TypeDesc}(e:ev G O=some Y)(h:F.underlying H=some D)(f:∀c,some D≠some (.interface c)):
  (execOp a.eval ⟨r,.makeInterface H O,C,I,A,q⟩).run F o= .ok (.value (.iface H Y)) o:=by
 have i:=d.eval e;have:(Instr.makeInterface H Y).run F o= .ok (.iface H Y) o:=by
  cases D with
  |interface c=>exact absurd rfl (f c)
  |_=>simp[Instr.makeInterface,run_underlying h]
 simp[execOp,i,this]
theorem zw{N:Nat}{a:Act}{v:Zb}(L:dZ N f n k h m E B a o i v g)(F:∀l,h l→m l)(R:m d){w:Operand}{p:V}{κ:IntKind}(W:K=⟨r,.index H O w,C,I,A,q⟩)(U:∀l,K.dst=some l→l<N)(Q:RV v i B p (a.eval O))(k1:p.ok h)(P:a.eval w= .int κ Z)(j:Zn d (Ny X K H p Z) E B e):gP X.P N f n k m K a o e:=by
 subst W;obtain⟨σ,a0,y,D⟩:=L.st.ev2 O w;rw[P]at D;unfold Ny at j;split at j
 ·rename_i a1 s ht;split at j
  ·rename_i a2 J G t u;have t:(0:Int)≤Z:=by simpa using t
   have u:@LT.lt Int _ Z (a1:Int):=by simpa using u
   split at j
   ·rename_i z hz;obtain⟨x,S,Y⟩:=jv Q (λc s=>by subst s;cases G);obtain⟨q1,M,q3⟩:=Vn J hz S k1 o;have hv:p.val x= .agg x.toArray:=by unfold V.val;rw[G]
    rw[Y,hv]at y;refine fS L F (X2 a0 y D ?_) U R (km M (λc s=>by subst s;exact M)) (V.ok.mono F q3) j;simp[Instr.index,asIntOf,run_underlying ht,t,u,(xz J).size,q1]
   ·exact j.elim
  ·exact j.elim
 ·exact j.elim
theorem Kg{N:Nat}{a:Act}{v:Zb}(hC:e9 X)(l:dZ N f n k h m E B a o i v g)(C:∀af,h af→m af)(H:m d)(hn:¬h d)(J:∀af,K.dst=some af→af<N)(w:Zn d (Z3 X d K) E B e):gP X.P N f n k m K a o e:=by
 obtain⟨a3,op,ty,a9,a6,a8⟩:=K
 cases op with
 |move x=>
  simp only[Z3]at w;obtain⟨Q,A,G,p⟩:=Z0 l w;obtain⟨R,I,F⟩:=l.st.ev1 x;exact fS l C (ZG I F) J H A (V.ok.mono C G) p
 |assign x=>
  simp only[Z3]at w;split at w
  ·rename_i U;have U:x= .const (.pointer none):=by
    unfold SB at U;split at U
    ·rfl
    ·cases U
   subst U;obtain⟨h0,p⟩:=w;have e0:Go.Eng.era (⟨d,d,LV.box 0 .undef⟩ :: B) d=B:=by
    simp only[era];rw[show Nat.beq d d=true from Nat.beq_refl d]
   have p:Zn d (ret ⟨a3,.assign (.const (.pointer none)),ty,a9,a6,a8⟩ (.ptr d 0)) E (Go.Eng.era (⟨d,d,LV.box 0 .undef⟩ :: B) d) e:=p;rw[e0]at p;obtain⟨R,I,F⟩:=l.st.ev1 (.const (.pointer none));exact fS l C (mg I F) J H (x:=.ptr d 0) ⟨[.pointer none],⟨_,rfl,rfl,λa7 he=>by rw[h0]at he;cases he⟩,rfl⟩ H p
  ·obtain⟨Q,A,G,p⟩:=Z0 l w;obtain⟨R,I,F⟩:=l.st.ev1 x;exact fS l C (mg I F) J H A (V.ok.mono C G) p
 |nilCheck x=>
  simp only[Z3]at w;obtain⟨Q,A,G,p⟩:=Z0 l w;split at p
  ·rename_i α y;obtain⟨Y,a0,e0⟩:=A;obtain⟨b,o',c,rfl,az,aq⟩:=(show(z8 α.rep).rel v Y y from a0);obtain⟨R,I,F⟩:=l.st.ev1 x;rw[e0]at F;have F:ev R x=some (.pointer (some ⟨b,o',none⟩)):=F;have ar:(execOp a.eval ⟨a3,.nilCheck x,ty,a9,a6,a8⟩).run X.P o= .ok (.value (.pointer (some ⟨b,o',none⟩))) o:=by simp[execOp,I.eval F]
   exact fS l C ar J H (x:=.vp α y 0) ⟨[_],⟨b,o',c,az,aq,rfl⟩,rfl⟩ trivial p
  obtain⟨M,b,o',e',_⟩:=Nh A G p;obtain⟨R,I,F⟩:=l.st.ev1 x;rw[e']at F A;have ar:(execOp a.eval ⟨a3,.nilCheck x,ty,a9,a6,a8⟩).run X.P o= .ok (.value (.pointer (some ⟨b,o',none⟩))) o:=by simp[execOp,I.eval F]
  exact fS l C ar J H A (V.ok.mono C G) M
 |extract x a1=>
  simp only[Z3]at w;obtain⟨Q,A,G,p⟩:=Z0 l w;split at p
  ·rename_i c;split at p
   ·rename_i z hz;obtain⟨b9,S,h3⟩:=A;obtain⟨y,P,W,Z⟩:=NR hz S G;obtain⟨R,I,F⟩:=l.st.ev1 x;rw[h3]at F;exact fS l C (gF I F (by simpa using P)) J H W (V.ok.mono C Z) p
   ·exact p.elim
  ·exact p.elim
 |alloc t=>
  simp only[Z3]at w;split at w
  ·rename_i z hz;obtain⟨y,Y,hy,ao,b6,b3,hp⟩:=KH (v:=v) (γ:=i) (l:=B) (U:=h) hz;refine Pr l C H hn J b6 b3 hp ?_ w;have:=Nu (a:=a) (w:=o) (d:=a3) (ty:=ty) (pos:=a9) (aft:=a6) (g:=a8) hy;rw[ao]at this;exact this
  ·exact w.elim
 |box t x=>
  simp only[Z3]at w;obtain⟨Q,A,G,p⟩:=Z0 l w;split at p
  ·rename_i aj;obtain⟨Y,a0,a5⟩:=jv A (L7 aj);obtain⟨ao,b5⟩:=HG a0 aj;obtain⟨R,I,F⟩:=l.st.ev1 x;rw[a5]at F;refine Pr l C H hn J a0 G b5 ?_ p;have:=Ss (t:=t) (d:=a3) (ty:=ty) (pos:=a9) (aft:=a6) (g:=a8) (P:=X.P) I F;rw[show(Q.val Y).cells=Y.toArray from ao]at this;exact this
  ·exact p.elim
 |load t x=>
  simp only[Z3]at w;obtain⟨Q,A,G,p⟩:=Z0 l w;split at p
  ·exact Wi l C H hn rfl J A p
  obtain⟨z,y,P,W,Z,M⟩:=zy (d:=a3) (ty:=ty) (pos:=a9) (aft:=a6) (g:=a8) l A G p;exact fS l C P J H W (V.ok.mono C Z) M
 |store t x y=>
  simp only[Z3]at w
  cases a3 with
  |some a3=>exact w.elim
  |none=>
   obtain⟨Q,A,G,p⟩:=Z0 l w;obtain⟨V2,S,k2,M⟩:=Z0 l p;exact Au l C H hn rfl A S G k2 M
 |fieldAddr s x a1=>
  simp only[Z3]at w;obtain⟨Q,A,G,p⟩:=Z0 l w;obtain⟨z,y,P,W,Z,M⟩:=rZ (d:=a3) (ty:=ty) (pos:=a9) (aft:=a6) (g:=a8) l A G p;exact fS l C P J H W (V.ok.mono C Z) M
 |field s x a1=>
  simp only[Z3]at w;obtain⟨Q,A,G,p⟩:=Z0 l w;split at p
  ·rename_i fd ai av;split at p
   ·rename_i q hq;split at p
    ·rename_i z hz;obtain⟨Y,a0,a5⟩:=jv A (λc a7=>by subst a7;cases av);obtain⟨P,W,Z⟩:=Vn hq hz a0 G o;obtain⟨R,I,F⟩:=l.st.ev1 x;have hv:Q.val Y= .agg Y.toArray:=by unfold V.val;rw[av]
     rw[a5,hv]at F;refine fS l C (ZnF I F ?_) J H (km W (λc a7=>by subst a7;exact W)) (V.ok.mono C Z) p;unfold r7 at ai;split at ai
     ·rename_i fs b2;have b0:fs[a1]?= some fd:=by rw[←Array.getElem?_toList];exact ai
      simp[Instr.field,run_underlying b2,b0,asAgg,P]
     ·cases ai
    ·exact p.elim
   ·exact p.elim
  ·exact p.elim
 |indexAddr t x a1=>
  simp only[Z3]at w;obtain⟨Q,A,G,p⟩:=Z0 l w;obtain⟨V2,S,k2,M⟩:=Z0 l p;obtain⟨κ,j,rfl,O⟩:=oD M;exact zv l C H rfl J A G (lH S).1 O
 |index t x a1=>
  simp only[Z3]at w;obtain⟨Q,A,G,p⟩:=Z0 l w;obtain⟨V2,S,k2,M⟩:=Z0 l p;obtain⟨κ,j,rfl,O⟩:=oD M;obtain⟨e2,_⟩:=lH S;obtain⟨R,I,aa,ab⟩:=l.st.ev2 x a1;rw[e2]at ab;split at O
  ·obtain⟨F,_⟩:=xL A;rw[F]at aa;split at O
   ·rename_i ht;obtain⟨y,hy,O⟩:=O;exact fS l C (ZsE I aa ab ht hy) J H (iD (Uc y)) trivial O
   ·exact O.elim
  ·exact zw l C H rfl J A G e2 O
 |binOp op t x y t'=>
  simp only[Z3]at w;obtain⟨Q,A,G,p⟩:=Z0 l w;obtain⟨V2,S,k2,M⟩:=Z0 l p;obtain⟨z,q,P,W,Z,O⟩:=ro (d:=a3) (ty:=ty) (pos:=a9) (aft:=a6) (g:=a8) (t':=t') l A S M;exact fS l C P J H W (V.ok.mono C Z) O
 |unOp u t x=>
  cases u with
  |not=>
   simp only[Z3]at w;obtain⟨Q,A,G,p⟩:=Z0 l w;obtain⟨b,rfl,M⟩:=WE p;obtain⟨R,I,F⟩:=l.st.ev1 x;rw[xY A]at F;exact fS l C (Ru I F) J H ma trivial M
  |neg=>
   simp only[Z3]at w;obtain⟨Q,A,G,p⟩:=Z0 l w;obtain⟨κ,a1,rfl,M⟩:=oD p;obtain⟨R,I,F⟩:=l.st.ev1 x;rw[(lH A).1]at F;exact fS l C (uj I F) J H (iD (kI _ _)) trivial M
  |_=>exact w.elim
 |convert s t x=>
  simp only[Z3]at w;obtain⟨Q,A,G,p⟩:=Z0 l w;obtain⟨R,I,F⟩:=l.st.ev1 x;split at p
  ·rename_i κ a1 ds am hs ht;obtain⟨P,W⟩:=lH A;rw[P]at F;have aw:∀o,(convert s t (.int κ a1)).run X.P o= .ok (.int am (am.wrap a1)) o:=λo=>by
    simp[convert,run_underlying hs,run_underlying ht,Conv.intToInt]
   split at p
   ·rename_i hk;have hk:=BX hk;subst hk;refine fS l C (oU I F aw) J H (x:=.data (.int κ) a1) ?_ trivial p;rw[lx W];exact iD W
   ·exact fS l C (oU I F aw) J H (iD (kI _ _)) trivial p
  ·rename_i hs ht;obtain⟨P,W⟩:=xL A;rw[P]at F;exact fS l C (oU I F (λo=>by simp[convert,run_underlying hs,run_underlying ht])) J H (HW W) trivial p
  ·rename_i B a7 hs ht;split at p
   ·rename_i he;obtain⟨P,W⟩:=xL A;rw[P]at F;obtain⟨q,af,v',w',r1,r2,r3,r4⟩:=Xh I B hs ht he W;refine gr (x:=.data (.slice (.int .u8)) (BO B)) ((l.go r2 r3.bare).mono C λ_ w=>w) (r1 F) J H ⟨[_],r4,rfl⟩ trivial p
   ·exact p.elim
  ·exact p.elim
 |makeInterface t x=>
  simp only[Z3]at w;obtain⟨Q,A,G,p⟩:=Z0 l w;split at p
  ·rename_i aj;split at p
   ·exact p.elim
   ·rename_i D b4 hD;obtain⟨Y,a0,a5⟩:=jv A (L7 aj);obtain⟨R,I,F⟩:=l.st.ev1 x;rw[a5]at F;refine fS l C (ui I F hD λq a7=>b4 q (Option.some.inj a7)) J H (x:=.ifc t Q) ⟨[_],⟨Y,a0,rfl⟩,rfl⟩ (V.ok.mono C G) p
   ·exact p.elim
  ·exact p.elim
 |makeFunc fn first an=>
  cases fn with
  |func fi=>
   simp only[Z3]at w;split at w
   ·rename_i b1;obtain⟨c,A,G,p⟩:=xN l w;obtain⟨R,I,a4⟩:=l.st.evs an.toList;have ad:an.toList.map (ev R)=(an.toList.map a.eval).map some:=by
     rw[List.map_map];exact List.map_congr_left λy hy=>a4 y hy
    have hf:first= #[]:=by
     apply Array.ext';simpa using b1
    subst hf;exact fS l C (YM I _ ad) J H (x:=.fn fi c) ⟨[_],⟨_,A,rfl⟩,rfl⟩ (V.ok.mono C G) p
   ·exact w.elim
  |_=>exact w.elim
 |makeSlice t x y=>exact Xc l C H hn rfl J w
 |buildSlice t al ps=>exact ZbD l C H hn rfl J w
 |build t ps=>exact VI l C H rfl J w
 |slice t x lo hi mx=>
  cases mx with
  |some _=>exact w.elim
  |none=>
   simp only[Z3]at w;obtain⟨a1,p,ah⟩:=UX l w;obtain⟨j,M,ag⟩:=UX l p;obtain⟨Q,A,G,O⟩:=Z0 l M;split at O
   ·rename_i u;obtain⟨en,he,O⟩:=O;obtain⟨kk,st,L⟩:=en
    cases L with
    |own b8 s xs fz=>
     obtain⟨ys,l1,ba,v1,bb,hD,r1,b7,P⟩:=pp hn H FU O l G;obtain⟨Y,a0,a5⟩:=jv A (λc a7=>by cases a7);have aq:=P _ a0;exact GV (p:=.data (.slice s) ys) r1 C H rfl J ⟨Y,aq,a5⟩ ah ag hD
    |box _ _=>exact O.elim
    |mid _ _ _ _ _ _=>exact O.elim
    |mat _ _ _ _ _=>exact O.elim
   ·obtain⟨Y,a0,a5⟩:=B7 A;exact GV (p:=.data (.slice (.int .u64)) (Zc 18446744073709551616 _)) l C H rfl J ⟨Y,a0,a5⟩ ah ag O
   ·obtain⟨Y,a0,a5⟩:=B7 A;exact GV (p:=.data (.slice (.int .u32)) (Zc 4294967296 _)) l C H rfl J ⟨Y,a0,a5⟩ ah ag O
   ·split at O
    ·exact rk l C H hn rfl J A G ah ag O
    ·exact O.elim
   ·exact GV l C H rfl J A ah ag O
 |pick c x y=>
  cases c with
  |tmp c=>
   simp only[Z3]at w;obtain⟨s,b,hf,A,S⟩:=w;have ak:=dZ.dup l hf;have hc:=xY (l.fr c _ hf);obtain⟨R,I,a4⟩:=l.st.evs [.tmp c,x,y];have e0:=a4 (.tmp c) (by simp);have e0:ev R (.tmp c)=some (.bool b):=e0.trans (congrArg some hc);have ex:=a4 x (by simp);have ey:=a4 y (by simp)
   cases b with
   |true=>
    obtain⟨Q,P,G,p⟩:=Z0 ak (A rfl);exact fS ak C (qv I e0 (by rw[iP rfl];exact ex)) J H P (V.ok.mono C G) p
   |false=>
    obtain⟨Q,P,G,p⟩:=Z0 ak (S rfl);exact fS ak C (qv I e0 (by rw[iN (by decide)];exact ey)) J H P (V.ok.mono C G) p
  |_=>exact w.elim
 |call c=>
  obtain⟨ay,a2,au⟩:=c
  cases ay with
  |value x=>
   simp only[Z3]at w;obtain⟨Q,A,G,p⟩:=Z0 l w;obtain⟨c,S,k2,M⟩:=xN l p;split at M
   ·rename_i fi;obtain⟨Y,⟨vs,P,rfl⟩,Z⟩:=A;have P:vs=[]:=P;subst P;have Z:a.eval x= .func (.func fi) #[] #[]:=Z;obtain⟨R,I,a4⟩:=l.st.evs (x :: a2.toList);have ae:=a4 x (by simp);rw[Z]at ae;have ad:a2.toList.map (ev R)=(a2.toList.map a.eval).map some:=by
     rw[List.map_map];exact List.map_congr_left λy hy=>a4 y (by simp[hy])
    exact UU hC l C H hn J (λap=>gz I _ ap ae ad) (λy hv=>Fk I _ hv ae ad) S k2 M
   ·exact M.elim
  |invoke r al=>
   simp only[Z3]at w;obtain⟨Q,A,G,p⟩:=Z0 l w;obtain⟨c,S,k2,M⟩:=xN l p;split at M
   ·rename_i t x;split at M
    ·rename_i fi ax;obtain⟨Y,⟨cc,P,rfl⟩,Z⟩:=A;have Z:a.eval r= .iface t (x.val cc):=Z;obtain⟨R,I,a4⟩:=l.st.evs (r :: a2.toList);have ae:=a4 r (by simp);rw[Z]at ae;have ad:a2.toList.map (ev R)=(a2.toList.map a.eval).map some:=by
      rw[List.map_map];exact List.map_congr_left λy hy=>a4 y (by simp[hy])
     exact UU hC l C H hn (c:=.cons x c) (vals:=x.val cc :: a2.toList.map a.eval) J (λap=>Rl I _ (λo=>hC.m t al fi ax _ o) ae ad (ap _ o)) (λy hv=>Rl I _ (λo=>hC.m t al fi ax _ o) ae ad (by
      have:=hv o;exact this)) ⟨cc,_,rfl,P,S⟩ ⟨G,k2⟩ M
    ·exact M.elim
   ·exact M.elim
  |builtin b=>
   cases b with
   |len=>
    simp only[Z3]at w;split at w
    ·rename_i x t U ht;have U:a2= #[x]:=by apply Array.ext';exact U
     have ht:au= #[t]:=by apply Array.ext';exact ht
     subst U ht;obtain⟨Q,A,G,p⟩:=Z0 l w;obtain⟨al,P,W,M⟩:=sN (d:=a3) (ty:=ty) (pos:=a9) (aft:=a6) (g:=a8) l A p;exact fS l C P J H (iD W) trivial M
    ·exact w.elim
   |append=>
    simp only[Z3]at w;split at w
    ·rename_i x y t t' U ht;split at w
     ·rename_i hb;have hb:=eH hb;subst hb;have U:a2= #[x,y]:=by apply Array.ext';exact U
      have ht:au= #[t,t]:=by apply Array.ext';exact ht
      subst U ht;obtain⟨Q,A,G,p⟩:=Z0 l w;obtain⟨V2,S,k2,M⟩:=Z0 l p;exact rc l C H hn rfl J A S G k2 M
     ·exact w.elim
    ·exact w.elim
   |max=>
    simp only[Z3]at w;split at w
    ·rename_i x y U;have U:a2= #[x,y]:=by apply Array.ext';exact U
     subst U;obtain⟨Q,A,G,p⟩:=Z0 l w;obtain⟨V2,S,k2,M⟩:=Z0 l p;obtain⟨κ,a1,rfl,O⟩:=oD M;obtain⟨am,j,rfl,hD⟩:=oD O;split at hD
     ·rename_i hk;have hk:=BX hk;subst hk;obtain⟨F,r1⟩:=lH A;obtain⟨e2,r2⟩:=lH S;obtain⟨R,I,aa,ab⟩:=l.st.ev2 x y;rw[F]at aa;rw[e2]at ab;exact fS l C (ug I aa ab) J H (iD (sQ r1 r2)) trivial hD
     ·exact hD.elim
    ·exact w.elim
   |min=>
    simp only[Z3]at w;split at w
    ·rename_i x y U;have U:a2= #[x,y]:=by apply Array.ext';exact U
     subst U;obtain⟨Q,A,G,p⟩:=Z0 l w;obtain⟨V2,S,k2,M⟩:=Z0 l p;obtain⟨κ,a1,rfl,O⟩:=oD M;obtain⟨am,j,rfl,hD⟩:=oD O;split at hD
     ·rename_i hk;have hk:=BX hk;subst hk;obtain⟨F,r1⟩:=lH A;obtain⟨e2,r2⟩:=lH S;obtain⟨R,I,aa,ab⟩:=l.st.ev2 x y;rw[F]at aa;rw[e2]at ab;exact fS l C (uh I aa ab) J H (iD (sS r1 r2)) trivial hD
     ·exact hD.elim
    ·exact w.elim
   |_=>exact w.elim
 |_=>exact w.elim
def F7(s:List UInt8)(c:Int):Option Int:=some (Lib.indexByte s c.toNat.toUInt8)
theorem Y7{z:Int}(h:F7 w Z=some z):z=Lib.indexByte w Z.toNat.toUInt8∧True:=⟨(Option.some.inj h).symm,trivial⟩
theorem zn(d:oS F Q Extern.BytealgIndexByte.indexByte)(s:List UInt8)(c:Int)(w:World):(callFunc Q #[.string (Zt s),.int .u8 c]).run F w= .ok (.value (.int .i64 (Lib.indexByte s c.toNat.toUInt8))) w:=by
 rw[d.run,Lib.run_indexByteString];rfl
theorem S3(c:UInt8):∀l:List UInt8,-1≤Lib.indexByte l c∧Lib.indexByte l c≤l.length
 |[]=>by simp[Lib.indexByte]
 |b :: l=>by
  have d:=S3 c l
  unfold Lib.indexByte
  split
  ·simp;omega
  ·split
   ·simp;omega
   ·rw[List.length_cons];omega
theorem sd(h:w.length≤maxLen):eJ .i64 (Lib.indexByte w Z.toNat.toUInt8):=by
 have:=S3 Z.toNat.toUInt8 w;unfold maxLen at h;exact gT.2 (by omega)
noncomputable def qp(i:List UInt8):Option Bool :=
 dU (Zg (σ:=Int) (ρ:=Unit ⊕ Bool) (λa=>
 dV (decide (a<(i.length:Int)))
 (dU (α:=Bool)
 (dU (dX i a) λb=>
 dV (decide (((b.toNat:Nat):Int)<(48:Int)))
 (some true)
 (dU (dX i a) λc=>
 some (decide ((57:Int)<((c.toNat:Nat):Int))))) λd=>
 dV d
 (some (.inr (.inr false)))
 (dU (chk .i64 (a+(1:Int))) λe=>
 some (.inl e)))
 (some (.inr (.inl ()))))
  Zh (0:Int)) λf=>
 match f with
|.inl h=>(some (i != ([]:List UInt8)))
|.inr g=>(some g)
noncomputable def A6(e:List UInt8)(p:List UInt8):Option ((List UInt8)×Bool) :=
 dU (α:=(List UInt8)×Bool)
 (dU (α:=Bool)
 (dV (decide ((p.length:Int)≤(e.length:Int)))
 (dU (Z4 e (0:Int) (p.length:Int)) λb=>
 some (b==p))
 (some false)) λc=>
 dV (!c)
 (some (e,false))
 (dU (Z4 e (p.length:Int) (e.length:Int)) λd=>
 some (d,true))) λa=>
 some (a.1,a.2)
noncomputable def Gs(s:List UInt8)(d:List UInt8):Option Int :=
 dU (α:=Bool)
 (dV ((d.length:Int)==(0:Int))
 (some true)
 (some (d==s))) λa=>
 dV a
 (some (0:Int))
 (dV ((d.length:Int)==(1:Int))
 (dU (dX d (0:Int)) λb=>
 dU (F7 s ((b.toNat:Nat):Int)) λc=>
 some c)
 (dV (decide ((s.length:Int)≤(d.length:Int)))
 (some (-1:Int))
   (none)))
noncomputable def xI(f:List UInt8)(g:List UInt8):Option ((List UInt8)×(List UInt8)×Bool) :=
 dU (α:=(List UInt8)×(List UInt8)×Bool)
 (dU (Gs f g) λa=>
 dV (decide ((0:Int)≤a))
 (dU (Z4 f (0:Int) a) λc=>
 dU (chk .i64 (a+(g.length:Int))) λd=>
 dU (Z4 f d (f.length:Int)) λe=>
 some (c,e,true))
 (some (f,([]:List UInt8),false))) λb=>
 some (b.1,b.2.1,b.2.2)
noncomputable def xU(x:Rat):Option Rat :=
 dU (yn x) λd=>
 dU (A6 d ([45]:List UInt8)) λc=>
 dU (xI c.1 ([47]:List UInt8)) λa=>
 dU (α:=List UInt8)
 (dV (!a.2.2)
 (some ([49]:List UInt8))
 (some a.2.1)) λb=>
 dU (α:=Bool)
 (dU (qp a.1) λe=>
 dV (!e)
 (some true)
 (dU (qp b) λf=>
 dV (!f)
 (some true)
 (dU (mh b) λg=>
 some (((Zc 4294967296 g).length:Int)==(0:Int))))) λh=>
 dV h
 (dU (fU (0:Int)) λi=>
 some i)
 (dU (mh a.1) λj=>
 dU (mh b) λk=>
 dU (gy c.2 j k) λl=>
 some l)
theorem OY(h:mj w)(d:0<w.length)(f:w.length≤10000000000):qp w=some true:=by
 unfold qp;refine Zu (y:=.inl ()) (fL (λq=>(q:Int)) w.length rfl (by omega) (λq c=>?_) ?_) ?_
 ·have e:=h _ (List.getElem_mem c);rw[eo (by omega),Ze,Zz c,Za,eg (by omega),Zf,Za,eg (by omega),Za,Zf,Zk (by omega) (by omega),Za];rfl
 ·rw[eg (by omega),Zf]
 ·cases w with
  |nil=>cases d
  |cons a w=>rfl
theorem XM(l:List UInt8):A6 (45 :: l) [45]=some (l,true):=by
 unfold A6;have c:Z4 ((45:UInt8) :: l) (0:Int) ((([45]:List UInt8).length:Nat):Int)=some [45]:=D1 (i:=0) (j:=1) (by omega) (by simp);have d:Z4 ((45:UInt8) :: l) ((([45]:List UInt8).length:Nat):Int) ((((45:UInt8) :: l).length:Nat):Int)=some l:=by
  have:=D1 (l:=(45:UInt8) :: l) (i:=1) (j:=((45:UInt8) :: l).length) (by simp) (Nat.le_refl _);rw[List.take_length]at this;exact this
 rw[eo (by simp;omega),Ze,c,Za,show(([45]:List UInt8)==[45])=true by decide,Za,show(!true)=false from rfl,Zf,d,Za,Za]
theorem ZeD{a:UInt8}{l:List UInt8}(h:a≠45):A6 (a :: l) [45]=some (a :: l,false):=by
 unfold A6;have c:Z4 (a :: l) (0:Int) ((([45]:List UInt8).length:Nat):Int)=some [a]:=D1 (i:=0) (j:=1) (by omega) (by simp);rw[eo (by simp;omega),Ze,c,Za,show(([a]:List UInt8)==[45])=false by simpa using h,Za,show(!false)=true from rfl,Ze,Za]
theorem Qx{c:UInt8}:∀{l:List UInt8},(∀b,b ∈ l→b≠c)→Lib.indexByte l c= -1
 |[],_=>rfl
 |b :: l,h=>by
  unfold Lib.indexByte
  rw[Qx (l:=l) λx d=>h x (List.mem_cons_of_mem _ d),iN (by simpa using h b (List.mem_cons_self ..))]
  rfl
theorem Tu{c:UInt8}(t:List UInt8):∀{l:List UInt8},(∀b,b ∈ l→b≠c)→Lib.indexByte (l++c :: t) c=(l.length:Int)
 |[],_=>by simp[Lib.indexByte]
 |b :: l,h=>by
  rw[List.cons_append]
  unfold Lib.indexByte
  rw[Tu t (l:=l) λx d=>h x (List.mem_cons_of_mem _ d),iN (by simpa using h b (List.mem_cons_self ..)),iN (by simp)]
  simp
theorem JF(h:mj w):∀b,b ∈ w→b≠47:=λb c e=>by
 have:=(h b c).1
 rw[e]at this
 exact absurd this (by decide)
theorem UK(s:List UInt8)(c:UInt8)(hs:s≠[c]):Gs s [c]=some (Lib.indexByte s c):=by
 unfold Gs F7;rw[show(((([c]:List UInt8).length:Nat):Int)==(0:Int))=false from rfl,Zf,show(([c]:List UInt8)==s)=false by rw[beq_eq_false_iff_ne];exact λh=>hs h.symm,Za,Zf,show(((([c]:List UInt8).length:Nat):Int)==(1:Int))=true from rfl,Ze,show dX ([c]:List UInt8) (0:Int)=some c from rfl,Za,Za,tN];simp
theorem uG(h:mj w):xI w [47]=some (w,[],false):=by
 unfold xI;have:w≠[47]:=λe=>JF h 47 (by rw[e];simp) rfl;rw[UK w 47 this,Za,Qx (JF h),eg (by omega),Zf,Za]
theorem Yr{t:List UInt8}(h:mj w)(f:0<w.length)(i:(w++47 :: t).length≤100000000000):xI (w++47 :: t) [47]=some (w,t,true):=by
 unfold xI;have g:(w++47 :: t).length=w.length+t.length+1:=by simp;omega
 have:w++47 :: t≠[47]:=λe=>by have:=congrArg List.length e;simp at this;omega
 have c:Z4 (w++(47:UInt8) :: t) (0:Int) (w.length:Int)=some w:=by
  have:=D1 (l:=w++(47:UInt8) :: t) (i:=0) (j:=w.length) (by omega) (by omega);rw[List.take_left' rfl]at this;exact this
 have d:Z4 (w++(47:UInt8) :: t) ((w.length+1:Nat):Int) (((w++(47:UInt8) :: t).length:Nat):Int)=some t:=by
  have:=D1 (l:=w++(47:UInt8) :: t) (i:=w.length+1) (j:=(w++(47:UInt8) :: t).length) (by omega) (Nat.le_refl _);rw[List.take_length]at this;rw[this,←List.drop_drop,List.drop_left' rfl];rfl
 rw[UK _ 47 this,Za,Tu t (JF h),eo (by omega),Ze,c,Za,show((([47]:List UInt8).length:Nat):Int)=1 from rfl,Zk (by omega) (by omega),Za,show(w.length:Int)+1=((w.length+1:Nat):Int) by omega,d,Za,Za]
theorem Oy(h:sz c U)(L:c≤1000000000)(n:Bool)(G:n=decide (U.num<0)):(dU (xI (ZW U.num.natAbs++(if U.den=1 then[] else 47 :: ZW U.den)) ([47]:List UInt8)) λg=>
 dU (α:=List UInt8)
 (dV (!g.2.2)
  (some ([49]:List UInt8))
  (some g.2.1)) λj=>
 dU (α:=Bool)
 (dU (qp g.1) λp=>
  dV (!p)
  (some true)
  (dU (qp j) λq=>
   dV (!q)
   (some true)
   (dU (mh j) λr=>
    some (((Zc 4294967296 r).length:Int)==(0:Int))))) λk=>
 dV k
 (dU (fU (0:Int)) λs=>
  some s)
 (dU (mh g.1) λl=>
  dU (mh j) λm=>
  dU (gy n l m) λo=>
  some o))=some U:=by
  obtain⟨f,y,t,_⟩:=Kn U.num.natAbs;obtain⟨A,B,C,_⟩:=Kn U.den;have la:(ZW U.num.natAbs).length≤1000000001:=by have:=Vk U.num.natAbs;have:=h.1;omega
  have H:(ZW U.den).length≤1000000001:=by have:=Vk U.den;have:=h.2;omega
  have x:∀{n:Nat},bl n≤c→fO n:=λ{n} K=>by
    have F:n<4294967296^bl n:=Nat.lt_of_lt_of_le (mV n) (Nat.pow_le_pow_left (by decide) _);have:=oR F;unfold fO;omega
  have gr:∀d:List UInt8,mj d→0<d.length→d.length≤1000000001→dv 0 d=U.den→dU (α:=Bool)
     (dU (qp (ZW U.num.natAbs)) λp=>
      dV (!p)
      (some true)
      (dU (qp d) λq=>
       dV (!q)
       (some true)
       (dU (mh d) λr=>
        some (((Zc 4294967296 r).length:Int)==(0:Int))))) (λk=>
     dV k
     (dU (fU (0:Int)) λs=>
      some s)
     (dU (mh (ZW U.num.natAbs)) λl=>
      dU (mh d) λm=>
      dU (gy n l m) λo=>
      some o))=some U:=by
    intro d u D J E;rw[OY f t (by omega),Za,show(!true)=false from rfl,Zf,OY u D (by omega),Za,show(!true)=false from rfl,Zf,Vi u (by omega),Za,Za,E,C4,eg U.den_nz,Zf,Vi f (by omega),Za,y,Za];unfold gy;rw[iP ⟨x h.1,x h.2,U.den_nz⟩,Za];congr 1;have e:fE n U.num.natAbs=U.num:=by
      rw[G];unfold fE;by_cases h:U.num<0
      · rw[eo h];simp;omega
      · rw[eg h];simp;omega
    rw[e];exact Rat.mkRat_self U
  by_cases i:U.den=1
  · rw[iP i,List.append_nil,uG f,Za];simp only;rw[show(!false)=true from rfl,Ze,Za];exact gr [49] (λI w=>by simp at w;subst w;decide) (by decide) (by decide) (by rw[i];rfl)
  · rw[iN i,Yr f t (by simp;omega),Za];simp only;rw[show(!true)=false from rfl,Zf,Za];exact gr _ A C H B
theorem F5(h:sz c U)(i:c≤1000000000):xU U=some U:=by
 obtain⟨j,n,g,_⟩:=Kn U.num.natAbs;unfold xU yn;rw[iP (h.ok (by omega)),Za];unfold ou;rw[fj];by_cases f:U.num<0
 ·rw[iP f,List.cons_append,List.nil_append,XM,Za];exact Oy h i true (eo f).symm
 ·rw[iN f,List.nil_append];obtain⟨d,l,e⟩:∃d l,ZW U.num.natAbs=d :: l:=by
   cases m:ZW U.num.natAbs with
   |nil=>rw[m]at g;cases g
   |cons d l=>exact⟨d,l,rfl⟩
  have k:d≠45:=λh=>by
   have:=(j d (by rw[e];exact List.mem_cons_self ..)).1;rw[h]at this;exact absurd this (by decide)
  have:=ZeD (a:=d) (l:=l++(if U.den=1 then[] else 47 :: ZW U.den)) k;rw[←List.cons_append,←e]at this;rw[this,Za];exact Oy h i false (eg f).symm
noncomputable def Fs(l:List (Int×Int)):Option Bool :=
 dU (Zg (σ:=Int) (ρ:=Unit ⊕ Bool) (λb=>
 dV (decide (b<(l.length:Int)))
 (dU (dX l b) λa=>
 dU (α:=Bool)
 (dV (decide ((1048576:Int)<(max a.1 a.2)))
 (some true)
 (some (decide ((min a.1 a.2)<(-1048576:Int))))) λc=>
 dV c
 (some (.inr (.inr false)))
 (dU (chk .i64 (b+(1:Int))) λd=>
 some (.inl d)))
 (some (.inr (.inl ()))))
  Zh (0:Int)) λe=>
 match e with
|.inl g=>(some true)
|.inr f=>(some f)
noncomputable def qh(l:List ((Int×Int)×(Int×Int)×(Int×Int)×Int×Int)):Option Bool :=
 dU (Zg (σ:=Int) (ρ:=Unit ⊕ Bool) (λb=>
 dV (decide (b<(l.length:Int)))
 (dU (dX l b) λa=>
 dU (Fs [a.1,a.2.1,a.2.2.1,a.2.2.2]) λc=>
 dV (!c)
 (some (.inr (.inr false)))
 (dU (chk .i64 (b+(1:Int))) λd=>
 some (.inl d)))
 (some (.inr (.inl ()))))
  Zh (0:Int)) λe=>
 match e with
|.inl g=>(some true)
|.inr f=>(some f)
noncomputable def GI(x:(Int×Int)×(Int×Int)×(Int×Int)×Int×Int):Option Su :=
 dU (qF x.1) λa=>
 dU (qF x.2.1) λb=>
 dU (qF x.2.2.1) λc=>
 dU (qF x.2.2.2) λd=>
 dU (Id (a,b,c,d)) λe=>
 some e
noncomputable def H6(x:(Int×Int)×(Int×Int)×(Int×Int)×Int×Int):Option (Rat×Rat×Rat×Rat) :=
 dU (oI x.1) λa=>
 dU (oI x.2.1) λb=>
 dU (oI x.2.2.1) λc=>
 dU (oI x.2.2.2) λd=>
 some (a,b,c,d)
noncomputable def A7(l:List ((Int×Int)×(Int×Int)×(Int×Int)×Int×Int)):Option ((List Su)×(List (Rat×Rat×Rat×Rat))) :=
 dU (Zg (σ:=(List Su)×(List (Rat×Rat×Rat×Rat))×Int) (ρ:=(List Su)×(List (Rat×Rat×Rat×Rat))) (λa=>
 dV (decide (a.2.2<(l.length:Int)))
 (dU (dX l a.2.2) λb=>
 dU (GI b) λc=>
 dU (ZE 152 (a.1++[c])) λ_=>
 dU (H6 b) λd=>
 dU (ZE 224 (a.2.1++[d])) λ_=>
 dU (chk .i64 (a.2.2+(1:Int))) λf=>
 some (.inl (a.1++[c],a.2.1++[d],f)))
 (some (.inr (a.1,a.2.1))))
  Zh (([]:List Su),([]:List (Rat×Rat×Rat×Rat)),(0:Int))) λe=>
 some (e.1,e.2)
noncomputable def wb(x:Su):Option (Rat×Rat×Rat×Rat) :=
 dU (FN x) λa=>
 dU (xU a.1) λb=>
 dU (xU a.2.1) λc=>
 dU (xU a.2.2.1) λd=>
 dU (xU a.2.2.2) λe=>
 some (b,c,d,e)
end Go.Eng
