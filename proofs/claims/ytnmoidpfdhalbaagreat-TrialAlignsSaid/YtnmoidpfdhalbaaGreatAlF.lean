/- Lemmas towards the statement: the engine of the walks, the functions' models, laws and walks, part 6. Conditions: as each states. -/
import Derived.Shelf.Strings.Builder1
import Derived.Shelf.Strings.Repeat
import Derived.Test.YtnmoidpfdhalbaaGreatProg
import Derived.Test.YtnmoidpfdhalbaaGreatAlE
set_option linter.all false
set_option maxRecDepth 100000
namespace Go.Eng
open Go.Proofs Go.RowKit
theorem Znx {E:World} {d:Zb} (hv:VIn d E) {R:List Value} {a:Nat} (g:Rep.rel Zv d R a) {T:List Value} {n:Int} (p1:Rep.rel (Zd .u64) d T n) {z:Nat×Int} (H:ZRh a n=some z):Ret Tryz.prog 125 #[Zv.val R,(Zd .u64).val T] E d (fun y v'=>∃ U V,y = .tuple #[Zv.val U,(Zd .u64).val V]∧Zv.rel v' U z.1∧(Zd .u64).rel v' V z.2):=by
 obtain ⟨W,X,Y,rfl⟩:=Zja g;obtain ⟨rfl,r4⟩:=p1;refine ZJb (K:=35) (args:=[.slice W X Y,.int .u64 n]) hv Tryz.func125 rfl rfl zl fun f S=>?_;unfold ZRh at H;refine sr (mw S rfl fun f S=>mw S rfl fun f S=>oe (Zj fun _ ah=>bO H fun y9 F H=>Zs (mv S rfl fun f S=>ov S rfl (Zca S (ZI g) rfl rfl ZA) fun f S=>?_)));obtain ⟨Z,aa⟩:∃ c:List Value,c=(List.replicate ((((Zc 18446744073709551616 a)).length:Int)).toNat [.int .u64 0]).flatten:=⟨_,rfl⟩;obtain ⟨ai,w,aj,S⟩:=ZXh ZSd S (l:=(((Zc 18446744073709551616 a)).length:Int)) (c:=(((Zc 18446744073709551616 a)).length:Int)) (ZPa F).1 (ZPa F).2.1 (ZPa F).2.2.1 (ZPa F).2.2.2 aa;have ak:Rep.rels (Zd .u64) d Z (List.replicate ((((Zc 18446744073709551616 a)).length:Int)).toNat (0:Int)):=by rw [aa];exact Z1d (show Rep.rel (Zd .u64) _ [.int .u64 0] _ from (ZC (by decide))) _
 refine Zzb wn rfl zl (aj rfl rfl) S fun f S=>mw S rfl fun f S=>Zr (Zg (ah _ _ (sr (mw S rfl fun f S=>oe (Zj fun _ al=>Zj fun _ am=>bO H fun aV ab H=>Zs (mv S rfl fun f S=>ov S rfl (Zca S (ZI g) rfl rfl ZA) fun f S=>ov S rfl (Ze S rfl rfl (Zza ab)) fun f S=>?_))))));refine mw S rfl fun f S=>Zr (Zg (am _ _ ?_));obtain ⟨an,ao,ap⟩:=ZF H;refine Zta (fun f w=>∃ o s t p u L G,(o,s)=an∧Zb.le d G∧St 35 E d [(6,.slice (mkA t) p u),(7,.int .u64 s)] [Loc.own t 155 1 p u L] G f w∧Rep.rels (Zd .u64) G L o∧p=o.length∧inR .u64 s) (fun _ aq=>?_) ?_
 ·have H:=ao;refine wp_block ?_;obtain ⟨aW,ar,au⟩:=ZF H;refine ZEb ar (fun av f w=>∃ q h b I k v e J,(q,h,b)=av∧Zb.le d J∧St 35 E d [(0,.slice W X Y),(1,.int .u64 n),(6,.slice (mkA I) k v),(7,.int .u64 h),(8,.int .i64 b)] [Loc.own I 155 1 k v e] J f w∧Rep.rels (Zd .u64) J e q∧k=q.length∧inR .u64 h∧inR .i64 b) ⟨_,_,_,some ai,((((Zc 18446744073709551616 a)).length:Int)).toNat,((((Zc 18446744073709551616 a)).length:Int)).toNat,Z,_,rfl,(leR _),(S.fr' rfl),ak,(repN (x:=(0:Int))),(by decide),(Zua ab).2⟩ ?_;rintro _ f w st ⟨q,h,b,I,k,v,e,J,hq,M,S,B,C,ac,aX⟩ H aY aw ax;subst hq;refine Zj fun _ ay=>sr (mv S rfl fun f S=>ov S rfl (Ze S rfl rfl Zkc) fun f S=>oe ?_);rcases ZJ (decide ((0:Int)≤b)) with D | D
  ·have H:=ZL H D;refine ZS S rfl D (wp_skip (Zg (ay _ _ (Zj fun _ az=>wp_block (bO H fun N O H=>bO H fun m aA H=>bO H fun aZ r H=>Zs (mv S rfl fun f S=>mv S rfl fun f S=>mv S rfl fun f S=>mv S rfl fun f S=>mv S rfl fun f S=>?_))))));have g:=Z8 M g;obtain ⟨_,a0,a1,a2,rfl,P,aB⟩:=Z3a g (Zi O).2.1;obtain ⟨rfl,aC⟩:=aB;refine ov S rfl (ZN S rfl rfl ZA (Zi O).1 (ltI (ZI g) (Zi O).2.2.1)) fun f S=>ov S rfl (Zha S rfl Z4 (S.view P)) fun f S=>mv S rfl fun f S=>opc S rfl (Z9 S [.int .u64 h,.int .u64 N,.int .u64 n] ZFp rfl rfl) (ZHo S.vin (show Rep.rel (Zd .u64) _ [.int .u64 h] h from (ZC ac)) (show Rep.rel (Zd .u64) _ [.int .u64 N] N from (ZC aC)) (show Rep.rel (Zd .u64) _ [.int .u64 n] n from (ZC r4)) aA) ?_;rintro _ ad f w Q ⟨a3,a4,rfl,aD,aE⟩ S;have B:=ZW Q B;have P:=Atm Q P;obtain ⟨rfl,aF⟩:=aD;obtain ⟨rfl,aG⟩:=aE;refine mv S rfl fun f S=>ov S rfl (ZAa S rfl rfl) fun f S=>ov S rfl (ZAa S rfl rfl) fun f S=>?_;obtain ⟨aH,rfl⟩:=Zfd S (j:=0) rfl (posN C (Zi r).2.2.2);have ae:=Zga B (Zi r).2.1;obtain ⟨a5,aI⟩:∃ c,(List.take (Zd .u64).n (List.drop ((b).toNat*(Zd .u64).n) e))=c:=⟨_,rfl⟩
   rw [aI] at ae;obtain ⟨rfl,a6⟩:=ae;refine ov S rfl (ZN S rfl rfl ZA (Zi r).1 (ltI C (Zi r).2.2.1)) fun f S=>?_;obtain ⟨w,aJ,S⟩:=ZHb S Z4 (off:=0+(b).toNat*1) (z:=.int .u64 (m.1)) (cs:=[.int .u64 (m.1)]) (ZCb rfl) rfl (i:=0) rfl (ZLd S (j:=0) rfl (ltN C (Zi r).2.2.2)) (by first | rfl | simp [plain]);have aK:Rep.rels (Zd .u64) ad (List.take (0+(b).toNat*1) e++[Value.int IntKind.u64 (m.1)]++List.drop (0+(b).toNat*1+1) e) (q.set (b).toNat m.1):=ZUc B (Zi r).2.2.2 (show Rep.rel (Zd .u64) ad [.int .u64 (m.1)] _ from (ZC aF)) rfl rfl;have aL:k=(q.set (b).toNat m.1).length:=ZFd C;refine Zwf wn rfl (aJ rfl rfl) (mw S rfl fun f S=>Zr (Ztb (Zg (az _ _ (bO H fun a7 af H=>Zs (mv S rfl fun f S=>ov S rfl (Ze S rfl rfl (Zza af)) fun f S=>mw S rfl fun f S=>Zr ?_))))));obtain rfl:=Zn H;refine aw _ rfl _ _ ⟨_,_,_,some aH,k,v,(List.take (0+(b).toNat*1) e++[Value.int IntKind.u64 (m.1)]++List.drop (0+(b).toNat*1+1) e),_,rfl,(leT M Q),(S.fr' rfl),aK,aL,aG,(Zua af).2⟩
  have H:=ZK H D;refine ZM S rfl D (wp_exit (Z0 ?_));obtain rfl:=Zn H;have hq:=ax _ rfl;subst hq;have H:=au;refine Z0 (Z7a ?_);obtain rfl:=Zn H;refine Zg (aq _ _ ⟨_,_,I,k,v,e,_,rfl,(leT (leR _) M),(S.fr' rfl),B,C,ac⟩)
 rintro f w ⟨o,s,t,p,u,L,G,hq,a8,S,aM,aN,aO⟩;subst hq;have H:=ap;refine Zg (al _ _ (Zj fun _ aP=>bO H fun a9 aQ H=>Zs (mv S rfl fun f S=>?_)));obtain ⟨ba,bb,S,aR⟩:=S.pubSlice (i:=0) (A:=(Zd .u64)) (l:=o) (ℓ':=[]) rfl rfl aN aM rfl;refine opc S rfl (Z9 S [.slice (mkA t) p u] ZMe rfl rfl) (ZOe S.vin (show Rep.rel (Zy (Zd .u64)) _ [.slice (mkA t) p u] o from aR) aQ) ?_;rintro _ bc f w bd ⟨be,rfl,ag⟩ S;obtain ⟨aS,aT,aU,rfl⟩:=Zja ag;refine mv S rfl fun f S=>mw S rfl fun f S=>mw S rfl fun f S=>Zr (Zg (aP _ _ (wp_ret ?_)));obtain rfl:=Zn H;refine ZEa S (ZLe rfl (ZR S rfl) (ZR S rfl)) ⟨[.slice aS aT aU],[.int .u64 s],rfl,ag,(ZC aO)⟩
theorem ZWq {c:World} {b:Zb} (hv:VIn b c) {d:List Value} {a:Nat} (i:Rep.rel Zv b d a) {e:List Value} {n:Int} (f:Rep.rel (Zd .u64) b e n) {z:Nat×Int} (hm:ZUd a n=some z) :
  Ret Tryz.prog 125 #[Zv.val d,(Zd .u64).val e] c b (fun y v'=>∃ g h,y=Value.tuple #[Zv.val g,(Zd .u64).val h]∧Zv.rel v' g z.1∧(Zd .u64).rel v' h z.2) :=
 Znx hv i f (Zlu f.2 hm)
theorem cmp_w {m:World} {e:Zb} (hv:VIn e m) {A:List Value} {a:(List Int)} (c:Rep.rel (Zy (Zd .u64)) e A a) {B:List Value} {b:(List Int)} (d:Rep.rel (Zy (Zd .u64)) e B b) {z:Int} (H:ZMh a b=some z):Ret Tryz.prog 55 #[(Zy (Zd .u64)).val A,(Zy (Zd .u64)).val B] m e (fun y v'=>∃ C,y=(Zd .i64).val C∧(Zd .i64).rel v' C z):=by
 obtain ⟨D,E,G,rfl⟩:=ZRm c;obtain ⟨I,J,L,rfl⟩:=ZRm d;refine ZJb (K:=41) (args:=[.slice D E G,.slice I J L]) hv Tryz.func55 rfl rfl zl fun f S=>?_;unfold ZMh at H;refine sr (mw S rfl fun f S=>oe (Zj fun _ P=>sr (mv S rfl fun f S=>ov S rfl (Zca S (ZI c) rfl rfl ZA) fun f S=>mv S rfl fun f S=>ov S rfl (Zca S (ZI d) rfl rfl ZA) fun f S=>ov S rfl (Ze S rfl rfl Zjo) fun f S=>oe ?_)));rcases ZJ (((a.length:Int)) != ((b.length:Int))) with g | g
 ·have H:=ZL H g;refine ZS S rfl g (Zj fun _ Q=>sr (mv S rfl fun f S=>ov S rfl (Zca S (ZI c) rfl rfl ZA) fun f S=>mv S rfl fun f S=>ov S rfl (Zca S (ZI d) rfl rfl ZA) fun f S=>ov S rfl (Ze S rfl rfl Zac) fun f S=>oe ?_));rcases ZJ (decide ((a.length:Int)<(b.length:Int))) with h | h
  ·have H:=ZL H h;refine ZS S rfl h (sr (mw S rfl fun f S=>oe (wp_ret (ZYa (ZYa ?_)))));obtain rfl:=Zn H;refine ZEa S (ZNa rfl (ZR S rfl)) ⟨[.int .i64 (-1:Int)],rfl,(ZC (by decide))⟩
  have H:=ZK H h;refine ZM S rfl h (wp_skip (Zg (Q _ _ (sr (mw S rfl fun f S=>oe (wp_ret (ZYa ?_)))))));obtain rfl:=Zn H;refine ZEa S (ZNa rfl (ZR S rfl)) ⟨[.int .i64 1],rfl,(ZC (by decide))⟩
 have H:=ZK H g;refine ZM S rfl g (wp_skip (Zg (P _ _ (Zj fun _ R=>Zj fun _ T=>bO H fun ar M H=>Zs (mv S rfl fun f S=>ov S rfl (Zca S (ZI c) rfl rfl ZA) fun f S=>ov S rfl (Ze S rfl rfl (Zza M)) fun f S=>mw S rfl fun f S=>Zr (Zg (T _ _ ?_)))))));obtain ⟨U,V,o⟩:=ZF H;refine Zta (fun f w=>∃  (p:Zb),(.inl (()))=U∧Zb.le e p∧St 41 m e [] [] p f w) (fun _ W=>?_) ?_
 ·have H:=V;refine wp_block ?_;obtain ⟨au,X,q⟩:=ZF H;refine ZEb X (fun Y f w=>∃ i r,i=Y∧Zb.le e r∧St 41 m e [(0,.slice D E G),(1,.slice I J L),(5,.int .i64 i)] [] r f w∧inR .i64 i) ⟨_,_,rfl,(leR _),(S.fr' rfl),(Zua M).2⟩ ?_;rintro _ f w st ⟨i,r,hq,n,S,av⟩ H aw Z s;subst hq;refine Zj fun _ aa=>sr (mv S rfl fun f S=>ov S rfl (Ze S rfl rfl Zkc) fun f S=>oe ?_);rcases ZJ (decide ((0:Int)≤i)) with j | j
  ·have H:=ZL H j;refine ZS S rfl j (wp_skip (Zg (aa _ _ (Zj fun _ ab=>wp_block (Zj fun _ ac=>Zj fun _ ad=>bO H fun ae t H=>bO H fun af u H=>Z2d (fl:=#[true,true,true,true,true,true,true,true,true]) Z5e (by kernel_rfl) S ?_)))));intro ops O F w S;refine rfa O F 0 rfl rfl S (Zx S rfl) fun f S=>rfa O F 1 rfl rfl S (Zx S rfl) fun f S=>?_;have c:=Z8 n c;obtain ⟨_,ax,ay,az,rfl,ag,ah⟩:=Z3a c (Zi t).2.1;obtain ⟨rfl,aA⟩:=ah;refine rfa O F 2 rfl rfl S (ZN S rfl rfl ZA (Zi t).1 (ltI (ZI c) (Zi t).2.2.1)) fun f S=>rfa O F 3 rfl rfl S (Zha S rfl Z4 (S.view ag)) fun f S=>rfa O F 4 rfl rfl S (Zx S rfl) fun f S=>rfa O F 5 rfl rfl S (Zx S rfl) fun f S=>?_;have d:=Z8 n d;obtain ⟨_,aB,aC,aD,rfl,ai,aj⟩:=Z3a d (Zi u).2.1;obtain ⟨rfl,aE⟩:=aj;refine rfa O F 6 rfl rfl S (ZN S rfl rfl ZA (Zi u).1 (ltI (ZI d) (Zi u).2.2.1)) fun f S=>rfa O F 7 rfl rfl S (Zha S rfl Z4 (S.view ai)) fun f S=>rfa O F 8 rfl rfl S (Ze S rfl rfl Zac) fun f S=>Z7e O F (Zg (ad _ _ ?_));rcases ZJ (decide (ae<af)) with k | k
   ·have H:=ZL H k;refine ZS S rfl k (sr (mw S rfl fun f S=>oe (wp_ret (ZYa (ZBg (ZYa ?_))))));obtain rfl:=Zn H;have hq:=s _ rfl;subst hq;have H:=q;refine ZYa (ZBg ?_);obtain rfl:=Zn H;have H:=o;refine ZYa (ZYa ?_);obtain rfl:=Zn H;refine ZEa S (ZNa rfl (ZR S rfl)) ⟨[.int .i64 (-1:Int)],rfl,(ZC (by decide))⟩
   have H:=ZK H k;refine ZM S rfl k (wp_skip (Zg (ac _ _ (Zj fun _ ak=>bO H fun al v H=>bO H fun am x H=>Z2d (fl:=#[true,true,true,true,true,true,true,true,true]) Z5e (by kernel_rfl) S ?_))));intro ops O F w S;refine rfa O F 0 rfl rfl S (Zx S rfl) fun f S=>rfa O F 1 rfl rfl S (Zx S rfl) fun f S=>?_;obtain ⟨aF,an,ao⟩:=Z8g c (Zi v).2.1;obtain ⟨rfl,aG⟩:=ao;refine rfa O F 2 rfl rfl S (ZN S rfl rfl ZA (Zi v).1 (ltI (ZI c) (Zi v).2.2.1)) fun f S=>rfa O F 3 rfl rfl S (Zha S rfl Z4 (S.view an)) fun f S=>rfa O F 4 rfl rfl S (Zx S rfl) fun f S=>rfa O F 5 rfl rfl S (Zx S rfl) fun f S=>?_;obtain ⟨aH,ap,aq⟩:=Z8g d (Zi x).2.1;obtain ⟨rfl,aI⟩:=aq;refine rfa O F 6 rfl rfl S (ZN S rfl rfl ZA (Zi x).1 (ltI (ZI d) (Zi x).2.2.1)) fun f S=>rfa O F 7 rfl rfl S (Zha S rfl Z4 (S.view ap)) fun f S=>rfa O F 8 rfl rfl S (Ze S rfl rfl Z0c) fun f S=>Z7e O F (Zg (ak _ _ ?_));rcases ZJ (decide (am<al)) with l | l
   ·have H:=ZL H l;refine ZS S rfl l (sr (mw S rfl fun f S=>oe (wp_ret (ZBg (ZYa ?_)))));obtain rfl:=Zn H;have hq:=s _ rfl;subst hq;have H:=q;refine ZYa (ZBg ?_);obtain rfl:=Zn H;have H:=o;refine ZYa (ZYa ?_);obtain rfl:=Zn H;refine ZEa S (ZNa rfl (ZR S rfl)) ⟨[.int .i64 1],rfl,(ZC (by decide))⟩
   have H:=ZK H l;refine ZM S rfl l (wp_skip (Ztb (Zg (ab _ _ (bO H fun aJ N H=>Zs (mv S rfl fun f S=>ov S rfl (Ze S rfl rfl (Zza N)) fun f S=>mw S rfl fun f S=>Zr ?_))))));obtain rfl:=Zn H;refine Z _ rfl _ _ ⟨_,_,rfl,n,(S.fr' rfl),(Zua N).2⟩
  have H:=ZK H j;refine ZM S rfl j (wp_exit (Z0 ?_));obtain rfl:=Zn H;have hq:=s _ rfl;subst hq;have H:=q;refine Z0 (Z7a ?_);obtain rfl:=Zn H;refine Zg (W _ _ ⟨_,rfl,(leT (leR _) n),(S.fr' rfl)⟩)
 rintro f w ⟨p,hq,aK,S⟩;subst hq;have H:=o;refine Zg (R _ _ (sr (mw S rfl fun f S=>oe (wp_ret ?_))));obtain rfl:=Zn H;refine ZEa S (ZNa rfl (ZR S rfl)) ⟨[.int .i64 0],rfl,(ZC (by decide))⟩
theorem cmp_c {d:World} {c:Zb} (hv:VIn c d) {e:List Value} {a:Nat} (f:Rep.rel Zv c e a) {g:List Value} {b:Nat} (h:Rep.rel Zv c g b) {z:Int} (hm:Zld a b=some z) :
  Ret Tryz.prog 55 #[Zv.val e,Zv.val g] d c (fun y v'=>∃ i,y=(Zd .i64).val i∧(Zd .i64).rel v' i z) :=
 cmp_w hv f h ((Zyp (Zkj f) (Zkj h)).trans hm)
theorem mul64_w {e:World} {a:Zb} (hv:VIn a e) {g:List Value} {x:Int} (l:Rep.rel (Zd .u64) a g x) {h:List Value} {y:Int} (m:Rep.rel (Zd .u64) a h y) {z:Int×Int} (H:Zwg x y=some z):Ret Tryz.prog 100 #[(Zd .u64).val g,(Zd .u64).val h] e a (fun y v'=>∃ i c,y = .tuple #[(Zd .u64).val i,(Zd .u64).val c]∧(Zd .u64).rel v' i z.1∧(Zd .u64).rel v' c z.2):=by
 obtain ⟨rfl,c⟩:=l;obtain ⟨rfl,B⟩:=m;refine ZJb (K:=51) (args:=[.int .u64 x,.int .u64 y]) hv Tryz.func100 rfl rfl zl fun f S=>?_;unfold Zwg at H;refine sr (mw S rfl fun f S=>mw S rfl fun f S=>oe (sr (mv S rfl fun f S=>ov S rfl (Ze S rfl rfl Zag) fun f S=>mw S rfl fun f S=>oe (Zj fun _ n=>bO H fun b o H=>Zs (mv S rfl fun f S=>ov S rfl (Ze S rfl rfl (ZFb o)) fun f S=>?_)))));refine mw S rfl fun f S=>Zr (Zg (n _ _ (sr (mv S rfl fun f S=>ov S rfl (Ze S rfl rfl Zag) fun f S=>mw S rfl fun f S=>oe (Zj fun _ p=>bO H fun d q H=>Zs (mv S rfl fun f S=>ov S rfl (Ze S rfl rfl (ZFb q)) fun f S=>mw S rfl fun f S=>?_))))));refine Zr (Zg (p _ _ (sr (mv S rfl fun f S=>mv S rfl fun f S=>ov S rfl (Ze S rfl rfl Zmb) fun f S=>mw S rfl fun f S=>oe (Zj fun _ r=>bO H fun s t H=>Zs (mv S rfl fun f S=>mv S rfl fun f S=>ov S rfl (Ze S rfl rfl Zmb) fun f S=>?_))))));refine mv S rfl fun f S=>ov S rfl (Ze S rfl rfl (ZFb t)) fun f S=>ov S rfl (Ze S rfl rfl Z9b) fun f S=>mw S rfl fun f S=>Zr ?_;have S:=S.fr' (σ':=[(0,.int .u64 x),(1,.int .u64 y),(6,.int .u64 (ZV .u64 x (4294967295:Int))),(7,.int .u64 b),(9,.int .u64 d),(11,.int .u64 (IntKind.u64.wrap ((IntKind.u64.wrap (b*(ZV .u64 y (4294967295:Int))))+s)))]) rfl;refine Zg (r _ _ (sr (mv S rfl fun f S=>ov S rfl (Ze S rfl rfl Zag) fun f S=>mw S rfl fun f S=>oe (Zj fun _ u=>bO H fun j v H=>Zs (mv S rfl fun f S=>ov S rfl (Ze S rfl rfl (ZFb v)) fun f S=>mw S rfl fun f S=>Zr (Zg (u _ _ ?_)))))))
 refine sr (mv S rfl fun f S=>mv S rfl fun f S=>mv S rfl fun f S=>ov S rfl (Ze S rfl rfl Zmb) fun f S=>ov S rfl (Ze S rfl rfl Z9b) fun f S=>mw S rfl fun f S=>oe (Zj fun _ w=>bO H fun k A H=>Zs (mv S rfl fun f S=>mv S rfl fun f S=>ov S rfl (Ze S rfl rfl Zmb) fun f S=>?_)));refine mv S rfl fun f S=>ov S rfl (Ze S rfl rfl Z9b) fun f S=>mv S rfl fun f S=>ov S rfl (Ze S rfl rfl (ZFb A)) fun f S=>ov S rfl (Ze S rfl rfl Z9b) fun f S=>mw S rfl fun f S=>Zr (Zg (w _ _ (sr (mv S rfl fun f S=>mv S rfl fun f S=>ov S rfl (Ze S rfl rfl Zmb) fun f S=>mw S rfl fun f S=>?_))));have S:=S.fr' (σ':=[(4,.int .u64 (IntKind.u64.wrap ((IntKind.u64.wrap ((IntKind.u64.wrap (b*d))+j))+k))),(5,.int .u64 (IntKind.u64.wrap (x*y)))]) rfl;refine oe (wp_ret ?_);obtain rfl:=Zn H;refine ZEa S (ZLe rfl (ZR S rfl) (ZR S rfl)) ⟨[.int .u64 (IntKind.u64.wrap ((IntKind.u64.wrap ((IntKind.u64.wrap (b*d))+j))+k))],[.int .u64 (IntKind.u64.wrap (x*y))],rfl,(ZC (Zqa _ _)),(ZC (Zqa _ _))⟩
theorem ZTm {b:World} {a:Zb} (hv:VIn a b) {c:List Value} {x:Int} (g:Rep.rel (Zd .u64) a c x) {d:List Value} {y:Int} (h:Rep.rel (Zd .u64) a d y) {z:Int×Int} (hm:Zhc x y=some z) :
  Ret Tryz.prog 100 #[(Zd .u64).val c,(Zd .u64).val d] b a (fun y v'=>∃ e f,y=Value.tuple #[(Zd .u64).val e,(Zd .u64).val f]∧(Zd .u64).rel v' e z.1∧(Zd .u64).rel v' f z.2) :=
 mul64_w hv g h (Zqr hm)
theorem take_w {R:World} {o:Zb} (hv:VIn o R) {a off0 g C:Nat} {E:TypeId} {pre0 cs0 post0:List Value} {u:(List Int)} (bf:R.heap[a]? = some (.cells (pre0++cs0++post0).toArray E (0,0))) (aG:off0=pre0.length) (bg:o a=none) (au:g=u.length) (bh:g≤C∧C≤maxLen) (r:Rep.rels (Zd .u64) o cs0 u) {c1:List Value} {v:Nat} (D:Rep.rel Zv o c1 v) {c2:List Value} {q:Int} (p2:Rep.rel (Zd .u64) o c2 q) {z:Bool×(List Int)} (H:Zoi u v q=some z):RetL Tryz.prog 183 #[.slice (some ⟨a,off0,none⟩) g C,Zv.val c1,(Zd .u64).val c2] R o [a] (fun y v' w'=>(∃ r0,y=Z8c.val r0∧Z8c.rel v' r0 z.1)∧v' a=none∧∃ cs,w'.heap[a]? = some (.cells (pre0++cs++post0).toArray E (0,0))∧g=z.2.length∧Rep.rels (Zd .u64) v' cs z.2):=by
 obtain ⟨q1,V,W,rfl⟩:=Zja D;obtain ⟨rfl,r4⟩:=p2;refine Zkq (K:=79) (args:=[.slice (some ⟨a,off0,none⟩) (g) C,.slice q1 V W,.int .u64 q]) hv bf bg Tryz.func183 rfl rfl zl fun f S=>?_;unfold Zoi at H;refine sr (mw S rfl fun f S=>oe (Zj fun _ bi=>bO H fun J bj H=>bO H fun cF av H=>Zs (mv S rfl fun f S=>ov S rfl (Zca S (ZI D) rfl rfl ZA) fun f S=>ov S rfl (Ze S rfl rfl (ZOa bj)) fun f S=>?_)));obtain ⟨aH,aQ⟩:∃ c:List Value,c=(List.replicate (J).toNat [.int .u64 0]).flatten:=⟨_,rfl⟩;obtain ⟨aR,w,bk,S⟩:=ZXh ZSd S (l:=J) (c:=J) (ZPa av).1 (ZPa av).2.1 (ZPa av).2.2.1 (ZPa av).2.2.2 aQ;have bm:Rep.rels (Zd .u64) o aH (List.replicate (J).toNat (0:Int)):=by rw [aQ];exact Z1d (show Rep.rel (Zd .u64) _ [.int .u64 0] _ from (ZC (by decide))) _
 refine Zzb wn rfl zl (bk rfl rfl) S fun f S=>mw S rfl fun f S=>Zr (Zg (bi _ _ (sr (mw S rfl fun f S=>oe (Zj fun _ bn=>sr (mv S rfl fun f S=>ov S rfl (Zca S (ZI D) rfl rfl ZA) fun f S=>mv S rfl fun f S=>oe ?_))))));obtain ⟨bo,bp,bq⟩:=ZF H;refine Zta (fun f w=>∃ L b aI s G h X,(L,b)=bo∧Zb.le o X∧St 79 ⟨R,[a]⟩ o [(0,.slice (some ⟨a,off0,none⟩) (g) C),(1,.slice q1 V W),(7,.slice (mkA aI) s G),(8,.int .u64 b)] [Loc.box a E (pre0++cs0++post0),Loc.own aI 155 1 s G h] X f w∧Rep.rels (Zd .u64) X h L∧s=L.length∧inR .u64 b) (fun _ br=>?_) ?_
 ·have H:=bp;refine wp_block ?_;obtain ⟨cG,bs,bt⟩:=ZF H;have S:=S.reorder (ℓ':=[Loc.box a E (pre0++cs0++post0),Loc.own (some aR) 155 1 ((J).toNat) (J).toNat aH]) [1,0] rfl (by decide);refine ZEb bs (fun bu f w=>∃ Y ag m aw M Z I ax,(Y,ag,m)=bu∧Zb.le o ax∧St 79 ⟨R,[a]⟩ o [(0,.slice (some ⟨a,off0,none⟩) (g) C),(1,.slice q1 V W),(2,.int .u64 q),(7,.slice (mkA aw) M Z),(8,.int .u64 ag),(20,.slice q1 V W),(21,.int .i64 ((((Zc 18446744073709551616 v)).length:Int))),(22,.int .i64 m)] [Loc.box a E (pre0++cs0++post0),Loc.own aw 155 1 M Z I] ax f w∧Rep.rels (Zd .u64) ax I Y∧M=Y.length∧inR .u64 ag∧inR .i64 m) ⟨_,_,_,some aR,(J).toNat,(J).toNat,aH,_,rfl,(leR _),(S.fr' rfl),bm,(repN (x:=(0:Int))),(by decide),(by decide)⟩ ?_;rintro _ f w st ⟨Y,ag,m,aw,M,Z,I,ax,hq,ay,S,ah,ai,bv,cH⟩ H cI bw bx;subst hq;have r:=ZW ay r;refine sr (ov S rfl (Ze S rfl rfl Zac) fun f S=>oe (Zj fun _ bz=>?_));rcases ZJ (decide (m<(((Zc 18446744073709551616 v)).length:Int))) with aj | aj
  ·have H:=ZL H aj;refine ZS S rfl aj (wp_skip (Zg (bz _ _ (Zj fun _ bA=>wp_block (Zj fun _ bB=>bO H fun aJ aK H=>Zs (mv S rfl fun f S=>?_))))));have D:=Z8 ay D;obtain ⟨_,aS,aT,cJ,rfl,bC,bD⟩:=Z3a D (Zi aK).2.1;obtain ⟨rfl,bE⟩:=bD;refine ov S rfl (ZN S rfl rfl ZA (Zi aK).1 (ltI (ZI D) (Zi aK).2.2.1)) fun f S=>ov S rfl (Zha S rfl Z4 (S.view bC)) fun f S=>mw S rfl fun f S=>mw S rfl fun f S=>Zr (Zg (bB _ _ (Zj fun _ bG=>bO H fun aU bH H=>Zs (mv S rfl fun f S=>mv S rfl fun f S=>opc S rfl (Z9 S [.int .u64 aJ,.int .u64 q] Zon rfl rfl) (ZTm S.vin (show Rep.rel (Zd .u64) _ [.int .u64 aJ] aJ from (ZC bE)) (show Rep.rel (Zd .u64) _ [.int .u64 q] q from (ZC r4)) bH) ?_))));rintro _ aV f w aL ⟨cK,cL,rfl,bI,bJ⟩ S;have r:=ZW aL r;have ah:=ZW aL ah;obtain ⟨rfl,cM⟩:=bI;obtain ⟨rfl,cN⟩:=bJ;refine mv S rfl fun f S=>ov S rfl (ZAa S rfl rfl) fun f S=>ov S rfl (ZAa S rfl rfl) fun f S=>mw S rfl fun f S=>mw S rfl fun f S=>Zr (Zg (bG _ _ (sr (mw S rfl fun f S=>oe (Zj fun _ bK=>bO H fun N aW H=>bO H fun cO aa H=>Zs ?_)))));refine mv S rfl fun f S=>mv S rfl fun f S=>mv S rfl fun f S=>mv S rfl fun f S=>ov S rfl (ZBj S [.int .u64 (aU.2),.int .u64 ag,.int .u64 0] (Zgn Zeq aW) rfl rfl) fun f S=>mv S rfl fun f S=>ov S rfl (ZAa S rfl rfl) fun f S=>ov S rfl (ZAa S rfl rfl) fun f S=>?_
   obtain ⟨aX,rfl⟩:=Zfd S (j:=1) rfl (posN ai (Zi aa).2.2.2);have aY:=Zga ah (Zi aa).2.1;obtain ⟨cP,bM⟩:∃ c,(List.take (Zd .u64).n (List.drop ((m).toNat*(Zd .u64).n) I))=c:=⟨_,rfl⟩;rw [bM] at aY;obtain ⟨rfl,cQ⟩:=aY;refine ov S rfl (ZN S rfl rfl ZA (Zi aa).1 (ltI ai (Zi aa).2.2.1)) fun f S=>?_;obtain ⟨w,bP,S⟩:=ZHb S Z4 (off:=0+(m).toNat*1) (z:=.int .u64 (N.1)) (cs:=[.int .u64 (N.1)]) (ZCb rfl) rfl (i:=1) rfl (ZLd S (j:=1) rfl (ltN ai (Zi aa).2.2.2)) (by first | rfl | simp [plain]);have bQ:Rep.rels (Zd .u64) aV (List.take (0+(m).toNat*1) I++[Value.int IntKind.u64 (N.1)]++List.drop (0+(m).toNat*1+1) I) (Y.set (m).toNat N.1):=ZUc ah (Zi aa).2.2.2 (show Rep.rel (Zd .u64) aV [.int .u64 (N.1)] _ from (ZC (Z6l aW))) rfl rfl;have bR:M=(Y.set (m).toNat N.1).length:=ZFd ai;refine Zwf wn rfl (bP rfl rfl) (mw S rfl fun f S=>Zr ?_);have S:=S.fr' (σ':=[(0,.slice (some ⟨a,off0,none⟩) (g) C),(1,.slice (some ⟨aS,aT,none⟩) V W),(2,.int .u64 q),(7,.slice (mkA (some aX)) (M) Z),(11,.int .u64 (aU.1)),(13,.int .u64 (N.2)),(20,.slice (some ⟨aS,aT,none⟩) V W),(21,.int .i64 ((((Zc 18446744073709551616 v)).length:Int))),(22,.int .i64 m)]) rfl
   refine Zg (bK _ _ (Zs (mv S rfl fun f S=>mv S rfl fun f S=>ov S rfl (Ze S rfl rfl Z9b) fun f S=>mw S rfl fun f S=>Zr (Ztb (Zg (bA _ _ (bO H fun cR aZ H=>Zs (ov S rfl (Ze S rfl rfl (ZOa aZ)) fun f S=>mv S rfl fun f S=>Zr ?_))))))));obtain rfl:=Zn H;refine bw _ rfl _ _ ⟨_,_,_,some aX,M,Z,(List.take (0+(m).toNat*1) I++[Value.int IntKind.u64 (N.1)]++List.drop (0+(m).toNat*1+1) I),_,rfl,(leT ay aL),(S.fr' rfl),bQ,bR,(Zqa _ _),(Zua aZ).2⟩
  have H:=ZK H aj;refine ZM S rfl aj (wp_exit (Z0 ?_));obtain rfl:=Zn H;have hq:=bx _ rfl;subst hq;have H:=bt;refine Z0 (Z7a ?_);obtain rfl:=Zn H;refine Zg (br _ _ ⟨_,_,aw,M,Z,I,_,rfl,(leT (leR _) ay),(S.fr' rfl),ah,ai,bv⟩)
 rintro f w ⟨L,b,aI,s,G,h,X,hq,a0,S,a1,az,bS⟩;subst hq;have H:=bq;have r:=ZW a0 r;refine Zg (bn _ _ (Zj fun _ bT=>bO H fun cS ab H=>Zs (mv S rfl fun f S=>mv S rfl fun f S=>?_)));have D:=Z8 a0 D;refine ov S rfl (Zca S (ZI D) rfl rfl ZA) fun f S=>mv S rfl fun f S=>?_;obtain ⟨ac,rfl⟩:=Zfd S (j:=1) rfl (posN az (Zi ab).2.2.2);have a2:=Zga a1 (Zi ab).2.1;obtain ⟨cT,bU⟩:∃ c,(List.take (Zd .u64).n (List.drop (((((Zc 18446744073709551616 v)).length:Int)).toNat*(Zd .u64).n) h))=c:=⟨_,rfl⟩;rw [bU] at a2;obtain ⟨rfl,cU⟩:=a2;refine ov S rfl (ZN S rfl rfl ZA (Zi ab).1 (ltI az (Zi ab).2.2.1)) fun f S=>?_;obtain ⟨w,bV,S⟩:=ZHb S Z4 (off:=0+((((Zc 18446744073709551616 v)).length:Int)).toNat*1) (z:=.int .u64 b) (cs:=[.int .u64 b]) (ZCb rfl) rfl (i:=1) rfl (ZLd S (j:=1) rfl (ltN az (Zi ab).2.2.2)) (by first | rfl | simp [plain]);have p:Rep.rels (Zd .u64) X (List.take (0+((((Zc 18446744073709551616 v)).length:Int)).toNat*1) h++[Value.int IntKind.u64 (b)]++List.drop (0+((((Zc 18446744073709551616 v)).length:Int)).toNat*1+1) h) (L.set ((((Zc 18446744073709551616 v)).length:Int)).toNat b):=ZUc a1 (Zi ab).2.2.2 (show Rep.rel (Zd .u64) X [.int .u64 b] _ from (ZC bS)) rfl rfl
 have aM:s=(L.set ((((Zc 18446744073709551616 v)).length:Int)).toNat b).length:=ZFd az;refine Zwf wn rfl (bV rfl rfl) (Zr (Zg (bT _ _ (Zj fun _ bW=>Zj fun _ bX=>bO H fun cV bY H=>bO H fun cW bZ H=>bO H fun b1 b2 H=>Zs (mv S rfl fun f S=>?_)))));have p0s120:=r;have h69s120:=p;have b3:=S.vst.le;obtain ⟨cX,cY,a3,t,S,b4,b5,b6,T⟩:=S.lendSeg (i:=0) (A:=(Zd .u64)) (l:=u) (ℓ':=[Loc.own (some ac) 155 1 s G ((List.take (0+((((Zc 18446744073709551616 v)).length:Int)).toNat*1) h++[Value.int IntKind.u64 (b)]++List.drop (0+((((Zc 18446744073709551616 v)).length:Int)).toNat*1+1) h))]) rfl rfl aG r au bh;have p:=ZW a3 p;refine opc S rfl (Z9 S [.slice (some ⟨a,off0,none⟩) (g) C] ZMe rfl rfl) (ZOe S.vin (show Rep.rel (Zy (Zd .u64)) _ [.slice (some ⟨a,off0,none⟩) (g) C] u from T) bY) ?_;rintro _ cZ f w aA ⟨c0,rfl,P⟩ S;have p:=ZW aA p;have t:=aA _ _ t;obtain ⟨b7,b8,b9,rfl⟩:=Zja P;refine mv S rfl fun f S=>?_;have T:=Z8 aA T;have h128s137:=T;have h69s137:=p;have h133s137:=P;have h124s137:=t;have ca:=S.vst.le;obtain ⟨c3,c4,aB,ak,S,cb,cc,cd,ce⟩:=S.lendSlice (i:=0) (A:=(Zd .u64)) (l:=(L.set ((((Zc 18446744073709551616 v)).length:Int)).toNat b)) (ℓ':=[]) rfl rfl rfl p aM
 have t:=aB _ _ t;refine opc S rfl (Z9 S [.slice (mkA (some ac)) (s) G] ZMe rfl rfl) (ZOe S.vin (show Rep.rel (Zy (Zd .u64)) _ [.slice (mkA (some ac)) (s) G] ((L.set ((((Zc 18446744073709551616 v)).length:Int)).toNat b)) from ce) bZ) ?_;rintro _ c5 f w al ⟨c6,rfl,a4⟩ S;have t:=al _ _ t;have ak:=al _ _ ak;obtain ⟨cg,ch,ci,rfl⟩:=Zja a4;have P:=Z8 (leT aB al) P;refine opc S rfl (Z9 S [.slice b7 b8 b9,.slice cg ch ci] ZYq rfl rfl) (cmp_c S.vin P a4 b2) ?_;rintro _ c7 f w am ⟨c8,rfl,cj⟩ S;have t:=am _ _ t;have ak:=am _ _ ak;obtain ⟨rfl,c9⟩:=cj;refine ov S rfl (Ze S rfl rfl Zac) fun f S=>Zr ?_;obtain ⟨da,an,S⟩:=S.takeBack (e:=Loc.own (some ac) 155 1 s G ((List.take (0+((((Zc 18446744073709551616 v)).length:Int)).toNat*1) h++[Value.int IntKind.u64 (b)]++List.drop (0+((((Zc 18446744073709551616 v)).length:Int)).toNat*1+1) h))) (leT (leT aB al) am) rfl ak cb cc ca cd;have T:=Z8 (leT (leT aB al) am) T;have T:=Z8 an h128s137;have p:=ZW an h69s137;have P:=Z8 am P;have P:=Z8 an h133s137;have t:=an _ _ h124s137;obtain ⟨a5,a6,S⟩:=S.takeBack (e:=Loc.box a E (pre0++cs0++post0)) (leT (leT a3 aA) an) rfl t b4 b5 b3 b6;have r:=ZW a6 p0s120
 have p:=ZW a6 h69s120;refine Zg (bX _ _ ?_);rcases ZJ (decide (b1<(0:Int))) with ao | ao
 ·have H:=ZL H ao;refine ZS S rfl ao (sr (mw S rfl fun f S=>oe (wp_ret (ZYa ?_))));obtain rfl:=Zn H;refine Zhm S (ZNa rfl (ZR S rfl)) ⟨⟨[.bool false],rfl,Zpp⟩,(S.boxAt (j:=0) rfl).2,_,(S.boxAt (j:=0) rfl).1,au,r⟩
 have H:=ZK H ao;refine ZM S rfl ao (wp_skip (Zg (bW _ _ (sr (mw S rfl fun f S=>oe (Zj fun _ ck=>sr (mv S rfl fun f S=>ov S rfl (Zca S au rfl rfl ZA) fun f S=>mv S rfl fun f S=>oe ?_)))))));obtain ⟨cl,cm,cn⟩:=ZF H;refine Zta (fun f w=>∃ aC aN aD,aC=cl∧Zb.le a5 aD∧St 79 ⟨R,[a]⟩ o [] [Loc.box a E (pre0++aN++post0)] aD f w∧Rep.rels (Zd .u64) aD aN aC∧g=aC.length) (fun _ co=>?_) ?_
 ·have H:=cm;refine wp_block ?_;obtain ⟨db,cp,cq⟩:=ZF H;refine ZEb cp (fun cr f w=>∃ ad ap d B ae,(ad,ap,d)=cr∧Zb.le a5 ae∧St 79 ⟨R,[a]⟩ o [(0,.slice (some ⟨a,off0,none⟩) (g) C),(7,.slice (mkA (some ac)) (s) G),(14,.int .u64 ap),(58,.int .i64 ((u.length:Int))),(59,.int .i64 d)] [Loc.box a E (pre0++B++post0),Loc.own (some ac) 155 1 s G ((List.take (0+((((Zc 18446744073709551616 v)).length:Int)).toNat*1) h++[Value.int IntKind.u64 (b)]++List.drop (0+((((Zc 18446744073709551616 v)).length:Int)).toNat*1+1) h))] ae f w∧Rep.rels (Zd .u64) ae B ad∧g=ad.length∧inR .u64 ap∧inR .i64 d) ⟨_,_,_,cs0,_,rfl,(leR _),(S.fr' rfl),r,au,(by decide),(by decide)⟩ ?_;rintro _ f w st ⟨ad,ap,d,B,ae,hq,aO,S,af,Q,dc,dd⟩ H de ct cu;subst hq;have p:=ZW aO p;refine sr (ov S rfl (Ze S rfl rfl Zac) fun f S=>oe (Zj fun _ cv=>?_));rcases ZJ (decide (d<(u.length:Int))) with aq | aq
  ·have H:=ZL H aq;refine ZS S rfl aq (wp_skip (Zg (cv _ _ (Zj fun _ cw=>wp_block (sr (mv S rfl fun f S=>mw S rfl fun f S=>oe (bO H fun a7 aE H=>bO H fun a8 aF H=>bO H fun U aP H=>bO H fun df ar H=>Z2d (fl:=#[true,true,true,true,true,true,true,true,true,true,true,false,true,true,true,true,false,false]) Z5e (by kernel_rfl) S ?_)))))));intro ops O F w S;refine rfa O F 0 rfl rfl S (Zx S rfl) fun f S=>rfa O F 1 rfl rfl S (Zx S rfl) fun f S=>rfa O F 2 rfl rfl S (Zx S rfl) fun f S=>rfa O F 3 rfl rfl S (Zx S rfl) fun f S=>?_;have a9:=Zga af (Zi aE).2.1;obtain ⟨dg,ba⟩:∃ c,(List.take (Zd .u64).n (List.drop ((d).toNat*(Zd .u64).n) B))=c:=⟨_,rfl⟩;rw [ba] at a9;obtain ⟨rfl,cx⟩:=a9;refine rfa O F 4 rfl rfl S (ZN S rfl rfl ZA (Zi aE).1 (ltI Q (Zi aE).2.2.1)) fun f S=>rfa O F 5 rfl rfl S (Zha S rfl Z4 (ZUh S (j:=0) rfl aG (Zke af Q) ba (ltN Q (Zi aE).2.2.2) 0 [.int .u64 a7] rfl zl)) fun f S=>rfa O F 6 rfl rfl S (Zx S rfl) fun f S=>rfa O F 7 rfl rfl S (Zx S rfl) fun f S=>?_;have bb:=Zga p (Zi aF).2.1;obtain ⟨dh,bc⟩:∃ c,(List.take (Zd .u64).n (List.drop ((d).toNat*(Zd .u64).n) (List.take (0+((((Zc 18446744073709551616 v)).length:Int)).toNat*1) h++[Value.int IntKind.u64 (b)]++List.drop (0+((((Zc 18446744073709551616 v)).length:Int)).toNat*1+1) h)))=c:=⟨_,rfl⟩
   rw [bc] at bb;obtain ⟨rfl,cy⟩:=bb;refine rfa O F 8 rfl rfl S (ZN S rfl rfl ZA (Zi aF).1 (ltI aM (Zi aF).2.2.1)) fun f S=>rfa O F 9 rfl rfl S (Zha S rfl Z4 (ZYc S (j:=1) rfl bc (ltN aM (Zi aF).2.2.2) 0 [.int .u64 a8] rfl zl)) fun f S=>rfa O F 10 rfl rfl S (Zx S rfl) fun f S=>go1 O F 11 (nva [5,9,10,4,8,2,3,6,7] [0,1] O rfl rfl S (ZBj S [.int .u64 a7,.int .u64 a8,.int .u64 ap] (Zxr Zax cx cy aP) rfl rfl) fun f S=>⟨(py S rfl rfl (Zx S rfl) (py S rfl rfl (Zx S rfl) Zsc)),rfa O F 12 rfl rfl S (Zx S rfl) fun f S=>rfa O F 13 rfl rfl S (ZAa S rfl rfl) fun f S=>rfa O F 14 rfl rfl S (ZAa S rfl rfl) fun f S=>?_⟩);have bd:=Zga af (Zi ar).2.1;obtain ⟨di,cz⟩:∃ c,(List.take (Zd .u64).n (List.drop ((d).toNat*(Zd .u64).n) B))=c:=⟨_,rfl⟩;rw [cz] at bd;obtain ⟨rfl,dj⟩:=bd;refine rfa O F 15 rfl rfl S (ZN S rfl rfl ZA (Zi ar).1 (ltI Q (Zi ar).2.2.1)) fun f S=>go1 O F 16 ?_;obtain ⟨w,cA,S⟩:=Zov S (k:=(d).toNat) Z4 (z:=.int .u64 (U.1)) (c:=[.int .u64 (U.1)]) (ZCb rfl) rfl (i:=0) rfl aG (Zke af Q) (ltN Q (Zi ar).2.2.2) rfl (by first | rfl | simp [plain]);have cB:Rep.rels (Zd .u64) ae (List.take (0+(d).toNat*1) B++[Value.int IntKind.u64 (U.1)]++List.drop (0+(d).toNat*1+1) B) (ad.set (d).toNat U.1):=ZUc af (Zi ar).2.2.2 (show Rep.rel (Zd .u64) ae [.int .u64 (U.1)] _ from (ZC (ZKp aP))) rfl rfl
   have cC:g=(ad.set (d).toNat U.1).length:=ZFd Q;refine nxs [0,1,2,3,4,5,6,7,8,9,10,11,12,13,15] [14] O rfl rfl (cA rfl rfl) (⟨(py S rfl rfl (ZAa S rfl rfl) Zsc),go1 O F 17 (nva [0,1,2,3,4,5,6,7,8,9,10,11,12,13,14,15,16] [] O rfl rfl S (ZGd S rfl) fun f S=>⟨Zsc,Z7e O F (Ztb (Zg (cw _ _ (bO H fun dk be H=>Zs (ov S rfl (Ze S rfl rfl (ZOa be)) fun f S=>mv S rfl fun f S=>Zr ?_)))))⟩)⟩);obtain rfl:=Zn H;refine ct _ rfl _ _ ⟨_,_,_,(List.take (0+(d).toNat*1) B++[Value.int IntKind.u64 (U.1)]++List.drop (0+(d).toNat*1+1) B),_,rfl,aO,(S.fr' rfl),cB,cC,(Zjp aP),(Zua be).2⟩
  have H:=ZK H aq;refine ZM S rfl aq (wp_exit (Z0 ?_));obtain rfl:=Zn H;have hq:=cu _ rfl;subst hq;have H:=cq;refine Z0 (Z7a ?_);obtain rfl:=Zn H;have S:=S.reorder (ℓ':=[Loc.box a E (pre0++B++post0)]) [0] rfl (by decide);refine Zg (co _ _ ⟨_,B,_,rfl,(leT (leR _) aO),(S.fr' rfl),af,Q⟩)
 rintro f w ⟨aC,aN,aD,hq,dl,S,cD,cE⟩;subst hq;have H:=cn;refine Zg (ck _ _ (sr (mw S rfl fun f S=>oe (wp_ret ?_))));obtain rfl:=Zn H;refine Zhm S (ZNa rfl (ZR S rfl)) ⟨⟨[.bool true],rfl,Zpp⟩,(S.boxAt (j:=0) rfl).2,_,(S.boxAt (j:=0) rfl).1,cE,cD⟩
theorem take_c {d:World} {a:Zb} (hv:VIn a d) {b off0 c e:Nat} {f:TypeId} {pre0 cs0 post0:List Value} {u:(List Int)} (l:d.heap[b]? = some (.cells (pre0++cs0++post0).toArray f (0,0))) (m:off0=pre0.length) (n:a b=none) (o:c=u.length) (p:c≤e∧e≤maxLen) (g:Rep.rels (Zd .u64) a cs0 u) {h:List Value} {v:Nat} (r:Rep.rel Zv a h v) {i:List Value} {q:Int} (j:Rep.rel (Zd .u64) a i q) {z:Bool×(List Int)} (hm:Zlg u v q=some z) :
  RetL Tryz.prog 183 #[Value.slice (some ⟨b,off0,none⟩) c e,Zv.val h,(Zd .u64).val i] d a [b] (fun y v' w'=>(∃ k,y=Z8c.val k∧Z8c.rel v' k z.1)∧v' b=none∧∃ cs,w'.heap[b]? = some (.cells (pre0++cs++post0).toArray f (0,0))∧c=z.2.length∧Rep.rels (Zd .u64) v' cs z.2) :=
 take_w hv l m n o p g r j (ZMu (Zjm g) j.2 hm)
theorem digit_w {x:World} {m:Zb} (hv:VIn m x) {a off0 e h:Nat} {A:TypeId} {pre0 cs0 post0:List Value} {u:(List Int)} (a0:x.heap[a]? = some (.cells (pre0++cs0++post0).toArray A (0,0))) (G:off0=pre0.length) (a1:m a=none) (k:e=u.length) (a2:e≤h∧h≤maxLen) (d:Rep.rels (Zd .u64) m cs0 u) {c1:List Value} {v:Nat} (g:Rep.rel Zv m c1 v) {z:Int×(List Int)} (H:ZFh u v=some z):RetL Tryz.prog 145 #[.slice (some ⟨a,off0,none⟩) e h,Zv.val c1] x m [a] (fun y v' w'=>(∃ r0,y=(Zd .u64).val r0∧(Zd .u64).rel v' r0 z.1)∧v' a=none∧∃ cs,w'.heap[a]? = some (.cells (pre0++cs++post0).toArray A (0,0))∧e=z.2.length∧Rep.rels (Zd .u64) v' cs z.2):=by
 obtain ⟨q1,o,p,rfl⟩:=Zja g;refine Zkq (K:=90) (args:=[.slice (some ⟨a,off0,none⟩) (e) h,.slice q1 o p]) hv a0 a1 Tryz.func145 rfl rfl zl fun f S=>?_;unfold ZFh at H;refine sr (mw S rfl fun f S=>oe (sr (mv S rfl fun f S=>ov S rfl (Zca S (ZI g) rfl rfl ZA) fun f S=>mw S rfl fun f S=>oe (sr (mw S rfl fun f S=>oe (Zj fun _ a3=>Zj fun _ a4=>bO H fun aE V H=>?_))))));refine bO H fun ck a5 H=>bO H fun a6 aj H=>Z2d (fl:=#[true,true,true,true,true,true,true,true,true,true]) Z5e (by kernel_rfl) S ?_;intro ops O F w S;refine rfa O F 0 rfl rfl S (Zx S rfl) fun f S=>rfa O F 1 rfl rfl S (Zx S rfl) fun f S=>?_;have aF:=Zga d (Zi V).2.1;obtain ⟨cl,aG⟩:∃ c,(List.take (Zd .u64).n (List.drop (((((Zc 18446744073709551616 v)).length:Int)).toNat*(Zd .u64).n) cs0))=c:=⟨_,rfl⟩;rw [aG] at aF;obtain ⟨rfl,cm⟩:=aF;refine rfa O F 2 rfl rfl S (ZN S rfl rfl ZA (Zi V).1 (ltI k (Zi V).2.2.1)) fun f S=>rfa O F 3 rfl rfl S (Zha S rfl Z4 (ZUh S (j:=0) rfl G (Zke d k) aG (ltN k (Zi V).2.2.2) 0 [.int .u64 aE] rfl zl)) fun f S=>rfa O F 4 rfl rfl S (Zx S rfl) fun f S=>rfa O F 5 rfl rfl S (Zx S rfl) fun f S=>rfa O F 6 rfl rfl S (Ze S rfl rfl (Zza a5)) fun f S=>?_;obtain ⟨_,r,s,cn,rfl,a7,a8⟩:=Z3a g (Zi aj).2.1
 obtain ⟨rfl,co⟩:=a8;refine rfa O F 7 rfl rfl S (ZN S rfl rfl ZA (Zi aj).1 (ltI (ZI g) (Zi aj).2.2.1)) fun f S=>rfa O F 8 rfl rfl S (Zha S rfl Z4 (S.view a7)) fun f S=>rfa O F 9 rfl rfl S (Ze S rfl rfl Zac) fun f S=>Z7e O F (Zg (a4 _ _ ?_));obtain ⟨a9,ba,bb⟩:=ZF H;refine Zta (fun f w=>∃ W I,W=a9∧Zb.le m I∧St 90 ⟨x,[a]⟩ m [(0,.slice (some ⟨a,off0,none⟩) (e) h),(1,.slice (some ⟨r,s,none⟩) o p),(6,.int .u64 W)] [Loc.box a A (pre0++cs0++post0)] I f w∧inR .u64 W) (fun _ aH=>?_) ?_
 ·have H:=ba;rcases ZJ (decide (aE<a6)) with J | J
  ·have H:=ZL H J;refine ZS S rfl J (sr (mw S rfl fun f S=>oe (Zj fun _ bc=>bO H fun X Y H=>bO H fun bd be H=>bO H fun Z aa H=>bO H fun cp bf H=>bO H fun ak al H=>bO H fun aI bg H=>Z2d (fl:=#[true,true,true,true,true,true,true,true,true,true,true,true,true,true,false,true,true,true,false,false]) Z5e (by kernel_rfl) S ?_)));intro ops O F w S;refine rfa O F 0 rfl rfl S (Zx S rfl) fun f S=>rfa O F 1 rfl rfl S (Zx S rfl) fun f S=>?_;have aJ:=Zga d (Zi Y).2.1;obtain ⟨cq,aK⟩:∃ c,(List.take (Zd .u64).n (List.drop (((((Zc 18446744073709551616 v)).length:Int)).toNat*(Zd .u64).n) cs0))=c:=⟨_,rfl⟩;rw [aK] at aJ;obtain ⟨rfl,bh⟩:=aJ;refine rfa O F 2 rfl rfl S (ZN S rfl rfl ZA (Zi Y).1 (ltI k (Zi Y).2.2.1)) fun f S=>rfa O F 3 rfl rfl S (Zha S rfl Z4 (ZUh S (j:=0) rfl G (Zke d k) aK (ltN k (Zi Y).2.2.2) 0 [.int .u64 X] rfl zl)) fun f S=>rfa O F 4 rfl rfl S (Zx S rfl) fun f S=>rfa O F 5 rfl rfl S (Zx S rfl) fun f S=>rfa O F 6 rfl rfl S (Ze S rfl rfl (Zza be)) fun f S=>?_;have aL:=Zga d (Zi aa).2.1;obtain ⟨cr,aM⟩:∃ c,(List.take (Zd .u64).n (List.drop ((bd).toNat*(Zd .u64).n) cs0))=c:=⟨_,rfl⟩;rw [aM] at aL;obtain ⟨rfl,bi⟩:=aL;refine rfa O F 7 rfl rfl S (ZN S rfl rfl ZA (Zi aa).1 (ltI k (Zi aa).2.2.1)) fun f S=>rfa O F 8 rfl rfl S (Zha S rfl Z4 (ZUh S (j:=0) rfl G (Zke d k) aM (ltN k (Zi aa).2.2.2) 0 [.int .u64 Z] rfl zl)) fun f S=>rfa O F 9 rfl rfl S (Zx S rfl) fun f S=>rfa O F 10 rfl rfl S (Zx S rfl) fun f S=>rfa O F 11 rfl rfl S (Ze S rfl rfl (Zza bf)) fun f S=>?_
   obtain ⟨ct,am,bj⟩:=Z8g g (Zi al).2.1;obtain ⟨rfl,bk⟩:=bj;refine rfa O F 12 rfl rfl S (ZN S rfl rfl ZA (Zi al).1 (ltI (ZI g) (Zi al).2.2.1)) fun f S=>rfa O F 13 rfl rfl S (Zha S rfl Z4 (S.view am)) fun f S=>go1 O F 14 (nxc [3,8,13,2,7,12,0,1,4,6,9,11,5,10] [] O rfl S rfl (Z9 S [.int .u64 X,.int .u64 Z,.int .u64 ak] ZFp rfl rfl) (ZHo S.vin (show Rep.rel (Zd .u64) _ [.int .u64 X] X from (ZC bh)) (show Rep.rel (Zd .u64) _ [.int .u64 Z] Z from (ZC bi)) (show Rep.rel (Zd .u64) _ [.int .u64 ak] ak from (ZC bk)) bg) ?_);rintro _ aN f w ab ⟨cu,cv,rfl,bm,bn⟩ S;have d:=ZW ab d;have am:=Atm ab am;obtain ⟨rfl,bo⟩:=bm;obtain ⟨rfl,bp⟩:=bn;refine ⟨Zsc,rfa O F 15 rfl rfl S (Zx S rfl) fun f S=>rfa O F 16 rfl rfl S (ZAa S rfl rfl) fun f S=>rfa O F 17 rfl rfl S (ZAa S rfl rfl) fun f S=>go1 O F 18 (nva [0,1,2,3,4,5,6,7,8,9,10,11,12,13,14,15,16] [17] O rfl rfl S (ZGd S rfl) fun f S=>⟨(py S rfl rfl (ZAa S rfl rfl) Zsc),go1 O F 19 (nva [0,1,2,3,4,5,6,7,8,9,10,11,12,13,14,15,16,17,18] [] O rfl rfl S (ZGd S rfl) fun f S=>⟨Zsc,Z7e O F ?_⟩)⟩)⟩;have S:=S.fr' (σ':=[(0,.slice (some ⟨a,off0,none⟩) (e) h),(1,.slice (some ⟨r,s,none⟩) o p),(5,.int .i64 ((((Zc 18446744073709551616 v)).length:Int))),(6,.int .u64 (aI.1)),(7,.int .u64 (aI.2))]) rfl
   refine Zg (bc _ _ ?_);obtain ⟨bq,br,bs⟩:=ZF H;refine Zta (fun f w=>∃ ac an,ac=bq∧Zb.le aN an∧St 90 ⟨x,[a]⟩ m [(0,.slice (some ⟨a,off0,none⟩) (e) h),(1,.slice (some ⟨r,s,none⟩) o p),(6,.int .u64 ac)] [Loc.box a A (pre0++cs0++post0)] an f w∧inR .u64 ac) (fun _ aO=>?_) ?_
   ·have H:=br;refine wp_block ?_;obtain ⟨cw,bt,aP⟩:=ZF H;refine ZEb bt (fun bu f w=>∃ q l ao,(q,l)=bu∧Zb.le aN ao∧St 90 ⟨x,[a]⟩ m [(0,.slice (some ⟨a,off0,none⟩) (e) h),(1,.slice (some ⟨r,s,none⟩) o p),(5,.int .i64 ((((Zc 18446744073709551616 v)).length:Int))),(6,.int .u64 q),(7,.int .u64 l)] [Loc.box a A (pre0++cs0++post0)] ao f w∧inR .u64 q∧inR .u64 l) ⟨_,_,_,rfl,(leR _),(S.fr' rfl),bo,bp⟩ ?_;rintro _ f w st ⟨q,l,ao,hq,L,S,aQ,cx⟩ H cy bv aR;subst hq;have d:=ZW L d;refine wp_block (Zj fun _ bw=>bO H fun cz bx H=>bO H fun ap aq H=>bO H fun B bz H=>Zs (mv S rfl fun f S=>mv S rfl fun f S=>mv S rfl fun f S=>ov S rfl (Ze S rfl rfl (Zza bx)) fun f S=>?_));have g:=Z8 (leT ab L) g;obtain ⟨cA,ar,bA⟩:=Z8g g (Zi aq).2.1;obtain ⟨rfl,bB⟩:=bA;refine ov S rfl (ZN S rfl rfl ZA (Zi aq).1 (ltI (ZI g) (Zi aq).2.2.1)) fun f S=>ov S rfl (Zha S rfl Z4 (S.view ar)) fun f S=>opc S rfl (Z9 S [.int .u64 q,.int .u64 ap] Zon rfl rfl) (ZTm S.vin (show Rep.rel (Zd .u64) _ [.int .u64 q] q from (ZC aQ)) (show Rep.rel (Zd .u64) _ [.int .u64 ap] ap from (ZC bB)) bz) ?_;rintro _ bC f w E ⟨cB,cC,rfl,bD,bE⟩ S
    have d:=ZW E d;have ar:=Atm E ar;obtain ⟨rfl,cD⟩:=bD;obtain ⟨rfl,cE⟩:=bE;refine mv S rfl fun f S=>ov S rfl (ZAa S rfl rfl) fun f S=>ov S rfl (ZAa S rfl rfl) fun f S=>mw S rfl fun f S=>mw S rfl fun f S=>Zr (Zg (bw _ _ (Zj fun _ bG=>Zj fun _ bH=>?_)));obtain ⟨bI,bJ,bK⟩:=ZF H;refine Zta (fun f w=>∃ ad au,ad=bI∧Zb.le bC au∧St 90 ⟨x,[a]⟩ m [(0,.slice (some ⟨a,off0,none⟩) (e) h),(1,.slice (some ⟨r,s,none⟩) o p),(5,.int .i64 ((((Zc 18446744073709551616 v)).length:Int))),(6,.int .u64 q),(7,.int .u64 l),(67,.bool ad)] [Loc.box a A (pre0++cs0++post0)] au f w) (fun _ av=>?_) ?_
    ·have H:=bJ;refine Zs (mv S rfl fun f S=>mv S rfl fun f S=>ov S rfl (Ze S rfl rfl Zac) fun f S=>mv S rfl fun f S=>?_);rcases ZJ (decide (B.1<l)) with M | M
     ·have H:=ZL H M;have S:=S.bool (t:=54) rfl M;refine opn S rfl rfl rfl rfl fun f S=>opn S rfl rfl rfl rfl fun f S=>opn S rfl rfl rfl rfl fun f S=>opn S rfl rfl rfl rfl fun f S=>Zye S (Zie S rfl rfl rfl zl) rfl zl fun f S=>Zye S (Zie S rfl rfl rfl zl) rfl zl fun f S=>Zye S (Zie S rfl rfl rfl zl) rfl zl fun f S=>Zye S (Zie S rfl rfl rfl zl) rfl zl fun f S=>Zye S (Zie S rfl rfl rfl zl) rfl zl fun f S=>Zye S (Zie S rfl rfl rfl zl) rfl zl fun f S=>Zye S (Zie S rfl rfl rfl zl) rfl zl fun f S=>opn S rfl rfl rfl rfl fun f S=>ov S rfl (ZAb S (b:=true) rfl rfl) fun f S=>Zr ?_;have S:=S.fr' (σ':=[(0,.slice (some ⟨a,off0,none⟩) (e) h),(1,.slice (some ⟨r,s,none⟩) o p),(5,.int .i64 ((((Zc 18446744073709551616 v)).length:Int))),(6,.int .u64 q),(7,.int .u64 l),(55,undef),(56,undef),(57,undef),(58,undef),(59,undef),(60,undef),(61,undef),(62,undef),(63,undef),(64,undef),(65,undef),(66,undef),(67,.bool true)]) rfl;obtain rfl:=Zn H;refine Zg (av _ _ ⟨_,_,rfl,(leR _),(S.fr' rfl)⟩)
     have H:=ZK H M;have S:=S.bool (t:=54) rfl M;refine opy S rfl rfl rfl rfl (Zx S rfl) fun f S=>opy S rfl rfl rfl rfl (Zx S rfl) fun f S=>opy S rfl rfl rfl rfl (Ze S rfl rfl Z3d) fun f S=>opy S rfl rfl rfl rfl (Zx S rfl) fun f S=>?_;rcases ZJ (B.1==l) with C | C
     ·have H:=ZL H C;have S:=S.bool (t:=57) rfl C;have S:=S.bool (t:=58) rfl C;refine bO H fun aw bM H=>bO H fun N ae H=>opy S rfl rfl rfl rfl (Zx S rfl) fun f S=>opy S rfl rfl rfl rfl (Zx S rfl) fun f S=>opy S rfl rfl rfl rfl (Zx S rfl) fun f S=>opy S rfl rfl rfl rfl (Ze S rfl rfl (Zza bM)) fun f S=>?_;have aS:=Zga d (Zi ae).2.1;obtain ⟨cF,aT⟩:∃ c,(List.take (Zd .u64).n (List.drop ((aw).toNat*(Zd .u64).n) cs0))=c:=⟨_,rfl⟩;rw [aT] at aS;obtain ⟨rfl,cG⟩:=aS;refine opy S rfl rfl rfl rfl (ZN S rfl rfl ZA (Zi ae).1 (ltI k (Zi ae).2.2.1)) fun f S=>opy S rfl rfl rfl rfl (Zha S rfl Z4 (ZUh S (j:=0) rfl G (Zke d k) aT (ltN k (Zi ae).2.2.2) 0 [.int .u64 N] rfl zl)) fun f S=>opy S rfl rfl rfl rfl (Ze S rfl rfl ZGn) fun f S=>opy S rfl rfl rfl rfl (ZAb S (b:=true) rfl rfl) fun f S=>ov S rfl (ZAb S (b:=false) rfl rfl) fun f S=>Zr ?_;have S:=S.fr' (σ':=[(0,.slice (some ⟨a,off0,none⟩) (e) h),(1,.slice (some ⟨r,s,none⟩) o p),(5,.int .i64 ((((Zc 18446744073709551616 v)).length:Int))),(6,.int .u64 q),(7,.int .u64 l),(55,.int .u64 (B.1)),(56,.int .u64 l),(57,.bool true),(58,.bool true),(59,.int .u64 (B.2)),(60,.slice (some ⟨a,off0,none⟩) (e) h),(61,.int .i64 ((((Zc 18446744073709551616 v)).length:Int))),(62,.int .i64 aw),(63,.pointer (some ⟨a,off0+(aw).toNat*1,none⟩)),(64,.int .u64 N),(65,.bool (decide (B.2≤N))),(66,.bool (decide (B.2≤N))),(67,.bool (decide (B.2≤N)))]) rfl
      obtain rfl:=Zn H;refine Zg (av _ _ ⟨_,_,rfl,(leR _),(S.fr' rfl)⟩)
     have H:=ZK H C;have S:=S.bool (t:=57) rfl C;have S:=S.bool (t:=58) rfl C;refine opn S rfl rfl rfl rfl fun f S=>opn S rfl rfl rfl rfl fun f S=>opn S rfl rfl rfl rfl fun f S=>opn S rfl rfl rfl rfl fun f S=>opn S rfl rfl rfl rfl fun f S=>opn S rfl rfl rfl rfl fun f S=>opn S rfl rfl rfl rfl fun f S=>opy S rfl rfl rfl rfl (ZAb S (b:=false) rfl rfl) fun f S=>ov S rfl (ZAb S (b:=false) rfl rfl) fun f S=>Zr ?_;have S:=S.fr' (σ':=[(0,.slice (some ⟨a,off0,none⟩) (e) h),(1,.slice (some ⟨r,s,none⟩) o p),(5,.int .i64 ((((Zc 18446744073709551616 v)).length:Int))),(6,.int .u64 q),(7,.int .u64 l),(55,.int .u64 (B.1)),(56,.int .u64 l),(57,.bool false),(58,.bool false),(59,undef),(60,undef),(61,undef),(62,undef),(63,undef),(64,undef),(65,undef),(66,.bool false),(67,.bool false)]) rfl;obtain rfl:=Zn H;refine Zg (av _ _ ⟨_,_,rfl,(leR _),(S.fr' rfl)⟩)
    rintro f w ⟨ad,au,hq,P,S⟩;subst hq;have H:=bK;have d:=ZW P d;refine Zg (bH _ _ ?_);rcases ZJ (ad) with Q | Q
    ·have H:=ZL H Q;refine ZS S rfl Q (wp_exit (Z0 (Zpl rfl ?_)));obtain rfl:=Zn H;have hq:=aR _ rfl;subst hq;have H:=aP;refine Z0 (Z7a ?_);obtain rfl:=Zn H;refine Zg (aO _ _ ⟨_,_,rfl,(leT (leT (leT (leR _) L) E) P),(S.fr' rfl),aQ⟩)
    have H:=ZK H Q;refine ZM S rfl Q (wp_skip (Zg (bG _ _ (sr (mv S rfl fun f S=>ov S rfl (Ze S rfl rfl ZNd) fun f S=>mw S rfl fun f S=>oe (sr (mw S rfl fun f S=>oe (Zj fun _ bP=>bO H fun cH bQ H=>bO H fun bR ax H=>?_))))))));refine bO H fun bS aU H=>Zs (mv S rfl fun f S=>mv S rfl fun f S=>mv S rfl fun f S=>ov S rfl (Ze S rfl rfl (Zza bQ)) fun f S=>?_);have g:=Z8 (leT E P) g;obtain ⟨cI,bT,bU⟩:=Z8g g (Zi ax).2.1;obtain ⟨rfl,cJ⟩:=bU;refine ov S rfl (ZN S rfl rfl ZA (Zi ax).1 (ltI (ZI g) (Zi ax).2.2.1)) fun f S=>ov S rfl (Zha S rfl Z4 (S.view bT)) fun f S=>ov S rfl (ZBj S [.int .u64 l,.int .u64 bR,.int .u64 0] (Zgn Zeq aU) rfl rfl) fun f S=>mv S rfl fun f S=>ov S rfl (ZAa S rfl rfl) fun f S=>ov S rfl (ZAa S rfl rfl) fun f S=>mw S rfl fun f S=>mw S rfl fun f S=>Zr (Zg (bP _ _ (sr (mv S rfl fun f S=>ov S rfl (Ze S rfl rfl Z0c) fun f S=>oe ?_))));rcases ZJ (decide ((0:Int)<bS.2)) with R | R
    ·have H:=ZL H R;refine ZS S rfl R (wp_exit (Zpl rfl ?_));obtain rfl:=Zn H;have hq:=aR _ rfl;subst hq;have H:=aP;refine Z0 (Z7a ?_);obtain rfl:=Zn H;refine Zg (aO _ _ ⟨_,_,rfl,(leT (leT (leT (leR _) L) E) P),(S.fr' rfl),(Zqa _ _)⟩)
    have H:=ZK H R;refine ZM S rfl R (wp_skip (Ztb ?_));obtain rfl:=Zn H;refine bv _ rfl _ _ ⟨_,_,_,rfl,(leT (leT L E) P),(S.fr' rfl),(Zqa _ _),(Z6l aU)⟩
   rintro f w ⟨ac,an,hq,aV,S,bV⟩;subst hq;have H:=bs;have d:=ZW aV d;obtain rfl:=Zn H;refine Zg (aH _ _ ⟨_,_,rfl,(leT (leT (leR _) ab) aV),(S.fr' rfl),bV⟩)
  have H:=ZK H J;refine ZM S rfl J (wp_skip ?_);obtain rfl:=Zn H;refine Zg (aH _ _ ⟨_,_,rfl,(leR _),(S.fr' rfl),(by decide)⟩)
 rintro f w ⟨W,I,hq,aW,S,bW⟩;subst hq;have H:=bb;have d:=ZW aW d;refine Zg (a3 _ _ (Zj fun _ bX=>?_));obtain ⟨bY,bZ,b1⟩:=ZF H;refine Zta (fun f w=>∃ af T ay ag,(af,T)=bY∧Zb.le I ag∧St 90 ⟨x,[a]⟩ m [(6,.int .u64 T)] [Loc.box a A (pre0++ay++post0)] ag f w∧Rep.rels (Zd .u64) ag ay af∧e=af.length∧inR .u64 T) (fun _ b2=>?_) ?_
 ·have H:=bZ;refine wp_block ?_;obtain ⟨cK,b3,b4⟩:=ZF H;refine ZEb b3 (fun b5 f w=>∃ ah D az ai,(ah,D)=b5∧Zb.le I ai∧St 90 ⟨x,[a]⟩ m [(0,.slice (some ⟨a,off0,none⟩) (e) h),(1,.slice (some ⟨r,s,none⟩) o p),(6,.int .u64 D)] [Loc.box a A (pre0++az++post0)] ai f w∧Rep.rels (Zd .u64) ai az ah∧e=ah.length∧inR .u64 D) ⟨_,_,cs0,_,rfl,(leR _),(S.fr' rfl),d,k,bW⟩ ?_;rintro _ f w st ⟨ah,D,az,ai,hq,aA,S,aB,b6,aX⟩ H cL b7 b8;subst hq;refine Zj fun _ b9=>Zj fun _ ca=>bO H fun cb cc H=>Zs (mv S rfl fun f S=>mv S rfl fun f S=>mv S rfl fun f S=>?_);have g:=Z8 (leT aW aA) g;refine Zcp S wn rfl zl (Z9 S [.slice (some ⟨a,off0,none⟩) (e) h,.slice (some ⟨r,s,none⟩) o p,.int .u64 D] k_en183 rfl rfl) (i:=0) rfl rfl (take_c S.vin (S.boxAt (j:=0) rfl).1 G (S.boxAt (j:=0) rfl).2 b6 a2 aB g (show Rep.rel (Zd .u64) _ [.int .u64 D] D from (ZC aX)) cc) ?_;rintro _ cM f w aC ⟨⟨cN,rfl,cd⟩,ce,aD,cg,aY,aZ⟩ hSf;have aB:=ZW aC aB;have S:=hSf (Loc.box a A (pre0++aD++post0)) rfl cg ce;obtain rfl:=cd;refine ov S rfl (ZSo S rfl) fun f S=>Zr (Zg (ca _ _ ?_));rcases ZJ (!(cb.1)) with U | U
  ·have H:=ZL H U;refine ZS S rfl U (wp_skip (Zg (b9 _ _ (wp_block (Zs (mv S rfl fun f S=>ov S rfl (Ze S rfl rfl ZNd) fun f S=>mw S rfl fun f S=>Zr (Ztb ?_)))))));obtain rfl:=Zn H;refine b7 _ rfl _ _ ⟨_,_,aD,_,rfl,(leT aA aC),(S.fr' rfl),aZ,aY,(Zqa _ _)⟩
  have H:=ZK H U;refine ZM S rfl U (wp_exit (Z0 ?_));obtain rfl:=Zn H;have hq:=b8 _ rfl;subst hq;have H:=b4;refine Z0 (Z7a ?_);obtain rfl:=Zn H;refine Zg (b2 _ _ ⟨_,_,aD,_,rfl,(leT (leT (leR _) aA) aC),(S.fr' rfl),aZ,aY,aX⟩)
 rintro f w ⟨af,T,ay,ag,hq,cO,S,ch,ci,cj⟩;subst hq;have H:=b1;refine Zg (bX _ _ (sr (mv S rfl fun f S=>mw S rfl fun f S=>oe (wp_ret ?_))));obtain rfl:=Zn H;refine Zhm S (ZNa rfl (ZR S rfl)) ⟨⟨[.int .u64 T],rfl,(ZC cj)⟩,(S.boxAt (j:=0) rfl).2,_,(S.boxAt (j:=0) rfl).1,ci,ch⟩
theorem digit_c {d:World} {b:Zb} (hv:VIn b d) {a off0 c e:Nat} {f:TypeId} {pre0 cs0 post0:List Value} {u:(List Int)} (j:d.heap[a]? = some (.cells (pre0++cs0++post0).toArray f (0,0))) (k:off0=pre0.length) (l:b a=none) (m:c=u.length) (n:c≤e∧e≤maxLen) (g:Rep.rels (Zd .u64) b cs0 u) {h:List Value} {v:Nat} (o:Rep.rel Zv b h v) {z:Int×(List Int)} (hm:Z8f u v=some z) :
  RetL Tryz.prog 145 #[Value.slice (some ⟨a,off0,none⟩) c e,Zv.val h] d b [a] (fun y v' w'=>(∃ i,y=(Zd .u64).val i∧(Zd .u64).rel v' i z.1)∧v' a=none∧∃ cs,w'.heap[a]? = some (.cells (pre0++cs++post0).toArray f (0,0))∧c=z.2.length∧Rep.rels (Zd .u64) v' cs z.2) :=
 digit_w hv j k l m n g o (Zos (Zjm g) hm)
theorem left_w {I:World} {o:Zb} (hv:VIn o I) {c0:List Value} {a:Nat} (h:Rep.rel Zv o c0 a) {c1:List Value} {n:Int} (p1:Rep.rel (Zd .i64) o c1 n) {z:Nat} (H:Z4f a n=some z):Ret Tryz.prog 144 #[Zv.val c0,(Zd .i64).val c1] I o (fun y v'=>∃ r0,y=Zv.val r0∧Zv.rel v' r0 z):=by
 obtain ⟨W,J,L,rfl⟩:=Zja h;obtain ⟨rfl,r4⟩:=p1;refine ZJb (K:=58) (args:=[.slice W J L,.int .i64 n]) hv Tryz.func144 rfl rfl zl fun f S=>?_;unfold Z4f at H;refine sr (mw S rfl fun f S=>oe (Zj fun _ av=>Zj fun _ aw=>?_));obtain ⟨ax,ay,az⟩:=ZF H;refine Zta (fun f w=>∃ X v,X=ax∧Zb.le o v∧St 58 I o [(0,.slice W J L),(1,.int .i64 n),(14,.bool X)] [] v f w) (fun _ ag=>?_) ?_
 ·have H:=ay;refine Zs (mv S rfl fun f S=>ov S rfl (Zca S (ZI h) rfl rfl ZA) fun f S=>ov S rfl (Ze S rfl rfl Z3d) fun f S=>mv S rfl fun f S=>?_);rcases ZJ (((((Zc 18446744073709551616 a)).length:Int))==(0:Int)) with M | M
  ·have H:=ZL H M;have S:=S.bool (t:=11) rfl M;refine opn S rfl rfl rfl rfl fun f S=>opn S rfl rfl rfl rfl fun f S=>ov S rfl (ZAb S (b:=true) rfl rfl) fun f S=>Zr ?_;obtain rfl:=Zn H;refine Zg (ag _ _ ⟨_,_,rfl,(leR _),(S.fr' rfl)⟩)
  have H:=ZK H M;have S:=S.bool (t:=11) rfl M;refine opy S rfl rfl rfl rfl (Zx S rfl) fun f S=>opy S rfl rfl rfl rfl (Ze S rfl rfl Z3d) fun f S=>ov S rfl (ZAb S (b:=false) rfl rfl) fun f S=>Zr ?_;obtain rfl:=Zn H;refine Zg (ag _ _ ⟨_,_,rfl,(leR _),(S.fr' rfl)⟩)
 rintro f w ⟨X,v,hq,ah,S⟩;subst hq;have H:=az;refine Zg (aw _ _ ?_);rcases ZJ (X) with N | N
 ·have H:=ZL H N;refine ZS S rfl N (sr (mv S rfl fun f S=>mw S rfl fun f S=>oe (wp_ret (ZYa ?_))));obtain rfl:=Zn H;have h:=Z8 ah h;refine ZEa S (ZNa rfl (ZR S rfl)) ⟨[.slice W J L],rfl,h⟩
 have H:=ZK H N;refine ZM S rfl N (wp_skip (Zg (av _ _ (Zj fun _ aA=>bO H fun bo aB H=>bO H fun bp aC H=>bO H fun B aD H=>bO H fun bq Y H=>Zs (mv S rfl fun f S=>?_)))));have h:=Z8 ah h;refine ov S rfl (Zca S (ZI h) rfl rfl ZA) fun f S=>mv S rfl fun f S=>ov S rfl (Ze S rfl rfl (Zlc aB)) fun f S=>ov S rfl (Ze S rfl rfl (ZOa aC)) fun f S=>ov S rfl (Ze S rfl rfl (ZOa aD)) fun f S=>?_;obtain ⟨ai,aj⟩:∃ c:List Value,c=(List.replicate (B).toNat [.int .u64 0]).flatten:=⟨_,rfl⟩;obtain ⟨aE,w,aF,S⟩:=ZXh ZSd S (l:=B) (c:=B) (ZPa Y).1 (ZPa Y).2.1 (ZPa Y).2.2.1 (ZPa Y).2.2.2 aj;have aG:Rep.rels (Zd .u64) v ai (List.replicate (B).toNat (0:Int)):=by rw [aj];exact Z1d (show Rep.rel (Zd .u64) _ [.int .u64 0] _ from (ZC (by decide))) _
 refine Zzb wn rfl zl (aF rfl rfl) S fun f S=>mw S rfl fun f S=>Zr (Zg (aA _ _ (Zj fun _ aH=>sr (mv S rfl fun f S=>ov S rfl (Zca S (ZI h) rfl rfl ZA) fun f S=>mv S rfl fun f S=>oe ?_))));obtain ⟨aI,aJ,aK⟩:=ZF H;refine Zta (fun f w=>∃ C P D Q ac Z,C=aI∧Zb.le v Z∧St 58 I o [(5,.slice (mkA P) D Q)] [Loc.own P 155 1 D Q ac] Z f w∧Rep.rels (Zd .u64) Z ac C∧D=C.length) (fun _ aL=>?_) ?_
 ·have H:=aJ;refine wp_block ?_;obtain ⟨br,aM,aN⟩:=ZF H;refine ZEb aM (fun aO f w=>∃ p E aa m G e q,(p,E)=aO∧Zb.le v q∧St 58 I o [(1,.int .i64 n),(5,.slice (mkA aa) m G),(23,.slice W J L),(24,.int .i64 ((((Zc 18446744073709551616 a)).length:Int))),(25,.int .i64 E)] [Loc.own aa 155 1 m G e] q f w∧Rep.rels (Zd .u64) q e p∧m=p.length∧inR .i64 E) ⟨_,_,some aE,(B).toNat,(B).toNat,ai,_,rfl,(leR _),(S.fr' rfl),aG,(repN (x:=(0:Int))),(by decide)⟩ ?_;rintro _ f w st ⟨p,E,aa,m,G,e,q,hq,ad,S,ab,s,bs⟩ H bt aP aQ;subst hq;refine sr (ov S rfl (Ze S rfl rfl Zac) fun f S=>oe (Zj fun _ aR=>?_));rcases ZJ (decide (E<(((Zc 18446744073709551616 a)).length:Int))) with R | R
  ·have H:=ZL H R;refine ZS S rfl R (wp_skip (Zg (aR _ _ (Zj fun _ aS=>wp_block (Zj fun _ aT=>bO H fun bu ae H=>Zs (mv S rfl fun f S=>?_))))));have h:=Z8 ad h;obtain ⟨_,aU,aV,bv,rfl,aW,aX⟩:=Z3a h (Zi ae).2.1;obtain ⟨rfl,aY⟩:=aX;refine ov S rfl (ZN S rfl rfl ZA (Zi ae).1 (ltI (ZI h) (Zi ae).2.2.1)) fun f S=>ov S rfl (Zha S rfl Z4 (S.view aW)) fun f S=>mw S rfl fun f S=>mw S rfl fun f S=>Zr (Zg (aT _ _ (Zj fun _ aZ=>bO H fun bw a0 H=>bO H fun d a1 H=>bO H fun g T H=>bO H fun bx a2 H=>bO H fun k a3 H=>bO H fun bz U H=>Z2d (fl:=#[true,true,true,true,true,true,true,true,true,true,true,true,true,false]) Z5e (by kernel_rfl) S ?_)));intro ops O F w S;refine rfa O F 0 rfl rfl S (Zx S rfl) fun f S=>rfa O F 1 rfl rfl S (Zx S rfl) fun f S=>rfa O F 2 rfl rfl S (Zx S rfl) fun f S=>rfa O F 3 rfl rfl S (Ze S rfl rfl (Zlc a0)) fun f S=>rfa O F 4 rfl rfl S (Ze S rfl rfl (ZOa a1)) fun f S=>?_;obtain ⟨ak,rfl⟩:=Zfd S (j:=0) rfl (posN s (Zi T).2.2.2);have al:=Zga ab (Zi T).2.1;obtain ⟨bA,am⟩:∃ c,(List.take (Zd .u64).n (List.drop ((d).toNat*(Zd .u64).n) e))=c:=⟨_,rfl⟩;rw [am] at al;obtain ⟨rfl,bB⟩:=al;refine rfa O F 5 rfl rfl S (ZN S rfl rfl ZA (Zi T).1 (ltI s (Zi T).2.2.1)) fun f S=>rfa O F 6 rfl rfl S (Zha S rfl Z4 (ZYc S (j:=0) rfl am (ltN s (Zi T).2.2.2) 0 [.int .u64 g] rfl zl)) fun f S=>rfa O F 7 rfl rfl S (Zx S rfl) fun f S=>rfa O F 8 rfl rfl S (Zx S rfl) fun f S=>rfa O F 9 rfl rfl S (Ze S rfl rfl (Zbf a2)) fun f S=>rfa O F 10 rfl rfl S (Ze S rfl rfl (Z6g a3)) fun f S=>rfa O F 11 rfl rfl S (Ze S rfl rfl Z8j) fun f S=>?_
   have an:=Zga ab (Zi U).2.1;obtain ⟨bC,a4⟩:∃ c,(List.take (Zd .u64).n (List.drop ((d).toNat*(Zd .u64).n) e))=c:=⟨_,rfl⟩;rw [a4] at an;obtain ⟨rfl,bD⟩:=an;refine rfa O F 12 rfl rfl S (ZN S rfl rfl ZA (Zi U).1 (ltI s (Zi U).2.2.1)) fun f S=>go1 O F 13 ?_;obtain ⟨w,a5,S⟩:=ZHb S Z4 (off:=0+(d).toNat*1) (z:=.int .u64 (orI .u64 g k)) (cs:=[.int .u64 (orI .u64 g k)]) (ZCb rfl) rfl (i:=0) rfl (ZLd S (j:=0) rfl (ltN s (Zi U).2.2.2)) (by first | rfl | simp [plain]);have ao:Rep.rels (Zd .u64) q (List.take (0+(d).toNat*1) e++[Value.int IntKind.u64 (orI .u64 g k)]++List.drop (0+(d).toNat*1+1) e) (p.set (d).toNat (orI .u64 g k)):=ZUc ab (Zi U).2.2.2 (show Rep.rel (Zd .u64) q [.int .u64 (orI .u64 g k)] _ from (ZC (Zqa _ _))) rfl rfl;have af:m=(p.set (d).toNat (orI .u64 g k)).length:=ZFd s;refine nxs [0,1,2,3,4,5,6,7,8,9,10,11,12] [] O rfl rfl (a5 rfl rfl) (⟨Zsc,Z7e O F (Zg (aZ _ _ (bO H fun bE a6 H=>bO H fun bG a7 H=>bO H fun r a8 H=>bO H fun bH a9 H=>bO H fun bI ba H=>bO H fun u ap H=>bO H fun bJ V H=>Zs (mv S rfl fun f S=>mv S rfl fun f S=>?_))))⟩);refine mv S rfl fun f S=>ov S rfl (Ze S rfl rfl (Zlc a6)) fun f S=>ov S rfl (Ze S rfl rfl (ZOa a7)) fun f S=>ov S rfl (Ze S rfl rfl (ZOa a8)) fun f S=>mv S rfl fun f S=>mv S rfl fun f S=>ov S rfl (Ze S rfl rfl (Zbf a9)) fun f S=>ov S rfl (Ze S rfl rfl (Zza ba)) fun f S=>ov S rfl (Ze S rfl rfl (ZFb ap)) fun f S=>?_
   have aq:=Zga ao (Zi V).2.1;obtain ⟨bK,bb⟩:∃ c,(List.take (Zd .u64).n (List.drop ((r).toNat*(Zd .u64).n) (List.take (0+(d).toNat*1) e++[Value.int IntKind.u64 (orI .u64 g k)]++List.drop (0+(d).toNat*1+1) e)))=c:=⟨_,rfl⟩;rw [bb] at aq;obtain ⟨rfl,bM⟩:=aq;refine ov S rfl (ZN S rfl rfl ZA (Zi V).1 (ltI af (Zi V).2.2.1)) fun f S=>?_;obtain ⟨w,bc,S⟩:=ZHb S Z4 (off:=0+(r).toNat*1) (z:=.int .u64 u) (cs:=[.int .u64 u]) (ZCb rfl) rfl (i:=0) rfl (ZLd S (j:=0) rfl (ltN af (Zi V).2.2.2)) (by first | rfl | simp [plain]);have bd:Rep.rels (Zd .u64) q (List.take (0+(r).toNat*1) ((List.take (0+(d).toNat*1) e++[Value.int IntKind.u64 (orI .u64 g k)]++List.drop (0+(d).toNat*1+1) e))++[Value.int IntKind.u64 (u)]++List.drop (0+(r).toNat*1+1) ((List.take (0+(d).toNat*1) e++[Value.int IntKind.u64 (orI .u64 g k)]++List.drop (0+(d).toNat*1+1) e))) (((p.set (d).toNat (orI .u64 g k))).set (r).toNat u):=ZUc ao (Zi V).2.2.2 (show Rep.rel (Zd .u64) q [.int .u64 u] _ from (ZC (ZFf aY ap))) rfl rfl;have be:m=(((p.set (d).toNat (orI .u64 g k))).set (r).toNat u).length:=ZFd af;refine Zwf wn rfl (bc rfl rfl) (Zr ?_);have S:=S.fr' (σ':=[(1,.int .i64 n),(5,.slice (mkA (some ak)) (m) G),(23,.slice (some ⟨aU,aV,none⟩) J L),(24,.int .i64 ((((Zc 18446744073709551616 a)).length:Int))),(25,.int .i64 E)]) rfl
   refine Ztb (Zg (aS _ _ (bO H fun bP ar H=>Zs (ov S rfl (Ze S rfl rfl (ZOa ar)) fun f S=>mv S rfl fun f S=>Zr ?_))));obtain rfl:=Zn H;refine aP _ rfl _ _ ⟨_,_,some ak,m,G,(List.take (0+(r).toNat*1) ((List.take (0+(d).toNat*1) e++[Value.int IntKind.u64 (orI .u64 g k)]++List.drop (0+(d).toNat*1+1) e))++[Value.int IntKind.u64 (u)]++List.drop (0+(r).toNat*1+1) ((List.take (0+(d).toNat*1) e++[Value.int IntKind.u64 (orI .u64 g k)]++List.drop (0+(d).toNat*1+1) e))),_,rfl,ad,(S.fr' rfl),bd,be,(Zua ar).2⟩
  have H:=ZK H R;refine ZM S rfl R (wp_exit (Z0 ?_));obtain rfl:=Zn H;have hq:=aQ _ rfl;subst hq;have H:=aN;refine Z0 (Z7a ?_);obtain rfl:=Zn H;refine Zg (aL _ _ ⟨_,aa,m,G,e,_,rfl,(leT (leR _) ad),(S.fr' rfl),ab,s⟩)
 rintro f w ⟨C,P,D,Q,ac,Z,hq,bQ,S,bf,bg⟩;subst hq;have H:=aK;refine Zg (aH _ _ (Zj fun _ bh=>bO H fun bR bi H=>Zs (mv S rfl fun f S=>?_)));obtain ⟨bS,bT,S,bj⟩:=S.pubSlice (i:=0) (A:=(Zd .u64)) (l:=C) (ℓ':=[]) rfl rfl bg bf rfl;refine opc S rfl (Z9 S [.slice (mkA P) D Q] ZMe rfl rfl) (ZOe S.vin (show Rep.rel (Zy (Zd .u64)) _ [.slice (mkA P) D Q] C from bj) bi) ?_;rintro _ bU f w bV ⟨bW,rfl,au⟩ S;obtain ⟨bk,bm,bn,rfl⟩:=Zja au;refine mw S rfl fun f S=>Zr (Zg (bh _ _ (wp_ret ?_)));obtain rfl:=Zn H;refine ZEa S (ZNa rfl (ZR S rfl)) ⟨[.slice bk bm bn],rfl,au⟩
theorem Znr {c:World} {b:Zb} (hv:VIn b c) {d:List Value} {a:Nat} (g:Rep.rel Zv b d a) {e:List Value} {n:Int} (h:Rep.rel (Zd .i64) b e n) {z:Nat} (hm:Zvb a n=some z) :
  Ret Tryz.prog 144 #[Zv.val d,(Zd .i64).val e] c b (fun y v'=>∃ f,y=Zv.val f∧Zv.rel v' f z) :=
 left_w hv g h (Z5p hm)
theorem right_w {C:World} {g:Zb} (hv:VIn g C) {c0:List Value} {a:Nat} (h:Rep.rel Zv g c0 a) {c1:List Value} {n:Int} (p1:Rep.rel (Zd .i64) g c1 n) {z:Nat} (H:Zuh a n=some z):Ret Tryz.prog 146 #[Zv.val c0,(Zd .i64).val c1] C g (fun y v'=>∃ r0,y=Zv.val r0∧Zv.rel v' r0 z):=by
 obtain ⟨q1,P,Q,rfl⟩:=Zja h;obtain ⟨rfl,r4⟩:=p1;refine ZJb (K:=65) (args:=[.slice q1 P Q,.int .i64 n]) hv Tryz.func146 rfl rfl zl fun f S=>?_;unfold Zuh at H;refine sr (mw S rfl fun f S=>oe (Zj fun _ ax=>Zj fun _ ay=>bO H fun az aA H=>Zs (mv S rfl fun f S=>ov S rfl (Ze S rfl rfl (Zlc aA)) fun f S=>mv S rfl fun f S=>ov S rfl (Zca S (ZI h) rfl rfl ZA) fun f S=>ov S rfl (Ze S rfl rfl Zkc) fun f S=>Zr (Zg (ay _ _ ?_)))));rcases ZJ (decide ((((Zc 18446744073709551616 a)).length:Int)≤az)) with D | D
 ·have H:=ZL H D;refine ZS S rfl D (sr (mw S rfl fun f S=>oe (wp_ret (ZYa ?_))));obtain rfl:=Zn H;refine ZEa S (ZNa rfl (ZR S rfl)) ⟨[.slice none 0 0],rfl,(Z2g _)⟩
 have H:=ZK H D;refine ZM S rfl D (wp_skip (Zg (ax _ _ (Zj fun _ aB=>bO H fun bx aC H=>bO H fun k aD H=>bO H fun bz R H=>Zs (mv S rfl fun f S=>ov S rfl (Zca S (ZI h) rfl rfl ZA) fun f S=>mv S rfl fun f S=>ov S rfl (Ze S rfl rfl (Zlc aC)) fun f S=>ov S rfl (Ze S rfl rfl (Zza aD)) fun f S=>?_)))));obtain ⟨ai,aj⟩:∃ c:List Value,c=(List.replicate (k).toNat [.int .u64 0]).flatten:=⟨_,rfl⟩;obtain ⟨aE,w,aF,S⟩:=ZXh ZSd S (l:=k) (c:=k) (ZPa R).1 (ZPa R).2.1 (ZPa R).2.2.1 (ZPa R).2.2.2 aj;have aG:Rep.rels (Zd .u64) g ai (List.replicate (k).toNat (0:Int)):=by rw [aj];exact Z1d (show Rep.rel (Zd .u64) _ [.int .u64 0] _ from (ZC (by decide))) _
 refine Zzb wn rfl zl (aF rfl rfl) S fun f S=>mw S rfl fun f S=>Zr (Zg (aB _ _ (Zj fun _ aH=>sr (mv S rfl fun f S=>ov S rfl (Zca S (repN (x:=(0:Int))) rfl rfl ZA) fun f S=>mv S rfl fun f S=>oe ?_))));obtain ⟨aI,aJ,aK⟩:=ZF H;refine Zta (fun f w=>∃ t E u G ac T,t=aI∧Zb.le g T∧St 65 C g [(5,.slice (mkA E) u G)] [Loc.own E 155 1 u G ac] T f w∧Rep.rels (Zd .u64) T ac t∧u=t.length) (fun _ aL=>?_) ?_
 ·have H:=aJ;refine wp_block ?_;obtain ⟨bA,aM,aN⟩:=ZF H;refine ZEb aM (fun aO f w=>∃ p b U m r d o,(p,b)=aO∧Zb.le g o∧St 65 C g [(0,.slice q1 P Q),(1,.int .i64 n),(5,.slice (mkA U) m r),(19,.int .i64 ((((List.replicate (k).toNat (0:Int))).length:Int))),(20,.int .i64 b)] [Loc.own U 155 1 m r d] o f w∧Rep.rels (Zd .u64) o d p∧m=p.length∧inR .i64 b) ⟨_,_,some aE,(k).toNat,(k).toNat,ai,_,rfl,(leR _),(S.fr' rfl),aG,(repN (x:=(0:Int))),(by decide)⟩ ?_;rintro _ f w st ⟨p,b,U,m,r,d,o,hq,ad,S,ae,I,bB⟩ H bC aP aQ;subst hq;refine sr (ov S rfl (Ze S rfl rfl Zac) fun f S=>oe (Zj fun _ aR=>?_));rcases ZJ (decide (b<(((List.replicate (k).toNat (0:Int))).length:Int))) with J | J
  ·have H:=ZL H J;refine ZS S rfl J (wp_skip (Zg (aR _ _ (Zj fun _ aS=>wp_block (sr (mv S rfl fun f S=>mw S rfl fun f S=>oe (Zj fun _ aT=>bO H fun bD aU H=>bO H fun bE aV H=>bO H fun bG af H=>bO H fun bH aW H=>?_)))))));refine bO H fun e ak H=>bO H fun bI v H=>Zs (mv S rfl fun f S=>mv S rfl fun f S=>mv S rfl fun f S=>mv S rfl fun f S=>mv S rfl fun f S=>ov S rfl (Ze S rfl rfl (Zlc aU)) fun f S=>ov S rfl (Ze S rfl rfl (ZOa aV)) fun f S=>?_);have h:=Z8 ad h;obtain ⟨_,al,am,bJ,rfl,aX,aY⟩:=Z3a h (Zi af).2.1;obtain ⟨rfl,aZ⟩:=aY;refine ov S rfl (ZN S rfl rfl ZA (Zi af).1 (ltI (ZI h) (Zi af).2.2.1)) fun f S=>ov S rfl (Zha S rfl Z4 (S.view aX)) fun f S=>mv S rfl fun f S=>ov S rfl (Ze S rfl rfl (Zbf aW)) fun f S=>ov S rfl (Ze S rfl rfl (ZFb ak)) fun f S=>?_;obtain ⟨ag,rfl⟩:=Zfd S (j:=0) rfl (posN I (Zi v).2.2.2);have an:=Zga ae (Zi v).2.1;obtain ⟨bK,a0⟩:∃ c,(List.take (Zd .u64).n (List.drop ((b).toNat*(Zd .u64).n) d))=c:=⟨_,rfl⟩;rw [a0] at an;obtain ⟨rfl,bM⟩:=an;refine ov S rfl (ZN S rfl rfl ZA (Zi v).1 (ltI I (Zi v).2.2.1)) fun f S=>?_;obtain ⟨w,a1,S⟩:=ZHb S Z4 (off:=0+(b).toNat*1) (z:=.int .u64 e) (cs:=[.int .u64 e]) (ZCb rfl) rfl (i:=0) rfl (ZLd S (j:=0) rfl (ltN I (Zi v).2.2.2)) (by first | rfl | simp [plain])
   have V:Rep.rels (Zd .u64) o (List.take (0+(b).toNat*1) d++[Value.int IntKind.u64 (e)]++List.drop (0+(b).toNat*1+1) d) (p.set (b).toNat e):=ZUc ae (Zi v).2.2.2 (show Rep.rel (Zd .u64) o [.int .u64 e] _ from (ZC (ZFf aZ ak))) rfl rfl;have B:m=(p.set (b).toNat e).length:=ZFd I;refine Zwf wn rfl (a1 rfl rfl) (Zr (Zg (aT _ _ (Zj fun _ a2=>bO H fun bP a3 H=>bO H fun bQ a4 H=>bO H fun ao a5 H=>Zs (mv S rfl fun f S=>mv S rfl fun f S=>ov S rfl (Ze S rfl rfl (Zlc a3)) fun f S=>ov S rfl (Ze S rfl rfl (ZOa a4)) fun f S=>ov S rfl (Ze S rfl rfl (ZOa a5)) fun f S=>mv S rfl fun f S=>?_)))));refine ov S rfl (Zca S (ZI h) rfl rfl ZA) fun f S=>ov S rfl (Ze S rfl rfl Zac) fun f S=>Zr ?_;have S:=S.fr' (σ':=[(0,.slice (some ⟨al,am,none⟩) P Q),(1,.int .i64 n),(5,.slice (mkA (some ag)) (m) r),(6,.int .i64 b),(19,.int .i64 ((((List.replicate (k).toNat (0:Int))).length:Int))),(20,.int .i64 b),(43,.bool (decide (ao<(((Zc 18446744073709551616 a)).length:Int))))]) rfl;refine Zg (a2 _ _ ?_);obtain ⟨a6,a7,a8⟩:=ZF H;refine Zta (fun f w=>∃ W X L Y Z aa,W=a6∧Zb.le o aa∧St 65 C g [(0,.slice (some ⟨al,am,none⟩) P Q),(1,.int .i64 n),(5,.slice (mkA X) L Y),(19,.int .i64 ((((List.replicate (k).toNat (0:Int))).length:Int))),(20,.int .i64 b)] [Loc.own X 155 1 L Y Z] aa f w∧Rep.rels (Zd .u64) aa Z W∧L=W.length) (fun _ ap=>?_) ?_
   ·have H:=a7;rcases ZJ (decide (ao<(((Zc 18446744073709551616 a)).length:Int))) with M | M
    ·have H:=ZL H M;refine ZS S rfl M (bO H fun q ab H=>bO H fun bR a9 H=>bO H fun bS ba H=>bO H fun bT bb H=>bO H fun bU ah H=>bO H fun bV bc H=>bO H fun bW bd H=>bO H fun s be H=>bO H fun bX N H=>Z2d (fl:=#[true,true,true,true,true,true,true,true,true,true,true,true,true,true,true,true,true,true,false]) Z5e (by kernel_rfl) S ?_);intro ops O F w S;refine rfa O F 0 rfl rfl S (Zx S rfl) fun f S=>rfa O F 1 rfl rfl S (Zx S rfl) fun f S=>?_;have aq:=Zga V (Zi ab).2.1;obtain ⟨bY,ar⟩:∃ c,(List.take (Zd .u64).n (List.drop ((b).toNat*(Zd .u64).n) (List.take (0+(b).toNat*1) d++[Value.int IntKind.u64 (e)]++List.drop (0+(b).toNat*1+1) d)))=c:=⟨_,rfl⟩;rw [ar] at aq;obtain ⟨rfl,bZ⟩:=aq;refine rfa O F 2 rfl rfl S (ZN S rfl rfl ZA (Zi ab).1 (ltI B (Zi ab).2.2.1)) fun f S=>rfa O F 3 rfl rfl S (Zha S rfl Z4 (ZYc S (j:=0) rfl ar (ltN B (Zi ab).2.2.2) 0 [.int .u64 q] rfl zl)) fun f S=>rfa O F 4 rfl rfl S (Zx S rfl) fun f S=>rfa O F 5 rfl rfl S (Zx S rfl) fun f S=>rfa O F 6 rfl rfl S (Zx S rfl) fun f S=>rfa O F 7 rfl rfl S (Ze S rfl rfl (Zlc a9)) fun f S=>rfa O F 8 rfl rfl S (Ze S rfl rfl (ZOa ba)) fun f S=>rfa O F 9 rfl rfl S (Ze S rfl rfl (ZOa bb)) fun f S=>?_
     obtain ⟨b0,bf,bg⟩:=Z8g h (Zi ah).2.1;obtain ⟨rfl,b1⟩:=bg;refine rfa O F 10 rfl rfl S (ZN S rfl rfl ZA (Zi ah).1 (ltI (ZI h) (Zi ah).2.2.1)) fun f S=>rfa O F 11 rfl rfl S (Zha S rfl Z4 (S.view bf)) fun f S=>rfa O F 12 rfl rfl S (Zx S rfl) fun f S=>rfa O F 13 rfl rfl S (Ze S rfl rfl (Zbf bc)) fun f S=>rfa O F 14 rfl rfl S (Ze S rfl rfl (Zza bd)) fun f S=>rfa O F 15 rfl rfl S (Ze S rfl rfl (Z6g be)) fun f S=>rfa O F 16 rfl rfl S (Ze S rfl rfl Z8j) fun f S=>?_;have au:=Zga V (Zi N).2.1;obtain ⟨b2,bh⟩:∃ c,(List.take (Zd .u64).n (List.drop ((b).toNat*(Zd .u64).n) (List.take (0+(b).toNat*1) d++[Value.int IntKind.u64 (e)]++List.drop (0+(b).toNat*1+1) d)))=c:=⟨_,rfl⟩;rw [bh] at au;obtain ⟨rfl,b3⟩:=au;refine rfa O F 17 rfl rfl S (ZN S rfl rfl ZA (Zi N).1 (ltI B (Zi N).2.2.1)) fun f S=>go1 O F 18 ?_;obtain ⟨w,bi,S⟩:=ZHb S Z4 (off:=0+(b).toNat*1) (z:=.int .u64 (orI .u64 q s)) (cs:=[.int .u64 (orI .u64 q s)]) (ZCb rfl) rfl (i:=0) rfl (ZLd S (j:=0) rfl (ltN B (Zi N).2.2.2)) (by first | rfl | simp [plain]);have bj:Rep.rels (Zd .u64) o (List.take (0+(b).toNat*1) ((List.take (0+(b).toNat*1) d++[Value.int IntKind.u64 (e)]++List.drop (0+(b).toNat*1+1) d))++[Value.int IntKind.u64 (orI .u64 q s)]++List.drop (0+(b).toNat*1+1) ((List.take (0+(b).toNat*1) d++[Value.int IntKind.u64 (e)]++List.drop (0+(b).toNat*1+1) d))) (((p.set (b).toNat e)).set (b).toNat (orI .u64 q s)):=ZUc V (Zi N).2.2.2 (show Rep.rel (Zd .u64) o [.int .u64 (orI .u64 q s)] _ from (ZC (Zqa _ _))) rfl rfl
     have bk:m=(((p.set (b).toNat e)).set (b).toNat (orI .u64 q s)).length:=ZFd B;refine nxs [0,1,2,3,4,5,6,7,8,9,10,11,12,13,14,15,16,17] [] O rfl rfl (bi rfl rfl) (⟨Zsc,Z7e O F ?_⟩);obtain rfl:=Zn H;refine Zg (ap _ _ ⟨_,some ag,m,r,(List.take (0+(b).toNat*1) ((List.take (0+(b).toNat*1) d++[Value.int IntKind.u64 (e)]++List.drop (0+(b).toNat*1+1) d))++[Value.int IntKind.u64 (orI .u64 q s)]++List.drop (0+(b).toNat*1+1) ((List.take (0+(b).toNat*1) d++[Value.int IntKind.u64 (e)]++List.drop (0+(b).toNat*1+1) d))),_,rfl,(leR _),(S.fr' rfl),bj,bk⟩)
    have H:=ZK H M;refine ZM S rfl M (wp_skip ?_);obtain rfl:=Zn H;refine Zg (ap _ _ ⟨_,some ag,m,r,(List.take (0+(b).toNat*1) d++[Value.int IntKind.u64 (e)]++List.drop (0+(b).toNat*1+1) d),_,rfl,(leR _),(S.fr' rfl),V,B⟩)
   rintro f w ⟨W,X,L,Y,Z,aa,hq,bm,S,bn,bo⟩;subst hq;have H:=a8;refine Ztb (Zg (aS _ _ (bO H fun b4 av H=>Zs (ov S rfl (Ze S rfl rfl (ZOa av)) fun f S=>mv S rfl fun f S=>Zr ?_))));obtain rfl:=Zn H;refine aP _ rfl _ _ ⟨_,_,X,L,Y,Z,_,rfl,(leT ad bm),(S.fr' rfl),bn,bo,(Zua av).2⟩
  have H:=ZK H J;refine ZM S rfl J (wp_exit (Z0 ?_));obtain rfl:=Zn H;have hq:=aQ _ rfl;subst hq;have H:=aN;refine Z0 (Z7a ?_);obtain rfl:=Zn H;refine Zg (aL _ _ ⟨_,U,m,r,d,_,rfl,(leT (leR _) ad),(S.fr' rfl),ae,I⟩)
 rintro f w ⟨t,E,u,G,ac,T,hq,b5,S,bp,bq⟩;subst hq;have H:=aK;refine Zg (aH _ _ (Zj fun _ br=>bO H fun b6 bs H=>Zs (mv S rfl fun f S=>?_)));obtain ⟨b7,b8,S,bt⟩:=S.pubSlice (i:=0) (A:=(Zd .u64)) (l:=t) (ℓ':=[]) rfl rfl bq bp rfl;refine opc S rfl (Z9 S [.slice (mkA E) u G] ZMe rfl rfl) (ZOe S.vin (show Rep.rel (Zy (Zd .u64)) _ [.slice (mkA E) u G] t from bt) bs) ?_;rintro _ b9 f w ca ⟨cb,rfl,aw⟩ S;obtain ⟨bu,bv,bw,rfl⟩:=Zja aw;refine mw S rfl fun f S=>Zr (Zg (br _ _ (wp_ret ?_)));obtain rfl:=Zn H;refine ZEa S (ZNa rfl (ZR S rfl)) ⟨[.slice bu bv bw],rfl,aw⟩
theorem right_c {c:World} {b:Zb} (hv:VIn b c) {d:List Value} {a:Nat} (h:Rep.rel Zv b d a) {e:List Value} {n:Int} (f:Rep.rel (Zd .i64) b e n) {z:Nat} (hm:Zqg a n=some z) :
  Ret Tryz.prog 146 #[Zv.val d,(Zd .i64).val e] c b (fun y v'=>∃ g,y=Zv.val g∧Zv.rel v' g z) :=
 right_w hv h f (Zru f.2 hm)
theorem word_w {b:World} {a:Zb} (hv:VIn a b) {c:List Value} {n:Int} (h:Rep.rel (Zd .u64) a c n) {z:Nat} (H:Zri n=some z):Ret Tryz.prog 93 #[(Zd .u64).val c] b a (fun y v'=>∃ d,y=Zv.val d∧Zv.rel v' d z):=by
 obtain ⟨rfl,j⟩:=h;refine ZJb (K:=6) (args:=[.int .u64 n]) hv Tryz.func93 rfl rfl zl fun f S=>?_;unfold Zri at H;refine sr (mw S rfl fun f S=>oe (Zj fun _ k=>bO H fun u m H=>Zs (mv S rfl fun f S=>?_)));obtain ⟨e,w,o,S⟩:=Zzf S (n:=1) (cs:=[.int .u64 n]) (vals:=[(0,.int .u64 n)]) (sz:=1) rfl (by decide) (ZPn ZSd (x:=.int .u64 n) (cs:=[.int .u64 n]) rfl rfl (by decide));have p:Rep.rels (Zd .u64) a [.int .u64 n] [n]:=(Z7m (ZC j) ZYd);refine Zzb wn rfl zl (o rfl) S fun f S=>?_;obtain ⟨v,B,S,q⟩:=S.pubSlice (i:=0) (A:=(Zd .u64)) (l:=[n]) (ℓ':=[]) rfl rfl rfl p rfl;refine opc S rfl (Z9 S [.slice (mkA (some e)) (1) 1] ZMe rfl rfl) (ZOe S.vin (show Rep.rel (Zy (Zd .u64)) _ [.slice (mkA (some e)) (1) 1] ([n]) from q) m) ?_;rintro _ C f w D ⟨E,rfl,g⟩ S;obtain ⟨r,s,t,rfl⟩:=Zja g;refine mw S rfl fun f S=>Zr (Zg (k _ _ (wp_ret ?_)));obtain rfl:=Zn H;refine ZEa S (ZNa rfl (ZR S rfl)) ⟨[.slice r s t],rfl,g⟩
theorem word_c {b:World} {a:Zb} (hv:VIn a b) {c:List Value} {n:Int} (e:Rep.rel (Zd .u64) a c n) {z:Nat} (hm:Zab n=some z) :
  Ret Tryz.prog 93 #[(Zd .u64).val c] b a (fun y v'=>∃ d,y=Zv.val d∧Zv.rel v' d z) :=
 word_w hv e (ZZp hm)
theorem Zzs {w0:World} {F:Zb} (hv:VIn F w0) {c0:List Value} {a:Nat} (m:Rep.rel Zv F c0 a) {c1:List Value} {b:Nat} (g:Rep.rel Zv F c1 b) {z:Nat×Nat} (H:ZJi a b=some z):Ret Tryz.prog 96 #[Zv.val c0,Zv.val c1] w0 F (fun y v'=>∃ r0 r1,y = .tuple #[Zv.val r0,Zv.val r1]∧Zv.rel v' r0 z.1∧Zv.rel v' r1 z.2):=by
 obtain ⟨R,T,U,rfl⟩:=Zja m;obtain ⟨q4,n5,k6,rfl⟩:=Zja g;refine ZJb (K:=84) (args:=[.slice R T U,.slice q4 n5 k6]) hv Tryz.func96 rfl rfl zl fun f S=>?_;unfold ZJi at H;refine sr (mw S rfl fun f S=>mw S rfl fun f S=>oe (Zj fun _ bb=>wp_block (Zj fun _ bc=>bO H fun bd be H=>Zs (mv S rfl fun f S=>mv S rfl fun f S=>opc S rfl (Z9 S [.slice R T U,.slice q4 n5 k6] ZYq rfl rfl) (cmp_c S.vin m g be) ?_))));rintro _ cV f w aj ⟨cW,rfl,bf⟩ S;obtain ⟨rfl,cX⟩:=bf;refine ov S rfl (Ze S rfl rfl Zac) fun f S=>mw S rfl fun f S=>Zr (Zg (bc _ _ ?_));rcases ZJ (decide (bd<(0:Int))) with V | V
 ·have H:=ZL H V;refine ZS S rfl V (sr (mv S rfl fun f S=>mw S rfl fun f S=>mw S rfl fun f S=>oe (wp_ret (ZBg (ZYa ?_)))));obtain rfl:=Zn H;have m:=Z8 aj m;refine ZEa S (ZLe rfl (ZR S rfl) (ZR S rfl)) ⟨[.slice none 0 0],[.slice R T U],rfl,(Z2g _),m⟩
 have H:=ZK H V;refine ZM S rfl V (sr (mv S rfl fun f S=>?_));have g:=Z8 aj g;refine ov S rfl (Zca S (ZI g) rfl rfl ZA) fun f S=>ov S rfl (Ze S rfl rfl Z3d) fun f S=>mw S rfl fun f S=>oe ?_;rcases ZJ (((((Zc 18446744073709551616 b)).length:Int))==(1:Int)) with W | W
 ·have H:=ZL H W;refine ZS S rfl W (Zj fun _ bg=>bO H fun au av H=>bO H fun aw bh H=>Zs (mv S rfl fun f S=>mv S rfl fun f S=>?_));obtain ⟨_,cY,cZ,c2,rfl,ax,bi⟩:=Z3a g (Zi av).2.1;obtain ⟨rfl,bj⟩:=bi;refine ov S rfl (ZN S rfl rfl ZA (Zi av).1 (ltI (ZI g) (Zi av).2.2.1)) fun f S=>ov S rfl (Zha S rfl Z4 (S.view ax)) fun f S=>?_;have m:=Z8 aj m;refine opc S rfl (Z9 S [.slice R T U,.int .u64 au] Zbp rfl rfl) (ZWq S.vin m (show Rep.rel (Zd .u64) _ [.int .u64 au] au from (ZC bj)) bh) ?_;rintro _ c3 f w bk ⟨c4,c5,rfl,ak,bm⟩ S;have ax:=Atm bk ax;obtain ⟨aS,aT,aU,rfl⟩:=Zja ak;obtain ⟨rfl,bn⟩:=bm;refine mv S rfl fun f S=>ov S rfl (ZAa S rfl rfl) fun f S=>ov S rfl (ZAa S rfl rfl) fun f S=>mw S rfl fun f S=>mw S rfl fun f S=>Zr (Zg (bg _ _ (Zj fun _ bo=>bO H fun c6 bp H=>Zs (mv S rfl fun f S=>mv S rfl fun f S=>opc S rfl (Z9 S [.int .u64 (aw.2)] k_en93 rfl rfl) (word_c S.vin (show Rep.rel (Zd .u64) _ [.int .u64 (aw.2)] aw.2 from (ZC bn)) bp) ?_))));rintro _ c7 f w bq ⟨c8,rfl,aV⟩ S;obtain ⟨aW,aX,aY,rfl⟩:=Zja aV;refine mw S rfl fun f S=>mw S rfl fun f S=>Zr ?_;have S:=S.fr' (σ':=[(4,.slice aS aT aU),(5,.slice aW aX aY)]) rfl;refine Zg (bo _ _ (wp_ret (ZBg (ZYa ?_))))
  obtain rfl:=Zn H;have ak:=Z8 bq ak;refine ZEa S (ZLe rfl (ZR S rfl) (ZR S rfl)) ⟨[.slice aS aT aU],[.slice aW aX aY],rfl,ak,aV⟩
 have H:=ZK H W;refine ZM S rfl W (wp_skip (Ztb (Zg (bb _ _ (Zj fun _ br=>bO H fun c9 bs H=>bO H fun ay az H=>bO H fun k bt H=>Zs (mv S rfl fun f S=>mv S rfl fun f S=>ov S rfl (Zca S (ZI g) rfl rfl ZA) fun f S=>ov S rfl (Ze S rfl rfl (Zza bs)) fun f S=>?_))))));obtain ⟨_,bu,bv,da,rfl,aA,bw⟩:=Z3a g (Zi az).2.1;obtain ⟨rfl,bx⟩:=bw;refine ov S rfl (ZN S rfl rfl ZA (Zi az).1 (ltI (ZI g) (Zi az).2.2.1)) fun f S=>ov S rfl (Zha S rfl Z4 (S.view aA)) fun f S=>opc S rfl (Z9 S [.int .u64 ay] ZNo rfl rfl) (Zuq S.vin (show Rep.rel (Zd .u64) _ [.int .u64 ay] ay from (ZC bx)) bt) ?_;rintro _ db f w aB ⟨dc,rfl,bz⟩ S;have aA:=Atm aB aA;obtain ⟨rfl,aC⟩:=bz;refine mw S rfl fun f S=>Zr (Zg (br _ _ (Zj fun _ bA=>bO H fun bB bC H=>Zs (mv S rfl fun f S=>mv S rfl fun f S=>?_))));have g:=Z8 aB g;refine opc S rfl (Z9 S [.slice (some ⟨bu,bv,none⟩) n5 k6,.int .i64 k] Z0o rfl rfl) (Znr S.vin g (show Rep.rel (Zd .i64) _ [.int .i64 k] k from (ZC aC)) bC) ?_;rintro _ bD f w bE ⟨dd,rfl,v⟩ S;obtain ⟨aD,aE,aF,rfl⟩:=Zja v;refine mw S rfl fun f S=>Zr (Zg (bA _ _ (Zj fun _ bG=>bO H fun X bH H=>bO H fun de bI H=>bO H fun df bJ H=>Zs ?_)))
 obtain ⟨dg,w,bK,S⟩:=Zzf (P:=Tryz.prog) (t:=31) (e:=155) S (n:=0) (cs:=[]) (vals:=[]) (sz:=1) rfl (by decide) (fun _=>by kernel_rfl);have aG:Rep.rels (Zd .u64) bD [] []:=ZYd;refine Zzb wn rfl zl (bK rfl) S fun f S=>mv S rfl fun f S=>mv S rfl fun f S=>?_;have m:=Z8 (leT (leT aj aB) bE) m;refine opc S rfl (Z9 S [.slice R T U,.int .i64 k] Z0o rfl rfl) (Znr S.vin m (show Rep.rel (Zd .i64) _ [.int .i64 k] k from (ZC aC)) bH) ?_;rintro _ al f w aZ ⟨dh,rfl,aH⟩ S;have aG:=ZW aZ aG;obtain ⟨di,dj,dk,rfl⟩:=Zja aH;have aI:=S;obtain ⟨dl,dm,a0,w,bM,S,bP⟩:=ZOf (ty:=31) (A:=(Zd .u64)) ZSd S (i:=0) (n':=(([]:(List Int))++((Zc 18446744073709551616 X))).length) rfl aH (appN rfl (ZI aH)) (Zce bI) (by decide);have bQ:=ZFc aG bP;refine Zzb wn rfl zl (Zqe aI rfl rfl bM) S fun f S=>?_;obtain ⟨dn,w,bR,S⟩:=Zzf S (n:=1) (cs:=[.int .u64 0]) (vals:=[(0,.int .u64 0)]) (sz:=1) rfl (by decide) (ZPn ZSd (x:=.int .u64 0) (cs:=[.int .u64 0]) rfl rfl (by decide));have aJ:Rep.rels (Zd .u64) al [.int .u64 0] [(0:Int)]:=(Z7m (ZC (by decide)) ZYd);refine Zzb wn rfl zl (bR rfl) S fun f S=>?_;have aI:=S;obtain ⟨aK,aL,w,bS,S⟩:=Zwj (ty:=31) ZSd S (i:=1) (n':=((([]:(List Int))++((Zc 18446744073709551616 X)))++[(0:Int)]).length) rfl (Zke aJ rfl) (ZWj S (j:=0) rfl) (ZWi aJ) (appN rfl rfl) (Zce bJ) (by decide)
 have bT:=ZFc bQ aJ;refine Zzb wn rfl zl (Zqe aI rfl rfl bS) S fun f S=>mw S rfl fun f S=>Zr ?_;have S:=S.fr' (σ':=[(8,.int .i64 k),(9,.slice aD aE aF),(10,.slice (mkA aK) (((([]:(List Int))++((Zc 18446744073709551616 X)))++[(0:Int)]).length) aL)]) rfl;refine Zg (bG _ _ (sr (mv S rfl fun f S=>?_)));have v:=Z8 aZ v;refine ov S rfl (Zca S (ZI v) rfl rfl ZA) fun f S=>mw S rfl fun f S=>oe (Zj fun _ bU=>bO H fun q bV H=>bO H fun dp am H=>Zs (mv S rfl fun f S=>ov S rfl (Zca S rfl rfl rfl ZA) fun f S=>mv S rfl fun f S=>ov S rfl (Ze S rfl rfl (Zza bV)) fun f S=>?_));obtain ⟨aM,a1⟩:∃ c:List Value,c=(List.replicate (q).toNat [.int .u64 0]).flatten:=⟨_,rfl⟩;obtain ⟨a2,w,bW,S⟩:=ZXh ZSd S (l:=q) (c:=q) (ZPa am).1 (ZPa am).2.1 (ZPa am).2.2.1 (ZPa am).2.2.2 a1;have bX:Rep.rels (Zd .u64) al aM (List.replicate (q).toNat (0:Int)):=by rw [a1];exact Z1d (show Rep.rel (Zd .u64) _ [.int .u64 0] _ from (ZC (by decide))) _
 refine Zzb wn rfl zl (bW rfl rfl) S fun f S=>mw S rfl fun f S=>Zr (Zg (bU _ _ (Zj fun _ bY=>Zj fun _ bZ=>bO H fun dq a3 H=>Zs (mv S rfl fun f S=>ov S rfl (Zca S (repN (x:=(0:Int))) rfl rfl ZA) fun f S=>ov S rfl (Ze S rfl rfl (Zza a3)) fun f S=>mw S rfl fun f S=>Zr (Zg (bZ _ _ ?_))))));obtain ⟨b0,b1,b2⟩:=ZF H;refine Zta (fun f w=>∃ G I J B L an Y M Z aN aa,(G,I)=b0∧Zb.le al aa∧St 84 w0 F [(8,.int .i64 k),(10,.slice (mkA J) B L),(12,.slice (mkA Y) M Z)] [Loc.own J 155 1 B L an,Loc.own Y 155 1 M Z aN] aa f w∧Rep.rels (Zd .u64) aa an G∧B=G.length∧Rep.rels (Zd .u64) aa aN I∧M=I.length) (fun _ b3=>?_) ?_
 ·have H:=b1;refine wp_block ?_;obtain ⟨dr,b4,b5⟩:=ZF H;have S:=S.reorder (ℓ':=[Loc.own aK 155 1 (((([]:(List Int))++((Zc 18446744073709551616 X)))++[(0:Int)]).length) aL ((([]++a0)++[.int .u64 0])),Loc.own (some a2) 155 1 ((q).toNat) (q).toNat aM]) [2,0] rfl (by decide);refine ZEb b4 (fun b6 f w=>∃ ao N d ap C D s aq E ab o ac,(ao,N,d)=b6∧Zb.le al ac∧St 84 w0 F [(8,.int .i64 k),(9,.slice aD aE aF),(10,.slice (mkA ap) C D),(11,.int .i64 ((((Zc 18446744073709551616 bB)).length:Int))),(12,.slice (mkA aq) E ab),(13,.int .i64 d)] [Loc.own ap 155 1 C D s,Loc.own aq 155 1 E ab o] ac f w∧Rep.rels (Zd .u64) ac s ao∧C=ao.length∧Rep.rels (Zd .u64) ac o N∧E=N.length∧inR .i64 d) ⟨_,_,_,aK,((([]:(List Int))++((Zc 18446744073709551616 X)))++[(0:Int)]).length,aL,(([]++a0)++[.int .u64 0]),some a2,(q).toNat,(q).toNat,aM,_,rfl,(leR _),(S.fr' rfl),bT,rfl,bX,(repN (x:=(0:Int))),(Zua a3).2⟩ ?_;rintro _ f w st ⟨ao,N,d,ap,C,D,s,aq,E,ab,o,ac,hq,aO,S,ad,ae,af,ag,ds⟩ H dt b7 b8
  subst hq;refine Zj fun _ b9=>sr (mv S rfl fun f S=>ov S rfl (Ze S rfl rfl Zkc) fun f S=>oe ?_);rcases ZJ (decide ((0:Int)≤d)) with ah | ah
  ·have H:=ZL H ah;refine ZS S rfl ah (wp_skip (Zg (b9 _ _ (Zj fun _ ca=>wp_block (bO H fun du cb H=>bO H fun O cc H=>bO H fun dv h H=>bO H fun u cd H=>bO H fun dw Q H=>Zs (mv S rfl fun f S=>mv S rfl fun f S=>mv S rfl fun f S=>?_))))));refine mv S rfl fun f S=>mv S rfl fun f S=>mv S rfl fun f S=>ov S rfl (Ze S rfl rfl (ZOa cb)) fun f S=>ov S rfl (Ze S rfl rfl (ZOa cc)) fun f S=>?_;obtain ⟨aP,rfl⟩:=Zfd S (j:=0) rfl (by have:=Zuc h;have:=ae;omega);refine ov S rfl (Ziw S (j:=0) rfl ZA (Zuc h).1 (Zuc h).2.1 (by have:=(Zuc h).2.2.1;have:=ae;omega) rfl rfl rfl) fun f S=>mv S rfl fun f S=>?_;obtain ⟨pre399,post400,ce,cg,ch,ci,cj,ck⟩:=ZDv S (i:=0) (lo:=(d).toNat) (hi:=(O).toNat) rfl (Zuc h).2.2.2.2.2.1 (by have:=(Zuc h).2.2.2.2.2.2;have:=ae;omega);have v:=Z8 aO v;refine Zcp S wn rfl zl (Z9 S [.slice (some ⟨aP,(d).toNat*1,none⟩) ((O-d).toNat) (D-(d).toNat),.slice aD aE aF] k_en145 rfl rfl) (i:=0) rfl rfl (digit_c S.vin ce ch cg (Zuc h).2.2.2.2.1 ⟨Zuu (Zuc h).1 (Zuc h).2.1 ci,cj⟩ (Zmu ad rfl (Zuc h).2.2.2.1) v cd) ?_;rintro _ a4 f w aQ ⟨⟨dx,rfl,cl⟩,cm,aR,cn,co,a5⟩ hSf;have ad:=ZW aQ ad
   have af:=ZW aQ af;have a6:((O).toNat-(d).toNat)=u.2.length:=by have:=co;have:=Zuc h;omega
   have S:=hSf (Loc.own (some aP) 155 1 C D (List.take ((d).toNat*1) s++aR++List.drop ((O).toNat*1) s)) rfl (ck _ aR (Zke a5 a6) cn) cm;have cp:=Z1t (p:=(d).toNat) (r:=(O).toNat) (sz:=1) ad a5 rfl;have cq:=Zdt ae (Zuc h).2.2.2.2.2.1 (Zuc h).2.2.2.2.2.2 a6;obtain ⟨rfl,cr⟩:=cl;obtain ⟨ct,rfl⟩:=Zfd S (j:=1) rfl (posN ag (Zi Q).2.2.2);have a7:=Zga af (Zi Q).2.1;obtain ⟨dy,cu⟩:∃ c,(List.take (Zd .u64).n (List.drop ((d).toNat*(Zd .u64).n) o))=c:=⟨_,rfl⟩;rw [cu] at a7;obtain ⟨rfl,dz⟩:=a7;refine ov S rfl (ZN S rfl rfl ZA (Zi Q).1 (ltI ag (Zi Q).2.2.1)) fun f S=>?_;obtain ⟨w,cv,S⟩:=ZHb S Z4 (off:=0+(d).toNat*1) (z:=.int .u64 (u.1)) (cs:=[.int .u64 (u.1)]) (ZCb rfl) rfl (i:=1) rfl (ZLd S (j:=1) rfl (ltN ag (Zi Q).2.2.2)) (by first | rfl | simp [plain]);have cw:Rep.rels (Zd .u64) a4 (List.take (0+(d).toNat*1) o++[Value.int IntKind.u64 (u.1)]++List.drop (0+(d).toNat*1+1) o) (N.set (d).toNat u.1):=ZUc af (Zi Q).2.2.2 (show Rep.rel (Zd .u64) a4 [.int .u64 (u.1)] _ from (ZC cr)) rfl rfl;have cx:E=(N.set (d).toNat u.1).length:=ZFd ag;refine Zwf wn rfl (cv rfl rfl) (Zr (Ztb (Zg (ca _ _ (bO H fun dA a8 H=>Zs (mv S rfl fun f S=>ov S rfl (Ze S rfl rfl (Zza a8)) fun f S=>mw S rfl fun f S=>Zr ?_))))))
   obtain rfl:=Zn H;refine b7 _ rfl _ _ ⟨_,_,_,some aP,C,D,(List.take ((d).toNat*1) s++aR++List.drop ((O).toNat*1) s),some ct,E,ab,(List.take (0+(d).toNat*1) o++[Value.int IntKind.u64 (u.1)]++List.drop (0+(d).toNat*1+1) o),_,rfl,(leT aO aQ),(S.fr' rfl),cp,cq,cw,cx,(Zua a8).2⟩
  have H:=ZK H ah;refine ZM S rfl ah (wp_exit (Z0 ?_));obtain rfl:=Zn H;have hq:=b8 _ rfl;subst hq;have H:=b5;refine Z0 (Z7a ?_);obtain rfl:=Zn H;refine Zg (b3 _ _ ⟨_,_,ap,C,D,s,aq,E,ab,o,_,rfl,(leT (leR _) aO),(S.fr' rfl),ad,ae,af,ag⟩)
 rintro f w ⟨G,I,J,B,L,an,Y,M,Z,aN,aa,hq,dB,S,ai,cy,cz,cA⟩;subst hq;have H:=b2;refine Zg (bY _ _ (Zj fun _ cB=>bO H fun dC cC H=>bO H fun dD cD H=>bO H fun dE cE H=>Zs (mv S rfl fun f S=>?_)));obtain ⟨dF,cF,S,cG⟩:=S.pubSlice (i:=1) (A:=(Zd .u64)) (l:=I) (ℓ':=[Loc.own J 155 1 B L an]) rfl rfl cA cz rfl;have ai:=ZW cF ai;refine opc S rfl (Z9 S [.slice (mkA Y) M Z] ZMe rfl rfl) (ZOe S.vin (show Rep.rel (Zy (Zd .u64)) _ [.slice (mkA Y) M Z] I from cG) cC) ?_;rintro _ dG f w cH ⟨dH,rfl,ar⟩ S;have ai:=ZW cH ai;obtain ⟨cI,cJ,cK,rfl⟩:=Zja ar;refine mv S rfl fun f S=>?_;obtain ⟨dI,cL,S,cM⟩:=S.pubSlice (i:=0) (A:=(Zd .u64)) (l:=G) (ℓ':=[]) rfl rfl cy ai rfl;refine opc S rfl (Z9 S [.slice (mkA J) B L] ZMe rfl rfl) (ZOe S.vin (show Rep.rel (Zy (Zd .u64)) _ [.slice (mkA J) B L] G from cM) cD) ?_;rintro _ dJ f w cN ⟨dK,rfl,a9⟩ S;obtain ⟨cO,cP,cQ,rfl⟩:=Zja a9;refine mv S rfl fun f S=>opc S rfl (Z9 S [.slice cO cP cQ,.int .i64 k] k_en146 rfl rfl) (right_c S.vin a9 (show Rep.rel (Zd .i64) _ [.int .i64 k] k from (ZC aC)) cE) ?_;rintro _ dL f w cR ⟨dM,rfl,ba⟩ S;obtain ⟨cS,cT,cU,rfl⟩:=Zja ba
 refine mw S rfl fun f S=>mw S rfl fun f S=>Zr (Zg (cB _ _ (wp_ret ?_)));obtain rfl:=Zn H;have ar:=Z8 (leT (leT cL cN) cR) ar;refine ZEa S (ZLe rfl (ZR S rfl) (ZR S rfl)) ⟨[.slice cI cJ cK],[.slice cS cT cU],rfl,ar,ba⟩
theorem ZOt {d:World} {c:Zb} (hv:VIn c d) {e:List Value} {a:Nat} (i:Rep.rel Zv c e a) {f:List Value} {b:Nat} (j:Rep.rel Zv c f b) {z:Nat×Nat} (hm:Zwc a b=some z) :
  Ret Tryz.prog 96 #[Zv.val e,Zv.val f] d c (fun y v'=>∃ g h,y=Value.tuple #[Zv.val g,Zv.val h]∧Zv.rel v' g z.1∧Zv.rel v' h z.2) :=
 Zzs hv i j (Zju hm)
end Go.Eng
set_option maxRecDepth 100000
set_option maxHeartbeats 4000000
namespace Go.Eng
open Go.Proofs Go.RowKit
noncomputable def ZSe:FuncId×Con:=(96,⟨[.leaf 0,.leaf 0],[.leaf 0,.leaf 0],fun p=>Zwc p.1 p.2⟩)
theorem ZKn:Zk Tryz.prog ZSe.1 ZSe.2:=fun w v vals x z hv ha hz=>by
 obtain ⟨c0,w0,e0,p0,c1,e1,p1⟩:=ha;subst e0;subst e1
 exact .inl ⟨fun _ _=>by kernel_rfl,Ret.mono (ZOt hv p0 p1 hz) fun y v' _ ⟨r0,r1,e,h0,h1⟩=>⟨_,e,r0,_,rfl,h0,r1,rfl,h1⟩⟩
end Go.Eng
set_option maxRecDepth 100000
set_option maxHeartbeats 4000000
namespace Go.Eng
open Go.Proofs Go.RowKit
noncomputable def Zpk:FuncId×Con:=(142,⟨[.leaf 0,.leaf 0],[.int .u64],fun p=>Z6f p.1 p.2⟩)
theorem small_i (a:Nat) (b:Nat):Zm ⟨Tryz.prog,[(31,0)],[],[],[],[],[]⟩ [] Tryz.f142 (.two .no (.two .no (.two (.two .no (.cut ⟨⟨[],[],[]⟩,[(.norm,⟨[1],[],[.s 5 (.dat (.int .u64))]⟩)]⟩ .no)) (.two .no (.two (.cut ⟨⟨[],[],[]⟩,[(.norm,⟨[],[],[.s 5 (.dat (.int .u64))]⟩)]⟩ (.two (.cut ⟨⟨[],[],[.s 5 (.dat (.int .u64)),.s 6 (.dat (.int .u64))]⟩,[(.exit 0,⟨[],[],[.s 5 (.dat (.int .u64))]⟩)]⟩ .no) .no)) .no))))) [.leaf 0,.leaf 0] [.int .u64] (a,b)=ZVi a b:=by kernel_rfl
theorem small_k:Zk Tryz.prog Zpk.1 Zpk.2:=Zo (C:=⟨Tryz.prog,[(31,0)],[],[],[],[],[]⟩) trivial trivial trivial trivial (inl:=[]) trivial (ann:=.two .no (.two .no (.two (.two .no (.cut ⟨⟨[],[],[]⟩,[(.norm,⟨[1],[],[.s 5 (.dat (.int .u64))]⟩)]⟩ .no)) (.two .no (.two (.cut ⟨⟨[],[],[]⟩,[(.norm,⟨[],[],[.s 5 (.dat (.int .u64))]⟩)]⟩ (.two (.cut ⟨⟨[],[],[.s 5 (.dat (.int .u64)),.s 6 (.dat (.int .u64))]⟩,[(.exit 0,⟨[],[],[.s 5 (.dat (.int .u64))]⟩)]⟩ .no) .no)) .no))))) Tryz.func142 (fun _ _=>by kernel_rfl) rfl fun v vals x z ha hz=>(small_i x.1 x.2).trans (Zht hz)
end Go.Eng
set_option maxRecDepth 100000
set_option maxHeartbeats 4000000
namespace Go.Eng
open Go.Proofs Go.RowKit
noncomputable def ZAl:FuncId×Con:=(94,⟨[.leaf 0,.leaf 0],[.leaf 0],fun p=>gcdF p.1 p.2⟩)
theorem gcd_i (a:Nat) (b:Nat):Zm ⟨Tryz.prog,[(31,0)],[ZUb,ZSe,Zpk],[],[],[],[]⟩ [] Tryz.f94 (.two .no (.two (.cut ⟨⟨[],[],[]⟩,[(.norm,⟨[],[],[.s 0 (.dat (.leaf 0))]⟩),(.ret,⟨[],[],[.s 0 (.dat (.leaf 0))]⟩)]⟩ (.two (.cut ⟨⟨[],[],[.s 0 (.dat (.leaf 0)),.s 1 (.dat (.leaf 0))]⟩,[(.ret,⟨[],[],[.s 0 (.dat (.leaf 0))]⟩),(.exit 0,⟨[],[],[.s 0 (.dat (.leaf 0))]⟩)]⟩ (.two (.two .no (.two (.two (.two (.cut ⟨⟨[],[],[]⟩,[(.norm,⟨[0,1],[],[.s 17 (.dat .bool)]⟩)]⟩ .no) .no) .no) .no)) .no)) .no)) .no)) [.leaf 0,.leaf 0] [.leaf 0] (a,b)=Zqj a b:=by kernel_rfl
theorem gcd_k:Zk Tryz.prog ZAl.1 ZAl.2:=Zo (C:=⟨Tryz.prog,[(31,0)],[ZUb,ZSe,Zpk],[],[],[],[]⟩) ⟨ZWg,ZKn,small_k,trivial⟩ trivial trivial trivial (inl:=[]) trivial (ann:=.two .no (.two (.cut ⟨⟨[],[],[]⟩,[(.norm,⟨[],[],[.s 0 (.dat (.leaf 0))]⟩),(.ret,⟨[],[],[.s 0 (.dat (.leaf 0))]⟩)]⟩ (.two (.cut ⟨⟨[],[],[.s 0 (.dat (.leaf 0)),.s 1 (.dat (.leaf 0))]⟩,[(.ret,⟨[],[],[.s 0 (.dat (.leaf 0))]⟩),(.exit 0,⟨[],[],[.s 0 (.dat (.leaf 0))]⟩)]⟩ (.two (.two .no (.two (.two (.two (.cut ⟨⟨[],[],[]⟩,[(.norm,⟨[0,1],[],[.s 17 (.dat .bool)]⟩)]⟩ .no) .no) .no) .no)) .no)) .no)) .no)) Tryz.func94 (fun _ _=>by kernel_rfl) rfl fun v vals x z ha hz=>(gcd_i x.1 x.2).trans (gcdF_eq hz)
end Go.Eng
set_option maxRecDepth 100000
set_option maxHeartbeats 4000000
namespace Go.Eng
open Go.Proofs Go.RowKit
noncomputable def ZKg:FuncId×Con:=(95,⟨[.leaf 0],[.bool],fun p=>Zof p⟩)
theorem isOne_i (a:(List Int)):Zm ⟨Tryz.prog,[],[],[],[],[],[]⟩ [] Tryz.f95 (.two .no (.two (.cut ⟨⟨[],[],[]⟩,[(.norm,⟨[],[],[.s 2 (.dat .bool)]⟩)]⟩ .no) .no)) [.slice (.int .u64)] [.bool] (a)=ZQn a:=by kernel_rfl
theorem Zhr:Zk Tryz.prog ZKg.1 ZKg.2:=ZDl (C:=⟨Tryz.prog,[],[],[],[],[],[]⟩) trivial trivial trivial trivial (inl:=[]) trivial (ann:=.two .no (.two (.cut ⟨⟨[],[],[]⟩,[(.norm,⟨[],[],[.s 2 (.dat .bool)]⟩)]⟩ .no) .no)) (ats:=[.slice (.int .u64)]) (rts:=[.bool]) (fun x=>((Zc 18446744073709551616 x))) (fun z=>z) (fun _ _ _ h=>h) (fun _ _ _ h=>h) Tryz.func95 (fun _ _=>by kernel_rfl) rfl fun v vals x z ha hz=>(isOne_i (Zc 18446744073709551616 x)).trans (Zhv.trans hz)
end Go.Eng
set_option maxRecDepth 100000
set_option maxHeartbeats 4000000
namespace Go.Eng
open Go.Proofs Go.RowKit
noncomputable def ZJc:FuncId×Con:=(48,⟨[.leaf 2,.leaf 0],[.leaf 3],fun p=>ZVb p.1 p.2⟩)
theorem over_i (n:Int) (d:Nat):Zm ⟨Tryz.prog,[(31,0),(33,2),(35,3)],[ZAl,ZKg,ZSe],[],[],[],[]⟩ [] Tryz.f48 (.two .no (.two (.two .no (.two .no (.cut ⟨⟨[],[],[]⟩,[(.norm,⟨[2,4],[],[.s 1 (.dat (.leaf 0)),.l (.sl 2) (.box 33 (.dat (.pair .bool (.leaf 0))))]⟩)]⟩ .no))) (.two (.two .no (.cut ⟨⟨[],[],[]⟩,[(.norm,⟨[2,4],[],[.s 1 (.dat (.leaf 0))]⟩)]⟩ .no)) .no))) [.leaf 2,.leaf 0] [.leaf 3] (n,d)=ZUl n d:=by kernel_rfl
theorem Zci:Zk Tryz.prog ZJc.1 ZJc.2:=Zo (C:=⟨Tryz.prog,[(31,0),(33,2),(35,3)],[ZAl,ZKg,ZSe],[],[],[],[]⟩) ⟨gcd_k,Zhr,ZKn,trivial⟩ trivial trivial trivial (inl:=[]) trivial (ann:=.two .no (.two (.two .no (.two .no (.cut ⟨⟨[],[],[]⟩,[(.norm,⟨[2,4],[],[.s 1 (.dat (.leaf 0)),.l (.sl 2) (.box 33 (.dat (.pair .bool (.leaf 0))))]⟩)]⟩ .no))) (.two (.two .no (.cut ⟨⟨[],[],[]⟩,[(.norm,⟨[2,4],[],[.s 1 (.dat (.leaf 0))]⟩)]⟩ .no)) .no))) Tryz.func48 (fun _ _=>by kernel_rfl) rfl fun v vals x z ha hz=>(over_i x.1 x.2).trans (Zns hz)
end Go.Eng
set_option maxRecDepth 100000
set_option maxHeartbeats 4000000
namespace Go.Eng
open Go.Proofs Go.RowKit
noncomputable def Zbb:FuncId×Con:=(97,⟨[.bool,.leaf 0],[.leaf 2],fun p=>ZGa p.1 p.2⟩)
theorem whole_i (s:Bool) (n:Nat):Zm ⟨Tryz.prog,[(31,0),(33,2),(35,3)],[],[],[],[],[]⟩ [] Tryz.f97 (.two .no (.two (.cut ⟨⟨[],[],[]⟩,[(.norm,⟨[4],[],[.l (.sl 4) (.box 33 (.dat (.pair .bool (.leaf 0))))]⟩)]⟩ .no) .no)) [.bool,.leaf 0] [.leaf 2] (s,n)=Zun s n:=by kernel_rfl
theorem Zaf:Zk Tryz.prog Zbb.1 Zbb.2:=Zo (C:=⟨Tryz.prog,[(31,0),(33,2),(35,3)],[],[],[],[],[]⟩) trivial trivial trivial trivial (inl:=[]) trivial (ann:=.two .no (.two (.cut ⟨⟨[],[],[]⟩,[(.norm,⟨[4],[],[.l (.sl 4) (.box 33 (.dat (.pair .bool (.leaf 0))))]⟩)]⟩ .no) .no)) Tryz.func97 (fun _ _=>by kernel_rfl) rfl fun v vals x z ha hz=>(whole_i x.1 x.2).trans (Zjv hz)
end Go.Eng
set_option maxRecDepth 100000
set_option maxHeartbeats 4000000
namespace Go.Eng
open Go.Proofs Go.RowKit
noncomputable def ZUk:FuncId×Con:=(54,⟨[.int .i64,.int .i64],[.leaf 3,.int .i64],fun p=>Zni p.1 p.2⟩)
theorem qnew_i (n:Int) (d:Int):Zm ⟨Tryz.prog,[(31,0),(33,2),(35,3)],[ZJc,Z1e,Zbb],[],[],[],[]⟩ [] Tryz.f54 .no [.int .i64,.int .i64] [.leaf 3,.int .i64] (n,d)=ZXm n d:=by kernel_rfl
theorem qnew_k:Zk Tryz.prog ZUk.1 ZUk.2:=Zo (C:=⟨Tryz.prog,[(31,0),(33,2),(35,3)],[ZJc,Z1e,Zbb],[],[],[],[]⟩) ⟨Zci,of_k,Zaf,trivial⟩ trivial trivial trivial (inl:=[]) trivial (ann:=.no) Tryz.func54 (fun _ _=>by kernel_rfl) rfl fun v vals x z ha hz=>by obtain ⟨c0,w0,e0,p0,c1,e1,p1⟩:=ha;exact (qnew_i x.1 x.2).trans (ZBv p0.2 p1.2 hz)
end Go.Eng
set_option maxRecDepth 100000
set_option maxHeartbeats 4000000
namespace Go.Eng
open Go.Proofs Go.RowKit
noncomputable def ZKc:FuncId×Con:=(15,⟨[.pair (.int .i64) (.int .i64)],[.leaf 3],fun p=>ZKb p⟩)
theorem Z2s (r:(Int×Int)):Zm ⟨Tryz.prog,[(31,0),(33,2),(35,3)],[ZDc,ZUk],[],[],[],[]⟩ [] Tryz.f15 .no [.pair (.int .i64) (.int .i64)] [.leaf 3] (r)=Zbm r:=by kernel_rfl
theorem Zyh:Zk Tryz.prog ZKc.1 ZKc.2:=Zo (C:=⟨Tryz.prog,[(31,0),(33,2),(35,3)],[ZDc,ZUk],[],[],[],[]⟩) ⟨Zyi,qnew_k,trivial⟩ trivial trivial trivial (inl:=[]) trivial (ann:=.no) Tryz.func15 (fun _ _=>by kernel_rfl) rfl fun v vals x z ha hz=>(Z2s x).trans (ZEv hz)
end Go.Eng
set_option maxRecDepth 100000
set_option maxHeartbeats 4000000
namespace Go.Eng
open Go.Proofs Go.RowKit
noncomputable def Zgb:FuncId×Con:=(140,⟨[.slice (.int .u32)],[.leaf 1],fun p=>Z2a p⟩)
theorem rcut_i (a:(List Int)):Zm ⟨Tryz.prog,[],[],[],[],[],[]⟩ [] Tryz.f140 (.two .no (.two .no (.two (.cut ⟨⟨[],[],[]⟩,[(.norm,⟨[0],[],[.s 3 (.dat (.int .i64))]⟩)]⟩ (.two (.cut ⟨⟨[0],[],[.s 3 (.dat (.int .i64))]⟩,[(.exit 0,⟨[0],[],[.s 3 (.dat (.int .i64))]⟩)]⟩ (.two (.two (.two (.cut ⟨⟨[],[],[]⟩,[(.norm,⟨[0,3],[],[.s 15 (.dat .bool)]⟩)]⟩ .no) .no) .no) .no)) .no)) .no))) [.slice (.int .u32)] [.slice (.int .u32)] (a)=ZQm a:=by kernel_rfl
theorem ZBe:Zk Tryz.prog Zgb.1 Zgb.2:=ZDl (C:=⟨Tryz.prog,[],[],[],[],[],[]⟩) trivial trivial trivial trivial (inl:=[]) trivial (ann:=.two .no (.two .no (.two (.cut ⟨⟨[],[],[]⟩,[(.norm,⟨[0],[],[.s 3 (.dat (.int .i64))]⟩)]⟩ (.two (.cut ⟨⟨[0],[],[.s 3 (.dat (.int .i64))]⟩,[(.exit 0,⟨[0],[],[.s 3 (.dat (.int .i64))]⟩)]⟩ (.two (.two (.two (.cut ⟨⟨[],[],[]⟩,[(.norm,⟨[0,3],[],[.s 15 (.dat .bool)]⟩)]⟩ .no) .no) .no) .no)) .no)) .no))) (ats:=[.slice (.int .u32)]) (rts:=[.slice (.int .u32)]) (fun x=>(x)) (fun z=>(Zc 4294967296 z)) (fun _ _ _ h=>h) (fun _ _ _ h=>h) Tryz.func140 (fun _ _=>by kernel_rfl) rfl fun v vals x z ha hz=>by obtain ⟨c0,e0,p0⟩:=ha;exact (rcut_i x).trans (by cases hz;exact (rcut_eq (Zcn p0).1 (Zcn p0).2))
end Go.Eng
set_option maxRecDepth 100000
set_option maxHeartbeats 4000000
namespace Go.Eng
open Go.Proofs Go.RowKit
noncomputable def Z7g:FuncId×Con:=(84,⟨[.int .u64],[.leaf 1],fun p=>ZXc p⟩)
theorem rnat_i (n:Int):Zm ⟨Tryz.prog,[(39,1),(41,4)],[Zgb],[],[],[],[]⟩ [] Tryz.f84 .no [.int .u64] [.leaf 1] (n)=Z5n n:=by kernel_rfl
theorem Z4p:Zk Tryz.prog Z7g.1 Z7g.2:=Zo (C:=⟨Tryz.prog,[(39,1),(41,4)],[Zgb],[],[],[],[]⟩) ⟨ZBe,trivial⟩ trivial trivial trivial (inl:=[]) trivial (ann:=.no) Tryz.func84 (fun _ _=>by kernel_rfl) rfl fun v vals x z ha hz=>by obtain ⟨c0,e0,p0⟩:=ha;exact (rnat_i x).trans (Zxw p0.2 hz)
end Go.Eng
set_option maxRecDepth 100000
set_option maxHeartbeats 4000000
namespace Go.Eng
open Go.Proofs Go.RowKit
noncomputable def Zvd:FuncId×Con:=(86,⟨[.leaf 1,.leaf 1],[.leaf 1],fun p=>Zia p.1 p.2⟩)
theorem rprod_i (a:Nat) (b:Nat):Zm ⟨Tryz.prog,[(39,1),(41,4)],[Zgb],[],[],[],[]⟩ [] Tryz.f86 (.two .no (.two .no (.two (.two .no (.cut ⟨⟨[],[],[]⟩,[(.norm,⟨[],[],[.s 5 (.own 156 (.int .u32))]⟩)]⟩ (.two (.cut ⟨⟨[0,1],[],[.s 5 (.own 156 (.int .u32)),.s 6 (.dat (.int .i64))]⟩,[(.exit 0,⟨[],[],[.s 5 (.own 156 (.int .u32))]⟩)]⟩ (.two (.two .no (.two (.two (.two .no (.two (.two .no (.cut ⟨⟨[],[],[]⟩,[(.norm,⟨[0,1,6],[],[.s 5 (.own 156 (.int .u32)),.s 7 (.dat (.int .u64))]⟩)]⟩ (.two (.cut ⟨⟨[0,1,6],[],[.s 5 (.own 156 (.int .u32)),.s 7 (.dat (.int .u64)),.s 8 (.dat (.int .i64))]⟩,[(.exit 2,⟨[0,1,6],[],[.s 5 (.own 156 (.int .u32)),.s 7 (.dat (.int .u64))]⟩)]⟩ .no) .no))) .no)) .no) .no)) .no)) .no))) .no))) [.leaf 1,.leaf 1] [.leaf 1] (a,b)=Z8k a b:=by kernel_rfl
theorem Z0j:Zk Tryz.prog Zvd.1 Zvd.2:=Zo (C:=⟨Tryz.prog,[(39,1),(41,4)],[Zgb],[],[],[],[]⟩) ⟨ZBe,trivial⟩ trivial trivial trivial (inl:=[]) trivial (ann:=.two .no (.two .no (.two (.two .no (.cut ⟨⟨[],[],[]⟩,[(.norm,⟨[],[],[.s 5 (.own 156 (.int .u32))]⟩)]⟩ (.two (.cut ⟨⟨[0,1],[],[.s 5 (.own 156 (.int .u32)),.s 6 (.dat (.int .i64))]⟩,[(.exit 0,⟨[],[],[.s 5 (.own 156 (.int .u32))]⟩)]⟩ (.two (.two .no (.two (.two (.two .no (.two (.two .no (.cut ⟨⟨[],[],[]⟩,[(.norm,⟨[0,1,6],[],[.s 5 (.own 156 (.int .u32)),.s 7 (.dat (.int .u64))]⟩)]⟩ (.two (.cut ⟨⟨[0,1,6],[],[.s 5 (.own 156 (.int .u32)),.s 7 (.dat (.int .u64)),.s 8 (.dat (.int .i64))]⟩,[(.exit 2,⟨[0,1,6],[],[.s 5 (.own 156 (.int .u32)),.s 7 (.dat (.int .u64))]⟩)]⟩ .no) .no))) .no)) .no) .no)) .no)) .no))) .no))) Tryz.func86 (fun _ _=>by kernel_rfl) rfl fun v vals x z ha hz=>(rprod_i x.1 x.2).trans (Zfw hz)
end Go.Eng
set_option maxRecDepth 100000
set_option maxHeartbeats 4000000
namespace Go.Eng
open Go.Proofs Go.RowKit
noncomputable def ZWe:FuncId×Con:=(88,⟨[.leaf 1,.leaf 1],[.int .i64],fun p=>Zed p.1 p.2⟩)
theorem Z4t (a:Nat) (b:Nat):Zm ⟨Tryz.prog,[(39,1),(41,4)],[],[],[],[],[]⟩ [] Tryz.f88 (.two .no (.two .no (.two .no (.two (.two .no (.cut ⟨⟨[],[],[]⟩,[(.norm,⟨[],[],[]⟩),(.ret,⟨[],[],[.s 0 (.dat (.int .i64))]⟩)]⟩ (.two (.cut ⟨⟨[0,1],[],[.s 5 (.dat (.int .i64))]⟩,[(.ret,⟨[],[],[.s 0 (.dat (.int .i64))]⟩),(.exit 0,⟨[],[],[]⟩)]⟩ .no) .no))) .no)))) [.leaf 1,.leaf 1] [.int .i64] (a,b)=ZFn a b:=by kernel_rfl
theorem ZBn:Zk Tryz.prog ZWe.1 ZWe.2:=Zo (C:=⟨Tryz.prog,[(39,1),(41,4)],[],[],[],[],[]⟩) trivial trivial trivial trivial (inl:=[]) trivial (ann:=.two .no (.two .no (.two .no (.two (.two .no (.cut ⟨⟨[],[],[]⟩,[(.norm,⟨[],[],[]⟩),(.ret,⟨[],[],[.s 0 (.dat (.int .i64))]⟩)]⟩ (.two (.cut ⟨⟨[0,1],[],[.s 5 (.dat (.int .i64))]⟩,[(.ret,⟨[],[],[.s 0 (.dat (.int .i64))]⟩),(.exit 0,⟨[],[],[]⟩)]⟩ .no) .no))) .no)))) Tryz.func88 (fun _ _=>by kernel_rfl) rfl fun v vals x z ha hz=>by obtain ⟨c0,w0,e0,p0,c1,e1,p1⟩:=ha;exact (Z4t x.1 x.2).trans ((ZMw (ZDr p0) (ZDr p1)).trans hz)
end Go.Eng
set_option maxRecDepth 100000
set_option maxHeartbeats 4000000
namespace Go.Eng
open Go.Proofs Go.RowKit
noncomputable def Zng:FuncId×Con:=(89,⟨[.leaf 1,.leaf 1],[.leaf 1],fun p=>ZLb p.1 p.2⟩)
theorem rdif_i (a:Nat) (b:Nat):Zm ⟨Tryz.prog,[(39,1),(41,4)],[Zgb],[],[],[],[]⟩ [] Tryz.f89 (.two .no (.two .no (.two .no (.two (.two .no (.cut ⟨⟨[],[],[]⟩,[(.norm,⟨[],[],[.s 5 (.own 156 (.int .u32))]⟩)]⟩ (.two (.cut ⟨⟨[0,1],[],[.s 5 (.own 156 (.int .u32)),.s 6 (.dat (.int .i64)),.s 7 (.dat (.int .i64))]⟩,[(.exit 0,⟨[],[],[.s 5 (.own 156 (.int .u32))]⟩)]⟩ (.two (.two .no (.two (.two (.two .no (.two (.two .no (.cut ⟨⟨[],[],[]⟩,[(.norm,⟨[0,1,5,7],[],[.s 8 (.dat (.int .i64))]⟩)]⟩ .no)) (.two .no (.two (.two .no (.cut ⟨⟨[],[],[]⟩,[(.norm,⟨[0,1,5,7],[],[.s 6 (.dat (.int .i64)),.s 8 (.dat (.int .i64))]⟩)]⟩ .no)) .no)))) .no) .no)) .no)) .no))) .no)))) [.leaf 1,.leaf 1] [.leaf 1] (a,b)=Zhj a b:=by kernel_rfl
theorem ZEr:Zk Tryz.prog Zng.1 Zng.2:=Zo (C:=⟨Tryz.prog,[(39,1),(41,4)],[Zgb],[],[],[],[]⟩) ⟨ZBe,trivial⟩ trivial trivial trivial (inl:=[]) trivial (ann:=.two .no (.two .no (.two .no (.two (.two .no (.cut ⟨⟨[],[],[]⟩,[(.norm,⟨[],[],[.s 5 (.own 156 (.int .u32))]⟩)]⟩ (.two (.cut ⟨⟨[0,1],[],[.s 5 (.own 156 (.int .u32)),.s 6 (.dat (.int .i64)),.s 7 (.dat (.int .i64))]⟩,[(.exit 0,⟨[],[],[.s 5 (.own 156 (.int .u32))]⟩)]⟩ (.two (.two .no (.two (.two (.two .no (.two (.two .no (.cut ⟨⟨[],[],[]⟩,[(.norm,⟨[0,1,5,7],[],[.s 8 (.dat (.int .i64))]⟩)]⟩ .no)) (.two .no (.two (.two .no (.cut ⟨⟨[],[],[]⟩,[(.norm,⟨[0,1,5,7],[],[.s 6 (.dat (.int .i64)),.s 8 (.dat (.int .i64))]⟩)]⟩ .no)) .no)))) .no) .no)) .no)) .no))) .no)))) Tryz.func89 (fun _ _=>by kernel_rfl) rfl fun v vals x z ha hz=>(rdif_i x.1 x.2).trans (Zew hz)
end Go.Eng
set_option maxRecDepth 100000
set_option maxHeartbeats 4000000
namespace Go.Eng
open Go.Proofs Go.RowKit
noncomputable def ZEg:FuncId×Con:=(141,⟨[.leaf 1,.int .u32],[.leaf 1,.int .u32],fun p=>ZYe p.1 p.2⟩)
theorem ZVt (a:Nat) (b:Int):Zm ⟨Tryz.prog,[(39,1),(41,4)],[Zgb],[],[],[],[]⟩ [] Tryz.f141 (.two .no (.two .no (.two .no (.two (.two .no (.cut ⟨⟨[],[],[]⟩,[(.norm,⟨[],[],[.s 6 (.own 156 (.int .u32)),.s 7 (.dat (.int .u64))]⟩)]⟩ (.two (.cut ⟨⟨[0,1],[],[.s 6 (.own 156 (.int .u32)),.s 7 (.dat (.int .u64)),.s 8 (.dat (.int .i64))]⟩,[(.exit 0,⟨[],[],[.s 6 (.own 156 (.int .u32)),.s 7 (.dat (.int .u64))]⟩)]⟩ .no) .no))) .no)))) [.leaf 1,.int .u32] [.leaf 1,.int .u32] (a,b)=ZNi a b:=by kernel_rfl
theorem ZEq:Zk Tryz.prog ZEg.1 ZEg.2:=Zo (C:=⟨Tryz.prog,[(39,1),(41,4)],[Zgb],[],[],[],[]⟩) ⟨ZBe,trivial⟩ trivial trivial trivial (inl:=[]) trivial (ann:=.two .no (.two .no (.two .no (.two (.two .no (.cut ⟨⟨[],[],[]⟩,[(.norm,⟨[],[],[.s 6 (.own 156 (.int .u32)),.s 7 (.dat (.int .u64))]⟩)]⟩ (.two (.cut ⟨⟨[0,1],[],[.s 6 (.own 156 (.int .u32)),.s 7 (.dat (.int .u64)),.s 8 (.dat (.int .i64))]⟩,[(.exit 0,⟨[],[],[.s 6 (.own 156 (.int .u32)),.s 7 (.dat (.int .u64))]⟩)]⟩ .no) .no))) .no)))) Tryz.func141 (fun _ _=>by kernel_rfl) rfl fun v vals x z ha hz=>by obtain ⟨c0,w0,e0,p0,c1,e1,p1⟩:=ha;exact (ZVt x.1 x.2).trans (Zau p1.2 hz)
end Go.Eng
set_option maxRecDepth 100000
set_option maxHeartbeats 4000000
namespace Go.Eng
open Go.Proofs Go.RowKit
noncomputable def ZDj:FuncId×Con:=(179,⟨[.leaf 1],[.int .i64],fun p=>ZRg p⟩)
theorem rbits_i (a:Nat):Zm ⟨Tryz.prog,[(39,1),(41,4)],[],[],[],[],[]⟩ [] Tryz.f179 (.two .no (.two .no (.two .no (.two (.two .no (.cut ⟨⟨[],[],[]⟩,[(.norm,⟨[],[],[.s 3 (.dat (.int .i64))]⟩)]⟩ (.two (.cut ⟨⟨[],[],[.s 3 (.dat (.int .i64)),.s 4 (.dat (.int .u32))]⟩,[(.exit 0,⟨[],[],[.s 3 (.dat (.int .i64))]⟩)]⟩ .no) .no))) .no)))) [.leaf 1] [.int .i64] (a)=Zhl a:=by kernel_rfl
theorem rbits_k:Zk Tryz.prog ZDj.1 ZDj.2:=Zo (C:=⟨Tryz.prog,[(39,1),(41,4)],[],[],[],[],[]⟩) trivial trivial trivial trivial (inl:=[]) trivial (ann:=.two .no (.two .no (.two .no (.two (.two .no (.cut ⟨⟨[],[],[]⟩,[(.norm,⟨[],[],[.s 3 (.dat (.int .i64))]⟩)]⟩ (.two (.cut ⟨⟨[],[],[.s 3 (.dat (.int .i64)),.s 4 (.dat (.int .u32))]⟩,[(.exit 0,⟨[],[],[.s 3 (.dat (.int .i64))]⟩)]⟩ .no) .no))) .no)))) Tryz.func179 (fun _ _=>by kernel_rfl) rfl fun v vals x z ha hz=>(rbits_i x).trans (Zkv hz)
end Go.Eng
set_option maxRecDepth 100000
set_option maxHeartbeats 4000000
namespace Go.Eng
open Go.Proofs Go.RowKit
noncomputable def Zsj:FuncId×Con:=(180,⟨[.leaf 1,.int .i64],[.leaf 1],fun p=>Zre p.1 p.2⟩)
theorem ZFt (a:Nat) (n:Int):Zm ⟨Tryz.prog,[(39,1),(41,4)],[Zgb],[],[],[],[]⟩ [] Tryz.f180 (.two .no (.two .no (.two .no (.two .no (.two (.two .no (.cut ⟨⟨[],[],[]⟩,[(.norm,⟨[],[],[.s 5 (.own 156 (.int .u32)),.s 6 (.dat (.int .u64))]⟩)]⟩ (.two (.cut ⟨⟨[0,1],[],[.s 5 (.own 156 (.int .u32)),.s 6 (.dat (.int .u64)),.s 7 (.dat (.int .i64))]⟩,[(.exit 0,⟨[],[],[.s 5 (.own 156 (.int .u32)),.s 6 (.dat (.int .u64))]⟩)]⟩ .no) .no))) .no))))) [.leaf 1,.int .i64] [.leaf 1] (a,n)=Zbj a n:=by kernel_rfl
theorem Zhx:Zk Tryz.prog Zsj.1 Zsj.2:=Zo (C:=⟨Tryz.prog,[(39,1),(41,4)],[Zgb],[],[],[],[]⟩) ⟨ZBe,trivial⟩ trivial trivial trivial (inl:=[]) trivial (ann:=.two .no (.two .no (.two .no (.two .no (.two (.two .no (.cut ⟨⟨[],[],[]⟩,[(.norm,⟨[],[],[.s 5 (.own 156 (.int .u32)),.s 6 (.dat (.int .u64))]⟩)]⟩ (.two (.cut ⟨⟨[0,1],[],[.s 5 (.own 156 (.int .u32)),.s 6 (.dat (.int .u64)),.s 7 (.dat (.int .i64))]⟩,[(.exit 0,⟨[],[],[.s 5 (.own 156 (.int .u32)),.s 6 (.dat (.int .u64))]⟩)]⟩ .no) .no))) .no))))) Tryz.func180 (fun _ _=>by kernel_rfl) rfl fun v vals x z ha hz=>(ZFt x.1 x.2).trans (Z6v hz)
end Go.Eng
set_option maxRecDepth 100000
set_option maxHeartbeats 4000000
namespace Go.Eng
open Go.Proofs Go.RowKit
noncomputable def Z5k:FuncId×Con:=(181,⟨[.leaf 1,.int .i64],[.leaf 1],fun p=>ZUg p.1 p.2⟩)
theorem Zxu (a:Nat) (n:Int):Zm ⟨Tryz.prog,[(39,1),(41,4)],[Zgb],[],[],[],[]⟩ [] Tryz.f181 (.two .no (.two .no (.two (.two .no (.cut ⟨⟨[],[],[]⟩,[(.norm,⟨[],[],[.s 5 (.own 156 (.int .u32))]⟩)]⟩ (.two (.cut ⟨⟨[0,1],[],[.s 5 (.own 156 (.int .u32)),.s 6 (.dat (.int .i64))]⟩,[(.exit 0,⟨[],[],[.s 5 (.own 156 (.int .u32))]⟩)]⟩ (.two (.two .no (.two (.two (.two .no (.two (.two .no (.cut ⟨⟨[],[],[]⟩,[(.norm,⟨[0,1,5,6],[],[.s 7 (.dat (.int .u64))]⟩)]⟩ .no)) .no)) .no) .no)) .no)) .no))) .no))) [.leaf 1,.int .i64] [.leaf 1] (a,n)=ZIk a n:=by kernel_rfl
theorem Zas:Zk Tryz.prog Z5k.1 Z5k.2:=Zo (C:=⟨Tryz.prog,[(39,1),(41,4)],[Zgb],[],[],[],[]⟩) ⟨ZBe,trivial⟩ trivial trivial trivial (inl:=[]) trivial (ann:=.two .no (.two .no (.two (.two .no (.cut ⟨⟨[],[],[]⟩,[(.norm,⟨[],[],[.s 5 (.own 156 (.int .u32))]⟩)]⟩ (.two (.cut ⟨⟨[0,1],[],[.s 5 (.own 156 (.int .u32)),.s 6 (.dat (.int .i64))]⟩,[(.exit 0,⟨[],[],[.s 5 (.own 156 (.int .u32))]⟩)]⟩ (.two (.two .no (.two (.two (.two .no (.two (.two .no (.cut ⟨⟨[],[],[]⟩,[(.norm,⟨[0,1,5,6],[],[.s 7 (.dat (.int .u64))]⟩)]⟩ .no)) .no)) .no) .no)) .no)) .no))) .no))) Tryz.func181 (fun _ _=>by kernel_rfl) rfl fun v vals x z ha hz=>by obtain ⟨c0,w0,e0,p0,c1,e1,p1⟩:=ha;exact (Zxu x.1 x.2).trans (ZIw p1.2 hz)
end Go.Eng
set_option maxRecDepth 100000
set_option maxHeartbeats 4000000
namespace Go.Eng
open Go.Proofs Go.RowKit
noncomputable def ZOg:FuncId×Con:=(139,⟨[.leaf 1,.leaf 1],[.leaf 1,.leaf 1],fun p=>Zyc p.1 p.2⟩)
theorem rquot_i (a:Nat) (b:Nat):Zm ⟨Tryz.prog,[(39,1),(41,4)],[Z7g,Zvd,ZWe,Zng,Zgb,ZEg,ZDj,Zsj,Z5k],[],[],[],[]⟩ [] Tryz.f139 (.two .no (.two .no (.two .no (.two .no (.two .no (.two .no (.two .no (.two (.two .no (.cut ⟨⟨[],[],[]⟩,[(.norm,⟨[8],[],[.s 10 (.dat (.leaf 1)),.s 12 (.own 156 (.int .u32))]⟩)]⟩ (.two (.cut ⟨⟨[8,9,11],[],[.s 10 (.dat (.leaf 1)),.s 12 (.own 156 (.int .u32)),.s 13 (.dat (.int .i64))]⟩,[(.exit 0,⟨[8],[],[.s 10 (.dat (.leaf 1)),.s 12 (.own 156 (.int .u32))]⟩)]⟩ (.two (.two .no (.two (.cut ⟨⟨[],[],[]⟩,[(.norm,⟨[8,9,11,13],[],[.s 10 (.dat (.leaf 1)),.s 12 (.own 156 (.int .u32))]⟩)]⟩ (.two (.two .no (.two (.two .no (.cut ⟨⟨[],[],[]⟩,[(.norm,⟨[8,9,10,11,12,13],[],[.s 14 (.dat (.slice (.int .u32)))]⟩)]⟩ .no)) (.two .no (.two .no (.two (.two .no (.cut ⟨⟨[],[],[]⟩,[(.norm,⟨[8,9,10,11,12,13,14],[],[.s 15 (.dat (.int .u64))]⟩)]⟩ .no)) (.two .no (.two (.two .no (.cut ⟨⟨[],[],[]⟩,[(.norm,⟨[8,9,10,11,12,13,14],[],[.s 16 (.dat (.int .u64))]⟩)]⟩ .no)) (.two .no (.two (.cut ⟨⟨[],[],[]⟩,[(.norm,⟨[8,9,10,11,12,13,14],[],[.s 16 (.dat (.int .u64)),.s 17 (.dat (.leaf 1))]⟩)]⟩ (.two (.cut ⟨⟨[8,9,10,11,12,13,14],[],[.s 16 (.dat (.int .u64)),.s 17 (.dat (.leaf 1))]⟩,[(.exit 2,⟨[8,9,10,11,12,13,14],[],[.s 16 (.dat (.int .u64)),.s 17 (.dat (.leaf 1))]⟩)]⟩ .no) .no)) .no))))))))) .no)) .no)) .no)) .no))) .no)))))))) [.leaf 1,.leaf 1] [.leaf 1,.leaf 1] (a,b)=ZNk a b:=by kernel_rfl
theorem Zcr:Zk Tryz.prog ZOg.1 ZOg.2:=Zo (C:=⟨Tryz.prog,[(39,1),(41,4)],[Z7g,Zvd,ZWe,Zng,Zgb,ZEg,ZDj,Zsj,Z5k],[],[],[],[]⟩) ⟨Z4p,Z0j,ZBn,ZEr,ZBe,ZEq,rbits_k,Zhx,Zas,trivial⟩ trivial trivial trivial (inl:=[]) trivial (ann:=.two .no (.two .no (.two .no (.two .no (.two .no (.two .no (.two .no (.two (.two .no (.cut ⟨⟨[],[],[]⟩,[(.norm,⟨[8],[],[.s 10 (.dat (.leaf 1)),.s 12 (.own 156 (.int .u32))]⟩)]⟩ (.two (.cut ⟨⟨[8,9,11],[],[.s 10 (.dat (.leaf 1)),.s 12 (.own 156 (.int .u32)),.s 13 (.dat (.int .i64))]⟩,[(.exit 0,⟨[8],[],[.s 10 (.dat (.leaf 1)),.s 12 (.own 156 (.int .u32))]⟩)]⟩ (.two (.two .no (.two (.cut ⟨⟨[],[],[]⟩,[(.norm,⟨[8,9,11,13],[],[.s 10 (.dat (.leaf 1)),.s 12 (.own 156 (.int .u32))]⟩)]⟩ (.two (.two .no (.two (.two .no (.cut ⟨⟨[],[],[]⟩,[(.norm,⟨[8,9,10,11,12,13],[],[.s 14 (.dat (.slice (.int .u32)))]⟩)]⟩ .no)) (.two .no (.two .no (.two (.two .no (.cut ⟨⟨[],[],[]⟩,[(.norm,⟨[8,9,10,11,12,13,14],[],[.s 15 (.dat (.int .u64))]⟩)]⟩ .no)) (.two .no (.two (.two .no (.cut ⟨⟨[],[],[]⟩,[(.norm,⟨[8,9,10,11,12,13,14],[],[.s 16 (.dat (.int .u64))]⟩)]⟩ .no)) (.two .no (.two (.cut ⟨⟨[],[],[]⟩,[(.norm,⟨[8,9,10,11,12,13,14],[],[.s 16 (.dat (.int .u64)),.s 17 (.dat (.leaf 1))]⟩)]⟩ (.two (.cut ⟨⟨[8,9,10,11,12,13,14],[],[.s 16 (.dat (.int .u64)),.s 17 (.dat (.leaf 1))]⟩,[(.exit 2,⟨[8,9,10,11,12,13,14],[],[.s 16 (.dat (.int .u64)),.s 17 (.dat (.leaf 1))]⟩)]⟩ .no) .no)) .no))))))))) .no)) .no)) .no)) .no))) .no)))))))) Tryz.func139 (fun _ _=>by kernel_rfl) rfl fun v vals x z ha hz=>(rquot_i x.1 x.2).trans (Z1u hz)
end Go.Eng
set_option maxRecDepth 100000
set_option maxHeartbeats 4000000
namespace Go.Eng
open Go.Proofs Go.RowKit
noncomputable def ZFj:FuncId×Con:=(138,⟨[.leaf 1,.leaf 1],[.leaf 1],fun p=>rgcF p.1 p.2⟩)
theorem rgcd_i (a:Nat) (b:Nat):Zm ⟨Tryz.prog,[(39,1),(41,4)],[ZOg],[],[],[],[]⟩ [] Tryz.f138 (.two .no (.two (.cut ⟨⟨[],[],[]⟩,[(.norm,⟨[],[],[.s 0 (.dat (.leaf 1))]⟩)]⟩ (.two (.cut ⟨⟨[],[],[.s 0 (.dat (.leaf 1)),.s 1 (.dat (.leaf 1))]⟩,[(.exit 0,⟨[],[],[.s 0 (.dat (.leaf 1))]⟩)]⟩ .no) .no)) .no)) [.leaf 1,.leaf 1] [.leaf 1] (a,b)=Zdl a b:=by kernel_rfl
theorem rgcd_k:Zk Tryz.prog ZFj.1 ZFj.2:=Zo (C:=⟨Tryz.prog,[(39,1),(41,4)],[ZOg],[],[],[],[]⟩) ⟨Zcr,trivial⟩ trivial trivial trivial (inl:=[]) trivial (ann:=.two .no (.two (.cut ⟨⟨[],[],[]⟩,[(.norm,⟨[],[],[.s 0 (.dat (.leaf 1))]⟩)]⟩ (.two (.cut ⟨⟨[],[],[.s 0 (.dat (.leaf 1)),.s 1 (.dat (.leaf 1))]⟩,[(.exit 0,⟨[],[],[.s 0 (.dat (.leaf 1))]⟩)]⟩ .no) .no)) .no)) Tryz.func138 (fun _ _=>by kernel_rfl) rfl fun v vals x z ha hz=>(rgcd_i x.1 x.2).trans (rgcF_eq hz)
end Go.Eng
set_option maxRecDepth 100000
set_option maxHeartbeats 4000000
namespace Go.Eng
open Go.Proofs Go.RowKit
noncomputable def Z3b:FuncId×Con:=(83,⟨[.bool,.leaf 1,.leaf 1],[.leaf 4],fun p=>Z8a p.1 p.2.1 p.2.2⟩)
theorem rfrac_i (s:Bool) (n:Nat) (d:Nat):Zm ⟨Tryz.prog,[(39,1),(41,4)],[ZFj,ZOg],[],[],[],[]⟩ [] Tryz.f83 .no [.bool,.leaf 1,.leaf 1] [.leaf 4] (s,n,d)=Zfm s n d:=by kernel_rfl
theorem Zig:Zk Tryz.prog Z3b.1 Z3b.2:=Zo (C:=⟨Tryz.prog,[(39,1),(41,4)],[ZFj,ZOg],[],[],[],[]⟩) ⟨rgcd_k,Zcr,trivial⟩ trivial trivial trivial (inl:=[]) trivial (ann:=.no) Tryz.func83 (fun _ _=>by kernel_rfl) rfl fun v vals x z ha hz=>(rfrac_i x.1 x.2.1 x.2.2).trans (ZKv hz)
end Go.Eng
set_option maxRecDepth 100000
set_option maxHeartbeats 4000000
namespace Go.Eng
open Go.Proofs Go.RowKit
noncomputable def ZTc:FuncId×Con:=(40,⟨[.int .i64],[.leaf 4],fun p=>ZWb p⟩)
theorem Z7r (n:Int):Zm ⟨Tryz.prog,[(39,1),(41,4)],[Z3b,Z7g],[],[],[],[]⟩ [] Tryz.f40 .no [.int .i64] [.leaf 4] (n)=ZTj n:=by kernel_rfl
theorem ZJh:Zk Tryz.prog ZTc.1 ZTc.2:=Zo (C:=⟨Tryz.prog,[(39,1),(41,4)],[Z3b,Z7g],[],[],[],[]⟩) ⟨Zig,Z4p,trivial⟩ trivial trivial trivial (inl:=[]) trivial (ann:=.no) Tryz.func40 (fun _ _=>by kernel_rfl) rfl fun v vals x z ha hz=>by obtain ⟨c0,e0,p0⟩:=ha;exact (Z7r x).trans (Zfs p0.2 hz)
end Go.Eng
set_option maxRecDepth 100000
set_option maxHeartbeats 4000000
namespace Go.Eng
open Go.Proofs Go.RowKit
noncomputable def ZIl:FuncId×Con:=(77,⟨[.int .i64,.int .i64],[.leaf 4,.int .i64],fun p=>ZCi p.1 p.2⟩)
theorem rnew_i (n:Int) (d:Int):Zm ⟨Tryz.prog,[(39,1),(41,4)],[ZTc,Z3b],[],[],[],[]⟩ [] Tryz.f77 .no [.int .i64,.int .i64] [.leaf 4,.int .i64] (n,d)=Zfo n d:=by kernel_rfl
theorem rnew_k:Zk Tryz.prog ZIl.1 ZIl.2:=Zo (C:=⟨Tryz.prog,[(39,1),(41,4)],[ZTc,Z3b],[],[],[],[]⟩) ⟨ZJh,Zig,trivial⟩ trivial trivial trivial (inl:=[]) trivial (ann:=.no) Tryz.func77 (fun _ _=>by kernel_rfl) rfl fun v vals x z ha hz=>by obtain ⟨c0,w0,e0,p0,c1,e1,p1⟩:=ha;exact (rnew_i x.1 x.2).trans (Z9s p0.2 p1.2 hz)
end Go.Eng
set_option maxRecDepth 100000
set_option maxHeartbeats 4000000
namespace Go.Eng
open Go.Proofs Go.RowKit
noncomputable def ZHe:FuncId×Con:=(36,⟨[.pair (.int .i64) (.int .i64)],[.leaf 4],fun p=>Zpe p⟩)
theorem rof_i (r:(Int×Int)):Zm ⟨Tryz.prog,[(39,1),(41,4)],[ZTc,ZIl],[],[],[],[]⟩ [] Tryz.f36 .no [.pair (.int .i64) (.int .i64)] [.leaf 4] (r)=rof_m r:=by kernel_rfl
theorem rof_k:Zk Tryz.prog ZHe.1 ZHe.2:=Zo (C:=⟨Tryz.prog,[(39,1),(41,4)],[ZTc,ZIl],[],[],[],[]⟩) ⟨ZJh,rnew_k,trivial⟩ trivial trivial trivial (inl:=[]) trivial (ann:=.no) Tryz.func36 (fun _ _=>by kernel_rfl) rfl fun v vals x z ha hz=>(rof_i x).trans (rofF_eq hz)
end Go.Eng
set_option maxRecDepth 100000
set_option maxHeartbeats 4000000
namespace Go.Eng
open Go.Proofs Go.RowKit
noncomputable def ZTi:FuncId×Con:=(29,⟨[.pair (.pair (.int .i64) (.int .i64)) (.pair (.pair (.int .i64) (.int .i64)) (.pair (.int .i64) (.int .i64)))],[.pair (.leaf 3) (.pair (.leaf 3) (.leaf 3)),.pair (.leaf 4) (.pair (.leaf 4) (.leaf 4))],fun p=>Z8n p⟩)
theorem drum8_i (d:((Int×Int)×(Int×Int)×(Int×Int))):Zm ⟨Tryz.prog,[(31,0),(33,2),(35,3),(39,1),(41,4)],[ZKc,ZHe],[],[],[],[]⟩ [] Tryz.f29 .no [.pair (.pair (.int .i64) (.int .i64)) (.pair (.pair (.int .i64) (.int .i64)) (.pair (.int .i64) (.int .i64)))] [.pair (.leaf 3) (.pair (.leaf 3) (.leaf 3)),.pair (.leaf 4) (.pair (.leaf 4) (.leaf 4))] (d)=Z8n d:=by kernel_rfl
theorem drum8_k:Zk Tryz.prog ZTi.1 ZTi.2:=Zo (C:=⟨Tryz.prog,[(31,0),(33,2),(35,3),(39,1),(41,4)],[ZKc,ZHe],[],[],[],[]⟩) ⟨Zyh,rof_k,trivial⟩ trivial trivial trivial (inl:=[]) trivial (ann:=.no) Tryz.func29 (fun _ _=>by kernel_rfl) rfl fun v vals x z ha hz=>(drum8_i x).trans (hz)
end Go.Eng
set_option maxRecDepth 100000
set_option maxHeartbeats 4000000
namespace Go.Eng
open Go.Proofs Go.RowKit
noncomputable def Zrd:FuncId×Con:=(47,⟨[.leaf 0],[.leaf 0],fun p=>ZXb p⟩)
theorem under_i (d:Nat):Zm ⟨Tryz.prog,[(31,0),(33,2),(35,3)],[ZUb],[],[],[],[]⟩ [] Tryz.f47 .no [.leaf 0] [.leaf 0] (d)=ZYm d:=by kernel_rfl
theorem ZNj:Zk Tryz.prog Zrd.1 Zrd.2:=Zo (C:=⟨Tryz.prog,[(31,0),(33,2),(35,3)],[ZUb],[],[],[],[]⟩) ⟨ZWg,trivial⟩ trivial trivial trivial (inl:=[]) trivial (ann:=.no) Tryz.func47 (fun _ _=>by kernel_rfl) rfl fun v vals x z ha hz=>(under_i x).trans (Zdu hz)
end Go.Eng
set_option maxRecDepth 100000
set_option maxHeartbeats 4000000
namespace Go.Eng
open Go.Proofs Go.RowKit
noncomputable def Z6j:FuncId×Con:=(100,⟨[.int .u64,.int .u64],[.int .u64,.int .u64],fun p=>Zhc p.1 p.2⟩)
theorem mul64_i (x:Int) (y:Int):Zm ⟨Tryz.prog,[],[],[],[],[],[]⟩ [] Tryz.f100 .no [.int .u64,.int .u64] [.int .u64,.int .u64] (x,y)=Zwg x y:=by kernel_rfl
theorem mul64_k:Zk Tryz.prog Z6j.1 Z6j.2:=Zo (C:=⟨Tryz.prog,[],[],[],[],[],[]⟩) trivial trivial trivial trivial (inl:=[]) trivial (ann:=.no) Tryz.func100 (fun _ _=>by kernel_rfl) rfl fun v vals x z ha hz=>(mul64_i x.1 x.2).trans (Zqr hz)
end Go.Eng
set_option maxRecDepth 100000
set_option maxHeartbeats 4000000
namespace Go.Eng
open Go.Proofs Go.RowKit
noncomputable def Z0g:FuncId×Con:=(101,⟨[.int .u64,.int .u64,.int .u64],[.int .u64,.int .u64],fun p=>Zpb p.1 p.2.1 p.2.2⟩)
theorem ZOq:Zk Tryz.prog Z0g.1 Z0g.2:=fun w v vals x z _ ha hz=>by
 obtain ⟨c0,w0,e0,p0,c1,w1,e1,p1,c2,e2,p2⟩:=ha
 subst e0 e1 e2
 obtain ⟨rfl,h0⟩:=p0
 obtain ⟨rfl,h1⟩:=p1
 obtain ⟨rfl,h2⟩:=p2
 have p0:(Zd .u64).rel v [.int .u64 x.1] x.1:=⟨rfl,h0⟩
 have p1:(Zd .u64).rel v [.int .u64 x.2.1] x.2.1:=⟨rfl,h1⟩
 exact .inr ⟨.tuple #[.int .u64 z.1,.int .u64 z.2],fun w=>Zgn (show ZEe Tryz.prog 101 add64Entry from ⟨_,Tryz.func101,by kernel_rfl,by kernel_rfl,by kernel_rfl,by kernel_rfl⟩) hz w,_,rfl,_,_,rfl,⟨rfl,Z6l hz⟩,_,rfl,⟨rfl,addW_hi p0.2 p1.2 hz⟩⟩
end Go.Eng
set_option maxRecDepth 100000
set_option maxHeartbeats 4000000
namespace Go.Eng
open Go.Proofs Go.RowKit
noncomputable def ZHc:FuncId×Con:=(51,⟨[.leaf 0,.leaf 0],[.leaf 0],fun p=>Zjc p.1 p.2⟩)
theorem times_i (a:Nat) (b:Nat):Zm ⟨Tryz.prog,[(31,0)],[ZKg,Z6j,Z0g,Zud],[],[],[],[]⟩ [] Tryz.f51 (.two .no (.two .no (.two .no (.two .no (.two (.two .no (.cut ⟨⟨[],[],[]⟩,[(.norm,⟨[],[],[.s 5 (.own 155 (.int .u64))]⟩)]⟩ (.two (.cut ⟨⟨[1,26,27],[],[.s 5 (.own 155 (.int .u64)),.s 28 (.dat (.int .i64))]⟩,[(.exit 0,⟨[],[],[.s 5 (.own 155 (.int .u64))]⟩)]⟩ (.two (.two .no (.two .no (.two (.two (.two .no (.two .no (.two (.two .no (.cut ⟨⟨[],[],[]⟩,[(.norm,⟨[1,6,26,27,28],[],[.s 5 (.own 155 (.int .u64)),.s 8 (.dat (.int .u64))]⟩)]⟩ (.two (.cut ⟨⟨[1,6,7,26,27,28,33,34],[],[.s 5 (.own 155 (.int .u64)),.s 8 (.dat (.int .u64)),.s 35 (.dat (.int .i64))]⟩,[(.exit 2,⟨[1,6,26,27,28],[],[.s 5 (.own 155 (.int .u64)),.s 8 (.dat (.int .u64))]⟩)]⟩ .no) .no))) .no))) .no) .no))) .no)) .no))) .no))))) [.leaf 0,.leaf 0] [.leaf 0] (a,b)=ZEl a b:=by kernel_rfl
theorem ZHh:Zk Tryz.prog ZHc.1 ZHc.2:=Zo (C:=⟨Tryz.prog,[(31,0)],[ZKg,Z6j,Z0g,Zud],[],[],[],[]⟩) ⟨Zhr,mul64_k,ZOq,ZYj,trivial⟩ trivial trivial trivial (inl:=[]) trivial (ann:=.two .no (.two .no (.two .no (.two .no (.two (.two .no (.cut ⟨⟨[],[],[]⟩,[(.norm,⟨[],[],[.s 5 (.own 155 (.int .u64))]⟩)]⟩ (.two (.cut ⟨⟨[1,26,27],[],[.s 5 (.own 155 (.int .u64)),.s 28 (.dat (.int .i64))]⟩,[(.exit 0,⟨[],[],[.s 5 (.own 155 (.int .u64))]⟩)]⟩ (.two (.two .no (.two .no (.two (.two (.two .no (.two .no (.two (.two .no (.cut ⟨⟨[],[],[]⟩,[(.norm,⟨[1,6,26,27,28],[],[.s 5 (.own 155 (.int .u64)),.s 8 (.dat (.int .u64))]⟩)]⟩ (.two (.cut ⟨⟨[1,6,7,26,27,28,33,34],[],[.s 5 (.own 155 (.int .u64)),.s 8 (.dat (.int .u64)),.s 35 (.dat (.int .i64))]⟩,[(.exit 2,⟨[1,6,26,27,28],[],[.s 5 (.own 155 (.int .u64)),.s 8 (.dat (.int .u64))]⟩)]⟩ .no) .no))) .no))) .no) .no))) .no)) .no))) .no))))) Tryz.func51 (fun _ _=>by kernel_rfl) rfl fun v vals x z ha hz=>(times_i x.1 x.2).trans (ZKt hz)
end Go.Eng
set_option maxRecDepth 100000
set_option maxHeartbeats 4000000
namespace Go.Eng
open Go.Proofs Go.RowKit
noncomputable def Zph:FuncId×Con:=(49,⟨[.leaf 2,.leaf 0],[.leaf 2],fun p=>Zcf p.1 p.2⟩)
theorem Z0t (x:Int) (n:Nat):Zm ⟨Tryz.prog,[(31,0),(33,2),(35,3)],[ZHc,Zbb],[],[],[],[]⟩ [] Tryz.f49 .no [.leaf 2,.leaf 0] [.leaf 2] (x,n)=ZEn x n:=by kernel_rfl
theorem Zhp:Zk Tryz.prog Zph.1 Zph.2:=Zo (C:=⟨Tryz.prog,[(31,0),(33,2),(35,3)],[ZHc,Zbb],[],[],[],[]⟩) ⟨ZHh,Zaf,trivial⟩ trivial trivial trivial (inl:=[]) trivial (ann:=.no) Tryz.func49 (fun _ _=>by kernel_rfl) rfl fun v vals x z ha hz=>(Z0t x.1 x.2).trans (Zbs hz)
end Go.Eng
set_option maxRecDepth 100000
set_option maxHeartbeats 4000000
namespace Go.Eng
open Go.Proofs Go.RowKit
noncomputable def Z5f:FuncId×Con:=(55,⟨[.leaf 0,.leaf 0],[.int .i64],fun p=>Zld p.1 p.2⟩)
theorem cmp_i (a:(List Int)) (b:(List Int)):Zm ⟨Tryz.prog,[],[],[],[],[],[]⟩ [] Tryz.f55 (.two .no (.two .no (.two (.two .no (.cut ⟨⟨[],[],[]⟩,[(.norm,⟨[],[],[]⟩),(.ret,⟨[],[],[.s 0 (.dat (.int .i64))]⟩)]⟩ (.two (.cut ⟨⟨[0,1],[],[.s 5 (.dat (.int .i64))]⟩,[(.ret,⟨[],[],[.s 0 (.dat (.int .i64))]⟩),(.exit 0,⟨[],[],[]⟩)]⟩ .no) .no))) .no))) [.slice (.int .u64),.slice (.int .u64)] [.int .i64] (a,b)=ZMh a b:=by kernel_rfl
theorem cmp_k:Zk Tryz.prog Z5f.1 Z5f.2:=ZDl (C:=⟨Tryz.prog,[],[],[],[],[],[]⟩) trivial trivial trivial trivial (inl:=[]) trivial (ann:=.two .no (.two .no (.two (.two .no (.cut ⟨⟨[],[],[]⟩,[(.norm,⟨[],[],[]⟩),(.ret,⟨[],[],[.s 0 (.dat (.int .i64))]⟩)]⟩ (.two (.cut ⟨⟨[0,1],[],[.s 5 (.dat (.int .i64))]⟩,[(.ret,⟨[],[],[.s 0 (.dat (.int .i64))]⟩),(.exit 0,⟨[],[],[]⟩)]⟩ .no) .no))) .no))) (ats:=[.slice (.int .u64),.slice (.int .u64)]) (rts:=[.int .i64]) (fun x=>((Zc 18446744073709551616 x.1),(Zc 18446744073709551616 x.2))) (fun z=>z) (fun _ _ _ h=>h) (fun _ _ _ h=>h) Tryz.func55 (fun _ _=>by kernel_rfl) rfl fun v vals x z ha hz=>by obtain ⟨c0,w0,e0,p0,c1,e1,p1⟩:=ha;exact (cmp_i (Zc 18446744073709551616 x.1) (Zc 18446744073709551616 x.2)).trans ((Zyp (Zkj p0) (Zkj p1)).trans hz)
end Go.Eng
set_option maxRecDepth 100000
set_option maxHeartbeats 4000000
namespace Go.Eng
open Go.Proofs Go.RowKit
noncomputable def Z5g:FuncId×Con:=(98,⟨[.leaf 0,.leaf 0],[.leaf 0],fun p=>ZUf p.1 p.2⟩)
theorem plus_i (a:Nat) (b:Nat):Zm ⟨Tryz.prog,[(31,0)],[Z0g],[],[],[],[]⟩ [] Tryz.f98 (.two .no (.two (.two .no (.cut ⟨⟨[],[],[]⟩,[(.norm,⟨[],[],[.s 0 (.dat (.leaf 0)),.s 1 (.dat (.leaf 0))]⟩)]⟩ .no)) (.two .no (.two .no (.two (.two .no (.cut ⟨⟨[],[],[]⟩,[(.norm,⟨[],[],[.s 5 (.own 155 (.int .u64)),.s 6 (.dat (.int .u64))]⟩)]⟩ (.two (.cut ⟨⟨[1,23,24],[],[.s 5 (.own 155 (.int .u64)),.s 6 (.dat (.int .u64)),.s 25 (.dat (.int .i64))]⟩,[(.exit 0,⟨[],[],[.s 5 (.own 155 (.int .u64)),.s 6 (.dat (.int .u64))]⟩)]⟩ (.two (.two .no (.two .no (.two (.two (.two .no (.two .no (.two (.two .no (.cut ⟨⟨[],[],[]⟩,[(.norm,⟨[1,5,6,7,8,23,24,25],[],[.s 9 (.dat (.int .u64))]⟩)]⟩ .no)) .no))) .no) .no))) .no)) .no))) (.two (.two .no (.cut ⟨⟨[],[],[]⟩,[(.norm,⟨[],[],[.s 5 (.own 155 (.int .u64))]⟩)]⟩ .no)) .no)))))) [.leaf 0,.leaf 0] [.leaf 0] (a,b)=Zyj a b:=by kernel_rfl
theorem Zho:Zk Tryz.prog Z5g.1 Z5g.2:=Zo (C:=⟨Tryz.prog,[(31,0)],[Z0g],[],[],[],[]⟩) ⟨ZOq,trivial⟩ trivial trivial trivial (inl:=[]) trivial (ann:=.two .no (.two (.two .no (.cut ⟨⟨[],[],[]⟩,[(.norm,⟨[],[],[.s 0 (.dat (.leaf 0)),.s 1 (.dat (.leaf 0))]⟩)]⟩ .no)) (.two .no (.two .no (.two (.two .no (.cut ⟨⟨[],[],[]⟩,[(.norm,⟨[],[],[.s 5 (.own 155 (.int .u64)),.s 6 (.dat (.int .u64))]⟩)]⟩ (.two (.cut ⟨⟨[1,23,24],[],[.s 5 (.own 155 (.int .u64)),.s 6 (.dat (.int .u64)),.s 25 (.dat (.int .i64))]⟩,[(.exit 0,⟨[],[],[.s 5 (.own 155 (.int .u64)),.s 6 (.dat (.int .u64))]⟩)]⟩ (.two (.two .no (.two .no (.two (.two (.two .no (.two .no (.two (.two .no (.cut ⟨⟨[],[],[]⟩,[(.norm,⟨[1,5,6,7,8,23,24,25],[],[.s 9 (.dat (.int .u64))]⟩)]⟩ .no)) .no))) .no) .no))) .no)) .no))) (.two (.two .no (.cut ⟨⟨[],[],[]⟩,[(.norm,⟨[],[],[.s 5 (.own 155 (.int .u64))]⟩)]⟩ .no)) .no)))))) Tryz.func98 (fun _ _=>by kernel_rfl) rfl fun v vals x z ha hz=>(plus_i x.1 x.2).trans (Zvu hz)
end Go.Eng
set_option maxRecDepth 100000
set_option maxHeartbeats 4000000
namespace Go.Eng
open Go.Proofs Go.RowKit
noncomputable def Z5j:FuncId×Con:=(147,⟨[.int .u64,.int .u64,.int .u64],[.int .u64,.int .u64],fun p=>Z7c p.1 p.2.1 p.2.2⟩)
theorem sub64_k:Zk Tryz.prog Z5j.1 Z5j.2:=fun w v vals x z _ ha hz=>by
 obtain ⟨c0,w0,e0,p0,c1,w1,e1,p1,c2,e2,p2⟩:=ha
 subst e0 e1 e2
 obtain ⟨rfl,h0⟩:=p0
 obtain ⟨rfl,h1⟩:=p1
 obtain ⟨rfl,h2⟩:=p2
 have p0:(Zd .u64).rel v [.int .u64 x.1] x.1:=⟨rfl,h0⟩
 have p1:(Zd .u64).rel v [.int .u64 x.2.1] x.2.1:=⟨rfl,h1⟩
 exact .inr ⟨.tuple #[.int .u64 z.1,.int .u64 z.2],fun w=>Zxr (show ZEe Tryz.prog 147 Zbl from ⟨_,Tryz.func147,by kernel_rfl,by kernel_rfl,by kernel_rfl,by kernel_rfl⟩) p0.2 p1.2 hz w,_,rfl,_,_,rfl,⟨rfl,ZKp hz⟩,_,rfl,⟨rfl,Zjp hz⟩⟩
end Go.Eng
set_option maxRecDepth 100000
set_option maxHeartbeats 4000000
namespace Go.Eng
open Go.Proofs Go.RowKit
noncomputable def Zgl:FuncId×Con:=(99,⟨[.leaf 0,.leaf 0],[.leaf 0],fun p=>Zqh p.1 p.2⟩)
theorem minus_i (a:Nat) (b:Nat):Zm ⟨Tryz.prog,[(31,0)],[Zud,Z5j],[],[],[],[]⟩ [] Tryz.f99 (.two .no (.two .no (.two .no (.two (.two .no (.cut ⟨⟨[],[],[]⟩,[(.norm,⟨[],[],[.s 5 (.own 155 (.int .u64))]⟩)]⟩ (.two (.cut ⟨⟨[1,13,14],[],[.s 5 (.own 155 (.int .u64)),.s 6 (.dat (.int .u64)),.s 15 (.dat (.int .i64))]⟩,[(.exit 0,⟨[],[],[.s 5 (.own 155 (.int .u64))]⟩)]⟩ (.two (.two .no (.two .no (.two (.two (.two .no (.two .no (.two (.two .no (.cut ⟨⟨[],[],[]⟩,[(.norm,⟨[1,5,6,7,8,13,14,15],[],[.s 9 (.dat (.int .u64))]⟩)]⟩ .no)) .no))) .no) .no))) .no)) .no))) .no)))) [.leaf 0,.leaf 0] [.leaf 0] (a,b)=ZSi a b:=by kernel_rfl
theorem minus_k:Zk Tryz.prog Zgl.1 Zgl.2:=Zo (C:=⟨Tryz.prog,[(31,0)],[Zud,Z5j],[],[],[],[]⟩) ⟨ZYj,sub64_k,trivial⟩ trivial trivial trivial (inl:=[]) trivial (ann:=.two .no (.two .no (.two .no (.two (.two .no (.cut ⟨⟨[],[],[]⟩,[(.norm,⟨[],[],[.s 5 (.own 155 (.int .u64))]⟩)]⟩ (.two (.cut ⟨⟨[1,13,14],[],[.s 5 (.own 155 (.int .u64)),.s 6 (.dat (.int .u64)),.s 15 (.dat (.int .i64))]⟩,[(.exit 0,⟨[],[],[.s 5 (.own 155 (.int .u64))]⟩)]⟩ (.two (.two .no (.two .no (.two (.two (.two .no (.two .no (.two (.two .no (.cut ⟨⟨[],[],[]⟩,[(.norm,⟨[1,5,6,7,8,13,14,15],[],[.s 9 (.dat (.int .u64))]⟩)]⟩ .no)) .no))) .no) .no))) .no)) .no))) .no)))) Tryz.func99 (fun _ _=>by kernel_rfl) rfl fun v vals x z ha hz=>(minus_i x.1 x.2).trans (ZAt hz)
end Go.Eng
set_option maxRecDepth 100000
set_option maxHeartbeats 4000000
namespace Go.Eng
open Go.Proofs Go.RowKit
noncomputable def ZCl:FuncId×Con:=(50,⟨[.leaf 2,.leaf 2],[.leaf 2],fun p=>Zmi p.1 p.2⟩)
theorem iplus_i (x:Int) (y:Int):Zm ⟨Tryz.prog,[(31,0),(33,2),(35,3)],[Z5f,Zbb,Z5g,Zgl],[],[],[],[]⟩ [] Tryz.f50 .no [.leaf 2,.leaf 2] [.leaf 2] (x,y)=ZDn x y:=by kernel_rfl
theorem iplus_k:Zk Tryz.prog ZCl.1 ZCl.2:=Zo (C:=⟨Tryz.prog,[(31,0),(33,2),(35,3)],[Z5f,Zbb,Z5g,Zgl],[],[],[],[]⟩) ⟨cmp_k,Zaf,Zho,minus_k,trivial⟩ trivial trivial trivial (inl:=[]) trivial (ann:=.no) Tryz.func50 (fun _ _=>by kernel_rfl) rfl fun v vals x z ha hz=>(iplus_i x.1 x.2).trans (ZPs hz)
end Go.Eng
set_option maxRecDepth 100000
set_option maxHeartbeats 4000000
namespace Go.Eng
open Go.Proofs Go.RowKit
noncomputable def Z6b:FuncId×Con:=(12,⟨[.leaf 3,.leaf 3],[.leaf 3],fun p=>Zob p.1 p.2⟩)
theorem qadd_i (x:Rat) (y:Rat):Zm ⟨Tryz.prog,[(31,0),(33,2),(35,3)],[Zrd,ZJc,Zph,ZCl,ZHc],[],[],[],[]⟩ [] Tryz.f12 .no [.leaf 3,.leaf 3] [.leaf 3] (x,y)=Z9m x y:=by kernel_rfl
theorem Zmh:Zk Tryz.prog Z6b.1 Z6b.2:=Zo (C:=⟨Tryz.prog,[(31,0),(33,2),(35,3)],[Zrd,ZJc,Zph,ZCl,ZHc],[],[],[],[]⟩) ⟨ZNj,Zci,Zhp,iplus_k,ZHh,trivial⟩ trivial trivial trivial (inl:=[]) trivial (ann:=.no) Tryz.func12 (fun _ _=>by kernel_rfl) rfl fun v vals x z ha hz=>(qadd_i x.1 x.2).trans (ZAu hz)
end Go.Eng
set_option maxRecDepth 100000
set_option maxHeartbeats 4000000
namespace Go.Eng
open Go.Proofs Go.RowKit
noncomputable def Z6i:FuncId×Con:=(52,⟨[.leaf 2,.leaf 2],[.leaf 2],fun p=>ZKh p.1 p.2⟩)
theorem Zjt (x:Int) (y:Int):Zm ⟨Tryz.prog,[(31,0),(33,2),(35,3)],[ZHc,Zbb],[],[],[],[]⟩ [] Tryz.f52 .no [.leaf 2,.leaf 2] [.leaf 2] (x,y)=ZYn x y:=by kernel_rfl
theorem Zqu:Zk Tryz.prog Z6i.1 Z6i.2:=Zo (C:=⟨Tryz.prog,[(31,0),(33,2),(35,3)],[ZHc,Zbb],[],[],[],[]⟩) ⟨ZHh,Zaf,trivial⟩ trivial trivial trivial (inl:=[]) trivial (ann:=.no) Tryz.func52 (fun _ _=>by kernel_rfl) rfl fun v vals x z ha hz=>(Zjt x.1 x.2).trans (ZPt hz)
end Go.Eng
set_option maxRecDepth 100000
set_option maxHeartbeats 4000000
namespace Go.Eng
open Go.Proofs Go.RowKit
noncomputable def Z0b:FuncId×Con:=(13,⟨[.leaf 3,.leaf 3],[.leaf 3],fun p=>ZXa p.1 p.2⟩)
theorem qmul_i (x:Rat) (y:Rat):Zm ⟨Tryz.prog,[(31,0),(33,2),(35,3)],[Zrd,ZJc,ZHc,Z6i],[],[],[],[]⟩ [] Tryz.f13 .no [.leaf 3,.leaf 3] [.leaf 3] (x,y)=Z3l x y:=by kernel_rfl
theorem Zhh:Zk Tryz.prog Z0b.1 Z0b.2:=Zo (C:=⟨Tryz.prog,[(31,0),(33,2),(35,3)],[Zrd,ZJc,ZHc,Z6i],[],[],[],[]⟩) ⟨ZNj,Zci,ZHh,Zqu,trivial⟩ trivial trivial trivial (inl:=[]) trivial (ann:=.no) Tryz.func13 (fun _ _=>by kernel_rfl) rfl fun v vals x z ha hz=>(qmul_i x.1 x.2).trans (ZXt hz)
end Go.Eng
set_option maxRecDepth 100000
set_option maxHeartbeats 4000000
namespace Go.Eng
open Go.Proofs Go.RowKit
noncomputable def Zkk:FuncId×Con:=(103,⟨[.leaf 2],[.leaf 2],fun p=>ZYh p⟩)
theorem ZYt (x:Int):Zm ⟨Tryz.prog,[(31,0),(33,2),(35,3)],[Zbb],[],[],[],[]⟩ [] Tryz.f103 .no [.leaf 2] [.leaf 2] (x)=ZOl x:=by kernel_rfl
theorem Z6s:Zk Tryz.prog Zkk.1 Zkk.2:=Zo (C:=⟨Tryz.prog,[(31,0),(33,2),(35,3)],[Zbb],[],[],[],[]⟩) ⟨Zaf,trivial⟩ trivial trivial trivial (inl:=[]) trivial (ann:=.no) Tryz.func103 (fun _ _=>by kernel_rfl) rfl fun v vals x z ha hz=>(ZYt x).trans (ZRu hz)
end Go.Eng
set_option maxRecDepth 100000
set_option maxHeartbeats 4000000
namespace Go.Eng
open Go.Proofs Go.RowKit
noncomputable def Zyg:FuncId×Con:=(53,⟨[.leaf 3],[.leaf 3],fun p=>ZQf p⟩)
theorem qneg_i (x:Rat):Zm ⟨Tryz.prog,[(31,0),(33,2),(35,3)],[Zkk],[],[],[],[]⟩ [] Tryz.f53 .no [.leaf 3] [.leaf 3] (x)=Zvn x:=by kernel_rfl
theorem ZUq:Zk Tryz.prog Zyg.1 Zyg.2:=Zo (C:=⟨Tryz.prog,[(31,0),(33,2),(35,3)],[Zkk],[],[],[],[]⟩) ⟨Z6s,trivial⟩ trivial trivial trivial (inl:=[]) trivial (ann:=.no) Tryz.func53 (fun _ _=>by kernel_rfl) rfl fun v vals x z ha hz=>(qneg_i x).trans (Zvs hz)
end Go.Eng
set_option maxRecDepth 100000
set_option maxHeartbeats 4000000
namespace Go.Eng
open Go.Proofs Go.RowKit
noncomputable def Z1b:FuncId×Con:=(14,⟨[.leaf 3,.leaf 3],[.leaf 3],fun p=>ZSb p.1 p.2⟩)
theorem qsub_i (x:Rat) (y:Rat):Zm ⟨Tryz.prog,[(31,0),(33,2),(35,3)],[Z6b,Zyg],[],[],[],[]⟩ [] Tryz.f14 .no [.leaf 3,.leaf 3] [.leaf 3] (x,y)=Zxn x y:=by kernel_rfl
theorem ZLg:Zk Tryz.prog Z1b.1 Z1b.2:=Zo (C:=⟨Tryz.prog,[(31,0),(33,2),(35,3)],[Z6b,Zyg],[],[],[],[]⟩) ⟨Zmh,ZUq,trivial⟩ trivial trivial trivial (inl:=[]) trivial (ann:=.no) Tryz.func14 (fun _ _=>by kernel_rfl) rfl fun v vals x z ha hz=>(qsub_i x.1 x.2).trans (ZWs hz)
end Go.Eng
set_option maxRecDepth 100000
set_option maxHeartbeats 4000000
namespace Go.Eng
open Go.Proofs Go.RowKit
noncomputable def ZKd:FuncId×Con:=(37,⟨[.int .i64],[.leaf 3],fun p=>Zgc p⟩)
theorem ZFv (n:Int):Zm ⟨Tryz.prog,[(31,0),(33,2),(35,3),(39,1),(41,4)],[ZDc],[],[],[],[]⟩ [] Tryz.f37 .no [.int .i64] [.leaf 3] (n)=Zgc n:=by kernel_rfl
theorem ZSj:Zk Tryz.prog ZKd.1 ZKd.2:=Zo (C:=⟨Tryz.prog,[(31,0),(33,2),(35,3),(39,1),(41,4)],[ZDc],[],[],[],[]⟩) ⟨Zyi,trivial⟩ trivial trivial trivial (inl:=[]) trivial (ann:=.no) Tryz.func37 (fun _ _=>by kernel_rfl) rfl fun v vals x z ha hz=>(ZFv x).trans (hz)
end Go.Eng
set_option maxRecDepth 100000
set_option maxHeartbeats 4000000
namespace Go.Eng
open Go.Proofs Go.RowKit
noncomputable def ZCk:FuncId×Con:=(194,⟨[.leaf 2],[.int .i64],fun p=>Zii p⟩)
theorem isign_i (x:Int):Zm ⟨Tryz.prog,[(31,0),(33,2),(35,3)],[],[],[],[],[]⟩ [] Tryz.f194 .no [.leaf 2] [.int .i64] (x)=Zhn x:=by kernel_rfl
theorem isign_k:Zk Tryz.prog ZCk.1 ZCk.2:=Zo (C:=⟨Tryz.prog,[(31,0),(33,2),(35,3)],[],[],[],[],[]⟩) trivial trivial trivial trivial (inl:=[]) trivial (ann:=.no) Tryz.func194 (fun _ _=>by kernel_rfl) rfl fun v vals x z ha hz=>(isign_i x).trans (ZQv hz)
end Go.Eng
set_option maxRecDepth 100000
set_option maxHeartbeats 4000000
namespace Go.Eng
open Go.Proofs Go.RowKit
noncomputable def Z0e:FuncId×Con:=(166,⟨[.leaf 3],[.int .i64],fun p=>ZCe p⟩)
theorem qsign_i (x:Rat):Zm ⟨Tryz.prog,[(31,0),(33,2),(35,3)],[ZCk],[],[],[],[]⟩ [] Tryz.f166 .no [.leaf 3] [.int .i64] (x)=ZLn x:=by kernel_rfl
theorem Z7l:Zk Tryz.prog Z0e.1 Z0e.2:=Zo (C:=⟨Tryz.prog,[(31,0),(33,2),(35,3)],[ZCk],[],[],[],[]⟩) ⟨isign_k,trivial⟩ trivial trivial trivial (inl:=[]) trivial (ann:=.no) Tryz.func166 (fun _ _=>by kernel_rfl) rfl fun v vals x z ha hz=>(qsign_i x).trans (ZHv hz)
end Go.Eng
set_option maxRecDepth 100000
set_option maxHeartbeats 4000000
namespace Go.Eng
open Go.Proofs Go.RowKit
noncomputable def Zjj:FuncId×Con:=(165,⟨[.leaf 3],[.bool],fun p=>ZJl p⟩)
theorem ZJu (x:Rat):Zm ⟨Tryz.prog,[(31,0),(33,2),(35,3),(39,1),(41,4)],[Z0e],[],[],[],[]⟩ [] Tryz.f165 .no [.leaf 3] [.bool] (x)=ZJl x:=by kernel_rfl
theorem Zgs:Zk Tryz.prog Zjj.1 Zjj.2:=Zo (C:=⟨Tryz.prog,[(31,0),(33,2),(35,3),(39,1),(41,4)],[Z0e],[],[],[],[]⟩) ⟨Z7l,trivial⟩ trivial trivial trivial (inl:=[]) trivial (ann:=.no) Tryz.func165 (fun _ _=>by kernel_rfl) rfl fun v vals x z ha hz=>(ZJu x).trans (hz)
end Go.Eng
set_option maxRecDepth 100000
set_option maxHeartbeats 4000000
namespace Go.Eng
open Go.Proofs Go.RowKit
noncomputable def ZGg:FuncId×Con:=(117,⟨[.slice (.leaf 3)],[.bool],fun p=>Zcl p⟩)
theorem above_i (l:(List Rat)):Zm ⟨Tryz.prog,[(31,0),(33,2),(35,3),(39,1),(41,4)],[Zjj],[],[],[],[]⟩ [(164,Tryz.f164,.cut ⟨⟨[],[],[]⟩,[(.ret,⟨[],[],[.s 0 (.dat .bool)]⟩)]⟩ .no),(123,Tryz.f123,.cut ⟨⟨[],[],[]⟩,[(.ret,⟨[],[],[.s 0 (.dat (.int .i64))]⟩)]⟩ (.two .no (.two (.two .no (.cut ⟨⟨[],[],[]⟩,[(.norm,⟨[],[],[]⟩),(.ret,⟨[],[],[.s 0 (.dat (.int .i64))]⟩)]⟩ (.two (.cut ⟨⟨[0,1,7],[],[.s 8 (.dat (.int .i64))]⟩,[(.ret,⟨[],[],[.s 0 (.dat (.int .i64))]⟩),(.exit 0,⟨[],[],[]⟩)]⟩ .no) .no))) .no)))] Tryz.f117 .no [.slice (.leaf 3)] [.bool] (l)=Zcl l:=by kernel_rfl
theorem ZFq:Zk Tryz.prog ZGg.1 ZGg.2:=Zo (C:=⟨Tryz.prog,[(31,0),(33,2),(35,3),(39,1),(41,4)],[Zjj],[],[],[],[]⟩) ⟨Zgs,trivial⟩ trivial trivial trivial (inl:=[(164,Tryz.f164,.cut ⟨⟨[],[],[]⟩,[(.ret,⟨[],[],[.s 0 (.dat .bool)]⟩)]⟩ .no),(123,Tryz.f123,.cut ⟨⟨[],[],[]⟩,[(.ret,⟨[],[],[.s 0 (.dat (.int .i64))]⟩)]⟩ (.two .no (.two (.two .no (.cut ⟨⟨[],[],[]⟩,[(.norm,⟨[],[],[]⟩),(.ret,⟨[],[],[.s 0 (.dat (.int .i64))]⟩)]⟩ (.two (.cut ⟨⟨[0,1,7],[],[.s 8 (.dat (.int .i64))]⟩,[(.ret,⟨[],[],[.s 0 (.dat (.int .i64))]⟩),(.exit 0,⟨[],[],[]⟩)]⟩ .no) .no))) .no)))]) ⟨⟨Tryz.func164,fun _ _=>by kernel_rfl⟩,⟨Tryz.func123,fun _ _=>by kernel_rfl⟩,trivial⟩ (ann:=.no) Tryz.func117 (fun _ _=>by kernel_rfl) rfl fun v vals x z ha hz=>(above_i x).trans (hz)
end Go.Eng
set_option maxRecDepth 100000
set_option maxHeartbeats 4000000
namespace Go.Eng
open Go.Proofs Go.RowKit
noncomputable def Zrj:FuncId×Con:=(69,⟨[.pair (.leaf 3) (.pair (.leaf 3) (.leaf 3))],[.bool],fun p=>ZWm p⟩)
theorem valid_i (d:(Rat×Rat×Rat)):Zm ⟨Tryz.prog,[(31,0),(33,2),(35,3),(39,1),(41,4)],[ZGg],[],[],[],[]⟩ [] Tryz.f69 .no [.pair (.leaf 3) (.pair (.leaf 3) (.leaf 3))] [.bool] (d)=ZWm d:=by kernel_rfl
theorem valid_k:Zk Tryz.prog Zrj.1 Zrj.2:=Zo (C:=⟨Tryz.prog,[(31,0),(33,2),(35,3),(39,1),(41,4)],[ZGg],[],[],[],[]⟩) ⟨ZFq,trivial⟩ trivial trivial trivial (inl:=[]) trivial (ann:=.no) Tryz.func69 (fun _ _=>by kernel_rfl) rfl fun v vals x z ha hz=>(valid_i x).trans (hz)
end Go.Eng
set_option maxRecDepth 100000
set_option maxHeartbeats 4000000
namespace Go.Eng
open Go.Proofs Go.RowKit
noncomputable def ZUe:FuncId×Con:=(16,⟨[.leaf 3],[.bool],fun p=>Zbd p⟩)
theorem qzero_i (x:Rat):Zm ⟨Tryz.prog,[(31,0),(33,2),(35,3)],[],[],[],[],[]⟩ [] Tryz.f16 .no [.leaf 3] [.bool] (x)=Z1n x:=by kernel_rfl
theorem Z9l:Zk Tryz.prog ZUe.1 ZUe.2:=Zo (C:=⟨Tryz.prog,[(31,0),(33,2),(35,3)],[],[],[],[],[]⟩) trivial trivial trivial trivial (inl:=[]) trivial (ann:=.no) Tryz.func16 (fun _ _=>by kernel_rfl) rfl fun v vals x z ha hz=>(qzero_i x).trans (ZSu hz)
end Go.Eng
set_option maxRecDepth 100000
set_option maxHeartbeats 4000000
namespace Go.Eng
open Go.Proofs Go.RowKit
noncomputable def ZOd:FuncId×Con:=(118,⟨[.leaf 3,.leaf 3],[.leaf 3,.int .i64],fun p=>Z2c p.1 p.2⟩)
theorem qdiv_i (x:Rat) (y:Rat):Zm ⟨Tryz.prog,[(31,0),(33,2),(35,3)],[ZUe,Zrd,ZJc,Zph,ZHc,Zbb],[],[],[],[]⟩ [] Tryz.f118 (.two .no (.two .no (.two (.cut ⟨⟨[],[],[]⟩,[(.norm,⟨[2,3,4],[],[.s 6 (.box 33 (.dat (.leaf 2)))]⟩)]⟩ .no) .no))) [.leaf 3,.leaf 3] [.leaf 3,.int .i64] (x,y)=ZWn x y:=by kernel_rfl
theorem ZRj:Zk Tryz.prog ZOd.1 ZOd.2:=Zo (C:=⟨Tryz.prog,[(31,0),(33,2),(35,3)],[ZUe,Zrd,ZJc,Zph,ZHc,Zbb],[],[],[],[]⟩) ⟨Z9l,ZNj,Zci,Zhp,ZHh,Zaf,trivial⟩ trivial trivial trivial (inl:=[]) trivial (ann:=.two .no (.two .no (.two (.cut ⟨⟨[],[],[]⟩,[(.norm,⟨[2,3,4],[],[.s 6 (.box 33 (.dat (.leaf 2)))]⟩)]⟩ .no) .no))) Tryz.func118 (fun _ _=>by kernel_rfl) rfl fun v vals x z ha hz=>(qdiv_i x.1 x.2).trans (Znt hz)
end Go.Eng
set_option maxRecDepth 100000
set_option maxHeartbeats 4000000
namespace Go.Eng
open Go.Proofs Go.RowKit
noncomputable def Zkh:FuncId×Con:=(70,⟨[.leaf 3,.leaf 3],[.leaf 3],fun p=>Zji p.1 p.2⟩)
theorem tby_i (x:Rat) (y:Rat):Zm ⟨Tryz.prog,[(31,0),(33,2),(35,3),(39,1),(41,4)],[ZOd],[],[],[],[]⟩ [] Tryz.f70 .no [.leaf 3,.leaf 3] [.leaf 3] (x,y)=Zji x y:=by kernel_rfl
theorem tby_k:Zk Tryz.prog Zkh.1 Zkh.2:=Zo (C:=⟨Tryz.prog,[(31,0),(33,2),(35,3),(39,1),(41,4)],[ZOd],[],[],[],[]⟩) ⟨ZRj,trivial⟩ trivial trivial trivial (inl:=[]) trivial (ann:=.no) Tryz.func70 (fun _ _=>by kernel_rfl) rfl fun v vals x z ha hz=>(tby_i x.1 x.2).trans (hz)
end Go.Eng
set_option maxRecDepth 100000
set_option maxHeartbeats 4000000
namespace Go.Eng
open Go.Proofs Go.RowKit
noncomputable def ZYk:FuncId×Con:=(30,⟨[.pair (.leaf 3) (.pair (.leaf 3) (.leaf 3)),.leaf 3,.leaf 3],[.leaf 3,.int .i64],fun p=>ZCn p.1 p.2.1 p.2.2⟩)
theorem force_i (d:(Rat×Rat×Rat)) (x:Rat) (y:Rat):Zm ⟨Tryz.prog,[(31,0),(33,2),(35,3),(39,1),(41,4)],[Z6b,Z0b,Z1b,ZKd,Zrj,Zkh],[],[],[],[]⟩ [] Tryz.f30 .no [.pair (.leaf 3) (.pair (.leaf 3) (.leaf 3)),.leaf 3,.leaf 3] [.leaf 3,.int .i64] (d,x,y)=ZCn d x y:=by kernel_rfl
theorem force_k:Zk Tryz.prog ZYk.1 ZYk.2:=Zo (C:=⟨Tryz.prog,[(31,0),(33,2),(35,3),(39,1),(41,4)],[Z6b,Z0b,Z1b,ZKd,Zrj,Zkh],[],[],[],[]⟩) ⟨Zmh,Zhh,ZLg,ZSj,valid_k,tby_k,trivial⟩ trivial trivial trivial (inl:=[]) trivial (ann:=.no) Tryz.func30 (fun _ _=>by kernel_rfl) rfl fun v vals x z ha hz=>(force_i x.1 x.2.1 x.2.2).trans (hz)
end Go.Eng
set_option maxRecDepth 100000
set_option maxHeartbeats 4000000
namespace Go.Eng
open Go.Proofs Go.RowKit
noncomputable def Z1i:FuncId×Con:=(73,⟨[.int .i64,.int .i64],[.leaf 3],fun p=>ZSk p.1 p.2⟩)
theorem tsame_i (i:Int) (k:Int):Zm ⟨Tryz.prog,[(31,0),(33,2),(35,3),(39,1),(41,4)],[ZKd],[],[],[],[]⟩ [] Tryz.f73 .no [.int .i64,.int .i64] [.leaf 3] (i,k)=ZSk i k:=by kernel_rfl
theorem tsame_k:Zk Tryz.prog Z1i.1 Z1i.2:=Zo (C:=⟨Tryz.prog,[(31,0),(33,2),(35,3),(39,1),(41,4)],[ZKd],[],[],[],[]⟩) ⟨ZSj,trivial⟩ trivial trivial trivial (inl:=[]) trivial (ann:=.no) Tryz.func73 (fun _ _=>by kernel_rfl) rfl fun v vals x z ha hz=>(tsame_i x.1 x.2).trans (hz)
end Go.Eng
set_option maxRecDepth 100000
set_option maxHeartbeats 4000000
namespace Go.Eng
open Go.Proofs Go.RowKit
noncomputable def Zyk:FuncId×Con:=(119,⟨[.slice (.slice (.int .i64))],[.int .i64,.int .i64],fun p=>Z4m p⟩)
theorem table_i (t:(List (List Int))):Zm ⟨Tryz.prog,[(31,0),(33,2),(35,3),(39,1),(41,4)],[],[],[],[],[]⟩ [(167,Tryz.f167,.cut ⟨⟨[],[],[]⟩,[(.ret,⟨[],[],[.s 0 (.dat .bool)]⟩)]⟩ .no),(168,Tryz.f168,.cut ⟨⟨[],[],[]⟩,[(.ret,⟨[],[],[.s 0 (.dat .bool)]⟩)]⟩ .no),(195,Tryz.f195,.cut ⟨⟨[],[],[]⟩,[(.ret,⟨[],[],[.s 0 (.dat (.int .i64))]⟩)]⟩ (.two .no (.two (.two .no (.cut ⟨⟨[],[],[]⟩,[(.norm,⟨[],[],[]⟩),(.ret,⟨[],[],[.s 0 (.dat (.int .i64))]⟩)]⟩ (.two (.cut ⟨⟨[0,1,7],[],[.s 8 (.dat (.int .i64))]⟩,[(.ret,⟨[],[],[.s 0 (.dat (.int .i64))]⟩),(.exit 0,⟨[],[],[]⟩)]⟩ .no) .no))) .no)))] Tryz.f119 (.two .no (.two (.two (.cut ⟨⟨[],[],[]⟩,[(.norm,⟨[],[],[.s 1 (.box 95 (.dat (.slice (.slice (.int .i64))))),.s 21 (.dat .bool)]⟩)]⟩ .no) .no) (.two .no (.two (.two .no (.cut ⟨⟨[],[],[]⟩,[(.norm,⟨[],[],[.s 4 (.dat (.int .i64))]⟩),(.ret,⟨[],[],[.s 0 (.dat (.int .i64)),.s 0 (.dat (.int .i64))]⟩)]⟩ (.two (.cut ⟨⟨[22,23],[],[.s 4 (.dat (.int .i64)),.s 24 (.dat (.int .i64))]⟩,[(.ret,⟨[],[],[.s 0 (.dat (.int .i64)),.s 0 (.dat (.int .i64))]⟩),(.exit 0,⟨[],[],[.s 4 (.dat (.int .i64))]⟩)]⟩ (.two (.two .no (.two .no (.two (.two (.two .no (.two .no (.cut ⟨⟨[],[],[]⟩,[(.norm,⟨[22,23,24],[],[.s 4 (.dat (.int .i64))]⟩),(.ret,⟨[],[],[.s 0 (.dat (.int .i64)),.s 0 (.dat (.int .i64))]⟩)]⟩ (.two (.cut ⟨⟨[22,23,24,28,29],[],[.s 4 (.dat (.int .i64)),.s 30 (.dat (.int .i64))]⟩,[(.ret,⟨[],[],[.s 0 (.dat (.int .i64)),.s 0 (.dat (.int .i64))]⟩),(.exit 2,⟨[22,23,24],[],[.s 4 (.dat (.int .i64))]⟩)]⟩ (.two (.two .no (.two .no (.two (.two (.two .no (.two (.two (.cut ⟨⟨[],[],[]⟩,[(.norm,⟨[4,8,22,23,24,28,29,30],[],[.s 39 (.dat .bool)]⟩)]⟩ .no) .no) .no)) .no) .no))) .no)) .no)))) .no) .no))) .no)) .no))) .no)))) [.slice (.slice (.int .i64))] [.int .i64,.int .i64] (t)=Z4m t:=by kernel_rfl
theorem table_k:Zk Tryz.prog Zyk.1 Zyk.2:=Zo (C:=⟨Tryz.prog,[(31,0),(33,2),(35,3),(39,1),(41,4)],[],[],[],[],[]⟩) trivial trivial trivial trivial (inl:=[(167,Tryz.f167,.cut ⟨⟨[],[],[]⟩,[(.ret,⟨[],[],[.s 0 (.dat .bool)]⟩)]⟩ .no),(168,Tryz.f168,.cut ⟨⟨[],[],[]⟩,[(.ret,⟨[],[],[.s 0 (.dat .bool)]⟩)]⟩ .no),(195,Tryz.f195,.cut ⟨⟨[],[],[]⟩,[(.ret,⟨[],[],[.s 0 (.dat (.int .i64))]⟩)]⟩ (.two .no (.two (.two .no (.cut ⟨⟨[],[],[]⟩,[(.norm,⟨[],[],[]⟩),(.ret,⟨[],[],[.s 0 (.dat (.int .i64))]⟩)]⟩ (.two (.cut ⟨⟨[0,1,7],[],[.s 8 (.dat (.int .i64))]⟩,[(.ret,⟨[],[],[.s 0 (.dat (.int .i64))]⟩),(.exit 0,⟨[],[],[]⟩)]⟩ .no) .no))) .no)))]) ⟨⟨Tryz.func167,fun _ _=>by kernel_rfl⟩,⟨Tryz.func168,fun _ _=>by kernel_rfl⟩,⟨Tryz.func195,fun _ _=>by kernel_rfl⟩,trivial⟩ (ann:=.two .no (.two (.two (.cut ⟨⟨[],[],[]⟩,[(.norm,⟨[],[],[.s 1 (.box 95 (.dat (.slice (.slice (.int .i64))))),.s 21 (.dat .bool)]⟩)]⟩ .no) .no) (.two .no (.two (.two .no (.cut ⟨⟨[],[],[]⟩,[(.norm,⟨[],[],[.s 4 (.dat (.int .i64))]⟩),(.ret,⟨[],[],[.s 0 (.dat (.int .i64)),.s 0 (.dat (.int .i64))]⟩)]⟩ (.two (.cut ⟨⟨[22,23],[],[.s 4 (.dat (.int .i64)),.s 24 (.dat (.int .i64))]⟩,[(.ret,⟨[],[],[.s 0 (.dat (.int .i64)),.s 0 (.dat (.int .i64))]⟩),(.exit 0,⟨[],[],[.s 4 (.dat (.int .i64))]⟩)]⟩ (.two (.two .no (.two .no (.two (.two (.two .no (.two .no (.cut ⟨⟨[],[],[]⟩,[(.norm,⟨[22,23,24],[],[.s 4 (.dat (.int .i64))]⟩),(.ret,⟨[],[],[.s 0 (.dat (.int .i64)),.s 0 (.dat (.int .i64))]⟩)]⟩ (.two (.cut ⟨⟨[22,23,24,28,29],[],[.s 4 (.dat (.int .i64)),.s 30 (.dat (.int .i64))]⟩,[(.ret,⟨[],[],[.s 0 (.dat (.int .i64)),.s 0 (.dat (.int .i64))]⟩),(.exit 2,⟨[22,23,24],[],[.s 4 (.dat (.int .i64))]⟩)]⟩ (.two (.two .no (.two .no (.two (.two (.two .no (.two (.two (.cut ⟨⟨[],[],[]⟩,[(.norm,⟨[4,8,22,23,24,28,29,30],[],[.s 39 (.dat .bool)]⟩)]⟩ .no) .no) .no)) .no) .no))) .no)) .no)))) .no) .no))) .no)) .no))) .no)))) Tryz.func119 (fun _ _=>by kernel_rfl) rfl fun v vals x z ha hz=>(table_i x).trans (hz)
end Go.Eng
set_option maxRecDepth 100000
set_option maxHeartbeats 4000000
namespace Go.Eng
open Go.Proofs Go.RowKit
noncomputable def Z9i:FuncId×Con:=(32,⟨[.slice (.slice (.int .i64))],[.leaf 3,.int .i64],fun p=>Zfn p⟩)
theorem kappa_i (t:(List (List Int))):Zm ⟨Tryz.prog,[(31,0),(33,2),(35,3),(39,1),(41,4)],[Z1i,Z1b,ZKd,ZOd,Zyk,Z6b,Z0b,Zkh],[],[],[],[]⟩ [(72,Tryz.f72,.cut ⟨⟨[],[],[]⟩,[(.ret,⟨[],[],[.s 0 (.dat (.leaf 3)),.s 0 (.dat (.int .i64))]⟩)]⟩ (.two .no (.two .no (.two .no (.two .no (.two (.cut ⟨⟨[],[],[]⟩,[(.norm,⟨[4],[],[.s 7 (.dat (.int .i64)),.s 10 (.box 35 (.dat (.leaf 3)))]⟩)]⟩ .no) .no)))))),(120,Tryz.f120,.cut ⟨⟨[],[],[]⟩,[(.ret,⟨[],[],[.s 0 (.dat (.leaf 3)),.s 0 (.dat (.leaf 3))]⟩)]⟩ (.two .no (.two (.cut ⟨⟨[],[],[]⟩,[(.norm,⟨[0,1,2,6,7],[],[.s 8 (.own 3 (.int .i64)),.s 9 (.own 3 (.int .i64))]⟩)]⟩ .no) (.two (.two .no (.cut ⟨⟨[],[],[]⟩,[(.norm,⟨[0,1,2,6,7],[],[.s 8 (.own 3 (.int .i64)),.s 9 (.own 3 (.int .i64))]⟩)]⟩ (.two (.cut ⟨⟨[0,1,2,6,7,24,25],[],[.s 8 (.own 3 (.int .i64)),.s 9 (.own 3 (.int .i64)),.s 26 (.dat (.int .i64))]⟩,[(.exit 0,⟨[0,1,2,6,7],[],[.s 8 (.own 3 (.int .i64)),.s 9 (.own 3 (.int .i64))]⟩)]⟩ (.two (.two .no (.two .no (.two (.two (.two .no (.two .no (.cut ⟨⟨[],[],[]⟩,[(.norm,⟨[0,1,2,6,7,24,25,26],[],[.s 8 (.own 3 (.int .i64)),.s 9 (.own 3 (.int .i64))]⟩)]⟩ (.two (.cut ⟨⟨[0,1,2,6,7,10,24,25,26,31,32],[],[.s 8 (.own 3 (.int .i64)),.s 9 (.own 3 (.int .i64)),.s 33 (.dat (.int .i64))]⟩,[(.exit 2,⟨[0,1,2,6,7,24,25,26],[],[.s 8 (.own 3 (.int .i64)),.s 9 (.own 3 (.int .i64))]⟩)]⟩ .no) .no)))) .no) .no))) .no)) .no))) (.two (.two .no (.cut ⟨⟨[],[],[]⟩,[(.norm,⟨[1,6,7],[],[.l (.sl 6) (.box 35 (.dat (.leaf 3))),.l (.sl 7) (.box 35 (.dat (.leaf 3)))]⟩)]⟩ (.two (.cut ⟨⟨[1,2,6,7,8,9,54,55],[],[.l (.sl 6) (.box 35 (.dat (.leaf 3))),.l (.sl 7) (.box 35 (.dat (.leaf 3))),.s 56 (.dat (.int .i64))]⟩,[(.exit 4,⟨[1,6,7],[],[.l (.sl 6) (.box 35 (.dat (.leaf 3))),.l (.sl 7) (.box 35 (.dat (.leaf 3)))]⟩)]⟩ (.two (.two .no (.two .no (.two (.two (.two .no (.two .no (.cut ⟨⟨[],[],[]⟩,[(.norm,⟨[1,2,6,7,8,9,54,55,56],[],[.l (.sl 6) (.box 35 (.dat (.leaf 3))),.l (.sl 7) (.box 35 (.dat (.leaf 3)))]⟩)]⟩ (.two (.cut ⟨⟨[1,2,6,7,8,9,14,54,55,56,61,62],[],[.l (.sl 6) (.box 35 (.dat (.leaf 3))),.l (.sl 7) (.box 35 (.dat (.leaf 3))),.s 63 (.dat (.int .i64))]⟩,[(.exit 6,⟨[1,2,6,7,8,9,54,55,56],[],[.l (.sl 6) (.box 35 (.dat (.leaf 3))),.l (.sl 7) (.box 35 (.dat (.leaf 3)))]⟩)]⟩ .no) .no)))) .no) .no))) .no)) .no))) .no)))))] Tryz.f32 .no [.slice (.slice (.int .i64))] [.leaf 3,.int .i64] (t)=Zfn t:=by kernel_rfl
theorem kappa_k:Zk Tryz.prog Z9i.1 Z9i.2:=Zo (C:=⟨Tryz.prog,[(31,0),(33,2),(35,3),(39,1),(41,4)],[Z1i,Z1b,ZKd,ZOd,Zyk,Z6b,Z0b,Zkh],[],[],[],[]⟩) ⟨tsame_k,ZLg,ZSj,ZRj,table_k,Zmh,Zhh,tby_k,trivial⟩ trivial trivial trivial (inl:=[(72,Tryz.f72,.cut ⟨⟨[],[],[]⟩,[(.ret,⟨[],[],[.s 0 (.dat (.leaf 3)),.s 0 (.dat (.int .i64))]⟩)]⟩ (.two .no (.two .no (.two .no (.two .no (.two (.cut ⟨⟨[],[],[]⟩,[(.norm,⟨[4],[],[.s 7 (.dat (.int .i64)),.s 10 (.box 35 (.dat (.leaf 3)))]⟩)]⟩ .no) .no)))))),(120,Tryz.f120,.cut ⟨⟨[],[],[]⟩,[(.ret,⟨[],[],[.s 0 (.dat (.leaf 3)),.s 0 (.dat (.leaf 3))]⟩)]⟩ (.two .no (.two (.cut ⟨⟨[],[],[]⟩,[(.norm,⟨[0,1,2,6,7],[],[.s 8 (.own 3 (.int .i64)),.s 9 (.own 3 (.int .i64))]⟩)]⟩ .no) (.two (.two .no (.cut ⟨⟨[],[],[]⟩,[(.norm,⟨[0,1,2,6,7],[],[.s 8 (.own 3 (.int .i64)),.s 9 (.own 3 (.int .i64))]⟩)]⟩ (.two (.cut ⟨⟨[0,1,2,6,7,24,25],[],[.s 8 (.own 3 (.int .i64)),.s 9 (.own 3 (.int .i64)),.s 26 (.dat (.int .i64))]⟩,[(.exit 0,⟨[0,1,2,6,7],[],[.s 8 (.own 3 (.int .i64)),.s 9 (.own 3 (.int .i64))]⟩)]⟩ (.two (.two .no (.two .no (.two (.two (.two .no (.two .no (.cut ⟨⟨[],[],[]⟩,[(.norm,⟨[0,1,2,6,7,24,25,26],[],[.s 8 (.own 3 (.int .i64)),.s 9 (.own 3 (.int .i64))]⟩)]⟩ (.two (.cut ⟨⟨[0,1,2,6,7,10,24,25,26,31,32],[],[.s 8 (.own 3 (.int .i64)),.s 9 (.own 3 (.int .i64)),.s 33 (.dat (.int .i64))]⟩,[(.exit 2,⟨[0,1,2,6,7,24,25,26],[],[.s 8 (.own 3 (.int .i64)),.s 9 (.own 3 (.int .i64))]⟩)]⟩ .no) .no)))) .no) .no))) .no)) .no))) (.two (.two .no (.cut ⟨⟨[],[],[]⟩,[(.norm,⟨[1,6,7],[],[.l (.sl 6) (.box 35 (.dat (.leaf 3))),.l (.sl 7) (.box 35 (.dat (.leaf 3)))]⟩)]⟩ (.two (.cut ⟨⟨[1,2,6,7,8,9,54,55],[],[.l (.sl 6) (.box 35 (.dat (.leaf 3))),.l (.sl 7) (.box 35 (.dat (.leaf 3))),.s 56 (.dat (.int .i64))]⟩,[(.exit 4,⟨[1,6,7],[],[.l (.sl 6) (.box 35 (.dat (.leaf 3))),.l (.sl 7) (.box 35 (.dat (.leaf 3)))]⟩)]⟩ (.two (.two .no (.two .no (.two (.two (.two .no (.two .no (.cut ⟨⟨[],[],[]⟩,[(.norm,⟨[1,2,6,7,8,9,54,55,56],[],[.l (.sl 6) (.box 35 (.dat (.leaf 3))),.l (.sl 7) (.box 35 (.dat (.leaf 3)))]⟩)]⟩ (.two (.cut ⟨⟨[1,2,6,7,8,9,14,54,55,56,61,62],[],[.l (.sl 6) (.box 35 (.dat (.leaf 3))),.l (.sl 7) (.box 35 (.dat (.leaf 3))),.s 63 (.dat (.int .i64))]⟩,[(.exit 6,⟨[1,2,6,7,8,9,54,55,56],[],[.l (.sl 6) (.box 35 (.dat (.leaf 3))),.l (.sl 7) (.box 35 (.dat (.leaf 3)))]⟩)]⟩ .no) .no)))) .no) .no))) .no)) .no))) .no)))))]) ⟨⟨Tryz.func72,fun _ _=>by kernel_rfl⟩,⟨Tryz.func120,fun _ _=>by kernel_rfl⟩,trivial⟩ (ann:=.no) Tryz.func32 (fun _ _=>by kernel_rfl) rfl fun v vals x z ha hz=>(kappa_i x).trans (hz)
end Go.Eng
set_option maxRecDepth 100000
set_option maxHeartbeats 4000000
namespace Go.Eng
open Go.Proofs Go.RowKit
noncomputable def Z9f:FuncId×Con:=(8,⟨[.slice (.pair (.int .i64) (.int .i64))],[.slice (.leaf 3),.slice (.leaf 4)],fun p=>ZVf p⟩)
theorem list8_i (l:(List (Int×Int))):Zm ⟨Tryz.prog,[(31,0),(33,2),(35,3),(39,1),(41,4)],[ZKc,ZHe],[],[],[],[]⟩ [] Tryz.f8 (.two .no (.two .no (.two .no (.two (.two .no (.cut ⟨⟨[],[],[]⟩,[(.norm,⟨[],[],[.s 4 (.own 35 (.leaf 3)),.s 5 (.own 41 (.leaf 4))]⟩)]⟩ (.two (.cut ⟨⟨[8,9],[],[.s 4 (.own 35 (.leaf 3)),.s 5 (.own 41 (.leaf 4)),.s 10 (.dat (.int .i64))]⟩,[(.exit 0,⟨[],[],[.s 4 (.own 35 (.leaf 3)),.s 5 (.own 41 (.leaf 4))]⟩)]⟩ .no) .no))) .no)))) [.slice (.pair (.int .i64) (.int .i64))] [.slice (.leaf 3),.slice (.leaf 4)] (l)=ZVf l:=by kernel_rfl
theorem ZGo:Zk Tryz.prog Z9f.1 Z9f.2:=Zo (C:=⟨Tryz.prog,[(31,0),(33,2),(35,3),(39,1),(41,4)],[ZKc,ZHe],[],[],[],[]⟩) ⟨Zyh,rof_k,trivial⟩ trivial trivial trivial (inl:=[]) trivial (ann:=.two .no (.two .no (.two .no (.two (.two .no (.cut ⟨⟨[],[],[]⟩,[(.norm,⟨[],[],[.s 4 (.own 35 (.leaf 3)),.s 5 (.own 41 (.leaf 4))]⟩)]⟩ (.two (.cut ⟨⟨[8,9],[],[.s 4 (.own 35 (.leaf 3)),.s 5 (.own 41 (.leaf 4)),.s 10 (.dat (.int .i64))]⟩,[(.exit 0,⟨[],[],[.s 4 (.own 35 (.leaf 3)),.s 5 (.own 41 (.leaf 4))]⟩)]⟩ .no) .no))) .no)))) Tryz.func8 (fun _ _=>by kernel_rfl) rfl fun v vals x z ha hz=>(list8_i x).trans (hz)
end Go.Eng
set_option maxRecDepth 100000
set_option maxHeartbeats 4000000
namespace Go.Eng
open Go.Proofs Go.RowKit
noncomputable def ZRi:FuncId×Con:=(33,⟨[.pair (.int .i64) (.int .i64),.slice (.pair (.int .i64) (.int .i64))],[.pair (.leaf 3) (.slice (.leaf 3)),.pair (.leaf 4) (.slice (.leaf 4))],fun p=>Zyn p.1 p.2⟩)
theorem Zgv (step:(Int×Int)) (limits:(List (Int×Int))):Zm ⟨Tryz.prog,[(31,0),(33,2),(35,3),(39,1),(41,4)],[Z9f,ZKc,ZHe],[],[],[],[]⟩ [] Tryz.f33 .no [.pair (.int .i64) (.int .i64),.slice (.pair (.int .i64) (.int .i64))] [.pair (.leaf 3) (.slice (.leaf 3)),.pair (.leaf 4) (.slice (.leaf 4))] (step,limits)=Zyn step limits:=by kernel_rfl
theorem Z4u:Zk Tryz.prog ZRi.1 ZRi.2:=Zo (C:=⟨Tryz.prog,[(31,0),(33,2),(35,3),(39,1),(41,4)],[Z9f,ZKc,ZHe],[],[],[],[]⟩) ⟨ZGo,Zyh,rof_k,trivial⟩ trivial trivial trivial (inl:=[]) trivial (ann:=.no) Tryz.func33 (fun _ _=>by kernel_rfl) rfl fun v vals x z ha hz=>(Zgv x.1 x.2).trans (hz)
end Go.Eng
set_option maxRecDepth 100000
set_option maxHeartbeats 4000000
namespace Go.Eng
open Go.Proofs Go.RowKit
noncomputable def Zgf:FuncId×Con:=(121,⟨[.leaf 3,.leaf 3],[.int .i64],fun p=>ZIe p.1 p.2⟩)
theorem qcmp_i (x:Rat) (y:Rat):Zm ⟨Tryz.prog,[(31,0),(33,2),(35,3)],[Z1b,Z0e],[],[],[],[]⟩ [] Tryz.f121 .no [.leaf 3,.leaf 3] [.int .i64] (x,y)=Z0m x y:=by kernel_rfl
theorem ZHm:Zk Tryz.prog Zgf.1 Zgf.2:=Zo (C:=⟨Tryz.prog,[(31,0),(33,2),(35,3)],[Z1b,Z0e],[],[],[],[]⟩) ⟨ZLg,Z7l,trivial⟩ trivial trivial trivial (inl:=[]) trivial (ann:=.no) Tryz.func121 (fun _ _=>by kernel_rfl) rfl fun v vals x z ha hz=>(qcmp_i x.1 x.2).trans (Zex hz)
end Go.Eng
set_option maxRecDepth 100000
set_option maxHeartbeats 4000000
namespace Go.Eng
open Go.Proofs Go.RowKit
noncomputable def Zck:FuncId×Con:=(74,⟨[.pair (.leaf 3) (.slice (.leaf 3))],[.int .i64],fun p=>ZSn p⟩)
theorem Z8u (t:(Rat×(List Rat))):Zm ⟨Tryz.prog,[(31,0),(33,2),(35,3),(39,1),(41,4)],[ZGg,Zgf],[],[],[],[]⟩ [] Tryz.f74 (.two .no (.two .no (.two (.two (.cut ⟨⟨[],[],[]⟩,[(.norm,⟨[1],[],[.s 19 (.dat .bool)]⟩)]⟩ .no) .no) (.two (.two .no (.cut ⟨⟨[],[],[]⟩,[(.norm,⟨[],[],[]⟩),(.ret,⟨[],[],[.s 0 (.dat (.int .i64))]⟩)]⟩ (.two (.cut ⟨⟨[1,21,22],[],[.s 23 (.dat (.int .i64))]⟩,[(.ret,⟨[],[],[.s 0 (.dat (.int .i64))]⟩),(.exit 0,⟨[],[],[]⟩)]⟩ (.two (.two .no (.two .no (.two (.two (.two .no (.two (.cut ⟨⟨[],[],[]⟩,[(.norm,⟨[1,21,22,23],[],[.s 40 (.dat .bool)]⟩)]⟩ .no) .no)) .no) .no))) .no)) .no))) .no)))) [.pair (.leaf 3) (.slice (.leaf 3))] [.int .i64] (t)=ZSn t:=by kernel_rfl
theorem Zhs:Zk Tryz.prog Zck.1 Zck.2:=Zo (C:=⟨Tryz.prog,[(31,0),(33,2),(35,3),(39,1),(41,4)],[ZGg,Zgf],[],[],[],[]⟩) ⟨ZFq,ZHm,trivial⟩ trivial trivial trivial (inl:=[]) trivial (ann:=.two .no (.two .no (.two (.two (.cut ⟨⟨[],[],[]⟩,[(.norm,⟨[1],[],[.s 19 (.dat .bool)]⟩)]⟩ .no) .no) (.two (.two .no (.cut ⟨⟨[],[],[]⟩,[(.norm,⟨[],[],[]⟩),(.ret,⟨[],[],[.s 0 (.dat (.int .i64))]⟩)]⟩ (.two (.cut ⟨⟨[1,21,22],[],[.s 23 (.dat (.int .i64))]⟩,[(.ret,⟨[],[],[.s 0 (.dat (.int .i64))]⟩),(.exit 0,⟨[],[],[]⟩)]⟩ (.two (.two .no (.two .no (.two (.two (.two .no (.two (.cut ⟨⟨[],[],[]⟩,[(.norm,⟨[1,21,22,23],[],[.s 40 (.dat .bool)]⟩)]⟩ .no) .no)) .no) .no))) .no)) .no))) .no)))) Tryz.func74 (fun _ _=>by kernel_rfl) rfl fun v vals x z ha hz=>(Z8u x).trans (hz)
end Go.Eng
set_option maxRecDepth 100000
set_option maxHeartbeats 4000000
namespace Go.Eng
open Go.Proofs Go.RowKit
noncomputable def Zol:FuncId×Con:=(144,⟨[.leaf 0,.int .i64],[.leaf 0],fun p=>Zvb p.1 p.2⟩)
theorem left_i (a:Nat) (n:Int):Zm ⟨Tryz.prog,[(31,0)],[Zud],[],[],[],[]⟩ [] Tryz.f144 (.two .no (.two (.two (.cut ⟨⟨[],[],[]⟩,[(.norm,⟨[0,1],[],[.s 14 (.dat .bool)]⟩)]⟩ .no) .no) (.two .no (.two (.two .no (.cut ⟨⟨[],[],[]⟩,[(.norm,⟨[],[],[.s 5 (.own 155 (.int .u64))]⟩)]⟩ (.two (.cut ⟨⟨[1,23,24],[],[.s 5 (.own 155 (.int .u64)),.s 25 (.dat (.int .i64))]⟩,[(.exit 0,⟨[],[],[.s 5 (.own 155 (.int .u64))]⟩)]⟩ .no) .no))) .no)))) [.leaf 0,.int .i64] [.leaf 0] (a,n)=Z4f a n:=by kernel_rfl
theorem left_k:Zk Tryz.prog Zol.1 Zol.2:=Zo (C:=⟨Tryz.prog,[(31,0)],[Zud],[],[],[],[]⟩) ⟨ZYj,trivial⟩ trivial trivial trivial (inl:=[]) trivial (ann:=.two .no (.two (.two (.cut ⟨⟨[],[],[]⟩,[(.norm,⟨[0,1],[],[.s 14 (.dat .bool)]⟩)]⟩ .no) .no) (.two .no (.two (.two .no (.cut ⟨⟨[],[],[]⟩,[(.norm,⟨[],[],[.s 5 (.own 155 (.int .u64))]⟩)]⟩ (.two (.cut ⟨⟨[1,23,24],[],[.s 5 (.own 155 (.int .u64)),.s 25 (.dat (.int .i64))]⟩,[(.exit 0,⟨[],[],[.s 5 (.own 155 (.int .u64))]⟩)]⟩ .no) .no))) .no)))) Tryz.func144 (fun _ _=>by kernel_rfl) rfl fun v vals x z ha hz=>(left_i x.1 x.2).trans (Z5p hz)
end Go.Eng
set_option maxRecDepth 100000
set_option maxHeartbeats 4000000
namespace Go.Eng
open Go.Proofs Go.RowKit
noncomputable def ZBl:FuncId×Con:=(196,⟨[.leaf 2,.leaf 0],[.leaf 2],fun p=>Zfg p.1 p.2⟩)
theorem Zjw (x:Int) (d:Nat):Zm ⟨Tryz.prog,[(31,0),(33,2),(35,3)],[ZUb,ZSe,Zbb,Z5g],[],[],[],[]⟩ [] Tryz.f196 (.two .no (.two .no (.two (.two (.cut ⟨⟨[],[],[]⟩,[(.norm,⟨[2,4,5],[],[.s 20 (.dat .bool)]⟩)]⟩ .no) (.cut ⟨⟨[],[],[]⟩,[(.norm,⟨[2,4],[],[.s 5 (.dat (.leaf 0))]⟩)]⟩ .no)) .no))) [.leaf 2,.leaf 0] [.leaf 2] (x,d)=Zgo x d:=by kernel_rfl
theorem Zmw:Zk Tryz.prog ZBl.1 ZBl.2:=Zo (C:=⟨Tryz.prog,[(31,0),(33,2),(35,3)],[ZUb,ZSe,Zbb,Z5g],[],[],[],[]⟩) ⟨ZWg,ZKn,Zaf,Zho,trivial⟩ trivial trivial trivial (inl:=[]) trivial (ann:=.two .no (.two .no (.two (.two (.cut ⟨⟨[],[],[]⟩,[(.norm,⟨[2,4,5],[],[.s 20 (.dat .bool)]⟩)]⟩ .no) (.cut ⟨⟨[],[],[]⟩,[(.norm,⟨[2,4],[],[.s 5 (.dat (.leaf 0))]⟩)]⟩ .no)) .no))) Tryz.func196 (fun _ _=>by kernel_rfl) rfl fun v vals x z ha hz=>(Zjw x.1 x.2).trans (ZOu hz)
end Go.Eng
set_option maxRecDepth 100000
set_option maxHeartbeats 4000000
namespace Go.Eng
open Go.Proofs Go.RowKit
noncomputable def ZQj:FuncId×Con:=(169,⟨[.leaf 3,.int .i64],[.leaf 3],fun p=>ZNf p.1 p.2⟩)
theorem ZTw (x:Rat) (k:Int):Zm ⟨Tryz.prog,[(31,0),(33,2),(35,3)],[Zrd,ZJc,ZUb,Zbb,Zol,ZBl],[],[],[],[]⟩ [] Tryz.f169 .no [.leaf 3,.int .i64] [.leaf 3] (x,k)=Zzn x k:=by kernel_rfl
theorem Znw:Zk Tryz.prog ZQj.1 ZQj.2:=Zo (C:=⟨Tryz.prog,[(31,0),(33,2),(35,3)],[Zrd,ZJc,ZUb,Zbb,Zol,ZBl],[],[],[],[]⟩) ⟨ZNj,Zci,ZWg,Zaf,left_k,Zmw,trivial⟩ trivial trivial trivial (inl:=[]) trivial (ann:=.no) Tryz.func169 (fun _ _=>by kernel_rfl) rfl fun v vals x z ha hz=>(ZTw x.1 x.2).trans (Zqw hz)
end Go.Eng
set_option maxRecDepth 100000
set_option maxHeartbeats 4000000
namespace Go.Eng
open Go.Proofs Go.RowKit
noncomputable def ZJk:FuncId×Con:=(170,⟨[.leaf 0,.int .i64],[.int .u64],fun p=>bitF p.1 p.2⟩)
theorem bit_i (a:Nat) (i:Int):Zm ⟨Tryz.prog,[(31,0)],[],[],[],[],[]⟩ [] Tryz.f170 (.two .no (.two (.two (.cut ⟨⟨[],[],[]⟩,[(.norm,⟨[0,1],[],[.s 13 (.dat .bool)]⟩)]⟩ .no) .no) .no)) [.leaf 0,.int .i64] [.int .u64] (a,i)=bit_m a i:=by kernel_rfl
theorem bit_k:Zk Tryz.prog ZJk.1 ZJk.2:=Zo (C:=⟨Tryz.prog,[(31,0)],[],[],[],[],[]⟩) trivial trivial trivial trivial (inl:=[]) trivial (ann:=.two .no (.two (.two (.cut ⟨⟨[],[],[]⟩,[(.norm,⟨[0,1],[],[.s 13 (.dat .bool)]⟩)]⟩ .no) .no) .no)) Tryz.func170 (fun _ _=>by kernel_rfl) rfl fun v vals x z ha hz=>(bit_i x.1 x.2).trans (bitF_eq hz)
end Go.Eng
set_option maxRecDepth 100000
set_option maxHeartbeats 4000000
namespace Go.Eng
open Go.Proofs Go.RowKit
noncomputable def Z1k:FuncId×Con:=(122,⟨[.leaf 3,.leaf 3],[.leaf 3,.int .i64],fun p=>Zfj p.1 p.2⟩)
theorem ZLw (x:Rat) (step:Rat):Zm ⟨Tryz.prog,[(31,0),(33,2),(35,3)],[Z6b,Z0b,Z1b,ZDc,Z1e,ZUb,ZOd,Zgf,Z0e,ZQj,ZJk],[],[],[],[]⟩ [] Tryz.f122 (.two .no (.two .no (.two .no (.two .no (.two .no (.two .no (.two (.two (.cut ⟨⟨[],[],[]⟩,[(.norm,⟨[3,4,8],[],[.s 43 (.dat .bool)]⟩)]⟩ .no) (.cut ⟨⟨[],[],[]⟩,[(.norm,⟨[3,4,8],[],[.l (.sl 8) (.box 35 (.dat (.leaf 3)))]⟩)]⟩ .no)) .no))))))) [.leaf 3,.leaf 3] [.leaf 3,.int .i64] (x,step)=Z3n x step:=by kernel_rfl
theorem ZNv:Zk Tryz.prog Z1k.1 Z1k.2:=Zo (C:=⟨Tryz.prog,[(31,0),(33,2),(35,3)],[Z6b,Z0b,Z1b,ZDc,Z1e,ZUb,ZOd,Zgf,Z0e,ZQj,ZJk],[],[],[],[]⟩) ⟨Zmh,Zhh,ZLg,Zyi,of_k,ZWg,ZRj,ZHm,Z7l,Znw,bit_k,trivial⟩ trivial trivial trivial (inl:=[]) trivial (ann:=.two .no (.two .no (.two .no (.two .no (.two .no (.two .no (.two (.two (.cut ⟨⟨[],[],[]⟩,[(.norm,⟨[3,4,8],[],[.s 43 (.dat .bool)]⟩)]⟩ .no) (.cut ⟨⟨[],[],[]⟩,[(.norm,⟨[3,4,8],[],[.l (.sl 8) (.box 35 (.dat (.leaf 3)))]⟩)]⟩ .no)) .no))))))) Tryz.func122 (fun _ _=>by kernel_rfl) rfl fun v vals x z ha hz=>(ZLw x.1 x.2).trans (Z6t hz)
end Go.Eng
set_option maxRecDepth 100000
set_option maxHeartbeats 4000000
namespace Go.Eng
open Go.Proofs Go.RowKit
noncomputable def Zjk:FuncId×Con:=(75,⟨[.pair (.leaf 3) (.slice (.leaf 3)),.leaf 3],[.int .i64],fun p=>ZSm p.1 p.2⟩)
theorem Z0r (t:(Rat×(List Rat))) (x:Rat):Zm ⟨Tryz.prog,[(31,0),(33,2),(35,3),(39,1),(41,4)],[Z1k,Zgf],[],[],[],[]⟩ [(123,Tryz.f123,.cut ⟨⟨[],[],[]⟩,[(.ret,⟨[],[],[.s 0 (.dat (.int .i64))]⟩)]⟩ (.two .no (.two (.two .no (.cut ⟨⟨[],[],[]⟩,[(.norm,⟨[],[],[]⟩),(.ret,⟨[],[],[.s 0 (.dat (.int .i64))]⟩)]⟩ (.two (.cut ⟨⟨[0,1,7],[],[.s 8 (.dat (.int .i64))]⟩,[(.ret,⟨[],[],[.s 0 (.dat (.int .i64))]⟩),(.exit 0,⟨[],[],[]⟩)]⟩ .no) .no))) .no))),(124,Tryz.f124,.cut ⟨⟨[],[],[]⟩,[(.ret,⟨[],[],[.s 0 (.dat .bool)]⟩)]⟩ .no)] Tryz.f75 .no [.pair (.leaf 3) (.slice (.leaf 3)),.leaf 3] [.int .i64] (t,x)=ZSm t x:=by kernel_rfl
theorem ZRv:Zk Tryz.prog Zjk.1 Zjk.2:=Zo (C:=⟨Tryz.prog,[(31,0),(33,2),(35,3),(39,1),(41,4)],[Z1k,Zgf],[],[],[],[]⟩) ⟨ZNv,ZHm,trivial⟩ trivial trivial trivial (inl:=[(123,Tryz.f123,.cut ⟨⟨[],[],[]⟩,[(.ret,⟨[],[],[.s 0 (.dat (.int .i64))]⟩)]⟩ (.two .no (.two (.two .no (.cut ⟨⟨[],[],[]⟩,[(.norm,⟨[],[],[]⟩),(.ret,⟨[],[],[.s 0 (.dat (.int .i64))]⟩)]⟩ (.two (.cut ⟨⟨[0,1,7],[],[.s 8 (.dat (.int .i64))]⟩,[(.ret,⟨[],[],[.s 0 (.dat (.int .i64))]⟩),(.exit 0,⟨[],[],[]⟩)]⟩ .no) .no))) .no))),(124,Tryz.f124,.cut ⟨⟨[],[],[]⟩,[(.ret,⟨[],[],[.s 0 (.dat .bool)]⟩)]⟩ .no)]) ⟨⟨Tryz.func123,fun _ _=>by kernel_rfl⟩,⟨Tryz.func124,fun _ _=>by kernel_rfl⟩,trivial⟩ (ann:=.no) Tryz.func75 (fun _ _=>by kernel_rfl) rfl fun v vals x z ha hz=>(Z0r x.1 x.2).trans (hz)
end Go.Eng
set_option maxRecDepth 100000
set_option maxHeartbeats 4000000
namespace Go.Eng
open Go.Proofs Go.RowKit
noncomputable def Zek:FuncId×Con:=(34,⟨[.pair (.leaf 3) (.slice (.leaf 3)),.leaf 3],[.int .i64,.int .i64],fun p=>Zkn p.1 p.2⟩)
theorem Zvx (t:(Rat×(List Rat))) (x:Rat):Zm ⟨Tryz.prog,[(31,0),(33,2),(35,3),(39,1),(41,4)],[Zck,Zjk],[],[],[],[]⟩ [] Tryz.f34 .no [.pair (.leaf 3) (.slice (.leaf 3)),.leaf 3] [.int .i64,.int .i64] (t,x)=Zkn t x:=by kernel_rfl
theorem Zgx:Zk Tryz.prog Zek.1 Zek.2:=Zo (C:=⟨Tryz.prog,[(31,0),(33,2),(35,3),(39,1),(41,4)],[Zck,Zjk],[],[],[],[]⟩) ⟨Zhs,ZRv,trivial⟩ trivial trivial trivial (inl:=[]) trivial (ann:=.no) Tryz.func34 (fun _ _=>by kernel_rfl) rfl fun v vals x z ha hz=>(Zvx x.1 x.2).trans (hz)
end Go.Eng
namespace Go.Eng
open Go.Proofs Go.RowKit
theorem Zot {r:World} {d:Zb} (hv:VIn d r) {D:List Value} {n:Int} (L:Rep.rel (Zd .u64) d D n) {z:(List UInt8)} (H:ZJj n=some z):Ret Tryz.prog 126 #[(Zd .u64).val D] r d (fun y v'=>∃ E,y=Z4a.val E∧Z4a.rel v' E z):=by
 obtain ⟨rfl,M⟩:=L;refine ZJb (K:=20) (args:=[.int .u64 n]) hv Tryz.func126 rfl rfl zl fun f S=>?_;unfold ZJj at H;refine sr (mw S rfl fun f S=>oe (sr (ZHq S wn rfl zl (cs:=[.int .u8 0,.int .u8 0,.int .u8 0,.int .u8 0,.int .u8 0,.int .u8 0,.int .u8 0,.int .u8 0,.int .u8 0,.int .u8 0,.int .u8 0,.int .u8 0,.int .u8 0,.int .u8 0,.int .u8 0,.int .u8 0,.int .u8 0,.int .u8 0,.int .u8 0,.int .u8 0]) (Zdo k_zv238) fun s f w S=>?_)));have S:=S.boxOwn 1 20 rfl zl;have N:Rep.rels (Zd .u8) d [.int .u8 0,.int .u8 0,.int .u8 0,.int .u8 0,.int .u8 0,.int .u8 0,.int .u8 0,.int .u8 0,.int .u8 0,.int .u8 0,.int .u8 0,.int .u8 0,.int .u8 0,.int .u8 0,.int .u8 0,.int .u8 0,.int .u8 0,.int .u8 0,.int .u8 0,.int .u8 0] (List.replicate 20 (0:Int)):=Z1d (show Rep.rel (Zd .u8) _ [Value.int .u8 0] 0 from ⟨rfl,by decide⟩) 20;refine oe (sr (mw S rfl fun f S=>oe (Zj fun _ O=>?_)));obtain ⟨P,Q,R⟩:=ZF H;refine Zta (fun f w=>∃ l m B t,(l,m)=P∧Zb.le d t∧St 20 r d [(3,.pointer (some ⟨s,0,none⟩)),(4,.int .i64 m)] [Loc.own (some s) 238 1 20 20 B] t f w∧Rep.rels (Zd .u8) t B l∧20=l.length∧inR .i64 m) (fun _ T=>?_) ?_
 ·have H:=Q;refine wp_block ?_;obtain ⟨ak,U,V⟩:=ZF H;refine ZEb U (fun W f w=>∃ h o u b k,(h,o,u)=W∧Zb.le d k∧St 20 r d [(0,.int .u64 o),(3,.pointer (some ⟨s,0,none⟩)),(4,.int .i64 u)] [Loc.own (some s) 238 1 20 20 b] k f w∧Rep.rels (Zd .u8) k b h∧20=h.length∧inR .u64 o∧inR .i64 u) ⟨_,_,_,[.int .u8 0,.int .u8 0,.int .u8 0,.int .u8 0,.int .u8 0,.int .u8 0,.int .u8 0,.int .u8 0,.int .u8 0,.int .u8 0,.int .u8 0,.int .u8 0,.int .u8 0,.int .u8 0,.int .u8 0,.int .u8 0,.int .u8 0,.int .u8 0,.int .u8 0,.int .u8 0],_,rfl,(leR _),(S.fr' rfl),N,(List.length_replicate (n:=20) (a:=(0:Int))).symm,M,(by decide)⟩ ?_;rintro _ f w st ⟨h,o,u,b,k,hq,F,S,C,v,al,X⟩ H am Y Z;subst hq;refine Zj fun _ aa=>sr (mv S rfl fun f S=>ov S rfl (Ze S rfl rfl Z0c) fun f S=>oe ?_);rcases ZJ (decide ((0:Int)<o)) with p | p
  ·have H:=ZL H p;refine ZS S rfl p (wp_skip (Zg (aa _ _ (Zj fun _ ab=>wp_block (Zj fun _ ac=>bO H fun e G H=>Zs (mv S rfl fun f S=>ov S rfl (Ze S rfl rfl (Zza G)) fun f S=>mw S rfl fun f S=>Zr (Zg (ac _ _ (bO H fun g ad H=>?_)))))))));refine bO H fun an q H=>Zs (mv S rfl fun f S=>mv S rfl fun f S=>ov S rfl (Ze S rfl rfl (Zbf ad)) fun f S=>ov S rfl (Ze S rfl rfl Z9b) fun f S=>ov S rfl (ZMd S rfl (Zko _)) fun f S=>?_);have I:=Zga C (Zi q).2.1;obtain ⟨ao,ae⟩:∃ c,(List.take (Zd .u8).n (List.drop ((e).toNat*(Zd .u8).n) b))=c:=⟨_,rfl⟩;rw [ae] at I;obtain ⟨rfl,ap⟩:=I;refine ov S rfl (ZXp S ZGq rfl rfl (Zi q).1 (ltI v (Zi q).2.2.1)) fun f S=>?_;obtain ⟨w,af,S⟩:=ZHb S k_sz5 (off:=0+(e).toNat*1) (z:=.int .u8 (IntKind.u8.wrap (IntKind.u64.wrap ((48:Int)+g)))) (cs:=[.int .u8 (IntKind.u8.wrap (IntKind.u64.wrap ((48:Int)+g)))]) (ZCb rfl) rfl (i:=0) rfl (ZLd S (j:=0) rfl (ltN v (Zi q).2.2.2)) (by first | rfl | simp [plain]);have ag:Rep.rels (Zd .u8) k (List.take (0+(e).toNat*1) b++[Value.int IntKind.u8 (IntKind.u8.wrap (IntKind.u64.wrap ((48:Int)+g)))]++List.drop (0+(e).toNat*1+1) b) (h.set (e).toNat (IntKind.u8.wrap (IntKind.u64.wrap ((48:Int)+g)))):=ZUc C (Zi q).2.2.2 (show Rep.rel (Zd .u8) k [.int .u8 (IntKind.u8.wrap (IntKind.u64.wrap ((48:Int)+g)))] _ from (ZC (Zqa _ _))) rfl rfl
   have ah:20=(h.set (e).toNat (IntKind.u8.wrap (IntKind.u64.wrap ((48:Int)+g)))).length:=ZFd v;refine Zwf wn rfl (af rfl rfl) (Zr (Ztb (Zg (ab _ _ (bO H fun aq J H=>Zs (mv S rfl fun f S=>ov S rfl (Ze S rfl rfl (Zlc J)) fun f S=>mw S rfl fun f S=>Zr ?_))))));obtain rfl:=Zn H;refine Y _ rfl _ _ ⟨_,_,_,(List.take (0+(e).toNat*1) b++[Value.int IntKind.u8 (IntKind.u8.wrap (IntKind.u64.wrap ((48:Int)+g)))]++List.drop (0+(e).toNat*1+1) b),_,rfl,F,(S.fr' rfl),ag,ah,(Z0h J),(Zua G).2⟩
  have H:=ZK H p;refine ZM S rfl p (wp_exit (Z0 ?_));obtain rfl:=Zn H;have hq:=Z _ rfl;subst hq;have H:=V;refine Z0 (Z7a ?_);obtain rfl:=Zn H;refine Zg (T _ _ ⟨_,_,b,_,rfl,(leT (leR _) F),(S.fr' rfl),C,v,X⟩)
 rintro f w ⟨l,m,B,t,hq,ar,S,ai,x,au⟩;subst hq;have H:=R;refine Zg (O _ _ (Zj fun _ aj=>bO H fun av A H=>Zs (mv S rfl fun f S=>ov S rfl (ZYv S ZGq rfl rfl (Zhd A).1 (by have:=(Zhd A).2.1;have:=x;omega)) fun f S=>ov S rfl (ZPw S (j:=0) rfl ai x (by have:=(Zhd A).2.1;have:=(Zhd A).1;have:=x;omega) rfl Tryz.underlying198 Tryz.underlying5 Tryz.underlying9) fun f S=>mw S rfl fun f S=>Zr (Zg (aj _ _ (wp_ret ?_))))));obtain rfl:=Zn H;refine ZEa S (ZNa rfl (ZR S rfl)) ⟨[.string (Zw ((Zzd (l.drop ((m).toNat)))))],rfl,(ZTh (by have:=x;simp only [Zpt,List.length_drop];unfold maxLen;omega))⟩
theorem Zou {b:World} {a:Zb} (hv:VIn a b) {c:List Value} {n:Int} (d:Rep.rel (Zd .u64) a c n) {z:(List UInt8)} (hm:Zrg n=some z) :
  Ret Tryz.prog 126 #[(Zd .u64).val c] b a (fun y v'=>∃ e,y=Z4a.val e∧Z4a.rel v' e z) :=
 Zot hv d (ZEu d.2 hm)
end Go.Eng
namespace Go.Proofs
open Go.Shelf
def Tryz.lays105_ren:Go.Shelf.Ren:=⟨fun | 105=>127 | 212=>172 | 99=>173 | 165=>174 | 166=>128 | 170=>175 | 169=>129 | 263=>197 | 264=>100 | 206=>198 | 240=>176 | 241=>199 | 276=>200 | 277=>203 | n=>n,fun | 9=>9 | 3=>3 | 4=>4 | 20=>20 | 0=>0 | 46=>215 | 109=>239 | 5=>5 | 72=>200 | 76=>203 | 51=>156 | 146=>254 | 53=>155 | 148=>167 | 70=>197 | 37=>198 | 75=>202 | 127=>243 | 164=>256 | 80=>104 | n=>n,fun | n=>n⟩
theorem Tryz.lays105:Go.Proofs.Lays.n105 Tryz.prog Tryz.lays105_ren:={
 mixed:=by kernel_rfl
 f99:=Tryz.func173.trans (congrArg some (by kernel_rfl))
 f105:=Tryz.func127.trans (congrArg some (by kernel_rfl))
 f165:=Tryz.func174.trans (congrArg some (by kernel_rfl))
 f166:=Tryz.func128.trans (congrArg some (by kernel_rfl))
 f169:=Tryz.func129.trans (congrArg some (by kernel_rfl))
 f170:=Tryz.func175.trans (congrArg some (by kernel_rfl))
 f206:=Tryz.func198.trans (congrArg some (by kernel_rfl))
 f212:=Tryz.func172.trans (congrArg some (by kernel_rfl))
 f240:=Tryz.func176.trans (congrArg some (by kernel_rfl))
 f241:=Tryz.func199.trans (congrArg some (by kernel_rfl))
 f263:=Tryz.func197.trans (congrArg some (by kernel_rfl))
 f264:=Tryz.func100.trans (congrArg some (by kernel_rfl))
 f276:=Tryz.func200.trans (congrArg some (by kernel_rfl))
 f277:=Tryz.func203.trans (congrArg some (by kernel_rfl))
 t0:=Tryz.underlying0
 a0:=Tryz.isAgg0
 z0:=Tryz.sizeOf0
 v0:=Tryz.zeroValue0
 t3:=Tryz.underlying3
 a3:=Tryz.isAgg3
 z3:=Tryz.sizeOf3
 v3:=Tryz.zeroValue3
 t4:=Tryz.underlying4
 a4:=Tryz.isAgg4
 z4:=Tryz.sizeOf4
 v4:=Tryz.zeroValue4
 t5:=Tryz.underlying5
 a5:=Tryz.isAgg5
 z5:=Tryz.sizeOf5
 v5:=Tryz.zeroValue5
 t9:=Tryz.underlying9
 a9:=Tryz.isAgg9
 z9:=Tryz.sizeOf9
 v9:=Tryz.zeroValue9
 t20:=Tryz.underlying20
 a20:=Tryz.isAgg20
 z20:=Tryz.sizeOf20
 v20:=Tryz.zeroValue20
 t37:=Tryz.underlying198
 a37:=Tryz.isAgg198
 z37:=Tryz.sizeOf198
 v37:=Tryz.zeroValue198
 t46:=Tryz.underlying215
 a46:=Tryz.isAgg215
 z46:=Tryz.sizeOf215
 v46:=Tryz.zeroValue215
 t51:=Tryz.underlying156
 a51:=Tryz.isAgg156
 z51:=Tryz.sizeOf156
 v51:=Tryz.zeroValue156
 t53:=Tryz.underlying155
 a53:=Tryz.isAgg155
 z53:=Tryz.sizeOf155
 v53:=Tryz.zeroValue155
 t70:=Tryz.underlying197
 a70:=Tryz.isAgg197
 z70:=Tryz.sizeOf197
 v70:=Tryz.zeroValue197
 t72:=Tryz.underlying200
 a72:=Tryz.isAgg200
 z72:=Tryz.sizeOf200
 v72:=Tryz.zeroValue200
 t75:=Tryz.underlying202
 a75:=Tryz.isAgg202
 z75:=Tryz.sizeOf202
 v75:=Tryz.zeroValue202
 t76:=Tryz.underlying203
 a76:=Tryz.isAgg203
 z76:=Tryz.sizeOf203
 v76:=Tryz.zeroValue203
 t109:=Tryz.underlying239
 a109:=Tryz.isAgg239
 z109:=Tryz.sizeOf239
 v109:=Tryz.zeroValue239
 t127:=Tryz.underlying243
 a127:=Tryz.isAgg243
 z127:=Tryz.sizeOf243
 v127:=Tryz.zeroValue243
 t146:=Tryz.underlying254
 a146:=Tryz.isAgg254
 z146:=Tryz.sizeOf254
 v146:=Tryz.zeroValue254
 t148:=Tryz.underlying167
 a148:=Tryz.isAgg167
 z148:=Tryz.sizeOf167
 v148:=Tryz.zeroValue167
 t164:=Tryz.underlying256
 a164:=Tryz.isAgg256
 z164:=Tryz.sizeOf256
 v164:=Tryz.zeroValue256 }
theorem Tryz.Builder_Extra_105:Builder.Extra Tryz.prog Tryz.lays105_ren:={
 sizeBuilder:=by kernel_rfl
 liesBuilder:=by kernel_rfl
 t5:=Tryz.underlying5
 a5:=Tryz.isAgg5
 z5:=Tryz.sizeOf5
 v5:=Tryz.zeroValue5
 infoByte:=by kernel_rfl
 cellsByte:=by kernel_rfl
 sizeByte:=by kernel_rfl
 neB5:=by decide }
end Go.Proofs
namespace Go.Eng
open Go.Proofs Go.RowKit Go.Shelf
theorem writes:ZQq Tryz.prog 128 200 5:=fun B b bs s w h hl hB=>Any.Builder_WriteString { Tryz.lays105 with } Tryz.Builder_Extra_105 B b bs s w h hl hB
theorem tells:Tells Tryz.prog 129 200 5:=fun B b l w h hB=>Any.Builder_String_any { Tryz.lays105 with } Tryz.Builder_Extra_105 B b l w h hB
end Go.Eng
namespace Go.Eng
open Go.Proofs Go.RowKit
theorem Zyt (l:List UInt8) (c:Nat):Lib.repeatL l c=(List.replicate c l).flatten:=by
 induction c with
 | zero=>rfl
 | succ c ih=>simp [Lib.repeatL,List.replicate_succ,ih]
theorem ZLt {b:World} {a:Zb} (hv:VIn a b) {f:List Value} {s:List UInt8} (k:Rep.rel Z4a a f s) {g:List Value} {c:Int} (l:Rep.rel (Zd .i64) a g c) {z:List UInt8} (hm:ZNg s c=some z) :
  Ret Tryz.prog 127 #[Z4a.val f,(Zd .i64).val g] b a (fun y v'=>∃ h,y=Z4a.val h∧Z4a.rel v' h z):=by
 obtain ⟨rfl,hs⟩:=k;obtain ⟨rfl,hc⟩:=l;unfold ZNg at hm;split at hm
 ·rename_i hh
  cases hm
  obtain ⟨C,rfl⟩:=Int.eq_ofNat_of_zero_le hh.1;have hc:=ZMa.1 hc;have d:=hh.2;rw [Int.toNat_natCast] at d;have:=Any.strings_Repeat Tryz.lays105 Tryz.Builder_Extra_105 (Zw s) C b (by omega) (by rw [Z5c];exact d);refine Calls.mono this fun e w' ⟨i,j⟩=>?_;have m:(⟨(Lib.repeatL (Zw s).data.toList C).toArray⟩:ByteArray)=Zw (List.replicate C s).flatten:=by
   rw [Zyt];rfl
  rw [m] at i;exact ⟨_,a,i,j,VStep.ext hv j,[.string (Zw (List.replicate C s).flatten)],rfl,rfl,by simp only [Int.toNat_natCast];rw [List.length_flatten];simp;unfold maxLen;rw [Nat.mul_comm] at d;omega⟩
 ·cases hm
theorem text_w {e:World} {c:Zb} (hv:VIn c e) {c0:List Value} {a:Nat} (p0:Rep.rel Zv c c0 a) {z:(List UInt8)} (H:Zpi a=some z):Ret Tryz.prog 76 #[Zv.val c0] e c (fun y v'=>∃ r0,y=Z4a.val r0∧Z4a.rel v' r0 z):=by
 obtain ⟨q1,n2,k3,rfl⟩:=Zja p0;refine ZJb (K:=49) (args:=[.slice q1 n2 k3]) hv Tryz.func76 rfl rfl zl fun f S=>?_;unfold Zpi at H;refine sr (mw S rfl fun f S=>oe (sr ?_));have S:=S.nilLoc 9 1;refine ov S rfl (ZGd S (y:=.slice (mkA none) 0 0) rfl) fun f S=>oe (Zj fun _ ar=>?_);obtain ⟨au,av,aw⟩:=ZF H;refine Zta (fun f w=>∃ o F s G U I,o=au∧Zb.le c I∧St 49 e c [(3,.slice (mkA F) s G)] [Loc.own F 9 1 s G U] I f w∧Rep.rels Z4a I U o∧s=o.length) (fun _ ax=>?_) ?_
 ·have H:=av;refine wp_block ?_;obtain ⟨bs,ay,az⟩:=ZF H;refine ZEb ay (fun aA f w=>∃ J g L M N p h q k t,(J,g)=aA∧Zb.le c t∧St 49 e c [(0,.slice L M N),(3,.slice (mkA p) h q)] [Loc.own p 9 1 h q k] t f w∧Rep.rel Zv t [.slice L M N] J∧Rep.rels Z4a t k g∧h=g.length) ⟨_,_,_,_,_,none,0,0,[],_,rfl,(leR _),(S.fr' rfl),p0,ZYd,rfl⟩ ?_;rintro _ f w st ⟨J,g,L,M,N,p,h,q,k,t,hq,ac,S,ad,d,ae⟩ H bt aB aC;subst hq;refine Zj fun _ aD=>sr (mv S rfl fun f S=>ov S rfl (Zca S (ZI ad) rfl rfl ZA) fun f S=>ov S rfl (Ze S rfl rfl Z0c) fun f S=>oe ?_);rcases ZJ (decide ((0:Int)<(((Zc 18446744073709551616 J)).length:Int))) with u | u
  ·have H:=ZL H u;refine ZS S rfl u (wp_skip (Zg (aD _ _ (wp_block (Zj fun _ aE=>bO H fun O aF H=>Zs (mv S rfl fun f S=>opc S rfl (Z9 S [.slice L M N,.int .u64 10000000000000000000] Zbp rfl rfl) (ZWq S.vin ad (show Rep.rel (Zd .u64) _ [.int .u64 10000000000000000000] (10000000000000000000:Int) from (ZC (by decide))) aF) ?_))))));rintro _ bu f w af ⟨bv,bw,rfl,m,aG⟩ S;have d:=ZW af d;obtain ⟨aH,aI,aJ,rfl⟩:=Zja m;obtain ⟨rfl,aK⟩:=aG;refine mv S rfl fun f S=>ov S rfl (ZAa S rfl rfl) fun f S=>ov S rfl (ZAa S rfl rfl) fun f S=>mw S rfl fun f S=>mw S rfl fun f S=>Zr (Zg (aE _ _ (Zj fun _ aL=>bO H fun bx aM H=>Zs (mv S rfl fun f S=>opc S rfl (Z9 S [.int .u64 (O.2)] k_en126 rfl rfl) (Zou S.vin (show Rep.rel (Zd .u64) _ [.int .u64 (O.2)] O.2 from (ZC aK)) aM) ?_))));rintro _ aN f w V ⟨bz,rfl,aO⟩ S;have d:=ZW V d;obtain ⟨rfl,aP⟩:=aO;refine mw S rfl fun f S=>Zr (Zg (aL _ _ (Zj fun _ aQ=>sr (mv S rfl fun f S=>?_))));have m:=Z8 V m;refine ov S rfl (Zca S (ZI m) rfl rfl ZA) fun f S=>ov S rfl (Ze S rfl rfl Z0c) fun f S=>oe ?_;obtain ⟨aR,aS,aT⟩:=ZF H;refine Zta (fun f w=>∃ b P,b=aR∧Zb.le aN P∧St 49 e c [(3,.slice (mkA p) h q),(4,.slice aH aI aJ),(6,.string (Zw b))] [Loc.own p 9 1 h q k] P f w∧b.length≤maxLen) (fun _ ag=>?_) ?_
   ·have H:=aS;rcases ZJ (decide ((0:Int)<(((Zc 18446744073709551616 O.1)).length:Int))) with v | v
    ·have H:=ZL H v;refine ZS S rfl v (bO H fun W ah H=>bO H fun bA aU H=>bO H fun bB ai H=>Zs (mv S rfl fun f S=>ov S rfl (ZWp S rfl rfl Tryz.underlying9) fun f S=>ov S rfl (Ze S rfl rfl (Zza ah)) fun f S=>opc S rfl (Z9 S [.string (Zw (([48]:List UInt8))),.int .i64 W] k_en127 rfl rfl) (ZLt S.vin (show Rep.rel Z4a _ [.string (Zw (([48]:List UInt8)))] (([48]:List UInt8)) from (ZTh zl)) (show Rep.rel (Zd .i64) _ [.int .i64 W] W from (ZC (Zua ah).2)) aU) ?_));rintro _ bC f w aj ⟨bD,rfl,aV⟩ S;have d:=ZW aj d;obtain ⟨rfl,bE⟩:=aV;refine mv S rfl fun f S=>ov S rfl (Znj S rfl rfl (Zdr ai)) fun f S=>mw S rfl fun f S=>Zr ?_;obtain rfl:=Zn H;refine Zg (ag _ _ ⟨_,_,rfl,(leT (leR _) aj),(S.fr' rfl),(Z3j ai)⟩)
    have H:=ZK H v;refine ZM S rfl v (wp_skip ?_);obtain rfl:=Zn H;refine Zg (ag _ _ ⟨_,_,rfl,(leR _),(S.fr' rfl),aP⟩)
   rintro f w ⟨b,P,hq,X,S,aW⟩;subst hq;have H:=aT;have d:=ZW X d;refine Zg (aQ _ _ (bO H fun bG aX H=>Zs (mv S rfl fun f S=>mv S rfl fun f S=>?_)));obtain ⟨bH,w,aY,S⟩:=Zzf S (n:=1) (cs:=[.string (Zw b)]) (vals:=[(0,.string (Zw b))]) (sz:=1) rfl (by decide) (ZPn ZFr (x:=.string (Zw b)) (cs:=[.string (Zw b)]) rfl rfl (by decide));have Y:Rep.rels Z4a P [.string (Zw b)] [b]:=(Z7m (ZTh aW) ZYd);refine Zzb wn rfl zl (aY rfl) S fun f S=>?_;have aZ:=S;obtain ⟨ak,al,w,a0,S⟩:=Zwj (ty:=192) ZFr S (i:=1) (n':=(g++[b]).length) rfl (Zke Y rfl) (ZWj S (j:=0) rfl) (ZWi Y) (appN ae rfl) (Zce aX) (by decide);have a1:=ZFc d Y;refine Zzb wn rfl zl (Zqe aZ rfl rfl a0) S fun f S=>mv S rfl fun f S=>mw S rfl fun f S=>mw S rfl fun f S=>Zr (Ztb ?_);obtain rfl:=Zn H;have S:=S.reorder (ℓ':=[Loc.own ak 9 1 ((g++[b]).length) al ((k++[.string (Zw b)]))]) [1] rfl (by decide);have m:=Z8 X m;refine aB _ rfl _ _ ⟨_,_,_,_,_,ak,(g++[b]).length,al,(k++[.string (Zw b)]),_,rfl,(leT (leT (leT ac af) V) X),(S.fr' rfl),m,a1,rfl⟩
  have H:=ZK H u;refine ZM S rfl u (wp_exit (Z0 ?_));obtain rfl:=Zn H;have hq:=aC _ rfl;subst hq;have H:=az;refine Z0 (Z7a ?_);obtain rfl:=Zn H;refine Zg (ax _ _ ⟨_,p,h,q,k,_,rfl,(leT (leR _) ac),(S.fr' rfl),d,ae⟩)
 rintro f w ⟨o,F,s,G,U,I,hq,bI,S,a2,am⟩;subst hq;have H:=aw;refine Zg (ar _ _ (Zj fun _ a3=>sr (mv S rfl fun f S=>ov S rfl (Zca S am rfl rfl Zeo) fun f S=>ov S rfl (Ze S rfl rfl Z3d) fun f S=>oe ?_)));rcases ZJ (((o.length:Int))==(0:Int)) with B | B
 ·have H:=ZL H B;refine ZS S rfl B (sr (mw S rfl fun f S=>oe (wp_ret (ZYa ?_))));obtain rfl:=Zn H;refine ZEa S (ZNa rfl (ZR S rfl)) ⟨[.string (Zw (([48]:List UInt8)))],rfl,(ZTh zl)⟩
 have H:=ZK H B;refine ZM S rfl B (wp_skip (Zg (a3 _ _ (sr ?_))));obtain ⟨an,bJ,S,C⟩:=S.pubSlice (i:=0) (A:=Z4a) (l:=o) (ℓ':=[]) rfl rfl am a2 rfl;refine op_newB 5 S wn rfl zl (Zdo k_zv200) fun r f w S a4=>oe (Zj fun _ a5=>Zj fun _ a6=>bO H fun bK ao H=>Zs (mv S rfl fun f S=>ov S rfl (Zca S (ZI C) rfl rfl Zeo) fun f S=>ov S rfl (Ze S rfl rfl (Zza ao)) fun f S=>mw S rfl fun f S=>Zr (Zg (a6 _ _ ?_))));obtain ⟨a7,a8,a9⟩:=ZF H;refine Zta (fun f w=>∃ Q R,Q=a7∧Zb.le an R∧St 49 e c [(7,.pointer (some ⟨r,0,none⟩))] [] R f w∧Bld 200 5 r e R Q w) (fun _ ba=>?_) ?_
 ·have H:=a8;refine wp_block ?_;obtain ⟨bM,bb,bc⟩:=ZF H;refine ZEb bb (fun bd f w=>∃ Z D T,(Z,D)=bd∧Zb.le an T∧St 49 e c [(3,.slice (mkA F) s G),(7,.pointer (some ⟨r,0,none⟩)),(8,.int .i64 D)] [] T f w∧Bld 200 5 r e T Z w∧inR .i64 D) ⟨_,_,_,rfl,(leR _),(S.fr' rfl),a4,(Zua ao).2⟩ ?_;rintro _ f w st ⟨Z,D,T,hq,aa,S,ap,bP⟩ H bQ be bf;subst hq;refine Zj fun _ bg=>sr (mv S rfl fun f S=>ov S rfl (Ze S rfl rfl Zkc) fun f S=>oe ?_);rcases ZJ (decide ((0:Int)≤D)) with E | E
  ·have H:=ZL H E;refine ZS S rfl E (wp_skip (Zg (bg _ _ (Zj fun _ bh=>wp_block (bO H fun bi ab H=>bO H fun bR bj H=>Zs (mv S rfl fun f S=>mv S rfl fun f S=>?_))))));have C:=Z8 aa C;obtain ⟨_,bS,bT,bU,bk,bm,bn⟩:=Z3a C (Zi ab).2.1;obtain ⟨rfl,rfl⟩:=Zww bk;obtain ⟨rfl,bV⟩:=bn;refine ov S rfl (ZN S rfl rfl Zeo (Zi ab).1 (ltI (ZI C) (Zi ab).2.2.1)) fun f S=>ov S rfl (Zha S rfl k_sz9 (S.view bm)) fun f S=>ZGu writes ap (Z9w bj) S wn rfl zl (Z9 S [.pointer (some ⟨r,0,none⟩),.string (Zw bi)] k_en128 rfl rfl) fun f w S bo=>Zr (Ztb (Zg (bh _ _ (bO H fun bW aq H=>Zs (mv S rfl fun f S=>ov S rfl (Ze S rfl rfl (Zza aq)) fun f S=>mw S rfl fun f S=>Zr ?_)))));obtain rfl:=Zn H;refine be _ rfl _ _ ⟨_,_,_,rfl,aa,(S.fr' rfl),bo,(Zua aq).2⟩
  have H:=ZK H E;refine ZM S rfl E (wp_exit (Z0 ?_));obtain rfl:=Zn H;have hq:=bf _ rfl;subst hq;have H:=bc;refine Z0 (Z7a ?_);obtain rfl:=Zn H;refine Zg (ba _ _ ⟨_,_,rfl,(leT (leR _) aa),(S.fr' rfl),ap⟩)
 rintro f w ⟨Q,R,hq,bX,S,bp⟩;subst hq;have H:=a9;refine Zg (a5 _ _ (Zj fun _ bq=>bO H fun bY br H=>Zs (op_tell tells bp S wn rfl zl (Z9 S [.pointer (some ⟨r,0,none⟩)] k_en129 rfl rfl) fun f w S=>mw S rfl fun f S=>Zr (Zg (bq _ _ (wp_ret ?_))))));obtain rfl:=Zn H;refine ZEa S (ZNa rfl (ZR S rfl)) ⟨[.string (Zw Q)],rfl,(ZTh (Z3j br))⟩
theorem text_c {c:World} {b:Zb} (hv:VIn b c) {d:List Value} {a:Nat} (f:Rep.rel Zv b d a) {z:(List UInt8)} (hm:Z0f a=some z) :
  Ret Tryz.prog 76 #[Zv.val d] c b (fun y v'=>∃ e,y=Z4a.val e∧Z4a.rel v' e z) :=
 text_w hv f (ZIs hm)
end Go.Eng
set_option maxRecDepth 100000
set_option maxHeartbeats 4000000
namespace Go.Eng
open Go.Proofs Go.RowKit
noncomputable def Zsk:FuncId×Con:=(76,⟨[.leaf 0],[.str],fun p=>Z0f p⟩)
theorem text_k:Zk Tryz.prog Zsk.1 Zsk.2:=fun w v vals x z hv ha hz=>by
 obtain ⟨c0,e0,p0⟩:=ha;subst e0
 exact .inl ⟨fun _ _=>by kernel_rfl,Ret.mono (text_c hv p0 hz) fun y v' _ ⟨r0,e,h0⟩=>⟨r0,e,h0⟩⟩
end Go.Eng
set_option maxRecDepth 100000
set_option maxHeartbeats 4000000
namespace Go.Eng
open Go.Proofs Go.RowKit
noncomputable def Zbh:FuncId×Con:=(35,⟨[.leaf 3],[.str],fun p=>Z6d p⟩)
theorem qtext_i (x:Rat):Zm ⟨Tryz.prog,[(31,0),(33,2),(35,3)],[Zsk],[],[],[],[]⟩ [] Tryz.f35 (.two .no (.two .no (.two (.two .no (.cut ⟨⟨[],[],[]⟩,[(.norm,⟨[1],[],[.s 3 (.dat .str)]⟩)]⟩ .no)) (.two (.two .no (.cut ⟨⟨[],[],[]⟩,[(.norm,⟨[],[],[.s 3 (.dat .str)]⟩)]⟩ .no)) .no)))) [.leaf 3] [.str] (x)=Z6n x:=by kernel_rfl
theorem ZMr:Zk Tryz.prog Zbh.1 Zbh.2:=Zo (C:=⟨Tryz.prog,[(31,0),(33,2),(35,3)],[Zsk],[],[],[],[]⟩) ⟨text_k,trivial⟩ trivial trivial trivial (inl:=[]) trivial (ann:=.two .no (.two .no (.two (.two .no (.cut ⟨⟨[],[],[]⟩,[(.norm,⟨[1],[],[.s 3 (.dat .str)]⟩)]⟩ .no)) (.two (.two .no (.cut ⟨⟨[],[],[]⟩,[(.norm,⟨[],[],[.s 3 (.dat .str)]⟩)]⟩ .no)) .no)))) Tryz.func35 (fun _ _=>by kernel_rfl) rfl fun v vals x z ha hz=>(qtext_i x).trans (Z5v hz)
end Go.Eng
set_option maxRecDepth 100000
set_option maxHeartbeats 4000000
namespace Go.Eng
open Go.Proofs Go.RowKit
noncomputable def Zgk:FuncId×Con:=(7,⟨[],[.bool],fun _=>ZZf⟩)
theorem Zyv  : Zm ⟨Tryz.prog,[(31,0),(33,2),(35,3),(39,1),(41,4)],[ZKc,ZTi,ZYk,ZDc,Z9i,ZRi,Zek,Zbh],[],[],[],[]⟩ [] Tryz.f7 (.two .no (.two .no (.two (.cut ⟨⟨[],[],[]⟩,[(.norm,⟨[],[],[.s 3 (.box 35 (.dat (.leaf 3))),.s 4 (.dat (.int .i64))]⟩)]⟩ .no) (.two .no (.two .no (.two .no (.two (.cut ⟨⟨[],[],[]⟩,[(.norm,⟨[],[],[.s 0 (.dat .bool)]⟩)]⟩ .no) .no))))))) [] [.bool] ()=ZZf  := by kernel_rfl
theorem Zut:Zk Tryz.prog Zgk.1 Zgk.2:=Zo (C:=⟨Tryz.prog,[(31,0),(33,2),(35,3),(39,1),(41,4)],[ZKc,ZTi,ZYk,ZDc,Z9i,ZRi,Zek,Zbh],[],[],[],[]⟩) ⟨Zyh,drum8_k,force_k,Zyi,kappa_k,Z4u,Zgx,ZMr,trivial⟩ trivial trivial trivial (inl:=[]) trivial (ann:=.two .no (.two .no (.two (.cut ⟨⟨[],[],[]⟩,[(.norm,⟨[],[],[.s 3 (.box 35 (.dat (.leaf 3))),.s 4 (.dat (.int .i64))]⟩)]⟩ .no) (.two .no (.two .no (.two .no (.two (.cut ⟨⟨[],[],[]⟩,[(.norm,⟨[],[],[.s 0 (.dat .bool)]⟩)]⟩ .no) .no))))))) Tryz.func7 (fun _ _=>by kernel_rfl) rfl fun v vals x z ha hz=>(Zyv ).trans (hz)
end Go.Eng
set_option maxRecDepth 100000
set_option maxHeartbeats 4000000
namespace Go.Eng
open Go.Proofs Go.RowKit
noncomputable def Zec:FuncId×Con:=(80,⟨[.slice (.slice (.leaf 3))],[.int .i64],fun p=>Zmd p⟩)
theorem Z8s (m:List (List Rat)):Zm ⟨Tryz.prog,[(31,0),(33,2),(35,3),(39,1),(41,4)],[],[],[],[],[]⟩ [] Tryz.f80 .no [.slice (.slice (.leaf 3))] [.int .i64] (m)=Zmd m:=by kernel_rfl
theorem Zxg:Zk Tryz.prog Zec.1 Zec.2:=Zo (C:=⟨Tryz.prog,[(31,0),(33,2),(35,3),(39,1),(41,4)],[],[],[],[],[]⟩) trivial trivial trivial trivial (inl:=[]) trivial (ann:=.no) Tryz.func80 (fun _ _=>by kernel_rfl) rfl fun v vals x z ha hz=>(Z8s x).trans hz
end Go.Eng
set_option maxRecDepth 100000
set_option maxHeartbeats 4000000
namespace Go.Eng
open Go.Proofs Go.RowKit
noncomputable def ZRd:FuncId×Con:=(78,⟨[.slice (.slice (.leaf 3))],[.bool],fun p=>ZZe p⟩)
theorem Zfv (m:List (List Rat)):Zm ⟨Tryz.prog,[(31,0),(33,2),(35,3),(39,1),(41,4)],[Zec],[],[],[],[]⟩ [(130,Tryz.f130,.no),(131,Tryz.f131,.no),(177,Tryz.f177,.cut ⟨⟨[],[],[]⟩,[(.ret,⟨[],[],[.s 0 (.dat (.int .i64))]⟩)]⟩ (.two .no (.two (.two .no (.two (.cut ⟨⟨[0,1,7],[],[.s 8 (.dat (.int .i64))]⟩,[(.exit 0,⟨[],[],[]⟩),(.ret,⟨[],[],[.s 0 (.dat (.int .i64))]⟩)]⟩ .no) .no)) .no)))] Tryz.f78 (.two .no (.two .no (.two (.cut ⟨⟨[],[],[]⟩,[(.norm,⟨[],[],[.s 2 (.dat .bool)]⟩)]⟩ .no) .no))) [.slice (.slice (.leaf 3))] [.bool] (m)=ZZe m:=by kernel_rfl
theorem ZGj:Zk Tryz.prog ZRd.1 ZRd.2:=Zo (C:=⟨Tryz.prog,[(31,0),(33,2),(35,3),(39,1),(41,4)],[Zec],[],[],[],[]⟩) ⟨Zxg,trivial⟩ trivial trivial trivial (inl:=[(130,Tryz.f130,.no),(131,Tryz.f131,.no),(177,Tryz.f177,.cut ⟨⟨[],[],[]⟩,[(.ret,⟨[],[],[.s 0 (.dat (.int .i64))]⟩)]⟩ (.two .no (.two (.two .no (.two (.cut ⟨⟨[0,1,7],[],[.s 8 (.dat (.int .i64))]⟩,[(.exit 0,⟨[],[],[]⟩),(.ret,⟨[],[],[.s 0 (.dat (.int .i64))]⟩)]⟩ .no) .no)) .no)))]) ⟨⟨Tryz.func130,fun _ _=>by kernel_rfl⟩,⟨Tryz.func131,fun _ _=>by kernel_rfl⟩,⟨Tryz.func177,fun _ _=>by kernel_rfl⟩,trivial⟩ (ann:=(.two .no (.two .no (.two (.cut ⟨⟨[],[],[]⟩,[(.norm,⟨[],[],[.s 2 (.dat .bool)]⟩)]⟩ .no) .no)))) Tryz.func78 (fun _ _=>by kernel_rfl) rfl fun v vals x z ha hz=>(Zfv x).trans hz
end Go.Eng
set_option maxRecDepth 100000
set_option maxHeartbeats 4000000
namespace Go.Eng
open Go.Proofs Go.RowKit
noncomputable def Zdj:FuncId×Con:=(224,⟨[.leaf 3,.leaf 3],[.leaf 3],fun p=>ZAk p.1 p.2⟩)
theorem qOf_i (x:Rat) (y:Rat):Zm ⟨Tryz.prog,[(31,0),(33,2),(35,3),(39,1),(41,4)],[],[],[],[],[]⟩ [] Tryz.f224 .no [.leaf 3,.leaf 3] [.leaf 3] (x,y)=ZAk x y:=by kernel_rfl
theorem qOf_k:Zk Tryz.prog Zdj.1 Zdj.2:=Zo (C:=⟨Tryz.prog,[(31,0),(33,2),(35,3),(39,1),(41,4)],[],[],[],[],[]⟩) trivial trivial trivial trivial (inl:=[]) trivial (ann:=.no) Tryz.func224 (fun _ _=>by kernel_rfl) rfl fun v vals x z ha hz=>(qOf_i x.1 x.2).trans hz
end Go.Eng
set_option maxRecDepth 100000
namespace Go.Eng
open Go.Proofs Go.RowKit
theorem Zaw : ∀ y w, (method (Tryz.prog.types.size + Made.depth) 35 y "Add").run Tryz.prog w = .ok (12, y) w := fun _ _ => by kernel_rfl
theorem Z9t : ∀ y w, (method (Tryz.prog.types.size + Made.depth) 35 y "Conj").run Tryz.prog w = .ok (222, y) w := fun _ _ => by kernel_rfl
theorem ZRw : ∀ y w, (method (Tryz.prog.types.size + Made.depth) 35 y "Div").run Tryz.prog w = .ok (118, y) w := fun _ _ => by kernel_rfl
theorem Z1p : ∀ y w, (method (Tryz.prog.types.size + Made.depth) 35 y "Mul").run Tryz.prog w = .ok (13, y) w := fun _ _ => by kernel_rfl
theorem Zdv : ∀ y w, (method (Tryz.prog.types.size + Made.depth) 35 y "Neg").run Tryz.prog w = .ok (53, y) w := fun _ _ => by kernel_rfl
theorem Zhw : ∀ y w, (method (Tryz.prog.types.size + Made.depth) 35 y "Of").run Tryz.prog w = .ok (224, y) w := fun _ _ => by kernel_rfl
theorem Zkx : ∀ y w, (method (Tryz.prog.types.size + Made.depth) 35 y "Sub").run Tryz.prog w = .ok (14, y) w := fun _ _ => by kernel_rfl
theorem Zzv : ∀ y w, (method (Tryz.prog.types.size + Made.depth) 35 y "Zero").run Tryz.prog w = .ok (16, y) w := fun _ _ => by kernel_rfl
end Go.Eng
set_option maxRecDepth 100000
set_option maxHeartbeats 4000000
namespace Go.Eng
open Go.Proofs Go.RowKit
noncomputable def Z9e:FuncId×Con:=(151,⟨[.int .i64],[.leaf 3],fun p=>Z3e p⟩)
theorem Zbu (n : Int) : Zm ⟨Tryz.prog, [(31, 0), (33, 2), (35, 3), (39, 1), (41, 4)], [ZDc, Zdj], [], [], [], [((35, "Of"), 224)]⟩ [] Tryz.f151 .no [.int .i64] [.leaf 3] (n) = Z3e n := by kernel_rfl
theorem Zsn : Zk Tryz.prog Z9e.1 Z9e.2 := Zo (C := ⟨Tryz.prog, [(31, 0), (33, 2), (35, 3), (39, 1), (41, 4)], [ZDc, Zdj], [], [], [], [((35, "Of"), 224)]⟩) ⟨Zyi, qOf_k, trivial⟩ trivial trivial ⟨Zhw, trivial⟩ (inl := []) trivial (ann := .no) Tryz.func151 (fun _ _ => by kernel_rfl) rfl fun v vals x z ha hz => (Zbu x).trans hz
end Go.Eng
namespace Go.Eng
open Go.Proofs Go.RowKit
set_option maxRecDepth 100000
theorem ZRp:Elem Tryz.prog 26 35 (Zfb).n 56 (Value.agg #[Value.bool false,Value.slice none 0 0,Value.slice none 0 0]):=⟨Tryz.underlying26,by kernel_rfl,rfl,by decide⟩
noncomputable def Zcg:FuncId×ConO:=(201,⟨[.slice (.leaf 3)],35,.leaf 3,fun p=>Zkf 56 p⟩)
theorem ZBr:ZNh Tryz.prog Zcg.1 Zcg.2:=fun w v vals x z hv ha hz=>by
 obtain ⟨cs,rfl,p0⟩:=ha
 have hz:Zkf 56 (show List Rat from x)=some z:=hz
 obtain ⟨hb,rfl⟩:=Ziv hz
 obtain ⟨q,n,c,rfl⟩:=Znf (show (Zy Zfb).rel v cs z from p0)
 refine ⟨fun _ _=>by kernel_rfl,?_⟩
 have hn:n=(show List Rat from z).length:=by obtain ⟨_,_,e,_⟩:=p0;cases e;rfl
 refine Z4o (K:=8) (args:=[.slice q n c]) hv Tryz.func201 rfl rfl zl fun fa hS=>?_
 refine sr ?_
 refine mw hS rfl fun fa hS=>?_
 refine oe ?_
 refine wp_seq_k fun N1 hN1=>?_
 refine sr ?_
 refine mv hS rfl fun fa hS=>?_
 refine ov hS rfl (ZNu hS Tryz.underlying26 rfl rfl) fun fa hS=>?_
 refine oe ?_
 cases q with
 | none =>
  refine ZS hS rfl rfl ?_
  have hx:(show List Rat from z)=[]:=by
   obtain ⟨q',c',e,_,_,h3⟩:=p0
   cases e
   rcases h3 with h3 | ⟨_,_,_,_,_,h4,_⟩
   ·exact h3
   ·cases h4
  have hx0:n=0:=by rw [hn,hx];rfl
  refine sr ?_;refine mw hS rfl fun fa hS=>?_;refine oe ?_;refine wp_ret ?_;refine ZYa ?_;have hS2:=hS.nilLoc 35 (Zfb).n;have:=Z5l (P:=Tryz.prog) (A:=Zfb) hS2 (i:=0) (ob:=none) (n:=0) (cap:=0) (cs:=[]) rfl (ZNa (fn:=Tryz.f201) (r:=.tmp 2) rfl (ZR (t:=2) (y:=.slice (mkA none) 0 0) hS2 rfl)) (l:=([]:List Rat)) ZYd rfl;rw [hx];exact this
 | some ad =>
  refine ZM hS rfl rfl ?_;refine wp_skip ?_;refine Zg (hN1 _ _ ?_);refine sr ?_;obtain ⟨b,wo,hrun,hS⟩:=ZBu ZRp hS;refine Zzb wn rfl zl hrun hS fun fa hS=>?_;refine mv hS rfl fun fa hS=>?_;obtain ⟨b',cap',cs2,wo,hr,hS',hrel⟩:=ZOf (ty:=26) (A:=Zfb) ZRp hS (i:=0) rfl (Rep.mono (Zy Zfb) hS.vst.le p0) (n':=n) (by omega) (by rw [hn];exact hb) (by decide);refine Zzb wn rfl zl (Zqe hS rfl rfl hr) hS' fun fa hS=>?_;refine mw hS rfl fun fa hS=>?_;refine oe ?_;refine wp_ret ?_;exact Z5l hS (i:=0) rfl (ZNa rfl (ZR hS rfl)) hrel hn
end Go.Eng
set_option maxRecDepth 100000
set_option maxHeartbeats 4000000
namespace Go.Eng
open Go.Proofs Go.RowKit
noncomputable def Zeh:FuncId×Con:=(148,⟨[.slice (.slice (.leaf 3))],[.slice (.slice (.leaf 3)),.slice (.int .i64),.leaf 3],fun p=>Z4g p⟩)
theorem ZFs (m : List (List Rat)) : Zm ⟨Tryz.prog, [(31, 0), (33, 2), (35, 3), (39, 1), (41, 4)], [Z0b, Z1b, ZUe, Zyg, ZOd, Z9e], [8], [Zcg], [], [((35, "Div"), 118), ((35, "Mul"), 13), ((35, "Neg"), 53), ((35, "Sub"), 14), ((35, "Zero"), 16)]⟩ [(80, Tryz.f80, .cut ⟨⟨[], [], []⟩, [(.ret, ⟨[], [], [.s 0 (.dat (.int .i64))]⟩)]⟩ .no), (184, Tryz.f184, .two .no (.two .no (.two (.two .no (.two (.cut ⟨⟨[3, 9, 10], [], [.s 11 (.dat (.int .i64)), .l (.sl 3) (.mat 26 35 (.leaf 3))]⟩, [(.exit 0, ⟨[3], [], [.l (.sl 3) (.mat 26 35 (.leaf 3))]⟩)]⟩ .no) .no)) .no)))] Tryz.f148 (.two .no (.two .no (.two .no (.two .no (.two (.two .no (.two (.cut ⟨⟨[0, 4, 6, 19], [], [.s 5 (.own 3 (.int .i64)), .s 20 (.dat (.int .i64)), .l (.sl 0) (.mat 26 35 (.leaf 3)), .l (.sl 6) (.box 35 (.dat (.leaf 3)))]⟩, [(.exit 0, ⟨[0, 4, 6], [], [.s 5 (.own 3 (.int .i64)), .l (.sl 0) (.mat 26 35 (.leaf 3)), .l (.sl 6) (.box 35 (.dat (.leaf 3)))]⟩)]⟩ (.two (.two .no (.two .no (.two (.cut ⟨⟨[], [], []⟩, [(.norm, ⟨[0, 4, 6, 19, 20], [], [.s 5 (.own 3 (.int .i64)), .l (.sl 0) (.mat 26 35 (.leaf 3)), .l (.sl 6) (.box 35 (.dat (.leaf 3)))]⟩)]⟩ (.two (.two .no (.two .no (.two .no (.two (.two (.cut ⟨⟨[0, 4, 5, 6, 7, 8, 19, 20], [], [.s 9 (.dat (.int .i64))]⟩, [(.exit 2, ⟨[0, 4, 5, 6, 7, 8, 19, 20], [], [.s 9 (.dat (.int .i64))]⟩)]⟩ (.two (.two (.two (.cut ⟨⟨[], [], []⟩, [(.norm, ⟨[0, 4, 5, 6, 7, 8, 9, 19, 20], [], [.s 40 (.dat .bool)]⟩)]⟩ .no) .no) .no) .no)) .no) (.two .no (.two (.two .no (.cut ⟨⟨[], [], []⟩, [(.norm, ⟨[0, 4, 5, 6, 7, 8, 19, 20], [], [.l (.sl 0) (.mat 26 35 (.leaf 3)), .l (.sl 6) (.box 35 (.dat (.leaf 3)))]⟩)]⟩ .no)) (.two .no (.two .no (.two (.two .no (.two (.cut ⟨⟨[0, 4, 5, 6, 7, 8, 10, 19, 20, 83], [], [.s 84 (.dat (.int .i64)), .l (.sl 0) (.mat 26 35 (.leaf 3))]⟩, [(.exit 4, ⟨[0, 4, 5, 6, 7, 8, 19, 20], [], [.l (.sl 0) (.mat 26 35 (.leaf 3))]⟩)]⟩ .no) .no)) (.two (.two .no (.two (.cut ⟨⟨[0, 4, 5, 6, 7, 8, 19, 20, 108], [], [.s 109 (.dat (.int .i64)), .l (.sl 0) (.mat 26 35 (.leaf 3))]⟩, [(.exit 6, ⟨[0, 4, 5, 6, 7, 19, 20], [], [.l (.sl 0) (.mat 26 35 (.leaf 3))]⟩)]⟩ (.two (.two .no (.two .no (.two (.cut ⟨⟨[], [], []⟩, [(.norm, ⟨[0, 4, 5, 6, 7, 8, 19, 20, 108, 109], [], [.l (.sl 0) (.mat 26 35 (.leaf 3))]⟩)]⟩ (.two (.two .no (.two .no (.two (.two (.cut ⟨⟨[], [], []⟩, [(.norm, ⟨[0, 4, 5, 6, 7, 8, 12, 13, 19, 20, 108, 109], [], [.s 126 (.dat .bool)]⟩)]⟩ .no) .no) (.two .no (.two (.cut ⟨⟨[0, 4, 5, 6, 7, 8, 12, 13, 19, 20, 108, 109, 131], [], [.s 132 (.dat (.int .i64)), .l (.sl 0) (.mat 26 35 (.leaf 3))]⟩, [(.exit 8, ⟨[0, 4, 5, 6, 7, 8, 19, 20, 108, 109], [], [.l (.sl 0) (.mat 26 35 (.leaf 3))]⟩)]⟩ .no) .no))))) .no)) .no))) .no)) .no)) .no)))))))))) .no)) .no))) .no)) .no)) .no))))) [.slice (.slice (.leaf 3))] [.slice (.slice (.leaf 3)), .slice (.int .i64), .leaf 3] (m) = Z4g m := by kernel_rfl
theorem ZBo : Zk Tryz.prog Zeh.1 Zeh.2 := Zo (C := ⟨Tryz.prog, [(31, 0), (33, 2), (35, 3), (39, 1), (41, 4)], [Z0b, Z1b, ZUe, Zyg, ZOd, Z9e], [8], [Zcg], [], [((35, "Div"), 118), ((35, "Mul"), 13), ((35, "Neg"), 53), ((35, "Sub"), 14), ((35, "Zero"), 16)]⟩) ⟨Zhh, ZLg, Z9l, ZUq, ZRj, Zsn, trivial⟩ ⟨ZBr, trivial⟩ trivial ⟨ZRw, Z1p, Zdv, Zkx, Zzv, trivial⟩ (inl := [(80, Tryz.f80, .cut ⟨⟨[], [], []⟩, [(.ret, ⟨[], [], [.s 0 (.dat (.int .i64))]⟩)]⟩ .no), (184, Tryz.f184, .two .no (.two .no (.two (.two .no (.two (.cut ⟨⟨[3, 9, 10], [], [.s 11 (.dat (.int .i64)), .l (.sl 3) (.mat 26 35 (.leaf 3))]⟩, [(.exit 0, ⟨[3], [], [.l (.sl 3) (.mat 26 35 (.leaf 3))]⟩)]⟩ .no) .no)) .no)))]) ⟨⟨Tryz.func80, fun _ _ => by kernel_rfl⟩, ⟨Tryz.func184, fun _ _ => by kernel_rfl⟩, trivial⟩ (ann := (.two .no (.two .no (.two .no (.two .no (.two (.two .no (.two (.cut ⟨⟨[0, 4, 6, 19], [], [.s 5 (.own 3 (.int .i64)), .s 20 (.dat (.int .i64)), .l (.sl 0) (.mat 26 35 (.leaf 3)), .l (.sl 6) (.box 35 (.dat (.leaf 3)))]⟩, [(.exit 0, ⟨[0, 4, 6], [], [.s 5 (.own 3 (.int .i64)), .l (.sl 0) (.mat 26 35 (.leaf 3)), .l (.sl 6) (.box 35 (.dat (.leaf 3)))]⟩)]⟩ (.two (.two .no (.two .no (.two (.cut ⟨⟨[], [], []⟩, [(.norm, ⟨[0, 4, 6, 19, 20], [], [.s 5 (.own 3 (.int .i64)), .l (.sl 0) (.mat 26 35 (.leaf 3)), .l (.sl 6) (.box 35 (.dat (.leaf 3)))]⟩)]⟩ (.two (.two .no (.two .no (.two .no (.two (.two (.cut ⟨⟨[0, 4, 5, 6, 7, 8, 19, 20], [], [.s 9 (.dat (.int .i64))]⟩, [(.exit 2, ⟨[0, 4, 5, 6, 7, 8, 19, 20], [], [.s 9 (.dat (.int .i64))]⟩)]⟩ (.two (.two (.two (.cut ⟨⟨[], [], []⟩, [(.norm, ⟨[0, 4, 5, 6, 7, 8, 9, 19, 20], [], [.s 40 (.dat .bool)]⟩)]⟩ .no) .no) .no) .no)) .no) (.two .no (.two (.two .no (.cut ⟨⟨[], [], []⟩, [(.norm, ⟨[0, 4, 5, 6, 7, 8, 19, 20], [], [.l (.sl 0) (.mat 26 35 (.leaf 3)), .l (.sl 6) (.box 35 (.dat (.leaf 3)))]⟩)]⟩ .no)) (.two .no (.two .no (.two (.two .no (.two (.cut ⟨⟨[0, 4, 5, 6, 7, 8, 10, 19, 20, 83], [], [.s 84 (.dat (.int .i64)), .l (.sl 0) (.mat 26 35 (.leaf 3))]⟩, [(.exit 4, ⟨[0, 4, 5, 6, 7, 8, 19, 20], [], [.l (.sl 0) (.mat 26 35 (.leaf 3))]⟩)]⟩ .no) .no)) (.two (.two .no (.two (.cut ⟨⟨[0, 4, 5, 6, 7, 8, 19, 20, 108], [], [.s 109 (.dat (.int .i64)), .l (.sl 0) (.mat 26 35 (.leaf 3))]⟩, [(.exit 6, ⟨[0, 4, 5, 6, 7, 19, 20], [], [.l (.sl 0) (.mat 26 35 (.leaf 3))]⟩)]⟩ (.two (.two .no (.two .no (.two (.cut ⟨⟨[], [], []⟩, [(.norm, ⟨[0, 4, 5, 6, 7, 8, 19, 20, 108, 109], [], [.l (.sl 0) (.mat 26 35 (.leaf 3))]⟩)]⟩ (.two (.two .no (.two .no (.two (.two (.cut ⟨⟨[], [], []⟩, [(.norm, ⟨[0, 4, 5, 6, 7, 8, 12, 13, 19, 20, 108, 109], [], [.s 126 (.dat .bool)]⟩)]⟩ .no) .no) (.two .no (.two (.cut ⟨⟨[0, 4, 5, 6, 7, 8, 12, 13, 19, 20, 108, 109, 131], [], [.s 132 (.dat (.int .i64)), .l (.sl 0) (.mat 26 35 (.leaf 3))]⟩, [(.exit 8, ⟨[0, 4, 5, 6, 7, 8, 19, 20, 108, 109], [], [.l (.sl 0) (.mat 26 35 (.leaf 3))]⟩)]⟩ .no) .no))))) .no)) .no))) .no)) .no)) .no)))))))))) .no)) .no))) .no)) .no)) .no)))))) Tryz.func148 (fun _ _ => by kernel_rfl) rfl fun v vals x z ha hz => (ZFs x).trans hz
end Go.Eng
set_option maxRecDepth 100000
set_option maxHeartbeats 4000000
namespace Go.Eng
open Go.Proofs Go.RowKit
noncomputable def Zok:FuncId×Con:=(132,⟨[.slice (.slice (.leaf 3))],[.slice (.slice (.leaf 3)),.slice (.int .i64),.int .i64],fun p=>Zkl p⟩)
theorem ZTv (m:List (List Rat)):Zm ⟨Tryz.prog,[(31,0),(33,2),(35,3),(39,1),(41,4)],[ZRd,Zeh],[],[],[],[]⟩ [] Tryz.f132 .no [.slice (.slice (.leaf 3))] [.slice (.slice (.leaf 3)),.slice (.int .i64),.int .i64] (m)=Zkl m:=by kernel_rfl
theorem Zkt:Zk Tryz.prog Zok.1 Zok.2:=Zo (C:=⟨Tryz.prog,[(31,0),(33,2),(35,3),(39,1),(41,4)],[ZRd,Zeh],[],[],[],[]⟩) ⟨ZGj,ZBo,trivial⟩ trivial trivial trivial (inl:=[]) trivial (ann:=.no) Tryz.func132 (fun _ _=>by kernel_rfl) rfl fun v vals x z ha hz=>(ZTv x).trans hz
end Go.Eng
set_option maxRecDepth 100000
set_option maxHeartbeats 4000000
namespace Go.Eng
open Go.Proofs Go.RowKit
noncomputable def Zdg:FuncId×Con:=(79,⟨[.slice (.slice (.leaf 3))],[.int .i64,.int .i64],fun p=>ZXg p⟩)
theorem Rank_i (m:List (List Rat)):Zm ⟨Tryz.prog,[(31,0),(33,2),(35,3),(39,1),(41,4)],[Zok],[],[],[],[]⟩ [] Tryz.f79 .no [.slice (.slice (.leaf 3))] [.int .i64,.int .i64] (m)=ZXg m:=by kernel_rfl
theorem ZMq:Zk Tryz.prog Zdg.1 Zdg.2:=Zo (C:=⟨Tryz.prog,[(31,0),(33,2),(35,3),(39,1),(41,4)],[Zok],[],[],[],[]⟩) ⟨Zkt,trivial⟩ trivial trivial trivial (inl:=[]) trivial (ann:=.no) Tryz.func79 (fun _ _=>by kernel_rfl) rfl fun v vals x z ha hz=>(Rank_i x).trans hz
end Go.Eng
set_option maxRecDepth 100000
set_option maxHeartbeats 4000000
namespace Go.Eng
open Go.Proofs Go.RowKit
noncomputable def Zpj:FuncId×Con:=(153,⟨[.slice (.slice (.leaf 3)),.slice (.slice (.leaf 3))],[.slice (.slice (.leaf 3))],fun p=>ZPh p.1 p.2⟩)
theorem Zpv (m:List (List Rat)) (b:List (List Rat)):Zm ⟨Tryz.prog,[(31,0),(33,2),(35,3),(39,1),(41,4)],[],[8],[Zcg],[],[]⟩ [(184,Tryz.f184,.two .no (.two .no (.two (.two .no (.two (.cut ⟨⟨[3,9,10],[],[.s 11 (.dat (.int .i64)),.l (.sl 3) (.mat 26 35 (.leaf 3))]⟩,[(.exit 0,⟨[3],[],[.l (.sl 3) (.mat 26 35 (.leaf 3))]⟩)]⟩ .no) .no)) .no)))] Tryz.f153 (.two .no (.two .no (.two (.two .no (.two (.cut ⟨⟨[1,5,10],[],[.s 11 (.dat (.int .i64)),.l (.sl 5) (.mat 26 35 (.leaf 3))]⟩,[(.exit 0,⟨[5],[],[.l (.sl 5) (.mat 26 35 (.leaf 3))]⟩)]⟩ .no) .no)) .no))) [.slice (.slice (.leaf 3)),.slice (.slice (.leaf 3))] [.slice (.slice (.leaf 3))] (m,b)=ZPh m b:=by kernel_rfl
theorem Zhu:Zk Tryz.prog Zpj.1 Zpj.2:=Zo (C:=⟨Tryz.prog,[(31,0),(33,2),(35,3),(39,1),(41,4)],[],[8],[Zcg],[],[]⟩) trivial ⟨ZBr,trivial⟩ trivial trivial (inl:=[(184,Tryz.f184,.two .no (.two .no (.two (.two .no (.two (.cut ⟨⟨[3,9,10],[],[.s 11 (.dat (.int .i64)),.l (.sl 3) (.mat 26 35 (.leaf 3))]⟩,[(.exit 0,⟨[3],[],[.l (.sl 3) (.mat 26 35 (.leaf 3))]⟩)]⟩ .no) .no)) .no)))]) ⟨⟨Tryz.func184,fun _ _=>by kernel_rfl⟩,trivial⟩ (ann:=(.two .no (.two .no (.two (.two .no (.two (.cut ⟨⟨[1,5,10],[],[.s 11 (.dat (.int .i64)),.l (.sl 5) (.mat 26 35 (.leaf 3))]⟩,[(.exit 0,⟨[5],[],[.l (.sl 5) (.mat 26 35 (.leaf 3))]⟩)]⟩ .no) .no)) .no)))) Tryz.func153 (fun _ _=>by kernel_rfl) rfl fun v vals x z ha hz=>(Zpv x.1 x.2).trans hz
end Go.Eng
set_option maxRecDepth 100000
set_option maxHeartbeats 4000000
namespace Go.Eng
open Go.Proofs Go.RowKit
noncomputable def Z7j:FuncId×Con:=(154,⟨[.slice (.leaf 3)],[.slice (.slice (.leaf 3))],fun p=>ZGi p⟩)
theorem Zzw (b:List Rat):Zm ⟨Tryz.prog,[(31,0),(33,2),(35,3),(39,1),(41,4)],[],[8],[],[],[]⟩ [] Tryz.f154 (.two .no (.two .no (.two (.two .no (.two (.cut ⟨⟨[3,9,10],[],[.s 11 (.dat (.int .i64)),.l (.sl 3) (.mat 26 35 (.leaf 3))]⟩,[(.exit 0,⟨[3],[],[.l (.sl 3) (.mat 26 35 (.leaf 3))]⟩)]⟩ .no) .no)) .no))) [.slice (.leaf 3)] [.slice (.slice (.leaf 3))] (b)=ZGi b:=by kernel_rfl
theorem Z8v:Zk Tryz.prog Z7j.1 Z7j.2:=Zo (C:=⟨Tryz.prog,[(31,0),(33,2),(35,3),(39,1),(41,4)],[],[8],[],[],[]⟩) trivial trivial trivial trivial (inl:=[]) trivial (ann:=(.two .no (.two .no (.two (.two .no (.two (.cut ⟨⟨[3,9,10],[],[.s 11 (.dat (.int .i64)),.l (.sl 3) (.mat 26 35 (.leaf 3))]⟩,[(.exit 0,⟨[3],[],[.l (.sl 3) (.mat 26 35 (.leaf 3))]⟩)]⟩ .no) .no)) .no)))) Tryz.func154 (fun _ _=>by kernel_rfl) rfl fun v vals x z ha hz=>(Zzw x).trans hz
noncomputable def Zmk (x:Int) (y:Int):Option (Int×Int) :=
 bnd (Zhc x y) fun a =>
 some ((a.1,a.2))
end Go.Eng
namespace Go.Eng
open Go.Proofs Go.RowKit
theorem bmul_w {c:World} {a:Zb} (hv:VIn a c) {d:List Value} {x:Int} (i:Rep.rel (Zd .u64) a d x) {e:List Value} {y:Int} (j:Rep.rel (Zd .u64) a e y) {z:Int×Int} (H:Zmk x y=some z):Ret Tryz.prog 172 #[(Zd .u64).val d,(Zd .u64).val e] c a (fun y v'=>∃ g b,y = .tuple #[(Zd .u64).val g,(Zd .u64).val b]∧(Zd .u64).rel v' g z.1∧(Zd .u64).rel v' b z.2):=by
 obtain ⟨rfl,b⟩:=i;obtain ⟨rfl,k⟩:=j;refine ZJb (K:=30) (args:=[.int .u64 x,.int .u64 y]) hv Tryz.func172 rfl rfl zl fun f S=>?_;unfold Zmk at H;refine sr (mw S rfl fun f S=>mw S rfl fun f S=>oe (Zj fun _ l=>ZM S rfl rfl (wp_skip (Zg (l _ _ (Zj fun _ m=>bO H fun h n H=>Zs (mv S rfl fun f S=>mv S rfl fun f S=>opc S rfl (Z9 S [.int .u64 x,.int .u64 y] Zon rfl rfl) (ZTm S.vin (show Rep.rel (Zd .u64) _ [.int .u64 x] x from (ZC b)) (show Rep.rel (Zd .u64) _ [.int .u64 y] y from (ZC k)) n) ?_)))))));rintro _ s f w t ⟨u,v,rfl,o,p⟩ S;obtain ⟨rfl,q⟩:=o;obtain ⟨rfl,r⟩:=p;refine mv S rfl fun f S=>ov S rfl (ZAa S rfl rfl) fun f S=>ov S rfl (ZAa S rfl rfl) fun f S=>mw S rfl fun f S=>mw S rfl fun f S=>Zr (Zg (m _ _ (sr (mv S rfl fun f S=>mv S rfl fun f S=>mw S rfl fun f S=>mw S rfl fun f S=>oe (wp_ret ?_)))));obtain rfl:=Zn H;refine ZEa S (ZLe rfl (ZR S rfl) (ZR S rfl)) ⟨[.int .u64 (h.1)],[.int .u64 (h.2)],rfl,(ZC q),(ZC r)⟩
set_option maxRecDepth 100000
theorem Zmm:Elem Tryz.prog 26 35 (Zfb).n 56 (Value.agg #[Value.bool false,Value.slice none 0 0,Value.slice none 0 0]):=⟨Tryz.underlying26,by kernel_rfl,rfl,by decide⟩
theorem Z9k:Z6c Tryz.prog 26 35 (Zfb).n:=⟨fun _=>by kernel_rfl,fun _=>by kernel_rfl⟩
theorem Zqx:Tryz.prog.follows .mixedOrders=true:=by kernel_rfl
theorem ZMs:Zfa Tryz.prog 172:=fun _ _=>by kernel_rfl
theorem Z3o:Z5h Tryz.prog 3 215 .i64 .u64:=fun _ _=>by kernel_rfl
theorem Zmv:Z5h Tryz.prog 215 3 .u64 .i64:=fun _ _=>by kernel_rfl
noncomputable def Zyl:FuncId×ConO:=(186,⟨[.slice (.leaf 3),.int .i64],35,.leaf 3,fun p=>repF 56 p.1 p.2⟩)
theorem Z7w:ZNh Tryz.prog Zyl.1 Zyl.2:=fun w v vals x z hv ha hz=>by
 obtain ⟨cs,vs,rfl,p0,c1,rfl,rfl,hin⟩:=ha
 obtain ⟨x1,k0⟩:=x
 have hz:repF 56 (show List Rat from x1) k0=some z:=hz
 obtain ⟨y,hx1,hzr,hmk⟩:=Z8t hz
 have hx1:x1=[y]:=hx1
 subst hx1 hzr
 obtain ⟨h0,_,hb1,hb2⟩:=ZPa hmk
 obtain ⟨k,rfl⟩:=Int.eq_ofNat_of_zero_le h0
 obtain ⟨q,c,e,hc1,hc2,hne⟩:=(show (Zy Zfb).rel v cs [y] from p0)
 subst e
 rcases hne with hne | ⟨b,off,cc,TT,fr,rfl,hvb,hrel⟩
 ·cases hne
 have hlen1:([y]:List Rat).length=1:=rfl
 rw [hlen1] at hrel
 obtain ⟨c1,c2,e12,hrc,e2⟩:=hrel
 have e2:c2=[]:=e2
 subst e2
 rw [List.append_nil,Nat.one_mul] at e12
 have hl1:=Rep.len _ hrc
 have hAt:At v b off c1:=⟨cc,TT,fr,hvb,by rw [hl1];exact e12⟩
 refine ⟨fun _ _=>by kernel_rfl,?_⟩
 have hk:((k:Int).toNat)=k:=Int.toNat_natCast k
 rw [hk]
 refine Z4o (K:=48) (args:=[.slice (some ⟨b,off,none⟩) 1 c,.int .i64 (k:Int)]) hv Tryz.func186 rfl rfl zl fun fa hS=>?_
 refine sr ?_
 refine mw hS rfl fun fa hS=>?_
 refine oe ?_
 refine wp_seq_k fun N1 hN1=>?_
 refine sr ?_
 refine mv hS rfl fun fa hS=>?_
 refine ov hS rfl (Ze hS rfl rfl Zac) fun fa hS=>?_
 refine oe ?_
 refine ZM hS rfl (decide_eq_false (by omega)) ?_
 refine wp_skip ?_
 refine Zg (hN1 _ _ ?_)
 refine sr ?_
 refine mv hS rfl fun fa hS=>?_
 refine ov hS rfl (Zhe hS rfl rfl Z9k) fun fa hS=>?_
 refine ov hS rfl (ZMd hS rfl (Z3o _)) fun fa hS=>?_
 refine mv hS rfl fun fa hS=>?_
 refine ov hS rfl (ZMd hS rfl (Z3o _)) fun fa hS=>?_
 have w1:IntKind.u64.wrap ((1:Nat):Int)=1:=by decide
 have w2:IntKind.u64.wrap (k:Int)=k:=ZVd (Z9c.2 (by omega))
 rw [w1,w2] at hS
 have hmul:Zmk 1 (k:Int)=some (0,(k:Int)):=by
  unfold Zmk Zhc;rw [if_pos (by omega),Za];simp only;congr 2 <;> omega
 refine ZCq hS wn rfl zl (Z9 hS [.int .u64 1,.int .u64 (k:Int)] ZMs rfl rfl) (bmul_w hS.vin (show Rep.rel (Zd .u64) _ [.int .u64 1] 1 from ZC (by decide)) (show Rep.rel (Zd .u64) _ [.int .u64 (k:Int)] (k:Int) from ZC (Z9c.2 (by omega))) hmul) ?_;rintro _ v1 fa wo hle ⟨r0,r1,rfl,⟨rfl,_⟩,⟨rfl,_⟩⟩ hS;refine mv hS rfl fun fa hS=>?_;refine ov hS rfl (ZAa hS rfl rfl) fun fa hS=>?_;refine ov hS rfl (ZAa hS rfl rfl) fun fa hS=>?_;refine mw hS rfl fun fa hS=>?_;refine mw hS rfl fun fa hS=>?_;refine oe ?_;refine wp_seq_k fun N2 hN2=>?_;refine sr ?_;refine mv hS rfl fun fa hS=>?_;refine ov hS rfl (Ze hS rfl rfl Z0c) fun fa hS=>?_;have g1:decide ((0:Int)<0)=false:=rfl;have hS:St _ _ _ ((22,Value.bool false) :: _) _ _ _ _:=hS;refine mv hS rfl fun fa hS=>?_;refine op_v hS (Zvf hS rfl rfl rfl zl) rfl zl (Zx hS rfl) fun fa hS=>?_;refine op_v hS (Zvf hS rfl rfl rfl zl) rfl zl (Ze hS rfl rfl Z0c) fun fa hS=>?_;refine ov hS rfl (ZAb (b:=false) hS rfl rfl) fun fa hS=>?_;refine oe ?_;refine ZM hS rfl (decide_eq_false (by omega)) ?_;refine wp_skip ?_;refine Zg (hN2 _ _ ?_);refine sr ?_;refine mv hS rfl fun fa hS=>?_;refine ov hS rfl (ZMd hS rfl (Zmv _)) fun fa hS=>?_;have w3:IntKind.i64.wrap (k:Int)=k:=ZVd (ZMa.2 (by omega));rw [w3] at hS;obtain ⟨b2,wo,hrun,hS'⟩:=ZVl Zmm hS (l:=(k:Int)) (c:=(k:Int)) h0 (Int.le_refl _) hb1 hb2
 refine Zzb wn rfl zl (hrun rfl rfl) hS' fun fa hS=>?_;refine mw hS rfl fun fa hS=>?_;refine oe ?_;rw [hk] at hS;have hS:=hS.fr' (σ':=[(7,.slice (mkA (some b2)) k k),(0,.slice (some ⟨b,off,none⟩) 1 c)]) rfl;have src1:∀ {σ:List (Nat×Value)} {ℓ:List Loc} {v':Zb} {a:Act} {w':World},St 48 w v σ ℓ v' a w'→∀ j u,c1[j]? = some u→w'.cell? ((⟨b,off,none⟩:Addr).add j)=some u:=fun hS j u hu=>by
  have:=(hS.view (At.mono hS.vst.le hAt)).cell hu
  rwa [Z0a]
 have hpl1:c1.all plain=true:=Rep.flat _ hrc;obtain ⟨zc,hzc⟩:∃ zc:List Value,zc=(Value.agg #[Value.bool false,Value.slice none 0 0,Value.slice none 0 0]:Value).cells.toList:=⟨_,rfl⟩;have hzl:zc.length=(Zfb).n:=by rw [hzc];rfl
 rw [← hzc] at hS
 let Inv:Nat→Act→World→Prop:=fun j a w'=>∃ v',j≤k∧(0<k→0<j)∧St 48 w v [(8,.int .i64 (j:Int)),(7,.slice (mkA (some b2)) k k)] [.own (some b2) 35 (Zfb).n k k ((List.replicate j c1).flatten++(List.replicate (k-j) zc).flatten)] v' a w'
 have rl:=fun n=>Z7k hl1 n;have rpl:∀ n:Nat,((List.replicate n c1).flatten).all plain=true:=fun n=>Zps hpl1 n;have step:=fun j m (hjm:j+m≤k)=>rp_step (k:=k) hl1 hzl hjm;refine sr ?_;refine mv hS rfl fun fa hS=>?_;refine mv hS rfl fun fa hS=>?_;have hS1:St 48 w v _ [.own (some b2) 35 (Zfb).n k k ((List.replicate 0 c1).flatten++(List.replicate (k-0) zc).flatten)] v1 fa wo:=hS;obtain ⟨wo2,hr,hS'⟩:=Ziq (t:=26) (sT:=26) Zmm hS1 (i:=0) rfl (p:=0) (k:=min 1 k) (c:=(List.replicate (min 1 k) c1).flatten) (rl _) (by omega) (rpl _) (ad:=⟨b,off,none⟩) (sLen:=1) (sCap:=c) (dLen:=k) (dCap:=k) (fun j u hu=>by
  rcases Nat.lt_or_ge 0 k with hk0 | hk0
  ·rw [show min 1 k=1 by omega] at hu;simp only [List.replicate_one,List.flatten_cons,List.flatten_nil,List.append_nil] at hu;exact src1 hS1 j u hu
  ·rw [show min 1 k=0 by omega] at hu;simp at hu) rfl
 have hst:=step 0 (min 1 k) (by omega);simp only [List.set_cons_zero] at hS';rw [hst] at hS';simp only [Nat.zero_add] at hS';rw [Nat.zero_mul] at hr;refine Zzb wn rfl zl (Zur hS1 rfl rfl (hr _)) hS' fun fa hS=>?_;refine mw hS rfl fun fa hS=>?_;refine oe ?_;have hS:=hS.fr' (σ':=[(8,.int .i64 ((min 1 k:Nat):Int)),(7,.slice (mkA (some b2)) k k)]) rfl;refine wp_seq_k fun N3 hN3=>?_;refine wp_block ?_;refine wp_loop_fuel (fun m a w'=>∃ j,k-j<m∧Inv j a w') (k+1) ⟨min 1 k,by omega,v1,by omega,by omega,hS⟩ (fun a w' ⟨j,h,_⟩=>by omega) ?_;rintro m fa wo3 ⟨j,hjm,v3,hjk,hj0,hS⟩ N hN;refine wp_seq_k fun N4 hN4=>?_;refine sr ?_;refine mv hS rfl fun fa hS=>?_;refine mv hS rfl fun fa hS=>?_;refine ov hS rfl (Zhe hS rfl rfl Z9k) fun fa hS=>?_;refine ov hS rfl (Ze hS rfl rfl Zac) fun fa hS=>?_;refine oe ?_;by_cases hlt:j<k
 ·refine ZS hS rfl (decide_eq_true (by omega)) ?_;refine wp_skip ?_;refine Zg (hN4 _ _ ?_);refine wp_block ?_;have hS:=hS.fr' (σ':=[(8,.int .i64 (j:Int)),(7,.slice (mkA (some b2)) k k)]) rfl;refine Z2d (fl:=#[true,true,true,true,true,true,true,false,false,false]) Zqx (by kernel_rfl) hS ?_;intro ops hops hF wo hS;refine rf hops hF 0 rfl (by kernel_rfl) rfl hS (Zx hS rfl) fun fa hS=>?_;refine rf hops hF 1 rfl (by kernel_rfl) rfl hS (Zx hS rfl) fun fa hS=>?_;refine rf hops hF 2 rfl (by kernel_rfl) rfl hS (Zx hS rfl) fun fa hS=>?_;refine rf hops hF 3 rfl (by kernel_rfl) rfl hS (Zrw hS Z9k rfl rfl (by omega) (by omega)) fun fa hS=>?_;refine rf hops hF 4 rfl (by kernel_rfl) rfl hS (Zx hS rfl) fun fa hS=>?_;refine rf hops hF 5 rfl (by kernel_rfl) rfl hS (Zx hS rfl) fun fa hS=>?_;refine rf hops hF 6 rfl (by kernel_rfl) rfl hS (ZJw hS Z9k rfl rfl (by omega) (by omega)) fun fa hS=>?_;rw [Nat.zero_add] at hS;obtain ⟨wo',hr,hS'⟩:=Ziq (t:=26) (sT:=26) Zmm hS (i:=0) rfl (p:=j) (k:=min j (k-j)) (c:=(List.replicate (min j (k-j)) c1).flatten) (rl _) (by omega) (rpl _) (ad:=⟨b2,0,none⟩) (sLen:=j) (sCap:=k) (dLen:=k-j) (dCap:=k-j) (fun i u hu=>by
   have hi:=(List.getElem?_eq_some_iff.1 hu).1;refine ZWj hS (j:=0) rfl i u ?_;rw [ZBq (c:=c1) (m:=min j (k-j)) (n:=j) (by omega),List.append_assoc,List.getElem?_append_left hi];exact hu) rfl
  have hst:=step j (min j (k-j)) (by omega);simp only [List.set_cons_zero] at hS';rw [hst] at hS';refine Znl hops hF 7 (by kernel_rfl) ?_;refine nx_ex' [3,6,1,2,4,5] [0] hops rfl (by kernel_rfl) wn rfl zl (Zur hS rfl rfl (hr _)) hS' fun fa hS=>?_;refine ⟨(py hS rfl rfl (Zx hS rfl) Zsc),?_⟩;refine Znl hops hF 8 (by kernel_rfl) ?_;have hadd:chk .i64 ((j:Int)+((min j (k-j):Nat):Int))=some ((j+min j (k-j):Nat):Int):=by rw [ZB (by omega) (by omega)];rfl
  refine nv [0,7,3,6,1,2,4,5] [] hops rfl (by kernel_rfl) rfl hS (Ze hS rfl rfl (ZOa hadd)) fun fa hS=>?_;refine ⟨Zsc,?_⟩;refine Znl hops hF 9 (by kernel_rfl) ?_;refine nv [0,1,2,3,4,5,6,7,8] [] hops rfl (by kernel_rfl) rfl hS (ZGd hS rfl) fun fa hS=>?_;refine ⟨Zsc,?_⟩;refine Z9q hops hF (by kernel_rfl) ?_;refine Ztb ?_;have hj0:=hj0 (by omega);exact Zg (hN _ _ ⟨j+min j (k-j),by omega,v3,by omega,fun _=>by omega,hS.fr' rfl⟩)
 refine ZM hS rfl (decide_eq_false (by omega)) ?_;refine wp_exit ?_;refine Z0 ?_;refine Z0 ?_;refine Z7a ?_;refine Zg (hN3 _ _ ?_);have hjk:j=k:=by omega
 subst hjk;rw [Nat.sub_self,List.replicate_zero,List.flatten_nil,List.append_nil] at hS;refine sr ?_;refine mv hS rfl fun fa hS=>?_;refine mw hS rfl fun fa hS=>?_;refine oe ?_;refine wp_ret ?_;exact Z5l hS (i:=0) rfl (ZNa rfl (ZR hS rfl)) (Z1d (Rep.mono _ hS.vst.le hrc) _) (List.length_replicate (n:=j) (a:=y)).symm
end Go.Eng
set_option maxRecDepth 100000
set_option maxHeartbeats 4000000
namespace Go.Eng
open Go.Proofs Go.RowKit
noncomputable def ZUi:FuncId×Con:=(108,⟨[.slice (.slice (.leaf 3)),.slice (.leaf 3)],[.slice (.leaf 3),.int .i64],fun p=>ZIi p.1 p.2⟩)
theorem Any_i (m:List (List Rat)) (b:List Rat):Zm ⟨Tryz.prog,[(31,0),(33,2),(35,3),(39,1),(41,4)],[ZRd,Zec,Zeh,Z9e,Zpj,Z7j],[],[Zyl],[],[]⟩ [(150,Tryz.f150,.no)] Tryz.f108 (.two .no (.two (.two (.cut ⟨⟨[],[],[]⟩,[(.norm,⟨[0,1],[],[.s 23 (.dat .bool)]⟩)]⟩ .no) .no) (.two .no (.two .no (.two (.two .no (.two (.cut ⟨⟨[],[],[]⟩,[(.norm,⟨[6,7,8],[],[.s 47 (.dat .bool)]⟩)]⟩ .no) .no)) (.two .no (.two (.two .no (.two (.cut ⟨⟨[6,7,11,50,51],[],[.s 52 (.dat (.int .i64)),.l (.sl 11) (.own 35 (.leaf 3))]⟩,[(.exit 0,⟨[11],[],[.l (.sl 11) (.own 35 (.leaf 3))]⟩)]⟩ .no) .no)) .no))))))) [.slice (.slice (.leaf 3)),.slice (.leaf 3)] [.slice (.leaf 3),.int .i64] (m,b)=ZIi m b:=by kernel_rfl
theorem Any_k:Zk Tryz.prog ZUi.1 ZUi.2:=Zo (C:=⟨Tryz.prog,[(31,0),(33,2),(35,3),(39,1),(41,4)],[ZRd,Zec,Zeh,Z9e,Zpj,Z7j],[],[Zyl],[],[]⟩) ⟨ZGj,Zxg,ZBo,Zsn,Zhu,Z8v,trivial⟩ ⟨Z7w,trivial⟩ trivial trivial (inl:=[(150,Tryz.f150,.no)]) ⟨⟨Tryz.func150,fun _ _=>by kernel_rfl⟩,trivial⟩ (ann:=(.two .no (.two (.two (.cut ⟨⟨[],[],[]⟩,[(.norm,⟨[0,1],[],[.s 23 (.dat .bool)]⟩)]⟩ .no) .no) (.two .no (.two .no (.two (.two .no (.two (.cut ⟨⟨[],[],[]⟩,[(.norm,⟨[6,7,8],[],[.s 47 (.dat .bool)]⟩)]⟩ .no) .no)) (.two .no (.two (.two .no (.two (.cut ⟨⟨[6,7,11,50,51],[],[.s 52 (.dat (.int .i64)),.l (.sl 11) (.own 35 (.leaf 3))]⟩,[(.exit 0,⟨[11],[],[.l (.sl 11) (.own 35 (.leaf 3))]⟩)]⟩ .no) .no)) .no)))))))) Tryz.func108 (fun _ _=>by kernel_rfl) rfl fun v vals x z ha hz=>(Any_i x.1 x.2).trans hz
end Go.Eng
set_option maxRecDepth 100000
set_option maxHeartbeats 4000000
namespace Go.Eng
open Go.Proofs Go.RowKit
noncomputable def ZRk:FuncId×Con:=(133,⟨[.slice (.slice (.leaf 3))],[.bool],fun p=>Z9h p⟩)
theorem Zlt (m:List (List Rat)):Zm ⟨Tryz.prog,[(31,0),(33,2),(35,3),(39,1),(41,4)],[ZRd,Zec],[],[],[],[]⟩ [] Tryz.f133 (.two .no (.two (.cut ⟨⟨[],[],[]⟩,[(.norm,⟨[],[],[.s 2 (.dat .bool)]⟩)]⟩ .no) .no)) [.slice (.slice (.leaf 3))] [.bool] (m)=Z9h m:=by kernel_rfl
theorem Ziu:Zk Tryz.prog ZRk.1 ZRk.2:=Zo (C:=⟨Tryz.prog,[(31,0),(33,2),(35,3),(39,1),(41,4)],[ZRd,Zec],[],[],[],[]⟩) ⟨ZGj,Zxg,trivial⟩ trivial trivial trivial (inl:=[]) trivial (ann:=(.two .no (.two (.cut ⟨⟨[],[],[]⟩,[(.norm,⟨[],[],[.s 2 (.dat .bool)]⟩)]⟩ .no) .no))) Tryz.func133 (fun _ _=>by kernel_rfl) rfl fun v vals x z ha hz=>(Zlt x).trans hz
end Go.Eng
set_option maxRecDepth 100000
set_option maxHeartbeats 4000000
namespace Go.Eng
open Go.Proofs Go.RowKit
noncomputable def Zsl:FuncId×Con:=(81,⟨[.slice (.slice (.leaf 3)),.slice (.leaf 3)],[.slice (.leaf 3),.int .i64],fun p=>ZCg p.1 p.2⟩)
theorem Solve_i (m:List (List Rat)) (b:List Rat):Zm ⟨Tryz.prog,[(31,0),(33,2),(35,3),(39,1),(41,4)],[Zdg,ZUi,ZRk],[],[],[],[]⟩ [] Tryz.f81 (.two .no (.two (.two (.cut ⟨⟨[],[],[]⟩,[(.norm,⟨[0,1],[],[.s 17 (.dat .bool)]⟩)]⟩ .no) .no) .no)) [.slice (.slice (.leaf 3)),.slice (.leaf 3)] [.slice (.leaf 3),.int .i64] (m,b)=ZCg m b:=by kernel_rfl
theorem Solve_k:Zk Tryz.prog Zsl.1 Zsl.2:=Zo (C:=⟨Tryz.prog,[(31,0),(33,2),(35,3),(39,1),(41,4)],[Zdg,ZUi,ZRk],[],[],[],[]⟩) ⟨ZMq,Any_k,Ziu,trivial⟩ trivial trivial trivial (inl:=[]) trivial (ann:=(.two .no (.two (.two (.cut ⟨⟨[],[],[]⟩,[(.norm,⟨[0,1],[],[.s 17 (.dat .bool)]⟩)]⟩ .no) .no) .no))) Tryz.func81 (fun _ _=>by kernel_rfl) rfl fun v vals x z ha hz=>(Solve_i x.1 x.2).trans hz
end Go.Eng
set_option maxRecDepth 100000
set_option maxHeartbeats 4000000
namespace Go.Eng
open Go.Proofs Go.RowKit
noncomputable def Z1j:FuncId×Con:=(222,⟨[.leaf 3],[.leaf 3],fun p=>ZMl p⟩)
theorem qconj_i (x:Rat):Zm ⟨Tryz.prog,[(31,0),(33,2),(35,3),(39,1),(41,4)],[],[],[],[],[]⟩ [] Tryz.f222 .no [.leaf 3] [.leaf 3] (x)=ZMl x:=by kernel_rfl
theorem qconj_k:Zk Tryz.prog Z1j.1 Z1j.2:=Zo (C:=⟨Tryz.prog,[(31,0),(33,2),(35,3),(39,1),(41,4)],[],[],[],[],[]⟩) trivial trivial trivial trivial (inl:=[]) trivial (ann:=.no) Tryz.func222 (fun _ _=>by kernel_rfl) rfl fun v vals x z ha hz=>(qconj_i x).trans hz
end Go.Eng
set_option maxRecDepth 100000
set_option maxHeartbeats 4000000
namespace Go.Eng
open Go.Proofs Go.RowKit
noncomputable def Z2j:FuncId×Con:=(135,⟨[.leaf 3],[.leaf 3],fun p=>Z3k p⟩)
theorem lconj_i (x : Rat) : Zm ⟨Tryz.prog, [(31, 0), (33, 2), (35, 3), (39, 1), (41, 4)], [Z1j], [], [], [], [((35, "Conj"), 222)]⟩ [] Tryz.f135 .no [.leaf 3] [.leaf 3] (x) = Z3k x := by kernel_rfl
theorem lconj_k : Zk Tryz.prog Z2j.1 Z2j.2 := Zo (C := ⟨Tryz.prog, [(31, 0), (33, 2), (35, 3), (39, 1), (41, 4)], [Z1j], [], [], [], [((35, "Conj"), 222)]⟩) ⟨qconj_k, trivial⟩ trivial trivial ⟨Z9t, trivial⟩ (inl := []) trivial (ann := .no) Tryz.func135 (fun _ _ => by kernel_rfl) rfl fun v vals x z ha hz => (lconj_i x).trans hz
end Go.Eng
set_option maxRecDepth 100000
set_option maxHeartbeats 4000000
namespace Go.Eng
open Go.Proofs Go.RowKit
noncomputable def ZZg:FuncId×Con:=(105,⟨[.slice (.leaf 3),.slice (.leaf 3)],[.leaf 3],fun p=>ZYg p.1 p.2⟩)
theorem ldot_i (x : List Rat) (y : List Rat) : Zm ⟨Tryz.prog, [(31, 0), (33, 2), (35, 3), (39, 1), (41, 4)], [Z6b, Z0b, Z9e], [], [], [], [((35, "Add"), 12), ((35, "Mul"), 13)]⟩ [] Tryz.f105 (.two .no (.two .no (.two (.two .no (.two (.cut ⟨⟨[0, 1, 4, 5, 9], [], [.s 10 (.dat (.int .i64)), .l (.sl 5) (.box 35 (.dat (.leaf 3)))]⟩, [(.exit 0, ⟨[4, 5], [], [.l (.sl 5) (.box 35 (.dat (.leaf 3)))]⟩)]⟩ .no) .no)) .no))) [.slice (.leaf 3), .slice (.leaf 3)] [.leaf 3] (x, y) = ZYg x y := by kernel_rfl
theorem ZAq : Zk Tryz.prog ZZg.1 ZZg.2 := Zo (C := ⟨Tryz.prog, [(31, 0), (33, 2), (35, 3), (39, 1), (41, 4)], [Z6b, Z0b, Z9e], [], [], [], [((35, "Add"), 12), ((35, "Mul"), 13)]⟩) ⟨Zmh, Zhh, Zsn, trivial⟩ trivial trivial ⟨Zaw, Z1p, trivial⟩ (inl := []) trivial (ann := (.two .no (.two .no (.two (.two .no (.two (.cut ⟨⟨[0, 1, 4, 5, 9], [], [.s 10 (.dat (.int .i64)), .l (.sl 5) (.box 35 (.dat (.leaf 3)))]⟩, [(.exit 0, ⟨[4, 5], [], [.l (.sl 5) (.box 35 (.dat (.leaf 3)))]⟩)]⟩ .no) .no)) .no)))) Tryz.func105 (fun _ _ => by kernel_rfl) rfl fun v vals x z ha hz => (ldot_i x.1 x.2).trans hz
end Go.Eng
set_option maxRecDepth 100000
set_option maxHeartbeats 4000000
namespace Go.Eng
open Go.Proofs Go.RowKit
noncomputable def ZQi:FuncId×Con:=(178,⟨[.leaf 3],[.leaf 3],fun p=>ZYi p⟩)
theorem Z4v (x:Rat):Zm ⟨Tryz.prog,[(31,0),(33,2),(35,3),(39,1),(41,4)],[],[],[],[],[]⟩ [] Tryz.f178 .no [.leaf 3] [.leaf 3] (x)=ZYi x:=by kernel_rfl
theorem Z2t:Zk Tryz.prog ZQi.1 ZQi.2:=Zo (C:=⟨Tryz.prog,[(31,0),(33,2),(35,3),(39,1),(41,4)],[],[],[],[],[]⟩) trivial trivial trivial trivial (inl:=[]) trivial (ann:=.no) Tryz.func178 (fun _ _=>by kernel_rfl) rfl fun v vals x z ha hz=>(Z4v x).trans hz
end Go.Eng
set_option maxRecDepth 100000
set_option maxHeartbeats 4000000
namespace Go.Eng
open Go.Proofs Go.RowKit
noncomputable def ZPj:FuncId×Con:=(136,⟨[.slice (.slice (.leaf 3)),.slice (.slice (.leaf 3))],[.slice (.slice (.leaf 3))],fun p=>ZDh p.1 p.2⟩)
theorem ZDs (a:List (List Rat)) (b:List (List Rat)):Zm ⟨Tryz.prog,[(31,0),(33,2),(35,3),(39,1),(41,4)],[Zec,ZZg,ZQi],[12,15],[],[],[]⟩ [(134,Tryz.f134,.cut ⟨⟨[],[],[]⟩,[(.ret,⟨[],[],[.s 0 (.dat (.slice (.slice (.leaf 3))))]⟩)]⟩ (.two .no (.two .no (.two (.two .no (.two (.cut ⟨⟨[1,5,13,14],[],[.s 15 (.dat (.int .i64)),.l (.sl 5) (.mat 26 35 (.leaf 3))]⟩,[(.exit 0,⟨[5],[],[.l (.sl 5) (.mat 26 35 (.leaf 3))]⟩)]⟩ (.two (.two .no (.two .no (.two (.two (.two .no (.two .no (.two (.cut ⟨⟨[1,5,13,14,15,19,20],[],[.s 21 (.dat (.int .i64)),.l (.sl 5) (.mat 26 35 (.leaf 3))]⟩,[(.exit 2,⟨[1,5,13,14,15],[],[.l (.sl 5) (.mat 26 35 (.leaf 3))]⟩)]⟩ .no) .no))) .no) .no))) .no)) .no)) .no))))] Tryz.f136 (.two .no (.two .no (.two .no (.two (.two .no (.two (.cut ⟨⟨[5,6,16,17],[],[.s 18 (.dat (.int .i64)),.l (.sl 6) (.mat 26 35 (.leaf 3))]⟩,[(.exit 0,⟨[6],[],[.l (.sl 6) (.mat 26 35 (.leaf 3))]⟩)]⟩ (.two (.two .no (.two .no (.two (.two (.two .no (.two .no (.two (.cut ⟨⟨[5,6,7,8,16,17,18,23,24],[],[.s 25 (.dat (.int .i64)),.l (.sl 6) (.mat 26 35 (.leaf 3))]⟩,[(.exit 2,⟨[5,6,16,17,18],[],[.l (.sl 6) (.mat 26 35 (.leaf 3))]⟩)]⟩ .no) .no))) .no) .no))) .no)) .no)) .no)))) [.slice (.slice (.leaf 3)),.slice (.slice (.leaf 3))] [.slice (.slice (.leaf 3))] (a,b)=ZDh a b:=by kernel_rfl
theorem ZJt:Zk Tryz.prog ZPj.1 ZPj.2:=Zo (C:=⟨Tryz.prog,[(31,0),(33,2),(35,3),(39,1),(41,4)],[Zec,ZZg,ZQi],[12,15],[],[],[]⟩) ⟨Zxg,ZAq,Z2t,trivial⟩ trivial trivial trivial (inl:=[(134,Tryz.f134,.cut ⟨⟨[],[],[]⟩,[(.ret,⟨[],[],[.s 0 (.dat (.slice (.slice (.leaf 3))))]⟩)]⟩ (.two .no (.two .no (.two (.two .no (.two (.cut ⟨⟨[1,5,13,14],[],[.s 15 (.dat (.int .i64)),.l (.sl 5) (.mat 26 35 (.leaf 3))]⟩,[(.exit 0,⟨[5],[],[.l (.sl 5) (.mat 26 35 (.leaf 3))]⟩)]⟩ (.two (.two .no (.two .no (.two (.two (.two .no (.two .no (.two (.cut ⟨⟨[1,5,13,14,15,19,20],[],[.s 21 (.dat (.int .i64)),.l (.sl 5) (.mat 26 35 (.leaf 3))]⟩,[(.exit 2,⟨[1,5,13,14,15],[],[.l (.sl 5) (.mat 26 35 (.leaf 3))]⟩)]⟩ .no) .no))) .no) .no))) .no)) .no)) .no))))]) ⟨⟨Tryz.func134,fun _ _=>by kernel_rfl⟩,trivial⟩ (ann:=(.two .no (.two .no (.two .no (.two (.two .no (.two (.cut ⟨⟨[5,6,16,17],[],[.s 18 (.dat (.int .i64)),.l (.sl 6) (.mat 26 35 (.leaf 3))]⟩,[(.exit 0,⟨[6],[],[.l (.sl 6) (.mat 26 35 (.leaf 3))]⟩)]⟩ (.two (.two .no (.two .no (.two (.two (.two .no (.two .no (.two (.cut ⟨⟨[5,6,7,8,16,17,18,23,24],[],[.s 25 (.dat (.int .i64)),.l (.sl 6) (.mat 26 35 (.leaf 3))]⟩,[(.exit 2,⟨[5,6,16,17,18],[],[.l (.sl 6) (.mat 26 35 (.leaf 3))]⟩)]⟩ .no) .no))) .no) .no))) .no)) .no)) .no))))) Tryz.func136 (fun _ _=>by kernel_rfl) rfl fun v vals x z ha hz=>(ZDs x.1 x.2).trans hz
end Go.Eng
set_option maxRecDepth 100000
set_option maxHeartbeats 4000000
namespace Go.Eng
open Go.Proofs Go.RowKit
noncomputable def Zij:FuncId×Con:=(137,⟨[.slice (.slice (.leaf 3)),.slice (.leaf 3)],[.slice (.leaf 3)],fun p=>Zgi p.1 p.2⟩)
theorem Zgu (m:List (List Rat)) (x:List Rat):Zm ⟨Tryz.prog,[(31,0),(33,2),(35,3),(39,1),(41,4)],[ZZg],[],[],[],[]⟩ [] Tryz.f137 (.two .no (.two .no (.two (.two .no (.two (.cut ⟨⟨[1,8,9],[],[.s 5 (.own 35 (.leaf 3)),.s 10 (.dat (.int .i64))]⟩,[(.exit 0,⟨[],[],[.s 5 (.own 35 (.leaf 3))]⟩)]⟩ .no) .no)) .no))) [.slice (.slice (.leaf 3)),.slice (.leaf 3)] [.slice (.leaf 3)] (m,x)=Zgi m x:=by kernel_rfl
theorem Zsx:Zk Tryz.prog Zij.1 Zij.2:=Zo (C:=⟨Tryz.prog,[(31,0),(33,2),(35,3),(39,1),(41,4)],[ZZg],[],[],[],[]⟩) ⟨ZAq,trivial⟩ trivial trivial trivial (inl:=[]) trivial (ann:=(.two .no (.two .no (.two (.two .no (.two (.cut ⟨⟨[1,8,9],[],[.s 5 (.own 35 (.leaf 3)),.s 10 (.dat (.int .i64))]⟩,[(.exit 0,⟨[],[],[.s 5 (.own 35 (.leaf 3))]⟩)]⟩ .no) .no)) .no)))) Tryz.func137 (fun _ _=>by kernel_rfl) rfl fun v vals x z ha hz=>(Zgu x.1 x.2).trans hz
end Go.Eng
set_option maxRecDepth 100000
set_option maxHeartbeats 4000000
namespace Go.Eng
open Go.Proofs Go.RowKit
noncomputable def ZFk:FuncId×Con:=(82,⟨[.slice (.slice (.leaf 3)),.slice (.leaf 3)],[.slice (.slice (.leaf 3)),.slice (.leaf 3)],fun p=>ZEh p.1 p.2⟩)
theorem Zvw (m:List (List Rat)) (b:List Rat):Zm ⟨Tryz.prog,[(31,0),(33,2),(35,3),(39,1),(41,4)],[Zec,Z2j,ZPj,Zij],[12],[],[],[]⟩ [(134,Tryz.f134,.cut ⟨⟨[],[],[]⟩,[(.ret,⟨[],[],[.s 0 (.dat (.slice (.slice (.leaf 3))))]⟩)]⟩ (.two .no (.two .no (.two (.two .no (.two (.cut ⟨⟨[1,5,13,14],[],[.s 15 (.dat (.int .i64)),.l (.sl 5) (.mat 26 35 (.leaf 3))]⟩,[(.exit 0,⟨[5],[],[.l (.sl 5) (.mat 26 35 (.leaf 3))]⟩)]⟩ (.two (.two .no (.two .no (.two (.two (.two .no (.two .no (.two (.cut ⟨⟨[1,5,13,14,15,19,20],[],[.s 21 (.dat (.int .i64)),.l (.sl 5) (.mat 26 35 (.leaf 3))]⟩,[(.exit 2,⟨[1,5,13,14,15],[],[.l (.sl 5) (.mat 26 35 (.leaf 3))]⟩)]⟩ .no) .no))) .no) .no))) .no)) .no)) .no))))] Tryz.f82 .no [.slice (.slice (.leaf 3)),.slice (.leaf 3)] [.slice (.slice (.leaf 3)),.slice (.leaf 3)] (m,b)=ZEh m b:=by kernel_rfl
theorem Z3t:Zk Tryz.prog ZFk.1 ZFk.2:=Zo (C:=⟨Tryz.prog,[(31,0),(33,2),(35,3),(39,1),(41,4)],[Zec,Z2j,ZPj,Zij],[12],[],[],[]⟩) ⟨Zxg,lconj_k,ZJt,Zsx,trivial⟩ trivial trivial trivial (inl:=[(134,Tryz.f134,.cut ⟨⟨[],[],[]⟩,[(.ret,⟨[],[],[.s 0 (.dat (.slice (.slice (.leaf 3))))]⟩)]⟩ (.two .no (.two .no (.two (.two .no (.two (.cut ⟨⟨[1,5,13,14],[],[.s 15 (.dat (.int .i64)),.l (.sl 5) (.mat 26 35 (.leaf 3))]⟩,[(.exit 0,⟨[5],[],[.l (.sl 5) (.mat 26 35 (.leaf 3))]⟩)]⟩ (.two (.two .no (.two .no (.two (.two (.two .no (.two .no (.two (.cut ⟨⟨[1,5,13,14,15,19,20],[],[.s 21 (.dat (.int .i64)),.l (.sl 5) (.mat 26 35 (.leaf 3))]⟩,[(.exit 2,⟨[1,5,13,14,15],[],[.l (.sl 5) (.mat 26 35 (.leaf 3))]⟩)]⟩ .no) .no))) .no) .no))) .no)) .no)) .no))))]) ⟨⟨Tryz.func134,fun _ _=>by kernel_rfl⟩,trivial⟩ (ann:=.no) Tryz.func82 (fun _ _=>by kernel_rfl) rfl fun v vals x z ha hz=>(Zvw x.1 x.2).trans hz
end Go.Eng
set_option maxRecDepth 100000
set_option maxHeartbeats 4000000
namespace Go.Eng
open Go.Proofs Go.RowKit
noncomputable def Zzk:FuncId×Con:=(38,⟨[.slice (.slice (.leaf 3)),.slice (.leaf 3)],[.slice (.leaf 3),.int .i64],fun p=>Zjh p.1 p.2⟩)
theorem Least_i (m:List (List Rat)) (b:List Rat):Zm ⟨Tryz.prog,[(31,0),(33,2),(35,3),(39,1),(41,4)],[ZRd,Zdg,Zec,Zsl,ZFk],[],[],[],[]⟩ [] Tryz.f38 (.two .no (.two (.two (.cut ⟨⟨[],[],[]⟩,[(.norm,⟨[0,1],[],[.s 17 (.dat .bool)]⟩)]⟩ .no) .no) .no)) [.slice (.slice (.leaf 3)),.slice (.leaf 3)] [.slice (.leaf 3),.int .i64] (m,b)=Zjh m b:=by kernel_rfl
theorem Least_k:Zk Tryz.prog Zzk.1 Zzk.2:=Zo (C:=⟨Tryz.prog,[(31,0),(33,2),(35,3),(39,1),(41,4)],[ZRd,Zdg,Zec,Zsl,ZFk],[],[],[],[]⟩) ⟨ZGj,ZMq,Zxg,Solve_k,Z3t,trivial⟩ trivial trivial trivial (inl:=[]) trivial (ann:=(.two .no (.two (.two (.cut ⟨⟨[],[],[]⟩,[(.norm,⟨[0,1],[],[.s 17 (.dat .bool)]⟩)]⟩ .no) .no) .no))) Tryz.func38 (fun _ _=>by kernel_rfl) rfl fun v vals x z ha hz=>(Least_i x.1 x.2).trans hz
end Go.Eng
set_option maxRecDepth 100000
set_option maxHeartbeats 4000000
namespace Go.Eng
open Go.Proofs Go.RowKit
noncomputable def Zxk:FuncId×Con:=(9,⟨[.slice (.leaf 3),.slice (.leaf 3)],[.leaf 3,.leaf 3,.int .i64],fun p=>ZVe p.1 p.2⟩)
theorem Align_i (x:List Rat) (y:List Rat):Zm ⟨Tryz.prog,[(31,0),(33,2),(35,3),(39,1),(41,4)],[ZKd,Zzk],[],[],[],[]⟩ [] Tryz.f9 (.two .no (.two (.two (.cut ⟨⟨[],[],[]⟩,[(.norm,⟨[0,1,4,5],[],[.s 25 (.dat .bool)]⟩)]⟩ .no) .no) (.two .no (.two (.two .no (.two (.cut ⟨⟨[1,4,5,28,29],[],[.s 7 (.own 26 (.slice (.leaf 3))),.s 30 (.dat (.int .i64))]⟩,[(.exit 0,⟨[1,4,5],[],[.s 7 (.own 26 (.slice (.leaf 3)))]⟩)]⟩ .no) .no)) .no)))) [.slice (.leaf 3),.slice (.leaf 3)] [.leaf 3,.leaf 3,.int .i64] (x,y)=ZVe x y:=by kernel_rfl
theorem Align_k:Zk Tryz.prog Zxk.1 Zxk.2:=Zo (C:=⟨Tryz.prog,[(31,0),(33,2),(35,3),(39,1),(41,4)],[ZKd,Zzk],[],[],[],[]⟩) ⟨ZSj,Least_k,trivial⟩ trivial trivial trivial (inl:=[]) trivial (ann:=(.two .no (.two (.two (.cut ⟨⟨[],[],[]⟩,[(.norm,⟨[0,1,4,5],[],[.s 25 (.dat .bool)]⟩)]⟩ .no) .no) (.two .no (.two (.two .no (.two (.cut ⟨⟨[1,4,5,28,29],[],[.s 7 (.own 26 (.slice (.leaf 3))),.s 30 (.dat (.int .i64))]⟩,[(.exit 0,⟨[1,4,5],[],[.s 7 (.own 26 (.slice (.leaf 3)))]⟩)]⟩ .no) .no)) .no))))) Tryz.func9 (fun _ _=>by kernel_rfl) rfl fun v vals x z ha hz=>(Align_i x.1 x.2).trans hz
end Go.Eng
set_option maxRecDepth 100000
set_option maxHeartbeats 4000000
namespace Go.Eng
open Go.Proofs Go.RowKit
noncomputable def ZOi:FuncId×Con:=(39,⟨[],[.leaf 4],fun _=>ZGc⟩)
theorem zero8_i  : Zm ⟨Tryz.prog,[(31,0),(33,2),(35,3),(39,1),(41,4)],[ZTc],[],[],[],[]⟩ [] Tryz.f39 .no [] [.leaf 4] ()=ZGc  := by kernel_rfl
theorem zero8_k:Zk Tryz.prog ZOi.1 ZOi.2:=Zo (C:=⟨Tryz.prog,[(31,0),(33,2),(35,3),(39,1),(41,4)],[ZTc],[],[],[],[]⟩) ⟨ZJh,trivial⟩ trivial trivial trivial (inl:=[]) trivial (ann:=.no) Tryz.func39 (fun _ _=>by kernel_rfl) rfl fun v vals x z ha hz=>(zero8_i ).trans (hz)
end Go.Eng
set_option maxRecDepth 100000
set_option maxHeartbeats 4000000
namespace Go.Eng
open Go.Proofs Go.RowKit
noncomputable def ZSc:FuncId×Con:=(85,⟨[.leaf 4],[.leaf 1],fun p=>ZBb p⟩)
theorem Zet (x:Rat):Zm ⟨Tryz.prog,[(39,1),(41,4)],[],[],[],[],[]⟩ [] Tryz.f85 .no [.leaf 4] [.leaf 1] (x)=Zxm x:=by kernel_rfl
theorem Z3h:Zk Tryz.prog ZSc.1 ZSc.2:=Zo (C:=⟨Tryz.prog,[(39,1),(41,4)],[],[],[],[],[]⟩) trivial trivial trivial trivial (inl:=[]) trivial (ann:=.no) Tryz.func85 (fun _ _=>by kernel_rfl) rfl fun v vals x z ha hz=>(Zet x).trans (Zrv hz)
end Go.Eng
set_option maxRecDepth 100000
set_option maxHeartbeats 4000000
namespace Go.Eng
open Go.Proofs Go.RowKit
noncomputable def ZMk:FuncId×Con:=(87,⟨[.leaf 1,.leaf 1],[.leaf 1],fun p=>Zeg p.1 p.2⟩)
theorem rsum_i (a:Nat) (b:Nat):Zm ⟨Tryz.prog,[(39,1),(41,4)],[Zgb],[],[],[],[]⟩ [] Tryz.f87 (.two .no (.two .no (.two .no (.two (.two .no (.cut ⟨⟨[],[],[]⟩,[(.norm,⟨[],[],[.s 5 (.own 156 (.int .u32)),.s 6 (.dat (.int .u64))]⟩)]⟩ (.two (.cut ⟨⟨[0,1],[],[.s 5 (.own 156 (.int .u32)),.s 6 (.dat (.int .u64)),.s 7 (.dat (.int .i64))]⟩,[(.exit 0,⟨[],[],[.s 5 (.own 156 (.int .u32)),.s 6 (.dat (.int .u64))]⟩)]⟩ (.two (.two (.two (.cut ⟨⟨[],[],[]⟩,[(.norm,⟨[0,1,5,6,7],[],[.s 18 (.dat .bool)]⟩)]⟩ .no) .no) (.two (.two (.two (.two .no (.cut ⟨⟨[],[],[]⟩,[(.norm,⟨[0,1,5,7],[],[.s 6 (.dat (.int .u64))]⟩)]⟩ .no)) (.two (.two .no (.cut ⟨⟨[],[],[]⟩,[(.norm,⟨[0,1,5,7],[],[.s 6 (.dat (.int .u64))]⟩)]⟩ .no)) .no)) .no) .no)) .no)) .no))) .no)))) [.leaf 1,.leaf 1] [.leaf 1] (a,b)=Zxl a b:=by kernel_rfl
theorem rsum_k:Zk Tryz.prog ZMk.1 ZMk.2:=Zo (C:=⟨Tryz.prog,[(39,1),(41,4)],[Zgb],[],[],[],[]⟩) ⟨ZBe,trivial⟩ trivial trivial trivial (inl:=[]) trivial (ann:=.two .no (.two .no (.two .no (.two (.two .no (.cut ⟨⟨[],[],[]⟩,[(.norm,⟨[],[],[.s 5 (.own 156 (.int .u32)),.s 6 (.dat (.int .u64))]⟩)]⟩ (.two (.cut ⟨⟨[0,1],[],[.s 5 (.own 156 (.int .u32)),.s 6 (.dat (.int .u64)),.s 7 (.dat (.int .i64))]⟩,[(.exit 0,⟨[],[],[.s 5 (.own 156 (.int .u32)),.s 6 (.dat (.int .u64))]⟩)]⟩ (.two (.two (.two (.cut ⟨⟨[],[],[]⟩,[(.norm,⟨[0,1,5,6,7],[],[.s 18 (.dat .bool)]⟩)]⟩ .no) .no) (.two (.two (.two (.two .no (.cut ⟨⟨[],[],[]⟩,[(.norm,⟨[0,1,5,7],[],[.s 6 (.dat (.int .u64))]⟩)]⟩ .no)) (.two (.two .no (.cut ⟨⟨[],[],[]⟩,[(.norm,⟨[0,1,5,7],[],[.s 6 (.dat (.int .u64))]⟩)]⟩ .no)) .no)) .no) .no)) .no)) .no))) .no)))) Tryz.func87 (fun _ _=>by kernel_rfl) rfl fun v vals x z ha hz=>(rsum_i x.1 x.2).trans (ZXv hz)
end Go.Eng
set_option maxRecDepth 100000
set_option maxHeartbeats 4000000
namespace Go.Eng
open Go.Proofs Go.RowKit
noncomputable def Zgg:FuncId×Con:=(41,⟨[.leaf 4,.leaf 4],[.leaf 4],fun p=>ZWc p.1 p.2⟩)
theorem radd_i (x:Rat) (y:Rat):Zm ⟨Tryz.prog,[(39,1),(41,4)],[Z3b,ZSc,Zvd,ZMk,ZWe,Zng],[],[],[],[]⟩ [] Tryz.f41 .no [.leaf 4,.leaf 4] [.leaf 4] (x,y)=ZHj x y:=by kernel_rfl
theorem Z1q:Zk Tryz.prog Zgg.1 Zgg.2:=Zo (C:=⟨Tryz.prog,[(39,1),(41,4)],[Z3b,ZSc,Zvd,ZMk,ZWe,Zng],[],[],[],[]⟩) ⟨Zig,Z3h,Z0j,rsum_k,ZBn,ZEr,trivial⟩ trivial trivial trivial (inl:=[]) trivial (ann:=.no) Tryz.func41 (fun _ _=>by kernel_rfl) rfl fun v vals x z ha hz=>(radd_i x.1 x.2).trans (Zpx hz)
end Go.Eng
set_option maxRecDepth 100000
set_option maxHeartbeats 4000000
namespace Go.Eng
open Go.Proofs Go.RowKit
noncomputable def ZLk:FuncId×Con:=(42,⟨[.leaf 4,.leaf 4],[.leaf 4],fun p=>ZOb p.1 p.2⟩)
theorem rmul_i (x:Rat) (y:Rat):Zm ⟨Tryz.prog,[(39,1),(41,4)],[Z3b,ZSc,Zvd],[],[],[],[]⟩ [] Tryz.f42 .no [.leaf 4,.leaf 4] [.leaf 4] (x,y)=ZVn x y:=by kernel_rfl
theorem rmul_k:Zk Tryz.prog ZLk.1 ZLk.2:=Zo (C:=⟨Tryz.prog,[(39,1),(41,4)],[Z3b,ZSc,Zvd],[],[],[],[]⟩) ⟨Zig,Z3h,Z0j,trivial⟩ trivial trivial trivial (inl:=[]) trivial (ann:=.no) Tryz.func42 (fun _ _=>by kernel_rfl) rfl fun v vals x z ha hz=>(rmul_i x.1 x.2).trans (Zjx hz)
end Go.Eng
