/- Lemmas towards the statement: the engine of the walks, the functions' models, laws and walks, part 6. Conditions: as each states. -/
import Derived.Shelf.Strings.Builder1
import Derived.Shelf.Strings.Repeat
import Derived.Test.YtcalobhmejkdiaaGreatProg
import Derived.Test.YtcalobhmejkdiaaGreatLrE
set_option linter.all false
set_option maxRecDepth 100000
namespace Go.Eng
open Go.Proofs Go.RowKit
theorem div64_w {e:World} {c:Zb} (hv:VIn c e) {X:List Value} {hi:Int} (p0:Rep.rel (Zd .u64) c X hi) {Y:List Value} {lo:Int} (p1:Rep.rel (Zd .u64) c Y lo) {Z:List Value} {y:Int} (p2:Rep.rel (Zd .u64) c Z y) {z:Int×Int} (H:Zti hi lo y=some z):Ret Tryz.prog 166 #[(Zd .u64).val X,(Zd .u64).val Y,(Zd .u64).val Z] e c (fun y v'=>∃ r0 M,y = .tuple #[(Zd .u64).val r0,(Zd .u64).val M]∧(Zd .u64).rel v' r0 z.1∧(Zd .u64).rel v' M z.2):=by
 obtain ⟨rfl,M⟩:=p0;obtain ⟨rfl,r2⟩:=p1;obtain ⟨rfl,r3⟩:=p2;refine ZLb (K:=135) (args:=[.int .u64 hi,.int .u64 lo,.int .u64 y]) hv Tryz.func166 rfl rfl zl fun f S=>?_;unfold Zti at H;refine sr (mw S rfl fun f S=>mw S rfl fun f S=>oe (Zj fun _ an=>sr (mv S rfl fun f S=>ov S rfl (Ze S rfl rfl Z4d) fun f S=>oe ?_)));rcases ZL (y==(0:Int)) with q | q
 ·have H:=ZJ H q;refine ZQ S rfl q ?_
  cases H
 have H:=ZK H q;refine ZM S rfl q (wp_skip (Zf (an _ _ (Zj fun _ ao=>sr (mv S rfl fun f S=>mv S rfl fun f S=>ov S rfl (Ze S rfl rfl Zqo) fun f S=>oe ?_)))));rcases ZL (decide (y≤hi)) with r | r
 ·have H:=ZJ H r;refine ZQ S rfl r ?_
  cases H
 have H:=ZK H r;refine ZM S rfl r (wp_skip (Zf (ao _ _ (Zj fun _ ap=>sr (mv S rfl fun f S=>ov S rfl (Ze S rfl rfl Z4d) fun f S=>oe ?_)))));rcases ZL (hi==(0:Int)) with s | s
 ·have H:=ZJ H s;refine ZQ S rfl s (Zj fun _ aq=>bO H fun ar aa H=>bO H fun au N H=>Z8d (fl:=#[true,true,true,true,true,true,false,false]) ZHe (by kernel_rfl) S ?_);intro ops O F w S;refine rfa O F 0 rfl rfl S (Zz S rfl) fun f S=>rfa O F 1 rfl rfl S (Zz S rfl) fun f S=>rfa O F 2 rfl rfl S (Ze S rfl rfl (Zac aa)) fun f S=>rfa O F 3 rfl rfl S (Zz S rfl) fun f S=>rfa O F 4 rfl rfl S (Zz S rfl) fun f S=>rfa O F 5 rfl rfl S (Ze S rfl rfl (Zye N)) fun f S=>go1 O F 6 (nva [0,1,2] [3,4,5] O rfl rfl S (ZRc S rfl) fun f S=>⟨(py S rfl rfl (Zz S rfl) (py S rfl rfl (Zz S rfl) (py S rfl rfl (Ze S rfl rfl (Zye N)) Zjc))),go1 O F 7 (nva [0,1,2,3,4,5,6] [] O rfl rfl S (ZRc S rfl) fun f S=>⟨Zjc,ZKe O F (Zf (aq _ _ ?_))⟩)⟩);refine wp_ret (ZVa ?_);obtain rfl:=Zn H;refine ZAa S (ZYe rfl (ZT S rfl) (ZT S rfl)) ⟨[.int .u64 ar],[.int .u64 au],rfl,(ZD (ZWh aa)),(ZD (ZPq r2 N))⟩
 have H:=ZK H s;refine ZM S rfl s (wp_skip (Zf (ap _ _ (Zj fun _ av=>bO H fun h aw H=>Zu (mv S rfl fun f S=>opc S rfl (Zaa S [.int .u64 y] Zlq rfl rfl) (Zpr S.vin (show Rep.rel (Zd .u64) _ [.int .u64 y] y from (ZD r3)) aw) ?_)))));rintro _ ab f w bd ⟨be,rfl,ax⟩ S;obtain ⟨rfl,bf⟩:=ax;refine ov S rfl (ZBd S rfl (ZWt _)) fun f S=>mw S rfl fun f S=>Zs (Zf (av _ _ (Zj fun _ ay=>bO H fun a az H=>Zu (mv S rfl fun f S=>mv S rfl fun f S=>ov S rfl (Ze S rfl rfl (Zfg az)) fun f S=>mw S rfl fun f S=>Zs (Zf (ay _ _ (Zj fun _ aA=>?_)))))));refine bO H fun g aB H=>Zu (mv S rfl fun f S=>ov S rfl (Ze S rfl rfl (ZFb aB)) fun f S=>mw S rfl fun f S=>Zs (Zf (aA _ _ (sr (mv S rfl fun f S=>ov S rfl (Ze S rfl rfl Zkg) fun f S=>mw S rfl fun f S=>oe (Zj fun _ aC=>bO H fun i aD H=>?_))))));refine bO H fun j aE H=>Zu (mv S rfl fun f S=>mv S rfl fun f S=>ov S rfl (Ze S rfl rfl (Zfg aD)) fun f S=>mv S rfl fun f S=>mv S rfl fun f S=>ov S rfl (Ze S rfl rfl Zhd) fun f S=>ov S rfl (Ze S rfl rfl (ZFb aE)) fun f S=>ov S rfl (Ze S rfl rfl Zqk) fun f S=>mw S rfl fun f S=>Zs ?_);have S:=S.fr' (σ':=[(1,.int .u64 lo),(2,.int .u64 a),(8,.int .u64 (IntKind.u64.wrap h)),(9,.int .u64 g),(10,.int .u64 (Z0 .u64 a (4294967295:Int))),(11,.int .u64 (orI .u64 i j))]) rfl
 refine Zf (aC _ _ (Zj fun _ aF=>bO H fun k aG H=>Zu (mv S rfl fun f S=>mv S rfl fun f S=>ov S rfl (Ze S rfl rfl (Zfg aG)) fun f S=>mw S rfl fun f S=>Zs (Zf (aF _ _ (Zj fun _ aH=>bO H fun l aI H=>Zu (mv S rfl fun f S=>?_)))))));refine ov S rfl (Ze S rfl rfl (ZFb aI)) fun f S=>mw S rfl fun f S=>Zs (Zf (aH _ _ (sr (mv S rfl fun f S=>ov S rfl (Ze S rfl rfl Zkg) fun f S=>mw S rfl fun f S=>oe (Zj fun _ aJ=>bO H fun bg ac H=>Zu (mv S rfl fun f S=>mv S rfl fun f S=>?_))))));refine ov S rfl (Ze S rfl rfl (Zac ac)) fun f S=>mw S rfl fun f S=>Zs (Zf (aJ _ _ (sr (mv S rfl fun f S=>mv S rfl fun f S=>mv S rfl fun f S=>ov S rfl (Ze S rfl rfl Zjb) fun f S=>ov S rfl (Ze S rfl rfl Zhd) fun f S=>mw S rfl fun f S=>oe (Zj fun _ aK=>?_)))));obtain ⟨aL,aM,aN⟩:=ZE H;refine Zva (fun f w=>∃ d u,d=aL∧Zb.le ab u∧St 135 e c [(2,.int .u64 a),(8,.int .u64 (IntKind.u64.wrap h)),(9,.int .u64 g),(10,.int .u64 (Z0 .u64 a (4294967295:Int))),(11,.int .u64 (orI .u64 i j)),(13,.int .u64 l),(14,.int .u64 (Z0 .u64 k (4294967295:Int))),(15,.int .u64 d)] [] u f w∧inR .u64 d) (fun _ ad=>?_) ?_
 ·have H:=aM;refine wp_block ?_;obtain ⟨bh,aO,ae⟩:=ZE H;refine Zwb aO (fun aP f w=>∃ m n G,(m,n)=aP∧Zb.le ab G∧St 135 e c [(2,.int .u64 a),(8,.int .u64 (IntKind.u64.wrap h)),(9,.int .u64 g),(10,.int .u64 (Z0 .u64 a (4294967295:Int))),(11,.int .u64 (orI .u64 i j)),(13,.int .u64 l),(14,.int .u64 (Z0 .u64 k (4294967295:Int))),(15,.int .u64 m),(16,.int .u64 n)] [] G f w∧inR .u64 m∧inR .u64 n) ⟨_,_,_,rfl,(leR _),(S.fr' rfl),(ZWh ac),(Zqa _ _)⟩ ?_;rintro _ f w st ⟨m,n,G,hq,P,S,aQ,bi⟩ H bj aR af;subst hq;refine Zj fun _ aS=>Zj fun _ aT=>?_;obtain ⟨aU,aV,aW⟩:=ZE H;refine Zva (fun f w=>∃ I Q,I=aU∧Zb.le G Q∧St 135 e c [(2,.int .u64 a),(8,.int .u64 (IntKind.u64.wrap h)),(9,.int .u64 g),(10,.int .u64 (Z0 .u64 a (4294967295:Int))),(11,.int .u64 (orI .u64 i j)),(13,.int .u64 l),(14,.int .u64 (Z0 .u64 k (4294967295:Int))),(15,.int .u64 m),(16,.int .u64 n),(78,.bool I)] [] Q f w) (fun _ ag=>?_) ?_
  ·have H:=aV;refine Zu (mv S rfl fun f S=>ov S rfl (Ze S rfl rfl Zec) fun f S=>mv S rfl fun f S=>?_);rcases ZL (decide ((4294967296:Int)≤m)) with v | v
   ·have H:=ZJ H v;have S:=S.bool (t:=69) rfl v;refine opn S rfl rfl rfl rfl fun f S=>opn S rfl rfl rfl rfl fun f S=>opn S rfl rfl rfl rfl fun f S=>opn S rfl rfl rfl rfl fun f S=>opn S rfl rfl rfl rfl fun f S=>opn S rfl rfl rfl rfl fun f S=>opn S rfl rfl rfl rfl fun f S=>opn S rfl rfl rfl rfl fun f S=>ov S rfl (ZBb S (b:=true) rfl rfl) fun f S=>Zs ?_;obtain rfl:=Zn H;refine Zf (ag _ _ ⟨_,_,rfl,(leR _),(S.fr' rfl)⟩)
   have H:=ZK H v;have S:=S.bool (t:=69) rfl v;refine opy S rfl rfl rfl rfl (Zz S rfl) fun f S=>opy S rfl rfl rfl rfl (Zz S rfl) fun f S=>opy S rfl rfl rfl rfl (Ze S rfl rfl Zjb) fun f S=>opy S rfl rfl rfl rfl (Zz S rfl) fun f S=>opy S rfl rfl rfl rfl (Ze S rfl rfl Zjb) fun f S=>opy S rfl rfl rfl rfl (Zz S rfl) fun f S=>opy S rfl rfl rfl rfl (Ze S rfl rfl ZXb) fun f S=>opy S rfl rfl rfl rfl (Ze S rfl rfl ZUc) fun f S=>ov S rfl (ZBb S (b:=false) rfl rfl) fun f S=>Zs ?_;obtain rfl:=Zn H;refine Zf (ag _ _ ⟨_,_,rfl,(leR _),(S.fr' rfl)⟩)
  rintro f w ⟨I,Q,hq,R,S⟩;subst hq;have H:=aW;refine Zf (aT _ _ ?_);rcases ZL (I) with x | x
  ·have H:=ZJ H x;refine ZQ S rfl x (wp_skip (Zf (aS _ _ (wp_block (sr (mv S rfl fun f S=>ov S rfl (Ze S rfl rfl Zhd) fun f S=>mw S rfl fun f S=>oe (sr (mv S rfl fun f S=>mv S rfl fun f S=>ov S rfl (Ze S rfl rfl ZXb) fun f S=>mw S rfl fun f S=>?_))))))));refine oe (sr (mv S rfl fun f S=>ov S rfl (Ze S rfl rfl Zec) fun f S=>oe ?_));rcases ZL (decide ((4294967296:Int)≤IntKind.u64.wrap (n+g))) with A | A
   ·have H:=ZJ H A;refine ZQ S rfl A (wp_exit (Z7k rfl ?_));obtain rfl:=Zn H;have hq:=af _ rfl;subst hq;have H:=ae;refine ZZ (Z6a ?_);obtain rfl:=Zn H;refine Zf (ad _ _ ⟨_,_,rfl,(leT (leT (leR _) P) R),(S.fr' rfl),(Zqa _ _)⟩)
   have H:=ZK H A;refine ZM S rfl A (wp_skip (Zsb ?_));obtain rfl:=Zn H;refine aR _ rfl _ _ ⟨_,_,_,rfl,(leT P R),(S.fr' rfl),(Zqa _ _),(Zqa _ _)⟩
  have H:=ZK H x;refine ZM S rfl x (wp_exit (ZZ ?_));obtain rfl:=Zn H;have hq:=af _ rfl;subst hq;have H:=ae;refine ZZ (Z6a ?_);obtain rfl:=Zn H;refine Zf (ad _ _ ⟨_,_,rfl,(leT (leT (leR _) P) R),(S.fr' rfl),aQ⟩)
 rintro f w ⟨d,u,hq,bk,S,bm⟩;subst hq;have H:=aN;refine Zf (aK _ _ (sr (mv S rfl fun f S=>ov S rfl (Ze S rfl rfl Zjb) fun f S=>mv S rfl fun f S=>ov S rfl (Ze S rfl rfl ZXb) fun f S=>mv S rfl fun f S=>mv S rfl fun f S=>ov S rfl (Ze S rfl rfl Zjb) fun f S=>ov S rfl (Ze S rfl rfl Zhd) fun f S=>mw S rfl fun f S=>oe (Zj fun _ aX=>bO H fun bn ah H=>?_))));refine Zu (mv S rfl fun f S=>mv S rfl fun f S=>ov S rfl (Ze S rfl rfl (Zac ah)) fun f S=>mw S rfl fun f S=>Zs (Zf (aX _ _ (sr (mv S rfl fun f S=>mv S rfl fun f S=>mv S rfl fun f S=>ov S rfl (Ze S rfl rfl Zjb) fun f S=>ov S rfl (Ze S rfl rfl Zhd) fun f S=>mw S rfl fun f S=>?_)))));refine oe (Zj fun _ aY=>?_);obtain ⟨aZ,a0,a1⟩:=ZE H;refine Zva (fun f w=>∃ B T,B=aZ∧Zb.le u T∧St 135 e c [(2,.int .u64 a),(8,.int .u64 (IntKind.u64.wrap h)),(14,.int .u64 (Z0 .u64 k (4294967295:Int))),(15,.int .u64 d),(17,.int .u64 (IntKind.u64.wrap ((IntKind.u64.wrap ((IntKind.u64.wrap ((orI .u64 i j)*(4294967296:Int)))+l))-(IntKind.u64.wrap (d*a))))),(18,.int .u64 B)] [] T f w∧inR .u64 B) (fun _ ai=>?_) ?_
 ·have H:=a0;refine wp_block ?_;obtain ⟨bo,a2,aj⟩:=ZE H;refine Zwb a2 (fun a3 f w=>∃ o p J,(o,p)=a3∧Zb.le u J∧St 135 e c [(2,.int .u64 a),(8,.int .u64 (IntKind.u64.wrap h)),(9,.int .u64 g),(10,.int .u64 (Z0 .u64 a (4294967295:Int))),(14,.int .u64 (Z0 .u64 k (4294967295:Int))),(15,.int .u64 d),(16,.int .u64 o),(17,.int .u64 (IntKind.u64.wrap ((IntKind.u64.wrap ((IntKind.u64.wrap ((orI .u64 i j)*(4294967296:Int)))+l))-(IntKind.u64.wrap (d*a))))),(18,.int .u64 p)] [] J f w∧inR .u64 o∧inR .u64 p) ⟨_,_,_,rfl,(leR _),(S.fr' rfl),(Zqa _ _),(ZWh ah)⟩ ?_;rintro _ f w st ⟨o,p,J,hq,U,S,bp,a4⟩ H bq a5 ak;subst hq;refine Zj fun _ a6=>Zj fun _ a7=>?_;obtain ⟨a8,a9,ba⟩:=ZE H;refine Zva (fun f w=>∃ L V,L=a8∧Zb.le J V∧St 135 e c [(2,.int .u64 a),(8,.int .u64 (IntKind.u64.wrap h)),(9,.int .u64 g),(10,.int .u64 (Z0 .u64 a (4294967295:Int))),(14,.int .u64 (Z0 .u64 k (4294967295:Int))),(15,.int .u64 d),(16,.int .u64 o),(17,.int .u64 (IntKind.u64.wrap ((IntKind.u64.wrap ((IntKind.u64.wrap ((orI .u64 i j)*(4294967296:Int)))+l))-(IntKind.u64.wrap (d*a))))),(18,.int .u64 p),(113,.bool L)] [] V f w) (fun _ al=>?_) ?_
  ·have H:=a9;refine Zu (mv S rfl fun f S=>ov S rfl (Ze S rfl rfl Zec) fun f S=>mv S rfl fun f S=>?_);rcases ZL (decide ((4294967296:Int)≤p)) with C | C
   ·have H:=ZJ H C;have S:=S.bool (t:=104) rfl C;refine opn S rfl rfl rfl rfl fun f S=>opn S rfl rfl rfl rfl fun f S=>opn S rfl rfl rfl rfl fun f S=>opn S rfl rfl rfl rfl fun f S=>opn S rfl rfl rfl rfl fun f S=>opn S rfl rfl rfl rfl fun f S=>opn S rfl rfl rfl rfl fun f S=>opn S rfl rfl rfl rfl fun f S=>ov S rfl (ZBb S (b:=true) rfl rfl) fun f S=>Zs ?_;obtain rfl:=Zn H;refine Zf (al _ _ ⟨_,_,rfl,(leR _),(S.fr' rfl)⟩)
   have H:=ZK H C;have S:=S.bool (t:=104) rfl C;refine opy S rfl rfl rfl rfl (Zz S rfl) fun f S=>opy S rfl rfl rfl rfl (Zz S rfl) fun f S=>opy S rfl rfl rfl rfl (Ze S rfl rfl Zjb) fun f S=>opy S rfl rfl rfl rfl (Zz S rfl) fun f S=>opy S rfl rfl rfl rfl (Ze S rfl rfl Zjb) fun f S=>opy S rfl rfl rfl rfl (Zz S rfl) fun f S=>opy S rfl rfl rfl rfl (Ze S rfl rfl ZXb) fun f S=>opy S rfl rfl rfl rfl (Ze S rfl rfl ZUc) fun f S=>ov S rfl (ZBb S (b:=false) rfl rfl) fun f S=>Zs ?_;obtain rfl:=Zn H;refine Zf (al _ _ ⟨_,_,rfl,(leR _),(S.fr' rfl)⟩)
  rintro f w ⟨L,V,hq,W,S⟩;subst hq;have H:=ba;refine Zf (a7 _ _ ?_);rcases ZL (L) with D | D
  ·have H:=ZJ H D;refine ZQ S rfl D (wp_skip (Zf (a6 _ _ (wp_block (sr (mv S rfl fun f S=>ov S rfl (Ze S rfl rfl Zhd) fun f S=>mw S rfl fun f S=>oe (sr (mv S rfl fun f S=>mv S rfl fun f S=>ov S rfl (Ze S rfl rfl ZXb) fun f S=>mw S rfl fun f S=>?_))))))));refine oe (sr (mv S rfl fun f S=>ov S rfl (Ze S rfl rfl Zec) fun f S=>oe ?_));rcases ZL (decide ((4294967296:Int)≤IntKind.u64.wrap (o+g))) with E | E
   ·have H:=ZJ H E;refine ZQ S rfl E (wp_exit (Z7k rfl ?_));obtain rfl:=Zn H;have hq:=ak _ rfl;subst hq;have H:=aj;refine ZZ (Z6a ?_);obtain rfl:=Zn H;refine Zf (ai _ _ ⟨_,_,rfl,(leT (leT (leR _) U) W),(S.fr' rfl),(Zqa _ _)⟩)
   have H:=ZK H E;refine ZM S rfl E (wp_skip (Zsb ?_));obtain rfl:=Zn H;refine a5 _ rfl _ _ ⟨_,_,_,rfl,(leT U W),(S.fr' rfl),(Zqa _ _),(Zqa _ _)⟩
  have H:=ZK H D;refine ZM S rfl D (wp_exit (ZZ ?_));obtain rfl:=Zn H;have hq:=ak _ rfl;subst hq;have H:=aj;refine ZZ (Z6a ?_);obtain rfl:=Zn H;refine Zf (ai _ _ ⟨_,_,rfl,(leT (leT (leR _) U) W),(S.fr' rfl),a4⟩)
 rintro f w ⟨B,T,hq,br,S,bs⟩;subst hq;have H:=a1;refine Zf (aY _ _ (Zj fun _ bb=>bO H fun bc am H=>Zu (mv S rfl fun f S=>ov S rfl (Ze S rfl rfl Zjb) fun f S=>mv S rfl fun f S=>ov S rfl (Ze S rfl rfl ZXb) fun f S=>mv S rfl fun f S=>ov S rfl (Ze S rfl rfl Zjb) fun f S=>mv S rfl fun f S=>ov S rfl (Ze S rfl rfl ZXb) fun f S=>mv S rfl fun f S=>mv S rfl fun f S=>?_)));refine ov S rfl (Ze S rfl rfl Zjb) fun f S=>ov S rfl (Ze S rfl rfl Zhd) fun f S=>mv S rfl fun f S=>ov S rfl (Ze S rfl rfl (ZFb am)) fun f S=>mw S rfl fun f S=>mw S rfl fun f S=>Zs (Zf (bb _ _ (wp_ret ?_)));obtain rfl:=Zn H;refine ZAa S (ZYe rfl (ZT S rfl) (ZT S rfl)) ⟨[.int .u64 (IntKind.u64.wrap ((IntKind.u64.wrap (d*(4294967296:Int)))+B))],[.int .u64 bc],rfl,(ZD (Zqa _ _)),(ZD (ZCf (Zqa _ _) am))⟩
theorem Znq {b:World} {a:Zb} (hv:VIn a b) {c:List Value} {hi:Int} (h:Rep.rel (Zd .u64) a c hi) {d:List Value} {lo:Int} (i:Rep.rel (Zd .u64) a d lo) {e:List Value} {y:Int} (j:Rep.rel (Zd .u64) a e y) {z:Int×Int} (hm:Zqd hi lo y=some z) :
  Ret Tryz.prog 166 #[(Zd .u64).val c,(Zd .u64).val d,(Zd .u64).val e] b a (fun y v'=>∃ f g,y=Value.tuple #[(Zd .u64).val f,(Zd .u64).val g]∧(Zd .u64).rel v' f z.1∧(Zd .u64).rel v' g z.2) :=
 div64_w hv h i j (ZRu hm)
theorem Z1u {E:World} {d:Zb} (hv:VIn d E) {R:List Value} {a:Nat} (g:Rep.rel Zv d R a) {T:List Value} {n:Int} (p1:Rep.rel (Zd .u64) d T n) {z:Nat×Int} (H:Zyi a n=some z):Ret Tryz.prog 127 #[Zv.val R,(Zd .u64).val T] E d (fun y v'=>∃ U V,y = .tuple #[Zv.val U,(Zd .u64).val V]∧Zv.rel v' U z.1∧(Zd .u64).rel v' V z.2):=by
 obtain ⟨W,X,Y,rfl⟩:=Zia g;obtain ⟨rfl,r4⟩:=p1;refine ZLb (K:=35) (args:=[.slice W X Y,.int .u64 n]) hv Tryz.func127 rfl rfl zl fun f S=>?_;unfold Zyi at H;refine sr (mw S rfl fun f S=>mw S rfl fun f S=>oe (Zj fun _ ah=>bO H fun y9 F H=>Zu (mv S rfl fun f S=>ov S rfl (Zea S (ZG g) rfl rfl ZB) fun f S=>?_)));obtain ⟨Z,aa⟩:∃ c:List Value,c=(List.replicate ((((Zc 18446744073709551616 a)).length:Int)).toNat [.int .u64 0]).flatten:=⟨_,rfl⟩;obtain ⟨ai,w,aj,S⟩:=ZAh Zie S (l:=(((Zc 18446744073709551616 a)).length:Int)) (c:=(((Zc 18446744073709551616 a)).length:Int)) (ZNa F).1 (ZNa F).2.1 (ZNa F).2.2.1 (ZNa F).2.2.2 aa;have ak:Rep.rels (Zd .u64) d Z (List.replicate ((((Zc 18446744073709551616 a)).length:Int)).toNat (0:Int)):=by rw [aa];exact Z5d (show Rep.rel (Zd .u64) _ [.int .u64 0] _ from (ZD (by decide))) _
 refine Zub wn rfl zl (aj rfl rfl) S fun f S=>mw S rfl fun f S=>Zs (Zf (ah _ _ (sr (mw S rfl fun f S=>oe (Zj fun _ al=>Zj fun _ am=>bO H fun aV ab H=>Zu (mv S rfl fun f S=>ov S rfl (Zea S (ZG g) rfl rfl ZB) fun f S=>ov S rfl (Ze S rfl rfl (Zwa ab)) fun f S=>?_))))));refine mw S rfl fun f S=>Zs (Zf (am _ _ ?_));obtain ⟨an,ao,ap⟩:=ZE H;refine Zva (fun f w=>∃ o s t p u L G,(o,s)=an∧Zb.le d G∧St 35 E d [(6,.slice (mkA t) p u),(7,.int .u64 s)] [Loc.own t 148 1 p u L] G f w∧Rep.rels (Zd .u64) G L o∧p=o.length∧inR .u64 s) (fun _ aq=>?_) ?_
 ·have H:=ao;refine wp_block ?_;obtain ⟨aW,ar,au⟩:=ZE H;refine Zwb ar (fun av f w=>∃ q h b I k v e J,(q,h,b)=av∧Zb.le d J∧St 35 E d [(0,.slice W X Y),(1,.int .u64 n),(6,.slice (mkA I) k v),(7,.int .u64 h),(8,.int .i64 b)] [Loc.own I 148 1 k v e] J f w∧Rep.rels (Zd .u64) J e q∧k=q.length∧inR .u64 h∧inR .i64 b) ⟨_,_,_,some ai,((((Zc 18446744073709551616 a)).length:Int)).toNat,((((Zc 18446744073709551616 a)).length:Int)).toNat,Z,_,rfl,(leR _),(S.fr' rfl),ak,(repN (x:=(0:Int))),(by decide),(Zsa ab).2⟩ ?_;rintro _ f w st ⟨q,h,b,I,k,v,e,J,hq,M,S,B,C,ac,aX⟩ H aY aw ax;subst hq;refine Zj fun _ ay=>sr (mv S rfl fun f S=>ov S rfl (Ze S rfl rfl Zec) fun f S=>oe ?_);rcases ZL (decide ((0:Int)≤b)) with D | D
  ·have H:=ZJ H D;refine ZQ S rfl D (wp_skip (Zf (ay _ _ (Zj fun _ az=>wp_block (bO H fun N O H=>bO H fun m aA H=>bO H fun aZ r H=>Zu (mv S rfl fun f S=>mv S rfl fun f S=>mv S rfl fun f S=>mv S rfl fun f S=>mv S rfl fun f S=>?_))))));have g:=Z7 M g;obtain ⟨_,a0,a1,a2,rfl,P,aB⟩:=Z8a g (Zi O).2.1;obtain ⟨rfl,aC⟩:=aB;refine ov S rfl (ZN S rfl rfl ZB (Zi O).1 (ltI (ZG g) (Zi O).2.2.1)) fun f S=>ov S rfl (Zka S rfl Z5 (S.view P)) fun f S=>mv S rfl fun f S=>opc S rfl (Zaa S [.int .u64 h,.int .u64 N,.int .u64 n] Zwq rfl rfl) (Znq S.vin (show Rep.rel (Zd .u64) _ [.int .u64 h] h from (ZD ac)) (show Rep.rel (Zd .u64) _ [.int .u64 N] N from (ZD aC)) (show Rep.rel (Zd .u64) _ [.int .u64 n] n from (ZD r4)) aA) ?_;rintro _ ad f w Q ⟨a3,a4,rfl,aD,aE⟩ S;have B:=ZW Q B;have P:=Atm Q P;obtain ⟨rfl,aF⟩:=aD;obtain ⟨rfl,aG⟩:=aE;refine mv S rfl fun f S=>ov S rfl (Zya S rfl rfl) fun f S=>ov S rfl (Zya S rfl rfl) fun f S=>?_;obtain ⟨aH,rfl⟩:=Zyc S (j:=0) rfl (posN C (Zi r).2.2.2);have ae:=Zja B (Zi r).2.1;obtain ⟨a5,aI⟩:∃ c,(List.take (Zd .u64).n (List.drop ((b).toNat*(Zd .u64).n) e))=c:=⟨_,rfl⟩
   rw [aI] at ae;obtain ⟨rfl,a6⟩:=ae;refine ov S rfl (ZN S rfl rfl ZB (Zi r).1 (ltI C (Zi r).2.2.1)) fun f S=>?_;obtain ⟨w,aJ,S⟩:=ZNb S Z5 (off:=0+(b).toNat*1) (z:=.int .u64 (m.1)) (cs:=[.int .u64 (m.1)]) (Zzb rfl) rfl (i:=0) rfl (Zsd S (j:=0) rfl (ltN C (Zi r).2.2.2)) (by first | rfl | simp [plain]);have aK:Rep.rels (Zd .u64) ad (List.take (0+(b).toNat*1) e++[Value.int IntKind.u64 (m.1)]++List.drop (0+(b).toNat*1+1) e) (q.set (b).toNat m.1):=ZXc B (Zi r).2.2.2 (show Rep.rel (Zd .u64) ad [.int .u64 (m.1)] _ from (ZD aF)) rfl rfl;have aL:k=(q.set (b).toNat m.1).length:=Zld C;refine Zrf wn rfl (aJ rfl rfl) (mw S rfl fun f S=>Zs (Zsb (Zf (az _ _ (bO H fun a7 af H=>Zu (mv S rfl fun f S=>ov S rfl (Ze S rfl rfl (Zwa af)) fun f S=>mw S rfl fun f S=>Zs ?_))))));obtain rfl:=Zn H;refine aw _ rfl _ _ ⟨_,_,_,some aH,k,v,(List.take (0+(b).toNat*1) e++[Value.int IntKind.u64 (m.1)]++List.drop (0+(b).toNat*1+1) e),_,rfl,(leT M Q),(S.fr' rfl),aK,aL,aG,(Zsa af).2⟩
  have H:=ZK H D;refine ZM S rfl D (wp_exit (ZZ ?_));obtain rfl:=Zn H;have hq:=ax _ rfl;subst hq;have H:=au;refine ZZ (Z6a ?_);obtain rfl:=Zn H;refine Zf (aq _ _ ⟨_,_,I,k,v,e,_,rfl,(leT (leR _) M),(S.fr' rfl),B,C,ac⟩)
 rintro f w ⟨o,s,t,p,u,L,G,hq,a8,S,aM,aN,aO⟩;subst hq;have H:=ap;refine Zf (al _ _ (Zj fun _ aP=>bO H fun a9 aQ H=>Zu (mv S rfl fun f S=>?_)));obtain ⟨ba,bb,S,aR⟩:=S.pubSlice (i:=0) (A:=(Zd .u64)) (l:=o) (ℓ':=[]) rfl rfl aN aM rfl;refine opc S rfl (Zaa S [.slice (mkA t) p u] Zjf rfl rfl) (ZMe S.vin (show Rep.rel (Zw (Zd .u64)) _ [.slice (mkA t) p u] o from aR) aQ) ?_;rintro _ bc f w bd ⟨be,rfl,ag⟩ S;obtain ⟨aS,aT,aU,rfl⟩:=Zia ag;refine mv S rfl fun f S=>mw S rfl fun f S=>mw S rfl fun f S=>Zs (Zf (aP _ _ (wp_ret ?_)));obtain rfl:=Zn H;refine ZAa S (ZYe rfl (ZT S rfl) (ZT S rfl)) ⟨[.slice aS aT aU],[.int .u64 s],rfl,ag,(ZD aO)⟩
theorem Zjq {c:World} {b:Zb} (hv:VIn b c) {d:List Value} {a:Nat} (i:Rep.rel Zv b d a) {e:List Value} {n:Int} (f:Rep.rel (Zd .u64) b e n) {z:Nat×Int} (hm:Z0d a n=some z) :
  Ret Tryz.prog 127 #[Zv.val d,(Zd .u64).val e] c b (fun y v'=>∃ g h,y=Value.tuple #[Zv.val g,(Zd .u64).val h]∧Zv.rel v' g z.1∧(Zd .u64).rel v' h z.2) :=
 Z1u hv i f (ZJu f.2 hm)
theorem cmp_w {m:World} {e:Zb} (hv:VIn e m) {A:List Value} {a:(List Int)} (c:Rep.rel (Zw (Zd .u64)) e A a) {B:List Value} {b:(List Int)} (d:Rep.rel (Zw (Zd .u64)) e B b) {z:Int} (H:ZZh a b=some z):Ret Tryz.prog 60 #[(Zw (Zd .u64)).val A,(Zw (Zd .u64)).val B] m e (fun y v'=>∃ C,y=(Zd .i64).val C∧(Zd .i64).rel v' C z):=by
 obtain ⟨D,E,G,rfl⟩:=ZRm c;obtain ⟨I,J,L,rfl⟩:=ZRm d;refine ZLb (K:=41) (args:=[.slice D E G,.slice I J L]) hv Tryz.func60 rfl rfl zl fun f S=>?_;unfold ZZh at H;refine sr (mw S rfl fun f S=>oe (Zj fun _ P=>sr (mv S rfl fun f S=>ov S rfl (Zea S (ZG c) rfl rfl ZB) fun f S=>mv S rfl fun f S=>ov S rfl (Zea S (ZG d) rfl rfl ZB) fun f S=>ov S rfl (Ze S rfl rfl ZXr) fun f S=>oe ?_)));rcases ZL (((a.length:Int)) != ((b.length:Int))) with g | g
 ·have H:=ZJ H g;refine ZQ S rfl g (Zj fun _ Q=>sr (mv S rfl fun f S=>ov S rfl (Zea S (ZG c) rfl rfl ZB) fun f S=>mv S rfl fun f S=>ov S rfl (Zea S (ZG d) rfl rfl ZB) fun f S=>ov S rfl (Ze S rfl rfl Z7b) fun f S=>oe ?_));rcases ZL (decide ((a.length:Int)<(b.length:Int))) with h | h
  ·have H:=ZJ H h;refine ZQ S rfl h (sr (mw S rfl fun f S=>oe (wp_ret (ZVa (ZVa ?_)))));obtain rfl:=Zn H;refine ZAa S (ZMa rfl (ZT S rfl)) ⟨[.int .i64 (-1:Int)],rfl,(ZD (by decide))⟩
  have H:=ZK H h;refine ZM S rfl h (wp_skip (Zf (Q _ _ (sr (mw S rfl fun f S=>oe (wp_ret (ZVa ?_)))))));obtain rfl:=Zn H;refine ZAa S (ZMa rfl (ZT S rfl)) ⟨[.int .i64 1],rfl,(ZD (by decide))⟩
 have H:=ZK H g;refine ZM S rfl g (wp_skip (Zf (P _ _ (Zj fun _ R=>Zj fun _ T=>bO H fun ar M H=>Zu (mv S rfl fun f S=>ov S rfl (Zea S (ZG c) rfl rfl ZB) fun f S=>ov S rfl (Ze S rfl rfl (Zwa M)) fun f S=>mw S rfl fun f S=>Zs (Zf (T _ _ ?_)))))));obtain ⟨U,V,o⟩:=ZE H;refine Zva (fun f w=>∃  (p:Zb),(.inl (()))=U∧Zb.le e p∧St 41 m e [] [] p f w) (fun _ W=>?_) ?_
 ·have H:=V;refine wp_block ?_;obtain ⟨au,X,q⟩:=ZE H;refine Zwb X (fun Y f w=>∃ i r,i=Y∧Zb.le e r∧St 41 m e [(0,.slice D E G),(1,.slice I J L),(5,.int .i64 i)] [] r f w∧inR .i64 i) ⟨_,_,rfl,(leR _),(S.fr' rfl),(Zsa M).2⟩ ?_;rintro _ f w st ⟨i,r,hq,n,S,av⟩ H aw Z s;subst hq;refine Zj fun _ aa=>sr (mv S rfl fun f S=>ov S rfl (Ze S rfl rfl Zec) fun f S=>oe ?_);rcases ZL (decide ((0:Int)≤i)) with j | j
  ·have H:=ZJ H j;refine ZQ S rfl j (wp_skip (Zf (aa _ _ (Zj fun _ ab=>wp_block (Zj fun _ ac=>Zj fun _ ad=>bO H fun ae t H=>bO H fun af u H=>Z8d (fl:=#[true,true,true,true,true,true,true,true,true]) ZHe (by kernel_rfl) S ?_)))));intro ops O F w S;refine rfa O F 0 rfl rfl S (Zz S rfl) fun f S=>rfa O F 1 rfl rfl S (Zz S rfl) fun f S=>?_;have c:=Z7 n c;obtain ⟨_,ax,ay,az,rfl,ag,ah⟩:=Z8a c (Zi t).2.1;obtain ⟨rfl,aA⟩:=ah;refine rfa O F 2 rfl rfl S (ZN S rfl rfl ZB (Zi t).1 (ltI (ZG c) (Zi t).2.2.1)) fun f S=>rfa O F 3 rfl rfl S (Zka S rfl Z5 (S.view ag)) fun f S=>rfa O F 4 rfl rfl S (Zz S rfl) fun f S=>rfa O F 5 rfl rfl S (Zz S rfl) fun f S=>?_;have d:=Z7 n d;obtain ⟨_,aB,aC,aD,rfl,ai,aj⟩:=Z8a d (Zi u).2.1;obtain ⟨rfl,aE⟩:=aj;refine rfa O F 6 rfl rfl S (ZN S rfl rfl ZB (Zi u).1 (ltI (ZG d) (Zi u).2.2.1)) fun f S=>rfa O F 7 rfl rfl S (Zka S rfl Z5 (S.view ai)) fun f S=>rfa O F 8 rfl rfl S (Ze S rfl rfl Z7b) fun f S=>ZKe O F (Zf (ad _ _ ?_));rcases ZL (decide (ae<af)) with k | k
   ·have H:=ZJ H k;refine ZQ S rfl k (sr (mw S rfl fun f S=>oe (wp_ret (ZVa (Zhh (ZVa ?_))))));obtain rfl:=Zn H;have hq:=s _ rfl;subst hq;have H:=q;refine ZVa (Zhh ?_);obtain rfl:=Zn H;have H:=o;refine ZVa (ZVa ?_);obtain rfl:=Zn H;refine ZAa S (ZMa rfl (ZT S rfl)) ⟨[.int .i64 (-1:Int)],rfl,(ZD (by decide))⟩
   have H:=ZK H k;refine ZM S rfl k (wp_skip (Zf (ac _ _ (Zj fun _ ak=>bO H fun al v H=>bO H fun am x H=>Z8d (fl:=#[true,true,true,true,true,true,true,true,true]) ZHe (by kernel_rfl) S ?_))));intro ops O F w S;refine rfa O F 0 rfl rfl S (Zz S rfl) fun f S=>rfa O F 1 rfl rfl S (Zz S rfl) fun f S=>?_;obtain ⟨aF,an,ao⟩:=ZZg c (Zi v).2.1;obtain ⟨rfl,aG⟩:=ao;refine rfa O F 2 rfl rfl S (ZN S rfl rfl ZB (Zi v).1 (ltI (ZG c) (Zi v).2.2.1)) fun f S=>rfa O F 3 rfl rfl S (Zka S rfl Z5 (S.view an)) fun f S=>rfa O F 4 rfl rfl S (Zz S rfl) fun f S=>rfa O F 5 rfl rfl S (Zz S rfl) fun f S=>?_;obtain ⟨aH,ap,aq⟩:=ZZg d (Zi x).2.1;obtain ⟨rfl,aI⟩:=aq;refine rfa O F 6 rfl rfl S (ZN S rfl rfl ZB (Zi x).1 (ltI (ZG d) (Zi x).2.2.1)) fun f S=>rfa O F 7 rfl rfl S (Zka S rfl Z5 (S.view ap)) fun f S=>rfa O F 8 rfl rfl S (Ze S rfl rfl ZUc) fun f S=>ZKe O F (Zf (ak _ _ ?_));rcases ZL (decide (am<al)) with l | l
   ·have H:=ZJ H l;refine ZQ S rfl l (sr (mw S rfl fun f S=>oe (wp_ret (Zhh (ZVa ?_)))));obtain rfl:=Zn H;have hq:=s _ rfl;subst hq;have H:=q;refine ZVa (Zhh ?_);obtain rfl:=Zn H;have H:=o;refine ZVa (ZVa ?_);obtain rfl:=Zn H;refine ZAa S (ZMa rfl (ZT S rfl)) ⟨[.int .i64 1],rfl,(ZD (by decide))⟩
   have H:=ZK H l;refine ZM S rfl l (wp_skip (Zsb (Zf (ab _ _ (bO H fun aJ N H=>Zu (mv S rfl fun f S=>ov S rfl (Ze S rfl rfl (Zwa N)) fun f S=>mw S rfl fun f S=>Zs ?_))))));obtain rfl:=Zn H;refine Z _ rfl _ _ ⟨_,_,rfl,n,(S.fr' rfl),(Zsa N).2⟩
  have H:=ZK H j;refine ZM S rfl j (wp_exit (ZZ ?_));obtain rfl:=Zn H;have hq:=s _ rfl;subst hq;have H:=q;refine ZZ (Z6a ?_);obtain rfl:=Zn H;refine Zf (W _ _ ⟨_,rfl,(leT (leR _) n),(S.fr' rfl)⟩)
 rintro f w ⟨p,hq,aK,S⟩;subst hq;have H:=o;refine Zf (R _ _ (sr (mw S rfl fun f S=>oe (wp_ret ?_))));obtain rfl:=Zn H;refine ZAa S (ZMa rfl (ZT S rfl)) ⟨[.int .i64 0],rfl,(ZD (by decide))⟩
theorem cmp_c {d:World} {c:Zb} (hv:VIn c d) {e:List Value} {a:Nat} (f:Rep.rel Zv c e a) {g:List Value} {b:Nat} (h:Rep.rel Zv c g b) {z:Int} (hm:Zad a b=some z) :
  Ret Tryz.prog 60 #[Zv.val e,Zv.val g] d c (fun y v'=>∃ i,y=(Zd .i64).val i∧(Zd .i64).rel v' i z) :=
 cmp_w hv f h ((ZNo (ZPj f) (ZPj h)).trans hm)
theorem mul64_w {e:World} {a:Zb} (hv:VIn a e) {g:List Value} {x:Int} (l:Rep.rel (Zd .u64) a g x) {h:List Value} {y:Int} (m:Rep.rel (Zd .u64) a h y) {z:Int×Int} (H:Zrg x y=some z):Ret Tryz.prog 106 #[(Zd .u64).val g,(Zd .u64).val h] e a (fun y v'=>∃ i c,y = .tuple #[(Zd .u64).val i,(Zd .u64).val c]∧(Zd .u64).rel v' i z.1∧(Zd .u64).rel v' c z.2):=by
 obtain ⟨rfl,c⟩:=l;obtain ⟨rfl,B⟩:=m;refine ZLb (K:=51) (args:=[.int .u64 x,.int .u64 y]) hv Tryz.func106 rfl rfl zl fun f S=>?_;unfold Zrg at H;refine sr (mw S rfl fun f S=>mw S rfl fun f S=>oe (sr (mv S rfl fun f S=>ov S rfl (Ze S rfl rfl Zkg) fun f S=>mw S rfl fun f S=>oe (Zj fun _ n=>bO H fun b o H=>Zu (mv S rfl fun f S=>ov S rfl (Ze S rfl rfl (ZFb o)) fun f S=>?_)))));refine mw S rfl fun f S=>Zs (Zf (n _ _ (sr (mv S rfl fun f S=>ov S rfl (Ze S rfl rfl Zkg) fun f S=>mw S rfl fun f S=>oe (Zj fun _ p=>bO H fun d q H=>Zu (mv S rfl fun f S=>ov S rfl (Ze S rfl rfl (ZFb q)) fun f S=>mw S rfl fun f S=>?_))))));refine Zs (Zf (p _ _ (sr (mv S rfl fun f S=>mv S rfl fun f S=>ov S rfl (Ze S rfl rfl Zjb) fun f S=>mw S rfl fun f S=>oe (Zj fun _ r=>bO H fun s t H=>Zu (mv S rfl fun f S=>mv S rfl fun f S=>ov S rfl (Ze S rfl rfl Zjb) fun f S=>?_))))));refine mv S rfl fun f S=>ov S rfl (Ze S rfl rfl (ZFb t)) fun f S=>ov S rfl (Ze S rfl rfl ZXb) fun f S=>mw S rfl fun f S=>Zs ?_;have S:=S.fr' (σ':=[(0,.int .u64 x),(1,.int .u64 y),(6,.int .u64 (Z0 .u64 x (4294967295:Int))),(7,.int .u64 b),(9,.int .u64 d),(11,.int .u64 (IntKind.u64.wrap ((IntKind.u64.wrap (b*(Z0 .u64 y (4294967295:Int))))+s)))]) rfl;refine Zf (r _ _ (sr (mv S rfl fun f S=>ov S rfl (Ze S rfl rfl Zkg) fun f S=>mw S rfl fun f S=>oe (Zj fun _ u=>bO H fun j v H=>Zu (mv S rfl fun f S=>ov S rfl (Ze S rfl rfl (ZFb v)) fun f S=>mw S rfl fun f S=>Zs (Zf (u _ _ ?_)))))))
 refine sr (mv S rfl fun f S=>mv S rfl fun f S=>mv S rfl fun f S=>ov S rfl (Ze S rfl rfl Zjb) fun f S=>ov S rfl (Ze S rfl rfl ZXb) fun f S=>mw S rfl fun f S=>oe (Zj fun _ w=>bO H fun k A H=>Zu (mv S rfl fun f S=>mv S rfl fun f S=>ov S rfl (Ze S rfl rfl Zjb) fun f S=>?_)));refine mv S rfl fun f S=>ov S rfl (Ze S rfl rfl ZXb) fun f S=>mv S rfl fun f S=>ov S rfl (Ze S rfl rfl (ZFb A)) fun f S=>ov S rfl (Ze S rfl rfl ZXb) fun f S=>mw S rfl fun f S=>Zs (Zf (w _ _ (sr (mv S rfl fun f S=>mv S rfl fun f S=>ov S rfl (Ze S rfl rfl Zjb) fun f S=>mw S rfl fun f S=>?_))));have S:=S.fr' (σ':=[(4,.int .u64 (IntKind.u64.wrap ((IntKind.u64.wrap ((IntKind.u64.wrap (b*d))+j))+k))),(5,.int .u64 (IntKind.u64.wrap (x*y)))]) rfl;refine oe (wp_ret ?_);obtain rfl:=Zn H;refine ZAa S (ZYe rfl (ZT S rfl) (ZT S rfl)) ⟨[.int .u64 (IntKind.u64.wrap ((IntKind.u64.wrap ((IntKind.u64.wrap (b*d))+j))+k))],[.int .u64 (IntKind.u64.wrap (x*y))],rfl,(ZD (Zqa _ _)),(ZD (Zqa _ _))⟩
theorem Zoo {b:World} {a:Zb} (hv:VIn a b) {c:List Value} {x:Int} (g:Rep.rel (Zd .u64) a c x) {d:List Value} {y:Int} (h:Rep.rel (Zd .u64) a d y) {z:Int×Int} (hm:Zgc x y=some z) :
  Ret Tryz.prog 106 #[(Zd .u64).val c,(Zd .u64).val d] b a (fun y v'=>∃ e f,y=Value.tuple #[(Zd .u64).val e,(Zd .u64).val f]∧(Zd .u64).rel v' e z.1∧(Zd .u64).rel v' f z.2) :=
 mul64_w hv g h (ZKr hm)
theorem take_w {R:World} {o:Zb} (hv:VIn o R) {a off0 g C:Nat} {E:TypeId} {pre0 cs0 post0:List Value} {u:(List Int)} (bf:R.heap[a]? = some (.cells (pre0++cs0++post0).toArray E (0,0))) (aG:off0=pre0.length) (bg:o a=none) (au:g=u.length) (bh:g≤C∧C≤maxLen) (r:Rep.rels (Zd .u64) o cs0 u) {c1:List Value} {v:Nat} (D:Rep.rel Zv o c1 v) {c2:List Value} {q:Int} (p2:Rep.rel (Zd .u64) o c2 q) {z:Bool×(List Int)} (H:Zwh u v q=some z):RetL Tryz.prog 176 #[.slice (some ⟨a,off0,none⟩) g C,Zv.val c1,(Zd .u64).val c2] R o [a] (fun y v' w'=>(∃ r0,y=ZKc.val r0∧ZKc.rel v' r0 z.1)∧v' a=none∧∃ cs,w'.heap[a]? = some (.cells (pre0++cs++post0).toArray E (0,0))∧g=z.2.length∧Rep.rels (Zd .u64) v' cs z.2):=by
 obtain ⟨q1,V,W,rfl⟩:=Zia D;obtain ⟨rfl,r4⟩:=p2;refine ZBo (K:=79) (args:=[.slice (some ⟨a,off0,none⟩) (g) C,.slice q1 V W,.int .u64 q]) hv bf bg Tryz.func176 rfl rfl zl fun f S=>?_;unfold Zwh at H;refine sr (mw S rfl fun f S=>oe (Zj fun _ bi=>bO H fun J bj H=>bO H fun cF av H=>Zu (mv S rfl fun f S=>ov S rfl (Zea S (ZG D) rfl rfl ZB) fun f S=>ov S rfl (Ze S rfl rfl (ZJa bj)) fun f S=>?_)));obtain ⟨aH,aQ⟩:∃ c:List Value,c=(List.replicate (J).toNat [.int .u64 0]).flatten:=⟨_,rfl⟩;obtain ⟨aR,w,bk,S⟩:=ZAh Zie S (l:=J) (c:=J) (ZNa av).1 (ZNa av).2.1 (ZNa av).2.2.1 (ZNa av).2.2.2 aQ;have bm:Rep.rels (Zd .u64) o aH (List.replicate (J).toNat (0:Int)):=by rw [aQ];exact Z5d (show Rep.rel (Zd .u64) _ [.int .u64 0] _ from (ZD (by decide))) _
 refine Zub wn rfl zl (bk rfl rfl) S fun f S=>mw S rfl fun f S=>Zs (Zf (bi _ _ (sr (mw S rfl fun f S=>oe (Zj fun _ bn=>sr (mv S rfl fun f S=>ov S rfl (Zea S (ZG D) rfl rfl ZB) fun f S=>mv S rfl fun f S=>oe ?_))))));obtain ⟨bo,bp,bq⟩:=ZE H;refine Zva (fun f w=>∃ L b aI s G h X,(L,b)=bo∧Zb.le o X∧St 79 ⟨R,[a]⟩ o [(0,.slice (some ⟨a,off0,none⟩) (g) C),(1,.slice q1 V W),(7,.slice (mkA aI) s G),(8,.int .u64 b)] [Loc.box a E (pre0++cs0++post0),Loc.own aI 148 1 s G h] X f w∧Rep.rels (Zd .u64) X h L∧s=L.length∧inR .u64 b) (fun _ br=>?_) ?_
 ·have H:=bp;refine wp_block ?_;obtain ⟨cG,bs,bt⟩:=ZE H;have S:=S.reorder (ℓ':=[Loc.box a E (pre0++cs0++post0),Loc.own (some aR) 148 1 ((J).toNat) (J).toNat aH]) [1,0] rfl (by decide);refine Zwb bs (fun bu f w=>∃ Y ag m aw M Z I ax,(Y,ag,m)=bu∧Zb.le o ax∧St 79 ⟨R,[a]⟩ o [(0,.slice (some ⟨a,off0,none⟩) (g) C),(1,.slice q1 V W),(2,.int .u64 q),(7,.slice (mkA aw) M Z),(8,.int .u64 ag),(20,.slice q1 V W),(21,.int .i64 ((((Zc 18446744073709551616 v)).length:Int))),(22,.int .i64 m)] [Loc.box a E (pre0++cs0++post0),Loc.own aw 148 1 M Z I] ax f w∧Rep.rels (Zd .u64) ax I Y∧M=Y.length∧inR .u64 ag∧inR .i64 m) ⟨_,_,_,some aR,(J).toNat,(J).toNat,aH,_,rfl,(leR _),(S.fr' rfl),bm,(repN (x:=(0:Int))),(by decide),(by decide)⟩ ?_;rintro _ f w st ⟨Y,ag,m,aw,M,Z,I,ax,hq,ay,S,ah,ai,bv,cH⟩ H cI bw bx;subst hq;have r:=ZW ay r;refine sr (ov S rfl (Ze S rfl rfl Z7b) fun f S=>oe (Zj fun _ bz=>?_));rcases ZL (decide (m<(((Zc 18446744073709551616 v)).length:Int))) with aj | aj
  ·have H:=ZJ H aj;refine ZQ S rfl aj (wp_skip (Zf (bz _ _ (Zj fun _ bA=>wp_block (Zj fun _ bB=>bO H fun aJ aK H=>Zu (mv S rfl fun f S=>?_))))));have D:=Z7 ay D;obtain ⟨_,aS,aT,cJ,rfl,bC,bD⟩:=Z8a D (Zi aK).2.1;obtain ⟨rfl,bE⟩:=bD;refine ov S rfl (ZN S rfl rfl ZB (Zi aK).1 (ltI (ZG D) (Zi aK).2.2.1)) fun f S=>ov S rfl (Zka S rfl Z5 (S.view bC)) fun f S=>mw S rfl fun f S=>mw S rfl fun f S=>Zs (Zf (bB _ _ (Zj fun _ bG=>bO H fun aU bH H=>Zu (mv S rfl fun f S=>mv S rfl fun f S=>opc S rfl (Zaa S [.int .u64 aJ,.int .u64 q] ZWm rfl rfl) (Zoo S.vin (show Rep.rel (Zd .u64) _ [.int .u64 aJ] aJ from (ZD bE)) (show Rep.rel (Zd .u64) _ [.int .u64 q] q from (ZD r4)) bH) ?_))));rintro _ aV f w aL ⟨cK,cL,rfl,bI,bJ⟩ S;have r:=ZW aL r;have ah:=ZW aL ah;obtain ⟨rfl,cM⟩:=bI;obtain ⟨rfl,cN⟩:=bJ;refine mv S rfl fun f S=>ov S rfl (Zya S rfl rfl) fun f S=>ov S rfl (Zya S rfl rfl) fun f S=>mw S rfl fun f S=>mw S rfl fun f S=>Zs (Zf (bG _ _ (sr (mw S rfl fun f S=>oe (Zj fun _ bK=>bO H fun N aW H=>bO H fun cO aa H=>Zu ?_)))));refine mv S rfl fun f S=>mv S rfl fun f S=>mv S rfl fun f S=>mv S rfl fun f S=>ov S rfl (Zbk S [.int .u64 (aU.2),.int .u64 ag,.int .u64 0] (Zjo Zcq aW) rfl rfl) fun f S=>mv S rfl fun f S=>ov S rfl (Zya S rfl rfl) fun f S=>ov S rfl (Zya S rfl rfl) fun f S=>?_
   obtain ⟨aX,rfl⟩:=Zyc S (j:=1) rfl (posN ai (Zi aa).2.2.2);have aY:=Zja ah (Zi aa).2.1;obtain ⟨cP,bM⟩:∃ c,(List.take (Zd .u64).n (List.drop ((m).toNat*(Zd .u64).n) I))=c:=⟨_,rfl⟩;rw [bM] at aY;obtain ⟨rfl,cQ⟩:=aY;refine ov S rfl (ZN S rfl rfl ZB (Zi aa).1 (ltI ai (Zi aa).2.2.1)) fun f S=>?_;obtain ⟨w,bP,S⟩:=ZNb S Z5 (off:=0+(m).toNat*1) (z:=.int .u64 (N.1)) (cs:=[.int .u64 (N.1)]) (Zzb rfl) rfl (i:=1) rfl (Zsd S (j:=1) rfl (ltN ai (Zi aa).2.2.2)) (by first | rfl | simp [plain]);have bQ:Rep.rels (Zd .u64) aV (List.take (0+(m).toNat*1) I++[Value.int IntKind.u64 (N.1)]++List.drop (0+(m).toNat*1+1) I) (Y.set (m).toNat N.1):=ZXc ah (Zi aa).2.2.2 (show Rep.rel (Zd .u64) aV [.int .u64 (N.1)] _ from (ZD (Zmm aW))) rfl rfl;have bR:M=(Y.set (m).toNat N.1).length:=Zld ai;refine Zrf wn rfl (bP rfl rfl) (mw S rfl fun f S=>Zs ?_);have S:=S.fr' (σ':=[(0,.slice (some ⟨a,off0,none⟩) (g) C),(1,.slice (some ⟨aS,aT,none⟩) V W),(2,.int .u64 q),(7,.slice (mkA (some aX)) (M) Z),(11,.int .u64 (aU.1)),(13,.int .u64 (N.2)),(20,.slice (some ⟨aS,aT,none⟩) V W),(21,.int .i64 ((((Zc 18446744073709551616 v)).length:Int))),(22,.int .i64 m)]) rfl
   refine Zf (bK _ _ (Zu (mv S rfl fun f S=>mv S rfl fun f S=>ov S rfl (Ze S rfl rfl ZXb) fun f S=>mw S rfl fun f S=>Zs (Zsb (Zf (bA _ _ (bO H fun cR aZ H=>Zu (ov S rfl (Ze S rfl rfl (ZJa aZ)) fun f S=>mv S rfl fun f S=>Zs ?_))))))));obtain rfl:=Zn H;refine bw _ rfl _ _ ⟨_,_,_,some aX,M,Z,(List.take (0+(m).toNat*1) I++[Value.int IntKind.u64 (N.1)]++List.drop (0+(m).toNat*1+1) I),_,rfl,(leT ay aL),(S.fr' rfl),bQ,bR,(Zqa _ _),(Zsa aZ).2⟩
  have H:=ZK H aj;refine ZM S rfl aj (wp_exit (ZZ ?_));obtain rfl:=Zn H;have hq:=bx _ rfl;subst hq;have H:=bt;refine ZZ (Z6a ?_);obtain rfl:=Zn H;refine Zf (br _ _ ⟨_,_,aw,M,Z,I,_,rfl,(leT (leR _) ay),(S.fr' rfl),ah,ai,bv⟩)
 rintro f w ⟨L,b,aI,s,G,h,X,hq,a0,S,a1,az,bS⟩;subst hq;have H:=bq;have r:=ZW a0 r;refine Zf (bn _ _ (Zj fun _ bT=>bO H fun cS ab H=>Zu (mv S rfl fun f S=>mv S rfl fun f S=>?_)));have D:=Z7 a0 D;refine ov S rfl (Zea S (ZG D) rfl rfl ZB) fun f S=>mv S rfl fun f S=>?_;obtain ⟨ac,rfl⟩:=Zyc S (j:=1) rfl (posN az (Zi ab).2.2.2);have a2:=Zja a1 (Zi ab).2.1;obtain ⟨cT,bU⟩:∃ c,(List.take (Zd .u64).n (List.drop (((((Zc 18446744073709551616 v)).length:Int)).toNat*(Zd .u64).n) h))=c:=⟨_,rfl⟩;rw [bU] at a2;obtain ⟨rfl,cU⟩:=a2;refine ov S rfl (ZN S rfl rfl ZB (Zi ab).1 (ltI az (Zi ab).2.2.1)) fun f S=>?_;obtain ⟨w,bV,S⟩:=ZNb S Z5 (off:=0+((((Zc 18446744073709551616 v)).length:Int)).toNat*1) (z:=.int .u64 b) (cs:=[.int .u64 b]) (Zzb rfl) rfl (i:=1) rfl (Zsd S (j:=1) rfl (ltN az (Zi ab).2.2.2)) (by first | rfl | simp [plain]);have p:Rep.rels (Zd .u64) X (List.take (0+((((Zc 18446744073709551616 v)).length:Int)).toNat*1) h++[Value.int IntKind.u64 (b)]++List.drop (0+((((Zc 18446744073709551616 v)).length:Int)).toNat*1+1) h) (L.set ((((Zc 18446744073709551616 v)).length:Int)).toNat b):=ZXc a1 (Zi ab).2.2.2 (show Rep.rel (Zd .u64) X [.int .u64 b] _ from (ZD bS)) rfl rfl
 have aM:s=(L.set ((((Zc 18446744073709551616 v)).length:Int)).toNat b).length:=Zld az;refine Zrf wn rfl (bV rfl rfl) (Zs (Zf (bT _ _ (Zj fun _ bW=>Zj fun _ bX=>bO H fun cV bY H=>bO H fun cW bZ H=>bO H fun b1 b2 H=>Zu (mv S rfl fun f S=>?_)))));have p0s120:=r;have h69s120:=p;have b3:=S.vst.le;obtain ⟨cX,cY,a3,t,S,b4,b5,b6,T⟩:=S.lendSeg (i:=0) (A:=(Zd .u64)) (l:=u) (ℓ':=[Loc.own (some ac) 148 1 s G ((List.take (0+((((Zc 18446744073709551616 v)).length:Int)).toNat*1) h++[Value.int IntKind.u64 (b)]++List.drop (0+((((Zc 18446744073709551616 v)).length:Int)).toNat*1+1) h))]) rfl rfl aG r au bh;have p:=ZW a3 p;refine opc S rfl (Zaa S [.slice (some ⟨a,off0,none⟩) (g) C] Zjf rfl rfl) (ZMe S.vin (show Rep.rel (Zw (Zd .u64)) _ [.slice (some ⟨a,off0,none⟩) (g) C] u from T) bY) ?_;rintro _ cZ f w aA ⟨c0,rfl,P⟩ S;have p:=ZW aA p;have t:=aA _ _ t;obtain ⟨b7,b8,b9,rfl⟩:=Zia P;refine mv S rfl fun f S=>?_;have T:=Z7 aA T;have h128s137:=T;have h69s137:=p;have h133s137:=P;have h124s137:=t;have ca:=S.vst.le;obtain ⟨c3,c4,aB,ak,S,cb,cc,cd,ce⟩:=S.lendSlice (i:=0) (A:=(Zd .u64)) (l:=(L.set ((((Zc 18446744073709551616 v)).length:Int)).toNat b)) (ℓ':=[]) rfl rfl rfl p aM
 have t:=aB _ _ t;refine opc S rfl (Zaa S [.slice (mkA (some ac)) (s) G] Zjf rfl rfl) (ZMe S.vin (show Rep.rel (Zw (Zd .u64)) _ [.slice (mkA (some ac)) (s) G] ((L.set ((((Zc 18446744073709551616 v)).length:Int)).toNat b)) from ce) bZ) ?_;rintro _ c5 f w al ⟨c6,rfl,a4⟩ S;have t:=al _ _ t;have ak:=al _ _ ak;obtain ⟨cg,ch,ci,rfl⟩:=Zia a4;have P:=Z7 (leT aB al) P;refine opc S rfl (Zaa S [.slice b7 b8 b9,.slice cg ch ci] Z0q rfl rfl) (cmp_c S.vin P a4 b2) ?_;rintro _ c7 f w am ⟨c8,rfl,cj⟩ S;have t:=am _ _ t;have ak:=am _ _ ak;obtain ⟨rfl,c9⟩:=cj;refine ov S rfl (Ze S rfl rfl Z7b) fun f S=>Zs ?_;obtain ⟨da,an,S⟩:=S.takeBack (e:=Loc.own (some ac) 148 1 s G ((List.take (0+((((Zc 18446744073709551616 v)).length:Int)).toNat*1) h++[Value.int IntKind.u64 (b)]++List.drop (0+((((Zc 18446744073709551616 v)).length:Int)).toNat*1+1) h))) (leT (leT aB al) am) rfl ak cb cc ca cd;have T:=Z7 (leT (leT aB al) am) T;have T:=Z7 an h128s137;have p:=ZW an h69s137;have P:=Z7 am P;have P:=Z7 an h133s137;have t:=an _ _ h124s137;obtain ⟨a5,a6,S⟩:=S.takeBack (e:=Loc.box a E (pre0++cs0++post0)) (leT (leT a3 aA) an) rfl t b4 b5 b3 b6;have r:=ZW a6 p0s120
 have p:=ZW a6 h69s120;refine Zf (bX _ _ ?_);rcases ZL (decide (b1<(0:Int))) with ao | ao
 ·have H:=ZJ H ao;refine ZQ S rfl ao (sr (mw S rfl fun f S=>oe (wp_ret (ZVa ?_))));obtain rfl:=Zn H;refine ZTl S (ZMa rfl (ZT S rfl)) ⟨⟨[.bool false],rfl,ZTr⟩,(S.boxAt (j:=0) rfl).2,_,(S.boxAt (j:=0) rfl).1,au,r⟩
 have H:=ZK H ao;refine ZM S rfl ao (wp_skip (Zf (bW _ _ (sr (mw S rfl fun f S=>oe (Zj fun _ ck=>sr (mv S rfl fun f S=>ov S rfl (Zea S au rfl rfl ZB) fun f S=>mv S rfl fun f S=>oe ?_)))))));obtain ⟨cl,cm,cn⟩:=ZE H;refine Zva (fun f w=>∃ aC aN aD,aC=cl∧Zb.le a5 aD∧St 79 ⟨R,[a]⟩ o [] [Loc.box a E (pre0++aN++post0)] aD f w∧Rep.rels (Zd .u64) aD aN aC∧g=aC.length) (fun _ co=>?_) ?_
 ·have H:=cm;refine wp_block ?_;obtain ⟨db,cp,cq⟩:=ZE H;refine Zwb cp (fun cr f w=>∃ ad ap d B ae,(ad,ap,d)=cr∧Zb.le a5 ae∧St 79 ⟨R,[a]⟩ o [(0,.slice (some ⟨a,off0,none⟩) (g) C),(7,.slice (mkA (some ac)) (s) G),(14,.int .u64 ap),(58,.int .i64 ((u.length:Int))),(59,.int .i64 d)] [Loc.box a E (pre0++B++post0),Loc.own (some ac) 148 1 s G ((List.take (0+((((Zc 18446744073709551616 v)).length:Int)).toNat*1) h++[Value.int IntKind.u64 (b)]++List.drop (0+((((Zc 18446744073709551616 v)).length:Int)).toNat*1+1) h))] ae f w∧Rep.rels (Zd .u64) ae B ad∧g=ad.length∧inR .u64 ap∧inR .i64 d) ⟨_,_,_,cs0,_,rfl,(leR _),(S.fr' rfl),r,au,(by decide),(by decide)⟩ ?_;rintro _ f w st ⟨ad,ap,d,B,ae,hq,aO,S,af,Q,dc,dd⟩ H de ct cu;subst hq;have p:=ZW aO p;refine sr (ov S rfl (Ze S rfl rfl Z7b) fun f S=>oe (Zj fun _ cv=>?_));rcases ZL (decide (d<(u.length:Int))) with aq | aq
  ·have H:=ZJ H aq;refine ZQ S rfl aq (wp_skip (Zf (cv _ _ (Zj fun _ cw=>wp_block (sr (mv S rfl fun f S=>mw S rfl fun f S=>oe (bO H fun a7 aE H=>bO H fun a8 aF H=>bO H fun U aP H=>bO H fun df ar H=>Z8d (fl:=#[true,true,true,true,true,true,true,true,true,true,true,false,true,true,true,true,false,false]) ZHe (by kernel_rfl) S ?_)))))));intro ops O F w S;refine rfa O F 0 rfl rfl S (Zz S rfl) fun f S=>rfa O F 1 rfl rfl S (Zz S rfl) fun f S=>rfa O F 2 rfl rfl S (Zz S rfl) fun f S=>rfa O F 3 rfl rfl S (Zz S rfl) fun f S=>?_;have a9:=Zja af (Zi aE).2.1;obtain ⟨dg,ba⟩:∃ c,(List.take (Zd .u64).n (List.drop ((d).toNat*(Zd .u64).n) B))=c:=⟨_,rfl⟩;rw [ba] at a9;obtain ⟨rfl,cx⟩:=a9;refine rfa O F 4 rfl rfl S (ZN S rfl rfl ZB (Zi aE).1 (ltI Q (Zi aE).2.2.1)) fun f S=>rfa O F 5 rfl rfl S (Zka S rfl Z5 (ZMh S (j:=0) rfl aG (Zpe af Q) ba (ltN Q (Zi aE).2.2.2) 0 [.int .u64 a7] rfl zl)) fun f S=>rfa O F 6 rfl rfl S (Zz S rfl) fun f S=>rfa O F 7 rfl rfl S (Zz S rfl) fun f S=>?_;have bb:=Zja p (Zi aF).2.1;obtain ⟨dh,bc⟩:∃ c,(List.take (Zd .u64).n (List.drop ((d).toNat*(Zd .u64).n) (List.take (0+((((Zc 18446744073709551616 v)).length:Int)).toNat*1) h++[Value.int IntKind.u64 (b)]++List.drop (0+((((Zc 18446744073709551616 v)).length:Int)).toNat*1+1) h)))=c:=⟨_,rfl⟩
   rw [bc] at bb;obtain ⟨rfl,cy⟩:=bb;refine rfa O F 8 rfl rfl S (ZN S rfl rfl ZB (Zi aF).1 (ltI aM (Zi aF).2.2.1)) fun f S=>rfa O F 9 rfl rfl S (Zka S rfl Z5 (Zbd S (j:=1) rfl bc (ltN aM (Zi aF).2.2.2) 0 [.int .u64 a8] rfl zl)) fun f S=>rfa O F 10 rfl rfl S (Zz S rfl) fun f S=>go1 O F 11 (nva [5,9,10,4,8,2,3,6,7] [0,1] O rfl rfl S (Zbk S [.int .u64 a7,.int .u64 a8,.int .u64 ap] (Zwr Zmt cx cy aP) rfl rfl) fun f S=>⟨(py S rfl rfl (Zz S rfl) (py S rfl rfl (Zz S rfl) Zjc)),rfa O F 12 rfl rfl S (Zz S rfl) fun f S=>rfa O F 13 rfl rfl S (Zya S rfl rfl) fun f S=>rfa O F 14 rfl rfl S (Zya S rfl rfl) fun f S=>?_⟩);have bd:=Zja af (Zi ar).2.1;obtain ⟨di,cz⟩:∃ c,(List.take (Zd .u64).n (List.drop ((d).toNat*(Zd .u64).n) B))=c:=⟨_,rfl⟩;rw [cz] at bd;obtain ⟨rfl,dj⟩:=bd;refine rfa O F 15 rfl rfl S (ZN S rfl rfl ZB (Zi ar).1 (ltI Q (Zi ar).2.2.1)) fun f S=>go1 O F 16 ?_;obtain ⟨w,cA,S⟩:=Zbv S (k:=(d).toNat) Z5 (z:=.int .u64 (U.1)) (c:=[.int .u64 (U.1)]) (Zzb rfl) rfl (i:=0) rfl aG (Zpe af Q) (ltN Q (Zi ar).2.2.2) rfl (by first | rfl | simp [plain]);have cB:Rep.rels (Zd .u64) ae (List.take (0+(d).toNat*1) B++[Value.int IntKind.u64 (U.1)]++List.drop (0+(d).toNat*1+1) B) (ad.set (d).toNat U.1):=ZXc af (Zi ar).2.2.2 (show Rep.rel (Zd .u64) ae [.int .u64 (U.1)] _ from (ZD (ZCr aP))) rfl rfl
   have cC:g=(ad.set (d).toNat U.1).length:=Zld Q;refine nxs [0,1,2,3,4,5,6,7,8,9,10,11,12,13,15] [14] O rfl rfl (cA rfl rfl) (⟨(py S rfl rfl (Zya S rfl rfl) Zjc),go1 O F 17 (nva [0,1,2,3,4,5,6,7,8,9,10,11,12,13,14,15,16] [] O rfl rfl S (ZRc S rfl) fun f S=>⟨Zjc,ZKe O F (Zsb (Zf (cw _ _ (bO H fun dk be H=>Zu (ov S rfl (Ze S rfl rfl (ZJa be)) fun f S=>mv S rfl fun f S=>Zs ?_)))))⟩)⟩);obtain rfl:=Zn H;refine ct _ rfl _ _ ⟨_,_,_,(List.take (0+(d).toNat*1) B++[Value.int IntKind.u64 (U.1)]++List.drop (0+(d).toNat*1+1) B),_,rfl,aO,(S.fr' rfl),cB,cC,(Zup aP),(Zsa be).2⟩
  have H:=ZK H aq;refine ZM S rfl aq (wp_exit (ZZ ?_));obtain rfl:=Zn H;have hq:=cu _ rfl;subst hq;have H:=cq;refine ZZ (Z6a ?_);obtain rfl:=Zn H;have S:=S.reorder (ℓ':=[Loc.box a E (pre0++B++post0)]) [0] rfl (by decide);refine Zf (co _ _ ⟨_,B,_,rfl,(leT (leR _) aO),(S.fr' rfl),af,Q⟩)
 rintro f w ⟨aC,aN,aD,hq,dl,S,cD,cE⟩;subst hq;have H:=cn;refine Zf (ck _ _ (sr (mw S rfl fun f S=>oe (wp_ret ?_))));obtain rfl:=Zn H;refine ZTl S (ZMa rfl (ZT S rfl)) ⟨⟨[.bool true],rfl,ZTr⟩,(S.boxAt (j:=0) rfl).2,_,(S.boxAt (j:=0) rfl).1,cE,cD⟩
theorem take_c {d:World} {a:Zb} (hv:VIn a d) {b off0 c e:Nat} {f:TypeId} {pre0 cs0 post0:List Value} {u:(List Int)} (l:d.heap[b]? = some (.cells (pre0++cs0++post0).toArray f (0,0))) (m:off0=pre0.length) (n:a b=none) (o:c=u.length) (p:c≤e∧e≤maxLen) (g:Rep.rels (Zd .u64) a cs0 u) {h:List Value} {v:Nat} (r:Rep.rel Zv a h v) {i:List Value} {q:Int} (j:Rep.rel (Zd .u64) a i q) {z:Bool×(List Int)} (hm:Zeg u v q=some z) :
  RetL Tryz.prog 176 #[Value.slice (some ⟨b,off0,none⟩) c e,Zv.val h,(Zd .u64).val i] d a [b] (fun y v' w'=>(∃ k,y=ZKc.val k∧ZKc.rel v' k z.1)∧v' b=none∧∃ cs,w'.heap[b]? = some (.cells (pre0++cs++post0).toArray f (0,0))∧c=z.2.length∧Rep.rels (Zd .u64) v' cs z.2) :=
 take_w hv l m n o p g r j (ZCw (Zzm g) j.2 hm)
theorem digit_w {x:World} {m:Zb} (hv:VIn m x) {a off0 e h:Nat} {A:TypeId} {pre0 cs0 post0:List Value} {u:(List Int)} (a0:x.heap[a]? = some (.cells (pre0++cs0++post0).toArray A (0,0))) (G:off0=pre0.length) (a1:m a=none) (k:e=u.length) (a2:e≤h∧h≤maxLen) (d:Rep.rels (Zd .u64) m cs0 u) {c1:List Value} {v:Nat} (g:Rep.rel Zv m c1 v) {z:Int×(List Int)} (H:ZJi u v=some z):RetL Tryz.prog 144 #[.slice (some ⟨a,off0,none⟩) e h,Zv.val c1] x m [a] (fun y v' w'=>(∃ r0,y=(Zd .u64).val r0∧(Zd .u64).rel v' r0 z.1)∧v' a=none∧∃ cs,w'.heap[a]? = some (.cells (pre0++cs++post0).toArray A (0,0))∧e=z.2.length∧Rep.rels (Zd .u64) v' cs z.2):=by
 obtain ⟨q1,o,p,rfl⟩:=Zia g;refine ZBo (K:=90) (args:=[.slice (some ⟨a,off0,none⟩) (e) h,.slice q1 o p]) hv a0 a1 Tryz.func144 rfl rfl zl fun f S=>?_;unfold ZJi at H;refine sr (mw S rfl fun f S=>oe (sr (mv S rfl fun f S=>ov S rfl (Zea S (ZG g) rfl rfl ZB) fun f S=>mw S rfl fun f S=>oe (sr (mw S rfl fun f S=>oe (Zj fun _ a3=>Zj fun _ a4=>bO H fun aE V H=>?_))))));refine bO H fun ck a5 H=>bO H fun a6 aj H=>Z8d (fl:=#[true,true,true,true,true,true,true,true,true,true]) ZHe (by kernel_rfl) S ?_;intro ops O F w S;refine rfa O F 0 rfl rfl S (Zz S rfl) fun f S=>rfa O F 1 rfl rfl S (Zz S rfl) fun f S=>?_;have aF:=Zja d (Zi V).2.1;obtain ⟨cl,aG⟩:∃ c,(List.take (Zd .u64).n (List.drop (((((Zc 18446744073709551616 v)).length:Int)).toNat*(Zd .u64).n) cs0))=c:=⟨_,rfl⟩;rw [aG] at aF;obtain ⟨rfl,cm⟩:=aF;refine rfa O F 2 rfl rfl S (ZN S rfl rfl ZB (Zi V).1 (ltI k (Zi V).2.2.1)) fun f S=>rfa O F 3 rfl rfl S (Zka S rfl Z5 (ZMh S (j:=0) rfl G (Zpe d k) aG (ltN k (Zi V).2.2.2) 0 [.int .u64 aE] rfl zl)) fun f S=>rfa O F 4 rfl rfl S (Zz S rfl) fun f S=>rfa O F 5 rfl rfl S (Zz S rfl) fun f S=>rfa O F 6 rfl rfl S (Ze S rfl rfl (Zwa a5)) fun f S=>?_;obtain ⟨_,r,s,cn,rfl,a7,a8⟩:=Z8a g (Zi aj).2.1
 obtain ⟨rfl,co⟩:=a8;refine rfa O F 7 rfl rfl S (ZN S rfl rfl ZB (Zi aj).1 (ltI (ZG g) (Zi aj).2.2.1)) fun f S=>rfa O F 8 rfl rfl S (Zka S rfl Z5 (S.view a7)) fun f S=>rfa O F 9 rfl rfl S (Ze S rfl rfl Z7b) fun f S=>ZKe O F (Zf (a4 _ _ ?_));obtain ⟨a9,ba,bb⟩:=ZE H;refine Zva (fun f w=>∃ W I,W=a9∧Zb.le m I∧St 90 ⟨x,[a]⟩ m [(0,.slice (some ⟨a,off0,none⟩) (e) h),(1,.slice (some ⟨r,s,none⟩) o p),(6,.int .u64 W)] [Loc.box a A (pre0++cs0++post0)] I f w∧inR .u64 W) (fun _ aH=>?_) ?_
 ·have H:=ba;rcases ZL (decide (aE<a6)) with J | J
  ·have H:=ZJ H J;refine ZQ S rfl J (sr (mw S rfl fun f S=>oe (Zj fun _ bc=>bO H fun X Y H=>bO H fun bd be H=>bO H fun Z aa H=>bO H fun cp bf H=>bO H fun ak al H=>bO H fun aI bg H=>Z8d (fl:=#[true,true,true,true,true,true,true,true,true,true,true,true,true,true,false,true,true,true,false,false]) ZHe (by kernel_rfl) S ?_)));intro ops O F w S;refine rfa O F 0 rfl rfl S (Zz S rfl) fun f S=>rfa O F 1 rfl rfl S (Zz S rfl) fun f S=>?_;have aJ:=Zja d (Zi Y).2.1;obtain ⟨cq,aK⟩:∃ c,(List.take (Zd .u64).n (List.drop (((((Zc 18446744073709551616 v)).length:Int)).toNat*(Zd .u64).n) cs0))=c:=⟨_,rfl⟩;rw [aK] at aJ;obtain ⟨rfl,bh⟩:=aJ;refine rfa O F 2 rfl rfl S (ZN S rfl rfl ZB (Zi Y).1 (ltI k (Zi Y).2.2.1)) fun f S=>rfa O F 3 rfl rfl S (Zka S rfl Z5 (ZMh S (j:=0) rfl G (Zpe d k) aK (ltN k (Zi Y).2.2.2) 0 [.int .u64 X] rfl zl)) fun f S=>rfa O F 4 rfl rfl S (Zz S rfl) fun f S=>rfa O F 5 rfl rfl S (Zz S rfl) fun f S=>rfa O F 6 rfl rfl S (Ze S rfl rfl (Zwa be)) fun f S=>?_;have aL:=Zja d (Zi aa).2.1;obtain ⟨cr,aM⟩:∃ c,(List.take (Zd .u64).n (List.drop ((bd).toNat*(Zd .u64).n) cs0))=c:=⟨_,rfl⟩;rw [aM] at aL;obtain ⟨rfl,bi⟩:=aL;refine rfa O F 7 rfl rfl S (ZN S rfl rfl ZB (Zi aa).1 (ltI k (Zi aa).2.2.1)) fun f S=>rfa O F 8 rfl rfl S (Zka S rfl Z5 (ZMh S (j:=0) rfl G (Zpe d k) aM (ltN k (Zi aa).2.2.2) 0 [.int .u64 Z] rfl zl)) fun f S=>rfa O F 9 rfl rfl S (Zz S rfl) fun f S=>rfa O F 10 rfl rfl S (Zz S rfl) fun f S=>rfa O F 11 rfl rfl S (Ze S rfl rfl (Zwa bf)) fun f S=>?_
   obtain ⟨ct,am,bj⟩:=ZZg g (Zi al).2.1;obtain ⟨rfl,bk⟩:=bj;refine rfa O F 12 rfl rfl S (ZN S rfl rfl ZB (Zi al).1 (ltI (ZG g) (Zi al).2.2.1)) fun f S=>rfa O F 13 rfl rfl S (Zka S rfl Z5 (S.view am)) fun f S=>go1 O F 14 (nxc [3,8,13,2,7,12,0,1,4,6,9,11,5,10] [] O rfl S rfl (Zaa S [.int .u64 X,.int .u64 Z,.int .u64 ak] Zwq rfl rfl) (Znq S.vin (show Rep.rel (Zd .u64) _ [.int .u64 X] X from (ZD bh)) (show Rep.rel (Zd .u64) _ [.int .u64 Z] Z from (ZD bi)) (show Rep.rel (Zd .u64) _ [.int .u64 ak] ak from (ZD bk)) bg) ?_);rintro _ aN f w ab ⟨cu,cv,rfl,bm,bn⟩ S;have d:=ZW ab d;have am:=Atm ab am;obtain ⟨rfl,bo⟩:=bm;obtain ⟨rfl,bp⟩:=bn;refine ⟨Zjc,rfa O F 15 rfl rfl S (Zz S rfl) fun f S=>rfa O F 16 rfl rfl S (Zya S rfl rfl) fun f S=>rfa O F 17 rfl rfl S (Zya S rfl rfl) fun f S=>go1 O F 18 (nva [0,1,2,3,4,5,6,7,8,9,10,11,12,13,14,15,16] [17] O rfl rfl S (ZRc S rfl) fun f S=>⟨(py S rfl rfl (Zya S rfl rfl) Zjc),go1 O F 19 (nva [0,1,2,3,4,5,6,7,8,9,10,11,12,13,14,15,16,17,18] [] O rfl rfl S (ZRc S rfl) fun f S=>⟨Zjc,ZKe O F ?_⟩)⟩)⟩;have S:=S.fr' (σ':=[(0,.slice (some ⟨a,off0,none⟩) (e) h),(1,.slice (some ⟨r,s,none⟩) o p),(5,.int .i64 ((((Zc 18446744073709551616 v)).length:Int))),(6,.int .u64 (aI.1)),(7,.int .u64 (aI.2))]) rfl
   refine Zf (bc _ _ ?_);obtain ⟨bq,br,bs⟩:=ZE H;refine Zva (fun f w=>∃ ac an,ac=bq∧Zb.le aN an∧St 90 ⟨x,[a]⟩ m [(0,.slice (some ⟨a,off0,none⟩) (e) h),(1,.slice (some ⟨r,s,none⟩) o p),(6,.int .u64 ac)] [Loc.box a A (pre0++cs0++post0)] an f w∧inR .u64 ac) (fun _ aO=>?_) ?_
   ·have H:=br;refine wp_block ?_;obtain ⟨cw,bt,aP⟩:=ZE H;refine Zwb bt (fun bu f w=>∃ q l ao,(q,l)=bu∧Zb.le aN ao∧St 90 ⟨x,[a]⟩ m [(0,.slice (some ⟨a,off0,none⟩) (e) h),(1,.slice (some ⟨r,s,none⟩) o p),(5,.int .i64 ((((Zc 18446744073709551616 v)).length:Int))),(6,.int .u64 q),(7,.int .u64 l)] [Loc.box a A (pre0++cs0++post0)] ao f w∧inR .u64 q∧inR .u64 l) ⟨_,_,_,rfl,(leR _),(S.fr' rfl),bo,bp⟩ ?_;rintro _ f w st ⟨q,l,ao,hq,L,S,aQ,cx⟩ H cy bv aR;subst hq;have d:=ZW L d;refine wp_block (Zj fun _ bw=>bO H fun cz bx H=>bO H fun ap aq H=>bO H fun B bz H=>Zu (mv S rfl fun f S=>mv S rfl fun f S=>mv S rfl fun f S=>ov S rfl (Ze S rfl rfl (Zwa bx)) fun f S=>?_));have g:=Z7 (leT ab L) g;obtain ⟨cA,ar,bA⟩:=ZZg g (Zi aq).2.1;obtain ⟨rfl,bB⟩:=bA;refine ov S rfl (ZN S rfl rfl ZB (Zi aq).1 (ltI (ZG g) (Zi aq).2.2.1)) fun f S=>ov S rfl (Zka S rfl Z5 (S.view ar)) fun f S=>opc S rfl (Zaa S [.int .u64 q,.int .u64 ap] ZWm rfl rfl) (Zoo S.vin (show Rep.rel (Zd .u64) _ [.int .u64 q] q from (ZD aQ)) (show Rep.rel (Zd .u64) _ [.int .u64 ap] ap from (ZD bB)) bz) ?_;rintro _ bC f w E ⟨cB,cC,rfl,bD,bE⟩ S
    have d:=ZW E d;have ar:=Atm E ar;obtain ⟨rfl,cD⟩:=bD;obtain ⟨rfl,cE⟩:=bE;refine mv S rfl fun f S=>ov S rfl (Zya S rfl rfl) fun f S=>ov S rfl (Zya S rfl rfl) fun f S=>mw S rfl fun f S=>mw S rfl fun f S=>Zs (Zf (bw _ _ (Zj fun _ bG=>Zj fun _ bH=>?_)));obtain ⟨bI,bJ,bK⟩:=ZE H;refine Zva (fun f w=>∃ ad au,ad=bI∧Zb.le bC au∧St 90 ⟨x,[a]⟩ m [(0,.slice (some ⟨a,off0,none⟩) (e) h),(1,.slice (some ⟨r,s,none⟩) o p),(5,.int .i64 ((((Zc 18446744073709551616 v)).length:Int))),(6,.int .u64 q),(7,.int .u64 l),(67,.bool ad)] [Loc.box a A (pre0++cs0++post0)] au f w) (fun _ av=>?_) ?_
    ·have H:=bJ;refine Zu (mv S rfl fun f S=>mv S rfl fun f S=>ov S rfl (Ze S rfl rfl Z7b) fun f S=>mv S rfl fun f S=>?_);rcases ZL (decide (B.1<l)) with M | M
     ·have H:=ZJ H M;have S:=S.bool (t:=54) rfl M;refine opn S rfl rfl rfl rfl fun f S=>opn S rfl rfl rfl rfl fun f S=>opn S rfl rfl rfl rfl fun f S=>opn S rfl rfl rfl rfl fun f S=>ZIe S (Zbe S rfl rfl rfl zl) rfl zl fun f S=>ZIe S (Zbe S rfl rfl rfl zl) rfl zl fun f S=>ZIe S (Zbe S rfl rfl rfl zl) rfl zl fun f S=>ZIe S (Zbe S rfl rfl rfl zl) rfl zl fun f S=>ZIe S (Zbe S rfl rfl rfl zl) rfl zl fun f S=>ZIe S (Zbe S rfl rfl rfl zl) rfl zl fun f S=>ZIe S (Zbe S rfl rfl rfl zl) rfl zl fun f S=>opn S rfl rfl rfl rfl fun f S=>ov S rfl (ZBb S (b:=true) rfl rfl) fun f S=>Zs ?_;have S:=S.fr' (σ':=[(0,.slice (some ⟨a,off0,none⟩) (e) h),(1,.slice (some ⟨r,s,none⟩) o p),(5,.int .i64 ((((Zc 18446744073709551616 v)).length:Int))),(6,.int .u64 q),(7,.int .u64 l),(55,undef),(56,undef),(57,undef),(58,undef),(59,undef),(60,undef),(61,undef),(62,undef),(63,undef),(64,undef),(65,undef),(66,undef),(67,.bool true)]) rfl;obtain rfl:=Zn H;refine Zf (av _ _ ⟨_,_,rfl,(leR _),(S.fr' rfl)⟩)
     have H:=ZK H M;have S:=S.bool (t:=54) rfl M;refine opy S rfl rfl rfl rfl (Zz S rfl) fun f S=>opy S rfl rfl rfl rfl (Zz S rfl) fun f S=>opy S rfl rfl rfl rfl (Ze S rfl rfl Z4d) fun f S=>opy S rfl rfl rfl rfl (Zz S rfl) fun f S=>?_;rcases ZL (B.1==l) with C | C
     ·have H:=ZJ H C;have S:=S.bool (t:=57) rfl C;have S:=S.bool (t:=58) rfl C;refine bO H fun aw bM H=>bO H fun N ae H=>opy S rfl rfl rfl rfl (Zz S rfl) fun f S=>opy S rfl rfl rfl rfl (Zz S rfl) fun f S=>opy S rfl rfl rfl rfl (Zz S rfl) fun f S=>opy S rfl rfl rfl rfl (Ze S rfl rfl (Zwa bM)) fun f S=>?_;have aS:=Zja d (Zi ae).2.1;obtain ⟨cF,aT⟩:∃ c,(List.take (Zd .u64).n (List.drop ((aw).toNat*(Zd .u64).n) cs0))=c:=⟨_,rfl⟩;rw [aT] at aS;obtain ⟨rfl,cG⟩:=aS;refine opy S rfl rfl rfl rfl (ZN S rfl rfl ZB (Zi ae).1 (ltI k (Zi ae).2.2.1)) fun f S=>opy S rfl rfl rfl rfl (Zka S rfl Z5 (ZMh S (j:=0) rfl G (Zpe d k) aT (ltN k (Zi ae).2.2.2) 0 [.int .u64 N] rfl zl)) fun f S=>opy S rfl rfl rfl rfl (Ze S rfl rfl Zqo) fun f S=>opy S rfl rfl rfl rfl (ZBb S (b:=true) rfl rfl) fun f S=>ov S rfl (ZBb S (b:=false) rfl rfl) fun f S=>Zs ?_;have S:=S.fr' (σ':=[(0,.slice (some ⟨a,off0,none⟩) (e) h),(1,.slice (some ⟨r,s,none⟩) o p),(5,.int .i64 ((((Zc 18446744073709551616 v)).length:Int))),(6,.int .u64 q),(7,.int .u64 l),(55,.int .u64 (B.1)),(56,.int .u64 l),(57,.bool true),(58,.bool true),(59,.int .u64 (B.2)),(60,.slice (some ⟨a,off0,none⟩) (e) h),(61,.int .i64 ((((Zc 18446744073709551616 v)).length:Int))),(62,.int .i64 aw),(63,.pointer (some ⟨a,off0+(aw).toNat*1,none⟩)),(64,.int .u64 N),(65,.bool (decide (B.2≤N))),(66,.bool (decide (B.2≤N))),(67,.bool (decide (B.2≤N)))]) rfl
      obtain rfl:=Zn H;refine Zf (av _ _ ⟨_,_,rfl,(leR _),(S.fr' rfl)⟩)
     have H:=ZK H C;have S:=S.bool (t:=57) rfl C;have S:=S.bool (t:=58) rfl C;refine opn S rfl rfl rfl rfl fun f S=>opn S rfl rfl rfl rfl fun f S=>opn S rfl rfl rfl rfl fun f S=>opn S rfl rfl rfl rfl fun f S=>opn S rfl rfl rfl rfl fun f S=>opn S rfl rfl rfl rfl fun f S=>opn S rfl rfl rfl rfl fun f S=>opy S rfl rfl rfl rfl (ZBb S (b:=false) rfl rfl) fun f S=>ov S rfl (ZBb S (b:=false) rfl rfl) fun f S=>Zs ?_;have S:=S.fr' (σ':=[(0,.slice (some ⟨a,off0,none⟩) (e) h),(1,.slice (some ⟨r,s,none⟩) o p),(5,.int .i64 ((((Zc 18446744073709551616 v)).length:Int))),(6,.int .u64 q),(7,.int .u64 l),(55,.int .u64 (B.1)),(56,.int .u64 l),(57,.bool false),(58,.bool false),(59,undef),(60,undef),(61,undef),(62,undef),(63,undef),(64,undef),(65,undef),(66,.bool false),(67,.bool false)]) rfl;obtain rfl:=Zn H;refine Zf (av _ _ ⟨_,_,rfl,(leR _),(S.fr' rfl)⟩)
    rintro f w ⟨ad,au,hq,P,S⟩;subst hq;have H:=bK;have d:=ZW P d;refine Zf (bH _ _ ?_);rcases ZL (ad) with Q | Q
    ·have H:=ZJ H Q;refine ZQ S rfl Q (wp_exit (ZZ (Z7k rfl ?_)));obtain rfl:=Zn H;have hq:=aR _ rfl;subst hq;have H:=aP;refine ZZ (Z6a ?_);obtain rfl:=Zn H;refine Zf (aO _ _ ⟨_,_,rfl,(leT (leT (leT (leR _) L) E) P),(S.fr' rfl),aQ⟩)
    have H:=ZK H Q;refine ZM S rfl Q (wp_skip (Zf (bG _ _ (sr (mv S rfl fun f S=>ov S rfl (Ze S rfl rfl Zhd) fun f S=>mw S rfl fun f S=>oe (sr (mw S rfl fun f S=>oe (Zj fun _ bP=>bO H fun cH bQ H=>bO H fun bR ax H=>?_))))))));refine bO H fun bS aU H=>Zu (mv S rfl fun f S=>mv S rfl fun f S=>mv S rfl fun f S=>ov S rfl (Ze S rfl rfl (Zwa bQ)) fun f S=>?_);have g:=Z7 (leT E P) g;obtain ⟨cI,bT,bU⟩:=ZZg g (Zi ax).2.1;obtain ⟨rfl,cJ⟩:=bU;refine ov S rfl (ZN S rfl rfl ZB (Zi ax).1 (ltI (ZG g) (Zi ax).2.2.1)) fun f S=>ov S rfl (Zka S rfl Z5 (S.view bT)) fun f S=>ov S rfl (Zbk S [.int .u64 l,.int .u64 bR,.int .u64 0] (Zjo Zcq aU) rfl rfl) fun f S=>mv S rfl fun f S=>ov S rfl (Zya S rfl rfl) fun f S=>ov S rfl (Zya S rfl rfl) fun f S=>mw S rfl fun f S=>mw S rfl fun f S=>Zs (Zf (bP _ _ (sr (mv S rfl fun f S=>ov S rfl (Ze S rfl rfl ZUc) fun f S=>oe ?_))));rcases ZL (decide ((0:Int)<bS.2)) with R | R
    ·have H:=ZJ H R;refine ZQ S rfl R (wp_exit (Z7k rfl ?_));obtain rfl:=Zn H;have hq:=aR _ rfl;subst hq;have H:=aP;refine ZZ (Z6a ?_);obtain rfl:=Zn H;refine Zf (aO _ _ ⟨_,_,rfl,(leT (leT (leT (leR _) L) E) P),(S.fr' rfl),(Zqa _ _)⟩)
    have H:=ZK H R;refine ZM S rfl R (wp_skip (Zsb ?_));obtain rfl:=Zn H;refine bv _ rfl _ _ ⟨_,_,_,rfl,(leT (leT L E) P),(S.fr' rfl),(Zqa _ _),(Zmm aU)⟩
   rintro f w ⟨ac,an,hq,aV,S,bV⟩;subst hq;have H:=bs;have d:=ZW aV d;obtain rfl:=Zn H;refine Zf (aH _ _ ⟨_,_,rfl,(leT (leT (leR _) ab) aV),(S.fr' rfl),bV⟩)
  have H:=ZK H J;refine ZM S rfl J (wp_skip ?_);obtain rfl:=Zn H;refine Zf (aH _ _ ⟨_,_,rfl,(leR _),(S.fr' rfl),(by decide)⟩)
 rintro f w ⟨W,I,hq,aW,S,bW⟩;subst hq;have H:=bb;have d:=ZW aW d;refine Zf (a3 _ _ (Zj fun _ bX=>?_));obtain ⟨bY,bZ,b1⟩:=ZE H;refine Zva (fun f w=>∃ af T ay ag,(af,T)=bY∧Zb.le I ag∧St 90 ⟨x,[a]⟩ m [(6,.int .u64 T)] [Loc.box a A (pre0++ay++post0)] ag f w∧Rep.rels (Zd .u64) ag ay af∧e=af.length∧inR .u64 T) (fun _ b2=>?_) ?_
 ·have H:=bZ;refine wp_block ?_;obtain ⟨cK,b3,b4⟩:=ZE H;refine Zwb b3 (fun b5 f w=>∃ ah D az ai,(ah,D)=b5∧Zb.le I ai∧St 90 ⟨x,[a]⟩ m [(0,.slice (some ⟨a,off0,none⟩) (e) h),(1,.slice (some ⟨r,s,none⟩) o p),(6,.int .u64 D)] [Loc.box a A (pre0++az++post0)] ai f w∧Rep.rels (Zd .u64) ai az ah∧e=ah.length∧inR .u64 D) ⟨_,_,cs0,_,rfl,(leR _),(S.fr' rfl),d,k,bW⟩ ?_;rintro _ f w st ⟨ah,D,az,ai,hq,aA,S,aB,b6,aX⟩ H cL b7 b8;subst hq;refine Zj fun _ b9=>Zj fun _ ca=>bO H fun cb cc H=>Zu (mv S rfl fun f S=>mv S rfl fun f S=>mv S rfl fun f S=>?_);have g:=Z7 (leT aW aA) g;refine Z4p S wn rfl zl (Zaa S [.slice (some ⟨a,off0,none⟩) (e) h,.slice (some ⟨r,s,none⟩) o p,.int .u64 D] k_en176 rfl rfl) (i:=0) rfl rfl (take_c S.vin (S.boxAt (j:=0) rfl).1 G (S.boxAt (j:=0) rfl).2 b6 a2 aB g (show Rep.rel (Zd .u64) _ [.int .u64 D] D from (ZD aX)) cc) ?_;rintro _ cM f w aC ⟨⟨cN,rfl,cd⟩,ce,aD,cg,aY,aZ⟩ hSf;have aB:=ZW aC aB;have S:=hSf (Loc.box a A (pre0++aD++post0)) rfl cg ce;obtain rfl:=cd;refine ov S rfl (Zcr S rfl) fun f S=>Zs (Zf (ca _ _ ?_));rcases ZL (!(cb.1)) with U | U
  ·have H:=ZJ H U;refine ZQ S rfl U (wp_skip (Zf (b9 _ _ (wp_block (Zu (mv S rfl fun f S=>ov S rfl (Ze S rfl rfl Zhd) fun f S=>mw S rfl fun f S=>Zs (Zsb ?_)))))));obtain rfl:=Zn H;refine b7 _ rfl _ _ ⟨_,_,aD,_,rfl,(leT aA aC),(S.fr' rfl),aZ,aY,(Zqa _ _)⟩
  have H:=ZK H U;refine ZM S rfl U (wp_exit (ZZ ?_));obtain rfl:=Zn H;have hq:=b8 _ rfl;subst hq;have H:=b4;refine ZZ (Z6a ?_);obtain rfl:=Zn H;refine Zf (b2 _ _ ⟨_,_,aD,_,rfl,(leT (leT (leR _) aA) aC),(S.fr' rfl),aZ,aY,aX⟩)
 rintro f w ⟨af,T,ay,ag,hq,cO,S,ch,ci,cj⟩;subst hq;have H:=b1;refine Zf (bX _ _ (sr (mv S rfl fun f S=>mw S rfl fun f S=>oe (wp_ret ?_))));obtain rfl:=Zn H;refine ZTl S (ZMa rfl (ZT S rfl)) ⟨⟨[.int .u64 T],rfl,(ZD cj)⟩,(S.boxAt (j:=0) rfl).2,_,(S.boxAt (j:=0) rfl).1,ci,ch⟩
theorem digit_c {d:World} {b:Zb} (hv:VIn b d) {a off0 c e:Nat} {f:TypeId} {pre0 cs0 post0:List Value} {u:(List Int)} (j:d.heap[a]? = some (.cells (pre0++cs0++post0).toArray f (0,0))) (k:off0=pre0.length) (l:b a=none) (m:c=u.length) (n:c≤e∧e≤maxLen) (g:Rep.rels (Zd .u64) b cs0 u) {h:List Value} {v:Nat} (o:Rep.rel Zv b h v) {z:Int×(List Int)} (hm:Zlh u v=some z) :
  RetL Tryz.prog 144 #[Value.slice (some ⟨a,off0,none⟩) c e,Zv.val h] d b [a] (fun y v' w'=>(∃ i,y=(Zd .u64).val i∧(Zd .u64).rel v' i z.1)∧v' a=none∧∃ cs,w'.heap[a]? = some (.cells (pre0++cs++post0).toArray f (0,0))∧c=z.2.length∧Rep.rels (Zd .u64) v' cs z.2) :=
 digit_w hv j k l m n g o (Ztw (Zzm g) hm)
theorem left_w {I:World} {o:Zb} (hv:VIn o I) {c0:List Value} {a:Nat} (h:Rep.rel Zv o c0 a) {c1:List Value} {n:Int} (p1:Rep.rel (Zd .i64) o c1 n) {z:Nat} (H:ZUh a n=some z):Ret Tryz.prog 143 #[Zv.val c0,(Zd .i64).val c1] I o (fun y v'=>∃ r0,y=Zv.val r0∧Zv.rel v' r0 z):=by
 obtain ⟨W,J,L,rfl⟩:=Zia h;obtain ⟨rfl,r4⟩:=p1;refine ZLb (K:=58) (args:=[.slice W J L,.int .i64 n]) hv Tryz.func143 rfl rfl zl fun f S=>?_;unfold ZUh at H;refine sr (mw S rfl fun f S=>oe (Zj fun _ av=>Zj fun _ aw=>?_));obtain ⟨ax,ay,az⟩:=ZE H;refine Zva (fun f w=>∃ X v,X=ax∧Zb.le o v∧St 58 I o [(0,.slice W J L),(1,.int .i64 n),(14,.bool X)] [] v f w) (fun _ ag=>?_) ?_
 ·have H:=ay;refine Zu (mv S rfl fun f S=>ov S rfl (Zea S (ZG h) rfl rfl ZB) fun f S=>ov S rfl (Ze S rfl rfl Z4d) fun f S=>mv S rfl fun f S=>?_);rcases ZL (((((Zc 18446744073709551616 a)).length:Int))==(0:Int)) with M | M
  ·have H:=ZJ H M;have S:=S.bool (t:=11) rfl M;refine opn S rfl rfl rfl rfl fun f S=>opn S rfl rfl rfl rfl fun f S=>ov S rfl (ZBb S (b:=true) rfl rfl) fun f S=>Zs ?_;obtain rfl:=Zn H;refine Zf (ag _ _ ⟨_,_,rfl,(leR _),(S.fr' rfl)⟩)
  have H:=ZK H M;have S:=S.bool (t:=11) rfl M;refine opy S rfl rfl rfl rfl (Zz S rfl) fun f S=>opy S rfl rfl rfl rfl (Ze S rfl rfl Z4d) fun f S=>ov S rfl (ZBb S (b:=false) rfl rfl) fun f S=>Zs ?_;obtain rfl:=Zn H;refine Zf (ag _ _ ⟨_,_,rfl,(leR _),(S.fr' rfl)⟩)
 rintro f w ⟨X,v,hq,ah,S⟩;subst hq;have H:=az;refine Zf (aw _ _ ?_);rcases ZL (X) with N | N
 ·have H:=ZJ H N;refine ZQ S rfl N (sr (mv S rfl fun f S=>mw S rfl fun f S=>oe (wp_ret (ZVa ?_))));obtain rfl:=Zn H;have h:=Z7 ah h;refine ZAa S (ZMa rfl (ZT S rfl)) ⟨[.slice W J L],rfl,h⟩
 have H:=ZK H N;refine ZM S rfl N (wp_skip (Zf (av _ _ (Zj fun _ aA=>bO H fun bo aB H=>bO H fun bp aC H=>bO H fun B aD H=>bO H fun bq Y H=>Zu (mv S rfl fun f S=>?_)))));have h:=Z7 ah h;refine ov S rfl (Zea S (ZG h) rfl rfl ZB) fun f S=>mv S rfl fun f S=>ov S rfl (Ze S rfl rfl (Zac aB)) fun f S=>ov S rfl (Ze S rfl rfl (ZJa aC)) fun f S=>ov S rfl (Ze S rfl rfl (ZJa aD)) fun f S=>?_;obtain ⟨ai,aj⟩:∃ c:List Value,c=(List.replicate (B).toNat [.int .u64 0]).flatten:=⟨_,rfl⟩;obtain ⟨aE,w,aF,S⟩:=ZAh Zie S (l:=B) (c:=B) (ZNa Y).1 (ZNa Y).2.1 (ZNa Y).2.2.1 (ZNa Y).2.2.2 aj;have aG:Rep.rels (Zd .u64) v ai (List.replicate (B).toNat (0:Int)):=by rw [aj];exact Z5d (show Rep.rel (Zd .u64) _ [.int .u64 0] _ from (ZD (by decide))) _
 refine Zub wn rfl zl (aF rfl rfl) S fun f S=>mw S rfl fun f S=>Zs (Zf (aA _ _ (Zj fun _ aH=>sr (mv S rfl fun f S=>ov S rfl (Zea S (ZG h) rfl rfl ZB) fun f S=>mv S rfl fun f S=>oe ?_))));obtain ⟨aI,aJ,aK⟩:=ZE H;refine Zva (fun f w=>∃ C P D Q ac Z,C=aI∧Zb.le v Z∧St 58 I o [(5,.slice (mkA P) D Q)] [Loc.own P 148 1 D Q ac] Z f w∧Rep.rels (Zd .u64) Z ac C∧D=C.length) (fun _ aL=>?_) ?_
 ·have H:=aJ;refine wp_block ?_;obtain ⟨br,aM,aN⟩:=ZE H;refine Zwb aM (fun aO f w=>∃ p E aa m G e q,(p,E)=aO∧Zb.le v q∧St 58 I o [(1,.int .i64 n),(5,.slice (mkA aa) m G),(23,.slice W J L),(24,.int .i64 ((((Zc 18446744073709551616 a)).length:Int))),(25,.int .i64 E)] [Loc.own aa 148 1 m G e] q f w∧Rep.rels (Zd .u64) q e p∧m=p.length∧inR .i64 E) ⟨_,_,some aE,(B).toNat,(B).toNat,ai,_,rfl,(leR _),(S.fr' rfl),aG,(repN (x:=(0:Int))),(by decide)⟩ ?_;rintro _ f w st ⟨p,E,aa,m,G,e,q,hq,ad,S,ab,s,bs⟩ H bt aP aQ;subst hq;refine sr (ov S rfl (Ze S rfl rfl Z7b) fun f S=>oe (Zj fun _ aR=>?_));rcases ZL (decide (E<(((Zc 18446744073709551616 a)).length:Int))) with R | R
  ·have H:=ZJ H R;refine ZQ S rfl R (wp_skip (Zf (aR _ _ (Zj fun _ aS=>wp_block (Zj fun _ aT=>bO H fun bu ae H=>Zu (mv S rfl fun f S=>?_))))));have h:=Z7 ad h;obtain ⟨_,aU,aV,bv,rfl,aW,aX⟩:=Z8a h (Zi ae).2.1;obtain ⟨rfl,aY⟩:=aX;refine ov S rfl (ZN S rfl rfl ZB (Zi ae).1 (ltI (ZG h) (Zi ae).2.2.1)) fun f S=>ov S rfl (Zka S rfl Z5 (S.view aW)) fun f S=>mw S rfl fun f S=>mw S rfl fun f S=>Zs (Zf (aT _ _ (Zj fun _ aZ=>bO H fun bw a0 H=>bO H fun d a1 H=>bO H fun g T H=>bO H fun bx a2 H=>bO H fun k a3 H=>bO H fun bz U H=>Z8d (fl:=#[true,true,true,true,true,true,true,true,true,true,true,true,true,false]) ZHe (by kernel_rfl) S ?_)));intro ops O F w S;refine rfa O F 0 rfl rfl S (Zz S rfl) fun f S=>rfa O F 1 rfl rfl S (Zz S rfl) fun f S=>rfa O F 2 rfl rfl S (Zz S rfl) fun f S=>rfa O F 3 rfl rfl S (Ze S rfl rfl (Zac a0)) fun f S=>rfa O F 4 rfl rfl S (Ze S rfl rfl (ZJa a1)) fun f S=>?_;obtain ⟨ak,rfl⟩:=Zyc S (j:=0) rfl (posN s (Zi T).2.2.2);have al:=Zja ab (Zi T).2.1;obtain ⟨bA,am⟩:∃ c,(List.take (Zd .u64).n (List.drop ((d).toNat*(Zd .u64).n) e))=c:=⟨_,rfl⟩;rw [am] at al;obtain ⟨rfl,bB⟩:=al;refine rfa O F 5 rfl rfl S (ZN S rfl rfl ZB (Zi T).1 (ltI s (Zi T).2.2.1)) fun f S=>rfa O F 6 rfl rfl S (Zka S rfl Z5 (Zbd S (j:=0) rfl am (ltN s (Zi T).2.2.2) 0 [.int .u64 g] rfl zl)) fun f S=>rfa O F 7 rfl rfl S (Zz S rfl) fun f S=>rfa O F 8 rfl rfl S (Zz S rfl) fun f S=>rfa O F 9 rfl rfl S (Ze S rfl rfl (Zye a2)) fun f S=>rfa O F 10 rfl rfl S (Ze S rfl rfl (Zfg a3)) fun f S=>rfa O F 11 rfl rfl S (Ze S rfl rfl Zqk) fun f S=>?_
   have an:=Zja ab (Zi U).2.1;obtain ⟨bC,a4⟩:∃ c,(List.take (Zd .u64).n (List.drop ((d).toNat*(Zd .u64).n) e))=c:=⟨_,rfl⟩;rw [a4] at an;obtain ⟨rfl,bD⟩:=an;refine rfa O F 12 rfl rfl S (ZN S rfl rfl ZB (Zi U).1 (ltI s (Zi U).2.2.1)) fun f S=>go1 O F 13 ?_;obtain ⟨w,a5,S⟩:=ZNb S Z5 (off:=0+(d).toNat*1) (z:=.int .u64 (orI .u64 g k)) (cs:=[.int .u64 (orI .u64 g k)]) (Zzb rfl) rfl (i:=0) rfl (Zsd S (j:=0) rfl (ltN s (Zi U).2.2.2)) (by first | rfl | simp [plain]);have ao:Rep.rels (Zd .u64) q (List.take (0+(d).toNat*1) e++[Value.int IntKind.u64 (orI .u64 g k)]++List.drop (0+(d).toNat*1+1) e) (p.set (d).toNat (orI .u64 g k)):=ZXc ab (Zi U).2.2.2 (show Rep.rel (Zd .u64) q [.int .u64 (orI .u64 g k)] _ from (ZD (Zqa _ _))) rfl rfl;have af:m=(p.set (d).toNat (orI .u64 g k)).length:=Zld s;refine nxs [0,1,2,3,4,5,6,7,8,9,10,11,12] [] O rfl rfl (a5 rfl rfl) (⟨Zjc,ZKe O F (Zf (aZ _ _ (bO H fun bE a6 H=>bO H fun bG a7 H=>bO H fun r a8 H=>bO H fun bH a9 H=>bO H fun bI ba H=>bO H fun u ap H=>bO H fun bJ V H=>Zu (mv S rfl fun f S=>mv S rfl fun f S=>?_))))⟩);refine mv S rfl fun f S=>ov S rfl (Ze S rfl rfl (Zac a6)) fun f S=>ov S rfl (Ze S rfl rfl (ZJa a7)) fun f S=>ov S rfl (Ze S rfl rfl (ZJa a8)) fun f S=>mv S rfl fun f S=>mv S rfl fun f S=>ov S rfl (Ze S rfl rfl (Zye a9)) fun f S=>ov S rfl (Ze S rfl rfl (Zwa ba)) fun f S=>ov S rfl (Ze S rfl rfl (ZFb ap)) fun f S=>?_
   have aq:=Zja ao (Zi V).2.1;obtain ⟨bK,bb⟩:∃ c,(List.take (Zd .u64).n (List.drop ((r).toNat*(Zd .u64).n) (List.take (0+(d).toNat*1) e++[Value.int IntKind.u64 (orI .u64 g k)]++List.drop (0+(d).toNat*1+1) e)))=c:=⟨_,rfl⟩;rw [bb] at aq;obtain ⟨rfl,bM⟩:=aq;refine ov S rfl (ZN S rfl rfl ZB (Zi V).1 (ltI af (Zi V).2.2.1)) fun f S=>?_;obtain ⟨w,bc,S⟩:=ZNb S Z5 (off:=0+(r).toNat*1) (z:=.int .u64 u) (cs:=[.int .u64 u]) (Zzb rfl) rfl (i:=0) rfl (Zsd S (j:=0) rfl (ltN af (Zi V).2.2.2)) (by first | rfl | simp [plain]);have bd:Rep.rels (Zd .u64) q (List.take (0+(r).toNat*1) ((List.take (0+(d).toNat*1) e++[Value.int IntKind.u64 (orI .u64 g k)]++List.drop (0+(d).toNat*1+1) e))++[Value.int IntKind.u64 (u)]++List.drop (0+(r).toNat*1+1) ((List.take (0+(d).toNat*1) e++[Value.int IntKind.u64 (orI .u64 g k)]++List.drop (0+(d).toNat*1+1) e))) (((p.set (d).toNat (orI .u64 g k))).set (r).toNat u):=ZXc ao (Zi V).2.2.2 (show Rep.rel (Zd .u64) q [.int .u64 u] _ from (ZD (ZCf aY ap))) rfl rfl;have be:m=(((p.set (d).toNat (orI .u64 g k))).set (r).toNat u).length:=Zld af;refine Zrf wn rfl (bc rfl rfl) (Zs ?_);have S:=S.fr' (σ':=[(1,.int .i64 n),(5,.slice (mkA (some ak)) (m) G),(23,.slice (some ⟨aU,aV,none⟩) J L),(24,.int .i64 ((((Zc 18446744073709551616 a)).length:Int))),(25,.int .i64 E)]) rfl
   refine Zsb (Zf (aS _ _ (bO H fun bP ar H=>Zu (ov S rfl (Ze S rfl rfl (ZJa ar)) fun f S=>mv S rfl fun f S=>Zs ?_))));obtain rfl:=Zn H;refine aP _ rfl _ _ ⟨_,_,some ak,m,G,(List.take (0+(r).toNat*1) ((List.take (0+(d).toNat*1) e++[Value.int IntKind.u64 (orI .u64 g k)]++List.drop (0+(d).toNat*1+1) e))++[Value.int IntKind.u64 (u)]++List.drop (0+(r).toNat*1+1) ((List.take (0+(d).toNat*1) e++[Value.int IntKind.u64 (orI .u64 g k)]++List.drop (0+(d).toNat*1+1) e))),_,rfl,ad,(S.fr' rfl),bd,be,(Zsa ar).2⟩
  have H:=ZK H R;refine ZM S rfl R (wp_exit (ZZ ?_));obtain rfl:=Zn H;have hq:=aQ _ rfl;subst hq;have H:=aN;refine ZZ (Z6a ?_);obtain rfl:=Zn H;refine Zf (aL _ _ ⟨_,aa,m,G,e,_,rfl,(leT (leR _) ad),(S.fr' rfl),ab,s⟩)
 rintro f w ⟨C,P,D,Q,ac,Z,hq,bQ,S,bf,bg⟩;subst hq;have H:=aK;refine Zf (aH _ _ (Zj fun _ bh=>bO H fun bR bi H=>Zu (mv S rfl fun f S=>?_)));obtain ⟨bS,bT,S,bj⟩:=S.pubSlice (i:=0) (A:=(Zd .u64)) (l:=C) (ℓ':=[]) rfl rfl bg bf rfl;refine opc S rfl (Zaa S [.slice (mkA P) D Q] Zjf rfl rfl) (ZMe S.vin (show Rep.rel (Zw (Zd .u64)) _ [.slice (mkA P) D Q] C from bj) bi) ?_;rintro _ bU f w bV ⟨bW,rfl,au⟩ S;obtain ⟨bk,bm,bn,rfl⟩:=Zia au;refine mw S rfl fun f S=>Zs (Zf (bh _ _ (wp_ret ?_)));obtain rfl:=Zn H;refine ZAa S (ZMa rfl (ZT S rfl)) ⟨[.slice bk bm bn],rfl,au⟩
theorem Zap {c:World} {b:Zb} (hv:VIn b c) {d:List Value} {a:Nat} (g:Rep.rel Zv b d a) {e:List Value} {n:Int} (h:Rep.rel (Zd .i64) b e n) {z:Nat} (hm:Zfe a n=some z) :
  Ret Tryz.prog 143 #[Zv.val d,(Zd .i64).val e] c b (fun y v'=>∃ f,y=Zv.val f∧Zv.rel v' f z) :=
 left_w hv g h (Z7w hm)
theorem right_w {C:World} {g:Zb} (hv:VIn g C) {c0:List Value} {a:Nat} (h:Rep.rel Zv g c0 a) {c1:List Value} {n:Int} (p1:Rep.rel (Zd .i64) g c1 n) {z:Nat} (H:Zii a n=some z):Ret Tryz.prog 145 #[Zv.val c0,(Zd .i64).val c1] C g (fun y v'=>∃ r0,y=Zv.val r0∧Zv.rel v' r0 z):=by
 obtain ⟨q1,P,Q,rfl⟩:=Zia h;obtain ⟨rfl,r4⟩:=p1;refine ZLb (K:=65) (args:=[.slice q1 P Q,.int .i64 n]) hv Tryz.func145 rfl rfl zl fun f S=>?_;unfold Zii at H;refine sr (mw S rfl fun f S=>oe (Zj fun _ ax=>Zj fun _ ay=>bO H fun az aA H=>Zu (mv S rfl fun f S=>ov S rfl (Ze S rfl rfl (Zac aA)) fun f S=>mv S rfl fun f S=>ov S rfl (Zea S (ZG h) rfl rfl ZB) fun f S=>ov S rfl (Ze S rfl rfl Zec) fun f S=>Zs (Zf (ay _ _ ?_)))));rcases ZL (decide ((((Zc 18446744073709551616 a)).length:Int)≤az)) with D | D
 ·have H:=ZJ H D;refine ZQ S rfl D (sr (mw S rfl fun f S=>oe (wp_ret (ZVa ?_))));obtain rfl:=Zn H;refine ZAa S (ZMa rfl (ZT S rfl)) ⟨[.slice none 0 0],rfl,(Zeh _)⟩
 have H:=ZK H D;refine ZM S rfl D (wp_skip (Zf (ax _ _ (Zj fun _ aB=>bO H fun bx aC H=>bO H fun k aD H=>bO H fun bz R H=>Zu (mv S rfl fun f S=>ov S rfl (Zea S (ZG h) rfl rfl ZB) fun f S=>mv S rfl fun f S=>ov S rfl (Ze S rfl rfl (Zac aC)) fun f S=>ov S rfl (Ze S rfl rfl (Zwa aD)) fun f S=>?_)))));obtain ⟨ai,aj⟩:∃ c:List Value,c=(List.replicate (k).toNat [.int .u64 0]).flatten:=⟨_,rfl⟩;obtain ⟨aE,w,aF,S⟩:=ZAh Zie S (l:=k) (c:=k) (ZNa R).1 (ZNa R).2.1 (ZNa R).2.2.1 (ZNa R).2.2.2 aj;have aG:Rep.rels (Zd .u64) g ai (List.replicate (k).toNat (0:Int)):=by rw [aj];exact Z5d (show Rep.rel (Zd .u64) _ [.int .u64 0] _ from (ZD (by decide))) _
 refine Zub wn rfl zl (aF rfl rfl) S fun f S=>mw S rfl fun f S=>Zs (Zf (aB _ _ (Zj fun _ aH=>sr (mv S rfl fun f S=>ov S rfl (Zea S (repN (x:=(0:Int))) rfl rfl ZB) fun f S=>mv S rfl fun f S=>oe ?_))));obtain ⟨aI,aJ,aK⟩:=ZE H;refine Zva (fun f w=>∃ t E u G ac T,t=aI∧Zb.le g T∧St 65 C g [(5,.slice (mkA E) u G)] [Loc.own E 148 1 u G ac] T f w∧Rep.rels (Zd .u64) T ac t∧u=t.length) (fun _ aL=>?_) ?_
 ·have H:=aJ;refine wp_block ?_;obtain ⟨bA,aM,aN⟩:=ZE H;refine Zwb aM (fun aO f w=>∃ p b U m r d o,(p,b)=aO∧Zb.le g o∧St 65 C g [(0,.slice q1 P Q),(1,.int .i64 n),(5,.slice (mkA U) m r),(19,.int .i64 ((((List.replicate (k).toNat (0:Int))).length:Int))),(20,.int .i64 b)] [Loc.own U 148 1 m r d] o f w∧Rep.rels (Zd .u64) o d p∧m=p.length∧inR .i64 b) ⟨_,_,some aE,(k).toNat,(k).toNat,ai,_,rfl,(leR _),(S.fr' rfl),aG,(repN (x:=(0:Int))),(by decide)⟩ ?_;rintro _ f w st ⟨p,b,U,m,r,d,o,hq,ad,S,ae,I,bB⟩ H bC aP aQ;subst hq;refine sr (ov S rfl (Ze S rfl rfl Z7b) fun f S=>oe (Zj fun _ aR=>?_));rcases ZL (decide (b<(((List.replicate (k).toNat (0:Int))).length:Int))) with J | J
  ·have H:=ZJ H J;refine ZQ S rfl J (wp_skip (Zf (aR _ _ (Zj fun _ aS=>wp_block (sr (mv S rfl fun f S=>mw S rfl fun f S=>oe (Zj fun _ aT=>bO H fun bD aU H=>bO H fun bE aV H=>bO H fun bG af H=>bO H fun bH aW H=>?_)))))));refine bO H fun e ak H=>bO H fun bI v H=>Zu (mv S rfl fun f S=>mv S rfl fun f S=>mv S rfl fun f S=>mv S rfl fun f S=>mv S rfl fun f S=>ov S rfl (Ze S rfl rfl (Zac aU)) fun f S=>ov S rfl (Ze S rfl rfl (ZJa aV)) fun f S=>?_);have h:=Z7 ad h;obtain ⟨_,al,am,bJ,rfl,aX,aY⟩:=Z8a h (Zi af).2.1;obtain ⟨rfl,aZ⟩:=aY;refine ov S rfl (ZN S rfl rfl ZB (Zi af).1 (ltI (ZG h) (Zi af).2.2.1)) fun f S=>ov S rfl (Zka S rfl Z5 (S.view aX)) fun f S=>mv S rfl fun f S=>ov S rfl (Ze S rfl rfl (Zye aW)) fun f S=>ov S rfl (Ze S rfl rfl (ZFb ak)) fun f S=>?_;obtain ⟨ag,rfl⟩:=Zyc S (j:=0) rfl (posN I (Zi v).2.2.2);have an:=Zja ae (Zi v).2.1;obtain ⟨bK,a0⟩:∃ c,(List.take (Zd .u64).n (List.drop ((b).toNat*(Zd .u64).n) d))=c:=⟨_,rfl⟩;rw [a0] at an;obtain ⟨rfl,bM⟩:=an;refine ov S rfl (ZN S rfl rfl ZB (Zi v).1 (ltI I (Zi v).2.2.1)) fun f S=>?_;obtain ⟨w,a1,S⟩:=ZNb S Z5 (off:=0+(b).toNat*1) (z:=.int .u64 e) (cs:=[.int .u64 e]) (Zzb rfl) rfl (i:=0) rfl (Zsd S (j:=0) rfl (ltN I (Zi v).2.2.2)) (by first | rfl | simp [plain])
   have V:Rep.rels (Zd .u64) o (List.take (0+(b).toNat*1) d++[Value.int IntKind.u64 (e)]++List.drop (0+(b).toNat*1+1) d) (p.set (b).toNat e):=ZXc ae (Zi v).2.2.2 (show Rep.rel (Zd .u64) o [.int .u64 e] _ from (ZD (ZCf aZ ak))) rfl rfl;have B:m=(p.set (b).toNat e).length:=Zld I;refine Zrf wn rfl (a1 rfl rfl) (Zs (Zf (aT _ _ (Zj fun _ a2=>bO H fun bP a3 H=>bO H fun bQ a4 H=>bO H fun ao a5 H=>Zu (mv S rfl fun f S=>mv S rfl fun f S=>ov S rfl (Ze S rfl rfl (Zac a3)) fun f S=>ov S rfl (Ze S rfl rfl (ZJa a4)) fun f S=>ov S rfl (Ze S rfl rfl (ZJa a5)) fun f S=>mv S rfl fun f S=>?_)))));refine ov S rfl (Zea S (ZG h) rfl rfl ZB) fun f S=>ov S rfl (Ze S rfl rfl Z7b) fun f S=>Zs ?_;have S:=S.fr' (σ':=[(0,.slice (some ⟨al,am,none⟩) P Q),(1,.int .i64 n),(5,.slice (mkA (some ag)) (m) r),(6,.int .i64 b),(19,.int .i64 ((((List.replicate (k).toNat (0:Int))).length:Int))),(20,.int .i64 b),(43,.bool (decide (ao<(((Zc 18446744073709551616 a)).length:Int))))]) rfl;refine Zf (a2 _ _ ?_);obtain ⟨a6,a7,a8⟩:=ZE H;refine Zva (fun f w=>∃ W X L Y Z aa,W=a6∧Zb.le o aa∧St 65 C g [(0,.slice (some ⟨al,am,none⟩) P Q),(1,.int .i64 n),(5,.slice (mkA X) L Y),(19,.int .i64 ((((List.replicate (k).toNat (0:Int))).length:Int))),(20,.int .i64 b)] [Loc.own X 148 1 L Y Z] aa f w∧Rep.rels (Zd .u64) aa Z W∧L=W.length) (fun _ ap=>?_) ?_
   ·have H:=a7;rcases ZL (decide (ao<(((Zc 18446744073709551616 a)).length:Int))) with M | M
    ·have H:=ZJ H M;refine ZQ S rfl M (bO H fun q ab H=>bO H fun bR a9 H=>bO H fun bS ba H=>bO H fun bT bb H=>bO H fun bU ah H=>bO H fun bV bc H=>bO H fun bW bd H=>bO H fun s be H=>bO H fun bX N H=>Z8d (fl:=#[true,true,true,true,true,true,true,true,true,true,true,true,true,true,true,true,true,true,false]) ZHe (by kernel_rfl) S ?_);intro ops O F w S;refine rfa O F 0 rfl rfl S (Zz S rfl) fun f S=>rfa O F 1 rfl rfl S (Zz S rfl) fun f S=>?_;have aq:=Zja V (Zi ab).2.1;obtain ⟨bY,ar⟩:∃ c,(List.take (Zd .u64).n (List.drop ((b).toNat*(Zd .u64).n) (List.take (0+(b).toNat*1) d++[Value.int IntKind.u64 (e)]++List.drop (0+(b).toNat*1+1) d)))=c:=⟨_,rfl⟩;rw [ar] at aq;obtain ⟨rfl,bZ⟩:=aq;refine rfa O F 2 rfl rfl S (ZN S rfl rfl ZB (Zi ab).1 (ltI B (Zi ab).2.2.1)) fun f S=>rfa O F 3 rfl rfl S (Zka S rfl Z5 (Zbd S (j:=0) rfl ar (ltN B (Zi ab).2.2.2) 0 [.int .u64 q] rfl zl)) fun f S=>rfa O F 4 rfl rfl S (Zz S rfl) fun f S=>rfa O F 5 rfl rfl S (Zz S rfl) fun f S=>rfa O F 6 rfl rfl S (Zz S rfl) fun f S=>rfa O F 7 rfl rfl S (Ze S rfl rfl (Zac a9)) fun f S=>rfa O F 8 rfl rfl S (Ze S rfl rfl (ZJa ba)) fun f S=>rfa O F 9 rfl rfl S (Ze S rfl rfl (ZJa bb)) fun f S=>?_
     obtain ⟨b0,bf,bg⟩:=ZZg h (Zi ah).2.1;obtain ⟨rfl,b1⟩:=bg;refine rfa O F 10 rfl rfl S (ZN S rfl rfl ZB (Zi ah).1 (ltI (ZG h) (Zi ah).2.2.1)) fun f S=>rfa O F 11 rfl rfl S (Zka S rfl Z5 (S.view bf)) fun f S=>rfa O F 12 rfl rfl S (Zz S rfl) fun f S=>rfa O F 13 rfl rfl S (Ze S rfl rfl (Zye bc)) fun f S=>rfa O F 14 rfl rfl S (Ze S rfl rfl (Zwa bd)) fun f S=>rfa O F 15 rfl rfl S (Ze S rfl rfl (Zfg be)) fun f S=>rfa O F 16 rfl rfl S (Ze S rfl rfl Zqk) fun f S=>?_;have au:=Zja V (Zi N).2.1;obtain ⟨b2,bh⟩:∃ c,(List.take (Zd .u64).n (List.drop ((b).toNat*(Zd .u64).n) (List.take (0+(b).toNat*1) d++[Value.int IntKind.u64 (e)]++List.drop (0+(b).toNat*1+1) d)))=c:=⟨_,rfl⟩;rw [bh] at au;obtain ⟨rfl,b3⟩:=au;refine rfa O F 17 rfl rfl S (ZN S rfl rfl ZB (Zi N).1 (ltI B (Zi N).2.2.1)) fun f S=>go1 O F 18 ?_;obtain ⟨w,bi,S⟩:=ZNb S Z5 (off:=0+(b).toNat*1) (z:=.int .u64 (orI .u64 q s)) (cs:=[.int .u64 (orI .u64 q s)]) (Zzb rfl) rfl (i:=0) rfl (Zsd S (j:=0) rfl (ltN B (Zi N).2.2.2)) (by first | rfl | simp [plain]);have bj:Rep.rels (Zd .u64) o (List.take (0+(b).toNat*1) ((List.take (0+(b).toNat*1) d++[Value.int IntKind.u64 (e)]++List.drop (0+(b).toNat*1+1) d))++[Value.int IntKind.u64 (orI .u64 q s)]++List.drop (0+(b).toNat*1+1) ((List.take (0+(b).toNat*1) d++[Value.int IntKind.u64 (e)]++List.drop (0+(b).toNat*1+1) d))) (((p.set (b).toNat e)).set (b).toNat (orI .u64 q s)):=ZXc V (Zi N).2.2.2 (show Rep.rel (Zd .u64) o [.int .u64 (orI .u64 q s)] _ from (ZD (Zqa _ _))) rfl rfl
     have bk:m=(((p.set (b).toNat e)).set (b).toNat (orI .u64 q s)).length:=Zld B;refine nxs [0,1,2,3,4,5,6,7,8,9,10,11,12,13,14,15,16,17] [] O rfl rfl (bi rfl rfl) (⟨Zjc,ZKe O F ?_⟩);obtain rfl:=Zn H;refine Zf (ap _ _ ⟨_,some ag,m,r,(List.take (0+(b).toNat*1) ((List.take (0+(b).toNat*1) d++[Value.int IntKind.u64 (e)]++List.drop (0+(b).toNat*1+1) d))++[Value.int IntKind.u64 (orI .u64 q s)]++List.drop (0+(b).toNat*1+1) ((List.take (0+(b).toNat*1) d++[Value.int IntKind.u64 (e)]++List.drop (0+(b).toNat*1+1) d))),_,rfl,(leR _),(S.fr' rfl),bj,bk⟩)
    have H:=ZK H M;refine ZM S rfl M (wp_skip ?_);obtain rfl:=Zn H;refine Zf (ap _ _ ⟨_,some ag,m,r,(List.take (0+(b).toNat*1) d++[Value.int IntKind.u64 (e)]++List.drop (0+(b).toNat*1+1) d),_,rfl,(leR _),(S.fr' rfl),V,B⟩)
   rintro f w ⟨W,X,L,Y,Z,aa,hq,bm,S,bn,bo⟩;subst hq;have H:=a8;refine Zsb (Zf (aS _ _ (bO H fun b4 av H=>Zu (ov S rfl (Ze S rfl rfl (ZJa av)) fun f S=>mv S rfl fun f S=>Zs ?_))));obtain rfl:=Zn H;refine aP _ rfl _ _ ⟨_,_,X,L,Y,Z,_,rfl,(leT ad bm),(S.fr' rfl),bn,bo,(Zsa av).2⟩
  have H:=ZK H J;refine ZM S rfl J (wp_exit (ZZ ?_));obtain rfl:=Zn H;have hq:=aQ _ rfl;subst hq;have H:=aN;refine ZZ (Z6a ?_);obtain rfl:=Zn H;refine Zf (aL _ _ ⟨_,U,m,r,d,_,rfl,(leT (leR _) ad),(S.fr' rfl),ae,I⟩)
 rintro f w ⟨t,E,u,G,ac,T,hq,b5,S,bp,bq⟩;subst hq;have H:=aK;refine Zf (aH _ _ (Zj fun _ br=>bO H fun b6 bs H=>Zu (mv S rfl fun f S=>?_)));obtain ⟨b7,b8,S,bt⟩:=S.pubSlice (i:=0) (A:=(Zd .u64)) (l:=t) (ℓ':=[]) rfl rfl bq bp rfl;refine opc S rfl (Zaa S [.slice (mkA E) u G] Zjf rfl rfl) (ZMe S.vin (show Rep.rel (Zw (Zd .u64)) _ [.slice (mkA E) u G] t from bt) bs) ?_;rintro _ b9 f w ca ⟨cb,rfl,aw⟩ S;obtain ⟨bu,bv,bw,rfl⟩:=Zia aw;refine mw S rfl fun f S=>Zs (Zf (br _ _ (wp_ret ?_)));obtain rfl:=Zn H;refine ZAa S (ZMa rfl (ZT S rfl)) ⟨[.slice bu bv bw],rfl,aw⟩
theorem right_c {c:World} {b:Zb} (hv:VIn b c) {d:List Value} {a:Nat} (h:Rep.rel Zv b d a) {e:List Value} {n:Int} (f:Rep.rel (Zd .i64) b e n) {z:Nat} (hm:ZLg a n=some z) :
  Ret Tryz.prog 145 #[Zv.val d,(Zd .i64).val e] c b (fun y v'=>∃ g,y=Zv.val g∧Zv.rel v' g z) :=
 right_w hv h f (Zdt f.2 hm)
theorem word_w {b:World} {a:Zb} (hv:VIn a b) {c:List Value} {n:Int} (h:Rep.rel (Zd .u64) a c n) {z:Nat} (H:ZRh n=some z):Ret Tryz.prog 99 #[(Zd .u64).val c] b a (fun y v'=>∃ d,y=Zv.val d∧Zv.rel v' d z):=by
 obtain ⟨rfl,j⟩:=h;refine ZLb (K:=6) (args:=[.int .u64 n]) hv Tryz.func99 rfl rfl zl fun f S=>?_;unfold ZRh at H;refine sr (mw S rfl fun f S=>oe (Zj fun _ k=>bO H fun u m H=>Zu (mv S rfl fun f S=>?_)));obtain ⟨e,w,o,S⟩:=ZFf S (n:=1) (cs:=[.int .u64 n]) (vals:=[(0,.int .u64 n)]) (sz:=1) rfl (by decide) (ZJn Zie (x:=.int .u64 n) (cs:=[.int .u64 n]) rfl rfl (by decide));have p:Rep.rels (Zd .u64) a [.int .u64 n] [n]:=(Zfo (ZD j) ZVd);refine Zub wn rfl zl (o rfl) S fun f S=>?_;obtain ⟨v,B,S,q⟩:=S.pubSlice (i:=0) (A:=(Zd .u64)) (l:=[n]) (ℓ':=[]) rfl rfl rfl p rfl;refine opc S rfl (Zaa S [.slice (mkA (some e)) (1) 1] Zjf rfl rfl) (ZMe S.vin (show Rep.rel (Zw (Zd .u64)) _ [.slice (mkA (some e)) (1) 1] ([n]) from q) m) ?_;rintro _ C f w D ⟨E,rfl,g⟩ S;obtain ⟨r,s,t,rfl⟩:=Zia g;refine mw S rfl fun f S=>Zs (Zf (k _ _ (wp_ret ?_)));obtain rfl:=Zn H;refine ZAa S (ZMa rfl (ZT S rfl)) ⟨[.slice r s t],rfl,g⟩
theorem word_c {b:World} {a:Zb} (hv:VIn a b) {c:List Value} {n:Int} (e:Rep.rel (Zd .u64) a c n) {z:Nat} (hm:Zbc n=some z) :
  Ret Tryz.prog 99 #[(Zd .u64).val c] b a (fun y v'=>∃ d,y=Zv.val d∧Zv.rel v' d z) :=
 word_w hv e (ZAp hm)
theorem Zju {w0:World} {F:Zb} (hv:VIn F w0) {c0:List Value} {a:Nat} (m:Rep.rel Zv F c0 a) {c1:List Value} {b:Nat} (g:Rep.rel Zv F c1 b) {z:Nat×Nat} (H:Z1h a b=some z):Ret Tryz.prog 102 #[Zv.val c0,Zv.val c1] w0 F (fun y v'=>∃ r0 r1,y = .tuple #[Zv.val r0,Zv.val r1]∧Zv.rel v' r0 z.1∧Zv.rel v' r1 z.2):=by
 obtain ⟨R,T,U,rfl⟩:=Zia m;obtain ⟨q4,n5,k6,rfl⟩:=Zia g;refine ZLb (K:=84) (args:=[.slice R T U,.slice q4 n5 k6]) hv Tryz.func102 rfl rfl zl fun f S=>?_;unfold Z1h at H;refine sr (mw S rfl fun f S=>mw S rfl fun f S=>oe (Zj fun _ bb=>wp_block (Zj fun _ bc=>bO H fun bd be H=>Zu (mv S rfl fun f S=>mv S rfl fun f S=>opc S rfl (Zaa S [.slice R T U,.slice q4 n5 k6] Z0q rfl rfl) (cmp_c S.vin m g be) ?_))));rintro _ cV f w aj ⟨cW,rfl,bf⟩ S;obtain ⟨rfl,cX⟩:=bf;refine ov S rfl (Ze S rfl rfl Z7b) fun f S=>mw S rfl fun f S=>Zs (Zf (bc _ _ ?_));rcases ZL (decide (bd<(0:Int))) with V | V
 ·have H:=ZJ H V;refine ZQ S rfl V (sr (mv S rfl fun f S=>mw S rfl fun f S=>mw S rfl fun f S=>oe (wp_ret (Zhh (ZVa ?_)))));obtain rfl:=Zn H;have m:=Z7 aj m;refine ZAa S (ZYe rfl (ZT S rfl) (ZT S rfl)) ⟨[.slice none 0 0],[.slice R T U],rfl,(Zeh _),m⟩
 have H:=ZK H V;refine ZM S rfl V (sr (mv S rfl fun f S=>?_));have g:=Z7 aj g;refine ov S rfl (Zea S (ZG g) rfl rfl ZB) fun f S=>ov S rfl (Ze S rfl rfl Z4d) fun f S=>mw S rfl fun f S=>oe ?_;rcases ZL (((((Zc 18446744073709551616 b)).length:Int))==(1:Int)) with W | W
 ·have H:=ZJ H W;refine ZQ S rfl W (Zj fun _ bg=>bO H fun au av H=>bO H fun aw bh H=>Zu (mv S rfl fun f S=>mv S rfl fun f S=>?_));obtain ⟨_,cY,cZ,c2,rfl,ax,bi⟩:=Z8a g (Zi av).2.1;obtain ⟨rfl,bj⟩:=bi;refine ov S rfl (ZN S rfl rfl ZB (Zi av).1 (ltI (ZG g) (Zi av).2.2.1)) fun f S=>ov S rfl (Zka S rfl Z5 (S.view ax)) fun f S=>?_;have m:=Z7 aj m;refine opc S rfl (Zaa S [.slice R T U,.int .u64 au] Z1o rfl rfl) (Zjq S.vin m (show Rep.rel (Zd .u64) _ [.int .u64 au] au from (ZD bj)) bh) ?_;rintro _ c3 f w bk ⟨c4,c5,rfl,ak,bm⟩ S;have ax:=Atm bk ax;obtain ⟨aS,aT,aU,rfl⟩:=Zia ak;obtain ⟨rfl,bn⟩:=bm;refine mv S rfl fun f S=>ov S rfl (Zya S rfl rfl) fun f S=>ov S rfl (Zya S rfl rfl) fun f S=>mw S rfl fun f S=>mw S rfl fun f S=>Zs (Zf (bg _ _ (Zj fun _ bo=>bO H fun c6 bp H=>Zu (mv S rfl fun f S=>mv S rfl fun f S=>opc S rfl (Zaa S [.int .u64 (aw.2)] k_en99 rfl rfl) (word_c S.vin (show Rep.rel (Zd .u64) _ [.int .u64 (aw.2)] aw.2 from (ZD bn)) bp) ?_))));rintro _ c7 f w bq ⟨c8,rfl,aV⟩ S;obtain ⟨aW,aX,aY,rfl⟩:=Zia aV;refine mw S rfl fun f S=>mw S rfl fun f S=>Zs ?_;have S:=S.fr' (σ':=[(4,.slice aS aT aU),(5,.slice aW aX aY)]) rfl;refine Zf (bo _ _ (wp_ret (Zhh (ZVa ?_))))
  obtain rfl:=Zn H;have ak:=Z7 bq ak;refine ZAa S (ZYe rfl (ZT S rfl) (ZT S rfl)) ⟨[.slice aS aT aU],[.slice aW aX aY],rfl,ak,aV⟩
 have H:=ZK H W;refine ZM S rfl W (wp_skip (Zsb (Zf (bb _ _ (Zj fun _ br=>bO H fun c9 bs H=>bO H fun ay az H=>bO H fun k bt H=>Zu (mv S rfl fun f S=>mv S rfl fun f S=>ov S rfl (Zea S (ZG g) rfl rfl ZB) fun f S=>ov S rfl (Ze S rfl rfl (Zwa bs)) fun f S=>?_))))));obtain ⟨_,bu,bv,da,rfl,aA,bw⟩:=Z8a g (Zi az).2.1;obtain ⟨rfl,bx⟩:=bw;refine ov S rfl (ZN S rfl rfl ZB (Zi az).1 (ltI (ZG g) (Zi az).2.2.1)) fun f S=>ov S rfl (Zka S rfl Z5 (S.view aA)) fun f S=>opc S rfl (Zaa S [.int .u64 ay] Zlq rfl rfl) (Zpr S.vin (show Rep.rel (Zd .u64) _ [.int .u64 ay] ay from (ZD bx)) bt) ?_;rintro _ db f w aB ⟨dc,rfl,bz⟩ S;have aA:=Atm aB aA;obtain ⟨rfl,aC⟩:=bz;refine mw S rfl fun f S=>Zs (Zf (br _ _ (Zj fun _ bA=>bO H fun bB bC H=>Zu (mv S rfl fun f S=>mv S rfl fun f S=>?_))));have g:=Z7 aB g;refine opc S rfl (Zaa S [.slice (some ⟨bu,bv,none⟩) n5 k6,.int .i64 k] Zoq rfl rfl) (Zap S.vin g (show Rep.rel (Zd .i64) _ [.int .i64 k] k from (ZD aC)) bC) ?_;rintro _ bD f w bE ⟨dd,rfl,v⟩ S;obtain ⟨aD,aE,aF,rfl⟩:=Zia v;refine mw S rfl fun f S=>Zs (Zf (bA _ _ (Zj fun _ bG=>bO H fun X bH H=>bO H fun de bI H=>bO H fun df bJ H=>Zu ?_)))
 obtain ⟨dg,w,bK,S⟩:=ZFf (P:=Tryz.prog) (t:=39) (e:=148) S (n:=0) (cs:=[]) (vals:=[]) (sz:=1) rfl (by decide) (fun _=>by kernel_rfl);have aG:Rep.rels (Zd .u64) bD [] []:=ZVd;refine Zub wn rfl zl (bK rfl) S fun f S=>mv S rfl fun f S=>mv S rfl fun f S=>?_;have m:=Z7 (leT (leT aj aB) bE) m;refine opc S rfl (Zaa S [.slice R T U,.int .i64 k] Zoq rfl rfl) (Zap S.vin m (show Rep.rel (Zd .i64) _ [.int .i64 k] k from (ZD aC)) bH) ?_;rintro _ al f w aZ ⟨dh,rfl,aH⟩ S;have aG:=ZW aZ aG;obtain ⟨di,dj,dk,rfl⟩:=Zia aH;have aI:=S;obtain ⟨dl,dm,a0,w,bM,S,bP⟩:=ZXf (ty:=39) (A:=(Zd .u64)) Zie S (i:=0) (n':=(([]:(List Int))++((Zc 18446744073709551616 X))).length) rfl aH (appN rfl (ZG aH)) (Zoe bI) (by decide);have bQ:=ZBc aG bP;refine Zub wn rfl zl (Z3d aI rfl rfl bM) S fun f S=>?_;obtain ⟨dn,w,bR,S⟩:=ZFf S (n:=1) (cs:=[.int .u64 0]) (vals:=[(0,.int .u64 0)]) (sz:=1) rfl (by decide) (ZJn Zie (x:=.int .u64 0) (cs:=[.int .u64 0]) rfl rfl (by decide));have aJ:Rep.rels (Zd .u64) al [.int .u64 0] [(0:Int)]:=(Zfo (ZD (by decide)) ZVd);refine Zub wn rfl zl (bR rfl) S fun f S=>?_;have aI:=S;obtain ⟨aK,aL,w,bS,S⟩:=Z2i (ty:=39) Zie S (i:=1) (n':=((([]:(List Int))++((Zc 18446744073709551616 X)))++[(0:Int)]).length) rfl (Zpe aJ rfl) (Ztk S (j:=0) rfl) (Zpk aJ) (appN rfl rfl) (Zoe bJ) (by decide)
 have bT:=ZBc bQ aJ;refine Zub wn rfl zl (Z3d aI rfl rfl bS) S fun f S=>mw S rfl fun f S=>Zs ?_;have S:=S.fr' (σ':=[(8,.int .i64 k),(9,.slice aD aE aF),(10,.slice (mkA aK) (((([]:(List Int))++((Zc 18446744073709551616 X)))++[(0:Int)]).length) aL)]) rfl;refine Zf (bG _ _ (sr (mv S rfl fun f S=>?_)));have v:=Z7 aZ v;refine ov S rfl (Zea S (ZG v) rfl rfl ZB) fun f S=>mw S rfl fun f S=>oe (Zj fun _ bU=>bO H fun q bV H=>bO H fun dp am H=>Zu (mv S rfl fun f S=>ov S rfl (Zea S rfl rfl rfl ZB) fun f S=>mv S rfl fun f S=>ov S rfl (Ze S rfl rfl (Zwa bV)) fun f S=>?_));obtain ⟨aM,a1⟩:∃ c:List Value,c=(List.replicate (q).toNat [.int .u64 0]).flatten:=⟨_,rfl⟩;obtain ⟨a2,w,bW,S⟩:=ZAh Zie S (l:=q) (c:=q) (ZNa am).1 (ZNa am).2.1 (ZNa am).2.2.1 (ZNa am).2.2.2 a1;have bX:Rep.rels (Zd .u64) al aM (List.replicate (q).toNat (0:Int)):=by rw [a1];exact Z5d (show Rep.rel (Zd .u64) _ [.int .u64 0] _ from (ZD (by decide))) _
 refine Zub wn rfl zl (bW rfl rfl) S fun f S=>mw S rfl fun f S=>Zs (Zf (bU _ _ (Zj fun _ bY=>Zj fun _ bZ=>bO H fun dq a3 H=>Zu (mv S rfl fun f S=>ov S rfl (Zea S (repN (x:=(0:Int))) rfl rfl ZB) fun f S=>ov S rfl (Ze S rfl rfl (Zwa a3)) fun f S=>mw S rfl fun f S=>Zs (Zf (bZ _ _ ?_))))));obtain ⟨b0,b1,b2⟩:=ZE H;refine Zva (fun f w=>∃ G I J B L an Y M Z aN aa,(G,I)=b0∧Zb.le al aa∧St 84 w0 F [(8,.int .i64 k),(10,.slice (mkA J) B L),(12,.slice (mkA Y) M Z)] [Loc.own J 148 1 B L an,Loc.own Y 148 1 M Z aN] aa f w∧Rep.rels (Zd .u64) aa an G∧B=G.length∧Rep.rels (Zd .u64) aa aN I∧M=I.length) (fun _ b3=>?_) ?_
 ·have H:=b1;refine wp_block ?_;obtain ⟨dr,b4,b5⟩:=ZE H;have S:=S.reorder (ℓ':=[Loc.own aK 148 1 (((([]:(List Int))++((Zc 18446744073709551616 X)))++[(0:Int)]).length) aL ((([]++a0)++[.int .u64 0])),Loc.own (some a2) 148 1 ((q).toNat) (q).toNat aM]) [2,0] rfl (by decide);refine Zwb b4 (fun b6 f w=>∃ ao N d ap C D s aq E ab o ac,(ao,N,d)=b6∧Zb.le al ac∧St 84 w0 F [(8,.int .i64 k),(9,.slice aD aE aF),(10,.slice (mkA ap) C D),(11,.int .i64 ((((Zc 18446744073709551616 bB)).length:Int))),(12,.slice (mkA aq) E ab),(13,.int .i64 d)] [Loc.own ap 148 1 C D s,Loc.own aq 148 1 E ab o] ac f w∧Rep.rels (Zd .u64) ac s ao∧C=ao.length∧Rep.rels (Zd .u64) ac o N∧E=N.length∧inR .i64 d) ⟨_,_,_,aK,((([]:(List Int))++((Zc 18446744073709551616 X)))++[(0:Int)]).length,aL,(([]++a0)++[.int .u64 0]),some a2,(q).toNat,(q).toNat,aM,_,rfl,(leR _),(S.fr' rfl),bT,rfl,bX,(repN (x:=(0:Int))),(Zsa a3).2⟩ ?_;rintro _ f w st ⟨ao,N,d,ap,C,D,s,aq,E,ab,o,ac,hq,aO,S,ad,ae,af,ag,ds⟩ H dt b7 b8
  subst hq;refine Zj fun _ b9=>sr (mv S rfl fun f S=>ov S rfl (Ze S rfl rfl Zec) fun f S=>oe ?_);rcases ZL (decide ((0:Int)≤d)) with ah | ah
  ·have H:=ZJ H ah;refine ZQ S rfl ah (wp_skip (Zf (b9 _ _ (Zj fun _ ca=>wp_block (bO H fun du cb H=>bO H fun O cc H=>bO H fun dv h H=>bO H fun u cd H=>bO H fun dw Q H=>Zu (mv S rfl fun f S=>mv S rfl fun f S=>mv S rfl fun f S=>?_))))));refine mv S rfl fun f S=>mv S rfl fun f S=>mv S rfl fun f S=>ov S rfl (Ze S rfl rfl (ZJa cb)) fun f S=>ov S rfl (Ze S rfl rfl (ZJa cc)) fun f S=>?_;obtain ⟨aP,rfl⟩:=Zyc S (j:=0) rfl (by have:=Zkc h;have:=ae;omega);refine ov S rfl (ZBu S (j:=0) rfl ZB (Zkc h).1 (Zkc h).2.1 (by have:=(Zkc h).2.2.1;have:=ae;omega) rfl rfl rfl) fun f S=>mv S rfl fun f S=>?_;obtain ⟨pre399,post400,ce,cg,ch,ci,cj,ck⟩:=Zhs S (i:=0) (lo:=(d).toNat) (hi:=(O).toNat) rfl (Zkc h).2.2.2.2.2.1 (by have:=(Zkc h).2.2.2.2.2.2;have:=ae;omega);have v:=Z7 aO v;refine Z4p S wn rfl zl (Zaa S [.slice (some ⟨aP,(d).toNat*1,none⟩) ((O-d).toNat) (D-(d).toNat),.slice aD aE aF] k_en144 rfl rfl) (i:=0) rfl rfl (digit_c S.vin ce ch cg (Zkc h).2.2.2.2.1 ⟨Ziu (Zkc h).1 (Zkc h).2.1 ci,cj⟩ (ZYw ad rfl (Zkc h).2.2.2.1) v cd) ?_;rintro _ a4 f w aQ ⟨⟨dx,rfl,cl⟩,cm,aR,cn,co,a5⟩ hSf;have ad:=ZW aQ ad
   have af:=ZW aQ af;have a6:((O).toNat-(d).toNat)=u.2.length:=by have:=co;have:=Zkc h;omega
   have S:=hSf (Loc.own (some aP) 148 1 C D (List.take ((d).toNat*1) s++aR++List.drop ((O).toNat*1) s)) rfl (ck _ aR (Zpe a5 a6) cn) cm;have cp:=Z0u (p:=(d).toNat) (r:=(O).toNat) (sz:=1) ad a5 rfl;have cq:=Zgs ae (Zkc h).2.2.2.2.2.1 (Zkc h).2.2.2.2.2.2 a6;obtain ⟨rfl,cr⟩:=cl;obtain ⟨ct,rfl⟩:=Zyc S (j:=1) rfl (posN ag (Zi Q).2.2.2);have a7:=Zja af (Zi Q).2.1;obtain ⟨dy,cu⟩:∃ c,(List.take (Zd .u64).n (List.drop ((d).toNat*(Zd .u64).n) o))=c:=⟨_,rfl⟩;rw [cu] at a7;obtain ⟨rfl,dz⟩:=a7;refine ov S rfl (ZN S rfl rfl ZB (Zi Q).1 (ltI ag (Zi Q).2.2.1)) fun f S=>?_;obtain ⟨w,cv,S⟩:=ZNb S Z5 (off:=0+(d).toNat*1) (z:=.int .u64 (u.1)) (cs:=[.int .u64 (u.1)]) (Zzb rfl) rfl (i:=1) rfl (Zsd S (j:=1) rfl (ltN ag (Zi Q).2.2.2)) (by first | rfl | simp [plain]);have cw:Rep.rels (Zd .u64) a4 (List.take (0+(d).toNat*1) o++[Value.int IntKind.u64 (u.1)]++List.drop (0+(d).toNat*1+1) o) (N.set (d).toNat u.1):=ZXc af (Zi Q).2.2.2 (show Rep.rel (Zd .u64) a4 [.int .u64 (u.1)] _ from (ZD cr)) rfl rfl;have cx:E=(N.set (d).toNat u.1).length:=Zld ag;refine Zrf wn rfl (cv rfl rfl) (Zs (Zsb (Zf (ca _ _ (bO H fun dA a8 H=>Zu (mv S rfl fun f S=>ov S rfl (Ze S rfl rfl (Zwa a8)) fun f S=>mw S rfl fun f S=>Zs ?_))))))
   obtain rfl:=Zn H;refine b7 _ rfl _ _ ⟨_,_,_,some aP,C,D,(List.take ((d).toNat*1) s++aR++List.drop ((O).toNat*1) s),some ct,E,ab,(List.take (0+(d).toNat*1) o++[Value.int IntKind.u64 (u.1)]++List.drop (0+(d).toNat*1+1) o),_,rfl,(leT aO aQ),(S.fr' rfl),cp,cq,cw,cx,(Zsa a8).2⟩
  have H:=ZK H ah;refine ZM S rfl ah (wp_exit (ZZ ?_));obtain rfl:=Zn H;have hq:=b8 _ rfl;subst hq;have H:=b5;refine ZZ (Z6a ?_);obtain rfl:=Zn H;refine Zf (b3 _ _ ⟨_,_,ap,C,D,s,aq,E,ab,o,_,rfl,(leT (leR _) aO),(S.fr' rfl),ad,ae,af,ag⟩)
 rintro f w ⟨G,I,J,B,L,an,Y,M,Z,aN,aa,hq,dB,S,ai,cy,cz,cA⟩;subst hq;have H:=b2;refine Zf (bY _ _ (Zj fun _ cB=>bO H fun dC cC H=>bO H fun dD cD H=>bO H fun dE cE H=>Zu (mv S rfl fun f S=>?_)));obtain ⟨dF,cF,S,cG⟩:=S.pubSlice (i:=1) (A:=(Zd .u64)) (l:=I) (ℓ':=[Loc.own J 148 1 B L an]) rfl rfl cA cz rfl;have ai:=ZW cF ai;refine opc S rfl (Zaa S [.slice (mkA Y) M Z] Zjf rfl rfl) (ZMe S.vin (show Rep.rel (Zw (Zd .u64)) _ [.slice (mkA Y) M Z] I from cG) cC) ?_;rintro _ dG f w cH ⟨dH,rfl,ar⟩ S;have ai:=ZW cH ai;obtain ⟨cI,cJ,cK,rfl⟩:=Zia ar;refine mv S rfl fun f S=>?_;obtain ⟨dI,cL,S,cM⟩:=S.pubSlice (i:=0) (A:=(Zd .u64)) (l:=G) (ℓ':=[]) rfl rfl cy ai rfl;refine opc S rfl (Zaa S [.slice (mkA J) B L] Zjf rfl rfl) (ZMe S.vin (show Rep.rel (Zw (Zd .u64)) _ [.slice (mkA J) B L] G from cM) cD) ?_;rintro _ dJ f w cN ⟨dK,rfl,a9⟩ S;obtain ⟨cO,cP,cQ,rfl⟩:=Zia a9;refine mv S rfl fun f S=>opc S rfl (Zaa S [.slice cO cP cQ,.int .i64 k] k_en145 rfl rfl) (right_c S.vin a9 (show Rep.rel (Zd .i64) _ [.int .i64 k] k from (ZD aC)) cE) ?_;rintro _ dL f w cR ⟨dM,rfl,ba⟩ S;obtain ⟨cS,cT,cU,rfl⟩:=Zia ba
 refine mw S rfl fun f S=>mw S rfl fun f S=>Zs (Zf (cB _ _ (wp_ret ?_)));obtain rfl:=Zn H;have ar:=Z7 (leT (leT cL cN) cR) ar;refine ZAa S (ZYe rfl (ZT S rfl) (ZT S rfl)) ⟨[.slice cI cJ cK],[.slice cS cT cU],rfl,ar,ba⟩
theorem ZZw {d:World} {c:Zb} (hv:VIn c d) {e:List Value} {a:Nat} (i:Rep.rel Zv c e a) {f:List Value} {b:Nat} (j:Rep.rel Zv c f b) {z:Nat×Nat} (hm:Zkd a b=some z) :
  Ret Tryz.prog 102 #[Zv.val e,Zv.val f] d c (fun y v'=>∃ g h,y=Value.tuple #[Zv.val g,Zv.val h]∧Zv.rel v' g z.1∧Zv.rel v' h z.2) :=
 Zju hv i j (Z7t hm)
end Go.Eng
set_option maxRecDepth 100000
set_option maxHeartbeats 4000000
namespace Go.Eng
open Go.Proofs Go.RowKit
noncomputable def Zjg:FuncId×Con:=(102,⟨[.leaf 0,.leaf 0],[.leaf 0,.leaf 0],fun p=>Zkd p.1 p.2⟩)
theorem ZDq:Zk Tryz.prog Zjg.1 Zjg.2:=fun w v vals x z hv ha hz=>by
 obtain ⟨c0,w0,e0,p0,c1,e1,p1⟩:=ha;subst e0;subst e1
 exact .inl ⟨fun _ _=>by kernel_rfl,Ret.mono (ZZw hv p0 p1 hz) fun y v' _ ⟨r0,r1,e,h0,h1⟩=>⟨_,e,r0,_,rfl,h0,r1,rfl,h1⟩⟩
end Go.Eng
set_option maxRecDepth 100000
set_option maxHeartbeats 4000000
namespace Go.Eng
open Go.Proofs Go.RowKit
noncomputable def ZLj:FuncId×Con:=(141,⟨[.leaf 0,.leaf 0],[.int .u64],fun p=>ZAg p.1 p.2⟩)
theorem small_i (a:Nat) (b:Nat):Zm ⟨Tryz.prog,[(39,0)],[],[],[],[],[],[]⟩ [] Tryz.f141 (.two .no (.two .no (.two (.two .no (.cut ⟨⟨[],[],[]⟩,[(.norm,⟨[1],[],[.s 5 (.dat (.int .u64))]⟩)]⟩ .no)) (.two .no (.two (.cut ⟨⟨[],[],[]⟩,[(.norm,⟨[],[],[.s 5 (.dat (.int .u64))]⟩)]⟩ (.two (.cut ⟨⟨[],[],[.s 5 (.dat (.int .u64)),.s 6 (.dat (.int .u64))]⟩,[(.exit 0,⟨[],[],[.s 5 (.dat (.int .u64))]⟩)]⟩ .no) .no)) .no))))) [.leaf 0,.leaf 0] [.int .u64] (a,b)=Zdk a b:=by kernel_rfl
theorem small_k:Zk Tryz.prog ZLj.1 ZLj.2:=Zp (C:=⟨Tryz.prog,[(39,0)],[],[],[],[],[],[]⟩) trivial trivial trivial trivial (inl:=[]) trivial (ann:=.two .no (.two .no (.two (.two .no (.cut ⟨⟨[],[],[]⟩,[(.norm,⟨[1],[],[.s 5 (.dat (.int .u64))]⟩)]⟩ .no)) (.two .no (.two (.cut ⟨⟨[],[],[]⟩,[(.norm,⟨[],[],[.s 5 (.dat (.int .u64))]⟩)]⟩ (.two (.cut ⟨⟨[],[],[.s 5 (.dat (.int .u64)),.s 6 (.dat (.int .u64))]⟩,[(.exit 0,⟨[],[],[.s 5 (.dat (.int .u64))]⟩)]⟩ .no) .no)) .no))))) Tryz.func141 (fun _ _=>by kernel_rfl) rfl fun v vals x z ha hz=>(small_i x.1 x.2).trans (Zps hz)
end Go.Eng
set_option maxRecDepth 100000
set_option maxHeartbeats 4000000
namespace Go.Eng
open Go.Proofs Go.RowKit
noncomputable def Zpj:FuncId×Con:=(100,⟨[.leaf 0,.leaf 0],[.leaf 0],fun p=>gcdF p.1 p.2⟩)
theorem gcd_i (a:Nat) (b:Nat):Zm ⟨Tryz.prog,[(39,0)],[Zkf,Zjg,ZLj],[],[],[],[],[]⟩ [] Tryz.f100 (.two .no (.two (.cut ⟨⟨[],[],[]⟩,[(.norm,⟨[],[],[.s 0 (.dat (.leaf 0))]⟩),(.ret,⟨[],[],[.s 1000 (.dat (.leaf 0))]⟩)]⟩ (.two (.cut ⟨⟨[],[],[.s 0 (.dat (.leaf 0)),.s 1 (.dat (.leaf 0))]⟩,[(.ret,⟨[],[],[.s 1000 (.dat (.leaf 0))]⟩),(.exit 0,⟨[],[],[.s 0 (.dat (.leaf 0))]⟩)]⟩ (.two (.two .no (.two (.two (.two (.cut ⟨⟨[],[],[]⟩,[(.norm,⟨[0,1],[],[.s 17 (.dat .bool)]⟩)]⟩ .no) .no) .no) .no)) .no)) .no)) .no)) [.leaf 0,.leaf 0] [.leaf 0] (a,b)=Zbj a b:=by kernel_rfl
theorem gcd_k:Zk Tryz.prog Zpj.1 Zpj.2:=Zp (C:=⟨Tryz.prog,[(39,0)],[Zkf,Zjg,ZLj],[],[],[],[],[]⟩) ⟨ZGm,ZDq,small_k,trivial⟩ trivial trivial trivial (inl:=[]) trivial (ann:=.two .no (.two (.cut ⟨⟨[],[],[]⟩,[(.norm,⟨[],[],[.s 0 (.dat (.leaf 0))]⟩),(.ret,⟨[],[],[.s 1000 (.dat (.leaf 0))]⟩)]⟩ (.two (.cut ⟨⟨[],[],[.s 0 (.dat (.leaf 0)),.s 1 (.dat (.leaf 0))]⟩,[(.ret,⟨[],[],[.s 1000 (.dat (.leaf 0))]⟩),(.exit 0,⟨[],[],[.s 0 (.dat (.leaf 0))]⟩)]⟩ (.two (.two .no (.two (.two (.two (.cut ⟨⟨[],[],[]⟩,[(.norm,⟨[0,1],[],[.s 17 (.dat .bool)]⟩)]⟩ .no) .no) .no) .no)) .no)) .no)) .no)) Tryz.func100 (fun _ _=>by kernel_rfl) rfl fun v vals x z ha hz=>(gcd_i x.1 x.2).trans (gcdF_eq hz)
end Go.Eng
set_option maxRecDepth 100000
set_option maxHeartbeats 4000000
namespace Go.Eng
open Go.Proofs Go.RowKit
noncomputable def ZPg:FuncId×Con:=(101,⟨[.leaf 0],[.bool],fun p=>ZJf p⟩)
theorem isOne_i (a:(List Int)):Zm ⟨Tryz.prog,[],[],[],[],[],[],[]⟩ [] Tryz.f101 (.two .no (.two (.cut ⟨⟨[],[],[]⟩,[(.norm,⟨[],[],[.s 2 (.dat .bool)]⟩)]⟩ .no) .no)) [.slice (.int .u64)] [.bool] (a)=Z0n a:=by kernel_rfl
theorem ZZp:Zk Tryz.prog ZPg.1 ZPg.2:=ZLk (C:=⟨Tryz.prog,[],[],[],[],[],[],[]⟩) trivial trivial trivial trivial (inl:=[]) trivial (ann:=.two .no (.two (.cut ⟨⟨[],[],[]⟩,[(.norm,⟨[],[],[.s 2 (.dat .bool)]⟩)]⟩ .no) .no)) (ats:=[.slice (.int .u64)]) (rts:=[.bool]) (fun x=>((Zc 18446744073709551616 x))) (fun z=>z) (fun _ _ _ h=>h) (fun _ _ _ h=>h) Tryz.func101 (fun _ _=>by kernel_rfl) rfl fun v vals x z ha hz=>(isOne_i (Zc 18446744073709551616 x)).trans (Zlu.trans hz)
end Go.Eng
set_option maxRecDepth 100000
set_option maxHeartbeats 4000000
namespace Go.Eng
open Go.Proofs Go.RowKit
noncomputable def Zud:FuncId×Con:=(56,⟨[.leaf 2,.leaf 0],[.leaf 3],fun p=>ZWc p.1 p.2⟩)
theorem over_i (n:Int) (d:Nat):Zm ⟨Tryz.prog,[(39,0),(41,2),(43,3)],[Zpj,ZPg,Zjg],[],[],[],[],[]⟩ [] Tryz.f56 (.two .no (.two (.two .no (.two .no (.cut ⟨⟨[],[],[]⟩,[(.norm,⟨[2,4],[],[.s 1 (.dat (.leaf 0)),.l (.sl 2) (.box 41 (.dat (.pair .bool (.leaf 0))))]⟩)]⟩ .no))) (.two (.two .no (.cut ⟨⟨[],[],[]⟩,[(.norm,⟨[2,4],[],[.s 1 (.dat (.leaf 0))]⟩)]⟩ .no)) .no))) [.leaf 2,.leaf 0] [.leaf 3] (n,d)=Zfm n d:=by kernel_rfl
theorem Zxj:Zk Tryz.prog Zud.1 Zud.2:=Zp (C:=⟨Tryz.prog,[(39,0),(41,2),(43,3)],[Zpj,ZPg,Zjg],[],[],[],[],[]⟩) ⟨gcd_k,ZZp,ZDq,trivial⟩ trivial trivial trivial (inl:=[]) trivial (ann:=.two .no (.two (.two .no (.two .no (.cut ⟨⟨[],[],[]⟩,[(.norm,⟨[2,4],[],[.s 1 (.dat (.leaf 0)),.l (.sl 2) (.box 41 (.dat (.pair .bool (.leaf 0))))]⟩)]⟩ .no))) (.two (.two .no (.cut ⟨⟨[],[],[]⟩,[(.norm,⟨[2,4],[],[.s 1 (.dat (.leaf 0))]⟩)]⟩ .no)) .no))) Tryz.func56 (fun _ _=>by kernel_rfl) rfl fun v vals x z ha hz=>(over_i x.1 x.2).trans (Zgt hz)
end Go.Eng
set_option maxRecDepth 100000
set_option maxHeartbeats 4000000
namespace Go.Eng
open Go.Proofs Go.RowKit
noncomputable def Z8b:FuncId×Con:=(103,⟨[.bool,.leaf 0],[.leaf 2],fun p=>Zeb p.1 p.2⟩)
theorem whole_i (s:Bool) (n:Nat):Zm ⟨Tryz.prog,[(39,0),(41,2),(43,3)],[],[],[],[],[],[]⟩ [] Tryz.f103 (.two .no (.two (.cut ⟨⟨[],[],[]⟩,[(.norm,⟨[4],[],[.l (.sl 4) (.box 41 (.dat (.pair .bool (.leaf 0))))]⟩)]⟩ .no) .no)) [.bool,.leaf 0] [.leaf 2] (s,n)=ZVl s n:=by kernel_rfl
theorem Z7g:Zk Tryz.prog Z8b.1 Z8b.2:=Zp (C:=⟨Tryz.prog,[(39,0),(41,2),(43,3)],[],[],[],[],[],[]⟩) trivial trivial trivial trivial (inl:=[]) trivial (ann:=.two .no (.two (.cut ⟨⟨[],[],[]⟩,[(.norm,⟨[4],[],[.l (.sl 4) (.box 41 (.dat (.pair .bool (.leaf 0))))]⟩)]⟩ .no) .no)) Tryz.func103 (fun _ _=>by kernel_rfl) rfl fun v vals x z ha hz=>(whole_i x.1 x.2).trans (Z9t hz)
end Go.Eng
set_option maxRecDepth 100000
set_option maxHeartbeats 4000000
namespace Go.Eng
open Go.Proofs Go.RowKit
noncomputable def ZZk:FuncId×Con:=(89,⟨[.int .i64,.int .i64],[.leaf 3,.int .i64],fun p=>ZLh p.1 p.2⟩)
theorem qnew_i (n:Int) (d:Int):Zm ⟨Tryz.prog,[(39,0),(41,2),(43,3)],[Zud,Z8b,of_q],[],[],[],[],[]⟩ [] Tryz.f89 .no [.int .i64,.int .i64] [.leaf 3,.int .i64] (n,d)=Zpm n d:=by kernel_rfl
theorem qnew_k:Zk Tryz.prog ZZk.1 ZZk.2:=Zp (C:=⟨Tryz.prog,[(39,0),(41,2),(43,3)],[Zud,Z8b,of_q],[],[],[],[],[]⟩) ⟨Zxj,Z7g,of_k,trivial⟩ trivial trivial trivial (inl:=[]) trivial (ann:=.no) Tryz.func89 (fun _ _=>by kernel_rfl) rfl fun v vals x z ha hz=>by obtain ⟨c0,w0,e0,p0,c1,e1,p1⟩:=ha;exact (qnew_i x.1 x.2).trans (Z6u p0.2 p1.2 hz)
end Go.Eng
set_option maxRecDepth 100000
set_option maxHeartbeats 4000000
namespace Go.Eng
open Go.Proofs Go.RowKit
noncomputable def Zmk:FuncId×Con:=(40,⟨[.pair (.int .i64) (.int .i64)],[.leaf 3],fun p=>ZOh p⟩)
theorem Z8s (r:(Int×Int)):Zm ⟨Tryz.prog,[(39,0),(41,2),(43,3)],[Z0g,ZZk],[],[],[],[],[]⟩ [] Tryz.f40 .no [.pair (.int .i64) (.int .i64)] [.leaf 3] (r)=Zwn r:=by kernel_rfl
theorem ZXu:Zk Tryz.prog Zmk.1 Zmk.2:=Zp (C:=⟨Tryz.prog,[(39,0),(41,2),(43,3)],[Z0g,ZZk],[],[],[],[],[]⟩) ⟨Zip,qnew_k,trivial⟩ trivial trivial trivial (inl:=[]) trivial (ann:=.no) Tryz.func40 (fun _ _=>by kernel_rfl) rfl fun v vals x z ha hz=>(Z8s x).trans (Z2u hz)
end Go.Eng
set_option maxRecDepth 100000
set_option maxHeartbeats 4000000
namespace Go.Eng
open Go.Proofs Go.RowKit
noncomputable def Zhb:FuncId×Con:=(173,⟨[.slice (.int .u32)],[.leaf 1],fun p=>Z1a p⟩)
theorem rcut_i (a:(List Int)):Zm ⟨Tryz.prog,[],[],[],[],[],[],[]⟩ [] Tryz.f173 (.two .no (.two .no (.two (.cut ⟨⟨[],[],[]⟩,[(.norm,⟨[0],[],[.s 3 (.dat (.int .i64))]⟩)]⟩ (.two (.cut ⟨⟨[0],[],[.s 3 (.dat (.int .i64))]⟩,[(.exit 0,⟨[0],[],[.s 3 (.dat (.int .i64))]⟩)]⟩ (.two (.two (.two (.cut ⟨⟨[],[],[]⟩,[(.norm,⟨[0,3],[],[.s 15 (.dat .bool)]⟩)]⟩ .no) .no) .no) .no)) .no)) .no))) [.slice (.int .u32)] [.slice (.int .u32)] (a)=ZTm a:=by kernel_rfl
theorem ZVe:Zk Tryz.prog Zhb.1 Zhb.2:=ZLk (C:=⟨Tryz.prog,[],[],[],[],[],[],[]⟩) trivial trivial trivial trivial (inl:=[]) trivial (ann:=.two .no (.two .no (.two (.cut ⟨⟨[],[],[]⟩,[(.norm,⟨[0],[],[.s 3 (.dat (.int .i64))]⟩)]⟩ (.two (.cut ⟨⟨[0],[],[.s 3 (.dat (.int .i64))]⟩,[(.exit 0,⟨[0],[],[.s 3 (.dat (.int .i64))]⟩)]⟩ (.two (.two (.two (.cut ⟨⟨[],[],[]⟩,[(.norm,⟨[0,3],[],[.s 15 (.dat .bool)]⟩)]⟩ .no) .no) .no) .no)) .no)) .no))) (ats:=[.slice (.int .u32)]) (rts:=[.slice (.int .u32)]) (fun x=>(x)) (fun z=>(Zc 4294967296 z)) (fun _ _ _ h=>h) (fun _ _ _ h=>h) Tryz.func173 (fun _ _=>by kernel_rfl) rfl fun v vals x z ha hz=>by obtain ⟨c0,e0,p0⟩:=ha;exact (rcut_i x).trans (by cases hz;exact (rcut_eq (ZDn p0).1 (ZDn p0).2))
end Go.Eng
set_option maxRecDepth 100000
set_option maxHeartbeats 4000000
namespace Go.Eng
open Go.Proofs Go.RowKit
noncomputable def ZDg:FuncId×Con:=(136,⟨[.int .u64],[.leaf 1],fun p=>ZZc p⟩)
theorem rnat_i (n:Int):Zm ⟨Tryz.prog,[(91,1),(93,4)],[Zhb],[],[],[],[],[]⟩ [] Tryz.f136 .no [.int .u64] [.leaf 1] (n)=Zho n:=by kernel_rfl
theorem Z6q:Zk Tryz.prog ZDg.1 ZDg.2:=Zp (C:=⟨Tryz.prog,[(91,1),(93,4)],[Zhb],[],[],[],[],[]⟩) ⟨ZVe,trivial⟩ trivial trivial trivial (inl:=[]) trivial (ann:=.no) Tryz.func136 (fun _ _=>by kernel_rfl) rfl fun v vals x z ha hz=>by obtain ⟨c0,e0,p0⟩:=ha;exact (rnat_i x).trans (ZRw p0.2 hz)
end Go.Eng
set_option maxRecDepth 100000
set_option maxHeartbeats 4000000
namespace Go.Eng
open Go.Proofs Go.RowKit
noncomputable def Zaf:FuncId×Con:=(155,⟨[.leaf 1,.leaf 1],[.int .i64],fun p=>Z8c p.1 p.2⟩)
theorem ZVs (a:Nat) (b:Nat):Zm ⟨Tryz.prog,[(91,1),(93,4)],[],[],[],[],[],[]⟩ [] Tryz.f155 (.two .no (.two .no (.two .no (.two (.two .no (.cut ⟨⟨[],[],[]⟩,[(.norm,⟨[],[],[]⟩),(.ret,⟨[],[],[.s 1000 (.dat (.int .i64))]⟩)]⟩ (.two (.cut ⟨⟨[0,1],[],[.s 5 (.dat (.int .i64))]⟩,[(.ret,⟨[],[],[.s 1000 (.dat (.int .i64))]⟩),(.exit 0,⟨[],[],[]⟩)]⟩ .no) .no))) .no)))) [.leaf 1,.leaf 1] [.int .i64] (a,b)=ZQn a b:=by kernel_rfl
theorem Zsm:Zk Tryz.prog Zaf.1 Zaf.2:=Zp (C:=⟨Tryz.prog,[(91,1),(93,4)],[],[],[],[],[],[]⟩) trivial trivial trivial trivial (inl:=[]) trivial (ann:=.two .no (.two .no (.two .no (.two (.two .no (.cut ⟨⟨[],[],[]⟩,[(.norm,⟨[],[],[]⟩),(.ret,⟨[],[],[.s 1000 (.dat (.int .i64))]⟩)]⟩ (.two (.cut ⟨⟨[0,1],[],[.s 5 (.dat (.int .i64))]⟩,[(.ret,⟨[],[],[.s 1000 (.dat (.int .i64))]⟩),(.exit 0,⟨[],[],[]⟩)]⟩ .no) .no))) .no)))) Tryz.func155 (fun _ _=>by kernel_rfl) rfl fun v vals x z ha hz=>by obtain ⟨c0,w0,e0,p0,c1,e1,p1⟩:=ha;exact (ZVs x.1 x.2).trans ((ZLt (ZRq p0) (ZRq p1)).trans hz)
end Go.Eng
set_option maxRecDepth 100000
set_option maxHeartbeats 4000000
namespace Go.Eng
open Go.Proofs Go.RowKit
noncomputable def ZRg:FuncId×Con:=(181,⟨[.leaf 1,.int .u32],[.leaf 1,.int .u32],fun p=>Z7e p.1 p.2⟩)
theorem Zct (a:Nat) (b:Int):Zm ⟨Tryz.prog,[(91,1),(93,4)],[Zhb],[],[],[],[],[]⟩ [] Tryz.f181 (.two .no (.two .no (.two .no (.two (.two .no (.cut ⟨⟨[],[],[]⟩,[(.norm,⟨[],[],[.s 6 (.own 185 (.int .u32)),.s 7 (.dat (.int .u64))]⟩)]⟩ (.two (.cut ⟨⟨[0,1],[],[.s 6 (.own 185 (.int .u32)),.s 7 (.dat (.int .u64)),.s 8 (.dat (.int .i64))]⟩,[(.exit 0,⟨[],[],[.s 6 (.own 185 (.int .u32)),.s 7 (.dat (.int .u64))]⟩)]⟩ .no) .no))) .no)))) [.leaf 1,.int .u32] [.leaf 1,.int .u32] (a,b)=ZUi a b:=by kernel_rfl
theorem ZSq:Zk Tryz.prog ZRg.1 ZRg.2:=Zp (C:=⟨Tryz.prog,[(91,1),(93,4)],[Zhb],[],[],[],[],[]⟩) ⟨ZVe,trivial⟩ trivial trivial trivial (inl:=[]) trivial (ann:=.two .no (.two .no (.two .no (.two (.two .no (.cut ⟨⟨[],[],[]⟩,[(.norm,⟨[],[],[.s 6 (.own 185 (.int .u32)),.s 7 (.dat (.int .u64))]⟩)]⟩ (.two (.cut ⟨⟨[0,1],[],[.s 6 (.own 185 (.int .u32)),.s 7 (.dat (.int .u64)),.s 8 (.dat (.int .i64))]⟩,[(.exit 0,⟨[],[],[.s 6 (.own 185 (.int .u32)),.s 7 (.dat (.int .u64))]⟩)]⟩ .no) .no))) .no)))) Tryz.func181 (fun _ _=>by kernel_rfl) rfl fun v vals x z ha hz=>by obtain ⟨c0,w0,e0,p0,c1,e1,p1⟩:=ha;exact (Zct x.1 x.2).trans (ZHu p1.2 hz)
end Go.Eng
set_option maxRecDepth 100000
set_option maxHeartbeats 4000000
namespace Go.Eng
open Go.Proofs Go.RowKit
noncomputable def Zil:FuncId×Con:=(186,⟨[.leaf 1],[.int .i64],fun p=>ZIg p⟩)
theorem rbits_i (a:Nat):Zm ⟨Tryz.prog,[(91,1),(93,4)],[],[],[],[],[],[]⟩ [] Tryz.f186 (.two .no (.two .no (.two .no (.two (.two .no (.cut ⟨⟨[],[],[]⟩,[(.norm,⟨[],[],[.s 3 (.dat (.int .i64))]⟩)]⟩ (.two (.cut ⟨⟨[],[],[.s 3 (.dat (.int .i64)),.s 4 (.dat (.int .u32))]⟩,[(.exit 0,⟨[],[],[.s 3 (.dat (.int .i64))]⟩)]⟩ .no) .no))) .no)))) [.leaf 1] [.int .i64] (a)=Zfj a:=by kernel_rfl
theorem rbits_k:Zk Tryz.prog Zil.1 Zil.2:=Zp (C:=⟨Tryz.prog,[(91,1),(93,4)],[],[],[],[],[],[]⟩) trivial trivial trivial trivial (inl:=[]) trivial (ann:=.two .no (.two .no (.two .no (.two (.two .no (.cut ⟨⟨[],[],[]⟩,[(.norm,⟨[],[],[.s 3 (.dat (.int .i64))]⟩)]⟩ (.two (.cut ⟨⟨[],[],[.s 3 (.dat (.int .i64)),.s 4 (.dat (.int .u32))]⟩,[(.exit 0,⟨[],[],[.s 3 (.dat (.int .i64))]⟩)]⟩ .no) .no))) .no)))) Tryz.func186 (fun _ _=>by kernel_rfl) rfl fun v vals x z ha hz=>(rbits_i x).trans (Z9v hz)
end Go.Eng
set_option maxRecDepth 100000
set_option maxHeartbeats 4000000
namespace Go.Eng
open Go.Proofs Go.RowKit
noncomputable def ZWj:FuncId×Con:=(187,⟨[.leaf 1,.int .i64],[.leaf 1],fun p=>Zde p.1 p.2⟩)
theorem ZXv (a:Nat) (n:Int):Zm ⟨Tryz.prog,[(91,1),(93,4)],[Zhb],[],[],[],[],[]⟩ [] Tryz.f187 (.two .no (.two .no (.two .no (.two .no (.two (.two .no (.cut ⟨⟨[],[],[]⟩,[(.norm,⟨[],[],[.s 5 (.own 185 (.int .u32)),.s 6 (.dat (.int .u64))]⟩)]⟩ (.two (.cut ⟨⟨[0,1],[],[.s 5 (.own 185 (.int .u32)),.s 6 (.dat (.int .u64)),.s 7 (.dat (.int .i64))]⟩,[(.exit 0,⟨[],[],[.s 5 (.own 185 (.int .u32)),.s 6 (.dat (.int .u64))]⟩)]⟩ .no) .no))) .no))))) [.leaf 1,.int .i64] [.leaf 1] (a,n)=Zzj a n:=by kernel_rfl
theorem Zvs:Zk Tryz.prog ZWj.1 ZWj.2:=Zp (C:=⟨Tryz.prog,[(91,1),(93,4)],[Zhb],[],[],[],[],[]⟩) ⟨ZVe,trivial⟩ trivial trivial trivial (inl:=[]) trivial (ann:=.two .no (.two .no (.two .no (.two .no (.two (.two .no (.cut ⟨⟨[],[],[]⟩,[(.norm,⟨[],[],[.s 5 (.own 185 (.int .u32)),.s 6 (.dat (.int .u64))]⟩)]⟩ (.two (.cut ⟨⟨[0,1],[],[.s 5 (.own 185 (.int .u32)),.s 6 (.dat (.int .u64)),.s 7 (.dat (.int .i64))]⟩,[(.exit 0,⟨[],[],[.s 5 (.own 185 (.int .u32)),.s 6 (.dat (.int .u64))]⟩)]⟩ .no) .no))) .no))))) Tryz.func187 (fun _ _=>by kernel_rfl) rfl fun v vals x z ha hz=>(ZXv x.1 x.2).trans (Zts hz)
end Go.Eng
set_option maxRecDepth 100000
set_option maxHeartbeats 4000000
namespace Go.Eng
open Go.Proofs Go.RowKit
noncomputable def Zng:FuncId×Con:=(188,⟨[.leaf 1,.leaf 1],[.leaf 1],fun p=>Ztb p.1 p.2⟩)
theorem rprod_i (a:Nat) (b:Nat):Zm ⟨Tryz.prog,[(91,1),(93,4)],[Zhb],[],[],[],[],[]⟩ [] Tryz.f188 (.two .no (.two .no (.two (.two .no (.cut ⟨⟨[],[],[]⟩,[(.norm,⟨[],[],[.s 5 (.own 185 (.int .u32))]⟩)]⟩ (.two (.cut ⟨⟨[0,1],[],[.s 5 (.own 185 (.int .u32)),.s 6 (.dat (.int .i64))]⟩,[(.exit 0,⟨[],[],[.s 5 (.own 185 (.int .u32))]⟩)]⟩ (.two (.two .no (.two (.two (.two .no (.two (.two .no (.cut ⟨⟨[],[],[]⟩,[(.norm,⟨[0,1,6],[],[.s 5 (.own 185 (.int .u32)),.s 7 (.dat (.int .u64))]⟩)]⟩ (.two (.cut ⟨⟨[0,1,6],[],[.s 5 (.own 185 (.int .u32)),.s 7 (.dat (.int .u64)),.s 8 (.dat (.int .i64))]⟩,[(.exit 2,⟨[0,1,6],[],[.s 5 (.own 185 (.int .u32)),.s 7 (.dat (.int .u64))]⟩)]⟩ .no) .no))) .no)) .no) .no)) .no)) .no))) .no))) [.leaf 1,.leaf 1] [.leaf 1] (a,b)=ZPl a b:=by kernel_rfl
theorem ZRr:Zk Tryz.prog Zng.1 Zng.2:=Zp (C:=⟨Tryz.prog,[(91,1),(93,4)],[Zhb],[],[],[],[],[]⟩) ⟨ZVe,trivial⟩ trivial trivial trivial (inl:=[]) trivial (ann:=.two .no (.two .no (.two (.two .no (.cut ⟨⟨[],[],[]⟩,[(.norm,⟨[],[],[.s 5 (.own 185 (.int .u32))]⟩)]⟩ (.two (.cut ⟨⟨[0,1],[],[.s 5 (.own 185 (.int .u32)),.s 6 (.dat (.int .i64))]⟩,[(.exit 0,⟨[],[],[.s 5 (.own 185 (.int .u32))]⟩)]⟩ (.two (.two .no (.two (.two (.two .no (.two (.two .no (.cut ⟨⟨[],[],[]⟩,[(.norm,⟨[0,1,6],[],[.s 5 (.own 185 (.int .u32)),.s 7 (.dat (.int .u64))]⟩)]⟩ (.two (.cut ⟨⟨[0,1,6],[],[.s 5 (.own 185 (.int .u32)),.s 7 (.dat (.int .u64)),.s 8 (.dat (.int .i64))]⟩,[(.exit 2,⟨[0,1,6],[],[.s 5 (.own 185 (.int .u32)),.s 7 (.dat (.int .u64))]⟩)]⟩ .no) .no))) .no)) .no) .no)) .no)) .no))) .no))) Tryz.func188 (fun _ _=>by kernel_rfl) rfl fun v vals x z ha hz=>(rprod_i x.1 x.2).trans (Zat hz)
end Go.Eng
set_option maxRecDepth 100000
set_option maxHeartbeats 4000000
namespace Go.Eng
open Go.Proofs Go.RowKit
noncomputable def ZKg:FuncId×Con:=(189,⟨[.leaf 1,.leaf 1],[.leaf 1],fun p=>ZEb p.1 p.2⟩)
theorem rdif_i (a:Nat) (b:Nat):Zm ⟨Tryz.prog,[(91,1),(93,4)],[Zhb],[],[],[],[],[]⟩ [] Tryz.f189 (.two .no (.two .no (.two .no (.two (.two .no (.cut ⟨⟨[],[],[]⟩,[(.norm,⟨[],[],[.s 5 (.own 185 (.int .u32))]⟩)]⟩ (.two (.cut ⟨⟨[0,1],[],[.s 5 (.own 185 (.int .u32)),.s 6 (.dat (.int .i64)),.s 7 (.dat (.int .i64))]⟩,[(.exit 0,⟨[],[],[.s 5 (.own 185 (.int .u32))]⟩)]⟩ (.two (.two .no (.two (.two (.two .no (.two (.two .no (.cut ⟨⟨[],[],[]⟩,[(.norm,⟨[0,1,5,7],[],[.s 8 (.dat (.int .i64))]⟩)]⟩ .no)) (.two .no (.two (.two .no (.cut ⟨⟨[],[],[]⟩,[(.norm,⟨[0,1,5,7],[],[.s 6 (.dat (.int .i64)),.s 8 (.dat (.int .i64))]⟩)]⟩ .no)) .no)))) .no) .no)) .no)) .no))) .no)))) [.leaf 1,.leaf 1] [.leaf 1] (a,b)=ZDj a b:=by kernel_rfl
theorem ZQq:Zk Tryz.prog ZKg.1 ZKg.2:=Zp (C:=⟨Tryz.prog,[(91,1),(93,4)],[Zhb],[],[],[],[],[]⟩) ⟨ZVe,trivial⟩ trivial trivial trivial (inl:=[]) trivial (ann:=.two .no (.two .no (.two .no (.two (.two .no (.cut ⟨⟨[],[],[]⟩,[(.norm,⟨[],[],[.s 5 (.own 185 (.int .u32))]⟩)]⟩ (.two (.cut ⟨⟨[0,1],[],[.s 5 (.own 185 (.int .u32)),.s 6 (.dat (.int .i64)),.s 7 (.dat (.int .i64))]⟩,[(.exit 0,⟨[],[],[.s 5 (.own 185 (.int .u32))]⟩)]⟩ (.two (.two .no (.two (.two (.two .no (.two (.two .no (.cut ⟨⟨[],[],[]⟩,[(.norm,⟨[0,1,5,7],[],[.s 8 (.dat (.int .i64))]⟩)]⟩ .no)) (.two .no (.two (.two .no (.cut ⟨⟨[],[],[]⟩,[(.norm,⟨[0,1,5,7],[],[.s 6 (.dat (.int .i64)),.s 8 (.dat (.int .i64))]⟩)]⟩ .no)) .no)))) .no) .no)) .no)) .no))) .no)))) Tryz.func189 (fun _ _=>by kernel_rfl) rfl fun v vals x z ha hz=>(rdif_i x.1 x.2).trans (ZBs hz)
end Go.Eng
set_option maxRecDepth 100000
set_option maxHeartbeats 4000000
namespace Go.Eng
open Go.Proofs Go.RowKit
noncomputable def ZSj:FuncId×Con:=(190,⟨[.leaf 1,.int .i64],[.leaf 1],fun p=>ZXg p.1 p.2⟩)
theorem ZCs (a:Nat) (n:Int):Zm ⟨Tryz.prog,[(91,1),(93,4)],[Zhb],[],[],[],[],[]⟩ [] Tryz.f190 (.two .no (.two .no (.two (.two .no (.cut ⟨⟨[],[],[]⟩,[(.norm,⟨[],[],[.s 5 (.own 185 (.int .u32))]⟩)]⟩ (.two (.cut ⟨⟨[0,1],[],[.s 5 (.own 185 (.int .u32)),.s 6 (.dat (.int .i64))]⟩,[(.exit 0,⟨[],[],[.s 5 (.own 185 (.int .u32))]⟩)]⟩ (.two (.two .no (.two (.two (.two .no (.two (.two .no (.cut ⟨⟨[],[],[]⟩,[(.norm,⟨[0,1,5,6],[],[.s 7 (.dat (.int .u64))]⟩)]⟩ .no)) .no)) .no) .no)) .no)) .no))) .no))) [.leaf 1,.int .i64] [.leaf 1] (a,n)=ZCj a n:=by kernel_rfl
theorem ZZt:Zk Tryz.prog ZSj.1 ZSj.2:=Zp (C:=⟨Tryz.prog,[(91,1),(93,4)],[Zhb],[],[],[],[],[]⟩) ⟨ZVe,trivial⟩ trivial trivial trivial (inl:=[]) trivial (ann:=.two .no (.two .no (.two (.two .no (.cut ⟨⟨[],[],[]⟩,[(.norm,⟨[],[],[.s 5 (.own 185 (.int .u32))]⟩)]⟩ (.two (.cut ⟨⟨[0,1],[],[.s 5 (.own 185 (.int .u32)),.s 6 (.dat (.int .i64))]⟩,[(.exit 0,⟨[],[],[.s 5 (.own 185 (.int .u32))]⟩)]⟩ (.two (.two .no (.two (.two (.two .no (.two (.two .no (.cut ⟨⟨[],[],[]⟩,[(.norm,⟨[0,1,5,6],[],[.s 7 (.dat (.int .u64))]⟩)]⟩ .no)) .no)) .no) .no)) .no)) .no))) .no))) Tryz.func190 (fun _ _=>by kernel_rfl) rfl fun v vals x z ha hz=>by obtain ⟨c0,w0,e0,p0,c1,e1,p1⟩:=ha;exact (ZCs x.1 x.2).trans (Zau p1.2 hz)
end Go.Eng
set_option maxRecDepth 100000
set_option maxHeartbeats 4000000
namespace Go.Eng
open Go.Proofs Go.RowKit
noncomputable def Zch:FuncId×Con:=(172,⟨[.leaf 1,.leaf 1],[.leaf 1,.leaf 1],fun p=>Zuc p.1 p.2⟩)
theorem rquot_i (a:Nat) (b:Nat):Zm ⟨Tryz.prog,[(91,1),(93,4)],[ZDg,Zaf,Zhb,ZRg,Zil,ZWj,Zng,ZKg,ZSj],[],[],[],[],[]⟩ [] Tryz.f172 (.two .no (.two .no (.two .no (.two .no (.two .no (.two .no (.two .no (.two (.two .no (.cut ⟨⟨[],[],[]⟩,[(.norm,⟨[8],[],[.s 10 (.dat (.leaf 1)),.s 12 (.own 185 (.int .u32))]⟩)]⟩ (.two (.cut ⟨⟨[8,9,11],[],[.s 10 (.dat (.leaf 1)),.s 12 (.own 185 (.int .u32)),.s 13 (.dat (.int .i64))]⟩,[(.exit 0,⟨[8],[],[.s 10 (.dat (.leaf 1)),.s 12 (.own 185 (.int .u32))]⟩)]⟩ (.two (.two .no (.two (.cut ⟨⟨[],[],[]⟩,[(.norm,⟨[8,9,11,13],[],[.s 10 (.dat (.leaf 1)),.s 12 (.own 185 (.int .u32))]⟩)]⟩ (.two (.two .no (.two (.two .no (.cut ⟨⟨[],[],[]⟩,[(.norm,⟨[8,9,10,11,12,13],[],[.s 14 (.dat (.slice (.int .u32)))]⟩)]⟩ .no)) (.two .no (.two .no (.two (.two .no (.cut ⟨⟨[],[],[]⟩,[(.norm,⟨[8,9,10,11,12,13,14],[],[.s 15 (.dat (.int .u64))]⟩)]⟩ .no)) (.two .no (.two (.two .no (.cut ⟨⟨[],[],[]⟩,[(.norm,⟨[8,9,10,11,12,13,14],[],[.s 16 (.dat (.int .u64))]⟩)]⟩ .no)) (.two .no (.two (.cut ⟨⟨[],[],[]⟩,[(.norm,⟨[8,9,10,11,12,13,14],[],[.s 16 (.dat (.int .u64)),.s 17 (.dat (.leaf 1))]⟩)]⟩ (.two (.cut ⟨⟨[8,9,10,11,12,13,14],[],[.s 16 (.dat (.int .u64)),.s 17 (.dat (.leaf 1))]⟩,[(.exit 2,⟨[8,9,10,11,12,13,14],[],[.s 16 (.dat (.int .u64)),.s 17 (.dat (.leaf 1))]⟩)]⟩ .no) .no)) .no))))))))) .no)) .no)) .no)) .no))) .no)))))))) [.leaf 1,.leaf 1] [.leaf 1,.leaf 1] (a,b)=Zsk a b:=by kernel_rfl
theorem Z6p:Zk Tryz.prog Zch.1 Zch.2:=Zp (C:=⟨Tryz.prog,[(91,1),(93,4)],[ZDg,Zaf,Zhb,ZRg,Zil,ZWj,Zng,ZKg,ZSj],[],[],[],[],[]⟩) ⟨Z6q,Zsm,ZVe,ZSq,rbits_k,Zvs,ZRr,ZQq,ZZt,trivial⟩ trivial trivial trivial (inl:=[]) trivial (ann:=.two .no (.two .no (.two .no (.two .no (.two .no (.two .no (.two .no (.two (.two .no (.cut ⟨⟨[],[],[]⟩,[(.norm,⟨[8],[],[.s 10 (.dat (.leaf 1)),.s 12 (.own 185 (.int .u32))]⟩)]⟩ (.two (.cut ⟨⟨[8,9,11],[],[.s 10 (.dat (.leaf 1)),.s 12 (.own 185 (.int .u32)),.s 13 (.dat (.int .i64))]⟩,[(.exit 0,⟨[8],[],[.s 10 (.dat (.leaf 1)),.s 12 (.own 185 (.int .u32))]⟩)]⟩ (.two (.two .no (.two (.cut ⟨⟨[],[],[]⟩,[(.norm,⟨[8,9,11,13],[],[.s 10 (.dat (.leaf 1)),.s 12 (.own 185 (.int .u32))]⟩)]⟩ (.two (.two .no (.two (.two .no (.cut ⟨⟨[],[],[]⟩,[(.norm,⟨[8,9,10,11,12,13],[],[.s 14 (.dat (.slice (.int .u32)))]⟩)]⟩ .no)) (.two .no (.two .no (.two (.two .no (.cut ⟨⟨[],[],[]⟩,[(.norm,⟨[8,9,10,11,12,13,14],[],[.s 15 (.dat (.int .u64))]⟩)]⟩ .no)) (.two .no (.two (.two .no (.cut ⟨⟨[],[],[]⟩,[(.norm,⟨[8,9,10,11,12,13,14],[],[.s 16 (.dat (.int .u64))]⟩)]⟩ .no)) (.two .no (.two (.cut ⟨⟨[],[],[]⟩,[(.norm,⟨[8,9,10,11,12,13,14],[],[.s 16 (.dat (.int .u64)),.s 17 (.dat (.leaf 1))]⟩)]⟩ (.two (.cut ⟨⟨[8,9,10,11,12,13,14],[],[.s 16 (.dat (.int .u64)),.s 17 (.dat (.leaf 1))]⟩,[(.exit 2,⟨[8,9,10,11,12,13,14],[],[.s 16 (.dat (.int .u64)),.s 17 (.dat (.leaf 1))]⟩)]⟩ .no) .no)) .no))))))))) .no)) .no)) .no)) .no))) .no)))))))) Tryz.func172 (fun _ _=>by kernel_rfl) rfl fun v vals x z ha hz=>(rquot_i x.1 x.2).trans (Zzt hz)
end Go.Eng
set_option maxRecDepth 100000
set_option maxHeartbeats 4000000
namespace Go.Eng
open Go.Proofs Go.RowKit
noncomputable def ZJl:FuncId×Con:=(171,⟨[.leaf 1,.leaf 1],[.leaf 1],fun p=>rgcF p.1 p.2⟩)
theorem rgcd_i (a:Nat) (b:Nat):Zm ⟨Tryz.prog,[(91,1),(93,4)],[Zch],[],[],[],[],[]⟩ [] Tryz.f171 (.two .no (.two (.cut ⟨⟨[],[],[]⟩,[(.norm,⟨[],[],[.s 0 (.dat (.leaf 1))]⟩)]⟩ (.two (.cut ⟨⟨[],[],[.s 0 (.dat (.leaf 1)),.s 1 (.dat (.leaf 1))]⟩,[(.exit 0,⟨[],[],[.s 0 (.dat (.leaf 1))]⟩)]⟩ .no) .no)) .no)) [.leaf 1,.leaf 1] [.leaf 1] (a,b)=ZAl a b:=by kernel_rfl
theorem rgcd_k:Zk Tryz.prog ZJl.1 ZJl.2:=Zp (C:=⟨Tryz.prog,[(91,1),(93,4)],[Zch],[],[],[],[],[]⟩) ⟨Z6p,trivial⟩ trivial trivial trivial (inl:=[]) trivial (ann:=.two .no (.two (.cut ⟨⟨[],[],[]⟩,[(.norm,⟨[],[],[.s 0 (.dat (.leaf 1))]⟩)]⟩ (.two (.cut ⟨⟨[],[],[.s 0 (.dat (.leaf 1)),.s 1 (.dat (.leaf 1))]⟩,[(.exit 0,⟨[],[],[.s 0 (.dat (.leaf 1))]⟩)]⟩ .no) .no)) .no)) Tryz.func171 (fun _ _=>by kernel_rfl) rfl fun v vals x z ha hz=>(rgcd_i x.1 x.2).trans (rgcF_eq hz)
end Go.Eng
set_option maxRecDepth 100000
set_option maxHeartbeats 4000000
namespace Go.Eng
open Go.Proofs Go.RowKit
noncomputable def Zrd:FuncId×Con:=(135,⟨[.bool,.leaf 1,.leaf 1],[.leaf 4],fun p=>ZRb p.1 p.2.1 p.2.2⟩)
theorem rfrac_i (s:Bool) (n:Nat) (d:Nat):Zm ⟨Tryz.prog,[(91,1),(93,4)],[ZJl,Zch],[],[],[],[],[]⟩ [] Tryz.f135 .no [.bool,.leaf 1,.leaf 1] [.leaf 4] (s,n,d)=Z3l s n d:=by kernel_rfl
theorem Zwk:Zk Tryz.prog Zrd.1 Zrd.2:=Zp (C:=⟨Tryz.prog,[(91,1),(93,4)],[ZJl,Zch],[],[],[],[],[]⟩) ⟨rgcd_k,Z6p,trivial⟩ trivial trivial trivial (inl:=[]) trivial (ann:=.no) Tryz.func135 (fun _ _=>by kernel_rfl) rfl fun v vals x z ha hz=>(rfrac_i x.1 x.2.1 x.2.2).trans (ZFu hz)
end Go.Eng
set_option maxRecDepth 100000
set_option maxHeartbeats 4000000
namespace Go.Eng
open Go.Proofs Go.RowKit
noncomputable def ZEd:FuncId×Con:=(91,⟨[.int .i64],[.leaf 4],fun p=>Z6b p⟩)
theorem Ztx (n:Int):Zm ⟨Tryz.prog,[(91,1),(93,4)],[Zrd,ZDg],[],[],[],[],[]⟩ [] Tryz.f91 .no [.int .i64] [.leaf 4] (n)=ZRl n:=by kernel_rfl
theorem Zol:Zk Tryz.prog ZEd.1 ZEd.2:=Zp (C:=⟨Tryz.prog,[(91,1),(93,4)],[Zrd,ZDg],[],[],[],[],[]⟩) ⟨Zwk,Z6q,trivial⟩ trivial trivial trivial (inl:=[]) trivial (ann:=.no) Tryz.func91 (fun _ _=>by kernel_rfl) rfl fun v vals x z ha hz=>by obtain ⟨c0,e0,p0⟩:=ha;exact (Ztx x).trans (Z8v p0.2 hz)
end Go.Eng
set_option maxRecDepth 100000
set_option maxHeartbeats 4000000
namespace Go.Eng
open Go.Proofs Go.RowKit
noncomputable def Zih:FuncId×Con:=(90,⟨[.leaf 4],[.pair (.leaf 4) (.pair (.leaf 4) (.pair (.leaf 4) (.leaf 4)))],fun p=>ZGg p⟩)
theorem sReal_i (x:Rat):Zm ⟨Tryz.prog,[(39,0),(41,2),(43,3),(91,1),(93,4)],[ZEd],[],[],[],[],[]⟩ [] Tryz.f90 .no [.leaf 4] [.pair (.leaf 4) (.pair (.leaf 4) (.pair (.leaf 4) (.leaf 4)))] (x)=ZGg x:=by kernel_rfl
theorem Z5p:Zk Tryz.prog Zih.1 Zih.2:=Zp (C:=⟨Tryz.prog,[(39,0),(41,2),(43,3),(91,1),(93,4)],[ZEd],[],[],[],[],[]⟩) ⟨Zol,trivial⟩ trivial trivial trivial (inl:=[]) trivial (ann:=.no) Tryz.func90 (fun _ _=>by kernel_rfl) rfl (fun v vals x z ha hz=>(sReal_i x).trans hz)
end Go.Eng
set_option maxRecDepth 100000
set_option maxHeartbeats 4000000
namespace Go.Eng
open Go.Proofs Go.RowKit
noncomputable def Z8f:FuncId×Con:=(41,⟨[.leaf 4],[.pair (.pair (.leaf 4) (.pair (.leaf 4) (.pair (.leaf 4) (.leaf 4)))) (.pair (.leaf 4) (.pair (.leaf 4) (.pair (.leaf 4) (.leaf 4))))],fun p=>Z6g p⟩)
theorem wReal_i (x:Rat):Zm ⟨Tryz.prog,[(39,0),(41,2),(43,3),(91,1),(93,4)],[Zih,ZEd],[],[],[],[],[]⟩ [] Tryz.f41 .no [.leaf 4] [.pair (.pair (.leaf 4) (.pair (.leaf 4) (.pair (.leaf 4) (.leaf 4)))) (.pair (.leaf 4) (.pair (.leaf 4) (.pair (.leaf 4) (.leaf 4))))] (x)=Z6g x:=by kernel_rfl
theorem ZWr:Zk Tryz.prog Z8f.1 Z8f.2:=Zp (C:=⟨Tryz.prog,[(39,0),(41,2),(43,3),(91,1),(93,4)],[Zih,ZEd],[],[],[],[],[]⟩) ⟨Z5p,Zol,trivial⟩ trivial trivial trivial (inl:=[]) trivial (ann:=.no) Tryz.func41 (fun _ _=>by kernel_rfl) rfl (fun v vals x z ha hz=>(wReal_i x).trans hz)
end Go.Eng
set_option maxRecDepth 100000
set_option maxHeartbeats 4000000
namespace Go.Eng
open Go.Proofs Go.RowKit
noncomputable def ZQj:FuncId×Con:=(92,⟨[.int .i64,.int .i64],[.leaf 4,.int .i64],fun p=>Zqi p.1 p.2⟩)
theorem rnew_i (n:Int) (d:Int):Zm ⟨Tryz.prog,[(91,1),(93,4)],[ZEd,Zrd],[],[],[],[],[]⟩ [] Tryz.f92 .no [.int .i64,.int .i64] [.leaf 4,.int .i64] (n,d)=ZYn n d:=by kernel_rfl
theorem rnew_k:Zk Tryz.prog ZQj.1 ZQj.2:=Zp (C:=⟨Tryz.prog,[(91,1),(93,4)],[ZEd,Zrd],[],[],[],[],[]⟩) ⟨Zol,Zwk,trivial⟩ trivial trivial trivial (inl:=[]) trivial (ann:=.no) Tryz.func92 (fun _ _=>by kernel_rfl) rfl fun v vals x z ha hz=>by obtain ⟨c0,w0,e0,p0,c1,e1,p1⟩:=ha;exact (rnew_i x.1 x.2).trans (Zvu p0.2 p1.2 hz)
end Go.Eng
set_option maxRecDepth 100000
set_option maxHeartbeats 4000000
namespace Go.Eng
open Go.Proofs Go.RowKit
noncomputable def ZWg:FuncId×Con:=(42,⟨[.pair (.int .i64) (.int .i64)],[.leaf 4],fun p=>rofF p⟩)
theorem rof_i (r:(Int×Int)):Zm ⟨Tryz.prog,[(91,1),(93,4)],[ZEd,ZQj],[],[],[],[],[]⟩ [] Tryz.f42 .no [.pair (.int .i64) (.int .i64)] [.leaf 4] (r)=rof_m r:=by kernel_rfl
theorem rof_k:Zk Tryz.prog ZWg.1 ZWg.2:=Zp (C:=⟨Tryz.prog,[(91,1),(93,4)],[ZEd,ZQj],[],[],[],[],[]⟩) ⟨Zol,rnew_k,trivial⟩ trivial trivial trivial (inl:=[]) trivial (ann:=.no) Tryz.func42 (fun _ _=>by kernel_rfl) rfl fun v vals x z ha hz=>(rof_i x).trans (rofF_eq hz)
end Go.Eng
set_option maxRecDepth 100000
set_option maxHeartbeats 4000000
namespace Go.Eng
open Go.Proofs Go.RowKit
noncomputable def Zlf:FuncId×Con:=(10,⟨[.slice (.pair (.int .i64) (.int .i64))],[.slice (.leaf 3),.slice (.pair (.pair (.leaf 4) (.pair (.leaf 4) (.pair (.leaf 4) (.leaf 4)))) (.pair (.leaf 4) (.pair (.leaf 4) (.pair (.leaf 4) (.leaf 4)))))],fun p=>ZDe p⟩)
theorem list2_i (l:List (Int×Int)):Zm ⟨Tryz.prog,[(39,0),(41,2),(43,3),(91,1),(93,4)],[Zmk,Z8f,ZWg],[],[],[],[],[]⟩ [] Tryz.f10 (.two .no (.two .no (.two .no (.two (.two .no (.two (.cut ⟨⟨[8,9],[],[.s 4 (.own 43 (.leaf 3)),.s 5 (.own 97 (.pair (.pair (.leaf 4) (.pair (.leaf 4) (.pair (.leaf 4) (.leaf 4)))) (.pair (.leaf 4) (.pair (.leaf 4) (.pair (.leaf 4) (.leaf 4)))))),.s 10 (.dat (.int .i64))]⟩,[(.exit 0,⟨[],[],[.s 4 (.own 43 (.leaf 3)),.s 5 (.own 97 (.pair (.pair (.leaf 4) (.pair (.leaf 4) (.pair (.leaf 4) (.leaf 4)))) (.pair (.leaf 4) (.pair (.leaf 4) (.pair (.leaf 4) (.leaf 4))))))]⟩)]⟩ .no) .no)) .no)))) [.slice (.pair (.int .i64) (.int .i64))] [.slice (.leaf 3),.slice (.pair (.pair (.leaf 4) (.pair (.leaf 4) (.pair (.leaf 4) (.leaf 4)))) (.pair (.leaf 4) (.pair (.leaf 4) (.pair (.leaf 4) (.leaf 4)))))] (l)=ZDe l:=by kernel_rfl
theorem Zmn:Zk Tryz.prog Zlf.1 Zlf.2:=Zp (C:=⟨Tryz.prog,[(39,0),(41,2),(43,3),(91,1),(93,4)],[Zmk,Z8f,ZWg],[],[],[],[],[]⟩) ⟨ZXu,ZWr,rof_k,trivial⟩ trivial trivial trivial (inl:=[]) trivial (ann:=(.two .no (.two .no (.two .no (.two (.two .no (.two (.cut ⟨⟨[8,9],[],[.s 4 (.own 43 (.leaf 3)),.s 5 (.own 97 (.pair (.pair (.leaf 4) (.pair (.leaf 4) (.pair (.leaf 4) (.leaf 4)))) (.pair (.leaf 4) (.pair (.leaf 4) (.pair (.leaf 4) (.leaf 4)))))),.s 10 (.dat (.int .i64))]⟩,[(.exit 0,⟨[],[],[.s 4 (.own 43 (.leaf 3)),.s 5 (.own 97 (.pair (.pair (.leaf 4) (.pair (.leaf 4) (.pair (.leaf 4) (.leaf 4)))) (.pair (.leaf 4) (.pair (.leaf 4) (.pair (.leaf 4) (.leaf 4))))))]⟩)]⟩ .no) .no)) .no))))) Tryz.func10 (fun _ _=>by kernel_rfl) rfl (fun v vals x z ha hz=>(list2_i x).trans hz)
end Go.Eng
set_option maxRecDepth 100000
set_option maxHeartbeats 4000000
namespace Go.Eng
open Go.Proofs Go.RowKit
noncomputable def Z8e:FuncId×Con:=(9,⟨[.slice (.slice (.pair (.int .i64) (.int .i64)))],[.slice (.slice (.leaf 3)),.slice (.slice (.pair (.pair (.leaf 4) (.pair (.leaf 4) (.pair (.leaf 4) (.leaf 4)))) (.pair (.leaf 4) (.pair (.leaf 4) (.pair (.leaf 4) (.leaf 4))))))],fun p=>Zve p⟩)
theorem rows2_i (m:List (List (Int×Int))):Zm ⟨Tryz.prog,[(39,0),(41,2),(43,3),(91,1),(93,4)],[Zlf],[],[],[],[],[]⟩ [] Tryz.f9 (.two .no (.two .no (.two (.two .no (.two (.cut ⟨⟨[0,4,5,14],[],[.s 15 (.dat (.int .i64)),.l (.sl 4) (.own 30 (.slice (.leaf 3))),.l (.sl 5) (.own 31 (.slice (.pair (.pair (.leaf 4) (.pair (.leaf 4) (.pair (.leaf 4) (.leaf 4)))) (.pair (.leaf 4) (.pair (.leaf 4) (.pair (.leaf 4) (.leaf 4)))))))]⟩,[(.exit 0,⟨[4,5],[],[.l (.sl 4) (.own 30 (.slice (.leaf 3))),.l (.sl 5) (.own 31 (.slice (.pair (.pair (.leaf 4) (.pair (.leaf 4) (.pair (.leaf 4) (.leaf 4)))) (.pair (.leaf 4) (.pair (.leaf 4) (.pair (.leaf 4) (.leaf 4)))))))]⟩)]⟩ .no) .no)) .no))) [.slice (.slice (.pair (.int .i64) (.int .i64)))] [.slice (.slice (.leaf 3)),.slice (.slice (.pair (.pair (.leaf 4) (.pair (.leaf 4) (.pair (.leaf 4) (.leaf 4)))) (.pair (.leaf 4) (.pair (.leaf 4) (.pair (.leaf 4) (.leaf 4))))))] (m)=Zve m:=by kernel_rfl
theorem Zum:Zk Tryz.prog Z8e.1 Z8e.2:=Zp (C:=⟨Tryz.prog,[(39,0),(41,2),(43,3),(91,1),(93,4)],[Zlf],[],[],[],[],[]⟩) ⟨Zmn,trivial⟩ trivial trivial trivial (inl:=[]) trivial (ann:=(.two .no (.two .no (.two (.two .no (.two (.cut ⟨⟨[0,4,5,14],[],[.s 15 (.dat (.int .i64)),.l (.sl 4) (.own 30 (.slice (.leaf 3))),.l (.sl 5) (.own 31 (.slice (.pair (.pair (.leaf 4) (.pair (.leaf 4) (.pair (.leaf 4) (.leaf 4)))) (.pair (.leaf 4) (.pair (.leaf 4) (.pair (.leaf 4) (.leaf 4)))))))]⟩,[(.exit 0,⟨[4,5],[],[.l (.sl 4) (.own 30 (.slice (.leaf 3))),.l (.sl 5) (.own 31 (.slice (.pair (.pair (.leaf 4) (.pair (.leaf 4) (.pair (.leaf 4) (.leaf 4)))) (.pair (.leaf 4) (.pair (.leaf 4) (.pair (.leaf 4) (.leaf 4)))))))]⟩)]⟩ .no) .no)) .no)))) Tryz.func9 (fun _ _=>by kernel_rfl) rfl (fun v vals x z ha hz=>(rows2_i x).trans hz)
end Go.Eng
set_option maxRecDepth 100000
set_option maxHeartbeats 4000000
namespace Go.Eng
open Go.Proofs Go.RowKit
noncomputable def Zed:FuncId×Con:=(47,⟨[.slice (.slice (.leaf 3))],[.int .i64],fun p=>Zvd p⟩)
theorem Zix (m:List (List Rat)):Zm ⟨Tryz.prog,[(39,0),(41,2),(43,3),(91,1),(93,4)],[],[],[],[],[],[]⟩ [] Tryz.f47 .no [.slice (.slice (.leaf 3))] [.int .i64] (m)=Zvd m:=by kernel_rfl
theorem Zgl:Zk Tryz.prog Zed.1 Zed.2:=Zp (C:=⟨Tryz.prog,[(39,0),(41,2),(43,3),(91,1),(93,4)],[],[],[],[],[],[]⟩) trivial trivial trivial trivial (inl:=[]) trivial (ann:=.no) Tryz.func47 (fun _ _=>by kernel_rfl) rfl (fun v vals x z ha hz=>(Zix x).trans hz)
end Go.Eng
set_option maxRecDepth 100000
set_option maxHeartbeats 4000000
namespace Go.Eng
open Go.Proofs Go.RowKit
noncomputable def Zfd:FuncId×Con:=(43,⟨[.slice (.slice (.leaf 3))],[.bool],fun p=>ZXe p⟩)
theorem Z0v (m:List (List Rat)):Zm ⟨Tryz.prog,[(39,0),(41,2),(43,3),(91,1),(93,4)],[Zed],[],[],[],[],[]⟩ [(93,Tryz.f93,.no),(94,Tryz.f94,.no),(137,Tryz.f137,.cut ⟨⟨[],[],[]⟩,[(.ret,⟨[],[],[.s 1000 (.dat (.int .i64))]⟩)]⟩ (.two .no (.two (.two .no (.two (.cut ⟨⟨[0,1,7],[],[.s 8 (.dat (.int .i64))]⟩,[(.exit 0,⟨[],[],[]⟩),(.ret,⟨[],[],[.s 1000 (.dat (.int .i64))]⟩)]⟩ .no) .no)) .no)))] Tryz.f43 (.two .no (.two .no (.two (.cut ⟨⟨[],[],[]⟩,[(.norm,⟨[],[],[.s 2 (.dat .bool)]⟩)]⟩ .no) .no))) [.slice (.slice (.leaf 3))] [.bool] (m)=ZXe m:=by kernel_rfl
theorem Znj:Zk Tryz.prog Zfd.1 Zfd.2:=Zp (C:=⟨Tryz.prog,[(39,0),(41,2),(43,3),(91,1),(93,4)],[Zed],[],[],[],[],[]⟩) ⟨Zgl,trivial⟩ trivial trivial trivial (inl:=[(93,Tryz.f93,.no),(94,Tryz.f94,.no),(137,Tryz.f137,.cut ⟨⟨[],[],[]⟩,[(.ret,⟨[],[],[.s 1000 (.dat (.int .i64))]⟩)]⟩ (.two .no (.two (.two .no (.two (.cut ⟨⟨[0,1,7],[],[.s 8 (.dat (.int .i64))]⟩,[(.exit 0,⟨[],[],[]⟩),(.ret,⟨[],[],[.s 1000 (.dat (.int .i64))]⟩)]⟩ .no) .no)) .no)))]) ⟨⟨Tryz.func93,fun _ _=>by kernel_rfl⟩,⟨Tryz.func94,fun _ _=>by kernel_rfl⟩,⟨Tryz.func137,fun _ _=>by kernel_rfl⟩,trivial⟩ (ann:=(.two .no (.two .no (.two (.cut ⟨⟨[],[],[]⟩,[(.norm,⟨[],[],[.s 2 (.dat .bool)]⟩)]⟩ .no) .no)))) Tryz.func43 (fun _ _=>by kernel_rfl) rfl (fun v vals x z ha hz=>(Z0v x).trans hz)
end Go.Eng
set_option maxRecDepth 100000
set_option maxHeartbeats 4000000
namespace Go.Eng
open Go.Proofs Go.RowKit
noncomputable def Znd:FuncId×Con:=(22,⟨[.leaf 3],[.bool],fun p=>Zrc p⟩)
theorem qzero_i (x:Rat):Zm ⟨Tryz.prog,[(39,0),(41,2),(43,3)],[],[],[],[],[],[]⟩ [] Tryz.f22 .no [.leaf 3] [.bool] (x)=ZEm x:=by kernel_rfl
theorem Z4j:Zk Tryz.prog Znd.1 Znd.2:=Zp (C:=⟨Tryz.prog,[(39,0),(41,2),(43,3)],[],[],[],[],[],[]⟩) trivial trivial trivial trivial (inl:=[]) trivial (ann:=.no) Tryz.func22 (fun _ _=>by kernel_rfl) rfl fun v vals x z ha hz=>(qzero_i x).trans (Zqu hz)
end Go.Eng
set_option maxRecDepth 100000
set_option maxHeartbeats 4000000
namespace Go.Eng
open Go.Proofs Go.RowKit
noncomputable def ZLe:FuncId×Con:=(55,⟨[.leaf 0],[.leaf 0],fun p=>ZEc p⟩)
theorem under_i (d:Nat):Zm ⟨Tryz.prog,[(39,0),(41,2),(43,3)],[Zkf],[],[],[],[],[]⟩ [] Tryz.f55 .no [.leaf 0] [.leaf 0] (d)=ZJm d:=by kernel_rfl
theorem ZUl:Zk Tryz.prog ZLe.1 ZLe.2:=Zp (C:=⟨Tryz.prog,[(39,0),(41,2),(43,3)],[Zkf],[],[],[],[],[]⟩) ⟨ZGm,trivial⟩ trivial trivial trivial (inl:=[]) trivial (ann:=.no) Tryz.func55 (fun _ _=>by kernel_rfl) rfl fun v vals x z ha hz=>(under_i x).trans (ZRt hz)
end Go.Eng
set_option maxRecDepth 100000
set_option maxHeartbeats 4000000
namespace Go.Eng
open Go.Proofs Go.RowKit
noncomputable def Zxl:FuncId×Con:=(106,⟨[.int .u64,.int .u64],[.int .u64,.int .u64],fun p=>Zgc p.1 p.2⟩)
theorem mul64_i (x:Int) (y:Int):Zm ⟨Tryz.prog,[],[],[],[],[],[],[]⟩ [] Tryz.f106 .no [.int .u64,.int .u64] [.int .u64,.int .u64] (x,y)=Zrg x y:=by kernel_rfl
theorem mul64_k:Zk Tryz.prog Zxl.1 Zxl.2:=Zp (C:=⟨Tryz.prog,[],[],[],[],[],[],[]⟩) trivial trivial trivial trivial (inl:=[]) trivial (ann:=.no) Tryz.func106 (fun _ _=>by kernel_rfl) rfl fun v vals x z ha hz=>(mul64_i x.1 x.2).trans (ZKr hz)
end Go.Eng
set_option maxRecDepth 100000
set_option maxHeartbeats 4000000
namespace Go.Eng
open Go.Proofs Go.RowKit
noncomputable def Zwg:FuncId×Con:=(107,⟨[.int .u64,.int .u64,.int .u64],[.int .u64,.int .u64],fun p=>Zrb p.1 p.2.1 p.2.2⟩)
theorem Ztq:Zk Tryz.prog Zwg.1 Zwg.2:=fun w v vals x z _ ha hz=>by
 obtain ⟨c0,w0,e0,p0,c1,w1,e1,p1,c2,e2,p2⟩:=ha
 subst e0 e1 e2
 obtain ⟨rfl,h0⟩:=p0
 obtain ⟨rfl,h1⟩:=p1
 obtain ⟨rfl,h2⟩:=p2
 have p0:(Zd .u64).rel v [.int .u64 x.1] x.1:=⟨rfl,h0⟩
 have p1:(Zd .u64).rel v [.int .u64 x.2.1] x.2.1:=⟨rfl,h1⟩
 exact .inr ⟨.tuple #[.int .u64 z.1,.int .u64 z.2],fun w=>Zjo (show ZNe Tryz.prog 107 add64Entry from ⟨_,Tryz.func107,by kernel_rfl,by kernel_rfl,by kernel_rfl,by kernel_rfl⟩) hz w,_,rfl,_,_,rfl,⟨rfl,Zmm hz⟩,_,rfl,⟨rfl,addW_hi p0.2 p1.2 hz⟩⟩
end Go.Eng
set_option maxRecDepth 100000
set_option maxHeartbeats 4000000
namespace Go.Eng
open Go.Proofs Go.RowKit
noncomputable def Zzc:FuncId×Con:=(59,⟨[.leaf 0,.leaf 0],[.leaf 0],fun p=>Zfc p.1 p.2⟩)
theorem times_i (a:Nat) (b:Nat):Zm ⟨Tryz.prog,[(39,0)],[ZPg,Zxl,Zwg,Z2e],[],[],[],[],[]⟩ [] Tryz.f59 (.two .no (.two .no (.two .no (.two .no (.two (.two .no (.cut ⟨⟨[],[],[]⟩,[(.norm,⟨[],[],[.s 5 (.own 148 (.int .u64))]⟩)]⟩ (.two (.cut ⟨⟨[1,26,27],[],[.s 5 (.own 148 (.int .u64)),.s 28 (.dat (.int .i64))]⟩,[(.exit 0,⟨[],[],[.s 5 (.own 148 (.int .u64))]⟩)]⟩ (.two (.two .no (.two .no (.two (.two (.two .no (.two .no (.two (.two .no (.cut ⟨⟨[],[],[]⟩,[(.norm,⟨[1,6,26,27,28],[],[.s 5 (.own 148 (.int .u64)),.s 8 (.dat (.int .u64))]⟩)]⟩ (.two (.cut ⟨⟨[1,6,7,26,27,28,33,34],[],[.s 5 (.own 148 (.int .u64)),.s 8 (.dat (.int .u64)),.s 35 (.dat (.int .i64))]⟩,[(.exit 2,⟨[1,6,26,27,28],[],[.s 5 (.own 148 (.int .u64)),.s 8 (.dat (.int .u64))]⟩)]⟩ .no) .no))) .no))) .no) .no))) .no)) .no))) .no))))) [.leaf 0,.leaf 0] [.leaf 0] (a,b)=ZKl a b:=by kernel_rfl
theorem Zxi:Zk Tryz.prog Zzc.1 Zzc.2:=Zp (C:=⟨Tryz.prog,[(39,0)],[ZPg,Zxl,Zwg,Z2e],[],[],[],[],[]⟩) ⟨ZZp,mul64_k,Ztq,cut_k,trivial⟩ trivial trivial trivial (inl:=[]) trivial (ann:=.two .no (.two .no (.two .no (.two .no (.two (.two .no (.cut ⟨⟨[],[],[]⟩,[(.norm,⟨[],[],[.s 5 (.own 148 (.int .u64))]⟩)]⟩ (.two (.cut ⟨⟨[1,26,27],[],[.s 5 (.own 148 (.int .u64)),.s 28 (.dat (.int .i64))]⟩,[(.exit 0,⟨[],[],[.s 5 (.own 148 (.int .u64))]⟩)]⟩ (.two (.two .no (.two .no (.two (.two (.two .no (.two .no (.two (.two .no (.cut ⟨⟨[],[],[]⟩,[(.norm,⟨[1,6,26,27,28],[],[.s 5 (.own 148 (.int .u64)),.s 8 (.dat (.int .u64))]⟩)]⟩ (.two (.cut ⟨⟨[1,6,7,26,27,28,33,34],[],[.s 5 (.own 148 (.int .u64)),.s 8 (.dat (.int .u64)),.s 35 (.dat (.int .i64))]⟩,[(.exit 2,⟨[1,6,26,27,28],[],[.s 5 (.own 148 (.int .u64)),.s 8 (.dat (.int .u64))]⟩)]⟩ .no) .no))) .no))) .no) .no))) .no)) .no))) .no))))) Tryz.func59 (fun _ _=>by kernel_rfl) rfl fun v vals x z ha hz=>(times_i x.1 x.2).trans (ZOs hz)
end Go.Eng
set_option maxRecDepth 100000
set_option maxHeartbeats 4000000
namespace Go.Eng
open Go.Proofs Go.RowKit
noncomputable def Zak:FuncId×Con:=(70,⟨[.leaf 2,.leaf 2],[.leaf 2],fun p=>Z9h p.1 p.2⟩)
theorem ZGu (x:Int) (y:Int):Zm ⟨Tryz.prog,[(39,0),(41,2),(43,3)],[Zzc,Z8b],[],[],[],[],[]⟩ [] Tryz.f70 .no [.leaf 2,.leaf 2] [.leaf 2] (x,y)=ZEn x y:=by kernel_rfl
theorem Zwu:Zk Tryz.prog Zak.1 Zak.2:=Zp (C:=⟨Tryz.prog,[(39,0),(41,2),(43,3)],[Zzc,Z8b],[],[],[],[],[]⟩) ⟨Zxi,Z7g,trivial⟩ trivial trivial trivial (inl:=[]) trivial (ann:=.no) Tryz.func70 (fun _ _=>by kernel_rfl) rfl fun v vals x z ha hz=>(ZGu x.1 x.2).trans (Z0w hz)
end Go.Eng
set_option maxRecDepth 100000
set_option maxHeartbeats 4000000
namespace Go.Eng
open Go.Proofs Go.RowKit
noncomputable def ZDc:FuncId×Con:=(30,⟨[.leaf 3,.leaf 3],[.leaf 3],fun p=>Zcb p.1 p.2⟩)
theorem qmul_i (x:Rat) (y:Rat):Zm ⟨Tryz.prog,[(39,0),(41,2),(43,3)],[ZLe,Zud,Zzc,Zak],[],[],[],[],[]⟩ [] Tryz.f30 .no [.leaf 3,.leaf 3] [.leaf 3] (x,y)=Zkm x y:=by kernel_rfl
theorem Zhi:Zk Tryz.prog ZDc.1 ZDc.2:=Zp (C:=⟨Tryz.prog,[(39,0),(41,2),(43,3)],[ZLe,Zud,Zzc,Zak],[],[],[],[],[]⟩) ⟨ZUl,Zxj,Zxi,Zwu,trivial⟩ trivial trivial trivial (inl:=[]) trivial (ann:=.no) Tryz.func30 (fun _ _=>by kernel_rfl) rfl fun v vals x z ha hz=>(qmul_i x.1 x.2).trans (ZWw hz)
end Go.Eng
set_option maxRecDepth 100000
set_option maxHeartbeats 4000000
namespace Go.Eng
open Go.Proofs Go.RowKit
noncomputable def Z6k:FuncId×Con:=(215,⟨[.leaf 3,.leaf 3],[.leaf 3],fun p=>ZEl p.1 p.2⟩)
theorem qOf_i (x:Rat) (y:Rat):Zm ⟨Tryz.prog,[(39,0),(41,2),(43,3),(91,1),(93,4)],[],[],[],[],[],[]⟩ [] Tryz.f215 .no [.leaf 3,.leaf 3] [.leaf 3] (x,y)=ZEl x y:=by kernel_rfl
theorem qOf_k:Zk Tryz.prog Z6k.1 Z6k.2:=Zp (C:=⟨Tryz.prog,[(39,0),(41,2),(43,3),(91,1),(93,4)],[],[],[],[],[],[]⟩) trivial trivial trivial trivial (inl:=[]) trivial (ann:=.no) Tryz.func215 (fun _ _=>by kernel_rfl) rfl (fun v vals x z ha hz=>(qOf_i x.1 x.2).trans hz)
end Go.Eng
set_option maxRecDepth 100000
namespace Go.Eng
open Go.Proofs Go.RowKit
theorem ZXn : ∀ y w, (method (Tryz.prog.types.size + Made.depth) 43 y "Add").run Tryz.prog w = .ok (23, y) w := fun _ _ => by kernel_rfl
theorem ZIp : ∀ y w, (method (Tryz.prog.types.size + Made.depth) 43 y "Cmp").run Tryz.prog w = .ok (31, y) w := fun _ _ => by kernel_rfl
theorem Znw : ∀ y w, (method (Tryz.prog.types.size + Made.depth) 43 y "Conj").run Tryz.prog w = .ok (212, y) w := fun _ _ => by kernel_rfl
theorem ZIr : ∀ y w, (method (Tryz.prog.types.size + Made.depth) 43 y "Div").run Tryz.prog w = .ok (213, y) w := fun _ _ => by kernel_rfl
theorem ZHj : ∀ y w, (method (Tryz.prog.types.size + Made.depth) 43 y "Mul").run Tryz.prog w = .ok (30, y) w := fun _ _ => by kernel_rfl
theorem Zhl : ∀ y w, (method (Tryz.prog.types.size + Made.depth) 43 y "Neg").run Tryz.prog w = .ok (117, y) w := fun _ _ => by kernel_rfl
theorem ZDv : ∀ y w, (method (Tryz.prog.types.size + Made.depth) 43 y "Of").run Tryz.prog w = .ok (215, y) w := fun _ _ => by kernel_rfl
theorem Z4w : ∀ y w, (method (Tryz.prog.types.size + Made.depth) 43 y "Same").run Tryz.prog w = .ok (24, y) w := fun _ _ => by kernel_rfl
theorem Zbm : ∀ y w, (method (Tryz.prog.types.size + Made.depth) 43 y "Sign").run Tryz.prog w = .ok (72, y) w := fun _ _ => by kernel_rfl
theorem Z0o : ∀ y w, (method (Tryz.prog.types.size + Made.depth) 43 y "Sub").run Tryz.prog w = .ok (71, y) w := fun _ _ => by kernel_rfl
theorem Zno : ∀ y w, (method (Tryz.prog.types.size + Made.depth) 43 y "Zero").run Tryz.prog w = .ok (22, y) w := fun _ _ => by kernel_rfl
end Go.Eng
set_option maxRecDepth 100000
set_option maxHeartbeats 4000000
namespace Go.Eng
open Go.Proofs Go.RowKit
noncomputable def Z1b:FuncId×Con:=(50,⟨[.int .i64],[.leaf 3],fun p=>ZMb p⟩)
theorem Zfv (n : Int) : Zm ⟨Tryz.prog, [(39, 0), (41, 2), (43, 3), (91, 1), (93, 4)], [Z0g, Z6k], [], [], [], [((43, "Of"), 215)], []⟩ [] Tryz.f50 .no [.int .i64] [.leaf 3] (n) = ZMb n := by kernel_rfl
theorem ZCg : Zk Tryz.prog Z1b.1 Z1b.2 := Zp (C := ⟨Tryz.prog, [(39, 0), (41, 2), (43, 3), (91, 1), (93, 4)], [Z0g, Z6k], [], [], [], [((43, "Of"), 215)], []⟩) ⟨Zip, qOf_k, trivial⟩ trivial trivial ⟨ZDv, trivial⟩ (inl := []) trivial (ann := .no) Tryz.func50 (fun _ _ => by kernel_rfl) rfl (fun v vals x z ha hz => (Zfv x).trans hz)
end Go.Eng
set_option maxRecDepth 100000
set_option maxHeartbeats 4000000
namespace Go.Eng
open Go.Proofs Go.RowKit
noncomputable def Zph:FuncId×Con:=(57,⟨[.leaf 2,.leaf 0],[.leaf 2],fun p=>ZFe p.1 p.2⟩)
theorem ZPw (x:Int) (n:Nat):Zm ⟨Tryz.prog,[(39,0),(41,2),(43,3)],[Zzc,Z8b],[],[],[],[],[]⟩ [] Tryz.f57 .no [.leaf 2,.leaf 0] [.leaf 2] (x,n)=Zbo x n:=by kernel_rfl
theorem ZJq:Zk Tryz.prog Zph.1 Zph.2:=Zp (C:=⟨Tryz.prog,[(39,0),(41,2),(43,3)],[Zzc,Z8b],[],[],[],[],[]⟩) ⟨Zxi,Z7g,trivial⟩ trivial trivial trivial (inl:=[]) trivial (ann:=.no) Tryz.func57 (fun _ _=>by kernel_rfl) rfl fun v vals x z ha hz=>(ZPw x.1 x.2).trans (ZUs hz)
end Go.Eng
set_option maxRecDepth 100000
set_option maxHeartbeats 4000000
namespace Go.Eng
open Go.Proofs Go.RowKit
noncomputable def Z5f:FuncId×Con:=(60,⟨[.leaf 0,.leaf 0],[.int .i64],fun p=>Zad p.1 p.2⟩)
theorem cmp_i (a:(List Int)) (b:(List Int)):Zm ⟨Tryz.prog,[],[],[],[],[],[],[]⟩ [] Tryz.f60 (.two .no (.two .no (.two (.two .no (.cut ⟨⟨[],[],[]⟩,[(.norm,⟨[],[],[]⟩),(.ret,⟨[],[],[.s 1000 (.dat (.int .i64))]⟩)]⟩ (.two (.cut ⟨⟨[0,1],[],[.s 5 (.dat (.int .i64))]⟩,[(.ret,⟨[],[],[.s 1000 (.dat (.int .i64))]⟩),(.exit 0,⟨[],[],[]⟩)]⟩ .no) .no))) .no))) [.slice (.int .u64),.slice (.int .u64)] [.int .i64] (a,b)=ZZh a b:=by kernel_rfl
theorem cmp_k:Zk Tryz.prog Z5f.1 Z5f.2:=ZLk (C:=⟨Tryz.prog,[],[],[],[],[],[],[]⟩) trivial trivial trivial trivial (inl:=[]) trivial (ann:=.two .no (.two .no (.two (.two .no (.cut ⟨⟨[],[],[]⟩,[(.norm,⟨[],[],[]⟩),(.ret,⟨[],[],[.s 1000 (.dat (.int .i64))]⟩)]⟩ (.two (.cut ⟨⟨[0,1],[],[.s 5 (.dat (.int .i64))]⟩,[(.ret,⟨[],[],[.s 1000 (.dat (.int .i64))]⟩),(.exit 0,⟨[],[],[]⟩)]⟩ .no) .no))) .no))) (ats:=[.slice (.int .u64),.slice (.int .u64)]) (rts:=[.int .i64]) (fun x=>((Zc 18446744073709551616 x.1),(Zc 18446744073709551616 x.2))) (fun z=>z) (fun _ _ _ h=>h) (fun _ _ _ h=>h) Tryz.func60 (fun _ _=>by kernel_rfl) rfl fun v vals x z ha hz=>by obtain ⟨c0,w0,e0,p0,c1,e1,p1⟩:=ha;exact (cmp_i (Zc 18446744073709551616 x.1) (Zc 18446744073709551616 x.2)).trans ((ZNo (ZPj p0) (ZPj p1)).trans hz)
end Go.Eng
set_option maxRecDepth 100000
set_option maxHeartbeats 4000000
namespace Go.Eng
open Go.Proofs Go.RowKit
noncomputable def ZQl:FuncId×Con:=(104,⟨[.leaf 0,.leaf 0],[.leaf 0],fun p=>ZHi p.1 p.2⟩)
theorem plus_i (a:Nat) (b:Nat):Zm ⟨Tryz.prog,[(39,0)],[Zwg],[],[],[],[],[]⟩ [] Tryz.f104 (.two .no (.two (.two .no (.cut ⟨⟨[],[],[]⟩,[(.norm,⟨[],[],[.s 0 (.dat (.leaf 0)),.s 1 (.dat (.leaf 0))]⟩)]⟩ .no)) (.two .no (.two .no (.two (.two .no (.cut ⟨⟨[],[],[]⟩,[(.norm,⟨[],[],[.s 5 (.own 148 (.int .u64)),.s 6 (.dat (.int .u64))]⟩)]⟩ (.two (.cut ⟨⟨[1,23,24],[],[.s 5 (.own 148 (.int .u64)),.s 6 (.dat (.int .u64)),.s 25 (.dat (.int .i64))]⟩,[(.exit 0,⟨[],[],[.s 5 (.own 148 (.int .u64)),.s 6 (.dat (.int .u64))]⟩)]⟩ (.two (.two .no (.two .no (.two (.two (.two .no (.two .no (.two (.two .no (.cut ⟨⟨[],[],[]⟩,[(.norm,⟨[1,5,6,7,8,23,24,25],[],[.s 9 (.dat (.int .u64))]⟩)]⟩ .no)) .no))) .no) .no))) .no)) .no))) (.two (.two .no (.cut ⟨⟨[],[],[]⟩,[(.norm,⟨[],[],[.s 5 (.own 148 (.int .u64))]⟩)]⟩ .no)) .no)))))) [.leaf 0,.leaf 0] [.leaf 0] (a,b)=Z9i a b:=by kernel_rfl
theorem plus_k:Zk Tryz.prog ZQl.1 ZQl.2:=Zp (C:=⟨Tryz.prog,[(39,0)],[Zwg],[],[],[],[],[]⟩) ⟨Ztq,trivial⟩ trivial trivial trivial (inl:=[]) trivial (ann:=.two .no (.two (.two .no (.cut ⟨⟨[],[],[]⟩,[(.norm,⟨[],[],[.s 0 (.dat (.leaf 0)),.s 1 (.dat (.leaf 0))]⟩)]⟩ .no)) (.two .no (.two .no (.two (.two .no (.cut ⟨⟨[],[],[]⟩,[(.norm,⟨[],[],[.s 5 (.own 148 (.int .u64)),.s 6 (.dat (.int .u64))]⟩)]⟩ (.two (.cut ⟨⟨[1,23,24],[],[.s 5 (.own 148 (.int .u64)),.s 6 (.dat (.int .u64)),.s 25 (.dat (.int .i64))]⟩,[(.exit 0,⟨[],[],[.s 5 (.own 148 (.int .u64)),.s 6 (.dat (.int .u64))]⟩)]⟩ (.two (.two .no (.two .no (.two (.two (.two .no (.two .no (.two (.two .no (.cut ⟨⟨[],[],[]⟩,[(.norm,⟨[1,5,6,7,8,23,24,25],[],[.s 9 (.dat (.int .u64))]⟩)]⟩ .no)) .no))) .no) .no))) .no)) .no))) (.two (.two .no (.cut ⟨⟨[],[],[]⟩,[(.norm,⟨[],[],[.s 5 (.own 148 (.int .u64))]⟩)]⟩ .no)) .no)))))) Tryz.func104 (fun _ _=>by kernel_rfl) rfl fun v vals x z ha hz=>(plus_i x.1 x.2).trans (Zeu hz)
end Go.Eng
set_option maxRecDepth 100000
set_option maxHeartbeats 4000000
namespace Go.Eng
open Go.Proofs Go.RowKit
noncomputable def ZXk:FuncId×Con:=(146,⟨[.int .u64,.int .u64,.int .u64],[.int .u64,.int .u64],fun p=>Z1c p.1 p.2.1 p.2.2⟩)
theorem sub64_k:Zk Tryz.prog ZXk.1 ZXk.2:=fun w v vals x z _ ha hz=>by
 obtain ⟨c0,w0,e0,p0,c1,w1,e1,p1,c2,e2,p2⟩:=ha
 subst e0 e1 e2
 obtain ⟨rfl,h0⟩:=p0
 obtain ⟨rfl,h1⟩:=p1
 obtain ⟨rfl,h2⟩:=p2
 have p0:(Zd .u64).rel v [.int .u64 x.1] x.1:=⟨rfl,h0⟩
 have p1:(Zd .u64).rel v [.int .u64 x.2.1] x.2.1:=⟨rfl,h1⟩
 exact .inr ⟨.tuple #[.int .u64 z.1,.int .u64 z.2],fun w=>Zwr (show ZNe Tryz.prog 146 ZRk from ⟨_,Tryz.func146,by kernel_rfl,by kernel_rfl,by kernel_rfl,by kernel_rfl⟩) p0.2 p1.2 hz w,_,rfl,_,_,rfl,⟨rfl,ZCr hz⟩,_,rfl,⟨rfl,Zup hz⟩⟩
end Go.Eng
set_option maxRecDepth 100000
set_option maxHeartbeats 4000000
namespace Go.Eng
open Go.Proofs Go.RowKit
noncomputable def Zyl:FuncId×Con:=(105,⟨[.leaf 0,.leaf 0],[.leaf 0],fun p=>Zoh p.1 p.2⟩)
theorem minus_i (a:Nat) (b:Nat):Zm ⟨Tryz.prog,[(39,0)],[Z2e,ZXk],[],[],[],[],[]⟩ [] Tryz.f105 (.two .no (.two .no (.two .no (.two (.two .no (.cut ⟨⟨[],[],[]⟩,[(.norm,⟨[],[],[.s 5 (.own 148 (.int .u64))]⟩)]⟩ (.two (.cut ⟨⟨[1,13,14],[],[.s 5 (.own 148 (.int .u64)),.s 6 (.dat (.int .u64)),.s 15 (.dat (.int .i64))]⟩,[(.exit 0,⟨[],[],[.s 5 (.own 148 (.int .u64))]⟩)]⟩ (.two (.two .no (.two .no (.two (.two (.two .no (.two .no (.two (.two .no (.cut ⟨⟨[],[],[]⟩,[(.norm,⟨[1,5,6,7,8,13,14,15],[],[.s 9 (.dat (.int .u64))]⟩)]⟩ .no)) .no))) .no) .no))) .no)) .no))) .no)))) [.leaf 0,.leaf 0] [.leaf 0] (a,b)=Z1k a b:=by kernel_rfl
theorem minus_k:Zk Tryz.prog Zyl.1 Zyl.2:=Zp (C:=⟨Tryz.prog,[(39,0)],[Z2e,ZXk],[],[],[],[],[]⟩) ⟨cut_k,sub64_k,trivial⟩ trivial trivial trivial (inl:=[]) trivial (ann:=.two .no (.two .no (.two .no (.two (.two .no (.cut ⟨⟨[],[],[]⟩,[(.norm,⟨[],[],[.s 5 (.own 148 (.int .u64))]⟩)]⟩ (.two (.cut ⟨⟨[1,13,14],[],[.s 5 (.own 148 (.int .u64)),.s 6 (.dat (.int .u64)),.s 15 (.dat (.int .i64))]⟩,[(.exit 0,⟨[],[],[.s 5 (.own 148 (.int .u64))]⟩)]⟩ (.two (.two .no (.two .no (.two (.two (.two .no (.two .no (.two (.two .no (.cut ⟨⟨[],[],[]⟩,[(.norm,⟨[1,5,6,7,8,13,14,15],[],[.s 9 (.dat (.int .u64))]⟩)]⟩ .no)) .no))) .no) .no))) .no)) .no))) .no)))) Tryz.func105 (fun _ _=>by kernel_rfl) rfl fun v vals x z ha hz=>(minus_i x.1 x.2).trans (Zjw hz)
end Go.Eng
set_option maxRecDepth 100000
set_option maxHeartbeats 4000000
namespace Go.Eng
open Go.Proofs Go.RowKit
noncomputable def Znk:FuncId×Con:=(58,⟨[.leaf 2,.leaf 2],[.leaf 2],fun p=>ZXh p.1 p.2⟩)
theorem iplus_i (x:Int) (y:Int):Zm ⟨Tryz.prog,[(39,0),(41,2),(43,3)],[Z5f,Z8b,ZQl,Zyl],[],[],[],[],[]⟩ [] Tryz.f58 .no [.leaf 2,.leaf 2] [.leaf 2] (x,y)=Zhm x y:=by kernel_rfl
theorem iplus_k:Zk Tryz.prog Znk.1 Znk.2:=Zp (C:=⟨Tryz.prog,[(39,0),(41,2),(43,3)],[Z5f,Z8b,ZQl,Zyl],[],[],[],[],[]⟩) ⟨cmp_k,Z7g,plus_k,minus_k,trivial⟩ trivial trivial trivial (inl:=[]) trivial (ann:=.no) Tryz.func58 (fun _ _=>by kernel_rfl) rfl fun v vals x z ha hz=>(iplus_i x.1 x.2).trans (Z4s hz)
end Go.Eng
set_option maxRecDepth 100000
set_option maxHeartbeats 4000000
namespace Go.Eng
open Go.Proofs Go.RowKit
noncomputable def Zvc:FuncId×Con:=(23,⟨[.leaf 3,.leaf 3],[.leaf 3],fun p=>Z4c p.1 p.2⟩)
theorem qadd_i (x:Rat) (y:Rat):Zm ⟨Tryz.prog,[(39,0),(41,2),(43,3)],[ZLe,Zud,Zph,Znk,Zzc],[],[],[],[],[]⟩ [] Tryz.f23 .no [.leaf 3,.leaf 3] [.leaf 3] (x,y)=Zxo x y:=by kernel_rfl
theorem Zli:Zk Tryz.prog Zvc.1 Zvc.2:=Zp (C:=⟨Tryz.prog,[(39,0),(41,2),(43,3)],[ZLe,Zud,Zph,Znk,Zzc],[],[],[],[],[]⟩) ⟨ZUl,Zxj,ZJq,iplus_k,Zxi,trivial⟩ trivial trivial trivial (inl:=[]) trivial (ann:=.no) Tryz.func23 (fun _ _=>by kernel_rfl) rfl fun v vals x z ha hz=>(qadd_i x.1 x.2).trans (Znt hz)
end Go.Eng
set_option maxRecDepth 100000
set_option maxHeartbeats 4000000
namespace Go.Eng
open Go.Proofs Go.RowKit
noncomputable def Z9k:FuncId×Con:=(157,⟨[.leaf 2],[.leaf 2],fun p=>Zdi p⟩)
theorem Zns (x:Int):Zm ⟨Tryz.prog,[(39,0),(41,2),(43,3)],[Z8b],[],[],[],[],[]⟩ [] Tryz.f157 .no [.leaf 2] [.leaf 2] (x)=Zso x:=by kernel_rfl
theorem Zow:Zk Tryz.prog Z9k.1 Z9k.2:=Zp (C:=⟨Tryz.prog,[(39,0),(41,2),(43,3)],[Z8b],[],[],[],[],[]⟩) ⟨Z7g,trivial⟩ trivial trivial trivial (inl:=[]) trivial (ann:=.no) Tryz.func157 (fun _ _=>by kernel_rfl) rfl fun v vals x z ha hz=>(Zns x).trans (ZUw hz)
end Go.Eng
set_option maxRecDepth 100000
set_option maxHeartbeats 4000000
namespace Go.Eng
open Go.Proofs Go.RowKit
noncomputable def ZGc:FuncId×Con:=(117,⟨[.leaf 3],[.leaf 3],fun p=>Zcc p⟩)
theorem qneg_i (x:Rat):Zm ⟨Tryz.prog,[(39,0),(41,2),(43,3)],[Z9k],[],[],[],[],[]⟩ [] Tryz.f117 .no [.leaf 3] [.leaf 3] (x)=Zun x:=by kernel_rfl
theorem Z3h:Zk Tryz.prog ZGc.1 ZGc.2:=Zp (C:=⟨Tryz.prog,[(39,0),(41,2),(43,3)],[Z9k],[],[],[],[],[]⟩) ⟨Zow,trivial⟩ trivial trivial trivial (inl:=[]) trivial (ann:=.no) Tryz.func117 (fun _ _=>by kernel_rfl) rfl fun v vals x z ha hz=>(qneg_i x).trans (ZVu hz)
end Go.Eng
set_option maxRecDepth 100000
set_option maxHeartbeats 4000000
namespace Go.Eng
open Go.Proofs Go.RowKit
noncomputable def ZJe:FuncId×Con:=(71,⟨[.leaf 3,.leaf 3],[.leaf 3],fun p=>Zdd p.1 p.2⟩)
theorem qsub_i (x:Rat) (y:Rat):Zm ⟨Tryz.prog,[(39,0),(41,2),(43,3)],[Zvc,ZGc],[],[],[],[],[]⟩ [] Tryz.f71 .no [.leaf 3,.leaf 3] [.leaf 3] (x,y)=ZCm x y:=by kernel_rfl
theorem ZIm:Zk Tryz.prog ZJe.1 ZJe.2:=Zp (C:=⟨Tryz.prog,[(39,0),(41,2),(43,3)],[Zvc,ZGc],[],[],[],[],[]⟩) ⟨Zli,Z3h,trivial⟩ trivial trivial trivial (inl:=[]) trivial (ann:=.no) Tryz.func71 (fun _ _=>by kernel_rfl) rfl fun v vals x z ha hz=>(qsub_i x.1 x.2).trans (Zft hz)
end Go.Eng
namespace Go.Eng
open Go.Proofs Go.RowKit
set_option maxRecDepth 100000
theorem ZEo:Elem Tryz.prog 30 43 (Zab).n 56 (Value.agg #[Value.bool false,Value.slice none 0 0,Value.slice none 0 0]):=⟨Tryz.underlying30,by kernel_rfl,rfl,by decide⟩
noncomputable def Zid:FuncId×ConO:=(138,⟨[.slice (.leaf 3)],43,.leaf 3,fun p=>Z5c 56 p⟩)
theorem ZEk:ZOe Tryz.prog Zid.1 Zid.2:=fun w v vals x z hv ha hz=>by
 obtain ⟨cs,rfl,p0⟩:=ha
 have hz:Z5c 56 (show List Rat from x)=some z:=hz
 obtain ⟨hb,rfl⟩:=ZUt hz
 obtain ⟨q,n,c,rfl⟩:=ZQf (show (Zw Zab).rel v cs z from p0)
 refine ⟨fun _ _=>by kernel_rfl,?_⟩
 have hn:n=(show List Rat from z).length:=by obtain ⟨_,_,e,_⟩:=p0;cases e;rfl
 refine ZWi (K:=8) (args:=[.slice q n c]) hv Tryz.func138 rfl rfl zl fun fa hS=>?_
 refine sr ?_
 refine mw hS rfl fun fa hS=>?_
 refine oe ?_
 refine wp_seq_k fun N1 hN1=>?_
 refine sr ?_
 refine mv hS rfl fun fa hS=>?_
 refine ov hS rfl (Zbu hS Tryz.underlying30 rfl rfl) fun fa hS=>?_
 refine oe ?_
 cases q with
 | none =>
  refine ZQ hS rfl rfl ?_
  have hx:(show List Rat from z)=[]:=by
   obtain ⟨q',c',e,_,_,h3⟩:=p0
   cases e
   rcases h3 with h3 | ⟨_,_,_,_,_,h4,_⟩
   ·exact h3
   ·cases h4
  have hx0:n=0:=by rw [hn,hx];rfl
  refine sr ?_;refine mw hS rfl fun fa hS=>?_;refine oe ?_;refine wp_ret ?_;refine ZVa ?_;have hS2:=hS.nilLoc 43 (Zab).n;have:=Zmo (P:=Tryz.prog) (A:=Zab) hS2 (i:=0) (ob:=none) (n:=0) (cap:=0) (cs:=[]) rfl (ZMa (fn:=Tryz.f138) (r:=.tmp 2) rfl (ZT (t:=2) (y:=.slice (mkA none) 0 0) hS2 rfl)) (l:=([]:List Rat)) ZVd rfl;rw [hx];exact this
 | some ad =>
  refine ZM hS rfl rfl ?_;refine wp_skip ?_;refine Zf (hN1 _ _ ?_);refine sr ?_;obtain ⟨b,wo,hrun,hS⟩:=Zcx ZEo hS;refine Zub wn rfl zl hrun hS fun fa hS=>?_;refine mv hS rfl fun fa hS=>?_;obtain ⟨b',cap',cs2,wo,hr,hS',hrel⟩:=ZXf (ty:=30) (A:=Zab) ZEo hS (i:=0) rfl (Rep.mono (Zw Zab) hS.vst.le p0) (n':=n) (by omega) (by rw [hn];exact hb) (by decide);refine Zub wn rfl zl (Z3d hS rfl rfl hr) hS' fun fa hS=>?_;refine mw hS rfl fun fa hS=>?_;refine oe ?_;refine wp_ret ?_;exact Zmo hS (i:=0) rfl (ZMa rfl (ZT hS rfl)) hrel hn
end Go.Eng
set_option maxRecDepth 100000
set_option maxHeartbeats 4000000
namespace Go.Eng
open Go.Proofs Go.RowKit
noncomputable def Zmg:FuncId×Con:=(213,⟨[.leaf 3,.leaf 3],[.leaf 3,.int .i64],fun p=>Zmf p.1 p.2⟩)
theorem qdiv_i (x:Rat) (y:Rat):Zm ⟨Tryz.prog,[(39,0),(41,2),(43,3)],[Znd,ZLe,Zud,Zph,Zzc,Z8b],[],[],[],[],[]⟩ [] Tryz.f213 (.two .no (.two .no (.two (.cut ⟨⟨[],[],[]⟩,[(.norm,⟨[2,3,4],[],[.s 6 (.box 41 (.dat (.leaf 2)))]⟩)]⟩ .no) .no))) [.leaf 3,.leaf 3] [.leaf 3,.int .i64] (x,y)=Z2l x y:=by kernel_rfl
theorem Z7q:Zk Tryz.prog Zmg.1 Zmg.2:=Zp (C:=⟨Tryz.prog,[(39,0),(41,2),(43,3)],[Znd,ZLe,Zud,Zph,Zzc,Z8b],[],[],[],[],[]⟩) ⟨Z4j,ZUl,Zxj,ZJq,Zxi,Z7g,trivial⟩ trivial trivial trivial (inl:=[]) trivial (ann:=.two .no (.two .no (.two (.cut ⟨⟨[],[],[]⟩,[(.norm,⟨[2,3,4],[],[.s 6 (.box 41 (.dat (.leaf 2)))]⟩)]⟩ .no) .no))) Tryz.func213 (fun _ _=>by kernel_rfl) rfl fun v vals x z ha hz=>(qdiv_i x.1 x.2).trans (Z3w hz)
end Go.Eng
set_option maxRecDepth 100000
set_option maxHeartbeats 4000000
namespace Go.Eng
open Go.Proofs Go.RowKit
noncomputable def Zgf:FuncId×Con:=(44,⟨[.slice (.slice (.leaf 3))],[.slice (.slice (.leaf 3)),.slice (.int .i64),.leaf 3],fun p=>ZWe p⟩)
theorem Zyv (m : List (List Rat)) : Zm ⟨Tryz.prog, [(39, 0), (41, 2), (43, 3), (91, 1), (93, 4)], [Znd, ZDc, Z1b, ZJe, ZGc, Zmg], [8], [Zid], [], [((43, "Div"), 213), ((43, "Mul"), 30), ((43, "Neg"), 117), ((43, "Sub"), 71), ((43, "Zero"), 22)], []⟩ [(47, Tryz.f47, .cut ⟨⟨[], [], []⟩, [(.ret, ⟨[], [], [.s 1000 (.dat (.int .i64))]⟩)]⟩ .no), (95, Tryz.f95, .two .no (.two .no (.two (.two .no (.two (.cut ⟨⟨[3, 9, 10], [], [.s 11 (.dat (.int .i64)), .l (.sl 3) (.mat 30 43 (.leaf 3))]⟩, [(.exit 0, ⟨[3], [], [.l (.sl 3) (.mat 30 43 (.leaf 3))]⟩)]⟩ .no) .no)) .no)))] Tryz.f44 (.two .no (.two .no (.two .no (.two .no (.two (.two .no (.two (.cut ⟨⟨[0, 4, 6, 19], [], [.s 5 (.own 3 (.int .i64)), .s 20 (.dat (.int .i64)), .l (.sl 0) (.mat 30 43 (.leaf 3)), .l (.sl 6) (.box 43 (.dat (.leaf 3)))]⟩, [(.exit 0, ⟨[0, 4, 6], [], [.s 5 (.own 3 (.int .i64)), .l (.sl 0) (.mat 30 43 (.leaf 3)), .l (.sl 6) (.box 43 (.dat (.leaf 3)))]⟩)]⟩ (.two (.two .no (.two .no (.two (.cut ⟨⟨[], [], []⟩, [(.norm, ⟨[0, 4, 6, 19, 20], [], [.s 5 (.own 3 (.int .i64)), .l (.sl 0) (.mat 30 43 (.leaf 3)), .l (.sl 6) (.box 43 (.dat (.leaf 3)))]⟩)]⟩ (.two (.two .no (.two .no (.two .no (.two (.two (.cut ⟨⟨[0, 4, 5, 6, 7, 8, 19, 20], [], [.s 9 (.dat (.int .i64))]⟩, [(.exit 2, ⟨[0, 4, 5, 6, 7, 8, 19, 20], [], [.s 9 (.dat (.int .i64))]⟩)]⟩ (.two (.two (.two (.cut ⟨⟨[], [], []⟩, [(.norm, ⟨[0, 4, 5, 6, 7, 8, 9, 19, 20], [], [.s 40 (.dat .bool)]⟩)]⟩ .no) .no) .no) .no)) .no) (.two .no (.two (.two .no (.cut ⟨⟨[], [], []⟩, [(.norm, ⟨[0, 4, 5, 6, 7, 8, 19, 20], [], [.l (.sl 0) (.mat 30 43 (.leaf 3)), .l (.sl 6) (.box 43 (.dat (.leaf 3)))]⟩)]⟩ .no)) (.two .no (.two .no (.two (.two .no (.two (.cut ⟨⟨[0, 4, 5, 6, 7, 8, 10, 19, 20, 83], [], [.s 84 (.dat (.int .i64)), .l (.sl 0) (.mat 30 43 (.leaf 3))]⟩, [(.exit 4, ⟨[0, 4, 5, 6, 7, 8, 19, 20], [], [.l (.sl 0) (.mat 30 43 (.leaf 3))]⟩)]⟩ .no) .no)) (.two (.two .no (.two (.cut ⟨⟨[0, 4, 5, 6, 7, 8, 19, 20, 108], [], [.s 109 (.dat (.int .i64)), .l (.sl 0) (.mat 30 43 (.leaf 3))]⟩, [(.exit 6, ⟨[0, 4, 5, 6, 7, 19, 20], [], [.l (.sl 0) (.mat 30 43 (.leaf 3))]⟩)]⟩ (.two (.two .no (.two .no (.two (.cut ⟨⟨[], [], []⟩, [(.norm, ⟨[0, 4, 5, 6, 7, 8, 19, 20, 108, 109], [], [.l (.sl 0) (.mat 30 43 (.leaf 3))]⟩)]⟩ (.two (.two .no (.two .no (.two (.two (.cut ⟨⟨[], [], []⟩, [(.norm, ⟨[0, 4, 5, 6, 7, 8, 12, 13, 19, 20, 108, 109], [], [.s 126 (.dat .bool)]⟩)]⟩ .no) .no) (.two .no (.two (.cut ⟨⟨[0, 4, 5, 6, 7, 8, 12, 13, 19, 20, 108, 109, 131], [], [.s 132 (.dat (.int .i64)), .l (.sl 0) (.mat 30 43 (.leaf 3))]⟩, [(.exit 8, ⟨[0, 4, 5, 6, 7, 8, 19, 20, 108, 109], [], [.l (.sl 0) (.mat 30 43 (.leaf 3))]⟩)]⟩ .no) .no))))) .no)) .no))) .no)) .no)) .no)))))))))) .no)) .no))) .no)) .no)) .no))))) [.slice (.slice (.leaf 3))] [.slice (.slice (.leaf 3)), .slice (.int .i64), .leaf 3] (m) = ZWe m := by kernel_rfl
theorem ZPn : Zk Tryz.prog Zgf.1 Zgf.2 := Zp (C := ⟨Tryz.prog, [(39, 0), (41, 2), (43, 3), (91, 1), (93, 4)], [Znd, ZDc, Z1b, ZJe, ZGc, Zmg], [8], [Zid], [], [((43, "Div"), 213), ((43, "Mul"), 30), ((43, "Neg"), 117), ((43, "Sub"), 71), ((43, "Zero"), 22)], []⟩) ⟨Z4j, Zhi, ZCg, ZIm, Z3h, Z7q, trivial⟩ ⟨ZEk, trivial⟩ trivial ⟨ZIr, ZHj, Zhl, Z0o, Zno, trivial⟩ (inl := [(47, Tryz.f47, .cut ⟨⟨[], [], []⟩, [(.ret, ⟨[], [], [.s 1000 (.dat (.int .i64))]⟩)]⟩ .no), (95, Tryz.f95, .two .no (.two .no (.two (.two .no (.two (.cut ⟨⟨[3, 9, 10], [], [.s 11 (.dat (.int .i64)), .l (.sl 3) (.mat 30 43 (.leaf 3))]⟩, [(.exit 0, ⟨[3], [], [.l (.sl 3) (.mat 30 43 (.leaf 3))]⟩)]⟩ .no) .no)) .no)))]) ⟨⟨Tryz.func47, fun _ _ => by kernel_rfl⟩, ⟨Tryz.func95, fun _ _ => by kernel_rfl⟩, trivial⟩ (ann := (.two .no (.two .no (.two .no (.two .no (.two (.two .no (.two (.cut ⟨⟨[0, 4, 6, 19], [], [.s 5 (.own 3 (.int .i64)), .s 20 (.dat (.int .i64)), .l (.sl 0) (.mat 30 43 (.leaf 3)), .l (.sl 6) (.box 43 (.dat (.leaf 3)))]⟩, [(.exit 0, ⟨[0, 4, 6], [], [.s 5 (.own 3 (.int .i64)), .l (.sl 0) (.mat 30 43 (.leaf 3)), .l (.sl 6) (.box 43 (.dat (.leaf 3)))]⟩)]⟩ (.two (.two .no (.two .no (.two (.cut ⟨⟨[], [], []⟩, [(.norm, ⟨[0, 4, 6, 19, 20], [], [.s 5 (.own 3 (.int .i64)), .l (.sl 0) (.mat 30 43 (.leaf 3)), .l (.sl 6) (.box 43 (.dat (.leaf 3)))]⟩)]⟩ (.two (.two .no (.two .no (.two .no (.two (.two (.cut ⟨⟨[0, 4, 5, 6, 7, 8, 19, 20], [], [.s 9 (.dat (.int .i64))]⟩, [(.exit 2, ⟨[0, 4, 5, 6, 7, 8, 19, 20], [], [.s 9 (.dat (.int .i64))]⟩)]⟩ (.two (.two (.two (.cut ⟨⟨[], [], []⟩, [(.norm, ⟨[0, 4, 5, 6, 7, 8, 9, 19, 20], [], [.s 40 (.dat .bool)]⟩)]⟩ .no) .no) .no) .no)) .no) (.two .no (.two (.two .no (.cut ⟨⟨[], [], []⟩, [(.norm, ⟨[0, 4, 5, 6, 7, 8, 19, 20], [], [.l (.sl 0) (.mat 30 43 (.leaf 3)), .l (.sl 6) (.box 43 (.dat (.leaf 3)))]⟩)]⟩ .no)) (.two .no (.two .no (.two (.two .no (.two (.cut ⟨⟨[0, 4, 5, 6, 7, 8, 10, 19, 20, 83], [], [.s 84 (.dat (.int .i64)), .l (.sl 0) (.mat 30 43 (.leaf 3))]⟩, [(.exit 4, ⟨[0, 4, 5, 6, 7, 8, 19, 20], [], [.l (.sl 0) (.mat 30 43 (.leaf 3))]⟩)]⟩ .no) .no)) (.two (.two .no (.two (.cut ⟨⟨[0, 4, 5, 6, 7, 8, 19, 20, 108], [], [.s 109 (.dat (.int .i64)), .l (.sl 0) (.mat 30 43 (.leaf 3))]⟩, [(.exit 6, ⟨[0, 4, 5, 6, 7, 19, 20], [], [.l (.sl 0) (.mat 30 43 (.leaf 3))]⟩)]⟩ (.two (.two .no (.two .no (.two (.cut ⟨⟨[], [], []⟩, [(.norm, ⟨[0, 4, 5, 6, 7, 8, 19, 20, 108, 109], [], [.l (.sl 0) (.mat 30 43 (.leaf 3))]⟩)]⟩ (.two (.two .no (.two .no (.two (.two (.cut ⟨⟨[], [], []⟩, [(.norm, ⟨[0, 4, 5, 6, 7, 8, 12, 13, 19, 20, 108, 109], [], [.s 126 (.dat .bool)]⟩)]⟩ .no) .no) (.two .no (.two (.cut ⟨⟨[0, 4, 5, 6, 7, 8, 12, 13, 19, 20, 108, 109, 131], [], [.s 132 (.dat (.int .i64)), .l (.sl 0) (.mat 30 43 (.leaf 3))]⟩, [(.exit 8, ⟨[0, 4, 5, 6, 7, 8, 19, 20, 108, 109], [], [.l (.sl 0) (.mat 30 43 (.leaf 3))]⟩)]⟩ .no) .no))))) .no)) .no))) .no)) .no)) .no)))))))))) .no)) .no))) .no)) .no)) .no)))))) Tryz.func44 (fun _ _ => by kernel_rfl) rfl (fun v vals x z ha hz => (Zyv x).trans hz)
end Go.Eng
set_option maxRecDepth 100000
set_option maxHeartbeats 4000000
namespace Go.Eng
open Go.Proofs Go.RowKit
noncomputable def ZQe:FuncId×Con:=(11,⟨[.slice (.slice (.leaf 3))],[.slice (.slice (.leaf 3)),.slice (.int .i64),.int .i64],fun p=>ZXd p⟩)
theorem Zzv (m:List (List Rat)):Zm ⟨Tryz.prog,[(39,0),(41,2),(43,3),(91,1),(93,4)],[Zfd,Zgf],[],[],[],[],[]⟩ [] Tryz.f11 .no [.slice (.slice (.leaf 3))] [.slice (.slice (.leaf 3)),.slice (.int .i64),.int .i64] (m)=ZXd m:=by kernel_rfl
theorem Zon:Zk Tryz.prog ZQe.1 ZQe.2:=Zp (C:=⟨Tryz.prog,[(39,0),(41,2),(43,3),(91,1),(93,4)],[Zfd,Zgf],[],[],[],[],[]⟩) ⟨Znj,ZPn,trivial⟩ trivial trivial trivial (inl:=[]) trivial (ann:=.no) Tryz.func11 (fun _ _=>by kernel_rfl) rfl (fun v vals x z ha hz=>(Zzv x).trans hz)
end Go.Eng
set_option maxRecDepth 100000
set_option maxHeartbeats 4000000
namespace Go.Eng
open Go.Proofs Go.RowKit
noncomputable def ZYj:FuncId×Con:=(96,⟨[.slice (.int .i64),.int .i64],[.int .i64],fun p=>ZDi p.1 p.2⟩)
theorem ZOv (l:(List Int)) (v:Int):Zm ⟨Tryz.prog,[(39,0),(41,2),(43,3),(91,1),(93,4)],[],[],[],[],[],[]⟩ [] Tryz.f96 (.two .no (.two (.two .no (.cut ⟨⟨[],[],[]⟩,[(.norm,⟨[],[],[]⟩),(.ret,⟨[],[],[.s 1000 (.dat (.int .i64))]⟩)]⟩ (.two (.cut ⟨⟨[0,1,7],[],[.s 8 (.dat (.int .i64))]⟩,[(.ret,⟨[],[],[.s 1000 (.dat (.int .i64))]⟩),(.exit 0,⟨[],[],[]⟩)]⟩ .no) .no))) .no)) [.slice (.int .i64),.int .i64] [.int .i64] (l,v)=ZDi l v:=by kernel_rfl
theorem Zew:Zk Tryz.prog ZYj.1 ZYj.2:=Zp (C:=⟨Tryz.prog,[(39,0),(41,2),(43,3),(91,1),(93,4)],[],[],[],[],[],[]⟩) trivial trivial trivial trivial (inl:=[]) trivial (ann:=.two .no (.two (.two .no (.cut ⟨⟨[],[],[]⟩,[(.norm,⟨[],[],[]⟩),(.ret,⟨[],[],[.s 1000 (.dat (.int .i64))]⟩)]⟩ (.two (.cut ⟨⟨[0,1,7],[],[.s 8 (.dat (.int .i64))]⟩,[(.ret,⟨[],[],[.s 1000 (.dat (.int .i64))]⟩),(.exit 0,⟨[],[],[]⟩)]⟩ .no) .no))) .no)) Tryz.func96 (fun _ _=>by kernel_rfl) rfl fun v vals x z ha hz=>(ZOv x.1 x.2).trans (hz)
end Go.Eng
set_option maxRecDepth 100000
set_option maxHeartbeats 4000000
namespace Go.Eng
open Go.Proofs Go.RowKit
noncomputable def Zvl:FuncId×Con:=(48,⟨[.slice (.int .i64),.int .i64],[.bool],fun p=>Zzi p.1 p.2⟩)
theorem ZCt (l:(List Int)) (v:Int):Zm ⟨Tryz.prog,[(39,0),(41,2),(43,3),(91,1),(93,4)],[ZYj],[],[],[],[],[]⟩ [] Tryz.f48 .no [.slice (.int .i64),.int .i64] [.bool] (l,v)=Zzi l v:=by kernel_rfl
theorem Zus:Zk Tryz.prog Zvl.1 Zvl.2:=Zp (C:=⟨Tryz.prog,[(39,0),(41,2),(43,3),(91,1),(93,4)],[ZYj],[],[],[],[],[]⟩) ⟨Zew,trivial⟩ trivial trivial trivial (inl:=[]) trivial (ann:=.no) Tryz.func48 (fun _ _=>by kernel_rfl) rfl fun v vals x z ha hz=>(ZCt x.1 x.2).trans (hz)
noncomputable def Z3j (x:Int) (y:Int):Option (Int×Int) :=
 bnd (Zgc x y) fun a =>
 some ((a.1,a.2))
end Go.Eng
namespace Go.Eng
open Go.Proofs Go.RowKit
theorem bmul_w {c:World} {a:Zb} (hv:VIn a c) {d:List Value} {x:Int} (i:Rep.rel (Zd .u64) a d x) {e:List Value} {y:Int} (j:Rep.rel (Zd .u64) a e y) {z:Int×Int} (H:Z3j x y=some z):Ret Tryz.prog 139 #[(Zd .u64).val d,(Zd .u64).val e] c a (fun y v'=>∃ g b,y = .tuple #[(Zd .u64).val g,(Zd .u64).val b]∧(Zd .u64).rel v' g z.1∧(Zd .u64).rel v' b z.2):=by
 obtain ⟨rfl,b⟩:=i;obtain ⟨rfl,k⟩:=j;refine ZLb (K:=30) (args:=[.int .u64 x,.int .u64 y]) hv Tryz.func139 rfl rfl zl fun f S=>?_;unfold Z3j at H;refine sr (mw S rfl fun f S=>mw S rfl fun f S=>oe (Zj fun _ l=>ZM S rfl rfl (wp_skip (Zf (l _ _ (Zj fun _ m=>bO H fun h n H=>Zu (mv S rfl fun f S=>mv S rfl fun f S=>opc S rfl (Zaa S [.int .u64 x,.int .u64 y] ZWm rfl rfl) (Zoo S.vin (show Rep.rel (Zd .u64) _ [.int .u64 x] x from (ZD b)) (show Rep.rel (Zd .u64) _ [.int .u64 y] y from (ZD k)) n) ?_)))))));rintro _ s f w t ⟨u,v,rfl,o,p⟩ S;obtain ⟨rfl,q⟩:=o;obtain ⟨rfl,r⟩:=p;refine mv S rfl fun f S=>ov S rfl (Zya S rfl rfl) fun f S=>ov S rfl (Zya S rfl rfl) fun f S=>mw S rfl fun f S=>mw S rfl fun f S=>Zs (Zf (m _ _ (sr (mv S rfl fun f S=>mv S rfl fun f S=>mw S rfl fun f S=>mw S rfl fun f S=>oe (wp_ret ?_)))));obtain rfl:=Zn H;refine ZAa S (ZYe rfl (ZT S rfl) (ZT S rfl)) ⟨[.int .u64 (h.1)],[.int .u64 (h.2)],rfl,(ZD q),(ZD r)⟩
set_option maxRecDepth 100000
theorem Z2n:Elem Tryz.prog 30 43 (Zab).n 56 (Value.agg #[Value.bool false,Value.slice none 0 0,Value.slice none 0 0]):=⟨Tryz.underlying30,by kernel_rfl,rfl,by decide⟩
theorem ZNk:ZQc Tryz.prog 30 43 (Zab).n:=⟨fun _=>by kernel_rfl,fun _=>by kernel_rfl⟩
theorem Zcv:Tryz.prog.follows .mixedOrders=true:=by kernel_rfl
theorem Zsv:Z4 Tryz.prog 139:=fun _ _=>by kernel_rfl
theorem ZBr:ZEh Tryz.prog 3 187 .i64 .u64:=fun _ _=>by kernel_rfl
theorem Ztu:ZEh Tryz.prog 187 3 .u64 .i64:=fun _ _=>by kernel_rfl
noncomputable def Z0e:FuncId×ConO:=(97,⟨[.slice (.leaf 3),.int .i64],43,.leaf 3,fun p=>Zqe 56 p.1 p.2⟩)
theorem Zdm:ZOe Tryz.prog Z0e.1 Z0e.2:=fun w v vals x z hv ha hz=>by
 obtain ⟨cs,vs,rfl,p0,c1,rfl,rfl,hin⟩:=ha
 obtain ⟨x1,k0⟩:=x
 have hz:Zqe 56 (show List Rat from x1) k0=some z:=hz
 obtain ⟨y,hx1,hzr,hmk⟩:=Zms hz
 have hx1:x1=[y]:=hx1
 subst hx1 hzr
 obtain ⟨h0,_,hb1,hb2⟩:=ZNa hmk
 obtain ⟨k,rfl⟩:=Int.eq_ofNat_of_zero_le h0
 obtain ⟨q,c,e,hc1,hc2,hne⟩:=(show (Zw Zab).rel v cs [y] from p0)
 subst e
 rcases hne with hne | ⟨b,off,cc,TT,fr,rfl,hvb,hrel⟩
 ·cases hne
 have hlen1:([y]:List Rat).length=1:=rfl
 rw [hlen1] at hrel
 obtain ⟨c1,c2,e12,hrc,e2⟩:=hrel
 have e2:c2=[]:=e2
 subst e2
 rw [List.append_nil,Nat.one_mul] at e12
 have hl1:=Rep.len _ hrc
 have hAt:At v b off c1:=⟨cc,TT,fr,hvb,by rw [hl1];exact e12⟩
 refine ⟨fun _ _=>by kernel_rfl,?_⟩
 have hk:((k:Int).toNat)=k:=Int.toNat_natCast k
 rw [hk]
 refine ZWi (K:=48) (args:=[.slice (some ⟨b,off,none⟩) 1 c,.int .i64 (k:Int)]) hv Tryz.func97 rfl rfl zl fun fa hS=>?_
 refine sr ?_
 refine mw hS rfl fun fa hS=>?_
 refine oe ?_
 refine wp_seq_k fun N1 hN1=>?_
 refine sr ?_
 refine mv hS rfl fun fa hS=>?_
 refine ov hS rfl (Ze hS rfl rfl Z7b) fun fa hS=>?_
 refine oe ?_
 refine ZM hS rfl (decide_eq_false (by omega)) ?_
 refine wp_skip ?_
 refine Zf (hN1 _ _ ?_)
 refine sr ?_
 refine mv hS rfl fun fa hS=>?_
 refine ov hS rfl (Z7d hS rfl rfl ZNk) fun fa hS=>?_
 refine ov hS rfl (ZBd hS rfl (ZBr _)) fun fa hS=>?_
 refine mv hS rfl fun fa hS=>?_
 refine ov hS rfl (ZBd hS rfl (ZBr _)) fun fa hS=>?_
 have w1:IntKind.u64.wrap ((1:Nat):Int)=1:=by decide
 have w2:IntKind.u64.wrap (k:Int)=k:=Zme (ZOc.2 (by omega))
 rw [w1,w2] at hS
 have hmul:Z3j 1 (k:Int)=some (0,(k:Int)):=by
  unfold Z3j Zgc;rw [if_pos (by omega),Za];simp only;congr 2 <;> omega
 refine ZKo hS wn rfl zl (Zaa hS [.int .u64 1,.int .u64 (k:Int)] Zsv rfl rfl) (bmul_w hS.vin (show Rep.rel (Zd .u64) _ [.int .u64 1] 1 from ZD (by decide)) (show Rep.rel (Zd .u64) _ [.int .u64 (k:Int)] (k:Int) from ZD (ZOc.2 (by omega))) hmul) ?_;rintro _ v1 fa wo hle ⟨r0,r1,rfl,⟨rfl,_⟩,⟨rfl,_⟩⟩ hS;refine mv hS rfl fun fa hS=>?_;refine ov hS rfl (Zya hS rfl rfl) fun fa hS=>?_;refine ov hS rfl (Zya hS rfl rfl) fun fa hS=>?_;refine mw hS rfl fun fa hS=>?_;refine mw hS rfl fun fa hS=>?_;refine oe ?_;refine wp_seq_k fun N2 hN2=>?_;refine sr ?_;refine mv hS rfl fun fa hS=>?_;refine ov hS rfl (Ze hS rfl rfl ZUc) fun fa hS=>?_;have g1:decide ((0:Int)<0)=false:=rfl;have hS:St _ _ _ ((22,Value.bool false) :: _) _ _ _ _:=hS;refine mv hS rfl fun fa hS=>?_;refine op_v hS (ZWf hS rfl rfl rfl zl) rfl zl (Zz hS rfl) fun fa hS=>?_;refine op_v hS (ZWf hS rfl rfl rfl zl) rfl zl (Ze hS rfl rfl ZUc) fun fa hS=>?_;refine ov hS rfl (ZBb (b:=false) hS rfl rfl) fun fa hS=>?_;refine oe ?_;refine ZM hS rfl (decide_eq_false (by omega)) ?_;refine wp_skip ?_;refine Zf (hN2 _ _ ?_);refine sr ?_;refine mv hS rfl fun fa hS=>?_;refine ov hS rfl (ZBd hS rfl (Ztu _)) fun fa hS=>?_;have w3:IntKind.i64.wrap (k:Int)=k:=Zme (ZWa.2 (by omega));rw [w3] at hS;obtain ⟨b2,wo,hrun,hS'⟩:=Z2m Z2n hS (l:=(k:Int)) (c:=(k:Int)) h0 (Int.le_refl _) hb1 hb2
 refine Zub wn rfl zl (hrun rfl rfl) hS' fun fa hS=>?_;refine mw hS rfl fun fa hS=>?_;refine oe ?_;rw [hk] at hS;have hS:=hS.fr' (σ':=[(7,.slice (mkA (some b2)) k k),(0,.slice (some ⟨b,off,none⟩) 1 c)]) rfl;have src1:∀ {σ:List (Nat×Value)} {ℓ:List Loc} {v':Zb} {a:Act} {w':World},St 48 w v σ ℓ v' a w'→∀ j u,c1[j]? = some u→w'.cell? ((⟨b,off,none⟩:Addr).add j)=some u:=fun hS j u hu=>by
  have:=(hS.view (At.mono hS.vst.le hAt)).cell hu
  rwa [ZXa]
 have hpl1:c1.all plain=true:=Rep.flat _ hrc;obtain ⟨zc,hzc⟩:∃ zc:List Value,zc=(Value.agg #[Value.bool false,Value.slice none 0 0,Value.slice none 0 0]:Value).cells.toList:=⟨_,rfl⟩;have hzl:zc.length=(Zab).n:=by rw [hzc];rfl
 rw [← hzc] at hS
 let Inv:Nat→Act→World→Prop:=fun j a w'=>∃ v',j≤k∧(0<k→0<j)∧St 48 w v [(8,.int .i64 (j:Int)),(7,.slice (mkA (some b2)) k k)] [.own (some b2) 43 (Zab).n k k ((List.replicate j c1).flatten++(List.replicate (k-j) zc).flatten)] v' a w'
 have rl:=fun n=>ZOj hl1 n;have rpl:∀ n:Nat,((List.replicate n c1).flatten).all plain=true:=fun n=>ZYs hpl1 n;have step:=fun j m (hjm:j+m≤k)=>rp_step (k:=k) hl1 hzl hjm;refine sr ?_;refine mv hS rfl fun fa hS=>?_;refine mv hS rfl fun fa hS=>?_;have hS1:St 48 w v _ [.own (some b2) 43 (Zab).n k k ((List.replicate 0 c1).flatten++(List.replicate (k-0) zc).flatten)] v1 fa wo:=hS;obtain ⟨wo2,hr,hS'⟩:=Z3o (t:=30) (sT:=30) Z2n hS1 (i:=0) rfl (p:=0) (k:=min 1 k) (c:=(List.replicate (min 1 k) c1).flatten) (rl _) (by omega) (rpl _) (ad:=⟨b,off,none⟩) (sLen:=1) (sCap:=c) (dLen:=k) (dCap:=k) (fun j u hu=>by
  rcases Nat.lt_or_ge 0 k with hk0 | hk0
  ·rw [show min 1 k=1 by omega] at hu;simp only [List.replicate_one,List.flatten_cons,List.flatten_nil,List.append_nil] at hu;exact src1 hS1 j u hu
  ·rw [show min 1 k=0 by omega] at hu;simp at hu) rfl
 have hst:=step 0 (min 1 k) (by omega);simp only [List.set_cons_zero] at hS';rw [hst] at hS';simp only [Nat.zero_add] at hS';rw [Nat.zero_mul] at hr;refine Zub wn rfl zl (Z3r hS1 rfl rfl (hr _)) hS' fun fa hS=>?_;refine mw hS rfl fun fa hS=>?_;refine oe ?_;have hS:=hS.fr' (σ':=[(8,.int .i64 ((min 1 k:Nat):Int)),(7,.slice (mkA (some b2)) k k)]) rfl;refine wp_seq_k fun N3 hN3=>?_;refine wp_block ?_;refine wp_loop_fuel (fun m a w'=>∃ j,k-j<m∧Inv j a w') (k+1) ⟨min 1 k,by omega,v1,by omega,by omega,hS⟩ (fun a w' ⟨j,h,_⟩=>by omega) ?_;rintro m fa wo3 ⟨j,hjm,v3,hjk,hj0,hS⟩ N hN;refine wp_seq_k fun N4 hN4=>?_;refine sr ?_;refine mv hS rfl fun fa hS=>?_;refine mv hS rfl fun fa hS=>?_;refine ov hS rfl (Z7d hS rfl rfl ZNk) fun fa hS=>?_;refine ov hS rfl (Ze hS rfl rfl Z7b) fun fa hS=>?_;refine oe ?_;by_cases hlt:j<k
 ·refine ZQ hS rfl (decide_eq_true (by omega)) ?_;refine wp_skip ?_;refine Zf (hN4 _ _ ?_);refine wp_block ?_;have hS:=hS.fr' (σ':=[(8,.int .i64 (j:Int)),(7,.slice (mkA (some b2)) k k)]) rfl;refine Z8d (fl:=#[true,true,true,true,true,true,true,false,false,false]) Zcv (by kernel_rfl) hS ?_;intro ops hops hF wo hS;refine rf hops hF 0 rfl (by kernel_rfl) rfl hS (Zz hS rfl) fun fa hS=>?_;refine rf hops hF 1 rfl (by kernel_rfl) rfl hS (Zz hS rfl) fun fa hS=>?_;refine rf hops hF 2 rfl (by kernel_rfl) rfl hS (Zz hS rfl) fun fa hS=>?_;refine rf hops hF 3 rfl (by kernel_rfl) rfl hS (Zou hS ZNk rfl rfl (by omega) (by omega)) fun fa hS=>?_;refine rf hops hF 4 rfl (by kernel_rfl) rfl hS (Zz hS rfl) fun fa hS=>?_;refine rf hops hF 5 rfl (by kernel_rfl) rfl hS (Zz hS rfl) fun fa hS=>?_;refine rf hops hF 6 rfl (by kernel_rfl) rfl hS (Zvw hS ZNk rfl rfl (by omega) (by omega)) fun fa hS=>?_;rw [Nat.zero_add] at hS;obtain ⟨wo',hr,hS'⟩:=Z3o (t:=30) (sT:=30) Z2n hS (i:=0) rfl (p:=j) (k:=min j (k-j)) (c:=(List.replicate (min j (k-j)) c1).flatten) (rl _) (by omega) (rpl _) (ad:=⟨b2,0,none⟩) (sLen:=j) (sCap:=k) (dLen:=k-j) (dCap:=k-j) (fun i u hu=>by
   have hi:=(List.getElem?_eq_some_iff.1 hu).1;refine Ztk hS (j:=0) rfl i u ?_;rw [ZDp (c:=c1) (m:=min j (k-j)) (n:=j) (by omega),List.append_assoc,List.getElem?_append_left hi];exact hu) rfl
  have hst:=step j (min j (k-j)) (by omega);simp only [List.set_cons_zero] at hS';rw [hst] at hS';refine Zjj hops hF 7 (by kernel_rfl) ?_;refine nx_ex' [3,6,1,2,4,5] [0] hops rfl (by kernel_rfl) wn rfl zl (Z3r hS rfl rfl (hr _)) hS' fun fa hS=>?_;refine ⟨(py hS rfl rfl (Zz hS rfl) Zjc),?_⟩;refine Zjj hops hF 8 (by kernel_rfl) ?_;have hadd:chk .i64 ((j:Int)+((min j (k-j):Nat):Int))=some ((j+min j (k-j):Nat):Int):=by rw [ZA (by omega) (by omega)];rfl
  refine nv [0,7,3,6,1,2,4,5] [] hops rfl (by kernel_rfl) rfl hS (Ze hS rfl rfl (ZJa hadd)) fun fa hS=>?_;refine ⟨Zjc,?_⟩;refine Zjj hops hF 9 (by kernel_rfl) ?_;refine nv [0,1,2,3,4,5,6,7,8] [] hops rfl (by kernel_rfl) rfl hS (ZRc hS rfl) fun fa hS=>?_;refine ⟨Zjc,?_⟩;refine ZLq hops hF (by kernel_rfl) ?_;refine Zsb ?_;have hj0:=hj0 (by omega);exact Zf (hN _ _ ⟨j+min j (k-j),by omega,v3,by omega,fun _=>by omega,hS.fr' rfl⟩)
 refine ZM hS rfl (decide_eq_false (by omega)) ?_;refine wp_exit ?_;refine ZZ ?_;refine ZZ ?_;refine Z6a ?_;refine Zf (hN3 _ _ ?_);have hjk:j=k:=by omega
 subst hjk;rw [Nat.sub_self,List.replicate_zero,List.flatten_nil,List.append_nil] at hS;refine sr ?_;refine mv hS rfl fun fa hS=>?_;refine mw hS rfl fun fa hS=>?_;refine oe ?_;refine wp_ret ?_;exact Zmo hS (i:=0) rfl (ZMa rfl (ZT hS rfl)) (Z5d (Rep.mono _ hS.vst.le hrc) _) (List.length_replicate (n:=j) (a:=y)).symm
end Go.Eng
set_option maxRecDepth 100000
set_option maxHeartbeats 4000000
namespace Go.Eng
open Go.Proofs Go.RowKit
noncomputable def Z6f:FuncId×Con:=(14,⟨[.slice (.slice (.leaf 3))],[.slice (.slice (.leaf 3)),.int .i64],fun p=>ZNg p⟩)
theorem ZKv (m : List (List Rat)) : Zm ⟨Tryz.prog, [(39, 0), (41, 2), (43, 3), (91, 1), (93, 4)], [Zfd, Zgf, Zed, Zvl, Z1b, ZGc], [], [Z0e], [], [((43, "Neg"), 117)], []⟩ [(49, Tryz.f49, .no)] Tryz.f14 (.two .no (.two .no (.two .no (.two .no (.two (.two .no (.two (.cut ⟨⟨[0, 4, 5, 22], [], [.s 7 (.own 30 (.slice (.leaf 3))), .s 23 (.dat (.int .i64))]⟩, [(.exit 0, ⟨[], [], [.s 7 (.own 30 (.slice (.leaf 3)))]⟩)]⟩ (.two (.two .no (.two .no (.two (.cut ⟨⟨[], [], []⟩, [(.norm, ⟨[0, 4, 5, 22, 23], [], [.s 7 (.own 30 (.slice (.leaf 3)))]⟩)]⟩ (.two (.two .no (.two .no (.two .no (.two .no (.two (.two .no (.two (.cut ⟨⟨[0, 4, 5, 7, 8, 9, 22, 23, 36, 37], [], [.s 38 (.dat (.int .i64)), .l (.sl 9) (.own 43 (.leaf 3))]⟩, [(.exit 2, ⟨[0, 4, 5, 7, 9, 22, 23], [], [.l (.sl 9) (.own 43 (.leaf 3))]⟩)]⟩ .no) .no)) .no))))) .no)) .no))) .no)) .no)) .no))))) [.slice (.slice (.leaf 3))] [.slice (.slice (.leaf 3)), .int .i64] (m) = ZNg m := by kernel_rfl
theorem Z8q : Zk Tryz.prog Z6f.1 Z6f.2 := Zp (C := ⟨Tryz.prog, [(39, 0), (41, 2), (43, 3), (91, 1), (93, 4)], [Zfd, Zgf, Zed, Zvl, Z1b, ZGc], [], [Z0e], [], [((43, "Neg"), 117)], []⟩) ⟨Znj, ZPn, Zgl, Zus, ZCg, Z3h, trivial⟩ ⟨Zdm, trivial⟩ trivial ⟨Zhl, trivial⟩ (inl := [(49, Tryz.f49, .no)]) ⟨⟨Tryz.func49, fun _ _ => by kernel_rfl⟩, trivial⟩ (ann := (.two .no (.two .no (.two .no (.two .no (.two (.two .no (.two (.cut ⟨⟨[0, 4, 5, 22], [], [.s 7 (.own 30 (.slice (.leaf 3))), .s 23 (.dat (.int .i64))]⟩, [(.exit 0, ⟨[], [], [.s 7 (.own 30 (.slice (.leaf 3)))]⟩)]⟩ (.two (.two .no (.two .no (.two (.cut ⟨⟨[], [], []⟩, [(.norm, ⟨[0, 4, 5, 22, 23], [], [.s 7 (.own 30 (.slice (.leaf 3)))]⟩)]⟩ (.two (.two .no (.two .no (.two .no (.two .no (.two (.two .no (.two (.cut ⟨⟨[0, 4, 5, 7, 8, 9, 22, 23, 36, 37], [], [.s 38 (.dat (.int .i64)), .l (.sl 9) (.own 43 (.leaf 3))]⟩, [(.exit 2, ⟨[0, 4, 5, 7, 9, 22, 23], [], [.l (.sl 9) (.own 43 (.leaf 3))]⟩)]⟩ .no) .no)) .no))))) .no)) .no))) .no)) .no)) .no)))))) Tryz.func14 (fun _ _ => by kernel_rfl) rfl (fun v vals x z ha hz => (ZKv x).trans hz)
end Go.Eng
namespace Go.Eng
open Go.Proofs Go.RowKit
theorem Zuu {r:World} {d:Zb} (hv:VIn d r) {D:List Value} {n:Int} (L:Rep.rel (Zd .u64) d D n) {z:(List UInt8)} (H:ZDk n=some z):Ret Tryz.prog 128 #[(Zd .u64).val D] r d (fun y v'=>∃ E,y=Z4a.val E∧Z4a.rel v' E z):=by
 obtain ⟨rfl,M⟩:=L;refine ZLb (K:=20) (args:=[.int .u64 n]) hv Tryz.func128 rfl rfl zl fun f S=>?_;unfold ZDk at H;refine sr (mw S rfl fun f S=>oe (sr (Zhq S wn rfl zl (cs:=[.int .u8 0,.int .u8 0,.int .u8 0,.int .u8 0,.int .u8 0,.int .u8 0,.int .u8 0,.int .u8 0,.int .u8 0,.int .u8 0,.int .u8 0,.int .u8 0,.int .u8 0,.int .u8 0,.int .u8 0,.int .u8 0,.int .u8 0,.int .u8 0,.int .u8 0,.int .u8 0]) (ZWn k_zv208) fun s f w S=>?_)));have S:=S.boxOwn 1 20 rfl zl;have N:Rep.rels (Zd .u8) d [.int .u8 0,.int .u8 0,.int .u8 0,.int .u8 0,.int .u8 0,.int .u8 0,.int .u8 0,.int .u8 0,.int .u8 0,.int .u8 0,.int .u8 0,.int .u8 0,.int .u8 0,.int .u8 0,.int .u8 0,.int .u8 0,.int .u8 0,.int .u8 0,.int .u8 0,.int .u8 0] (List.replicate 20 (0:Int)):=Z5d (show Rep.rel (Zd .u8) _ [Value.int .u8 0] 0 from ⟨rfl,by decide⟩) 20;refine oe (sr (mw S rfl fun f S=>oe (Zj fun _ O=>?_)));obtain ⟨P,Q,R⟩:=ZE H;refine Zva (fun f w=>∃ l m B t,(l,m)=P∧Zb.le d t∧St 20 r d [(3,.pointer (some ⟨s,0,none⟩)),(4,.int .i64 m)] [Loc.own (some s) 208 1 20 20 B] t f w∧Rep.rels (Zd .u8) t B l∧20=l.length∧inR .i64 m) (fun _ T=>?_) ?_
 ·have H:=Q;refine wp_block ?_;obtain ⟨ak,U,V⟩:=ZE H;refine Zwb U (fun W f w=>∃ h o u b k,(h,o,u)=W∧Zb.le d k∧St 20 r d [(0,.int .u64 o),(3,.pointer (some ⟨s,0,none⟩)),(4,.int .i64 u)] [Loc.own (some s) 208 1 20 20 b] k f w∧Rep.rels (Zd .u8) k b h∧20=h.length∧inR .u64 o∧inR .i64 u) ⟨_,_,_,[.int .u8 0,.int .u8 0,.int .u8 0,.int .u8 0,.int .u8 0,.int .u8 0,.int .u8 0,.int .u8 0,.int .u8 0,.int .u8 0,.int .u8 0,.int .u8 0,.int .u8 0,.int .u8 0,.int .u8 0,.int .u8 0,.int .u8 0,.int .u8 0,.int .u8 0,.int .u8 0],_,rfl,(leR _),(S.fr' rfl),N,(List.length_replicate (n:=20) (a:=(0:Int))).symm,M,(by decide)⟩ ?_;rintro _ f w st ⟨h,o,u,b,k,hq,F,S,C,v,al,X⟩ H am Y Z;subst hq;refine Zj fun _ aa=>sr (mv S rfl fun f S=>ov S rfl (Ze S rfl rfl ZUc) fun f S=>oe ?_);rcases ZL (decide ((0:Int)<o)) with p | p
  ·have H:=ZJ H p;refine ZQ S rfl p (wp_skip (Zf (aa _ _ (Zj fun _ ab=>wp_block (Zj fun _ ac=>bO H fun e G H=>Zu (mv S rfl fun f S=>ov S rfl (Ze S rfl rfl (Zwa G)) fun f S=>mw S rfl fun f S=>Zs (Zf (ac _ _ (bO H fun g ad H=>?_)))))))));refine bO H fun an q H=>Zu (mv S rfl fun f S=>mv S rfl fun f S=>ov S rfl (Ze S rfl rfl (Zye ad)) fun f S=>ov S rfl (Ze S rfl rfl ZXb) fun f S=>ov S rfl (ZBd S rfl (Zzq _)) fun f S=>?_);have I:=Zja C (Zi q).2.1;obtain ⟨ao,ae⟩:∃ c,(List.take (Zd .u8).n (List.drop ((e).toNat*(Zd .u8).n) b))=c:=⟨_,rfl⟩;rw [ae] at I;obtain ⟨rfl,ap⟩:=I;refine ov S rfl (Zsr S ZKp rfl rfl (Zi q).1 (ltI v (Zi q).2.2.1)) fun f S=>?_;obtain ⟨w,af,S⟩:=ZNb S k_sz5 (off:=0+(e).toNat*1) (z:=.int .u8 (IntKind.u8.wrap (IntKind.u64.wrap ((48:Int)+g)))) (cs:=[.int .u8 (IntKind.u8.wrap (IntKind.u64.wrap ((48:Int)+g)))]) (Zzb rfl) rfl (i:=0) rfl (Zsd S (j:=0) rfl (ltN v (Zi q).2.2.2)) (by first | rfl | simp [plain]);have ag:Rep.rels (Zd .u8) k (List.take (0+(e).toNat*1) b++[Value.int IntKind.u8 (IntKind.u8.wrap (IntKind.u64.wrap ((48:Int)+g)))]++List.drop (0+(e).toNat*1+1) b) (h.set (e).toNat (IntKind.u8.wrap (IntKind.u64.wrap ((48:Int)+g)))):=ZXc C (Zi q).2.2.2 (show Rep.rel (Zd .u8) k [.int .u8 (IntKind.u8.wrap (IntKind.u64.wrap ((48:Int)+g)))] _ from (ZD (Zqa _ _))) rfl rfl
   have ah:20=(h.set (e).toNat (IntKind.u8.wrap (IntKind.u64.wrap ((48:Int)+g)))).length:=Zld v;refine Zrf wn rfl (af rfl rfl) (Zs (Zsb (Zf (ab _ _ (bO H fun aq J H=>Zu (mv S rfl fun f S=>ov S rfl (Ze S rfl rfl (Zac J)) fun f S=>mw S rfl fun f S=>Zs ?_))))));obtain rfl:=Zn H;refine Y _ rfl _ _ ⟨_,_,_,(List.take (0+(e).toNat*1) b++[Value.int IntKind.u8 (IntKind.u8.wrap (IntKind.u64.wrap ((48:Int)+g)))]++List.drop (0+(e).toNat*1+1) b),_,rfl,F,(S.fr' rfl),ag,ah,(ZWh J),(Zsa G).2⟩
  have H:=ZK H p;refine ZM S rfl p (wp_exit (ZZ ?_));obtain rfl:=Zn H;have hq:=Z _ rfl;subst hq;have H:=V;refine ZZ (Z6a ?_);obtain rfl:=Zn H;refine Zf (T _ _ ⟨_,_,b,_,rfl,(leT (leR _) F),(S.fr' rfl),C,v,X⟩)
 rintro f w ⟨l,m,B,t,hq,ar,S,ai,x,au⟩;subst hq;have H:=R;refine Zf (O _ _ (Zj fun _ aj=>bO H fun av A H=>Zu (mv S rfl fun f S=>ov S rfl (Zov S ZKp rfl rfl (Z2c A).1 (by have:=(Z2c A).2.1;have:=x;omega)) fun f S=>ov S rfl (Ztv S (j:=0) rfl ai x (by have:=(Z2c A).2.1;have:=(Z2c A).1;have:=x;omega) rfl Tryz.underlying174 Tryz.underlying5 Tryz.underlying9) fun f S=>mw S rfl fun f S=>Zs (Zf (aj _ _ (wp_ret ?_))))));obtain rfl:=Zn H;refine ZAa S (ZMa rfl (ZT S rfl)) ⟨[.string (Zx ((Zzd (l.drop ((m).toNat)))))],rfl,(ZPh (by have:=x;simp only [ZNs,List.length_drop];unfold maxLen;omega))⟩
theorem Z6w {b:World} {a:Zb} (hv:VIn a b) {c:List Value} {n:Int} (d:Rep.rel (Zd .u64) a c n) {z:(List UInt8)} (hm:ZOg n=some z) :
  Ret Tryz.prog 128 #[(Zd .u64).val c] b a (fun y v'=>∃ e,y=Z4a.val e∧Z4a.rel v' e z) :=
 Zuu hv d (ZSu d.2 hm)
end Go.Eng
namespace Go.Proofs
open Go.Shelf
def Tryz.lays105_ren:Go.Shelf.Ren:=⟨fun | 105=>129 | 212=>139 | 99=>167 | 165=>168 | 166=>130 | 170=>169 | 169=>131 | 263=>174 | 264=>106 | 206=>183 | 240=>170 | 241=>184 | 276=>185 | 277=>194 | n=>n,fun | 9=>9 | 3=>3 | 4=>4 | 20=>20 | 0=>0 | 46=>187 | 109=>188 | 5=>5 | 72=>176 | 76=>179 | 51=>185 | 146=>216 | 53=>148 | 148=>152 | 70=>173 | 37=>174 | 75=>178 | 127=>211 | 164=>226 | 80=>88 | n=>n,fun | n=>n⟩
theorem Tryz.lays105:Go.Proofs.Lays.n105 Tryz.prog Tryz.lays105_ren:={
 mixed:=by kernel_rfl
 f99:=Tryz.func167.trans (congrArg some (by kernel_rfl))
 f105:=Tryz.func129.trans (congrArg some (by kernel_rfl))
 f165:=Tryz.func168.trans (congrArg some (by kernel_rfl))
 f166:=Tryz.func130.trans (congrArg some (by kernel_rfl))
 f169:=Tryz.func131.trans (congrArg some (by kernel_rfl))
 f170:=Tryz.func169.trans (congrArg some (by kernel_rfl))
 f206:=Tryz.func183.trans (congrArg some (by kernel_rfl))
 f212:=Tryz.func139.trans (congrArg some (by kernel_rfl))
 f240:=Tryz.func170.trans (congrArg some (by kernel_rfl))
 f241:=Tryz.func184.trans (congrArg some (by kernel_rfl))
 f263:=Tryz.func174.trans (congrArg some (by kernel_rfl))
 f264:=Tryz.func106.trans (congrArg some (by kernel_rfl))
 f276:=Tryz.func185.trans (congrArg some (by kernel_rfl))
 f277:=Tryz.func194.trans (congrArg some (by kernel_rfl))
 t0:=Tryz.underlying0
 a0:=Tryz.isAgg0
 z0:=Tryz.sizeOf0
 v0:=Tryz.zeroValue0
 t3:=Tryz.underlying3
 a3:=Tryz.isAgg3
 z3:=Tryz.sizeOf3
 v3:=Tryz.zeroValue3
 t4:=Tryz.underlying4
 a4:=Tryz.isAgg4
 z4:=Tryz.sizeOf4
 v4:=Tryz.zeroValue4
 t5:=Tryz.underlying5
 a5:=Tryz.isAgg5
 z5:=Tryz.sizeOf5
 v5:=Tryz.zeroValue5
 t9:=Tryz.underlying9
 a9:=Tryz.isAgg9
 z9:=Tryz.sizeOf9
 v9:=Tryz.zeroValue9
 t20:=Tryz.underlying20
 a20:=Tryz.isAgg20
 z20:=Tryz.sizeOf20
 v20:=Tryz.zeroValue20
 t37:=Tryz.underlying174
 a37:=Tryz.isAgg174
 z37:=Tryz.sizeOf174
 v37:=Tryz.zeroValue174
 t46:=Tryz.underlying187
 a46:=Tryz.isAgg187
 z46:=Tryz.sizeOf187
 v46:=Tryz.zeroValue187
 t51:=Tryz.underlying185
 a51:=Tryz.isAgg185
 z51:=Tryz.sizeOf185
 v51:=Tryz.zeroValue185
 t53:=Tryz.underlying148
 a53:=Tryz.isAgg148
 z53:=Tryz.sizeOf148
 v53:=Tryz.zeroValue148
 t70:=Tryz.underlying173
 a70:=Tryz.isAgg173
 z70:=Tryz.sizeOf173
 v70:=Tryz.zeroValue173
 t72:=Tryz.underlying176
 a72:=Tryz.isAgg176
 z72:=Tryz.sizeOf176
 v72:=Tryz.zeroValue176
 t75:=Tryz.underlying178
 a75:=Tryz.isAgg178
 z75:=Tryz.sizeOf178
 v75:=Tryz.zeroValue178
 t76:=Tryz.underlying179
 a76:=Tryz.isAgg179
 z76:=Tryz.sizeOf179
 v76:=Tryz.zeroValue179
 t109:=Tryz.underlying188
 a109:=Tryz.isAgg188
 z109:=Tryz.sizeOf188
 v109:=Tryz.zeroValue188
 t127:=Tryz.underlying211
 a127:=Tryz.isAgg211
 z127:=Tryz.sizeOf211
 v127:=Tryz.zeroValue211
 t146:=Tryz.underlying216
 a146:=Tryz.isAgg216
 z146:=Tryz.sizeOf216
 v146:=Tryz.zeroValue216
 t148:=Tryz.underlying152
 a148:=Tryz.isAgg152
 z148:=Tryz.sizeOf152
 v148:=Tryz.zeroValue152
 t164:=Tryz.underlying226
 a164:=Tryz.isAgg226
 z164:=Tryz.sizeOf226
 v164:=Tryz.zeroValue226 }
theorem Tryz.Builder_Extra_105:Builder.Extra Tryz.prog Tryz.lays105_ren:={
 sizeBuilder:=by kernel_rfl
 liesBuilder:=by kernel_rfl
 t5:=Tryz.underlying5
 a5:=Tryz.isAgg5
 z5:=Tryz.sizeOf5
 v5:=Tryz.zeroValue5
 infoByte:=by kernel_rfl
 cellsByte:=by kernel_rfl
 sizeByte:=by kernel_rfl
 neB5:=by decide }
end Go.Proofs
namespace Go.Eng
open Go.Proofs Go.RowKit Go.Shelf
theorem writes:ZCo Tryz.prog 130 176 5:=fun B b bs s w h hl hB=>Any.Builder_WriteString { Tryz.lays105 with } Tryz.Builder_Extra_105 B b bs s w h hl hB
theorem tells:Tells Tryz.prog 131 176 5:=fun B b l w h hB=>Any.Builder_String_any { Tryz.lays105 with } Tryz.Builder_Extra_105 B b l w h hB
end Go.Eng
namespace Go.Eng
open Go.Proofs Go.RowKit
theorem Z4t (l:List UInt8) (c:Nat):Lib.repeatL l c=(List.replicate c l).flatten:=by
 induction c with
 | zero=>rfl
 | succ c ih=>simp [Lib.repeatL,List.replicate_succ,ih]
theorem ZBw {b:World} {a:Zb} (hv:VIn a b) {f:List Value} {s:List UInt8} (k:Rep.rel Z4a a f s) {g:List Value} {c:Int} (l:Rep.rel (Zd .i64) a g c) {z:List UInt8} (hm:Zjh s c=some z) :
  Ret Tryz.prog 129 #[Z4a.val f,(Zd .i64).val g] b a (fun y v'=>∃ h,y=Z4a.val h∧Z4a.rel v' h z):=by
 obtain ⟨rfl,hs⟩:=k;obtain ⟨rfl,hc⟩:=l;unfold Zjh at hm;split at hm
 ·rename_i hh
  cases hm
  obtain ⟨C,rfl⟩:=Int.eq_ofNat_of_zero_le hh.1;have hc:=ZWa.1 hc;have d:=hh.2;rw [Int.toNat_natCast] at d;have:=Any.strings_Repeat Tryz.lays105 Tryz.Builder_Extra_105 (Zx s) C b (by omega) (by rw [ZYc];exact d);refine Calls.mono this fun e w' ⟨i,j⟩=>?_;have m:(⟨(Lib.repeatL (Zx s).data.toList C).toArray⟩:ByteArray)=Zx (List.replicate C s).flatten:=by
   rw [Z4t];rfl
  rw [m] at i;exact ⟨_,a,i,j,VStep.ext hv j,[.string (Zx (List.replicate C s).flatten)],rfl,rfl,by simp only [Int.toNat_natCast];rw [List.length_flatten];simp;unfold maxLen;rw [Nat.mul_comm] at d;omega⟩
 ·cases hm
theorem text_w {e:World} {c:Zb} (hv:VIn c e) {c0:List Value} {a:Nat} (p0:Rep.rel Zv c c0 a) {z:(List UInt8)} (H:Zsh a=some z):Ret Tryz.prog 82 #[Zv.val c0] e c (fun y v'=>∃ r0,y=Z4a.val r0∧Z4a.rel v' r0 z):=by
 obtain ⟨q1,n2,k3,rfl⟩:=Zia p0;refine ZLb (K:=49) (args:=[.slice q1 n2 k3]) hv Tryz.func82 rfl rfl zl fun f S=>?_;unfold Zsh at H;refine sr (mw S rfl fun f S=>oe (sr ?_));have S:=S.nilLoc 9 1;refine ov S rfl (ZRc S (y:=.slice (mkA none) 0 0) rfl) fun f S=>oe (Zj fun _ ar=>?_);obtain ⟨au,av,aw⟩:=ZE H;refine Zva (fun f w=>∃ o F s G U I,o=au∧Zb.le c I∧St 49 e c [(3,.slice (mkA F) s G)] [Loc.own F 9 1 s G U] I f w∧Rep.rels Z4a I U o∧s=o.length) (fun _ ax=>?_) ?_
 ·have H:=av;refine wp_block ?_;obtain ⟨bs,ay,az⟩:=ZE H;refine Zwb ay (fun aA f w=>∃ J g L M N p h q k t,(J,g)=aA∧Zb.le c t∧St 49 e c [(0,.slice L M N),(3,.slice (mkA p) h q)] [Loc.own p 9 1 h q k] t f w∧Rep.rel Zv t [.slice L M N] J∧Rep.rels Z4a t k g∧h=g.length) ⟨_,_,_,_,_,none,0,0,[],_,rfl,(leR _),(S.fr' rfl),p0,ZVd,rfl⟩ ?_;rintro _ f w st ⟨J,g,L,M,N,p,h,q,k,t,hq,ac,S,ad,d,ae⟩ H bt aB aC;subst hq;refine Zj fun _ aD=>sr (mv S rfl fun f S=>ov S rfl (Zea S (ZG ad) rfl rfl ZB) fun f S=>ov S rfl (Ze S rfl rfl ZUc) fun f S=>oe ?_);rcases ZL (decide ((0:Int)<(((Zc 18446744073709551616 J)).length:Int))) with u | u
  ·have H:=ZJ H u;refine ZQ S rfl u (wp_skip (Zf (aD _ _ (wp_block (Zj fun _ aE=>bO H fun O aF H=>Zu (mv S rfl fun f S=>opc S rfl (Zaa S [.slice L M N,.int .u64 10000000000000000000] Z1o rfl rfl) (Zjq S.vin ad (show Rep.rel (Zd .u64) _ [.int .u64 10000000000000000000] (10000000000000000000:Int) from (ZD (by decide))) aF) ?_))))));rintro _ bu f w af ⟨bv,bw,rfl,m,aG⟩ S;have d:=ZW af d;obtain ⟨aH,aI,aJ,rfl⟩:=Zia m;obtain ⟨rfl,aK⟩:=aG;refine mv S rfl fun f S=>ov S rfl (Zya S rfl rfl) fun f S=>ov S rfl (Zya S rfl rfl) fun f S=>mw S rfl fun f S=>mw S rfl fun f S=>Zs (Zf (aE _ _ (Zj fun _ aL=>bO H fun bx aM H=>Zu (mv S rfl fun f S=>opc S rfl (Zaa S [.int .u64 (O.2)] k_en128 rfl rfl) (Z6w S.vin (show Rep.rel (Zd .u64) _ [.int .u64 (O.2)] O.2 from (ZD aK)) aM) ?_))));rintro _ aN f w V ⟨bz,rfl,aO⟩ S;have d:=ZW V d;obtain ⟨rfl,aP⟩:=aO;refine mw S rfl fun f S=>Zs (Zf (aL _ _ (Zj fun _ aQ=>sr (mv S rfl fun f S=>?_))));have m:=Z7 V m;refine ov S rfl (Zea S (ZG m) rfl rfl ZB) fun f S=>ov S rfl (Ze S rfl rfl ZUc) fun f S=>oe ?_;obtain ⟨aR,aS,aT⟩:=ZE H;refine Zva (fun f w=>∃ b P,b=aR∧Zb.le aN P∧St 49 e c [(3,.slice (mkA p) h q),(4,.slice aH aI aJ),(6,.string (Zx b))] [Loc.own p 9 1 h q k] P f w∧b.length≤maxLen) (fun _ ag=>?_) ?_
   ·have H:=aS;rcases ZL (decide ((0:Int)<(((Zc 18446744073709551616 O.1)).length:Int))) with v | v
    ·have H:=ZJ H v;refine ZQ S rfl v (bO H fun W ah H=>bO H fun bA aU H=>bO H fun bB ai H=>Zu (mv S rfl fun f S=>ov S rfl (Zgq S rfl rfl Tryz.underlying9) fun f S=>ov S rfl (Ze S rfl rfl (Zwa ah)) fun f S=>opc S rfl (Zaa S [.string (Zx (([48]:List UInt8))),.int .i64 W] k_en129 rfl rfl) (ZBw S.vin (show Rep.rel Z4a _ [.string (Zx (([48]:List UInt8)))] (([48]:List UInt8)) from (ZPh zl)) (show Rep.rel (Zd .i64) _ [.int .i64 W] W from (ZD (Zsa ah).2)) aU) ?_));rintro _ bC f w aj ⟨bD,rfl,aV⟩ S;have d:=ZW aj d;obtain ⟨rfl,bE⟩:=aV;refine mv S rfl fun f S=>ov S rfl (ZVi S rfl rfl (Zir ai)) fun f S=>mw S rfl fun f S=>Zs ?_;obtain rfl:=Zn H;refine Zf (ag _ _ ⟨_,_,rfl,(leT (leR _) aj),(S.fr' rfl),(ZAk ai)⟩)
    have H:=ZK H v;refine ZM S rfl v (wp_skip ?_);obtain rfl:=Zn H;refine Zf (ag _ _ ⟨_,_,rfl,(leR _),(S.fr' rfl),aP⟩)
   rintro f w ⟨b,P,hq,X,S,aW⟩;subst hq;have H:=aT;have d:=ZW X d;refine Zf (aQ _ _ (bO H fun bG aX H=>Zu (mv S rfl fun f S=>mv S rfl fun f S=>?_)));obtain ⟨bH,w,aY,S⟩:=ZFf S (n:=1) (cs:=[.string (Zx b)]) (vals:=[(0,.string (Zx b))]) (sz:=1) rfl (by decide) (ZJn ZDr (x:=.string (Zx b)) (cs:=[.string (Zx b)]) rfl rfl (by decide));have Y:Rep.rels Z4a P [.string (Zx b)] [b]:=(Zfo (ZPh aW) ZVd);refine Zub wn rfl zl (aY rfl) S fun f S=>?_;have aZ:=S;obtain ⟨ak,al,w,a0,S⟩:=Z2i (ty:=168) ZDr S (i:=1) (n':=(g++[b]).length) rfl (Zpe Y rfl) (Ztk S (j:=0) rfl) (Zpk Y) (appN ae rfl) (Zoe aX) (by decide);have a1:=ZBc d Y;refine Zub wn rfl zl (Z3d aZ rfl rfl a0) S fun f S=>mv S rfl fun f S=>mw S rfl fun f S=>mw S rfl fun f S=>Zs (Zsb ?_);obtain rfl:=Zn H;have S:=S.reorder (ℓ':=[Loc.own ak 9 1 ((g++[b]).length) al ((k++[.string (Zx b)]))]) [1] rfl (by decide);have m:=Z7 X m;refine aB _ rfl _ _ ⟨_,_,_,_,_,ak,(g++[b]).length,al,(k++[.string (Zx b)]),_,rfl,(leT (leT (leT ac af) V) X),(S.fr' rfl),m,a1,rfl⟩
  have H:=ZK H u;refine ZM S rfl u (wp_exit (ZZ ?_));obtain rfl:=Zn H;have hq:=aC _ rfl;subst hq;have H:=az;refine ZZ (Z6a ?_);obtain rfl:=Zn H;refine Zf (ax _ _ ⟨_,p,h,q,k,_,rfl,(leT (leR _) ac),(S.fr' rfl),d,ae⟩)
 rintro f w ⟨o,F,s,G,U,I,hq,bI,S,a2,am⟩;subst hq;have H:=aw;refine Zf (ar _ _ (Zj fun _ a3=>sr (mv S rfl fun f S=>ov S rfl (Zea S am rfl rfl Zqn) fun f S=>ov S rfl (Ze S rfl rfl Z4d) fun f S=>oe ?_)));rcases ZL (((o.length:Int))==(0:Int)) with B | B
 ·have H:=ZJ H B;refine ZQ S rfl B (sr (mw S rfl fun f S=>oe (wp_ret (ZVa ?_))));obtain rfl:=Zn H;refine ZAa S (ZMa rfl (ZT S rfl)) ⟨[.string (Zx (([48]:List UInt8)))],rfl,(ZPh zl)⟩
 have H:=ZK H B;refine ZM S rfl B (wp_skip (Zf (a3 _ _ (sr ?_))));obtain ⟨an,bJ,S,C⟩:=S.pubSlice (i:=0) (A:=Z4a) (l:=o) (ℓ':=[]) rfl rfl am a2 rfl;refine op_newB 5 S wn rfl zl (ZWn k_zv176) fun r f w S a4=>oe (Zj fun _ a5=>Zj fun _ a6=>bO H fun bK ao H=>Zu (mv S rfl fun f S=>ov S rfl (Zea S (ZG C) rfl rfl Zqn) fun f S=>ov S rfl (Ze S rfl rfl (Zwa ao)) fun f S=>mw S rfl fun f S=>Zs (Zf (a6 _ _ ?_))));obtain ⟨a7,a8,a9⟩:=ZE H;refine Zva (fun f w=>∃ Q R,Q=a7∧Zb.le an R∧St 49 e c [(7,.pointer (some ⟨r,0,none⟩))] [] R f w∧Bld 176 5 r e R Q w) (fun _ ba=>?_) ?_
 ·have H:=a8;refine wp_block ?_;obtain ⟨bM,bb,bc⟩:=ZE H;refine Zwb bb (fun bd f w=>∃ Z D T,(Z,D)=bd∧Zb.le an T∧St 49 e c [(3,.slice (mkA F) s G),(7,.pointer (some ⟨r,0,none⟩)),(8,.int .i64 D)] [] T f w∧Bld 176 5 r e T Z w∧inR .i64 D) ⟨_,_,_,rfl,(leR _),(S.fr' rfl),a4,(Zsa ao).2⟩ ?_;rintro _ f w st ⟨Z,D,T,hq,aa,S,ap,bP⟩ H bQ be bf;subst hq;refine Zj fun _ bg=>sr (mv S rfl fun f S=>ov S rfl (Ze S rfl rfl Zec) fun f S=>oe ?_);rcases ZL (decide ((0:Int)≤D)) with E | E
  ·have H:=ZJ H E;refine ZQ S rfl E (wp_skip (Zf (bg _ _ (Zj fun _ bh=>wp_block (bO H fun bi ab H=>bO H fun bR bj H=>Zu (mv S rfl fun f S=>mv S rfl fun f S=>?_))))));have C:=Z7 aa C;obtain ⟨_,bS,bT,bU,bk,bm,bn⟩:=Z8a C (Zi ab).2.1;obtain ⟨rfl,rfl⟩:=Zpv bk;obtain ⟨rfl,bV⟩:=bn;refine ov S rfl (ZN S rfl rfl Zqn (Zi ab).1 (ltI (ZG C) (Zi ab).2.2.1)) fun f S=>ov S rfl (Zka S rfl k_sz9 (S.view bm)) fun f S=>Zhv writes ap (Z8t bj) S wn rfl zl (Zaa S [.pointer (some ⟨r,0,none⟩),.string (Zx bi)] k_en130 rfl rfl) fun f w S bo=>Zs (Zsb (Zf (bh _ _ (bO H fun bW aq H=>Zu (mv S rfl fun f S=>ov S rfl (Ze S rfl rfl (Zwa aq)) fun f S=>mw S rfl fun f S=>Zs ?_)))));obtain rfl:=Zn H;refine be _ rfl _ _ ⟨_,_,_,rfl,aa,(S.fr' rfl),bo,(Zsa aq).2⟩
  have H:=ZK H E;refine ZM S rfl E (wp_exit (ZZ ?_));obtain rfl:=Zn H;have hq:=bf _ rfl;subst hq;have H:=bc;refine ZZ (Z6a ?_);obtain rfl:=Zn H;refine Zf (ba _ _ ⟨_,_,rfl,(leT (leR _) aa),(S.fr' rfl),ap⟩)
 rintro f w ⟨Q,R,hq,bX,S,bp⟩;subst hq;have H:=a9;refine Zf (a5 _ _ (Zj fun _ bq=>bO H fun bY br H=>Zu (op_tell tells bp S wn rfl zl (Zaa S [.pointer (some ⟨r,0,none⟩)] k_en131 rfl rfl) fun f w S=>mw S rfl fun f S=>Zs (Zf (bq _ _ (wp_ret ?_))))));obtain rfl:=Zn H;refine ZAa S (ZMa rfl (ZT S rfl)) ⟨[.string (Zx Q)],rfl,(ZPh (ZAk br))⟩
theorem text_c {c:World} {b:Zb} (hv:VIn b c) {d:List Value} {a:Nat} (f:Rep.rel Zv b d a) {z:(List UInt8)} (hm:ZKf a=some z) :
  Ret Tryz.prog 82 #[Zv.val d] c b (fun y v'=>∃ e,y=Z4a.val e∧Z4a.rel v' e z) :=
 text_w hv f (Z1v hm)
end Go.Eng
set_option maxRecDepth 100000
set_option maxHeartbeats 4000000
namespace Go.Eng
open Go.Proofs Go.RowKit
noncomputable def Zuk:FuncId×Con:=(82,⟨[.leaf 0],[.str],fun p=>ZKf p⟩)
theorem text_k:Zk Tryz.prog Zuk.1 Zuk.2:=fun w v vals x z hv ha hz=>by
 obtain ⟨c0,e0,p0⟩:=ha;subst e0
 exact .inl ⟨fun _ _=>by kernel_rfl,Ret.mono (text_c hv p0 hz) fun y v' _ ⟨r0,e,h0⟩=>⟨r0,e,h0⟩⟩
end Go.Eng
set_option maxRecDepth 100000
set_option maxHeartbeats 4000000
namespace Go.Eng
open Go.Proofs Go.RowKit
noncomputable def ZMg:FuncId×Con:=(38,⟨[.leaf 3],[.str],fun p=>Zoi p⟩)
theorem qtext_i (x:Rat):Zm ⟨Tryz.prog,[(39,0),(41,2),(43,3)],[Zuk],[],[],[],[],[]⟩ [] Tryz.f38 (.two .no (.two .no (.two (.two .no (.cut ⟨⟨[],[],[]⟩,[(.norm,⟨[1],[],[.s 3 (.dat .str)]⟩)]⟩ .no)) (.two (.two .no (.cut ⟨⟨[],[],[]⟩,[(.norm,⟨[],[],[.s 3 (.dat .str)]⟩)]⟩ .no)) .no)))) [.leaf 3] [.str] (x)=Zwo x:=by kernel_rfl
theorem ZHr:Zk Tryz.prog ZMg.1 ZMg.2:=Zp (C:=⟨Tryz.prog,[(39,0),(41,2),(43,3)],[Zuk],[],[],[],[],[]⟩) ⟨text_k,trivial⟩ trivial trivial trivial (inl:=[]) trivial (ann:=.two .no (.two .no (.two (.two .no (.cut ⟨⟨[],[],[]⟩,[(.norm,⟨[1],[],[.s 3 (.dat .str)]⟩)]⟩ .no)) (.two (.two .no (.cut ⟨⟨[],[],[]⟩,[(.norm,⟨[],[],[.s 3 (.dat .str)]⟩)]⟩ .no)) .no)))) Tryz.func38 (fun _ _=>by kernel_rfl) rfl fun v vals x z ha hz=>(qtext_i x).trans (ZCu hz)
noncomputable def Zio (x:Rat):Option ((List UInt8)) :=
 bnd (Zog x.num.natAbs) fun b =>
 bnd (ifb (decide (x.num<0))
 (bnd (ZAd x) fun d =>
 some (!(d)))
 (some false))
 (fun (e:Bool) =>
 (bnd (ifb (e)
 (bnd (Zgb ((([45]:List UInt8))++b)) fun j =>
 some (((([45]:List UInt8))++b)))
 (some b))
 (fun (a:(List UInt8)) =>
 (bnd (ZGd x) fun f =>
 bnd (ZQb ([(1:Int)])) fun g =>
 bnd (Z8c f g) fun h =>
 bnd (ifb (decide ((0:Int)<h))
 (bnd (Zgb (a++(([47]:List UInt8)))) fun k =>
 bnd (Zog x.den) fun c =>
 bnd (Zgb (((a++(([47]:List UInt8))))++c)) fun l =>
 some ((((a++(([47]:List UInt8))))++c)))
 (some a))
 (fun (i:(List UInt8)) =>
 (some i))))))
end Go.Eng
set_option maxRecDepth 100000
set_option maxHeartbeats 4000000
namespace Go.Eng
open Go.Proofs Go.RowKit
noncomputable def Zrj:FuncId×Con:=(153,⟨[.leaf 1],[.str],fun p=>Zog p⟩)
theorem ZIw (a:Nat):Zm ⟨Tryz.prog,[(91,1),(93,4)],[ZRg],[],[],[],[],[]⟩ [] Tryz.f153 (.two .no (.two .no (.two (.cut ⟨⟨[],[],[]⟩,[(.norm,⟨[],[],[.s 3 (.dat .str)]⟩)]⟩ (.two (.cut ⟨⟨[],[],[.s 0 (.dat (.leaf 1)),.s 3 (.dat .str)]⟩,[(.exit 0,⟨[],[],[.s 3 (.dat .str)]⟩)]⟩ (.two (.two .no (.two (.two .no (.two (.two .no (.cut ⟨⟨[],[],[]⟩,[(.norm,⟨[4],[],[.s 3 (.dat .str)]⟩)]⟩ (.two (.cut ⟨⟨[4],[],[.s 3 (.dat .str),.s 5 (.dat (.int .u32)),.s 6 (.dat (.int .i64))]⟩,[(.exit 2,⟨[4],[],[.s 3 (.dat .str)]⟩)]⟩ (.two (.two (.two (.cut ⟨⟨[],[],[]⟩,[(.norm,⟨[3,4,5,6],[],[.s 25 (.dat .bool)]⟩)]⟩ .no) .no) .no) .no)) .no))) .no)) .no)) .no)) .no)) .no))) [.leaf 1] [.str] (a)=Zoj a:=by kernel_rfl
theorem ZOu:Zk Tryz.prog Zrj.1 Zrj.2:=Zp (C:=⟨Tryz.prog,[(91,1),(93,4)],[ZRg],[],[],[],[],[]⟩) ⟨ZSq,trivial⟩ trivial trivial trivial (inl:=[]) trivial (ann:=.two .no (.two .no (.two (.cut ⟨⟨[],[],[]⟩,[(.norm,⟨[],[],[.s 3 (.dat .str)]⟩)]⟩ (.two (.cut ⟨⟨[],[],[.s 0 (.dat (.leaf 1)),.s 3 (.dat .str)]⟩,[(.exit 0,⟨[],[],[.s 3 (.dat .str)]⟩)]⟩ (.two (.two .no (.two (.two .no (.two (.two .no (.cut ⟨⟨[],[],[]⟩,[(.norm,⟨[4],[],[.s 3 (.dat .str)]⟩)]⟩ (.two (.cut ⟨⟨[4],[],[.s 3 (.dat .str),.s 5 (.dat (.int .u32)),.s 6 (.dat (.int .i64))]⟩,[(.exit 2,⟨[4],[],[.s 3 (.dat .str)]⟩)]⟩ (.two (.two (.two (.cut ⟨⟨[],[],[]⟩,[(.norm,⟨[3,4,5,6],[],[.s 25 (.dat .bool)]⟩)]⟩ .no) .no) .no) .no)) .no))) .no)) .no)) .no)) .no)) .no))) Tryz.func153 (fun _ _=>by kernel_rfl) rfl fun v vals x z ha hz=>(ZIw x).trans (Zev hz)
end Go.Eng
set_option maxRecDepth 100000
set_option maxHeartbeats 4000000
namespace Go.Eng
open Go.Proofs Go.RowKit
noncomputable def ZSg:FuncId×Con:=(154,⟨[.leaf 4],[.bool],fun p=>ZAd p⟩)
theorem rzero_i (x:Rat):Zm ⟨Tryz.prog,[(91,1),(93,4)],[],[],[],[],[],[]⟩ [] Tryz.f154 .no [.leaf 4] [.bool] (x)=Zco x:=by kernel_rfl
theorem ZPo:Zk Tryz.prog ZSg.1 ZSg.2:=Zp (C:=⟨Tryz.prog,[(91,1),(93,4)],[],[],[],[],[],[]⟩) trivial trivial trivial trivial (inl:=[]) trivial (ann:=.no) Tryz.func154 (fun _ _=>by kernel_rfl) rfl fun v vals x z ha hz=>(rzero_i x).trans (ZDt hz)
end Go.Eng
set_option maxRecDepth 100000
set_option maxHeartbeats 4000000
namespace Go.Eng
open Go.Proofs Go.RowKit
noncomputable def ZZe:FuncId×Con:=(156,⟨[.leaf 4],[.leaf 1],fun p=>ZGd p⟩)
theorem Z2t (x:Rat):Zm ⟨Tryz.prog,[(91,1),(93,4)],[],[],[],[],[],[]⟩ [] Tryz.f156 .no [.leaf 4] [.leaf 1] (x)=Zlo x:=by kernel_rfl
theorem ZGn:Zk Tryz.prog ZZe.1 ZZe.2:=Zp (C:=⟨Tryz.prog,[(91,1),(93,4)],[],[],[],[],[],[]⟩) trivial trivial trivial trivial (inl:=[]) trivial (ann:=.no) Tryz.func156 (fun _ _=>by kernel_rfl) rfl fun v vals x z ha hz=>(Z2t x).trans (ZEt hz)
theorem ZYu {x:Rat} {z:List UInt8} (h:Zhk x=some z):Zio x=some z:=by
 unfold Zhk at h;split at h
 ·rename_i hh;obtain ⟨h1,h2⟩:=hh
  cases h
  unfold Zio Zog;have l1:=Zrl (n:=x.num.natAbs) (by omega);have l2:=Zrl (n:=x.den) (by omega);rw [if_pos (ZDf h1),Za];have e0:ifb (decide (x.num<0)) (bnd (ZAd x) fun y136=>some (!(y136))) (some false)=some (decide (x.num<0)):=by
   unfold ZAd;by_cases h:x.num<0
   ·have:x≠0:=fun e=>by subst e;simp at h
    rw [decide_eq_true h,Zh,Za,decide_eq_false this];rfl
   ·rw [decide_eq_false h,Zg]
  rw [e0,Za];have e1:ifb (decide (x.num<0)) (bnd (Zgb ([45]++ZKa x.num.natAbs)) fun y80=>some (([45]:List UInt8)++ZKa x.num.natAbs)) (some (ZKa x.num.natAbs))=some ((if x.num<0 then [45] else [])++ZKa x.num.natAbs):=by
   by_cases h:x.num<0
   ·rw [decide_eq_true h,Zh,Zke (by simp;omega),Za,if_pos h]
   ·rw [decide_eq_false h,Zg,if_neg h];rfl
  rw [e1,Za];unfold txtQ ZGd Z8c;have l3:((if x.num<0 then [45] else [])++ZKa x.num.natAbs:List UInt8).length≤4398046511105:=by
   rw [List.length_append];split <;> simp <;> omega
  generalize ((if x.num<0 then [45] else [])++ZKa x.num.natAbs:List UInt8)=s at *;rw [Za,ZRn,Za,Za,Z1q];by_cases hd:x.den=1
  ·rw [hd];simp [ifb,bnd]
  ·have:=x.den_nz;rw [decide_eq_true (by omega),Zh,Zke (by simp;omega),Za,if_pos (ZDf h2),Za,Zke (by simp;omega),Za,Za,if_neg hd];simp
 ·cases h
end Go.Eng
set_option maxRecDepth 100000
set_option maxHeartbeats 4000000
namespace Go.Eng
open Go.Proofs Go.RowKit
noncomputable def ZJj:FuncId×Con:=(116,⟨[.leaf 4],[.str],fun p=>Zhk p⟩)
theorem rtext_i (x:Rat):Zm ⟨Tryz.prog,[(91,1),(93,4)],[Zrj,ZSg,Zaf,ZZe],[],[],[],[],[]⟩ [] Tryz.f116 (.two .no (.two .no (.two (.two (.cut ⟨⟨[],[],[]⟩,[(.norm,⟨[1,3],[],[.s 13 (.dat .bool)]⟩)]⟩ .no) (.cut ⟨⟨[],[],[]⟩,[(.norm,⟨[1],[],[.s 3 (.dat .str)]⟩)]⟩ .no)) (.two (.two .no (.cut ⟨⟨[],[],[]⟩,[(.norm,⟨[],[],[.s 3 (.dat .str)]⟩)]⟩ .no)) .no)))) [.leaf 4] [.str] (x)=Zio x:=by kernel_rfl
theorem rtext_k:Zk Tryz.prog ZJj.1 ZJj.2:=Zp (C:=⟨Tryz.prog,[(91,1),(93,4)],[Zrj,ZSg,Zaf,ZZe],[],[],[],[],[]⟩) ⟨ZOu,ZPo,Zsm,ZGn,trivial⟩ trivial trivial trivial (inl:=[]) trivial (ann:=.two .no (.two .no (.two (.two (.cut ⟨⟨[],[],[]⟩,[(.norm,⟨[1,3],[],[.s 13 (.dat .bool)]⟩)]⟩ .no) (.cut ⟨⟨[],[],[]⟩,[(.norm,⟨[1],[],[.s 3 (.dat .str)]⟩)]⟩ .no)) (.two (.two .no (.cut ⟨⟨[],[],[]⟩,[(.norm,⟨[],[],[.s 3 (.dat .str)]⟩)]⟩ .no)) .no)))) Tryz.func116 (fun _ _=>by kernel_rfl) rfl fun v vals x z ha hz=>(rtext_i x).trans (ZYu hz)
end Go.Eng
set_option maxRecDepth 100000
set_option maxHeartbeats 4000000
namespace Go.Eng
open Go.Proofs Go.RowKit
noncomputable def Zcj:FuncId×Con:=(67,⟨[.leaf 3,.leaf 4],[.bool],fun p=>is1_m p.1 p.2⟩)
theorem is1_i (x:Rat) (y:Rat):Zm ⟨Tryz.prog,[(39,0),(41,2),(43,3),(91,1),(93,4)],[ZMg,ZJj],[],[],[],[],[]⟩ [] Tryz.f67 .no [.leaf 3,.leaf 4] [.bool] (x,y)=is1_m x y:=by kernel_rfl
theorem is1_k:Zk Tryz.prog Zcj.1 Zcj.2:=Zp (C:=⟨Tryz.prog,[(39,0),(41,2),(43,3),(91,1),(93,4)],[ZMg,ZJj],[],[],[],[],[]⟩) ⟨ZHr,rtext_k,trivial⟩ trivial trivial trivial (inl:=[]) trivial (ann:=.no) Tryz.func67 (fun _ _=>by kernel_rfl) rfl fun v vals x z ha hz=>(is1_i x.1 x.2).trans (hz)
end Go.Eng
set_option maxRecDepth 100000
set_option maxHeartbeats 4000000
namespace Go.Eng
open Go.Proofs Go.RowKit
noncomputable def ZBl:FuncId×Con:=(120,⟨[.pair (.leaf 4) (.pair (.leaf 4) (.pair (.leaf 4) (.leaf 4)))],[.bool],fun p=>ZHk p⟩)
theorem sZero_i (x:Rat×Rat×Rat×Rat):Zm ⟨Tryz.prog,[(39,0),(41,2),(43,3),(91,1),(93,4)],[ZSg],[],[],[],[],[]⟩ [] Tryz.f120 (.two .no (.two (.cut ⟨⟨[],[],[]⟩,[(.norm,⟨[],[],[.s 2 (.dat .bool)]⟩)]⟩ .no) .no)) [.pair (.leaf 4) (.pair (.leaf 4) (.pair (.leaf 4) (.leaf 4)))] [.bool] (x)=ZHk x:=by kernel_rfl
theorem sZero_k:Zk Tryz.prog ZBl.1 ZBl.2:=Zp (C:=⟨Tryz.prog,[(39,0),(41,2),(43,3),(91,1),(93,4)],[ZSg],[],[],[],[],[]⟩) ⟨ZPo,trivial⟩ trivial trivial trivial (inl:=[]) trivial (ann:=(.two .no (.two (.cut ⟨⟨[],[],[]⟩,[(.norm,⟨[],[],[.s 2 (.dat .bool)]⟩)]⟩ .no) .no))) Tryz.func120 (fun _ _=>by kernel_rfl) rfl (fun v vals x z ha hz=>(sZero_i x).trans hz)
end Go.Eng
set_option maxRecDepth 100000
set_option maxHeartbeats 4000000
namespace Go.Eng
open Go.Proofs Go.RowKit
noncomputable def Zzl:FuncId×Con:=(76,⟨[.pair (.pair (.leaf 4) (.pair (.leaf 4) (.pair (.leaf 4) (.leaf 4)))) (.pair (.leaf 4) (.pair (.leaf 4) (.pair (.leaf 4) (.leaf 4))))],[.bool],fun p=>Zgo p⟩)
theorem wZero_i (x:(Rat×Rat×Rat×Rat)×Rat×Rat×Rat×Rat):Zm ⟨Tryz.prog,[(39,0),(41,2),(43,3),(91,1),(93,4)],[ZBl],[],[],[],[],[]⟩ [] Tryz.f76 (.two .no (.two (.cut ⟨⟨[],[],[]⟩,[(.norm,⟨[],[],[.s 2 (.dat .bool)]⟩)]⟩ .no) .no)) [.pair (.pair (.leaf 4) (.pair (.leaf 4) (.pair (.leaf 4) (.leaf 4)))) (.pair (.leaf 4) (.pair (.leaf 4) (.pair (.leaf 4) (.leaf 4))))] [.bool] (x)=Zgo x:=by kernel_rfl
theorem wZero_k:Zk Tryz.prog Zzl.1 Zzl.2:=Zp (C:=⟨Tryz.prog,[(39,0),(41,2),(43,3),(91,1),(93,4)],[ZBl],[],[],[],[],[]⟩) ⟨sZero_k,trivial⟩ trivial trivial trivial (inl:=[]) trivial (ann:=(.two .no (.two (.cut ⟨⟨[],[],[]⟩,[(.norm,⟨[],[],[.s 2 (.dat .bool)]⟩)]⟩ .no) .no))) Tryz.func76 (fun _ _=>by kernel_rfl) rfl (fun v vals x z ha hz=>(wZero_i x).trans hz)
theorem rneg_eq {x:Rat} (h:okQ x):Zml x=some (-x):=by
 obtain ⟨h1,h2⟩:=h;unfold Zml ZGd ZRb;rw [Za,if_pos ⟨ZDf h1,ZDf h2,x.den_nz⟩,Za];congr 1;have e:sgn (!(decide (x.num<0))) x.num.natAbs = -x.num:=by
  unfold sgn;by_cases h:x.num<0
  ·simp [h];omega
  ·simp [h];omega
 rw [e];exact Rat.mkRat_self (-x)
theorem ZFs {x z:Rat} (h:Z2f x=some z):Zml x=some z:=by
 unfold Z2f at h;split at h
 ·rename_i hh;rw [rneg_eq hh,h]
 ·cases h
end Go.Eng
set_option maxRecDepth 100000
set_option maxHeartbeats 4000000
namespace Go.Eng
open Go.Proofs Go.RowKit
noncomputable def Zfk:FuncId×Con:=(158,⟨[.leaf 4],[.leaf 4],fun p=>Z2f p⟩)
theorem rneg_i (x:Rat):Zm ⟨Tryz.prog,[(91,1),(93,4)],[Zrd,ZZe],[],[],[],[],[]⟩ [] Tryz.f158 .no [.leaf 4] [.leaf 4] (x)=Zml x:=by kernel_rfl
theorem rneg_k:Zk Tryz.prog Zfk.1 Zfk.2:=Zp (C:=⟨Tryz.prog,[(91,1),(93,4)],[Zrd,ZZe],[],[],[],[],[]⟩) ⟨Zwk,ZGn,trivial⟩ trivial trivial trivial (inl:=[]) trivial (ann:=.no) Tryz.func158 (fun _ _=>by kernel_rfl) rfl fun v vals x z ha hz=>(rneg_i x).trans (ZFs hz)
end Go.Eng
set_option maxRecDepth 100000
set_option maxHeartbeats 4000000
namespace Go.Eng
open Go.Proofs Go.RowKit
noncomputable def ZFl:FuncId×Con:=(119,⟨[.pair (.leaf 4) (.pair (.leaf 4) (.pair (.leaf 4) (.leaf 4)))],[.pair (.leaf 4) (.pair (.leaf 4) (.pair (.leaf 4) (.leaf 4)))],fun p=>Zem p⟩)
theorem sNeg_i (x:Rat×Rat×Rat×Rat):Zm ⟨Tryz.prog,[(39,0),(41,2),(43,3),(91,1),(93,4)],[Zfk],[],[],[],[],[]⟩ [] Tryz.f119 .no [.pair (.leaf 4) (.pair (.leaf 4) (.pair (.leaf 4) (.leaf 4)))] [.pair (.leaf 4) (.pair (.leaf 4) (.pair (.leaf 4) (.leaf 4)))] (x)=Zem x:=by kernel_rfl
theorem sNeg_k:Zk Tryz.prog ZFl.1 ZFl.2:=Zp (C:=⟨Tryz.prog,[(39,0),(41,2),(43,3),(91,1),(93,4)],[Zfk],[],[],[],[],[]⟩) ⟨rneg_k,trivial⟩ trivial trivial trivial (inl:=[]) trivial (ann:=.no) Tryz.func119 (fun _ _=>by kernel_rfl) rfl (fun v vals x z ha hz=>(sNeg_i x).trans hz)
end Go.Eng
set_option maxRecDepth 100000
set_option maxHeartbeats 4000000
namespace Go.Eng
open Go.Proofs Go.RowKit
noncomputable def Z7i:FuncId×Con:=(193,⟨[.leaf 1,.leaf 1],[.leaf 1],fun p=>Zlg p.1 p.2⟩)
theorem rsum_i (a:Nat) (b:Nat):Zm ⟨Tryz.prog,[(91,1),(93,4)],[Zhb],[],[],[],[],[]⟩ [] Tryz.f193 (.two .no (.two .no (.two .no (.two (.two .no (.cut ⟨⟨[],[],[]⟩,[(.norm,⟨[],[],[.s 5 (.own 185 (.int .u32)),.s 6 (.dat (.int .u64))]⟩)]⟩ (.two (.cut ⟨⟨[0,1],[],[.s 5 (.own 185 (.int .u32)),.s 6 (.dat (.int .u64)),.s 7 (.dat (.int .i64))]⟩,[(.exit 0,⟨[],[],[.s 5 (.own 185 (.int .u32)),.s 6 (.dat (.int .u64))]⟩)]⟩ (.two (.two (.two (.cut ⟨⟨[],[],[]⟩,[(.norm,⟨[0,1,5,6,7],[],[.s 18 (.dat .bool)]⟩)]⟩ .no) .no) (.two (.two (.two (.two .no (.cut ⟨⟨[],[],[]⟩,[(.norm,⟨[0,1,5,7],[],[.s 6 (.dat (.int .u64))]⟩)]⟩ .no)) (.two (.two .no (.cut ⟨⟨[],[],[]⟩,[(.norm,⟨[0,1,5,7],[],[.s 6 (.dat (.int .u64))]⟩)]⟩ .no)) .no)) .no) .no)) .no)) .no))) .no)))) [.leaf 1,.leaf 1] [.leaf 1] (a,b)=Zwl a b:=by kernel_rfl
theorem rsum_k:Zk Tryz.prog Z7i.1 Z7i.2:=Zp (C:=⟨Tryz.prog,[(91,1),(93,4)],[Zhb],[],[],[],[],[]⟩) ⟨ZVe,trivial⟩ trivial trivial trivial (inl:=[]) trivial (ann:=.two .no (.two .no (.two .no (.two (.two .no (.cut ⟨⟨[],[],[]⟩,[(.norm,⟨[],[],[.s 5 (.own 185 (.int .u32)),.s 6 (.dat (.int .u64))]⟩)]⟩ (.two (.cut ⟨⟨[0,1],[],[.s 5 (.own 185 (.int .u32)),.s 6 (.dat (.int .u64)),.s 7 (.dat (.int .i64))]⟩,[(.exit 0,⟨[],[],[.s 5 (.own 185 (.int .u32)),.s 6 (.dat (.int .u64))]⟩)]⟩ (.two (.two (.two (.cut ⟨⟨[],[],[]⟩,[(.norm,⟨[0,1,5,6,7],[],[.s 18 (.dat .bool)]⟩)]⟩ .no) .no) (.two (.two (.two (.two .no (.cut ⟨⟨[],[],[]⟩,[(.norm,⟨[0,1,5,7],[],[.s 6 (.dat (.int .u64))]⟩)]⟩ .no)) (.two (.two .no (.cut ⟨⟨[],[],[]⟩,[(.norm,⟨[0,1,5,7],[],[.s 6 (.dat (.int .u64))]⟩)]⟩ .no)) .no)) .no) .no)) .no)) .no))) .no)))) Tryz.func193 (fun _ _=>by kernel_rfl) rfl fun v vals x z ha hz=>(rsum_i x.1 x.2).trans (ZIu hz)
theorem radd_eq {x y:Rat} (h:smQ x) (h':smQ y):Z5k x y=some (x+y):=by
 obtain ⟨a1,a2⟩:=h;obtain ⟨b1,b2⟩:=h';unfold Z5k ZGd;have p1:=ZJb x.num.natAbs y.den;have p2:=ZJb y.num.natAbs x.den;have p3:=ZJb x.den y.den;have p4:=Z5l (x.num.natAbs*y.den) (y.num.natAbs*x.den);have hd:x.den*y.den≠0:=Nat.mul_ne_zero x.den_nz y.den_nz;have e1:Ztb x.num.natAbs y.den=some (x.num.natAbs*y.den):=by unfold Ztb;rw [if_pos ⟨ZCd (by omega),ZCd (by omega)⟩]
 have e2:Ztb y.num.natAbs x.den=some (y.num.natAbs*x.den):=by unfold Ztb;rw [if_pos ⟨ZCd (by omega),ZCd (by omega)⟩]
 have e3:Ztb x.den y.den=some (x.den*y.den):=by unfold Ztb;rw [if_pos ⟨ZCd (by omega),ZCd (by omega)⟩]
 have eN:((x.num.natAbs*y.den:Nat):Int)=(x.num.natAbs:Int)*y.den:=by simp
 have eM:((y.num.natAbs*x.den:Nat):Int)=(y.num.natAbs:Int)*x.den:=by simp
 have key:∀ (s:Bool) (n:Nat),bl n≤1099511627776→sgn s n=x.num*y.den+y.num*x.den→ZRb s n (x.den*y.den)=some (x+y):=by
  intro s n hn he;unfold ZRb;rw [if_pos ⟨ZDf hn,ZDf (by omega),hd⟩,he,← Rat.add_def']
 rw [Za,Za,e1,Za,e2,Za,e3];obtain ⟨N,hN⟩:∃ N,N=x.num.natAbs*y.den:=⟨_,rfl⟩;obtain ⟨M,hM⟩:∃ M,M=y.num.natAbs*x.den:=⟨_,rfl⟩;rw [← hN] at p1 p4 eN ⊢;rw [← hM] at p2 p4 eM ⊢;have sx:x.num*(y.den:Int)=if x.num<0 then -(N:Int) else N:=by
  split
  ·rw [eN,← Int.neg_mul];congr 1;omega
  ·rw [eN];congr 1;omega
 have sy:y.num*(x.den:Int)=if y.num<0 then -(M:Int) else M:=by
  split
  ·rw [eM,← Int.neg_mul];congr 1;omega
  ·rw [eM];congr 1;omega
 by_cases hs:(x.num<0)↔(y.num<0)
 ·have e4:Zlg N M=some (N+M):=by unfold Zlg;rw [if_pos ⟨ZCd (by omega),ZCd (by omega)⟩]
  have e5:((decide (x.num<0))==(decide (y.num<0)))=true:=by
   by_cases h:x.num<0
   ·simp [h,hs.1 h]
   ·have h2:¬ y.num<0:=fun k=>h (hs.2 k);simp [h,h2]
  rw [e5,Zh,e4,Za,Za,key _ _ (by omega) ?_,Za];rw [sx,sy];unfold sgn;by_cases h:x.num<0
  ·have h2:=hs.1 h;simp [h,h2];omega
  ·have h2:¬ y.num<0:=fun k=>h (hs.2 k);simp [h,h2]
 ·have e5:((decide (x.num<0))==(decide (y.num<0)))=false:=by
   apply beq_false_of_ne;intro h;exact hs (by by_cases k:x.num<0 <;> by_cases k2:y.num<0 <;> simp_all)
  rw [e5,Zg];unfold Z8c;rw [Za];by_cases hle:M≤N
  ·have e6:decide ((0:Int)≤Zda N M)=true:=by
    unfold Zda;rw [if_neg (by omega)];split <;> rfl
   have e4:ZEb N M=some (N-M):=by unfold ZEb;rw [if_pos ⟨ZCd (by omega),hle⟩]
   have hb:bl (N-M)≤bl N:=Zne (by omega);rw [e6,Zh,e4,Za,Za,key _ _ (by omega) ?_,Za];rw [sx,sy];unfold sgn;by_cases h:x.num<0
   ·have h2:¬ y.num<0:=fun k=>hs ⟨fun _=>k,fun _=>h⟩;simp [h,h2];omega
   ·have h2:y.num<0:=by
     rcases Int.lt_or_le y.num 0 with k | k
     ·exact k
     ·exact absurd ⟨fun q=>absurd q h,fun q=>absurd q (by omega)⟩ hs
    simp [h,h2];omega
  ·have e6:decide ((0:Int)≤Zda N M)=false:=by
    unfold Zda;rw [if_pos (by omega)];rfl
   have e4:ZEb M N=some (M-N):=by unfold ZEb;rw [if_pos ⟨ZCd (by omega),by omega⟩]
   have hb:bl (M-N)≤bl M:=Zne (by omega);rw [e6,Zg,e4,Za,Za,key _ _ (by omega) ?_,Za];rw [sx,sy];unfold sgn;by_cases h:x.num<0
   ·have h2:¬ y.num<0:=fun k=>hs ⟨fun _=>k,fun _=>h⟩;simp [h,h2];omega
   ·have h2:y.num<0:=by
     rcases Int.lt_or_le y.num 0 with k | k
     ·exact k
     ·exact absurd ⟨fun q=>absurd q h,fun q=>absurd q (by omega)⟩ hs
    simp [h,h2];omega
theorem ZGs {x y z:Rat} (h:Zvf x y=some z):Z5k x y=some z:=by
 unfold Zvf at h;split at h
 ·rename_i hh;rw [radd_eq hh.1 hh.2,h]
 ·cases h
end Go.Eng
set_option maxRecDepth 100000
set_option maxHeartbeats 4000000
namespace Go.Eng
open Go.Proofs Go.RowKit
noncomputable def Z2j:FuncId×Con:=(180,⟨[.leaf 4,.leaf 4],[.leaf 4],fun p=>Zvf p.1 p.2⟩)
theorem radd_i (x:Rat) (y:Rat):Zm ⟨Tryz.prog,[(91,1),(93,4)],[Zrd,Zaf,ZZe,Zng,ZKg,Z7i],[],[],[],[],[]⟩ [] Tryz.f180 .no [.leaf 4,.leaf 4] [.leaf 4] (x,y)=Z5k x y:=by kernel_rfl
theorem radd_k:Zk Tryz.prog Z2j.1 Z2j.2:=Zp (C:=⟨Tryz.prog,[(91,1),(93,4)],[Zrd,Zaf,ZZe,Zng,ZKg,Z7i],[],[],[],[],[]⟩) ⟨Zwk,Zsm,ZGn,ZRr,ZQq,rsum_k,trivial⟩ trivial trivial trivial (inl:=[]) trivial (ann:=.no) Tryz.func180 (fun _ _=>by kernel_rfl) rfl fun v vals x z ha hz=>(radd_i x.1 x.2).trans (ZGs hz)
end Go.Eng
set_option maxRecDepth 100000
set_option maxHeartbeats 4000000
namespace Go.Eng
open Go.Proofs Go.RowKit
noncomputable def ZVk:FuncId×Con:=(150,⟨[.pair (.leaf 4) (.pair (.leaf 4) (.pair (.leaf 4) (.leaf 4))),.pair (.leaf 4) (.pair (.leaf 4) (.pair (.leaf 4) (.leaf 4)))],[.pair (.leaf 4) (.pair (.leaf 4) (.pair (.leaf 4) (.leaf 4)))],fun p=>Z6m p.1 p.2⟩)
theorem sAdd_i (x:Rat×Rat×Rat×Rat) (y:Rat×Rat×Rat×Rat):Zm ⟨Tryz.prog,[(39,0),(41,2),(43,3),(91,1),(93,4)],[Z2j],[],[],[],[],[]⟩ [] Tryz.f150 .no [.pair (.leaf 4) (.pair (.leaf 4) (.pair (.leaf 4) (.leaf 4))),.pair (.leaf 4) (.pair (.leaf 4) (.pair (.leaf 4) (.leaf 4)))] [.pair (.leaf 4) (.pair (.leaf 4) (.pair (.leaf 4) (.leaf 4)))] (x,y)=Z6m x y:=by kernel_rfl
theorem sAdd_k:Zk Tryz.prog ZVk.1 ZVk.2:=Zp (C:=⟨Tryz.prog,[(39,0),(41,2),(43,3),(91,1),(93,4)],[Z2j],[],[],[],[],[]⟩) ⟨radd_k,trivial⟩ trivial trivial trivial (inl:=[]) trivial (ann:=.no) Tryz.func150 (fun _ _=>by kernel_rfl) rfl (fun v vals x z ha hz=>(sAdd_i x.1 x.2).trans hz)
end Go.Eng
set_option maxRecDepth 100000
set_option maxHeartbeats 4000000
namespace Go.Eng
open Go.Proofs Go.RowKit
noncomputable def ZJk:FuncId×Con:=(148,⟨[.pair (.leaf 4) (.pair (.leaf 4) (.pair (.leaf 4) (.leaf 4))),.pair (.leaf 4) (.pair (.leaf 4) (.pair (.leaf 4) (.leaf 4)))],[.pair (.leaf 4) (.pair (.leaf 4) (.pair (.leaf 4) (.leaf 4)))],fun p=>Z8j p.1 p.2⟩)
theorem sSub_i (x:Rat×Rat×Rat×Rat) (y:Rat×Rat×Rat×Rat):Zm ⟨Tryz.prog,[(39,0),(41,2),(43,3),(91,1),(93,4)],[ZFl,ZVk],[],[],[],[],[]⟩ [] Tryz.f148 .no [.pair (.leaf 4) (.pair (.leaf 4) (.pair (.leaf 4) (.leaf 4))),.pair (.leaf 4) (.pair (.leaf 4) (.pair (.leaf 4) (.leaf 4)))] [.pair (.leaf 4) (.pair (.leaf 4) (.pair (.leaf 4) (.leaf 4)))] (x,y)=Z8j x y:=by kernel_rfl
theorem sSub_k:Zk Tryz.prog ZJk.1 ZJk.2:=Zp (C:=⟨Tryz.prog,[(39,0),(41,2),(43,3),(91,1),(93,4)],[ZFl,ZVk],[],[],[],[],[]⟩) ⟨sNeg_k,sAdd_k,trivial⟩ trivial trivial trivial (inl:=[]) trivial (ann:=.no) Tryz.func148 (fun _ _=>by kernel_rfl) rfl (fun v vals x z ha hz=>(sSub_i x.1 x.2).trans hz)
end Go.Eng
set_option maxRecDepth 100000
set_option maxHeartbeats 4000000
namespace Go.Eng
open Go.Proofs Go.RowKit
noncomputable def Zul:FuncId×Con:=(111,⟨[.pair (.pair (.leaf 4) (.pair (.leaf 4) (.pair (.leaf 4) (.leaf 4)))) (.pair (.leaf 4) (.pair (.leaf 4) (.pair (.leaf 4) (.leaf 4)))),.pair (.pair (.leaf 4) (.pair (.leaf 4) (.pair (.leaf 4) (.leaf 4)))) (.pair (.leaf 4) (.pair (.leaf 4) (.pair (.leaf 4) (.leaf 4))))],[.pair (.pair (.leaf 4) (.pair (.leaf 4) (.pair (.leaf 4) (.leaf 4)))) (.pair (.leaf 4) (.pair (.leaf 4) (.pair (.leaf 4) (.leaf 4))))],fun p=>ZPm p.1 p.2⟩)
theorem wSub_i (x:(Rat×Rat×Rat×Rat)×Rat×Rat×Rat×Rat) (y:(Rat×Rat×Rat×Rat)×Rat×Rat×Rat×Rat):Zm ⟨Tryz.prog,[(39,0),(41,2),(43,3),(91,1),(93,4)],[ZJk],[],[],[],[],[]⟩ [] Tryz.f111 .no [.pair (.pair (.leaf 4) (.pair (.leaf 4) (.pair (.leaf 4) (.leaf 4)))) (.pair (.leaf 4) (.pair (.leaf 4) (.pair (.leaf 4) (.leaf 4)))),.pair (.pair (.leaf 4) (.pair (.leaf 4) (.pair (.leaf 4) (.leaf 4)))) (.pair (.leaf 4) (.pair (.leaf 4) (.pair (.leaf 4) (.leaf 4))))] [.pair (.pair (.leaf 4) (.pair (.leaf 4) (.pair (.leaf 4) (.leaf 4)))) (.pair (.leaf 4) (.pair (.leaf 4) (.pair (.leaf 4) (.leaf 4))))] (x,y)=ZPm x y:=by kernel_rfl
theorem wSub_k:Zk Tryz.prog Zul.1 Zul.2:=Zp (C:=⟨Tryz.prog,[(39,0),(41,2),(43,3),(91,1),(93,4)],[ZJk],[],[],[],[],[]⟩) ⟨sSub_k,trivial⟩ trivial trivial trivial (inl:=[]) trivial (ann:=.no) Tryz.func111 (fun _ _=>by kernel_rfl) rfl (fun v vals x z ha hz=>(wSub_i x.1 x.2).trans hz)
end Go.Eng
set_option maxRecDepth 100000
set_option maxHeartbeats 4000000
namespace Go.Eng
open Go.Proofs Go.RowKit
noncomputable def Zik:FuncId×Con:=(68,⟨[.pair (.pair (.leaf 4) (.pair (.leaf 4) (.pair (.leaf 4) (.leaf 4)))) (.pair (.leaf 4) (.pair (.leaf 4) (.pair (.leaf 4) (.leaf 4)))),.pair (.pair (.leaf 4) (.pair (.leaf 4) (.pair (.leaf 4) (.leaf 4)))) (.pair (.leaf 4) (.pair (.leaf 4) (.pair (.leaf 4) (.leaf 4))))],[.bool],fun p=>Zhn p.1 p.2⟩)
theorem wSame_i (x:(Rat×Rat×Rat×Rat)×Rat×Rat×Rat×Rat) (y:(Rat×Rat×Rat×Rat)×Rat×Rat×Rat×Rat):Zm ⟨Tryz.prog,[(39,0),(41,2),(43,3),(91,1),(93,4)],[Zzl,Zul],[],[],[],[],[]⟩ [] Tryz.f68 .no [.pair (.pair (.leaf 4) (.pair (.leaf 4) (.pair (.leaf 4) (.leaf 4)))) (.pair (.leaf 4) (.pair (.leaf 4) (.pair (.leaf 4) (.leaf 4)))),.pair (.pair (.leaf 4) (.pair (.leaf 4) (.pair (.leaf 4) (.leaf 4)))) (.pair (.leaf 4) (.pair (.leaf 4) (.pair (.leaf 4) (.leaf 4))))] [.bool] (x,y)=Zhn x y:=by kernel_rfl
theorem wSame_k:Zk Tryz.prog Zik.1 Zik.2:=Zp (C:=⟨Tryz.prog,[(39,0),(41,2),(43,3),(91,1),(93,4)],[Zzl,Zul],[],[],[],[],[]⟩) ⟨wZero_k,wSub_k,trivial⟩ trivial trivial trivial (inl:=[]) trivial (ann:=.no) Tryz.func68 (fun _ _=>by kernel_rfl) rfl (fun v vals x z ha hz=>(wSame_i x.1 x.2).trans hz)
end Go.Eng
set_option maxRecDepth 100000
set_option maxHeartbeats 4000000
namespace Go.Eng
open Go.Proofs Go.RowKit
noncomputable def ZNj:FuncId×Con:=(28,⟨[.slice (.leaf 3),.slice (.pair (.pair (.leaf 4) (.pair (.leaf 4) (.pair (.leaf 4) (.leaf 4)))) (.pair (.leaf 4) (.pair (.leaf 4) (.pair (.leaf 4) (.leaf 4)))))],[.bool],fun p=>is2_m p.1 p.2⟩)
theorem is2_i (x:List Rat) (y:List ((Rat×Rat×Rat×Rat)×Rat×Rat×Rat×Rat)):Zm ⟨Tryz.prog,[(39,0),(41,2),(43,3),(91,1),(93,4)],[Z8f,Zcj,Zik],[],[],[],[],[]⟩ [] Tryz.f28 (.two .no (.two .no (.two (.two .no (.two (.cut ⟨⟨[0,1,12],[],[.s 13 (.dat (.int .i64))]⟩,[(.exit 0,⟨[],[],[]⟩),(.ret,⟨[],[],[.s 1000 (.dat .bool)]⟩)]⟩ (.two (.two .no (.two .no (.two (.two (.two .no (.two (.cut ⟨⟨[],[],[]⟩,[(.norm,⟨[0,1,12,13],[],[.s 42 (.dat .bool)]⟩)]⟩ .no) .no)) .no) .no))) .no)) .no)) .no))) [.slice (.leaf 3),.slice (.pair (.pair (.leaf 4) (.pair (.leaf 4) (.pair (.leaf 4) (.leaf 4)))) (.pair (.leaf 4) (.pair (.leaf 4) (.pair (.leaf 4) (.leaf 4)))))] [.bool] (x,y)=is2_m x y:=by kernel_rfl
theorem is2_k:Zk Tryz.prog ZNj.1 ZNj.2:=Zp (C:=⟨Tryz.prog,[(39,0),(41,2),(43,3),(91,1),(93,4)],[Z8f,Zcj,Zik],[],[],[],[],[]⟩) ⟨ZWr,is1_k,wSame_k,trivial⟩ trivial trivial trivial (inl:=[]) trivial (ann:=(.two .no (.two .no (.two (.two .no (.two (.cut ⟨⟨[0,1,12],[],[.s 13 (.dat (.int .i64))]⟩,[(.exit 0,⟨[],[],[]⟩),(.ret,⟨[],[],[.s 1000 (.dat .bool)]⟩)]⟩ (.two (.two .no (.two .no (.two (.two (.two .no (.two (.cut ⟨⟨[],[],[]⟩,[(.norm,⟨[0,1,12,13],[],[.s 42 (.dat .bool)]⟩)]⟩ .no) .no)) .no) .no))) .no)) .no)) .no)))) Tryz.func28 (fun _ _=>by kernel_rfl) rfl (fun v vals x z ha hz=>(is2_i x.1 x.2).trans hz)
end Go.Eng
set_option maxRecDepth 100000
set_option maxHeartbeats 4000000
namespace Go.Eng
open Go.Proofs Go.RowKit
noncomputable def Zxk:FuncId×Con:=(33,⟨[.slice (.slice (.leaf 3)),.slice (.slice (.pair (.pair (.leaf 4) (.pair (.leaf 4) (.pair (.leaf 4) (.leaf 4)))) (.pair (.leaf 4) (.pair (.leaf 4) (.pair (.leaf 4) (.leaf 4))))))],[.bool],fun p=>Zaj p.1 p.2⟩)
theorem ZEu (x:List (List Rat)) (y:List (List ((Rat×Rat×Rat×Rat)×Rat×Rat×Rat×Rat))):Zm ⟨Tryz.prog,[(39,0),(41,2),(43,3),(91,1),(93,4)],[ZNj],[],[],[],[],[]⟩ [] Tryz.f33 (.two .no (.two .no (.two (.two .no (.two (.cut ⟨⟨[0,1,12],[],[.s 13 (.dat (.int .i64))]⟩,[(.exit 0,⟨[],[],[]⟩),(.ret,⟨[],[],[.s 1000 (.dat .bool)]⟩)]⟩ .no) .no)) .no))) [.slice (.slice (.leaf 3)),.slice (.slice (.pair (.pair (.leaf 4) (.pair (.leaf 4) (.pair (.leaf 4) (.leaf 4)))) (.pair (.leaf 4) (.pair (.leaf 4) (.pair (.leaf 4) (.leaf 4))))))] [.bool] (x,y)=Zaj x y:=by kernel_rfl
theorem Zkt:Zk Tryz.prog Zxk.1 Zxk.2:=Zp (C:=⟨Tryz.prog,[(39,0),(41,2),(43,3),(91,1),(93,4)],[ZNj],[],[],[],[],[]⟩) ⟨is2_k,trivial⟩ trivial trivial trivial (inl:=[]) trivial (ann:=(.two .no (.two .no (.two (.two .no (.two (.cut ⟨⟨[0,1,12],[],[.s 13 (.dat (.int .i64))]⟩,[(.exit 0,⟨[],[],[]⟩),(.ret,⟨[],[],[.s 1000 (.dat .bool)]⟩)]⟩ .no) .no)) .no)))) Tryz.func33 (fun _ _=>by kernel_rfl) rfl (fun v vals x z ha hz=>(ZEu x.1 x.2).trans hz)
end Go.Eng
set_option maxRecDepth 100000
set_option maxHeartbeats 4000000
namespace Go.Eng
open Go.Proofs Go.RowKit
noncomputable def Zpg:FuncId×Con:=(79,⟨[.slice (.pair (.int .i64) (.int .i64))],[.slice (.pair (.leaf 4) (.pair (.leaf 4) (.pair (.leaf 4) (.leaf 4))))],fun p=>Zxh p⟩)
theorem ZTt (l:List (Int×Int)):Zm ⟨Tryz.prog,[(39,0),(41,2),(43,3),(91,1),(93,4)],[ZWg,Zih],[],[],[],[],[]⟩ [] Tryz.f79 (.two .no (.two .no (.two (.two .no (.two (.cut ⟨⟨[6,7],[],[.s 3 (.own 95 (.pair (.leaf 4) (.pair (.leaf 4) (.pair (.leaf 4) (.leaf 4))))),.s 8 (.dat (.int .i64))]⟩,[(.exit 0,⟨[],[],[.s 3 (.own 95 (.pair (.leaf 4) (.pair (.leaf 4) (.pair (.leaf 4) (.leaf 4)))))]⟩)]⟩ .no) .no)) .no))) [.slice (.pair (.int .i64) (.int .i64))] [.slice (.pair (.leaf 4) (.pair (.leaf 4) (.pair (.leaf 4) (.leaf 4))))] (l)=Zxh l:=by kernel_rfl
theorem ZQp:Zk Tryz.prog Zpg.1 Zpg.2:=Zp (C:=⟨Tryz.prog,[(39,0),(41,2),(43,3),(91,1),(93,4)],[ZWg,Zih],[],[],[],[],[]⟩) ⟨rof_k,Z5p,trivial⟩ trivial trivial trivial (inl:=[]) trivial (ann:=(.two .no (.two .no (.two (.two .no (.two (.cut ⟨⟨[6,7],[],[.s 3 (.own 95 (.pair (.leaf 4) (.pair (.leaf 4) (.pair (.leaf 4) (.leaf 4))))),.s 8 (.dat (.int .i64))]⟩,[(.exit 0,⟨[],[],[.s 3 (.own 95 (.pair (.leaf 4) (.pair (.leaf 4) (.pair (.leaf 4) (.leaf 4)))))]⟩)]⟩ .no) .no)) .no)))) Tryz.func79 (fun _ _=>by kernel_rfl) rfl (fun v vals x z ha hz=>(ZTt x).trans hz)
end Go.Eng
set_option maxRecDepth 100000
set_option maxHeartbeats 4000000
namespace Go.Eng
open Go.Proofs Go.RowKit
noncomputable def Z4i:FuncId×Con:=(78,⟨[.slice (.slice (.pair (.int .i64) (.int .i64)))],[.slice (.slice (.pair (.leaf 4) (.pair (.leaf 4) (.pair (.leaf 4) (.leaf 4)))))],fun p=>ZQm p⟩)
theorem Zzs (m:List (List (Int×Int))):Zm ⟨Tryz.prog,[(39,0),(41,2),(43,3),(91,1),(93,4)],[Zpg],[],[],[],[],[]⟩ [] Tryz.f78 (.two .no (.two .no (.two (.two .no (.two (.cut ⟨⟨[0,3,9],[],[.s 10 (.dat (.int .i64)),.l (.sl 3) (.own 79 (.slice (.pair (.leaf 4) (.pair (.leaf 4) (.pair (.leaf 4) (.leaf 4))))))]⟩,[(.exit 0,⟨[3],[],[.l (.sl 3) (.own 79 (.slice (.pair (.leaf 4) (.pair (.leaf 4) (.pair (.leaf 4) (.leaf 4))))))]⟩)]⟩ .no) .no)) .no))) [.slice (.slice (.pair (.int .i64) (.int .i64)))] [.slice (.slice (.pair (.leaf 4) (.pair (.leaf 4) (.pair (.leaf 4) (.leaf 4)))))] (m)=ZQm m:=by kernel_rfl
theorem Zxu:Zk Tryz.prog Z4i.1 Z4i.2:=Zp (C:=⟨Tryz.prog,[(39,0),(41,2),(43,3),(91,1),(93,4)],[Zpg],[],[],[],[],[]⟩) ⟨ZQp,trivial⟩ trivial trivial trivial (inl:=[]) trivial (ann:=(.two .no (.two .no (.two (.two .no (.two (.cut ⟨⟨[0,3,9],[],[.s 10 (.dat (.int .i64)),.l (.sl 3) (.own 79 (.slice (.pair (.leaf 4) (.pair (.leaf 4) (.pair (.leaf 4) (.leaf 4))))))]⟩,[(.exit 0,⟨[3],[],[.l (.sl 3) (.own 79 (.slice (.pair (.leaf 4) (.pair (.leaf 4) (.pair (.leaf 4) (.leaf 4))))))]⟩)]⟩ .no) .no)) .no)))) Tryz.func78 (fun _ _=>by kernel_rfl) rfl (fun v vals x z ha hz=>(Zzs x).trans hz)
end Go.Eng
set_option maxRecDepth 100000
set_option maxHeartbeats 4000000
namespace Go.Eng
open Go.Proofs Go.RowKit
noncomputable def Ztj:FuncId×Con:=(36,⟨[.slice (.slice (.pair (.int .i64) (.int .i64))),.slice (.pair (.int .i64) (.int .i64)),.slice (.pair (.int .i64) (.int .i64))],[.pair (.slice (.slice (.leaf 3))) (.pair (.slice (.leaf 3)) (.slice (.leaf 3))),.pair (.slice (.slice (.pair (.leaf 4) (.pair (.leaf 4) (.pair (.leaf 4) (.leaf 4)))))) (.pair (.slice (.pair (.leaf 4) (.pair (.leaf 4) (.pair (.leaf 4) (.leaf 4))))) (.slice (.pair (.leaf 4) (.pair (.leaf 4) (.pair (.leaf 4) (.leaf 4))))))],fun p=>ZAm p.1 p.2.1 p.2.2⟩)
theorem Zlt (a:List (List (Int×Int))) (b:List (Int×Int)) (c:List (Int×Int)):Zm ⟨Tryz.prog,[(39,0),(41,2),(43,3),(91,1),(93,4)],[Z8e,Zlf,Z4i,Zpg],[],[],[],[],[]⟩ [] Tryz.f36 .no [.slice (.slice (.pair (.int .i64) (.int .i64))),.slice (.pair (.int .i64) (.int .i64)),.slice (.pair (.int .i64) (.int .i64))] [.pair (.slice (.slice (.leaf 3))) (.pair (.slice (.leaf 3)) (.slice (.leaf 3))),.pair (.slice (.slice (.pair (.leaf 4) (.pair (.leaf 4) (.pair (.leaf 4) (.leaf 4)))))) (.pair (.slice (.pair (.leaf 4) (.pair (.leaf 4) (.pair (.leaf 4) (.leaf 4))))) (.slice (.pair (.leaf 4) (.pair (.leaf 4) (.pair (.leaf 4) (.leaf 4))))))] (a,b,c)=ZAm a b c:=by kernel_rfl
theorem Zbt:Zk Tryz.prog Ztj.1 Ztj.2:=Zp (C:=⟨Tryz.prog,[(39,0),(41,2),(43,3),(91,1),(93,4)],[Z8e,Zlf,Z4i,Zpg],[],[],[],[],[]⟩) ⟨Zum,Zmn,Zxu,ZQp,trivial⟩ trivial trivial trivial (inl:=[]) trivial (ann:=.no) Tryz.func36 (fun _ _=>by kernel_rfl) rfl (fun v vals x z ha hz=>(Zlt x.1 x.2.1 x.2.2).trans hz)
end Go.Eng
