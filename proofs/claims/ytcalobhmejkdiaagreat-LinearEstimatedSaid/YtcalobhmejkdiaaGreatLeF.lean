/- Lemmas towards the statement: the engine of the walks, the functions' models, laws and walks, part 6. Conditions: as each states. -/
import Derived.Shelf.Strings.Builder1
import Derived.Shelf.Strings.Repeat
import Derived.Test.YtcalobhmejkdiaaGreatProg
import Derived.Test.YtcalobhmejkdiaaGreatLeE
set_option linter.all false
set_option maxRecDepth 100000
namespace Go.Eng
open Go.Proofs Go.RowKit
theorem div64_w {e:World} {c:Zb} (hv:VIn c e) {X:List Value} {hi:Int} (p0:Rep.rel (Zd .u64) c X hi) {Y:List Value} {lo:Int} (p1:Rep.rel (Zd .u64) c Y lo) {Z:List Value} {y:Int} (p2:Rep.rel (Zd .u64) c Z y) {z:Int×Int} (H:Z2h hi lo y=some z):Ret Tryz.prog 166 #[(Zd .u64).val X,(Zd .u64).val Y,(Zd .u64).val Z] e c (fun y v'=>∃ r0 M,y = .tuple #[(Zd .u64).val r0,(Zd .u64).val M]∧(Zd .u64).rel v' r0 z.1∧(Zd .u64).rel v' M z.2):=by
 obtain ⟨rfl,M⟩:=p0;obtain ⟨rfl,r2⟩:=p1;obtain ⟨rfl,r3⟩:=p2;refine ZQb (K:=135) (args:=[.int .u64 hi,.int .u64 lo,.int .u64 y]) hv Tryz.func166 rfl rfl zl fun f S=>?_;unfold Z2h at H;refine sr (mw S rfl fun f S=>mw S rfl fun f S=>oe (Zj fun _ an=>sr (mv S rfl fun f S=>ov S rfl (Ze S rfl rfl Zse) fun f S=>oe ?_)));rcases ZK (y==(0:Int)) with q | q
 ·have H:=ZJ H q;refine ZU S rfl q ?_
  cases H
 have H:=ZI H q;refine ZO S rfl q (wp_skip (Zf (an _ _ (Zj fun _ ao=>sr (mv S rfl fun f S=>mv S rfl fun f S=>ov S rfl (Ze S rfl rfl ZDo) fun f S=>oe ?_)))));rcases ZK (decide (y≤hi)) with r | r
 ·have H:=ZJ H r;refine ZU S rfl r ?_
  cases H
 have H:=ZI H r;refine ZO S rfl r (wp_skip (Zf (ao _ _ (Zj fun _ ap=>sr (mv S rfl fun f S=>ov S rfl (Ze S rfl rfl Zse) fun f S=>oe ?_)))));rcases ZK (hi==(0:Int)) with s | s
 ·have H:=ZJ H s;refine ZU S rfl s (Zj fun _ aq=>bO H fun ar aa H=>bO H fun au N H=>Zae (fl:=#[true,true,true,true,true,true,false,false]) Z7e (by kernel_rfl) S ?_);intro ops O F w S;refine rfa O F 0 rfl rfl S (Zz S rfl) fun f S=>rfa O F 1 rfl rfl S (Zz S rfl) fun f S=>rfa O F 2 rfl rfl S (Ze S rfl rfl (Zvc aa)) fun f S=>rfa O F 3 rfl rfl S (Zz S rfl) fun f S=>rfa O F 4 rfl rfl S (Zz S rfl) fun f S=>rfa O F 5 rfl rfl S (Ze S rfl rfl (ZPe N)) fun f S=>go1 O F 6 (nva [0,1,2] [3,4,5] O rfl rfl S (Zfd S rfl) fun f S=>⟨(py S rfl rfl (Zz S rfl) (py S rfl rfl (Zz S rfl) (py S rfl rfl (Ze S rfl rfl (ZPe N)) Znc))),go1 O F 7 (nva [0,1,2,3,4,5,6] [] O rfl rfl S (Zfd S rfl) fun f S=>⟨Znc,ZMe O F (Zf (aq _ _ ?_))⟩)⟩);refine wp_ret (ZXa ?_);obtain rfl:=Zn H;refine ZFa S (Zcf rfl (ZT S rfl) (ZT S rfl)) ⟨[.int .u64 ar],[.int .u64 au],rfl,(ZD (Zri aa)),(ZD (Zqq r2 N))⟩
 have H:=ZI H s;refine ZO S rfl s (wp_skip (Zf (ap _ _ (Zj fun _ av=>bO H fun h aw H=>Zv (mv S rfl fun f S=>opc S rfl (Z6 S [.int .u64 y] ZIr rfl rfl) (Zmr S.vin (show Rep.rel (Zd .u64) _ [.int .u64 y] y from (ZD r3)) aw) ?_)))));rintro _ ab f w bd ⟨be,rfl,ax⟩ S;obtain ⟨rfl,bf⟩:=ax;refine ov S rfl (ZId S rfl (Zjt _)) fun f S=>mw S rfl fun f S=>Zs (Zf (av _ _ (Zj fun _ ay=>bO H fun a az H=>Zv (mv S rfl fun f S=>mv S rfl fun f S=>ov S rfl (Ze S rfl rfl (Zcg az)) fun f S=>mw S rfl fun f S=>Zs (Zf (ay _ _ (Zj fun _ aA=>?_)))))));refine bO H fun g aB H=>Zv (mv S rfl fun f S=>ov S rfl (Ze S rfl rfl (ZNb aB)) fun f S=>mw S rfl fun f S=>Zs (Zf (aA _ _ (sr (mv S rfl fun f S=>ov S rfl (Ze S rfl rfl Zng) fun f S=>mw S rfl fun f S=>oe (Zj fun _ aC=>bO H fun i aD H=>?_))))));refine bO H fun j aE H=>Zv (mv S rfl fun f S=>mv S rfl fun f S=>ov S rfl (Ze S rfl rfl (Zcg aD)) fun f S=>mv S rfl fun f S=>mv S rfl fun f S=>ov S rfl (Ze S rfl rfl Zxd) fun f S=>ov S rfl (Ze S rfl rfl (ZNb aE)) fun f S=>ov S rfl (Ze S rfl rfl Zuk) fun f S=>mw S rfl fun f S=>Zs ?_);have S:=S.fr' (σ':=[(1,.int .u64 lo),(2,.int .u64 a),(8,.int .u64 (IntKind.u64.wrap h)),(9,.int .u64 g),(10,.int .u64 (Z2 .u64 a (4294967295:Int))),(11,.int .u64 (orI .u64 i j))]) rfl
 refine Zf (aC _ _ (Zj fun _ aF=>bO H fun k aG H=>Zv (mv S rfl fun f S=>mv S rfl fun f S=>ov S rfl (Ze S rfl rfl (Zcg aG)) fun f S=>mw S rfl fun f S=>Zs (Zf (aF _ _ (Zj fun _ aH=>bO H fun l aI H=>Zv (mv S rfl fun f S=>?_)))))));refine ov S rfl (Ze S rfl rfl (ZNb aI)) fun f S=>mw S rfl fun f S=>Zs (Zf (aH _ _ (sr (mv S rfl fun f S=>ov S rfl (Ze S rfl rfl Zng) fun f S=>mw S rfl fun f S=>oe (Zj fun _ aJ=>bO H fun bg ac H=>Zv (mv S rfl fun f S=>mv S rfl fun f S=>?_))))));refine ov S rfl (Ze S rfl rfl (Zvc ac)) fun f S=>mw S rfl fun f S=>Zs (Zf (aJ _ _ (sr (mv S rfl fun f S=>mv S rfl fun f S=>mv S rfl fun f S=>ov S rfl (Ze S rfl rfl Zrb) fun f S=>ov S rfl (Ze S rfl rfl Zxd) fun f S=>mw S rfl fun f S=>oe (Zj fun _ aK=>?_)))));obtain ⟨aL,aM,aN⟩:=ZE H;refine Zva (fun f w=>∃ d u,d=aL∧Zb.le ab u∧St 135 e c [(2,.int .u64 a),(8,.int .u64 (IntKind.u64.wrap h)),(9,.int .u64 g),(10,.int .u64 (Z2 .u64 a (4294967295:Int))),(11,.int .u64 (orI .u64 i j)),(13,.int .u64 l),(14,.int .u64 (Z2 .u64 k (4294967295:Int))),(15,.int .u64 d)] [] u f w∧inR .u64 d) (fun _ ad=>?_) ?_
 ·have H:=aM;refine wp_block ?_;obtain ⟨bh,aO,ae⟩:=ZE H;refine ZFb aO (fun aP f w=>∃ m n G,(m,n)=aP∧Zb.le ab G∧St 135 e c [(2,.int .u64 a),(8,.int .u64 (IntKind.u64.wrap h)),(9,.int .u64 g),(10,.int .u64 (Z2 .u64 a (4294967295:Int))),(11,.int .u64 (orI .u64 i j)),(13,.int .u64 l),(14,.int .u64 (Z2 .u64 k (4294967295:Int))),(15,.int .u64 m),(16,.int .u64 n)] [] G f w∧inR .u64 m∧inR .u64 n) ⟨_,_,_,rfl,(leR _),(S.fr' rfl),(Zri ac),(Zra _ _)⟩ ?_;rintro _ f w st ⟨m,n,G,hq,P,S,aQ,bi⟩ H bj aR af;subst hq;refine Zj fun _ aS=>Zj fun _ aT=>?_;obtain ⟨aU,aV,aW⟩:=ZE H;refine Zva (fun f w=>∃ I Q,I=aU∧Zb.le G Q∧St 135 e c [(2,.int .u64 a),(8,.int .u64 (IntKind.u64.wrap h)),(9,.int .u64 g),(10,.int .u64 (Z2 .u64 a (4294967295:Int))),(11,.int .u64 (orI .u64 i j)),(13,.int .u64 l),(14,.int .u64 (Z2 .u64 k (4294967295:Int))),(15,.int .u64 m),(16,.int .u64 n),(78,.bool I)] [] Q f w) (fun _ ag=>?_) ?_
  ·have H:=aV;refine Zv (mv S rfl fun f S=>ov S rfl (Ze S rfl rfl Zqc) fun f S=>mv S rfl fun f S=>?_);rcases ZK (decide ((4294967296:Int)≤m)) with v | v
   ·have H:=ZJ H v;have S:=S.bool (t:=69) rfl v;refine opn S rfl rfl rfl rfl fun f S=>opn S rfl rfl rfl rfl fun f S=>opn S rfl rfl rfl rfl fun f S=>opn S rfl rfl rfl rfl fun f S=>opn S rfl rfl rfl rfl fun f S=>opn S rfl rfl rfl rfl fun f S=>opn S rfl rfl rfl rfl fun f S=>opn S rfl rfl rfl rfl fun f S=>ov S rfl (ZBb S (b:=true) rfl rfl) fun f S=>Zs ?_;obtain rfl:=Zn H;refine Zf (ag _ _ ⟨_,_,rfl,(leR _),(S.fr' rfl)⟩)
   have H:=ZI H v;have S:=S.bool (t:=69) rfl v;refine opy S rfl rfl rfl rfl (Zz S rfl) fun f S=>opy S rfl rfl rfl rfl (Zz S rfl) fun f S=>opy S rfl rfl rfl rfl (Ze S rfl rfl Zrb) fun f S=>opy S rfl rfl rfl rfl (Zz S rfl) fun f S=>opy S rfl rfl rfl rfl (Ze S rfl rfl Zrb) fun f S=>opy S rfl rfl rfl rfl (Zz S rfl) fun f S=>opy S rfl rfl rfl rfl (Ze S rfl rfl ZYb) fun f S=>opy S rfl rfl rfl rfl (Ze S rfl rfl Z4c) fun f S=>ov S rfl (ZBb S (b:=false) rfl rfl) fun f S=>Zs ?_;obtain rfl:=Zn H;refine Zf (ag _ _ ⟨_,_,rfl,(leR _),(S.fr' rfl)⟩)
  rintro f w ⟨I,Q,hq,R,S⟩;subst hq;have H:=aW;refine Zf (aT _ _ ?_);rcases ZK (I) with x | x
  ·have H:=ZJ H x;refine ZU S rfl x (wp_skip (Zf (aS _ _ (wp_block (sr (mv S rfl fun f S=>ov S rfl (Ze S rfl rfl Zxd) fun f S=>mw S rfl fun f S=>oe (sr (mv S rfl fun f S=>mv S rfl fun f S=>ov S rfl (Ze S rfl rfl ZYb) fun f S=>mw S rfl fun f S=>?_))))))));refine oe (sr (mv S rfl fun f S=>ov S rfl (Ze S rfl rfl Zqc) fun f S=>oe ?_));rcases ZK (decide ((4294967296:Int)≤IntKind.u64.wrap (n+g))) with A | A
   ·have H:=ZJ H A;refine ZU S rfl A (wp_exit (Zzj rfl ?_));obtain rfl:=Zn H;have hq:=af _ rfl;subst hq;have H:=ae;refine Z0 (Z4a ?_);obtain rfl:=Zn H;refine Zf (ad _ _ ⟨_,_,rfl,(leT (leT (leR _) P) R),(S.fr' rfl),(Zra _ _)⟩)
   have H:=ZI H A;refine ZO S rfl A (wp_skip (Zpb ?_));obtain rfl:=Zn H;refine aR _ rfl _ _ ⟨_,_,_,rfl,(leT P R),(S.fr' rfl),(Zra _ _),(Zra _ _)⟩
  have H:=ZI H x;refine ZO S rfl x (wp_exit (Z0 ?_));obtain rfl:=Zn H;have hq:=af _ rfl;subst hq;have H:=ae;refine Z0 (Z4a ?_);obtain rfl:=Zn H;refine Zf (ad _ _ ⟨_,_,rfl,(leT (leT (leR _) P) R),(S.fr' rfl),aQ⟩)
 rintro f w ⟨d,u,hq,bk,S,bm⟩;subst hq;have H:=aN;refine Zf (aK _ _ (sr (mv S rfl fun f S=>ov S rfl (Ze S rfl rfl Zrb) fun f S=>mv S rfl fun f S=>ov S rfl (Ze S rfl rfl ZYb) fun f S=>mv S rfl fun f S=>mv S rfl fun f S=>ov S rfl (Ze S rfl rfl Zrb) fun f S=>ov S rfl (Ze S rfl rfl Zxd) fun f S=>mw S rfl fun f S=>oe (Zj fun _ aX=>bO H fun bn ah H=>?_))));refine Zv (mv S rfl fun f S=>mv S rfl fun f S=>ov S rfl (Ze S rfl rfl (Zvc ah)) fun f S=>mw S rfl fun f S=>Zs (Zf (aX _ _ (sr (mv S rfl fun f S=>mv S rfl fun f S=>mv S rfl fun f S=>ov S rfl (Ze S rfl rfl Zrb) fun f S=>ov S rfl (Ze S rfl rfl Zxd) fun f S=>mw S rfl fun f S=>?_)))));refine oe (Zj fun _ aY=>?_);obtain ⟨aZ,a0,a1⟩:=ZE H;refine Zva (fun f w=>∃ B T,B=aZ∧Zb.le u T∧St 135 e c [(2,.int .u64 a),(8,.int .u64 (IntKind.u64.wrap h)),(14,.int .u64 (Z2 .u64 k (4294967295:Int))),(15,.int .u64 d),(17,.int .u64 (IntKind.u64.wrap ((IntKind.u64.wrap ((IntKind.u64.wrap ((orI .u64 i j)*(4294967296:Int)))+l))-(IntKind.u64.wrap (d*a))))),(18,.int .u64 B)] [] T f w∧inR .u64 B) (fun _ ai=>?_) ?_
 ·have H:=a0;refine wp_block ?_;obtain ⟨bo,a2,aj⟩:=ZE H;refine ZFb a2 (fun a3 f w=>∃ o p J,(o,p)=a3∧Zb.le u J∧St 135 e c [(2,.int .u64 a),(8,.int .u64 (IntKind.u64.wrap h)),(9,.int .u64 g),(10,.int .u64 (Z2 .u64 a (4294967295:Int))),(14,.int .u64 (Z2 .u64 k (4294967295:Int))),(15,.int .u64 d),(16,.int .u64 o),(17,.int .u64 (IntKind.u64.wrap ((IntKind.u64.wrap ((IntKind.u64.wrap ((orI .u64 i j)*(4294967296:Int)))+l))-(IntKind.u64.wrap (d*a))))),(18,.int .u64 p)] [] J f w∧inR .u64 o∧inR .u64 p) ⟨_,_,_,rfl,(leR _),(S.fr' rfl),(Zra _ _),(Zri ah)⟩ ?_;rintro _ f w st ⟨o,p,J,hq,U,S,bp,a4⟩ H bq a5 ak;subst hq;refine Zj fun _ a6=>Zj fun _ a7=>?_;obtain ⟨a8,a9,ba⟩:=ZE H;refine Zva (fun f w=>∃ L V,L=a8∧Zb.le J V∧St 135 e c [(2,.int .u64 a),(8,.int .u64 (IntKind.u64.wrap h)),(9,.int .u64 g),(10,.int .u64 (Z2 .u64 a (4294967295:Int))),(14,.int .u64 (Z2 .u64 k (4294967295:Int))),(15,.int .u64 d),(16,.int .u64 o),(17,.int .u64 (IntKind.u64.wrap ((IntKind.u64.wrap ((IntKind.u64.wrap ((orI .u64 i j)*(4294967296:Int)))+l))-(IntKind.u64.wrap (d*a))))),(18,.int .u64 p),(113,.bool L)] [] V f w) (fun _ al=>?_) ?_
  ·have H:=a9;refine Zv (mv S rfl fun f S=>ov S rfl (Ze S rfl rfl Zqc) fun f S=>mv S rfl fun f S=>?_);rcases ZK (decide ((4294967296:Int)≤p)) with C | C
   ·have H:=ZJ H C;have S:=S.bool (t:=104) rfl C;refine opn S rfl rfl rfl rfl fun f S=>opn S rfl rfl rfl rfl fun f S=>opn S rfl rfl rfl rfl fun f S=>opn S rfl rfl rfl rfl fun f S=>opn S rfl rfl rfl rfl fun f S=>opn S rfl rfl rfl rfl fun f S=>opn S rfl rfl rfl rfl fun f S=>opn S rfl rfl rfl rfl fun f S=>ov S rfl (ZBb S (b:=true) rfl rfl) fun f S=>Zs ?_;obtain rfl:=Zn H;refine Zf (al _ _ ⟨_,_,rfl,(leR _),(S.fr' rfl)⟩)
   have H:=ZI H C;have S:=S.bool (t:=104) rfl C;refine opy S rfl rfl rfl rfl (Zz S rfl) fun f S=>opy S rfl rfl rfl rfl (Zz S rfl) fun f S=>opy S rfl rfl rfl rfl (Ze S rfl rfl Zrb) fun f S=>opy S rfl rfl rfl rfl (Zz S rfl) fun f S=>opy S rfl rfl rfl rfl (Ze S rfl rfl Zrb) fun f S=>opy S rfl rfl rfl rfl (Zz S rfl) fun f S=>opy S rfl rfl rfl rfl (Ze S rfl rfl ZYb) fun f S=>opy S rfl rfl rfl rfl (Ze S rfl rfl Z4c) fun f S=>ov S rfl (ZBb S (b:=false) rfl rfl) fun f S=>Zs ?_;obtain rfl:=Zn H;refine Zf (al _ _ ⟨_,_,rfl,(leR _),(S.fr' rfl)⟩)
  rintro f w ⟨L,V,hq,W,S⟩;subst hq;have H:=ba;refine Zf (a7 _ _ ?_);rcases ZK (L) with D | D
  ·have H:=ZJ H D;refine ZU S rfl D (wp_skip (Zf (a6 _ _ (wp_block (sr (mv S rfl fun f S=>ov S rfl (Ze S rfl rfl Zxd) fun f S=>mw S rfl fun f S=>oe (sr (mv S rfl fun f S=>mv S rfl fun f S=>ov S rfl (Ze S rfl rfl ZYb) fun f S=>mw S rfl fun f S=>?_))))))));refine oe (sr (mv S rfl fun f S=>ov S rfl (Ze S rfl rfl Zqc) fun f S=>oe ?_));rcases ZK (decide ((4294967296:Int)≤IntKind.u64.wrap (o+g))) with E | E
   ·have H:=ZJ H E;refine ZU S rfl E (wp_exit (Zzj rfl ?_));obtain rfl:=Zn H;have hq:=ak _ rfl;subst hq;have H:=aj;refine Z0 (Z4a ?_);obtain rfl:=Zn H;refine Zf (ai _ _ ⟨_,_,rfl,(leT (leT (leR _) U) W),(S.fr' rfl),(Zra _ _)⟩)
   have H:=ZI H E;refine ZO S rfl E (wp_skip (Zpb ?_));obtain rfl:=Zn H;refine a5 _ rfl _ _ ⟨_,_,_,rfl,(leT U W),(S.fr' rfl),(Zra _ _),(Zra _ _)⟩
  have H:=ZI H D;refine ZO S rfl D (wp_exit (Z0 ?_));obtain rfl:=Zn H;have hq:=ak _ rfl;subst hq;have H:=aj;refine Z0 (Z4a ?_);obtain rfl:=Zn H;refine Zf (ai _ _ ⟨_,_,rfl,(leT (leT (leR _) U) W),(S.fr' rfl),a4⟩)
 rintro f w ⟨B,T,hq,br,S,bs⟩;subst hq;have H:=a1;refine Zf (aY _ _ (Zj fun _ bb=>bO H fun bc am H=>Zv (mv S rfl fun f S=>ov S rfl (Ze S rfl rfl Zrb) fun f S=>mv S rfl fun f S=>ov S rfl (Ze S rfl rfl ZYb) fun f S=>mv S rfl fun f S=>ov S rfl (Ze S rfl rfl Zrb) fun f S=>mv S rfl fun f S=>ov S rfl (Ze S rfl rfl ZYb) fun f S=>mv S rfl fun f S=>mv S rfl fun f S=>?_)));refine ov S rfl (Ze S rfl rfl Zrb) fun f S=>ov S rfl (Ze S rfl rfl Zxd) fun f S=>mv S rfl fun f S=>ov S rfl (Ze S rfl rfl (ZNb am)) fun f S=>mw S rfl fun f S=>mw S rfl fun f S=>Zs (Zf (bb _ _ (wp_ret ?_)));obtain rfl:=Zn H;refine ZFa S (Zcf rfl (ZT S rfl) (ZT S rfl)) ⟨[.int .u64 (IntKind.u64.wrap ((IntKind.u64.wrap (d*(4294967296:Int)))+B))],[.int .u64 bc],rfl,(ZD (Zra _ _)),(ZD (Z5f (Zra _ _) am))⟩
theorem Z5r {b:World} {a:Zb} (hv:VIn a b) {c:List Value} {hi:Int} (h:Rep.rel (Zd .u64) a c hi) {d:List Value} {lo:Int} (i:Rep.rel (Zd .u64) a d lo) {e:List Value} {y:Int} (j:Rep.rel (Zd .u64) a e y) {z:Int×Int} (hm:Zqd hi lo y=some z) :
  Ret Tryz.prog 166 #[(Zd .u64).val c,(Zd .u64).val d,(Zd .u64).val e] b a (fun y v'=>∃ f g,y=Value.tuple #[(Zd .u64).val f,(Zd .u64).val g]∧(Zd .u64).rel v' f z.1∧(Zd .u64).rel v' g z.2) :=
 div64_w hv h i j (ZBt hm)
theorem ZPw {E:World} {d:Zb} (hv:VIn d E) {R:List Value} {a:Nat} (g:Rep.rel Zw d R a) {T:List Value} {n:Int} (p1:Rep.rel (Zd .u64) d T n) {z:Nat×Int} (H:ZNi a n=some z):Ret Tryz.prog 127 #[Zw.val R,(Zd .u64).val T] E d (fun y v'=>∃ U V,y = .tuple #[Zw.val U,(Zd .u64).val V]∧Zw.rel v' U z.1∧(Zd .u64).rel v' V z.2):=by
 obtain ⟨W,X,Y,rfl⟩:=Zma g;obtain ⟨rfl,r4⟩:=p1;refine ZQb (K:=35) (args:=[.slice W X Y,.int .u64 n]) hv Tryz.func127 rfl rfl zl fun f S=>?_;unfold ZNi at H;refine sr (mw S rfl fun f S=>mw S rfl fun f S=>oe (Zj fun _ ah=>bO H fun y9 F H=>Zv (mv S rfl fun f S=>ov S rfl (Zea S (ZG g) rfl rfl ZB) fun f S=>?_)));obtain ⟨Z,aa⟩:∃ c:List Value,c=(List.replicate ((((Zc 18446744073709551616 a)).length:Int)).toNat [.int .u64 0]).flatten:=⟨_,rfl⟩;obtain ⟨ai,w,aj,S⟩:=Zci Zre S (l:=(((Zc 18446744073709551616 a)).length:Int)) (c:=(((Zc 18446744073709551616 a)).length:Int)) (ZRa F).1 (ZRa F).2.1 (ZRa F).2.2.1 (ZRa F).2.2.2 aa;have ak:Rep.rels (Zd .u64) d Z (List.replicate ((((Zc 18446744073709551616 a)).length:Int)).toNat (0:Int)):=by rw [aa];exact Z4d (show Rep.rel (Zd .u64) _ [.int .u64 0] _ from (ZD (by decide))) _
 refine Zyb wn rfl zl (aj rfl rfl) S fun f S=>mw S rfl fun f S=>Zs (Zf (ah _ _ (sr (mw S rfl fun f S=>oe (Zj fun _ al=>Zj fun _ am=>bO H fun aV ab H=>Zv (mv S rfl fun f S=>ov S rfl (Zea S (ZG g) rfl rfl ZB) fun f S=>ov S rfl (Ze S rfl rfl (Zza ab)) fun f S=>?_))))));refine mw S rfl fun f S=>Zs (Zf (am _ _ ?_));obtain ⟨an,ao,ap⟩:=ZE H;refine Zva (fun f w=>∃ o s t p u L G,(o,s)=an∧Zb.le d G∧St 35 E d [(6,.slice (mkA t) p u),(7,.int .u64 s)] [Loc.own t 148 1 p u L] G f w∧Rep.rels (Zd .u64) G L o∧p=o.length∧inR .u64 s) (fun _ aq=>?_) ?_
 ·have H:=ao;refine wp_block ?_;obtain ⟨aW,ar,au⟩:=ZE H;refine ZFb ar (fun av f w=>∃ q h b I k v e J,(q,h,b)=av∧Zb.le d J∧St 35 E d [(0,.slice W X Y),(1,.int .u64 n),(6,.slice (mkA I) k v),(7,.int .u64 h),(8,.int .i64 b)] [Loc.own I 148 1 k v e] J f w∧Rep.rels (Zd .u64) J e q∧k=q.length∧inR .u64 h∧inR .i64 b) ⟨_,_,_,some ai,((((Zc 18446744073709551616 a)).length:Int)).toNat,((((Zc 18446744073709551616 a)).length:Int)).toNat,Z,_,rfl,(leR _),(S.fr' rfl),ak,(repN (x:=(0:Int))),(by decide),(Zua ab).2⟩ ?_;rintro _ f w st ⟨q,h,b,I,k,v,e,J,hq,M,S,B,C,ac,aX⟩ H aY aw ax;subst hq;refine Zj fun _ ay=>sr (mv S rfl fun f S=>ov S rfl (Ze S rfl rfl Zqc) fun f S=>oe ?_);rcases ZK (decide ((0:Int)≤b)) with D | D
  ·have H:=ZJ H D;refine ZU S rfl D (wp_skip (Zf (ay _ _ (Zj fun _ az=>wp_block (bO H fun N O H=>bO H fun m aA H=>bO H fun aZ r H=>Zv (mv S rfl fun f S=>mv S rfl fun f S=>mv S rfl fun f S=>mv S rfl fun f S=>mv S rfl fun f S=>?_))))));have g:=Z8 M g;obtain ⟨_,a0,a1,a2,rfl,P,aB⟩:=Zab g (Zi O).2.1;obtain ⟨rfl,aC⟩:=aB;refine ov S rfl (ZM S rfl rfl ZB (Zi O).1 (ltI (ZG g) (Zi O).2.2.1)) fun f S=>ov S rfl (Zka S rfl Z3 (S.view P)) fun f S=>mv S rfl fun f S=>opc S rfl (Z6 S [.int .u64 h,.int .u64 N,.int .u64 n] ZEr rfl rfl) (Z5r S.vin (show Rep.rel (Zd .u64) _ [.int .u64 h] h from (ZD ac)) (show Rep.rel (Zd .u64) _ [.int .u64 N] N from (ZD aC)) (show Rep.rel (Zd .u64) _ [.int .u64 n] n from (ZD r4)) aA) ?_;rintro _ ad f w Q ⟨a3,a4,rfl,aD,aE⟩ S;have B:=ZY Q B;have P:=Atm Q P;obtain ⟨rfl,aF⟩:=aD;obtain ⟨rfl,aG⟩:=aE;refine mv S rfl fun f S=>ov S rfl (Zya S rfl rfl) fun f S=>ov S rfl (Zya S rfl rfl) fun f S=>?_;obtain ⟨aH,rfl⟩:=ZDc S (j:=0) rfl (posN C (Zi r).2.2.2);have ae:=Zla B (Zi r).2.1;obtain ⟨a5,aI⟩:∃ c,(List.take (Zd .u64).n (List.drop ((b).toNat*(Zd .u64).n) e))=c:=⟨_,rfl⟩
   rw [aI] at ae;obtain ⟨rfl,a6⟩:=ae;refine ov S rfl (ZM S rfl rfl ZB (Zi r).1 (ltI C (Zi r).2.2.1)) fun f S=>?_;obtain ⟨w,aJ,S⟩:=ZVb S Z3 (off:=0+(b).toNat*1) (z:=.int .u64 (m.1)) (cs:=[.int .u64 (m.1)]) (Zxb rfl) rfl (i:=0) rfl (ZTd S (j:=0) rfl (ltN C (Zi r).2.2.2)) (by first | rfl | simp [plain]);have aK:Rep.rels (Zd .u64) ad (List.take (0+(b).toNat*1) e++[Value.int IntKind.u64 (m.1)]++List.drop (0+(b).toNat*1+1) e) (q.set (b).toNat m.1):=Z2c B (Zi r).2.2.2 (show Rep.rel (Zd .u64) ad [.int .u64 (m.1)] _ from (ZD aF)) rfl rfl;have aL:k=(q.set (b).toNat m.1).length:=ZWd C;refine Z3f wn rfl (aJ rfl rfl) (mw S rfl fun f S=>Zs (Zpb (Zf (az _ _ (bO H fun a7 af H=>Zv (mv S rfl fun f S=>ov S rfl (Ze S rfl rfl (Zza af)) fun f S=>mw S rfl fun f S=>Zs ?_))))));obtain rfl:=Zn H;refine aw _ rfl _ _ ⟨_,_,_,some aH,k,v,(List.take (0+(b).toNat*1) e++[Value.int IntKind.u64 (m.1)]++List.drop (0+(b).toNat*1+1) e),_,rfl,(leT M Q),(S.fr' rfl),aK,aL,aG,(Zua af).2⟩
  have H:=ZI H D;refine ZO S rfl D (wp_exit (Z0 ?_));obtain rfl:=Zn H;have hq:=ax _ rfl;subst hq;have H:=au;refine Z0 (Z4a ?_);obtain rfl:=Zn H;refine Zf (aq _ _ ⟨_,_,I,k,v,e,_,rfl,(leT (leR _) M),(S.fr' rfl),B,C,ac⟩)
 rintro f w ⟨o,s,t,p,u,L,G,hq,a8,S,aM,aN,aO⟩;subst hq;have H:=ap;refine Zf (al _ _ (Zj fun _ aP=>bO H fun a9 aQ H=>Zv (mv S rfl fun f S=>?_)));obtain ⟨ba,bb,S,aR⟩:=S.pubSlice (i:=0) (A:=(Zd .u64)) (l:=o) (ℓ':=[]) rfl rfl aN aM rfl;refine opc S rfl (Z6 S [.slice (mkA t) p u] ZRe rfl rfl) (ZGe S.vin (show Rep.rel (Zu (Zd .u64)) _ [.slice (mkA t) p u] o from aR) aQ) ?_;rintro _ bc f w bd ⟨be,rfl,ag⟩ S;obtain ⟨aS,aT,aU,rfl⟩:=Zma ag;refine mv S rfl fun f S=>mw S rfl fun f S=>mw S rfl fun f S=>Zs (Zf (aP _ _ (wp_ret ?_)));obtain rfl:=Zn H;refine ZFa S (Zcf rfl (ZT S rfl) (ZT S rfl)) ⟨[.slice aS aT aU],[.int .u64 s],rfl,ag,(ZD aO)⟩
theorem ZXq {c:World} {b:Zb} (hv:VIn b c) {d:List Value} {a:Nat} (i:Rep.rel Zw b d a) {e:List Value} {n:Int} (f:Rep.rel (Zd .u64) b e n) {z:Nat×Int} (hm:Zie a n=some z) :
  Ret Tryz.prog 127 #[Zw.val d,(Zd .u64).val e] c b (fun y v'=>∃ g h,y=Value.tuple #[Zw.val g,(Zd .u64).val h]∧Zw.rel v' g z.1∧(Zd .u64).rel v' h z.2) :=
 ZPw hv i f (ZJx f.2 hm)
theorem cmp_w {m:World} {e:Zb} (hv:VIn e m) {A:List Value} {a:(List Int)} (c:Rep.rel (Zu (Zd .u64)) e A a) {B:List Value} {b:(List Int)} (d:Rep.rel (Zu (Zd .u64)) e B b) {z:Int} (H:ZIh a b=some z):Ret Tryz.prog 60 #[(Zu (Zd .u64)).val A,(Zu (Zd .u64)).val B] m e (fun y v'=>∃ C,y=(Zd .i64).val C∧(Zd .i64).rel v' C z):=by
 obtain ⟨D,E,G,rfl⟩:=ZLn c;obtain ⟨I,J,L,rfl⟩:=ZLn d;refine ZQb (K:=41) (args:=[.slice D E G,.slice I J L]) hv Tryz.func60 rfl rfl zl fun f S=>?_;unfold ZIh at H;refine sr (mw S rfl fun f S=>oe (Zj fun _ P=>sr (mv S rfl fun f S=>ov S rfl (Zea S (ZG c) rfl rfl ZB) fun f S=>mv S rfl fun f S=>ov S rfl (Zea S (ZG d) rfl rfl ZB) fun f S=>ov S rfl (Ze S rfl rfl Zrr) fun f S=>oe ?_)));rcases ZK (((a.length:Int)) != ((b.length:Int))) with g | g
 ·have H:=ZJ H g;refine ZU S rfl g (Zj fun _ Q=>sr (mv S rfl fun f S=>ov S rfl (Zea S (ZG c) rfl rfl ZB) fun f S=>mv S rfl fun f S=>ov S rfl (Zea S (ZG d) rfl rfl ZB) fun f S=>ov S rfl (Ze S rfl rfl Z2b) fun f S=>oe ?_));rcases ZK (decide ((a.length:Int)<(b.length:Int))) with h | h
  ·have H:=ZJ H h;refine ZU S rfl h (sr (mw S rfl fun f S=>oe (wp_ret (ZXa (ZXa ?_)))));obtain rfl:=Zn H;refine ZFa S (ZLa rfl (ZT S rfl)) ⟨[.int .i64 (-1:Int)],rfl,(ZD (by decide))⟩
  have H:=ZI H h;refine ZO S rfl h (wp_skip (Zf (Q _ _ (sr (mw S rfl fun f S=>oe (wp_ret (ZXa ?_)))))));obtain rfl:=Zn H;refine ZFa S (ZLa rfl (ZT S rfl)) ⟨[.int .i64 1],rfl,(ZD (by decide))⟩
 have H:=ZI H g;refine ZO S rfl g (wp_skip (Zf (P _ _ (Zj fun _ R=>Zj fun _ T=>bO H fun ar M H=>Zv (mv S rfl fun f S=>ov S rfl (Zea S (ZG c) rfl rfl ZB) fun f S=>ov S rfl (Ze S rfl rfl (Zza M)) fun f S=>mw S rfl fun f S=>Zs (Zf (T _ _ ?_)))))));obtain ⟨U,V,o⟩:=ZE H;refine Zva (fun f w=>∃  (p:Zb),(.inl (()))=U∧Zb.le e p∧St 41 m e [] [] p f w) (fun _ W=>?_) ?_
 ·have H:=V;refine wp_block ?_;obtain ⟨au,X,q⟩:=ZE H;refine ZFb X (fun Y f w=>∃ i r,i=Y∧Zb.le e r∧St 41 m e [(0,.slice D E G),(1,.slice I J L),(5,.int .i64 i)] [] r f w∧inR .i64 i) ⟨_,_,rfl,(leR _),(S.fr' rfl),(Zua M).2⟩ ?_;rintro _ f w st ⟨i,r,hq,n,S,av⟩ H aw Z s;subst hq;refine Zj fun _ aa=>sr (mv S rfl fun f S=>ov S rfl (Ze S rfl rfl Zqc) fun f S=>oe ?_);rcases ZK (decide ((0:Int)≤i)) with j | j
  ·have H:=ZJ H j;refine ZU S rfl j (wp_skip (Zf (aa _ _ (Zj fun _ ab=>wp_block (Zj fun _ ac=>Zj fun _ ad=>bO H fun ae t H=>bO H fun af u H=>Zae (fl:=#[true,true,true,true,true,true,true,true,true]) Z7e (by kernel_rfl) S ?_)))));intro ops O F w S;refine rfa O F 0 rfl rfl S (Zz S rfl) fun f S=>rfa O F 1 rfl rfl S (Zz S rfl) fun f S=>?_;have c:=Z8 n c;obtain ⟨_,ax,ay,az,rfl,ag,ah⟩:=Zab c (Zi t).2.1;obtain ⟨rfl,aA⟩:=ah;refine rfa O F 2 rfl rfl S (ZM S rfl rfl ZB (Zi t).1 (ltI (ZG c) (Zi t).2.2.1)) fun f S=>rfa O F 3 rfl rfl S (Zka S rfl Z3 (S.view ag)) fun f S=>rfa O F 4 rfl rfl S (Zz S rfl) fun f S=>rfa O F 5 rfl rfl S (Zz S rfl) fun f S=>?_;have d:=Z8 n d;obtain ⟨_,aB,aC,aD,rfl,ai,aj⟩:=Zab d (Zi u).2.1;obtain ⟨rfl,aE⟩:=aj;refine rfa O F 6 rfl rfl S (ZM S rfl rfl ZB (Zi u).1 (ltI (ZG d) (Zi u).2.2.1)) fun f S=>rfa O F 7 rfl rfl S (Zka S rfl Z3 (S.view ai)) fun f S=>rfa O F 8 rfl rfl S (Ze S rfl rfl Z2b) fun f S=>ZMe O F (Zf (ad _ _ ?_));rcases ZK (decide (ae<af)) with k | k
   ·have H:=ZJ H k;refine ZU S rfl k (sr (mw S rfl fun f S=>oe (wp_ret (ZXa (Zsh (ZXa ?_))))));obtain rfl:=Zn H;have hq:=s _ rfl;subst hq;have H:=q;refine ZXa (Zsh ?_);obtain rfl:=Zn H;have H:=o;refine ZXa (ZXa ?_);obtain rfl:=Zn H;refine ZFa S (ZLa rfl (ZT S rfl)) ⟨[.int .i64 (-1:Int)],rfl,(ZD (by decide))⟩
   have H:=ZI H k;refine ZO S rfl k (wp_skip (Zf (ac _ _ (Zj fun _ ak=>bO H fun al v H=>bO H fun am x H=>Zae (fl:=#[true,true,true,true,true,true,true,true,true]) Z7e (by kernel_rfl) S ?_))));intro ops O F w S;refine rfa O F 0 rfl rfl S (Zz S rfl) fun f S=>rfa O F 1 rfl rfl S (Zz S rfl) fun f S=>?_;obtain ⟨aF,an,ao⟩:=ZNg c (Zi v).2.1;obtain ⟨rfl,aG⟩:=ao;refine rfa O F 2 rfl rfl S (ZM S rfl rfl ZB (Zi v).1 (ltI (ZG c) (Zi v).2.2.1)) fun f S=>rfa O F 3 rfl rfl S (Zka S rfl Z3 (S.view an)) fun f S=>rfa O F 4 rfl rfl S (Zz S rfl) fun f S=>rfa O F 5 rfl rfl S (Zz S rfl) fun f S=>?_;obtain ⟨aH,ap,aq⟩:=ZNg d (Zi x).2.1;obtain ⟨rfl,aI⟩:=aq;refine rfa O F 6 rfl rfl S (ZM S rfl rfl ZB (Zi x).1 (ltI (ZG d) (Zi x).2.2.1)) fun f S=>rfa O F 7 rfl rfl S (Zka S rfl Z3 (S.view ap)) fun f S=>rfa O F 8 rfl rfl S (Ze S rfl rfl Z4c) fun f S=>ZMe O F (Zf (ak _ _ ?_));rcases ZK (decide (am<al)) with l | l
   ·have H:=ZJ H l;refine ZU S rfl l (sr (mw S rfl fun f S=>oe (wp_ret (Zsh (ZXa ?_)))));obtain rfl:=Zn H;have hq:=s _ rfl;subst hq;have H:=q;refine ZXa (Zsh ?_);obtain rfl:=Zn H;have H:=o;refine ZXa (ZXa ?_);obtain rfl:=Zn H;refine ZFa S (ZLa rfl (ZT S rfl)) ⟨[.int .i64 1],rfl,(ZD (by decide))⟩
   have H:=ZI H l;refine ZO S rfl l (wp_skip (Zpb (Zf (ab _ _ (bO H fun aJ N H=>Zv (mv S rfl fun f S=>ov S rfl (Ze S rfl rfl (Zza N)) fun f S=>mw S rfl fun f S=>Zs ?_))))));obtain rfl:=Zn H;refine Z _ rfl _ _ ⟨_,_,rfl,n,(S.fr' rfl),(Zua N).2⟩
  have H:=ZI H j;refine ZO S rfl j (wp_exit (Z0 ?_));obtain rfl:=Zn H;have hq:=s _ rfl;subst hq;have H:=q;refine Z0 (Z4a ?_);obtain rfl:=Zn H;refine Zf (W _ _ ⟨_,rfl,(leT (leR _) n),(S.fr' rfl)⟩)
 rintro f w ⟨p,hq,aK,S⟩;subst hq;have H:=o;refine Zf (R _ _ (sr (mw S rfl fun f S=>oe (wp_ret ?_))));obtain rfl:=Zn H;refine ZFa S (ZLa rfl (ZT S rfl)) ⟨[.int .i64 0],rfl,(ZD (by decide))⟩
theorem cmp_c {d:World} {c:Zb} (hv:VIn c d) {e:List Value} {a:Nat} (f:Rep.rel Zw c e a) {g:List Value} {b:Nat} (h:Rep.rel Zw c g b) {z:Int} (hm:ZWc a b=some z) :
  Ret Tryz.prog 60 #[Zw.val e,Zw.val g] d c (fun y v'=>∃ i,y=(Zd .i64).val i∧(Zd .i64).rel v' i z) :=
 cmp_w hv f h ((ZBq (ZOj f) (ZOj h)).trans hm)
theorem mul64_w {e:World} {a:Zb} (hv:VIn a e) {g:List Value} {x:Int} (l:Rep.rel (Zd .u64) a g x) {h:List Value} {y:Int} (m:Rep.rel (Zd .u64) a h y) {z:Int×Int} (H:Zrh x y=some z):Ret Tryz.prog 106 #[(Zd .u64).val g,(Zd .u64).val h] e a (fun y v'=>∃ i c,y = .tuple #[(Zd .u64).val i,(Zd .u64).val c]∧(Zd .u64).rel v' i z.1∧(Zd .u64).rel v' c z.2):=by
 obtain ⟨rfl,c⟩:=l;obtain ⟨rfl,B⟩:=m;refine ZQb (K:=51) (args:=[.int .u64 x,.int .u64 y]) hv Tryz.func106 rfl rfl zl fun f S=>?_;unfold Zrh at H;refine sr (mw S rfl fun f S=>mw S rfl fun f S=>oe (sr (mv S rfl fun f S=>ov S rfl (Ze S rfl rfl Zng) fun f S=>mw S rfl fun f S=>oe (Zj fun _ n=>bO H fun b o H=>Zv (mv S rfl fun f S=>ov S rfl (Ze S rfl rfl (ZNb o)) fun f S=>?_)))));refine mw S rfl fun f S=>Zs (Zf (n _ _ (sr (mv S rfl fun f S=>ov S rfl (Ze S rfl rfl Zng) fun f S=>mw S rfl fun f S=>oe (Zj fun _ p=>bO H fun d q H=>Zv (mv S rfl fun f S=>ov S rfl (Ze S rfl rfl (ZNb q)) fun f S=>mw S rfl fun f S=>?_))))));refine Zs (Zf (p _ _ (sr (mv S rfl fun f S=>mv S rfl fun f S=>ov S rfl (Ze S rfl rfl Zrb) fun f S=>mw S rfl fun f S=>oe (Zj fun _ r=>bO H fun s t H=>Zv (mv S rfl fun f S=>mv S rfl fun f S=>ov S rfl (Ze S rfl rfl Zrb) fun f S=>?_))))));refine mv S rfl fun f S=>ov S rfl (Ze S rfl rfl (ZNb t)) fun f S=>ov S rfl (Ze S rfl rfl ZYb) fun f S=>mw S rfl fun f S=>Zs ?_;have S:=S.fr' (σ':=[(0,.int .u64 x),(1,.int .u64 y),(6,.int .u64 (Z2 .u64 x (4294967295:Int))),(7,.int .u64 b),(9,.int .u64 d),(11,.int .u64 (IntKind.u64.wrap ((IntKind.u64.wrap (b*(Z2 .u64 y (4294967295:Int))))+s)))]) rfl;refine Zf (r _ _ (sr (mv S rfl fun f S=>ov S rfl (Ze S rfl rfl Zng) fun f S=>mw S rfl fun f S=>oe (Zj fun _ u=>bO H fun j v H=>Zv (mv S rfl fun f S=>ov S rfl (Ze S rfl rfl (ZNb v)) fun f S=>mw S rfl fun f S=>Zs (Zf (u _ _ ?_)))))))
 refine sr (mv S rfl fun f S=>mv S rfl fun f S=>mv S rfl fun f S=>ov S rfl (Ze S rfl rfl Zrb) fun f S=>ov S rfl (Ze S rfl rfl ZYb) fun f S=>mw S rfl fun f S=>oe (Zj fun _ w=>bO H fun k A H=>Zv (mv S rfl fun f S=>mv S rfl fun f S=>ov S rfl (Ze S rfl rfl Zrb) fun f S=>?_)));refine mv S rfl fun f S=>ov S rfl (Ze S rfl rfl ZYb) fun f S=>mv S rfl fun f S=>ov S rfl (Ze S rfl rfl (ZNb A)) fun f S=>ov S rfl (Ze S rfl rfl ZYb) fun f S=>mw S rfl fun f S=>Zs (Zf (w _ _ (sr (mv S rfl fun f S=>mv S rfl fun f S=>ov S rfl (Ze S rfl rfl Zrb) fun f S=>mw S rfl fun f S=>?_))));have S:=S.fr' (σ':=[(4,.int .u64 (IntKind.u64.wrap ((IntKind.u64.wrap ((IntKind.u64.wrap (b*d))+j))+k))),(5,.int .u64 (IntKind.u64.wrap (x*y)))]) rfl;refine oe (wp_ret ?_);obtain rfl:=Zn H;refine ZFa S (Zcf rfl (ZT S rfl) (ZT S rfl)) ⟨[.int .u64 (IntKind.u64.wrap ((IntKind.u64.wrap ((IntKind.u64.wrap (b*d))+j))+k))],[.int .u64 (IntKind.u64.wrap (x*y))],rfl,(ZD (Zra _ _)),(ZD (Zra _ _))⟩
theorem ZMn {b:World} {a:Zb} (hv:VIn a b) {c:List Value} {x:Int} (g:Rep.rel (Zd .u64) a c x) {d:List Value} {y:Int} (h:Rep.rel (Zd .u64) a d y) {z:Int×Int} (hm:Zsc x y=some z) :
  Ret Tryz.prog 106 #[(Zd .u64).val c,(Zd .u64).val d] b a (fun y v'=>∃ e f,y=Value.tuple #[(Zd .u64).val e,(Zd .u64).val f]∧(Zd .u64).rel v' e z.1∧(Zd .u64).rel v' f z.2) :=
 mul64_w hv g h (Zqp hm)
theorem take_w {R:World} {o:Zb} (hv:VIn o R) {a off0 g C:Nat} {E:TypeId} {pre0 cs0 post0:List Value} {u:(List Int)} (bf:R.heap[a]? = some (.cells (pre0++cs0++post0).toArray E (0,0))) (aG:off0=pre0.length) (bg:o a=none) (au:g=u.length) (bh:g≤C∧C≤maxLen) (r:Rep.rels (Zd .u64) o cs0 u) {c1:List Value} {v:Nat} (D:Rep.rel Zw o c1 v) {c2:List Value} {q:Int} (p2:Rep.rel (Zd .u64) o c2 q) {z:Bool×(List Int)} (H:Zxh u v q=some z):RetL Tryz.prog 176 #[.slice (some ⟨a,off0,none⟩) g C,Zw.val c1,(Zd .u64).val c2] R o [a] (fun y v' w'=>(∃ r0,y=Zdd.val r0∧Zdd.rel v' r0 z.1)∧v' a=none∧∃ cs,w'.heap[a]? = some (.cells (pre0++cs++post0).toArray E (0,0))∧g=z.2.length∧Rep.rels (Zd .u64) v' cs z.2):=by
 obtain ⟨q1,V,W,rfl⟩:=Zma D;obtain ⟨rfl,r4⟩:=p2;refine Z2p (K:=79) (args:=[.slice (some ⟨a,off0,none⟩) (g) C,.slice q1 V W,.int .u64 q]) hv bf bg Tryz.func176 rfl rfl zl fun f S=>?_;unfold Zxh at H;refine sr (mw S rfl fun f S=>oe (Zj fun _ bi=>bO H fun J bj H=>bO H fun cF av H=>Zv (mv S rfl fun f S=>ov S rfl (Zea S (ZG D) rfl rfl ZB) fun f S=>ov S rfl (Ze S rfl rfl (ZSa bj)) fun f S=>?_)));obtain ⟨aH,aQ⟩:∃ c:List Value,c=(List.replicate (J).toNat [.int .u64 0]).flatten:=⟨_,rfl⟩;obtain ⟨aR,w,bk,S⟩:=Zci Zre S (l:=J) (c:=J) (ZRa av).1 (ZRa av).2.1 (ZRa av).2.2.1 (ZRa av).2.2.2 aQ;have bm:Rep.rels (Zd .u64) o aH (List.replicate (J).toNat (0:Int)):=by rw [aQ];exact Z4d (show Rep.rel (Zd .u64) _ [.int .u64 0] _ from (ZD (by decide))) _
 refine Zyb wn rfl zl (bk rfl rfl) S fun f S=>mw S rfl fun f S=>Zs (Zf (bi _ _ (sr (mw S rfl fun f S=>oe (Zj fun _ bn=>sr (mv S rfl fun f S=>ov S rfl (Zea S (ZG D) rfl rfl ZB) fun f S=>mv S rfl fun f S=>oe ?_))))));obtain ⟨bo,bp,bq⟩:=ZE H;refine Zva (fun f w=>∃ L b aI s G h X,(L,b)=bo∧Zb.le o X∧St 79 ⟨R,[a]⟩ o [(0,.slice (some ⟨a,off0,none⟩) (g) C),(1,.slice q1 V W),(7,.slice (mkA aI) s G),(8,.int .u64 b)] [Loc.box a E (pre0++cs0++post0),Loc.own aI 148 1 s G h] X f w∧Rep.rels (Zd .u64) X h L∧s=L.length∧inR .u64 b) (fun _ br=>?_) ?_
 ·have H:=bp;refine wp_block ?_;obtain ⟨cG,bs,bt⟩:=ZE H;have S:=S.reorder (ℓ':=[Loc.box a E (pre0++cs0++post0),Loc.own (some aR) 148 1 ((J).toNat) (J).toNat aH]) [1,0] rfl (by decide);refine ZFb bs (fun bu f w=>∃ Y ag m aw M Z I ax,(Y,ag,m)=bu∧Zb.le o ax∧St 79 ⟨R,[a]⟩ o [(0,.slice (some ⟨a,off0,none⟩) (g) C),(1,.slice q1 V W),(2,.int .u64 q),(7,.slice (mkA aw) M Z),(8,.int .u64 ag),(20,.slice q1 V W),(21,.int .i64 ((((Zc 18446744073709551616 v)).length:Int))),(22,.int .i64 m)] [Loc.box a E (pre0++cs0++post0),Loc.own aw 148 1 M Z I] ax f w∧Rep.rels (Zd .u64) ax I Y∧M=Y.length∧inR .u64 ag∧inR .i64 m) ⟨_,_,_,some aR,(J).toNat,(J).toNat,aH,_,rfl,(leR _),(S.fr' rfl),bm,(repN (x:=(0:Int))),(by decide),(by decide)⟩ ?_;rintro _ f w st ⟨Y,ag,m,aw,M,Z,I,ax,hq,ay,S,ah,ai,bv,cH⟩ H cI bw bx;subst hq;have r:=ZY ay r;refine sr (ov S rfl (Ze S rfl rfl Z2b) fun f S=>oe (Zj fun _ bz=>?_));rcases ZK (decide (m<(((Zc 18446744073709551616 v)).length:Int))) with aj | aj
  ·have H:=ZJ H aj;refine ZU S rfl aj (wp_skip (Zf (bz _ _ (Zj fun _ bA=>wp_block (Zj fun _ bB=>bO H fun aJ aK H=>Zv (mv S rfl fun f S=>?_))))));have D:=Z8 ay D;obtain ⟨_,aS,aT,cJ,rfl,bC,bD⟩:=Zab D (Zi aK).2.1;obtain ⟨rfl,bE⟩:=bD;refine ov S rfl (ZM S rfl rfl ZB (Zi aK).1 (ltI (ZG D) (Zi aK).2.2.1)) fun f S=>ov S rfl (Zka S rfl Z3 (S.view bC)) fun f S=>mw S rfl fun f S=>mw S rfl fun f S=>Zs (Zf (bB _ _ (Zj fun _ bG=>bO H fun aU bH H=>Zv (mv S rfl fun f S=>mv S rfl fun f S=>opc S rfl (Z6 S [.int .u64 aJ,.int .u64 q] Zkn rfl rfl) (ZMn S.vin (show Rep.rel (Zd .u64) _ [.int .u64 aJ] aJ from (ZD bE)) (show Rep.rel (Zd .u64) _ [.int .u64 q] q from (ZD r4)) bH) ?_))));rintro _ aV f w aL ⟨cK,cL,rfl,bI,bJ⟩ S;have r:=ZY aL r;have ah:=ZY aL ah;obtain ⟨rfl,cM⟩:=bI;obtain ⟨rfl,cN⟩:=bJ;refine mv S rfl fun f S=>ov S rfl (Zya S rfl rfl) fun f S=>ov S rfl (Zya S rfl rfl) fun f S=>mw S rfl fun f S=>mw S rfl fun f S=>Zs (Zf (bG _ _ (sr (mw S rfl fun f S=>oe (Zj fun _ bK=>bO H fun N aW H=>bO H fun cO aa H=>Zv ?_)))));refine mv S rfl fun f S=>mv S rfl fun f S=>mv S rfl fun f S=>mv S rfl fun f S=>ov S rfl (ZUj S [.int .u64 (aU.2),.int .u64 ag,.int .u64 0] (ZQm ZWq aW) rfl rfl) fun f S=>mv S rfl fun f S=>ov S rfl (Zya S rfl rfl) fun f S=>ov S rfl (Zya S rfl rfl) fun f S=>?_
   obtain ⟨aX,rfl⟩:=ZDc S (j:=1) rfl (posN ai (Zi aa).2.2.2);have aY:=Zla ah (Zi aa).2.1;obtain ⟨cP,bM⟩:∃ c,(List.take (Zd .u64).n (List.drop ((m).toNat*(Zd .u64).n) I))=c:=⟨_,rfl⟩;rw [bM] at aY;obtain ⟨rfl,cQ⟩:=aY;refine ov S rfl (ZM S rfl rfl ZB (Zi aa).1 (ltI ai (Zi aa).2.2.1)) fun f S=>?_;obtain ⟨w,bP,S⟩:=ZVb S Z3 (off:=0+(m).toNat*1) (z:=.int .u64 (N.1)) (cs:=[.int .u64 (N.1)]) (Zxb rfl) rfl (i:=1) rfl (ZTd S (j:=1) rfl (ltN ai (Zi aa).2.2.2)) (by first | rfl | simp [plain]);have bQ:Rep.rels (Zd .u64) aV (List.take (0+(m).toNat*1) I++[Value.int IntKind.u64 (N.1)]++List.drop (0+(m).toNat*1+1) I) (Y.set (m).toNat N.1):=Z2c ah (Zi aa).2.2.2 (show Rep.rel (Zd .u64) aV [.int .u64 (N.1)] _ from (ZD (Znm aW))) rfl rfl;have bR:M=(Y.set (m).toNat N.1).length:=ZWd ai;refine Z3f wn rfl (bP rfl rfl) (mw S rfl fun f S=>Zs ?_);have S:=S.fr' (σ':=[(0,.slice (some ⟨a,off0,none⟩) (g) C),(1,.slice (some ⟨aS,aT,none⟩) V W),(2,.int .u64 q),(7,.slice (mkA (some aX)) (M) Z),(11,.int .u64 (aU.1)),(13,.int .u64 (N.2)),(20,.slice (some ⟨aS,aT,none⟩) V W),(21,.int .i64 ((((Zc 18446744073709551616 v)).length:Int))),(22,.int .i64 m)]) rfl
   refine Zf (bK _ _ (Zv (mv S rfl fun f S=>mv S rfl fun f S=>ov S rfl (Ze S rfl rfl ZYb) fun f S=>mw S rfl fun f S=>Zs (Zpb (Zf (bA _ _ (bO H fun cR aZ H=>Zv (ov S rfl (Ze S rfl rfl (ZSa aZ)) fun f S=>mv S rfl fun f S=>Zs ?_))))))));obtain rfl:=Zn H;refine bw _ rfl _ _ ⟨_,_,_,some aX,M,Z,(List.take (0+(m).toNat*1) I++[Value.int IntKind.u64 (N.1)]++List.drop (0+(m).toNat*1+1) I),_,rfl,(leT ay aL),(S.fr' rfl),bQ,bR,(Zra _ _),(Zua aZ).2⟩
  have H:=ZI H aj;refine ZO S rfl aj (wp_exit (Z0 ?_));obtain rfl:=Zn H;have hq:=bx _ rfl;subst hq;have H:=bt;refine Z0 (Z4a ?_);obtain rfl:=Zn H;refine Zf (br _ _ ⟨_,_,aw,M,Z,I,_,rfl,(leT (leR _) ay),(S.fr' rfl),ah,ai,bv⟩)
 rintro f w ⟨L,b,aI,s,G,h,X,hq,a0,S,a1,az,bS⟩;subst hq;have H:=bq;have r:=ZY a0 r;refine Zf (bn _ _ (Zj fun _ bT=>bO H fun cS ab H=>Zv (mv S rfl fun f S=>mv S rfl fun f S=>?_)));have D:=Z8 a0 D;refine ov S rfl (Zea S (ZG D) rfl rfl ZB) fun f S=>mv S rfl fun f S=>?_;obtain ⟨ac,rfl⟩:=ZDc S (j:=1) rfl (posN az (Zi ab).2.2.2);have a2:=Zla a1 (Zi ab).2.1;obtain ⟨cT,bU⟩:∃ c,(List.take (Zd .u64).n (List.drop (((((Zc 18446744073709551616 v)).length:Int)).toNat*(Zd .u64).n) h))=c:=⟨_,rfl⟩;rw [bU] at a2;obtain ⟨rfl,cU⟩:=a2;refine ov S rfl (ZM S rfl rfl ZB (Zi ab).1 (ltI az (Zi ab).2.2.1)) fun f S=>?_;obtain ⟨w,bV,S⟩:=ZVb S Z3 (off:=0+((((Zc 18446744073709551616 v)).length:Int)).toNat*1) (z:=.int .u64 b) (cs:=[.int .u64 b]) (Zxb rfl) rfl (i:=1) rfl (ZTd S (j:=1) rfl (ltN az (Zi ab).2.2.2)) (by first | rfl | simp [plain]);have p:Rep.rels (Zd .u64) X (List.take (0+((((Zc 18446744073709551616 v)).length:Int)).toNat*1) h++[Value.int IntKind.u64 (b)]++List.drop (0+((((Zc 18446744073709551616 v)).length:Int)).toNat*1+1) h) (L.set ((((Zc 18446744073709551616 v)).length:Int)).toNat b):=Z2c a1 (Zi ab).2.2.2 (show Rep.rel (Zd .u64) X [.int .u64 b] _ from (ZD bS)) rfl rfl
 have aM:s=(L.set ((((Zc 18446744073709551616 v)).length:Int)).toNat b).length:=ZWd az;refine Z3f wn rfl (bV rfl rfl) (Zs (Zf (bT _ _ (Zj fun _ bW=>Zj fun _ bX=>bO H fun cV bY H=>bO H fun cW bZ H=>bO H fun b1 b2 H=>Zv (mv S rfl fun f S=>?_)))));have p0s120:=r;have h69s120:=p;have b3:=S.vst.le;obtain ⟨cX,cY,a3,t,S,b4,b5,b6,T⟩:=S.lendSeg (i:=0) (A:=(Zd .u64)) (l:=u) (ℓ':=[Loc.own (some ac) 148 1 s G ((List.take (0+((((Zc 18446744073709551616 v)).length:Int)).toNat*1) h++[Value.int IntKind.u64 (b)]++List.drop (0+((((Zc 18446744073709551616 v)).length:Int)).toNat*1+1) h))]) rfl rfl aG r au bh;have p:=ZY a3 p;refine opc S rfl (Z6 S [.slice (some ⟨a,off0,none⟩) (g) C] ZRe rfl rfl) (ZGe S.vin (show Rep.rel (Zu (Zd .u64)) _ [.slice (some ⟨a,off0,none⟩) (g) C] u from T) bY) ?_;rintro _ cZ f w aA ⟨c0,rfl,P⟩ S;have p:=ZY aA p;have t:=aA _ _ t;obtain ⟨b7,b8,b9,rfl⟩:=Zma P;refine mv S rfl fun f S=>?_;have T:=Z8 aA T;have h128s137:=T;have h69s137:=p;have h133s137:=P;have h124s137:=t;have ca:=S.vst.le;obtain ⟨c3,c4,aB,ak,S,cb,cc,cd,ce⟩:=S.lendSlice (i:=0) (A:=(Zd .u64)) (l:=(L.set ((((Zc 18446744073709551616 v)).length:Int)).toNat b)) (ℓ':=[]) rfl rfl rfl p aM
 have t:=aB _ _ t;refine opc S rfl (Z6 S [.slice (mkA (some ac)) (s) G] ZRe rfl rfl) (ZGe S.vin (show Rep.rel (Zu (Zd .u64)) _ [.slice (mkA (some ac)) (s) G] ((L.set ((((Zc 18446744073709551616 v)).length:Int)).toNat b)) from ce) bZ) ?_;rintro _ c5 f w al ⟨c6,rfl,a4⟩ S;have t:=al _ _ t;have ak:=al _ _ ak;obtain ⟨cg,ch,ci,rfl⟩:=Zma a4;have P:=Z8 (leT aB al) P;refine opc S rfl (Z6 S [.slice b7 b8 b9,.slice cg ch ci] ZJr rfl rfl) (cmp_c S.vin P a4 b2) ?_;rintro _ c7 f w am ⟨c8,rfl,cj⟩ S;have t:=am _ _ t;have ak:=am _ _ ak;obtain ⟨rfl,c9⟩:=cj;refine ov S rfl (Ze S rfl rfl Z2b) fun f S=>Zs ?_;obtain ⟨da,an,S⟩:=S.takeBack (e:=Loc.own (some ac) 148 1 s G ((List.take (0+((((Zc 18446744073709551616 v)).length:Int)).toNat*1) h++[Value.int IntKind.u64 (b)]++List.drop (0+((((Zc 18446744073709551616 v)).length:Int)).toNat*1+1) h))) (leT (leT aB al) am) rfl ak cb cc ca cd;have T:=Z8 (leT (leT aB al) am) T;have T:=Z8 an h128s137;have p:=ZY an h69s137;have P:=Z8 am P;have P:=Z8 an h133s137;have t:=an _ _ h124s137;obtain ⟨a5,a6,S⟩:=S.takeBack (e:=Loc.box a E (pre0++cs0++post0)) (leT (leT a3 aA) an) rfl t b4 b5 b3 b6;have r:=ZY a6 p0s120
 have p:=ZY a6 h69s120;refine Zf (bX _ _ ?_);rcases ZK (decide (b1<(0:Int))) with ao | ao
 ·have H:=ZJ H ao;refine ZU S rfl ao (sr (mw S rfl fun f S=>oe (wp_ret (ZXa ?_))));obtain rfl:=Zn H;refine ZCm S (ZLa rfl (ZT S rfl)) ⟨⟨[.bool false],rfl,ZHp⟩,(S.boxAt (j:=0) rfl).2,_,(S.boxAt (j:=0) rfl).1,au,r⟩
 have H:=ZI H ao;refine ZO S rfl ao (wp_skip (Zf (bW _ _ (sr (mw S rfl fun f S=>oe (Zj fun _ ck=>sr (mv S rfl fun f S=>ov S rfl (Zea S au rfl rfl ZB) fun f S=>mv S rfl fun f S=>oe ?_)))))));obtain ⟨cl,cm,cn⟩:=ZE H;refine Zva (fun f w=>∃ aC aN aD,aC=cl∧Zb.le a5 aD∧St 79 ⟨R,[a]⟩ o [] [Loc.box a E (pre0++aN++post0)] aD f w∧Rep.rels (Zd .u64) aD aN aC∧g=aC.length) (fun _ co=>?_) ?_
 ·have H:=cm;refine wp_block ?_;obtain ⟨db,cp,cq⟩:=ZE H;refine ZFb cp (fun cr f w=>∃ ad ap d B ae,(ad,ap,d)=cr∧Zb.le a5 ae∧St 79 ⟨R,[a]⟩ o [(0,.slice (some ⟨a,off0,none⟩) (g) C),(7,.slice (mkA (some ac)) (s) G),(14,.int .u64 ap),(58,.int .i64 ((u.length:Int))),(59,.int .i64 d)] [Loc.box a E (pre0++B++post0),Loc.own (some ac) 148 1 s G ((List.take (0+((((Zc 18446744073709551616 v)).length:Int)).toNat*1) h++[Value.int IntKind.u64 (b)]++List.drop (0+((((Zc 18446744073709551616 v)).length:Int)).toNat*1+1) h))] ae f w∧Rep.rels (Zd .u64) ae B ad∧g=ad.length∧inR .u64 ap∧inR .i64 d) ⟨_,_,_,cs0,_,rfl,(leR _),(S.fr' rfl),r,au,(by decide),(by decide)⟩ ?_;rintro _ f w st ⟨ad,ap,d,B,ae,hq,aO,S,af,Q,dc,dd⟩ H de ct cu;subst hq;have p:=ZY aO p;refine sr (ov S rfl (Ze S rfl rfl Z2b) fun f S=>oe (Zj fun _ cv=>?_));rcases ZK (decide (d<(u.length:Int))) with aq | aq
  ·have H:=ZJ H aq;refine ZU S rfl aq (wp_skip (Zf (cv _ _ (Zj fun _ cw=>wp_block (sr (mv S rfl fun f S=>mw S rfl fun f S=>oe (bO H fun a7 aE H=>bO H fun a8 aF H=>bO H fun U aP H=>bO H fun df ar H=>Zae (fl:=#[true,true,true,true,true,true,true,true,true,true,true,false,true,true,true,true,false,false]) Z7e (by kernel_rfl) S ?_)))))));intro ops O F w S;refine rfa O F 0 rfl rfl S (Zz S rfl) fun f S=>rfa O F 1 rfl rfl S (Zz S rfl) fun f S=>rfa O F 2 rfl rfl S (Zz S rfl) fun f S=>rfa O F 3 rfl rfl S (Zz S rfl) fun f S=>?_;have a9:=Zla af (Zi aE).2.1;obtain ⟨dg,ba⟩:∃ c,(List.take (Zd .u64).n (List.drop ((d).toNat*(Zd .u64).n) B))=c:=⟨_,rfl⟩;rw [ba] at a9;obtain ⟨rfl,cx⟩:=a9;refine rfa O F 4 rfl rfl S (ZM S rfl rfl ZB (Zi aE).1 (ltI Q (Zi aE).2.2.1)) fun f S=>rfa O F 5 rfl rfl S (Zka S rfl Z3 (ZRi S (j:=0) rfl aG (ZYd af Q) ba (ltN Q (Zi aE).2.2.2) 0 [.int .u64 a7] rfl zl)) fun f S=>rfa O F 6 rfl rfl S (Zz S rfl) fun f S=>rfa O F 7 rfl rfl S (Zz S rfl) fun f S=>?_;have bb:=Zla p (Zi aF).2.1;obtain ⟨dh,bc⟩:∃ c,(List.take (Zd .u64).n (List.drop ((d).toNat*(Zd .u64).n) (List.take (0+((((Zc 18446744073709551616 v)).length:Int)).toNat*1) h++[Value.int IntKind.u64 (b)]++List.drop (0+((((Zc 18446744073709551616 v)).length:Int)).toNat*1+1) h)))=c:=⟨_,rfl⟩
   rw [bc] at bb;obtain ⟨rfl,cy⟩:=bb;refine rfa O F 8 rfl rfl S (ZM S rfl rfl ZB (Zi aF).1 (ltI aM (Zi aF).2.2.1)) fun f S=>rfa O F 9 rfl rfl S (Zka S rfl Z3 (Z5c S (j:=1) rfl bc (ltN aM (Zi aF).2.2.2) 0 [.int .u64 a8] rfl zl)) fun f S=>rfa O F 10 rfl rfl S (Zz S rfl) fun f S=>go1 O F 11 (nva [5,9,10,4,8,2,3,6,7] [0,1] O rfl rfl S (ZUj S [.int .u64 a7,.int .u64 a8,.int .u64 ap] (Z3q Ztx cx cy aP) rfl rfl) fun f S=>⟨(py S rfl rfl (Zz S rfl) (py S rfl rfl (Zz S rfl) Znc)),rfa O F 12 rfl rfl S (Zz S rfl) fun f S=>rfa O F 13 rfl rfl S (Zya S rfl rfl) fun f S=>rfa O F 14 rfl rfl S (Zya S rfl rfl) fun f S=>?_⟩);have bd:=Zla af (Zi ar).2.1;obtain ⟨di,cz⟩:∃ c,(List.take (Zd .u64).n (List.drop ((d).toNat*(Zd .u64).n) B))=c:=⟨_,rfl⟩;rw [cz] at bd;obtain ⟨rfl,dj⟩:=bd;refine rfa O F 15 rfl rfl S (ZM S rfl rfl ZB (Zi ar).1 (ltI Q (Zi ar).2.2.1)) fun f S=>go1 O F 16 ?_;obtain ⟨w,cA,S⟩:=Zsx S (k:=(d).toNat) Z3 (z:=.int .u64 (U.1)) (c:=[.int .u64 (U.1)]) (Zxb rfl) rfl (i:=0) rfl aG (ZYd af Q) (ltN Q (Zi ar).2.2.2) rfl (by first | rfl | simp [plain]);have cB:Rep.rels (Zd .u64) ae (List.take (0+(d).toNat*1) B++[Value.int IntKind.u64 (U.1)]++List.drop (0+(d).toNat*1+1) B) (ad.set (d).toNat U.1):=Z2c af (Zi ar).2.2.2 (show Rep.rel (Zd .u64) ae [.int .u64 (U.1)] _ from (ZD (Zdq aP))) rfl rfl
   have cC:g=(ad.set (d).toNat U.1).length:=ZWd Q;refine nxs [0,1,2,3,4,5,6,7,8,9,10,11,12,13,15] [14] O rfl rfl (cA rfl rfl) (⟨(py S rfl rfl (Zya S rfl rfl) Znc),go1 O F 17 (nva [0,1,2,3,4,5,6,7,8,9,10,11,12,13,14,15,16] [] O rfl rfl S (Zfd S rfl) fun f S=>⟨Znc,ZMe O F (Zpb (Zf (cw _ _ (bO H fun dk be H=>Zv (ov S rfl (Ze S rfl rfl (ZSa be)) fun f S=>mv S rfl fun f S=>Zs ?_)))))⟩)⟩);obtain rfl:=Zn H;refine ct _ rfl _ _ ⟨_,_,_,(List.take (0+(d).toNat*1) B++[Value.int IntKind.u64 (U.1)]++List.drop (0+(d).toNat*1+1) B),_,rfl,aO,(S.fr' rfl),cB,cC,(Zar aP),(Zua be).2⟩
  have H:=ZI H aq;refine ZO S rfl aq (wp_exit (Z0 ?_));obtain rfl:=Zn H;have hq:=cu _ rfl;subst hq;have H:=cq;refine Z0 (Z4a ?_);obtain rfl:=Zn H;have S:=S.reorder (ℓ':=[Loc.box a E (pre0++B++post0)]) [0] rfl (by decide);refine Zf (co _ _ ⟨_,B,_,rfl,(leT (leR _) aO),(S.fr' rfl),af,Q⟩)
 rintro f w ⟨aC,aN,aD,hq,dl,S,cD,cE⟩;subst hq;have H:=cn;refine Zf (ck _ _ (sr (mw S rfl fun f S=>oe (wp_ret ?_))));obtain rfl:=Zn H;refine ZCm S (ZLa rfl (ZT S rfl)) ⟨⟨[.bool true],rfl,ZHp⟩,(S.boxAt (j:=0) rfl).2,_,(S.boxAt (j:=0) rfl).1,cE,cD⟩
theorem take_c {d:World} {a:Zb} (hv:VIn a d) {b off0 c e:Nat} {f:TypeId} {pre0 cs0 post0:List Value} {u:(List Int)} (l:d.heap[b]? = some (.cells (pre0++cs0++post0).toArray f (0,0))) (m:off0=pre0.length) (n:a b=none) (o:c=u.length) (p:c≤e∧e≤maxLen) (g:Rep.rels (Zd .u64) a cs0 u) {h:List Value} {v:Nat} (r:Rep.rel Zw a h v) {i:List Value} {q:Int} (j:Rep.rel (Zd .u64) a i q) {z:Bool×(List Int)} (hm:ZCg u v q=some z) :
  RetL Tryz.prog 176 #[Value.slice (some ⟨b,off0,none⟩) c e,Zw.val h,(Zd .u64).val i] d a [b] (fun y v' w'=>(∃ k,y=Zdd.val k∧Zdd.rel v' k z.1)∧v' b=none∧∃ cs,w'.heap[b]? = some (.cells (pre0++cs++post0).toArray f (0,0))∧c=z.2.length∧Rep.rels (Zd .u64) v' cs z.2) :=
 take_w hv l m n o p g r j (Znv (Zsn g) j.2 hm)
theorem digit_w {x:World} {m:Zb} (hv:VIn m x) {a off0 e h:Nat} {A:TypeId} {pre0 cs0 post0:List Value} {u:(List Int)} (a0:x.heap[a]? = some (.cells (pre0++cs0++post0).toArray A (0,0))) (G:off0=pre0.length) (a1:m a=none) (k:e=u.length) (a2:e≤h∧h≤maxLen) (d:Rep.rels (Zd .u64) m cs0 u) {c1:List Value} {v:Nat} (g:Rep.rel Zw m c1 v) {z:Int×(List Int)} (H:ZBi u v=some z):RetL Tryz.prog 144 #[.slice (some ⟨a,off0,none⟩) e h,Zw.val c1] x m [a] (fun y v' w'=>(∃ r0,y=(Zd .u64).val r0∧(Zd .u64).rel v' r0 z.1)∧v' a=none∧∃ cs,w'.heap[a]? = some (.cells (pre0++cs++post0).toArray A (0,0))∧e=z.2.length∧Rep.rels (Zd .u64) v' cs z.2):=by
 obtain ⟨q1,o,p,rfl⟩:=Zma g;refine Z2p (K:=90) (args:=[.slice (some ⟨a,off0,none⟩) (e) h,.slice q1 o p]) hv a0 a1 Tryz.func144 rfl rfl zl fun f S=>?_;unfold ZBi at H;refine sr (mw S rfl fun f S=>oe (sr (mv S rfl fun f S=>ov S rfl (Zea S (ZG g) rfl rfl ZB) fun f S=>mw S rfl fun f S=>oe (sr (mw S rfl fun f S=>oe (Zj fun _ a3=>Zj fun _ a4=>bO H fun aE V H=>?_))))));refine bO H fun ck a5 H=>bO H fun a6 aj H=>Zae (fl:=#[true,true,true,true,true,true,true,true,true,true]) Z7e (by kernel_rfl) S ?_;intro ops O F w S;refine rfa O F 0 rfl rfl S (Zz S rfl) fun f S=>rfa O F 1 rfl rfl S (Zz S rfl) fun f S=>?_;have aF:=Zla d (Zi V).2.1;obtain ⟨cl,aG⟩:∃ c,(List.take (Zd .u64).n (List.drop (((((Zc 18446744073709551616 v)).length:Int)).toNat*(Zd .u64).n) cs0))=c:=⟨_,rfl⟩;rw [aG] at aF;obtain ⟨rfl,cm⟩:=aF;refine rfa O F 2 rfl rfl S (ZM S rfl rfl ZB (Zi V).1 (ltI k (Zi V).2.2.1)) fun f S=>rfa O F 3 rfl rfl S (Zka S rfl Z3 (ZRi S (j:=0) rfl G (ZYd d k) aG (ltN k (Zi V).2.2.2) 0 [.int .u64 aE] rfl zl)) fun f S=>rfa O F 4 rfl rfl S (Zz S rfl) fun f S=>rfa O F 5 rfl rfl S (Zz S rfl) fun f S=>rfa O F 6 rfl rfl S (Ze S rfl rfl (Zza a5)) fun f S=>?_;obtain ⟨_,r,s,cn,rfl,a7,a8⟩:=Zab g (Zi aj).2.1
 obtain ⟨rfl,co⟩:=a8;refine rfa O F 7 rfl rfl S (ZM S rfl rfl ZB (Zi aj).1 (ltI (ZG g) (Zi aj).2.2.1)) fun f S=>rfa O F 8 rfl rfl S (Zka S rfl Z3 (S.view a7)) fun f S=>rfa O F 9 rfl rfl S (Ze S rfl rfl Z2b) fun f S=>ZMe O F (Zf (a4 _ _ ?_));obtain ⟨a9,ba,bb⟩:=ZE H;refine Zva (fun f w=>∃ W I,W=a9∧Zb.le m I∧St 90 ⟨x,[a]⟩ m [(0,.slice (some ⟨a,off0,none⟩) (e) h),(1,.slice (some ⟨r,s,none⟩) o p),(6,.int .u64 W)] [Loc.box a A (pre0++cs0++post0)] I f w∧inR .u64 W) (fun _ aH=>?_) ?_
 ·have H:=ba;rcases ZK (decide (aE<a6)) with J | J
  ·have H:=ZJ H J;refine ZU S rfl J (sr (mw S rfl fun f S=>oe (Zj fun _ bc=>bO H fun X Y H=>bO H fun bd be H=>bO H fun Z aa H=>bO H fun cp bf H=>bO H fun ak al H=>bO H fun aI bg H=>Zae (fl:=#[true,true,true,true,true,true,true,true,true,true,true,true,true,true,false,true,true,true,false,false]) Z7e (by kernel_rfl) S ?_)));intro ops O F w S;refine rfa O F 0 rfl rfl S (Zz S rfl) fun f S=>rfa O F 1 rfl rfl S (Zz S rfl) fun f S=>?_;have aJ:=Zla d (Zi Y).2.1;obtain ⟨cq,aK⟩:∃ c,(List.take (Zd .u64).n (List.drop (((((Zc 18446744073709551616 v)).length:Int)).toNat*(Zd .u64).n) cs0))=c:=⟨_,rfl⟩;rw [aK] at aJ;obtain ⟨rfl,bh⟩:=aJ;refine rfa O F 2 rfl rfl S (ZM S rfl rfl ZB (Zi Y).1 (ltI k (Zi Y).2.2.1)) fun f S=>rfa O F 3 rfl rfl S (Zka S rfl Z3 (ZRi S (j:=0) rfl G (ZYd d k) aK (ltN k (Zi Y).2.2.2) 0 [.int .u64 X] rfl zl)) fun f S=>rfa O F 4 rfl rfl S (Zz S rfl) fun f S=>rfa O F 5 rfl rfl S (Zz S rfl) fun f S=>rfa O F 6 rfl rfl S (Ze S rfl rfl (Zza be)) fun f S=>?_;have aL:=Zla d (Zi aa).2.1;obtain ⟨cr,aM⟩:∃ c,(List.take (Zd .u64).n (List.drop ((bd).toNat*(Zd .u64).n) cs0))=c:=⟨_,rfl⟩;rw [aM] at aL;obtain ⟨rfl,bi⟩:=aL;refine rfa O F 7 rfl rfl S (ZM S rfl rfl ZB (Zi aa).1 (ltI k (Zi aa).2.2.1)) fun f S=>rfa O F 8 rfl rfl S (Zka S rfl Z3 (ZRi S (j:=0) rfl G (ZYd d k) aM (ltN k (Zi aa).2.2.2) 0 [.int .u64 Z] rfl zl)) fun f S=>rfa O F 9 rfl rfl S (Zz S rfl) fun f S=>rfa O F 10 rfl rfl S (Zz S rfl) fun f S=>rfa O F 11 rfl rfl S (Ze S rfl rfl (Zza bf)) fun f S=>?_
   obtain ⟨ct,am,bj⟩:=ZNg g (Zi al).2.1;obtain ⟨rfl,bk⟩:=bj;refine rfa O F 12 rfl rfl S (ZM S rfl rfl ZB (Zi al).1 (ltI (ZG g) (Zi al).2.2.1)) fun f S=>rfa O F 13 rfl rfl S (Zka S rfl Z3 (S.view am)) fun f S=>go1 O F 14 (nxc [3,8,13,2,7,12,0,1,4,6,9,11,5,10] [] O rfl S rfl (Z6 S [.int .u64 X,.int .u64 Z,.int .u64 ak] ZEr rfl rfl) (Z5r S.vin (show Rep.rel (Zd .u64) _ [.int .u64 X] X from (ZD bh)) (show Rep.rel (Zd .u64) _ [.int .u64 Z] Z from (ZD bi)) (show Rep.rel (Zd .u64) _ [.int .u64 ak] ak from (ZD bk)) bg) ?_);rintro _ aN f w ab ⟨cu,cv,rfl,bm,bn⟩ S;have d:=ZY ab d;have am:=Atm ab am;obtain ⟨rfl,bo⟩:=bm;obtain ⟨rfl,bp⟩:=bn;refine ⟨Znc,rfa O F 15 rfl rfl S (Zz S rfl) fun f S=>rfa O F 16 rfl rfl S (Zya S rfl rfl) fun f S=>rfa O F 17 rfl rfl S (Zya S rfl rfl) fun f S=>go1 O F 18 (nva [0,1,2,3,4,5,6,7,8,9,10,11,12,13,14,15,16] [17] O rfl rfl S (Zfd S rfl) fun f S=>⟨(py S rfl rfl (Zya S rfl rfl) Znc),go1 O F 19 (nva [0,1,2,3,4,5,6,7,8,9,10,11,12,13,14,15,16,17,18] [] O rfl rfl S (Zfd S rfl) fun f S=>⟨Znc,ZMe O F ?_⟩)⟩)⟩;have S:=S.fr' (σ':=[(0,.slice (some ⟨a,off0,none⟩) (e) h),(1,.slice (some ⟨r,s,none⟩) o p),(5,.int .i64 ((((Zc 18446744073709551616 v)).length:Int))),(6,.int .u64 (aI.1)),(7,.int .u64 (aI.2))]) rfl
   refine Zf (bc _ _ ?_);obtain ⟨bq,br,bs⟩:=ZE H;refine Zva (fun f w=>∃ ac an,ac=bq∧Zb.le aN an∧St 90 ⟨x,[a]⟩ m [(0,.slice (some ⟨a,off0,none⟩) (e) h),(1,.slice (some ⟨r,s,none⟩) o p),(6,.int .u64 ac)] [Loc.box a A (pre0++cs0++post0)] an f w∧inR .u64 ac) (fun _ aO=>?_) ?_
   ·have H:=br;refine wp_block ?_;obtain ⟨cw,bt,aP⟩:=ZE H;refine ZFb bt (fun bu f w=>∃ q l ao,(q,l)=bu∧Zb.le aN ao∧St 90 ⟨x,[a]⟩ m [(0,.slice (some ⟨a,off0,none⟩) (e) h),(1,.slice (some ⟨r,s,none⟩) o p),(5,.int .i64 ((((Zc 18446744073709551616 v)).length:Int))),(6,.int .u64 q),(7,.int .u64 l)] [Loc.box a A (pre0++cs0++post0)] ao f w∧inR .u64 q∧inR .u64 l) ⟨_,_,_,rfl,(leR _),(S.fr' rfl),bo,bp⟩ ?_;rintro _ f w st ⟨q,l,ao,hq,L,S,aQ,cx⟩ H cy bv aR;subst hq;have d:=ZY L d;refine wp_block (Zj fun _ bw=>bO H fun cz bx H=>bO H fun ap aq H=>bO H fun B bz H=>Zv (mv S rfl fun f S=>mv S rfl fun f S=>mv S rfl fun f S=>ov S rfl (Ze S rfl rfl (Zza bx)) fun f S=>?_));have g:=Z8 (leT ab L) g;obtain ⟨cA,ar,bA⟩:=ZNg g (Zi aq).2.1;obtain ⟨rfl,bB⟩:=bA;refine ov S rfl (ZM S rfl rfl ZB (Zi aq).1 (ltI (ZG g) (Zi aq).2.2.1)) fun f S=>ov S rfl (Zka S rfl Z3 (S.view ar)) fun f S=>opc S rfl (Z6 S [.int .u64 q,.int .u64 ap] Zkn rfl rfl) (ZMn S.vin (show Rep.rel (Zd .u64) _ [.int .u64 q] q from (ZD aQ)) (show Rep.rel (Zd .u64) _ [.int .u64 ap] ap from (ZD bB)) bz) ?_;rintro _ bC f w E ⟨cB,cC,rfl,bD,bE⟩ S
    have d:=ZY E d;have ar:=Atm E ar;obtain ⟨rfl,cD⟩:=bD;obtain ⟨rfl,cE⟩:=bE;refine mv S rfl fun f S=>ov S rfl (Zya S rfl rfl) fun f S=>ov S rfl (Zya S rfl rfl) fun f S=>mw S rfl fun f S=>mw S rfl fun f S=>Zs (Zf (bw _ _ (Zj fun _ bG=>Zj fun _ bH=>?_)));obtain ⟨bI,bJ,bK⟩:=ZE H;refine Zva (fun f w=>∃ ad au,ad=bI∧Zb.le bC au∧St 90 ⟨x,[a]⟩ m [(0,.slice (some ⟨a,off0,none⟩) (e) h),(1,.slice (some ⟨r,s,none⟩) o p),(5,.int .i64 ((((Zc 18446744073709551616 v)).length:Int))),(6,.int .u64 q),(7,.int .u64 l),(67,.bool ad)] [Loc.box a A (pre0++cs0++post0)] au f w) (fun _ av=>?_) ?_
    ·have H:=bJ;refine Zv (mv S rfl fun f S=>mv S rfl fun f S=>ov S rfl (Ze S rfl rfl Z2b) fun f S=>mv S rfl fun f S=>?_);rcases ZK (decide (B.1<l)) with M | M
     ·have H:=ZJ H M;have S:=S.bool (t:=54) rfl M;refine opn S rfl rfl rfl rfl fun f S=>opn S rfl rfl rfl rfl fun f S=>opn S rfl rfl rfl rfl fun f S=>opn S rfl rfl rfl rfl fun f S=>ZVe S (Z3d S rfl rfl rfl zl) rfl zl fun f S=>ZVe S (Z3d S rfl rfl rfl zl) rfl zl fun f S=>ZVe S (Z3d S rfl rfl rfl zl) rfl zl fun f S=>ZVe S (Z3d S rfl rfl rfl zl) rfl zl fun f S=>ZVe S (Z3d S rfl rfl rfl zl) rfl zl fun f S=>ZVe S (Z3d S rfl rfl rfl zl) rfl zl fun f S=>ZVe S (Z3d S rfl rfl rfl zl) rfl zl fun f S=>opn S rfl rfl rfl rfl fun f S=>ov S rfl (ZBb S (b:=true) rfl rfl) fun f S=>Zs ?_;have S:=S.fr' (σ':=[(0,.slice (some ⟨a,off0,none⟩) (e) h),(1,.slice (some ⟨r,s,none⟩) o p),(5,.int .i64 ((((Zc 18446744073709551616 v)).length:Int))),(6,.int .u64 q),(7,.int .u64 l),(55,undef),(56,undef),(57,undef),(58,undef),(59,undef),(60,undef),(61,undef),(62,undef),(63,undef),(64,undef),(65,undef),(66,undef),(67,.bool true)]) rfl;obtain rfl:=Zn H;refine Zf (av _ _ ⟨_,_,rfl,(leR _),(S.fr' rfl)⟩)
     have H:=ZI H M;have S:=S.bool (t:=54) rfl M;refine opy S rfl rfl rfl rfl (Zz S rfl) fun f S=>opy S rfl rfl rfl rfl (Zz S rfl) fun f S=>opy S rfl rfl rfl rfl (Ze S rfl rfl Zse) fun f S=>opy S rfl rfl rfl rfl (Zz S rfl) fun f S=>?_;rcases ZK (B.1==l) with C | C
     ·have H:=ZJ H C;have S:=S.bool (t:=57) rfl C;have S:=S.bool (t:=58) rfl C;refine bO H fun aw bM H=>bO H fun N ae H=>opy S rfl rfl rfl rfl (Zz S rfl) fun f S=>opy S rfl rfl rfl rfl (Zz S rfl) fun f S=>opy S rfl rfl rfl rfl (Zz S rfl) fun f S=>opy S rfl rfl rfl rfl (Ze S rfl rfl (Zza bM)) fun f S=>?_;have aS:=Zla d (Zi ae).2.1;obtain ⟨cF,aT⟩:∃ c,(List.take (Zd .u64).n (List.drop ((aw).toNat*(Zd .u64).n) cs0))=c:=⟨_,rfl⟩;rw [aT] at aS;obtain ⟨rfl,cG⟩:=aS;refine opy S rfl rfl rfl rfl (ZM S rfl rfl ZB (Zi ae).1 (ltI k (Zi ae).2.2.1)) fun f S=>opy S rfl rfl rfl rfl (Zka S rfl Z3 (ZRi S (j:=0) rfl G (ZYd d k) aT (ltN k (Zi ae).2.2.2) 0 [.int .u64 N] rfl zl)) fun f S=>opy S rfl rfl rfl rfl (Ze S rfl rfl ZDo) fun f S=>opy S rfl rfl rfl rfl (ZBb S (b:=true) rfl rfl) fun f S=>ov S rfl (ZBb S (b:=false) rfl rfl) fun f S=>Zs ?_;have S:=S.fr' (σ':=[(0,.slice (some ⟨a,off0,none⟩) (e) h),(1,.slice (some ⟨r,s,none⟩) o p),(5,.int .i64 ((((Zc 18446744073709551616 v)).length:Int))),(6,.int .u64 q),(7,.int .u64 l),(55,.int .u64 (B.1)),(56,.int .u64 l),(57,.bool true),(58,.bool true),(59,.int .u64 (B.2)),(60,.slice (some ⟨a,off0,none⟩) (e) h),(61,.int .i64 ((((Zc 18446744073709551616 v)).length:Int))),(62,.int .i64 aw),(63,.pointer (some ⟨a,off0+(aw).toNat*1,none⟩)),(64,.int .u64 N),(65,.bool (decide (B.2≤N))),(66,.bool (decide (B.2≤N))),(67,.bool (decide (B.2≤N)))]) rfl
      obtain rfl:=Zn H;refine Zf (av _ _ ⟨_,_,rfl,(leR _),(S.fr' rfl)⟩)
     have H:=ZI H C;have S:=S.bool (t:=57) rfl C;have S:=S.bool (t:=58) rfl C;refine opn S rfl rfl rfl rfl fun f S=>opn S rfl rfl rfl rfl fun f S=>opn S rfl rfl rfl rfl fun f S=>opn S rfl rfl rfl rfl fun f S=>opn S rfl rfl rfl rfl fun f S=>opn S rfl rfl rfl rfl fun f S=>opn S rfl rfl rfl rfl fun f S=>opy S rfl rfl rfl rfl (ZBb S (b:=false) rfl rfl) fun f S=>ov S rfl (ZBb S (b:=false) rfl rfl) fun f S=>Zs ?_;have S:=S.fr' (σ':=[(0,.slice (some ⟨a,off0,none⟩) (e) h),(1,.slice (some ⟨r,s,none⟩) o p),(5,.int .i64 ((((Zc 18446744073709551616 v)).length:Int))),(6,.int .u64 q),(7,.int .u64 l),(55,.int .u64 (B.1)),(56,.int .u64 l),(57,.bool false),(58,.bool false),(59,undef),(60,undef),(61,undef),(62,undef),(63,undef),(64,undef),(65,undef),(66,.bool false),(67,.bool false)]) rfl;obtain rfl:=Zn H;refine Zf (av _ _ ⟨_,_,rfl,(leR _),(S.fr' rfl)⟩)
    rintro f w ⟨ad,au,hq,P,S⟩;subst hq;have H:=bK;have d:=ZY P d;refine Zf (bH _ _ ?_);rcases ZK (ad) with Q | Q
    ·have H:=ZJ H Q;refine ZU S rfl Q (wp_exit (Z0 (Zzj rfl ?_)));obtain rfl:=Zn H;have hq:=aR _ rfl;subst hq;have H:=aP;refine Z0 (Z4a ?_);obtain rfl:=Zn H;refine Zf (aO _ _ ⟨_,_,rfl,(leT (leT (leT (leR _) L) E) P),(S.fr' rfl),aQ⟩)
    have H:=ZI H Q;refine ZO S rfl Q (wp_skip (Zf (bG _ _ (sr (mv S rfl fun f S=>ov S rfl (Ze S rfl rfl Zxd) fun f S=>mw S rfl fun f S=>oe (sr (mw S rfl fun f S=>oe (Zj fun _ bP=>bO H fun cH bQ H=>bO H fun bR ax H=>?_))))))));refine bO H fun bS aU H=>Zv (mv S rfl fun f S=>mv S rfl fun f S=>mv S rfl fun f S=>ov S rfl (Ze S rfl rfl (Zza bQ)) fun f S=>?_);have g:=Z8 (leT E P) g;obtain ⟨cI,bT,bU⟩:=ZNg g (Zi ax).2.1;obtain ⟨rfl,cJ⟩:=bU;refine ov S rfl (ZM S rfl rfl ZB (Zi ax).1 (ltI (ZG g) (Zi ax).2.2.1)) fun f S=>ov S rfl (Zka S rfl Z3 (S.view bT)) fun f S=>ov S rfl (ZUj S [.int .u64 l,.int .u64 bR,.int .u64 0] (ZQm ZWq aU) rfl rfl) fun f S=>mv S rfl fun f S=>ov S rfl (Zya S rfl rfl) fun f S=>ov S rfl (Zya S rfl rfl) fun f S=>mw S rfl fun f S=>mw S rfl fun f S=>Zs (Zf (bP _ _ (sr (mv S rfl fun f S=>ov S rfl (Ze S rfl rfl Z4c) fun f S=>oe ?_))));rcases ZK (decide ((0:Int)<bS.2)) with R | R
    ·have H:=ZJ H R;refine ZU S rfl R (wp_exit (Zzj rfl ?_));obtain rfl:=Zn H;have hq:=aR _ rfl;subst hq;have H:=aP;refine Z0 (Z4a ?_);obtain rfl:=Zn H;refine Zf (aO _ _ ⟨_,_,rfl,(leT (leT (leT (leR _) L) E) P),(S.fr' rfl),(Zra _ _)⟩)
    have H:=ZI H R;refine ZO S rfl R (wp_skip (Zpb ?_));obtain rfl:=Zn H;refine bv _ rfl _ _ ⟨_,_,_,rfl,(leT (leT L E) P),(S.fr' rfl),(Zra _ _),(Znm aU)⟩
   rintro f w ⟨ac,an,hq,aV,S,bV⟩;subst hq;have H:=bs;have d:=ZY aV d;obtain rfl:=Zn H;refine Zf (aH _ _ ⟨_,_,rfl,(leT (leT (leR _) ab) aV),(S.fr' rfl),bV⟩)
  have H:=ZI H J;refine ZO S rfl J (wp_skip ?_);obtain rfl:=Zn H;refine Zf (aH _ _ ⟨_,_,rfl,(leR _),(S.fr' rfl),(by decide)⟩)
 rintro f w ⟨W,I,hq,aW,S,bW⟩;subst hq;have H:=bb;have d:=ZY aW d;refine Zf (a3 _ _ (Zj fun _ bX=>?_));obtain ⟨bY,bZ,b1⟩:=ZE H;refine Zva (fun f w=>∃ af T ay ag,(af,T)=bY∧Zb.le I ag∧St 90 ⟨x,[a]⟩ m [(6,.int .u64 T)] [Loc.box a A (pre0++ay++post0)] ag f w∧Rep.rels (Zd .u64) ag ay af∧e=af.length∧inR .u64 T) (fun _ b2=>?_) ?_
 ·have H:=bZ;refine wp_block ?_;obtain ⟨cK,b3,b4⟩:=ZE H;refine ZFb b3 (fun b5 f w=>∃ ah D az ai,(ah,D)=b5∧Zb.le I ai∧St 90 ⟨x,[a]⟩ m [(0,.slice (some ⟨a,off0,none⟩) (e) h),(1,.slice (some ⟨r,s,none⟩) o p),(6,.int .u64 D)] [Loc.box a A (pre0++az++post0)] ai f w∧Rep.rels (Zd .u64) ai az ah∧e=ah.length∧inR .u64 D) ⟨_,_,cs0,_,rfl,(leR _),(S.fr' rfl),d,k,bW⟩ ?_;rintro _ f w st ⟨ah,D,az,ai,hq,aA,S,aB,b6,aX⟩ H cL b7 b8;subst hq;refine Zj fun _ b9=>Zj fun _ ca=>bO H fun cb cc H=>Zv (mv S rfl fun f S=>mv S rfl fun f S=>mv S rfl fun f S=>?_);have g:=Z8 (leT aW aA) g;refine Zpp S wn rfl zl (Z6 S [.slice (some ⟨a,off0,none⟩) (e) h,.slice (some ⟨r,s,none⟩) o p,.int .u64 D] k_en176 rfl rfl) (i:=0) rfl rfl (take_c S.vin (S.boxAt (j:=0) rfl).1 G (S.boxAt (j:=0) rfl).2 b6 a2 aB g (show Rep.rel (Zd .u64) _ [.int .u64 D] D from (ZD aX)) cc) ?_;rintro _ cM f w aC ⟨⟨cN,rfl,cd⟩,ce,aD,cg,aY,aZ⟩ hSf;have aB:=ZY aC aB;have S:=hSf (Loc.box a A (pre0++aD++post0)) rfl cg ce;obtain rfl:=cd;refine ov S rfl (Zxp S rfl) fun f S=>Zs (Zf (ca _ _ ?_));rcases ZK (!(cb.1)) with U | U
  ·have H:=ZJ H U;refine ZU S rfl U (wp_skip (Zf (b9 _ _ (wp_block (Zv (mv S rfl fun f S=>ov S rfl (Ze S rfl rfl Zxd) fun f S=>mw S rfl fun f S=>Zs (Zpb ?_)))))));obtain rfl:=Zn H;refine b7 _ rfl _ _ ⟨_,_,aD,_,rfl,(leT aA aC),(S.fr' rfl),aZ,aY,(Zra _ _)⟩
  have H:=ZI H U;refine ZO S rfl U (wp_exit (Z0 ?_));obtain rfl:=Zn H;have hq:=b8 _ rfl;subst hq;have H:=b4;refine Z0 (Z4a ?_);obtain rfl:=Zn H;refine Zf (b2 _ _ ⟨_,_,aD,_,rfl,(leT (leT (leR _) aA) aC),(S.fr' rfl),aZ,aY,aX⟩)
 rintro f w ⟨af,T,ay,ag,hq,cO,S,ch,ci,cj⟩;subst hq;have H:=b1;refine Zf (bX _ _ (sr (mv S rfl fun f S=>mw S rfl fun f S=>oe (wp_ret ?_))));obtain rfl:=Zn H;refine ZCm S (ZLa rfl (ZT S rfl)) ⟨⟨[.int .u64 T],rfl,(ZD cj)⟩,(S.boxAt (j:=0) rfl).2,_,(S.boxAt (j:=0) rfl).1,ci,ch⟩
theorem digit_c {d:World} {b:Zb} (hv:VIn b d) {a off0 c e:Nat} {f:TypeId} {pre0 cs0 post0:List Value} {u:(List Int)} (j:d.heap[a]? = some (.cells (pre0++cs0++post0).toArray f (0,0))) (k:off0=pre0.length) (l:b a=none) (m:c=u.length) (n:c≤e∧e≤maxLen) (g:Rep.rels (Zd .u64) b cs0 u) {h:List Value} {v:Nat} (o:Rep.rel Zw b h v) {z:Int×(List Int)} (hm:ZWg u v=some z) :
  RetL Tryz.prog 144 #[Value.slice (some ⟨a,off0,none⟩) c e,Zw.val h] d b [a] (fun y v' w'=>(∃ i,y=(Zd .u64).val i∧(Zd .u64).rel v' i z.1)∧v' a=none∧∃ cs,w'.heap[a]? = some (.cells (pre0++cs++post0).toArray f (0,0))∧c=z.2.length∧Rep.rels (Zd .u64) v' cs z.2) :=
 digit_w hv j k l m n g o (Zyx (Zsn g) hm)
theorem left_w {I:World} {o:Zb} (hv:VIn o I) {c0:List Value} {a:Nat} (h:Rep.rel Zw o c0 a) {c1:List Value} {n:Int} (p1:Rep.rel (Zd .i64) o c1 n) {z:Nat} (H:ZMi a n=some z):Ret Tryz.prog 143 #[Zw.val c0,(Zd .i64).val c1] I o (fun y v'=>∃ r0,y=Zw.val r0∧Zw.rel v' r0 z):=by
 obtain ⟨W,J,L,rfl⟩:=Zma h;obtain ⟨rfl,r4⟩:=p1;refine ZQb (K:=58) (args:=[.slice W J L,.int .i64 n]) hv Tryz.func143 rfl rfl zl fun f S=>?_;unfold ZMi at H;refine sr (mw S rfl fun f S=>oe (Zj fun _ av=>Zj fun _ aw=>?_));obtain ⟨ax,ay,az⟩:=ZE H;refine Zva (fun f w=>∃ X v,X=ax∧Zb.le o v∧St 58 I o [(0,.slice W J L),(1,.int .i64 n),(14,.bool X)] [] v f w) (fun _ ag=>?_) ?_
 ·have H:=ay;refine Zv (mv S rfl fun f S=>ov S rfl (Zea S (ZG h) rfl rfl ZB) fun f S=>ov S rfl (Ze S rfl rfl Zse) fun f S=>mv S rfl fun f S=>?_);rcases ZK (((((Zc 18446744073709551616 a)).length:Int))==(0:Int)) with M | M
  ·have H:=ZJ H M;have S:=S.bool (t:=11) rfl M;refine opn S rfl rfl rfl rfl fun f S=>opn S rfl rfl rfl rfl fun f S=>ov S rfl (ZBb S (b:=true) rfl rfl) fun f S=>Zs ?_;obtain rfl:=Zn H;refine Zf (ag _ _ ⟨_,_,rfl,(leR _),(S.fr' rfl)⟩)
  have H:=ZI H M;have S:=S.bool (t:=11) rfl M;refine opy S rfl rfl rfl rfl (Zz S rfl) fun f S=>opy S rfl rfl rfl rfl (Ze S rfl rfl Zse) fun f S=>ov S rfl (ZBb S (b:=false) rfl rfl) fun f S=>Zs ?_;obtain rfl:=Zn H;refine Zf (ag _ _ ⟨_,_,rfl,(leR _),(S.fr' rfl)⟩)
 rintro f w ⟨X,v,hq,ah,S⟩;subst hq;have H:=az;refine Zf (aw _ _ ?_);rcases ZK (X) with N | N
 ·have H:=ZJ H N;refine ZU S rfl N (sr (mv S rfl fun f S=>mw S rfl fun f S=>oe (wp_ret (ZXa ?_))));obtain rfl:=Zn H;have h:=Z8 ah h;refine ZFa S (ZLa rfl (ZT S rfl)) ⟨[.slice W J L],rfl,h⟩
 have H:=ZI H N;refine ZO S rfl N (wp_skip (Zf (av _ _ (Zj fun _ aA=>bO H fun bo aB H=>bO H fun bp aC H=>bO H fun B aD H=>bO H fun bq Y H=>Zv (mv S rfl fun f S=>?_)))));have h:=Z8 ah h;refine ov S rfl (Zea S (ZG h) rfl rfl ZB) fun f S=>mv S rfl fun f S=>ov S rfl (Ze S rfl rfl (Zvc aB)) fun f S=>ov S rfl (Ze S rfl rfl (ZSa aC)) fun f S=>ov S rfl (Ze S rfl rfl (ZSa aD)) fun f S=>?_;obtain ⟨ai,aj⟩:∃ c:List Value,c=(List.replicate (B).toNat [.int .u64 0]).flatten:=⟨_,rfl⟩;obtain ⟨aE,w,aF,S⟩:=Zci Zre S (l:=B) (c:=B) (ZRa Y).1 (ZRa Y).2.1 (ZRa Y).2.2.1 (ZRa Y).2.2.2 aj;have aG:Rep.rels (Zd .u64) v ai (List.replicate (B).toNat (0:Int)):=by rw [aj];exact Z4d (show Rep.rel (Zd .u64) _ [.int .u64 0] _ from (ZD (by decide))) _
 refine Zyb wn rfl zl (aF rfl rfl) S fun f S=>mw S rfl fun f S=>Zs (Zf (aA _ _ (Zj fun _ aH=>sr (mv S rfl fun f S=>ov S rfl (Zea S (ZG h) rfl rfl ZB) fun f S=>mv S rfl fun f S=>oe ?_))));obtain ⟨aI,aJ,aK⟩:=ZE H;refine Zva (fun f w=>∃ C P D Q ac Z,C=aI∧Zb.le v Z∧St 58 I o [(5,.slice (mkA P) D Q)] [Loc.own P 148 1 D Q ac] Z f w∧Rep.rels (Zd .u64) Z ac C∧D=C.length) (fun _ aL=>?_) ?_
 ·have H:=aJ;refine wp_block ?_;obtain ⟨br,aM,aN⟩:=ZE H;refine ZFb aM (fun aO f w=>∃ p E aa m G e q,(p,E)=aO∧Zb.le v q∧St 58 I o [(1,.int .i64 n),(5,.slice (mkA aa) m G),(23,.slice W J L),(24,.int .i64 ((((Zc 18446744073709551616 a)).length:Int))),(25,.int .i64 E)] [Loc.own aa 148 1 m G e] q f w∧Rep.rels (Zd .u64) q e p∧m=p.length∧inR .i64 E) ⟨_,_,some aE,(B).toNat,(B).toNat,ai,_,rfl,(leR _),(S.fr' rfl),aG,(repN (x:=(0:Int))),(by decide)⟩ ?_;rintro _ f w st ⟨p,E,aa,m,G,e,q,hq,ad,S,ab,s,bs⟩ H bt aP aQ;subst hq;refine sr (ov S rfl (Ze S rfl rfl Z2b) fun f S=>oe (Zj fun _ aR=>?_));rcases ZK (decide (E<(((Zc 18446744073709551616 a)).length:Int))) with R | R
  ·have H:=ZJ H R;refine ZU S rfl R (wp_skip (Zf (aR _ _ (Zj fun _ aS=>wp_block (Zj fun _ aT=>bO H fun bu ae H=>Zv (mv S rfl fun f S=>?_))))));have h:=Z8 ad h;obtain ⟨_,aU,aV,bv,rfl,aW,aX⟩:=Zab h (Zi ae).2.1;obtain ⟨rfl,aY⟩:=aX;refine ov S rfl (ZM S rfl rfl ZB (Zi ae).1 (ltI (ZG h) (Zi ae).2.2.1)) fun f S=>ov S rfl (Zka S rfl Z3 (S.view aW)) fun f S=>mw S rfl fun f S=>mw S rfl fun f S=>Zs (Zf (aT _ _ (Zj fun _ aZ=>bO H fun bw a0 H=>bO H fun d a1 H=>bO H fun g T H=>bO H fun bx a2 H=>bO H fun k a3 H=>bO H fun bz U H=>Zae (fl:=#[true,true,true,true,true,true,true,true,true,true,true,true,true,false]) Z7e (by kernel_rfl) S ?_)));intro ops O F w S;refine rfa O F 0 rfl rfl S (Zz S rfl) fun f S=>rfa O F 1 rfl rfl S (Zz S rfl) fun f S=>rfa O F 2 rfl rfl S (Zz S rfl) fun f S=>rfa O F 3 rfl rfl S (Ze S rfl rfl (Zvc a0)) fun f S=>rfa O F 4 rfl rfl S (Ze S rfl rfl (ZSa a1)) fun f S=>?_;obtain ⟨ak,rfl⟩:=ZDc S (j:=0) rfl (posN s (Zi T).2.2.2);have al:=Zla ab (Zi T).2.1;obtain ⟨bA,am⟩:∃ c,(List.take (Zd .u64).n (List.drop ((d).toNat*(Zd .u64).n) e))=c:=⟨_,rfl⟩;rw [am] at al;obtain ⟨rfl,bB⟩:=al;refine rfa O F 5 rfl rfl S (ZM S rfl rfl ZB (Zi T).1 (ltI s (Zi T).2.2.1)) fun f S=>rfa O F 6 rfl rfl S (Zka S rfl Z3 (Z5c S (j:=0) rfl am (ltN s (Zi T).2.2.2) 0 [.int .u64 g] rfl zl)) fun f S=>rfa O F 7 rfl rfl S (Zz S rfl) fun f S=>rfa O F 8 rfl rfl S (Zz S rfl) fun f S=>rfa O F 9 rfl rfl S (Ze S rfl rfl (ZPe a2)) fun f S=>rfa O F 10 rfl rfl S (Ze S rfl rfl (Zcg a3)) fun f S=>rfa O F 11 rfl rfl S (Ze S rfl rfl Zuk) fun f S=>?_
   have an:=Zla ab (Zi U).2.1;obtain ⟨bC,a4⟩:∃ c,(List.take (Zd .u64).n (List.drop ((d).toNat*(Zd .u64).n) e))=c:=⟨_,rfl⟩;rw [a4] at an;obtain ⟨rfl,bD⟩:=an;refine rfa O F 12 rfl rfl S (ZM S rfl rfl ZB (Zi U).1 (ltI s (Zi U).2.2.1)) fun f S=>go1 O F 13 ?_;obtain ⟨w,a5,S⟩:=ZVb S Z3 (off:=0+(d).toNat*1) (z:=.int .u64 (orI .u64 g k)) (cs:=[.int .u64 (orI .u64 g k)]) (Zxb rfl) rfl (i:=0) rfl (ZTd S (j:=0) rfl (ltN s (Zi U).2.2.2)) (by first | rfl | simp [plain]);have ao:Rep.rels (Zd .u64) q (List.take (0+(d).toNat*1) e++[Value.int IntKind.u64 (orI .u64 g k)]++List.drop (0+(d).toNat*1+1) e) (p.set (d).toNat (orI .u64 g k)):=Z2c ab (Zi U).2.2.2 (show Rep.rel (Zd .u64) q [.int .u64 (orI .u64 g k)] _ from (ZD (Zra _ _))) rfl rfl;have af:m=(p.set (d).toNat (orI .u64 g k)).length:=ZWd s;refine nxs [0,1,2,3,4,5,6,7,8,9,10,11,12] [] O rfl rfl (a5 rfl rfl) (⟨Znc,ZMe O F (Zf (aZ _ _ (bO H fun bE a6 H=>bO H fun bG a7 H=>bO H fun r a8 H=>bO H fun bH a9 H=>bO H fun bI ba H=>bO H fun u ap H=>bO H fun bJ V H=>Zv (mv S rfl fun f S=>mv S rfl fun f S=>?_))))⟩);refine mv S rfl fun f S=>ov S rfl (Ze S rfl rfl (Zvc a6)) fun f S=>ov S rfl (Ze S rfl rfl (ZSa a7)) fun f S=>ov S rfl (Ze S rfl rfl (ZSa a8)) fun f S=>mv S rfl fun f S=>mv S rfl fun f S=>ov S rfl (Ze S rfl rfl (ZPe a9)) fun f S=>ov S rfl (Ze S rfl rfl (Zza ba)) fun f S=>ov S rfl (Ze S rfl rfl (ZNb ap)) fun f S=>?_
   have aq:=Zla ao (Zi V).2.1;obtain ⟨bK,bb⟩:∃ c,(List.take (Zd .u64).n (List.drop ((r).toNat*(Zd .u64).n) (List.take (0+(d).toNat*1) e++[Value.int IntKind.u64 (orI .u64 g k)]++List.drop (0+(d).toNat*1+1) e)))=c:=⟨_,rfl⟩;rw [bb] at aq;obtain ⟨rfl,bM⟩:=aq;refine ov S rfl (ZM S rfl rfl ZB (Zi V).1 (ltI af (Zi V).2.2.1)) fun f S=>?_;obtain ⟨w,bc,S⟩:=ZVb S Z3 (off:=0+(r).toNat*1) (z:=.int .u64 u) (cs:=[.int .u64 u]) (Zxb rfl) rfl (i:=0) rfl (ZTd S (j:=0) rfl (ltN af (Zi V).2.2.2)) (by first | rfl | simp [plain]);have bd:Rep.rels (Zd .u64) q (List.take (0+(r).toNat*1) ((List.take (0+(d).toNat*1) e++[Value.int IntKind.u64 (orI .u64 g k)]++List.drop (0+(d).toNat*1+1) e))++[Value.int IntKind.u64 (u)]++List.drop (0+(r).toNat*1+1) ((List.take (0+(d).toNat*1) e++[Value.int IntKind.u64 (orI .u64 g k)]++List.drop (0+(d).toNat*1+1) e))) (((p.set (d).toNat (orI .u64 g k))).set (r).toNat u):=Z2c ao (Zi V).2.2.2 (show Rep.rel (Zd .u64) q [.int .u64 u] _ from (ZD (Z5f aY ap))) rfl rfl;have be:m=(((p.set (d).toNat (orI .u64 g k))).set (r).toNat u).length:=ZWd af;refine Z3f wn rfl (bc rfl rfl) (Zs ?_);have S:=S.fr' (σ':=[(1,.int .i64 n),(5,.slice (mkA (some ak)) (m) G),(23,.slice (some ⟨aU,aV,none⟩) J L),(24,.int .i64 ((((Zc 18446744073709551616 a)).length:Int))),(25,.int .i64 E)]) rfl
   refine Zpb (Zf (aS _ _ (bO H fun bP ar H=>Zv (ov S rfl (Ze S rfl rfl (ZSa ar)) fun f S=>mv S rfl fun f S=>Zs ?_))));obtain rfl:=Zn H;refine aP _ rfl _ _ ⟨_,_,some ak,m,G,(List.take (0+(r).toNat*1) ((List.take (0+(d).toNat*1) e++[Value.int IntKind.u64 (orI .u64 g k)]++List.drop (0+(d).toNat*1+1) e))++[Value.int IntKind.u64 (u)]++List.drop (0+(r).toNat*1+1) ((List.take (0+(d).toNat*1) e++[Value.int IntKind.u64 (orI .u64 g k)]++List.drop (0+(d).toNat*1+1) e))),_,rfl,ad,(S.fr' rfl),bd,be,(Zua ar).2⟩
  have H:=ZI H R;refine ZO S rfl R (wp_exit (Z0 ?_));obtain rfl:=Zn H;have hq:=aQ _ rfl;subst hq;have H:=aN;refine Z0 (Z4a ?_);obtain rfl:=Zn H;refine Zf (aL _ _ ⟨_,aa,m,G,e,_,rfl,(leT (leR _) ad),(S.fr' rfl),ab,s⟩)
 rintro f w ⟨C,P,D,Q,ac,Z,hq,bQ,S,bf,bg⟩;subst hq;have H:=aK;refine Zf (aH _ _ (Zj fun _ bh=>bO H fun bR bi H=>Zv (mv S rfl fun f S=>?_)));obtain ⟨bS,bT,S,bj⟩:=S.pubSlice (i:=0) (A:=(Zd .u64)) (l:=C) (ℓ':=[]) rfl rfl bg bf rfl;refine opc S rfl (Z6 S [.slice (mkA P) D Q] ZRe rfl rfl) (ZGe S.vin (show Rep.rel (Zu (Zd .u64)) _ [.slice (mkA P) D Q] C from bj) bi) ?_;rintro _ bU f w bV ⟨bW,rfl,au⟩ S;obtain ⟨bk,bm,bn,rfl⟩:=Zma au;refine mw S rfl fun f S=>Zs (Zf (bh _ _ (wp_ret ?_)));obtain rfl:=Zn H;refine ZFa S (ZLa rfl (ZT S rfl)) ⟨[.slice bk bm bn],rfl,au⟩
theorem Zzq {c:World} {b:Zb} (hv:VIn b c) {d:List Value} {a:Nat} (g:Rep.rel Zw b d a) {e:List Value} {n:Int} (h:Rep.rel (Zd .i64) b e n) {z:Nat} (hm:Zde a n=some z) :
  Ret Tryz.prog 143 #[Zw.val d,(Zd .i64).val e] c b (fun y v'=>∃ f,y=Zw.val f∧Zw.rel v' f z) :=
 left_w hv g h (ZLt hm)
theorem right_w {C:World} {g:Zb} (hv:VIn g C) {c0:List Value} {a:Nat} (h:Rep.rel Zw g c0 a) {c1:List Value} {n:Int} (p1:Rep.rel (Zd .i64) g c1 n) {z:Nat} (H:ZLi a n=some z):Ret Tryz.prog 145 #[Zw.val c0,(Zd .i64).val c1] C g (fun y v'=>∃ r0,y=Zw.val r0∧Zw.rel v' r0 z):=by
 obtain ⟨q1,P,Q,rfl⟩:=Zma h;obtain ⟨rfl,r4⟩:=p1;refine ZQb (K:=65) (args:=[.slice q1 P Q,.int .i64 n]) hv Tryz.func145 rfl rfl zl fun f S=>?_;unfold ZLi at H;refine sr (mw S rfl fun f S=>oe (Zj fun _ ax=>Zj fun _ ay=>bO H fun az aA H=>Zv (mv S rfl fun f S=>ov S rfl (Ze S rfl rfl (Zvc aA)) fun f S=>mv S rfl fun f S=>ov S rfl (Zea S (ZG h) rfl rfl ZB) fun f S=>ov S rfl (Ze S rfl rfl Zqc) fun f S=>Zs (Zf (ay _ _ ?_)))));rcases ZK (decide ((((Zc 18446744073709551616 a)).length:Int)≤az)) with D | D
 ·have H:=ZJ H D;refine ZU S rfl D (sr (mw S rfl fun f S=>oe (wp_ret (ZXa ?_))));obtain rfl:=Zn H;refine ZFa S (ZLa rfl (ZT S rfl)) ⟨[.slice none 0 0],rfl,(Zjh _)⟩
 have H:=ZI H D;refine ZO S rfl D (wp_skip (Zf (ax _ _ (Zj fun _ aB=>bO H fun bx aC H=>bO H fun k aD H=>bO H fun bz R H=>Zv (mv S rfl fun f S=>ov S rfl (Zea S (ZG h) rfl rfl ZB) fun f S=>mv S rfl fun f S=>ov S rfl (Ze S rfl rfl (Zvc aC)) fun f S=>ov S rfl (Ze S rfl rfl (Zza aD)) fun f S=>?_)))));obtain ⟨ai,aj⟩:∃ c:List Value,c=(List.replicate (k).toNat [.int .u64 0]).flatten:=⟨_,rfl⟩;obtain ⟨aE,w,aF,S⟩:=Zci Zre S (l:=k) (c:=k) (ZRa R).1 (ZRa R).2.1 (ZRa R).2.2.1 (ZRa R).2.2.2 aj;have aG:Rep.rels (Zd .u64) g ai (List.replicate (k).toNat (0:Int)):=by rw [aj];exact Z4d (show Rep.rel (Zd .u64) _ [.int .u64 0] _ from (ZD (by decide))) _
 refine Zyb wn rfl zl (aF rfl rfl) S fun f S=>mw S rfl fun f S=>Zs (Zf (aB _ _ (Zj fun _ aH=>sr (mv S rfl fun f S=>ov S rfl (Zea S (repN (x:=(0:Int))) rfl rfl ZB) fun f S=>mv S rfl fun f S=>oe ?_))));obtain ⟨aI,aJ,aK⟩:=ZE H;refine Zva (fun f w=>∃ t E u G ac T,t=aI∧Zb.le g T∧St 65 C g [(5,.slice (mkA E) u G)] [Loc.own E 148 1 u G ac] T f w∧Rep.rels (Zd .u64) T ac t∧u=t.length) (fun _ aL=>?_) ?_
 ·have H:=aJ;refine wp_block ?_;obtain ⟨bA,aM,aN⟩:=ZE H;refine ZFb aM (fun aO f w=>∃ p b U m r d o,(p,b)=aO∧Zb.le g o∧St 65 C g [(0,.slice q1 P Q),(1,.int .i64 n),(5,.slice (mkA U) m r),(19,.int .i64 ((((List.replicate (k).toNat (0:Int))).length:Int))),(20,.int .i64 b)] [Loc.own U 148 1 m r d] o f w∧Rep.rels (Zd .u64) o d p∧m=p.length∧inR .i64 b) ⟨_,_,some aE,(k).toNat,(k).toNat,ai,_,rfl,(leR _),(S.fr' rfl),aG,(repN (x:=(0:Int))),(by decide)⟩ ?_;rintro _ f w st ⟨p,b,U,m,r,d,o,hq,ad,S,ae,I,bB⟩ H bC aP aQ;subst hq;refine sr (ov S rfl (Ze S rfl rfl Z2b) fun f S=>oe (Zj fun _ aR=>?_));rcases ZK (decide (b<(((List.replicate (k).toNat (0:Int))).length:Int))) with J | J
  ·have H:=ZJ H J;refine ZU S rfl J (wp_skip (Zf (aR _ _ (Zj fun _ aS=>wp_block (sr (mv S rfl fun f S=>mw S rfl fun f S=>oe (Zj fun _ aT=>bO H fun bD aU H=>bO H fun bE aV H=>bO H fun bG af H=>bO H fun bH aW H=>?_)))))));refine bO H fun e ak H=>bO H fun bI v H=>Zv (mv S rfl fun f S=>mv S rfl fun f S=>mv S rfl fun f S=>mv S rfl fun f S=>mv S rfl fun f S=>ov S rfl (Ze S rfl rfl (Zvc aU)) fun f S=>ov S rfl (Ze S rfl rfl (ZSa aV)) fun f S=>?_);have h:=Z8 ad h;obtain ⟨_,al,am,bJ,rfl,aX,aY⟩:=Zab h (Zi af).2.1;obtain ⟨rfl,aZ⟩:=aY;refine ov S rfl (ZM S rfl rfl ZB (Zi af).1 (ltI (ZG h) (Zi af).2.2.1)) fun f S=>ov S rfl (Zka S rfl Z3 (S.view aX)) fun f S=>mv S rfl fun f S=>ov S rfl (Ze S rfl rfl (ZPe aW)) fun f S=>ov S rfl (Ze S rfl rfl (ZNb ak)) fun f S=>?_;obtain ⟨ag,rfl⟩:=ZDc S (j:=0) rfl (posN I (Zi v).2.2.2);have an:=Zla ae (Zi v).2.1;obtain ⟨bK,a0⟩:∃ c,(List.take (Zd .u64).n (List.drop ((b).toNat*(Zd .u64).n) d))=c:=⟨_,rfl⟩;rw [a0] at an;obtain ⟨rfl,bM⟩:=an;refine ov S rfl (ZM S rfl rfl ZB (Zi v).1 (ltI I (Zi v).2.2.1)) fun f S=>?_;obtain ⟨w,a1,S⟩:=ZVb S Z3 (off:=0+(b).toNat*1) (z:=.int .u64 e) (cs:=[.int .u64 e]) (Zxb rfl) rfl (i:=0) rfl (ZTd S (j:=0) rfl (ltN I (Zi v).2.2.2)) (by first | rfl | simp [plain])
   have V:Rep.rels (Zd .u64) o (List.take (0+(b).toNat*1) d++[Value.int IntKind.u64 (e)]++List.drop (0+(b).toNat*1+1) d) (p.set (b).toNat e):=Z2c ae (Zi v).2.2.2 (show Rep.rel (Zd .u64) o [.int .u64 e] _ from (ZD (Z5f aZ ak))) rfl rfl;have B:m=(p.set (b).toNat e).length:=ZWd I;refine Z3f wn rfl (a1 rfl rfl) (Zs (Zf (aT _ _ (Zj fun _ a2=>bO H fun bP a3 H=>bO H fun bQ a4 H=>bO H fun ao a5 H=>Zv (mv S rfl fun f S=>mv S rfl fun f S=>ov S rfl (Ze S rfl rfl (Zvc a3)) fun f S=>ov S rfl (Ze S rfl rfl (ZSa a4)) fun f S=>ov S rfl (Ze S rfl rfl (ZSa a5)) fun f S=>mv S rfl fun f S=>?_)))));refine ov S rfl (Zea S (ZG h) rfl rfl ZB) fun f S=>ov S rfl (Ze S rfl rfl Z2b) fun f S=>Zs ?_;have S:=S.fr' (σ':=[(0,.slice (some ⟨al,am,none⟩) P Q),(1,.int .i64 n),(5,.slice (mkA (some ag)) (m) r),(6,.int .i64 b),(19,.int .i64 ((((List.replicate (k).toNat (0:Int))).length:Int))),(20,.int .i64 b),(43,.bool (decide (ao<(((Zc 18446744073709551616 a)).length:Int))))]) rfl;refine Zf (a2 _ _ ?_);obtain ⟨a6,a7,a8⟩:=ZE H;refine Zva (fun f w=>∃ W X L Y Z aa,W=a6∧Zb.le o aa∧St 65 C g [(0,.slice (some ⟨al,am,none⟩) P Q),(1,.int .i64 n),(5,.slice (mkA X) L Y),(19,.int .i64 ((((List.replicate (k).toNat (0:Int))).length:Int))),(20,.int .i64 b)] [Loc.own X 148 1 L Y Z] aa f w∧Rep.rels (Zd .u64) aa Z W∧L=W.length) (fun _ ap=>?_) ?_
   ·have H:=a7;rcases ZK (decide (ao<(((Zc 18446744073709551616 a)).length:Int))) with M | M
    ·have H:=ZJ H M;refine ZU S rfl M (bO H fun q ab H=>bO H fun bR a9 H=>bO H fun bS ba H=>bO H fun bT bb H=>bO H fun bU ah H=>bO H fun bV bc H=>bO H fun bW bd H=>bO H fun s be H=>bO H fun bX N H=>Zae (fl:=#[true,true,true,true,true,true,true,true,true,true,true,true,true,true,true,true,true,true,false]) Z7e (by kernel_rfl) S ?_);intro ops O F w S;refine rfa O F 0 rfl rfl S (Zz S rfl) fun f S=>rfa O F 1 rfl rfl S (Zz S rfl) fun f S=>?_;have aq:=Zla V (Zi ab).2.1;obtain ⟨bY,ar⟩:∃ c,(List.take (Zd .u64).n (List.drop ((b).toNat*(Zd .u64).n) (List.take (0+(b).toNat*1) d++[Value.int IntKind.u64 (e)]++List.drop (0+(b).toNat*1+1) d)))=c:=⟨_,rfl⟩;rw [ar] at aq;obtain ⟨rfl,bZ⟩:=aq;refine rfa O F 2 rfl rfl S (ZM S rfl rfl ZB (Zi ab).1 (ltI B (Zi ab).2.2.1)) fun f S=>rfa O F 3 rfl rfl S (Zka S rfl Z3 (Z5c S (j:=0) rfl ar (ltN B (Zi ab).2.2.2) 0 [.int .u64 q] rfl zl)) fun f S=>rfa O F 4 rfl rfl S (Zz S rfl) fun f S=>rfa O F 5 rfl rfl S (Zz S rfl) fun f S=>rfa O F 6 rfl rfl S (Zz S rfl) fun f S=>rfa O F 7 rfl rfl S (Ze S rfl rfl (Zvc a9)) fun f S=>rfa O F 8 rfl rfl S (Ze S rfl rfl (ZSa ba)) fun f S=>rfa O F 9 rfl rfl S (Ze S rfl rfl (ZSa bb)) fun f S=>?_
     obtain ⟨b0,bf,bg⟩:=ZNg h (Zi ah).2.1;obtain ⟨rfl,b1⟩:=bg;refine rfa O F 10 rfl rfl S (ZM S rfl rfl ZB (Zi ah).1 (ltI (ZG h) (Zi ah).2.2.1)) fun f S=>rfa O F 11 rfl rfl S (Zka S rfl Z3 (S.view bf)) fun f S=>rfa O F 12 rfl rfl S (Zz S rfl) fun f S=>rfa O F 13 rfl rfl S (Ze S rfl rfl (ZPe bc)) fun f S=>rfa O F 14 rfl rfl S (Ze S rfl rfl (Zza bd)) fun f S=>rfa O F 15 rfl rfl S (Ze S rfl rfl (Zcg be)) fun f S=>rfa O F 16 rfl rfl S (Ze S rfl rfl Zuk) fun f S=>?_;have au:=Zla V (Zi N).2.1;obtain ⟨b2,bh⟩:∃ c,(List.take (Zd .u64).n (List.drop ((b).toNat*(Zd .u64).n) (List.take (0+(b).toNat*1) d++[Value.int IntKind.u64 (e)]++List.drop (0+(b).toNat*1+1) d)))=c:=⟨_,rfl⟩;rw [bh] at au;obtain ⟨rfl,b3⟩:=au;refine rfa O F 17 rfl rfl S (ZM S rfl rfl ZB (Zi N).1 (ltI B (Zi N).2.2.1)) fun f S=>go1 O F 18 ?_;obtain ⟨w,bi,S⟩:=ZVb S Z3 (off:=0+(b).toNat*1) (z:=.int .u64 (orI .u64 q s)) (cs:=[.int .u64 (orI .u64 q s)]) (Zxb rfl) rfl (i:=0) rfl (ZTd S (j:=0) rfl (ltN B (Zi N).2.2.2)) (by first | rfl | simp [plain]);have bj:Rep.rels (Zd .u64) o (List.take (0+(b).toNat*1) ((List.take (0+(b).toNat*1) d++[Value.int IntKind.u64 (e)]++List.drop (0+(b).toNat*1+1) d))++[Value.int IntKind.u64 (orI .u64 q s)]++List.drop (0+(b).toNat*1+1) ((List.take (0+(b).toNat*1) d++[Value.int IntKind.u64 (e)]++List.drop (0+(b).toNat*1+1) d))) (((p.set (b).toNat e)).set (b).toNat (orI .u64 q s)):=Z2c V (Zi N).2.2.2 (show Rep.rel (Zd .u64) o [.int .u64 (orI .u64 q s)] _ from (ZD (Zra _ _))) rfl rfl
     have bk:m=(((p.set (b).toNat e)).set (b).toNat (orI .u64 q s)).length:=ZWd B;refine nxs [0,1,2,3,4,5,6,7,8,9,10,11,12,13,14,15,16,17] [] O rfl rfl (bi rfl rfl) (⟨Znc,ZMe O F ?_⟩);obtain rfl:=Zn H;refine Zf (ap _ _ ⟨_,some ag,m,r,(List.take (0+(b).toNat*1) ((List.take (0+(b).toNat*1) d++[Value.int IntKind.u64 (e)]++List.drop (0+(b).toNat*1+1) d))++[Value.int IntKind.u64 (orI .u64 q s)]++List.drop (0+(b).toNat*1+1) ((List.take (0+(b).toNat*1) d++[Value.int IntKind.u64 (e)]++List.drop (0+(b).toNat*1+1) d))),_,rfl,(leR _),(S.fr' rfl),bj,bk⟩)
    have H:=ZI H M;refine ZO S rfl M (wp_skip ?_);obtain rfl:=Zn H;refine Zf (ap _ _ ⟨_,some ag,m,r,(List.take (0+(b).toNat*1) d++[Value.int IntKind.u64 (e)]++List.drop (0+(b).toNat*1+1) d),_,rfl,(leR _),(S.fr' rfl),V,B⟩)
   rintro f w ⟨W,X,L,Y,Z,aa,hq,bm,S,bn,bo⟩;subst hq;have H:=a8;refine Zpb (Zf (aS _ _ (bO H fun b4 av H=>Zv (ov S rfl (Ze S rfl rfl (ZSa av)) fun f S=>mv S rfl fun f S=>Zs ?_))));obtain rfl:=Zn H;refine aP _ rfl _ _ ⟨_,_,X,L,Y,Z,_,rfl,(leT ad bm),(S.fr' rfl),bn,bo,(Zua av).2⟩
  have H:=ZI H J;refine ZO S rfl J (wp_exit (Z0 ?_));obtain rfl:=Zn H;have hq:=aQ _ rfl;subst hq;have H:=aN;refine Z0 (Z4a ?_);obtain rfl:=Zn H;refine Zf (aL _ _ ⟨_,U,m,r,d,_,rfl,(leT (leR _) ad),(S.fr' rfl),ae,I⟩)
 rintro f w ⟨t,E,u,G,ac,T,hq,b5,S,bp,bq⟩;subst hq;have H:=aK;refine Zf (aH _ _ (Zj fun _ br=>bO H fun b6 bs H=>Zv (mv S rfl fun f S=>?_)));obtain ⟨b7,b8,S,bt⟩:=S.pubSlice (i:=0) (A:=(Zd .u64)) (l:=t) (ℓ':=[]) rfl rfl bq bp rfl;refine opc S rfl (Z6 S [.slice (mkA E) u G] ZRe rfl rfl) (ZGe S.vin (show Rep.rel (Zu (Zd .u64)) _ [.slice (mkA E) u G] t from bt) bs) ?_;rintro _ b9 f w ca ⟨cb,rfl,aw⟩ S;obtain ⟨bu,bv,bw,rfl⟩:=Zma aw;refine mw S rfl fun f S=>Zs (Zf (br _ _ (wp_ret ?_)));obtain rfl:=Zn H;refine ZFa S (ZLa rfl (ZT S rfl)) ⟨[.slice bu bv bw],rfl,aw⟩
theorem right_c {c:World} {b:Zb} (hv:VIn b c) {d:List Value} {a:Nat} (h:Rep.rel Zw b d a) {e:List Value} {n:Int} (f:Rep.rel (Zd .i64) b e n) {z:Nat} (hm:Z2g a n=some z) :
  Ret Tryz.prog 145 #[Zw.val d,(Zd .i64).val e] c b (fun y v'=>∃ g,y=Zw.val g∧Zw.rel v' g z) :=
 right_w hv h f (Zvs f.2 hm)
theorem word_w {b:World} {a:Zb} (hv:VIn a b) {c:List Value} {n:Int} (h:Rep.rel (Zd .u64) a c n) {z:Nat} (H:Z0h n=some z):Ret Tryz.prog 99 #[(Zd .u64).val c] b a (fun y v'=>∃ d,y=Zw.val d∧Zw.rel v' d z):=by
 obtain ⟨rfl,j⟩:=h;refine ZQb (K:=6) (args:=[.int .u64 n]) hv Tryz.func99 rfl rfl zl fun f S=>?_;unfold Z0h at H;refine sr (mw S rfl fun f S=>oe (Zj fun _ k=>bO H fun u m H=>Zv (mv S rfl fun f S=>?_)));obtain ⟨e,w,o,S⟩:=ZWf S (n:=1) (cs:=[.int .u64 n]) (vals:=[(0,.int .u64 n)]) (sz:=1) rfl (by decide) (ZDm Zre (x:=.int .u64 n) (cs:=[.int .u64 n]) rfl rfl (by decide));have p:Rep.rels (Zd .u64) a [.int .u64 n] [n]:=(Zwm (ZD j) Zxe);refine Zyb wn rfl zl (o rfl) S fun f S=>?_;obtain ⟨v,B,S,q⟩:=S.pubSlice (i:=0) (A:=(Zd .u64)) (l:=[n]) (ℓ':=[]) rfl rfl rfl p rfl;refine opc S rfl (Z6 S [.slice (mkA (some e)) (1) 1] ZRe rfl rfl) (ZGe S.vin (show Rep.rel (Zu (Zd .u64)) _ [.slice (mkA (some e)) (1) 1] ([n]) from q) m) ?_;rintro _ C f w D ⟨E,rfl,g⟩ S;obtain ⟨r,s,t,rfl⟩:=Zma g;refine mw S rfl fun f S=>Zs (Zf (k _ _ (wp_ret ?_)));obtain rfl:=Zn H;refine ZFa S (ZLa rfl (ZT S rfl)) ⟨[.slice r s t],rfl,g⟩
theorem word_c {b:World} {a:Zb} (hv:VIn a b) {c:List Value} {n:Int} (e:Rep.rel (Zd .u64) a c n) {z:Nat} (hm:Zxc n=some z) :
  Ret Tryz.prog 99 #[(Zd .u64).val c] b a (fun y v'=>∃ d,y=Zw.val d∧Zw.rel v' d z) :=
 word_w hv e (ZLr hm)
theorem Zdt {w0:World} {F:Zb} (hv:VIn F w0) {c0:List Value} {a:Nat} (m:Rep.rel Zw F c0 a) {c1:List Value} {b:Nat} (g:Rep.rel Zw F c1 b) {z:Nat×Nat} (H:ZFh a b=some z):Ret Tryz.prog 102 #[Zw.val c0,Zw.val c1] w0 F (fun y v'=>∃ r0 r1,y = .tuple #[Zw.val r0,Zw.val r1]∧Zw.rel v' r0 z.1∧Zw.rel v' r1 z.2):=by
 obtain ⟨R,T,U,rfl⟩:=Zma m;obtain ⟨q4,n5,k6,rfl⟩:=Zma g;refine ZQb (K:=84) (args:=[.slice R T U,.slice q4 n5 k6]) hv Tryz.func102 rfl rfl zl fun f S=>?_;unfold ZFh at H;refine sr (mw S rfl fun f S=>mw S rfl fun f S=>oe (Zj fun _ bb=>wp_block (Zj fun _ bc=>bO H fun bd be H=>Zv (mv S rfl fun f S=>mv S rfl fun f S=>opc S rfl (Z6 S [.slice R T U,.slice q4 n5 k6] ZJr rfl rfl) (cmp_c S.vin m g be) ?_))));rintro _ cV f w aj ⟨cW,rfl,bf⟩ S;obtain ⟨rfl,cX⟩:=bf;refine ov S rfl (Ze S rfl rfl Z2b) fun f S=>mw S rfl fun f S=>Zs (Zf (bc _ _ ?_));rcases ZK (decide (bd<(0:Int))) with V | V
 ·have H:=ZJ H V;refine ZU S rfl V (sr (mv S rfl fun f S=>mw S rfl fun f S=>mw S rfl fun f S=>oe (wp_ret (Zsh (ZXa ?_)))));obtain rfl:=Zn H;have m:=Z8 aj m;refine ZFa S (Zcf rfl (ZT S rfl) (ZT S rfl)) ⟨[.slice none 0 0],[.slice R T U],rfl,(Zjh _),m⟩
 have H:=ZI H V;refine ZO S rfl V (sr (mv S rfl fun f S=>?_));have g:=Z8 aj g;refine ov S rfl (Zea S (ZG g) rfl rfl ZB) fun f S=>ov S rfl (Ze S rfl rfl Zse) fun f S=>mw S rfl fun f S=>oe ?_;rcases ZK (((((Zc 18446744073709551616 b)).length:Int))==(1:Int)) with W | W
 ·have H:=ZJ H W;refine ZU S rfl W (Zj fun _ bg=>bO H fun au av H=>bO H fun aw bh H=>Zv (mv S rfl fun f S=>mv S rfl fun f S=>?_));obtain ⟨_,cY,cZ,c2,rfl,ax,bi⟩:=Zab g (Zi av).2.1;obtain ⟨rfl,bj⟩:=bi;refine ov S rfl (ZM S rfl rfl ZB (Zi av).1 (ltI (ZG g) (Zi av).2.2.1)) fun f S=>ov S rfl (Zka S rfl Z3 (S.view ax)) fun f S=>?_;have m:=Z8 aj m;refine opc S rfl (Z6 S [.slice R T U,.int .u64 au] Zop rfl rfl) (ZXq S.vin m (show Rep.rel (Zd .u64) _ [.int .u64 au] au from (ZD bj)) bh) ?_;rintro _ c3 f w bk ⟨c4,c5,rfl,ak,bm⟩ S;have ax:=Atm bk ax;obtain ⟨aS,aT,aU,rfl⟩:=Zma ak;obtain ⟨rfl,bn⟩:=bm;refine mv S rfl fun f S=>ov S rfl (Zya S rfl rfl) fun f S=>ov S rfl (Zya S rfl rfl) fun f S=>mw S rfl fun f S=>mw S rfl fun f S=>Zs (Zf (bg _ _ (Zj fun _ bo=>bO H fun c6 bp H=>Zv (mv S rfl fun f S=>mv S rfl fun f S=>opc S rfl (Z6 S [.int .u64 (aw.2)] k_en99 rfl rfl) (word_c S.vin (show Rep.rel (Zd .u64) _ [.int .u64 (aw.2)] aw.2 from (ZD bn)) bp) ?_))));rintro _ c7 f w bq ⟨c8,rfl,aV⟩ S;obtain ⟨aW,aX,aY,rfl⟩:=Zma aV;refine mw S rfl fun f S=>mw S rfl fun f S=>Zs ?_;have S:=S.fr' (σ':=[(4,.slice aS aT aU),(5,.slice aW aX aY)]) rfl;refine Zf (bo _ _ (wp_ret (Zsh (ZXa ?_))))
  obtain rfl:=Zn H;have ak:=Z8 bq ak;refine ZFa S (Zcf rfl (ZT S rfl) (ZT S rfl)) ⟨[.slice aS aT aU],[.slice aW aX aY],rfl,ak,aV⟩
 have H:=ZI H W;refine ZO S rfl W (wp_skip (Zpb (Zf (bb _ _ (Zj fun _ br=>bO H fun c9 bs H=>bO H fun ay az H=>bO H fun k bt H=>Zv (mv S rfl fun f S=>mv S rfl fun f S=>ov S rfl (Zea S (ZG g) rfl rfl ZB) fun f S=>ov S rfl (Ze S rfl rfl (Zza bs)) fun f S=>?_))))));obtain ⟨_,bu,bv,da,rfl,aA,bw⟩:=Zab g (Zi az).2.1;obtain ⟨rfl,bx⟩:=bw;refine ov S rfl (ZM S rfl rfl ZB (Zi az).1 (ltI (ZG g) (Zi az).2.2.1)) fun f S=>ov S rfl (Zka S rfl Z3 (S.view aA)) fun f S=>opc S rfl (Z6 S [.int .u64 ay] ZIr rfl rfl) (Zmr S.vin (show Rep.rel (Zd .u64) _ [.int .u64 ay] ay from (ZD bx)) bt) ?_;rintro _ db f w aB ⟨dc,rfl,bz⟩ S;have aA:=Atm aB aA;obtain ⟨rfl,aC⟩:=bz;refine mw S rfl fun f S=>Zs (Zf (br _ _ (Zj fun _ bA=>bO H fun bB bC H=>Zv (mv S rfl fun f S=>mv S rfl fun f S=>?_))));have g:=Z8 aB g;refine opc S rfl (Z6 S [.slice (some ⟨bu,bv,none⟩) n5 k6,.int .i64 k] ZQo rfl rfl) (Zzq S.vin g (show Rep.rel (Zd .i64) _ [.int .i64 k] k from (ZD aC)) bC) ?_;rintro _ bD f w bE ⟨dd,rfl,v⟩ S;obtain ⟨aD,aE,aF,rfl⟩:=Zma v;refine mw S rfl fun f S=>Zs (Zf (bA _ _ (Zj fun _ bG=>bO H fun X bH H=>bO H fun de bI H=>bO H fun df bJ H=>Zv ?_)))
 obtain ⟨dg,w,bK,S⟩:=ZWf (P:=Tryz.prog) (t:=39) (e:=148) S (n:=0) (cs:=[]) (vals:=[]) (sz:=1) rfl (by decide) (fun _=>by kernel_rfl);have aG:Rep.rels (Zd .u64) bD [] []:=Zxe;refine Zyb wn rfl zl (bK rfl) S fun f S=>mv S rfl fun f S=>mv S rfl fun f S=>?_;have m:=Z8 (leT (leT aj aB) bE) m;refine opc S rfl (Z6 S [.slice R T U,.int .i64 k] ZQo rfl rfl) (Zzq S.vin m (show Rep.rel (Zd .i64) _ [.int .i64 k] k from (ZD aC)) bH) ?_;rintro _ al f w aZ ⟨dh,rfl,aH⟩ S;have aG:=ZY aZ aG;obtain ⟨di,dj,dk,rfl⟩:=Zma aH;have aI:=S;obtain ⟨dl,dm,a0,w,bM,S,bP⟩:=ZXf (ty:=39) (A:=(Zd .u64)) Zre S (i:=0) (n':=(([]:(List Int))++((Zc 18446744073709551616 X))).length) rfl aH (appN rfl (ZG aH)) (ZCe bI) (by decide);have bQ:=ZCc aG bP;refine Zyb wn rfl zl (Zwe aI rfl rfl bM) S fun f S=>?_;obtain ⟨dn,w,bR,S⟩:=ZWf S (n:=1) (cs:=[.int .u64 0]) (vals:=[(0,.int .u64 0)]) (sz:=1) rfl (by decide) (ZDm Zre (x:=.int .u64 0) (cs:=[.int .u64 0]) rfl rfl (by decide));have aJ:Rep.rels (Zd .u64) al [.int .u64 0] [(0:Int)]:=(Zwm (ZD (by decide)) Zxe);refine Zyb wn rfl zl (bR rfl) S fun f S=>?_;have aI:=S;obtain ⟨aK,aL,w,bS,S⟩:=ZIj (ty:=39) Zre S (i:=1) (n':=((([]:(List Int))++((Zc 18446744073709551616 X)))++[(0:Int)]).length) rfl (ZYd aJ rfl) (ZSk S (j:=0) rfl) (ZBl aJ) (appN rfl rfl) (ZCe bJ) (by decide)
 have bT:=ZCc bQ aJ;refine Zyb wn rfl zl (Zwe aI rfl rfl bS) S fun f S=>mw S rfl fun f S=>Zs ?_;have S:=S.fr' (σ':=[(8,.int .i64 k),(9,.slice aD aE aF),(10,.slice (mkA aK) (((([]:(List Int))++((Zc 18446744073709551616 X)))++[(0:Int)]).length) aL)]) rfl;refine Zf (bG _ _ (sr (mv S rfl fun f S=>?_)));have v:=Z8 aZ v;refine ov S rfl (Zea S (ZG v) rfl rfl ZB) fun f S=>mw S rfl fun f S=>oe (Zj fun _ bU=>bO H fun q bV H=>bO H fun dp am H=>Zv (mv S rfl fun f S=>ov S rfl (Zea S rfl rfl rfl ZB) fun f S=>mv S rfl fun f S=>ov S rfl (Ze S rfl rfl (Zza bV)) fun f S=>?_));obtain ⟨aM,a1⟩:∃ c:List Value,c=(List.replicate (q).toNat [.int .u64 0]).flatten:=⟨_,rfl⟩;obtain ⟨a2,w,bW,S⟩:=Zci Zre S (l:=q) (c:=q) (ZRa am).1 (ZRa am).2.1 (ZRa am).2.2.1 (ZRa am).2.2.2 a1;have bX:Rep.rels (Zd .u64) al aM (List.replicate (q).toNat (0:Int)):=by rw [a1];exact Z4d (show Rep.rel (Zd .u64) _ [.int .u64 0] _ from (ZD (by decide))) _
 refine Zyb wn rfl zl (bW rfl rfl) S fun f S=>mw S rfl fun f S=>Zs (Zf (bU _ _ (Zj fun _ bY=>Zj fun _ bZ=>bO H fun dq a3 H=>Zv (mv S rfl fun f S=>ov S rfl (Zea S (repN (x:=(0:Int))) rfl rfl ZB) fun f S=>ov S rfl (Ze S rfl rfl (Zza a3)) fun f S=>mw S rfl fun f S=>Zs (Zf (bZ _ _ ?_))))));obtain ⟨b0,b1,b2⟩:=ZE H;refine Zva (fun f w=>∃ G I J B L an Y M Z aN aa,(G,I)=b0∧Zb.le al aa∧St 84 w0 F [(8,.int .i64 k),(10,.slice (mkA J) B L),(12,.slice (mkA Y) M Z)] [Loc.own J 148 1 B L an,Loc.own Y 148 1 M Z aN] aa f w∧Rep.rels (Zd .u64) aa an G∧B=G.length∧Rep.rels (Zd .u64) aa aN I∧M=I.length) (fun _ b3=>?_) ?_
 ·have H:=b1;refine wp_block ?_;obtain ⟨dr,b4,b5⟩:=ZE H;have S:=S.reorder (ℓ':=[Loc.own aK 148 1 (((([]:(List Int))++((Zc 18446744073709551616 X)))++[(0:Int)]).length) aL ((([]++a0)++[.int .u64 0])),Loc.own (some a2) 148 1 ((q).toNat) (q).toNat aM]) [2,0] rfl (by decide);refine ZFb b4 (fun b6 f w=>∃ ao N d ap C D s aq E ab o ac,(ao,N,d)=b6∧Zb.le al ac∧St 84 w0 F [(8,.int .i64 k),(9,.slice aD aE aF),(10,.slice (mkA ap) C D),(11,.int .i64 ((((Zc 18446744073709551616 bB)).length:Int))),(12,.slice (mkA aq) E ab),(13,.int .i64 d)] [Loc.own ap 148 1 C D s,Loc.own aq 148 1 E ab o] ac f w∧Rep.rels (Zd .u64) ac s ao∧C=ao.length∧Rep.rels (Zd .u64) ac o N∧E=N.length∧inR .i64 d) ⟨_,_,_,aK,((([]:(List Int))++((Zc 18446744073709551616 X)))++[(0:Int)]).length,aL,(([]++a0)++[.int .u64 0]),some a2,(q).toNat,(q).toNat,aM,_,rfl,(leR _),(S.fr' rfl),bT,rfl,bX,(repN (x:=(0:Int))),(Zua a3).2⟩ ?_;rintro _ f w st ⟨ao,N,d,ap,C,D,s,aq,E,ab,o,ac,hq,aO,S,ad,ae,af,ag,ds⟩ H dt b7 b8
  subst hq;refine Zj fun _ b9=>sr (mv S rfl fun f S=>ov S rfl (Ze S rfl rfl Zqc) fun f S=>oe ?_);rcases ZK (decide ((0:Int)≤d)) with ah | ah
  ·have H:=ZJ H ah;refine ZU S rfl ah (wp_skip (Zf (b9 _ _ (Zj fun _ ca=>wp_block (bO H fun du cb H=>bO H fun O cc H=>bO H fun dv h H=>bO H fun u cd H=>bO H fun dw Q H=>Zv (mv S rfl fun f S=>mv S rfl fun f S=>mv S rfl fun f S=>?_))))));refine mv S rfl fun f S=>mv S rfl fun f S=>mv S rfl fun f S=>ov S rfl (Ze S rfl rfl (ZSa cb)) fun f S=>ov S rfl (Ze S rfl rfl (ZSa cc)) fun f S=>?_;obtain ⟨aP,rfl⟩:=ZDc S (j:=0) rfl (by have:=Zlc h;have:=ae;omega);refine ov S rfl (Z9t S (j:=0) rfl ZB (Zlc h).1 (Zlc h).2.1 (by have:=(Zlc h).2.2.1;have:=ae;omega) rfl rfl rfl) fun f S=>mv S rfl fun f S=>?_;obtain ⟨pre399,post400,ce,cg,ch,ci,cj,ck⟩:=Zxs S (i:=0) (lo:=(d).toNat) (hi:=(O).toNat) rfl (Zlc h).2.2.2.2.2.1 (by have:=(Zlc h).2.2.2.2.2.2;have:=ae;omega);have v:=Z8 aO v;refine Zpp S wn rfl zl (Z6 S [.slice (some ⟨aP,(d).toNat*1,none⟩) ((O-d).toNat) (D-(d).toNat),.slice aD aE aF] k_en144 rfl rfl) (i:=0) rfl rfl (digit_c S.vin ce ch cg (Zlc h).2.2.2.2.1 ⟨Zvv (Zlc h).1 (Zlc h).2.1 ci,cj⟩ (ZJv ad rfl (Zlc h).2.2.2.1) v cd) ?_;rintro _ a4 f w aQ ⟨⟨dx,rfl,cl⟩,cm,aR,cn,co,a5⟩ hSf;have ad:=ZY aQ ad
   have af:=ZY aQ af;have a6:((O).toNat-(d).toNat)=u.2.length:=by have:=co;have:=Zlc h;omega
   have S:=hSf (Loc.own (some aP) 148 1 C D (List.take ((d).toNat*1) s++aR++List.drop ((O).toNat*1) s)) rfl (ck _ aR (ZYd a5 a6) cn) cm;have cp:=ZRu (p:=(d).toNat) (r:=(O).toNat) (sz:=1) ad a5 rfl;have cq:=Zss ae (Zlc h).2.2.2.2.2.1 (Zlc h).2.2.2.2.2.2 a6;obtain ⟨rfl,cr⟩:=cl;obtain ⟨ct,rfl⟩:=ZDc S (j:=1) rfl (posN ag (Zi Q).2.2.2);have a7:=Zla af (Zi Q).2.1;obtain ⟨dy,cu⟩:∃ c,(List.take (Zd .u64).n (List.drop ((d).toNat*(Zd .u64).n) o))=c:=⟨_,rfl⟩;rw [cu] at a7;obtain ⟨rfl,dz⟩:=a7;refine ov S rfl (ZM S rfl rfl ZB (Zi Q).1 (ltI ag (Zi Q).2.2.1)) fun f S=>?_;obtain ⟨w,cv,S⟩:=ZVb S Z3 (off:=0+(d).toNat*1) (z:=.int .u64 (u.1)) (cs:=[.int .u64 (u.1)]) (Zxb rfl) rfl (i:=1) rfl (ZTd S (j:=1) rfl (ltN ag (Zi Q).2.2.2)) (by first | rfl | simp [plain]);have cw:Rep.rels (Zd .u64) a4 (List.take (0+(d).toNat*1) o++[Value.int IntKind.u64 (u.1)]++List.drop (0+(d).toNat*1+1) o) (N.set (d).toNat u.1):=Z2c af (Zi Q).2.2.2 (show Rep.rel (Zd .u64) a4 [.int .u64 (u.1)] _ from (ZD cr)) rfl rfl;have cx:E=(N.set (d).toNat u.1).length:=ZWd ag;refine Z3f wn rfl (cv rfl rfl) (Zs (Zpb (Zf (ca _ _ (bO H fun dA a8 H=>Zv (mv S rfl fun f S=>ov S rfl (Ze S rfl rfl (Zza a8)) fun f S=>mw S rfl fun f S=>Zs ?_))))))
   obtain rfl:=Zn H;refine b7 _ rfl _ _ ⟨_,_,_,some aP,C,D,(List.take ((d).toNat*1) s++aR++List.drop ((O).toNat*1) s),some ct,E,ab,(List.take (0+(d).toNat*1) o++[Value.int IntKind.u64 (u.1)]++List.drop (0+(d).toNat*1+1) o),_,rfl,(leT aO aQ),(S.fr' rfl),cp,cq,cw,cx,(Zua a8).2⟩
  have H:=ZI H ah;refine ZO S rfl ah (wp_exit (Z0 ?_));obtain rfl:=Zn H;have hq:=b8 _ rfl;subst hq;have H:=b5;refine Z0 (Z4a ?_);obtain rfl:=Zn H;refine Zf (b3 _ _ ⟨_,_,ap,C,D,s,aq,E,ab,o,_,rfl,(leT (leR _) aO),(S.fr' rfl),ad,ae,af,ag⟩)
 rintro f w ⟨G,I,J,B,L,an,Y,M,Z,aN,aa,hq,dB,S,ai,cy,cz,cA⟩;subst hq;have H:=b2;refine Zf (bY _ _ (Zj fun _ cB=>bO H fun dC cC H=>bO H fun dD cD H=>bO H fun dE cE H=>Zv (mv S rfl fun f S=>?_)));obtain ⟨dF,cF,S,cG⟩:=S.pubSlice (i:=1) (A:=(Zd .u64)) (l:=I) (ℓ':=[Loc.own J 148 1 B L an]) rfl rfl cA cz rfl;have ai:=ZY cF ai;refine opc S rfl (Z6 S [.slice (mkA Y) M Z] ZRe rfl rfl) (ZGe S.vin (show Rep.rel (Zu (Zd .u64)) _ [.slice (mkA Y) M Z] I from cG) cC) ?_;rintro _ dG f w cH ⟨dH,rfl,ar⟩ S;have ai:=ZY cH ai;obtain ⟨cI,cJ,cK,rfl⟩:=Zma ar;refine mv S rfl fun f S=>?_;obtain ⟨dI,cL,S,cM⟩:=S.pubSlice (i:=0) (A:=(Zd .u64)) (l:=G) (ℓ':=[]) rfl rfl cy ai rfl;refine opc S rfl (Z6 S [.slice (mkA J) B L] ZRe rfl rfl) (ZGe S.vin (show Rep.rel (Zu (Zd .u64)) _ [.slice (mkA J) B L] G from cM) cD) ?_;rintro _ dJ f w cN ⟨dK,rfl,a9⟩ S;obtain ⟨cO,cP,cQ,rfl⟩:=Zma a9;refine mv S rfl fun f S=>opc S rfl (Z6 S [.slice cO cP cQ,.int .i64 k] k_en145 rfl rfl) (right_c S.vin a9 (show Rep.rel (Zd .i64) _ [.int .i64 k] k from (ZD aC)) cE) ?_;rintro _ dL f w cR ⟨dM,rfl,ba⟩ S;obtain ⟨cS,cT,cU,rfl⟩:=Zma ba
 refine mw S rfl fun f S=>mw S rfl fun f S=>Zs (Zf (cB _ _ (wp_ret ?_)));obtain rfl:=Zn H;have ar:=Z8 (leT (leT cL cN) cR) ar;refine ZFa S (Zcf rfl (ZT S rfl) (ZT S rfl)) ⟨[.slice cI cJ cK],[.slice cS cT cU],rfl,ar,ba⟩
theorem Zrs {d:World} {c:Zb} (hv:VIn c d) {e:List Value} {a:Nat} (i:Rep.rel Zw c e a) {f:List Value} {b:Nat} (j:Rep.rel Zw c f b) {z:Nat×Nat} (hm:ZUd a b=some z) :
  Ret Tryz.prog 102 #[Zw.val e,Zw.val f] d c (fun y v'=>∃ g h,y=Value.tuple #[Zw.val g,Zw.val h]∧Zw.rel v' g z.1∧Zw.rel v' h z.2) :=
 Zdt hv i j (Z0t hm)
end Go.Eng
set_option maxRecDepth 100000
set_option maxHeartbeats 4000000
namespace Go.Eng
open Go.Proofs Go.RowKit
noncomputable def ZTg:FuncId×Con:=(102,⟨[.leaf 0,.leaf 0],[.leaf 0,.leaf 0],fun p=>ZUd p.1 p.2⟩)
theorem Zqr:Zl Tryz.prog ZTg.1 ZTg.2:=fun w v vals x z hv ha hz=>by
 obtain ⟨c0,w0,e0,p0,c1,e1,p1⟩:=ha;subst e0;subst e1
 exact .inl ⟨fun _ _=>by kernel_rfl,Ret.mono (Zrs hv p0 p1 hz) fun y v' _ ⟨r0,r1,e,h0,h1⟩=>⟨_,e,r0,_,rfl,h0,r1,rfl,h1⟩⟩
end Go.Eng
set_option maxRecDepth 100000
set_option maxHeartbeats 4000000
namespace Go.Eng
open Go.Proofs Go.RowKit
noncomputable def Z6k:FuncId×Con:=(141,⟨[.leaf 0,.leaf 0],[.int .u64],fun p=>Zyg p.1 p.2⟩)
theorem small_i (a:Nat) (b:Nat):Zm ⟨Tryz.prog,[(39,0)],[],[],[],[],[],[]⟩ [] Tryz.f141 (.two .no (.two .no (.two (.two .no (.cut ⟨⟨[],[],[]⟩,[(.norm,⟨[1],[],[.s 5 (.dat (.int .u64))]⟩)]⟩ .no)) (.two .no (.two (.cut ⟨⟨[],[],[]⟩,[(.norm,⟨[],[],[.s 5 (.dat (.int .u64))]⟩)]⟩ (.two (.cut ⟨⟨[],[],[.s 5 (.dat (.int .u64)),.s 6 (.dat (.int .u64))]⟩,[(.exit 0,⟨[],[],[.s 5 (.dat (.int .u64))]⟩)]⟩ .no) .no)) .no))))) [.leaf 0,.leaf 0] [.int .u64] (a,b)=ZXk a b:=by kernel_rfl
theorem small_k:Zl Tryz.prog Z6k.1 Z6k.2:=Zp (C:=⟨Tryz.prog,[(39,0)],[],[],[],[],[],[]⟩) trivial trivial trivial trivial (inl:=[]) trivial (ann:=.two .no (.two .no (.two (.two .no (.cut ⟨⟨[],[],[]⟩,[(.norm,⟨[1],[],[.s 5 (.dat (.int .u64))]⟩)]⟩ .no)) (.two .no (.two (.cut ⟨⟨[],[],[]⟩,[(.norm,⟨[],[],[.s 5 (.dat (.int .u64))]⟩)]⟩ (.two (.cut ⟨⟨[],[],[.s 5 (.dat (.int .u64)),.s 6 (.dat (.int .u64))]⟩,[(.exit 0,⟨[],[],[.s 5 (.dat (.int .u64))]⟩)]⟩ .no) .no)) .no))))) Tryz.func141 (fun _ _=>by kernel_rfl) rfl fun v vals x z ha hz=>(small_i x.1 x.2).trans (ZUt hz)
end Go.Eng
set_option maxRecDepth 100000
set_option maxHeartbeats 4000000
namespace Go.Eng
open Go.Proofs Go.RowKit
noncomputable def ZGj:FuncId×Con:=(100,⟨[.leaf 0,.leaf 0],[.leaf 0],fun p=>gcdF p.1 p.2⟩)
theorem gcd_i (a:Nat) (b:Nat):Zm ⟨Tryz.prog,[(39,0)],[Z6e,ZTg,Z6k],[],[],[],[],[]⟩ [] Tryz.f100 (.two .no (.two (.cut ⟨⟨[],[],[]⟩,[(.norm,⟨[],[],[.s 0 (.dat (.leaf 0))]⟩),(.ret,⟨[],[],[.s 1000 (.dat (.leaf 0))]⟩)]⟩ (.two (.cut ⟨⟨[],[],[.s 0 (.dat (.leaf 0)),.s 1 (.dat (.leaf 0))]⟩,[(.ret,⟨[],[],[.s 1000 (.dat (.leaf 0))]⟩),(.exit 0,⟨[],[],[.s 0 (.dat (.leaf 0))]⟩)]⟩ (.two (.two .no (.two (.two (.two (.cut ⟨⟨[],[],[]⟩,[(.norm,⟨[0,1],[],[.s 17 (.dat .bool)]⟩)]⟩ .no) .no) .no) .no)) .no)) .no)) .no)) [.leaf 0,.leaf 0] [.leaf 0] (a,b)=ZLk a b:=by kernel_rfl
theorem gcd_k:Zl Tryz.prog ZGj.1 ZGj.2:=Zp (C:=⟨Tryz.prog,[(39,0)],[Z6e,ZTg,Z6k],[],[],[],[],[]⟩) ⟨Zjm,Zqr,small_k,trivial⟩ trivial trivial trivial (inl:=[]) trivial (ann:=.two .no (.two (.cut ⟨⟨[],[],[]⟩,[(.norm,⟨[],[],[.s 0 (.dat (.leaf 0))]⟩),(.ret,⟨[],[],[.s 1000 (.dat (.leaf 0))]⟩)]⟩ (.two (.cut ⟨⟨[],[],[.s 0 (.dat (.leaf 0)),.s 1 (.dat (.leaf 0))]⟩,[(.ret,⟨[],[],[.s 1000 (.dat (.leaf 0))]⟩),(.exit 0,⟨[],[],[.s 0 (.dat (.leaf 0))]⟩)]⟩ (.two (.two .no (.two (.two (.two (.cut ⟨⟨[],[],[]⟩,[(.norm,⟨[0,1],[],[.s 17 (.dat .bool)]⟩)]⟩ .no) .no) .no) .no)) .no)) .no)) .no)) Tryz.func100 (fun _ _=>by kernel_rfl) rfl fun v vals x z ha hz=>(gcd_i x.1 x.2).trans (gcdF_eq hz)
end Go.Eng
set_option maxRecDepth 100000
set_option maxHeartbeats 4000000
namespace Go.Eng
open Go.Proofs Go.RowKit
noncomputable def ZUg:FuncId×Con:=(101,⟨[.leaf 0],[.bool],fun p=>Z7f p⟩)
theorem isOne_i (a:(List Int)):Zm ⟨Tryz.prog,[],[],[],[],[],[],[]⟩ [] Tryz.f101 (.two .no (.two (.cut ⟨⟨[],[],[]⟩,[(.norm,⟨[],[],[.s 2 (.dat .bool)]⟩)]⟩ .no) .no)) [.slice (.int .u64)] [.bool] (a)=ZGn a:=by kernel_rfl
theorem Zir:Zl Tryz.prog ZUg.1 ZUg.2:=Zhj (C:=⟨Tryz.prog,[],[],[],[],[],[],[]⟩) trivial trivial trivial trivial (inl:=[]) trivial (ann:=.two .no (.two (.cut ⟨⟨[],[],[]⟩,[(.norm,⟨[],[],[.s 2 (.dat .bool)]⟩)]⟩ .no) .no)) (ats:=[.slice (.int .u64)]) (rts:=[.bool]) (fun x=>((Zc 18446744073709551616 x))) (fun z=>z) (fun _ _ _ h=>h) (fun _ _ _ h=>h) Tryz.func101 (fun _ _=>by kernel_rfl) rfl fun v vals x z ha hz=>(isOne_i (Zc 18446744073709551616 x)).trans (Zyt.trans hz)
end Go.Eng
set_option maxRecDepth 100000
set_option maxHeartbeats 4000000
namespace Go.Eng
open Go.Proofs Go.RowKit
noncomputable def Zmd:FuncId×Con:=(56,⟨[.leaf 2,.leaf 0],[.leaf 3],fun p=>Zkd p.1 p.2⟩)
theorem over_i (n:Int) (d:Nat):Zm ⟨Tryz.prog,[(39,0),(41,2),(43,3)],[ZGj,ZUg,ZTg],[],[],[],[],[]⟩ [] Tryz.f56 (.two .no (.two (.two .no (.two .no (.cut ⟨⟨[],[],[]⟩,[(.norm,⟨[2,4],[],[.s 1 (.dat (.leaf 0)),.l (.sl 2) (.box 41 (.dat (.pair .bool (.leaf 0))))]⟩)]⟩ .no))) (.two (.two .no (.cut ⟨⟨[],[],[]⟩,[(.norm,⟨[2,4],[],[.s 1 (.dat (.leaf 0))]⟩)]⟩ .no)) .no))) [.leaf 2,.leaf 0] [.leaf 3] (n,d)=Zeo n d:=by kernel_rfl
theorem ZMk:Zl Tryz.prog Zmd.1 Zmd.2:=Zp (C:=⟨Tryz.prog,[(39,0),(41,2),(43,3)],[ZGj,ZUg,ZTg],[],[],[],[],[]⟩) ⟨gcd_k,Zir,Zqr,trivial⟩ trivial trivial trivial (inl:=[]) trivial (ann:=.two .no (.two (.two .no (.two .no (.cut ⟨⟨[],[],[]⟩,[(.norm,⟨[2,4],[],[.s 1 (.dat (.leaf 0)),.l (.sl 2) (.box 41 (.dat (.pair .bool (.leaf 0))))]⟩)]⟩ .no))) (.two (.two .no (.cut ⟨⟨[],[],[]⟩,[(.norm,⟨[2,4],[],[.s 1 (.dat (.leaf 0))]⟩)]⟩ .no)) .no))) Tryz.func56 (fun _ _=>by kernel_rfl) rfl fun v vals x z ha hz=>(over_i x.1 x.2).trans (Zex hz)
end Go.Eng
set_option maxRecDepth 100000
set_option maxHeartbeats 4000000
namespace Go.Eng
open Go.Proofs Go.RowKit
noncomputable def Zcc:FuncId×Con:=(103,⟨[.bool,.leaf 0],[.leaf 2],fun p=>Zeb p.1 p.2⟩)
theorem whole_i (s:Bool) (n:Nat):Zm ⟨Tryz.prog,[(39,0),(41,2),(43,3)],[],[],[],[],[],[]⟩ [] Tryz.f103 (.two .no (.two (.cut ⟨⟨[],[],[]⟩,[(.norm,⟨[4],[],[.l (.sl 4) (.box 41 (.dat (.pair .bool (.leaf 0))))]⟩)]⟩ .no) .no)) [.bool,.leaf 0] [.leaf 2] (s,n)=ZQn s n:=by kernel_rfl
theorem Zoh:Zl Tryz.prog Zcc.1 Zcc.2:=Zp (C:=⟨Tryz.prog,[(39,0),(41,2),(43,3)],[],[],[],[],[],[]⟩) trivial trivial trivial trivial (inl:=[]) trivial (ann:=.two .no (.two (.cut ⟨⟨[],[],[]⟩,[(.norm,⟨[4],[],[.l (.sl 4) (.box 41 (.dat (.pair .bool (.leaf 0))))]⟩)]⟩ .no) .no)) Tryz.func103 (fun _ _=>by kernel_rfl) rfl fun v vals x z ha hz=>(whole_i x.1 x.2).trans (Zjw hz)
end Go.Eng
set_option maxRecDepth 100000
set_option maxHeartbeats 4000000
namespace Go.Eng
open Go.Proofs Go.RowKit
noncomputable def ZGl:FuncId×Con:=(89,⟨[.int .i64,.int .i64],[.leaf 3,.int .i64],fun p=>ZYh p.1 p.2⟩)
theorem qnew_i (n:Int) (d:Int):Zm ⟨Tryz.prog,[(39,0),(41,2),(43,3)],[Zmd,Zcc,of_q],[],[],[],[],[]⟩ [] Tryz.f89 .no [.int .i64,.int .i64] [.leaf 3,.int .i64] (n,d)=Zgm n d:=by kernel_rfl
theorem qnew_k:Zl Tryz.prog ZGl.1 ZGl.2:=Zp (C:=⟨Tryz.prog,[(39,0),(41,2),(43,3)],[Zmd,Zcc,of_q],[],[],[],[],[]⟩) ⟨ZMk,Zoh,of_k,trivial⟩ trivial trivial trivial (inl:=[]) trivial (ann:=.no) Tryz.func89 (fun _ _=>by kernel_rfl) rfl fun v vals x z ha hz=>by obtain ⟨c0,w0,e0,p0,c1,e1,p1⟩:=ha;exact (qnew_i x.1 x.2).trans (ZWw p0.2 p1.2 hz)
end Go.Eng
set_option maxRecDepth 100000
set_option maxHeartbeats 4000000
namespace Go.Eng
open Go.Proofs Go.RowKit
noncomputable def Z9j:FuncId×Con:=(40,⟨[.pair (.int .i64) (.int .i64)],[.leaf 3],fun p=>ZMh p⟩)
theorem ZRx (r:(Int×Int)):Zm ⟨Tryz.prog,[(39,0),(41,2),(43,3)],[ZYg,ZGl],[],[],[],[],[]⟩ [] Tryz.f40 .no [.pair (.int .i64) (.int .i64)] [.leaf 3] (r)=Z8m r:=by kernel_rfl
theorem Zfu:Zl Tryz.prog Z9j.1 Z9j.2:=Zp (C:=⟨Tryz.prog,[(39,0),(41,2),(43,3)],[ZYg,ZGl],[],[],[],[],[]⟩) ⟨Zsp,qnew_k,trivial⟩ trivial trivial trivial (inl:=[]) trivial (ann:=.no) Tryz.func40 (fun _ _=>by kernel_rfl) rfl fun v vals x z ha hz=>(ZRx x).trans (ZRv hz)
end Go.Eng
set_option maxRecDepth 100000
set_option maxHeartbeats 4000000
namespace Go.Eng
open Go.Proofs Go.RowKit
noncomputable def Zib:FuncId×Con:=(173,⟨[.slice (.int .u32)],[.leaf 1],fun p=>Z9a p⟩)
theorem rcut_i (a:(List Int)):Zm ⟨Tryz.prog,[],[],[],[],[],[],[]⟩ [] Tryz.f173 (.two .no (.two .no (.two (.cut ⟨⟨[],[],[]⟩,[(.norm,⟨[0],[],[.s 3 (.dat (.int .i64))]⟩)]⟩ (.two (.cut ⟨⟨[0],[],[.s 3 (.dat (.int .i64))]⟩,[(.exit 0,⟨[0],[],[.s 3 (.dat (.int .i64))]⟩)]⟩ (.two (.two (.two (.cut ⟨⟨[],[],[]⟩,[(.norm,⟨[0,3],[],[.s 15 (.dat .bool)]⟩)]⟩ .no) .no) .no) .no)) .no)) .no))) [.slice (.int .u32)] [.slice (.int .u32)] (a)=Z2m a:=by kernel_rfl
theorem Zaf:Zl Tryz.prog Zib.1 Zib.2:=Zhj (C:=⟨Tryz.prog,[],[],[],[],[],[],[]⟩) trivial trivial trivial trivial (inl:=[]) trivial (ann:=.two .no (.two .no (.two (.cut ⟨⟨[],[],[]⟩,[(.norm,⟨[0],[],[.s 3 (.dat (.int .i64))]⟩)]⟩ (.two (.cut ⟨⟨[0],[],[.s 3 (.dat (.int .i64))]⟩,[(.exit 0,⟨[0],[],[.s 3 (.dat (.int .i64))]⟩)]⟩ (.two (.two (.two (.cut ⟨⟨[],[],[]⟩,[(.norm,⟨[0,3],[],[.s 15 (.dat .bool)]⟩)]⟩ .no) .no) .no) .no)) .no)) .no))) (ats:=[.slice (.int .u32)]) (rts:=[.slice (.int .u32)]) (fun x=>(x)) (fun z=>(Zc 4294967296 z)) (fun _ _ _ h=>h) (fun _ _ _ h=>h) Tryz.func173 (fun _ _=>by kernel_rfl) rfl fun v vals x z ha hz=>by obtain ⟨c0,e0,p0⟩:=ha;exact (rcut_i x).trans (by cases hz;exact (rcut_eq (ZFn p0).1 (ZFn p0).2))
end Go.Eng
set_option maxRecDepth 100000
set_option maxHeartbeats 4000000
namespace Go.Eng
open Go.Proofs Go.RowKit
noncomputable def Z3g:FuncId×Con:=(136,⟨[.int .u64],[.leaf 1],fun p=>ZZc p⟩)
theorem rnat_i (n:Int):Zm ⟨Tryz.prog,[(91,1),(93,4)],[Zib],[],[],[],[],[]⟩ [] Tryz.f136 .no [.int .u64] [.leaf 1] (n)=ZOn n:=by kernel_rfl
theorem ZEq:Zl Tryz.prog Z3g.1 Z3g.2:=Zp (C:=⟨Tryz.prog,[(91,1),(93,4)],[Zib],[],[],[],[],[]⟩) ⟨Zaf,trivial⟩ trivial trivial trivial (inl:=[]) trivial (ann:=.no) Tryz.func136 (fun _ _=>by kernel_rfl) rfl fun v vals x z ha hz=>by obtain ⟨c0,e0,p0⟩:=ha;exact (rnat_i x).trans (Zdw p0.2 hz)
end Go.Eng
set_option maxRecDepth 100000
set_option maxHeartbeats 4000000
namespace Go.Eng
open Go.Proofs Go.RowKit
noncomputable def ZNe:FuncId×Con:=(155,⟨[.leaf 1,.leaf 1],[.int .i64],fun p=>Zbd p.1 p.2⟩)
theorem Zmu (a:Nat) (b:Nat):Zm ⟨Tryz.prog,[(91,1),(93,4)],[],[],[],[],[],[]⟩ [] Tryz.f155 (.two .no (.two .no (.two .no (.two (.two .no (.cut ⟨⟨[],[],[]⟩,[(.norm,⟨[],[],[]⟩),(.ret,⟨[],[],[.s 1000 (.dat (.int .i64))]⟩)]⟩ (.two (.cut ⟨⟨[0,1],[],[.s 5 (.dat (.int .i64))]⟩,[(.ret,⟨[],[],[.s 1000 (.dat (.int .i64))]⟩),(.exit 0,⟨[],[],[]⟩)]⟩ .no) .no))) .no)))) [.leaf 1,.leaf 1] [.int .i64] (a,b)=Zem a b:=by kernel_rfl
theorem Zxm:Zl Tryz.prog ZNe.1 ZNe.2:=Zp (C:=⟨Tryz.prog,[(91,1),(93,4)],[],[],[],[],[],[]⟩) trivial trivial trivial trivial (inl:=[]) trivial (ann:=.two .no (.two .no (.two .no (.two (.two .no (.cut ⟨⟨[],[],[]⟩,[(.norm,⟨[],[],[]⟩),(.ret,⟨[],[],[.s 1000 (.dat (.int .i64))]⟩)]⟩ (.two (.cut ⟨⟨[0,1],[],[.s 5 (.dat (.int .i64))]⟩,[(.ret,⟨[],[],[.s 1000 (.dat (.int .i64))]⟩),(.exit 0,⟨[],[],[]⟩)]⟩ .no) .no))) .no)))) Tryz.func155 (fun _ _=>by kernel_rfl) rfl fun v vals x z ha hz=>by obtain ⟨c0,w0,e0,p0,c1,e1,p1⟩:=ha;exact (Zmu x.1 x.2).trans ((Zct (Z2q p0) (Z2q p1)).trans hz)
end Go.Eng
set_option maxRecDepth 100000
set_option maxHeartbeats 4000000
namespace Go.Eng
open Go.Proofs Go.RowKit
noncomputable def Zdh:FuncId×Con:=(181,⟨[.leaf 1,.int .u32],[.leaf 1,.int .u32],fun p=>ZKe p.1 p.2⟩)
theorem Zut (a:Nat) (b:Int):Zm ⟨Tryz.prog,[(91,1),(93,4)],[Zib],[],[],[],[],[]⟩ [] Tryz.f181 (.two .no (.two .no (.two .no (.two (.two .no (.cut ⟨⟨[],[],[]⟩,[(.norm,⟨[],[],[.s 6 (.own 185 (.int .u32)),.s 7 (.dat (.int .u64))]⟩)]⟩ (.two (.cut ⟨⟨[0,1],[],[.s 6 (.own 185 (.int .u32)),.s 7 (.dat (.int .u64)),.s 8 (.dat (.int .i64))]⟩,[(.exit 0,⟨[],[],[.s 6 (.own 185 (.int .u32)),.s 7 (.dat (.int .u64))]⟩)]⟩ .no) .no))) .no)))) [.leaf 1,.int .u32] [.leaf 1,.int .u32] (a,b)=Z2l a b:=by kernel_rfl
theorem ZHr:Zl Tryz.prog Zdh.1 Zdh.2:=Zp (C:=⟨Tryz.prog,[(91,1),(93,4)],[Zib],[],[],[],[],[]⟩) ⟨Zaf,trivial⟩ trivial trivial trivial (inl:=[]) trivial (ann:=.two .no (.two .no (.two .no (.two (.two .no (.cut ⟨⟨[],[],[]⟩,[(.norm,⟨[],[],[.s 6 (.own 185 (.int .u32)),.s 7 (.dat (.int .u64))]⟩)]⟩ (.two (.cut ⟨⟨[0,1],[],[.s 6 (.own 185 (.int .u32)),.s 7 (.dat (.int .u64)),.s 8 (.dat (.int .i64))]⟩,[(.exit 0,⟨[],[],[.s 6 (.own 185 (.int .u32)),.s 7 (.dat (.int .u64))]⟩)]⟩ .no) .no))) .no)))) Tryz.func181 (fun _ _=>by kernel_rfl) rfl fun v vals x z ha hz=>by obtain ⟨c0,w0,e0,p0,c1,e1,p1⟩:=ha;exact (Zut x.1 x.2).trans (ZPs p1.2 hz)
end Go.Eng
set_option maxRecDepth 100000
set_option maxHeartbeats 4000000
namespace Go.Eng
open Go.Proofs Go.RowKit
noncomputable def ZNj:FuncId×Con:=(186,⟨[.leaf 1],[.int .i64],fun p=>ZBg p⟩)
theorem rbits_i (a:Nat):Zm ⟨Tryz.prog,[(91,1),(93,4)],[],[],[],[],[],[]⟩ [] Tryz.f186 (.two .no (.two .no (.two .no (.two (.two .no (.cut ⟨⟨[],[],[]⟩,[(.norm,⟨[],[],[.s 3 (.dat (.int .i64))]⟩)]⟩ (.two (.cut ⟨⟨[],[],[.s 3 (.dat (.int .i64)),.s 4 (.dat (.int .u32))]⟩,[(.exit 0,⟨[],[],[.s 3 (.dat (.int .i64))]⟩)]⟩ .no) .no))) .no)))) [.leaf 1] [.int .i64] (a)=ZAl a:=by kernel_rfl
theorem rbits_k:Zl Tryz.prog ZNj.1 ZNj.2:=Zp (C:=⟨Tryz.prog,[(91,1),(93,4)],[],[],[],[],[],[]⟩) trivial trivial trivial trivial (inl:=[]) trivial (ann:=.two .no (.two .no (.two .no (.two (.two .no (.cut ⟨⟨[],[],[]⟩,[(.norm,⟨[],[],[.s 3 (.dat (.int .i64))]⟩)]⟩ (.two (.cut ⟨⟨[],[],[.s 3 (.dat (.int .i64)),.s 4 (.dat (.int .u32))]⟩,[(.exit 0,⟨[],[],[.s 3 (.dat (.int .i64))]⟩)]⟩ .no) .no))) .no)))) Tryz.func186 (fun _ _=>by kernel_rfl) rfl fun v vals x z ha hz=>(rbits_i x).trans (Zps hz)
end Go.Eng
set_option maxRecDepth 100000
set_option maxHeartbeats 4000000
namespace Go.Eng
open Go.Proofs Go.RowKit
noncomputable def Zhl:FuncId×Con:=(187,⟨[.leaf 1,.int .i64],[.leaf 1],fun p=>ZXd p.1 p.2⟩)
theorem ZRw (a:Nat) (n:Int):Zm ⟨Tryz.prog,[(91,1),(93,4)],[Zib],[],[],[],[],[]⟩ [] Tryz.f187 (.two .no (.two .no (.two .no (.two .no (.two (.two .no (.cut ⟨⟨[],[],[]⟩,[(.norm,⟨[],[],[.s 5 (.own 185 (.int .u32)),.s 6 (.dat (.int .u64))]⟩)]⟩ (.two (.cut ⟨⟨[0,1],[],[.s 5 (.own 185 (.int .u32)),.s 6 (.dat (.int .u64)),.s 7 (.dat (.int .i64))]⟩,[(.exit 0,⟨[],[],[.s 5 (.own 185 (.int .u32)),.s 6 (.dat (.int .u64))]⟩)]⟩ .no) .no))) .no))))) [.leaf 1,.int .i64] [.leaf 1] (a,n)=ZPl a n:=by kernel_rfl
theorem Z0s:Zl Tryz.prog Zhl.1 Zhl.2:=Zp (C:=⟨Tryz.prog,[(91,1),(93,4)],[Zib],[],[],[],[],[]⟩) ⟨Zaf,trivial⟩ trivial trivial trivial (inl:=[]) trivial (ann:=.two .no (.two .no (.two .no (.two .no (.two (.two .no (.cut ⟨⟨[],[],[]⟩,[(.norm,⟨[],[],[.s 5 (.own 185 (.int .u32)),.s 6 (.dat (.int .u64))]⟩)]⟩ (.two (.cut ⟨⟨[0,1],[],[.s 5 (.own 185 (.int .u32)),.s 6 (.dat (.int .u64)),.s 7 (.dat (.int .i64))]⟩,[(.exit 0,⟨[],[],[.s 5 (.own 185 (.int .u32)),.s 6 (.dat (.int .u64))]⟩)]⟩ .no) .no))) .no))))) Tryz.func187 (fun _ _=>by kernel_rfl) rfl fun v vals x z ha hz=>(ZRw x.1 x.2).trans (ZMx hz)
end Go.Eng
set_option maxRecDepth 100000
set_option maxHeartbeats 4000000
namespace Go.Eng
open Go.Proofs Go.RowKit
noncomputable def Zlg:FuncId×Con:=(188,⟨[.leaf 1,.leaf 1],[.leaf 1],fun p=>Zsb p.1 p.2⟩)
theorem rprod_i (a:Nat) (b:Nat):Zm ⟨Tryz.prog,[(91,1),(93,4)],[Zib],[],[],[],[],[]⟩ [] Tryz.f188 (.two .no (.two .no (.two (.two .no (.cut ⟨⟨[],[],[]⟩,[(.norm,⟨[],[],[.s 5 (.own 185 (.int .u32))]⟩)]⟩ (.two (.cut ⟨⟨[0,1],[],[.s 5 (.own 185 (.int .u32)),.s 6 (.dat (.int .i64))]⟩,[(.exit 0,⟨[],[],[.s 5 (.own 185 (.int .u32))]⟩)]⟩ (.two (.two .no (.two (.two (.two .no (.two (.two .no (.cut ⟨⟨[],[],[]⟩,[(.norm,⟨[0,1,6],[],[.s 5 (.own 185 (.int .u32)),.s 7 (.dat (.int .u64))]⟩)]⟩ (.two (.cut ⟨⟨[0,1,6],[],[.s 5 (.own 185 (.int .u32)),.s 7 (.dat (.int .u64)),.s 8 (.dat (.int .i64))]⟩,[(.exit 2,⟨[0,1,6],[],[.s 5 (.own 185 (.int .u32)),.s 7 (.dat (.int .u64))]⟩)]⟩ .no) .no))) .no)) .no) .no)) .no)) .no))) .no))) [.leaf 1,.leaf 1] [.leaf 1] (a,b)=Zvk a b:=by kernel_rfl
theorem ZBp:Zl Tryz.prog Zlg.1 Zlg.2:=Zp (C:=⟨Tryz.prog,[(91,1),(93,4)],[Zib],[],[],[],[],[]⟩) ⟨Zaf,trivial⟩ trivial trivial trivial (inl:=[]) trivial (ann:=.two .no (.two .no (.two (.two .no (.cut ⟨⟨[],[],[]⟩,[(.norm,⟨[],[],[.s 5 (.own 185 (.int .u32))]⟩)]⟩ (.two (.cut ⟨⟨[0,1],[],[.s 5 (.own 185 (.int .u32)),.s 6 (.dat (.int .i64))]⟩,[(.exit 0,⟨[],[],[.s 5 (.own 185 (.int .u32))]⟩)]⟩ (.two (.two .no (.two (.two (.two .no (.two (.two .no (.cut ⟨⟨[],[],[]⟩,[(.norm,⟨[0,1,6],[],[.s 5 (.own 185 (.int .u32)),.s 7 (.dat (.int .u64))]⟩)]⟩ (.two (.cut ⟨⟨[0,1,6],[],[.s 5 (.own 185 (.int .u32)),.s 7 (.dat (.int .u64)),.s 8 (.dat (.int .i64))]⟩,[(.exit 2,⟨[0,1,6],[],[.s 5 (.own 185 (.int .u32)),.s 7 (.dat (.int .u64))]⟩)]⟩ .no) .no))) .no)) .no) .no)) .no)) .no))) .no))) Tryz.func188 (fun _ _=>by kernel_rfl) rfl fun v vals x z ha hz=>(rprod_i x.1 x.2).trans (Zgw hz)
end Go.Eng
set_option maxRecDepth 100000
set_option maxHeartbeats 4000000
namespace Go.Eng
open Go.Proofs Go.RowKit
noncomputable def ZMg:FuncId×Con:=(189,⟨[.leaf 1,.leaf 1],[.leaf 1],fun p=>ZOb p.1 p.2⟩)
theorem rdif_i (a:Nat) (b:Nat):Zm ⟨Tryz.prog,[(91,1),(93,4)],[Zib],[],[],[],[],[]⟩ [] Tryz.f189 (.two .no (.two .no (.two .no (.two (.two .no (.cut ⟨⟨[],[],[]⟩,[(.norm,⟨[],[],[.s 5 (.own 185 (.int .u32))]⟩)]⟩ (.two (.cut ⟨⟨[0,1],[],[.s 5 (.own 185 (.int .u32)),.s 6 (.dat (.int .i64)),.s 7 (.dat (.int .i64))]⟩,[(.exit 0,⟨[],[],[.s 5 (.own 185 (.int .u32))]⟩)]⟩ (.two (.two .no (.two (.two (.two .no (.two (.two .no (.cut ⟨⟨[],[],[]⟩,[(.norm,⟨[0,1,5,7],[],[.s 8 (.dat (.int .i64))]⟩)]⟩ .no)) (.two .no (.two (.two .no (.cut ⟨⟨[],[],[]⟩,[(.norm,⟨[0,1,5,7],[],[.s 6 (.dat (.int .i64)),.s 8 (.dat (.int .i64))]⟩)]⟩ .no)) .no)))) .no) .no)) .no)) .no))) .no)))) [.leaf 1,.leaf 1] [.leaf 1] (a,b)=Z8j a b:=by kernel_rfl
theorem Z2o:Zl Tryz.prog ZMg.1 ZMg.2:=Zp (C:=⟨Tryz.prog,[(91,1),(93,4)],[Zib],[],[],[],[],[]⟩) ⟨Zaf,trivial⟩ trivial trivial trivial (inl:=[]) trivial (ann:=.two .no (.two .no (.two .no (.two (.two .no (.cut ⟨⟨[],[],[]⟩,[(.norm,⟨[],[],[.s 5 (.own 185 (.int .u32))]⟩)]⟩ (.two (.cut ⟨⟨[0,1],[],[.s 5 (.own 185 (.int .u32)),.s 6 (.dat (.int .i64)),.s 7 (.dat (.int .i64))]⟩,[(.exit 0,⟨[],[],[.s 5 (.own 185 (.int .u32))]⟩)]⟩ (.two (.two .no (.two (.two (.two .no (.two (.two .no (.cut ⟨⟨[],[],[]⟩,[(.norm,⟨[0,1,5,7],[],[.s 8 (.dat (.int .i64))]⟩)]⟩ .no)) (.two .no (.two (.two .no (.cut ⟨⟨[],[],[]⟩,[(.norm,⟨[0,1,5,7],[],[.s 6 (.dat (.int .i64)),.s 8 (.dat (.int .i64))]⟩)]⟩ .no)) .no)))) .no) .no)) .no)) .no))) .no)))) Tryz.func189 (fun _ _=>by kernel_rfl) rfl fun v vals x z ha hz=>(rdif_i x.1 x.2).trans (Z6u hz)
end Go.Eng
set_option maxRecDepth 100000
set_option maxHeartbeats 4000000
namespace Go.Eng
open Go.Proofs Go.RowKit
noncomputable def Zej:FuncId×Con:=(190,⟨[.leaf 1,.int .i64],[.leaf 1],fun p=>Zzg p.1 p.2⟩)
theorem Zws (a:Nat) (n:Int):Zm ⟨Tryz.prog,[(91,1),(93,4)],[Zib],[],[],[],[],[]⟩ [] Tryz.f190 (.two .no (.two .no (.two (.two .no (.cut ⟨⟨[],[],[]⟩,[(.norm,⟨[],[],[.s 5 (.own 185 (.int .u32))]⟩)]⟩ (.two (.cut ⟨⟨[0,1],[],[.s 5 (.own 185 (.int .u32)),.s 6 (.dat (.int .i64))]⟩,[(.exit 0,⟨[],[],[.s 5 (.own 185 (.int .u32))]⟩)]⟩ (.two (.two .no (.two (.two (.two .no (.two (.two .no (.cut ⟨⟨[],[],[]⟩,[(.norm,⟨[0,1,5,6],[],[.s 7 (.dat (.int .u64))]⟩)]⟩ .no)) .no)) .no) .no)) .no)) .no))) .no))) [.leaf 1,.int .i64] [.leaf 1] (a,n)=Znk a n:=by kernel_rfl
theorem Ziw:Zl Tryz.prog Zej.1 Zej.2:=Zp (C:=⟨Tryz.prog,[(91,1),(93,4)],[Zib],[],[],[],[],[]⟩) ⟨Zaf,trivial⟩ trivial trivial trivial (inl:=[]) trivial (ann:=.two .no (.two .no (.two (.two .no (.cut ⟨⟨[],[],[]⟩,[(.norm,⟨[],[],[.s 5 (.own 185 (.int .u32))]⟩)]⟩ (.two (.cut ⟨⟨[0,1],[],[.s 5 (.own 185 (.int .u32)),.s 6 (.dat (.int .i64))]⟩,[(.exit 0,⟨[],[],[.s 5 (.own 185 (.int .u32))]⟩)]⟩ (.two (.two .no (.two (.two (.two .no (.two (.two .no (.cut ⟨⟨[],[],[]⟩,[(.norm,⟨[0,1,5,6],[],[.s 7 (.dat (.int .u64))]⟩)]⟩ .no)) .no)) .no) .no)) .no)) .no))) .no))) Tryz.func190 (fun _ _=>by kernel_rfl) rfl fun v vals x z ha hz=>by obtain ⟨c0,w0,e0,p0,c1,e1,p1⟩:=ha;exact (Zws x.1 x.2).trans (ZHw p1.2 hz)
end Go.Eng
set_option maxRecDepth 100000
set_option maxHeartbeats 4000000
namespace Go.Eng
open Go.Proofs Go.RowKit
noncomputable def Ztg:FuncId×Con:=(172,⟨[.leaf 1,.leaf 1],[.leaf 1,.leaf 1],fun p=>ZFc p.1 p.2⟩)
theorem rquot_i (a:Nat) (b:Nat):Zm ⟨Tryz.prog,[(91,1),(93,4)],[Z3g,ZNe,Zib,Zdh,ZNj,Zhl,Zlg,ZMg,Zej],[],[],[],[],[]⟩ [] Tryz.f172 (.two .no (.two .no (.two .no (.two .no (.two .no (.two .no (.two .no (.two (.two .no (.cut ⟨⟨[],[],[]⟩,[(.norm,⟨[8],[],[.s 10 (.dat (.leaf 1)),.s 12 (.own 185 (.int .u32))]⟩)]⟩ (.two (.cut ⟨⟨[8,9,11],[],[.s 10 (.dat (.leaf 1)),.s 12 (.own 185 (.int .u32)),.s 13 (.dat (.int .i64))]⟩,[(.exit 0,⟨[8],[],[.s 10 (.dat (.leaf 1)),.s 12 (.own 185 (.int .u32))]⟩)]⟩ (.two (.two .no (.two (.cut ⟨⟨[],[],[]⟩,[(.norm,⟨[8,9,11,13],[],[.s 10 (.dat (.leaf 1)),.s 12 (.own 185 (.int .u32))]⟩)]⟩ (.two (.two .no (.two (.two .no (.cut ⟨⟨[],[],[]⟩,[(.norm,⟨[8,9,10,11,12,13],[],[.s 14 (.dat (.slice (.int .u32)))]⟩)]⟩ .no)) (.two .no (.two .no (.two (.two .no (.cut ⟨⟨[],[],[]⟩,[(.norm,⟨[8,9,10,11,12,13,14],[],[.s 15 (.dat (.int .u64))]⟩)]⟩ .no)) (.two .no (.two (.two .no (.cut ⟨⟨[],[],[]⟩,[(.norm,⟨[8,9,10,11,12,13,14],[],[.s 16 (.dat (.int .u64))]⟩)]⟩ .no)) (.two .no (.two (.cut ⟨⟨[],[],[]⟩,[(.norm,⟨[8,9,10,11,12,13,14],[],[.s 16 (.dat (.int .u64)),.s 17 (.dat (.leaf 1))]⟩)]⟩ (.two (.cut ⟨⟨[8,9,10,11,12,13,14],[],[.s 16 (.dat (.int .u64)),.s 17 (.dat (.leaf 1))]⟩,[(.exit 2,⟨[8,9,10,11,12,13,14],[],[.s 16 (.dat (.int .u64)),.s 17 (.dat (.leaf 1))]⟩)]⟩ .no) .no)) .no))))))))) .no)) .no)) .no)) .no))) .no)))))))) [.leaf 1,.leaf 1] [.leaf 1,.leaf 1] (a,b)=ZCj a b:=by kernel_rfl
theorem Z9q:Zl Tryz.prog Ztg.1 Ztg.2:=Zp (C:=⟨Tryz.prog,[(91,1),(93,4)],[Z3g,ZNe,Zib,Zdh,ZNj,Zhl,Zlg,ZMg,Zej],[],[],[],[],[]⟩) ⟨ZEq,Zxm,Zaf,ZHr,rbits_k,Z0s,ZBp,Z2o,Ziw,trivial⟩ trivial trivial trivial (inl:=[]) trivial (ann:=.two .no (.two .no (.two .no (.two .no (.two .no (.two .no (.two .no (.two (.two .no (.cut ⟨⟨[],[],[]⟩,[(.norm,⟨[8],[],[.s 10 (.dat (.leaf 1)),.s 12 (.own 185 (.int .u32))]⟩)]⟩ (.two (.cut ⟨⟨[8,9,11],[],[.s 10 (.dat (.leaf 1)),.s 12 (.own 185 (.int .u32)),.s 13 (.dat (.int .i64))]⟩,[(.exit 0,⟨[8],[],[.s 10 (.dat (.leaf 1)),.s 12 (.own 185 (.int .u32))]⟩)]⟩ (.two (.two .no (.two (.cut ⟨⟨[],[],[]⟩,[(.norm,⟨[8,9,11,13],[],[.s 10 (.dat (.leaf 1)),.s 12 (.own 185 (.int .u32))]⟩)]⟩ (.two (.two .no (.two (.two .no (.cut ⟨⟨[],[],[]⟩,[(.norm,⟨[8,9,10,11,12,13],[],[.s 14 (.dat (.slice (.int .u32)))]⟩)]⟩ .no)) (.two .no (.two .no (.two (.two .no (.cut ⟨⟨[],[],[]⟩,[(.norm,⟨[8,9,10,11,12,13,14],[],[.s 15 (.dat (.int .u64))]⟩)]⟩ .no)) (.two .no (.two (.two .no (.cut ⟨⟨[],[],[]⟩,[(.norm,⟨[8,9,10,11,12,13,14],[],[.s 16 (.dat (.int .u64))]⟩)]⟩ .no)) (.two .no (.two (.cut ⟨⟨[],[],[]⟩,[(.norm,⟨[8,9,10,11,12,13,14],[],[.s 16 (.dat (.int .u64)),.s 17 (.dat (.leaf 1))]⟩)]⟩ (.two (.cut ⟨⟨[8,9,10,11,12,13,14],[],[.s 16 (.dat (.int .u64)),.s 17 (.dat (.leaf 1))]⟩,[(.exit 2,⟨[8,9,10,11,12,13,14],[],[.s 16 (.dat (.int .u64)),.s 17 (.dat (.leaf 1))]⟩)]⟩ .no) .no)) .no))))))))) .no)) .no)) .no)) .no))) .no)))))))) Tryz.func172 (fun _ _=>by kernel_rfl) rfl fun v vals x z ha hz=>(rquot_i x.1 x.2).trans (Zit hz)
end Go.Eng
set_option maxRecDepth 100000
set_option maxHeartbeats 4000000
namespace Go.Eng
open Go.Proofs Go.RowKit
noncomputable def ZBj:FuncId×Con:=(171,⟨[.leaf 1,.leaf 1],[.leaf 1],fun p=>rgcF p.1 p.2⟩)
theorem rgcd_i (a:Nat) (b:Nat):Zm ⟨Tryz.prog,[(91,1),(93,4)],[Ztg],[],[],[],[],[]⟩ [] Tryz.f171 (.two .no (.two (.cut ⟨⟨[],[],[]⟩,[(.norm,⟨[],[],[.s 0 (.dat (.leaf 1))]⟩)]⟩ (.two (.cut ⟨⟨[],[],[.s 0 (.dat (.leaf 1)),.s 1 (.dat (.leaf 1))]⟩,[(.exit 0,⟨[],[],[.s 0 (.dat (.leaf 1))]⟩)]⟩ .no) .no)) .no)) [.leaf 1,.leaf 1] [.leaf 1] (a,b)=ZYj a b:=by kernel_rfl
theorem rgcd_k:Zl Tryz.prog ZBj.1 ZBj.2:=Zp (C:=⟨Tryz.prog,[(91,1),(93,4)],[Ztg],[],[],[],[],[]⟩) ⟨Z9q,trivial⟩ trivial trivial trivial (inl:=[]) trivial (ann:=.two .no (.two (.cut ⟨⟨[],[],[]⟩,[(.norm,⟨[],[],[.s 0 (.dat (.leaf 1))]⟩)]⟩ (.two (.cut ⟨⟨[],[],[.s 0 (.dat (.leaf 1)),.s 1 (.dat (.leaf 1))]⟩,[(.exit 0,⟨[],[],[.s 0 (.dat (.leaf 1))]⟩)]⟩ .no) .no)) .no)) Tryz.func171 (fun _ _=>by kernel_rfl) rfl fun v vals x z ha hz=>(rgcd_i x.1 x.2).trans (rgcF_eq hz)
end Go.Eng
set_option maxRecDepth 100000
set_option maxHeartbeats 4000000
namespace Go.Eng
open Go.Proofs Go.RowKit
noncomputable def ZNd:FuncId×Con:=(135,⟨[.bool,.leaf 1,.leaf 1],[.leaf 4],fun p=>ZIb p.1 p.2.1 p.2.2⟩)
theorem rfrac_i (s:Bool) (n:Nat) (d:Nat):Zm ⟨Tryz.prog,[(91,1),(93,4)],[ZBj,Ztg],[],[],[],[],[]⟩ [] Tryz.f135 .no [.bool,.leaf 1,.leaf 1] [.leaf 4] (s,n,d)=ZVm s n d:=by kernel_rfl
theorem ZQk:Zl Tryz.prog ZNd.1 ZNd.2:=Zp (C:=⟨Tryz.prog,[(91,1),(93,4)],[ZBj,Ztg],[],[],[],[],[]⟩) ⟨rgcd_k,Z9q,trivial⟩ trivial trivial trivial (inl:=[]) trivial (ann:=.no) Tryz.func135 (fun _ _=>by kernel_rfl) rfl fun v vals x z ha hz=>(rfrac_i x.1 x.2.1 x.2.2).trans (Zst hz)
end Go.Eng
set_option maxRecDepth 100000
set_option maxHeartbeats 4000000
namespace Go.Eng
open Go.Proofs Go.RowKit
noncomputable def ZFd:FuncId×Con:=(91,⟨[.int .i64],[.leaf 4],fun p=>Z0b p⟩)
theorem ZCs (n:Int):Zm ⟨Tryz.prog,[(91,1),(93,4)],[ZNd,Z3g],[],[],[],[],[]⟩ [] Tryz.f91 .no [.int .i64] [.leaf 4] (n)=ZEl n:=by kernel_rfl
theorem ZSl:Zl Tryz.prog ZFd.1 ZFd.2:=Zp (C:=⟨Tryz.prog,[(91,1),(93,4)],[ZNd,Z3g],[],[],[],[],[]⟩) ⟨ZQk,ZEq,trivial⟩ trivial trivial trivial (inl:=[]) trivial (ann:=.no) Tryz.func91 (fun _ _=>by kernel_rfl) rfl fun v vals x z ha hz=>by obtain ⟨c0,e0,p0⟩:=ha;exact (ZCs x).trans (Zev p0.2 hz)
end Go.Eng
set_option maxRecDepth 100000
set_option maxHeartbeats 4000000
namespace Go.Eng
open Go.Proofs Go.RowKit
noncomputable def ZLg:FuncId×Con:=(90,⟨[.leaf 4],[.pair (.leaf 4) (.pair (.leaf 4) (.pair (.leaf 4) (.leaf 4)))],fun p=>Zfh p⟩)
theorem sReal_i (x:Rat):Zm ⟨Tryz.prog,[(39,0),(41,2),(43,3),(91,1),(93,4)],[ZFd],[],[],[],[],[]⟩ [] Tryz.f90 .no [.leaf 4] [.pair (.leaf 4) (.pair (.leaf 4) (.pair (.leaf 4) (.leaf 4)))] (x)=Zfh x:=by kernel_rfl
theorem Zgp:Zl Tryz.prog ZLg.1 ZLg.2:=Zp (C:=⟨Tryz.prog,[(39,0),(41,2),(43,3),(91,1),(93,4)],[ZFd],[],[],[],[],[]⟩) ⟨ZSl,trivial⟩ trivial trivial trivial (inl:=[]) trivial (ann:=.no) Tryz.func90 (fun _ _=>by kernel_rfl) rfl (fun v vals x z ha hz=>(sReal_i x).trans hz)
end Go.Eng
set_option maxRecDepth 100000
set_option maxHeartbeats 4000000
namespace Go.Eng
open Go.Proofs Go.RowKit
noncomputable def ZPg:FuncId×Con:=(41,⟨[.leaf 4],[.pair (.pair (.leaf 4) (.pair (.leaf 4) (.pair (.leaf 4) (.leaf 4)))) (.pair (.leaf 4) (.pair (.leaf 4) (.pair (.leaf 4) (.leaf 4))))],fun p=>Zsg p⟩)
theorem wReal_i (x:Rat):Zm ⟨Tryz.prog,[(39,0),(41,2),(43,3),(91,1),(93,4)],[ZLg,ZFd],[],[],[],[],[]⟩ [] Tryz.f41 .no [.leaf 4] [.pair (.pair (.leaf 4) (.pair (.leaf 4) (.pair (.leaf 4) (.leaf 4)))) (.pair (.leaf 4) (.pair (.leaf 4) (.pair (.leaf 4) (.leaf 4))))] (x)=Zsg x:=by kernel_rfl
theorem Zcr:Zl Tryz.prog ZPg.1 ZPg.2:=Zp (C:=⟨Tryz.prog,[(39,0),(41,2),(43,3),(91,1),(93,4)],[ZLg,ZFd],[],[],[],[],[]⟩) ⟨Zgp,ZSl,trivial⟩ trivial trivial trivial (inl:=[]) trivial (ann:=.no) Tryz.func41 (fun _ _=>by kernel_rfl) rfl (fun v vals x z ha hz=>(wReal_i x).trans hz)
end Go.Eng
set_option maxRecDepth 100000
set_option maxHeartbeats 4000000
namespace Go.Eng
open Go.Proofs Go.RowKit
noncomputable def ZAk:FuncId×Con:=(92,⟨[.int .i64,.int .i64],[.leaf 4,.int .i64],fun p=>ZFi p.1 p.2⟩)
theorem rnew_i (n:Int) (d:Int):Zm ⟨Tryz.prog,[(91,1),(93,4)],[ZFd,ZNd],[],[],[],[],[]⟩ [] Tryz.f92 .no [.int .i64,.int .i64] [.leaf 4,.int .i64] (n,d)=Zlo n d:=by kernel_rfl
theorem rnew_k:Zl Tryz.prog ZAk.1 ZAk.2:=Zp (C:=⟨Tryz.prog,[(91,1),(93,4)],[ZFd,ZNd],[],[],[],[],[]⟩) ⟨ZSl,ZQk,trivial⟩ trivial trivial trivial (inl:=[]) trivial (ann:=.no) Tryz.func92 (fun _ _=>by kernel_rfl) rfl fun v vals x z ha hz=>by obtain ⟨c0,w0,e0,p0,c1,e1,p1⟩:=ha;exact (rnew_i x.1 x.2).trans (Zku p0.2 p1.2 hz)
end Go.Eng
set_option maxRecDepth 100000
set_option maxHeartbeats 4000000
namespace Go.Eng
open Go.Proofs Go.RowKit
noncomputable def Zqg:FuncId×Con:=(42,⟨[.pair (.int .i64) (.int .i64)],[.leaf 4],fun p=>rofF p⟩)
theorem rof_i (r:(Int×Int)):Zm ⟨Tryz.prog,[(91,1),(93,4)],[ZFd,ZAk],[],[],[],[],[]⟩ [] Tryz.f42 .no [.pair (.int .i64) (.int .i64)] [.leaf 4] (r)=rof_m r:=by kernel_rfl
theorem rof_k:Zl Tryz.prog Zqg.1 Zqg.2:=Zp (C:=⟨Tryz.prog,[(91,1),(93,4)],[ZFd,ZAk],[],[],[],[],[]⟩) ⟨ZSl,rnew_k,trivial⟩ trivial trivial trivial (inl:=[]) trivial (ann:=.no) Tryz.func42 (fun _ _=>by kernel_rfl) rfl fun v vals x z ha hz=>(rof_i x).trans (rofF_eq hz)
end Go.Eng
set_option maxRecDepth 100000
set_option maxHeartbeats 4000000
namespace Go.Eng
open Go.Proofs Go.RowKit
noncomputable def ZJe:FuncId×Con:=(10,⟨[.slice (.pair (.int .i64) (.int .i64))],[.slice (.leaf 3),.slice (.pair (.pair (.leaf 4) (.pair (.leaf 4) (.pair (.leaf 4) (.leaf 4)))) (.pair (.leaf 4) (.pair (.leaf 4) (.pair (.leaf 4) (.leaf 4)))))],fun p=>ZEd p⟩)
theorem list2_i (l:List (Int×Int)):Zm ⟨Tryz.prog,[(39,0),(41,2),(43,3),(91,1),(93,4)],[Z9j,ZPg,Zqg],[],[],[],[],[]⟩ [] Tryz.f10 (.two .no (.two .no (.two .no (.two (.two .no (.two (.cut ⟨⟨[8,9],[],[.s 4 (.own 43 (.leaf 3)),.s 5 (.own 97 (.pair (.pair (.leaf 4) (.pair (.leaf 4) (.pair (.leaf 4) (.leaf 4)))) (.pair (.leaf 4) (.pair (.leaf 4) (.pair (.leaf 4) (.leaf 4)))))),.s 10 (.dat (.int .i64))]⟩,[(.exit 0,⟨[],[],[.s 4 (.own 43 (.leaf 3)),.s 5 (.own 97 (.pair (.pair (.leaf 4) (.pair (.leaf 4) (.pair (.leaf 4) (.leaf 4)))) (.pair (.leaf 4) (.pair (.leaf 4) (.pair (.leaf 4) (.leaf 4))))))]⟩)]⟩ .no) .no)) .no)))) [.slice (.pair (.int .i64) (.int .i64))] [.slice (.leaf 3),.slice (.pair (.pair (.leaf 4) (.pair (.leaf 4) (.pair (.leaf 4) (.leaf 4)))) (.pair (.leaf 4) (.pair (.leaf 4) (.pair (.leaf 4) (.leaf 4)))))] (l)=ZEd l:=by kernel_rfl
theorem Zbm:Zl Tryz.prog ZJe.1 ZJe.2:=Zp (C:=⟨Tryz.prog,[(39,0),(41,2),(43,3),(91,1),(93,4)],[Z9j,ZPg,Zqg],[],[],[],[],[]⟩) ⟨Zfu,Zcr,rof_k,trivial⟩ trivial trivial trivial (inl:=[]) trivial (ann:=(.two .no (.two .no (.two .no (.two (.two .no (.two (.cut ⟨⟨[8,9],[],[.s 4 (.own 43 (.leaf 3)),.s 5 (.own 97 (.pair (.pair (.leaf 4) (.pair (.leaf 4) (.pair (.leaf 4) (.leaf 4)))) (.pair (.leaf 4) (.pair (.leaf 4) (.pair (.leaf 4) (.leaf 4)))))),.s 10 (.dat (.int .i64))]⟩,[(.exit 0,⟨[],[],[.s 4 (.own 43 (.leaf 3)),.s 5 (.own 97 (.pair (.pair (.leaf 4) (.pair (.leaf 4) (.pair (.leaf 4) (.leaf 4)))) (.pair (.leaf 4) (.pair (.leaf 4) (.pair (.leaf 4) (.leaf 4))))))]⟩)]⟩ .no) .no)) .no))))) Tryz.func10 (fun _ _=>by kernel_rfl) rfl (fun v vals x z ha hz=>(list2_i x).trans hz)
end Go.Eng
set_option maxRecDepth 100000
set_option maxHeartbeats 4000000
namespace Go.Eng
open Go.Proofs Go.RowKit
noncomputable def Zef:FuncId×Con:=(9,⟨[.slice (.slice (.pair (.int .i64) (.int .i64)))],[.slice (.slice (.leaf 3)),.slice (.slice (.pair (.pair (.leaf 4) (.pair (.leaf 4) (.pair (.leaf 4) (.leaf 4)))) (.pair (.leaf 4) (.pair (.leaf 4) (.pair (.leaf 4) (.leaf 4))))))],fun p=>Z9d p⟩)
theorem rows2_i (m:List (List (Int×Int))):Zm ⟨Tryz.prog,[(39,0),(41,2),(43,3),(91,1),(93,4)],[ZJe],[],[],[],[],[]⟩ [] Tryz.f9 (.two .no (.two .no (.two (.two .no (.two (.cut ⟨⟨[0,4,5,14],[],[.s 15 (.dat (.int .i64)),.l (.sl 4) (.own 30 (.slice (.leaf 3))),.l (.sl 5) (.own 31 (.slice (.pair (.pair (.leaf 4) (.pair (.leaf 4) (.pair (.leaf 4) (.leaf 4)))) (.pair (.leaf 4) (.pair (.leaf 4) (.pair (.leaf 4) (.leaf 4)))))))]⟩,[(.exit 0,⟨[4,5],[],[.l (.sl 4) (.own 30 (.slice (.leaf 3))),.l (.sl 5) (.own 31 (.slice (.pair (.pair (.leaf 4) (.pair (.leaf 4) (.pair (.leaf 4) (.leaf 4)))) (.pair (.leaf 4) (.pair (.leaf 4) (.pair (.leaf 4) (.leaf 4)))))))]⟩)]⟩ .no) .no)) .no))) [.slice (.slice (.pair (.int .i64) (.int .i64)))] [.slice (.slice (.leaf 3)),.slice (.slice (.pair (.pair (.leaf 4) (.pair (.leaf 4) (.pair (.leaf 4) (.leaf 4)))) (.pair (.leaf 4) (.pair (.leaf 4) (.pair (.leaf 4) (.leaf 4))))))] (m)=Z9d m:=by kernel_rfl
theorem Z5n:Zl Tryz.prog Zef.1 Zef.2:=Zp (C:=⟨Tryz.prog,[(39,0),(41,2),(43,3),(91,1),(93,4)],[ZJe],[],[],[],[],[]⟩) ⟨Zbm,trivial⟩ trivial trivial trivial (inl:=[]) trivial (ann:=(.two .no (.two .no (.two (.two .no (.two (.cut ⟨⟨[0,4,5,14],[],[.s 15 (.dat (.int .i64)),.l (.sl 4) (.own 30 (.slice (.leaf 3))),.l (.sl 5) (.own 31 (.slice (.pair (.pair (.leaf 4) (.pair (.leaf 4) (.pair (.leaf 4) (.leaf 4)))) (.pair (.leaf 4) (.pair (.leaf 4) (.pair (.leaf 4) (.leaf 4)))))))]⟩,[(.exit 0,⟨[4,5],[],[.l (.sl 4) (.own 30 (.slice (.leaf 3))),.l (.sl 5) (.own 31 (.slice (.pair (.pair (.leaf 4) (.pair (.leaf 4) (.pair (.leaf 4) (.leaf 4)))) (.pair (.leaf 4) (.pair (.leaf 4) (.pair (.leaf 4) (.leaf 4)))))))]⟩)]⟩ .no) .no)) .no)))) Tryz.func9 (fun _ _=>by kernel_rfl) rfl (fun v vals x z ha hz=>(rows2_i x).trans hz)
end Go.Eng
set_option maxRecDepth 100000
set_option maxHeartbeats 4000000
namespace Go.Eng
open Go.Proofs Go.RowKit
noncomputable def ZEb:FuncId×Con:=(47,⟨[.slice (.slice (.leaf 3))],[.int .i64],fun p=>Z9b p⟩)
theorem ZEt (m:List (List Rat)):Zm ⟨Tryz.prog,[(39,0),(41,2),(43,3),(91,1),(93,4)],[],[],[],[],[],[]⟩ [] Tryz.f47 .no [.slice (.slice (.leaf 3))] [.int .i64] (m)=Z9b m:=by kernel_rfl
theorem ZTf:Zl Tryz.prog ZEb.1 ZEb.2:=Zp (C:=⟨Tryz.prog,[(39,0),(41,2),(43,3),(91,1),(93,4)],[],[],[],[],[],[]⟩) trivial trivial trivial trivial (inl:=[]) trivial (ann:=.no) Tryz.func47 (fun _ _=>by kernel_rfl) rfl (fun v vals x z ha hz=>(ZEt x).trans hz)
end Go.Eng
set_option maxRecDepth 100000
set_option maxHeartbeats 4000000
namespace Go.Eng
open Go.Proofs Go.RowKit
noncomputable def ZIc:FuncId×Con:=(43,⟨[.slice (.slice (.leaf 3))],[.bool],fun p=>Znd p⟩)
theorem Zkt (m:List (List Rat)):Zm ⟨Tryz.prog,[(39,0),(41,2),(43,3),(91,1),(93,4)],[ZEb],[],[],[],[],[]⟩ [(93,Tryz.f93,.no),(94,Tryz.f94,.no),(137,Tryz.f137,.cut ⟨⟨[],[],[]⟩,[(.ret,⟨[],[],[.s 1000 (.dat (.int .i64))]⟩)]⟩ (.two .no (.two (.two .no (.two (.cut ⟨⟨[0,1,7],[],[.s 8 (.dat (.int .i64))]⟩,[(.exit 0,⟨[],[],[]⟩),(.ret,⟨[],[],[.s 1000 (.dat (.int .i64))]⟩)]⟩ .no) .no)) .no)))] Tryz.f43 (.two .no (.two .no (.two (.cut ⟨⟨[],[],[]⟩,[(.norm,⟨[],[],[.s 2 (.dat .bool)]⟩)]⟩ .no) .no))) [.slice (.slice (.leaf 3))] [.bool] (m)=Znd m:=by kernel_rfl
theorem ZSh:Zl Tryz.prog ZIc.1 ZIc.2:=Zp (C:=⟨Tryz.prog,[(39,0),(41,2),(43,3),(91,1),(93,4)],[ZEb],[],[],[],[],[]⟩) ⟨ZTf,trivial⟩ trivial trivial trivial (inl:=[(93,Tryz.f93,.no),(94,Tryz.f94,.no),(137,Tryz.f137,.cut ⟨⟨[],[],[]⟩,[(.ret,⟨[],[],[.s 1000 (.dat (.int .i64))]⟩)]⟩ (.two .no (.two (.two .no (.two (.cut ⟨⟨[0,1,7],[],[.s 8 (.dat (.int .i64))]⟩,[(.exit 0,⟨[],[],[]⟩),(.ret,⟨[],[],[.s 1000 (.dat (.int .i64))]⟩)]⟩ .no) .no)) .no)))]) ⟨⟨Tryz.func93,fun _ _=>by kernel_rfl⟩,⟨Tryz.func94,fun _ _=>by kernel_rfl⟩,⟨Tryz.func137,fun _ _=>by kernel_rfl⟩,trivial⟩ (ann:=(.two .no (.two .no (.two (.cut ⟨⟨[],[],[]⟩,[(.norm,⟨[],[],[.s 2 (.dat .bool)]⟩)]⟩ .no) .no)))) Tryz.func43 (fun _ _=>by kernel_rfl) rfl (fun v vals x z ha hz=>(Zkt x).trans hz)
end Go.Eng
set_option maxRecDepth 100000
set_option maxHeartbeats 4000000
namespace Go.Eng
open Go.Proofs Go.RowKit
noncomputable def Z3b:FuncId×Con:=(22,⟨[.leaf 3],[.bool],fun p=>Zwb p⟩)
theorem qzero_i (x:Rat):Zm ⟨Tryz.prog,[(39,0),(41,2),(43,3)],[],[],[],[],[],[]⟩ [] Tryz.f22 .no [.leaf 3] [.bool] (x)=Zzn x:=by kernel_rfl
theorem Zbh:Zl Tryz.prog Z3b.1 Z3b.2:=Zp (C:=⟨Tryz.prog,[(39,0),(41,2),(43,3)],[],[],[],[],[],[]⟩) trivial trivial trivial trivial (inl:=[]) trivial (ann:=.no) Tryz.func22 (fun _ _=>by kernel_rfl) rfl fun v vals x z ha hz=>(qzero_i x).trans (Zau hz)
end Go.Eng
set_option maxRecDepth 100000
set_option maxHeartbeats 4000000
namespace Go.Eng
open Go.Proofs Go.RowKit
noncomputable def ZWe:FuncId×Con:=(55,⟨[.leaf 0],[.leaf 0],fun p=>ZNc p⟩)
theorem under_i (d:Nat):Zm ⟨Tryz.prog,[(39,0),(41,2),(43,3)],[Z6e],[],[],[],[],[]⟩ [] Tryz.f55 .no [.leaf 0] [.leaf 0] (d)=Zyo d:=by kernel_rfl
theorem Z8l:Zl Tryz.prog ZWe.1 ZWe.2:=Zp (C:=⟨Tryz.prog,[(39,0),(41,2),(43,3)],[Z6e],[],[],[],[],[]⟩) ⟨Zjm,trivial⟩ trivial trivial trivial (inl:=[]) trivial (ann:=.no) Tryz.func55 (fun _ _=>by kernel_rfl) rfl fun v vals x z ha hz=>(under_i x).trans (Zqv hz)
end Go.Eng
set_option maxRecDepth 100000
set_option maxHeartbeats 4000000
namespace Go.Eng
open Go.Proofs Go.RowKit
noncomputable def Zol:FuncId×Con:=(106,⟨[.int .u64,.int .u64],[.int .u64,.int .u64],fun p=>Zsc p.1 p.2⟩)
theorem mul64_i (x:Int) (y:Int):Zm ⟨Tryz.prog,[],[],[],[],[],[],[]⟩ [] Tryz.f106 .no [.int .u64,.int .u64] [.int .u64,.int .u64] (x,y)=Zrh x y:=by kernel_rfl
theorem mul64_k:Zl Tryz.prog Zol.1 Zol.2:=Zp (C:=⟨Tryz.prog,[],[],[],[],[],[],[]⟩) trivial trivial trivial trivial (inl:=[]) trivial (ann:=.no) Tryz.func106 (fun _ _=>by kernel_rfl) rfl fun v vals x z ha hz=>(mul64_i x.1 x.2).trans (Zqp hz)
end Go.Eng
set_option maxRecDepth 100000
set_option maxHeartbeats 4000000
namespace Go.Eng
open Go.Proofs Go.RowKit
noncomputable def ZOg:FuncId×Con:=(107,⟨[.int .u64,.int .u64,.int .u64],[.int .u64,.int .u64],fun p=>Ztb p.1 p.2.1 p.2.2⟩)
theorem ZHq:Zl Tryz.prog ZOg.1 ZOg.2:=fun w v vals x z _ ha hz=>by
 obtain ⟨c0,w0,e0,p0,c1,w1,e1,p1,c2,e2,p2⟩:=ha
 subst e0 e1 e2
 obtain ⟨rfl,h0⟩:=p0
 obtain ⟨rfl,h1⟩:=p1
 obtain ⟨rfl,h2⟩:=p2
 have p0:(Zd .u64).rel v [.int .u64 x.1] x.1:=⟨rfl,h0⟩
 have p1:(Zd .u64).rel v [.int .u64 x.2.1] x.2.1:=⟨rfl,h1⟩
 exact .inr ⟨.tuple #[.int .u64 z.1,.int .u64 z.2],fun w=>ZQm (show Z2e Tryz.prog 107 add64Entry from ⟨_,Tryz.func107,by kernel_rfl,by kernel_rfl,by kernel_rfl,by kernel_rfl⟩) hz w,_,rfl,_,_,rfl,⟨rfl,Znm hz⟩,_,rfl,⟨rfl,addW_hi p0.2 p1.2 hz⟩⟩
end Go.Eng
set_option maxRecDepth 100000
set_option maxHeartbeats 4000000
namespace Go.Eng
open Go.Proofs Go.RowKit
noncomputable def ZPc:FuncId×Con:=(59,⟨[.leaf 0,.leaf 0],[.leaf 0],fun p=>Zhc p.1 p.2⟩)
theorem times_i (a:Nat) (b:Nat):Zm ⟨Tryz.prog,[(39,0)],[ZUg,Zol,ZOg,Zjf],[],[],[],[],[]⟩ [] Tryz.f59 (.two .no (.two .no (.two .no (.two .no (.two (.two .no (.cut ⟨⟨[],[],[]⟩,[(.norm,⟨[],[],[.s 5 (.own 148 (.int .u64))]⟩)]⟩ (.two (.cut ⟨⟨[1,26,27],[],[.s 5 (.own 148 (.int .u64)),.s 28 (.dat (.int .i64))]⟩,[(.exit 0,⟨[],[],[.s 5 (.own 148 (.int .u64))]⟩)]⟩ (.two (.two .no (.two .no (.two (.two (.two .no (.two .no (.two (.two .no (.cut ⟨⟨[],[],[]⟩,[(.norm,⟨[1,6,26,27,28],[],[.s 5 (.own 148 (.int .u64)),.s 8 (.dat (.int .u64))]⟩)]⟩ (.two (.cut ⟨⟨[1,6,7,26,27,28,33,34],[],[.s 5 (.own 148 (.int .u64)),.s 8 (.dat (.int .u64)),.s 35 (.dat (.int .i64))]⟩,[(.exit 2,⟨[1,6,26,27,28],[],[.s 5 (.own 148 (.int .u64)),.s 8 (.dat (.int .u64))]⟩)]⟩ .no) .no))) .no))) .no) .no))) .no)) .no))) .no))))) [.leaf 0,.leaf 0] [.leaf 0] (a,b)=Zgk a b:=by kernel_rfl
theorem ZOi:Zl Tryz.prog ZPc.1 ZPc.2:=Zp (C:=⟨Tryz.prog,[(39,0)],[ZUg,Zol,ZOg,Zjf],[],[],[],[],[]⟩) ⟨Zir,mul64_k,ZHq,cut_k,trivial⟩ trivial trivial trivial (inl:=[]) trivial (ann:=.two .no (.two .no (.two .no (.two .no (.two (.two .no (.cut ⟨⟨[],[],[]⟩,[(.norm,⟨[],[],[.s 5 (.own 148 (.int .u64))]⟩)]⟩ (.two (.cut ⟨⟨[1,26,27],[],[.s 5 (.own 148 (.int .u64)),.s 28 (.dat (.int .i64))]⟩,[(.exit 0,⟨[],[],[.s 5 (.own 148 (.int .u64))]⟩)]⟩ (.two (.two .no (.two .no (.two (.two (.two .no (.two .no (.two (.two .no (.cut ⟨⟨[],[],[]⟩,[(.norm,⟨[1,6,26,27,28],[],[.s 5 (.own 148 (.int .u64)),.s 8 (.dat (.int .u64))]⟩)]⟩ (.two (.cut ⟨⟨[1,6,7,26,27,28,33,34],[],[.s 5 (.own 148 (.int .u64)),.s 8 (.dat (.int .u64)),.s 35 (.dat (.int .i64))]⟩,[(.exit 2,⟨[1,6,26,27,28],[],[.s 5 (.own 148 (.int .u64)),.s 8 (.dat (.int .u64))]⟩)]⟩ .no) .no))) .no))) .no) .no))) .no)) .no))) .no))))) Tryz.func59 (fun _ _=>by kernel_rfl) rfl fun v vals x z ha hz=>(times_i x.1 x.2).trans (ZDs hz)
end Go.Eng
set_option maxRecDepth 100000
set_option maxHeartbeats 4000000
namespace Go.Eng
open Go.Proofs Go.RowKit
noncomputable def Z0l:FuncId×Con:=(70,⟨[.leaf 2,.leaf 2],[.leaf 2],fun p=>ZPi p.1 p.2⟩)
theorem Zzv (x:Int) (y:Int):Zm ⟨Tryz.prog,[(39,0),(41,2),(43,3)],[ZPc,Zcc],[],[],[],[],[]⟩ [] Tryz.f70 .no [.leaf 2,.leaf 2] [.leaf 2] (x,y)=Znn x y:=by kernel_rfl
theorem ZCv:Zl Tryz.prog Z0l.1 Z0l.2:=Zp (C:=⟨Tryz.prog,[(39,0),(41,2),(43,3)],[ZPc,Zcc],[],[],[],[],[]⟩) ⟨ZOi,Zoh,trivial⟩ trivial trivial trivial (inl:=[]) trivial (ann:=.no) Tryz.func70 (fun _ _=>by kernel_rfl) rfl fun v vals x z ha hz=>(Zzv x.1 x.2).trans (ZNw hz)
end Go.Eng
set_option maxRecDepth 100000
set_option maxHeartbeats 4000000
namespace Go.Eng
open Go.Proofs Go.RowKit
noncomputable def ZGc:FuncId×Con:=(30,⟨[.leaf 3,.leaf 3],[.leaf 3],fun p=>Zhb p.1 p.2⟩)
theorem qmul_i (x:Rat) (y:Rat):Zm ⟨Tryz.prog,[(39,0),(41,2),(43,3)],[ZWe,Zmd,ZPc,Z0l],[],[],[],[],[]⟩ [] Tryz.f30 .no [.leaf 3,.leaf 3] [.leaf 3] (x,y)=Z0m x y:=by kernel_rfl
theorem ZTi:Zl Tryz.prog ZGc.1 ZGc.2:=Zp (C:=⟨Tryz.prog,[(39,0),(41,2),(43,3)],[ZWe,Zmd,ZPc,Z0l],[],[],[],[],[]⟩) ⟨Z8l,ZMk,ZOi,ZCv,trivial⟩ trivial trivial trivial (inl:=[]) trivial (ann:=.no) Tryz.func30 (fun _ _=>by kernel_rfl) rfl fun v vals x z ha hz=>(qmul_i x.1 x.2).trans (Zox hz)
end Go.Eng
set_option maxRecDepth 100000
set_option maxHeartbeats 4000000
namespace Go.Eng
open Go.Proofs Go.RowKit
noncomputable def ZOk:FuncId×Con:=(215,⟨[.leaf 3,.leaf 3],[.leaf 3],fun p=>Z1i p.1 p.2⟩)
theorem qOf_i (x:Rat) (y:Rat):Zm ⟨Tryz.prog,[(39,0),(41,2),(43,3),(91,1),(93,4)],[],[],[],[],[],[]⟩ [] Tryz.f215 .no [.leaf 3,.leaf 3] [.leaf 3] (x,y)=Z1i x y:=by kernel_rfl
theorem qOf_k:Zl Tryz.prog ZOk.1 ZOk.2:=Zp (C:=⟨Tryz.prog,[(39,0),(41,2),(43,3),(91,1),(93,4)],[],[],[],[],[],[]⟩) trivial trivial trivial trivial (inl:=[]) trivial (ann:=.no) Tryz.func215 (fun _ _=>by kernel_rfl) rfl (fun v vals x z ha hz=>(qOf_i x.1 x.2).trans hz)
end Go.Eng
set_option maxRecDepth 100000
namespace Go.Eng
open Go.Proofs Go.RowKit
theorem ZEm : ∀ y w, (method (Tryz.prog.types.size + Made.depth) 43 y "Add").run Tryz.prog w = .ok (23, y) w := fun _ _ => by kernel_rfl
theorem Z7p : ∀ y w, (method (Tryz.prog.types.size + Made.depth) 43 y "Cmp").run Tryz.prog w = .ok (31, y) w := fun _ _ => by kernel_rfl
theorem Zts : ∀ y w, (method (Tryz.prog.types.size + Made.depth) 43 y "Conj").run Tryz.prog w = .ok (212, y) w := fun _ _ => by kernel_rfl
theorem ZIq : ∀ y w, (method (Tryz.prog.types.size + Made.depth) 43 y "Div").run Tryz.prog w = .ok (213, y) w := fun _ _ => by kernel_rfl
theorem ZFj : ∀ y w, (method (Tryz.prog.types.size + Made.depth) 43 y "Mul").run Tryz.prog w = .ok (30, y) w := fun _ _ => by kernel_rfl
theorem Zik : ∀ y w, (method (Tryz.prog.types.size + Made.depth) 43 y "Neg").run Tryz.prog w = .ok (117, y) w := fun _ _ => by kernel_rfl
theorem Zpv : ∀ y w, (method (Tryz.prog.types.size + Made.depth) 43 y "Of").run Tryz.prog w = .ok (215, y) w := fun _ _ => by kernel_rfl
theorem Znw : ∀ y w, (method (Tryz.prog.types.size + Made.depth) 43 y "Same").run Tryz.prog w = .ok (24, y) w := fun _ _ => by kernel_rfl
theorem Zon : ∀ y w, (method (Tryz.prog.types.size + Made.depth) 43 y "Sign").run Tryz.prog w = .ok (72, y) w := fun _ _ => by kernel_rfl
theorem ZYr : ∀ y w, (method (Tryz.prog.types.size + Made.depth) 43 y "Sub").run Tryz.prog w = .ok (71, y) w := fun _ _ => by kernel_rfl
theorem Z9i : ∀ y w, (method (Tryz.prog.types.size + Made.depth) 43 y "Zero").run Tryz.prog w = .ok (22, y) w := fun _ _ => by kernel_rfl
end Go.Eng
set_option maxRecDepth 100000
set_option maxHeartbeats 4000000
namespace Go.Eng
open Go.Proofs Go.RowKit
noncomputable def Z7b:FuncId×Con:=(50,⟨[.int .i64],[.leaf 3],fun p=>ZLb p⟩)
theorem Zlw (n : Int) : Zm ⟨Tryz.prog, [(39, 0), (41, 2), (43, 3), (91, 1), (93, 4)], [ZYg, ZOk], [], [], [], [((43, "Of"), 215)], []⟩ [] Tryz.f50 .no [.int .i64] [.leaf 3] (n) = ZLb n := by kernel_rfl
theorem Zih : Zl Tryz.prog Z7b.1 Z7b.2 := Zp (C := ⟨Tryz.prog, [(39, 0), (41, 2), (43, 3), (91, 1), (93, 4)], [ZYg, ZOk], [], [], [], [((43, "Of"), 215)], []⟩) ⟨Zsp, qOf_k, trivial⟩ trivial trivial ⟨Zpv, trivial⟩ (inl := []) trivial (ann := .no) Tryz.func50 (fun _ _ => by kernel_rfl) rfl (fun v vals x z ha hz => (Zlw x).trans hz)
end Go.Eng
set_option maxRecDepth 100000
set_option maxHeartbeats 4000000
namespace Go.Eng
open Go.Proofs Go.RowKit
noncomputable def Zwg:FuncId×Con:=(57,⟨[.leaf 2,.leaf 0],[.leaf 2],fun p=>ZSe p.1 p.2⟩)
theorem Ztt (x:Int) (n:Nat):Zm ⟨Tryz.prog,[(39,0),(41,2),(43,3)],[ZPc,Zcc],[],[],[],[],[]⟩ [] Tryz.f57 .no [.leaf 2,.leaf 0] [.leaf 2] (x,n)=ZFo x n:=by kernel_rfl
theorem Z8p:Zl Tryz.prog Zwg.1 Zwg.2:=Zp (C:=⟨Tryz.prog,[(39,0),(41,2),(43,3)],[ZPc,Zcc],[],[],[],[],[]⟩) ⟨ZOi,Zoh,trivial⟩ trivial trivial trivial (inl:=[]) trivial (ann:=.no) Tryz.func57 (fun _ _=>by kernel_rfl) rfl fun v vals x z ha hz=>(Ztt x.1 x.2).trans (Zpw hz)
end Go.Eng
set_option maxRecDepth 100000
set_option maxHeartbeats 4000000
namespace Go.Eng
open Go.Proofs Go.RowKit
noncomputable def ZFg:FuncId×Con:=(60,⟨[.leaf 0,.leaf 0],[.int .i64],fun p=>ZWc p.1 p.2⟩)
theorem cmp_i (a:(List Int)) (b:(List Int)):Zm ⟨Tryz.prog,[],[],[],[],[],[],[]⟩ [] Tryz.f60 (.two .no (.two .no (.two (.two .no (.cut ⟨⟨[],[],[]⟩,[(.norm,⟨[],[],[]⟩),(.ret,⟨[],[],[.s 1000 (.dat (.int .i64))]⟩)]⟩ (.two (.cut ⟨⟨[0,1],[],[.s 5 (.dat (.int .i64))]⟩,[(.ret,⟨[],[],[.s 1000 (.dat (.int .i64))]⟩),(.exit 0,⟨[],[],[]⟩)]⟩ .no) .no))) .no))) [.slice (.int .u64),.slice (.int .u64)] [.int .i64] (a,b)=ZIh a b:=by kernel_rfl
theorem cmp_k:Zl Tryz.prog ZFg.1 ZFg.2:=Zhj (C:=⟨Tryz.prog,[],[],[],[],[],[],[]⟩) trivial trivial trivial trivial (inl:=[]) trivial (ann:=.two .no (.two .no (.two (.two .no (.cut ⟨⟨[],[],[]⟩,[(.norm,⟨[],[],[]⟩),(.ret,⟨[],[],[.s 1000 (.dat (.int .i64))]⟩)]⟩ (.two (.cut ⟨⟨[0,1],[],[.s 5 (.dat (.int .i64))]⟩,[(.ret,⟨[],[],[.s 1000 (.dat (.int .i64))]⟩),(.exit 0,⟨[],[],[]⟩)]⟩ .no) .no))) .no))) (ats:=[.slice (.int .u64),.slice (.int .u64)]) (rts:=[.int .i64]) (fun x=>((Zc 18446744073709551616 x.1),(Zc 18446744073709551616 x.2))) (fun z=>z) (fun _ _ _ h=>h) (fun _ _ _ h=>h) Tryz.func60 (fun _ _=>by kernel_rfl) rfl fun v vals x z ha hz=>by obtain ⟨c0,w0,e0,p0,c1,e1,p1⟩:=ha;exact (cmp_i (Zc 18446744073709551616 x.1) (Zc 18446744073709551616 x.2)).trans ((ZBq (ZOj p0) (ZOj p1)).trans hz)
end Go.Eng
set_option maxRecDepth 100000
set_option maxHeartbeats 4000000
namespace Go.Eng
open Go.Proofs Go.RowKit
noncomputable def Z0k:FuncId×Con:=(104,⟨[.leaf 0,.leaf 0],[.leaf 0],fun p=>Zbi p.1 p.2⟩)
theorem plus_i (a:Nat) (b:Nat):Zm ⟨Tryz.prog,[(39,0)],[ZOg],[],[],[],[],[]⟩ [] Tryz.f104 (.two .no (.two (.two .no (.cut ⟨⟨[],[],[]⟩,[(.norm,⟨[],[],[.s 0 (.dat (.leaf 0)),.s 1 (.dat (.leaf 0))]⟩)]⟩ .no)) (.two .no (.two .no (.two (.two .no (.cut ⟨⟨[],[],[]⟩,[(.norm,⟨[],[],[.s 5 (.own 148 (.int .u64)),.s 6 (.dat (.int .u64))]⟩)]⟩ (.two (.cut ⟨⟨[1,23,24],[],[.s 5 (.own 148 (.int .u64)),.s 6 (.dat (.int .u64)),.s 25 (.dat (.int .i64))]⟩,[(.exit 0,⟨[],[],[.s 5 (.own 148 (.int .u64)),.s 6 (.dat (.int .u64))]⟩)]⟩ (.two (.two .no (.two .no (.two (.two (.two .no (.two .no (.two (.two .no (.cut ⟨⟨[],[],[]⟩,[(.norm,⟨[1,5,6,7,8,23,24,25],[],[.s 9 (.dat (.int .u64))]⟩)]⟩ .no)) .no))) .no) .no))) .no)) .no))) (.two (.two .no (.cut ⟨⟨[],[],[]⟩,[(.norm,⟨[],[],[.s 5 (.own 148 (.int .u64))]⟩)]⟩ .no)) .no)))))) [.leaf 0,.leaf 0] [.leaf 0] (a,b)=Zxk a b:=by kernel_rfl
theorem plus_k:Zl Tryz.prog Z0k.1 Z0k.2:=Zp (C:=⟨Tryz.prog,[(39,0)],[ZOg],[],[],[],[],[]⟩) ⟨ZHq,trivial⟩ trivial trivial trivial (inl:=[]) trivial (ann:=.two .no (.two (.two .no (.cut ⟨⟨[],[],[]⟩,[(.norm,⟨[],[],[.s 0 (.dat (.leaf 0)),.s 1 (.dat (.leaf 0))]⟩)]⟩ .no)) (.two .no (.two .no (.two (.two .no (.cut ⟨⟨[],[],[]⟩,[(.norm,⟨[],[],[.s 5 (.own 148 (.int .u64)),.s 6 (.dat (.int .u64))]⟩)]⟩ (.two (.cut ⟨⟨[1,23,24],[],[.s 5 (.own 148 (.int .u64)),.s 6 (.dat (.int .u64)),.s 25 (.dat (.int .i64))]⟩,[(.exit 0,⟨[],[],[.s 5 (.own 148 (.int .u64)),.s 6 (.dat (.int .u64))]⟩)]⟩ (.two (.two .no (.two .no (.two (.two (.two .no (.two .no (.two (.two .no (.cut ⟨⟨[],[],[]⟩,[(.norm,⟨[1,5,6,7,8,23,24,25],[],[.s 9 (.dat (.int .u64))]⟩)]⟩ .no)) .no))) .no) .no))) .no)) .no))) (.two (.two .no (.cut ⟨⟨[],[],[]⟩,[(.norm,⟨[],[],[.s 5 (.own 148 (.int .u64))]⟩)]⟩ .no)) .no)))))) Tryz.func104 (fun _ _=>by kernel_rfl) rfl fun v vals x z ha hz=>(plus_i x.1 x.2).trans (ZNt hz)
end Go.Eng
set_option maxRecDepth 100000
set_option maxHeartbeats 4000000
namespace Go.Eng
open Go.Proofs Go.RowKit
noncomputable def Zyj:FuncId×Con:=(146,⟨[.int .u64,.int .u64,.int .u64],[.int .u64,.int .u64],fun p=>Z8c p.1 p.2.1 p.2.2⟩)
theorem sub64_k:Zl Tryz.prog Zyj.1 Zyj.2:=fun w v vals x z _ ha hz=>by
 obtain ⟨c0,w0,e0,p0,c1,w1,e1,p1,c2,e2,p2⟩:=ha
 subst e0 e1 e2
 obtain ⟨rfl,h0⟩:=p0
 obtain ⟨rfl,h1⟩:=p1
 obtain ⟨rfl,h2⟩:=p2
 have p0:(Zd .u64).rel v [.int .u64 x.1] x.1:=⟨rfl,h0⟩
 have p1:(Zd .u64).rel v [.int .u64 x.2.1] x.2.1:=⟨rfl,h1⟩
 exact .inr ⟨.tuple #[.int .u64 z.1,.int .u64 z.2],fun w=>Z3q (show Z2e Tryz.prog 146 Zjk from ⟨_,Tryz.func146,by kernel_rfl,by kernel_rfl,by kernel_rfl,by kernel_rfl⟩) p0.2 p1.2 hz w,_,rfl,_,_,rfl,⟨rfl,Zdq hz⟩,_,rfl,⟨rfl,Zar hz⟩⟩
end Go.Eng
set_option maxRecDepth 100000
set_option maxHeartbeats 4000000
namespace Go.Eng
open Go.Proofs Go.RowKit
noncomputable def ZEk:FuncId×Con:=(105,⟨[.leaf 0,.leaf 0],[.leaf 0],fun p=>Zfg p.1 p.2⟩)
theorem minus_i (a:Nat) (b:Nat):Zm ⟨Tryz.prog,[(39,0)],[Zjf,Zyj],[],[],[],[],[]⟩ [] Tryz.f105 (.two .no (.two .no (.two .no (.two (.two .no (.cut ⟨⟨[],[],[]⟩,[(.norm,⟨[],[],[.s 5 (.own 148 (.int .u64))]⟩)]⟩ (.two (.cut ⟨⟨[1,13,14],[],[.s 5 (.own 148 (.int .u64)),.s 6 (.dat (.int .u64)),.s 15 (.dat (.int .i64))]⟩,[(.exit 0,⟨[],[],[.s 5 (.own 148 (.int .u64))]⟩)]⟩ (.two (.two .no (.two .no (.two (.two (.two .no (.two .no (.two (.two .no (.cut ⟨⟨[],[],[]⟩,[(.norm,⟨[1,5,6,7,8,13,14,15],[],[.s 9 (.dat (.int .u64))]⟩)]⟩ .no)) .no))) .no) .no))) .no)) .no))) .no)))) [.leaf 0,.leaf 0] [.leaf 0] (a,b)=Ztk a b:=by kernel_rfl
theorem minus_k:Zl Tryz.prog ZEk.1 ZEk.2:=Zp (C:=⟨Tryz.prog,[(39,0)],[Zjf,Zyj],[],[],[],[],[]⟩) ⟨cut_k,sub64_k,trivial⟩ trivial trivial trivial (inl:=[]) trivial (ann:=.two .no (.two .no (.two .no (.two (.two .no (.cut ⟨⟨[],[],[]⟩,[(.norm,⟨[],[],[.s 5 (.own 148 (.int .u64))]⟩)]⟩ (.two (.cut ⟨⟨[1,13,14],[],[.s 5 (.own 148 (.int .u64)),.s 6 (.dat (.int .u64)),.s 15 (.dat (.int .i64))]⟩,[(.exit 0,⟨[],[],[.s 5 (.own 148 (.int .u64))]⟩)]⟩ (.two (.two .no (.two .no (.two (.two (.two .no (.two .no (.two (.two .no (.cut ⟨⟨[],[],[]⟩,[(.norm,⟨[1,5,6,7,8,13,14,15],[],[.s 9 (.dat (.int .u64))]⟩)]⟩ .no)) .no))) .no) .no))) .no)) .no))) .no)))) Tryz.func105 (fun _ _=>by kernel_rfl) rfl fun v vals x z ha hz=>(minus_i x.1 x.2).trans (Zxw hz)
end Go.Eng
set_option maxRecDepth 100000
set_option maxHeartbeats 4000000
namespace Go.Eng
open Go.Proofs Go.RowKit
noncomputable def Zyl:FuncId×Con:=(58,⟨[.leaf 2,.leaf 2],[.leaf 2],fun p=>ZKh p.1 p.2⟩)
theorem iplus_i (x:Int) (y:Int):Zm ⟨Tryz.prog,[(39,0),(41,2),(43,3)],[ZFg,Zcc,Z0k,ZEk],[],[],[],[],[]⟩ [] Tryz.f58 .no [.leaf 2,.leaf 2] [.leaf 2] (x,y)=Z6l x y:=by kernel_rfl
theorem iplus_k:Zl Tryz.prog Zyl.1 Zyl.2:=Zp (C:=⟨Tryz.prog,[(39,0),(41,2),(43,3)],[ZFg,Zcc,Z0k,ZEk],[],[],[],[],[]⟩) ⟨cmp_k,Zoh,plus_k,minus_k,trivial⟩ trivial trivial trivial (inl:=[]) trivial (ann:=.no) Tryz.func58 (fun _ _=>by kernel_rfl) rfl fun v vals x z ha hz=>(iplus_i x.1 x.2).trans (Zrx hz)
end Go.Eng
set_option maxRecDepth 100000
set_option maxHeartbeats 4000000
namespace Go.Eng
open Go.Proofs Go.RowKit
noncomputable def Z4b:FuncId×Con:=(23,⟨[.leaf 3,.leaf 3],[.leaf 3],fun p=>Zkc p.1 p.2⟩)
theorem qadd_i (x:Rat) (y:Rat):Zm ⟨Tryz.prog,[(39,0),(41,2),(43,3)],[ZWe,Zmd,Zwg,Zyl,ZPc],[],[],[],[],[]⟩ [] Tryz.f23 .no [.leaf 3,.leaf 3] [.leaf 3] (x,y)=ZSn x y:=by kernel_rfl
theorem Zug:Zl Tryz.prog Z4b.1 Z4b.2:=Zp (C:=⟨Tryz.prog,[(39,0),(41,2),(43,3)],[ZWe,Zmd,Zwg,Zyl,ZPc],[],[],[],[],[]⟩) ⟨Z8l,ZMk,Z8p,iplus_k,ZOi,trivial⟩ trivial trivial trivial (inl:=[]) trivial (ann:=.no) Tryz.func23 (fun _ _=>by kernel_rfl) rfl fun v vals x z ha hz=>(qadd_i x.1 x.2).trans (Zew hz)
end Go.Eng
set_option maxRecDepth 100000
set_option maxHeartbeats 4000000
namespace Go.Eng
open Go.Proofs Go.RowKit
noncomputable def ZMl:FuncId×Con:=(157,⟨[.leaf 2],[.leaf 2],fun p=>Zpi p⟩)
theorem Zkv (x:Int):Zm ⟨Tryz.prog,[(39,0),(41,2),(43,3)],[Zcc],[],[],[],[],[]⟩ [] Tryz.f157 .no [.leaf 2] [.leaf 2] (x)=Zum x:=by kernel_rfl
theorem Zzs:Zl Tryz.prog ZMl.1 ZMl.2:=Zp (C:=⟨Tryz.prog,[(39,0),(41,2),(43,3)],[Zcc],[],[],[],[],[]⟩) ⟨Zoh,trivial⟩ trivial trivial trivial (inl:=[]) trivial (ann:=.no) Tryz.func157 (fun _ _=>by kernel_rfl) rfl fun v vals x z ha hz=>(Zkv x).trans (ZMs hz)
end Go.Eng
set_option maxRecDepth 100000
set_option maxHeartbeats 4000000
namespace Go.Eng
open Go.Proofs Go.RowKit
noncomputable def Zzc:FuncId×Con:=(117,⟨[.leaf 3],[.leaf 3],fun p=>Zuc p⟩)
theorem qneg_i (x:Rat):Zm ⟨Tryz.prog,[(39,0),(41,2),(43,3)],[ZMl],[],[],[],[],[]⟩ [] Tryz.f117 .no [.leaf 3] [.leaf 3] (x)=Zan x:=by kernel_rfl
theorem ZZh:Zl Tryz.prog Zzc.1 Zzc.2:=Zp (C:=⟨Tryz.prog,[(39,0),(41,2),(43,3)],[ZMl],[],[],[],[],[]⟩) ⟨Zzs,trivial⟩ trivial trivial trivial (inl:=[]) trivial (ann:=.no) Tryz.func117 (fun _ _=>by kernel_rfl) rfl fun v vals x z ha hz=>(qneg_i x).trans (Ztv hz)
end Go.Eng
set_option maxRecDepth 100000
set_option maxHeartbeats 4000000
namespace Go.Eng
open Go.Proofs Go.RowKit
noncomputable def Zdf:FuncId×Con:=(71,⟨[.leaf 3,.leaf 3],[.leaf 3],fun p=>Zld p.1 p.2⟩)
theorem qsub_i (x:Rat) (y:Rat):Zm ⟨Tryz.prog,[(39,0),(41,2),(43,3)],[Z4b,Zzc],[],[],[],[],[]⟩ [] Tryz.f71 .no [.leaf 3,.leaf 3] [.leaf 3] (x,y)=ZPn x y:=by kernel_rfl
theorem Z2n:Zl Tryz.prog Zdf.1 Zdf.2:=Zp (C:=⟨Tryz.prog,[(39,0),(41,2),(43,3)],[Z4b,Zzc],[],[],[],[],[]⟩) ⟨Zug,ZZh,trivial⟩ trivial trivial trivial (inl:=[]) trivial (ann:=.no) Tryz.func71 (fun _ _=>by kernel_rfl) rfl fun v vals x z ha hz=>(qsub_i x.1 x.2).trans (ZLw hz)
end Go.Eng
namespace Go.Eng
open Go.Proofs Go.RowKit
set_option maxRecDepth 100000
theorem Zlr:Elem Tryz.prog 30 43 (Zdb).n 56 (Value.agg #[Value.bool false,Value.slice none 0 0,Value.slice none 0 0]):=⟨Tryz.underlying30,by kernel_rfl,rfl,by decide⟩
noncomputable def Zud:FuncId×ConO:=(138,⟨[.slice (.leaf 3)],43,.leaf 3,fun p=>Zed 56 p⟩)
theorem Z5i:ZHe Tryz.prog Zud.1 Zud.2:=fun w v vals x z hv ha hz=>by
 obtain ⟨cs,rfl,p0⟩:=ha
 have hz:Zed 56 (show List Rat from x)=some z:=hz
 obtain ⟨hb,rfl⟩:=ZSu hz
 obtain ⟨q,n,c,rfl⟩:=ZPf (show (Zu Zdb).rel v cs z from p0)
 refine ⟨fun _ _=>by kernel_rfl,?_⟩
 have hn:n=(show List Rat from z).length:=by obtain ⟨_,_,e,_⟩:=p0;cases e;rfl
 refine ZCl (K:=8) (args:=[.slice q n c]) hv Tryz.func138 rfl rfl zl fun fa hS=>?_
 refine sr ?_
 refine mw hS rfl fun fa hS=>?_
 refine oe ?_
 refine wp_seq_k fun N1 hN1=>?_
 refine sr ?_
 refine mv hS rfl fun fa hS=>?_
 refine ov hS rfl (Zcw hS Tryz.underlying30 rfl rfl) fun fa hS=>?_
 refine oe ?_
 cases q with
 | none =>
  refine ZU hS rfl rfl ?_
  have hx:(show List Rat from z)=[]:=by
   obtain ⟨q',c',e,_,_,h3⟩:=p0
   cases e
   rcases h3 with h3 | ⟨_,_,_,_,_,h4,_⟩
   ·exact h3
   ·cases h4
  have hx0:n=0:=by rw [hn,hx];rfl
  refine sr ?_;refine mw hS rfl fun fa hS=>?_;refine oe ?_;refine wp_ret ?_;refine ZXa ?_;have hS2:=hS.nilLoc 43 (Zdb).n;have:=Z3n (P:=Tryz.prog) (A:=Zdb) hS2 (i:=0) (ob:=none) (n:=0) (cap:=0) (cs:=[]) rfl (ZLa (fn:=Tryz.f138) (r:=.tmp 2) rfl (ZT (t:=2) (y:=.slice (mkA none) 0 0) hS2 rfl)) (l:=([]:List Rat)) Zxe rfl;rw [hx];exact this
 | some ad =>
  refine ZO hS rfl rfl ?_;refine wp_skip ?_;refine Zf (hN1 _ _ ?_);refine sr ?_;obtain ⟨b,wo,hrun,hS⟩:=ZIt Zlr hS;refine Zyb wn rfl zl hrun hS fun fa hS=>?_;refine mv hS rfl fun fa hS=>?_;obtain ⟨b',cap',cs2,wo,hr,hS',hrel⟩:=ZXf (ty:=30) (A:=Zdb) Zlr hS (i:=0) rfl (Rep.mono (Zu Zdb) hS.vst.le p0) (n':=n) (by omega) (by rw [hn];exact hb) (by decide);refine Zyb wn rfl zl (Zwe hS rfl rfl hr) hS' fun fa hS=>?_;refine mw hS rfl fun fa hS=>?_;refine oe ?_;refine wp_ret ?_;exact Z3n hS (i:=0) rfl (ZLa rfl (ZT hS rfl)) hrel hn
end Go.Eng
set_option maxRecDepth 100000
set_option maxHeartbeats 4000000
namespace Go.Eng
open Go.Proofs Go.RowKit
noncomputable def Zhg:FuncId×Con:=(213,⟨[.leaf 3,.leaf 3],[.leaf 3,.int .i64],fun p=>Zkf p.1 p.2⟩)
theorem qdiv_i (x:Rat) (y:Rat):Zm ⟨Tryz.prog,[(39,0),(41,2),(43,3)],[Z3b,ZWe,Zmd,Zwg,ZPc,Zcc],[],[],[],[],[]⟩ [] Tryz.f213 (.two .no (.two .no (.two (.cut ⟨⟨[],[],[]⟩,[(.norm,⟨[2,3,4],[],[.s 6 (.box 41 (.dat (.leaf 2)))]⟩)]⟩ .no) .no))) [.leaf 3,.leaf 3] [.leaf 3,.int .i64] (x,y)=ZWm x y:=by kernel_rfl
theorem ZZr:Zl Tryz.prog Zhg.1 Zhg.2:=Zp (C:=⟨Tryz.prog,[(39,0),(41,2),(43,3)],[Z3b,ZWe,Zmd,Zwg,ZPc,Zcc],[],[],[],[],[]⟩) ⟨Zbh,Z8l,ZMk,Z8p,ZOi,Zoh,trivial⟩ trivial trivial trivial (inl:=[]) trivial (ann:=.two .no (.two .no (.two (.cut ⟨⟨[],[],[]⟩,[(.norm,⟨[2,3,4],[],[.s 6 (.box 41 (.dat (.leaf 2)))]⟩)]⟩ .no) .no))) Tryz.func213 (fun _ _=>by kernel_rfl) rfl fun v vals x z ha hz=>(qdiv_i x.1 x.2).trans (ZBw hz)
end Go.Eng
set_option maxRecDepth 100000
set_option maxHeartbeats 4000000
namespace Go.Eng
open Go.Proofs Go.RowKit
noncomputable def Zmf:FuncId×Con:=(44,⟨[.slice (.slice (.leaf 3))],[.slice (.slice (.leaf 3)),.slice (.int .i64),.leaf 3],fun p=>ZQe p⟩)
theorem Z8t (m : List (List Rat)) : Zm ⟨Tryz.prog, [(39, 0), (41, 2), (43, 3), (91, 1), (93, 4)], [Z3b, ZGc, Z7b, Zdf, Zzc, Zhg], [8], [Zud], [], [((43, "Div"), 213), ((43, "Mul"), 30), ((43, "Neg"), 117), ((43, "Sub"), 71), ((43, "Zero"), 22)], []⟩ [(47, Tryz.f47, .cut ⟨⟨[], [], []⟩, [(.ret, ⟨[], [], [.s 1000 (.dat (.int .i64))]⟩)]⟩ .no), (95, Tryz.f95, .two .no (.two .no (.two (.two .no (.two (.cut ⟨⟨[3, 9, 10], [], [.s 11 (.dat (.int .i64)), .l (.sl 3) (.mat 30 43 (.leaf 3))]⟩, [(.exit 0, ⟨[3], [], [.l (.sl 3) (.mat 30 43 (.leaf 3))]⟩)]⟩ .no) .no)) .no)))] Tryz.f44 (.two .no (.two .no (.two .no (.two .no (.two (.two .no (.two (.cut ⟨⟨[0, 4, 6, 19], [], [.s 5 (.own 3 (.int .i64)), .s 20 (.dat (.int .i64)), .l (.sl 0) (.mat 30 43 (.leaf 3)), .l (.sl 6) (.box 43 (.dat (.leaf 3)))]⟩, [(.exit 0, ⟨[0, 4, 6], [], [.s 5 (.own 3 (.int .i64)), .l (.sl 0) (.mat 30 43 (.leaf 3)), .l (.sl 6) (.box 43 (.dat (.leaf 3)))]⟩)]⟩ (.two (.two .no (.two .no (.two (.cut ⟨⟨[], [], []⟩, [(.norm, ⟨[0, 4, 6, 19, 20], [], [.s 5 (.own 3 (.int .i64)), .l (.sl 0) (.mat 30 43 (.leaf 3)), .l (.sl 6) (.box 43 (.dat (.leaf 3)))]⟩)]⟩ (.two (.two .no (.two .no (.two .no (.two (.two (.cut ⟨⟨[0, 4, 5, 6, 7, 8, 19, 20], [], [.s 9 (.dat (.int .i64))]⟩, [(.exit 2, ⟨[0, 4, 5, 6, 7, 8, 19, 20], [], [.s 9 (.dat (.int .i64))]⟩)]⟩ (.two (.two (.two (.cut ⟨⟨[], [], []⟩, [(.norm, ⟨[0, 4, 5, 6, 7, 8, 9, 19, 20], [], [.s 40 (.dat .bool)]⟩)]⟩ .no) .no) .no) .no)) .no) (.two .no (.two (.two .no (.cut ⟨⟨[], [], []⟩, [(.norm, ⟨[0, 4, 5, 6, 7, 8, 19, 20], [], [.l (.sl 0) (.mat 30 43 (.leaf 3)), .l (.sl 6) (.box 43 (.dat (.leaf 3)))]⟩)]⟩ .no)) (.two .no (.two .no (.two (.two .no (.two (.cut ⟨⟨[0, 4, 5, 6, 7, 8, 10, 19, 20, 83], [], [.s 84 (.dat (.int .i64)), .l (.sl 0) (.mat 30 43 (.leaf 3))]⟩, [(.exit 4, ⟨[0, 4, 5, 6, 7, 8, 19, 20], [], [.l (.sl 0) (.mat 30 43 (.leaf 3))]⟩)]⟩ .no) .no)) (.two (.two .no (.two (.cut ⟨⟨[0, 4, 5, 6, 7, 8, 19, 20, 108], [], [.s 109 (.dat (.int .i64)), .l (.sl 0) (.mat 30 43 (.leaf 3))]⟩, [(.exit 6, ⟨[0, 4, 5, 6, 7, 19, 20], [], [.l (.sl 0) (.mat 30 43 (.leaf 3))]⟩)]⟩ (.two (.two .no (.two .no (.two (.cut ⟨⟨[], [], []⟩, [(.norm, ⟨[0, 4, 5, 6, 7, 8, 19, 20, 108, 109], [], [.l (.sl 0) (.mat 30 43 (.leaf 3))]⟩)]⟩ (.two (.two .no (.two .no (.two (.two (.cut ⟨⟨[], [], []⟩, [(.norm, ⟨[0, 4, 5, 6, 7, 8, 12, 13, 19, 20, 108, 109], [], [.s 126 (.dat .bool)]⟩)]⟩ .no) .no) (.two .no (.two (.cut ⟨⟨[0, 4, 5, 6, 7, 8, 12, 13, 19, 20, 108, 109, 131], [], [.s 132 (.dat (.int .i64)), .l (.sl 0) (.mat 30 43 (.leaf 3))]⟩, [(.exit 8, ⟨[0, 4, 5, 6, 7, 8, 19, 20, 108, 109], [], [.l (.sl 0) (.mat 30 43 (.leaf 3))]⟩)]⟩ .no) .no))))) .no)) .no))) .no)) .no)) .no)))))))))) .no)) .no))) .no)) .no)) .no))))) [.slice (.slice (.leaf 3))] [.slice (.slice (.leaf 3)), .slice (.int .i64), .leaf 3] (m) = ZQe m := by kernel_rfl
theorem Zzo : Zl Tryz.prog Zmf.1 Zmf.2 := Zp (C := ⟨Tryz.prog, [(39, 0), (41, 2), (43, 3), (91, 1), (93, 4)], [Z3b, ZGc, Z7b, Zdf, Zzc, Zhg], [8], [Zud], [], [((43, "Div"), 213), ((43, "Mul"), 30), ((43, "Neg"), 117), ((43, "Sub"), 71), ((43, "Zero"), 22)], []⟩) ⟨Zbh, ZTi, Zih, Z2n, ZZh, ZZr, trivial⟩ ⟨Z5i, trivial⟩ trivial ⟨ZIq, ZFj, Zik, ZYr, Z9i, trivial⟩ (inl := [(47, Tryz.f47, .cut ⟨⟨[], [], []⟩, [(.ret, ⟨[], [], [.s 1000 (.dat (.int .i64))]⟩)]⟩ .no), (95, Tryz.f95, .two .no (.two .no (.two (.two .no (.two (.cut ⟨⟨[3, 9, 10], [], [.s 11 (.dat (.int .i64)), .l (.sl 3) (.mat 30 43 (.leaf 3))]⟩, [(.exit 0, ⟨[3], [], [.l (.sl 3) (.mat 30 43 (.leaf 3))]⟩)]⟩ .no) .no)) .no)))]) ⟨⟨Tryz.func47, fun _ _ => by kernel_rfl⟩, ⟨Tryz.func95, fun _ _ => by kernel_rfl⟩, trivial⟩ (ann := (.two .no (.two .no (.two .no (.two .no (.two (.two .no (.two (.cut ⟨⟨[0, 4, 6, 19], [], [.s 5 (.own 3 (.int .i64)), .s 20 (.dat (.int .i64)), .l (.sl 0) (.mat 30 43 (.leaf 3)), .l (.sl 6) (.box 43 (.dat (.leaf 3)))]⟩, [(.exit 0, ⟨[0, 4, 6], [], [.s 5 (.own 3 (.int .i64)), .l (.sl 0) (.mat 30 43 (.leaf 3)), .l (.sl 6) (.box 43 (.dat (.leaf 3)))]⟩)]⟩ (.two (.two .no (.two .no (.two (.cut ⟨⟨[], [], []⟩, [(.norm, ⟨[0, 4, 6, 19, 20], [], [.s 5 (.own 3 (.int .i64)), .l (.sl 0) (.mat 30 43 (.leaf 3)), .l (.sl 6) (.box 43 (.dat (.leaf 3)))]⟩)]⟩ (.two (.two .no (.two .no (.two .no (.two (.two (.cut ⟨⟨[0, 4, 5, 6, 7, 8, 19, 20], [], [.s 9 (.dat (.int .i64))]⟩, [(.exit 2, ⟨[0, 4, 5, 6, 7, 8, 19, 20], [], [.s 9 (.dat (.int .i64))]⟩)]⟩ (.two (.two (.two (.cut ⟨⟨[], [], []⟩, [(.norm, ⟨[0, 4, 5, 6, 7, 8, 9, 19, 20], [], [.s 40 (.dat .bool)]⟩)]⟩ .no) .no) .no) .no)) .no) (.two .no (.two (.two .no (.cut ⟨⟨[], [], []⟩, [(.norm, ⟨[0, 4, 5, 6, 7, 8, 19, 20], [], [.l (.sl 0) (.mat 30 43 (.leaf 3)), .l (.sl 6) (.box 43 (.dat (.leaf 3)))]⟩)]⟩ .no)) (.two .no (.two .no (.two (.two .no (.two (.cut ⟨⟨[0, 4, 5, 6, 7, 8, 10, 19, 20, 83], [], [.s 84 (.dat (.int .i64)), .l (.sl 0) (.mat 30 43 (.leaf 3))]⟩, [(.exit 4, ⟨[0, 4, 5, 6, 7, 8, 19, 20], [], [.l (.sl 0) (.mat 30 43 (.leaf 3))]⟩)]⟩ .no) .no)) (.two (.two .no (.two (.cut ⟨⟨[0, 4, 5, 6, 7, 8, 19, 20, 108], [], [.s 109 (.dat (.int .i64)), .l (.sl 0) (.mat 30 43 (.leaf 3))]⟩, [(.exit 6, ⟨[0, 4, 5, 6, 7, 19, 20], [], [.l (.sl 0) (.mat 30 43 (.leaf 3))]⟩)]⟩ (.two (.two .no (.two .no (.two (.cut ⟨⟨[], [], []⟩, [(.norm, ⟨[0, 4, 5, 6, 7, 8, 19, 20, 108, 109], [], [.l (.sl 0) (.mat 30 43 (.leaf 3))]⟩)]⟩ (.two (.two .no (.two .no (.two (.two (.cut ⟨⟨[], [], []⟩, [(.norm, ⟨[0, 4, 5, 6, 7, 8, 12, 13, 19, 20, 108, 109], [], [.s 126 (.dat .bool)]⟩)]⟩ .no) .no) (.two .no (.two (.cut ⟨⟨[0, 4, 5, 6, 7, 8, 12, 13, 19, 20, 108, 109, 131], [], [.s 132 (.dat (.int .i64)), .l (.sl 0) (.mat 30 43 (.leaf 3))]⟩, [(.exit 8, ⟨[0, 4, 5, 6, 7, 8, 19, 20, 108, 109], [], [.l (.sl 0) (.mat 30 43 (.leaf 3))]⟩)]⟩ .no) .no))))) .no)) .no))) .no)) .no)) .no)))))))))) .no)) .no))) .no)) .no)) .no)))))) Tryz.func44 (fun _ _ => by kernel_rfl) rfl (fun v vals x z ha hz => (Z8t x).trans hz)
end Go.Eng
set_option maxRecDepth 100000
set_option maxHeartbeats 4000000
namespace Go.Eng
open Go.Proofs Go.RowKit
noncomputable def ZJj:FuncId×Con:=(11,⟨[.slice (.slice (.leaf 3))],[.slice (.slice (.leaf 3)),.slice (.int .i64),.int .i64],fun p=>Zlm p⟩)
theorem ZFt (m:List (List Rat)):Zm ⟨Tryz.prog,[(39,0),(41,2),(43,3),(91,1),(93,4)],[ZIc,Zmf],[],[],[],[],[]⟩ [] Tryz.f11 .no [.slice (.slice (.leaf 3))] [.slice (.slice (.leaf 3)),.slice (.int .i64),.int .i64] (m)=Zlm m:=by kernel_rfl
theorem Zdu:Zl Tryz.prog ZJj.1 ZJj.2:=Zp (C:=⟨Tryz.prog,[(39,0),(41,2),(43,3),(91,1),(93,4)],[ZIc,Zmf],[],[],[],[],[]⟩) ⟨ZSh,Zzo,trivial⟩ trivial trivial trivial (inl:=[]) trivial (ann:=.no) Tryz.func11 (fun _ _=>by kernel_rfl) rfl (fun v vals x z ha hz=>(ZFt x).trans hz)
end Go.Eng
set_option maxRecDepth 100000
set_option maxHeartbeats 4000000
namespace Go.Eng
open Go.Proofs Go.RowKit
noncomputable def Z4k:FuncId×Con:=(96,⟨[.slice (.int .i64),.int .i64],[.int .i64],fun p=>ZXh p.1 p.2⟩)
theorem ZIx (l:(List Int)) (v:Int):Zm ⟨Tryz.prog,[(39,0),(41,2),(43,3),(91,1),(93,4)],[],[],[],[],[],[]⟩ [] Tryz.f96 (.two .no (.two (.two .no (.cut ⟨⟨[],[],[]⟩,[(.norm,⟨[],[],[]⟩),(.ret,⟨[],[],[.s 1000 (.dat (.int .i64))]⟩)]⟩ (.two (.cut ⟨⟨[0,1,7],[],[.s 8 (.dat (.int .i64))]⟩,[(.ret,⟨[],[],[.s 1000 (.dat (.int .i64))]⟩),(.exit 0,⟨[],[],[]⟩)]⟩ .no) .no))) .no)) [.slice (.int .i64),.int .i64] [.int .i64] (l,v)=ZXh l v:=by kernel_rfl
theorem ZHv:Zl Tryz.prog Z4k.1 Z4k.2:=Zp (C:=⟨Tryz.prog,[(39,0),(41,2),(43,3),(91,1),(93,4)],[],[],[],[],[],[]⟩) trivial trivial trivial trivial (inl:=[]) trivial (ann:=.two .no (.two (.two .no (.cut ⟨⟨[],[],[]⟩,[(.norm,⟨[],[],[]⟩),(.ret,⟨[],[],[.s 1000 (.dat (.int .i64))]⟩)]⟩ (.two (.cut ⟨⟨[0,1,7],[],[.s 8 (.dat (.int .i64))]⟩,[(.ret,⟨[],[],[.s 1000 (.dat (.int .i64))]⟩),(.exit 0,⟨[],[],[]⟩)]⟩ .no) .no))) .no)) Tryz.func96 (fun _ _=>by kernel_rfl) rfl fun v vals x z ha hz=>(ZIx x.1 x.2).trans (hz)
end Go.Eng
set_option maxRecDepth 100000
set_option maxHeartbeats 4000000
namespace Go.Eng
open Go.Proofs Go.RowKit
noncomputable def Zkj:FuncId×Con:=(48,⟨[.slice (.int .i64),.int .i64],[.bool],fun p=>Z7h p.1 p.2⟩)
theorem ZTx (l:(List Int)) (v:Int):Zm ⟨Tryz.prog,[(39,0),(41,2),(43,3),(91,1),(93,4)],[Z4k],[],[],[],[],[]⟩ [] Tryz.f48 .no [.slice (.int .i64),.int .i64] [.bool] (l,v)=Z7h l v:=by kernel_rfl
theorem ZYs:Zl Tryz.prog Zkj.1 Zkj.2:=Zp (C:=⟨Tryz.prog,[(39,0),(41,2),(43,3),(91,1),(93,4)],[Z4k],[],[],[],[],[]⟩) ⟨ZHv,trivial⟩ trivial trivial trivial (inl:=[]) trivial (ann:=.no) Tryz.func48 (fun _ _=>by kernel_rfl) rfl fun v vals x z ha hz=>(ZTx x.1 x.2).trans (hz)
noncomputable def Zak (x:Int) (y:Int):Option (Int×Int) :=
 bnd (Zsc x y) fun a =>
 some ((a.1,a.2))
end Go.Eng
namespace Go.Eng
open Go.Proofs Go.RowKit
theorem bmul_w {c:World} {a:Zb} (hv:VIn a c) {d:List Value} {x:Int} (i:Rep.rel (Zd .u64) a d x) {e:List Value} {y:Int} (j:Rep.rel (Zd .u64) a e y) {z:Int×Int} (H:Zak x y=some z):Ret Tryz.prog 139 #[(Zd .u64).val d,(Zd .u64).val e] c a (fun y v'=>∃ g b,y = .tuple #[(Zd .u64).val g,(Zd .u64).val b]∧(Zd .u64).rel v' g z.1∧(Zd .u64).rel v' b z.2):=by
 obtain ⟨rfl,b⟩:=i;obtain ⟨rfl,k⟩:=j;refine ZQb (K:=30) (args:=[.int .u64 x,.int .u64 y]) hv Tryz.func139 rfl rfl zl fun f S=>?_;unfold Zak at H;refine sr (mw S rfl fun f S=>mw S rfl fun f S=>oe (Zj fun _ l=>ZO S rfl rfl (wp_skip (Zf (l _ _ (Zj fun _ m=>bO H fun h n H=>Zv (mv S rfl fun f S=>mv S rfl fun f S=>opc S rfl (Z6 S [.int .u64 x,.int .u64 y] Zkn rfl rfl) (ZMn S.vin (show Rep.rel (Zd .u64) _ [.int .u64 x] x from (ZD b)) (show Rep.rel (Zd .u64) _ [.int .u64 y] y from (ZD k)) n) ?_)))))));rintro _ s f w t ⟨u,v,rfl,o,p⟩ S;obtain ⟨rfl,q⟩:=o;obtain ⟨rfl,r⟩:=p;refine mv S rfl fun f S=>ov S rfl (Zya S rfl rfl) fun f S=>ov S rfl (Zya S rfl rfl) fun f S=>mw S rfl fun f S=>mw S rfl fun f S=>Zs (Zf (m _ _ (sr (mv S rfl fun f S=>mv S rfl fun f S=>mw S rfl fun f S=>mw S rfl fun f S=>oe (wp_ret ?_)))));obtain rfl:=Zn H;refine ZFa S (Zcf rfl (ZT S rfl) (ZT S rfl)) ⟨[.int .u64 (h.1)],[.int .u64 (h.2)],rfl,(ZD q),(ZD r)⟩
set_option maxRecDepth 100000
theorem Zen:Elem Tryz.prog 30 43 (Zdb).n 56 (Value.agg #[Value.bool false,Value.slice none 0 0,Value.slice none 0 0]):=⟨Tryz.underlying30,by kernel_rfl,rfl,by decide⟩
theorem ZZk:Z3c Tryz.prog 30 43 (Zdb).n:=⟨fun _=>by kernel_rfl,fun _=>by kernel_rfl⟩
theorem Zuw:Tryz.prog.follows .mixedOrders=true:=by kernel_rfl
theorem Zsv:Z4 Tryz.prog 139:=fun _ _=>by kernel_rfl
theorem Zoq:Zti Tryz.prog 3 187 .i64 .u64:=fun _ _=>by kernel_rfl
theorem ZOx:Zti Tryz.prog 187 3 .u64 .i64:=fun _ _=>by kernel_rfl
noncomputable def Z5e:FuncId×ConO:=(97,⟨[.slice (.leaf 3),.int .i64],43,.leaf 3,fun p=>Zne 56 p.1 p.2⟩)
theorem Zfo:ZHe Tryz.prog Z5e.1 Z5e.2:=fun w v vals x z hv ha hz=>by
 obtain ⟨cs,vs,rfl,p0,c1,rfl,rfl,hin⟩:=ha
 obtain ⟨x1,k0⟩:=x
 have hz:Zne 56 (show List Rat from x1) k0=some z:=hz
 obtain ⟨y,hx1,hzr,hmk⟩:=ZTt hz
 have hx1:x1=[y]:=hx1
 subst hx1 hzr
 obtain ⟨h0,_,hb1,hb2⟩:=ZRa hmk
 obtain ⟨k,rfl⟩:=Int.eq_ofNat_of_zero_le h0
 obtain ⟨q,c,e,hc1,hc2,hne⟩:=(show (Zu Zdb).rel v cs [y] from p0)
 subst e
 rcases hne with hne | ⟨b,off,cc,TT,fr,rfl,hvb,hrel⟩
 ·cases hne
 have hlen1:([y]:List Rat).length=1:=rfl
 rw [hlen1] at hrel
 obtain ⟨c1,c2,e12,hrc,e2⟩:=hrel
 have e2:c2=[]:=e2
 subst e2
 rw [List.append_nil,Nat.one_mul] at e12
 have hl1:=Rep.len _ hrc
 have hAt:At v b off c1:=⟨cc,TT,fr,hvb,by rw [hl1];exact e12⟩
 refine ⟨fun _ _=>by kernel_rfl,?_⟩
 have hk:((k:Int).toNat)=k:=Int.toNat_natCast k
 rw [hk]
 refine ZCl (K:=48) (args:=[.slice (some ⟨b,off,none⟩) 1 c,.int .i64 (k:Int)]) hv Tryz.func97 rfl rfl zl fun fa hS=>?_
 refine sr ?_
 refine mw hS rfl fun fa hS=>?_
 refine oe ?_
 refine wp_seq_k fun N1 hN1=>?_
 refine sr ?_
 refine mv hS rfl fun fa hS=>?_
 refine ov hS rfl (Ze hS rfl rfl Z2b) fun fa hS=>?_
 refine oe ?_
 refine ZO hS rfl (decide_eq_false (by omega)) ?_
 refine wp_skip ?_
 refine Zf (hN1 _ _ ?_)
 refine sr ?_
 refine mv hS rfl fun fa hS=>?_
 refine ov hS rfl (Zte hS rfl rfl ZZk) fun fa hS=>?_
 refine ov hS rfl (ZId hS rfl (Zoq _)) fun fa hS=>?_
 refine mv hS rfl fun fa hS=>?_
 refine ov hS rfl (ZId hS rfl (Zoq _)) fun fa hS=>?_
 have w1:IntKind.u64.wrap ((1:Nat):Int)=1:=by decide
 have w2:IntKind.u64.wrap (k:Int)=k:=ZAe (ZVc.2 (by omega))
 rw [w1,w2] at hS
 have hmul:Zak 1 (k:Int)=some (0,(k:Int)):=by
  unfold Zak Zsc;rw [if_pos (by omega),Za];simp only;congr 2 <;> omega
 refine Z3r hS wn rfl zl (Z6 hS [.int .u64 1,.int .u64 (k:Int)] Zsv rfl rfl) (bmul_w hS.vin (show Rep.rel (Zd .u64) _ [.int .u64 1] 1 from ZD (by decide)) (show Rep.rel (Zd .u64) _ [.int .u64 (k:Int)] (k:Int) from ZD (ZVc.2 (by omega))) hmul) ?_;rintro _ v1 fa wo hle ⟨r0,r1,rfl,⟨rfl,_⟩,⟨rfl,_⟩⟩ hS;refine mv hS rfl fun fa hS=>?_;refine ov hS rfl (Zya hS rfl rfl) fun fa hS=>?_;refine ov hS rfl (Zya hS rfl rfl) fun fa hS=>?_;refine mw hS rfl fun fa hS=>?_;refine mw hS rfl fun fa hS=>?_;refine oe ?_;refine wp_seq_k fun N2 hN2=>?_;refine sr ?_;refine mv hS rfl fun fa hS=>?_;refine ov hS rfl (Ze hS rfl rfl Z4c) fun fa hS=>?_;have g1:decide ((0:Int)<0)=false:=rfl;have hS:St _ _ _ ((22,Value.bool false) :: _) _ _ _ _:=hS;refine mv hS rfl fun fa hS=>?_;refine op_v hS (Z8f hS rfl rfl rfl zl) rfl zl (Zz hS rfl) fun fa hS=>?_;refine op_v hS (Z8f hS rfl rfl rfl zl) rfl zl (Ze hS rfl rfl Z4c) fun fa hS=>?_;refine ov hS rfl (ZBb (b:=false) hS rfl rfl) fun fa hS=>?_;refine oe ?_;refine ZO hS rfl (decide_eq_false (by omega)) ?_;refine wp_skip ?_;refine Zf (hN2 _ _ ?_);refine sr ?_;refine mv hS rfl fun fa hS=>?_;refine ov hS rfl (ZId hS rfl (ZOx _)) fun fa hS=>?_;have w3:IntKind.i64.wrap (k:Int)=k:=ZAe (Z3a.2 (by omega));rw [w3] at hS;obtain ⟨b2,wo,hrun,hS'⟩:=ZYn Zen hS (l:=(k:Int)) (c:=(k:Int)) h0 (Int.le_refl _) hb1 hb2
 refine Zyb wn rfl zl (hrun rfl rfl) hS' fun fa hS=>?_;refine mw hS rfl fun fa hS=>?_;refine oe ?_;rw [hk] at hS;have hS:=hS.fr' (σ':=[(7,.slice (mkA (some b2)) k k),(0,.slice (some ⟨b,off,none⟩) 1 c)]) rfl;have src1:∀ {σ:List (Nat×Value)} {ℓ:List Loc} {v':Zb} {a:Act} {w':World},St 48 w v σ ℓ v' a w'→∀ j u,c1[j]? = some u→w'.cell? ((⟨b,off,none⟩:Addr).add j)=some u:=fun hS j u hu=>by
  have:=(hS.view (At.mono hS.vst.le hAt)).cell hu
  rwa [Z2a]
 have hpl1:c1.all plain=true:=Rep.flat _ hrc;obtain ⟨zc,hzc⟩:∃ zc:List Value,zc=(Value.agg #[Value.bool false,Value.slice none 0 0,Value.slice none 0 0]:Value).cells.toList:=⟨_,rfl⟩;have hzl:zc.length=(Zdb).n:=by rw [hzc];rfl
 rw [← hzc] at hS
 let Inv:Nat→Act→World→Prop:=fun j a w'=>∃ v',j≤k∧(0<k→0<j)∧St 48 w v [(8,.int .i64 (j:Int)),(7,.slice (mkA (some b2)) k k)] [.own (some b2) 43 (Zdb).n k k ((List.replicate j c1).flatten++(List.replicate (k-j) zc).flatten)] v' a w'
 have rl:=fun n=>Zvj hl1 n;have rpl:∀ n:Nat,((List.replicate n c1).flatten).all plain=true:=fun n=>Znt hpl1 n;have step:=fun j m (hjm:j+m≤k)=>rp_step (k:=k) hl1 hzl hjm;refine sr ?_;refine mv hS rfl fun fa hS=>?_;refine mv hS rfl fun fa hS=>?_;have hS1:St 48 w v _ [.own (some b2) 43 (Zdb).n k k ((List.replicate 0 c1).flatten++(List.replicate (k-0) zc).flatten)] v1 fa wo:=hS;obtain ⟨wo2,hr,hS'⟩:=Z0q (t:=30) (sT:=30) Zen hS1 (i:=0) rfl (p:=0) (k:=min 1 k) (c:=(List.replicate (min 1 k) c1).flatten) (rl _) (by omega) (rpl _) (ad:=⟨b,off,none⟩) (sLen:=1) (sCap:=c) (dLen:=k) (dCap:=k) (fun j u hu=>by
  rcases Nat.lt_or_ge 0 k with hk0 | hk0
  ·rw [show min 1 k=1 by omega] at hu;simp only [List.replicate_one,List.flatten_cons,List.flatten_nil,List.append_nil] at hu;exact src1 hS1 j u hu
  ·rw [show min 1 k=0 by omega] at hu;simp at hu) rfl
 have hst:=step 0 (min 1 k) (by omega);simp only [List.set_cons_zero] at hS';rw [hst] at hS';simp only [Nat.zero_add] at hS';rw [Nat.zero_mul] at hr;refine Zyb wn rfl zl (Zkq hS1 rfl rfl (hr _)) hS' fun fa hS=>?_;refine mw hS rfl fun fa hS=>?_;refine oe ?_;have hS:=hS.fr' (σ':=[(8,.int .i64 ((min 1 k:Nat):Int)),(7,.slice (mkA (some b2)) k k)]) rfl;refine wp_seq_k fun N3 hN3=>?_;refine wp_block ?_;refine wp_loop_fuel (fun m a w'=>∃ j,k-j<m∧Inv j a w') (k+1) ⟨min 1 k,by omega,v1,by omega,by omega,hS⟩ (fun a w' ⟨j,h,_⟩=>by omega) ?_;rintro m fa wo3 ⟨j,hjm,v3,hjk,hj0,hS⟩ N hN;refine wp_seq_k fun N4 hN4=>?_;refine sr ?_;refine mv hS rfl fun fa hS=>?_;refine mv hS rfl fun fa hS=>?_;refine ov hS rfl (Zte hS rfl rfl ZZk) fun fa hS=>?_;refine ov hS rfl (Ze hS rfl rfl Z2b) fun fa hS=>?_;refine oe ?_;by_cases hlt:j<k
 ·refine ZU hS rfl (decide_eq_true (by omega)) ?_;refine wp_skip ?_;refine Zf (hN4 _ _ ?_);refine wp_block ?_;have hS:=hS.fr' (σ':=[(8,.int .i64 (j:Int)),(7,.slice (mkA (some b2)) k k)]) rfl;refine Zae (fl:=#[true,true,true,true,true,true,true,false,false,false]) Zuw (by kernel_rfl) hS ?_;intro ops hops hF wo hS;refine rf hops hF 0 rfl (by kernel_rfl) rfl hS (Zz hS rfl) fun fa hS=>?_;refine rf hops hF 1 rfl (by kernel_rfl) rfl hS (Zz hS rfl) fun fa hS=>?_;refine rf hops hF 2 rfl (by kernel_rfl) rfl hS (Zz hS rfl) fun fa hS=>?_;refine rf hops hF 3 rfl (by kernel_rfl) rfl hS (Z9s hS ZZk rfl rfl (by omega) (by omega)) fun fa hS=>?_;refine rf hops hF 4 rfl (by kernel_rfl) rfl hS (Zz hS rfl) fun fa hS=>?_;refine rf hops hF 5 rfl (by kernel_rfl) rfl hS (Zz hS rfl) fun fa hS=>?_;refine rf hops hF 6 rfl (by kernel_rfl) rfl hS (Zot hS ZZk rfl rfl (by omega) (by omega)) fun fa hS=>?_;rw [Nat.zero_add] at hS;obtain ⟨wo',hr,hS'⟩:=Z0q (t:=30) (sT:=30) Zen hS (i:=0) rfl (p:=j) (k:=min j (k-j)) (c:=(List.replicate (min j (k-j)) c1).flatten) (rl _) (by omega) (rpl _) (ad:=⟨b2,0,none⟩) (sLen:=j) (sCap:=k) (dLen:=k-j) (dCap:=k-j) (fun i u hu=>by
   have hi:=(List.getElem?_eq_some_iff.1 hu).1;refine ZSk hS (j:=0) rfl i u ?_;rw [Ztp (c:=c1) (m:=min j (k-j)) (n:=j) (by omega),List.append_assoc,List.getElem?_append_left hi];exact hu) rfl
  have hst:=step j (min j (k-j)) (by omega);simp only [List.set_cons_zero] at hS';rw [hst] at hS';refine ZQl hops hF 7 (by kernel_rfl) ?_;refine nx_ex' [3,6,1,2,4,5] [0] hops rfl (by kernel_rfl) wn rfl zl (Zkq hS rfl rfl (hr _)) hS' fun fa hS=>?_;refine ⟨(py hS rfl rfl (Zz hS rfl) Znc),?_⟩;refine ZQl hops hF 8 (by kernel_rfl) ?_;have hadd:chk .i64 ((j:Int)+((min j (k-j):Nat):Int))=some ((j+min j (k-j):Nat):Int):=by rw [ZA (by omega) (by omega)];rfl
  refine nv [0,7,3,6,1,2,4,5] [] hops rfl (by kernel_rfl) rfl hS (Ze hS rfl rfl (ZSa hadd)) fun fa hS=>?_;refine ⟨Znc,?_⟩;refine ZQl hops hF 9 (by kernel_rfl) ?_;refine nv [0,1,2,3,4,5,6,7,8] [] hops rfl (by kernel_rfl) rfl hS (Zfd hS rfl) fun fa hS=>?_;refine ⟨Znc,?_⟩;refine ZMo hops hF (by kernel_rfl) ?_;refine Zpb ?_;have hj0:=hj0 (by omega);exact Zf (hN _ _ ⟨j+min j (k-j),by omega,v3,by omega,fun _=>by omega,hS.fr' rfl⟩)
 refine ZO hS rfl (decide_eq_false (by omega)) ?_;refine wp_exit ?_;refine Z0 ?_;refine Z0 ?_;refine Z4a ?_;refine Zf (hN3 _ _ ?_);have hjk:j=k:=by omega
 subst hjk;rw [Nat.sub_self,List.replicate_zero,List.flatten_nil,List.append_nil] at hS;refine sr ?_;refine mv hS rfl fun fa hS=>?_;refine mw hS rfl fun fa hS=>?_;refine oe ?_;refine wp_ret ?_;exact Z3n hS (i:=0) rfl (ZLa rfl (ZT hS rfl)) (Z4d (Rep.mono _ hS.vst.le hrc) _) (List.length_replicate (n:=j) (a:=y)).symm
end Go.Eng
set_option maxRecDepth 100000
set_option maxHeartbeats 4000000
namespace Go.Eng
open Go.Proofs Go.RowKit
noncomputable def Zmh:FuncId×Con:=(14,⟨[.slice (.slice (.leaf 3))],[.slice (.slice (.leaf 3)),.int .i64],fun p=>Zph p⟩)
theorem Z3s (m : List (List Rat)) : Zm ⟨Tryz.prog, [(39, 0), (41, 2), (43, 3), (91, 1), (93, 4)], [ZIc, Zmf, ZEb, Zkj, Z7b, Zzc], [], [Z5e], [], [((43, "Neg"), 117)], []⟩ [(49, Tryz.f49, .no)] Tryz.f14 (.two .no (.two .no (.two .no (.two .no (.two (.two .no (.two (.cut ⟨⟨[0, 4, 5, 22], [], [.s 7 (.own 30 (.slice (.leaf 3))), .s 23 (.dat (.int .i64))]⟩, [(.exit 0, ⟨[], [], [.s 7 (.own 30 (.slice (.leaf 3)))]⟩)]⟩ (.two (.two .no (.two .no (.two (.cut ⟨⟨[], [], []⟩, [(.norm, ⟨[0, 4, 5, 22, 23], [], [.s 7 (.own 30 (.slice (.leaf 3)))]⟩)]⟩ (.two (.two .no (.two .no (.two .no (.two .no (.two (.two .no (.two (.cut ⟨⟨[0, 4, 5, 7, 8, 9, 22, 23, 36, 37], [], [.s 38 (.dat (.int .i64)), .l (.sl 9) (.own 43 (.leaf 3))]⟩, [(.exit 2, ⟨[0, 4, 5, 7, 9, 22, 23], [], [.l (.sl 9) (.own 43 (.leaf 3))]⟩)]⟩ .no) .no)) .no))))) .no)) .no))) .no)) .no)) .no))))) [.slice (.slice (.leaf 3))] [.slice (.slice (.leaf 3)), .int .i64] (m) = Zph m := by kernel_rfl
theorem ZAq : Zl Tryz.prog Zmh.1 Zmh.2 := Zp (C := ⟨Tryz.prog, [(39, 0), (41, 2), (43, 3), (91, 1), (93, 4)], [ZIc, Zmf, ZEb, Zkj, Z7b, Zzc], [], [Z5e], [], [((43, "Neg"), 117)], []⟩) ⟨ZSh, Zzo, ZTf, ZYs, Zih, ZZh, trivial⟩ ⟨Zfo, trivial⟩ trivial ⟨Zik, trivial⟩ (inl := [(49, Tryz.f49, .no)]) ⟨⟨Tryz.func49, fun _ _ => by kernel_rfl⟩, trivial⟩ (ann := (.two .no (.two .no (.two .no (.two .no (.two (.two .no (.two (.cut ⟨⟨[0, 4, 5, 22], [], [.s 7 (.own 30 (.slice (.leaf 3))), .s 23 (.dat (.int .i64))]⟩, [(.exit 0, ⟨[], [], [.s 7 (.own 30 (.slice (.leaf 3)))]⟩)]⟩ (.two (.two .no (.two .no (.two (.cut ⟨⟨[], [], []⟩, [(.norm, ⟨[0, 4, 5, 22, 23], [], [.s 7 (.own 30 (.slice (.leaf 3)))]⟩)]⟩ (.two (.two .no (.two .no (.two .no (.two .no (.two (.two .no (.two (.cut ⟨⟨[0, 4, 5, 7, 8, 9, 22, 23, 36, 37], [], [.s 38 (.dat (.int .i64)), .l (.sl 9) (.own 43 (.leaf 3))]⟩, [(.exit 2, ⟨[0, 4, 5, 7, 9, 22, 23], [], [.l (.sl 9) (.own 43 (.leaf 3))]⟩)]⟩ .no) .no)) .no))))) .no)) .no))) .no)) .no)) .no)))))) Tryz.func14 (fun _ _ => by kernel_rfl) rfl (fun v vals x z ha hz => (Z3s x).trans hz)
end Go.Eng
namespace Go.Eng
open Go.Proofs Go.RowKit
theorem Zjx {r:World} {d:Zb} (hv:VIn d r) {D:List Value} {n:Int} (L:Rep.rel (Zd .u64) d D n) {z:(List UInt8)} (H:ZWi n=some z):Ret Tryz.prog 128 #[(Zd .u64).val D] r d (fun y v'=>∃ E,y=Zbb.val E∧Zbb.rel v' E z):=by
 obtain ⟨rfl,M⟩:=L;refine ZQb (K:=20) (args:=[.int .u64 n]) hv Tryz.func128 rfl rfl zl fun f S=>?_;unfold ZWi at H;refine sr (mw S rfl fun f S=>oe (sr (ZXo S wn rfl zl (cs:=[.int .u8 0,.int .u8 0,.int .u8 0,.int .u8 0,.int .u8 0,.int .u8 0,.int .u8 0,.int .u8 0,.int .u8 0,.int .u8 0,.int .u8 0,.int .u8 0,.int .u8 0,.int .u8 0,.int .u8 0,.int .u8 0,.int .u8 0,.int .u8 0,.int .u8 0,.int .u8 0]) (ZNn k_zv208) fun s f w S=>?_)));have S:=S.boxOwn 1 20 rfl zl;have N:Rep.rels (Zd .u8) d [.int .u8 0,.int .u8 0,.int .u8 0,.int .u8 0,.int .u8 0,.int .u8 0,.int .u8 0,.int .u8 0,.int .u8 0,.int .u8 0,.int .u8 0,.int .u8 0,.int .u8 0,.int .u8 0,.int .u8 0,.int .u8 0,.int .u8 0,.int .u8 0,.int .u8 0,.int .u8 0] (List.replicate 20 (0:Int)):=Z4d (show Rep.rel (Zd .u8) _ [Value.int .u8 0] 0 from ⟨rfl,by decide⟩) 20;refine oe (sr (mw S rfl fun f S=>oe (Zj fun _ O=>?_)));obtain ⟨P,Q,R⟩:=ZE H;refine Zva (fun f w=>∃ l m B t,(l,m)=P∧Zb.le d t∧St 20 r d [(3,.pointer (some ⟨s,0,none⟩)),(4,.int .i64 m)] [Loc.own (some s) 208 1 20 20 B] t f w∧Rep.rels (Zd .u8) t B l∧20=l.length∧inR .i64 m) (fun _ T=>?_) ?_
 ·have H:=Q;refine wp_block ?_;obtain ⟨ak,U,V⟩:=ZE H;refine ZFb U (fun W f w=>∃ h o u b k,(h,o,u)=W∧Zb.le d k∧St 20 r d [(0,.int .u64 o),(3,.pointer (some ⟨s,0,none⟩)),(4,.int .i64 u)] [Loc.own (some s) 208 1 20 20 b] k f w∧Rep.rels (Zd .u8) k b h∧20=h.length∧inR .u64 o∧inR .i64 u) ⟨_,_,_,[.int .u8 0,.int .u8 0,.int .u8 0,.int .u8 0,.int .u8 0,.int .u8 0,.int .u8 0,.int .u8 0,.int .u8 0,.int .u8 0,.int .u8 0,.int .u8 0,.int .u8 0,.int .u8 0,.int .u8 0,.int .u8 0,.int .u8 0,.int .u8 0,.int .u8 0,.int .u8 0],_,rfl,(leR _),(S.fr' rfl),N,(List.length_replicate (n:=20) (a:=(0:Int))).symm,M,(by decide)⟩ ?_;rintro _ f w st ⟨h,o,u,b,k,hq,F,S,C,v,al,X⟩ H am Y Z;subst hq;refine Zj fun _ aa=>sr (mv S rfl fun f S=>ov S rfl (Ze S rfl rfl Z4c) fun f S=>oe ?_);rcases ZK (decide ((0:Int)<o)) with p | p
  ·have H:=ZJ H p;refine ZU S rfl p (wp_skip (Zf (aa _ _ (Zj fun _ ab=>wp_block (Zj fun _ ac=>bO H fun e G H=>Zv (mv S rfl fun f S=>ov S rfl (Ze S rfl rfl (Zza G)) fun f S=>mw S rfl fun f S=>Zs (Zf (ac _ _ (bO H fun g ad H=>?_)))))))));refine bO H fun an q H=>Zv (mv S rfl fun f S=>mv S rfl fun f S=>ov S rfl (Ze S rfl rfl (ZPe ad)) fun f S=>ov S rfl (Ze S rfl rfl ZYb) fun f S=>ov S rfl (ZId S rfl (ZCp _)) fun f S=>?_);have I:=Zla C (Zi q).2.1;obtain ⟨ao,ae⟩:∃ c,(List.take (Zd .u8).n (List.drop ((e).toNat*(Zd .u8).n) b))=c:=⟨_,rfl⟩;rw [ae] at I;obtain ⟨rfl,ap⟩:=I;refine ov S rfl (ZVp S Z3o rfl rfl (Zi q).1 (ltI v (Zi q).2.2.1)) fun f S=>?_;obtain ⟨w,af,S⟩:=ZVb S k_sz5 (off:=0+(e).toNat*1) (z:=.int .u8 (IntKind.u8.wrap (IntKind.u64.wrap ((48:Int)+g)))) (cs:=[.int .u8 (IntKind.u8.wrap (IntKind.u64.wrap ((48:Int)+g)))]) (Zxb rfl) rfl (i:=0) rfl (ZTd S (j:=0) rfl (ltN v (Zi q).2.2.2)) (by first | rfl | simp [plain]);have ag:Rep.rels (Zd .u8) k (List.take (0+(e).toNat*1) b++[Value.int IntKind.u8 (IntKind.u8.wrap (IntKind.u64.wrap ((48:Int)+g)))]++List.drop (0+(e).toNat*1+1) b) (h.set (e).toNat (IntKind.u8.wrap (IntKind.u64.wrap ((48:Int)+g)))):=Z2c C (Zi q).2.2.2 (show Rep.rel (Zd .u8) k [.int .u8 (IntKind.u8.wrap (IntKind.u64.wrap ((48:Int)+g)))] _ from (ZD (Zra _ _))) rfl rfl
   have ah:20=(h.set (e).toNat (IntKind.u8.wrap (IntKind.u64.wrap ((48:Int)+g)))).length:=ZWd v;refine Z3f wn rfl (af rfl rfl) (Zs (Zpb (Zf (ab _ _ (bO H fun aq J H=>Zv (mv S rfl fun f S=>ov S rfl (Ze S rfl rfl (Zvc J)) fun f S=>mw S rfl fun f S=>Zs ?_))))));obtain rfl:=Zn H;refine Y _ rfl _ _ ⟨_,_,_,(List.take (0+(e).toNat*1) b++[Value.int IntKind.u8 (IntKind.u8.wrap (IntKind.u64.wrap ((48:Int)+g)))]++List.drop (0+(e).toNat*1+1) b),_,rfl,F,(S.fr' rfl),ag,ah,(Zri J),(Zua G).2⟩
  have H:=ZI H p;refine ZO S rfl p (wp_exit (Z0 ?_));obtain rfl:=Zn H;have hq:=Z _ rfl;subst hq;have H:=V;refine Z0 (Z4a ?_);obtain rfl:=Zn H;refine Zf (T _ _ ⟨_,_,b,_,rfl,(leT (leR _) F),(S.fr' rfl),C,v,X⟩)
 rintro f w ⟨l,m,B,t,hq,ar,S,ai,x,au⟩;subst hq;have H:=R;refine Zf (O _ _ (Zj fun _ aj=>bO H fun av A H=>Zv (mv S rfl fun f S=>ov S rfl (Zvx S Z3o rfl rfl (Zjd A).1 (by have:=(Zjd A).2.1;have:=x;omega)) fun f S=>ov S rfl (ZBv S (j:=0) rfl ai x (by have:=(Zjd A).2.1;have:=(Zjd A).1;have:=x;omega) rfl Tryz.underlying174 Tryz.underlying5 Tryz.underlying9) fun f S=>mw S rfl fun f S=>Zs (Zf (aj _ _ (wp_ret ?_))))));obtain rfl:=Zn H;refine ZFa S (ZLa rfl (ZT S rfl)) ⟨[.string (Zx ((ZPd (l.drop ((m).toNat)))))],rfl,(ZCi (by have:=x;simp only [Zou,List.length_drop];unfold maxLen;omega))⟩
theorem Zpu {b:World} {a:Zb} (hv:VIn a b) {c:List Value} {n:Int} (d:Rep.rel (Zd .u64) a c n) {z:(List UInt8)} (hm:Zdg n=some z) :
  Ret Tryz.prog 128 #[(Zd .u64).val c] b a (fun y v'=>∃ e,y=Zbb.val e∧Zbb.rel v' e z) :=
 Zjx hv d (ZYu d.2 hm)
end Go.Eng
namespace Go.Proofs
open Go.Shelf
def Tryz.lays105_ren:Go.Shelf.Ren:=⟨fun | 105=>129 | 212=>139 | 99=>167 | 165=>168 | 166=>130 | 170=>169 | 169=>131 | 263=>174 | 264=>106 | 206=>183 | 240=>170 | 241=>184 | 276=>185 | 277=>194 | n=>n,fun | 9=>9 | 3=>3 | 4=>4 | 20=>20 | 0=>0 | 46=>187 | 109=>188 | 5=>5 | 72=>176 | 76=>179 | 51=>185 | 146=>216 | 53=>148 | 148=>152 | 70=>173 | 37=>174 | 75=>178 | 127=>211 | 164=>226 | 80=>88 | n=>n,fun | n=>n⟩
theorem Tryz.lays105:Go.Proofs.Lays.n105 Tryz.prog Tryz.lays105_ren:={
 mixed:=by kernel_rfl
 f99:=Tryz.func167.trans (congrArg some (by kernel_rfl))
 f105:=Tryz.func129.trans (congrArg some (by kernel_rfl))
 f165:=Tryz.func168.trans (congrArg some (by kernel_rfl))
 f166:=Tryz.func130.trans (congrArg some (by kernel_rfl))
 f169:=Tryz.func131.trans (congrArg some (by kernel_rfl))
 f170:=Tryz.func169.trans (congrArg some (by kernel_rfl))
 f206:=Tryz.func183.trans (congrArg some (by kernel_rfl))
 f212:=Tryz.func139.trans (congrArg some (by kernel_rfl))
 f240:=Tryz.func170.trans (congrArg some (by kernel_rfl))
 f241:=Tryz.func184.trans (congrArg some (by kernel_rfl))
 f263:=Tryz.func174.trans (congrArg some (by kernel_rfl))
 f264:=Tryz.func106.trans (congrArg some (by kernel_rfl))
 f276:=Tryz.func185.trans (congrArg some (by kernel_rfl))
 f277:=Tryz.func194.trans (congrArg some (by kernel_rfl))
 t0:=Tryz.underlying0
 a0:=Tryz.isAgg0
 z0:=Tryz.sizeOf0
 v0:=Tryz.zeroValue0
 t3:=Tryz.underlying3
 a3:=Tryz.isAgg3
 z3:=Tryz.sizeOf3
 v3:=Tryz.zeroValue3
 t4:=Tryz.underlying4
 a4:=Tryz.isAgg4
 z4:=Tryz.sizeOf4
 v4:=Tryz.zeroValue4
 t5:=Tryz.underlying5
 a5:=Tryz.isAgg5
 z5:=Tryz.sizeOf5
 v5:=Tryz.zeroValue5
 t9:=Tryz.underlying9
 a9:=Tryz.isAgg9
 z9:=Tryz.sizeOf9
 v9:=Tryz.zeroValue9
 t20:=Tryz.underlying20
 a20:=Tryz.isAgg20
 z20:=Tryz.sizeOf20
 v20:=Tryz.zeroValue20
 t37:=Tryz.underlying174
 a37:=Tryz.isAgg174
 z37:=Tryz.sizeOf174
 v37:=Tryz.zeroValue174
 t46:=Tryz.underlying187
 a46:=Tryz.isAgg187
 z46:=Tryz.sizeOf187
 v46:=Tryz.zeroValue187
 t51:=Tryz.underlying185
 a51:=Tryz.isAgg185
 z51:=Tryz.sizeOf185
 v51:=Tryz.zeroValue185
 t53:=Tryz.underlying148
 a53:=Tryz.isAgg148
 z53:=Tryz.sizeOf148
 v53:=Tryz.zeroValue148
 t70:=Tryz.underlying173
 a70:=Tryz.isAgg173
 z70:=Tryz.sizeOf173
 v70:=Tryz.zeroValue173
 t72:=Tryz.underlying176
 a72:=Tryz.isAgg176
 z72:=Tryz.sizeOf176
 v72:=Tryz.zeroValue176
 t75:=Tryz.underlying178
 a75:=Tryz.isAgg178
 z75:=Tryz.sizeOf178
 v75:=Tryz.zeroValue178
 t76:=Tryz.underlying179
 a76:=Tryz.isAgg179
 z76:=Tryz.sizeOf179
 v76:=Tryz.zeroValue179
 t109:=Tryz.underlying188
 a109:=Tryz.isAgg188
 z109:=Tryz.sizeOf188
 v109:=Tryz.zeroValue188
 t127:=Tryz.underlying211
 a127:=Tryz.isAgg211
 z127:=Tryz.sizeOf211
 v127:=Tryz.zeroValue211
 t146:=Tryz.underlying216
 a146:=Tryz.isAgg216
 z146:=Tryz.sizeOf216
 v146:=Tryz.zeroValue216
 t148:=Tryz.underlying152
 a148:=Tryz.isAgg152
 z148:=Tryz.sizeOf152
 v148:=Tryz.zeroValue152
 t164:=Tryz.underlying226
 a164:=Tryz.isAgg226
 z164:=Tryz.sizeOf226
 v164:=Tryz.zeroValue226 }
theorem Tryz.Builder_Extra_105:Builder.Extra Tryz.prog Tryz.lays105_ren:={
 sizeBuilder:=by kernel_rfl
 liesBuilder:=by kernel_rfl
 t5:=Tryz.underlying5
 a5:=Tryz.isAgg5
 z5:=Tryz.sizeOf5
 v5:=Tryz.zeroValue5
 infoByte:=by kernel_rfl
 cellsByte:=by kernel_rfl
 sizeByte:=by kernel_rfl
 neB5:=by decide }
end Go.Proofs
namespace Go.Eng
open Go.Proofs Go.RowKit Go.Shelf
theorem writes:ZQp Tryz.prog 130 176 5:=fun B b bs s w h hl hB=>Any.Builder_WriteString { Tryz.lays105 with } Tryz.Builder_Extra_105 B b bs s w h hl hB
theorem tells:Tells Tryz.prog 131 176 5:=fun B b l w h hB=>Any.Builder_String_any { Tryz.lays105 with } Tryz.Builder_Extra_105 B b l w h hB
end Go.Eng
namespace Go.Eng
open Go.Proofs Go.RowKit
theorem ZDx (l:List UInt8) (c:Nat):Lib.repeatL l c=(List.replicate c l).flatten:=by
 induction c with
 | zero=>rfl
 | succ c ih=>simp [Lib.repeatL,List.replicate_succ,ih]
theorem Zos {b:World} {a:Zb} (hv:VIn a b) {f:List Value} {s:List UInt8} (k:Rep.rel Zbb a f s) {g:List Value} {c:Int} (l:Rep.rel (Zd .i64) a g c) {z:List UInt8} (hm:ZAg s c=some z) :
  Ret Tryz.prog 129 #[Zbb.val f,(Zd .i64).val g] b a (fun y v'=>∃ h,y=Zbb.val h∧Zbb.rel v' h z):=by
 obtain ⟨rfl,hs⟩:=k;obtain ⟨rfl,hc⟩:=l;unfold ZAg at hm;split at hm
 ·rename_i hh
  cases hm
  obtain ⟨C,rfl⟩:=Int.eq_ofNat_of_zero_le hh.1;have hc:=Z3a.1 hc;have d:=hh.2;rw [Int.toNat_natCast] at d;have:=Any.strings_Repeat Tryz.lays105 Tryz.Builder_Extra_105 (Zx s) C b (by omega) (by rw [ZUc];exact d);refine Calls.mono this fun e w' ⟨i,j⟩=>?_;have m:(⟨(Lib.repeatL (Zx s).data.toList C).toArray⟩:ByteArray)=Zx (List.replicate C s).flatten:=by
   rw [ZDx];rfl
  rw [m] at i;exact ⟨_,a,i,j,VStep.ext hv j,[.string (Zx (List.replicate C s).flatten)],rfl,rfl,by simp only [Int.toNat_natCast];rw [List.length_flatten];simp;unfold maxLen;rw [Nat.mul_comm] at d;omega⟩
 ·cases hm
theorem text_w {e:World} {c:Zb} (hv:VIn c e) {c0:List Value} {a:Nat} (p0:Rep.rel Zw c c0 a) {z:(List UInt8)} (H:ZAh a=some z):Ret Tryz.prog 82 #[Zw.val c0] e c (fun y v'=>∃ r0,y=Zbb.val r0∧Zbb.rel v' r0 z):=by
 obtain ⟨q1,n2,k3,rfl⟩:=Zma p0;refine ZQb (K:=49) (args:=[.slice q1 n2 k3]) hv Tryz.func82 rfl rfl zl fun f S=>?_;unfold ZAh at H;refine sr (mw S rfl fun f S=>oe (sr ?_));have S:=S.nilLoc 9 1;refine ov S rfl (Zfd S (y:=.slice (mkA none) 0 0) rfl) fun f S=>oe (Zj fun _ ar=>?_);obtain ⟨au,av,aw⟩:=ZE H;refine Zva (fun f w=>∃ o F s G U I,o=au∧Zb.le c I∧St 49 e c [(3,.slice (mkA F) s G)] [Loc.own F 9 1 s G U] I f w∧Rep.rels Zbb I U o∧s=o.length) (fun _ ax=>?_) ?_
 ·have H:=av;refine wp_block ?_;obtain ⟨bs,ay,az⟩:=ZE H;refine ZFb ay (fun aA f w=>∃ J g L M N p h q k t,(J,g)=aA∧Zb.le c t∧St 49 e c [(0,.slice L M N),(3,.slice (mkA p) h q)] [Loc.own p 9 1 h q k] t f w∧Rep.rel Zw t [.slice L M N] J∧Rep.rels Zbb t k g∧h=g.length) ⟨_,_,_,_,_,none,0,0,[],_,rfl,(leR _),(S.fr' rfl),p0,Zxe,rfl⟩ ?_;rintro _ f w st ⟨J,g,L,M,N,p,h,q,k,t,hq,ac,S,ad,d,ae⟩ H bt aB aC;subst hq;refine Zj fun _ aD=>sr (mv S rfl fun f S=>ov S rfl (Zea S (ZG ad) rfl rfl ZB) fun f S=>ov S rfl (Ze S rfl rfl Z4c) fun f S=>oe ?_);rcases ZK (decide ((0:Int)<(((Zc 18446744073709551616 J)).length:Int))) with u | u
  ·have H:=ZJ H u;refine ZU S rfl u (wp_skip (Zf (aD _ _ (wp_block (Zj fun _ aE=>bO H fun O aF H=>Zv (mv S rfl fun f S=>opc S rfl (Z6 S [.slice L M N,.int .u64 10000000000000000000] Zop rfl rfl) (ZXq S.vin ad (show Rep.rel (Zd .u64) _ [.int .u64 10000000000000000000] (10000000000000000000:Int) from (ZD (by decide))) aF) ?_))))));rintro _ bu f w af ⟨bv,bw,rfl,m,aG⟩ S;have d:=ZY af d;obtain ⟨aH,aI,aJ,rfl⟩:=Zma m;obtain ⟨rfl,aK⟩:=aG;refine mv S rfl fun f S=>ov S rfl (Zya S rfl rfl) fun f S=>ov S rfl (Zya S rfl rfl) fun f S=>mw S rfl fun f S=>mw S rfl fun f S=>Zs (Zf (aE _ _ (Zj fun _ aL=>bO H fun bx aM H=>Zv (mv S rfl fun f S=>opc S rfl (Z6 S [.int .u64 (O.2)] k_en128 rfl rfl) (Zpu S.vin (show Rep.rel (Zd .u64) _ [.int .u64 (O.2)] O.2 from (ZD aK)) aM) ?_))));rintro _ aN f w V ⟨bz,rfl,aO⟩ S;have d:=ZY V d;obtain ⟨rfl,aP⟩:=aO;refine mw S rfl fun f S=>Zs (Zf (aL _ _ (Zj fun _ aQ=>sr (mv S rfl fun f S=>?_))));have m:=Z8 V m;refine ov S rfl (Zea S (ZG m) rfl rfl ZB) fun f S=>ov S rfl (Ze S rfl rfl Z4c) fun f S=>oe ?_;obtain ⟨aR,aS,aT⟩:=ZE H;refine Zva (fun f w=>∃ b P,b=aR∧Zb.le aN P∧St 49 e c [(3,.slice (mkA p) h q),(4,.slice aH aI aJ),(6,.string (Zx b))] [Loc.own p 9 1 h q k] P f w∧b.length≤maxLen) (fun _ ag=>?_) ?_
   ·have H:=aS;rcases ZK (decide ((0:Int)<(((Zc 18446744073709551616 O.1)).length:Int))) with v | v
    ·have H:=ZJ H v;refine ZU S rfl v (bO H fun W ah H=>bO H fun bA aU H=>bO H fun bB ai H=>Zv (mv S rfl fun f S=>ov S rfl (Z6r S rfl rfl Tryz.underlying9) fun f S=>ov S rfl (Ze S rfl rfl (Zza ah)) fun f S=>opc S rfl (Z6 S [.string (Zx (([48]:List UInt8))),.int .i64 W] k_en129 rfl rfl) (Zos S.vin (show Rep.rel Zbb _ [.string (Zx (([48]:List UInt8)))] (([48]:List UInt8)) from (ZCi zl)) (show Rep.rel (Zd .i64) _ [.int .i64 W] W from (ZD (Zua ah).2)) aU) ?_));rintro _ bC f w aj ⟨bD,rfl,aV⟩ S;have d:=ZY aj d;obtain ⟨rfl,bE⟩:=aV;refine mv S rfl fun f S=>ov S rfl (Zal S rfl rfl (Z1p ai)) fun f S=>mw S rfl fun f S=>Zs ?_;obtain rfl:=Zn H;refine Zf (ag _ _ ⟨_,_,rfl,(leT (leR _) aj),(S.fr' rfl),(Z1k ai)⟩)
    have H:=ZI H v;refine ZO S rfl v (wp_skip ?_);obtain rfl:=Zn H;refine Zf (ag _ _ ⟨_,_,rfl,(leR _),(S.fr' rfl),aP⟩)
   rintro f w ⟨b,P,hq,X,S,aW⟩;subst hq;have H:=aT;have d:=ZY X d;refine Zf (aQ _ _ (bO H fun bG aX H=>Zv (mv S rfl fun f S=>mv S rfl fun f S=>?_)));obtain ⟨bH,w,aY,S⟩:=ZWf S (n:=1) (cs:=[.string (Zx b)]) (vals:=[(0,.string (Zx b))]) (sz:=1) rfl (by decide) (ZDm ZUo (x:=.string (Zx b)) (cs:=[.string (Zx b)]) rfl rfl (by decide));have Y:Rep.rels Zbb P [.string (Zx b)] [b]:=(Zwm (ZCi aW) Zxe);refine Zyb wn rfl zl (aY rfl) S fun f S=>?_;have aZ:=S;obtain ⟨ak,al,w,a0,S⟩:=ZIj (ty:=168) ZUo S (i:=1) (n':=(g++[b]).length) rfl (ZYd Y rfl) (ZSk S (j:=0) rfl) (ZBl Y) (appN ae rfl) (ZCe aX) (by decide);have a1:=ZCc d Y;refine Zyb wn rfl zl (Zwe aZ rfl rfl a0) S fun f S=>mv S rfl fun f S=>mw S rfl fun f S=>mw S rfl fun f S=>Zs (Zpb ?_);obtain rfl:=Zn H;have S:=S.reorder (ℓ':=[Loc.own ak 9 1 ((g++[b]).length) al ((k++[.string (Zx b)]))]) [1] rfl (by decide);have m:=Z8 X m;refine aB _ rfl _ _ ⟨_,_,_,_,_,ak,(g++[b]).length,al,(k++[.string (Zx b)]),_,rfl,(leT (leT (leT ac af) V) X),(S.fr' rfl),m,a1,rfl⟩
  have H:=ZI H u;refine ZO S rfl u (wp_exit (Z0 ?_));obtain rfl:=Zn H;have hq:=aC _ rfl;subst hq;have H:=az;refine Z0 (Z4a ?_);obtain rfl:=Zn H;refine Zf (ax _ _ ⟨_,p,h,q,k,_,rfl,(leT (leR _) ac),(S.fr' rfl),d,ae⟩)
 rintro f w ⟨o,F,s,G,U,I,hq,bI,S,a2,am⟩;subst hq;have H:=aw;refine Zf (ar _ _ (Zj fun _ a3=>sr (mv S rfl fun f S=>ov S rfl (Zea S am rfl rfl Zln) fun f S=>ov S rfl (Ze S rfl rfl Zse) fun f S=>oe ?_)));rcases ZK (((o.length:Int))==(0:Int)) with B | B
 ·have H:=ZJ H B;refine ZU S rfl B (sr (mw S rfl fun f S=>oe (wp_ret (ZXa ?_))));obtain rfl:=Zn H;refine ZFa S (ZLa rfl (ZT S rfl)) ⟨[.string (Zx (([48]:List UInt8)))],rfl,(ZCi zl)⟩
 have H:=ZI H B;refine ZO S rfl B (wp_skip (Zf (a3 _ _ (sr ?_))));obtain ⟨an,bJ,S,C⟩:=S.pubSlice (i:=0) (A:=Zbb) (l:=o) (ℓ':=[]) rfl rfl am a2 rfl;refine op_newB 5 S wn rfl zl (ZNn k_zv176) fun r f w S a4=>oe (Zj fun _ a5=>Zj fun _ a6=>bO H fun bK ao H=>Zv (mv S rfl fun f S=>ov S rfl (Zea S (ZG C) rfl rfl Zln) fun f S=>ov S rfl (Ze S rfl rfl (Zza ao)) fun f S=>mw S rfl fun f S=>Zs (Zf (a6 _ _ ?_))));obtain ⟨a7,a8,a9⟩:=ZE H;refine Zva (fun f w=>∃ Q R,Q=a7∧Zb.le an R∧St 49 e c [(7,.pointer (some ⟨r,0,none⟩))] [] R f w∧Bld 176 5 r e R Q w) (fun _ ba=>?_) ?_
 ·have H:=a8;refine wp_block ?_;obtain ⟨bM,bb,bc⟩:=ZE H;refine ZFb bb (fun bd f w=>∃ Z D T,(Z,D)=bd∧Zb.le an T∧St 49 e c [(3,.slice (mkA F) s G),(7,.pointer (some ⟨r,0,none⟩)),(8,.int .i64 D)] [] T f w∧Bld 176 5 r e T Z w∧inR .i64 D) ⟨_,_,_,rfl,(leR _),(S.fr' rfl),a4,(Zua ao).2⟩ ?_;rintro _ f w st ⟨Z,D,T,hq,aa,S,ap,bP⟩ H bQ be bf;subst hq;refine Zj fun _ bg=>sr (mv S rfl fun f S=>ov S rfl (Ze S rfl rfl Zqc) fun f S=>oe ?_);rcases ZK (decide ((0:Int)≤D)) with E | E
  ·have H:=ZJ H E;refine ZU S rfl E (wp_skip (Zf (bg _ _ (Zj fun _ bh=>wp_block (bO H fun bi ab H=>bO H fun bR bj H=>Zv (mv S rfl fun f S=>mv S rfl fun f S=>?_))))));have C:=Z8 aa C;obtain ⟨_,bS,bT,bU,bk,bm,bn⟩:=Zab C (Zi ab).2.1;obtain ⟨rfl,rfl⟩:=Zht bk;obtain ⟨rfl,bV⟩:=bn;refine ov S rfl (ZM S rfl rfl Zln (Zi ab).1 (ltI (ZG C) (Zi ab).2.2.1)) fun f S=>ov S rfl (Zka S rfl k_sz9 (S.view bm)) fun f S=>ZQs writes ap (ZOw bj) S wn rfl zl (Z6 S [.pointer (some ⟨r,0,none⟩),.string (Zx bi)] k_en130 rfl rfl) fun f w S bo=>Zs (Zpb (Zf (bh _ _ (bO H fun bW aq H=>Zv (mv S rfl fun f S=>ov S rfl (Ze S rfl rfl (Zza aq)) fun f S=>mw S rfl fun f S=>Zs ?_)))));obtain rfl:=Zn H;refine be _ rfl _ _ ⟨_,_,_,rfl,aa,(S.fr' rfl),bo,(Zua aq).2⟩
  have H:=ZI H E;refine ZO S rfl E (wp_exit (Z0 ?_));obtain rfl:=Zn H;have hq:=bf _ rfl;subst hq;have H:=bc;refine Z0 (Z4a ?_);obtain rfl:=Zn H;refine Zf (ba _ _ ⟨_,_,rfl,(leT (leR _) aa),(S.fr' rfl),ap⟩)
 rintro f w ⟨Q,R,hq,bX,S,bp⟩;subst hq;have H:=a9;refine Zf (a5 _ _ (Zj fun _ bq=>bO H fun bY br H=>Zv (op_tell tells bp S wn rfl zl (Z6 S [.pointer (some ⟨r,0,none⟩)] k_en131 rfl rfl) fun f w S=>mw S rfl fun f S=>Zs (Zf (bq _ _ (wp_ret ?_))))));obtain rfl:=Zn H;refine ZFa S (ZLa rfl (ZT S rfl)) ⟨[.string (Zx Q)],rfl,(ZCi (Z1k br))⟩
theorem text_c {c:World} {b:Zb} (hv:VIn b c) {d:List Value} {a:Nat} (f:Rep.rel Zw b d a) {z:(List UInt8)} (hm:ZGf a=some z) :
  Ret Tryz.prog 82 #[Zw.val d] c b (fun y v'=>∃ e,y=Zbb.val e∧Zbb.rel v' e z) :=
 text_w hv f (Zhu hm)
end Go.Eng
set_option maxRecDepth 100000
set_option maxHeartbeats 4000000
namespace Go.Eng
open Go.Proofs Go.RowKit
noncomputable def ZXj:FuncId×Con:=(82,⟨[.leaf 0],[.str],fun p=>ZGf p⟩)
theorem text_k:Zl Tryz.prog ZXj.1 ZXj.2:=fun w v vals x z hv ha hz=>by
 obtain ⟨c0,e0,p0⟩:=ha;subst e0
 exact .inl ⟨fun _ _=>by kernel_rfl,Ret.mono (text_c hv p0 hz) fun y v' _ ⟨r0,e,h0⟩=>⟨r0,e,h0⟩⟩
end Go.Eng
set_option maxRecDepth 100000
set_option maxHeartbeats 4000000
namespace Go.Eng
open Go.Proofs Go.RowKit
noncomputable def Zig:FuncId×Con:=(38,⟨[.leaf 3],[.str],fun p=>ZGh p⟩)
theorem qtext_i (x:Rat):Zm ⟨Tryz.prog,[(39,0),(41,2),(43,3)],[ZXj],[],[],[],[],[]⟩ [] Tryz.f38 (.two .no (.two .no (.two (.two .no (.cut ⟨⟨[],[],[]⟩,[(.norm,⟨[1],[],[.s 3 (.dat .str)]⟩)]⟩ .no)) (.two (.two .no (.cut ⟨⟨[],[],[]⟩,[(.norm,⟨[],[],[.s 3 (.dat .str)]⟩)]⟩ .no)) .no)))) [.leaf 3] [.str] (x)=Zmn x:=by kernel_rfl
theorem ZVo:Zl Tryz.prog Zig.1 Zig.2:=Zp (C:=⟨Tryz.prog,[(39,0),(41,2),(43,3)],[ZXj],[],[],[],[],[]⟩) ⟨text_k,trivial⟩ trivial trivial trivial (inl:=[]) trivial (ann:=.two .no (.two .no (.two (.two .no (.cut ⟨⟨[],[],[]⟩,[(.norm,⟨[1],[],[.s 3 (.dat .str)]⟩)]⟩ .no)) (.two (.two .no (.cut ⟨⟨[],[],[]⟩,[(.norm,⟨[],[],[.s 3 (.dat .str)]⟩)]⟩ .no)) .no)))) Tryz.func38 (fun _ _=>by kernel_rfl) rfl fun v vals x z ha hz=>(qtext_i x).trans (ZVv hz)
noncomputable def ZHm (x:Rat):Option ((List UInt8)) :=
 bnd (Zqh x.num.natAbs) fun b =>
 bnd (ifb (decide (x.num<0))
 (bnd (ZGd x) fun d =>
 some (!(d)))
 (some false))
 (fun (e:Bool) =>
 (bnd (ifb (e)
 (bnd (Zjb ((([45]:List UInt8))++b)) fun j =>
 some (((([45]:List UInt8))++b)))
 (some b))
 (fun (a:(List UInt8)) =>
 (bnd (ZMd x) fun f =>
 bnd (ZTb ([(1:Int)])) fun g =>
 bnd (Zbd f g) fun h =>
 bnd (ifb (decide ((0:Int)<h))
 (bnd (Zjb (a++(([47]:List UInt8)))) fun k =>
 bnd (Zqh x.den) fun c =>
 bnd (Zjb (((a++(([47]:List UInt8))))++c)) fun l =>
 some ((((a++(([47]:List UInt8))))++c)))
 (some a))
 (fun (i:(List UInt8)) =>
 (some i))))))
end Go.Eng
set_option maxRecDepth 100000
set_option maxHeartbeats 4000000
namespace Go.Eng
open Go.Proofs Go.RowKit
noncomputable def ZZl:FuncId×Con:=(153,⟨[.leaf 1],[.str],fun p=>Zqh p⟩)
theorem ZTs (a:Nat):Zm ⟨Tryz.prog,[(91,1),(93,4)],[Zdh],[],[],[],[],[]⟩ [] Tryz.f153 (.two .no (.two .no (.two (.cut ⟨⟨[],[],[]⟩,[(.norm,⟨[],[],[.s 3 (.dat .str)]⟩)]⟩ (.two (.cut ⟨⟨[],[],[.s 0 (.dat (.leaf 1)),.s 3 (.dat .str)]⟩,[(.exit 0,⟨[],[],[.s 3 (.dat .str)]⟩)]⟩ (.two (.two .no (.two (.two .no (.two (.two .no (.cut ⟨⟨[],[],[]⟩,[(.norm,⟨[4],[],[.s 3 (.dat .str)]⟩)]⟩ (.two (.cut ⟨⟨[4],[],[.s 3 (.dat .str),.s 5 (.dat (.int .u32)),.s 6 (.dat (.int .i64))]⟩,[(.exit 2,⟨[4],[],[.s 3 (.dat .str)]⟩)]⟩ (.two (.two (.two (.cut ⟨⟨[],[],[]⟩,[(.norm,⟨[3,4,5,6],[],[.s 25 (.dat .bool)]⟩)]⟩ .no) .no) .no) .no)) .no))) .no)) .no)) .no)) .no)) .no))) [.leaf 1] [.str] (a)=Z4l a:=by kernel_rfl
theorem ZYw:Zl Tryz.prog ZZl.1 ZZl.2:=Zp (C:=⟨Tryz.prog,[(91,1),(93,4)],[Zdh],[],[],[],[],[]⟩) ⟨ZHr,trivial⟩ trivial trivial trivial (inl:=[]) trivial (ann:=.two .no (.two .no (.two (.cut ⟨⟨[],[],[]⟩,[(.norm,⟨[],[],[.s 3 (.dat .str)]⟩)]⟩ (.two (.cut ⟨⟨[],[],[.s 0 (.dat (.leaf 1)),.s 3 (.dat .str)]⟩,[(.exit 0,⟨[],[],[.s 3 (.dat .str)]⟩)]⟩ (.two (.two .no (.two (.two .no (.two (.two .no (.cut ⟨⟨[],[],[]⟩,[(.norm,⟨[4],[],[.s 3 (.dat .str)]⟩)]⟩ (.two (.cut ⟨⟨[4],[],[.s 3 (.dat .str),.s 5 (.dat (.int .u32)),.s 6 (.dat (.int .i64))]⟩,[(.exit 2,⟨[4],[],[.s 3 (.dat .str)]⟩)]⟩ (.two (.two (.two (.cut ⟨⟨[],[],[]⟩,[(.norm,⟨[3,4,5,6],[],[.s 25 (.dat .bool)]⟩)]⟩ .no) .no) .no) .no)) .no))) .no)) .no)) .no)) .no)) .no))) Tryz.func153 (fun _ _=>by kernel_rfl) rfl fun v vals x z ha hz=>(ZTs x).trans (Z7v hz)
end Go.Eng
set_option maxRecDepth 100000
set_option maxHeartbeats 4000000
namespace Go.Eng
open Go.Proofs Go.RowKit
noncomputable def ZDg:FuncId×Con:=(154,⟨[.leaf 4],[.bool],fun p=>ZGd p⟩)
theorem rzero_i (x:Rat):Zm ⟨Tryz.prog,[(91,1),(93,4)],[],[],[],[],[],[]⟩ [] Tryz.f154 .no [.leaf 4] [.bool] (x)=ZAm x:=by kernel_rfl
theorem Z3p:Zl Tryz.prog ZDg.1 ZDg.2:=Zp (C:=⟨Tryz.prog,[(91,1),(93,4)],[],[],[],[],[],[]⟩) trivial trivial trivial trivial (inl:=[]) trivial (ann:=.no) Tryz.func154 (fun _ _=>by kernel_rfl) rfl fun v vals x z ha hz=>(rzero_i x).trans (ZCx hz)
end Go.Eng
set_option maxRecDepth 100000
set_option maxHeartbeats 4000000
namespace Go.Eng
open Go.Proofs Go.RowKit
noncomputable def Zpf:FuncId×Con:=(156,⟨[.leaf 4],[.leaf 1],fun p=>ZMd p⟩)
theorem Zrw (x:Rat):Zm ⟨Tryz.prog,[(91,1),(93,4)],[],[],[],[],[],[]⟩ [] Tryz.f156 .no [.leaf 4] [.leaf 1] (x)=ZKn x:=by kernel_rfl
theorem Zqo:Zl Tryz.prog Zpf.1 Zpf.2:=Zp (C:=⟨Tryz.prog,[(91,1),(93,4)],[],[],[],[],[],[]⟩) trivial trivial trivial trivial (inl:=[]) trivial (ann:=.no) Tryz.func156 (fun _ _=>by kernel_rfl) rfl fun v vals x z ha hz=>(Zrw x).trans (Zyv hz)
theorem Z8s {x:Rat} {z:List UInt8} (h:ZWj x=some z):ZHm x=some z:=by
 unfold ZWj at h;split at h
 ·rename_i hh;obtain ⟨h1,h2⟩:=hh
  cases h
  unfold ZHm Zqh;have l1:=ZLj (n:=x.num.natAbs) (by omega);have l2:=ZLj (n:=x.den) (by omega);rw [if_pos (ZYf h1),Za];have e0:ifb (decide (x.num<0)) (bnd (ZGd x) fun y136=>some (!(y136))) (some false)=some (decide (x.num<0)):=by
   unfold ZGd;by_cases h:x.num<0
   ·have:x≠0:=fun e=>by subst e;simp at h
    rw [decide_eq_true h,Zg,Za,decide_eq_false this];rfl
   ·rw [decide_eq_false h,Zh]
  rw [e0,Za];have e1:ifb (decide (x.num<0)) (bnd (Zjb ([45]++ZPa x.num.natAbs)) fun y80=>some (([45]:List UInt8)++ZPa x.num.natAbs)) (some (ZPa x.num.natAbs))=some ((if x.num<0 then [45] else [])++ZPa x.num.natAbs):=by
   by_cases h:x.num<0
   ·rw [decide_eq_true h,Zg,Zke (by simp;omega),Za,if_pos h]
   ·rw [decide_eq_false h,Zh,if_neg h];rfl
  rw [e1,Za];unfold txtQ ZMd Zbd;have l3:((if x.num<0 then [45] else [])++ZPa x.num.natAbs:List UInt8).length≤4398046511105:=by
   rw [List.length_append];split <;> simp <;> omega
  generalize ((if x.num<0 then [45] else [])++ZPa x.num.natAbs:List UInt8)=s at *;rw [Za,Zxn,Za,Za,Zlq];by_cases hd:x.den=1
  ·rw [hd];simp [ifb,bnd]
  ·have:=x.den_nz;rw [decide_eq_true (by omega),Zg,Zke (by simp;omega),Za,if_pos (ZYf h2),Za,Zke (by simp;omega),Za,Za,if_neg hd];simp
 ·cases h
end Go.Eng
set_option maxRecDepth 100000
set_option maxHeartbeats 4000000
namespace Go.Eng
open Go.Proofs Go.RowKit
noncomputable def Zqj:FuncId×Con:=(116,⟨[.leaf 4],[.str],fun p=>ZWj p⟩)
theorem rtext_i (x:Rat):Zm ⟨Tryz.prog,[(91,1),(93,4)],[ZZl,ZDg,ZNe,Zpf],[],[],[],[],[]⟩ [] Tryz.f116 (.two .no (.two .no (.two (.two (.cut ⟨⟨[],[],[]⟩,[(.norm,⟨[1,3],[],[.s 13 (.dat .bool)]⟩)]⟩ .no) (.cut ⟨⟨[],[],[]⟩,[(.norm,⟨[1],[],[.s 3 (.dat .str)]⟩)]⟩ .no)) (.two (.two .no (.cut ⟨⟨[],[],[]⟩,[(.norm,⟨[],[],[.s 3 (.dat .str)]⟩)]⟩ .no)) .no)))) [.leaf 4] [.str] (x)=ZHm x:=by kernel_rfl
theorem rtext_k:Zl Tryz.prog Zqj.1 Zqj.2:=Zp (C:=⟨Tryz.prog,[(91,1),(93,4)],[ZZl,ZDg,ZNe,Zpf],[],[],[],[],[]⟩) ⟨ZYw,Z3p,Zxm,Zqo,trivial⟩ trivial trivial trivial (inl:=[]) trivial (ann:=.two .no (.two .no (.two (.two (.cut ⟨⟨[],[],[]⟩,[(.norm,⟨[1,3],[],[.s 13 (.dat .bool)]⟩)]⟩ .no) (.cut ⟨⟨[],[],[]⟩,[(.norm,⟨[1],[],[.s 3 (.dat .str)]⟩)]⟩ .no)) (.two (.two .no (.cut ⟨⟨[],[],[]⟩,[(.norm,⟨[],[],[.s 3 (.dat .str)]⟩)]⟩ .no)) .no)))) Tryz.func116 (fun _ _=>by kernel_rfl) rfl fun v vals x z ha hz=>(rtext_i x).trans (Z8s hz)
end Go.Eng
set_option maxRecDepth 100000
set_option maxHeartbeats 4000000
namespace Go.Eng
open Go.Proofs Go.RowKit
noncomputable def ZDj:FuncId×Con:=(67,⟨[.leaf 3,.leaf 4],[.bool],fun p=>is1_m p.1 p.2⟩)
theorem is1_i (x:Rat) (y:Rat):Zm ⟨Tryz.prog,[(39,0),(41,2),(43,3),(91,1),(93,4)],[Zig,Zqj],[],[],[],[],[]⟩ [] Tryz.f67 .no [.leaf 3,.leaf 4] [.bool] (x,y)=is1_m x y:=by kernel_rfl
theorem is1_k:Zl Tryz.prog ZDj.1 ZDj.2:=Zp (C:=⟨Tryz.prog,[(39,0),(41,2),(43,3),(91,1),(93,4)],[Zig,Zqj],[],[],[],[],[]⟩) ⟨ZVo,rtext_k,trivial⟩ trivial trivial trivial (inl:=[]) trivial (ann:=.no) Tryz.func67 (fun _ _=>by kernel_rfl) rfl fun v vals x z ha hz=>(is1_i x.1 x.2).trans (hz)
end Go.Eng
set_option maxRecDepth 100000
set_option maxHeartbeats 4000000
namespace Go.Eng
open Go.Proofs Go.RowKit
noncomputable def Zcl:FuncId×Con:=(120,⟨[.pair (.leaf 4) (.pair (.leaf 4) (.pair (.leaf 4) (.leaf 4)))],[.bool],fun p=>ZKk p⟩)
theorem sZero_i (x:Rat×Rat×Rat×Rat):Zm ⟨Tryz.prog,[(39,0),(41,2),(43,3),(91,1),(93,4)],[ZDg],[],[],[],[],[]⟩ [] Tryz.f120 (.two .no (.two (.cut ⟨⟨[],[],[]⟩,[(.norm,⟨[],[],[.s 2 (.dat .bool)]⟩)]⟩ .no) .no)) [.pair (.leaf 4) (.pair (.leaf 4) (.pair (.leaf 4) (.leaf 4)))] [.bool] (x)=ZKk x:=by kernel_rfl
theorem sZero_k:Zl Tryz.prog Zcl.1 Zcl.2:=Zp (C:=⟨Tryz.prog,[(39,0),(41,2),(43,3),(91,1),(93,4)],[ZDg],[],[],[],[],[]⟩) ⟨Z3p,trivial⟩ trivial trivial trivial (inl:=[]) trivial (ann:=(.two .no (.two (.cut ⟨⟨[],[],[]⟩,[(.norm,⟨[],[],[.s 2 (.dat .bool)]⟩)]⟩ .no) .no))) Tryz.func120 (fun _ _=>by kernel_rfl) rfl (fun v vals x z ha hz=>(sZero_i x).trans hz)
end Go.Eng
set_option maxRecDepth 100000
set_option maxHeartbeats 4000000
namespace Go.Eng
open Go.Proofs Go.RowKit
noncomputable def Zbl:FuncId×Con:=(76,⟨[.pair (.pair (.leaf 4) (.pair (.leaf 4) (.pair (.leaf 4) (.leaf 4)))) (.pair (.leaf 4) (.pair (.leaf 4) (.pair (.leaf 4) (.leaf 4))))],[.bool],fun p=>Zcn p⟩)
theorem wZero_i (x:(Rat×Rat×Rat×Rat)×Rat×Rat×Rat×Rat):Zm ⟨Tryz.prog,[(39,0),(41,2),(43,3),(91,1),(93,4)],[Zcl],[],[],[],[],[]⟩ [] Tryz.f76 (.two .no (.two (.cut ⟨⟨[],[],[]⟩,[(.norm,⟨[],[],[.s 2 (.dat .bool)]⟩)]⟩ .no) .no)) [.pair (.pair (.leaf 4) (.pair (.leaf 4) (.pair (.leaf 4) (.leaf 4)))) (.pair (.leaf 4) (.pair (.leaf 4) (.pair (.leaf 4) (.leaf 4))))] [.bool] (x)=Zcn x:=by kernel_rfl
theorem wZero_k:Zl Tryz.prog Zbl.1 Zbl.2:=Zp (C:=⟨Tryz.prog,[(39,0),(41,2),(43,3),(91,1),(93,4)],[Zcl],[],[],[],[],[]⟩) ⟨sZero_k,trivial⟩ trivial trivial trivial (inl:=[]) trivial (ann:=(.two .no (.two (.cut ⟨⟨[],[],[]⟩,[(.norm,⟨[],[],[.s 2 (.dat .bool)]⟩)]⟩ .no) .no))) Tryz.func76 (fun _ _=>by kernel_rfl) rfl (fun v vals x z ha hz=>(wZero_i x).trans hz)
theorem rneg_eq {x:Rat} (h:okQ x):Zyk x=some (-x):=by
 obtain ⟨h1,h2⟩:=h;unfold Zyk ZMd ZIb;rw [Za,if_pos ⟨ZYf h1,ZYf h2,x.den_nz⟩,Za];congr 1;have e:sgn (!(decide (x.num<0))) x.num.natAbs = -x.num:=by
  unfold sgn;by_cases h:x.num<0
  ·simp [h];omega
  ·simp [h];omega
 rw [e];exact Rat.mkRat_self (-x)
theorem ZQt {x z:Rat} (h:ZOf x=some z):Zyk x=some z:=by
 unfold ZOf at h;split at h
 ·rename_i hh;rw [rneg_eq hh,h]
 ·cases h
end Go.Eng
set_option maxRecDepth 100000
set_option maxHeartbeats 4000000
namespace Go.Eng
open Go.Proofs Go.RowKit
noncomputable def Zpj:FuncId×Con:=(158,⟨[.leaf 4],[.leaf 4],fun p=>ZOf p⟩)
theorem rneg_i (x:Rat):Zm ⟨Tryz.prog,[(91,1),(93,4)],[ZNd,Zpf],[],[],[],[],[]⟩ [] Tryz.f158 .no [.leaf 4] [.leaf 4] (x)=Zyk x:=by kernel_rfl
theorem rneg_k:Zl Tryz.prog Zpj.1 Zpj.2:=Zp (C:=⟨Tryz.prog,[(91,1),(93,4)],[ZNd,Zpf],[],[],[],[],[]⟩) ⟨ZQk,Zqo,trivial⟩ trivial trivial trivial (inl:=[]) trivial (ann:=.no) Tryz.func158 (fun _ _=>by kernel_rfl) rfl fun v vals x z ha hz=>(rneg_i x).trans (ZQt hz)
end Go.Eng
set_option maxRecDepth 100000
set_option maxHeartbeats 4000000
namespace Go.Eng
open Go.Proofs Go.RowKit
noncomputable def ZUl:FuncId×Con:=(119,⟨[.pair (.leaf 4) (.pair (.leaf 4) (.pair (.leaf 4) (.leaf 4)))],[.pair (.leaf 4) (.pair (.leaf 4) (.pair (.leaf 4) (.leaf 4)))],fun p=>Zsm p⟩)
theorem sNeg_i (x:Rat×Rat×Rat×Rat):Zm ⟨Tryz.prog,[(39,0),(41,2),(43,3),(91,1),(93,4)],[Zpj],[],[],[],[],[]⟩ [] Tryz.f119 .no [.pair (.leaf 4) (.pair (.leaf 4) (.pair (.leaf 4) (.leaf 4)))] [.pair (.leaf 4) (.pair (.leaf 4) (.pair (.leaf 4) (.leaf 4)))] (x)=Zsm x:=by kernel_rfl
theorem sNeg_k:Zl Tryz.prog ZUl.1 ZUl.2:=Zp (C:=⟨Tryz.prog,[(39,0),(41,2),(43,3),(91,1),(93,4)],[Zpj],[],[],[],[],[]⟩) ⟨rneg_k,trivial⟩ trivial trivial trivial (inl:=[]) trivial (ann:=.no) Tryz.func119 (fun _ _=>by kernel_rfl) rfl (fun v vals x z ha hz=>(sNeg_i x).trans hz)
end Go.Eng
set_option maxRecDepth 100000
set_option maxHeartbeats 4000000
namespace Go.Eng
open Go.Proofs Go.RowKit
noncomputable def Zjl:FuncId×Con:=(193,⟨[.leaf 1,.leaf 1],[.leaf 1],fun p=>Z5g p.1 p.2⟩)
theorem rsum_i (a:Nat) (b:Nat):Zm ⟨Tryz.prog,[(91,1),(93,4)],[Zib],[],[],[],[],[]⟩ [] Tryz.f193 (.two .no (.two .no (.two .no (.two (.two .no (.cut ⟨⟨[],[],[]⟩,[(.norm,⟨[],[],[.s 5 (.own 185 (.int .u32)),.s 6 (.dat (.int .u64))]⟩)]⟩ (.two (.cut ⟨⟨[0,1],[],[.s 5 (.own 185 (.int .u32)),.s 6 (.dat (.int .u64)),.s 7 (.dat (.int .i64))]⟩,[(.exit 0,⟨[],[],[.s 5 (.own 185 (.int .u32)),.s 6 (.dat (.int .u64))]⟩)]⟩ (.two (.two (.two (.cut ⟨⟨[],[],[]⟩,[(.norm,⟨[0,1,5,6,7],[],[.s 18 (.dat .bool)]⟩)]⟩ .no) .no) (.two (.two (.two (.two .no (.cut ⟨⟨[],[],[]⟩,[(.norm,⟨[0,1,5,7],[],[.s 6 (.dat (.int .u64))]⟩)]⟩ .no)) (.two (.two .no (.cut ⟨⟨[],[],[]⟩,[(.norm,⟨[0,1,5,7],[],[.s 6 (.dat (.int .u64))]⟩)]⟩ .no)) .no)) .no) .no)) .no)) .no))) .no)))) [.leaf 1,.leaf 1] [.leaf 1] (a,b)=Zok a b:=by kernel_rfl
theorem rsum_k:Zl Tryz.prog Zjl.1 Zjl.2:=Zp (C:=⟨Tryz.prog,[(91,1),(93,4)],[Zib],[],[],[],[],[]⟩) ⟨Zaf,trivial⟩ trivial trivial trivial (inl:=[]) trivial (ann:=.two .no (.two .no (.two .no (.two (.two .no (.cut ⟨⟨[],[],[]⟩,[(.norm,⟨[],[],[.s 5 (.own 185 (.int .u32)),.s 6 (.dat (.int .u64))]⟩)]⟩ (.two (.cut ⟨⟨[0,1],[],[.s 5 (.own 185 (.int .u32)),.s 6 (.dat (.int .u64)),.s 7 (.dat (.int .i64))]⟩,[(.exit 0,⟨[],[],[.s 5 (.own 185 (.int .u32)),.s 6 (.dat (.int .u64))]⟩)]⟩ (.two (.two (.two (.cut ⟨⟨[],[],[]⟩,[(.norm,⟨[0,1,5,6,7],[],[.s 18 (.dat .bool)]⟩)]⟩ .no) .no) (.two (.two (.two (.two .no (.cut ⟨⟨[],[],[]⟩,[(.norm,⟨[0,1,5,7],[],[.s 6 (.dat (.int .u64))]⟩)]⟩ .no)) (.two (.two .no (.cut ⟨⟨[],[],[]⟩,[(.norm,⟨[0,1,5,7],[],[.s 6 (.dat (.int .u64))]⟩)]⟩ .no)) .no)) .no) .no)) .no)) .no))) .no)))) Tryz.func193 (fun _ _=>by kernel_rfl) rfl fun v vals x z ha hz=>(rsum_i x.1 x.2).trans (Zft hz)
theorem radd_eq {x y:Rat} (h:smQ x) (h':smQ y):Zkl x y=some (x+y):=by
 obtain ⟨a1,a2⟩:=h;obtain ⟨b1,b2⟩:=h';unfold Zkl ZMd;have p1:=ZMb x.num.natAbs y.den;have p2:=ZMb y.num.natAbs x.den;have p3:=ZMb x.den y.den;have p4:=Z1m (x.num.natAbs*y.den) (y.num.natAbs*x.den);have hd:x.den*y.den≠0:=Nat.mul_ne_zero x.den_nz y.den_nz;have e1:Zsb x.num.natAbs y.den=some (x.num.natAbs*y.den):=by unfold Zsb;rw [if_pos ⟨Zzd (by omega),Zzd (by omega)⟩]
 have e2:Zsb y.num.natAbs x.den=some (y.num.natAbs*x.den):=by unfold Zsb;rw [if_pos ⟨Zzd (by omega),Zzd (by omega)⟩]
 have e3:Zsb x.den y.den=some (x.den*y.den):=by unfold Zsb;rw [if_pos ⟨Zzd (by omega),Zzd (by omega)⟩]
 have eN:((x.num.natAbs*y.den:Nat):Int)=(x.num.natAbs:Int)*y.den:=by simp
 have eM:((y.num.natAbs*x.den:Nat):Int)=(y.num.natAbs:Int)*x.den:=by simp
 have key:∀ (s:Bool) (n:Nat),bl n≤1099511627776→sgn s n=x.num*y.den+y.num*x.den→ZIb s n (x.den*y.den)=some (x+y):=by
  intro s n hn he;unfold ZIb;rw [if_pos ⟨ZYf hn,ZYf (by omega),hd⟩,he,← Rat.add_def']
 rw [Za,Za,e1,Za,e2,Za,e3];obtain ⟨N,hN⟩:∃ N,N=x.num.natAbs*y.den:=⟨_,rfl⟩;obtain ⟨M,hM⟩:∃ M,M=y.num.natAbs*x.den:=⟨_,rfl⟩;rw [← hN] at p1 p4 eN ⊢;rw [← hM] at p2 p4 eM ⊢;have sx:x.num*(y.den:Int)=if x.num<0 then -(N:Int) else N:=by
  split
  ·rw [eN,← Int.neg_mul];congr 1;omega
  ·rw [eN];congr 1;omega
 have sy:y.num*(x.den:Int)=if y.num<0 then -(M:Int) else M:=by
  split
  ·rw [eM,← Int.neg_mul];congr 1;omega
  ·rw [eM];congr 1;omega
 by_cases hs:(x.num<0)↔(y.num<0)
 ·have e4:Z5g N M=some (N+M):=by unfold Z5g;rw [if_pos ⟨Zzd (by omega),Zzd (by omega)⟩]
  have e5:((decide (x.num<0))==(decide (y.num<0)))=true:=by
   by_cases h:x.num<0
   ·simp [h,hs.1 h]
   ·have h2:¬ y.num<0:=fun k=>h (hs.2 k);simp [h,h2]
  rw [e5,Zg,e4,Za,Za,key _ _ (by omega) ?_,Za];rw [sx,sy];unfold sgn;by_cases h:x.num<0
  ·have h2:=hs.1 h;simp [h,h2];omega
  ·have h2:¬ y.num<0:=fun k=>h (hs.2 k);simp [h,h2]
 ·have e5:((decide (x.num<0))==(decide (y.num<0)))=false:=by
   apply beq_false_of_ne;intro h;exact hs (by by_cases k:x.num<0 <;> by_cases k2:y.num<0 <;> simp_all)
  rw [e5,Zh];unfold Zbd;rw [Za];by_cases hle:M≤N
  ·have e6:decide ((0:Int)≤Zda N M)=true:=by
    unfold Zda;rw [if_neg (by omega)];split <;> rfl
   have e4:ZOb N M=some (N-M):=by unfold ZOb;rw [if_pos ⟨Zzd (by omega),hle⟩]
   have hb:bl (N-M)≤bl N:=Zue (by omega);rw [e6,Zg,e4,Za,Za,key _ _ (by omega) ?_,Za];rw [sx,sy];unfold sgn;by_cases h:x.num<0
   ·have h2:¬ y.num<0:=fun k=>hs ⟨fun _=>k,fun _=>h⟩;simp [h,h2];omega
   ·have h2:y.num<0:=by
     rcases Int.lt_or_le y.num 0 with k | k
     ·exact k
     ·exact absurd ⟨fun q=>absurd q h,fun q=>absurd q (by omega)⟩ hs
    simp [h,h2];omega
  ·have e6:decide ((0:Int)≤Zda N M)=false:=by
    unfold Zda;rw [if_pos (by omega)];rfl
   have e4:ZOb M N=some (M-N):=by unfold ZOb;rw [if_pos ⟨Zzd (by omega),by omega⟩]
   have hb:bl (M-N)≤bl M:=Zue (by omega);rw [e6,Zh,e4,Za,Za,key _ _ (by omega) ?_,Za];rw [sx,sy];unfold sgn;by_cases h:x.num<0
   ·have h2:¬ y.num<0:=fun k=>hs ⟨fun _=>k,fun _=>h⟩;simp [h,h2];omega
   ·have h2:y.num<0:=by
     rcases Int.lt_or_le y.num 0 with k | k
     ·exact k
     ·exact absurd ⟨fun q=>absurd q h,fun q=>absurd q (by omega)⟩ hs
    simp [h,h2];omega
theorem ZNx {x y z:Rat} (h:ZDf x y=some z):Zkl x y=some z:=by
 unfold ZDf at h;split at h
 ·rename_i hh;rw [radd_eq hh.1 hh.2,h]
 ·cases h
end Go.Eng
set_option maxRecDepth 100000
set_option maxHeartbeats 4000000
namespace Go.Eng
open Go.Proofs Go.RowKit
noncomputable def ZXi:FuncId×Con:=(180,⟨[.leaf 4,.leaf 4],[.leaf 4],fun p=>ZDf p.1 p.2⟩)
theorem radd_i (x:Rat) (y:Rat):Zm ⟨Tryz.prog,[(91,1),(93,4)],[ZNd,ZNe,Zpf,Zlg,ZMg,Zjl],[],[],[],[],[]⟩ [] Tryz.f180 .no [.leaf 4,.leaf 4] [.leaf 4] (x,y)=Zkl x y:=by kernel_rfl
theorem radd_k:Zl Tryz.prog ZXi.1 ZXi.2:=Zp (C:=⟨Tryz.prog,[(91,1),(93,4)],[ZNd,ZNe,Zpf,Zlg,ZMg,Zjl],[],[],[],[],[]⟩) ⟨ZQk,Zxm,Zqo,ZBp,Z2o,rsum_k,trivial⟩ trivial trivial trivial (inl:=[]) trivial (ann:=.no) Tryz.func180 (fun _ _=>by kernel_rfl) rfl fun v vals x z ha hz=>(radd_i x.1 x.2).trans (ZNx hz)
end Go.Eng
set_option maxRecDepth 100000
set_option maxHeartbeats 4000000
namespace Go.Eng
open Go.Proofs Go.RowKit
noncomputable def ZOl:FuncId×Con:=(150,⟨[.pair (.leaf 4) (.pair (.leaf 4) (.pair (.leaf 4) (.leaf 4))),.pair (.leaf 4) (.pair (.leaf 4) (.pair (.leaf 4) (.leaf 4)))],[.pair (.leaf 4) (.pair (.leaf 4) (.pair (.leaf 4) (.leaf 4)))],fun p=>Zmo p.1 p.2⟩)
theorem sAdd_i (x:Rat×Rat×Rat×Rat) (y:Rat×Rat×Rat×Rat):Zm ⟨Tryz.prog,[(39,0),(41,2),(43,3),(91,1),(93,4)],[ZXi],[],[],[],[],[]⟩ [] Tryz.f150 .no [.pair (.leaf 4) (.pair (.leaf 4) (.pair (.leaf 4) (.leaf 4))),.pair (.leaf 4) (.pair (.leaf 4) (.pair (.leaf 4) (.leaf 4)))] [.pair (.leaf 4) (.pair (.leaf 4) (.pair (.leaf 4) (.leaf 4)))] (x,y)=Zmo x y:=by kernel_rfl
theorem sAdd_k:Zl Tryz.prog ZOl.1 ZOl.2:=Zp (C:=⟨Tryz.prog,[(39,0),(41,2),(43,3),(91,1),(93,4)],[ZXi],[],[],[],[],[]⟩) ⟨radd_k,trivial⟩ trivial trivial trivial (inl:=[]) trivial (ann:=.no) Tryz.func150 (fun _ _=>by kernel_rfl) rfl (fun v vals x z ha hz=>(sAdd_i x.1 x.2).trans hz)
end Go.Eng
set_option maxRecDepth 100000
set_option maxHeartbeats 4000000
namespace Go.Eng
open Go.Proofs Go.RowKit
noncomputable def Zsl:FuncId×Con:=(148,⟨[.pair (.leaf 4) (.pair (.leaf 4) (.pair (.leaf 4) (.leaf 4))),.pair (.leaf 4) (.pair (.leaf 4) (.pair (.leaf 4) (.leaf 4)))],[.pair (.leaf 4) (.pair (.leaf 4) (.pair (.leaf 4) (.leaf 4)))],fun p=>Z3k p.1 p.2⟩)
theorem sSub_i (x:Rat×Rat×Rat×Rat) (y:Rat×Rat×Rat×Rat):Zm ⟨Tryz.prog,[(39,0),(41,2),(43,3),(91,1),(93,4)],[ZUl,ZOl],[],[],[],[],[]⟩ [] Tryz.f148 .no [.pair (.leaf 4) (.pair (.leaf 4) (.pair (.leaf 4) (.leaf 4))),.pair (.leaf 4) (.pair (.leaf 4) (.pair (.leaf 4) (.leaf 4)))] [.pair (.leaf 4) (.pair (.leaf 4) (.pair (.leaf 4) (.leaf 4)))] (x,y)=Z3k x y:=by kernel_rfl
theorem sSub_k:Zl Tryz.prog Zsl.1 Zsl.2:=Zp (C:=⟨Tryz.prog,[(39,0),(41,2),(43,3),(91,1),(93,4)],[ZUl,ZOl],[],[],[],[],[]⟩) ⟨sNeg_k,sAdd_k,trivial⟩ trivial trivial trivial (inl:=[]) trivial (ann:=.no) Tryz.func148 (fun _ _=>by kernel_rfl) rfl (fun v vals x z ha hz=>(sSub_i x.1 x.2).trans hz)
end Go.Eng
set_option maxRecDepth 100000
set_option maxHeartbeats 4000000
namespace Go.Eng
open Go.Proofs Go.RowKit
noncomputable def ZMj:FuncId×Con:=(111,⟨[.pair (.pair (.leaf 4) (.pair (.leaf 4) (.pair (.leaf 4) (.leaf 4)))) (.pair (.leaf 4) (.pair (.leaf 4) (.pair (.leaf 4) (.leaf 4)))),.pair (.pair (.leaf 4) (.pair (.leaf 4) (.pair (.leaf 4) (.leaf 4)))) (.pair (.leaf 4) (.pair (.leaf 4) (.pair (.leaf 4) (.leaf 4))))],[.pair (.pair (.leaf 4) (.pair (.leaf 4) (.pair (.leaf 4) (.leaf 4)))) (.pair (.leaf 4) (.pair (.leaf 4) (.pair (.leaf 4) (.leaf 4))))],fun p=>Z7n p.1 p.2⟩)
theorem wSub_i (x:(Rat×Rat×Rat×Rat)×Rat×Rat×Rat×Rat) (y:(Rat×Rat×Rat×Rat)×Rat×Rat×Rat×Rat):Zm ⟨Tryz.prog,[(39,0),(41,2),(43,3),(91,1),(93,4)],[Zsl],[],[],[],[],[]⟩ [] Tryz.f111 .no [.pair (.pair (.leaf 4) (.pair (.leaf 4) (.pair (.leaf 4) (.leaf 4)))) (.pair (.leaf 4) (.pair (.leaf 4) (.pair (.leaf 4) (.leaf 4)))),.pair (.pair (.leaf 4) (.pair (.leaf 4) (.pair (.leaf 4) (.leaf 4)))) (.pair (.leaf 4) (.pair (.leaf 4) (.pair (.leaf 4) (.leaf 4))))] [.pair (.pair (.leaf 4) (.pair (.leaf 4) (.pair (.leaf 4) (.leaf 4)))) (.pair (.leaf 4) (.pair (.leaf 4) (.pair (.leaf 4) (.leaf 4))))] (x,y)=Z7n x y:=by kernel_rfl
theorem wSub_k:Zl Tryz.prog ZMj.1 ZMj.2:=Zp (C:=⟨Tryz.prog,[(39,0),(41,2),(43,3),(91,1),(93,4)],[Zsl],[],[],[],[],[]⟩) ⟨sSub_k,trivial⟩ trivial trivial trivial (inl:=[]) trivial (ann:=.no) Tryz.func111 (fun _ _=>by kernel_rfl) rfl (fun v vals x z ha hz=>(wSub_i x.1 x.2).trans hz)
end Go.Eng
set_option maxRecDepth 100000
set_option maxHeartbeats 4000000
namespace Go.Eng
open Go.Proofs Go.RowKit
noncomputable def ZIk:FuncId×Con:=(68,⟨[.pair (.pair (.leaf 4) (.pair (.leaf 4) (.pair (.leaf 4) (.leaf 4)))) (.pair (.leaf 4) (.pair (.leaf 4) (.pair (.leaf 4) (.leaf 4)))),.pair (.pair (.leaf 4) (.pair (.leaf 4) (.pair (.leaf 4) (.leaf 4)))) (.pair (.leaf 4) (.pair (.leaf 4) (.pair (.leaf 4) (.leaf 4))))],[.bool],fun p=>Zso p.1 p.2⟩)
theorem wSame_i (x:(Rat×Rat×Rat×Rat)×Rat×Rat×Rat×Rat) (y:(Rat×Rat×Rat×Rat)×Rat×Rat×Rat×Rat):Zm ⟨Tryz.prog,[(39,0),(41,2),(43,3),(91,1),(93,4)],[Zbl,ZMj],[],[],[],[],[]⟩ [] Tryz.f68 .no [.pair (.pair (.leaf 4) (.pair (.leaf 4) (.pair (.leaf 4) (.leaf 4)))) (.pair (.leaf 4) (.pair (.leaf 4) (.pair (.leaf 4) (.leaf 4)))),.pair (.pair (.leaf 4) (.pair (.leaf 4) (.pair (.leaf 4) (.leaf 4)))) (.pair (.leaf 4) (.pair (.leaf 4) (.pair (.leaf 4) (.leaf 4))))] [.bool] (x,y)=Zso x y:=by kernel_rfl
theorem wSame_k:Zl Tryz.prog ZIk.1 ZIk.2:=Zp (C:=⟨Tryz.prog,[(39,0),(41,2),(43,3),(91,1),(93,4)],[Zbl,ZMj],[],[],[],[],[]⟩) ⟨wZero_k,wSub_k,trivial⟩ trivial trivial trivial (inl:=[]) trivial (ann:=.no) Tryz.func68 (fun _ _=>by kernel_rfl) rfl (fun v vals x z ha hz=>(wSame_i x.1 x.2).trans hz)
end Go.Eng
set_option maxRecDepth 100000
set_option maxHeartbeats 4000000
namespace Go.Eng
open Go.Proofs Go.RowKit
noncomputable def ZEj:FuncId×Con:=(28,⟨[.slice (.leaf 3),.slice (.pair (.pair (.leaf 4) (.pair (.leaf 4) (.pair (.leaf 4) (.leaf 4)))) (.pair (.leaf 4) (.pair (.leaf 4) (.pair (.leaf 4) (.leaf 4)))))],[.bool],fun p=>is2_m p.1 p.2⟩)
theorem is2_i (x:List Rat) (y:List ((Rat×Rat×Rat×Rat)×Rat×Rat×Rat×Rat)):Zm ⟨Tryz.prog,[(39,0),(41,2),(43,3),(91,1),(93,4)],[ZPg,ZDj,ZIk],[],[],[],[],[]⟩ [] Tryz.f28 (.two .no (.two .no (.two (.two .no (.two (.cut ⟨⟨[0,1,12],[],[.s 13 (.dat (.int .i64))]⟩,[(.exit 0,⟨[],[],[]⟩),(.ret,⟨[],[],[.s 1000 (.dat .bool)]⟩)]⟩ (.two (.two .no (.two .no (.two (.two (.two .no (.two (.cut ⟨⟨[],[],[]⟩,[(.norm,⟨[0,1,12,13],[],[.s 42 (.dat .bool)]⟩)]⟩ .no) .no)) .no) .no))) .no)) .no)) .no))) [.slice (.leaf 3),.slice (.pair (.pair (.leaf 4) (.pair (.leaf 4) (.pair (.leaf 4) (.leaf 4)))) (.pair (.leaf 4) (.pair (.leaf 4) (.pair (.leaf 4) (.leaf 4)))))] [.bool] (x,y)=is2_m x y:=by kernel_rfl
theorem is2_k:Zl Tryz.prog ZEj.1 ZEj.2:=Zp (C:=⟨Tryz.prog,[(39,0),(41,2),(43,3),(91,1),(93,4)],[ZPg,ZDj,ZIk],[],[],[],[],[]⟩) ⟨Zcr,is1_k,wSame_k,trivial⟩ trivial trivial trivial (inl:=[]) trivial (ann:=(.two .no (.two .no (.two (.two .no (.two (.cut ⟨⟨[0,1,12],[],[.s 13 (.dat (.int .i64))]⟩,[(.exit 0,⟨[],[],[]⟩),(.ret,⟨[],[],[.s 1000 (.dat .bool)]⟩)]⟩ (.two (.two .no (.two .no (.two (.two (.two .no (.two (.cut ⟨⟨[],[],[]⟩,[(.norm,⟨[0,1,12,13],[],[.s 42 (.dat .bool)]⟩)]⟩ .no) .no)) .no) .no))) .no)) .no)) .no)))) Tryz.func28 (fun _ _=>by kernel_rfl) rfl (fun v vals x z ha hz=>(is2_i x.1 x.2).trans hz)
end Go.Eng
set_option maxRecDepth 100000
set_option maxHeartbeats 4000000
namespace Go.Eng
open Go.Proofs Go.RowKit
noncomputable def Zul:FuncId×Con:=(33,⟨[.slice (.slice (.leaf 3)),.slice (.slice (.pair (.pair (.leaf 4) (.pair (.leaf 4) (.pair (.leaf 4) (.leaf 4)))) (.pair (.leaf 4) (.pair (.leaf 4) (.pair (.leaf 4) (.leaf 4))))))],[.bool],fun p=>ZLl p.1 p.2⟩)
theorem ZGw (x:List (List Rat)) (y:List (List ((Rat×Rat×Rat×Rat)×Rat×Rat×Rat×Rat))):Zm ⟨Tryz.prog,[(39,0),(41,2),(43,3),(91,1),(93,4)],[ZEj],[],[],[],[],[]⟩ [] Tryz.f33 (.two .no (.two .no (.two (.two .no (.two (.cut ⟨⟨[0,1,12],[],[.s 13 (.dat (.int .i64))]⟩,[(.exit 0,⟨[],[],[]⟩),(.ret,⟨[],[],[.s 1000 (.dat .bool)]⟩)]⟩ .no) .no)) .no))) [.slice (.slice (.leaf 3)),.slice (.slice (.pair (.pair (.leaf 4) (.pair (.leaf 4) (.pair (.leaf 4) (.leaf 4)))) (.pair (.leaf 4) (.pair (.leaf 4) (.pair (.leaf 4) (.leaf 4))))))] [.bool] (x,y)=ZLl x y:=by kernel_rfl
theorem Z2v:Zl Tryz.prog Zul.1 Zul.2:=Zp (C:=⟨Tryz.prog,[(39,0),(41,2),(43,3),(91,1),(93,4)],[ZEj],[],[],[],[],[]⟩) ⟨is2_k,trivial⟩ trivial trivial trivial (inl:=[]) trivial (ann:=(.two .no (.two .no (.two (.two .no (.two (.cut ⟨⟨[0,1,12],[],[.s 13 (.dat (.int .i64))]⟩,[(.exit 0,⟨[],[],[]⟩),(.ret,⟨[],[],[.s 1000 (.dat .bool)]⟩)]⟩ .no) .no)) .no)))) Tryz.func33 (fun _ _=>by kernel_rfl) rfl (fun v vals x z ha hz=>(ZGw x.1 x.2).trans hz)
end Go.Eng
set_option maxRecDepth 100000
set_option maxHeartbeats 4000000
namespace Go.Eng
open Go.Proofs Go.RowKit
noncomputable def Z6g:FuncId×Con:=(79,⟨[.slice (.pair (.int .i64) (.int .i64))],[.slice (.pair (.leaf 4) (.pair (.leaf 4) (.pair (.leaf 4) (.leaf 4))))],fun p=>Zoi p⟩)
theorem Z0u (l:List (Int×Int)):Zm ⟨Tryz.prog,[(39,0),(41,2),(43,3),(91,1),(93,4)],[Zqg,ZLg],[],[],[],[],[]⟩ [] Tryz.f79 (.two .no (.two .no (.two (.two .no (.two (.cut ⟨⟨[6,7],[],[.s 3 (.own 95 (.pair (.leaf 4) (.pair (.leaf 4) (.pair (.leaf 4) (.leaf 4))))),.s 8 (.dat (.int .i64))]⟩,[(.exit 0,⟨[],[],[.s 3 (.own 95 (.pair (.leaf 4) (.pair (.leaf 4) (.pair (.leaf 4) (.leaf 4)))))]⟩)]⟩ .no) .no)) .no))) [.slice (.pair (.int .i64) (.int .i64))] [.slice (.pair (.leaf 4) (.pair (.leaf 4) (.pair (.leaf 4) (.leaf 4))))] (l)=Zoi l:=by kernel_rfl
theorem ZMp:Zl Tryz.prog Z6g.1 Z6g.2:=Zp (C:=⟨Tryz.prog,[(39,0),(41,2),(43,3),(91,1),(93,4)],[Zqg,ZLg],[],[],[],[],[]⟩) ⟨rof_k,Zgp,trivial⟩ trivial trivial trivial (inl:=[]) trivial (ann:=(.two .no (.two .no (.two (.two .no (.two (.cut ⟨⟨[6,7],[],[.s 3 (.own 95 (.pair (.leaf 4) (.pair (.leaf 4) (.pair (.leaf 4) (.leaf 4))))),.s 8 (.dat (.int .i64))]⟩,[(.exit 0,⟨[],[],[.s 3 (.own 95 (.pair (.leaf 4) (.pair (.leaf 4) (.pair (.leaf 4) (.leaf 4)))))]⟩)]⟩ .no) .no)) .no)))) Tryz.func79 (fun _ _=>by kernel_rfl) rfl (fun v vals x z ha hz=>(Z0u x).trans hz)
end Go.Eng
set_option maxRecDepth 100000
set_option maxHeartbeats 4000000
namespace Go.Eng
open Go.Proofs Go.RowKit
noncomputable def Z4j:FuncId×Con:=(78,⟨[.slice (.slice (.pair (.int .i64) (.int .i64)))],[.slice (.slice (.pair (.leaf 4) (.pair (.leaf 4) (.pair (.leaf 4) (.leaf 4)))))],fun p=>ZUm p⟩)
theorem ZQu (m:List (List (Int×Int))):Zm ⟨Tryz.prog,[(39,0),(41,2),(43,3),(91,1),(93,4)],[Z6g],[],[],[],[],[]⟩ [] Tryz.f78 (.two .no (.two .no (.two (.two .no (.two (.cut ⟨⟨[0,3,9],[],[.s 10 (.dat (.int .i64)),.l (.sl 3) (.own 79 (.slice (.pair (.leaf 4) (.pair (.leaf 4) (.pair (.leaf 4) (.leaf 4))))))]⟩,[(.exit 0,⟨[3],[],[.l (.sl 3) (.own 79 (.slice (.pair (.leaf 4) (.pair (.leaf 4) (.pair (.leaf 4) (.leaf 4))))))]⟩)]⟩ .no) .no)) .no))) [.slice (.slice (.pair (.int .i64) (.int .i64)))] [.slice (.slice (.pair (.leaf 4) (.pair (.leaf 4) (.pair (.leaf 4) (.leaf 4)))))] (m)=ZUm m:=by kernel_rfl
theorem Zrt:Zl Tryz.prog Z4j.1 Z4j.2:=Zp (C:=⟨Tryz.prog,[(39,0),(41,2),(43,3),(91,1),(93,4)],[Z6g],[],[],[],[],[]⟩) ⟨ZMp,trivial⟩ trivial trivial trivial (inl:=[]) trivial (ann:=(.two .no (.two .no (.two (.two .no (.two (.cut ⟨⟨[0,3,9],[],[.s 10 (.dat (.int .i64)),.l (.sl 3) (.own 79 (.slice (.pair (.leaf 4) (.pair (.leaf 4) (.pair (.leaf 4) (.leaf 4))))))]⟩,[(.exit 0,⟨[3],[],[.l (.sl 3) (.own 79 (.slice (.pair (.leaf 4) (.pair (.leaf 4) (.pair (.leaf 4) (.leaf 4))))))]⟩)]⟩ .no) .no)) .no)))) Tryz.func78 (fun _ _=>by kernel_rfl) rfl (fun v vals x z ha hz=>(ZQu x).trans hz)
end Go.Eng
set_option maxRecDepth 100000
set_option maxHeartbeats 4000000
namespace Go.Eng
open Go.Proofs Go.RowKit
noncomputable def Z3i:FuncId×Con:=(36,⟨[.slice (.slice (.pair (.int .i64) (.int .i64))),.slice (.pair (.int .i64) (.int .i64)),.slice (.pair (.int .i64) (.int .i64))],[.pair (.slice (.slice (.leaf 3))) (.pair (.slice (.leaf 3)) (.slice (.leaf 3))),.pair (.slice (.slice (.pair (.leaf 4) (.pair (.leaf 4) (.pair (.leaf 4) (.leaf 4)))))) (.pair (.slice (.pair (.leaf 4) (.pair (.leaf 4) (.pair (.leaf 4) (.leaf 4))))) (.slice (.pair (.leaf 4) (.pair (.leaf 4) (.pair (.leaf 4) (.leaf 4))))))],fun p=>Zdn p.1 p.2.1 p.2.2⟩)
theorem Zlt (a:List (List (Int×Int))) (b:List (Int×Int)) (c:List (Int×Int)):Zm ⟨Tryz.prog,[(39,0),(41,2),(43,3),(91,1),(93,4)],[Zef,ZJe,Z4j,Z6g],[],[],[],[],[]⟩ [] Tryz.f36 .no [.slice (.slice (.pair (.int .i64) (.int .i64))),.slice (.pair (.int .i64) (.int .i64)),.slice (.pair (.int .i64) (.int .i64))] [.pair (.slice (.slice (.leaf 3))) (.pair (.slice (.leaf 3)) (.slice (.leaf 3))),.pair (.slice (.slice (.pair (.leaf 4) (.pair (.leaf 4) (.pair (.leaf 4) (.leaf 4)))))) (.pair (.slice (.pair (.leaf 4) (.pair (.leaf 4) (.pair (.leaf 4) (.leaf 4))))) (.slice (.pair (.leaf 4) (.pair (.leaf 4) (.pair (.leaf 4) (.leaf 4))))))] (a,b,c)=Zdn a b c:=by kernel_rfl
theorem ZVt:Zl Tryz.prog Z3i.1 Z3i.2:=Zp (C:=⟨Tryz.prog,[(39,0),(41,2),(43,3),(91,1),(93,4)],[Zef,ZJe,Z4j,Z6g],[],[],[],[],[]⟩) ⟨Z5n,Zbm,Zrt,ZMp,trivial⟩ trivial trivial trivial (inl:=[]) trivial (ann:=.no) Tryz.func36 (fun _ _=>by kernel_rfl) rfl (fun v vals x z ha hz=>(Zlt x.1 x.2.1 x.2.2).trans hz)
end Go.Eng
