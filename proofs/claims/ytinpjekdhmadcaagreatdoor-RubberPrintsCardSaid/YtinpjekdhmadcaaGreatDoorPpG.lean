/- Lemmas towards the statement: the engine of the walks, the functions' models, laws and walks, part 7. Conditions: as each states. -/
import Derived.Deep.LoopGhost
import Derived.Deep.RegionHeld3
import Derived.Defers
import Derived.Laws.Pointers
import Derived.Recover
import Derived.Shelf.Strings.Builder1
import Derived.Shelf.Strings.BuilderK
import Derived.Shelf.Strings.OnBuilder
import Derived.Shelf.Strings.Repeat
import Derived.Shelf.Strings.Split
import Derived.Tactics
import Derived.Tactics2
import Derived.Test.YtinpjekdhmadcaaGreatDoorProg
import Derived.WalkKit
import Derived.WalkLawsBesides
import Derived.WalkSmall
import Derived.Test.YtinpjekdhmadcaaGreatDoorPpF
set_option linter.all false
set_option maxRecDepth 100000
namespace Go.Eng
open Go.Proofs Go.RowKit
theorem whole_c {d:World} {a:Zb} (hv:VIn a d) {b:List Value} {s:Bool} (f:Rep.rel Znb a b s) {c:List Value} {n:Nat} (g:Rep.rel Zu a c n) {z:Int} (hm:ZOa s n=some z) :
  Ret Tryz.prog 90 #[Znb.val b,Zu.val c] d a (λy v'=>∃ e,y=Zkb.val e∧Zkb.rel v' e z) :=
 (ZKo d a [Znb.val b,Zu.val c] (s,n) z hv ⟨b,_,rfl,f,c,rfl,g⟩ hm).2
theorem Z8r {b:World} {a:Zb} (hv:VIn a b) {c:List Value} {fv:Nat} (e:Rep.rel (ZB .f64) a c fv) {z:Nat} (H:Z4j fv=some z):Ret Tryz.prog 155 #[(ZB .f64).val c] b a (λy v'=>∃ d,y=(ZB .f64).val d∧(ZB .f64).rel v' d z):=by
 obtain⟨rfl,g⟩:=e;refine ZWb (K:=7) (args:=[.float .f64 fv]) hv Tryz.func155 rfl rfl zl λf S=>?_;unfold Z4j at H;refine sr (mw S rfl λf S=>oe (sr (mv S rfl λf S=>ov S rfl (Zlc S [.float .f64 fv] (Zxh Zqi) rfl rfl) λf S=>ov S rfl (Zw S rfl rfl ZEi) λf S=>ov S rfl (Zlc S [.int .u64 (Zpc .u64 ((fv:Int)) (9223372036854775808:Int))] (ZOh Zth) rfl rfl) λf S=>mw S rfl λf S=>oe (wp_ret ?_))));obtain rfl:=Zt H;refine Zta S (Zvb rfl (ZY S rfl)) ⟨[.float .f64 ((Zpc .u64 ((fv:Int)) (9223372036854775808:Int)).toNat)],rfl,(Zba (Zaj (Zub _ _)))⟩
theorem Zpo {d:World} {c:Zb} (hv:VIn c d) {e:List Value} {x:Nat} (i:Rep.rel (ZB .f64) c e x) {z:Nat×Int} (H:Zwk x=some z):Ret Tryz.prog 166 #[(ZB .f64).val e] d c (λy v'=>∃ g a,y = .tuple #[(ZB .f64).val g,(Zd .i64).val a]∧(ZB .f64).rel v' g z.1∧(Zd .i64).rel v' a z.2):=by
 obtain⟨rfl,a⟩:=i;refine ZWb (K:=10) (args:=[.float .f64 x]) hv Tryz.func166 rfl rfl zl λf S=>?_;unfold Zwk at H;refine sr (mw S rfl λf S=>mw S rfl λf S=>oe (Zo λ_ j=>Zo λ_ k=>bO H λl m H=>Zz (mv S rfl λf S=>opc S rfl (ZO S [.float .f64 x] ZDr rfl rfl) (Z8r S.vin (show Rep.rel (ZB .f64) _ [.float .f64 x] x from (Zba a)) m) ?_)));rintro _ q f w r ⟨s,rfl,n⟩ S;obtain⟨rfl,t⟩:=n;refine ov S rfl (Z5o S rfl rfl) λf S=>Zx (Zh (k _ _ ?_));rcases Z7 (fLt .f64 l ((4503599627370496:Nat))) with b | b
 ·have H:=Z9 H b;refine Zoa S rfl b (Zo λ_ o=>bO H λp h H=>Zz (mv S rfl λf S=>ov S rfl (Zsr S rfl rfl h) λf S=>mw S rfl λf S=>mw S rfl λf S=>Zx (Zh (o _ _ (wp_ret (Z4b ?_))))));obtain rfl:=Zt H;refine Zta S (Zzc rfl (ZY S rfl) (ZY S rfl)) ⟨[.float .f64 p],[.int .i64 (-52:Int)],rfl,(Zba (Zre h).2),(ZS (by decide))⟩
 have H:=Zaa H b;refine Zea S rfl b (wp_skip (Zh (j _ _ (sr (mv S rfl λf S=>mw S rfl λf S=>mw S rfl λf S=>oe (wp_ret ?_))))));obtain rfl:=Zt H;refine Zta S (Zzc rfl (ZY S rfl) (ZY S rfl)) ⟨[.float .f64 x],[.int .i64 0],rfl,(Zba a),(ZS (by decide))⟩
theorem ZQm {e:World} {a:Zb} (hv:VIn a e) {j:List Value} {fv:Nat} (q:Rep.rel (ZB .f64) a j fv) {k:List Value} {sign:Int} (r:Rep.rel (Zd .i64) a k sign) {z:Bool} (H:Z6f fv sign=some z):Ret Tryz.prog 133 #[(ZB .f64).val j,(Zd .i64).val k] e a (λy v'=>∃ l,y=Znb.val l∧Znb.rel v' l z):=by
 obtain⟨rfl,m⟩:=q;obtain⟨rfl,J⟩:=r;refine ZWb (K:=15) (args:=[.float .f64 fv,.int .i64 sign]) hv Tryz.func133 rfl rfl zl λf S=>?_;unfold Z6f at H;refine sr (mw S rfl λf S=>oe (Zo λ_ s=>sr (mv S rfl λf S=>ov S rfl (Zw S rfl rfl Z8g) λf S=>oe ?_)));obtain⟨t,u,v⟩:=ZG H;refine Zrb (λf w=>∃ b h,b=t∧Zb.le a h∧St 15 e a [(0,.float .f64 b)] [] h f w∧b<18446744073709551616) (λ_ n=>?_) ?_
 ·have H:=u;rcases Z7 (sign==(0:Int)) with c | c
  ·have H:=Z9 H c;refine Zoa S rfl c (bO H λL x H=>Zz (mv S rfl λf S=>opc S rfl (ZO S [.float .f64 fv] ZDr rfl rfl) (Z8r S.vin (show Rep.rel (ZB .f64) _ [.float .f64 fv] fv from (Zba m)) x) ?_));rintro _ M f w A ⟨N,rfl,B⟩ S;obtain⟨rfl,C⟩:=B;refine mw S rfl λf S=>Zx ?_;obtain rfl:=Zt H;refine Zh (n _ _ ⟨_,_,rfl,(leT (leR _) A),(S.fr' rfl),C⟩)
  have H:=Zaa H c;refine Zea S rfl c (sr (mv S rfl λf S=>ov S rfl (Zw S rfl rfl ZRd) λf S=>oe ?_));obtain⟨D,E,F⟩:=ZG H;refine Zrb (λf w=>∃ g i,g=D∧Zb.le a i∧St 15 e a [(0,.float .f64 g)] [] i f w∧g<18446744073709551616) (λ_ o=>?_) ?_
  ·have H:=E;rcases Z7 (decide (sign<(0:Int))) with d | d
   ·have H:=Z9 H d;refine Zoa S rfl d (bO H λO p H=>Zz (mv S rfl λf S=>ov S rfl (Zzz S rfl p) λf S=>mw S rfl λf S=>Zx ?_));obtain rfl:=Zt H;refine Zh (o _ _ ⟨_,_,rfl,(leR _),(S.fr' rfl),(Zre p).2⟩)
   have H:=Zaa H d;refine Zea S rfl d (wp_skip ?_);obtain rfl:=Zt H;refine Zh (o _ _ ⟨_,_,rfl,(leR _),(S.fr' rfl),m⟩)
  rintro f w ⟨g,i,hq,G,S,I⟩;subst hq;have H:=F;obtain rfl:=Zt H;refine Zh (n _ _ ⟨_,_,rfl,(leT (leR _) G),(S.fr' rfl),I⟩)
 rintro f w ⟨b,h,hq,P,S,Q⟩;subst hq;have H:=v;refine Zh (s _ _ (sr (mv S rfl λf S=>ov S rfl (run_fGt S rfl rfl) λf S=>mw S rfl λf S=>oe (wp_ret ?_))));obtain rfl:=Zt H;refine Zta S (Zvb rfl (ZY S rfl)) ⟨[.bool (fGt .f64 b ((9218868437227405311:Nat)))],rfl,Zoh⟩
theorem Zyn {b:World} {a:Zb} (hv:VIn a b) {c:List Value} {fv:Nat} (e:Rep.rel (ZB .f64) a c fv) {z:Bool} (H:ZSe fv=some z):Ret Tryz.prog 132 #[(ZB .f64).val c] b a (λy v'=>∃ d,y=Znb.val d∧Znb.rel v' d z):=by
 obtain⟨rfl,g⟩:=e;refine ZWb (K:=6) (args:=[.float .f64 fv]) hv Tryz.func132 rfl rfl zl λf S=>?_;unfold ZSe at H;refine sr (mw S rfl λf S=>oe (sr (mv S rfl λf S=>mv S rfl λf S=>ov S rfl (run_fNe S rfl rfl) λf S=>mw S rfl λf S=>oe (wp_ret ?_))));obtain rfl:=Zt H;refine Zta S (Zvb rfl (ZY S rfl)) ⟨[.bool (fNe .f64 fv fv)],rfl,Zoh⟩
theorem frexp_w {j:World} {c:Zb} (hv:VIn c j) {l:List Value} {fv:Nat} (r:Rep.rel (ZB .f64) c l fv) {z:Nat×Int} (H:ZEn fv=some z):Ret Tryz.prog 157 #[(ZB .f64).val l] j c (λy v'=>∃ m a,y = .tuple #[(ZB .f64).val m,(Zd .i64).val a]∧(ZB .f64).rel v' m z.1∧(Zd .i64).rel v' a z.2):=by
 obtain⟨rfl,a⟩:=r;refine ZWb (K:=38) (args:=[.float .f64 fv]) hv Tryz.func157 rfl rfl zl λf S=>?_;unfold ZEn at H;refine sr (mw S rfl λf S=>mw S rfl λf S=>oe (Zo λ_ s=>wp_block (sr (mv S rfl λf S=>ov S rfl (ZMo S rfl rfl) λf S=>mw S rfl λf S=>oe ?_))));rcases Z7 (fEq .f64 fv ((0:Nat))) with d | d
 ·have H:=Z9 H d;refine Zoa S rfl d (sr (mv S rfl λf S=>mw S rfl λf S=>mw S rfl λf S=>oe (wp_ret (Z3g (Z4b ?_)))));obtain rfl:=Zt H;refine Zta S (Zzc rfl (ZY S rfl) (ZY S rfl)) ⟨[.float .f64 fv],[.int .i64 0],rfl,(Zba a),(ZS (by decide))⟩
 have H:=Zaa H d;refine Zea S rfl d (Zo λ_ u=>?_);obtain⟨v,x,A⟩:=ZG H;refine Zrb (λf w=>∃ h k,h=v∧Zb.le c k∧St 38 j c [(0,.float .f64 fv),(9,.bool h)] [] k f w) (λ_ n=>?_) ?_
 ·have H:=x;refine bO H λB C H=>Zz (mv S rfl λf S=>opc S rfl (ZO S [.float .f64 fv,.int .i64 0] Zxm rfl rfl) (ZQm S.vin (show Rep.rel (ZB .f64) _ [.float .f64 fv] fv from (Zba a)) (show Rep.rel (Zd .i64) _ [.int .i64 0] (0:Int) from (ZS (by decide))) C) ?_);rintro _ R f w o ⟨T,rfl,D⟩ S;obtain rfl:=D;refine mv S rfl λf S=>?_;rcases Z7 (B) with e | e
  ·have H:=Z9 H e;have S:=S.bool (t:=12) rfl e;refine opn S rfl rfl rfl rfl λf S=>opn S rfl rfl rfl rfl λf S=>ov S rfl (ZEc S (b:=true) rfl rfl) λf S=>mw S rfl λf S=>Zx ?_;obtain rfl:=Zt H;refine Zh (n _ _ ⟨_,_,rfl,(leT (leR _) o),(S.fr' rfl)⟩)
  have H:=Zaa H e;have S:=S.bool (t:=12) rfl e;refine bO H λU E H=>opy S rfl rfl rfl rfl (Z3 S rfl) λf S=>ZHk S (ZQe S rfl rfl rfl zl) rfl zl (ZO S [.float .f64 fv] Zdm rfl rfl) (Zyn S.vin (show Rep.rel (ZB .f64) _ [.float .f64 fv] fv from (Zba a)) E) ?_;rintro _ V f w F ⟨W,rfl,G⟩ S;obtain rfl:=G;refine ov S rfl (ZEc S (b:=false) rfl rfl) λf S=>mw S rfl λf S=>Zx ?_;obtain rfl:=Zt H;refine Zh (n _ _ ⟨_,_,rfl,(leT (leT (leR _) o) F),(S.fr' rfl)⟩)
 rintro f w ⟨h,k,hq,X,S⟩;subst hq;have H:=A;refine Zh (u _ _ ?_);rcases Z7 (h) with g | g
 ·have H:=Z9 H g;refine Zoa S rfl g (sr (mv S rfl λf S=>mw S rfl λf S=>mw S rfl λf S=>oe (wp_ret (Z3g (Z4b ?_)))));obtain rfl:=Zt H;refine Zta S (Zzc rfl (ZY S rfl) (ZY S rfl)) ⟨[.float .f64 fv],[.int .i64 0],rfl,(Zba a),(ZS (by decide))⟩
 have H:=Zaa H g;refine Zea S rfl g (wp_skip (Zkd (Zh (s _ _ (Zo λ_ I=>bO H λi J H=>Zz (mv S rfl λf S=>opc S rfl (ZO S [.float .f64 fv] ZMq rfl rfl) (Zpo S.vin (show Rep.rel (ZB .f64) _ [.float .f64 fv] fv from (Zba a)) J) ?_))))));rintro _ Y f w Z ⟨aa,ab,rfl,L,M⟩ S;obtain⟨rfl,ac⟩:=L;obtain⟨rfl,ad⟩:=M;refine mv S rfl λf S=>ov S rfl (Zka S rfl rfl) λf S=>ov S rfl (Zka S rfl rfl) λf S=>mw S rfl λf S=>mw S rfl λf S=>Zx (Zh (I _ _ (sr (mv S rfl λf S=>ov S rfl (Zlc S [.float .f64 i.1] (Zxh Zqi) rfl rfl) λf S=>mw S rfl λf S=>oe (Zo λ_ N=>bO H λae O H=>?_)))));refine bO H λaf P H=>bO H λag Q H=>bO H λp q H=>Zz (mv S rfl λf S=>mv S rfl λf S=>ov S rfl (Zw S rfl rfl (Z3m O)) λf S=>ov S rfl (Zw S rfl rfl Z9j) λf S=>ov S rfl (Z0e S rfl (Zmq _)) λf S=>ov S rfl (Zw S rfl rfl (Ztb P)) λf S=>ov S rfl (Zw S rfl rfl (ZYc Q)) λf S=>ov S rfl (Zw S rfl rfl (ZYc q)) λf S=>mw S rfl λf S=>Zx ?_);refine Zh (N _ _ (sr (mv S rfl λf S=>ov S rfl (Zw S rfl rfl ZEi) λf S=>mw S rfl λf S=>oe (sr (mv S rfl λf S=>ov S rfl (Zw S rfl rfl Zuj) λf S=>mw S rfl λf S=>?_)))));have S:=S.fr' (σ':=[(3,.int .i64 p),(4,.int .u64 (orI .u64 (Zpc .u64 ((i.1:Int)) (9218868437227405312:Int)) (4602678819172646912:Int)))]) rfl
 refine oe (sr (mv S rfl λf S=>ov S rfl (Zlc S [.int .u64 (orI .u64 (Zpc .u64 ((i.1:Int)) (9218868437227405312:Int)) (4602678819172646912:Int))] (ZOh Zth) rfl rfl) λf S=>mw S rfl λf S=>oe (wp_ret ?_)));obtain rfl:=Zt H;refine Zta S (Zzc rfl (ZY S rfl) (ZY S rfl)) ⟨[.float .f64 ((orI .u64 (Zpc .u64 ((i.1:Int)) (9218868437227405312:Int)) (4602678819172646912:Int)).toNat)],[.int .i64 p],rfl,(Zba (Zaj (Zub _ _))),(ZS (Zcb q).2)⟩
theorem Frexp_w {c:World} {b:Zb} (hv:VIn b c) {d:List Value} {fv:Nat} (h:Rep.rel (ZB .f64) b d fv) {z:Nat×Int} (H:ZHl fv=some z):Ret Tryz.prog 134 #[(ZB .f64).val d] c b (λy v'=>∃ e a,y = .tuple #[(ZB .f64).val e,(Zd .i64).val a]∧(ZB .f64).rel v' e z.1∧(Zd .i64).rel v' a z.2):=by
 obtain⟨rfl,a⟩:=h;refine ZWb (K:=12) (args:=[.float .f64 fv]) hv Tryz.func134 rfl rfl zl λf S=>?_;unfold ZHl at H;refine sr (mw S rfl λf S=>mw S rfl λf S=>oe (Zo λ_ i=>Zea S rfl rfl (wp_skip (Zh (i _ _ (Zo λ_ j=>bO H λg k H=>Zz (mv S rfl λf S=>opc S rfl (ZO S [.float .f64 fv] k_en157 rfl rfl) (frexp_w S.vin (show Rep.rel (ZB .f64) _ [.float .f64 fv] fv from (Zba a)) k) ?_)))))));rintro _ p f w q ⟨r,s,rfl,l,m⟩ S;obtain⟨rfl,n⟩:=l;obtain⟨rfl,o⟩:=m;refine ov S rfl (Zka S rfl rfl) λf S=>ov S rfl (Zka S rfl rfl) λf S=>mw S rfl λf S=>mw S rfl λf S=>Zx (Zh (j _ _ (wp_ret ?_)));obtain rfl:=Zt H;refine Zta S (Zzc rfl (ZY S rfl) (ZY S rfl)) ⟨[.float .f64 g.1],[.int .i64 (g.2)],rfl,(Zba n),(ZS o)⟩
theorem Z0u {b:World} {a:Zb} (hv:VIn a b) {c:List Value} {fv:Nat} (g:Rep.rel (ZB .f64) a c fv) {d:List Value} {sign:Nat} (h:Rep.rel (ZB .f64) a d sign) {z:Nat} (H:ZVm fv sign=some z):Ret Tryz.prog 167 #[(ZB .f64).val c,(ZB .f64).val d] b a (λy v'=>∃ e,y=(ZB .f64).val e∧(ZB .f64).rel v' e z):=by
 obtain⟨rfl,i⟩:=g;obtain⟨rfl,j⟩:=h;refine ZWb (K:=13) (args:=[.float .f64 fv,.float .f64 sign]) hv Tryz.func167 rfl rfl zl λf S=>?_;unfold ZVm at H;refine sr (mw S rfl λf S=>oe (sr (mv S rfl λf S=>ov S rfl (Zlc S [.float .f64 fv] (Zxh Zqi) rfl rfl) λf S=>ov S rfl (Zw S rfl rfl ZEi) λf S=>mv S rfl λf S=>ov S rfl (Zlc S [.float .f64 sign] (Zxh Zqi) rfl rfl) λf S=>ov S rfl (Zw S rfl rfl Z9j) λf S=>ov S rfl (Zw S rfl rfl Zuj) λf S=>ov S rfl (Zlc S [.int .u64 (orI .u64 (Zpc .u64 ((fv:Int)) (9223372036854775808:Int)) (ZEa .u64 ((sign:Int)) (9223372036854775808:Int)))] (ZOh Zth) rfl rfl) λf S=>mw S rfl λf S=>oe ?_)));refine wp_ret ?_;obtain rfl:=Zt H;refine Zta S (Zvb rfl (ZY S rfl)) ⟨[.float .f64 ((orI .u64 (Zpc .u64 ((fv:Int)) (9223372036854775808:Int)) (ZEa .u64 ((sign:Int)) (9223372036854775808:Int))).toNat)],rfl,(Zba (Zaj (Zub _ _)))⟩
theorem ZFt {d:World} {b:Zb} (hv:VIn b d) {g:List Value} {sign:Int} (j:Rep.rel (Zd .i64) b g sign) {z:Nat} (H:ZJi sign=some z):Ret Tryz.prog 168 #[(Zd .i64).val g] d b (λy v'=>∃ h,y=(ZB .f64).val h∧(ZB .f64).rel v' h z):=by
 obtain⟨rfl,p⟩:=j;refine ZWb (K:=8) (args:=[.int .i64 sign]) hv Tryz.func168 rfl rfl zl λf S=>?_;unfold ZJi at H;refine sr (mw S rfl λf S=>oe (sr (mw S rfl λf S=>oe (Zo λ_ k=>sr (mv S rfl λf S=>ov S rfl (Zw S rfl rfl Zci) λf S=>oe ?_)))));obtain⟨l,m,n⟩:=ZG H;refine Zrb (λf w=>∃ a e,a=l∧Zb.le b e∧St 8 d b [(3,.int .u64 a)] [] e f w∧inR .u64 a) (λ_ i=>?_) ?_
 ·have H:=m;rcases Z7 (decide ((0:Int)≤sign)) with c | c
  ·have H:=Z9 H c;refine Zoa S rfl c (Zz (mw S rfl λf S=>Zx ?_));obtain rfl:=Zt H;refine Zh (i _ _ ⟨_,_,rfl,(leR _),(S.fr' rfl),(by decide)⟩)
  have H:=Zaa H c;refine Zea S rfl c (Zz (mw S rfl λf S=>Zx ?_));obtain rfl:=Zt H;refine Zh (i _ _ ⟨_,_,rfl,(leR _),(S.fr' rfl),(by decide)⟩)
 rintro f w ⟨a,e,hq,q,S,o⟩;subst hq;have H:=n;refine Zh (k _ _ (sr (mv S rfl λf S=>ov S rfl (Zlc S [.int .u64 a] (ZOh Zth) rfl rfl) λf S=>mw S rfl λf S=>oe (wp_ret ?_))));obtain rfl:=Zt H;refine Zta S (Zvb rfl (ZY S rfl)) ⟨[.float .f64 a.toNat],rfl,(Zba (Zaj o))⟩
theorem ldexp_w {n:World} {c:Zb} (hv:VIn c n) {u:List Value} {frac:Nat} (I:Rep.rel (ZB .f64) c u frac) {v:List Value} {ex:Int} (J:Rep.rel (Zd .i64) c v ex) {z:Nat} (H:Zsn frac ex=some z):Ret Tryz.prog 159 #[(ZB .f64).val u,(Zd .i64).val v] n c (λy v'=>∃ x,y=(ZB .f64).val x∧(ZB .f64).rel v' x z):=by
 obtain⟨rfl,d⟩:=I;obtain⟨rfl,r2⟩:=J;refine ZWb (K:=63) (args:=[.float .f64 frac,.int .i64 ex]) hv Tryz.func159 rfl rfl zl λf S=>?_;unfold Zsn at H;refine sr (mw S rfl λf S=>oe (Zo λ_ L=>wp_block (sr (mv S rfl λf S=>ov S rfl (ZMo S rfl rfl) λf S=>mw S rfl λf S=>oe ?_))));rcases Z7 (fEq .f64 frac ((0:Nat))) with e | e
 ·have H:=Z9 H e;refine Zoa S rfl e (sr (mv S rfl λf S=>mw S rfl λf S=>oe (wp_ret (Z3g (Z4b ?_)))));obtain rfl:=Zt H;refine Zta S (Zvb rfl (ZY S rfl)) ⟨[.float .f64 frac],rfl,(Zba d)⟩
 have H:=Zaa H e;refine Zea S rfl e (Zo λ_ M=>?_);obtain⟨N,O,P⟩:=ZG H;refine Zrb (λf w=>∃ o r,o=N∧Zb.le c r∧St 63 n c [(0,.float .f64 frac),(1,.int .i64 ex),(12,.bool o)] [] r f w) (λ_ A=>?_) ?_
 ·have H:=O;refine bO H λQ R H=>Zz (mv S rfl λf S=>opc S rfl (ZO S [.float .f64 frac,.int .i64 0] Zxm rfl rfl) (ZQm S.vin (show Rep.rel (ZB .f64) _ [.float .f64 frac] frac from (Zba d)) (show Rep.rel (Zd .i64) _ [.int .i64 0] (0:Int) from (ZS (by decide))) R) ?_);rintro _ aM f w B ⟨aN,rfl,T⟩ S;obtain rfl:=T;refine mv S rfl λf S=>?_;rcases Z7 (Q) with g | g
  ·have H:=Z9 H g;have S:=S.bool (t:=15) rfl g;refine opn S rfl rfl rfl rfl λf S=>opn S rfl rfl rfl rfl λf S=>ov S rfl (ZEc S (b:=true) rfl rfl) λf S=>mw S rfl λf S=>Zx ?_;obtain rfl:=Zt H;refine Zh (A _ _ ⟨_,_,rfl,(leT (leR _) B),(S.fr' rfl)⟩)
  have H:=Zaa H g;have S:=S.bool (t:=15) rfl g;refine bO H λaO U H=>opy S rfl rfl rfl rfl (Z3 S rfl) λf S=>ZHk S (ZQe S rfl rfl rfl zl) rfl zl (ZO S [.float .f64 frac] Zdm rfl rfl) (Zyn S.vin (show Rep.rel (ZB .f64) _ [.float .f64 frac] frac from (Zba d)) U) ?_;rintro _ aP f w V ⟨aQ,rfl,W⟩ S;obtain rfl:=W;refine ov S rfl (ZEc S (b:=false) rfl rfl) λf S=>mw S rfl λf S=>Zx ?_;obtain rfl:=Zt H;refine Zh (A _ _ ⟨_,_,rfl,(leT (leT (leR _) B) V),(S.fr' rfl)⟩)
 rintro f w ⟨o,r,hq,aR,S⟩;subst hq;have H:=P;refine Zh (M _ _ ?_);rcases Z7 (o) with h | h
 ·have H:=Z9 H h;refine Zoa S rfl h (sr (mv S rfl λf S=>mw S rfl λf S=>oe (wp_ret (Z3g (Z4b ?_)))));obtain rfl:=Zt H;refine Zta S (Zvb rfl (ZY S rfl)) ⟨[.float .f64 frac],rfl,(Zba d)⟩
 have H:=Zaa H h;refine Zea S rfl h (wp_skip (Zkd (Zh (L _ _ (Zo λ_ X=>bO H λa Y H=>Zz (mv S rfl λf S=>opc S rfl (ZO S [.float .f64 frac] ZMq rfl rfl) (Zpo S.vin (show Rep.rel (ZB .f64) _ [.float .f64 frac] frac from (Zba d)) Y) ?_))))));rintro _ Z f w aS ⟨aT,aU,rfl,aa,ab⟩ S;obtain⟨rfl,ac⟩:=aa;obtain⟨rfl,aV⟩:=ab;refine mv S rfl λf S=>ov S rfl (Zka S rfl rfl) λf S=>ov S rfl (Zka S rfl rfl) λf S=>mw S rfl λf S=>mw S rfl λf S=>Zx (Zh (X _ _ (Zo λ_ ad=>bO H λaW ae H=>Zz (mv S rfl λf S=>mv S rfl λf S=>ov S rfl (Zw S rfl rfl (ZYc ae)) λf S=>mw S rfl λf S=>?_))));refine Zx (Zh (ad _ _ (sr (mv S rfl λf S=>ov S rfl (Zlc S [.float .f64 a.1] (Zxh Zqi) rfl rfl) λf S=>mw S rfl λf S=>oe (Zo λ_ af=>bO H λaX ag H=>bO H λaY ah H=>bO H λi C H=>Zz (mv S rfl λf S=>mv S rfl λf S=>?_))))));refine ov S rfl (Zw S rfl rfl (Z3m ag)) λf S=>ov S rfl (Z0e S rfl (Zmq _)) λf S=>ov S rfl (Zw S rfl rfl Z9j) λf S=>ov S rfl (Zw S rfl rfl (Ztb ah)) λf S=>ov S rfl (Zw S rfl rfl (ZYc C)) λf S=>mw S rfl λf S=>Zx (Zh (af _ _ (Zo λ_ ai=>sr (mv S rfl λf S=>ov S rfl (Zw S rfl rfl ZRd) λf S=>oe ?_))))
 rcases Z7 (decide (i<(-1075:Int))) with j | j
 ·have H:=Z9 H j;refine Zoa S rfl j (Zo λ_ aj=>bO H λD ak H=>Zz (mv S rfl λf S=>opc S rfl (ZO S [.float .f64 ((0:Nat)),.float .f64 a.1] k_en167 rfl rfl) (Z0u S.vin (show Rep.rel (ZB .f64) _ [.float .f64 ((0:Nat))] ((0:Nat)) from (Zba (by decide))) (show Rep.rel (ZB .f64) _ [.float .f64 a.1] a.1 from (Zba ac)) ak) ?_));rintro _ aZ f w a0 ⟨a1,rfl,al⟩ S;obtain⟨rfl,am⟩:=al;refine mw S rfl λf S=>Zx ?_;have S:=S.fr' (σ':=[(4,.float .f64 D)]) rfl;refine Zh (aj _ _ (wp_ret (Z4b ?_)));obtain rfl:=Zt H;refine Zta S (Zvb rfl (ZY S rfl)) ⟨[.float .f64 D],rfl,(Zba am)⟩
 have H:=Zaa H j;refine Zea S rfl j (wp_skip (Zh (ai _ _ (Zo λ_ an=>sr (mv S rfl λf S=>ov S rfl (Zw S rfl rfl ZSg) λf S=>?_)))));have S:=S.fr' (σ':=[(0,.float .f64 a.1),(1,.int .i64 i),(6,.int .u64 ((a.1:Int))),(42,.bool (decide ((1023:Int)<i)))]) rfl;refine oe ?_;rcases Z7 (decide ((1023:Int)<i)) with k | k
 ·have H:=Z9 H k;refine Zoa S rfl k (Zo λ_ ao=>sr (mv S rfl λf S=>ov S rfl (Z5o S rfl rfl) λf S=>oe ?_));rcases Z7 (fLt .f64 a.1 ((0:Nat))) with l | l
  ·have H:=Z9 H l;refine Zoa S rfl l (Zo λ_ ap=>bO H λaq ar H=>Zz (opc S rfl (ZO S [.int .i64 (-1:Int)] ZEq rfl rfl) (ZFt S.vin (show Rep.rel (Zd .i64) _ [.int .i64 (-1:Int)] (-1:Int) from (ZS (by decide))) ar) ?_));rintro _ a2 f w a3 ⟨a4,rfl,au⟩ S;obtain⟨rfl,av⟩:=au;refine mw S rfl λf S=>Zx (Zh (ap _ _ (wp_ret (Z4b (Z4b ?_)))));obtain rfl:=Zt H;refine Zta S (Zvb rfl (ZY S rfl)) ⟨[.float .f64 aq],rfl,(Zba av)⟩
  have H:=Zaa H l;refine Zea S rfl l (wp_skip (Zh (ao _ _ (Zo λ_ aw=>bO H λax ay H=>Zz (opc S rfl (ZO S [.int .i64 1] ZEq rfl rfl) (ZFt S.vin (show Rep.rel (Zd .i64) _ [.int .i64 1] (1:Int) from (ZS (by decide))) ay) ?_)))));rintro _ a5 f w a6 ⟨a7,rfl,az⟩ S;obtain⟨rfl,aA⟩:=az;refine mw S rfl λf S=>Zx (Zh (aw _ _ (wp_ret (Z4b ?_))));obtain rfl:=Zt H;refine Zta S (Zvb rfl (ZY S rfl)) ⟨[.float .f64 ax],rfl,(Zba aA)⟩
 have H:=Zaa H k;refine Zea S rfl k (wp_skip (Zh (an _ _ (sr (mw S rfl λf S=>oe (Zo λ_ aB=>sr (mv S rfl λf S=>ov S rfl (Zw S rfl rfl ZRd) λf S=>oe ?_)))))));obtain⟨aC,aD,aE⟩:=ZG H;refine Zrb (λf w=>∃ p q s,(p,q)=aC∧Zb.le Z s∧St 63 n c [(1,.int .i64 p),(6,.int .u64 ((a.1:Int))),(7,.float .f64 q)] [] s f w∧inR .i64 p∧q<18446744073709551616) (λ_ E=>?_) ?_
 ·have H:=aD;rcases Z7 (decide (i<(-1022:Int))) with m | m
  ·have H:=Z9 H m;refine Zoa S rfl m (Zo λ_ aF=>bO H λa8 F H=>Zz (mv S rfl λf S=>ov S rfl (Zw S rfl rfl (ZYc F)) λf S=>mw S rfl λf S=>Zx (Zh (aF _ _ (Zz (mw S rfl λf S=>Zx ?_))))));obtain rfl:=Zt H;refine Zh (E _ _ ⟨_,_,_,rfl,(leR _),(S.fr' rfl),(Zcb F).2,(by decide)⟩)
  have H:=Zaa H m;refine Zea S rfl m (wp_skip ?_);obtain rfl:=Zt H;refine Zh (E _ _ ⟨_,_,_,rfl,(leR _),(S.fr' rfl),(Zcb C).2,(by decide)⟩)
 rintro f w ⟨p,q,s,hq,a9,S,ba,bb⟩;subst hq;have H:=aE;refine Zh (aB _ _ (sr (mv S rfl λf S=>ov S rfl (Zw S rfl rfl ZEi) λf S=>mw S rfl λf S=>oe (Zo λ_ aG=>bO H λbc aH H=>bO H λaI aJ H=>Zz (mv S rfl λf S=>mv S rfl λf S=>ov S rfl (Zw S rfl rfl (ZYc aH)) λf S=>ov S rfl (Z0e S rfl (ZBu _)) λf S=>?_)))));refine ov S rfl (Zw S rfl rfl (Zsp aJ)) λf S=>ov S rfl (Zw S rfl rfl Zuj) λf S=>mw S rfl λf S=>Zx (Zh (aG _ _ (Zo λ_ aK=>bO H λaL G H=>Zz (mv S rfl λf S=>mv S rfl λf S=>ov S rfl (Zlc S [.int .u64 (orI .u64 (Zpc .u64 ((a.1:Int)) (9218868437227405312:Int)) aI)] (ZOh Zth) rfl rfl) λf S=>ov S rfl (Zsr S rfl rfl G) λf S=>mw S rfl λf S=>Zx ?_))));refine Zh (aK _ _ (wp_ret ?_));obtain rfl:=Zt H;refine Zta S (Zvb rfl (ZY S rfl)) ⟨[.float .f64 aL],rfl,(Zba (Zre G).2)⟩
theorem Ldexp_w {b:World} {a:Zb} (hv:VIn a b) {c:List Value} {frac:Nat} (g:Rep.rel (ZB .f64) a c frac) {d:List Value} {ex:Int} (h:Rep.rel (Zd .i64) a d ex) {z:Nat} (H:ZNn frac ex=some z):Ret Tryz.prog 135 #[(ZB .f64).val c,(Zd .i64).val d] b a (λy v'=>∃ e,y=(ZB .f64).val e∧(ZB .f64).rel v' e z):=by
 obtain⟨rfl,i⟩:=g;obtain⟨rfl,j⟩:=h;refine ZWb (K:=11) (args:=[.float .f64 frac,.int .i64 ex]) hv Tryz.func135 rfl rfl zl λf S=>?_;unfold ZNn at H;refine sr (mw S rfl λf S=>oe (Zo λ_ k=>Zea S rfl rfl (wp_skip (Zh (k _ _ (Zo λ_ l=>bO H λm n H=>Zz (mv S rfl λf S=>mv S rfl λf S=>opc S rfl (ZO S [.float .f64 frac,.int .i64 ex] k_en159 rfl rfl) (ldexp_w S.vin (show Rep.rel (ZB .f64) _ [.float .f64 frac] frac from (Zba i)) (show Rep.rel (Zd .i64) _ [.int .i64 ex] ex from (ZS j)) n) ?_)))))));rintro _ q f w r ⟨s,rfl,o⟩ S;obtain⟨rfl,p⟩:=o;refine mw S rfl λf S=>Zx (Zh (l _ _ (wp_ret ?_)));obtain rfl:=Zt H;refine Zta S (Zvb rfl (ZY S rfl)) ⟨[.float .f64 m],rfl,(Zba p)⟩
theorem Z6x {u:World} {h:Zb} (hv:VIn h u) {D:List Value} {fv:Nat} (V:Rep.rel (ZB .f64) h D fv) {z:Rat×Int} (H:Zje fv=some z):Ret Tryz.prog 102 #[(ZB .f64).val D] u h (λy v'=>∃ E c,y = .tuple #[ZUa.val E,(Zd .i64).val c]∧ZUa.rel v' E z.1∧(Zd .i64).rel v' c z.2):=by
 obtain⟨rfl,c⟩:=V;refine ZWb (K:=41) (args:=[.float .f64 fv]) hv Tryz.func102 rfl rfl zl λf S=>?_;unfold Zje at H;refine sr (Z0h S wn rfl zl (cs:=[.bool false,.slice none 0 0,.slice none 0 0]) (Zzg ZIs) λn f w S=>mw S rfl λf S=>oe (Zo λ_ W=>Zo λ_ X=>?_));obtain⟨Y,Z,aa⟩:=ZG H;refine Zrb (λf w=>∃ o v,o=Y∧Zb.le h v∧St 41 u h [(0,.float .f64 fv),(2,.pointer (some ⟨n,0,none⟩)),(12,.bool o)] [Loc.box n 46 [.bool false,.slice none 0 0,.slice none 0 0]] v f w) (λ_ G=>?_) ?_
 ·have H:=Z;refine bO H λab ac H=>Zz (mv S rfl λf S=>opc S rfl (ZO S [.float .f64 fv] Zdm rfl rfl) (Zyn S.vin (show Rep.rel (ZB .f64) _ [.float .f64 fv] fv from (Zba c)) ac) ?_);rintro _ aT f w I ⟨aU,rfl,ad⟩ S;obtain rfl:=ad;refine mv S rfl λf S=>?_;rcases Z7 (ab) with i | i
  ·have H:=Z9 H i;have S:=S.bool (t:=9) rfl i;refine opn S rfl rfl rfl rfl λf S=>opn S rfl rfl rfl rfl λf S=>ov S rfl (ZEc S (b:=true) rfl rfl) λf S=>Zx ?_;obtain rfl:=Zt H;refine Zh (G _ _ ⟨_,_,rfl,(leT (leR _) I),(S.fr' rfl)⟩)
  have H:=Zaa H i;have S:=S.bool (t:=9) rfl i;refine bO H λaV ae H=>opy S rfl rfl rfl rfl (Z3 S rfl) λf S=>ZHk S (ZQe S rfl rfl rfl zl) rfl zl (ZO S [.float .f64 fv,.int .i64 0] Zxm rfl rfl) (ZQm S.vin (show Rep.rel (ZB .f64) _ [.float .f64 fv] fv from (Zba c)) (show Rep.rel (Zd .i64) _ [.int .i64 0] (0:Int) from (ZS (by decide))) ae) ?_;rintro _ aW f w af ⟨aX,rfl,ag⟩ S;obtain rfl:=ag;refine ov S rfl (ZEc S (b:=false) rfl rfl) λf S=>Zx ?_;obtain rfl:=Zt H;refine Zh (G _ _ ⟨_,_,rfl,(leT (leT (leR _) I) af),(S.fr' rfl)⟩)
 rintro f w ⟨o,v,hq,aY,S⟩;subst hq;have H:=aa;refine Zh (X _ _ ?_);rcases Z7 (o) with j | j
 ·have H:=Z9 H j;refine Zoa S rfl j (sr (ov S rfl (ZOj S [] rfl (z:=.agg #[.bool false,.slice none 0 0,.slice none 0 0]) (by kernel_rfl)) λf S=>?_));obtain⟨w,ah,S⟩:=sbp S [.bool false,.slice none 0 0,.slice none 0 0] ZHe 0 0 rfl;refine ZTf wn rfl (ah rfl rfl) (mw S rfl λf S=>oe (wp_ret (Z4b ?_)));obtain rfl:=Zt H;refine Zta S (Zzc rfl (rag3 S rfl ZHe 0 rfl rfl) (ZY S rfl)) ⟨[.bool false,.slice none 0 0,.slice none 0 0],[.int .i64 1],rfl,(Z2q _),(ZS (by decide))⟩
 have H:=Zaa H j;refine Zea S rfl j (wp_skip (Zh (W _ _ (Zo λ_ ai=>bO H λx aj H=>Zz (mv S rfl λf S=>opc S rfl (ZO S [.float .f64 fv] k_en134 rfl rfl) (Frexp_w S.vin (show Rep.rel (ZB .f64) _ [.float .f64 fv] fv from (Zba c)) aj) ?_)))));rintro _ aZ f w a0 ⟨a1,a2,rfl,ak,al⟩ S;obtain⟨rfl,am⟩:=ak;obtain⟨rfl,a3⟩:=al;refine mv S rfl λf S=>ov S rfl (Zka S rfl rfl) λf S=>ov S rfl (Zka S rfl rfl) λf S=>mw S rfl λf S=>mw S rfl λf S=>Zx (Zh (ai _ _ (Zo λ_ an=>bO H λa4 ao H=>bO H λA J H=>bO H λB ap H=>Zz (mv S rfl λf S=>opc S rfl (ZO S [.float .f64 x.1,.int .i64 53] k_en135 rfl rfl) (Ldexp_w S.vin (show Rep.rel (ZB .f64) _ [.float .f64 x.1] x.1 from (Zba am)) (show Rep.rel (Zd .i64) _ [.int .i64 53] (53:Int) from (ZS (by decide))) ao) ?_))));rintro _ a5 f w a6 ⟨a7,rfl,aq⟩ S;obtain⟨rfl,a8⟩:=aq;refine ov S rfl (Z0e S rfl (conv_fI Tryz.underlying180 Tryz.underlying2 J)) λf S=>opc S rfl (ZO S [.int .i64 A] k_en31 rfl rfl) (of_c S.vin (show Rep.rel (Zd .i64) _ [.int .i64 A] A from (ZS (Zbw J))) ap) ?_;rintro _ a9 f w ba ⟨bb,rfl,k⟩ S;obtain⟨l,d,e,g,rfl⟩:=Z3f k;refine Z0h S wn rfl zl (cs:=[.bool false,.slice none 0 0]) (Zzg k_zv44) λbc f w S=>?_
 obtain⟨w,ar,S⟩:=sbp S [.bool l,.slice d e g] Z5i 0 0 rfl;refine ZTf wn rfl (ar rfl rfl) (Zx (Zh (an _ _ (Zo λ_ au=>Zo λ_ av=>bO H λa L H=>Zz (mv S rfl λf S=>ov S rfl (Zw S rfl rfl (Ztb L)) λf S=>mw S rfl λf S=>Zx (Zh (av _ _ (sr (mv S rfl λf S=>?_)))))))));refine ov S rfl (Zw S rfl rfl Zci) λf S=>oe ?_;rcases Z7 (decide ((0:Int)≤a)) with m | m
 ·have H:=Z9 H m;refine Zoa S rfl m (Zo λ_ aw=>bO H λbd ax H=>bO H λbe ay H=>ZSh (fl:=#[true,true,true,true,true,false,false,true,false,false]) ZNh (by kernel_rfl) S ?_);intro ops O F w S;refine rfa O F 0 rfl rfl S (Ztk S rfl ZOo) λf S=>?_;obtain⟨rfl,az⟩:=Zzs k;refine rfa O F 1 rfl rfl S (lo S rfl k_sz4 0 rfl rfl) λf S=>rfa O F 2 rfl rfl S (Ztk S rfl ZMv) λf S=>rfa O F 3 rfl rfl S (lo S rfl k_sz42 0 rfl rfl) λf S=>rfa O F 4 rfl rfl S (Z3 S rfl) λf S=>go1 O F 5 (nxc [3,4,2] [0,1] O rfl S rfl (ZO S [.slice d e g,.int .i64 a] ZMi rfl rfl) (Znk S.vin az (show Rep.rel (Zd .i64) _ [.int .i64 a] a from (ZS (Zcb L).2)) ax) ?_);rintro _ bf f w bg ⟨bh,rfl,M⟩ S;obtain⟨aA,aB,aC,rfl⟩:=ZGa M;refine⟨(py S rfl rfl (Ztk S rfl ZOo) (py S rfl rfl (lo S rfl k_sz4 0 rfl rfl) Z2b)),go1 O F 6 (nxc [1,5,0,3,4,2] [] O rfl S rfl (ZO S [.bool (decide (B<0)),.slice aA aB aC] k_en90 rfl rfl) (whole_c S.vin (show Rep.rel Znb _ [.bool (decide (B<0))] (decide (B<0)) from Zoh) M ay) ?_)⟩;rintro _ bi f w bj ⟨bk,rfl,N⟩ S;obtain⟨p,q,r,s,rfl⟩:=Z3f N;refine⟨Z2b,rfa O F 7 rfl rfl S (ZOj S [(0,.agg #[.bool p,.slice q r s])] rfl (z:=.agg #[.bool p,.slice q r s,.slice none 0 0]) (by kernel_rfl)) λf S=>go1 O F 8 ?_⟩
  obtain⟨w,aD,S⟩:=sbp S [.bool p,.slice q r s,.slice none 0 0] ZHe 0 1 rfl;refine nxs [0,1,2,3,4,5,6,7] [] O rfl rfl (aD rfl rfl) (⟨Z2b,go1 O F 9 (nva [0,1,2,3,4,5,6,7,8] [] O rfl rfl S (Z9d S rfl) λf S=>⟨Z2b,fin1 O F ?_⟩)⟩);have S:=S.fr' (σ':=[(2,.pointer (some ⟨n,0,none⟩)),(3,.int .i64 0)]) rfl;refine Zh (aw _ _ (wp_ret (Z4b (bO H λbm aE H=>?_))));have aF:=Zms N (Zvg _) aE;obtain rfl:=Zt H;refine Zta S (Zzc rfl (rag3 S rfl ZHe 1 rfl rfl) (ZY S rfl)) ⟨[.bool p,.slice q r s,.slice none 0 0],[.int .i64 0],rfl,aF,(ZS (by decide))⟩
 have H:=Zaa H m;refine Zea S rfl m (wp_skip (Zh (au _ _ (Zo λ_ aG=>bO H λbn aH H=>bO H λbo aI H=>bO H λbp aJ H=>ZSh (fl:=#[true,false,true,true,false,false,false,false]) ZNh (by kernel_rfl) S ?_))));intro ops O F w S;refine rfa O F 0 rfl rfl S (la S (cs:=[.bool l,.slice d e g]) rfl Z5i 0 rfl rfl rfl) λf S=>rfa O F 2 rfl rfl S (Z3 S rfl) λf S=>rfa O F 3 rfl rfl S (ZWl S rfl) λf S=>go1 O F 1 (nxc [] [0,2,3] O rfl S rfl (ZO S [.int .u64 1] Zus rfl rfl) (ZUn S.vin (show Rep.rel (Zd .u64) _ [.int .u64 1] (1:Int) from (ZS (by decide))) aH) ?_);rintro _ bq f w aK ⟨br,rfl,P⟩ S;obtain⟨aL,aM,aN,rfl⟩:=ZGa P;refine⟨(py S rfl rfl (la S (cs:=[.bool l,.slice d e g]) rfl Z5i 0 rfl rfl rfl) (py S rfl rfl (Z3 S rfl) (py S rfl rfl (ZWl S rfl) Z2b))),go1 O F 4 (nxc [1,3,2] [0] O rfl S rfl (ZO S [.slice aL aM aN,.int .i64 (IntKind.i64.wrap (-a))] ZMi rfl rfl) (Znk S.vin P (show Rep.rel (Zd .i64) _ [.int .i64 (IntKind.i64.wrap (-a))] (IntKind.i64.wrap (-a)) from (ZS (Zub _ _))) aI) ?_)⟩;rintro _ bs f w aO ⟨bt,rfl,Q⟩ S;obtain⟨aP,aQ,aR,rfl⟩:=ZGa Q;refine⟨(py S rfl rfl (la S (cs:=[.bool l,.slice d e g]) rfl Z5i 0 rfl rfl rfl) Z2b),go1 O F 5 ?_⟩;have k:=ZNa (leT aK aO) k
 refine nxc [0,4,1,3,2] [] O rfl S rfl (ZO S [.agg #[.bool l,.slice d e g],.slice aP aQ aR] k_en89 rfl rfl) (over_c S.vin k Q aJ) ?_;rintro _ bu f w bv ⟨bw,rfl,C⟩ S;obtain⟨R,T,U,rfl⟩:=len3 ZUa C;refine⟨Z2b,go1 O F 6 ?_⟩;obtain⟨w,aS,S⟩:=sba S (cs:=[R,T,U]) ZHe 0 1 rfl (Rflat ZUa C);refine nxs [0,1,2,3,4,5] [] O rfl rfl (aS rfl rfl) (⟨Z2b,go1 O F 7 (nva [0,1,2,3,4,5,6] [] O rfl rfl S (Z9d S rfl) λf S=>⟨Z2b,fin1 O F ?_⟩)⟩);have S:=S.fr' (σ':=[(2,.pointer (some ⟨n,0,none⟩)),(3,.int .i64 0)]) rfl;refine Zh (aG _ _ (wp_ret ?_));obtain rfl:=Zt H;refine Zta S (Zzc rfl (rag3 S rfl ZHe 1 rfl rfl) (ZY S rfl)) ⟨[R,T,U],[.int .i64 0],rfl,C,(ZS (by decide))⟩
set_option maxRecDepth 1000000
set_option maxRecDepth 100000
theorem d_sw:FloatKind.f64.format.signWeight=9223372036854775808:=by decide
theorem d_bi:FloatKind.f64.format.binade=4503599627370496:=by decide
theorem d_in:FloatKind.f64.format.infRung=9218868437227405312:=by decide
theorem d_lp:FloatKind.f64.format.leastPlace = -1074:=by decide
section
variable {s:Bool} {E M:Nat}
end
section
variable {s:Bool} {E M:Nat} (h1:1≤E) (h2:E≤2046) (h3:M<4503599627370496)
include h1 h2 h3
end
section
variable {s:Bool} {M:Nat} (h3:M<4503599627370496)
include h3
end
section
variable {s:Bool} {E M:Nat} (h1:1≤E) (h2:E≤2046) (h3:M<4503599627370496)
include h1 h2 h3
end
section
variable {m L:Nat} (h0:m≠0) (hL:m.log2=L) (h23:L≤23)
include h0 hL h23
end
theorem ZFw {r:Nat} (h:ZCf r):∃ g f,FloatKind.f64.format.read r = .nan g f:=by
 obtain⟨_,h2⟩:=h;unfold Ieee.Format.read;simp only[d_sw,d_bi,d_in,d_lp];rw[iN (by omega),iN (by omega),iN (by omega)];exact⟨_,_,rfl⟩
theorem ZNl {r:Nat} (h:ZCf r):Zje r=some (0,1):=by
 obtain⟨g,f,hr⟩:=ZFw h;have hn:ZSe r=some true:=by
  unfold ZSe fNe Ieee.Format.order;rw[hr];rfl
 unfold Zje;rw[hn,Za,Zf,Za,Zf]
theorem Zgw (g:Bool):Zje (FloatKind.f64.encode (.infinity g))=some (0,1):=by
 have h1:∀ g,ZSe (FloatKind.f64.encode (.infinity g))=some false∧Z6f (FloatKind.f64.encode (.infinity g)) 0=some true:=by
  intro g
  cases g
  ·decide +kernel
  ·decide +kernel
 obtain⟨a,b⟩:=h1 g;unfold Zje;rw[a,Za,Ze,b,Za,Za,Zf]
theorem ZBq:ZCf canon64:=⟨by decide,by decide⟩
theorem ZMw {y r:Nat} {z:Rat×Int} (h:as64 y r) (e:Zje y=some z):Zje r=some z:=by
 rcases h with rfl | ⟨rfl,h | ⟨g,rfl⟩⟩
 ·exact e
 ·rw[ZNl h,← e,ZNl ZBq]
 ·rw[Zgw,← e,ZNl ZBq]
end Go.Eng
namespace Go.Eng
open Go.Proofs Go.RowKit
theorem Zty {d:World} {a:Zb} (hv:VIn a d) {e:List Value} {fv:Nat} (k:Rep.rel (ZB .f32) a e fv) {z:Rat×Int} (H:Zdi fv=some z):Ret Tryz.prog 62 #[(ZB .f32).val e] d a (λy v'=>∃ g b,y = .tuple #[ZUa.val g,(Zd .i64).val b]∧ZUa.rel v' g z.1∧(Zd .i64).rel v' b z.2):=by
 obtain⟨rfl,b⟩:=k;refine ZWb (K:=9) (args:=[.float .f32 fv]) hv Tryz.func62 rfl rfl zl λf S=>?_;unfold Zdi at H;refine sr (Z0h S wn rfl zl (cs:=[.bool false,.slice none 0 0,.slice none 0 0]) (Zzg ZIs) λs f w S=>mw S rfl λf S=>oe (Zo λ_ l=>bO H λt m H=>bO H λn o H=>Zz (mv S rfl λf S=>ovn S rfl Tryz.underlying57 Tryz.underlying180 m λyr asr ltr f w S=>opc S rfl (ZO S [.float .f64 yr] k_en102 rfl rfl) (Z6x S.vin (show Rep.rel (ZB .f64) _ [.float .f64 yr] yr from (Zba ltr)) (ZMw asr o)) ?_)));rintro _ u f w v ⟨x,A,rfl,c,p⟩ S;obtain⟨h,i,j,rfl⟩:=len3 ZUa c;obtain⟨rfl,q⟩:=p;refine ov S rfl (Zka S rfl rfl) λf S=>ov S rfl (Zka S rfl rfl) λf S=>?_;obtain⟨w,r,S⟩:=sba S (cs:=[h,i,j]) ZHe 0 0 rfl (Rflat ZUa c);refine ZTf wn rfl (r rfl rfl) (mw S rfl λf S=>Zx (Zh (l _ _ (wp_ret ?_))));obtain rfl:=Zt H;refine Zta S (Zzc rfl (rag3 S rfl ZHe 0 rfl rfl) (ZY S rfl)) ⟨[h,i,j],[.int .i64 (n.2)],rfl,c,(ZS q)⟩
set_option maxHeartbeats 4000000
noncomputable def Zom:FuncId×Con:=(62,⟨[.flt .f32],[.leaf 3,.int .i64],λp=>Zdi p⟩)
theorem ZTw:ZBd Tryz.prog Zom.1 Zom.2:=λw v vals x z hv ha hz=>by
 obtain⟨c0,e0,p0⟩:=ha;subst e0
 exact .inl ⟨λ_ _=>by kernel_rfl,Ret.mono (Zty hv p0 hz) λy v' _ ⟨r0,r1,e,h0,h1⟩=>⟨_,e,r0,_,rfl,h0,r1,rfl,h1⟩⟩
noncomputable def Zht:FuncId×Con:=(35,⟨[.slice (.pair (.flt .f32) (.flt .f32))],[.slice (.pair (.leaf 3) (.leaf 3)),.int .i64],λp=>Z2n p⟩)
theorem rise_k:KQ Zht:=Zr (Zfa (C:=cf0 [ZGg,Zdk,Zom] [] [] []) (.n (.two (.f (.j [0] [] [.s 19 (.dat .bool)] .no)) (.n (.n (.f (.n (.cut ⟨⟨[],[],[]⟩,[(.norm,⟨[],[],[.s 4 (.own 143 (.pair (.leaf 3) (.leaf 3))),.s 5 (.dat (.int .i64))]⟩),(.ret,⟨[],[],[.s 1000 (.dat (.slice (.pair (.leaf 3) (.leaf 3)))),.s 1001 (.dat (.int .i64))]⟩)]⟩ (.f (.cut ⟨⟨[20,21],[],[.s 4 (.own 143 (.pair (.leaf 3) (.leaf 3))),.s 22 (.dat (.int .i64)),.s 5 (.dat (.int .i64))]⟩,[(.ret,⟨[],[],[.s 1000 (.dat (.slice (.pair (.leaf 3) (.leaf 3)))),.s 1001 (.dat (.int .i64))]⟩),(.exit 0,⟨[],[],[.s 4 (.own 143 (.pair (.leaf 3) (.leaf 3))),.s 5 (.dat (.int .i64))]⟩)]⟩ (.f (.n (.n (.f (.f (.n (.n (.n (.two (.f (.two (.j [4,5,6,8,10,20,21,22] [] [.s 39 (.dat .bool)] .no) (.n (.f (.j [4,5,6,8,10,20,21,22] [] [.s 51 (.dat .bool)] .no))))) (.n (.n (.j [4,20,21,22] [] [.s 5 (.dat (.int .i64))] .no))))))))))))))))))))) Tryz.func35 [] (λ_=>by kernel_rfl) ⟨Zfh,Zql,ZTw,tr⟩)
noncomputable def ZJo:FuncId×Con:=(67,⟨[.pair (.leaf 3) (.leaf 3),.pair (.leaf 3) (.leaf 3)],[.leaf 3],λp=>ZHq p.1 p.2⟩)
theorem Zwx:KQ ZJo:=Zr (Zfa (C:=cf0 [Zrj,ZBi] [] [] []) (.n (.f (.j [4] [] [.s 5 (.box 46 (.dat (.leaf 3)))] .no))) Tryz.func67 [] (λ_=>by kernel_rfl) ⟨Zcn,ZCl,tr⟩)
noncomputable def ZRp:FuncId×Con:=(36,⟨[.slice (.pair (.leaf 3) (.leaf 3)),.leaf 3],[.leaf 3,.int .i64],λp=>Zjo p.1 p.2⟩)
theorem reach_k:KQ ZRp:=Zr (Zfa (C:=cf0 [ZLh,Zrj,ZBi,ZJo,Zdk] [] [] []) (.n (.n (.n (.n (.f (.j [4,7] [] [.s 8 (.box 46 (.dat (.leaf 3)))] .no)))))) Tryz.func36 [(63,Tryz.f63,.r [] [] [.s 1000 (.dat (.int .i64))] (.n (.f (.n (.cut ⟨⟨[],[],[]⟩,[(.norm,⟨[],[],[]⟩),(.ret,⟨[],[],[.s 1000 (.dat (.int .i64))]⟩)]⟩ (.f (.cut ⟨⟨[0,1,7],[],[.s 8 (.dat (.int .i64))]⟩,[(.ret,⟨[],[],[.s 1000 (.dat (.int .i64))]⟩),(.exit 0,⟨[],[],[]⟩)]⟩ .no))))))),(64,Tryz.f64,.r [] [] [.s 1000 (.dat .bool)] .no)] (λ_=>by kernel_rfl) ⟨ZIi,Zcn,ZCl,Zwx,Zql,tr⟩ tr tr ⟨⟨Tryz.func63,λ_ _=>by kernel_rfl⟩,⟨Tryz.func64,λ_ _=>by kernel_rfl⟩,tr⟩)
noncomputable def Z8n:FuncId×Con:=(14,⟨[.slice (.pair (.flt .f32) (.flt .f32)),.leaf 3],[.leaf 3,.int .i64],λp=>ZTn p.1 p.2⟩)
theorem Reach_k:KQ Z8n:=Zr (Zfa (C:=cf0 [Zht,ZRp] [] [] []) .no Tryz.func14 [] (λ_=>by kernel_rfl) ⟨rise_k,reach_k,tr⟩)
theorem Zcu {r:World} {d:Zb} (hv:VIn d r) {D:List Value} {n:Int} (L:Rep.rel (Zd .u64) d D n) {z:(List UInt8)} (H:ZRi n=some z):Ret Tryz.prog 69 #[(Zd .u64).val D] r d (λy v'=>∃ E,y=ZE.val E∧ZE.rel v' E z):=by
 obtain⟨rfl,M⟩:=L;refine ZWb (K:=20) (args:=[.int .u64 n]) hv Tryz.func69 rfl rfl zl λf S=>?_;unfold ZRi at H;refine sr (mw S rfl λf S=>oe (sr (Z0h S wn rfl zl (cs:=[.int .u8 0,.int .u8 0,.int .u8 0,.int .u8 0,.int .u8 0,.int .u8 0,.int .u8 0,.int .u8 0,.int .u8 0,.int .u8 0,.int .u8 0,.int .u8 0,.int .u8 0,.int .u8 0,.int .u8 0,.int .u8 0,.int .u8 0,.int .u8 0,.int .u8 0,.int .u8 0]) (Zzg k_zv184) λs f w S=>?_)));have S:=S.boxOwn 1 20 rfl zl;have N:Rep.rels (Zd .u8) d [.int .u8 0,.int .u8 0,.int .u8 0,.int .u8 0,.int .u8 0,.int .u8 0,.int .u8 0,.int .u8 0,.int .u8 0,.int .u8 0,.int .u8 0,.int .u8 0,.int .u8 0,.int .u8 0,.int .u8 0,.int .u8 0,.int .u8 0,.int .u8 0,.int .u8 0,.int .u8 0] (List.replicate 20 (0:Int)):=Zbh (show Rep.rel (Zd .u8) _ [Value.int .u8 0] 0 from ⟨rfl,by decide⟩) 20;refine oe (sr (mw S rfl λf S=>oe (Zo λ_ O=>?_)));obtain⟨P,Q,R⟩:=ZG H;refine Zrb (λf w=>∃ l m B t,(l,m)=P∧Zb.le d t∧St 20 r d [(3,.pointer (some ⟨s,0,none⟩)),(4,.int .i64 m)] [Loc.own (some s) 184 1 20 20 B] t f w∧Rep.rels (Zd .u8) t B l∧20=l.length∧inR .i64 m) (λ_ T=>?_) ?_
 ·have H:=Q;refine wp_block ?_;obtain⟨ak,U,V⟩:=ZG H;refine Zfe U (λW f w=>∃ h o u b k,(h,o,u)=W∧Zb.le d k∧St 20 r d [(0,.int .u64 o),(3,.pointer (some ⟨s,0,none⟩)),(4,.int .i64 u)] [Loc.own (some s) 184 1 20 20 b] k f w∧Rep.rels (Zd .u8) k b h∧20=h.length∧inR .u64 o∧inR .i64 u) ⟨_,_,_,[.int .u8 0,.int .u8 0,.int .u8 0,.int .u8 0,.int .u8 0,.int .u8 0,.int .u8 0,.int .u8 0,.int .u8 0,.int .u8 0,.int .u8 0,.int .u8 0,.int .u8 0,.int .u8 0,.int .u8 0,.int .u8 0,.int .u8 0,.int .u8 0,.int .u8 0,.int .u8 0],_,rfl,(leR _),(S.fr' rfl),N,(List.length_replicate (n:=20) (a:=(0:Int))).symm,M,(by decide)⟩ ?_;rintro _ f w st ⟨h,o,u,b,k,hq,F,S,C,v,al,X⟩ H am Y Z;subst hq;refine Zo λ_ aa=>sr (mv S rfl λf S=>ov S rfl (Zw S rfl rfl ZSg) λf S=>oe ?_);rcases Z7 (decide ((0:Int)<o)) with p | p
  ·have H:=Z9 H p;refine Zoa S rfl p (wp_skip (Zh (aa _ _ (Zo λ_ ab=>wp_block (Zo λ_ ac=>bO H λe G H=>Zz (mv S rfl λf S=>ov S rfl (Zw S rfl rfl (Ztb G)) λf S=>mw S rfl λf S=>Zx (Zh (ac _ _ (bO H λg ad H=>?_)))))))));refine bO H λan q H=>Zz (mv S rfl λf S=>mv S rfl λf S=>ov S rfl (Zw S rfl rfl (Z9r ad)) λf S=>ov S rfl (Zw S rfl rfl Z2k) λf S=>ov S rfl (Z0e S rfl (ZCy _)) λf S=>?_);have I:=ZHa C (Zp q).2.1;obtain⟨ao,ae⟩:∃ c,(List.take (Zd .u8).n (List.drop ((e).toNat*(Zd .u8).n) b))=c:=⟨_,rfl⟩;rw[ae]at I;obtain⟨rfl,ap⟩:=I;refine ov S rfl (Zyq S Zwq rfl rfl (Zp q).1 (ltI v (Zp q).2.2.1)) λf S=>?_;obtain⟨w,af,S⟩:=Zfd S k_sz5 (off:=0+(e).toNat*1) (z:=.int .u8 (IntKind.u8.wrap (IntKind.u64.wrap ((48:Int)+g)))) (cs:=[.int .u8 (IntKind.u8.wrap (IntKind.u64.wrap ((48:Int)+g)))]) (Zmd rfl) rfl (i:=0) rfl (Zkh S (j:=0) rfl (ltN v (Zp q).2.2.2)) (by first | rfl | simp[plain]);have ag:Rep.rels (Zd .u8) k (List.take (0+(e).toNat*1) b++[Value.int IntKind.u8 (IntKind.u8.wrap (IntKind.u64.wrap ((48:Int)+g)))]++List.drop (0+(e).toNat*1+1) b) (h.set (e).toNat (IntKind.u8.wrap (IntKind.u64.wrap ((48:Int)+g)))):=ZGf C (Zp q).2.2.2 (show Rep.rel (Zd .u8) k [.int .u8 (IntKind.u8.wrap (IntKind.u64.wrap ((48:Int)+g)))] _ from (ZS (Zub _ _))) rfl rfl
   have ah:20=(h.set (e).toNat (IntKind.u8.wrap (IntKind.u64.wrap ((48:Int)+g)))).length:=setN v;refine ZTf wn rfl (af rfl rfl) (Zx (Zkd (Zh (ab _ _ (bO H λaq J H=>Zz (mv S rfl λf S=>ov S rfl (Zw S rfl rfl (ZTo J)) λf S=>mw S rfl λf S=>Zx ?_))))));obtain rfl:=Zt H;refine Y _ rfl _ _ ⟨_,_,_,(List.take (0+(e).toNat*1) b++[Value.int IntKind.u8 (IntKind.u8.wrap (IntKind.u64.wrap ((48:Int)+g)))]++List.drop (0+(e).toNat*1+1) b),_,rfl,F,(S.fr' rfl),ag,ah,(Zjq J),(Zcb G).2⟩
  have H:=Zaa H p;refine Zea S rfl p (wp_exit (ZGb ?_));obtain rfl:=Zt H;have hq:=Z _ rfl;subst hq;have H:=V;refine ZGb (Zke ?_);obtain rfl:=Zt H;refine Zh (T _ _ ⟨_,_,b,_,rfl,(leT (leR _) F),(S.fr' rfl),C,v,X⟩)
 rintro f w ⟨l,m,B,t,hq,ar,S,ai,x,au⟩;subst hq;have H:=R;refine Zh (O _ _ (Zo λ_ aj=>bO H λav A H=>Zz (mv S rfl λf S=>ov S rfl (Zjx S Zwq rfl rfl (Zef A).1 (by have:=(Zef A).2.1;have:=x;omega)) λf S=>ov S rfl (Zvu S (j:=0) rfl ai x (by have:=(Zef A).2.1;have:=(Zef A).1;have:=x;omega) rfl Tryz.underlying94 Tryz.underlying5 Tryz.underlying9) λf S=>mw S rfl λf S=>Zx (Zh (aj _ _ (wp_ret ?_))))));obtain rfl:=Zt H;refine Zta S (Zvb rfl (ZY S rfl)) ⟨[.string (Zg ((bytesOf (l.drop ((m).toNat)))))],rfl,(Zwh (by have:=x;simp only[Znu,List.length_drop];unfold maxLen;omega))⟩
theorem ZQw {b:World} {a:Zb} (hv:VIn a b) {c:List Value} {n:Int} (d:Rep.rel (Zd .u64) a c n) {z:(List UInt8)} (hm:ZBg n=some z) :
  Ret Tryz.prog 69 #[(Zd .u64).val c] b a (λy v'=>∃ e,y=ZE.val e∧ZE.rel v' e z) :=
 Zcu hv d (ZWy d.2 hm)
end Go.Eng
namespace Go.Proofs
open Go.Shelf
def Tryz.lays105_ren:Go.Shelf.Ren:=⟨fun | 105=>70 | 212=>106 | 99=>107 | 165=>51 | 166=>25 | 170=>108 | 169=>28 | 263=>139 | 264=>130 | 206=>140 | 240=>50 | 241=>94 | 276=>93 | 277=>126 | n=>n,fun | 9=>9 | 3=>3 | 4=>4 | 20=>20 | 0=>0 | 46=>185 | 109=>186 | 5=>5 | 72=>96 | 76=>99 | 51=>135 | 146=>213 | 53=>137 | 148=>182 | 70=>93 | 37=>94 | 75=>98 | 127=>130 | 164=>171 | 80=>61 | n=>n,fun | n=>n⟩
theorem Tryz.lays105:Go.Proofs.Lays.n105 Tryz.prog Tryz.lays105_ren:={
 mixed:=by kernel_rfl
 f99:=Tryz.func107.trans (congrArg some (by kernel_rfl))
 f105:=Tryz.func70.trans (congrArg some (by kernel_rfl))
 f165:=Tryz.func51.trans (congrArg some (by kernel_rfl))
 f166:=Tryz.func25.trans (congrArg some (by kernel_rfl))
 f169:=Tryz.func28.trans (congrArg some (by kernel_rfl))
 f170:=Tryz.func108.trans (congrArg some (by kernel_rfl))
 f206:=Tryz.func140.trans (congrArg some (by kernel_rfl))
 f212:=Tryz.func106.trans (congrArg some (by kernel_rfl))
 f240:=Tryz.func50.trans (congrArg some (by kernel_rfl))
 f241:=Tryz.func94.trans (congrArg some (by kernel_rfl))
 f263:=Tryz.func139.trans (congrArg some (by kernel_rfl))
 f264:=Tryz.func130.trans (congrArg some (by kernel_rfl))
 f276:=Tryz.func93.trans (congrArg some (by kernel_rfl))
 f277:=Tryz.func126.trans (congrArg some (by kernel_rfl))
 t0:=Tryz.underlying0
 a0:=Tryz.isAgg0
 z0:=Tryz.sizeOf0
 v0:=Tryz.zeroValue0
 t3:=Tryz.underlying3
 a3:=Tryz.isAgg3
 z3:=Tryz.sizeOf3
 v3:=Tryz.zeroValue3
 t4:=Tryz.underlying4
 a4:=Tryz.isAgg4
 z4:=Tryz.sizeOf4
 v4:=Tryz.zeroValue4
 t5:=Tryz.underlying5
 a5:=Tryz.isAgg5
 z5:=Tryz.sizeOf5
 v5:=Tryz.zeroValue5
 t9:=Tryz.underlying9
 a9:=Tryz.isAgg9
 z9:=Tryz.sizeOf9
 v9:=Tryz.zeroValue9
 t20:=Tryz.underlying20
 a20:=Tryz.isAgg20
 z20:=Tryz.sizeOf20
 v20:=Tryz.zeroValue20
 t37:=Tryz.underlying94
 a37:=Tryz.isAgg94
 z37:=Tryz.sizeOf94
 v37:=Tryz.zeroValue94
 t46:=Tryz.underlying185
 a46:=Tryz.isAgg185
 z46:=Tryz.sizeOf185
 v46:=Tryz.zeroValue185
 t51:=Tryz.underlying135
 a51:=Tryz.isAgg135
 z51:=Tryz.sizeOf135
 v51:=Tryz.zeroValue135
 t53:=Tryz.underlying137
 a53:=Tryz.isAgg137
 z53:=Tryz.sizeOf137
 v53:=Tryz.zeroValue137
 t70:=Tryz.underlying93
 a70:=Tryz.isAgg93
 z70:=Tryz.sizeOf93
 v70:=Tryz.zeroValue93
 t72:=Tryz.underlying96
 a72:=Tryz.isAgg96
 z72:=Tryz.sizeOf96
 v72:=Tryz.zeroValue96
 t75:=Tryz.underlying98
 a75:=Tryz.isAgg98
 z75:=Tryz.sizeOf98
 v75:=Tryz.zeroValue98
 t76:=Tryz.underlying99
 a76:=Tryz.isAgg99
 z76:=Tryz.sizeOf99
 v76:=Tryz.zeroValue99
 t109:=Tryz.underlying186
 a109:=Tryz.isAgg186
 z109:=Tryz.sizeOf186
 v109:=Tryz.zeroValue186
 t127:=Tryz.underlying130
 a127:=Tryz.isAgg130
 z127:=Tryz.sizeOf130
 v127:=Tryz.zeroValue130
 t146:=Tryz.underlying213
 a146:=Tryz.isAgg213
 z146:=Tryz.sizeOf213
 v146:=Tryz.zeroValue213
 t148:=Tryz.underlying182
 a148:=Tryz.isAgg182
 z148:=Tryz.sizeOf182
 v148:=Tryz.zeroValue182
 t164:=Tryz.underlying171
 a164:=Tryz.isAgg171
 z164:=Tryz.sizeOf171
 v164:=Tryz.zeroValue171 }
theorem Tryz.Builder_Extra_105:Builder.Extra Tryz.prog Tryz.lays105_ren:={
 sizeBuilder:=by kernel_rfl
 liesBuilder:=by kernel_rfl
 t5:=Tryz.underlying5
 a5:=Tryz.isAgg5
 z5:=Tryz.sizeOf5
 v5:=Tryz.zeroValue5
 infoByte:=by kernel_rfl
 cellsByte:=by kernel_rfl
 sizeByte:=by kernel_rfl
 neB5:=by decide }
end Go.Proofs
namespace Go.Eng
open Go.Proofs Go.RowKit Go.Shelf
theorem writes:Zyr Tryz.prog 25 96 5:=λB b bs s w h hl hB=>Any.Builder_WriteString { Tryz.lays105 with } Tryz.Builder_Extra_105 B b bs s w h hl hB
theorem tells:Tells Tryz.prog 28 96 5:=λB b l w h hB=>Any.Builder_String_any { Tryz.lays105 with } Tryz.Builder_Extra_105 B b l w h hB
end Go.Eng
namespace Go.Eng
open Go.Proofs Go.RowKit
theorem ZJv (l:List UInt8) (c:Nat):Lib.repeatL l c=(List.replicate c l).flatten:=by
 induction c with
 | zero=>rfl
 | succ c ih=>simp[Lib.repeatL,List.replicate_succ,ih]
theorem ZJy {b:World} {a:Zb} (hv:VIn a b) {f:List Value} {s:List UInt8} (k:Rep.rel ZE a f s) {g:List Value} {c:Int} (l:Rep.rel (Zd .i64) a g c) {z:List UInt8} (hm:Z0f s c=some z) :
  Ret Tryz.prog 70 #[ZE.val f,(Zd .i64).val g] b a (λy v'=>∃ h,y=ZE.val h∧ZE.rel v' h z):=by
 obtain⟨rfl,hs⟩:=k;obtain⟨rfl,hc⟩:=l;unfold Z0f at hm;split at hm
 ·rename_i hh
  cases hm
  obtain⟨C,rfl⟩:=oZ hh.1;have hc:=Zva.1 hc;have d:=hh.2;rw[tN]at d;have:=Any.strings_Repeat Tryz.lays105 Tryz.Builder_Extra_105 (Zg s) C b (by omega) (by rw[Z3b];exact d);refine Calls.mono this λe w' ⟨i,j⟩=>?_;have m:(⟨(Lib.repeatL (Zg s).data.toList C).toArray⟩:ByteArray)=Zg (List.replicate C s).flatten:=by
   rw[ZJv];rfl
  rw[m]at i;exact⟨_,a,i,j,VStep.ext hv j,[.string (Zg (List.replicate C s).flatten)],rfl,rfl,by simp only[tN];rw[List.length_flatten];simp;unfold maxLen;rw[Nat.mul_comm]at d;omega⟩
 ·cases hm
theorem text_w {e:World} {c:Zb} (hv:VIn c e) {c0:List Value} {a:Nat} (p0:Rep.rel Zu c c0 a) {z:(List UInt8)} (H:ZKh a=some z):Ret Tryz.prog 37 #[Zu.val c0] e c (λy v'=>∃ r0,y=ZE.val r0∧ZE.rel v' r0 z):=by
 obtain⟨q1,n2,k3,rfl⟩:=ZGa p0;refine ZWb (K:=49) (args:=[.slice q1 n2 k3]) hv Tryz.func37 rfl rfl zl λf S=>?_;unfold ZKh at H;refine sr (mw S rfl λf S=>oe (sr ?_));have S:=S.nilLoc 9 1;refine ov S rfl (Z9d S (y:=.slice (mkA none) 0 0) rfl) λf S=>oe (Zo λ_ ar=>?_);obtain⟨au,av,aw⟩:=ZG H;refine Zrb (λf w=>∃ o F s G U I,o=au∧Zb.le c I∧St 49 e c [(3,.slice (mkA F) s G)] [Loc.own F 9 1 s G U] I f w∧Rep.rels ZE I U o∧s=o.length) (λ_ ax=>?_) ?_
 ·have H:=av;refine wp_block ?_;obtain⟨bs,ay,az⟩:=ZG H;refine Zfe ay (λaA f w=>∃ J g L M N p h q k t,(J,g)=aA∧Zb.le c t∧St 49 e c [(0,.slice L M N),(3,.slice (mkA p) h q)] [Loc.own p 9 1 h q k] t f w∧Rep.rel Zu t [.slice L M N] J∧Rep.rels ZE t k g∧h=g.length) ⟨_,_,_,_,_,none,0,0,[],_,rfl,(leR _),(S.fr' rfl),p0,Zve,rfl⟩ ?_;rintro _ f w st ⟨J,g,L,M,N,p,h,q,k,t,hq,ac,S,ad,d,ae⟩ H bt aB aC;subst hq;refine Zo λ_ aD=>sr (mv S rfl λf S=>ov S rfl (Zec S (ZYa ad) rfl rfl Zha) λf S=>ov S rfl (Zw S rfl rfl ZSg) λf S=>oe ?_);rcases Z7 (decide ((0:Int)<(((Zc 18446744073709551616 J)).length:Int))) with u | u
  ·have H:=Z9 H u;refine Zoa S rfl u (wp_skip (Zh (aD _ _ (wp_block (Zo λ_ aE=>bO H λO aF H=>Zz (mv S rfl λf S=>opc S rfl (ZO S [.slice L M N,.int .u64 10000000000000000000] Zkp rfl rfl) (ZIo S.vin ad (show Rep.rel (Zd .u64) _ [.int .u64 10000000000000000000] (10000000000000000000:Int) from (ZS (by decide))) aF) ?_))))));rintro _ bu f w af ⟨bv,bw,rfl,m,aG⟩ S;have d:=ZR af d;obtain⟨aH,aI,aJ,rfl⟩:=ZGa m;obtain⟨rfl,aK⟩:=aG;refine mv S rfl λf S=>ov S rfl (Zka S rfl rfl) λf S=>ov S rfl (Zka S rfl rfl) λf S=>mw S rfl λf S=>mw S rfl λf S=>Zx (Zh (aE _ _ (Zo λ_ aL=>bO H λbx aM H=>Zz (mv S rfl λf S=>opc S rfl (ZO S [.int .u64 (O.2)] k_en69 rfl rfl) (ZQw S.vin (show Rep.rel (Zd .u64) _ [.int .u64 (O.2)] O.2 from (ZS aK)) aM) ?_))));rintro _ aN f w V ⟨bz,rfl,aO⟩ S;have d:=ZR V d;obtain⟨rfl,aP⟩:=aO;refine mw S rfl λf S=>Zx (Zh (aL _ _ (Zo λ_ aQ=>sr (mv S rfl λf S=>?_))));have m:=ZNa V m;refine ov S rfl (Zec S (ZYa m) rfl rfl Zha) λf S=>ov S rfl (Zw S rfl rfl ZSg) λf S=>oe ?_;obtain⟨aR,aS,aT⟩:=ZG H;refine Zrb (λf w=>∃ b P,b=aR∧Zb.le aN P∧St 49 e c [(3,.slice (mkA p) h q),(4,.slice aH aI aJ),(6,.string (Zg b))] [Loc.own p 9 1 h q k] P f w∧b.length≤maxLen) (λ_ ag=>?_) ?_
   ·have H:=aS;rcases Z7 (decide ((0:Int)<(((Zc 18446744073709551616 O.1)).length:Int))) with v | v
    ·have H:=Z9 H v;refine Zoa S rfl v (bO H λW ah H=>bO H λbA aU H=>bO H λbB ai H=>Zz (mv S rfl λf S=>ov S rfl (ZHs S rfl rfl Tryz.underlying9) λf S=>ov S rfl (Zw S rfl rfl (Ztb ah)) λf S=>opc S rfl (ZO S [.string (Zg (([48]:List UInt8))),.int .i64 W] k_en70 rfl rfl) (ZJy S.vin (show Rep.rel ZE _ [.string (Zg (([48]:List UInt8)))] (([48]:List UInt8)) from (Zwh zl)) (show Rep.rel (Zd .i64) _ [.int .i64 W] W from (ZS (Zcb ah).2)) aU) ?_));rintro _ bC f w aj ⟨bD,rfl,aV⟩ S;have d:=ZR aj d;obtain⟨rfl,bE⟩:=aV;refine mv S rfl λf S=>ov S rfl (ZSj S rfl rfl (Zut ai)) λf S=>mw S rfl λf S=>Zx ?_;obtain rfl:=Zt H;refine Zh (ag _ _ ⟨_,_,rfl,(leT (leR _) aj),(S.fr' rfl),(Z6j ai)⟩)
    have H:=Zaa H v;refine Zea S rfl v (wp_skip ?_);obtain rfl:=Zt H;refine Zh (ag _ _ ⟨_,_,rfl,(leR _),(S.fr' rfl),aP⟩)
   rintro f w ⟨b,P,hq,X,S,aW⟩;subst hq;have H:=aT;have d:=ZR X d;refine Zh (aQ _ _ (bO H λbG aX H=>Zz (mv S rfl λf S=>mv S rfl λf S=>?_)));obtain⟨bH,w,aY,S⟩:=ZJg S (n:=1) (cs:=[.string (Zg b)]) (vals:=[(0,.string (Zg b))]) (sz:=1) rfl (by decide) (ZSq ZIp (x:=.string (Zg b)) (cs:=[.string (Zg b)]) rfl rfl (by decide));have Y:Rep.rels ZE P [.string (Zg b)] [b]:=(ZGs (Zwh aW) Zve);refine Z8e wn rfl zl (aY rfl) S λf S=>?_;have aZ:=S;obtain⟨ak,al,w,a0,S⟩:=Z0j (ty:=64) ZIp S (i:=1) (n':=(g++[b]).length) rfl (Zse Y rfl) (Z0m S (j:=0) rfl) (Zfj Y) (appN ae rfl) (ZFd aX) (by decide);have a1:=Zuc d Y;refine Z8e wn rfl zl (Zvd aZ rfl rfl a0) S λf S=>mv S rfl λf S=>mw S rfl λf S=>mw S rfl λf S=>Zx (Zkd ?_);obtain rfl:=Zt H;have S:=S.reorder (ℓ':=[Loc.own ak 9 1 ((g++[b]).length) al ((k++[.string (Zg b)]))]) [1] rfl (by decide);have m:=ZNa X m;refine aB _ rfl _ _ ⟨_,_,_,_,_,ak,(g++[b]).length,al,(k++[.string (Zg b)]),_,rfl,(leT (leT (leT ac af) V) X),(S.fr' rfl),m,a1,rfl⟩
  have H:=Zaa H u;refine Zea S rfl u (wp_exit (ZGb ?_));obtain rfl:=Zt H;have hq:=aC _ rfl;subst hq;have H:=az;refine ZGb (Zke ?_);obtain rfl:=Zt H;refine Zh (ax _ _ ⟨_,p,h,q,k,_,rfl,(leT (leR _) ac),(S.fr' rfl),d,ae⟩)
 rintro f w ⟨o,F,s,G,U,I,hq,bI,S,a2,am⟩;subst hq;have H:=aw;refine Zh (ar _ _ (Zo λ_ a3=>sr (mv S rfl λf S=>ov S rfl (Zec S am rfl rfl ZJl) λf S=>ov S rfl (Zw S rfl rfl Z8g) λf S=>oe ?_)));rcases Z7 (((o.length:Int))==(0:Int)) with B | B
 ·have H:=Z9 H B;refine Zoa S rfl B (sr (mw S rfl λf S=>oe (wp_ret (Z4b ?_))));obtain rfl:=Zt H;refine Zta S (Zvb rfl (ZY S rfl)) ⟨[.string (Zg (([48]:List UInt8)))],rfl,(Zwh zl)⟩
 have H:=Zaa H B;refine Zea S rfl B (wp_skip (Zh (a3 _ _ (sr ?_))));obtain⟨an,bJ,S,C⟩:=S.pubSlice (i:=0) (A:=ZE) (l:=o) (ℓ':=[]) rfl rfl am a2 rfl;refine op_newB 5 S wn rfl zl (Zzg k_zv96) λr f w S a4=>oe (Zo λ_ a5=>Zo λ_ a6=>bO H λbK ao H=>Zz (mv S rfl λf S=>ov S rfl (Zec S (ZYa C) rfl rfl ZJl) λf S=>ov S rfl (Zw S rfl rfl (Ztb ao)) λf S=>mw S rfl λf S=>Zx (Zh (a6 _ _ ?_))));obtain⟨a7,a8,a9⟩:=ZG H;refine Zrb (λf w=>∃ Q R,Q=a7∧Zb.le an R∧St 49 e c [(7,.pointer (some ⟨r,0,none⟩))] [] R f w∧Bld 96 5 r e R Q w) (λ_ ba=>?_) ?_
 ·have H:=a8;refine wp_block ?_;obtain⟨bM,bb,bc⟩:=ZG H;refine Zfe bb (λbd f w=>∃ Z D T,(Z,D)=bd∧Zb.le an T∧St 49 e c [(3,.slice (mkA F) s G),(7,.pointer (some ⟨r,0,none⟩)),(8,.int .i64 D)] [] T f w∧Bld 96 5 r e T Z w∧inR .i64 D) ⟨_,_,_,rfl,(leR _),(S.fr' rfl),a4,(Zcb ao).2⟩ ?_;rintro _ f w st ⟨Z,D,T,hq,aa,S,ap,bP⟩ H bQ be bf;subst hq;refine Zo λ_ bg=>sr (mv S rfl λf S=>ov S rfl (Zw S rfl rfl Zci) λf S=>oe ?_);rcases Z7 (decide ((0:Int)≤D)) with E | E
  ·have H:=Z9 H E;refine Zoa S rfl E (wp_skip (Zh (bg _ _ (Zo λ_ bh=>wp_block (bO H λbi ab H=>bO H λbR bj H=>Zz (mv S rfl λf S=>mv S rfl λf S=>?_))))));have C:=ZNa aa C;obtain⟨_,bS,bT,bU,bk,bm,bn⟩:=ZIb C (Zp ab).2.1;obtain⟨rfl,rfl⟩:=Z5w bk;obtain⟨rfl,bV⟩:=bn;refine ov S rfl (Zxa S rfl rfl ZJl (Zp ab).1 (ltI (ZYa C) (Zp ab).2.2.1)) λf S=>ov S rfl (Zob S rfl k_sz9 (S.view bm)) λf S=>Zbv writes ap (ZZt bj) S wn rfl zl (ZO S [.pointer (some ⟨r,0,none⟩),.string (Zg bi)] k_en25 rfl rfl) λf w S bo=>Zx (Zkd (Zh (bh _ _ (bO H λbW aq H=>Zz (mv S rfl λf S=>ov S rfl (Zw S rfl rfl (Ztb aq)) λf S=>mw S rfl λf S=>Zx ?_)))));obtain rfl:=Zt H;refine be _ rfl _ _ ⟨_,_,_,rfl,aa,(S.fr' rfl),bo,(Zcb aq).2⟩
  have H:=Zaa H E;refine Zea S rfl E (wp_exit (ZGb ?_));obtain rfl:=Zt H;have hq:=bf _ rfl;subst hq;have H:=bc;refine ZGb (Zke ?_);obtain rfl:=Zt H;refine Zh (ba _ _ ⟨_,_,rfl,(leT (leR _) aa),(S.fr' rfl),ap⟩)
 rintro f w ⟨Q,R,hq,bX,S,bp⟩;subst hq;have H:=a9;refine Zh (a5 _ _ (Zo λ_ bq=>bO H λbY br H=>Zz (op_tell tells bp S wn rfl zl (ZO S [.pointer (some ⟨r,0,none⟩)] k_en28 rfl rfl) λf w S=>mw S rfl λf S=>Zx (Zh (bq _ _ (wp_ret ?_))))));obtain rfl:=Zt H;refine Zta S (Zvb rfl (ZY S rfl)) ⟨[.string (Zg Q)],rfl,(Zwh (Z6j br))⟩
theorem text_c {c:World} {b:Zb} (hv:VIn b c) {d:List Value} {a:Nat} (f:Rep.rel Zu b d a) {z:(List UInt8)} (hm:ZKf a=some z) :
  Ret Tryz.prog 37 #[Zu.val d] c b (λy v'=>∃ e,y=ZE.val e∧ZE.rel v' e z) :=
 text_w hv f (ZRy hm)
noncomputable def Zjl:FuncId×Con:=(37,⟨[.leaf 0],[.str],λp=>ZKf p⟩)
theorem text_k:ZBd Tryz.prog Zjl.1 Zjl.2:=λw v vals x z hv ha hz=>by
 obtain⟨c0,e0,p0⟩:=ha;subst e0
 exact .inl ⟨λ_ _=>by kernel_rfl,Ret.mono (text_c hv p0 hz) λy v' _ ⟨r0,e,h0⟩=>⟨r0,e,h0⟩⟩
noncomputable def Zam:FuncId×Con:=(15,⟨[.leaf 3],[.str],λp=>Zbc p⟩)
theorem Zbm:KQ Zam:=Zr (ZH (C:=cf0 [Zjl] [] [] []) (.n (.n (.two (.n (.j [1] [] [.s 3 (.dat .str)] .no)) (.f (.n (.j [] [] [.s 3 (.dat .str)] .no)))))) Tryz.func15 [] (λv vals x z ha hz=>.trans (by kernel_rfl) (Zyu hz)) ⟨text_k,tr⟩)
noncomputable def ZBs:FuncId×Con:=(5,⟨[],[.bool],λ_=>Zag⟩)
theorem ZLy:KQ ZBs:=Zr (Zfa (C:=cf0 [Zjj,Zwr,Z8n,Zam] [] [] []) (.n (.n (.n (.n (.f (.j [] [] [.s 0 (.dat .bool)] .no)))))) Tryz.func5 [] (λ_=>by kernel_rfl) ⟨Zdl,ZUv,Reach_k,Zbm,tr⟩)
end Go.Eng
namespace Go.Proofs
open Go.Shelf
def Tryz.lays156_ren:Go.Shelf.Ren:=⟨fun | 156=>26 | 165=>51 | 166=>25 | 169=>28 | 240=>50 | 241=>94 | 276=>93 | 277=>126 | n=>n,fun | 31=>64 | 9=>9 | 3=>3 | 4=>4 | 0=>0 | 20=>20 | 72=>96 | 76=>99 | 70=>93 | 37=>94 | 75=>98 | 127=>130 | 164=>171 | 5=>5 | 80=>61 | n=>n,fun | n=>n⟩
theorem Tryz.lays156:Go.Proofs.Lays.n156 Tryz.prog Tryz.lays156_ren:={
 mixed:=by kernel_rfl
 f156:=Tryz.func26.trans (congrArg some (by kernel_rfl))
 f165:=Tryz.func51.trans (congrArg some (by kernel_rfl))
 f166:=Tryz.func25.trans (congrArg some (by kernel_rfl))
 f169:=Tryz.func28.trans (congrArg some (by kernel_rfl))
 f240:=Tryz.func50.trans (congrArg some (by kernel_rfl))
 f241:=Tryz.func94.trans (congrArg some (by kernel_rfl))
 f276:=Tryz.func93.trans (congrArg some (by kernel_rfl))
 f277:=Tryz.func126.trans (congrArg some (by kernel_rfl))
 t0:=Tryz.underlying0
 a0:=Tryz.isAgg0
 z0:=Tryz.sizeOf0
 v0:=Tryz.zeroValue0
 t3:=Tryz.underlying3
 a3:=Tryz.isAgg3
 z3:=Tryz.sizeOf3
 v3:=Tryz.zeroValue3
 t4:=Tryz.underlying4
 a4:=Tryz.isAgg4
 z4:=Tryz.sizeOf4
 v4:=Tryz.zeroValue4
 t9:=Tryz.underlying9
 a9:=Tryz.isAgg9
 z9:=Tryz.sizeOf9
 v9:=Tryz.zeroValue9
 t20:=Tryz.underlying20
 a20:=Tryz.isAgg20
 z20:=Tryz.sizeOf20
 v20:=Tryz.zeroValue20
 t31:=Tryz.underlying64
 a31:=Tryz.isAgg64
 z31:=Tryz.sizeOf64
 v31:=Tryz.zeroValue64
 t37:=Tryz.underlying94
 a37:=Tryz.isAgg94
 z37:=Tryz.sizeOf94
 v37:=Tryz.zeroValue94
 t70:=Tryz.underlying93
 a70:=Tryz.isAgg93
 z70:=Tryz.sizeOf93
 v70:=Tryz.zeroValue93
 t72:=Tryz.underlying96
 a72:=Tryz.isAgg96
 z72:=Tryz.sizeOf96
 v72:=Tryz.zeroValue96
 t75:=Tryz.underlying98
 a75:=Tryz.isAgg98
 z75:=Tryz.sizeOf98
 v75:=Tryz.zeroValue98
 t76:=Tryz.underlying99
 a76:=Tryz.isAgg99
 z76:=Tryz.sizeOf99
 v76:=Tryz.zeroValue99
 t127:=Tryz.underlying130
 a127:=Tryz.isAgg130
 z127:=Tryz.sizeOf130
 v127:=Tryz.zeroValue130
 t164:=Tryz.underlying171
 a164:=Tryz.isAgg171
 z164:=Tryz.sizeOf171
 v164:=Tryz.zeroValue171 }
theorem Tryz.Builder_Extra_156:Builder.Extra Tryz.prog Tryz.lays156_ren:={
 sizeBuilder:=by kernel_rfl
 liesBuilder:=by kernel_rfl
 t5:=Tryz.underlying5
 a5:=Tryz.isAgg5
 z5:=Tryz.sizeOf5
 v5:=Tryz.zeroValue5
 infoByte:=by kernel_rfl
 cellsByte:=by kernel_rfl
 sizeByte:=by kernel_rfl
 neB5:=by decide }
def Tryz.lays146_ren:Go.Shelf.Ren:=⟨fun | 146=>17 | 221=>40 | 268=>76 | 138=>77 | 143=>78 | 195=>112 | 197=>113 | 218=>114 | 219=>115 | 260=>141 | 217=>142 | 225=>143 | 224=>144 | 267=>145 | 266=>161 | 314=>162 | n=>n,fun | 9=>9 | 31=>64 | 3=>3 | 4=>4 | 0=>0 | 105=>192 | 21=>21 | 5=>5 | 46=>185 | 119=>220 | 139=>223 | 138=>222 | 146=>213 | 51=>135 | n=>n,fun | 1=>2 | 3=>4 | 4=>5 | n=>n⟩
theorem Tryz.lays146:Go.Proofs.Lays.n146 Tryz.prog Tryz.lays146_ren:={
 mixed:=by kernel_rfl
 f138:=Tryz.func77.trans (congrArg some (by kernel_rfl))
 f143:=Tryz.func78.trans (congrArg some (by kernel_rfl))
 f146:=Tryz.func17.trans (congrArg some (by kernel_rfl))
 f195:=Tryz.func112.trans (congrArg some (by kernel_rfl))
 f197:=Tryz.func113.trans (congrArg some (by kernel_rfl))
 f217:=Tryz.func142.trans (congrArg some (by kernel_rfl))
 f218:=Tryz.func114.trans (congrArg some (by kernel_rfl))
 f219:=Tryz.func115.trans (congrArg some (by kernel_rfl))
 f221:=Tryz.func40.trans (congrArg some (by kernel_rfl))
 f224:=Tryz.func144.trans (congrArg some (by kernel_rfl))
 f225:=Tryz.func143.trans (congrArg some (by kernel_rfl))
 f260:=Tryz.func141.trans (congrArg some (by kernel_rfl))
 f266:=Tryz.func161.trans (congrArg some (by kernel_rfl))
 f267:=Tryz.func145.trans (congrArg some (by kernel_rfl))
 f268:=Tryz.func76.trans (congrArg some (by kernel_rfl))
 f314:=Tryz.func162.trans (congrArg some (by kernel_rfl))
 t0:=Tryz.underlying0
 a0:=Tryz.isAgg0
 z0:=Tryz.sizeOf0
 v0:=Tryz.zeroValue0
 t3:=Tryz.underlying3
 a3:=Tryz.isAgg3
 z3:=Tryz.sizeOf3
 v3:=Tryz.zeroValue3
 t4:=Tryz.underlying4
 a4:=Tryz.isAgg4
 z4:=Tryz.sizeOf4
 v4:=Tryz.zeroValue4
 t5:=Tryz.underlying5
 a5:=Tryz.isAgg5
 z5:=Tryz.sizeOf5
 v5:=Tryz.zeroValue5
 t9:=Tryz.underlying9
 a9:=Tryz.isAgg9
 z9:=Tryz.sizeOf9
 v9:=Tryz.zeroValue9
 t21:=Tryz.underlying21
 a21:=Tryz.isAgg21
 z21:=Tryz.sizeOf21
 v21:=Tryz.zeroValue21
 t31:=Tryz.underlying64
 a31:=Tryz.isAgg64
 z31:=Tryz.sizeOf64
 v31:=Tryz.zeroValue64
 t46:=Tryz.underlying185
 a46:=Tryz.isAgg185
 z46:=Tryz.sizeOf185
 v46:=Tryz.zeroValue185
 t51:=Tryz.underlying135
 a51:=Tryz.isAgg135
 z51:=Tryz.sizeOf135
 v51:=Tryz.zeroValue135
 t105:=Tryz.underlying192
 a105:=Tryz.isAgg192
 z105:=Tryz.sizeOf192
 v105:=Tryz.zeroValue192
 t119:=Tryz.underlying220
 a119:=Tryz.isAgg220
 z119:=Tryz.sizeOf220
 t138:=Tryz.underlying222
 a138:=Tryz.isAgg222
 z138:=Tryz.sizeOf222
 v138:=Tryz.zeroValue222
 t139:=Tryz.underlying223
 a139:=Tryz.isAgg223
 z139:=Tryz.sizeOf223
 v139:=Tryz.zeroValue223
 t146:=Tryz.underlying213
 a146:=Tryz.isAgg213
 z146:=Tryz.sizeOf213
 v146:=Tryz.zeroValue213
 g1:=by kernel_rfl
 g3:=by kernel_rfl
 g4:=by kernel_rfl }
end Go.Proofs
namespace Go.Eng
open Go.Proofs Go.RowKit Go.Shelf
theorem Z2t {x c:UInt8} {r:List UInt8} (h:x≠c):Lib.index (x :: r) [c]=if Lib.index r [c] == -1 then -1 else Lib.index r [c]+1:=by
 have hp:([c]:List UInt8).isPrefixOf (x :: r)=false:=by simp[List.isPrefixOf,Ne.symm h]
 rw[Lib.index,hp];simp
theorem ZXs (c:UInt8):∀ l:List UInt8,Lib.splitK [c] 0 (l.count c) l=Zy c l
 | []=>rfl
 | x :: r=>by
  have ih:=ZXs c r
  unfold Zy
  by_cases h:x=c
  ·subst h
   rw[iP rfl,List.count_cons_self]
   have hi:Lib.index (x :: r) [x]=0:=by rw[Lib.index];simp[List.isPrefixOf]
   simp[Lib.splitK,hi,ih]
  ·rw[iN h,List.count_cons_of_ne (by simpa using h),← ih]
   cases hk:r.count c with
   | zero=>simp[Lib.splitK]
   | succ k =>
    have hne:Lib.index r [c] ≠ -1:=λe=>by
     have:=Lib.count_miss (sub:=[c]) e
     rw[Lib.count_one,hk]at this;cases this
    have hge:=Lib.index_ge r [c]
    obtain⟨j,hj⟩:∃ j:Nat,Lib.index r [c]=j:=⟨(Lib.index r [c]).toNat,by omega⟩
    have hx:Lib.index (x :: r) [c]=((j+1:Nat):Int):=by
     rw[Z2t h,iN (by simp[hne]),hj];omega
    simp[Lib.splitK,hx,hj];omega
theorem ZAj (c:UInt8) (l:List UInt8):(Lib.splitB ⟨#[c]⟩ 0 (Lib.countB (Zg l) ⟨#[c]⟩) (Zg l)).map (·.data.toList)=Zy c l:=by
 rw[Lib.splitB_data];show Lib.splitK [c] 0 (Lib.count l [c]) l=_;rw[Lib.count_one,ZXs]
theorem Z1x (b:ByteArray):b=Zg b.data.toList:=by cases b;simp[Zg]
set_option maxHeartbeats 1000000 in
theorem split_w (s:ByteArray) (c:UInt8) (w:World) (hs:s.size<4294967281):Calls Tryz.prog 17 #[.string s,.string ⟨#[c]⟩] w λe w' =>
  e = .returned (.slice (some ⟨w.heap.size,0,none⟩) (Lib.countB s ⟨#[c]⟩+1) (Lib.countB s ⟨#[c]⟩+1))∧w'=w.alloc (.cells ((Lib.splitB ⟨#[c]⟩ 0 (Lib.countB s ⟨#[c]⟩) s).map Value.string).toArray 9):=by
 have L:=Tryz.lays146;have h1:1≤(ByteArray.mk #[c]).size:=Nat.le_refl 1;have hle:=Lib.countB_le ⟨#[c]⟩ h1 s.size s (Nat.le_refl _);have hlen:=Lib.splitB_all ⟨#[c]⟩ h1 0 _ s rfl;have c0:=Any.strings_genSplit_core (P:=Tryz.prog) (ρ:=Tryz.lays146_ren) { L with } (by kernel_rfl) s ⟨#[c]⟩ 0 (-1) (Lib.countB s ⟨#[c]⟩+1) w hs h1 (Nat.zero_le _)
  (λx cc hx=>(Any.strings_Index_one { L with } x c _).mono λe w' ⟨he,hw⟩=>⟨by rw[he];show _=Ending.returned (Value.int .i64 (Lib.index x.data.toList [c]));rw[Lib.index_one],hw⟩)
  ((Any.strings_Count_one { L with } s c w).mono λe w' ⟨he,hw⟩=>⟨by rw[he];show _=Ending.returned (Value.int .i64 ((Lib.count s.data.toList [c]:Nat):Int));rw[Lib.count_one];rfl,hw⟩)
  (by decide) (by decide) (by rw[iP (by decide)];omega)
 rw[Nat.add_sub_cancel,hlen]at c0;have e2:Lib.cellsOf (Lib.splitB ⟨#[c]⟩ 0 (Lib.countB s ⟨#[c]⟩) s) (Lib.countB s ⟨#[c]⟩+1)=((Lib.splitB ⟨#[c]⟩ 0 (Lib.countB s ⟨#[c]⟩) s).map Value.string).toArray:=by rw[← hlen];exact Lib.cellsOf_full _
 rw[e2]at c0;have t3:=L.t3;have t9:=L.t9;have t31:=L.t31;have a3:=L.a3;have a9:=L.a9;have a31:=L.a31;have z3:=L.z3;have v3:=L.v3;have z9:=L.z9;have v9:=L.v9;have z31:=L.z31;have v31:=L.v31;have e221:∀ args w,(callFunc 40 args).run Tryz.prog w = .ok (.enter 40 args) w:=λ_ _=>by kernel_rfl
 go_enter Tryz.func17,Tryz.ntmps17
 go_wp2_with (go_at_fn 40;refine c0.mono ?_;rintro e w' ⟨rfl,hw⟩;rw[hw])
 go_ret
 exact⟨rfl,rfl⟩
noncomputable def Zwn:FuncId×Con:=(17,⟨[.str,.str],[.slice .str],λx=>Zod x.1 x.2⟩)
theorem Zso (v:Zb):∀ (l:List ByteArray),(∀ b ∈ l,b.data.toList.length≤maxLen)→ZE.rels v (l.map Value.string) (l.map (·.data.toList))
 | [],_=>rfl
 | b :: l,h=>⟨[.string b],l.map Value.string,rfl,⟨by rw[← Z1x],h b (by simp)⟩,Zso v l λx hx=>h x (by simp[hx])⟩
theorem Zeo (c:UInt8):∀ l:List UInt8,∀ x ∈ Zy c l,x.length≤l.length
 | [],x,hx=>by simp[Zy]at hx;simp[hx]
 | y :: r,x,hx=>by
  have ih:=Zeo c r
  unfold Zy at hx
  split at hx
  ·rcases List.mem_cons.1 hx with rfl | hx
   ·simp
   ·have:=ih x hx;simp;omega
  ·split at hx
   ·simp at hx;subst hx;simp
   ·rename_i h t e
    rw[e]at ih
    rcases List.mem_cons.1 hx with rfl | hx
    ·have:=ih h (by simp);simp;omega
    ·have:=ih x (by simp[hx]);simp;omega
theorem Z1y {w:World} {v:Zb} (hv:VIn v w) (o:Obj):VStep w v (w.alloc o) (λk=>if k=w.heap.size then some o else v k):=by
 refine⟨λk x hk=>?_,λk x hk0=>?_,λk hk=>?_⟩
 ·have:=hv.lt hk;show (if k=w.heap.size then some o else v k)=_;rw[iN (by omega)];exact hk
 ·have hk:(if k=w.heap.size then some o else v k)=some x:=hk0;clear hk0;by_cases e:k=w.heap.size
  ·rw[iP e]at hk;subst e;cases hk;exact heap_alloc_new w _
  ·rw[iN e]at hk;exact (Ext.alloc w o).get (hv k x hk)
 ·exact iN (by omega)
theorem ZTy {s sep:List UInt8} {z:List (List UInt8)} (h:Zod s sep=some z):∃ c,sep=[c]∧s.length<4294967281∧z=Zy c s:=by
 unfold Zod at h;split at h
 ·rename_i c;split at h
  ·rename_i hl;cases h;exact⟨c,rfl,hl,rfl⟩
  ·cases h
 ·cases h
theorem Zux {w:World} {v:Zb} {vals:List Value} {s sep:List UInt8} {z:List (List UInt8)} (hv:VIn v w) (ha:ZJa v [.str,.str] vals (s,sep)) (hz:Zod s sep=some z) :
  ZF Tryz.prog 17∧Ret Tryz.prog 17 vals.toArray w v λy v'=>Z4c v' [.slice .str] y z:=by
 obtain⟨c,rfl,hlen,rfl⟩:=ZTy hz;obtain⟨c1,vs,rfl,⟨rfl,h1⟩,c2,rfl,rfl,h2⟩:=ha;have hsz:(Zg s).size=s.length:=Z3b s;have hcount:Lib.countB (Zg s) ⟨#[c]⟩+1=(Zy c s).length:=by
  rw[← ZAj,List.length_map,Lib.splitB_all ⟨#[c]⟩ (Nat.le_refl 1) 0 _ _ rfl]
 have hle:=Lib.countB_le ⟨#[c]⟩ (Nat.le_refl 1) (Zg s).size (Zg s) (Nat.le_refl _);refine⟨λ_ _=>by kernel_rfl,?_⟩;show Calls Tryz.prog 17 #[.string (Zg s),.string ⟨#[c]⟩] w _;refine Calls.mono (split_w (Zg s) c w (by omega)) λe w' ⟨he,hw⟩=>?_;subst hw;refine⟨_,_,he,Ext.alloc w _,Z1y hv _,?_⟩
 ·rw[hcount];have hml:(Zy c s).length≤maxLen:=by unfold maxLen;omega
  refine⟨[.slice (some ⟨w.heap.size,0,none⟩) (Zy c s).length (Zy c s).length],rfl,some ⟨w.heap.size,0,none⟩,(Zy c s).length,rfl,Nat.le_refl _,hml,.inr ⟨w.heap.size,0,_,9,(0,0),rfl,iP rfl,?_⟩⟩;have hr:=Zso (λk=>if k=w.heap.size then some (Obj.cells ((Lib.splitB ⟨#[c]⟩ 0 (Lib.countB (Zg s) ⟨#[c]⟩) (Zg s)).map Value.string).toArray 9) else v k) (Lib.splitB ⟨#[c]⟩ 0 (Lib.countB (Zg s) ⟨#[c]⟩) (Zg s)) (λb hb=>by
   have hm:b.data.toList ∈ Zy c s:=by rw[← ZAj];exact List.mem_map.2 ⟨b,hb,rfl⟩
   have:=Zeo c s _ hm;have h1:s.length≤maxLen:=h1;omega)
  rw[ZAj]at hr;have hl:(List.drop 0 ((Lib.splitB ⟨#[c]⟩ 0 (Lib.countB (Zg s) ⟨#[c]⟩) (Zg s)).map Value.string).toArray.toList).take ((Zy c s).length*1)=(Lib.splitB ⟨#[c]⟩ 0 (Lib.countB (Zg s) ⟨#[c]⟩) (Zg s)).map Value.string:=by
   rw[List.drop_zero,Nat.mul_one];refine List.take_of_length_le ?_;rw[← ZAj];simp
  refine (show Rep.rels ZE _ (List.take ((Zy c s).length*1) (List.drop 0 _)) _ from ?_);rw[hl];exact hr
theorem Z7q:KQ Zwn:=λw v vals x z hv ha hz=>.inl (Zux hv ha hz)
end Go.Eng

namespace Go.Eng
open Go.Proofs Go.RowKit
noncomputable def ZWr:FuncId×Con:=(79,⟨[.str],[.bool],λp=>ZPj p⟩)
theorem Zkv:KQ ZWr:=Zr (Zfa (C:=cf0 [] [] [] []) (.n (.two (.f (.j [0] [] [.s 12 (.dat .bool)] .no)) (.f (.n (.cut ⟨⟨[],[],[]⟩,[(.norm,⟨[],[],[]⟩),(.ret,⟨[],[],[.s 1000 (.dat .bool)]⟩)]⟩ (.f (.cut ⟨⟨[14,15],[],[.s 16 (.dat (.int .i64))]⟩,[(.ret,⟨[],[],[.s 1000 (.dat .bool)]⟩),(.exit 0,⟨[],[],[]⟩)]⟩ (.f (.n (.n (.f (.f (.n (.f (.j [14,15,16] [] [.s 37 (.dat .bool)] .no))))))))))))))) Tryz.func79 [] (λ_=>by kernel_rfl))
noncomputable def Z6p:FuncId×Con:=(82,⟨[.str],[.bool],λp=>ZGi p⟩)
theorem isDo_k:KQ Z6p:=Zr (Zfa (C:=cf0 [] [] [] []) (.n (.two (.f (.j [0] [] [.s 12 (.dat .bool)] .no)) (.f (.n (.cut ⟨⟨[],[],[]⟩,[(.norm,⟨[],[],[]⟩),(.ret,⟨[],[],[.s 1000 (.dat .bool)]⟩)]⟩ (.f (.cut ⟨⟨[0,14,15],[],[.s 16 (.dat (.int .i64))]⟩,[(.ret,⟨[],[],[.s 1000 (.dat .bool)]⟩),(.exit 0,⟨[],[],[]⟩)]⟩ (.f (.n (.n (.f (.cut ⟨⟨[],[],[]⟩,[(.norm,⟨[0,14,15,16],[],[]⟩),(.ret,⟨[],[],[.s 1000 (.dat .bool)]⟩)]⟩ (.f (.n (.two (.f (.j [0,4,14,15,16] [] [.s 40 (.dat .bool)] .no)) (.f (.j [0,14,15,16] [] [.s 46 (.dat .bool)] .no))))))))))))))))) Tryz.func82 [] (λ_=>by kernel_rfl))
noncomputable def ZZp:FuncId×Con:=(41,⟨[.pair .str (.pair (.slice .str) (.slice (.pair (.int .i64) (.pair (.leaf 3) .str)))),.slice (.pair .str (.pair (.slice .str) (.slice (.pair (.int .i64) (.pair (.leaf 3) .str)))))],[.int .i64],λp=>Zsj p.1 p.2⟩)
theorem ZXv:KQ ZZp:=Zr (Zfa (C:=cf0 [ZGg,ZWr,Z6p] [] [] []) (.n (.two (.f (.n (.n (.two (.j [2] [] [.s 15 (.dat .bool)] .no) (.n (.f (.j [2] [] [.s 29 (.dat .bool)] .no))))))) (.two (.n (.f (.cut ⟨⟨[2,41,42],[],[.s 43 (.dat (.int .i64))]⟩,[(.exit 1,⟨[2],[],[]⟩),(.ret,⟨[],[],[.s 1000 (.dat (.int .i64))]⟩)]⟩ .no))) (.f (.n (.f (.cut ⟨⟨[52,53],[],[.s 54 (.dat (.int .i64))]⟩,[(.exit 3,⟨[],[],[]⟩),(.ret,⟨[],[],[.s 1000 (.dat (.int .i64))]⟩)]⟩ (.f (.n (.n (.f (.f (.n (.two (.j [8,52,53,54] [] [.s 9 (.dat .bool)] .no) (.f (.j [52,53,54] [] [.s 91 (.dat .bool)] .no)))))))))))))))) Tryz.func41 [(80,Tryz.f80,.no),(81,Tryz.f81,.no),(83,Tryz.f83,.r [] [] [.s 1000 (.dat (.int .i64))] (.n (.f (.n (.f (.cut ⟨⟨[0,1,7],[],[.s 8 (.dat (.int .i64))]⟩,[(.exit 0,⟨[],[],[]⟩),(.ret,⟨[],[],[.s 1000 (.dat (.int .i64))]⟩)]⟩ .no))))))] (λ_=>by kernel_rfl) ⟨Zfh,Zkv,isDo_k,tr⟩ tr tr ⟨⟨Tryz.func80,λ_ _=>by kernel_rfl⟩,⟨Tryz.func81,λ_ _=>by kernel_rfl⟩,⟨Tryz.func83,λ_ _=>by kernel_rfl⟩,tr⟩)
noncomputable def ZDp:FuncId×Con:=(42,⟨[.one (.slice (.pair .str (.pair (.slice .str) (.slice (.pair (.int .i64) (.pair (.leaf 3) .str)))))),.str],[.int .i64],λp=>ZZj p.1 p.2⟩)
theorem pstep_k:KQ ZDp:=Zr (Zfa (C:=cf0 [] [] [] []) .no Tryz.func42 [(83,Tryz.f83,.r [] [] [.s 1000 (.dat (.int .i64))] (.n (.f (.n (.f (.cut ⟨⟨[0,1,7],[],[.s 8 (.dat (.int .i64))]⟩,[(.exit 0,⟨[],[],[]⟩),(.ret,⟨[],[],[.s 1000 (.dat (.int .i64))]⟩)]⟩ .no)))))),(84,Tryz.f84,.no)] (λ_=>by kernel_rfl) tr tr tr ⟨⟨Tryz.func83,λ_ _=>by kernel_rfl⟩,⟨Tryz.func84,λ_ _=>by kernel_rfl⟩,tr⟩)
noncomputable def Zpp:FuncId×Con:=(18,⟨[.one (.slice (.pair .str (.pair (.slice .str) (.slice (.pair (.int .i64) (.pair (.leaf 3) .str))))))],[.int .i64],λp=>Zpg p⟩)
theorem Zmt:KQ Zpp:=Zr (Zfa (C:=cf0 [ZZp,ZDp] [] [] []) (.n (.two (.f (.j [1] [] [.s 19 (.dat .bool)] .no)) (.two (.n (.f (.cut ⟨⟨[1,21,22],[],[.s 23 (.dat (.int .i64))]⟩,[(.exit 0,⟨[1],[],[]⟩),(.ret,⟨[],[],[.s 1000 (.dat (.int .i64))]⟩)]⟩ .no))) (.f (.n (.f (.cut ⟨⟨[1,39,40],[],[.s 41 (.dat (.int .i64))]⟩,[(.exit 2,⟨[],[],[]⟩),(.ret,⟨[],[],[.s 1000 (.dat (.int .i64))]⟩)]⟩ (.f (.n (.n (.f (.f (.n (.n (.f (.cut ⟨⟨[1,39,40,41,46,47],[],[.s 48 (.dat (.int .i64))]⟩,[(.exit 4,⟨[1,39,40,41],[],[]⟩),(.ret,⟨[],[],[.s 1000 (.dat (.int .i64))]⟩)]⟩ (.f (.n (.n (.f (.f (.n (.f (.j [1,39,40,41,46,47,48] [] [.s 66 (.dat .bool)] .no)))))))))))))))))))))))) Tryz.func18 [] (λ_=>by kernel_rfl) ⟨ZXv,pstep_k,tr⟩)
end Go.Eng
namespace Go.Eng
open Go.RowKit
def ZPm (C:Cf) (inl:Inl) (fn:Func) (ann:Ann) (ty:TypeId) (c:CT) (ats:List T) (z:c.den) (x:ZC ats):Option (c.den×Bool):=match fn.body with
 | some cd=>match Z1 0 (.box ty c) z 0 1 with
  | (l,m)=>Zyb C (ZTg C inl 20) fn.results.toList m fn.ntmps cd [] _ ann (ZBc 0 0 (.cons (.ptr 0 0) (Zxd ats x))) l m ⟨endN fn (λcv l n=>bnd (endB ty c [] cv l n) λr=>some (r.1,true)),λi _ l n=>match Nat.beq i 999 with
   | true=>bnd (endB ty c [] .nl l n) λr=>some (r.1,false)
   | false=>none,λcv l n=>bnd (endB ty c [] cv l n) λr=>some (r.1,true)⟩
 | none=>none
theorem Zau {C:Cf} (hC:CfOK C) {inl:Inl} (hinl:ZAd C inl) {f:FuncId} {fn:Func} {ann:Ann} {ty:TypeId} {c:CT} {ats:List T} {z:c.den} {x:ZC ats} {r:c.den×Bool} {p0:FuncId×List PanicEntry} (hpan:C.ex.pan=some p0) (hf:C.P.funcs[f]? = some fn) (hl:Nat.ble (ats.length+1) fn.ntmps=true) (h:ZPm C inl fn ann ty c ats z x=some r)
  {w:World} {v:Zb} {b:Nat} {es:List Loc} {vals:List Value} (hv:VIn v w) (hz:CRL v (.box ty c) z (.box b) es) (hes:∀ e ∈ es,e.holds w∧∀ k,e.blk=some k→v k=none) (hnd:(es.filterMap Loc.blk).Nodup) (ha:ZJa v ats vals x) :
  Calls C.P f (Value.pointer (some ⟨b,0,none⟩) :: vals).toArray w λe w'=>e=(match r.2 with | true=>.returned (.tuple #[]) | false=>.panicked p0.2)∧∃ v2,ExtB ⟨w,es.filterMap Loc.blk⟩ w'∧VStepB ⟨w,es.filterMap Loc.blk⟩ v w' v2∧OwnB ty c [] b (r.1,()) (es.filterMap Loc.blk) w (.tuple #[]) v2 w':=by
 unfold ZPm at h;split at h
 ·rename_i cd hc;obtain⟨k1,k2,k3,γ0,k4,k5⟩:=Zkj (hh:=0) (u:=0) (n:=1) hz (by omega) (by omega) (l2:=(Z1 0 (.box ty c) z 0 1).1) (n2:=(Z1 0 (.box ty c) z 0 1).2) rfl;have hkk:∀ e ∈ (Z1 0 (.box ty c) z 0 1).1,lkE (Z1 0 (.box ty c) z 0 1).1 e.k=some e:=λe he=>ZTb k3 he;obtain⟨E,hE,hpE⟩:=k5 γ0 _ λe he=>⟨rfl,hkk e he⟩;have hhd:∀ e,lkE (Z1 0 (.box ty c) z 0 1).1 0=some e→∃ xh,e.x = .box ty xh:=λe he=>by
   obtain⟨hm,hk0⟩:=Zk he;rcases (k2 e hm).1 with ⟨_,q⟩ | q
   ·exact q
   ·omega
  have h:Zyb C (ZTg C inl 20) fn.results.toList (Z1 0 (.box ty c) z 0 1).2 fn.ntmps cd [] _ ann (ZBc 0 0 (.cons (.ptr 0 0) (Zxd ats x))) (Z1 0 (.box ty c) z 0 1).1 (Z1 0 (.box ty c) z 0 1).2 _=some r:=h;generalize (Z1 0 (.box ty c) z 0 1).1=lI at k2 k3 hE hkk hhd h;generalize (Z1 0 (.box ty c) z 0 1).2=m at k1 k2 h;have hargs:RR v γ0 lI true (.cons (.ptr 0 0) (Zxd ats x)) (Value.pointer (some ⟨b,0,none⟩) :: vals):=by
   obtain⟨q1,q2,q3⟩:=Z4h (γ:=γ0) (l:=lI) (U:=(· < 0)) ha;refine⟨[.pointer (some ⟨b,0,none⟩)],vals,rfl,⟨_,rfl,rfl,λe he=>?_⟩,q1⟩;obtain⟨xh,hx⟩:=hhd e he;rw[hx];exact⟨b,k4,rfl⟩
  have hok:(V.cons (.ptr 0 0) (Zxd ats x)).ok (· < m):=⟨(show 0<m by omega),V.ok.mono (λk h=>absurd h (Nat.not_lt_zero k)) (Z4h (γ:=γ0) (l:=lI) (U:=(· < 0)) ha).2.1⟩;have hlen:=(Z4h (γ:=γ0) (l:=lI) (U:=(· < 0)) ha).2.2;have hK:vals.length+1≤fn.ntmps:=by rw[hlen];exact lB hl
  refine calls_of_wp hf hc ?_;have hS:=St.enter (K:=fn.ntmps) hv (Value.pointer (some ⟨b,0,none⟩) :: vals) (by simpa using hK);have hlent:∀ e ∈ es,∀ k,e.blk=some k→k ∈ es.filterMap Loc.blk:=λe he k hk=>List.mem_filterMap.2 ⟨e,he,hk⟩;have hr:RelX fn.ntmps (λx y=>x = .ptr 0 0∧y = .pointer (some ⟨b,0,none⟩)) ⟨w,es.filterMap Loc.blk⟩ v (· < m) (· < m) (ZBc 0 0 (.cons (.ptr 0 0) (Zxd ats x))) lI { tmps:=(Value.pointer (some ⟨b,0,none⟩) :: vals).toArray++Array.replicate (fn.ntmps-(Value.pointer (some ⟨b,0,none⟩) :: vals).toArray.size) undef,defers:=[] } w γ0 v es:=by
   refine⟨⟨hS.size,hS.dfr,λt x h=>(by cases h),ExtB.refl ⟨w,es.filterMap Loc.blk⟩,⟨Zb.le_refl _,hv,λ_ _ _=>rfl⟩,λe he=>⟨(hes e he).1,λk hk=>⟨.inr (hlent e he k hk),(hes e he).2 k hk⟩⟩,hnd⟩,λt e he=>?_,⟨E,hE,hpE⟩,k3,λt e he=>?_,λe he=>?_,λx y hg=>?_⟩
   ·obtain⟨y,q1,q2,q3,q4,q5⟩:=Zce hargs hok he;have:=hS.fr t y ?_
    ·rw[this];exact q3
    ·have:=Zvn (k:=0) (t:=t) (y:=y) (by simpa using q2)
     rwa [Nat.zero_add]at this
   ·obtain⟨y,q1,q2,q3,q4,q5⟩:=Zce hargs hok he;exact⟨q4,by show e.st<m;omega⟩
   ·obtain⟨q1,q2,q3,q4⟩:=k2 e he;refine⟨?_,q3,q4⟩;rcases q1 with ⟨q1,_⟩ | q1
    ·show e.k<m;omega
    ·exact q1.2
   ·obtain⟨rfl,rfl⟩:=hg;obtain⟨c1,xs1,q1,q2,q3⟩:=hargs;obtain⟨yy,rfl,q4⟩:=q2;have q1:Value.pointer (some ⟨b,0,none⟩)=yy:=(List.cons.inj q1).1;subst q1;exact⟨⟨_,⟨_,rfl,q4⟩,rfl⟩,(show 0<m by omega)⟩
  have fin:∀ {r0:c.den×ZC []} {cv:V} {l':Lo} {n':Nat} {a':Act} {w':World} {γ':Nat→Gh} {v':Zb} {ℓ':List Loc} {vals':List Value},endB ty c [] cv l' n'=some r0→m≤n'→RelX fn.ntmps (λx y=>x = .ptr 0 0∧y = .pointer (some ⟨b,0,none⟩)) ⟨w,es.filterMap Loc.blk⟩ v (· < n') (· < n') [] l' a' w' γ' v' ℓ'→RR v' γ' l' true cv vals'→cv.ok (· < n') →
    ∃ v2,ExtB ⟨w,es.filterMap Loc.blk⟩ w'∧VStepB ⟨w,es.filterMap Loc.blk⟩ v w' v2∧OwnB ty c [] b r0 (es.filterMap Loc.blk) w (Z5e vals') v2 w':=by
   intro r0 cv l' n' a' w' γ' v' ℓ' vals' hx hmn hr' hcv hck;have h1:=Z6c hx;have hr1:RelX fn.ntmps (λx y=>x = .ptr 0 0∧y = .pointer (some ⟨b,0,none⟩)) ⟨w,es.filterMap Loc.blk⟩ v (· < n') (· < n'+1) [] l' a' w' γ' v' ℓ':=hr'.mono (λ_ h=>h) λk h=>(show k<n'+1 by have:k<n':=h;omega);obtain⟨y,l1,γ1,v1,ℓ1,h2,r1,le1,q1⟩:=Zae (U:=(· < n')) (X:=(· < n'+1)) (Nat.lt_irrefl n') (Nat.lt_succ_self n') h1 hr1 hck;obtain⟨z2,l2,γ2,v2,ℓ2,es2,e0,h3,r2,hst,le2,hcrl,he0,hnone,hhead⟩:=Zxk (U:=(· < n')) (X:=(· < n'+1)) (Nat.lt_irrefl n') (Nat.lt_succ_self n') (ex:=[]) (show 0<n' by omega) h2 r1 r1.st;have h3:some (z2,y)=some r0:=h3
   cases h3
   have hst:St fn.ntmps ⟨w,es.filterMap Loc.blk⟩ v [] (es2++ℓ2) v2 a' w':=hst;obtain⟨b2,c1,e1,hg,hcr,hpl,hes2⟩:=hcrl;have hbb:b2=b:=by
    obtain⟨⟨cs,⟨yy,rfl,_,hy⟩,hyy⟩,_⟩:=r1.gh _ _ ⟨rfl,rfl⟩;have hyy:Value.pointer (some ⟨b,0,none⟩)=yy:=hyy;subst hyy;obtain⟨xh,hxh⟩:=hhead;have hy:=hy _ he0;rw[hxh]at hy;obtain⟨b3,t1,t2⟩:=hy;rw[hg]at t1;cases t1;cases t2;rfl
   subst hbb;refine⟨v2,hst.ext,hst.vst,Zer (Zgk le2.v (q1 _ hcv)),es2,⟨b2,c1,e1,rfl,hcr,hpl,hes2⟩,λe he=>?_,?_⟩
   ·exact hst.loc e (List.mem_append_left _ he)
   ·have:=hst.nd;rw[List.filterMap_append]at this;exact (List.nodup_append.1 this).1
  have bare:∀ {f':Fr} {l':Lo} {n':Nat} {a':Act} {w':World} {γ':Nat→Gh} {v':Zb} {ℓ':List Loc},RelX fn.ntmps (λx y=>x = .ptr 0 0∧y = .pointer (some ⟨b,0,none⟩)) ⟨w,es.filterMap Loc.blk⟩ v (· < n') (· < n') f' l' a' w' γ' v' ℓ'→RelX fn.ntmps (λx y=>x = .ptr 0 0∧y = .pointer (some ⟨b,0,none⟩)) ⟨w,es.filterMap Loc.blk⟩ v (· < n') (· < n') [] l' a' w' γ' v' ℓ':=λhr' =>
   ⟨⟨hr'.st.size,hr'.st.dfr,λt x h=>(by cases h),hr'.st.ext,hr'.st.vst,hr'.st.loc,hr'.st.nd⟩,λt e he=>(by cases he),hr'.lr,hr'.nd,λt e he=>(by cases he),hr'.ul,hr'.gh⟩
  refine Znn hC (ZAo hC hinl 20) cd h ⟨_,_,_,hr⟩ ⟨λf' l' n' a' w' hp hn' ho' hr'=>?_,λi f' l' n' a' w' hp hn' ho' hr'=>?_,λcv l' n' a' w' hp hn' ho' hr'=>?_⟩
  ·unfold endN at hp;split at hp
   ·rename_i hres;obtain⟨⟨z0,u0⟩,hp0,hp1⟩:=ZG hp
    cases hp1
    obtain⟨γ',v',ℓ',hr'⟩:=hr';obtain⟨v2,t1,t2,t3⟩:=fin hp0 hn' (bare hr') (vals':=[]) rfl trivial;exact⟨hr'.st.dfr,_,Zpi (vals:=[]) (by rw[hres];exact trivial),rfl,v2,t1,t2,t3⟩
   ·cases hp
  ·simp only at hp;split at hp
   ·rename_i hi;obtain⟨⟨z0,u0⟩,hp0,hp1⟩:=ZG hp
    cases hp1
    obtain⟨γ',v',ℓ',hr'⟩:=hr';obtain⟨v2,t1,t2,t3⟩:=fin hp0 hn' (bare hr') (vals':=[]) rfl trivial;unfold Qx xo;rw[hpan];simp only[hi];exact⟨hr'.st.dfr,rfl,v2,t1,t2,t3⟩
   ·cases hp
  ·obtain⟨⟨z0,u0⟩,hp0,hp1⟩:=ZG hp
   cases hp1
   have hcv:cv = .nl:=by
    unfold endB at hp0
    cases cv <;> first | rfl | (simp only[ZOc,ZIa]at hp0;cases hp0)
   subst hcv;obtain⟨γ',v',ℓ',vals',hr',hc',hk',hres⟩:=hr';obtain⟨v2,t1,t2,t3⟩:=fin hp0 hn' hr' hc' hk';have hv':vals'=[]:=hc';subst hv';exact⟨hr'.st.dfr,_,Zpi hres,rfl,v2,t1,t2,t3⟩
 ·cases h
structure ConX where
 ty:TypeId
 c:CT
 args:List T
 F:c.den→ZC args→Option (c.den×Bool)
def ZHo (P:Program) (f:FuncId) (c:ConX) (ps:List PanicEntry):Prop:=∀ (w:World) (v:Zb) (b:Nat) (es:List Loc) (vals:List Value) (z:c.c.den) (x:ZC c.args) (r:c.c.den×Bool),VIn v w→CRL v (.box c.ty c.c) z (.box b) es→(∀ e ∈ es,e.holds w∧∀ k,e.blk=some k→v k=none)→(es.filterMap Loc.blk).Nodup→ZJa v c.args vals x→c.F z x=some r →
 ZF P f∧Calls P f (Value.pointer (some ⟨b,0,none⟩) :: vals).toArray w λe w'=>e=(match r.2 with | true=>.returned (.tuple #[]) | false=>.panicked ps)∧∃ v2,ExtB ⟨w,es.filterMap Loc.blk⟩ w'∧VStepB ⟨w,es.filterMap Loc.blk⟩ v w' v2∧OwnB c.ty c.c [] b (r.1,()) (es.filterMap Loc.blk) w (.tuple #[]) v2 w'
theorem conx_z {f:FuncId} {ty:TypeId} {c:CT} {ats:List T} {F:c.den→ZC ats→Option (c.den×Bool)} {p0:FuncId×List PanicEntry} {C:Cf} (ann:Ann) {fn:Func} (hf:C.P.funcs[f]? = some fn) (inl:Inl) (hm0:Zik C.P p0.1 p0.2) (h:∀ z x,ZPm C inl fn ann ty c ats z x=F z x) (hp0:C.ex.pan=some p0:=by rfl) (hc:CL C.P C.cons:=by exact tr) (ho:OL C.P C.owns:=by exact tr) (hm:ML C.P C.meths:=by exact tr) (hn:NL C.P inl:=by exact tr)
  (hq:QL C.P C.omats:=by exact tr) (hb:BL C.P C.boxs:=by exact tr) (hd:DL C.P C.dels:=by exact tr) (hpo:PL C.P C.pows:=by exact tr) (hsl:SL C.P C.sls:=by exact tr) (hi:IL C.P C.ins:=by exact tr) (hen:ZF C.P f:=by exact λ_ _=>by kernel_rfl) (hl:Nat.ble (ats.length+1) fn.ntmps=true:=by exact rfl):ZHo C.P f ⟨ty,c,ats,F⟩ p0.2 :=
 λ_ _ _ _ _ z x r hv hz hes hnd ha hF=>⟨hen,Zau (CfOK.of hc ho hi hm hq hb hd hpo hsl (by unfold ZLf;rw[hp0];exact hm0)) (ZAd.of hn) hp0 hf hl ((h z x).trans hF) hv hz hes hnd ha⟩
end Go.Eng
namespace Go.Eng
open Go.Proofs Go.RowKit
def pan0:FuncId×List PanicEntry:=(71,[{ v:=.iface 26 (.int .i64 2),recovered:=false }])
theorem must_t (w:World):Calls Tryz.prog 71 #[.bool true] w λe w'=>e = .returned (.tuple #[])∧w'=w:=by
 go_enter Tryz.func71,Tryz.ntmps71
 go_wp2
 exact⟨rfl,.tuple #[],by first | rfl | simp[results],rfl,rfl⟩
theorem must_f (w:World):Calls Tryz.prog 71 #[.bool false] w λe w'=>e = .panicked [{ v:=.iface 26 (.int .i64 2),recovered:=false }]∧w'=w:=by
 go_enter Tryz.func71,Tryz.ntmps71
 go_wp2
 exact⟨rfl,rfl,rfl⟩
theorem must_k:Zik Tryz.prog pan0.1 pan0.2:=⟨λ_ _=>by kernel_rfl,must_t,must_f⟩
noncomputable def Zrq:FuncId×Con:=(27,⟨[.int .i64],[.str],λp=>ZWe p⟩)
theorem ZQn:KQ Zrq:=Zr (Zfa (C:=cf0 [] [] [] []) .no Tryz.func27 [] (λ_=>by kernel_rfl))
noncomputable def Zjr:FuncId×Con:=(72,⟨[.str,.str],[.str,.bool],λp=>ZTj p.1 p.2⟩)
theorem Z3v:KQ Zjr:=Zr (Zfa (C:=cf0 [] [] [] []) .no Tryz.func72 [(109,Tryz.f109,.r [] [] [.s 1000 (.dat .str),.s 1001 (.dat .bool)] .no),(140,Tryz.f140,.n (.f (.j [] [] [.s 4 (.dat .bool)] .no)))] (λ_=>by kernel_rfl) tr tr tr ⟨⟨Tryz.func109,λ_ _=>by kernel_rfl⟩,⟨Tryz.func140,λ_ _=>by kernel_rfl⟩,tr⟩)
noncomputable def Z6s:FuncId×Con:=(110,⟨[.str,.bool],[.str,.str,.bool],λp=>ZIh p.1 p.2⟩)
theorem xscan_k:KQ Z6s:=Zr (Zfa (C:=cf0 [] [] [] []) (.n (.n (.two (.f (.l [0,1] [] [.s 7 (.dat (.int .i64))] 0 [0,1] [] [.s 7 (.dat (.int .i64))] (.f (.f (.f (.j [0,1,7] [] [.s 23 (.dat .bool)] .no)))))) (.f (.j [] [] [.s 4 (.dat .str),.s 5 (.dat .str),.s 6 (.dat .bool)] .no))))) Tryz.func110 [] (λ_=>by kernel_rfl))
noncomputable def Zts:FuncId×Con:=(111,⟨[.str],[.leaf 0],λp=>Zdg p⟩)
theorem Zwy:KQ Zts:=Zr (Zfa (C:=cf0 [Zgf,Z2e,ZZm] [] [] []) (.n (.n (.f (.f (.l [] [] [.s 0 (.dat .str),.s 3 (.dat (.leaf 0))] 0 [] [] [.s 3 (.dat (.leaf 0))] (.f (.n (.f (.n (.n (.n (.f (.n (.f (.l [0,3,4,18,19] [] [.s 5 (.dat (.int .u64)),.s 6 (.dat (.int .u64)),.s 20 (.dat (.int .i64))] 2 [0,3,4] [] [.s 5 (.dat (.int .u64)),.s 6 (.dat (.int .u64))] .no))))))))))))))) Tryz.func111 [] (λ_=>by kernel_rfl) ⟨ZCh,ZXf,Zrt,tr⟩)
noncomputable def ZZo:FuncId×Con:=(75,⟨[.str],[.leaf 3,.int .i64],λp=>Zek p⟩)
theorem ZBy:KQ ZZo:=Zr (Zfa (C:=cf0 [Zgf,ZQf,ZZd,Z2e,Z6s,Zts] [] [] []) (.n (.n (.two (.j [0,2] [] [.s 4 (.dat .bool)] .no) (.two (.n (.j [2,4] [] [.s 0 (.dat .str)] .no)) (.n (.n (.n (.f (.n (.cut ⟨⟨[],[],[]⟩,[(.ret,⟨[],[],[.s 1000 (.dat (.leaf 3)),.s 1001 (.dat (.int .i64))]⟩),(.norm,⟨[2,4],[],[.s 5 (.dat .str),.s 8 (.dat (.leaf 0))]⟩)]⟩ (.f (.n (.n (.two (.f (.j [2,4,5,8,9,10] [] [.s 64 (.dat .bool)] .no)) (.n (.j [2,4] [] [.s 5 (.dat .str),.s 8 (.dat (.leaf 0))] (.n (.n (.n (.f (.l [2,4,5,74] [] [.s 8 (.dat (.leaf 0)),.l (.sl 74) .it] 0 [2,4,5] [] [.s 8 (.dat (.leaf 0))] (.f (.f (.j [2,4,5,8,74] [] [.s 76 (.dat .bool),.l (.sl 74) .it] .no)))))))))))))))))))))))) Tryz.func75 [] (λ_=>by kernel_rfl) ⟨ZCh,Z7g,ZHf,ZXf,xscan_k,Zwy,tr⟩)
noncomputable abbrev cfx (c:List (FuncId×Con)) (m:List Nat) (o:List (FuncId×ConO)) (s:List ((TypeId×String)×FuncId)) (q:List (FuncId×ConM)) (b:List (FuncId×ConB)) (d:List (FuncId×ConD)) (p:List (FuncId×ConP)) (sl:List (FuncId×ConS)):Cf:=⟨Tryz.prog,lf,c,m,o,[],s,⟨p,q,b,d,sl,some pan0⟩⟩
noncomputable def pread_q:ConX:=⟨25,(.agg (.one (.lst 72 9 77 (.pair (.int .i64) (.pair (.leaf 3) .str))))),[.str],λz x=>Zmf z x⟩
theorem pread_k:ZHo Tryz.prog 39 pread_q pan0.2:=conx_z (C:=cfx [Zwn,Zrq,Zjr,ZZo] [600036,600037] [] [] [] [] [] [] []) .no Tryz.func39 [(73,Tryz.f73,.r [] [] [.s 1000 (.dat (.int .i64))] (.n (.f (.n (.f (.cut ⟨⟨[0,1,7],[],[.s 8 (.dat (.int .i64))]⟩,[(.exit 0,⟨[],[],[]⟩),(.ret,⟨[],[],[.s 1000 (.dat (.int .i64))]⟩)]⟩ .no)))))),(74,Tryz.f74,.no)] must_k (fun | none,_=>by kernel_rfl | some _,_=>by kernel_rfl) rfl ⟨Z7q,ZQn,Z3v,ZBy,tr⟩ tr tr ⟨⟨Tryz.func73,λ_ _=>by kernel_rfl⟩,⟨Tryz.func74,λ_ _=>by kernel_rfl⟩,tr⟩
theorem ta_yes (w:World):(Instr.typeAssert (.iface 26 (.int .i64 2)) 20 26 true).run Tryz.prog w = .ok (.tuple #[.int .i64 2,.bool true]) w:=by kernel_rfl
theorem ta_no (w:World):(Instr.typeAssert .nilIface 20 26 true).run Tryz.prog w = .ok (.tuple #[.int .i64 0,.bool false]) w:=by kernel_rfl
theorem catch_p (p:Addr) (x:Int) (w:World) (hc:w.cell? p=some (.int .i64 x)) (hz:w.frozen? p=false) :
  CallsD Tryz.prog 38 #[.pointer (some p)] (.panicking [{ v:=.iface 26 (.int .i64 2),recovered:=false }]) w λe u' w' =>
   e = .returned (.tuple #[])∧u' = .panicking [{ v:=.iface 26 (.int .i64 2),recovered:=true }]∧w'=w.setCell p (.int .i64 2):=by
 refine callsD_of_wpS Tryz.func38 rfl λc₀ cs hu=>?_;apply wpS_seq;apply wpS_region;simp[wpOpsS,go_sem,recoverD,hu,Tryz.ntmps38,Exit.thenS,ta_yes,Result.andThen];apply wpS_seq;apply wpS_region;simp[wpOpsS,go_sem,recoverD,hu,Tryz.ntmps38,Exit.thenS];refine wpS_cond (t:=true) (by simp[Act.eval,Array.replicate]) ?_;simp only[if_true];apply wpS_region;simp[wpOpsS,go_sem,hc,hz,bodyPostS,results]
theorem catch_i (p:Addr) (w:World) :
  CallsD Tryz.prog 38 #[.pointer (some p)] .returning w λe u' w'=>e = .returned (.tuple #[])∧u' = .returning∧w'=w:=by
 refine callsD_of_wpS Tryz.func38 rfl λc₀ cs hu=>?_;apply wpS_seq;apply wpS_region;simp[wpOpsS,go_sem,recoverD,hu,Tryz.ntmps38,Exit.thenS,ta_no,Result.andThen];apply wpS_seq;apply wpS_region;simp[wpOpsS,go_sem,recoverD,hu,Tryz.ntmps38,Exit.thenS];refine wpS_cond (t:=false) (by simp[Act.eval,Array.replicate]) ?_;simp only[Bool.false_eq_true,if_false];refine wpS_of_wp (wp_skip ?_)
 cases c₀
 simp_all[bodyPostS,results]
abbrev lstC:CT:=.agg (.one (.lst 72 9 77 (.pair (.int .i64) (.pair (.leaf 3) .str))))
def dm:Act:=⟨#[],[]⟩
def ZEd (w:World) (b:Nat) (v:Zb) (z:PSt) (W:World):Prop:=∃ v' es',St 0 ⟨w,[b]⟩ v [] (.box w.heap.size 26 [.int .i64 0] :: es') v' dm W∧CRL v' (.box 25 lstC) z (.box b) es'
theorem ZGu {w W:World} {b:Nat} {v:Zb} {z:PSt} {s:List UInt8} {y:PSt×Bool} (hI:ZEd w b v z W) (hs:s.length≤maxLen) (hm:Zmf z s=some y) :
  Calls Tryz.prog 39 #[.pointer (some ⟨b,0,none⟩),.string (Zg s)] W λe W'=>e=(match y.2 with | true=>.returned (.tuple #[]) | false=>.panicked pan0.2)∧ZEd w b v y.1 W':=by
 obtain⟨v',es',hS,hC⟩:=hI;have hS':St 0 ⟨w,[b]⟩ v [] es' v' dm W:=hS.drop (List.sublist_cons_self _ _);have hnd:(es'.filterMap Loc.blk).Nodup:=hS'.nd;have hbe:=hS.loc _ List.mem_cons_self;have hlen:∀ k ∈ es'.filterMap Loc.blk,k<W.heap.size∧(w.heap.size≤k∨k ∈ [b])∧k≠w.heap.size:=λk hk=>by
  obtain⟨e,he,hke⟩:=List.mem_filterMap.1 hk;obtain⟨h1,h2⟩:=hS'.loc e he;obtain⟨o,ho⟩:=Loc.blk_get h1 hke;refine⟨Z5b ho,(h2 k hke).1,λe'=>?_⟩;have:=hS.nd;simp only[List.filterMap_cons,Loc.blk]at this;exact (List.nodup_cons.1 this).1 (e' ▸ hk)
 obtain⟨_,hc⟩:=pread_k W v' b es' [.string (Zg s)] z s y hS'.vst.vin hC (λe he=>⟨(hS'.loc e he).1,λk hk=>((hS'.loc e he).2 k hk).2⟩) hnd ⟨[.string (Zg s)],rfl,rfl,hs⟩ hm;refine Calls.mono hc λe W' ⟨he,v2,x1,x2,x3⟩=>⟨he,?_⟩;obtain⟨_,es2,y1,y2,y3⟩:=x3;have hbl:w.heap.size<W.heap.size:=by obtain⟨o,ho⟩:=Loc.blk_get hbe.1 rfl;exact Z5b ho
 have hbn:w.heap.size ∉ es'.filterMap Loc.blk:=λhk=>(hlen _ hk).2.2 rfl;refine⟨v2,es2,⟨rfl,rfl,λt x h=>(by cases h),?_,?_,λe he=>?_,?_⟩,y1⟩
 ·exact⟨x1.os.trans hS.ext.os,x1.tape.trans hS.ext.tape,x1.output.trans hS.ext.output,Nat.le_trans hS.ext.size x1.size,λk hk hn=>(x1.block k (Nat.lt_of_lt_of_le hk hS.ext.size) λh=>by
   rcases (hlen k h).2.1 with h' | h'
   ·exact absurd hk (Nat.not_lt.2 h')
   ·exact hn h').trans (hS.ext.block k hk hn)⟩
 ·exact⟨Zb.le_trans hS.vst.le x2.le,x2.vin,λk hk hn=>(x2.old k (Nat.lt_of_lt_of_le hk hS.ext.size) λh=>by
   rcases (hlen k h).2.1 with h' | h'
   ·exact absurd hk (Nat.not_lt.2 h')
   ·exact hn h').trans (hS.vst.old k hk hn)⟩
 ·rcases List.mem_cons.1 he with rfl | he
  ·refine⟨?_,λk hk=>?_⟩
   ·show _=_;rw[x1.block _ hbl hbn];exact hbe.1
   ·cases hk
    exact⟨.inl (Nat.le_refl _),(x2.old _ hbl hbn).trans (hbe.2 _ rfl).2⟩
  ·obtain⟨h1,h2⟩:=y2 e he;refine⟨h1,λk hk=>⟨?_,(h2 k hk).2⟩⟩;rcases (h2 k hk).1 with h' | h'
   ·exact .inl (Nat.le_trans hS.ext.size h')
   ·exact (hlen k h').2.1
 ·simp only[List.filterMap_cons,Loc.blk];refine List.nodup_cons.2 ⟨λhk=>?_,y3⟩;obtain⟨e,he,hke⟩:=List.mem_filterMap.1 hk;rcases ((y2 e he).2 _ hke).1 with h' | h'
  ·omega
  ·exact hbn h'
theorem Z7n {w W:World} {b:Nat} {v:Zb} {z:PSt} (hI:ZEd w b v z W):W.cell? ⟨w.heap.size,0,none⟩=some (.int .i64 0)∧W.frozen? ⟨w.heap.size,0,none⟩=false∧W.setCell ⟨w.heap.size,0,none⟩ (.int .i64 0)=W:=by
 obtain⟨v',es',hS,_⟩:=hI;have h:W.heap[w.heap.size]? = some (.cells #[.int .i64 0] 26 (0,0)):=(hS.loc _ List.mem_cons_self).1;refine⟨by simp[World.cell?,h],by simp[World.frozen?,h],?_⟩;have:(W.setCell ⟨w.heap.size,0,none⟩ (.int .i64 0)).heap=W.heap:=by
  apply Array.ext_getElem?;intro i;simp only[World.setCell];rw[Array.getElem?_modify];split
  ·next e=>subst e;rw[h];rfl
  ·rfl
 show ({ W with heap:=(W.setCell ⟨w.heap.size,0,none⟩ (.int .i64 0)).heap }:World)=W;rw[this]
theorem Zpm {v:Zb} {q:Option Addr} {n cap:Nat} {l:List (List UInt8)} (h:(Zs ZE).rel v [.slice q n cap] l):l.length≤maxLen:=by
 obtain⟨_,_,_,h1,h2⟩:=ZFe h;omega
theorem Zjn (W:World) (k b:Nat) (x:Value) (h:k≠b):(W.setCell ⟨b,0,none⟩ x).heap[k]? = W.heap[k]?:=by
 simp only[World.setCell];rw[Array.getElem?_modify,iN (Ne.symm h)]
theorem ZMx (W:World) (b:Nat) (x:Value):(W.setCell ⟨b,0,none⟩ x).heap.size=W.heap.size:=by simp[World.setCell]
theorem ZFu {W W2:World} {e:Loc} (h:∀ k,e.blk=some k→W2.heap[k]? = W.heap[k]?) (hh:e.holds W):e.holds W2:=by
 cases e with
 | box b T cs=>exact (h b rfl).trans hh
 | own q T sz n cap cs=>cases q with
  | none=>exact hh
  | some b=>obtain⟨h1,cur,h2,h3⟩:=hh;exact⟨h1,cur,(h b rfl).trans h2,h3⟩
 | mp b l=>obtain⟨es,c,h1,h2⟩:=hh;exact⟨es,c,(h b rfl).trans h1,h2⟩
 | it b s p=>exact (h b rfl).trans hh
theorem Z7p {w W:World} {b:Nat} {v:Zb} {z:PSt} (hI:ZEd w b v z W) (x:Value):(W.setCell ⟨w.heap.size,0,none⟩ x).cell? ⟨w.heap.size,0,none⟩=some x∧∃ v' es',St 0 ⟨w,[b]⟩ v [] es' v' dm (W.setCell ⟨w.heap.size,0,none⟩ x)∧CRL v' (.box 25 lstC) z (.box b) es':=by
 obtain⟨v',es',hS,hC⟩:=hI;have h:W.heap[w.heap.size]? = some (.cells #[.int .i64 0] 26 (0,0)):=(hS.loc _ List.mem_cons_self).1;have hvn:v' w.heap.size=none:=((hS.loc _ List.mem_cons_self).2 _ rfl).2;have hnd:=hS.nd;simp only[List.filterMap_cons,Loc.blk]at hnd;obtain⟨hn1,hn2⟩:=List.nodup_cons.1 hnd;refine⟨?_,v',es',⟨rfl,rfl,λt x h=>(by cases h),?_,?_,?_,hn2⟩,hC⟩
 ·have:(W.setCell ⟨w.heap.size,0,none⟩ x).heap[w.heap.size]? = some (.cells #[x] 26 (0,0)):=by
   simp only[World.setCell];rw[Array.getElem?_modify,iP rfl,h];rfl
  simp[World.cell?,this]
 ·exact⟨hS.ext.os,hS.ext.tape,hS.ext.output,by rw[ZMx];exact hS.ext.size,λk hk hn=>(Zjn _ _ _ _ (by show k≠w.heap.size;have:k<w.heap.size:=hk;omega)).trans (hS.ext.block k hk hn)⟩
 ·refine⟨hS.vst.le,λk o hk=>(Zjn _ _ _ _ (λe=>?_)).trans (hS.vst.vin k o hk),hS.vst.old⟩;rw[e,hvn]at hk;cases hk
 ·intro e he;obtain⟨h1,h2⟩:=hS.loc e (List.mem_cons_of_mem _ he);exact⟨ZFu (λk hk=>Zjn _ _ _ _ λe'=>hn1 (e' ▸ List.mem_filterMap.2 ⟨e,he,hk⟩)) h1,h2⟩
theorem ZYt {w:World} {v:Zb} {b:Nat} (hv:VIn v w) (hb:w.heap[b]? = some (.cells #[.slice none 0 0] 25 (0,0))) (hvb:v b=none):ZEd w b v none (w.alloc (.cells #[.int .i64 0] 26)):=by
 have hbl:b<w.heap.size:=Z5b hb;have hx:Ext w (w.alloc (.cells #[.int .i64 0] 26)):=Ext.alloc w _;refine⟨v,[.box b 25 [.slice none 0 0]],⟨rfl,rfl,λt x h=>(by cases h),?_,?_,?_,?_⟩,?_⟩
 ·exact (ExtB.refl _).trans hx
 ·exact⟨Zb.le_refl _,λk o hk=>hx.get (hv k o hk),λ_ _ _=>rfl⟩
 ·intro e he;rcases List.mem_cons.1 he with rfl | he
  ·refine⟨?_,λk hk=>?_⟩
   ·show (w.alloc (.cells #[.int .i64 0] 26)).heap[w.heap.size]? = _;exact Array.getElem?_push_size
   ·cases hk;exact⟨.inl (Nat.le_refl _),hv.none (Nat.le_refl _)⟩
  ·rcases List.mem_cons.1 he with rfl | he
   ·refine⟨hx.get hb,λk hk=>?_⟩
    cases hk;exact⟨.inr (by simp),hvb⟩
   ·cases he
 ·simp[Loc.blk];omega
 ·exact⟨b,_,[],rfl,.inl ⟨rfl,rfl,rfl⟩,rfl,rfl⟩
theorem ZAu (w:World) (v:Zb) (b:Nat) {q:Option Addr} {n cap:Nat} {lines:List (List UInt8)} {z':PSt} {at' er:Int} (hv:VIn v w) (hb:w.heap[b]? = some (.cells #[.slice none 0 0] 25 (0,0))) (hvb:v b=none) (hl:(Zs ZE).rel v [.slice q n cap] lines) (hm:ZNb lines 0 none=some (z',at',er)) :
  Calls Tryz.prog 16 #[.pointer (some ⟨b,0,none⟩),.slice q n cap] w λe W=>e = .returned (.tuple #[.int .i64 at',.int .i64 er])∧∃ v' es',St 0 ⟨w,[b]⟩ v [] es' v' dm W∧CRL v' (.box 25 lstC) z' (.box b) es':=by
 have hmf:∀ (fn:Fn) (first cap:Array Value) (w:World),(Instr.makeFunc fn first cap).run Tryz.prog w = .ok (.func fn first cap) w:=λ_ _ _ _=>rfl
 go_enter_defers Tryz.func16,Tryz.ntmps16
 go_wp2
 obtain rfl:=ZYa hl;have he:∀ {W:World} {z:PSt} {k:Nat} {s:List UInt8},ZEd w b v z W→lines[k]? = some s→∃ c o,q=some ⟨c,o,none⟩∧W.cell? ⟨c,o+k,none⟩=some (.string (Zg s))∧s.length≤maxLen:=by
  intro W z k s ⟨v',es',hS,_⟩ hk;obtain⟨_,c,o,cs,e1,hA,hr⟩:=ZIb hl hk;refine⟨c,o,e1,?_,hr.2⟩;have hW:=hS.view (hA.mono hS.vst.le);rw[hr.1]at hW;have:=hW.cell (j:=0) rfl
  simpa [ZE] using this
 have hmA:Aside (ZNb lines 0 none=some (z',at',er)):=hm;clear hm
 go_loopg [4,11] lines.length (λgk t4 t11 wr=>∃ (k:Nat) (z:PSt) (p:Int),Aside (k≤lines.length∧gk=lines.length-k∧ZEd w b v z wr∧ZNb (lines.drop k) k z=some (z',at',er))∧t11 = .int .i64 k∧t4 = .int .i64 p)
 case atStart =>
  exact⟨0,none,0,⟨Nat.zero_le _,rfl,ZYt hv hb hvb,hmA⟩,rfl,rfl⟩
 case round =>
  obtain⟨k,z,p,hA,rfl,rfl⟩:=hrel;obtain⟨hbe1,hbe2,hbe3⟩:=Z7n hA.out.2.2.1;by_cases hk:k<lines.length
  ·obtain⟨s,hs⟩:∃ s,lines[k]? = some s:=⟨_,List.getElem?_eq_getElem hk⟩;obtain⟨c,o,rfl,hce,hsl⟩:=he hA.out.2.2.1 hs;have hdr:lines.drop k=s :: lines.drop (k+1):=by
    obtain⟨h1,h2⟩:=List.getElem?_eq_some_iff.1 hs;rw[List.drop_eq_getElem_cons h1,h2]
   have hk64:wrap64 ((k:Int)+1)=(k:Int)+1:=by
    have:=Zpm hl;unfold wrap64 maxLen at *;omega
   have hk64':Value.int .i64 (wrap64 ((k:Int)+1)) = .int .i64 ((k+1:Nat):Int):=by rw[hk64];rfl
   clear hl;by_cases h0:s=[]∨s.head? = some 35
   ·have hN:Aside (k+1≤lines.length∧lines.length-(k+1)<gk∧ZEd w b v z wr∧ZNb (lines.drop (k+1)) (k+1) z=some (z',at',er)):=by
     obtain⟨g1,g2,g3,g4⟩:=hA.out;rw[hdr,ZNb,iP h0]at g4;exact⟨hk,by omega,g3,g4⟩
    clear hA he hs hmA hdr;rcases h0 with rfl | h0
    ·have e0:Zg []=⟨#[]⟩:=rfl;rw[e0]at hce
     go_wp2
     go_roundg (lines.length-(k+1))
     case measure=>exact hN.out.2.1
     exact⟨k+1,z,_,⟨hN.out.1,rfl,hN.out.2.2⟩,hk64',rfl⟩
    ·obtain⟨x,r,rfl⟩:∃ x r,s=x :: r:=by cases s with
      | nil=>cases h0
      | cons x r=>exact⟨x,r,rfl⟩
     obtain rfl:x=35:=by simpa using h0
     have f1:¬ (Zg (35 :: r)).toList=[]:=by rw[ZDk];exact List.cons_ne_nil _ _
     have f2:0<(Zg (35 :: r)).size:=by simp[Zg,ByteArray.size]
     have f3:(Zg (35 :: r))[0]=35:=rfl;clear h0;generalize Zg (35 :: r)=S at *
     go_wp2
     go_roundg (lines.length-(k+1))
     case measure=>exact hN.out.2.1
     exact⟨k+1,z,_,⟨hN.out.1,rfl,hN.out.2.2⟩,hk64',rfl⟩
   ·obtain⟨x,r,rfl⟩:∃ x r,s=x :: r:=by cases s with
      | nil=>exact absurd (.inl rfl) h0
      | cons x r=>exact⟨x,r,rfl⟩
    have hx:x≠35:=λe=>h0 (.inr (by rw[e];rfl));have hN:∃ y,Zmf z (x :: r)=some y∧Aside (k+1≤lines.length∧lines.length-(k+1)<gk∧(y.2=true→ZNb (lines.drop (k+1)) (k+1) y.1=some (z',at',er))∧(y.2=false→y.1=z'∧((k:Nat):Int)+1=at'∧er=2)):=by
     obtain⟨g1,g2,g3,g4⟩:=hA.out;rw[hdr,ZNb,iN h0]at g4;obtain⟨y,hy,g4⟩:=ZG g4;refine⟨y,hy,hk,by omega,λe=>?_,λe=>?_⟩
     ·rwa [iP e]at g4
     ·rw[iN (by rw[e];decide)]at g4
      cases g4
      exact⟨rfl,by simp,rfl⟩
    obtain⟨⟨y1,y2⟩,hy,hN⟩:=hN;have hcall:=ZGu (b:=b) (v:=v) hA.out.2.2.1 hsl hy;clear hA he hs hmA hdr h0 hy;have f1:¬ (Zg (x :: r)).toList=[]:=by rw[ZDk];exact List.cons_ne_nil _ _
    have f1':(Zg (x :: r)).toList.isEmpty=false:=by cases h:(Zg (x :: r)).toList with
     | nil=>exact absurd h f1
     | cons _ _=>rfl
    have f2:0<(Zg (x :: r)).size:=by simp[Zg,ByteArray.size]
    have f3:(Zg (x :: r))[0]=x:=rfl;have f4:((x.toNat:Int) != 35)=true:=by simp;exact λe=>hx (UInt8.toNat.inj (by exact_mod_cast e))
    generalize Zg (x :: r)=S at *
    cases y2 with
    | true =>
     have hcall':Calls Tryz.prog 39 #[.pointer (some ⟨b,0,none⟩),.string S] wr λe W'=>e = .returned (.tuple #[])∧ZEd w b v y1 W':=hcall;clear hcall
     go_wp2_with (refine Calls.mono hcall' ?_;rintro e w' ⟨rfl,hI⟩)
     go_wp2
     go_roundg (lines.length-(k+1))
     case measure=>exact hN.out.2.1
     exact⟨k+1,y1,_,⟨hN.out.1,rfl,hI,hN.out.2.2.1 trivial⟩,hk64',rfl⟩
    | false =>
     have hcall':Calls Tryz.prog 39 #[.pointer (some ⟨b,0,none⟩),.string S] wr λe W'=>e = .panicked pan0.2∧ZEd w b v y1 W':=hcall;clear hcall
     go_wp2_with (refine Calls.mono hcall' ?_;rintro e w' ⟨rfl,hI⟩)
     obtain⟨hb1,hb2,_⟩:=Z7n hI;obtain⟨hs1,hs2⟩:=Z7p hI (.int .i64 2);refine leaves_cons (f:=38) (args:=#[.pointer (some ⟨w.heap.size,0,none⟩)]) (by simp) (by simp[go_sem]) ?_;refine (catch_p ⟨w.heap.size,0,none⟩ 0 _ hb1 hb2).mono ?_;rintro e u' w'' ⟨rfl,rfl,rfl⟩;obtain⟨q1,q2,q3⟩:=hN.out.2.2.2 trivial;subst q1 q2 q3;simp[Leaves,settle,results,go_sem,hs1];exact hs2
  ·clear hl;obtain⟨hz0,hat,her⟩:z=z'∧at'=0∧er=0:=by
    obtain⟨g1,g2,g3,g4⟩:=hA.out;rw[List.drop_eq_nil_of_le (by omega),ZNb]at g4
    cases g4
    exact⟨rfl,rfl,rfl⟩
   subst hz0 hat her;have hout:=(Z7p hA.out.2.2.1 (.int .i64 0)).2;rw[hbe3]at hout
   go_wp2
   refine leaves_cons (f:=38) (args:=#[.pointer (some ⟨w.heap.size,0,none⟩)]) (by simp) (by simp[go_sem]) ?_;refine (catch_i ⟨w.heap.size,0,none⟩ _).mono ?_;rintro e u' w'' ⟨rfl,rfl,rfl⟩;simp[Leaves,settle,results,go_sem,hbe1,hbe2];exact hout
noncomputable def Z7s:FuncId×ConB:=(16,⟨25,.agg (.one (.dat (.leaf 7))),[.slice .str],[.int .i64,.int .i64],λz x=>Zhn z x⟩)
theorem Z3x {K:Nat} {w0:Base} {v0 v:Zb} {b:Nat} {z:PSt} {es:List Loc} {a:Act} {w:World} (hS:St K w0 v0 [] es v a w) (hC:CRL v (.box 25 lstC) z (.box b) es) :
  ∃ v' cs,v.le v'∧St K w0 v0 [] [.box b 25 cs] v' a w∧Zzl.rel v' cs (Zab z):=by
 obtain⟨b',c1,e1,hb,hc,_,rfl⟩:=hC
 cases hb
 rcases hc with ⟨rfl,rfl,rfl⟩ | ⟨l,x,b1,cap,d,d0,o1,o2,k1,k2,d1,d2,rfl,rfl,h1,h2,h3,h4,rfl⟩
 ·exact⟨v,_,Zb.le_refl _,hS,λ_=>rfl,ZEf _ _⟩
 ·obtain⟨v1,hv1,hS1,r1⟩:=hS.pubSlice (i:=2) (A:=ZE) (l:=x.2.1) (ℓ':=[.box b 25 [.slice (mkA (some b1)) (l.length+1) cap],.own (some b1) 72 3 (l.length+1) cap (d++(d0++[.slice (mkA o1) x.2.1.length k1,.slice (mkA o2) x.2.2.length k2])),.own o2 77 (T.pair (.int .i64) (.pair (.leaf 3) .str)).n x.2.2.length k2 d2]) rfl rfl rfl h3 rfl;obtain⟨v2,hv2,hS2,r2⟩:=hS1.pubSlice (i:=2) (A:=(T.pair (.int .i64) (.pair (.leaf 3) .str)).rep) (l:=x.2.2) (ℓ':=[.box b 25 [.slice (mkA (some b1)) (l.length+1) cap],.own (some b1) 72 3 (l.length+1) cap (d++(d0++[.slice (mkA o1) x.2.1.length k1,.slice (mkA o2) x.2.2.length k2]))]) rfl rfl rfl (ZR hv1 h4) rfl;have hx:rStepD.rel v2 (d0++[.slice (mkA o1) x.2.1.length k1,.slice (mkA o2) x.2.2.length k2]) x :=
   ⟨d0,_,rfl,Rep.mono _ (Zb.le_trans hv1 hv2) h2,[_],_,rfl,Rep.mono _ hv2 r1,r2⟩
  obtain⟨v3,hv3,hS3,r3⟩:=hS2.pubSlice (i:=1) (A:=rStepD) (l:=l++[x]) (ℓ':=[.box b 25 [.slice (mkA (some b1)) (l.length+1) cap]]) rfl rfl (show l.length+1=(l++[x]).length from (@lA _ l [x]).symm) (Z1m (ZR (Zb.le_trans hv1 hv2) h1) hx) rfl;exact⟨v3,_,Zb.le_trans (Zb.le_trans hv1 hv2) hv3,hS3,λh=>absurd (show l++[x]=[] from h) (List.append_ne_nil_of_right_ne_nil _ (List.cons_ne_nil _ _)),r3⟩
theorem Zxs:∀ (ls:List (List UInt8)) (k:Nat) (z:PSt) {z':PSt} {a e:Int},ZNb ls k z=some (z',a,e)→(a=0∧e=0)∨((k:Int)+1≤a∧a≤k+ls.length∧e=2)
 | [],k,z,z',a,e,h=>by cases h;exact .inl ⟨rfl,rfl⟩
 | s :: r,k,z,z',a,e,h=>by
  have ih:=λz=>Zxs r (k+1) z (z':=z') (a:=a) (e:=e)
  have hl:((s :: r).length:Int)=r.length+1:=by simp
  rw[ZNb]at h
  split at h
  ·rcases ih z h with h | ⟨h1,h2,h3⟩
   ·exact .inl h
   ·exact .inr ⟨by omega,by omega,h3⟩
  ·obtain⟨y,hy,h⟩:=ZG h
   split at h
   ·rcases ih _ h with h | ⟨h1,h2,h3⟩
    ·exact .inl h
    ·exact .inr ⟨by omega,by omega,h3⟩
   ·cases h
    exact .inr ⟨by omega,by omega,rfl⟩
theorem Zoq {x:List (List UInt8)} {y:PSt×Int×Int} (h:ZNb x 0 none=some y) (hx:x.length≤maxLen):inR .i64 y.2.1∧inR .i64 y.2.2:=by
 obtain⟨z',a,e⟩:=y;unfold maxLen at hx;show inR .i64 a∧inR .i64 e;rcases Zxs x 0 none h with ⟨e1,e2⟩ | ⟨e1,e2,e3⟩
 ·rw[e1,e2];decide
 ·rw[e3];exact⟨Zva.2 ⟨by omega,by omega⟩,by decide⟩
theorem ZBw:KB Z7s:=by
 intro w v b es vals z x r hv hC hes hnd ha hF;obtain⟨b',c1,e1,hb,hc,_,rfl⟩:=hC
 cases hb
 have hz:z=[]:=by
  cases z with
  | nil=>rfl
  | cons a r=>cases hF
 subst hz;obtain⟨ys,hys,hF⟩:=ZG hF
 cases hF
 obtain⟨q1,q2⟩:=hc;obtain⟨rfl,q2⟩:c1=[.slice none 0 0]∧e1=[]:=⟨q1.1 rfl,q2⟩;subst q2;obtain⟨cs,rfl,hl⟩:=ha;obtain⟨q,n,cap,rfl⟩:=ZOt hl;obtain⟨h1,h2⟩:=hes _ List.mem_cons_self;refine⟨λ_ _=>by kernel_rfl,?_⟩;refine Calls.mono (ZAu w v b hv h1 (h2 b rfl) hl hys) λe W ⟨he,v1,es1,hS,hC⟩=>?_;obtain⟨v2,cs,hv2,hS2,hr⟩:=Z3x hS hC;have h3:=hS2.loc _ List.mem_cons_self;refine⟨_,v2,he,hS2.ext,hS2.vst,?_,[.box b 25 cs],⟨b,cs,[],rfl,⟨hr,rfl⟩,Zzl.flat hr,rfl⟩,?_,by simp[Loc.blk]⟩
 ·refine⟨[.int .i64 ys.2.1,.int .i64 ys.2.2],rfl,[_],_,rfl,⟨rfl,?_⟩,[_],rfl,⟨rfl,?_⟩⟩
  ·exact (Zoq hys (Zpm hl)).1
  ·exact (Zoq hys (Zpm hl)).2
 ·intro e he
  cases List.mem_singleton.1 he
  exact⟨h3.1,λk hk=>h3.2 k hk⟩
noncomputable def ZDt:FuncId×Con:=(6,⟨[.str],[.one (.slice (.pair .str (.pair (.slice .str) (.slice (.pair (.int .i64) (.pair (.leaf 3) .str)))))),.int .i64,.int .i64],λp=>ZKj p⟩)
theorem Z6y:KQ ZDt:=Zr (Zfa (C:=cf1 [Zwn,Zpp] [] [] [] [] [Z7s] []) .no Tryz.func6 [] (λ_=>by kernel_rfl) ⟨Z7q,Zmt,tr⟩ tr tr tr tr ⟨ZBw,tr⟩)
noncomputable def ZKe:FuncId×Con:=(125,⟨[.slice (.int .u32)],[.leaf 1],λp=>ZBb p⟩)
theorem ZAf:KQ ZKe:=Zr (ZSi (C:=cf2 [] []) (.n (.n (.f (.j [0] [] [.s 3 (.dat (.int .i64))] (.f (.l [0] [] [.s 3 (.dat (.int .i64))] 0 [0] [] [.s 3 (.dat (.int .i64))] (.f (.f (.f (.j [0,3] [] [.s 15 (.dat .bool)] .no)))))))))) Tryz.func125 [] [.slice (.int .u32)] [.slice (.int .u32)] (λx=>(x)) (λz=>(Zc 4294967296 z)) (λv vals x z ha hz=>by obtain⟨c0,e0,p0⟩:=ha;exact .trans (by kernel_rfl) (by cases hz;exact (rcut_eq (ZFl p0).1 (ZFl p0).2))))
noncomputable def Zun:FuncId×Con:=(95,⟨[.leaf 1,.int .u32],[.leaf 1,.int .u32],λp=>ZOe p.1 p.2⟩)
theorem Z4n:KQ Zun:=Zr (ZH (C:=cf2 [(78,1),(80,4)] [ZKe]) (.n (.n (.n (.f (.n (.j [] [] [.s 6 (.own 135 (.int .u32)),.s 7 (.dat (.int .u64))] (.f (.l [0,1] [] [.s 6 (.own 135 (.int .u32)),.s 7 (.dat (.int .u64)),.s 8 (.dat (.int .i64))] 0 [] [] [.s 6 (.own 135 (.int .u32)),.s 7 (.dat (.int .u64))] .no)))))))) Tryz.func95 [] (λv vals x z ha hz=>by obtain⟨c0,w0,e0,p0,c1,e1,p1⟩:=ha;exact .trans (by kernel_rfl) (Z9y p1.2 hz)) ⟨ZAf,tr⟩)
noncomputable def ZJp:FuncId×Con:=(52,⟨[.leaf 1],[.str],λp=>Zrg p⟩)
theorem ZEv:KQ ZJp:=Zr (ZH (C:=cf2 [(78,1),(80,4)] [Zun]) (.n (.n (.f (.j [] [] [.s 3 (.dat .str)] (.f (.l [] [] [.s 0 (.dat (.leaf 1)),.s 3 (.dat .str)] 0 [] [] [.s 3 (.dat .str)] (.f (.n (.f (.n (.f (.n (.j [4] [] [.s 3 (.dat .str)] (.f (.l [4] [] [.s 3 (.dat .str),.s 5 (.dat (.int .u32)),.s 6 (.dat (.int .i64))] 2 [4] [] [.s 3 (.dat .str)] (.f (.f (.f (.j [3,4,5,6] [] [.s 25 (.dat .bool)] .no))))))))))))))))))) Tryz.func52 [] (λv vals x z ha hz=>.trans (by kernel_rfl) (ZKy hz)) ⟨Z4n,tr⟩)
noncomputable def Zmn:FuncId×Con:=(53,⟨[.leaf 4],[.bool],λp=>ZTe p⟩)
theorem Zqp:KQ Zmn:=Zr (ZH (C:=cf2 [(78,1),(80,4)] []) .no Tryz.func53 [] (λv vals x z ha hz=>.trans (by kernel_rfl) (ZCx hz)))
noncomputable def Zal:FuncId×Con:=(54,⟨[.leaf 1,.leaf 1],[.int .i64],λp=>Z7d p.1 p.2⟩)
theorem ZWq:KQ Zal:=Zr (ZH (C:=cf2 [(78,1),(80,4)] []) (.n (.n (.n (.f (.n (.cut ⟨⟨[],[],[]⟩,[(.norm,⟨[],[],[]⟩),(.ret,⟨[],[],[.s 1000 (.dat (.int .i64))]⟩)]⟩ (.f (.cut ⟨⟨[0,1],[],[.s 5 (.dat (.int .i64))]⟩,[(.ret,⟨[],[],[.s 1000 (.dat (.int .i64))]⟩),(.exit 0,⟨[],[],[]⟩)]⟩ .no)))))))) Tryz.func54 [] (λv vals x z ha hz=>by obtain⟨c0,w0,e0,p0,c1,e1,p1⟩:=ha;exact .trans (by kernel_rfl) ((Z3w (ZNq p0) (ZNq p1)).trans hz)))
noncomputable def Zvo:FuncId×Con:=(55,⟨[.leaf 4],[.leaf 1],λp=>Z9g p⟩)
theorem Zfv:KQ Zvo:=Zr (ZH (C:=cf2 [(78,1),(80,4)] []) .no Tryz.func55 [] (λv vals x z ha hz=>.trans (by kernel_rfl) (Zfx hz)))
theorem Z7y {x:Rat} {z:List UInt8} (h:Znf x=some z):Ztr x=some z:=by
 unfold Znf at h;split at h
 ·rename_i hh;obtain⟨h1,h2⟩:=hh
  cases h
  unfold Ztr Zrg;have l1:=Z8j (n:=x.num.natAbs) (by omega);have l2:=Z8j (n:=x.den) (by omega);rw[iP (Ztp h1),Za];have e0:ifb (decide (x.num<0)) (bnd (ZTe x) λy136=>some (!(y136))) (some false)=some (decide (x.num<0)):=by
   unfold ZTe;by_cases h:x.num<0
   ·have:x≠0:=λe=>by subst e;simp at h
    rw[dT h,Zf,Za,dFq this];rfl
   ·rw[dFq h,Ze]
  rw[e0,Za];have e1:ifb (decide (x.num<0)) (bnd (Z4 ([45]++ZU x.num.natAbs)) λy80=>some (([45]:List UInt8)++ZU x.num.natAbs)) (some (ZU x.num.natAbs))=some ((if x.num<0 then [45] else [])++ZU x.num.natAbs):=by
   by_cases h:x.num<0
   ·rw[dT h,Zf,ZUd (by simp;omega),Za,iP h]
   ·rw[dFq h,Ze,iN h];rfl
  rw[e1,Za];unfold ZLa Z9g Z7d;have l3:((if x.num<0 then [45] else [])++ZU x.num.natAbs:List UInt8).length≤4398046511105:=by
   rw[lA];split <;> simp <;> omega
  generalize ((if x.num<0 then [45] else [])++ZU x.num.natAbs:List UInt8)=s at *;rw[Za,ZNm,Za,Za,Zvr];by_cases hd:x.den=1
  ·rw[hd];simp[ifb,bnd]
  ·have:=x.den_nz;rw[dT (by omega),Zf,ZUd (by simp;omega),Za,iP (Ztp h2),Za,ZUd (by simp;omega),Za,Za,iN hd];simp
 ·cases h
noncomputable def ZNk:FuncId×Con:=(30,⟨[.leaf 4],[.str],λp=>Znf p⟩)
theorem ZQr:KQ ZNk:=Zr (ZH (C:=cf2 [(78,1),(80,4)] [ZJp,Zmn,Zal,Zvo]) (.n (.n (.two (.two (.j [1,3] [] [.s 13 (.dat .bool)] .no) (.j [1] [] [.s 3 (.dat .str)] .no)) (.f (.n (.j [] [] [.s 3 (.dat .str)] .no)))))) Tryz.func30 [] (λv vals x z ha hz=>.trans (by kernel_rfl) (Z7y hz)) ⟨ZEv,Zqp,ZWq,Zfv,tr⟩)
noncomputable def is1_q:FuncId×Con:=(21,⟨[.leaf 3,.leaf 4],[.bool],λp=>Zej p.1 p.2⟩)
theorem is1_k:KQ is1_q:=Zr (Zfa (C:=cf0 [Zam,ZNk] [] [] []) .no Tryz.func21 [] (λ_=>by kernel_rfl) ⟨Zbm,ZQr,tr⟩)
noncomputable def Zko:FuncId×Con:=(8,⟨[.one (.slice (.pair .str (.pair (.slice .str) (.slice (.pair (.int .i64) (.pair (.leaf 3) .str)))))),.slice (.pair .str (.pair (.slice .str) (.slice (.pair (.int .i64) (.pair (.leaf 4) .str)))))],[.bool],λp=>ZAk p.1 p.2⟩)
theorem ZWx:KQ Zko:=Zr (Zfa (C:=cf0 [is1_q] [] [] []) (.n (.n (.f (.n (.f (.cut ⟨⟨[1,19,20],[],[.s 21 (.dat (.int .i64))]⟩,[(.exit 0,⟨[],[],[]⟩),(.ret,⟨[],[],[.s 1000 (.dat .bool)]⟩)]⟩ (.f (.n (.n (.f (.f (.n (.n (.two (.f (.j [1,6,7,19,20,21] [] [.s 52 (.dat .bool)] .no)) (.two (.n (.f (.cut ⟨⟨[1,6,7,19,20,21,55],[],[.s 56 (.dat (.int .i64))]⟩,[(.exit 2,⟨[1,6,7,19,20,21],[],[]⟩),(.ret,⟨[],[],[.s 1000 (.dat .bool)]⟩)]⟩ .no))) (.n (.f (.cut ⟨⟨[1,7,19,20,21,72,73],[],[.s 74 (.dat (.int .i64))]⟩,[(.exit 4,⟨[1,19,20,21],[],[]⟩),(.ret,⟨[],[],[.s 1000 (.dat .bool)]⟩)]⟩ (.f (.n (.n (.f (.f (.n (.n (.f (.j [1,7,19,20,21,72,73,74] [] [.s 103 (.dat .bool)] .no))))))))))))))))))))))))))) Tryz.func8 [] (λ_=>by kernel_rfl) ⟨is1_k,tr⟩)
noncomputable def ZOr:FuncId×Con:=(47,⟨[.int .i64,.int .i64],[.leaf 3,.int .i64],λp=>Zli p.1 p.2⟩)
theorem qnew_k:KQ ZOr:=Zr (ZH (C:=cf0 [of_q,ZQf,ZZd] [] [] []) .no Tryz.func47 [] (λv vals x z ha hz=>by obtain⟨c0,w0,e0,p0,c1,e1,p1⟩:=ha;exact .trans (by kernel_rfl) (ZVv p0.2 p1.2 hz)) ⟨of_k,Z7g,ZHf,tr⟩)
noncomputable def ZEo:FuncId×Con:=(22,⟨[.pair (.int .i64) (.int .i64)],[.leaf 3],λp=>ZZg p⟩)
theorem Zsu:KQ ZEo:=Zr (ZH (C:=cf0 [Zjj,ZOr] [] [] []) .no Tryz.func22 [] (λv vals x z ha hz=>.trans (by kernel_rfl) (ZDz hz)) ⟨Zdl,qnew_k,tr⟩)
noncomputable def ZAl:FuncId×Con:=(92,⟨[.int .u64],[.leaf 1],λp=>Zpd p⟩)
theorem ZMr:KQ ZAl:=Zr (ZH (C:=cf2 [(78,1),(80,4)] [ZKe]) .no Tryz.func92 [] (λv vals x z ha hz=>by obtain⟨c0,e0,p0⟩:=ha;exact .trans (by kernel_rfl) (Zzv p0.2 hz)) ⟨ZAf,tr⟩)
noncomputable def ZFr:FuncId×Con:=(119,⟨[.leaf 1,.leaf 1],[.leaf 1],λp=>Zsg p.1 p.2⟩)
theorem rprod_k:KQ ZFr:=Zr (ZH (C:=cf2 [(78,1),(80,4)] [ZKe]) (.n (.n (.f (.n (.j [] [] [.s 5 (.own 135 (.int .u32))] (.f (.l [0,1] [] [.s 5 (.own 135 (.int .u32)),.s 6 (.dat (.int .i64))] 0 [] [] [.s 5 (.own 135 (.int .u32))] (.f (.n (.f (.f (.n (.f (.n (.j [0,1,6] [] [.s 5 (.own 135 (.int .u32)),.s 7 (.dat (.int .u64))] (.f (.l [0,1,6] [] [.s 5 (.own 135 (.int .u32)),.s 7 (.dat (.int .u64)),.s 8 (.dat (.int .i64))] 2 [0,1,6] [] [.s 5 (.own 135 (.int .u32)),.s 7 (.dat (.int .u64))] .no))))))))))))))))) Tryz.func119 [] (λv vals x z ha hz=>.trans (by kernel_rfl) (ZYw hz)) ⟨ZAf,tr⟩)
noncomputable def Z4p:FuncId×Con:=(150,⟨[.leaf 1],[.int .i64],λp=>Z8f p⟩)
theorem rbits_k:KQ Z4p:=Zr (ZH (C:=cf2 [(78,1),(80,4)] []) (.n (.n (.n (.f (.n (.j [] [] [.s 3 (.dat (.int .i64))] (.f (.l [] [] [.s 3 (.dat (.int .i64)),.s 4 (.dat (.int .u32))] 0 [] [] [.s 3 (.dat (.int .i64))] .no)))))))) Tryz.func150 [] (λv vals x z ha hz=>.trans (by kernel_rfl) (ZSy hz)))
noncomputable def ZAr:FuncId×Con:=(151,⟨[.leaf 1,.int .i64],[.leaf 1],λp=>ZXd p.1 p.2⟩)
theorem Zsv:KQ ZAr:=Zr (ZH (C:=cf2 [(78,1),(80,4)] [ZKe]) (.n (.n (.n (.n (.f (.n (.j [] [] [.s 5 (.own 135 (.int .u32)),.s 6 (.dat (.int .u64))] (.f (.l [0,1] [] [.s 5 (.own 135 (.int .u32)),.s 6 (.dat (.int .u64)),.s 7 (.dat (.int .i64))] 0 [] [] [.s 5 (.own 135 (.int .u32)),.s 6 (.dat (.int .u64))] .no))))))))) Tryz.func151 [] (λv vals x z ha hz=>.trans (by kernel_rfl) (Zix hz)) ⟨ZAf,tr⟩)
noncomputable def Zep:FuncId×Con:=(152,⟨[.leaf 1,.leaf 1],[.leaf 1],λp=>Z2d p.1 p.2⟩)
theorem rdif_k:KQ Zep:=Zr (ZH (C:=cf2 [(78,1),(80,4)] [ZKe]) (.n (.n (.n (.f (.n (.j [] [] [.s 5 (.own 135 (.int .u32))] (.f (.l [0,1] [] [.s 5 (.own 135 (.int .u32)),.s 6 (.dat (.int .i64)),.s 7 (.dat (.int .i64))] 0 [] [] [.s 5 (.own 135 (.int .u32))] (.f (.n (.f (.f (.n (.two (.n (.j [0,1,5,7] [] [.s 8 (.dat (.int .i64))] .no)) (.n (.f (.n (.j [0,1,5,7] [] [.s 6 (.dat (.int .i64)),.s 8 (.dat (.int .i64))] .no)))))))))))))))))) Tryz.func152 [] (λv vals x z ha hz=>.trans (by kernel_rfl) (Zmy hz)) ⟨ZAf,tr⟩)
noncomputable def Zos:FuncId×Con:=(153,⟨[.leaf 1,.int .i64],[.leaf 1],λp=>Zng p.1 p.2⟩)
theorem Zey:KQ Zos:=Zr (ZH (C:=cf2 [(78,1),(80,4)] [ZKe]) (.n (.n (.f (.n (.j [] [] [.s 5 (.own 135 (.int .u32))] (.f (.l [0,1] [] [.s 5 (.own 135 (.int .u32)),.s 6 (.dat (.int .i64))] 0 [] [] [.s 5 (.own 135 (.int .u32))] (.f (.n (.f (.f (.n (.f (.n (.j [0,1,5,6] [] [.s 7 (.dat (.int .u64))] .no))))))))))))))) Tryz.func153 [] (λv vals x z ha hz=>by obtain⟨c0,w0,e0,p0,c1,e1,p1⟩:=ha;exact .trans (by kernel_rfl) (Z2x p1.2 hz)) ⟨ZAf,tr⟩)
noncomputable def ZBm:FuncId×Con:=(124,⟨[.leaf 1,.leaf 1],[.leaf 1,.leaf 1],λp=>ZUc p.1 p.2⟩)
theorem ZZn:KQ ZBm:=Zr (ZH (C:=cf2 [(78,1),(80,4)] [Zal,ZAl,Zun,ZFr,ZKe,Z4p,ZAr,Zep,Zos]) (.n (.n (.n (.n (.n (.n (.n (.f (.n (.j [8] [] [.s 10 (.dat (.leaf 1)),.s 12 (.own 135 (.int .u32))] (.f (.l [8,9,11] [] [.s 10 (.dat (.leaf 1)),.s 12 (.own 135 (.int .u32)),.s 13 (.dat (.int .i64))] 0 [8] [] [.s 10 (.dat (.leaf 1)),.s 12 (.own 135 (.int .u32))] (.f (.n (.f (.j [8,9,11,13] [] [.s 10 (.dat (.leaf 1)),.s 12 (.own 135 (.int .u32))] (.f (.n (.two (.n (.j [8,9,10,11,12,13] [] [.s 14 (.dat (.slice (.int .u32)))] .no)) (.n (.n (.two (.n (.j [8,9,10,11,12,13,14] [] [.s 15 (.dat (.int .u64))] .no)) (.n (.two (.n (.j [8,9,10,11,12,13,14] [] [.s 16 (.dat (.int .u64))] .no)) (.n (.f (.j [8,9,10,11,12,13,14] [] [.s 16 (.dat (.int .u64)),.s 17 (.dat (.leaf 1))] (.f (.l [8,9,10,11,12,13,14] [] [.s 16 (.dat (.int .u64)),.s 17 (.dat (.leaf 1))] 2 [8,9,10,11,12,13,14] [] [.s 16 (.dat (.int .u64)),.s 17 (.dat (.leaf 1))] .no))))))))))))))))))))))))))))) Tryz.func124 [] (λv vals x z ha hz=>.trans (by kernel_rfl) (Zew hz)) ⟨ZWq,ZMr,Z4n,rprod_k,ZAf,rbits_k,Zsv,rdif_k,Zey,tr⟩)
noncomputable def Z1r:FuncId×Con:=(123,⟨[.leaf 1,.leaf 1],[.leaf 1],λp=>rgcF p.1 p.2⟩)
theorem rgcd_k:KQ Z1r:=Zr (ZH (C:=cf2 [(78,1),(80,4)] [ZBm]) (.n (.f (.j [] [] [.s 0 (.dat (.leaf 1))] (.f (.l [] [] [.s 0 (.dat (.leaf 1)),.s 1 (.dat (.leaf 1))] 0 [] [] [.s 0 (.dat (.leaf 1))] .no))))) Tryz.func123 [] (λv vals x z ha hz=>.trans (by kernel_rfl) (rgcF_eq hz)) ⟨ZZn,tr⟩)
noncomputable def ZHn:FuncId×Con:=(91,⟨[.bool,.leaf 1,.leaf 1],[.leaf 4],λp=>ZMe p.1 p.2.1 p.2.2⟩)
theorem ZSo:KQ ZHn:=Zr (ZH (C:=cf2 [(78,1),(80,4)] [Z1r,ZBm]) .no Tryz.func91 [] (λv vals x z ha hz=>.trans (by kernel_rfl) (Zhw hz)) ⟨rgcd_k,ZZn,tr⟩)
noncomputable def ZOl:FuncId×Con:=(48,⟨[.int .i64],[.leaf 4],λp=>ZWd p⟩)
theorem Zis:KQ ZOl:=Zr (ZH (C:=cf2 [(78,1),(80,4)] [ZHn,ZAl]) .no Tryz.func48 [] (λv vals x z ha hz=>by obtain⟨c0,e0,p0⟩:=ha;exact .trans (by kernel_rfl) (Zqx p0.2 hz)) ⟨ZSo,ZMr,tr⟩)
noncomputable def ZPt:FuncId×Con:=(49,⟨[.int .i64,.int .i64],[.leaf 4,.int .i64],λp=>ZTh p.1 p.2⟩)
theorem rnew_k:KQ ZPt:=Zr (ZH (C:=cf2 [(78,1),(80,4)] [ZOl,ZHn]) .no Tryz.func49 [] (λv vals x z ha hz=>by obtain⟨c0,w0,e0,p0,c1,e1,p1⟩:=ha;exact .trans (by kernel_rfl) (Zqv p0.2 p1.2 hz)) ⟨Zis,ZSo,tr⟩)
noncomputable def rof_q:FuncId×Con:=(23,⟨[.pair (.int .i64) (.int .i64)],[.leaf 4],λp=>rofF p⟩)
theorem rof_k:KQ rof_q:=Zr (ZH (C:=cf2 [(78,1),(80,4)] [ZOl,ZPt]) .no Tryz.func23 [] (λv vals x z ha hz=>.trans (by kernel_rfl) (rofF_eq hz)) ⟨Zis,rnew_k,tr⟩)
noncomputable def Z8s:FuncId×Con:=(9,⟨[.slice (.pair .str (.pair (.slice .str) (.slice (.pair (.int .i64) (.pair (.pair (.int .i64) (.int .i64)) .str)))))],[.one (.slice (.pair .str (.pair (.slice .str) (.slice (.pair (.int .i64) (.pair (.leaf 3) .str)))))),.slice (.pair .str (.pair (.slice .str) (.slice (.pair (.int .i64) (.pair (.leaf 4) .str))))),.bool],λp=>ZDh p⟩)
theorem Zdw:KQ Z8s:=Zr (Zfa (C:=cf0 [ZEo,rof_q] [] [] []) (.n (.n (.n (.f (.n (.f (.cut ⟨⟨[2,5,6,25,26],[],[.s 27 (.dat (.int .i64)),.l (.sl 15) (.own 72 (.pair .str (.pair (.slice .str) (.slice (.pair (.int .i64) (.pair (.leaf 3) .str)))))),.l (.sl 6) (.own 75 (.pair .str (.pair (.slice .str) (.slice (.pair (.int .i64) (.pair (.leaf 4) .str))))))]⟩,[(.exit 0,⟨[2,5,6],[],[.l (.sl 15) (.own 72 (.pair .str (.pair (.slice .str) (.slice (.pair (.int .i64) (.pair (.leaf 3) .str)))))),.l (.sl 6) (.own 75 (.pair .str (.pair (.slice .str) (.slice (.pair (.int .i64) (.pair (.leaf 4) .str))))))]⟩),(.ret,⟨[],[],[.s 1000 (.agg (.one (.own 72 (.pair .str (.pair (.slice .str) (.slice (.pair (.int .i64) (.pair (.leaf 3) .str)))))))),.s 1001 (.own 75 (.pair .str (.pair (.slice .str) (.slice (.pair (.int .i64) (.pair (.leaf 4) .str)))))),.s 1002 (.dat .bool)]⟩)]⟩ (.f (.n (.n (.f (.f (.n (.two (.f (.j [2,5,6,7,8,25,26,27] [] [.s 41 (.dat .bool)] .no)) (.n (.f (.n (.f (.l [2,5,6,7,9,10,25,26,27,55,56] [] [.s 57 (.dat (.int .i64)),.l (.sl 9) (.box 72 (.agg (.cons (.dat .str) (.cons (.dat (.slice .str)) (.one (.own 77 (.pair (.int .i64) (.pair (.leaf 3) .str)))))))),.l (.sl 10) (.box 75 (.agg (.cons (.dat .str) (.cons (.dat (.slice .str)) (.one (.own 82 (.pair (.int .i64) (.pair (.leaf 4) .str))))))))] 2 [2,5,6,7,9,10,25,26,27] [] [.l (.sl 9) (.box 72 (.agg (.cons (.dat .str) (.cons (.dat (.slice .str)) (.one (.own 77 (.pair (.int .i64) (.pair (.leaf 3) .str)))))))),.l (.sl 10) (.box 75 (.agg (.cons (.dat .str) (.cons (.dat (.slice .str)) (.one (.own 82 (.pair (.int .i64) (.pair (.leaf 4) .str))))))))] .no))))))))))))))))))) Tryz.func9 [] (λ_=>by kernel_rfl) ⟨Zsu,rof_k,tr⟩)
end Go.Eng
namespace Go.Eng
open Go.Proofs Go.RowKit Go.Shelf
structure PB (w:World) (m:List UInt8) (W:World):Prop where
 bl:Lib.IsBuilderF 96 5 w.heap.size w.heap.size (Lib.byteCells m) W
 ext:Ext w W
theorem ZIx {W W':World} (h:Ext W W'):W.grownBy W' none:=⟨h.os,h.tape,h.output,h.size,λk hk _=>Below.block h k hk⟩
theorem ZPq {B b:Nat} {p:Value} {bs:List Value} {W W':World} (h:Lib.BuilderAtF 96 5 B b p bs W) (x:Ext W W'):Lib.BuilderAtF 96 5 B b p bs W':=by
 obtain⟨h1,v,h2,h3,h4⟩:=h;exact⟨h1,v,x.get h2,h3.kept (ZIx x) (by cases h5:v.ownBlock <;> simp),h4⟩
theorem PB.step {w W W':World} {m:List UInt8} (h:PB w m W) (x:Ext W W'):PB w m W' :=
 ⟨h.bl.elim (λk=>.inl (ZPq k x)) (λk=>.inr (ZPq k x)),h.ext.trans x⟩
theorem PB.lt {w W:World} {m:List UInt8} (h:PB w m W):w.heap.size<W.heap.size:=h.bl.elim (·.lt) (·.lt)
theorem ZTt {w W:World} {m s:List UInt8} (h:PB w m W) (hl:(m++s).length≤140737488355328) :
  Calls Tryz.prog 25 #[.pointer (some ⟨w.heap.size,0,none⟩),.string (Zg s)] W λe W'=>e = .returned (.tuple #[.int .i64 s.length,.nilIface])∧PB w (m++s) W'∧Lib.OthersKept 5 (some w.heap.size) W W':=by
 have hc:=Any.Builder_WriteString_k (P:=Tryz.prog) (ρ:=Tryz.lays156_ren) { Tryz.lays156 with } Tryz.Builder_Extra_156 w.heap.size w.heap.size (Lib.byteCells m) (Zg s) W h.bl
  (by rw[Lib.byteCells_length,Z3b,← lA];exact hl) (Nat.le_of_lt h.lt)
 refine Calls.mono hc λe W' ⟨e1,e2,e3,e4⟩=>⟨by rw[e1,Z3b],⟨?_,Below.trans h.ext e3⟩,e4⟩;rw[Zzt]at e2;exact .inr e2
theorem Z3n {b:Option Nat} {W W':World} (h:Ext W W'):Lib.OthersKept 5 b W W':=λk o hk _ _=>h.get hk
theorem Z6q {m m':List UInt8} {ws:List (List UInt8)} (h:lnM m ws=some m'):m'=(m++Lib.join ws [32])++[10]∧((m++Lib.join ws [32])++[10]).length≤140737488355328:=by
 unfold lnM at h;split at h
 ·rename_i hl
  cases h
  rw[aAq];exact⟨rfl,hl⟩
 ·cases h
set_option maxHeartbeats 1000000 in
theorem ZBz {w W:World} {m m':List UInt8} {k o c:Nat} {ws:List (List UInt8)} (hP:PB w m W) (hk:k<W.heap.size)
  (hc:∀ j x,ws[j]? = some x→W.cell? ⟨k,o+j,none⟩=some (.string (Zg x))) (hn:ws.length≤1000) (hcap:ws.length≤c) (hm:lnM m ws=some m') :
  Calls Tryz.prog 24 #[.slice (some ⟨k,o,none⟩) ws.length c,.pointer (some ⟨w.heap.size,0,none⟩)] W λe W'=>e = .returned (.tuple #[])∧PB w m' W'∧Lib.OthersKept 5 (some w.heap.size) W W':=by
 obtain⟨rfl,hl⟩:=Z6q hm;have hl1:(m++Lib.join ws [32]).length≤140737488355328:=by simp only[lA]at hl ⊢;omega
 have hJ:=Any.strings_Join (P:=Tryz.prog) (ρ:=Tryz.lays156_ren) Tryz.lays156 Tryz.Builder_Extra_156 k o c (ws.map Zg) ⟨#[32]⟩ W (λj x hx=>by
   rw[List.getElem?_map,Option.map_eq_some_iff]at hx;obtain⟨y,hy,rfl⟩:=hx;exact hc j y hy) hk (by rw[List.length_map];omega) (by rw[List.length_map];exact hcap)
  (by
   rw[List.map_map,show ((λx=>x.data.toList) ∘ Zg:List UInt8→List UInt8)=id from funext λx=>by simp[Zg],List.map_id];show (Lib.join ws [32]).length≤_;simp only[lA]at hl1;omega)
 rw[List.map_map,show ((λx=>x.data.toList) ∘ Zg:List UInt8→List UInt8)=id from funext λx=>by simp[Zg],List.map_id,List.length_map]at hJ;have hJ':Calls Tryz.prog 26 #[.slice (some ⟨k,o,none⟩) ws.length c,.string ⟨#[32]⟩] W λe w'=>e = .returned (.string (Zg (Lib.join ws [32])))∧Below W.heap.size W w':=hJ;clear hJ;clear hl1 hc hn hcap hm;have hl1:(m++Lib.join ws [32]).length≤140737488355328:=by simp only[lA]at hl ⊢;omega
 generalize Lib.join ws [32]=J at *
 go_enter Tryz.func24,Tryz.ntmps24
 go_wp2_with (refine Calls.mono hJ' ?_;rintro e w1 ⟨rfl,hx⟩)
 have hP1:=hP.step hx;refine Calls.mono (ZTt hP1 hl1) ?_;rintro e w2 ⟨rfl,hP2,hO2⟩;have hW2:Calls Tryz.prog 25 #[.pointer (some ⟨w.heap.size,0,none⟩),.string ⟨#[10]⟩] w2 λe W'=>e = .returned (.tuple #[.int .i64 1,.nilIface])∧PB w ((m++J)++[10]) W'∧Lib.OthersKept 5 (some w.heap.size) w2 W':=ZTt (s:=[10]) hP2 hl
 go_wp2_with (refine Calls.mono hW2 ?_;rintro e w3 ⟨rfl,hP3,hO3⟩)
 exact bodyPost_end (v:=.tuple #[]) (by kernel_rfl) rfl ⟨rfl,hP3,((Z3n hx).trans hO2).trans hO3⟩
theorem Zkx {w:World} {v:Zb} {q:Option Addr} {n cap:Nat} {p:List StepD} {z:Int} (hv:VIn v w) (hl:(Zs rStepD).rel v [.slice q n cap] p) (h:Zpg p=some z) :
  Calls Tryz.prog 18 #[.agg #[.slice q n cap]] w λe w'=>e = .returned (.int .i64 z)∧Ext w w'∧inR .i64 z:=by
 rcases Zmt w v [.agg #[.slice q n cap]] p z hv ⟨[.slice q n cap],rfl,hl⟩ h with ⟨_,hr⟩ | ⟨y,hy,_⟩
 ·refine Calls.mono hr λe w' ⟨r,v',e1,x,s,hR⟩=>?_;obtain⟨cs,rfl,rfl,hi0⟩:=hR;exact⟨e1,x,hi0⟩
 ·have e0:(callFunc 18 [Value.agg #[.slice q n cap]].toArray).run Tryz.prog w = .ok (.enter 18 #[.agg #[.slice q n cap]]) w:=by kernel_rfl
  have:=e0.symm.trans (hy w)
  cases this
theorem ZCv {w:World} {v:Zb} {k:Int} {z:List UInt8} (hv:VIn v w) (hk:inR .i64 k) (h:ZWe k=some z) :
  Calls Tryz.prog 27 #[.int .i64 k] w λe w'=>e = .returned (.string (Zg z))∧z.length≤maxLen∧Ext w w':=by
 rcases ZQn w v [.int .i64 k] k z hv ⟨[.int .i64 k],rfl,rfl,hk⟩ h with ⟨_,hr⟩ | ⟨y,hy,_⟩
 ·refine Calls.mono hr λe w' ⟨r,v',e1,x,s,hR⟩=>?_;obtain⟨cs,rfl,rfl,hz⟩:=hR;exact⟨e1,hz,x⟩
 ·have e0:(callFunc 27 [Value.int .i64 k].toArray).run Tryz.prog w = .ok (.enter 27 #[.int .i64 k]) w:=by kernel_rfl
  have:=e0.symm.trans (hy w)
  cases this
theorem Zuy {w:World} {v:Zb} {cs:List Value} {x:Rat} {z:List UInt8} (hv:VIn v w) (hx:ZUa.rel v cs x) (h:Zbc x=some z) :
  Calls Tryz.prog 15 #[.agg cs.toArray] w λe w'=>e = .returned (.string (Zg z))∧z.length≤maxLen∧Ext w w':=by
 rcases Zbm w v [.agg cs.toArray] x z hv ⟨cs,rfl,hx⟩ h with ⟨_,hr⟩ | ⟨y,hy,_⟩
 ·refine Calls.mono hr λe w' ⟨r,v',e1,x,s,hR⟩=>?_;obtain⟨cs,rfl,rfl,hz⟩:=hR;exact⟨e1,hz,x⟩
 ·have e0:(callFunc 15 [Value.agg cs.toArray].toArray).run Tryz.prog w = .ok (.enter 15 #[.agg cs.toArray]) w:=by kernel_rfl
  have:=e0.symm.trans (hy w)
  cases this
theorem ZIy {v:Zb} {cs:List Value} {s:StepD} (h:rStepD.rel v cs s):∃ q1 c1 q2 c2,cs=[.string (Zg s.1),.slice q1 s.2.1.length c1,.slice q2 s.2.2.length c2]∧s.1.length≤maxLen ∧
  (Zs ZE).rel v [.slice q1 s.2.1.length c1] s.2.1∧(Zs (ZD (Zd .i64) (ZD ZUa ZE))).rel v [.slice q2 s.2.2.length c2] s.2.2:=by
 obtain⟨a,b,rfl,⟨rfl,h0⟩,a2,b2,rfl,h1,h2⟩:=h;obtain⟨q1,c1,rfl,_⟩:=ZFe h1;obtain⟨q2,c2,rfl,_⟩:=ZFe h2;exact⟨q1,c1,q2,c2,rfl,h0,h1,h2⟩
theorem Zuz {v:Zb} {cs:List Value} {g:Int×Rat×List UInt8} (h:(ZD (Zd .i64) (ZD ZUa ZE)).rel v cs g):∃ sb qa na ka qb nb kb,cs=[.int .i64 g.1,.bool sb,.slice qa na ka,.slice qb nb kb,.string (Zg g.2.2)]∧inR .i64 g.1∧ZUa.rel v [.bool sb,.slice qa na ka,.slice qb nb kb] g.2.1∧g.2.2.length≤maxLen:=by
 obtain⟨a,b,rfl,⟨rfl,h0⟩,a2,b2,rfl,h1,rfl,h2⟩:=h;obtain⟨sb,qa,na,ka,qb,nb,kb,rfl⟩:=Z0q h1;exact⟨sb,qa,na,ka,qb,nb,kb,rfl,h0,h1,h2⟩
theorem ZAw {w:World}:PB w [] (w.alloc (.cells #[.pointer none,.slice none 0 0] 96)) :=
 ⟨.of (Lib.fresh_isBuilder 96 5 w),Ext.alloc w _⟩
theorem Zbn {w W W':World} {k:Nat} {c:Array Value} {T:TypeId} {fz:Nat×Nat} (h:Lib.OthersKept 5 (some w.heap.size) W W') (hk:W.heap[k]? = some (.cells c T fz)) (hb:k≠w.heap.size) (hT:T≠5):W'.heap[k]? = some (.cells c T fz) :=
 h k _ hk (λe=>hb (Option.some.inj e)) λc' fz' e=>by cases e;exact hT rfl
theorem Zcz (w:World) (x:Value) (T:TypeId):(w.alloc (.cells #[x] T)).cell? ⟨w.heap.size,0,none⟩=some x:=by
 have:(w.alloc (.cells #[x] T)).heap[w.heap.size]? = some (.cells #[x] T):=Array.getElem?_push_size;unfold World.cell?;rw[this];rfl
theorem ZMt {W W':World} {a:Addr} {x:Value} (h:Ext W W') (hc:W.cell? a=some x):W'.cell? a=some x:=by
 unfold World.cell? at hc ⊢
 cases hb:W.heap[a.block]? with
 | none=>rw[hb]at hc;cases hc
 | some o=>rw[h.get hb];rw[hb]at hc;exact hc
theorem Zmc {W:World} {k j:Nat} {c:Array Value} {T:TypeId} {fz:Nat×Nat} {x:Value} (h:W.heap[k]? = some (.cells c T fz)) (hx:c[j]? = some x):W.cell? ⟨k,j,none⟩=some x:=by
 unfold World.cell?;rw[h];exact hx
theorem Zar {w W:World} {m m':List UInt8} {k n:Nat} {ws:List (List UInt8)} (hP:PB w m W) (hk:k=W.heap.size) (hn:ws.length=n) (h1:ws.length≤1000) (hm:lnM m ws=some m') :
  Calls Tryz.prog 24 #[.slice (some ⟨k,0,none⟩) n n,.pointer (some ⟨w.heap.size,0,none⟩)] (W.alloc (.cells (ws.map λx=>Value.string (Zg x)).toArray 9)) λe W'=>e = .returned (.tuple #[])∧PB w m' W'∧Lib.OthersKept 5 (some w.heap.size) W W':=by
 subst hk hn;have hb:(W.alloc (.cells (ws.map λx=>Value.string (Zg x)).toArray 9)).heap[W.heap.size]? = some (.cells (ws.map λx=>Value.string (Zg x)).toArray 9):=Array.getElem?_push_size;refine Calls.mono (ZBz (k:=W.heap.size) (o:=0) (c:=ws.length) (ws:=ws) (hP.step (Ext.alloc W _)) (Z5b hb) (λj x hx=>?_) h1 (Nat.le_refl _) hm) λe W' ⟨e1,e2,e3⟩=>⟨e1,e2,(Z3n (Ext.alloc W _)).trans e3⟩;rw[Nat.zero_add];refine Zmc hb ?_;rw[List.getElem?_toArray,List.getElem?_map,hx];rfl
theorem ZFs {w W:World} {m m' a b:List UInt8} {k:Nat} (hP:PB w m W) (hk:k=W.heap.size) (hm:lnM m [a,b]=some m') :
  Calls Tryz.prog 24 #[.slice (some ⟨k,0,none⟩) 2 2,.pointer (some ⟨w.heap.size,0,none⟩)] (W.alloc (.cells #[.string (Zg a),.string (Zg b)] 9)) λe W'=>e = .returned (.tuple #[])∧PB w m' W'∧Lib.OthersKept 5 (some w.heap.size) W W' :=
 Zar (ws:=[a,b]) hP hk rfl (by simp) hm
theorem ZRx {w W:World} {m m' a b c d e:List UInt8} {k:Nat} (hP:PB w m W) (hk:k=W.heap.size) (hm:lnM m [a,b,c,d,e]=some m') :
  Calls Tryz.prog 24 #[.slice (some ⟨k,0,none⟩) 5 5,.pointer (some ⟨w.heap.size,0,none⟩)] (W.alloc (.cells #[.string (Zg a),.string (Zg b),.string (Zg c),.string (Zg d),.string (Zg e)] 9)) λe W'=>e = .returned (.tuple #[])∧PB w m' W'∧Lib.OthersKept 5 (some w.heap.size) W W' :=
 Zar (ws:=[a,b,c,d,e]) hP hk rfl (by simp) hm
theorem PB.al {w W:World} {m:List UInt8} {o:Obj} (h:PB w m W):PB w m (W.alloc o):=h.step (Ext.alloc W o)
theorem PB.dr {w W:World} {m:List UInt8} (h:PB w m W):PB w m W.drew:=h.step (Ext.drew W)
theorem heap_al {W:World} {k:Nat} {o o':Obj} (h:W.heap[k]? = some o):(W.alloc o').heap[k]? = some o:=(Ext.alloc W o').get h
theorem heap_dr {W:World} {k:Nat} {o:Obj} (h:W.heap[k]? = some o):W.drew.heap[k]? = some o:=h
abbrev GVar (W:World) (k:Nat) (x0 x1 x2 x3 x4:Value):Prop:=W.heap[k]? = some (.cells #[x0,x1,x2,x3,x4] 77)∧W.cell? ⟨k,0,none⟩=some x0∧W.cell? ⟨k,1,none⟩=some x1∧W.cell? ⟨k,2,none⟩=some x2∧W.cell? ⟨k,3,none⟩=some x3∧W.cell? ⟨k,4,none⟩=some x4
theorem gvar {W:World} {k:Nat} {x0 x1 x2 x3 x4:Value} (h:W.heap[k]? = some (.cells #[x0,x1,x2,x3,x4] 77)):GVar W k x0 x1 x2 x3 x4 :=
 ⟨h,Zmc h rfl,Zmc h rfl,Zmc h rfl,Zmc h rfl,Zmc h rfl⟩
theorem ZAz {w1 W:World} {v:Zb} {m z:List UInt8} {k:Int} {b:Nat} {x0 x1 x2 x3 x4:Value} (hv:VIn v w1) (hk:inR .i64 k) (h:ZWe k=some z) (hP:PB w1 m W) (hb:W.heap[b]? = some (.cells #[x0,x1,x2,x3,x4] 77)) :
  Calls Tryz.prog 27 #[.int .i64 k] W λe w'=>e = .returned (.string (Zg z))∧PB w1 m w'∧GVar w' b x0 x1 x2 x3 x4 :=
 Calls.mono (ZCv (VStep.ext hv hP.ext).vin hk h) λe w' ⟨e1,_,hx⟩=>⟨e1,hP.step hx,gvar (hx.get hb)⟩
theorem text_S {w1 W:World} {v:Zb} {m z:List UInt8} {x:Rat} {c0 c1 c2:Value} {b:Nat} {x0 x1 x2 x3 x4:Value} (hv:VIn v w1) (hx:ZUa.rel v [c0,c1,c2] x) (h:Zbc x=some z) (hP:PB w1 m W) (hb:W.heap[b]? = some (.cells #[x0,x1,x2,x3,x4] 77)) :
  Calls Tryz.prog 15 #[.agg #[c0,c1,c2]] W λe w'=>e = .returned (.string (Zg z))∧PB w1 m w'∧GVar w' b x0 x1 x2 x3 x4 :=
 Calls.mono (Zuy (cs:=[c0,c1,c2]) (VStep.ext hv hP.ext).vin hx h) λe w' ⟨e1,_,hx⟩=>⟨e1,hP.step hx,gvar (hx.get hb)⟩
theorem line5_S {w W:World} {m m' a b c d e:List UInt8} {k b12:Nat} {x0 x1 x2 x3 x4:Value} (hP:PB w m W) (hk:k=W.heap.size) (hm:lnM m [a,b,c,d,e]=some m') (hb:W.heap[b12]? = some (.cells #[x0,x1,x2,x3,x4] 77)) (hne:b12≠w.heap.size) :
  Calls Tryz.prog 24 #[.slice (some ⟨k,0,none⟩) 5 5,.pointer (some ⟨w.heap.size,0,none⟩)] (W.alloc (.cells #[.string (Zg a),.string (Zg b),.string (Zg c),.string (Zg d),.string (Zg e)] 9)) λe W'=>e = .returned (.tuple #[])∧PB w m' W'∧GVar W' b12 x0 x1 x2 x3 x4 :=
 Calls.mono (ZRx hP hk hm) λe W' ⟨e1,e2,e3⟩=>⟨e1,e2,gvar (Zbn e3 hb hne (by decide))⟩
theorem pb_tell {w W:World} {m:List UInt8} (h:PB w m W) :
  Calls Tryz.prog 28 #[.pointer (some ⟨w.heap.size,0,none⟩)] W λe W'=>e = .returned (.string (Zg m))∧Ext w W' :=
 Calls.mono (Any.Builder_String_any_f (P:=Tryz.prog) (ρ:=Tryz.lays156_ren) { Tryz.lays156 with } Tryz.Builder_Extra_156 w.heap.size w.heap.size m W h.bl (Nat.le_of_lt h.lt)) λe W' ⟨e1,_,e3⟩=>⟨e1,Below.trans h.ext e3⟩
set_option maxHeartbeats 4000000 in
theorem ZRv {w:World} {v:Zb} {q:Option Addr} {n cap:Nat} {p:List StepD} {z:List UInt8×Int} (hv:VIn v w) (hl:(Zs rStepD).rel v [.slice q n cap] p) (hm:Zcf p=some z) :
  Calls Tryz.prog 10 #[.agg #[.slice q n cap]] w λe w'=>e = .returned (.tuple #[.string (Zg z.1),.int .i64 z.2])∧Ext w w'∧inR .i64 z.2:=by
 have hmf:∀ (fn:Fn) (first cap:Array Value) (w:World),(Instr.makeFunc fn first cap).run Tryz.prog w = .ok (.func fn first cap) w:=λ_ _ _ _=>rfl;obtain rfl:=ZYa hl;obtain⟨e,he,hm'⟩:=ZG hm;clear hm;have hc:=λW (x:Ext w W)=>Zkx (VStep.ext hv x).vin hl he;clear he
 go_enter Tryz.func10,Tryz.ntmps10
 by_cases h0:e=0
 ·subst h0
  go_wp2_with (refine Calls.mono (hc _ (Ext.alloc w _)) ?_;rintro e w1 ⟨rfl,hx,hi0⟩;have hc1:=ZMt hx (Zcz w (.slice q p.length cap) 25);have hc2:=ZMt (Ext.alloc w1 (.cells #[.pointer none,.slice none 0 0] 96)) hc1)
  obtain⟨t,ht,hz⟩:∃ t,stM p []=some t∧z=(t,0):=by
   obtain⟨t,ht,hz⟩:=ZG (show bnd (stM p []) (λt=>some (t,(0:Int)))=some z from hm');exact⟨t,ht,(Option.some.inj hz).symm⟩
  subst hz;clear hm' hc;have hv1:VIn v w1:=(VStep.ext hv ((Ext.alloc w _).trans hx)).vin;have hlen:p.length≤9223372036854775807:=by have:=ZFe hl;obtain⟨_,_,e,h1,h2⟩:=this;unfold maxLen at h2;omega
  have hP0:PB w1 [] (w1.alloc (.cells #[.pointer none,.slice none 0 0] 96)):=ZAw;have hA0:Aside (stM p []=some t):=ht;have hL:Aside ((Zs rStepD).rel v [.slice q p.length cap] p):=hl;clear ht hl
  go_loopg [22] p.length (λgk t22 wr=>∃ (k:Nat) (m:List UInt8),Aside (k≤p.length∧gk=p.length-k∧PB w1 m wr∧stM (p.drop k) m=some t)∧t22 = .int .i64 k)
  case atStart =>
   exact⟨0,[],⟨Nat.zero_le _,rfl,hP0,hA0⟩,rfl⟩
  case round =>
   obtain⟨k,m,hA,rfl⟩:=hrel;by_cases hk:k<p.length
   ·obtain⟨s,hs⟩:∃ s,p[k]? = some s:=⟨_,List.getElem?_eq_getElem hk⟩;obtain⟨_,c,o,cs,rfl,hAt,hr⟩:=ZIb hL.out hs;obtain⟨q1,c1,q2,c2,rfl,h1,hr1,hr2⟩:=ZIy hr;have hW:WAt wr c (o+k*3) [.string (Zg s.1),.slice q1 s.2.1.length c1,.slice q2 s.2.2.length c2]:=by
     obtain⟨a1,a2,a3,a4,a5⟩:=hAt;exact⟨a1,a2,a3,(VStep.ext hv1 hA.out.2.2.1.ext).vin _ _ a4,a5⟩
    have e0:wr.cell? ⟨c,o+k*3,none⟩=some (.string (Zg s.1)):=hW.cell (j:=0) rfl;have e1:wr.cell? ⟨c,o+k*3+1,none⟩=some (.slice q1 s.2.1.length c1):=hW.cell (j:=1) rfl;have e2:wr.cell? ⟨c,o+k*3+2,none⟩=some (.slice q2 s.2.2.length c2):=hW.cell (j:=2) rfl;obtain⟨hkl,hgk,hP,hst⟩:=hA.out;have hdr:p.drop k=s :: p.drop (k+1):=by
     obtain⟨g1,g2⟩:=List.getElem?_eq_some_iff.1 hs;rw[List.drop_eq_getElem_cons g1,g2]
    rw[hdr,stM]at hst;obtain⟨m1,hm1,hst⟩:=ZG hst;obtain⟨m2,hm2,hst⟩:=ZG hst;obtain⟨m3,hm3,hst⟩:=ZG hst;have hbk:wr.heap.size≠w1.heap.size:=Nat.ne_of_gt hP.lt;have hk64:wrap64 ((k:Int)+1)=(k:Int)+1:=by unfold wrap64;omega
    have hk64':Value.int .i64 (wrap64 ((k:Int)+1)) = .int .i64 ((k+1:Nat):Int):=by rw[hk64];rfl
    have hcall:=ZFs (k:=wr.heap.size+1) (hP.step (Ext.alloc wr (.cells #[.string (Zg s.1),.slice q1 s.2.1.length c1,.slice q2 s.2.2.length c2] 72))) (by simp) hm1;have hB0:(wr.alloc (.cells #[.string (Zg s.1),.slice q1 s.2.1.length c1,.slice q2 s.2.2.length c2] 72)).heap[wr.heap.size]? = some (.cells #[.string (Zg s.1),.slice q1 s.2.1.length c1,.slice q2 s.2.2.length c2] 72):=Array.getElem?_push_size;have hN:Aside (k+1≤p.length∧p.length-(k+1)<gk∧stM (p.drop (k+1)) m3=some t):=⟨hk,by omega,hst⟩;clear hA hst hdr hgk
    go_wp2_with (refine Calls.mono hcall ?_;rintro e w2 ⟨rfl,hP1,hO1⟩;have hB1:=Zbn hO1 hB0 hbk (by decide);have b1:=Zmc (j:=1) hB1 rfl;have b2:=Zmc (j:=2) hB1 rfl)
    have hn1:s.2.1.length≤9223372036854775807:=by obtain⟨_,_,e,g1,g2⟩:=ZFe hr1;unfold maxLen at g2;omega
    have hn2:s.2.2.length≤9223372036854775807:=by obtain⟨_,_,e,g1,g2⟩:=ZFe hr2;unfold maxLen at g2;omega
    have hR1:Aside ((Zs ZE).rel v [.slice q1 s.2.1.length c1] s.2.1):=hr1;have hR2:Aside ((Zs (ZD (Zd .i64) (ZD ZUa ZE))).rel v [.slice q2 s.2.2.length c2] s.2.2):=hr2;have hI1:Aside (PB w1 m1 w2∧w2.heap[wr.heap.size]? = some (.cells #[.string (Zg s.1),.slice q1 s.2.1.length c1,.slice q2 s.2.2.length c2] 72)∧doM s.2.1 m1=some m2):=⟨hP1,hB1,hm2⟩;clear hP hm1 hm2 hcall hB0 hr hr1 hr2 hAt hW e0 e1 e2 hP1 hO1 hB1 b1;generalize wr.heap.size=b8 at *;clear hk hkl
    go_loopg [34] s.2.1.length (λgk2 t34 wd=>∃ (j:Nat) (m:List UInt8),Aside (j≤s.2.1.length∧gk2=s.2.1.length-j∧PB w1 m wd∧wd.heap[b8]? = some (.cells #[.string (Zg s.1),.slice q1 s.2.1.length c1,.slice q2 s.2.2.length c2] 72)∧doM (s.2.1.drop j) m=some m2)∧t34 = .int .i64 j)
    case atStart =>
     exact⟨0,m1,⟨Nat.zero_le _,rfl,hI1.out⟩,rfl⟩
    case round =>
     obtain⟨j,md,hA,rfl⟩:=hrel;by_cases hj:j<s.2.1.length
     ·obtain⟨d,hd⟩:∃ d,s.2.1[j]? = some d:=⟨_,List.getElem?_eq_getElem hj⟩;obtain⟨hjl,hgj,hP,hB,hdo⟩:=hA.out;obtain⟨_,cd,od,cs,rfl,hAt,rfl,hdl⟩:=ZIb hR1.out hd;have hW:WAt wr cd (od+j*1) [.string (Zg d)]:=by
       obtain⟨a1,a2,a3,a4,a5⟩:=hAt;exact⟨a1,a2,a3,(VStep.ext hv1 hP.ext).vin _ _ a4,a5⟩
      have e0:wr.cell? ⟨cd,od+j,none⟩=some (.string (Zg d)):=by have:=hW.cell (j:=0) rfl;rwa [Nat.mul_one]at this
      have hdr:s.2.1.drop j=d :: s.2.1.drop (j+1):=by
       obtain⟨g1,g2⟩:=List.getElem?_eq_some_iff.1 hd;rw[List.drop_eq_getElem_cons g1,g2]
      rw[hdr,doM]at hdo;obtain⟨m',hm',hdo⟩:=ZG hdo;have hj64:wrap64 ((j:Int)+1)=(j:Int)+1:=by unfold wrap64;omega
      have hcall:=ZFs (k:=wr.heap.size) hP rfl hm';have hM:Aside (j+1≤s.2.1.length∧s.2.1.length-(j+1)<gk∧doM (s.2.1.drop (j+1)) m'=some m2):=⟨hj,by rw[hgj];exact Nat.sub_lt_sub_left hj (Nat.lt_succ_self j),hdo⟩;clear hA hdo hdr hgj hAt hW
      go_wp2_with (refine Calls.mono hcall ?_;rintro e w3 ⟨rfl,hP1,hO1⟩;have hB1:=Zbn hO1 hB hbk (by decide))
      go_roundg (s.2.1.length-(j+1))
      case measure=>exact hM.out.2.1
      exact⟨j+1,m',⟨hM.out.1,rfl,hP1,hB1,hM.out.2.2⟩,by simp⟩
     ·obtain⟨hjl,hgj,hP,hB,hdo⟩:=hA.out;obtain rfl:md=m2:=by
       rw[List.drop_eq_nil_of_le (by omega),doM]at hdo;exact Option.some.inj hdo
      have b2:=Zmc (j:=2) hB rfl;clear hA hdo hgj hjl hI1
      go_wp2
      have hI2:Aside (PB w1 md wr∧guM s.2.2 md=some m3):=⟨hP,hm3⟩;clear hm3 hP hB b2
      go_loopg [46] s.2.2.length (λgk3 t46 wd=>∃ (i:Nat) (m:List UInt8),Aside (i≤s.2.2.length∧gk3=s.2.2.length-i∧PB w1 m wd∧guM (s.2.2.drop i) m=some m3)∧t46 = .int .i64 i)
      case atStart =>
       exact⟨0,md,⟨Nat.zero_le _,rfl,hI2.out⟩,rfl⟩
      case round =>
       obtain⟨i,mg,hA,rfl⟩:=hrel;by_cases hi:i<s.2.2.length
       ·obtain⟨g,hg⟩:∃ g,s.2.2[i]? = some g:=⟨_,List.getElem?_eq_getElem hi⟩;obtain⟨hil,hgi,hP,hgu⟩:=hA.out;obtain⟨_,cg,og,cs,rfl,hAt,hr⟩:=ZIb hR2.out hg;obtain⟨sb,qa,na,ka,qb,nb,kb,rfl,hin,hrat,hgl⟩:=Zuz hr;have hvr:=(VStep.ext hv1 hP.ext).vin;have hW:WAt wr cg (og+i*5) [.int .i64 g.1,.bool sb,.slice qa na ka,.slice qb nb kb,.string (Zg g.2.2)]:=by
         obtain⟨a1,a2,a3,a4,a5⟩:=hAt;exact⟨a1,a2,a3,hvr _ _ a4,a5⟩
        have e0:wr.cell? ⟨cg,og+i*5,none⟩=some (.int .i64 g.1):=hW.cell (j:=0) rfl;have e1:wr.cell? ⟨cg,og+i*5+1,none⟩=some (.bool sb):=hW.cell (j:=1) rfl;have e2:wr.cell? ⟨cg,og+i*5+2,none⟩=some (.slice qa na ka):=hW.cell (j:=2) rfl;have e3:wr.cell? ⟨cg,og+i*5+3,none⟩=some (.slice qb nb kb):=hW.cell (j:=3) rfl;have e4:wr.cell? ⟨cg,og+i*5+4,none⟩=some (.string (Zg g.2.2)):=hW.cell (j:=4) rfl;have hdr:s.2.2.drop i=g :: s.2.2.drop (i+1):=by
         obtain⟨g1,g2⟩:=List.getElem?_eq_some_iff.1 hg;rw[List.drop_eq_getElem_cons g1,g2]
        rw[hdr,guM]at hgu;obtain⟨qw,hqw,hgu⟩:=ZG hgu;obtain⟨tx,htx,hgu⟩:=ZG hgu;obtain⟨m',hm',hgu⟩:=ZG hgu;have hi64:wrap64 ((i:Int)+1)=(i:Int)+1:=by unfold wrap64;omega
        have hM:Aside (i+1≤s.2.2.length∧s.2.2.length-(i+1)<gk∧guM (s.2.2.drop (i+1)) m'=some m3):=⟨hi,by rw[hgi];exact Nat.sub_lt_sub_left hi (Nat.lt_succ_self i),hgu⟩;clear hA hgu hdr hgi hAt hW hI2;have hP5:=PB.al (o:=.cells #[.int .i64 g.1,.bool sb,.slice qa na ka,.slice qb nb kb,.string (Zg g.2.2)] 77) hP;have hB5:(wr.alloc (.cells #[.int .i64 g.1,.bool sb,.slice qa na ka,.slice qb nb kb,.string (Zg g.2.2)] 77)).heap[wr.heap.size]? = some (.cells #[.int .i64 g.1,.bool sb,.slice qa na ka,.slice qb nb kb,.string (Zg g.2.2)] 77):=Array.getElem?_push_size;have f0:=Zmc (j:=0) hB5 rfl;have f1:=Zmc (j:=1) hB5 rfl;have f2:=Zmc (j:=2) hB5 rfl;have f3:=Zmc (j:=3) hB5 rfl;have f4:=Zmc (j:=4) hB5 rfl;have hP5d:=hP5.dr;have hB5d:=heap_dr hB5;have hne12:wr.heap.size≠w1.heap.size:=Nat.ne_of_gt hP.lt;generalize hb12:wr.heap.size=b12 at *
        go_wp2
        go_region_held3 (λw'=>w'.heap[b12]? = some (.cells #[.int .i64 g.1,.bool sb,.slice qa na ka,.slice qb nb kb,.string (Zg g.2.2)] 77)∧w'.cell? ⟨b12,0,none⟩=some (.int .i64 g.1)∧w'.cell? ⟨b12,1,none⟩=some (.bool sb)∧w'.cell? ⟨b12,2,none⟩=some (.slice qa na ka)∧w'.cell? ⟨b12,3,none⟩=some (.slice qb nb kb)∧w'.cell? ⟨b12,4,none⟩=some (.string (Zg g.2.2)))
         ((refine⟨by first | assumption | exact heap_al (by assumption),?_⟩;simp[*,World.cell?_alloc_some]))
         ((go_split_ands;first
          | (go_at_call 27;refine (ZAz (b:=b12) (x0:=.int .i64 g.1) (x1:=.bool sb) (x2:=.slice qa na ka) (x3:=.slice qb nb kb) (x4:=.string (Zg g.2.2)) hv1 hin hqw (by assumption) (by assumption)).mono ?_;rintro e w5 ⟨rfl,k0,k1,k2,k3,k4,k5,k6⟩)
          | (go_at_call 15;refine (text_S (b:=b12) (x0:=.int .i64 g.1) (x1:=.bool sb) (x2:=.slice qa na ka) (x3:=.slice qb nb kb) (x4:=.string (Zg g.2.2)) hv1 hrat htx (by assumption) (by assumption)).mono ?_;rintro e w6 ⟨rfl,k0,k1,k2,k3,k4,k5,k6⟩)
          | (go_at_call 24;refine (line5_S (b12:=b12) (x0:=.int .i64 g.1) (x1:=.bool sb) (x2:=.slice qa na ka) (x3:=.slice qb nb kb) (x4:=.string (Zg g.2.2)) (by assumption) (by simp) hm' (by assumption) hne12).mono ?_;rintro e w7 ⟨rfl,hP7,k0,k1,k2,k3,k4,k5⟩)))
        go_wp2
        go_roundg (s.2.2.length-(i+1))
        case measure=>exact hM.out.2.1
        exact⟨i+1,m',⟨hM.out.1,rfl,hP7,hM.out.2.2⟩,by rw[hi64];simp⟩
       ·obtain⟨hil,hgi,hP,hgu⟩:=hA.out;obtain rfl:mg=m3:=by
         rw[List.drop_eq_nil_of_le (by omega),guM]at hgu;exact Option.some.inj hgu
        clear hA hgu hgi hil hI2
        go_wp2
        go_roundg (p.length-(k+1))
        case measure=>exact hN.out.2.1
        exact⟨k+1,mg,⟨hN.out.1,rfl,hP,hN.out.2.2⟩,hk64'⟩
   ·obtain⟨hkl,hgk,hP,hst⟩:=hA.out;obtain rfl:m=t:=by
     rw[List.drop_eq_nil_of_le (by omega),stM]at hst;exact Option.some.inj hst
    have hT:=pb_tell hP;clear hA hst hgk hkl hA0
    go_wp2_with (refine Calls.mono hT ?_;rintro e w9 ⟨rfl,hx9⟩)
    exact bodyPost_ret (v:=.tuple #[.string (Zg m),.int .i64 0]) (by kernel_rfl) rfl ⟨rfl,((Ext.alloc w _).trans hx).trans hx9⟩
 ·have hz:z=([],e):=by
   have:(e != 0)=true:=by simpa using h0
   rw[this,Zf]at hm';exact (Option.some.inj hm').symm
  subst hz
  go_wp2_with (refine Calls.mono (hc _ (Ext.alloc w _)) ?_;rintro e' w1 ⟨rfl,hx,hi0⟩)
  exact bodyPost_ret (v:=.tuple #[.string (Zg []),.int .i64 e]) (by kernel_rfl) rfl ⟨rfl,(Ext.alloc w _).trans hx⟩
end Go.Eng
namespace Go.Eng
open Go.Proofs Go.RowKit
noncomputable def ZNs:FuncId×Con:=(10,⟨[.one (.slice (.pair .str (.pair (.slice .str) (.slice (.pair (.int .i64) (.pair (.leaf 3) .str))))))],[.str,.int .i64],λp=>Zcf p⟩)
theorem Z7l {m m':List UInt8} {ws:List (List UInt8)} (h:lnM m ws=some m'):m'.length≤maxLen:=by
 obtain⟨rfl,h⟩:=Z6q h;unfold maxLen;omega
theorem ZUt:∀ (l:List (List UInt8)) {m m':List UInt8},m.length≤maxLen→doM l m=some m'→m'.length≤maxLen
 | [],m,m',h,e=>by cases e;exact h
 | d :: l,m,m',h,e=>by
  rw[doM]at e
  obtain⟨x,hx,e⟩:=ZG e
  exact ZUt l (Z7l hx) e
theorem Z3q:∀ (l:List (Int×Rat×List UInt8)) {m m':List UInt8},m.length≤maxLen→guM l m=some m'→m'.length≤maxLen
 | [],m,m',h,e=>by cases e;exact h
 | d :: l,m,m',h,e=>by
  rw[guM]at e
  obtain⟨_,_,e⟩:=ZG e
  obtain⟨_,_,e⟩:=ZG e
  obtain⟨x,hx,e⟩:=ZG e
  exact Z3q l (Z7l hx) e
theorem ZBo:∀ (l:List StepD) {m m':List UInt8},m.length≤maxLen→stM l m=some m'→m'.length≤maxLen
 | [],m,m',h,e=>by cases e;exact h
 | d :: l,m,m',h,e=>by
  rw[stM]at e
  obtain⟨a,ha,e⟩:=ZG e
  obtain⟨b,hb,e⟩:=ZG e
  obtain⟨c,hc,e⟩:=ZG e
  exact ZBo l (Z3q _ (ZUt _ (Z7l ha) hb) hc) e
theorem Zxx {p:List StepD} {z:List UInt8×Int} (h:Zcf p=some z):z.1.length≤maxLen:=by
 unfold Zcf at h;obtain⟨e,_,h⟩:=ZG h
 cases he:(e != 0) with
 | true=>rw[he,Zf]at h;cases h;exact Nat.zero_le _
 | false =>
  rw[he,Ze]at h;obtain⟨t,ht,h⟩:=ZG h
  cases h
  exact ZBo _ (Nat.zero_le _) ht
theorem Zhx:KQ ZNs:=by
 intro w v vals p z hv ha hz;obtain⟨cs,rfl,hl⟩:=ha;obtain⟨q,n,cap,rfl⟩:=ZOt hl;refine .inl ⟨λ_ _=>by kernel_rfl,?_⟩;refine Calls.mono (ZRv hv hl hz) λe w' ⟨he,hx,hi0⟩=>⟨_,v,he,hx,VStep.ext hv hx,?_⟩;exact⟨[.string (Zg z.1),.int .i64 z.2],rfl,[_],_,rfl,⟨rfl,Zxx hz⟩,[_],rfl,rfl,hi0⟩
noncomputable def Z4l:FuncId×Con:=(29,⟨[.int .i64],[.str],λp=>ZEg p⟩)
theorem Z2r:KQ Z4l:=Zr (Zfa (C:=cf0 [] [] [] []) .no Tryz.func29 [] (λ_=>by kernel_rfl))
noncomputable def Z9m:FuncId×Con:=(46,⟨[.slice (.pair .str (.pair (.slice .str) (.slice (.pair (.int .i64) (.pair (.leaf 4) .str))))),.str],[.int .i64],λp=>Zgi p.1 p.2⟩)
theorem Z9s:KQ Z9m:=Zr (Zfa (C:=cf0 [] [] [] []) (.n (.f (.n (.cut ⟨⟨[],[],[]⟩,[(.norm,⟨[],[],[]⟩),(.ret,⟨[],[],[.s 1000 (.dat (.int .i64))]⟩)]⟩ (.f (.cut ⟨⟨[0,1],[],[.s 5 (.dat (.int .i64))]⟩,[(.ret,⟨[],[],[.s 1000 (.dat (.int .i64))]⟩),(.exit 0,⟨[],[],[]⟩)]⟩ .no)))))) Tryz.func46 [] (λ_=>by kernel_rfl))
noncomputable def Z4s:FuncId×Con:=(86,⟨[.str],[.bool],λp=>ZLi p⟩)
theorem rName_k:KQ Z4s:=Zr (Zfa (C:=cf0 [] [] [] []) (.n (.two (.f (.j [0] [] [.s 11 (.dat .bool)] .no)) (.f (.n (.cut ⟨⟨[],[],[]⟩,[(.norm,⟨[],[],[]⟩),(.ret,⟨[],[],[.s 1000 (.dat .bool)]⟩)]⟩ (.f (.cut ⟨⟨[0],[],[.s 3 (.dat (.int .i64))]⟩,[(.ret,⟨[],[],[.s 1000 (.dat .bool)]⟩),(.exit 0,⟨[],[],[]⟩)]⟩ (.f (.n (.f (.f (.f (.j [0,3] [] [.s 46 (.dat .bool)] .no))))))))))))) Tryz.func86 [] (λ_=>by kernel_rfl))
noncomputable def Z7r:FuncId×Con:=(87,⟨[.str],[.bool],λp=>Z5j p⟩)
theorem Zuw:KQ Z7r:=Zr (Zfa (C:=cf0 [] [] [] []) (.n (.two (.f (.j [0] [] [.s 24 (.dat .bool)] .no)) (.f (.n (.cut ⟨⟨[],[],[]⟩,[(.norm,⟨[],[],[]⟩),(.ret,⟨[],[],[.s 1000 (.dat .bool)]⟩)]⟩ (.f (.cut ⟨⟨[0],[],[.s 3 (.dat (.int .i64))]⟩,[(.ret,⟨[],[],[.s 1000 (.dat .bool)]⟩),(.exit 0,⟨[],[],[]⟩)]⟩ (.f (.n (.f (.f (.f (.j [0,3] [] [.s 53 (.dat .bool)] .no))))))))))))) Tryz.func87 [] (λ_=>by kernel_rfl))
noncomputable def Zbr (x:Rat):Option (Int) :=
 bnd (ZTe x) λa =>
 ifb (a)
 (some (0:Int))
 (ifb (decide (x.num<0))
 (some (-1:Int))
 (some (1:Int)))
theorem Z9t {x:Rat} {z:Int} (h:ZOg x=some z):Zbr x=some z:=by
 unfold ZOg at h
 cases h
 unfold Zbr ZTe;rw[Za];by_cases h0:x=0
 ·subst h0;rfl
 ·have:=ZHr h0;rw[dFq h0,Ze];by_cases h1:x.num<0
  ·rw[dT h1,Zf,Int.sign_eq_neg_one_of_neg h1]
  ·rw[dFq h1,Ze,Int.sign_eq_one_of_pos (by omega)]
noncomputable def Z9p:FuncId×Con:=(88,⟨[.leaf 4],[.int .i64],λp=>ZOg p⟩)
theorem rsign_k:KQ Z9p:=Zr (ZH (C:=cf2 [(78,1),(80,4)] [Zmn]) .no Tryz.func88 [] (λv vals x z ha hz=>.trans (by kernel_rfl) (Z9t hz)) ⟨Zqp,tr⟩)
noncomputable def Zdq:FuncId×Con:=(45,⟨[.slice (.pair .str (.pair (.slice .str) (.slice (.pair (.int .i64) (.pair (.leaf 4) .str))))),.int .i64],[.int .i64],λp=>ZKk p.1 p.2⟩)
theorem Zez:KQ Zdq:=Zr (Zfa (C:=cf0 [Z4l,Z9m,Z4s,Z7r,Z9p] [] [] []) (.n (.n (.n (.two (.f (.j [5] [] [.s 33 (.dat .bool)] .no)) (.two (.f (.j [5] [] [.s 43 (.dat .bool)] .no)) (.two (.n (.cut ⟨⟨[],[],[]⟩,[(.norm,⟨[5],[],[]⟩),(.ret,⟨[],[],[.s 1000 (.dat (.int .i64))]⟩)]⟩ (.f (.cut ⟨⟨[5],[],[.s 6 (.dat (.int .i64))]⟩,[(.ret,⟨[],[],[.s 1000 (.dat (.int .i64))]⟩),(.exit 0,⟨[5],[],[]⟩)]⟩ .no)))) (.f (.n (.cut ⟨⟨[],[],[]⟩,[(.norm,⟨[],[],[]⟩),(.ret,⟨[],[],[.s 1000 (.dat (.int .i64))]⟩)]⟩ (.f (.cut ⟨⟨[5],[],[.s 7 (.dat (.int .i64))]⟩,[(.ret,⟨[],[],[.s 1000 (.dat (.int .i64))]⟩),(.exit 2,⟨[],[],[]⟩)]⟩ (.f (.n (.f (.f (.n (.f (.j [5,7] [] [.s 89 (.dat .bool)] .no)))))))))))))))))) Tryz.func45 [] (λ_=>by kernel_rfl) ⟨Z2r,Z9s,rName_k,Zuw,rsign_k,tr⟩)
noncomputable def Zgr:FuncId×Con:=(20,⟨[.slice (.pair .str (.pair (.slice .str) (.slice (.pair (.int .i64) (.pair (.leaf 4) .str)))))],[.int .i64],λp=>Zvj p⟩)
theorem Zgy:KQ Zgr:=Zr (Zfa (C:=cf0 [Zdq,Z9m] [] [] []) (.n (.two (.f (.j [0] [] [.s 15 (.dat .bool)] .no)) (.two (.n (.cut ⟨⟨[],[],[]⟩,[(.norm,⟨[0],[],[]⟩),(.ret,⟨[],[],[.s 1000 (.dat (.int .i64))]⟩)]⟩ (.f (.cut ⟨⟨[0],[],[.s 3 (.dat (.int .i64))]⟩,[(.ret,⟨[],[],[.s 1000 (.dat (.int .i64))]⟩),(.exit 0,⟨[0],[],[]⟩)]⟩ .no)))) (.f (.n (.cut ⟨⟨[],[],[]⟩,[(.norm,⟨[],[],[]⟩),(.ret,⟨[],[],[.s 1000 (.dat (.int .i64))]⟩)]⟩ (.f (.cut ⟨⟨[0],[],[.s 5 (.dat (.int .i64))]⟩,[(.ret,⟨[],[],[.s 1000 (.dat (.int .i64))]⟩),(.exit 2,⟨[],[],[]⟩)]⟩ (.f (.n (.f (.f (.n (.cut ⟨⟨[],[],[]⟩,[(.norm,⟨[0,5],[],[]⟩),(.ret,⟨[],[],[.s 1000 (.dat (.int .i64))]⟩)]⟩ (.f (.cut ⟨⟨[0,5],[],[.s 6 (.dat (.int .i64))]⟩,[(.ret,⟨[],[],[.s 1000 (.dat (.int .i64))]⟩),(.exit 4,⟨[0,5],[],[]⟩)]⟩ (.f (.n (.f (.f (.n (.f (.j [0,5,6] [] [.s 64 (.dat .bool)] .no))))))))))))))))))))))) Tryz.func20 [] (λ_=>by kernel_rfl) ⟨Zez,Z9s,tr⟩)
noncomputable def Zdr:FuncId×Con:=(11,⟨[.slice (.pair .str (.pair (.slice .str) (.slice (.pair (.int .i64) (.pair (.leaf 4) .str)))))],[.str,.int .i64],λp=>ZNj p⟩)
theorem Zdy:KQ Zdr:=Zr (Zfa (C:=cf0 [Zgr,Z4l,ZNk] [] [] []) (.n (.n (.n (.f (.n (.f (.l [0] [] [.s 5 (.dat .str),.s 6 (.dat (.int .i64))] 0 [] [] [.s 5 (.dat .str)] (.f (.n (.f (.f (.n (.two (.n (.f (.l [0,6] [] [.s 5 (.dat .str),.s 7 (.dat (.int .i64))] 2 [0,6] [] [.s 5 (.dat .str)] .no))) (.n (.f (.l [0,6] [] [.s 5 (.dat .str),.s 8 (.dat (.int .i64))] 4 [0,6] [] [.s 5 (.dat .str)] .no)))))))))))))))) Tryz.func11 [] (λ_=>by kernel_rfl) ⟨Zgy,Z2r,ZQr,tr⟩)
noncomputable def ZOw:FuncId×Con:=(4,⟨[.slice (.pair .str (.pair (.slice .str) (.slice (.pair (.int .i64) (.pair (.pair (.int .i64) (.int .i64)) .str)))))],[.bool],λp=>Zzj p⟩)
theorem ZKv:KR ZOw:=Zfa (C:=cf0 [ZBs,ZDt,Zko,Z8s,ZNs,Zdr] [] [] []) (.n (.n (.n (.n (.n (.two (.f (.j [4,6,7] [] [.s 39 (.dat .bool)] .no)) (.n (.n (.f (.j [] [] [.s 2 (.dat .bool)] .no)))))))))) Tryz.func4 [] (λ_=>by kernel_rfl) ⟨ZLy,Z6y,ZWx,Zdw,Zhx,Zdy,tr⟩
theorem Zdz {w0:World} {v0:Zb} (hv:VIn v0 w0) {c0:List Value} {l:(List ((List UInt8)×(List (List UInt8))×(List (Int×(Int×Int)×(List UInt8)))))} (p0:Rep.rel (Zs (ZD ZE (ZD (Zs ZE) (Zs (ZD (Zd .i64) (ZD (ZD (Zd .i64) (Zd .i64)) ZE)))))) v0 c0 l) {z:Bool} (hm:Zzj l=some z):Ret Tryz.prog 4 #[(Zs (ZD ZE (ZD (Zs ZE) (Zs (ZD (Zd .i64) (ZD (ZD (Zd .i64) (Zd .i64)) ZE)))))).val c0] w0 v0 (λy v'=>∃ r0,y=Znb.val r0∧Znb.rel v' r0 z):=(ZKv w0 v0 [(Zs (ZD ZE (ZD (Zs ZE) (Zs (ZD (Zd .i64) (ZD (ZD (Zd .i64) (Zd .i64)) ZE)))))).val c0] (l) z hv ⟨c0,rfl,p0⟩ hm).2
end Go.Eng
