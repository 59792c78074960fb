/- Lemmas towards the statement: the engine of the walks, the functions' models, laws and walks, part 7. Conditions: as each states. -/
import Derived.Deep.LoopGhost
import Derived.Defers
import Derived.Laws.Pointers
import Derived.Recover
import Derived.Shelf.Strings.Builder1
import Derived.Shelf.Strings.OnBuilder
import Derived.Shelf.Strings.Repeat
import Derived.Shelf.Strings.Split
import Derived.Tactics
import Derived.Tactics2
import Derived.Test.YtinpjekdhmadcaaGreatDoorProg
import Derived.WalkKit
import Derived.WalkLawsBesides
import Derived.WalkSmall
import Derived.Test.YtinpjekdhmadcaaGreatDoorPsF
set_option linter.all false
set_option maxRecDepth 100000
namespace Go.Eng
open Go.Proofs Go.RowKit
theorem whole_c {d:World} {a:Zb} (hv:VIn a d) {b:List Value} {s:Bool} (f:Rep.rel Zeb a b s) {c:List Value} {n:Nat} (g:Rep.rel Zw a c n) {z:Int} (hm:Z1a s n=some z) :
  Ret Tryz.prog 90 #[Zeb.val b,Zw.val c] d a (λy v'=>∃ e,y=Zhb.val e∧Zhb.rel v' e z) :=
 (Z3p d a [Zeb.val b,Zw.val c] (s,n) z hv ⟨b,_,rfl,f,c,rfl,g⟩ hm).2
theorem ZRn {b:World} {a:Zb} (hv:VIn a b) {c:List Value} {fv:Nat} (e:Rep.rel (ZC .f64) a c fv) {z:Nat} (H:ZQj fv=some z):Ret Tryz.prog 155 #[(ZC .f64).val c] b a (λy v'=>∃ d,y=(ZC .f64).val d∧(ZC .f64).rel v' d z):=by
 obtain⟨rfl,g⟩:=e;refine ZKb (K:=7) (args:=[.float .f64 fv]) hv Tryz.func155 rfl rfl zl λf S=>?_;unfold ZQj at H;refine sr (mw S rfl λf S=>oe (sr (mv S rfl λf S=>ov S rfl (Z4b S [.float .f64 fv] (Z4g Zki) rfl rfl) λf S=>ov S rfl (Zy S rfl rfl ZHj) λf S=>ov S rfl (Z4b S [.int .u64 (Z2b .u64 ((fv:Int)) (9223372036854775808:Int))] (Z9h ZBh) rfl rfl) λf S=>mw S rfl λf S=>oe (wp_ret ?_))));obtain rfl:=Zv H;refine Zna S (Zib rfl (ZU S rfl)) ⟨[.float .f64 ((Z2b .u64 ((fv:Int)) (9223372036854775808:Int)).toNat)],rfl,(Zba (ZJj (Zjb _ _)))⟩
theorem ZWq {d:World} {c:Zb} (hv:VIn c d) {e:List Value} {x:Nat} (i:Rep.rel (ZC .f64) c e x) {z:Nat×Int} (H:ZGj x=some z):Ret Tryz.prog 166 #[(ZC .f64).val e] d c (λy v'=>∃ g a,y = .tuple #[(ZC .f64).val g,(Zf .i64).val a]∧(ZC .f64).rel v' g z.1∧(Zf .i64).rel v' a z.2):=by
 obtain⟨rfl,a⟩:=i;refine ZKb (K:=10) (args:=[.float .f64 x]) hv Tryz.func166 rfl rfl zl λf S=>?_;unfold ZGj at H;refine sr (mw S rfl λf S=>mw S rfl λf S=>oe (Zq λ_ j=>Zq λ_ k=>bO H λl m H=>ZA (mv S rfl λf S=>opc S rfl (ZM S [.float .f64 x] Zzo rfl rfl) (ZRn S.vin (show Rep.rel (ZC .f64) _ [.float .f64 x] x from (Zba a)) m) ?_)));rintro _ q f w r ⟨s,rfl,n⟩ S;obtain⟨rfl,t⟩:=n;refine ov S rfl (Zfp S rfl rfl) λf S=>Zz (Zh (k _ _ ?_));rcases Zaa (fLt .f64 l ((4503599627370496:Nat))) with b | b
 ·have H:=Z7 H b;refine Zha S rfl b (Zq λ_ o=>bO H λp h H=>ZA (mv S rfl λf S=>ov S rfl (ZSo S rfl rfl h) λf S=>mw S rfl λf S=>mw S rfl λf S=>Zz (Zh (o _ _ (wp_ret (ZPb ?_))))));obtain rfl:=Zv H;refine Zna S (Zic rfl (ZU S rfl) (ZU S rfl)) ⟨[.float .f64 p],[.int .i64 (-52:Int)],rfl,(Zba (ZYd h).2),(ZO (by decide))⟩
 have H:=Z3 H b;refine Zca S rfl b (wp_skip (Zh (j _ _ (sr (mv S rfl λf S=>mw S rfl λf S=>mw S rfl λf S=>oe (wp_ret ?_))))));obtain rfl:=Zv H;refine Zna S (Zic rfl (ZU S rfl) (ZU S rfl)) ⟨[.float .f64 x],[.int .i64 0],rfl,(Zba a),(ZO (by decide))⟩
theorem ZBm {e:World} {a:Zb} (hv:VIn a e) {j:List Value} {fv:Nat} (q:Rep.rel (ZC .f64) a j fv) {k:List Value} {sign:Int} (r:Rep.rel (Zf .i64) a k sign) {z:Bool} (H:ZJf fv sign=some z):Ret Tryz.prog 133 #[(ZC .f64).val j,(Zf .i64).val k] e a (λy v'=>∃ l,y=Zeb.val l∧Zeb.rel v' l z):=by
 obtain⟨rfl,m⟩:=q;obtain⟨rfl,J⟩:=r;refine ZKb (K:=15) (args:=[.float .f64 fv,.int .i64 sign]) hv Tryz.func133 rfl rfl zl λf S=>?_;unfold ZJf at H;refine sr (mw S rfl λf S=>oe (Zq λ_ s=>sr (mv S rfl λf S=>ov S rfl (Zy S rfl rfl Zch) λf S=>oe ?_)));obtain⟨t,u,v⟩:=ZZ H;refine Zkb (λf w=>∃ b h,b=t∧Zb.le a h∧St 15 e a [(0,.float .f64 b)] [] h f w∧b<18446744073709551616) (λ_ n=>?_) ?_
 ·have H:=u;rcases Zaa (sign==(0:Int)) with c | c
  ·have H:=Z7 H c;refine Zha S rfl c (bO H λL x H=>ZA (mv S rfl λf S=>opc S rfl (ZM S [.float .f64 fv] Zzo rfl rfl) (ZRn S.vin (show Rep.rel (ZC .f64) _ [.float .f64 fv] fv from (Zba m)) x) ?_));rintro _ M f w A ⟨N,rfl,B⟩ S;obtain⟨rfl,C⟩:=B;refine mw S rfl λf S=>Zz ?_;obtain rfl:=Zv H;refine Zh (n _ _ ⟨_,_,rfl,(leT (leR _) A),(S.fr' rfl),C⟩)
  have H:=Z3 H c;refine Zca S rfl c (sr (mv S rfl λf S=>ov S rfl (Zy S rfl rfl Zud) λf S=>oe ?_));obtain⟨D,E,F⟩:=ZZ H;refine Zkb (λf w=>∃ g i,g=D∧Zb.le a i∧St 15 e a [(0,.float .f64 g)] [] i f w∧g<18446744073709551616) (λ_ o=>?_) ?_
  ·have H:=E;rcases Zaa (decide (sign<(0:Int))) with d | d
   ·have H:=Z7 H d;refine Zha S rfl d (bO H λO p H=>ZA (mv S rfl λf S=>ov S rfl (ZNw S rfl p) λf S=>mw S rfl λf S=>Zz ?_));obtain rfl:=Zv H;refine Zh (o _ _ ⟨_,_,rfl,(leR _),(S.fr' rfl),(ZYd p).2⟩)
   have H:=Z3 H d;refine Zca S rfl d (wp_skip ?_);obtain rfl:=Zv H;refine Zh (o _ _ ⟨_,_,rfl,(leR _),(S.fr' rfl),m⟩)
  rintro f w ⟨g,i,hq,G,S,I⟩;subst hq;have H:=F;obtain rfl:=Zv H;refine Zh (n _ _ ⟨_,_,rfl,(leT (leR _) G),(S.fr' rfl),I⟩)
 rintro f w ⟨b,h,hq,P,S,Q⟩;subst hq;have H:=v;refine Zh (s _ _ (sr (mv S rfl λf S=>ov S rfl (run_fGt S rfl rfl) λf S=>mw S rfl λf S=>oe (wp_ret ?_))));obtain rfl:=Zv H;refine Zna S (Zib rfl (ZU S rfl)) ⟨[.bool (fGt .f64 b ((9218868437227405311:Nat)))],rfl,Zgi⟩
theorem Z1k {b:World} {a:Zb} (hv:VIn a b) {c:List Value} {fv:Nat} (e:Rep.rel (ZC .f64) a c fv) {z:Bool} (H:ZBe fv=some z):Ret Tryz.prog 132 #[(ZC .f64).val c] b a (λy v'=>∃ d,y=Zeb.val d∧Zeb.rel v' d z):=by
 obtain⟨rfl,g⟩:=e;refine ZKb (K:=6) (args:=[.float .f64 fv]) hv Tryz.func132 rfl rfl zl λf S=>?_;unfold ZBe at H;refine sr (mw S rfl λf S=>oe (sr (mv S rfl λf S=>mv S rfl λf S=>ov S rfl (run_fNe S rfl rfl) λf S=>mw S rfl λf S=>oe (wp_ret ?_))));obtain rfl:=Zv H;refine Zna S (Zib rfl (ZU S rfl)) ⟨[.bool (fNe .f64 fv fv)],rfl,Zgi⟩
theorem frexp_w {j:World} {c:Zb} (hv:VIn c j) {l:List Value} {fv:Nat} (r:Rep.rel (ZC .f64) c l fv) {z:Nat×Int} (H:Zmn fv=some z):Ret Tryz.prog 157 #[(ZC .f64).val l] j c (λy v'=>∃ m a,y = .tuple #[(ZC .f64).val m,(Zf .i64).val a]∧(ZC .f64).rel v' m z.1∧(Zf .i64).rel v' a z.2):=by
 obtain⟨rfl,a⟩:=r;refine ZKb (K:=38) (args:=[.float .f64 fv]) hv Tryz.func157 rfl rfl zl λf S=>?_;unfold Zmn at H;refine sr (mw S rfl λf S=>mw S rfl λf S=>oe (Zq λ_ s=>wp_block (sr (mv S rfl λf S=>ov S rfl (Zps S rfl rfl) λf S=>mw S rfl λf S=>oe ?_))));rcases Zaa (fEq .f64 fv ((0:Nat))) with d | d
 ·have H:=Z7 H d;refine Zha S rfl d (sr (mv S rfl λf S=>mw S rfl λf S=>mw S rfl λf S=>oe (wp_ret (Zzg (ZPb ?_)))));obtain rfl:=Zv H;refine Zna S (Zic rfl (ZU S rfl) (ZU S rfl)) ⟨[.float .f64 fv],[.int .i64 0],rfl,(Zba a),(ZO (by decide))⟩
 have H:=Z3 H d;refine Zca S rfl d (Zq λ_ u=>?_);obtain⟨v,x,A⟩:=ZZ H;refine Zkb (λf w=>∃ h k,h=v∧Zb.le c k∧St 38 j c [(0,.float .f64 fv),(9,.bool h)] [] k f w) (λ_ n=>?_) ?_
 ·have H:=x;refine bO H λB C H=>ZA (mv S rfl λf S=>opc S rfl (ZM S [.float .f64 fv,.int .i64 0] Zxm rfl rfl) (ZBm S.vin (show Rep.rel (ZC .f64) _ [.float .f64 fv] fv from (Zba a)) (show Rep.rel (Zf .i64) _ [.int .i64 0] (0:Int) from (ZO (by decide))) C) ?_);rintro _ R f w o ⟨T,rfl,D⟩ S;obtain rfl:=D;refine mv S rfl λf S=>?_;rcases Zaa (B) with e | e
  ·have H:=Z7 H e;have S:=S.bool (t:=12) rfl e;refine opn S rfl rfl rfl rfl λf S=>opn S rfl rfl rfl rfl λf S=>ov S rfl (Zjc S (b:=true) rfl rfl) λf S=>mw S rfl λf S=>Zz ?_;obtain rfl:=Zv H;refine Zh (n _ _ ⟨_,_,rfl,(leT (leR _) o),(S.fr' rfl)⟩)
  have H:=Z3 H e;have S:=S.bool (t:=12) rfl e;refine bO H λU E H=>opy S rfl rfl rfl rfl (Z2 S rfl) λf S=>Zok S (ZZe S rfl rfl rfl zl) rfl zl (ZM S [.float .f64 fv] ZXm rfl rfl) (Z1k S.vin (show Rep.rel (ZC .f64) _ [.float .f64 fv] fv from (Zba a)) E) ?_;rintro _ V f w F ⟨W,rfl,G⟩ S;obtain rfl:=G;refine ov S rfl (Zjc S (b:=false) rfl rfl) λf S=>mw S rfl λf S=>Zz ?_;obtain rfl:=Zv H;refine Zh (n _ _ ⟨_,_,rfl,(leT (leT (leR _) o) F),(S.fr' rfl)⟩)
 rintro f w ⟨h,k,hq,X,S⟩;subst hq;have H:=A;refine Zh (u _ _ ?_);rcases Zaa (h) with g | g
 ·have H:=Z7 H g;refine Zha S rfl g (sr (mv S rfl λf S=>mw S rfl λf S=>mw S rfl λf S=>oe (wp_ret (Zzg (ZPb ?_)))));obtain rfl:=Zv H;refine Zna S (Zic rfl (ZU S rfl) (ZU S rfl)) ⟨[.float .f64 fv],[.int .i64 0],rfl,(Zba a),(ZO (by decide))⟩
 have H:=Z3 H g;refine Zca S rfl g (wp_skip (Zfd (Zh (s _ _ (Zq λ_ I=>bO H λi J H=>ZA (mv S rfl λf S=>opc S rfl (ZM S [.float .f64 fv] ZDq rfl rfl) (ZWq S.vin (show Rep.rel (ZC .f64) _ [.float .f64 fv] fv from (Zba a)) J) ?_))))));rintro _ Y f w Z ⟨aa,ab,rfl,L,M⟩ S;obtain⟨rfl,ac⟩:=L;obtain⟨rfl,ad⟩:=M;refine mv S rfl λf S=>ov S rfl (Zja S rfl rfl) λf S=>ov S rfl (Zja S rfl rfl) λf S=>mw S rfl λf S=>mw S rfl λf S=>Zz (Zh (I _ _ (sr (mv S rfl λf S=>ov S rfl (Z4b S [.float .f64 i.1] (Z4g Zki) rfl rfl) λf S=>mw S rfl λf S=>oe (Zq λ_ N=>bO H λae O H=>?_)))));refine bO H λaf P H=>bO H λag Q H=>bO H λp q H=>ZA (mv S rfl λf S=>mv S rfl λf S=>ov S rfl (Zy S rfl rfl (ZDm O)) λf S=>ov S rfl (Zy S rfl rfl Zli) λf S=>ov S rfl (ZVe S rfl (Z1r _)) λf S=>ov S rfl (Zy S rfl rfl (Zmb P)) λf S=>ov S rfl (Zy S rfl rfl (ZMc Q)) λf S=>ov S rfl (Zy S rfl rfl (ZMc q)) λf S=>mw S rfl λf S=>Zz ?_);refine Zh (N _ _ (sr (mv S rfl λf S=>ov S rfl (Zy S rfl rfl ZHj) λf S=>mw S rfl λf S=>oe (sr (mv S rfl λf S=>ov S rfl (Zy S rfl rfl Zij) λf S=>mw S rfl λf S=>?_)))));have S:=S.fr' (σ':=[(3,.int .i64 p),(4,.int .u64 (orI .u64 (Z2b .u64 ((i.1:Int)) (9218868437227405312:Int)) (4602678819172646912:Int)))]) rfl
 refine oe (sr (mv S rfl λf S=>ov S rfl (Z4b S [.int .u64 (orI .u64 (Z2b .u64 ((i.1:Int)) (9218868437227405312:Int)) (4602678819172646912:Int))] (Z9h ZBh) rfl rfl) λf S=>mw S rfl λf S=>oe (wp_ret ?_)));obtain rfl:=Zv H;refine Zna S (Zic rfl (ZU S rfl) (ZU S rfl)) ⟨[.float .f64 ((orI .u64 (Z2b .u64 ((i.1:Int)) (9218868437227405312:Int)) (4602678819172646912:Int)).toNat)],[.int .i64 p],rfl,(Zba (ZJj (Zjb _ _))),(ZO (Z7a q).2)⟩
theorem Frexp_w {c:World} {b:Zb} (hv:VIn b c) {d:List Value} {fv:Nat} (h:Rep.rel (ZC .f64) b d fv) {z:Nat×Int} (H:Znm fv=some z):Ret Tryz.prog 134 #[(ZC .f64).val d] c b (λy v'=>∃ e a,y = .tuple #[(ZC .f64).val e,(Zf .i64).val a]∧(ZC .f64).rel v' e z.1∧(Zf .i64).rel v' a z.2):=by
 obtain⟨rfl,a⟩:=h;refine ZKb (K:=12) (args:=[.float .f64 fv]) hv Tryz.func134 rfl rfl zl λf S=>?_;unfold Znm at H;refine sr (mw S rfl λf S=>mw S rfl λf S=>oe (Zq λ_ i=>Zca S rfl rfl (wp_skip (Zh (i _ _ (Zq λ_ j=>bO H λg k H=>ZA (mv S rfl λf S=>opc S rfl (ZM S [.float .f64 fv] k_en157 rfl rfl) (frexp_w S.vin (show Rep.rel (ZC .f64) _ [.float .f64 fv] fv from (Zba a)) k) ?_)))))));rintro _ p f w q ⟨r,s,rfl,l,m⟩ S;obtain⟨rfl,n⟩:=l;obtain⟨rfl,o⟩:=m;refine ov S rfl (Zja S rfl rfl) λf S=>ov S rfl (Zja S rfl rfl) λf S=>mw S rfl λf S=>mw S rfl λf S=>Zz (Zh (j _ _ (wp_ret ?_)));obtain rfl:=Zv H;refine Zna S (Zic rfl (ZU S rfl) (ZU S rfl)) ⟨[.float .f64 g.1],[.int .i64 (g.2)],rfl,(Zba n),(ZO o)⟩
theorem ZLu {b:World} {a:Zb} (hv:VIn a b) {c:List Value} {fv:Nat} (g:Rep.rel (ZC .f64) a c fv) {d:List Value} {sign:Nat} (h:Rep.rel (ZC .f64) a d sign) {z:Nat} (H:Z4l fv sign=some z):Ret Tryz.prog 167 #[(ZC .f64).val c,(ZC .f64).val d] b a (λy v'=>∃ e,y=(ZC .f64).val e∧(ZC .f64).rel v' e z):=by
 obtain⟨rfl,i⟩:=g;obtain⟨rfl,j⟩:=h;refine ZKb (K:=13) (args:=[.float .f64 fv,.float .f64 sign]) hv Tryz.func167 rfl rfl zl λf S=>?_;unfold Z4l at H;refine sr (mw S rfl λf S=>oe (sr (mv S rfl λf S=>ov S rfl (Z4b S [.float .f64 fv] (Z4g Zki) rfl rfl) λf S=>ov S rfl (Zy S rfl rfl ZHj) λf S=>mv S rfl λf S=>ov S rfl (Z4b S [.float .f64 sign] (Z4g Zki) rfl rfl) λf S=>ov S rfl (Zy S rfl rfl Zli) λf S=>ov S rfl (Zy S rfl rfl Zij) λf S=>ov S rfl (Z4b S [.int .u64 (orI .u64 (Z2b .u64 ((fv:Int)) (9223372036854775808:Int)) (Zya .u64 ((sign:Int)) (9223372036854775808:Int)))] (Z9h ZBh) rfl rfl) λf S=>mw S rfl λf S=>oe ?_)));refine wp_ret ?_;obtain rfl:=Zv H;refine Zna S (Zib rfl (ZU S rfl)) ⟨[.float .f64 ((orI .u64 (Z2b .u64 ((fv:Int)) (9223372036854775808:Int)) (Zya .u64 ((sign:Int)) (9223372036854775808:Int))).toNat)],rfl,(Zba (ZJj (Zjb _ _)))⟩
theorem Zos {d:World} {b:Zb} (hv:VIn b d) {g:List Value} {sign:Int} (j:Rep.rel (Zf .i64) b g sign) {z:Nat} (H:ZCj sign=some z):Ret Tryz.prog 168 #[(Zf .i64).val g] d b (λy v'=>∃ h,y=(ZC .f64).val h∧(ZC .f64).rel v' h z):=by
 obtain⟨rfl,p⟩:=j;refine ZKb (K:=8) (args:=[.int .i64 sign]) hv Tryz.func168 rfl rfl zl λf S=>?_;unfold ZCj at H;refine sr (mw S rfl λf S=>oe (sr (mw S rfl λf S=>oe (Zq λ_ k=>sr (mv S rfl λf S=>ov S rfl (Zy S rfl rfl ZNh) λf S=>oe ?_)))));obtain⟨l,m,n⟩:=ZZ H;refine Zkb (λf w=>∃ a e,a=l∧Zb.le b e∧St 8 d b [(3,.int .u64 a)] [] e f w∧inR .u64 a) (λ_ i=>?_) ?_
 ·have H:=m;rcases Zaa (decide ((0:Int)≤sign)) with c | c
  ·have H:=Z7 H c;refine Zha S rfl c (ZA (mw S rfl λf S=>Zz ?_));obtain rfl:=Zv H;refine Zh (i _ _ ⟨_,_,rfl,(leR _),(S.fr' rfl),(by decide)⟩)
  have H:=Z3 H c;refine Zca S rfl c (ZA (mw S rfl λf S=>Zz ?_));obtain rfl:=Zv H;refine Zh (i _ _ ⟨_,_,rfl,(leR _),(S.fr' rfl),(by decide)⟩)
 rintro f w ⟨a,e,hq,q,S,o⟩;subst hq;have H:=n;refine Zh (k _ _ (sr (mv S rfl λf S=>ov S rfl (Z4b S [.int .u64 a] (Z9h ZBh) rfl rfl) λf S=>mw S rfl λf S=>oe (wp_ret ?_))));obtain rfl:=Zv H;refine Zna S (Zib rfl (ZU S rfl)) ⟨[.float .f64 a.toNat],rfl,(Zba (ZJj o))⟩
theorem ldexp_w {n:World} {c:Zb} (hv:VIn c n) {u:List Value} {frac:Nat} (I:Rep.rel (ZC .f64) c u frac) {v:List Value} {ex:Int} (J:Rep.rel (Zf .i64) c v ex) {z:Nat} (H:ZWk frac ex=some z):Ret Tryz.prog 159 #[(ZC .f64).val u,(Zf .i64).val v] n c (λy v'=>∃ x,y=(ZC .f64).val x∧(ZC .f64).rel v' x z):=by
 obtain⟨rfl,d⟩:=I;obtain⟨rfl,r2⟩:=J;refine ZKb (K:=63) (args:=[.float .f64 frac,.int .i64 ex]) hv Tryz.func159 rfl rfl zl λf S=>?_;unfold ZWk at H;refine sr (mw S rfl λf S=>oe (Zq λ_ L=>wp_block (sr (mv S rfl λf S=>ov S rfl (Zps S rfl rfl) λf S=>mw S rfl λf S=>oe ?_))));rcases Zaa (fEq .f64 frac ((0:Nat))) with e | e
 ·have H:=Z7 H e;refine Zha S rfl e (sr (mv S rfl λf S=>mw S rfl λf S=>oe (wp_ret (Zzg (ZPb ?_)))));obtain rfl:=Zv H;refine Zna S (Zib rfl (ZU S rfl)) ⟨[.float .f64 frac],rfl,(Zba d)⟩
 have H:=Z3 H e;refine Zca S rfl e (Zq λ_ M=>?_);obtain⟨N,O,P⟩:=ZZ H;refine Zkb (λf w=>∃ o r,o=N∧Zb.le c r∧St 63 n c [(0,.float .f64 frac),(1,.int .i64 ex),(12,.bool o)] [] r f w) (λ_ A=>?_) ?_
 ·have H:=O;refine bO H λQ R H=>ZA (mv S rfl λf S=>opc S rfl (ZM S [.float .f64 frac,.int .i64 0] Zxm rfl rfl) (ZBm S.vin (show Rep.rel (ZC .f64) _ [.float .f64 frac] frac from (Zba d)) (show Rep.rel (Zf .i64) _ [.int .i64 0] (0:Int) from (ZO (by decide))) R) ?_);rintro _ aM f w B ⟨aN,rfl,T⟩ S;obtain rfl:=T;refine mv S rfl λf S=>?_;rcases Zaa (Q) with g | g
  ·have H:=Z7 H g;have S:=S.bool (t:=15) rfl g;refine opn S rfl rfl rfl rfl λf S=>opn S rfl rfl rfl rfl λf S=>ov S rfl (Zjc S (b:=true) rfl rfl) λf S=>mw S rfl λf S=>Zz ?_;obtain rfl:=Zv H;refine Zh (A _ _ ⟨_,_,rfl,(leT (leR _) B),(S.fr' rfl)⟩)
  have H:=Z3 H g;have S:=S.bool (t:=15) rfl g;refine bO H λaO U H=>opy S rfl rfl rfl rfl (Z2 S rfl) λf S=>Zok S (ZZe S rfl rfl rfl zl) rfl zl (ZM S [.float .f64 frac] ZXm rfl rfl) (Z1k S.vin (show Rep.rel (ZC .f64) _ [.float .f64 frac] frac from (Zba d)) U) ?_;rintro _ aP f w V ⟨aQ,rfl,W⟩ S;obtain rfl:=W;refine ov S rfl (Zjc S (b:=false) rfl rfl) λf S=>mw S rfl λf S=>Zz ?_;obtain rfl:=Zv H;refine Zh (A _ _ ⟨_,_,rfl,(leT (leT (leR _) B) V),(S.fr' rfl)⟩)
 rintro f w ⟨o,r,hq,aR,S⟩;subst hq;have H:=P;refine Zh (M _ _ ?_);rcases Zaa (o) with h | h
 ·have H:=Z7 H h;refine Zha S rfl h (sr (mv S rfl λf S=>mw S rfl λf S=>oe (wp_ret (Zzg (ZPb ?_)))));obtain rfl:=Zv H;refine Zna S (Zib rfl (ZU S rfl)) ⟨[.float .f64 frac],rfl,(Zba d)⟩
 have H:=Z3 H h;refine Zca S rfl h (wp_skip (Zfd (Zh (L _ _ (Zq λ_ X=>bO H λa Y H=>ZA (mv S rfl λf S=>opc S rfl (ZM S [.float .f64 frac] ZDq rfl rfl) (ZWq S.vin (show Rep.rel (ZC .f64) _ [.float .f64 frac] frac from (Zba d)) Y) ?_))))));rintro _ Z f w aS ⟨aT,aU,rfl,aa,ab⟩ S;obtain⟨rfl,ac⟩:=aa;obtain⟨rfl,aV⟩:=ab;refine mv S rfl λf S=>ov S rfl (Zja S rfl rfl) λf S=>ov S rfl (Zja S rfl rfl) λf S=>mw S rfl λf S=>mw S rfl λf S=>Zz (Zh (X _ _ (Zq λ_ ad=>bO H λaW ae H=>ZA (mv S rfl λf S=>mv S rfl λf S=>ov S rfl (Zy S rfl rfl (ZMc ae)) λf S=>mw S rfl λf S=>?_))));refine Zz (Zh (ad _ _ (sr (mv S rfl λf S=>ov S rfl (Z4b S [.float .f64 a.1] (Z4g Zki) rfl rfl) λf S=>mw S rfl λf S=>oe (Zq λ_ af=>bO H λaX ag H=>bO H λaY ah H=>bO H λi C H=>ZA (mv S rfl λf S=>mv S rfl λf S=>?_))))));refine ov S rfl (Zy S rfl rfl (ZDm ag)) λf S=>ov S rfl (ZVe S rfl (Z1r _)) λf S=>ov S rfl (Zy S rfl rfl Zli) λf S=>ov S rfl (Zy S rfl rfl (Zmb ah)) λf S=>ov S rfl (Zy S rfl rfl (ZMc C)) λf S=>mw S rfl λf S=>Zz (Zh (af _ _ (Zq λ_ ai=>sr (mv S rfl λf S=>ov S rfl (Zy S rfl rfl Zud) λf S=>oe ?_))))
 rcases Zaa (decide (i<(-1075:Int))) with j | j
 ·have H:=Z7 H j;refine Zha S rfl j (Zq λ_ aj=>bO H λD ak H=>ZA (mv S rfl λf S=>opc S rfl (ZM S [.float .f64 ((0:Nat)),.float .f64 a.1] k_en167 rfl rfl) (ZLu S.vin (show Rep.rel (ZC .f64) _ [.float .f64 ((0:Nat))] ((0:Nat)) from (Zba (by decide))) (show Rep.rel (ZC .f64) _ [.float .f64 a.1] a.1 from (Zba ac)) ak) ?_));rintro _ aZ f w a0 ⟨a1,rfl,al⟩ S;obtain⟨rfl,am⟩:=al;refine mw S rfl λf S=>Zz ?_;have S:=S.fr' (σ':=[(4,.float .f64 D)]) rfl;refine Zh (aj _ _ (wp_ret (ZPb ?_)));obtain rfl:=Zv H;refine Zna S (Zib rfl (ZU S rfl)) ⟨[.float .f64 D],rfl,(Zba am)⟩
 have H:=Z3 H j;refine Zca S rfl j (wp_skip (Zh (ai _ _ (Zq λ_ an=>sr (mv S rfl λf S=>ov S rfl (Zy S rfl rfl ZLg) λf S=>?_)))));have S:=S.fr' (σ':=[(0,.float .f64 a.1),(1,.int .i64 i),(6,.int .u64 ((a.1:Int))),(42,.bool (decide ((1023:Int)<i)))]) rfl;refine oe ?_;rcases Zaa (decide ((1023:Int)<i)) with k | k
 ·have H:=Z7 H k;refine Zha S rfl k (Zq λ_ ao=>sr (mv S rfl λf S=>ov S rfl (Zfp S rfl rfl) λf S=>oe ?_));rcases Zaa (fLt .f64 a.1 ((0:Nat))) with l | l
  ·have H:=Z7 H l;refine Zha S rfl l (Zq λ_ ap=>bO H λaq ar H=>ZA (opc S rfl (ZM S [.int .i64 (-1:Int)] Z8r rfl rfl) (Zos S.vin (show Rep.rel (Zf .i64) _ [.int .i64 (-1:Int)] (-1:Int) from (ZO (by decide))) ar) ?_));rintro _ a2 f w a3 ⟨a4,rfl,au⟩ S;obtain⟨rfl,av⟩:=au;refine mw S rfl λf S=>Zz (Zh (ap _ _ (wp_ret (ZPb (ZPb ?_)))));obtain rfl:=Zv H;refine Zna S (Zib rfl (ZU S rfl)) ⟨[.float .f64 aq],rfl,(Zba av)⟩
  have H:=Z3 H l;refine Zca S rfl l (wp_skip (Zh (ao _ _ (Zq λ_ aw=>bO H λax ay H=>ZA (opc S rfl (ZM S [.int .i64 1] Z8r rfl rfl) (Zos S.vin (show Rep.rel (Zf .i64) _ [.int .i64 1] (1:Int) from (ZO (by decide))) ay) ?_)))));rintro _ a5 f w a6 ⟨a7,rfl,az⟩ S;obtain⟨rfl,aA⟩:=az;refine mw S rfl λf S=>Zz (Zh (aw _ _ (wp_ret (ZPb ?_))));obtain rfl:=Zv H;refine Zna S (Zib rfl (ZU S rfl)) ⟨[.float .f64 ax],rfl,(Zba aA)⟩
 have H:=Z3 H k;refine Zca S rfl k (wp_skip (Zh (an _ _ (sr (mw S rfl λf S=>oe (Zq λ_ aB=>sr (mv S rfl λf S=>ov S rfl (Zy S rfl rfl Zud) λf S=>oe ?_)))))));obtain⟨aC,aD,aE⟩:=ZZ H;refine Zkb (λf w=>∃ p q s,(p,q)=aC∧Zb.le Z s∧St 63 n c [(1,.int .i64 p),(6,.int .u64 ((a.1:Int))),(7,.float .f64 q)] [] s f w∧inR .i64 p∧q<18446744073709551616) (λ_ E=>?_) ?_
 ·have H:=aD;rcases Zaa (decide (i<(-1022:Int))) with m | m
  ·have H:=Z7 H m;refine Zha S rfl m (Zq λ_ aF=>bO H λa8 F H=>ZA (mv S rfl λf S=>ov S rfl (Zy S rfl rfl (ZMc F)) λf S=>mw S rfl λf S=>Zz (Zh (aF _ _ (ZA (mw S rfl λf S=>Zz ?_))))));obtain rfl:=Zv H;refine Zh (E _ _ ⟨_,_,_,rfl,(leR _),(S.fr' rfl),(Z7a F).2,(by decide)⟩)
  have H:=Z3 H m;refine Zca S rfl m (wp_skip ?_);obtain rfl:=Zv H;refine Zh (E _ _ ⟨_,_,_,rfl,(leR _),(S.fr' rfl),(Z7a C).2,(by decide)⟩)
 rintro f w ⟨p,q,s,hq,a9,S,ba,bb⟩;subst hq;have H:=aE;refine Zh (aB _ _ (sr (mv S rfl λf S=>ov S rfl (Zy S rfl rfl ZHj) λf S=>mw S rfl λf S=>oe (Zq λ_ aG=>bO H λbc aH H=>bO H λaI aJ H=>ZA (mv S rfl λf S=>mv S rfl λf S=>ov S rfl (Zy S rfl rfl (ZMc aH)) λf S=>ov S rfl (ZVe S rfl (ZTv _)) λf S=>?_)))));refine ov S rfl (Zy S rfl rfl (Zwp aJ)) λf S=>ov S rfl (Zy S rfl rfl Zij) λf S=>mw S rfl λf S=>Zz (Zh (aG _ _ (Zq λ_ aK=>bO H λaL G H=>ZA (mv S rfl λf S=>mv S rfl λf S=>ov S rfl (Z4b S [.int .u64 (orI .u64 (Z2b .u64 ((a.1:Int)) (9218868437227405312:Int)) aI)] (Z9h ZBh) rfl rfl) λf S=>ov S rfl (ZSo S rfl rfl G) λf S=>mw S rfl λf S=>Zz ?_))));refine Zh (aK _ _ (wp_ret ?_));obtain rfl:=Zv H;refine Zna S (Zib rfl (ZU S rfl)) ⟨[.float .f64 aL],rfl,(Zba (ZYd G).2)⟩
theorem Ldexp_w {b:World} {a:Zb} (hv:VIn a b) {c:List Value} {frac:Nat} (g:Rep.rel (ZC .f64) a c frac) {d:List Value} {ex:Int} (h:Rep.rel (Zf .i64) a d ex) {z:Nat} (H:Zxl frac ex=some z):Ret Tryz.prog 135 #[(ZC .f64).val c,(Zf .i64).val d] b a (λy v'=>∃ e,y=(ZC .f64).val e∧(ZC .f64).rel v' e z):=by
 obtain⟨rfl,i⟩:=g;obtain⟨rfl,j⟩:=h;refine ZKb (K:=11) (args:=[.float .f64 frac,.int .i64 ex]) hv Tryz.func135 rfl rfl zl λf S=>?_;unfold Zxl at H;refine sr (mw S rfl λf S=>oe (Zq λ_ k=>Zca S rfl rfl (wp_skip (Zh (k _ _ (Zq λ_ l=>bO H λm n H=>ZA (mv S rfl λf S=>mv S rfl λf S=>opc S rfl (ZM S [.float .f64 frac,.int .i64 ex] k_en159 rfl rfl) (ldexp_w S.vin (show Rep.rel (ZC .f64) _ [.float .f64 frac] frac from (Zba i)) (show Rep.rel (Zf .i64) _ [.int .i64 ex] ex from (ZO j)) n) ?_)))))));rintro _ q f w r ⟨s,rfl,o⟩ S;obtain⟨rfl,p⟩:=o;refine mw S rfl λf S=>Zz (Zh (l _ _ (wp_ret ?_)));obtain rfl:=Zv H;refine Zna S (Zib rfl (ZU S rfl)) ⟨[.float .f64 m],rfl,(Zba p)⟩
theorem Zew {u:World} {h:Zb} (hv:VIn h u) {D:List Value} {fv:Nat} (V:Rep.rel (ZC .f64) h D fv) {z:Rat×Int} (H:ZWd fv=some z):Ret Tryz.prog 102 #[(ZC .f64).val D] u h (λy v'=>∃ E c,y = .tuple #[Zrb.val E,(Zf .i64).val c]∧Zrb.rel v' E z.1∧(Zf .i64).rel v' c z.2):=by
 obtain⟨rfl,c⟩:=V;refine ZKb (K:=41) (args:=[.float .f64 fv]) hv Tryz.func102 rfl rfl zl λf S=>?_;unfold ZWd at H;refine sr (Zai S wn rfl zl (cs:=[.bool false,.slice none 0 0,.slice none 0 0]) (Zug Zbp) λn f w S=>mw S rfl λf S=>oe (Zq λ_ W=>Zq λ_ X=>?_));obtain⟨Y,Z,aa⟩:=ZZ H;refine Zkb (λf w=>∃ o v,o=Y∧Zb.le h v∧St 41 u h [(0,.float .f64 fv),(2,.pointer (some ⟨n,0,none⟩)),(12,.bool o)] [Loc.box n 46 [.bool false,.slice none 0 0,.slice none 0 0]] v f w) (λ_ G=>?_) ?_
 ·have H:=Z;refine bO H λab ac H=>ZA (mv S rfl λf S=>opc S rfl (ZM S [.float .f64 fv] ZXm rfl rfl) (Z1k S.vin (show Rep.rel (ZC .f64) _ [.float .f64 fv] fv from (Zba c)) ac) ?_);rintro _ aT f w I ⟨aU,rfl,ad⟩ S;obtain rfl:=ad;refine mv S rfl λf S=>?_;rcases Zaa (ab) with i | i
  ·have H:=Z7 H i;have S:=S.bool (t:=9) rfl i;refine opn S rfl rfl rfl rfl λf S=>opn S rfl rfl rfl rfl λf S=>ov S rfl (Zjc S (b:=true) rfl rfl) λf S=>Zz ?_;obtain rfl:=Zv H;refine Zh (G _ _ ⟨_,_,rfl,(leT (leR _) I),(S.fr' rfl)⟩)
  have H:=Z3 H i;have S:=S.bool (t:=9) rfl i;refine bO H λaV ae H=>opy S rfl rfl rfl rfl (Z2 S rfl) λf S=>Zok S (ZZe S rfl rfl rfl zl) rfl zl (ZM S [.float .f64 fv,.int .i64 0] Zxm rfl rfl) (ZBm S.vin (show Rep.rel (ZC .f64) _ [.float .f64 fv] fv from (Zba c)) (show Rep.rel (Zf .i64) _ [.int .i64 0] (0:Int) from (ZO (by decide))) ae) ?_;rintro _ aW f w af ⟨aX,rfl,ag⟩ S;obtain rfl:=ag;refine ov S rfl (Zjc S (b:=false) rfl rfl) λf S=>Zz ?_;obtain rfl:=Zv H;refine Zh (G _ _ ⟨_,_,rfl,(leT (leT (leR _) I) af),(S.fr' rfl)⟩)
 rintro f w ⟨o,v,hq,aY,S⟩;subst hq;have H:=aa;refine Zh (X _ _ ?_);rcases Zaa (o) with j | j
 ·have H:=Z7 H j;refine Zha S rfl j (sr (ov S rfl (ZQi S [] rfl (z:=.agg #[.bool false,.slice none 0 0,.slice none 0 0]) (by kernel_rfl)) λf S=>?_));obtain⟨w,ah,S⟩:=sbp S [.bool false,.slice none 0 0,.slice none 0 0] Z1e 0 0 rfl;refine Z7e wn rfl (ah rfl rfl) (mw S rfl λf S=>oe (wp_ret (ZPb ?_)));obtain rfl:=Zv H;refine Zna S (Zic rfl (rag3 S rfl Z1e 0 rfl rfl) (ZU S rfl)) ⟨[.bool false,.slice none 0 0,.slice none 0 0],[.int .i64 1],rfl,(Z4n _),(ZO (by decide))⟩
 have H:=Z3 H j;refine Zca S rfl j (wp_skip (Zh (W _ _ (Zq λ_ ai=>bO H λx aj H=>ZA (mv S rfl λf S=>opc S rfl (ZM S [.float .f64 fv] k_en134 rfl rfl) (Frexp_w S.vin (show Rep.rel (ZC .f64) _ [.float .f64 fv] fv from (Zba c)) aj) ?_)))));rintro _ aZ f w a0 ⟨a1,a2,rfl,ak,al⟩ S;obtain⟨rfl,am⟩:=ak;obtain⟨rfl,a3⟩:=al;refine mv S rfl λf S=>ov S rfl (Zja S rfl rfl) λf S=>ov S rfl (Zja S rfl rfl) λf S=>mw S rfl λf S=>mw S rfl λf S=>Zz (Zh (ai _ _ (Zq λ_ an=>bO H λa4 ao H=>bO H λA J H=>bO H λB ap H=>ZA (mv S rfl λf S=>opc S rfl (ZM S [.float .f64 x.1,.int .i64 53] k_en135 rfl rfl) (Ldexp_w S.vin (show Rep.rel (ZC .f64) _ [.float .f64 x.1] x.1 from (Zba am)) (show Rep.rel (Zf .i64) _ [.int .i64 53] (53:Int) from (ZO (by decide))) ao) ?_))));rintro _ a5 f w a6 ⟨a7,rfl,aq⟩ S;obtain⟨rfl,a8⟩:=aq;refine ov S rfl (ZVe S rfl (conv_fI Tryz.underlying180 Tryz.underlying2 J)) λf S=>opc S rfl (ZM S [.int .i64 A] k_en31 rfl rfl) (of_c S.vin (show Rep.rel (Zf .i64) _ [.int .i64 A] A from (ZO (Ztt J))) ap) ?_;rintro _ a9 f w ba ⟨bb,rfl,k⟩ S;obtain⟨l,d,e,g,rfl⟩:=Zwg k;refine Zai S wn rfl zl (cs:=[.bool false,.slice none 0 0]) (Zug k_zv44) λbc f w S=>?_
 obtain⟨w,ar,S⟩:=sbp S [.bool l,.slice d e g] ZLj 0 0 rfl;refine Z7e wn rfl (ar rfl rfl) (Zz (Zh (an _ _ (Zq λ_ au=>Zq λ_ av=>bO H λa L H=>ZA (mv S rfl λf S=>ov S rfl (Zy S rfl rfl (Zmb L)) λf S=>mw S rfl λf S=>Zz (Zh (av _ _ (sr (mv S rfl λf S=>?_)))))))));refine ov S rfl (Zy S rfl rfl ZNh) λf S=>oe ?_;rcases Zaa (decide ((0:Int)≤a)) with m | m
 ·have H:=Z7 H m;refine Zha S rfl m (Zq λ_ aw=>bO H λbd ax H=>bO H λbe ay H=>Z1h (fl:=#[true,true,true,true,true,false,false,true,false,false]) ZRh (by kernel_rfl) S ?_);intro ops O F w S;refine rfa O F 0 rfl rfl S (Zpj S rfl Zaq) λf S=>?_;obtain⟨rfl,az⟩:=ZTs k;refine rfa O F 1 rfl rfl S (lo S rfl k_sz4 0 rfl rfl) λf S=>rfa O F 2 rfl rfl S (Zpj S rfl Zlu) λf S=>rfa O F 3 rfl rfl S (lo S rfl k_sz42 0 rfl rfl) λf S=>rfa O F 4 rfl rfl S (Z2 S rfl) λf S=>go1 O F 5 (nxc [3,4,2] [0,1] O rfl S rfl (ZM S [.slice d e g,.int .i64 a] Zyj rfl rfl) (ZGi S.vin az (show Rep.rel (Zf .i64) _ [.int .i64 a] a from (ZO (Z7a L).2)) ax) ?_);rintro _ bf f w bg ⟨bh,rfl,M⟩ S;obtain⟨aA,aB,aC,rfl⟩:=ZAa M;refine⟨(py S rfl rfl (Zpj S rfl Zaq) (py S rfl rfl (lo S rfl k_sz4 0 rfl rfl) ZRb)),go1 O F 6 (nxc [1,5,0,3,4,2] [] O rfl S rfl (ZM S [.bool (decide (B<0)),.slice aA aB aC] k_en90 rfl rfl) (whole_c S.vin (show Rep.rel Zeb _ [.bool (decide (B<0))] (decide (B<0)) from Zgi) M ay) ?_)⟩;rintro _ bi f w bj ⟨bk,rfl,N⟩ S;obtain⟨p,q,r,s,rfl⟩:=Zwg N;refine⟨ZRb,rfa O F 7 rfl rfl S (ZQi S [(0,.agg #[.bool p,.slice q r s])] rfl (z:=.agg #[.bool p,.slice q r s,.slice none 0 0]) (by kernel_rfl)) λf S=>go1 O F 8 ?_⟩
  obtain⟨w,aD,S⟩:=sbp S [.bool p,.slice q r s,.slice none 0 0] Z1e 0 1 rfl;refine nxs [0,1,2,3,4,5,6,7] [] O rfl rfl (aD rfl rfl) (⟨ZRb,go1 O F 9 (nva [0,1,2,3,4,5,6,7,8] [] O rfl rfl S (Zge S rfl) λf S=>⟨ZRb,fin1 O F ?_⟩)⟩);have S:=S.fr' (σ':=[(2,.pointer (some ⟨n,0,none⟩)),(3,.int .i64 0)]) rfl;refine Zh (aw _ _ (wp_ret (ZPb (bO H λbm aE H=>?_))));have aF:=Zap N (ZKf _) aE;obtain rfl:=Zv H;refine Zna S (Zic rfl (rag3 S rfl Z1e 1 rfl rfl) (ZU S rfl)) ⟨[.bool p,.slice q r s,.slice none 0 0],[.int .i64 0],rfl,aF,(ZO (by decide))⟩
 have H:=Z3 H m;refine Zca S rfl m (wp_skip (Zh (au _ _ (Zq λ_ aG=>bO H λbn aH H=>bO H λbo aI H=>bO H λbp aJ H=>Z1h (fl:=#[true,false,true,true,false,false,false,false]) ZRh (by kernel_rfl) S ?_))));intro ops O F w S;refine rfa O F 0 rfl rfl S (la S (cs:=[.bool l,.slice d e g]) rfl ZLj 0 rfl rfl rfl) λf S=>rfa O F 2 rfl rfl S (Z2 S rfl) λf S=>rfa O F 3 rfl rfl S (Zmm S rfl) λf S=>go1 O F 1 (nxc [] [0,2,3] O rfl S rfl (ZM S [.int .u64 1] Z8o rfl rfl) (Zqr S.vin (show Rep.rel (Zf .u64) _ [.int .u64 1] (1:Int) from (ZO (by decide))) aH) ?_);rintro _ bq f w aK ⟨br,rfl,P⟩ S;obtain⟨aL,aM,aN,rfl⟩:=ZAa P;refine⟨(py S rfl rfl (la S (cs:=[.bool l,.slice d e g]) rfl ZLj 0 rfl rfl rfl) (py S rfl rfl (Z2 S rfl) (py S rfl rfl (Zmm S rfl) ZRb))),go1 O F 4 (nxc [1,3,2] [0] O rfl S rfl (ZM S [.slice aL aM aN,.int .i64 (IntKind.i64.wrap (-a))] Zyj rfl rfl) (ZGi S.vin P (show Rep.rel (Zf .i64) _ [.int .i64 (IntKind.i64.wrap (-a))] (IntKind.i64.wrap (-a)) from (ZO (Zjb _ _))) aI) ?_)⟩;rintro _ bs f w aO ⟨bt,rfl,Q⟩ S;obtain⟨aP,aQ,aR,rfl⟩:=ZAa Q;refine⟨(py S rfl rfl (la S (cs:=[.bool l,.slice d e g]) rfl ZLj 0 rfl rfl rfl) ZRb),go1 O F 5 ?_⟩;have k:=ZFa (leT aK aO) k
 refine nxc [0,4,1,3,2] [] O rfl S rfl (ZM S [.agg #[.bool l,.slice d e g],.slice aP aQ aR] k_en89 rfl rfl) (over_c S.vin k Q aJ) ?_;rintro _ bu f w bv ⟨bw,rfl,C⟩ S;obtain⟨R,T,U,rfl⟩:=len3 Zrb C;refine⟨ZRb,go1 O F 6 ?_⟩;obtain⟨w,aS,S⟩:=sba S (cs:=[R,T,U]) Z1e 0 1 rfl (Rflat Zrb C);refine nxs [0,1,2,3,4,5] [] O rfl rfl (aS rfl rfl) (⟨ZRb,go1 O F 7 (nva [0,1,2,3,4,5,6] [] O rfl rfl S (Zge S rfl) λf S=>⟨ZRb,fin1 O F ?_⟩)⟩);have S:=S.fr' (σ':=[(2,.pointer (some ⟨n,0,none⟩)),(3,.int .i64 0)]) rfl;refine Zh (aG _ _ (wp_ret ?_));obtain rfl:=Zv H;refine Zna S (Zic rfl (rag3 S rfl Z1e 1 rfl rfl) (ZU S rfl)) ⟨[R,T,U],[.int .i64 0],rfl,C,(ZO (by decide))⟩
set_option maxRecDepth 1000000
set_option maxRecDepth 100000
theorem d_sw:FloatKind.f64.format.signWeight=9223372036854775808:=by decide
theorem d_bi:FloatKind.f64.format.binade=4503599627370496:=by decide
theorem d_in:FloatKind.f64.format.infRung=9218868437227405312:=by decide
theorem d_lp:FloatKind.f64.format.leastPlace = -1074:=by decide
section
variable {s:Bool} {E M:Nat}
end
section
variable {s:Bool} {E M:Nat} (h1:1≤E) (h2:E≤2046) (h3:M<4503599627370496)
include h1 h2 h3
end
section
variable {s:Bool} {M:Nat} (h3:M<4503599627370496)
include h3
end
section
variable {s:Bool} {E M:Nat} (h1:1≤E) (h2:E≤2046) (h3:M<4503599627370496)
include h1 h2 h3
end
section
variable {m L:Nat} (h0:m≠0) (hL:m.log2=L) (h23:L≤23)
include h0 hL h23
end
theorem Zuv {r:Nat} (h:ZAf r):∃ g f,FloatKind.f64.format.read r = .nan g f:=by
 obtain⟨_,h2⟩:=h;unfold Ieee.Format.read;simp only[d_sw,d_bi,d_in,d_lp];rw[iN (by omega),iN (by omega),iN (by omega)];exact⟨_,_,rfl⟩
theorem Z2k {r:Nat} (h:ZAf r):ZWd r=some (0,1):=by
 obtain⟨g,f,hr⟩:=Zuv h;have hn:ZBe r=some true:=by
  unfold ZBe fNe Ieee.Format.order;rw[hr];rfl
 unfold ZWd;rw[hn,Za,Ze,Za,Ze]
theorem Zjt (g:Bool):ZWd (FloatKind.f64.encode (.infinity g))=some (0,1):=by
 have h1:∀ g,ZBe (FloatKind.f64.encode (.infinity g))=some false∧ZJf (FloatKind.f64.encode (.infinity g)) 0=some true:=by
  intro g
  cases g
  ·decide +kernel
  ·decide +kernel
 obtain⟨a,b⟩:=h1 g;unfold ZWd;rw[a,Za,Zd,b,Za,Za,Ze]
theorem Zfs:ZAf canon64:=⟨by decide,by decide⟩
theorem Zyw {y r:Nat} {z:Rat×Int} (h:as64 y r) (e:ZWd y=some z):ZWd r=some z:=by
 rcases h with rfl | ⟨rfl,h | ⟨g,rfl⟩⟩
 ·exact e
 ·rw[Z2k h,← e,Z2k Zfs]
 ·rw[Zjt,← e,Z2k Zfs]
end Go.Eng
namespace Go.Eng
open Go.Proofs Go.RowKit
theorem Zit {d:World} {a:Zb} (hv:VIn a d) {e:List Value} {fv:Nat} (k:Rep.rel (ZC .f32) a e fv) {z:Rat×Int} (H:ZZh fv=some z):Ret Tryz.prog 62 #[(ZC .f32).val e] d a (λy v'=>∃ g b,y = .tuple #[Zrb.val g,(Zf .i64).val b]∧Zrb.rel v' g z.1∧(Zf .i64).rel v' b z.2):=by
 obtain⟨rfl,b⟩:=k;refine ZKb (K:=9) (args:=[.float .f32 fv]) hv Tryz.func62 rfl rfl zl λf S=>?_;unfold ZZh at H;refine sr (Zai S wn rfl zl (cs:=[.bool false,.slice none 0 0,.slice none 0 0]) (Zug Zbp) λs f w S=>mw S rfl λf S=>oe (Zq λ_ l=>bO H λt m H=>bO H λn o H=>ZA (mv S rfl λf S=>ovn S rfl Tryz.underlying57 Tryz.underlying180 m λyr asr ltr f w S=>opc S rfl (ZM S [.float .f64 yr] k_en102 rfl rfl) (Zew S.vin (show Rep.rel (ZC .f64) _ [.float .f64 yr] yr from (Zba ltr)) (Zyw asr o)) ?_)));rintro _ u f w v ⟨x,A,rfl,c,p⟩ S;obtain⟨h,i,j,rfl⟩:=len3 Zrb c;obtain⟨rfl,q⟩:=p;refine ov S rfl (Zja S rfl rfl) λf S=>ov S rfl (Zja S rfl rfl) λf S=>?_;obtain⟨w,r,S⟩:=sba S (cs:=[h,i,j]) Z1e 0 0 rfl (Rflat Zrb c);refine Z7e wn rfl (r rfl rfl) (mw S rfl λf S=>Zz (Zh (l _ _ (wp_ret ?_))));obtain rfl:=Zv H;refine Zna S (Zic rfl (rag3 S rfl Z1e 0 rfl rfl) (ZU S rfl)) ⟨[h,i,j],[.int .i64 (n.2)],rfl,c,(ZO q)⟩
set_option maxHeartbeats 4000000
noncomputable def Zfl:FuncId×Con:=(62,⟨[.flt .f32],[.leaf 3,.int .i64],λp=>ZZh p⟩)
theorem Zgw:ZHd Tryz.prog Zfl.1 Zfl.2:=λw v vals x z hv ha hz=>by
 obtain⟨c0,e0,p0⟩:=ha;subst e0
 exact .inl ⟨λ_ _=>by kernel_rfl,Ret.mono (Zit hv p0 hz) λy v' _ ⟨r0,r1,e,h0,h1⟩=>⟨_,e,r0,_,rfl,h0,r1,rfl,h1⟩⟩
noncomputable def Zho:FuncId×Con:=(35,⟨[.slice (.pair (.flt .f32) (.flt .f32))],[.slice (.pair (.leaf 3) (.leaf 3)),.int .i64],λp=>ZLs p⟩)
theorem rise_k:KQ Zho:=Zs (Z0 (C:=cf0 [ZSf,Z5j,Zfl] [] [] []) (.n (.two (.f (.j [0] [] [.s 19 (.dat .bool)] .no)) (.n (.n (.f (.n (.cut ⟨⟨[],[],[]⟩,[(.norm,⟨[],[],[.s 4 (.own 143 (.pair (.leaf 3) (.leaf 3))),.s 5 (.dat (.int .i64))]⟩),(.ret,⟨[],[],[.s 1000 (.dat (.slice (.pair (.leaf 3) (.leaf 3)))),.s 1001 (.dat (.int .i64))]⟩)]⟩ (.f (.cut ⟨⟨[20,21],[],[.s 4 (.own 143 (.pair (.leaf 3) (.leaf 3))),.s 22 (.dat (.int .i64)),.s 5 (.dat (.int .i64))]⟩,[(.ret,⟨[],[],[.s 1000 (.dat (.slice (.pair (.leaf 3) (.leaf 3)))),.s 1001 (.dat (.int .i64))]⟩),(.exit 0,⟨[],[],[.s 4 (.own 143 (.pair (.leaf 3) (.leaf 3))),.s 5 (.dat (.int .i64))]⟩)]⟩ (.f (.n (.n (.f (.f (.n (.n (.n (.two (.f (.two (.j [4,5,6,8,10,20,21,22] [] [.s 39 (.dat .bool)] .no) (.n (.f (.j [4,5,6,8,10,20,21,22] [] [.s 51 (.dat .bool)] .no))))) (.n (.n (.j [4,20,21,22] [] [.s 5 (.dat (.int .i64))] .no))))))))))))))))))))) Tryz.func35 [] (λ_=>by kernel_rfl) ⟨Zkh,Zul,Zgw,tr⟩)
noncomputable def ZSs:FuncId×Con:=(67,⟨[.pair (.leaf 3) (.leaf 3),.pair (.leaf 3) (.leaf 3)],[.leaf 3],λp=>Zjr p.1 p.2⟩)
theorem Zoy:KQ ZSs:=Zs (Z0 (C:=cf0 [Z8i,ZFi] [] [] []) (.n (.f (.j [4] [] [.s 5 (.box 46 (.dat (.leaf 3)))] .no))) Tryz.func67 [] (λ_=>by kernel_rfl) ⟨Zvm,Z9l,tr⟩)
noncomputable def Zoq:FuncId×Con:=(36,⟨[.slice (.pair (.leaf 3) (.leaf 3)),.leaf 3],[.leaf 3,.int .i64],λp=>Z9r p.1 p.2⟩)
theorem reach_k:KQ Zoq:=Zs (Z0 (C:=cf0 [Zmh,Z8i,ZFi,ZSs,Z5j] [] [] []) (.n (.n (.n (.n (.f (.j [4,7] [] [.s 8 (.box 46 (.dat (.leaf 3)))] .no)))))) Tryz.func36 [(63,Tryz.f63,.r [] [] [.s 1000 (.dat (.int .i64))] (.n (.f (.n (.cut ⟨⟨[],[],[]⟩,[(.norm,⟨[],[],[]⟩),(.ret,⟨[],[],[.s 1000 (.dat (.int .i64))]⟩)]⟩ (.f (.cut ⟨⟨[0,1,7],[],[.s 8 (.dat (.int .i64))]⟩,[(.ret,⟨[],[],[.s 1000 (.dat (.int .i64))]⟩),(.exit 0,⟨[],[],[]⟩)]⟩ .no))))))),(64,Tryz.f64,.r [] [] [.s 1000 (.dat .bool)] .no)] (λ_=>by kernel_rfl) ⟨Znj,Zvm,Z9l,Zoy,Zul,tr⟩ tr tr ⟨⟨Tryz.func63,λ_ _=>by kernel_rfl⟩,⟨Tryz.func64,λ_ _=>by kernel_rfl⟩,tr⟩)
noncomputable def Zkr:FuncId×Con:=(14,⟨[.slice (.pair (.flt .f32) (.flt .f32)),.leaf 3],[.leaf 3,.int .i64],λp=>Zxp p.1 p.2⟩)
theorem Reach_k:KQ Zkr:=Zs (Z0 (C:=cf0 [Zho,Zoq] [] [] []) .no Tryz.func14 [] (λ_=>by kernel_rfl) ⟨rise_k,reach_k,tr⟩)
theorem ZJx {r:World} {d:Zb} (hv:VIn d r) {D:List Value} {n:Int} (L:Rep.rel (Zf .u64) d D n) {z:(List UInt8)} (H:Zuk n=some z):Ret Tryz.prog 69 #[(Zf .u64).val D] r d (λy v'=>∃ E,y=Z5.val E∧Z5.rel v' E z):=by
 obtain⟨rfl,M⟩:=L;refine ZKb (K:=20) (args:=[.int .u64 n]) hv Tryz.func69 rfl rfl zl λf S=>?_;unfold Zuk at H;refine sr (mw S rfl λf S=>oe (sr (Zai S wn rfl zl (cs:=[.int .u8 0,.int .u8 0,.int .u8 0,.int .u8 0,.int .u8 0,.int .u8 0,.int .u8 0,.int .u8 0,.int .u8 0,.int .u8 0,.int .u8 0,.int .u8 0,.int .u8 0,.int .u8 0,.int .u8 0,.int .u8 0,.int .u8 0,.int .u8 0,.int .u8 0,.int .u8 0]) (Zug k_zv184) λs f w S=>?_)));have S:=S.boxOwn 1 20 rfl zl;have N:Rep.rels (Zf .u8) d [.int .u8 0,.int .u8 0,.int .u8 0,.int .u8 0,.int .u8 0,.int .u8 0,.int .u8 0,.int .u8 0,.int .u8 0,.int .u8 0,.int .u8 0,.int .u8 0,.int .u8 0,.int .u8 0,.int .u8 0,.int .u8 0,.int .u8 0,.int .u8 0,.int .u8 0,.int .u8 0] (List.replicate 20 (0:Int)):=Zth (show Rep.rel (Zf .u8) _ [Value.int .u8 0] 0 from ⟨rfl,by decide⟩) 20;refine oe (sr (mw S rfl λf S=>oe (Zq λ_ O=>?_)));obtain⟨P,Q,R⟩:=ZZ H;refine Zkb (λf w=>∃ l m B t,(l,m)=P∧Zb.le d t∧St 20 r d [(3,.pointer (some ⟨s,0,none⟩)),(4,.int .i64 m)] [Loc.own (some s) 184 1 20 20 B] t f w∧Rep.rels (Zf .u8) t B l∧20=l.length∧inR .i64 m) (λ_ T=>?_) ?_
 ·have H:=Q;refine wp_block ?_;obtain⟨ak,U,V⟩:=ZZ H;refine ZVd U (λW f w=>∃ h o u b k,(h,o,u)=W∧Zb.le d k∧St 20 r d [(0,.int .u64 o),(3,.pointer (some ⟨s,0,none⟩)),(4,.int .i64 u)] [Loc.own (some s) 184 1 20 20 b] k f w∧Rep.rels (Zf .u8) k b h∧20=h.length∧inR .u64 o∧inR .i64 u) ⟨_,_,_,[.int .u8 0,.int .u8 0,.int .u8 0,.int .u8 0,.int .u8 0,.int .u8 0,.int .u8 0,.int .u8 0,.int .u8 0,.int .u8 0,.int .u8 0,.int .u8 0,.int .u8 0,.int .u8 0,.int .u8 0,.int .u8 0,.int .u8 0,.int .u8 0,.int .u8 0,.int .u8 0],_,rfl,(leR _),(S.fr' rfl),N,(List.length_replicate (n:=20) (a:=(0:Int))).symm,M,(by decide)⟩ ?_;rintro _ f w st ⟨h,o,u,b,k,hq,F,S,C,v,al,X⟩ H am Y Z;subst hq;refine Zq λ_ aa=>sr (mv S rfl λf S=>ov S rfl (Zy S rfl rfl ZLg) λf S=>oe ?_);rcases Zaa (decide ((0:Int)<o)) with p | p
  ·have H:=Z7 H p;refine Zha S rfl p (wp_skip (Zh (aa _ _ (Zq λ_ ab=>wp_block (Zq λ_ ac=>bO H λe G H=>ZA (mv S rfl λf S=>ov S rfl (Zy S rfl rfl (Zmb G)) λf S=>mw S rfl λf S=>Zz (Zh (ac _ _ (bO H λg ad H=>?_)))))))));refine bO H λan q H=>ZA (mv S rfl λf S=>mv S rfl λf S=>ov S rfl (Zy S rfl rfl (ZYq ad)) λf S=>ov S rfl (Zy S rfl rfl Ztl) λf S=>ov S rfl (ZVe S rfl (Zjv _)) λf S=>?_);have I:=ZGa C (Zr q).2.1;obtain⟨ao,ae⟩:∃ c,(List.take (Zf .u8).n (List.drop ((e).toNat*(Zf .u8).n) b))=c:=⟨_,rfl⟩;rw[ae]at I;obtain⟨rfl,ap⟩:=I;refine ov S rfl (Zbt S ZTq rfl rfl (Zr q).1 (ltI v (Zr q).2.2.1)) λf S=>?_;obtain⟨w,af,S⟩:=ZXc S k_sz5 (off:=0+(e).toNat*1) (z:=.int .u8 (IntKind.u8.wrap (IntKind.u64.wrap ((48:Int)+g)))) (cs:=[.int .u8 (IntKind.u8.wrap (IntKind.u64.wrap ((48:Int)+g)))]) (Z0c rfl) rfl (i:=0) rfl (Z5h S (j:=0) rfl (ltN v (Zr q).2.2.2)) (by first | rfl | simp[plain]);have ag:Rep.rels (Zf .u8) k (List.take (0+(e).toNat*1) b++[Value.int IntKind.u8 (IntKind.u8.wrap (IntKind.u64.wrap ((48:Int)+g)))]++List.drop (0+(e).toNat*1+1) b) (h.set (e).toNat (IntKind.u8.wrap (IntKind.u64.wrap ((48:Int)+g)))):=Zbf C (Zr q).2.2.2 (show Rep.rel (Zf .u8) k [.int .u8 (IntKind.u8.wrap (IntKind.u64.wrap ((48:Int)+g)))] _ from (ZO (Zjb _ _))) rfl rfl
   have ah:20=(h.set (e).toNat (IntKind.u8.wrap (IntKind.u64.wrap ((48:Int)+g)))).length:=setN v;refine Z7e wn rfl (af rfl rfl) (Zz (Zfd (Zh (ab _ _ (bO H λaq J H=>ZA (mv S rfl λf S=>ov S rfl (Zy S rfl rfl (ZLo J)) λf S=>mw S rfl λf S=>Zz ?_))))));obtain rfl:=Zv H;refine Y _ rfl _ _ ⟨_,_,_,(List.take (0+(e).toNat*1) b++[Value.int IntKind.u8 (IntKind.u8.wrap (IntKind.u64.wrap ((48:Int)+g)))]++List.drop (0+(e).toNat*1+1) b),_,rfl,F,(S.fr' rfl),ag,ah,(ZVo J),(Z7a G).2⟩
  have H:=Z3 H p;refine Zca S rfl p (wp_exit (Zxb ?_));obtain rfl:=Zv H;have hq:=Z _ rfl;subst hq;have H:=V;refine Zxb (Z2d ?_);obtain rfl:=Zv H;refine Zh (T _ _ ⟨_,_,b,_,rfl,(leT (leR _) F),(S.fr' rfl),C,v,X⟩)
 rintro f w ⟨l,m,B,t,hq,ar,S,ai,x,au⟩;subst hq;have H:=R;refine Zh (O _ _ (Zq λ_ aj=>bO H λav A H=>ZA (mv S rfl λf S=>ov S rfl (Zlw S ZTq rfl rfl (Zwf A).1 (by have:=(Zwf A).2.1;have:=x;omega)) λf S=>ov S rfl (Zvx S (j:=0) rfl ai x (by have:=(Zwf A).2.1;have:=(Zwf A).1;have:=x;omega) rfl Tryz.underlying94 Tryz.underlying5 Tryz.underlying9) λf S=>mw S rfl λf S=>Zz (Zh (aj _ _ (wp_ret ?_))))));obtain rfl:=Zv H;refine Zna S (Zib rfl (ZU S rfl)) ⟨[.string (Zg ((Zvd (l.drop ((m).toNat)))))],rfl,(Zbh (by have:=x;simp only[ZZu,List.length_drop];unfold maxLen;omega))⟩
theorem Zyu {b:World} {a:Zb} (hv:VIn a b) {c:List Value} {n:Int} (d:Rep.rel (Zf .u64) a c n) {z:(List UInt8)} (hm:ZMg n=some z) :
  Ret Tryz.prog 69 #[(Zf .u64).val c] b a (λy v'=>∃ e,y=Z5.val e∧Z5.rel v' e z) :=
 ZJx hv d (ZUu d.2 hm)
end Go.Eng
namespace Go.Proofs
open Go.Shelf
def Tryz.lays105_ren:Go.Shelf.Ren:=⟨fun | 105=>70 | 212=>106 | 99=>107 | 165=>51 | 166=>25 | 170=>108 | 169=>28 | 263=>139 | 264=>130 | 206=>140 | 240=>50 | 241=>94 | 276=>93 | 277=>126 | n=>n,fun | 9=>9 | 3=>3 | 4=>4 | 20=>20 | 0=>0 | 46=>185 | 109=>186 | 5=>5 | 72=>96 | 76=>99 | 51=>135 | 146=>213 | 53=>137 | 148=>182 | 70=>93 | 37=>94 | 75=>98 | 127=>130 | 164=>171 | 80=>61 | n=>n,fun | n=>n⟩
theorem Tryz.lays105:Go.Proofs.Lays.n105 Tryz.prog Tryz.lays105_ren:={
 mixed:=by kernel_rfl
 f99:=Tryz.func107.trans (congrArg some (by kernel_rfl))
 f105:=Tryz.func70.trans (congrArg some (by kernel_rfl))
 f165:=Tryz.func51.trans (congrArg some (by kernel_rfl))
 f166:=Tryz.func25.trans (congrArg some (by kernel_rfl))
 f169:=Tryz.func28.trans (congrArg some (by kernel_rfl))
 f170:=Tryz.func108.trans (congrArg some (by kernel_rfl))
 f206:=Tryz.func140.trans (congrArg some (by kernel_rfl))
 f212:=Tryz.func106.trans (congrArg some (by kernel_rfl))
 f240:=Tryz.func50.trans (congrArg some (by kernel_rfl))
 f241:=Tryz.func94.trans (congrArg some (by kernel_rfl))
 f263:=Tryz.func139.trans (congrArg some (by kernel_rfl))
 f264:=Tryz.func130.trans (congrArg some (by kernel_rfl))
 f276:=Tryz.func93.trans (congrArg some (by kernel_rfl))
 f277:=Tryz.func126.trans (congrArg some (by kernel_rfl))
 t0:=Tryz.underlying0
 a0:=Tryz.isAgg0
 z0:=Tryz.sizeOf0
 v0:=Tryz.zeroValue0
 t3:=Tryz.underlying3
 a3:=Tryz.isAgg3
 z3:=Tryz.sizeOf3
 v3:=Tryz.zeroValue3
 t4:=Tryz.underlying4
 a4:=Tryz.isAgg4
 z4:=Tryz.sizeOf4
 v4:=Tryz.zeroValue4
 t5:=Tryz.underlying5
 a5:=Tryz.isAgg5
 z5:=Tryz.sizeOf5
 v5:=Tryz.zeroValue5
 t9:=Tryz.underlying9
 a9:=Tryz.isAgg9
 z9:=Tryz.sizeOf9
 v9:=Tryz.zeroValue9
 t20:=Tryz.underlying20
 a20:=Tryz.isAgg20
 z20:=Tryz.sizeOf20
 v20:=Tryz.zeroValue20
 t37:=Tryz.underlying94
 a37:=Tryz.isAgg94
 z37:=Tryz.sizeOf94
 v37:=Tryz.zeroValue94
 t46:=Tryz.underlying185
 a46:=Tryz.isAgg185
 z46:=Tryz.sizeOf185
 v46:=Tryz.zeroValue185
 t51:=Tryz.underlying135
 a51:=Tryz.isAgg135
 z51:=Tryz.sizeOf135
 v51:=Tryz.zeroValue135
 t53:=Tryz.underlying137
 a53:=Tryz.isAgg137
 z53:=Tryz.sizeOf137
 v53:=Tryz.zeroValue137
 t70:=Tryz.underlying93
 a70:=Tryz.isAgg93
 z70:=Tryz.sizeOf93
 v70:=Tryz.zeroValue93
 t72:=Tryz.underlying96
 a72:=Tryz.isAgg96
 z72:=Tryz.sizeOf96
 v72:=Tryz.zeroValue96
 t75:=Tryz.underlying98
 a75:=Tryz.isAgg98
 z75:=Tryz.sizeOf98
 v75:=Tryz.zeroValue98
 t76:=Tryz.underlying99
 a76:=Tryz.isAgg99
 z76:=Tryz.sizeOf99
 v76:=Tryz.zeroValue99
 t109:=Tryz.underlying186
 a109:=Tryz.isAgg186
 z109:=Tryz.sizeOf186
 v109:=Tryz.zeroValue186
 t127:=Tryz.underlying130
 a127:=Tryz.isAgg130
 z127:=Tryz.sizeOf130
 v127:=Tryz.zeroValue130
 t146:=Tryz.underlying213
 a146:=Tryz.isAgg213
 z146:=Tryz.sizeOf213
 v146:=Tryz.zeroValue213
 t148:=Tryz.underlying182
 a148:=Tryz.isAgg182
 z148:=Tryz.sizeOf182
 v148:=Tryz.zeroValue182
 t164:=Tryz.underlying171
 a164:=Tryz.isAgg171
 z164:=Tryz.sizeOf171
 v164:=Tryz.zeroValue171 }
theorem Tryz.Builder_Extra_105:Builder.Extra Tryz.prog Tryz.lays105_ren:={
 sizeBuilder:=by kernel_rfl
 liesBuilder:=by kernel_rfl
 t5:=Tryz.underlying5
 a5:=Tryz.isAgg5
 z5:=Tryz.sizeOf5
 v5:=Tryz.zeroValue5
 infoByte:=by kernel_rfl
 cellsByte:=by kernel_rfl
 sizeByte:=by kernel_rfl
 neB5:=by decide }
end Go.Proofs
namespace Go.Eng
open Go.Proofs Go.RowKit Go.Shelf
theorem writes:ZIn Tryz.prog 25 96 5:=λB b bs s w h hl hB=>Any.Builder_WriteString { Tryz.lays105 with } Tryz.Builder_Extra_105 B b bs s w h hl hB
theorem tells:Tells Tryz.prog 28 96 5:=λB b l w h hB=>Any.Builder_String_any { Tryz.lays105 with } Tryz.Builder_Extra_105 B b l w h hB
end Go.Eng
namespace Go.Eng
open Go.Proofs Go.RowKit
theorem ZFw (l:List UInt8) (c:Nat):Lib.repeatL l c=(List.replicate c l).flatten:=by
 induction c with
 | zero=>rfl
 | succ c ih=>simp[Lib.repeatL,List.replicate_succ,ih]
theorem Znv {b:World} {a:Zb} (hv:VIn a b) {f:List Value} {s:List UInt8} (k:Rep.rel Z5 a f s) {g:List Value} {c:Int} (l:Rep.rel (Zf .i64) a g c) {z:List UInt8} (hm:ZCg s c=some z) :
  Ret Tryz.prog 70 #[Z5.val f,(Zf .i64).val g] b a (λy v'=>∃ h,y=Z5.val h∧Z5.rel v' h z):=by
 obtain⟨rfl,hs⟩:=k;obtain⟨rfl,hc⟩:=l;unfold ZCg at hm;split at hm
 ·rename_i hh
  cases hm
  obtain⟨C,rfl⟩:=oZ hh.1;have hc:=ZUa.1 hc;have d:=hh.2;rw[tN]at d;have:=Any.strings_Repeat Tryz.lays105 Tryz.Builder_Extra_105 (Zg s) C b (by omega) (by rw[Zkc];exact d);refine Calls.mono this λe w' ⟨i,j⟩=>?_;have m:(⟨(Lib.repeatL (Zg s).data.toList C).toArray⟩:ByteArray)=Zg (List.replicate C s).flatten:=by
   rw[ZFw];rfl
  rw[m]at i;exact⟨_,a,i,j,VStep.ext hv j,[.string (Zg (List.replicate C s).flatten)],rfl,rfl,by simp only[tN];rw[List.length_flatten];simp;unfold maxLen;rw[Nat.mul_comm]at d;omega⟩
 ·cases hm
theorem text_w {e:World} {c:Zb} (hv:VIn c e) {c0:List Value} {a:Nat} (p0:Rep.rel Zw c c0 a) {z:(List UInt8)} (H:Z2h a=some z):Ret Tryz.prog 37 #[Zw.val c0] e c (λy v'=>∃ r0,y=Z5.val r0∧Z5.rel v' r0 z):=by
 obtain⟨q1,n2,k3,rfl⟩:=ZAa p0;refine ZKb (K:=49) (args:=[.slice q1 n2 k3]) hv Tryz.func37 rfl rfl zl λf S=>?_;unfold Z2h at H;refine sr (mw S rfl λf S=>oe (sr ?_));have S:=S.nilLoc 9 1;refine ov S rfl (Zge S (y:=.slice (mkA none) 0 0) rfl) λf S=>oe (Zq λ_ ar=>?_);obtain⟨au,av,aw⟩:=ZZ H;refine Zkb (λf w=>∃ o F s G U I,o=au∧Zb.le c I∧St 49 e c [(3,.slice (mkA F) s G)] [Loc.own F 9 1 s G U] I f w∧Rep.rels Z5 I U o∧s=o.length) (λ_ ax=>?_) ?_
 ·have H:=av;refine wp_block ?_;obtain⟨bs,ay,az⟩:=ZZ H;refine ZVd ay (λaA f w=>∃ J g L M N p h q k t,(J,g)=aA∧Zb.le c t∧St 49 e c [(0,.slice L M N),(3,.slice (mkA p) h q)] [Loc.own p 9 1 h q k] t f w∧Rep.rel Zw t [.slice L M N] J∧Rep.rels Z5 t k g∧h=g.length) ⟨_,_,_,_,_,none,0,0,[],_,rfl,(leR _),(S.fr' rfl),p0,Zyf,rfl⟩ ?_;rintro _ f w st ⟨J,g,L,M,N,p,h,q,k,t,hq,ac,S,ad,d,ae⟩ H bt aB aC;subst hq;refine Zq λ_ aD=>sr (mv S rfl λf S=>ov S rfl (Zcc S (Z8a ad) rfl rfl Zfa) λf S=>ov S rfl (Zy S rfl rfl ZLg) λf S=>oe ?_);rcases Zaa (decide ((0:Int)<(((Zc 18446744073709551616 J)).length:Int))) with u | u
  ·have H:=Z7 H u;refine Zha S rfl u (wp_skip (Zh (aD _ _ (wp_block (Zq λ_ aE=>bO H λO aF H=>ZA (mv S rfl λf S=>opc S rfl (ZM S [.slice L M N,.int .u64 10000000000000000000] ZDn rfl rfl) (ZBs S.vin ad (show Rep.rel (Zf .u64) _ [.int .u64 10000000000000000000] (10000000000000000000:Int) from (ZO (by decide))) aF) ?_))))));rintro _ bu f w af ⟨bv,bw,rfl,m,aG⟩ S;have d:=ZN af d;obtain⟨aH,aI,aJ,rfl⟩:=ZAa m;obtain⟨rfl,aK⟩:=aG;refine mv S rfl λf S=>ov S rfl (Zja S rfl rfl) λf S=>ov S rfl (Zja S rfl rfl) λf S=>mw S rfl λf S=>mw S rfl λf S=>Zz (Zh (aE _ _ (Zq λ_ aL=>bO H λbx aM H=>ZA (mv S rfl λf S=>opc S rfl (ZM S [.int .u64 (O.2)] k_en69 rfl rfl) (Zyu S.vin (show Rep.rel (Zf .u64) _ [.int .u64 (O.2)] O.2 from (ZO aK)) aM) ?_))));rintro _ aN f w V ⟨bz,rfl,aO⟩ S;have d:=ZN V d;obtain⟨rfl,aP⟩:=aO;refine mw S rfl λf S=>Zz (Zh (aL _ _ (Zq λ_ aQ=>sr (mv S rfl λf S=>?_))));have m:=ZFa V m;refine ov S rfl (Zcc S (Z8a m) rfl rfl Zfa) λf S=>ov S rfl (Zy S rfl rfl ZLg) λf S=>oe ?_;obtain⟨aR,aS,aT⟩:=ZZ H;refine Zkb (λf w=>∃ b P,b=aR∧Zb.le aN P∧St 49 e c [(3,.slice (mkA p) h q),(4,.slice aH aI aJ),(6,.string (Zg b))] [Loc.own p 9 1 h q k] P f w∧b.length≤maxLen) (λ_ ag=>?_) ?_
   ·have H:=aS;rcases Zaa (decide ((0:Int)<(((Zc 18446744073709551616 O.1)).length:Int))) with v | v
    ·have H:=Z7 H v;refine Zha S rfl v (bO H λW ah H=>bO H λbA aU H=>bO H λbB ai H=>ZA (mv S rfl λf S=>ov S rfl (ZZr S rfl rfl Tryz.underlying9) λf S=>ov S rfl (Zy S rfl rfl (Zmb ah)) λf S=>opc S rfl (ZM S [.string (Zg (([48]:List UInt8))),.int .i64 W] k_en70 rfl rfl) (Znv S.vin (show Rep.rel Z5 _ [.string (Zg (([48]:List UInt8)))] (([48]:List UInt8)) from (Zbh zl)) (show Rep.rel (Zf .i64) _ [.int .i64 W] W from (ZO (Z7a ah).2)) aU) ?_));rintro _ bC f w aj ⟨bD,rfl,aV⟩ S;have d:=ZN aj d;obtain⟨rfl,bE⟩:=aV;refine mv S rfl λf S=>ov S rfl (ZRi S rfl rfl (ZOo ai)) λf S=>mw S rfl λf S=>Zz ?_;obtain rfl:=Zv H;refine Zh (ag _ _ ⟨_,_,rfl,(leT (leR _) aj),(S.fr' rfl),(ZAj ai)⟩)
    have H:=Z3 H v;refine Zca S rfl v (wp_skip ?_);obtain rfl:=Zv H;refine Zh (ag _ _ ⟨_,_,rfl,(leR _),(S.fr' rfl),aP⟩)
   rintro f w ⟨b,P,hq,X,S,aW⟩;subst hq;have H:=aT;have d:=ZN X d;refine Zh (aQ _ _ (bO H λbG aX H=>ZA (mv S rfl λf S=>mv S rfl λf S=>?_)));obtain⟨bH,w,aY,S⟩:=ZRf S (n:=1) (cs:=[.string (Zg b)]) (vals:=[(0,.string (Zg b))]) (sz:=1) rfl (by decide) (Zyn ZNo (x:=.string (Zg b)) (cs:=[.string (Zg b)]) rfl rfl (by decide));have Y:Rep.rels Z5 P [.string (Zg b)] [b]:=(Z2s (Zbh aW) Zyf);refine Zze wn rfl zl (aY rfl) S λf S=>?_;have aZ:=S;obtain⟨ak,al,w,a0,S⟩:=ZDj (ty:=64) ZNo S (i:=1) (n':=(g++[b]).length) rfl (Zme Y rfl) (ZNk S (j:=0) rfl) (ZOi Y) (appN ae rfl) (Zrd aX) (by decide);have a1:=ZQc d Y;refine Zze wn rfl zl (Zmd aZ rfl rfl a0) S λf S=>mv S rfl λf S=>mw S rfl λf S=>mw S rfl λf S=>Zz (Zfd ?_);obtain rfl:=Zv H;have S:=S.reorder (ℓ':=[Loc.own ak 9 1 ((g++[b]).length) al ((k++[.string (Zg b)]))]) [1] rfl (by decide);have m:=ZFa X m;refine aB _ rfl _ _ ⟨_,_,_,_,_,ak,(g++[b]).length,al,(k++[.string (Zg b)]),_,rfl,(leT (leT (leT ac af) V) X),(S.fr' rfl),m,a1,rfl⟩
  have H:=Z3 H u;refine Zca S rfl u (wp_exit (Zxb ?_));obtain rfl:=Zv H;have hq:=aC _ rfl;subst hq;have H:=az;refine Zxb (Z2d ?_);obtain rfl:=Zv H;refine Zh (ax _ _ ⟨_,p,h,q,k,_,rfl,(leT (leR _) ac),(S.fr' rfl),d,ae⟩)
 rintro f w ⟨o,F,s,G,U,I,hq,bI,S,a2,am⟩;subst hq;have H:=aw;refine Zh (ar _ _ (Zq λ_ a3=>sr (mv S rfl λf S=>ov S rfl (Zcc S am rfl rfl Ztm) λf S=>ov S rfl (Zy S rfl rfl Zch) λf S=>oe ?_)));rcases Zaa (((o.length:Int))==(0:Int)) with B | B
 ·have H:=Z7 H B;refine Zha S rfl B (sr (mw S rfl λf S=>oe (wp_ret (ZPb ?_))));obtain rfl:=Zv H;refine Zna S (Zib rfl (ZU S rfl)) ⟨[.string (Zg (([48]:List UInt8)))],rfl,(Zbh zl)⟩
 have H:=Z3 H B;refine Zca S rfl B (wp_skip (Zh (a3 _ _ (sr ?_))));obtain⟨an,bJ,S,C⟩:=S.pubSlice (i:=0) (A:=Z5) (l:=o) (ℓ':=[]) rfl rfl am a2 rfl;refine op_newB 5 S wn rfl zl (Zug k_zv96) λr f w S a4=>oe (Zq λ_ a5=>Zq λ_ a6=>bO H λbK ao H=>ZA (mv S rfl λf S=>ov S rfl (Zcc S (Z8a C) rfl rfl Ztm) λf S=>ov S rfl (Zy S rfl rfl (Zmb ao)) λf S=>mw S rfl λf S=>Zz (Zh (a6 _ _ ?_))));obtain⟨a7,a8,a9⟩:=ZZ H;refine Zkb (λf w=>∃ Q R,Q=a7∧Zb.le an R∧St 49 e c [(7,.pointer (some ⟨r,0,none⟩))] [] R f w∧Bld 96 5 r e R Q w) (λ_ ba=>?_) ?_
 ·have H:=a8;refine wp_block ?_;obtain⟨bM,bb,bc⟩:=ZZ H;refine ZVd bb (λbd f w=>∃ Z D T,(Z,D)=bd∧Zb.le an T∧St 49 e c [(3,.slice (mkA F) s G),(7,.pointer (some ⟨r,0,none⟩)),(8,.int .i64 D)] [] T f w∧Bld 96 5 r e T Z w∧inR .i64 D) ⟨_,_,_,rfl,(leR _),(S.fr' rfl),a4,(Z7a ao).2⟩ ?_;rintro _ f w st ⟨Z,D,T,hq,aa,S,ap,bP⟩ H bQ be bf;subst hq;refine Zq λ_ bg=>sr (mv S rfl λf S=>ov S rfl (Zy S rfl rfl ZNh) λf S=>oe ?_);rcases Zaa (decide ((0:Int)≤D)) with E | E
  ·have H:=Z7 H E;refine Zha S rfl E (wp_skip (Zh (bg _ _ (Zq λ_ bh=>wp_block (bO H λbi ab H=>bO H λbR bj H=>ZA (mv S rfl λf S=>mv S rfl λf S=>?_))))));have C:=ZFa aa C;obtain⟨_,bS,bT,bU,bk,bm,bn⟩:=Zbc C (Zr ab).2.1;obtain⟨rfl,rfl⟩:=Ztx bk;obtain⟨rfl,bV⟩:=bn;refine ov S rfl (Zqa S rfl rfl Ztm (Zr ab).1 (ltI (Z8a C) (Zr ab).2.2.1)) λf S=>ov S rfl (Znb S rfl k_sz9 (S.view bm)) λf S=>ZZw writes ap (Zru bj) S wn rfl zl (ZM S [.pointer (some ⟨r,0,none⟩),.string (Zg bi)] k_en25 rfl rfl) λf w S bo=>Zz (Zfd (Zh (bh _ _ (bO H λbW aq H=>ZA (mv S rfl λf S=>ov S rfl (Zy S rfl rfl (Zmb aq)) λf S=>mw S rfl λf S=>Zz ?_)))));obtain rfl:=Zv H;refine be _ rfl _ _ ⟨_,_,_,rfl,aa,(S.fr' rfl),bo,(Z7a aq).2⟩
  have H:=Z3 H E;refine Zca S rfl E (wp_exit (Zxb ?_));obtain rfl:=Zv H;have hq:=bf _ rfl;subst hq;have H:=bc;refine Zxb (Z2d ?_);obtain rfl:=Zv H;refine Zh (ba _ _ ⟨_,_,rfl,(leT (leR _) aa),(S.fr' rfl),ap⟩)
 rintro f w ⟨Q,R,hq,bX,S,bp⟩;subst hq;have H:=a9;refine Zh (a5 _ _ (Zq λ_ bq=>bO H λbY br H=>ZA (op_tell tells bp S wn rfl zl (ZM S [.pointer (some ⟨r,0,none⟩)] k_en28 rfl rfl) λf w S=>mw S rfl λf S=>Zz (Zh (bq _ _ (wp_ret ?_))))));obtain rfl:=Zv H;refine Zna S (Zib rfl (ZU S rfl)) ⟨[.string (Zg Q)],rfl,(Zbh (ZAj br))⟩
theorem text_c {c:World} {b:Zb} (hv:VIn b c) {d:List Value} {a:Nat} (f:Rep.rel Zw b d a) {z:(List UInt8)} (hm:ZFf a=some z) :
  Ret Tryz.prog 37 #[Zw.val d] c b (λy v'=>∃ e,y=Z5.val e∧Z5.rel v' e z) :=
 text_w hv f (Zmw hm)
noncomputable def ZUk:FuncId×Con:=(37,⟨[.leaf 0],[.str],λp=>ZFf p⟩)
theorem text_k:ZHd Tryz.prog ZUk.1 ZUk.2:=λw v vals x z hv ha hz=>by
 obtain⟨c0,e0,p0⟩:=ha;subst e0
 exact .inl ⟨λ_ _=>by kernel_rfl,Ret.mono (text_c hv p0 hz) λy v' _ ⟨r0,e,h0⟩=>⟨r0,e,h0⟩⟩
noncomputable def Z7m:FuncId×Con:=(15,⟨[.leaf 3],[.str],λp=>Zwd p⟩)
theorem Ztp:KQ Z7m:=Zs (ZI (C:=cf0 [ZUk] [] [] []) (.n (.n (.two (.n (.j [1] [] [.s 3 (.dat .str)] .no)) (.f (.n (.j [] [] [.s 3 (.dat .str)] .no)))))) Tryz.func15 [] (λv vals x z ha hz=>.trans (by kernel_rfl) (Zht hz)) ⟨text_k,tr⟩)
noncomputable def ZTn:FuncId×Con:=(5,⟨[],[.bool],λ_=>Z6h⟩)
theorem Zyx:KQ ZTn:=Zs (Z0 (C:=cf0 [Zbn,ZFq,Zkr,Z7m] [] [] []) (.n (.n (.n (.n (.f (.j [] [] [.s 0 (.dat .bool)] .no)))))) Tryz.func5 [] (λ_=>by kernel_rfl) ⟨Zto,ZRv,Reach_k,Ztp,tr⟩)
end Go.Eng
namespace Go.Proofs
open Go.Shelf
def Tryz.lays146_ren:Go.Shelf.Ren:=⟨fun | 146=>17 | 221=>40 | 268=>76 | 138=>77 | 143=>78 | 195=>112 | 197=>113 | 218=>114 | 219=>115 | 260=>141 | 217=>142 | 225=>143 | 224=>144 | 267=>145 | 266=>161 | 314=>162 | n=>n,fun | 9=>9 | 31=>64 | 3=>3 | 4=>4 | 0=>0 | 105=>192 | 21=>21 | 5=>5 | 46=>185 | 119=>220 | 139=>223 | 138=>222 | 146=>213 | 51=>135 | n=>n,fun | 1=>2 | 3=>4 | 4=>5 | n=>n⟩
theorem Tryz.lays146:Go.Proofs.Lays.n146 Tryz.prog Tryz.lays146_ren:={
 mixed:=by kernel_rfl
 f138:=Tryz.func77.trans (congrArg some (by kernel_rfl))
 f143:=Tryz.func78.trans (congrArg some (by kernel_rfl))
 f146:=Tryz.func17.trans (congrArg some (by kernel_rfl))
 f195:=Tryz.func112.trans (congrArg some (by kernel_rfl))
 f197:=Tryz.func113.trans (congrArg some (by kernel_rfl))
 f217:=Tryz.func142.trans (congrArg some (by kernel_rfl))
 f218:=Tryz.func114.trans (congrArg some (by kernel_rfl))
 f219:=Tryz.func115.trans (congrArg some (by kernel_rfl))
 f221:=Tryz.func40.trans (congrArg some (by kernel_rfl))
 f224:=Tryz.func144.trans (congrArg some (by kernel_rfl))
 f225:=Tryz.func143.trans (congrArg some (by kernel_rfl))
 f260:=Tryz.func141.trans (congrArg some (by kernel_rfl))
 f266:=Tryz.func161.trans (congrArg some (by kernel_rfl))
 f267:=Tryz.func145.trans (congrArg some (by kernel_rfl))
 f268:=Tryz.func76.trans (congrArg some (by kernel_rfl))
 f314:=Tryz.func162.trans (congrArg some (by kernel_rfl))
 t0:=Tryz.underlying0
 a0:=Tryz.isAgg0
 z0:=Tryz.sizeOf0
 v0:=Tryz.zeroValue0
 t3:=Tryz.underlying3
 a3:=Tryz.isAgg3
 z3:=Tryz.sizeOf3
 v3:=Tryz.zeroValue3
 t4:=Tryz.underlying4
 a4:=Tryz.isAgg4
 z4:=Tryz.sizeOf4
 v4:=Tryz.zeroValue4
 t5:=Tryz.underlying5
 a5:=Tryz.isAgg5
 z5:=Tryz.sizeOf5
 v5:=Tryz.zeroValue5
 t9:=Tryz.underlying9
 a9:=Tryz.isAgg9
 z9:=Tryz.sizeOf9
 v9:=Tryz.zeroValue9
 t21:=Tryz.underlying21
 a21:=Tryz.isAgg21
 z21:=Tryz.sizeOf21
 v21:=Tryz.zeroValue21
 t31:=Tryz.underlying64
 a31:=Tryz.isAgg64
 z31:=Tryz.sizeOf64
 v31:=Tryz.zeroValue64
 t46:=Tryz.underlying185
 a46:=Tryz.isAgg185
 z46:=Tryz.sizeOf185
 v46:=Tryz.zeroValue185
 t51:=Tryz.underlying135
 a51:=Tryz.isAgg135
 z51:=Tryz.sizeOf135
 v51:=Tryz.zeroValue135
 t105:=Tryz.underlying192
 a105:=Tryz.isAgg192
 z105:=Tryz.sizeOf192
 v105:=Tryz.zeroValue192
 t119:=Tryz.underlying220
 a119:=Tryz.isAgg220
 z119:=Tryz.sizeOf220
 t138:=Tryz.underlying222
 a138:=Tryz.isAgg222
 z138:=Tryz.sizeOf222
 v138:=Tryz.zeroValue222
 t139:=Tryz.underlying223
 a139:=Tryz.isAgg223
 z139:=Tryz.sizeOf223
 v139:=Tryz.zeroValue223
 t146:=Tryz.underlying213
 a146:=Tryz.isAgg213
 z146:=Tryz.sizeOf213
 v146:=Tryz.zeroValue213
 g1:=by kernel_rfl
 g3:=by kernel_rfl
 g4:=by kernel_rfl }
end Go.Proofs
namespace Go.Eng
open Go.Proofs Go.RowKit Go.Shelf
theorem Z4u {x c:UInt8} {r:List UInt8} (h:x≠c):Lib.index (x :: r) [c]=if Lib.index r [c] == -1 then -1 else Lib.index r [c]+1:=by
 have hp:([c]:List UInt8).isPrefixOf (x :: r)=false:=by simp[List.isPrefixOf,Ne.symm h]
 rw[Lib.index,hp];simp
theorem Zpo (c:UInt8):∀ l:List UInt8,Lib.splitK [c] 0 (l.count c) l=Zo c l
 | []=>rfl
 | x :: r=>by
  have ih:=Zpo c r
  unfold Zo
  by_cases h:x=c
  ·subst h
   rw[iP rfl,List.count_cons_self]
   have hi:Lib.index (x :: r) [x]=0:=by rw[Lib.index];simp[List.isPrefixOf]
   simp[Lib.splitK,hi,ih]
  ·rw[iN h,List.count_cons_of_ne (by simpa using h),← ih]
   cases hk:r.count c with
   | zero=>simp[Lib.splitK]
   | succ k =>
    have hne:Lib.index r [c] ≠ -1:=λe=>by
     have:=Lib.count_miss (sub:=[c]) e
     rw[Lib.count_one,hk]at this;cases this
    have hge:=Lib.index_ge r [c]
    obtain⟨j,hj⟩:∃ j:Nat,Lib.index r [c]=j:=⟨(Lib.index r [c]).toNat,by omega⟩
    have hx:Lib.index (x :: r) [c]=((j+1:Nat):Int):=by
     rw[Z4u h,iN (by simp[hne]),hj];omega
    simp[Lib.splitK,hx,hj];omega
theorem ZDi (c:UInt8) (l:List UInt8):(Lib.splitB ⟨#[c]⟩ 0 (Lib.countB (Zg l) ⟨#[c]⟩) (Zg l)).map (·.data.toList)=Zo c l:=by
 rw[Lib.splitB_data];show Lib.splitK [c] 0 (Lib.count l [c]) l=_;rw[Lib.count_one,Zpo]
theorem ZJt (b:ByteArray):b=Zg b.data.toList:=by cases b;simp[Zg]
set_option maxHeartbeats 1000000 in
theorem split_w (s:ByteArray) (c:UInt8) (w:World) (hs:s.size<4294967281):Calls Tryz.prog 17 #[.string s,.string ⟨#[c]⟩] w λe w' =>
  e = .returned (.slice (some ⟨w.heap.size,0,none⟩) (Lib.countB s ⟨#[c]⟩+1) (Lib.countB s ⟨#[c]⟩+1))∧w'=w.alloc (.cells ((Lib.splitB ⟨#[c]⟩ 0 (Lib.countB s ⟨#[c]⟩) s).map Value.string).toArray 9):=by
 have L:=Tryz.lays146;have h1:1≤(ByteArray.mk #[c]).size:=Nat.le_refl 1;have hle:=Lib.countB_le ⟨#[c]⟩ h1 s.size s (Nat.le_refl _);have hlen:=Lib.splitB_all ⟨#[c]⟩ h1 0 _ s rfl;have c0:=Any.strings_genSplit_core (P:=Tryz.prog) (ρ:=Tryz.lays146_ren) { L with } (by kernel_rfl) s ⟨#[c]⟩ 0 (-1) (Lib.countB s ⟨#[c]⟩+1) w hs h1 (Nat.zero_le _)
  (λx cc hx=>(Any.strings_Index_one { L with } x c _).mono λe w' ⟨he,hw⟩=>⟨by rw[he];show _=Ending.returned (Value.int .i64 (Lib.index x.data.toList [c]));rw[Lib.index_one],hw⟩)
  ((Any.strings_Count_one { L with } s c w).mono λe w' ⟨he,hw⟩=>⟨by rw[he];show _=Ending.returned (Value.int .i64 ((Lib.count s.data.toList [c]:Nat):Int));rw[Lib.count_one];rfl,hw⟩)
  (by decide) (by decide) (by rw[iP (by decide)];omega)
 rw[Nat.add_sub_cancel,hlen]at c0;have e2:Lib.cellsOf (Lib.splitB ⟨#[c]⟩ 0 (Lib.countB s ⟨#[c]⟩) s) (Lib.countB s ⟨#[c]⟩+1)=((Lib.splitB ⟨#[c]⟩ 0 (Lib.countB s ⟨#[c]⟩) s).map Value.string).toArray:=by rw[← hlen];exact Lib.cellsOf_full _
 rw[e2]at c0;have t3:=L.t3;have t9:=L.t9;have t31:=L.t31;have a3:=L.a3;have a9:=L.a9;have a31:=L.a31;have z3:=L.z3;have v3:=L.v3;have z9:=L.z9;have v9:=L.v9;have z31:=L.z31;have v31:=L.v31;have e221:∀ args w,(callFunc 40 args).run Tryz.prog w = .ok (.enter 40 args) w:=λ_ _=>by kernel_rfl
 go_enter Tryz.func17,Tryz.ntmps17
 go_wp2_with (go_at_fn 40;refine c0.mono ?_;rintro e w' ⟨rfl,hw⟩;rw[hw])
 go_ret
 exact⟨rfl,rfl⟩
noncomputable def ZRl:FuncId×Con:=(17,⟨[.str,.str],[.slice .str],λx=>Zbd x.1 x.2⟩)
theorem Z2p (v:Zb):∀ (l:List ByteArray),(∀ b ∈ l,b.data.toList.length≤maxLen)→Z5.rels v (l.map Value.string) (l.map (·.data.toList))
 | [],_=>rfl
 | b :: l,h=>⟨[.string b],l.map Value.string,rfl,⟨by rw[← ZJt],h b (by simp)⟩,Z2p v l λx hx=>h x (by simp[hx])⟩
theorem Zpp (c:UInt8):∀ l:List UInt8,∀ x ∈ Zo c l,x.length≤l.length
 | [],x,hx=>by simp[Zo]at hx;simp[hx]
 | y :: r,x,hx=>by
  have ih:=Zpp c r
  unfold Zo at hx
  split at hx
  ·rcases List.mem_cons.1 hx with rfl | hx
   ·simp
   ·have:=ih x hx;simp;omega
  ·split at hx
   ·simp at hx;subst hx;simp
   ·rename_i h t e
    rw[e]at ih
    rcases List.mem_cons.1 hx with rfl | hx
    ·have:=ih h (by simp);simp;omega
    ·have:=ih x (by simp[hx]);simp;omega
theorem Zkv {w:World} {v:Zb} (hv:VIn v w) (o:Obj):VStep w v (w.alloc o) (λk=>if k=w.heap.size then some o else v k):=by
 refine⟨λk x hk=>?_,λk x hk0=>?_,λk hk=>?_⟩
 ·have:=hv.lt hk;show (if k=w.heap.size then some o else v k)=_;rw[iN (by omega)];exact hk
 ·have hk:(if k=w.heap.size then some o else v k)=some x:=hk0;clear hk0;by_cases e:k=w.heap.size
  ·rw[iP e]at hk;subst e;cases hk;exact heap_alloc_new w _
  ·rw[iN e]at hk;exact (Ext.alloc w o).get (hv k x hk)
 ·exact iN (by omega)
theorem ZPt {s sep:List UInt8} {z:List (List UInt8)} (h:Zbd s sep=some z):∃ c,sep=[c]∧s.length<4294967281∧z=Zo c s:=by
 unfold Zbd at h;split at h
 ·rename_i c;split at h
  ·rename_i hl;cases h;exact⟨c,rfl,hl,rfl⟩
  ·cases h
 ·cases h
theorem Z6x {w:World} {v:Zb} {vals:List Value} {s sep:List UInt8} {z:List (List UInt8)} (hv:VIn v w) (ha:ZCa v [.str,.str] vals (s,sep)) (hz:Zbd s sep=some z) :
  ZE Tryz.prog 17∧Ret Tryz.prog 17 vals.toArray w v λy v'=>ZWc v' [.slice .str] y z:=by
 obtain⟨c,rfl,hlen,rfl⟩:=ZPt hz;obtain⟨c1,vs,rfl,⟨rfl,h1⟩,c2,rfl,rfl,h2⟩:=ha;have hsz:(Zg s).size=s.length:=Zkc s;have hcount:Lib.countB (Zg s) ⟨#[c]⟩+1=(Zo c s).length:=by
  rw[← ZDi,List.length_map,Lib.splitB_all ⟨#[c]⟩ (Nat.le_refl 1) 0 _ _ rfl]
 have hle:=Lib.countB_le ⟨#[c]⟩ (Nat.le_refl 1) (Zg s).size (Zg s) (Nat.le_refl _);refine⟨λ_ _=>by kernel_rfl,?_⟩;show Calls Tryz.prog 17 #[.string (Zg s),.string ⟨#[c]⟩] w _;refine Calls.mono (split_w (Zg s) c w (by omega)) λe w' ⟨he,hw⟩=>?_;subst hw;refine⟨_,_,he,Ext.alloc w _,Zkv hv _,?_⟩
 ·rw[hcount];have hml:(Zo c s).length≤maxLen:=by unfold maxLen;omega
  refine⟨[.slice (some ⟨w.heap.size,0,none⟩) (Zo c s).length (Zo c s).length],rfl,some ⟨w.heap.size,0,none⟩,(Zo c s).length,rfl,Nat.le_refl _,hml,.inr ⟨w.heap.size,0,_,9,(0,0),rfl,iP rfl,?_⟩⟩;have hr:=Z2p (λk=>if k=w.heap.size then some (Obj.cells ((Lib.splitB ⟨#[c]⟩ 0 (Lib.countB (Zg s) ⟨#[c]⟩) (Zg s)).map Value.string).toArray 9) else v k) (Lib.splitB ⟨#[c]⟩ 0 (Lib.countB (Zg s) ⟨#[c]⟩) (Zg s)) (λb hb=>by
   have hm:b.data.toList ∈ Zo c s:=by rw[← ZDi];exact List.mem_map.2 ⟨b,hb,rfl⟩
   have:=Zpp c s _ hm;have h1:s.length≤maxLen:=h1;omega)
  rw[ZDi]at hr;have hl:(List.drop 0 ((Lib.splitB ⟨#[c]⟩ 0 (Lib.countB (Zg s) ⟨#[c]⟩) (Zg s)).map Value.string).toArray.toList).take ((Zo c s).length*1)=(Lib.splitB ⟨#[c]⟩ 0 (Lib.countB (Zg s) ⟨#[c]⟩) (Zg s)).map Value.string:=by
   rw[List.drop_zero,Nat.mul_one];refine List.take_of_length_le ?_;rw[← ZDi];simp
  refine (show Rep.rels Z5 _ (List.take ((Zo c s).length*1) (List.drop 0 _)) _ from ?_);rw[hl];exact hr
theorem Zco:KQ ZRl:=λw v vals x z hv ha hz=>.inl (Z6x hv ha hz)
end Go.Eng

namespace Go.Eng
open Go.Proofs Go.RowKit
noncomputable def Zyo:FuncId×Con:=(79,⟨[.str],[.bool],λp=>Zrj p⟩)
theorem Zov:KQ Zyo:=Zs (Z0 (C:=cf0 [] [] [] []) (.n (.two (.f (.j [0] [] [.s 12 (.dat .bool)] .no)) (.f (.n (.cut ⟨⟨[],[],[]⟩,[(.norm,⟨[],[],[]⟩),(.ret,⟨[],[],[.s 1000 (.dat .bool)]⟩)]⟩ (.f (.cut ⟨⟨[14,15],[],[.s 16 (.dat (.int .i64))]⟩,[(.ret,⟨[],[],[.s 1000 (.dat .bool)]⟩),(.exit 0,⟨[],[],[]⟩)]⟩ (.f (.n (.n (.f (.f (.n (.f (.j [14,15,16] [] [.s 37 (.dat .bool)] .no))))))))))))))) Tryz.func79 [] (λ_=>by kernel_rfl))
noncomputable def ZQp:FuncId×Con:=(82,⟨[.str],[.bool],λp=>ZYi p⟩)
theorem isDo_k:KQ ZQp:=Zs (Z0 (C:=cf0 [] [] [] []) (.n (.two (.f (.j [0] [] [.s 12 (.dat .bool)] .no)) (.f (.n (.cut ⟨⟨[],[],[]⟩,[(.norm,⟨[],[],[]⟩),(.ret,⟨[],[],[.s 1000 (.dat .bool)]⟩)]⟩ (.f (.cut ⟨⟨[0,14,15],[],[.s 16 (.dat (.int .i64))]⟩,[(.ret,⟨[],[],[.s 1000 (.dat .bool)]⟩),(.exit 0,⟨[],[],[]⟩)]⟩ (.f (.n (.n (.f (.cut ⟨⟨[],[],[]⟩,[(.norm,⟨[0,14,15,16],[],[]⟩),(.ret,⟨[],[],[.s 1000 (.dat .bool)]⟩)]⟩ (.f (.n (.two (.f (.j [0,4,14,15,16] [] [.s 40 (.dat .bool)] .no)) (.f (.j [0,14,15,16] [] [.s 46 (.dat .bool)] .no))))))))))))))))) Tryz.func82 [] (λ_=>by kernel_rfl))
noncomputable def ZBr:FuncId×Con:=(41,⟨[.pair .str (.pair (.slice .str) (.slice (.pair (.int .i64) (.pair (.leaf 3) .str)))),.slice (.pair .str (.pair (.slice .str) (.slice (.pair (.int .i64) (.pair (.leaf 3) .str)))))],[.int .i64],λp=>Zjj p.1 p.2⟩)
theorem Zaw:KQ ZBr:=Zs (Z0 (C:=cf0 [ZSf,Zyo,ZQp] [] [] []) (.n (.two (.f (.n (.n (.two (.j [2] [] [.s 15 (.dat .bool)] .no) (.n (.f (.j [2] [] [.s 29 (.dat .bool)] .no))))))) (.two (.n (.f (.cut ⟨⟨[2,41,42],[],[.s 43 (.dat (.int .i64))]⟩,[(.exit 1,⟨[2],[],[]⟩),(.ret,⟨[],[],[.s 1000 (.dat (.int .i64))]⟩)]⟩ .no))) (.f (.n (.f (.cut ⟨⟨[52,53],[],[.s 54 (.dat (.int .i64))]⟩,[(.exit 3,⟨[],[],[]⟩),(.ret,⟨[],[],[.s 1000 (.dat (.int .i64))]⟩)]⟩ (.f (.n (.n (.f (.f (.n (.two (.j [8,52,53,54] [] [.s 9 (.dat .bool)] .no) (.f (.j [52,53,54] [] [.s 91 (.dat .bool)] .no)))))))))))))))) Tryz.func41 [(80,Tryz.f80,.no),(81,Tryz.f81,.no),(83,Tryz.f83,.r [] [] [.s 1000 (.dat (.int .i64))] (.n (.f (.n (.f (.cut ⟨⟨[0,1,7],[],[.s 8 (.dat (.int .i64))]⟩,[(.exit 0,⟨[],[],[]⟩),(.ret,⟨[],[],[.s 1000 (.dat (.int .i64))]⟩)]⟩ .no))))))] (λ_=>by kernel_rfl) ⟨Zkh,Zov,isDo_k,tr⟩ tr tr ⟨⟨Tryz.func80,λ_ _=>by kernel_rfl⟩,⟨Tryz.func81,λ_ _=>by kernel_rfl⟩,⟨Tryz.func83,λ_ _=>by kernel_rfl⟩,tr⟩)
noncomputable def Z1n:FuncId×Con:=(42,⟨[.one (.slice (.pair .str (.pair (.slice .str) (.slice (.pair (.int .i64) (.pair (.leaf 3) .str)))))),.str],[.int .i64],λp=>Zkk p.1 p.2⟩)
theorem pstep_k:KQ Z1n:=Zs (Z0 (C:=cf0 [] [] [] []) .no Tryz.func42 [(83,Tryz.f83,.r [] [] [.s 1000 (.dat (.int .i64))] (.n (.f (.n (.f (.cut ⟨⟨[0,1,7],[],[.s 8 (.dat (.int .i64))]⟩,[(.exit 0,⟨[],[],[]⟩),(.ret,⟨[],[],[.s 1000 (.dat (.int .i64))]⟩)]⟩ .no)))))),(84,Tryz.f84,.no)] (λ_=>by kernel_rfl) tr tr tr ⟨⟨Tryz.func83,λ_ _=>by kernel_rfl⟩,⟨Tryz.func84,λ_ _=>by kernel_rfl⟩,tr⟩)
noncomputable def Zas:FuncId×Con:=(18,⟨[.one (.slice (.pair .str (.pair (.slice .str) (.slice (.pair (.int .i64) (.pair (.leaf 3) .str))))))],[.int .i64],λp=>ZHi p⟩)
theorem Z4w:KQ Zas:=Zs (Z0 (C:=cf0 [ZBr,Z1n] [] [] []) (.n (.two (.f (.j [1] [] [.s 19 (.dat .bool)] .no)) (.two (.n (.f (.cut ⟨⟨[1,21,22],[],[.s 23 (.dat (.int .i64))]⟩,[(.exit 0,⟨[1],[],[]⟩),(.ret,⟨[],[],[.s 1000 (.dat (.int .i64))]⟩)]⟩ .no))) (.f (.n (.f (.cut ⟨⟨[1,39,40],[],[.s 41 (.dat (.int .i64))]⟩,[(.exit 2,⟨[],[],[]⟩),(.ret,⟨[],[],[.s 1000 (.dat (.int .i64))]⟩)]⟩ (.f (.n (.n (.f (.f (.n (.n (.f (.cut ⟨⟨[1,39,40,41,46,47],[],[.s 48 (.dat (.int .i64))]⟩,[(.exit 4,⟨[1,39,40,41],[],[]⟩),(.ret,⟨[],[],[.s 1000 (.dat (.int .i64))]⟩)]⟩ (.f (.n (.n (.f (.f (.n (.f (.j [1,39,40,41,46,47,48] [] [.s 66 (.dat .bool)] .no)))))))))))))))))))))))) Tryz.func18 [] (λ_=>by kernel_rfl) ⟨Zaw,pstep_k,tr⟩)
end Go.Eng
namespace Go.Eng
open Go.RowKit
def Zim (C:Cf) (inl:Inl) (fn:Func) (ann:Ann) (ty:TypeId) (c:CT) (ats:List T) (z:c.den) (x:ZD ats):Option (c.den×Bool):=match fn.body with
 | some cd=>match ZX 0 (.box ty c) z 0 1 with
  | (l,m)=>Zyb C (ZOg C inl 20) fn.results.toList m fn.ntmps cd [] _ ann (Zwc 0 0 (.cons (.ptr 0 0) (ZDd ats x))) l m ⟨endN fn (λcv l n=>bnd (endB ty c [] cv l n) λr=>some (r.1,true)),λi _ l n=>match Nat.beq i 999 with
   | true=>bnd (endB ty c [] .nl l n) λr=>some (r.1,false)
   | false=>none,λcv l n=>bnd (endB ty c [] cv l n) λr=>some (r.1,true)⟩
 | none=>none
theorem ZCu {C:Cf} (hC:CfOK C) {inl:Inl} (hinl:Zjd C inl) {f:FuncId} {fn:Func} {ann:Ann} {ty:TypeId} {c:CT} {ats:List T} {z:c.den} {x:ZD ats} {r:c.den×Bool} {p0:FuncId×List PanicEntry} (hpan:C.ex.pan=some p0) (hf:C.P.funcs[f]? = some fn) (hl:Nat.ble (ats.length+1) fn.ntmps=true) (h:Zim C inl fn ann ty c ats z x=some r)
  {w:World} {v:Zb} {b:Nat} {es:List Loc} {vals:List Value} (hv:VIn v w) (hz:CRL v (.box ty c) z (.box b) es) (hes:∀ e ∈ es,e.holds w∧∀ k,e.blk=some k→v k=none) (hnd:(es.filterMap Loc.blk).Nodup) (ha:ZCa v ats vals x) :
  Calls C.P f (Value.pointer (some ⟨b,0,none⟩) :: vals).toArray w λe w'=>e=(match r.2 with | true=>.returned (.tuple #[]) | false=>.panicked p0.2)∧∃ v2,ExtB ⟨w,es.filterMap Loc.blk⟩ w'∧VStepB ⟨w,es.filterMap Loc.blk⟩ v w' v2∧OwnB ty c [] b (r.1,()) (es.filterMap Loc.blk) w (.tuple #[]) v2 w':=by
 unfold Zim at h;split at h
 ·rename_i cd hc;obtain⟨k1,k2,k3,γ0,k4,k5⟩:=Z6j (hh:=0) (u:=0) (n:=1) hz (by omega) (by omega) (l2:=(ZX 0 (.box ty c) z 0 1).1) (n2:=(ZX 0 (.box ty c) z 0 1).2) rfl;have hkk:∀ e ∈ (ZX 0 (.box ty c) z 0 1).1,lkE (ZX 0 (.box ty c) z 0 1).1 e.k=some e:=λe he=>ZCb k3 he;obtain⟨E,hE,hpE⟩:=k5 γ0 _ λe he=>⟨rfl,hkk e he⟩;have hhd:∀ e,lkE (ZX 0 (.box ty c) z 0 1).1 0=some e→∃ xh,e.x = .box ty xh:=λe he=>by
   obtain⟨hm,hk0⟩:=Zk he;rcases (k2 e hm).1 with ⟨_,q⟩ | q
   ·exact q
   ·omega
  have h:Zyb C (ZOg C inl 20) fn.results.toList (ZX 0 (.box ty c) z 0 1).2 fn.ntmps cd [] _ ann (Zwc 0 0 (.cons (.ptr 0 0) (ZDd ats x))) (ZX 0 (.box ty c) z 0 1).1 (ZX 0 (.box ty c) z 0 1).2 _=some r:=h;generalize (ZX 0 (.box ty c) z 0 1).1=lI at k2 k3 hE hkk hhd h;generalize (ZX 0 (.box ty c) z 0 1).2=m at k1 k2 h;have hargs:RR v γ0 lI true (.cons (.ptr 0 0) (ZDd ats x)) (Value.pointer (some ⟨b,0,none⟩) :: vals):=by
   obtain⟨q1,q2,q3⟩:=Zfi (γ:=γ0) (l:=lI) (U:=(· < 0)) ha;refine⟨[.pointer (some ⟨b,0,none⟩)],vals,rfl,⟨_,rfl,rfl,λe he=>?_⟩,q1⟩;obtain⟨xh,hx⟩:=hhd e he;rw[hx];exact⟨b,k4,rfl⟩
  have hok:(V.cons (.ptr 0 0) (ZDd ats x)).ok (· < m):=⟨(show 0<m by omega),V.ok.mono (λk h=>absurd h (Nat.not_lt_zero k)) (Zfi (γ:=γ0) (l:=lI) (U:=(· < 0)) ha).2.1⟩;have hlen:=(Zfi (γ:=γ0) (l:=lI) (U:=(· < 0)) ha).2.2;have hK:vals.length+1≤fn.ntmps:=by rw[hlen];exact lB hl
  refine calls_of_wp hf hc ?_;have hS:=St.enter (K:=fn.ntmps) hv (Value.pointer (some ⟨b,0,none⟩) :: vals) (by simpa using hK);have hlent:∀ e ∈ es,∀ k,e.blk=some k→k ∈ es.filterMap Loc.blk:=λe he k hk=>List.mem_filterMap.2 ⟨e,he,hk⟩;have hr:RelX fn.ntmps (λx y=>x = .ptr 0 0∧y = .pointer (some ⟨b,0,none⟩)) ⟨w,es.filterMap Loc.blk⟩ v (· < m) (· < m) (Zwc 0 0 (.cons (.ptr 0 0) (ZDd ats x))) lI { tmps:=(Value.pointer (some ⟨b,0,none⟩) :: vals).toArray++Array.replicate (fn.ntmps-(Value.pointer (some ⟨b,0,none⟩) :: vals).toArray.size) undef,defers:=[] } w γ0 v es:=by
   refine⟨⟨hS.size,hS.dfr,λt x h=>(by cases h),ExtB.refl ⟨w,es.filterMap Loc.blk⟩,⟨Zb.le_refl _,hv,λ_ _ _=>rfl⟩,λe he=>⟨(hes e he).1,λk hk=>⟨.inr (hlent e he k hk),(hes e he).2 k hk⟩⟩,hnd⟩,λt e he=>?_,⟨E,hE,hpE⟩,k3,λt e he=>?_,λe he=>?_,λx y hg=>?_⟩
   ·obtain⟨y,q1,q2,q3,q4,q5⟩:=Zee hargs hok he;have:=hS.fr t y ?_
    ·rw[this];exact q3
    ·have:=ZQk (k:=0) (t:=t) (y:=y) (by simpa using q2)
     rwa [Nat.zero_add]at this
   ·obtain⟨y,q1,q2,q3,q4,q5⟩:=Zee hargs hok he;exact⟨q4,by show e.st<m;omega⟩
   ·obtain⟨q1,q2,q3,q4⟩:=k2 e he;refine⟨?_,q3,q4⟩;rcases q1 with ⟨q1,_⟩ | q1
    ·show e.k<m;omega
    ·exact q1.2
   ·obtain⟨rfl,rfl⟩:=hg;obtain⟨c1,xs1,q1,q2,q3⟩:=hargs;obtain⟨yy,rfl,q4⟩:=q2;have q1:Value.pointer (some ⟨b,0,none⟩)=yy:=(List.cons.inj q1).1;subst q1;exact⟨⟨_,⟨_,rfl,q4⟩,rfl⟩,(show 0<m by omega)⟩
  have fin:∀ {r0:c.den×ZD []} {cv:V} {l':Lo} {n':Nat} {a':Act} {w':World} {γ':Nat→Gh} {v':Zb} {ℓ':List Loc} {vals':List Value},endB ty c [] cv l' n'=some r0→m≤n'→RelX fn.ntmps (λx y=>x = .ptr 0 0∧y = .pointer (some ⟨b,0,none⟩)) ⟨w,es.filterMap Loc.blk⟩ v (· < n') (· < n') [] l' a' w' γ' v' ℓ'→RR v' γ' l' true cv vals'→cv.ok (· < n') →
    ∃ v2,ExtB ⟨w,es.filterMap Loc.blk⟩ w'∧VStepB ⟨w,es.filterMap Loc.blk⟩ v w' v2∧OwnB ty c [] b r0 (es.filterMap Loc.blk) w (ZFe vals') v2 w':=by
   intro r0 cv l' n' a' w' γ' v' ℓ' vals' hx hmn hr' hcv hck;have h1:=Zhd hx;have hr1:RelX fn.ntmps (λx y=>x = .ptr 0 0∧y = .pointer (some ⟨b,0,none⟩)) ⟨w,es.filterMap Loc.blk⟩ v (· < n') (· < n'+1) [] l' a' w' γ' v' ℓ':=hr'.mono (λ_ h=>h) λk h=>(show k<n'+1 by have:k<n':=h;omega);obtain⟨y,l1,γ1,v1,ℓ1,h2,r1,le1,q1⟩:=Zfe (U:=(· < n')) (X:=(· < n'+1)) (Nat.lt_irrefl n') (Nat.lt_succ_self n') h1 hr1 hck;obtain⟨z2,l2,γ2,v2,ℓ2,es2,e0,h3,r2,hst,le2,hcrl,he0,hnone,hhead⟩:=Ztk (U:=(· < n')) (X:=(· < n'+1)) (Nat.lt_irrefl n') (Nat.lt_succ_self n') (ex:=[]) (show 0<n' by omega) h2 r1 r1.st;have h3:some (z2,y)=some r0:=h3
   cases h3
   have hst:St fn.ntmps ⟨w,es.filterMap Loc.blk⟩ v [] (es2++ℓ2) v2 a' w':=hst;obtain⟨b2,c1,e1,hg,hcr,hpl,hes2⟩:=hcrl;have hbb:b2=b:=by
    obtain⟨⟨cs,⟨yy,rfl,_,hy⟩,hyy⟩,_⟩:=r1.gh _ _ ⟨rfl,rfl⟩;have hyy:Value.pointer (some ⟨b,0,none⟩)=yy:=hyy;subst hyy;obtain⟨xh,hxh⟩:=hhead;have hy:=hy _ he0;rw[hxh]at hy;obtain⟨b3,t1,t2⟩:=hy;rw[hg]at t1;cases t1;cases t2;rfl
   subst hbb;refine⟨v2,hst.ext,hst.vst,ZXs (ZIi le2.v (q1 _ hcv)),es2,⟨b2,c1,e1,rfl,hcr,hpl,hes2⟩,λe he=>?_,?_⟩
   ·exact hst.loc e (List.mem_append_left _ he)
   ·have:=hst.nd;rw[List.filterMap_append]at this;exact (List.nodup_append.1 this).1
  have bare:∀ {f':Fr} {l':Lo} {n':Nat} {a':Act} {w':World} {γ':Nat→Gh} {v':Zb} {ℓ':List Loc},RelX fn.ntmps (λx y=>x = .ptr 0 0∧y = .pointer (some ⟨b,0,none⟩)) ⟨w,es.filterMap Loc.blk⟩ v (· < n') (· < n') f' l' a' w' γ' v' ℓ'→RelX fn.ntmps (λx y=>x = .ptr 0 0∧y = .pointer (some ⟨b,0,none⟩)) ⟨w,es.filterMap Loc.blk⟩ v (· < n') (· < n') [] l' a' w' γ' v' ℓ':=λhr' =>
   ⟨⟨hr'.st.size,hr'.st.dfr,λt x h=>(by cases h),hr'.st.ext,hr'.st.vst,hr'.st.loc,hr'.st.nd⟩,λt e he=>(by cases he),hr'.lr,hr'.nd,λt e he=>(by cases he),hr'.ul,hr'.gh⟩
  refine ZXk hC (Zjq hC hinl 20) cd h ⟨_,_,_,hr⟩ ⟨λf' l' n' a' w' hp hn' ho' hr'=>?_,λi f' l' n' a' w' hp hn' ho' hr'=>?_,λcv l' n' a' w' hp hn' ho' hr'=>?_⟩
  ·unfold endN at hp;split at hp
   ·rename_i hres;obtain⟨⟨z0,u0⟩,hp0,hp1⟩:=ZZ hp
    cases hp1
    obtain⟨γ',v',ℓ',hr'⟩:=hr';obtain⟨v2,t1,t2,t3⟩:=fin hp0 hn' (bare hr') (vals':=[]) rfl trivial;exact⟨hr'.st.dfr,_,Zei (vals:=[]) (by rw[hres];exact trivial),rfl,v2,t1,t2,t3⟩
   ·cases hp
  ·simp only at hp;split at hp
   ·rename_i hi;obtain⟨⟨z0,u0⟩,hp0,hp1⟩:=ZZ hp
    cases hp1
    obtain⟨γ',v',ℓ',hr'⟩:=hr';obtain⟨v2,t1,t2,t3⟩:=fin hp0 hn' (bare hr') (vals':=[]) rfl trivial;unfold Qx xo;rw[hpan];simp only[hi];exact⟨hr'.st.dfr,rfl,v2,t1,t2,t3⟩
   ·cases hp
  ·obtain⟨⟨z0,u0⟩,hp0,hp1⟩:=ZZ hp
   cases hp1
   have hcv:cv = .nl:=by
    unfold endB at hp0
    cases cv <;> first | rfl | (simp only[ZVc,ZBa]at hp0;cases hp0)
   subst hcv;obtain⟨γ',v',ℓ',vals',hr',hc',hk',hres⟩:=hr';obtain⟨v2,t1,t2,t3⟩:=fin hp0 hn' hr' hc' hk';have hv':vals'=[]:=hc';subst hv';exact⟨hr'.st.dfr,_,Zei hres,rfl,v2,t1,t2,t3⟩
 ·cases h
structure ConX where
 ty:TypeId
 c:CT
 args:List T
 F:c.den→ZD args→Option (c.den×Bool)
def ZHs (P:Program) (f:FuncId) (c:ConX) (ps:List PanicEntry):Prop:=∀ (w:World) (v:Zb) (b:Nat) (es:List Loc) (vals:List Value) (z:c.c.den) (x:ZD c.args) (r:c.c.den×Bool),VIn v w→CRL v (.box c.ty c.c) z (.box b) es→(∀ e ∈ es,e.holds w∧∀ k,e.blk=some k→v k=none)→(es.filterMap Loc.blk).Nodup→ZCa v c.args vals x→c.F z x=some r →
 ZE P f∧Calls P f (Value.pointer (some ⟨b,0,none⟩) :: vals).toArray w λe w'=>e=(match r.2 with | true=>.returned (.tuple #[]) | false=>.panicked ps)∧∃ v2,ExtB ⟨w,es.filterMap Loc.blk⟩ w'∧VStepB ⟨w,es.filterMap Loc.blk⟩ v w' v2∧OwnB c.ty c.c [] b (r.1,()) (es.filterMap Loc.blk) w (.tuple #[]) v2 w'
theorem conx_z {f:FuncId} {ty:TypeId} {c:CT} {ats:List T} {F:c.den→ZD ats→Option (c.den×Bool)} {p0:FuncId×List PanicEntry} {C:Cf} (ann:Ann) {fn:Func} (hf:C.P.funcs[f]? = some fn) (inl:Inl) (hm0:Zkj C.P p0.1 p0.2) (h:∀ z x,Zim C inl fn ann ty c ats z x=F z x) (hp0:C.ex.pan=some p0:=by rfl) (hc:CL C.P C.cons:=by exact tr) (ho:OL C.P C.owns:=by exact tr) (hm:ML C.P C.meths:=by exact tr) (hn:NL C.P inl:=by exact tr)
  (hq:QL C.P C.omats:=by exact tr) (hb:BL C.P C.boxs:=by exact tr) (hd:DL C.P C.dels:=by exact tr) (hpo:PL C.P C.pows:=by exact tr) (hsl:SL C.P C.sls:=by exact tr) (hi:IL C.P C.ins:=by exact tr) (hen:ZE C.P f:=by exact λ_ _=>by kernel_rfl) (hl:Nat.ble (ats.length+1) fn.ntmps=true:=by exact rfl):ZHs C.P f ⟨ty,c,ats,F⟩ p0.2 :=
 λ_ _ _ _ _ z x r hv hz hes hnd ha hF=>⟨hen,ZCu (CfOK.of hc ho hi hm hq hb hd hpo hsl (by unfold Zjf;rw[hp0];exact hm0)) (Zjd.of hn) hp0 hf hl ((h z x).trans hF) hv hz hes hnd ha⟩
end Go.Eng
namespace Go.Eng
open Go.Proofs Go.RowKit
def pan0:FuncId×List PanicEntry:=(71,[{ v:=.iface 26 (.int .i64 2),recovered:=false }])
theorem must_t (w:World):Calls Tryz.prog 71 #[.bool true] w λe w'=>e = .returned (.tuple #[])∧w'=w:=by
 go_enter Tryz.func71,Tryz.ntmps71
 go_wp2
 exact⟨rfl,.tuple #[],by first | rfl | simp[results],rfl,rfl⟩
theorem must_f (w:World):Calls Tryz.prog 71 #[.bool false] w λe w'=>e = .panicked [{ v:=.iface 26 (.int .i64 2),recovered:=false }]∧w'=w:=by
 go_enter Tryz.func71,Tryz.ntmps71
 go_wp2
 exact⟨rfl,rfl,rfl⟩
theorem must_k:Zkj Tryz.prog pan0.1 pan0.2:=⟨λ_ _=>by kernel_rfl,must_t,must_f⟩
noncomputable def Zks:FuncId×Con:=(27,⟨[.int .i64],[.str],λp=>Z7i p⟩)
theorem ZOv:KQ Zks:=Zs (Z0 (C:=cf0 [] [] [] []) .no Tryz.func27 [] (λ_=>by kernel_rfl))
noncomputable def Zxo:FuncId×Con:=(72,⟨[.str,.str],[.str,.bool],λp=>Ztj p.1 p.2⟩)
theorem Zpw:KQ Zxo:=Zs (Z0 (C:=cf0 [] [] [] []) .no Tryz.func72 [(109,Tryz.f109,.r [] [] [.s 1000 (.dat .str),.s 1001 (.dat .bool)] .no),(140,Tryz.f140,.n (.f (.j [] [] [.s 4 (.dat .bool)] .no)))] (λ_=>by kernel_rfl) tr tr tr ⟨⟨Tryz.func109,λ_ _=>by kernel_rfl⟩,⟨Tryz.func140,λ_ _=>by kernel_rfl⟩,tr⟩)
noncomputable def Zsr:FuncId×Con:=(110,⟨[.str,.bool],[.str,.str,.bool],λp=>Z5g p.1 p.2⟩)
theorem xscan_k:KQ Zsr:=Zs (Z0 (C:=cf0 [] [] [] []) (.n (.n (.two (.f (.l [0,1] [] [.s 7 (.dat (.int .i64))] 0 [0,1] [] [.s 7 (.dat (.int .i64))] (.f (.f (.f (.j [0,1,7] [] [.s 23 (.dat .bool)] .no)))))) (.f (.j [] [] [.s 4 (.dat .str),.s 5 (.dat .str),.s 6 (.dat .bool)] .no))))) Tryz.func110 [] (λ_=>by kernel_rfl))
noncomputable def ZVq:FuncId×Con:=(111,⟨[.str],[.leaf 0],λp=>ZVf p⟩)
theorem Zvt:KQ ZVq:=Zs (Z0 (C:=cf0 [Zaf,ZIe,ZRm] [] [] []) (.n (.n (.f (.f (.l [] [] [.s 0 (.dat .str),.s 3 (.dat (.leaf 0))] 0 [] [] [.s 3 (.dat (.leaf 0))] (.f (.n (.f (.n (.n (.n (.f (.n (.f (.l [0,3,4,18,19] [] [.s 5 (.dat (.int .u64)),.s 6 (.dat (.int .u64)),.s 20 (.dat (.int .i64))] 2 [0,3,4] [] [.s 5 (.dat (.int .u64)),.s 6 (.dat (.int .u64))] .no))))))))))))))) Tryz.func111 [] (λ_=>by kernel_rfl) ⟨Zhi,Zkf,Zpr,tr⟩)
noncomputable def Zvq:FuncId×Con:=(75,⟨[.str],[.leaf 3,.int .i64],λp=>Zqk p⟩)
theorem ZHv:KQ Zvq:=Zs (Z0 (C:=cf0 [Zaf,ZTg,Zwe,ZIe,Zsr,ZVq] [] [] []) (.n (.n (.two (.j [0,2] [] [.s 4 (.dat .bool)] .no) (.two (.n (.j [2,4] [] [.s 0 (.dat .str)] .no)) (.n (.n (.n (.f (.n (.cut ⟨⟨[],[],[]⟩,[(.ret,⟨[],[],[.s 1000 (.dat (.leaf 3)),.s 1001 (.dat (.int .i64))]⟩),(.norm,⟨[2,4],[],[.s 5 (.dat .str),.s 8 (.dat (.leaf 0))]⟩)]⟩ (.f (.n (.n (.two (.f (.j [2,4,5,8,9,10] [] [.s 64 (.dat .bool)] .no)) (.n (.j [2,4] [] [.s 5 (.dat .str),.s 8 (.dat (.leaf 0))] (.n (.n (.n (.f (.l [2,4,5,74] [] [.s 8 (.dat (.leaf 0)),.l (.sl 74) .it] 0 [2,4,5] [] [.s 8 (.dat (.leaf 0))] (.f (.f (.j [2,4,5,8,74] [] [.s 76 (.dat .bool),.l (.sl 74) .it] .no)))))))))))))))))))))))) Tryz.func75 [] (λ_=>by kernel_rfl) ⟨Zhi,Zgk,ZZf,Zkf,xscan_k,Zvt,tr⟩)
noncomputable abbrev cfx (c:List (FuncId×Con)) (m:List Nat) (o:List (FuncId×ConO)) (s:List ((TypeId×String)×FuncId)) (q:List (FuncId×ConM)) (b:List (FuncId×ConB)) (d:List (FuncId×ConD)) (p:List (FuncId×ConP)) (sl:List (FuncId×ConS)):Cf:=⟨Tryz.prog,lf,c,m,o,[],s,⟨p,q,b,d,sl,some pan0⟩⟩
noncomputable def pread_q:ConX:=⟨25,(.agg (.one (.lst 72 9 77 (.pair (.int .i64) (.pair (.leaf 3) .str))))),[.str],λz x=>Zpf z x⟩
theorem pread_k:ZHs Tryz.prog 39 pread_q pan0.2:=conx_z (C:=cfx [ZRl,Zks,Zxo,Zvq] [600036,600037] [] [] [] [] [] [] []) .no Tryz.func39 [(73,Tryz.f73,.r [] [] [.s 1000 (.dat (.int .i64))] (.n (.f (.n (.f (.cut ⟨⟨[0,1,7],[],[.s 8 (.dat (.int .i64))]⟩,[(.exit 0,⟨[],[],[]⟩),(.ret,⟨[],[],[.s 1000 (.dat (.int .i64))]⟩)]⟩ .no)))))),(74,Tryz.f74,.no)] must_k (fun | none,_=>by kernel_rfl | some _,_=>by kernel_rfl) rfl ⟨Zco,ZOv,Zpw,ZHv,tr⟩ tr tr ⟨⟨Tryz.func73,λ_ _=>by kernel_rfl⟩,⟨Tryz.func74,λ_ _=>by kernel_rfl⟩,tr⟩
theorem ta_yes (w:World):(Instr.typeAssert (.iface 26 (.int .i64 2)) 20 26 true).run Tryz.prog w = .ok (.tuple #[.int .i64 2,.bool true]) w:=by kernel_rfl
theorem ta_no (w:World):(Instr.typeAssert .nilIface 20 26 true).run Tryz.prog w = .ok (.tuple #[.int .i64 0,.bool false]) w:=by kernel_rfl
theorem catch_p (p:Addr) (x:Int) (w:World) (hc:w.cell? p=some (.int .i64 x)) (hz:w.frozen? p=false) :
  CallsD Tryz.prog 38 #[.pointer (some p)] (.panicking [{ v:=.iface 26 (.int .i64 2),recovered:=false }]) w λe u' w' =>
   e = .returned (.tuple #[])∧u' = .panicking [{ v:=.iface 26 (.int .i64 2),recovered:=true }]∧w'=w.setCell p (.int .i64 2):=by
 refine callsD_of_wpS Tryz.func38 rfl λc₀ cs hu=>?_;apply wpS_seq;apply wpS_region;simp[wpOpsS,go_sem,recoverD,hu,Tryz.ntmps38,Exit.thenS,ta_yes,Result.andThen];apply wpS_seq;apply wpS_region;simp[wpOpsS,go_sem,recoverD,hu,Tryz.ntmps38,Exit.thenS];refine wpS_cond (t:=true) (by simp[Act.eval,Array.replicate]) ?_;simp only[if_true];apply wpS_region;simp[wpOpsS,go_sem,hc,hz,bodyPostS,results]
theorem catch_i (p:Addr) (w:World) :
  CallsD Tryz.prog 38 #[.pointer (some p)] .returning w λe u' w'=>e = .returned (.tuple #[])∧u' = .returning∧w'=w:=by
 refine callsD_of_wpS Tryz.func38 rfl λc₀ cs hu=>?_;apply wpS_seq;apply wpS_region;simp[wpOpsS,go_sem,recoverD,hu,Tryz.ntmps38,Exit.thenS,ta_no,Result.andThen];apply wpS_seq;apply wpS_region;simp[wpOpsS,go_sem,recoverD,hu,Tryz.ntmps38,Exit.thenS];refine wpS_cond (t:=false) (by simp[Act.eval,Array.replicate]) ?_;simp only[Bool.false_eq_true,if_false];refine wpS_of_wp (wp_skip ?_)
 cases c₀
 simp_all[bodyPostS,results]
abbrev lstC:CT:=.agg (.one (.lst 72 9 77 (.pair (.int .i64) (.pair (.leaf 3) .str))))
def dm:Act:=⟨#[],[]⟩
def Zpd (w:World) (b:Nat) (v:Zb) (z:PSt) (W:World):Prop:=∃ v' es',St 0 ⟨w,[b]⟩ v [] (.box w.heap.size 26 [.int .i64 0] :: es') v' dm W∧CRL v' (.box 25 lstC) z (.box b) es'
theorem Zav {w W:World} {b:Nat} {v:Zb} {z:PSt} {s:List UInt8} {y:PSt×Bool} (hI:Zpd w b v z W) (hs:s.length≤maxLen) (hm:Zpf z s=some y) :
  Calls Tryz.prog 39 #[.pointer (some ⟨b,0,none⟩),.string (Zg s)] W λe W'=>e=(match y.2 with | true=>.returned (.tuple #[]) | false=>.panicked pan0.2)∧Zpd w b v y.1 W':=by
 obtain⟨v',es',hS,hC⟩:=hI;have hS':St 0 ⟨w,[b]⟩ v [] es' v' dm W:=hS.drop (List.sublist_cons_self _ _);have hnd:(es'.filterMap Loc.blk).Nodup:=hS'.nd;have hbe:=hS.loc _ List.mem_cons_self;have hlen:∀ k ∈ es'.filterMap Loc.blk,k<W.heap.size∧(w.heap.size≤k∨k ∈ [b])∧k≠w.heap.size:=λk hk=>by
  obtain⟨e,he,hke⟩:=List.mem_filterMap.1 hk;obtain⟨h1,h2⟩:=hS'.loc e he;obtain⟨o,ho⟩:=Loc.blk_get h1 hke;refine⟨Z9b ho,(h2 k hke).1,λe'=>?_⟩;have:=hS.nd;simp only[List.filterMap_cons,Loc.blk]at this;exact (List.nodup_cons.1 this).1 (e' ▸ hk)
 obtain⟨_,hc⟩:=pread_k W v' b es' [.string (Zg s)] z s y hS'.vst.vin hC (λe he=>⟨(hS'.loc e he).1,λk hk=>((hS'.loc e he).2 k hk).2⟩) hnd ⟨[.string (Zg s)],rfl,rfl,hs⟩ hm;refine Calls.mono hc λe W' ⟨he,v2,x1,x2,x3⟩=>⟨he,?_⟩;obtain⟨_,es2,y1,y2,y3⟩:=x3;have hbl:w.heap.size<W.heap.size:=by obtain⟨o,ho⟩:=Loc.blk_get hbe.1 rfl;exact Z9b ho
 have hbn:w.heap.size ∉ es'.filterMap Loc.blk:=λhk=>(hlen _ hk).2.2 rfl;refine⟨v2,es2,⟨rfl,rfl,λt x h=>(by cases h),?_,?_,λe he=>?_,?_⟩,y1⟩
 ·exact⟨x1.os.trans hS.ext.os,x1.tape.trans hS.ext.tape,x1.output.trans hS.ext.output,Nat.le_trans hS.ext.size x1.size,λk hk hn=>(x1.block k (Nat.lt_of_lt_of_le hk hS.ext.size) λh=>by
   rcases (hlen k h).2.1 with h' | h'
   ·exact absurd hk (Nat.not_lt.2 h')
   ·exact hn h').trans (hS.ext.block k hk hn)⟩
 ·exact⟨Zb.le_trans hS.vst.le x2.le,x2.vin,λk hk hn=>(x2.old k (Nat.lt_of_lt_of_le hk hS.ext.size) λh=>by
   rcases (hlen k h).2.1 with h' | h'
   ·exact absurd hk (Nat.not_lt.2 h')
   ·exact hn h').trans (hS.vst.old k hk hn)⟩
 ·rcases List.mem_cons.1 he with rfl | he
  ·refine⟨?_,λk hk=>?_⟩
   ·show _=_;rw[x1.block _ hbl hbn];exact hbe.1
   ·cases hk
    exact⟨.inl (Nat.le_refl _),(x2.old _ hbl hbn).trans (hbe.2 _ rfl).2⟩
  ·obtain⟨h1,h2⟩:=y2 e he;refine⟨h1,λk hk=>⟨?_,(h2 k hk).2⟩⟩;rcases (h2 k hk).1 with h' | h'
   ·exact .inl (Nat.le_trans hS.ext.size h')
   ·exact (hlen k h').2.1
 ·simp only[List.filterMap_cons,Loc.blk];refine List.nodup_cons.2 ⟨λhk=>?_,y3⟩;obtain⟨e,he,hke⟩:=List.mem_filterMap.1 hk;rcases ((y2 e he).2 _ hke).1 with h' | h'
  ·omega
  ·exact hbn h'
theorem ZJq {w W:World} {b:Nat} {v:Zb} {z:PSt} (hI:Zpd w b v z W):W.cell? ⟨w.heap.size,0,none⟩=some (.int .i64 0)∧W.frozen? ⟨w.heap.size,0,none⟩=false∧W.setCell ⟨w.heap.size,0,none⟩ (.int .i64 0)=W:=by
 obtain⟨v',es',hS,_⟩:=hI;have h:W.heap[w.heap.size]? = some (.cells #[.int .i64 0] 26 (0,0)):=(hS.loc _ List.mem_cons_self).1;refine⟨by simp[World.cell?,h],by simp[World.frozen?,h],?_⟩;have:(W.setCell ⟨w.heap.size,0,none⟩ (.int .i64 0)).heap=W.heap:=by
  apply Array.ext_getElem?;intro i;simp only[World.setCell];rw[Array.getElem?_modify];split
  ·next e=>subst e;rw[h];rfl
  ·rfl
 show ({ W with heap:=(W.setCell ⟨w.heap.size,0,none⟩ (.int .i64 0)).heap }:World)=W;rw[this]
theorem ZEk {v:Zb} {q:Option Addr} {n cap:Nat} {l:List (List UInt8)} (h:(ZF Z5).rel v [.slice q n cap] l):l.length≤maxLen:=by
 obtain⟨_,_,_,h1,h2⟩:=ZJn h;omega
theorem Zsm (W:World) (k b:Nat) (x:Value) (h:k≠b):(W.setCell ⟨b,0,none⟩ x).heap[k]? = W.heap[k]?:=by
 simp only[World.setCell];rw[Array.getElem?_modify,iN (Ne.symm h)]
theorem ZGv (W:World) (b:Nat) (x:Value):(W.setCell ⟨b,0,none⟩ x).heap.size=W.heap.size:=by simp[World.setCell]
theorem Zfv {W W2:World} {e:Loc} (h:∀ k,e.blk=some k→W2.heap[k]? = W.heap[k]?) (hh:e.holds W):e.holds W2:=by
 cases e with
 | box b T cs=>exact (h b rfl).trans hh
 | own q T sz n cap cs=>cases q with
  | none=>exact hh
  | some b=>obtain⟨h1,cur,h2,h3⟩:=hh;exact⟨h1,cur,(h b rfl).trans h2,h3⟩
 | mp b l=>obtain⟨es,c,h1,h2⟩:=hh;exact⟨es,c,(h b rfl).trans h1,h2⟩
 | it b s p=>exact (h b rfl).trans hh
theorem Z7s {w W:World} {b:Nat} {v:Zb} {z:PSt} (hI:Zpd w b v z W) (x:Value):(W.setCell ⟨w.heap.size,0,none⟩ x).cell? ⟨w.heap.size,0,none⟩=some x∧∃ v' es',St 0 ⟨w,[b]⟩ v [] es' v' dm (W.setCell ⟨w.heap.size,0,none⟩ x)∧CRL v' (.box 25 lstC) z (.box b) es':=by
 obtain⟨v',es',hS,hC⟩:=hI;have h:W.heap[w.heap.size]? = some (.cells #[.int .i64 0] 26 (0,0)):=(hS.loc _ List.mem_cons_self).1;have hvn:v' w.heap.size=none:=((hS.loc _ List.mem_cons_self).2 _ rfl).2;have hnd:=hS.nd;simp only[List.filterMap_cons,Loc.blk]at hnd;obtain⟨hn1,hn2⟩:=List.nodup_cons.1 hnd;refine⟨?_,v',es',⟨rfl,rfl,λt x h=>(by cases h),?_,?_,?_,hn2⟩,hC⟩
 ·have:(W.setCell ⟨w.heap.size,0,none⟩ x).heap[w.heap.size]? = some (.cells #[x] 26 (0,0)):=by
   simp only[World.setCell];rw[Array.getElem?_modify,iP rfl,h];rfl
  simp[World.cell?,this]
 ·exact⟨hS.ext.os,hS.ext.tape,hS.ext.output,by rw[ZGv];exact hS.ext.size,λk hk hn=>(Zsm _ _ _ _ (by show k≠w.heap.size;have:k<w.heap.size:=hk;omega)).trans (hS.ext.block k hk hn)⟩
 ·refine⟨hS.vst.le,λk o hk=>(Zsm _ _ _ _ (λe=>?_)).trans (hS.vst.vin k o hk),hS.vst.old⟩;rw[e,hvn]at hk;cases hk
 ·intro e he;obtain⟨h1,h2⟩:=hS.loc e (List.mem_cons_of_mem _ he);exact⟨Zfv (λk hk=>Zsm _ _ _ _ λe'=>hn1 (e' ▸ List.mem_filterMap.2 ⟨e,he,hk⟩)) h1,h2⟩
theorem ZAw {w:World} {v:Zb} {b:Nat} (hv:VIn v w) (hb:w.heap[b]? = some (.cells #[.slice none 0 0] 25 (0,0))) (hvb:v b=none):Zpd w b v none (w.alloc (.cells #[.int .i64 0] 26)):=by
 have hbl:b<w.heap.size:=Z9b hb;have hx:Ext w (w.alloc (.cells #[.int .i64 0] 26)):=Ext.alloc w _;refine⟨v,[.box b 25 [.slice none 0 0]],⟨rfl,rfl,λt x h=>(by cases h),?_,?_,?_,?_⟩,?_⟩
 ·exact (ExtB.refl _).trans hx
 ·exact⟨Zb.le_refl _,λk o hk=>hx.get (hv k o hk),λ_ _ _=>rfl⟩
 ·intro e he;rcases List.mem_cons.1 he with rfl | he
  ·refine⟨?_,λk hk=>?_⟩
   ·show (w.alloc (.cells #[.int .i64 0] 26)).heap[w.heap.size]? = _;exact Array.getElem?_push_size
   ·cases hk;exact⟨.inl (Nat.le_refl _),hv.none (Nat.le_refl _)⟩
  ·rcases List.mem_cons.1 he with rfl | he
   ·refine⟨hx.get hb,λk hk=>?_⟩
    cases hk;exact⟨.inr (by simp),hvb⟩
   ·cases he
 ·simp[Loc.blk];omega
 ·exact⟨b,_,[],rfl,.inl ⟨rfl,rfl,rfl⟩,rfl,rfl⟩
theorem Z3t (w:World) (v:Zb) (b:Nat) {q:Option Addr} {n cap:Nat} {lines:List (List UInt8)} {z':PSt} {at' er:Int} (hv:VIn v w) (hb:w.heap[b]? = some (.cells #[.slice none 0 0] 25 (0,0))) (hvb:v b=none) (hl:(ZF Z5).rel v [.slice q n cap] lines) (hm:ZHb lines 0 none=some (z',at',er)) :
  Calls Tryz.prog 16 #[.pointer (some ⟨b,0,none⟩),.slice q n cap] w λe W=>e = .returned (.tuple #[.int .i64 at',.int .i64 er])∧∃ v' es',St 0 ⟨w,[b]⟩ v [] es' v' dm W∧CRL v' (.box 25 lstC) z' (.box b) es':=by
 have hmf:∀ (fn:Fn) (first cap:Array Value) (w:World),(Instr.makeFunc fn first cap).run Tryz.prog w = .ok (.func fn first cap) w:=λ_ _ _ _=>rfl
 go_enter_defers Tryz.func16,Tryz.ntmps16
 go_wp2
 obtain rfl:=Z8a hl;have he:∀ {W:World} {z:PSt} {k:Nat} {s:List UInt8},Zpd w b v z W→lines[k]? = some s→∃ c o,q=some ⟨c,o,none⟩∧W.cell? ⟨c,o+k,none⟩=some (.string (Zg s))∧s.length≤maxLen:=by
  intro W z k s ⟨v',es',hS,_⟩ hk;obtain⟨_,c,o,cs,e1,hA,hr⟩:=Zbc hl hk;refine⟨c,o,e1,?_,hr.2⟩;have hW:=hS.view (hA.mono hS.vst.le);rw[hr.1]at hW;have:=hW.cell (j:=0) rfl
  simpa [Z5] using this
 have hmA:Aside (ZHb lines 0 none=some (z',at',er)):=hm;clear hm
 go_loopg [4,11] lines.length (λgk t4 t11 wr=>∃ (k:Nat) (z:PSt) (p:Int),Aside (k≤lines.length∧gk=lines.length-k∧Zpd w b v z wr∧ZHb (lines.drop k) k z=some (z',at',er))∧t11 = .int .i64 k∧t4 = .int .i64 p)
 case atStart =>
  exact⟨0,none,0,⟨Nat.zero_le _,rfl,ZAw hv hb hvb,hmA⟩,rfl,rfl⟩
 case round =>
  obtain⟨k,z,p,hA,rfl,rfl⟩:=hrel;obtain⟨hbe1,hbe2,hbe3⟩:=ZJq hA.out.2.2.1;by_cases hk:k<lines.length
  ·obtain⟨s,hs⟩:∃ s,lines[k]? = some s:=⟨_,List.getElem?_eq_getElem hk⟩;obtain⟨c,o,rfl,hce,hsl⟩:=he hA.out.2.2.1 hs;have hdr:lines.drop k=s :: lines.drop (k+1):=by
    obtain⟨h1,h2⟩:=List.getElem?_eq_some_iff.1 hs;rw[List.drop_eq_getElem_cons h1,h2]
   have hk64:wrap64 ((k:Int)+1)=(k:Int)+1:=by
    have:=ZEk hl;unfold wrap64 maxLen at *;omega
   have hk64':Value.int .i64 (wrap64 ((k:Int)+1)) = .int .i64 ((k+1:Nat):Int):=by rw[hk64];rfl
   clear hl;by_cases h0:s=[]∨s.head? = some 35
   ·have hN:Aside (k+1≤lines.length∧lines.length-(k+1)<gk∧Zpd w b v z wr∧ZHb (lines.drop (k+1)) (k+1) z=some (z',at',er)):=by
     obtain⟨g1,g2,g3,g4⟩:=hA.out;rw[hdr,ZHb,iP h0]at g4;exact⟨hk,by omega,g3,g4⟩
    clear hA he hs hmA hdr;rcases h0 with rfl | h0
    ·have e0:Zg []=⟨#[]⟩:=rfl;rw[e0]at hce
     go_wp2
     go_roundg (lines.length-(k+1))
     case measure=>exact hN.out.2.1
     exact⟨k+1,z,_,⟨hN.out.1,rfl,hN.out.2.2⟩,hk64',rfl⟩
    ·obtain⟨x,r,rfl⟩:∃ x r,s=x :: r:=by cases s with
      | nil=>cases h0
      | cons x r=>exact⟨x,r,rfl⟩
     obtain rfl:x=35:=by simpa using h0
     have f1:¬ (Zg (35 :: r)).toList=[]:=by rw[ZKi];exact List.cons_ne_nil _ _
     have f2:0<(Zg (35 :: r)).size:=by simp[Zg,ByteArray.size]
     have f3:(Zg (35 :: r))[0]=35:=rfl;clear h0;generalize Zg (35 :: r)=S at *
     go_wp2
     go_roundg (lines.length-(k+1))
     case measure=>exact hN.out.2.1
     exact⟨k+1,z,_,⟨hN.out.1,rfl,hN.out.2.2⟩,hk64',rfl⟩
   ·obtain⟨x,r,rfl⟩:∃ x r,s=x :: r:=by cases s with
      | nil=>exact absurd (.inl rfl) h0
      | cons x r=>exact⟨x,r,rfl⟩
    have hx:x≠35:=λe=>h0 (.inr (by rw[e];rfl));have hN:∃ y,Zpf z (x :: r)=some y∧Aside (k+1≤lines.length∧lines.length-(k+1)<gk∧(y.2=true→ZHb (lines.drop (k+1)) (k+1) y.1=some (z',at',er))∧(y.2=false→y.1=z'∧((k:Nat):Int)+1=at'∧er=2)):=by
     obtain⟨g1,g2,g3,g4⟩:=hA.out;rw[hdr,ZHb,iN h0]at g4;obtain⟨y,hy,g4⟩:=ZZ g4;refine⟨y,hy,hk,by omega,λe=>?_,λe=>?_⟩
     ·rwa [iP e]at g4
     ·rw[iN (by rw[e];decide)]at g4
      cases g4
      exact⟨rfl,by simp,rfl⟩
    obtain⟨⟨y1,y2⟩,hy,hN⟩:=hN;have hcall:=Zav (b:=b) (v:=v) hA.out.2.2.1 hsl hy;clear hA he hs hmA hdr h0 hy;have f1:¬ (Zg (x :: r)).toList=[]:=by rw[ZKi];exact List.cons_ne_nil _ _
    have f1':(Zg (x :: r)).toList.isEmpty=false:=by cases h:(Zg (x :: r)).toList with
     | nil=>exact absurd h f1
     | cons _ _=>rfl
    have f2:0<(Zg (x :: r)).size:=by simp[Zg,ByteArray.size]
    have f3:(Zg (x :: r))[0]=x:=rfl;have f4:((x.toNat:Int) != 35)=true:=by simp;exact λe=>hx (UInt8.toNat.inj (by exact_mod_cast e))
    generalize Zg (x :: r)=S at *
    cases y2 with
    | true =>
     have hcall':Calls Tryz.prog 39 #[.pointer (some ⟨b,0,none⟩),.string S] wr λe W'=>e = .returned (.tuple #[])∧Zpd w b v y1 W':=hcall;clear hcall
     go_wp2_with (refine Calls.mono hcall' ?_;rintro e w' ⟨rfl,hI⟩)
     go_wp2
     go_roundg (lines.length-(k+1))
     case measure=>exact hN.out.2.1
     exact⟨k+1,y1,_,⟨hN.out.1,rfl,hI,hN.out.2.2.1 trivial⟩,hk64',rfl⟩
    | false =>
     have hcall':Calls Tryz.prog 39 #[.pointer (some ⟨b,0,none⟩),.string S] wr λe W'=>e = .panicked pan0.2∧Zpd w b v y1 W':=hcall;clear hcall
     go_wp2_with (refine Calls.mono hcall' ?_;rintro e w' ⟨rfl,hI⟩)
     obtain⟨hb1,hb2,_⟩:=ZJq hI;obtain⟨hs1,hs2⟩:=Z7s hI (.int .i64 2);refine leaves_cons (f:=38) (args:=#[.pointer (some ⟨w.heap.size,0,none⟩)]) (by simp) (by simp[go_sem]) ?_;refine (catch_p ⟨w.heap.size,0,none⟩ 0 _ hb1 hb2).mono ?_;rintro e u' w'' ⟨rfl,rfl,rfl⟩;obtain⟨q1,q2,q3⟩:=hN.out.2.2.2 trivial;subst q1 q2 q3;simp[Leaves,settle,results,go_sem,hs1];exact hs2
  ·clear hl;obtain⟨hz0,hat,her⟩:z=z'∧at'=0∧er=0:=by
    obtain⟨g1,g2,g3,g4⟩:=hA.out;rw[List.drop_eq_nil_of_le (by omega),ZHb]at g4
    cases g4
    exact⟨rfl,rfl,rfl⟩
   subst hz0 hat her;have hout:=(Z7s hA.out.2.2.1 (.int .i64 0)).2;rw[hbe3]at hout
   go_wp2
   refine leaves_cons (f:=38) (args:=#[.pointer (some ⟨w.heap.size,0,none⟩)]) (by simp) (by simp[go_sem]) ?_;refine (catch_i ⟨w.heap.size,0,none⟩ _).mono ?_;rintro e u' w'' ⟨rfl,rfl,rfl⟩;simp[Leaves,settle,results,go_sem,hbe1,hbe2];exact hout
noncomputable def ZJp:FuncId×ConB:=(16,⟨25,.agg (.one (.dat (.leaf 7))),[.slice .str],[.int .i64,.int .i64],λz x=>Znn z x⟩)
theorem Z5v {K:Nat} {w0:Base} {v0 v:Zb} {b:Nat} {z:PSt} {es:List Loc} {a:Act} {w:World} (hS:St K w0 v0 [] es v a w) (hC:CRL v (.box 25 lstC) z (.box b) es) :
  ∃ v' cs,v.le v'∧St K w0 v0 [] [.box b 25 cs] v' a w∧Zen.rel v' cs (Z9a z):=by
 obtain⟨b',c1,e1,hb,hc,_,rfl⟩:=hC
 cases hb
 rcases hc with ⟨rfl,rfl,rfl⟩ | ⟨l,x,b1,cap,d,d0,o1,o2,k1,k2,d1,d2,rfl,rfl,h1,h2,h3,h4,rfl⟩
 ·exact⟨v,_,Zb.le_refl _,hS,λ_=>rfl,Zhg _ _⟩
 ·obtain⟨v1,hv1,hS1,r1⟩:=hS.pubSlice (i:=2) (A:=Z5) (l:=x.2.1) (ℓ':=[.box b 25 [.slice (mkA (some b1)) (l.length+1) cap],.own (some b1) 72 3 (l.length+1) cap (d++(d0++[.slice (mkA o1) x.2.1.length k1,.slice (mkA o2) x.2.2.length k2])),.own o2 77 (T.pair (.int .i64) (.pair (.leaf 3) .str)).n x.2.2.length k2 d2]) rfl rfl rfl h3 rfl;obtain⟨v2,hv2,hS2,r2⟩:=hS1.pubSlice (i:=2) (A:=(T.pair (.int .i64) (.pair (.leaf 3) .str)).rep) (l:=x.2.2) (ℓ':=[.box b 25 [.slice (mkA (some b1)) (l.length+1) cap],.own (some b1) 72 3 (l.length+1) cap (d++(d0++[.slice (mkA o1) x.2.1.length k1,.slice (mkA o2) x.2.2.length k2]))]) rfl rfl rfl (ZN hv1 h4) rfl;have hx:rStepD.rel v2 (d0++[.slice (mkA o1) x.2.1.length k1,.slice (mkA o2) x.2.2.length k2]) x :=
   ⟨d0,_,rfl,Rep.mono _ (Zb.le_trans hv1 hv2) h2,[_],_,rfl,Rep.mono _ hv2 r1,r2⟩
  obtain⟨v3,hv3,hS3,r3⟩:=hS2.pubSlice (i:=1) (A:=rStepD) (l:=l++[x]) (ℓ':=[.box b 25 [.slice (mkA (some b1)) (l.length+1) cap]]) rfl rfl (show l.length+1=(l++[x]).length from (@lA _ l [x]).symm) (ZFl (ZN (Zb.le_trans hv1 hv2) h1) hx) rfl;exact⟨v3,_,Zb.le_trans (Zb.le_trans hv1 hv2) hv3,hS3,λh=>absurd (show l++[x]=[] from h) (List.append_ne_nil_of_right_ne_nil _ (List.cons_ne_nil _ _)),r3⟩
theorem Z5o:∀ (ls:List (List UInt8)) (k:Nat) (z:PSt) {z':PSt} {a e:Int},ZHb ls k z=some (z',a,e)→(a=0∧e=0)∨((k:Int)+1≤a∧a≤k+ls.length∧e=2)
 | [],k,z,z',a,e,h=>by cases h;exact .inl ⟨rfl,rfl⟩
 | s :: r,k,z,z',a,e,h=>by
  have ih:=λz=>Z5o r (k+1) z (z':=z') (a:=a) (e:=e)
  have hl:((s :: r).length:Int)=r.length+1:=by simp
  rw[ZHb]at h
  split at h
  ·rcases ih z h with h | ⟨h1,h2,h3⟩
   ·exact .inl h
   ·exact .inr ⟨by omega,by omega,h3⟩
  ·obtain⟨y,hy,h⟩:=ZZ h
   split at h
   ·rcases ih _ h with h | ⟨h1,h2,h3⟩
    ·exact .inl h
    ·exact .inr ⟨by omega,by omega,h3⟩
   ·cases h
    exact .inr ⟨by omega,by omega,rfl⟩
theorem Z6s {x:List (List UInt8)} {y:PSt×Int×Int} (h:ZHb x 0 none=some y) (hx:x.length≤maxLen):inR .i64 y.2.1∧inR .i64 y.2.2:=by
 obtain⟨z',a,e⟩:=y;unfold maxLen at hx;show inR .i64 a∧inR .i64 e;rcases Z5o x 0 none h with ⟨e1,e2⟩ | ⟨e1,e2,e3⟩
 ·rw[e1,e2];decide
 ·rw[e3];exact⟨ZUa.2 ⟨by omega,by omega⟩,by decide⟩
theorem ZWw:KB ZJp:=by
 intro w v b es vals z x r hv hC hes hnd ha hF;obtain⟨b',c1,e1,hb,hc,_,rfl⟩:=hC
 cases hb
 have hz:z=[]:=by
  cases z with
  | nil=>rfl
  | cons a r=>cases hF
 subst hz;obtain⟨ys,hys,hF⟩:=ZZ hF
 cases hF
 obtain⟨q1,q2⟩:=hc;obtain⟨rfl,q2⟩:c1=[.slice none 0 0]∧e1=[]:=⟨q1.1 rfl,q2⟩;subst q2;obtain⟨cs,rfl,hl⟩:=ha;obtain⟨q,n,cap,rfl⟩:=slice_n hl;obtain⟨h1,h2⟩:=hes _ List.mem_cons_self;refine⟨λ_ _=>by kernel_rfl,?_⟩;refine Calls.mono (Z3t w v b hv h1 (h2 b rfl) hl hys) λe W ⟨he,v1,es1,hS,hC⟩=>?_;obtain⟨v2,cs,hv2,hS2,hr⟩:=Z5v hS hC;have h3:=hS2.loc _ List.mem_cons_self;refine⟨_,v2,he,hS2.ext,hS2.vst,?_,[.box b 25 cs],⟨b,cs,[],rfl,⟨hr,rfl⟩,Zen.flat hr,rfl⟩,?_,by simp[Loc.blk]⟩
 ·refine⟨[.int .i64 ys.2.1,.int .i64 ys.2.2],rfl,[_],_,rfl,⟨rfl,?_⟩,[_],rfl,⟨rfl,?_⟩⟩
  ·exact (Z6s hys (ZEk hl)).1
  ·exact (Z6s hys (ZEk hl)).2
 ·intro e he
  cases List.mem_singleton.1 he
  exact⟨h3.1,λk hk=>h3.2 k hk⟩
noncomputable def Z9o:FuncId×Con:=(6,⟨[.str],[.one (.slice (.pair .str (.pair (.slice .str) (.slice (.pair (.int .i64) (.pair (.leaf 3) .str)))))),.int .i64,.int .i64],λp=>Zvi p⟩)
theorem Zvv:KQ Z9o:=Zs (Z0 (C:=cf1 [ZRl,Zas] [] [] [] [] [ZJp] []) .no Tryz.func6 [] (λ_=>by kernel_rfl) ⟨Zco,Z4w,tr⟩ tr tr tr tr ⟨ZWw,tr⟩)
noncomputable def Zmo:FuncId×Con:=(43,⟨[.str],[.slice .str],λp=>Zpi p⟩)
theorem ZBu:KQ Zmo:=Zs (Z0 (C:=cf0 [] [] [] []) (.n (.n (.n (.f (.n (.f (.cut ⟨⟨[0],[],[.s 3 (.own 9 .str),.s 4 (.dat (.int .i64)),.s 5 (.dat (.int .i64))]⟩,[(.exit 0,⟨[],[],[.s 3 (.own 9 .str)]⟩),(.ret,⟨[],[],[.s 1000 (.dat (.slice .str))]⟩)]⟩ (.f (.n (.f (.cut ⟨⟨[],[],[]⟩,[(.ret,⟨[],[],[.s 1000 (.dat (.slice .str))]⟩),(.norm,⟨[0,5],[],[.s 3 (.own 9 .str),.s 4 (.dat (.int .i64))]⟩)]⟩ (.f (.f (.f (.j [0,3,4,5] [] [.s 22 (.dat .bool)] .no))))))))))))))) Tryz.func43 [] (λ_=>by kernel_rfl))
noncomputable def Zml:FuncId×Con:=(29,⟨[.int .i64],[.str],λp=>ZWf p⟩)
theorem Z6q:KQ Zml:=Zs (Z0 (C:=cf0 [] [] [] []) .no Tryz.func29 [] (λ_=>by kernel_rfl))
noncomputable def Zcl:FuncId×Con:=(54,⟨[.leaf 1,.leaf 1],[.int .i64],λp=>Zne p.1 p.2⟩)
theorem Zds:KQ Zcl:=Zs (ZI (C:=cf2 [(78,1),(80,4)] []) (.n (.n (.n (.f (.n (.cut ⟨⟨[],[],[]⟩,[(.norm,⟨[],[],[]⟩),(.ret,⟨[],[],[.s 1000 (.dat (.int .i64))]⟩)]⟩ (.f (.cut ⟨⟨[0,1],[],[.s 5 (.dat (.int .i64))]⟩,[(.ret,⟨[],[],[.s 1000 (.dat (.int .i64))]⟩),(.exit 0,⟨[],[],[]⟩)]⟩ .no)))))))) Tryz.func54 [] (λv vals x z ha hz=>by obtain⟨c0,w0,e0,p0,c1,e1,p1⟩:=ha;exact .trans (by kernel_rfl) ((Zgv (ZVs p0) (ZVs p1)).trans hz)))
noncomputable def Z5d:FuncId×Con:=(125,⟨[.slice (.int .u32)],[.leaf 1],λp=>Zfb p⟩)
theorem ZJe:KQ Z5d:=Zs (Z0j (C:=cf2 [] []) (.n (.n (.f (.j [0] [] [.s 3 (.dat (.int .i64))] (.f (.l [0] [] [.s 3 (.dat (.int .i64))] 0 [0] [] [.s 3 (.dat (.int .i64))] (.f (.f (.f (.j [0,3] [] [.s 15 (.dat .bool)] .no)))))))))) Tryz.func125 [] [.slice (.int .u32)] [.slice (.int .u32)] (λx=>(x)) (λz=>(Zc 4294967296 z)) (λv vals x z ha hz=>by obtain⟨c0,e0,p0⟩:=ha;exact .trans (by kernel_rfl) (by cases hz;exact (rcut_eq (Zem p0).1 (Zem p0).2))))
noncomputable def Zik:FuncId×Con:=(92,⟨[.int .u64],[.leaf 1],λp=>Zoc p⟩)
theorem ZTm:KQ Zik:=Zs (ZI (C:=cf2 [(78,1),(80,4)] [Z5d]) .no Tryz.func92 [] (λv vals x z ha hz=>by obtain⟨c0,e0,p0⟩:=ha;exact .trans (by kernel_rfl) (Z8w p0.2 hz)) ⟨ZJe,tr⟩)
noncomputable def ZSm:FuncId×Con:=(95,⟨[.leaf 1,.int .u32],[.leaf 1,.int .u32],λp=>ZXe p.1 p.2⟩)
theorem ZFr:KQ ZSm:=Zs (ZI (C:=cf2 [(78,1),(80,4)] [Z5d]) (.n (.n (.n (.f (.n (.j [] [] [.s 6 (.own 135 (.int .u32)),.s 7 (.dat (.int .u64))] (.f (.l [0,1] [] [.s 6 (.own 135 (.int .u32)),.s 7 (.dat (.int .u64)),.s 8 (.dat (.int .i64))] 0 [] [] [.s 6 (.own 135 (.int .u32)),.s 7 (.dat (.int .u64))] .no)))))))) Tryz.func95 [] (λv vals x z ha hz=>by obtain⟨c0,w0,e0,p0,c1,e1,p1⟩:=ha;exact .trans (by kernel_rfl) (Zxx p1.2 hz)) ⟨ZJe,tr⟩)
noncomputable def Zfj:FuncId×Con:=(119,⟨[.leaf 1,.leaf 1],[.leaf 1],λp=>ZNd p.1 p.2⟩)
theorem Z2m:KQ Zfj:=Zs (ZI (C:=cf2 [(78,1),(80,4)] [Z5d]) (.n (.n (.f (.n (.j [] [] [.s 5 (.own 135 (.int .u32))] (.f (.l [0,1] [] [.s 5 (.own 135 (.int .u32)),.s 6 (.dat (.int .i64))] 0 [] [] [.s 5 (.own 135 (.int .u32))] (.f (.n (.f (.f (.n (.f (.n (.j [0,1,6] [] [.s 5 (.own 135 (.int .u32)),.s 7 (.dat (.int .u64))] (.f (.l [0,1,6] [] [.s 5 (.own 135 (.int .u32)),.s 7 (.dat (.int .u64)),.s 8 (.dat (.int .i64))] 2 [0,1,6] [] [.s 5 (.own 135 (.int .u32)),.s 7 (.dat (.int .u64))] .no))))))))))))))))) Tryz.func119 [] (λv vals x z ha hz=>.trans (by kernel_rfl) (ZWt hz)) ⟨ZJe,tr⟩)
noncomputable def Z5r:FuncId×Con:=(150,⟨[.leaf 1],[.int .i64],λp=>Z4f p⟩)
theorem rbits_k:KQ Z5r:=Zs (ZI (C:=cf2 [(78,1),(80,4)] []) (.n (.n (.n (.f (.n (.j [] [] [.s 3 (.dat (.int .i64))] (.f (.l [] [] [.s 3 (.dat (.int .i64)),.s 4 (.dat (.int .u32))] 0 [] [] [.s 3 (.dat (.int .i64))] .no)))))))) Tryz.func150 [] (λv vals x z ha hz=>.trans (by kernel_rfl) (Z2w hz)))
noncomputable def ZIr:FuncId×Con:=(151,⟨[.leaf 1,.int .i64],[.leaf 1],λp=>Zde p.1 p.2⟩)
theorem ZYw:KQ ZIr:=Zs (ZI (C:=cf2 [(78,1),(80,4)] [Z5d]) (.n (.n (.n (.n (.f (.n (.j [] [] [.s 5 (.own 135 (.int .u32)),.s 6 (.dat (.int .u64))] (.f (.l [0,1] [] [.s 5 (.own 135 (.int .u32)),.s 6 (.dat (.int .u64)),.s 7 (.dat (.int .i64))] 0 [] [] [.s 5 (.own 135 (.int .u32)),.s 6 (.dat (.int .u64))] .no))))))))) Tryz.func151 [] (λv vals x z ha hz=>.trans (by kernel_rfl) (ZSw hz)) ⟨ZJe,tr⟩)
noncomputable def ZEn:FuncId×Con:=(152,⟨[.leaf 1,.leaf 1],[.leaf 1],λp=>Z3d p.1 p.2⟩)
theorem rdif_k:KQ ZEn:=Zs (ZI (C:=cf2 [(78,1),(80,4)] [Z5d]) (.n (.n (.n (.f (.n (.j [] [] [.s 5 (.own 135 (.int .u32))] (.f (.l [0,1] [] [.s 5 (.own 135 (.int .u32)),.s 6 (.dat (.int .i64)),.s 7 (.dat (.int .i64))] 0 [] [] [.s 5 (.own 135 (.int .u32))] (.f (.n (.f (.f (.n (.two (.n (.j [0,1,5,7] [] [.s 8 (.dat (.int .i64))] .no)) (.n (.f (.n (.j [0,1,5,7] [] [.s 6 (.dat (.int .i64)),.s 8 (.dat (.int .i64))] .no)))))))))))))))))) Tryz.func152 [] (λv vals x z ha hz=>.trans (by kernel_rfl) (Zzt hz)) ⟨ZJe,tr⟩)
noncomputable def Zgq:FuncId×Con:=(153,⟨[.leaf 1,.int .i64],[.leaf 1],λp=>Zsg p.1 p.2⟩)
theorem ZWu:KQ Zgq:=Zs (ZI (C:=cf2 [(78,1),(80,4)] [Z5d]) (.n (.n (.f (.n (.j [] [] [.s 5 (.own 135 (.int .u32))] (.f (.l [0,1] [] [.s 5 (.own 135 (.int .u32)),.s 6 (.dat (.int .i64))] 0 [] [] [.s 5 (.own 135 (.int .u32))] (.f (.n (.f (.f (.n (.f (.n (.j [0,1,5,6] [] [.s 7 (.dat (.int .u64))] .no))))))))))))))) Tryz.func153 [] (λv vals x z ha hz=>by obtain⟨c0,w0,e0,p0,c1,e1,p1⟩:=ha;exact .trans (by kernel_rfl) (Zsv p1.2 hz)) ⟨ZJe,tr⟩)
noncomputable def ZJm:FuncId×Con:=(124,⟨[.leaf 1,.leaf 1],[.leaf 1,.leaf 1],λp=>ZCc p.1 p.2⟩)
theorem ZSq:KQ ZJm:=Zs (ZI (C:=cf2 [(78,1),(80,4)] [Zcl,Zik,ZSm,Zfj,Z5d,Z5r,ZIr,ZEn,Zgq]) (.n (.n (.n (.n (.n (.n (.n (.f (.n (.j [8] [] [.s 10 (.dat (.leaf 1)),.s 12 (.own 135 (.int .u32))] (.f (.l [8,9,11] [] [.s 10 (.dat (.leaf 1)),.s 12 (.own 135 (.int .u32)),.s 13 (.dat (.int .i64))] 0 [8] [] [.s 10 (.dat (.leaf 1)),.s 12 (.own 135 (.int .u32))] (.f (.n (.f (.j [8,9,11,13] [] [.s 10 (.dat (.leaf 1)),.s 12 (.own 135 (.int .u32))] (.f (.n (.two (.n (.j [8,9,10,11,12,13] [] [.s 14 (.dat (.slice (.int .u32)))] .no)) (.n (.n (.two (.n (.j [8,9,10,11,12,13,14] [] [.s 15 (.dat (.int .u64))] .no)) (.n (.two (.n (.j [8,9,10,11,12,13,14] [] [.s 16 (.dat (.int .u64))] .no)) (.n (.f (.j [8,9,10,11,12,13,14] [] [.s 16 (.dat (.int .u64)),.s 17 (.dat (.leaf 1))] (.f (.l [8,9,10,11,12,13,14] [] [.s 16 (.dat (.int .u64)),.s 17 (.dat (.leaf 1))] 2 [8,9,10,11,12,13,14] [] [.s 16 (.dat (.int .u64)),.s 17 (.dat (.leaf 1))] .no))))))))))))))))))))))))))))) Tryz.func124 [] (λv vals x z ha hz=>.trans (by kernel_rfl) (ZHw hz)) ⟨Zds,ZTm,ZFr,Z2m,ZJe,rbits_k,ZYw,rdif_k,ZWu,tr⟩)
noncomputable def ZLr:FuncId×Con:=(123,⟨[.leaf 1,.leaf 1],[.leaf 1],λp=>rgcF p.1 p.2⟩)
theorem rgcd_k:KQ ZLr:=Zs (ZI (C:=cf2 [(78,1),(80,4)] [ZJm]) (.n (.f (.j [] [] [.s 0 (.dat (.leaf 1))] (.f (.l [] [] [.s 0 (.dat (.leaf 1)),.s 1 (.dat (.leaf 1))] 0 [] [] [.s 0 (.dat (.leaf 1))] .no))))) Tryz.func123 [] (λv vals x z ha hz=>.trans (by kernel_rfl) (rgcF_eq hz)) ⟨ZSq,tr⟩)
noncomputable def Zsl:FuncId×Con:=(91,⟨[.bool,.leaf 1,.leaf 1],[.leaf 4],λp=>Z3c p.1 p.2.1 p.2.2⟩)
theorem Zvs:KQ Zsl:=Zs (ZI (C:=cf2 [(78,1),(80,4)] [ZLr,ZJm]) .no Tryz.func91 [] (λv vals x z ha hz=>.trans (by kernel_rfl) (Zpu hz)) ⟨rgcd_k,ZSq,tr⟩)
noncomputable def ZKr:FuncId×Con:=(48,⟨[.int .i64],[.leaf 4],λp=>ZSh p⟩)
theorem ZNx:KQ ZKr:=Zs (ZI (C:=cf2 [(78,1),(80,4)] [Zsl,Zik]) .no Tryz.func48 [] (λv vals x z ha hz=>by obtain⟨c0,e0,p0⟩:=ha;exact .trans (by kernel_rfl) (Z9w p0.2 hz)) ⟨Zvs,ZTm,tr⟩)
noncomputable def ZLm:FuncId×Con:=(118,⟨[.str],[.int .i64],λp=>ZEg p⟩)
theorem Z6o:KQ ZLm:=Zs (Z0 (C:=cf0 [] [] [] []) (.n (.n (.f (.f (.l [0] [] [.s 3 (.dat (.int .i64))] 0 [] [] [.s 3 (.dat (.int .i64))] (.f (.f (.f (.j [0,3] [] [.s 19 (.dat .bool)] .no))))))))) Tryz.func118 [] (λ_=>by kernel_rfl))
noncomputable def Zyp:FuncId×Con:=(116,⟨[.str],[.int .i64],λp=>Zxg p⟩)
theorem ZPu:KQ Zyp:=Zs (Z0 (C:=cf0 [ZLm] [] [] []) (.n (.n (.f (.f (.j [3] [] [.s 12 (.dat .bool)] .no))))) Tryz.func116 [] (λ_=>by kernel_rfl) ⟨Z6o,tr⟩)
noncomputable def ZAo:FuncId×Con:=(146,⟨[.leaf 1,.leaf 1],[.leaf 1],λp=>ZGh p.1 p.2⟩)
theorem rsum_k:KQ ZAo:=Zs (ZI (C:=cf2 [(78,1),(80,4)] [Z5d]) (.n (.n (.n (.f (.n (.j [] [] [.s 5 (.own 135 (.int .u32)),.s 6 (.dat (.int .u64))] (.f (.l [0,1] [] [.s 5 (.own 135 (.int .u32)),.s 6 (.dat (.int .u64)),.s 7 (.dat (.int .i64))] 0 [] [] [.s 5 (.own 135 (.int .u32)),.s 6 (.dat (.int .u64))] (.f (.two (.f (.j [0,1,5,6,7] [] [.s 18 (.dat .bool)] .no)) (.f (.f (.two (.n (.j [0,1,5,7] [] [.s 6 (.dat (.int .u64))] .no)) (.f (.n (.j [0,1,5,7] [] [.s 6 (.dat (.int .u64))] .no)))))))))))))))) Tryz.func146 [] (λv vals x z ha hz=>.trans (by kernel_rfl) (ZEt hz)) ⟨ZJe,tr⟩)
noncomputable def ZWr:FuncId×Con:=(117,⟨[.str],[.leaf 1],λp=>Zrf p⟩)
theorem rRead_k:KQ ZWr:=Zs (Z0 (C:=cf0 [Zik,Zfj,ZAo] [] [] []) (.n (.n (.f (.n (.f (.l [0] [] [.s 3 (.dat (.leaf 1)),.s 4 (.dat (.int .i64))] 0 [] [] [.s 3 (.dat (.leaf 1))] .no)))))) Tryz.func117 [] (λ_=>by kernel_rfl) ⟨ZTm,Z2m,rsum_k,tr⟩)
noncomputable def Z0q:FuncId×Con:=(85,⟨[.str],[.leaf 4,.int .i64],λp=>Zck p⟩)
theorem ZMw:KQ Z0q:=Zs (Z0 (C:=cf0 [ZKr,Zsl,Zyp,ZWr,ZLm,Zfj] [] [] []) (.n (.n (.n (.two (.j [0,2,4] [] [.s 5 (.dat .bool)] .no) (.two (.n (.j [2,4,5] [] [.s 0 (.dat .str)] .no)) (.n (.n (.n (.n (.n (.f (.f (.two (.j [2,4,5,7,8,9] [] [.s 49 (.dat .bool)] .no) (.n (.two (.j [2,4,5,7,9] [] [.s 76 (.dat .bool)] .no) (.f (.n (.f (.n (.f (.l [2,5,7,9] [] [.s 11 (.dat (.leaf 1)),.s 12 (.dat (.int .i64))] 1 [2,5,7,9] [] [.s 11 (.dat (.leaf 1))] .no))))))))))))))))))))) Tryz.func85 [] (λ_=>by kernel_rfl) ⟨ZNx,Zvs,ZPu,rRead_k,Z6o,Z2m,tr⟩)
noncomputable def Zop:FuncId×Con:=(44,⟨[.slice .str],[.pair (.int .i64) (.pair (.pair .bool (.pair (.leaf 1) (.leaf 1))) .str),.bool],λp=>Z8j p⟩)
theorem rWhen_k:KQ Zop:=Zs (Z0 (C:=cf2 [(42,0),(44,2),(46,3),(78,1)] [Zml,Z0q]) (.n (.two (.f (.j [0,2] [] [.s 15 (.dat .bool)] .no)) (.f (.n (.f (.cut ⟨⟨[0,2],[],[.s 4 (.dat (.int .i64))]⟩,[(.exit 0,⟨[2],[],[]⟩),(.ret,⟨[],[],[.s 1000 (.dat (.pair (.int .i64) (.pair (.pair .bool (.pair (.leaf 1) (.leaf 1))) .str))),.s 1001 (.dat .bool)]⟩)]⟩ .no)))))) Tryz.func44 [] (λ_=>by kernel_rfl) ⟨Z6q,ZMw,tr⟩)
noncomputable def Z3q:FuncId×Con:=(19,⟨[.slice (.pair .str (.pair (.slice .str) (.slice (.pair (.int .i64) (.pair (.leaf 4) .str))))),.str],[.slice (.pair .str (.pair (.slice .str) (.slice (.pair (.int .i64) (.pair (.leaf 4) .str))))),.bool],λp=>Zrg p.1 p.2⟩)
theorem rLine_k:KQ Z3q:=Zs (Z0 (C:=cf0 [Zmo,Zop] [] [] []) (.n (.two (.two (.j [0,1] [] [.s 18 (.dat .bool)] .no) (.f (.f (.f (.j [0,1] [] [.s 32 (.dat .bool)] .no))))) (.n (.two (.f (.j [0,7] [] [.s 69 (.dat .bool)] .no)) (.f (.f (.j [0,7] [] [.s 92 (.dat .bool)] .no))))))) Tryz.func19 [] (λ_=>by kernel_rfl) ⟨ZBu,rWhen_k,tr⟩)
noncomputable def Z4m:FuncId×Con:=(46,⟨[.slice (.pair .str (.pair (.slice .str) (.slice (.pair (.int .i64) (.pair (.leaf 4) .str))))),.str],[.int .i64],λp=>Zjh p.1 p.2⟩)
theorem Zyq:KQ Z4m:=Zs (Z0 (C:=cf0 [] [] [] []) (.n (.f (.n (.cut ⟨⟨[],[],[]⟩,[(.norm,⟨[],[],[]⟩),(.ret,⟨[],[],[.s 1000 (.dat (.int .i64))]⟩)]⟩ (.f (.cut ⟨⟨[0,1],[],[.s 5 (.dat (.int .i64))]⟩,[(.ret,⟨[],[],[.s 1000 (.dat (.int .i64))]⟩),(.exit 0,⟨[],[],[]⟩)]⟩ .no)))))) Tryz.func46 [] (λ_=>by kernel_rfl))
noncomputable def Z0p:FuncId×Con:=(86,⟨[.str],[.bool],λp=>Z1j p⟩)
theorem rName_k:KQ Z0p:=Zs (Z0 (C:=cf0 [] [] [] []) (.n (.two (.f (.j [0] [] [.s 11 (.dat .bool)] .no)) (.f (.n (.cut ⟨⟨[],[],[]⟩,[(.norm,⟨[],[],[]⟩),(.ret,⟨[],[],[.s 1000 (.dat .bool)]⟩)]⟩ (.f (.cut ⟨⟨[0],[],[.s 3 (.dat (.int .i64))]⟩,[(.ret,⟨[],[],[.s 1000 (.dat .bool)]⟩),(.exit 0,⟨[],[],[]⟩)]⟩ (.f (.n (.f (.f (.f (.j [0,3] [] [.s 46 (.dat .bool)] .no))))))))))))) Tryz.func86 [] (λ_=>by kernel_rfl))
noncomputable def Z1q:FuncId×Con:=(87,⟨[.str],[.bool],λp=>Zcj p⟩)
theorem ZMx:KQ Z1q:=Zs (Z0 (C:=cf0 [] [] [] []) (.n (.two (.f (.j [0] [] [.s 24 (.dat .bool)] .no)) (.f (.n (.cut ⟨⟨[],[],[]⟩,[(.norm,⟨[],[],[]⟩),(.ret,⟨[],[],[.s 1000 (.dat .bool)]⟩)]⟩ (.f (.cut ⟨⟨[0],[],[.s 3 (.dat (.int .i64))]⟩,[(.ret,⟨[],[],[.s 1000 (.dat .bool)]⟩),(.exit 0,⟨[],[],[]⟩)]⟩ (.f (.n (.f (.f (.f (.j [0,3] [] [.s 53 (.dat .bool)] .no))))))))))))) Tryz.func87 [] (λ_=>by kernel_rfl))
noncomputable def ZLp (x:Rat):Option (Int) :=
 bnd (ZRe x) λa =>
 ifb (a)
 (some (0:Int))
 (ifb (decide (x.num<0))
 (some (-1:Int))
 (some (1:Int)))
noncomputable def ZZm:FuncId×Con:=(53,⟨[.leaf 4],[.bool],λp=>ZRe p⟩)
theorem Ztq:KQ ZZm:=Zs (ZI (C:=cf2 [(78,1),(80,4)] []) .no Tryz.func53 [] (λv vals x z ha hz=>.trans (by kernel_rfl) (Z9u hz)))
theorem Z3u {x:Rat} {z:Int} (h:Zlg x=some z):ZLp x=some z:=by
 unfold Zlg at h
 cases h
 unfold ZLp ZRe;rw[Za];by_cases h0:x=0
 ·subst h0;rfl
 ·have:=Zao h0;rw[dFq h0,Zd];by_cases h1:x.num<0
  ·rw[dT h1,Ze,Int.sign_eq_neg_one_of_neg h1]
  ·rw[dFq h1,Zd,Int.sign_eq_one_of_pos (by omega)]
noncomputable def Znp:FuncId×Con:=(88,⟨[.leaf 4],[.int .i64],λp=>Zlg p⟩)
theorem rsign_k:KQ Znp:=Zs (ZI (C:=cf2 [(78,1),(80,4)] [ZZm]) .no Tryz.func88 [] (λv vals x z ha hz=>.trans (by kernel_rfl) (Z3u hz)) ⟨Ztq,tr⟩)
noncomputable def Zgr:FuncId×Con:=(45,⟨[.slice (.pair .str (.pair (.slice .str) (.slice (.pair (.int .i64) (.pair (.leaf 4) .str))))),.int .i64],[.int .i64],λp=>Z3i p.1 p.2⟩)
theorem ZCw:KQ Zgr:=Zs (Z0 (C:=cf0 [Zml,Z4m,Z0p,Z1q,Znp] [] [] []) (.n (.n (.n (.two (.f (.j [5] [] [.s 33 (.dat .bool)] .no)) (.two (.f (.j [5] [] [.s 43 (.dat .bool)] .no)) (.two (.n (.cut ⟨⟨[],[],[]⟩,[(.norm,⟨[5],[],[]⟩),(.ret,⟨[],[],[.s 1000 (.dat (.int .i64))]⟩)]⟩ (.f (.cut ⟨⟨[5],[],[.s 6 (.dat (.int .i64))]⟩,[(.ret,⟨[],[],[.s 1000 (.dat (.int .i64))]⟩),(.exit 0,⟨[5],[],[]⟩)]⟩ .no)))) (.f (.n (.cut ⟨⟨[],[],[]⟩,[(.norm,⟨[],[],[]⟩),(.ret,⟨[],[],[.s 1000 (.dat (.int .i64))]⟩)]⟩ (.f (.cut ⟨⟨[5],[],[.s 7 (.dat (.int .i64))]⟩,[(.ret,⟨[],[],[.s 1000 (.dat (.int .i64))]⟩),(.exit 2,⟨[],[],[]⟩)]⟩ (.f (.n (.f (.f (.n (.f (.j [5,7] [] [.s 89 (.dat .bool)] .no)))))))))))))))))) Tryz.func45 [] (λ_=>by kernel_rfl) ⟨Z6q,Zyq,rName_k,ZMx,rsign_k,tr⟩)
noncomputable def ZYo:FuncId×Con:=(20,⟨[.slice (.pair .str (.pair (.slice .str) (.slice (.pair (.int .i64) (.pair (.leaf 4) .str)))))],[.int .i64],λp=>Zpk p⟩)
theorem Zww:KQ ZYo:=Zs (Z0 (C:=cf0 [Zgr,Z4m] [] [] []) (.n (.two (.f (.j [0] [] [.s 15 (.dat .bool)] .no)) (.two (.n (.cut ⟨⟨[],[],[]⟩,[(.norm,⟨[0],[],[]⟩),(.ret,⟨[],[],[.s 1000 (.dat (.int .i64))]⟩)]⟩ (.f (.cut ⟨⟨[0],[],[.s 3 (.dat (.int .i64))]⟩,[(.ret,⟨[],[],[.s 1000 (.dat (.int .i64))]⟩),(.exit 0,⟨[0],[],[]⟩)]⟩ .no)))) (.f (.n (.cut ⟨⟨[],[],[]⟩,[(.norm,⟨[],[],[]⟩),(.ret,⟨[],[],[.s 1000 (.dat (.int .i64))]⟩)]⟩ (.f (.cut ⟨⟨[0],[],[.s 5 (.dat (.int .i64))]⟩,[(.ret,⟨[],[],[.s 1000 (.dat (.int .i64))]⟩),(.exit 2,⟨[],[],[]⟩)]⟩ (.f (.n (.f (.f (.n (.cut ⟨⟨[],[],[]⟩,[(.norm,⟨[0,5],[],[]⟩),(.ret,⟨[],[],[.s 1000 (.dat (.int .i64))]⟩)]⟩ (.f (.cut ⟨⟨[0,5],[],[.s 6 (.dat (.int .i64))]⟩,[(.ret,⟨[],[],[.s 1000 (.dat (.int .i64))]⟩),(.exit 4,⟨[0,5],[],[]⟩)]⟩ (.f (.n (.f (.f (.n (.f (.j [0,5,6] [] [.s 64 (.dat .bool)] .no))))))))))))))))))))))) Tryz.func20 [] (λ_=>by kernel_rfl) ⟨ZCw,Zyq,tr⟩)
noncomputable def Zgs:FuncId×Con:=(7,⟨[.str],[.slice (.pair .str (.pair (.slice .str) (.slice (.pair (.int .i64) (.pair (.leaf 4) .str))))),.int .i64,.int .i64],λp=>ZBj p⟩)
theorem ZHu:KQ Zgs:=Zs (Z0 (C:=cf0 [Z3q,ZYo] [] [] []) (.n (.n (.n (.n (.f (.n (.f (.cut ⟨⟨[0],[],[.s 5 (.dat (.slice (.pair .str (.pair (.slice .str) (.slice (.pair (.int .i64) (.pair (.leaf 4) .str))))))),.s 6 (.dat (.int .i64)),.s 7 (.dat (.int .i64)),.s 8 (.dat (.int .i64))]⟩,[(.exit 0,⟨[],[],[.s 5 (.dat (.slice (.pair .str (.pair (.slice .str) (.slice (.pair (.int .i64) (.pair (.leaf 4) .str)))))))]⟩),(.ret,⟨[],[],[.s 1000 (.dat (.slice (.pair .str (.pair (.slice .str) (.slice (.pair (.int .i64) (.pair (.leaf 4) .str))))))),.s 1001 (.dat (.int .i64)),.s 1002 (.dat (.int .i64))]⟩)]⟩ (.f (.n (.f (.cut ⟨⟨[],[],[]⟩,[(.ret,⟨[],[],[.s 1000 (.dat (.slice (.pair .str (.pair (.slice .str) (.slice (.pair (.int .i64) (.pair (.leaf 4) .str))))))),.s 1001 (.dat (.int .i64)),.s 1002 (.dat (.int .i64))]⟩),(.norm,⟨[0,8],[],[.s 5 (.dat (.slice (.pair .str (.pair (.slice .str) (.slice (.pair (.int .i64) (.pair (.leaf 4) .str))))))),.s 6 (.dat (.int .i64)),.s 7 (.dat (.int .i64))]⟩)]⟩ (.f (.two (.f (.j [0,5,6,7,8] [] [.s 43 (.dat .bool)] .no)) (.n (.n (.n (.f (.f (.j [0,5,6,7,8,9] [] [.s 58 (.dat .bool)] .no)))))))))))))))))))) Tryz.func7 [] (λ_=>by kernel_rfl) ⟨rLine_k,Zww,tr⟩)
noncomputable def Zio (x:Rat):Option ((List UInt8)) :=
 bnd (ZHg x.num.natAbs) λb =>
 bnd (ifb (decide (x.num<0))
 (bnd (ZRe x) λd =>
 some (!(d)))
 (some false))
 (λ(e:Bool) =>
 (bnd (ifb (e)
 (bnd (ZNa ((([45]:List UInt8))++b)) λj =>
 some (((([45]:List UInt8))++b)))
 (some b))
 (λ(a:(List UInt8)) =>
 (bnd (ZDh x) λf =>
 bnd (ZQa ([(1:Int)])) λg =>
 bnd (Zne f g) λh =>
 bnd (ifb (decide ((0:Int)<h))
 (bnd (ZNa (a++(([47]:List UInt8)))) λk =>
 bnd (ZHg x.den) λc =>
 bnd (ZNa (((a++(([47]:List UInt8))))++c)) λl =>
 some ((((a++(([47]:List UInt8))))++c)))
 (some a))
 (λ(i:(List UInt8)) =>
 (some i))))))
noncomputable def ZYr:FuncId×Con:=(52,⟨[.leaf 1],[.str],λp=>ZHg p⟩)
theorem Z8t:KQ ZYr:=Zs (ZI (C:=cf2 [(78,1),(80,4)] [ZSm]) (.n (.n (.f (.j [] [] [.s 3 (.dat .str)] (.f (.l [] [] [.s 0 (.dat (.leaf 1)),.s 3 (.dat .str)] 0 [] [] [.s 3 (.dat .str)] (.f (.n (.f (.n (.f (.n (.j [4] [] [.s 3 (.dat .str)] (.f (.l [4] [] [.s 3 (.dat .str),.s 5 (.dat (.int .u32)),.s 6 (.dat (.int .i64))] 2 [4] [] [.s 3 (.dat .str)] (.f (.f (.f (.j [3,4,5,6] [] [.s 25 (.dat .bool)] .no))))))))))))))))))) Tryz.func52 [] (λv vals x z ha hz=>.trans (by kernel_rfl) (ZMt hz)) ⟨ZFr,tr⟩)
noncomputable def ZBp:FuncId×Con:=(55,⟨[.leaf 4],[.leaf 1],λp=>ZDh p⟩)
theorem ZOx:KQ ZBp:=Zs (ZI (C:=cf2 [(78,1),(80,4)] []) .no Tryz.func55 [] (λv vals x z ha hz=>.trans (by kernel_rfl) (ZXx hz)))
theorem ZSx {x:Rat} {z:List UInt8} (h:Z7h x=some z):Zio x=some z:=by
 unfold Z7h at h;split at h
 ·rename_i hh;obtain⟨h1,h2⟩:=hh
  cases h
  unfold Zio ZHg;have l1:=Z9j (n:=x.num.natAbs) (by omega);have l2:=Z9j (n:=x.den) (by omega);rw[iP (ZGq h1),Za];have e0:ifb (decide (x.num<0)) (bnd (ZRe x) λy136=>some (!(y136))) (some false)=some (decide (x.num<0)):=by
   unfold ZRe;by_cases h:x.num<0
   ·have:x≠0:=λe=>by subst e;simp at h
    rw[dT h,Ze,Za,dFq this];rfl
   ·rw[dFq h,Zd]
  rw[e0,Za];have e1:ifb (decide (x.num<0)) (bnd (ZNa ([45]++ZHa x.num.natAbs)) λy80=>some (([45]:List UInt8)++ZHa x.num.natAbs)) (some (ZHa x.num.natAbs))=some ((if x.num<0 then [45] else [])++ZHa x.num.natAbs):=by
   by_cases h:x.num<0
   ·rw[dT h,Ze,Zhe (by simp;omega),Za,iP h]
   ·rw[dFq h,Zd,iN h];rfl
  rw[e1,Za];unfold txtQ ZDh Zne;have l3:((if x.num<0 then [45] else [])++ZHa x.num.natAbs:List UInt8).length≤4398046511105:=by
   rw[lA];split <;> simp <;> omega
  generalize ((if x.num<0 then [45] else [])++ZHa x.num.natAbs:List UInt8)=s at *;rw[Za,Zkm,Za,Za,ZUs];by_cases hd:x.den=1
  ·rw[hd];simp[ifb,bnd]
  ·have:=x.den_nz;rw[dT (by omega),Ze,Zhe (by simp;omega),Za,iP (ZGq h2),Za,Zhe (by simp;omega),Za,Za,iN hd];simp
 ·cases h
noncomputable def Zvn:FuncId×Con:=(30,⟨[.leaf 4],[.str],λp=>Z7h p⟩)
theorem rtext_k:KQ Zvn:=Zs (ZI (C:=cf2 [(78,1),(80,4)] [ZYr,ZZm,Zcl,ZBp]) (.n (.n (.two (.two (.j [1,3] [] [.s 13 (.dat .bool)] .no) (.j [1] [] [.s 3 (.dat .str)] .no)) (.f (.n (.j [] [] [.s 3 (.dat .str)] .no)))))) Tryz.func30 [] (λv vals x z ha hz=>.trans (by kernel_rfl) (ZSx hz)) ⟨Z8t,Ztq,Zds,ZOx,tr⟩)
noncomputable def is1_q:FuncId×Con:=(21,⟨[.leaf 3,.leaf 4],[.bool],λp=>ZTi p.1 p.2⟩)
theorem is1_k:KQ is1_q:=Zs (Z0 (C:=cf0 [Z7m,Zvn] [] [] []) .no Tryz.func21 [] (λ_=>by kernel_rfl) ⟨Ztp,rtext_k,tr⟩)
noncomputable def ZMp:FuncId×Con:=(8,⟨[.one (.slice (.pair .str (.pair (.slice .str) (.slice (.pair (.int .i64) (.pair (.leaf 3) .str)))))),.slice (.pair .str (.pair (.slice .str) (.slice (.pair (.int .i64) (.pair (.leaf 4) .str)))))],[.bool],λp=>ZDg p.1 p.2⟩)
theorem Zqu:KQ ZMp:=Zs (Z0 (C:=cf0 [is1_q] [] [] []) (.n (.n (.f (.n (.f (.cut ⟨⟨[1,19,20],[],[.s 21 (.dat (.int .i64))]⟩,[(.exit 0,⟨[],[],[]⟩),(.ret,⟨[],[],[.s 1000 (.dat .bool)]⟩)]⟩ (.f (.n (.n (.f (.f (.n (.n (.two (.f (.j [1,6,7,19,20,21] [] [.s 52 (.dat .bool)] .no)) (.two (.n (.f (.cut ⟨⟨[1,6,7,19,20,21,55],[],[.s 56 (.dat (.int .i64))]⟩,[(.exit 2,⟨[1,6,7,19,20,21],[],[]⟩),(.ret,⟨[],[],[.s 1000 (.dat .bool)]⟩)]⟩ .no))) (.n (.f (.cut ⟨⟨[1,7,19,20,21,72,73],[],[.s 74 (.dat (.int .i64))]⟩,[(.exit 4,⟨[1,19,20,21],[],[]⟩),(.ret,⟨[],[],[.s 1000 (.dat .bool)]⟩)]⟩ (.f (.n (.n (.f (.f (.n (.n (.f (.j [1,7,19,20,21,72,73,74] [] [.s 103 (.dat .bool)] .no))))))))))))))))))))))))))) Tryz.func8 [] (λ_=>by kernel_rfl) ⟨is1_k,tr⟩)
noncomputable def Ztv:FuncId×Con:=(3,⟨[.str],[.bool],λp=>Z1i p⟩)
theorem Z8v:KR Ztv:=Z0 (C:=cf0 [ZTn,Z9o,Zgs,ZMp] [] [] []) (.n (.n (.n (.n (.f (.j [] [] [.s 2 (.dat .bool)] .no)))))) Tryz.func3 [] (λ_=>by kernel_rfl) ⟨Zyx,Zvv,ZHu,Zqu,tr⟩
theorem Z5u {w0:World} {v0:Zb} (hv:VIn v0 w0) {c0:List Value} {text:(List UInt8)} (p0:Rep.rel Z5 v0 c0 text) {z:Bool} (hm:Z1i text=some z):Ret Tryz.prog 3 #[Z5.val c0] w0 v0 (λy v'=>∃ r0,y=Zeb.val r0∧Zeb.rel v' r0 z):=(Z8v w0 v0 [Z5.val c0] (text) z hv ⟨c0,rfl,p0⟩ hm).2
end Go.Eng
