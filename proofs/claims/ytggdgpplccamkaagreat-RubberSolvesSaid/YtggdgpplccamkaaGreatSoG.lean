/- Lemmas towards the statement: the engine of the walks, the functions' models, laws and walks, part 7. Conditions: as each states. -/
import Derived.Shelf.Strings.Builder1
import Derived.Shelf.Strings.Repeat
import Derived.Test.YtggdgpplccamkaaGreatProg
import Derived.Test.YtggdgpplccamkaaGreatSoF
set_option linter.all false
set_option maxRecDepth 100000
namespace Go.Eng
open Go.Proofs Go.RowKit
theorem digit_w {x:World} {m:Zb} (hv:VIn m x) {a off0 e h:Nat} {A:TypeId} {pre0 cs0 post0:List Value} {u:(List Int)} (a1:x.heap[a]? = some (.cells (pre0++cs0++post0).toArray A (0,0))) (G:off0=pre0.length) (a2:m a=none) (k:e=u.length) (a3:e≤h∧h≤maxLen) (d:Rep.rels (Zd .u64) m cs0 u) {c1:List Value} {v:Nat} (g:Rep.rel Zx m c1 v) {z:Int×(List Int)} (H:Z8i u v=some z):ZAd Tryz.prog 126 #[.slice (some ⟨a,off0,none⟩) e h,Zx.val c1] x m [a] (fun y v' w'=>(∃ r0,y=(Zd .u64).val r0∧(Zd .u64).rel v' r0 z.1)∧v' a=none∧∃ cs,w'.heap[a]? = some (.cells (pre0++cs++post0).toArray A (0,0))∧e=z.2.length∧Rep.rels (Zd .u64) v' cs z.2):=by
 obtain ⟨q1,o,p,rfl⟩:=ZNa g;refine ZNt (K:=90) (args:=[.slice (some ⟨a,off0,none⟩) (e) h,.slice q1 o p]) hv a1 a2 Tryz.func126 rfl rfl zl fun f S=>?_;unfold Z8i at H;refine sr (mw S rfl fun f S=>oe (sr (mv S rfl fun f S=>ov S rfl (Zyc S (Zrb g) rfl rfl Zva) fun f S=>mw S rfl fun f S=>oe (sr (mw S rfl fun f S=>oe (Zp fun _ a4=>Zp fun _ a5=>bO H fun aF V H=>?_))))));refine bO H fun cm a6 H=>bO H fun a7 aj H=>ZCf (fl:=#[true,true,true,true,true,true,true,true,true,true]) Zaj (by kernel_rfl) S ?_;intro ops O F w S;refine rfa O F 0 rfl rfl S (ZK S rfl) fun f S=>rfa O F 1 rfl rfl S (ZK S rfl) fun f S=>?_;have aG:=Z2a d (Zr V).2.1;obtain ⟨cn,aH⟩:∃ c,(List.take (Zd .u64).n (List.drop (((((Zc 18446744073709551616 v)).length:Int)).toNat*(Zd .u64).n) cs0))=c:=⟨_,rfl⟩;rw [aH] at aG;obtain ⟨rfl,co⟩:=aG;refine rfa O F 2 rfl rfl S (ZGa S rfl rfl Zva (Zr V).1 (ltI k (Zr V).2.2.1)) fun f S=>rfa O F 3 rfl rfl S (ZDb S rfl ZTb (Zwi S (j:=0) rfl G (Z2e d k) aH (ltN k (Zr V).2.2.2) 0 [.int .u64 aF] rfl zl)) fun f S=>rfa O F 4 rfl rfl S (ZK S rfl) fun f S=>rfa O F 5 rfl rfl S (ZK S rfl) fun f S=>rfa O F 6 rfl rfl S (Zu S rfl rfl (ZIb a6)) fun f S=>?_;obtain ⟨_,r,s,cp,rfl,a8,a9⟩:=ZRc g (Zr aj).2.1
 obtain ⟨rfl,cq⟩:=a9;refine rfa O F 7 rfl rfl S (ZGa S rfl rfl Zva (Zr aj).1 (ltI (Zrb g) (Zr aj).2.2.1)) fun f S=>rfa O F 8 rfl rfl S (ZDb S rfl ZTb (S.view a8)) fun f S=>rfa O F 9 rfl rfl S (Zu S rfl rfl Zdd) fun f S=>fin1 O F (Zh (a5 _ _ ?_));obtain ⟨ba,bb,bc⟩:=Z9 H;refine ZHb (fun f w=>∃ W I,W=ba∧Zb.le m I∧St 90 ⟨x,[a]⟩ m [(0,.slice (some ⟨a,off0,none⟩) (e) h),(1,.slice (some ⟨r,s,none⟩) o p),(6,.int .u64 W)] [Loc.box a A (pre0++cs0++post0)] I f w∧inR .u64 W) (fun _ aI=>?_) ?_
 ·have H:=bb;rcases Zea (decide (aF<a7)) with J | J
  ·have H:=Zca H J;refine Zta S rfl J (sr (mw S rfl fun f S=>oe (Zp fun _ bd=>bO H fun X Y H=>bO H fun be bf H=>bO H fun Z aa H=>bO H fun cr bg H=>bO H fun ak al H=>bO H fun aJ bh H=>ZCf (fl:=#[true,true,true,true,true,true,true,true,true,true,true,true,true,true,false,true,true,true,false,false]) Zaj (by kernel_rfl) S ?_)));intro ops O F w S;refine rfa O F 0 rfl rfl S (ZK S rfl) fun f S=>rfa O F 1 rfl rfl S (ZK S rfl) fun f S=>?_;have aK:=Z2a d (Zr Y).2.1;obtain ⟨ct,aL⟩:∃ c,(List.take (Zd .u64).n (List.drop (((((Zc 18446744073709551616 v)).length:Int)).toNat*(Zd .u64).n) cs0))=c:=⟨_,rfl⟩;rw [aL] at aK;obtain ⟨rfl,bi⟩:=aK;refine rfa O F 2 rfl rfl S (ZGa S rfl rfl Zva (Zr Y).1 (ltI k (Zr Y).2.2.1)) fun f S=>rfa O F 3 rfl rfl S (ZDb S rfl ZTb (Zwi S (j:=0) rfl G (Z2e d k) aL (ltN k (Zr Y).2.2.2) 0 [.int .u64 X] rfl zl)) fun f S=>rfa O F 4 rfl rfl S (ZK S rfl) fun f S=>rfa O F 5 rfl rfl S (ZK S rfl) fun f S=>rfa O F 6 rfl rfl S (Zu S rfl rfl (ZIb bf)) fun f S=>?_;have aM:=Z2a d (Zr aa).2.1;obtain ⟨cu,aN⟩:∃ c,(List.take (Zd .u64).n (List.drop ((be).toNat*(Zd .u64).n) cs0))=c:=⟨_,rfl⟩;rw [aN] at aM;obtain ⟨rfl,bj⟩:=aM;refine rfa O F 7 rfl rfl S (ZGa S rfl rfl Zva (Zr aa).1 (ltI k (Zr aa).2.2.1)) fun f S=>rfa O F 8 rfl rfl S (ZDb S rfl ZTb (Zwi S (j:=0) rfl G (Z2e d k) aN (ltN k (Zr aa).2.2.2) 0 [.int .u64 Z] rfl zl)) fun f S=>rfa O F 9 rfl rfl S (ZK S rfl) fun f S=>rfa O F 10 rfl rfl S (ZK S rfl) fun f S=>rfa O F 11 rfl rfl S (Zu S rfl rfl (ZIb bg)) fun f S=>?_
   obtain ⟨cv,am,bk⟩:=ZCp g (Zr al).2.1;obtain ⟨rfl,bm⟩:=bk;refine rfa O F 12 rfl rfl S (ZGa S rfl rfl Zva (Zr al).1 (ltI (Zrb g) (Zr al).2.2.1)) fun f S=>rfa O F 13 rfl rfl S (ZDb S rfl ZTb (S.view am)) fun f S=>go1 O F 14 (nxc [3,8,13,2,7,12,0,1,4,6,9,11,5,10] [] O rfl S rfl (ZM S [.int .u64 X,.int .u64 Z,.int .u64 ak] k_en129 rfl rfl) (div64_c S.vin (show Rep.rel (Zd .u64) _ [.int .u64 X] X from (ZJ bi)) (show Rep.rel (Zd .u64) _ [.int .u64 Z] Z from (ZJ bj)) (show Rep.rel (Zd .u64) _ [.int .u64 ak] ak from (ZJ bm)) bh) ?_);rintro _ aO f w ab ⟨cw,cx,rfl,bn,bo⟩ S;have d:=ZX ab d;have am:=Atm ab am;obtain ⟨rfl,bp⟩:=bn;obtain ⟨rfl,bq⟩:=bo;refine ⟨Z1a,rfa O F 15 rfl rfl S (ZK S rfl) fun f S=>rfa O F 16 rfl rfl S (Zga S rfl rfl) fun f S=>rfa O F 17 rfl rfl S (Zga S rfl rfl) fun f S=>go1 O F 18 (nva [0,1,2,3,4,5,6,7,8,9,10,11,12,13,14,15,16] [17] O rfl rfl S (Z7c S rfl) fun f S=>⟨(py S rfl rfl (Zga S rfl rfl) Z1a),go1 O F 19 (nva [0,1,2,3,4,5,6,7,8,9,10,11,12,13,14,15,16,17,18] [] O rfl rfl S (Z7c S rfl) fun f S=>⟨Z1a,fin1 O F ?_⟩)⟩)⟩;have S:=S.fr' (σ':=[(0,.slice (some ⟨a,off0,none⟩) (e) h),(1,.slice (some ⟨r,s,none⟩) o p),(5,.int .i64 ((((Zc 18446744073709551616 v)).length:Int))),(6,.int .u64 (aJ.1)),(7,.int .u64 (aJ.2))]) rfl
   refine Zh (bd _ _ ?_);obtain ⟨br,bs,bt⟩:=Z9 H;refine ZHb (fun f w=>∃ ac an,ac=br∧Zb.le aO an∧St 90 ⟨x,[a]⟩ m [(0,.slice (some ⟨a,off0,none⟩) (e) h),(1,.slice (some ⟨r,s,none⟩) o p),(6,.int .u64 ac)] [Loc.box a A (pre0++cs0++post0)] an f w∧inR .u64 ac) (fun _ aP=>?_) ?_
   ·have H:=bs;refine wp_block ?_;obtain ⟨cy,bu,aQ⟩:=Z9 H;refine Z5e bu (fun bv f w=>∃ q l ao,(q,l)=bv∧Zb.le aO ao∧St 90 ⟨x,[a]⟩ m [(0,.slice (some ⟨a,off0,none⟩) (e) h),(1,.slice (some ⟨r,s,none⟩) o p),(5,.int .i64 ((((Zc 18446744073709551616 v)).length:Int))),(6,.int .u64 q),(7,.int .u64 l)] [Loc.box a A (pre0++cs0++post0)] ao f w∧inR .u64 q∧inR .u64 l) ⟨_,_,_,rfl,(leR _),(S.fr' rfl),bp,bq⟩ ?_;rintro _ f w st ⟨q,l,ao,hq,L,S,aR,cz⟩ H cA bw aS;subst hq;have d:=ZX L d;refine wp_block (Zp fun _ bx=>bO H fun cC bz H=>bO H fun ap aq H=>bO H fun B bA H=>ZA (mv S rfl fun f S=>mv S rfl fun f S=>mv S rfl fun f S=>ov S rfl (Zu S rfl rfl (ZIb bz)) fun f S=>?_));have g:=ZOa (leT ab L) g;obtain ⟨cD,ar,bB⟩:=ZCp g (Zr aq).2.1;obtain ⟨rfl,bC⟩:=bB;refine ov S rfl (ZGa S rfl rfl Zva (Zr aq).1 (ltI (Zrb g) (Zr aq).2.2.1)) fun f S=>ov S rfl (ZDb S rfl ZTb (S.view ar)) fun f S=>opc S rfl (ZM S [.int .u64 q,.int .u64 ap] Z2m rfl rfl) (Zlp S.vin (show Rep.rel (Zd .u64) _ [.int .u64 q] q from (ZJ aR)) (show Rep.rel (Zd .u64) _ [.int .u64 ap] ap from (ZJ bC)) bA) ?_;rintro _ bD f w E ⟨cE,cF,rfl,bE,bG⟩ S
    have d:=ZX E d;have ar:=Atm E ar;obtain ⟨rfl,cH⟩:=bE;obtain ⟨rfl,cI⟩:=bG;refine mv S rfl fun f S=>ov S rfl (Zga S rfl rfl) fun f S=>ov S rfl (Zga S rfl rfl) fun f S=>mw S rfl fun f S=>mw S rfl fun f S=>Zz (Zh (bx _ _ (Zp fun _ bH=>Zp fun _ bI=>?_)));obtain ⟨bJ,bK,bM⟩:=Z9 H;refine ZHb (fun f w=>∃ ad au,ad=bJ∧Zb.le bD au∧St 90 ⟨x,[a]⟩ m [(0,.slice (some ⟨a,off0,none⟩) (e) h),(1,.slice (some ⟨r,s,none⟩) o p),(5,.int .i64 ((((Zc 18446744073709551616 v)).length:Int))),(6,.int .u64 q),(7,.int .u64 l),(67,.bool ad)] [Loc.box a A (pre0++cs0++post0)] au f w) (fun _ av=>?_) ?_
    ·have H:=bK;refine ZA (mv S rfl fun f S=>mv S rfl fun f S=>ov S rfl (Zu S rfl rfl Zdd) fun f S=>mv S rfl fun f S=>?_);rcases Zea (decide (B.1<l)) with M | M
     ·have H:=Zca H M;have S:=S.bool (t:=54) rfl M;refine opn S rfl rfl rfl rfl fun f S=>opn S rfl rfl rfl rfl fun f S=>opn S rfl rfl rfl rfl fun f S=>opn S rfl rfl rfl rfl fun f S=>ZNf S (ZXe S rfl rfl rfl zl) rfl zl fun f S=>ZNf S (ZXe S rfl rfl rfl zl) rfl zl fun f S=>ZNf S (ZXe S rfl rfl rfl zl) rfl zl fun f S=>ZNf S (ZXe S rfl rfl rfl zl) rfl zl fun f S=>ZNf S (ZXe S rfl rfl rfl zl) rfl zl fun f S=>ZNf S (ZXe S rfl rfl rfl zl) rfl zl fun f S=>ZNf S (ZXe S rfl rfl rfl zl) rfl zl fun f S=>opn S rfl rfl rfl rfl fun f S=>ov S rfl (ZJc S (b:=true) rfl rfl) fun f S=>Zz ?_;have S:=S.fr' (σ':=[(0,.slice (some ⟨a,off0,none⟩) (e) h),(1,.slice (some ⟨r,s,none⟩) o p),(5,.int .i64 ((((Zc 18446744073709551616 v)).length:Int))),(6,.int .u64 q),(7,.int .u64 l),(55,undef),(56,undef),(57,undef),(58,undef),(59,undef),(60,undef),(61,undef),(62,undef),(63,undef),(64,undef),(65,undef),(66,undef),(67,.bool true)]) rfl;obtain rfl:=Zw H;refine Zh (av _ _ ⟨_,_,rfl,(leR _),(S.fr' rfl)⟩)
     have H:=Zba H M;have S:=S.bool (t:=54) rfl M;refine opy S rfl rfl rfl rfl (ZK S rfl) fun f S=>opy S rfl rfl rfl rfl (ZK S rfl) fun f S=>opy S rfl rfl rfl rfl (Zu S rfl rfl Zlg) fun f S=>opy S rfl rfl rfl rfl (ZK S rfl) fun f S=>?_;rcases Zea (B.1==l) with C | C
     ·have H:=Zca H C;have S:=S.bool (t:=57) rfl C;have S:=S.bool (t:=58) rfl C;refine bO H fun ax bP H=>bO H fun N ae H=>opy S rfl rfl rfl rfl (ZK S rfl) fun f S=>opy S rfl rfl rfl rfl (ZK S rfl) fun f S=>opy S rfl rfl rfl rfl (ZK S rfl) fun f S=>opy S rfl rfl rfl rfl (Zu S rfl rfl (ZIb bP)) fun f S=>?_;have aT:=Z2a d (Zr ae).2.1;obtain ⟨cJ,aU⟩:∃ c,(List.take (Zd .u64).n (List.drop ((ax).toNat*(Zd .u64).n) cs0))=c:=⟨_,rfl⟩;rw [aU] at aT;obtain ⟨rfl,cK⟩:=aT;refine opy S rfl rfl rfl rfl (ZGa S rfl rfl Zva (Zr ae).1 (ltI k (Zr ae).2.2.1)) fun f S=>opy S rfl rfl rfl rfl (ZDb S rfl ZTb (Zwi S (j:=0) rfl G (Z2e d k) aU (ltN k (Zr ae).2.2.2) 0 [.int .u64 N] rfl zl)) fun f S=>opy S rfl rfl rfl rfl (Zu S rfl rfl ZMt) fun f S=>opy S rfl rfl rfl rfl (ZJc S (b:=true) rfl rfl) fun f S=>ov S rfl (ZJc S (b:=false) rfl rfl) fun f S=>Zz ?_;have S:=S.fr' (σ':=[(0,.slice (some ⟨a,off0,none⟩) (e) h),(1,.slice (some ⟨r,s,none⟩) o p),(5,.int .i64 ((((Zc 18446744073709551616 v)).length:Int))),(6,.int .u64 q),(7,.int .u64 l),(55,.int .u64 (B.1)),(56,.int .u64 l),(57,.bool true),(58,.bool true),(59,.int .u64 (B.2)),(60,.slice (some ⟨a,off0,none⟩) (e) h),(61,.int .i64 ((((Zc 18446744073709551616 v)).length:Int))),(62,.int .i64 ax),(63,.pointer (some ⟨a,off0+(ax).toNat*1,none⟩)),(64,.int .u64 N),(65,.bool (decide (B.2≤N))),(66,.bool (decide (B.2≤N))),(67,.bool (decide (B.2≤N)))]) rfl
      obtain rfl:=Zw H;refine Zh (av _ _ ⟨_,_,rfl,(leR _),(S.fr' rfl)⟩)
     have H:=Zba H C;have S:=S.bool (t:=57) rfl C;have S:=S.bool (t:=58) rfl C;refine opn S rfl rfl rfl rfl fun f S=>opn S rfl rfl rfl rfl fun f S=>opn S rfl rfl rfl rfl fun f S=>opn S rfl rfl rfl rfl fun f S=>opn S rfl rfl rfl rfl fun f S=>opn S rfl rfl rfl rfl fun f S=>opn S rfl rfl rfl rfl fun f S=>opy S rfl rfl rfl rfl (ZJc S (b:=false) rfl rfl) fun f S=>ov S rfl (ZJc S (b:=false) rfl rfl) fun f S=>Zz ?_;have S:=S.fr' (σ':=[(0,.slice (some ⟨a,off0,none⟩) (e) h),(1,.slice (some ⟨r,s,none⟩) o p),(5,.int .i64 ((((Zc 18446744073709551616 v)).length:Int))),(6,.int .u64 q),(7,.int .u64 l),(55,.int .u64 (B.1)),(56,.int .u64 l),(57,.bool false),(58,.bool false),(59,undef),(60,undef),(61,undef),(62,undef),(63,undef),(64,undef),(65,undef),(66,.bool false),(67,.bool false)]) rfl;obtain rfl:=Zw H;refine Zh (av _ _ ⟨_,_,rfl,(leR _),(S.fr' rfl)⟩)
    rintro f w ⟨ad,au,hq,P,S⟩;subst hq;have H:=bM;have d:=ZX P d;refine Zh (bI _ _ ?_);rcases Zea (ad) with Q | Q
    ·have H:=Zca H Q;refine Zta S rfl Q (wp_exit (Zvb (Z3r rfl ?_)));obtain rfl:=Zw H;have hq:=aS _ rfl;subst hq;have H:=aQ;refine Zvb (Z6d ?_);obtain rfl:=Zw H;refine Zh (aP _ _ ⟨_,_,rfl,(leT (leT (leT (leR _) L) E) P),(S.fr' rfl),aR⟩)
    have H:=Zba H Q;refine Z5 S rfl Q (wp_skip (Zh (bH _ _ (sr (mv S rfl fun f S=>ov S rfl (Zu S rfl rfl Zep) fun f S=>mw S rfl fun f S=>oe (sr (mw S rfl fun f S=>oe (Zp fun _ bQ=>bO H fun cL bR H=>bO H fun bS ay H=>?_))))))));refine bO H fun bT aV H=>ZA (mv S rfl fun f S=>mv S rfl fun f S=>mv S rfl fun f S=>ov S rfl (Zu S rfl rfl (ZIb bR)) fun f S=>?_);have g:=ZOa (leT E P) g;obtain ⟨cM,bU,bV⟩:=ZCp g (Zr ay).2.1;obtain ⟨rfl,cN⟩:=bV;refine ov S rfl (ZGa S rfl rfl Zva (Zr ay).1 (ltI (Zrb g) (Zr ay).2.2.1)) fun f S=>ov S rfl (ZDb S rfl ZTb (S.view bU)) fun f S=>ov S rfl (ZEc S [.int .u64 l,.int .u64 bS,.int .u64 0] (Zon ZSp aV) rfl rfl) fun f S=>mv S rfl fun f S=>ov S rfl (Zga S rfl rfl) fun f S=>ov S rfl (Zga S rfl rfl) fun f S=>mw S rfl fun f S=>mw S rfl fun f S=>Zz (Zh (bQ _ _ (sr (mv S rfl fun f S=>ov S rfl (Zu S rfl rfl ZVf) fun f S=>oe ?_))));rcases Zea (decide ((0:Int)<bT.2)) with R | R
    ·have H:=Zca H R;refine Zta S rfl R (wp_exit (Z3r rfl ?_));obtain rfl:=Zw H;have hq:=aS _ rfl;subst hq;have H:=aQ;refine Zvb (Z6d ?_);obtain rfl:=Zw H;refine Zh (aP _ _ ⟨_,_,rfl,(leT (leT (leT (leR _) L) E) P),(S.fr' rfl),(ZEb _ _)⟩)
    have H:=Zba H R;refine Z5 S rfl R (wp_skip (Zcd ?_));obtain rfl:=Zw H;refine bw _ rfl _ _ ⟨_,_,_,rfl,(leT (leT L E) P),(S.fr' rfl),(ZEb _ _),(Zjo aV)⟩
   rintro f w ⟨ac,an,hq,aW,S,bW⟩;subst hq;have H:=bt;have d:=ZX aW d;obtain rfl:=Zw H;refine Zh (aI _ _ ⟨_,_,rfl,(leT (leT (leR _) ab) aW),(S.fr' rfl),bW⟩)
  have H:=Zba H J;refine Z5 S rfl J (wp_skip ?_);obtain rfl:=Zw H;refine Zh (aI _ _ ⟨_,_,rfl,(leR _),(S.fr' rfl),(by decide)⟩)
 rintro f w ⟨W,I,hq,aX,S,bX⟩;subst hq;have H:=bc;have d:=ZX aX d;refine Zh (a4 _ _ (Zp fun _ bY=>?_));obtain ⟨bZ,b1,b2⟩:=Z9 H;refine ZHb (fun f w=>∃ af T az ag,(af,T)=bZ∧Zb.le I ag∧St 90 ⟨x,[a]⟩ m [(6,.int .u64 T)] [Loc.box a A (pre0++az++post0)] ag f w∧Rep.rels (Zd .u64) ag az af∧e=af.length∧inR .u64 T) (fun _ b3=>?_) ?_
 ·have H:=b1;refine wp_block ?_;obtain ⟨cO,b4,b5⟩:=Z9 H;refine Z5e b4 (fun b6 f w=>∃ ah D aA ai,(ah,D)=b6∧Zb.le I ai∧St 90 ⟨x,[a]⟩ m [(0,.slice (some ⟨a,off0,none⟩) (e) h),(1,.slice (some ⟨r,s,none⟩) o p),(6,.int .u64 D)] [Loc.box a A (pre0++aA++post0)] ai f w∧Rep.rels (Zd .u64) ai aA ah∧e=ah.length∧inR .u64 D) ⟨_,_,cs0,_,rfl,(leR _),(S.fr' rfl),d,k,bX⟩ ?_;rintro _ f w st ⟨ah,D,aA,ai,hq,aB,S,aC,b7,aY⟩ H cP b8 b9;subst hq;refine Zp fun _ ca=>Zp fun _ cb=>bO H fun cc ce H=>ZA (mv S rfl fun f S=>mv S rfl fun f S=>mv S rfl fun f S=>?_);have g:=ZOa (leT aX aB) g;refine Zuv S wn rfl zl (ZM S [.slice (some ⟨a,off0,none⟩) (e) h,.slice (some ⟨r,s,none⟩) o p,.int .u64 D] k_en150 rfl rfl) (i:=0) rfl rfl (take_c S.vin (S.boxAt (j:=0) rfl).1 G (S.boxAt (j:=0) rfl).2 b7 a3 aC g (show Rep.rel (Zd .u64) _ [.int .u64 D] D from (ZJ aY)) ce) ?_;rintro _ cQ f w aD ⟨⟨cR,rfl,cg⟩,ch,aE,ci,aZ,a0⟩ hSf;have aC:=ZX aD aC;have S:=hSf (Loc.box a A (pre0++aE++post0)) rfl ci ch;obtain rfl:=cg;refine ov S rfl (ZKt S rfl) fun f S=>Zz (Zh (cb _ _ ?_));rcases Zea (!(cc.1)) with U | U
  ·have H:=Zca H U;refine Zta S rfl U (wp_skip (Zh (ca _ _ (wp_block (ZA (mv S rfl fun f S=>ov S rfl (Zu S rfl rfl Zep) fun f S=>mw S rfl fun f S=>Zz (Zcd ?_)))))));obtain rfl:=Zw H;refine b8 _ rfl _ _ ⟨_,_,aE,_,rfl,(leT aB aD),(S.fr' rfl),a0,aZ,(ZEb _ _)⟩
  have H:=Zba H U;refine Z5 S rfl U (wp_exit (Zvb ?_));obtain rfl:=Zw H;have hq:=b9 _ rfl;subst hq;have H:=b5;refine Zvb (Z6d ?_);obtain rfl:=Zw H;refine Zh (b3 _ _ ⟨_,_,aE,_,rfl,(leT (leT (leR _) aB) aD),(S.fr' rfl),a0,aZ,aY⟩)
 rintro f w ⟨af,T,az,ag,hq,cS,S,cj,ck,cl⟩;subst hq;have H:=b2;refine Zh (bY _ _ (sr (mv S rfl fun f S=>mw S rfl fun f S=>oe (wp_ret ?_))));obtain rfl:=Zw H;refine Zqp S (ZYa rfl (ZN S rfl)) ⟨⟨[.int .u64 T],rfl,(ZJ cl)⟩,(S.boxAt (j:=0) rfl).2,_,(S.boxAt (j:=0) rfl).1,ck,cj⟩
theorem digit_c {d:World} {b:Zb} (hv:VIn b d) {a off0 c e:Nat} {f:TypeId} {pre0 cs0 post0:List Value} {u:(List Int)} (j:d.heap[a]? = some (.cells (pre0++cs0++post0).toArray f (0,0))) (k:off0=pre0.length) (l:b a=none) (m:c=u.length) (n:c≤e∧e≤maxLen) (g:Rep.rels (Zd .u64) b cs0 u) {h:List Value} {v:Nat} (o:Rep.rel Zx b h v) {z:Int×(List Int)} (hm:Zei u v=some z) :
  ZAd Tryz.prog 126 #[Value.slice (some ⟨a,off0,none⟩) c e,Zx.val h] d b [a] (fun y v' w'=>(∃ i,y=(Zd .u64).val i∧(Zd .u64).rel v' i z.1)∧v' a=none∧∃ cs,w'.heap[a]? = some (.cells (pre0++cs++post0).toArray f (0,0))∧c=z.2.length∧Rep.rels (Zd .u64) v' cs z.2) :=
 digit_w hv j k l m n g o (ZtB (Z3o g) hm)
set_option maxHeartbeats 4000000
noncomputable def left_q:FuncId×Con:=(125,⟨[.leaf 0,.int .i64],[.leaf 0],fun p=>Zhd p.1 p.2⟩)
theorem left_r:KR left_q:=ZB (C:=cf2 [(34,0)] [Zwf]) (.n (.two (.f (.j [0,1] [] [.s 14 (.dat .bool)] .no)) (.n (.f (.n (.j [] [] [.s 5 (.own 143 (.int .u64))] (.f (.l [1,23,24] [] [.s 5 (.own 143 (.int .u64)),.s 25 (.dat (.int .i64))] 0 [] [] [.s 5 (.own 143 (.int .u64))] .no)))))))) Tryz.func125 [] (fun v vals x z ha hz=>.trans (by kernel_rfl) (ZDw hz)) ⟨ZHh,tr⟩
theorem Znk {e:World} {b:Zb} (hv:VIn b e) {c:List Value} {a:Nat} (g:Rep.rel Zx b c a) {d:List Value} {n:Int} (h:Rep.rel (Zd .i64) b d n) {z:Nat} (hm:Zhd a n=some z) :
  Ret Tryz.prog 125 #[Zx.val c,(Zd .i64).val d] e b (fun y v'=>∃ f,y=Zx.val f∧Zx.rel v' f z) :=
 (left_r e b [Zx.val c,(Zd .i64).val d] (a,n) z hv ⟨c,_,rfl,g,d,rfl,h⟩ hm).2
theorem lz64_c {c:World} {a:Zb} (hv:VIn a c) {b:List Value} {x:Int} (e:Rep.rel (Zd .u64) a b x) {z:Int} (hm:Zbe x=some z) :
  Ret Tryz.prog 124 #[(Zd .u64).val b] c a (fun y v'=>∃ d,y=(Zd .i64).val d∧(Zd .i64).rel v' d z) :=
 (Zys c a [(Zd .u64).val b] (x) z hv ⟨b,rfl,e⟩ hm).2
noncomputable def right_q:FuncId×Con:=(127,⟨[.leaf 0,.int .i64],[.leaf 0],fun p=>ZGg p.1 p.2⟩)
theorem right_r:KR right_q:=ZB (C:=cf2 [(34,0)] [Zwf]) (.n (.n (.n (.f (.n (.j [] [] [.s 5 (.own 143 (.int .u64))] (.f (.l [0,1,19] [] [.s 5 (.own 143 (.int .u64)),.s 20 (.dat (.int .i64))] 0 [] [] [.s 5 (.own 143 (.int .u64))] (.f (.n (.n (.f (.f (.n (.n (.n (.j [0,1,19,20] [] [.s 5 (.own 143 (.int .u64))] .no))))))))))))))))) Tryz.func127 [] (fun v vals x z ha hz=>by obtain ⟨c0,w0,e0,p0,c1,e1,p1⟩:=ha;exact .trans (by kernel_rfl) (ZFx p1.2 hz)) ⟨ZHh,tr⟩
theorem right_c {e:World} {b:Zb} (hv:VIn b e) {c:List Value} {a:Nat} (g:Rep.rel Zx b c a) {d:List Value} {n:Int} (h:Rep.rel (Zd .i64) b d n) {z:Nat} (hm:ZGg a n=some z) :
  Ret Tryz.prog 127 #[Zx.val c,(Zd .i64).val d] e b (fun y v'=>∃ f,y=Zx.val f∧Zx.rel v' f z) :=
 (right_r e b [Zx.val c,(Zd .i64).val d] (a,n) z hv ⟨c,_,rfl,g,d,rfl,h⟩ hm).2
theorem Zvv {c:World} {a:Zb} (hv:VIn a c) {b:List Value} {n:Int} (e:Rep.rel (Zd .u64) a b n) {z:Nat} (hm:Zrc n=some z) :
  Ret Tryz.prog 88 #[(Zd .u64).val b] c a (fun y v'=>∃ d,y=Zx.val d∧Zx.rel v' d z) :=
 (ZZv c a [(Zd .u64).val b] (n) z hv ⟨b,rfl,e⟩ hm).2
theorem Zxx {w0:World} {F:Zb} (hv:VIn F w0) {c0:List Value} {a:Nat} (m:Rep.rel Zx F c0 a) {c1:List Value} {b:Nat} (g:Rep.rel Zx F c1 b) {z:Nat×Nat} (H:ZMi a b=some z):Ret Tryz.prog 86 #[Zx.val c0,Zx.val c1] w0 F (fun y v'=>∃ r0 r1,y = .tuple #[Zx.val r0,Zx.val r1]∧Zx.rel v' r0 z.1∧Zx.rel v' r1 z.2):=by
 obtain ⟨R,T,U,rfl⟩:=ZNa m;obtain ⟨q4,n5,k6,rfl⟩:=ZNa g;refine ZRb (K:=84) (args:=[.slice R T U,.slice q4 n5 k6]) hv Tryz.func86 rfl rfl zl fun f S=>?_;unfold ZMi at H;refine sr (mw S rfl fun f S=>mw S rfl fun f S=>oe (Zp fun _ bc=>wp_block (Zp fun _ bd=>bO H fun be bf H=>ZA (mv S rfl fun f S=>mv S rfl fun f S=>opc S rfl (ZM S [.slice R T U,.slice q4 n5 k6] Z6p rfl rfl) (cmp_c S.vin m g bf) ?_))));rintro _ c2 f w aj ⟨c3,rfl,bg⟩ S;obtain ⟨rfl,c4⟩:=bg;refine ov S rfl (Zu S rfl rfl Zdd) fun f S=>mw S rfl fun f S=>Zz (Zh (bd _ _ ?_));rcases Zea (decide (be<(0:Int))) with V | V
 ·have H:=Zca H V;refine Zta S rfl V (sr (mv S rfl fun f S=>mw S rfl fun f S=>mw S rfl fun f S=>oe (wp_ret (ZMh (Z6b ?_)))));obtain rfl:=Zw H;have m:=ZOa aj m;refine Zya S (Ztc rfl (ZN S rfl) (ZN S rfl)) ⟨[.slice none 0 0],[.slice R T U],rfl,(ZZg _),m⟩
 have H:=Zba H V;refine Z5 S rfl V (sr (mv S rfl fun f S=>?_));have g:=ZOa aj g;refine ov S rfl (Zyc S (Zrb g) rfl rfl Zva) fun f S=>ov S rfl (Zu S rfl rfl Zlg) fun f S=>mw S rfl fun f S=>oe ?_;rcases Zea (((((Zc 18446744073709551616 b)).length:Int))==(1:Int)) with W | W
 ·have H:=Zca H W;refine Zta S rfl W (Zp fun _ bh=>bO H fun au av H=>bO H fun ax bi H=>ZA (mv S rfl fun f S=>mv S rfl fun f S=>?_));obtain ⟨_,c5,c6,c7,rfl,ay,bj⟩:=ZRc g (Zr av).2.1;obtain ⟨rfl,bk⟩:=bj;refine ov S rfl (ZGa S rfl rfl Zva (Zr av).1 (ltI (Zrb g) (Zr av).2.2.1)) fun f S=>ov S rfl (ZDb S rfl ZTb (S.view ay)) fun f S=>?_;have m:=ZOa aj m;refine opc S rfl (ZM S [.slice R T U,.int .u64 au] Ztu rfl rfl) (Zsv S.vin m (show Rep.rel (Zd .u64) _ [.int .u64 au] au from (ZJ bk)) bi) ?_;rintro _ c8 f w bm ⟨c9,da,rfl,ak,bn⟩ S;have ay:=Atm bm ay;obtain ⟨aT,aU,aV,rfl⟩:=ZNa ak;obtain ⟨rfl,bo⟩:=bn;refine mv S rfl fun f S=>ov S rfl (Zga S rfl rfl) fun f S=>ov S rfl (Zga S rfl rfl) fun f S=>mw S rfl fun f S=>mw S rfl fun f S=>Zz (Zh (bh _ _ (Zp fun _ bp=>bO H fun db bq H=>ZA (mv S rfl fun f S=>mv S rfl fun f S=>opc S rfl (ZM S [.int .u64 (ax.2)] Z0q rfl rfl) (Zvv S.vin (show Rep.rel (Zd .u64) _ [.int .u64 (ax.2)] ax.2 from (ZJ bo)) bq) ?_))));rintro _ dc f w br ⟨dd,rfl,aW⟩ S;obtain ⟨aX,aY,aZ,rfl⟩:=ZNa aW;refine mw S rfl fun f S=>mw S rfl fun f S=>Zz ?_;have S:=S.fr' (σ':=[(4,.slice aT aU aV),(5,.slice aX aY aZ)]) rfl;refine Zh (bp _ _ (wp_ret (ZMh (Z6b ?_))))
  obtain rfl:=Zw H;have ak:=ZOa br ak;refine Zya S (Ztc rfl (ZN S rfl) (ZN S rfl)) ⟨[.slice aT aU aV],[.slice aX aY aZ],rfl,ak,aW⟩
 have H:=Zba H W;refine Z5 S rfl W (wp_skip (Zcd (Zh (bc _ _ (Zp fun _ bs=>bO H fun de bt H=>bO H fun az aA H=>bO H fun k bu H=>ZA (mv S rfl fun f S=>mv S rfl fun f S=>ov S rfl (Zyc S (Zrb g) rfl rfl Zva) fun f S=>ov S rfl (Zu S rfl rfl (ZIb bt)) fun f S=>?_))))));obtain ⟨_,bv,bw,df,rfl,aB,bx⟩:=ZRc g (Zr aA).2.1;obtain ⟨rfl,bz⟩:=bx;refine ov S rfl (ZGa S rfl rfl Zva (Zr aA).1 (ltI (Zrb g) (Zr aA).2.2.1)) fun f S=>ov S rfl (ZDb S rfl ZTb (S.view aB)) fun f S=>opc S rfl (ZM S [.int .u64 az] k_en124 rfl rfl) (lz64_c S.vin (show Rep.rel (Zd .u64) _ [.int .u64 az] az from (ZJ bz)) bu) ?_;rintro _ dg f w aC ⟨dh,rfl,bA⟩ S;have aB:=Atm aC aB;obtain ⟨rfl,aD⟩:=bA;refine mw S rfl fun f S=>Zz (Zh (bs _ _ (Zp fun _ bB=>bO H fun bC bD H=>ZA (mv S rfl fun f S=>mv S rfl fun f S=>?_))));have g:=ZOa aC g;refine opc S rfl (ZM S [.slice (some ⟨bv,bw,none⟩) n5 k6,.int .i64 k] Zam rfl rfl) (Znk S.vin g (show Rep.rel (Zd .i64) _ [.int .i64 k] k from (ZJ aD)) bD) ?_;rintro _ bE f w bG ⟨di,rfl,v⟩ S;obtain ⟨aE,aF,aG,rfl⟩:=ZNa v;refine mw S rfl fun f S=>Zz (Zh (bB _ _ (Zp fun _ bH=>bO H fun X bI H=>bO H fun dj bJ H=>bO H fun dk bK H=>ZA ?_)))
 obtain ⟨dl,w,bM,S⟩:=ZYg (P:=Tryz.prog) (t:=34) (e:=143) S (n:=0) (cs:=[]) (vals:=[]) (sz:=1) rfl (by decide) (fun _=>by kernel_rfl);have aH:Rep.rels (Zd .u64) bE [] []:=ZKf;refine Zsd wn rfl zl (bM rfl) S fun f S=>mv S rfl fun f S=>mv S rfl fun f S=>?_;have m:=ZOa (leT (leT aj aC) bG) m;refine opc S rfl (ZM S [.slice R T U,.int .i64 k] Zam rfl rfl) (Znk S.vin m (show Rep.rel (Zd .i64) _ [.int .i64 k] k from (ZJ aD)) bI) ?_;rintro _ al f w a0 ⟨dm,rfl,aI⟩ S;have aH:=ZX a0 aH;obtain ⟨dn,dp,dq,rfl⟩:=ZNa aI;have aJ:=S;obtain ⟨dr,ds,a1,w,bP,S,bQ⟩:=ZTg (ty:=34) (A:=(Zd .u64)) Zmj S (i:=0) (n':=(([]:(List Int))++((Zc 18446744073709551616 X))).length) rfl aI (appN rfl (Zrb aI)) (ZEe bJ) (by decide);have bR:=Zxc aH bQ;refine Zsd wn rfl zl (ZBe aJ rfl rfl bP) S fun f S=>?_;obtain ⟨dt,w,bS,S⟩:=ZYg S (n:=1) (cs:=[.int .u64 0]) (vals:=[(0,.int .u64 0)]) (sz:=1) rfl (by decide) (Zpt Zmj (x:=.int .u64 0) (cs:=[.int .u64 0]) rfl rfl (by decide));have aK:Rep.rels (Zd .u64) al [.int .u64 0] [(0:Int)]:=(Z8t (ZJ (by decide)) ZKf);refine Zsd wn rfl zl (bS rfl) S fun f S=>?_;have aJ:=S;obtain ⟨aL,aM,w,bT,S⟩:=ZMk (ty:=34) Zmj S (i:=1) (n':=((([]:(List Int))++((Zc 18446744073709551616 X)))++[(0:Int)]).length) rfl (Z2e aK rfl) (Zch S (j:=0) rfl) (ZZh aK) (appN rfl rfl) (ZEe bK) (by decide)
 have bU:=Zxc bR aK;refine Zsd wn rfl zl (ZBe aJ rfl rfl bT) S fun f S=>mw S rfl fun f S=>Zz ?_;have S:=S.fr' (σ':=[(8,.int .i64 k),(9,.slice aE aF aG),(10,.slice (mkA aL) (((([]:(List Int))++((Zc 18446744073709551616 X)))++[(0:Int)]).length) aM)]) rfl;refine Zh (bH _ _ (sr (mv S rfl fun f S=>?_)));have v:=ZOa a0 v;refine ov S rfl (Zyc S (Zrb v) rfl rfl Zva) fun f S=>mw S rfl fun f S=>oe (Zp fun _ bV=>bO H fun q bW H=>bO H fun du am H=>ZA (mv S rfl fun f S=>ov S rfl (Zyc S rfl rfl rfl Zva) fun f S=>mv S rfl fun f S=>ov S rfl (Zu S rfl rfl (ZIb bW)) fun f S=>?_));obtain ⟨aN,a2⟩:∃ c:List Value,c=(List.replicate (q).toNat [.int .u64 0]).flatten:=⟨_,rfl⟩;obtain ⟨a3,w,bX,S⟩:=Zmt Zmj S (l:=q) (c:=q) (Zfe am).1 (Zfe am).2.1 (Zfe am).2.2.1 (Zfe am).2.2.2 a2;have bY:Rep.rels (Zd .u64) al aN (List.replicate (q).toNat (0:Int)):=by rw [a2];exact ZTh (show Rep.rel (Zd .u64) _ [.int .u64 0] _ from (ZJ (by decide))) _
 refine Zsd wn rfl zl (bX rfl rfl) S fun f S=>mw S rfl fun f S=>Zz (Zh (bV _ _ (Zp fun _ bZ=>Zp fun _ b0=>bO H fun dw a4 H=>ZA (mv S rfl fun f S=>ov S rfl (Zyc S (repN (x:=(0:Int))) rfl rfl Zva) fun f S=>ov S rfl (Zu S rfl rfl (ZIb a4)) fun f S=>mw S rfl fun f S=>Zz (Zh (b0 _ _ ?_))))));obtain ⟨b1,b2,b3⟩:=Z9 H;refine ZHb (fun f w=>∃ G I J B L an Y M Z aO aa,(G,I)=b1∧Zb.le al aa∧St 84 w0 F [(8,.int .i64 k),(10,.slice (mkA J) B L),(12,.slice (mkA Y) M Z)] [Loc.own J 143 1 B L an,Loc.own Y 143 1 M Z aO] aa f w∧Rep.rels (Zd .u64) aa an G∧B=G.length∧Rep.rels (Zd .u64) aa aO I∧M=I.length) (fun _ b4=>?_) ?_
 ·have H:=b2;refine wp_block ?_;obtain ⟨dx,b5,b6⟩:=Z9 H;have S:=S.reorder (ℓ':=[Loc.own aL 143 1 (((([]:(List Int))++((Zc 18446744073709551616 X)))++[(0:Int)]).length) aM ((([]++a1)++[.int .u64 0])),Loc.own (some a3) 143 1 ((q).toNat) (q).toNat aN]) [2,0] rfl (by decide);refine Z5e b5 (fun b7 f w=>∃ ao N d ap C D s aq E ab o ac,(ao,N,d)=b7∧Zb.le al ac∧St 84 w0 F [(8,.int .i64 k),(9,.slice aE aF aG),(10,.slice (mkA ap) C D),(11,.int .i64 ((((Zc 18446744073709551616 bC)).length:Int))),(12,.slice (mkA aq) E ab),(13,.int .i64 d)] [Loc.own ap 143 1 C D s,Loc.own aq 143 1 E ab o] ac f w∧Rep.rels (Zd .u64) ac s ao∧C=ao.length∧Rep.rels (Zd .u64) ac o N∧E=N.length∧inR .i64 d) ⟨_,_,_,aL,((([]:(List Int))++((Zc 18446744073709551616 X)))++[(0:Int)]).length,aM,(([]++a1)++[.int .u64 0]),some a3,(q).toNat,(q).toNat,aN,_,rfl,(leR _),(S.fr' rfl),bU,rfl,bY,(repN (x:=(0:Int))),(Zib a4).2⟩ ?_;rintro _ f w st ⟨ao,N,d,ap,C,D,s,aq,E,ab,o,ac,hq,aP,S,ad,ae,af,ag,dy⟩ H dz b8 b9
  subst hq;refine Zp fun _ ca=>sr (mv S rfl fun f S=>ov S rfl (Zu S rfl rfl ZHi) fun f S=>oe ?_);rcases Zea (decide ((0:Int)≤d)) with ah | ah
  ·have H:=Zca H ah;refine Zta S rfl ah (wp_skip (Zh (ca _ _ (Zp fun _ cb=>wp_block (bO H fun dA cc H=>bO H fun O ce H=>bO H fun dB h H=>bO H fun u cg H=>bO H fun dC Q H=>ZA (mv S rfl fun f S=>mv S rfl fun f S=>mv S rfl fun f S=>?_))))));refine mv S rfl fun f S=>mv S rfl fun f S=>mv S rfl fun f S=>ov S rfl (Zu S rfl rfl (ZTc cc)) fun f S=>ov S rfl (Zu S rfl rfl (ZTc ce)) fun f S=>?_;obtain ⟨aQ,rfl⟩:=ZPd S (j:=0) rfl (by have:=ZXc h;have:=ae;omega);refine ov S rfl (ZXx S (j:=0) rfl Zva (ZXc h).1 (ZXc h).2.1 (by have:=(ZXc h).2.2.1;have:=ae;omega) rfl rfl rfl) fun f S=>mv S rfl fun f S=>?_;obtain ⟨pre399,post400,ch,ci,cj,ck,cl,cm⟩:=Z8y S (i:=0) (lo:=(d).toNat) (hi:=(O).toNat) rfl (ZXc h).2.2.2.2.2.1 (by have:=(ZXc h).2.2.2.2.2.2;have:=ae;omega);have v:=ZOa aP v;refine Zuv S wn rfl zl (ZM S [.slice (some ⟨aQ,(d).toNat*1,none⟩) ((O-d).toNat) (D-(d).toNat),.slice aE aF aG] k_en126 rfl rfl) (i:=0) rfl rfl (digit_c S.vin ch cj ci (ZXc h).2.2.2.2.1 ⟨Zdx (ZXc h).1 (ZXc h).2.1 ck,cl⟩ (Znw ad rfl (ZXc h).2.2.2.1) v cg) ?_;rintro _ a5 f w aR ⟨⟨dD,rfl,cn⟩,co,aS,cp,cq,a6⟩ hSf;have ad:=ZX aR ad
   have af:=ZX aR af;have a7:((O).toNat-(d).toNat)=u.2.length:=by have:=cq;have:=ZXc h;omega
   have S:=hSf (Loc.own (some aQ) 143 1 C D (List.take ((d).toNat*1) s++aS++List.drop ((O).toNat*1) s)) rfl (cm _ aS (Z2e a6 a7) cp) co;have cr:=ZNA (p:=(d).toNat) (r:=(O).toNat) (sz:=1) ad a6 rfl;have ct:=ZVB ae (ZXc h).2.2.2.2.2.1 (ZXc h).2.2.2.2.2.2 a7;obtain ⟨rfl,cu⟩:=cn;obtain ⟨cv,rfl⟩:=ZPd S (j:=1) rfl (posN ag (Zr Q).2.2.2);have a8:=Z2a af (Zr Q).2.1;obtain ⟨dE,cw⟩:∃ c,(List.take (Zd .u64).n (List.drop ((d).toNat*(Zd .u64).n) o))=c:=⟨_,rfl⟩;rw [cw] at a8;obtain ⟨rfl,dF⟩:=a8;refine ov S rfl (ZGa S rfl rfl Zva (Zr Q).1 (ltI ag (Zr Q).2.2.1)) fun f S=>?_;obtain ⟨w,cx,S⟩:=Z8d S ZTb (off:=0+(d).toNat*1) (z:=.int .u64 (u.1)) (cs:=[.int .u64 (u.1)]) (ZGd rfl) rfl (i:=1) rfl (ZBi S (j:=1) rfl (ltN ag (Zr Q).2.2.2)) (by first | rfl | simp [plain]);have cy:Rep.rels (Zd .u64) a5 (List.take (0+(d).toNat*1) o++[Value.int IntKind.u64 (u.1)]++List.drop (0+(d).toNat*1+1) o) (N.set (d).toNat u.1):=ZWh af (Zr Q).2.2.2 (show Rep.rel (Zd .u64) a5 [.int .u64 (u.1)] _ from (ZJ cu)) rfl rfl;have cz:E=(N.set (d).toNat u.1).length:=setN ag;refine Ztg wn rfl (cx rfl rfl) (Zz (Zcd (Zh (cb _ _ (bO H fun dG a9 H=>ZA (mv S rfl fun f S=>ov S rfl (Zu S rfl rfl (ZIb a9)) fun f S=>mw S rfl fun f S=>Zz ?_))))))
   obtain rfl:=Zw H;refine b8 _ rfl _ _ ⟨_,_,_,some aQ,C,D,(List.take ((d).toNat*1) s++aS++List.drop ((O).toNat*1) s),some cv,E,ab,(List.take (0+(d).toNat*1) o++[Value.int IntKind.u64 (u.1)]++List.drop (0+(d).toNat*1+1) o),_,rfl,(leT aP aR),(S.fr' rfl),cr,ct,cy,cz,(Zib a9).2⟩
  have H:=Zba H ah;refine Z5 S rfl ah (wp_exit (Zvb ?_));obtain rfl:=Zw H;have hq:=b9 _ rfl;subst hq;have H:=b6;refine Zvb (Z6d ?_);obtain rfl:=Zw H;refine Zh (b4 _ _ ⟨_,_,ap,C,D,s,aq,E,ab,o,_,rfl,(leT (leR _) aP),(S.fr' rfl),ad,ae,af,ag⟩)
 rintro f w ⟨G,I,J,B,L,an,Y,M,Z,aO,aa,hq,dH,S,ai,cA,cC,cD⟩;subst hq;have H:=b3;refine Zh (bZ _ _ (Zp fun _ cE=>bO H fun dI cF H=>bO H fun dJ cH H=>bO H fun dK cI H=>ZA (mv S rfl fun f S=>?_)));obtain ⟨dL,cJ,S,cK⟩:=S.pubSlice (i:=1) (A:=(Zd .u64)) (l:=I) (ℓ':=[Loc.own J 143 1 B L an]) rfl rfl cD cC rfl;have ai:=ZX cJ ai;refine opc S rfl (ZM S [.slice (mkA Y) M Z] Z1j rfl rfl) (ZQl S.vin (show Rep.rel (ZD (Zd .u64)) _ [.slice (mkA Y) M Z] I from cK) cF) ?_;rintro _ dM f w cL ⟨dN,rfl,ar⟩ S;have ai:=ZX cL ai;obtain ⟨cM,cN,cO,rfl⟩:=ZNa ar;refine mv S rfl fun f S=>?_;obtain ⟨dO,cP,S,cQ⟩:=S.pubSlice (i:=0) (A:=(Zd .u64)) (l:=G) (ℓ':=[]) rfl rfl cA ai rfl;refine opc S rfl (ZM S [.slice (mkA J) B L] Z1j rfl rfl) (ZQl S.vin (show Rep.rel (ZD (Zd .u64)) _ [.slice (mkA J) B L] G from cQ) cH) ?_;rintro _ dP f w cR ⟨dQ,rfl,ba⟩ S;obtain ⟨cS,cU,cV,rfl⟩:=ZNa ba;refine mv S rfl fun f S=>opc S rfl (ZM S [.slice cS cU cV,.int .i64 k] k_en127 rfl rfl) (right_c S.vin ba (show Rep.rel (Zd .i64) _ [.int .i64 k] k from (ZJ aD)) cI) ?_;rintro _ dR f w cW ⟨dS,rfl,bb⟩ S;obtain ⟨cX,cY,cZ,rfl⟩:=ZNa bb
 refine mw S rfl fun f S=>mw S rfl fun f S=>Zz (Zh (cE _ _ (wp_ret ?_)));obtain rfl:=Zw H;have ar:=ZOa (leT (leT cP cR) cW) ar;refine Zya S (Ztc rfl (ZN S rfl) (ZN S rfl)) ⟨[.slice cM cN cO],[.slice cX cY cZ],rfl,ar,bb⟩
theorem ZTw {d:World} {c:Zb} (hv:VIn c d) {e:List Value} {a:Nat} (i:Rep.rel Zx c e a) {f:List Value} {b:Nat} (j:Rep.rel Zx c f b) {z:Nat×Nat} (hm:Zre a b=some z) :
  Ret Tryz.prog 86 #[Zx.val e,Zx.val f] d c (fun y v'=>∃ g h,y=Value.tuple #[Zx.val g,Zx.val h]∧Zx.rel v' g z.1∧Zx.rel v' h z.2) :=
 Zxx hv i j (ZOw hm)
noncomputable def ZYk:FuncId×Con:=(86,⟨[.leaf 0,.leaf 0],[.leaf 0,.leaf 0],fun p=>Zre p.1 p.2⟩)
theorem ZIr:Zne Tryz.prog ZYk.1 ZYk.2:=fun w v vals x z hv ha hz=>by
 obtain ⟨c0,w0,e0,p0,c1,e1,p1⟩:=ha;subst e0;subst e1
 exact .inl ⟨fun _ _=>by kernel_rfl,Ret.mono (ZTw hv p0 p1 hz) fun y v' _ ⟨r0,r1,e,h0,h1⟩=>⟨_,e,r0,_,rfl,h0,r1,rfl,h1⟩⟩
noncomputable def Zds:FuncId×Con:=(123,⟨[.leaf 0,.leaf 0],[.int .u64],fun p=>Zwh p.1 p.2⟩)
theorem small_k:KQ Zds:=Zl (ZB (C:=cf2 [(34,0)] []) (.n (.n (.two (.n (.j [1] [] [.s 5 (.dat (.int .u64))] .no)) (.n (.f (.j [] [] [.s 5 (.dat (.int .u64))] (.f (.l [] [] [.s 5 (.dat (.int .u64)),.s 6 (.dat (.int .u64))] 0 [] [] [.s 5 (.dat (.int .u64))] .no)))))))) Tryz.func123 [] (fun v vals x z ha hz=>.trans (by kernel_rfl) (Z0w hz)))
noncomputable def gcd_q:FuncId×Con:=(84,⟨[.leaf 0,.leaf 0],[.leaf 0],fun p=>gcdF p.1 p.2⟩)
theorem gcd_k:KQ gcd_q:=Zl (ZB (C:=cf2 [(34,0)] [ZYk,Zuj,Zds]) (.n (.f (.cut ⟨⟨[],[],[]⟩,[(.norm,⟨[],[],[.s 0 (.dat (.leaf 0))]⟩),(.ret,⟨[],[],[.s 1000 (.dat (.leaf 0))]⟩)]⟩ (.f (.cut ⟨⟨[],[],[.s 0 (.dat (.leaf 0)),.s 1 (.dat (.leaf 0))]⟩,[(.ret,⟨[],[],[.s 1000 (.dat (.leaf 0))]⟩),(.exit 0,⟨[],[],[.s 0 (.dat (.leaf 0))]⟩)]⟩ (.f (.n (.f (.f (.f (.j [0,1] [] [.s 17 (.dat .bool)] .no))))))))))) Tryz.func84 [] (fun v vals x z ha hz=>.trans (by kernel_rfl) (gcdF_eq hz)) ⟨ZIr,Ztm,small_k,tr⟩)
noncomputable def Zsm:FuncId×Con:=(85,⟨[.leaf 0],[.bool],fun p=>ZSg p⟩)
theorem ZRu:KQ Zsm:=Zl (ZTl (C:=cf2 [] []) (.n (.f (.j [] [] [.s 2 (.dat .bool)] .no))) Tryz.func85 [] [.slice (.int .u64)] [.bool] (fun x=>((Zc 18446744073709551616 x))) (fun z=>z) (fun v vals x z ha hz=>.trans (by kernel_rfl) (Zqw.trans hz)))
noncomputable def ZEh:FuncId×Con:=(50,⟨[.leaf 2,.leaf 0],[.leaf 3],fun p=>ZUc p.1 p.2⟩)
theorem ZVp:KR ZEh:=ZB (C:=cf0 [gcd_q,Zsm,ZYk] [] [] []) (.n (.two (.n (.n (.j [2,4] [] [.s 1 (.dat (.leaf 0)),.l (.sl 2) (.box 36 (.dat (.pair .bool (.leaf 0))))] .no))) (.f (.n (.j [2,4] [] [.s 1 (.dat (.leaf 0))] .no))))) Tryz.func50 [] (fun v vals x z ha hz=>.trans (by kernel_rfl) (Z1y hz)) ⟨gcd_k,ZRu,ZIr,tr⟩
theorem Zfk:KQ ZEh:=Zl ZVp
noncomputable def ZWl:FuncId×Con:=(52,⟨[.leaf 0],[.leaf 0],fun p=>Zed p⟩)
theorem ZLn:KQ ZWl:=Zl (ZB (C:=cf0 [Zuj] [] [] []) .no Tryz.func52 [] (fun v vals x z ha hz=>.trans (by kernel_rfl) (Zvw hz)) ⟨Ztm,tr⟩)
noncomputable def ZZl:FuncId×Con:=(90,⟨[.int .u64,.int .u64,.int .u64],[.int .u64,.int .u64],fun p=>ZSb p.1 p.2.1 p.2.2⟩)
theorem ZBt:Zne Tryz.prog ZZl.1 ZZl.2:=fun w v vals x z _ ha hz=>by
 obtain ⟨c0,w0,e0,p0,c1,w1,e1,p1,c2,e2,p2⟩:=ha
 subst e0 e1 e2
 obtain ⟨rfl,h0⟩:=p0
 obtain ⟨rfl,h1⟩:=p1
 obtain ⟨rfl,h2⟩:=p2
 have p0:(Zd .u64).rel v [.int .u64 x.1] x.1:=⟨rfl,h0⟩
 have p1:(Zd .u64).rel v [.int .u64 x.2.1] x.2.1:=⟨rfl,h1⟩
 exact .inr ⟨.tuple #[.int .u64 z.1,.int .u64 z.2],fun w=>Zon (show Zqd Tryz.prog 90 add64Entry from ⟨_,Tryz.func90,by kernel_rfl,by kernel_rfl,by kernel_rfl,by kernel_rfl⟩) hz w,_,rfl,_,_,rfl,⟨rfl,Zjo hz⟩,_,rfl,⟨rfl,addW_hi p0.2 p1.2 hz⟩⟩
noncomputable def Z9g:FuncId×Con:=(53,⟨[.leaf 0,.leaf 0],[.leaf 0],fun p=>ZVc p.1 p.2⟩)
theorem ZIi:KQ Z9g:=Zl (ZB (C:=cf2 [(34,0)] [Zsm,ZJm,ZZl,Zwf]) (.n (.n (.n (.n (.f (.n (.j [] [] [.s 5 (.own 143 (.int .u64))] (.f (.l [1,26,27] [] [.s 5 (.own 143 (.int .u64)),.s 28 (.dat (.int .i64))] 0 [] [] [.s 5 (.own 143 (.int .u64))] (.f (.n (.n (.f (.f (.n (.n (.f (.n (.j [1,6,26,27,28] [] [.s 5 (.own 143 (.int .u64)),.s 8 (.dat (.int .u64))] (.f (.l [1,6,7,26,27,28,33,34] [] [.s 5 (.own 143 (.int .u64)),.s 8 (.dat (.int .u64)),.s 35 (.dat (.int .i64))] 2 [1,6,26,27,28] [] [.s 5 (.own 143 (.int .u64)),.s 8 (.dat (.int .u64))] .no))))))))))))))))))))) Tryz.func53 [] (fun v vals x z ha hz=>.trans (by kernel_rfl) (Z5x hz)) ⟨ZRu,mul64_k,ZBt,ZHh,tr⟩)
noncomputable def Zyf:FuncId×Con:=(87,⟨[.bool,.leaf 0],[.leaf 2],fun p=>Zhb p.1 p.2⟩)
theorem ZLr:KR Zyf:=ZB (C:=cf0 [] [] [] []) (.n (.f (.j [4] [] [.l (.sl 4) (.box 36 (.dat (.pair .bool (.leaf 0))))] .no))) Tryz.func87 [] (fun v vals x z ha hz=>.trans (by kernel_rfl) (Zky hz))
theorem Z7g:KQ Zyf:=Zl ZLr
noncomputable def Z4n:FuncId×Con:=(79,⟨[.leaf 2,.leaf 0],[.leaf 2],fun p=>Zof p.1 p.2⟩)
theorem ZMq:KQ Z4n:=Zl (ZB (C:=cf0 [Z9g,Zyf] [] [] []) .no Tryz.func79 [] (fun v vals x z ha hz=>.trans (by kernel_rfl) (Zmx hz)) ⟨ZIi,Z7g,tr⟩)
noncomputable def ZGs:FuncId×Con:=(120,⟨[.leaf 0,.leaf 0],[.leaf 0],fun p=>Zui p.1 p.2⟩)
theorem plus_k:KQ ZGs:=Zl (ZB (C:=cf2 [(34,0)] [ZZl]) (.n (.two (.n (.j [] [] [.s 0 (.dat (.leaf 0)),.s 1 (.dat (.leaf 0))] .no)) (.n (.n (.two (.n (.j [] [] [.s 5 (.own 143 (.int .u64)),.s 6 (.dat (.int .u64))] (.f (.l [1,23,24] [] [.s 5 (.own 143 (.int .u64)),.s 6 (.dat (.int .u64)),.s 25 (.dat (.int .i64))] 0 [] [] [.s 5 (.own 143 (.int .u64)),.s 6 (.dat (.int .u64))] (.f (.n (.n (.f (.f (.n (.n (.f (.n (.j [1,5,6,7,8,23,24,25] [] [.s 9 (.dat (.int .u64))] .no)))))))))))))) (.f (.n (.j [] [] [.s 5 (.own 143 (.int .u64))] .no)))))))) Tryz.func120 [] (fun v vals x z ha hz=>.trans (by kernel_rfl) (Zdy hz)) ⟨ZBt,tr⟩)
noncomputable def Z3m:FuncId×Con:=(148,⟨[.int .u64,.int .u64,.int .u64],[.int .u64,.int .u64],fun p=>ZXd p.1 p.2.1 p.2.2⟩)
theorem sub64_k:Zne Tryz.prog Z3m.1 Z3m.2:=fun w v vals x z _ ha hz=>by
 obtain ⟨c0,w0,e0,p0,c1,w1,e1,p1,c2,e2,p2⟩:=ha
 subst e0 e1 e2
 obtain ⟨rfl,h0⟩:=p0
 obtain ⟨rfl,h1⟩:=p1
 obtain ⟨rfl,h2⟩:=p2
 have p0:(Zd .u64).rel v [.int .u64 x.1] x.1:=⟨rfl,h0⟩
 have p1:(Zd .u64).rel v [.int .u64 x.2.1] x.2.1:=⟨rfl,h1⟩
 exact .inr ⟨.tuple #[.int .u64 z.1,.int .u64 z.2],fun w=>ZAr (show Zqd Tryz.prog 148 Zbm from ⟨_,Tryz.func148,by kernel_rfl,by kernel_rfl,by kernel_rfl,by kernel_rfl⟩) p0.2 p1.2 hz w,_,rfl,_,_,rfl,⟨rfl,ZMu hz⟩,_,rfl,⟨rfl,ZXv hz⟩⟩
noncomputable def Zfv:FuncId×Con:=(121,⟨[.leaf 0,.leaf 0],[.leaf 0],fun p=>Z2g p.1 p.2⟩)
theorem minus_k:KQ Zfv:=Zl (ZB (C:=cf2 [(34,0)] [Zwf,Z3m]) (.n (.n (.n (.f (.n (.j [] [] [.s 5 (.own 143 (.int .u64))] (.f (.l [1,13,14] [] [.s 5 (.own 143 (.int .u64)),.s 6 (.dat (.int .u64)),.s 15 (.dat (.int .i64))] 0 [] [] [.s 5 (.own 143 (.int .u64))] (.f (.n (.n (.f (.f (.n (.n (.f (.n (.j [1,5,6,7,8,13,14,15] [] [.s 9 (.dat (.int .u64))] .no)))))))))))))))))) Tryz.func121 [] (fun v vals x z ha hz=>.trans (by kernel_rfl) (ZiB hz)) ⟨ZHh,sub64_k,tr⟩)
noncomputable def Z2q:FuncId×Con:=(80,⟨[.leaf 2,.leaf 2],[.leaf 2],fun p=>ZRi p.1 p.2⟩)
theorem iplus_k:KQ Z2q:=Zl (ZB (C:=cf0 [ZOk,Zyf,ZGs,Zfv] [] [] []) .no Tryz.func80 [] (fun v vals x z ha hz=>.trans (by kernel_rfl) (ZKB hz)) ⟨cmp_k,Z7g,plus_k,minus_k,tr⟩)
noncomputable def ZJf:FuncId×Con:=(42,⟨[.leaf 3,.leaf 3],[.leaf 3],fun p=>ZUa p.1 p.2⟩)
theorem Z8f:KQ ZJf:=Zl (ZB (C:=cf0 [ZEh,ZWl,Z9g,Z4n,Z2q] [] [] []) .no Tryz.func42 [] (fun v vals x z ha hz=>.trans (by kernel_rfl) (ZSz hz)) ⟨Zfk,ZLn,ZIi,ZMq,iplus_k,tr⟩)
noncomputable def Zbs:FuncId×Con:=(122,⟨[.leaf 2],[.leaf 2],fun p=>Z3i p⟩)
theorem Z4x:KQ Zbs:=Zl (ZB (C:=cf0 [Zyf] [] [] []) .no Tryz.func122 [] (fun v vals x z ha hz=>.trans (by kernel_rfl) (Z5B hz)) ⟨Z7g,tr⟩)
noncomputable def Zff:FuncId×Con:=(81,⟨[.leaf 3],[.leaf 3],fun p=>Zeb p⟩)
theorem Zuf:KQ Zff:=Zl (ZB (C:=cf0 [Zbs] [] [] []) .no Tryz.func81 [] (fun v vals x z ha hz=>.trans (by kernel_rfl) (Zxy hz)) ⟨Z4x,tr⟩)
noncomputable def ZYf:FuncId×Con:=(54,⟨[.leaf 3,.leaf 3],[.leaf 3],fun p=>Zzb p.1 p.2⟩)
theorem Zug:KQ ZYf:=Zl (ZB (C:=cf0 [ZJf,Zff] [] [] []) .no Tryz.func54 [] (fun v vals x z ha hz=>.trans (by kernel_rfl) (ZaA hz)) ⟨Z8f,Zuf,tr⟩)
noncomputable def ZCe:FuncId×Con:=(19,⟨[.leaf 3,.leaf 3],[.int .i64],fun p=>Z3b p.1 p.2⟩)
theorem ZOf:KQ ZCe:=Zl (ZB (C:=cf0 [ZPc,ZYf] [] [] []) .no Tryz.func19 [] (fun v vals x z ha hz=>.trans (by kernel_rfl) (ZMw hz)) ⟨Znd,Zug,tr⟩)
noncomputable def Zwn:FuncId×Con:=(40,⟨[.pair (.leaf 3) (.slice (.pair (.leaf 3) (.leaf 3)))],[.int .i64],fun p=>Zti p⟩)
theorem Zot:KQ Zwn:=Zl (ZV (C:=cf0 [ZCe,ZPc] [] [] []) (.n (.n (.f (.n (.cut ⟨⟨[],[],[]⟩,[(.norm,⟨[],[],[]⟩),(.ret,⟨[],[],[.s 1000 (.dat (.int .i64))]⟩)]⟩ (.f (.cut ⟨⟨[1,16,17],[],[.s 18 (.dat (.int .i64))]⟩,[(.ret,⟨[],[],[.s 1000 (.dat (.int .i64))]⟩),(.exit 1,⟨[],[],[]⟩)]⟩ (.f (.n (.n (.f (.f (.n (.two (.f (.j [1,3,4,16,17,18] [] [.s 32 (.dat .bool)] .no)) (.f (.j [1,16,17,18] [] [.s 47 (.dat .bool)] .no)))))))))))))))) Tryz.func40 [] (fun _=>by kernel_rfl) ⟨ZOf,Znd,tr⟩)
noncomputable def ZXs:FuncId×Con:=(51,⟨[.leaf 2,.leaf 2],[.leaf 2],fun p=>ZJj p.1 p.2⟩)
theorem ZQw:KQ ZXs:=Zl (ZB (C:=cf0 [Z9g,Zyf] [] [] []) .no Tryz.func51 [] (fun v vals x z ha hz=>.trans (by kernel_rfl) (ZUy hz)) ⟨ZIi,Z7g,tr⟩)
noncomputable def Zoh:FuncId×Con:=(18,⟨[.leaf 3,.leaf 3],[.leaf 3],fun p=>ZHa p.1 p.2⟩)
theorem Z6i:KQ Zoh:=Zl (ZB (C:=cf0 [ZEh,ZXs,ZWl,Z9g] [] [] []) .no Tryz.func18 [] (fun v vals x z ha hz=>.trans (by kernel_rfl) (Zyx hz)) ⟨Zfk,ZQw,ZLn,ZIi,tr⟩)
noncomputable def ZYi:FuncId×Con:=(17,⟨[.leaf 3],[.bool],fun p=>Z2c p⟩)
theorem ZRk:KQ ZYi:=Zl (ZB (C:=cf0 [] [] [] []) .no Tryz.func17 [] (fun v vals x z ha hz=>.trans (by kernel_rfl) (ZOB hz)))
noncomputable def ZJg:FuncId×Con:=(82,⟨[.leaf 3,.leaf 3],[.leaf 3,.int .i64],fun p=>Zbd p.1 p.2⟩)
theorem ZUh:KQ ZJg:=Zl (ZB (C:=cf0 [ZYi,ZEh,ZWl,Z9g,Z4n,Zyf] [] [] []) (.n (.n (.f (.j [2,3,4] [] [.s 6 (.box 36 (.dat (.leaf 2)))] .no)))) Tryz.func82 [] (fun v vals x z ha hz=>.trans (by kernel_rfl) (Zzx hz)) ⟨ZRk,Zfk,ZLn,ZIi,ZMq,Z7g,tr⟩)
noncomputable def Zdl:FuncId×Con:=(44,⟨[.leaf 3,.leaf 3],[.leaf 3,.leaf 3],fun p=>ZBh p.1 p.2⟩)
theorem ZNn:KQ Zdl:=Zl (ZV (C:=cf0 [Zoh,Zeg,ZJf,ZJg] [] [] []) (.n (.n (.n (.f (.j [4,5,6,7] [] [.s 8 (.box 38 (.dat (.leaf 3)))] .no))))) Tryz.func44 [] (fun _=>by kernel_rfl) ⟨Z6i,Z2h,Z8f,ZUh,tr⟩)
noncomputable def ZKp:FuncId×Con:=(58,⟨[.pair (.leaf 3) (.slice (.pair (.leaf 3) (.leaf 3))),.leaf 3],[.leaf 3,.leaf 3],fun p=>Zph p.1 p.2⟩)
theorem Zwv:KQ ZKp:=Zl (ZV (C:=cf0 [Zoh,ZJf,Zdl] [] [] []) (.n (.n (.f (.n (.j [4,5,6,7] [] [.l (.sl 6) (.box 38 (.dat (.leaf 3))),.l (.sl 7) (.box 38 (.dat (.leaf 3)))] (.f (.l [3,4,5,6,7,16,17] [] [.l (.sl 6) (.box 38 (.dat (.leaf 3))),.l (.sl 7) (.box 38 (.dat (.leaf 3))),.s 18 (.dat (.int .i64))] 0 [4,5,6,7] [] [.l (.sl 6) (.box 38 (.dat (.leaf 3))),.l (.sl 7) (.box 38 (.dat (.leaf 3)))] .no))))))) Tryz.func58 [] (fun _=>by kernel_rfl) ⟨Z6i,Z8f,ZNn,tr⟩)
noncomputable def Zsr:FuncId×Con:=(24,⟨[.pair (.leaf 3) (.slice (.pair (.leaf 3) (.leaf 3))),.leaf 3],[.leaf 3,.leaf 3,.int .i64],fun p=>Zzr p.1 p.2⟩)
theorem Z7z:KQ Zsr:=Zl (ZV (C:=cf0 [Zwn,ZPc,ZKp] [] [] []) .no Tryz.func24 [] (fun _=>by kernel_rfl) ⟨Zot,Znd,Zwv,tr⟩)
theorem of_c {c:World} {a:Zb} (hv:VIn a c) {b:List Value} {n:Int} (e:Rep.rel (Zd .i64) a b n) {z:Int} (hm:ofF n=some z) :
  Ret Tryz.prog 57 #[(Zd .i64).val b] c a (fun y v'=>∃ d,y=Zyb.val d∧Zyb.rel v' d z) :=
 (of_r c a [(Zd .i64).val b] (n) z hv ⟨b,rfl,e⟩ hm).2
theorem over_c {e:World} {a:Zb} (hv:VIn a e) {b:List Value} {n:Int} (g:Rep.rel Zyb a b n) {c:List Value} {d:Nat} (h:Rep.rel Zx a c d) {z:Rat} (hm:ZUc n d=some z) :
  Ret Tryz.prog 50 #[Zyb.val b,Zx.val c] e a (fun y v'=>∃ f,y=ZU.val f∧ZU.rel v' f z) :=
 (ZVp e a [Zyb.val b,Zx.val c] (n,d) z hv ⟨b,_,rfl,g,c,rfl,h⟩ hm).2
theorem whole_c {d:World} {a:Zb} (hv:VIn a d) {b:List Value} {s:Bool} (f:Rep.rel Zxb a b s) {c:List Value} {n:Nat} (g:Rep.rel Zx a c n) {z:Int} (hm:Zhb s n=some z) :
  Ret Tryz.prog 87 #[Zxb.val b,Zx.val c] d a (fun y v'=>∃ e,y=Zyb.val e∧Zyb.rel v' e z) :=
 (ZLr d a [Zxb.val b,Zx.val c] (s,n) z hv ⟨b,_,rfl,f,c,rfl,g⟩ hm).2
theorem Zpr {b:World} {a:Zb} (hv:VIn a b) {c:List Value} {fv:Nat} (e:Rep.rel (ZE .f64) a c fv) {z:Nat} (H:ZWj fv=some z):Ret Tryz.prog 170 #[(ZE .f64).val c] b a (fun y v'=>∃ d,y=(ZE .f64).val d∧(ZE .f64).rel v' d z):=by
 obtain ⟨rfl,g⟩:=e;refine ZRb (K:=7) (args:=[.float .f64 fv]) hv Tryz.func170 rfl rfl zl fun f S=>?_;unfold ZWj at H;refine sr (mw S rfl fun f S=>oe (sr (mv S rfl fun f S=>ov S rfl (ZEc S [.float .f64 fv] (ZFj Zkj) rfl rfl) fun f S=>ov S rfl (Zu S rfl rfl ZNl) fun f S=>ov S rfl (ZEc S [.int .u64 (ZAc .u64 ((fv:Int)) (9223372036854775808:Int))] (Zki ZLi) rfl rfl) fun f S=>mw S rfl fun f S=>oe (wp_ret ?_))));obtain rfl:=Zw H;refine Zya S (ZYa rfl (ZN S rfl)) ⟨[.float .f64 ((ZAc .u64 ((fv:Int)) (9223372036854775808:Int)).toNat)],rfl,(Zka (ZJl (ZEb _ _)))⟩
theorem Zjv {d:World} {c:Zb} (hv:VIn c d) {e:List Value} {x:Nat} (i:Rep.rel (ZE .f64) c e x) {z:Nat×Int} (H:ZAl x=some z):Ret Tryz.prog 180 #[(ZE .f64).val e] d c (fun y v'=>∃ g a,y = .tuple #[(ZE .f64).val g,(Zd .i64).val a]∧(ZE .f64).rel v' g z.1∧(Zd .i64).rel v' a z.2):=by
 obtain ⟨rfl,a⟩:=i;refine ZRb (K:=10) (args:=[.float .f64 x]) hv Tryz.func180 rfl rfl zl fun f S=>?_;unfold ZAl at H;refine sr (mw S rfl fun f S=>mw S rfl fun f S=>oe (Zp fun _ j=>Zp fun _ k=>bO H fun l m H=>ZA (mv S rfl fun f S=>opc S rfl (ZM S [.float .f64 x] ZYv rfl rfl) (Zpr S.vin (show Rep.rel (ZE .f64) _ [.float .f64 x] x from (Zka a)) m) ?_)));rintro _ q f w r ⟨s,rfl,n⟩ S;obtain ⟨rfl,t⟩:=n;refine ov S rfl (Zer S rfl rfl) fun f S=>Zz (Zh (k _ _ ?_));rcases Zea (fLt .f64 l ((4503599627370496:Nat))) with b | b
 ·have H:=Zca H b;refine Zta S rfl b (Zp fun _ o=>bO H fun p h H=>ZA (mv S rfl fun f S=>ov S rfl (ZAv S rfl rfl h) fun f S=>mw S rfl fun f S=>mw S rfl fun f S=>Zz (Zh (o _ _ (wp_ret (Z6b ?_))))));obtain rfl:=Zw H;refine Zya S (Ztc rfl (ZN S rfl) (ZN S rfl)) ⟨[.float .f64 p],[.int .i64 (-52:Int)],rfl,(Zka (Z7e h).2),(ZJ (by decide))⟩
 have H:=Zba H b;refine Z5 S rfl b (wp_skip (Zh (j _ _ (sr (mv S rfl fun f S=>mw S rfl fun f S=>mw S rfl fun f S=>oe (wp_ret ?_))))));obtain rfl:=Zw H;refine Zya S (Ztc rfl (ZN S rfl) (ZN S rfl)) ⟨[.float .f64 x],[.int .i64 0],rfl,(Zka a),(ZJ (by decide))⟩
theorem ZQn {e:World} {a:Zb} (hv:VIn a e) {j:List Value} {fv:Nat} (q:Rep.rel (ZE .f64) a j fv) {k:List Value} {sign:Int} (r:Rep.rel (Zd .i64) a k sign) {z:Bool} (H:ZSh fv sign=some z):Ret Tryz.prog 152 #[(ZE .f64).val j,(Zd .i64).val k] e a (fun y v'=>∃ l,y=Zxb.val l∧Zxb.rel v' l z):=by
 obtain ⟨rfl,m⟩:=q;obtain ⟨rfl,J⟩:=r;refine ZRb (K:=15) (args:=[.float .f64 fv,.int .i64 sign]) hv Tryz.func152 rfl rfl zl fun f S=>?_;unfold ZSh at H;refine sr (mw S rfl fun f S=>oe (Zp fun _ s=>sr (mv S rfl fun f S=>ov S rfl (Zu S rfl rfl Zlg) fun f S=>oe ?_)));obtain ⟨t,u,v⟩:=Z9 H;refine ZHb (fun f w=>∃ b h,b=t∧Zb.le a h∧St 15 e a [(0,.float .f64 b)] [] h f w∧b<18446744073709551616) (fun _ n=>?_) ?_
 ·have H:=u;rcases Zea (sign==(0:Int)) with c | c
  ·have H:=Zca H c;refine Zta S rfl c (bO H fun L x H=>ZA (mv S rfl fun f S=>opc S rfl (ZM S [.float .f64 fv] ZYv rfl rfl) (Zpr S.vin (show Rep.rel (ZE .f64) _ [.float .f64 fv] fv from (Zka m)) x) ?_));rintro _ M f w A ⟨N,rfl,B⟩ S;obtain ⟨rfl,C⟩:=B;refine mw S rfl fun f S=>Zz ?_;obtain rfl:=Zw H;refine Zh (n _ _ ⟨_,_,rfl,(leT (leR _) A),(S.fr' rfl),C⟩)
  have H:=Zba H c;refine Z5 S rfl c (sr (mv S rfl fun f S=>ov S rfl (Zu S rfl rfl Zdd) fun f S=>oe ?_));obtain ⟨D,E,F⟩:=Z9 H;refine ZHb (fun f w=>∃ g i,g=D∧Zb.le a i∧St 15 e a [(0,.float .f64 g)] [] i f w∧g<18446744073709551616) (fun _ o=>?_) ?_
  ·have H:=E;rcases Zea (decide (sign<(0:Int))) with d | d
   ·have H:=Zca H d;refine Zta S rfl d (bO H fun O p H=>ZA (mv S rfl fun f S=>ov S rfl (Z8w S rfl p) fun f S=>mw S rfl fun f S=>Zz ?_));obtain rfl:=Zw H;refine Zh (o _ _ ⟨_,_,rfl,(leR _),(S.fr' rfl),(Z7e p).2⟩)
   have H:=Zba H d;refine Z5 S rfl d (wp_skip ?_);obtain rfl:=Zw H;refine Zh (o _ _ ⟨_,_,rfl,(leR _),(S.fr' rfl),m⟩)
  rintro f w ⟨g,i,hq,G,S,I⟩;subst hq;have H:=F;obtain rfl:=Zw H;refine Zh (n _ _ ⟨_,_,rfl,(leT (leR _) G),(S.fr' rfl),I⟩)
 rintro f w ⟨b,h,hq,P,S,Q⟩;subst hq;have H:=v;refine Zh (s _ _ (sr (mv S rfl fun f S=>ov S rfl (run_fGt S rfl rfl) fun f S=>mw S rfl fun f S=>oe (wp_ret ?_))));obtain rfl:=Zw H;refine Zya S (ZYa rfl (ZN S rfl)) ⟨[.bool (fGt .f64 b ((9218868437227405311:Nat)))],rfl,ZEj⟩
theorem ZXo {b:World} {a:Zb} (hv:VIn a b) {c:List Value} {fv:Nat} (e:Rep.rel (ZE .f64) a c fv) {z:Bool} (H:Z0f fv=some z):Ret Tryz.prog 151 #[(ZE .f64).val c] b a (fun y v'=>∃ d,y=Zxb.val d∧Zxb.rel v' d z):=by
 obtain ⟨rfl,g⟩:=e;refine ZRb (K:=6) (args:=[.float .f64 fv]) hv Tryz.func151 rfl rfl zl fun f S=>?_;unfold Z0f at H;refine sr (mw S rfl fun f S=>oe (sr (mv S rfl fun f S=>mv S rfl fun f S=>ov S rfl (run_fNe S rfl rfl) fun f S=>mw S rfl fun f S=>oe (wp_ret ?_))));obtain rfl:=Zw H;refine Zya S (ZYa rfl (ZN S rfl)) ⟨[.bool (fNe .f64 fv fv)],rfl,ZEj⟩
theorem frexp_w {j:World} {c:Zb} (hv:VIn c j) {l:List Value} {fv:Nat} (r:Rep.rel (ZE .f64) c l fv) {z:Nat×Int} (H:Zdo fv=some z):Ret Tryz.prog 172 #[(ZE .f64).val l] j c (fun y v'=>∃ m a,y = .tuple #[(ZE .f64).val m,(Zd .i64).val a]∧(ZE .f64).rel v' m z.1∧(Zd .i64).rel v' a z.2):=by
 obtain ⟨rfl,a⟩:=r;refine ZRb (K:=38) (args:=[.float .f64 fv]) hv Tryz.func172 rfl rfl zl fun f S=>?_;unfold Zdo at H;refine sr (mw S rfl fun f S=>mw S rfl fun f S=>oe (Zp fun _ s=>wp_block (sr (mv S rfl fun f S=>ov S rfl (Zdr S rfl rfl) fun f S=>mw S rfl fun f S=>oe ?_))));rcases Zea (fEq .f64 fv ((0:Nat))) with d | d
 ·have H:=Zca H d;refine Zta S rfl d (sr (mv S rfl fun f S=>mw S rfl fun f S=>mw S rfl fun f S=>oe (wp_ret (ZMh (Z6b ?_)))));obtain rfl:=Zw H;refine Zya S (Ztc rfl (ZN S rfl) (ZN S rfl)) ⟨[.float .f64 fv],[.int .i64 0],rfl,(Zka a),(ZJ (by decide))⟩
 have H:=Zba H d;refine Z5 S rfl d (Zp fun _ u=>?_);obtain ⟨v,x,A⟩:=Z9 H;refine ZHb (fun f w=>∃ h k,h=v∧Zb.le c k∧St 38 j c [(0,.float .f64 fv),(9,.bool h)] [] k f w) (fun _ n=>?_) ?_
 ·have H:=x;refine bO H fun B C H=>ZA (mv S rfl fun f S=>opc S rfl (ZM S [.float .f64 fv,.int .i64 0] Znp rfl rfl) (ZQn S.vin (show Rep.rel (ZE .f64) _ [.float .f64 fv] fv from (Zka a)) (show Rep.rel (Zd .i64) _ [.int .i64 0] (0:Int) from (ZJ (by decide))) C) ?_);rintro _ R f w o ⟨T,rfl,D⟩ S;obtain rfl:=D;refine mv S rfl fun f S=>?_;rcases Zea (B) with e | e
  ·have H:=Zca H e;have S:=S.bool (t:=12) rfl e;refine opn S rfl rfl rfl rfl fun f S=>opn S rfl rfl rfl rfl fun f S=>ov S rfl (ZJc S (b:=true) rfl rfl) fun f S=>mw S rfl fun f S=>Zz ?_;obtain rfl:=Zw H;refine Zh (n _ _ ⟨_,_,rfl,(leT (leR _) o),(S.fr' rfl)⟩)
  have H:=Zba H e;have S:=S.bool (t:=12) rfl e;refine bO H fun U E H=>opy S rfl rfl rfl rfl (ZK S rfl) fun f S=>Zjj S (Z3d S rfl rfl rfl zl) rfl zl (ZM S [.float .f64 fv] ZCn rfl rfl) (ZXo S.vin (show Rep.rel (ZE .f64) _ [.float .f64 fv] fv from (Zka a)) E) ?_;rintro _ V f w F ⟨W,rfl,G⟩ S;obtain rfl:=G;refine ov S rfl (ZJc S (b:=false) rfl rfl) fun f S=>mw S rfl fun f S=>Zz ?_;obtain rfl:=Zw H;refine Zh (n _ _ ⟨_,_,rfl,(leT (leT (leR _) o) F),(S.fr' rfl)⟩)
 rintro f w ⟨h,k,hq,X,S⟩;subst hq;have H:=A;refine Zh (u _ _ ?_);rcases Zea (h) with g | g
 ·have H:=Zca H g;refine Zta S rfl g (sr (mv S rfl fun f S=>mw S rfl fun f S=>mw S rfl fun f S=>oe (wp_ret (ZMh (Z6b ?_)))));obtain rfl:=Zw H;refine Zya S (Ztc rfl (ZN S rfl) (ZN S rfl)) ⟨[.float .f64 fv],[.int .i64 0],rfl,(Zka a),(ZJ (by decide))⟩
 have H:=Zba H g;refine Z5 S rfl g (wp_skip (Zcd (Zh (s _ _ (Zp fun _ I=>bO H fun i J H=>ZA (mv S rfl fun f S=>opc S rfl (ZM S [.float .f64 fv] Z3p rfl rfl) (Zjv S.vin (show Rep.rel (ZE .f64) _ [.float .f64 fv] fv from (Zka a)) J) ?_))))));rintro _ Y f w Z ⟨aa,ab,rfl,L,M⟩ S;obtain ⟨rfl,ac⟩:=L;obtain ⟨rfl,ad⟩:=M;refine mv S rfl fun f S=>ov S rfl (Zga S rfl rfl) fun f S=>ov S rfl (Zga S rfl rfl) fun f S=>mw S rfl fun f S=>mw S rfl fun f S=>Zz (Zh (I _ _ (sr (mv S rfl fun f S=>ov S rfl (ZEc S [.float .f64 i.1] (ZFj Zkj) rfl rfl) fun f S=>mw S rfl fun f S=>oe (Zp fun _ N=>bO H fun ae O H=>?_)))));refine bO H fun af P H=>bO H fun ag Q H=>bO H fun p q H=>ZA (mv S rfl fun f S=>mv S rfl fun f S=>ov S rfl (Zu S rfl rfl (Zum O)) fun f S=>ov S rfl (Zu S rfl rfl Ztl) fun f S=>ov S rfl (ZQd S rfl (ZSt _)) fun f S=>ov S rfl (Zu S rfl rfl (ZIb P)) fun f S=>ov S rfl (Zu S rfl rfl (ZTc Q)) fun f S=>ov S rfl (Zu S rfl rfl (ZTc q)) fun f S=>mw S rfl fun f S=>Zz ?_);refine Zh (N _ _ (sr (mv S rfl fun f S=>ov S rfl (Zu S rfl rfl ZNl) fun f S=>mw S rfl fun f S=>oe (sr (mv S rfl fun f S=>ov S rfl (Zu S rfl rfl ZCl) fun f S=>mw S rfl fun f S=>?_)))));have S:=S.fr' (σ':=[(3,.int .i64 p),(4,.int .u64 (orI .u64 (ZAc .u64 ((i.1:Int)) (9218868437227405312:Int)) (4602678819172646912:Int)))]) rfl
 refine oe (sr (mv S rfl fun f S=>ov S rfl (ZEc S [.int .u64 (orI .u64 (ZAc .u64 ((i.1:Int)) (9218868437227405312:Int)) (4602678819172646912:Int))] (Zki ZLi) rfl rfl) fun f S=>mw S rfl fun f S=>oe (wp_ret ?_)));obtain rfl:=Zw H;refine Zya S (Ztc rfl (ZN S rfl) (ZN S rfl)) ⟨[.float .f64 ((orI .u64 (ZAc .u64 ((i.1:Int)) (9218868437227405312:Int)) (4602678819172646912:Int)).toNat)],[.int .i64 p],rfl,(Zka (ZJl (ZEb _ _))),(ZJ (Zib q).2)⟩
theorem Frexp_w {c:World} {b:Zb} (hv:VIn b c) {d:List Value} {fv:Nat} (h:Rep.rel (ZE .f64) b d fv) {z:Nat×Int} (H:Z0m fv=some z):Ret Tryz.prog 153 #[(ZE .f64).val d] c b (fun y v'=>∃ e a,y = .tuple #[(ZE .f64).val e,(Zd .i64).val a]∧(ZE .f64).rel v' e z.1∧(Zd .i64).rel v' a z.2):=by
 obtain ⟨rfl,a⟩:=h;refine ZRb (K:=12) (args:=[.float .f64 fv]) hv Tryz.func153 rfl rfl zl fun f S=>?_;unfold Z0m at H;refine sr (mw S rfl fun f S=>mw S rfl fun f S=>oe (Zp fun _ i=>Z5 S rfl rfl (wp_skip (Zh (i _ _ (Zp fun _ j=>bO H fun g k H=>ZA (mv S rfl fun f S=>opc S rfl (ZM S [.float .f64 fv] k_en172 rfl rfl) (frexp_w S.vin (show Rep.rel (ZE .f64) _ [.float .f64 fv] fv from (Zka a)) k) ?_)))))));rintro _ p f w q ⟨r,s,rfl,l,m⟩ S;obtain ⟨rfl,n⟩:=l;obtain ⟨rfl,o⟩:=m;refine ov S rfl (Zga S rfl rfl) fun f S=>ov S rfl (Zga S rfl rfl) fun f S=>mw S rfl fun f S=>mw S rfl fun f S=>Zz (Zh (j _ _ (wp_ret ?_)));obtain rfl:=Zw H;refine Zya S (Ztc rfl (ZN S rfl) (ZN S rfl)) ⟨[.float .f64 g.1],[.int .i64 (g.2)],rfl,(Zka n),(ZJ o)⟩
theorem Zuw {b:World} {a:Zb} (hv:VIn a b) {c:List Value} {fv:Nat} (g:Rep.rel (ZE .f64) a c fv) {d:List Value} {sign:Nat} (h:Rep.rel (ZE .f64) a d sign) {z:Nat} (H:ZUn fv sign=some z):Ret Tryz.prog 181 #[(ZE .f64).val c,(ZE .f64).val d] b a (fun y v'=>∃ e,y=(ZE .f64).val e∧(ZE .f64).rel v' e z):=by
 obtain ⟨rfl,i⟩:=g;obtain ⟨rfl,j⟩:=h;refine ZRb (K:=13) (args:=[.float .f64 fv,.float .f64 sign]) hv Tryz.func181 rfl rfl zl fun f S=>?_;unfold ZUn at H;refine sr (mw S rfl fun f S=>oe (sr (mv S rfl fun f S=>ov S rfl (ZEc S [.float .f64 fv] (ZFj Zkj) rfl rfl) fun f S=>ov S rfl (Zu S rfl rfl ZNl) fun f S=>mv S rfl fun f S=>ov S rfl (ZEc S [.float .f64 sign] (ZFj Zkj) rfl rfl) fun f S=>ov S rfl (Zu S rfl rfl Ztl) fun f S=>ov S rfl (Zu S rfl rfl ZCl) fun f S=>ov S rfl (ZEc S [.int .u64 (orI .u64 (ZAc .u64 ((fv:Int)) (9223372036854775808:Int)) (ZJa .u64 ((sign:Int)) (9223372036854775808:Int)))] (Zki ZLi) rfl rfl) fun f S=>mw S rfl fun f S=>oe ?_)));refine wp_ret ?_;obtain rfl:=Zw H;refine Zya S (ZYa rfl (ZN S rfl)) ⟨[.float .f64 ((orI .u64 (ZAc .u64 ((fv:Int)) (9223372036854775808:Int)) (ZJa .u64 ((sign:Int)) (9223372036854775808:Int))).toNat)],rfl,(Zka (ZJl (ZEb _ _)))⟩
theorem Zwu {d:World} {b:Zb} (hv:VIn b d) {g:List Value} {sign:Int} (j:Rep.rel (Zd .i64) b g sign) {z:Nat} (H:Zql sign=some z):Ret Tryz.prog 182 #[(Zd .i64).val g] d b (fun y v'=>∃ h,y=(ZE .f64).val h∧(ZE .f64).rel v' h z):=by
 obtain ⟨rfl,p⟩:=j;refine ZRb (K:=8) (args:=[.int .i64 sign]) hv Tryz.func182 rfl rfl zl fun f S=>?_;unfold Zql at H;refine sr (mw S rfl fun f S=>oe (sr (mw S rfl fun f S=>oe (Zp fun _ k=>sr (mv S rfl fun f S=>ov S rfl (Zu S rfl rfl ZHi) fun f S=>oe ?_)))));obtain ⟨l,m,n⟩:=Z9 H;refine ZHb (fun f w=>∃ a e,a=l∧Zb.le b e∧St 8 d b [(3,.int .u64 a)] [] e f w∧inR .u64 a) (fun _ i=>?_) ?_
 ·have H:=m;rcases Zea (decide ((0:Int)≤sign)) with c | c
  ·have H:=Zca H c;refine Zta S rfl c (ZA (mw S rfl fun f S=>Zz ?_));obtain rfl:=Zw H;refine Zh (i _ _ ⟨_,_,rfl,(leR _),(S.fr' rfl),(by decide)⟩)
  have H:=Zba H c;refine Z5 S rfl c (ZA (mw S rfl fun f S=>Zz ?_));obtain rfl:=Zw H;refine Zh (i _ _ ⟨_,_,rfl,(leR _),(S.fr' rfl),(by decide)⟩)
 rintro f w ⟨a,e,hq,q,S,o⟩;subst hq;have H:=n;refine Zh (k _ _ (sr (mv S rfl fun f S=>ov S rfl (ZEc S [.int .u64 a] (Zki ZLi) rfl rfl) fun f S=>mw S rfl fun f S=>oe (wp_ret ?_))));obtain rfl:=Zw H;refine Zya S (ZYa rfl (ZN S rfl)) ⟨[.float .f64 a.toNat],rfl,(Zka (ZJl o))⟩
theorem ldexp_w {n:World} {c:Zb} (hv:VIn c n) {u:List Value} {frac:Nat} (I:Rep.rel (ZE .f64) c u frac) {v:List Value} {ex:Int} (J:Rep.rel (Zd .i64) c v ex) {z:Nat} (H:ZWm frac ex=some z):Ret Tryz.prog 174 #[(ZE .f64).val u,(Zd .i64).val v] n c (fun y v'=>∃ x,y=(ZE .f64).val x∧(ZE .f64).rel v' x z):=by
 obtain ⟨rfl,d⟩:=I;obtain ⟨rfl,r2⟩:=J;refine ZRb (K:=63) (args:=[.float .f64 frac,.int .i64 ex]) hv Tryz.func174 rfl rfl zl fun f S=>?_;unfold ZWm at H;refine sr (mw S rfl fun f S=>oe (Zp fun _ L=>wp_block (sr (mv S rfl fun f S=>ov S rfl (Zdr S rfl rfl) fun f S=>mw S rfl fun f S=>oe ?_))));rcases Zea (fEq .f64 frac ((0:Nat))) with e | e
 ·have H:=Zca H e;refine Zta S rfl e (sr (mv S rfl fun f S=>mw S rfl fun f S=>oe (wp_ret (ZMh (Z6b ?_)))));obtain rfl:=Zw H;refine Zya S (ZYa rfl (ZN S rfl)) ⟨[.float .f64 frac],rfl,(Zka d)⟩
 have H:=Zba H e;refine Z5 S rfl e (Zp fun _ M=>?_);obtain ⟨N,O,P⟩:=Z9 H;refine ZHb (fun f w=>∃ o r,o=N∧Zb.le c r∧St 63 n c [(0,.float .f64 frac),(1,.int .i64 ex),(12,.bool o)] [] r f w) (fun _ A=>?_) ?_
 ·have H:=O;refine bO H fun Q R H=>ZA (mv S rfl fun f S=>opc S rfl (ZM S [.float .f64 frac,.int .i64 0] Znp rfl rfl) (ZQn S.vin (show Rep.rel (ZE .f64) _ [.float .f64 frac] frac from (Zka d)) (show Rep.rel (Zd .i64) _ [.int .i64 0] (0:Int) from (ZJ (by decide))) R) ?_);rintro _ aN f w B ⟨aO,rfl,T⟩ S;obtain rfl:=T;refine mv S rfl fun f S=>?_;rcases Zea (Q) with g | g
  ·have H:=Zca H g;have S:=S.bool (t:=15) rfl g;refine opn S rfl rfl rfl rfl fun f S=>opn S rfl rfl rfl rfl fun f S=>ov S rfl (ZJc S (b:=true) rfl rfl) fun f S=>mw S rfl fun f S=>Zz ?_;obtain rfl:=Zw H;refine Zh (A _ _ ⟨_,_,rfl,(leT (leR _) B),(S.fr' rfl)⟩)
  have H:=Zba H g;have S:=S.bool (t:=15) rfl g;refine bO H fun aP U H=>opy S rfl rfl rfl rfl (ZK S rfl) fun f S=>Zjj S (Z3d S rfl rfl rfl zl) rfl zl (ZM S [.float .f64 frac] ZCn rfl rfl) (ZXo S.vin (show Rep.rel (ZE .f64) _ [.float .f64 frac] frac from (Zka d)) U) ?_;rintro _ aQ f w V ⟨aR,rfl,W⟩ S;obtain rfl:=W;refine ov S rfl (ZJc S (b:=false) rfl rfl) fun f S=>mw S rfl fun f S=>Zz ?_;obtain rfl:=Zw H;refine Zh (A _ _ ⟨_,_,rfl,(leT (leT (leR _) B) V),(S.fr' rfl)⟩)
 rintro f w ⟨o,r,hq,aS,S⟩;subst hq;have H:=P;refine Zh (M _ _ ?_);rcases Zea (o) with h | h
 ·have H:=Zca H h;refine Zta S rfl h (sr (mv S rfl fun f S=>mw S rfl fun f S=>oe (wp_ret (ZMh (Z6b ?_)))));obtain rfl:=Zw H;refine Zya S (ZYa rfl (ZN S rfl)) ⟨[.float .f64 frac],rfl,(Zka d)⟩
 have H:=Zba H h;refine Z5 S rfl h (wp_skip (Zcd (Zh (L _ _ (Zp fun _ X=>bO H fun a Y H=>ZA (mv S rfl fun f S=>opc S rfl (ZM S [.float .f64 frac] Z3p rfl rfl) (Zjv S.vin (show Rep.rel (ZE .f64) _ [.float .f64 frac] frac from (Zka d)) Y) ?_))))));rintro _ Z f w aT ⟨aU,aV,rfl,aa,ab⟩ S;obtain ⟨rfl,ac⟩:=aa;obtain ⟨rfl,aW⟩:=ab;refine mv S rfl fun f S=>ov S rfl (Zga S rfl rfl) fun f S=>ov S rfl (Zga S rfl rfl) fun f S=>mw S rfl fun f S=>mw S rfl fun f S=>Zz (Zh (X _ _ (Zp fun _ ad=>bO H fun aX ae H=>ZA (mv S rfl fun f S=>mv S rfl fun f S=>ov S rfl (Zu S rfl rfl (ZTc ae)) fun f S=>mw S rfl fun f S=>?_))));refine Zz (Zh (ad _ _ (sr (mv S rfl fun f S=>ov S rfl (ZEc S [.float .f64 a.1] (ZFj Zkj) rfl rfl) fun f S=>mw S rfl fun f S=>oe (Zp fun _ af=>bO H fun aY ag H=>bO H fun aZ ah H=>bO H fun i C H=>ZA (mv S rfl fun f S=>mv S rfl fun f S=>?_))))));refine ov S rfl (Zu S rfl rfl (Zum ag)) fun f S=>ov S rfl (ZQd S rfl (ZSt _)) fun f S=>ov S rfl (Zu S rfl rfl Ztl) fun f S=>ov S rfl (Zu S rfl rfl (ZIb ah)) fun f S=>ov S rfl (Zu S rfl rfl (ZTc C)) fun f S=>mw S rfl fun f S=>Zz (Zh (af _ _ (Zp fun _ ai=>sr (mv S rfl fun f S=>ov S rfl (Zu S rfl rfl Zdd) fun f S=>oe ?_))))
 rcases Zea (decide (i<(-1075:Int))) with j | j
 ·have H:=Zca H j;refine Zta S rfl j (Zp fun _ aj=>bO H fun D ak H=>ZA (mv S rfl fun f S=>opc S rfl (ZM S [.float .f64 ((0:Nat)),.float .f64 a.1] k_en181 rfl rfl) (Zuw S.vin (show Rep.rel (ZE .f64) _ [.float .f64 ((0:Nat))] ((0:Nat)) from (Zka (by decide))) (show Rep.rel (ZE .f64) _ [.float .f64 a.1] a.1 from (Zka ac)) ak) ?_));rintro _ a0 f w a1 ⟨a2,rfl,al⟩ S;obtain ⟨rfl,am⟩:=al;refine mw S rfl fun f S=>Zz ?_;have S:=S.fr' (σ':=[(4,.float .f64 D)]) rfl;refine Zh (aj _ _ (wp_ret (Z6b ?_)));obtain rfl:=Zw H;refine Zya S (ZYa rfl (ZN S rfl)) ⟨[.float .f64 D],rfl,(Zka am)⟩
 have H:=Zba H j;refine Z5 S rfl j (wp_skip (Zh (ai _ _ (Zp fun _ an=>sr (mv S rfl fun f S=>ov S rfl (Zu S rfl rfl ZVf) fun f S=>?_)))));have S:=S.fr' (σ':=[(0,.float .f64 a.1),(1,.int .i64 i),(6,.int .u64 ((a.1:Int))),(42,.bool (decide ((1023:Int)<i)))]) rfl;refine oe ?_;rcases Zea (decide ((1023:Int)<i)) with k | k
 ·have H:=Zca H k;refine Zta S rfl k (Zp fun _ ao=>sr (mv S rfl fun f S=>ov S rfl (Zer S rfl rfl) fun f S=>oe ?_));rcases Zea (fLt .f64 a.1 ((0:Nat))) with l | l
  ·have H:=Zca H l;refine Zta S rfl l (Zp fun _ ap=>bO H fun aq ar H=>ZA (opc S rfl (ZM S [.int .i64 (-1:Int)] Ziq rfl rfl) (Zwu S.vin (show Rep.rel (Zd .i64) _ [.int .i64 (-1:Int)] (-1:Int) from (ZJ (by decide))) ar) ?_));rintro _ a3 f w a4 ⟨a5,rfl,au⟩ S;obtain ⟨rfl,av⟩:=au;refine mw S rfl fun f S=>Zz (Zh (ap _ _ (wp_ret (Z6b (Z6b ?_)))));obtain rfl:=Zw H;refine Zya S (ZYa rfl (ZN S rfl)) ⟨[.float .f64 aq],rfl,(Zka av)⟩
  have H:=Zba H l;refine Z5 S rfl l (wp_skip (Zh (ao _ _ (Zp fun _ ax=>bO H fun ay az H=>ZA (opc S rfl (ZM S [.int .i64 1] Ziq rfl rfl) (Zwu S.vin (show Rep.rel (Zd .i64) _ [.int .i64 1] (1:Int) from (ZJ (by decide))) az) ?_)))));rintro _ a6 f w a7 ⟨a8,rfl,aA⟩ S;obtain ⟨rfl,aB⟩:=aA;refine mw S rfl fun f S=>Zz (Zh (ax _ _ (wp_ret (Z6b ?_))));obtain rfl:=Zw H;refine Zya S (ZYa rfl (ZN S rfl)) ⟨[.float .f64 ay],rfl,(Zka aB)⟩
 have H:=Zba H k;refine Z5 S rfl k (wp_skip (Zh (an _ _ (sr (mw S rfl fun f S=>oe (Zp fun _ aC=>sr (mv S rfl fun f S=>ov S rfl (Zu S rfl rfl Zdd) fun f S=>oe ?_)))))));obtain ⟨aD,aE,aF⟩:=Z9 H;refine ZHb (fun f w=>∃ p q s,(p,q)=aD∧Zb.le Z s∧St 63 n c [(1,.int .i64 p),(6,.int .u64 ((a.1:Int))),(7,.float .f64 q)] [] s f w∧inR .i64 p∧q<18446744073709551616) (fun _ E=>?_) ?_
 ·have H:=aE;rcases Zea (decide (i<(-1022:Int))) with m | m
  ·have H:=Zca H m;refine Zta S rfl m (Zp fun _ aG=>bO H fun a9 F H=>ZA (mv S rfl fun f S=>ov S rfl (Zu S rfl rfl (ZTc F)) fun f S=>mw S rfl fun f S=>Zz (Zh (aG _ _ (ZA (mw S rfl fun f S=>Zz ?_))))));obtain rfl:=Zw H;refine Zh (E _ _ ⟨_,_,_,rfl,(leR _),(S.fr' rfl),(Zib F).2,(by decide)⟩)
  have H:=Zba H m;refine Z5 S rfl m (wp_skip ?_);obtain rfl:=Zw H;refine Zh (E _ _ ⟨_,_,_,rfl,(leR _),(S.fr' rfl),(Zib C).2,(by decide)⟩)
 rintro f w ⟨p,q,s,hq,ba,S,bb,bc⟩;subst hq;have H:=aF;refine Zh (aC _ _ (sr (mv S rfl fun f S=>ov S rfl (Zu S rfl rfl ZNl) fun f S=>mw S rfl fun f S=>oe (Zp fun _ aH=>bO H fun bd aI H=>bO H fun aJ aK H=>ZA (mv S rfl fun f S=>mv S rfl fun f S=>ov S rfl (Zu S rfl rfl (ZTc aI)) fun f S=>ov S rfl (ZQd S rfl (ZPB _)) fun f S=>?_)))));refine ov S rfl (Zu S rfl rfl (Zoq aK)) fun f S=>ov S rfl (Zu S rfl rfl ZCl) fun f S=>mw S rfl fun f S=>Zz (Zh (aH _ _ (Zp fun _ aL=>bO H fun aM G H=>ZA (mv S rfl fun f S=>mv S rfl fun f S=>ov S rfl (ZEc S [.int .u64 (orI .u64 (ZAc .u64 ((a.1:Int)) (9218868437227405312:Int)) aJ)] (Zki ZLi) rfl rfl) fun f S=>ov S rfl (ZAv S rfl rfl G) fun f S=>mw S rfl fun f S=>Zz ?_))));refine Zh (aL _ _ (wp_ret ?_));obtain rfl:=Zw H;refine Zya S (ZYa rfl (ZN S rfl)) ⟨[.float .f64 aM],rfl,(Zka (Z7e G).2)⟩
theorem Ldexp_w {b:World} {a:Zb} (hv:VIn a b) {c:List Value} {frac:Nat} (g:Rep.rel (ZE .f64) a c frac) {d:List Value} {ex:Int} (h:Rep.rel (Zd .i64) a d ex) {z:Nat} (H:ZSn frac ex=some z):Ret Tryz.prog 154 #[(ZE .f64).val c,(Zd .i64).val d] b a (fun y v'=>∃ e,y=(ZE .f64).val e∧(ZE .f64).rel v' e z):=by
 obtain ⟨rfl,i⟩:=g;obtain ⟨rfl,j⟩:=h;refine ZRb (K:=11) (args:=[.float .f64 frac,.int .i64 ex]) hv Tryz.func154 rfl rfl zl fun f S=>?_;unfold ZSn at H;refine sr (mw S rfl fun f S=>oe (Zp fun _ k=>Z5 S rfl rfl (wp_skip (Zh (k _ _ (Zp fun _ l=>bO H fun m n H=>ZA (mv S rfl fun f S=>mv S rfl fun f S=>opc S rfl (ZM S [.float .f64 frac,.int .i64 ex] k_en174 rfl rfl) (ldexp_w S.vin (show Rep.rel (ZE .f64) _ [.float .f64 frac] frac from (Zka i)) (show Rep.rel (Zd .i64) _ [.int .i64 ex] ex from (ZJ j)) n) ?_)))))));rintro _ q f w r ⟨s,rfl,o⟩ S;obtain ⟨rfl,p⟩:=o;refine mw S rfl fun f S=>Zz (Zh (l _ _ (wp_ret ?_)));obtain rfl:=Zw H;refine Zya S (ZYa rfl (ZN S rfl)) ⟨[.float .f64 m],rfl,(Zka p)⟩
theorem ZCA {u:World} {h:Zb} (hv:VIn h u) {D:List Value} {fv:Nat} (V:Rep.rel (ZE .f64) h D fv) {z:Rat×Int} (H:ZNe fv=some z):Ret Tryz.prog 128 #[(ZE .f64).val D] u h (fun y v'=>∃ E c,y = .tuple #[ZU.val E,(Zd .i64).val c]∧ZU.rel v' E z.1∧(Zd .i64).rel v' c z.2):=by
 obtain ⟨rfl,c⟩:=V;refine ZRb (K:=41) (args:=[.float .f64 fv]) hv Tryz.func128 rfl rfl zl fun f S=>?_;unfold ZNe at H;refine sr (ZDj S wn rfl zl (cs:=[.bool false,.slice none 0 0,.slice none 0 0]) (ZPh ZYs) fun n f w S=>mw S rfl fun f S=>oe (Zp fun _ W=>Zp fun _ X=>?_));obtain ⟨Y,Z,aa⟩:=Z9 H;refine ZHb (fun f w=>∃ o v,o=Y∧Zb.le h v∧St 41 u h [(0,.float .f64 fv),(2,.pointer (some ⟨n,0,none⟩)),(12,.bool o)] [Loc.box n 38 [.bool false,.slice none 0 0,.slice none 0 0]] v f w) (fun _ G=>?_) ?_
 ·have H:=Z;refine bO H fun ab ac H=>ZA (mv S rfl fun f S=>opc S rfl (ZM S [.float .f64 fv] ZCn rfl rfl) (ZXo S.vin (show Rep.rel (ZE .f64) _ [.float .f64 fv] fv from (Zka c)) ac) ?_);rintro _ aU f w I ⟨aV,rfl,ad⟩ S;obtain rfl:=ad;refine mv S rfl fun f S=>?_;rcases Zea (ab) with i | i
  ·have H:=Zca H i;have S:=S.bool (t:=9) rfl i;refine opn S rfl rfl rfl rfl fun f S=>opn S rfl rfl rfl rfl fun f S=>ov S rfl (ZJc S (b:=true) rfl rfl) fun f S=>Zz ?_;obtain rfl:=Zw H;refine Zh (G _ _ ⟨_,_,rfl,(leT (leR _) I),(S.fr' rfl)⟩)
  have H:=Zba H i;have S:=S.bool (t:=9) rfl i;refine bO H fun aW ae H=>opy S rfl rfl rfl rfl (ZK S rfl) fun f S=>Zjj S (Z3d S rfl rfl rfl zl) rfl zl (ZM S [.float .f64 fv,.int .i64 0] Znp rfl rfl) (ZQn S.vin (show Rep.rel (ZE .f64) _ [.float .f64 fv] fv from (Zka c)) (show Rep.rel (Zd .i64) _ [.int .i64 0] (0:Int) from (ZJ (by decide))) ae) ?_;rintro _ aX f w af ⟨aY,rfl,ag⟩ S;obtain rfl:=ag;refine ov S rfl (ZJc S (b:=false) rfl rfl) fun f S=>Zz ?_;obtain rfl:=Zw H;refine Zh (G _ _ ⟨_,_,rfl,(leT (leT (leR _) I) af),(S.fr' rfl)⟩)
 rintro f w ⟨o,v,hq,aZ,S⟩;subst hq;have H:=aa;refine Zh (X _ _ ?_);rcases Zea (o) with j | j
 ·have H:=Zca H j;refine Zta S rfl j (sr (ov S rfl (Zpk S [] rfl (z:=.agg #[.bool false,.slice none 0 0,.slice none 0 0]) (by kernel_rfl)) fun f S=>?_));obtain ⟨w,ah,S⟩:=sbp S [.bool false,.slice none 0 0,.slice none 0 0] Z2f 0 0 rfl;refine Ztg wn rfl (ah rfl rfl) (mw S rfl fun f S=>oe (wp_ret (Z6b ?_)));obtain rfl:=Zw H;refine Zya S (Ztc rfl (rag3 S rfl Z2f 0 rfl rfl) (ZN S rfl)) ⟨[.bool false,.slice none 0 0,.slice none 0 0],[.int .i64 1],rfl,(Z2v _),(ZJ (by decide))⟩
 have H:=Zba H j;refine Z5 S rfl j (wp_skip (Zh (W _ _ (Zp fun _ ai=>bO H fun x aj H=>ZA (mv S rfl fun f S=>opc S rfl (ZM S [.float .f64 fv] k_en153 rfl rfl) (Frexp_w S.vin (show Rep.rel (ZE .f64) _ [.float .f64 fv] fv from (Zka c)) aj) ?_)))));rintro _ a0 f w a1 ⟨a2,a3,rfl,ak,al⟩ S;obtain ⟨rfl,am⟩:=ak;obtain ⟨rfl,a4⟩:=al;refine mv S rfl fun f S=>ov S rfl (Zga S rfl rfl) fun f S=>ov S rfl (Zga S rfl rfl) fun f S=>mw S rfl fun f S=>mw S rfl fun f S=>Zz (Zh (ai _ _ (Zp fun _ an=>bO H fun a5 ao H=>bO H fun A J H=>bO H fun B ap H=>ZA (mv S rfl fun f S=>opc S rfl (ZM S [.float .f64 x.1,.int .i64 53] k_en154 rfl rfl) (Ldexp_w S.vin (show Rep.rel (ZE .f64) _ [.float .f64 x.1] x.1 from (Zka am)) (show Rep.rel (Zd .i64) _ [.int .i64 53] (53:Int) from (ZJ (by decide))) ao) ?_))));rintro _ a6 f w a7 ⟨a8,rfl,aq⟩ S;obtain ⟨rfl,a9⟩:=aq;refine ov S rfl (ZQd S rfl (conv_fI Tryz.underlying206 Tryz.underlying2 J)) fun f S=>opc S rfl (ZM S [.int .i64 A] k_en57 rfl rfl) (of_c S.vin (show Rep.rel (Zd .i64) _ [.int .i64 A] A from (ZJ (ZcA J))) ap) ?_;rintro _ ba f w bb ⟨bc,rfl,k⟩ S;obtain ⟨l,d,e,g,rfl⟩:=Z3g k;refine ZDj S wn rfl zl (cs:=[.bool false,.slice none 0 0]) (ZPh k_zv36) fun bd f w S=>?_
 obtain ⟨w,ar,S⟩:=sbp S [.bool l,.slice d e g] Z1l 0 0 rfl;refine Ztg wn rfl (ar rfl rfl) (Zz (Zh (an _ _ (Zp fun _ au=>Zp fun _ av=>bO H fun a L H=>ZA (mv S rfl fun f S=>ov S rfl (Zu S rfl rfl (ZIb L)) fun f S=>mw S rfl fun f S=>Zz (Zh (av _ _ (sr (mv S rfl fun f S=>?_)))))))));refine ov S rfl (Zu S rfl rfl ZHi) fun f S=>oe ?_;rcases Zea (decide ((0:Int)≤a)) with m | m
 ·have H:=Zca H m;refine Zta S rfl m (Zp fun _ ax=>bO H fun be ay H=>bO H fun bf az H=>ZCf (fl:=#[true,true,true,true,true,false,false,true,false,false]) Zaj (by kernel_rfl) S ?_);intro ops O F w S;refine rfa O F 0 rfl rfl S (ZZj S rfl Z9t) fun f S=>?_;obtain ⟨rfl,aA⟩:=Ztv k;refine rfa O F 1 rfl rfl S (lo S rfl k_sz4 0 rfl rfl) fun f S=>rfa O F 2 rfl rfl S (ZZj S rfl ZoA) fun f S=>rfa O F 3 rfl rfl S (lo S rfl k_sz34 0 rfl rfl) fun f S=>rfa O F 4 rfl rfl S (ZK S rfl) fun f S=>go1 O F 5 (nxc [3,4,2] [0,1] O rfl S rfl (ZM S [.slice d e g,.int .i64 a] Zam rfl rfl) (Znk S.vin aA (show Rep.rel (Zd .i64) _ [.int .i64 a] a from (ZJ (Zib L).2)) ay) ?_);rintro _ bg f w bh ⟨bi,rfl,M⟩ S;obtain ⟨aB,aC,aD,rfl⟩:=ZNa M;refine ⟨(py S rfl rfl (ZZj S rfl Z9t) (py S rfl rfl (lo S rfl k_sz4 0 rfl rfl) Z1a)),go1 O F 6 (nxc [1,5,0,3,4,2] [] O rfl S rfl (ZM S [.bool (decide (B<0)),.slice aB aC aD] k_en87 rfl rfl) (whole_c S.vin (show Rep.rel Zxb _ [.bool (decide (B<0))] (decide (B<0)) from ZEj) M az) ?_)⟩;rintro _ bj f w bk ⟨bm,rfl,N⟩ S;obtain ⟨p,q,r,s,rfl⟩:=Z3g N;refine ⟨Z1a,rfa O F 7 rfl rfl S (Zpk S [(0,.agg #[.bool p,.slice q r s])] rfl (z:=.agg #[.bool p,.slice q r s,.slice none 0 0]) (by kernel_rfl)) fun f S=>go1 O F 8 ?_⟩
  obtain ⟨w,aE,S⟩:=sbp S [.bool p,.slice q r s,.slice none 0 0] Z2f 0 1 rfl;refine nxs [0,1,2,3,4,5,6,7] [] O rfl rfl (aE rfl rfl) (⟨Z1a,go1 O F 9 (nva [0,1,2,3,4,5,6,7,8] [] O rfl rfl S (Z7c S rfl) fun f S=>⟨Z1a,fin1 O F ?_⟩)⟩);have S:=S.fr' (σ':=[(2,.pointer (some ⟨n,0,none⟩)),(3,.int .i64 0)]) rfl;refine Zh (ax _ _ (wp_ret (Z6b (bO H fun bn aF H=>?_))));have aG:=Z5u N (ZZg _) aF;obtain rfl:=Zw H;refine Zya S (Ztc rfl (rag3 S rfl Z2f 1 rfl rfl) (ZN S rfl)) ⟨[.bool p,.slice q r s,.slice none 0 0],[.int .i64 0],rfl,aG,(ZJ (by decide))⟩
 have H:=Zba H m;refine Z5 S rfl m (wp_skip (Zh (au _ _ (Zp fun _ aH=>bO H fun bo aI H=>bO H fun bp aJ H=>bO H fun bq aK H=>ZCf (fl:=#[true,false,true,true,false,false,false,false]) Zaj (by kernel_rfl) S ?_))));intro ops O F w S;refine rfa O F 0 rfl rfl S (la S (cs:=[.bool l,.slice d e g]) rfl Z1l 0 rfl rfl rfl) fun f S=>rfa O F 2 rfl rfl S (ZK S rfl) fun f S=>rfa O F 3 rfl rfl S (Zkp S rfl) fun f S=>go1 O F 1 (nxc [] [0,2,3] O rfl S rfl (ZM S [.int .u64 1] Z0q rfl rfl) (Zvv S.vin (show Rep.rel (Zd .u64) _ [.int .u64 1] (1:Int) from (ZJ (by decide))) aI) ?_);rintro _ br f w aL ⟨bs,rfl,P⟩ S;obtain ⟨aM,aN,aO,rfl⟩:=ZNa P;refine ⟨(py S rfl rfl (la S (cs:=[.bool l,.slice d e g]) rfl Z1l 0 rfl rfl rfl) (py S rfl rfl (ZK S rfl) (py S rfl rfl (Zkp S rfl) Z1a))),go1 O F 4 (nxc [1,3,2] [0] O rfl S rfl (ZM S [.slice aM aN aO,.int .i64 (IntKind.i64.wrap (-a))] Zam rfl rfl) (Znk S.vin P (show Rep.rel (Zd .i64) _ [.int .i64 (IntKind.i64.wrap (-a))] (IntKind.i64.wrap (-a)) from (ZJ (ZEb _ _))) aJ) ?_)⟩;rintro _ bt f w aP ⟨bu,rfl,Q⟩ S;obtain ⟨aQ,aR,aS,rfl⟩:=ZNa Q;refine ⟨(py S rfl rfl (la S (cs:=[.bool l,.slice d e g]) rfl Z1l 0 rfl rfl rfl) Z1a),go1 O F 5 ?_⟩;have k:=ZOa (leT aL aP) k
 refine nxc [0,4,1,3,2] [] O rfl S rfl (ZM S [.agg #[.bool l,.slice d e g],.slice aQ aR aS] k_en50 rfl rfl) (over_c S.vin k Q aK) ?_;rintro _ bv f w bw ⟨bx,rfl,C⟩ S;obtain ⟨R,T,U,rfl⟩:=len3 ZU C;refine ⟨Z1a,go1 O F 6 ?_⟩;obtain ⟨w,aT,S⟩:=sba S (cs:=[R,T,U]) Z2f 0 1 rfl (Rflat ZU C);refine nxs [0,1,2,3,4,5] [] O rfl rfl (aT rfl rfl) (⟨Z1a,go1 O F 7 (nva [0,1,2,3,4,5,6] [] O rfl rfl S (Z7c S rfl) fun f S=>⟨Z1a,fin1 O F ?_⟩)⟩);have S:=S.fr' (σ':=[(2,.pointer (some ⟨n,0,none⟩)),(3,.int .i64 0)]) rfl;refine Zh (aH _ _ (wp_ret ?_));obtain rfl:=Zw H;refine Zya S (Ztc rfl (rag3 S rfl Z2f 1 rfl rfl) (ZN S rfl)) ⟨[R,T,U],[.int .i64 0],rfl,C,(ZJ (by decide))⟩
set_option maxRecDepth 1000000
set_option maxRecDepth 100000
theorem d_sw:FloatKind.f64.format.signWeight=9223372036854775808:=by decide
theorem d_bi:FloatKind.f64.format.binade=4503599627370496:=by decide
theorem d_in:FloatKind.f64.format.infRung=9218868437227405312:=by decide
theorem d_lp:FloatKind.f64.format.leastPlace = -1074:=by decide
section
variable {s:Bool} {E M:Nat}
end
section
variable {s:Bool} {E M:Nat} (h1:1≤E) (h2:E≤2046) (h3:M<4503599627370496)
include h1 h2 h3
end
section
variable {s:Bool} {M:Nat} (h3:M<4503599627370496)
include h3
end
section
variable {s:Bool} {E M:Nat} (h1:1≤E) (h2:E≤2046) (h3:M<4503599627370496)
include h1 h2 h3
end
section
variable {m L:Nat} (h0:m≠0) (hL:m.log2=L) (h23:L≤23)
include h0 hL h23
end
theorem Z4A {r:Nat} (h:ZDg r):∃ g f,FloatKind.f64.format.read r = .nan g f:=by
 obtain ⟨_,h2⟩:=h;unfold Ieee.Format.read;simp only [d_sw,d_bi,d_in,d_lp];rw [iN (by omega),iN (by omega),iN (by omega)];exact ⟨_,_,rfl⟩
theorem ZVo {r:Nat} (h:ZDg r):ZNe r=some (0,1):=by
 obtain ⟨g,f,hr⟩:=Z4A h;have hn:Z0f r=some true:=by
  unfold Z0f fNe Ieee.Format.order;rw [hr];rfl
 unfold ZNe;rw [hn,Za,Zf,Za,Zf]
theorem ZUx (g:Bool):ZNe (FloatKind.f64.encode (.infinity g))=some (0,1):=by
 have h1:∀ g,Z0f (FloatKind.f64.encode (.infinity g))=some false∧ZSh (FloatKind.f64.encode (.infinity g)) 0=some true:=by
  intro g
  cases g
  ·decide +kernel
  ·decide +kernel
 obtain ⟨a,b⟩:=h1 g;unfold ZNe;rw [a,Za,Ze,b,Za,Za,Zf]
theorem ZWt:ZDg canon64:=⟨by decide,by decide⟩
theorem Z6x {y r:Nat} {z:Rat×Int} (h:as64 y r) (e:ZNe y=some z):ZNe r=some z:=by
 rcases h with rfl | ⟨rfl,h | ⟨g,rfl⟩⟩
 ·exact e
 ·rw [ZVo h,← e,ZVo ZWt]
 ·rw [ZUx,← e,ZVo ZWt]
end Go.Eng
namespace Go.Eng
open Go.Proofs Go.RowKit
theorem ZYw {d:World} {a:Zb} (hv:VIn a d) {e:List Value} {fv:Nat} (k:Rep.rel (ZE .f32) a e fv) {z:Rat×Int} (H:ZNi fv=some z):Ret Tryz.prog 94 #[(ZE .f32).val e] d a (fun y v'=>∃ g b,y = .tuple #[ZU.val g,(Zd .i64).val b]∧ZU.rel v' g z.1∧(Zd .i64).rel v' b z.2):=by
 obtain ⟨rfl,b⟩:=k;refine ZRb (K:=9) (args:=[.float .f32 fv]) hv Tryz.func94 rfl rfl zl fun f S=>?_;unfold ZNi at H;refine sr (ZDj S wn rfl zl (cs:=[.bool false,.slice none 0 0,.slice none 0 0]) (ZPh ZYs) fun s f w S=>mw S rfl fun f S=>oe (Zp fun _ l=>bO H fun t m H=>bO H fun n o H=>ZA (mv S rfl fun f S=>ovn S rfl Tryz.underlying81 Tryz.underlying206 m fun yr asr ltr f w S=>opc S rfl (ZM S [.float .f64 yr] k_en128 rfl rfl) (ZCA S.vin (show Rep.rel (ZE .f64) _ [.float .f64 yr] yr from (Zka ltr)) (Z6x asr o)) ?_)));rintro _ u f w v ⟨x,A,rfl,c,p⟩ S;obtain ⟨h,i,j,rfl⟩:=len3 ZU c;obtain ⟨rfl,q⟩:=p;refine ov S rfl (Zga S rfl rfl) fun f S=>ov S rfl (Zga S rfl rfl) fun f S=>?_;obtain ⟨w,r,S⟩:=sba S (cs:=[h,i,j]) Z2f 0 0 rfl (Rflat ZU c);refine Ztg wn rfl (r rfl rfl) (mw S rfl fun f S=>Zz (Zh (l _ _ (wp_ret ?_))));obtain rfl:=Zw H;refine Zya S (Ztc rfl (rag3 S rfl Z2f 0 rfl rfl) (ZN S rfl)) ⟨[h,i,j],[.int .i64 (n.2)],rfl,c,(ZJ q)⟩
noncomputable def Zjn:FuncId×Con:=(94,⟨[.flt .f32],[.leaf 3,.int .i64],fun p=>ZNi p⟩)
theorem ZJy:Zne Tryz.prog Zjn.1 Zjn.2:=fun w v vals x z hv ha hz=>by
 obtain ⟨c0,e0,p0⟩:=ha;subst e0
 exact .inl ⟨fun _ _=>by kernel_rfl,Ret.mono (ZYw hv p0 hz) fun y v' _ ⟨r0,r1,e,h0,h1⟩=>⟨_,e,r0,_,rfl,h0,r1,rfl,h1⟩⟩
noncomputable def Zlr:FuncId×Con:=(59,⟨[.slice (.pair (.flt .f32) (.flt .f32))],[.slice (.pair (.leaf 3) (.leaf 3)),.int .i64],fun p=>Zyv p⟩)
theorem rise_k:KQ Zlr:=Zl (ZV (C:=cf0 [ZCe,ZPc,Zjn] [] [] []) (.n (.two (.f (.j [0] [] [.s 19 (.dat .bool)] .no)) (.n (.n (.f (.n (.cut ⟨⟨[],[],[]⟩,[(.norm,⟨[],[],[.s 4 (.own 166 (.pair (.leaf 3) (.leaf 3))),.s 5 (.dat (.int .i64))]⟩),(.ret,⟨[],[],[.s 1000 (.dat (.slice (.pair (.leaf 3) (.leaf 3)))),.s 1001 (.dat (.int .i64))]⟩)]⟩ (.f (.cut ⟨⟨[20,21],[],[.s 4 (.own 166 (.pair (.leaf 3) (.leaf 3))),.s 22 (.dat (.int .i64)),.s 5 (.dat (.int .i64))]⟩,[(.ret,⟨[],[],[.s 1000 (.dat (.slice (.pair (.leaf 3) (.leaf 3)))),.s 1001 (.dat (.int .i64))]⟩),(.exit 0,⟨[],[],[.s 4 (.own 166 (.pair (.leaf 3) (.leaf 3))),.s 5 (.dat (.int .i64))]⟩)]⟩ (.f (.n (.n (.f (.f (.n (.n (.n (.two (.f (.two (.j [4,5,6,8,10,20,21,22] [] [.s 39 (.dat .bool)] .no) (.n (.f (.j [4,5,6,8,10,20,21,22] [] [.s 51 (.dat .bool)] .no))))) (.n (.n (.j [4,20,21,22] [] [.s 5 (.dat (.int .i64))] .no))))))))))))))))))))) Tryz.func59 [] (fun _=>by kernel_rfl) ⟨ZOf,Znd,ZJy,tr⟩)
noncomputable def ZVu:FuncId×Con:=(97,⟨[.pair (.leaf 3) (.leaf 3),.pair (.leaf 3) (.leaf 3)],[.leaf 3],fun p=>Zhr p.1 p.2⟩)
theorem Zgy:KQ ZVu:=Zl (ZV (C:=cf0 [ZYf,ZJg] [] [] []) (.n (.f (.j [4] [] [.s 5 (.box 38 (.dat (.leaf 3)))] .no))) Tryz.func97 [] (fun _=>by kernel_rfl) ⟨Zug,ZUh,tr⟩)
noncomputable def ZEu:FuncId×Con:=(60,⟨[.slice (.pair (.leaf 3) (.leaf 3)),.leaf 3],[.leaf 3,.int .i64],fun p=>ZTq p.1 p.2⟩)
theorem reach_k:KQ ZEu:=Zl (ZV (C:=cf0 [ZJf,ZYf,ZJg,ZVu,ZCe] [] [] []) (.n (.n (.n (.n (.f (.j [4,7] [] [.s 8 (.box 38 (.dat (.leaf 3)))] .no)))))) Tryz.func60 [(95,Tryz.f95,.r [] [] [.s 1000 (.dat (.int .i64))] (.n (.f (.n (.cut ⟨⟨[],[],[]⟩,[(.norm,⟨[],[],[]⟩),(.ret,⟨[],[],[.s 1000 (.dat (.int .i64))]⟩)]⟩ (.f (.cut ⟨⟨[0,1,7],[],[.s 8 (.dat (.int .i64))]⟩,[(.ret,⟨[],[],[.s 1000 (.dat (.int .i64))]⟩),(.exit 0,⟨[],[],[]⟩)]⟩ .no))))))),(96,Tryz.f96,.r [] [] [.s 1000 (.dat .bool)] .no)] (fun _=>by kernel_rfl) ⟨Z8f,Zug,ZUh,Zgy,ZOf,tr⟩ tr tr ⟨⟨Tryz.func95,fun _ _=>by kernel_rfl⟩,⟨Tryz.func96,fun _ _=>by kernel_rfl⟩,tr⟩)
noncomputable def ZPs:FuncId×Con:=(25,⟨[.slice (.pair (.flt .f32) (.flt .f32)),.leaf 3],[.leaf 3,.int .i64],fun p=>ZQp p.1 p.2⟩)
theorem Reach_k:KQ ZPs:=Zl (ZV (C:=cf0 [Zlr,ZEu] [] [] []) .no Tryz.func25 [] (fun _=>by kernel_rfl) ⟨rise_k,reach_k,tr⟩)
theorem Zex {r:World} {d:Zb} (hv:VIn d r) {D:List Value} {n:Int} (L:Rep.rel (Zd .u64) d D n) {z:(List UInt8)} (H:ZXj n=some z):Ret Tryz.prog 99 #[(Zd .u64).val D] r d (fun y v'=>∃ E,y=ZAb.val E∧ZAb.rel v' E z):=by
 obtain ⟨rfl,M⟩:=L;refine ZRb (K:=20) (args:=[.int .u64 n]) hv Tryz.func99 rfl rfl zl fun f S=>?_;unfold ZXj at H;refine sr (mw S rfl fun f S=>oe (sr (ZDj S wn rfl zl (cs:=[.int .u8 0,.int .u8 0,.int .u8 0,.int .u8 0,.int .u8 0,.int .u8 0,.int .u8 0,.int .u8 0,.int .u8 0,.int .u8 0,.int .u8 0,.int .u8 0,.int .u8 0,.int .u8 0,.int .u8 0,.int .u8 0,.int .u8 0,.int .u8 0,.int .u8 0,.int .u8 0]) (ZPh k_zv207) fun s f w S=>?_)));have S:=S.boxOwn 1 20 rfl zl;have N:Rep.rels (Zd .u8) d [.int .u8 0,.int .u8 0,.int .u8 0,.int .u8 0,.int .u8 0,.int .u8 0,.int .u8 0,.int .u8 0,.int .u8 0,.int .u8 0,.int .u8 0,.int .u8 0,.int .u8 0,.int .u8 0,.int .u8 0,.int .u8 0,.int .u8 0,.int .u8 0,.int .u8 0,.int .u8 0] (List.replicate 20 (0:Int)):=ZTh (show Rep.rel (Zd .u8) _ [Value.int .u8 0] 0 from ⟨rfl,by decide⟩) 20;refine oe (sr (mw S rfl fun f S=>oe (Zp fun _ O=>?_)));obtain ⟨P,Q,R⟩:=Z9 H;refine ZHb (fun f w=>∃ l m B t,(l,m)=P∧Zb.le d t∧St 20 r d [(3,.pointer (some ⟨s,0,none⟩)),(4,.int .i64 m)] [Loc.own (some s) 207 1 20 20 B] t f w∧Rep.rels (Zd .u8) t B l∧20=l.length∧inR .i64 m) (fun _ T=>?_) ?_
 ·have H:=Q;refine wp_block ?_;obtain ⟨ak,U,V⟩:=Z9 H;refine Z5e U (fun W f w=>∃ h o u b k,(h,o,u)=W∧Zb.le d k∧St 20 r d [(0,.int .u64 o),(3,.pointer (some ⟨s,0,none⟩)),(4,.int .i64 u)] [Loc.own (some s) 207 1 20 20 b] k f w∧Rep.rels (Zd .u8) k b h∧20=h.length∧inR .u64 o∧inR .i64 u) ⟨_,_,_,[.int .u8 0,.int .u8 0,.int .u8 0,.int .u8 0,.int .u8 0,.int .u8 0,.int .u8 0,.int .u8 0,.int .u8 0,.int .u8 0,.int .u8 0,.int .u8 0,.int .u8 0,.int .u8 0,.int .u8 0,.int .u8 0,.int .u8 0,.int .u8 0,.int .u8 0,.int .u8 0],_,rfl,(leR _),(S.fr' rfl),N,(List.length_replicate (n:=20) (a:=(0:Int))).symm,M,(by decide)⟩ ?_;rintro _ f w st ⟨h,o,u,b,k,hq,F,S,C,v,al,X⟩ H am Y Z;subst hq;refine Zp fun _ aa=>sr (mv S rfl fun f S=>ov S rfl (Zu S rfl rfl ZVf) fun f S=>oe ?_);rcases Zea (decide ((0:Int)<o)) with p | p
  ·have H:=Zca H p;refine Zta S rfl p (wp_skip (Zh (aa _ _ (Zp fun _ ab=>wp_block (Zp fun _ ac=>bO H fun e G H=>ZA (mv S rfl fun f S=>ov S rfl (Zu S rfl rfl (ZIb G)) fun f S=>mw S rfl fun f S=>Zz (Zh (ac _ _ (bO H fun g ad H=>?_)))))))));refine bO H fun an q H=>ZA (mv S rfl fun f S=>mv S rfl fun f S=>ov S rfl (Zu S rfl rfl (Ziu ad)) fun f S=>ov S rfl (Zu S rfl rfl Z4o) fun f S=>ov S rfl (ZQd S rfl (Z7x _)) fun f S=>?_);have I:=Z2a C (Zr q).2.1;obtain ⟨ao,ae⟩:∃ c,(List.take (Zd .u8).n (List.drop ((e).toNat*(Zd .u8).n) b))=c:=⟨_,rfl⟩;rw [ae] at I;obtain ⟨rfl,ap⟩:=I;refine ov S rfl (Zhs S Zgr rfl rfl (Zr q).1 (ltI v (Zr q).2.2.1)) fun f S=>?_;obtain ⟨w,af,S⟩:=Z8d S k_sz5 (off:=0+(e).toNat*1) (z:=.int .u8 (IntKind.u8.wrap (IntKind.u64.wrap ((48:Int)+g)))) (cs:=[.int .u8 (IntKind.u8.wrap (IntKind.u64.wrap ((48:Int)+g)))]) (ZGd rfl) rfl (i:=0) rfl (ZBi S (j:=0) rfl (ltN v (Zr q).2.2.2)) (by first | rfl | simp [plain]);have ag:Rep.rels (Zd .u8) k (List.take (0+(e).toNat*1) b++[Value.int IntKind.u8 (IntKind.u8.wrap (IntKind.u64.wrap ((48:Int)+g)))]++List.drop (0+(e).toNat*1+1) b) (h.set (e).toNat (IntKind.u8.wrap (IntKind.u64.wrap ((48:Int)+g)))):=ZWh C (Zr q).2.2.2 (show Rep.rel (Zd .u8) k [.int .u8 (IntKind.u8.wrap (IntKind.u64.wrap ((48:Int)+g)))] _ from (ZJ (ZEb _ _))) rfl rfl
   have ah:20=(h.set (e).toNat (IntKind.u8.wrap (IntKind.u64.wrap ((48:Int)+g)))).length:=setN v;refine Ztg wn rfl (af rfl rfl) (Zz (Zcd (Zh (ab _ _ (bO H fun aq J H=>ZA (mv S rfl fun f S=>ov S rfl (Zu S rfl rfl (ZHr J)) fun f S=>mw S rfl fun f S=>Zz ?_))))));obtain rfl:=Zw H;refine Y _ rfl _ _ ⟨_,_,_,(List.take (0+(e).toNat*1) b++[Value.int IntKind.u8 (IntKind.u8.wrap (IntKind.u64.wrap ((48:Int)+g)))]++List.drop (0+(e).toNat*1+1) b),_,rfl,F,(S.fr' rfl),ag,ah,(ZKu J),(Zib G).2⟩
  have H:=Zba H p;refine Z5 S rfl p (wp_exit (Zvb ?_));obtain rfl:=Zw H;have hq:=Z _ rfl;subst hq;have H:=V;refine Zvb (Z6d ?_);obtain rfl:=Zw H;refine Zh (T _ _ ⟨_,_,b,_,rfl,(leT (leR _) F),(S.fr' rfl),C,v,X⟩)
 rintro f w ⟨l,m,B,t,hq,ar,S,ai,x,au⟩;subst hq;have H:=R;refine Zh (O _ _ (Zp fun _ aj=>bO H fun av A H=>ZA (mv S rfl fun f S=>ov S rfl (Zoy S Zgr rfl rfl (ZNg A).1 (by have:=(ZNg A).2.1;have:=x;omega)) fun f S=>ov S rfl (ZYz S (j:=0) rfl ai x (by have:=(ZNg A).2.1;have:=(ZNg A).1;have:=x;omega) rfl Tryz.underlying176 Tryz.underlying5 Tryz.underlying9) fun f S=>mw S rfl fun f S=>Zz (Zh (aj _ _ (wp_ret ?_))))));obtain rfl:=Zw H;refine Zya S (ZYa rfl (ZN S rfl)) ⟨[.string (Zy ((Z4d (l.drop ((m).toNat)))))],rfl,(Z2i (by have:=x;simp only [Z6w,List.length_drop];unfold maxLen;omega))⟩
theorem ZfA {b:World} {a:Zb} (hv:VIn a b) {c:List Value} {n:Int} (d:Rep.rel (Zd .u64) a c n) {z:(List UInt8)} (hm:ZNh n=some z) :
  Ret Tryz.prog 99 #[(Zd .u64).val c] b a (fun y v'=>∃ e,y=ZAb.val e∧ZAb.rel v' e z) :=
 Zex hv d (ZyB d.2 hm)
end Go.Eng
namespace Go.Proofs
open Go.Shelf
def Tryz.lays105_ren:Go.Shelf.Ren:=⟨fun | 105=>100 | 212=>130 | 99=>131 | 165=>132 | 166=>101 | 170=>133 | 169=>102 | 263=>155 | 264=>89 | 206=>156 | 240=>134 | 241=>157 | 276=>158 | 277=>175 | n=>n,fun | 9=>9 | 3=>3 | 4=>4 | 20=>20 | 0=>0 | 46=>197 | 109=>208 | 5=>5 | 72=>178 | 76=>181 | 51=>183 | 146=>234 | 53=>143 | 148=>158 | 70=>175 | 37=>176 | 75=>180 | 127=>212 | 164=>236 | 80=>85 | n=>n,fun | n=>n⟩
theorem Tryz.lays105:Go.Proofs.Lays.n105 Tryz.prog Tryz.lays105_ren:={
 mixed:=by kernel_rfl
 f99:=Tryz.func131.trans (congrArg some (by kernel_rfl))
 f105:=Tryz.func100.trans (congrArg some (by kernel_rfl))
 f165:=Tryz.func132.trans (congrArg some (by kernel_rfl))
 f166:=Tryz.func101.trans (congrArg some (by kernel_rfl))
 f169:=Tryz.func102.trans (congrArg some (by kernel_rfl))
 f170:=Tryz.func133.trans (congrArg some (by kernel_rfl))
 f206:=Tryz.func156.trans (congrArg some (by kernel_rfl))
 f212:=Tryz.func130.trans (congrArg some (by kernel_rfl))
 f240:=Tryz.func134.trans (congrArg some (by kernel_rfl))
 f241:=Tryz.func157.trans (congrArg some (by kernel_rfl))
 f263:=Tryz.func155.trans (congrArg some (by kernel_rfl))
 f264:=Tryz.func89.trans (congrArg some (by kernel_rfl))
 f276:=Tryz.func158.trans (congrArg some (by kernel_rfl))
 f277:=Tryz.func175.trans (congrArg some (by kernel_rfl))
 t0:=Tryz.underlying0
 a0:=Tryz.isAgg0
 z0:=Tryz.sizeOf0
 v0:=Tryz.zeroValue0
 t3:=Tryz.underlying3
 a3:=Tryz.isAgg3
 z3:=Tryz.sizeOf3
 v3:=Tryz.zeroValue3
 t4:=Tryz.underlying4
 a4:=Tryz.isAgg4
 z4:=Tryz.sizeOf4
 v4:=Tryz.zeroValue4
 t5:=Tryz.underlying5
 a5:=Tryz.isAgg5
 z5:=Tryz.sizeOf5
 v5:=Tryz.zeroValue5
 t9:=Tryz.underlying9
 a9:=Tryz.isAgg9
 z9:=Tryz.sizeOf9
 v9:=Tryz.zeroValue9
 t20:=Tryz.underlying20
 a20:=Tryz.isAgg20
 z20:=Tryz.sizeOf20
 v20:=Tryz.zeroValue20
 t37:=Tryz.underlying176
 a37:=Tryz.isAgg176
 z37:=Tryz.sizeOf176
 v37:=Tryz.zeroValue176
 t46:=Tryz.underlying197
 a46:=Tryz.isAgg197
 z46:=Tryz.sizeOf197
 v46:=Tryz.zeroValue197
 t51:=Tryz.underlying183
 a51:=Tryz.isAgg183
 z51:=Tryz.sizeOf183
 v51:=Tryz.zeroValue183
 t53:=Tryz.underlying143
 a53:=Tryz.isAgg143
 z53:=Tryz.sizeOf143
 v53:=Tryz.zeroValue143
 t70:=Tryz.underlying175
 a70:=Tryz.isAgg175
 z70:=Tryz.sizeOf175
 v70:=Tryz.zeroValue175
 t72:=Tryz.underlying178
 a72:=Tryz.isAgg178
 z72:=Tryz.sizeOf178
 v72:=Tryz.zeroValue178
 t75:=Tryz.underlying180
 a75:=Tryz.isAgg180
 z75:=Tryz.sizeOf180
 v75:=Tryz.zeroValue180
 t76:=Tryz.underlying181
 a76:=Tryz.isAgg181
 z76:=Tryz.sizeOf181
 v76:=Tryz.zeroValue181
 t109:=Tryz.underlying208
 a109:=Tryz.isAgg208
 z109:=Tryz.sizeOf208
 v109:=Tryz.zeroValue208
 t127:=Tryz.underlying212
 a127:=Tryz.isAgg212
 z127:=Tryz.sizeOf212
 v127:=Tryz.zeroValue212
 t146:=Tryz.underlying234
 a146:=Tryz.isAgg234
 z146:=Tryz.sizeOf234
 v146:=Tryz.zeroValue234
 t148:=Tryz.underlying158
 a148:=Tryz.isAgg158
 z148:=Tryz.sizeOf158
 v148:=Tryz.zeroValue158
 t164:=Tryz.underlying236
 a164:=Tryz.isAgg236
 z164:=Tryz.sizeOf236
 v164:=Tryz.zeroValue236 }
theorem Tryz.Builder_Extra_105:Builder.Extra Tryz.prog Tryz.lays105_ren:={
 sizeBuilder:=by kernel_rfl
 liesBuilder:=by kernel_rfl
 t5:=Tryz.underlying5
 a5:=Tryz.isAgg5
 z5:=Tryz.sizeOf5
 v5:=Tryz.zeroValue5
 infoByte:=by kernel_rfl
 cellsByte:=by kernel_rfl
 sizeByte:=by kernel_rfl
 neB5:=by decide }
end Go.Proofs
namespace Go.Eng
open Go.Proofs Go.RowKit Go.Shelf
theorem writes:Zav Tryz.prog 101 178 5:=fun B b bs s w h hl hB=>Any.Builder_WriteString { Tryz.lays105 with } Tryz.Builder_Extra_105 B b bs s w h hl hB
theorem tells:Tells Tryz.prog 102 178 5:=fun B b l w h hB=>Any.Builder_String_any { Tryz.lays105 with } Tryz.Builder_Extra_105 B b l w h hB
end Go.Eng
namespace Go.Eng
open Go.Proofs Go.RowKit
theorem ZHy (l:List UInt8) (c:Nat):Lib.repeatL l c=(List.replicate c l).flatten:=by
 induction c with
 | zero=>rfl
 | succ c ih=>simp [Lib.repeatL,List.replicate_succ,ih]
theorem Zcw {b:World} {a:Zb} (hv:VIn a b) {f:List Value} {s:List UInt8} (k:Rep.rel ZAb a f s) {g:List Value} {c:Int} (l:Rep.rel (Zd .i64) a g c) {z:List UInt8} (hm:Zah s c=some z) :
  Ret Tryz.prog 100 #[ZAb.val f,(Zd .i64).val g] b a (fun y v'=>∃ h,y=ZAb.val h∧ZAb.rel v' h z):=by
 obtain ⟨rfl,hs⟩:=k;obtain ⟨rfl,hc⟩:=l;unfold Zah at hm;split at hm
 ·rename_i hh
  cases hm
  obtain ⟨C,rfl⟩:=Int.eq_ofNat_of_zero_le hh.1;have hc:=Zkb.1 hc;have d:=hh.2;rw [tN] at d;have:=Any.strings_Repeat Tryz.lays105 Tryz.Builder_Extra_105 (Zy s) C b (by omega) (by rw [ZCd];exact d);refine Calls.mono this fun e w' ⟨i,j⟩=>?_;have m:(⟨(Lib.repeatL (Zy s).data.toList C).toArray⟩:ByteArray)=Zy (List.replicate C s).flatten:=by
   rw [ZHy];rfl
  rw [m] at i;exact ⟨_,a,i,j,VStep.ext hv j,[.string (Zy (List.replicate C s).flatten)],rfl,rfl,by simp only [tN];rw [List.length_flatten];simp;unfold maxLen;rw [Nat.mul_comm] at d;omega⟩
 ·cases hm
theorem text_w {e:World} {c:Zb} (hv:VIn c e) {c0:List Value} {a:Nat} (p0:Rep.rel Zx c c0 a) {z:(List UInt8)} (H:ZLj a=some z):Ret Tryz.prog 61 #[Zx.val c0] e c (fun y v'=>∃ r0,y=ZAb.val r0∧ZAb.rel v' r0 z):=by
 obtain ⟨q1,n2,k3,rfl⟩:=ZNa p0;refine ZRb (K:=49) (args:=[.slice q1 n2 k3]) hv Tryz.func61 rfl rfl zl fun f S=>?_;unfold ZLj at H;refine sr (mw S rfl fun f S=>oe (sr ?_));have S:=S.nilLoc 9 1;refine ov S rfl (Z7c S (y:=.slice (mkA none) 0 0) rfl) fun f S=>oe (Zp fun _ ar=>?_);obtain ⟨au,av,ax⟩:=Z9 H;refine ZHb (fun f w=>∃ o F s G U I,o=au∧Zb.le c I∧St 49 e c [(3,.slice (mkA F) s G)] [Loc.own F 9 1 s G U] I f w∧Rep.rels ZAb I U o∧s=o.length) (fun _ ay=>?_) ?_
 ·have H:=av;refine wp_block ?_;obtain ⟨bt,az,aA⟩:=Z9 H;refine Z5e az (fun aB f w=>∃ J g L M N p h q k t,(J,g)=aB∧Zb.le c t∧St 49 e c [(0,.slice L M N),(3,.slice (mkA p) h q)] [Loc.own p 9 1 h q k] t f w∧Rep.rel Zx t [.slice L M N] J∧Rep.rels ZAb t k g∧h=g.length) ⟨_,_,_,_,_,none,0,0,[],_,rfl,(leR _),(S.fr' rfl),p0,ZKf,rfl⟩ ?_;rintro _ f w st ⟨J,g,L,M,N,p,h,q,k,t,hq,ac,S,ad,d,ae⟩ H bu aC aD;subst hq;refine Zp fun _ aE=>sr (mv S rfl fun f S=>ov S rfl (Zyc S (Zrb ad) rfl rfl Zva) fun f S=>ov S rfl (Zu S rfl rfl ZVf) fun f S=>oe ?_);rcases Zea (decide ((0:Int)<(((Zc 18446744073709551616 J)).length:Int))) with u | u
  ·have H:=Zca H u;refine Zta S rfl u (wp_skip (Zh (aE _ _ (wp_block (Zp fun _ aF=>bO H fun O aG H=>ZA (mv S rfl fun f S=>opc S rfl (ZM S [.slice L M N,.int .u64 10000000000000000000] Ztu rfl rfl) (Zsv S.vin ad (show Rep.rel (Zd .u64) _ [.int .u64 10000000000000000000] (10000000000000000000:Int) from (ZJ (by decide))) aG) ?_))))));rintro _ bv f w af ⟨bw,bx,rfl,m,aH⟩ S;have d:=ZX af d;obtain ⟨aI,aJ,aK,rfl⟩:=ZNa m;obtain ⟨rfl,aL⟩:=aH;refine mv S rfl fun f S=>ov S rfl (Zga S rfl rfl) fun f S=>ov S rfl (Zga S rfl rfl) fun f S=>mw S rfl fun f S=>mw S rfl fun f S=>Zz (Zh (aF _ _ (Zp fun _ aM=>bO H fun bz aN H=>ZA (mv S rfl fun f S=>opc S rfl (ZM S [.int .u64 (O.2)] k_en99 rfl rfl) (ZfA S.vin (show Rep.rel (Zd .u64) _ [.int .u64 (O.2)] O.2 from (ZJ aL)) aN) ?_))));rintro _ aO f w V ⟨bA,rfl,aP⟩ S;have d:=ZX V d;obtain ⟨rfl,aQ⟩:=aP;refine mw S rfl fun f S=>Zz (Zh (aM _ _ (Zp fun _ aR=>sr (mv S rfl fun f S=>?_))));have m:=ZOa V m;refine ov S rfl (Zyc S (Zrb m) rfl rfl Zva) fun f S=>ov S rfl (Zu S rfl rfl ZVf) fun f S=>oe ?_;obtain ⟨aS,aT,aU⟩:=Z9 H;refine ZHb (fun f w=>∃ b P,b=aS∧Zb.le aO P∧St 49 e c [(3,.slice (mkA p) h q),(4,.slice aI aJ aK),(6,.string (Zy b))] [Loc.own p 9 1 h q k] P f w∧b.length≤maxLen) (fun _ ag=>?_) ?_
   ·have H:=aT;rcases Zea (decide ((0:Int)<(((Zc 18446744073709551616 O.1)).length:Int))) with v | v
    ·have H:=Zca H v;refine Zta S rfl v (bO H fun W ah H=>bO H fun bB aV H=>bO H fun bC ai H=>ZA (mv S rfl fun f S=>ov S rfl (Zaq S rfl rfl Tryz.underlying9) fun f S=>ov S rfl (Zu S rfl rfl (ZIb ah)) fun f S=>opc S rfl (ZM S [.string (Zy (([48]:List UInt8))),.int .i64 W] k_en100 rfl rfl) (Zcw S.vin (show Rep.rel ZAb _ [.string (Zy (([48]:List UInt8)))] (([48]:List UInt8)) from (Z2i zl)) (show Rep.rel (Zd .i64) _ [.int .i64 W] W from (ZJ (Zib ah).2)) aV) ?_));rintro _ bD f w aj ⟨bE,rfl,aW⟩ S;have d:=ZX aj d;obtain ⟨rfl,bG⟩:=aW;refine mv S rfl fun f S=>ov S rfl (Zsk S rfl rfl (ZTu ai)) fun f S=>mw S rfl fun f S=>Zz ?_;obtain rfl:=Zw H;refine Zh (ag _ _ ⟨_,_,rfl,(leT (leR _) aj),(S.fr' rfl),(Zll ai)⟩)
    have H:=Zba H v;refine Z5 S rfl v (wp_skip ?_);obtain rfl:=Zw H;refine Zh (ag _ _ ⟨_,_,rfl,(leR _),(S.fr' rfl),aQ⟩)
   rintro f w ⟨b,P,hq,X,S,aX⟩;subst hq;have H:=aU;have d:=ZX X d;refine Zh (aR _ _ (bO H fun bH aY H=>ZA (mv S rfl fun f S=>mv S rfl fun f S=>?_)));obtain ⟨bI,w,aZ,S⟩:=ZYg S (n:=1) (cs:=[.string (Zy b)]) (vals:=[(0,.string (Zy b))]) (sz:=1) rfl (by decide) (Zpt Zgq (x:=.string (Zy b)) (cs:=[.string (Zy b)]) rfl rfl (by decide));have Y:Rep.rels ZAb P [.string (Zy b)] [b]:=(Z8t (Z2i aX) ZKf);refine Zsd wn rfl zl (aZ rfl) S fun f S=>?_;have a0:=S;obtain ⟨ak,al,w,a1,S⟩:=ZMk (ty:=170) Zgq S (i:=1) (n':=(g++[b]).length) rfl (Z2e Y rfl) (Zch S (j:=0) rfl) (ZZh Y) (appN ae rfl) (ZEe aY) (by decide);have a2:=Zxc d Y;refine Zsd wn rfl zl (ZBe a0 rfl rfl a1) S fun f S=>mv S rfl fun f S=>mw S rfl fun f S=>mw S rfl fun f S=>Zz (Zcd ?_);obtain rfl:=Zw H;have S:=S.reorder (ℓ':=[Loc.own ak 9 1 ((g++[b]).length) al ((k++[.string (Zy b)]))]) [1] rfl (by decide);have m:=ZOa X m;refine aC _ rfl _ _ ⟨_,_,_,_,_,ak,(g++[b]).length,al,(k++[.string (Zy b)]),_,rfl,(leT (leT (leT ac af) V) X),(S.fr' rfl),m,a2,rfl⟩
  have H:=Zba H u;refine Z5 S rfl u (wp_exit (Zvb ?_));obtain rfl:=Zw H;have hq:=aD _ rfl;subst hq;have H:=aA;refine Zvb (Z6d ?_);obtain rfl:=Zw H;refine Zh (ay _ _ ⟨_,p,h,q,k,_,rfl,(leT (leR _) ac),(S.fr' rfl),d,ae⟩)
 rintro f w ⟨o,F,s,G,U,I,hq,bJ,S,a3,am⟩;subst hq;have H:=ax;refine Zh (ar _ _ (Zp fun _ a4=>sr (mv S rfl fun f S=>ov S rfl (Zyc S am rfl rfl Z8n) fun f S=>ov S rfl (Zu S rfl rfl Zlg) fun f S=>oe ?_)));rcases Zea (((o.length:Int))==(0:Int)) with B | B
 ·have H:=Zca H B;refine Zta S rfl B (sr (mw S rfl fun f S=>oe (wp_ret (Z6b ?_))));obtain rfl:=Zw H;refine Zya S (ZYa rfl (ZN S rfl)) ⟨[.string (Zy (([48]:List UInt8)))],rfl,(Z2i zl)⟩
 have H:=Zba H B;refine Z5 S rfl B (wp_skip (Zh (a4 _ _ (sr ?_))));obtain ⟨an,bK,S,C⟩:=S.pubSlice (i:=0) (A:=ZAb) (l:=o) (ℓ':=[]) rfl rfl am a3 rfl;refine op_newB 5 S wn rfl zl (ZPh k_zv178) fun r f w S a5=>oe (Zp fun _ a6=>Zp fun _ a7=>bO H fun bM ao H=>ZA (mv S rfl fun f S=>ov S rfl (Zyc S (Zrb C) rfl rfl Z8n) fun f S=>ov S rfl (Zu S rfl rfl (ZIb ao)) fun f S=>mw S rfl fun f S=>Zz (Zh (a7 _ _ ?_))));obtain ⟨a8,a9,ba⟩:=Z9 H;refine ZHb (fun f w=>∃ Q R,Q=a8∧Zb.le an R∧St 49 e c [(7,.pointer (some ⟨r,0,none⟩))] [] R f w∧Bld 178 5 r e R Q w) (fun _ bb=>?_) ?_
 ·have H:=a9;refine wp_block ?_;obtain ⟨bP,bc,bd⟩:=Z9 H;refine Z5e bc (fun be f w=>∃ Z D T,(Z,D)=be∧Zb.le an T∧St 49 e c [(3,.slice (mkA F) s G),(7,.pointer (some ⟨r,0,none⟩)),(8,.int .i64 D)] [] T f w∧Bld 178 5 r e T Z w∧inR .i64 D) ⟨_,_,_,rfl,(leR _),(S.fr' rfl),a5,(Zib ao).2⟩ ?_;rintro _ f w st ⟨Z,D,T,hq,aa,S,ap,bQ⟩ H bR bf bg;subst hq;refine Zp fun _ bh=>sr (mv S rfl fun f S=>ov S rfl (Zu S rfl rfl ZHi) fun f S=>oe ?_);rcases Zea (decide ((0:Int)≤D)) with E | E
  ·have H:=Zca H E;refine Zta S rfl E (wp_skip (Zh (bh _ _ (Zp fun _ bi=>wp_block (bO H fun bj ab H=>bO H fun bS bk H=>ZA (mv S rfl fun f S=>mv S rfl fun f S=>?_))))));have C:=ZOa aa C;obtain ⟨_,bT,bU,bV,bm,bn,bo⟩:=ZRc C (Zr ab).2.1;obtain ⟨rfl,rfl⟩:=Zhy bm;obtain ⟨rfl,bW⟩:=bo;refine ov S rfl (ZGa S rfl rfl Z8n (Zr ab).1 (ltI (Zrb C) (Zr ab).2.2.1)) fun f S=>ov S rfl (ZDb S rfl k_sz9 (S.view bn)) fun f S=>ZVz writes ap (ZFw bk) S wn rfl zl (ZM S [.pointer (some ⟨r,0,none⟩),.string (Zy bj)] k_en101 rfl rfl) fun f w S bp=>Zz (Zcd (Zh (bi _ _ (bO H fun bX aq H=>ZA (mv S rfl fun f S=>ov S rfl (Zu S rfl rfl (ZIb aq)) fun f S=>mw S rfl fun f S=>Zz ?_)))));obtain rfl:=Zw H;refine bf _ rfl _ _ ⟨_,_,_,rfl,aa,(S.fr' rfl),bp,(Zib aq).2⟩
  have H:=Zba H E;refine Z5 S rfl E (wp_exit (Zvb ?_));obtain rfl:=Zw H;have hq:=bg _ rfl;subst hq;have H:=bd;refine Zvb (Z6d ?_);obtain rfl:=Zw H;refine Zh (bb _ _ ⟨_,_,rfl,(leT (leR _) aa),(S.fr' rfl),ap⟩)
 rintro f w ⟨Q,R,hq,bY,S,bq⟩;subst hq;have H:=ba;refine Zh (a6 _ _ (Zp fun _ br=>bO H fun bZ bs H=>ZA (op_tell tells bq S wn rfl zl (ZM S [.pointer (some ⟨r,0,none⟩)] k_en102 rfl rfl) fun f w S=>mw S rfl fun f S=>Zz (Zh (br _ _ (wp_ret ?_))))));obtain rfl:=Zw H;refine Zya S (ZYa rfl (ZN S rfl)) ⟨[.string (Zy Q)],rfl,(Z2i (Zll bs))⟩
theorem text_c {c:World} {b:Zb} (hv:VIn b c) {d:List Value} {a:Nat} (f:Rep.rel Zx b d a) {z:(List UInt8)} (hm:Zfg a=some z) :
  Ret Tryz.prog 61 #[Zx.val d] c b (fun y v'=>∃ e,y=ZAb.val e∧ZAb.rel v' e z) :=
 text_w hv f (Zsz hm)
noncomputable def Zhp:FuncId×Con:=(61,⟨[.leaf 0],[.str],fun p=>Zfg p⟩)
theorem text_k:Zne Tryz.prog Zhp.1 Zhp.2:=fun w v vals x z hv ha hz=>by
 obtain ⟨c0,e0,p0⟩:=ha;subst e0
 exact .inl ⟨fun _ _=>by kernel_rfl,Ret.mono (text_c hv p0 hz) fun y v' _ ⟨r0,e,h0⟩=>⟨r0,e,h0⟩⟩
noncomputable def Zbl:FuncId×Con:=(26,⟨[.leaf 3],[.str],fun p=>Zld p⟩)
theorem ZYn:KQ Zbl:=Zl (ZB (C:=cf0 [Zhp] [] [] []) (.n (.n (.two (.n (.j [1] [] [.s 3 (.dat .str)] .no)) (.f (.n (.j [] [] [.s 3 (.dat .str)] .no)))))) Tryz.func26 [] (fun v vals x z ha hz=>.trans (by kernel_rfl) (Zlw hz)) ⟨text_k,tr⟩)
noncomputable def ZSs:FuncId×Con:=(6,⟨[],[.bool],fun _=>Zqf⟩)
theorem ZuA:KQ ZSs:=Zl (ZV (C:=cf0 [Zeg,Zsr,ZPs,Zbl] [] [] []) (.n (.n (.n (.n (.f (.j [] [] [.s 0 (.dat .bool)] .no)))))) Tryz.func6 [] (fun _=>by kernel_rfl) ⟨Z2h,Z7z,Reach_k,ZYn,tr⟩)
noncomputable def ZRv:FuncId×Con:=(62,⟨[.int .i64,.int .i64],[.leaf 3,.int .i64],fun p=>ZCi p.1 p.2⟩)
theorem qnew_k:KQ ZRv:=Zl (ZB (C:=cf0 [ZEh,of_q,Zyf] [] [] []) .no Tryz.func62 [] (fun v vals x z ha hz=>by obtain ⟨c0,w0,e0,p0,c1,e1,p1⟩:=ha;exact .trans (by kernel_rfl) (Zww p0.2 p1.2 hz)) ⟨Zfk,of_k,Z7g,tr⟩)
noncomputable def Zyp:FuncId×Con:=(27,⟨[.pair (.int .i64) (.int .i64)],[.leaf 3],fun p=>ZZd p⟩)
theorem ZHt:KQ Zyp:=Zl (ZB (C:=cf0 [Zeg,ZRv] [] [] []) .no Tryz.func27 [] (fun v vals x z ha hz=>.trans (by kernel_rfl) (ZUA hz)) ⟨Z2h,qnew_k,tr⟩)
noncomputable def ZYe:FuncId×Con:=(115,⟨[.slice (.int .u32)],[.leaf 1],fun p=>ZBb p⟩)
theorem Zrf:KQ ZYe:=Zl (ZTl (C:=cf2 [] []) (.n (.n (.f (.j [0] [] [.s 3 (.dat (.int .i64))] (.f (.l [0] [] [.s 3 (.dat (.int .i64))] 0 [0] [] [.s 3 (.dat (.int .i64))] (.f (.f (.f (.j [0,3] [] [.s 15 (.dat .bool)] .no)))))))))) Tryz.func115 [] [.slice (.int .u32)] [.slice (.int .u32)] (fun x=>(x)) (fun z=>(Zc 4294967296 z)) (fun v vals x z ha hz=>by obtain ⟨c0,e0,p0⟩:=ha;exact .trans (by kernel_rfl) (by cases hz;exact (rcut_eq (Z5o p0).1 (Z5o p0).2))))
noncomputable def Zdj:FuncId×Con:=(70,⟨[.int .u64],[.leaf 1],fun p=>Zgc p⟩)
theorem ZVl:KQ Zdj:=Zl (ZB (C:=cf2 [(62,1),(64,4)] [ZYe]) .no Tryz.func70 [] (fun v vals x z ha hz=>by obtain ⟨c0,e0,p0⟩:=ha;exact .trans (by kernel_rfl) (Zbw p0.2 hz)) ⟨Zrf,tr⟩)
noncomputable def Zbi:FuncId×Con:=(92,⟨[.leaf 1,.leaf 1],[.leaf 1],fun p=>Zra p.1 p.2⟩)
theorem Z1i:KQ Zbi:=Zl (ZB (C:=cf2 [(62,1),(64,4)] [ZYe]) (.n (.n (.f (.n (.j [] [] [.s 5 (.own 183 (.int .u32))] (.f (.l [0,1] [] [.s 5 (.own 183 (.int .u32)),.s 6 (.dat (.int .i64))] 0 [] [] [.s 5 (.own 183 (.int .u32))] (.f (.n (.f (.f (.n (.f (.n (.j [0,1,6] [] [.s 5 (.own 183 (.int .u32)),.s 7 (.dat (.int .u64))] (.f (.l [0,1,6] [] [.s 5 (.own 183 (.int .u32)),.s 7 (.dat (.int .u64)),.s 8 (.dat (.int .i64))] 2 [0,1,6] [] [.s 5 (.own 183 (.int .u32)),.s 7 (.dat (.int .u64))] .no))))))))))))))))) Tryz.func92 [] (fun v vals x z ha hz=>.trans (by kernel_rfl) (ZBw hz)) ⟨Zrf,tr⟩)
noncomputable def Z7l:FuncId×Con:=(117,⟨[.leaf 1,.leaf 1],[.int .i64],fun p=>ZHd p.1 p.2⟩)
theorem Zso:KQ Z7l:=Zl (ZB (C:=cf2 [(62,1),(64,4)] []) (.n (.n (.n (.f (.n (.cut ⟨⟨[],[],[]⟩,[(.norm,⟨[],[],[]⟩),(.ret,⟨[],[],[.s 1000 (.dat (.int .i64))]⟩)]⟩ (.f (.cut ⟨⟨[0,1],[],[.s 5 (.dat (.int .i64))]⟩,[(.ret,⟨[],[],[.s 1000 (.dat (.int .i64))]⟩),(.exit 0,⟨[],[],[]⟩)]⟩ .no)))))))) Tryz.func117 [] (fun v vals x z ha hz=>by obtain ⟨c0,w0,e0,p0,c1,e1,p1⟩:=ha;exact .trans (by kernel_rfl) ((ZTA (Zss p0) (Zss p1)).trans hz)))
noncomputable def Zkm:FuncId×Con:=(119,⟨[.leaf 1,.leaf 1],[.leaf 1],fun p=>Zkc p.1 p.2⟩)
theorem Zos:KQ Zkm:=Zl (ZB (C:=cf2 [(62,1),(64,4)] [ZYe]) (.n (.n (.n (.f (.n (.j [] [] [.s 5 (.own 183 (.int .u32))] (.f (.l [0,1] [] [.s 5 (.own 183 (.int .u32)),.s 6 (.dat (.int .i64)),.s 7 (.dat (.int .i64))] 0 [] [] [.s 5 (.own 183 (.int .u32))] (.f (.n (.f (.f (.n (.two (.n (.j [0,1,5,7] [] [.s 8 (.dat (.int .i64))] .no)) (.n (.f (.n (.j [0,1,5,7] [] [.s 6 (.dat (.int .i64)),.s 8 (.dat (.int .i64))] .no)))))))))))))))))) Tryz.func119 [] (fun v vals x z ha hz=>.trans (by kernel_rfl) (ZrB hz)) ⟨Zrf,tr⟩)
noncomputable def Zrn:FuncId×Con:=(144,⟨[.leaf 1,.int .u32],[.leaf 1,.int .u32],fun p=>ZUf p.1 p.2⟩)
theorem ZCt:KQ Zrn:=Zl (ZB (C:=cf2 [(62,1),(64,4)] [ZYe]) (.n (.n (.n (.f (.n (.j [] [] [.s 6 (.own 183 (.int .u32)),.s 7 (.dat (.int .u64))] (.f (.l [0,1] [] [.s 6 (.own 183 (.int .u32)),.s 7 (.dat (.int .u64)),.s 8 (.dat (.int .i64))] 0 [] [] [.s 6 (.own 183 (.int .u32)),.s 7 (.dat (.int .u64))] .no)))))))) Tryz.func144 [] (fun v vals x z ha hz=>by obtain ⟨c0,w0,e0,p0,c1,e1,p1⟩:=ha;exact .trans (by kernel_rfl) (ZIA p1.2 hz)) ⟨Zrf,tr⟩)
noncomputable def Z6u:FuncId×Con:=(145,⟨[.leaf 1],[.int .i64],fun p=>Zrh p⟩)
theorem rbits_k:KQ Z6u:=Zl (ZB (C:=cf2 [(62,1),(64,4)] []) (.n (.n (.n (.f (.n (.j [] [] [.s 3 (.dat (.int .i64))] (.f (.l [] [] [.s 3 (.dat (.int .i64)),.s 4 (.dat (.int .u32))] 0 [] [] [.s 3 (.dat (.int .i64))] .no)))))))) Tryz.func145 [] (fun v vals x z ha hz=>.trans (by kernel_rfl) (ZRA hz)))
noncomputable def ZMp:FuncId×Con:=(146,⟨[.leaf 1,.int .i64],[.leaf 1],fun p=>Zaf p.1 p.2⟩)
theorem ZCx:KQ ZMp:=Zl (ZB (C:=cf2 [(62,1),(64,4)] [ZYe]) (.n (.n (.n (.n (.f (.n (.j [] [] [.s 5 (.own 183 (.int .u32)),.s 6 (.dat (.int .u64))] (.f (.l [0,1] [] [.s 5 (.own 183 (.int .u32)),.s 6 (.dat (.int .u64)),.s 7 (.dat (.int .i64))] 0 [] [] [.s 5 (.own 183 (.int .u32)),.s 6 (.dat (.int .u64))] .no))))))))) Tryz.func146 [] (fun v vals x z ha hz=>.trans (by kernel_rfl) (Zxz hz)) ⟨Zrf,tr⟩)
noncomputable def Zzu:FuncId×Con:=(147,⟨[.leaf 1,.int .i64],[.leaf 1],fun p=>Zeh p.1 p.2⟩)
theorem ZVy:KQ Zzu:=Zl (ZB (C:=cf2 [(62,1),(64,4)] [ZYe]) (.n (.n (.f (.n (.j [] [] [.s 5 (.own 183 (.int .u32))] (.f (.l [0,1] [] [.s 5 (.own 183 (.int .u32)),.s 6 (.dat (.int .i64))] 0 [] [] [.s 5 (.own 183 (.int .u32))] (.f (.n (.f (.f (.n (.f (.n (.j [0,1,5,6] [] [.s 7 (.dat (.int .u64))] .no))))))))))))))) Tryz.func147 [] (fun v vals x z ha hz=>by obtain ⟨c0,w0,e0,p0,c1,e1,p1⟩:=ha;exact .trans (by kernel_rfl) (ZEx p1.2 hz)) ⟨Zrf,tr⟩)
noncomputable def Zap:FuncId×Con:=(114,⟨[.leaf 1,.leaf 1],[.leaf 1,.leaf 1],fun p=>Zod p.1 p.2⟩)
theorem Zqs:KQ Zap:=Zl (ZB (C:=cf2 [(62,1),(64,4)] [Zdj,Zbi,ZYe,Z7l,Zkm,Zrn,Z6u,ZMp,Zzu]) (.n (.n (.n (.n (.n (.n (.n (.f (.n (.j [8] [] [.s 10 (.dat (.leaf 1)),.s 12 (.own 183 (.int .u32))] (.f (.l [8,9,11] [] [.s 10 (.dat (.leaf 1)),.s 12 (.own 183 (.int .u32)),.s 13 (.dat (.int .i64))] 0 [8] [] [.s 10 (.dat (.leaf 1)),.s 12 (.own 183 (.int .u32))] (.f (.n (.f (.j [8,9,11,13] [] [.s 10 (.dat (.leaf 1)),.s 12 (.own 183 (.int .u32))] (.f (.n (.two (.n (.j [8,9,10,11,12,13] [] [.s 14 (.dat (.slice (.int .u32)))] .no)) (.n (.n (.two (.n (.j [8,9,10,11,12,13,14] [] [.s 15 (.dat (.int .u64))] .no)) (.n (.two (.n (.j [8,9,10,11,12,13,14] [] [.s 16 (.dat (.int .u64))] .no)) (.n (.f (.j [8,9,10,11,12,13,14] [] [.s 16 (.dat (.int .u64)),.s 17 (.dat (.leaf 1))] (.f (.l [8,9,10,11,12,13,14] [] [.s 16 (.dat (.int .u64)),.s 17 (.dat (.leaf 1))] 2 [8,9,10,11,12,13,14] [] [.s 16 (.dat (.int .u64)),.s 17 (.dat (.leaf 1))] .no))))))))))))))))))))))))))))) Tryz.func114 [] (fun v vals x z ha hz=>.trans (by kernel_rfl) (ZLB hz)) ⟨ZVl,Z1i,Zrf,Zso,Zos,ZCt,rbits_k,ZCx,ZVy,tr⟩)
noncomputable def ZDs:FuncId×Con:=(113,⟨[.leaf 1,.leaf 1],[.leaf 1],fun p=>rgcF p.1 p.2⟩)
theorem rgcd_k:KQ ZDs:=Zl (ZB (C:=cf2 [(62,1),(64,4)] [Zap]) (.n (.f (.j [] [] [.s 0 (.dat (.leaf 1))] (.f (.l [] [] [.s 0 (.dat (.leaf 1)),.s 1 (.dat (.leaf 1))] 0 [] [] [.s 0 (.dat (.leaf 1))] .no))))) Tryz.func113 [] (fun v vals x z ha hz=>.trans (by kernel_rfl) (rgcF_eq hz)) ⟨Zqs,tr⟩)
noncomputable def Zxf:FuncId×Con:=(69,⟨[.bool,.leaf 1,.leaf 1],[.leaf 4],fun p=>ZWa p.1 p.2.1 p.2.2⟩)
theorem ZPg:KQ Zxf:=Zl (ZB (C:=cf2 [(62,1),(64,4)] [ZDs,Zap]) .no Tryz.func69 [] (fun v vals x z ha hz=>.trans (by kernel_rfl) (Zfy hz)) ⟨rgcd_k,Zqs,tr⟩)
noncomputable def Zdf:FuncId×Con:=(63,⟨[.int .i64],[.leaf 4],fun p=>ZIa p⟩)
theorem Zhf:KQ Zdf:=Zl (ZB (C:=cf2 [(62,1),(64,4)] [Zxf,Zdj]) .no Tryz.func63 [] (fun v vals x z ha hz=>by obtain ⟨c0,e0,p0⟩:=ha;exact .trans (by kernel_rfl) (ZLw p0.2 hz)) ⟨ZPg,ZVl,tr⟩)
noncomputable def Zgs:FuncId×Con:=(64,⟨[.int .i64,.int .i64],[.leaf 4,.int .i64],fun p=>ZGj p.1 p.2⟩)
theorem rnew_k:KQ Zgs:=Zl (ZB (C:=cf2 [(62,1),(64,4)] [Zdf,Zxf]) .no Tryz.func64 [] (fun v vals x z ha hz=>by obtain ⟨c0,w0,e0,p0,c1,e1,p1⟩:=ha;exact .trans (by kernel_rfl) (Z3A p0.2 p1.2 hz)) ⟨Zhf,ZPg,tr⟩)
noncomputable def rof_q:FuncId×Con:=(28,⟨[.pair (.int .i64) (.int .i64)],[.leaf 4],fun p=>Zoe p⟩)
theorem rof_k:KQ rof_q:=Zl (ZB (C:=cf2 [(62,1),(64,4)] [Zdf,Zgs]) .no Tryz.func28 [] (fun v vals x z ha hz=>.trans (by kernel_rfl) (rofF_eq hz)) ⟨Zhf,rnew_k,tr⟩)
noncomputable def Z8r:FuncId×Con:=(7,⟨[.slice (.pair (.pair (.int .i64) (.int .i64)) (.pair (.pair (.int .i64) (.int .i64)) (.pair (.pair (.int .i64) (.int .i64)) (.pair (.int .i64) (.int .i64)))))],[.slice (.pair (.leaf 3) (.pair (.leaf 3) (.pair (.leaf 3) (.leaf 3)))),.slice (.pair (.pair .bool (.pair (.leaf 1) (.leaf 1))) (.pair (.pair .bool (.pair (.leaf 1) (.leaf 1))) (.pair (.pair .bool (.pair (.leaf 1) (.leaf 1))) (.pair .bool (.pair (.leaf 1) (.leaf 1))))))],fun p=>Zml p⟩)
theorem ZGA:KQ Z8r:=Zl (ZV (C:=cf2 [(34,0),(36,2),(38,3),(62,1)] [Zyp,rof_q]) (.n (.n (.f (.n (.f (.l [4,5,14,15] [] [.s 16 (.dat (.int .i64)),.l (.sl 4) (.own 58 (.pair (.leaf 3) (.pair (.leaf 3) (.pair (.leaf 3) (.leaf 3))))),.l (.sl 5) (.own 93 (.pair (.pair .bool (.pair (.leaf 1) (.leaf 1))) (.pair (.pair .bool (.pair (.leaf 1) (.leaf 1))) (.pair (.pair .bool (.pair (.leaf 1) (.leaf 1))) (.pair .bool (.pair (.leaf 1) (.leaf 1)))))))] 0 [4,5] [] [.l (.sl 4) (.own 58 (.pair (.leaf 3) (.pair (.leaf 3) (.pair (.leaf 3) (.leaf 3))))),.l (.sl 5) (.own 93 (.pair (.pair .bool (.pair (.leaf 1) (.leaf 1))) (.pair (.pair .bool (.pair (.leaf 1) (.leaf 1))) (.pair (.pair .bool (.pair (.leaf 1) (.leaf 1))) (.pair .bool (.pair (.leaf 1) (.leaf 1)))))))] .no)))))) Tryz.func7 [] (fun _=>by kernel_rfl) ⟨ZHt,rof_k,tr⟩)
noncomputable def ZIq:FuncId×Con:=(8,⟨[.slice (.pair (.int .i64) (.int .i64))],[.slice (.leaf 3),.slice (.pair .bool (.pair (.leaf 1) (.leaf 1)))],fun p=>Z4l p⟩)
theorem Z0y:KQ ZIq:=Zl (ZV (C:=cf2 [(34,0),(36,2),(38,3),(62,1)] [Zyp,rof_q]) (.n (.n (.f (.n (.f (.l [4,5,14,15] [] [.s 16 (.dat (.int .i64)),.l (.sl 4) (.own 38 (.leaf 3)),.l (.sl 5) (.own 64 (.pair .bool (.pair (.leaf 1) (.leaf 1))))] 0 [4,5] [] [.l (.sl 4) (.own 38 (.leaf 3)),.l (.sl 5) (.own 64 (.pair .bool (.pair (.leaf 1) (.leaf 1))))] .no)))))) Tryz.func8 [] (fun _=>by kernel_rfl) ⟨ZHt,rof_k,tr⟩)
noncomputable def ZKm:FuncId×Con:=(29,⟨[.slice (.pair (.leaf 3) (.pair (.leaf 3) (.pair (.leaf 3) (.leaf 3))))],[.int .i64],fun p=>Zni p⟩)
theorem ZWp:KQ ZKm:=Zl (ZV (C:=cf0 [ZPc] [] [] []) (.n (.two (.f (.j [0] [] [.s 12 (.dat .bool)] .no)) (.f (.n (.cut ⟨⟨[],[],[]⟩,[(.norm,⟨[],[],[]⟩),(.ret,⟨[],[],[.s 1000 (.dat (.int .i64))]⟩)]⟩ (.f (.cut ⟨⟨[13,14],[],[.s 15 (.dat (.int .i64))]⟩,[(.ret,⟨[],[],[.s 1000 (.dat (.int .i64))]⟩),(.exit 0,⟨[],[],[]⟩)]⟩ (.f (.n (.n (.f (.f (.n (.f (.j [13,14,15] [] [.s 40 (.dat .bool)] .no))))))))))))))) Tryz.func29 [] (fun _=>by kernel_rfl) ⟨Znd,tr⟩)
noncomputable def ZOo:FuncId×Con:=(30,⟨[.slice (.leaf 3)],[.int .i64],fun p=>Z5i p⟩)
theorem ZOr:KQ ZOo:=Zl (ZV (C:=cf0 [ZCe,ZPc] [] [] []) (.n (.two (.f (.j [0] [] [.s 12 (.dat .bool)] .no)) (.f (.n (.cut ⟨⟨[],[],[]⟩,[(.norm,⟨[],[],[]⟩),(.ret,⟨[],[],[.s 1000 (.dat (.int .i64))]⟩)]⟩ (.f (.cut ⟨⟨[0,13,14],[],[.s 15 (.dat (.int .i64))]⟩,[(.ret,⟨[],[],[.s 1000 (.dat (.int .i64))]⟩),(.exit 0,⟨[],[],[]⟩)]⟩ (.f (.n (.n (.f (.f (.n (.n (.f (.j [0,13,14,15] [] [.s 34 (.dat .bool)] .no)))))))))))))))) Tryz.func30 [] (fun _=>by kernel_rfl) ⟨ZOf,Znd,tr⟩)
noncomputable def Zxm:FuncId×Con:=(43,⟨[.leaf 3],[.leaf 3],fun p=>Zfh p⟩)
theorem ZWr:KQ Zxm:=Zl (ZV (C:=cf0 [ZPc,Zff] [] [] []) .no Tryz.func43 [] (fun _=>by kernel_rfl) ⟨Znd,Zuf,tr⟩)
noncomputable def Zun:FuncId×Con:=(46,⟨[.pair (.leaf 3) (.slice (.pair (.leaf 3) (.leaf 3))),.slice (.pair (.leaf 3) (.pair (.leaf 3) (.pair (.leaf 3) (.leaf 3))))],[.leaf 3],fun p=>Z6e p.1 p.2⟩)
theorem Zpu:KQ Zun:=Zl (ZV (C:=cf0 [ZCe,Zxm,ZYf,ZKp,ZJg] [200038] [] []) (.n (.n (.f (.n (.f (.l [2,4,5,14,15] [] [.s 16 (.dat (.int .i64)),.l (.sl 5) (.box 38 (.dat (.leaf 3)))] 0 [4,5] [] [.l (.sl 5) (.box 38 (.dat (.leaf 3)))] (.f (.n (.n (.f (.f (.n (.n (.n (.f (.l [2,4,5,7,14,15,16,35] [] [.s 36 (.dat (.int .i64)),.l (.sl 5) (.box 38 (.dat (.leaf 3)))] 2 [2,4,5,14,15,16] [] [.l (.sl 5) (.box 38 (.dat (.leaf 3)))] (.f (.n (.n (.f (.f (.two (.j [2,4,5,7,14,15,16,35,36] [] [.s 11 (.box 38 (.dat (.leaf 3)))] .no) (.n (.n (.j [2,4,5,7,14,15,16,35,36] [] [.l (.sl 5) (.box 38 (.dat (.leaf 3)))] .no))))))))))))))))))))))))) Tryz.func46 [] (fun _=>by kernel_rfl) ⟨ZOf,ZWr,Zug,Zwv,ZUh,tr⟩)
noncomputable def Z8k:FuncId×Con:=(105,⟨[.slice (.slice (.leaf 3))],[.int .i64],fun p=>Zsh p⟩)
theorem ZIp:KQ Z8k:=Zl (ZV (C:=cf0 [] [] [] []) .no Tryz.func105 [] (fun _=>by kernel_rfl))
noncomputable def Z8q:FuncId×Con:=(135,⟨[.slice (.slice (.leaf 3))],[.bool],fun p=>ZUl p⟩)
theorem Z0x:KQ Z8q:=Zl (ZV (C:=cf0 [Z8k] [] [] []) (.n (.n (.f (.j [] [] [.s 2 (.dat .bool)] .no)))) Tryz.func135 [(159,Tryz.f159,.no),(160,Tryz.f160,.no),(176,Tryz.f176,.r [] [] [.s 1000 (.dat (.int .i64))] (.n (.f (.n (.f (.cut ⟨⟨[0,1,7],[],[.s 8 (.dat (.int .i64))]⟩,[(.exit 0,⟨[],[],[]⟩),(.ret,⟨[],[],[.s 1000 (.dat (.int .i64))]⟩)]⟩ .no))))))] (fun _=>by kernel_rfl) ⟨ZIp,tr⟩ tr tr ⟨⟨Tryz.func159,fun _ _=>by kernel_rfl⟩,⟨Tryz.func160,fun _ _=>by kernel_rfl⟩,⟨Tryz.func176,fun _ _=>by kernel_rfl⟩,tr⟩)
noncomputable def ZGr:FuncId×Con:=(103,⟨[.slice (.slice (.leaf 3)),.slice (.leaf 3),.slice (.leaf 3)],[.bool],fun p=>ZRl p.1 p.2.1 p.2.2⟩)
theorem Zmw:KQ ZGr:=Zl (ZV (C:=cf0 [Z8k,Z8q] [] [] []) (.n (.f (.j [] [] [.s 6 (.dat .bool)] .no))) Tryz.func103 [] (fun _=>by kernel_rfl) ⟨ZIp,Z0x,tr⟩)
theorem ZJu : ∀ y w, (method (Tryz.prog.types.size + Made.depth) 38 y "Add").run Tryz.prog w = .ok (42, y) w := fun _ _ => by kernel_rfl
theorem ZJv : ∀ y w, (method (Tryz.prog.types.size + Made.depth) 38 y "Cmp").run Tryz.prog w = .ok (19, y) w := fun _ _ => by kernel_rfl
theorem Zqq : ∀ y w, (method (Tryz.prog.types.size + Made.depth) 38 y "Div").run Tryz.prog w = .ok (82, y) w := fun _ _ => by kernel_rfl
theorem Zst : ∀ y w, (method (Tryz.prog.types.size + Made.depth) 38 y "Mul").run Tryz.prog w = .ok (18, y) w := fun _ _ => by kernel_rfl
theorem Z5h : ∀ y w, (method (Tryz.prog.types.size + Made.depth) 38 y "Neg").run Tryz.prog w = .ok (81, y) w := fun _ _ => by kernel_rfl
theorem Zuz : ∀ y w, (method (Tryz.prog.types.size + Made.depth) 38 y "Of").run Tryz.prog w = .ok (199, y) w := fun _ _ => by kernel_rfl
theorem Z9l : ∀ y w, (method (Tryz.prog.types.size + Made.depth) 38 y "Sign").run Tryz.prog w = .ok (45, y) w := fun _ _ => by kernel_rfl
theorem Zru : ∀ y w, (method (Tryz.prog.types.size + Made.depth) 38 y "Sub").run Tryz.prog w = .ok (54, y) w := fun _ _ => by kernel_rfl
theorem ZLq : ∀ y w, (method (Tryz.prog.types.size + Made.depth) 38 y "Zero").run Tryz.prog w = .ok (17, y) w := fun _ _ => by kernel_rfl
noncomputable def Zmv:FuncId×Con:=(104,⟨[.slice (.leaf 3)],[.bool],fun p=>Zck p⟩)
theorem Zby : KQ Zmv := Zl (ZV (C := cf0 [ZPc] [] [] [((38, "Sign"), 45)]) .no Tryz.func104 [(136, Tryz.f136, .no), (137, Tryz.f137, .no), (161, Tryz.f161, .r [] [] [.s 1000 (.dat (.int .i64))] (.n (.f (.n (.f (.cut ⟨⟨[0, 1, 7], [], [.s 8 (.dat (.int .i64))]⟩, [(.exit 0, ⟨[], [], []⟩), (.ret, ⟨[], [], [.s 1000 (.dat (.int .i64))]⟩)]⟩ .no))))))] (fun _ => by kernel_rfl) ⟨Znd, tr⟩ tr ⟨Z9l, tr⟩ ⟨⟨Tryz.func136, fun _ _ => by kernel_rfl⟩, ⟨Tryz.func137, fun _ _ => by kernel_rfl⟩, ⟨Tryz.func161, fun _ _ => by kernel_rfl⟩, tr⟩)
theorem Ztt:Elem Tryz.prog 29 38 (ZU).n 56 (Value.agg #[Value.bool false,Value.slice none 0 0,Value.slice none 0 0]):=⟨Tryz.underlying29,by kernel_rfl,rfl,by decide⟩
noncomputable def ZBj:FuncId×ConO:=(106,⟨[.slice (.leaf 3)],38,.leaf 3,fun p=>Zvc 56 p⟩)
theorem Zko:ZGf Tryz.prog ZBj.1 ZBj.2:=fun w v vals x z hv ha hz=>by
 obtain ⟨cs,rfl,p0⟩:=ha
 have hz:Zvc 56 (show List Rat from x)=some z:=hz
 obtain ⟨hb,rfl⟩:=Zfx hz
 obtain ⟨q,n,c,rfl⟩:=ZRg (show (ZD ZU).rel v cs z from p0)
 refine ⟨fun _ _=>by kernel_rfl,?_⟩
 have hn:n=(show List Rat from z).length:=by obtain ⟨_,_,e,_⟩:=p0;cases e;rfl
 refine Z4j (K:=8) (args:=[.slice q n c]) hv Tryz.func106 rfl rfl zl fun fa hS=>?_
 refine sr ?_
 refine mw hS rfl fun fa hS=>?_
 refine oe ?_
 refine wp_seq_k fun N1 hN1=>?_
 refine sr ?_
 refine mv hS rfl fun fa hS=>?_
 refine ov hS rfl (ZpA hS Tryz.underlying29 rfl rfl) fun fa hS=>?_
 refine oe ?_
 cases q with
 | none =>
  refine Zta hS rfl rfl ?_
  have hx:(show List Rat from z)=[]:=by
   obtain ⟨q',c',e,_,_,h3⟩:=p0
   cases e
   rcases h3 with h3 | ⟨_,_,_,_,_,h4,_⟩
   ·exact h3
   ·cases h4
  have hx0:n=0:=by rw [hn,hx];rfl
  refine sr ?_;refine mw hS rfl fun fa hS=>?_;refine oe ?_;refine wp_ret ?_;refine Z6b ?_;have hS2:=hS.nilLoc 38 (ZU).n;have:=Zco (P:=Tryz.prog) (A:=ZU) hS2 (i:=0) (ob:=none) (n:=0) (cap:=0) (cs:=[]) rfl (ZYa (fn:=Tryz.f106) (r:=.tmp 2) rfl (ZN (t:=2) (y:=.slice (mkA none) 0 0) hS2 rfl)) (l:=([]:List Rat)) ZKf rfl;rw [hx];exact this
 | some ad =>
  refine Z5 hS rfl rfl ?_;refine wp_skip ?_;refine Zh (hN1 _ _ ?_);refine sr ?_;obtain ⟨b,wo,hrun,hS⟩:=ZSy Ztt hS;refine Zsd wn rfl zl hrun hS fun fa hS=>?_;refine mv hS rfl fun fa hS=>?_;obtain ⟨b',cap',cs2,wo,hr,hS',hrel⟩:=ZTg (ty:=29) (A:=ZU) Ztt hS (i:=0) rfl (Rep.mono (ZD ZU) hS.vst.le p0) (n':=n) (by omega) (by rw [hn];exact hb) (by decide);refine Zsd wn rfl zl (ZBe hS rfl rfl hr) hS' fun fa hS=>?_;refine mw hS rfl fun fa hS=>?_;refine oe ?_;refine wp_ret ?_;exact Zco hS (i:=0) rfl (ZYa rfl (ZN hS rfl)) hrel hn
noncomputable def ZRs:FuncId×ConO:=(107,⟨[.slice (.leaf 3)],38,.leaf 3,fun p=>ZXi p⟩)
theorem ZgA : KO ZRs := ZQq (C := cf0 [Zff] [] [] [((38, "Neg"), 81)]) (.n (.n (.f (.n (.f (.l [6, 7] [] [.s 3 (.own 38 (.leaf 3)), .s 8 (.dat (.int .i64))] 0 [] [] [.s 3 (.own 38 (.leaf 3))] .no)))))) Tryz.func107 [] (fun _ => by kernel_rfl) ⟨Zuf, tr⟩ tr ⟨Z5h, tr⟩
noncomputable def qOf_q:FuncId×Con:=(199,⟨[.leaf 3,.leaf 3],[.leaf 3],fun p=>qOf_m p.1 p.2⟩)
theorem qOf_k:KQ qOf_q:=Zl (ZV (C:=cf0 [] [] [] []) .no Tryz.func199 [] (fun _=>by kernel_rfl))
noncomputable def ZAg:FuncId×Con:=(109,⟨[.int .i64],[.leaf 3],fun p=>ZWb p⟩)
theorem ZWg : KQ ZAg := Zl (ZV (C := cf0 [Zeg, qOf_q] [] [] [((38, "Of"), 199)]) .no Tryz.func109 [] (fun _ => by kernel_rfl) ⟨Z2h, qOf_k, tr⟩ tr ⟨Zuz, tr⟩)
noncomputable def ZQk (x:Int) (y:Int):Option (Int×Int) :=
 bnd (Z5c x y) fun a =>
 some ((a.1,a.2))
theorem bmul_w {c:World} {a:Zb} (hv:VIn a c) {d:List Value} {x:Int} (i:Rep.rel (Zd .u64) a d x) {e:List Value} {y:Int} (j:Rep.rel (Zd .u64) a e y) {z:Int×Int} (H:ZQk x y=some z):Ret Tryz.prog 130 #[(Zd .u64).val d,(Zd .u64).val e] c a (fun y v'=>∃ g b,y = .tuple #[(Zd .u64).val g,(Zd .u64).val b]∧(Zd .u64).rel v' g z.1∧(Zd .u64).rel v' b z.2):=by
 obtain ⟨rfl,b⟩:=i;obtain ⟨rfl,k⟩:=j;refine ZRb (K:=30) (args:=[.int .u64 x,.int .u64 y]) hv Tryz.func130 rfl rfl zl fun f S=>?_;unfold ZQk at H;refine sr (mw S rfl fun f S=>mw S rfl fun f S=>oe (Zp fun _ l=>Z5 S rfl rfl (wp_skip (Zh (l _ _ (Zp fun _ m=>bO H fun h n H=>ZA (mv S rfl fun f S=>mv S rfl fun f S=>opc S rfl (ZM S [.int .u64 x,.int .u64 y] Z2m rfl rfl) (Zlp S.vin (show Rep.rel (Zd .u64) _ [.int .u64 x] x from (ZJ b)) (show Rep.rel (Zd .u64) _ [.int .u64 y] y from (ZJ k)) n) ?_)))))));rintro _ s f w t ⟨u,v,rfl,o,p⟩ S;obtain ⟨rfl,q⟩:=o;obtain ⟨rfl,r⟩:=p;refine mv S rfl fun f S=>ov S rfl (Zga S rfl rfl) fun f S=>ov S rfl (Zga S rfl rfl) fun f S=>mw S rfl fun f S=>mw S rfl fun f S=>Zz (Zh (m _ _ (sr (mv S rfl fun f S=>mv S rfl fun f S=>mw S rfl fun f S=>mw S rfl fun f S=>oe (wp_ret ?_)))));obtain rfl:=Zw H;refine Zya S (Ztc rfl (ZN S rfl) (ZN S rfl)) ⟨[.int .u64 (h.1)],[.int .u64 (h.2)],rfl,(ZJ q),(ZJ r)⟩
theorem Z0o:Elem Tryz.prog 29 38 (ZU).n 56 (Value.agg #[Value.bool false,Value.slice none 0 0,Value.slice none 0 0]):=⟨Tryz.underlying29,by kernel_rfl,rfl,by decide⟩
theorem Z6j:Z4b Tryz.prog 29 38 (ZU).n:=⟨fun _=>by kernel_rfl,fun _=>by kernel_rfl⟩
theorem Zkw:Tryz.prog.follows .mixedOrders=true:=by kernel_rfl
theorem Zty:ZG Tryz.prog 130:=fun _ _=>by kernel_rfl
theorem Zkq:Zvi Tryz.prog 3 197 .i64 .u64:=fun _ _=>by kernel_rfl
theorem ZQz:Zvi Tryz.prog 197 3 .u64 .i64:=fun _ _=>by kernel_rfl
noncomputable def ZIh:FuncId×ConO:=(138,⟨[.slice (.leaf 3),.int .i64],38,.leaf 3,fun p=>Zzd 56 p.1 p.2⟩)
theorem Zgk:ZGf Tryz.prog ZIh.1 ZIh.2:=fun w v vals x z hv ha hz=>by
 obtain ⟨cs,vs,rfl,p0,c1,rfl,rfl,hin⟩:=ha
 obtain ⟨x1,k0⟩:=x
 have hz:Zzd 56 (show List Rat from x1) k0=some z:=hz
 obtain ⟨y,hx1,hzr,hmk⟩:=ZBB hz
 have hx1:x1=[y]:=hx1
 subst hx1 hzr
 obtain ⟨h0,_,hb1,hb2⟩:=Zfe hmk
 obtain ⟨k,rfl⟩:=Int.eq_ofNat_of_zero_le h0
 obtain ⟨q,c,e,hc1,hc2,hne⟩:=(show (ZD ZU).rel v cs [y] from p0)
 subst e
 rcases hne with hne | ⟨b,off,cc,TT,fr,rfl,hvb,hrel⟩
 ·cases hne
 have hlen1:([y]:List Rat).length=1:=rfl
 rw [hlen1] at hrel
 obtain ⟨c1,c2,e12,hrc,e2⟩:=hrel
 have e2:c2=[]:=e2
 subst e2
 rw [List.append_nil,Nat.one_mul] at e12
 have hl1:=Rep.len _ hrc
 have hAt:At v b off c1:=⟨cc,TT,fr,hvb,by rw [hl1];exact e12⟩
 refine ⟨fun _ _=>by kernel_rfl,?_⟩
 have hk:((k:Int).toNat)=k:=tN k
 rw [hk]
 refine Z4j (K:=48) (args:=[.slice (some ⟨b,off,none⟩) 1 c,.int .i64 (k:Int)]) hv Tryz.func138 rfl rfl zl fun fa hS=>?_
 refine sr ?_
 refine mw hS rfl fun fa hS=>?_
 refine oe ?_
 refine wp_seq_k fun N1 hN1=>?_
 refine sr ?_
 refine mv hS rfl fun fa hS=>?_
 refine ov hS rfl (Zu hS rfl rfl Zdd) fun fa hS=>?_
 refine oe ?_
 refine Z5 hS rfl (dFq (by omega)) ?_
 refine wp_skip ?_
 refine Zh (hN1 _ _ ?_)
 refine sr ?_
 refine mv hS rfl fun fa hS=>?_
 refine ov hS rfl (Zoc hS rfl rfl Z6j) fun fa hS=>?_
 refine ov hS rfl (ZQd hS rfl (Zkq _)) fun fa hS=>?_
 refine mv hS rfl fun fa hS=>?_
 refine ov hS rfl (ZQd hS rfl (Zkq _)) fun fa hS=>?_
 have w1:IntKind.u64.wrap ((1:Nat):Int)=1:=by decide
 have w2:IntKind.u64.wrap (k:Int)=k:=ZDd (Zid.2 (by omega))
 rw [w1,w2] at hS
 have hmul:ZQk 1 (k:Int)=some (0,(k:Int)):=by
  unfold ZQk Z5c;rw [iP (by omega),Za];simp only;congr 2 <;> omega
 refine Zjj hS wn rfl zl (ZM hS [.int .u64 1,.int .u64 (k:Int)] Zty rfl rfl) (bmul_w hS.vin (show Rep.rel (Zd .u64) _ [.int .u64 1] 1 from ZJ (by decide)) (show Rep.rel (Zd .u64) _ [.int .u64 (k:Int)] (k:Int) from ZJ (Zid.2 (by omega))) hmul) ?_;rintro _ v1 fa wo hle ⟨r0,r1,rfl,⟨rfl,_⟩,⟨rfl,_⟩⟩ hS;refine mv hS rfl fun fa hS=>?_;refine ov hS rfl (Zga hS rfl rfl) fun fa hS=>?_;refine ov hS rfl (Zga hS rfl rfl) fun fa hS=>?_;refine mw hS rfl fun fa hS=>?_;refine mw hS rfl fun fa hS=>?_;refine oe ?_;refine wp_seq_k fun N2 hN2=>?_;refine sr ?_;refine mv hS rfl fun fa hS=>?_;refine ov hS rfl (Zu hS rfl rfl ZVf) fun fa hS=>?_;have g1:decide ((0:Int)<0)=false:=rfl;have hS:St _ _ _ ((22,Value.bool false) :: _) _ _ _ _:=hS;refine mv hS rfl fun fa hS=>?_;refine op_v hS (Z3d hS rfl rfl rfl zl) rfl zl (ZK hS rfl) fun fa hS=>?_;refine op_v hS (Z3d hS rfl rfl rfl zl) rfl zl (Zu hS rfl rfl ZVf) fun fa hS=>?_;refine ov hS rfl (ZJc (b:=false) hS rfl rfl) fun fa hS=>?_;refine oe ?_;refine Z5 hS rfl (dFq (by omega)) ?_;refine wp_skip ?_;refine Zh (hN2 _ _ ?_);refine sr ?_;refine mv hS rfl fun fa hS=>?_;refine ov hS rfl (ZQd hS rfl (ZQz _)) fun fa hS=>?_;have w3:IntKind.i64.wrap (k:Int)=k:=ZDd (Zkb.2 (by omega));rw [w3] at hS;obtain ⟨b2,wo,hrun,hS'⟩:=Zop Z0o hS (l:=(k:Int)) (c:=(k:Int)) h0 (Int.le_refl _) hb1 hb2
 refine Zsd wn rfl zl (hrun rfl rfl) hS' fun fa hS=>?_;refine mw hS rfl fun fa hS=>?_;refine oe ?_;rw [hk] at hS;have hS:=hS.fr' (σ':=[(7,.slice (mkA (some b2)) k k),(0,.slice (some ⟨b,off,none⟩) 1 c)]) rfl;have src1:∀ {σ:List (Nat×Value)} {ℓ:List Loc} {v':Zb} {a:Act} {w':World},St 48 w v σ ℓ v' a w'→∀ j u,c1[j]? = some u→w'.cell? ((⟨b,off,none⟩:Addr).add j)=some u:=fun hS j u hu=>by
  have:=(hS.view (At.mono hS.vst.le hAt)).cell hu
  rwa [Z0a]
 have hpl1:c1.all plain=true:=Rep.flat _ hrc;obtain ⟨zc,hzc⟩:∃ zc:List Value,zc=(Value.agg #[Value.bool false,Value.slice none 0 0,Value.slice none 0 0]:Value).cells.toList:=⟨_,rfl⟩;have hzl:zc.length=(ZU).n:=by rw [hzc];rfl
 rw [← hzc] at hS
 let Inv:Nat→Act→World→Prop:=fun j a w'=>∃ v',j≤k∧(0<k→0<j)∧St 48 w v [(8,.int .i64 (j:Int)),(7,.slice (mkA (some b2)) k k)] [.own (some b2) 38 (ZU).n k k ((List.replicate j c1).flatten++(List.replicate (k-j) zc).flatten)] v' a w'
 have rl:=fun n=>Z3k hl1 n;have rpl:∀ n:Nat,((List.replicate n c1).flatten).all plain=true:=fun n=>Zdw hpl1 n;have step:=fun j m (hjm:j+m≤k)=>rp_step (k:=k) hl1 hzl hjm;refine sr ?_;refine mv hS rfl fun fa hS=>?_;refine mv hS rfl fun fa hS=>?_;have hS1:St 48 w v _ [.own (some b2) 38 (ZU).n k k ((List.replicate 0 c1).flatten++(List.replicate (k-0) zc).flatten)] v1 fa wo:=hS;obtain ⟨wo2,hr,hS'⟩:=Zxv (t:=29) (sT:=29) Z0o hS1 (i:=0) rfl (p:=0) (k:=min 1 k) (c:=(List.replicate (min 1 k) c1).flatten) (rl _) (by omega) (rpl _) (ad:=⟨b,off,none⟩) (sLen:=1) (sCap:=c) (dLen:=k) (dCap:=k) (fun j u hu=>by
  rcases Nat.lt_or_ge 0 k with hk0 | hk0
  ·rw [show min 1 k=1 by omega] at hu;simp only [List.replicate_one,List.flatten_cons,List.flatten_nil,List.append_nil] at hu;exact src1 hS1 j u hu
  ·rw [show min 1 k=0 by omega] at hu;simp at hu) rfl
 have hst:=step 0 (min 1 k) (by omega);simp only [List.set_cons_zero] at hS';rw [hst] at hS';simp only [Nat.zero_add] at hS';rw [Nat.zero_mul] at hr;refine Zsd wn rfl zl (ZZt hS1 rfl rfl (hr _)) hS' fun fa hS=>?_;refine mw hS rfl fun fa hS=>?_;refine oe ?_;have hS:=hS.fr' (σ':=[(8,.int .i64 ((min 1 k:Nat):Int)),(7,.slice (mkA (some b2)) k k)]) rfl;refine wp_seq_k fun N3 hN3=>?_;refine wp_block ?_;refine wp_loop_fuel (fun m a w'=>∃ j,k-j<m∧Inv j a w') (k+1) ⟨min 1 k,by omega,v1,by omega,by omega,hS⟩ (fun a w' ⟨j,h,_⟩=>by omega) ?_;rintro m fa wo3 ⟨j,hjm,v3,hjk,hj0,hS⟩ N hN;refine wp_seq_k fun N4 hN4=>?_;refine sr ?_;refine mv hS rfl fun fa hS=>?_;refine mv hS rfl fun fa hS=>?_;refine ov hS rfl (Zoc hS rfl rfl Z6j) fun fa hS=>?_;refine ov hS rfl (Zu hS rfl rfl Zdd) fun fa hS=>?_;refine oe ?_;by_cases hlt:j<k
 ·refine Zta hS rfl (dTq (by omega)) ?_;refine wp_skip ?_;refine Zh (hN4 _ _ ?_);refine wp_block ?_;have hS:=hS.fr' (σ':=[(8,.int .i64 (j:Int)),(7,.slice (mkA (some b2)) k k)]) rfl;refine ZCf (fl:=#[true,true,true,true,true,true,true,false,false,false]) Zkw (by kernel_rfl) hS ?_;intro ops hops hF wo hS;refine rf hops hF 0 rfl (by kernel_rfl) rfl hS (ZK hS rfl) fun fa hS=>?_;refine rf hops hF 1 rfl (by kernel_rfl) rfl hS (ZK hS rfl) fun fa hS=>?_;refine rf hops hF 2 rfl (by kernel_rfl) rfl hS (ZK hS rfl) fun fa hS=>?_;refine rf hops hF 3 rfl (by kernel_rfl) rfl hS (ZLy hS Z6j rfl rfl (by omega) (by omega)) fun fa hS=>?_;refine rf hops hF 4 rfl (by kernel_rfl) rfl hS (ZK hS rfl) fun fa hS=>?_;refine rf hops hF 5 rfl (by kernel_rfl) rfl hS (ZK hS rfl) fun fa hS=>?_;refine rf hops hF 6 rfl (by kernel_rfl) rfl hS (ZVm hS Z6j rfl rfl (by omega) (by omega)) fun fa hS=>?_;rw [Nat.zero_add] at hS;obtain ⟨wo',hr,hS'⟩:=Zxv (t:=29) (sT:=29) Z0o hS (i:=0) rfl (p:=j) (k:=min j (k-j)) (c:=(List.replicate (min j (k-j)) c1).flatten) (rl _) (by omega) (rpl _) (ad:=⟨b2,0,none⟩) (sLen:=j) (sCap:=k) (dLen:=k-j) (dCap:=k-j) (fun i u hu=>by
   have hi:=(List.getElem?_eq_some_iff.1 hu).1;refine Zch hS (j:=0) rfl i u ?_;rw [Zrs (c:=c1) (m:=min j (k-j)) (n:=j) (by omega),List.append_assoc,List.getElem?_append_left hi];exact hu) rfl
  have hst:=step j (min j (k-j)) (by omega);simp only [List.set_cons_zero] at hS';rw [hst] at hS';refine ZPf hops hF 7 (by kernel_rfl) ?_;refine Zbp [3,6,1,2,4,5] [0] hops rfl (by kernel_rfl) wn rfl zl (ZZt hS rfl rfl (hr _)) hS' fun fa hS=>?_;refine ⟨(py hS rfl rfl (ZK hS rfl) Z1a),?_⟩;refine ZPf hops hF 8 (by kernel_rfl) ?_;have hadd:chk .i64 ((j:Int)+((min j (k-j):Nat):Int))=some ((j+min j (k-j):Nat):Int):=by rw [Zj (by omega) (by omega)];rfl
  refine nv [0,7,3,6,1,2,4,5] [] hops rfl (by kernel_rfl) rfl hS (Zu hS rfl rfl (ZTc hadd)) fun fa hS=>?_;refine ⟨Z1a,?_⟩;refine ZPf hops hF 9 (by kernel_rfl) ?_;refine nv [0,1,2,3,4,5,6,7,8] [] hops rfl (by kernel_rfl) rfl hS (Z7c hS rfl) fun fa hS=>?_;refine ⟨Z1a,?_⟩;refine ZKk hops hF (by kernel_rfl) ?_;refine Zcd ?_;have hj0:=hj0 (by omega);exact Zh (hN _ _ ⟨j+min j (k-j),by omega,v3,by omega,fun _=>by omega,hS.fr' rfl⟩)
 refine Z5 hS rfl (dFq (by omega)) ?_;refine wp_exit ?_;refine Zvb ?_;refine Zvb ?_;refine Z6d ?_;refine Zh (hN3 _ _ ?_);have hjk:j=k:=by omega
 subst hjk;rw [Nat.sub_self,List.replicate_zero,List.flatten_nil,List.append_nil] at hS;refine sr ?_;refine mv hS rfl fun fa hS=>?_;refine mw hS rfl fun fa hS=>?_;refine oe ?_;refine wp_ret ?_;exact Zco hS (i:=0) rfl (ZYa rfl (ZN hS rfl)) (ZTh (Rep.mono _ hS.vst.le hrc) _) (List.length_replicate (n:=j) (a:=y)).symm
noncomputable def Zpl:FuncId×ConO:=(108,⟨[.int .i64],38,.leaf 3,fun p=>ZGh p⟩)
theorem Zim:KO Zpl:=ZQq (C:=cf0 [ZAg] [] [ZIh] []) .no Tryz.func108 [] (fun _=>by kernel_rfl) ⟨ZWg,tr⟩ ⟨Zgk,tr⟩
noncomputable def Z2r:FuncId×Con:=(142,⟨[.ptr (.pair (.slice (.slice (.leaf 3))) (.pair (.slice (.leaf 3)) (.pair (.slice (.leaf 3)) (.pair (.leaf 3) (.pair (.slice (.int .i64)) (.slice (.int .i64))))))),.int .i64],[.slice (.leaf 3)],fun p=>Zbj p.1 p.2⟩)
theorem Zly:KQ Z2r:=Zl (ZV (C:=cf0 [] [] [Zpl] []) (.n (.n (.f (.n (.f (.l [0,1,5,13,14] [] [.s 15 (.dat (.int .i64)),.l (.sl 5) (.own 38 (.leaf 3))] 0 [5] [] [.l (.sl 5) (.own 38 (.leaf 3))] (.f (.n (.n (.f (.f (.n (.n (.j [0,1,5,13,14,15] [] [.l (.sl 5) (.own 38 (.leaf 3))] .no)))))))))))))) Tryz.func142 [] (fun _=>by kernel_rfl) tr ⟨Zim,tr⟩)
noncomputable def ZEr:FuncId×Con:=(143,⟨[.ptr (.pair (.slice (.slice (.leaf 3))) (.pair (.slice (.leaf 3)) (.pair (.slice (.leaf 3)) (.pair (.leaf 3) (.pair (.slice (.int .i64)) (.slice (.int .i64))))))),.int .i64,.int .i64],[.slice (.leaf 3)],fun p=>Zfl p.1 p.2.1 p.2.2⟩)
theorem ZhA : KQ ZEr := Zl (ZV (C := cf0 [Zff] [] [Zpl] [((38, "Neg"), 81)]) (.n (.n (.f (.n (.f (.l [0, 1, 2, 7, 15, 16] [] [.s 17 (.dat (.int .i64)), .l (.sl 7) (.own 38 (.leaf 3))] 0 [7] [] [.l (.sl 7) (.own 38 (.leaf 3))] (.f (.n (.n (.f (.f (.n (.two (.j [0, 1, 2, 7, 8, 9, 15, 16, 17] [] [.s 31 (.dat .bool)] .no) (.j [0, 1, 2, 7, 15, 16, 17] [] [.l (.sl 7) (.own 38 (.leaf 3))] .no)))))))))))))) Tryz.func143 [] (fun _ => by kernel_rfl) ⟨Zuf, tr⟩ ⟨Zim, tr⟩ ⟨Z5h, tr⟩)
noncomputable def Zjt:FuncId×ConM:=(162,⟨[.slice (.slice (.leaf 3))],29,38,.leaf 3,fun p=>ZUj p⟩)
theorem Zyz:KW Zjt:=conm_z (C:=cf0 [] [8] [ZBj] []) (.n (.n (.f (.n (.f (.l [3,9,10] [] [.s 11 (.dat (.int .i64)),.l (.sl 3) (.mat 29 38 (.leaf 3))] 0 [3] [] [.l (.sl 3) (.mat 29 38 (.leaf 3))] .no)))))) Tryz.func162 [] (fun _=>by kernel_rfl) tr ⟨Zko,tr⟩
noncomputable def Zin:FuncId×ConB:=(163,⟨222,(.agg (.cons (.mat 29 38 (.leaf 3)) (.cons (.own 38 (.leaf 3)) (.cons (.own 38 (.leaf 3)) (.cons (.dat (.leaf 3)) (.cons (.own 3 (.int .i64)) (.one (.own 3 (.int .i64))))))))),[.int .i64,.int .i64],[],fun z x=>Zzf z x.1 x.2⟩)
theorem Zkr : KB Zin := ZOh (C := cf0 [ZYi, Zoh, ZJf, ZYf, Zff, ZJg, ZAg] [] [] [((38, "Add"), 42), ((38, "Div"), 82), ((38, "Mul"), 18), ((38, "Neg"), 81), ((38, "Sub"), 54), ((38, "Zero"), 17)]) (.n (.n (.two (.n (.f (.l [0, 1, 2, 7, 37] [] [.s 38 (.dat (.int .i64)), .l (.sl 20) (.mat 29 38 (.leaf 3))] 0 [0, 1, 2, 7] [] [.l (.sl 20) (.mat 29 38 (.leaf 3))] .no))) (.n (.n (.f (.n (.f (.l [0, 1, 2, 94] [] [.s 95 (.dat (.int .i64)), .l (.sl 67) (.mat 29 38 (.leaf 3)), .l (.sl 77) (.own 38 (.leaf 3))] 2 [0, 1, 2] [] [.l (.sl 67) (.mat 29 38 (.leaf 3)), .l (.sl 77) (.own 38 (.leaf 3))] (.f (.n (.n (.f (.j [0, 1, 2, 94, 95] [] [.l (.fld (.sl 0) 0) (.mat 29 38 (.leaf 3)), .l (.fld (.sl 0) 1) (.own 38 (.leaf 3))] (.f (.n (.f (.f (.j [0, 1, 2, 10, 94, 95] [] [.s 114 (.dat .bool)] .no))))))))))))))))))) Tryz.func163 [(177, Tryz.f177, .sel 1 (.n (.f (.n (.f (.l [0, 1, 2, 3, 8, 15] [] [.s 16 (.dat (.int .i64)), .l (.fld (.sl 0) 0) (.agg (.mat 29 38 (.leaf 3)))] 0 [0, 1, 2, 3, 8] [] [.l (.fld (.sl 0) 0) (.agg (.mat 29 38 (.leaf 3)))] .no))))) (.n (.f (.n (.f (.l [0, 1, 2, 3, 8, 15] [] [.s 16 (.dat (.int .i64)), .l (.sl 1) (.own 38 (.leaf 3))] 0 [0, 1, 2, 3, 8] [] [.l (.sl 1) (.own 38 (.leaf 3))] .no))))))] (fun _ _ => by kernel_rfl) ⟨ZRk, Z6i, Z8f, Zug, Zuf, ZUh, ZWg, tr⟩ tr ⟨ZJu, Zqq, Zst, Z5h, Zru, ZLq, tr⟩ ⟨⟨Tryz.func177, fun _ _ => by kernel_rfl⟩, tr⟩
noncomputable def Ztq:FuncId×ConB:=(168,⟨222,(.agg (.cons (.mat 29 38 (.leaf 3)) (.cons (.own 38 (.leaf 3)) (.cons (.own 38 (.leaf 3)) (.cons (.dat (.leaf 3)) (.cons (.own 3 (.int .i64)) (.one (.own 3 (.int .i64))))))))),[],[.int .i64],fun z x=>Z6h z⟩)
theorem ZgB : KB Ztq := ZOh (C := cf0 [ZPc] [] [] [((38, "Sign"), 45)]) (.n (.n (.f (.n (.f (.l [0, 9, 10] [] [.s 3 (.dat (.int .i64)), .s 11 (.dat (.int .i64))] 0 [] [] [.s 3 (.dat (.int .i64))] (.f (.n (.n (.f (.f (.n (.two (.j [0, 3, 4, 9, 10, 11] [] [.s 40 (.dat .bool)] .no) (.j [0, 9, 10, 11] [] [.s 3 (.dat (.int .i64))] .no)))))))))))))) Tryz.func168 [] (fun _ _ => by kernel_rfl) ⟨Znd, tr⟩ tr ⟨Z9l, tr⟩
noncomputable def ZFq:FuncId×ConB:=(169,⟨222,(.agg (.cons (.mat 29 38 (.leaf 3)) (.cons (.own 38 (.leaf 3)) (.cons (.own 38 (.leaf 3)) (.cons (.dat (.leaf 3)) (.cons (.own 3 (.int .i64)) (.one (.own 3 (.int .i64))))))))),[.int .i64,.int .i64],[.int .i64],fun z x=>Zvh z x.1 x.2⟩)
theorem Z5y : KB ZFq := ZOh (C := cf0 [ZCe, ZPc, ZJg] [] [] [((38, "Cmp"), 19), ((38, "Div"), 82), ((38, "Sign"), 45)]) (.n (.n (.n (.f (.n (.f (.l [0, 1, 2, 8, 17] [] [.s 7 (.dat (.int .i64)), .s 18 (.dat (.int .i64)), .l (.sl 8) (.box 38 (.dat (.leaf 3)))] 0 [] [] [.s 7 (.dat (.int .i64))] (.f (.n (.n (.f (.j [0, 1, 2, 8, 17, 18] [] [.s 7 (.dat (.int .i64)), .l (.sl 8) (.box 38 (.dat (.leaf 3)))] (.f (.n (.n (.n (.n (.two (.n (.j [0, 1, 2, 7, 8, 9, 10, 17, 18] [] [.s 12 (.dat (.int .i64))] .no)) (.two (.j [0, 1, 2, 7, 8, 9, 10, 17, 18] [] [.s 110 (.dat .bool)] .no) (.j [0, 1, 2, 8, 17, 18] [] [.s 7 (.dat (.int .i64)), .l (.sl 8) (.box 38 (.dat (.leaf 3)))] .no)))))))))))))))))))) Tryz.func169 [] (fun _ _ => by kernel_rfl) ⟨ZOf, Znd, ZUh, tr⟩ tr ⟨ZJv, Zqq, Z9l, tr⟩
noncomputable def ZYo:FuncId×ConB:=(141,⟨222,(.agg (.cons (.mat 29 38 (.leaf 3)) (.cons (.own 38 (.leaf 3)) (.cons (.own 38 (.leaf 3)) (.cons (.dat (.leaf 3)) (.cons (.own 3 (.int .i64)) (.one (.own 3 (.int .i64))))))))),[.int .i64],[.int .i64],fun z x=>Zxi z x⟩)
theorem ZKv:KB ZYo:=ZOh (C:=cf1 [] [] [] [] [] [Zin,Ztq,ZFq] []) (.n (.f (.cut ⟨⟨[0,1],[.fld (.sl 0) 0,.fld (.sl 0) 1,.fld (.sl 0) 2,.fld (.sl 0) 6,.fld (.sl 0) 7],[.l (.sl 0) (.box 222 (.agg (.cons (.mat 29 38 (.leaf 3)) (.cons (.own 38 (.leaf 3)) (.cons (.own 38 (.leaf 3)) (.cons (.dat (.leaf 3)) (.cons (.own 3 (.int .i64)) (.one (.own 3 (.int .i64))))))))))]⟩,[(.ret,⟨[],[.fld (.sl 0) 0,.fld (.sl 0) 1,.fld (.sl 0) 2,.fld (.sl 0) 6,.fld (.sl 0) 7],[.s 1000 (.dat (.int .i64)),.l (.sl 0) (.box 222 (.agg (.cons (.mat 29 38 (.leaf 3)) (.cons (.own 38 (.leaf 3)) (.cons (.own 38 (.leaf 3)) (.cons (.dat (.leaf 3)) (.cons (.own 3 (.int .i64)) (.one (.own 3 (.int .i64))))))))))]⟩)]⟩ .no))) Tryz.func141 [] (fun _ _=>by kernel_rfl) tr tr tr tr tr ⟨Zkr,ZgB,Z5y,tr⟩
noncomputable def Z4s:FuncId×ConB:=(143,⟨222,(.agg (.cons (.mat 29 38 (.leaf 3)) (.cons (.own 38 (.leaf 3)) (.cons (.own 38 (.leaf 3)) (.cons (.dat (.leaf 3)) (.cons (.own 3 (.int .i64)) (.one (.own 3 (.int .i64))))))))),[.int .i64,.int .i64],[.slice (.leaf 3)],fun z x=>Znl z x.1 x.2⟩)
theorem ZBz : KB Z4s := ZOh (C := cf0 [Zff, ZAg] [] [ZIh] [((38, "Neg"), 81)]) (.n (.n (.f (.n (.f (.l [0, 1, 2, 7, 15, 16] [] [.s 17 (.dat (.int .i64)), .l (.sl 7) (.own 38 (.leaf 3))] 0 [7] [] [.l (.sl 7) (.own 38 (.leaf 3))] (.f (.n (.n (.f (.f (.n (.two (.j [0, 1, 2, 7, 8, 9, 15, 16, 17] [] [.s 31 (.dat .bool)] .no) (.j [0, 1, 2, 7, 15, 16, 17] [] [.l (.sl 7) (.own 38 (.leaf 3))] .no)))))))))))))) Tryz.func143 [(108, Tryz.f108, .no)] (fun _ _ => by kernel_rfl) ⟨Zuf, ZWg, tr⟩ ⟨Zgk, tr⟩ ⟨Z5h, tr⟩ ⟨⟨Tryz.func108, fun _ _ => by kernel_rfl⟩, tr⟩
end Go.Eng
namespace Go.Eng
open Go.RowKit
section
variable {P:Program} {K:Nat} {w0:Base} {v0:Zb} {σ:List (Nat×Value)} {ℓ:List Loc} {v:Zb} {a:Act} {w:World}
variable {d:Option Nat} {ty:TypeId} {pos:String} {aft:Array Edge} {g:Option (Nat×Bool)}
theorem ZRr (hS:St K w0 v0 σ ℓ v a w) {t e:TypeId} {sz b n cap p q m:Nat} {x lo hi mx:Operand} {k k2 k3:IntKind} (ht:Z4b P t e sz) (e1:ev σ x=some (.slice (some ⟨b,0,none⟩) n cap)) (e2:ev σ lo=some (.int k (p:Int))) (e3:ev σ hi=some (.int k2 (q:Int))) (e4:ev σ mx=some (.int k3 (m:Int))) (h1:p≤q) (h2:q≤m) (h3:m≤cap) :
  ∃ y,(execOp a.eval ⟨d,.slice t x (some lo) (some hi) (some mx),ty,pos,aft,g⟩).run P w = .ok (.value y) w:=by
 have h4:(0:Int)≤(p:Int)∧(p:Int)≤(q:Int):=by omega
 have h5:(0:Int)≤(q:Int)∧(q:Int)≤(m:Int):=by omega
 have h6:(0:Int)≤(m:Int)∧(m:Int)≤(cap:Int):=by omega
 exact ⟨.slice (if m=p then some ⟨b,0,none⟩ else some (Addr.add ⟨b,0,none⟩ (p*sz))) (q-p) (m-p),by simp [execOp,Instr.sliceAt,Instr.slice,Instr.sliceBounds,Instr.sliceBound,asIntOf,hS.eval e1,hS.eval e2,hS.eval e3,hS.eval e4,ht.1,ht.2,h1,h2,h3,h4,h5,h6]⟩
theorem Z3s (hS:St K w0 v0 σ ℓ v a w) {t e:TypeId} {sz b n cap p q:Nat} {x lo hi:Operand} {k k2:IntKind} (ht:Z4b P t e sz) (e1:ev σ x=some (.slice (some ⟨b,0,none⟩) n cap)) (e2:ev σ lo=some (.int k (p:Int))) (e3:ev σ hi=some (.int k2 (q:Int))) (h1:p≤q) (h2:q≤cap) (hc:p<cap) :
  (execOp a.eval ⟨d,.slice t x (some lo) (some hi) none,ty,pos,aft,g⟩).run P w = .ok (.value (.slice (some ⟨b,p*sz,none⟩) (q-p) (cap-p))) w:=by
 have h4:(0:Int)≤(p:Int)∧(p:Int)≤(q:Int):=by omega
 have h5:(0:Int)≤(q:Int)∧(q:Int)≤(cap:Int):=by omega
 have h6:¬ cap=p:=by omega
 simp [execOp,Instr.sliceAt,Instr.slice,Instr.sliceBounds,Instr.sliceBound,asIntOf,hS.eval e1,hS.eval e2,hS.eval e3,ht.1,ht.2,h1,h2,h4,h5,h6,Z0a]
theorem Zvr {t e ty:TypeId} {sz bytes:Nat} {z:Value} (E:Elem P t e sz bytes z) (hS:St K w0 v0 σ ℓ v a w) {i n cap b:Nat} {cs:List Value} (hi:ℓ[i]? = some (.own (some b) e sz n cap cs))
  {q m c:Nat} {ad:Addr} {news:List Value} (hl:news.length=m*sz) (hnews:∀ j u,news[j]? = some u→w.cell? (ad.add j)=some u) (hp:news.all plain=true) (hq:q+m≤n) :
  ∃ w',(Builtin.append_ #[t,t] ty #[.slice (some ⟨b,0,none⟩) q cap,.slice (some ad) m c]).run P w = .ok (.slice (some ⟨b,0,none⟩) (q+m) cap) w' ∧
   St K w0 v0 σ (ℓ.set i (.own (some b) e sz n cap (cs.take (q*sz)++news++cs.drop (q*sz+news.length)))) v a w':=by
 obtain ⟨inf,hinf,hz,hs,hby⟩:=info_parts E.info;subst hs;obtain ⟨hcl,cur,hg,hnc,hcx,hcs,htake⟩:=(hS.loc _ (List.mem_of_getElem? hi)).1;have h1:q*inf.size+news.length≤n*inf.size:=by rw [hl,← Nat.add_mul];exact Nat.mul_le_mul_right _ hq
 have h2:n*inf.size≤cap*inf.size:=Nat.mul_le_mul_right _ hnc;have hcl2:cur.toList.length=cap*inf.size:=by simpa using hcs
 have hr:=run_append_room (P:=P) w t ty e inf E.ty hinf b q cap cur hg ad m c news hl hnews (Zmk hp) (by omega) (by omega);refine ⟨_,hr,hS.setRow hi rfl rfl ⟨?_,_,setRow_heap w b cur _ e _ hg,hnc,hcx,?_,?_⟩⟩
 ·simp;omega
 ·simp;omega
 ·show List.take (n*inf.size) (_++_++_)=_;rw [Zzk _ _ _ _ h1 (by omega),htake]
theorem ZJs {t e ty:TypeId} {sz bytes:Nat} {z:Value} (E:Elem P t e sz bytes z) (hS:St K w0 v0 σ ℓ v a w) {i n cap b:Nat} {cs:List Value} (hi:ℓ[i]? = some (.own (some b) e sz n cap cs)) {p c:Nat} (hp:p+1≤n) (hz1:∀ x ∈ (Builtin.zeroCells z.cells 1).toList,x.oneCell'=true) :
  ∃ w' zc,zc.length=sz∧(∀ ty,(Builtin.clear_ #[t] ty #[.slice (some ⟨b,p*sz,none⟩) 1 c]).run P w = .ok (.tuple #[]) w') ∧
   St K w0 v0 σ (ℓ.set i (.own (some b) e sz n cap (cs.take (p*sz)++zc++cs.drop (p*sz+zc.length)))) v a w':=by
 obtain ⟨inf,hinf,hz,hs,hby⟩:=info_parts E.info;obtain ⟨hcl,cur,hg,hnc,hcx,hcs,htake⟩:=(hS.loc _ (List.mem_of_getElem? hi)).1;have hzl:(Builtin.zeroCells z.cells 1).toList.length=sz:=by
  have:=size_zeroCells z.cells 1;rw [E.cells] at this
  simpa using this
 have h1:p*sz+sz≤n*sz:=by
  have:=Nat.mul_le_mul_right sz hp;rw [Nat.add_mul,Nat.one_mul] at this;exact this
 have h2:n*sz≤cap*sz:=Nat.mul_le_mul_right _ hnc;have hcl2:cur.toList.length=cap*sz:=by simpa using hcs
 have hst:=run_storeCells_at P b (p*sz) e (Builtin.zeroCells z.cells 1).toList 0 cur w hg (by rw [hzl];omega) hz1;have hzv:∀ w:World,(zeroValue e).run P w = .ok z w:=fun w=>by simp [zeroValue,typeInfo,hinf,hz]
 refine ⟨_,(Builtin.zeroCells z.cells 1).toList,hzl,fun ty=>?_,hS.setRow hi rfl rfl (c:=(cur.toList.take (p*sz)++(Builtin.zeroCells z.cells 1).toList++cur.toList.drop (p*sz+(Builtin.zeroCells z.cells 1).toList.length)).toArray) ⟨?_,_,setRow_heap w b cur _ e _ hg,hnc,hcx,?_,?_⟩⟩
 ·simp at hst;simp [Builtin.clear_,run_underlying E.ty,hzv,hst]
 ·simp at hzl ⊢;omega
 ·simp at hzl ⊢;omega
 ·show List.take (n*sz) (_++_++_)=_;rw [Zzk _ _ _ _ (by rw [hzl];exact h1) (by omega),htake]
theorem ZNv (hS:St K w0 v0 σ ℓ v a w) {t:TypeId} {x:Operand} {p r:Value} {w':World} (e:ev σ x=some p) (h:(Builtin.clear_ #[t] ty #[p]).run P w = .ok r w') :
  (execOp a.eval ⟨d,.call ⟨.builtin .clear,#[x],#[t]⟩,ty,pos,aft,g⟩).run P w = .ok (.value r) w':=by
 simp [execOp,resolve,invoke,builtin,hS.eval e,h]
theorem ZZp {ops:Array Oper} {Q:Exit→Act→World→Prop} {rest:List Oper} {o:Oper} {x:Value} {w':World} (hw:Region.wanted o (yielded ops a.tmps)=true) (hd:o.dst=none) (hrun:(execOp a.eval o).run P w = .ok (.value x) w') (h:wpList P ops Q rest a w'):wpList P ops Q (o :: rest) a w :=
 Z0c hw (ZDe hrun (by rw [hd];exact h))
theorem St.narrow (h:St K w0 v0 σ ℓ v a w) {i b n m cap sz:Nat} {T:TypeId} {cs:List Value} (hi:ℓ[i]? = some (.own (some b) T sz n cap cs)) (hm:m≤n):St K w0 v0 σ (ℓ.set i (.own (some b) T sz m cap (cs.take (m*sz)))) v a w:=by
 obtain ⟨hcl,cur,hg,hnc,hcx,hcs,htake⟩:=(h.loc _ (List.mem_of_getElem? hi)).1;have h1:m*sz≤n*sz:=Nat.mul_le_mul_right _ hm;refine h.setSame hi rfl ⟨?_,cur,hg,by omega,hcx,hcs,?_⟩
 ·rw [List.length_take];omega
 ·rw [← htake,List.take_take,Nat.min_eq_left h1]
end
theorem Zhv {cs zc:List Value} {sz i n:Nat} (hc:cs.length=n*sz) (hi:i<n) (hz:zc.length=sz) :
  (((cs.take (i*sz)++cs.drop ((i+1)*sz)++cs.drop (i*sz+(cs.drop ((i+1)*sz)).length)).take ((n-1)*sz)++zc++(cs.take (i*sz)++cs.drop ((i+1)*sz)++cs.drop (i*sz+(cs.drop ((i+1)*sz)).length)).drop ((n-1)*sz+zc.length)).take ((n-1)*sz))=cs.take (i*sz)++cs.drop ((i+1)*sz):=by
 have h1:i*sz≤n*sz:=Nat.mul_le_mul_right _ (by omega);have h2:(i+1)*sz≤n*sz:=Nat.mul_le_mul_right _ (by omega);have h3:(i+1)*sz=i*sz+sz:=by rw [Nat.add_mul,Nat.one_mul]
 have h4:(n-1)*sz=n*sz-sz:=by rw [Nat.sub_mul,Nat.one_mul]
 have hl:(cs.take (i*sz)++cs.drop ((i+1)*sz)).length=(n-1)*sz:=by
  rw [List.length_append,List.length_take,List.length_drop];omega
 rw [List.append_assoc (List.take _ _) zc,List.take_append_of_le_length (by rw [List.length_take,List.length_append,hl];omega),List.take_take,Nat.min_self,List.take_append_of_le_length (by rw [hl];omega),List.take_of_length_le (by rw [hl];omega)]
end Go.Eng
namespace Go.Eng
open Go.Proofs Go.RowKit
theorem ZAq:Elem Tryz.prog 69 3 ((Zd .i64)).n 8 (Value.int IntKind.i64 0):=⟨Tryz.underlying69,by kernel_rfl,rfl,by decide⟩
theorem Zwg:Z4b Tryz.prog 69 3 ((Zd .i64)).n:=⟨fun _=>by kernel_rfl,fun _=>by kernel_rfl⟩
theorem ZHz:Tryz.prog.follows .mixedOrders=true:=by kernel_rfl
noncomputable def Zym:FuncId×ConD:=(166,⟨3,.int .i64,fun l i j=>ZBd l i j⟩)
theorem ZRB:Z7h Tryz.prog Zym.1 Zym.2:=fun w v ob n cap cs l i0 j0 z hv hh hnv hA hn hi hj hz=>by
 have hz:ZBd (show List Int from l) i0 j0=some z:=hz
 obtain ⟨i,rfl,rfl,hin,rfl⟩:=Zzq hz
 have hA:((Zd .i64)).rels v cs (show List Int from l):=hA
 have hin:i<n:=by rw [hn];exact hin
 have hcs:cs.length=n*((Zd .i64)).n:=by rw [hn];exact Zyd hA
 refine ⟨fun _ _=>by kernel_rfl,?_⟩
 refine Z1v (K:=33) (args:=[.slice (mkA ob) n cap,.int .i64 (i:Int),.int .i64 ((i+1:Nat):Int)]) hv hh hnv Tryz.func166 rfl rfl zl fun fa hS=>?_
 obtain ⟨b,rfl⟩:=ZPd hS (j:=0) rfl (by omega)
 obtain ⟨_,cur,hg,hnc,hcx,hcu,htk⟩:=(hS.loc _ (List.mem_of_getElem? (i:=0) rfl)).1
 unfold maxLen at hcx
 refine sr ?_
 refine mw hS rfl fun fa hS=>?_
 refine oe ?_
 refine sr ?_
 refine mv hS rfl fun fa hS=>?_
 refine mv hS rfl fun fa hS=>?_
 refine mv hS rfl fun fa hS=>?_
 refine mv hS rfl fun fa hS=>?_
 refine ov hS rfl (Zoc hS rfl rfl Zwg) fun fa hS=>?_
 have h3 := @ZRr _ _ _ _ _ _ _ _ _ (some 13) 69 "" #[] none hS 69 3 ((Zd .i64)).n b n cap i (i + 1) n (.tmp 8) (.tmp 9) (.tmp 10) (.tmp 12) .i64 .i64 .i64 Zwg rfl rfl rfl rfl (by omega) (by omega) hnc
 obtain ⟨y3,h3⟩:=h3
 refine ov hS rfl h3 fun fa hS=>?_
 refine oe ?_
 refine wp_seq_k fun N1 hN1=>?_
 refine sr ?_
 refine mv hS rfl fun fa hS=>?_
 refine mv hS rfl fun fa hS=>?_
 refine ov hS rfl (Zu hS rfl rfl Zlg) fun fa hS=>?_
 refine oe ?_
 refine Z5 hS rfl (by simp only [beq_eq_false_iff_ne,ne_eq];omega) ?_
 refine wp_skip ?_
 refine Zh (hN1 _ _ ?_)
 refine sr ?_
 refine mv hS rfl fun fa hS=>?_
 refine ov hS rfl (Zoc hS rfl rfl Zwg) fun fa hS=>?_
 refine mw hS rfl fun fa hS=>?_
 refine oe ?_
 refine wp_seq_k fun N2 hN2=>?_
 refine ZCf (fl:=#[true,true,true,true,true,true,false,false]) ZHz (by kernel_rfl) hS ?_
 intro ops hops hF wo hS
 refine rf hops hF 0 rfl (by kernel_rfl) rfl hS (ZK hS rfl) fun fa hS=>?_
 refine rf hops hF 1 rfl (by kernel_rfl) rfl hS (ZK hS rfl) fun fa hS=>?_
 refine rf hops hF 2 rfl (by kernel_rfl) rfl hS (ZVm hS Zwg rfl rfl (by omega) (by omega)) fun fa hS=>?_
 refine rf hops hF 3 rfl (by kernel_rfl) rfl hS (ZK hS rfl) fun fa hS=>?_
 refine rf hops hF 4 rfl (by kernel_rfl) rfl hS (ZK hS rfl) fun fa hS=>?_
 obtain ⟨ad,had,hsrc⟩:∃ ad:Addr,(if cap=i+1 then mkA (some b) else (mkA (some b)).map (·.add ((i+1)*((Zd .i64)).n)))=some ad∧∀ j u,(cs.drop ((i+1)*((Zd .i64)).n))[j]? = some u→wo.cell? (ad.add j)=some u:=by
  by_cases h:cap=i+1
  ·refine ⟨⟨b,0,none⟩,by rw [iP h];rfl,fun j u hu=>?_⟩;have:cs.drop ((i+1)*((Zd .i64)).n)=[]:=List.drop_eq_nil_of_le (by rw [hcs];exact Nat.mul_le_mul_right _ (by omega));rw [this] at hu;simp at hu
  ·refine ⟨(⟨b,0,none⟩:Addr).add ((i+1)*((Zd .i64)).n),by rw [iN h];rfl,fun j u hu=>?_⟩;have:=Zch hS (j:=0) rfl ((i+1)*((Zd .i64)).n+j) u (by rw [List.getElem?_drop] at hu;exact hu);rw [show ((⟨b,0,none⟩:Addr).add ((i+1)*((Zd .i64)).n)).add j=(⟨b,0,none⟩:Addr).add ((i+1)*((Zd .i64)).n+j) by simp only [Z0a,Nat.add_assoc]];exact this
 refine rf hops hF 5 rfl (by kernel_rfl) rfl hS (ZHv hS Zwg rfl rfl (by omega)) fun fa hS=>?_;rw [had] at hS;have hdl:(cs.drop ((i+1)*((Zd .i64)).n)).length=(n-(i+1))*((Zd .i64)).n:=by rw [List.length_drop,hcs,Nat.sub_mul]
 obtain ⟨wo',hr,hS'⟩:=Zvr (t:=69) (ty:=69) ZAq hS (i:=0) rfl (q:=i) (m:=n-(i+1)) (c:=cap-(i+1)) (ad:=ad) (news:=cs.drop ((i+1)*((Zd .i64)).n)) hdl hsrc (by rw [List.all_eq_true];intro y hy;exact List.all_eq_true.1 (ZZh hA) y (List.mem_of_mem_drop hy)) (by omega);rw [show i+(n-(i+1))=n-1 by omega] at hr;refine ZPf hops hF 6 (by kernel_rfl) ?_;refine Zbp [2,5,0,1,3,4] [] hops rfl (by kernel_rfl) wn rfl zl (ZKs hS rfl rfl hr) hS' fun fa hS=>?_;refine ⟨Z1a,?_⟩;refine ZPf hops hF 7 (by kernel_rfl) ?_;refine nv [0,1,2,3,4,5,6] [] hops rfl (by kernel_rfl) rfl hS (Z7c hS rfl) fun fa hS=>?_;refine ⟨Z1a,?_⟩;refine ZKk hops hF (by kernel_rfl) ?_;refine Zh (hN2 _ _ ?_);refine sr ?_;refine mv hS rfl fun fa hS=>?_;refine mv hS rfl fun fa hS=>?_;refine ov hS rfl (Zoc hS rfl rfl Zwg) fun fa hS=>?_;refine mv hS rfl fun fa hS=>?_;refine ov hS rfl (Z3s hS Zwg rfl rfl rfl (by omega) (by omega) (by omega)) fun fa hS=>?_;obtain ⟨wo2,zc,hzl,hr,hS'⟩:=ZJs (t:=69) (ty:=69) ZAq hS (i:=0) rfl (p:=n-1) (c:=cap-(n-1)) (by omega) (List.all_eq_true.1 (by kernel_rfl));have hn1:n-(n-1)=1:=by omega
 rw [hn1] at hS hS';refine ZZp wn rfl (ZNv hS rfl (hr _)) ?_;refine oe ?_;have hS:=hS'.narrow (i:=0) rfl (m:=n-1) (by omega);refine sr ?_;refine mv hS rfl fun fa hS=>?_;refine mw hS rfl fun fa hS=>?_;refine oe ?_;refine wp_ret ?_;refine ZNu hS (i:=0) rfl (ZYa rfl (ZN hS rfl)) ?_ (show n-1=(List.take i l++List.drop (i+1) l).length by rw [List.length_append,List.length_take,List.length_drop,← hn];omega);rw [Zhv hcs hin hzl];exact Zxc (Zsg i (ZX hS.vst.le hA)) (ZQf (i+1) (ZX hS.vst.le hA))
theorem Zcq:Elem Tryz.prog 29 38 (ZU).n 56 (Value.agg #[Value.bool false,Value.slice none 0 0,Value.slice none 0 0]):=⟨Tryz.underlying29,by kernel_rfl,rfl,by decide⟩
theorem ZKg:Z4b Tryz.prog 29 38 (ZU).n:=⟨fun _=>by kernel_rfl,fun _=>by kernel_rfl⟩
theorem ZdB:Tryz.prog.follows .mixedOrders=true:=by kernel_rfl
noncomputable def ZZm:FuncId×ConD:=(167,⟨38,.leaf 3,fun l i j=>ZBd l i j⟩)
theorem ZMA:Z7h Tryz.prog ZZm.1 ZZm.2:=fun w v ob n cap cs l i0 j0 z hv hh hnv hA hn hi hj hz=>by
 have hz:ZBd (show List Rat from l) i0 j0=some z:=hz
 obtain ⟨i,rfl,rfl,hin,rfl⟩:=Zzq hz
 have hA:(ZU).rels v cs (show List Rat from l):=hA
 have hin:i<n:=by rw [hn];exact hin
 have hcs:cs.length=n*(ZU).n:=by rw [hn];exact Zyd hA
 refine ⟨fun _ _=>by kernel_rfl,?_⟩
 refine Z1v (K:=33) (args:=[.slice (mkA ob) n cap,.int .i64 (i:Int),.int .i64 ((i+1:Nat):Int)]) hv hh hnv Tryz.func167 rfl rfl zl fun fa hS=>?_
 obtain ⟨b,rfl⟩:=ZPd hS (j:=0) rfl (by omega)
 obtain ⟨_,cur,hg,hnc,hcx,hcu,htk⟩:=(hS.loc _ (List.mem_of_getElem? (i:=0) rfl)).1
 unfold maxLen at hcx
 refine sr ?_
 refine mw hS rfl fun fa hS=>?_
 refine oe ?_
 refine sr ?_
 refine mv hS rfl fun fa hS=>?_
 refine mv hS rfl fun fa hS=>?_
 refine mv hS rfl fun fa hS=>?_
 refine mv hS rfl fun fa hS=>?_
 refine ov hS rfl (Zoc hS rfl rfl ZKg) fun fa hS=>?_
 have h3 := @ZRr _ _ _ _ _ _ _ _ _ (some 13) 29 "" #[] none hS 29 38 (ZU).n b n cap i (i + 1) n (.tmp 8) (.tmp 9) (.tmp 10) (.tmp 12) .i64 .i64 .i64 ZKg rfl rfl rfl rfl (by omega) (by omega) hnc
 obtain ⟨y3,h3⟩:=h3
 refine ov hS rfl h3 fun fa hS=>?_
 refine oe ?_
 refine wp_seq_k fun N1 hN1=>?_
 refine sr ?_
 refine mv hS rfl fun fa hS=>?_
 refine mv hS rfl fun fa hS=>?_
 refine ov hS rfl (Zu hS rfl rfl Zlg) fun fa hS=>?_
 refine oe ?_
 refine Z5 hS rfl (by simp only [beq_eq_false_iff_ne,ne_eq];omega) ?_
 refine wp_skip ?_
 refine Zh (hN1 _ _ ?_)
 refine sr ?_
 refine mv hS rfl fun fa hS=>?_
 refine ov hS rfl (Zoc hS rfl rfl ZKg) fun fa hS=>?_
 refine mw hS rfl fun fa hS=>?_
 refine oe ?_
 refine wp_seq_k fun N2 hN2=>?_
 refine ZCf (fl:=#[true,true,true,true,true,true,false,false]) ZdB (by kernel_rfl) hS ?_
 intro ops hops hF wo hS
 refine rf hops hF 0 rfl (by kernel_rfl) rfl hS (ZK hS rfl) fun fa hS=>?_
 refine rf hops hF 1 rfl (by kernel_rfl) rfl hS (ZK hS rfl) fun fa hS=>?_
 refine rf hops hF 2 rfl (by kernel_rfl) rfl hS (ZVm hS ZKg rfl rfl (by omega) (by omega)) fun fa hS=>?_
 refine rf hops hF 3 rfl (by kernel_rfl) rfl hS (ZK hS rfl) fun fa hS=>?_
 refine rf hops hF 4 rfl (by kernel_rfl) rfl hS (ZK hS rfl) fun fa hS=>?_
 obtain ⟨ad,had,hsrc⟩:∃ ad:Addr,(if cap=i+1 then mkA (some b) else (mkA (some b)).map (·.add ((i+1)*(ZU).n)))=some ad∧∀ j u,(cs.drop ((i+1)*(ZU).n))[j]? = some u→wo.cell? (ad.add j)=some u:=by
  by_cases h:cap=i+1
  ·refine ⟨⟨b,0,none⟩,by rw [iP h];rfl,fun j u hu=>?_⟩;have:cs.drop ((i+1)*(ZU).n)=[]:=List.drop_eq_nil_of_le (by rw [hcs];exact Nat.mul_le_mul_right _ (by omega));rw [this] at hu;simp at hu
  ·refine ⟨(⟨b,0,none⟩:Addr).add ((i+1)*(ZU).n),by rw [iN h];rfl,fun j u hu=>?_⟩;have:=Zch hS (j:=0) rfl ((i+1)*(ZU).n+j) u (by rw [List.getElem?_drop] at hu;exact hu);rw [show ((⟨b,0,none⟩:Addr).add ((i+1)*(ZU).n)).add j=(⟨b,0,none⟩:Addr).add ((i+1)*(ZU).n+j) by simp only [Z0a,Nat.add_assoc]];exact this
 refine rf hops hF 5 rfl (by kernel_rfl) rfl hS (ZHv hS ZKg rfl rfl (by omega)) fun fa hS=>?_;rw [had] at hS;have hdl:(cs.drop ((i+1)*(ZU).n)).length=(n-(i+1))*(ZU).n:=by rw [List.length_drop,hcs,Nat.sub_mul]
 obtain ⟨wo',hr,hS'⟩:=Zvr (t:=29) (ty:=29) Zcq hS (i:=0) rfl (q:=i) (m:=n-(i+1)) (c:=cap-(i+1)) (ad:=ad) (news:=cs.drop ((i+1)*(ZU).n)) hdl hsrc (by rw [List.all_eq_true];intro y hy;exact List.all_eq_true.1 (ZZh hA) y (List.mem_of_mem_drop hy)) (by omega);rw [show i+(n-(i+1))=n-1 by omega] at hr;refine ZPf hops hF 6 (by kernel_rfl) ?_;refine Zbp [2,5,0,1,3,4] [] hops rfl (by kernel_rfl) wn rfl zl (ZKs hS rfl rfl hr) hS' fun fa hS=>?_;refine ⟨Z1a,?_⟩;refine ZPf hops hF 7 (by kernel_rfl) ?_;refine nv [0,1,2,3,4,5,6] [] hops rfl (by kernel_rfl) rfl hS (Z7c hS rfl) fun fa hS=>?_;refine ⟨Z1a,?_⟩;refine ZKk hops hF (by kernel_rfl) ?_;refine Zh (hN2 _ _ ?_);refine sr ?_;refine mv hS rfl fun fa hS=>?_;refine mv hS rfl fun fa hS=>?_;refine ov hS rfl (Zoc hS rfl rfl ZKg) fun fa hS=>?_;refine mv hS rfl fun fa hS=>?_;refine ov hS rfl (Z3s hS ZKg rfl rfl rfl (by omega) (by omega) (by omega)) fun fa hS=>?_;obtain ⟨wo2,zc,hzl,hr,hS'⟩:=ZJs (t:=29) (ty:=29) Zcq hS (i:=0) rfl (p:=n-1) (c:=cap-(n-1)) (by omega) (List.all_eq_true.1 (by kernel_rfl));have hn1:n-(n-1)=1:=by omega
 rw [hn1] at hS hS';refine ZZp wn rfl (ZNv hS rfl (hr _)) ?_;refine oe ?_;have hS:=hS'.narrow (i:=0) rfl (m:=n-1) (by omega);refine sr ?_;refine mv hS rfl fun fa hS=>?_;refine mw hS rfl fun fa hS=>?_;refine oe ?_;refine wp_ret ?_;refine ZNu hS (i:=0) rfl (ZYa rfl (ZN hS rfl)) ?_ (show n-1=(List.take i l++List.drop (i+1) l).length by rw [List.length_append,List.length_take,List.length_drop,← hn];omega);rw [Zhv hcs hin hzl];exact Zxc (Zsg i (ZX hS.vst.le hA)) (ZQf (i+1) (ZX hS.vst.le hA))
noncomputable def ZBq:FuncId×ConB:=(140,⟨222,(.agg (.cons (.mat 29 38 (.leaf 3)) (.cons (.own 38 (.leaf 3)) (.cons (.own 38 (.leaf 3)) (.cons (.dat (.leaf 3)) (.cons (.own 3 (.int .i64)) (.one (.own 3 (.int .i64))))))))),[.pair (.slice (.slice (.leaf 3))) (.pair (.slice (.leaf 3)) (.slice (.leaf 3)))],[.slice (.leaf 3),.bool],fun z x=>Zxl z x⟩)
theorem Z8B : KB ZBq := ZOh (C := cf1 [ZYi, Zoh, ZCe, ZJf, ZPc, ZYf, ZAg] [100182] [ZIh] [((38, "Add"), 42), ((38, "Cmp"), 19), ((38, "Mul"), 18), ((38, "Sign"), 45), ((38, "Sub"), 54), ((38, "Zero"), 17)] [] [ZYo, Z4s, Zin] [Zym, ZZm]) (.n (.n (.n (.two (.n (.f (.l [0, 3, 6, 7, 8, 34, 35] [] [.s 9 (.dat (.int .i64)), .s 36 (.dat (.int .i64))] 0 [0, 3, 6, 7, 8] [] [.s 9 (.dat (.int .i64))] (.f (.n (.n (.f (.f (.n (.two (.j [0, 3, 6, 7, 8, 9, 10, 34, 35, 36] [] [.s 61 (.dat .bool)] .no) (.j [0, 3, 6, 7, 8, 34, 35, 36] [] [.s 9 (.dat (.int .i64))] .no))))))))))) (.n (.two (.n (.f (.l [0, 3, 6, 7, 8, 9, 70] [] [.s 71 (.dat (.int .i64)), .l (.sl 69) (.mat 29 38 (.leaf 3))] 2 [0, 3, 6, 7, 8, 9] [] [.l (.sl 69) (.mat 29 38 (.leaf 3))] .no))) (.n (.n (.n (.n (.n (.two (.n (.n (.j [0, 3, 8] [.fld (.sl 0) 0, .fld (.sl 0) 1, .fld (.sl 0) 2, .fld (.sl 0) 6, .fld (.sl 0) 7] [.l (.sl 0) (.box 222 (.agg (.cons (.mat 29 38 (.leaf 3)) (.cons (.own 38 (.leaf 3)) (.cons (.own 38 (.leaf 3)) (.cons (.dat (.leaf 3)) (.cons (.own 3 (.int .i64)) (.one (.own 3 (.int .i64))))))))))] .no))) (.n (.n (.two (.n (.f (.l [0, 3, 14, 167] [] [.s 168 (.dat (.int .i64)), .l (.sl 166) (.mat 29 38 (.leaf 3))] 4 [0, 3] [] [.l (.sl 166) (.mat 29 38 (.leaf 3))] .no))) (.n (.f (.n (.f (.l [0, 203, 204] [.fld (.sl 0) 0, .fld (.sl 0) 1, .fld (.sl 0) 6, .fld (.sl 0) 7, .fld (.sl 0) 2] [.s 205 (.dat (.int .i64)), .l (.sl 0) (.box 222 (.agg (.cons (.mat 29 38 (.leaf 3)) (.cons (.own 38 (.leaf 3)) (.cons (.own 38 (.leaf 3)) (.cons (.dat (.leaf 3)) (.cons (.own 3 (.int .i64)) (.one (.own 3 (.int .i64))))))))))] 6 [] [.fld (.sl 0) 0, .fld (.sl 0) 1, .fld (.sl 0) 6, .fld (.sl 0) 7, .fld (.sl 0) 2] [.l (.sl 0) (.box 222 (.agg (.cons (.mat 29 38 (.leaf 3)) (.cons (.own 38 (.leaf 3)) (.cons (.own 38 (.leaf 3)) (.cons (.dat (.leaf 3)) (.cons (.own 3 (.int .i64)) (.one (.own 3 (.int .i64))))))))))] (.f (.n (.n (.f (.j [0, 203, 204, 205] [.fld (.sl 0) 0, .fld (.sl 0) 1, .fld (.sl 0) 2, .fld (.sl 0) 6, .fld (.sl 0) 7] [.l (.sl 0) (.box 222 (.agg (.cons (.mat 29 38 (.leaf 3)) (.cons (.own 38 (.leaf 3)) (.cons (.own 38 (.leaf 3)) (.cons (.dat (.leaf 3)) (.cons (.own 3 (.int .i64)) (.one (.own 3 (.int .i64))))))))))] (.f (.n (.n (.n (.n (.n (.f (.l [0, 17, 203, 204, 205, 265, 266] [] [.s 267 (.dat (.int .i64)), .l (.fld (.sl 0) 2) (.own 38 (.leaf 3))] 8 [0, 203, 204, 205] [] [.l (.fld (.sl 0) 2) (.own 38 (.leaf 3))] .no))))))))))))))))))))))))))))))))) Tryz.func140 [(108, Tryz.f108, .no), (161, Tryz.f161, .r [] [] [.s 1000 (.dat (.int .i64))] (.n (.f (.n (.f (.cut ⟨⟨[0, 1, 7], [], [.s 8 (.dat (.int .i64))]⟩, [(.exit 0, ⟨[], [], []⟩), (.ret, ⟨[], [], [.s 1000 (.dat (.int .i64))]⟩)]⟩ .no)))))), (164, Tryz.f164, .r [] [] [.s 1000 (.dat (.int .i64))] (.n (.f (.n (.f (.cut ⟨⟨[0, 1, 7], [], [.s 8 (.dat (.int .i64))]⟩, [(.exit 0, ⟨[], [], []⟩), (.ret, ⟨[], [], [.s 1000 (.dat (.int .i64))]⟩)]⟩ .no)))))), (165, Tryz.f165, .no)] (fun _ _ => by kernel_rfl) ⟨ZRk, Z6i, ZOf, Z8f, Znd, Zug, ZWg, tr⟩ ⟨Zgk, tr⟩ ⟨ZJu, ZJv, Zst, Z9l, Zru, ZLq, tr⟩ ⟨⟨Tryz.func108, fun _ _ => by kernel_rfl⟩, ⟨Tryz.func161, fun _ _ => by kernel_rfl⟩, ⟨Tryz.func164, fun _ _ => by kernel_rfl⟩, ⟨Tryz.func165, fun _ _ => by kernel_rfl⟩, tr⟩ tr ⟨ZKv, ZBz, Zkr, tr⟩ ⟨ZRB, ZMA, tr⟩
noncomputable def Ztr:FuncId×Con:=(110,⟨[.pair (.slice (.slice (.leaf 3))) (.pair (.slice (.leaf 3)) (.slice (.leaf 3)))],[.pair (.int .i64) (.pair (.leaf 3) (.pair (.slice (.leaf 3)) (.pair (.slice (.leaf 3)) (.slice (.leaf 3)))))],fun p=>ZFi p⟩)
theorem Zhx : KQ Ztr := Zl (ZV (C := cf1 [Zff, ZAg, Z2r, ZEr] [] [ZBj, ZIh] [((38, "Neg"), 81)] [Zjt] [ZBq, ZYo] []) (.n (.n (.n (.n (.n (.two (.j [2, 3, 4, 6] [] [.s 5 (.dat (.ptr (.pair (.slice (.slice (.leaf 3))) (.pair (.slice (.leaf 3)) (.pair (.slice (.leaf 3)) (.pair (.leaf 3) (.pair (.slice (.int .i64)) (.slice (.int .i64))))))))), .s 9 (.dat (.int .i64))] .no) (.n (.n (.two (.n (.n (.j [2, 3, 5, 6, 9, 10] [] [.l (.sl 10) (.own 38 (.leaf 3))] .no))) (.f (.n (.f (.l [2, 3, 5, 6, 9, 10, 69, 70] [] [.s 71 (.dat (.int .i64)), .l (.sl 10) (.own 38 (.leaf 3))] 0 [2, 3, 5, 6, 10] [] [.l (.sl 10) (.own 38 (.leaf 3))] (.f (.n (.n (.f (.f (.n (.n (.j [2, 3, 5, 6, 9, 10, 69, 70, 71] [] [.l (.sl 10) (.own 38 (.leaf 3))] .no))))))))))))))))))))) Tryz.func110 [(108, Tryz.f108, .no), (139, Tryz.f139, .n (.n (.two (.n (.f (.l [1, 3, 20] [.fld (.sl 3) 0, .fld (.sl 3) 1, .fld (.sl 3) 2] [.s 21 (.dat (.int .i64)), .l (.sl 3) (.box 222 (.agg (.cons (.mat 29 38 (.leaf 3)) (.cons (.own 38 (.leaf 3)) (.cons (.own 38 (.leaf 3)) (.cons (.dat (.leaf 3)) (.cons (.own 3 (.int .i64)) (.one (.own 3 (.int .i64))))))))))] 0 [1, 3] [.fld (.sl 3) 0, .fld (.sl 3) 1, .fld (.sl 3) 2] [.l (.sl 3) (.box 222 (.agg (.cons (.mat 29 38 (.leaf 3)) (.cons (.own 38 (.leaf 3)) (.cons (.own 38 (.leaf 3)) (.cons (.dat (.leaf 3)) (.cons (.own 3 (.int .i64)) (.one (.own 3 (.int .i64))))))))))] .no))) (.f (.n (.f (.l [1, 3, 37] [.fld (.sl 3) 0, .fld (.sl 3) 1, .fld (.sl 3) 2, .fld (.sl 3) 6, .fld (.sl 3) 7] [.s 38 (.dat (.int .i64)), .l (.sl 3) (.box 222 (.agg (.cons (.mat 29 38 (.leaf 3)) (.cons (.own 38 (.leaf 3)) (.cons (.own 38 (.leaf 3)) (.cons (.dat (.leaf 3)) (.cons (.own 3 (.int .i64)) (.one (.own 3 (.int .i64))))))))))] 2 [3] [.fld (.sl 3) 0, .fld (.sl 3) 1, .fld (.sl 3) 2, .fld (.sl 3) 6, .fld (.sl 3) 7] [.l (.sl 3) (.box 222 (.agg (.cons (.mat 29 38 (.leaf 3)) (.cons (.own 38 (.leaf 3)) (.cons (.own 38 (.leaf 3)) (.cons (.dat (.leaf 3)) (.cons (.own 3 (.int .i64)) (.one (.own 3 (.int .i64))))))))))] .no)))))))] (fun _ => by kernel_rfl) ⟨Zuf, ZWg, Zly, ZhA, tr⟩ ⟨Zko, Zgk, tr⟩ ⟨Z5h, tr⟩ ⟨⟨Tryz.func108, fun _ _ => by kernel_rfl⟩, ⟨Tryz.func139, fun _ _ => by kernel_rfl⟩, tr⟩ ⟨Zyz, tr⟩ ⟨Z8B, ZKv, tr⟩)
noncomputable def ZTp:FuncId×Con:=(65,⟨[.slice (.slice (.leaf 3)),.slice (.leaf 3),.slice (.leaf 3)],[.pair (.leaf 3) (.pair (.slice (.leaf 3)) (.pair (.slice (.leaf 3)) (.slice (.leaf 3)))),.int .i64],fun p=>Zal p.1 p.2.1 p.2.2⟩)
theorem ZEy : KQ ZTp := Zl (ZV (C := cf0 [Zff, ZGr, Zmv, Z8k, ZAg, Ztr] [] [ZBj, ZRs, Zpl] [((38, "Neg"), 81)]) (.n (.n (.n (.n (.n (.two (.n (.f (.l [0, 2, 6, 8, 9, 10, 40, 41] [.fld (.sl 10) 1, .fld (.sl 10) 2] [.s 42 (.dat (.int .i64)), .l (.sl 10) (.box 190 (.agg (.cons (.own 29 (.slice (.leaf 3))) (.cons (.own 38 (.leaf 3)) (.one (.own 38 (.leaf 3)))))))] 0 [0, 2, 6, 8, 9, 10] [.fld (.sl 10) 1, .fld (.sl 10) 2] [.l (.sl 10) (.box 190 (.agg (.cons (.own 29 (.slice (.leaf 3))) (.cons (.own 38 (.leaf 3)) (.one (.own 38 (.leaf 3)))))))] .no))) (.f (.n (.f (.l [2, 6, 8, 9, 10, 63, 64] [.fld (.sl 10) 0, .fld (.sl 10) 1, .fld (.sl 10) 2] [.s 65 (.dat (.int .i64)), .l (.sl 10) (.box 190 (.agg (.cons (.own 29 (.slice (.leaf 3))) (.cons (.own 38 (.leaf 3)) (.one (.own 38 (.leaf 3)))))))] 2 [6, 8, 9, 10] [.fld (.sl 10) 0, .fld (.sl 10) 1, .fld (.sl 10) 2] [.l (.sl 10) (.box 190 (.agg (.cons (.own 29 (.slice (.leaf 3))) (.cons (.own 38 (.leaf 3)) (.one (.own 38 (.leaf 3)))))))] .no)))))))))) Tryz.func65 [] (fun _ => by kernel_rfl) ⟨Zuf, Zmw, Zby, ZIp, ZWg, Zhx, tr⟩ ⟨Zko, ZgA, Zim, tr⟩ ⟨Z5h, tr⟩)
noncomputable def Zxu:FuncId×Con:=(31,⟨[.slice (.pair (.leaf 3) (.pair (.leaf 3) (.pair (.leaf 3) (.leaf 3)))),.slice (.leaf 3)],[.pair (.pair (.leaf 3) (.slice (.pair (.leaf 3) (.leaf 3)))) (.pair (.leaf 3) (.slice (.pair (.leaf 3) (.leaf 3)))),.int .i64],fun p=>ZLl p.1 p.2⟩)
theorem Zey:KQ Zxu:=Zl (ZV (C:=cf0 [Zeg,Zdl,Zun,ZYf,ZTp] [] [] []) (.n (.n (.n (.two (.n (.f (.l [0,1,4,23,24] [] [.s 6 (.own 29 (.slice (.leaf 3))),.s 7 (.own 38 (.leaf 3)),.s 8 (.own 38 (.leaf 3)),.s 25 (.dat (.int .i64))] 0 [0,1,4] [] [.s 6 (.own 29 (.slice (.leaf 3))),.s 7 (.own 38 (.leaf 3)),.s 8 (.own 38 (.leaf 3))] (.f (.n (.n (.f (.f (.n (.n (.f (.n (.f (.l [0,1,4,6,7,8,10,23,24,25,33,34] [] [.s 11 (.own 38 (.leaf 3)),.s 12 (.own 38 (.leaf 3)),.s 35 (.dat (.int .i64))] 2 [0,1,4,6,7,8,10,23,24,25] [] [.s 11 (.own 38 (.leaf 3)),.s 12 (.own 38 (.leaf 3))] .no)))))))))))))) (.n (.n (.n (.two (.n (.f (.l [0,4,17,19,92,93] [] [.s 94 (.dat (.int .i64)),.l (.sl 19) (.box 44 (.agg (.cons (.agg (.cons (.dat (.leaf 3)) (.one (.own 76 (.pair (.leaf 3) (.leaf 3)))))) (.cons (.dat (.leaf 3)) (.one (.own 105 (.pair (.leaf 3) (.leaf 3))))))))] 4 [0,4,17,19] [] [.l (.sl 19) (.box 44 (.agg (.cons (.agg (.cons (.dat (.leaf 3)) (.one (.own 76 (.pair (.leaf 3) (.leaf 3)))))) (.cons (.dat (.leaf 3)) (.one (.own 105 (.pair (.leaf 3) (.leaf 3))))))))] .no))) (.n (.f (.n (.f (.l [4,17,19,121] [.fld (.sl 19) 3,.fld (.sl 19) 7] [.s 122 (.dat (.int .i64)),.l (.sl 19) (.box 44 (.agg (.cons (.dat (.pair (.leaf 3) (.slice (.pair (.leaf 3) (.leaf 3))))) (.cons (.dat (.leaf 3)) (.one (.own 105 (.pair (.leaf 3) (.leaf 3))))))))] 6 [4,19] [.fld (.sl 19) 3,.fld (.sl 19) 7] [.l (.sl 19) (.box 44 (.agg (.cons (.dat (.pair (.leaf 3) (.slice (.pair (.leaf 3) (.leaf 3))))) (.cons (.dat (.leaf 3)) (.one (.own 105 (.pair (.leaf 3) (.leaf 3))))))))] .no))))))))))))) Tryz.func31 [] (fun _=>by kernel_rfl) ⟨Z2h,ZNn,Zpu,Zug,ZEy,tr⟩)
noncomputable def Zev:FuncId×Con:=(9,⟨[.slice (.pair (.leaf 3) (.pair (.leaf 3) (.pair (.leaf 3) (.leaf 3)))),.slice (.leaf 3)],[.pair (.pair (.leaf 3) (.slice (.pair (.leaf 3) (.leaf 3)))) (.pair (.leaf 3) (.slice (.pair (.leaf 3) (.leaf 3)))),.int .i64],fun p=>Zci p.1 p.2⟩)
theorem ZPz:KQ Zev:=Zl (ZV (C:=cf0 [ZKm,ZOo,Zxu] [] [] []) .no Tryz.func9 [] (fun _=>by kernel_rfl) ⟨ZWp,ZOr,Zey,tr⟩)
noncomputable def Z3l:FuncId×Con:=(66,⟨[.leaf 4],[.bool],fun p=>Zse p⟩)
theorem ZTo:KQ Z3l:=Zl (ZB (C:=cf2 [(62,1),(64,4)] []) .no Tryz.func66 [] (fun v vals x z ha hz=>.trans (by kernel_rfl) (ZsA hz)))
theorem ZGx {x:Rat} {z:Int} (h:ZYb x=some z):Zet x=some z:=by
 unfold ZYb at h
 cases h
 unfold Zet Zse;rw [Za];by_cases h0:x=0
 ·subst h0;rfl
 ·have:=Zjl h0;rw [dFq h0,Ze];by_cases h1:x.num<0
  ·rw [dTq h1,Zf,Int.sign_eq_neg_one_of_neg h1]
  ·rw [dFq h1,Ze,Int.sign_eq_one_of_pos (by omega)]
noncomputable def Zzg:FuncId×Con:=(32,⟨[.leaf 4],[.int .i64],fun p=>ZYb p⟩)
theorem Z8h:KQ Zzg:=Zl (ZB (C:=cf2 [(62,1),(64,4)] [Z3l]) .no Tryz.func32 [] (fun v vals x z ha hz=>.trans (by kernel_rfl) (ZGx hz)) ⟨ZTo,tr⟩)
noncomputable def Zvu:FuncId×Con:=(10,⟨[.slice (.pair (.leaf 4) (.pair (.leaf 4) (.pair (.leaf 4) (.leaf 4))))],[.int .i64],fun p=>Zyk p⟩)
theorem Zcz:KQ Zvu:=Zl (ZV (C:=cf0 [Zzg] [] [] []) (.n (.two (.f (.j [0] [] [.s 11 (.dat .bool)] .no)) (.f (.n (.f (.cut ⟨⟨[0],[],[.s 3 (.dat (.int .i64))]⟩,[(.exit 0,⟨[],[],[]⟩),(.ret,⟨[],[],[.s 1000 (.dat (.int .i64))]⟩)]⟩ (.f (.n (.f (.f (.f (.j [0,3] [] [.s 51 (.dat .bool)] .no)))))))))))) Tryz.func10 [] (fun _=>by kernel_rfl) ⟨Z8h,tr⟩)
noncomputable def Zbh:FuncId×Con:=(93,⟨[.leaf 4],[.leaf 1],fun p=>Z5b p⟩)
theorem ZWi:KQ Zbh:=Zl (ZB (C:=cf2 [(62,1),(64,4)] []) .no Tryz.func93 [] (fun v vals x z ha hz=>.trans (by kernel_rfl) (Z2y hz)))
noncomputable def ZDn:FuncId×Con:=(112,⟨[.leaf 1,.leaf 1],[.leaf 1],fun p=>ZMf p.1 p.2⟩)
theorem Zov:KQ ZDn:=Zl (ZB (C:=cf2 [(62,1),(64,4)] [ZYe]) (.n (.n (.n (.f (.n (.j [] [] [.s 5 (.own 183 (.int .u32)),.s 6 (.dat (.int .u64))] (.f (.l [0,1] [] [.s 5 (.own 183 (.int .u32)),.s 6 (.dat (.int .u64)),.s 7 (.dat (.int .i64))] 0 [] [] [.s 5 (.own 183 (.int .u32)),.s 6 (.dat (.int .u64))] (.f (.two (.f (.j [0,1,5,6,7] [] [.s 18 (.dat .bool)] .no)) (.f (.f (.two (.n (.j [0,1,5,7] [] [.s 6 (.dat (.int .u64))] .no)) (.f (.n (.j [0,1,5,7] [] [.s 6 (.dat (.int .u64))] .no)))))))))))))))) Tryz.func112 [] (fun v vals x z ha hz=>.trans (by kernel_rfl) (Zjx hz)) ⟨Zrf,tr⟩)
theorem radd_eq {x y:Rat} (h:smQ x) (h':smQ y):Zen x y=some (x+y):=by
 obtain ⟨a1,a2⟩:=h;obtain ⟨b1,b2⟩:=h';unfold Zen Z5b;have p1:=Zcb x.num.natAbs y.den;have p2:=Zcb y.num.natAbs x.den;have p3:=Zcb x.den y.den;have p4:=Ztp (x.num.natAbs*y.den) (y.num.natAbs*x.den);have hd:x.den*y.den≠0:=Nat.mul_ne_zero x.den_nz y.den_nz;have e1:Zra x.num.natAbs y.den=some (x.num.natAbs*y.den):=by unfold Zra;rw [iP ⟨ZJb (by omega),ZJb (by omega)⟩]
 have e2:Zra y.num.natAbs x.den=some (y.num.natAbs*x.den):=by unfold Zra;rw [iP ⟨ZJb (by omega),ZJb (by omega)⟩]
 have e3:Zra x.den y.den=some (x.den*y.den):=by unfold Zra;rw [iP ⟨ZJb (by omega),ZJb (by omega)⟩]
 have eN:((x.num.natAbs*y.den:Nat):Int)=(x.num.natAbs:Int)*y.den:=by simp
 have eM:((y.num.natAbs*x.den:Nat):Int)=(y.num.natAbs:Int)*x.den:=by simp
 have key:∀ (s:Bool) (n:Nat),bl n≤1099511627776→sgn s n=x.num*y.den+y.num*x.den→ZWa s n (x.den*y.den)=some (x+y):=by
  intro s n hn he;unfold ZWa;rw [iP ⟨ZOd hn,ZOd (by omega),hd⟩,he,← Rat.add_def']
 rw [Za,Za,e1,Za,e2,Za,e3];obtain ⟨N,hN⟩:∃ N,N=x.num.natAbs*y.den:=⟨_,rfl⟩;obtain ⟨M,hM⟩:∃ M,M=y.num.natAbs*x.den:=⟨_,rfl⟩;rw [← hN] at p1 p4 eN ⊢;rw [← hM] at p2 p4 eM ⊢;have sx:x.num*(y.den:Int)=if x.num<0 then -(N:Int) else N:=by
  split
  ·rw [eN,← Int.neg_mul];congr 1;omega
  ·rw [eN];congr 1;omega
 have sy:y.num*(x.den:Int)=if y.num<0 then -(M:Int) else M:=by
  split
  ·rw [eM,← Int.neg_mul];congr 1;omega
  ·rw [eM];congr 1;omega
 by_cases hs:(x.num<0)↔(y.num<0)
 ·have e4:ZMf N M=some (N+M):=by unfold ZMf;rw [iP ⟨ZJb (by omega),ZJb (by omega)⟩]
  have e5:((decide (x.num<0))==(decide (y.num<0)))=true:=by
   by_cases h:x.num<0
   ·simp [h,hs.1 h]
   ·have h2:¬ y.num<0:=fun k=>h (hs.2 k);simp [h,h2]
  rw [e5,Zf,e4,Za,Za,key _ _ (by omega) ?_,Za];rw [sx,sy];unfold sgn;by_cases h:x.num<0
  ·have h2:=hs.1 h;simp [h,h2];omega
  ·have h2:¬ y.num<0:=fun k=>h (hs.2 k);simp [h,h2]
 ·have e5:((decide (x.num<0))==(decide (y.num<0)))=false:=by
   apply beq_false_of_ne;intro h;exact hs (by by_cases k:x.num<0 <;> by_cases k2:y.num<0 <;> simp_all)
  rw [e5,Ze];unfold ZHd;rw [Za];by_cases hle:M≤N
  ·have e6:decide ((0:Int)≤Zua N M)=true:=by
    unfold Zua;rw [iN (by omega)];split <;> rfl
   have e4:Zkc N M=some (N-M):=by unfold Zkc;rw [iP ⟨ZJb (by omega),hle⟩]
   have hb:bl (N-M)≤bl N:=ZFe (by omega);rw [e6,Zf,e4,Za,Za,key _ _ (by omega) ?_,Za];rw [sx,sy];unfold sgn;by_cases h:x.num<0
   ·have h2:¬ y.num<0:=fun k=>hs ⟨fun _=>k,fun _=>h⟩;simp [h,h2];omega
   ·have h2:y.num<0:=by
     rcases Int.lt_or_le y.num 0 with k | k
     ·exact k
     ·exact absurd ⟨fun q=>absurd q h,fun q=>absurd q (by omega)⟩ hs
    simp [h,h2];omega
  ·have e6:decide ((0:Int)≤Zua N M)=false:=by
    unfold Zua;rw [iP (by omega)];rfl
   have e4:Zkc M N=some (M-N):=by unfold Zkc;rw [iP ⟨ZJb (by omega),by omega⟩]
   have hb:bl (M-N)≤bl M:=ZFe (by omega);rw [e6,Ze,e4,Za,Za,key _ _ (by omega) ?_,Za];rw [sx,sy];unfold sgn;by_cases h:x.num<0
   ·have h2:¬ y.num<0:=fun k=>hs ⟨fun _=>k,fun _=>h⟩;simp [h,h2];omega
   ·have h2:y.num<0:=by
     rcases Int.lt_or_le y.num 0 with k | k
     ·exact k
     ·exact absurd ⟨fun q=>absurd q h,fun q=>absurd q (by omega)⟩ hs
    simp [h,h2];omega
theorem ZKA {x y z:Rat} (h:ZNb x y=some z):Zen x y=some z:=by
 unfold ZNb at h;split at h
 ·rename_i hh;rw [radd_eq hh.1 hh.2,h]
 ·cases h
noncomputable def ZIj:FuncId×Con:=(76,⟨[.leaf 4,.leaf 4],[.leaf 4],fun p=>ZNb p.1 p.2⟩)
theorem Z2k:KQ ZIj:=Zl (ZB (C:=cf2 [(62,1),(64,4)] [Zxf,Zbi,Zbh,ZDn,Z7l,Zkm]) .no Tryz.func76 [] (fun v vals x z ha hz=>.trans (by kernel_rfl) (ZKA hz)) ⟨ZPg,Z1i,ZWi,Zov,Zso,Zos,tr⟩)
theorem rneg_eq {x:Rat} (h:okQ x):ZEp x=some (-x):=by
 obtain ⟨h1,h2⟩:=h;unfold ZEp Z5b ZWa;rw [Za,iP ⟨ZOd h1,ZOd h2,x.den_nz⟩,Za];congr 1;have e:sgn (!(decide (x.num<0))) x.num.natAbs = -x.num:=by
  unfold sgn;by_cases h:x.num<0
  ·simp [h];omega
  ·simp [h];omega
 rw [e];exact Rat.mkRat_self (-x)
theorem ZAx {x z:Rat} (h:Zyg x=some z):ZEp x=some z:=by
 unfold Zyg at h;split at h
 ·rename_i hh;rw [rneg_eq hh,h]
 ·cases h
noncomputable def Zjp:FuncId×Con:=(111,⟨[.leaf 4],[.leaf 4],fun p=>Zyg p⟩)
theorem ZFt:KQ Zjp:=Zl (ZB (C:=cf2 [(62,1),(64,4)] [Zxf,Zbh]) .no Tryz.func111 [] (fun v vals x z ha hz=>.trans (by kernel_rfl) (ZAx hz)) ⟨ZPg,ZWi,tr⟩)
theorem ZhB {x y z:Rat} (h:Z0e x y=some z):Z2s x y=some z:=by
 unfold Z0e at h;split at h
 ·rename_i hh;unfold Z2s Zyg ZNb;rw [iP (smQ_ok hh.2),Za,iP ⟨hh.1,smQ_neg hh.2⟩,Za,← Rat.sub_eq_add_neg];exact h
 ·cases h
noncomputable def Zpm:FuncId×Con:=(67,⟨[.leaf 4,.leaf 4],[.leaf 4],fun p=>Z0e p.1 p.2⟩)
theorem ZWq:KQ Zpm:=Zl (ZB (C:=cf2 [(62,1),(64,4)] [ZIj,Zjp]) .no Tryz.func67 [] (fun v vals x z ha hz=>.trans (by kernel_rfl) (ZhB hz)) ⟨Z2k,ZFt,tr⟩)
theorem Zox {x y:Rat} {z:Int} (h:ZLc x y=some z):Zvs x y=some z:=by
 unfold ZLc at h;split at h
 ·rename_i hh
  cases h
  unfold Zvs Z0e ZYb;rw [iP hh,Za,Za]
 ·cases h
noncomputable def ZJh:FuncId×Con:=(33,⟨[.leaf 4,.leaf 4],[.int .i64],fun p=>ZLc p.1 p.2⟩)
theorem Zrj:KQ ZJh:=Zl (ZB (C:=cf2 [(62,1),(64,4)] [Zzg,Zpm]) .no Tryz.func33 [] (fun v vals x z ha hz=>.trans (by kernel_rfl) (Zox hz)) ⟨Z8h,ZWq,tr⟩)
noncomputable def ZUp:FuncId×Con:=(11,⟨[.slice (.leaf 4)],[.int .i64],fun p=>ZJk p⟩)
theorem ZSB:KQ ZUp:=Zl (ZV (C:=cf0 [Zzg,ZJh] [] [] []) (.n (.two (.f (.j [0] [] [.s 11 (.dat .bool)] .no)) (.f (.n (.f (.cut ⟨⟨[0],[],[.s 3 (.dat (.int .i64))]⟩,[(.exit 0,⟨[],[],[]⟩),(.ret,⟨[],[],[.s 1000 (.dat (.int .i64))]⟩)]⟩ (.f (.n (.f (.f (.n (.f (.j [0,3] [] [.s 38 (.dat .bool)] .no))))))))))))) Tryz.func11 [] (fun _=>by kernel_rfl) ⟨Z8h,Zrj,tr⟩)
noncomputable def ZPv:FuncId×Con:=(12,⟨[.pair (.pair (.leaf 3) (.slice (.pair (.leaf 3) (.leaf 3)))) (.pair (.leaf 3) (.slice (.pair (.leaf 3) (.leaf 3))))],[.bool],fun p=>ZVi p⟩)
theorem none4_k:KQ ZPv:=Zl (ZV (C:=cf0 [ZYi] [] [] []) (.n (.f (.j [] [] [.s 2 (.dat .bool)] .no))) Tryz.func12 [] (fun _=>by kernel_rfl) ⟨ZRk,tr⟩)
noncomputable def ZDr:FuncId×Con:=(68,⟨[.str],[.leaf 1],fun p=>Z1h p⟩)
theorem rRead_k:KQ ZDr:=Zl (ZV (C:=cf0 [Zdj,Zbi,ZDn] [] [] []) (.n (.n (.f (.n (.f (.l [0] [] [.s 3 (.dat (.leaf 1)),.s 4 (.dat (.int .i64))] 0 [] [] [.s 3 (.dat (.leaf 1))] .no)))))) Tryz.func68 [] (fun _=>by kernel_rfl) ⟨ZVl,Z1i,Zov,tr⟩)
noncomputable def Ziv:FuncId×Con:=(34,⟨[.leaf 3],[.leaf 4],fun p=>ZWc p⟩)
theorem Z3y:KQ Ziv:=Zl (ZV (C:=cf0 [Zbl,Zdf,ZDr,Zxf,Zdj] [] [] []) (.n (.n (.two (.j [2,3] [] [.s 4 (.dat .bool)] .no) (.two (.n (.j [2,4] [] [.s 3 (.dat .str)] .no)) (.f (.n (.f (.cut ⟨⟨[2,3,4],[],[.s 5 (.dat (.int .i64))]⟩,[(.exit 0,⟨[2,3,4],[],[]⟩),(.ret,⟨[],[],[.s 1000 (.dat (.leaf 4))]⟩)]⟩ (.f (.n (.f (.f (.two (.f (.j [2,3,4,5] [] [.s 42 (.dat .bool)] .no)) (.n (.f (.f (.n (.f (.cut ⟨⟨[2,3,4,5],[],[.s 6 (.dat (.int .i64))]⟩,[(.exit 2,⟨[2,3,4,5],[],[]⟩),(.ret,⟨[],[],[.s 1000 (.dat (.leaf 4))]⟩)]⟩ (.f (.n (.f (.f (.f (.j [2,3,4,5,6] [] [.s 65 (.dat .bool)] .no))))))))))))))))))))))))) Tryz.func34 [] (fun _=>by kernel_rfl) ⟨ZYn,Zhf,rRead_k,ZPg,ZVl,tr⟩)
noncomputable def ZIt:FuncId×Con:=(35,⟨[.pair (.leaf 4) (.slice (.pair (.leaf 4) (.leaf 4)))],[.int .i64],fun p=>Z6l p⟩)
theorem Z6z:KQ ZIt:=Zl (ZV (C:=cf0 [Zzg,ZJh] [] [] []) (.n (.n (.n (.f (.n (.f (.cut ⟨⟨[1],[],[.s 3 (.dat (.int .i64))]⟩,[(.exit 0,⟨[],[],[]⟩),(.ret,⟨[],[],[.s 1000 (.dat (.int .i64))]⟩)]⟩ (.f (.n (.f (.f (.two (.f (.j [1,3] [] [.s 36 (.dat .bool)] .no)) (.f (.j [1,3] [] [.s 55 (.dat .bool)] .no)))))))))))))) Tryz.func35 [] (fun _=>by kernel_rfl) ⟨Z8h,Zrj,tr⟩)
theorem Zqz {x y:Rat} {z:Bool} (h:ZBg x y=some z):ZZr x y=some z:=by
 unfold ZBg at h;split at h
 ·rename_i hh
  cases h
  unfold ZZr ZLc;rw [iP hh,Za];congr 1;rw [Bool.eq_iff_iff];simp only [beq_iff_eq,decide_eq_true_iff,Int.sign_eq_zero_iff_zero,Rat.num_eq_zero];constructor
  ·intro h;grind
  ·intro h;grind
 ·cases h
noncomputable def ZKo:FuncId×Con:=(71,⟨[.leaf 4,.leaf 4],[.bool],fun p=>ZBg p.1 p.2⟩)
theorem Z1p:KQ ZKo:=Zl (ZB (C:=cf2 [(62,1),(64,4)] [ZJh]) .no Tryz.func71 [] (fun v vals x z ha hz=>.trans (by kernel_rfl) (Zqz hz)) ⟨Zrj,tr⟩)
noncomputable def ZUv:FuncId×Con:=(36,⟨[.pair (.leaf 4) (.slice (.pair (.leaf 4) (.leaf 4))),.slice (.leaf 4)],[.bool],fun p=>Z6k p.1 p.2⟩)
theorem ZDx:KQ ZUv:=Zl (ZV (C:=cf0 [ZKo] [] [] []) (.n (.n (.f (.n (.f (.cut ⟨⟨[1,2],[],[.s 5 (.dat (.int .i64))]⟩,[(.exit 0,⟨[],[],[]⟩),(.ret,⟨[],[],[.s 1000 (.dat .bool)]⟩)]⟩ .no)))))) Tryz.func36 [] (fun _=>by kernel_rfl) ⟨Z1p,tr⟩)
noncomputable def ZVv (x:Rat):Option ((List UInt8)) :=
 bnd (Zyh x.num.natAbs) fun b =>
 bnd (ifb (decide (x.num<0))
 (bnd (Zse x) fun d =>
 some (!(d)))
 (some false))
 (fun (e:Bool) =>
 (bnd (ifb (e)
 (bnd (ZFb ((([45]:List UInt8))++b)) fun j =>
 some (((([45]:List UInt8))++b)))
 (some b))
 (fun (a:(List UInt8)) =>
 (bnd (Z5b x) fun f =>
 bnd (ZPb ([(1:Int)])) fun g =>
 bnd (ZHd f g) fun h =>
 bnd (ifb (decide ((0:Int)<h))
 (bnd (ZFb (a++(([47]:List UInt8)))) fun k =>
 bnd (Zyh x.den) fun c =>
 bnd (ZFb (((a++(([47]:List UInt8))))++c)) fun l =>
 some ((((a++(([47]:List UInt8))))++c)))
 (some a))
 (fun (i:(List UInt8)) =>
 (some i))))))
noncomputable def ZJq:FuncId×Con:=(116,⟨[.leaf 1],[.str],fun p=>Zyh p⟩)
theorem ZsB:KQ ZJq:=Zl (ZB (C:=cf2 [(62,1),(64,4)] [Zrn]) (.n (.n (.f (.j [] [] [.s 3 (.dat .str)] (.f (.l [] [] [.s 0 (.dat (.leaf 1)),.s 3 (.dat .str)] 0 [] [] [.s 3 (.dat .str)] (.f (.n (.f (.n (.f (.n (.j [4] [] [.s 3 (.dat .str)] (.f (.l [4] [] [.s 3 (.dat .str),.s 5 (.dat (.int .u32)),.s 6 (.dat (.int .i64))] 2 [4] [] [.s 3 (.dat .str)] (.f (.f (.f (.j [3,4,5,6] [] [.s 25 (.dat .bool)] .no))))))))))))))))))) Tryz.func116 [] (fun v vals x z ha hz=>.trans (by kernel_rfl) (ZFB hz)) ⟨ZCt,tr⟩)
theorem ZRy {x:Rat} {z:List UInt8} (h:Zzi x=some z):ZVv x=some z:=by
 unfold Zzi at h;split at h
 ·rename_i hh;obtain ⟨h1,h2⟩:=hh
  cases h
  unfold ZVv Zyh;have l1:=Zkl (n:=x.num.natAbs) (by omega);have l2:=Zkl (n:=x.den) (by omega);rw [iP (ZOd h1),Za];have e0:ifb (decide (x.num<0)) (bnd (Zse x) fun y136=>some (!(y136))) (some false)=some (decide (x.num<0)):=by
   unfold Zse;by_cases h:x.num<0
   ·have:x≠0:=fun e=>by subst e;simp at h
    rw [dTq h,Zf,Za,dFq this];rfl
   ·rw [dFq h,Ze]
  rw [e0,Za];have e1:ifb (decide (x.num<0)) (bnd (ZFb ([45]++Z8 x.num.natAbs)) fun y80=>some (([45]:List UInt8)++Z8 x.num.natAbs)) (some (Z8 x.num.natAbs))=some ((if x.num<0 then [45] else [])++Z8 x.num.natAbs):=by
   by_cases h:x.num<0
   ·rw [dTq h,Zf,Zgf (by simp;omega),Za,iP h]
   ·rw [dFq h,Ze,iN h];rfl
  rw [e1,Za];unfold txtQ Z5b ZHd;have l3:((if x.num<0 then [45] else [])++Z8 x.num.natAbs:List UInt8).length≤4398046511105:=by
   rw [List.length_append];split <;> simp <;> omega
  generalize ((if x.num<0 then [45] else [])++Z8 x.num.natAbs:List UInt8)=s at *;rw [Za,ZAn,Za,Za,ZGt];by_cases hd:x.den=1
  ·rw [hd];simp [ifb,bnd]
  ·have:=x.den_nz;rw [dTq (by omega),Zf,Zgf (by simp;omega),Za,iP (ZOd h2),Za,Zgf (by simp;omega),Za,Za,iN hd];simp
 ·cases h
noncomputable def ZEt:FuncId×Con:=(72,⟨[.leaf 4],[.str],fun p=>Zzi p⟩)
theorem rtext_k:KQ ZEt:=Zl (ZB (C:=cf2 [(62,1),(64,4)] [Z3l,Zbh,ZJq,Z7l]) (.n (.n (.two (.two (.j [1,3] [] [.s 13 (.dat .bool)] .no) (.j [1] [] [.s 3 (.dat .str)] .no)) (.f (.n (.j [] [] [.s 3 (.dat .str)] .no)))))) Tryz.func72 [] (fun v vals x z ha hz=>.trans (by kernel_rfl) (ZRy hz)) ⟨ZTo,ZWi,ZsB,Zso,tr⟩)
noncomputable def is1_q:FuncId×Con:=(37,⟨[.leaf 3,.leaf 4],[.bool],fun p=>Zgl p.1 p.2⟩)
theorem is1_k:KQ is1_q:=Zl (ZV (C:=cf0 [Zbl,ZEt] [] [] []) .no Tryz.func37 [] (fun _=>by kernel_rfl) ⟨ZYn,rtext_k,tr⟩)
theorem ZtA {x y z:Rat} (h:Znc x y=some z):ZEs x y=some z:=by
 unfold Znc at h;split at h
 ·rename_i hh;obtain ⟨⟨a1,a2⟩,b1,b2⟩:=hh
  cases h
  unfold ZEs Z5b;have p1:=Zcb x.num.natAbs y.num.natAbs;have p3:=Zcb x.den y.den;have e1:Zra x.num.natAbs y.num.natAbs=some (x.num.natAbs*y.num.natAbs):=by unfold Zra;rw [iP ⟨ZJb (by omega),ZJb (by omega)⟩]
  have e3:Zra x.den y.den=some (x.den*y.den):=by unfold Zra;rw [iP ⟨ZJb (by omega),ZJb (by omega)⟩]
  rw [e1,Za,Za,Za,e3,Za];unfold ZWa;rw [iP ⟨ZOd (by omega),ZOd (by omega),Nat.mul_ne_zero x.den_nz y.den_nz⟩,Za];have e:sgn ((decide (x.num<0)) != (decide (y.num<0))) (x.num.natAbs*y.num.natAbs)=x.num*y.num:=by
   have eN:((x.num.natAbs*y.num.natAbs:Nat):Int)=(x.num.natAbs:Int)*y.num.natAbs:=by simp
   unfold sgn;rw [eN];by_cases h:x.num<0
   ·have hx:(x.num.natAbs:Int) = -x.num:=by omega
    by_cases h2:y.num<0
    ·have hy:(y.num.natAbs:Int) = -y.num:=by omega
     simp [h,h2,hx,hy,Int.neg_mul,Int.mul_neg]
    ·have hy:(y.num.natAbs:Int)=y.num:=by omega
     simp [h,h2,hx,hy,Int.neg_mul,Int.mul_neg]
   ·have hx:(x.num.natAbs:Int)=x.num:=by omega
    by_cases h2:y.num<0
    ·have hy:(y.num.natAbs:Int) = -y.num:=by omega
     simp [h,h2,hx,hy,Int.neg_mul,Int.mul_neg]
    ·have hy:(y.num.natAbs:Int)=y.num:=by omega
     simp [h,h2,hx,hy,Int.neg_mul,Int.mul_neg]
  rw [e,← Rat.mul_def']
 ·cases h
noncomputable def Zul:FuncId×Con:=(55,⟨[.leaf 4,.leaf 4],[.leaf 4],fun p=>Znc p.1 p.2⟩)
theorem ZDp:KQ Zul:=Zl (ZB (C:=cf2 [(62,1),(64,4)] [Zxf,Zbi,Zbh]) .no Tryz.func55 [] (fun v vals x z ha hz=>.trans (by kernel_rfl) (ZtA hz)) ⟨ZPg,Z1i,ZWi,tr⟩)
noncomputable def ZOp (x:Rat) (y:Rat):Option (Rat×Int) :=
 bnd (Zse y) fun a =>
 ifb (a)
 (bnd (ZIa (0:Int)) fun b =>
 some ((b,(3:Int))))
 (bnd (Z5b y) fun c =>
 bnd (Zra x.num.natAbs c) fun d =>
 bnd (Z5b x) fun e =>
 bnd (Zra e y.num.natAbs) fun f =>
 bnd (ZWa ((decide (x.num<0)) != (decide (y.num<0))) d f) fun g =>
 some ((g,(0:Int))))
theorem ZJw {x y:Rat} {z:Rat×Int} (h:ZQi x y=some z):ZOp x y=some z:=by
 unfold ZQi at h;split at h
 ·rename_i hh;obtain ⟨⟨a1,a2⟩,b1,b2⟩:=hh
  cases h
  unfold ZOp Zse;rw [Za];by_cases h0:y=0
  ·subst h0;rfl
  ·rw [dFq h0,Ze,iN h0];unfold Z5b;have hn:=Zjl h0;have p1:=Zcb x.num.natAbs y.den;have p3:=Zcb x.den y.num.natAbs;have e1:Zra x.num.natAbs y.den=some (x.num.natAbs*y.den):=by unfold Zra;rw [iP ⟨ZJb (by omega),ZJb (by omega)⟩]
   have e3:Zra x.den y.num.natAbs=some (x.den*y.num.natAbs):=by unfold Zra;rw [iP ⟨ZJb (by omega),ZJb (by omega)⟩]
   rw [Za,e1,Za,Za,e3,Za];unfold ZWa;rw [iP ⟨ZOd (by omega),ZOd (by omega),Nat.mul_ne_zero x.den_nz (by omega)⟩,Za];have e:sgn ((decide (x.num<0)) != (decide (y.num<0))) (x.num.natAbs*y.den)=if y.num<0 then -(x.num*(y.den:Int)) else x.num*(y.den:Int):=by
    have eN:((x.num.natAbs*y.den:Nat):Int)=(x.num.natAbs:Int)*y.den:=by simp
    unfold sgn;rw [eN];by_cases h:x.num<0
    ·have hx:(x.num.natAbs:Int) = -x.num:=by omega
     by_cases h2:y.num<0 <;> simp [h,h2,hx,Int.neg_mul]
    ·have hx:(x.num.natAbs:Int)=x.num:=by omega
     by_cases h2:y.num<0 <;> simp [h,h2,hx,Int.neg_mul]
   rw [e,← Zqo h0]
 ·cases h
noncomputable def ZHs:FuncId×Con:=(118,⟨[.leaf 4,.leaf 4],[.leaf 4,.int .i64],fun p=>ZQi p.1 p.2⟩)
theorem rdiv_k:KQ ZHs:=Zl (ZB (C:=cf2 [(62,1),(64,4)] [Zdf,Z3l,Zxf,Zbi,Zbh]) .no Tryz.func118 [] (fun v vals x z ha hz=>.trans (by kernel_rfl) (ZJw hz)) ⟨Zhf,ZTo,ZPg,Z1i,ZWi,tr⟩)
theorem rbyF_eq {x y z:Rat} (h:ZLd x y=some z):rby_m x y=some z:=by
 unfold ZLd at h;split at h
 ·rename_i hh
  cases h
  unfold rby_m ZQi;rw [iP hh,Za];split <;> rfl
 ·cases h
noncomputable def rby_q:FuncId×Con:=(74,⟨[.leaf 4,.leaf 4],[.leaf 4],fun p=>ZLd p.1 p.2⟩)
theorem rby_k:KQ rby_q:=Zl (ZB (C:=cf2 [(62,1),(64,4)] [ZHs]) .no Tryz.func74 [] (fun v vals x z ha hz=>.trans (by kernel_rfl) (rbyF_eq hz)) ⟨rdiv_k,tr⟩)
noncomputable def ZBo:FuncId×Con:=(77,⟨[.leaf 4,.leaf 4],[.leaf 4,.leaf 4],fun p=>Zyj p.1 p.2⟩)
theorem Znt:KQ ZBo:=Zl (ZV (C:=cf0 [Zul,Zdf,rby_q,ZIj] [] [] []) .no Tryz.func77 [] (fun _=>by kernel_rfl) ⟨ZDp,Zhf,rby_k,Z2k,tr⟩)
noncomputable def ZXq:FuncId×Con:=(73,⟨[.pair (.leaf 4) (.slice (.pair (.leaf 4) (.leaf 4))),.leaf 4],[.leaf 4,.leaf 4],fun p=>Z8l p.1 p.2⟩)
theorem ZWy:KQ ZXq:=Zl (ZV (C:=cf0 [Zul,Zdf,ZIj,ZBo] [] [] []) (.n (.n (.f (.n (.f (.l [2,3,4,5,6,7] [] [.s 8 (.dat (.int .i64)),.l (.sl 6) (.box 64 (.dat (.leaf 4))),.l (.sl 7) (.box 64 (.dat (.leaf 4)))] 0 [4,5,6,7] [] [.l (.sl 6) (.box 64 (.dat (.leaf 4))),.l (.sl 7) (.box 64 (.dat (.leaf 4)))] .no)))))) Tryz.func73 [] (fun _=>by kernel_rfl) ⟨ZDp,Zhf,Z2k,Znt,tr⟩)
noncomputable def Z9m:FuncId×Con:=(75,⟨[.leaf 4],[.leaf 4],fun p=>Zig p⟩)
theorem Zks:KQ Z9m:=Zl (ZV (C:=cf0 [Zzg,Zjp] [] [] []) .no Tryz.func75 [] (fun _=>by kernel_rfl) ⟨Z8h,ZFt,tr⟩)
noncomputable def Zdu:FuncId×Con:=(38,⟨[.pair (.leaf 4) (.slice (.pair (.leaf 4) (.leaf 4))),.slice (.pair (.leaf 4) (.pair (.leaf 4) (.pair (.leaf 4) (.leaf 4))))],[.leaf 4],fun p=>ZGi p.1 p.2⟩)
theorem ZLA:KQ Zdu:=Zl (ZV (C:=cf0 [ZJh,Zdf,Zpm,ZXq,rby_q,Z9m] [] [] []) (.n (.n (.f (.n (.f (.l [1,2,4,5] [] [.s 6 (.dat (.int .i64)),.l (.sl 5) (.box 64 (.dat (.leaf 4)))] 0 [4,5] [] [.l (.sl 5) (.box 64 (.dat (.leaf 4)))] (.f (.n (.f (.f (.n (.n (.n (.two (.n (.j [1,2,4,5,6,10] [] [.l (.sl 5) (.box 64 (.dat (.leaf 4)))] .no)) (.n (.j [1,2,4,5,6] [] [.l (.sl 5) (.box 64 (.dat (.leaf 4)))] .no)))))))))))))))) Tryz.func38 [] (fun _=>by kernel_rfl) ⟨Zrj,Zhf,ZWq,ZWy,rby_k,Zks,tr⟩)
noncomputable def ZJr:FuncId×Con:=(39,⟨[.slice (.pair (.leaf 4) (.pair (.leaf 4) (.pair (.leaf 4) (.leaf 4)))),.slice (.leaf 4),.leaf 4,.slice (.pair (.leaf 4) (.leaf 4))],[.bool],fun p=>Zdk p.1 p.2.1 p.2.2.1 p.2.2.2⟩)
theorem Z6B:KQ ZJr:=Zl (ZV (C:=cf0 [Zzg,ZJh,Zul,Zdf,ZKo,Z9m,ZIj,ZBo] [] [] []) (.n (.n (.n (.two (.n (.f (.l [0,1,3,6,9,10,11] [] [.s 12 (.dat (.int .i64)),.l (.sl 9) (.box 64 (.dat (.leaf 4))),.l (.sl 10) (.box 64 (.dat (.leaf 4))),.l (.sl 11) (.box 64 (.dat (.leaf 4)))] 0 [0,1,3,6,9,10,11] [] [.l (.sl 9) (.box 64 (.dat (.leaf 4))),.l (.sl 10) (.box 64 (.dat (.leaf 4))),.l (.sl 11) (.box 64 (.dat (.leaf 4)))] .no))) (.two (.f (.j [0,1,3] [] [.s 91 (.dat .bool)] .no)) (.f (.n (.f (.cut ⟨⟨[0,1,3],[],[.s 15 (.dat (.int .i64))]⟩,[(.exit 2,⟨[],[],[]⟩),(.ret,⟨[],[],[.s 1000 (.dat .bool)]⟩)]⟩ (.f (.n (.f (.f (.n (.f (.n (.f (.l [0,1,3,15,16] [] [.s 17 (.dat (.int .i64)),.l (.sl 16) (.box 64 (.dat (.leaf 4)))] 4 [0,1,3,15,16] [] [.l (.sl 16) (.box 64 (.dat (.leaf 4)))] .no)))))))))))))))))) Tryz.func39 [] (fun _=>by kernel_rfl) ⟨Z8h,Zrj,ZDp,Zhf,Z1p,Zks,Z2k,Znt,tr⟩)
noncomputable def ZIu:FuncId×Con:=(13,⟨[.pair (.pair (.leaf 3) (.slice (.pair (.leaf 3) (.leaf 3)))) (.pair (.leaf 3) (.slice (.pair (.leaf 3) (.leaf 3)))),.slice (.pair (.leaf 4) (.pair (.leaf 4) (.pair (.leaf 4) (.leaf 4)))),.slice (.leaf 4)],[.bool],fun p=>ZVk p.1 p.2.1 p.2.2⟩)
theorem Zrx:KQ ZIu:=Zl (ZV (C:=cf0 [Ziv,ZIt,ZUv,is1_q,Zdu,ZJr] [] [] []) (.n (.n (.two (.n (.f (.l [1,2,3,7,20,21] [] [.s 22 (.dat (.int .i64)),.l (.sl 7) (.box 101 (.agg (.cons (.dat (.leaf 4)) (.one (.own 103 (.pair (.leaf 4) (.leaf 4)))))))] 0 [1,2,3,7] [] [.l (.sl 7) (.box 101 (.agg (.cons (.dat (.leaf 4)) (.one (.own 103 (.pair (.leaf 4) (.leaf 4)))))))] .no))) (.n (.two (.n (.f (.l [1,2,3,7,42,43] [] [.s 10 (.own 106 (.pair (.leaf 4) (.leaf 4))),.s 44 (.dat (.int .i64))] 2 [1,2,3,7] [] [.s 10 (.own 106 (.pair (.leaf 4) (.leaf 4)))] .no))) (.f (.j [] [] [.s 6 (.dat .bool)] .no))))))) Tryz.func13 [] (fun _=>by kernel_rfl) ⟨Z3y,Z6z,ZDx,is1_k,ZLA,Z6B,tr⟩)
noncomputable def Z8s:FuncId×Con:=(41,⟨[.leaf 3,.leaf 3],[.bool],fun p=>ZXf p.1 p.2⟩)
theorem qsame_k:KQ Z8s:=Zl (ZB (C:=cf0 [ZOk] [] [] []) (.n (.f (.j [] [] [.s 4 (.dat .bool)] .no))) Tryz.func41 [] (fun v vals x z ha hz=>.trans (by kernel_rfl) (Zzw hz)) ⟨cmp_k,tr⟩)
noncomputable def Zxs:FuncId×Con:=(14,⟨[.slice (.pair (.leaf 3) (.pair (.leaf 3) (.pair (.leaf 3) (.leaf 3)))),.slice (.leaf 3),.pair (.pair (.leaf 3) (.slice (.pair (.leaf 3) (.leaf 3)))) (.pair (.leaf 3) (.slice (.pair (.leaf 3) (.leaf 3))))],[.bool],fun p=>Zsl p.1 p.2.1 p.2.2⟩)
theorem ZCy:KQ Zxs:=Zl (ZV (C:=cf0 [Zoh,ZCe,Zeg,ZKm,ZOo,Zwn,Z8s,ZJf,Zxm,Zdl,ZPc,Zun] [] [] []) (.n (.two (.f (.j [0,1,5] [] [.s 53 (.dat .bool)] .no)) (.two (.n (.f (.cut ⟨⟨[0,1,5,54,55],[],[.s 56 (.dat (.int .i64))]⟩,[(.exit 0,⟨[0,1,5],[],[]⟩),(.ret,⟨[],[],[.s 1000 (.dat .bool)]⟩)]⟩ .no))) (.n (.n (.two (.n (.f (.l [0,1,5,9,10,11,12,75,76] [] [.s 77 (.dat (.int .i64)),.l (.sl 9) (.box 38 (.dat (.leaf 3))),.l (.sl 10) (.box 38 (.dat (.leaf 3))),.l (.sl 11) (.box 38 (.dat (.leaf 3))),.l (.sl 12) (.own 38 (.leaf 3))] 2 [0,5,9,10,11,12] [] [.l (.sl 9) (.box 38 (.dat (.leaf 3))),.l (.sl 10) (.box 38 (.dat (.leaf 3))),.l (.sl 11) (.box 38 (.dat (.leaf 3))),.l (.sl 12) (.own 38 (.leaf 3))] (.f (.n (.n (.f (.f (.n (.n (.n (.n (.n (.n (.f (.l [0,1,5,9,10,11,12,14,15,16,75,76,77,118,119] [] [.s 120 (.dat (.int .i64)),.l (.sl 12) (.own 38 (.leaf 3))] 4 [0,1,5,9,10,11,12,75,76,77] [] [.l (.sl 12) (.own 38 (.leaf 3))] .no)))))))))))))))) (.two (.n (.f (.cut ⟨⟨[0,5,9,10,11,149,150],[],[.s 151 (.dat (.int .i64))]⟩,[(.exit 6,⟨[0,5,9,10,11],[],[]⟩),(.ret,⟨[],[],[.s 1000 (.dat .bool)]⟩)]⟩ .no))) (.f (.j [] [] [.s 6 (.dat .bool)] .no))))))))) Tryz.func14 [] (fun _=>by kernel_rfl) ⟨Z6i,ZOf,Z2h,ZWp,ZOr,Zot,qsame_k,Z8f,ZWr,ZNn,Znd,Zpu,tr⟩)
noncomputable def ZiA:FuncId×Con:=(3,⟨[.slice (.pair (.pair (.int .i64) (.int .i64)) (.pair (.pair (.int .i64) (.int .i64)) (.pair (.pair (.int .i64) (.int .i64)) (.pair (.int .i64) (.int .i64))))),.slice (.pair (.int .i64) (.int .i64))],[.bool],fun p=>Zxk p.1 p.2⟩)
theorem ZoB:KR ZiA:=ZV (C:=cf0 [ZSs,Z8r,ZIq,Zev,Zvu,ZUp,ZPv,ZIu,Zxs] [] [] []) (.n (.two (.f (.j [0,1] [] [.s 19 (.dat .bool)] .no)) (.n (.n (.n (.n (.two (.n (.j [5,6,7,8,9,10] [] [.s 11 (.dat (.int .i64))] .no)) (.two (.n (.f (.f (.j [] [] [.s 4 (.dat .bool)] .no)))) (.f (.j [] [] [.s 4 (.dat .bool)] .no)))))))))) Tryz.func3 [] (fun _=>by kernel_rfl) ⟨ZuA,ZGA,Z0y,ZPz,Zcz,ZSB,none4_k,Zrx,ZCy,tr⟩
theorem Zfw {w0:World} {v0:Zb} (hv:VIn v0 w0) {c0:List Value} {l:(List ((Int×Int)×(Int×Int)×(Int×Int)×(Int×Int)))} (p0:Rep.rel (ZD (ZH (ZH (Zd .i64) (Zd .i64)) (ZH (ZH (Zd .i64) (Zd .i64)) (ZH (ZH (Zd .i64) (Zd .i64)) (ZH (Zd .i64) (Zd .i64)))))) v0 c0 l) {c1:List Value} {tms:(List (Int×Int))} (p1:Rep.rel (ZD (ZH (Zd .i64) (Zd .i64))) v0 c1 tms) {z:Bool} (hm:Zxk l tms=some z):Ret Tryz.prog 3 #[(ZD (ZH (ZH (Zd .i64) (Zd .i64)) (ZH (ZH (Zd .i64) (Zd .i64)) (ZH (ZH (Zd .i64) (Zd .i64)) (ZH (Zd .i64) (Zd .i64)))))).val c0,(ZD (ZH (Zd .i64) (Zd .i64))).val c1] w0 v0 (fun y v'=>∃ r0,y=Zxb.val r0∧Zxb.rel v' r0 z):=(ZoB w0 v0 [(ZD (ZH (ZH (Zd .i64) (Zd .i64)) (ZH (ZH (Zd .i64) (Zd .i64)) (ZH (ZH (Zd .i64) (Zd .i64)) (ZH (Zd .i64) (Zd .i64)))))).val c0,(ZD (ZH (Zd .i64) (Zd .i64))).val c1] (l,tms) z hv ⟨c0,_,rfl,p0,c1,rfl,p1⟩ hm).2
end Go.Eng
