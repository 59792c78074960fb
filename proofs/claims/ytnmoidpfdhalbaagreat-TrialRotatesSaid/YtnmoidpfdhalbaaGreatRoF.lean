/- Lemmas towards the statement: the engine of the walks, the functions' models, laws and walks, part 6. Conditions: as each states. -/
import Derived.Shelf.Strings.Builder1
import Derived.Shelf.Strings.Repeat
import Derived.Test.YtnmoidpfdhalbaaGreatProg
import Derived.Test.YtnmoidpfdhalbaaGreatRoE
set_option linter.all false
set_option maxRecDepth 100000
namespace Go.Eng
open Go.Proofs Go.RowKit
theorem digit_w {x:World} {m:Zb} (hv:VIn m x) {a off0 e h:Nat} {A:TypeId} {pre0 cs0 post0:List Value} {u:(List Int)} (a0:x.heap[a]? = some (.cells (pre0++cs0++post0).toArray A (0,0))) (G:off0=pre0.length) (a1:m a=none) (k:e=u.length) (a2:e≤h∧h≤maxLen) (d:Rep.rels (Zd .u64) m cs0 u) {c1:List Value} {v:Nat} (g:Rep.rel Zu m c1 v) {z:Int×(List Int)} (H:ZNg u v=some z):RetL Tryz.prog 145 #[.slice (some ⟨a,off0,none⟩) e h,Zu.val c1] x m [a] (fun y v' w'=>(∃ r0,y=(Zd .u64).val r0∧(Zd .u64).rel v' r0 z.1)∧v' a=none∧∃ cs,w'.heap[a]? = some (.cells (pre0++cs++post0).toArray A (0,0))∧e=z.2.length∧Rep.rels (Zd .u64) v' cs z.2):=by
 obtain ⟨q1,o,p,rfl⟩:=Zba g;refine ZBo (K:=90) (args:=[.slice (some ⟨a,off0,none⟩) (e) h,.slice q1 o p]) hv a0 a1 Tryz.func145 rfl rfl zl fun f S=>?_;unfold ZNg at H;refine sr (mw S rfl fun f S=>oe (sr (mv S rfl fun f S=>ov S rfl (Z7 S (ZG g) rfl rfl Zz) fun f S=>mw S rfl fun f S=>oe (sr (mw S rfl fun f S=>oe (Zj fun _ a3=>Zj fun _ a4=>bO H fun aE V H=>?_))))));refine bO H fun ck a5 H=>bO H fun a6 aj H=>Zsd (fl:=#[true,true,true,true,true,true,true,true,true,true]) ZIe (by kernel_rfl) S ?_;intro ops O F w S;refine rfa O F 0 rfl rfl S (Zx S rfl) fun f S=>rfa O F 1 rfl rfl S (Zx S rfl) fun f S=>?_;have aF:=Zea d (Zg V).2.1;obtain ⟨cl,aG⟩:∃ c,(List.take (Zd .u64).n (List.drop (((((Zc 18446744073709551616 v)).length:Int)).toNat*(Zd .u64).n) cs0))=c:=⟨_,rfl⟩;rw [aG] at aF;obtain ⟨rfl,cm⟩:=aF;refine rfa O F 2 rfl rfl S (ZL S rfl rfl Zz (Zg V).1 (ltI k (Zg V).2.2.1)) fun f S=>rfa O F 3 rfl rfl S (Zca S rfl Z1 (ZXh S (j:=0) rfl G (Ztd d k) aG (ltN k (Zg V).2.2.2) 0 [.int .u64 aE] rfl zl)) fun f S=>rfa O F 4 rfl rfl S (Zx S rfl) fun f S=>rfa O F 5 rfl rfl S (Zx S rfl) fun f S=>rfa O F 6 rfl rfl S (Ze S rfl rfl (Zpa a5)) fun f S=>?_;obtain ⟨_,r,s,cn,rfl,a7,a8⟩:=ZRa g (Zg aj).2.1
 obtain ⟨rfl,co⟩:=a8;refine rfa O F 7 rfl rfl S (ZL S rfl rfl Zz (Zg aj).1 (ltI (ZG g) (Zg aj).2.2.1)) fun f S=>rfa O F 8 rfl rfl S (Zca S rfl Z1 (S.view a7)) fun f S=>rfa O F 9 rfl rfl S (Ze S rfl rfl ZRb) fun f S=>Zte O F (Zf (a4 _ _ ?_));obtain ⟨a9,ba,bb⟩:=ZE H;refine Zma (fun f w=>∃ W I,W=a9∧Zb.le m I∧St 90 ⟨x,[a]⟩ m [(0,.slice (some ⟨a,off0,none⟩) (e) h),(1,.slice (some ⟨r,s,none⟩) o p),(6,.int .u64 W)] [Loc.box a A (pre0++cs0++post0)] I f w∧inR .u64 W) (fun _ aH=>?_) ?_
 ·have H:=ba;rcases ZJ (decide (aE<a6)) with J | J
  ·have H:=ZI H J;refine ZM S rfl J (sr (mw S rfl fun f S=>oe (Zj fun _ bc=>bO H fun X Y H=>bO H fun bd be H=>bO H fun Z aa H=>bO H fun cp bf H=>bO H fun ak al H=>bO H fun aI bg H=>Zsd (fl:=#[true,true,true,true,true,true,true,true,true,true,true,true,true,true,false,true,true,true,false,false]) ZIe (by kernel_rfl) S ?_)));intro ops O F w S;refine rfa O F 0 rfl rfl S (Zx S rfl) fun f S=>rfa O F 1 rfl rfl S (Zx S rfl) fun f S=>?_;have aJ:=Zea d (Zg Y).2.1;obtain ⟨cq,aK⟩:∃ c,(List.take (Zd .u64).n (List.drop (((((Zc 18446744073709551616 v)).length:Int)).toNat*(Zd .u64).n) cs0))=c:=⟨_,rfl⟩;rw [aK] at aJ;obtain ⟨rfl,bh⟩:=aJ;refine rfa O F 2 rfl rfl S (ZL S rfl rfl Zz (Zg Y).1 (ltI k (Zg Y).2.2.1)) fun f S=>rfa O F 3 rfl rfl S (Zca S rfl Z1 (ZXh S (j:=0) rfl G (Ztd d k) aK (ltN k (Zg Y).2.2.2) 0 [.int .u64 X] rfl zl)) fun f S=>rfa O F 4 rfl rfl S (Zx S rfl) fun f S=>rfa O F 5 rfl rfl S (Zx S rfl) fun f S=>rfa O F 6 rfl rfl S (Ze S rfl rfl (Zpa be)) fun f S=>?_;have aL:=Zea d (Zg aa).2.1;obtain ⟨cr,aM⟩:∃ c,(List.take (Zd .u64).n (List.drop ((bd).toNat*(Zd .u64).n) cs0))=c:=⟨_,rfl⟩;rw [aM] at aL;obtain ⟨rfl,bi⟩:=aL;refine rfa O F 7 rfl rfl S (ZL S rfl rfl Zz (Zg aa).1 (ltI k (Zg aa).2.2.1)) fun f S=>rfa O F 8 rfl rfl S (Zca S rfl Z1 (ZXh S (j:=0) rfl G (Ztd d k) aM (ltN k (Zg aa).2.2.2) 0 [.int .u64 Z] rfl zl)) fun f S=>rfa O F 9 rfl rfl S (Zx S rfl) fun f S=>rfa O F 10 rfl rfl S (Zx S rfl) fun f S=>rfa O F 11 rfl rfl S (Ze S rfl rfl (Zpa bf)) fun f S=>?_
   obtain ⟨ct,am,bj⟩:=ZRf g (Zg al).2.1;obtain ⟨rfl,bk⟩:=bj;refine rfa O F 12 rfl rfl S (ZL S rfl rfl Zz (Zg al).1 (ltI (ZG g) (Zg al).2.2.1)) fun f S=>rfa O F 13 rfl rfl S (Zca S rfl Z1 (S.view am)) fun f S=>go1 O F 14 (nxc [3,8,13,2,7,12,0,1,4,6,9,11,5,10] [] O rfl S rfl (Z3 S [.int .u64 X,.int .u64 Z,.int .u64 ak] Zsp rfl rfl) (ZKn S.vin (show Rep.rel (Zd .u64) _ [.int .u64 X] X from (ZB bh)) (show Rep.rel (Zd .u64) _ [.int .u64 Z] Z from (ZB bi)) (show Rep.rel (Zd .u64) _ [.int .u64 ak] ak from (ZB bk)) bg) ?_);rintro _ aN f w ab ⟨cu,cv,rfl,bm,bn⟩ S;have d:=ZQ ab d;have am:=Atm ab am;obtain ⟨rfl,bo⟩:=bm;obtain ⟨rfl,bp⟩:=bn;refine ⟨ZYb,rfa O F 15 rfl rfl S (Zx S rfl) fun f S=>rfa O F 16 rfl rfl S (Zna S rfl rfl) fun f S=>rfa O F 17 rfl rfl S (Zna S rfl rfl) fun f S=>go1 O F 18 (nva [0,1,2,3,4,5,6,7,8,9,10,11,12,13,14,15,16] [17] O rfl rfl S (Z5c S rfl) fun f S=>⟨(py S rfl rfl (Zna S rfl rfl) ZYb),go1 O F 19 (nva [0,1,2,3,4,5,6,7,8,9,10,11,12,13,14,15,16,17,18] [] O rfl rfl S (Z5c S rfl) fun f S=>⟨ZYb,Zte O F ?_⟩)⟩)⟩;have S:=S.fr' (σ':=[(0,.slice (some ⟨a,off0,none⟩) (e) h),(1,.slice (some ⟨r,s,none⟩) o p),(5,.int .i64 ((((Zc 18446744073709551616 v)).length:Int))),(6,.int .u64 (aI.1)),(7,.int .u64 (aI.2))]) rfl
   refine Zf (bc _ _ ?_);obtain ⟨bq,br,bs⟩:=ZE H;refine Zma (fun f w=>∃ ac an,ac=bq∧Zb.le aN an∧St 90 ⟨x,[a]⟩ m [(0,.slice (some ⟨a,off0,none⟩) (e) h),(1,.slice (some ⟨r,s,none⟩) o p),(6,.int .u64 ac)] [Loc.box a A (pre0++cs0++post0)] an f w∧inR .u64 ac) (fun _ aO=>?_) ?_
   ·have H:=br;refine wp_block ?_;obtain ⟨cw,bt,aP⟩:=ZE H;refine Zeb bt (fun bu f w=>∃ q l ao,(q,l)=bu∧Zb.le aN ao∧St 90 ⟨x,[a]⟩ m [(0,.slice (some ⟨a,off0,none⟩) (e) h),(1,.slice (some ⟨r,s,none⟩) o p),(5,.int .i64 ((((Zc 18446744073709551616 v)).length:Int))),(6,.int .u64 q),(7,.int .u64 l)] [Loc.box a A (pre0++cs0++post0)] ao f w∧inR .u64 q∧inR .u64 l) ⟨_,_,_,rfl,(leR _),(S.fr' rfl),bo,bp⟩ ?_;rintro _ f w st ⟨q,l,ao,hq,L,S,aQ,cx⟩ H cy bv aR;subst hq;have d:=ZQ L d;refine wp_block (Zj fun _ bw=>bO H fun cz bx H=>bO H fun ap aq H=>bO H fun B bz H=>Zr (mv S rfl fun f S=>mv S rfl fun f S=>mv S rfl fun f S=>ov S rfl (Ze S rfl rfl (Zpa bx)) fun f S=>?_));have g:=Z6 (leT ab L) g;obtain ⟨cA,ar,bA⟩:=ZRf g (Zg aq).2.1;obtain ⟨rfl,bB⟩:=bA;refine ov S rfl (ZL S rfl rfl Zz (Zg aq).1 (ltI (ZG g) (Zg aq).2.2.1)) fun f S=>ov S rfl (Zca S rfl Z1 (S.view ar)) fun f S=>opc S rfl (Z3 S [.int .u64 q,.int .u64 ap] Z2l rfl rfl) (Z1m S.vin (show Rep.rel (Zd .u64) _ [.int .u64 q] q from (ZB aQ)) (show Rep.rel (Zd .u64) _ [.int .u64 ap] ap from (ZB bB)) bz) ?_;rintro _ bC f w E ⟨cB,cC,rfl,bD,bE⟩ S
    have d:=ZQ E d;have ar:=Atm E ar;obtain ⟨rfl,cD⟩:=bD;obtain ⟨rfl,cE⟩:=bE;refine mv S rfl fun f S=>ov S rfl (Zna S rfl rfl) fun f S=>ov S rfl (Zna S rfl rfl) fun f S=>mw S rfl fun f S=>mw S rfl fun f S=>Zn (Zf (bw _ _ (Zj fun _ bG=>Zj fun _ bH=>?_)));obtain ⟨bI,bJ,bK⟩:=ZE H;refine Zma (fun f w=>∃ ad au,ad=bI∧Zb.le bC au∧St 90 ⟨x,[a]⟩ m [(0,.slice (some ⟨a,off0,none⟩) (e) h),(1,.slice (some ⟨r,s,none⟩) o p),(5,.int .i64 ((((Zc 18446744073709551616 v)).length:Int))),(6,.int .u64 q),(7,.int .u64 l),(67,.bool ad)] [Loc.box a A (pre0++cs0++post0)] au f w) (fun _ av=>?_) ?_
    ·have H:=bJ;refine Zr (mv S rfl fun f S=>mv S rfl fun f S=>ov S rfl (Ze S rfl rfl ZRb) fun f S=>mv S rfl fun f S=>?_);rcases ZJ (decide (B.1<l)) with M | M
     ·have H:=ZI H M;have S:=S.bool (t:=54) rfl M;refine opn S rfl rfl rfl rfl fun f S=>opn S rfl rfl rfl rfl fun f S=>opn S rfl rfl rfl rfl fun f S=>opn S rfl rfl rfl rfl fun f S=>ZQe S (ZUd S rfl rfl rfl zl) rfl zl fun f S=>ZQe S (ZUd S rfl rfl rfl zl) rfl zl fun f S=>ZQe S (ZUd S rfl rfl rfl zl) rfl zl fun f S=>ZQe S (ZUd S rfl rfl rfl zl) rfl zl fun f S=>ZQe S (ZUd S rfl rfl rfl zl) rfl zl fun f S=>ZQe S (ZUd S rfl rfl rfl zl) rfl zl fun f S=>ZQe S (ZUd S rfl rfl rfl zl) rfl zl fun f S=>opn S rfl rfl rfl rfl fun f S=>ov S rfl (Zcb S (b:=true) rfl rfl) fun f S=>Zn ?_;have S:=S.fr' (σ':=[(0,.slice (some ⟨a,off0,none⟩) (e) h),(1,.slice (some ⟨r,s,none⟩) o p),(5,.int .i64 ((((Zc 18446744073709551616 v)).length:Int))),(6,.int .u64 q),(7,.int .u64 l),(55,undef),(56,undef),(57,undef),(58,undef),(59,undef),(60,undef),(61,undef),(62,undef),(63,undef),(64,undef),(65,undef),(66,undef),(67,.bool true)]) rfl;obtain rfl:=Zl H;refine Zf (av _ _ ⟨_,_,rfl,(leR _),(S.fr' rfl)⟩)
     have H:=ZH H M;have S:=S.bool (t:=54) rfl M;refine opy S rfl rfl rfl rfl (Zx S rfl) fun f S=>opy S rfl rfl rfl rfl (Zx S rfl) fun f S=>opy S rfl rfl rfl rfl (Ze S rfl rfl ZCd) fun f S=>opy S rfl rfl rfl rfl (Zx S rfl) fun f S=>?_;rcases ZJ (B.1==l) with C | C
     ·have H:=ZI H C;have S:=S.bool (t:=57) rfl C;have S:=S.bool (t:=58) rfl C;refine bO H fun aw bM H=>bO H fun N ae H=>opy S rfl rfl rfl rfl (Zx S rfl) fun f S=>opy S rfl rfl rfl rfl (Zx S rfl) fun f S=>opy S rfl rfl rfl rfl (Zx S rfl) fun f S=>opy S rfl rfl rfl rfl (Ze S rfl rfl (Zpa bM)) fun f S=>?_;have aS:=Zea d (Zg ae).2.1;obtain ⟨cF,aT⟩:∃ c,(List.take (Zd .u64).n (List.drop ((aw).toNat*(Zd .u64).n) cs0))=c:=⟨_,rfl⟩;rw [aT] at aS;obtain ⟨rfl,cG⟩:=aS;refine opy S rfl rfl rfl rfl (ZL S rfl rfl Zz (Zg ae).1 (ltI k (Zg ae).2.2.1)) fun f S=>opy S rfl rfl rfl rfl (Zca S rfl Z1 (ZXh S (j:=0) rfl G (Ztd d k) aT (ltN k (Zg ae).2.2.2) 0 [.int .u64 N] rfl zl)) fun f S=>opy S rfl rfl rfl rfl (Ze S rfl rfl Zfm) fun f S=>opy S rfl rfl rfl rfl (Zcb S (b:=true) rfl rfl) fun f S=>ov S rfl (Zcb S (b:=false) rfl rfl) fun f S=>Zn ?_;have S:=S.fr' (σ':=[(0,.slice (some ⟨a,off0,none⟩) (e) h),(1,.slice (some ⟨r,s,none⟩) o p),(5,.int .i64 ((((Zc 18446744073709551616 v)).length:Int))),(6,.int .u64 q),(7,.int .u64 l),(55,.int .u64 (B.1)),(56,.int .u64 l),(57,.bool true),(58,.bool true),(59,.int .u64 (B.2)),(60,.slice (some ⟨a,off0,none⟩) (e) h),(61,.int .i64 ((((Zc 18446744073709551616 v)).length:Int))),(62,.int .i64 aw),(63,.pointer (some ⟨a,off0+(aw).toNat*1,none⟩)),(64,.int .u64 N),(65,.bool (decide (B.2≤N))),(66,.bool (decide (B.2≤N))),(67,.bool (decide (B.2≤N)))]) rfl
      obtain rfl:=Zl H;refine Zf (av _ _ ⟨_,_,rfl,(leR _),(S.fr' rfl)⟩)
     have H:=ZH H C;have S:=S.bool (t:=57) rfl C;have S:=S.bool (t:=58) rfl C;refine opn S rfl rfl rfl rfl fun f S=>opn S rfl rfl rfl rfl fun f S=>opn S rfl rfl rfl rfl fun f S=>opn S rfl rfl rfl rfl fun f S=>opn S rfl rfl rfl rfl fun f S=>opn S rfl rfl rfl rfl fun f S=>opn S rfl rfl rfl rfl fun f S=>opy S rfl rfl rfl rfl (Zcb S (b:=false) rfl rfl) fun f S=>ov S rfl (Zcb S (b:=false) rfl rfl) fun f S=>Zn ?_;have S:=S.fr' (σ':=[(0,.slice (some ⟨a,off0,none⟩) (e) h),(1,.slice (some ⟨r,s,none⟩) o p),(5,.int .i64 ((((Zc 18446744073709551616 v)).length:Int))),(6,.int .u64 q),(7,.int .u64 l),(55,.int .u64 (B.1)),(56,.int .u64 l),(57,.bool false),(58,.bool false),(59,undef),(60,undef),(61,undef),(62,undef),(63,undef),(64,undef),(65,undef),(66,.bool false),(67,.bool false)]) rfl;obtain rfl:=Zl H;refine Zf (av _ _ ⟨_,_,rfl,(leR _),(S.fr' rfl)⟩)
    rintro f w ⟨ad,au,hq,P,S⟩;subst hq;have H:=bK;have d:=ZQ P d;refine Zf (bH _ _ ?_);rcases ZJ (ad) with Q | Q
    ·have H:=ZI H Q;refine ZM S rfl Q (wp_exit (ZV (Z6i rfl ?_)));obtain rfl:=Zl H;have hq:=aR _ rfl;subst hq;have H:=aP;refine ZV (ZVa ?_);obtain rfl:=Zl H;refine Zf (aO _ _ ⟨_,_,rfl,(leT (leT (leT (leR _) L) E) P),(S.fr' rfl),aQ⟩)
    have H:=ZH H Q;refine ZK S rfl Q (wp_skip (Zf (bG _ _ (sr (mv S rfl fun f S=>ov S rfl (Ze S rfl rfl Zqd) fun f S=>mw S rfl fun f S=>oe (sr (mw S rfl fun f S=>oe (Zj fun _ bP=>bO H fun cH bQ H=>bO H fun bR ax H=>?_))))))));refine bO H fun bS aU H=>Zr (mv S rfl fun f S=>mv S rfl fun f S=>mv S rfl fun f S=>ov S rfl (Ze S rfl rfl (Zpa bQ)) fun f S=>?_);have g:=Z6 (leT E P) g;obtain ⟨cI,bT,bU⟩:=ZRf g (Zg ax).2.1;obtain ⟨rfl,cJ⟩:=bU;refine ov S rfl (ZL S rfl rfl Zz (Zg ax).1 (ltI (ZG g) (Zg ax).2.2.1)) fun f S=>ov S rfl (Zca S rfl Z1 (S.view bT)) fun f S=>ov S rfl (Z6h S [.int .u64 l,.int .u64 bR,.int .u64 0] (ZBm Z5o aU) rfl rfl) fun f S=>mv S rfl fun f S=>ov S rfl (Zna S rfl rfl) fun f S=>ov S rfl (Zna S rfl rfl) fun f S=>mw S rfl fun f S=>mw S rfl fun f S=>Zn (Zf (bP _ _ (sr (mv S rfl fun f S=>ov S rfl (Ze S rfl rfl ZNc) fun f S=>oe ?_))));rcases ZJ (decide ((0:Int)<bS.2)) with R | R
    ·have H:=ZI H R;refine ZM S rfl R (wp_exit (Z6i rfl ?_));obtain rfl:=Zl H;have hq:=aR _ rfl;subst hq;have H:=aP;refine ZV (ZVa ?_);obtain rfl:=Zl H;refine Zf (aO _ _ ⟨_,_,rfl,(leT (leT (leT (leR _) L) E) P),(S.fr' rfl),(Zga _ _)⟩)
    have H:=ZH H R;refine ZK S rfl R (wp_skip (Z7a ?_));obtain rfl:=Zl H;refine bv _ rfl _ _ ⟨_,_,_,rfl,(leT (leT L E) P),(S.fr' rfl),(Zga _ _),(ZQk aU)⟩
   rintro f w ⟨ac,an,hq,aV,S,bV⟩;subst hq;have H:=bs;have d:=ZQ aV d;obtain rfl:=Zl H;refine Zf (aH _ _ ⟨_,_,rfl,(leT (leT (leR _) ab) aV),(S.fr' rfl),bV⟩)
  have H:=ZH H J;refine ZK S rfl J (wp_skip ?_);obtain rfl:=Zl H;refine Zf (aH _ _ ⟨_,_,rfl,(leR _),(S.fr' rfl),(by decide)⟩)
 rintro f w ⟨W,I,hq,aW,S,bW⟩;subst hq;have H:=bb;have d:=ZQ aW d;refine Zf (a3 _ _ (Zj fun _ bX=>?_));obtain ⟨bY,bZ,b1⟩:=ZE H;refine Zma (fun f w=>∃ af T ay ag,(af,T)=bY∧Zb.le I ag∧St 90 ⟨x,[a]⟩ m [(6,.int .u64 T)] [Loc.box a A (pre0++ay++post0)] ag f w∧Rep.rels (Zd .u64) ag ay af∧e=af.length∧inR .u64 T) (fun _ b2=>?_) ?_
 ·have H:=bZ;refine wp_block ?_;obtain ⟨cK,b3,b4⟩:=ZE H;refine Zeb b3 (fun b5 f w=>∃ ah D az ai,(ah,D)=b5∧Zb.le I ai∧St 90 ⟨x,[a]⟩ m [(0,.slice (some ⟨a,off0,none⟩) (e) h),(1,.slice (some ⟨r,s,none⟩) o p),(6,.int .u64 D)] [Loc.box a A (pre0++az++post0)] ai f w∧Rep.rels (Zd .u64) ai az ah∧e=ah.length∧inR .u64 D) ⟨_,_,cs0,_,rfl,(leR _),(S.fr' rfl),d,k,bW⟩ ?_;rintro _ f w st ⟨ah,D,az,ai,hq,aA,S,aB,b6,aX⟩ H cL b7 b8;subst hq;refine Zj fun _ b9=>Zj fun _ ca=>bO H fun cb cc H=>Zr (mv S rfl fun f S=>mv S rfl fun f S=>mv S rfl fun f S=>?_);have g:=Z6 (leT aW aA) g;refine Zkn S wn rfl zl (Z3 S [.slice (some ⟨a,off0,none⟩) (e) h,.slice (some ⟨r,s,none⟩) o p,.int .u64 D] k_en183 rfl rfl) (i:=0) rfl rfl (take_c S.vin (S.boxAt (j:=0) rfl).1 G (S.boxAt (j:=0) rfl).2 b6 a2 aB g (show Rep.rel (Zd .u64) _ [.int .u64 D] D from (ZB aX)) cc) ?_;rintro _ cM f w aC ⟨⟨cN,rfl,cd⟩,ce,aD,cg,aY,aZ⟩ hSf;have aB:=ZQ aC aB;have S:=hSf (Loc.box a A (pre0++aD++post0)) rfl cg ce;obtain rfl:=cd;refine ov S rfl (ZUn S rfl) fun f S=>Zn (Zf (ca _ _ ?_));rcases ZJ (!(cb.1)) with U | U
  ·have H:=ZI H U;refine ZM S rfl U (wp_skip (Zf (b9 _ _ (wp_block (Zr (mv S rfl fun f S=>ov S rfl (Ze S rfl rfl Zqd) fun f S=>mw S rfl fun f S=>Zn (Z7a ?_)))))));obtain rfl:=Zl H;refine b7 _ rfl _ _ ⟨_,_,aD,_,rfl,(leT aA aC),(S.fr' rfl),aZ,aY,(Zga _ _)⟩
  have H:=ZH H U;refine ZK S rfl U (wp_exit (ZV ?_));obtain rfl:=Zl H;have hq:=b8 _ rfl;subst hq;have H:=b4;refine ZV (ZVa ?_);obtain rfl:=Zl H;refine Zf (b2 _ _ ⟨_,_,aD,_,rfl,(leT (leT (leR _) aA) aC),(S.fr' rfl),aZ,aY,aX⟩)
 rintro f w ⟨af,T,ay,ag,hq,cO,S,ch,ci,cj⟩;subst hq;have H:=b1;refine Zf (bX _ _ (sr (mv S rfl fun f S=>mw S rfl fun f S=>oe (wp_ret ?_))));obtain rfl:=Zl H;refine Z8l S (ZCa rfl (ZO S rfl)) ⟨⟨[.int .u64 T],rfl,(ZB cj)⟩,(S.boxAt (j:=0) rfl).2,_,(S.boxAt (j:=0) rfl).1,ci,ch⟩
theorem digit_c {d:World} {b:Zb} (hv:VIn b d) {a off0 c e:Nat} {f:TypeId} {pre0 cs0 post0:List Value} {u:(List Int)} (j:d.heap[a]? = some (.cells (pre0++cs0++post0).toArray f (0,0))) (k:off0=pre0.length) (l:b a=none) (m:c=u.length) (n:c≤e∧e≤maxLen) (g:Rep.rels (Zd .u64) b cs0 u) {h:List Value} {v:Nat} (o:Rep.rel Zu b h v) {z:Int×(List Int)} (hm:Zvg u v=some z) :
  RetL Tryz.prog 145 #[Value.slice (some ⟨a,off0,none⟩) c e,Zu.val h] d b [a] (fun y v' w'=>(∃ i,y=(Zd .u64).val i∧(Zd .u64).rel v' i z.1)∧v' a=none∧∃ cs,w'.heap[a]? = some (.cells (pre0++cs++post0).toArray f (0,0))∧c=z.2.length∧Rep.rels (Zd .u64) v' cs z.2) :=
 digit_w hv j k l m n g o (Z3u (Zql g) hm)
theorem left_w {I:World} {o:Zb} (hv:VIn o I) {c0:List Value} {a:Nat} (h:Rep.rel Zu o c0 a) {c1:List Value} {n:Int} (p1:Rep.rel (Zd .i64) o c1 n) {z:Nat} (H:Zdg a n=some z):Ret Tryz.prog 144 #[Zu.val c0,(Zd .i64).val c1] I o (fun y v'=>∃ r0,y=Zu.val r0∧Zu.rel v' r0 z):=by
 obtain ⟨W,J,L,rfl⟩:=Zba h;obtain ⟨rfl,r4⟩:=p1;refine Zwb (K:=58) (args:=[.slice W J L,.int .i64 n]) hv Tryz.func144 rfl rfl zl fun f S=>?_;unfold Zdg at H;refine sr (mw S rfl fun f S=>oe (Zj fun _ av=>Zj fun _ aw=>?_));obtain ⟨ax,ay,az⟩:=ZE H;refine Zma (fun f w=>∃ X v,X=ax∧Zb.le o v∧St 58 I o [(0,.slice W J L),(1,.int .i64 n),(14,.bool X)] [] v f w) (fun _ ag=>?_) ?_
 ·have H:=ay;refine Zr (mv S rfl fun f S=>ov S rfl (Z7 S (ZG h) rfl rfl Zz) fun f S=>ov S rfl (Ze S rfl rfl ZCd) fun f S=>mv S rfl fun f S=>?_);rcases ZJ (((((Zc 18446744073709551616 a)).length:Int))==(0:Int)) with M | M
  ·have H:=ZI H M;have S:=S.bool (t:=11) rfl M;refine opn S rfl rfl rfl rfl fun f S=>opn S rfl rfl rfl rfl fun f S=>ov S rfl (Zcb S (b:=true) rfl rfl) fun f S=>Zn ?_;obtain rfl:=Zl H;refine Zf (ag _ _ ⟨_,_,rfl,(leR _),(S.fr' rfl)⟩)
  have H:=ZH H M;have S:=S.bool (t:=11) rfl M;refine opy S rfl rfl rfl rfl (Zx S rfl) fun f S=>opy S rfl rfl rfl rfl (Ze S rfl rfl ZCd) fun f S=>ov S rfl (Zcb S (b:=false) rfl rfl) fun f S=>Zn ?_;obtain rfl:=Zl H;refine Zf (ag _ _ ⟨_,_,rfl,(leR _),(S.fr' rfl)⟩)
 rintro f w ⟨X,v,hq,ah,S⟩;subst hq;have H:=az;refine Zf (aw _ _ ?_);rcases ZJ (X) with N | N
 ·have H:=ZI H N;refine ZM S rfl N (sr (mv S rfl fun f S=>mw S rfl fun f S=>oe (wp_ret (ZJa ?_))));obtain rfl:=Zl H;have h:=Z6 ah h;refine Zwa S (ZCa rfl (ZO S rfl)) ⟨[.slice W J L],rfl,h⟩
 have H:=ZH H N;refine ZK S rfl N (wp_skip (Zf (av _ _ (Zj fun _ aA=>bO H fun bo aB H=>bO H fun bp aC H=>bO H fun B aD H=>bO H fun bq Y H=>Zr (mv S rfl fun f S=>?_)))));have h:=Z6 ah h;refine ov S rfl (Z7 S (ZG h) rfl rfl Zz) fun f S=>mv S rfl fun f S=>ov S rfl (Ze S rfl rfl (ZWb aB)) fun f S=>ov S rfl (Ze S rfl rfl (ZFa aC)) fun f S=>ov S rfl (Ze S rfl rfl (ZFa aD)) fun f S=>?_;obtain ⟨ai,aj⟩:∃ c:List Value,c=(List.replicate (B).toNat [.int .u64 0]).flatten:=⟨_,rfl⟩;obtain ⟨aE,w,aF,S⟩:=ZZh Z0d S (l:=B) (c:=B) (ZDa Y).1 (ZDa Y).2.1 (ZDa Y).2.2.1 (ZDa Y).2.2.2 aj;have aG:Rep.rels (Zd .u64) v ai (List.replicate (B).toNat (0:Int)):=by rw [aj];exact Z7d (show Rep.rel (Zd .u64) _ [.int .u64 0] _ from (ZB (by decide))) _
 refine Zkb wn rfl zl (aF rfl rfl) S fun f S=>mw S rfl fun f S=>Zn (Zf (aA _ _ (Zj fun _ aH=>sr (mv S rfl fun f S=>ov S rfl (Z7 S (ZG h) rfl rfl Zz) fun f S=>mv S rfl fun f S=>oe ?_))));obtain ⟨aI,aJ,aK⟩:=ZE H;refine Zma (fun f w=>∃ C P D Q ac Z,C=aI∧Zb.le v Z∧St 58 I o [(5,.slice (mkA P) D Q)] [Loc.own P 155 1 D Q ac] Z f w∧Rep.rels (Zd .u64) Z ac C∧D=C.length) (fun _ aL=>?_) ?_
 ·have H:=aJ;refine wp_block ?_;obtain ⟨br,aM,aN⟩:=ZE H;refine Zeb aM (fun aO f w=>∃ p E aa m G e q,(p,E)=aO∧Zb.le v q∧St 58 I o [(1,.int .i64 n),(5,.slice (mkA aa) m G),(23,.slice W J L),(24,.int .i64 ((((Zc 18446744073709551616 a)).length:Int))),(25,.int .i64 E)] [Loc.own aa 155 1 m G e] q f w∧Rep.rels (Zd .u64) q e p∧m=p.length∧inR .i64 E) ⟨_,_,some aE,(B).toNat,(B).toNat,ai,_,rfl,(leR _),(S.fr' rfl),aG,(repN (x:=(0:Int))),(by decide)⟩ ?_;rintro _ f w st ⟨p,E,aa,m,G,e,q,hq,ad,S,ab,s,bs⟩ H bt aP aQ;subst hq;refine sr (ov S rfl (Ze S rfl rfl ZRb) fun f S=>oe (Zj fun _ aR=>?_));rcases ZJ (decide (E<(((Zc 18446744073709551616 a)).length:Int))) with R | R
  ·have H:=ZI H R;refine ZM S rfl R (wp_skip (Zf (aR _ _ (Zj fun _ aS=>wp_block (Zj fun _ aT=>bO H fun bu ae H=>Zr (mv S rfl fun f S=>?_))))));have h:=Z6 ad h;obtain ⟨_,aU,aV,bv,rfl,aW,aX⟩:=ZRa h (Zg ae).2.1;obtain ⟨rfl,aY⟩:=aX;refine ov S rfl (ZL S rfl rfl Zz (Zg ae).1 (ltI (ZG h) (Zg ae).2.2.1)) fun f S=>ov S rfl (Zca S rfl Z1 (S.view aW)) fun f S=>mw S rfl fun f S=>mw S rfl fun f S=>Zn (Zf (aT _ _ (Zj fun _ aZ=>bO H fun bw a0 H=>bO H fun d a1 H=>bO H fun g T H=>bO H fun bx a2 H=>bO H fun k a3 H=>bO H fun bz U H=>Zsd (fl:=#[true,true,true,true,true,true,true,true,true,true,true,true,true,false]) ZIe (by kernel_rfl) S ?_)));intro ops O F w S;refine rfa O F 0 rfl rfl S (Zx S rfl) fun f S=>rfa O F 1 rfl rfl S (Zx S rfl) fun f S=>rfa O F 2 rfl rfl S (Zx S rfl) fun f S=>rfa O F 3 rfl rfl S (Ze S rfl rfl (ZWb a0)) fun f S=>rfa O F 4 rfl rfl S (Ze S rfl rfl (ZFa a1)) fun f S=>?_;obtain ⟨ak,rfl⟩:=ZGc S (j:=0) rfl (posN s (Zg T).2.2.2);have al:=Zea ab (Zg T).2.1;obtain ⟨bA,am⟩:∃ c,(List.take (Zd .u64).n (List.drop ((d).toNat*(Zd .u64).n) e))=c:=⟨_,rfl⟩;rw [am] at al;obtain ⟨rfl,bB⟩:=al;refine rfa O F 5 rfl rfl S (ZL S rfl rfl Zz (Zg T).1 (ltI s (Zg T).2.2.1)) fun f S=>rfa O F 6 rfl rfl S (Zca S rfl Z1 (ZCc S (j:=0) rfl am (ltN s (Zg T).2.2.2) 0 [.int .u64 g] rfl zl)) fun f S=>rfa O F 7 rfl rfl S (Zx S rfl) fun f S=>rfa O F 8 rfl rfl S (Zx S rfl) fun f S=>rfa O F 9 rfl rfl S (Ze S rfl rfl (ZCe a2)) fun f S=>rfa O F 10 rfl rfl S (Ze S rfl rfl (ZIf a3)) fun f S=>rfa O F 11 rfl rfl S (Ze S rfl rfl Zgj) fun f S=>?_
   have an:=Zea ab (Zg U).2.1;obtain ⟨bC,a4⟩:∃ c,(List.take (Zd .u64).n (List.drop ((d).toNat*(Zd .u64).n) e))=c:=⟨_,rfl⟩;rw [a4] at an;obtain ⟨rfl,bD⟩:=an;refine rfa O F 12 rfl rfl S (ZL S rfl rfl Zz (Zg U).1 (ltI s (Zg U).2.2.1)) fun f S=>go1 O F 13 ?_;obtain ⟨w,a5,S⟩:=Zrb S Z1 (off:=0+(d).toNat*1) (z:=.int .u64 (orI .u64 g k)) (cs:=[.int .u64 (orI .u64 g k)]) (Zib rfl) rfl (i:=0) rfl (Zid S (j:=0) rfl (ltN s (Zg U).2.2.2)) (by first | rfl | simp [plain]);have ao:Rep.rels (Zd .u64) q (List.take (0+(d).toNat*1) e++[Value.int IntKind.u64 (orI .u64 g k)]++List.drop (0+(d).toNat*1+1) e) (p.set (d).toNat (orI .u64 g k)):=Zzc ab (Zg U).2.2.2 (show Rep.rel (Zd .u64) q [.int .u64 (orI .u64 g k)] _ from (ZB (Zga _ _))) rfl rfl;have af:m=(p.set (d).toNat (orI .u64 g k)).length:=Zkd s;refine nxs [0,1,2,3,4,5,6,7,8,9,10,11,12] [] O rfl rfl (a5 rfl rfl) (⟨ZYb,Zte O F (Zf (aZ _ _ (bO H fun bE a6 H=>bO H fun bG a7 H=>bO H fun r a8 H=>bO H fun bH a9 H=>bO H fun bI ba H=>bO H fun u ap H=>bO H fun bJ V H=>Zr (mv S rfl fun f S=>mv S rfl fun f S=>?_))))⟩);refine mv S rfl fun f S=>ov S rfl (Ze S rfl rfl (ZWb a6)) fun f S=>ov S rfl (Ze S rfl rfl (ZFa a7)) fun f S=>ov S rfl (Ze S rfl rfl (ZFa a8)) fun f S=>mv S rfl fun f S=>mv S rfl fun f S=>ov S rfl (Ze S rfl rfl (ZCe a9)) fun f S=>ov S rfl (Ze S rfl rfl (Zpa ba)) fun f S=>ov S rfl (Ze S rfl rfl (Zsb ap)) fun f S=>?_
   have aq:=Zea ao (Zg V).2.1;obtain ⟨bK,bb⟩:∃ c,(List.take (Zd .u64).n (List.drop ((r).toNat*(Zd .u64).n) (List.take (0+(d).toNat*1) e++[Value.int IntKind.u64 (orI .u64 g k)]++List.drop (0+(d).toNat*1+1) e)))=c:=⟨_,rfl⟩;rw [bb] at aq;obtain ⟨rfl,bM⟩:=aq;refine ov S rfl (ZL S rfl rfl Zz (Zg V).1 (ltI af (Zg V).2.2.1)) fun f S=>?_;obtain ⟨w,bc,S⟩:=Zrb S Z1 (off:=0+(r).toNat*1) (z:=.int .u64 u) (cs:=[.int .u64 u]) (Zib rfl) rfl (i:=0) rfl (Zid S (j:=0) rfl (ltN af (Zg V).2.2.2)) (by first | rfl | simp [plain]);have bd:Rep.rels (Zd .u64) q (List.take (0+(r).toNat*1) ((List.take (0+(d).toNat*1) e++[Value.int IntKind.u64 (orI .u64 g k)]++List.drop (0+(d).toNat*1+1) e))++[Value.int IntKind.u64 (u)]++List.drop (0+(r).toNat*1+1) ((List.take (0+(d).toNat*1) e++[Value.int IntKind.u64 (orI .u64 g k)]++List.drop (0+(d).toNat*1+1) e))) (((p.set (d).toNat (orI .u64 g k))).set (r).toNat u):=Zzc ao (Zg V).2.2.2 (show Rep.rel (Zd .u64) q [.int .u64 u] _ from (ZB (Z2e aY ap))) rfl rfl;have be:m=(((p.set (d).toNat (orI .u64 g k))).set (r).toNat u).length:=Zkd af;refine ZAf wn rfl (bc rfl rfl) (Zn ?_);have S:=S.fr' (σ':=[(1,.int .i64 n),(5,.slice (mkA (some ak)) (m) G),(23,.slice (some ⟨aU,aV,none⟩) J L),(24,.int .i64 ((((Zc 18446744073709551616 a)).length:Int))),(25,.int .i64 E)]) rfl
   refine Z7a (Zf (aS _ _ (bO H fun bP ar H=>Zr (ov S rfl (Ze S rfl rfl (ZFa ar)) fun f S=>mv S rfl fun f S=>Zn ?_))));obtain rfl:=Zl H;refine aP _ rfl _ _ ⟨_,_,some ak,m,G,(List.take (0+(r).toNat*1) ((List.take (0+(d).toNat*1) e++[Value.int IntKind.u64 (orI .u64 g k)]++List.drop (0+(d).toNat*1+1) e))++[Value.int IntKind.u64 (u)]++List.drop (0+(r).toNat*1+1) ((List.take (0+(d).toNat*1) e++[Value.int IntKind.u64 (orI .u64 g k)]++List.drop (0+(d).toNat*1+1) e))),_,rfl,ad,(S.fr' rfl),bd,be,(Zka ar).2⟩
  have H:=ZH H R;refine ZK S rfl R (wp_exit (ZV ?_));obtain rfl:=Zl H;have hq:=aQ _ rfl;subst hq;have H:=aN;refine ZV (ZVa ?_);obtain rfl:=Zl H;refine Zf (aL _ _ ⟨_,aa,m,G,e,_,rfl,(leT (leR _) ad),(S.fr' rfl),ab,s⟩)
 rintro f w ⟨C,P,D,Q,ac,Z,hq,bQ,S,bf,bg⟩;subst hq;have H:=aK;refine Zf (aH _ _ (Zj fun _ bh=>bO H fun bR bi H=>Zr (mv S rfl fun f S=>?_)));obtain ⟨bS,bT,S,bj⟩:=S.pubSlice (i:=0) (A:=(Zd .u64)) (l:=C) (ℓ':=[]) rfl rfl bg bf rfl;refine opc S rfl (Z3 S [.slice (mkA P) D Q] ZRe rfl rfl) (ZJe S.vin (show Rep.rel (ZA (Zd .u64)) _ [.slice (mkA P) D Q] C from bj) bi) ?_;rintro _ bU f w bV ⟨bW,rfl,au⟩ S;obtain ⟨bk,bm,bn,rfl⟩:=Zba au;refine mw S rfl fun f S=>Zn (Zf (bh _ _ (wp_ret ?_)));obtain rfl:=Zl H;refine Zwa S (ZCa rfl (ZO S rfl)) ⟨[.slice bk bm bn],rfl,au⟩
theorem Z0o {c:World} {b:Zb} (hv:VIn b c) {d:List Value} {a:Nat} (g:Rep.rel Zu b d a) {e:List Value} {n:Int} (h:Rep.rel (Zd .i64) b e n) {z:Nat} (hm:Zlb a n=some z) :
  Ret Tryz.prog 144 #[Zu.val d,(Zd .i64).val e] c b (fun y v'=>∃ f,y=Zu.val f∧Zu.rel v' f z) :=
 left_w hv g h (Zvp hm)
theorem right_w {C:World} {g:Zb} (hv:VIn g C) {c0:List Value} {a:Nat} (h:Rep.rel Zu g c0 a) {c1:List Value} {n:Int} (p1:Rep.rel (Zd .i64) g c1 n) {z:Nat} (H:ZAh a n=some z):Ret Tryz.prog 146 #[Zu.val c0,(Zd .i64).val c1] C g (fun y v'=>∃ r0,y=Zu.val r0∧Zu.rel v' r0 z):=by
 obtain ⟨q1,P,Q,rfl⟩:=Zba h;obtain ⟨rfl,r4⟩:=p1;refine Zwb (K:=65) (args:=[.slice q1 P Q,.int .i64 n]) hv Tryz.func146 rfl rfl zl fun f S=>?_;unfold ZAh at H;refine sr (mw S rfl fun f S=>oe (Zj fun _ ax=>Zj fun _ ay=>bO H fun az aA H=>Zr (mv S rfl fun f S=>ov S rfl (Ze S rfl rfl (ZWb aA)) fun f S=>mv S rfl fun f S=>ov S rfl (Z7 S (ZG h) rfl rfl Zz) fun f S=>ov S rfl (Ze S rfl rfl Z0b) fun f S=>Zn (Zf (ay _ _ ?_)))));rcases ZJ (decide ((((Zc 18446744073709551616 a)).length:Int)≤az)) with D | D
 ·have H:=ZI H D;refine ZM S rfl D (sr (mw S rfl fun f S=>oe (wp_ret (ZJa ?_))));obtain rfl:=Zl H;refine Zwa S (ZCa rfl (ZO S rfl)) ⟨[.slice none 0 0],rfl,(ZOf _)⟩
 have H:=ZH H D;refine ZK S rfl D (wp_skip (Zf (ax _ _ (Zj fun _ aB=>bO H fun bx aC H=>bO H fun k aD H=>bO H fun bz R H=>Zr (mv S rfl fun f S=>ov S rfl (Z7 S (ZG h) rfl rfl Zz) fun f S=>mv S rfl fun f S=>ov S rfl (Ze S rfl rfl (ZWb aC)) fun f S=>ov S rfl (Ze S rfl rfl (Zpa aD)) fun f S=>?_)))));obtain ⟨ai,aj⟩:∃ c:List Value,c=(List.replicate (k).toNat [.int .u64 0]).flatten:=⟨_,rfl⟩;obtain ⟨aE,w,aF,S⟩:=ZZh Z0d S (l:=k) (c:=k) (ZDa R).1 (ZDa R).2.1 (ZDa R).2.2.1 (ZDa R).2.2.2 aj;have aG:Rep.rels (Zd .u64) g ai (List.replicate (k).toNat (0:Int)):=by rw [aj];exact Z7d (show Rep.rel (Zd .u64) _ [.int .u64 0] _ from (ZB (by decide))) _
 refine Zkb wn rfl zl (aF rfl rfl) S fun f S=>mw S rfl fun f S=>Zn (Zf (aB _ _ (Zj fun _ aH=>sr (mv S rfl fun f S=>ov S rfl (Z7 S (repN (x:=(0:Int))) rfl rfl Zz) fun f S=>mv S rfl fun f S=>oe ?_))));obtain ⟨aI,aJ,aK⟩:=ZE H;refine Zma (fun f w=>∃ t E u G ac T,t=aI∧Zb.le g T∧St 65 C g [(5,.slice (mkA E) u G)] [Loc.own E 155 1 u G ac] T f w∧Rep.rels (Zd .u64) T ac t∧u=t.length) (fun _ aL=>?_) ?_
 ·have H:=aJ;refine wp_block ?_;obtain ⟨bA,aM,aN⟩:=ZE H;refine Zeb aM (fun aO f w=>∃ p b U m r d o,(p,b)=aO∧Zb.le g o∧St 65 C g [(0,.slice q1 P Q),(1,.int .i64 n),(5,.slice (mkA U) m r),(19,.int .i64 ((((List.replicate (k).toNat (0:Int))).length:Int))),(20,.int .i64 b)] [Loc.own U 155 1 m r d] o f w∧Rep.rels (Zd .u64) o d p∧m=p.length∧inR .i64 b) ⟨_,_,some aE,(k).toNat,(k).toNat,ai,_,rfl,(leR _),(S.fr' rfl),aG,(repN (x:=(0:Int))),(by decide)⟩ ?_;rintro _ f w st ⟨p,b,U,m,r,d,o,hq,ad,S,ae,I,bB⟩ H bC aP aQ;subst hq;refine sr (ov S rfl (Ze S rfl rfl ZRb) fun f S=>oe (Zj fun _ aR=>?_));rcases ZJ (decide (b<(((List.replicate (k).toNat (0:Int))).length:Int))) with J | J
  ·have H:=ZI H J;refine ZM S rfl J (wp_skip (Zf (aR _ _ (Zj fun _ aS=>wp_block (sr (mv S rfl fun f S=>mw S rfl fun f S=>oe (Zj fun _ aT=>bO H fun bD aU H=>bO H fun bE aV H=>bO H fun bG af H=>bO H fun bH aW H=>?_)))))));refine bO H fun e ak H=>bO H fun bI v H=>Zr (mv S rfl fun f S=>mv S rfl fun f S=>mv S rfl fun f S=>mv S rfl fun f S=>mv S rfl fun f S=>ov S rfl (Ze S rfl rfl (ZWb aU)) fun f S=>ov S rfl (Ze S rfl rfl (ZFa aV)) fun f S=>?_);have h:=Z6 ad h;obtain ⟨_,al,am,bJ,rfl,aX,aY⟩:=ZRa h (Zg af).2.1;obtain ⟨rfl,aZ⟩:=aY;refine ov S rfl (ZL S rfl rfl Zz (Zg af).1 (ltI (ZG h) (Zg af).2.2.1)) fun f S=>ov S rfl (Zca S rfl Z1 (S.view aX)) fun f S=>mv S rfl fun f S=>ov S rfl (Ze S rfl rfl (ZCe aW)) fun f S=>ov S rfl (Ze S rfl rfl (Zsb ak)) fun f S=>?_;obtain ⟨ag,rfl⟩:=ZGc S (j:=0) rfl (posN I (Zg v).2.2.2);have an:=Zea ae (Zg v).2.1;obtain ⟨bK,a0⟩:∃ c,(List.take (Zd .u64).n (List.drop ((b).toNat*(Zd .u64).n) d))=c:=⟨_,rfl⟩;rw [a0] at an;obtain ⟨rfl,bM⟩:=an;refine ov S rfl (ZL S rfl rfl Zz (Zg v).1 (ltI I (Zg v).2.2.1)) fun f S=>?_;obtain ⟨w,a1,S⟩:=Zrb S Z1 (off:=0+(b).toNat*1) (z:=.int .u64 e) (cs:=[.int .u64 e]) (Zib rfl) rfl (i:=0) rfl (Zid S (j:=0) rfl (ltN I (Zg v).2.2.2)) (by first | rfl | simp [plain])
   have V:Rep.rels (Zd .u64) o (List.take (0+(b).toNat*1) d++[Value.int IntKind.u64 (e)]++List.drop (0+(b).toNat*1+1) d) (p.set (b).toNat e):=Zzc ae (Zg v).2.2.2 (show Rep.rel (Zd .u64) o [.int .u64 e] _ from (ZB (Z2e aZ ak))) rfl rfl;have B:m=(p.set (b).toNat e).length:=Zkd I;refine ZAf wn rfl (a1 rfl rfl) (Zn (Zf (aT _ _ (Zj fun _ a2=>bO H fun bP a3 H=>bO H fun bQ a4 H=>bO H fun ao a5 H=>Zr (mv S rfl fun f S=>mv S rfl fun f S=>ov S rfl (Ze S rfl rfl (ZWb a3)) fun f S=>ov S rfl (Ze S rfl rfl (ZFa a4)) fun f S=>ov S rfl (Ze S rfl rfl (ZFa a5)) fun f S=>mv S rfl fun f S=>?_)))));refine ov S rfl (Z7 S (ZG h) rfl rfl Zz) fun f S=>ov S rfl (Ze S rfl rfl ZRb) fun f S=>Zn ?_;have S:=S.fr' (σ':=[(0,.slice (some ⟨al,am,none⟩) P Q),(1,.int .i64 n),(5,.slice (mkA (some ag)) (m) r),(6,.int .i64 b),(19,.int .i64 ((((List.replicate (k).toNat (0:Int))).length:Int))),(20,.int .i64 b),(43,.bool (decide (ao<(((Zc 18446744073709551616 a)).length:Int))))]) rfl;refine Zf (a2 _ _ ?_);obtain ⟨a6,a7,a8⟩:=ZE H;refine Zma (fun f w=>∃ W X L Y Z aa,W=a6∧Zb.le o aa∧St 65 C g [(0,.slice (some ⟨al,am,none⟩) P Q),(1,.int .i64 n),(5,.slice (mkA X) L Y),(19,.int .i64 ((((List.replicate (k).toNat (0:Int))).length:Int))),(20,.int .i64 b)] [Loc.own X 155 1 L Y Z] aa f w∧Rep.rels (Zd .u64) aa Z W∧L=W.length) (fun _ ap=>?_) ?_
   ·have H:=a7;rcases ZJ (decide (ao<(((Zc 18446744073709551616 a)).length:Int))) with M | M
    ·have H:=ZI H M;refine ZM S rfl M (bO H fun q ab H=>bO H fun bR a9 H=>bO H fun bS ba H=>bO H fun bT bb H=>bO H fun bU ah H=>bO H fun bV bc H=>bO H fun bW bd H=>bO H fun s be H=>bO H fun bX N H=>Zsd (fl:=#[true,true,true,true,true,true,true,true,true,true,true,true,true,true,true,true,true,true,false]) ZIe (by kernel_rfl) S ?_);intro ops O F w S;refine rfa O F 0 rfl rfl S (Zx S rfl) fun f S=>rfa O F 1 rfl rfl S (Zx S rfl) fun f S=>?_;have aq:=Zea V (Zg ab).2.1;obtain ⟨bY,ar⟩:∃ c,(List.take (Zd .u64).n (List.drop ((b).toNat*(Zd .u64).n) (List.take (0+(b).toNat*1) d++[Value.int IntKind.u64 (e)]++List.drop (0+(b).toNat*1+1) d)))=c:=⟨_,rfl⟩;rw [ar] at aq;obtain ⟨rfl,bZ⟩:=aq;refine rfa O F 2 rfl rfl S (ZL S rfl rfl Zz (Zg ab).1 (ltI B (Zg ab).2.2.1)) fun f S=>rfa O F 3 rfl rfl S (Zca S rfl Z1 (ZCc S (j:=0) rfl ar (ltN B (Zg ab).2.2.2) 0 [.int .u64 q] rfl zl)) fun f S=>rfa O F 4 rfl rfl S (Zx S rfl) fun f S=>rfa O F 5 rfl rfl S (Zx S rfl) fun f S=>rfa O F 6 rfl rfl S (Zx S rfl) fun f S=>rfa O F 7 rfl rfl S (Ze S rfl rfl (ZWb a9)) fun f S=>rfa O F 8 rfl rfl S (Ze S rfl rfl (ZFa ba)) fun f S=>rfa O F 9 rfl rfl S (Ze S rfl rfl (ZFa bb)) fun f S=>?_
     obtain ⟨b0,bf,bg⟩:=ZRf h (Zg ah).2.1;obtain ⟨rfl,b1⟩:=bg;refine rfa O F 10 rfl rfl S (ZL S rfl rfl Zz (Zg ah).1 (ltI (ZG h) (Zg ah).2.2.1)) fun f S=>rfa O F 11 rfl rfl S (Zca S rfl Z1 (S.view bf)) fun f S=>rfa O F 12 rfl rfl S (Zx S rfl) fun f S=>rfa O F 13 rfl rfl S (Ze S rfl rfl (ZCe bc)) fun f S=>rfa O F 14 rfl rfl S (Ze S rfl rfl (Zpa bd)) fun f S=>rfa O F 15 rfl rfl S (Ze S rfl rfl (ZIf be)) fun f S=>rfa O F 16 rfl rfl S (Ze S rfl rfl Zgj) fun f S=>?_;have au:=Zea V (Zg N).2.1;obtain ⟨b2,bh⟩:∃ c,(List.take (Zd .u64).n (List.drop ((b).toNat*(Zd .u64).n) (List.take (0+(b).toNat*1) d++[Value.int IntKind.u64 (e)]++List.drop (0+(b).toNat*1+1) d)))=c:=⟨_,rfl⟩;rw [bh] at au;obtain ⟨rfl,b3⟩:=au;refine rfa O F 17 rfl rfl S (ZL S rfl rfl Zz (Zg N).1 (ltI B (Zg N).2.2.1)) fun f S=>go1 O F 18 ?_;obtain ⟨w,bi,S⟩:=Zrb S Z1 (off:=0+(b).toNat*1) (z:=.int .u64 (orI .u64 q s)) (cs:=[.int .u64 (orI .u64 q s)]) (Zib rfl) rfl (i:=0) rfl (Zid S (j:=0) rfl (ltN B (Zg N).2.2.2)) (by first | rfl | simp [plain]);have bj:Rep.rels (Zd .u64) o (List.take (0+(b).toNat*1) ((List.take (0+(b).toNat*1) d++[Value.int IntKind.u64 (e)]++List.drop (0+(b).toNat*1+1) d))++[Value.int IntKind.u64 (orI .u64 q s)]++List.drop (0+(b).toNat*1+1) ((List.take (0+(b).toNat*1) d++[Value.int IntKind.u64 (e)]++List.drop (0+(b).toNat*1+1) d))) (((p.set (b).toNat e)).set (b).toNat (orI .u64 q s)):=Zzc V (Zg N).2.2.2 (show Rep.rel (Zd .u64) o [.int .u64 (orI .u64 q s)] _ from (ZB (Zga _ _))) rfl rfl
     have bk:m=(((p.set (b).toNat e)).set (b).toNat (orI .u64 q s)).length:=Zkd B;refine nxs [0,1,2,3,4,5,6,7,8,9,10,11,12,13,14,15,16,17] [] O rfl rfl (bi rfl rfl) (⟨ZYb,Zte O F ?_⟩);obtain rfl:=Zl H;refine Zf (ap _ _ ⟨_,some ag,m,r,(List.take (0+(b).toNat*1) ((List.take (0+(b).toNat*1) d++[Value.int IntKind.u64 (e)]++List.drop (0+(b).toNat*1+1) d))++[Value.int IntKind.u64 (orI .u64 q s)]++List.drop (0+(b).toNat*1+1) ((List.take (0+(b).toNat*1) d++[Value.int IntKind.u64 (e)]++List.drop (0+(b).toNat*1+1) d))),_,rfl,(leR _),(S.fr' rfl),bj,bk⟩)
    have H:=ZH H M;refine ZK S rfl M (wp_skip ?_);obtain rfl:=Zl H;refine Zf (ap _ _ ⟨_,some ag,m,r,(List.take (0+(b).toNat*1) d++[Value.int IntKind.u64 (e)]++List.drop (0+(b).toNat*1+1) d),_,rfl,(leR _),(S.fr' rfl),V,B⟩)
   rintro f w ⟨W,X,L,Y,Z,aa,hq,bm,S,bn,bo⟩;subst hq;have H:=a8;refine Z7a (Zf (aS _ _ (bO H fun b4 av H=>Zr (ov S rfl (Ze S rfl rfl (ZFa av)) fun f S=>mv S rfl fun f S=>Zn ?_))));obtain rfl:=Zl H;refine aP _ rfl _ _ ⟨_,_,X,L,Y,Z,_,rfl,(leT ad bm),(S.fr' rfl),bn,bo,(Zka av).2⟩
  have H:=ZH H J;refine ZK S rfl J (wp_exit (ZV ?_));obtain rfl:=Zl H;have hq:=aQ _ rfl;subst hq;have H:=aN;refine ZV (ZVa ?_);obtain rfl:=Zl H;refine Zf (aL _ _ ⟨_,U,m,r,d,_,rfl,(leT (leR _) ad),(S.fr' rfl),ae,I⟩)
 rintro f w ⟨t,E,u,G,ac,T,hq,b5,S,bp,bq⟩;subst hq;have H:=aK;refine Zf (aH _ _ (Zj fun _ br=>bO H fun b6 bs H=>Zr (mv S rfl fun f S=>?_)));obtain ⟨b7,b8,S,bt⟩:=S.pubSlice (i:=0) (A:=(Zd .u64)) (l:=t) (ℓ':=[]) rfl rfl bq bp rfl;refine opc S rfl (Z3 S [.slice (mkA E) u G] ZRe rfl rfl) (ZJe S.vin (show Rep.rel (ZA (Zd .u64)) _ [.slice (mkA E) u G] t from bt) bs) ?_;rintro _ b9 f w ca ⟨cb,rfl,aw⟩ S;obtain ⟨bu,bv,bw,rfl⟩:=Zba aw;refine mw S rfl fun f S=>Zn (Zf (br _ _ (wp_ret ?_)));obtain rfl:=Zl H;refine Zwa S (ZCa rfl (ZO S rfl)) ⟨[.slice bu bv bw],rfl,aw⟩
theorem right_c {c:World} {b:Zb} (hv:VIn b c) {d:List Value} {a:Nat} (h:Rep.rel Zu b d a) {e:List Value} {n:Int} (f:Rep.rel (Zd .i64) b e n) {z:Nat} (hm:ZUf a n=some z) :
  Ret Tryz.prog 146 #[Zu.val d,(Zd .i64).val e] c b (fun y v'=>∃ g,y=Zu.val g∧Zu.rel v' g z) :=
 right_w hv h f (Zbs f.2 hm)
theorem word_w {b:World} {a:Zb} (hv:VIn a b) {c:List Value} {n:Int} (h:Rep.rel (Zd .u64) a c n) {z:Nat} (H:ZVg n=some z):Ret Tryz.prog 93 #[(Zd .u64).val c] b a (fun y v'=>∃ d,y=Zu.val d∧Zu.rel v' d z):=by
 obtain ⟨rfl,j⟩:=h;refine Zwb (K:=6) (args:=[.int .u64 n]) hv Tryz.func93 rfl rfl zl fun f S=>?_;unfold ZVg at H;refine sr (mw S rfl fun f S=>oe (Zj fun _ k=>bO H fun u m H=>Zr (mv S rfl fun f S=>?_)));obtain ⟨e,w,o,S⟩:=Zlf S (n:=1) (cs:=[.int .u64 n]) (vals:=[(0,.int .u64 n)]) (sz:=1) rfl (by decide) (Zdm Z0d (x:=.int .u64 n) (cs:=[.int .u64 n]) rfl rfl (by decide));have p:Rep.rels (Zd .u64) a [.int .u64 n] [n]:=(Zzl (ZB j) ZXe);refine Zkb wn rfl zl (o rfl) S fun f S=>?_;obtain ⟨v,B,S,q⟩:=S.pubSlice (i:=0) (A:=(Zd .u64)) (l:=[n]) (ℓ':=[]) rfl rfl rfl p rfl;refine opc S rfl (Z3 S [.slice (mkA (some e)) (1) 1] ZRe rfl rfl) (ZJe S.vin (show Rep.rel (ZA (Zd .u64)) _ [.slice (mkA (some e)) (1) 1] ([n]) from q) m) ?_;rintro _ C f w D ⟨E,rfl,g⟩ S;obtain ⟨r,s,t,rfl⟩:=Zba g;refine mw S rfl fun f S=>Zn (Zf (k _ _ (wp_ret ?_)));obtain rfl:=Zl H;refine Zwa S (ZCa rfl (ZO S rfl)) ⟨[.slice r s t],rfl,g⟩
theorem word_c {b:World} {a:Zb} (hv:VIn a b) {c:List Value} {n:Int} (e:Rep.rel (Zd .u64) a c n) {z:Nat} (hm:ZWa n=some z) :
  Ret Tryz.prog 93 #[(Zd .u64).val c] b a (fun y v'=>∃ d,y=Zu.val d∧Zu.rel v' d z) :=
 word_w hv e (Z2n hm)
theorem Zvu {w0:World} {F:Zb} (hv:VIn F w0) {c0:List Value} {a:Nat} (m:Rep.rel Zu F c0 a) {c1:List Value} {b:Nat} (g:Rep.rel Zu F c1 b) {z:Nat×Nat} (H:Zeh a b=some z):Ret Tryz.prog 96 #[Zu.val c0,Zu.val c1] w0 F (fun y v'=>∃ r0 r1,y = .tuple #[Zu.val r0,Zu.val r1]∧Zu.rel v' r0 z.1∧Zu.rel v' r1 z.2):=by
 obtain ⟨R,T,U,rfl⟩:=Zba m;obtain ⟨q4,n5,k6,rfl⟩:=Zba g;refine Zwb (K:=84) (args:=[.slice R T U,.slice q4 n5 k6]) hv Tryz.func96 rfl rfl zl fun f S=>?_;unfold Zeh at H;refine sr (mw S rfl fun f S=>mw S rfl fun f S=>oe (Zj fun _ bb=>wp_block (Zj fun _ bc=>bO H fun bd be H=>Zr (mv S rfl fun f S=>mv S rfl fun f S=>opc S rfl (Z3 S [.slice R T U,.slice q4 n5 k6] Zgn rfl rfl) (cmp_c S.vin m g be) ?_))));rintro _ cV f w aj ⟨cW,rfl,bf⟩ S;obtain ⟨rfl,cX⟩:=bf;refine ov S rfl (Ze S rfl rfl ZRb) fun f S=>mw S rfl fun f S=>Zn (Zf (bc _ _ ?_));rcases ZJ (decide (bd<(0:Int))) with V | V
 ·have H:=ZI H V;refine ZM S rfl V (sr (mv S rfl fun f S=>mw S rfl fun f S=>mw S rfl fun f S=>oe (wp_ret (ZGf (ZJa ?_)))));obtain rfl:=Zl H;have m:=Z6 aj m;refine Zwa S (Zoe rfl (ZO S rfl) (ZO S rfl)) ⟨[.slice none 0 0],[.slice R T U],rfl,(ZOf _),m⟩
 have H:=ZH H V;refine ZK S rfl V (sr (mv S rfl fun f S=>?_));have g:=Z6 aj g;refine ov S rfl (Z7 S (ZG g) rfl rfl Zz) fun f S=>ov S rfl (Ze S rfl rfl ZCd) fun f S=>mw S rfl fun f S=>oe ?_;rcases ZJ (((((Zc 18446744073709551616 b)).length:Int))==(1:Int)) with W | W
 ·have H:=ZI H W;refine ZM S rfl W (Zj fun _ bg=>bO H fun au av H=>bO H fun aw bh H=>Zr (mv S rfl fun f S=>mv S rfl fun f S=>?_));obtain ⟨_,cY,cZ,c2,rfl,ax,bi⟩:=ZRa g (Zg av).2.1;obtain ⟨rfl,bj⟩:=bi;refine ov S rfl (ZL S rfl rfl Zz (Zg av).1 (ltI (ZG g) (Zg av).2.2.1)) fun f S=>ov S rfl (Zca S rfl Z1 (S.view ax)) fun f S=>?_;have m:=Z6 aj m;refine opc S rfl (Z3 S [.slice R T U,.int .u64 au] ZMn rfl rfl) (ZGo S.vin m (show Rep.rel (Zd .u64) _ [.int .u64 au] au from (ZB bj)) bh) ?_;rintro _ c3 f w bk ⟨c4,c5,rfl,ak,bm⟩ S;have ax:=Atm bk ax;obtain ⟨aS,aT,aU,rfl⟩:=Zba ak;obtain ⟨rfl,bn⟩:=bm;refine mv S rfl fun f S=>ov S rfl (Zna S rfl rfl) fun f S=>ov S rfl (Zna S rfl rfl) fun f S=>mw S rfl fun f S=>mw S rfl fun f S=>Zn (Zf (bg _ _ (Zj fun _ bo=>bO H fun c6 bp H=>Zr (mv S rfl fun f S=>mv S rfl fun f S=>opc S rfl (Z3 S [.int .u64 (aw.2)] k_en93 rfl rfl) (word_c S.vin (show Rep.rel (Zd .u64) _ [.int .u64 (aw.2)] aw.2 from (ZB bn)) bp) ?_))));rintro _ c7 f w bq ⟨c8,rfl,aV⟩ S;obtain ⟨aW,aX,aY,rfl⟩:=Zba aV;refine mw S rfl fun f S=>mw S rfl fun f S=>Zn ?_;have S:=S.fr' (σ':=[(4,.slice aS aT aU),(5,.slice aW aX aY)]) rfl;refine Zf (bo _ _ (wp_ret (ZGf (ZJa ?_))))
  obtain rfl:=Zl H;have ak:=Z6 bq ak;refine Zwa S (Zoe rfl (ZO S rfl) (ZO S rfl)) ⟨[.slice aS aT aU],[.slice aW aX aY],rfl,ak,aV⟩
 have H:=ZH H W;refine ZK S rfl W (wp_skip (Z7a (Zf (bb _ _ (Zj fun _ br=>bO H fun c9 bs H=>bO H fun ay az H=>bO H fun k bt H=>Zr (mv S rfl fun f S=>mv S rfl fun f S=>ov S rfl (Z7 S (ZG g) rfl rfl Zz) fun f S=>ov S rfl (Ze S rfl rfl (Zpa bs)) fun f S=>?_))))));obtain ⟨_,bu,bv,da,rfl,aA,bw⟩:=ZRa g (Zg az).2.1;obtain ⟨rfl,bx⟩:=bw;refine ov S rfl (ZL S rfl rfl Zz (Zg az).1 (ltI (ZG g) (Zg az).2.2.1)) fun f S=>ov S rfl (Zca S rfl Z1 (S.view aA)) fun f S=>opc S rfl (Z3 S [.int .u64 ay] ZZp rfl rfl) (ZHn S.vin (show Rep.rel (Zd .u64) _ [.int .u64 ay] ay from (ZB bx)) bt) ?_;rintro _ db f w aB ⟨dc,rfl,bz⟩ S;have aA:=Atm aB aA;obtain ⟨rfl,aC⟩:=bz;refine mw S rfl fun f S=>Zn (Zf (br _ _ (Zj fun _ bA=>bO H fun bB bC H=>Zr (mv S rfl fun f S=>mv S rfl fun f S=>?_))));have g:=Z6 aB g;refine opc S rfl (Z3 S [.slice (some ⟨bu,bv,none⟩) n5 k6,.int .i64 k] Zyo rfl rfl) (Z0o S.vin g (show Rep.rel (Zd .i64) _ [.int .i64 k] k from (ZB aC)) bC) ?_;rintro _ bD f w bE ⟨dd,rfl,v⟩ S;obtain ⟨aD,aE,aF,rfl⟩:=Zba v;refine mw S rfl fun f S=>Zn (Zf (bA _ _ (Zj fun _ bG=>bO H fun X bH H=>bO H fun de bI H=>bO H fun df bJ H=>Zr ?_)))
 obtain ⟨dg,w,bK,S⟩:=Zlf (P:=Tryz.prog) (t:=31) (e:=155) S (n:=0) (cs:=[]) (vals:=[]) (sz:=1) rfl (by decide) (fun _=>by kernel_rfl);have aG:Rep.rels (Zd .u64) bD [] []:=ZXe;refine Zkb wn rfl zl (bK rfl) S fun f S=>mv S rfl fun f S=>mv S rfl fun f S=>?_;have m:=Z6 (leT (leT aj aB) bE) m;refine opc S rfl (Z3 S [.slice R T U,.int .i64 k] Zyo rfl rfl) (Z0o S.vin m (show Rep.rel (Zd .i64) _ [.int .i64 k] k from (ZB aC)) bH) ?_;rintro _ al f w aZ ⟨dh,rfl,aH⟩ S;have aG:=ZQ aZ aG;obtain ⟨di,dj,dk,rfl⟩:=Zba aH;have aI:=S;obtain ⟨dl,dm,a0,w,bM,S,bP⟩:=Zuf (ty:=31) (A:=(Zd .u64)) Z0d S (i:=0) (n':=(([]:(List Int))++((Zc 18446744073709551616 X))).length) rfl aH (appN rfl (ZG aH)) (ZBd bI) (by decide);have bQ:=ZVc aG bP;refine Zkb wn rfl zl (ZRd aI rfl rfl bM) S fun f S=>?_;obtain ⟨dn,w,bR,S⟩:=Zlf S (n:=1) (cs:=[.int .u64 0]) (vals:=[(0,.int .u64 0)]) (sz:=1) rfl (by decide) (Zdm Z0d (x:=.int .u64 0) (cs:=[.int .u64 0]) rfl rfl (by decide));have aJ:Rep.rels (Zd .u64) al [.int .u64 0] [(0:Int)]:=(Zzl (ZB (by decide)) ZXe);refine Zkb wn rfl zl (bR rfl) S fun f S=>?_;have aI:=S;obtain ⟨aK,aL,w,bS,S⟩:=Z4j (ty:=31) Z0d S (i:=1) (n':=((([]:(List Int))++((Zc 18446744073709551616 X)))++[(0:Int)]).length) rfl (Ztd aJ rfl) (Zni S (j:=0) rfl) (Zqj aJ) (appN rfl rfl) (ZBd bJ) (by decide)
 have bT:=ZVc bQ aJ;refine Zkb wn rfl zl (ZRd aI rfl rfl bS) S fun f S=>mw S rfl fun f S=>Zn ?_;have S:=S.fr' (σ':=[(8,.int .i64 k),(9,.slice aD aE aF),(10,.slice (mkA aK) (((([]:(List Int))++((Zc 18446744073709551616 X)))++[(0:Int)]).length) aL)]) rfl;refine Zf (bG _ _ (sr (mv S rfl fun f S=>?_)));have v:=Z6 aZ v;refine ov S rfl (Z7 S (ZG v) rfl rfl Zz) fun f S=>mw S rfl fun f S=>oe (Zj fun _ bU=>bO H fun q bV H=>bO H fun dp am H=>Zr (mv S rfl fun f S=>ov S rfl (Z7 S rfl rfl rfl Zz) fun f S=>mv S rfl fun f S=>ov S rfl (Ze S rfl rfl (Zpa bV)) fun f S=>?_));obtain ⟨aM,a1⟩:∃ c:List Value,c=(List.replicate (q).toNat [.int .u64 0]).flatten:=⟨_,rfl⟩;obtain ⟨a2,w,bW,S⟩:=ZZh Z0d S (l:=q) (c:=q) (ZDa am).1 (ZDa am).2.1 (ZDa am).2.2.1 (ZDa am).2.2.2 a1;have bX:Rep.rels (Zd .u64) al aM (List.replicate (q).toNat (0:Int)):=by rw [a1];exact Z7d (show Rep.rel (Zd .u64) _ [.int .u64 0] _ from (ZB (by decide))) _
 refine Zkb wn rfl zl (bW rfl rfl) S fun f S=>mw S rfl fun f S=>Zn (Zf (bU _ _ (Zj fun _ bY=>Zj fun _ bZ=>bO H fun dq a3 H=>Zr (mv S rfl fun f S=>ov S rfl (Z7 S (repN (x:=(0:Int))) rfl rfl Zz) fun f S=>ov S rfl (Ze S rfl rfl (Zpa a3)) fun f S=>mw S rfl fun f S=>Zn (Zf (bZ _ _ ?_))))));obtain ⟨b0,b1,b2⟩:=ZE H;refine Zma (fun f w=>∃ G I J B L an Y M Z aN aa,(G,I)=b0∧Zb.le al aa∧St 84 w0 F [(8,.int .i64 k),(10,.slice (mkA J) B L),(12,.slice (mkA Y) M Z)] [Loc.own J 155 1 B L an,Loc.own Y 155 1 M Z aN] aa f w∧Rep.rels (Zd .u64) aa an G∧B=G.length∧Rep.rels (Zd .u64) aa aN I∧M=I.length) (fun _ b3=>?_) ?_
 ·have H:=b1;refine wp_block ?_;obtain ⟨dr,b4,b5⟩:=ZE H;have S:=S.reorder (ℓ':=[Loc.own aK 155 1 (((([]:(List Int))++((Zc 18446744073709551616 X)))++[(0:Int)]).length) aL ((([]++a0)++[.int .u64 0])),Loc.own (some a2) 155 1 ((q).toNat) (q).toNat aM]) [2,0] rfl (by decide);refine Zeb b4 (fun b6 f w=>∃ ao N d ap C D s aq E ab o ac,(ao,N,d)=b6∧Zb.le al ac∧St 84 w0 F [(8,.int .i64 k),(9,.slice aD aE aF),(10,.slice (mkA ap) C D),(11,.int .i64 ((((Zc 18446744073709551616 bB)).length:Int))),(12,.slice (mkA aq) E ab),(13,.int .i64 d)] [Loc.own ap 155 1 C D s,Loc.own aq 155 1 E ab o] ac f w∧Rep.rels (Zd .u64) ac s ao∧C=ao.length∧Rep.rels (Zd .u64) ac o N∧E=N.length∧inR .i64 d) ⟨_,_,_,aK,((([]:(List Int))++((Zc 18446744073709551616 X)))++[(0:Int)]).length,aL,(([]++a0)++[.int .u64 0]),some a2,(q).toNat,(q).toNat,aM,_,rfl,(leR _),(S.fr' rfl),bT,rfl,bX,(repN (x:=(0:Int))),(Zka a3).2⟩ ?_;rintro _ f w st ⟨ao,N,d,ap,C,D,s,aq,E,ab,o,ac,hq,aO,S,ad,ae,af,ag,ds⟩ H dt b7 b8
  subst hq;refine Zj fun _ b9=>sr (mv S rfl fun f S=>ov S rfl (Ze S rfl rfl Z0b) fun f S=>oe ?_);rcases ZJ (decide ((0:Int)≤d)) with ah | ah
  ·have H:=ZI H ah;refine ZM S rfl ah (wp_skip (Zf (b9 _ _ (Zj fun _ ca=>wp_block (bO H fun du cb H=>bO H fun O cc H=>bO H fun dv h H=>bO H fun u cd H=>bO H fun dw Q H=>Zr (mv S rfl fun f S=>mv S rfl fun f S=>mv S rfl fun f S=>?_))))));refine mv S rfl fun f S=>mv S rfl fun f S=>mv S rfl fun f S=>ov S rfl (Ze S rfl rfl (ZFa cb)) fun f S=>ov S rfl (Ze S rfl rfl (ZFa cc)) fun f S=>?_;obtain ⟨aP,rfl⟩:=ZGc S (j:=0) rfl (by have:=Z3b h;have:=ae;omega);refine ov S rfl (ZUt S (j:=0) rfl Zz (Z3b h).1 (Z3b h).2.1 (by have:=(Z3b h).2.2.1;have:=ae;omega) rfl rfl rfl) fun f S=>mv S rfl fun f S=>?_;obtain ⟨pre399,post400,ce,cg,ch,ci,cj,ck⟩:=Ztt S (i:=0) (lo:=(d).toNat) (hi:=(O).toNat) rfl (Z3b h).2.2.2.2.2.1 (by have:=(Z3b h).2.2.2.2.2.2;have:=ae;omega);have v:=Z6 aO v;refine Zkn S wn rfl zl (Z3 S [.slice (some ⟨aP,(d).toNat*1,none⟩) ((O-d).toNat) (D-(d).toNat),.slice aD aE aF] k_en145 rfl rfl) (i:=0) rfl rfl (digit_c S.vin ce ch cg (Z3b h).2.2.2.2.1 ⟨Zpv (Z3b h).1 (Z3b h).2.1 ci,cj⟩ (Znv ad rfl (Z3b h).2.2.2.1) v cd) ?_;rintro _ a4 f w aQ ⟨⟨dx,rfl,cl⟩,cm,aR,cn,co,a5⟩ hSf;have ad:=ZQ aQ ad
   have af:=ZQ aQ af;have a6:((O).toNat-(d).toNat)=u.2.length:=by have:=co;have:=Z3b h;omega
   have S:=hSf (Loc.own (some aP) 155 1 C D (List.take ((d).toNat*1) s++aR++List.drop ((O).toNat*1) s)) rfl (ck _ aR (Ztd a5 a6) cn) cm;have cp:=ZWr (p:=(d).toNat) (r:=(O).toNat) (sz:=1) ad a5 rfl;have cq:=Zdu ae (Z3b h).2.2.2.2.2.1 (Z3b h).2.2.2.2.2.2 a6;obtain ⟨rfl,cr⟩:=cl;obtain ⟨ct,rfl⟩:=ZGc S (j:=1) rfl (posN ag (Zg Q).2.2.2);have a7:=Zea af (Zg Q).2.1;obtain ⟨dy,cu⟩:∃ c,(List.take (Zd .u64).n (List.drop ((d).toNat*(Zd .u64).n) o))=c:=⟨_,rfl⟩;rw [cu] at a7;obtain ⟨rfl,dz⟩:=a7;refine ov S rfl (ZL S rfl rfl Zz (Zg Q).1 (ltI ag (Zg Q).2.2.1)) fun f S=>?_;obtain ⟨w,cv,S⟩:=Zrb S Z1 (off:=0+(d).toNat*1) (z:=.int .u64 (u.1)) (cs:=[.int .u64 (u.1)]) (Zib rfl) rfl (i:=1) rfl (Zid S (j:=1) rfl (ltN ag (Zg Q).2.2.2)) (by first | rfl | simp [plain]);have cw:Rep.rels (Zd .u64) a4 (List.take (0+(d).toNat*1) o++[Value.int IntKind.u64 (u.1)]++List.drop (0+(d).toNat*1+1) o) (N.set (d).toNat u.1):=Zzc af (Zg Q).2.2.2 (show Rep.rel (Zd .u64) a4 [.int .u64 (u.1)] _ from (ZB cr)) rfl rfl;have cx:E=(N.set (d).toNat u.1).length:=Zkd ag;refine ZAf wn rfl (cv rfl rfl) (Zn (Z7a (Zf (ca _ _ (bO H fun dA a8 H=>Zr (mv S rfl fun f S=>ov S rfl (Ze S rfl rfl (Zpa a8)) fun f S=>mw S rfl fun f S=>Zn ?_))))))
   obtain rfl:=Zl H;refine b7 _ rfl _ _ ⟨_,_,_,some aP,C,D,(List.take ((d).toNat*1) s++aR++List.drop ((O).toNat*1) s),some ct,E,ab,(List.take (0+(d).toNat*1) o++[Value.int IntKind.u64 (u.1)]++List.drop (0+(d).toNat*1+1) o),_,rfl,(leT aO aQ),(S.fr' rfl),cp,cq,cw,cx,(Zka a8).2⟩
  have H:=ZH H ah;refine ZK S rfl ah (wp_exit (ZV ?_));obtain rfl:=Zl H;have hq:=b8 _ rfl;subst hq;have H:=b5;refine ZV (ZVa ?_);obtain rfl:=Zl H;refine Zf (b3 _ _ ⟨_,_,ap,C,D,s,aq,E,ab,o,_,rfl,(leT (leR _) aO),(S.fr' rfl),ad,ae,af,ag⟩)
 rintro f w ⟨G,I,J,B,L,an,Y,M,Z,aN,aa,hq,dB,S,ai,cy,cz,cA⟩;subst hq;have H:=b2;refine Zf (bY _ _ (Zj fun _ cB=>bO H fun dC cC H=>bO H fun dD cD H=>bO H fun dE cE H=>Zr (mv S rfl fun f S=>?_)));obtain ⟨dF,cF,S,cG⟩:=S.pubSlice (i:=1) (A:=(Zd .u64)) (l:=I) (ℓ':=[Loc.own J 155 1 B L an]) rfl rfl cA cz rfl;have ai:=ZQ cF ai;refine opc S rfl (Z3 S [.slice (mkA Y) M Z] ZRe rfl rfl) (ZJe S.vin (show Rep.rel (ZA (Zd .u64)) _ [.slice (mkA Y) M Z] I from cG) cC) ?_;rintro _ dG f w cH ⟨dH,rfl,ar⟩ S;have ai:=ZQ cH ai;obtain ⟨cI,cJ,cK,rfl⟩:=Zba ar;refine mv S rfl fun f S=>?_;obtain ⟨dI,cL,S,cM⟩:=S.pubSlice (i:=0) (A:=(Zd .u64)) (l:=G) (ℓ':=[]) rfl rfl cy ai rfl;refine opc S rfl (Z3 S [.slice (mkA J) B L] ZRe rfl rfl) (ZJe S.vin (show Rep.rel (ZA (Zd .u64)) _ [.slice (mkA J) B L] G from cM) cD) ?_;rintro _ dJ f w cN ⟨dK,rfl,a9⟩ S;obtain ⟨cO,cP,cQ,rfl⟩:=Zba a9;refine mv S rfl fun f S=>opc S rfl (Z3 S [.slice cO cP cQ,.int .i64 k] k_en146 rfl rfl) (right_c S.vin a9 (show Rep.rel (Zd .i64) _ [.int .i64 k] k from (ZB aC)) cE) ?_;rintro _ dL f w cR ⟨dM,rfl,ba⟩ S;obtain ⟨cS,cT,cU,rfl⟩:=Zba ba
 refine mw S rfl fun f S=>mw S rfl fun f S=>Zn (Zf (cB _ _ (wp_ret ?_)));obtain rfl:=Zl H;have ar:=Z6 (leT (leT cL cN) cR) ar;refine Zwa S (Zoe rfl (ZO S rfl) (ZO S rfl)) ⟨[.slice cI cJ cK],[.slice cS cT cU],rfl,ar,ba⟩
theorem ZJs {d:World} {c:Zb} (hv:VIn c d) {e:List Value} {a:Nat} (i:Rep.rel Zu c e a) {f:List Value} {b:Nat} (j:Rep.rel Zu c f b) {z:Nat×Nat} (hm:Z2b a b=some z) :
  Ret Tryz.prog 96 #[Zu.val e,Zu.val f] d c (fun y v'=>∃ g h,y=Value.tuple #[Zu.val g,Zu.val h]∧Zu.rel v' g z.1∧Zu.rel v' h z.2) :=
 Zvu hv i j (ZQs hm)
end Go.Eng
set_option maxRecDepth 100000
set_option maxHeartbeats 4000000
namespace Go.Eng
open Go.Proofs Go.RowKit
noncomputable def ZMe:FuncId×Con:=(96,⟨[.leaf 0,.leaf 0],[.leaf 0,.leaf 0],fun p=>Z2b p.1 p.2⟩)
theorem Zym:Zm Tryz.prog ZMe.1 ZMe.2:=fun w v vals x z hv ha hz=>by
 obtain ⟨c0,w0,e0,p0,c1,e1,p1⟩:=ha;subst e0;subst e1
 exact .inl ⟨fun _ _=>by kernel_rfl,Ret.mono (ZJs hv p0 p1 hz) fun y v' _ ⟨r0,r1,e,h0,h1⟩=>⟨_,e,r0,_,rfl,h0,r1,rfl,h1⟩⟩
end Go.Eng
set_option maxRecDepth 100000
set_option maxHeartbeats 4000000
namespace Go.Eng
open Go.Proofs Go.RowKit
noncomputable def ZOj:FuncId×Con:=(142,⟨[.leaf 0,.leaf 0],[.int .u64],fun p=>Zgg p.1 p.2⟩)
theorem small_i (a:Nat) (b:Nat):Zq ⟨Tryz.prog,[(31,0)],[],[],[],[],[]⟩ [] Tryz.f142 (.two .no (.two .no (.two (.two .no (.cut ⟨⟨[],[],[]⟩,[(.norm,⟨[1],[],[.s 5 (.dat (.int .u64))]⟩)]⟩ .no)) (.two .no (.two (.cut ⟨⟨[],[],[]⟩,[(.norm,⟨[],[],[.s 5 (.dat (.int .u64))]⟩)]⟩ (.two (.cut ⟨⟨[],[],[.s 5 (.dat (.int .u64)),.s 6 (.dat (.int .u64))]⟩,[(.exit 0,⟨[],[],[.s 5 (.dat (.int .u64))]⟩)]⟩ .no) .no)) .no))))) [.leaf 0,.leaf 0] [.int .u64] (a,b)=ZZi a b:=by kernel_rfl
theorem small_k:Zm Tryz.prog ZOj.1 ZOj.2:=Zt (C:=⟨Tryz.prog,[(31,0)],[],[],[],[],[]⟩) trivial trivial trivial trivial (inl:=[]) trivial (ann:=.two .no (.two .no (.two (.two .no (.cut ⟨⟨[],[],[]⟩,[(.norm,⟨[1],[],[.s 5 (.dat (.int .u64))]⟩)]⟩ .no)) (.two .no (.two (.cut ⟨⟨[],[],[]⟩,[(.norm,⟨[],[],[.s 5 (.dat (.int .u64))]⟩)]⟩ (.two (.cut ⟨⟨[],[],[.s 5 (.dat (.int .u64)),.s 6 (.dat (.int .u64))]⟩,[(.exit 0,⟨[],[],[.s 5 (.dat (.int .u64))]⟩)]⟩ .no) .no)) .no))))) Tryz.func142 (fun _ _=>by kernel_rfl) rfl fun v vals x z ha hz=>(small_i x.1 x.2).trans (ZAs hz)
end Go.Eng
set_option maxRecDepth 100000
set_option maxHeartbeats 4000000
namespace Go.Eng
open Go.Proofs Go.RowKit
noncomputable def Zti:FuncId×Con:=(94,⟨[.leaf 0,.leaf 0],[.leaf 0],fun p=>gcdF p.1 p.2⟩)
theorem gcd_i (a:Nat) (b:Nat):Zq ⟨Tryz.prog,[(31,0)],[ZHb,ZMe,ZOj],[],[],[],[]⟩ [] Tryz.f94 (.two .no (.two (.cut ⟨⟨[],[],[]⟩,[(.norm,⟨[],[],[.s 0 (.dat (.leaf 0))]⟩),(.ret,⟨[],[],[.s 0 (.dat (.leaf 0))]⟩)]⟩ (.two (.cut ⟨⟨[],[],[.s 0 (.dat (.leaf 0)),.s 1 (.dat (.leaf 0))]⟩,[(.ret,⟨[],[],[.s 0 (.dat (.leaf 0))]⟩),(.exit 0,⟨[],[],[.s 0 (.dat (.leaf 0))]⟩)]⟩ (.two (.two .no (.two (.two (.two (.cut ⟨⟨[],[],[]⟩,[(.norm,⟨[0,1],[],[.s 17 (.dat .bool)]⟩)]⟩ .no) .no) .no) .no)) .no)) .no)) .no)) [.leaf 0,.leaf 0] [.leaf 0] (a,b)=ZAi a b:=by kernel_rfl
theorem gcd_k:Zm Tryz.prog Zti.1 Zti.2:=Zt (C:=⟨Tryz.prog,[(31,0)],[ZHb,ZMe,ZOj],[],[],[],[]⟩) ⟨Zkg,Zym,small_k,trivial⟩ trivial trivial trivial (inl:=[]) trivial (ann:=.two .no (.two (.cut ⟨⟨[],[],[]⟩,[(.norm,⟨[],[],[.s 0 (.dat (.leaf 0))]⟩),(.ret,⟨[],[],[.s 0 (.dat (.leaf 0))]⟩)]⟩ (.two (.cut ⟨⟨[],[],[.s 0 (.dat (.leaf 0)),.s 1 (.dat (.leaf 0))]⟩,[(.ret,⟨[],[],[.s 0 (.dat (.leaf 0))]⟩),(.exit 0,⟨[],[],[.s 0 (.dat (.leaf 0))]⟩)]⟩ (.two (.two .no (.two (.two (.two (.cut ⟨⟨[],[],[]⟩,[(.norm,⟨[0,1],[],[.s 17 (.dat .bool)]⟩)]⟩ .no) .no) .no) .no)) .no)) .no)) .no)) Tryz.func94 (fun _ _=>by kernel_rfl) rfl fun v vals x z ha hz=>(gcd_i x.1 x.2).trans (gcdF_eq hz)
end Go.Eng
set_option maxRecDepth 100000
set_option maxHeartbeats 4000000
namespace Go.Eng
open Go.Proofs Go.RowKit
noncomputable def ZTf:FuncId×Con:=(95,⟨[.leaf 0],[.bool],fun p=>Zaf p⟩)
theorem isOne_i (a:(List Int)):Zq ⟨Tryz.prog,[],[],[],[],[],[]⟩ [] Tryz.f95 (.two .no (.two (.cut ⟨⟨[],[],[]⟩,[(.norm,⟨[],[],[.s 2 (.dat .bool)]⟩)]⟩ .no) .no)) [.slice (.int .u64)] [.bool] (a)=Zlm a:=by kernel_rfl
theorem ZDp:Zm Tryz.prog ZTf.1 ZTf.2:=ZBj (C:=⟨Tryz.prog,[],[],[],[],[],[]⟩) trivial trivial trivial trivial (inl:=[]) trivial (ann:=.two .no (.two (.cut ⟨⟨[],[],[]⟩,[(.norm,⟨[],[],[.s 2 (.dat .bool)]⟩)]⟩ .no) .no)) (ats:=[.slice (.int .u64)]) (rts:=[.bool]) (fun x=>((Zc 18446744073709551616 x))) (fun z=>z) (fun _ _ _ h=>h) (fun _ _ _ h=>h) Tryz.func95 (fun _ _=>by kernel_rfl) rfl fun v vals x z ha hz=>(isOne_i (Zc 18446744073709551616 x)).trans (Z1r.trans hz)
end Go.Eng
set_option maxRecDepth 100000
set_option maxHeartbeats 4000000
namespace Go.Eng
open Go.Proofs Go.RowKit
noncomputable def Zjc:FuncId×Con:=(48,⟨[.leaf 2,.leaf 0],[.leaf 3],fun p=>ZFb p.1 p.2⟩)
theorem over_i (n:Int) (d:Nat):Zq ⟨Tryz.prog,[(31,0),(33,2),(35,3)],[Zti,ZTf,ZMe],[],[],[],[]⟩ [] Tryz.f48 (.two .no (.two (.two .no (.two .no (.cut ⟨⟨[],[],[]⟩,[(.norm,⟨[2,4],[],[.s 1 (.dat (.leaf 0)),.l (.sl 2) (.box 33 (.dat (.pair .bool (.leaf 0))))]⟩)]⟩ .no))) (.two (.two .no (.cut ⟨⟨[],[],[]⟩,[(.norm,⟨[2,4],[],[.s 1 (.dat (.leaf 0))]⟩)]⟩ .no)) .no))) [.leaf 2,.leaf 0] [.leaf 3] (n,d)=Zvm n d:=by kernel_rfl
theorem Zmh:Zm Tryz.prog Zjc.1 Zjc.2:=Zt (C:=⟨Tryz.prog,[(31,0),(33,2),(35,3)],[Zti,ZTf,ZMe],[],[],[],[]⟩) ⟨gcd_k,ZDp,Zym,trivial⟩ trivial trivial trivial (inl:=[]) trivial (ann:=.two .no (.two (.two .no (.two .no (.cut ⟨⟨[],[],[]⟩,[(.norm,⟨[2,4],[],[.s 1 (.dat (.leaf 0)),.l (.sl 2) (.box 33 (.dat (.pair .bool (.leaf 0))))]⟩)]⟩ .no))) (.two (.two .no (.cut ⟨⟨[],[],[]⟩,[(.norm,⟨[2,4],[],[.s 1 (.dat (.leaf 0))]⟩)]⟩ .no)) .no))) Tryz.func48 (fun _ _=>by kernel_rfl) rfl fun v vals x z ha hz=>(over_i x.1 x.2).trans (Zau hz)
end Go.Eng
set_option maxRecDepth 100000
set_option maxHeartbeats 4000000
namespace Go.Eng
open Go.Proofs Go.RowKit
noncomputable def ZZa:FuncId×Con:=(97,⟨[.bool,.leaf 0],[.leaf 2],fun p=>Zva p.1 p.2⟩)
theorem whole_i (s:Bool) (n:Nat):Zq ⟨Tryz.prog,[(31,0),(33,2),(35,3)],[],[],[],[],[]⟩ [] Tryz.f97 (.two .no (.two (.cut ⟨⟨[],[],[]⟩,[(.norm,⟨[4],[],[.l (.sl 4) (.box 33 (.dat (.pair .bool (.leaf 0))))]⟩)]⟩ .no) .no)) [.bool,.leaf 0] [.leaf 2] (s,n)=ZKm s n:=by kernel_rfl
theorem Zie:Zm Tryz.prog ZZa.1 ZZa.2:=Zt (C:=⟨Tryz.prog,[(31,0),(33,2),(35,3)],[],[],[],[],[]⟩) trivial trivial trivial trivial (inl:=[]) trivial (ann:=.two .no (.two (.cut ⟨⟨[],[],[]⟩,[(.norm,⟨[4],[],[.l (.sl 4) (.box 33 (.dat (.pair .bool (.leaf 0))))]⟩)]⟩ .no) .no)) Tryz.func97 (fun _ _=>by kernel_rfl) rfl fun v vals x z ha hz=>(whole_i x.1 x.2).trans (Z8t hz)
end Go.Eng
set_option maxRecDepth 100000
set_option maxHeartbeats 4000000
namespace Go.Eng
open Go.Proofs Go.RowKit
noncomputable def ZHj:FuncId×Con:=(54,⟨[.int .i64,.int .i64],[.leaf 3,.int .i64],fun p=>Z7g p.1 p.2⟩)
theorem qnew_i (n:Int) (d:Int):Zq ⟨Tryz.prog,[(31,0),(33,2),(35,3)],[Zjc,ZUe,ZZa],[],[],[],[]⟩ [] Tryz.f54 .no [.int .i64,.int .i64] [.leaf 3,.int .i64] (n,d)=ZVm n d:=by kernel_rfl
theorem qnew_k:Zm Tryz.prog ZHj.1 ZHj.2:=Zt (C:=⟨Tryz.prog,[(31,0),(33,2),(35,3)],[Zjc,ZUe,ZZa],[],[],[],[]⟩) ⟨Zmh,of_k,Zie,trivial⟩ trivial trivial trivial (inl:=[]) trivial (ann:=.no) Tryz.func54 (fun _ _=>by kernel_rfl) rfl fun v vals x z ha hz=>by obtain ⟨c0,w0,e0,p0,c1,e1,p1⟩:=ha;exact (qnew_i x.1 x.2).trans (Zcv p0.2 p1.2 hz)
end Go.Eng
set_option maxRecDepth 100000
set_option maxHeartbeats 4000000
namespace Go.Eng
open Go.Proofs Go.RowKit
noncomputable def Z6c:FuncId×Con:=(15,⟨[.pair (.int .i64) (.int .i64)],[.leaf 3],fun p=>ZMd p⟩)
theorem Zir (r:(Int×Int)):Zq ⟨Tryz.prog,[(31,0),(33,2),(35,3)],[Zuc,ZHj],[],[],[],[]⟩ [] Tryz.f15 .no [.pair (.int .i64) (.int .i64)] [.leaf 3] (r)=ZYl r:=by kernel_rfl
theorem Z8j:Zm Tryz.prog Z6c.1 Z6c.2:=Zt (C:=⟨Tryz.prog,[(31,0),(33,2),(35,3)],[Zuc,ZHj],[],[],[],[]⟩) ⟨Zhh,qnew_k,trivial⟩ trivial trivial trivial (inl:=[]) trivial (ann:=.no) Tryz.func15 (fun _ _=>by kernel_rfl) rfl fun v vals x z ha hz=>(Zir x).trans (Z6u hz)
end Go.Eng
set_option maxRecDepth 100000
set_option maxHeartbeats 4000000
namespace Go.Eng
open Go.Proofs Go.RowKit
noncomputable def Zhb:FuncId×Con:=(140,⟨[.slice (.int .u32)],[.leaf 1],fun p=>Z3a p⟩)
theorem rcut_i (a:(List Int)):Zq ⟨Tryz.prog,[],[],[],[],[],[]⟩ [] Tryz.f140 (.two .no (.two .no (.two (.cut ⟨⟨[],[],[]⟩,[(.norm,⟨[0],[],[.s 3 (.dat (.int .i64))]⟩)]⟩ (.two (.cut ⟨⟨[0],[],[.s 3 (.dat (.int .i64))]⟩,[(.exit 0,⟨[0],[],[.s 3 (.dat (.int .i64))]⟩)]⟩ (.two (.two (.two (.cut ⟨⟨[],[],[]⟩,[(.norm,⟨[0,3],[],[.s 15 (.dat .bool)]⟩)]⟩ .no) .no) .no) .no)) .no)) .no))) [.slice (.int .u32)] [.slice (.int .u32)] (a)=Z2k a:=by kernel_rfl
theorem ZBf:Zm Tryz.prog Zhb.1 Zhb.2:=ZBj (C:=⟨Tryz.prog,[],[],[],[],[],[]⟩) trivial trivial trivial trivial (inl:=[]) trivial (ann:=.two .no (.two .no (.two (.cut ⟨⟨[],[],[]⟩,[(.norm,⟨[0],[],[.s 3 (.dat (.int .i64))]⟩)]⟩ (.two (.cut ⟨⟨[0],[],[.s 3 (.dat (.int .i64))]⟩,[(.exit 0,⟨[0],[],[.s 3 (.dat (.int .i64))]⟩)]⟩ (.two (.two (.two (.cut ⟨⟨[],[],[]⟩,[(.norm,⟨[0,3],[],[.s 15 (.dat .bool)]⟩)]⟩ .no) .no) .no) .no)) .no)) .no))) (ats:=[.slice (.int .u32)]) (rts:=[.slice (.int .u32)]) (fun x=>(x)) (fun z=>(Zc 4294967296 z)) (fun _ _ _ h=>h) (fun _ _ _ h=>h) Tryz.func140 (fun _ _=>by kernel_rfl) rfl fun v vals x z ha hz=>by obtain ⟨c0,e0,p0⟩:=ha;exact (rcut_i x).trans (by cases hz;exact (rcut_eq (Zbl p0).1 (Zbl p0).2))
end Go.Eng
set_option maxRecDepth 100000
set_option maxHeartbeats 4000000
namespace Go.Eng
open Go.Proofs Go.RowKit
noncomputable def Z6f:FuncId×Con:=(84,⟨[.int .u64],[.leaf 1],fun p=>ZHc p⟩)
theorem rnat_i (n:Int):Zq ⟨Tryz.prog,[(39,1),(41,4)],[Zhb],[],[],[],[]⟩ [] Tryz.f84 .no [.int .u64] [.leaf 1] (n)=Ztl n:=by kernel_rfl
theorem ZYp:Zm Tryz.prog Z6f.1 Z6f.2:=Zt (C:=⟨Tryz.prog,[(39,1),(41,4)],[Zhb],[],[],[],[]⟩) ⟨ZBf,trivial⟩ trivial trivial trivial (inl:=[]) trivial (ann:=.no) Tryz.func84 (fun _ _=>by kernel_rfl) rfl fun v vals x z ha hz=>by obtain ⟨c0,e0,p0⟩:=ha;exact (rnat_i x).trans (Zwv p0.2 hz)
end Go.Eng
set_option maxRecDepth 100000
set_option maxHeartbeats 4000000
namespace Go.Eng
open Go.Proofs Go.RowKit
noncomputable def Zxj:FuncId×Con:=(86,⟨[.leaf 1,.leaf 1],[.leaf 1],fun p=>Zeg p.1 p.2⟩)
theorem rprod_i (a:Nat) (b:Nat):Zq ⟨Tryz.prog,[(39,1),(41,4)],[Zhb],[],[],[],[]⟩ [] Tryz.f86 (.two .no (.two .no (.two (.two .no (.cut ⟨⟨[],[],[]⟩,[(.norm,⟨[],[],[.s 5 (.own 156 (.int .u32))]⟩)]⟩ (.two (.cut ⟨⟨[0,1],[],[.s 5 (.own 156 (.int .u32)),.s 6 (.dat (.int .i64))]⟩,[(.exit 0,⟨[],[],[.s 5 (.own 156 (.int .u32))]⟩)]⟩ (.two (.two .no (.two (.two (.two .no (.two (.two .no (.cut ⟨⟨[],[],[]⟩,[(.norm,⟨[0,1,6],[],[.s 5 (.own 156 (.int .u32)),.s 7 (.dat (.int .u64))]⟩)]⟩ (.two (.cut ⟨⟨[0,1,6],[],[.s 5 (.own 156 (.int .u32)),.s 7 (.dat (.int .u64)),.s 8 (.dat (.int .i64))]⟩,[(.exit 2,⟨[0,1,6],[],[.s 5 (.own 156 (.int .u32)),.s 7 (.dat (.int .u64))]⟩)]⟩ .no) .no))) .no)) .no) .no)) .no)) .no))) .no))) [.leaf 1,.leaf 1] [.leaf 1] (a,b)=Z8i a b:=by kernel_rfl
theorem rprod_k:Zm Tryz.prog Zxj.1 Zxj.2:=Zt (C:=⟨Tryz.prog,[(39,1),(41,4)],[Zhb],[],[],[],[]⟩) ⟨ZBf,trivial⟩ trivial trivial trivial (inl:=[]) trivial (ann:=.two .no (.two .no (.two (.two .no (.cut ⟨⟨[],[],[]⟩,[(.norm,⟨[],[],[.s 5 (.own 156 (.int .u32))]⟩)]⟩ (.two (.cut ⟨⟨[0,1],[],[.s 5 (.own 156 (.int .u32)),.s 6 (.dat (.int .i64))]⟩,[(.exit 0,⟨[],[],[.s 5 (.own 156 (.int .u32))]⟩)]⟩ (.two (.two .no (.two (.two (.two .no (.two (.two .no (.cut ⟨⟨[],[],[]⟩,[(.norm,⟨[0,1,6],[],[.s 5 (.own 156 (.int .u32)),.s 7 (.dat (.int .u64))]⟩)]⟩ (.two (.cut ⟨⟨[0,1,6],[],[.s 5 (.own 156 (.int .u32)),.s 7 (.dat (.int .u64)),.s 8 (.dat (.int .i64))]⟩,[(.exit 2,⟨[0,1,6],[],[.s 5 (.own 156 (.int .u32)),.s 7 (.dat (.int .u64))]⟩)]⟩ .no) .no))) .no)) .no) .no)) .no)) .no))) .no))) Tryz.func86 (fun _ _=>by kernel_rfl) rfl fun v vals x z ha hz=>(rprod_i x.1 x.2).trans (ZBt hz)
end Go.Eng
set_option maxRecDepth 100000
set_option maxHeartbeats 4000000
namespace Go.Eng
open Go.Proofs Go.RowKit
noncomputable def ZDj:FuncId×Con:=(88,⟨[.leaf 1,.leaf 1],[.int .i64],fun p=>Znf p.1 p.2⟩)
theorem ZHr (a:Nat) (b:Nat):Zq ⟨Tryz.prog,[(39,1),(41,4)],[],[],[],[],[]⟩ [] Tryz.f88 (.two .no (.two .no (.two .no (.two (.two .no (.cut ⟨⟨[],[],[]⟩,[(.norm,⟨[],[],[]⟩),(.ret,⟨[],[],[.s 0 (.dat (.int .i64))]⟩)]⟩ (.two (.cut ⟨⟨[0,1],[],[.s 5 (.dat (.int .i64))]⟩,[(.ret,⟨[],[],[.s 0 (.dat (.int .i64))]⟩),(.exit 0,⟨[],[],[]⟩)]⟩ .no) .no))) .no)))) [.leaf 1,.leaf 1] [.int .i64] (a,b)=Znl a b:=by kernel_rfl
theorem ZCq:Zm Tryz.prog ZDj.1 ZDj.2:=Zt (C:=⟨Tryz.prog,[(39,1),(41,4)],[],[],[],[],[]⟩) trivial trivial trivial trivial (inl:=[]) trivial (ann:=.two .no (.two .no (.two .no (.two (.two .no (.cut ⟨⟨[],[],[]⟩,[(.norm,⟨[],[],[]⟩),(.ret,⟨[],[],[.s 0 (.dat (.int .i64))]⟩)]⟩ (.two (.cut ⟨⟨[0,1],[],[.s 5 (.dat (.int .i64))]⟩,[(.ret,⟨[],[],[.s 0 (.dat (.int .i64))]⟩),(.exit 0,⟨[],[],[]⟩)]⟩ .no) .no))) .no)))) Tryz.func88 (fun _ _=>by kernel_rfl) rfl fun v vals x z ha hz=>by obtain ⟨c0,w0,e0,p0,c1,e1,p1⟩:=ha;exact (ZHr x.1 x.2).trans ((Z1u (ZJn p0) (ZJn p1)).trans hz)
end Go.Eng
set_option maxRecDepth 100000
set_option maxHeartbeats 4000000
namespace Go.Eng
open Go.Proofs Go.RowKit
noncomputable def ZMi:FuncId×Con:=(89,⟨[.leaf 1,.leaf 1],[.leaf 1],fun p=>Z6d p.1 p.2⟩)
theorem rdif_i (a:Nat) (b:Nat):Zq ⟨Tryz.prog,[(39,1),(41,4)],[Zhb],[],[],[],[]⟩ [] Tryz.f89 (.two .no (.two .no (.two .no (.two (.two .no (.cut ⟨⟨[],[],[]⟩,[(.norm,⟨[],[],[.s 5 (.own 156 (.int .u32))]⟩)]⟩ (.two (.cut ⟨⟨[0,1],[],[.s 5 (.own 156 (.int .u32)),.s 6 (.dat (.int .i64)),.s 7 (.dat (.int .i64))]⟩,[(.exit 0,⟨[],[],[.s 5 (.own 156 (.int .u32))]⟩)]⟩ (.two (.two .no (.two (.two (.two .no (.two (.two .no (.cut ⟨⟨[],[],[]⟩,[(.norm,⟨[0,1,5,7],[],[.s 8 (.dat (.int .i64))]⟩)]⟩ .no)) (.two .no (.two (.two .no (.cut ⟨⟨[],[],[]⟩,[(.norm,⟨[0,1,5,7],[],[.s 6 (.dat (.int .i64)),.s 8 (.dat (.int .i64))]⟩)]⟩ .no)) .no)))) .no) .no)) .no)) .no))) .no)))) [.leaf 1,.leaf 1] [.leaf 1] (a,b)=ZDi a b:=by kernel_rfl
theorem rdif_k:Zm Tryz.prog ZMi.1 ZMi.2:=Zt (C:=⟨Tryz.prog,[(39,1),(41,4)],[Zhb],[],[],[],[]⟩) ⟨ZBf,trivial⟩ trivial trivial trivial (inl:=[]) trivial (ann:=.two .no (.two .no (.two .no (.two (.two .no (.cut ⟨⟨[],[],[]⟩,[(.norm,⟨[],[],[.s 5 (.own 156 (.int .u32))]⟩)]⟩ (.two (.cut ⟨⟨[0,1],[],[.s 5 (.own 156 (.int .u32)),.s 6 (.dat (.int .i64)),.s 7 (.dat (.int .i64))]⟩,[(.exit 0,⟨[],[],[.s 5 (.own 156 (.int .u32))]⟩)]⟩ (.two (.two .no (.two (.two (.two .no (.two (.two .no (.cut ⟨⟨[],[],[]⟩,[(.norm,⟨[0,1,5,7],[],[.s 8 (.dat (.int .i64))]⟩)]⟩ .no)) (.two .no (.two (.two .no (.cut ⟨⟨[],[],[]⟩,[(.norm,⟨[0,1,5,7],[],[.s 6 (.dat (.int .i64)),.s 8 (.dat (.int .i64))]⟩)]⟩ .no)) .no)))) .no) .no)) .no)) .no))) .no)))) Tryz.func89 (fun _ _=>by kernel_rfl) rfl fun v vals x z ha hz=>(rdif_i x.1 x.2).trans (ZNu hz)
end Go.Eng
set_option maxRecDepth 100000
set_option maxHeartbeats 4000000
namespace Go.Eng
open Go.Proofs Go.RowKit
noncomputable def ZGk:FuncId×Con:=(141,⟨[.leaf 1,.int .u32],[.leaf 1,.int .u32],fun p=>Zuh p.1 p.2⟩)
theorem ZIu (a:Nat) (b:Int):Zq ⟨Tryz.prog,[(39,1),(41,4)],[Zhb],[],[],[],[]⟩ [] Tryz.f141 (.two .no (.two .no (.two .no (.two (.two .no (.cut ⟨⟨[],[],[]⟩,[(.norm,⟨[],[],[.s 6 (.own 156 (.int .u32)),.s 7 (.dat (.int .u64))]⟩)]⟩ (.two (.cut ⟨⟨[0,1],[],[.s 6 (.own 156 (.int .u32)),.s 7 (.dat (.int .u64)),.s 8 (.dat (.int .i64))]⟩,[(.exit 0,⟨[],[],[.s 6 (.own 156 (.int .u32)),.s 7 (.dat (.int .u64))]⟩)]⟩ .no) .no))) .no)))) [.leaf 1,.int .u32] [.leaf 1,.int .u32] (a,b)=ZOi a b:=by kernel_rfl
theorem ZGs:Zm Tryz.prog ZGk.1 ZGk.2:=Zt (C:=⟨Tryz.prog,[(39,1),(41,4)],[Zhb],[],[],[],[]⟩) ⟨ZBf,trivial⟩ trivial trivial trivial (inl:=[]) trivial (ann:=.two .no (.two .no (.two .no (.two (.two .no (.cut ⟨⟨[],[],[]⟩,[(.norm,⟨[],[],[.s 6 (.own 156 (.int .u32)),.s 7 (.dat (.int .u64))]⟩)]⟩ (.two (.cut ⟨⟨[0,1],[],[.s 6 (.own 156 (.int .u32)),.s 7 (.dat (.int .u64)),.s 8 (.dat (.int .i64))]⟩,[(.exit 0,⟨[],[],[.s 6 (.own 156 (.int .u32)),.s 7 (.dat (.int .u64))]⟩)]⟩ .no) .no))) .no)))) Tryz.func141 (fun _ _=>by kernel_rfl) rfl fun v vals x z ha hz=>by obtain ⟨c0,w0,e0,p0,c1,e1,p1⟩:=ha;exact (ZIu x.1 x.2).trans (ZPt p1.2 hz)
end Go.Eng
set_option maxRecDepth 100000
set_option maxHeartbeats 4000000
namespace Go.Eng
open Go.Proofs Go.RowKit
noncomputable def Zfk:FuncId×Con:=(179,⟨[.leaf 1],[.int .i64],fun p=>ZXf p⟩)
theorem rbits_i (a:Nat):Zq ⟨Tryz.prog,[(39,1),(41,4)],[],[],[],[],[]⟩ [] Tryz.f179 (.two .no (.two .no (.two .no (.two (.two .no (.cut ⟨⟨[],[],[]⟩,[(.norm,⟨[],[],[.s 3 (.dat (.int .i64))]⟩)]⟩ (.two (.cut ⟨⟨[],[],[.s 3 (.dat (.int .i64)),.s 4 (.dat (.int .u32))]⟩,[(.exit 0,⟨[],[],[.s 3 (.dat (.int .i64))]⟩)]⟩ .no) .no))) .no)))) [.leaf 1] [.int .i64] (a)=Zdi a:=by kernel_rfl
theorem rbits_k:Zm Tryz.prog Zfk.1 Zfk.2:=Zt (C:=⟨Tryz.prog,[(39,1),(41,4)],[],[],[],[],[]⟩) trivial trivial trivial trivial (inl:=[]) trivial (ann:=.two .no (.two .no (.two .no (.two (.two .no (.cut ⟨⟨[],[],[]⟩,[(.norm,⟨[],[],[.s 3 (.dat (.int .i64))]⟩)]⟩ (.two (.cut ⟨⟨[],[],[.s 3 (.dat (.int .i64)),.s 4 (.dat (.int .u32))]⟩,[(.exit 0,⟨[],[],[.s 3 (.dat (.int .i64))]⟩)]⟩ .no) .no))) .no)))) Tryz.func179 (fun _ _=>by kernel_rfl) rfl fun v vals x z ha hz=>(rbits_i x).trans (Zqu hz)
end Go.Eng
set_option maxRecDepth 100000
set_option maxHeartbeats 4000000
namespace Go.Eng
open Go.Proofs Go.RowKit
noncomputable def ZPi:FuncId×Con:=(180,⟨[.leaf 1,.int .i64],[.leaf 1],fun p=>Zyd p.1 p.2⟩)
theorem Zor (a:Nat) (n:Int):Zq ⟨Tryz.prog,[(39,1),(41,4)],[Zhb],[],[],[],[]⟩ [] Tryz.f180 (.two .no (.two .no (.two .no (.two .no (.two (.two .no (.cut ⟨⟨[],[],[]⟩,[(.norm,⟨[],[],[.s 5 (.own 156 (.int .u32)),.s 6 (.dat (.int .u64))]⟩)]⟩ (.two (.cut ⟨⟨[0,1],[],[.s 5 (.own 156 (.int .u32)),.s 6 (.dat (.int .u64)),.s 7 (.dat (.int .i64))]⟩,[(.exit 0,⟨[],[],[.s 5 (.own 156 (.int .u32)),.s 6 (.dat (.int .u64))]⟩)]⟩ .no) .no))) .no))))) [.leaf 1,.int .i64] [.leaf 1] (a,n)=ZXj a n:=by kernel_rfl
theorem Zyq:Zm Tryz.prog ZPi.1 ZPi.2:=Zt (C:=⟨Tryz.prog,[(39,1),(41,4)],[Zhb],[],[],[],[]⟩) ⟨ZBf,trivial⟩ trivial trivial trivial (inl:=[]) trivial (ann:=.two .no (.two .no (.two .no (.two .no (.two (.two .no (.cut ⟨⟨[],[],[]⟩,[(.norm,⟨[],[],[.s 5 (.own 156 (.int .u32)),.s 6 (.dat (.int .u64))]⟩)]⟩ (.two (.cut ⟨⟨[0,1],[],[.s 5 (.own 156 (.int .u32)),.s 6 (.dat (.int .u64)),.s 7 (.dat (.int .i64))]⟩,[(.exit 0,⟨[],[],[.s 5 (.own 156 (.int .u32)),.s 6 (.dat (.int .u64))]⟩)]⟩ .no) .no))) .no))))) Tryz.func180 (fun _ _=>by kernel_rfl) rfl fun v vals x z ha hz=>(Zor x.1 x.2).trans (Zcr hz)
end Go.Eng
set_option maxRecDepth 100000
set_option maxHeartbeats 4000000
namespace Go.Eng
open Go.Proofs Go.RowKit
noncomputable def ZYj:FuncId×Con:=(181,⟨[.leaf 1,.int .i64],[.leaf 1],fun p=>Zqg p.1 p.2⟩)
theorem Zxu (a:Nat) (n:Int):Zq ⟨Tryz.prog,[(39,1),(41,4)],[Zhb],[],[],[],[]⟩ [] Tryz.f181 (.two .no (.two .no (.two (.two .no (.cut ⟨⟨[],[],[]⟩,[(.norm,⟨[],[],[.s 5 (.own 156 (.int .u32))]⟩)]⟩ (.two (.cut ⟨⟨[0,1],[],[.s 5 (.own 156 (.int .u32)),.s 6 (.dat (.int .i64))]⟩,[(.exit 0,⟨[],[],[.s 5 (.own 156 (.int .u32))]⟩)]⟩ (.two (.two .no (.two (.two (.two .no (.two (.two .no (.cut ⟨⟨[],[],[]⟩,[(.norm,⟨[0,1,5,6],[],[.s 7 (.dat (.int .u64))]⟩)]⟩ .no)) .no)) .no) .no)) .no)) .no))) .no))) [.leaf 1,.int .i64] [.leaf 1] (a,n)=Zmk a n:=by kernel_rfl
theorem ZNs:Zm Tryz.prog ZYj.1 ZYj.2:=Zt (C:=⟨Tryz.prog,[(39,1),(41,4)],[Zhb],[],[],[],[]⟩) ⟨ZBf,trivial⟩ trivial trivial trivial (inl:=[]) trivial (ann:=.two .no (.two .no (.two (.two .no (.cut ⟨⟨[],[],[]⟩,[(.norm,⟨[],[],[.s 5 (.own 156 (.int .u32))]⟩)]⟩ (.two (.cut ⟨⟨[0,1],[],[.s 5 (.own 156 (.int .u32)),.s 6 (.dat (.int .i64))]⟩,[(.exit 0,⟨[],[],[.s 5 (.own 156 (.int .u32))]⟩)]⟩ (.two (.two .no (.two (.two (.two .no (.two (.two .no (.cut ⟨⟨[],[],[]⟩,[(.norm,⟨[0,1,5,6],[],[.s 7 (.dat (.int .u64))]⟩)]⟩ .no)) .no)) .no) .no)) .no)) .no))) .no))) Tryz.func181 (fun _ _=>by kernel_rfl) rfl fun v vals x z ha hz=>by obtain ⟨c0,w0,e0,p0,c1,e1,p1⟩:=ha;exact (Zxu x.1 x.2).trans (Z4s p1.2 hz)
end Go.Eng
set_option maxRecDepth 100000
set_option maxHeartbeats 4000000
namespace Go.Eng
open Go.Proofs Go.RowKit
noncomputable def Zhg:FuncId×Con:=(139,⟨[.leaf 1,.leaf 1],[.leaf 1,.leaf 1],fun p=>Zoc p.1 p.2⟩)
theorem rquot_i (a:Nat) (b:Nat):Zq ⟨Tryz.prog,[(39,1),(41,4)],[Z6f,Zxj,ZDj,ZMi,Zhb,ZGk,Zfk,ZPi,ZYj],[],[],[],[]⟩ [] Tryz.f139 (.two .no (.two .no (.two .no (.two .no (.two .no (.two .no (.two .no (.two (.two .no (.cut ⟨⟨[],[],[]⟩,[(.norm,⟨[8],[],[.s 10 (.dat (.leaf 1)),.s 12 (.own 156 (.int .u32))]⟩)]⟩ (.two (.cut ⟨⟨[8,9,11],[],[.s 10 (.dat (.leaf 1)),.s 12 (.own 156 (.int .u32)),.s 13 (.dat (.int .i64))]⟩,[(.exit 0,⟨[8],[],[.s 10 (.dat (.leaf 1)),.s 12 (.own 156 (.int .u32))]⟩)]⟩ (.two (.two .no (.two (.cut ⟨⟨[],[],[]⟩,[(.norm,⟨[8,9,11,13],[],[.s 10 (.dat (.leaf 1)),.s 12 (.own 156 (.int .u32))]⟩)]⟩ (.two (.two .no (.two (.two .no (.cut ⟨⟨[],[],[]⟩,[(.norm,⟨[8,9,10,11,12,13],[],[.s 14 (.dat (.slice (.int .u32)))]⟩)]⟩ .no)) (.two .no (.two .no (.two (.two .no (.cut ⟨⟨[],[],[]⟩,[(.norm,⟨[8,9,10,11,12,13,14],[],[.s 15 (.dat (.int .u64))]⟩)]⟩ .no)) (.two .no (.two (.two .no (.cut ⟨⟨[],[],[]⟩,[(.norm,⟨[8,9,10,11,12,13,14],[],[.s 16 (.dat (.int .u64))]⟩)]⟩ .no)) (.two .no (.two (.cut ⟨⟨[],[],[]⟩,[(.norm,⟨[8,9,10,11,12,13,14],[],[.s 16 (.dat (.int .u64)),.s 17 (.dat (.leaf 1))]⟩)]⟩ (.two (.cut ⟨⟨[8,9,10,11,12,13,14],[],[.s 16 (.dat (.int .u64)),.s 17 (.dat (.leaf 1))]⟩,[(.exit 2,⟨[8,9,10,11,12,13,14],[],[.s 16 (.dat (.int .u64)),.s 17 (.dat (.leaf 1))]⟩)]⟩ .no) .no)) .no))))))))) .no)) .no)) .no)) .no))) .no)))))))) [.leaf 1,.leaf 1] [.leaf 1,.leaf 1] (a,b)=Zyk a b:=by kernel_rfl
theorem Z8n:Zm Tryz.prog Zhg.1 Zhg.2:=Zt (C:=⟨Tryz.prog,[(39,1),(41,4)],[Z6f,Zxj,ZDj,ZMi,Zhb,ZGk,Zfk,ZPi,ZYj],[],[],[],[]⟩) ⟨ZYp,rprod_k,ZCq,rdif_k,ZBf,ZGs,rbits_k,Zyq,ZNs,trivial⟩ trivial trivial trivial (inl:=[]) trivial (ann:=.two .no (.two .no (.two .no (.two .no (.two .no (.two .no (.two .no (.two (.two .no (.cut ⟨⟨[],[],[]⟩,[(.norm,⟨[8],[],[.s 10 (.dat (.leaf 1)),.s 12 (.own 156 (.int .u32))]⟩)]⟩ (.two (.cut ⟨⟨[8,9,11],[],[.s 10 (.dat (.leaf 1)),.s 12 (.own 156 (.int .u32)),.s 13 (.dat (.int .i64))]⟩,[(.exit 0,⟨[8],[],[.s 10 (.dat (.leaf 1)),.s 12 (.own 156 (.int .u32))]⟩)]⟩ (.two (.two .no (.two (.cut ⟨⟨[],[],[]⟩,[(.norm,⟨[8,9,11,13],[],[.s 10 (.dat (.leaf 1)),.s 12 (.own 156 (.int .u32))]⟩)]⟩ (.two (.two .no (.two (.two .no (.cut ⟨⟨[],[],[]⟩,[(.norm,⟨[8,9,10,11,12,13],[],[.s 14 (.dat (.slice (.int .u32)))]⟩)]⟩ .no)) (.two .no (.two .no (.two (.two .no (.cut ⟨⟨[],[],[]⟩,[(.norm,⟨[8,9,10,11,12,13,14],[],[.s 15 (.dat (.int .u64))]⟩)]⟩ .no)) (.two .no (.two (.two .no (.cut ⟨⟨[],[],[]⟩,[(.norm,⟨[8,9,10,11,12,13,14],[],[.s 16 (.dat (.int .u64))]⟩)]⟩ .no)) (.two .no (.two (.cut ⟨⟨[],[],[]⟩,[(.norm,⟨[8,9,10,11,12,13,14],[],[.s 16 (.dat (.int .u64)),.s 17 (.dat (.leaf 1))]⟩)]⟩ (.two (.cut ⟨⟨[8,9,10,11,12,13,14],[],[.s 16 (.dat (.int .u64)),.s 17 (.dat (.leaf 1))]⟩,[(.exit 2,⟨[8,9,10,11,12,13,14],[],[.s 16 (.dat (.int .u64)),.s 17 (.dat (.leaf 1))]⟩)]⟩ .no) .no)) .no))))))))) .no)) .no)) .no)) .no))) .no)))))))) Tryz.func139 (fun _ _=>by kernel_rfl) rfl fun v vals x z ha hz=>(rquot_i x.1 x.2).trans (Ztv hz)
end Go.Eng
set_option maxRecDepth 100000
set_option maxHeartbeats 4000000
namespace Go.Eng
open Go.Proofs Go.RowKit
noncomputable def ZQi:FuncId×Con:=(138,⟨[.leaf 1,.leaf 1],[.leaf 1],fun p=>rgcF p.1 p.2⟩)
theorem rgcd_i (a:Nat) (b:Nat):Zq ⟨Tryz.prog,[(39,1),(41,4)],[Zhg],[],[],[],[]⟩ [] Tryz.f138 (.two .no (.two (.cut ⟨⟨[],[],[]⟩,[(.norm,⟨[],[],[.s 0 (.dat (.leaf 1))]⟩)]⟩ (.two (.cut ⟨⟨[],[],[.s 0 (.dat (.leaf 1)),.s 1 (.dat (.leaf 1))]⟩,[(.exit 0,⟨[],[],[.s 0 (.dat (.leaf 1))]⟩)]⟩ .no) .no)) .no)) [.leaf 1,.leaf 1] [.leaf 1] (a,b)=ZEj a b:=by kernel_rfl
theorem rgcd_k:Zm Tryz.prog ZQi.1 ZQi.2:=Zt (C:=⟨Tryz.prog,[(39,1),(41,4)],[Zhg],[],[],[],[]⟩) ⟨Z8n,trivial⟩ trivial trivial trivial (inl:=[]) trivial (ann:=.two .no (.two (.cut ⟨⟨[],[],[]⟩,[(.norm,⟨[],[],[.s 0 (.dat (.leaf 1))]⟩)]⟩ (.two (.cut ⟨⟨[],[],[.s 0 (.dat (.leaf 1)),.s 1 (.dat (.leaf 1))]⟩,[(.exit 0,⟨[],[],[.s 0 (.dat (.leaf 1))]⟩)]⟩ .no) .no)) .no)) Tryz.func138 (fun _ _=>by kernel_rfl) rfl fun v vals x z ha hz=>(rgcd_i x.1 x.2).trans (rgcF_eq hz)
end Go.Eng
set_option maxRecDepth 100000
set_option maxHeartbeats 4000000
namespace Go.Eng
open Go.Proofs Go.RowKit
noncomputable def Zag:FuncId×Con:=(83,⟨[.bool,.leaf 1,.leaf 1],[.leaf 4],fun p=>ZEe p.1 p.2.1 p.2.2⟩)
theorem rfrac_i (s:Bool) (n:Nat) (d:Nat):Zq ⟨Tryz.prog,[(39,1),(41,4)],[ZQi,Zhg],[],[],[],[]⟩ [] Tryz.f83 .no [.bool,.leaf 1,.leaf 1] [.leaf 4] (s,n,d)=Z4k s n d:=by kernel_rfl
theorem Zpp:Zm Tryz.prog Zag.1 Zag.2:=Zt (C:=⟨Tryz.prog,[(39,1),(41,4)],[ZQi,Zhg],[],[],[],[]⟩) ⟨rgcd_k,Z8n,trivial⟩ trivial trivial trivial (inl:=[]) trivial (ann:=.no) Tryz.func83 (fun _ _=>by kernel_rfl) rfl fun v vals x z ha hz=>(rfrac_i x.1 x.2.1 x.2.2).trans (ZFu hz)
end Go.Eng
set_option maxRecDepth 100000
set_option maxHeartbeats 4000000
namespace Go.Eng
open Go.Proofs Go.RowKit
noncomputable def ZHf:FuncId×Con:=(40,⟨[.int .i64],[.leaf 4],fun p=>ZLd p⟩)
theorem ZAv (n:Int):Zq ⟨Tryz.prog,[(39,1),(41,4)],[Zag,Z6f],[],[],[],[]⟩ [] Tryz.f40 .no [.int .i64] [.leaf 4] (n)=Zrk n:=by kernel_rfl
theorem ZQp:Zm Tryz.prog ZHf.1 ZHf.2:=Zt (C:=⟨Tryz.prog,[(39,1),(41,4)],[Zag,Z6f],[],[],[],[]⟩) ⟨Zpp,ZYp,trivial⟩ trivial trivial trivial (inl:=[]) trivial (ann:=.no) Tryz.func40 (fun _ _=>by kernel_rfl) rfl fun v vals x z ha hz=>by obtain ⟨c0,e0,p0⟩:=ha;exact (ZAv x).trans (ZCu p0.2 hz)
end Go.Eng
set_option maxRecDepth 100000
set_option maxHeartbeats 4000000
namespace Go.Eng
open Go.Proofs Go.RowKit
noncomputable def Z7j:FuncId×Con:=(77,⟨[.int .i64,.int .i64],[.leaf 4,.int .i64],fun p=>ZWh p.1 p.2⟩)
theorem rnew_i (n:Int) (d:Int):Zq ⟨Tryz.prog,[(39,1),(41,4)],[ZHf,Zag],[],[],[],[]⟩ [] Tryz.f77 .no [.int .i64,.int .i64] [.leaf 4,.int .i64] (n,d)=ZJl n d:=by kernel_rfl
theorem rnew_k:Zm Tryz.prog Z7j.1 Z7j.2:=Zt (C:=⟨Tryz.prog,[(39,1),(41,4)],[ZHf,Zag],[],[],[],[]⟩) ⟨ZQp,Zpp,trivial⟩ trivial trivial trivial (inl:=[]) trivial (ann:=.no) Tryz.func77 (fun _ _=>by kernel_rfl) rfl fun v vals x z ha hz=>by obtain ⟨c0,w0,e0,p0,c1,e1,p1⟩:=ha;exact (rnew_i x.1 x.2).trans (Zns p0.2 p1.2 hz)
end Go.Eng
set_option maxRecDepth 100000
set_option maxHeartbeats 4000000
namespace Go.Eng
open Go.Proofs Go.RowKit
noncomputable def Zye:FuncId×Con:=(36,⟨[.pair (.int .i64) (.int .i64)],[.leaf 4],fun p=>Zle p⟩)
theorem rof_i (r:(Int×Int)):Zq ⟨Tryz.prog,[(39,1),(41,4)],[ZHf,Z7j],[],[],[],[]⟩ [] Tryz.f36 .no [.pair (.int .i64) (.int .i64)] [.leaf 4] (r)=rof_m r:=by kernel_rfl
theorem rof_k:Zm Tryz.prog Zye.1 Zye.2:=Zt (C:=⟨Tryz.prog,[(39,1),(41,4)],[ZHf,Z7j],[],[],[],[]⟩) ⟨ZQp,rnew_k,trivial⟩ trivial trivial trivial (inl:=[]) trivial (ann:=.no) Tryz.func36 (fun _ _=>by kernel_rfl) rfl fun v vals x z ha hz=>(rof_i x).trans (rofF_eq hz)
end Go.Eng
set_option maxRecDepth 100000
set_option maxHeartbeats 4000000
namespace Go.Eng
open Go.Proofs Go.RowKit
noncomputable def Zsj:FuncId×Con:=(29,⟨[.pair (.pair (.int .i64) (.int .i64)) (.pair (.pair (.int .i64) (.int .i64)) (.pair (.int .i64) (.int .i64)))],[.pair (.leaf 3) (.pair (.leaf 3) (.leaf 3)),.pair (.leaf 4) (.pair (.leaf 4) (.leaf 4))],fun p=>ZPl p⟩)
theorem drum8_i (d:((Int×Int)×(Int×Int)×(Int×Int))):Zq ⟨Tryz.prog,[(31,0),(33,2),(35,3),(39,1),(41,4)],[Z6c,Zye],[],[],[],[]⟩ [] Tryz.f29 .no [.pair (.pair (.int .i64) (.int .i64)) (.pair (.pair (.int .i64) (.int .i64)) (.pair (.int .i64) (.int .i64)))] [.pair (.leaf 3) (.pair (.leaf 3) (.leaf 3)),.pair (.leaf 4) (.pair (.leaf 4) (.leaf 4))] (d)=ZPl d:=by kernel_rfl
theorem drum8_k:Zm Tryz.prog Zsj.1 Zsj.2:=Zt (C:=⟨Tryz.prog,[(31,0),(33,2),(35,3),(39,1),(41,4)],[Z6c,Zye],[],[],[],[]⟩) ⟨Z8j,rof_k,trivial⟩ trivial trivial trivial (inl:=[]) trivial (ann:=.no) Tryz.func29 (fun _ _=>by kernel_rfl) rfl fun v vals x z ha hz=>(drum8_i x).trans (hz)
end Go.Eng
set_option maxRecDepth 100000
set_option maxHeartbeats 4000000
namespace Go.Eng
open Go.Proofs Go.RowKit
noncomputable def ZWc:FuncId×Con:=(47,⟨[.leaf 0],[.leaf 0],fun p=>ZKb p⟩)
theorem under_i (d:Nat):Zq ⟨Tryz.prog,[(31,0),(33,2),(35,3)],[ZHb],[],[],[],[]⟩ [] Tryz.f47 .no [.leaf 0] [.leaf 0] (d)=Zbm d:=by kernel_rfl
theorem Z1j:Zm Tryz.prog ZWc.1 ZWc.2:=Zt (C:=⟨Tryz.prog,[(31,0),(33,2),(35,3)],[ZHb],[],[],[],[]⟩) ⟨Zkg,trivial⟩ trivial trivial trivial (inl:=[]) trivial (ann:=.no) Tryz.func47 (fun _ _=>by kernel_rfl) rfl fun v vals x z ha hz=>(under_i x).trans (Zls hz)
end Go.Eng
set_option maxRecDepth 100000
set_option maxHeartbeats 4000000
namespace Go.Eng
open Go.Proofs Go.RowKit
noncomputable def Z0i:FuncId×Con:=(100,⟨[.int .u64,.int .u64],[.int .u64,.int .u64],fun p=>ZVb p.1 p.2⟩)
theorem mul64_i (x:Int) (y:Int):Zq ⟨Tryz.prog,[],[],[],[],[],[]⟩ [] Tryz.f100 .no [.int .u64,.int .u64] [.int .u64,.int .u64] (x,y)=Zfg x y:=by kernel_rfl
theorem mul64_k:Zm Tryz.prog Z0i.1 Z0i.2:=Zt (C:=⟨Tryz.prog,[],[],[],[],[],[]⟩) trivial trivial trivial trivial (inl:=[]) trivial (ann:=.no) Tryz.func100 (fun _ _=>by kernel_rfl) rfl fun v vals x z ha hz=>(mul64_i x.1 x.2).trans (Zjq hz)
end Go.Eng
set_option maxRecDepth 100000
set_option maxHeartbeats 4000000
namespace Go.Eng
open Go.Proofs Go.RowKit
noncomputable def ZAg:FuncId×Con:=(101,⟨[.int .u64,.int .u64,.int .u64],[.int .u64,.int .u64],fun p=>Z6a p.1 p.2.1 p.2.2⟩)
theorem Zmn:Zm Tryz.prog ZAg.1 ZAg.2:=fun w v vals x z _ ha hz=>by
 obtain ⟨c0,w0,e0,p0,c1,w1,e1,p1,c2,e2,p2⟩:=ha
 subst e0 e1 e2
 obtain ⟨rfl,h0⟩:=p0
 obtain ⟨rfl,h1⟩:=p1
 obtain ⟨rfl,h2⟩:=p2
 have p0:(Zd .u64).rel v [.int .u64 x.1] x.1:=⟨rfl,h0⟩
 have p1:(Zd .u64).rel v [.int .u64 x.2.1] x.2.1:=⟨rfl,h1⟩
 exact .inr ⟨.tuple #[.int .u64 z.1,.int .u64 z.2],fun w=>ZBm (show Zje Tryz.prog 101 add64Entry from ⟨_,Tryz.func101,by kernel_rfl,by kernel_rfl,by kernel_rfl,by kernel_rfl⟩) hz w,_,rfl,_,_,rfl,⟨rfl,ZQk hz⟩,_,rfl,⟨rfl,addW_hi p0.2 p1.2 hz⟩⟩
end Go.Eng
set_option maxRecDepth 100000
set_option maxHeartbeats 4000000
namespace Go.Eng
open Go.Proofs Go.RowKit
noncomputable def Zvc:FuncId×Con:=(51,⟨[.leaf 0,.leaf 0],[.leaf 0],fun p=>Z7b p.1 p.2⟩)
theorem times_i (a:Nat) (b:Nat):Zq ⟨Tryz.prog,[(31,0)],[ZTf,Z0i,ZAg,Z2c],[],[],[],[]⟩ [] Tryz.f51 (.two .no (.two .no (.two .no (.two .no (.two (.two .no (.cut ⟨⟨[],[],[]⟩,[(.norm,⟨[],[],[.s 5 (.own 155 (.int .u64))]⟩)]⟩ (.two (.cut ⟨⟨[1,26,27],[],[.s 5 (.own 155 (.int .u64)),.s 28 (.dat (.int .i64))]⟩,[(.exit 0,⟨[],[],[.s 5 (.own 155 (.int .u64))]⟩)]⟩ (.two (.two .no (.two .no (.two (.two (.two .no (.two .no (.two (.two .no (.cut ⟨⟨[],[],[]⟩,[(.norm,⟨[1,6,26,27,28],[],[.s 5 (.own 155 (.int .u64)),.s 8 (.dat (.int .u64))]⟩)]⟩ (.two (.cut ⟨⟨[1,6,7,26,27,28,33,34],[],[.s 5 (.own 155 (.int .u64)),.s 8 (.dat (.int .u64)),.s 35 (.dat (.int .i64))]⟩,[(.exit 2,⟨[1,6,26,27,28],[],[.s 5 (.own 155 (.int .u64)),.s 8 (.dat (.int .u64))]⟩)]⟩ .no) .no))) .no))) .no) .no))) .no)) .no))) .no))))) [.leaf 0,.leaf 0] [.leaf 0] (a,b)=Zzj a b:=by kernel_rfl
theorem ZRg:Zm Tryz.prog Zvc.1 Zvc.2:=Zt (C:=⟨Tryz.prog,[(31,0)],[ZTf,Z0i,ZAg,Z2c],[],[],[],[]⟩) ⟨ZDp,mul64_k,Zmn,Zvk,trivial⟩ trivial trivial trivial (inl:=[]) trivial (ann:=.two .no (.two .no (.two .no (.two .no (.two (.two .no (.cut ⟨⟨[],[],[]⟩,[(.norm,⟨[],[],[.s 5 (.own 155 (.int .u64))]⟩)]⟩ (.two (.cut ⟨⟨[1,26,27],[],[.s 5 (.own 155 (.int .u64)),.s 28 (.dat (.int .i64))]⟩,[(.exit 0,⟨[],[],[.s 5 (.own 155 (.int .u64))]⟩)]⟩ (.two (.two .no (.two .no (.two (.two (.two .no (.two .no (.two (.two .no (.cut ⟨⟨[],[],[]⟩,[(.norm,⟨[1,6,26,27,28],[],[.s 5 (.own 155 (.int .u64)),.s 8 (.dat (.int .u64))]⟩)]⟩ (.two (.cut ⟨⟨[1,6,7,26,27,28,33,34],[],[.s 5 (.own 155 (.int .u64)),.s 8 (.dat (.int .u64)),.s 35 (.dat (.int .i64))]⟩,[(.exit 2,⟨[1,6,26,27,28],[],[.s 5 (.own 155 (.int .u64)),.s 8 (.dat (.int .u64))]⟩)]⟩ .no) .no))) .no))) .no) .no))) .no)) .no))) .no))))) Tryz.func51 (fun _ _=>by kernel_rfl) rfl fun v vals x z ha hz=>(times_i x.1 x.2).trans (Zis hz)
end Go.Eng
set_option maxRecDepth 100000
set_option maxHeartbeats 4000000
namespace Go.Eng
open Go.Proofs Go.RowKit
noncomputable def ZJg:FuncId×Con:=(49,⟨[.leaf 2,.leaf 0],[.leaf 2],fun p=>Zee p.1 p.2⟩)
theorem ZTu (x:Int) (n:Nat):Zq ⟨Tryz.prog,[(31,0),(33,2),(35,3)],[Zvc,ZZa],[],[],[],[]⟩ [] Tryz.f49 .no [.leaf 2,.leaf 0] [.leaf 2] (x,n)=ZWm x n:=by kernel_rfl
theorem ZKp:Zm Tryz.prog ZJg.1 ZJg.2:=Zt (C:=⟨Tryz.prog,[(31,0),(33,2),(35,3)],[Zvc,ZZa],[],[],[],[]⟩) ⟨ZRg,Zie,trivial⟩ trivial trivial trivial (inl:=[]) trivial (ann:=.no) Tryz.func49 (fun _ _=>by kernel_rfl) rfl fun v vals x z ha hz=>(ZTu x.1 x.2).trans (Zjt hz)
end Go.Eng
set_option maxRecDepth 100000
set_option maxHeartbeats 4000000
namespace Go.Eng
open Go.Proofs Go.RowKit
noncomputable def Zek:FuncId×Con:=(55,⟨[.leaf 0,.leaf 0],[.int .i64],fun p=>ZKe p.1 p.2⟩)
theorem cmp_i (a:(List Int)) (b:(List Int)):Zq ⟨Tryz.prog,[],[],[],[],[],[]⟩ [] Tryz.f55 (.two .no (.two .no (.two (.two .no (.cut ⟨⟨[],[],[]⟩,[(.norm,⟨[],[],[]⟩),(.ret,⟨[],[],[.s 0 (.dat (.int .i64))]⟩)]⟩ (.two (.cut ⟨⟨[0,1],[],[.s 5 (.dat (.int .i64))]⟩,[(.ret,⟨[],[],[.s 0 (.dat (.int .i64))]⟩),(.exit 0,⟨[],[],[]⟩)]⟩ .no) .no))) .no))) [.slice (.int .u64),.slice (.int .u64)] [.int .i64] (a,b)=Z2g a b:=by kernel_rfl
theorem cmp_k:Zm Tryz.prog Zek.1 Zek.2:=ZBj (C:=⟨Tryz.prog,[],[],[],[],[],[]⟩) trivial trivial trivial trivial (inl:=[]) trivial (ann:=.two .no (.two .no (.two (.two .no (.cut ⟨⟨[],[],[]⟩,[(.norm,⟨[],[],[]⟩),(.ret,⟨[],[],[.s 0 (.dat (.int .i64))]⟩)]⟩ (.two (.cut ⟨⟨[0,1],[],[.s 5 (.dat (.int .i64))]⟩,[(.ret,⟨[],[],[.s 0 (.dat (.int .i64))]⟩),(.exit 0,⟨[],[],[]⟩)]⟩ .no) .no))) .no))) (ats:=[.slice (.int .u64),.slice (.int .u64)]) (rts:=[.int .i64]) (fun x=>((Zc 18446744073709551616 x.1),(Zc 18446744073709551616 x.2))) (fun z=>z) (fun _ _ _ h=>h) (fun _ _ _ h=>h) Tryz.func55 (fun _ _=>by kernel_rfl) rfl fun v vals x z ha hz=>by obtain ⟨c0,w0,e0,p0,c1,e1,p1⟩:=ha;exact (cmp_i (Zc 18446744073709551616 x.1) (Zc 18446744073709551616 x.2)).trans ((ZVo (ZRi p0) (ZRi p1)).trans hz)
end Go.Eng
set_option maxRecDepth 100000
set_option maxHeartbeats 4000000
namespace Go.Eng
open Go.Proofs Go.RowKit
noncomputable def ZVf:FuncId×Con:=(98,⟨[.leaf 0,.leaf 0],[.leaf 0],fun p=>Zhf p.1 p.2⟩)
theorem plus_i (a:Nat) (b:Nat):Zq ⟨Tryz.prog,[(31,0)],[ZAg],[],[],[],[]⟩ [] Tryz.f98 (.two .no (.two (.two .no (.cut ⟨⟨[],[],[]⟩,[(.norm,⟨[],[],[.s 0 (.dat (.leaf 0)),.s 1 (.dat (.leaf 0))]⟩)]⟩ .no)) (.two .no (.two .no (.two (.two .no (.cut ⟨⟨[],[],[]⟩,[(.norm,⟨[],[],[.s 5 (.own 155 (.int .u64)),.s 6 (.dat (.int .u64))]⟩)]⟩ (.two (.cut ⟨⟨[1,23,24],[],[.s 5 (.own 155 (.int .u64)),.s 6 (.dat (.int .u64)),.s 25 (.dat (.int .i64))]⟩,[(.exit 0,⟨[],[],[.s 5 (.own 155 (.int .u64)),.s 6 (.dat (.int .u64))]⟩)]⟩ (.two (.two .no (.two .no (.two (.two (.two .no (.two .no (.two (.two .no (.cut ⟨⟨[],[],[]⟩,[(.norm,⟨[1,5,6,7,8,23,24,25],[],[.s 9 (.dat (.int .u64))]⟩)]⟩ .no)) .no))) .no) .no))) .no)) .no))) (.two (.two .no (.cut ⟨⟨[],[],[]⟩,[(.norm,⟨[],[],[.s 5 (.own 155 (.int .u64))]⟩)]⟩ .no)) .no)))))) [.leaf 0,.leaf 0] [.leaf 0] (a,b)=ZMj a b:=by kernel_rfl
theorem Zoq:Zm Tryz.prog ZVf.1 ZVf.2:=Zt (C:=⟨Tryz.prog,[(31,0)],[ZAg],[],[],[],[]⟩) ⟨Zmn,trivial⟩ trivial trivial trivial (inl:=[]) trivial (ann:=.two .no (.two (.two .no (.cut ⟨⟨[],[],[]⟩,[(.norm,⟨[],[],[.s 0 (.dat (.leaf 0)),.s 1 (.dat (.leaf 0))]⟩)]⟩ .no)) (.two .no (.two .no (.two (.two .no (.cut ⟨⟨[],[],[]⟩,[(.norm,⟨[],[],[.s 5 (.own 155 (.int .u64)),.s 6 (.dat (.int .u64))]⟩)]⟩ (.two (.cut ⟨⟨[1,23,24],[],[.s 5 (.own 155 (.int .u64)),.s 6 (.dat (.int .u64)),.s 25 (.dat (.int .i64))]⟩,[(.exit 0,⟨[],[],[.s 5 (.own 155 (.int .u64)),.s 6 (.dat (.int .u64))]⟩)]⟩ (.two (.two .no (.two .no (.two (.two (.two .no (.two .no (.two (.two .no (.cut ⟨⟨[],[],[]⟩,[(.norm,⟨[1,5,6,7,8,23,24,25],[],[.s 9 (.dat (.int .u64))]⟩)]⟩ .no)) .no))) .no) .no))) .no)) .no))) (.two (.two .no (.cut ⟨⟨[],[],[]⟩,[(.norm,⟨[],[],[.s 5 (.own 155 (.int .u64))]⟩)]⟩ .no)) .no)))))) Tryz.func98 (fun _ _=>by kernel_rfl) rfl fun v vals x z ha hz=>(plus_i x.1 x.2).trans (Z8s hz)
end Go.Eng
set_option maxRecDepth 100000
set_option maxHeartbeats 4000000
namespace Go.Eng
open Go.Proofs Go.RowKit
noncomputable def Z1i:FuncId×Con:=(147,⟨[.int .u64,.int .u64,.int .u64],[.int .u64,.int .u64],fun p=>ZDc p.1 p.2.1 p.2.2⟩)
theorem sub64_k:Zm Tryz.prog Z1i.1 Z1i.2:=fun w v vals x z _ ha hz=>by
 obtain ⟨c0,w0,e0,p0,c1,w1,e1,p1,c2,e2,p2⟩:=ha
 subst e0 e1 e2
 obtain ⟨rfl,h0⟩:=p0
 obtain ⟨rfl,h1⟩:=p1
 obtain ⟨rfl,h2⟩:=p2
 have p0:(Zd .u64).rel v [.int .u64 x.1] x.1:=⟨rfl,h0⟩
 have p1:(Zd .u64).rel v [.int .u64 x.2.1] x.2.1:=⟨rfl,h1⟩
 exact .inr ⟨.tuple #[.int .u64 z.1,.int .u64 z.2],fun w=>ZTp (show Zje Tryz.prog 147 Zpi from ⟨_,Tryz.func147,by kernel_rfl,by kernel_rfl,by kernel_rfl,by kernel_rfl⟩) p0.2 p1.2 hz w,_,rfl,_,_,rfl,⟨rfl,Zbn hz⟩,_,rfl,⟨rfl,Z7n hz⟩⟩
end Go.Eng
set_option maxRecDepth 100000
set_option maxHeartbeats 4000000
namespace Go.Eng
open Go.Proofs Go.RowKit
noncomputable def ZCk:FuncId×Con:=(99,⟨[.leaf 0,.leaf 0],[.leaf 0],fun p=>Zxg p.1 p.2⟩)
theorem minus_i (a:Nat) (b:Nat):Zq ⟨Tryz.prog,[(31,0)],[Z2c,Z1i],[],[],[],[]⟩ [] Tryz.f99 (.two .no (.two .no (.two .no (.two (.two .no (.cut ⟨⟨[],[],[]⟩,[(.norm,⟨[],[],[.s 5 (.own 155 (.int .u64))]⟩)]⟩ (.two (.cut ⟨⟨[1,13,14],[],[.s 5 (.own 155 (.int .u64)),.s 6 (.dat (.int .u64)),.s 15 (.dat (.int .i64))]⟩,[(.exit 0,⟨[],[],[.s 5 (.own 155 (.int .u64))]⟩)]⟩ (.two (.two .no (.two .no (.two (.two (.two .no (.two .no (.two (.two .no (.cut ⟨⟨[],[],[]⟩,[(.norm,⟨[1,5,6,7,8,13,14,15],[],[.s 9 (.dat (.int .u64))]⟩)]⟩ .no)) .no))) .no) .no))) .no)) .no))) .no)))) [.leaf 0,.leaf 0] [.leaf 0] (a,b)=Zji a b:=by kernel_rfl
theorem minus_k:Zm Tryz.prog ZCk.1 ZCk.2:=Zt (C:=⟨Tryz.prog,[(31,0)],[Z2c,Z1i],[],[],[],[]⟩) ⟨Zvk,sub64_k,trivial⟩ trivial trivial trivial (inl:=[]) trivial (ann:=.two .no (.two .no (.two .no (.two (.two .no (.cut ⟨⟨[],[],[]⟩,[(.norm,⟨[],[],[.s 5 (.own 155 (.int .u64))]⟩)]⟩ (.two (.cut ⟨⟨[1,13,14],[],[.s 5 (.own 155 (.int .u64)),.s 6 (.dat (.int .u64)),.s 15 (.dat (.int .i64))]⟩,[(.exit 0,⟨[],[],[.s 5 (.own 155 (.int .u64))]⟩)]⟩ (.two (.two .no (.two .no (.two (.two (.two .no (.two .no (.two (.two .no (.cut ⟨⟨[],[],[]⟩,[(.norm,⟨[1,5,6,7,8,13,14,15],[],[.s 9 (.dat (.int .u64))]⟩)]⟩ .no)) .no))) .no) .no))) .no)) .no))) .no)))) Tryz.func99 (fun _ _=>by kernel_rfl) rfl fun v vals x z ha hz=>(minus_i x.1 x.2).trans (ZBr hz)
end Go.Eng
set_option maxRecDepth 100000
set_option maxHeartbeats 4000000
namespace Go.Eng
open Go.Proofs Go.RowKit
noncomputable def Zok:FuncId×Con:=(50,⟨[.leaf 2,.leaf 2],[.leaf 2],fun p=>ZUh p.1 p.2⟩)
theorem iplus_i (x:Int) (y:Int):Zq ⟨Tryz.prog,[(31,0),(33,2),(35,3)],[Zek,ZZa,ZVf,ZCk],[],[],[],[]⟩ [] Tryz.f50 .no [.leaf 2,.leaf 2] [.leaf 2] (x,y)=Zpm x y:=by kernel_rfl
theorem iplus_k:Zm Tryz.prog Zok.1 Zok.2:=Zt (C:=⟨Tryz.prog,[(31,0),(33,2),(35,3)],[Zek,ZZa,ZVf,ZCk],[],[],[],[]⟩) ⟨cmp_k,Zie,Zoq,minus_k,trivial⟩ trivial trivial trivial (inl:=[]) trivial (ann:=.no) Tryz.func50 (fun _ _=>by kernel_rfl) rfl fun v vals x z ha hz=>(iplus_i x.1 x.2).trans (Zlu hz)
end Go.Eng
set_option maxRecDepth 100000
set_option maxHeartbeats 4000000
namespace Go.Eng
open Go.Proofs Go.RowKit
noncomputable def ZOb:FuncId×Con:=(12,⟨[.leaf 3,.leaf 3],[.leaf 3],fun p=>ZBb p.1 p.2⟩)
theorem qadd_i (x:Rat) (y:Rat):Zq ⟨Tryz.prog,[(31,0),(33,2),(35,3)],[ZWc,Zjc,ZJg,Zok,Zvc],[],[],[],[]⟩ [] Tryz.f12 .no [.leaf 3,.leaf 3] [.leaf 3] (x,y)=Zll x y:=by kernel_rfl
theorem ZDf:Zm Tryz.prog ZOb.1 ZOb.2:=Zt (C:=⟨Tryz.prog,[(31,0),(33,2),(35,3)],[ZWc,Zjc,ZJg,Zok,Zvc],[],[],[],[]⟩) ⟨Z1j,Zmh,ZKp,iplus_k,ZRg,trivial⟩ trivial trivial trivial (inl:=[]) trivial (ann:=.no) Tryz.func12 (fun _ _=>by kernel_rfl) rfl fun v vals x z ha hz=>(qadd_i x.1 x.2).trans (Zws hz)
end Go.Eng
set_option maxRecDepth 100000
set_option maxHeartbeats 4000000
namespace Go.Eng
open Go.Proofs Go.RowKit
noncomputable def Zkk:FuncId×Con:=(52,⟨[.leaf 2,.leaf 2],[.leaf 2],fun p=>ZCh p.1 p.2⟩)
theorem Z0u (x:Int) (y:Int):Zq ⟨Tryz.prog,[(31,0),(33,2),(35,3)],[Zvc,ZZa],[],[],[],[]⟩ [] Tryz.f52 .no [.leaf 2,.leaf 2] [.leaf 2] (x,y)=Z0l x y:=by kernel_rfl
theorem ZVr:Zm Tryz.prog Zkk.1 Zkk.2:=Zt (C:=⟨Tryz.prog,[(31,0),(33,2),(35,3)],[Zvc,ZZa],[],[],[],[]⟩) ⟨ZRg,Zie,trivial⟩ trivial trivial trivial (inl:=[]) trivial (ann:=.no) Tryz.func52 (fun _ _=>by kernel_rfl) rfl fun v vals x z ha hz=>(Z0u x.1 x.2).trans (Z2t hz)
end Go.Eng
set_option maxRecDepth 100000
set_option maxHeartbeats 4000000
namespace Go.Eng
open Go.Proofs Go.RowKit
noncomputable def Znc:FuncId×Con:=(13,⟨[.leaf 3,.leaf 3],[.leaf 3],fun p=>Z1a p.1 p.2⟩)
theorem qmul_i (x:Rat) (y:Rat):Zq ⟨Tryz.prog,[(31,0),(33,2),(35,3)],[ZWc,Zjc,Zvc,Zkk],[],[],[],[]⟩ [] Tryz.f13 .no [.leaf 3,.leaf 3] [.leaf 3] (x,y)=Zel x y:=by kernel_rfl
theorem Z3g:Zm Tryz.prog Znc.1 Znc.2:=Zt (C:=⟨Tryz.prog,[(31,0),(33,2),(35,3)],[ZWc,Zjc,Zvc,Zkk],[],[],[],[]⟩) ⟨Z1j,Zmh,ZRg,ZVr,trivial⟩ trivial trivial trivial (inl:=[]) trivial (ann:=.no) Tryz.func13 (fun _ _=>by kernel_rfl) rfl fun v vals x z ha hz=>(qmul_i x.1 x.2).trans (Zgt hz)
end Go.Eng
set_option maxRecDepth 100000
set_option maxHeartbeats 4000000
namespace Go.Eng
open Go.Proofs Go.RowKit
noncomputable def Zck:FuncId×Con:=(103,⟨[.leaf 2],[.leaf 2],fun p=>ZLg p⟩)
theorem Zcu (x:Int):Zq ⟨Tryz.prog,[(31,0),(33,2),(35,3)],[ZZa],[],[],[],[]⟩ [] Tryz.f103 .no [.leaf 2] [.leaf 2] (x)=Zpl x:=by kernel_rfl
theorem ZUq:Zm Tryz.prog Zck.1 Zck.2:=Zt (C:=⟨Tryz.prog,[(31,0),(33,2),(35,3)],[ZZa],[],[],[],[]⟩) ⟨Zie,trivial⟩ trivial trivial trivial (inl:=[]) trivial (ann:=.no) Tryz.func103 (fun _ _=>by kernel_rfl) rfl fun v vals x z ha hz=>(Zcu x).trans (Zpt hz)
end Go.Eng
set_option maxRecDepth 100000
set_option maxHeartbeats 4000000
namespace Go.Eng
open Go.Proofs Go.RowKit
noncomputable def ZNe:FuncId×Con:=(53,⟨[.leaf 3],[.leaf 3],fun p=>Zvd p⟩)
theorem qneg_i (x:Rat):Zq ⟨Tryz.prog,[(31,0),(33,2),(35,3)],[Zck],[],[],[],[]⟩ [] Tryz.f53 .no [.leaf 3] [.leaf 3] (x)=Z0k x:=by kernel_rfl
theorem Zgm:Zm Tryz.prog ZNe.1 ZNe.2:=Zt (C:=⟨Tryz.prog,[(31,0),(33,2),(35,3)],[Zck],[],[],[],[]⟩) ⟨ZUq,trivial⟩ trivial trivial trivial (inl:=[]) trivial (ann:=.no) Tryz.func53 (fun _ _=>by kernel_rfl) rfl fun v vals x z ha hz=>(qneg_i x).trans (ZBu hz)
end Go.Eng
set_option maxRecDepth 100000
set_option maxHeartbeats 4000000
namespace Go.Eng
open Go.Proofs Go.RowKit
noncomputable def ZIb:FuncId×Con:=(14,⟨[.leaf 3,.leaf 3],[.leaf 3],fun p=>Zxb p.1 p.2⟩)
theorem qsub_i (x:Rat) (y:Rat):Zq ⟨Tryz.prog,[(31,0),(33,2),(35,3)],[ZOb,ZNe],[],[],[],[]⟩ [] Tryz.f14 .no [.leaf 3,.leaf 3] [.leaf 3] (x,y)=Zsm x y:=by kernel_rfl
theorem Zig:Zm Tryz.prog ZIb.1 ZIb.2:=Zt (C:=⟨Tryz.prog,[(31,0),(33,2),(35,3)],[ZOb,ZNe],[],[],[],[]⟩) ⟨ZDf,Zgm,trivial⟩ trivial trivial trivial (inl:=[]) trivial (ann:=.no) Tryz.func14 (fun _ _=>by kernel_rfl) rfl fun v vals x z ha hz=>(qsub_i x.1 x.2).trans (Zwt hz)
end Go.Eng
set_option maxRecDepth 100000
set_option maxHeartbeats 4000000
namespace Go.Eng
open Go.Proofs Go.RowKit
noncomputable def Zmc:FuncId×Con:=(37,⟨[.int .i64],[.leaf 3],fun p=>ZXa p⟩)
theorem Z5s (n:Int):Zq ⟨Tryz.prog,[(31,0),(33,2),(35,3),(39,1),(41,4)],[Zuc],[],[],[],[]⟩ [] Tryz.f37 .no [.int .i64] [.leaf 3] (n)=ZXa n:=by kernel_rfl
theorem Z9g:Zm Tryz.prog Zmc.1 Zmc.2:=Zt (C:=⟨Tryz.prog,[(31,0),(33,2),(35,3),(39,1),(41,4)],[Zuc],[],[],[],[]⟩) ⟨Zhh,trivial⟩ trivial trivial trivial (inl:=[]) trivial (ann:=.no) Tryz.func37 (fun _ _=>by kernel_rfl) rfl fun v vals x z ha hz=>(Z5s x).trans (hz)
end Go.Eng
set_option maxRecDepth 100000
set_option maxHeartbeats 4000000
namespace Go.Eng
open Go.Proofs Go.RowKit
noncomputable def ZWj:FuncId×Con:=(194,⟨[.leaf 2],[.int .i64],fun p=>Zqh p⟩)
theorem isign_i (x:Int):Zq ⟨Tryz.prog,[(31,0),(33,2),(35,3)],[],[],[],[],[]⟩ [] Tryz.f194 .no [.leaf 2] [.int .i64] (x)=ZQl x:=by kernel_rfl
theorem isign_k:Zm Tryz.prog ZWj.1 ZWj.2:=Zt (C:=⟨Tryz.prog,[(31,0),(33,2),(35,3)],[],[],[],[],[]⟩) trivial trivial trivial trivial (inl:=[]) trivial (ann:=.no) Tryz.func194 (fun _ _=>by kernel_rfl) rfl fun v vals x z ha hz=>(isign_i x).trans (ZUr hz)
end Go.Eng
set_option maxRecDepth 100000
set_option maxHeartbeats 4000000
namespace Go.Eng
open Go.Proofs Go.RowKit
noncomputable def Zae:FuncId×Con:=(166,⟨[.leaf 3],[.int .i64],fun p=>ZVe p⟩)
theorem qsign_i (x:Rat):Zq ⟨Tryz.prog,[(31,0),(33,2),(35,3)],[ZWj],[],[],[],[]⟩ [] Tryz.f166 .no [.leaf 3] [.int .i64] (x)=ZMm x:=by kernel_rfl
theorem Z2m:Zm Tryz.prog Zae.1 Zae.2:=Zt (C:=⟨Tryz.prog,[(31,0),(33,2),(35,3)],[ZWj],[],[],[],[]⟩) ⟨isign_k,trivial⟩ trivial trivial trivial (inl:=[]) trivial (ann:=.no) Tryz.func166 (fun _ _=>by kernel_rfl) rfl fun v vals x z ha hz=>(qsign_i x).trans (ZSs hz)
end Go.Eng
set_option maxRecDepth 100000
set_option maxHeartbeats 4000000
namespace Go.Eng
open Go.Proofs Go.RowKit
noncomputable def ZDk:FuncId×Con:=(165,⟨[.leaf 3],[.bool],fun p=>ZIl p⟩)
theorem Zhv (x:Rat):Zq ⟨Tryz.prog,[(31,0),(33,2),(35,3),(39,1),(41,4)],[Zae],[],[],[],[]⟩ [] Tryz.f165 .no [.leaf 3] [.bool] (x)=ZIl x:=by kernel_rfl
theorem Zot:Zm Tryz.prog ZDk.1 ZDk.2:=Zt (C:=⟨Tryz.prog,[(31,0),(33,2),(35,3),(39,1),(41,4)],[Zae],[],[],[],[]⟩) ⟨Z2m,trivial⟩ trivial trivial trivial (inl:=[]) trivial (ann:=.no) Tryz.func165 (fun _ _=>by kernel_rfl) rfl fun v vals x z ha hz=>(Zhv x).trans (hz)
end Go.Eng
set_option maxRecDepth 100000
set_option maxHeartbeats 4000000
namespace Go.Eng
open Go.Proofs Go.RowKit
noncomputable def ZCf:FuncId×Con:=(117,⟨[.slice (.leaf 3)],[.bool],fun p=>Zgk p⟩)
theorem above_i (l:(List Rat)):Zq ⟨Tryz.prog,[(31,0),(33,2),(35,3),(39,1),(41,4)],[ZDk],[],[],[],[]⟩ [(164,Tryz.f164,.cut ⟨⟨[],[],[]⟩,[(.ret,⟨[],[],[.s 0 (.dat .bool)]⟩)]⟩ .no),(123,Tryz.f123,.cut ⟨⟨[],[],[]⟩,[(.ret,⟨[],[],[.s 0 (.dat (.int .i64))]⟩)]⟩ (.two .no (.two (.two .no (.cut ⟨⟨[],[],[]⟩,[(.norm,⟨[],[],[]⟩),(.ret,⟨[],[],[.s 0 (.dat (.int .i64))]⟩)]⟩ (.two (.cut ⟨⟨[0,1,7],[],[.s 8 (.dat (.int .i64))]⟩,[(.ret,⟨[],[],[.s 0 (.dat (.int .i64))]⟩),(.exit 0,⟨[],[],[]⟩)]⟩ .no) .no))) .no)))] Tryz.f117 .no [.slice (.leaf 3)] [.bool] (l)=Zgk l:=by kernel_rfl
theorem ZQo:Zm Tryz.prog ZCf.1 ZCf.2:=Zt (C:=⟨Tryz.prog,[(31,0),(33,2),(35,3),(39,1),(41,4)],[ZDk],[],[],[],[]⟩) ⟨Zot,trivial⟩ trivial trivial trivial (inl:=[(164,Tryz.f164,.cut ⟨⟨[],[],[]⟩,[(.ret,⟨[],[],[.s 0 (.dat .bool)]⟩)]⟩ .no),(123,Tryz.f123,.cut ⟨⟨[],[],[]⟩,[(.ret,⟨[],[],[.s 0 (.dat (.int .i64))]⟩)]⟩ (.two .no (.two (.two .no (.cut ⟨⟨[],[],[]⟩,[(.norm,⟨[],[],[]⟩),(.ret,⟨[],[],[.s 0 (.dat (.int .i64))]⟩)]⟩ (.two (.cut ⟨⟨[0,1,7],[],[.s 8 (.dat (.int .i64))]⟩,[(.ret,⟨[],[],[.s 0 (.dat (.int .i64))]⟩),(.exit 0,⟨[],[],[]⟩)]⟩ .no) .no))) .no)))]) ⟨⟨Tryz.func164,fun _ _=>by kernel_rfl⟩,⟨Tryz.func123,fun _ _=>by kernel_rfl⟩,trivial⟩ (ann:=.no) Tryz.func117 (fun _ _=>by kernel_rfl) rfl fun v vals x z ha hz=>(above_i x).trans (hz)
end Go.Eng
set_option maxRecDepth 100000
set_option maxHeartbeats 4000000
namespace Go.Eng
open Go.Proofs Go.RowKit
noncomputable def ZTj:FuncId×Con:=(69,⟨[.pair (.leaf 3) (.pair (.leaf 3) (.leaf 3))],[.bool],fun p=>ZPm p⟩)
theorem valid_i (d:(Rat×Rat×Rat)):Zq ⟨Tryz.prog,[(31,0),(33,2),(35,3),(39,1),(41,4)],[ZCf],[],[],[],[]⟩ [] Tryz.f69 .no [.pair (.leaf 3) (.pair (.leaf 3) (.leaf 3))] [.bool] (d)=ZPm d:=by kernel_rfl
theorem valid_k:Zm Tryz.prog ZTj.1 ZTj.2:=Zt (C:=⟨Tryz.prog,[(31,0),(33,2),(35,3),(39,1),(41,4)],[ZCf],[],[],[],[]⟩) ⟨ZQo,trivial⟩ trivial trivial trivial (inl:=[]) trivial (ann:=.no) Tryz.func69 (fun _ _=>by kernel_rfl) rfl fun v vals x z ha hz=>(valid_i x).trans (hz)
end Go.Eng
set_option maxRecDepth 100000
set_option maxHeartbeats 4000000
namespace Go.Eng
open Go.Proofs Go.RowKit
noncomputable def Z4c:FuncId×Con:=(16,⟨[.leaf 3],[.bool],fun p=>Ztc p⟩)
theorem qzero_i (x:Rat):Zq ⟨Tryz.prog,[(31,0),(33,2),(35,3)],[],[],[],[],[]⟩ [] Tryz.f16 .no [.leaf 3] [.bool] (x)=Z4l x:=by kernel_rfl
theorem Zlk:Zm Tryz.prog Z4c.1 Z4c.2:=Zt (C:=⟨Tryz.prog,[(31,0),(33,2),(35,3)],[],[],[],[],[]⟩) trivial trivial trivial trivial (inl:=[]) trivial (ann:=.no) Tryz.func16 (fun _ _=>by kernel_rfl) rfl fun v vals x z ha hz=>(qzero_i x).trans (ZKt hz)
end Go.Eng
set_option maxRecDepth 100000
set_option maxHeartbeats 4000000
namespace Go.Eng
open Go.Proofs Go.RowKit
noncomputable def Z1c:FuncId×Con:=(118,⟨[.leaf 3,.leaf 3],[.leaf 3,.int .i64],fun p=>ZIc p.1 p.2⟩)
theorem qdiv_i (x:Rat) (y:Rat):Zq ⟨Tryz.prog,[(31,0),(33,2),(35,3)],[Z4c,ZWc,Zjc,ZJg,Zvc,ZZa],[],[],[],[]⟩ [] Tryz.f118 (.two .no (.two .no (.two (.cut ⟨⟨[],[],[]⟩,[(.norm,⟨[2,3,4],[],[.s 6 (.box 33 (.dat (.leaf 2)))]⟩)]⟩ .no) .no))) [.leaf 3,.leaf 3] [.leaf 3,.int .i64] (x,y)=ZOl x y:=by kernel_rfl
theorem Zlj:Zm Tryz.prog Z1c.1 Z1c.2:=Zt (C:=⟨Tryz.prog,[(31,0),(33,2),(35,3)],[Z4c,ZWc,Zjc,ZJg,Zvc,ZZa],[],[],[],[]⟩) ⟨Zlk,Z1j,Zmh,ZKp,ZRg,Zie,trivial⟩ trivial trivial trivial (inl:=[]) trivial (ann:=.two .no (.two .no (.two (.cut ⟨⟨[],[],[]⟩,[(.norm,⟨[2,3,4],[],[.s 6 (.box 33 (.dat (.leaf 2)))]⟩)]⟩ .no) .no))) Tryz.func118 (fun _ _=>by kernel_rfl) rfl fun v vals x z ha hz=>(qdiv_i x.1 x.2).trans (Zzs hz)
end Go.Eng
set_option maxRecDepth 100000
set_option maxHeartbeats 4000000
namespace Go.Eng
open Go.Proofs Go.RowKit
noncomputable def Z1f:FuncId×Con:=(70,⟨[.leaf 3,.leaf 3],[.leaf 3],fun p=>Z0g p.1 p.2⟩)
theorem tby_i (x:Rat) (y:Rat):Zq ⟨Tryz.prog,[(31,0),(33,2),(35,3),(39,1),(41,4)],[Z1c],[],[],[],[]⟩ [] Tryz.f70 .no [.leaf 3,.leaf 3] [.leaf 3] (x,y)=Z0g x y:=by kernel_rfl
theorem tby_k:Zm Tryz.prog Z1f.1 Z1f.2:=Zt (C:=⟨Tryz.prog,[(31,0),(33,2),(35,3),(39,1),(41,4)],[Z1c],[],[],[],[]⟩) ⟨Zlj,trivial⟩ trivial trivial trivial (inl:=[]) trivial (ann:=.no) Tryz.func70 (fun _ _=>by kernel_rfl) rfl fun v vals x z ha hz=>(tby_i x.1 x.2).trans (hz)
end Go.Eng
set_option maxRecDepth 100000
set_option maxHeartbeats 4000000
namespace Go.Eng
open Go.Proofs Go.RowKit
noncomputable def Zdk:FuncId×Con:=(30,⟨[.pair (.leaf 3) (.pair (.leaf 3) (.leaf 3)),.leaf 3,.leaf 3],[.leaf 3,.int .i64],fun p=>ZFl p.1 p.2.1 p.2.2⟩)
theorem force_i (d:(Rat×Rat×Rat)) (x:Rat) (y:Rat):Zq ⟨Tryz.prog,[(31,0),(33,2),(35,3),(39,1),(41,4)],[ZOb,Znc,ZIb,Zmc,ZTj,Z1f],[],[],[],[]⟩ [] Tryz.f30 .no [.pair (.leaf 3) (.pair (.leaf 3) (.leaf 3)),.leaf 3,.leaf 3] [.leaf 3,.int .i64] (d,x,y)=ZFl d x y:=by kernel_rfl
theorem force_k:Zm Tryz.prog Zdk.1 Zdk.2:=Zt (C:=⟨Tryz.prog,[(31,0),(33,2),(35,3),(39,1),(41,4)],[ZOb,Znc,ZIb,Zmc,ZTj,Z1f],[],[],[],[]⟩) ⟨ZDf,Z3g,Zig,Z9g,valid_k,tby_k,trivial⟩ trivial trivial trivial (inl:=[]) trivial (ann:=.no) Tryz.func30 (fun _ _=>by kernel_rfl) rfl fun v vals x z ha hz=>(force_i x.1 x.2.1 x.2.2).trans (hz)
end Go.Eng
set_option maxRecDepth 100000
set_option maxHeartbeats 4000000
namespace Go.Eng
open Go.Proofs Go.RowKit
noncomputable def Zik:FuncId×Con:=(73,⟨[.int .i64,.int .i64],[.leaf 3],fun p=>Z7h p.1 p.2⟩)
theorem tsame_i (i:Int) (k:Int):Zq ⟨Tryz.prog,[(31,0),(33,2),(35,3),(39,1),(41,4)],[Zmc],[],[],[],[]⟩ [] Tryz.f73 .no [.int .i64,.int .i64] [.leaf 3] (i,k)=Z7h i k:=by kernel_rfl
theorem tsame_k:Zm Tryz.prog Zik.1 Zik.2:=Zt (C:=⟨Tryz.prog,[(31,0),(33,2),(35,3),(39,1),(41,4)],[Zmc],[],[],[],[]⟩) ⟨Z9g,trivial⟩ trivial trivial trivial (inl:=[]) trivial (ann:=.no) Tryz.func73 (fun _ _=>by kernel_rfl) rfl fun v vals x z ha hz=>(tsame_i x.1 x.2).trans (hz)
end Go.Eng
set_option maxRecDepth 100000
set_option maxHeartbeats 4000000
namespace Go.Eng
open Go.Proofs Go.RowKit
noncomputable def Zsk:FuncId×Con:=(119,⟨[.slice (.slice (.int .i64))],[.int .i64,.int .i64],fun p=>Zxm p⟩)
theorem table_i (t:(List (List Int))):Zq ⟨Tryz.prog,[(31,0),(33,2),(35,3),(39,1),(41,4)],[],[],[],[],[]⟩ [(167,Tryz.f167,.cut ⟨⟨[],[],[]⟩,[(.ret,⟨[],[],[.s 0 (.dat .bool)]⟩)]⟩ .no),(168,Tryz.f168,.cut ⟨⟨[],[],[]⟩,[(.ret,⟨[],[],[.s 0 (.dat .bool)]⟩)]⟩ .no),(195,Tryz.f195,.cut ⟨⟨[],[],[]⟩,[(.ret,⟨[],[],[.s 0 (.dat (.int .i64))]⟩)]⟩ (.two .no (.two (.two .no (.cut ⟨⟨[],[],[]⟩,[(.norm,⟨[],[],[]⟩),(.ret,⟨[],[],[.s 0 (.dat (.int .i64))]⟩)]⟩ (.two (.cut ⟨⟨[0,1,7],[],[.s 8 (.dat (.int .i64))]⟩,[(.ret,⟨[],[],[.s 0 (.dat (.int .i64))]⟩),(.exit 0,⟨[],[],[]⟩)]⟩ .no) .no))) .no)))] Tryz.f119 (.two .no (.two (.two (.cut ⟨⟨[],[],[]⟩,[(.norm,⟨[],[],[.s 1 (.box 95 (.dat (.slice (.slice (.int .i64))))),.s 21 (.dat .bool)]⟩)]⟩ .no) .no) (.two .no (.two (.two .no (.cut ⟨⟨[],[],[]⟩,[(.norm,⟨[],[],[.s 4 (.dat (.int .i64))]⟩),(.ret,⟨[],[],[.s 0 (.dat (.int .i64)),.s 0 (.dat (.int .i64))]⟩)]⟩ (.two (.cut ⟨⟨[22,23],[],[.s 4 (.dat (.int .i64)),.s 24 (.dat (.int .i64))]⟩,[(.ret,⟨[],[],[.s 0 (.dat (.int .i64)),.s 0 (.dat (.int .i64))]⟩),(.exit 0,⟨[],[],[.s 4 (.dat (.int .i64))]⟩)]⟩ (.two (.two .no (.two .no (.two (.two (.two .no (.two .no (.cut ⟨⟨[],[],[]⟩,[(.norm,⟨[22,23,24],[],[.s 4 (.dat (.int .i64))]⟩),(.ret,⟨[],[],[.s 0 (.dat (.int .i64)),.s 0 (.dat (.int .i64))]⟩)]⟩ (.two (.cut ⟨⟨[22,23,24,28,29],[],[.s 4 (.dat (.int .i64)),.s 30 (.dat (.int .i64))]⟩,[(.ret,⟨[],[],[.s 0 (.dat (.int .i64)),.s 0 (.dat (.int .i64))]⟩),(.exit 2,⟨[22,23,24],[],[.s 4 (.dat (.int .i64))]⟩)]⟩ (.two (.two .no (.two .no (.two (.two (.two .no (.two (.two (.cut ⟨⟨[],[],[]⟩,[(.norm,⟨[4,8,22,23,24,28,29,30],[],[.s 39 (.dat .bool)]⟩)]⟩ .no) .no) .no)) .no) .no))) .no)) .no)))) .no) .no))) .no)) .no))) .no)))) [.slice (.slice (.int .i64))] [.int .i64,.int .i64] (t)=Zxm t:=by kernel_rfl
theorem table_k:Zm Tryz.prog Zsk.1 Zsk.2:=Zt (C:=⟨Tryz.prog,[(31,0),(33,2),(35,3),(39,1),(41,4)],[],[],[],[],[]⟩) trivial trivial trivial trivial (inl:=[(167,Tryz.f167,.cut ⟨⟨[],[],[]⟩,[(.ret,⟨[],[],[.s 0 (.dat .bool)]⟩)]⟩ .no),(168,Tryz.f168,.cut ⟨⟨[],[],[]⟩,[(.ret,⟨[],[],[.s 0 (.dat .bool)]⟩)]⟩ .no),(195,Tryz.f195,.cut ⟨⟨[],[],[]⟩,[(.ret,⟨[],[],[.s 0 (.dat (.int .i64))]⟩)]⟩ (.two .no (.two (.two .no (.cut ⟨⟨[],[],[]⟩,[(.norm,⟨[],[],[]⟩),(.ret,⟨[],[],[.s 0 (.dat (.int .i64))]⟩)]⟩ (.two (.cut ⟨⟨[0,1,7],[],[.s 8 (.dat (.int .i64))]⟩,[(.ret,⟨[],[],[.s 0 (.dat (.int .i64))]⟩),(.exit 0,⟨[],[],[]⟩)]⟩ .no) .no))) .no)))]) ⟨⟨Tryz.func167,fun _ _=>by kernel_rfl⟩,⟨Tryz.func168,fun _ _=>by kernel_rfl⟩,⟨Tryz.func195,fun _ _=>by kernel_rfl⟩,trivial⟩ (ann:=.two .no (.two (.two (.cut ⟨⟨[],[],[]⟩,[(.norm,⟨[],[],[.s 1 (.box 95 (.dat (.slice (.slice (.int .i64))))),.s 21 (.dat .bool)]⟩)]⟩ .no) .no) (.two .no (.two (.two .no (.cut ⟨⟨[],[],[]⟩,[(.norm,⟨[],[],[.s 4 (.dat (.int .i64))]⟩),(.ret,⟨[],[],[.s 0 (.dat (.int .i64)),.s 0 (.dat (.int .i64))]⟩)]⟩ (.two (.cut ⟨⟨[22,23],[],[.s 4 (.dat (.int .i64)),.s 24 (.dat (.int .i64))]⟩,[(.ret,⟨[],[],[.s 0 (.dat (.int .i64)),.s 0 (.dat (.int .i64))]⟩),(.exit 0,⟨[],[],[.s 4 (.dat (.int .i64))]⟩)]⟩ (.two (.two .no (.two .no (.two (.two (.two .no (.two .no (.cut ⟨⟨[],[],[]⟩,[(.norm,⟨[22,23,24],[],[.s 4 (.dat (.int .i64))]⟩),(.ret,⟨[],[],[.s 0 (.dat (.int .i64)),.s 0 (.dat (.int .i64))]⟩)]⟩ (.two (.cut ⟨⟨[22,23,24,28,29],[],[.s 4 (.dat (.int .i64)),.s 30 (.dat (.int .i64))]⟩,[(.ret,⟨[],[],[.s 0 (.dat (.int .i64)),.s 0 (.dat (.int .i64))]⟩),(.exit 2,⟨[22,23,24],[],[.s 4 (.dat (.int .i64))]⟩)]⟩ (.two (.two .no (.two .no (.two (.two (.two .no (.two (.two (.cut ⟨⟨[],[],[]⟩,[(.norm,⟨[4,8,22,23,24,28,29,30],[],[.s 39 (.dat .bool)]⟩)]⟩ .no) .no) .no)) .no) .no))) .no)) .no)))) .no) .no))) .no)) .no))) .no)))) Tryz.func119 (fun _ _=>by kernel_rfl) rfl fun v vals x z ha hz=>(table_i x).trans (hz)
end Go.Eng
set_option maxRecDepth 100000
set_option maxHeartbeats 4000000
namespace Go.Eng
open Go.Proofs Go.RowKit
noncomputable def Ztk:FuncId×Con:=(32,⟨[.slice (.slice (.int .i64))],[.leaf 3,.int .i64],fun p=>ZAl p⟩)
theorem kappa_i (t:(List (List Int))):Zq ⟨Tryz.prog,[(31,0),(33,2),(35,3),(39,1),(41,4)],[Zik,ZIb,Zmc,Z1c,Zsk,ZOb,Znc,Z1f],[],[],[],[]⟩ [(72,Tryz.f72,.cut ⟨⟨[],[],[]⟩,[(.ret,⟨[],[],[.s 0 (.dat (.leaf 3)),.s 0 (.dat (.int .i64))]⟩)]⟩ (.two .no (.two .no (.two .no (.two .no (.two (.cut ⟨⟨[],[],[]⟩,[(.norm,⟨[4],[],[.s 7 (.dat (.int .i64)),.s 10 (.box 35 (.dat (.leaf 3)))]⟩)]⟩ .no) .no)))))),(120,Tryz.f120,.cut ⟨⟨[],[],[]⟩,[(.ret,⟨[],[],[.s 0 (.dat (.leaf 3)),.s 0 (.dat (.leaf 3))]⟩)]⟩ (.two .no (.two (.cut ⟨⟨[],[],[]⟩,[(.norm,⟨[0,1,2,6,7],[],[.s 8 (.own 3 (.int .i64)),.s 9 (.own 3 (.int .i64))]⟩)]⟩ .no) (.two (.two .no (.cut ⟨⟨[],[],[]⟩,[(.norm,⟨[0,1,2,6,7],[],[.s 8 (.own 3 (.int .i64)),.s 9 (.own 3 (.int .i64))]⟩)]⟩ (.two (.cut ⟨⟨[0,1,2,6,7,24,25],[],[.s 8 (.own 3 (.int .i64)),.s 9 (.own 3 (.int .i64)),.s 26 (.dat (.int .i64))]⟩,[(.exit 0,⟨[0,1,2,6,7],[],[.s 8 (.own 3 (.int .i64)),.s 9 (.own 3 (.int .i64))]⟩)]⟩ (.two (.two .no (.two .no (.two (.two (.two .no (.two .no (.cut ⟨⟨[],[],[]⟩,[(.norm,⟨[0,1,2,6,7,24,25,26],[],[.s 8 (.own 3 (.int .i64)),.s 9 (.own 3 (.int .i64))]⟩)]⟩ (.two (.cut ⟨⟨[0,1,2,6,7,10,24,25,26,31,32],[],[.s 8 (.own 3 (.int .i64)),.s 9 (.own 3 (.int .i64)),.s 33 (.dat (.int .i64))]⟩,[(.exit 2,⟨[0,1,2,6,7,24,25,26],[],[.s 8 (.own 3 (.int .i64)),.s 9 (.own 3 (.int .i64))]⟩)]⟩ .no) .no)))) .no) .no))) .no)) .no))) (.two (.two .no (.cut ⟨⟨[],[],[]⟩,[(.norm,⟨[1,6,7],[],[.l (.sl 6) (.box 35 (.dat (.leaf 3))),.l (.sl 7) (.box 35 (.dat (.leaf 3)))]⟩)]⟩ (.two (.cut ⟨⟨[1,2,6,7,8,9,54,55],[],[.l (.sl 6) (.box 35 (.dat (.leaf 3))),.l (.sl 7) (.box 35 (.dat (.leaf 3))),.s 56 (.dat (.int .i64))]⟩,[(.exit 4,⟨[1,6,7],[],[.l (.sl 6) (.box 35 (.dat (.leaf 3))),.l (.sl 7) (.box 35 (.dat (.leaf 3)))]⟩)]⟩ (.two (.two .no (.two .no (.two (.two (.two .no (.two .no (.cut ⟨⟨[],[],[]⟩,[(.norm,⟨[1,2,6,7,8,9,54,55,56],[],[.l (.sl 6) (.box 35 (.dat (.leaf 3))),.l (.sl 7) (.box 35 (.dat (.leaf 3)))]⟩)]⟩ (.two (.cut ⟨⟨[1,2,6,7,8,9,14,54,55,56,61,62],[],[.l (.sl 6) (.box 35 (.dat (.leaf 3))),.l (.sl 7) (.box 35 (.dat (.leaf 3))),.s 63 (.dat (.int .i64))]⟩,[(.exit 6,⟨[1,2,6,7,8,9,54,55,56],[],[.l (.sl 6) (.box 35 (.dat (.leaf 3))),.l (.sl 7) (.box 35 (.dat (.leaf 3)))]⟩)]⟩ .no) .no)))) .no) .no))) .no)) .no))) .no)))))] Tryz.f32 .no [.slice (.slice (.int .i64))] [.leaf 3,.int .i64] (t)=ZAl t:=by kernel_rfl
theorem kappa_k:Zm Tryz.prog Ztk.1 Ztk.2:=Zt (C:=⟨Tryz.prog,[(31,0),(33,2),(35,3),(39,1),(41,4)],[Zik,ZIb,Zmc,Z1c,Zsk,ZOb,Znc,Z1f],[],[],[],[]⟩) ⟨tsame_k,Zig,Z9g,Zlj,table_k,ZDf,Z3g,tby_k,trivial⟩ trivial trivial trivial (inl:=[(72,Tryz.f72,.cut ⟨⟨[],[],[]⟩,[(.ret,⟨[],[],[.s 0 (.dat (.leaf 3)),.s 0 (.dat (.int .i64))]⟩)]⟩ (.two .no (.two .no (.two .no (.two .no (.two (.cut ⟨⟨[],[],[]⟩,[(.norm,⟨[4],[],[.s 7 (.dat (.int .i64)),.s 10 (.box 35 (.dat (.leaf 3)))]⟩)]⟩ .no) .no)))))),(120,Tryz.f120,.cut ⟨⟨[],[],[]⟩,[(.ret,⟨[],[],[.s 0 (.dat (.leaf 3)),.s 0 (.dat (.leaf 3))]⟩)]⟩ (.two .no (.two (.cut ⟨⟨[],[],[]⟩,[(.norm,⟨[0,1,2,6,7],[],[.s 8 (.own 3 (.int .i64)),.s 9 (.own 3 (.int .i64))]⟩)]⟩ .no) (.two (.two .no (.cut ⟨⟨[],[],[]⟩,[(.norm,⟨[0,1,2,6,7],[],[.s 8 (.own 3 (.int .i64)),.s 9 (.own 3 (.int .i64))]⟩)]⟩ (.two (.cut ⟨⟨[0,1,2,6,7,24,25],[],[.s 8 (.own 3 (.int .i64)),.s 9 (.own 3 (.int .i64)),.s 26 (.dat (.int .i64))]⟩,[(.exit 0,⟨[0,1,2,6,7],[],[.s 8 (.own 3 (.int .i64)),.s 9 (.own 3 (.int .i64))]⟩)]⟩ (.two (.two .no (.two .no (.two (.two (.two .no (.two .no (.cut ⟨⟨[],[],[]⟩,[(.norm,⟨[0,1,2,6,7,24,25,26],[],[.s 8 (.own 3 (.int .i64)),.s 9 (.own 3 (.int .i64))]⟩)]⟩ (.two (.cut ⟨⟨[0,1,2,6,7,10,24,25,26,31,32],[],[.s 8 (.own 3 (.int .i64)),.s 9 (.own 3 (.int .i64)),.s 33 (.dat (.int .i64))]⟩,[(.exit 2,⟨[0,1,2,6,7,24,25,26],[],[.s 8 (.own 3 (.int .i64)),.s 9 (.own 3 (.int .i64))]⟩)]⟩ .no) .no)))) .no) .no))) .no)) .no))) (.two (.two .no (.cut ⟨⟨[],[],[]⟩,[(.norm,⟨[1,6,7],[],[.l (.sl 6) (.box 35 (.dat (.leaf 3))),.l (.sl 7) (.box 35 (.dat (.leaf 3)))]⟩)]⟩ (.two (.cut ⟨⟨[1,2,6,7,8,9,54,55],[],[.l (.sl 6) (.box 35 (.dat (.leaf 3))),.l (.sl 7) (.box 35 (.dat (.leaf 3))),.s 56 (.dat (.int .i64))]⟩,[(.exit 4,⟨[1,6,7],[],[.l (.sl 6) (.box 35 (.dat (.leaf 3))),.l (.sl 7) (.box 35 (.dat (.leaf 3)))]⟩)]⟩ (.two (.two .no (.two .no (.two (.two (.two .no (.two .no (.cut ⟨⟨[],[],[]⟩,[(.norm,⟨[1,2,6,7,8,9,54,55,56],[],[.l (.sl 6) (.box 35 (.dat (.leaf 3))),.l (.sl 7) (.box 35 (.dat (.leaf 3)))]⟩)]⟩ (.two (.cut ⟨⟨[1,2,6,7,8,9,14,54,55,56,61,62],[],[.l (.sl 6) (.box 35 (.dat (.leaf 3))),.l (.sl 7) (.box 35 (.dat (.leaf 3))),.s 63 (.dat (.int .i64))]⟩,[(.exit 6,⟨[1,2,6,7,8,9,54,55,56],[],[.l (.sl 6) (.box 35 (.dat (.leaf 3))),.l (.sl 7) (.box 35 (.dat (.leaf 3)))]⟩)]⟩ .no) .no)))) .no) .no))) .no)) .no))) .no)))))]) ⟨⟨Tryz.func72,fun _ _=>by kernel_rfl⟩,⟨Tryz.func120,fun _ _=>by kernel_rfl⟩,trivial⟩ (ann:=.no) Tryz.func32 (fun _ _=>by kernel_rfl) rfl fun v vals x z ha hz=>(kappa_i x).trans (hz)
end Go.Eng
set_option maxRecDepth 100000
set_option maxHeartbeats 4000000
namespace Go.Eng
open Go.Proofs Go.RowKit
noncomputable def ZBi:FuncId×Con:=(8,⟨[.slice (.pair (.int .i64) (.int .i64))],[.slice (.leaf 3),.slice (.leaf 4)],fun p=>Zcm p⟩)
theorem list8_i (l:(List (Int×Int))):Zq ⟨Tryz.prog,[(31,0),(33,2),(35,3),(39,1),(41,4)],[Z6c,Zye],[],[],[],[]⟩ [] Tryz.f8 (.two .no (.two .no (.two .no (.two (.two .no (.cut ⟨⟨[],[],[]⟩,[(.norm,⟨[],[],[.s 4 (.own 35 (.leaf 3)),.s 5 (.own 41 (.leaf 4))]⟩)]⟩ (.two (.cut ⟨⟨[8,9],[],[.s 4 (.own 35 (.leaf 3)),.s 5 (.own 41 (.leaf 4)),.s 10 (.dat (.int .i64))]⟩,[(.exit 0,⟨[],[],[.s 4 (.own 35 (.leaf 3)),.s 5 (.own 41 (.leaf 4))]⟩)]⟩ .no) .no))) .no)))) [.slice (.pair (.int .i64) (.int .i64))] [.slice (.leaf 3),.slice (.leaf 4)] (l)=Zcm l:=by kernel_rfl
theorem list8_k:Zm Tryz.prog ZBi.1 ZBi.2:=Zt (C:=⟨Tryz.prog,[(31,0),(33,2),(35,3),(39,1),(41,4)],[Z6c,Zye],[],[],[],[]⟩) ⟨Z8j,rof_k,trivial⟩ trivial trivial trivial (inl:=[]) trivial (ann:=.two .no (.two .no (.two .no (.two (.two .no (.cut ⟨⟨[],[],[]⟩,[(.norm,⟨[],[],[.s 4 (.own 35 (.leaf 3)),.s 5 (.own 41 (.leaf 4))]⟩)]⟩ (.two (.cut ⟨⟨[8,9],[],[.s 4 (.own 35 (.leaf 3)),.s 5 (.own 41 (.leaf 4)),.s 10 (.dat (.int .i64))]⟩,[(.exit 0,⟨[],[],[.s 4 (.own 35 (.leaf 3)),.s 5 (.own 41 (.leaf 4))]⟩)]⟩ .no) .no))) .no)))) Tryz.func8 (fun _ _=>by kernel_rfl) rfl fun v vals x z ha hz=>(list8_i x).trans (hz)
end Go.Eng
set_option maxRecDepth 100000
set_option maxHeartbeats 4000000
namespace Go.Eng
open Go.Proofs Go.RowKit
noncomputable def ZFj:FuncId×Con:=(33,⟨[.pair (.int .i64) (.int .i64),.slice (.pair (.int .i64) (.int .i64))],[.pair (.leaf 3) (.slice (.leaf 3)),.pair (.leaf 4) (.slice (.leaf 4))],fun p=>ZSk p.1 p.2⟩)
theorem ZVt (step:(Int×Int)) (limits:(List (Int×Int))):Zq ⟨Tryz.prog,[(31,0),(33,2),(35,3),(39,1),(41,4)],[ZBi,Z6c,Zye],[],[],[],[]⟩ [] Tryz.f33 .no [.pair (.int .i64) (.int .i64),.slice (.pair (.int .i64) (.int .i64))] [.pair (.leaf 3) (.slice (.leaf 3)),.pair (.leaf 4) (.slice (.leaf 4))] (step,limits)=ZSk step limits:=by kernel_rfl
theorem ZKr:Zm Tryz.prog ZFj.1 ZFj.2:=Zt (C:=⟨Tryz.prog,[(31,0),(33,2),(35,3),(39,1),(41,4)],[ZBi,Z6c,Zye],[],[],[],[]⟩) ⟨list8_k,Z8j,rof_k,trivial⟩ trivial trivial trivial (inl:=[]) trivial (ann:=.no) Tryz.func33 (fun _ _=>by kernel_rfl) rfl fun v vals x z ha hz=>(ZVt x.1 x.2).trans (hz)
end Go.Eng
set_option maxRecDepth 100000
set_option maxHeartbeats 4000000
namespace Go.Eng
open Go.Proofs Go.RowKit
noncomputable def ZLe:FuncId×Con:=(121,⟨[.leaf 3,.leaf 3],[.int .i64],fun p=>Zqe p.1 p.2⟩)
theorem qcmp_i (x:Rat) (y:Rat):Zq ⟨Tryz.prog,[(31,0),(33,2),(35,3)],[ZIb,Zae],[],[],[],[]⟩ [] Tryz.f121 .no [.leaf 3,.leaf 3] [.int .i64] (x,y)=Z6k x y:=by kernel_rfl
theorem Zml:Zm Tryz.prog ZLe.1 ZLe.2:=Zt (C:=⟨Tryz.prog,[(31,0),(33,2),(35,3)],[ZIb,Zae],[],[],[],[]⟩) ⟨Zig,Z2m,trivial⟩ trivial trivial trivial (inl:=[]) trivial (ann:=.no) Tryz.func121 (fun _ _=>by kernel_rfl) rfl fun v vals x z ha hz=>(qcmp_i x.1 x.2).trans (Zpu hz)
end Go.Eng
set_option maxRecDepth 100000
set_option maxHeartbeats 4000000
namespace Go.Eng
open Go.Proofs Go.RowKit
noncomputable def ZWi:FuncId×Con:=(74,⟨[.pair (.leaf 3) (.slice (.leaf 3))],[.int .i64],fun p=>Z1l p⟩)
theorem Z7q (t:(Rat×(List Rat))):Zq ⟨Tryz.prog,[(31,0),(33,2),(35,3),(39,1),(41,4)],[ZCf,ZLe],[],[],[],[]⟩ [] Tryz.f74 (.two .no (.two .no (.two (.two (.cut ⟨⟨[],[],[]⟩,[(.norm,⟨[1],[],[.s 19 (.dat .bool)]⟩)]⟩ .no) .no) (.two (.two .no (.cut ⟨⟨[],[],[]⟩,[(.norm,⟨[],[],[]⟩),(.ret,⟨[],[],[.s 0 (.dat (.int .i64))]⟩)]⟩ (.two (.cut ⟨⟨[1,21,22],[],[.s 23 (.dat (.int .i64))]⟩,[(.ret,⟨[],[],[.s 0 (.dat (.int .i64))]⟩),(.exit 0,⟨[],[],[]⟩)]⟩ (.two (.two .no (.two .no (.two (.two (.two .no (.two (.cut ⟨⟨[],[],[]⟩,[(.norm,⟨[1,21,22,23],[],[.s 40 (.dat .bool)]⟩)]⟩ .no) .no)) .no) .no))) .no)) .no))) .no)))) [.pair (.leaf 3) (.slice (.leaf 3))] [.int .i64] (t)=Z1l t:=by kernel_rfl
theorem ZXu:Zm Tryz.prog ZWi.1 ZWi.2:=Zt (C:=⟨Tryz.prog,[(31,0),(33,2),(35,3),(39,1),(41,4)],[ZCf,ZLe],[],[],[],[]⟩) ⟨ZQo,Zml,trivial⟩ trivial trivial trivial (inl:=[]) trivial (ann:=.two .no (.two .no (.two (.two (.cut ⟨⟨[],[],[]⟩,[(.norm,⟨[1],[],[.s 19 (.dat .bool)]⟩)]⟩ .no) .no) (.two (.two .no (.cut ⟨⟨[],[],[]⟩,[(.norm,⟨[],[],[]⟩),(.ret,⟨[],[],[.s 0 (.dat (.int .i64))]⟩)]⟩ (.two (.cut ⟨⟨[1,21,22],[],[.s 23 (.dat (.int .i64))]⟩,[(.ret,⟨[],[],[.s 0 (.dat (.int .i64))]⟩),(.exit 0,⟨[],[],[]⟩)]⟩ (.two (.two .no (.two .no (.two (.two (.two .no (.two (.cut ⟨⟨[],[],[]⟩,[(.norm,⟨[1,21,22,23],[],[.s 40 (.dat .bool)]⟩)]⟩ .no) .no)) .no) .no))) .no)) .no))) .no)))) Tryz.func74 (fun _ _=>by kernel_rfl) rfl fun v vals x z ha hz=>(Z7q x).trans (hz)
end Go.Eng
set_option maxRecDepth 100000
set_option maxHeartbeats 4000000
namespace Go.Eng
open Go.Proofs Go.RowKit
noncomputable def Zxk:FuncId×Con:=(144,⟨[.leaf 0,.int .i64],[.leaf 0],fun p=>Zlb p.1 p.2⟩)
theorem left_i (a:Nat) (n:Int):Zq ⟨Tryz.prog,[(31,0)],[Z2c],[],[],[],[]⟩ [] Tryz.f144 (.two .no (.two (.two (.cut ⟨⟨[],[],[]⟩,[(.norm,⟨[0,1],[],[.s 14 (.dat .bool)]⟩)]⟩ .no) .no) (.two .no (.two (.two .no (.cut ⟨⟨[],[],[]⟩,[(.norm,⟨[],[],[.s 5 (.own 155 (.int .u64))]⟩)]⟩ (.two (.cut ⟨⟨[1,23,24],[],[.s 5 (.own 155 (.int .u64)),.s 25 (.dat (.int .i64))]⟩,[(.exit 0,⟨[],[],[.s 5 (.own 155 (.int .u64))]⟩)]⟩ .no) .no))) .no)))) [.leaf 0,.int .i64] [.leaf 0] (a,n)=Zdg a n:=by kernel_rfl
theorem left_k:Zm Tryz.prog Zxk.1 Zxk.2:=Zt (C:=⟨Tryz.prog,[(31,0)],[Z2c],[],[],[],[]⟩) ⟨Zvk,trivial⟩ trivial trivial trivial (inl:=[]) trivial (ann:=.two .no (.two (.two (.cut ⟨⟨[],[],[]⟩,[(.norm,⟨[0,1],[],[.s 14 (.dat .bool)]⟩)]⟩ .no) .no) (.two .no (.two (.two .no (.cut ⟨⟨[],[],[]⟩,[(.norm,⟨[],[],[.s 5 (.own 155 (.int .u64))]⟩)]⟩ (.two (.cut ⟨⟨[1,23,24],[],[.s 5 (.own 155 (.int .u64)),.s 25 (.dat (.int .i64))]⟩,[(.exit 0,⟨[],[],[.s 5 (.own 155 (.int .u64))]⟩)]⟩ .no) .no))) .no)))) Tryz.func144 (fun _ _=>by kernel_rfl) rfl fun v vals x z ha hz=>(left_i x.1 x.2).trans (Zvp hz)
end Go.Eng
set_option maxRecDepth 100000
set_option maxHeartbeats 4000000
namespace Go.Eng
open Go.Proofs Go.RowKit
noncomputable def Zak:FuncId×Con:=(196,⟨[.leaf 2,.leaf 0],[.leaf 2],fun p=>ZFg p.1 p.2⟩)
theorem Zlv (x:Int) (d:Nat):Zq ⟨Tryz.prog,[(31,0),(33,2),(35,3)],[ZHb,ZMe,ZZa,ZVf],[],[],[],[]⟩ [] Tryz.f196 (.two .no (.two .no (.two (.two (.cut ⟨⟨[],[],[]⟩,[(.norm,⟨[2,4,5],[],[.s 20 (.dat .bool)]⟩)]⟩ .no) (.cut ⟨⟨[],[],[]⟩,[(.norm,⟨[2,4],[],[.s 5 (.dat (.leaf 0))]⟩)]⟩ .no)) .no))) [.leaf 2,.leaf 0] [.leaf 2] (x,d)=ZNk x d:=by kernel_rfl
theorem Znu:Zm Tryz.prog Zak.1 Zak.2:=Zt (C:=⟨Tryz.prog,[(31,0),(33,2),(35,3)],[ZHb,ZMe,ZZa,ZVf],[],[],[],[]⟩) ⟨Zkg,Zym,Zie,Zoq,trivial⟩ trivial trivial trivial (inl:=[]) trivial (ann:=.two .no (.two .no (.two (.two (.cut ⟨⟨[],[],[]⟩,[(.norm,⟨[2,4,5],[],[.s 20 (.dat .bool)]⟩)]⟩ .no) (.cut ⟨⟨[],[],[]⟩,[(.norm,⟨[2,4],[],[.s 5 (.dat (.leaf 0))]⟩)]⟩ .no)) .no))) Tryz.func196 (fun _ _=>by kernel_rfl) rfl fun v vals x z ha hz=>(Zlv x.1 x.2).trans (Zms hz)
end Go.Eng
set_option maxRecDepth 100000
set_option maxHeartbeats 4000000
namespace Go.Eng
open Go.Proofs Go.RowKit
noncomputable def ZGj:FuncId×Con:=(169,⟨[.leaf 3,.int .i64],[.leaf 3],fun p=>Zif p.1 p.2⟩)
theorem ZFt (x:Rat) (k:Int):Zq ⟨Tryz.prog,[(31,0),(33,2),(35,3)],[ZWc,Zjc,ZHb,ZZa,Zxk,Zak],[],[],[],[]⟩ [] Tryz.f169 .no [.leaf 3,.int .i64] [.leaf 3] (x,k)=ZCl x k:=by kernel_rfl
theorem ZUu:Zm Tryz.prog ZGj.1 ZGj.2:=Zt (C:=⟨Tryz.prog,[(31,0),(33,2),(35,3)],[ZWc,Zjc,ZHb,ZZa,Zxk,Zak],[],[],[],[]⟩) ⟨Z1j,Zmh,Zkg,Zie,left_k,Znu,trivial⟩ trivial trivial trivial (inl:=[]) trivial (ann:=.no) Tryz.func169 (fun _ _=>by kernel_rfl) rfl fun v vals x z ha hz=>(ZFt x.1 x.2).trans (Zju hz)
end Go.Eng
set_option maxRecDepth 100000
set_option maxHeartbeats 4000000
namespace Go.Eng
open Go.Proofs Go.RowKit
noncomputable def ZGi:FuncId×Con:=(170,⟨[.leaf 0,.int .i64],[.int .u64],fun p=>bitF p.1 p.2⟩)
theorem bit_i (a:Nat) (i:Int):Zq ⟨Tryz.prog,[(31,0)],[],[],[],[],[]⟩ [] Tryz.f170 (.two .no (.two (.two (.cut ⟨⟨[],[],[]⟩,[(.norm,⟨[0,1],[],[.s 13 (.dat .bool)]⟩)]⟩ .no) .no) .no)) [.leaf 0,.int .i64] [.int .u64] (a,i)=bit_m a i:=by kernel_rfl
theorem bit_k:Zm Tryz.prog ZGi.1 ZGi.2:=Zt (C:=⟨Tryz.prog,[(31,0)],[],[],[],[],[]⟩) trivial trivial trivial trivial (inl:=[]) trivial (ann:=.two .no (.two (.two (.cut ⟨⟨[],[],[]⟩,[(.norm,⟨[0,1],[],[.s 13 (.dat .bool)]⟩)]⟩ .no) .no) .no)) Tryz.func170 (fun _ _=>by kernel_rfl) rfl fun v vals x z ha hz=>(bit_i x.1 x.2).trans (bitF_eq hz)
end Go.Eng
set_option maxRecDepth 100000
set_option maxHeartbeats 4000000
namespace Go.Eng
open Go.Proofs Go.RowKit
noncomputable def ZTi:FuncId×Con:=(122,⟨[.leaf 3,.leaf 3],[.leaf 3,.int .i64],fun p=>Z5h p.1 p.2⟩)
theorem Zfs (x:Rat) (step:Rat):Zq ⟨Tryz.prog,[(31,0),(33,2),(35,3)],[ZOb,Znc,ZIb,Zuc,ZUe,ZHb,Z1c,ZLe,Zae,ZGj,ZGi],[],[],[],[]⟩ [] Tryz.f122 (.two .no (.two .no (.two .no (.two .no (.two .no (.two .no (.two (.two (.cut ⟨⟨[],[],[]⟩,[(.norm,⟨[3,4,8],[],[.s 43 (.dat .bool)]⟩)]⟩ .no) (.cut ⟨⟨[],[],[]⟩,[(.norm,⟨[3,4,8],[],[.l (.sl 8) (.box 35 (.dat (.leaf 3)))]⟩)]⟩ .no)) .no))))))) [.leaf 3,.leaf 3] [.leaf 3,.int .i64] (x,step)=ZDm x step:=by kernel_rfl
theorem ZNt:Zm Tryz.prog ZTi.1 ZTi.2:=Zt (C:=⟨Tryz.prog,[(31,0),(33,2),(35,3)],[ZOb,Znc,ZIb,Zuc,ZUe,ZHb,Z1c,ZLe,Zae,ZGj,ZGi],[],[],[],[]⟩) ⟨ZDf,Z3g,Zig,Zhh,of_k,Zkg,Zlj,Zml,Z2m,ZUu,bit_k,trivial⟩ trivial trivial trivial (inl:=[]) trivial (ann:=.two .no (.two .no (.two .no (.two .no (.two .no (.two .no (.two (.two (.cut ⟨⟨[],[],[]⟩,[(.norm,⟨[3,4,8],[],[.s 43 (.dat .bool)]⟩)]⟩ .no) (.cut ⟨⟨[],[],[]⟩,[(.norm,⟨[3,4,8],[],[.l (.sl 8) (.box 35 (.dat (.leaf 3)))]⟩)]⟩ .no)) .no))))))) Tryz.func122 (fun _ _=>by kernel_rfl) rfl fun v vals x z ha hz=>(Zfs x.1 x.2).trans (ZCt hz)
end Go.Eng
set_option maxRecDepth 100000
set_option maxHeartbeats 4000000
namespace Go.Eng
open Go.Proofs Go.RowKit
noncomputable def Zjk:FuncId×Con:=(75,⟨[.pair (.leaf 3) (.slice (.leaf 3)),.leaf 3],[.int .i64],fun p=>Z9l p.1 p.2⟩)
theorem Zzv (t:(Rat×(List Rat))) (x:Rat):Zq ⟨Tryz.prog,[(31,0),(33,2),(35,3),(39,1),(41,4)],[ZTi,ZLe],[],[],[],[]⟩ [(123,Tryz.f123,.cut ⟨⟨[],[],[]⟩,[(.ret,⟨[],[],[.s 0 (.dat (.int .i64))]⟩)]⟩ (.two .no (.two (.two .no (.cut ⟨⟨[],[],[]⟩,[(.norm,⟨[],[],[]⟩),(.ret,⟨[],[],[.s 0 (.dat (.int .i64))]⟩)]⟩ (.two (.cut ⟨⟨[0,1,7],[],[.s 8 (.dat (.int .i64))]⟩,[(.ret,⟨[],[],[.s 0 (.dat (.int .i64))]⟩),(.exit 0,⟨[],[],[]⟩)]⟩ .no) .no))) .no))),(124,Tryz.f124,.cut ⟨⟨[],[],[]⟩,[(.ret,⟨[],[],[.s 0 (.dat .bool)]⟩)]⟩ .no)] Tryz.f75 .no [.pair (.leaf 3) (.slice (.leaf 3)),.leaf 3] [.int .i64] (t,x)=Z9l t x:=by kernel_rfl
theorem Zmt:Zm Tryz.prog Zjk.1 Zjk.2:=Zt (C:=⟨Tryz.prog,[(31,0),(33,2),(35,3),(39,1),(41,4)],[ZTi,ZLe],[],[],[],[]⟩) ⟨ZNt,Zml,trivial⟩ trivial trivial trivial (inl:=[(123,Tryz.f123,.cut ⟨⟨[],[],[]⟩,[(.ret,⟨[],[],[.s 0 (.dat (.int .i64))]⟩)]⟩ (.two .no (.two (.two .no (.cut ⟨⟨[],[],[]⟩,[(.norm,⟨[],[],[]⟩),(.ret,⟨[],[],[.s 0 (.dat (.int .i64))]⟩)]⟩ (.two (.cut ⟨⟨[0,1,7],[],[.s 8 (.dat (.int .i64))]⟩,[(.ret,⟨[],[],[.s 0 (.dat (.int .i64))]⟩),(.exit 0,⟨[],[],[]⟩)]⟩ .no) .no))) .no))),(124,Tryz.f124,.cut ⟨⟨[],[],[]⟩,[(.ret,⟨[],[],[.s 0 (.dat .bool)]⟩)]⟩ .no)]) ⟨⟨Tryz.func123,fun _ _=>by kernel_rfl⟩,⟨Tryz.func124,fun _ _=>by kernel_rfl⟩,trivial⟩ (ann:=.no) Tryz.func75 (fun _ _=>by kernel_rfl) rfl fun v vals x z ha hz=>(Zzv x.1 x.2).trans (hz)
end Go.Eng
set_option maxRecDepth 100000
set_option maxHeartbeats 4000000
namespace Go.Eng
open Go.Proofs Go.RowKit
noncomputable def Zaj:FuncId×Con:=(34,⟨[.pair (.leaf 3) (.slice (.leaf 3)),.leaf 3],[.int .i64,.int .i64],fun p=>Zal p.1 p.2⟩)
theorem Z9u (t:(Rat×(List Rat))) (x:Rat):Zq ⟨Tryz.prog,[(31,0),(33,2),(35,3),(39,1),(41,4)],[ZWi,Zjk],[],[],[],[]⟩ [] Tryz.f34 .no [.pair (.leaf 3) (.slice (.leaf 3)),.leaf 3] [.int .i64,.int .i64] (t,x)=Zal t x:=by kernel_rfl
theorem ZKq:Zm Tryz.prog Zaj.1 Zaj.2:=Zt (C:=⟨Tryz.prog,[(31,0),(33,2),(35,3),(39,1),(41,4)],[ZWi,Zjk],[],[],[],[]⟩) ⟨ZXu,Zmt,trivial⟩ trivial trivial trivial (inl:=[]) trivial (ann:=.no) Tryz.func34 (fun _ _=>by kernel_rfl) rfl fun v vals x z ha hz=>(Z9u x.1 x.2).trans (hz)
end Go.Eng
namespace Go.Eng
open Go.Proofs Go.RowKit
theorem Zvt {r:World} {d:Zb} (hv:VIn d r) {D:List Value} {n:Int} (L:Rep.rel (Zd .u64) d D n) {z:(List UInt8)} (H:ZLj n=some z):Ret Tryz.prog 126 #[(Zd .u64).val D] r d (fun y v'=>∃ E,y=ZSa.val E∧ZSa.rel v' E z):=by
 obtain ⟨rfl,M⟩:=L;refine Zwb (K:=20) (args:=[.int .u64 n]) hv Tryz.func126 rfl rfl zl fun f S=>?_;unfold ZLj at H;refine sr (mw S rfl fun f S=>oe (sr (Zno S wn rfl zl (cs:=[.int .u8 0,.int .u8 0,.int .u8 0,.int .u8 0,.int .u8 0,.int .u8 0,.int .u8 0,.int .u8 0,.int .u8 0,.int .u8 0,.int .u8 0,.int .u8 0,.int .u8 0,.int .u8 0,.int .u8 0,.int .u8 0,.int .u8 0,.int .u8 0,.int .u8 0,.int .u8 0]) (ZXk k_zv238) fun s f w S=>?_)));have S:=S.boxOwn 1 20 rfl zl;have N:Rep.rels (Zd .u8) d [.int .u8 0,.int .u8 0,.int .u8 0,.int .u8 0,.int .u8 0,.int .u8 0,.int .u8 0,.int .u8 0,.int .u8 0,.int .u8 0,.int .u8 0,.int .u8 0,.int .u8 0,.int .u8 0,.int .u8 0,.int .u8 0,.int .u8 0,.int .u8 0,.int .u8 0,.int .u8 0] (List.replicate 20 (0:Int)):=Z7d (show Rep.rel (Zd .u8) _ [Value.int .u8 0] 0 from ⟨rfl,by decide⟩) 20;refine oe (sr (mw S rfl fun f S=>oe (Zj fun _ O=>?_)));obtain ⟨P,Q,R⟩:=ZE H;refine Zma (fun f w=>∃ l m B t,(l,m)=P∧Zb.le d t∧St 20 r d [(3,.pointer (some ⟨s,0,none⟩)),(4,.int .i64 m)] [Loc.own (some s) 238 1 20 20 B] t f w∧Rep.rels (Zd .u8) t B l∧20=l.length∧inR .i64 m) (fun _ T=>?_) ?_
 ·have H:=Q;refine wp_block ?_;obtain ⟨ak,U,V⟩:=ZE H;refine Zeb U (fun W f w=>∃ h o u b k,(h,o,u)=W∧Zb.le d k∧St 20 r d [(0,.int .u64 o),(3,.pointer (some ⟨s,0,none⟩)),(4,.int .i64 u)] [Loc.own (some s) 238 1 20 20 b] k f w∧Rep.rels (Zd .u8) k b h∧20=h.length∧inR .u64 o∧inR .i64 u) ⟨_,_,_,[.int .u8 0,.int .u8 0,.int .u8 0,.int .u8 0,.int .u8 0,.int .u8 0,.int .u8 0,.int .u8 0,.int .u8 0,.int .u8 0,.int .u8 0,.int .u8 0,.int .u8 0,.int .u8 0,.int .u8 0,.int .u8 0,.int .u8 0,.int .u8 0,.int .u8 0,.int .u8 0],_,rfl,(leR _),(S.fr' rfl),N,(List.length_replicate (n:=20) (a:=(0:Int))).symm,M,(by decide)⟩ ?_;rintro _ f w st ⟨h,o,u,b,k,hq,F,S,C,v,al,X⟩ H am Y Z;subst hq;refine Zj fun _ aa=>sr (mv S rfl fun f S=>ov S rfl (Ze S rfl rfl ZNc) fun f S=>oe ?_);rcases ZJ (decide ((0:Int)<o)) with p | p
  ·have H:=ZI H p;refine ZM S rfl p (wp_skip (Zf (aa _ _ (Zj fun _ ab=>wp_block (Zj fun _ ac=>bO H fun e G H=>Zr (mv S rfl fun f S=>ov S rfl (Ze S rfl rfl (Zpa G)) fun f S=>mw S rfl fun f S=>Zn (Zf (ac _ _ (bO H fun g ad H=>?_)))))))));refine bO H fun an q H=>Zr (mv S rfl fun f S=>mv S rfl fun f S=>ov S rfl (Ze S rfl rfl (ZCe ad)) fun f S=>ov S rfl (Ze S rfl rfl ZQb) fun f S=>ov S rfl (Znd S rfl (Znq _)) fun f S=>?_);have I:=Zea C (Zg q).2.1;obtain ⟨ao,ae⟩:∃ c,(List.take (Zd .u8).n (List.drop ((e).toNat*(Zd .u8).n) b))=c:=⟨_,rfl⟩;rw [ae] at I;obtain ⟨rfl,ap⟩:=I;refine ov S rfl (ZHo S Zwn rfl rfl (Zg q).1 (ltI v (Zg q).2.2.1)) fun f S=>?_;obtain ⟨w,af,S⟩:=Zrb S k_sz5 (off:=0+(e).toNat*1) (z:=.int .u8 (IntKind.u8.wrap (IntKind.u64.wrap ((48:Int)+g)))) (cs:=[.int .u8 (IntKind.u8.wrap (IntKind.u64.wrap ((48:Int)+g)))]) (Zib rfl) rfl (i:=0) rfl (Zid S (j:=0) rfl (ltN v (Zg q).2.2.2)) (by first | rfl | simp [plain]);have ag:Rep.rels (Zd .u8) k (List.take (0+(e).toNat*1) b++[Value.int IntKind.u8 (IntKind.u8.wrap (IntKind.u64.wrap ((48:Int)+g)))]++List.drop (0+(e).toNat*1+1) b) (h.set (e).toNat (IntKind.u8.wrap (IntKind.u64.wrap ((48:Int)+g)))):=Zzc C (Zg q).2.2.2 (show Rep.rel (Zd .u8) k [.int .u8 (IntKind.u8.wrap (IntKind.u64.wrap ((48:Int)+g)))] _ from (ZB (Zga _ _))) rfl rfl
   have ah:20=(h.set (e).toNat (IntKind.u8.wrap (IntKind.u64.wrap ((48:Int)+g)))).length:=Zkd v;refine ZAf wn rfl (af rfl rfl) (Zn (Z7a (Zf (ab _ _ (bO H fun aq J H=>Zr (mv S rfl fun f S=>ov S rfl (Ze S rfl rfl (ZWb J)) fun f S=>mw S rfl fun f S=>Zn ?_))))));obtain rfl:=Zl H;refine Y _ rfl _ _ ⟨_,_,_,(List.take (0+(e).toNat*1) b++[Value.int IntKind.u8 (IntKind.u8.wrap (IntKind.u64.wrap ((48:Int)+g)))]++List.drop (0+(e).toNat*1+1) b),_,rfl,F,(S.fr' rfl),ag,ah,(ZTh J),(Zka G).2⟩
  have H:=ZH H p;refine ZK S rfl p (wp_exit (ZV ?_));obtain rfl:=Zl H;have hq:=Z _ rfl;subst hq;have H:=V;refine ZV (ZVa ?_);obtain rfl:=Zl H;refine Zf (T _ _ ⟨_,_,b,_,rfl,(leT (leR _) F),(S.fr' rfl),C,v,X⟩)
 rintro f w ⟨l,m,B,t,hq,ar,S,ai,x,au⟩;subst hq;have H:=R;refine Zf (O _ _ (Zj fun _ aj=>bO H fun av A H=>Zr (mv S rfl fun f S=>ov S rfl (ZQu S Zwn rfl rfl (ZRc A).1 (by have:=(ZRc A).2.1;have:=x;omega)) fun f S=>ov S rfl (Z7t S (j:=0) rfl ai x (by have:=(ZRc A).2.1;have:=(ZRc A).1;have:=x;omega) rfl Tryz.underlying198 Tryz.underlying5 Tryz.underlying9) fun f S=>mw S rfl fun f S=>Zn (Zf (aj _ _ (wp_ret ?_))))));obtain rfl:=Zl H;refine Zwa S (ZCa rfl (ZO S rfl)) ⟨[.string (Zv ((Z0c (l.drop ((m).toNat)))))],rfl,(ZMh (by have:=x;simp only [ZWt,List.length_drop];unfold maxLen;omega))⟩
theorem ZMr {b:World} {a:Zb} (hv:VIn a b) {c:List Value} {n:Int} (d:Rep.rel (Zd .u64) a c n) {z:(List UInt8)} (hm:Zwg n=some z) :
  Ret Tryz.prog 126 #[(Zd .u64).val c] b a (fun y v'=>∃ e,y=ZSa.val e∧ZSa.rel v' e z) :=
 Zvt hv d (Z9q d.2 hm)
end Go.Eng
namespace Go.Proofs
open Go.Shelf
def Tryz.lays105_ren:Go.Shelf.Ren:=⟨fun | 105=>127 | 212=>172 | 99=>173 | 165=>174 | 166=>128 | 170=>175 | 169=>129 | 263=>197 | 264=>100 | 206=>198 | 240=>176 | 241=>199 | 276=>200 | 277=>203 | n=>n,fun | 9=>9 | 3=>3 | 4=>4 | 20=>20 | 0=>0 | 46=>215 | 109=>239 | 5=>5 | 72=>200 | 76=>203 | 51=>156 | 146=>254 | 53=>155 | 148=>167 | 70=>197 | 37=>198 | 75=>202 | 127=>243 | 164=>256 | 80=>104 | n=>n,fun | n=>n⟩
theorem Tryz.lays105:Go.Proofs.Lays.n105 Tryz.prog Tryz.lays105_ren:={
 mixed:=by kernel_rfl
 f99:=Tryz.func173.trans (congrArg some (by kernel_rfl))
 f105:=Tryz.func127.trans (congrArg some (by kernel_rfl))
 f165:=Tryz.func174.trans (congrArg some (by kernel_rfl))
 f166:=Tryz.func128.trans (congrArg some (by kernel_rfl))
 f169:=Tryz.func129.trans (congrArg some (by kernel_rfl))
 f170:=Tryz.func175.trans (congrArg some (by kernel_rfl))
 f206:=Tryz.func198.trans (congrArg some (by kernel_rfl))
 f212:=Tryz.func172.trans (congrArg some (by kernel_rfl))
 f240:=Tryz.func176.trans (congrArg some (by kernel_rfl))
 f241:=Tryz.func199.trans (congrArg some (by kernel_rfl))
 f263:=Tryz.func197.trans (congrArg some (by kernel_rfl))
 f264:=Tryz.func100.trans (congrArg some (by kernel_rfl))
 f276:=Tryz.func200.trans (congrArg some (by kernel_rfl))
 f277:=Tryz.func203.trans (congrArg some (by kernel_rfl))
 t0:=Tryz.underlying0
 a0:=Tryz.isAgg0
 z0:=Tryz.sizeOf0
 v0:=Tryz.zeroValue0
 t3:=Tryz.underlying3
 a3:=Tryz.isAgg3
 z3:=Tryz.sizeOf3
 v3:=Tryz.zeroValue3
 t4:=Tryz.underlying4
 a4:=Tryz.isAgg4
 z4:=Tryz.sizeOf4
 v4:=Tryz.zeroValue4
 t5:=Tryz.underlying5
 a5:=Tryz.isAgg5
 z5:=Tryz.sizeOf5
 v5:=Tryz.zeroValue5
 t9:=Tryz.underlying9
 a9:=Tryz.isAgg9
 z9:=Tryz.sizeOf9
 v9:=Tryz.zeroValue9
 t20:=Tryz.underlying20
 a20:=Tryz.isAgg20
 z20:=Tryz.sizeOf20
 v20:=Tryz.zeroValue20
 t37:=Tryz.underlying198
 a37:=Tryz.isAgg198
 z37:=Tryz.sizeOf198
 v37:=Tryz.zeroValue198
 t46:=Tryz.underlying215
 a46:=Tryz.isAgg215
 z46:=Tryz.sizeOf215
 v46:=Tryz.zeroValue215
 t51:=Tryz.underlying156
 a51:=Tryz.isAgg156
 z51:=Tryz.sizeOf156
 v51:=Tryz.zeroValue156
 t53:=Tryz.underlying155
 a53:=Tryz.isAgg155
 z53:=Tryz.sizeOf155
 v53:=Tryz.zeroValue155
 t70:=Tryz.underlying197
 a70:=Tryz.isAgg197
 z70:=Tryz.sizeOf197
 v70:=Tryz.zeroValue197
 t72:=Tryz.underlying200
 a72:=Tryz.isAgg200
 z72:=Tryz.sizeOf200
 v72:=Tryz.zeroValue200
 t75:=Tryz.underlying202
 a75:=Tryz.isAgg202
 z75:=Tryz.sizeOf202
 v75:=Tryz.zeroValue202
 t76:=Tryz.underlying203
 a76:=Tryz.isAgg203
 z76:=Tryz.sizeOf203
 v76:=Tryz.zeroValue203
 t109:=Tryz.underlying239
 a109:=Tryz.isAgg239
 z109:=Tryz.sizeOf239
 v109:=Tryz.zeroValue239
 t127:=Tryz.underlying243
 a127:=Tryz.isAgg243
 z127:=Tryz.sizeOf243
 v127:=Tryz.zeroValue243
 t146:=Tryz.underlying254
 a146:=Tryz.isAgg254
 z146:=Tryz.sizeOf254
 v146:=Tryz.zeroValue254
 t148:=Tryz.underlying167
 a148:=Tryz.isAgg167
 z148:=Tryz.sizeOf167
 v148:=Tryz.zeroValue167
 t164:=Tryz.underlying256
 a164:=Tryz.isAgg256
 z164:=Tryz.sizeOf256
 v164:=Tryz.zeroValue256 }
theorem Tryz.Builder_Extra_105:Builder.Extra Tryz.prog Tryz.lays105_ren:={
 sizeBuilder:=by kernel_rfl
 liesBuilder:=by kernel_rfl
 t5:=Tryz.underlying5
 a5:=Tryz.isAgg5
 z5:=Tryz.sizeOf5
 v5:=Tryz.zeroValue5
 infoByte:=by kernel_rfl
 cellsByte:=by kernel_rfl
 sizeByte:=by kernel_rfl
 neB5:=by decide }
end Go.Proofs
namespace Go.Eng
open Go.Proofs Go.RowKit Go.Shelf
theorem writes:Zcq Tryz.prog 128 200 5:=fun B b bs s w h hl hB=>Any.Builder_WriteString { Tryz.lays105 with } Tryz.Builder_Extra_105 B b bs s w h hl hB
theorem tells:Tells Tryz.prog 129 200 5:=fun B b l w h hB=>Any.Builder_String_any { Tryz.lays105 with } Tryz.Builder_Extra_105 B b l w h hB
end Go.Eng
namespace Go.Eng
open Go.Proofs Go.RowKit
theorem Zxr (l:List UInt8) (c:Nat):Lib.repeatL l c=(List.replicate c l).flatten:=by
 induction c with
 | zero=>rfl
 | succ c ih=>simp [Lib.repeatL,List.replicate_succ,ih]
theorem ZZs {b:World} {a:Zb} (hv:VIn a b) {f:List Value} {s:List UInt8} (k:Rep.rel ZSa a f s) {g:List Value} {c:Int} (l:Rep.rel (Zd .i64) a g c) {z:List UInt8} (hm:Zbg s c=some z) :
  Ret Tryz.prog 127 #[ZSa.val f,(Zd .i64).val g] b a (fun y v'=>∃ h,y=ZSa.val h∧ZSa.rel v' h z):=by
 obtain ⟨rfl,hs⟩:=k;obtain ⟨rfl,hc⟩:=l;unfold Zbg at hm;split at hm
 ·rename_i hh
  cases hm
  obtain ⟨C,rfl⟩:=Int.eq_ofNat_of_zero_le hh.1;have hc:=ZMa.1 hc;have d:=hh.2;rw [Int.toNat_natCast] at d;have:=Any.strings_Repeat Tryz.lays105 Tryz.Builder_Extra_105 (Zv s) C b (by omega) (by rw [ZFc];exact d);refine Calls.mono this fun e w' ⟨i,j⟩=>?_;have m:(⟨(Lib.repeatL (Zv s).data.toList C).toArray⟩:ByteArray)=Zv (List.replicate C s).flatten:=by
   rw [Zxr];rfl
  rw [m] at i;exact ⟨_,a,i,j,VStep.ext hv j,[.string (Zv (List.replicate C s).flatten)],rfl,rfl,by simp only [Int.toNat_natCast];rw [List.length_flatten];simp;unfold maxLen;rw [Nat.mul_comm] at d;omega⟩
 ·cases hm
theorem text_w {e:World} {c:Zb} (hv:VIn c e) {c0:List Value} {a:Nat} (p0:Rep.rel Zu c c0 a) {z:(List UInt8)} (H:ZWg a=some z):Ret Tryz.prog 76 #[Zu.val c0] e c (fun y v'=>∃ r0,y=ZSa.val r0∧ZSa.rel v' r0 z):=by
 obtain ⟨q1,n2,k3,rfl⟩:=Zba p0;refine Zwb (K:=49) (args:=[.slice q1 n2 k3]) hv Tryz.func76 rfl rfl zl fun f S=>?_;unfold ZWg at H;refine sr (mw S rfl fun f S=>oe (sr ?_));have S:=S.nilLoc 9 1;refine ov S rfl (Z5c S (y:=.slice (mkA none) 0 0) rfl) fun f S=>oe (Zj fun _ ar=>?_);obtain ⟨au,av,aw⟩:=ZE H;refine Zma (fun f w=>∃ o F s G U I,o=au∧Zb.le c I∧St 49 e c [(3,.slice (mkA F) s G)] [Loc.own F 9 1 s G U] I f w∧Rep.rels ZSa I U o∧s=o.length) (fun _ ax=>?_) ?_
 ·have H:=av;refine wp_block ?_;obtain ⟨bs,ay,az⟩:=ZE H;refine Zeb ay (fun aA f w=>∃ J g L M N p h q k t,(J,g)=aA∧Zb.le c t∧St 49 e c [(0,.slice L M N),(3,.slice (mkA p) h q)] [Loc.own p 9 1 h q k] t f w∧Rep.rel Zu t [.slice L M N] J∧Rep.rels ZSa t k g∧h=g.length) ⟨_,_,_,_,_,none,0,0,[],_,rfl,(leR _),(S.fr' rfl),p0,ZXe,rfl⟩ ?_;rintro _ f w st ⟨J,g,L,M,N,p,h,q,k,t,hq,ac,S,ad,d,ae⟩ H bt aB aC;subst hq;refine Zj fun _ aD=>sr (mv S rfl fun f S=>ov S rfl (Z7 S (ZG ad) rfl rfl Zz) fun f S=>ov S rfl (Ze S rfl rfl ZNc) fun f S=>oe ?_);rcases ZJ (decide ((0:Int)<(((Zc 18446744073709551616 J)).length:Int))) with u | u
  ·have H:=ZI H u;refine ZM S rfl u (wp_skip (Zf (aD _ _ (wp_block (Zj fun _ aE=>bO H fun O aF H=>Zr (mv S rfl fun f S=>opc S rfl (Z3 S [.slice L M N,.int .u64 10000000000000000000] ZMn rfl rfl) (ZGo S.vin ad (show Rep.rel (Zd .u64) _ [.int .u64 10000000000000000000] (10000000000000000000:Int) from (ZB (by decide))) aF) ?_))))));rintro _ bu f w af ⟨bv,bw,rfl,m,aG⟩ S;have d:=ZQ af d;obtain ⟨aH,aI,aJ,rfl⟩:=Zba m;obtain ⟨rfl,aK⟩:=aG;refine mv S rfl fun f S=>ov S rfl (Zna S rfl rfl) fun f S=>ov S rfl (Zna S rfl rfl) fun f S=>mw S rfl fun f S=>mw S rfl fun f S=>Zn (Zf (aE _ _ (Zj fun _ aL=>bO H fun bx aM H=>Zr (mv S rfl fun f S=>opc S rfl (Z3 S [.int .u64 (O.2)] k_en126 rfl rfl) (ZMr S.vin (show Rep.rel (Zd .u64) _ [.int .u64 (O.2)] O.2 from (ZB aK)) aM) ?_))));rintro _ aN f w V ⟨bz,rfl,aO⟩ S;have d:=ZQ V d;obtain ⟨rfl,aP⟩:=aO;refine mw S rfl fun f S=>Zn (Zf (aL _ _ (Zj fun _ aQ=>sr (mv S rfl fun f S=>?_))));have m:=Z6 V m;refine ov S rfl (Z7 S (ZG m) rfl rfl Zz) fun f S=>ov S rfl (Ze S rfl rfl ZNc) fun f S=>oe ?_;obtain ⟨aR,aS,aT⟩:=ZE H;refine Zma (fun f w=>∃ b P,b=aR∧Zb.le aN P∧St 49 e c [(3,.slice (mkA p) h q),(4,.slice aH aI aJ),(6,.string (Zv b))] [Loc.own p 9 1 h q k] P f w∧b.length≤maxLen) (fun _ ag=>?_) ?_
   ·have H:=aS;rcases ZJ (decide ((0:Int)<(((Zc 18446744073709551616 O.1)).length:Int))) with v | v
    ·have H:=ZI H v;refine ZM S rfl v (bO H fun W ah H=>bO H fun bA aU H=>bO H fun bB ai H=>Zr (mv S rfl fun f S=>ov S rfl (Zfq S rfl rfl Tryz.underlying9) fun f S=>ov S rfl (Ze S rfl rfl (Zpa ah)) fun f S=>opc S rfl (Z3 S [.string (Zv (([48]:List UInt8))),.int .i64 W] k_en127 rfl rfl) (ZZs S.vin (show Rep.rel ZSa _ [.string (Zv (([48]:List UInt8)))] (([48]:List UInt8)) from (ZMh zl)) (show Rep.rel (Zd .i64) _ [.int .i64 W] W from (ZB (Zka ah).2)) aU) ?_));rintro _ bC f w aj ⟨bD,rfl,aV⟩ S;have d:=ZQ aj d;obtain ⟨rfl,bE⟩:=aV;refine mv S rfl fun f S=>ov S rfl (Z4i S rfl rfl (ZIp ai)) fun f S=>mw S rfl fun f S=>Zn ?_;obtain rfl:=Zl H;refine Zf (ag _ _ ⟨_,_,rfl,(leT (leR _) aj),(S.fr' rfl),(ZKi ai)⟩)
    have H:=ZH H v;refine ZK S rfl v (wp_skip ?_);obtain rfl:=Zl H;refine Zf (ag _ _ ⟨_,_,rfl,(leR _),(S.fr' rfl),aP⟩)
   rintro f w ⟨b,P,hq,X,S,aW⟩;subst hq;have H:=aT;have d:=ZQ X d;refine Zf (aQ _ _ (bO H fun bG aX H=>Zr (mv S rfl fun f S=>mv S rfl fun f S=>?_)));obtain ⟨bH,w,aY,S⟩:=Zlf S (n:=1) (cs:=[.string (Zv b)]) (vals:=[(0,.string (Zv b))]) (sz:=1) rfl (by decide) (Zdm Z6n (x:=.string (Zv b)) (cs:=[.string (Zv b)]) rfl rfl (by decide));have Y:Rep.rels ZSa P [.string (Zv b)] [b]:=(Zzl (ZMh aW) ZXe);refine Zkb wn rfl zl (aY rfl) S fun f S=>?_;have aZ:=S;obtain ⟨ak,al,w,a0,S⟩:=Z4j (ty:=192) Z6n S (i:=1) (n':=(g++[b]).length) rfl (Ztd Y rfl) (Zni S (j:=0) rfl) (Zqj Y) (appN ae rfl) (ZBd aX) (by decide);have a1:=ZVc d Y;refine Zkb wn rfl zl (ZRd aZ rfl rfl a0) S fun f S=>mv S rfl fun f S=>mw S rfl fun f S=>mw S rfl fun f S=>Zn (Z7a ?_);obtain rfl:=Zl H;have S:=S.reorder (ℓ':=[Loc.own ak 9 1 ((g++[b]).length) al ((k++[.string (Zv b)]))]) [1] rfl (by decide);have m:=Z6 X m;refine aB _ rfl _ _ ⟨_,_,_,_,_,ak,(g++[b]).length,al,(k++[.string (Zv b)]),_,rfl,(leT (leT (leT ac af) V) X),(S.fr' rfl),m,a1,rfl⟩
  have H:=ZH H u;refine ZK S rfl u (wp_exit (ZV ?_));obtain rfl:=Zl H;have hq:=aC _ rfl;subst hq;have H:=az;refine ZV (ZVa ?_);obtain rfl:=Zl H;refine Zf (ax _ _ ⟨_,p,h,q,k,_,rfl,(leT (leR _) ac),(S.fr' rfl),d,ae⟩)
 rintro f w ⟨o,F,s,G,U,I,hq,bI,S,a2,am⟩;subst hq;have H:=aw;refine Zf (ar _ _ (Zj fun _ a3=>sr (mv S rfl fun f S=>ov S rfl (Z7 S am rfl rfl ZEl) fun f S=>ov S rfl (Ze S rfl rfl ZCd) fun f S=>oe ?_)));rcases ZJ (((o.length:Int))==(0:Int)) with B | B
 ·have H:=ZI H B;refine ZM S rfl B (sr (mw S rfl fun f S=>oe (wp_ret (ZJa ?_))));obtain rfl:=Zl H;refine Zwa S (ZCa rfl (ZO S rfl)) ⟨[.string (Zv (([48]:List UInt8)))],rfl,(ZMh zl)⟩
 have H:=ZH H B;refine ZK S rfl B (wp_skip (Zf (a3 _ _ (sr ?_))));obtain ⟨an,bJ,S,C⟩:=S.pubSlice (i:=0) (A:=ZSa) (l:=o) (ℓ':=[]) rfl rfl am a2 rfl;refine op_newB 5 S wn rfl zl (ZXk k_zv200) fun r f w S a4=>oe (Zj fun _ a5=>Zj fun _ a6=>bO H fun bK ao H=>Zr (mv S rfl fun f S=>ov S rfl (Z7 S (ZG C) rfl rfl ZEl) fun f S=>ov S rfl (Ze S rfl rfl (Zpa ao)) fun f S=>mw S rfl fun f S=>Zn (Zf (a6 _ _ ?_))));obtain ⟨a7,a8,a9⟩:=ZE H;refine Zma (fun f w=>∃ Q R,Q=a7∧Zb.le an R∧St 49 e c [(7,.pointer (some ⟨r,0,none⟩))] [] R f w∧Bld 200 5 r e R Q w) (fun _ ba=>?_) ?_
 ·have H:=a8;refine wp_block ?_;obtain ⟨bM,bb,bc⟩:=ZE H;refine Zeb bb (fun bd f w=>∃ Z D T,(Z,D)=bd∧Zb.le an T∧St 49 e c [(3,.slice (mkA F) s G),(7,.pointer (some ⟨r,0,none⟩)),(8,.int .i64 D)] [] T f w∧Bld 200 5 r e T Z w∧inR .i64 D) ⟨_,_,_,rfl,(leR _),(S.fr' rfl),a4,(Zka ao).2⟩ ?_;rintro _ f w st ⟨Z,D,T,hq,aa,S,ap,bP⟩ H bQ be bf;subst hq;refine Zj fun _ bg=>sr (mv S rfl fun f S=>ov S rfl (Ze S rfl rfl Z0b) fun f S=>oe ?_);rcases ZJ (decide ((0:Int)≤D)) with E | E
  ·have H:=ZI H E;refine ZM S rfl E (wp_skip (Zf (bg _ _ (Zj fun _ bh=>wp_block (bO H fun bi ab H=>bO H fun bR bj H=>Zr (mv S rfl fun f S=>mv S rfl fun f S=>?_))))));have C:=Z6 aa C;obtain ⟨_,bS,bT,bU,bk,bm,bn⟩:=ZRa C (Zg ab).2.1;obtain ⟨rfl,rfl⟩:=Z1q bk;obtain ⟨rfl,bV⟩:=bn;refine ov S rfl (ZL S rfl rfl ZEl (Zg ab).1 (ltI (ZG C) (Zg ab).2.2.1)) fun f S=>ov S rfl (Zca S rfl k_sz9 (S.view bm)) fun f S=>ZMs writes ap (Ziv bj) S wn rfl zl (Z3 S [.pointer (some ⟨r,0,none⟩),.string (Zv bi)] k_en128 rfl rfl) fun f w S bo=>Zn (Z7a (Zf (bh _ _ (bO H fun bW aq H=>Zr (mv S rfl fun f S=>ov S rfl (Ze S rfl rfl (Zpa aq)) fun f S=>mw S rfl fun f S=>Zn ?_)))));obtain rfl:=Zl H;refine be _ rfl _ _ ⟨_,_,_,rfl,aa,(S.fr' rfl),bo,(Zka aq).2⟩
  have H:=ZH H E;refine ZK S rfl E (wp_exit (ZV ?_));obtain rfl:=Zl H;have hq:=bf _ rfl;subst hq;have H:=bc;refine ZV (ZVa ?_);obtain rfl:=Zl H;refine Zf (ba _ _ ⟨_,_,rfl,(leT (leR _) aa),(S.fr' rfl),ap⟩)
 rintro f w ⟨Q,R,hq,bX,S,bp⟩;subst hq;have H:=a9;refine Zf (a5 _ _ (Zj fun _ bq=>bO H fun bY br H=>Zr (op_tell tells bp S wn rfl zl (Z3 S [.pointer (some ⟨r,0,none⟩)] k_en129 rfl rfl) fun f w S=>mw S rfl fun f S=>Zn (Zf (bq _ _ (wp_ret ?_))))));obtain rfl:=Zl H;refine Zwa S (ZCa rfl (ZO S rfl)) ⟨[.string (Zv Q)],rfl,(ZMh (ZKi br))⟩
theorem text_c {c:World} {b:Zb} (hv:VIn b c) {d:List Value} {a:Nat} (f:Rep.rel Zu b d a) {z:(List UInt8)} (hm:Zpf a=some z) :
  Ret Tryz.prog 76 #[Zu.val d] c b (fun y v'=>∃ e,y=ZSa.val e∧ZSa.rel v' e z) :=
 text_w hv f (Zqv hm)
end Go.Eng
set_option maxRecDepth 100000
set_option maxHeartbeats 4000000
namespace Go.Eng
open Go.Proofs Go.RowKit
noncomputable def ZFi:FuncId×Con:=(76,⟨[.leaf 0],[.str],fun p=>Zpf p⟩)
theorem text_k:Zm Tryz.prog ZFi.1 ZFi.2:=fun w v vals x z hv ha hz=>by
 obtain ⟨c0,e0,p0⟩:=ha;subst e0
 exact .inl ⟨fun _ _=>by kernel_rfl,Ret.mono (text_c hv p0 hz) fun y v' _ ⟨r0,e,h0⟩=>⟨r0,e,h0⟩⟩
end Go.Eng
set_option maxRecDepth 100000
set_option maxHeartbeats 4000000
namespace Go.Eng
open Go.Proofs Go.RowKit
noncomputable def ZVj:FuncId×Con:=(35,⟨[.leaf 3],[.str],fun p=>Zof p⟩)
theorem qtext_i (x:Rat):Zq ⟨Tryz.prog,[(31,0),(33,2),(35,3)],[ZFi],[],[],[],[]⟩ [] Tryz.f35 (.two .no (.two .no (.two (.two .no (.cut ⟨⟨[],[],[]⟩,[(.norm,⟨[1],[],[.s 3 (.dat .str)]⟩)]⟩ .no)) (.two (.two .no (.cut ⟨⟨[],[],[]⟩,[(.norm,⟨[],[],[.s 3 (.dat .str)]⟩)]⟩ .no)) .no)))) [.leaf 3] [.str] (x)=ZTk x:=by kernel_rfl
theorem qtext_k:Zm Tryz.prog ZVj.1 ZVj.2:=Zt (C:=⟨Tryz.prog,[(31,0),(33,2),(35,3)],[ZFi],[],[],[],[]⟩) ⟨text_k,trivial⟩ trivial trivial trivial (inl:=[]) trivial (ann:=.two .no (.two .no (.two (.two .no (.cut ⟨⟨[],[],[]⟩,[(.norm,⟨[1],[],[.s 3 (.dat .str)]⟩)]⟩ .no)) (.two (.two .no (.cut ⟨⟨[],[],[]⟩,[(.norm,⟨[],[],[.s 3 (.dat .str)]⟩)]⟩ .no)) .no)))) Tryz.func35 (fun _ _=>by kernel_rfl) rfl fun v vals x z ha hz=>(qtext_i x).trans (ZTs hz)
end Go.Eng
set_option maxRecDepth 100000
set_option maxHeartbeats 4000000
namespace Go.Eng
open Go.Proofs Go.RowKit
noncomputable def Z9h:FuncId×Con:=(7,⟨[],[.bool],fun _=>ZEg⟩)
theorem Z8r  : Zq ⟨Tryz.prog,[(31,0),(33,2),(35,3),(39,1),(41,4)],[Z6c,Zsj,Zdk,Zuc,Ztk,ZFj,Zaj,ZVj],[],[],[],[]⟩ [] Tryz.f7 (.two .no (.two .no (.two (.cut ⟨⟨[],[],[]⟩,[(.norm,⟨[],[],[.s 3 (.box 35 (.dat (.leaf 3))),.s 4 (.dat (.int .i64))]⟩)]⟩ .no) (.two .no (.two .no (.two .no (.two (.cut ⟨⟨[],[],[]⟩,[(.norm,⟨[],[],[.s 0 (.dat .bool)]⟩)]⟩ .no) .no))))))) [] [.bool] ()=ZEg  := by kernel_rfl
theorem ZAt:Zm Tryz.prog Z9h.1 Z9h.2:=Zt (C:=⟨Tryz.prog,[(31,0),(33,2),(35,3),(39,1),(41,4)],[Z6c,Zsj,Zdk,Zuc,Ztk,ZFj,Zaj,ZVj],[],[],[],[]⟩) ⟨Z8j,drum8_k,force_k,Zhh,kappa_k,ZKr,ZKq,qtext_k,trivial⟩ trivial trivial trivial (inl:=[]) trivial (ann:=.two .no (.two .no (.two (.cut ⟨⟨[],[],[]⟩,[(.norm,⟨[],[],[.s 3 (.box 35 (.dat (.leaf 3))),.s 4 (.dat (.int .i64))]⟩)]⟩ .no) (.two .no (.two .no (.two .no (.two (.cut ⟨⟨[],[],[]⟩,[(.norm,⟨[],[],[.s 0 (.dat .bool)]⟩)]⟩ .no) .no))))))) Tryz.func7 (fun _ _=>by kernel_rfl) rfl fun v vals x z ha hz=>(Z8r ).trans (hz)
end Go.Eng
set_option maxRecDepth 100000
set_option maxHeartbeats 4000000
namespace Go.Eng
open Go.Proofs Go.RowKit
noncomputable def Zyi:FuncId×Con:=(18,⟨[.int .i64],[.slice (.pair (.int .i64) (.pair (.int .i64) (.pair (.int .i64) (.pair (.int .i64) (.leaf 3))))),.int .i64],fun p=>ZBe p⟩)
theorem ZEq (n:Int):Zq ⟨Tryz.prog,[(31,0),(33,2),(35,3),(39,1),(41,4)],[],[],[],[],[]⟩ [] Tryz.f18 (.two .no (.two (.two (.cut ⟨⟨[],[],[]⟩,[(.norm,⟨[0],[],[.s 16 (.dat .bool)]⟩)]⟩ .no) .no) (.two .no (.two (.two .no (.two (.cut ⟨⟨[0,17],[],[.s 4 (.own 53 (.pair (.int .i64) (.pair (.int .i64) (.pair (.int .i64) (.pair (.int .i64) (.leaf 3)))))),.s 18 (.dat (.int .i64))]⟩,[(.exit 0,⟨[],[],[.s 4 (.own 53 (.pair (.int .i64) (.pair (.int .i64) (.pair (.int .i64) (.pair (.int .i64) (.leaf 3))))))]⟩)]⟩ (.two (.two .no (.two .no (.two (.two (.two .no (.two .no (.two (.cut ⟨⟨[0,5,17,18,21],[],[.s 4 (.own 53 (.pair (.int .i64) (.pair (.int .i64) (.pair (.int .i64) (.pair (.int .i64) (.leaf 3)))))),.s 22 (.dat (.int .i64))]⟩,[(.exit 2,⟨[0,17,18],[],[.s 4 (.own 53 (.pair (.int .i64) (.pair (.int .i64) (.pair (.int .i64) (.pair (.int .i64) (.leaf 3))))))]⟩)]⟩ .no) .no))) .no) .no))) .no)) .no)) .no)))) [.int .i64] [.slice (.pair (.int .i64) (.pair (.int .i64) (.pair (.int .i64) (.pair (.int .i64) (.leaf 3))))),.int .i64] (n)=ZBe n:=by kernel_rfl
theorem Zkr:Zm Tryz.prog Zyi.1 Zyi.2:=Zt (C:=⟨Tryz.prog,[(31,0),(33,2),(35,3),(39,1),(41,4)],[],[],[],[],[]⟩) trivial trivial trivial trivial (inl:=[]) trivial (ann:=(.two .no (.two (.two (.cut ⟨⟨[],[],[]⟩,[(.norm,⟨[0],[],[.s 16 (.dat .bool)]⟩)]⟩ .no) .no) (.two .no (.two (.two .no (.two (.cut ⟨⟨[0,17],[],[.s 4 (.own 53 (.pair (.int .i64) (.pair (.int .i64) (.pair (.int .i64) (.pair (.int .i64) (.leaf 3)))))),.s 18 (.dat (.int .i64))]⟩,[(.exit 0,⟨[],[],[.s 4 (.own 53 (.pair (.int .i64) (.pair (.int .i64) (.pair (.int .i64) (.pair (.int .i64) (.leaf 3))))))]⟩)]⟩ (.two (.two .no (.two .no (.two (.two (.two .no (.two .no (.two (.cut ⟨⟨[0,5,17,18,21],[],[.s 4 (.own 53 (.pair (.int .i64) (.pair (.int .i64) (.pair (.int .i64) (.pair (.int .i64) (.leaf 3)))))),.s 22 (.dat (.int .i64))]⟩,[(.exit 2,⟨[0,17,18],[],[.s 4 (.own 53 (.pair (.int .i64) (.pair (.int .i64) (.pair (.int .i64) (.pair (.int .i64) (.leaf 3))))))]⟩)]⟩ .no) .no))) .no) .no))) .no)) .no)) .no))))) Tryz.func18 (fun _ _=>by kernel_rfl) rfl fun v vals x z ha hz=>(ZEq x).trans hz
end Go.Eng
set_option maxRecDepth 100000
set_option maxHeartbeats 4000000
namespace Go.Eng
open Go.Proofs Go.RowKit
noncomputable def ZKf:FuncId×Con:=(60,⟨[.pair (.int .i64) (.pair (.int .i64) (.pair (.int .i64) (.pair (.int .i64) (.leaf 3))))],[.pair (.int .i64) (.pair (.int .i64) (.pair (.int .i64) (.int .i64)))],fun p=>ZJj p⟩)
theorem Zxs (z:Int×Int×Int×Int×Rat):Zq ⟨Tryz.prog,[(31,0),(33,2),(35,3),(39,1),(41,4)],[],[],[],[],[]⟩ [] Tryz.f60 .no [.pair (.int .i64) (.pair (.int .i64) (.pair (.int .i64) (.pair (.int .i64) (.leaf 3))))] [.pair (.int .i64) (.pair (.int .i64) (.pair (.int .i64) (.int .i64)))] (z)=ZJj z:=by kernel_rfl
theorem Zfn:Zm Tryz.prog ZKf.1 ZKf.2:=Zt (C:=⟨Tryz.prog,[(31,0),(33,2),(35,3),(39,1),(41,4)],[],[],[],[],[]⟩) trivial trivial trivial trivial (inl:=[]) trivial (ann:=.no) Tryz.func60 (fun _ _=>by kernel_rfl) rfl fun v vals x z ha hz=>(Zxs x).trans hz
end Go.Eng
set_option maxRecDepth 100000
set_option maxHeartbeats 4000000
namespace Go.Eng
open Go.Proofs Go.RowKit
noncomputable def ZJf:FuncId×Con:=(61,⟨[.pair (.int .i64) (.pair (.int .i64) (.pair (.int .i64) (.int .i64)))],[.pair (.int .i64) (.pair (.int .i64) (.pair (.int .i64) (.int .i64)))],fun p=>Zbf p⟩)
theorem seach_i (z:Int×Int×Int×Int):Zq ⟨Tryz.prog,[(31,0),(33,2),(35,3),(39,1),(41,4)],[],[],[],[],[]⟩ [] Tryz.f61 .no [.pair (.int .i64) (.pair (.int .i64) (.pair (.int .i64) (.int .i64)))] [.pair (.int .i64) (.pair (.int .i64) (.pair (.int .i64) (.int .i64)))] (z)=Zbf z:=by kernel_rfl
theorem Zcn:Zm Tryz.prog ZJf.1 ZJf.2:=Zt (C:=⟨Tryz.prog,[(31,0),(33,2),(35,3),(39,1),(41,4)],[],[],[],[],[]⟩) trivial trivial trivial trivial (inl:=[]) trivial (ann:=.no) Tryz.func61 (fun _ _=>by kernel_rfl) rfl fun v vals x z ha hz=>(seach_i x).trans hz
end Go.Eng
set_option maxRecDepth 100000
set_option maxHeartbeats 4000000
namespace Go.Eng
open Go.Proofs Go.RowKit
noncomputable def ZUj:FuncId×Con:=(58,⟨[.pair (.int .i64) (.pair (.int .i64) (.pair (.int .i64) (.int .i64))),.slice (.pair (.int .i64) (.pair (.int .i64) (.pair (.int .i64) (.pair (.int .i64) (.leaf 3)))))],[.int .i64],fun p=>Ztm p.1 p.2⟩)
theorem Z0r (z:Int×Int×Int×Int) (l:List (Int×Int×Int×Int×Rat)):Zq ⟨Tryz.prog,[(31,0),(33,2),(35,3),(39,1),(41,4)],[ZKf,ZJf],[],[],[],[]⟩ [(106,Tryz.f106,.no),(107,Tryz.f107,.two .no (.two (.cut ⟨⟨[],[],[]⟩,[(.norm,⟨[],[],[.s 2 (.dat .bool)]⟩)]⟩ .no) .no)),(152,Tryz.f152,.cut ⟨⟨[],[],[]⟩,[(.ret,⟨[],[],[.s 0 (.dat (.int .i64))]⟩)]⟩ (.two .no (.two (.two .no (.two (.cut ⟨⟨[0,1,7],[],[.s 8 (.dat (.int .i64))]⟩,[(.exit 0,⟨[],[],[]⟩),(.ret,⟨[],[],[.s 0 (.dat (.int .i64))]⟩)]⟩ .no) .no)) .no)))] Tryz.f58 (.two .no (.two .no (.two .no (.two (.two (.cut ⟨⟨[],[],[]⟩,[(.norm,⟨[1,5],[],[.s 21 (.dat .bool)]⟩)]⟩ .no) .no) (.two (.two .no (.two (.cut ⟨⟨[5,22,23],[],[.s 24 (.dat (.int .i64))]⟩,[(.exit 0,⟨[],[],[]⟩),(.ret,⟨[],[],[.s 0 (.dat (.int .i64))]⟩)]⟩ (.two (.two .no (.two .no (.two (.two (.two .no (.two .no (.two (.unroll 5 (.two (.two .no (.two .no (.two (.two (.two .no (.two (.cut ⟨⟨[],[],[]⟩,[(.norm,⟨[5,22,23,24,29,30],[],[.s 42 (.dat .bool)]⟩)]⟩ .no) .no)) .no) .no))) .no)) .no))) .no) .no))) .no)) .no)) .no))))) [.pair (.int .i64) (.pair (.int .i64) (.pair (.int .i64) (.int .i64))),.slice (.pair (.int .i64) (.pair (.int .i64) (.pair (.int .i64) (.pair (.int .i64) (.leaf 3)))))] [.int .i64] (z,l)=Ztm z l:=by kernel_rfl
theorem Zes:Zm Tryz.prog ZUj.1 ZUj.2:=Zt (C:=⟨Tryz.prog,[(31,0),(33,2),(35,3),(39,1),(41,4)],[ZKf,ZJf],[],[],[],[]⟩) ⟨Zfn,Zcn,trivial⟩ trivial trivial trivial (inl:=[(106,Tryz.f106,.no),(107,Tryz.f107,.two .no (.two (.cut ⟨⟨[],[],[]⟩,[(.norm,⟨[],[],[.s 2 (.dat .bool)]⟩)]⟩ .no) .no)),(152,Tryz.f152,.cut ⟨⟨[],[],[]⟩,[(.ret,⟨[],[],[.s 0 (.dat (.int .i64))]⟩)]⟩ (.two .no (.two (.two .no (.two (.cut ⟨⟨[0,1,7],[],[.s 8 (.dat (.int .i64))]⟩,[(.exit 0,⟨[],[],[]⟩),(.ret,⟨[],[],[.s 0 (.dat (.int .i64))]⟩)]⟩ .no) .no)) .no)))]) ⟨⟨Tryz.func106,fun _ _=>by kernel_rfl⟩,⟨Tryz.func107,fun _ _=>by kernel_rfl⟩,⟨Tryz.func152,fun _ _=>by kernel_rfl⟩,trivial⟩ (ann:=(.two .no (.two .no (.two .no (.two (.two (.cut ⟨⟨[],[],[]⟩,[(.norm,⟨[1,5],[],[.s 21 (.dat .bool)]⟩)]⟩ .no) .no) (.two (.two .no (.two (.cut ⟨⟨[5,22,23],[],[.s 24 (.dat (.int .i64))]⟩,[(.exit 0,⟨[],[],[]⟩),(.ret,⟨[],[],[.s 0 (.dat (.int .i64))]⟩)]⟩ (.two (.two .no (.two .no (.two (.two (.two .no (.two .no (.two (.unroll 5 (.two (.two .no (.two .no (.two (.two (.two .no (.two (.cut ⟨⟨[],[],[]⟩,[(.norm,⟨[5,22,23,24,29,30],[],[.s 42 (.dat .bool)]⟩)]⟩ .no) .no)) .no) .no))) .no)) .no))) .no) .no))) .no)) .no)) .no)))))) Tryz.func58 (fun _ _=>by kernel_rfl) rfl fun v vals x z ha hz=>(Z0r x.1 x.2).trans hz
end Go.Eng
set_option maxRecDepth 100000
set_option maxHeartbeats 4000000
namespace Go.Eng
open Go.Proofs Go.RowKit
noncomputable def ZKg:FuncId×Con:=(59,⟨[.pair (.int .i64) (.pair (.int .i64) (.pair (.int .i64) (.int .i64)))],[.int .i64],fun p=>Z9d p⟩)
theorem Zmv (z:Int×Int×Int×Int):Zq ⟨Tryz.prog,[(31,0),(33,2),(35,3),(39,1),(41,4)],[],[],[],[],[]⟩ [] Tryz.f59 .no [.pair (.int .i64) (.pair (.int .i64) (.pair (.int .i64) (.int .i64)))] [.int .i64] (z)=Z9d z:=by kernel_rfl
theorem Z9m:Zm Tryz.prog ZKg.1 ZKg.2:=Zt (C:=⟨Tryz.prog,[(31,0),(33,2),(35,3),(39,1),(41,4)],[],[],[],[],[]⟩) trivial trivial trivial trivial (inl:=[]) trivial (ann:=.no) Tryz.func59 (fun _ _=>by kernel_rfl) rfl fun v vals x z ha hz=>(Zmv x).trans hz
end Go.Eng
set_option maxRecDepth 100000
set_option maxHeartbeats 4000000
namespace Go.Eng
open Go.Proofs Go.RowKit
noncomputable def Z5i:FuncId×Con:=(21,⟨[.pair (.int .i64) (.pair (.int .i64) (.pair (.int .i64) (.int .i64))),.slice (.pair (.int .i64) (.pair (.int .i64) (.pair (.int .i64) (.pair (.int .i64) (.leaf 3)))))],[.slice (.slice (.leaf 3)),.int .i64],fun p=>Zxe p.1 p.2⟩)
theorem ZMu (z:Int×Int×Int×Int) (l:List (Int×Int×Int×Int×Rat)):Zq ⟨Tryz.prog,[(31,0),(33,2),(35,3),(39,1),(41,4)],[Zmc,ZUj,ZKg,ZKf,ZJf],[],[],[],[]⟩ [] Tryz.f21 (.two .no (.two .no (.two .no (.two (.two .no (.two (.cut ⟨⟨[2,20,21],[],[.s 7 (.own 26 (.slice (.leaf 3))),.s 22 (.dat (.int .i64))]⟩,[(.exit 0,⟨[],[],[.s 7 (.own 26 (.slice (.leaf 3)))]⟩)]⟩ (.two (.two .no (.two .no (.two (.two (.two .no (.two .no (.two .no (.two (.two .no (.two (.unroll 5 .no) .no)) .no)))) .no) .no))) .no)) .no)) .no)))) [.pair (.int .i64) (.pair (.int .i64) (.pair (.int .i64) (.int .i64))),.slice (.pair (.int .i64) (.pair (.int .i64) (.pair (.int .i64) (.pair (.int .i64) (.leaf 3)))))] [.slice (.slice (.leaf 3)),.int .i64] (z,l)=Zxe z l:=by kernel_rfl
theorem Zfr:Zm Tryz.prog Z5i.1 Z5i.2:=Zt (C:=⟨Tryz.prog,[(31,0),(33,2),(35,3),(39,1),(41,4)],[Zmc,ZUj,ZKg,ZKf,ZJf],[],[],[],[]⟩) ⟨Z9g,Zes,Z9m,Zfn,Zcn,trivial⟩ trivial trivial trivial (inl:=[]) trivial (ann:=(.two .no (.two .no (.two .no (.two (.two .no (.two (.cut ⟨⟨[2,20,21],[],[.s 7 (.own 26 (.slice (.leaf 3))),.s 22 (.dat (.int .i64))]⟩,[(.exit 0,⟨[],[],[.s 7 (.own 26 (.slice (.leaf 3)))]⟩)]⟩ (.two (.two .no (.two .no (.two (.two (.two .no (.two .no (.two .no (.two (.two .no (.two (.unroll 5 .no) .no)) .no)))) .no) .no))) .no)) .no)) .no))))) Tryz.func21 (fun _ _=>by kernel_rfl) rfl fun v vals x z ha hz=>(ZMu x.1 x.2).trans hz
end Go.Eng
set_option maxRecDepth 100000
set_option maxHeartbeats 4000000
namespace Go.Eng
open Go.Proofs Go.RowKit
noncomputable def ZRj:FuncId×Con:=(56,⟨[.pair (.int .i64) (.pair (.int .i64) (.pair (.int .i64) (.int .i64))),.slice (.pair (.int .i64) (.pair (.int .i64) (.pair (.int .i64) (.pair (.int .i64) (.leaf 3))))),.int .i64,.int .i64],[.slice (.slice (.leaf 3)),.slice (.leaf 3),.int .i64],fun p=>ZXg p.1 p.2.1 p.2.2.1 p.2.2.2⟩)
theorem asked_i (z:Int×Int×Int×Int) (l:List (Int×Int×Int×Int×Rat)) (a:Int) (b:Int):Zq ⟨Tryz.prog,[(31,0),(33,2),(35,3),(39,1),(41,4)],[ZOb,ZIb,Z5i,Zmc,ZKg],[],[],[],[]⟩ [] Tryz.f56 (.two .no (.two .no (.two (.two (.cut ⟨⟨[],[],[]⟩,[(.norm,⟨[2,3,4,8,10],[],[.s 38 (.dat .bool)]⟩)]⟩ .no) (.cut ⟨⟨[],[],[]⟩,[(.norm,⟨[2,3,4,8],[],[.s 10 (.dat (.int .i64))]⟩)]⟩ .no)) .no))) [.pair (.int .i64) (.pair (.int .i64) (.pair (.int .i64) (.int .i64))),.slice (.pair (.int .i64) (.pair (.int .i64) (.pair (.int .i64) (.pair (.int .i64) (.leaf 3))))),.int .i64,.int .i64] [.slice (.slice (.leaf 3)),.slice (.leaf 3),.int .i64] (z,l,a,b)=ZXg z l a b:=by kernel_rfl
theorem asked_k:Zm Tryz.prog ZRj.1 ZRj.2:=Zt (C:=⟨Tryz.prog,[(31,0),(33,2),(35,3),(39,1),(41,4)],[ZOb,ZIb,Z5i,Zmc,ZKg],[],[],[],[]⟩) ⟨ZDf,Zig,Zfr,Z9g,Z9m,trivial⟩ trivial trivial trivial (inl:=[]) trivial (ann:=(.two .no (.two .no (.two (.two (.cut ⟨⟨[],[],[]⟩,[(.norm,⟨[2,3,4,8,10],[],[.s 38 (.dat .bool)]⟩)]⟩ .no) (.cut ⟨⟨[],[],[]⟩,[(.norm,⟨[2,3,4,8],[],[.s 10 (.dat (.int .i64))]⟩)]⟩ .no)) .no)))) Tryz.func56 (fun _ _=>by kernel_rfl) rfl fun v vals x z ha hz=>(asked_i x.1 x.2.1 x.2.2.1 x.2.2.2).trans hz
end Go.Eng
set_option maxRecDepth 100000
set_option maxHeartbeats 4000000
namespace Go.Eng
open Go.Proofs Go.RowKit
noncomputable def Zse:FuncId×Con:=(80,⟨[.slice (.slice (.leaf 3))],[.int .i64],fun p=>Zde p⟩)
theorem ZFs (m:List (List Rat)):Zq ⟨Tryz.prog,[(31,0),(33,2),(35,3),(39,1),(41,4)],[],[],[],[],[]⟩ [] Tryz.f80 .no [.slice (.slice (.leaf 3))] [.int .i64] (m)=Zde m:=by kernel_rfl
theorem ZZk:Zm Tryz.prog Zse.1 Zse.2:=Zt (C:=⟨Tryz.prog,[(31,0),(33,2),(35,3),(39,1),(41,4)],[],[],[],[],[]⟩) trivial trivial trivial trivial (inl:=[]) trivial (ann:=.no) Tryz.func80 (fun _ _=>by kernel_rfl) rfl fun v vals x z ha hz=>(ZFs x).trans hz
end Go.Eng
set_option maxRecDepth 100000
set_option maxHeartbeats 4000000
namespace Go.Eng
open Go.Proofs Go.RowKit
noncomputable def Zrg:FuncId×Con:=(78,⟨[.slice (.slice (.leaf 3))],[.bool],fun p=>Zng p⟩)
theorem ZWu (m:List (List Rat)):Zq ⟨Tryz.prog,[(31,0),(33,2),(35,3),(39,1),(41,4)],[Zse],[],[],[],[]⟩ [(130,Tryz.f130,.no),(131,Tryz.f131,.no),(177,Tryz.f177,.cut ⟨⟨[],[],[]⟩,[(.ret,⟨[],[],[.s 0 (.dat (.int .i64))]⟩)]⟩ (.two .no (.two (.two .no (.two (.cut ⟨⟨[0,1,7],[],[.s 8 (.dat (.int .i64))]⟩,[(.exit 0,⟨[],[],[]⟩),(.ret,⟨[],[],[.s 0 (.dat (.int .i64))]⟩)]⟩ .no) .no)) .no)))] Tryz.f78 (.two .no (.two .no (.two (.cut ⟨⟨[],[],[]⟩,[(.norm,⟨[],[],[.s 2 (.dat .bool)]⟩)]⟩ .no) .no))) [.slice (.slice (.leaf 3))] [.bool] (m)=Zng m:=by kernel_rfl
theorem Znp:Zm Tryz.prog Zrg.1 Zrg.2:=Zt (C:=⟨Tryz.prog,[(31,0),(33,2),(35,3),(39,1),(41,4)],[Zse],[],[],[],[]⟩) ⟨ZZk,trivial⟩ trivial trivial trivial (inl:=[(130,Tryz.f130,.no),(131,Tryz.f131,.no),(177,Tryz.f177,.cut ⟨⟨[],[],[]⟩,[(.ret,⟨[],[],[.s 0 (.dat (.int .i64))]⟩)]⟩ (.two .no (.two (.two .no (.two (.cut ⟨⟨[0,1,7],[],[.s 8 (.dat (.int .i64))]⟩,[(.exit 0,⟨[],[],[]⟩),(.ret,⟨[],[],[.s 0 (.dat (.int .i64))]⟩)]⟩ .no) .no)) .no)))]) ⟨⟨Tryz.func130,fun _ _=>by kernel_rfl⟩,⟨Tryz.func131,fun _ _=>by kernel_rfl⟩,⟨Tryz.func177,fun _ _=>by kernel_rfl⟩,trivial⟩ (ann:=(.two .no (.two .no (.two (.cut ⟨⟨[],[],[]⟩,[(.norm,⟨[],[],[.s 2 (.dat .bool)]⟩)]⟩ .no) .no)))) Tryz.func78 (fun _ _=>by kernel_rfl) rfl fun v vals x z ha hz=>(ZWu x).trans hz
end Go.Eng
set_option maxRecDepth 100000
set_option maxHeartbeats 4000000
namespace Go.Eng
open Go.Proofs Go.RowKit
noncomputable def Zfi:FuncId×Con:=(224,⟨[.leaf 3,.leaf 3],[.leaf 3],fun p=>Zhj p.1 p.2⟩)
theorem qOf_i (x:Rat) (y:Rat):Zq ⟨Tryz.prog,[(31,0),(33,2),(35,3),(39,1),(41,4)],[],[],[],[],[]⟩ [] Tryz.f224 .no [.leaf 3,.leaf 3] [.leaf 3] (x,y)=Zhj x y:=by kernel_rfl
theorem qOf_k:Zm Tryz.prog Zfi.1 Zfi.2:=Zt (C:=⟨Tryz.prog,[(31,0),(33,2),(35,3),(39,1),(41,4)],[],[],[],[],[]⟩) trivial trivial trivial trivial (inl:=[]) trivial (ann:=.no) Tryz.func224 (fun _ _=>by kernel_rfl) rfl fun v vals x z ha hz=>(qOf_i x.1 x.2).trans hz
end Go.Eng
set_option maxRecDepth 100000
namespace Go.Eng
open Go.Proofs Go.RowKit
theorem Zqt : ∀ y w, (method (Tryz.prog.types.size + Made.depth) 35 y "Add").run Tryz.prog w = .ok (12, y) w := fun _ _ => by kernel_rfl
theorem ZQt : ∀ y w, (method (Tryz.prog.types.size + Made.depth) 35 y "Div").run Tryz.prog w = .ok (118, y) w := fun _ _ => by kernel_rfl
theorem ZSn : ∀ y w, (method (Tryz.prog.types.size + Made.depth) 35 y "Mul").run Tryz.prog w = .ok (13, y) w := fun _ _ => by kernel_rfl
theorem Zso : ∀ y w, (method (Tryz.prog.types.size + Made.depth) 35 y "Neg").run Tryz.prog w = .ok (53, y) w := fun _ _ => by kernel_rfl
theorem Zgu : ∀ y w, (method (Tryz.prog.types.size + Made.depth) 35 y "Of").run Tryz.prog w = .ok (224, y) w := fun _ _ => by kernel_rfl
theorem Ztu : ∀ y w, (method (Tryz.prog.types.size + Made.depth) 35 y "Sub").run Tryz.prog w = .ok (14, y) w := fun _ _ => by kernel_rfl
theorem ZFp : ∀ y w, (method (Tryz.prog.types.size + Made.depth) 35 y "Zero").run Tryz.prog w = .ok (16, y) w := fun _ _ => by kernel_rfl
end Go.Eng
set_option maxRecDepth 100000
set_option maxHeartbeats 4000000
namespace Go.Eng
open Go.Proofs Go.RowKit
noncomputable def Zbe:FuncId×Con:=(151,⟨[.int .i64],[.leaf 3],fun p=>ZHd p⟩)
theorem ZFq (n : Int) : Zq ⟨Tryz.prog, [(31, 0), (33, 2), (35, 3), (39, 1), (41, 4)], [Zuc, Zfi], [], [], [], [((35, "Of"), 224)]⟩ [] Tryz.f151 .no [.int .i64] [.leaf 3] (n) = ZHd n := by kernel_rfl
theorem ZEm : Zm Tryz.prog Zbe.1 Zbe.2 := Zt (C := ⟨Tryz.prog, [(31, 0), (33, 2), (35, 3), (39, 1), (41, 4)], [Zuc, Zfi], [], [], [], [((35, "Of"), 224)]⟩) ⟨Zhh, qOf_k, trivial⟩ trivial trivial ⟨Zgu, trivial⟩ (inl := []) trivial (ann := .no) Tryz.func151 (fun _ _ => by kernel_rfl) rfl fun v vals x z ha hz => (ZFq x).trans hz
end Go.Eng
namespace Go.Eng
open Go.Proofs Go.RowKit
set_option maxRecDepth 100000
theorem Zen:Elem Tryz.prog 26 35 (Z0a).n 56 (Value.agg #[Value.bool false,Value.slice none 0 0,Value.slice none 0 0]):=⟨Tryz.underlying26,by kernel_rfl,rfl,by decide⟩
noncomputable def Zci:FuncId×ConO:=(201,⟨[.slice (.leaf 3)],35,.leaf 3,fun p=>Zjf 56 p⟩)
theorem Zzu:Z0h Tryz.prog Zci.1 Zci.2:=fun w v vals x z hv ha hz=>by
 obtain ⟨cs,rfl,p0⟩:=ha
 have hz:Zjf 56 (show List Rat from x)=some z:=hz
 obtain ⟨hb,rfl⟩:=Z9r hz
 obtain ⟨q,n,c,rfl⟩:=Z0e (show (ZA Z0a).rel v cs z from p0)
 refine ⟨fun _ _=>by kernel_rfl,?_⟩
 have hn:n=(show List Rat from z).length:=by obtain ⟨_,_,e,_⟩:=p0;cases e;rfl
 refine ZXo (K:=8) (args:=[.slice q n c]) hv Tryz.func201 rfl rfl zl fun fa hS=>?_
 refine sr ?_
 refine mw hS rfl fun fa hS=>?_
 refine oe ?_
 refine wp_seq_k fun N1 hN1=>?_
 refine sr ?_
 refine mv hS rfl fun fa hS=>?_
 refine ov hS rfl (ZYt hS Tryz.underlying26 rfl rfl) fun fa hS=>?_
 refine oe ?_
 cases q with
 | none =>
  refine ZM hS rfl rfl ?_
  have hx:(show List Rat from z)=[]:=by
   obtain ⟨q',c',e,_,_,h3⟩:=p0
   cases e
   rcases h3 with h3 | ⟨_,_,_,_,_,h4,_⟩
   ·exact h3
   ·cases h4
  have hx0:n=0:=by rw [hn,hx];rfl
  refine sr ?_;refine mw hS rfl fun fa hS=>?_;refine oe ?_;refine wp_ret ?_;refine ZJa ?_;have hS2:=hS.nilLoc 35 (Z0a).n;have:=Z5k (P:=Tryz.prog) (A:=Z0a) hS2 (i:=0) (ob:=none) (n:=0) (cap:=0) (cs:=[]) rfl (ZCa (fn:=Tryz.f201) (r:=.tmp 2) rfl (ZO (t:=2) (y:=.slice (mkA none) 0 0) hS2 rfl)) (l:=([]:List Rat)) ZXe rfl;rw [hx];exact this
 | some ad =>
  refine ZK hS rfl rfl ?_;refine wp_skip ?_;refine Zf (hN1 _ _ ?_);refine sr ?_;obtain ⟨b,wo,hrun,hS⟩:=Znt Zen hS;refine Zkb wn rfl zl hrun hS fun fa hS=>?_;refine mv hS rfl fun fa hS=>?_;obtain ⟨b',cap',cs2,wo,hr,hS',hrel⟩:=Zuf (ty:=26) (A:=Z0a) Zen hS (i:=0) rfl (Rep.mono (ZA Z0a) hS.vst.le p0) (n':=n) (by omega) (by rw [hn];exact hb) (by decide);refine Zkb wn rfl zl (ZRd hS rfl rfl hr) hS' fun fa hS=>?_;refine mw hS rfl fun fa hS=>?_;refine oe ?_;refine wp_ret ?_;exact Z5k hS (i:=0) rfl (ZCa rfl (ZO hS rfl)) hrel hn
end Go.Eng
set_option maxRecDepth 100000
set_option maxHeartbeats 4000000
namespace Go.Eng
open Go.Proofs Go.RowKit
noncomputable def Zdj:FuncId×Con:=(148,⟨[.slice (.slice (.leaf 3))],[.slice (.slice (.leaf 3)),.slice (.int .i64),.leaf 3],fun p=>ZMg p⟩)
theorem Z3r (m : List (List Rat)) : Zq ⟨Tryz.prog, [(31, 0), (33, 2), (35, 3), (39, 1), (41, 4)], [Znc, ZIb, Z4c, ZNe, Z1c, Zbe], [8], [Zci], [], [((35, "Div"), 118), ((35, "Mul"), 13), ((35, "Neg"), 53), ((35, "Sub"), 14), ((35, "Zero"), 16)]⟩ [(80, Tryz.f80, .cut ⟨⟨[], [], []⟩, [(.ret, ⟨[], [], [.s 0 (.dat (.int .i64))]⟩)]⟩ .no), (184, Tryz.f184, .two .no (.two .no (.two (.two .no (.two (.cut ⟨⟨[3, 9, 10], [], [.s 11 (.dat (.int .i64)), .l (.sl 3) (.mat 26 35 (.leaf 3))]⟩, [(.exit 0, ⟨[3], [], [.l (.sl 3) (.mat 26 35 (.leaf 3))]⟩)]⟩ .no) .no)) .no)))] Tryz.f148 (.two .no (.two .no (.two .no (.two .no (.two (.two .no (.two (.cut ⟨⟨[0, 4, 6, 19], [], [.s 5 (.own 3 (.int .i64)), .s 20 (.dat (.int .i64)), .l (.sl 0) (.mat 26 35 (.leaf 3)), .l (.sl 6) (.box 35 (.dat (.leaf 3)))]⟩, [(.exit 0, ⟨[0, 4, 6], [], [.s 5 (.own 3 (.int .i64)), .l (.sl 0) (.mat 26 35 (.leaf 3)), .l (.sl 6) (.box 35 (.dat (.leaf 3)))]⟩)]⟩ (.two (.two .no (.two .no (.two (.cut ⟨⟨[], [], []⟩, [(.norm, ⟨[0, 4, 6, 19, 20], [], [.s 5 (.own 3 (.int .i64)), .l (.sl 0) (.mat 26 35 (.leaf 3)), .l (.sl 6) (.box 35 (.dat (.leaf 3)))]⟩)]⟩ (.two (.two .no (.two .no (.two .no (.two (.two (.cut ⟨⟨[0, 4, 5, 6, 7, 8, 19, 20], [], [.s 9 (.dat (.int .i64))]⟩, [(.exit 2, ⟨[0, 4, 5, 6, 7, 8, 19, 20], [], [.s 9 (.dat (.int .i64))]⟩)]⟩ (.two (.two (.two (.cut ⟨⟨[], [], []⟩, [(.norm, ⟨[0, 4, 5, 6, 7, 8, 9, 19, 20], [], [.s 40 (.dat .bool)]⟩)]⟩ .no) .no) .no) .no)) .no) (.two .no (.two (.two .no (.cut ⟨⟨[], [], []⟩, [(.norm, ⟨[0, 4, 5, 6, 7, 8, 19, 20], [], [.l (.sl 0) (.mat 26 35 (.leaf 3)), .l (.sl 6) (.box 35 (.dat (.leaf 3)))]⟩)]⟩ .no)) (.two .no (.two .no (.two (.two .no (.two (.cut ⟨⟨[0, 4, 5, 6, 7, 8, 10, 19, 20, 83], [], [.s 84 (.dat (.int .i64)), .l (.sl 0) (.mat 26 35 (.leaf 3))]⟩, [(.exit 4, ⟨[0, 4, 5, 6, 7, 8, 19, 20], [], [.l (.sl 0) (.mat 26 35 (.leaf 3))]⟩)]⟩ .no) .no)) (.two (.two .no (.two (.cut ⟨⟨[0, 4, 5, 6, 7, 8, 19, 20, 108], [], [.s 109 (.dat (.int .i64)), .l (.sl 0) (.mat 26 35 (.leaf 3))]⟩, [(.exit 6, ⟨[0, 4, 5, 6, 7, 19, 20], [], [.l (.sl 0) (.mat 26 35 (.leaf 3))]⟩)]⟩ (.two (.two .no (.two .no (.two (.cut ⟨⟨[], [], []⟩, [(.norm, ⟨[0, 4, 5, 6, 7, 8, 19, 20, 108, 109], [], [.l (.sl 0) (.mat 26 35 (.leaf 3))]⟩)]⟩ (.two (.two .no (.two .no (.two (.two (.cut ⟨⟨[], [], []⟩, [(.norm, ⟨[0, 4, 5, 6, 7, 8, 12, 13, 19, 20, 108, 109], [], [.s 126 (.dat .bool)]⟩)]⟩ .no) .no) (.two .no (.two (.cut ⟨⟨[0, 4, 5, 6, 7, 8, 12, 13, 19, 20, 108, 109, 131], [], [.s 132 (.dat (.int .i64)), .l (.sl 0) (.mat 26 35 (.leaf 3))]⟩, [(.exit 8, ⟨[0, 4, 5, 6, 7, 8, 19, 20, 108, 109], [], [.l (.sl 0) (.mat 26 35 (.leaf 3))]⟩)]⟩ .no) .no))))) .no)) .no))) .no)) .no)) .no)))))))))) .no)) .no))) .no)) .no)) .no))))) [.slice (.slice (.leaf 3))] [.slice (.slice (.leaf 3)), .slice (.int .i64), .leaf 3] (m) = ZMg m := by kernel_rfl
theorem ZUs : Zm Tryz.prog Zdj.1 Zdj.2 := Zt (C := ⟨Tryz.prog, [(31, 0), (33, 2), (35, 3), (39, 1), (41, 4)], [Znc, ZIb, Z4c, ZNe, Z1c, Zbe], [8], [Zci], [], [((35, "Div"), 118), ((35, "Mul"), 13), ((35, "Neg"), 53), ((35, "Sub"), 14), ((35, "Zero"), 16)]⟩) ⟨Z3g, Zig, Zlk, Zgm, Zlj, ZEm, trivial⟩ ⟨Zzu, trivial⟩ trivial ⟨ZQt, ZSn, Zso, Ztu, ZFp, trivial⟩ (inl := [(80, Tryz.f80, .cut ⟨⟨[], [], []⟩, [(.ret, ⟨[], [], [.s 0 (.dat (.int .i64))]⟩)]⟩ .no), (184, Tryz.f184, .two .no (.two .no (.two (.two .no (.two (.cut ⟨⟨[3, 9, 10], [], [.s 11 (.dat (.int .i64)), .l (.sl 3) (.mat 26 35 (.leaf 3))]⟩, [(.exit 0, ⟨[3], [], [.l (.sl 3) (.mat 26 35 (.leaf 3))]⟩)]⟩ .no) .no)) .no)))]) ⟨⟨Tryz.func80, fun _ _ => by kernel_rfl⟩, ⟨Tryz.func184, fun _ _ => by kernel_rfl⟩, trivial⟩ (ann := (.two .no (.two .no (.two .no (.two .no (.two (.two .no (.two (.cut ⟨⟨[0, 4, 6, 19], [], [.s 5 (.own 3 (.int .i64)), .s 20 (.dat (.int .i64)), .l (.sl 0) (.mat 26 35 (.leaf 3)), .l (.sl 6) (.box 35 (.dat (.leaf 3)))]⟩, [(.exit 0, ⟨[0, 4, 6], [], [.s 5 (.own 3 (.int .i64)), .l (.sl 0) (.mat 26 35 (.leaf 3)), .l (.sl 6) (.box 35 (.dat (.leaf 3)))]⟩)]⟩ (.two (.two .no (.two .no (.two (.cut ⟨⟨[], [], []⟩, [(.norm, ⟨[0, 4, 6, 19, 20], [], [.s 5 (.own 3 (.int .i64)), .l (.sl 0) (.mat 26 35 (.leaf 3)), .l (.sl 6) (.box 35 (.dat (.leaf 3)))]⟩)]⟩ (.two (.two .no (.two .no (.two .no (.two (.two (.cut ⟨⟨[0, 4, 5, 6, 7, 8, 19, 20], [], [.s 9 (.dat (.int .i64))]⟩, [(.exit 2, ⟨[0, 4, 5, 6, 7, 8, 19, 20], [], [.s 9 (.dat (.int .i64))]⟩)]⟩ (.two (.two (.two (.cut ⟨⟨[], [], []⟩, [(.norm, ⟨[0, 4, 5, 6, 7, 8, 9, 19, 20], [], [.s 40 (.dat .bool)]⟩)]⟩ .no) .no) .no) .no)) .no) (.two .no (.two (.two .no (.cut ⟨⟨[], [], []⟩, [(.norm, ⟨[0, 4, 5, 6, 7, 8, 19, 20], [], [.l (.sl 0) (.mat 26 35 (.leaf 3)), .l (.sl 6) (.box 35 (.dat (.leaf 3)))]⟩)]⟩ .no)) (.two .no (.two .no (.two (.two .no (.two (.cut ⟨⟨[0, 4, 5, 6, 7, 8, 10, 19, 20, 83], [], [.s 84 (.dat (.int .i64)), .l (.sl 0) (.mat 26 35 (.leaf 3))]⟩, [(.exit 4, ⟨[0, 4, 5, 6, 7, 8, 19, 20], [], [.l (.sl 0) (.mat 26 35 (.leaf 3))]⟩)]⟩ .no) .no)) (.two (.two .no (.two (.cut ⟨⟨[0, 4, 5, 6, 7, 8, 19, 20, 108], [], [.s 109 (.dat (.int .i64)), .l (.sl 0) (.mat 26 35 (.leaf 3))]⟩, [(.exit 6, ⟨[0, 4, 5, 6, 7, 19, 20], [], [.l (.sl 0) (.mat 26 35 (.leaf 3))]⟩)]⟩ (.two (.two .no (.two .no (.two (.cut ⟨⟨[], [], []⟩, [(.norm, ⟨[0, 4, 5, 6, 7, 8, 19, 20, 108, 109], [], [.l (.sl 0) (.mat 26 35 (.leaf 3))]⟩)]⟩ (.two (.two .no (.two .no (.two (.two (.cut ⟨⟨[], [], []⟩, [(.norm, ⟨[0, 4, 5, 6, 7, 8, 12, 13, 19, 20, 108, 109], [], [.s 126 (.dat .bool)]⟩)]⟩ .no) .no) (.two .no (.two (.cut ⟨⟨[0, 4, 5, 6, 7, 8, 12, 13, 19, 20, 108, 109, 131], [], [.s 132 (.dat (.int .i64)), .l (.sl 0) (.mat 26 35 (.leaf 3))]⟩, [(.exit 8, ⟨[0, 4, 5, 6, 7, 8, 19, 20, 108, 109], [], [.l (.sl 0) (.mat 26 35 (.leaf 3))]⟩)]⟩ .no) .no))))) .no)) .no))) .no)) .no)) .no)))))))))) .no)) .no))) .no)) .no)) .no)))))) Tryz.func148 (fun _ _ => by kernel_rfl) rfl fun v vals x z ha hz => (Z3r x).trans hz
end Go.Eng
set_option maxRecDepth 100000
set_option maxHeartbeats 4000000
namespace Go.Eng
open Go.Proofs Go.RowKit
noncomputable def ZCj:FuncId×Con:=(185,⟨[.slice (.int .i64),.int .i64],[.int .i64],fun p=>ZVh p.1 p.2⟩)
theorem Ztr (l:(List Int)) (v:Int):Zq ⟨Tryz.prog,[(31,0),(33,2),(35,3),(39,1),(41,4)],[],[],[],[],[]⟩ [] Tryz.f185 (.two .no (.two (.two .no (.cut ⟨⟨[],[],[]⟩,[(.norm,⟨[],[],[]⟩),(.ret,⟨[],[],[.s 0 (.dat (.int .i64))]⟩)]⟩ (.two (.cut ⟨⟨[0,1,7],[],[.s 8 (.dat (.int .i64))]⟩,[(.ret,⟨[],[],[.s 0 (.dat (.int .i64))]⟩),(.exit 0,⟨[],[],[]⟩)]⟩ .no) .no))) .no)) [.slice (.int .i64),.int .i64] [.int .i64] (l,v)=ZVh l v:=by kernel_rfl
theorem ZSt:Zm Tryz.prog ZCj.1 ZCj.2:=Zt (C:=⟨Tryz.prog,[(31,0),(33,2),(35,3),(39,1),(41,4)],[],[],[],[],[]⟩) trivial trivial trivial trivial (inl:=[]) trivial (ann:=.two .no (.two (.two .no (.cut ⟨⟨[],[],[]⟩,[(.norm,⟨[],[],[]⟩),(.ret,⟨[],[],[.s 0 (.dat (.int .i64))]⟩)]⟩ (.two (.cut ⟨⟨[0,1,7],[],[.s 8 (.dat (.int .i64))]⟩,[(.ret,⟨[],[],[.s 0 (.dat (.int .i64))]⟩),(.exit 0,⟨[],[],[]⟩)]⟩ .no) .no))) .no)) Tryz.func185 (fun _ _=>by kernel_rfl) rfl fun v vals x z ha hz=>(Ztr x.1 x.2).trans (hz)
end Go.Eng
set_option maxRecDepth 100000
set_option maxHeartbeats 4000000
namespace Go.Eng
open Go.Proofs Go.RowKit
noncomputable def ZPj:FuncId×Con:=(149,⟨[.slice (.int .i64),.int .i64],[.bool],fun p=>Zfh p.1 p.2⟩)
theorem ZFr (l:(List Int)) (v:Int):Zq ⟨Tryz.prog,[(31,0),(33,2),(35,3),(39,1),(41,4)],[ZCj],[],[],[],[]⟩ [] Tryz.f149 .no [.slice (.int .i64),.int .i64] [.bool] (l,v)=Zfh l v:=by kernel_rfl
theorem Zet:Zm Tryz.prog ZPj.1 ZPj.2:=Zt (C:=⟨Tryz.prog,[(31,0),(33,2),(35,3),(39,1),(41,4)],[ZCj],[],[],[],[]⟩) ⟨ZSt,trivial⟩ trivial trivial trivial (inl:=[]) trivial (ann:=.no) Tryz.func149 (fun _ _=>by kernel_rfl) rfl fun v vals x z ha hz=>(ZFr x.1 x.2).trans (hz)
noncomputable def Zpk (x:Int) (y:Int):Option (Int×Int) :=
 bnd (ZVb x y) fun a =>
 some ((a.1,a.2))
end Go.Eng
namespace Go.Eng
open Go.Proofs Go.RowKit
theorem bmul_w {c:World} {a:Zb} (hv:VIn a c) {d:List Value} {x:Int} (i:Rep.rel (Zd .u64) a d x) {e:List Value} {y:Int} (j:Rep.rel (Zd .u64) a e y) {z:Int×Int} (H:Zpk x y=some z):Ret Tryz.prog 172 #[(Zd .u64).val d,(Zd .u64).val e] c a (fun y v'=>∃ g b,y = .tuple #[(Zd .u64).val g,(Zd .u64).val b]∧(Zd .u64).rel v' g z.1∧(Zd .u64).rel v' b z.2):=by
 obtain ⟨rfl,b⟩:=i;obtain ⟨rfl,k⟩:=j;refine Zwb (K:=30) (args:=[.int .u64 x,.int .u64 y]) hv Tryz.func172 rfl rfl zl fun f S=>?_;unfold Zpk at H;refine sr (mw S rfl fun f S=>mw S rfl fun f S=>oe (Zj fun _ l=>ZK S rfl rfl (wp_skip (Zf (l _ _ (Zj fun _ m=>bO H fun h n H=>Zr (mv S rfl fun f S=>mv S rfl fun f S=>opc S rfl (Z3 S [.int .u64 x,.int .u64 y] Z2l rfl rfl) (Z1m S.vin (show Rep.rel (Zd .u64) _ [.int .u64 x] x from (ZB b)) (show Rep.rel (Zd .u64) _ [.int .u64 y] y from (ZB k)) n) ?_)))))));rintro _ s f w t ⟨u,v,rfl,o,p⟩ S;obtain ⟨rfl,q⟩:=o;obtain ⟨rfl,r⟩:=p;refine mv S rfl fun f S=>ov S rfl (Zna S rfl rfl) fun f S=>ov S rfl (Zna S rfl rfl) fun f S=>mw S rfl fun f S=>mw S rfl fun f S=>Zn (Zf (m _ _ (sr (mv S rfl fun f S=>mv S rfl fun f S=>mw S rfl fun f S=>mw S rfl fun f S=>oe (wp_ret ?_)))));obtain rfl:=Zl H;refine Zwa S (Zoe rfl (ZO S rfl) (ZO S rfl)) ⟨[.int .u64 (h.1)],[.int .u64 (h.2)],rfl,(ZB q),(ZB r)⟩
set_option maxRecDepth 100000
theorem ZMk:Elem Tryz.prog 26 35 (Z0a).n 56 (Value.agg #[Value.bool false,Value.slice none 0 0,Value.slice none 0 0]):=⟨Tryz.underlying26,by kernel_rfl,rfl,by decide⟩
theorem Z3h:ZQc Tryz.prog 26 35 (Z0a).n:=⟨fun _=>by kernel_rfl,fun _=>by kernel_rfl⟩
theorem Zer:Tryz.prog.follows .mixedOrders=true:=by kernel_rfl
theorem Zev:Z9 Tryz.prog 172:=fun _ _=>by kernel_rfl
theorem Z4o:Zih Tryz.prog 3 215 .i64 .u64:=fun _ _=>by kernel_rfl
theorem ZBv:Zih Tryz.prog 215 3 .u64 .i64:=fun _ _=>by kernel_rfl
noncomputable def ZSi:FuncId×ConO:=(186,⟨[.slice (.leaf 3),.int .i64],35,.leaf 3,fun p=>repF 56 p.1 p.2⟩)
theorem Zsv:Z0h Tryz.prog ZSi.1 ZSi.2:=fun w v vals x z hv ha hz=>by
 obtain ⟨cs,vs,rfl,p0,c1,rfl,rfl,hin⟩:=ha
 obtain ⟨x1,k0⟩:=x
 have hz:repF 56 (show List Rat from x1) k0=some z:=hz
 obtain ⟨y,hx1,hzr,hmk⟩:=ZPq hz
 have hx1:x1=[y]:=hx1
 subst hx1 hzr
 obtain ⟨h0,_,hb1,hb2⟩:=ZDa hmk
 obtain ⟨k,rfl⟩:=Int.eq_ofNat_of_zero_le h0
 obtain ⟨q,c,e,hc1,hc2,hne⟩:=(show (ZA Z0a).rel v cs [y] from p0)
 subst e
 rcases hne with hne | ⟨b,off,cc,TT,fr,rfl,hvb,hrel⟩
 ·cases hne
 have hlen1:([y]:List Rat).length=1:=rfl
 rw [hlen1] at hrel
 obtain ⟨c1,c2,e12,hrc,e2⟩:=hrel
 have e2:c2=[]:=e2
 subst e2
 rw [List.append_nil,Nat.one_mul] at e12
 have hl1:=Rep.len _ hrc
 have hAt:At v b off c1:=⟨cc,TT,fr,hvb,by rw [hl1];exact e12⟩
 refine ⟨fun _ _=>by kernel_rfl,?_⟩
 have hk:((k:Int).toNat)=k:=Int.toNat_natCast k
 rw [hk]
 refine ZXo (K:=48) (args:=[.slice (some ⟨b,off,none⟩) 1 c,.int .i64 (k:Int)]) hv Tryz.func186 rfl rfl zl fun fa hS=>?_
 refine sr ?_
 refine mw hS rfl fun fa hS=>?_
 refine oe ?_
 refine wp_seq_k fun N1 hN1=>?_
 refine sr ?_
 refine mv hS rfl fun fa hS=>?_
 refine ov hS rfl (Ze hS rfl rfl ZRb) fun fa hS=>?_
 refine oe ?_
 refine ZK hS rfl (decide_eq_false (by omega)) ?_
 refine wp_skip ?_
 refine Zf (hN1 _ _ ?_)
 refine sr ?_
 refine mv hS rfl fun fa hS=>?_
 refine ov hS rfl (Z3d hS rfl rfl Z3h) fun fa hS=>?_
 refine ov hS rfl (Znd hS rfl (Z4o _)) fun fa hS=>?_
 refine mv hS rfl fun fa hS=>?_
 refine ov hS rfl (Znd hS rfl (Z4o _)) fun fa hS=>?_
 have w1:IntKind.u64.wrap ((1:Nat):Int)=1:=by decide
 have w2:IntKind.u64.wrap (k:Int)=k:=Z8d (ZBc.2 (by omega))
 rw [w1,w2] at hS
 have hmul:Zpk 1 (k:Int)=some (0,(k:Int)):=by
  unfold Zpk ZVb;rw [if_pos (by omega),Za];simp only;congr 2 <;> omega
 refine ZEp hS wn rfl zl (Z3 hS [.int .u64 1,.int .u64 (k:Int)] Zev rfl rfl) (bmul_w hS.vin (show Rep.rel (Zd .u64) _ [.int .u64 1] 1 from ZB (by decide)) (show Rep.rel (Zd .u64) _ [.int .u64 (k:Int)] (k:Int) from ZB (ZBc.2 (by omega))) hmul) ?_;rintro _ v1 fa wo hle ⟨r0,r1,rfl,⟨rfl,_⟩,⟨rfl,_⟩⟩ hS;refine mv hS rfl fun fa hS=>?_;refine ov hS rfl (Zna hS rfl rfl) fun fa hS=>?_;refine ov hS rfl (Zna hS rfl rfl) fun fa hS=>?_;refine mw hS rfl fun fa hS=>?_;refine mw hS rfl fun fa hS=>?_;refine oe ?_;refine wp_seq_k fun N2 hN2=>?_;refine sr ?_;refine mv hS rfl fun fa hS=>?_;refine ov hS rfl (Ze hS rfl rfl ZNc) fun fa hS=>?_;have g1:decide ((0:Int)<0)=false:=rfl;have hS:St _ _ _ ((22,Value.bool false) :: _) _ _ _ _:=hS;refine mv hS rfl fun fa hS=>?_;refine op_v hS (Zgf hS rfl rfl rfl zl) rfl zl (Zx hS rfl) fun fa hS=>?_;refine op_v hS (Zgf hS rfl rfl rfl zl) rfl zl (Ze hS rfl rfl ZNc) fun fa hS=>?_;refine ov hS rfl (Zcb (b:=false) hS rfl rfl) fun fa hS=>?_;refine oe ?_;refine ZK hS rfl (decide_eq_false (by omega)) ?_;refine wp_skip ?_;refine Zf (hN2 _ _ ?_);refine sr ?_;refine mv hS rfl fun fa hS=>?_;refine ov hS rfl (Znd hS rfl (ZBv _)) fun fa hS=>?_;have w3:IntKind.i64.wrap (k:Int)=k:=Z8d (ZMa.2 (by omega));rw [w3] at hS;obtain ⟨b2,wo,hrun,hS'⟩:=ZKl ZMk hS (l:=(k:Int)) (c:=(k:Int)) h0 (Int.le_refl _) hb1 hb2
 refine Zkb wn rfl zl (hrun rfl rfl) hS' fun fa hS=>?_;refine mw hS rfl fun fa hS=>?_;refine oe ?_;rw [hk] at hS;have hS:=hS.fr' (σ':=[(7,.slice (mkA (some b2)) k k),(0,.slice (some ⟨b,off,none⟩) 1 c)]) rfl;have src1:∀ {σ:List (Nat×Value)} {ℓ:List Loc} {v':Zb} {a:Act} {w':World},St 48 w v σ ℓ v' a w'→∀ j u,c1[j]? = some u→w'.cell? ((⟨b,off,none⟩:Addr).add j)=some u:=fun hS j u hu=>by
  have:=(hS.view (At.mono hS.vst.le hAt)).cell hu
  rwa [Zjb]
 have hpl1:c1.all plain=true:=Rep.flat _ hrc;obtain ⟨zc,hzc⟩:∃ zc:List Value,zc=(Value.agg #[Value.bool false,Value.slice none 0 0,Value.slice none 0 0]:Value).cells.toList:=⟨_,rfl⟩;have hzl:zc.length=(Z0a).n:=by rw [hzc];rfl
 rw [← hzc] at hS
 let Inv:Nat→Act→World→Prop:=fun j a w'=>∃ v',j≤k∧(0<k→0<j)∧St 48 w v [(8,.int .i64 (j:Int)),(7,.slice (mkA (some b2)) k k)] [.own (some b2) 35 (Z0a).n k k ((List.replicate j c1).flatten++(List.replicate (k-j) zc).flatten)] v' a w'
 have rl:=fun n=>Zpj hl1 n;have rpl:∀ n:Nat,((List.replicate n c1).flatten).all plain=true:=fun n=>Z6s hpl1 n;have step:=fun j m (hjm:j+m≤k)=>rp_step (k:=k) hl1 hzl hjm;refine sr ?_;refine mv hS rfl fun fa hS=>?_;refine mv hS rfl fun fa hS=>?_;have hS1:St 48 w v _ [.own (some b2) 35 (Z0a).n k k ((List.replicate 0 c1).flatten++(List.replicate (k-0) zc).flatten)] v1 fa wo:=hS;obtain ⟨wo2,hr,hS'⟩:=Z6o (t:=26) (sT:=26) ZMk hS1 (i:=0) rfl (p:=0) (k:=min 1 k) (c:=(List.replicate (min 1 k) c1).flatten) (rl _) (by omega) (rpl _) (ad:=⟨b,off,none⟩) (sLen:=1) (sCap:=c) (dLen:=k) (dCap:=k) (fun j u hu=>by
  rcases Nat.lt_or_ge 0 k with hk0 | hk0
  ·rw [show min 1 k=1 by omega] at hu;simp only [List.replicate_one,List.flatten_cons,List.flatten_nil,List.append_nil] at hu;exact src1 hS1 j u hu
  ·rw [show min 1 k=0 by omega] at hu;simp at hu) rfl
 have hst:=step 0 (min 1 k) (by omega);simp only [List.set_cons_zero] at hS';rw [hst] at hS';simp only [Nat.zero_add] at hS';rw [Nat.zero_mul] at hr;refine Zkb wn rfl zl (ZCp hS1 rfl rfl (hr _)) hS' fun fa hS=>?_;refine mw hS rfl fun fa hS=>?_;refine oe ?_;have hS:=hS.fr' (σ':=[(8,.int .i64 ((min 1 k:Nat):Int)),(7,.slice (mkA (some b2)) k k)]) rfl;refine wp_seq_k fun N3 hN3=>?_;refine wp_block ?_;refine wp_loop_fuel (fun m a w'=>∃ j,k-j<m∧Inv j a w') (k+1) ⟨min 1 k,by omega,v1,by omega,by omega,hS⟩ (fun a w' ⟨j,h,_⟩=>by omega) ?_;rintro m fa wo3 ⟨j,hjm,v3,hjk,hj0,hS⟩ N hN;refine wp_seq_k fun N4 hN4=>?_;refine sr ?_;refine mv hS rfl fun fa hS=>?_;refine mv hS rfl fun fa hS=>?_;refine ov hS rfl (Z3d hS rfl rfl Z3h) fun fa hS=>?_;refine ov hS rfl (Ze hS rfl rfl ZRb) fun fa hS=>?_;refine oe ?_;by_cases hlt:j<k
 ·refine ZM hS rfl (decide_eq_true (by omega)) ?_;refine wp_skip ?_;refine Zf (hN4 _ _ ?_);refine wp_block ?_;have hS:=hS.fr' (σ':=[(8,.int .i64 (j:Int)),(7,.slice (mkA (some b2)) k k)]) rfl;refine Zsd (fl:=#[true,true,true,true,true,true,true,false,false,false]) Zer (by kernel_rfl) hS ?_;intro ops hops hF wo hS;refine rf hops hF 0 rfl (by kernel_rfl) rfl hS (Zx hS rfl) fun fa hS=>?_;refine rf hops hF 1 rfl (by kernel_rfl) rfl hS (Zx hS rfl) fun fa hS=>?_;refine rf hops hF 2 rfl (by kernel_rfl) rfl hS (Zx hS rfl) fun fa hS=>?_;refine rf hops hF 3 rfl (by kernel_rfl) rfl hS (Z7s hS Z3h rfl rfl (by omega) (by omega)) fun fa hS=>?_;refine rf hops hF 4 rfl (by kernel_rfl) rfl hS (Zx hS rfl) fun fa hS=>?_;refine rf hops hF 5 rfl (by kernel_rfl) rfl hS (Zx hS rfl) fun fa hS=>?_;refine rf hops hF 6 rfl (by kernel_rfl) rfl hS (Z9t hS Z3h rfl rfl (by omega) (by omega)) fun fa hS=>?_;rw [Nat.zero_add] at hS;obtain ⟨wo',hr,hS'⟩:=Z6o (t:=26) (sT:=26) ZMk hS (i:=0) rfl (p:=j) (k:=min j (k-j)) (c:=(List.replicate (min j (k-j)) c1).flatten) (rl _) (by omega) (rpl _) (ad:=⟨b2,0,none⟩) (sLen:=j) (sCap:=k) (dLen:=k-j) (dCap:=k-j) (fun i u hu=>by
   have hi:=(List.getElem?_eq_some_iff.1 hu).1;refine Zni hS (j:=0) rfl i u ?_;rw [Zfp (c:=c1) (m:=min j (k-j)) (n:=j) (by omega),List.append_assoc,List.getElem?_append_left hi];exact hu) rfl
  have hst:=step j (min j (k-j)) (by omega);simp only [List.set_cons_zero] at hS';rw [hst] at hS';refine Zbi hops hF 7 (by kernel_rfl) ?_;refine nx_ex' [3,6,1,2,4,5] [0] hops rfl (by kernel_rfl) wn rfl zl (ZCp hS rfl rfl (hr _)) hS' fun fa hS=>?_;refine ⟨(py hS rfl rfl (Zx hS rfl) ZYb),?_⟩;refine Zbi hops hF 8 (by kernel_rfl) ?_;have hadd:chk .i64 ((j:Int)+((min j (k-j):Nat):Int))=some ((j+min j (k-j):Nat):Int):=by rw [ZC (by omega) (by omega)];rfl
  refine nv [0,7,3,6,1,2,4,5] [] hops rfl (by kernel_rfl) rfl hS (Ze hS rfl rfl (ZFa hadd)) fun fa hS=>?_;refine ⟨ZYb,?_⟩;refine Zbi hops hF 9 (by kernel_rfl) ?_;refine nv [0,1,2,3,4,5,6,7,8] [] hops rfl (by kernel_rfl) rfl hS (Z5c hS rfl) fun fa hS=>?_;refine ⟨ZYb,?_⟩;refine Zrp hops hF (by kernel_rfl) ?_;refine Z7a ?_;have hj0:=hj0 (by omega);exact Zf (hN _ _ ⟨j+min j (k-j),by omega,v3,by omega,fun _=>by omega,hS.fr' rfl⟩)
 refine ZK hS rfl (decide_eq_false (by omega)) ?_;refine wp_exit ?_;refine ZV ?_;refine ZV ?_;refine ZVa ?_;refine Zf (hN3 _ _ ?_);have hjk:j=k:=by omega
 subst hjk;rw [Nat.sub_self,List.replicate_zero,List.flatten_nil,List.append_nil] at hS;refine sr ?_;refine mv hS rfl fun fa hS=>?_;refine mw hS rfl fun fa hS=>?_;refine oe ?_;refine wp_ret ?_;exact Z5k hS (i:=0) rfl (ZCa rfl (ZO hS rfl)) (Z7d (Rep.mono _ hS.vst.le hrc) _) (List.length_replicate (n:=j) (a:=y)).symm
end Go.Eng
set_option maxRecDepth 100000
set_option maxHeartbeats 4000000
namespace Go.Eng
open Go.Proofs Go.RowKit
noncomputable def Zej:FuncId×Con:=(104,⟨[.slice (.slice (.leaf 3))],[.slice (.slice (.leaf 3)),.int .i64],fun p=>Zjh p⟩)
theorem Zbt (m : List (List Rat)) : Zq ⟨Tryz.prog, [(31, 0), (33, 2), (35, 3), (39, 1), (41, 4)], [ZNe, Zrg, Zse, Zdj, ZPj, Zbe], [], [ZSi], [], [((35, "Neg"), 53)]⟩ [(150, Tryz.f150, .no)] Tryz.f104 (.two .no (.two .no (.two .no (.two .no (.two (.two .no (.two (.cut ⟨⟨[0, 4, 5, 22], [], [.s 7 (.own 26 (.slice (.leaf 3))), .s 23 (.dat (.int .i64))]⟩, [(.exit 0, ⟨[], [], [.s 7 (.own 26 (.slice (.leaf 3)))]⟩)]⟩ (.two (.two .no (.two .no (.two (.cut ⟨⟨[], [], []⟩, [(.norm, ⟨[0, 4, 5, 22, 23], [], [.s 7 (.own 26 (.slice (.leaf 3)))]⟩)]⟩ (.two (.two .no (.two .no (.two .no (.two .no (.two (.two .no (.two (.cut ⟨⟨[0, 4, 5, 7, 8, 9, 22, 23, 36, 37], [], [.s 38 (.dat (.int .i64)), .l (.sl 9) (.own 35 (.leaf 3))]⟩, [(.exit 2, ⟨[0, 4, 5, 7, 9, 22, 23], [], [.l (.sl 9) (.own 35 (.leaf 3))]⟩)]⟩ .no) .no)) .no))))) .no)) .no))) .no)) .no)) .no))))) [.slice (.slice (.leaf 3))] [.slice (.slice (.leaf 3)), .int .i64] (m) = Zjh m := by kernel_rfl
theorem Z2r : Zm Tryz.prog Zej.1 Zej.2 := Zt (C := ⟨Tryz.prog, [(31, 0), (33, 2), (35, 3), (39, 1), (41, 4)], [ZNe, Zrg, Zse, Zdj, ZPj, Zbe], [], [ZSi], [], [((35, "Neg"), 53)]⟩) ⟨Zgm, Znp, ZZk, ZUs, Zet, ZEm, trivial⟩ ⟨Zsv, trivial⟩ trivial ⟨Zso, trivial⟩ (inl := [(150, Tryz.f150, .no)]) ⟨⟨Tryz.func150, fun _ _ => by kernel_rfl⟩, trivial⟩ (ann := (.two .no (.two .no (.two .no (.two .no (.two (.two .no (.two (.cut ⟨⟨[0, 4, 5, 22], [], [.s 7 (.own 26 (.slice (.leaf 3))), .s 23 (.dat (.int .i64))]⟩, [(.exit 0, ⟨[], [], [.s 7 (.own 26 (.slice (.leaf 3)))]⟩)]⟩ (.two (.two .no (.two .no (.two (.cut ⟨⟨[], [], []⟩, [(.norm, ⟨[0, 4, 5, 22, 23], [], [.s 7 (.own 26 (.slice (.leaf 3)))]⟩)]⟩ (.two (.two .no (.two .no (.two .no (.two .no (.two (.two .no (.two (.cut ⟨⟨[0, 4, 5, 7, 8, 9, 22, 23, 36, 37], [], [.s 38 (.dat (.int .i64)), .l (.sl 9) (.own 35 (.leaf 3))]⟩, [(.exit 2, ⟨[0, 4, 5, 7, 9, 22, 23], [], [.l (.sl 9) (.own 35 (.leaf 3))]⟩)]⟩ .no) .no)) .no))))) .no)) .no))) .no)) .no)) .no)))))) Tryz.func104 (fun _ _ => by kernel_rfl) rfl fun v vals x z ha hz => (Zbt x).trans hz
end Go.Eng
set_option maxRecDepth 100000
set_option maxHeartbeats 4000000
namespace Go.Eng
open Go.Proofs Go.RowKit
noncomputable def ZEi:FuncId×Con:=(105,⟨[.slice (.leaf 3),.slice (.leaf 3)],[.leaf 3],fun p=>Zph p.1 p.2⟩)
theorem ldot_i (x : List Rat) (y : List Rat) : Zq ⟨Tryz.prog, [(31, 0), (33, 2), (35, 3), (39, 1), (41, 4)], [ZOb, Znc, Zbe], [], [], [], [((35, "Add"), 12), ((35, "Mul"), 13)]⟩ [] Tryz.f105 (.two .no (.two .no (.two (.two .no (.two (.cut ⟨⟨[0, 1, 4, 5, 9], [], [.s 10 (.dat (.int .i64)), .l (.sl 5) (.box 35 (.dat (.leaf 3)))]⟩, [(.exit 0, ⟨[4, 5], [], [.l (.sl 5) (.box 35 (.dat (.leaf 3)))]⟩)]⟩ .no) .no)) .no))) [.slice (.leaf 3), .slice (.leaf 3)] [.leaf 3] (x, y) = Zph x y := by kernel_rfl
theorem ldot_k : Zm Tryz.prog ZEi.1 ZEi.2 := Zt (C := ⟨Tryz.prog, [(31, 0), (33, 2), (35, 3), (39, 1), (41, 4)], [ZOb, Znc, Zbe], [], [], [], [((35, "Add"), 12), ((35, "Mul"), 13)]⟩) ⟨ZDf, Z3g, ZEm, trivial⟩ trivial trivial ⟨Zqt, ZSn, trivial⟩ (inl := []) trivial (ann := (.two .no (.two .no (.two (.two .no (.two (.cut ⟨⟨[0, 1, 4, 5, 9], [], [.s 10 (.dat (.int .i64)), .l (.sl 5) (.box 35 (.dat (.leaf 3)))]⟩, [(.exit 0, ⟨[4, 5], [], [.l (.sl 5) (.box 35 (.dat (.leaf 3)))]⟩)]⟩ .no) .no)) .no)))) Tryz.func105 (fun _ _ => by kernel_rfl) rfl fun v vals x z ha hz => (ldot_i x.1 x.2).trans hz
end Go.Eng
set_option maxRecDepth 100000
set_option maxHeartbeats 4000000
namespace Go.Eng
open Go.Proofs Go.RowKit
noncomputable def Zrj:FuncId×Con:=(57,⟨[.slice (.slice (.leaf 3)),.slice (.leaf 3)],[.bool,.slice (.leaf 3),.int .i64],fun p=>Zch p.1 p.2⟩)
theorem Zhs (m : List (List Rat)) (c : List Rat) : Zq ⟨Tryz.prog, [(31, 0), (33, 2), (35, 3), (39, 1), (41, 4)], [Z4c, Zrg, Zse, Zej, ZEi], [], [], [], [((35, "Zero"), 16)]⟩ [] Tryz.f57 (.two .no (.two (.two (.cut ⟨⟨[], [], []⟩, [(.norm, ⟨[0, 1], [], [.s 20 (.dat .bool)]⟩)]⟩ .no) .no) (.two .no (.two (.two .no (.two (.cut ⟨⟨[1, 26, 27], [], [.s 28 (.dat (.int .i64))]⟩, [(.exit 0, ⟨[], [], []⟩), (.ret, ⟨[], [], [.s 0 (.dat .bool), .s 0 (.dat (.slice (.leaf 3))), .s 0 (.dat (.int .i64))]⟩)]⟩ .no) .no)) .no)))) [.slice (.slice (.leaf 3)), .slice (.leaf 3)] [.bool, .slice (.leaf 3), .int .i64] (m, c) = Zch m c := by kernel_rfl
theorem ZNq : Zm Tryz.prog Zrj.1 Zrj.2 := Zt (C := ⟨Tryz.prog, [(31, 0), (33, 2), (35, 3), (39, 1), (41, 4)], [Z4c, Zrg, Zse, Zej, ZEi], [], [], [], [((35, "Zero"), 16)]⟩) ⟨Zlk, Znp, ZZk, Z2r, ldot_k, trivial⟩ trivial trivial ⟨ZFp, trivial⟩ (inl := []) trivial (ann := (.two .no (.two (.two (.cut ⟨⟨[], [], []⟩, [(.norm, ⟨[0, 1], [], [.s 20 (.dat .bool)]⟩)]⟩ .no) .no) (.two .no (.two (.two .no (.two (.cut ⟨⟨[1, 26, 27], [], [.s 28 (.dat (.int .i64))]⟩, [(.exit 0, ⟨[], [], []⟩), (.ret, ⟨[], [], [.s 0 (.dat .bool), .s 0 (.dat (.slice (.leaf 3))), .s 0 (.dat (.int .i64))]⟩)]⟩ .no) .no)) .no))))) Tryz.func57 (fun _ _ => by kernel_rfl) rfl fun v vals x z ha hz => (Zhs x.1 x.2).trans hz
end Go.Eng
set_option maxRecDepth 100000
set_option maxHeartbeats 4000000
namespace Go.Eng
open Go.Proofs Go.RowKit
noncomputable def Zcj:FuncId×Con:=(19,⟨[.pair (.int .i64) (.pair (.int .i64) (.pair (.int .i64) (.int .i64))),.slice (.pair (.int .i64) (.pair (.int .i64) (.pair (.int .i64) (.pair (.int .i64) (.leaf 3))))),.int .i64,.int .i64],[.bool,.slice (.leaf 3),.int .i64],fun p=>ZAe p.1 p.2.1 p.2.2.1 p.2.2.2⟩)
theorem Z0q (z:Int×Int×Int×Int) (l:List (Int×Int×Int×Int×Rat)) (a:Int) (b:Int):Zq ⟨Tryz.prog,[(31,0),(33,2),(35,3),(39,1),(41,4)],[ZRj,Zrj],[],[],[],[]⟩ [] Tryz.f19 .no [.pair (.int .i64) (.pair (.int .i64) (.pair (.int .i64) (.int .i64))),.slice (.pair (.int .i64) (.pair (.int .i64) (.pair (.int .i64) (.pair (.int .i64) (.leaf 3))))),.int .i64,.int .i64] [.bool,.slice (.leaf 3),.int .i64] (z,l,a,b)=ZAe z l a b:=by kernel_rfl
theorem Zwr:Zm Tryz.prog Zcj.1 Zcj.2:=Zt (C:=⟨Tryz.prog,[(31,0),(33,2),(35,3),(39,1),(41,4)],[ZRj,Zrj],[],[],[],[]⟩) ⟨asked_k,ZNq,trivial⟩ trivial trivial trivial (inl:=[]) trivial (ann:=.no) Tryz.func19 (fun _ _=>by kernel_rfl) rfl fun v vals x z ha hz=>(Z0q x.1 x.2.1 x.2.2.1 x.2.2.2).trans hz
end Go.Eng
set_option maxRecDepth 100000
set_option maxHeartbeats 4000000
namespace Go.Eng
open Go.Proofs Go.RowKit
theorem Z5r (n:Int) (a:Int) (b:Int):Zq ⟨Tryz.prog,[(31,0),(33,2),(35,3),(39,1),(41,4)],[Z9h,Z4c,Zyi,Zcj],[],[],[],[]⟩ [] Tryz.f4 (.two .no (.two .no (.two (.two (.cut ⟨⟨[],[],[]⟩,[(.norm,⟨[0,1,2,7,8],[],[.s 28 (.dat .bool)]⟩)]⟩ .no) (.two (.two (.cut ⟨⟨[],[],[]⟩,[(.norm,⟨[],[],[.s 6 (.dat .bool)]⟩)]⟩ .no) .no) .no)) (.two (.two (.cut ⟨⟨[],[],[]⟩,[(.norm,⟨[0,1,2,7],[],[.s 48 (.dat .bool)]⟩)]⟩ .no) .no) (.two (.two .no (.two (.cut ⟨⟨[0,1,2,7],[],[.s 9 (.dat (.int .i64))]⟩,[(.exit 0,⟨[0,1,2,7],[],[]⟩),(.ret,⟨[],[],[.s 0 (.dat .bool)]⟩)]⟩ (.two (.two .no (.two (.two (.two .no (.two (.cut ⟨⟨[0,1,2,7,9],[],[.s 10 (.dat (.int .i64))]⟩,[(.exit 2,⟨[0,1,2,7,9],[],[]⟩),(.ret,⟨[],[],[.s 0 (.dat .bool)]⟩)]⟩ (.two (.two .no (.two (.two (.two .no (.two (.cut ⟨⟨[],[],[]⟩,[(.norm,⟨[0,1,2,7,9,10],[],[.s 103 (.dat .bool)]⟩)]⟩ .no) .no)) .no) .no)) .no)) .no)) .no) .no)) .no)) .no)) (.two .no (.two .no (.two (.cut ⟨⟨[],[],[]⟩,[(.norm,⟨[],[],[.s 6 (.dat .bool)]⟩)]⟩ .no) .no)))))))) [.int .i64,.int .i64,.int .i64] [.bool] (n,a,b)=Z8c n a b:=by kernel_rfl
theorem Z2u {w0:World} {v0:Zb} (hv:VIn v0 w0) {c0:List Value} {n:Int} (p0:Rep.rel (Zd .i64) v0 c0 n) {c1:List Value} {a:Int} (p1:Rep.rel (Zd .i64) v0 c1 a) {c2:List Value} {b:Int} (p2:Rep.rel (Zd .i64) v0 c2 b) {z:Bool} (hm:Z8c n a b=some z):Ret Tryz.prog 4 #[(Zd .i64).val c0,(Zd .i64).val c1,(Zd .i64).val c2] w0 v0 (fun y v'=>∃ r0,y=ZEc.val r0∧ZEc.rel v' r0 z):=(ZVk (C:=⟨Tryz.prog,[(31,0),(33,2),(35,3),(39,1),(41,4)],[Z9h,Z4c,Zyi,Zcj],[],[],[],[]⟩) (CfOK.of ⟨ZAt,Zlk,Zkr,Zwr,trivial⟩ trivial trivial trivial) (inl:=[]) (Zce.of trivial) (ann:=(.two .no (.two .no (.two (.two (.cut ⟨⟨[],[],[]⟩,[(.norm,⟨[0,1,2,7,8],[],[.s 28 (.dat .bool)]⟩)]⟩ .no) (.two (.two (.cut ⟨⟨[],[],[]⟩,[(.norm,⟨[],[],[.s 6 (.dat .bool)]⟩)]⟩ .no) .no) .no)) (.two (.two (.cut ⟨⟨[],[],[]⟩,[(.norm,⟨[0,1,2,7],[],[.s 48 (.dat .bool)]⟩)]⟩ .no) .no) (.two (.two .no (.two (.cut ⟨⟨[0,1,2,7],[],[.s 9 (.dat (.int .i64))]⟩,[(.exit 0,⟨[0,1,2,7],[],[]⟩),(.ret,⟨[],[],[.s 0 (.dat .bool)]⟩)]⟩ (.two (.two .no (.two (.two (.two .no (.two (.cut ⟨⟨[0,1,2,7,9],[],[.s 10 (.dat (.int .i64))]⟩,[(.exit 2,⟨[0,1,2,7,9],[],[]⟩),(.ret,⟨[],[],[.s 0 (.dat .bool)]⟩)]⟩ (.two (.two .no (.two (.two (.two .no (.two (.cut ⟨⟨[],[],[]⟩,[(.norm,⟨[0,1,2,7,9,10],[],[.s 103 (.dat .bool)]⟩)]⟩ .no) .no)) .no) .no)) .no)) .no)) .no) .no)) .no)) .no)) (.two .no (.two .no (.two (.cut ⟨⟨[],[],[]⟩,[(.norm,⟨[],[],[.s 6 (.dat .bool)]⟩)]⟩ .no) .no))))))))) (ats:=[.int .i64,.int .i64,.int .i64]) (rts:=[.bool]) (x:=(n,a,b)) (vals:=[(Zd .i64).val c0,(Zd .i64).val c1,(Zd .i64).val c2]) Tryz.func4 rfl ((Z5r n a b).trans hm) hv ⟨c0,_,rfl,p0,c1,_,rfl,p1,c2,rfl,p2⟩).mono fun y v' _ h=>h
end Go.Eng
