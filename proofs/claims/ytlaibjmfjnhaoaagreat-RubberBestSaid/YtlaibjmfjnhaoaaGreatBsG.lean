/- Lemmas towards the statement: the engine of the walks, the functions' models, laws and walks, part 7. Conditions: as each states. -/
import Derived.Shelf.Strings.Builder1
import Derived.Shelf.Strings.Repeat
import Derived.Test.YtlaibjmfjnhaoaaGreatProg
import Derived.Test.YtlaibjmfjnhaoaaGreatBsF
set_option linter.all false
set_option maxRecDepth 100000
namespace Go.Eng
open Go.Proofs Go.RowKit
theorem take_w {R:World} {o:Zb} (hv:VIn o R) {a off0 g C:Nat} {E:TypeId} {pre0 cs0 post0:List Value} {u:(List Int)} (bg:R.heap[a]? = some (.cells (pre0++cs0++post0).toArray E (0,0))) (aH:off0=pre0.length) (bh:o a=none) (au:g=u.length) (bi:g≤C∧C≤maxLen) (r:Rep.rels (Zd .u64) o cs0 u) {c1:List Value} {v:Nat} (D:Rep.rel Zx o c1 v) {c2:List Value} {q:Int} (p2:Rep.rel (Zd .u64) o c2 q) {z:Bool×(List Int)} (H:ZIi u v q=some z):Zzd Tryz.prog 128 #[.slice (some ⟨a,off0,none⟩) g C,Zx.val c1,(Zd .u64).val c2] R o [a] (λy v' w'=>(∃ r0,y=Zyb.val r0∧Zyb.rel v' r0 z.1)∧v' a=none∧∃ cs,w'.heap[a]? = some (.cells (pre0++cs++post0).toArray E (0,0))∧g=z.2.length∧Rep.rels (Zd .u64) v' cs z.2):=by
 obtain⟨q1,V,W,rfl⟩:=ZKa D;obtain⟨rfl,r4⟩:=p2;refine Z5p (K:=79) (args:=[.slice (some ⟨a,off0,none⟩) (g) C,.slice q1 V W,.int .u64 q]) hv bg bh Tryz.func128 rfl rfl zl λf S=>?_;unfold ZIi at H;refine sr (mw S rfl λf S=>oe (Zn λ_ bj=>bO H λJ bk H=>bO H λcJ av H=>ZD (mv S rfl λf S=>ov S rfl (Zic S (Ztb D) rfl rfl Zna) λf S=>ov S rfl (Zs S rfl rfl (ZJc bk)) λf S=>?_)));obtain⟨aI,aR⟩:∃ c:List Value,c=(List.replicate (J).toNat [.int .u64 0]).flatten:=⟨_,rfl⟩;obtain⟨aS,w,bm,S⟩:=Z3r Zpj S (l:=J) (c:=J) (Zde av).1 (Zde av).2.1 (Zde av).2.2.1 (Zde av).2.2.2 aR;have bn:Rep.rels (Zd .u64) o aI (List.replicate (J).toNat (0:Int)):=by rw[aR];exact ZTh (show Rep.rel (Zd .u64) _ [.int .u64 0] _ from (ZI (by decide))) _
 refine ZZc wn rfl zl (bm rfl rfl) S λf S=>mw S rfl λf S=>ZB (Zh (bj _ _ (sr (mw S rfl λf S=>oe (Zn λ_ bo=>sr (mv S rfl λf S=>ov S rfl (Zic S (Ztb D) rfl rfl Zna) λf S=>mv S rfl λf S=>oe ?_))))));obtain⟨bp,bq,br⟩:=Z6 H;refine ZFb (λf w=>∃ L b aJ s G h X,(L,b)=bp∧Zb.le o X∧St 79 ⟨R,[a]⟩ o [(0,.slice (some ⟨a,off0,none⟩) (g) C),(1,.slice q1 V W),(7,.slice (mkA aJ) s G),(8,.int .u64 b)] [Loc.box a E (pre0++cs0++post0),Loc.own aJ 139 1 s G h] X f w∧Rep.rels (Zd .u64) X h L∧s=L.length∧inR .u64 b) (λ_ bs=>?_) ?_
 ·have H:=bq;refine wp_block ?_;obtain⟨cK,bt,bu⟩:=Z6 H;have S:=S.reorder (ℓ':=[Loc.box a E (pre0++cs0++post0),Loc.own (some aS) 139 1 ((J).toNat) (J).toNat aI]) [1,0] rfl (by decide);refine Zse bt (λbv f w=>∃ Y ag m ax M Z I ay,(Y,ag,m)=bv∧Zb.le o ay∧St 79 ⟨R,[a]⟩ o [(0,.slice (some ⟨a,off0,none⟩) (g) C),(1,.slice q1 V W),(2,.int .u64 q),(7,.slice (mkA ax) M Z),(8,.int .u64 ag),(20,.slice q1 V W),(21,.int .i64 ((((Zc 18446744073709551616 v)).length:Int))),(22,.int .i64 m)] [Loc.box a E (pre0++cs0++post0),Loc.own ax 139 1 M Z I] ay f w∧Rep.rels (Zd .u64) ay I Y∧M=Y.length∧inR .u64 ag∧inR .i64 m) ⟨_,_,_,some aS,(J).toNat,(J).toNat,aI,_,rfl,(leR _),(S.fr' rfl),bn,(repN (x:=(0:Int))),(by decide),(by decide)⟩ ?_;rintro _ f w st ⟨Y,ag,m,ax,M,Z,I,ay,hq,az,S,ah,ai,bw,cL⟩ H cM bx bz;subst hq;have r:=ZT az r;refine sr (ov S rfl (Zs S rfl rfl Z2c) λf S=>oe (Zn λ_ bA=>?_));rcases Z8 (decide (m<(((Zc 18446744073709551616 v)).length:Int))) with aj | aj
  ·have H:=Z7 H aj;refine Zka S rfl aj (wp_skip (Zh (bA _ _ (Zn λ_ bB=>wp_block (Zn λ_ bC=>bO H λaK aL H=>ZD (mv S rfl λf S=>?_))))));have D:=ZSa az D;obtain⟨_,aT,aU,cN,rfl,bD,bE⟩:=ZGc D (Zp aL).2.1;obtain⟨rfl,bG⟩:=bE;refine ov S rfl (ZFa S rfl rfl Zna (Zp aL).1 (ltI (Ztb D) (Zp aL).2.2.1)) λf S=>ov S rfl (ZGb S rfl ZVb (S.view bD)) λf S=>mw S rfl λf S=>mw S rfl λf S=>ZB (Zh (bC _ _ (Zn λ_ bH=>bO H λaV bI H=>ZD (mv S rfl λf S=>mv S rfl λf S=>opc S rfl (ZK S [.int .u64 aK,.int .u64 q] ZZl rfl rfl) (Z7l S.vin (show Rep.rel (Zd .u64) _ [.int .u64 aK] aK from (ZI bG)) (show Rep.rel (Zd .u64) _ [.int .u64 q] q from (ZI r4)) bI) ?_))));rintro _ aW f w aM ⟨cO,cP,rfl,bJ,bK⟩ S;have r:=ZT aM r;have ah:=ZT aM ah;obtain⟨rfl,cQ⟩:=bJ;obtain⟨rfl,cR⟩:=bK;refine mv S rfl λf S=>ov S rfl (Zfa S rfl rfl) λf S=>ov S rfl (Zfa S rfl rfl) λf S=>mw S rfl λf S=>mw S rfl λf S=>ZB (Zh (bH _ _ (sr (mw S rfl λf S=>oe (Zn λ_ bM=>bO H λN aX H=>bO H λcS aa H=>ZD ?_)))));refine mv S rfl λf S=>mv S rfl λf S=>mv S rfl λf S=>mv S rfl λf S=>ov S rfl (Zuc S [.int .u64 (aV.2),.int .u64 ag,.int .u64 0] (ZOm ZLt aX) rfl rfl) λf S=>mv S rfl λf S=>ov S rfl (Zfa S rfl rfl) λf S=>ov S rfl (Zfa S rfl rfl) λf S=>?_
   obtain⟨aY,rfl⟩:=Zpd S (j:=1) rfl (posN ai (Zp aa).2.2.2);have aZ:=Z1a ah (Zp aa).2.1;obtain⟨cU,bP⟩:∃ c,(List.take (Zd .u64).n (List.drop ((m).toNat*(Zd .u64).n) I))=c:=⟨_,rfl⟩;rw[bP]at aZ;obtain⟨rfl,cV⟩:=aZ;refine ov S rfl (ZFa S rfl rfl Zna (Zp aa).1 (ltI ai (Zp aa).2.2.1)) λf S=>?_;obtain⟨w,bQ,S⟩:=ZQd S ZVb (off:=0+(m).toNat*1) (z:=.int .u64 (N.1)) (cs:=[.int .u64 (N.1)]) (ZId rfl) rfl (i:=1) rfl (Zri S (j:=1) rfl (ltN ai (Zp aa).2.2.2)) (by first | rfl | simp[plain]);have bR:Rep.rels (Zd .u64) aW (List.take (0+(m).toNat*1) I++[Value.int IntKind.u64 (N.1)]++List.drop (0+(m).toNat*1+1) I) (Y.set (m).toNat N.1):=Zyh ah (Zp aa).2.2.2 (show Rep.rel (Zd .u64) aW [.int .u64 (N.1)] _ from (ZI (Zfo aX))) rfl rfl;have bS:M=(Y.set (m).toNat N.1).length:=setN ai;refine ZXf wn rfl (bQ rfl rfl) (mw S rfl λf S=>ZB ?_);have S:=S.fr' (σ':=[(0,.slice (some ⟨a,off0,none⟩) (g) C),(1,.slice (some ⟨aT,aU,none⟩) V W),(2,.int .u64 q),(7,.slice (mkA (some aY)) (M) Z),(11,.int .u64 (aV.1)),(13,.int .u64 (N.2)),(20,.slice (some ⟨aT,aU,none⟩) V W),(21,.int .i64 ((((Zc 18446744073709551616 v)).length:Int))),(22,.int .i64 m)]) rfl
   refine Zh (bM _ _ (ZD (mv S rfl λf S=>mv S rfl λf S=>ov S rfl (Zs S rfl rfl ZZm) λf S=>mw S rfl λf S=>ZB (Zgd (Zh (bB _ _ (bO H λcW a0 H=>ZD (ov S rfl (Zs S rfl rfl (ZJc a0)) λf S=>mv S rfl λf S=>ZB ?_))))))));obtain rfl:=Zv H;refine bx _ rfl _ _ ⟨_,_,_,some aY,M,Z,(List.take (0+(m).toNat*1) I++[Value.int IntKind.u64 (N.1)]++List.drop (0+(m).toNat*1+1) I),_,rfl,(leT az aM),(S.fr' rfl),bR,bS,(ZPb _ _),(Zdb a0).2⟩
  have H:=Zaa H aj;refine ZZ S rfl aj (wp_exit (Zxb ?_));obtain rfl:=Zv H;have hq:=bz _ rfl;subst hq;have H:=bu;refine Zxb (Z3d ?_);obtain rfl:=Zv H;refine Zh (bs _ _ ⟨_,_,ax,M,Z,I,_,rfl,(leT (leR _) az),(S.fr' rfl),ah,ai,bw⟩)
 rintro f w ⟨L,b,aJ,s,G,h,X,hq,a1,S,a2,aA,bT⟩;subst hq;have H:=br;have r:=ZT a1 r;refine Zh (bo _ _ (Zn λ_ bU=>bO H λcX ab H=>ZD (mv S rfl λf S=>mv S rfl λf S=>?_)));have D:=ZSa a1 D;refine ov S rfl (Zic S (Ztb D) rfl rfl Zna) λf S=>mv S rfl λf S=>?_;obtain⟨ac,rfl⟩:=Zpd S (j:=1) rfl (posN aA (Zp ab).2.2.2);have a3:=Z1a a2 (Zp ab).2.1;obtain⟨cY,bV⟩:∃ c,(List.take (Zd .u64).n (List.drop (((((Zc 18446744073709551616 v)).length:Int)).toNat*(Zd .u64).n) h))=c:=⟨_,rfl⟩;rw[bV]at a3;obtain⟨rfl,cZ⟩:=a3;refine ov S rfl (ZFa S rfl rfl Zna (Zp ab).1 (ltI aA (Zp ab).2.2.1)) λf S=>?_;obtain⟨w,bW,S⟩:=ZQd S ZVb (off:=0+((((Zc 18446744073709551616 v)).length:Int)).toNat*1) (z:=.int .u64 b) (cs:=[.int .u64 b]) (ZId rfl) rfl (i:=1) rfl (Zri S (j:=1) rfl (ltN aA (Zp ab).2.2.2)) (by first | rfl | simp[plain]);have p:Rep.rels (Zd .u64) X (List.take (0+((((Zc 18446744073709551616 v)).length:Int)).toNat*1) h++[Value.int IntKind.u64 (b)]++List.drop (0+((((Zc 18446744073709551616 v)).length:Int)).toNat*1+1) h) (L.set ((((Zc 18446744073709551616 v)).length:Int)).toNat b):=Zyh a2 (Zp ab).2.2.2 (show Rep.rel (Zd .u64) X [.int .u64 b] _ from (ZI bT)) rfl rfl
 have aN:s=(L.set ((((Zc 18446744073709551616 v)).length:Int)).toNat b).length:=setN aA;refine ZXf wn rfl (bW rfl rfl) (ZB (Zh (bU _ _ (Zn λ_ bX=>Zn λ_ bY=>bO H λc0 bZ H=>bO H λc3 b1 H=>bO H λb2 b3 H=>ZD (mv S rfl λf S=>?_)))));have p0s120:=r;have h69s120:=p;have b4:=S.vst.le;obtain⟨c4,c5,a4,t,S,b5,b6,b7,T⟩:=S.lendSeg (i:=0) (A:=(Zd .u64)) (l:=u) (ℓ':=[Loc.own (some ac) 139 1 s G ((List.take (0+((((Zc 18446744073709551616 v)).length:Int)).toNat*1) h++[Value.int IntKind.u64 (b)]++List.drop (0+((((Zc 18446744073709551616 v)).length:Int)).toNat*1+1) h))]) rfl rfl aH r au bi;have p:=ZT a4 p;refine opc S rfl (ZK S [.slice (some ⟨a,off0,none⟩) (g) C] Zel rfl rfl) (Ztk S.vin (show Rep.rel (ZG (Zd .u64)) _ [.slice (some ⟨a,off0,none⟩) (g) C] u from T) bZ) ?_;rintro _ c6 f w aB ⟨c7,rfl,P⟩ S;have p:=ZT aB p;have t:=aB _ _ t;obtain⟨b8,b9,ca,rfl⟩:=ZKa P;refine mv S rfl λf S=>?_;have T:=ZSa aB T;have h128s137:=T;have h69s137:=p;have h133s137:=P;have h124s137:=t;have cb:=S.vst.le;obtain⟨c8,c9,aC,ak,S,cc,ce,cg,ch⟩:=S.lendSlice (i:=0) (A:=(Zd .u64)) (l:=(L.set ((((Zc 18446744073709551616 v)).length:Int)).toNat b)) (ℓ':=[]) rfl rfl rfl p aN
 have t:=aC _ _ t;refine opc S rfl (ZK S [.slice (mkA (some ac)) (s) G] Zel rfl rfl) (Ztk S.vin (show Rep.rel (ZG (Zd .u64)) _ [.slice (mkA (some ac)) (s) G] ((L.set ((((Zc 18446744073709551616 v)).length:Int)).toNat b)) from ch) b1) ?_;rintro _ da f w al ⟨db,rfl,a5⟩ S;have t:=al _ _ t;have ak:=al _ _ ak;obtain⟨ci,cj,ck,rfl⟩:=ZKa a5;have P:=ZSa (leT aC al) P;refine opc S rfl (ZK S [.slice b8 b9 ca,.slice ci cj ck] Zip rfl rfl) (cmp_c S.vin P a5 b3) ?_;rintro _ dc f w am ⟨dd,rfl,cl⟩ S;have t:=am _ _ t;have ak:=am _ _ ak;obtain⟨rfl,de⟩:=cl;refine ov S rfl (Zs S rfl rfl Z2c) λf S=>ZB ?_;obtain⟨df,an,S⟩:=S.takeBack (e:=Loc.own (some ac) 139 1 s G ((List.take (0+((((Zc 18446744073709551616 v)).length:Int)).toNat*1) h++[Value.int IntKind.u64 (b)]++List.drop (0+((((Zc 18446744073709551616 v)).length:Int)).toNat*1+1) h))) (leT (leT aC al) am) rfl ak cc ce cb cg;have T:=ZSa (leT (leT aC al) am) T;have T:=ZSa an h128s137;have p:=ZT an h69s137;have P:=ZSa am P;have P:=ZSa an h133s137;have t:=an _ _ h124s137;obtain⟨a6,a7,S⟩:=S.takeBack (e:=Loc.box a E (pre0++cs0++post0)) (leT (leT a4 aB) an) rfl t b5 b6 b4 b7;have r:=ZT a7 p0s120
 have p:=ZT a7 h69s120;refine Zh (bY _ _ ?_);rcases Z8 (decide (b2<(0:Int))) with ao | ao
 ·have H:=Z7 H ao;refine Zka S rfl ao (sr (mw S rfl λf S=>oe (wp_ret (Z1b ?_))));obtain rfl:=Zv H;refine Zxm S (ZYa rfl (ZM S rfl)) ⟨⟨[.bool false],rfl,Z2h⟩,(S.boxAt (j:=0) rfl).2,_,(S.boxAt (j:=0) rfl).1,au,r⟩
 have H:=Zaa H ao;refine ZZ S rfl ao (wp_skip (Zh (bX _ _ (sr (mw S rfl λf S=>oe (Zn λ_ cm=>sr (mv S rfl λf S=>ov S rfl (Zic S au rfl rfl Zna) λf S=>mv S rfl λf S=>oe ?_)))))));obtain⟨cn,co,cp⟩:=Z6 H;refine ZFb (λf w=>∃ aD aO aE,aD=cn∧Zb.le a6 aE∧St 79 ⟨R,[a]⟩ o [] [Loc.box a E (pre0++aO++post0)] aE f w∧Rep.rels (Zd .u64) aE aO aD∧g=aD.length) (λ_ cq=>?_) ?_
 ·have H:=co;refine wp_block ?_;obtain⟨dg,cr,ct⟩:=Z6 H;refine Zse cr (λcu f w=>∃ ad ap d B ae,(ad,ap,d)=cu∧Zb.le a6 ae∧St 79 ⟨R,[a]⟩ o [(0,.slice (some ⟨a,off0,none⟩) (g) C),(7,.slice (mkA (some ac)) (s) G),(14,.int .u64 ap),(58,.int .i64 ((u.length:Int))),(59,.int .i64 d)] [Loc.box a E (pre0++B++post0),Loc.own (some ac) 139 1 s G ((List.take (0+((((Zc 18446744073709551616 v)).length:Int)).toNat*1) h++[Value.int IntKind.u64 (b)]++List.drop (0+((((Zc 18446744073709551616 v)).length:Int)).toNat*1+1) h))] ae f w∧Rep.rels (Zd .u64) ae B ad∧g=ad.length∧inR .u64 ap∧inR .i64 d) ⟨_,_,_,cs0,_,rfl,(leR _),(S.fr' rfl),r,au,(by decide),(by decide)⟩ ?_;rintro _ f w st ⟨ad,ap,d,B,ae,hq,aP,S,af,Q,dh,di⟩ H dj cv cw;subst hq;have p:=ZT aP p;refine sr (ov S rfl (Zs S rfl rfl Z2c) λf S=>oe (Zn λ_ cx=>?_));rcases Z8 (decide (d<(u.length:Int))) with aq | aq
  ·have H:=Z7 H aq;refine Zka S rfl aq (wp_skip (Zh (cx _ _ (Zn λ_ cy=>wp_block (sr (mv S rfl λf S=>mw S rfl λf S=>oe (bO H λa8 aF H=>bO H λa9 aG H=>bO H λU aQ H=>bO H λdk ar H=>Zgf (fl:=#[true,true,true,true,true,true,true,true,true,true,true,false,true,true,true,true,false,false]) Z2i (by kernel_rfl) S ?_)))))));intro ops O F w S;refine rfa O F 0 rfl rfl S (ZJ S rfl) λf S=>rfa O F 1 rfl rfl S (ZJ S rfl) λf S=>rfa O F 2 rfl rfl S (ZJ S rfl) λf S=>rfa O F 3 rfl rfl S (ZJ S rfl) λf S=>?_;have ba:=Z1a af (Zp aF).2.1;obtain⟨dl,bb⟩:∃ c,(List.take (Zd .u64).n (List.drop ((d).toNat*(Zd .u64).n) B))=c:=⟨_,rfl⟩;rw[bb]at ba;obtain⟨rfl,cz⟩:=ba;refine rfa O F 4 rfl rfl S (ZFa S rfl rfl Zna (Zp aF).1 (ltI Q (Zp aF).2.2.1)) λf S=>rfa O F 5 rfl rfl S (ZGb S rfl ZVb (ZAi S (j:=0) rfl aH (Zte af Q) bb (ltN Q (Zp aF).2.2.2) 0 [.int .u64 a8] rfl zl)) λf S=>rfa O F 6 rfl rfl S (ZJ S rfl) λf S=>rfa O F 7 rfl rfl S (ZJ S rfl) λf S=>?_;have bc:=Z1a p (Zp aG).2.1;obtain⟨dm,bd⟩:∃ c,(List.take (Zd .u64).n (List.drop ((d).toNat*(Zd .u64).n) (List.take (0+((((Zc 18446744073709551616 v)).length:Int)).toNat*1) h++[Value.int IntKind.u64 (b)]++List.drop (0+((((Zc 18446744073709551616 v)).length:Int)).toNat*1+1) h)))=c:=⟨_,rfl⟩
   rw[bd]at bc;obtain⟨rfl,cA⟩:=bc;refine rfa O F 8 rfl rfl S (ZFa S rfl rfl Zna (Zp aG).1 (ltI aN (Zp aG).2.2.1)) λf S=>rfa O F 9 rfl rfl S (ZGb S rfl ZVb (Zwe S (j:=1) rfl bd (ltN aN (Zp aG).2.2.2) 0 [.int .u64 a9] rfl zl)) λf S=>rfa O F 10 rfl rfl S (ZJ S rfl) λf S=>go1 O F 11 (nva [5,9,10,4,8,2,3,6,7] [0,1] O rfl rfl S (Zuc S [.int .u64 a8,.int .u64 a9,.int .u64 ap] (Z5t Ziy cz cA aQ) rfl rfl) λf S=>⟨(py S rfl rfl (ZJ S rfl) (py S rfl rfl (ZJ S rfl) Z4a)),rfa O F 12 rfl rfl S (ZJ S rfl) λf S=>rfa O F 13 rfl rfl S (Zfa S rfl rfl) λf S=>rfa O F 14 rfl rfl S (Zfa S rfl rfl) λf S=>?_⟩);have be:=Z1a af (Zp ar).2.1;obtain⟨dn,cC⟩:∃ c,(List.take (Zd .u64).n (List.drop ((d).toNat*(Zd .u64).n) B))=c:=⟨_,rfl⟩;rw[cC]at be;obtain⟨rfl,dp⟩:=be;refine rfa O F 15 rfl rfl S (ZFa S rfl rfl Zna (Zp ar).1 (ltI Q (Zp ar).2.2.1)) λf S=>go1 O F 16 ?_;obtain⟨w,cD,S⟩:=ZGw S (k:=(d).toNat) ZVb (z:=.int .u64 (U.1)) (c:=[.int .u64 (U.1)]) (ZId rfl) rfl (i:=0) rfl aH (Zte af Q) (ltN Q (Zp ar).2.2.2) rfl (by first | rfl | simp[plain]);have cE:Rep.rels (Zd .u64) ae (List.take (0+(d).toNat*1) B++[Value.int IntKind.u64 (U.1)]++List.drop (0+(d).toNat*1+1) B) (ad.set (d).toNat U.1):=Zyh af (Zp ar).2.2.2 (show Rep.rel (Zd .u64) ae [.int .u64 (U.1)] _ from (ZI (ZXo aQ))) rfl rfl
   have cF:g=(ad.set (d).toNat U.1).length:=setN Q;refine nxs [0,1,2,3,4,5,6,7,8,9,10,11,12,13,15] [14] O rfl rfl (cD rfl rfl) (⟨(py S rfl rfl (Zfa S rfl rfl) Z4a),go1 O F 17 (nva [0,1,2,3,4,5,6,7,8,9,10,11,12,13,14,15,16] [] O rfl rfl S (Z6c S rfl) λf S=>⟨Z4a,fin1 O F (Zgd (Zh (cy _ _ (bO H λdq bf H=>ZD (ov S rfl (Zs S rfl rfl (ZJc bf)) λf S=>mv S rfl λf S=>ZB ?_)))))⟩)⟩);obtain rfl:=Zv H;refine cv _ rfl _ _ ⟨_,_,_,(List.take (0+(d).toNat*1) B++[Value.int IntKind.u64 (U.1)]++List.drop (0+(d).toNat*1+1) B),_,rfl,aP,(S.fr' rfl),cE,cF,(ZFq aQ),(Zdb bf).2⟩
  have H:=Zaa H aq;refine ZZ S rfl aq (wp_exit (Zxb ?_));obtain rfl:=Zv H;have hq:=cw _ rfl;subst hq;have H:=ct;refine Zxb (Z3d ?_);obtain rfl:=Zv H;have S:=S.reorder (ℓ':=[Loc.box a E (pre0++B++post0)]) [0] rfl (by decide);refine Zh (cq _ _ ⟨_,B,_,rfl,(leT (leR _) aP),(S.fr' rfl),af,Q⟩)
 rintro f w ⟨aD,aO,aE,hq,dr,S,cH,cI⟩;subst hq;have H:=cp;refine Zh (cm _ _ (sr (mw S rfl λf S=>oe (wp_ret ?_))));obtain rfl:=Zv H;refine Zxm S (ZYa rfl (ZM S rfl)) ⟨⟨[.bool true],rfl,Z2h⟩,(S.boxAt (j:=0) rfl).2,_,(S.boxAt (j:=0) rfl).1,cI,cH⟩
theorem take_c {d:World} {a:Zb} (hv:VIn a d) {b off0 c e:Nat} {f:TypeId} {pre0 cs0 post0:List Value} {u:(List Int)} (l:d.heap[b]? = some (.cells (pre0++cs0++post0).toArray f (0,0))) (m:off0=pre0.length) (n:a b=none) (o:c=u.length) (p:c≤e∧e≤maxLen) (g:Rep.rels (Zd .u64) a cs0 u) {h:List Value} {v:Nat} (r:Rep.rel Zx a h v) {i:List Value} {q:Int} (j:Rep.rel (Zd .u64) a i q) {z:Bool×(List Int)} (hm:Z8g u v q=some z) :
  Zzd Tryz.prog 128 #[Value.slice (some ⟨b,off0,none⟩) c e,Zx.val h,(Zd .u64).val i] d a [b] (λy v' w'=>(∃ k,y=Zyb.val k∧Zyb.rel v' k z.1)∧v' b=none∧∃ cs,w'.heap[b]? = some (.cells (pre0++cs++post0).toArray f (0,0))∧c=z.2.length∧Rep.rels (Zd .u64) v' cs z.2) :=
 take_w hv l m n o p g r j (Zfz (ZSl g) j.2 hm)
theorem digit_w {x:World} {m:Zb} (hv:VIn m x) {a off0 e h:Nat} {A:TypeId} {pre0 cs0 post0:List Value} {u:(List Int)} (a1:x.heap[a]? = some (.cells (pre0++cs0++post0).toArray A (0,0))) (G:off0=pre0.length) (a2:m a=none) (k:e=u.length) (a3:e≤h∧h≤maxLen) (d:Rep.rels (Zd .u64) m cs0 u) {c1:List Value} {v:Nat} (g:Rep.rel Zx m c1 v) {z:Int×(List Int)} (H:ZWi u v=some z):Zzd Tryz.prog 99 #[.slice (some ⟨a,off0,none⟩) e h,Zx.val c1] x m [a] (λy v' w'=>(∃ r0,y=(Zd .u64).val r0∧(Zd .u64).rel v' r0 z.1)∧v' a=none∧∃ cs,w'.heap[a]? = some (.cells (pre0++cs++post0).toArray A (0,0))∧e=z.2.length∧Rep.rels (Zd .u64) v' cs z.2):=by
 obtain⟨q1,o,p,rfl⟩:=ZKa g;refine Z5p (K:=90) (args:=[.slice (some ⟨a,off0,none⟩) (e) h,.slice q1 o p]) hv a1 a2 Tryz.func99 rfl rfl zl λf S=>?_;unfold ZWi at H;refine sr (mw S rfl λf S=>oe (sr (mv S rfl λf S=>ov S rfl (Zic S (Ztb g) rfl rfl Zna) λf S=>mw S rfl λf S=>oe (sr (mw S rfl λf S=>oe (Zn λ_ a4=>Zn λ_ a5=>bO H λaF V H=>?_))))));refine bO H λcm a6 H=>bO H λa7 aj H=>Zgf (fl:=#[true,true,true,true,true,true,true,true,true,true]) Z2i (by kernel_rfl) S ?_;intro ops O F w S;refine rfa O F 0 rfl rfl S (ZJ S rfl) λf S=>rfa O F 1 rfl rfl S (ZJ S rfl) λf S=>?_;have aG:=Z1a d (Zp V).2.1;obtain⟨cn,aH⟩:∃ c,(List.take (Zd .u64).n (List.drop (((((Zc 18446744073709551616 v)).length:Int)).toNat*(Zd .u64).n) cs0))=c:=⟨_,rfl⟩;rw[aH]at aG;obtain⟨rfl,co⟩:=aG;refine rfa O F 2 rfl rfl S (ZFa S rfl rfl Zna (Zp V).1 (ltI k (Zp V).2.2.1)) λf S=>rfa O F 3 rfl rfl S (ZGb S rfl ZVb (ZAi S (j:=0) rfl G (Zte d k) aH (ltN k (Zp V).2.2.2) 0 [.int .u64 aF] rfl zl)) λf S=>rfa O F 4 rfl rfl S (ZJ S rfl) λf S=>rfa O F 5 rfl rfl S (ZJ S rfl) λf S=>rfa O F 6 rfl rfl S (Zs S rfl rfl (ZIb a6)) λf S=>?_;obtain⟨_,r,s,cp,rfl,a8,a9⟩:=ZGc g (Zp aj).2.1
 obtain⟨rfl,cq⟩:=a9;refine rfa O F 7 rfl rfl S (ZFa S rfl rfl Zna (Zp aj).1 (ltI (Ztb g) (Zp aj).2.2.1)) λf S=>rfa O F 8 rfl rfl S (ZGb S rfl ZVb (S.view a8)) λf S=>rfa O F 9 rfl rfl S (Zs S rfl rfl Z2c) λf S=>fin1 O F (Zh (a5 _ _ ?_));obtain⟨ba,bb,bc⟩:=Z6 H;refine ZFb (λf w=>∃ W I,W=ba∧Zb.le m I∧St 90 ⟨x,[a]⟩ m [(0,.slice (some ⟨a,off0,none⟩) (e) h),(1,.slice (some ⟨r,s,none⟩) o p),(6,.int .u64 W)] [Loc.box a A (pre0++cs0++post0)] I f w∧inR .u64 W) (λ_ aI=>?_) ?_
 ·have H:=bb;rcases Z8 (decide (aF<a7)) with J | J
  ·have H:=Z7 H J;refine Zka S rfl J (sr (mw S rfl λf S=>oe (Zn λ_ bd=>bO H λX Y H=>bO H λbe bf H=>bO H λZ aa H=>bO H λcr bg H=>bO H λak al H=>bO H λaJ bh H=>Zgf (fl:=#[true,true,true,true,true,true,true,true,true,true,true,true,true,true,false,true,true,true,false,false]) Z2i (by kernel_rfl) S ?_)));intro ops O F w S;refine rfa O F 0 rfl rfl S (ZJ S rfl) λf S=>rfa O F 1 rfl rfl S (ZJ S rfl) λf S=>?_;have aK:=Z1a d (Zp Y).2.1;obtain⟨ct,aL⟩:∃ c,(List.take (Zd .u64).n (List.drop (((((Zc 18446744073709551616 v)).length:Int)).toNat*(Zd .u64).n) cs0))=c:=⟨_,rfl⟩;rw[aL]at aK;obtain⟨rfl,bi⟩:=aK;refine rfa O F 2 rfl rfl S (ZFa S rfl rfl Zna (Zp Y).1 (ltI k (Zp Y).2.2.1)) λf S=>rfa O F 3 rfl rfl S (ZGb S rfl ZVb (ZAi S (j:=0) rfl G (Zte d k) aL (ltN k (Zp Y).2.2.2) 0 [.int .u64 X] rfl zl)) λf S=>rfa O F 4 rfl rfl S (ZJ S rfl) λf S=>rfa O F 5 rfl rfl S (ZJ S rfl) λf S=>rfa O F 6 rfl rfl S (Zs S rfl rfl (ZIb bf)) λf S=>?_;have aM:=Z1a d (Zp aa).2.1;obtain⟨cu,aN⟩:∃ c,(List.take (Zd .u64).n (List.drop ((be).toNat*(Zd .u64).n) cs0))=c:=⟨_,rfl⟩;rw[aN]at aM;obtain⟨rfl,bj⟩:=aM;refine rfa O F 7 rfl rfl S (ZFa S rfl rfl Zna (Zp aa).1 (ltI k (Zp aa).2.2.1)) λf S=>rfa O F 8 rfl rfl S (ZGb S rfl ZVb (ZAi S (j:=0) rfl G (Zte d k) aN (ltN k (Zp aa).2.2.2) 0 [.int .u64 Z] rfl zl)) λf S=>rfa O F 9 rfl rfl S (ZJ S rfl) λf S=>rfa O F 10 rfl rfl S (ZJ S rfl) λf S=>rfa O F 11 rfl rfl S (Zs S rfl rfl (ZIb bg)) λf S=>?_
   obtain⟨cv,am,bk⟩:=Z3l g (Zp al).2.1;obtain⟨rfl,bm⟩:=bk;refine rfa O F 12 rfl rfl S (ZFa S rfl rfl Zna (Zp al).1 (ltI (Ztb g) (Zp al).2.2.1)) λf S=>rfa O F 13 rfl rfl S (ZGb S rfl ZVb (S.view am)) λf S=>go1 O F 14 (nxc [3,8,13,2,7,12,0,1,4,6,9,11,5,10] [] O rfl S rfl (ZK S [.int .u64 X,.int .u64 Z,.int .u64 ak] k_en109 rfl rfl) (div64_c S.vin (show Rep.rel (Zd .u64) _ [.int .u64 X] X from (ZI bi)) (show Rep.rel (Zd .u64) _ [.int .u64 Z] Z from (ZI bj)) (show Rep.rel (Zd .u64) _ [.int .u64 ak] ak from (ZI bm)) bh) ?_);rintro _ aO f w ab ⟨cw,cx,rfl,bn,bo⟩ S;have d:=ZT ab d;have am:=Atm ab am;obtain⟨rfl,bp⟩:=bn;obtain⟨rfl,bq⟩:=bo;refine⟨Z4a,rfa O F 15 rfl rfl S (ZJ S rfl) λf S=>rfa O F 16 rfl rfl S (Zfa S rfl rfl) λf S=>rfa O F 17 rfl rfl S (Zfa S rfl rfl) λf S=>go1 O F 18 (nva [0,1,2,3,4,5,6,7,8,9,10,11,12,13,14,15,16] [17] O rfl rfl S (Z6c S rfl) λf S=>⟨(py S rfl rfl (Zfa S rfl rfl) Z4a),go1 O F 19 (nva [0,1,2,3,4,5,6,7,8,9,10,11,12,13,14,15,16,17,18] [] O rfl rfl S (Z6c S rfl) λf S=>⟨Z4a,fin1 O F ?_⟩)⟩)⟩;have S:=S.fr' (σ':=[(0,.slice (some ⟨a,off0,none⟩) (e) h),(1,.slice (some ⟨r,s,none⟩) o p),(5,.int .i64 ((((Zc 18446744073709551616 v)).length:Int))),(6,.int .u64 (aJ.1)),(7,.int .u64 (aJ.2))]) rfl
   refine Zh (bd _ _ ?_);obtain⟨br,bs,bt⟩:=Z6 H;refine ZFb (λf w=>∃ ac an,ac=br∧Zb.le aO an∧St 90 ⟨x,[a]⟩ m [(0,.slice (some ⟨a,off0,none⟩) (e) h),(1,.slice (some ⟨r,s,none⟩) o p),(6,.int .u64 ac)] [Loc.box a A (pre0++cs0++post0)] an f w∧inR .u64 ac) (λ_ aP=>?_) ?_
   ·have H:=bs;refine wp_block ?_;obtain⟨cy,bu,aQ⟩:=Z6 H;refine Zse bu (λbv f w=>∃ q l ao,(q,l)=bv∧Zb.le aO ao∧St 90 ⟨x,[a]⟩ m [(0,.slice (some ⟨a,off0,none⟩) (e) h),(1,.slice (some ⟨r,s,none⟩) o p),(5,.int .i64 ((((Zc 18446744073709551616 v)).length:Int))),(6,.int .u64 q),(7,.int .u64 l)] [Loc.box a A (pre0++cs0++post0)] ao f w∧inR .u64 q∧inR .u64 l) ⟨_,_,_,rfl,(leR _),(S.fr' rfl),bp,bq⟩ ?_;rintro _ f w st ⟨q,l,ao,hq,L,S,aR,cz⟩ H cA bw aS;subst hq;have d:=ZT L d;refine wp_block (Zn λ_ bx=>bO H λcC bz H=>bO H λap aq H=>bO H λB bA H=>ZD (mv S rfl λf S=>mv S rfl λf S=>mv S rfl λf S=>ov S rfl (Zs S rfl rfl (ZIb bz)) λf S=>?_));have g:=ZSa (leT ab L) g;obtain⟨cD,ar,bB⟩:=Z3l g (Zp aq).2.1;obtain⟨rfl,bC⟩:=bB;refine ov S rfl (ZFa S rfl rfl Zna (Zp aq).1 (ltI (Ztb g) (Zp aq).2.2.1)) λf S=>ov S rfl (ZGb S rfl ZVb (S.view ar)) λf S=>opc S rfl (ZK S [.int .u64 q,.int .u64 ap] ZZl rfl rfl) (Z7l S.vin (show Rep.rel (Zd .u64) _ [.int .u64 q] q from (ZI aR)) (show Rep.rel (Zd .u64) _ [.int .u64 ap] ap from (ZI bC)) bA) ?_;rintro _ bD f w E ⟨cE,cF,rfl,bE,bG⟩ S
    have d:=ZT E d;have ar:=Atm E ar;obtain⟨rfl,cH⟩:=bE;obtain⟨rfl,cI⟩:=bG;refine mv S rfl λf S=>ov S rfl (Zfa S rfl rfl) λf S=>ov S rfl (Zfa S rfl rfl) λf S=>mw S rfl λf S=>mw S rfl λf S=>ZB (Zh (bx _ _ (Zn λ_ bH=>Zn λ_ bI=>?_)));obtain⟨bJ,bK,bM⟩:=Z6 H;refine ZFb (λf w=>∃ ad au,ad=bJ∧Zb.le bD au∧St 90 ⟨x,[a]⟩ m [(0,.slice (some ⟨a,off0,none⟩) (e) h),(1,.slice (some ⟨r,s,none⟩) o p),(5,.int .i64 ((((Zc 18446744073709551616 v)).length:Int))),(6,.int .u64 q),(7,.int .u64 l),(67,.bool ad)] [Loc.box a A (pre0++cs0++post0)] au f w) (λ_ av=>?_) ?_
    ·have H:=bK;refine ZD (mv S rfl λf S=>mv S rfl λf S=>ov S rfl (Zs S rfl rfl Z2c) λf S=>mv S rfl λf S=>?_);rcases Z8 (decide (B.1<l)) with M | M
     ·have H:=Z7 H M;have S:=S.bool (t:=54) rfl M;refine opn S rfl rfl rfl rfl λf S=>opn S rfl rfl rfl rfl λf S=>opn S rfl rfl rfl rfl λf S=>opn S rfl rfl rfl rfl λf S=>ZHf S (ZEe S rfl rfl rfl zl) rfl zl λf S=>ZHf S (ZEe S rfl rfl rfl zl) rfl zl λf S=>ZHf S (ZEe S rfl rfl rfl zl) rfl zl λf S=>ZHf S (ZEe S rfl rfl rfl zl) rfl zl λf S=>ZHf S (ZEe S rfl rfl rfl zl) rfl zl λf S=>ZHf S (ZEe S rfl rfl rfl zl) rfl zl λf S=>ZHf S (ZEe S rfl rfl rfl zl) rfl zl λf S=>opn S rfl rfl rfl rfl λf S=>ov S rfl (Zvc S (b:=true) rfl rfl) λf S=>ZB ?_;have S:=S.fr' (σ':=[(0,.slice (some ⟨a,off0,none⟩) (e) h),(1,.slice (some ⟨r,s,none⟩) o p),(5,.int .i64 ((((Zc 18446744073709551616 v)).length:Int))),(6,.int .u64 q),(7,.int .u64 l),(55,undef),(56,undef),(57,undef),(58,undef),(59,undef),(60,undef),(61,undef),(62,undef),(63,undef),(64,undef),(65,undef),(66,undef),(67,.bool true)]) rfl;obtain rfl:=Zv H;refine Zh (av _ _ ⟨_,_,rfl,(leR _),(S.fr' rfl)⟩)
     have H:=Zaa H M;have S:=S.bool (t:=54) rfl M;refine opy S rfl rfl rfl rfl (ZJ S rfl) λf S=>opy S rfl rfl rfl rfl (ZJ S rfl) λf S=>opy S rfl rfl rfl rfl (Zs S rfl rfl ZMf) λf S=>opy S rfl rfl rfl rfl (ZJ S rfl) λf S=>?_;rcases Z8 (B.1==l) with C | C
     ·have H:=Z7 H C;have S:=S.bool (t:=57) rfl C;have S:=S.bool (t:=58) rfl C;refine bO H λax bP H=>bO H λN ae H=>opy S rfl rfl rfl rfl (ZJ S rfl) λf S=>opy S rfl rfl rfl rfl (ZJ S rfl) λf S=>opy S rfl rfl rfl rfl (ZJ S rfl) λf S=>opy S rfl rfl rfl rfl (Zs S rfl rfl (ZIb bP)) λf S=>?_;have aT:=Z1a d (Zp ae).2.1;obtain⟨cJ,aU⟩:∃ c,(List.take (Zd .u64).n (List.drop ((ax).toNat*(Zd .u64).n) cs0))=c:=⟨_,rfl⟩;rw[aU]at aT;obtain⟨rfl,cK⟩:=aT;refine opy S rfl rfl rfl rfl (ZFa S rfl rfl Zna (Zp ae).1 (ltI k (Zp ae).2.2.1)) λf S=>opy S rfl rfl rfl rfl (ZGb S rfl ZVb (ZAi S (j:=0) rfl G (Zte d k) aU (ltN k (Zp ae).2.2.2) 0 [.int .u64 N] rfl zl)) λf S=>opy S rfl rfl rfl rfl (Zs S rfl rfl ZQs) λf S=>opy S rfl rfl rfl rfl (Zvc S (b:=true) rfl rfl) λf S=>ov S rfl (Zvc S (b:=false) rfl rfl) λf S=>ZB ?_;have S:=S.fr' (σ':=[(0,.slice (some ⟨a,off0,none⟩) (e) h),(1,.slice (some ⟨r,s,none⟩) o p),(5,.int .i64 ((((Zc 18446744073709551616 v)).length:Int))),(6,.int .u64 q),(7,.int .u64 l),(55,.int .u64 (B.1)),(56,.int .u64 l),(57,.bool true),(58,.bool true),(59,.int .u64 (B.2)),(60,.slice (some ⟨a,off0,none⟩) (e) h),(61,.int .i64 ((((Zc 18446744073709551616 v)).length:Int))),(62,.int .i64 ax),(63,.pointer (some ⟨a,off0+(ax).toNat*1,none⟩)),(64,.int .u64 N),(65,.bool (decide (B.2≤N))),(66,.bool (decide (B.2≤N))),(67,.bool (decide (B.2≤N)))]) rfl
      obtain rfl:=Zv H;refine Zh (av _ _ ⟨_,_,rfl,(leR _),(S.fr' rfl)⟩)
     have H:=Zaa H C;have S:=S.bool (t:=57) rfl C;have S:=S.bool (t:=58) rfl C;refine opn S rfl rfl rfl rfl λf S=>opn S rfl rfl rfl rfl λf S=>opn S rfl rfl rfl rfl λf S=>opn S rfl rfl rfl rfl λf S=>opn S rfl rfl rfl rfl λf S=>opn S rfl rfl rfl rfl λf S=>opn S rfl rfl rfl rfl λf S=>opy S rfl rfl rfl rfl (Zvc S (b:=false) rfl rfl) λf S=>ov S rfl (Zvc S (b:=false) rfl rfl) λf S=>ZB ?_;have S:=S.fr' (σ':=[(0,.slice (some ⟨a,off0,none⟩) (e) h),(1,.slice (some ⟨r,s,none⟩) o p),(5,.int .i64 ((((Zc 18446744073709551616 v)).length:Int))),(6,.int .u64 q),(7,.int .u64 l),(55,.int .u64 (B.1)),(56,.int .u64 l),(57,.bool false),(58,.bool false),(59,undef),(60,undef),(61,undef),(62,undef),(63,undef),(64,undef),(65,undef),(66,.bool false),(67,.bool false)]) rfl;obtain rfl:=Zv H;refine Zh (av _ _ ⟨_,_,rfl,(leR _),(S.fr' rfl)⟩)
    rintro f w ⟨ad,au,hq,P,S⟩;subst hq;have H:=bM;have d:=ZT P d;refine Zh (bI _ _ ?_);rcases Z8 (ad) with Q | Q
    ·have H:=Z7 H Q;refine Zka S rfl Q (wp_exit (Zxb (ZQt rfl ?_)));obtain rfl:=Zv H;have hq:=aS _ rfl;subst hq;have H:=aQ;refine Zxb (Z3d ?_);obtain rfl:=Zv H;refine Zh (aP _ _ ⟨_,_,rfl,(leT (leT (leT (leR _) L) E) P),(S.fr' rfl),aR⟩)
    have H:=Zaa H Q;refine ZZ S rfl Q (wp_skip (Zh (bH _ _ (sr (mv S rfl λf S=>ov S rfl (Zs S rfl rfl Z4n) λf S=>mw S rfl λf S=>oe (sr (mw S rfl λf S=>oe (Zn λ_ bQ=>bO H λcL bR H=>bO H λbS ay H=>?_))))))));refine bO H λbT aV H=>ZD (mv S rfl λf S=>mv S rfl λf S=>mv S rfl λf S=>ov S rfl (Zs S rfl rfl (ZIb bR)) λf S=>?_);have g:=ZSa (leT E P) g;obtain⟨cM,bU,bV⟩:=Z3l g (Zp ay).2.1;obtain⟨rfl,cN⟩:=bV;refine ov S rfl (ZFa S rfl rfl Zna (Zp ay).1 (ltI (Ztb g) (Zp ay).2.2.1)) λf S=>ov S rfl (ZGb S rfl ZVb (S.view bU)) λf S=>ov S rfl (Zuc S [.int .u64 l,.int .u64 bS,.int .u64 0] (ZOm ZLt aV) rfl rfl) λf S=>mv S rfl λf S=>ov S rfl (Zfa S rfl rfl) λf S=>ov S rfl (Zfa S rfl rfl) λf S=>mw S rfl λf S=>mw S rfl λf S=>ZB (Zh (bQ _ _ (sr (mv S rfl λf S=>ov S rfl (Zs S rfl rfl Zqf) λf S=>oe ?_))));rcases Z8 (decide ((0:Int)<bT.2)) with R | R
    ·have H:=Z7 H R;refine Zka S rfl R (wp_exit (ZQt rfl ?_));obtain rfl:=Zv H;have hq:=aS _ rfl;subst hq;have H:=aQ;refine Zxb (Z3d ?_);obtain rfl:=Zv H;refine Zh (aP _ _ ⟨_,_,rfl,(leT (leT (leT (leR _) L) E) P),(S.fr' rfl),(ZPb _ _)⟩)
    have H:=Zaa H R;refine ZZ S rfl R (wp_skip (Zgd ?_));obtain rfl:=Zv H;refine bw _ rfl _ _ ⟨_,_,_,rfl,(leT (leT L E) P),(S.fr' rfl),(ZPb _ _),(Zfo aV)⟩
   rintro f w ⟨ac,an,hq,aW,S,bW⟩;subst hq;have H:=bt;have d:=ZT aW d;obtain rfl:=Zv H;refine Zh (aI _ _ ⟨_,_,rfl,(leT (leT (leR _) ab) aW),(S.fr' rfl),bW⟩)
  have H:=Zaa H J;refine ZZ S rfl J (wp_skip ?_);obtain rfl:=Zv H;refine Zh (aI _ _ ⟨_,_,rfl,(leR _),(S.fr' rfl),(by decide)⟩)
 rintro f w ⟨W,I,hq,aX,S,bX⟩;subst hq;have H:=bc;have d:=ZT aX d;refine Zh (a4 _ _ (Zn λ_ bY=>?_));obtain⟨bZ,b1,b2⟩:=Z6 H;refine ZFb (λf w=>∃ af T az ag,(af,T)=bZ∧Zb.le I ag∧St 90 ⟨x,[a]⟩ m [(6,.int .u64 T)] [Loc.box a A (pre0++az++post0)] ag f w∧Rep.rels (Zd .u64) ag az af∧e=af.length∧inR .u64 T) (λ_ b3=>?_) ?_
 ·have H:=b1;refine wp_block ?_;obtain⟨cO,b4,b5⟩:=Z6 H;refine Zse b4 (λb6 f w=>∃ ah D aA ai,(ah,D)=b6∧Zb.le I ai∧St 90 ⟨x,[a]⟩ m [(0,.slice (some ⟨a,off0,none⟩) (e) h),(1,.slice (some ⟨r,s,none⟩) o p),(6,.int .u64 D)] [Loc.box a A (pre0++aA++post0)] ai f w∧Rep.rels (Zd .u64) ai aA ah∧e=ah.length∧inR .u64 D) ⟨_,_,cs0,_,rfl,(leR _),(S.fr' rfl),d,k,bX⟩ ?_;rintro _ f w st ⟨ah,D,aA,ai,hq,aB,S,aC,b7,aY⟩ H cP b8 b9;subst hq;refine Zn λ_ ca=>Zn λ_ cb=>bO H λcc ce H=>ZD (mv S rfl λf S=>mv S rfl λf S=>mv S rfl λf S=>?_);have g:=ZSa (leT aX aB) g;refine Zzr S wn rfl zl (ZK S [.slice (some ⟨a,off0,none⟩) (e) h,.slice (some ⟨r,s,none⟩) o p,.int .u64 D] k_en128 rfl rfl) (i:=0) rfl rfl (take_c S.vin (S.boxAt (j:=0) rfl).1 G (S.boxAt (j:=0) rfl).2 b7 a3 aC g (show Rep.rel (Zd .u64) _ [.int .u64 D] D from (ZI aY)) ce) ?_;rintro _ cQ f w aD ⟨⟨cR,rfl,cg⟩,ch,aE,ci,aZ,a0⟩ hSf;have aC:=ZT aD aC;have S:=hSf (Loc.box a A (pre0++aE++post0)) rfl ci ch;obtain rfl:=cg;refine ov S rfl (ZQo S rfl) λf S=>ZB (Zh (cb _ _ ?_));rcases Z8 (!(cc.1)) with U | U
  ·have H:=Z7 H U;refine Zka S rfl U (wp_skip (Zh (ca _ _ (wp_block (ZD (mv S rfl λf S=>ov S rfl (Zs S rfl rfl Z4n) λf S=>mw S rfl λf S=>ZB (Zgd ?_)))))));obtain rfl:=Zv H;refine b8 _ rfl _ _ ⟨_,_,aE,_,rfl,(leT aB aD),(S.fr' rfl),a0,aZ,(ZPb _ _)⟩
  have H:=Zaa H U;refine ZZ S rfl U (wp_exit (Zxb ?_));obtain rfl:=Zv H;have hq:=b9 _ rfl;subst hq;have H:=b5;refine Zxb (Z3d ?_);obtain rfl:=Zv H;refine Zh (b3 _ _ ⟨_,_,aE,_,rfl,(leT (leT (leR _) aB) aD),(S.fr' rfl),a0,aZ,aY⟩)
 rintro f w ⟨af,T,az,ag,hq,cS,S,cj,ck,cl⟩;subst hq;have H:=b2;refine Zh (bY _ _ (sr (mv S rfl λf S=>mw S rfl λf S=>oe (wp_ret ?_))));obtain rfl:=Zv H;refine Zxm S (ZYa rfl (ZM S rfl)) ⟨⟨[.int .u64 T],rfl,(ZI cl)⟩,(S.boxAt (j:=0) rfl).2,_,(S.boxAt (j:=0) rfl).1,ck,cj⟩
theorem digit_c {d:World} {b:Zb} (hv:VIn b d) {a off0 c e:Nat} {f:TypeId} {pre0 cs0 post0:List Value} {u:(List Int)} (j:d.heap[a]? = some (.cells (pre0++cs0++post0).toArray f (0,0))) (k:off0=pre0.length) (l:b a=none) (m:c=u.length) (n:c≤e∧e≤maxLen) (g:Rep.rels (Zd .u64) b cs0 u) {h:List Value} {v:Nat} (o:Rep.rel Zx b h v) {z:Int×(List Int)} (hm:ZGh u v=some z) :
  Zzd Tryz.prog 99 #[Value.slice (some ⟨a,off0,none⟩) c e,Zx.val h] d b [a] (λy v' w'=>(∃ i,y=(Zd .u64).val i∧(Zd .u64).rel v' i z.1)∧v' a=none∧∃ cs,w'.heap[a]? = some (.cells (pre0++cs++post0).toArray f (0,0))∧c=z.2.length∧Rep.rels (Zd .u64) v' cs z.2) :=
 digit_w hv j k l m n g o (ZHy (ZSl g) hm)
set_option maxHeartbeats 4000000
noncomputable def left_q:FuncId×Con:=(98,⟨[.leaf 0,.int .i64],[.leaf 0],λp=>ZYc p.1 p.2⟩)
theorem left_r:KR left_q:=ZL (C:=cf2 [(37,0)] [Zvf]) (.n (.two (.f (.j [0,1] [] [.s 14 (.dat .bool)] .no)) (.n (.f (.n (.j [] [] [.s 5 (.own 139 (.int .u64))] (.f (.l [1,23,24] [] [.s 5 (.own 139 (.int .u64)),.s 25 (.dat (.int .i64))] 0 [] [] [.s 5 (.own 139 (.int .u64))] .no)))))))) Tryz.func98 [] (λv vals x z ha hz=>.trans (by kernel_rfl) (ZPz hz)) ⟨Zkh,tr⟩
theorem ZUk {e:World} {b:Zb} (hv:VIn b e) {c:List Value} {a:Nat} (g:Rep.rel Zx b c a) {d:List Value} {n:Int} (h:Rep.rel (Zd .i64) b d n) {z:Nat} (hm:ZYc a n=some z) :
  Ret Tryz.prog 98 #[Zx.val c,(Zd .i64).val d] e b (λy v'=>∃ f,y=Zx.val f∧Zx.rel v' f z) :=
 (left_r e b [Zx.val c,(Zd .i64).val d] (a,n) z hv ⟨c,_,rfl,g,d,rfl,h⟩ hm).2
theorem lz64_c {c:World} {a:Zb} (hv:VIn a c) {b:List Value} {x:Int} (e:Rep.rel (Zd .u64) a b x) {z:Int} (hm:Z9d x=some z) :
  Ret Tryz.prog 97 #[(Zd .u64).val b] c a (λy v'=>∃ d,y=(Zd .i64).val d∧(Zd .i64).rel v' d z) :=
 (Z4q c a [(Zd .u64).val b] (x) z hv ⟨b,rfl,e⟩ hm).2
noncomputable def right_q:FuncId×Con:=(100,⟨[.leaf 0,.int .i64],[.leaf 0],λp=>Z2f p.1 p.2⟩)
theorem right_r:KR right_q:=ZL (C:=cf2 [(37,0)] [Zvf]) (.n (.n (.n (.f (.n (.j [] [] [.s 5 (.own 139 (.int .u64))] (.f (.l [0,1,19] [] [.s 5 (.own 139 (.int .u64)),.s 20 (.dat (.int .i64))] 0 [] [] [.s 5 (.own 139 (.int .u64))] (.f (.n (.n (.f (.f (.n (.n (.n (.j [0,1,19,20] [] [.s 5 (.own 139 (.int .u64))] .no))))))))))))))))) Tryz.func100 [] (λv vals x z ha hz=>by obtain⟨c0,w0,e0,p0,c1,e1,p1⟩:=ha;exact .trans (by kernel_rfl) (Zrz p1.2 hz)) ⟨Zkh,tr⟩
theorem right_c {e:World} {b:Zb} (hv:VIn b e) {c:List Value} {a:Nat} (g:Rep.rel Zx b c a) {d:List Value} {n:Int} (h:Rep.rel (Zd .i64) b d n) {z:Nat} (hm:Z2f a n=some z) :
  Ret Tryz.prog 100 #[Zx.val c,(Zd .i64).val d] e b (λy v'=>∃ f,y=Zx.val f∧Zx.rel v' f z) :=
 (right_r e b [Zx.val c,(Zd .i64).val d] (a,n) z hv ⟨c,_,rfl,g,d,rfl,h⟩ hm).2
theorem ZCr {c:World} {a:Zb} (hv:VIn a c) {b:List Value} {n:Int} (e:Rep.rel (Zd .u64) a b n) {z:Nat} (hm:Znc n=some z) :
  Ret Tryz.prog 60 #[(Zd .u64).val b] c a (λy v'=>∃ d,y=Zx.val d∧Zx.rel v' d z) :=
 (ZYs c a [(Zd .u64).val b] (n) z hv ⟨b,rfl,e⟩ hm).2
theorem Zdx {w0:World} {F:Zb} (hv:VIn F w0) {c0:List Value} {a:Nat} (m:Rep.rel Zx F c0 a) {c1:List Value} {b:Nat} (g:Rep.rel Zx F c1 b) {z:Nat×Nat} (H:Zni a b=some z):Ret Tryz.prog 65 #[Zx.val c0,Zx.val c1] w0 F (λy v'=>∃ r0 r1,y = .tuple #[Zx.val r0,Zx.val r1]∧Zx.rel v' r0 z.1∧Zx.rel v' r1 z.2):=by
 obtain⟨R,T,U,rfl⟩:=ZKa m;obtain⟨q4,n5,k6,rfl⟩:=ZKa g;refine ZKb (K:=84) (args:=[.slice R T U,.slice q4 n5 k6]) hv Tryz.func65 rfl rfl zl λf S=>?_;unfold Zni at H;refine sr (mw S rfl λf S=>mw S rfl λf S=>oe (Zn λ_ bc=>wp_block (Zn λ_ bd=>bO H λbe bf H=>ZD (mv S rfl λf S=>mv S rfl λf S=>opc S rfl (ZK S [.slice R T U,.slice q4 n5 k6] Zip rfl rfl) (cmp_c S.vin m g bf) ?_))));rintro _ c2 f w aj ⟨c3,rfl,bg⟩ S;obtain⟨rfl,c4⟩:=bg;refine ov S rfl (Zs S rfl rfl Z2c) λf S=>mw S rfl λf S=>ZB (Zh (bd _ _ ?_));rcases Z8 (decide (be<(0:Int))) with V | V
 ·have H:=Z7 H V;refine Zka S rfl V (sr (mv S rfl λf S=>mw S rfl λf S=>mw S rfl λf S=>oe (wp_ret (Z4g (Z1b ?_)))));obtain rfl:=Zv H;have m:=ZSa aj m;refine Zqa S (Zsc rfl (ZM S rfl) (ZM S rfl)) ⟨[.slice none 0 0],[.slice R T U],rfl,(ZNg _),m⟩
 have H:=Zaa H V;refine ZZ S rfl V (sr (mv S rfl λf S=>?_));have g:=ZSa aj g;refine ov S rfl (Zic S (Ztb g) rfl rfl Zna) λf S=>ov S rfl (Zs S rfl rfl ZMf) λf S=>mw S rfl λf S=>oe ?_;rcases Z8 (((((Zc 18446744073709551616 b)).length:Int))==(1:Int)) with W | W
 ·have H:=Z7 H W;refine Zka S rfl W (Zn λ_ bh=>bO H λau av H=>bO H λax bi H=>ZD (mv S rfl λf S=>mv S rfl λf S=>?_));obtain⟨_,c5,c6,c7,rfl,ay,bj⟩:=ZGc g (Zp av).2.1;obtain⟨rfl,bk⟩:=bj;refine ov S rfl (ZFa S rfl rfl Zna (Zp av).1 (ltI (Ztb g) (Zp av).2.2.1)) λf S=>ov S rfl (ZGb S rfl ZVb (S.view ay)) λf S=>?_;have m:=ZSa aj m;refine opc S rfl (ZK S [.slice R T U,.int .u64 au] Zkp rfl rfl) (ZKs S.vin m (show Rep.rel (Zd .u64) _ [.int .u64 au] au from (ZI bk)) bi) ?_;rintro _ c8 f w bm ⟨c9,da,rfl,ak,bn⟩ S;have ay:=Atm bm ay;obtain⟨aT,aU,aV,rfl⟩:=ZKa ak;obtain⟨rfl,bo⟩:=bn;refine mv S rfl λf S=>ov S rfl (Zfa S rfl rfl) λf S=>ov S rfl (Zfa S rfl rfl) λf S=>mw S rfl λf S=>mw S rfl λf S=>ZB (Zh (bh _ _ (Zn λ_ bp=>bO H λdb bq H=>ZD (mv S rfl λf S=>mv S rfl λf S=>opc S rfl (ZK S [.int .u64 (ax.2)] Zyq rfl rfl) (ZCr S.vin (show Rep.rel (Zd .u64) _ [.int .u64 (ax.2)] ax.2 from (ZI bo)) bq) ?_))));rintro _ dc f w br ⟨dd,rfl,aW⟩ S;obtain⟨aX,aY,aZ,rfl⟩:=ZKa aW;refine mw S rfl λf S=>mw S rfl λf S=>ZB ?_;have S:=S.fr' (σ':=[(4,.slice aT aU aV),(5,.slice aX aY aZ)]) rfl;refine Zh (bp _ _ (wp_ret (Z4g (Z1b ?_))))
  obtain rfl:=Zv H;have ak:=ZSa br ak;refine Zqa S (Zsc rfl (ZM S rfl) (ZM S rfl)) ⟨[.slice aT aU aV],[.slice aX aY aZ],rfl,ak,aW⟩
 have H:=Zaa H W;refine ZZ S rfl W (wp_skip (Zgd (Zh (bc _ _ (Zn λ_ bs=>bO H λde bt H=>bO H λaz aA H=>bO H λk bu H=>ZD (mv S rfl λf S=>mv S rfl λf S=>ov S rfl (Zic S (Ztb g) rfl rfl Zna) λf S=>ov S rfl (Zs S rfl rfl (ZIb bt)) λf S=>?_))))));obtain⟨_,bv,bw,df,rfl,aB,bx⟩:=ZGc g (Zp aA).2.1;obtain⟨rfl,bz⟩:=bx;refine ov S rfl (ZFa S rfl rfl Zna (Zp aA).1 (ltI (Ztb g) (Zp aA).2.2.1)) λf S=>ov S rfl (ZGb S rfl ZVb (S.view aB)) λf S=>opc S rfl (ZK S [.int .u64 az] k_en97 rfl rfl) (lz64_c S.vin (show Rep.rel (Zd .u64) _ [.int .u64 az] az from (ZI bz)) bu) ?_;rintro _ dg f w aC ⟨dh,rfl,bA⟩ S;have aB:=Atm aC aB;obtain⟨rfl,aD⟩:=bA;refine mw S rfl λf S=>ZB (Zh (bs _ _ (Zn λ_ bB=>bO H λbC bD H=>ZD (mv S rfl λf S=>mv S rfl λf S=>?_))));have g:=ZSa aC g;refine opc S rfl (ZK S [.slice (some ⟨bv,bw,none⟩) n5 k6,.int .i64 k] ZJj rfl rfl) (ZUk S.vin g (show Rep.rel (Zd .i64) _ [.int .i64 k] k from (ZI aD)) bD) ?_;rintro _ bE f w bG ⟨di,rfl,v⟩ S;obtain⟨aE,aF,aG,rfl⟩:=ZKa v;refine mw S rfl λf S=>ZB (Zh (bB _ _ (Zn λ_ bH=>bO H λX bI H=>bO H λdj bJ H=>bO H λdk bK H=>ZD ?_)))
 obtain⟨dl,w,bM,S⟩:=ZLh (P:=Tryz.prog) (t:=37) (e:=139) S (n:=0) (cs:=[]) (vals:=[]) (sz:=1) rfl (by decide) (λ_=>by kernel_rfl);have aH:Rep.rels (Zd .u64) bE [] []:=Zzf;refine ZZc wn rfl zl (bM rfl) S λf S=>mv S rfl λf S=>mv S rfl λf S=>?_;have m:=ZSa (leT (leT aj aC) bG) m;refine opc S rfl (ZK S [.slice R T U,.int .i64 k] ZJj rfl rfl) (ZUk S.vin m (show Rep.rel (Zd .i64) _ [.int .i64 k] k from (ZI aD)) bI) ?_;rintro _ al f w a0 ⟨dm,rfl,aI⟩ S;have aH:=ZT a0 aH;obtain⟨dn,dp,dq,rfl⟩:=ZKa aI;have aJ:=S;obtain⟨dr,ds,a1,w,bP,S,bQ⟩:=Zxg (ty:=37) (A:=(Zd .u64)) Zpj S (i:=0) (n':=(([]:(List Int))++((Zc 18446744073709551616 X))).length) rfl aI (appN rfl (Ztb aI)) (ZUe bJ) (by decide);have bR:=Zmc aH bQ;refine ZZc wn rfl zl (Zle aJ rfl rfl bP) S λf S=>?_;obtain⟨dt,w,bS,S⟩:=ZLh S (n:=1) (cs:=[.int .u64 0]) (vals:=[(0,.int .u64 0)]) (sz:=1) rfl (by decide) (Zau Zpj (x:=.int .u64 0) (cs:=[.int .u64 0]) rfl rfl (by decide));have aK:Rep.rels (Zd .u64) al [.int .u64 0] [(0:Int)]:=(Zmq (ZI (by decide)) Zzf);refine ZZc wn rfl zl (bS rfl) S λf S=>?_;have aJ:=S;obtain⟨aL,aM,w,bT,S⟩:=Zak (ty:=37) Zpj S (i:=1) (n':=((([]:(List Int))++((Zc 18446744073709551616 X)))++[(0:Int)]).length) rfl (Zte aK rfl) (Z9g S (j:=0) rfl) (Z3g aK) (appN rfl rfl) (ZUe bK) (by decide)
 have bU:=Zmc bR aK;refine ZZc wn rfl zl (Zle aJ rfl rfl bT) S λf S=>mw S rfl λf S=>ZB ?_;have S:=S.fr' (σ':=[(8,.int .i64 k),(9,.slice aE aF aG),(10,.slice (mkA aL) (((([]:(List Int))++((Zc 18446744073709551616 X)))++[(0:Int)]).length) aM)]) rfl;refine Zh (bH _ _ (sr (mv S rfl λf S=>?_)));have v:=ZSa a0 v;refine ov S rfl (Zic S (Ztb v) rfl rfl Zna) λf S=>mw S rfl λf S=>oe (Zn λ_ bV=>bO H λq bW H=>bO H λdu am H=>ZD (mv S rfl λf S=>ov S rfl (Zic S rfl rfl rfl Zna) λf S=>mv S rfl λf S=>ov S rfl (Zs S rfl rfl (ZIb bW)) λf S=>?_));obtain⟨aN,a2⟩:∃ c:List Value,c=(List.replicate (q).toNat [.int .u64 0]).flatten:=⟨_,rfl⟩;obtain⟨a3,w,bX,S⟩:=Z3r Zpj S (l:=q) (c:=q) (Zde am).1 (Zde am).2.1 (Zde am).2.2.1 (Zde am).2.2.2 a2;have bY:Rep.rels (Zd .u64) al aN (List.replicate (q).toNat (0:Int)):=by rw[a2];exact ZTh (show Rep.rel (Zd .u64) _ [.int .u64 0] _ from (ZI (by decide))) _
 refine ZZc wn rfl zl (bX rfl rfl) S λf S=>mw S rfl λf S=>ZB (Zh (bV _ _ (Zn λ_ bZ=>Zn λ_ b0=>bO H λdv a4 H=>ZD (mv S rfl λf S=>ov S rfl (Zic S (repN (x:=(0:Int))) rfl rfl Zna) λf S=>ov S rfl (Zs S rfl rfl (ZIb a4)) λf S=>mw S rfl λf S=>ZB (Zh (b0 _ _ ?_))))));obtain⟨b1,b2,b3⟩:=Z6 H;refine ZFb (λf w=>∃ G I J B L an Y M Z aO aa,(G,I)=b1∧Zb.le al aa∧St 84 w0 F [(8,.int .i64 k),(10,.slice (mkA J) B L),(12,.slice (mkA Y) M Z)] [Loc.own J 139 1 B L an,Loc.own Y 139 1 M Z aO] aa f w∧Rep.rels (Zd .u64) aa an G∧B=G.length∧Rep.rels (Zd .u64) aa aO I∧M=I.length) (λ_ b4=>?_) ?_
 ·have H:=b2;refine wp_block ?_;obtain⟨dw,b5,b6⟩:=Z6 H;have S:=S.reorder (ℓ':=[Loc.own aL 139 1 (((([]:(List Int))++((Zc 18446744073709551616 X)))++[(0:Int)]).length) aM ((([]++a1)++[.int .u64 0])),Loc.own (some a3) 139 1 ((q).toNat) (q).toNat aN]) [2,0] rfl (by decide);refine Zse b5 (λb7 f w=>∃ ao N d ap C D s aq E ab o ac,(ao,N,d)=b7∧Zb.le al ac∧St 84 w0 F [(8,.int .i64 k),(9,.slice aE aF aG),(10,.slice (mkA ap) C D),(11,.int .i64 ((((Zc 18446744073709551616 bC)).length:Int))),(12,.slice (mkA aq) E ab),(13,.int .i64 d)] [Loc.own ap 139 1 C D s,Loc.own aq 139 1 E ab o] ac f w∧Rep.rels (Zd .u64) ac s ao∧C=ao.length∧Rep.rels (Zd .u64) ac o N∧E=N.length∧inR .i64 d) ⟨_,_,_,aL,((([]:(List Int))++((Zc 18446744073709551616 X)))++[(0:Int)]).length,aM,(([]++a1)++[.int .u64 0]),some a3,(q).toNat,(q).toNat,aN,_,rfl,(leR _),(S.fr' rfl),bU,rfl,bY,(repN (x:=(0:Int))),(Zdb a4).2⟩ ?_;rintro _ f w st ⟨ao,N,d,ap,C,D,s,aq,E,ab,o,ac,hq,aP,S,ad,ae,af,ag,dx⟩ H dy b8 b9
  subst hq;refine Zn λ_ ca=>sr (mv S rfl λf S=>ov S rfl (Zs S rfl rfl ZEi) λf S=>oe ?_);rcases Z8 (decide ((0:Int)≤d)) with ah | ah
  ·have H:=Z7 H ah;refine Zka S rfl ah (wp_skip (Zh (ca _ _ (Zn λ_ cb=>wp_block (bO H λdz cc H=>bO H λO ce H=>bO H λdA h H=>bO H λu cg H=>bO H λdB Q H=>ZD (mv S rfl λf S=>mv S rfl λf S=>mv S rfl λf S=>?_))))));refine mv S rfl λf S=>mv S rfl λf S=>mv S rfl λf S=>ov S rfl (Zs S rfl rfl (ZJc cc)) λf S=>ov S rfl (Zs S rfl rfl (ZJc ce)) λf S=>?_;obtain⟨aQ,rfl⟩:=Zpd S (j:=0) rfl (by have:=ZCc h;have:=ae;omega);refine ov S rfl (Zaz S (j:=0) rfl Zna (ZCc h).1 (ZCc h).2.1 (by have:=(ZCc h).2.2.1;have:=ae;omega) rfl rfl rfl) λf S=>mv S rfl λf S=>?_;obtain⟨pre399,post400,ch,ci,cj,ck,cl,cm⟩:=Z8z S (i:=0) (lo:=(d).toNat) (hi:=(O).toNat) rfl (ZCc h).2.2.2.2.2.1 (by have:=(ZCc h).2.2.2.2.2.2;have:=ae;omega);have v:=ZSa aP v;refine Zzr S wn rfl zl (ZK S [.slice (some ⟨aQ,(d).toNat*1,none⟩) ((O-d).toNat) (D-(d).toNat),.slice aE aF aG] k_en99 rfl rfl) (i:=0) rfl rfl (digit_c S.vin ch cj ci (ZCc h).2.2.2.2.1 ⟨Z7w (ZCc h).1 (ZCc h).2.1 ck,cl⟩ (ZFx ad rfl (ZCc h).2.2.2.1) v cg) ?_;rintro _ a5 f w aR ⟨⟨dC,rfl,cn⟩,co,aS,cp,cq,a6⟩ hSf;have ad:=ZT aR ad
   have af:=ZT aR af;have a7:((O).toNat-(d).toNat)=u.2.length:=by have:=cq;have:=ZCc h;omega
   have S:=hSf (Loc.own (some aQ) 139 1 C D (List.take ((d).toNat*1) s++aS++List.drop ((O).toNat*1) s)) rfl (cm _ aS (Zte a6 a7) cp) co;have cr:=Zpv (p:=(d).toNat) (r:=(O).toNat) (sz:=1) ad a6 rfl;have ct:=ZGv ae (ZCc h).2.2.2.2.2.1 (ZCc h).2.2.2.2.2.2 a7;obtain⟨rfl,cu⟩:=cn;obtain⟨cv,rfl⟩:=Zpd S (j:=1) rfl (posN ag (Zp Q).2.2.2);have a8:=Z1a af (Zp Q).2.1;obtain⟨dD,cw⟩:∃ c,(List.take (Zd .u64).n (List.drop ((d).toNat*(Zd .u64).n) o))=c:=⟨_,rfl⟩;rw[cw]at a8;obtain⟨rfl,dE⟩:=a8;refine ov S rfl (ZFa S rfl rfl Zna (Zp Q).1 (ltI ag (Zp Q).2.2.1)) λf S=>?_;obtain⟨w,cx,S⟩:=ZQd S ZVb (off:=0+(d).toNat*1) (z:=.int .u64 (u.1)) (cs:=[.int .u64 (u.1)]) (ZId rfl) rfl (i:=1) rfl (Zri S (j:=1) rfl (ltN ag (Zp Q).2.2.2)) (by first | rfl | simp[plain]);have cy:Rep.rels (Zd .u64) a5 (List.take (0+(d).toNat*1) o++[Value.int IntKind.u64 (u.1)]++List.drop (0+(d).toNat*1+1) o) (N.set (d).toNat u.1):=Zyh af (Zp Q).2.2.2 (show Rep.rel (Zd .u64) a5 [.int .u64 (u.1)] _ from (ZI cu)) rfl rfl;have cz:E=(N.set (d).toNat u.1).length:=setN ag;refine ZXf wn rfl (cx rfl rfl) (ZB (Zgd (Zh (cb _ _ (bO H λdF a9 H=>ZD (mv S rfl λf S=>ov S rfl (Zs S rfl rfl (ZIb a9)) λf S=>mw S rfl λf S=>ZB ?_))))))
   obtain rfl:=Zv H;refine b8 _ rfl _ _ ⟨_,_,_,some aQ,C,D,(List.take ((d).toNat*1) s++aS++List.drop ((O).toNat*1) s),some cv,E,ab,(List.take (0+(d).toNat*1) o++[Value.int IntKind.u64 (u.1)]++List.drop (0+(d).toNat*1+1) o),_,rfl,(leT aP aR),(S.fr' rfl),cr,ct,cy,cz,(Zdb a9).2⟩
  have H:=Zaa H ah;refine ZZ S rfl ah (wp_exit (Zxb ?_));obtain rfl:=Zv H;have hq:=b9 _ rfl;subst hq;have H:=b6;refine Zxb (Z3d ?_);obtain rfl:=Zv H;refine Zh (b4 _ _ ⟨_,_,ap,C,D,s,aq,E,ab,o,_,rfl,(leT (leR _) aP),(S.fr' rfl),ad,ae,af,ag⟩)
 rintro f w ⟨G,I,J,B,L,an,Y,M,Z,aO,aa,hq,dG,S,ai,cA,cC,cD⟩;subst hq;have H:=b3;refine Zh (bZ _ _ (Zn λ_ cE=>bO H λdH cF H=>bO H λdI cH H=>bO H λdJ cI H=>ZD (mv S rfl λf S=>?_)));obtain⟨dK,cJ,S,cK⟩:=S.pubSlice (i:=1) (A:=(Zd .u64)) (l:=I) (ℓ':=[Loc.own J 139 1 B L an]) rfl rfl cD cC rfl;have ai:=ZT cJ ai;refine opc S rfl (ZK S [.slice (mkA Y) M Z] Zel rfl rfl) (Ztk S.vin (show Rep.rel (ZG (Zd .u64)) _ [.slice (mkA Y) M Z] I from cK) cF) ?_;rintro _ dL f w cL ⟨dM,rfl,ar⟩ S;have ai:=ZT cL ai;obtain⟨cM,cN,cO,rfl⟩:=ZKa ar;refine mv S rfl λf S=>?_;obtain⟨dN,cP,S,cQ⟩:=S.pubSlice (i:=0) (A:=(Zd .u64)) (l:=G) (ℓ':=[]) rfl rfl cA ai rfl;refine opc S rfl (ZK S [.slice (mkA J) B L] Zel rfl rfl) (Ztk S.vin (show Rep.rel (ZG (Zd .u64)) _ [.slice (mkA J) B L] G from cQ) cH) ?_;rintro _ dO f w cR ⟨dP,rfl,ba⟩ S;obtain⟨cS,cU,cV,rfl⟩:=ZKa ba;refine mv S rfl λf S=>opc S rfl (ZK S [.slice cS cU cV,.int .i64 k] k_en100 rfl rfl) (right_c S.vin ba (show Rep.rel (Zd .i64) _ [.int .i64 k] k from (ZI aD)) cI) ?_;rintro _ dQ f w cW ⟨dR,rfl,bb⟩ S;obtain⟨cX,cY,cZ,rfl⟩:=ZKa bb
 refine mw S rfl λf S=>mw S rfl λf S=>ZB (Zh (cE _ _ (wp_ret ?_)));obtain rfl:=Zv H;have ar:=ZSa (leT (leT cP cR) cW) ar;refine Zqa S (Zsc rfl (ZM S rfl) (ZM S rfl)) ⟨[.slice cM cN cO],[.slice cX cY cZ],rfl,ar,bb⟩
theorem ZnA {d:World} {c:Zb} (hv:VIn c d) {e:List Value} {a:Nat} (i:Rep.rel Zx c e a) {f:List Value} {b:Nat} (j:Rep.rel Zx c f b) {z:Nat×Nat} (hm:ZJd a b=some z) :
  Ret Tryz.prog 65 #[Zx.val e,Zx.val f] d c (λy v'=>∃ g h,y=Value.tuple #[Zx.val g,Zx.val h]∧Zx.rel v' g z.1∧Zx.rel v' h z.2) :=
 Zdx hv i j (Zdv hm)
noncomputable def Zzk:FuncId×Con:=(65,⟨[.leaf 0,.leaf 0],[.leaf 0,.leaf 0],λp=>ZJd p.1 p.2⟩)
theorem Zos:ZXd Tryz.prog Zzk.1 Zzk.2:=λw v vals x z hv ha hz=>by
 obtain⟨c0,w0,e0,p0,c1,e1,p1⟩:=ha;subst e0;subst e1
 exact .inl ⟨λ_ _=>by kernel_rfl,Ret.mono (ZnA hv p0 p1 hz) λy v' _ ⟨r0,r1,e,h0,h1⟩=>⟨_,e,r0,_,rfl,h0,r1,rfl,h1⟩⟩
noncomputable def Zeq:FuncId×Con:=(96,⟨[.leaf 0,.leaf 0],[.int .u64],λp=>Zxh p.1 p.2⟩)
theorem small_k:KQ Zeq:=Zy (ZL (C:=cf2 [(37,0)] []) (.n (.n (.two (.n (.j [1] [] [.s 5 (.dat (.int .u64))] .no)) (.n (.f (.j [] [] [.s 5 (.dat (.int .u64))] (.f (.l [] [] [.s 5 (.dat (.int .u64)),.s 6 (.dat (.int .u64))] 0 [] [] [.s 5 (.dat (.int .u64))] .no)))))))) Tryz.func96 [] (λv vals x z ha hz=>.trans (by kernel_rfl) (ZlA hz)))
noncomputable def gcd_q:FuncId×Con:=(63,⟨[.leaf 0,.leaf 0],[.leaf 0],λp=>gcdF p.1 p.2⟩)
theorem gcd_k:KQ gcd_q:=Zy (ZL (C:=cf2 [(37,0)] [Z3h,Zzk,Zeq]) (.n (.f (.cut ⟨⟨[],[],[]⟩,[(.norm,⟨[],[],[.s 0 (.dat (.leaf 0))]⟩),(.ret,⟨[],[],[.s 1000 (.dat (.leaf 0))]⟩)]⟩ (.f (.cut ⟨⟨[],[],[.s 0 (.dat (.leaf 0)),.s 1 (.dat (.leaf 0))]⟩,[(.ret,⟨[],[],[.s 1000 (.dat (.leaf 0))]⟩),(.exit 0,⟨[],[],[.s 0 (.dat (.leaf 0))]⟩)]⟩ (.f (.n (.f (.f (.f (.j [0,1] [] [.s 17 (.dat .bool)] .no))))))))))) Tryz.func63 [] (λv vals x z ha hz=>.trans (by kernel_rfl) (gcdF_eq hz)) ⟨Ztn,Zos,small_k,tr⟩)
noncomputable def Z4l:FuncId×Con:=(64,⟨[.leaf 0],[.bool],λp=>Zvg p⟩)
theorem Zft:KQ Z4l:=Zy (Zvk (C:=cf2 [] []) (.n (.f (.j [] [] [.s 2 (.dat .bool)] .no))) Tryz.func64 [] [.slice (.int .u64)] [.bool] (λx=>((Zc 18446744073709551616 x))) (λz=>z) (λv vals x z ha hz=>.trans (by kernel_rfl) (ZZu.trans hz)))
noncomputable def ZIh:FuncId×Con:=(37,⟨[.leaf 2,.leaf 0],[.leaf 3],λp=>ZNc p.1 p.2⟩)
theorem Zfu:KR ZIh:=ZL (C:=cf0 [gcd_q,Z4l,Zzk] [] [] []) (.n (.two (.n (.n (.j [2,4] [] [.s 1 (.dat (.leaf 0)),.l (.sl 2) (.box 39 (.dat (.pair .bool (.leaf 0))))] .no))) (.f (.n (.j [2,4] [] [.s 1 (.dat (.leaf 0))] .no))))) Tryz.func37 [] (λv vals x z ha hz=>.trans (by kernel_rfl) (ZjA hz)) ⟨gcd_k,Zft,Zos,tr⟩
theorem Zcl:KQ ZIh:=Zy Zfu
noncomputable def ZVk:FuncId×Con:=(69,⟨[.int .u64,.int .u64,.int .u64],[.int .u64,.int .u64],λp=>ZUb p.1 p.2.1 p.2.2⟩)
theorem Zgp:ZXd Tryz.prog ZVk.1 ZVk.2:=λw v vals x z _ ha hz=>by
 obtain⟨c0,w0,e0,p0,c1,w1,e1,p1,c2,e2,p2⟩:=ha
 subst e0 e1 e2
 obtain⟨rfl,h0⟩:=p0
 obtain⟨rfl,h1⟩:=p1
 obtain⟨rfl,h2⟩:=p2
 have p0:(Zd .u64).rel v [.int .u64 x.1] x.1:=⟨rfl,h0⟩
 have p1:(Zd .u64).rel v [.int .u64 x.2.1] x.2.1:=⟨rfl,h1⟩
 exact .inr ⟨.tuple #[.int .u64 z.1,.int .u64 z.2],λw=>ZOm (show Zed Tryz.prog 69 add64Entry from ⟨_,Tryz.func69,by kernel_rfl,by kernel_rfl,by kernel_rfl,by kernel_rfl⟩) hz w,_,rfl,_,_,rfl,⟨rfl,Zfo hz⟩,_,rfl,⟨rfl,addW_hi p0.2 p1.2 hz⟩⟩
noncomputable def Zrh:FuncId×Con:=(40,⟨[.leaf 0,.leaf 0],[.leaf 0],λp=>ZMc p.1 p.2⟩)
theorem Z7i:KQ Zrh:=Zy (ZL (C:=cf2 [(37,0)] [Z4l,ZEo,ZVk,Zvf]) (.n (.n (.n (.n (.f (.n (.j [] [] [.s 5 (.own 139 (.int .u64))] (.f (.l [1,26,27] [] [.s 5 (.own 139 (.int .u64)),.s 28 (.dat (.int .i64))] 0 [] [] [.s 5 (.own 139 (.int .u64))] (.f (.n (.n (.f (.f (.n (.n (.f (.n (.j [1,6,26,27,28] [] [.s 5 (.own 139 (.int .u64)),.s 8 (.dat (.int .u64))] (.f (.l [1,6,7,26,27,28,33,34] [] [.s 5 (.own 139 (.int .u64)),.s 8 (.dat (.int .u64)),.s 35 (.dat (.int .i64))] 2 [1,6,26,27,28] [] [.s 5 (.own 139 (.int .u64)),.s 8 (.dat (.int .u64))] .no))))))))))))))))))))) Tryz.func40 [] (λv vals x z ha hz=>.trans (by kernel_rfl) (Zww hz)) ⟨Zft,mul64_k,Zgp,Zkh,tr⟩)
noncomputable def Z6e:FuncId×Con:=(62,⟨[.bool,.leaf 0],[.leaf 2],λp=>Zeb p.1 p.2⟩)
theorem Zep:KR Z6e:=ZL (C:=cf0 [] [] [] []) (.n (.f (.j [4] [] [.l (.sl 4) (.box 39 (.dat (.pair .bool (.leaf 0))))] .no))) Tryz.func62 [] (λv vals x z ha hz=>.trans (by kernel_rfl) (Z5z hz))
theorem ZCg:KQ Z6e:=Zy Zep
noncomputable def Zim:FuncId×Con:=(38,⟨[.leaf 2,.leaf 0],[.leaf 2],λp=>ZDf p.1 p.2⟩)
theorem Zgt:KQ Zim:=Zy (ZL (C:=cf0 [Zrh,Z6e] [] [] []) .no Tryz.func38 [] (λv vals x z ha hz=>.trans (by kernel_rfl) (Z3v hz)) ⟨Z7i,ZCg,tr⟩)
noncomputable def Zvp:FuncId×Con:=(66,⟨[.leaf 0,.leaf 0],[.leaf 0],λp=>Zkj p.1 p.2⟩)
theorem plus_k:KQ Zvp:=Zy (ZL (C:=cf2 [(37,0)] [ZVk]) (.n (.two (.n (.j [] [] [.s 0 (.dat (.leaf 0)),.s 1 (.dat (.leaf 0))] .no)) (.n (.n (.two (.n (.j [] [] [.s 5 (.own 139 (.int .u64)),.s 6 (.dat (.int .u64))] (.f (.l [1,23,24] [] [.s 5 (.own 139 (.int .u64)),.s 6 (.dat (.int .u64)),.s 25 (.dat (.int .i64))] 0 [] [] [.s 5 (.own 139 (.int .u64)),.s 6 (.dat (.int .u64))] (.f (.n (.n (.f (.f (.n (.n (.f (.n (.j [1,5,6,7,8,23,24,25] [] [.s 9 (.dat (.int .u64))] .no)))))))))))))) (.f (.n (.j [] [] [.s 5 (.own 139 (.int .u64))] .no)))))))) Tryz.func66 [] (λv vals x z ha hz=>.trans (by kernel_rfl) (ZrA hz)) ⟨Zgp,tr⟩)
noncomputable def Zfm:FuncId×Con:=(101,⟨[.int .u64,.int .u64,.int .u64],[.int .u64,.int .u64],λp=>Zld p.1 p.2.1 p.2.2⟩)
theorem sub64_k:ZXd Tryz.prog Zfm.1 Zfm.2:=λw v vals x z _ ha hz=>by
 obtain⟨c0,w0,e0,p0,c1,w1,e1,p1,c2,e2,p2⟩:=ha
 subst e0 e1 e2
 obtain⟨rfl,h0⟩:=p0
 obtain⟨rfl,h1⟩:=p1
 obtain⟨rfl,h2⟩:=p2
 have p0:(Zd .u64).rel v [.int .u64 x.1] x.1:=⟨rfl,h0⟩
 have p1:(Zd .u64).rel v [.int .u64 x.2.1] x.2.1:=⟨rfl,h1⟩
 exact .inr ⟨.tuple #[.int .u64 z.1,.int .u64 z.2],λw=>Z5t (show Zed Tryz.prog 101 Ztl from ⟨_,Tryz.func101,by kernel_rfl,by kernel_rfl,by kernel_rfl,by kernel_rfl⟩) p0.2 p1.2 hz w,_,rfl,_,_,rfl,⟨rfl,ZXo hz⟩,_,rfl,⟨rfl,ZFq hz⟩⟩
noncomputable def Zmr:FuncId×Con:=(67,⟨[.leaf 0,.leaf 0],[.leaf 0],λp=>ZQh p.1 p.2⟩)
theorem minus_k:KQ Zmr:=Zy (ZL (C:=cf2 [(37,0)] [Zvf,Zfm]) (.n (.n (.n (.f (.n (.j [] [] [.s 5 (.own 139 (.int .u64))] (.f (.l [1,13,14] [] [.s 5 (.own 139 (.int .u64)),.s 6 (.dat (.int .u64)),.s 15 (.dat (.int .i64))] 0 [] [] [.s 5 (.own 139 (.int .u64))] (.f (.n (.n (.f (.f (.n (.n (.f (.n (.j [1,5,6,7,8,13,14,15] [] [.s 9 (.dat (.int .u64))] .no)))))))))))))))))) Tryz.func67 [] (λv vals x z ha hz=>.trans (by kernel_rfl) (Zbx hz)) ⟨Zkh,sub64_k,tr⟩)
noncomputable def Zms:FuncId×Con:=(39,⟨[.leaf 2,.leaf 2],[.leaf 2],λp=>ZTi p.1 p.2⟩)
theorem iplus_k:KQ Zms:=Zy (ZL (C:=cf0 [ZDl,Z6e,Zvp,Zmr] [] [] []) .no Tryz.func39 [] (λv vals x z ha hz=>.trans (by kernel_rfl) (ZTz hz)) ⟨cmp_k,ZCg,plus_k,minus_k,tr⟩)
noncomputable def Zmf:FuncId×Con:=(13,⟨[.leaf 3,.leaf 3],[.leaf 3],λp=>ZDa p.1 p.2⟩)
theorem ZYf:KQ Zmf:=Zy (ZL (C:=cf0 [ZCl,ZIh,Zim,Zms,Zrh] [] [] []) .no Tryz.func13 [] (λv vals x z ha hz=>.trans (by kernel_rfl) (ZIz hz)) ⟨ZTm,Zcl,Zgt,iplus_k,Z7i,tr⟩)
noncomputable def Zqp:FuncId×Con:=(95,⟨[.leaf 2],[.leaf 2],λp=>Z4h p⟩)
theorem Zfv:KQ Zqp:=Zy (ZL (C:=cf0 [Z6e] [] [] []) .no Tryz.func95 [] (λv vals x z ha hz=>.trans (by kernel_rfl) (Zov hz)) ⟨ZCg,tr⟩)
noncomputable def Zfe:FuncId×Con:=(61,⟨[.leaf 3],[.leaf 3],λp=>Z9a p⟩)
theorem Zkf:KQ Zfe:=Zy (ZL (C:=cf0 [Zqp] [] [] []) .no Tryz.func61 [] (λv vals x z ha hz=>.trans (by kernel_rfl) (ZEz hz)) ⟨Zfv,tr⟩)
noncomputable def ZCe:FuncId×Con:=(34,⟨[.leaf 3,.leaf 3],[.leaf 3],λp=>ZBa p.1 p.2⟩)
theorem ZJf:KQ ZCe:=Zy (ZL (C:=cf0 [Zmf,Zfe] [] [] []) .no Tryz.func34 [] (λv vals x z ha hz=>.trans (by kernel_rfl) (Zew hz)) ⟨ZYf,Zkf,tr⟩)
noncomputable def Zye:FuncId×Con:=(11,⟨[.leaf 3,.leaf 3],[.int .i64],λp=>Zpa p.1 p.2⟩)
theorem Z8e:KQ Zye:=Zy (ZL (C:=cf0 [ZOc,ZCe] [] [] []) .no Tryz.func11 [] (λv vals x z ha hz=>.trans (by kernel_rfl) (ZJz hz)) ⟨Z9c,ZJf,tr⟩)
noncomputable def ZOn:FuncId×Con:=(32,⟨[.pair (.leaf 3) (.slice (.pair (.leaf 3) (.leaf 3)))],[.int .i64],λp=>Zti p⟩)
theorem Z2q:KQ ZOn:=Zy (Zya (C:=cf0 [Zye,ZOc] [] [] []) (.n (.n (.f (.n (.cut ⟨⟨[],[],[]⟩,[(.norm,⟨[],[],[]⟩),(.ret,⟨[],[],[.s 1000 (.dat (.int .i64))]⟩)]⟩ (.f (.cut ⟨⟨[1,16,17],[],[.s 18 (.dat (.int .i64))]⟩,[(.ret,⟨[],[],[.s 1000 (.dat (.int .i64))]⟩),(.exit 1,⟨[],[],[]⟩)]⟩ (.f (.n (.n (.f (.f (.n (.two (.f (.j [1,3,4,16,17,18] [] [.s 32 (.dat .bool)] .no)) (.f (.j [1,16,17,18] [] [.s 47 (.dat .bool)] .no)))))))))))))))) Tryz.func32 [] (λ_=>by kernel_rfl) ⟨Z8e,Z9c,tr⟩)
noncomputable def Zqq:FuncId×Con:=(75,⟨[.leaf 2,.leaf 2],[.leaf 2],λp=>Z7h p.1 p.2⟩)
theorem ZKw:KQ Zqq:=Zy (ZL (C:=cf0 [Zrh,Z6e] [] [] []) .no Tryz.func75 [] (λv vals x z ha hz=>.trans (by kernel_rfl) (Zlz hz)) ⟨Z7i,ZCg,tr⟩)
noncomputable def ZQg:FuncId×Con:=(51,⟨[.leaf 3,.leaf 3],[.leaf 3],λp=>Zza p.1 p.2⟩)
theorem Zmi:KQ ZQg:=Zy (ZL (C:=cf0 [ZCl,ZIh,Zrh,Zqq] [] [] []) .no Tryz.func51 [] (λv vals x z ha hz=>.trans (by kernel_rfl) (ZMy hz)) ⟨ZTm,Zcl,Z7i,ZKw,tr⟩)
noncomputable def ZMk:FuncId×Con:=(19,⟨[.leaf 3],[.bool],λp=>Z5d p⟩)
theorem Zdo:KQ ZMk:=Zy (ZL (C:=cf0 [] [] [] []) .no Tryz.func19 [] (λv vals x z ha hz=>.trans (by kernel_rfl) (ZJv hz)))
noncomputable def Z3e:FuncId×Con:=(42,⟨[.leaf 3,.leaf 3],[.leaf 3,.int .i64],λp=>Zlc p.1 p.2⟩)
theorem Z5f:KQ Z3e:=Zy (ZL (C:=cf0 [ZMk,ZCl,ZIh,Zim,Zrh,Z6e] [] [] []) (.n (.n (.f (.j [2,3,4] [] [.s 6 (.box 39 (.dat (.leaf 2)))] .no)))) Tryz.func42 [] (λv vals x z ha hz=>.trans (by kernel_rfl) (Z5x hz)) ⟨Zdo,ZTm,Zcl,Zgt,Z7i,ZCg,tr⟩)
noncomputable def Z7j:FuncId×Con:=(52,⟨[.leaf 3,.leaf 3],[.leaf 3,.leaf 3],λp=>ZRd p.1 p.2⟩)
theorem Z5n:KQ Z7j:=Zy (Zya (C:=cf0 [ZSf,Zmf,Z3e,ZQg] [] [] []) (.n (.n (.n (.f (.j [4,5,6,7] [] [.s 8 (.box 41 (.dat (.leaf 3)))] .no))))) Tryz.func52 [] (λ_=>by kernel_rfl) ⟨Zih,ZYf,Z5f,Zmi,tr⟩)
noncomputable def Zbn:FuncId×Con:=(53,⟨[.pair (.leaf 3) (.slice (.pair (.leaf 3) (.leaf 3))),.leaf 3],[.leaf 3,.leaf 3],λp=>Z2e p.1 p.2⟩)
theorem ZAr:KQ Zbn:=Zy (Zya (C:=cf0 [Zmf,ZQg,Z7j] [] [] []) (.n (.n (.f (.n (.j [4,5,6,7] [] [.l (.sl 6) (.box 41 (.dat (.leaf 3))),.l (.sl 7) (.box 41 (.dat (.leaf 3)))] (.f (.l [3,4,5,6,7,16,17] [] [.l (.sl 6) (.box 41 (.dat (.leaf 3))),.l (.sl 7) (.box 41 (.dat (.leaf 3))),.s 18 (.dat (.int .i64))] 0 [4,5,6,7] [] [.l (.sl 6) (.box 41 (.dat (.leaf 3))),.l (.sl 7) (.box 41 (.dat (.leaf 3)))] .no))))))) Tryz.func53 [] (λ_=>by kernel_rfl) ⟨ZYf,Zmi,Z5n,tr⟩)
noncomputable def Z5r:FuncId×Con:=(24,⟨[.pair (.leaf 3) (.slice (.pair (.leaf 3) (.leaf 3))),.leaf 3],[.leaf 3,.leaf 3,.int .i64],λp=>Z6p p.1 p.2⟩)
theorem Zow:KQ Z5r:=Zy (Zya (C:=cf0 [ZOc,ZOn,Zbn] [] [] []) .no Tryz.func24 [] (λ_=>by kernel_rfl) ⟨Z9c,Z2q,ZAr,tr⟩)
theorem of_c {c:World} {a:Zb} (hv:VIn a c) {b:List Value} {n:Int} (e:Rep.rel (Zd .i64) a b n) {z:Int} (hm:ofF n=some z) :
  Ret Tryz.prog 31 #[(Zd .i64).val b] c a (λy v'=>∃ d,y=Zrb.val d∧Zrb.rel v' d z) :=
 (of_r c a [(Zd .i64).val b] (n) z hv ⟨b,rfl,e⟩ hm).2
theorem over_c {e:World} {a:Zb} (hv:VIn a e) {b:List Value} {n:Int} (g:Rep.rel Zrb a b n) {c:List Value} {d:Nat} (h:Rep.rel Zx a c d) {z:Rat} (hm:ZNc n d=some z) :
  Ret Tryz.prog 37 #[Zrb.val b,Zx.val c] e a (λy v'=>∃ f,y=ZR.val f∧ZR.rel v' f z) :=
 (Zfu e a [Zrb.val b,Zx.val c] (n,d) z hv ⟨b,_,rfl,g,c,rfl,h⟩ hm).2
theorem whole_c {d:World} {a:Zb} (hv:VIn a d) {b:List Value} {s:Bool} (f:Rep.rel Zyb a b s) {c:List Value} {n:Nat} (g:Rep.rel Zx a c n) {z:Int} (hm:Zeb s n=some z) :
  Ret Tryz.prog 62 #[Zyb.val b,Zx.val c] d a (λy v'=>∃ e,y=Zrb.val e∧Zrb.rel v' e z) :=
 (Zep d a [Zyb.val b,Zx.val c] (s,n) z hv ⟨b,_,rfl,f,c,rfl,g⟩ hm).2
theorem Zdr {b:World} {a:Zb} (hv:VIn a b) {c:List Value} {fv:Nat} (e:Rep.rel (ZF .f64) a c fv) {z:Nat} (H:ZFk fv=some z):Ret Tryz.prog 166 #[(ZF .f64).val c] b a (λy v'=>∃ d,y=(ZF .f64).val d∧(ZF .f64).rel v' d z):=by
 obtain⟨rfl,g⟩:=e;refine ZKb (K:=7) (args:=[.float .f64 fv]) hv Tryz.func166 rfl rfl zl λf S=>?_;unfold ZFk at H;refine sr (mw S rfl λf S=>oe (sr (mv S rfl λf S=>ov S rfl (Zuc S [.float .f64 fv] (ZVi Zvi) rfl rfl) λf S=>ov S rfl (Zs S rfl rfl ZCk) λf S=>ov S rfl (Zuc S [.int .u64 (Zwc .u64 ((fv:Int)) (9223372036854775808:Int))] (Zqi ZOi) rfl rfl) λf S=>mw S rfl λf S=>oe (wp_ret ?_))));obtain rfl:=Zv H;refine Zqa S (ZYa rfl (ZM S rfl)) ⟨[.float .f64 ((Zwc .u64 ((fv:Int)) (9223372036854775808:Int)).toNat)],rfl,(Zda (Zfl (ZPb _ _)))⟩
theorem ZJo {d:World} {c:Zb} (hv:VIn c d) {e:List Value} {x:Nat} (i:Rep.rel (ZF .f64) c e x) {z:Nat×Int} (H:Zwj x=some z):Ret Tryz.prog 178 #[(ZF .f64).val e] d c (λy v'=>∃ g a,y = .tuple #[(ZF .f64).val g,(Zd .i64).val a]∧(ZF .f64).rel v' g z.1∧(Zd .i64).rel v' a z.2):=by
 obtain⟨rfl,a⟩:=i;refine ZKb (K:=10) (args:=[.float .f64 x]) hv Tryz.func178 rfl rfl zl λf S=>?_;unfold Zwj at H;refine sr (mw S rfl λf S=>mw S rfl λf S=>oe (Zn λ_ j=>Zn λ_ k=>bO H λl m H=>ZD (mv S rfl λf S=>opc S rfl (ZK S [.float .f64 x] Zvr rfl rfl) (Zdr S.vin (show Rep.rel (ZF .f64) _ [.float .f64 x] x from (Zda a)) m) ?_)));rintro _ q f w r ⟨s,rfl,n⟩ S;obtain⟨rfl,t⟩:=n;refine ov S rfl (ZEp S rfl rfl) λf S=>ZB (Zh (k _ _ ?_));rcases Z8 (fLt .f64 l ((4503599627370496:Nat))) with b | b
 ·have H:=Z7 H b;refine Zka S rfl b (Zn λ_ o=>bO H λp h H=>ZD (mv S rfl λf S=>ov S rfl (ZIu S rfl rfl h) λf S=>mw S rfl λf S=>mw S rfl λf S=>ZB (Zh (o _ _ (wp_ret (Z1b ?_))))));obtain rfl:=Zv H;refine Zqa S (Zsc rfl (ZM S rfl) (ZM S rfl)) ⟨[.float .f64 p],[.int .i64 (-52:Int)],rfl,(Zda (Zxe h).2),(ZI (by decide))⟩
 have H:=Zaa H b;refine ZZ S rfl b (wp_skip (Zh (j _ _ (sr (mv S rfl λf S=>mw S rfl λf S=>mw S rfl λf S=>oe (wp_ret ?_))))));obtain rfl:=Zv H;refine Zqa S (Zsc rfl (ZM S rfl) (ZM S rfl)) ⟨[.float .f64 x],[.int .i64 0],rfl,(Zda a),(ZI (by decide))⟩
theorem ZTl {e:World} {a:Zb} (hv:VIn a e) {j:List Value} {fv:Nat} (q:Rep.rel (ZF .f64) a j fv) {k:List Value} {sign:Int} (r:Rep.rel (Zd .i64) a k sign) {z:Bool} (H:ZBg fv sign=some z):Ret Tryz.prog 137 #[(ZF .f64).val j,(Zd .i64).val k] e a (λy v'=>∃ l,y=Zyb.val l∧Zyb.rel v' l z):=by
 obtain⟨rfl,m⟩:=q;obtain⟨rfl,J⟩:=r;refine ZKb (K:=15) (args:=[.float .f64 fv,.int .i64 sign]) hv Tryz.func137 rfl rfl zl λf S=>?_;unfold ZBg at H;refine sr (mw S rfl λf S=>oe (Zn λ_ s=>sr (mv S rfl λf S=>ov S rfl (Zs S rfl rfl ZMf) λf S=>oe ?_)));obtain⟨t,u,v⟩:=Z6 H;refine ZFb (λf w=>∃ b h,b=t∧Zb.le a h∧St 15 e a [(0,.float .f64 b)] [] h f w∧b<18446744073709551616) (λ_ n=>?_) ?_
 ·have H:=u;rcases Z8 (sign==(0:Int)) with c | c
  ·have H:=Z7 H c;refine Zka S rfl c (bO H λL x H=>ZD (mv S rfl λf S=>opc S rfl (ZK S [.float .f64 fv] Zvr rfl rfl) (Zdr S.vin (show Rep.rel (ZF .f64) _ [.float .f64 fv] fv from (Zda m)) x) ?_));rintro _ M f w A ⟨N,rfl,B⟩ S;obtain⟨rfl,C⟩:=B;refine mw S rfl λf S=>ZB ?_;obtain rfl:=Zv H;refine Zh (n _ _ ⟨_,_,rfl,(leT (leR _) A),(S.fr' rfl),C⟩)
  have H:=Zaa H c;refine ZZ S rfl c (sr (mv S rfl λf S=>ov S rfl (Zs S rfl rfl Z2c) λf S=>oe ?_));obtain⟨D,E,F⟩:=Z6 H;refine ZFb (λf w=>∃ g i,g=D∧Zb.le a i∧St 15 e a [(0,.float .f64 g)] [] i f w∧g<18446744073709551616) (λ_ o=>?_) ?_
  ·have H:=E;rcases Z8 (decide (sign<(0:Int))) with d | d
   ·have H:=Z7 H d;refine Zka S rfl d (bO H λO p H=>ZD (mv S rfl λf S=>ov S rfl (ZFA S rfl p) λf S=>mw S rfl λf S=>ZB ?_));obtain rfl:=Zv H;refine Zh (o _ _ ⟨_,_,rfl,(leR _),(S.fr' rfl),(Zxe p).2⟩)
   have H:=Zaa H d;refine ZZ S rfl d (wp_skip ?_);obtain rfl:=Zv H;refine Zh (o _ _ ⟨_,_,rfl,(leR _),(S.fr' rfl),m⟩)
  rintro f w ⟨g,i,hq,G,S,I⟩;subst hq;have H:=F;obtain rfl:=Zv H;refine Zh (n _ _ ⟨_,_,rfl,(leT (leR _) G),(S.fr' rfl),I⟩)
 rintro f w ⟨b,h,hq,P,S,Q⟩;subst hq;have H:=v;refine Zh (s _ _ (sr (mv S rfl λf S=>ov S rfl (run_fGt S rfl rfl) λf S=>mw S rfl λf S=>oe (wp_ret ?_))));obtain rfl:=Zv H;refine Zqa S (ZYa rfl (ZM S rfl)) ⟨[.bool (fGt .f64 b ((9218868437227405311:Nat)))],rfl,Z2h⟩
theorem Znm {b:World} {a:Zb} (hv:VIn a b) {c:List Value} {fv:Nat} (e:Rep.rel (ZF .f64) a c fv) {z:Bool} (H:Zdf fv=some z):Ret Tryz.prog 136 #[(ZF .f64).val c] b a (λy v'=>∃ d,y=Zyb.val d∧Zyb.rel v' d z):=by
 obtain⟨rfl,g⟩:=e;refine ZKb (K:=6) (args:=[.float .f64 fv]) hv Tryz.func136 rfl rfl zl λf S=>?_;unfold Zdf at H;refine sr (mw S rfl λf S=>oe (sr (mv S rfl λf S=>mv S rfl λf S=>ov S rfl (run_fNe S rfl rfl) λf S=>mw S rfl λf S=>oe (wp_ret ?_))));obtain rfl:=Zv H;refine Zqa S (ZYa rfl (ZM S rfl)) ⟨[.bool (fNe .f64 fv fv)],rfl,Z2h⟩
theorem frexp_w {j:World} {c:Zb} (hv:VIn c j) {l:List Value} {fv:Nat} (r:Rep.rel (ZF .f64) c l fv) {z:Nat×Int} (H:ZXn fv=some z):Ret Tryz.prog 168 #[(ZF .f64).val l] j c (λy v'=>∃ m a,y = .tuple #[(ZF .f64).val m,(Zd .i64).val a]∧(ZF .f64).rel v' m z.1∧(Zd .i64).rel v' a z.2):=by
 obtain⟨rfl,a⟩:=r;refine ZKb (K:=38) (args:=[.float .f64 fv]) hv Tryz.func168 rfl rfl zl λf S=>?_;unfold ZXn at H;refine sr (mw S rfl λf S=>mw S rfl λf S=>oe (Zn λ_ s=>wp_block (sr (mv S rfl λf S=>ov S rfl (Z1r S rfl rfl) λf S=>mw S rfl λf S=>oe ?_))));rcases Z8 (fEq .f64 fv ((0:Nat))) with d | d
 ·have H:=Z7 H d;refine Zka S rfl d (sr (mv S rfl λf S=>mw S rfl λf S=>mw S rfl λf S=>oe (wp_ret (Z4g (Z1b ?_)))));obtain rfl:=Zv H;refine Zqa S (Zsc rfl (ZM S rfl) (ZM S rfl)) ⟨[.float .f64 fv],[.int .i64 0],rfl,(Zda a),(ZI (by decide))⟩
 have H:=Zaa H d;refine ZZ S rfl d (Zn λ_ u=>?_);obtain⟨v,x,A⟩:=Z6 H;refine ZFb (λf w=>∃ h k,h=v∧Zb.le c k∧St 38 j c [(0,.float .f64 fv),(9,.bool h)] [] k f w) (λ_ n=>?_) ?_
 ·have H:=x;refine bO H λB C H=>ZD (mv S rfl λf S=>opc S rfl (ZK S [.float .f64 fv,.int .i64 0] ZNm rfl rfl) (ZTl S.vin (show Rep.rel (ZF .f64) _ [.float .f64 fv] fv from (Zda a)) (show Rep.rel (Zd .i64) _ [.int .i64 0] (0:Int) from (ZI (by decide))) C) ?_);rintro _ R f w o ⟨T,rfl,D⟩ S;obtain rfl:=D;refine mv S rfl λf S=>?_;rcases Z8 (B) with e | e
  ·have H:=Z7 H e;have S:=S.bool (t:=12) rfl e;refine opn S rfl rfl rfl rfl λf S=>opn S rfl rfl rfl rfl λf S=>ov S rfl (Zvc S (b:=true) rfl rfl) λf S=>mw S rfl λf S=>ZB ?_;obtain rfl:=Zv H;refine Zh (n _ _ ⟨_,_,rfl,(leT (leR _) o),(S.fr' rfl)⟩)
  have H:=Zaa H e;have S:=S.bool (t:=12) rfl e;refine bO H λU E H=>opy S rfl rfl rfl rfl (ZJ S rfl) λf S=>Zei S (ZKd S rfl rfl rfl zl) rfl zl (ZK S [.float .f64 fv] Zan rfl rfl) (Znm S.vin (show Rep.rel (ZF .f64) _ [.float .f64 fv] fv from (Zda a)) E) ?_;rintro _ V f w F ⟨W,rfl,G⟩ S;obtain rfl:=G;refine ov S rfl (Zvc S (b:=false) rfl rfl) λf S=>mw S rfl λf S=>ZB ?_;obtain rfl:=Zv H;refine Zh (n _ _ ⟨_,_,rfl,(leT (leT (leR _) o) F),(S.fr' rfl)⟩)
 rintro f w ⟨h,k,hq,X,S⟩;subst hq;have H:=A;refine Zh (u _ _ ?_);rcases Z8 (h) with g | g
 ·have H:=Z7 H g;refine Zka S rfl g (sr (mv S rfl λf S=>mw S rfl λf S=>mw S rfl λf S=>oe (wp_ret (Z4g (Z1b ?_)))));obtain rfl:=Zv H;refine Zqa S (Zsc rfl (ZM S rfl) (ZM S rfl)) ⟨[.float .f64 fv],[.int .i64 0],rfl,(Zda a),(ZI (by decide))⟩
 have H:=Zaa H g;refine ZZ S rfl g (wp_skip (Zgd (Zh (s _ _ (Zn λ_ I=>bO H λi J H=>ZD (mv S rfl λf S=>opc S rfl (ZK S [.float .f64 fv] ZNt rfl rfl) (ZJo S.vin (show Rep.rel (ZF .f64) _ [.float .f64 fv] fv from (Zda a)) J) ?_))))));rintro _ Y f w Z ⟨aa,ab,rfl,L,M⟩ S;obtain⟨rfl,ac⟩:=L;obtain⟨rfl,ad⟩:=M;refine mv S rfl λf S=>ov S rfl (Zfa S rfl rfl) λf S=>ov S rfl (Zfa S rfl rfl) λf S=>mw S rfl λf S=>mw S rfl λf S=>ZB (Zh (I _ _ (sr (mv S rfl λf S=>ov S rfl (Zuc S [.float .f64 i.1] (ZVi Zvi) rfl rfl) λf S=>mw S rfl λf S=>oe (Zn λ_ N=>bO H λae O H=>?_)))));refine bO H λaf P H=>bO H λag Q H=>bO H λp q H=>ZD (mv S rfl λf S=>mv S rfl λf S=>ov S rfl (Zs S rfl rfl (Zgo O)) λf S=>ov S rfl (Zs S rfl rfl Zyk) λf S=>ov S rfl (ZHd S rfl (ZSp _)) λf S=>ov S rfl (Zs S rfl rfl (ZIb P)) λf S=>ov S rfl (Zs S rfl rfl (ZJc Q)) λf S=>ov S rfl (Zs S rfl rfl (ZJc q)) λf S=>mw S rfl λf S=>ZB ?_);refine Zh (N _ _ (sr (mv S rfl λf S=>ov S rfl (Zs S rfl rfl ZCk) λf S=>mw S rfl λf S=>oe (sr (mv S rfl λf S=>ov S rfl (Zs S rfl rfl Zuk) λf S=>mw S rfl λf S=>?_)))));have S:=S.fr' (σ':=[(3,.int .i64 p),(4,.int .u64 (orI .u64 (Zwc .u64 ((i.1:Int)) (9218868437227405312:Int)) (4602678819172646912:Int)))]) rfl
 refine oe (sr (mv S rfl λf S=>ov S rfl (Zuc S [.int .u64 (orI .u64 (Zwc .u64 ((i.1:Int)) (9218868437227405312:Int)) (4602678819172646912:Int))] (Zqi ZOi) rfl rfl) λf S=>mw S rfl λf S=>oe (wp_ret ?_)));obtain rfl:=Zv H;refine Zqa S (Zsc rfl (ZM S rfl) (ZM S rfl)) ⟨[.float .f64 ((orI .u64 (Zwc .u64 ((i.1:Int)) (9218868437227405312:Int)) (4602678819172646912:Int)).toNat)],[.int .i64 p],rfl,(Zda (Zfl (ZPb _ _))),(ZI (Zdb q).2)⟩
theorem Frexp_w {c:World} {b:Zb} (hv:VIn b c) {d:List Value} {fv:Nat} (h:Rep.rel (ZF .f64) b d fv) {z:Nat×Int} (H:Zjn fv=some z):Ret Tryz.prog 138 #[(ZF .f64).val d] c b (λy v'=>∃ e a,y = .tuple #[(ZF .f64).val e,(Zd .i64).val a]∧(ZF .f64).rel v' e z.1∧(Zd .i64).rel v' a z.2):=by
 obtain⟨rfl,a⟩:=h;refine ZKb (K:=12) (args:=[.float .f64 fv]) hv Tryz.func138 rfl rfl zl λf S=>?_;unfold Zjn at H;refine sr (mw S rfl λf S=>mw S rfl λf S=>oe (Zn λ_ i=>ZZ S rfl rfl (wp_skip (Zh (i _ _ (Zn λ_ j=>bO H λg k H=>ZD (mv S rfl λf S=>opc S rfl (ZK S [.float .f64 fv] k_en168 rfl rfl) (frexp_w S.vin (show Rep.rel (ZF .f64) _ [.float .f64 fv] fv from (Zda a)) k) ?_)))))));rintro _ p f w q ⟨r,s,rfl,l,m⟩ S;obtain⟨rfl,n⟩:=l;obtain⟨rfl,o⟩:=m;refine ov S rfl (Zfa S rfl rfl) λf S=>ov S rfl (Zfa S rfl rfl) λf S=>mw S rfl λf S=>mw S rfl λf S=>ZB (Zh (j _ _ (wp_ret ?_)));obtain rfl:=Zv H;refine Zqa S (Zsc rfl (ZM S rfl) (ZM S rfl)) ⟨[.float .f64 g.1],[.int .i64 (g.2)],rfl,(Zda n),(ZI o)⟩
theorem ZWv {b:World} {a:Zb} (hv:VIn a b) {c:List Value} {fv:Nat} (g:Rep.rel (ZF .f64) a c fv) {d:List Value} {sign:Nat} (h:Rep.rel (ZF .f64) a d sign) {z:Nat} (H:Zeo fv sign=some z):Ret Tryz.prog 179 #[(ZF .f64).val c,(ZF .f64).val d] b a (λy v'=>∃ e,y=(ZF .f64).val e∧(ZF .f64).rel v' e z):=by
 obtain⟨rfl,i⟩:=g;obtain⟨rfl,j⟩:=h;refine ZKb (K:=13) (args:=[.float .f64 fv,.float .f64 sign]) hv Tryz.func179 rfl rfl zl λf S=>?_;unfold Zeo at H;refine sr (mw S rfl λf S=>oe (sr (mv S rfl λf S=>ov S rfl (Zuc S [.float .f64 fv] (ZVi Zvi) rfl rfl) λf S=>ov S rfl (Zs S rfl rfl ZCk) λf S=>mv S rfl λf S=>ov S rfl (Zuc S [.float .f64 sign] (ZVi Zvi) rfl rfl) λf S=>ov S rfl (Zs S rfl rfl Zyk) λf S=>ov S rfl (Zs S rfl rfl Zuk) λf S=>ov S rfl (Zuc S [.int .u64 (orI .u64 (Zwc .u64 ((fv:Int)) (9223372036854775808:Int)) (ZPa .u64 ((sign:Int)) (9223372036854775808:Int)))] (Zqi ZOi) rfl rfl) λf S=>mw S rfl λf S=>oe ?_)));refine wp_ret ?_;obtain rfl:=Zv H;refine Zqa S (ZYa rfl (ZM S rfl)) ⟨[.float .f64 ((orI .u64 (Zwc .u64 ((fv:Int)) (9223372036854775808:Int)) (ZPa .u64 ((sign:Int)) (9223372036854775808:Int))).toNat)],rfl,(Zda (Zfl (ZPb _ _)))⟩
theorem Zvu {d:World} {b:Zb} (hv:VIn b d) {g:List Value} {sign:Int} (j:Rep.rel (Zd .i64) b g sign) {z:Nat} (H:ZBk sign=some z):Ret Tryz.prog 180 #[(Zd .i64).val g] d b (λy v'=>∃ h,y=(ZF .f64).val h∧(ZF .f64).rel v' h z):=by
 obtain⟨rfl,p⟩:=j;refine ZKb (K:=8) (args:=[.int .i64 sign]) hv Tryz.func180 rfl rfl zl λf S=>?_;unfold ZBk at H;refine sr (mw S rfl λf S=>oe (sr (mw S rfl λf S=>oe (Zn λ_ k=>sr (mv S rfl λf S=>ov S rfl (Zs S rfl rfl ZEi) λf S=>oe ?_)))));obtain⟨l,m,n⟩:=Z6 H;refine ZFb (λf w=>∃ a e,a=l∧Zb.le b e∧St 8 d b [(3,.int .u64 a)] [] e f w∧inR .u64 a) (λ_ i=>?_) ?_
 ·have H:=m;rcases Z8 (decide ((0:Int)≤sign)) with c | c
  ·have H:=Z7 H c;refine Zka S rfl c (ZD (mw S rfl λf S=>ZB ?_));obtain rfl:=Zv H;refine Zh (i _ _ ⟨_,_,rfl,(leR _),(S.fr' rfl),(by decide)⟩)
  have H:=Zaa H c;refine ZZ S rfl c (ZD (mw S rfl λf S=>ZB ?_));obtain rfl:=Zv H;refine Zh (i _ _ ⟨_,_,rfl,(leR _),(S.fr' rfl),(by decide)⟩)
 rintro f w ⟨a,e,hq,q,S,o⟩;subst hq;have H:=n;refine Zh (k _ _ (sr (mv S rfl λf S=>ov S rfl (Zuc S [.int .u64 a] (Zqi ZOi) rfl rfl) λf S=>mw S rfl λf S=>oe (wp_ret ?_))));obtain rfl:=Zv H;refine Zqa S (ZYa rfl (ZM S rfl)) ⟨[.float .f64 a.toNat],rfl,(Zda (Zfl o))⟩
theorem ldexp_w {n:World} {c:Zb} (hv:VIn c n) {u:List Value} {frac:Nat} (I:Rep.rel (ZF .f64) c u frac) {v:List Value} {ex:Int} (J:Rep.rel (Zd .i64) c v ex) {z:Nat} (H:ZBn frac ex=some z):Ret Tryz.prog 170 #[(ZF .f64).val u,(Zd .i64).val v] n c (λy v'=>∃ x,y=(ZF .f64).val x∧(ZF .f64).rel v' x z):=by
 obtain⟨rfl,d⟩:=I;obtain⟨rfl,r2⟩:=J;refine ZKb (K:=63) (args:=[.float .f64 frac,.int .i64 ex]) hv Tryz.func170 rfl rfl zl λf S=>?_;unfold ZBn at H;refine sr (mw S rfl λf S=>oe (Zn λ_ L=>wp_block (sr (mv S rfl λf S=>ov S rfl (Z1r S rfl rfl) λf S=>mw S rfl λf S=>oe ?_))));rcases Z8 (fEq .f64 frac ((0:Nat))) with e | e
 ·have H:=Z7 H e;refine Zka S rfl e (sr (mv S rfl λf S=>mw S rfl λf S=>oe (wp_ret (Z4g (Z1b ?_)))));obtain rfl:=Zv H;refine Zqa S (ZYa rfl (ZM S rfl)) ⟨[.float .f64 frac],rfl,(Zda d)⟩
 have H:=Zaa H e;refine ZZ S rfl e (Zn λ_ M=>?_);obtain⟨N,O,P⟩:=Z6 H;refine ZFb (λf w=>∃ o r,o=N∧Zb.le c r∧St 63 n c [(0,.float .f64 frac),(1,.int .i64 ex),(12,.bool o)] [] r f w) (λ_ A=>?_) ?_
 ·have H:=O;refine bO H λQ R H=>ZD (mv S rfl λf S=>opc S rfl (ZK S [.float .f64 frac,.int .i64 0] ZNm rfl rfl) (ZTl S.vin (show Rep.rel (ZF .f64) _ [.float .f64 frac] frac from (Zda d)) (show Rep.rel (Zd .i64) _ [.int .i64 0] (0:Int) from (ZI (by decide))) R) ?_);rintro _ aN f w B ⟨aO,rfl,T⟩ S;obtain rfl:=T;refine mv S rfl λf S=>?_;rcases Z8 (Q) with g | g
  ·have H:=Z7 H g;have S:=S.bool (t:=15) rfl g;refine opn S rfl rfl rfl rfl λf S=>opn S rfl rfl rfl rfl λf S=>ov S rfl (Zvc S (b:=true) rfl rfl) λf S=>mw S rfl λf S=>ZB ?_;obtain rfl:=Zv H;refine Zh (A _ _ ⟨_,_,rfl,(leT (leR _) B),(S.fr' rfl)⟩)
  have H:=Zaa H g;have S:=S.bool (t:=15) rfl g;refine bO H λaP U H=>opy S rfl rfl rfl rfl (ZJ S rfl) λf S=>Zei S (ZKd S rfl rfl rfl zl) rfl zl (ZK S [.float .f64 frac] Zan rfl rfl) (Znm S.vin (show Rep.rel (ZF .f64) _ [.float .f64 frac] frac from (Zda d)) U) ?_;rintro _ aQ f w V ⟨aR,rfl,W⟩ S;obtain rfl:=W;refine ov S rfl (Zvc S (b:=false) rfl rfl) λf S=>mw S rfl λf S=>ZB ?_;obtain rfl:=Zv H;refine Zh (A _ _ ⟨_,_,rfl,(leT (leT (leR _) B) V),(S.fr' rfl)⟩)
 rintro f w ⟨o,r,hq,aS,S⟩;subst hq;have H:=P;refine Zh (M _ _ ?_);rcases Z8 (o) with h | h
 ·have H:=Z7 H h;refine Zka S rfl h (sr (mv S rfl λf S=>mw S rfl λf S=>oe (wp_ret (Z4g (Z1b ?_)))));obtain rfl:=Zv H;refine Zqa S (ZYa rfl (ZM S rfl)) ⟨[.float .f64 frac],rfl,(Zda d)⟩
 have H:=Zaa H h;refine ZZ S rfl h (wp_skip (Zgd (Zh (L _ _ (Zn λ_ X=>bO H λa Y H=>ZD (mv S rfl λf S=>opc S rfl (ZK S [.float .f64 frac] ZNt rfl rfl) (ZJo S.vin (show Rep.rel (ZF .f64) _ [.float .f64 frac] frac from (Zda d)) Y) ?_))))));rintro _ Z f w aT ⟨aU,aV,rfl,aa,ab⟩ S;obtain⟨rfl,ac⟩:=aa;obtain⟨rfl,aW⟩:=ab;refine mv S rfl λf S=>ov S rfl (Zfa S rfl rfl) λf S=>ov S rfl (Zfa S rfl rfl) λf S=>mw S rfl λf S=>mw S rfl λf S=>ZB (Zh (X _ _ (Zn λ_ ad=>bO H λaX ae H=>ZD (mv S rfl λf S=>mv S rfl λf S=>ov S rfl (Zs S rfl rfl (ZJc ae)) λf S=>mw S rfl λf S=>?_))));refine ZB (Zh (ad _ _ (sr (mv S rfl λf S=>ov S rfl (Zuc S [.float .f64 a.1] (ZVi Zvi) rfl rfl) λf S=>mw S rfl λf S=>oe (Zn λ_ af=>bO H λaY ag H=>bO H λaZ ah H=>bO H λi C H=>ZD (mv S rfl λf S=>mv S rfl λf S=>?_))))));refine ov S rfl (Zs S rfl rfl (Zgo ag)) λf S=>ov S rfl (ZHd S rfl (ZSp _)) λf S=>ov S rfl (Zs S rfl rfl Zyk) λf S=>ov S rfl (Zs S rfl rfl (ZIb ah)) λf S=>ov S rfl (Zs S rfl rfl (ZJc C)) λf S=>mw S rfl λf S=>ZB (Zh (af _ _ (Zn λ_ ai=>sr (mv S rfl λf S=>ov S rfl (Zs S rfl rfl Z2c) λf S=>oe ?_))))
 rcases Z8 (decide (i<(-1075:Int))) with j | j
 ·have H:=Z7 H j;refine Zka S rfl j (Zn λ_ aj=>bO H λD ak H=>ZD (mv S rfl λf S=>opc S rfl (ZK S [.float .f64 ((0:Nat)),.float .f64 a.1] k_en179 rfl rfl) (ZWv S.vin (show Rep.rel (ZF .f64) _ [.float .f64 ((0:Nat))] ((0:Nat)) from (Zda (by decide))) (show Rep.rel (ZF .f64) _ [.float .f64 a.1] a.1 from (Zda ac)) ak) ?_));rintro _ a0 f w a1 ⟨a2,rfl,al⟩ S;obtain⟨rfl,am⟩:=al;refine mw S rfl λf S=>ZB ?_;have S:=S.fr' (σ':=[(4,.float .f64 D)]) rfl;refine Zh (aj _ _ (wp_ret (Z1b ?_)));obtain rfl:=Zv H;refine Zqa S (ZYa rfl (ZM S rfl)) ⟨[.float .f64 D],rfl,(Zda am)⟩
 have H:=Zaa H j;refine ZZ S rfl j (wp_skip (Zh (ai _ _ (Zn λ_ an=>sr (mv S rfl λf S=>ov S rfl (Zs S rfl rfl Zqf) λf S=>?_)))));have S:=S.fr' (σ':=[(0,.float .f64 a.1),(1,.int .i64 i),(6,.int .u64 ((a.1:Int))),(42,.bool (decide ((1023:Int)<i)))]) rfl;refine oe ?_;rcases Z8 (decide ((1023:Int)<i)) with k | k
 ·have H:=Z7 H k;refine Zka S rfl k (Zn λ_ ao=>sr (mv S rfl λf S=>ov S rfl (ZEp S rfl rfl) λf S=>oe ?_));rcases Z8 (fLt .f64 a.1 ((0:Nat))) with l | l
  ·have H:=Z7 H l;refine Zka S rfl l (Zn λ_ ap=>bO H λaq ar H=>ZD (opc S rfl (ZK S [.int .i64 (-1:Int)] Zhs rfl rfl) (Zvu S.vin (show Rep.rel (Zd .i64) _ [.int .i64 (-1:Int)] (-1:Int) from (ZI (by decide))) ar) ?_));rintro _ a3 f w a4 ⟨a5,rfl,au⟩ S;obtain⟨rfl,av⟩:=au;refine mw S rfl λf S=>ZB (Zh (ap _ _ (wp_ret (Z1b (Z1b ?_)))));obtain rfl:=Zv H;refine Zqa S (ZYa rfl (ZM S rfl)) ⟨[.float .f64 aq],rfl,(Zda av)⟩
  have H:=Zaa H l;refine ZZ S rfl l (wp_skip (Zh (ao _ _ (Zn λ_ ax=>bO H λay az H=>ZD (opc S rfl (ZK S [.int .i64 1] Zhs rfl rfl) (Zvu S.vin (show Rep.rel (Zd .i64) _ [.int .i64 1] (1:Int) from (ZI (by decide))) az) ?_)))));rintro _ a6 f w a7 ⟨a8,rfl,aA⟩ S;obtain⟨rfl,aB⟩:=aA;refine mw S rfl λf S=>ZB (Zh (ax _ _ (wp_ret (Z1b ?_))));obtain rfl:=Zv H;refine Zqa S (ZYa rfl (ZM S rfl)) ⟨[.float .f64 ay],rfl,(Zda aB)⟩
 have H:=Zaa H k;refine ZZ S rfl k (wp_skip (Zh (an _ _ (sr (mw S rfl λf S=>oe (Zn λ_ aC=>sr (mv S rfl λf S=>ov S rfl (Zs S rfl rfl Z2c) λf S=>oe ?_)))))));obtain⟨aD,aE,aF⟩:=Z6 H;refine ZFb (λf w=>∃ p q s,(p,q)=aD∧Zb.le Z s∧St 63 n c [(1,.int .i64 p),(6,.int .u64 ((a.1:Int))),(7,.float .f64 q)] [] s f w∧inR .i64 p∧q<18446744073709551616) (λ_ E=>?_) ?_
 ·have H:=aE;rcases Z8 (decide (i<(-1022:Int))) with m | m
  ·have H:=Z7 H m;refine Zka S rfl m (Zn λ_ aG=>bO H λa9 F H=>ZD (mv S rfl λf S=>ov S rfl (Zs S rfl rfl (ZJc F)) λf S=>mw S rfl λf S=>ZB (Zh (aG _ _ (ZD (mw S rfl λf S=>ZB ?_))))));obtain rfl:=Zv H;refine Zh (E _ _ ⟨_,_,_,rfl,(leR _),(S.fr' rfl),(Zdb F).2,(by decide)⟩)
  have H:=Zaa H m;refine ZZ S rfl m (wp_skip ?_);obtain rfl:=Zv H;refine Zh (E _ _ ⟨_,_,_,rfl,(leR _),(S.fr' rfl),(Zdb C).2,(by decide)⟩)
 rintro f w ⟨p,q,s,hq,ba,S,bb,bc⟩;subst hq;have H:=aF;refine Zh (aC _ _ (sr (mv S rfl λf S=>ov S rfl (Zs S rfl rfl ZCk) λf S=>mw S rfl λf S=>oe (Zn λ_ aH=>bO H λbd aI H=>bO H λaJ aK H=>ZD (mv S rfl λf S=>mv S rfl λf S=>ov S rfl (Zs S rfl rfl (ZJc aI)) λf S=>ov S rfl (ZHd S rfl (ZbA _)) λf S=>?_)))));refine ov S rfl (Zs S rfl rfl (Zas aK)) λf S=>ov S rfl (Zs S rfl rfl Zuk) λf S=>mw S rfl λf S=>ZB (Zh (aH _ _ (Zn λ_ aL=>bO H λaM G H=>ZD (mv S rfl λf S=>mv S rfl λf S=>ov S rfl (Zuc S [.int .u64 (orI .u64 (Zwc .u64 ((a.1:Int)) (9218868437227405312:Int)) aJ)] (Zqi ZOi) rfl rfl) λf S=>ov S rfl (ZIu S rfl rfl G) λf S=>mw S rfl λf S=>ZB ?_))));refine Zh (aL _ _ (wp_ret ?_));obtain rfl:=Zv H;refine Zqa S (ZYa rfl (ZM S rfl)) ⟨[.float .f64 aM],rfl,(Zda (Zxe G).2)⟩
theorem Ldexp_w {b:World} {a:Zb} (hv:VIn a b) {c:List Value} {frac:Nat} (g:Rep.rel (ZF .f64) a c frac) {d:List Value} {ex:Int} (h:Rep.rel (Zd .i64) a d ex) {z:Nat} (H:Ztm frac ex=some z):Ret Tryz.prog 139 #[(ZF .f64).val c,(Zd .i64).val d] b a (λy v'=>∃ e,y=(ZF .f64).val e∧(ZF .f64).rel v' e z):=by
 obtain⟨rfl,i⟩:=g;obtain⟨rfl,j⟩:=h;refine ZKb (K:=11) (args:=[.float .f64 frac,.int .i64 ex]) hv Tryz.func139 rfl rfl zl λf S=>?_;unfold Ztm at H;refine sr (mw S rfl λf S=>oe (Zn λ_ k=>ZZ S rfl rfl (wp_skip (Zh (k _ _ (Zn λ_ l=>bO H λm n H=>ZD (mv S rfl λf S=>mv S rfl λf S=>opc S rfl (ZK S [.float .f64 frac,.int .i64 ex] k_en170 rfl rfl) (ldexp_w S.vin (show Rep.rel (ZF .f64) _ [.float .f64 frac] frac from (Zda i)) (show Rep.rel (Zd .i64) _ [.int .i64 ex] ex from (ZI j)) n) ?_)))))));rintro _ q f w r ⟨s,rfl,o⟩ S;obtain⟨rfl,p⟩:=o;refine mw S rfl λf S=>ZB (Zh (l _ _ (wp_ret ?_)));obtain rfl:=Zv H;refine Zqa S (ZYa rfl (ZM S rfl)) ⟨[.float .f64 m],rfl,(Zda p)⟩
theorem Z2z {u:World} {h:Zb} (hv:VIn h u) {D:List Value} {fv:Nat} (V:Rep.rel (ZF .f64) h D fv) {z:Rat×Int} (H:ZMe fv=some z):Ret Tryz.prog 108 #[(ZF .f64).val D] u h (λy v'=>∃ E c,y = .tuple #[ZR.val E,(Zd .i64).val c]∧ZR.rel v' E z.1∧(Zd .i64).rel v' c z.2):=by
 obtain⟨rfl,c⟩:=V;refine ZKb (K:=41) (args:=[.float .f64 fv]) hv Tryz.func108 rfl rfl zl λf S=>?_;unfold ZMe at H;refine sr (Zai S wn rfl zl (cs:=[.bool false,.slice none 0 0,.slice none 0 0]) (Zqh ZPr) λn f w S=>mw S rfl λf S=>oe (Zn λ_ W=>Zn λ_ X=>?_));obtain⟨Y,Z,aa⟩:=Z6 H;refine ZFb (λf w=>∃ o v,o=Y∧Zb.le h v∧St 41 u h [(0,.float .f64 fv),(2,.pointer (some ⟨n,0,none⟩)),(12,.bool o)] [Loc.box n 41 [.bool false,.slice none 0 0,.slice none 0 0]] v f w) (λ_ G=>?_) ?_
 ·have H:=Z;refine bO H λab ac H=>ZD (mv S rfl λf S=>opc S rfl (ZK S [.float .f64 fv] Zan rfl rfl) (Znm S.vin (show Rep.rel (ZF .f64) _ [.float .f64 fv] fv from (Zda c)) ac) ?_);rintro _ aU f w I ⟨aV,rfl,ad⟩ S;obtain rfl:=ad;refine mv S rfl λf S=>?_;rcases Z8 (ab) with i | i
  ·have H:=Z7 H i;have S:=S.bool (t:=9) rfl i;refine opn S rfl rfl rfl rfl λf S=>opn S rfl rfl rfl rfl λf S=>ov S rfl (Zvc S (b:=true) rfl rfl) λf S=>ZB ?_;obtain rfl:=Zv H;refine Zh (G _ _ ⟨_,_,rfl,(leT (leR _) I),(S.fr' rfl)⟩)
  have H:=Zaa H i;have S:=S.bool (t:=9) rfl i;refine bO H λaW ae H=>opy S rfl rfl rfl rfl (ZJ S rfl) λf S=>Zei S (ZKd S rfl rfl rfl zl) rfl zl (ZK S [.float .f64 fv,.int .i64 0] ZNm rfl rfl) (ZTl S.vin (show Rep.rel (ZF .f64) _ [.float .f64 fv] fv from (Zda c)) (show Rep.rel (Zd .i64) _ [.int .i64 0] (0:Int) from (ZI (by decide))) ae) ?_;rintro _ aX f w af ⟨aY,rfl,ag⟩ S;obtain rfl:=ag;refine ov S rfl (Zvc S (b:=false) rfl rfl) λf S=>ZB ?_;obtain rfl:=Zv H;refine Zh (G _ _ ⟨_,_,rfl,(leT (leT (leR _) I) af),(S.fr' rfl)⟩)
 rintro f w ⟨o,v,hq,aZ,S⟩;subst hq;have H:=aa;refine Zh (X _ _ ?_);rcases Z8 (o) with j | j
 ·have H:=Z7 H j;refine Zka S rfl j (sr (ov S rfl (ZYj S [] rfl (z:=.agg #[.bool false,.slice none 0 0,.slice none 0 0]) (by kernel_rfl)) λf S=>?_));obtain⟨w,ah,S⟩:=sbp S [.bool false,.slice none 0 0,.slice none 0 0] Zlf 0 0 rfl;refine ZXf wn rfl (ah rfl rfl) (mw S rfl λf S=>oe (wp_ret (Z1b ?_)));obtain rfl:=Zv H;refine Zqa S (Zsc rfl (rag3 S rfl Zlf 0 rfl rfl) (ZM S rfl)) ⟨[.bool false,.slice none 0 0,.slice none 0 0],[.int .i64 1],rfl,(Zrq _),(ZI (by decide))⟩
 have H:=Zaa H j;refine ZZ S rfl j (wp_skip (Zh (W _ _ (Zn λ_ ai=>bO H λx aj H=>ZD (mv S rfl λf S=>opc S rfl (ZK S [.float .f64 fv] k_en138 rfl rfl) (Frexp_w S.vin (show Rep.rel (ZF .f64) _ [.float .f64 fv] fv from (Zda c)) aj) ?_)))));rintro _ a0 f w a1 ⟨a2,a3,rfl,ak,al⟩ S;obtain⟨rfl,am⟩:=ak;obtain⟨rfl,a4⟩:=al;refine mv S rfl λf S=>ov S rfl (Zfa S rfl rfl) λf S=>ov S rfl (Zfa S rfl rfl) λf S=>mw S rfl λf S=>mw S rfl λf S=>ZB (Zh (ai _ _ (Zn λ_ an=>bO H λa5 ao H=>bO H λA J H=>bO H λB ap H=>ZD (mv S rfl λf S=>opc S rfl (ZK S [.float .f64 x.1,.int .i64 53] k_en139 rfl rfl) (Ldexp_w S.vin (show Rep.rel (ZF .f64) _ [.float .f64 x.1] x.1 from (Zda am)) (show Rep.rel (Zd .i64) _ [.int .i64 53] (53:Int) from (ZI (by decide))) ao) ?_))));rintro _ a6 f w a7 ⟨a8,rfl,aq⟩ S;obtain⟨rfl,a9⟩:=aq;refine ov S rfl (ZHd S rfl (conv_fI Tryz.underlying197 Tryz.underlying2 J)) λf S=>opc S rfl (ZK S [.int .i64 A] k_en31 rfl rfl) (of_c S.vin (show Rep.rel (Zd .i64) _ [.int .i64 A] A from (ZI (Zkv J))) ap) ?_;rintro _ ba f w bb ⟨bc,rfl,k⟩ S;obtain⟨l,d,e,g,rfl⟩:=ZDg k;refine Zai S wn rfl zl (cs:=[.bool false,.slice none 0 0]) (Zqh k_zv39) λbd f w S=>?_
 obtain⟨w,ar,S⟩:=sbp S [.bool l,.slice d e g] Z7k 0 0 rfl;refine ZXf wn rfl (ar rfl rfl) (ZB (Zh (an _ _ (Zn λ_ au=>Zn λ_ av=>bO H λa L H=>ZD (mv S rfl λf S=>ov S rfl (Zs S rfl rfl (ZIb L)) λf S=>mw S rfl λf S=>ZB (Zh (av _ _ (sr (mv S rfl λf S=>?_)))))))));refine ov S rfl (Zs S rfl rfl ZEi) λf S=>oe ?_;rcases Z8 (decide ((0:Int)≤a)) with m | m
 ·have H:=Z7 H m;refine Zka S rfl m (Zn λ_ ax=>bO H λbe ay H=>bO H λbf az H=>Zgf (fl:=#[true,true,true,true,true,false,false,true,false,false]) Z2i (by kernel_rfl) S ?_);intro ops O F w S;refine rfa O F 0 rfl rfl S (ZHj S rfl ZPp) λf S=>?_;obtain⟨rfl,aA⟩:=Zds k;refine rfa O F 1 rfl rfl S (lo S rfl k_sz4 0 rfl rfl) λf S=>rfa O F 2 rfl rfl S (ZHj S rfl ZRz) λf S=>rfa O F 3 rfl rfl S (lo S rfl k_sz37 0 rfl rfl) λf S=>rfa O F 4 rfl rfl S (ZJ S rfl) λf S=>go1 O F 5 (nxc [3,4,2] [0,1] O rfl S rfl (ZK S [.slice d e g,.int .i64 a] ZJj rfl rfl) (ZUk S.vin aA (show Rep.rel (Zd .i64) _ [.int .i64 a] a from (ZI (Zdb L).2)) ay) ?_);rintro _ bg f w bh ⟨bi,rfl,M⟩ S;obtain⟨aB,aC,aD,rfl⟩:=ZKa M;refine⟨(py S rfl rfl (ZHj S rfl ZPp) (py S rfl rfl (lo S rfl k_sz4 0 rfl rfl) Z4a)),go1 O F 6 (nxc [1,5,0,3,4,2] [] O rfl S rfl (ZK S [.bool (decide (B<0)),.slice aB aC aD] k_en62 rfl rfl) (whole_c S.vin (show Rep.rel Zyb _ [.bool (decide (B<0))] (decide (B<0)) from Z2h) M az) ?_)⟩;rintro _ bj f w bk ⟨bm,rfl,N⟩ S;obtain⟨p,q,r,s,rfl⟩:=ZDg N;refine⟨Z4a,rfa O F 7 rfl rfl S (ZYj S [(0,.agg #[.bool p,.slice q r s])] rfl (z:=.agg #[.bool p,.slice q r s,.slice none 0 0]) (by kernel_rfl)) λf S=>go1 O F 8 ?_⟩
  obtain⟨w,aE,S⟩:=sbp S [.bool p,.slice q r s,.slice none 0 0] Zlf 0 1 rfl;refine nxs [0,1,2,3,4,5,6,7] [] O rfl rfl (aE rfl rfl) (⟨Z4a,go1 O F 9 (nva [0,1,2,3,4,5,6,7,8] [] O rfl rfl S (Z6c S rfl) λf S=>⟨Z4a,fin1 O F ?_⟩)⟩);have S:=S.fr' (σ':=[(2,.pointer (some ⟨n,0,none⟩)),(3,.int .i64 0)]) rfl;refine Zh (ax _ _ (wp_ret (Z1b (bO H λbn aF H=>?_))));have aG:=ZAp N (ZNg _) aF;obtain rfl:=Zv H;refine Zqa S (Zsc rfl (rag3 S rfl Zlf 1 rfl rfl) (ZM S rfl)) ⟨[.bool p,.slice q r s,.slice none 0 0],[.int .i64 0],rfl,aG,(ZI (by decide))⟩
 have H:=Zaa H m;refine ZZ S rfl m (wp_skip (Zh (au _ _ (Zn λ_ aH=>bO H λbo aI H=>bO H λbp aJ H=>bO H λbq aK H=>Zgf (fl:=#[true,false,true,true,false,false,false,false]) Z2i (by kernel_rfl) S ?_))));intro ops O F w S;refine rfa O F 0 rfl rfl S (la S (cs:=[.bool l,.slice d e g]) rfl Z7k 0 rfl rfl rfl) λf S=>rfa O F 2 rfl rfl S (ZJ S rfl) λf S=>rfa O F 3 rfl rfl S (Zxn S rfl) λf S=>go1 O F 1 (nxc [] [0,2,3] O rfl S rfl (ZK S [.int .u64 1] Zyq rfl rfl) (ZCr S.vin (show Rep.rel (Zd .u64) _ [.int .u64 1] (1:Int) from (ZI (by decide))) aI) ?_);rintro _ br f w aL ⟨bs,rfl,P⟩ S;obtain⟨aM,aN,aO,rfl⟩:=ZKa P;refine⟨(py S rfl rfl (la S (cs:=[.bool l,.slice d e g]) rfl Z7k 0 rfl rfl rfl) (py S rfl rfl (ZJ S rfl) (py S rfl rfl (Zxn S rfl) Z4a))),go1 O F 4 (nxc [1,3,2] [0] O rfl S rfl (ZK S [.slice aM aN aO,.int .i64 (IntKind.i64.wrap (-a))] ZJj rfl rfl) (ZUk S.vin P (show Rep.rel (Zd .i64) _ [.int .i64 (IntKind.i64.wrap (-a))] (IntKind.i64.wrap (-a)) from (ZI (ZPb _ _))) aJ) ?_)⟩;rintro _ bt f w aP ⟨bu,rfl,Q⟩ S;obtain⟨aQ,aR,aS,rfl⟩:=ZKa Q;refine⟨(py S rfl rfl (la S (cs:=[.bool l,.slice d e g]) rfl Z7k 0 rfl rfl rfl) Z4a),go1 O F 5 ?_⟩;have k:=ZSa (leT aL aP) k
 refine nxc [0,4,1,3,2] [] O rfl S rfl (ZK S [.agg #[.bool l,.slice d e g],.slice aQ aR aS] k_en37 rfl rfl) (over_c S.vin k Q aK) ?_;rintro _ bv f w bw ⟨bx,rfl,C⟩ S;obtain⟨R,T,U,rfl⟩:=len3 ZR C;refine⟨Z4a,go1 O F 6 ?_⟩;obtain⟨w,aT,S⟩:=sba S (cs:=[R,T,U]) Zlf 0 1 rfl (Rflat ZR C);refine nxs [0,1,2,3,4,5] [] O rfl rfl (aT rfl rfl) (⟨Z4a,go1 O F 7 (nva [0,1,2,3,4,5,6] [] O rfl rfl S (Z6c S rfl) λf S=>⟨Z4a,fin1 O F ?_⟩)⟩);have S:=S.fr' (σ':=[(2,.pointer (some ⟨n,0,none⟩)),(3,.int .i64 0)]) rfl;refine Zh (aH _ _ (wp_ret ?_));obtain rfl:=Zv H;refine Zqa S (Zsc rfl (rag3 S rfl Zlf 1 rfl rfl) (ZM S rfl)) ⟨[R,T,U],[.int .i64 0],rfl,C,(ZI (by decide))⟩
set_option maxRecDepth 1000000
set_option maxRecDepth 100000
theorem d_sw:FloatKind.f64.format.signWeight=9223372036854775808:=by decide
theorem d_bi:FloatKind.f64.format.binade=4503599627370496:=by decide
theorem d_in:FloatKind.f64.format.infRung=9218868437227405312:=by decide
theorem d_lp:FloatKind.f64.format.leastPlace = -1074:=by decide
section
variable {s:Bool} {E M:Nat}
end
section
variable {s:Bool} {E M:Nat} (h1:1≤E) (h2:E≤2046) (h3:M<4503599627370496)
include h1 h2 h3
end
section
variable {s:Bool} {M:Nat} (h3:M<4503599627370496)
include h3
end
section
variable {s:Bool} {E M:Nat} (h1:1≤E) (h2:E≤2046) (h3:M<4503599627370496)
include h1 h2 h3
end
section
variable {m L:Nat} (h0:m≠0) (hL:m.log2=L) (h23:L≤23)
include h0 hL h23
end
theorem Ziv {r:Nat} (h:ZOf r):∃ g f,FloatKind.f64.format.read r = .nan g f:=by
 obtain⟨_,h2⟩:=h;unfold Ieee.Format.read;simp only[d_sw,d_bi,d_in,d_lp];rw[iN (by omega),iN (by omega),iN (by omega)];exact⟨_,_,rfl⟩
theorem ZFm {r:Nat} (h:ZOf r):ZMe r=some (0,1):=by
 obtain⟨g,f,hr⟩:=Ziv h;have hn:Zdf r=some true:=by
  unfold Zdf fNe Ieee.Format.order;rw[hr];rfl
 unfold ZMe;rw[hn,Za,Ze,Za,Ze]
theorem ZWy (g:Bool):ZMe (FloatKind.f64.encode (.infinity g))=some (0,1):=by
 have h1:∀ g,Zdf (FloatKind.f64.encode (.infinity g))=some false∧ZBg (FloatKind.f64.encode (.infinity g)) 0=some true:=by
  intro g
  cases g
  ·decide +kernel
  ·decide +kernel
 obtain⟨a,b⟩:=h1 g;unfold ZMe;rw[a,Za,Zf,b,Za,Za,Ze]
theorem Zqu:ZOf canon64:=⟨by decide,by decide⟩
theorem ZIw {y r:Nat} {z:Rat×Int} (h:as64 y r) (e:ZMe y=some z):ZMe r=some z:=by
 rcases h with rfl | ⟨rfl,h | ⟨g,rfl⟩⟩
 ·exact e
 ·rw[ZFm h,← e,ZFm Zqu]
 ·rw[ZWy,← e,ZFm Zqu]
end Go.Eng
namespace Go.Eng
open Go.Proofs Go.RowKit
theorem Z2x {d:World} {a:Zb} (hv:VIn a d) {e:List Value} {fv:Nat} (k:Rep.rel (ZF .f32) a e fv) {z:Rat×Int} (H:Zcj fv=some z):Ret Tryz.prog 76 #[(ZF .f32).val e] d a (λy v'=>∃ g b,y = .tuple #[ZR.val g,(Zd .i64).val b]∧ZR.rel v' g z.1∧(Zd .i64).rel v' b z.2):=by
 obtain⟨rfl,b⟩:=k;refine ZKb (K:=9) (args:=[.float .f32 fv]) hv Tryz.func76 rfl rfl zl λf S=>?_;unfold Zcj at H;refine sr (Zai S wn rfl zl (cs:=[.bool false,.slice none 0 0,.slice none 0 0]) (Zqh ZPr) λs f w S=>mw S rfl λf S=>oe (Zn λ_ l=>bO H λt m H=>bO H λn o H=>ZD (mv S rfl λf S=>ovn S rfl Tryz.underlying84 Tryz.underlying197 m λyr asr ltr f w S=>opc S rfl (ZK S [.float .f64 yr] k_en108 rfl rfl) (Z2z S.vin (show Rep.rel (ZF .f64) _ [.float .f64 yr] yr from (Zda ltr)) (ZIw asr o)) ?_)));rintro _ u f w v ⟨x,A,rfl,c,p⟩ S;obtain⟨h,i,j,rfl⟩:=len3 ZR c;obtain⟨rfl,q⟩:=p;refine ov S rfl (Zfa S rfl rfl) λf S=>ov S rfl (Zfa S rfl rfl) λf S=>?_;obtain⟨w,r,S⟩:=sba S (cs:=[h,i,j]) Zlf 0 0 rfl (Rflat ZR c);refine ZXf wn rfl (r rfl rfl) (mw S rfl λf S=>ZB (Zh (l _ _ (wp_ret ?_))));obtain rfl:=Zv H;refine Zqa S (Zsc rfl (rag3 S rfl Zlf 0 rfl rfl) (ZM S rfl)) ⟨[h,i,j],[.int .i64 (n.2)],rfl,c,(ZI q)⟩
noncomputable def Zwm:FuncId×Con:=(76,⟨[.flt .f32],[.leaf 3,.int .i64],λp=>Zcj p⟩)
theorem ZQw:ZXd Tryz.prog Zwm.1 Zwm.2:=λw v vals x z hv ha hz=>by
 obtain⟨c0,e0,p0⟩:=ha;subst e0
 exact .inl ⟨λ_ _=>by kernel_rfl,Ret.mono (Z2x hv p0 hz) λy v' _ ⟨r0,r1,e,h0,h1⟩=>⟨_,e,r0,_,rfl,h0,r1,rfl,h1⟩⟩
noncomputable def ZFs:FuncId×Con:=(54,⟨[.slice (.pair (.flt .f32) (.flt .f32))],[.slice (.pair (.leaf 3) (.leaf 3)),.int .i64],λp=>ZIr p⟩)
theorem rise_k:KQ ZFs:=Zy (Zya (C:=cf0 [Zye,ZOc,Zwm] [] [] []) (.n (.two (.f (.j [0] [] [.s 19 (.dat .bool)] .no)) (.n (.n (.f (.n (.cut ⟨⟨[],[],[]⟩,[(.norm,⟨[],[],[.s 4 (.own 156 (.pair (.leaf 3) (.leaf 3))),.s 5 (.dat (.int .i64))]⟩),(.ret,⟨[],[],[.s 1000 (.dat (.slice (.pair (.leaf 3) (.leaf 3)))),.s 1001 (.dat (.int .i64))]⟩)]⟩ (.f (.cut ⟨⟨[20,21],[],[.s 4 (.own 156 (.pair (.leaf 3) (.leaf 3))),.s 22 (.dat (.int .i64)),.s 5 (.dat (.int .i64))]⟩,[(.ret,⟨[],[],[.s 1000 (.dat (.slice (.pair (.leaf 3) (.leaf 3)))),.s 1001 (.dat (.int .i64))]⟩),(.exit 0,⟨[],[],[.s 4 (.own 156 (.pair (.leaf 3) (.leaf 3))),.s 5 (.dat (.int .i64))]⟩)]⟩ (.f (.n (.n (.f (.f (.n (.n (.n (.two (.f (.two (.j [4,5,6,8,10,20,21,22] [] [.s 39 (.dat .bool)] .no) (.n (.f (.j [4,5,6,8,10,20,21,22] [] [.s 51 (.dat .bool)] .no))))) (.n (.n (.j [4,20,21,22] [] [.s 5 (.dat (.int .i64))] .no))))))))))))))))))))) Tryz.func54 [] (λ_=>by kernel_rfl) ⟨Z8e,Z9c,ZQw,tr⟩)
noncomputable def ZEu:FuncId×Con:=(79,⟨[.pair (.leaf 3) (.leaf 3),.pair (.leaf 3) (.leaf 3)],[.leaf 3],λp=>Z7p p.1 p.2⟩)
theorem ZYx:KQ ZEu:=Zy (Zya (C:=cf0 [ZCe,Z3e] [] [] []) (.n (.f (.j [4] [] [.s 5 (.box 41 (.dat (.leaf 3)))] .no))) Tryz.func79 [] (λ_=>by kernel_rfl) ⟨ZJf,Z5f,tr⟩)
noncomputable def ZFp:FuncId×Con:=(55,⟨[.slice (.pair (.leaf 3) (.leaf 3)),.leaf 3],[.leaf 3,.int .i64],λp=>Z9p p.1 p.2⟩)
theorem reach_k:KQ ZFp:=Zy (Zya (C:=cf0 [Zmf,ZCe,Z3e,ZEu,Zye] [] [] []) (.n (.n (.n (.n (.f (.j [4,7] [] [.s 8 (.box 41 (.dat (.leaf 3)))] .no)))))) Tryz.func55 [(77,Tryz.f77,.r [] [] [.s 1000 (.dat (.int .i64))] (.n (.f (.n (.cut ⟨⟨[],[],[]⟩,[(.norm,⟨[],[],[]⟩),(.ret,⟨[],[],[.s 1000 (.dat (.int .i64))]⟩)]⟩ (.f (.cut ⟨⟨[0,1,7],[],[.s 8 (.dat (.int .i64))]⟩,[(.ret,⟨[],[],[.s 1000 (.dat (.int .i64))]⟩),(.exit 0,⟨[],[],[]⟩)]⟩ .no))))))),(78,Tryz.f78,.r [] [] [.s 1000 (.dat .bool)] .no)] (λ_=>by kernel_rfl) ⟨ZYf,ZJf,Z5f,ZYx,Z8e,tr⟩ tr tr ⟨⟨Tryz.func77,λ_ _=>by kernel_rfl⟩,⟨Tryz.func78,λ_ _=>by kernel_rfl⟩,tr⟩)
noncomputable def Zcu:FuncId×Con:=(25,⟨[.slice (.pair (.flt .f32) (.flt .f32)),.leaf 3],[.leaf 3,.int .i64],λp=>Zzq p.1 p.2⟩)
theorem Reach_k:KQ Zcu:=Zy (Zya (C:=cf0 [ZFs,ZFp] [] [] []) .no Tryz.func25 [] (λ_=>by kernel_rfl) ⟨rise_k,reach_k,tr⟩)
theorem ZXv {r:World} {d:Zb} (hv:VIn d r) {D:List Value} {n:Int} (L:Rep.rel (Zd .u64) d D n) {z:(List UInt8)} (H:Zik n=some z):Ret Tryz.prog 81 #[(Zd .u64).val D] r d (λy v'=>∃ E,y=Zmb.val E∧Zmb.rel v' E z):=by
 obtain⟨rfl,M⟩:=L;refine ZKb (K:=20) (args:=[.int .u64 n]) hv Tryz.func81 rfl rfl zl λf S=>?_;unfold Zik at H;refine sr (mw S rfl λf S=>oe (sr (Zai S wn rfl zl (cs:=[.int .u8 0,.int .u8 0,.int .u8 0,.int .u8 0,.int .u8 0,.int .u8 0,.int .u8 0,.int .u8 0,.int .u8 0,.int .u8 0,.int .u8 0,.int .u8 0,.int .u8 0,.int .u8 0,.int .u8 0,.int .u8 0,.int .u8 0,.int .u8 0,.int .u8 0,.int .u8 0]) (Zqh k_zv198) λs f w S=>?_)));have S:=S.boxOwn 1 20 rfl zl;have N:Rep.rels (Zd .u8) d [.int .u8 0,.int .u8 0,.int .u8 0,.int .u8 0,.int .u8 0,.int .u8 0,.int .u8 0,.int .u8 0,.int .u8 0,.int .u8 0,.int .u8 0,.int .u8 0,.int .u8 0,.int .u8 0,.int .u8 0,.int .u8 0,.int .u8 0,.int .u8 0,.int .u8 0,.int .u8 0] (List.replicate 20 (0:Int)):=ZTh (show Rep.rel (Zd .u8) _ [Value.int .u8 0] 0 from ⟨rfl,by decide⟩) 20;refine oe (sr (mw S rfl λf S=>oe (Zn λ_ O=>?_)));obtain⟨P,Q,R⟩:=Z6 H;refine ZFb (λf w=>∃ l m B t,(l,m)=P∧Zb.le d t∧St 20 r d [(3,.pointer (some ⟨s,0,none⟩)),(4,.int .i64 m)] [Loc.own (some s) 198 1 20 20 B] t f w∧Rep.rels (Zd .u8) t B l∧20=l.length∧inR .i64 m) (λ_ T=>?_) ?_
 ·have H:=Q;refine wp_block ?_;obtain⟨ak,U,V⟩:=Z6 H;refine Zse U (λW f w=>∃ h o u b k,(h,o,u)=W∧Zb.le d k∧St 20 r d [(0,.int .u64 o),(3,.pointer (some ⟨s,0,none⟩)),(4,.int .i64 u)] [Loc.own (some s) 198 1 20 20 b] k f w∧Rep.rels (Zd .u8) k b h∧20=h.length∧inR .u64 o∧inR .i64 u) ⟨_,_,_,[.int .u8 0,.int .u8 0,.int .u8 0,.int .u8 0,.int .u8 0,.int .u8 0,.int .u8 0,.int .u8 0,.int .u8 0,.int .u8 0,.int .u8 0,.int .u8 0,.int .u8 0,.int .u8 0,.int .u8 0,.int .u8 0,.int .u8 0,.int .u8 0,.int .u8 0,.int .u8 0],_,rfl,(leR _),(S.fr' rfl),N,(List.length_replicate (n:=20) (a:=(0:Int))).symm,M,(by decide)⟩ ?_;rintro _ f w st ⟨h,o,u,b,k,hq,F,S,C,v,al,X⟩ H am Y Z;subst hq;refine Zn λ_ aa=>sr (mv S rfl λf S=>ov S rfl (Zs S rfl rfl Zqf) λf S=>oe ?_);rcases Z8 (decide ((0:Int)<o)) with p | p
  ·have H:=Z7 H p;refine Zka S rfl p (wp_skip (Zh (aa _ _ (Zn λ_ ab=>wp_block (Zn λ_ ac=>bO H λe G H=>ZD (mv S rfl λf S=>ov S rfl (Zs S rfl rfl (ZIb G)) λf S=>mw S rfl λf S=>ZB (Zh (ac _ _ (bO H λg ad H=>?_)))))))));refine bO H λan q H=>ZD (mv S rfl λf S=>mv S rfl λf S=>ov S rfl (Zs S rfl rfl (Zps ad)) λf S=>ov S rfl (Zs S rfl rfl ZZm) λf S=>ov S rfl (ZHd S rfl (ZKx _)) λf S=>?_);have I:=Z1a C (Zp q).2.1;obtain⟨ao,ae⟩:∃ c,(List.take (Zd .u8).n (List.drop ((e).toNat*(Zd .u8).n) b))=c:=⟨_,rfl⟩;rw[ae]at I;obtain⟨rfl,ap⟩:=I;refine ov S rfl (Zys S Zzt rfl rfl (Zp q).1 (ltI v (Zp q).2.2.1)) λf S=>?_;obtain⟨w,af,S⟩:=ZQd S k_sz5 (off:=0+(e).toNat*1) (z:=.int .u8 (IntKind.u8.wrap (IntKind.u64.wrap ((48:Int)+g)))) (cs:=[.int .u8 (IntKind.u8.wrap (IntKind.u64.wrap ((48:Int)+g)))]) (ZId rfl) rfl (i:=0) rfl (Zri S (j:=0) rfl (ltN v (Zp q).2.2.2)) (by first | rfl | simp[plain]);have ag:Rep.rels (Zd .u8) k (List.take (0+(e).toNat*1) b++[Value.int IntKind.u8 (IntKind.u8.wrap (IntKind.u64.wrap ((48:Int)+g)))]++List.drop (0+(e).toNat*1+1) b) (h.set (e).toNat (IntKind.u8.wrap (IntKind.u64.wrap ((48:Int)+g)))):=Zyh C (Zp q).2.2.2 (show Rep.rel (Zd .u8) k [.int .u8 (IntKind.u8.wrap (IntKind.u64.wrap ((48:Int)+g)))] _ from (ZI (ZPb _ _))) rfl rfl
   have ah:20=(h.set (e).toNat (IntKind.u8.wrap (IntKind.u64.wrap ((48:Int)+g)))).length:=setN v;refine ZXf wn rfl (af rfl rfl) (ZB (Zgd (Zh (ab _ _ (bO H λaq J H=>ZD (mv S rfl λf S=>ov S rfl (Zs S rfl rfl (ZYo J)) λf S=>mw S rfl λf S=>ZB ?_))))));obtain rfl:=Zv H;refine Y _ rfl _ _ ⟨_,_,_,(List.take (0+(e).toNat*1) b++[Value.int IntKind.u8 (IntKind.u8.wrap (IntKind.u64.wrap ((48:Int)+g)))]++List.drop (0+(e).toNat*1+1) b),_,rfl,F,(S.fr' rfl),ag,ah,(Zpu J),(Zdb G).2⟩
  have H:=Zaa H p;refine ZZ S rfl p (wp_exit (Zxb ?_));obtain rfl:=Zv H;have hq:=Z _ rfl;subst hq;have H:=V;refine Zxb (Z3d ?_);obtain rfl:=Zv H;refine Zh (T _ _ ⟨_,_,b,_,rfl,(leT (leR _) F),(S.fr' rfl),C,v,X⟩)
 rintro f w ⟨l,m,B,t,hq,ar,S,ai,x,au⟩;subst hq;have H:=R;refine Zh (O _ _ (Zn λ_ aj=>bO H λav A H=>ZD (mv S rfl λf S=>ov S rfl (ZaA S Zzt rfl rfl (Zog A).1 (by have:=(Zog A).2.1;have:=x;omega)) λf S=>ov S rfl (ZkA S (j:=0) rfl ai x (by have:=(Zog A).2.1;have:=(Zog A).1;have:=x;omega) rfl Tryz.underlying166 Tryz.underlying5 Tryz.underlying9) λf S=>mw S rfl λf S=>ZB (Zh (aj _ _ (wp_ret ?_))))));obtain rfl:=Zv H;refine Zqa S (ZYa rfl (ZM S rfl)) ⟨[.string (ZA ((Zce (l.drop ((m).toNat)))))],rfl,(Zfj (by have:=x;simp only[ZYv,List.length_drop];unfold maxLen;omega))⟩
theorem Z4u {b:World} {a:Zb} (hv:VIn a b) {c:List Value} {n:Int} (d:Rep.rel (Zd .u64) a c n) {z:(List UInt8)} (hm:Zzg n=some z) :
  Ret Tryz.prog 81 #[(Zd .u64).val c] b a (λy v'=>∃ e,y=Zmb.val e∧Zmb.rel v' e z) :=
 ZXv hv d (Zlx d.2 hm)
end Go.Eng
namespace Go.Proofs
open Go.Shelf
def Tryz.lays105_ren:Go.Shelf.Ren:=⟨fun | 105=>82 | 212=>110 | 99=>111 | 165=>112 | 166=>83 | 170=>113 | 169=>84 | 263=>140 | 264=>68 | 206=>141 | 240=>114 | 241=>142 | 276=>143 | 277=>171 | n=>n,fun | 9=>9 | 3=>3 | 4=>4 | 20=>20 | 0=>0 | 46=>190 | 109=>199 | 5=>5 | 72=>168 | 76=>171 | 51=>175 | 146=>229 | 53=>139 | 148=>144 | 70=>165 | 37=>166 | 75=>170 | 127=>203 | 164=>231 | 80=>88 | n=>n,fun | n=>n⟩
theorem Tryz.lays105:Go.Proofs.Lays.n105 Tryz.prog Tryz.lays105_ren:={
 mixed:=by kernel_rfl
 f99:=Tryz.func111.trans (congrArg some (by kernel_rfl))
 f105:=Tryz.func82.trans (congrArg some (by kernel_rfl))
 f165:=Tryz.func112.trans (congrArg some (by kernel_rfl))
 f166:=Tryz.func83.trans (congrArg some (by kernel_rfl))
 f169:=Tryz.func84.trans (congrArg some (by kernel_rfl))
 f170:=Tryz.func113.trans (congrArg some (by kernel_rfl))
 f206:=Tryz.func141.trans (congrArg some (by kernel_rfl))
 f212:=Tryz.func110.trans (congrArg some (by kernel_rfl))
 f240:=Tryz.func114.trans (congrArg some (by kernel_rfl))
 f241:=Tryz.func142.trans (congrArg some (by kernel_rfl))
 f263:=Tryz.func140.trans (congrArg some (by kernel_rfl))
 f264:=Tryz.func68.trans (congrArg some (by kernel_rfl))
 f276:=Tryz.func143.trans (congrArg some (by kernel_rfl))
 f277:=Tryz.func171.trans (congrArg some (by kernel_rfl))
 t0:=Tryz.underlying0
 a0:=Tryz.isAgg0
 z0:=Tryz.sizeOf0
 v0:=Tryz.zeroValue0
 t3:=Tryz.underlying3
 a3:=Tryz.isAgg3
 z3:=Tryz.sizeOf3
 v3:=Tryz.zeroValue3
 t4:=Tryz.underlying4
 a4:=Tryz.isAgg4
 z4:=Tryz.sizeOf4
 v4:=Tryz.zeroValue4
 t5:=Tryz.underlying5
 a5:=Tryz.isAgg5
 z5:=Tryz.sizeOf5
 v5:=Tryz.zeroValue5
 t9:=Tryz.underlying9
 a9:=Tryz.isAgg9
 z9:=Tryz.sizeOf9
 v9:=Tryz.zeroValue9
 t20:=Tryz.underlying20
 a20:=Tryz.isAgg20
 z20:=Tryz.sizeOf20
 v20:=Tryz.zeroValue20
 t37:=Tryz.underlying166
 a37:=Tryz.isAgg166
 z37:=Tryz.sizeOf166
 v37:=Tryz.zeroValue166
 t46:=Tryz.underlying190
 a46:=Tryz.isAgg190
 z46:=Tryz.sizeOf190
 v46:=Tryz.zeroValue190
 t51:=Tryz.underlying175
 a51:=Tryz.isAgg175
 z51:=Tryz.sizeOf175
 v51:=Tryz.zeroValue175
 t53:=Tryz.underlying139
 a53:=Tryz.isAgg139
 z53:=Tryz.sizeOf139
 v53:=Tryz.zeroValue139
 t70:=Tryz.underlying165
 a70:=Tryz.isAgg165
 z70:=Tryz.sizeOf165
 v70:=Tryz.zeroValue165
 t72:=Tryz.underlying168
 a72:=Tryz.isAgg168
 z72:=Tryz.sizeOf168
 v72:=Tryz.zeroValue168
 t75:=Tryz.underlying170
 a75:=Tryz.isAgg170
 z75:=Tryz.sizeOf170
 v75:=Tryz.zeroValue170
 t76:=Tryz.underlying171
 a76:=Tryz.isAgg171
 z76:=Tryz.sizeOf171
 v76:=Tryz.zeroValue171
 t109:=Tryz.underlying199
 a109:=Tryz.isAgg199
 z109:=Tryz.sizeOf199
 v109:=Tryz.zeroValue199
 t127:=Tryz.underlying203
 a127:=Tryz.isAgg203
 z127:=Tryz.sizeOf203
 v127:=Tryz.zeroValue203
 t146:=Tryz.underlying229
 a146:=Tryz.isAgg229
 z146:=Tryz.sizeOf229
 v146:=Tryz.zeroValue229
 t148:=Tryz.underlying144
 a148:=Tryz.isAgg144
 z148:=Tryz.sizeOf144
 v148:=Tryz.zeroValue144
 t164:=Tryz.underlying231
 a164:=Tryz.isAgg231
 z164:=Tryz.sizeOf231
 v164:=Tryz.zeroValue231 }
theorem Tryz.Builder_Extra_105:Builder.Extra Tryz.prog Tryz.lays105_ren:={
 sizeBuilder:=by kernel_rfl
 liesBuilder:=by kernel_rfl
 t5:=Tryz.underlying5
 a5:=Tryz.isAgg5
 z5:=Tryz.sizeOf5
 v5:=Tryz.zeroValue5
 infoByte:=by kernel_rfl
 cellsByte:=by kernel_rfl
 sizeByte:=by kernel_rfl
 neB5:=by decide }
end Go.Proofs
namespace Go.Eng
open Go.Proofs Go.RowKit Go.Shelf
theorem writes:ZLq Tryz.prog 83 168 5:=λB b bs s w h hl hB=>Any.Builder_WriteString { Tryz.lays105 with } Tryz.Builder_Extra_105 B b bs s w h hl hB
theorem tells:Tells Tryz.prog 84 168 5:=λB b l w h hB=>Any.Builder_String_any { Tryz.lays105 with } Tryz.Builder_Extra_105 B b l w h hB
end Go.Eng
namespace Go.Eng
open Go.Proofs Go.RowKit
theorem ZVv (l:List UInt8) (c:Nat):Lib.repeatL l c=(List.replicate c l).flatten:=by
 induction c with
 | zero=>rfl
 | succ c ih=>simp[Lib.repeatL,List.replicate_succ,ih]
theorem ZAA {b:World} {a:Zb} (hv:VIn a b) {f:List Value} {s:List UInt8} (k:Rep.rel Zmb a f s) {g:List Value} {c:Int} (l:Rep.rel (Zd .i64) a g c) {z:List UInt8} (hm:Zgh s c=some z) :
  Ret Tryz.prog 82 #[Zmb.val f,(Zd .i64).val g] b a (λy v'=>∃ h,y=Zmb.val h∧Zmb.rel v' h z):=by
 obtain⟨rfl,hs⟩:=k;obtain⟨rfl,hc⟩:=l;unfold Zgh at hm;split at hm
 ·rename_i hh
  cases hm
  obtain⟨C,rfl⟩:=oZ hh.1;have hc:=ZJa.1 hc;have d:=hh.2;rw[tN]at d;have:=Any.strings_Repeat Tryz.lays105 Tryz.Builder_Extra_105 (ZA s) C b (by omega) (by rw[Zjd];exact d);refine Calls.mono this λe w' ⟨i,j⟩=>?_;have m:(⟨(Lib.repeatL (ZA s).data.toList C).toArray⟩:ByteArray)=ZA (List.replicate C s).flatten:=by
   rw[ZVv];rfl
  rw[m]at i;exact⟨_,a,i,j,VStep.ext hv j,[.string (ZA (List.replicate C s).flatten)],rfl,rfl,by simp only[tN];rw[List.length_flatten];simp;unfold maxLen;rw[Nat.mul_comm]at d;omega⟩
 ·cases hm
theorem text_w {e:World} {c:Zb} (hv:VIn c e) {c0:List Value} {a:Nat} (p0:Rep.rel Zx c c0 a) {z:(List UInt8)} (H:Zzi a=some z):Ret Tryz.prog 56 #[Zx.val c0] e c (λy v'=>∃ r0,y=Zmb.val r0∧Zmb.rel v' r0 z):=by
 obtain⟨q1,n2,k3,rfl⟩:=ZKa p0;refine ZKb (K:=49) (args:=[.slice q1 n2 k3]) hv Tryz.func56 rfl rfl zl λf S=>?_;unfold Zzi at H;refine sr (mw S rfl λf S=>oe (sr ?_));have S:=S.nilLoc 9 1;refine ov S rfl (Z6c S (y:=.slice (mkA none) 0 0) rfl) λf S=>oe (Zn λ_ ar=>?_);obtain⟨au,av,ax⟩:=Z6 H;refine ZFb (λf w=>∃ o F s G U I,o=au∧Zb.le c I∧St 49 e c [(3,.slice (mkA F) s G)] [Loc.own F 9 1 s G U] I f w∧Rep.rels Zmb I U o∧s=o.length) (λ_ ay=>?_) ?_
 ·have H:=av;refine wp_block ?_;obtain⟨bt,az,aA⟩:=Z6 H;refine Zse az (λaB f w=>∃ J g L M N p h q k t,(J,g)=aB∧Zb.le c t∧St 49 e c [(0,.slice L M N),(3,.slice (mkA p) h q)] [Loc.own p 9 1 h q k] t f w∧Rep.rel Zx t [.slice L M N] J∧Rep.rels Zmb t k g∧h=g.length) ⟨_,_,_,_,_,none,0,0,[],_,rfl,(leR _),(S.fr' rfl),p0,Zzf,rfl⟩ ?_;rintro _ f w st ⟨J,g,L,M,N,p,h,q,k,t,hq,ac,S,ad,d,ae⟩ H bu aC aD;subst hq;refine Zn λ_ aE=>sr (mv S rfl λf S=>ov S rfl (Zic S (Ztb ad) rfl rfl Zna) λf S=>ov S rfl (Zs S rfl rfl Zqf) λf S=>oe ?_);rcases Z8 (decide ((0:Int)<(((Zc 18446744073709551616 J)).length:Int))) with u | u
  ·have H:=Z7 H u;refine Zka S rfl u (wp_skip (Zh (aE _ _ (wp_block (Zn λ_ aF=>bO H λO aG H=>ZD (mv S rfl λf S=>opc S rfl (ZK S [.slice L M N,.int .u64 10000000000000000000] Zkp rfl rfl) (ZKs S.vin ad (show Rep.rel (Zd .u64) _ [.int .u64 10000000000000000000] (10000000000000000000:Int) from (ZI (by decide))) aG) ?_))))));rintro _ bv f w af ⟨bw,bx,rfl,m,aH⟩ S;have d:=ZT af d;obtain⟨aI,aJ,aK,rfl⟩:=ZKa m;obtain⟨rfl,aL⟩:=aH;refine mv S rfl λf S=>ov S rfl (Zfa S rfl rfl) λf S=>ov S rfl (Zfa S rfl rfl) λf S=>mw S rfl λf S=>mw S rfl λf S=>ZB (Zh (aF _ _ (Zn λ_ aM=>bO H λbz aN H=>ZD (mv S rfl λf S=>opc S rfl (ZK S [.int .u64 (O.2)] k_en81 rfl rfl) (Z4u S.vin (show Rep.rel (Zd .u64) _ [.int .u64 (O.2)] O.2 from (ZI aL)) aN) ?_))));rintro _ aO f w V ⟨bA,rfl,aP⟩ S;have d:=ZT V d;obtain⟨rfl,aQ⟩:=aP;refine mw S rfl λf S=>ZB (Zh (aM _ _ (Zn λ_ aR=>sr (mv S rfl λf S=>?_))));have m:=ZSa V m;refine ov S rfl (Zic S (Ztb m) rfl rfl Zna) λf S=>ov S rfl (Zs S rfl rfl Zqf) λf S=>oe ?_;obtain⟨aS,aT,aU⟩:=Z6 H;refine ZFb (λf w=>∃ b P,b=aS∧Zb.le aO P∧St 49 e c [(3,.slice (mkA p) h q),(4,.slice aI aJ aK),(6,.string (ZA b))] [Loc.own p 9 1 h q k] P f w∧b.length≤maxLen) (λ_ ag=>?_) ?_
   ·have H:=aT;rcases Z8 (decide ((0:Int)<(((Zc 18446744073709551616 O.1)).length:Int))) with v | v
    ·have H:=Z7 H v;refine Zka S rfl v (bO H λW ah H=>bO H λbB aV H=>bO H λbC ai H=>ZD (mv S rfl λf S=>ov S rfl (Zuq S rfl rfl Tryz.underlying9) λf S=>ov S rfl (Zs S rfl rfl (ZIb ah)) λf S=>opc S rfl (ZK S [.string (ZA (([48]:List UInt8))),.int .i64 W] k_en82 rfl rfl) (ZAA S.vin (show Rep.rel Zmb _ [.string (ZA (([48]:List UInt8)))] (([48]:List UInt8)) from (Zfj zl)) (show Rep.rel (Zd .i64) _ [.int .i64 W] W from (ZI (Zdb ah).2)) aV) ?_));rintro _ bD f w aj ⟨bE,rfl,aW⟩ S;have d:=ZT aj d;obtain⟨rfl,bG⟩:=aW;refine mv S rfl λf S=>ov S rfl (Zck S rfl rfl (ZXq ai)) λf S=>mw S rfl λf S=>ZB ?_;obtain rfl:=Zv H;refine Zh (ag _ _ ⟨_,_,rfl,(leT (leR _) aj),(S.fr' rfl),(ZNk ai)⟩)
    have H:=Zaa H v;refine ZZ S rfl v (wp_skip ?_);obtain rfl:=Zv H;refine Zh (ag _ _ ⟨_,_,rfl,(leR _),(S.fr' rfl),aQ⟩)
   rintro f w ⟨b,P,hq,X,S,aX⟩;subst hq;have H:=aU;have d:=ZT X d;refine Zh (aR _ _ (bO H λbH aY H=>ZD (mv S rfl λf S=>mv S rfl λf S=>?_)));obtain⟨bI,w,aZ,S⟩:=ZLh S (n:=1) (cs:=[.string (ZA b)]) (vals:=[(0,.string (ZA b))]) (sz:=1) rfl (by decide) (Zau Zmt (x:=.string (ZA b)) (cs:=[.string (ZA b)]) rfl rfl (by decide));have Y:Rep.rels Zmb P [.string (ZA b)] [b]:=(Zmq (Zfj aX) Zzf);refine ZZc wn rfl zl (aZ rfl) S λf S=>?_;have a0:=S;obtain⟨ak,al,w,a1,S⟩:=Zak (ty:=160) Zmt S (i:=1) (n':=(g++[b]).length) rfl (Zte Y rfl) (Z9g S (j:=0) rfl) (Z3g Y) (appN ae rfl) (ZUe aY) (by decide);have a2:=Zmc d Y;refine ZZc wn rfl zl (Zle a0 rfl rfl a1) S λf S=>mv S rfl λf S=>mw S rfl λf S=>mw S rfl λf S=>ZB (Zgd ?_);obtain rfl:=Zv H;have S:=S.reorder (ℓ':=[Loc.own ak 9 1 ((g++[b]).length) al ((k++[.string (ZA b)]))]) [1] rfl (by decide);have m:=ZSa X m;refine aC _ rfl _ _ ⟨_,_,_,_,_,ak,(g++[b]).length,al,(k++[.string (ZA b)]),_,rfl,(leT (leT (leT ac af) V) X),(S.fr' rfl),m,a2,rfl⟩
  have H:=Zaa H u;refine ZZ S rfl u (wp_exit (Zxb ?_));obtain rfl:=Zv H;have hq:=aD _ rfl;subst hq;have H:=aA;refine Zxb (Z3d ?_);obtain rfl:=Zv H;refine Zh (ay _ _ ⟨_,p,h,q,k,_,rfl,(leT (leR _) ac),(S.fr' rfl),d,ae⟩)
 rintro f w ⟨o,F,s,G,U,I,hq,bJ,S,a3,am⟩;subst hq;have H:=ax;refine Zh (ar _ _ (Zn λ_ a4=>sr (mv S rfl λf S=>ov S rfl (Zic S am rfl rfl ZKm) λf S=>ov S rfl (Zs S rfl rfl ZMf) λf S=>oe ?_)));rcases Z8 (((o.length:Int))==(0:Int)) with B | B
 ·have H:=Z7 H B;refine Zka S rfl B (sr (mw S rfl λf S=>oe (wp_ret (Z1b ?_))));obtain rfl:=Zv H;refine Zqa S (ZYa rfl (ZM S rfl)) ⟨[.string (ZA (([48]:List UInt8)))],rfl,(Zfj zl)⟩
 have H:=Zaa H B;refine ZZ S rfl B (wp_skip (Zh (a4 _ _ (sr ?_))));obtain⟨an,bK,S,C⟩:=S.pubSlice (i:=0) (A:=Zmb) (l:=o) (ℓ':=[]) rfl rfl am a3 rfl;refine op_newB 5 S wn rfl zl (Zqh k_zv168) λr f w S a5=>oe (Zn λ_ a6=>Zn λ_ a7=>bO H λbM ao H=>ZD (mv S rfl λf S=>ov S rfl (Zic S (Ztb C) rfl rfl ZKm) λf S=>ov S rfl (Zs S rfl rfl (ZIb ao)) λf S=>mw S rfl λf S=>ZB (Zh (a7 _ _ ?_))));obtain⟨a8,a9,ba⟩:=Z6 H;refine ZFb (λf w=>∃ Q R,Q=a8∧Zb.le an R∧St 49 e c [(7,.pointer (some ⟨r,0,none⟩))] [] R f w∧Bld 168 5 r e R Q w) (λ_ bb=>?_) ?_
 ·have H:=a9;refine wp_block ?_;obtain⟨bP,bc,bd⟩:=Z6 H;refine Zse bc (λbe f w=>∃ Z D T,(Z,D)=be∧Zb.le an T∧St 49 e c [(3,.slice (mkA F) s G),(7,.pointer (some ⟨r,0,none⟩)),(8,.int .i64 D)] [] T f w∧Bld 168 5 r e T Z w∧inR .i64 D) ⟨_,_,_,rfl,(leR _),(S.fr' rfl),a5,(Zdb ao).2⟩ ?_;rintro _ f w st ⟨Z,D,T,hq,aa,S,ap,bQ⟩ H bR bf bg;subst hq;refine Zn λ_ bh=>sr (mv S rfl λf S=>ov S rfl (Zs S rfl rfl ZEi) λf S=>oe ?_);rcases Z8 (decide ((0:Int)≤D)) with E | E
  ·have H:=Z7 H E;refine Zka S rfl E (wp_skip (Zh (bh _ _ (Zn λ_ bi=>wp_block (bO H λbj ab H=>bO H λbS bk H=>ZD (mv S rfl λf S=>mv S rfl λf S=>?_))))));have C:=ZSa aa C;obtain⟨_,bT,bU,bV,bm,bn,bo⟩:=ZGc C (Zp ab).2.1;obtain⟨rfl,rfl⟩:=ZUv bm;obtain⟨rfl,bW⟩:=bo;refine ov S rfl (ZFa S rfl rfl ZKm (Zp ab).1 (ltI (Ztb C) (Zp ab).2.2.1)) λf S=>ov S rfl (ZGb S rfl k_sz9 (S.view bn)) λf S=>ZSv writes ap (ZgA bk) S wn rfl zl (ZK S [.pointer (some ⟨r,0,none⟩),.string (ZA bj)] k_en83 rfl rfl) λf w S bp=>ZB (Zgd (Zh (bi _ _ (bO H λbX aq H=>ZD (mv S rfl λf S=>ov S rfl (Zs S rfl rfl (ZIb aq)) λf S=>mw S rfl λf S=>ZB ?_)))));obtain rfl:=Zv H;refine bf _ rfl _ _ ⟨_,_,_,rfl,aa,(S.fr' rfl),bp,(Zdb aq).2⟩
  have H:=Zaa H E;refine ZZ S rfl E (wp_exit (Zxb ?_));obtain rfl:=Zv H;have hq:=bg _ rfl;subst hq;have H:=bd;refine Zxb (Z3d ?_);obtain rfl:=Zv H;refine Zh (bb _ _ ⟨_,_,rfl,(leT (leR _) aa),(S.fr' rfl),ap⟩)
 rintro f w ⟨Q,R,hq,bY,S,bq⟩;subst hq;have H:=ba;refine Zh (a6 _ _ (Zn λ_ br=>bO H λbZ bs H=>ZD (op_tell tells bq S wn rfl zl (ZK S [.pointer (some ⟨r,0,none⟩)] k_en84 rfl rfl) λf w S=>mw S rfl λf S=>ZB (Zh (br _ _ (wp_ret ?_))))));obtain rfl:=Zv H;refine Zqa S (ZYa rfl (ZM S rfl)) ⟨[.string (ZA Q)],rfl,(Zfj (ZNk bs))⟩
theorem text_c {c:World} {b:Zb} (hv:VIn b c) {d:List Value} {a:Nat} (f:Rep.rel Zx b d a) {z:(List UInt8)} (hm:Z1f a=some z) :
  Ret Tryz.prog 56 #[Zx.val d] c b (λy v'=>∃ e,y=Zmb.val e∧Zmb.rel v' e z) :=
 text_w hv f (Z0z hm)
noncomputable def ZRl:FuncId×Con:=(56,⟨[.leaf 0],[.str],λp=>Z1f p⟩)
theorem text_k:ZXd Tryz.prog ZRl.1 ZRl.2:=λw v vals x z hv ha hz=>by
 obtain⟨c0,e0,p0⟩:=ha;subst e0
 exact .inl ⟨λ_ _=>by kernel_rfl,Ret.mono (text_c hv p0 hz) λy v' _ ⟨r0,e,h0⟩=>⟨r0,e,h0⟩⟩
noncomputable def ZLs:FuncId×Con:=(26,⟨[.leaf 3],[.str],λp=>Zwf p⟩)
theorem qtext_k:KQ ZLs:=Zy (ZL (C:=cf0 [ZRl] [] [] []) (.n (.n (.two (.n (.j [1] [] [.s 3 (.dat .str)] .no)) (.f (.n (.j [] [] [.s 3 (.dat .str)] .no)))))) Tryz.func26 [] (λv vals x z ha hz=>.trans (by kernel_rfl) (Zmv hz)) ⟨text_k,tr⟩)
noncomputable def Z3p:FuncId×Con:=(5,⟨[],[.bool],λ_=>Zhe⟩)
theorem Zxv:KQ Z3p:=Zy (Zya (C:=cf0 [ZSf,Z5r,Zcu,ZLs] [] [] []) (.n (.n (.n (.n (.f (.j [] [] [.s 0 (.dat .bool)] .no)))))) Tryz.func5 [] (λ_=>by kernel_rfl) ⟨Zih,Zow,Reach_k,qtext_k,tr⟩)
noncomputable def ZBq:FuncId×Con:=(35,⟨[.int .i64,.int .i64],[.leaf 3,.int .i64],λp=>Zii p.1 p.2⟩)
theorem qnew_k:KQ ZBq:=Zy (ZL (C:=cf0 [of_q,ZIh,Z6e] [] [] []) .no Tryz.func35 [] (λv vals x z ha hz=>by obtain⟨c0,w0,e0,p0,c1,e1,p1⟩:=ha;exact .trans (by kernel_rfl) (ZVx p0.2 p1.2 hz)) ⟨of_k,Zcl,ZCg,tr⟩)
noncomputable def Zml:FuncId×Con:=(12,⟨[.pair (.int .i64) (.int .i64)],[.leaf 3],λp=>ZLc p⟩)
theorem ZZn:KQ Zml:=Zy (ZL (C:=cf0 [ZSf,ZBq] [] [] []) .no Tryz.func12 [] (λv vals x z ha hz=>.trans (by kernel_rfl) (ZOy hz)) ⟨Zih,qnew_k,tr⟩)
noncomputable def Zif:FuncId×Con:=(117,⟨[.slice (.int .u32)],[.leaf 1],λp=>ZRb p⟩)
theorem ZNf:KQ Zif:=Zy (Zvk (C:=cf2 [] []) (.n (.n (.f (.j [0] [] [.s 3 (.dat (.int .i64))] (.f (.l [0] [] [.s 3 (.dat (.int .i64))] 0 [0] [] [.s 3 (.dat (.int .i64))] (.f (.f (.f (.j [0,3] [] [.s 15 (.dat .bool)] .no)))))))))) Tryz.func117 [] [.slice (.int .u32)] [.slice (.int .u32)] (λx=>(x)) (λz=>(Zc 4294967296 z)) (λv vals x z ha hz=>by obtain⟨c0,e0,p0⟩:=ha;exact .trans (by kernel_rfl) (by cases hz;exact (rcut_eq (ZKn p0).1 (ZKn p0).2))))
noncomputable def Zco:FuncId×Con:=(86,⟨[.int .u64],[.leaf 1],λp=>Zsd p⟩)
theorem Z8t:KQ Zco:=Zy (ZL (C:=cf2 [(91,1),(93,4)] [Zif]) .no Tryz.func86 [] (λv vals x z ha hz=>by obtain⟨c0,e0,p0⟩:=ha;exact .trans (by kernel_rfl) (Z3y p0.2 hz)) ⟨ZNf,tr⟩)
noncomputable def Zbq:FuncId×Con:=(144,⟨[.leaf 1,.leaf 1],[.int .i64],λp=>Z4f p.1 p.2⟩)
theorem Zkx:KQ Zbq:=Zy (ZL (C:=cf2 [(91,1),(93,4)] []) (.n (.n (.n (.f (.n (.cut ⟨⟨[],[],[]⟩,[(.norm,⟨[],[],[]⟩),(.ret,⟨[],[],[.s 1000 (.dat (.int .i64))]⟩)]⟩ (.f (.cut ⟨⟨[0,1],[],[.s 5 (.dat (.int .i64))]⟩,[(.ret,⟨[],[],[.s 1000 (.dat (.int .i64))]⟩),(.exit 0,⟨[],[],[]⟩)]⟩ .no)))))))) Tryz.func144 [] (λv vals x z ha hz=>by obtain⟨c0,w0,e0,p0,c1,e1,p1⟩:=ha;exact .trans (by kernel_rfl) ((ZCw (ZPo p0) (ZPo p1)).trans hz)))
noncomputable def ZUo:FuncId×Con:=(145,⟨[.leaf 1,.int .u32],[.leaf 1,.int .u32],λp=>Zgj p.1 p.2⟩)
theorem Z9w:KQ ZUo:=Zy (ZL (C:=cf2 [(91,1),(93,4)] [Zif]) (.n (.n (.n (.f (.n (.j [] [] [.s 6 (.own 175 (.int .u32)),.s 7 (.dat (.int .u64))] (.f (.l [0,1] [] [.s 6 (.own 175 (.int .u32)),.s 7 (.dat (.int .u64)),.s 8 (.dat (.int .i64))] 0 [] [] [.s 6 (.own 175 (.int .u32)),.s 7 (.dat (.int .u64))] .no)))))))) Tryz.func145 [] (λv vals x z ha hz=>by obtain⟨c0,w0,e0,p0,c1,e1,p1⟩:=ha;exact .trans (by kernel_rfl) (ZLw p1.2 hz)) ⟨ZNf,tr⟩)
noncomputable def Z8r:FuncId×Con:=(146,⟨[.leaf 1],[.int .i64],λp=>ZAh p⟩)
theorem rbits_k:KQ Z8r:=Zy (ZL (C:=cf2 [(91,1),(93,4)] []) (.n (.n (.n (.f (.n (.j [] [] [.s 3 (.dat (.int .i64))] (.f (.l [] [] [.s 3 (.dat (.int .i64)),.s 4 (.dat (.int .u32))] 0 [] [] [.s 3 (.dat (.int .i64))] .no)))))))) Tryz.func146 [] (λv vals x z ha hz=>.trans (by kernel_rfl) (Zsv hz)))
noncomputable def Zaq:FuncId×Con:=(147,⟨[.leaf 1,.int .i64],[.leaf 1],λp=>Zge p.1 p.2⟩)
theorem Zjv:KQ Zaq:=Zy (ZL (C:=cf2 [(91,1),(93,4)] [Zif]) (.n (.n (.n (.n (.f (.n (.j [] [] [.s 5 (.own 175 (.int .u32)),.s 6 (.dat (.int .u64))] (.f (.l [0,1] [] [.s 5 (.own 175 (.int .u32)),.s 6 (.dat (.int .u64)),.s 7 (.dat (.int .i64))] 0 [] [] [.s 5 (.own 175 (.int .u32)),.s 6 (.dat (.int .u64))] .no))))))))) Tryz.func147 [] (λv vals x z ha hz=>.trans (by kernel_rfl) (ZZz hz)) ⟨ZNf,tr⟩)
noncomputable def Z7q:FuncId×Con:=(148,⟨[.leaf 1,.leaf 1],[.leaf 1],λp=>ZRg p.1 p.2⟩)
theorem rprod_k:KQ Z7q:=Zy (ZL (C:=cf2 [(91,1),(93,4)] [Zif]) (.n (.n (.f (.n (.j [] [] [.s 5 (.own 175 (.int .u32))] (.f (.l [0,1] [] [.s 5 (.own 175 (.int .u32)),.s 6 (.dat (.int .i64))] 0 [] [] [.s 5 (.own 175 (.int .u32))] (.f (.n (.f (.f (.n (.f (.n (.j [0,1,6] [] [.s 5 (.own 175 (.int .u32)),.s 7 (.dat (.int .u64))] (.f (.l [0,1,6] [] [.s 5 (.own 175 (.int .u32)),.s 7 (.dat (.int .u64)),.s 8 (.dat (.int .i64))] 2 [0,1,6] [] [.s 5 (.own 175 (.int .u32)),.s 7 (.dat (.int .u64))] .no))))))))))))))))) Tryz.func148 [] (λv vals x z ha hz=>.trans (by kernel_rfl) (Znz hz)) ⟨ZNf,tr⟩)
noncomputable def ZLu:FuncId×Con:=(149,⟨[.leaf 1,.leaf 1],[.leaf 1],λp=>ZIe p.1 p.2⟩)
theorem rdif_k:KQ ZLu:=Zy (ZL (C:=cf2 [(91,1),(93,4)] [Zif]) (.n (.n (.n (.f (.n (.j [] [] [.s 5 (.own 175 (.int .u32))] (.f (.l [0,1] [] [.s 5 (.own 175 (.int .u32)),.s 6 (.dat (.int .i64)),.s 7 (.dat (.int .i64))] 0 [] [] [.s 5 (.own 175 (.int .u32))] (.f (.n (.f (.f (.n (.two (.n (.j [0,1,5,7] [] [.s 8 (.dat (.int .i64))] .no)) (.n (.f (.n (.j [0,1,5,7] [] [.s 6 (.dat (.int .i64)),.s 8 (.dat (.int .i64))] .no)))))))))))))))))) Tryz.func149 [] (λv vals x z ha hz=>.trans (by kernel_rfl) (Zdy hz)) ⟨ZNf,tr⟩)
noncomputable def ZKo:FuncId×Con:=(150,⟨[.leaf 1,.int .i64],[.leaf 1],λp=>ZKh p.1 p.2⟩)
theorem Ziz:KQ ZKo:=Zy (ZL (C:=cf2 [(91,1),(93,4)] [Zif]) (.n (.n (.f (.n (.j [] [] [.s 5 (.own 175 (.int .u32))] (.f (.l [0,1] [] [.s 5 (.own 175 (.int .u32)),.s 6 (.dat (.int .i64))] 0 [] [] [.s 5 (.own 175 (.int .u32))] (.f (.n (.f (.f (.n (.f (.n (.j [0,1,5,6] [] [.s 7 (.dat (.int .u64))] .no))))))))))))))) Tryz.func150 [] (λv vals x z ha hz=>by obtain⟨c0,w0,e0,p0,c1,e1,p1⟩:=ha;exact .trans (by kernel_rfl) (Zqy p1.2 hz)) ⟨ZNf,tr⟩)
noncomputable def ZRn:FuncId×Con:=(116,⟨[.leaf 1,.leaf 1],[.leaf 1,.leaf 1],λp=>Zfd p.1 p.2⟩)
theorem Zhp:KQ ZRn:=Zy (ZL (C:=cf2 [(91,1),(93,4)] [Zco,Zif,Zbq,ZUo,Z8r,Zaq,Z7q,ZLu,ZKo]) (.n (.n (.n (.n (.n (.n (.n (.f (.n (.j [8] [] [.s 10 (.dat (.leaf 1)),.s 12 (.own 175 (.int .u32))] (.f (.l [8,9,11] [] [.s 10 (.dat (.leaf 1)),.s 12 (.own 175 (.int .u32)),.s 13 (.dat (.int .i64))] 0 [8] [] [.s 10 (.dat (.leaf 1)),.s 12 (.own 175 (.int .u32))] (.f (.n (.f (.j [8,9,11,13] [] [.s 10 (.dat (.leaf 1)),.s 12 (.own 175 (.int .u32))] (.f (.n (.two (.n (.j [8,9,10,11,12,13] [] [.s 14 (.dat (.slice (.int .u32)))] .no)) (.n (.n (.two (.n (.j [8,9,10,11,12,13,14] [] [.s 15 (.dat (.int .u64))] .no)) (.n (.two (.n (.j [8,9,10,11,12,13,14] [] [.s 16 (.dat (.int .u64))] .no)) (.n (.f (.j [8,9,10,11,12,13,14] [] [.s 16 (.dat (.int .u64)),.s 17 (.dat (.leaf 1))] (.f (.l [8,9,10,11,12,13,14] [] [.s 16 (.dat (.int .u64)),.s 17 (.dat (.leaf 1))] 2 [8,9,10,11,12,13,14] [] [.s 16 (.dat (.int .u64)),.s 17 (.dat (.leaf 1))] .no))))))))))))))))))))))))))))) Tryz.func116 [] (λv vals x z ha hz=>.trans (by kernel_rfl) (ZoA hz)) ⟨Z8t,ZNf,Zkx,Z9w,rbits_k,Zjv,rprod_k,rdif_k,Ziz,tr⟩)
noncomputable def Zjt:FuncId×Con:=(115,⟨[.leaf 1,.leaf 1],[.leaf 1],λp=>rgcF p.1 p.2⟩)
theorem rgcd_k:KQ Zjt:=Zy (ZL (C:=cf2 [(91,1),(93,4)] [ZRn]) (.n (.f (.j [] [] [.s 0 (.dat (.leaf 1))] (.f (.l [] [] [.s 0 (.dat (.leaf 1)),.s 1 (.dat (.leaf 1))] 0 [] [] [.s 0 (.dat (.leaf 1))] .no))))) Tryz.func115 [] (λv vals x z ha hz=>.trans (by kernel_rfl) (rgcF_eq hz)) ⟨Zhp,tr⟩)
noncomputable def Z1m:FuncId×Con:=(85,⟨[.bool,.leaf 1,.leaf 1],[.leaf 4],λp=>Zuf p.1 p.2.1 p.2.2⟩)
theorem Zes:KQ Z1m:=Zy (ZL (C:=cf2 [(91,1),(93,4)] [Zjt,ZRn]) .no Tryz.func85 [] (λv vals x z ha hz=>.trans (by kernel_rfl) (Z6v hz)) ⟨rgcd_k,Zhp,tr⟩)
noncomputable def Z1n:FuncId×Con:=(57,⟨[.int .i64],[.leaf 4],λp=>Zje p⟩)
theorem ZUt:KQ Z1n:=Zy (ZL (C:=cf2 [(91,1),(93,4)] [Z1m,Zco]) .no Tryz.func57 [] (λv vals x z ha hz=>by obtain⟨c0,e0,p0⟩:=ha;exact .trans (by kernel_rfl) (Z4v p0.2 hz)) ⟨Zes,Z8t,tr⟩)
noncomputable def Z2s:FuncId×Con:=(58,⟨[.int .i64,.int .i64],[.leaf 4,.int .i64],λp=>Z3i p.1 p.2⟩)
theorem rnew_k:KQ Z2s:=Zy (ZL (C:=cf2 [(91,1),(93,4)] [Z1n,Z1m]) .no Tryz.func58 [] (λv vals x z ha hz=>by obtain⟨c0,w0,e0,p0,c1,e1,p1⟩:=ha;exact .trans (by kernel_rfl) (ZTu p0.2 p1.2 hz)) ⟨ZUt,Zes,tr⟩)
noncomputable def rof_q:FuncId×Con:=(27,⟨[.pair (.int .i64) (.int .i64)],[.leaf 4],λp=>ZLd p⟩)
theorem rof_k:KQ rof_q:=Zy (ZL (C:=cf2 [(91,1),(93,4)] [Z1n,Z2s]) .no Tryz.func27 [] (λv vals x z ha hz=>.trans (by kernel_rfl) (rofF_eq hz)) ⟨ZUt,rnew_k,tr⟩)
noncomputable def Zdq:FuncId×Con:=(7,⟨[.slice (.pair (.int .i64) (.int .i64))],[.slice (.leaf 3),.slice (.pair .bool (.pair (.leaf 1) (.leaf 1)))],λp=>Zbi p⟩)
theorem ZZv:KQ Zdq:=Zy (Zya (C:=cf2 [(37,0),(39,2),(41,3),(91,1)] [Zml,rof_q]) (.n (.n (.f (.n (.f (.l [4,5,14,15] [] [.s 16 (.dat (.int .i64)),.l (.sl 4) (.own 41 (.leaf 3)),.l (.sl 5) (.own 93 (.pair .bool (.pair (.leaf 1) (.leaf 1))))] 0 [4,5] [] [.l (.sl 4) (.own 41 (.leaf 3)),.l (.sl 5) (.own 93 (.pair .bool (.pair (.leaf 1) (.leaf 1))))] .no)))))) Tryz.func7 [] (λ_=>by kernel_rfl) ⟨ZZn,rof_k,tr⟩)
noncomputable def Zvo:FuncId×Con:=(28,⟨[.slice (.pair (.leaf 3) (.pair (.leaf 3) (.pair (.leaf 3) (.leaf 3))))],[.int .i64],λp=>ZRh p⟩)
theorem ZIt:KQ Zvo:=Zy (Zya (C:=cf0 [ZOc] [] [] []) (.n (.two (.f (.j [0] [] [.s 12 (.dat .bool)] .no)) (.f (.n (.cut ⟨⟨[],[],[]⟩,[(.norm,⟨[],[],[]⟩),(.ret,⟨[],[],[.s 1000 (.dat (.int .i64))]⟩)]⟩ (.f (.cut ⟨⟨[13,14],[],[.s 15 (.dat (.int .i64))]⟩,[(.ret,⟨[],[],[.s 1000 (.dat (.int .i64))]⟩),(.exit 0,⟨[],[],[]⟩)]⟩ (.f (.n (.n (.f (.f (.n (.f (.j [13,14,15] [] [.s 40 (.dat .bool)] .no))))))))))))))) Tryz.func28 [] (λ_=>by kernel_rfl) ⟨Z9c,tr⟩)
noncomputable def Zso:FuncId×Con:=(29,⟨[.slice (.leaf 3)],[.int .i64],λp=>ZJg p⟩)
theorem ZWo:KQ Zso:=Zy (Zya (C:=cf0 [Zye,ZOc] [] [] []) (.n (.two (.f (.j [0] [] [.s 12 (.dat .bool)] .no)) (.f (.n (.cut ⟨⟨[],[],[]⟩,[(.norm,⟨[],[],[]⟩),(.ret,⟨[],[],[.s 1000 (.dat (.int .i64))]⟩)]⟩ (.f (.cut ⟨⟨[0,13,14],[],[.s 15 (.dat (.int .i64))]⟩,[(.ret,⟨[],[],[.s 1000 (.dat (.int .i64))]⟩),(.exit 0,⟨[],[],[]⟩)]⟩ (.f (.n (.n (.f (.f (.n (.n (.f (.j [0,13,14,15] [] [.s 34 (.dat .bool)] .no)))))))))))))))) Tryz.func29 [] (λ_=>by kernel_rfl) ⟨Z8e,Z9c,tr⟩)
noncomputable def Z9l:FuncId×Con:=(50,⟨[.leaf 3],[.leaf 3],λp=>Zoh p⟩)
theorem Zkq:KQ Z9l:=Zy (Zya (C:=cf0 [ZOc,Zfe] [] [] []) .no Tryz.func50 [] (λ_=>by kernel_rfl) ⟨Z9c,Zkf,tr⟩)
noncomputable def ZPn:FuncId×Con:=(33,⟨[.pair (.leaf 3) (.slice (.pair (.leaf 3) (.leaf 3))),.slice (.pair (.leaf 3) (.pair (.leaf 3) (.pair (.leaf 3) (.leaf 3))))],[.leaf 3],λp=>ZSe p.1 p.2⟩)
theorem ZPq:KQ ZPn:=Zy (Zya (C:=cf0 [Zye,ZCe,Z3e,Z9l,Zbn] [200038] [] []) (.n (.n (.f (.n (.f (.l [2,4,5,14,15] [] [.s 16 (.dat (.int .i64)),.l (.sl 5) (.box 41 (.dat (.leaf 3)))] 0 [4,5] [] [.l (.sl 5) (.box 41 (.dat (.leaf 3)))] (.f (.n (.n (.f (.f (.n (.n (.n (.f (.l [2,4,5,7,14,15,16,35] [] [.s 36 (.dat (.int .i64)),.l (.sl 5) (.box 41 (.dat (.leaf 3)))] 2 [2,4,5,14,15,16] [] [.l (.sl 5) (.box 41 (.dat (.leaf 3)))] (.f (.n (.n (.f (.f (.two (.j [2,4,5,7,14,15,16,35,36] [] [.s 11 (.box 41 (.dat (.leaf 3)))] .no) (.n (.n (.j [2,4,5,7,14,15,16,35,36] [] [.l (.sl 5) (.box 41 (.dat (.leaf 3)))] .no))))))))))))))))))))))))) Tryz.func33 [] (λ_=>by kernel_rfl) ⟨Z8e,ZJf,Z5f,Zkq,ZAr,tr⟩)
noncomputable def ZKk:FuncId×Con:=(89,⟨[.slice (.slice (.leaf 3))],[.int .i64],λp=>ZVg p⟩)
theorem Zmn:KQ ZKk:=Zy (Zya (C:=cf0 [] [] [] []) .no Tryz.func89 [] (λ_=>by kernel_rfl))
noncomputable def ZXt:FuncId×Con:=(118,⟨[.slice (.slice (.leaf 3))],[.bool],λp=>ZWk p⟩)
theorem ZEy:KQ ZXt:=Zy (Zya (C:=cf0 [ZKk] [] [] []) (.n (.n (.f (.j [] [] [.s 2 (.dat .bool)] .no)))) Tryz.func118 [(151,Tryz.f151,.no),(152,Tryz.f152,.no),(172,Tryz.f172,.r [] [] [.s 1000 (.dat (.int .i64))] (.n (.f (.n (.f (.cut ⟨⟨[0,1,7],[],[.s 8 (.dat (.int .i64))]⟩,[(.exit 0,⟨[],[],[]⟩),(.ret,⟨[],[],[.s 1000 (.dat (.int .i64))]⟩)]⟩ .no))))))] (λ_=>by kernel_rfl) ⟨Zmn,tr⟩ tr tr ⟨⟨Tryz.func151,λ_ _=>by kernel_rfl⟩,⟨Tryz.func152,λ_ _=>by kernel_rfl⟩,⟨Tryz.func172,λ_ _=>by kernel_rfl⟩,tr⟩)
noncomputable def ZAu:FuncId×Con:=(87,⟨[.slice (.slice (.leaf 3)),.slice (.leaf 3),.slice (.leaf 3)],[.bool],λp=>ZTk p.1 p.2.1 p.2.2⟩)
theorem Zzz:KQ ZAu:=Zy (Zya (C:=cf0 [ZKk,ZXt] [] [] []) (.n (.f (.j [] [] [.s 6 (.dat .bool)] .no))) Tryz.func87 [] (λ_=>by kernel_rfl) ⟨Zmn,ZEy,tr⟩)
theorem Zlt : ∀ y w, (method (Tryz.prog.types.size + Made.depth) 41 y "Add").run Tryz.prog w = .ok (13, y) w := λ_ _ => by kernel_rfl
theorem Z7r : ∀ y w, (method (Tryz.prog.types.size + Made.depth) 41 y "Cmp").run Tryz.prog w = .ok (11, y) w := λ_ _ => by kernel_rfl
theorem ZWt : ∀ y w, (method (Tryz.prog.types.size + Made.depth) 41 y "Div").run Tryz.prog w = .ok (42, y) w := λ_ _ => by kernel_rfl
theorem ZEs : ∀ y w, (method (Tryz.prog.types.size + Made.depth) 41 y "Mul").run Tryz.prog w = .ok (51, y) w := λ_ _ => by kernel_rfl
theorem ZPh : ∀ y w, (method (Tryz.prog.types.size + Made.depth) 41 y "Neg").run Tryz.prog w = .ok (61, y) w := λ_ _ => by kernel_rfl
theorem ZDx : ∀ y w, (method (Tryz.prog.types.size + Made.depth) 41 y "Of").run Tryz.prog w = .ok (197, y) w := λ_ _ => by kernel_rfl
theorem Zsl : ∀ y w, (method (Tryz.prog.types.size + Made.depth) 41 y "Sign").run Tryz.prog w = .ok (21, y) w := λ_ _ => by kernel_rfl
theorem ZRo : ∀ y w, (method (Tryz.prog.types.size + Made.depth) 41 y "Sub").run Tryz.prog w = .ok (34, y) w := λ_ _ => by kernel_rfl
theorem ZYr : ∀ y w, (method (Tryz.prog.types.size + Made.depth) 41 y "Zero").run Tryz.prog w = .ok (19, y) w := λ_ _ => by kernel_rfl
theorem Zap : ∀ y w, (method (Tryz.prog.types.size + Made.depth) 113 y "Add").run Tryz.prog w = .ok (130, y) w := λ_ _ => by kernel_rfl
theorem Zyu : ∀ y w, (method (Tryz.prog.types.size + Made.depth) 113 y "Mul").run Tryz.prog w = .ok (132, y) w := λ_ _ => by kernel_rfl
theorem ZAg : ∀ y w, (method (Tryz.prog.types.size + Made.depth) 113 y "Neg").run Tryz.prog w = .ok (164, y) w := λ_ _ => by kernel_rfl
theorem Zoz : ∀ y w, (method (Tryz.prog.types.size + Made.depth) 113 y "Of").run Tryz.prog w = .ok (131, y) w := λ_ _ => by kernel_rfl
theorem Zus : ∀ y w, (method (Tryz.prog.types.size + Made.depth) 113 y "Sub").run Tryz.prog w = .ok (133, y) w := λ_ _ => by kernel_rfl
theorem ZCp : ∀ y w, (method (Tryz.prog.types.size + Made.depth) 113 y "Zero").run Tryz.prog w = .ok (203, y) w := λ_ _ => by kernel_rfl
theorem Z9t : ∀ y w, (method (Tryz.prog.types.size + Made.depth) 115 y "Add").run Tryz.prog w = .ok (104, y) w := λ_ _ => by kernel_rfl
theorem ZNp : ∀ y w, (method (Tryz.prog.types.size + Made.depth) 115 y "Mul").run Tryz.prog w = .ok (106, y) w := λ_ _ => by kernel_rfl
theorem ZYz : ∀ y w, (method (Tryz.prog.types.size + Made.depth) 115 y "Of").run Tryz.prog w = .ok (105, y) w := λ_ _ => by kernel_rfl
noncomputable def ZCs:FuncId×Con:=(88,⟨[.slice (.leaf 3)],[.bool],λp=>ZDk p⟩)
theorem Zlv : KQ ZCs := Zy (Zya (C := cf0 [ZOc] [] [] [((41, "Sign"), 21)]) .no Tryz.func88 [(119, Tryz.f119, .no), (120, Tryz.f120, .no), (153, Tryz.f153, .r [] [] [.s 1000 (.dat (.int .i64))] (.n (.f (.n (.f (.cut ⟨⟨[0, 1, 7], [], [.s 8 (.dat (.int .i64))]⟩, [(.exit 0, ⟨[], [], []⟩), (.ret, ⟨[], [], [.s 1000 (.dat (.int .i64))]⟩)]⟩ .no))))))] (λ_ => by kernel_rfl) ⟨Z9c, tr⟩ tr ⟨Zsl, tr⟩ ⟨⟨Tryz.func119, λ_ _ => by kernel_rfl⟩, ⟨Tryz.func120, λ_ _ => by kernel_rfl⟩, ⟨Tryz.func153, λ_ _ => by kernel_rfl⟩, tr⟩)
theorem ZHu:Elem Tryz.prog 32 41 (ZR).n 56 (Value.agg #[Value.bool false,Value.slice none 0 0,Value.slice none 0 0]):=⟨Tryz.underlying32,by kernel_rfl,rfl,by decide⟩
noncomputable def Zxi:FuncId×ConO:=(90,⟨[.slice (.leaf 3)],41,.leaf 3,λp=>Zkc 56 p⟩)
theorem ZIo:ZAf Tryz.prog Zxi.1 Zxi.2:=λw v vals x z hv ha hz=>by
 obtain⟨cs,rfl,p0⟩:=ha
 have hz:Zkc 56 (show List Rat from x)=some z:=hz
 obtain⟨hb,rfl⟩:=Z4y hz
 obtain⟨q,n,c,rfl⟩:=Z3f (show (ZG ZR).rel v cs z from p0)
 refine⟨λ_ _=>by kernel_rfl,?_⟩
 have hn:n=(show List Rat from z).length:=by obtain⟨_,_,e,_⟩:=p0;cases e;rfl
 refine Zui (K:=8) (args:=[.slice q n c]) hv Tryz.func90 rfl rfl zl λfa hS=>?_
 refine sr ?_
 refine mw hS rfl λfa hS=>?_
 refine oe ?_
 refine wp_seq_k λN1 hN1=>?_
 refine sr ?_
 refine mv hS rfl λfa hS=>?_
 refine ov hS rfl (Z5u hS Tryz.underlying32 rfl rfl) λfa hS=>?_
 refine oe ?_
 cases q with
 | none =>
  refine Zka hS rfl rfl ?_
  have hx:(show List Rat from z)=[]:=by
   obtain⟨q',c',e,_,_,h3⟩:=p0
   cases e
   rcases h3 with h3 | ⟨_,_,_,_,_,h4,_⟩
   ·exact h3
   ·cases h4
  have hx0:n=0:=by rw[hn,hx];rfl
  refine sr ?_;refine mw hS rfl λfa hS=>?_;refine oe ?_;refine wp_ret ?_;refine Z1b ?_;have hS2:=hS.nilLoc 41 (ZR).n;have:=Zpm (P:=Tryz.prog) (A:=ZR) hS2 (i:=0) (ob:=none) (n:=0) (cap:=0) (cs:=[]) rfl (ZYa (fn:=Tryz.f90) (r:=.tmp 2) rfl (ZM (t:=2) (y:=.slice (mkA none) 0 0) hS2 rfl)) (l:=([]:List Rat)) Zzf rfl;rw[hx];exact this
 | some ad =>
  refine ZZ hS rfl rfl ?_;refine wp_skip ?_;refine Zh (hN1 _ _ ?_);refine sr ?_;obtain⟨b,wo,hrun,hS⟩:=ZBw ZHu hS;refine ZZc wn rfl zl hrun hS λfa hS=>?_;refine mv hS rfl λfa hS=>?_;obtain⟨b',cap',cs2,wo,hr,hS',hrel⟩:=Zxg (ty:=32) (A:=ZR) ZHu hS (i:=0) rfl (Rep.mono (ZG ZR) hS.vst.le p0) (n':=n) (by omega) (by rw[hn];exact hb) (by decide);refine ZZc wn rfl zl (Zle hS rfl rfl hr) hS' λfa hS=>?_;refine mw hS rfl λfa hS=>?_;refine oe ?_;refine wp_ret ?_;exact Zpm hS (i:=0) rfl (ZYa rfl (ZM hS rfl)) hrel hn
noncomputable def ZZt:FuncId×ConO:=(91,⟨[.slice (.leaf 3)],41,.leaf 3,λp=>ZXi p⟩)
theorem Z0v : KO ZZt := Z3s (C := cf0 [Zfe] [] [] [((41, "Neg"), 61), ((113, "Neg"), 164)]) (.n (.n (.f (.n (.f (.l [6, 7] [] [.s 3 (.own 41 (.leaf 3)), .s 8 (.dat (.int .i64))] 0 [] [] [.s 3 (.own 41 (.leaf 3))] .no)))))) Tryz.func91 [] (λ_ => by kernel_rfl) ⟨Zkf, tr⟩ tr ⟨ZPh, ZAg, tr⟩
noncomputable def qOf_q:FuncId×Con:=(197,⟨[.leaf 3,.leaf 3],[.leaf 3],λp=>qOf_m p.1 p.2⟩)
theorem qOf_k:KQ qOf_q:=Zy (Zya (C:=cf0 [] [] [] []) .no Tryz.func197 [] (λ_=>by kernel_rfl))
noncomputable def Zeg:FuncId×Con:=(93,⟨[.int .i64],[.leaf 3],λp=>ZTb p⟩)
theorem Zsh : KQ Zeg := Zy (Zya (C := cf0 [ZSf, qOf_q] [] [] [((41, "Of"), 197), ((113, "Of"), 131), ((115, "Of"), 105)]) .no Tryz.func93 [] (λ_ => by kernel_rfl) ⟨Zih, qOf_k, tr⟩ tr ⟨ZDx, Zoz, ZYz, tr⟩)
noncomputable def ZNj (x:Int) (y:Int):Option (Int×Int) :=
 bnd (ZDc x y) λa =>
 some ((a.1,a.2))
theorem bmul_w {c:World} {a:Zb} (hv:VIn a c) {d:List Value} {x:Int} (i:Rep.rel (Zd .u64) a d x) {e:List Value} {y:Int} (j:Rep.rel (Zd .u64) a e y) {z:Int×Int} (H:ZNj x y=some z):Ret Tryz.prog 110 #[(Zd .u64).val d,(Zd .u64).val e] c a (λy v'=>∃ g b,y = .tuple #[(Zd .u64).val g,(Zd .u64).val b]∧(Zd .u64).rel v' g z.1∧(Zd .u64).rel v' b z.2):=by
 obtain⟨rfl,b⟩:=i;obtain⟨rfl,k⟩:=j;refine ZKb (K:=30) (args:=[.int .u64 x,.int .u64 y]) hv Tryz.func110 rfl rfl zl λf S=>?_;unfold ZNj at H;refine sr (mw S rfl λf S=>mw S rfl λf S=>oe (Zn λ_ l=>ZZ S rfl rfl (wp_skip (Zh (l _ _ (Zn λ_ m=>bO H λh n H=>ZD (mv S rfl λf S=>mv S rfl λf S=>opc S rfl (ZK S [.int .u64 x,.int .u64 y] ZZl rfl rfl) (Z7l S.vin (show Rep.rel (Zd .u64) _ [.int .u64 x] x from (ZI b)) (show Rep.rel (Zd .u64) _ [.int .u64 y] y from (ZI k)) n) ?_)))))));rintro _ s f w t ⟨u,v,rfl,o,p⟩ S;obtain⟨rfl,q⟩:=o;obtain⟨rfl,r⟩:=p;refine mv S rfl λf S=>ov S rfl (Zfa S rfl rfl) λf S=>ov S rfl (Zfa S rfl rfl) λf S=>mw S rfl λf S=>mw S rfl λf S=>ZB (Zh (m _ _ (sr (mv S rfl λf S=>mv S rfl λf S=>mw S rfl λf S=>mw S rfl λf S=>oe (wp_ret ?_)))));obtain rfl:=Zv H;refine Zqa S (Zsc rfl (ZM S rfl) (ZM S rfl)) ⟨[.int .u64 (h.1)],[.int .u64 (h.2)],rfl,(ZI q),(ZI r)⟩
theorem ZCo:Elem Tryz.prog 32 41 (ZR).n 56 (Value.agg #[Value.bool false,Value.slice none 0 0,Value.slice none 0 0]):=⟨Tryz.underlying32,by kernel_rfl,rfl,by decide⟩
theorem Zzl:Z0b Tryz.prog 32 41 (ZR).n:=⟨λ_=>by kernel_rfl,λ_=>by kernel_rfl⟩
theorem Zex:Tryz.prog.follows .mixedOrders=true:=by kernel_rfl
theorem ZXu:ZE Tryz.prog 110:=λ_ _=>by kernel_rfl
theorem ZRt:Z5i Tryz.prog 3 190 .i64 .u64:=λ_ _=>by kernel_rfl
theorem Zux:Z5i Tryz.prog 190 3 .u64 .i64:=λ_ _=>by kernel_rfl
noncomputable def ZZh:FuncId×ConO:=(121,⟨[.slice (.leaf 3),.int .i64],41,.leaf 3,λp=>Zwd 56 p.1 p.2⟩)
theorem Z4k:ZAf Tryz.prog ZZh.1 ZZh.2:=λw v vals x z hv ha hz=>by
 obtain⟨cs,vs,rfl,p0,c1,rfl,rfl,hin⟩:=ha
 obtain⟨x1,k0⟩:=x
 have hz:Zwd 56 (show List Rat from x1) k0=some z:=hz
 obtain⟨y,hx1,hzr,hmk⟩:=Zzw hz
 have hx1:x1=[y]:=hx1
 subst hx1 hzr
 obtain⟨h0,_,hb1,hb2⟩:=Zde hmk
 obtain⟨k,rfl⟩:=oZ h0
 obtain⟨q,c,e,hc1,hc2,hne⟩:=(show (ZG ZR).rel v cs [y] from p0)
 subst e
 rcases hne with hne | ⟨b,off,cc,TT,fr,rfl,hvb,hrel⟩
 ·cases hne
 have hlen1:([y]:List Rat).length=1:=rfl
 rw[hlen1]at hrel
 obtain⟨c1,c2,e12,hrc,e2⟩:=hrel
 have e2:c2=[]:=e2
 subst e2
 rw[List.append_nil,Nat.one_mul]at e12
 have hl1:=Rep.len _ hrc
 have hAt:At v b off c1:=⟨cc,TT,fr,hvb,by rw[hl1];exact e12⟩
 refine⟨λ_ _=>by kernel_rfl,?_⟩
 have hk:((k:Int).toNat)=k:=tN k
 rw[hk]
 refine Zui (K:=48) (args:=[.slice (some ⟨b,off,none⟩) 1 c,.int .i64 (k:Int)]) hv Tryz.func121 rfl rfl zl λfa hS=>?_
 refine sr ?_
 refine mw hS rfl λfa hS=>?_
 refine oe ?_
 refine wp_seq_k λN1 hN1=>?_
 refine sr ?_
 refine mv hS rfl λfa hS=>?_
 refine ov hS rfl (Zs hS rfl rfl Z2c) λfa hS=>?_
 refine oe ?_
 refine ZZ hS rfl (dFq (by omega)) ?_
 refine wp_skip ?_
 refine Zh (hN1 _ _ ?_)
 refine sr ?_
 refine mv hS rfl λfa hS=>?_
 refine ov hS rfl (Z8b hS rfl rfl Zzl) λfa hS=>?_
 refine ov hS rfl (ZHd hS rfl (ZRt _)) λfa hS=>?_
 refine mv hS rfl λfa hS=>?_
 refine ov hS rfl (ZHd hS rfl (ZRt _)) λfa hS=>?_
 have w1:IntKind.u64.wrap ((1:Nat):Int)=1:=by decide
 have w2:IntKind.u64.wrap (k:Int)=k:=ZSc (Zhd.2 (by omega))
 rw[w1,w2]at hS
 have hmul:ZNj 1 (k:Int)=some (0,(k:Int)):=by
  unfold ZNj ZDc;rw[iP (by omega),Za];simp only;congr 2 <;> omega
 refine Zei hS wn rfl zl (ZK hS [.int .u64 1,.int .u64 (k:Int)] ZXu rfl rfl) (bmul_w hS.vin (show Rep.rel (Zd .u64) _ [.int .u64 1] 1 from ZI (by decide)) (show Rep.rel (Zd .u64) _ [.int .u64 (k:Int)] (k:Int) from ZI (Zhd.2 (by omega))) hmul) ?_;rintro _ v1 fa wo hle ⟨r0,r1,rfl,⟨rfl,_⟩,⟨rfl,_⟩⟩ hS;refine mv hS rfl λfa hS=>?_;refine ov hS rfl (Zfa hS rfl rfl) λfa hS=>?_;refine ov hS rfl (Zfa hS rfl rfl) λfa hS=>?_;refine mw hS rfl λfa hS=>?_;refine mw hS rfl λfa hS=>?_;refine oe ?_;refine wp_seq_k λN2 hN2=>?_;refine sr ?_;refine mv hS rfl λfa hS=>?_;refine ov hS rfl (Zs hS rfl rfl Zqf) λfa hS=>?_;have g1:decide ((0:Int)<0)=false:=rfl;have hS:St _ _ _ ((22,Value.bool false) :: _) _ _ _ _:=hS;refine mv hS rfl λfa hS=>?_;refine op_v hS (ZKd hS rfl rfl rfl zl) rfl zl (ZJ hS rfl) λfa hS=>?_;refine op_v hS (ZKd hS rfl rfl rfl zl) rfl zl (Zs hS rfl rfl Zqf) λfa hS=>?_;refine ov hS rfl (Zvc (b:=false) hS rfl rfl) λfa hS=>?_;refine oe ?_;refine ZZ hS rfl (dFq (by omega)) ?_;refine wp_skip ?_;refine Zh (hN2 _ _ ?_);refine sr ?_;refine mv hS rfl λfa hS=>?_;refine ov hS rfl (ZHd hS rfl (Zux _)) λfa hS=>?_;have w3:IntKind.i64.wrap (k:Int)=k:=ZSc (ZJa.2 (by omega));rw[w3]at hS;obtain⟨b2,wo,hrun,hS'⟩:=Z5l ZCo hS (l:=(k:Int)) (c:=(k:Int)) h0 (Int.le_refl _) hb1 hb2
 refine ZZc wn rfl zl (hrun rfl rfl) hS' λfa hS=>?_;refine mw hS rfl λfa hS=>?_;refine oe ?_;rw[hk]at hS;have hS:=hS.fr' (σ':=[(7,.slice (mkA (some b2)) k k),(0,.slice (some ⟨b,off,none⟩) 1 c)]) rfl;have src1:∀ {σ:List (Nat×Value)} {ℓ:List Loc} {v':Zb} {a:Act} {w':World},St 48 w v σ ℓ v' a w'→∀ j u,c1[j]? = some u→w'.cell? ((⟨b,off,none⟩:Addr).add j)=some u:=λhS j u hu=>by
  have:=(hS.view (At.mono hS.vst.le hAt)).cell hu
  rwa [Z0a]
 have hpl1:c1.all plain=true:=Rep.flat _ hrc;obtain⟨zc,hzc⟩:∃ zc:List Value,zc=(Value.agg #[Value.bool false,Value.slice none 0 0,Value.slice none 0 0]:Value).cells.toList:=⟨_,rfl⟩;have hzl:zc.length=(ZR).n:=by rw[hzc];rfl
 rw[← hzc]at hS
 let Inv:Nat→Act→World→Prop:=λj a w'=>∃ v',j≤k∧(0<k→0<j)∧St 48 w v [(8,.int .i64 (j:Int)),(7,.slice (mkA (some b2)) k k)] [.own (some b2) 41 (ZR).n k k ((List.replicate j c1).flatten++(List.replicate (k-j) zc).flatten)] v' a w'
 have rl:=λn=>Zvj hl1 n;have rpl:∀ n:Nat,((List.replicate n c1).flatten).all plain=true:=λn=>Zpy hpl1 n;have step:=λj m (hjm:j+m≤k)=>rp_step (k:=k) hl1 hzl hjm;refine sr ?_;refine mv hS rfl λfa hS=>?_;refine mv hS rfl λfa hS=>?_;have hS1:St 48 w v _ [.own (some b2) 41 (ZR).n k k ((List.replicate 0 c1).flatten++(List.replicate (k-0) zc).flatten)] v1 fa wo:=hS;obtain⟨wo2,hr,hS'⟩:=ZEr (t:=32) (sT:=32) ZCo hS1 (i:=0) rfl (p:=0) (k:=min 1 k) (c:=(List.replicate (min 1 k) c1).flatten) (rl _) (by omega) (rpl _) (ad:=⟨b,off,none⟩) (sLen:=1) (sCap:=c) (dLen:=k) (dCap:=k) (λj u hu=>by
  rcases Nat.lt_or_ge 0 k with hk0 | hk0
  ·rw[show min 1 k=1 by omega]at hu;simp only[List.replicate_one,List.flatten_cons,List.flatten_nil,List.append_nil]at hu;exact src1 hS1 j u hu
  ·rw[show min 1 k=0 by omega]at hu;simp at hu) rfl
 have hst:=step 0 (min 1 k) (by omega);simp only[List.set_cons_zero]at hS';rw[hst]at hS';simp only[Nat.zero_add]at hS';rw[Nat.zero_mul]at hr;refine ZZc wn rfl zl (ZWr hS1 rfl rfl (hr _)) hS' λfa hS=>?_;refine mw hS rfl λfa hS=>?_;refine oe ?_;have hS:=hS.fr' (σ':=[(8,.int .i64 ((min 1 k:Nat):Int)),(7,.slice (mkA (some b2)) k k)]) rfl;refine wp_seq_k λN3 hN3=>?_;refine wp_block ?_;refine wp_loop_fuel (λm a w'=>∃ j,k-j<m∧Inv j a w') (k+1) ⟨min 1 k,by omega,v1,by omega,by omega,hS⟩ (λa w' ⟨j,h,_⟩=>by omega) ?_;rintro m fa wo3 ⟨j,hjm,v3,hjk,hj0,hS⟩ N hN;refine wp_seq_k λN4 hN4=>?_;refine sr ?_;refine mv hS rfl λfa hS=>?_;refine mv hS rfl λfa hS=>?_;refine ov hS rfl (Z8b hS rfl rfl Zzl) λfa hS=>?_;refine ov hS rfl (Zs hS rfl rfl Z2c) λfa hS=>?_;refine oe ?_;by_cases hlt:j<k
 ·refine Zka hS rfl (dTq (by omega)) ?_;refine wp_skip ?_;refine Zh (hN4 _ _ ?_);refine wp_block ?_;have hS:=hS.fr' (σ':=[(8,.int .i64 (j:Int)),(7,.slice (mkA (some b2)) k k)]) rfl;refine Zgf (fl:=#[true,true,true,true,true,true,true,false,false,false]) Zex (by kernel_rfl) hS ?_;intro ops hops hF wo hS;refine rf hops hF 0 rfl (by kernel_rfl) rfl hS (ZJ hS rfl) λfa hS=>?_;refine rf hops hF 1 rfl (by kernel_rfl) rfl hS (ZJ hS rfl) λfa hS=>?_;refine rf hops hF 2 rfl (by kernel_rfl) rfl hS (ZJ hS rfl) λfa hS=>?_;refine rf hops hF 3 rfl (by kernel_rfl) rfl hS (Zwz hS Zzl rfl rfl (by omega) (by omega)) λfa hS=>?_;refine rf hops hF 4 rfl (by kernel_rfl) rfl hS (ZJ hS rfl) λfa hS=>?_;refine rf hops hF 5 rfl (by kernel_rfl) rfl hS (ZJ hS rfl) λfa hS=>?_;refine rf hops hF 6 rfl (by kernel_rfl) rfl hS (Z0m hS Zzl rfl rfl (by omega) (by omega)) λfa hS=>?_;rw[Nat.zero_add]at hS;obtain⟨wo',hr,hS'⟩:=ZEr (t:=32) (sT:=32) ZCo hS (i:=0) rfl (p:=j) (k:=min j (k-j)) (c:=(List.replicate (min j (k-j)) c1).flatten) (rl _) (by omega) (rpl _) (ad:=⟨b2,0,none⟩) (sLen:=j) (sCap:=k) (dLen:=k-j) (dCap:=k-j) (λi u hu=>by
   have hi:=(List.getElem?_eq_some_iff.1 hu).1;refine Z9g hS (j:=0) rfl i u ?_;rw[ZVq (c:=c1) (m:=min j (k-j)) (n:=j) (by omega),aAq,List.getElem?_append_left hi];exact hu) rfl
  have hst:=step j (min j (k-j)) (by omega);simp only[List.set_cons_zero]at hS';rw[hst]at hS';refine ZKf hops hF 7 (by kernel_rfl) ?_;refine Z9m [3,6,1,2,4,5] [0] hops rfl (by kernel_rfl) wn rfl zl (ZWr hS rfl rfl (hr _)) hS' λfa hS=>?_;refine⟨(py hS rfl rfl (ZJ hS rfl) Z4a),?_⟩;refine ZKf hops hF 8 (by kernel_rfl) ?_;have hadd:chk .i64 ((j:Int)+((min j (k-j):Nat):Int))=some ((j+min j (k-j):Nat):Int):=by rw[Zm (by omega) (by omega)];rfl
  refine nv [0,7,3,6,1,2,4,5] [] hops rfl (by kernel_rfl) rfl hS (Zs hS rfl rfl (ZJc hadd)) λfa hS=>?_;refine⟨Z4a,?_⟩;refine ZKf hops hF 9 (by kernel_rfl) ?_;refine nv [0,1,2,3,4,5,6,7,8] [] hops rfl (by kernel_rfl) rfl hS (Z6c hS rfl) λfa hS=>?_;refine⟨Z4a,?_⟩;refine ZBj hops hF (by kernel_rfl) ?_;refine Zgd ?_;have hj0:=hj0 (by omega);exact Zh (hN _ _ ⟨j+min j (k-j),by omega,v3,by omega,λ_=>by omega,hS.fr' rfl⟩)
 refine ZZ hS rfl (dFq (by omega)) ?_;refine wp_exit ?_;refine Zxb ?_;refine Zxb ?_;refine Z3d ?_;refine Zh (hN3 _ _ ?_);have hjk:j=k:=by omega
 subst hjk;rw[Nat.sub_self,List.replicate_zero,List.flatten_nil,List.append_nil]at hS;refine sr ?_;refine mv hS rfl λfa hS=>?_;refine mw hS rfl λfa hS=>?_;refine oe ?_;refine wp_ret ?_;exact Zpm hS (i:=0) rfl (ZYa rfl (ZM hS rfl)) (ZTh (Rep.mono _ hS.vst.le hrc) _) (List.length_replicate (n:=j) (a:=y)).symm
noncomputable def ZKj:FuncId×ConO:=(92,⟨[.int .i64],41,.leaf 3,λp=>ZCh p⟩)
theorem ZJm:KO ZKj:=Z3s (C:=cf0 [Zeg] [] [ZZh] []) .no Tryz.func92 [] (λ_=>by kernel_rfl) ⟨Zsh,tr⟩ ⟨Z4k,tr⟩
noncomputable def ZVr:FuncId×Con:=(125,⟨[.ptr (.pair (.slice (.slice (.leaf 3))) (.pair (.slice (.leaf 3)) (.pair (.slice (.leaf 3)) (.pair (.leaf 3) (.pair (.slice (.int .i64)) (.slice (.int .i64))))))),.int .i64],[.slice (.leaf 3)],λp=>Zfi p.1 p.2⟩)
theorem Ziw:KQ ZVr:=Zy (Zya (C:=cf0 [] [] [ZKj] []) (.n (.n (.f (.n (.f (.l [0,1,5,13,14] [] [.s 15 (.dat (.int .i64)),.l (.sl 5) (.own 41 (.leaf 3))] 0 [5] [] [.l (.sl 5) (.own 41 (.leaf 3))] (.f (.n (.n (.f (.f (.n (.n (.j [0,1,5,13,14,15] [] [.l (.sl 5) (.own 41 (.leaf 3))] .no)))))))))))))) Tryz.func125 [] (λ_=>by kernel_rfl) tr ⟨ZJm,tr⟩)
noncomputable def Z9r:FuncId×Con:=(126,⟨[.ptr (.pair (.slice (.slice (.leaf 3))) (.pair (.slice (.leaf 3)) (.pair (.slice (.leaf 3)) (.pair (.leaf 3) (.pair (.slice (.int .i64)) (.slice (.int .i64))))))),.int .i64,.int .i64],[.slice (.leaf 3)],λp=>Z8k p.1 p.2.1 p.2.2⟩)
theorem Zgy : KQ Z9r := Zy (Zya (C := cf0 [Zfe] [] [ZKj] [((41, "Neg"), 61), ((113, "Neg"), 164)]) (.n (.n (.f (.n (.f (.l [0, 1, 2, 7, 15, 16] [] [.s 17 (.dat (.int .i64)), .l (.sl 7) (.own 41 (.leaf 3))] 0 [7] [] [.l (.sl 7) (.own 41 (.leaf 3))] (.f (.n (.n (.f (.f (.n (.two (.j [0, 1, 2, 7, 8, 9, 15, 16, 17] [] [.s 31 (.dat .bool)] .no) (.j [0, 1, 2, 7, 15, 16, 17] [] [.l (.sl 7) (.own 41 (.leaf 3))] .no)))))))))))))) Tryz.func126 [] (λ_ => by kernel_rfl) ⟨Zkf, tr⟩ ⟨ZJm, tr⟩ ⟨ZPh, ZAg, tr⟩)
noncomputable def Zpq:FuncId×ConM:=(154,⟨[.slice (.slice (.leaf 3))],32,41,.leaf 3,λp=>Z4j p⟩)
theorem Zqv:KW Zpq:=conm_z (C:=cf0 [] [8] [Zxi] []) (.n (.n (.f (.n (.f (.l [3,9,10] [] [.s 11 (.dat (.int .i64)),.l (.sl 3) (.mat 32 41 (.leaf 3))] 0 [3] [] [.l (.sl 3) (.mat 32 41 (.leaf 3))] .no)))))) Tryz.func154 [] (λ_=>by kernel_rfl) tr ⟨ZIo,tr⟩
noncomputable def ZSn:FuncId×ConB:=(155,⟨217,(.agg (.cons (.mat 32 41 (.leaf 3)) (.cons (.own 41 (.leaf 3)) (.cons (.own 41 (.leaf 3)) (.cons (.dat (.leaf 3)) (.cons (.own 3 (.int .i64)) (.one (.own 3 (.int .i64))))))))),[.int .i64,.int .i64],[],λz x=>Z9e z x.1 x.2⟩)
theorem ZKt : KB ZSn := ZIg (C := cf0 [Zmf, ZMk, ZCe, Z3e, ZQg, Zfe, Zeg] [] [] [((41, "Add"), 13), ((41, "Div"), 42), ((41, "Mul"), 51), ((41, "Neg"), 61), ((41, "Sub"), 34), ((41, "Zero"), 19), ((113, "Add"), 130), ((113, "Mul"), 132), ((113, "Neg"), 164), ((113, "Sub"), 133), ((113, "Zero"), 203), ((115, "Add"), 104), ((115, "Mul"), 106)]) (.n (.n (.two (.n (.f (.l [0, 1, 2, 7, 37] [] [.s 38 (.dat (.int .i64)), .l (.sl 20) (.mat 32 41 (.leaf 3))] 0 [0, 1, 2, 7] [] [.l (.sl 20) (.mat 32 41 (.leaf 3))] .no))) (.n (.n (.f (.n (.f (.l [0, 1, 2, 94] [] [.s 95 (.dat (.int .i64)), .l (.sl 67) (.mat 32 41 (.leaf 3)), .l (.sl 77) (.own 41 (.leaf 3))] 2 [0, 1, 2] [] [.l (.sl 67) (.mat 32 41 (.leaf 3)), .l (.sl 77) (.own 41 (.leaf 3))] (.f (.n (.n (.f (.j [0, 1, 2, 94, 95] [] [.l (.fld (.sl 0) 0) (.mat 32 41 (.leaf 3)), .l (.fld (.sl 0) 1) (.own 41 (.leaf 3))] (.f (.n (.f (.f (.j [0, 1, 2, 10, 94, 95] [] [.s 114 (.dat .bool)] .no))))))))))))))))))) Tryz.func155 [(173, Tryz.f173, .sel 1 (.n (.f (.n (.f (.l [0, 1, 2, 3, 8, 15] [] [.s 16 (.dat (.int .i64)), .l (.fld (.sl 0) 0) (.agg (.mat 32 41 (.leaf 3)))] 0 [0, 1, 2, 3, 8] [] [.l (.fld (.sl 0) 0) (.agg (.mat 32 41 (.leaf 3)))] .no))))) (.n (.f (.n (.f (.l [0, 1, 2, 3, 8, 15] [] [.s 16 (.dat (.int .i64)), .l (.sl 1) (.own 41 (.leaf 3))] 0 [0, 1, 2, 3, 8] [] [.l (.sl 1) (.own 41 (.leaf 3))] .no))))))] (λ_ _ => by kernel_rfl) ⟨ZYf, Zdo, ZJf, Z5f, Zmi, Zkf, Zsh, tr⟩ tr ⟨Zlt, ZWt, ZEs, ZPh, ZRo, ZYr, Zap, Zyu, ZAg, Zus, ZCp, Z9t, ZNp, tr⟩ ⟨⟨Tryz.func173, λ_ _ => by kernel_rfl⟩, tr⟩
noncomputable def Z6o:FuncId×ConB:=(160,⟨217,(.agg (.cons (.mat 32 41 (.leaf 3)) (.cons (.own 41 (.leaf 3)) (.cons (.own 41 (.leaf 3)) (.cons (.dat (.leaf 3)) (.cons (.own 3 (.int .i64)) (.one (.own 3 (.int .i64))))))))),[],[.int .i64],λz x=>Zvh z⟩)
theorem Z6w : KB Z6o := ZIg (C := cf0 [ZOc] [] [] [((41, "Sign"), 21)]) (.n (.n (.f (.n (.f (.l [0, 9, 10] [] [.s 3 (.dat (.int .i64)), .s 11 (.dat (.int .i64))] 0 [] [] [.s 3 (.dat (.int .i64))] (.f (.n (.n (.f (.f (.n (.two (.j [0, 3, 4, 9, 10, 11] [] [.s 40 (.dat .bool)] .no) (.j [0, 9, 10, 11] [] [.s 3 (.dat (.int .i64))] .no)))))))))))))) Tryz.func160 [] (λ_ _ => by kernel_rfl) ⟨Z9c, tr⟩ tr ⟨Zsl, tr⟩
noncomputable def ZEq:FuncId×ConB:=(161,⟨217,(.agg (.cons (.mat 32 41 (.leaf 3)) (.cons (.own 41 (.leaf 3)) (.cons (.own 41 (.leaf 3)) (.cons (.dat (.leaf 3)) (.cons (.own 3 (.int .i64)) (.one (.own 3 (.int .i64))))))))),[.int .i64,.int .i64],[.int .i64],λz x=>ZYg z x.1 x.2⟩)
theorem Z6z : KB ZEq := ZIg (C := cf0 [Zye, ZOc, Z3e] [] [] [((41, "Cmp"), 11), ((41, "Div"), 42), ((41, "Sign"), 21)]) (.n (.n (.n (.f (.n (.f (.l [0, 1, 2, 8, 17] [] [.s 7 (.dat (.int .i64)), .s 18 (.dat (.int .i64)), .l (.sl 8) (.box 41 (.dat (.leaf 3)))] 0 [] [] [.s 7 (.dat (.int .i64))] (.f (.n (.n (.f (.j [0, 1, 2, 8, 17, 18] [] [.s 7 (.dat (.int .i64)), .l (.sl 8) (.box 41 (.dat (.leaf 3)))] (.f (.n (.n (.n (.n (.two (.n (.j [0, 1, 2, 7, 8, 9, 10, 17, 18] [] [.s 12 (.dat (.int .i64))] .no)) (.two (.j [0, 1, 2, 7, 8, 9, 10, 17, 18] [] [.s 110 (.dat .bool)] .no) (.j [0, 1, 2, 8, 17, 18] [] [.s 7 (.dat (.int .i64)), .l (.sl 8) (.box 41 (.dat (.leaf 3)))] .no)))))))))))))))))))) Tryz.func161 [] (λ_ _ => by kernel_rfl) ⟨Z8e, Z9c, Z5f, tr⟩ tr ⟨Z7r, ZWt, Zsl, tr⟩
noncomputable def ZOl:FuncId×ConB:=(124,⟨217,(.agg (.cons (.mat 32 41 (.leaf 3)) (.cons (.own 41 (.leaf 3)) (.cons (.own 41 (.leaf 3)) (.cons (.dat (.leaf 3)) (.cons (.own 3 (.int .i64)) (.one (.own 3 (.int .i64))))))))),[.int .i64],[.int .i64],λz x=>ZMi z x⟩)
theorem ZNs:KB ZOl:=ZIg (C:=cf1 [] [] [] [] [] [ZSn,Z6o,ZEq] []) (.n (.f (.cut ⟨⟨[0,1],[.fld (.sl 0) 0,.fld (.sl 0) 1,.fld (.sl 0) 2,.fld (.sl 0) 6,.fld (.sl 0) 7],[.l (.sl 0) (.box 217 (.agg (.cons (.mat 32 41 (.leaf 3)) (.cons (.own 41 (.leaf 3)) (.cons (.own 41 (.leaf 3)) (.cons (.dat (.leaf 3)) (.cons (.own 3 (.int .i64)) (.one (.own 3 (.int .i64))))))))))]⟩,[(.ret,⟨[],[.fld (.sl 0) 0,.fld (.sl 0) 1,.fld (.sl 0) 2,.fld (.sl 0) 6,.fld (.sl 0) 7],[.s 1000 (.dat (.int .i64)),.l (.sl 0) (.box 217 (.agg (.cons (.mat 32 41 (.leaf 3)) (.cons (.own 41 (.leaf 3)) (.cons (.own 41 (.leaf 3)) (.cons (.dat (.leaf 3)) (.cons (.own 3 (.int .i64)) (.one (.own 3 (.int .i64))))))))))]⟩)]⟩ .no))) Tryz.func124 [] (λ_ _=>by kernel_rfl) tr tr tr tr tr ⟨ZKt,Z6w,Z6z,tr⟩
noncomputable def ZKr:FuncId×ConB:=(126,⟨217,(.agg (.cons (.mat 32 41 (.leaf 3)) (.cons (.own 41 (.leaf 3)) (.cons (.own 41 (.leaf 3)) (.cons (.dat (.leaf 3)) (.cons (.own 3 (.int .i64)) (.one (.own 3 (.int .i64))))))))),[.int .i64,.int .i64],[.slice (.leaf 3)],λz x=>ZBl z x.1 x.2⟩)
theorem ZCA : KB ZKr := ZIg (C := cf0 [Zfe, Zeg] [] [ZZh] [((41, "Neg"), 61), ((113, "Neg"), 164)]) (.n (.n (.f (.n (.f (.l [0, 1, 2, 7, 15, 16] [] [.s 17 (.dat (.int .i64)), .l (.sl 7) (.own 41 (.leaf 3))] 0 [7] [] [.l (.sl 7) (.own 41 (.leaf 3))] (.f (.n (.n (.f (.f (.n (.two (.j [0, 1, 2, 7, 8, 9, 15, 16, 17] [] [.s 31 (.dat .bool)] .no) (.j [0, 1, 2, 7, 15, 16, 17] [] [.l (.sl 7) (.own 41 (.leaf 3))] .no)))))))))))))) Tryz.func126 [(92, Tryz.f92, .no)] (λ_ _ => by kernel_rfl) ⟨Zkf, Zsh, tr⟩ ⟨Z4k, tr⟩ ⟨ZPh, ZAg, tr⟩ ⟨⟨Tryz.func92, λ_ _ => by kernel_rfl⟩, tr⟩
end Go.Eng
namespace Go.Eng
open Go.RowKit
section
variable {P:Program} {K:Nat} {w0:Base} {v0:Zb} {σ:List (Nat×Value)} {ℓ:List Loc} {v:Zb} {a:Act} {w:World}
variable {d:Option Nat} {ty:TypeId} {pos:String} {aft:Array Edge} {g:Option (Nat×Bool)}
theorem Zet (hS:St K w0 v0 σ ℓ v a w) {t e:TypeId} {sz b n cap p q m:Nat} {x lo hi mx:Operand} {k k2 k3:IntKind} (ht:Z0b P t e sz) (e1:ev σ x=some (.slice (some ⟨b,0,none⟩) n cap)) (e2:ev σ lo=some (.int k (p:Int))) (e3:ev σ hi=some (.int k2 (q:Int))) (e4:ev σ mx=some (.int k3 (m:Int))) (h1:p≤q) (h2:q≤m) (h3:m≤cap) :
  ∃ y,(execOp a.eval ⟨d,.slice t x (some lo) (some hi) (some mx),ty,pos,aft,g⟩).run P w = .ok (.value y) w:=by
 have h4:(0:Int)≤(p:Int)∧(p:Int)≤(q:Int):=by omega
 have h5:(0:Int)≤(q:Int)∧(q:Int)≤(m:Int):=by omega
 have h6:(0:Int)≤(m:Int)∧(m:Int)≤(cap:Int):=by omega
 exact⟨.slice (if m=p then some ⟨b,0,none⟩ else some (Addr.add ⟨b,0,none⟩ (p*sz))) (q-p) (m-p),by simp[execOp,Instr.sliceAt,Instr.slice,Instr.sliceBounds,Instr.sliceBound,asIntOf,hS.eval e1,hS.eval e2,hS.eval e3,hS.eval e4,ht.1,ht.2,h1,h2,h3,h4,h5,h6]⟩
theorem ZTt (hS:St K w0 v0 σ ℓ v a w) {t e:TypeId} {sz b n cap p q:Nat} {x lo hi:Operand} {k k2:IntKind} (ht:Z0b P t e sz) (e1:ev σ x=some (.slice (some ⟨b,0,none⟩) n cap)) (e2:ev σ lo=some (.int k (p:Int))) (e3:ev σ hi=some (.int k2 (q:Int))) (h1:p≤q) (h2:q≤cap) (hc:p<cap) :
  (execOp a.eval ⟨d,.slice t x (some lo) (some hi) none,ty,pos,aft,g⟩).run P w = .ok (.value (.slice (some ⟨b,p*sz,none⟩) (q-p) (cap-p))) w:=by
 have h4:(0:Int)≤(p:Int)∧(p:Int)≤(q:Int):=by omega
 have h5:(0:Int)≤(q:Int)∧(q:Int)≤(cap:Int):=by omega
 have h6:¬ cap=p:=by omega
 simp[execOp,Instr.sliceAt,Instr.slice,Instr.sliceBounds,Instr.sliceBound,asIntOf,hS.eval e1,hS.eval e2,hS.eval e3,ht.1,ht.2,h1,h2,h4,h5,h6,Z0a]
theorem Zfp {t e ty:TypeId} {sz bytes:Nat} {z:Value} (E:Elem P t e sz bytes z) (hS:St K w0 v0 σ ℓ v a w) {i n cap b:Nat} {cs:List Value} (hi:ℓ[i]? = some (.own (some b) e sz n cap cs))
  {q m c:Nat} {ad:Addr} {news:List Value} (hl:news.length=m*sz) (hnews:∀ j u,news[j]? = some u→w.cell? (ad.add j)=some u) (hp:news.all plain=true) (hq:q+m≤n) :
  ∃ w',(Builtin.append_ #[t,t] ty #[.slice (some ⟨b,0,none⟩) q cap,.slice (some ad) m c]).run P w = .ok (.slice (some ⟨b,0,none⟩) (q+m) cap) w' ∧
   St K w0 v0 σ (ℓ.set i (.own (some b) e sz n cap (cs.take (q*sz)++news++cs.drop (q*sz+news.length)))) v a w':=by
 obtain⟨inf,hinf,hz,hs,hby⟩:=info_parts E.info;subst hs;obtain⟨hcl,cur,hg,hnc,hcx,hcs,htake⟩:=(hS.loc _ (mG hi)).1;have h1:q*inf.size+news.length≤n*inf.size:=by rw[hl,← Nat.add_mul];exact mR _ hq
 have h2:n*inf.size≤cap*inf.size:=mR _ hnc;have hcl2:cur.toList.length=cap*inf.size:=by simpa using hcs
 have hr:=run_append_room (P:=P) w t ty e inf E.ty hinf b q cap cur hg ad m c news hl hnews (Z0k hp) (by omega) (by omega);refine⟨_,hr,hS.setRow hi rfl rfl ⟨?_,_,setRow_heap w b cur _ e _ hg,hnc,hcx,?_,?_⟩⟩
 ·simp;omega
 ·simp;omega
 ·show List.take (n*inf.size) (_++_++_)=_;rw[Z8j _ _ _ _ h1 (by omega),htake]
theorem ZRs {t e ty:TypeId} {sz bytes:Nat} {z:Value} (E:Elem P t e sz bytes z) (hS:St K w0 v0 σ ℓ v a w) {i n cap b:Nat} {cs:List Value} (hi:ℓ[i]? = some (.own (some b) e sz n cap cs)) {p c:Nat} (hp:p+1≤n) (hz1:∀ x ∈ (Builtin.zeroCells z.cells 1).toList,x.oneCell'=true) :
  ∃ w' zc,zc.length=sz∧(∀ ty,(Builtin.clear_ #[t] ty #[.slice (some ⟨b,p*sz,none⟩) 1 c]).run P w = .ok (.tuple #[]) w') ∧
   St K w0 v0 σ (ℓ.set i (.own (some b) e sz n cap (cs.take (p*sz)++zc++cs.drop (p*sz+zc.length)))) v a w':=by
 obtain⟨inf,hinf,hz,hs,hby⟩:=info_parts E.info;obtain⟨hcl,cur,hg,hnc,hcx,hcs,htake⟩:=(hS.loc _ (mG hi)).1;have hzl:(Builtin.zeroCells z.cells 1).toList.length=sz:=by
  have:=size_zeroCells z.cells 1;rw[E.cells]at this
  simpa using this
 have h1:p*sz+sz≤n*sz:=by
  have:=mR sz hp;rw[Nat.add_mul,Nat.one_mul]at this;exact this
 have h2:n*sz≤cap*sz:=mR _ hnc;have hcl2:cur.toList.length=cap*sz:=by simpa using hcs
 have hst:=run_storeCells_at P b (p*sz) e (Builtin.zeroCells z.cells 1).toList 0 cur w hg (by rw[hzl];omega) hz1;have hzv:∀ w:World,(zeroValue e).run P w = .ok z w:=λw=>by simp[zeroValue,typeInfo,hinf,hz]
 refine⟨_,(Builtin.zeroCells z.cells 1).toList,hzl,λty=>?_,hS.setRow hi rfl rfl (c:=(cur.toList.take (p*sz)++(Builtin.zeroCells z.cells 1).toList++cur.toList.drop (p*sz+(Builtin.zeroCells z.cells 1).toList.length)).toArray) ⟨?_,_,setRow_heap w b cur _ e _ hg,hnc,hcx,?_,?_⟩⟩
 ·simp at hst;simp[Builtin.clear_,run_underlying E.ty,hzv,hst]
 ·simp at hzl ⊢;omega
 ·simp at hzl ⊢;omega
 ·show List.take (n*sz) (_++_++_)=_;rw[Z8j _ _ _ _ (by rw[hzl];exact h1) (by omega),htake]
theorem Zoq (hS:St K w0 v0 σ ℓ v a w) {t:TypeId} {x:Operand} {p r:Value} {w':World} (e:ev σ x=some p) (h:(Builtin.clear_ #[t] ty #[p]).run P w = .ok r w') :
  (execOp a.eval ⟨d,.call ⟨.builtin .clear,#[x],#[t]⟩,ty,pos,aft,g⟩).run P w = .ok (.value r) w':=by
 simp[execOp,resolve,invoke,builtin,hS.eval e,h]
theorem Zbs {ops:Array Oper} {Q:Exit→Act→World→Prop} {rest:List Oper} {o:Oper} {x:Value} {w':World} (hw:Region.wanted o (yielded ops a.tmps)=true) (hd:o.dst=none) (hrun:(execOp a.eval o).run P w = .ok (.value x) w') (h:wpList P ops Q rest a w'):wpList P ops Q (o :: rest) a w :=
 ZRc hw (ZAe hrun (by rw[hd];exact h))
theorem St.narrow (h:St K w0 v0 σ ℓ v a w) {i b n m cap sz:Nat} {T:TypeId} {cs:List Value} (hi:ℓ[i]? = some (.own (some b) T sz n cap cs)) (hm:m≤n):St K w0 v0 σ (ℓ.set i (.own (some b) T sz m cap (cs.take (m*sz)))) v a w:=by
 obtain⟨hcl,cur,hg,hnc,hcx,hcs,htake⟩:=(h.loc _ (mG hi)).1;have h1:m*sz≤n*sz:=mR _ hm;refine h.setSame hi rfl ⟨?_,cur,hg,by omega,hcx,hcs,?_⟩
 ·rw[List.length_take];omega
 ·rw[← htake,List.take_take,Nat.min_eq_left h1]
end
theorem ZXs {cs zc:List Value} {sz i n:Nat} (hc:cs.length=n*sz) (hi:i<n) (hz:zc.length=sz) :
  (((cs.take (i*sz)++cs.drop ((i+1)*sz)++cs.drop (i*sz+(cs.drop ((i+1)*sz)).length)).take ((n-1)*sz)++zc++(cs.take (i*sz)++cs.drop ((i+1)*sz)++cs.drop (i*sz+(cs.drop ((i+1)*sz)).length)).drop ((n-1)*sz+zc.length)).take ((n-1)*sz))=cs.take (i*sz)++cs.drop ((i+1)*sz):=by
 have h1:i*sz≤n*sz:=mR _ (by omega);have h2:(i+1)*sz≤n*sz:=mR _ (by omega);have h3:(i+1)*sz=i*sz+sz:=by rw[Nat.add_mul,Nat.one_mul]
 have h4:(n-1)*sz=n*sz-sz:=by rw[Nat.sub_mul,Nat.one_mul]
 have hl:(cs.take (i*sz)++cs.drop ((i+1)*sz)).length=(n-1)*sz:=by
  rw[lA,List.length_take,List.length_drop];omega
 rw[aAq (List.take _ _) zc,List.take_append_of_le_length (by rw[List.length_take,lA,hl];omega),List.take_take,Nat.min_self,List.take_append_of_le_length (by rw[hl];omega),List.take_of_length_le (by rw[hl];omega)]
end Go.Eng
namespace Go.Eng
open Go.Proofs Go.RowKit
theorem ZSo:Elem Tryz.prog 73 3 ((Zd .i64)).n 8 (Value.int IntKind.i64 0):=⟨Tryz.underlying73,by kernel_rfl,rfl,by decide⟩
theorem Z7f:Z0b Tryz.prog 73 3 ((Zd .i64)).n:=⟨λ_=>by kernel_rfl,λ_=>by kernel_rfl⟩
theorem Zfy:Tryz.prog.follows .mixedOrders=true:=by kernel_rfl
noncomputable def ZPl:FuncId×ConD:=(158,⟨3,.int .i64,λl i j=>Zrd l i j⟩)
theorem Zqz:ZDh Tryz.prog ZPl.1 ZPl.2:=λw v ob n cap cs l i0 j0 z hv hh hnv hA hn hi hj hz=>by
 have hz:Zrd (show List Int from l) i0 j0=some z:=hz
 obtain⟨i,rfl,rfl,hin,rfl⟩:=ZMs hz
 have hA:((Zd .i64)).rels v cs (show List Int from l):=hA
 have hin:i<n:=by rw[hn];exact hin
 have hcs:cs.length=n*((Zd .i64)).n:=by rw[hn];exact Zmd hA
 refine⟨λ_ _=>by kernel_rfl,?_⟩
 refine ZDt (K:=33) (args:=[.slice (mkA ob) n cap,.int .i64 (i:Int),.int .i64 ((i+1:Nat):Int)]) hv hh hnv Tryz.func158 rfl rfl zl λfa hS=>?_
 obtain⟨b,rfl⟩:=Zpd hS (j:=0) rfl (by omega)
 obtain⟨_,cur,hg,hnc,hcx,hcu,htk⟩:=(hS.loc _ (mG (i:=0) rfl)).1
 unfold maxLen at hcx
 refine sr ?_
 refine mw hS rfl λfa hS=>?_
 refine oe ?_
 refine sr ?_
 refine mv hS rfl λfa hS=>?_
 refine mv hS rfl λfa hS=>?_
 refine mv hS rfl λfa hS=>?_
 refine mv hS rfl λfa hS=>?_
 refine ov hS rfl (Z8b hS rfl rfl Z7f) λfa hS=>?_
 have h3 := @Zet _ _ _ _ _ _ _ _ _ (some 13) 73 "" #[] none hS 73 3 ((Zd .i64)).n b n cap i (i + 1) n (.tmp 8) (.tmp 9) (.tmp 10) (.tmp 12) .i64 .i64 .i64 Z7f rfl rfl rfl rfl (by omega) (by omega) hnc
 obtain⟨y3,h3⟩:=h3
 refine ov hS rfl h3 λfa hS=>?_
 refine oe ?_
 refine wp_seq_k λN1 hN1=>?_
 refine sr ?_
 refine mv hS rfl λfa hS=>?_
 refine mv hS rfl λfa hS=>?_
 refine ov hS rfl (Zs hS rfl rfl ZMf) λfa hS=>?_
 refine oe ?_
 refine ZZ hS rfl (by simp only[beq_eq_false_iff_ne,ne_eq];omega) ?_
 refine wp_skip ?_
 refine Zh (hN1 _ _ ?_)
 refine sr ?_
 refine mv hS rfl λfa hS=>?_
 refine ov hS rfl (Z8b hS rfl rfl Z7f) λfa hS=>?_
 refine mw hS rfl λfa hS=>?_
 refine oe ?_
 refine wp_seq_k λN2 hN2=>?_
 refine Zgf (fl:=#[true,true,true,true,true,true,false,false]) Zfy (by kernel_rfl) hS ?_
 intro ops hops hF wo hS
 refine rf hops hF 0 rfl (by kernel_rfl) rfl hS (ZJ hS rfl) λfa hS=>?_
 refine rf hops hF 1 rfl (by kernel_rfl) rfl hS (ZJ hS rfl) λfa hS=>?_
 refine rf hops hF 2 rfl (by kernel_rfl) rfl hS (Z0m hS Z7f rfl rfl (by omega) (by omega)) λfa hS=>?_
 refine rf hops hF 3 rfl (by kernel_rfl) rfl hS (ZJ hS rfl) λfa hS=>?_
 refine rf hops hF 4 rfl (by kernel_rfl) rfl hS (ZJ hS rfl) λfa hS=>?_
 obtain⟨ad,had,hsrc⟩:∃ ad:Addr,(if cap=i+1 then mkA (some b) else (mkA (some b)).map (·.add ((i+1)*((Zd .i64)).n)))=some ad∧∀ j u,(cs.drop ((i+1)*((Zd .i64)).n))[j]? = some u→wo.cell? (ad.add j)=some u:=by
  by_cases h:cap=i+1
  ·refine⟨⟨b,0,none⟩,by rw[iP h];rfl,λj u hu=>?_⟩;have:cs.drop ((i+1)*((Zd .i64)).n)=[]:=List.drop_eq_nil_of_le (by rw[hcs];exact mR _ (by omega));rw[this]at hu;simp at hu
  ·refine⟨(⟨b,0,none⟩:Addr).add ((i+1)*((Zd .i64)).n),by rw[iN h];rfl,λj u hu=>?_⟩;have:=Z9g hS (j:=0) rfl ((i+1)*((Zd .i64)).n+j) u (by rw[List.getElem?_drop]at hu;exact hu);rw[show ((⟨b,0,none⟩:Addr).add ((i+1)*((Zd .i64)).n)).add j=(⟨b,0,none⟩:Addr).add ((i+1)*((Zd .i64)).n+j) by simp only[Z0a,Nat.add_assoc]];exact this
 refine rf hops hF 5 rfl (by kernel_rfl) rfl hS (ZZo hS Z7f rfl rfl (by omega)) λfa hS=>?_;rw[had]at hS;have hdl:(cs.drop ((i+1)*((Zd .i64)).n)).length=(n-(i+1))*((Zd .i64)).n:=by rw[List.length_drop,hcs,Nat.sub_mul]
 obtain⟨wo',hr,hS'⟩:=Zfp (t:=73) (ty:=73) ZSo hS (i:=0) rfl (q:=i) (m:=n-(i+1)) (c:=cap-(i+1)) (ad:=ad) (news:=cs.drop ((i+1)*((Zd .i64)).n)) hdl hsrc (by rw[List.all_eq_true];intro y hy;exact List.all_eq_true.1 (Z3g hA) y (List.mem_of_mem_drop hy)) (by omega);rw[show i+(n-(i+1))=n-1 by omega]at hr;refine ZKf hops hF 6 (by kernel_rfl) ?_;refine Z9m [2,5,0,1,3,4] [] hops rfl (by kernel_rfl) wn rfl zl (Zxp hS rfl rfl hr) hS' λfa hS=>?_;refine⟨Z4a,?_⟩;refine ZKf hops hF 7 (by kernel_rfl) ?_;refine nv [0,1,2,3,4,5,6] [] hops rfl (by kernel_rfl) rfl hS (Z6c hS rfl) λfa hS=>?_;refine⟨Z4a,?_⟩;refine ZBj hops hF (by kernel_rfl) ?_;refine Zh (hN2 _ _ ?_);refine sr ?_;refine mv hS rfl λfa hS=>?_;refine mv hS rfl λfa hS=>?_;refine ov hS rfl (Z8b hS rfl rfl Z7f) λfa hS=>?_;refine mv hS rfl λfa hS=>?_;refine ov hS rfl (ZTt hS Z7f rfl rfl rfl (by omega) (by omega) (by omega)) λfa hS=>?_;obtain⟨wo2,zc,hzl,hr,hS'⟩:=ZRs (t:=73) (ty:=73) ZSo hS (i:=0) rfl (p:=n-1) (c:=cap-(n-1)) (by omega) (List.all_eq_true.1 (by kernel_rfl));have hn1:n-(n-1)=1:=by omega
 rw[hn1]at hS hS';refine Zbs wn rfl (Zoq hS rfl (hr _)) ?_;refine oe ?_;have hS:=hS'.narrow (i:=0) rfl (m:=n-1) (by omega);refine sr ?_;refine mv hS rfl λfa hS=>?_;refine mw hS rfl λfa hS=>?_;refine oe ?_;refine wp_ret ?_;refine Zjr hS (i:=0) rfl (ZYa rfl (ZM hS rfl)) ?_ (show n-1=(List.take i l++List.drop (i+1) l).length by rw[lA,List.length_take,List.length_drop,← hn];omega);rw[ZXs hcs hin hzl];exact Zmc (Zdg i (ZT hS.vst.le hA)) (Zyf (i+1) (ZT hS.vst.le hA))
theorem ZRr:Elem Tryz.prog 32 41 (ZR).n 56 (Value.agg #[Value.bool false,Value.slice none 0 0,Value.slice none 0 0]):=⟨Tryz.underlying32,by kernel_rfl,rfl,by decide⟩
theorem ZRf:Z0b Tryz.prog 32 41 (ZR).n:=⟨λ_=>by kernel_rfl,λ_=>by kernel_rfl⟩
theorem Zny:Tryz.prog.follows .mixedOrders=true:=by kernel_rfl
noncomputable def ZNl:FuncId×ConD:=(159,⟨41,.leaf 3,λl i j=>Zrd l i j⟩)
theorem Zkz:ZDh Tryz.prog ZNl.1 ZNl.2:=λw v ob n cap cs l i0 j0 z hv hh hnv hA hn hi hj hz=>by
 have hz:Zrd (show List Rat from l) i0 j0=some z:=hz
 obtain⟨i,rfl,rfl,hin,rfl⟩:=ZMs hz
 have hA:(ZR).rels v cs (show List Rat from l):=hA
 have hin:i<n:=by rw[hn];exact hin
 have hcs:cs.length=n*(ZR).n:=by rw[hn];exact Zmd hA
 refine⟨λ_ _=>by kernel_rfl,?_⟩
 refine ZDt (K:=33) (args:=[.slice (mkA ob) n cap,.int .i64 (i:Int),.int .i64 ((i+1:Nat):Int)]) hv hh hnv Tryz.func159 rfl rfl zl λfa hS=>?_
 obtain⟨b,rfl⟩:=Zpd hS (j:=0) rfl (by omega)
 obtain⟨_,cur,hg,hnc,hcx,hcu,htk⟩:=(hS.loc _ (mG (i:=0) rfl)).1
 unfold maxLen at hcx
 refine sr ?_
 refine mw hS rfl λfa hS=>?_
 refine oe ?_
 refine sr ?_
 refine mv hS rfl λfa hS=>?_
 refine mv hS rfl λfa hS=>?_
 refine mv hS rfl λfa hS=>?_
 refine mv hS rfl λfa hS=>?_
 refine ov hS rfl (Z8b hS rfl rfl ZRf) λfa hS=>?_
 have h3 := @Zet _ _ _ _ _ _ _ _ _ (some 13) 32 "" #[] none hS 32 41 (ZR).n b n cap i (i + 1) n (.tmp 8) (.tmp 9) (.tmp 10) (.tmp 12) .i64 .i64 .i64 ZRf rfl rfl rfl rfl (by omega) (by omega) hnc
 obtain⟨y3,h3⟩:=h3
 refine ov hS rfl h3 λfa hS=>?_
 refine oe ?_
 refine wp_seq_k λN1 hN1=>?_
 refine sr ?_
 refine mv hS rfl λfa hS=>?_
 refine mv hS rfl λfa hS=>?_
 refine ov hS rfl (Zs hS rfl rfl ZMf) λfa hS=>?_
 refine oe ?_
 refine ZZ hS rfl (by simp only[beq_eq_false_iff_ne,ne_eq];omega) ?_
 refine wp_skip ?_
 refine Zh (hN1 _ _ ?_)
 refine sr ?_
 refine mv hS rfl λfa hS=>?_
 refine ov hS rfl (Z8b hS rfl rfl ZRf) λfa hS=>?_
 refine mw hS rfl λfa hS=>?_
 refine oe ?_
 refine wp_seq_k λN2 hN2=>?_
 refine Zgf (fl:=#[true,true,true,true,true,true,false,false]) Zny (by kernel_rfl) hS ?_
 intro ops hops hF wo hS
 refine rf hops hF 0 rfl (by kernel_rfl) rfl hS (ZJ hS rfl) λfa hS=>?_
 refine rf hops hF 1 rfl (by kernel_rfl) rfl hS (ZJ hS rfl) λfa hS=>?_
 refine rf hops hF 2 rfl (by kernel_rfl) rfl hS (Z0m hS ZRf rfl rfl (by omega) (by omega)) λfa hS=>?_
 refine rf hops hF 3 rfl (by kernel_rfl) rfl hS (ZJ hS rfl) λfa hS=>?_
 refine rf hops hF 4 rfl (by kernel_rfl) rfl hS (ZJ hS rfl) λfa hS=>?_
 obtain⟨ad,had,hsrc⟩:∃ ad:Addr,(if cap=i+1 then mkA (some b) else (mkA (some b)).map (·.add ((i+1)*(ZR).n)))=some ad∧∀ j u,(cs.drop ((i+1)*(ZR).n))[j]? = some u→wo.cell? (ad.add j)=some u:=by
  by_cases h:cap=i+1
  ·refine⟨⟨b,0,none⟩,by rw[iP h];rfl,λj u hu=>?_⟩;have:cs.drop ((i+1)*(ZR).n)=[]:=List.drop_eq_nil_of_le (by rw[hcs];exact mR _ (by omega));rw[this]at hu;simp at hu
  ·refine⟨(⟨b,0,none⟩:Addr).add ((i+1)*(ZR).n),by rw[iN h];rfl,λj u hu=>?_⟩;have:=Z9g hS (j:=0) rfl ((i+1)*(ZR).n+j) u (by rw[List.getElem?_drop]at hu;exact hu);rw[show ((⟨b,0,none⟩:Addr).add ((i+1)*(ZR).n)).add j=(⟨b,0,none⟩:Addr).add ((i+1)*(ZR).n+j) by simp only[Z0a,Nat.add_assoc]];exact this
 refine rf hops hF 5 rfl (by kernel_rfl) rfl hS (ZZo hS ZRf rfl rfl (by omega)) λfa hS=>?_;rw[had]at hS;have hdl:(cs.drop ((i+1)*(ZR).n)).length=(n-(i+1))*(ZR).n:=by rw[List.length_drop,hcs,Nat.sub_mul]
 obtain⟨wo',hr,hS'⟩:=Zfp (t:=32) (ty:=32) ZRr hS (i:=0) rfl (q:=i) (m:=n-(i+1)) (c:=cap-(i+1)) (ad:=ad) (news:=cs.drop ((i+1)*(ZR).n)) hdl hsrc (by rw[List.all_eq_true];intro y hy;exact List.all_eq_true.1 (Z3g hA) y (List.mem_of_mem_drop hy)) (by omega);rw[show i+(n-(i+1))=n-1 by omega]at hr;refine ZKf hops hF 6 (by kernel_rfl) ?_;refine Z9m [2,5,0,1,3,4] [] hops rfl (by kernel_rfl) wn rfl zl (Zxp hS rfl rfl hr) hS' λfa hS=>?_;refine⟨Z4a,?_⟩;refine ZKf hops hF 7 (by kernel_rfl) ?_;refine nv [0,1,2,3,4,5,6] [] hops rfl (by kernel_rfl) rfl hS (Z6c hS rfl) λfa hS=>?_;refine⟨Z4a,?_⟩;refine ZBj hops hF (by kernel_rfl) ?_;refine Zh (hN2 _ _ ?_);refine sr ?_;refine mv hS rfl λfa hS=>?_;refine mv hS rfl λfa hS=>?_;refine ov hS rfl (Z8b hS rfl rfl ZRf) λfa hS=>?_;refine mv hS rfl λfa hS=>?_;refine ov hS rfl (ZTt hS ZRf rfl rfl rfl (by omega) (by omega) (by omega)) λfa hS=>?_;obtain⟨wo2,zc,hzl,hr,hS'⟩:=ZRs (t:=32) (ty:=32) ZRr hS (i:=0) rfl (p:=n-1) (c:=cap-(n-1)) (by omega) (List.all_eq_true.1 (by kernel_rfl));have hn1:n-(n-1)=1:=by omega
 rw[hn1]at hS hS';refine Zbs wn rfl (Zoq hS rfl (hr _)) ?_;refine oe ?_;have hS:=hS'.narrow (i:=0) rfl (m:=n-1) (by omega);refine sr ?_;refine mv hS rfl λfa hS=>?_;refine mw hS rfl λfa hS=>?_;refine oe ?_;refine wp_ret ?_;refine Zjr hS (i:=0) rfl (ZYa rfl (ZM hS rfl)) ?_ (show n-1=(List.take i l++List.drop (i+1) l).length by rw[lA,List.length_take,List.length_drop,← hn];omega);rw[ZXs hcs hin hzl];exact Zmc (Zdg i (ZT hS.vst.le hA)) (Zyf (i+1) (ZT hS.vst.le hA))
noncomputable def ZIs:FuncId×ConB:=(123,⟨217,(.agg (.cons (.mat 32 41 (.leaf 3)) (.cons (.own 41 (.leaf 3)) (.cons (.own 41 (.leaf 3)) (.cons (.dat (.leaf 3)) (.cons (.own 3 (.int .i64)) (.one (.own 3 (.int .i64))))))))),[.pair (.slice (.slice (.leaf 3))) (.pair (.slice (.leaf 3)) (.slice (.leaf 3)))],[.slice (.leaf 3),.bool],λz x=>ZXk z x⟩)
theorem Zsz : KB ZIs := ZIg (C := cf1 [Zye, Zmf, ZMk, ZOc, ZCe, ZQg, Zeg] [100182] [ZZh] [((41, "Add"), 13), ((41, "Cmp"), 11), ((41, "Mul"), 51), ((41, "Sign"), 21), ((41, "Sub"), 34), ((41, "Zero"), 19), ((113, "Add"), 130), ((113, "Mul"), 132), ((113, "Sub"), 133), ((113, "Zero"), 203), ((115, "Add"), 104), ((115, "Mul"), 106)] [] [ZOl, ZKr, ZSn] [ZPl, ZNl]) (.n (.n (.n (.two (.n (.f (.l [0, 3, 6, 7, 8, 34, 35] [] [.s 9 (.dat (.int .i64)), .s 36 (.dat (.int .i64))] 0 [0, 3, 6, 7, 8] [] [.s 9 (.dat (.int .i64))] (.f (.n (.n (.f (.f (.n (.two (.j [0, 3, 6, 7, 8, 9, 10, 34, 35, 36] [] [.s 61 (.dat .bool)] .no) (.j [0, 3, 6, 7, 8, 34, 35, 36] [] [.s 9 (.dat (.int .i64))] .no))))))))))) (.n (.two (.n (.f (.l [0, 3, 6, 7, 8, 9, 70] [] [.s 71 (.dat (.int .i64)), .l (.sl 69) (.mat 32 41 (.leaf 3))] 2 [0, 3, 6, 7, 8, 9] [] [.l (.sl 69) (.mat 32 41 (.leaf 3))] .no))) (.n (.n (.n (.n (.n (.two (.n (.n (.j [0, 3, 8] [.fld (.sl 0) 0, .fld (.sl 0) 1, .fld (.sl 0) 2, .fld (.sl 0) 6, .fld (.sl 0) 7] [.l (.sl 0) (.box 217 (.agg (.cons (.mat 32 41 (.leaf 3)) (.cons (.own 41 (.leaf 3)) (.cons (.own 41 (.leaf 3)) (.cons (.dat (.leaf 3)) (.cons (.own 3 (.int .i64)) (.one (.own 3 (.int .i64))))))))))] .no))) (.n (.n (.two (.n (.f (.l [0, 3, 14, 167] [] [.s 168 (.dat (.int .i64)), .l (.sl 166) (.mat 32 41 (.leaf 3))] 4 [0, 3] [] [.l (.sl 166) (.mat 32 41 (.leaf 3))] .no))) (.n (.f (.n (.f (.l [0, 203, 204] [.fld (.sl 0) 0, .fld (.sl 0) 1, .fld (.sl 0) 6, .fld (.sl 0) 7, .fld (.sl 0) 2] [.s 205 (.dat (.int .i64)), .l (.sl 0) (.box 217 (.agg (.cons (.mat 32 41 (.leaf 3)) (.cons (.own 41 (.leaf 3)) (.cons (.own 41 (.leaf 3)) (.cons (.dat (.leaf 3)) (.cons (.own 3 (.int .i64)) (.one (.own 3 (.int .i64))))))))))] 6 [] [.fld (.sl 0) 0, .fld (.sl 0) 1, .fld (.sl 0) 6, .fld (.sl 0) 7, .fld (.sl 0) 2] [.l (.sl 0) (.box 217 (.agg (.cons (.mat 32 41 (.leaf 3)) (.cons (.own 41 (.leaf 3)) (.cons (.own 41 (.leaf 3)) (.cons (.dat (.leaf 3)) (.cons (.own 3 (.int .i64)) (.one (.own 3 (.int .i64))))))))))] (.f (.n (.n (.f (.j [0, 203, 204, 205] [.fld (.sl 0) 0, .fld (.sl 0) 1, .fld (.sl 0) 2, .fld (.sl 0) 6, .fld (.sl 0) 7] [.l (.sl 0) (.box 217 (.agg (.cons (.mat 32 41 (.leaf 3)) (.cons (.own 41 (.leaf 3)) (.cons (.own 41 (.leaf 3)) (.cons (.dat (.leaf 3)) (.cons (.own 3 (.int .i64)) (.one (.own 3 (.int .i64))))))))))] (.f (.n (.n (.n (.n (.n (.f (.l [0, 17, 203, 204, 205, 265, 266] [] [.s 267 (.dat (.int .i64)), .l (.fld (.sl 0) 2) (.own 41 (.leaf 3))] 8 [0, 203, 204, 205] [] [.l (.fld (.sl 0) 2) (.own 41 (.leaf 3))] .no))))))))))))))))))))))))))))))))) Tryz.func123 [(92, Tryz.f92, .no), (153, Tryz.f153, .r [] [] [.s 1000 (.dat (.int .i64))] (.n (.f (.n (.f (.cut ⟨⟨[0, 1, 7], [], [.s 8 (.dat (.int .i64))]⟩, [(.exit 0, ⟨[], [], []⟩), (.ret, ⟨[], [], [.s 1000 (.dat (.int .i64))]⟩)]⟩ .no)))))), (156, Tryz.f156, .r [] [] [.s 1000 (.dat (.int .i64))] (.n (.f (.n (.f (.cut ⟨⟨[0, 1, 7], [], [.s 8 (.dat (.int .i64))]⟩, [(.exit 0, ⟨[], [], []⟩), (.ret, ⟨[], [], [.s 1000 (.dat (.int .i64))]⟩)]⟩ .no)))))), (157, Tryz.f157, .no)] (λ_ _ => by kernel_rfl) ⟨Z8e, ZYf, Zdo, Z9c, ZJf, Zmi, Zsh, tr⟩ ⟨Z4k, tr⟩ ⟨Zlt, Z7r, ZEs, Zsl, ZRo, ZYr, Zap, Zyu, Zus, ZCp, Z9t, ZNp, tr⟩ ⟨⟨Tryz.func92, λ_ _ => by kernel_rfl⟩, ⟨Tryz.func153, λ_ _ => by kernel_rfl⟩, ⟨Tryz.func156, λ_ _ => by kernel_rfl⟩, ⟨Tryz.func157, λ_ _ => by kernel_rfl⟩, tr⟩ tr ⟨ZNs, ZCA, ZKt, tr⟩ ⟨Zqz, Zkz, tr⟩
noncomputable def ZQp:FuncId×Con:=(94,⟨[.pair (.slice (.slice (.leaf 3))) (.pair (.slice (.leaf 3)) (.slice (.leaf 3)))],[.pair (.int .i64) (.pair (.leaf 3) (.pair (.slice (.leaf 3)) (.pair (.slice (.leaf 3)) (.slice (.leaf 3)))))],λp=>Z0i p⟩)
theorem Z0w : KQ ZQp := Zy (Zya (C := cf1 [Zfe, Zeg, ZVr, Z9r] [] [Zxi, ZZh] [((41, "Neg"), 61), ((113, "Neg"), 164)] [Zpq] [ZIs, ZOl] []) (.n (.n (.n (.n (.n (.two (.j [2, 3, 4, 6] [] [.s 5 (.dat (.ptr (.pair (.slice (.slice (.leaf 3))) (.pair (.slice (.leaf 3)) (.pair (.slice (.leaf 3)) (.pair (.leaf 3) (.pair (.slice (.int .i64)) (.slice (.int .i64))))))))), .s 9 (.dat (.int .i64))] .no) (.n (.n (.two (.n (.n (.j [2, 3, 5, 6, 9, 10] [] [.l (.sl 10) (.own 41 (.leaf 3))] .no))) (.f (.n (.f (.l [2, 3, 5, 6, 9, 10, 69, 70] [] [.s 71 (.dat (.int .i64)), .l (.sl 10) (.own 41 (.leaf 3))] 0 [2, 3, 5, 6, 10] [] [.l (.sl 10) (.own 41 (.leaf 3))] (.f (.n (.n (.f (.f (.n (.n (.j [2, 3, 5, 6, 9, 10, 69, 70, 71] [] [.l (.sl 10) (.own 41 (.leaf 3))] .no))))))))))))))))))))) Tryz.func94 [(92, Tryz.f92, .no), (122, Tryz.f122, .n (.n (.two (.n (.f (.l [1, 3, 20] [.fld (.sl 3) 0, .fld (.sl 3) 1, .fld (.sl 3) 2] [.s 21 (.dat (.int .i64)), .l (.sl 3) (.box 217 (.agg (.cons (.mat 32 41 (.leaf 3)) (.cons (.own 41 (.leaf 3)) (.cons (.own 41 (.leaf 3)) (.cons (.dat (.leaf 3)) (.cons (.own 3 (.int .i64)) (.one (.own 3 (.int .i64))))))))))] 0 [1, 3] [.fld (.sl 3) 0, .fld (.sl 3) 1, .fld (.sl 3) 2] [.l (.sl 3) (.box 217 (.agg (.cons (.mat 32 41 (.leaf 3)) (.cons (.own 41 (.leaf 3)) (.cons (.own 41 (.leaf 3)) (.cons (.dat (.leaf 3)) (.cons (.own 3 (.int .i64)) (.one (.own 3 (.int .i64))))))))))] .no))) (.f (.n (.f (.l [1, 3, 37] [.fld (.sl 3) 0, .fld (.sl 3) 1, .fld (.sl 3) 2, .fld (.sl 3) 6, .fld (.sl 3) 7] [.s 38 (.dat (.int .i64)), .l (.sl 3) (.box 217 (.agg (.cons (.mat 32 41 (.leaf 3)) (.cons (.own 41 (.leaf 3)) (.cons (.own 41 (.leaf 3)) (.cons (.dat (.leaf 3)) (.cons (.own 3 (.int .i64)) (.one (.own 3 (.int .i64))))))))))] 2 [3] [.fld (.sl 3) 0, .fld (.sl 3) 1, .fld (.sl 3) 2, .fld (.sl 3) 6, .fld (.sl 3) 7] [.l (.sl 3) (.box 217 (.agg (.cons (.mat 32 41 (.leaf 3)) (.cons (.own 41 (.leaf 3)) (.cons (.own 41 (.leaf 3)) (.cons (.dat (.leaf 3)) (.cons (.own 3 (.int .i64)) (.one (.own 3 (.int .i64))))))))))] .no)))))))] (λ_ => by kernel_rfl) ⟨Zkf, Zsh, Ziw, Zgy, tr⟩ ⟨ZIo, Z4k, tr⟩ ⟨ZPh, ZAg, tr⟩ ⟨⟨Tryz.func92, λ_ _ => by kernel_rfl⟩, ⟨Tryz.func122, λ_ _ => by kernel_rfl⟩, tr⟩ ⟨Zqv, tr⟩ ⟨Zsz, ZNs, tr⟩)
noncomputable def ZLn:FuncId×Con:=(59,⟨[.slice (.slice (.leaf 3)),.slice (.leaf 3),.slice (.leaf 3)],[.pair (.leaf 3) (.pair (.slice (.leaf 3)) (.pair (.slice (.leaf 3)) (.slice (.leaf 3)))),.int .i64],λp=>ZSg p.1 p.2.1 p.2.2⟩)
theorem Z3o : KQ ZLn := Zy (Zya (C := cf0 [Zfe, ZAu, ZCs, ZKk, Zeg, ZQp] [] [Zxi, ZZt, ZKj] [((41, "Neg"), 61), ((113, "Neg"), 164)]) (.n (.n (.n (.n (.n (.two (.n (.f (.l [0, 2, 6, 8, 9, 10, 40, 41] [.fld (.sl 10) 1, .fld (.sl 10) 2] [.s 42 (.dat (.int .i64)), .l (.sl 10) (.box 182 (.agg (.cons (.own 32 (.slice (.leaf 3))) (.cons (.own 41 (.leaf 3)) (.one (.own 41 (.leaf 3)))))))] 0 [0, 2, 6, 8, 9, 10] [.fld (.sl 10) 1, .fld (.sl 10) 2] [.l (.sl 10) (.box 182 (.agg (.cons (.own 32 (.slice (.leaf 3))) (.cons (.own 41 (.leaf 3)) (.one (.own 41 (.leaf 3)))))))] .no))) (.f (.n (.f (.l [2, 6, 8, 9, 10, 63, 64] [.fld (.sl 10) 0, .fld (.sl 10) 1, .fld (.sl 10) 2] [.s 65 (.dat (.int .i64)), .l (.sl 10) (.box 182 (.agg (.cons (.own 32 (.slice (.leaf 3))) (.cons (.own 41 (.leaf 3)) (.one (.own 41 (.leaf 3)))))))] 2 [6, 8, 9, 10] [.fld (.sl 10) 0, .fld (.sl 10) 1, .fld (.sl 10) 2] [.l (.sl 10) (.box 182 (.agg (.cons (.own 32 (.slice (.leaf 3))) (.cons (.own 41 (.leaf 3)) (.one (.own 41 (.leaf 3)))))))] .no)))))))))) Tryz.func59 [] (λ_ => by kernel_rfl) ⟨Zkf, Zzz, Zlv, Zmn, Zsh, Z0w, tr⟩ ⟨ZIo, Z0v, ZJm, tr⟩ ⟨ZPh, ZAg, tr⟩)
noncomputable def ZJr:FuncId×Con:=(30,⟨[.slice (.pair (.leaf 3) (.pair (.leaf 3) (.pair (.leaf 3) (.leaf 3)))),.slice (.leaf 3)],[.pair (.pair (.leaf 3) (.slice (.pair (.leaf 3) (.leaf 3)))) (.pair (.leaf 3) (.slice (.pair (.leaf 3) (.leaf 3)))),.int .i64],λp=>ZGf p.1 p.2⟩)
theorem Zrv:KQ ZJr:=Zy (Zya (C:=cf0 [ZSf,ZPn,ZCe,Z7j,ZLn] [] [] []) (.n (.n (.n (.two (.n (.f (.l [0,1,4,23,24] [] [.s 6 (.own 32 (.slice (.leaf 3))),.s 7 (.own 41 (.leaf 3)),.s 8 (.own 41 (.leaf 3)),.s 25 (.dat (.int .i64))] 0 [0,1,4] [] [.s 6 (.own 32 (.slice (.leaf 3))),.s 7 (.own 41 (.leaf 3)),.s 8 (.own 41 (.leaf 3))] (.f (.n (.n (.f (.f (.n (.n (.f (.n (.f (.l [0,1,4,6,7,8,10,23,24,25,33,34] [] [.s 11 (.own 41 (.leaf 3)),.s 12 (.own 41 (.leaf 3)),.s 35 (.dat (.int .i64))] 2 [0,1,4,6,7,8,10,23,24,25] [] [.s 11 (.own 41 (.leaf 3)),.s 12 (.own 41 (.leaf 3))] .no)))))))))))))) (.n (.n (.n (.two (.n (.f (.l [0,4,17,19,92,93] [] [.s 94 (.dat (.int .i64)),.l (.sl 19) (.box 47 (.agg (.cons (.agg (.cons (.dat (.leaf 3)) (.one (.own 53 (.pair (.leaf 3) (.leaf 3)))))) (.cons (.dat (.leaf 3)) (.one (.own 122 (.pair (.leaf 3) (.leaf 3))))))))] 4 [0,4,17,19] [] [.l (.sl 19) (.box 47 (.agg (.cons (.agg (.cons (.dat (.leaf 3)) (.one (.own 53 (.pair (.leaf 3) (.leaf 3)))))) (.cons (.dat (.leaf 3)) (.one (.own 122 (.pair (.leaf 3) (.leaf 3))))))))] .no))) (.n (.f (.n (.f (.l [4,17,19,121] [.fld (.sl 19) 3,.fld (.sl 19) 7] [.s 122 (.dat (.int .i64)),.l (.sl 19) (.box 47 (.agg (.cons (.dat (.pair (.leaf 3) (.slice (.pair (.leaf 3) (.leaf 3))))) (.cons (.dat (.leaf 3)) (.one (.own 122 (.pair (.leaf 3) (.leaf 3))))))))] 6 [4,19] [.fld (.sl 19) 3,.fld (.sl 19) 7] [.l (.sl 19) (.box 47 (.agg (.cons (.dat (.pair (.leaf 3) (.slice (.pair (.leaf 3) (.leaf 3))))) (.cons (.dat (.leaf 3)) (.one (.own 122 (.pair (.leaf 3) (.leaf 3))))))))] .no))))))))))))) Tryz.func30 [] (λ_=>by kernel_rfl) ⟨Zih,ZPq,ZJf,Z5n,Z3o,tr⟩)
noncomputable def Zsq:FuncId×Con:=(8,⟨[.slice (.pair (.leaf 3) (.pair (.leaf 3) (.pair (.leaf 3) (.leaf 3)))),.slice (.leaf 3)],[.pair (.pair (.leaf 3) (.slice (.pair (.leaf 3) (.leaf 3)))) (.pair (.leaf 3) (.slice (.pair (.leaf 3) (.leaf 3)))),.int .i64],λp=>Zwb p.1 p.2⟩)
theorem ZIy:KQ Zsq:=Zy (Zya (C:=cf0 [Zvo,Zso,ZJr] [] [] []) .no Tryz.func8 [] (λ_=>by kernel_rfl) ⟨ZIt,ZWo,Zrv,tr⟩)
noncomputable def Zls:FuncId×Con:=(10,⟨[.pair (.leaf 3) (.slice (.pair (.leaf 3) (.leaf 3))),.slice (.pair (.leaf 3) (.pair (.leaf 3) (.pair (.leaf 3) (.leaf 3))))],[.leaf 3,.int .i64],λp=>ZFg p.1 p.2⟩)
theorem ZWx:KQ Zls:=Zy (Zya (C:=cf0 [Zvo,ZOn,ZPn] [] [] []) .no Tryz.func10 [] (λ_=>by kernel_rfl) ⟨ZIt,Z2q,ZPq,tr⟩)
noncomputable def Zxu:FuncId×Con:=(14,⟨[.leaf 3,.leaf 3],[.bool],λp=>Z2g p.1 p.2⟩)
theorem qsame_k:KQ Zxu:=Zy (ZL (C:=cf0 [ZDl] [] [] []) (.n (.f (.j [] [] [.s 4 (.dat .bool)] .no))) Tryz.func14 [] (λv vals x z ha hz=>.trans (by kernel_rfl) (ZWz hz)) ⟨cmp_k,tr⟩)
noncomputable def ZMq:FuncId×ConP:=(6,⟨[.slice (.pair (.pair (.int .i64) (.int .i64)) (.pair (.pair (.int .i64) (.int .i64)) (.pair (.pair (.int .i64) (.int .i64)) (.pair (.int .i64) (.int .i64)))))],59,.pair (.leaf 3) (.pair (.leaf 3) (.pair (.leaf 3) (.leaf 3))),[.slice (.pair (.pair .bool (.pair (.leaf 1) (.leaf 1))) (.pair (.pair .bool (.pair (.leaf 1) (.leaf 1))) (.pair (.pair .bool (.pair (.leaf 1) (.leaf 1))) (.pair .bool (.pair (.leaf 1) (.leaf 1))))))],λp=>Zmj p⟩)
theorem Z9z:KPw ZMq:=conp_z (C:=cf2 [(37,0),(39,2),(41,3),(91,1)] [Zml,rof_q]) (.r [] [] [.s 1000 (.own 59 (.pair (.leaf 3) (.pair (.leaf 3) (.pair (.leaf 3) (.leaf 3))))),.s 1001 (.dat (.slice (.pair (.pair .bool (.pair (.leaf 1) (.leaf 1))) (.pair (.pair .bool (.pair (.leaf 1) (.leaf 1))) (.pair (.pair .bool (.pair (.leaf 1) (.leaf 1))) (.pair .bool (.pair (.leaf 1) (.leaf 1))))))))] (.n (.n (.f (.n (.f (.l [4,5,14,15] [] [.s 16 (.dat (.int .i64)),.l (.sl 4) (.own 59 (.pair (.leaf 3) (.pair (.leaf 3) (.pair (.leaf 3) (.leaf 3))))),.l (.sl 5) (.own 96 (.pair (.pair .bool (.pair (.leaf 1) (.leaf 1))) (.pair (.pair .bool (.pair (.leaf 1) (.leaf 1))) (.pair (.pair .bool (.pair (.leaf 1) (.leaf 1))) (.pair .bool (.pair (.leaf 1) (.leaf 1)))))))] 0 [4,5] [] [.l (.sl 4) (.own 59 (.pair (.leaf 3) (.pair (.leaf 3) (.pair (.leaf 3) (.leaf 3))))),.l (.sl 5) (.own 96 (.pair (.pair .bool (.pair (.leaf 1) (.leaf 1))) (.pair (.pair .bool (.pair (.leaf 1) (.leaf 1))) (.pair (.pair .bool (.pair (.leaf 1) (.leaf 1))) (.pair .bool (.pair (.leaf 1) (.leaf 1)))))))] .no))))))) Tryz.func6 [] (λ_=>by kernel_rfl) ⟨ZZn,rof_k,tr⟩
noncomputable def best4_q:FuncId×Con:=(3,⟨[.slice (.pair (.pair (.int .i64) (.int .i64)) (.pair (.pair (.int .i64) (.int .i64)) (.pair (.pair (.int .i64) (.int .i64)) (.pair (.int .i64) (.int .i64))))),.slice (.pair (.int .i64) (.int .i64)),.pair (.int .u8) (.pair (.int .u8) (.pair (.int .u8) (.int .u8))),.pair (.int .i64) (.int .i64)],[.bool],λp=>Zxk p.1 p.2.1 p.2.2.1 p.2.2.2⟩)
theorem best4_r:KR best4_q:=conr_r (C:=cf3 [Z3p,Zdq,Zsq,ZSf,Zls,Zye,Zml,Zmf,Zxu,ZOc,Zso,ZCe,Z3e,Z9l,ZQg,Z7j,ZLn] [200038,200068,300045] [] [] [] [] [] [ZMq]) [8,8,8,8] (.n (.two (.f (.j [0,1,6,7] [] [.s 30 (.dat .bool)] .no)) (.n (.n (.n (.n (.n (.two (.n (.f (.l [6,7,9,11,13,15,56,57] [] [.s 58 (.dat (.int .i64)),.l (.sl 15) (.box 44 (.agg (.cons (.dat (.leaf 3)) (.one (.own 53 (.pair (.leaf 3) (.leaf 3)))))))] 0 [7,9,11,13,15] [] [.l (.sl 15) (.box 44 (.agg (.cons (.dat (.leaf 3)) (.one (.own 53 (.pair (.leaf 3) (.leaf 3)))))))] (.f (.n (.n (.f (.f (.n (.j [6,7,9,11,13,15,56,57,58] [.fld (.sl 15) 3] [.l (.sl 15) (.box 44 (.agg (.cons (.dat (.leaf 3)) (.one (.own 53 (.pair (.leaf 3) (.leaf 3)))))))] .no)))))))))) (.two (.lend [9] [(13,.pair (.pair (.leaf 3) (.slice (.pair (.leaf 3) (.leaf 3)))) (.pair (.leaf 3) (.slice (.pair (.leaf 3) (.leaf 3))))),(15,.pair (.leaf 3) (.slice (.pair (.leaf 3) (.leaf 3)))),(7,.pair (.int .i64) (.int .i64))] [20] [] [9,11,13] (.two (.two (.f (.n (.f (.j [7,9,11,13] [] [.s 92 (.dat .bool)] .no)))) (.f (.j [9,11,13,20] [] [.s 114 (.dat .bool)] .no))) (.n (.cut ⟨⟨[],[],[]⟩,[(.ret,⟨[],[],[.s 1000 (.dat .bool)]⟩),(.norm,⟨[9,11,13,20],[],[.l (.sl 20) (.box 47 (.dat (.pair (.pair (.leaf 3) (.slice (.pair (.leaf 3) (.leaf 3)))) (.pair (.leaf 3) (.slice (.pair (.leaf 3) (.leaf 3)))))))]⟩)]⟩ (.f (.n (.f (.j [9,11,13,20] [] [.s 134 (.dat .bool)] .no)))))))) (.two (.n (.f (.l [9,11,13,20,136] [] [.s 137 (.dat (.int .i64)),.l (.sl 9) (.own 59 (.pair (.leaf 3) (.pair (.leaf 3) (.pair (.leaf 3) (.leaf 3)))))] 2 [9,11,13,20] [] [.l (.sl 9) (.own 59 (.pair (.leaf 3) (.pair (.leaf 3) (.pair (.leaf 3) (.leaf 3)))))] .no))) (.n (.f (.j [] [] [.s 8 (.dat .bool)] .no))))))))))))) Tryz.func3 [(8,Tryz.f8,.r [] [] [.s 1000 (.agg (.cons (.agg (.cons (.dat (.leaf 3)) (.one (.own 53 (.pair (.leaf 3) (.leaf 3)))))) (.cons (.dat (.leaf 3)) (.one (.own 122 (.pair (.leaf 3) (.leaf 3))))))),.s 1001 (.dat (.int .i64))] .no),(28,Tryz.f28,.r [] [] [.s 1000 (.dat (.int .i64))] (.n (.two (.f (.j [0] [] [.s 12 (.dat .bool)] .no)) (.f (.n (.f (.cut ⟨⟨[13,14],[],[.s 15 (.dat (.int .i64))]⟩,[(.exit 0,⟨[],[],[]⟩),(.ret,⟨[],[],[.s 1000 (.dat (.int .i64))]⟩)]⟩ (.f (.n (.n (.f (.f (.n (.f (.j [13,14,15] [] [.s 40 (.dat .bool)] .no))))))))))))))),(30,Tryz.f30,.r [] [] [.s 1000 (.agg (.cons (.agg (.cons (.dat (.leaf 3)) (.one (.own 53 (.pair (.leaf 3) (.leaf 3)))))) (.cons (.dat (.leaf 3)) (.one (.own 122 (.pair (.leaf 3) (.leaf 3))))))),.s 1001 (.dat (.int .i64))] (.n (.n (.n (.two (.n (.f (.l [0,1,4,23,24] [] [.s 6 (.own 32 (.slice (.leaf 3))),.s 7 (.own 41 (.leaf 3)),.s 8 (.own 41 (.leaf 3)),.s 25 (.dat (.int .i64))] 0 [0,1,4] [] [.s 6 (.own 32 (.slice (.leaf 3))),.s 7 (.own 41 (.leaf 3)),.s 8 (.own 41 (.leaf 3))] (.f (.n (.n (.f (.f (.n (.n (.f (.n (.f (.l [0,1,4,6,7,8,10,23,24,25,33,34] [] [.s 11 (.own 41 (.leaf 3)),.s 12 (.own 41 (.leaf 3)),.s 35 (.dat (.int .i64))] 2 [0,1,4,6,7,8,10,23,24,25] [] [.s 11 (.own 41 (.leaf 3)),.s 12 (.own 41 (.leaf 3))] .no)))))))))))))) (.n (.n (.n (.two (.n (.f (.l [0,4,17,19,92,93] [] [.s 94 (.dat (.int .i64)),.l (.sl 19) (.box 47 (.agg (.cons (.agg (.cons (.dat (.leaf 3)) (.one (.own 53 (.pair (.leaf 3) (.leaf 3)))))) (.cons (.dat (.leaf 3)) (.one (.own 122 (.pair (.leaf 3) (.leaf 3))))))))] 4 [0,4,17,19] [] [.l (.sl 19) (.box 47 (.agg (.cons (.agg (.cons (.dat (.leaf 3)) (.one (.own 53 (.pair (.leaf 3) (.leaf 3)))))) (.cons (.dat (.leaf 3)) (.one (.own 122 (.pair (.leaf 3) (.leaf 3))))))))] .no))) (.n (.f (.n (.f (.l [4,17,19,121] [.fld (.sl 19) 3,.fld (.sl 19) 7] [.s 122 (.dat (.int .i64)),.l (.sl 19) (.box 47 (.agg (.cons (.agg (.cons (.dat (.leaf 3)) (.one (.own 53 (.pair (.leaf 3) (.leaf 3)))))) (.cons (.dat (.leaf 3)) (.one (.own 122 (.pair (.leaf 3) (.leaf 3))))))))] 6 [4,19] [.fld (.sl 19) 3,.fld (.sl 19) 7] [.l (.sl 19) (.box 47 (.agg (.cons (.agg (.cons (.dat (.leaf 3)) (.one (.own 53 (.pair (.leaf 3) (.leaf 3)))))) (.cons (.dat (.leaf 3)) (.one (.own 122 (.pair (.leaf 3) (.leaf 3))))))))] .no)))))))))))))),(33,Tryz.f33,.n (.n (.f (.n (.f (.l [2,4,5,14,15] [] [.s 16 (.dat (.int .i64)),.l (.sl 5) (.box 41 (.dat (.leaf 3)))] 0 [4,5] [] [.l (.sl 5) (.box 41 (.dat (.leaf 3)))] (.f (.n (.n (.f (.f (.n (.n (.n (.f (.l [2,4,5,7,14,15,16,35] [] [.s 36 (.dat (.int .i64)),.l (.sl 5) (.box 41 (.dat (.leaf 3)))] 2 [2,4,5,14,15,16] [] [.l (.sl 5) (.box 41 (.dat (.leaf 3)))] (.f (.n (.n (.f (.f (.two (.j [2,4,5,7,14,15,16,35,36] [] [.s 11 (.box 41 (.dat (.leaf 3)))] .no) (.n (.n (.j [2,4,5,7,14,15,16,35,36] [] [.l (.sl 5) (.box 41 (.dat (.leaf 3)))] .no))))))))))))))))))))))))),(53,Tryz.f53,.n (.n (.f (.n (.f (.l [3,4,5,6,7,16,17] [] [.s 18 (.dat (.int .i64)),.l (.sl 6) (.box 41 (.dat (.leaf 3))),.l (.sl 7) (.box 41 (.dat (.leaf 3)))] 0 [4,5,6,7] [] [.l (.sl 6) (.box 41 (.dat (.leaf 3))),.l (.sl 7) (.box 41 (.dat (.leaf 3)))] .no))))))] (λ_=>by kernel_rfl) ⟨Zxv,ZZv,ZIy,Zih,ZWx,Z8e,ZZn,ZYf,qsame_k,Z9c,ZWo,ZJf,Z5f,Zkq,Zmi,Z5n,Z3o,tr⟩ tr tr ⟨⟨Tryz.func8,λ_ _=>by kernel_rfl⟩,⟨Tryz.func28,λ_ _=>by kernel_rfl⟩,⟨Tryz.func30,λ_ _=>by kernel_rfl⟩,⟨Tryz.func33,λ_ _=>by kernel_rfl⟩,⟨Tryz.func53,λ_ _=>by kernel_rfl⟩,tr⟩ tr tr tr ⟨Z9z,tr⟩
theorem best4_w {w0:World} {v0:Zb} (hv:VIn v0 w0) {c0:List Value} {l:(List ((Int×Int)×(Int×Int)×(Int×Int)×(Int×Int)))} (p0:Rep.rel (ZG (Zt (Zt (Zd .i64) (Zd .i64)) (Zt (Zt (Zd .i64) (Zd .i64)) (Zt (Zt (Zd .i64) (Zd .i64)) (Zt (Zd .i64) (Zd .i64)))))) v0 c0 l) {c1:List Value} {tms:(List (Int×Int))} (p1:Rep.rel (ZG (Zt (Zd .i64) (Zd .i64))) v0 c1 tms) {c2:List Value} {ws:(Int×Int×Int×Int)} (p2:Rep.rel (Zt (Zd .u8) (Zt (Zd .u8) (Zt (Zd .u8) (Zd .u8)))) v0 c2 ws) {c3:List Value} {more:(Int×Int)} (p3:Rep.rel (Zt (Zd .i64) (Zd .i64)) v0 c3 more) {z:Bool} (hm:Zxk l tms ws more=some z):Ret Tryz.prog 3 #[(ZG (Zt (Zt (Zd .i64) (Zd .i64)) (Zt (Zt (Zd .i64) (Zd .i64)) (Zt (Zt (Zd .i64) (Zd .i64)) (Zt (Zd .i64) (Zd .i64)))))).val c0,(ZG (Zt (Zd .i64) (Zd .i64))).val c1,(Zt (Zd .u8) (Zt (Zd .u8) (Zt (Zd .u8) (Zd .u8)))).val c2,(Zt (Zd .i64) (Zd .i64)).val c3] w0 v0 (λy v'=>∃ r0,y=Zyb.val r0∧Zyb.rel v' r0 z):=(best4_r w0 v0 [(ZG (Zt (Zt (Zd .i64) (Zd .i64)) (Zt (Zt (Zd .i64) (Zd .i64)) (Zt (Zt (Zd .i64) (Zd .i64)) (Zt (Zd .i64) (Zd .i64)))))).val c0,(ZG (Zt (Zd .i64) (Zd .i64))).val c1,(Zt (Zd .u8) (Zt (Zd .u8) (Zt (Zd .u8) (Zd .u8)))).val c2,(Zt (Zd .i64) (Zd .i64)).val c3] (l,tms,ws,more) z hv ⟨c0,_,rfl,p0,c1,_,rfl,p1,c2,_,rfl,p2,c3,rfl,p3⟩ hm).2
end Go.Eng
