/- Lemmas towards the statement: the engine of the walks, the functions' models, laws and walks, part 7. Conditions: as each states. -/
import Derived.Shelf.Strings.Builder1
import Derived.Shelf.Strings.Repeat
import Derived.Test.YtfplgmfefadhdaaGreatProg
import Derived.Test.YtfplgmfefadhdaaGreatClF
set_option linter.all false
set_option maxRecDepth 100000
namespace Go.Eng
open Go.Proofs Go.RowKit
theorem ZUz {w0:World} {F:Zb} (hv:VIn F w0) {c0:List Value} {a:Nat} (m:Rep.rel Zw F c0 a) {c1:List Value} {b:Nat} (g:Rep.rel Zw F c1 b) {z:Nat×Nat} (H:ZOi a b=some z):Ret Tryz.prog 111 #[Zw.val c0,Zw.val c1] w0 F (fun y v'=>∃ r0 r1,y = .tuple #[Zw.val r0,Zw.val r1]∧Zw.rel v' r0 z.1∧Zw.rel v' r1 z.2):=by
 obtain ⟨R,T,U,rfl⟩:=ZTa m;obtain ⟨q4,n5,k6,rfl⟩:=ZTa g;refine Zvi (K:=84) (args:=[.slice R T U,.slice q4 n5 k6]) hv Tryz.func111 rfl rfl zl fun f S=>?_;unfold ZOi at H;refine sr (mw S rfl fun f S=>mw S rfl fun f S=>oe (ZB fun _ bc=>wp_block (ZB fun _ bd=>bO H fun be bf H=>ZY (mv S rfl fun f S=>mv S rfl fun f S=>opc S rfl (ZBa S [.slice R T U,.slice q4 n5 k6] Z0r rfl rfl) (cmp_c S.vin m g bf) ?_))));rintro _ cX f w aj ⟨cY,rfl,bg⟩ S;obtain ⟨rfl,cZ⟩:=bg;refine ov S rfl (ZE S rfl rfl Zie) fun f S=>mw S rfl fun f S=>ZP (Zr (bd _ _ ?_));rcases Zvb (decide (be<(0:Int))) with V | V
 ·have H:=ZFb H V;refine ZEb S rfl V (sr (mv S rfl fun f S=>mw S rfl fun f S=>mw S rfl fun f S=>oe (wp_ret (Z9s (ZIi ?_)))));obtain rfl:=ZM H;have m:=ZOa aj m;refine ZBg S (ZYj rfl (Zab S rfl) (Zab S rfl)) ⟨[.slice none 0 0],[.slice R T U],rfl,(Zvj _),m⟩
 have H:=ZHb H V;refine ZUa S rfl V (sr (mv S rfl fun f S=>?_));have g:=ZOa aj g;refine ov S rfl (Zgc S (Zeb g) rfl rfl Zla) fun f S=>ov S rfl (ZE S rfl rfl ZEh) fun f S=>mw S rfl fun f S=>oe ?_;rcases Zvb (((((Zc 18446744073709551616 b)).length:Int))==(1:Int)) with W | W
 ·have H:=ZFb H W;refine ZEb S rfl W (ZB fun _ bh=>bO H fun au av H=>bO H fun ax bi H=>ZY (mv S rfl fun f S=>mv S rfl fun f S=>?_));obtain ⟨_,c2,c3,c4,rfl,ay,bj⟩:=ZFc g (Zq av).2.1;obtain ⟨rfl,bk⟩:=bj;refine ov S rfl (Zva S rfl rfl Zla (Zq av).1 (ltI (Zeb g) (Zq av).2.2.1)) fun f S=>ov S rfl (Zqb S rfl ZGb (S.view ay)) fun f S=>?_;have m:=ZOa aj m;refine opc S rfl (ZBa S [.slice R T U,.int .u64 au] Zwt rfl rfl) (Zvq S.vin m (show Rep.rel (Zf .u64) _ [.int .u64 au] au from (Zfa bk)) bi) ?_;rintro _ c5 f w bm ⟨c6,c7,rfl,ak,bn⟩ S;have ay:=Atm bm ay;obtain ⟨aT,aU,aV,rfl⟩:=ZTa ak;obtain ⟨rfl,bo⟩:=bn;refine mv S rfl fun f S=>ov S rfl (ZFa S rfl rfl) fun f S=>ov S rfl (ZFa S rfl rfl) fun f S=>mw S rfl fun f S=>mw S rfl fun f S=>ZP (Zr (bh _ _ (ZB fun _ bp=>bO H fun c8 bq H=>ZY (mv S rfl fun f S=>mv S rfl fun f S=>opc S rfl (ZBa S [.int .u64 (ax.2)] k_en108 rfl rfl) (word_c S.vin (show Rep.rel (Zf .u64) _ [.int .u64 (ax.2)] ax.2 from (Zfa bo)) bq) ?_))));rintro _ c9 f w br ⟨da,rfl,aW⟩ S;obtain ⟨aX,aY,aZ,rfl⟩:=ZTa aW;refine mw S rfl fun f S=>mw S rfl fun f S=>ZP ?_;have S:=S.fr' (σ':=[(4,.slice aT aU aV),(5,.slice aX aY aZ)]) rfl;refine Zr (bp _ _ (wp_ret (Z9s (ZIi ?_))))
  obtain rfl:=ZM H;have ak:=ZOa br ak;refine ZBg S (ZYj rfl (Zab S rfl) (Zab S rfl)) ⟨[.slice aT aU aV],[.slice aX aY aZ],rfl,ak,aW⟩
 have H:=ZHb H W;refine ZUa S rfl W (wp_skip (Zge (Zr (bc _ _ (ZB fun _ bs=>bO H fun db bt H=>bO H fun az aA H=>bO H fun k bu H=>ZY (mv S rfl fun f S=>mv S rfl fun f S=>ov S rfl (Zgc S (Zeb g) rfl rfl Zla) fun f S=>ov S rfl (ZE S rfl rfl (Z2b bt)) fun f S=>?_))))));obtain ⟨_,bv,bw,dc,rfl,aB,bx⟩:=ZFc g (Zq aA).2.1;obtain ⟨rfl,bz⟩:=bx;refine ov S rfl (Zva S rfl rfl Zla (Zq aA).1 (ltI (Zeb g) (Zq aA).2.2.1)) fun f S=>ov S rfl (Zqb S rfl ZGb (S.view aB)) fun f S=>opc S rfl (ZBa S [.int .u64 az] k_en151 rfl rfl) (lz64_c S.vin (show Rep.rel (Zf .u64) _ [.int .u64 az] az from (Zfa bz)) bu) ?_;rintro _ dd f w aC ⟨de,rfl,bA⟩ S;have aB:=Atm aC aB;obtain ⟨rfl,aD⟩:=bA;refine mw S rfl fun f S=>ZP (Zr (bs _ _ (ZB fun _ bB=>bO H fun bC bD H=>ZY (mv S rfl fun f S=>mv S rfl fun f S=>?_))));have g:=ZOa aC g;refine opc S rfl (ZBa S [.slice (some ⟨bv,bw,none⟩) n5 k6,.int .i64 k] Z6s rfl rfl) (ZAv S.vin g (show Rep.rel (Zf .i64) _ [.int .i64 k] k from (Zfa aD)) bD) ?_;rintro _ bE f w bG ⟨df,rfl,v⟩ S;obtain ⟨aE,aF,aG,rfl⟩:=ZTa v;refine mw S rfl fun f S=>ZP (Zr (bB _ _ (ZB fun _ bH=>bO H fun X bI H=>bO H fun dg bJ H=>bO H fun dh bK H=>ZY ?_)))
 obtain ⟨di,w,bM,S⟩:=Zbh (P:=Tryz.prog) (t:=35) (e:=160) S (n:=0) (cs:=[]) (vals:=[]) (sz:=1) rfl (by decide) (fun _=>by kernel_rfl);have aH:Rep.rels (Zf .u64) bE [] []:=Z2d;refine ZMc wn rfl zl (bM rfl) S fun f S=>mv S rfl fun f S=>mv S rfl fun f S=>?_;have m:=ZOa (leT (leT aj aC) bG) m;refine opc S rfl (ZBa S [.slice R T U,.int .i64 k] Z6s rfl rfl) (ZAv S.vin m (show Rep.rel (Zf .i64) _ [.int .i64 k] k from (Zfa aD)) bI) ?_;rintro _ al f w a0 ⟨dj,rfl,aI⟩ S;have aH:=ZQ a0 aH;obtain ⟨dk,dl,dm,rfl⟩:=ZTa aI;have aJ:=S;obtain ⟨dn,dp,a1,w,bP,S,bQ⟩:=Z5f (ty:=35) (A:=(Zf .u64)) Zpi S (i:=0) (n':=(([]:(List Int))++((Zc 18446744073709551616 X))).length) rfl aI (appN rfl (Zeb aI)) (Zje bJ) (by decide);have bR:=ZVb aH bQ;refine ZMc wn rfl zl (ZQe aJ rfl rfl bP) S fun f S=>?_;obtain ⟨dq,w,bS,S⟩:=Zbh S (n:=1) (cs:=[.int .u64 0]) (vals:=[(0,.int .u64 0)]) (sz:=1) rfl (by decide) (Zas Zpi (x:=.int .u64 0) (cs:=[.int .u64 0]) rfl rfl (by decide));have aK:Rep.rels (Zf .u64) al [.int .u64 0] [(0:Int)]:=(Zrs (Zfa (by decide)) Z2d);refine ZMc wn rfl zl (bS rfl) S fun f S=>?_;have aJ:=S;obtain ⟨aL,aM,w,bT,S⟩:=ZXk (ty:=35) Zpi S (i:=1) (n':=((([]:(List Int))++((Zc 18446744073709551616 X)))++[(0:Int)]).length) rfl (Zwe aK rfl) (Z3g S (j:=0) rfl) (ZXg aK) (appN rfl rfl) (Zje bK) (by decide)
 have bU:=ZVb bR aK;refine ZMc wn rfl zl (ZQe aJ rfl rfl bT) S fun f S=>mw S rfl fun f S=>ZP ?_;have S:=S.fr' (σ':=[(8,.int .i64 k),(9,.slice aE aF aG),(10,.slice (mkA aL) (((([]:(List Int))++((Zc 18446744073709551616 X)))++[(0:Int)]).length) aM)]) rfl;refine Zr (bH _ _ (sr (mv S rfl fun f S=>?_)));have v:=ZOa a0 v;refine ov S rfl (Zgc S (Zeb v) rfl rfl Zla) fun f S=>mw S rfl fun f S=>oe (ZB fun _ bV=>bO H fun q bW H=>bO H fun dr am H=>ZY (mv S rfl fun f S=>ov S rfl (Zgc S rfl rfl rfl Zla) fun f S=>mv S rfl fun f S=>ov S rfl (ZE S rfl rfl (Z2b bW)) fun f S=>?_));obtain ⟨aN,a2⟩:∃ c:List Value,c=(List.replicate (q).toNat [.int .u64 0]).flatten:=⟨_,rfl⟩;obtain ⟨a3,w,bX,S⟩:=ZVr Zpi S (l:=q) (c:=q) (ZBd am).1 (ZBd am).2.1 (ZBd am).2.2.1 (ZBd am).2.2.2 a2;have bY:Rep.rels (Zf .u64) al aN (List.replicate (q).toNat (0:Int)):=by rw [a2];exact ZUh (show Rep.rel (Zf .u64) _ [.int .u64 0] _ from (Zfa (by decide))) _
 refine ZMc wn rfl zl (bX rfl rfl) S fun f S=>mw S rfl fun f S=>ZP (Zr (bV _ _ (ZB fun _ bZ=>ZB fun _ b0=>bO H fun ds a4 H=>ZY (mv S rfl fun f S=>ov S rfl (Zgc S (repN (x:=(0:Int))) rfl rfl Zla) fun f S=>ov S rfl (ZE S rfl rfl (Z2b a4)) fun f S=>mw S rfl fun f S=>ZP (Zr (b0 _ _ ?_))))));obtain ⟨b1,b2,b3⟩:=Zpa H;refine Zad (fun f w=>∃ G I J B L an Y M Z aO aa,(G,I)=b1∧Zb.le al aa∧St 84 w0 F [(8,.int .i64 k),(10,.slice (mkA J) B L),(12,.slice (mkA Y) M Z)] [Loc.own J 160 1 B L an,Loc.own Y 160 1 M Z aO] aa f w∧Rep.rels (Zf .u64) aa an G∧B=G.length∧Rep.rels (Zf .u64) aa aO I∧M=I.length) (fun _ b4=>?_) ?_
 ·have H:=b2;refine wp_block ?_;obtain ⟨dt,b5,b6⟩:=Zpa H;have S:=S.reorder (ℓ':=[Loc.own aL 160 1 (((([]:(List Int))++((Zc 18446744073709551616 X)))++[(0:Int)]).length) aM ((([]++a1)++[.int .u64 0])),Loc.own (some a3) 160 1 ((q).toNat) (q).toNat aN]) [2,0] rfl (by decide);refine ZRe b5 (fun b7 f w=>∃ ao N d ap C D s aq E ab o ac,(ao,N,d)=b7∧Zb.le al ac∧St 84 w0 F [(8,.int .i64 k),(9,.slice aE aF aG),(10,.slice (mkA ap) C D),(11,.int .i64 ((((Zc 18446744073709551616 bC)).length:Int))),(12,.slice (mkA aq) E ab),(13,.int .i64 d)] [Loc.own ap 160 1 C D s,Loc.own aq 160 1 E ab o] ac f w∧Rep.rels (Zf .u64) ac s ao∧C=ao.length∧Rep.rels (Zf .u64) ac o N∧E=N.length∧inR .i64 d) ⟨_,_,_,aL,((([]:(List Int))++((Zc 18446744073709551616 X)))++[(0:Int)]).length,aM,(([]++a1)++[.int .u64 0]),some a3,(q).toNat,(q).toNat,aN,_,rfl,(leR _),(S.fr' rfl),bU,rfl,bY,(repN (x:=(0:Int))),(ZMb a4).2⟩ ?_;rintro _ f w st ⟨ao,N,d,ap,C,D,s,aq,E,ab,o,ac,hq,aP,S,ad,ae,af,ag,du⟩ H dw b8 b9
  subst hq;refine ZB fun _ ca=>sr (mv S rfl fun f S=>ov S rfl (ZE S rfl rfl Zeo) fun f S=>oe ?_);rcases Zvb (decide ((0:Int)≤d)) with ah | ah
  ·have H:=ZFb H ah;refine ZEb S rfl ah (wp_skip (Zr (ca _ _ (ZB fun _ cb=>wp_block (bO H fun dx cc H=>bO H fun O ce H=>bO H fun dy h H=>bO H fun u cg H=>bO H fun dz Q H=>ZY (mv S rfl fun f S=>mv S rfl fun f S=>mv S rfl fun f S=>?_))))));refine mv S rfl fun f S=>mv S rfl fun f S=>mv S rfl fun f S=>ov S rfl (ZE S rfl rfl (Ztg cc)) fun f S=>ov S rfl (ZE S rfl rfl (Ztg ce)) fun f S=>?_;obtain ⟨aQ,rfl⟩:=Zyd S (j:=0) rfl (by have:=Zpc h;have:=ae;omega);refine ov S rfl (ZbB S (j:=0) rfl Zla (Zpc h).1 (Zpc h).2.1 (by have:=(Zpc h).2.2.1;have:=ae;omega) rfl rfl rfl) fun f S=>mv S rfl fun f S=>?_;obtain ⟨pre399,post400,ch,ci,cj,ck,cl,cm⟩:=ZdA S (i:=0) (lo:=(d).toNat) (hi:=(O).toNat) rfl (Zpc h).2.2.2.2.2.1 (by have:=(Zpc h).2.2.2.2.2.2;have:=ae;omega);have v:=ZOa aP v;refine Zzr S wn rfl zl (ZBa S [.slice (some ⟨aQ,(d).toNat*1,none⟩) ((O-d).toNat) (D-(d).toNat),.slice aE aF aG] k_en153 rfl rfl) (i:=0) rfl rfl (digit_c S.vin ch cj ci (Zpc h).2.2.2.2.1 ⟨Zvw (Zpc h).1 (Zpc h).2.1 ck,cl⟩ (Z6v ad rfl (Zpc h).2.2.2.1) v cg) ?_;rintro _ a5 f w aR ⟨⟨dA,rfl,cn⟩,co,aS,cp,cq,a6⟩ hSf;have ad:=ZQ aR ad
   have af:=ZQ aR af;have a7:((O).toNat-(d).toNat)=u.2.length:=by have:=cq;have:=Zpc h;omega
   have S:=hSf (Loc.own (some aQ) 160 1 C D (List.take ((d).toNat*1) s++aS++List.drop ((O).toNat*1) s)) rfl (cm _ aS (Zwe a6 a7) cp) co;have cr:=Zxz (p:=(d).toNat) (r:=(O).toNat) (sz:=1) ad a6 rfl;have ct:=ZnA ae (Zpc h).2.2.2.2.2.1 (Zpc h).2.2.2.2.2.2 a7;obtain ⟨rfl,cu⟩:=cn;obtain ⟨cv,rfl⟩:=Zyd S (j:=1) rfl (posN ag (Zq Q).2.2.2);have a8:=ZVa af (Zq Q).2.1;obtain ⟨dB,cw⟩:∃ c,(List.take (Zf .u64).n (List.drop ((d).toNat*(Zf .u64).n) o))=c:=⟨_,rfl⟩;rw [cw] at a8;obtain ⟨rfl,dC⟩:=a8;refine ov S rfl (Zva S rfl rfl Zla (Zq Q).1 (ltI ag (Zq Q).2.2.1)) fun f S=>?_;obtain ⟨w,cx,S⟩:=ZXd S ZGb (off:=0+(d).toNat*1) (z:=.int .u64 (u.1)) (cs:=[.int .u64 (u.1)]) (Zwd rfl) rfl (i:=1) rfl (Zei S (j:=1) rfl (ltN ag (Zq Q).2.2.2)) (by first | rfl | simp [plain]);have cy:Rep.rels (Zf .u64) a5 (List.take (0+(d).toNat*1) o++[Value.int IntKind.u64 (u.1)]++List.drop (0+(d).toNat*1+1) o) (N.set (d).toNat u.1):=Z7g af (Zq Q).2.2.2 (show Rep.rel (Zf .u64) a5 [.int .u64 (u.1)] _ from (Zfa cu)) rfl rfl;have cz:E=(N.set (d).toNat u.1).length:=setN ag;refine ZWl wn rfl (cx rfl rfl) (ZP (Zge (Zr (cb _ _ (bO H fun dD a9 H=>ZY (mv S rfl fun f S=>ov S rfl (ZE S rfl rfl (Z2b a9)) fun f S=>mw S rfl fun f S=>ZP ?_))))))
   obtain rfl:=ZM H;refine b8 _ rfl _ _ ⟨_,_,_,some aQ,C,D,(List.take ((d).toNat*1) s++aS++List.drop ((O).toNat*1) s),some cv,E,ab,(List.take (0+(d).toNat*1) o++[Value.int IntKind.u64 (u.1)]++List.drop (0+(d).toNat*1+1) o),_,rfl,(leT aP aR),(S.fr' rfl),cr,ct,cy,cz,(ZMb a9).2⟩
  have H:=ZHb H ah;refine ZUa S rfl ah (wp_exit (Zbb ?_));obtain rfl:=ZM H;have hq:=b9 _ rfl;subst hq;have H:=b6;refine Zbb (Z6d ?_);obtain rfl:=ZM H;refine Zr (b4 _ _ ⟨_,_,ap,C,D,s,aq,E,ab,o,_,rfl,(leT (leR _) aP),(S.fr' rfl),ad,ae,af,ag⟩)
 rintro f w ⟨G,I,J,B,L,an,Y,M,Z,aO,aa,hq,dE,S,ai,cA,cB,cC⟩;subst hq;have H:=b3;refine Zr (bZ _ _ (ZB fun _ cD=>bO H fun dF cE H=>bO H fun dG cF H=>bO H fun dH cG H=>ZY (mv S rfl fun f S=>?_)));obtain ⟨dI,cH,S,cI⟩:=S.pubSlice (i:=1) (A:=(Zf .u64)) (l:=I) (ℓ':=[Loc.own J 160 1 B L an]) rfl rfl cC cB rfl;have ai:=ZQ cH ai;refine opc S rfl (ZBa S [.slice (mkA Y) M Z] ZEl rfl rfl) (ZWj S.vin (show Rep.rel (Zu (Zf .u64)) _ [.slice (mkA Y) M Z] I from cI) cE) ?_;rintro _ dJ f w cJ ⟨dK,rfl,ar⟩ S;have ai:=ZQ cJ ai;obtain ⟨cK,cL,cM,rfl⟩:=ZTa ar;refine mv S rfl fun f S=>?_;obtain ⟨dL,cN,S,cO⟩:=S.pubSlice (i:=0) (A:=(Zf .u64)) (l:=G) (ℓ':=[]) rfl rfl cA ai rfl;refine opc S rfl (ZBa S [.slice (mkA J) B L] ZEl rfl rfl) (ZWj S.vin (show Rep.rel (Zu (Zf .u64)) _ [.slice (mkA J) B L] G from cO) cF) ?_;rintro _ dM f w cP ⟨dN,rfl,ba⟩ S;obtain ⟨cQ,cR,cS,rfl⟩:=ZTa ba;refine mv S rfl fun f S=>opc S rfl (ZBa S [.slice cQ cR cS,.int .i64 k] k_en154 rfl rfl) (right_c S.vin ba (show Rep.rel (Zf .i64) _ [.int .i64 k] k from (Zfa aD)) cG) ?_;rintro _ dO f w cT ⟨dP,rfl,bb⟩ S;obtain ⟨cU,cV,cW,rfl⟩:=ZTa bb
 refine mw S rfl fun f S=>mw S rfl fun f S=>ZP (Zr (cD _ _ (wp_ret ?_)));obtain rfl:=ZM H;have ar:=ZOa (leT (leT cN cP) cT) ar;refine ZBg S (ZYj rfl (Zab S rfl) (Zab S rfl)) ⟨[.slice cK cL cM],[.slice cU cV cW],rfl,ar,bb⟩
theorem Z3z {d:World} {c:Zb} (hv:VIn c d) {e:List Value} {a:Nat} (i:Rep.rel Zw c e a) {f:List Value} {b:Nat} (j:Rep.rel Zw c f b) {z:Nat×Nat} (hm:ZLd a b=some z) :
  Ret Tryz.prog 111 #[Zw.val e,Zw.val f] d c (fun y v'=>∃ g h,y=Value.tuple #[Zw.val g,Zw.val h]∧Zw.rel v' g z.1∧Zw.rel v' h z.2) :=
 ZUz hv i j (Zhz hm)
end Go.Eng
set_option maxRecDepth 100000
set_option maxHeartbeats 4000000
namespace Go.Eng
open Go.Proofs Go.RowKit
noncomputable def ZYk:FuncId×Con:=(111,⟨[.leaf 0,.leaf 0],[.leaf 0,.leaf 0],fun p=>ZLd p.1 p.2⟩)
theorem ZPt:ZId Tryz.prog ZYk.1 ZYk.2:=fun w v vals x z hv ha hz=>by
 obtain ⟨c0,w0,e0,p0,c1,e1,p1⟩:=ha;subst e0;subst e1
 exact .inl ⟨fun _ _=>by kernel_rfl,Ret.mono (Z3z hv p0 p1 hz) fun y v' _ ⟨r0,r1,e,h0,h1⟩=>⟨_,e,r0,_,rfl,h0,r1,rfl,h1⟩⟩
end Go.Eng
set_option maxRecDepth 100000
set_option maxHeartbeats 4000000
namespace Go.Eng
open Go.Proofs Go.RowKit
noncomputable def Zms:FuncId×Con:=(149,⟨[.leaf 0,.leaf 0],[.int .u64],fun p=>Zih p.1 p.2⟩)
theorem small_k:KQ Zms:=Zh (ZA (C:=cf2 [(35,0)] []) (.n (.n (.two (.n (.j [1] [] [.s 5 (.dat (.int .u64))] .no)) (.n (.f (.j [] [] [.s 5 (.dat (.int .u64))] (.f (.l [] [] [.s 5 (.dat (.int .u64)),.s 6 (.dat (.int .u64))] 0 [] [] [.s 5 (.dat (.int .u64))] .no)))))))) Tryz.func149 [] (fun v vals x z ha hz=>.trans (by kernel_rfl) (Zpw hz)))
end Go.Eng
set_option maxRecDepth 100000
set_option maxHeartbeats 4000000
namespace Go.Eng
open Go.Proofs Go.RowKit
noncomputable def gcd_q:FuncId×Con:=(109,⟨[.leaf 0,.leaf 0],[.leaf 0],fun p=>gcdF p.1 p.2⟩)
theorem gcd_k:KQ gcd_q:=Zh (ZA (C:=cf2 [(35,0)] [Zji,ZYk,Zms]) (.n (.f (.cut ⟨⟨[],[],[]⟩,[(.norm,⟨[],[],[.s 0 (.dat (.leaf 0))]⟩),(.ret,⟨[],[],[.s 1000 (.dat (.leaf 0))]⟩)]⟩ (.f (.cut ⟨⟨[],[],[.s 0 (.dat (.leaf 0)),.s 1 (.dat (.leaf 0))]⟩,[(.ret,⟨[],[],[.s 1000 (.dat (.leaf 0))]⟩),(.exit 0,⟨[],[],[.s 0 (.dat (.leaf 0))]⟩)]⟩ (.f (.n (.f (.f (.f (.j [0,1] [] [.s 17 (.dat .bool)] .no))))))))))) Tryz.func109 [] (fun v vals x z ha hz=>.trans (by kernel_rfl) (gcdF_eq hz)) ⟨Zjp,ZPt,small_k,tr⟩)
end Go.Eng
set_option maxRecDepth 100000
set_option maxHeartbeats 4000000
namespace Go.Eng
open Go.Proofs Go.RowKit
noncomputable def Z5o:FuncId×Con:=(110,⟨[.leaf 0],[.bool],fun p=>Zyg p⟩)
theorem Z1r:KQ Z5o:=Zh (Z4k (C:=cf2 [] []) (.n (.f (.j [] [] [.s 2 (.dat .bool)] .no))) Tryz.func110 [] [.slice (.int .u64)] [.bool] (fun x=>((Zc 18446744073709551616 x))) (fun z=>z) (fun v vals x z ha hz=>.trans (by kernel_rfl) (Z2x.trans hz)))
end Go.Eng
set_option maxRecDepth 100000
set_option maxHeartbeats 4000000
namespace Go.Eng
open Go.Proofs Go.RowKit
noncomputable def Z1i:FuncId×Con:=(65,⟨[.leaf 2,.leaf 0],[.leaf 3],fun p=>Zxd p.1 p.2⟩)
theorem Z0j:KQ Z1i:=Zh (ZA (C:=cf0 [gcd_q,Z5o,ZYk] [] [] []) (.n (.two (.n (.n (.j [2,4] [] [.s 1 (.dat (.leaf 0)),.l (.sl 2) (.box 37 (.dat (.pair .bool (.leaf 0))))] .no))) (.f (.n (.j [2,4] [] [.s 1 (.dat (.leaf 0))] .no))))) Tryz.func65 [] (fun v vals x z ha hz=>.trans (by kernel_rfl) (ZWw hz)) ⟨gcd_k,Z1r,ZPt,tr⟩)
end Go.Eng
set_option maxRecDepth 100000
set_option maxHeartbeats 4000000
namespace Go.Eng
open Go.Proofs Go.RowKit
noncomputable def Zug:FuncId×Con:=(66,⟨[.bool,.leaf 0],[.leaf 2],fun p=>Zmb p.1 p.2⟩)
theorem Zuh:KQ Zug:=Zh (ZA (C:=cf0 [] [] [] []) (.n (.f (.j [4] [] [.l (.sl 4) (.box 37 (.dat (.pair .bool (.leaf 0))))] .no))) Tryz.func66 [] (fun v vals x z ha hz=>.trans (by kernel_rfl) (ZkB hz)))
end Go.Eng
set_option maxRecDepth 100000
set_option maxHeartbeats 4000000
namespace Go.Eng
open Go.Proofs Go.RowKit
noncomputable def Zmq:FuncId×Con:=(81,⟨[.int .i64,.int .i64],[.leaf 3,.int .i64],fun p=>ZPi p.1 p.2⟩)
theorem qnew_k:KQ Zmq:=Zh (ZA (C:=cf0 [Z1i,Zug,of_q] [] [] []) .no Tryz.func81 [] (fun v vals x z ha hz=>by obtain ⟨c0,w0,e0,p0,c1,e1,p1⟩:=ha;exact .trans (by kernel_rfl) (Z3A p0.2 p1.2 hz)) ⟨Z0j,Zuh,of_k,tr⟩)
end Go.Eng
set_option maxRecDepth 100000
set_option maxHeartbeats 4000000
namespace Go.Eng
open Go.Proofs Go.RowKit
noncomputable def Zfu:FuncId×Con:=(29,⟨[.pair (.int .i64) (.int .i64)],[.leaf 3],fun p=>ZJi p⟩)
theorem ZfA:KQ Zfu:=Zh (ZA (C:=cf0 [Zep,Zmq] [] [] []) .no Tryz.func29 [] (fun v vals x z ha hz=>.trans (by kernel_rfl) (Zlz hz)) ⟨ZIq,qnew_k,tr⟩)
end Go.Eng
set_option maxRecDepth 100000
set_option maxHeartbeats 4000000
namespace Go.Eng
open Go.Proofs Go.RowKit
noncomputable def ZNe:FuncId×Con:=(147,⟨[.slice (.int .u32)],[.leaf 1],fun p=>Zlb p⟩)
theorem Zbf:KQ ZNe:=Zh (Z4k (C:=cf2 [] []) (.n (.n (.f (.j [0] [] [.s 3 (.dat (.int .i64))] (.f (.l [0] [] [.s 3 (.dat (.int .i64))] 0 [0] [] [.s 3 (.dat (.int .i64))] (.f (.f (.f (.j [0,3] [] [.s 15 (.dat .bool)] .no)))))))))) Tryz.func147 [] [.slice (.int .u32)] [.slice (.int .u32)] (fun x=>(x)) (fun z=>(Zc 4294967296 z)) (fun v vals x z ha hz=>by obtain ⟨c0,e0,p0⟩:=ha;exact .trans (by kernel_rfl) (by cases hz;exact (rcut_eq (Z5n p0).1 (Z5n p0).2))))
end Go.Eng
set_option maxRecDepth 100000
set_option maxHeartbeats 4000000
namespace Go.Eng
open Go.Proofs Go.RowKit
noncomputable def Zej:FuncId×Con:=(105,⟨[.int .u64],[.leaf 1],fun p=>Z8b p⟩)
theorem Zjl:KQ Zej:=Zh (ZA (C:=cf2 [(52,1),(54,4)] [ZNe]) .no Tryz.func105 [] (fun v vals x z ha hz=>by obtain ⟨c0,e0,p0⟩:=ha;exact .trans (by kernel_rfl) (ZZx p0.2 hz)) ⟨Zbf,tr⟩)
end Go.Eng
set_option maxRecDepth 100000
set_option maxHeartbeats 4000000
namespace Go.Eng
open Go.Proofs Go.RowKit
noncomputable def ZZi:FuncId×Con:=(138,⟨[.leaf 1,.leaf 1],[.leaf 1],fun p=>Zza p.1 p.2⟩)
theorem ZRj:KQ ZZi:=Zh (ZA (C:=cf2 [(52,1),(54,4)] [ZNe]) (.n (.n (.f (.n (.j [] [] [.s 5 (.own 161 (.int .u32))] (.f (.l [0,1] [] [.s 5 (.own 161 (.int .u32)),.s 6 (.dat (.int .i64))] 0 [] [] [.s 5 (.own 161 (.int .u32))] (.f (.n (.f (.f (.n (.f (.n (.j [0,1,6] [] [.s 5 (.own 161 (.int .u32)),.s 7 (.dat (.int .u64))] (.f (.l [0,1,6] [] [.s 5 (.own 161 (.int .u32)),.s 7 (.dat (.int .u64)),.s 8 (.dat (.int .i64))] 2 [0,1,6] [] [.s 5 (.own 161 (.int .u32)),.s 7 (.dat (.int .u64))] .no))))))))))))))))) Tryz.func138 [] (fun v vals x z ha hz=>.trans (by kernel_rfl) (Z4z hz)) ⟨Zbf,tr⟩)
end Go.Eng
set_option maxRecDepth 100000
set_option maxHeartbeats 4000000
namespace Go.Eng
open Go.Proofs Go.RowKit
noncomputable def Zli:FuncId×Con:=(145,⟨[.leaf 1,.leaf 1],[.int .i64],fun p=>Z2c p.1 p.2⟩)
theorem Zdm:KQ Zli:=Zh (ZA (C:=cf2 [(52,1),(54,4)] []) (.n (.n (.n (.f (.n (.cut ⟨⟨[],[],[]⟩,[(.norm,⟨[],[],[]⟩),(.ret,⟨[],[],[.s 1000 (.dat (.int .i64))]⟩)]⟩ (.f (.cut ⟨⟨[0,1],[],[.s 5 (.dat (.int .i64))]⟩,[(.ret,⟨[],[],[.s 1000 (.dat (.int .i64))]⟩),(.exit 0,⟨[],[],[]⟩)]⟩ .no)))))))) Tryz.func145 [] (fun v vals x z ha hz=>by obtain ⟨c0,w0,e0,p0,c1,e1,p1⟩:=ha;exact .trans (by kernel_rfl) ((ZBB (ZIr p0) (ZIr p1)).trans hz)))
end Go.Eng
set_option maxRecDepth 100000
set_option maxHeartbeats 4000000
namespace Go.Eng
open Go.Proofs Go.RowKit
noncomputable def ZQn:FuncId×Con:=(146,⟨[.leaf 1,.leaf 1],[.leaf 1],fun p=>ZTb p.1 p.2⟩)
theorem Zpv:KQ ZQn:=Zh (ZA (C:=cf2 [(52,1),(54,4)] [ZNe]) (.n (.n (.n (.f (.n (.j [] [] [.s 5 (.own 161 (.int .u32))] (.f (.l [0,1] [] [.s 5 (.own 161 (.int .u32)),.s 6 (.dat (.int .i64)),.s 7 (.dat (.int .i64))] 0 [] [] [.s 5 (.own 161 (.int .u32))] (.f (.n (.f (.f (.n (.two (.n (.j [0,1,5,7] [] [.s 8 (.dat (.int .i64))] .no)) (.n (.f (.n (.j [0,1,5,7] [] [.s 6 (.dat (.int .i64)),.s 8 (.dat (.int .i64))] .no)))))))))))))))))) Tryz.func146 [] (fun v vals x z ha hz=>.trans (by kernel_rfl) (Zmy hz)) ⟨Zbf,tr⟩)
end Go.Eng
set_option maxRecDepth 100000
set_option maxHeartbeats 4000000
namespace Go.Eng
open Go.Proofs Go.RowKit
noncomputable def Z9m:FuncId×Con:=(168,⟨[.leaf 1,.int .u32],[.leaf 1,.int .u32],fun p=>Zqf p.1 p.2⟩)
theorem ZCv:KQ Z9m:=Zh (ZA (C:=cf2 [(52,1),(54,4)] [ZNe]) (.n (.n (.n (.f (.n (.j [] [] [.s 6 (.own 161 (.int .u32)),.s 7 (.dat (.int .u64))] (.f (.l [0,1] [] [.s 6 (.own 161 (.int .u32)),.s 7 (.dat (.int .u64)),.s 8 (.dat (.int .i64))] 0 [] [] [.s 6 (.own 161 (.int .u32)),.s 7 (.dat (.int .u64))] .no)))))))) Tryz.func168 [] (fun v vals x z ha hz=>by obtain ⟨c0,w0,e0,p0,c1,e1,p1⟩:=ha;exact .trans (by kernel_rfl) (ZTA p1.2 hz)) ⟨Zbf,tr⟩)
end Go.Eng
set_option maxRecDepth 100000
set_option maxHeartbeats 4000000
namespace Go.Eng
open Go.Proofs Go.RowKit
noncomputable def Zvn:FuncId×Con:=(169,⟨[.leaf 1],[.int .i64],fun p=>Z0f p⟩)
theorem ZVs:KQ Zvn:=Zh (ZA (C:=cf2 [(52,1),(54,4)] []) (.n (.n (.n (.f (.n (.j [] [] [.s 3 (.dat (.int .i64))] (.f (.l [] [] [.s 3 (.dat (.int .i64)),.s 4 (.dat (.int .u32))] 0 [] [] [.s 3 (.dat (.int .i64))] .no)))))))) Tryz.func169 [] (fun v vals x z ha hz=>.trans (by kernel_rfl) (ZHw hz)))
end Go.Eng
set_option maxRecDepth 100000
set_option maxHeartbeats 4000000
namespace Go.Eng
open Go.Proofs Go.RowKit
noncomputable def ZDh:FuncId×Con:=(170,⟨[.leaf 1,.int .i64],[.leaf 1],fun p=>Zjc p.1 p.2⟩)
theorem Zni:KQ ZDh:=Zh (ZA (C:=cf2 [(52,1),(54,4)] [ZNe]) (.n (.n (.n (.n (.f (.n (.j [] [] [.s 5 (.own 161 (.int .u32)),.s 6 (.dat (.int .u64))] (.f (.l [0,1] [] [.s 5 (.own 161 (.int .u32)),.s 6 (.dat (.int .u64)),.s 7 (.dat (.int .i64))] 0 [] [] [.s 5 (.own 161 (.int .u32)),.s 6 (.dat (.int .u64))] .no))))))))) Tryz.func170 [] (fun v vals x z ha hz=>.trans (by kernel_rfl) (Z4y hz)) ⟨Zbf,tr⟩)
end Go.Eng
set_option maxRecDepth 100000
set_option maxHeartbeats 4000000
namespace Go.Eng
open Go.Proofs Go.RowKit
noncomputable def Zdo:FuncId×Con:=(171,⟨[.leaf 1,.int .i64],[.leaf 1],fun p=>Zpg p.1 p.2⟩)
theorem ZGv:KQ Zdo:=Zh (ZA (C:=cf2 [(52,1),(54,4)] [ZNe]) (.n (.n (.f (.n (.j [] [] [.s 5 (.own 161 (.int .u32))] (.f (.l [0,1] [] [.s 5 (.own 161 (.int .u32)),.s 6 (.dat (.int .i64))] 0 [] [] [.s 5 (.own 161 (.int .u32))] (.f (.n (.f (.f (.n (.f (.n (.j [0,1,5,6] [] [.s 7 (.dat (.int .u64))] .no))))))))))))))) Tryz.func171 [] (fun v vals x z ha hz=>by obtain ⟨c0,w0,e0,p0,c1,e1,p1⟩:=ha;exact .trans (by kernel_rfl) (Zdw p1.2 hz)) ⟨Zbf,tr⟩)
end Go.Eng
set_option maxRecDepth 100000
set_option maxHeartbeats 4000000
namespace Go.Eng
open Go.Proofs Go.RowKit
noncomputable def Zul:FuncId×Con:=(140,⟨[.leaf 1,.leaf 1],[.leaf 1,.leaf 1],fun p=>Zyc p.1 p.2⟩)
theorem Zzm:KQ Zul:=Zh (ZA (C:=cf2 [(52,1),(54,4)] [Zej,ZZi,Zli,ZQn,ZNe,Z9m,Zvn,ZDh,Zdo]) (.n (.n (.n (.n (.n (.n (.n (.f (.n (.j [8] [] [.s 10 (.dat (.leaf 1)),.s 12 (.own 161 (.int .u32))] (.f (.l [8,9,11] [] [.s 10 (.dat (.leaf 1)),.s 12 (.own 161 (.int .u32)),.s 13 (.dat (.int .i64))] 0 [8] [] [.s 10 (.dat (.leaf 1)),.s 12 (.own 161 (.int .u32))] (.f (.n (.f (.j [8,9,11,13] [] [.s 10 (.dat (.leaf 1)),.s 12 (.own 161 (.int .u32))] (.f (.n (.two (.n (.j [8,9,10,11,12,13] [] [.s 14 (.dat (.slice (.int .u32)))] .no)) (.n (.n (.two (.n (.j [8,9,10,11,12,13,14] [] [.s 15 (.dat (.int .u64))] .no)) (.n (.two (.n (.j [8,9,10,11,12,13,14] [] [.s 16 (.dat (.int .u64))] .no)) (.n (.f (.j [8,9,10,11,12,13,14] [] [.s 16 (.dat (.int .u64)),.s 17 (.dat (.leaf 1))] (.f (.l [8,9,10,11,12,13,14] [] [.s 16 (.dat (.int .u64)),.s 17 (.dat (.leaf 1))] 2 [8,9,10,11,12,13,14] [] [.s 16 (.dat (.int .u64)),.s 17 (.dat (.leaf 1))] .no))))))))))))))))))))))))))))) Tryz.func140 [] (fun v vals x z ha hz=>.trans (by kernel_rfl) (ZUB hz)) ⟨Zjl,ZRj,Zdm,Zpv,Zbf,ZCv,ZVs,Zni,ZGv,tr⟩)
end Go.Eng
set_option maxRecDepth 100000
set_option maxHeartbeats 4000000
namespace Go.Eng
open Go.Proofs Go.RowKit
noncomputable def Z4p:FuncId×Con:=(139,⟨[.leaf 1,.leaf 1],[.leaf 1],fun p=>rgcF p.1 p.2⟩)
theorem rgcd_k:KQ Z4p:=Zh (ZA (C:=cf2 [(52,1),(54,4)] [Zul]) (.n (.f (.j [] [] [.s 0 (.dat (.leaf 1))] (.f (.l [] [] [.s 0 (.dat (.leaf 1)),.s 1 (.dat (.leaf 1))] 0 [] [] [.s 0 (.dat (.leaf 1))] .no))))) Tryz.func139 [] (fun v vals x z ha hz=>.trans (by kernel_rfl) (rgcF_eq hz)) ⟨Zzm,tr⟩)
end Go.Eng
set_option maxRecDepth 100000
set_option maxHeartbeats 4000000
namespace Go.Eng
open Go.Proofs Go.RowKit
noncomputable def ZJd:FuncId×Con:=(96,⟨[.bool,.leaf 1,.leaf 1],[.leaf 4],fun p=>ZEa p.1 p.2.1 p.2.2⟩)
theorem Zle:KQ ZJd:=Zh (ZA (C:=cf2 [(52,1),(54,4)] [Z4p,Zul]) .no Tryz.func96 [] (fun v vals x z ha hz=>.trans (by kernel_rfl) (ZZA hz)) ⟨rgcd_k,Zzm,tr⟩)
end Go.Eng
set_option maxRecDepth 100000
set_option maxHeartbeats 4000000
namespace Go.Eng
open Go.Proofs Go.RowKit
noncomputable def ZEe:FuncId×Con:=(58,⟨[.int .i64],[.leaf 4],fun p=>Zaa p⟩)
theorem Zjf:KQ ZEe:=Zh (ZA (C:=cf2 [(52,1),(54,4)] [ZJd,Zej]) .no Tryz.func58 [] (fun v vals x z ha hz=>by obtain ⟨c0,e0,p0⟩:=ha;exact .trans (by kernel_rfl) (ZZw p0.2 hz)) ⟨Zle,Zjl,tr⟩)
end Go.Eng
set_option maxRecDepth 100000
set_option maxHeartbeats 4000000
namespace Go.Eng
open Go.Proofs Go.RowKit
noncomputable def Zdg:FuncId×Con:=(40,⟨[.leaf 4],[.pair (.leaf 4) (.pair (.leaf 4) (.pair (.leaf 4) (.leaf 4)))],fun p=>Zbd p⟩)
theorem ZWh:KQ Zdg:=Zh (Zt (C:=cf0 [ZEe] [] [] []) .no Tryz.func40 [] (fun _=>by kernel_rfl) ⟨Zjf,tr⟩)
end Go.Eng
set_option maxRecDepth 100000
set_option maxHeartbeats 4000000
namespace Go.Eng
open Go.Proofs Go.RowKit
noncomputable def ZEo:FuncId×Con:=(30,⟨[.leaf 4],[.pair (.pair (.leaf 4) (.pair (.leaf 4) (.pair (.leaf 4) (.leaf 4)))) (.pair (.leaf 4) (.pair (.leaf 4) (.pair (.leaf 4) (.leaf 4))))],fun p=>ZGj p⟩)
theorem Zmu:KQ ZEo:=Zh (Zt (C:=cf0 [Zdg,ZEe] [] [] []) .no Tryz.func30 [] (fun _=>by kernel_rfl) ⟨ZWh,Zjf,tr⟩)
end Go.Eng
set_option maxRecDepth 100000
set_option maxHeartbeats 4000000
namespace Go.Eng
open Go.Proofs Go.RowKit
noncomputable def ZDv:FuncId×Con:=(82,⟨[.int .i64,.int .i64],[.leaf 4,.int .i64],fun p=>Zhi p.1 p.2⟩)
theorem rnew_k:KQ ZDv:=Zh (ZA (C:=cf2 [(52,1),(54,4)] [ZEe,ZJd]) .no Tryz.func82 [] (fun v vals x z ha hz=>by obtain ⟨c0,w0,e0,p0,c1,e1,p1⟩:=ha;exact .trans (by kernel_rfl) (Zkz p0.2 p1.2 hz)) ⟨Zjf,Zle,tr⟩)
end Go.Eng
set_option maxRecDepth 100000
set_option maxHeartbeats 4000000
namespace Go.Eng
open Go.Proofs Go.RowKit
noncomputable def rof_q:FuncId×Con:=(31,⟨[.pair (.int .i64) (.int .i64)],[.leaf 4],fun p=>rofF p⟩)
theorem rof_k:KQ rof_q:=Zh (ZA (C:=cf2 [(52,1),(54,4)] [ZEe,ZDv]) .no Tryz.func31 [] (fun v vals x z ha hz=>.trans (by kernel_rfl) (rofF_eq hz)) ⟨Zjf,rnew_k,tr⟩)
end Go.Eng
set_option maxRecDepth 100000
set_option maxHeartbeats 4000000
namespace Go.Eng
open Go.Proofs Go.RowKit
noncomputable def Z3l:FuncId×Con:=(7,⟨[.slice (.pair (.int .i64) (.int .i64))],[.slice (.leaf 3),.slice (.pair (.pair (.leaf 4) (.pair (.leaf 4) (.pair (.leaf 4) (.leaf 4)))) (.pair (.leaf 4) (.pair (.leaf 4) (.pair (.leaf 4) (.leaf 4)))))],fun p=>Zpe p⟩)
theorem ZDp:KQ Z3l:=Zh (Zt (C:=cf0 [Zfu,ZEo,rof_q] [] [] []) (.n (.n (.n (.f (.n (.f (.l [8,9] [] [.s 4 (.own 39 (.leaf 3)),.s 5 (.own 90 (.pair (.pair (.leaf 4) (.pair (.leaf 4) (.pair (.leaf 4) (.leaf 4)))) (.pair (.leaf 4) (.pair (.leaf 4) (.pair (.leaf 4) (.leaf 4)))))),.s 10 (.dat (.int .i64))] 0 [] [] [.s 4 (.own 39 (.leaf 3)),.s 5 (.own 90 (.pair (.pair (.leaf 4) (.pair (.leaf 4) (.pair (.leaf 4) (.leaf 4)))) (.pair (.leaf 4) (.pair (.leaf 4) (.pair (.leaf 4) (.leaf 4))))))] .no))))))) Tryz.func7 [] (fun _=>by kernel_rfl) ⟨ZfA,Zmu,rof_k,tr⟩)
end Go.Eng
set_option maxRecDepth 100000
set_option maxHeartbeats 4000000
namespace Go.Eng
open Go.Proofs Go.RowKit
noncomputable def Z2j:FuncId×Con:=(6,⟨[.slice (.slice (.pair (.int .i64) (.int .i64)))],[.slice (.slice (.leaf 3)),.slice (.slice (.pair (.pair (.leaf 4) (.pair (.leaf 4) (.pair (.leaf 4) (.leaf 4)))) (.pair (.leaf 4) (.pair (.leaf 4) (.pair (.leaf 4) (.leaf 4))))))],fun p=>Zyf p⟩)
theorem Z3o:KQ Z2j:=Zh (Zt (C:=cf0 [Z3l] [] [] []) (.n (.n (.f (.n (.f (.l [0,4,5,14] [] [.s 15 (.dat (.int .i64)),.l (.sl 4) (.own 30 (.slice (.leaf 3))),.l (.sl 5) (.own 31 (.slice (.pair (.pair (.leaf 4) (.pair (.leaf 4) (.pair (.leaf 4) (.leaf 4)))) (.pair (.leaf 4) (.pair (.leaf 4) (.pair (.leaf 4) (.leaf 4)))))))] 0 [4,5] [] [.l (.sl 4) (.own 30 (.slice (.leaf 3))),.l (.sl 5) (.own 31 (.slice (.pair (.pair (.leaf 4) (.pair (.leaf 4) (.pair (.leaf 4) (.leaf 4)))) (.pair (.leaf 4) (.pair (.leaf 4) (.pair (.leaf 4) (.leaf 4)))))))] .no)))))) Tryz.func6 [] (fun _=>by kernel_rfl) ⟨ZDp,tr⟩)
end Go.Eng
set_option maxRecDepth 100000
set_option maxHeartbeats 4000000
namespace Go.Eng
open Go.Proofs Go.RowKit
noncomputable def Zsf:FuncId×Con:=(34,⟨[.slice (.slice (.leaf 3))],[.int .i64],fun p=>Zzc p⟩)
theorem ZWf:KQ Zsf:=Zh (Zt (C:=cf0 [] [] [] []) .no Tryz.func34 [] (fun _=>by kernel_rfl))
end Go.Eng
set_option maxRecDepth 100000
set_option maxHeartbeats 4000000
namespace Go.Eng
open Go.Proofs Go.RowKit
noncomputable def Zyj:FuncId×Con:=(60,⟨[.slice (.slice (.leaf 3))],[.bool],fun p=>Zuf p⟩)
theorem ZLl:KQ Zyj:=Zh (Zt (C:=cf0 [Zsf] [] [] []) (.n (.n (.f (.j [] [] [.s 2 (.dat .bool)] .no)))) Tryz.func60 [(106,Tryz.f106,.no),(107,Tryz.f107,.no),(148,Tryz.f148,.r [] [] [.s 1000 (.dat (.int .i64))] (.n (.f (.n (.f (.cut ⟨⟨[0,1,7],[],[.s 8 (.dat (.int .i64))]⟩,[(.exit 0,⟨[],[],[]⟩),(.ret,⟨[],[],[.s 1000 (.dat (.int .i64))]⟩)]⟩ .no))))))] (fun _=>by kernel_rfl) ⟨ZWf,tr⟩ tr tr ⟨⟨Tryz.func106,fun _ _=>by kernel_rfl⟩,⟨Tryz.func107,fun _ _=>by kernel_rfl⟩,⟨Tryz.func148,fun _ _=>by kernel_rfl⟩,tr⟩)
end Go.Eng
set_option maxRecDepth 100000
set_option maxHeartbeats 4000000
namespace Go.Eng
open Go.Proofs Go.RowKit
noncomputable def ZCh:FuncId×Con:=(62,⟨[.leaf 3],[.bool],fun p=>Z9b p⟩)
theorem Ztj:KQ ZCh:=Zh (ZA (C:=cf0 [] [] [] []) .no Tryz.func62 [] (fun v vals x z ha hz=>.trans (by kernel_rfl) (ZLw hz)))
end Go.Eng
set_option maxRecDepth 100000
set_option maxHeartbeats 4000000
namespace Go.Eng
open Go.Proofs Go.RowKit
noncomputable def ZIl:FuncId×Con:=(113,⟨[.int .u64,.int .u64,.int .u64],[.int .u64,.int .u64],fun p=>Zyb p.1 p.2.1 p.2.2⟩)
theorem Z1s:ZId Tryz.prog ZIl.1 ZIl.2:=fun w v vals x z _ ha hz=>by
 obtain ⟨c0,w0,e0,p0,c1,w1,e1,p1,c2,e2,p2⟩:=ha
 subst e0 e1 e2
 obtain ⟨rfl,h0⟩:=p0
 obtain ⟨rfl,h1⟩:=p1
 obtain ⟨rfl,h2⟩:=p2
 have p0:(Zf .u64).rel v [.int .u64 x.1] x.1:=⟨rfl,h0⟩
 have p1:(Zf .u64).rel v [.int .u64 x.2.1] x.2.1:=⟨rfl,h1⟩
 exact .inr ⟨.tuple #[.int .u64 z.1,.int .u64 z.2],fun w=>Zzp (show Z7d Tryz.prog 113 add64Entry from ⟨_,Tryz.func113,by kernel_rfl,by kernel_rfl,by kernel_rfl,by kernel_rfl⟩) hz w,_,rfl,_,_,rfl,⟨rfl,Zbp hz⟩,_,rfl,⟨rfl,addW_hi p0.2 p1.2 hz⟩⟩
end Go.Eng
set_option maxRecDepth 100000
set_option maxHeartbeats 4000000
namespace Go.Eng
open Go.Proofs Go.RowKit
noncomputable def Znh:FuncId×Con:=(67,⟨[.leaf 0,.leaf 0],[.leaf 0],fun p=>Zsc p.1 p.2⟩)
theorem ZDi:KQ Znh:=Zh (ZA (C:=cf2 [(35,0)] [Z5o,Zwm,ZIl,Z7e]) (.n (.n (.n (.n (.f (.n (.j [] [] [.s 5 (.own 160 (.int .u64))] (.f (.l [1,26,27] [] [.s 5 (.own 160 (.int .u64)),.s 28 (.dat (.int .i64))] 0 [] [] [.s 5 (.own 160 (.int .u64))] (.f (.n (.n (.f (.f (.n (.n (.f (.n (.j [1,6,26,27,28] [] [.s 5 (.own 160 (.int .u64)),.s 8 (.dat (.int .u64))] (.f (.l [1,6,7,26,27,28,33,34] [] [.s 5 (.own 160 (.int .u64)),.s 8 (.dat (.int .u64)),.s 35 (.dat (.int .i64))] 2 [1,6,26,27,28] [] [.s 5 (.own 160 (.int .u64)),.s 8 (.dat (.int .u64))] .no))))))))))))))))))))) Tryz.func67 [] (fun v vals x z ha hz=>.trans (by kernel_rfl) (ZHB hz)) ⟨Z1r,mul64_k,Z1s,ZTg,tr⟩)
end Go.Eng
set_option maxRecDepth 100000
set_option maxHeartbeats 4000000
namespace Go.Eng
open Go.Proofs Go.RowKit
noncomputable def ZWm:FuncId×Con:=(63,⟨[.leaf 2,.leaf 0],[.leaf 2],fun p=>Zmf p.1 p.2⟩)
theorem Zou:KQ ZWm:=Zh (ZA (C:=cf0 [Zug,Znh] [] [] []) .no Tryz.func63 [] (fun v vals x z ha hz=>.trans (by kernel_rfl) (ZUy hz)) ⟨Zuh,ZDi,tr⟩)
end Go.Eng
set_option maxRecDepth 100000
set_option maxHeartbeats 4000000
namespace Go.Eng
open Go.Proofs Go.RowKit
noncomputable def ZCk:FuncId×Con:=(64,⟨[.leaf 0],[.leaf 0],fun p=>ZXc p⟩)
theorem Zym:KQ ZCk:=Zh (ZA (C:=cf0 [Zji] [] [] []) .no Tryz.func64 [] (fun v vals x z ha hz=>.trans (by kernel_rfl) (ZeB hz)) ⟨Zjp,tr⟩)
end Go.Eng
set_option maxRecDepth 100000
set_option maxHeartbeats 4000000
namespace Go.Eng
open Go.Proofs Go.RowKit
noncomputable def Zlj:FuncId×Con:=(18,⟨[.leaf 3,.leaf 3],[.leaf 3,.int .i64],fun p=>Z0e p.1 p.2⟩)
theorem Zsk:KQ Zlj:=Zh (ZA (C:=cf0 [ZCh,ZWm,ZCk,Z1i,Zug,Znh] [] [] []) (.n (.n (.f (.j [2,3,4] [] [.s 6 (.box 37 (.dat (.leaf 2)))] .no)))) Tryz.func18 [] (fun v vals x z ha hz=>.trans (by kernel_rfl) (Zsy hz)) ⟨Ztj,Zou,Zym,Z0j,Zuh,ZDi,tr⟩)
end Go.Eng
set_option maxRecDepth 100000
set_option maxHeartbeats 4000000
namespace Go.Eng
open Go.Proofs Go.RowKit
noncomputable def Z2q:FuncId×Con:=(68,⟨[.leaf 2],[.leaf 2],fun p=>Zgi p⟩)
theorem ZuA:KQ Z2q:=Zh (ZA (C:=cf0 [Zug] [] [] []) .no Tryz.func68 [] (fun v vals x z ha hz=>.trans (by kernel_rfl) (ZCx hz)) ⟨Zuh,tr⟩)
end Go.Eng
set_option maxRecDepth 100000
set_option maxHeartbeats 4000000
namespace Go.Eng
open Go.Proofs Go.RowKit
noncomputable def Zfd:FuncId×Con:=(19,⟨[.leaf 3],[.leaf 3],fun p=>ZGa p⟩)
theorem Z1d:KQ Zfd:=Zh (ZA (C:=cf0 [Z2q] [] [] []) .no Tryz.func19 [] (fun v vals x z ha hz=>.trans (by kernel_rfl) (ZiB hz)) ⟨ZuA,tr⟩)
end Go.Eng
namespace Go.Eng
open Go.Proofs Go.RowKit
set_option maxRecDepth 100000
theorem ZQp:Elem Tryz.prog 30 39 (Z9).n 56 (Value.agg #[Value.bool false,Value.slice none 0 0,Value.slice none 0 0]):=⟨Tryz.underlying30,by kernel_rfl,rfl,by decide⟩
noncomputable def Zig:FuncId×ConO:=(35,⟨[.slice (.leaf 3)],39,.leaf 3,fun p=>ZIb 56 p⟩)
theorem ZEj:Zif Tryz.prog Zig.1 Zig.2:=fun w v vals x z hv ha hz=>by
 obtain ⟨cs,rfl,p0⟩:=ha
 have hz:ZIb 56 (show List Rat from x)=some z:=hz
 obtain ⟨hb,rfl⟩:=ZMB hz
 obtain ⟨q,n,c,rfl⟩:=Zzg (show (Zu Z9).rel v cs z from p0)
 refine ⟨fun _ _=>by kernel_rfl,?_⟩
 have hn:n=(show List Rat from z).length:=by obtain ⟨_,_,e,_⟩:=p0;cases e;rfl
 refine Z8j (K:=8) (args:=[.slice q n c]) hv Tryz.func35 rfl rfl zl fun fa hS=>?_
 refine sr ?_
 refine mw hS rfl fun fa hS=>?_
 refine oe ?_
 refine wp_seq_k fun N1 hN1=>?_
 refine sr ?_
 refine mv hS rfl fun fa hS=>?_
 refine ov hS rfl (ZKx hS Tryz.underlying30 rfl rfl) fun fa hS=>?_
 refine oe ?_
 cases q with
 | none =>
  refine ZEb hS rfl rfl ?_
  have hx:(show List Rat from z)=[]:=by
   obtain ⟨q',c',e,_,_,h3⟩:=p0
   cases e
   rcases h3 with h3 | ⟨_,_,_,_,_,h4,_⟩
   ·exact h3
   ·cases h4
  have hx0:n=0:=by rw [hn,hx];rfl
  refine sr ?_;refine mw hS rfl fun fa hS=>?_;refine oe ?_;refine wp_ret ?_;refine ZIi ?_;have hS2:=hS.nilLoc 39 (Z9).n;have:=Zjo (P:=Tryz.prog) (A:=Z9) hS2 (i:=0) (ob:=none) (n:=0) (cap:=0) (cs:=[]) rfl (Zvd (fn:=Tryz.f35) (r:=.tmp 2) rfl (Zab (t:=2) (y:=.slice (mkA none) 0 0) hS2 rfl)) (l:=([]:List Rat)) Z2d rfl;rw [hx];exact this
 | some ad =>
  refine ZUa hS rfl rfl ?_;refine wp_skip ?_;refine Zr (hN1 _ _ ?_);refine sr ?_;obtain ⟨b,wo,hrun,hS⟩:=ZYz ZQp hS;refine ZMc wn rfl zl hrun hS fun fa hS=>?_;refine mv hS rfl fun fa hS=>?_;obtain ⟨b',cap',cs2,wo,hr,hS',hrel⟩:=Z5f (ty:=30) (A:=Z9) ZQp hS (i:=0) rfl (Rep.mono (Zu Z9) hS.vst.le p0) (n':=n) (by omega) (by rw [hn];exact hb) (by decide);refine ZMc wn rfl zl (ZQe hS rfl rfl hr) hS' fun fa hS=>?_;refine mw hS rfl fun fa hS=>?_;refine oe ?_;refine wp_ret ?_;exact Zjo hS (i:=0) rfl (Zvd rfl (Zab hS rfl)) hrel hn
end Go.Eng
set_option maxRecDepth 100000
set_option maxHeartbeats 4000000
namespace Go.Eng
open Go.Proofs Go.RowKit
noncomputable def qOf_q:FuncId×Con:=(206,⟨[.leaf 3,.leaf 3],[.leaf 3],fun p=>qOf_m p.1 p.2⟩)
theorem qOf_k:KQ qOf_q:=Zh (Zt (C:=cf0 [] [] [] []) .no Tryz.func206 [] (fun _=>by kernel_rfl))
end Go.Eng
set_option maxRecDepth 100000
namespace Go.Eng
open Go.Proofs Go.RowKit
theorem ZMi : ∀ y w, (method (Tryz.prog.types.size + Made.depth) 39 y "Add").run Tryz.prog w = .ok (115, y) w := fun _ _ => by kernel_rfl
theorem Zmk : ∀ y w, (method (Tryz.prog.types.size + Made.depth) 39 y "Cmp").run Tryz.prog w = .ok (20, y) w := fun _ _ => by kernel_rfl
theorem ZVn : ∀ y w, (method (Tryz.prog.types.size + Made.depth) 39 y "Div").run Tryz.prog w = .ok (18, y) w := fun _ _ => by kernel_rfl
theorem ZPg : ∀ y w, (method (Tryz.prog.types.size + Made.depth) 39 y "Mul").run Tryz.prog w = .ok (204, y) w := fun _ _ => by kernel_rfl
theorem Zcf : ∀ y w, (method (Tryz.prog.types.size + Made.depth) 39 y "Neg").run Tryz.prog w = .ok (19, y) w := fun _ _ => by kernel_rfl
theorem ZLx : ∀ y w, (method (Tryz.prog.types.size + Made.depth) 39 y "Of").run Tryz.prog w = .ok (206, y) w := fun _ _ => by kernel_rfl
theorem Ztq : ∀ y w, (method (Tryz.prog.types.size + Made.depth) 39 y "Same").run Tryz.prog w = .ok (207, y) w := fun _ _ => by kernel_rfl
theorem Zbg : ∀ y w, (method (Tryz.prog.types.size + Made.depth) 39 y "Sign").run Tryz.prog w = .ok (13, y) w := fun _ _ => by kernel_rfl
theorem ZGh : ∀ y w, (method (Tryz.prog.types.size + Made.depth) 39 y "Sub").run Tryz.prog w = .ok (69, y) w := fun _ _ => by kernel_rfl
theorem ZDl : ∀ y w, (method (Tryz.prog.types.size + Made.depth) 39 y "Zero").run Tryz.prog w = .ok (62, y) w := fun _ _ => by kernel_rfl
end Go.Eng
set_option maxRecDepth 100000
set_option maxHeartbeats 4000000
namespace Go.Eng
open Go.Proofs Go.RowKit
noncomputable def Zzd:FuncId×Con:=(38,⟨[.int .i64],[.leaf 3],fun p=>ZJa p⟩)
theorem ZSd : KQ Zzd := Zh (Zt (C := cf0 [Zep, qOf_q] [] [] [((39, "Of"), 206)]) .no Tryz.func38 [] (fun _ => by kernel_rfl) ⟨ZIq, qOf_k, tr⟩ tr ⟨ZLx, tr⟩)
end Go.Eng
set_option maxRecDepth 100000
set_option maxHeartbeats 4000000
namespace Go.Eng
open Go.Proofs Go.RowKit
noncomputable def ZPp:FuncId×Con:=(176,⟨[.leaf 0,.leaf 0],[.leaf 0],fun p=>Z7i p.1 p.2⟩)
theorem plus_k:KQ ZPp:=Zh (ZA (C:=cf2 [(35,0)] [ZIl]) (.n (.two (.n (.j [] [] [.s 0 (.dat (.leaf 0)),.s 1 (.dat (.leaf 0))] .no)) (.n (.n (.two (.n (.j [] [] [.s 5 (.own 160 (.int .u64)),.s 6 (.dat (.int .u64))] (.f (.l [1,23,24] [] [.s 5 (.own 160 (.int .u64)),.s 6 (.dat (.int .u64)),.s 25 (.dat (.int .i64))] 0 [] [] [.s 5 (.own 160 (.int .u64)),.s 6 (.dat (.int .u64))] (.f (.n (.n (.f (.f (.n (.n (.f (.n (.j [1,5,6,7,8,23,24,25] [] [.s 9 (.dat (.int .u64))] .no)))))))))))))) (.f (.n (.j [] [] [.s 5 (.own 160 (.int .u64))] .no)))))))) Tryz.func176 [] (fun v vals x z ha hz=>.trans (by kernel_rfl) (ZoA hz)) ⟨Z1s,tr⟩)
end Go.Eng
set_option maxRecDepth 100000
set_option maxHeartbeats 4000000
namespace Go.Eng
open Go.Proofs Go.RowKit
noncomputable def Zkp:FuncId×Con:=(185,⟨[.int .u64,.int .u64,.int .u64],[.int .u64,.int .u64],fun p=>Znd p.1 p.2.1 p.2.2⟩)
theorem sub64_k:ZId Tryz.prog Zkp.1 Zkp.2:=fun w v vals x z _ ha hz=>by
 obtain ⟨c0,w0,e0,p0,c1,w1,e1,p1,c2,e2,p2⟩:=ha
 subst e0 e1 e2
 obtain ⟨rfl,h0⟩:=p0
 obtain ⟨rfl,h1⟩:=p1
 obtain ⟨rfl,h2⟩:=p2
 have p0:(Zf .u64).rel v [.int .u64 x.1] x.1:=⟨rfl,h0⟩
 have p1:(Zf .u64).rel v [.int .u64 x.2.1] x.2.1:=⟨rfl,h1⟩
 exact .inr ⟨.tuple #[.int .u64 z.1,.int .u64 z.2],fun w=>ZFu (show Z7d Tryz.prog 185 ZPl from ⟨_,Tryz.func185,by kernel_rfl,by kernel_rfl,by kernel_rfl,by kernel_rfl⟩) p0.2 p1.2 hz w,_,rfl,_,_,rfl,⟨rfl,ZHu hz⟩,_,rfl,⟨rfl,Zis hz⟩⟩
end Go.Eng
set_option maxRecDepth 100000
set_option maxHeartbeats 4000000
namespace Go.Eng
open Go.Proofs Go.RowKit
noncomputable def Zdt:FuncId×Con:=(177,⟨[.leaf 0,.leaf 0],[.leaf 0],fun p=>ZUg p.1 p.2⟩)
theorem minus_k:KQ Zdt:=Zh (ZA (C:=cf2 [(35,0)] [Z7e,Zkp]) (.n (.n (.n (.f (.n (.j [] [] [.s 5 (.own 160 (.int .u64))] (.f (.l [1,13,14] [] [.s 5 (.own 160 (.int .u64)),.s 6 (.dat (.int .u64)),.s 15 (.dat (.int .i64))] 0 [] [] [.s 5 (.own 160 (.int .u64))] (.f (.n (.n (.f (.f (.n (.n (.f (.n (.j [1,5,6,7,8,13,14,15] [] [.s 9 (.dat (.int .u64))] .no)))))))))))))))))) Tryz.func177 [] (fun v vals x z ha hz=>.trans (by kernel_rfl) (ZvA hz)) ⟨ZTg,sub64_k,tr⟩)
end Go.Eng
set_option maxRecDepth 100000
set_option maxHeartbeats 4000000
namespace Go.Eng
open Go.Proofs Go.RowKit
noncomputable def Zyu:FuncId×Con:=(155,⟨[.leaf 2,.leaf 2],[.leaf 2],fun p=>Zti p.1 p.2⟩)
theorem iplus_k:KQ Zyu:=Zh (ZA (C:=cf0 [Zug,Ztl,ZPp,Zdt] [] [] []) .no Tryz.func155 [] (fun v vals x z ha hz=>.trans (by kernel_rfl) (Zrx hz)) ⟨Zuh,cmp_k,plus_k,minus_k,tr⟩)
end Go.Eng
set_option maxRecDepth 100000
set_option maxHeartbeats 4000000
namespace Go.Eng
open Go.Proofs Go.RowKit
noncomputable def ZRf:FuncId×Con:=(115,⟨[.leaf 3,.leaf 3],[.leaf 3],fun p=>Zzb p.1 p.2⟩)
theorem Z6g:KQ ZRf:=Zh (ZA (C:=cf0 [ZWm,ZCk,Z1i,Znh,Zyu] [] [] []) .no Tryz.func115 [] (fun v vals x z ha hz=>.trans (by kernel_rfl) (Zpy hz)) ⟨Zou,Zym,Z0j,ZDi,iplus_k,tr⟩)
end Go.Eng
set_option maxRecDepth 100000
set_option maxHeartbeats 4000000
namespace Go.Eng
open Go.Proofs Go.RowKit
noncomputable def Zdf:FuncId×Con:=(69,⟨[.leaf 3,.leaf 3],[.leaf 3],fun p=>Zrb p.1 p.2⟩)
theorem ZYf:KQ Zdf:=Zh (ZA (C:=cf0 [Zfd,ZRf] [] [] []) .no Tryz.func69 [] (fun v vals x z ha hz=>.trans (by kernel_rfl) (ZIw hz)) ⟨Z1d,Z6g,tr⟩)
end Go.Eng
set_option maxRecDepth 100000
set_option maxHeartbeats 4000000
namespace Go.Eng
open Go.Proofs Go.RowKit
noncomputable def Zqr:FuncId×Con:=(208,⟨[.leaf 2,.leaf 2],[.leaf 2],fun p=>Z3i p.1 p.2⟩)
theorem ZPx:KQ Zqr:=Zh (ZA (C:=cf0 [Zug,Znh] [] [] []) .no Tryz.func208 [] (fun v vals x z ha hz=>.trans (by kernel_rfl) (Zyz hz)) ⟨Zuh,ZDi,tr⟩)
end Go.Eng
set_option maxRecDepth 100000
set_option maxHeartbeats 4000000
namespace Go.Eng
open Go.Proofs Go.RowKit
noncomputable def ZXf:FuncId×Con:=(204,⟨[.leaf 3,.leaf 3],[.leaf 3],fun p=>ZWa p.1 p.2⟩)
theorem Zrh:KQ ZXf:=Zh (ZA (C:=cf0 [ZCk,Z1i,Znh,Zqr] [] [] []) .no Tryz.func204 [] (fun v vals x z ha hz=>.trans (by kernel_rfl) (Z5z hz)) ⟨Zym,Z0j,ZDi,ZPx,tr⟩)
end Go.Eng
set_option maxRecDepth 100000
set_option maxHeartbeats 4000000
namespace Go.Eng
open Go.Proofs Go.RowKit
noncomputable def ZUo:FuncId×Con:=(71,⟨[.slice (.slice (.leaf 3))],[.slice (.slice (.leaf 3)),.slice (.int .i64),.leaf 3],fun p=>Zop p⟩)
theorem ZIp : KQ ZUo := Zh (Zt (C := cf0 [Zlj, Zfd, Zzd, ZCh, Zdf, ZXf] [8] [Zig] [((39, "Div"), 18), ((39, "Mul"), 204), ((39, "Neg"), 19), ((39, "Sub"), 69), ((39, "Zero"), 62)]) (.n (.n (.n (.n (.f (.n (.f (.l [0, 4, 6, 19] [] [.s 5 (.own 3 (.int .i64)), .s 20 (.dat (.int .i64)), .l (.sl 0) (.mat 30 39 (.leaf 3)), .l (.sl 6) (.box 39 (.dat (.leaf 3)))] 0 [0, 4, 6] [] [.s 5 (.own 3 (.int .i64)), .l (.sl 0) (.mat 30 39 (.leaf 3)), .l (.sl 6) (.box 39 (.dat (.leaf 3)))] (.f (.n (.n (.f (.j [0, 4, 6, 19, 20] [] [.s 5 (.own 3 (.int .i64)), .l (.sl 0) (.mat 30 39 (.leaf 3)), .l (.sl 6) (.box 39 (.dat (.leaf 3)))] (.f (.n (.n (.n (.two (.f (.l [0, 4, 5, 6, 7, 8, 19, 20] [] [.s 9 (.dat (.int .i64))] 2 [0, 4, 5, 6, 7, 8, 19, 20] [] [.s 9 (.dat (.int .i64))] (.f (.f (.f (.j [0, 4, 5, 6, 7, 8, 9, 19, 20] [] [.s 40 (.dat .bool)] .no)))))) (.n (.two (.n (.j [0, 4, 5, 6, 7, 8, 19, 20] [] [.l (.sl 0) (.mat 30 39 (.leaf 3)), .l (.sl 6) (.box 39 (.dat (.leaf 3)))] .no)) (.n (.n (.two (.n (.f (.l [0, 4, 5, 6, 7, 8, 10, 19, 20, 83] [] [.s 84 (.dat (.int .i64)), .l (.sl 0) (.mat 30 39 (.leaf 3))] 4 [0, 4, 5, 6, 7, 8, 19, 20] [] [.l (.sl 0) (.mat 30 39 (.leaf 3))] .no))) (.f (.n (.f (.l [0, 4, 5, 6, 7, 8, 19, 20, 108] [] [.s 109 (.dat (.int .i64)), .l (.sl 0) (.mat 30 39 (.leaf 3))] 6 [0, 4, 5, 6, 7, 19, 20] [] [.l (.sl 0) (.mat 30 39 (.leaf 3))] (.f (.n (.n (.f (.j [0, 4, 5, 6, 7, 8, 19, 20, 108, 109] [] [.l (.sl 0) (.mat 30 39 (.leaf 3))] (.f (.n (.n (.two (.f (.j [0, 4, 5, 6, 7, 8, 12, 13, 19, 20, 108, 109] [] [.s 126 (.dat .bool)] .no)) (.n (.f (.l [0, 4, 5, 6, 7, 8, 12, 13, 19, 20, 108, 109, 131] [] [.s 132 (.dat (.int .i64)), .l (.sl 0) (.mat 30 39 (.leaf 3))] 8 [0, 4, 5, 6, 7, 8, 19, 20, 108, 109] [] [.l (.sl 0) (.mat 30 39 (.leaf 3))] .no))))))))))))))))))))))))))))))))))))))) Tryz.func71 [(34, Tryz.f34, .r [] [] [.s 1000 (.dat (.int .i64))] .no), (116, Tryz.f116, .n (.n (.f (.n (.f (.l [3, 9, 10] [] [.s 11 (.dat (.int .i64)), .l (.sl 3) (.mat 30 39 (.leaf 3))] 0 [3] [] [.l (.sl 3) (.mat 30 39 (.leaf 3))] .no))))))] (fun _ => by kernel_rfl) ⟨Zsk, Z1d, ZSd, Ztj, ZYf, Zrh, tr⟩ ⟨ZEj, tr⟩ ⟨ZVn, ZPg, Zcf, ZGh, ZDl, tr⟩ ⟨⟨Tryz.func34, fun _ _ => by kernel_rfl⟩, ⟨Tryz.func116, fun _ _ => by kernel_rfl⟩, tr⟩)
end Go.Eng
set_option maxRecDepth 100000
set_option maxHeartbeats 4000000
namespace Go.Eng
open Go.Proofs Go.RowKit
noncomputable def ZXr:FuncId×Con:=(22,⟨[.slice (.slice (.leaf 3))],[.slice (.slice (.leaf 3)),.slice (.int .i64),.int .i64],fun p=>Zwv p⟩)
theorem Z5w:KQ ZXr:=Zh (Zt (C:=cf0 [Zyj,ZUo] [] [] []) .no Tryz.func22 [] (fun _=>by kernel_rfl) ⟨ZLl,ZIp,tr⟩)
end Go.Eng
set_option maxRecDepth 100000
set_option maxHeartbeats 4000000
namespace Go.Eng
open Go.Proofs Go.RowKit
noncomputable def ZKp:FuncId×Con:=(117,⟨[.slice (.int .i64),.int .i64],[.int .i64],fun p=>Zqu p.1 p.2⟩)
theorem Zaz:KQ ZKp:=Zh (Zt (C:=cf0 [] [] [] []) (.n (.f (.n (.cut ⟨⟨[],[],[]⟩,[(.norm,⟨[],[],[]⟩),(.ret,⟨[],[],[.s 1000 (.dat (.int .i64))]⟩)]⟩ (.f (.cut ⟨⟨[0,1,7],[],[.s 8 (.dat (.int .i64))]⟩,[(.ret,⟨[],[],[.s 1000 (.dat (.int .i64))]⟩),(.exit 0,⟨[],[],[]⟩)]⟩ .no)))))) Tryz.func117 [] (fun _=>by kernel_rfl))
end Go.Eng
set_option maxRecDepth 100000
set_option maxHeartbeats 4000000
namespace Go.Eng
open Go.Proofs Go.RowKit
noncomputable def Zrq:FuncId×Con:=(72,⟨[.slice (.int .i64),.int .i64],[.bool],fun p=>ZHr p.1 p.2⟩)
theorem Zkx:KQ Zrq:=Zh (Zt (C:=cf0 [ZKp] [] [] []) .no Tryz.func72 [] (fun _=>by kernel_rfl) ⟨Zaz,tr⟩)
noncomputable def ZBl (x:Int) (y:Int):Option (Int×Int) :=
 bnd (ZBc x y) fun a =>
 some ((a.1,a.2))
end Go.Eng
namespace Go.Eng
open Go.Proofs Go.RowKit
theorem bmul_w {c:World} {a:Zb} (hv:VIn a c) {d:List Value} {x:Int} (i:Rep.rel (Zf .u64) a d x) {e:List Value} {y:Int} (j:Rep.rel (Zf .u64) a e y) {z:Int×Int} (H:ZBl x y=some z):Ret Tryz.prog 128 #[(Zf .u64).val d,(Zf .u64).val e] c a (fun y v'=>∃ g b,y = .tuple #[(Zf .u64).val g,(Zf .u64).val b]∧(Zf .u64).rel v' g z.1∧(Zf .u64).rel v' b z.2):=by
 obtain ⟨rfl,b⟩:=i;obtain ⟨rfl,k⟩:=j;refine Zvi (K:=30) (args:=[.int .u64 x,.int .u64 y]) hv Tryz.func128 rfl rfl zl fun f S=>?_;unfold ZBl at H;refine sr (mw S rfl fun f S=>mw S rfl fun f S=>oe (ZB fun _ l=>ZUa S rfl rfl (wp_skip (Zr (l _ _ (ZB fun _ m=>bO H fun h n H=>ZY (mv S rfl fun f S=>mv S rfl fun f S=>opc S rfl (ZBa S [.int .u64 x,.int .u64 y] Zxp rfl rfl) (Zpp S.vin (show Rep.rel (Zf .u64) _ [.int .u64 x] x from (Zfa b)) (show Rep.rel (Zf .u64) _ [.int .u64 y] y from (Zfa k)) n) ?_)))))));rintro _ s f w t ⟨u,v,rfl,o,p⟩ S;obtain ⟨rfl,q⟩:=o;obtain ⟨rfl,r⟩:=p;refine mv S rfl fun f S=>ov S rfl (ZFa S rfl rfl) fun f S=>ov S rfl (ZFa S rfl rfl) fun f S=>mw S rfl fun f S=>mw S rfl fun f S=>ZP (Zr (m _ _ (sr (mv S rfl fun f S=>mv S rfl fun f S=>mw S rfl fun f S=>mw S rfl fun f S=>oe (wp_ret ?_)))));obtain rfl:=ZM H;refine ZBg S (ZYj rfl (Zab S rfl) (Zab S rfl)) ⟨[.int .u64 (h.1)],[.int .u64 (h.2)],rfl,(Zfa q),(Zfa r)⟩
set_option maxRecDepth 100000
theorem ZXo:Elem Tryz.prog 30 39 (Z9).n 56 (Value.agg #[Value.bool false,Value.slice none 0 0,Value.slice none 0 0]):=⟨Tryz.underlying30,by kernel_rfl,rfl,by decide⟩
theorem ZOl:ZRb Tryz.prog 30 39 (Z9).n:=⟨fun _=>by kernel_rfl,fun _=>by kernel_rfl⟩
theorem ZEy:Tryz.prog.follows .mixedOrders=true:=by kernel_rfl
theorem ZCy:ZO Tryz.prog 128:=fun _ _=>by kernel_rfl
theorem ZXt:ConvI Tryz.prog 3 189 .i64 .u64:=fun _ _=>by kernel_rfl
theorem ZQz:ConvI Tryz.prog 189 3 .u64 .i64:=fun _ _=>by kernel_rfl
noncomputable def ZVf:FuncId×ConO:=(85,⟨[.slice (.leaf 3),.int .i64],39,.leaf 3,fun p=>ZNc 56 p.1 p.2⟩)
theorem ZNi:Zif Tryz.prog ZVf.1 ZVf.2:=fun w v vals x z hv ha hz=>by
 obtain ⟨cs,vs,rfl,p0,c1,rfl,rfl,hin⟩:=ha
 obtain ⟨x1,k0⟩:=x
 have hz:ZNc 56 (show List Rat from x1) k0=some z:=hz
 obtain ⟨y,hx1,hzr,hmk⟩:=ZPy hz
 have hx1:x1=[y]:=hx1
 subst hx1 hzr
 obtain ⟨h0,_,hb1,hb2⟩:=ZBd hmk
 obtain ⟨k,rfl⟩:=Int.eq_ofNat_of_zero_le h0
 obtain ⟨q,c,e,hc1,hc2,hne⟩:=(show (Zu Z9).rel v cs [y] from p0)
 subst e
 rcases hne with hne | ⟨b,off,cc,TT,fr,rfl,hvb,hrel⟩
 ·cases hne
 have hlen1:([y]:List Rat).length=1:=rfl
 rw [hlen1] at hrel
 obtain ⟨c1,c2,e12,hrc,e2⟩:=hrel
 have e2:c2=[]:=e2
 subst e2
 rw [List.append_nil,Nat.one_mul] at e12
 have hl1:=Rep.len _ hrc
 have hAt:At v b off c1:=⟨cc,TT,fr,hvb,by rw [hl1];exact e12⟩
 refine ⟨fun _ _=>by kernel_rfl,?_⟩
 have hk:((k:Int).toNat)=k:=Int.toNat_natCast k
 rw [hk]
 refine Z8j (K:=48) (args:=[.slice (some ⟨b,off,none⟩) 1 c,.int .i64 (k:Int)]) hv Tryz.func85 rfl rfl zl fun fa hS=>?_
 refine sr ?_
 refine mw hS rfl fun fa hS=>?_
 refine oe ?_
 refine wp_seq_k fun N1 hN1=>?_
 refine sr ?_
 refine mv hS rfl fun fa hS=>?_
 refine ov hS rfl (ZE hS rfl rfl Zie) fun fa hS=>?_
 refine oe ?_
 refine ZUa hS rfl (decide_eq_false (by omega)) ?_
 refine wp_skip ?_
 refine Zr (hN1 _ _ ?_)
 refine sr ?_
 refine mv hS rfl fun fa hS=>?_
 refine ov hS rfl (ZSb hS rfl rfl ZOl) fun fa hS=>?_
 refine ov hS rfl (Z9f hS rfl (ZXt _)) fun fa hS=>?_
 refine mv hS rfl fun fa hS=>?_
 refine ov hS rfl (Z9f hS rfl (ZXt _)) fun fa hS=>?_
 have w1:IntKind.u64.wrap ((1:Nat):Int)=1:=by decide
 have w2:IntKind.u64.wrap (k:Int)=k:=Zjd (ZPc.2 (by omega))
 rw [w1,w2] at hS
 have hmul:ZBl 1 (k:Int)=some (0,(k:Int)):=by
  unfold ZBl ZBc;rw [if_pos (by omega),Za];simp only;congr 2 <;> omega
 refine ZTt hS wn rfl zl (ZBa hS [.int .u64 1,.int .u64 (k:Int)] ZCy rfl rfl) (bmul_w hS.vin (show Rep.rel (Zf .u64) _ [.int .u64 1] 1 from Zfa (by decide)) (show Rep.rel (Zf .u64) _ [.int .u64 (k:Int)] (k:Int) from Zfa (ZPc.2 (by omega))) hmul) ?_;rintro _ v1 fa wo hle ⟨r0,r1,rfl,⟨rfl,_⟩,⟨rfl,_⟩⟩ hS;refine mv hS rfl fun fa hS=>?_;refine ov hS rfl (ZFa hS rfl rfl) fun fa hS=>?_;refine ov hS rfl (ZFa hS rfl rfl) fun fa hS=>?_;refine mw hS rfl fun fa hS=>?_;refine mw hS rfl fun fa hS=>?_;refine oe ?_;refine wp_seq_k fun N2 hN2=>?_;refine sr ?_;refine mv hS rfl fun fa hS=>?_;refine ov hS rfl (ZE hS rfl rfl ZFg) fun fa hS=>?_;have g1:decide ((0:Int)<0)=false:=rfl;have hS:St _ _ _ ((22,Value.bool false) :: _) _ _ _ _:=hS;refine mv hS rfl fun fa hS=>?_;refine op_v hS (Z2f hS rfl rfl rfl zl) rfl zl (ZL hS rfl) fun fa hS=>?_;refine op_v hS (Z2f hS rfl rfl rfl zl) rfl zl (ZE hS rfl rfl ZFg) fun fa hS=>?_;refine ov hS rfl (Zvf (b:=false) hS rfl rfl) fun fa hS=>?_;refine oe ?_;refine ZUa hS rfl (decide_eq_false (by omega)) ?_;refine wp_skip ?_;refine Zr (hN2 _ _ ?_);refine sr ?_;refine mv hS rfl fun fa hS=>?_;refine ov hS rfl (Z9f hS rfl (ZQz _)) fun fa hS=>?_;have w3:IntKind.i64.wrap (k:Int)=k:=Zjd (Z3a.2 (by omega));rw [w3] at hS;obtain ⟨b2,wo,hrun,hS'⟩:=Znp ZXo hS (l:=(k:Int)) (c:=(k:Int)) h0 (Int.le_refl _) hb1 hb2
 refine ZMc wn rfl zl (hrun rfl rfl) hS' fun fa hS=>?_;refine mw hS rfl fun fa hS=>?_;refine oe ?_;rw [hk] at hS;have hS:=hS.fr' (σ':=[(7,.slice (mkA (some b2)) k k),(0,.slice (some ⟨b,off,none⟩) 1 c)]) rfl;have src1:∀ {σ:List (Nat×Value)} {ℓ:List Loc} {v':Zb} {a:Act} {w':World},St 48 w v σ ℓ v' a w'→∀ j u,c1[j]? = some u→w'.cell? ((⟨b,off,none⟩:Addr).add j)=some u:=fun hS j u hu=>by
  have:=(hS.view (At.mono hS.vst.le hAt)).cell hu
  rwa [Zua]
 have hpl1:c1.all plain=true:=Rep.flat _ hrc;obtain ⟨zc,hzc⟩:∃ zc:List Value,zc=(Value.agg #[Value.bool false,Value.slice none 0 0,Value.slice none 0 0]:Value).cells.toList:=⟨_,rfl⟩;have hzl:zc.length=(Z9).n:=by rw [hzc];rfl
 rw [← hzc] at hS
 let Inv:Nat→Act→World→Prop:=fun j a w'=>∃ v',j≤k∧(0<k→0<j)∧St 48 w v [(8,.int .i64 (j:Int)),(7,.slice (mkA (some b2)) k k)] [.own (some b2) 39 (Z9).n k k ((List.replicate j c1).flatten++(List.replicate (k-j) zc).flatten)] v' a w'
 have rl:=fun n=>Zdl hl1 n;have rpl:∀ n:Nat,((List.replicate n c1).flatten).all plain=true:=fun n=>Zjx hpl1 n;have step:=fun j m (hjm:j+m≤k)=>rp_step (k:=k) hl1 hzl hjm;refine sr ?_;refine mv hS rfl fun fa hS=>?_;refine mv hS rfl fun fa hS=>?_;have hS1:St 48 w v _ [.own (some b2) 39 (Z9).n k k ((List.replicate 0 c1).flatten++(List.replicate (k-0) zc).flatten)] v1 fa wo:=hS;obtain ⟨wo2,hr,hS'⟩:=Zcv (t:=30) (sT:=30) ZXo hS1 (i:=0) rfl (p:=0) (k:=min 1 k) (c:=(List.replicate (min 1 k) c1).flatten) (rl _) (by omega) (rpl _) (ad:=⟨b,off,none⟩) (sLen:=1) (sCap:=c) (dLen:=k) (dCap:=k) (fun j u hu=>by
  rcases Nat.lt_or_ge 0 k with hk0 | hk0
  ·rw [show min 1 k=1 by omega] at hu;simp only [List.replicate_one,List.flatten_cons,List.flatten_nil,List.append_nil] at hu;exact src1 hS1 j u hu
  ·rw [show min 1 k=0 by omega] at hu;simp at hu) rfl
 have hst:=step 0 (min 1 k) (by omega);simp only [List.set_cons_zero] at hS';rw [hst] at hS';simp only [Nat.zero_add] at hS';rw [Nat.zero_mul] at hr;refine ZMc wn rfl zl (Z3u hS1 rfl rfl (hr _)) hS' fun fa hS=>?_;refine mw hS rfl fun fa hS=>?_;refine oe ?_;have hS:=hS.fr' (σ':=[(8,.int .i64 ((min 1 k:Nat):Int)),(7,.slice (mkA (some b2)) k k)]) rfl;refine wp_seq_k fun N3 hN3=>?_;refine wp_block ?_;refine wp_loop_fuel (fun m a w'=>∃ j,k-j<m∧Inv j a w') (k+1) ⟨min 1 k,by omega,v1,by omega,by omega,hS⟩ (fun a w' ⟨j,h,_⟩=>by omega) ?_;rintro m fa wo3 ⟨j,hjm,v3,hjk,hj0,hS⟩ N hN;refine wp_seq_k fun N4 hN4=>?_;refine sr ?_;refine mv hS rfl fun fa hS=>?_;refine mv hS rfl fun fa hS=>?_;refine ov hS rfl (ZSb hS rfl rfl ZOl) fun fa hS=>?_;refine ov hS rfl (ZE hS rfl rfl Zie) fun fa hS=>?_;refine oe ?_;by_cases hlt:j<k
 ·refine ZEb hS rfl (decide_eq_true (by omega)) ?_;refine wp_skip ?_;refine Zr (hN4 _ _ ?_);refine wp_block ?_;have hS:=hS.fr' (σ':=[(8,.int .i64 (j:Int)),(7,.slice (mkA (some b2)) k k)]) rfl;refine Z0g (fl:=#[true,true,true,true,true,true,true,false,false,false]) ZEy (by kernel_rfl) hS ?_;intro ops hops hF wo hS;refine rf hops hF 0 rfl (by kernel_rfl) rfl hS (ZL hS rfl) fun fa hS=>?_;refine rf hops hF 1 rfl (by kernel_rfl) rfl hS (ZL hS rfl) fun fa hS=>?_;refine rf hops hF 2 rfl (by kernel_rfl) rfl hS (ZL hS rfl) fun fa hS=>?_;refine rf hops hF 3 rfl (by kernel_rfl) rfl hS (Zqw hS ZOl rfl rfl (by omega) (by omega)) fun fa hS=>?_;refine rf hops hF 4 rfl (by kernel_rfl) rfl hS (ZL hS rfl) fun fa hS=>?_;refine rf hops hF 5 rfl (by kernel_rfl) rfl hS (ZL hS rfl) fun fa hS=>?_;refine rf hops hF 6 rfl (by kernel_rfl) rfl hS (Zuo hS ZOl rfl rfl (by omega) (by omega)) fun fa hS=>?_;rw [Nat.zero_add] at hS;obtain ⟨wo',hr,hS'⟩:=Zcv (t:=30) (sT:=30) ZXo hS (i:=0) rfl (p:=j) (k:=min j (k-j)) (c:=(List.replicate (min j (k-j)) c1).flatten) (rl _) (by omega) (rpl _) (ad:=⟨b2,0,none⟩) (sLen:=j) (sCap:=k) (dLen:=k-j) (dCap:=k-j) (fun i u hu=>by
   have hi:=(List.getElem?_eq_some_iff.1 hu).1;refine Z3g hS (j:=0) rfl i u ?_;rw [Zeu (c:=c1) (m:=min j (k-j)) (n:=j) (by omega),List.append_assoc,List.getElem?_append_left hi];exact hu) rfl
  have hst:=step j (min j (k-j)) (by omega);simp only [List.set_cons_zero] at hS';rw [hst] at hS';refine ZGf hops hF 7 (by kernel_rfl) ?_;refine ZHm [3,6,1,2,4,5] [0] hops rfl (by kernel_rfl) wn rfl zl (Z3u hS rfl rfl (hr _)) hS' fun fa hS=>?_;refine ⟨(py hS rfl rfl (ZL hS rfl) Zvc),?_⟩;refine ZGf hops hF 8 (by kernel_rfl) ?_;have hadd:chk .i64 ((j:Int)+((min j (k-j):Nat):Int))=some ((j+min j (k-j):Nat):Int):=by rw [Zk (by omega) (by omega)];rfl
  refine nv [0,7,3,6,1,2,4,5] [] hops rfl (by kernel_rfl) rfl hS (ZE hS rfl rfl (Ztg hadd)) fun fa hS=>?_;refine ⟨Zvc,?_⟩;refine ZGf hops hF 9 (by kernel_rfl) ?_;refine nv [0,1,2,3,4,5,6,7,8] [] hops rfl (by kernel_rfl) rfl hS (Z5d hS rfl) fun fa hS=>?_;refine ⟨Zvc,?_⟩;refine Z3j hops hF (by kernel_rfl) ?_;refine Zge ?_;have hj0:=hj0 (by omega);exact Zr (hN _ _ ⟨j+min j (k-j),by omega,v3,by omega,fun _=>by omega,hS.fr' rfl⟩)
 refine ZUa hS rfl (decide_eq_false (by omega)) ?_;refine wp_exit ?_;refine Zbb ?_;refine Zbb ?_;refine Z6d ?_;refine Zr (hN3 _ _ ?_);have hjk:j=k:=by omega
 subst hjk;rw [Nat.sub_self,List.replicate_zero,List.flatten_nil,List.append_nil] at hS;refine sr ?_;refine mv hS rfl fun fa hS=>?_;refine mw hS rfl fun fa hS=>?_;refine oe ?_;refine wp_ret ?_;exact Zjo hS (i:=0) rfl (Zvd rfl (Zab hS rfl)) (ZUh (Rep.mono _ hS.vst.le hrc) _) (List.length_replicate (n:=j) (a:=y)).symm
end Go.Eng
set_option maxRecDepth 100000
set_option maxHeartbeats 4000000
namespace Go.Eng
open Go.Proofs Go.RowKit
noncomputable def Z1p:FuncId×Con:=(23,⟨[.slice (.slice (.leaf 3))],[.slice (.slice (.leaf 3)),.int .i64],fun p=>ZCt p⟩)
theorem Zey : KQ Z1p := Zh (Zt (C := cf0 [Zfd, Zsf, Zzd, Zyj, ZUo, Zrq] [] [ZVf] [((39, "Neg"), 19)]) (.n (.n (.n (.n (.f (.n (.f (.l [0, 4, 5, 22] [] [.s 7 (.own 30 (.slice (.leaf 3))), .s 23 (.dat (.int .i64))] 0 [] [] [.s 7 (.own 30 (.slice (.leaf 3)))] (.f (.n (.n (.f (.j [0, 4, 5, 22, 23] [] [.s 7 (.own 30 (.slice (.leaf 3)))] (.f (.n (.n (.n (.n (.f (.n (.f (.l [0, 4, 5, 7, 8, 9, 22, 23, 36, 37] [] [.s 38 (.dat (.int .i64)), .l (.sl 9) (.own 39 (.leaf 3))] 2 [0, 4, 5, 7, 9, 22, 23] [] [.l (.sl 9) (.own 39 (.leaf 3))] .no)))))))))))))))))))))) Tryz.func23 [(37, Tryz.f37, .no)] (fun _ => by kernel_rfl) ⟨Z1d, ZWf, ZSd, ZLl, ZIp, Zkx, tr⟩ ⟨ZNi, tr⟩ ⟨Zcf, tr⟩ ⟨⟨Tryz.func37, fun _ _ => by kernel_rfl⟩, tr⟩)
end Go.Eng
set_option maxRecDepth 100000
set_option maxHeartbeats 4000000
namespace Go.Eng
open Go.Proofs Go.RowKit
noncomputable def ZSk:FuncId×Con:=(11,⟨[.slice (.pair (.int .i64) (.int .i64))],[.slice (.pair (.leaf 4) (.pair (.leaf 4) (.pair (.leaf 4) (.leaf 4))))],fun p=>Zae p⟩)
theorem Zto:KQ ZSk:=Zh (Zt (C:=cf0 [rof_q,Zdg] [] [] []) (.n (.n (.f (.n (.f (.l [6,7] [] [.s 3 (.own 56 (.pair (.leaf 4) (.pair (.leaf 4) (.pair (.leaf 4) (.leaf 4))))),.s 8 (.dat (.int .i64))] 0 [] [] [.s 3 (.own 56 (.pair (.leaf 4) (.pair (.leaf 4) (.pair (.leaf 4) (.leaf 4)))))] .no)))))) Tryz.func11 [] (fun _=>by kernel_rfl) ⟨rof_k,ZWh,tr⟩)
end Go.Eng
set_option maxRecDepth 100000
set_option maxHeartbeats 4000000
namespace Go.Eng
open Go.Proofs Go.RowKit
noncomputable def Zdn:FuncId×Con:=(10,⟨[.slice (.slice (.pair (.int .i64) (.int .i64)))],[.slice (.slice (.pair (.leaf 4) (.pair (.leaf 4) (.pair (.leaf 4) (.leaf 4)))))],fun p=>Zjh p⟩)
theorem Ziq:KQ Zdn:=Zh (Zt (C:=cf0 [ZSk] [] [] []) (.n (.n (.f (.n (.f (.l [0,3,9] [] [.s 10 (.dat (.int .i64)),.l (.sl 3) (.own 48 (.slice (.pair (.leaf 4) (.pair (.leaf 4) (.pair (.leaf 4) (.leaf 4))))))] 0 [3] [] [.l (.sl 3) (.own 48 (.slice (.pair (.leaf 4) (.pair (.leaf 4) (.pair (.leaf 4) (.leaf 4))))))] .no)))))) Tryz.func10 [] (fun _=>by kernel_rfl) ⟨Zto,tr⟩)
end Go.Eng
set_option maxRecDepth 100000
set_option maxHeartbeats 4000000
namespace Go.Eng
open Go.Proofs Go.RowKit
noncomputable def ZNr:FuncId×Con:=(24,⟨[.slice (.slice (.pair (.int .i64) (.int .i64))),.slice (.pair (.int .i64) (.int .i64)),.slice (.pair (.int .i64) (.int .i64))],[.pair (.slice (.slice (.leaf 3))) (.pair (.slice (.leaf 3)) (.slice (.leaf 3))),.pair (.slice (.slice (.pair (.leaf 4) (.pair (.leaf 4) (.pair (.leaf 4) (.leaf 4)))))) (.pair (.slice (.pair (.leaf 4) (.pair (.leaf 4) (.pair (.leaf 4) (.leaf 4))))) (.slice (.pair (.leaf 4) (.pair (.leaf 4) (.pair (.leaf 4) (.leaf 4))))))],fun p=>ZWv p.1 p.2.1 p.2.2⟩)
theorem Z2B:KQ ZNr:=Zh (Zt (C:=cf0 [Z2j,Z3l,Zdn,ZSk] [] [] []) .no Tryz.func24 [] (fun _=>by kernel_rfl) ⟨Z3o,ZDp,Ziq,Zto,tr⟩)
end Go.Eng
set_option maxRecDepth 100000
set_option maxHeartbeats 4000000
namespace Go.Eng
open Go.Proofs Go.RowKit
noncomputable def Z3f:FuncId×ConO:=(37,⟨[.int .i64],39,.leaf 3,fun p=>ZJe p⟩)
theorem ZJh:KO Z3f:=Zst (C:=cf0 [Zzd] [] [ZVf] []) .no Tryz.func37 [] (fun _=>by kernel_rfl) ⟨ZSd,tr⟩ ⟨ZNi,tr⟩
end Go.Eng
set_option maxRecDepth 100000
set_option maxHeartbeats 4000000
namespace Go.Eng
open Go.Proofs Go.RowKit
noncomputable def Zar:FuncId×Con:=(89,⟨[.ptr (.pair (.slice (.slice (.leaf 3))) (.pair (.slice (.leaf 3)) (.pair (.slice (.leaf 3)) (.pair (.leaf 3) (.pair (.slice (.int .i64)) (.slice (.int .i64))))))),.int .i64],[.slice (.leaf 3)],fun p=>ZHi p.1 p.2⟩)
theorem ZDA:KQ Zar:=Zh (Zt (C:=cf0 [] [] [Z3f] []) (.n (.n (.f (.n (.f (.l [0,1,5,13,14] [] [.s 15 (.dat (.int .i64)),.l (.sl 5) (.own 39 (.leaf 3))] 0 [5] [] [.l (.sl 5) (.own 39 (.leaf 3))] (.f (.n (.n (.f (.f (.n (.n (.j [0,1,5,13,14,15] [] [.l (.sl 5) (.own 39 (.leaf 3))] .no)))))))))))))) Tryz.func89 [] (fun _=>by kernel_rfl) tr ⟨ZJh,tr⟩)
end Go.Eng
set_option maxRecDepth 100000
set_option maxHeartbeats 4000000
namespace Go.Eng
open Go.Proofs Go.RowKit
noncomputable def Zov:FuncId×Con:=(90,⟨[.ptr (.pair (.slice (.slice (.leaf 3))) (.pair (.slice (.leaf 3)) (.pair (.slice (.leaf 3)) (.pair (.leaf 3) (.pair (.slice (.int .i64)) (.slice (.int .i64))))))),.int .i64,.int .i64],[.slice (.leaf 3)],fun p=>ZJl p.1 p.2.1 p.2.2⟩)
theorem ZSB : KQ Zov := Zh (Zt (C := cf0 [Zfd] [] [Z3f] [((39, "Neg"), 19)]) (.n (.n (.f (.n (.f (.l [0, 1, 2, 7, 15, 16] [] [.s 17 (.dat (.int .i64)), .l (.sl 7) (.own 39 (.leaf 3))] 0 [7] [] [.l (.sl 7) (.own 39 (.leaf 3))] (.f (.n (.n (.f (.f (.n (.two (.j [0, 1, 2, 7, 8, 9, 15, 16, 17] [] [.s 31 (.dat .bool)] .no) (.j [0, 1, 2, 7, 15, 16, 17] [] [.l (.sl 7) (.own 39 (.leaf 3))] .no)))))))))))))) Tryz.func90 [] (fun _ => by kernel_rfl) ⟨Z1d, tr⟩ ⟨ZJh, tr⟩ ⟨Zcf, tr⟩)
end Go.Eng
set_option maxRecDepth 100000
set_option maxHeartbeats 4000000
namespace Go.Eng
open Go.Proofs Go.RowKit
noncomputable def Ztr:FuncId×ConM:=(116,⟨[.slice (.slice (.leaf 3))],30,39,.leaf 3,fun p=>ZGk p⟩)
theorem Zjz:KW Ztr:=conm_z (C:=cf0 [] [8] [Zig] []) (.n (.n (.f (.n (.f (.l [3,9,10] [] [.s 11 (.dat (.int .i64)),.l (.sl 3) (.mat 30 39 (.leaf 3))] 0 [3] [] [.l (.sl 3) (.mat 30 39 (.leaf 3))] .no)))))) Tryz.func116 [] (fun _=>by kernel_rfl) tr ⟨ZEj,tr⟩
end Go.Eng
set_option maxRecDepth 100000
set_option maxHeartbeats 4000000
namespace Go.Eng
open Go.Proofs Go.RowKit
noncomputable def ZOt:FuncId×Con:=(46,⟨[.leaf 2],[.int .i64],fun p=>Zbj p⟩)
theorem isign_k:KQ ZOt:=Zh (ZA (C:=cf0 [] [] [] []) .no Tryz.func46 [] (fun v vals x z ha hz=>.trans (by kernel_rfl) (ZVA hz)))
end Go.Eng
set_option maxRecDepth 100000
set_option maxHeartbeats 4000000
namespace Go.Eng
open Go.Proofs Go.RowKit
noncomputable def Zde:FuncId×Con:=(13,⟨[.leaf 3],[.int .i64],fun p=>Z8 p⟩)
theorem Zqe:KQ Zde:=Zh (ZA (C:=cf0 [ZOt] [] [] []) .no Tryz.func13 [] (fun v vals x z ha hz=>.trans (by kernel_rfl) (ZMA hz)) ⟨isign_k,tr⟩)
end Go.Eng
set_option maxRecDepth 100000
set_option maxHeartbeats 4000000
namespace Go.Eng
open Go.Proofs Go.RowKit
noncomputable def ZRg:FuncId×Con:=(20,⟨[.leaf 3,.leaf 3],[.int .i64],fun p=>ZKc p.1 p.2⟩)
theorem Zcj:KQ ZRg:=Zh (ZA (C:=cf0 [Zde,Zdf] [] [] []) .no Tryz.func20 [] (fun v vals x z ha hz=>.trans (by kernel_rfl) (ZgA hz)) ⟨Zqe,ZYf,tr⟩)
end Go.Eng
set_option maxRecDepth 100000
set_option maxHeartbeats 4000000
namespace Go.Eng
open Go.Proofs Go.RowKit
noncomputable def Zno:FuncId×ConB:=(129,⟨142,(.agg (.cons (.mat 30 39 (.leaf 3)) (.cons (.own 39 (.leaf 3)) (.cons (.own 39 (.leaf 3)) (.cons (.dat (.leaf 3)) (.cons (.own 3 (.int .i64)) (.one (.own 3 (.int .i64))))))))),[.int .i64,.int .i64],[],fun z x=>ZJf z x.1 x.2⟩)
theorem Z6u : KB Zno := Zgh (C := cf0 [Zlj, Zfd, Zzd, ZCh, Zdf, ZRf, ZXf] [] [] [((39, "Add"), 115), ((39, "Div"), 18), ((39, "Mul"), 204), ((39, "Neg"), 19), ((39, "Sub"), 69), ((39, "Zero"), 62)]) (.n (.n (.two (.n (.f (.l [0, 1, 2, 7, 37] [] [.s 38 (.dat (.int .i64)), .l (.sl 20) (.mat 30 39 (.leaf 3))] 0 [0, 1, 2, 7] [] [.l (.sl 20) (.mat 30 39 (.leaf 3))] .no))) (.n (.n (.f (.n (.f (.l [0, 1, 2, 94] [] [.s 95 (.dat (.int .i64)), .l (.sl 67) (.mat 30 39 (.leaf 3)), .l (.sl 77) (.own 39 (.leaf 3))] 2 [0, 1, 2] [] [.l (.sl 67) (.mat 30 39 (.leaf 3)), .l (.sl 77) (.own 39 (.leaf 3))] (.f (.n (.n (.f (.j [0, 1, 2, 94, 95] [] [.l (.fld (.sl 0) 0) (.mat 30 39 (.leaf 3)), .l (.fld (.sl 0) 1) (.own 39 (.leaf 3))] (.f (.n (.f (.f (.j [0, 1, 2, 10, 94, 95] [] [.s 114 (.dat .bool)] .no))))))))))))))))))) Tryz.func129 [(165, Tryz.f165, .sel 1 (.n (.f (.n (.f (.l [0, 1, 2, 3, 8, 15] [] [.s 16 (.dat (.int .i64)), .l (.fld (.sl 0) 0) (.agg (.mat 30 39 (.leaf 3)))] 0 [0, 1, 2, 3, 8] [] [.l (.fld (.sl 0) 0) (.agg (.mat 30 39 (.leaf 3)))] .no))))) (.n (.f (.n (.f (.l [0, 1, 2, 3, 8, 15] [] [.s 16 (.dat (.int .i64)), .l (.sl 1) (.own 39 (.leaf 3))] 0 [0, 1, 2, 3, 8] [] [.l (.sl 1) (.own 39 (.leaf 3))] .no))))))] (fun _ _ => by kernel_rfl) ⟨Zsk, Z1d, ZSd, Ztj, ZYf, Z6g, Zrh, tr⟩ tr ⟨ZMi, ZVn, ZPg, Zcf, ZGh, ZDl, tr⟩ ⟨⟨Tryz.func165, fun _ _ => by kernel_rfl⟩, tr⟩
end Go.Eng
set_option maxRecDepth 100000
set_option maxHeartbeats 4000000
namespace Go.Eng
open Go.Proofs Go.RowKit
noncomputable def Zit:FuncId×ConB:=(133,⟨142,(.agg (.cons (.mat 30 39 (.leaf 3)) (.cons (.own 39 (.leaf 3)) (.cons (.own 39 (.leaf 3)) (.cons (.dat (.leaf 3)) (.cons (.own 3 (.int .i64)) (.one (.own 3 (.int .i64))))))))),[],[.int .i64],fun z x=>Zmh z⟩)
theorem ZjB : KB Zit := Zgh (C := cf0 [Zde] [] [] [((39, "Sign"), 13)]) (.n (.n (.f (.n (.f (.l [0, 9, 10] [] [.s 3 (.dat (.int .i64)), .s 11 (.dat (.int .i64))] 0 [] [] [.s 3 (.dat (.int .i64))] (.f (.n (.n (.f (.f (.n (.two (.j [0, 3, 4, 9, 10, 11] [] [.s 40 (.dat .bool)] .no) (.j [0, 9, 10, 11] [] [.s 3 (.dat (.int .i64))] .no)))))))))))))) Tryz.func133 [] (fun _ _ => by kernel_rfl) ⟨Zqe, tr⟩ tr ⟨Zbg, tr⟩
end Go.Eng
set_option maxRecDepth 100000
set_option maxHeartbeats 4000000
namespace Go.Eng
open Go.Proofs Go.RowKit
noncomputable def Z3t:FuncId×ConB:=(134,⟨142,(.agg (.cons (.mat 30 39 (.leaf 3)) (.cons (.own 39 (.leaf 3)) (.cons (.own 39 (.leaf 3)) (.cons (.dat (.leaf 3)) (.cons (.own 3 (.int .i64)) (.one (.own 3 (.int .i64))))))))),[.int .i64,.int .i64],[.int .i64],fun z x=>Zwh z x.1 x.2⟩)
theorem Z0A : KB Z3t := Zgh (C := cf0 [Zde, Zlj, ZRg] [] [] [((39, "Cmp"), 20), ((39, "Div"), 18), ((39, "Sign"), 13)]) (.n (.n (.n (.f (.n (.f (.l [0, 1, 2, 8, 17] [] [.s 7 (.dat (.int .i64)), .s 18 (.dat (.int .i64)), .l (.sl 8) (.box 39 (.dat (.leaf 3)))] 0 [] [] [.s 7 (.dat (.int .i64))] (.f (.n (.n (.f (.j [0, 1, 2, 8, 17, 18] [] [.s 7 (.dat (.int .i64)), .l (.sl 8) (.box 39 (.dat (.leaf 3)))] (.f (.n (.n (.n (.n (.two (.n (.j [0, 1, 2, 7, 8, 9, 10, 17, 18] [] [.s 12 (.dat (.int .i64))] .no)) (.two (.j [0, 1, 2, 7, 8, 9, 10, 17, 18] [] [.s 110 (.dat .bool)] .no) (.j [0, 1, 2, 8, 17, 18] [] [.s 7 (.dat (.int .i64)), .l (.sl 8) (.box 39 (.dat (.leaf 3)))] .no)))))))))))))))))))) Tryz.func134 [] (fun _ _ => by kernel_rfl) ⟨Zqe, Zsk, Zcj, tr⟩ tr ⟨Zmk, ZVn, Zbg, tr⟩
end Go.Eng
set_option maxRecDepth 100000
set_option maxHeartbeats 4000000
namespace Go.Eng
open Go.Proofs Go.RowKit
noncomputable def Zqm:FuncId×ConB:=(88,⟨142,(.agg (.cons (.mat 30 39 (.leaf 3)) (.cons (.own 39 (.leaf 3)) (.cons (.own 39 (.leaf 3)) (.cons (.dat (.leaf 3)) (.cons (.own 3 (.int .i64)) (.one (.own 3 (.int .i64))))))))),[.int .i64],[.int .i64],fun z x=>Zyi z x⟩)
theorem Zfr:KB Zqm:=Zgh (C:=cf1 [] [] [] [] [] [Zno,Zit,Z3t] []) (.n (.f (.cut ⟨⟨[0,1],[.fld (.sl 0) 0,.fld (.sl 0) 1,.fld (.sl 0) 2,.fld (.sl 0) 6,.fld (.sl 0) 7],[.l (.sl 0) (.box 142 (.agg (.cons (.mat 30 39 (.leaf 3)) (.cons (.own 39 (.leaf 3)) (.cons (.own 39 (.leaf 3)) (.cons (.dat (.leaf 3)) (.cons (.own 3 (.int .i64)) (.one (.own 3 (.int .i64))))))))))]⟩,[(.ret,⟨[],[.fld (.sl 0) 0,.fld (.sl 0) 1,.fld (.sl 0) 2,.fld (.sl 0) 6,.fld (.sl 0) 7],[.s 1000 (.dat (.int .i64)),.l (.sl 0) (.box 142 (.agg (.cons (.mat 30 39 (.leaf 3)) (.cons (.own 39 (.leaf 3)) (.cons (.own 39 (.leaf 3)) (.cons (.dat (.leaf 3)) (.cons (.own 3 (.int .i64)) (.one (.own 3 (.int .i64))))))))))]⟩)]⟩ .no))) Tryz.func88 [] (fun _ _=>by kernel_rfl) tr tr tr tr tr ⟨Z6u,ZjB,Z0A,tr⟩
end Go.Eng
set_option maxRecDepth 100000
set_option maxHeartbeats 4000000
namespace Go.Eng
open Go.Proofs Go.RowKit
noncomputable def ZZt:FuncId×ConB:=(90,⟨142,(.agg (.cons (.mat 30 39 (.leaf 3)) (.cons (.own 39 (.leaf 3)) (.cons (.own 39 (.leaf 3)) (.cons (.dat (.leaf 3)) (.cons (.own 3 (.int .i64)) (.one (.own 3 (.int .i64))))))))),[.int .i64,.int .i64],[.slice (.leaf 3)],fun z x=>ZQk z x.1 x.2⟩)
theorem ZbA : KB ZZt := Zgh (C := cf0 [Zfd, Zzd] [] [ZVf] [((39, "Neg"), 19)]) (.n (.n (.f (.n (.f (.l [0, 1, 2, 7, 15, 16] [] [.s 17 (.dat (.int .i64)), .l (.sl 7) (.own 39 (.leaf 3))] 0 [7] [] [.l (.sl 7) (.own 39 (.leaf 3))] (.f (.n (.n (.f (.f (.n (.two (.j [0, 1, 2, 7, 8, 9, 15, 16, 17] [] [.s 31 (.dat .bool)] .no) (.j [0, 1, 2, 7, 15, 16, 17] [] [.l (.sl 7) (.own 39 (.leaf 3))] .no)))))))))))))) Tryz.func90 [(37, Tryz.f37, .no)] (fun _ _ => by kernel_rfl) ⟨Z1d, ZSd, tr⟩ ⟨ZNi, tr⟩ ⟨Zcf, tr⟩ ⟨⟨Tryz.func37, fun _ _ => by kernel_rfl⟩, tr⟩
end Go.Eng
namespace Go.Eng
open Go.RowKit
section
variable {P:Program} {K:Nat} {w0:Base} {v0:Zb} {σ:List (Nat×Value)} {ℓ:List Loc} {v:Zb} {a:Act} {w:World}
variable {d:Option Nat} {ty:TypeId} {pos:String} {aft:Array Edge} {g:Option (Nat×Bool)}
theorem Z7p (hS:St K w0 v0 σ ℓ v a w) {t e:TypeId} {sz b n cap p q m:Nat} {x lo hi mx:Operand} {k k2 k3:IntKind} (ht:ZRb P t e sz) (e1:ev σ x=some (.slice (some ⟨b,0,none⟩) n cap)) (e2:ev σ lo=some (.int k (p:Int))) (e3:ev σ hi=some (.int k2 (q:Int))) (e4:ev σ mx=some (.int k3 (m:Int))) (h1:p≤q) (h2:q≤m) (h3:m≤cap) :
  ∃ y,(execOp a.eval ⟨d,.slice t x (some lo) (some hi) (some mx),ty,pos,aft,g⟩).run P w = .ok (.value y) w:=by
 have h4:(0:Int)≤(p:Int)∧(p:Int)≤(q:Int):=by omega
 have h5:(0:Int)≤(q:Int)∧(q:Int)≤(m:Int):=by omega
 have h6:(0:Int)≤(m:Int)∧(m:Int)≤(cap:Int):=by omega
 exact ⟨.slice (if m=p then some ⟨b,0,none⟩ else some (Addr.add ⟨b,0,none⟩ (p*sz))) (q-p) (m-p),by simp [execOp,Instr.sliceAt,Instr.slice,Instr.sliceBounds,Instr.sliceBound,asIntOf,hS.eval e1,hS.eval e2,hS.eval e3,hS.eval e4,ht.1,ht.2,h1,h2,h3,h4,h5,h6]⟩
theorem Zpr (hS:St K w0 v0 σ ℓ v a w) {t e:TypeId} {sz b n cap p q:Nat} {x lo hi:Operand} {k k2:IntKind} (ht:ZRb P t e sz) (e1:ev σ x=some (.slice (some ⟨b,0,none⟩) n cap)) (e2:ev σ lo=some (.int k (p:Int))) (e3:ev σ hi=some (.int k2 (q:Int))) (h1:p≤q) (h2:q≤cap) (hc:p<cap) :
  (execOp a.eval ⟨d,.slice t x (some lo) (some hi) none,ty,pos,aft,g⟩).run P w = .ok (.value (.slice (some ⟨b,p*sz,none⟩) (q-p) (cap-p))) w:=by
 have h4:(0:Int)≤(p:Int)∧(p:Int)≤(q:Int):=by omega
 have h5:(0:Int)≤(q:Int)∧(q:Int)≤(cap:Int):=by omega
 have h6:¬ cap=p:=by omega
 simp [execOp,Instr.sliceAt,Instr.slice,Instr.sliceBounds,Instr.sliceBound,asIntOf,hS.eval e1,hS.eval e2,hS.eval e3,ht.1,ht.2,h1,h2,h4,h5,h6,Zua]
theorem ZLr {t e ty:TypeId} {sz bytes:Nat} {z:Value} (E:Elem P t e sz bytes z) (hS:St K w0 v0 σ ℓ v a w) {i n cap b:Nat} {cs:List Value} (hi:ℓ[i]? = some (.own (some b) e sz n cap cs))
  {q m c:Nat} {ad:Addr} {news:List Value} (hl:news.length=m*sz) (hnews:∀ j u,news[j]? = some u→w.cell? (ad.add j)=some u) (hp:news.all plain=true) (hq:q+m≤n) :
  ∃ w',(Builtin.append_ #[t,t] ty #[.slice (some ⟨b,0,none⟩) q cap,.slice (some ad) m c]).run P w = .ok (.slice (some ⟨b,0,none⟩) (q+m) cap) w' ∧
   St K w0 v0 σ (ℓ.set i (.own (some b) e sz n cap (cs.take (q*sz)++news++cs.drop (q*sz+news.length)))) v a w':=by
 obtain ⟨inf,hinf,hz,hs,hby⟩:=info_parts E.info;subst hs;obtain ⟨hcl,cur,hg,hnc,hcx,hcs,htake⟩:=(hS.loc _ (List.mem_of_getElem? hi)).1;have h1:q*inf.size+news.length≤n*inf.size:=by rw [hl,← Nat.add_mul];exact Nat.mul_le_mul_right _ hq
 have h2:n*inf.size≤cap*inf.size:=Nat.mul_le_mul_right _ hnc;have hcl2:cur.toList.length=cap*inf.size:=by simpa using hcs
 have hr:=run_append_room (P:=P) w t ty e inf E.ty hinf b q cap cur hg ad m c news hl hnews (Zjk hp) (by omega) (by omega);refine ⟨_,hr,hS.setRow hi rfl rfl ⟨?_,_,setRow_heap w b cur _ e _ hg,hnc,hcx,?_,?_⟩⟩
 ·simp;omega
 ·simp;omega
 ·show List.take (n*inf.size) (_++_++_)=_;rw [ZMk _ _ _ _ h1 (by omega),htake]
theorem Zgv {t e ty:TypeId} {sz bytes:Nat} {z:Value} (E:Elem P t e sz bytes z) (hS:St K w0 v0 σ ℓ v a w) {i n cap b:Nat} {cs:List Value} (hi:ℓ[i]? = some (.own (some b) e sz n cap cs)) {p c:Nat} (hp:p+1≤n) (hz1:∀ x ∈ (Builtin.zeroCells z.cells 1).toList,x.oneCell'=true) :
  ∃ w' zc,zc.length=sz∧(∀ ty,(Builtin.clear_ #[t] ty #[.slice (some ⟨b,p*sz,none⟩) 1 c]).run P w = .ok (.tuple #[]) w') ∧
   St K w0 v0 σ (ℓ.set i (.own (some b) e sz n cap (cs.take (p*sz)++zc++cs.drop (p*sz+zc.length)))) v a w':=by
 obtain ⟨inf,hinf,hz,hs,hby⟩:=info_parts E.info;obtain ⟨hcl,cur,hg,hnc,hcx,hcs,htake⟩:=(hS.loc _ (List.mem_of_getElem? hi)).1;have hzl:(Builtin.zeroCells z.cells 1).toList.length=sz:=by
  have:=size_zeroCells z.cells 1;rw [E.cells] at this
  simpa using this
 have h1:p*sz+sz≤n*sz:=by
  have:=Nat.mul_le_mul_right sz hp;rw [Nat.add_mul,Nat.one_mul] at this;exact this
 have h2:n*sz≤cap*sz:=Nat.mul_le_mul_right _ hnc;have hcl2:cur.toList.length=cap*sz:=by simpa using hcs
 have hst:=run_storeCells_at P b (p*sz) e (Builtin.zeroCells z.cells 1).toList 0 cur w hg (by rw [hzl];omega) hz1;have hzv:∀ w:World,(zeroValue e).run P w = .ok z w:=fun w=>by simp [zeroValue,typeInfo,hinf,hz]
 refine ⟨_,(Builtin.zeroCells z.cells 1).toList,hzl,fun ty=>?_,hS.setRow hi rfl rfl (c:=(cur.toList.take (p*sz)++(Builtin.zeroCells z.cells 1).toList++cur.toList.drop (p*sz+(Builtin.zeroCells z.cells 1).toList.length)).toArray) ⟨?_,_,setRow_heap w b cur _ e _ hg,hnc,hcx,?_,?_⟩⟩
 ·simp at hst;simp [Builtin.clear_,run_underlying E.ty,hzv,hst]
 ·simp at hzl ⊢;omega
 ·simp at hzl ⊢;omega
 ·show List.take (n*sz) (_++_++_)=_;rw [ZMk _ _ _ _ (by rw [hzl];exact h1) (by omega),htake]
theorem Zxs (hS:St K w0 v0 σ ℓ v a w) {t:TypeId} {x:Operand} {p r:Value} {w':World} (e:ev σ x=some p) (h:(Builtin.clear_ #[t] ty #[p]).run P w = .ok r w') :
  (execOp a.eval ⟨d,.call ⟨.builtin .clear,#[x],#[t]⟩,ty,pos,aft,g⟩).run P w = .ok (.value r) w':=by
 simp [execOp,resolve,invoke,builtin,hS.eval e,h]
theorem ZOq {ops:Array Oper} {Q:Exit→Act→World→Prop} {rest:List Oper} {o:Oper} {x:Value} {w':World} (hw:Region.wanted o (yielded ops a.tmps)=true) (hd:o.dst=none) (hrun:(execOp a.eval o).run P w = .ok (.value x) w') (h:wpList P ops Q rest a w'):wpList P ops Q (o :: rest) a w :=
 ZLc hw (Zwf hrun (by rw [hd];exact h))
theorem St.narrow (h:St K w0 v0 σ ℓ v a w) {i b n m cap sz:Nat} {T:TypeId} {cs:List Value} (hi:ℓ[i]? = some (.own (some b) T sz n cap cs)) (hm:m≤n):St K w0 v0 σ (ℓ.set i (.own (some b) T sz m cap (cs.take (m*sz)))) v a w:=by
 obtain ⟨hcl,cur,hg,hnc,hcx,hcs,htake⟩:=(h.loc _ (List.mem_of_getElem? hi)).1;have h1:m*sz≤n*sz:=Nat.mul_le_mul_right _ hm;refine h.setSame hi rfl ⟨?_,cur,hg,by omega,hcx,hcs,?_⟩
 ·rw [List.length_take];omega
 ·rw [← htake,List.take_take,Nat.min_eq_left h1]
end
theorem Zfv {cs zc:List Value} {sz i n:Nat} (hc:cs.length=n*sz) (hi:i<n) (hz:zc.length=sz) :
  (((cs.take (i*sz)++cs.drop ((i+1)*sz)++cs.drop (i*sz+(cs.drop ((i+1)*sz)).length)).take ((n-1)*sz)++zc++(cs.take (i*sz)++cs.drop ((i+1)*sz)++cs.drop (i*sz+(cs.drop ((i+1)*sz)).length)).drop ((n-1)*sz+zc.length)).take ((n-1)*sz))=cs.take (i*sz)++cs.drop ((i+1)*sz):=by
 have h1:i*sz≤n*sz:=Nat.mul_le_mul_right _ (by omega);have h2:(i+1)*sz≤n*sz:=Nat.mul_le_mul_right _ (by omega);have h3:(i+1)*sz=i*sz+sz:=by rw [Nat.add_mul,Nat.one_mul]
 have h4:(n-1)*sz=n*sz-sz:=by rw [Nat.sub_mul,Nat.one_mul]
 have hl:(cs.take (i*sz)++cs.drop ((i+1)*sz)).length=(n-1)*sz:=by
  rw [List.length_append,List.length_take,List.length_drop];omega
 rw [List.append_assoc (List.take _ _) zc,List.take_append_of_le_length (by rw [List.length_take,List.length_append,hl];omega),List.take_take,Nat.min_self,List.take_append_of_le_length (by rw [hl];omega),List.take_of_length_le (by rw [hl];omega)]
end Go.Eng
namespace Go.Eng
open Go.Proofs Go.RowKit
set_option maxRecDepth 100000
theorem Zjq:Elem Tryz.prog 70 3 ((Zf .i64)).n 8 (Value.int IntKind.i64 0):=⟨Tryz.underlying70,by kernel_rfl,rfl,by decide⟩
theorem Zjg:ZRb Tryz.prog 70 3 ((Zf .i64)).n:=⟨fun _=>by kernel_rfl,fun _=>by kernel_rfl⟩
theorem ZhA:Tryz.prog.follows .mixedOrders=true:=by kernel_rfl
noncomputable def Zgo:FuncId×ConD:=(131,⟨3,.int .i64,fun l i j=>Zqd l i j⟩)
theorem ZCA:ZIh Tryz.prog Zgo.1 Zgo.2:=fun w v ob n cap cs l i0 j0 z hv hh hnv hA hn hi hj hz=>by
 have hz:Zqd (show List Int from l) i0 j0=some z:=hz
 obtain ⟨i,rfl,rfl,hin,rfl⟩:=ZLq hz
 have hA:((Zf .i64)).rels v cs (show List Int from l):=hA
 have hin:i<n:=by rw [hn];exact hin
 have hcs:cs.length=n*((Zf .i64)).n:=by rw [hn];exact Zcd hA
 refine ⟨fun _ _=>by kernel_rfl,?_⟩
 refine ZMv (K:=33) (args:=[.slice (mkA ob) n cap,.int .i64 (i:Int),.int .i64 ((i+1:Nat):Int)]) hv hh hnv Tryz.func131 rfl rfl zl fun fa hS=>?_
 obtain ⟨b,rfl⟩:=Zyd hS (j:=0) rfl (by omega)
 obtain ⟨_,cur,hg,hnc,hcx,hcu,htk⟩:=(hS.loc _ (List.mem_of_getElem? (i:=0) rfl)).1
 unfold maxLen at hcx
 refine sr ?_
 refine mw hS rfl fun fa hS=>?_
 refine oe ?_
 refine sr ?_
 refine mv hS rfl fun fa hS=>?_
 refine mv hS rfl fun fa hS=>?_
 refine mv hS rfl fun fa hS=>?_
 refine mv hS rfl fun fa hS=>?_
 refine ov hS rfl (ZSb hS rfl rfl Zjg) fun fa hS=>?_
 have h3 := @Z7p _ _ _ _ _ _ _ _ _ (some 13) 70 "" #[] none hS 70 3 ((Zf .i64)).n b n cap i (i + 1) n (.tmp 8) (.tmp 9) (.tmp 10) (.tmp 12) .i64 .i64 .i64 Zjg rfl rfl rfl rfl (by omega) (by omega) hnc
 obtain ⟨y3,h3⟩:=h3
 refine ov hS rfl h3 fun fa hS=>?_
 refine oe ?_
 refine wp_seq_k fun N1 hN1=>?_
 refine sr ?_
 refine mv hS rfl fun fa hS=>?_
 refine mv hS rfl fun fa hS=>?_
 refine ov hS rfl (ZE hS rfl rfl ZEh) fun fa hS=>?_
 refine oe ?_
 refine ZUa hS rfl (by simp only [beq_eq_false_iff_ne,ne_eq];omega) ?_
 refine wp_skip ?_
 refine Zr (hN1 _ _ ?_)
 refine sr ?_
 refine mv hS rfl fun fa hS=>?_
 refine ov hS rfl (ZSb hS rfl rfl Zjg) fun fa hS=>?_
 refine mw hS rfl fun fa hS=>?_
 refine oe ?_
 refine wp_seq_k fun N2 hN2=>?_
 refine Z0g (fl:=#[true,true,true,true,true,true,false,false]) ZhA (by kernel_rfl) hS ?_
 intro ops hops hF wo hS
 refine rf hops hF 0 rfl (by kernel_rfl) rfl hS (ZL hS rfl) fun fa hS=>?_
 refine rf hops hF 1 rfl (by kernel_rfl) rfl hS (ZL hS rfl) fun fa hS=>?_
 refine rf hops hF 2 rfl (by kernel_rfl) rfl hS (Zuo hS Zjg rfl rfl (by omega) (by omega)) fun fa hS=>?_
 refine rf hops hF 3 rfl (by kernel_rfl) rfl hS (ZL hS rfl) fun fa hS=>?_
 refine rf hops hF 4 rfl (by kernel_rfl) rfl hS (ZL hS rfl) fun fa hS=>?_
 obtain ⟨ad,had,hsrc⟩:∃ ad:Addr,(if cap=i+1 then mkA (some b) else (mkA (some b)).map (·.add ((i+1)*((Zf .i64)).n)))=some ad∧∀ j u,(cs.drop ((i+1)*((Zf .i64)).n))[j]? = some u→wo.cell? (ad.add j)=some u:=by
  by_cases h:cap=i+1
  ·refine ⟨⟨b,0,none⟩,by rw [if_pos h];rfl,fun j u hu=>?_⟩;have:cs.drop ((i+1)*((Zf .i64)).n)=[]:=List.drop_eq_nil_of_le (by rw [hcs];exact Nat.mul_le_mul_right _ (by omega));rw [this] at hu;simp at hu
  ·refine ⟨(⟨b,0,none⟩:Addr).add ((i+1)*((Zf .i64)).n),by rw [if_neg h];rfl,fun j u hu=>?_⟩;have:=Z3g hS (j:=0) rfl ((i+1)*((Zf .i64)).n+j) u (by rw [List.getElem?_drop] at hu;exact hu);rw [show ((⟨b,0,none⟩:Addr).add ((i+1)*((Zf .i64)).n)).add j=(⟨b,0,none⟩:Addr).add ((i+1)*((Zf .i64)).n+j) by simp only [Zua,Nat.add_assoc]];exact this
 refine rf hops hF 5 rfl (by kernel_rfl) rfl hS (Zxq hS Zjg rfl rfl (by omega)) fun fa hS=>?_;rw [had] at hS;have hdl:(cs.drop ((i+1)*((Zf .i64)).n)).length=(n-(i+1))*((Zf .i64)).n:=by rw [List.length_drop,hcs,Nat.sub_mul]
 obtain ⟨wo',hr,hS'⟩:=ZLr (t:=70) (ty:=70) Zjq hS (i:=0) rfl (q:=i) (m:=n-(i+1)) (c:=cap-(i+1)) (ad:=ad) (news:=cs.drop ((i+1)*((Zf .i64)).n)) hdl hsrc (by rw [List.all_eq_true];intro y hy;exact List.all_eq_true.1 (ZXg hA) y (List.mem_of_mem_drop hy)) (by omega);rw [show i+(n-(i+1))=n-1 by omega] at hr;refine ZGf hops hF 6 (by kernel_rfl) ?_;refine ZHm [2,5,0,1,3,4] [] hops rfl (by kernel_rfl) wn rfl zl (ZOp hS rfl rfl hr) hS' fun fa hS=>?_;refine ⟨Zvc,?_⟩;refine ZGf hops hF 7 (by kernel_rfl) ?_;refine nv [0,1,2,3,4,5,6] [] hops rfl (by kernel_rfl) rfl hS (Z5d hS rfl) fun fa hS=>?_;refine ⟨Zvc,?_⟩;refine Z3j hops hF (by kernel_rfl) ?_;refine Zr (hN2 _ _ ?_);refine sr ?_;refine mv hS rfl fun fa hS=>?_;refine mv hS rfl fun fa hS=>?_;refine ov hS rfl (ZSb hS rfl rfl Zjg) fun fa hS=>?_;refine mv hS rfl fun fa hS=>?_;refine ov hS rfl (Zpr hS Zjg rfl rfl rfl (by omega) (by omega) (by omega)) fun fa hS=>?_;obtain ⟨wo2,zc,hzl,hr,hS'⟩:=Zgv (t:=70) (ty:=70) Zjq hS (i:=0) rfl (p:=n-1) (c:=cap-(n-1)) (by omega) (List.all_eq_true.1 (by kernel_rfl));have hn1:n-(n-1)=1:=by omega
 rw [hn1] at hS hS';refine ZOq wn rfl (Zxs hS rfl (hr _)) ?_;refine oe ?_;have hS:=hS'.narrow (i:=0) rfl (m:=n-1) (by omega);refine sr ?_;refine mv hS rfl fun fa hS=>?_;refine mw hS rfl fun fa hS=>?_;refine oe ?_;refine wp_ret ?_;refine Zaq hS (i:=0) rfl (Zvd rfl (Zab hS rfl)) ?_ (show n-1=(List.take i l++List.drop (i+1) l).length by rw [List.length_append,List.length_take,List.length_drop,← hn];omega);rw [Zfv hcs hin hzl];exact ZVb (ZUf i (ZQ hS.vst.le hA)) (ZDf (i+1) (ZQ hS.vst.le hA))
set_option maxRecDepth 100000
theorem Zir:Elem Tryz.prog 30 39 (Z9).n 56 (Value.agg #[Value.bool false,Value.slice none 0 0,Value.slice none 0 0]):=⟨Tryz.underlying30,by kernel_rfl,rfl,by decide⟩
theorem ZZf:ZRb Tryz.prog 30 39 (Z9).n:=⟨fun _=>by kernel_rfl,fun _=>by kernel_rfl⟩
theorem ZDB:Tryz.prog.follows .mixedOrders=true:=by kernel_rfl
noncomputable def Zfn:FuncId×ConD:=(132,⟨39,.leaf 3,fun l i j=>Zqd l i j⟩)
theorem Zdz:ZIh Tryz.prog Zfn.1 Zfn.2:=fun w v ob n cap cs l i0 j0 z hv hh hnv hA hn hi hj hz=>by
 have hz:Zqd (show List Rat from l) i0 j0=some z:=hz
 obtain ⟨i,rfl,rfl,hin,rfl⟩:=ZLq hz
 have hA:(Z9).rels v cs (show List Rat from l):=hA
 have hin:i<n:=by rw [hn];exact hin
 have hcs:cs.length=n*(Z9).n:=by rw [hn];exact Zcd hA
 refine ⟨fun _ _=>by kernel_rfl,?_⟩
 refine ZMv (K:=33) (args:=[.slice (mkA ob) n cap,.int .i64 (i:Int),.int .i64 ((i+1:Nat):Int)]) hv hh hnv Tryz.func132 rfl rfl zl fun fa hS=>?_
 obtain ⟨b,rfl⟩:=Zyd hS (j:=0) rfl (by omega)
 obtain ⟨_,cur,hg,hnc,hcx,hcu,htk⟩:=(hS.loc _ (List.mem_of_getElem? (i:=0) rfl)).1
 unfold maxLen at hcx
 refine sr ?_
 refine mw hS rfl fun fa hS=>?_
 refine oe ?_
 refine sr ?_
 refine mv hS rfl fun fa hS=>?_
 refine mv hS rfl fun fa hS=>?_
 refine mv hS rfl fun fa hS=>?_
 refine mv hS rfl fun fa hS=>?_
 refine ov hS rfl (ZSb hS rfl rfl ZZf) fun fa hS=>?_
 have h3 := @Z7p _ _ _ _ _ _ _ _ _ (some 13) 30 "" #[] none hS 30 39 (Z9).n b n cap i (i + 1) n (.tmp 8) (.tmp 9) (.tmp 10) (.tmp 12) .i64 .i64 .i64 ZZf rfl rfl rfl rfl (by omega) (by omega) hnc
 obtain ⟨y3,h3⟩:=h3
 refine ov hS rfl h3 fun fa hS=>?_
 refine oe ?_
 refine wp_seq_k fun N1 hN1=>?_
 refine sr ?_
 refine mv hS rfl fun fa hS=>?_
 refine mv hS rfl fun fa hS=>?_
 refine ov hS rfl (ZE hS rfl rfl ZEh) fun fa hS=>?_
 refine oe ?_
 refine ZUa hS rfl (by simp only [beq_eq_false_iff_ne,ne_eq];omega) ?_
 refine wp_skip ?_
 refine Zr (hN1 _ _ ?_)
 refine sr ?_
 refine mv hS rfl fun fa hS=>?_
 refine ov hS rfl (ZSb hS rfl rfl ZZf) fun fa hS=>?_
 refine mw hS rfl fun fa hS=>?_
 refine oe ?_
 refine wp_seq_k fun N2 hN2=>?_
 refine Z0g (fl:=#[true,true,true,true,true,true,false,false]) ZDB (by kernel_rfl) hS ?_
 intro ops hops hF wo hS
 refine rf hops hF 0 rfl (by kernel_rfl) rfl hS (ZL hS rfl) fun fa hS=>?_
 refine rf hops hF 1 rfl (by kernel_rfl) rfl hS (ZL hS rfl) fun fa hS=>?_
 refine rf hops hF 2 rfl (by kernel_rfl) rfl hS (Zuo hS ZZf rfl rfl (by omega) (by omega)) fun fa hS=>?_
 refine rf hops hF 3 rfl (by kernel_rfl) rfl hS (ZL hS rfl) fun fa hS=>?_
 refine rf hops hF 4 rfl (by kernel_rfl) rfl hS (ZL hS rfl) fun fa hS=>?_
 obtain ⟨ad,had,hsrc⟩:∃ ad:Addr,(if cap=i+1 then mkA (some b) else (mkA (some b)).map (·.add ((i+1)*(Z9).n)))=some ad∧∀ j u,(cs.drop ((i+1)*(Z9).n))[j]? = some u→wo.cell? (ad.add j)=some u:=by
  by_cases h:cap=i+1
  ·refine ⟨⟨b,0,none⟩,by rw [if_pos h];rfl,fun j u hu=>?_⟩;have:cs.drop ((i+1)*(Z9).n)=[]:=List.drop_eq_nil_of_le (by rw [hcs];exact Nat.mul_le_mul_right _ (by omega));rw [this] at hu;simp at hu
  ·refine ⟨(⟨b,0,none⟩:Addr).add ((i+1)*(Z9).n),by rw [if_neg h];rfl,fun j u hu=>?_⟩;have:=Z3g hS (j:=0) rfl ((i+1)*(Z9).n+j) u (by rw [List.getElem?_drop] at hu;exact hu);rw [show ((⟨b,0,none⟩:Addr).add ((i+1)*(Z9).n)).add j=(⟨b,0,none⟩:Addr).add ((i+1)*(Z9).n+j) by simp only [Zua,Nat.add_assoc]];exact this
 refine rf hops hF 5 rfl (by kernel_rfl) rfl hS (Zxq hS ZZf rfl rfl (by omega)) fun fa hS=>?_;rw [had] at hS;have hdl:(cs.drop ((i+1)*(Z9).n)).length=(n-(i+1))*(Z9).n:=by rw [List.length_drop,hcs,Nat.sub_mul]
 obtain ⟨wo',hr,hS'⟩:=ZLr (t:=30) (ty:=30) Zir hS (i:=0) rfl (q:=i) (m:=n-(i+1)) (c:=cap-(i+1)) (ad:=ad) (news:=cs.drop ((i+1)*(Z9).n)) hdl hsrc (by rw [List.all_eq_true];intro y hy;exact List.all_eq_true.1 (ZXg hA) y (List.mem_of_mem_drop hy)) (by omega);rw [show i+(n-(i+1))=n-1 by omega] at hr;refine ZGf hops hF 6 (by kernel_rfl) ?_;refine ZHm [2,5,0,1,3,4] [] hops rfl (by kernel_rfl) wn rfl zl (ZOp hS rfl rfl hr) hS' fun fa hS=>?_;refine ⟨Zvc,?_⟩;refine ZGf hops hF 7 (by kernel_rfl) ?_;refine nv [0,1,2,3,4,5,6] [] hops rfl (by kernel_rfl) rfl hS (Z5d hS rfl) fun fa hS=>?_;refine ⟨Zvc,?_⟩;refine Z3j hops hF (by kernel_rfl) ?_;refine Zr (hN2 _ _ ?_);refine sr ?_;refine mv hS rfl fun fa hS=>?_;refine mv hS rfl fun fa hS=>?_;refine ov hS rfl (ZSb hS rfl rfl ZZf) fun fa hS=>?_;refine mv hS rfl fun fa hS=>?_;refine ov hS rfl (Zpr hS ZZf rfl rfl rfl (by omega) (by omega) (by omega)) fun fa hS=>?_;obtain ⟨wo2,zc,hzl,hr,hS'⟩:=Zgv (t:=30) (ty:=30) Zir hS (i:=0) rfl (p:=n-1) (c:=cap-(n-1)) (by omega) (List.all_eq_true.1 (by kernel_rfl));have hn1:n-(n-1)=1:=by omega
 rw [hn1] at hS hS';refine ZOq wn rfl (Zxs hS rfl (hr _)) ?_;refine oe ?_;have hS:=hS'.narrow (i:=0) rfl (m:=n-1) (by omega);refine sr ?_;refine mv hS rfl fun fa hS=>?_;refine mw hS rfl fun fa hS=>?_;refine oe ?_;refine wp_ret ?_;refine Zaq hS (i:=0) rfl (Zvd rfl (Zab hS rfl)) ?_ (show n-1=(List.take i l++List.drop (i+1) l).length by rw [List.length_append,List.length_take,List.length_drop,← hn];omega);rw [Zfv hcs hin hzl];exact ZVb (ZUf i (ZQ hS.vst.le hA)) (ZDf (i+1) (ZQ hS.vst.le hA))
end Go.Eng
set_option maxRecDepth 100000
set_option maxHeartbeats 4000000
namespace Go.Eng
open Go.Proofs Go.RowKit
noncomputable def Zdr:FuncId×ConB:=(87,⟨142,(.agg (.cons (.mat 30 39 (.leaf 3)) (.cons (.own 39 (.leaf 3)) (.cons (.own 39 (.leaf 3)) (.cons (.dat (.leaf 3)) (.cons (.own 3 (.int .i64)) (.one (.own 3 (.int .i64))))))))),[.pair (.slice (.slice (.leaf 3))) (.pair (.slice (.leaf 3)) (.slice (.leaf 3)))],[.slice (.leaf 3),.bool],fun z x=>Zdk z x⟩)
theorem ZfB : KB Zdr := Zgh (C := cf1 [Zde, ZRg, Zzd, ZCh, Zdf, ZRf, ZXf] [100182] [ZVf] [((39, "Add"), 115), ((39, "Cmp"), 20), ((39, "Mul"), 204), ((39, "Sign"), 13), ((39, "Sub"), 69), ((39, "Zero"), 62)] [] [Zqm, ZZt, Zno] [Zgo, Zfn]) (.n (.n (.n (.two (.n (.f (.l [0, 3, 6, 7, 8, 34, 35] [] [.s 9 (.dat (.int .i64)), .s 36 (.dat (.int .i64))] 0 [0, 3, 6, 7, 8] [] [.s 9 (.dat (.int .i64))] (.f (.n (.n (.f (.f (.n (.two (.j [0, 3, 6, 7, 8, 9, 10, 34, 35, 36] [] [.s 61 (.dat .bool)] .no) (.j [0, 3, 6, 7, 8, 34, 35, 36] [] [.s 9 (.dat (.int .i64))] .no))))))))))) (.n (.two (.n (.f (.l [0, 3, 6, 7, 8, 9, 70] [] [.s 71 (.dat (.int .i64)), .l (.sl 69) (.mat 30 39 (.leaf 3))] 2 [0, 3, 6, 7, 8, 9] [] [.l (.sl 69) (.mat 30 39 (.leaf 3))] .no))) (.n (.n (.n (.n (.n (.two (.n (.n (.j [0, 3, 8] [.fld (.sl 0) 0, .fld (.sl 0) 1, .fld (.sl 0) 2, .fld (.sl 0) 6, .fld (.sl 0) 7] [.l (.sl 0) (.box 142 (.agg (.cons (.mat 30 39 (.leaf 3)) (.cons (.own 39 (.leaf 3)) (.cons (.own 39 (.leaf 3)) (.cons (.dat (.leaf 3)) (.cons (.own 3 (.int .i64)) (.one (.own 3 (.int .i64))))))))))] .no))) (.n (.n (.two (.n (.f (.l [0, 3, 14, 167] [] [.s 168 (.dat (.int .i64)), .l (.sl 166) (.mat 30 39 (.leaf 3))] 4 [0, 3] [] [.l (.sl 166) (.mat 30 39 (.leaf 3))] .no))) (.n (.f (.n (.f (.l [0, 203, 204] [.fld (.sl 0) 0, .fld (.sl 0) 1, .fld (.sl 0) 6, .fld (.sl 0) 7, .fld (.sl 0) 2] [.s 205 (.dat (.int .i64)), .l (.sl 0) (.box 142 (.agg (.cons (.mat 30 39 (.leaf 3)) (.cons (.own 39 (.leaf 3)) (.cons (.own 39 (.leaf 3)) (.cons (.dat (.leaf 3)) (.cons (.own 3 (.int .i64)) (.one (.own 3 (.int .i64))))))))))] 6 [] [.fld (.sl 0) 0, .fld (.sl 0) 1, .fld (.sl 0) 6, .fld (.sl 0) 7, .fld (.sl 0) 2] [.l (.sl 0) (.box 142 (.agg (.cons (.mat 30 39 (.leaf 3)) (.cons (.own 39 (.leaf 3)) (.cons (.own 39 (.leaf 3)) (.cons (.dat (.leaf 3)) (.cons (.own 3 (.int .i64)) (.one (.own 3 (.int .i64))))))))))] (.f (.n (.n (.f (.j [0, 203, 204, 205] [.fld (.sl 0) 0, .fld (.sl 0) 1, .fld (.sl 0) 2, .fld (.sl 0) 6, .fld (.sl 0) 7] [.l (.sl 0) (.box 142 (.agg (.cons (.mat 30 39 (.leaf 3)) (.cons (.own 39 (.leaf 3)) (.cons (.own 39 (.leaf 3)) (.cons (.dat (.leaf 3)) (.cons (.own 3 (.int .i64)) (.one (.own 3 (.int .i64))))))))))] (.f (.n (.n (.n (.n (.n (.f (.l [0, 17, 203, 204, 205, 265, 266] [] [.s 267 (.dat (.int .i64)), .l (.fld (.sl 0) 2) (.own 39 (.leaf 3))] 8 [0, 203, 204, 205] [] [.l (.fld (.sl 0) 2) (.own 39 (.leaf 3))] .no))))))))))))))))))))))))))))))))) Tryz.func87 [(37, Tryz.f37, .no), (117, Tryz.f117, .r [] [] [.s 1000 (.dat (.int .i64))] (.n (.f (.n (.f (.cut ⟨⟨[0, 1, 7], [], [.s 8 (.dat (.int .i64))]⟩, [(.exit 0, ⟨[], [], []⟩), (.ret, ⟨[], [], [.s 1000 (.dat (.int .i64))]⟩)]⟩ .no)))))), (127, Tryz.f127, .r [] [] [.s 1000 (.dat (.int .i64))] (.n (.f (.n (.f (.cut ⟨⟨[0, 1, 7], [], [.s 8 (.dat (.int .i64))]⟩, [(.exit 0, ⟨[], [], []⟩), (.ret, ⟨[], [], [.s 1000 (.dat (.int .i64))]⟩)]⟩ .no)))))), (130, Tryz.f130, .no)] (fun _ _ => by kernel_rfl) ⟨Zqe, Zcj, ZSd, Ztj, ZYf, Z6g, Zrh, tr⟩ ⟨ZNi, tr⟩ ⟨ZMi, Zmk, ZPg, Zbg, ZGh, ZDl, tr⟩ ⟨⟨Tryz.func37, fun _ _ => by kernel_rfl⟩, ⟨Tryz.func117, fun _ _ => by kernel_rfl⟩, ⟨Tryz.func127, fun _ _ => by kernel_rfl⟩, ⟨Tryz.func130, fun _ _ => by kernel_rfl⟩, tr⟩ tr ⟨Zfr, ZbA, Z6u, tr⟩ ⟨ZCA, Zdz, tr⟩
end Go.Eng
set_option maxRecDepth 100000
set_option maxHeartbeats 4000000
namespace Go.Eng
open Go.Proofs Go.RowKit
noncomputable def ZAn:FuncId×Con:=(39,⟨[.pair (.slice (.slice (.leaf 3))) (.pair (.slice (.leaf 3)) (.slice (.leaf 3)))],[.pair (.int .i64) (.pair (.leaf 3) (.pair (.slice (.leaf 3)) (.pair (.slice (.leaf 3)) (.slice (.leaf 3)))))],fun p=>Z0h p⟩)
theorem Zqt : KQ ZAn := Zh (Zt (C := cf1 [Zfd, Zzd, Zar, Zov] [] [Zig, ZVf] [((39, "Neg"), 19)] [Ztr] [Zdr, Zqm] []) (.n (.n (.n (.n (.n (.two (.j [2, 3, 4, 6] [] [.s 5 (.dat (.ptr (.pair (.slice (.slice (.leaf 3))) (.pair (.slice (.leaf 3)) (.pair (.slice (.leaf 3)) (.pair (.leaf 3) (.pair (.slice (.int .i64)) (.slice (.int .i64))))))))), .s 9 (.dat (.int .i64))] .no) (.n (.n (.two (.n (.n (.j [2, 3, 5, 6, 9, 10] [] [.l (.sl 10) (.own 39 (.leaf 3))] .no))) (.f (.n (.f (.l [2, 3, 5, 6, 9, 10, 69, 70] [] [.s 71 (.dat (.int .i64)), .l (.sl 10) (.own 39 (.leaf 3))] 0 [2, 3, 5, 6, 10] [] [.l (.sl 10) (.own 39 (.leaf 3))] (.f (.n (.n (.f (.f (.n (.n (.j [2, 3, 5, 6, 9, 10, 69, 70, 71] [] [.l (.sl 10) (.own 39 (.leaf 3))] .no))))))))))))))))))))) Tryz.func39 [(37, Tryz.f37, .no), (86, Tryz.f86, .n (.n (.two (.n (.f (.l [1, 3, 20] [.fld (.sl 3) 0, .fld (.sl 3) 1, .fld (.sl 3) 2] [.s 21 (.dat (.int .i64)), .l (.sl 3) (.box 142 (.agg (.cons (.mat 30 39 (.leaf 3)) (.cons (.own 39 (.leaf 3)) (.cons (.own 39 (.leaf 3)) (.cons (.dat (.leaf 3)) (.cons (.own 3 (.int .i64)) (.one (.own 3 (.int .i64))))))))))] 0 [1, 3] [.fld (.sl 3) 0, .fld (.sl 3) 1, .fld (.sl 3) 2] [.l (.sl 3) (.box 142 (.agg (.cons (.mat 30 39 (.leaf 3)) (.cons (.own 39 (.leaf 3)) (.cons (.own 39 (.leaf 3)) (.cons (.dat (.leaf 3)) (.cons (.own 3 (.int .i64)) (.one (.own 3 (.int .i64))))))))))] .no))) (.f (.n (.f (.l [1, 3, 37] [.fld (.sl 3) 0, .fld (.sl 3) 1, .fld (.sl 3) 2, .fld (.sl 3) 6, .fld (.sl 3) 7] [.s 38 (.dat (.int .i64)), .l (.sl 3) (.box 142 (.agg (.cons (.mat 30 39 (.leaf 3)) (.cons (.own 39 (.leaf 3)) (.cons (.own 39 (.leaf 3)) (.cons (.dat (.leaf 3)) (.cons (.own 3 (.int .i64)) (.one (.own 3 (.int .i64))))))))))] 2 [3] [.fld (.sl 3) 0, .fld (.sl 3) 1, .fld (.sl 3) 2, .fld (.sl 3) 6, .fld (.sl 3) 7] [.l (.sl 3) (.box 142 (.agg (.cons (.mat 30 39 (.leaf 3)) (.cons (.own 39 (.leaf 3)) (.cons (.own 39 (.leaf 3)) (.cons (.dat (.leaf 3)) (.cons (.own 3 (.int .i64)) (.one (.own 3 (.int .i64))))))))))] .no)))))))] (fun _ => by kernel_rfl) ⟨Z1d, ZSd, ZDA, ZSB, tr⟩ ⟨ZEj, ZNi, tr⟩ ⟨Zcf, tr⟩ ⟨⟨Tryz.func37, fun _ _ => by kernel_rfl⟩, ⟨Tryz.func86, fun _ _ => by kernel_rfl⟩, tr⟩ ⟨Zjz, tr⟩ ⟨ZfB, Zfr, tr⟩)
end Go.Eng
set_option maxRecDepth 100000
set_option maxHeartbeats 4000000
namespace Go.Eng
open Go.Proofs Go.RowKit
noncomputable def ZGm:FuncId×Con:=(73,⟨[.pair (.slice (.slice (.leaf 3))) (.pair (.slice (.leaf 3)) (.slice (.leaf 3)))],[.int .i64],fun p=>Zpo p⟩)
theorem ZNt:KQ ZGm:=Zh (Zt (C:=cf0 [] [] [] []) (.n (.f (.f (.j [] [] [.s 27 (.dat .bool)] .no)))) Tryz.func73 [(106,Tryz.f106,.no),(118,Tryz.f118,.no),(148,Tryz.f148,.r [] [] [.s 1000 (.dat (.int .i64))] (.n (.f (.n (.f (.cut ⟨⟨[0,1,7],[],[.s 8 (.dat (.int .i64))]⟩,[(.exit 0,⟨[],[],[]⟩),(.ret,⟨[],[],[.s 1000 (.dat (.int .i64))]⟩)]⟩ .no))))))] (fun _=>by kernel_rfl) tr tr tr ⟨⟨Tryz.func106,fun _ _=>by kernel_rfl⟩,⟨Tryz.func118,fun _ _=>by kernel_rfl⟩,⟨Tryz.func148,fun _ _=>by kernel_rfl⟩,tr⟩)
end Go.Eng
set_option maxRecDepth 100000
set_option maxHeartbeats 4000000
namespace Go.Eng
open Go.Proofs Go.RowKit
noncomputable def ZYv:FuncId×Con:=(25,⟨[.pair (.slice (.slice (.leaf 3))) (.pair (.slice (.leaf 3)) (.slice (.leaf 3)))],[.pair (.int .i64) (.pair (.leaf 3) (.pair (.slice (.leaf 3)) (.pair (.slice (.leaf 3)) (.slice (.leaf 3))))),.int .i64],fun p=>ZWp p⟩)
theorem Z5v:KQ ZYv:=Zh (Zt (C:=cf0 [ZAn,ZGm] [] [] []) .no Tryz.func25 [] (fun _=>by kernel_rfl) ⟨Zqt,ZNt,tr⟩)
end Go.Eng
namespace Go.Eng
open Go.Proofs Go.RowKit
theorem ZWx {r:World} {d:Zb} (hv:VIn d r) {D:List Value} {n:Int} (L:Rep.rel (Zf .u64) d D n) {z:(List UInt8)} (H:Zcm n=some z):Ret Tryz.prog 122 #[(Zf .u64).val D] r d (fun y v'=>∃ E,y=Zkb.val E∧Zkb.rel v' E z):=by
 obtain ⟨rfl,M⟩:=L;refine Zvi (K:=20) (args:=[.int .u64 n]) hv Tryz.func122 rfl rfl zl fun f S=>?_;unfold Zcm at H;refine sr (mw S rfl fun f S=>oe (sr (Z8p S wn rfl zl (cs:=[.int .u8 0,.int .u8 0,.int .u8 0,.int .u8 0,.int .u8 0,.int .u8 0,.int .u8 0,.int .u8 0,.int .u8 0,.int .u8 0,.int .u8 0,.int .u8 0,.int .u8 0,.int .u8 0,.int .u8 0,.int .u8 0,.int .u8 0,.int .u8 0,.int .u8 0,.int .u8 0]) (ZMn k_zv214) fun s f w S=>?_)));have S:=S.boxOwn 1 20 rfl zl;have N:Rep.rels (Zf .u8) d [.int .u8 0,.int .u8 0,.int .u8 0,.int .u8 0,.int .u8 0,.int .u8 0,.int .u8 0,.int .u8 0,.int .u8 0,.int .u8 0,.int .u8 0,.int .u8 0,.int .u8 0,.int .u8 0,.int .u8 0,.int .u8 0,.int .u8 0,.int .u8 0,.int .u8 0,.int .u8 0] (List.replicate 20 (0:Int)):=ZUh (show Rep.rel (Zf .u8) _ [Value.int .u8 0] 0 from ⟨rfl,by decide⟩) 20;refine oe (sr (mw S rfl fun f S=>oe (ZB fun _ O=>?_)));obtain ⟨P,Q,R⟩:=Zpa H;refine Zad (fun f w=>∃ l m B t,(l,m)=P∧Zb.le d t∧St 20 r d [(3,.pointer (some ⟨s,0,none⟩)),(4,.int .i64 m)] [Loc.own (some s) 214 1 20 20 B] t f w∧Rep.rels (Zf .u8) t B l∧20=l.length∧inR .i64 m) (fun _ T=>?_) ?_
 ·have H:=Q;refine wp_block ?_;obtain ⟨ak,U,V⟩:=Zpa H;refine ZRe U (fun W f w=>∃ h o u b k,(h,o,u)=W∧Zb.le d k∧St 20 r d [(0,.int .u64 o),(3,.pointer (some ⟨s,0,none⟩)),(4,.int .i64 u)] [Loc.own (some s) 214 1 20 20 b] k f w∧Rep.rels (Zf .u8) k b h∧20=h.length∧inR .u64 o∧inR .i64 u) ⟨_,_,_,[.int .u8 0,.int .u8 0,.int .u8 0,.int .u8 0,.int .u8 0,.int .u8 0,.int .u8 0,.int .u8 0,.int .u8 0,.int .u8 0,.int .u8 0,.int .u8 0,.int .u8 0,.int .u8 0,.int .u8 0,.int .u8 0,.int .u8 0,.int .u8 0,.int .u8 0,.int .u8 0],_,rfl,(leR _),(S.fr' rfl),N,(List.length_replicate (n:=20) (a:=(0:Int))).symm,M,(by decide)⟩ ?_;rintro _ f w st ⟨h,o,u,b,k,hq,F,S,C,v,al,X⟩ H am Y Z;subst hq;refine ZB fun _ aa=>sr (mv S rfl fun f S=>ov S rfl (ZE S rfl rfl ZFg) fun f S=>oe ?_);rcases Zvb (decide ((0:Int)<o)) with p | p
  ·have H:=ZFb H p;refine ZEb S rfl p (wp_skip (Zr (aa _ _ (ZB fun _ ab=>wp_block (ZB fun _ ac=>bO H fun e G H=>ZY (mv S rfl fun f S=>ov S rfl (ZE S rfl rfl (Z2b G)) fun f S=>mw S rfl fun f S=>ZP (Zr (ac _ _ (bO H fun g ad H=>?_)))))))));refine bO H fun an q H=>ZY (mv S rfl fun f S=>mv S rfl fun f S=>ov S rfl (ZE S rfl rfl (ZMs ad)) fun f S=>ov S rfl (ZE S rfl rfl ZGn) fun f S=>ov S rfl (Z9f S rfl (ZoB _)) fun f S=>?_);have I:=ZVa C (Zq q).2.1;obtain ⟨ao,ae⟩:∃ c,(List.take (Zf .u8).n (List.drop ((e).toNat*(Zf .u8).n) b))=c:=⟨_,rfl⟩;rw [ae] at I;obtain ⟨rfl,ap⟩:=I;refine ov S rfl (Zsq S ZSr rfl rfl (Zq q).1 (ltI v (Zq q).2.2.1)) fun f S=>?_;obtain ⟨w,af,S⟩:=ZXd S k_sz5 (off:=0+(e).toNat*1) (z:=.int .u8 (IntKind.u8.wrap (IntKind.u64.wrap ((48:Int)+g)))) (cs:=[.int .u8 (IntKind.u8.wrap (IntKind.u64.wrap ((48:Int)+g)))]) (Zwd rfl) rfl (i:=0) rfl (Zei S (j:=0) rfl (ltN v (Zq q).2.2.2)) (by first | rfl | simp [plain]);have ag:Rep.rels (Zf .u8) k (List.take (0+(e).toNat*1) b++[Value.int IntKind.u8 (IntKind.u8.wrap (IntKind.u64.wrap ((48:Int)+g)))]++List.drop (0+(e).toNat*1+1) b) (h.set (e).toNat (IntKind.u8.wrap (IntKind.u64.wrap ((48:Int)+g)))):=Z7g C (Zq q).2.2.2 (show Rep.rel (Zf .u8) k [.int .u8 (IntKind.u8.wrap (IntKind.u64.wrap ((48:Int)+g)))] _ from (Zfa (Zac _ _))) rfl rfl
   have ah:20=(h.set (e).toNat (IntKind.u8.wrap (IntKind.u64.wrap ((48:Int)+g)))).length:=setN v;refine ZWl wn rfl (af rfl rfl) (ZP (Zge (Zr (ab _ _ (bO H fun aq J H=>ZY (mv S rfl fun f S=>ov S rfl (ZE S rfl rfl (Zwr J)) fun f S=>mw S rfl fun f S=>ZP ?_))))));obtain rfl:=ZM H;refine Y _ rfl _ _ ⟨_,_,_,(List.take (0+(e).toNat*1) b++[Value.int IntKind.u8 (IntKind.u8.wrap (IntKind.u64.wrap ((48:Int)+g)))]++List.drop (0+(e).toNat*1+1) b),_,rfl,F,(S.fr' rfl),ag,ah,(Zlr J),(ZMb G).2⟩
  have H:=ZHb H p;refine ZUa S rfl p (wp_exit (Zbb ?_));obtain rfl:=ZM H;have hq:=Z _ rfl;subst hq;have H:=V;refine Zbb (Z6d ?_);obtain rfl:=ZM H;refine Zr (T _ _ ⟨_,_,b,_,rfl,(leT (leR _) F),(S.fr' rfl),C,v,X⟩)
 rintro f w ⟨l,m,B,t,hq,ar,S,ai,x,au⟩;subst hq;have H:=R;refine Zr (O _ _ (ZB fun _ aj=>bO H fun av A H=>ZY (mv S rfl fun f S=>ov S rfl (Z0z S ZSr rfl rfl (Zqg A).1 (by have:=(Zqg A).2.1;have:=x;omega)) fun f S=>ov S rfl (Zly S (j:=0) rfl ai x (by have:=(Zqg A).2.1;have:=(Zqg A).1;have:=x;omega) rfl Tryz.underlying180 Tryz.underlying5 Tryz.underlying9) fun f S=>mw S rfl fun f S=>ZP (Zr (aj _ _ (wp_ret ?_))))));obtain rfl:=ZM H;refine ZBg S (Zvd rfl (Zab S rfl)) ⟨[.string (Zv ((ZQd (l.drop ((m).toNat)))))],rfl,(ZLi (by have:=x;simp only [ZNA,List.length_drop];unfold maxLen;omega))⟩
theorem Zoz {b:World} {a:Zb} (hv:VIn a b) {c:List Value} {n:Int} (d:Rep.rel (Zf .u64) a c n) {z:(List UInt8)} (hm:ZBh n=some z) :
  Ret Tryz.prog 122 #[(Zf .u64).val c] b a (fun y v'=>∃ e,y=Zkb.val e∧Zkb.rel v' e z) :=
 ZWx hv d (Zwz d.2 hm)
end Go.Eng
namespace Go.Proofs
open Go.Shelf
def Tryz.lays105_ren:Go.Shelf.Ren:=⟨fun | 105=>123 | 212=>128 | 99=>160 | 165=>161 | 166=>124 | 170=>162 | 169=>125 | 263=>164 | 264=>112 | 206=>166 | 240=>163 | 241=>179 | 276=>180 | 277=>186 | n=>n,fun | 9=>9 | 3=>3 | 4=>4 | 20=>20 | 0=>0 | 46=>189 | 109=>190 | 5=>5 | 72=>182 | 76=>185 | 51=>161 | 146=>218 | 53=>160 | 148=>166 | 70=>179 | 37=>180 | 75=>184 | 127=>217 | 164=>228 | 80=>86 | n=>n,fun | n=>n⟩
theorem Tryz.lays105:Go.Proofs.Lays.n105 Tryz.prog Tryz.lays105_ren:={
 mixed:=by kernel_rfl
 f99:=Tryz.func160.trans (congrArg some (by kernel_rfl))
 f105:=Tryz.func123.trans (congrArg some (by kernel_rfl))
 f165:=Tryz.func161.trans (congrArg some (by kernel_rfl))
 f166:=Tryz.func124.trans (congrArg some (by kernel_rfl))
 f169:=Tryz.func125.trans (congrArg some (by kernel_rfl))
 f170:=Tryz.func162.trans (congrArg some (by kernel_rfl))
 f206:=Tryz.func166.trans (congrArg some (by kernel_rfl))
 f212:=Tryz.func128.trans (congrArg some (by kernel_rfl))
 f240:=Tryz.func163.trans (congrArg some (by kernel_rfl))
 f241:=Tryz.func179.trans (congrArg some (by kernel_rfl))
 f263:=Tryz.func164.trans (congrArg some (by kernel_rfl))
 f264:=Tryz.func112.trans (congrArg some (by kernel_rfl))
 f276:=Tryz.func180.trans (congrArg some (by kernel_rfl))
 f277:=Tryz.func186.trans (congrArg some (by kernel_rfl))
 t0:=Tryz.underlying0
 a0:=Tryz.isAgg0
 z0:=Tryz.sizeOf0
 v0:=Tryz.zeroValue0
 t3:=Tryz.underlying3
 a3:=Tryz.isAgg3
 z3:=Tryz.sizeOf3
 v3:=Tryz.zeroValue3
 t4:=Tryz.underlying4
 a4:=Tryz.isAgg4
 z4:=Tryz.sizeOf4
 v4:=Tryz.zeroValue4
 t5:=Tryz.underlying5
 a5:=Tryz.isAgg5
 z5:=Tryz.sizeOf5
 v5:=Tryz.zeroValue5
 t9:=Tryz.underlying9
 a9:=Tryz.isAgg9
 z9:=Tryz.sizeOf9
 v9:=Tryz.zeroValue9
 t20:=Tryz.underlying20
 a20:=Tryz.isAgg20
 z20:=Tryz.sizeOf20
 v20:=Tryz.zeroValue20
 t37:=Tryz.underlying180
 a37:=Tryz.isAgg180
 z37:=Tryz.sizeOf180
 v37:=Tryz.zeroValue180
 t46:=Tryz.underlying189
 a46:=Tryz.isAgg189
 z46:=Tryz.sizeOf189
 v46:=Tryz.zeroValue189
 t51:=Tryz.underlying161
 a51:=Tryz.isAgg161
 z51:=Tryz.sizeOf161
 v51:=Tryz.zeroValue161
 t53:=Tryz.underlying160
 a53:=Tryz.isAgg160
 z53:=Tryz.sizeOf160
 v53:=Tryz.zeroValue160
 t70:=Tryz.underlying179
 a70:=Tryz.isAgg179
 z70:=Tryz.sizeOf179
 v70:=Tryz.zeroValue179
 t72:=Tryz.underlying182
 a72:=Tryz.isAgg182
 z72:=Tryz.sizeOf182
 v72:=Tryz.zeroValue182
 t75:=Tryz.underlying184
 a75:=Tryz.isAgg184
 z75:=Tryz.sizeOf184
 v75:=Tryz.zeroValue184
 t76:=Tryz.underlying185
 a76:=Tryz.isAgg185
 z76:=Tryz.sizeOf185
 v76:=Tryz.zeroValue185
 t109:=Tryz.underlying190
 a109:=Tryz.isAgg190
 z109:=Tryz.sizeOf190
 v109:=Tryz.zeroValue190
 t127:=Tryz.underlying217
 a127:=Tryz.isAgg217
 z127:=Tryz.sizeOf217
 v127:=Tryz.zeroValue217
 t146:=Tryz.underlying218
 a146:=Tryz.isAgg218
 z146:=Tryz.sizeOf218
 v146:=Tryz.zeroValue218
 t148:=Tryz.underlying166
 a148:=Tryz.isAgg166
 z148:=Tryz.sizeOf166
 v148:=Tryz.zeroValue166
 t164:=Tryz.underlying228
 a164:=Tryz.isAgg228
 z164:=Tryz.sizeOf228
 v164:=Tryz.zeroValue228 }
theorem Tryz.Builder_Extra_105:Builder.Extra Tryz.prog Tryz.lays105_ren:={
 sizeBuilder:=by kernel_rfl
 liesBuilder:=by kernel_rfl
 t5:=Tryz.underlying5
 a5:=Tryz.isAgg5
 z5:=Tryz.sizeOf5
 v5:=Tryz.zeroValue5
 infoByte:=by kernel_rfl
 cellsByte:=by kernel_rfl
 sizeByte:=by kernel_rfl
 neB5:=by decide }
end Go.Proofs
namespace Go.Eng
open Go.Proofs Go.RowKit Go.Shelf
theorem writes:ZKt Tryz.prog 124 182 5:=fun B b bs s w h hl hB=>Any.Builder_WriteString { Tryz.lays105 with } Tryz.Builder_Extra_105 B b bs s w h hl hB
theorem tells:Tells Tryz.prog 125 182 5:=fun B b l w h hB=>Any.Builder_String_any { Tryz.lays105 with } Tryz.Builder_Extra_105 B b l w h hB
end Go.Eng
namespace Go.Eng
open Go.Proofs Go.RowKit
theorem ZOA (l:List UInt8) (c:Nat):Lib.repeatL l c=(List.replicate c l).flatten:=by
 induction c with
 | zero=>rfl
 | succ c ih=>simp [Lib.repeatL,List.replicate_succ,ih]
theorem Z7v {b:World} {a:Zb} (hv:VIn a b) {f:List Value} {s:List UInt8} (k:Rep.rel Zkb a f s) {g:List Value} {c:Int} (l:Rep.rel (Zf .i64) a g c) {z:List UInt8} (hm:ZZg s c=some z) :
  Ret Tryz.prog 123 #[Zkb.val f,(Zf .i64).val g] b a (fun y v'=>∃ h,y=Zkb.val h∧Zkb.rel v' h z):=by
 obtain ⟨rfl,hs⟩:=k;obtain ⟨rfl,hc⟩:=l;unfold ZZg at hm;split at hm
 ·rename_i hh
  cases hm
  obtain ⟨C,rfl⟩:=Int.eq_ofNat_of_zero_le hh.1;have hc:=Z3a.1 hc;have d:=hh.2;rw [Int.toNat_natCast] at d;have:=Any.strings_Repeat Tryz.lays105 Tryz.Builder_Extra_105 (Zv s) C b (by omega) (by rw [Zsd];exact d);refine Calls.mono this fun e w' ⟨i,j⟩=>?_;have m:(⟨(Lib.repeatL (Zv s).data.toList C).toArray⟩:ByteArray)=Zv (List.replicate C s).flatten:=by
   rw [ZOA];rfl
  rw [m] at i;exact ⟨_,a,i,j,VStep.ext hv j,[.string (Zv (List.replicate C s).flatten)],rfl,rfl,by simp only [Int.toNat_natCast];rw [List.length_flatten];simp;unfold maxLen;rw [Nat.mul_comm] at d;omega⟩
 ·cases hm
theorem text_w {e:World} {c:Zb} (hv:VIn c e) {c0:List Value} {a:Nat} (p0:Rep.rel Zw c c0 a) {z:(List UInt8)} (H:ZHj a=some z):Ret Tryz.prog 75 #[Zw.val c0] e c (fun y v'=>∃ r0,y=Zkb.val r0∧Zkb.rel v' r0 z):=by
 obtain ⟨q1,n2,k3,rfl⟩:=ZTa p0;refine Zvi (K:=49) (args:=[.slice q1 n2 k3]) hv Tryz.func75 rfl rfl zl fun f S=>?_;unfold ZHj at H;refine sr (mw S rfl fun f S=>oe (sr ?_));have S:=S.nilLoc 9 1;refine ov S rfl (Z5d S (y:=.slice (mkA none) 0 0) rfl) fun f S=>oe (ZB fun _ ar=>?_);obtain ⟨au,av,ax⟩:=Zpa H;refine Zad (fun f w=>∃ o F s G U I,o=au∧Zb.le c I∧St 49 e c [(3,.slice (mkA F) s G)] [Loc.own F 9 1 s G U] I f w∧Rep.rels Zkb I U o∧s=o.length) (fun _ ay=>?_) ?_
 ·have H:=av;refine wp_block ?_;obtain ⟨bt,az,aA⟩:=Zpa H;refine ZRe az (fun aB f w=>∃ J g L M N p h q k t,(J,g)=aB∧Zb.le c t∧St 49 e c [(0,.slice L M N),(3,.slice (mkA p) h q)] [Loc.own p 9 1 h q k] t f w∧Rep.rel Zw t [.slice L M N] J∧Rep.rels Zkb t k g∧h=g.length) ⟨_,_,_,_,_,none,0,0,[],_,rfl,(leR _),(S.fr' rfl),p0,Z2d,rfl⟩ ?_;rintro _ f w st ⟨J,g,L,M,N,p,h,q,k,t,hq,ac,S,ad,d,ae⟩ H bu aC aD;subst hq;refine ZB fun _ aE=>sr (mv S rfl fun f S=>ov S rfl (Zgc S (Zeb ad) rfl rfl Zla) fun f S=>ov S rfl (ZE S rfl rfl ZFg) fun f S=>oe ?_);rcases Zvb (decide ((0:Int)<(((Zc 18446744073709551616 J)).length:Int))) with u | u
  ·have H:=ZFb H u;refine ZEb S rfl u (wp_skip (Zr (aE _ _ (wp_block (ZB fun _ aF=>bO H fun O aG H=>ZY (mv S rfl fun f S=>opc S rfl (ZBa S [.slice L M N,.int .u64 10000000000000000000] Zwt rfl rfl) (Zvq S.vin ad (show Rep.rel (Zf .u64) _ [.int .u64 10000000000000000000] (10000000000000000000:Int) from (Zfa (by decide))) aG) ?_))))));rintro _ bv f w af ⟨bw,bx,rfl,m,aH⟩ S;have d:=ZQ af d;obtain ⟨aI,aJ,aK,rfl⟩:=ZTa m;obtain ⟨rfl,aL⟩:=aH;refine mv S rfl fun f S=>ov S rfl (ZFa S rfl rfl) fun f S=>ov S rfl (ZFa S rfl rfl) fun f S=>mw S rfl fun f S=>mw S rfl fun f S=>ZP (Zr (aF _ _ (ZB fun _ aM=>bO H fun bz aN H=>ZY (mv S rfl fun f S=>opc S rfl (ZBa S [.int .u64 (O.2)] k_en122 rfl rfl) (Zoz S.vin (show Rep.rel (Zf .u64) _ [.int .u64 (O.2)] O.2 from (Zfa aL)) aN) ?_))));rintro _ aO f w V ⟨bA,rfl,aP⟩ S;have d:=ZQ V d;obtain ⟨rfl,aQ⟩:=aP;refine mw S rfl fun f S=>ZP (Zr (aM _ _ (ZB fun _ aR=>sr (mv S rfl fun f S=>?_))));have m:=ZOa V m;refine ov S rfl (Zgc S (Zeb m) rfl rfl Zla) fun f S=>ov S rfl (ZE S rfl rfl ZFg) fun f S=>oe ?_;obtain ⟨aS,aT,aU⟩:=Zpa H;refine Zad (fun f w=>∃ b P,b=aS∧Zb.le aO P∧St 49 e c [(3,.slice (mkA p) h q),(4,.slice aI aJ aK),(6,.string (Zv b))] [Loc.own p 9 1 h q k] P f w∧b.length≤maxLen) (fun _ ag=>?_) ?_
   ·have H:=aT;rcases Zvb (decide ((0:Int)<(((Zc 18446744073709551616 O.1)).length:Int))) with v | v
    ·have H:=ZFb H v;refine ZEb S rfl v (bO H fun W ah H=>bO H fun bB aV H=>bO H fun bC ai H=>ZY (mv S rfl fun f S=>ov S rfl (Ztt S rfl rfl Tryz.underlying9) fun f S=>ov S rfl (ZE S rfl rfl (Z2b ah)) fun f S=>opc S rfl (ZBa S [.string (Zv (([48]:List UInt8))),.int .i64 W] k_en123 rfl rfl) (Z7v S.vin (show Rep.rel Zkb _ [.string (Zv (([48]:List UInt8)))] (([48]:List UInt8)) from (ZLi zl)) (show Rep.rel (Zf .i64) _ [.int .i64 W] W from (Zfa (ZMb ah).2)) aV) ?_));rintro _ bD f w aj ⟨bE,rfl,aW⟩ S;have d:=ZQ aj d;obtain ⟨rfl,bG⟩:=aW;refine mv S rfl fun f S=>ov S rfl (Z9l S rfl rfl (ZJu ai)) fun f S=>mw S rfl fun f S=>ZP ?_;obtain rfl:=ZM H;refine Zr (ag _ _ ⟨_,_,rfl,(leT (leR _) aj),(S.fr' rfl),(Zek ai)⟩)
    have H:=ZHb H v;refine ZUa S rfl v (wp_skip ?_);obtain rfl:=ZM H;refine Zr (ag _ _ ⟨_,_,rfl,(leR _),(S.fr' rfl),aQ⟩)
   rintro f w ⟨b,P,hq,X,S,aX⟩;subst hq;have H:=aU;have d:=ZQ X d;refine Zr (aR _ _ (bO H fun bH aY H=>ZY (mv S rfl fun f S=>mv S rfl fun f S=>?_)));obtain ⟨bI,w,aZ,S⟩:=Zbh S (n:=1) (cs:=[.string (Zv b)]) (vals:=[(0,.string (Zv b))]) (sz:=1) rfl (by decide) (Zas Zts (x:=.string (Zv b)) (cs:=[.string (Zv b)]) rfl rfl (by decide));have Y:Rep.rels Zkb P [.string (Zv b)] [b]:=(Zrs (ZLi aX) Z2d);refine ZMc wn rfl zl (aZ rfl) S fun f S=>?_;have a0:=S;obtain ⟨ak,al,w,a1,S⟩:=ZXk (ty:=174) Zts S (i:=1) (n':=(g++[b]).length) rfl (Zwe Y rfl) (Z3g S (j:=0) rfl) (ZXg Y) (appN ae rfl) (Zje aY) (by decide);have a2:=ZVb d Y;refine ZMc wn rfl zl (ZQe a0 rfl rfl a1) S fun f S=>mv S rfl fun f S=>mw S rfl fun f S=>mw S rfl fun f S=>ZP (Zge ?_);obtain rfl:=ZM H;have S:=S.reorder (ℓ':=[Loc.own ak 9 1 ((g++[b]).length) al ((k++[.string (Zv b)]))]) [1] rfl (by decide);have m:=ZOa X m;refine aC _ rfl _ _ ⟨_,_,_,_,_,ak,(g++[b]).length,al,(k++[.string (Zv b)]),_,rfl,(leT (leT (leT ac af) V) X),(S.fr' rfl),m,a2,rfl⟩
  have H:=ZHb H u;refine ZUa S rfl u (wp_exit (Zbb ?_));obtain rfl:=ZM H;have hq:=aD _ rfl;subst hq;have H:=aA;refine Zbb (Z6d ?_);obtain rfl:=ZM H;refine Zr (ay _ _ ⟨_,p,h,q,k,_,rfl,(leT (leR _) ac),(S.fr' rfl),d,ae⟩)
 rintro f w ⟨o,F,s,G,U,I,hq,bJ,S,a3,am⟩;subst hq;have H:=ax;refine Zr (ar _ _ (ZB fun _ a4=>sr (mv S rfl fun f S=>ov S rfl (Zgc S am rfl rfl Z9o) fun f S=>ov S rfl (ZE S rfl rfl ZEh) fun f S=>oe ?_)));rcases Zvb (((o.length:Int))==(0:Int)) with B | B
 ·have H:=ZFb H B;refine ZEb S rfl B (sr (mw S rfl fun f S=>oe (wp_ret (ZIi ?_))));obtain rfl:=ZM H;refine ZBg S (Zvd rfl (Zab S rfl)) ⟨[.string (Zv (([48]:List UInt8)))],rfl,(ZLi zl)⟩
 have H:=ZHb H B;refine ZUa S rfl B (wp_skip (Zr (a4 _ _ (sr ?_))));obtain ⟨an,bK,S,C⟩:=S.pubSlice (i:=0) (A:=Zkb) (l:=o) (ℓ':=[]) rfl rfl am a3 rfl;refine op_newB 5 S wn rfl zl (ZMn k_zv182) fun r f w S a5=>oe (ZB fun _ a6=>ZB fun _ a7=>bO H fun bM ao H=>ZY (mv S rfl fun f S=>ov S rfl (Zgc S (Zeb C) rfl rfl Z9o) fun f S=>ov S rfl (ZE S rfl rfl (Z2b ao)) fun f S=>mw S rfl fun f S=>ZP (Zr (a7 _ _ ?_))));obtain ⟨a8,a9,ba⟩:=Zpa H;refine Zad (fun f w=>∃ Q R,Q=a8∧Zb.le an R∧St 49 e c [(7,.pointer (some ⟨r,0,none⟩))] [] R f w∧Bld 182 5 r e R Q w) (fun _ bb=>?_) ?_
 ·have H:=a9;refine wp_block ?_;obtain ⟨bP,bc,bd⟩:=Zpa H;refine ZRe bc (fun be f w=>∃ Z D T,(Z,D)=be∧Zb.le an T∧St 49 e c [(3,.slice (mkA F) s G),(7,.pointer (some ⟨r,0,none⟩)),(8,.int .i64 D)] [] T f w∧Bld 182 5 r e T Z w∧inR .i64 D) ⟨_,_,_,rfl,(leR _),(S.fr' rfl),a5,(ZMb ao).2⟩ ?_;rintro _ f w st ⟨Z,D,T,hq,aa,S,ap,bQ⟩ H bR bf bg;subst hq;refine ZB fun _ bh=>sr (mv S rfl fun f S=>ov S rfl (ZE S rfl rfl Zeo) fun f S=>oe ?_);rcases Zvb (decide ((0:Int)≤D)) with E | E
  ·have H:=ZFb H E;refine ZEb S rfl E (wp_skip (Zr (bh _ _ (ZB fun _ bi=>wp_block (bO H fun bj ab H=>bO H fun bS bk H=>ZY (mv S rfl fun f S=>mv S rfl fun f S=>?_))))));have C:=ZOa aa C;obtain ⟨_,bT,bU,bV,bm,bn,bo⟩:=ZFc C (Zq ab).2.1;obtain ⟨rfl,rfl⟩:=Z7y bm;obtain ⟨rfl,bW⟩:=bo;refine ov S rfl (Zva S rfl rfl Z9o (Zq ab).1 (ltI (Zeb C) (Zq ab).2.2.1)) fun f S=>ov S rfl (Zqb S rfl k_sz9 (S.view bn)) fun f S=>ZEB writes ap (ZDw bk) S wn rfl zl (ZBa S [.pointer (some ⟨r,0,none⟩),.string (Zv bj)] k_en124 rfl rfl) fun f w S bp=>ZP (Zge (Zr (bi _ _ (bO H fun bX aq H=>ZY (mv S rfl fun f S=>ov S rfl (ZE S rfl rfl (Z2b aq)) fun f S=>mw S rfl fun f S=>ZP ?_)))));obtain rfl:=ZM H;refine bf _ rfl _ _ ⟨_,_,_,rfl,aa,(S.fr' rfl),bp,(ZMb aq).2⟩
  have H:=ZHb H E;refine ZUa S rfl E (wp_exit (Zbb ?_));obtain rfl:=ZM H;have hq:=bg _ rfl;subst hq;have H:=bd;refine Zbb (Z6d ?_);obtain rfl:=ZM H;refine Zr (bb _ _ ⟨_,_,rfl,(leT (leR _) aa),(S.fr' rfl),ap⟩)
 rintro f w ⟨Q,R,hq,bY,S,bq⟩;subst hq;have H:=ba;refine Zr (a6 _ _ (ZB fun _ br=>bO H fun bZ bs H=>ZY (op_tell tells bq S wn rfl zl (ZBa S [.pointer (some ⟨r,0,none⟩)] k_en125 rfl rfl) fun f w S=>mw S rfl fun f S=>ZP (Zr (br _ _ (wp_ret ?_))))));obtain rfl:=ZM H;refine ZBg S (Zvd rfl (Zab S rfl)) ⟨[.string (Zv Q)],rfl,(ZLi (Zek bs))⟩
theorem text_c {c:World} {b:Zb} (hv:VIn b c) {d:List Value} {a:Nat} (f:Rep.rel Zw b d a) {z:(List UInt8)} (hm:Zng a=some z) :
  Ret Tryz.prog 75 #[Zw.val d] c b (fun y v'=>∃ e,y=Zkb.val e∧Zkb.rel v' e z) :=
 text_w hv f (ZVz hm)
end Go.Eng
set_option maxRecDepth 100000
set_option maxHeartbeats 4000000
namespace Go.Eng
open Go.Proofs Go.RowKit
noncomputable def Z7m:FuncId×Con:=(75,⟨[.leaf 0],[.str],fun p=>Zng p⟩)
theorem text_k:ZId Tryz.prog Z7m.1 Z7m.2:=fun w v vals x z hv ha hz=>by
 obtain ⟨c0,e0,p0⟩:=ha;subst e0
 exact .inl ⟨fun _ _=>by kernel_rfl,Ret.mono (text_c hv p0 hz) fun y v' _ ⟨r0,e,h0⟩=>⟨r0,e,h0⟩⟩
end Go.Eng
set_option maxRecDepth 100000
set_option maxHeartbeats 4000000
namespace Go.Eng
open Go.Proofs Go.RowKit
noncomputable def Zbl:FuncId×Con:=(27,⟨[.leaf 3],[.str],fun p=>Zsg p⟩)
theorem Z4m:KQ Zbl:=Zh (ZA (C:=cf0 [Z7m] [] [] []) (.n (.n (.two (.n (.j [1] [] [.s 3 (.dat .str)] .no)) (.f (.n (.j [] [] [.s 3 (.dat .str)] .no)))))) Tryz.func27 [] (fun v vals x z ha hz=>.trans (by kernel_rfl) (Zuw hz)) ⟨text_k,tr⟩)
noncomputable def Z0s (x:Rat):Option ((List UInt8)) :=
 bnd (ZYh x.num.natAbs) fun b =>
 bnd (ifb (decide (x.num<0))
 (bnd (Zwc x) fun d =>
 some (!(d)))
 (some false))
 (fun (e:Bool) =>
 (bnd (ifb (e)
 (bnd (Znb ((([45]:List UInt8))++b)) fun j =>
 some (((([45]:List UInt8))++b)))
 (some b))
 (fun (a:(List UInt8)) =>
 (bnd (ZCc x) fun f =>
 bnd (ZKa ([(1:Int)])) fun g =>
 bnd (Z2c f g) fun h =>
 bnd (ifb (decide ((0:Int)<h))
 (bnd (Znb (a++(([47]:List UInt8)))) fun k =>
 bnd (ZYh x.den) fun c =>
 bnd (Znb (((a++(([47]:List UInt8))))++c)) fun l =>
 some ((((a++(([47]:List UInt8))))++c)))
 (some a))
 (fun (i:(List UInt8)) =>
 (some i))))))
end Go.Eng
set_option maxRecDepth 100000
set_option maxHeartbeats 4000000
namespace Go.Eng
open Go.Proofs Go.RowKit
noncomputable def ZNl:FuncId×Con:=(141,⟨[.leaf 4],[.bool],fun p=>Zwc p⟩)
theorem ZBp:KQ ZNl:=Zh (ZA (C:=cf2 [(52,1),(54,4)] []) .no Tryz.func141 [] (fun v vals x z ha hz=>.trans (by kernel_rfl) (ZYB hz)))
end Go.Eng
set_option maxRecDepth 100000
set_option maxHeartbeats 4000000
namespace Go.Eng
open Go.Proofs Go.RowKit
noncomputable def Zoi:FuncId×Con:=(144,⟨[.leaf 4],[.leaf 1],fun p=>ZCc p⟩)
theorem Zml:KQ Zoi:=Zh (ZA (C:=cf2 [(52,1),(54,4)] []) .no Tryz.func144 [] (fun v vals x z ha hz=>.trans (by kernel_rfl) (ZJw hz)))
end Go.Eng
set_option maxRecDepth 100000
set_option maxHeartbeats 4000000
namespace Go.Eng
open Go.Proofs Go.RowKit
noncomputable def Zvr:FuncId×Con:=(178,⟨[.leaf 1],[.str],fun p=>ZYh p⟩)
theorem ZmB:KQ Zvr:=Zh (ZA (C:=cf2 [(52,1),(54,4)] [Z9m]) (.n (.n (.f (.j [] [] [.s 3 (.dat .str)] (.f (.l [] [] [.s 0 (.dat (.leaf 1)),.s 3 (.dat .str)] 0 [] [] [.s 3 (.dat .str)] (.f (.n (.f (.n (.f (.n (.j [4] [] [.s 3 (.dat .str)] (.f (.l [4] [] [.s 3 (.dat .str),.s 5 (.dat (.int .u32)),.s 6 (.dat (.int .i64))] 2 [4] [] [.s 3 (.dat .str)] (.f (.f (.f (.j [3,4,5,6] [] [.s 25 (.dat .bool)] .no))))))))))))))))))) Tryz.func178 [] (fun v vals x z ha hz=>.trans (by kernel_rfl) (Zmz hz)) ⟨ZCv,tr⟩)
theorem ZsB {x:Rat} {z:List UInt8} (h:Znl x=some z):Z0s x=some z:=by
 unfold Znl at h;split at h
 ·rename_i hh;obtain ⟨h1,h2⟩:=hh
  cases h
  unfold Z0s ZYh;have l1:=Zlk (n:=x.num.natAbs) (by omega);have l2:=Zlk (n:=x.den) (by omega);rw [if_pos (Zke h1),Za];have e0:ifb (decide (x.num<0)) (bnd (Zwc x) fun y136=>some (!(y136))) (some false)=some (decide (x.num<0)):=by
   unfold Zwc;by_cases h:x.num<0
   ·have:x≠0:=fun e=>by subst e;simp at h
    rw [decide_eq_true h,Zd,Za,decide_eq_false this];rfl
   ·rw [decide_eq_false h,Ze]
  rw [e0,Za];have e1:ifb (decide (x.num<0)) (bnd (Znb ([45]++ZW x.num.natAbs)) fun y80=>some (([45]:List UInt8)++ZW x.num.natAbs)) (some (ZW x.num.natAbs))=some ((if x.num<0 then [45] else [])++ZW x.num.natAbs):=by
   by_cases h:x.num<0
   ·rw [decide_eq_true h,Zd,ZIe (by simp;omega),Za,if_pos h]
   ·rw [decide_eq_false h,Ze,if_neg h];rfl
  rw [e1,Za];unfold txtQ ZCc Z2c;have l3:((if x.num<0 then [45] else [])++ZW x.num.natAbs:List UInt8).length≤4398046511105:=by
   rw [List.length_append];split <;> simp <;> omega
  generalize ((if x.num<0 then [45] else [])++ZW x.num.natAbs:List UInt8)=s at *;rw [Za,Ztm,Za,Za,Zyv];by_cases hd:x.den=1
  ·rw [hd];simp [ifb,bnd]
  ·have:=x.den_nz;rw [decide_eq_true (by omega),Zd,ZIe (by simp;omega),Za,if_pos (Zke h2),Za,ZIe (by simp;omega),Za,Za,if_neg hd];simp
 ·cases h
end Go.Eng
set_option maxRecDepth 100000
set_option maxHeartbeats 4000000
namespace Go.Eng
open Go.Proofs Go.RowKit
noncomputable def ZEr:FuncId×Con:=(156,⟨[.leaf 4],[.str],fun p=>Znl p⟩)
theorem rtext_k:KQ ZEr:=Zh (ZA (C:=cf2 [(52,1),(54,4)] [ZNl,Zoi,Zli,Zvr]) (.n (.n (.two (.two (.j [1,3] [] [.s 13 (.dat .bool)] .no) (.j [1] [] [.s 3 (.dat .str)] .no)) (.f (.n (.j [] [] [.s 3 (.dat .str)] .no)))))) Tryz.func156 [] (fun v vals x z ha hz=>.trans (by kernel_rfl) (ZsB hz)) ⟨ZBp,Zml,Zdm,ZmB,tr⟩)
end Go.Eng
set_option maxRecDepth 100000
set_option maxHeartbeats 4000000
namespace Go.Eng
open Go.Proofs Go.RowKit
noncomputable def is1_q:FuncId×Con:=(119,⟨[.leaf 3,.leaf 4],[.bool],fun p=>is1_m p.1 p.2⟩)
theorem is1_k:KQ is1_q:=Zh (Zt (C:=cf0 [Zbl,ZEr] [] [] []) .no Tryz.func119 [] (fun _=>by kernel_rfl) ⟨Z4m,rtext_k,tr⟩)
end Go.Eng
set_option maxRecDepth 100000
set_option maxHeartbeats 4000000
namespace Go.Eng
open Go.Proofs Go.RowKit
noncomputable def ZVk:FuncId×Con:=(97,⟨[.pair (.leaf 4) (.pair (.leaf 4) (.pair (.leaf 4) (.leaf 4)))],[.bool],fun p=>Z4f p⟩)
theorem ZYn:KQ ZVk:=Zh (Zt (C:=cf0 [ZNl] [] [] []) (.n (.f (.j [] [] [.s 2 (.dat .bool)] .no))) Tryz.func97 [] (fun _=>by kernel_rfl) ⟨ZBp,tr⟩)
end Go.Eng
set_option maxRecDepth 100000
set_option maxHeartbeats 4000000
namespace Go.Eng
open Go.Proofs Go.RowKit
noncomputable def Zhu:FuncId×Con:=(157,⟨[.pair (.pair (.leaf 4) (.pair (.leaf 4) (.pair (.leaf 4) (.leaf 4)))) (.pair (.leaf 4) (.pair (.leaf 4) (.pair (.leaf 4) (.leaf 4))))],[.bool],fun p=>Zev p⟩)
theorem wZero_k:KQ Zhu:=Zh (Zt (C:=cf0 [ZVk] [] [] []) (.n (.f (.j [] [] [.s 2 (.dat .bool)] .no))) Tryz.func157 [] (fun _=>by kernel_rfl) ⟨ZYn,tr⟩)
theorem rneg_eq {x:Rat} (h:okQ x):Zho x=some (-x):=by
 obtain ⟨h1,h2⟩:=h;unfold Zho ZCc ZEa;rw [Za,if_pos ⟨Zke h1,Zke h2,x.den_nz⟩,Za];congr 1;have e:sgn (!(decide (x.num<0))) x.num.natAbs = -x.num:=by
  unfold sgn;by_cases h:x.num<0
  ·simp [h];omega
  ·simp [h];omega
 rw [e];exact Rat.mkRat_self (-x)
theorem ZFB {x z:Rat} (h:Zce x=some z):Zho x=some z:=by
 unfold Zce at h;split at h
 ·rename_i hh;rw [rneg_eq hh,h]
 ·cases h
end Go.Eng
set_option maxRecDepth 100000
set_option maxHeartbeats 4000000
namespace Go.Eng
open Go.Proofs Go.RowKit
noncomputable def Zur:FuncId×Con:=(104,⟨[.leaf 4],[.leaf 4],fun p=>Zce p⟩)
theorem rneg_k:KQ Zur:=Zh (ZA (C:=cf2 [(52,1),(54,4)] [ZJd,Zoi]) .no Tryz.func104 [] (fun v vals x z ha hz=>.trans (by kernel_rfl) (ZFB hz)) ⟨Zle,Zml,tr⟩)
end Go.Eng
set_option maxRecDepth 100000
set_option maxHeartbeats 4000000
namespace Go.Eng
open Go.Proofs Go.RowKit
noncomputable def Z0n:FuncId×Con:=(56,⟨[.pair (.leaf 4) (.pair (.leaf 4) (.pair (.leaf 4) (.leaf 4)))],[.pair (.leaf 4) (.pair (.leaf 4) (.pair (.leaf 4) (.leaf 4)))],fun p=>ZTi p⟩)
theorem ZIv:KQ Z0n:=Zh (Zt (C:=cf0 [Zur] [] [] []) .no Tryz.func56 [] (fun _=>by kernel_rfl) ⟨rneg_k,tr⟩)
end Go.Eng
set_option maxRecDepth 100000
set_option maxHeartbeats 4000000
namespace Go.Eng
open Go.Proofs Go.RowKit
noncomputable def ZQl:FuncId×Con:=(137,⟨[.leaf 1,.leaf 1],[.leaf 1],fun p=>ZKe p.1 p.2⟩)
theorem ZSo:KQ ZQl:=Zh (ZA (C:=cf2 [(52,1),(54,4)] [ZNe]) (.n (.n (.n (.f (.n (.j [] [] [.s 5 (.own 161 (.int .u32)),.s 6 (.dat (.int .u64))] (.f (.l [0,1] [] [.s 5 (.own 161 (.int .u32)),.s 6 (.dat (.int .u64)),.s 7 (.dat (.int .i64))] 0 [] [] [.s 5 (.own 161 (.int .u32)),.s 6 (.dat (.int .u64))] (.f (.two (.f (.j [0,1,5,6,7] [] [.s 18 (.dat .bool)] .no)) (.f (.f (.two (.n (.j [0,1,5,7] [] [.s 6 (.dat (.int .u64))] .no)) (.f (.n (.j [0,1,5,7] [] [.s 6 (.dat (.int .u64))] .no)))))))))))))))) Tryz.func137 [] (fun v vals x z ha hz=>.trans (by kernel_rfl) (ZNy hz)) ⟨Zbf,tr⟩)
theorem radd_eq {x y:Rat} (h:smQ x) (h':smQ y):Zun x y=some (x+y):=by
 obtain ⟨a1,a2⟩:=h;obtain ⟨b1,b2⟩:=h';unfold Zun ZCc;have p1:=Zhb x.num.natAbs y.den;have p2:=Zhb y.num.natAbs x.den;have p3:=Zhb x.den y.den;have p4:=ZNm (x.num.natAbs*y.den) (y.num.natAbs*x.den);have hd:x.den*y.den≠0:=Nat.mul_ne_zero x.den_nz y.den_nz;have e1:Zza x.num.natAbs y.den=some (x.num.natAbs*y.den):=by unfold Zza;rw [if_pos ⟨Zfc (by omega),Zfc (by omega)⟩]
 have e2:Zza y.num.natAbs x.den=some (y.num.natAbs*x.den):=by unfold Zza;rw [if_pos ⟨Zfc (by omega),Zfc (by omega)⟩]
 have e3:Zza x.den y.den=some (x.den*y.den):=by unfold Zza;rw [if_pos ⟨Zfc (by omega),Zfc (by omega)⟩]
 have eN:((x.num.natAbs*y.den:Nat):Int)=(x.num.natAbs:Int)*y.den:=by simp
 have eM:((y.num.natAbs*x.den:Nat):Int)=(y.num.natAbs:Int)*x.den:=by simp
 have key:∀ (s:Bool) (n:Nat),bl n≤1099511627776→sgn s n=x.num*y.den+y.num*x.den→ZEa s n (x.den*y.den)=some (x+y):=by
  intro s n hn he;unfold ZEa;rw [if_pos ⟨Zke hn,Zke (by omega),hd⟩,he,← Rat.add_def']
 rw [Za,Za,e1,Za,e2,Za,e3];obtain ⟨N,hN⟩:∃ N,N=x.num.natAbs*y.den:=⟨_,rfl⟩;obtain ⟨M,hM⟩:∃ M,M=y.num.natAbs*x.den:=⟨_,rfl⟩;rw [← hN] at p1 p4 eN ⊢;rw [← hM] at p2 p4 eM ⊢;have sx:x.num*(y.den:Int)=if x.num<0 then -(N:Int) else N:=by
  split
  ·rw [eN,← Int.neg_mul];congr 1;omega
  ·rw [eN];congr 1;omega
 have sy:y.num*(x.den:Int)=if y.num<0 then -(M:Int) else M:=by
  split
  ·rw [eM,← Int.neg_mul];congr 1;omega
  ·rw [eM];congr 1;omega
 by_cases hs:(x.num<0)↔(y.num<0)
 ·have e4:ZKe N M=some (N+M):=by unfold ZKe;rw [if_pos ⟨Zfc (by omega),Zfc (by omega)⟩]
  have e5:((decide (x.num<0))==(decide (y.num<0)))=true:=by
   by_cases h:x.num<0
   ·simp [h,hs.1 h]
   ·have h2:¬ y.num<0:=fun k=>h (hs.2 k);simp [h,h2]
  rw [e5,Zd,e4,Za,Za,key _ _ (by omega) ?_,Za];rw [sx,sy];unfold sgn;by_cases h:x.num<0
  ·have h2:=hs.1 h;simp [h,h2];omega
  ·have h2:¬ y.num<0:=fun k=>h (hs.2 k);simp [h,h2]
 ·have e5:((decide (x.num<0))==(decide (y.num<0)))=false:=by
   apply beq_false_of_ne;intro h;exact hs (by by_cases k:x.num<0 <;> by_cases k2:y.num<0 <;> simp_all)
  rw [e5,Ze];unfold Z2c;rw [Za];by_cases hle:M≤N
  ·have e6:decide ((0:Int)≤Zha N M)=true:=by
    unfold Zha;rw [if_neg (by omega)];split <;> rfl
   have e4:ZTb N M=some (N-M):=by unfold ZTb;rw [if_pos ⟨Zfc (by omega),hle⟩]
   have hb:bl (N-M)≤bl N:=ZTe (by omega);rw [e6,Zd,e4,Za,Za,key _ _ (by omega) ?_,Za];rw [sx,sy];unfold sgn;by_cases h:x.num<0
   ·have h2:¬ y.num<0:=fun k=>hs ⟨fun _=>k,fun _=>h⟩;simp [h,h2];omega
   ·have h2:y.num<0:=by
     rcases Int.lt_or_le y.num 0 with k | k
     ·exact k
     ·exact absurd ⟨fun q=>absurd q h,fun q=>absurd q (by omega)⟩ hs
    simp [h,h2];omega
  ·have e6:decide ((0:Int)≤Zha N M)=false:=by
    unfold Zha;rw [if_pos (by omega)];rfl
   have e4:ZTb M N=some (M-N):=by unfold ZTb;rw [if_pos ⟨Zfc (by omega),by omega⟩]
   have hb:bl (M-N)≤bl M:=ZTe (by omega);rw [e6,Ze,e4,Za,Za,key _ _ (by omega) ?_,Za];rw [sx,sy];unfold sgn;by_cases h:x.num<0
   ·have h2:¬ y.num<0:=fun k=>hs ⟨fun _=>k,fun _=>h⟩;simp [h,h2];omega
   ·have h2:y.num<0:=by
     rcases Int.lt_or_le y.num 0 with k | k
     ·exact k
     ·exact absurd ⟨fun q=>absurd q h,fun q=>absurd q (by omega)⟩ hs
    simp [h,h2];omega
theorem Zez {x y z:Rat} (h:Z2 x y=some z):Zun x y=some z:=by
 unfold Z2 at h;split at h
 ·rename_i hh;rw [radd_eq hh.1 hh.2,h]
 ·cases h
end Go.Eng
set_option maxRecDepth 100000
set_option maxHeartbeats 4000000
namespace Go.Eng
open Go.Proofs Go.RowKit
noncomputable def Z7l:FuncId×Con:=(103,⟨[.leaf 4,.leaf 4],[.leaf 4],fun p=>Z2 p.1 p.2⟩)
theorem Zsp:KQ Z7l:=Zh (ZA (C:=cf2 [(52,1),(54,4)] [ZJd,ZQl,ZZi,Zoi,Zli,ZQn]) .no Tryz.func103 [] (fun v vals x z ha hz=>.trans (by kernel_rfl) (Zez hz)) ⟨Zle,ZSo,ZRj,Zml,Zdm,Zpv,tr⟩)
end Go.Eng
set_option maxRecDepth 100000
set_option maxHeartbeats 4000000
namespace Go.Eng
open Go.Proofs Go.RowKit
noncomputable def Zik:FuncId×Con:=(57,⟨[.pair (.leaf 4) (.pair (.leaf 4) (.pair (.leaf 4) (.leaf 4))),.pair (.leaf 4) (.pair (.leaf 4) (.pair (.leaf 4) (.leaf 4)))],[.pair (.leaf 4) (.pair (.leaf 4) (.pair (.leaf 4) (.leaf 4)))],fun p=>Z1h p.1 p.2⟩)
theorem ZJm:KQ Zik:=Zh (Zt (C:=cf0 [Z7l] [] [] []) .no Tryz.func57 [] (fun _=>by kernel_rfl) ⟨Zsp,tr⟩)
end Go.Eng
set_option maxRecDepth 100000
set_option maxHeartbeats 4000000
namespace Go.Eng
open Go.Proofs Go.RowKit
noncomputable def Z8h:FuncId×Con:=(52,⟨[.pair (.leaf 4) (.pair (.leaf 4) (.pair (.leaf 4) (.leaf 4))),.pair (.leaf 4) (.pair (.leaf 4) (.pair (.leaf 4) (.leaf 4)))],[.pair (.leaf 4) (.pair (.leaf 4) (.pair (.leaf 4) (.leaf 4)))],fun p=>Zee p.1 p.2⟩)
theorem Zci:KQ Z8h:=Zh (Zt (C:=cf0 [Z0n,Zik] [] [] []) .no Tryz.func52 [] (fun _=>by kernel_rfl) ⟨ZIv,ZJm,tr⟩)
end Go.Eng
set_option maxRecDepth 100000
set_option maxHeartbeats 4000000
namespace Go.Eng
open Go.Proofs Go.RowKit
noncomputable def Zos:FuncId×Con:=(158,⟨[.pair (.pair (.leaf 4) (.pair (.leaf 4) (.pair (.leaf 4) (.leaf 4)))) (.pair (.leaf 4) (.pair (.leaf 4) (.pair (.leaf 4) (.leaf 4)))),.pair (.pair (.leaf 4) (.pair (.leaf 4) (.pair (.leaf 4) (.leaf 4)))) (.pair (.leaf 4) (.pair (.leaf 4) (.pair (.leaf 4) (.leaf 4))))],[.pair (.pair (.leaf 4) (.pair (.leaf 4) (.pair (.leaf 4) (.leaf 4)))) (.pair (.leaf 4) (.pair (.leaf 4) (.pair (.leaf 4) (.leaf 4))))],fun p=>ZMu p.1 p.2⟩)
theorem wSub_k:KQ Zos:=Zh (Zt (C:=cf0 [Z8h] [] [] []) .no Tryz.func158 [] (fun _=>by kernel_rfl) ⟨Zci,tr⟩)
end Go.Eng
set_option maxRecDepth 100000
set_option maxHeartbeats 4000000
namespace Go.Eng
open Go.Proofs Go.RowKit
noncomputable def ZCs:FuncId×Con:=(120,⟨[.pair (.pair (.leaf 4) (.pair (.leaf 4) (.pair (.leaf 4) (.leaf 4)))) (.pair (.leaf 4) (.pair (.leaf 4) (.pair (.leaf 4) (.leaf 4)))),.pair (.pair (.leaf 4) (.pair (.leaf 4) (.pair (.leaf 4) (.leaf 4)))) (.pair (.leaf 4) (.pair (.leaf 4) (.pair (.leaf 4) (.leaf 4))))],[.bool],fun p=>Zot p.1 p.2⟩)
theorem wSame_k:KQ ZCs:=Zh (Zt (C:=cf0 [Zhu,Zos] [] [] []) .no Tryz.func120 [] (fun _=>by kernel_rfl) ⟨wZero_k,wSub_k,tr⟩)
end Go.Eng
set_option maxRecDepth 100000
set_option maxHeartbeats 4000000
namespace Go.Eng
open Go.Proofs Go.RowKit
noncomputable def is2_q:FuncId×Con:=(74,⟨[.slice (.leaf 3),.slice (.pair (.pair (.leaf 4) (.pair (.leaf 4) (.pair (.leaf 4) (.leaf 4)))) (.pair (.leaf 4) (.pair (.leaf 4) (.pair (.leaf 4) (.leaf 4)))))],[.bool],fun p=>is2_m p.1 p.2⟩)
theorem is2_k:KQ is2_q:=Zh (Zt (C:=cf0 [ZEo,is1_q,ZCs] [] [] []) (.n (.n (.f (.n (.f (.cut ⟨⟨[0,1,12],[],[.s 13 (.dat (.int .i64))]⟩,[(.exit 0,⟨[],[],[]⟩),(.ret,⟨[],[],[.s 1000 (.dat .bool)]⟩)]⟩ (.f (.n (.n (.f (.f (.n (.f (.j [0,1,12,13] [] [.s 42 (.dat .bool)] .no)))))))))))))) Tryz.func74 [] (fun _=>by kernel_rfl) ⟨Zmu,is1_k,wSame_k,tr⟩)
end Go.Eng
set_option maxRecDepth 100000
set_option maxHeartbeats 4000000
namespace Go.Eng
open Go.Proofs Go.RowKit
noncomputable def Z8u:FuncId×Con:=(26,⟨[.slice (.slice (.leaf 3)),.slice (.slice (.pair (.pair (.leaf 4) (.pair (.leaf 4) (.pair (.leaf 4) (.leaf 4)))) (.pair (.leaf 4) (.pair (.leaf 4) (.pair (.leaf 4) (.leaf 4))))))],[.bool],fun p=>Zkn p.1 p.2⟩)
theorem ZXw:KQ Z8u:=Zh (Zt (C:=cf0 [is2_q] [] [] []) (.n (.n (.f (.n (.f (.cut ⟨⟨[0,1,12],[],[.s 13 (.dat (.int .i64))]⟩,[(.exit 0,⟨[],[],[]⟩),(.ret,⟨[],[],[.s 1000 (.dat .bool)]⟩)]⟩ .no)))))) Tryz.func26 [] (fun _=>by kernel_rfl) ⟨is2_k,tr⟩)
end Go.Eng
set_option maxRecDepth 100000
set_option maxHeartbeats 4000000
namespace Go.Eng
open Go.Proofs Go.RowKit
noncomputable def Zri:FuncId×Con:=(41,⟨[.slice (.leaf 3)],[.bool],fun p=>ZUc p⟩)
theorem ZRl : KQ Zri := Zh (Zt (C := cf0 [Zde] [] [] [((39, "Sign"), 13)]) .no Tryz.func41 [(83, Tryz.f83, .no), (91, Tryz.f91, .no), (127, Tryz.f127, .r [] [] [.s 1000 (.dat (.int .i64))] (.n (.f (.n (.f (.cut ⟨⟨[0, 1, 7], [], [.s 8 (.dat (.int .i64))]⟩, [(.exit 0, ⟨[], [], []⟩), (.ret, ⟨[], [], [.s 1000 (.dat (.int .i64))]⟩)]⟩ .no))))))] (fun _ => by kernel_rfl) ⟨Zqe, tr⟩ tr ⟨Zbg, tr⟩ ⟨⟨Tryz.func83, fun _ _ => by kernel_rfl⟩, ⟨Tryz.func91, fun _ _ => by kernel_rfl⟩, ⟨Tryz.func127, fun _ _ => by kernel_rfl⟩, tr⟩)
end Go.Eng
set_option maxRecDepth 100000
set_option maxHeartbeats 4000000
namespace Go.Eng
open Go.Proofs Go.RowKit
noncomputable def Zbi:FuncId×Con:=(44,⟨[.slice (.leaf 3),.slice (.leaf 3)],[.leaf 3],fun p=>Zbc p.1 p.2⟩)
theorem ZPk : KQ Zbi := Zh (Zt (C := cf0 [Zzd, ZRf, ZXf] [] [] [((39, "Add"), 115), ((39, "Mul"), 204)]) (.n (.n (.f (.n (.f (.l [0, 1, 4, 5, 9] [] [.s 10 (.dat (.int .i64)), .l (.sl 5) (.box 39 (.dat (.leaf 3)))] 0 [4, 5] [] [.l (.sl 5) (.box 39 (.dat (.leaf 3)))] .no)))))) Tryz.func44 [] (fun _ => by kernel_rfl) ⟨ZSd, Z6g, Zrh, tr⟩ tr ⟨ZMi, ZPg, tr⟩)
end Go.Eng
set_option maxRecDepth 100000
set_option maxHeartbeats 4000000
namespace Go.Eng
open Go.Proofs Go.RowKit
noncomputable def ZBk:FuncId×Con:=(61,⟨[.slice (.slice (.leaf 3)),.slice (.leaf 3)],[.slice (.leaf 3)],fun p=>Zzh p.1 p.2⟩)
theorem ZUn:KQ ZBk:=Zh (Zt (C:=cf0 [Zbi] [] [] []) (.n (.n (.f (.n (.f (.l [1,8,9] [] [.s 5 (.own 39 (.leaf 3)),.s 10 (.dat (.int .i64))] 0 [] [] [.s 5 (.own 39 (.leaf 3))] .no)))))) Tryz.func61 [] (fun _=>by kernel_rfl) ⟨ZPk,tr⟩)
end Go.Eng
set_option maxRecDepth 100000
set_option maxHeartbeats 4000000
namespace Go.Eng
open Go.Proofs Go.RowKit
noncomputable def Zfi:FuncId×Con:=(79,⟨[.slice (.leaf 3),.slice (.leaf 3)],[.bool],fun p=>Zof p.1 p.2⟩)
theorem ZPj : KQ Zfi := Zh (Zt (C := cf0 [ZRg] [] [] [((39, "Cmp"), 20)]) (.n (.f (.n (.f (.cut ⟨⟨[0, 1, 7], [], [.s 8 (.dat (.int .i64))]⟩, [(.exit 0, ⟨[], [], []⟩), (.ret, ⟨[], [], [.s 1000 (.dat .bool)]⟩)]⟩ .no))))) Tryz.func79 [] (fun _ => by kernel_rfl) ⟨Zcj, tr⟩ tr ⟨Zmk, tr⟩)
end Go.Eng
set_option maxRecDepth 100000
set_option maxHeartbeats 4000000
namespace Go.Eng
open Go.Proofs Go.RowKit
noncomputable def ZSq:FuncId×Con:=(76,⟨[.pair (.slice (.slice (.leaf 3))) (.pair (.slice (.leaf 3)) (.slice (.leaf 3))),.slice (.leaf 3)],[.bool],fun p=>ZTp p.1 p.2⟩)
theorem ZPw:KQ ZSq:=Zh (Zt (C:=cf0 [Zri,ZBk,Zfi] [] [] []) (.n (.f (.j [] [] [.s 4 (.dat .bool)] .no))) Tryz.func76 [] (fun _=>by kernel_rfl) ⟨ZRl,ZUn,ZPj,tr⟩)
end Go.Eng
set_option maxRecDepth 100000
set_option maxHeartbeats 4000000
namespace Go.Eng
open Go.Proofs Go.RowKit
noncomputable def Z1l:FuncId×Con:=(78,⟨[.pair (.slice (.slice (.leaf 3))) (.pair (.slice (.leaf 3)) (.slice (.leaf 3))),.slice (.leaf 3)],[.slice (.leaf 3)],fun p=>ZKh p.1 p.2⟩)
theorem Zcn : KQ Z1l := Zh (Zt (C := cf0 [ZRf, ZXf] [] [Z3f] [((39, "Add"), 115), ((39, "Mul"), 204)]) (.n (.n (.f (.n (.f (.l [1, 5, 15, 16] [] [.s 17 (.dat (.int .i64)), .l (.sl 5) (.own 39 (.leaf 3))] 0 [5] [] [.l (.sl 5) (.own 39 (.leaf 3))] (.f (.n (.n (.f (.f (.n (.n (.f (.l [1, 5, 6, 15, 16, 17, 22, 23] [] [.s 24 (.dat (.int .i64)), .l (.sl 5) (.own 39 (.leaf 3))] 2 [1, 5, 15, 16, 17] [] [.l (.sl 5) (.own 39 (.leaf 3))] .no))))))))))))))) Tryz.func78 [] (fun _ => by kernel_rfl) ⟨Z6g, Zrh, tr⟩ ⟨ZJh, tr⟩ ⟨ZMi, ZPg, tr⟩)
end Go.Eng
set_option maxRecDepth 100000
set_option maxHeartbeats 4000000
namespace Go.Eng
open Go.Proofs Go.RowKit
noncomputable def ZRp:FuncId×Con:=(77,⟨[.pair (.slice (.slice (.leaf 3))) (.pair (.slice (.leaf 3)) (.slice (.leaf 3))),.slice (.leaf 3)],[.bool],fun p=>Z4q p.1 p.2⟩)
theorem pdual_k:KQ ZRp:=Zh (Zt (C:=cf0 [Zri,Z1l,Zfi] [] [] []) (.n (.f (.j [] [] [.s 4 (.dat .bool)] .no))) Tryz.func77 [] (fun _=>by kernel_rfl) ⟨ZRl,Zcn,ZPj,tr⟩)
end Go.Eng
set_option maxRecDepth 100000
set_option maxHeartbeats 4000000
namespace Go.Eng
open Go.Proofs Go.RowKit
noncomputable def ZOn:FuncId×Con:=(207,⟨[.leaf 3,.leaf 3],[.bool],fun p=>ZOf p.1 p.2⟩)
theorem ZEs:KQ ZOn:=Zh (ZA (C:=cf0 [Ztl] [] [] []) (.n (.f (.j [] [] [.s 4 (.dat .bool)] .no))) Tryz.func207 [] (fun v vals x z ha hz=>.trans (by kernel_rfl) (Zbx hz)) ⟨cmp_k,tr⟩)
end Go.Eng
set_option maxRecDepth 100000
set_option maxHeartbeats 4000000
namespace Go.Eng
open Go.Proofs Go.RowKit
noncomputable def ZJq:FuncId×Con:=(28,⟨[.pair (.slice (.slice (.leaf 3))) (.pair (.slice (.leaf 3)) (.slice (.leaf 3))),.pair (.int .i64) (.pair (.leaf 3) (.pair (.slice (.leaf 3)) (.pair (.slice (.leaf 3)) (.slice (.leaf 3)))))],[.bool],fun p=>Z8s p.1 p.2⟩)
theorem Zwy : KQ ZJq := Zh (Zt (C := cf0 [Zde, Zri, Zbi, ZBk, ZCh, ZGm, ZSq, ZRp, Z1l, Zfi, ZOn] [] [Z3f] [((39, "Same"), 207), ((39, "Sign"), 13), ((39, "Zero"), 62)]) (.n (.n (.two (.j [2, 3] [] [.s 5 (.dat .bool)] .no) (.f (.n (.f (.n (.two (.f (.j [] [] [.s 4 (.dat .bool)] .no)) (.n (.two (.f (.j [] [] [.s 4 (.dat .bool)] .no)) (.n (.f (.two (.f (.j [2, 3] [] [.s 135 (.dat .bool)] .no)) (.f (.j [] [] [.s 4 (.dat .bool)] .no))))))))))))))) Tryz.func28 [] (fun _ => by kernel_rfl) ⟨Zqe, ZRl, ZPk, ZUn, Ztj, ZNt, ZPw, pdual_k, Zcn, ZPj, ZEs, tr⟩ ⟨ZJh, tr⟩ ⟨Ztq, Zbg, ZDl, tr⟩)
end Go.Eng
set_option maxRecDepth 100000
set_option maxHeartbeats 4000000
namespace Go.Eng
open Go.Proofs Go.RowKit
noncomputable def ZMr:FuncId×Con:=(5,⟨[],[.bool],fun _=>Zue⟩)
theorem Znx:KQ ZMr:=Zh (Zt (C:=cf0 [Z2j,ZXr,Z1p,ZNr,ZYv,Z8u,Zbl,ZJq] [] [] []) (.n (.n (.n (.n (.n (.n (.n (.n (.f (.j [] [] [.s 0 (.dat .bool)] .no)))))))))) Tryz.func5 [] (fun _=>by kernel_rfl) ⟨Z3o,Z5w,Zey,Z2B,Z5v,ZXw,Z4m,Zwy,tr⟩)
end Go.Eng
set_option maxRecDepth 100000
set_option maxHeartbeats 4000000
namespace Go.Eng
open Go.Proofs Go.RowKit
noncomputable def Zfp:FuncId×Con:=(32,⟨[.slice (.slice (.leaf 3)),.slice (.leaf 3),.slice (.leaf 3)],[.bool],fun p=>ZLf p.1 p.2.1 p.2.2⟩)
theorem ZQs:KQ Zfp:=Zh (Zt (C:=cf0 [Zsf,Zyj] [] [] []) (.n (.f (.j [] [] [.s 6 (.dat .bool)] .no))) Tryz.func32 [] (fun _=>by kernel_rfl) ⟨ZWf,ZLl,tr⟩)
end Go.Eng
set_option maxRecDepth 100000
set_option maxHeartbeats 4000000
namespace Go.Eng
open Go.Proofs Go.RowKit
noncomputable def ZCm:FuncId×Con:=(33,⟨[.slice (.leaf 3)],[.bool],fun p=>Zyh p⟩)
theorem ZIu : KQ ZCm := Zh (Zt (C := cf0 [Zde] [] [] [((39, "Sign"), 13)]) .no Tryz.func33 [(83, Tryz.f83, .no), (84, Tryz.f84, .no), (127, Tryz.f127, .r [] [] [.s 1000 (.dat (.int .i64))] (.n (.f (.n (.f (.cut ⟨⟨[0, 1, 7], [], [.s 8 (.dat (.int .i64))]⟩, [(.exit 0, ⟨[], [], []⟩), (.ret, ⟨[], [], [.s 1000 (.dat (.int .i64))]⟩)]⟩ .no))))))] (fun _ => by kernel_rfl) ⟨Zqe, tr⟩ tr ⟨Zbg, tr⟩ ⟨⟨Tryz.func83, fun _ _ => by kernel_rfl⟩, ⟨Tryz.func84, fun _ _ => by kernel_rfl⟩, ⟨Tryz.func127, fun _ _ => by kernel_rfl⟩, tr⟩)
end Go.Eng
set_option maxRecDepth 100000
set_option maxHeartbeats 4000000
namespace Go.Eng
open Go.Proofs Go.RowKit
noncomputable def Z7q:FuncId×ConO:=(36,⟨[.slice (.leaf 3)],39,.leaf 3,fun p=>Zhj p⟩)
theorem ZIx : KO Z7q := Zst (C := cf0 [Zfd] [] [] [((39, "Neg"), 19)]) (.n (.n (.f (.n (.f (.l [6, 7] [] [.s 3 (.own 39 (.leaf 3)), .s 8 (.dat (.int .i64))] 0 [] [] [.s 3 (.own 39 (.leaf 3))] .no)))))) Tryz.func36 [] (fun _ => by kernel_rfl) ⟨Z1d, tr⟩ tr ⟨Zcf, tr⟩
end Go.Eng
set_option maxRecDepth 100000
set_option maxHeartbeats 4000000
namespace Go.Eng
open Go.Proofs Go.RowKit
noncomputable def Zxt:FuncId×Con:=(8,⟨[.slice (.slice (.leaf 3)),.slice (.leaf 3),.slice (.leaf 3)],[.pair (.leaf 3) (.pair (.slice (.leaf 3)) (.pair (.slice (.leaf 3)) (.slice (.leaf 3)))),.int .i64],fun p=>ZEf p.1 p.2.1 p.2.2⟩)
theorem ZzB : KQ Zxt := Zh (Zt (C := cf0 [Zfd, Zfp, ZCm, Zsf, Zzd, ZAn] [] [Zig, Z7q, Z3f] [((39, "Neg"), 19)]) (.n (.n (.n (.n (.n (.two (.n (.f (.l [0, 2, 6, 8, 9, 10, 40, 41] [.fld (.sl 10) 1, .fld (.sl 10) 2] [.s 42 (.dat (.int .i64)), .l (.sl 10) (.box 76 (.agg (.cons (.own 30 (.slice (.leaf 3))) (.cons (.own 39 (.leaf 3)) (.one (.own 39 (.leaf 3)))))))] 0 [0, 2, 6, 8, 9, 10] [.fld (.sl 10) 1, .fld (.sl 10) 2] [.l (.sl 10) (.box 76 (.agg (.cons (.own 30 (.slice (.leaf 3))) (.cons (.own 39 (.leaf 3)) (.one (.own 39 (.leaf 3)))))))] .no))) (.f (.n (.f (.l [2, 6, 8, 9, 10, 63, 64] [.fld (.sl 10) 0, .fld (.sl 10) 1, .fld (.sl 10) 2] [.s 65 (.dat (.int .i64)), .l (.sl 10) (.box 76 (.agg (.cons (.own 30 (.slice (.leaf 3))) (.cons (.own 39 (.leaf 3)) (.one (.own 39 (.leaf 3)))))))] 2 [6, 8, 9, 10] [.fld (.sl 10) 0, .fld (.sl 10) 1, .fld (.sl 10) 2] [.l (.sl 10) (.box 76 (.agg (.cons (.own 30 (.slice (.leaf 3))) (.cons (.own 39 (.leaf 3)) (.one (.own 39 (.leaf 3)))))))] .no)))))))))) Tryz.func8 [] (fun _ => by kernel_rfl) ⟨Z1d, ZQs, ZIu, ZWf, ZSd, Zqt, tr⟩ ⟨ZEj, ZIx, ZJh, tr⟩ ⟨Zcf, tr⟩)
end Go.Eng
set_option maxRecDepth 100000
set_option maxHeartbeats 4000000
namespace Go.Eng
open Go.Proofs Go.RowKit
noncomputable def Z3m:FuncId×Con:=(9,⟨[.slice (.slice (.pair (.leaf 4) (.pair (.leaf 4) (.pair (.leaf 4) (.leaf 4))))),.slice (.pair (.leaf 4) (.pair (.leaf 4) (.pair (.leaf 4) (.leaf 4)))),.slice (.pair (.leaf 4) (.pair (.leaf 4) (.pair (.leaf 4) (.leaf 4))))],[.bool],fun p=>Zog p.1 p.2.1 p.2.2⟩)
theorem ZFv:KQ Z3m:=Zh (Zt (C:=cf0 [] [] [] []) (.n (.two (.f (.j [0] [] [.s 29 (.dat .bool)] .no)) (.f (.n (.f (.cut ⟨⟨[0],[],[.s 7 (.dat (.int .i64))]⟩,[(.exit 0,⟨[],[],[]⟩),(.ret,⟨[],[],[.s 1000 (.dat .bool)]⟩)]⟩ (.f (.n (.f (.f (.f (.j [0,7] [] [.s 61 (.dat .bool)] .no)))))))))))) Tryz.func9 [] (fun _=>by kernel_rfl))
end Go.Eng
set_option maxRecDepth 100000
set_option maxHeartbeats 4000000
namespace Go.Eng
open Go.Proofs Go.RowKit
noncomputable def Z7r:FuncId×Con:=(42,⟨[.slice (.slice (.leaf 3)),.slice (.leaf 3),.slice (.leaf 3)],[.slice (.leaf 3)],fun p=>ZQj p.1 p.2.1 p.2.2⟩)
theorem ZTz : KQ Z7r := Zh (Zt (C := cf0 [Zsf, Zdf, Z1l] [] [Z3f] [((39, "Sub"), 69)]) (.n (.n (.f (.n (.f (.l [0, 1, 2, 10] [] [.s 7 (.own 39 (.leaf 3)), .s 11 (.dat (.int .i64))] 0 [0] [] [.s 7 (.own 39 (.leaf 3))] .no)))))) Tryz.func42 [] (fun _ => by kernel_rfl) ⟨ZWf, ZYf, Zcn, tr⟩ ⟨ZJh, tr⟩ ⟨ZGh, tr⟩)
end Go.Eng
set_option maxRecDepth 100000
set_option maxHeartbeats 4000000
namespace Go.Eng
open Go.Proofs Go.RowKit
noncomputable def Zws:FuncId×Con:=(43,⟨[.slice (.leaf 3),.leaf 3],[.slice (.leaf 3)],fun p=>ZKk p.1 p.2⟩)
theorem ZFz : KQ Zws := Zh (Zt (C := cf0 [ZXf] [] [] [((39, "Mul"), 204)]) (.n (.n (.f (.n (.f (.l [3, 8, 9] [] [.s 5 (.own 39 (.leaf 3)), .s 10 (.dat (.int .i64))] 0 [] [] [.s 5 (.own 39 (.leaf 3))] .no)))))) Tryz.func43 [] (fun _ => by kernel_rfl) ⟨Zrh, tr⟩ tr ⟨ZPg, tr⟩)
end Go.Eng
set_option maxRecDepth 100000
set_option maxHeartbeats 4000000
namespace Go.Eng
open Go.Proofs Go.RowKit
noncomputable def ZPr:FuncId×Con:=(45,⟨[.slice (.slice (.leaf 3)),.slice (.leaf 3),.slice (.leaf 3),.slice (.leaf 3)],[.bool],fun p=>ZVl p.1 p.2.1 p.2.2.1 p.2.2.2⟩)
theorem Zow:KQ ZPr:=Zh (Zt (C:=cf0 [ZBk,Zfi] [] [] []) (.n (.n (.f (.j [] [] [.s 8 (.dat .bool)] .no)))) Tryz.func45 [] (fun _=>by kernel_rfl) ⟨ZUn,ZPj,tr⟩)
end Go.Eng
set_option maxRecDepth 100000
set_option maxHeartbeats 4000000
namespace Go.Eng
open Go.Proofs Go.RowKit
noncomputable def ZHt:FuncId×Con:=(12,⟨[.slice (.slice (.leaf 3)),.slice (.leaf 3),.slice (.leaf 3),.pair (.leaf 3) (.pair (.slice (.leaf 3)) (.pair (.slice (.leaf 3)) (.slice (.leaf 3))))],[.bool],fun p=>ZLe p.1 p.2.1 p.2.2.1 p.2.2.2⟩)
theorem Z1x : KQ ZHt := Zh (Zt (C := cf0 [Zde, ZRg, Zfp, ZCm, Zsf, Zzd, Zri, Z7r, Zws, Zbi, ZPr, Zdf, ZRf, ZOn] [] [Zig] [((39, "Add"), 115), ((39, "Cmp"), 20), ((39, "Same"), 207), ((39, "Sign"), 13), ((39, "Sub"), 69)]) (.n (.two (.f (.j [0, 1, 2, 7] [] [.s 43 (.dat .bool)] .no)) (.two (.f (.j [0, 1, 2, 7] [] [.s 79 (.dat .bool)] .no)) (.n (.n (.two (.n (.f (.l [0, 1, 2, 7, 9, 10, 11, 89] [] [.s 90 (.dat (.int .i64)), .l (.sl 10) (.own 39 (.leaf 3)), .l (.sl 11) (.own 39 (.leaf 3))] 0 [0, 1, 2, 7, 10, 11] [] [.l (.sl 10) (.own 39 (.leaf 3)), .l (.sl 11) (.own 39 (.leaf 3))] .no))) (.n (.f (.j [] [] [.s 8 (.dat .bool)] .no))))))))) Tryz.func12 [] (fun _ => by kernel_rfl) ⟨Zqe, Zcj, ZQs, ZIu, ZWf, ZSd, ZRl, ZTz, ZFz, ZPk, Zow, ZYf, Z6g, ZEs, tr⟩ ⟨ZEj, tr⟩ ⟨ZMi, Zmk, Ztq, Zbg, ZGh, tr⟩)
end Go.Eng
set_option maxRecDepth 100000
set_option maxHeartbeats 4000000
namespace Go.Eng
open Go.Proofs Go.RowKit
noncomputable def Z3p:FuncId×Con:=(92,⟨[.str,.str],[.str,.bool],fun p=>Zfh p.1 p.2⟩)
theorem Z1z:KQ Z3p:=Zh (Zt (C:=cf0 [] [] [] []) .no Tryz.func92 [(135,Tryz.f135,.r [] [] [.s 1000 (.dat .str),.s 1001 (.dat .bool)] .no),(166,Tryz.f166,.n (.f (.j [] [] [.s 4 (.dat .bool)] .no)))] (fun _=>by kernel_rfl) tr tr tr ⟨⟨Tryz.func135,fun _ _=>by kernel_rfl⟩,⟨Tryz.func166,fun _ _=>by kernel_rfl⟩,tr⟩)
end Go.Eng
set_option maxRecDepth 100000
set_option maxHeartbeats 4000000
namespace Go.Eng
open Go.Proofs Go.RowKit
noncomputable def Z6n:FuncId×Con:=(187,⟨[.str,.int .u8],[.int .i64],fun p=>ZHk p.1 p.2⟩)
theorem idxb_k:ZId Tryz.prog Z6n.1 Z6n.2:=fun w v vals x z _ ha hz=>by
 obtain ⟨c0,w0,e0,p0,c1,e1,p1⟩:=ha
 subst e0 e1
 obtain ⟨rfl,h0⟩:=p0
 obtain ⟨rfl,h1⟩:=p1
 obtain ⟨h2,h3⟩:=Zjy hz
 subst h2
 exact .inr ⟨_,fun w=>idxb_v (show Z7d Tryz.prog 187 Extern.BytealgIndexByte.indexByte from ⟨_,Tryz.func187,by kernel_rfl,by kernel_rfl,by kernel_rfl,by kernel_rfl⟩) _ _ w,_,rfl,⟨rfl,idxb_in h0⟩⟩
end Go.Eng
set_option maxRecDepth 100000
set_option maxHeartbeats 4000000
namespace Go.Eng
open Go.Proofs Go.RowKit
noncomputable def Zyr:FuncId×Con:=(167,⟨[.str,.str],[.int .i64],fun p=>Zam p.1 p.2⟩)
theorem ZEw:KQ Zyr:=Zh (Zt (C:=cf0 [Z6n] [] [] []) (.n (.n (.f (.f (.f (.j [0,1,5] [] [.s 16 (.dat .bool)] .no)))))) Tryz.func167 [(181,Tryz.f181,.no)] (fun _=>by kernel_rfl) ⟨idxb_k,tr⟩ tr tr ⟨⟨Tryz.func181,fun _ _=>by kernel_rfl⟩,tr⟩)
end Go.Eng
set_option maxRecDepth 100000
set_option maxHeartbeats 4000000
namespace Go.Eng
open Go.Proofs Go.RowKit
noncomputable def Zbu:FuncId×Con:=(93,⟨[.str,.str],[.str,.str,.bool],fun p=>ZIg p.1 p.2⟩)
theorem tCut_k:KQ Zbu:=Zh (Zt (C:=cf0 [Zyr] [] [] []) .no Tryz.func93 [(136,Tryz.f136,.r [] [] [.s 1000 (.dat .str),.s 1001 (.dat .str),.s 1002 (.dat .bool)] .no)] (fun _=>by kernel_rfl) ⟨ZEw,tr⟩ tr tr ⟨⟨Tryz.func136,fun _ _=>by kernel_rfl⟩,tr⟩)
end Go.Eng
set_option maxRecDepth 100000
set_option maxHeartbeats 4000000
namespace Go.Eng
open Go.Proofs Go.RowKit
noncomputable def Z3v:FuncId×Con:=(94,⟨[.str],[.bool],fun p=>ZPe p⟩)
theorem ZVy:KQ Z3v:=Zh (Zt (C:=cf0 [] [] [] []) (.n (.f (.n (.f (.cut ⟨⟨[0,5],[],[.s 6 (.dat (.int .i64))]⟩,[(.exit 0,⟨[0],[],[]⟩),(.ret,⟨[],[],[.s 1000 (.dat .bool)]⟩)]⟩ (.f (.n (.n (.f (.f (.n (.f (.j [0,5,6] [] [.s 18 (.dat .bool)] .no))))))))))))) Tryz.func94 [] (fun _=>by kernel_rfl))
end Go.Eng
set_option maxRecDepth 100000
set_option maxHeartbeats 4000000
namespace Go.Eng
open Go.Proofs Go.RowKit
noncomputable def ZWq:FuncId×Con:=(95,⟨[.str],[.leaf 1],fun p=>ZRc p⟩)
theorem rRead_k:KQ ZWq:=Zh (Zt (C:=cf0 [Zej,ZQl,ZZi] [] [] []) (.n (.n (.f (.n (.f (.l [0] [] [.s 3 (.dat (.leaf 1)),.s 4 (.dat (.int .i64))] 0 [] [] [.s 3 (.dat (.leaf 1))] .no)))))) Tryz.func95 [] (fun _=>by kernel_rfl) ⟨Zjl,ZSo,ZRj,tr⟩)
end Go.Eng
set_option maxRecDepth 100000
set_option maxHeartbeats 4000000
namespace Go.Eng
open Go.Proofs Go.RowKit
noncomputable def Zjt:FuncId×Con:=(47,⟨[.leaf 3],[.leaf 4],fun p=>Zck p⟩)
theorem Z4w:KQ Zjt:=Zh (Zt (C:=cf0 [Zbl,ZEe,Z3p,Zbu,Z3v,ZWq,ZJd] [] [] []) (.n (.n (.n (.two (.n (.j [2,4,5] [] [.s 6 (.dat .str)] .no)) (.f (.f (.j [2,4,5,6] [] [.s 35 (.dat .bool)] .no))))))) Tryz.func47 [] (fun _=>by kernel_rfl) ⟨Z4m,Zjf,Z1z,tCut_k,ZVy,rRead_k,Zle,tr⟩)
end Go.Eng
set_option maxRecDepth 100000
set_option maxHeartbeats 4000000
namespace Go.Eng
open Go.Proofs Go.RowKit
noncomputable def ZLm:FuncId×Con:=(14,⟨[.leaf 3],[.pair (.leaf 4) (.pair (.leaf 4) (.pair (.leaf 4) (.leaf 4)))],fun p=>ZFj p⟩)
theorem ZRr:KQ ZLm:=Zh (Zt (C:=cf0 [Zdg,Zjt] [] [] []) .no Tryz.func14 [] (fun _=>by kernel_rfl) ⟨ZWh,Z4w,tr⟩)
end Go.Eng
set_option maxRecDepth 100000
set_option maxHeartbeats 4000000
namespace Go.Eng
open Go.Proofs Go.RowKit
noncomputable def ZIs:FuncId×Con:=(15,⟨[.slice (.leaf 3)],[.slice (.pair (.leaf 4) (.pair (.leaf 4) (.pair (.leaf 4) (.leaf 4))))],fun p=>Z3h p⟩)
theorem ZTx:KQ ZIs:=Zh (Zt (C:=cf0 [ZLm] [] [] []) (.n (.n (.f (.n (.f (.l [6,7] [] [.s 3 (.own 56 (.pair (.leaf 4) (.pair (.leaf 4) (.pair (.leaf 4) (.leaf 4))))),.s 8 (.dat (.int .i64))] 0 [] [] [.s 3 (.own 56 (.pair (.leaf 4) (.pair (.leaf 4) (.pair (.leaf 4) (.leaf 4)))))] .no)))))) Tryz.func15 [] (fun _=>by kernel_rfl) ⟨ZRr,tr⟩)
theorem ZSx {x:Rat} {z:Int} (h:Z8d x=some z):Zzv x=some z:=by
 unfold Z8d at h
 cases h
 unfold Zzv Zwc;rw [Za];by_cases h0:x=0
 ·subst h0;rfl
 ·have:=ZMm h0;rw [decide_eq_false h0,Ze];by_cases h1:x.num<0
  ·rw [decide_eq_true h1,Zd,Int.sign_eq_neg_one_of_neg h1]
  ·rw [decide_eq_false h1,Ze,Int.sign_eq_one_of_pos (by omega)]
end Go.Eng
set_option maxRecDepth 100000
set_option maxHeartbeats 4000000
namespace Go.Eng
open Go.Proofs Go.RowKit
noncomputable def ZFo:FuncId×Con:=(99,⟨[.leaf 4],[.int .i64],fun p=>Z8d p⟩)
theorem Z1q:KQ ZFo:=Zh (ZA (C:=cf2 [(52,1),(54,4)] [ZNl]) .no Tryz.func99 [] (fun v vals x z ha hz=>.trans (by kernel_rfl) (ZSx hz)) ⟨ZBp,tr⟩)
theorem ZiA {x y z:Rat} (h:Z0 x y=some z):Z7s x y=some z:=by
 unfold Z0 at h;split at h
 ·rename_i hh;obtain ⟨⟨a1,a2⟩,b1,b2⟩:=hh
  cases h
  unfold Z7s ZCc;have p1:=Zhb x.num.natAbs y.num.natAbs;have p3:=Zhb x.den y.den;have e1:Zza x.num.natAbs y.num.natAbs=some (x.num.natAbs*y.num.natAbs):=by unfold Zza;rw [if_pos ⟨Zfc (by omega),Zfc (by omega)⟩]
  have e3:Zza x.den y.den=some (x.den*y.den):=by unfold Zza;rw [if_pos ⟨Zfc (by omega),Zfc (by omega)⟩]
  rw [e1,Za,Za,Za,e3,Za];unfold ZEa;rw [if_pos ⟨Zke (by omega),Zke (by omega),Nat.mul_ne_zero x.den_nz y.den_nz⟩,Za];have e:sgn ((decide (x.num<0)) != (decide (y.num<0))) (x.num.natAbs*y.num.natAbs)=x.num*y.num:=by
   have eN:((x.num.natAbs*y.num.natAbs:Nat):Int)=(x.num.natAbs:Int)*y.num.natAbs:=by simp
   unfold sgn;rw [eN];by_cases h:x.num<0
   ·have hx:(x.num.natAbs:Int) = -x.num:=by omega
    by_cases h2:y.num<0
    ·have hy:(y.num.natAbs:Int) = -y.num:=by omega
     simp [h,h2,hx,hy,Int.neg_mul,Int.mul_neg]
    ·have hy:(y.num.natAbs:Int)=y.num:=by omega
     simp [h,h2,hx,hy,Int.neg_mul,Int.mul_neg]
   ·have hx:(x.num.natAbs:Int)=x.num:=by omega
    by_cases h2:y.num<0
    ·have hy:(y.num.natAbs:Int) = -y.num:=by omega
     simp [h,h2,hx,hy,Int.neg_mul,Int.mul_neg]
    ·have hy:(y.num.natAbs:Int)=y.num:=by omega
     simp [h,h2,hx,hy,Int.neg_mul,Int.mul_neg]
  rw [e,← Rat.mul_def']
 ·cases h
end Go.Eng
set_option maxRecDepth 100000
set_option maxHeartbeats 4000000
namespace Go.Eng
open Go.Proofs Go.RowKit
noncomputable def Z3n:FuncId×Con:=(102,⟨[.leaf 4,.leaf 4],[.leaf 4],fun p=>Z0 p.1 p.2⟩)
theorem Z6t:KQ Z3n:=Zh (ZA (C:=cf2 [(52,1),(54,4)] [ZJd,ZZi,Zoi]) .no Tryz.func102 [] (fun v vals x z ha hz=>.trans (by kernel_rfl) (ZiA hz)) ⟨Zle,ZRj,Zml,tr⟩)
end Go.Eng
set_option maxRecDepth 100000
set_option maxHeartbeats 4000000
namespace Go.Eng
open Go.Proofs Go.RowKit
noncomputable def ZUr:FuncId×Con:=(172,⟨[.int .i64],[.leaf 4],fun p=>Zbv p⟩)
theorem runit_k:KQ ZUr:=Zh (Zt (C:=cf0 [ZJd,ZDh] [] [] []) .no Tryz.func172 [] (fun _=>by kernel_rfl) ⟨Zle,Zni,tr⟩)
end Go.Eng
set_option maxRecDepth 100000
set_option maxHeartbeats 4000000
namespace Go.Eng
open Go.Proofs Go.RowKit
noncomputable def ZFq:FuncId×Con:=(142,⟨[.int .i64],[.leaf 4],fun p=>ZBn p⟩)
theorem Zhw:KQ ZFq:=Zh (Zt (C:=cf0 [ZJd,ZDh,ZUr] [] [] []) .no Tryz.func142 [] (fun _=>by kernel_rfl) ⟨Zle,Zni,runit_k,tr⟩)
end Go.Eng
set_option maxRecDepth 100000
set_option maxHeartbeats 4000000
namespace Go.Eng
open Go.Proofs Go.RowKit
noncomputable def Zfq:FuncId×Con:=(173,⟨[.leaf 1],[.leaf 1],fun p=>ZEq p⟩)
theorem rRoot_k:KQ Zfq:=Zh (Zt (C:=cf0 [ZQl,Zul,Zli,Zvn,ZDh,Zdo] [] [] []) (.n (.n (.n (.f (.cut ⟨⟨[0],[],[.s 3 (.dat (.leaf 1))]⟩,[(.ret,⟨[],[],[.s 1000 (.dat (.leaf 1))]⟩)]⟩ .no))))) Tryz.func173 [] (fun _=>by kernel_rfl) ⟨ZSo,Zzm,Zdm,ZVs,Zni,ZGv,tr⟩)
end Go.Eng
set_option maxRecDepth 100000
set_option maxHeartbeats 4000000
namespace Go.Eng
open Go.Proofs Go.RowKit
noncomputable def ZDt:FuncId×Con:=(143,⟨[.int .u64,.int .i64],[.leaf 4],fun p=>Zvg p.1 p.2⟩)
theorem ZpA:KQ ZDt:=Zh (Zt (C:=cf0 [ZJd,Zej,ZDh,Zfq] [] [] []) .no Tryz.func143 [] (fun _=>by kernel_rfl) ⟨Zle,Zjl,Zni,rRoot_k,tr⟩)
end Go.Eng
set_option maxRecDepth 100000
set_option maxHeartbeats 4000000
namespace Go.Eng
open Go.Proofs Go.RowKit
noncomputable def Zgu:FuncId×Con:=(98,⟨[.pair (.leaf 4) (.pair (.leaf 4) (.pair (.leaf 4) (.leaf 4))),.int .i64],[.leaf 4,.leaf 4],fun p=>ZOj p.1 p.2⟩)
theorem Zix:KQ Zgu:=Zh (Zt (C:=cf0 [ZFo,Z3n,Z7l,ZFq,ZDt] [] [] []) (.n (.n (.n (.n (.f (.n (.f (.unroll 4 (.f (.n (.f (.f (.n (.n (.f (.n (.j [1,2,4,5,6,7,8,9,10,12,13] [] [.l (.sl 12) (.box 54 (.dat (.leaf 4))),.l (.sl 13) (.box 54 (.dat (.leaf 4)))] .no))))))))))))))))) Tryz.func98 [] (fun _=>by kernel_rfl) ⟨Z1q,Z6t,Zsp,Zhw,ZpA,tr⟩)
end Go.Eng
set_option maxRecDepth 100000
set_option maxHeartbeats 4000000
namespace Go.Eng
open Go.Proofs Go.RowKit
noncomputable def ZGi:FuncId×Con:=(48,⟨[.pair (.leaf 4) (.pair (.leaf 4) (.pair (.leaf 4) (.leaf 4)))],[.int .i64],fun p=>ZHf p⟩)
theorem Z3k:KQ ZGi:=Zh (Zt (C:=cf0 [ZVk,Zgu,ZFo] [] [] []) (.n (.n (.n (.f (.cut ⟨⟨[1],[],[.s 3 (.dat (.int .i64))]⟩,[(.ret,⟨[],[],[.s 1000 (.dat (.int .i64))]⟩)]⟩ .no))))) Tryz.func48 [] (fun _=>by kernel_rfl) ⟨ZYn,Zix,Z1q,tr⟩)
end Go.Eng
set_option maxRecDepth 100000
set_option maxHeartbeats 4000000
namespace Go.Eng
open Go.Proofs Go.RowKit
noncomputable def Z4o:FuncId×Con:=(49,⟨[.slice (.slice (.pair (.leaf 4) (.pair (.leaf 4) (.pair (.leaf 4) (.leaf 4)))))],[.int .i64],fun p=>Zmi p⟩)
theorem Z0t:KQ Z4o:=Zh (Zt (C:=cf0 [] [] [] []) .no Tryz.func49 [] (fun _=>by kernel_rfl))
end Go.Eng
set_option maxRecDepth 100000
set_option maxHeartbeats 4000000
namespace Go.Eng
open Go.Proofs Go.RowKit
noncomputable def Znn:FuncId×Con:=(50,⟨[.slice (.pair (.leaf 4) (.pair (.leaf 4) (.pair (.leaf 4) (.leaf 4))))],[.bool],fun p=>ZSg p⟩)
theorem Z4t:KQ Znn:=Zh (Zt (C:=cf0 [ZGi] [] [] []) (.n (.f (.n (.f (.cut ⟨⟨[0],[],[.s 3 (.dat (.int .i64))]⟩,[(.exit 0,⟨[],[],[]⟩),(.ret,⟨[],[],[.s 1000 (.dat .bool)]⟩)]⟩ .no))))) Tryz.func50 [] (fun _=>by kernel_rfl) ⟨Z3k,tr⟩)
end Go.Eng
set_option maxRecDepth 100000
set_option maxHeartbeats 4000000
namespace Go.Eng
open Go.Proofs Go.RowKit
noncomputable def Znm:FuncId×Con:=(54,⟨[.pair (.leaf 4) (.pair (.leaf 4) (.pair (.leaf 4) (.leaf 4))),.pair (.leaf 4) (.pair (.leaf 4) (.pair (.leaf 4) (.leaf 4)))],[.pair (.leaf 4) (.pair (.leaf 4) (.pair (.leaf 4) (.leaf 4)))],fun p=>Z8i p.1 p.2⟩)
theorem Zcr:KQ Znm:=Zh (Zt (C:=cf0 [Zdg,ZEe,Z3n,Z7l] [] [] []) (.n (.n (.f (.n (.f (.unroll 5 (.f (.n (.f (.f (.n (.f (.unroll 5 .no))))))))))))) Tryz.func54 [] (fun _=>by kernel_rfl) ⟨ZWh,Zjf,Z6t,Zsp,tr⟩)
end Go.Eng
set_option maxRecDepth 100000
set_option maxHeartbeats 4000000
namespace Go.Eng
open Go.Proofs Go.RowKit
noncomputable def Zhn:FuncId×Con:=(53,⟨[.slice (.pair (.leaf 4) (.pair (.leaf 4) (.pair (.leaf 4) (.leaf 4)))),.slice (.pair (.leaf 4) (.pair (.leaf 4) (.pair (.leaf 4) (.leaf 4))))],[.pair (.leaf 4) (.pair (.leaf 4) (.pair (.leaf 4) (.leaf 4)))],fun p=>Zhd p.1 p.2⟩)
theorem ZLu:KQ Zhn:=Zh (Zt (C:=cf0 [Zdg,Znm,Zik,ZEe] [] [] []) (.n (.n (.f (.n (.f (.l [0,1,4,5] [] [.s 6 (.dat (.int .i64)),.l (.sl 5) (.box 56 (.dat (.pair (.leaf 4) (.pair (.leaf 4) (.pair (.leaf 4) (.leaf 4))))))] 0 [4,5] [] [.l (.sl 5) (.box 56 (.dat (.pair (.leaf 4) (.pair (.leaf 4) (.pair (.leaf 4) (.leaf 4))))))] .no)))))) Tryz.func53 [] (fun _=>by kernel_rfl) ⟨ZWh,Zcr,ZJm,Zjf,tr⟩)
end Go.Eng
set_option maxRecDepth 100000
set_option maxHeartbeats 4000000
namespace Go.Eng
open Go.Proofs Go.RowKit
noncomputable def ZTu:FuncId×Con:=(100,⟨[.slice (.slice (.pair (.leaf 4) (.pair (.leaf 4) (.pair (.leaf 4) (.leaf 4))))),.int .i64],[.slice (.pair (.leaf 4) (.pair (.leaf 4) (.pair (.leaf 4) (.leaf 4))))],fun p=>Zkk p.1 p.2⟩)
theorem Zzx:KQ ZTu:=Zh (Zt (C:=cf0 [] [] [] []) (.n (.n (.f (.n (.f (.l [0,1] [] [.s 5 (.own 56 (.pair (.leaf 4) (.pair (.leaf 4) (.pair (.leaf 4) (.leaf 4))))),.s 6 (.dat (.int .i64))] 0 [] [] [.s 5 (.own 56 (.pair (.leaf 4) (.pair (.leaf 4) (.pair (.leaf 4) (.leaf 4)))))] .no)))))) Tryz.func100 [] (fun _=>by kernel_rfl))
end Go.Eng
set_option maxRecDepth 100000
set_option maxHeartbeats 4000000
namespace Go.Eng
open Go.Proofs Go.RowKit
noncomputable def ZTs:FuncId×Con:=(101,⟨[.slice (.pair (.leaf 4) (.pair (.leaf 4) (.pair (.leaf 4) (.leaf 4)))),.slice (.pair (.leaf 4) (.pair (.leaf 4) (.pair (.leaf 4) (.leaf 4))))],[.slice (.pair (.leaf 4) (.pair (.leaf 4) (.pair (.leaf 4) (.leaf 4))))],fun p=>Z8l p.1 p.2⟩)
theorem ZKB:KQ ZTs:=Zh (Zt (C:=cf0 [Z8h] [] [] []) (.n (.n (.f (.n (.f (.l [0,1] [] [.s 5 (.own 56 (.pair (.leaf 4) (.pair (.leaf 4) (.pair (.leaf 4) (.leaf 4))))),.s 6 (.dat (.int .i64))] 0 [] [] [.s 5 (.own 56 (.pair (.leaf 4) (.pair (.leaf 4) (.pair (.leaf 4) (.leaf 4)))))] .no)))))) Tryz.func101 [] (fun _=>by kernel_rfl) ⟨Zci,tr⟩)
end Go.Eng
set_option maxRecDepth 100000
set_option maxHeartbeats 4000000
namespace Go.Eng
open Go.Proofs Go.RowKit
noncomputable def Z2r:FuncId×Con:=(51,⟨[.slice (.slice (.pair (.leaf 4) (.pair (.leaf 4) (.pair (.leaf 4) (.leaf 4))))),.slice (.pair (.leaf 4) (.pair (.leaf 4) (.pair (.leaf 4) (.leaf 4)))),.slice (.pair (.leaf 4) (.pair (.leaf 4) (.pair (.leaf 4) (.leaf 4))))],[.bool],fun p=>Zbk p.1 p.2.1 p.2.2⟩)
theorem ZFw:KQ Z2r:=Zh (Zt (C:=cf0 [ZGi,Z4o,Znn,Zhn,ZTu,ZTs] [] [] []) (.n (.two (.f (.j [0,1,2] [] [.s 29 (.dat .bool)] .no)) (.f (.n (.f (.cut ⟨⟨[0,1,2],[],[.s 7 (.dat (.int .i64))]⟩,[(.exit 0,⟨[],[],[]⟩),(.ret,⟨[],[],[.s 1000 (.dat .bool)]⟩)]⟩ .no)))))) Tryz.func51 [] (fun _=>by kernel_rfl) ⟨Z3k,Z0t,Z4t,ZLu,Zzx,ZKB,tr⟩)
end Go.Eng
set_option maxRecDepth 100000
set_option maxHeartbeats 4000000
namespace Go.Eng
open Go.Proofs Go.RowKit
noncomputable def Z4s:FuncId×Con:=(55,⟨[.pair (.leaf 4) (.pair (.leaf 4) (.pair (.leaf 4) (.leaf 4))),.pair (.leaf 4) (.pair (.leaf 4) (.pair (.leaf 4) (.leaf 4)))],[.int .i64],fun p=>Z4g p.1 p.2⟩)
theorem sCmp_k:KQ Z4s:=Zh (Zt (C:=cf0 [ZGi,Z8h] [] [] []) .no Tryz.func55 [] (fun _=>by kernel_rfl) ⟨Z3k,Zci,tr⟩)
end Go.Eng
set_option maxRecDepth 100000
set_option maxHeartbeats 4000000
namespace Go.Eng
open Go.Proofs Go.RowKit
noncomputable def Zxr:FuncId×Con:=(59,⟨[.pair (.leaf 4) (.pair (.leaf 4) (.pair (.leaf 4) (.leaf 4))),.pair (.leaf 4) (.pair (.leaf 4) (.pair (.leaf 4) (.leaf 4)))],[.bool],fun p=>ZSi p.1 p.2⟩)
theorem sSame_k:KQ Zxr:=Zh (Zt (C:=cf0 [Z8h,ZVk] [] [] []) .no Tryz.func59 [] (fun _=>by kernel_rfl) ⟨Zci,ZYn,tr⟩)
end Go.Eng
set_option maxRecDepth 100000
set_option maxHeartbeats 4000000
namespace Go.Eng
open Go.Proofs Go.RowKit
noncomputable def Zrt:FuncId×Con:=(16,⟨[.slice (.slice (.pair (.leaf 4) (.pair (.leaf 4) (.pair (.leaf 4) (.leaf 4))))),.slice (.pair (.leaf 4) (.pair (.leaf 4) (.pair (.leaf 4) (.leaf 4)))),.slice (.pair (.leaf 4) (.pair (.leaf 4) (.pair (.leaf 4) (.leaf 4)))),.pair (.leaf 4) (.pair (.leaf 4) (.pair (.leaf 4) (.leaf 4))),.slice (.pair (.leaf 4) (.pair (.leaf 4) (.pair (.leaf 4) (.leaf 4)))),.slice (.pair (.leaf 4) (.pair (.leaf 4) (.pair (.leaf 4) (.leaf 4)))),.slice (.pair (.leaf 4) (.pair (.leaf 4) (.pair (.leaf 4) (.leaf 4))))],[.bool],fun p=>ZTl p.1 p.2.1 p.2.2.1 p.2.2.2.1 p.2.2.2.2.1 p.2.2.2.2.2.1 p.2.2.2.2.2.2⟩)
theorem Zfy:KQ Zrt:=Zh (Zt (C:=cf0 [Z3m,Zdg,ZGi,Z4o,Znn,Z2r,Z8h,Zhn,Znm,Z4s,Z0n,Zik,ZEe,Zxr] [] [] []) (.n (.two (.f (.j [0,1,2,4,5,6,10] [] [.s 47 (.dat .bool)] .no)) (.two (.n (.f (.cut ⟨⟨[0,1,2,4,5,6,10],[],[.s 15 (.dat (.int .i64))]⟩,[(.exit 0,⟨[1,2,5,6,10],[],[]⟩),(.ret,⟨[],[],[.s 1000 (.dat .bool)]⟩)]⟩ (.f (.n (.f (.f (.n (.n (.n (.f (.j [0,1,2,4,5,6,10,15] [] [.s 87 (.dat .bool)] .no)))))))))))) (.n (.f (.j [] [] [.s 14 (.dat .bool)] .no)))))) Tryz.func16 [] (fun _=>by kernel_rfl) ⟨ZFv,ZWh,Z3k,Z0t,Z4t,ZFw,Zci,ZLu,Zcr,sCmp_k,ZIv,ZJm,Zjf,sSame_k,tr⟩)
end Go.Eng
set_option maxRecDepth 100000
set_option maxHeartbeats 4000000
namespace Go.Eng
open Go.Proofs Go.RowKit
noncomputable def Zjv:FuncId×Con:=(17,⟨[.slice (.slice (.leaf 3)),.slice (.leaf 3),.slice (.leaf 3)],[.slice (.leaf 3),.int .i64],fun p=>Zol p.1 p.2.1 p.2.2⟩)
theorem Zgw : KQ Zjv := Zh (Zt (C := cf0 [Zsf, Zbi, Zyj, Zdf] [] [] [((39, "Sub"), 69)]) (.n (.two (.f (.j [0, 1, 2] [] [.s 26 (.dat .bool)] .no)) (.n (.f (.n (.f (.l [2, 8, 31] [] [.s 32 (.dat (.int .i64)), .l (.sl 8) (.own 39 (.leaf 3))] 0 [8] [] [.l (.sl 8) (.own 39 (.leaf 3))] .no))))))) Tryz.func17 [(61, Tryz.f61, .n (.n (.f (.n (.f (.l [1, 8, 9] [] [.s 5 (.own 39 (.leaf 3)), .s 10 (.dat (.int .i64))] 0 [] [] [.s 5 (.own 39 (.leaf 3))] .no))))))] (fun _ => by kernel_rfl) ⟨ZWf, ZPk, ZLl, ZYf, tr⟩ tr ⟨ZGh, tr⟩ ⟨⟨Tryz.func61, fun _ _ => by kernel_rfl⟩, tr⟩)
end Go.Eng
set_option maxRecDepth 100000
set_option maxHeartbeats 4000000
namespace Go.Eng
open Go.Proofs Go.RowKit
noncomputable def ZOx:FuncId×Con:=(3,⟨[.slice (.slice (.pair (.int .i64) (.int .i64))),.slice (.pair (.int .i64) (.int .i64)),.slice (.pair (.int .i64) (.int .i64)),.slice (.pair (.int .i64) (.int .i64))],[.bool],fun p=>Zyl p.1 p.2.1 p.2.2.1 p.2.2.2⟩)
theorem Zzz:KR ZOx:=Zt (C:=cf0 [Zer,ZMr,Z2j,Z3l,Zxt,Z3m,Zdn,ZSk,ZHt,Zde,ZLm,ZIs,Zrt,Zjv,Zlj,Zfd,ZRg] [] [] []) (.n (.two (.f (.j [0,1,2,3] [] [.s 41 (.dat .bool)] .no)) (.n (.n (.n (.n (.two (.n (.f (.f (.j [] [] [.s 8 (.dat .bool)] .no)))) (.two (.n (.f (.cut ⟨⟨[0,1,2,3,9,11,13,15,16,86,87],[],[.s 88 (.dat (.int .i64))]⟩,[(.exit 0,⟨[0,1,2,3,9,11,13,15,16],[],[]⟩),(.ret,⟨[],[],[.s 1000 (.dat .bool)]⟩)]⟩ (.f (.n (.n (.f (.f (.n (.n (.f (.f (.j [] [] [.s 8 (.dat .bool)] .no))))))))))))) (.n (.two (.f (.j [3,9,11,13,15] [] [.s 144 (.dat .bool)] .no)) (.n (.two (.n (.f (.cut ⟨⟨[9,11,13,15,23,150,151],[],[.s 152 (.dat (.int .i64))]⟩,[(.exit 2,⟨[9,11,13,15,23],[],[]⟩),(.ret,⟨[],[],[.s 1000 (.dat .bool)]⟩)]⟩ .no))) (.n (.n (.n (.two (.n (.f (.cut ⟨⟨[13,15,27,28,172],[],[.s 173 (.dat (.int .i64)),.l (.sl 28) (.box 39 (.dat (.leaf 3)))]⟩,[(.exit 4,⟨[15,28],[],[.l (.sl 28) (.box 39 (.dat (.leaf 3)))]⟩),(.ret,⟨[],[],[.s 1000 (.dat .bool)]⟩)]⟩ (.f (.n (.n (.f (.f (.n (.n (.two (.n (.j [13,15,27,28,30,31,172,173] [] [.l (.sl 30) (.box 39 (.dat (.leaf 3)))] .no)) (.n (.n (.j [13,15,27,28,172,173] [] [.l (.sl 28) (.box 39 (.dat (.leaf 3)))] .no)))))))))))))) (.f (.j [] [] [.s 8 (.dat .bool)] .no)))))))))))))))))) Tryz.func3 [] (fun _=>by kernel_rfl) ⟨ZTy,Znx,Z3o,ZDp,ZzB,ZFv,Ziq,Zto,Z1x,Zqe,ZRr,ZTx,Zfy,Zgw,Zsk,Z1d,Zcj,tr⟩
theorem Z6z {w0:World} {v0:Zb} (hv:VIn v0 w0) {c0:List Value} {a:(List (List (Int×Int)))} (p0:Rep.rel (Zu (Zu (Zra (Zf .i64) (Zf .i64)))) v0 c0 a) {c1:List Value} {b:(List (Int×Int))} (p1:Rep.rel (Zu (Zra (Zf .i64) (Zf .i64))) v0 c1 b) {c2:List Value} {half:(List (Int×Int))} (p2:Rep.rel (Zu (Zra (Zf .i64) (Zf .i64))) v0 c2 half) {c3:List Value} {other:(List (Int×Int))} (p3:Rep.rel (Zu (Zra (Zf .i64) (Zf .i64))) v0 c3 other) {z:Bool} (hm:Zyl a b half other=some z):Ret Tryz.prog 3 #[(Zu (Zu (Zra (Zf .i64) (Zf .i64)))).val c0,(Zu (Zra (Zf .i64) (Zf .i64))).val c1,(Zu (Zra (Zf .i64) (Zf .i64))).val c2,(Zu (Zra (Zf .i64) (Zf .i64))).val c3] w0 v0 (fun y v'=>∃ r0,y=Zrd.val r0∧Zrd.rel v' r0 z):=(Zzz w0 v0 [(Zu (Zu (Zra (Zf .i64) (Zf .i64)))).val c0,(Zu (Zra (Zf .i64) (Zf .i64))).val c1,(Zu (Zra (Zf .i64) (Zf .i64))).val c2,(Zu (Zra (Zf .i64) (Zf .i64))).val c3] (a,b,half,other) z hv ⟨c0,_,rfl,p0,c1,_,rfl,p1,c2,_,rfl,p2,c3,rfl,p3⟩ hm).2
end Go.Eng
