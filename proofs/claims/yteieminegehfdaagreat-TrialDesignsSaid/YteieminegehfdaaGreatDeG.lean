/- Lemmas towards the statement: the engine of the walks, the functions' models, laws and walks, part 7. Conditions: as each states. -/
import Derived.Shelf.Strings.Builder1
import Derived.Shelf.Strings.Repeat
import Derived.Test.YteieminegehfdaaGreatProg
import Derived.Test.YteieminegehfdaaGreatDeF
set_option linter.all false
set_option maxRecDepth 100000
namespace Go.Eng
open Go.Proofs Go.RowKit
theorem ZSw {w0:World} {F:Zb} (hv:VIn F w0) {c0:List Value} {a:Nat} (m:Rep.rel Zt F c0 a) {c1:List Value} {b:Nat} (g:Rep.rel Zt F c1 b) {z:Nat×Nat} (H:ZRh a b=some z):Ret Tryz.prog 129 #[Zt.val c0,Zt.val c1] w0 F (λy v'=>∃ r0 r1,y = .tuple #[Zt.val r0,Zt.val r1]∧Zt.rel v' r0 z.1∧Zt.rel v' r1 z.2):=by
 obtain⟨R,T,U,rfl⟩:=ZYa m;obtain⟨q4,n5,k6,rfl⟩:=ZYa g;refine ZVh (K:=84) (args:=[.slice R T U,.slice q4 n5 k6]) hv Tryz.func129 rfl rfl zl λf S=>?_;unfold ZRh at H;refine sr (mw S rfl λf S=>mw S rfl λf S=>oe (ZD λ_ bb=>wp_block (ZD λ_ bc=>bO H λbd be H=>ZY (mv S rfl λf S=>mv S rfl λf S=>opc S rfl (ZHa S [.slice R T U,.slice q4 n5 k6] Zbp rfl rfl) (cmp_c S.vin m g be) ?_))));rintro _ cW f w aj ⟨cX,rfl,bf⟩ S;obtain⟨rfl,cY⟩:=bf;refine ov S rfl (ZJ S rfl rfl Zne) λf S=>mw S rfl λf S=>ZS (Zr (bc _ _ ?_));rcases ZJb (decide (bd<(0:Int))) with V | V
 ·have H:=ZGb H V;refine ZNb S rfl V (sr (mv S rfl λf S=>mw S rfl λf S=>mw S rfl λf S=>oe (wp_ret (ZPu (ZLi ?_)))));obtain rfl:=ZQ H;have m:=ZTa aj m;refine Zig S (Z2k rfl (Zyb S rfl) (Zyb S rfl)) ⟨[.slice none 0 0],[.slice R T U],rfl,(Zti _),m⟩
 have H:=ZQb H V;refine Z9a S rfl V (sr (mv S rfl λf S=>?_));have g:=ZTa aj g;refine ov S rfl (Zsc S (Zhb g) rfl rfl Zia) λf S=>ov S rfl (ZJ S rfl rfl Zqk) λf S=>mw S rfl λf S=>oe ?_;rcases ZJb (((((Zc 18446744073709551616 b)).length:Int))==(1:Int)) with W | W
 ·have H:=ZGb H W;refine ZNb S rfl W (ZD λ_ bg=>bO H λau av H=>bO H λaw bh H=>ZY (mv S rfl λf S=>mv S rfl λf S=>?_));obtain⟨_,cZ,c2,c3,rfl,ax,bi⟩:=Zuc g (Zm av).2.1;obtain⟨rfl,bj⟩:=bi;refine ov S rfl (ZEa S rfl rfl Zia (Zm av).1 (ltI (Zhb g) (Zm av).2.2.1)) λf S=>ov S rfl (Zzb S rfl ZOb (S.view ax)) λf S=>?_;have m:=ZTa aj m;refine opc S rfl (ZHa S [.slice R T U,.int .u64 au] Z7t rfl rfl) (ZIs S.vin m (show Rep.rel (Zf .u64) _ [.int .u64 au] au from (Zba bj)) bh) ?_;rintro _ c4 f w bk ⟨c5,c6,rfl,ak,bm⟩ S;have ax:=Atm bk ax;obtain⟨aS,aT,aU,rfl⟩:=ZYa ak;obtain⟨rfl,bn⟩:=bm;refine mv S rfl λf S=>ov S rfl (ZOa S rfl rfl) λf S=>ov S rfl (ZOa S rfl rfl) λf S=>mw S rfl λf S=>mw S rfl λf S=>ZS (Zr (bg _ _ (ZD λ_ bo=>bO H λc7 bp H=>ZY (mv S rfl λf S=>mv S rfl λf S=>opc S rfl (ZHa S [.int .u64 (aw.2)] k_en85 rfl rfl) (word_c S.vin (show Rep.rel (Zf .u64) _ [.int .u64 (aw.2)] aw.2 from (Zba bn)) bp) ?_))));rintro _ c8 f w bq ⟨c9,rfl,aV⟩ S;obtain⟨aW,aX,aY,rfl⟩:=ZYa aV;refine mw S rfl λf S=>mw S rfl λf S=>ZS ?_;have S:=S.fr' (σ':=[(4,.slice aS aT aU),(5,.slice aW aX aY)]) rfl;refine Zr (bo _ _ (wp_ret (ZPu (ZLi ?_))))
  obtain rfl:=ZQ H;have ak:=ZTa bq ak;refine Zig S (Z2k rfl (Zyb S rfl) (Zyb S rfl)) ⟨[.slice aS aT aU],[.slice aW aX aY],rfl,ak,aV⟩
 have H:=ZQb H W;refine Z9a S rfl W (wp_skip (Z5d (Zr (bb _ _ (ZD λ_ br=>bO H λda bt H=>bO H λay az H=>bO H λk bu H=>ZY (mv S rfl λf S=>mv S rfl λf S=>ov S rfl (Zsc S (Zhb g) rfl rfl Zia) λf S=>ov S rfl (ZJ S rfl rfl (Z1b bt)) λf S=>?_))))));obtain⟨_,bv,bw,db,rfl,aA,bx⟩:=Zuc g (Zm az).2.1;obtain⟨rfl,bz⟩:=bx;refine ov S rfl (ZEa S rfl rfl Zia (Zm az).1 (ltI (Zhb g) (Zm az).2.2.1)) λf S=>ov S rfl (Zzb S rfl ZOb (S.view aA)) λf S=>opc S rfl (ZHa S [.int .u64 ay] k_en163 rfl rfl) (lz64_c S.vin (show Rep.rel (Zf .u64) _ [.int .u64 ay] ay from (Zba bz)) bu) ?_;rintro _ dc f w aB ⟨dd,rfl,bA⟩ S;have aA:=Atm aB aA;obtain⟨rfl,aC⟩:=bA;refine mw S rfl λf S=>ZS (Zr (br _ _ (ZD λ_ bB=>bO H λbC bD H=>ZY (mv S rfl λf S=>mv S rfl λf S=>?_))));have g:=ZTa aB g;refine opc S rfl (ZHa S [.slice (some ⟨bv,bw,none⟩) n5 k6,.int .i64 k] ZNs rfl rfl) (ZLs S.vin g (show Rep.rel (Zf .i64) _ [.int .i64 k] k from (Zba aC)) bD) ?_;rintro _ bE f w bG ⟨de,rfl,v⟩ S;obtain⟨aD,aE,aF,rfl⟩:=ZYa v;refine mw S rfl λf S=>ZS (Zr (bB _ _ (ZD λ_ bH=>bO H λX bI H=>bO H λdf bJ H=>bO H λdg bK H=>ZY ?_)))
 obtain⟨dh,w,bM,S⟩:=Zyg (P:=Tryz.prog) (t:=40) (e:=159) S (n:=0) (cs:=[]) (vals:=[]) (sz:=1) rfl (by decide) (λ_=>by kernel_rfl);have aG:Rep.rels (Zf .u64) bE [] []:=ZHf;refine ZJc wn rfl zl (bM rfl) S λf S=>mv S rfl λf S=>mv S rfl λf S=>?_;have m:=ZTa (leT (leT aj aB) bG) m;refine opc S rfl (ZHa S [.slice R T U,.int .i64 k] ZNs rfl rfl) (ZLs S.vin m (show Rep.rel (Zf .i64) _ [.int .i64 k] k from (Zba aC)) bI) ?_;rintro _ al f w aZ ⟨di,rfl,aH⟩ S;have aG:=ZZ aZ aG;obtain⟨dj,dk,dl,rfl⟩:=ZYa aH;have aI:=S;obtain⟨dm,dn,a0,w,bP,S,bQ⟩:=ZYf (ty:=40) (A:=(Zf .u64)) ZAi S (i:=0) (n':=(([]:(List Int))++((Zc 18446744073709551616 X))).length) rfl aH (appN rfl (Zhb aH)) (ZIe bJ) (by decide);have bR:=ZQc aG bQ;refine ZJc wn rfl zl (ZQe aI rfl rfl bP) S λf S=>?_;obtain⟨dp,w,bS,S⟩:=Zyg S (n:=1) (cs:=[.int .u64 0]) (vals:=[(0,.int .u64 0)]) (sz:=1) rfl (by decide) (ZGq ZAi (x:=.int .u64 0) (cs:=[.int .u64 0]) rfl rfl (by decide));have aJ:Rep.rels (Zf .u64) al [.int .u64 0] [(0:Int)]:=(Zmr (Zba (by decide)) ZHf);refine ZJc wn rfl zl (bS rfl) S λf S=>?_;have aI:=S;obtain⟨aK,aL,w,bT,S⟩:=Zzl (ty:=40) ZAi S (i:=1) (n':=((([]:(List Int))++((Zc 18446744073709551616 X)))++[(0:Int)]).length) rfl (ZDe aJ rfl) (ZAl S (j:=0) rfl) (ZOk aJ) (appN rfl rfl) (ZIe bK) (by decide)
 have bU:=ZQc bR aJ;refine ZJc wn rfl zl (ZQe aI rfl rfl bT) S λf S=>mw S rfl λf S=>ZS ?_;have S:=S.fr' (σ':=[(8,.int .i64 k),(9,.slice aD aE aF),(10,.slice (mkA aK) (((([]:(List Int))++((Zc 18446744073709551616 X)))++[(0:Int)]).length) aL)]) rfl;refine Zr (bH _ _ (sr (mv S rfl λf S=>?_)));have v:=ZTa aZ v;refine ov S rfl (Zsc S (Zhb v) rfl rfl Zia) λf S=>mw S rfl λf S=>oe (ZD λ_ bV=>bO H λq bW H=>bO H λdq am H=>ZY (mv S rfl λf S=>ov S rfl (Zsc S rfl rfl rfl Zia) λf S=>mv S rfl λf S=>ov S rfl (ZJ S rfl rfl (Z1b bW)) λf S=>?_));obtain⟨aM,a1⟩:∃ c:List Value,c=(List.replicate (q).toNat [.int .u64 0]).flatten:=⟨_,rfl⟩;obtain⟨a2,w,bX,S⟩:=ZAs ZAi S (l:=q) (c:=q) (ZLd am).1 (ZLd am).2.1 (ZLd am).2.2.1 (ZLd am).2.2.2 a1;have bY:Rep.rels (Zf .u64) al aM (List.replicate (q).toNat (0:Int)):=by rw[a1];exact ZKg (show Rep.rel (Zf .u64) _ [.int .u64 0] _ from (Zba (by decide))) _
 refine ZJc wn rfl zl (bX rfl rfl) S λf S=>mw S rfl λf S=>ZS (Zr (bV _ _ (ZD λ_ bZ=>ZD λ_ b0=>bO H λdr a3 H=>ZY (mv S rfl λf S=>ov S rfl (Zsc S (repN (x:=(0:Int))) rfl rfl Zia) λf S=>ov S rfl (ZJ S rfl rfl (Z1b a3)) λf S=>mw S rfl λf S=>ZS (Zr (b0 _ _ ?_))))));obtain⟨b1,b2,b3⟩:=ZAa H;refine Zvd (λf w=>∃ G I J B L an Y M Z aN aa,(G,I)=b1∧Zb.le al aa∧St 84 w0 F [(8,.int .i64 k),(10,.slice (mkA J) B L),(12,.slice (mkA Y) M Z)] [Loc.own J 159 1 B L an,Loc.own Y 159 1 M Z aN] aa f w∧Rep.rels (Zf .u64) aa an G∧B=G.length∧Rep.rels (Zf .u64) aa aN I∧M=I.length) (λ_ b4=>?_) ?_
 ·have H:=b2;refine wp_block ?_;obtain⟨ds,b5,b6⟩:=ZAa H;have S:=S.reorder (ℓ':=[Loc.own aK 159 1 (((([]:(List Int))++((Zc 18446744073709551616 X)))++[(0:Int)]).length) aL ((([]++a0)++[.int .u64 0])),Loc.own (some a2) 159 1 ((q).toNat) (q).toNat aM]) [2,0] rfl (by decide);refine ZMe b5 (λb7 f w=>∃ ao N d ap C D s aq E ab o ac,(ao,N,d)=b7∧Zb.le al ac∧St 84 w0 F [(8,.int .i64 k),(9,.slice aD aE aF),(10,.slice (mkA ap) C D),(11,.int .i64 ((((Zc 18446744073709551616 bC)).length:Int))),(12,.slice (mkA aq) E ab),(13,.int .i64 d)] [Loc.own ap 159 1 C D s,Loc.own aq 159 1 E ab o] ac f w∧Rep.rels (Zf .u64) ac s ao∧C=ao.length∧Rep.rels (Zf .u64) ac o N∧E=N.length∧inR .i64 d) ⟨_,_,_,aK,((([]:(List Int))++((Zc 18446744073709551616 X)))++[(0:Int)]).length,aL,(([]++a0)++[.int .u64 0]),some a2,(q).toNat,(q).toNat,aM,_,rfl,(leR _),(S.fr' rfl),bU,rfl,bY,(repN (x:=(0:Int))),(ZYb a3).2⟩ ?_;rintro _ f w st ⟨ao,N,d,ap,C,D,s,aq,E,ab,o,ac,hq,aO,S,ad,ae,af,ag,dt⟩ H du b8 b9
  subst hq;refine ZD λ_ ca=>sr (mv S rfl λf S=>ov S rfl (ZJ S rfl rfl ZPo) λf S=>oe ?_);rcases ZJb (decide ((0:Int)≤d)) with ah | ah
  ·have H:=ZGb H ah;refine ZNb S rfl ah (wp_skip (Zr (ca _ _ (ZD λ_ cb=>wp_block (bO H λdv cc H=>bO H λO cd H=>bO H λdw h H=>bO H λu ce H=>bO H λdx Q H=>ZY (mv S rfl λf S=>mv S rfl λf S=>mv S rfl λf S=>?_))))));refine mv S rfl λf S=>mv S rfl λf S=>mv S rfl λf S=>ov S rfl (ZJ S rfl rfl (Z1f cc)) λf S=>ov S rfl (ZJ S rfl rfl (Z1f cd)) λf S=>?_;obtain⟨aP,rfl⟩:=ZKe S (j:=0) rfl (by have:=ZGc h;have:=ae;omega);refine ov S rfl (Zfx S (j:=0) rfl Zia (ZGc h).1 (ZGc h).2.1 (by have:=(ZGc h).2.2.1;have:=ae;omega) rfl rfl rfl) λf S=>mv S rfl λf S=>?_;obtain⟨pre399,post400,cg,ch,ci,cj,ck,cl⟩:=ZXx S (i:=0) (lo:=(d).toNat) (hi:=(O).toNat) rfl (ZGc h).2.2.2.2.2.1 (by have:=(ZGc h).2.2.2.2.2.2;have:=ae;omega);have v:=ZTa aO v;refine Zbr S wn rfl zl (ZHa S [.slice (some ⟨aP,(d).toNat*1,none⟩) ((O-d).toNat) (D-(d).toNat),.slice aD aE aF] k_en165 rfl rfl) (i:=0) rfl rfl (digit_c S.vin cg ci ch (ZGc h).2.2.2.2.1 ⟨ZMA (ZGc h).1 (ZGc h).2.1 cj,ck⟩ (ZNv ad rfl (ZGc h).2.2.2.1) v ce) ?_;rintro _ a4 f w aQ ⟨⟨dy,rfl,cm⟩,cn,aR,co,cp,a5⟩ hSf;have ad:=ZZ aQ ad
   have af:=ZZ aQ af;have a6:((O).toNat-(d).toNat)=u.2.length:=by have:=cp;have:=ZGc h;omega
   have S:=hSf (Loc.own (some aP) 159 1 C D (List.take ((d).toNat*1) s++aR++List.drop ((O).toNat*1) s)) rfl (cl _ aR (ZDe a5 a6) co) cn;have cq:=ZMz (p:=(d).toNat) (r:=(O).toNat) (sz:=1) ad a5 rfl;have cr:=Z1x ae (ZGc h).2.2.2.2.2.1 (ZGc h).2.2.2.2.2.2 a6;obtain⟨rfl,ct⟩:=cm;obtain⟨cu,rfl⟩:=ZKe S (j:=1) rfl (posN ag (Zm Q).2.2.2);have a7:=ZJa af (Zm Q).2.1;obtain⟨dz,cv⟩:∃ c,(List.take (Zf .u64).n (List.drop ((d).toNat*(Zf .u64).n) o))=c:=⟨_,rfl⟩;rw[cv]at a7;obtain⟨rfl,dA⟩:=a7;refine ov S rfl (ZEa S rfl rfl Zia (Zm Q).1 (ltI ag (Zm Q).2.2.1)) λf S=>?_;obtain⟨w,cw,S⟩:=Z3d S ZOb (off:=0+(d).toNat*1) (z:=.int .u64 (u.1)) (cs:=[.int .u64 (u.1)]) (Zkd rfl) rfl (i:=1) rfl (Zuj S (j:=1) rfl (ltN ag (Zm Q).2.2.2)) (by first | rfl | simp[plain]);have cx:Rep.rels (Zf .u64) a4 (List.take (0+(d).toNat*1) o++[Value.int IntKind.u64 (u.1)]++List.drop (0+(d).toNat*1+1) o) (N.set (d).toNat u.1):=Z2f af (Zm Q).2.2.2 (show Rep.rel (Zf .u64) a4 [.int .u64 (u.1)] _ from (Zba ct)) rfl rfl;have cy:E=(N.set (d).toNat u.1).length:=setN ag;refine ZRk wn rfl (cw rfl rfl) (ZS (Z5d (Zr (cb _ _ (bO H λdB a8 H=>ZY (mv S rfl λf S=>ov S rfl (ZJ S rfl rfl (Z1b a8)) λf S=>mw S rfl λf S=>ZS ?_))))))
   obtain rfl:=ZQ H;refine b8 _ rfl _ _ ⟨_,_,_,some aP,C,D,(List.take ((d).toNat*1) s++aR++List.drop ((O).toNat*1) s),some cu,E,ab,(List.take (0+(d).toNat*1) o++[Value.int IntKind.u64 (u.1)]++List.drop (0+(d).toNat*1+1) o),_,rfl,(leT aO aQ),(S.fr' rfl),cq,cr,cx,cy,(ZYb a8).2⟩
  have H:=ZQb H ah;refine Z9a S rfl ah (wp_exit (Zob ?_));obtain rfl:=ZQ H;have hq:=b9 _ rfl;subst hq;have H:=b6;refine Zob (ZQd ?_);obtain rfl:=ZQ H;refine Zr (b4 _ _ ⟨_,_,ap,C,D,s,aq,E,ab,o,_,rfl,(leT (leR _) aO),(S.fr' rfl),ad,ae,af,ag⟩)
 rintro f w ⟨G,I,J,B,L,an,Y,M,Z,aN,aa,hq,dC,S,ai,cz,cA,cB⟩;subst hq;have H:=b3;refine Zr (bZ _ _ (ZD λ_ cC=>bO H λdD cD H=>bO H λdE cE H=>bO H λdF cF H=>ZY (mv S rfl λf S=>?_)));obtain⟨dG,cG,S,cH⟩:=S.pubSlice (i:=1) (A:=(Zf .u64)) (l:=I) (ℓ':=[Loc.own J 159 1 B L an]) rfl rfl cB cA rfl;have ai:=ZZ cG ai;refine opc S rfl (ZHa S [.slice (mkA Y) M Z] ZDl rfl rfl) (Z9k S.vin (show Rep.rel (ZB (Zf .u64)) _ [.slice (mkA Y) M Z] I from cH) cD) ?_;rintro _ dH f w cI ⟨dI,rfl,ar⟩ S;have ai:=ZZ cI ai;obtain⟨cJ,cK,cL,rfl⟩:=ZYa ar;refine mv S rfl λf S=>?_;obtain⟨dJ,cM,S,cN⟩:=S.pubSlice (i:=0) (A:=(Zf .u64)) (l:=G) (ℓ':=[]) rfl rfl cz ai rfl;refine opc S rfl (ZHa S [.slice (mkA J) B L] ZDl rfl rfl) (Z9k S.vin (show Rep.rel (ZB (Zf .u64)) _ [.slice (mkA J) B L] G from cN) cE) ?_;rintro _ dK f w cO ⟨dL,rfl,a9⟩ S;obtain⟨cP,cQ,cR,rfl⟩:=ZYa a9;refine mv S rfl λf S=>opc S rfl (ZHa S [.slice cP cQ cR,.int .i64 k] k_en166 rfl rfl) (right_c S.vin a9 (show Rep.rel (Zf .i64) _ [.int .i64 k] k from (Zba aC)) cF) ?_;rintro _ dM f w cS ⟨dN,rfl,ba⟩ S;obtain⟨cT,cU,cV,rfl⟩:=ZYa ba
 refine mw S rfl λf S=>mw S rfl λf S=>ZS (Zr (cC _ _ (wp_ret ?_)));obtain rfl:=ZQ H;have ar:=ZTa (leT (leT cM cO) cS) ar;refine Zig S (Z2k rfl (Zyb S rfl) (Zyb S rfl)) ⟨[.slice cJ cK cL],[.slice cT cU cV],rfl,ar,ba⟩
theorem Zpw {d:World} {c:Zb} (hv:VIn c d) {e:List Value} {a:Nat} (i:Rep.rel Zt c e a) {f:List Value} {b:Nat} (j:Rep.rel Zt c f b) {z:Nat×Nat} (hm:ZEc a b=some z) :
  Ret Tryz.prog 129 #[Zt.val e,Zt.val f] d c (λy v'=>∃ g h,y=Value.tuple #[Zt.val g,Zt.val h]∧Zt.rel v' g z.1∧Zt.rel v' h z.2) :=
 ZSw hv i j (Zax hm)
set_option maxHeartbeats 4000000
noncomputable def Zji:FuncId×Con:=(129,⟨[.leaf 0,.leaf 0],[.leaf 0,.leaf 0],λp=>ZEc p.1 p.2⟩)
theorem ZJn:Zre Tryz.prog Zji.1 Zji.2:=λw v vals x z hv ha hz=>by
 obtain⟨c0,w0,e0,p0,c1,e1,p1⟩:=ha;subst e0;subst e1
 exact .inl ⟨λ_ _=>by kernel_rfl,Ret.mono (Zpw hv p0 p1 hz) λy v' _ ⟨r0,r1,e,h0,h1⟩=>⟨_,e,r0,_,rfl,h0,r1,rfl,h1⟩⟩
noncomputable def Zpt:FuncId×Con:=(162,⟨[.leaf 0,.leaf 0],[.int .u64],λp=>Zxh p.1 p.2⟩)
theorem small_k:KQ Zpt:=Zg (Zx (C:=cf2 [(40,0)] []) (.n (.n (.two (.n (.j [1] [] [.s 5 (.dat (.int .u64))] .no)) (.n (.f (.j [] [] [.s 5 (.dat (.int .u64))] (.f (.l [] [] [.s 5 (.dat (.int .u64)),.s 6 (.dat (.int .u64))] 0 [] [] [.s 5 (.dat (.int .u64))] .no)))))))) Tryz.func162 [] (λv vals x z ha hz=>.trans (by kernel_rfl) (Z8w hz)))
noncomputable def gcd_q:FuncId×Con:=(127,⟨[.leaf 0,.leaf 0],[.leaf 0],λp=>gcdF p.1 p.2⟩)
theorem gcd_k:KQ gcd_q:=Zg (Zx (C:=cf2 [(40,0)] [Z2e,Zji,Zpt]) (.n (.f (.cut ⟨⟨[],[],[]⟩,[(.norm,⟨[],[],[.s 0 (.dat (.leaf 0))]⟩),(.ret,⟨[],[],[.s 1000 (.dat (.leaf 0))]⟩)]⟩ (.f (.cut ⟨⟨[],[],[.s 0 (.dat (.leaf 0)),.s 1 (.dat (.leaf 0))]⟩,[(.ret,⟨[],[],[.s 1000 (.dat (.leaf 0))]⟩),(.exit 0,⟨[],[],[.s 0 (.dat (.leaf 0))]⟩)]⟩ (.f (.n (.f (.f (.f (.j [0,1] [] [.s 17 (.dat .bool)] .no))))))))))) Tryz.func127 [] (λv vals x z ha hz=>.trans (by kernel_rfl) (gcdF_eq hz)) ⟨ZEg,ZJn,small_k,tr⟩)
noncomputable def ZWm:FuncId×Con:=(128,⟨[.leaf 0],[.bool],λp=>Zjg p⟩)
theorem Z5q:KQ ZWm:=Zg (ZEk (C:=cf2 [] []) (.n (.f (.j [] [] [.s 2 (.dat .bool)] .no))) Tryz.func128 [] [.slice (.int .u64)] [.bool] (λx=>((Zc 18446744073709551616 x))) (λz=>z) (λv vals x z ha hz=>.trans (by kernel_rfl) (ZKx.trans hz)))
noncomputable def ZQg:FuncId×Con:=(78,⟨[.leaf 2,.leaf 0],[.leaf 3],λp=>Zgc p.1 p.2⟩)
theorem Zij:KQ ZQg:=Zg (Zx (C:=cf0 [gcd_q,ZWm,Zji] [] [] []) (.n (.two (.n (.n (.j [2,4] [] [.s 1 (.dat (.leaf 0)),.l (.sl 2) (.box 42 (.dat (.pair .bool (.leaf 0))))] .no))) (.f (.n (.j [2,4] [] [.s 1 (.dat (.leaf 0))] .no))))) Tryz.func78 [] (λv vals x z ha hz=>.trans (by kernel_rfl) (Z1w hz)) ⟨gcd_k,Z5q,ZJn,tr⟩)
noncomputable def ZJe:FuncId×Con:=(92,⟨[.bool,.leaf 0],[.leaf 2],λp=>ZKa p.1 p.2⟩)
theorem Zhf:KQ ZJe:=Zg (Zx (C:=cf0 [] [] [] []) (.n (.f (.j [4] [] [.l (.sl 4) (.box 42 (.dat (.pair .bool (.leaf 0))))] .no))) Tryz.func92 [] (λv vals x z ha hz=>.trans (by kernel_rfl) (Zix hz)))
noncomputable def ZRr:FuncId×Con:=(52,⟨[.int .i64,.int .i64],[.leaf 3,.int .i64],λp=>Zdi p.1 p.2⟩)
theorem qnew_k:KQ ZRr:=Zg (Zx (C:=cf0 [of_q,ZQg,ZJe] [] [] []) .no Tryz.func52 [] (λv vals x z ha hz=>by obtain⟨c0,w0,e0,p0,c1,e1,p1⟩:=ha;exact .trans (by kernel_rfl) (ZCw p0.2 p1.2 hz)) ⟨of_k,Zij,Zhf,tr⟩)
noncomputable def Znh:FuncId×Con:=(23,⟨[.pair (.int .i64) (.int .i64)],[.leaf 3],λp=>Zqd p⟩)
theorem Z6h:KQ Znh:=Zg (Zx (C:=cf0 [ZRg,ZRr] [] [] []) .no Tryz.func23 [] (λv vals x z ha hz=>.trans (by kernel_rfl) (ZMy hz)) ⟨ZUh,qnew_k,tr⟩)
noncomputable def Zlk:FuncId×Con:=(74,⟨[.leaf 1,.leaf 1],[.int .i64],λp=>Zod p.1 p.2⟩)
theorem Zdo:KQ Zlk:=Zg (Zx (C:=cf2 [(54,1),(56,4)] []) (.n (.n (.n (.f (.n (.cut ⟨⟨[],[],[]⟩,[(.norm,⟨[],[],[]⟩),(.ret,⟨[],[],[.s 1000 (.dat (.int .i64))]⟩)]⟩ (.f (.cut ⟨⟨[0,1],[],[.s 5 (.dat (.int .i64))]⟩,[(.ret,⟨[],[],[.s 1000 (.dat (.int .i64))]⟩),(.exit 0,⟨[],[],[]⟩)]⟩ .no)))))))) Tryz.func74 [] (λv vals x z ha hz=>by obtain⟨c0,w0,e0,p0,c1,e1,p1⟩:=ha;exact .trans (by kernel_rfl) ((ZIA (Zmq p0) (Zmq p1)).trans hz)))
noncomputable def ZWe:FuncId×Con:=(148,⟨[.slice (.int .u32)],[.leaf 1],λp=>Zlb p⟩)
theorem Zaf:KQ ZWe:=Zg (ZEk (C:=cf2 [] []) (.n (.n (.f (.j [0] [] [.s 3 (.dat (.int .i64))] (.f (.l [0] [] [.s 3 (.dat (.int .i64))] 0 [0] [] [.s 3 (.dat (.int .i64))] (.f (.f (.f (.j [0,3] [] [.s 15 (.dat .bool)] .no)))))))))) Tryz.func148 [] [.slice (.int .u32)] [.slice (.int .u32)] (λx=>(x)) (λz=>(Zc 4294967296 z)) (λv vals x z ha hz=>by obtain⟨c0,e0,p0⟩:=ha;exact .trans (by kernel_rfl) (by cases hz;exact (rcut_eq (Z7n p0).1 (Z7n p0).2))))
noncomputable def Ztm:FuncId×Con:=(99,⟨[.int .u64],[.leaf 1],λp=>Zmd p⟩)
theorem ZPs:KQ Ztm:=Zg (Zx (C:=cf2 [(54,1),(56,4)] [ZWe]) .no Tryz.func99 [] (λv vals x z ha hz=>by obtain⟨c0,e0,p0⟩:=ha;exact .trans (by kernel_rfl) (Zex p0.2 hz)) ⟨Zaf,tr⟩)
noncomputable def ZLo:FuncId×Con:=(122,⟨[.leaf 1,.int .u32],[.leaf 1,.int .u32],λp=>Zjf p.1 p.2⟩)
theorem Z6q:KQ ZLo:=Zg (Zx (C:=cf2 [(54,1),(56,4)] [ZWe]) (.n (.n (.n (.f (.n (.j [] [] [.s 6 (.own 150 (.int .u32)),.s 7 (.dat (.int .u64))] (.f (.l [0,1] [] [.s 6 (.own 150 (.int .u32)),.s 7 (.dat (.int .u64)),.s 8 (.dat (.int .i64))] 0 [] [] [.s 6 (.own 150 (.int .u32)),.s 7 (.dat (.int .u64))] .no)))))))) Tryz.func122 [] (λv vals x z ha hz=>by obtain⟨c0,w0,e0,p0,c1,e1,p1⟩:=ha;exact .trans (by kernel_rfl) (Ztx p1.2 hz)) ⟨Zaf,tr⟩)
noncomputable def Z3r:FuncId×Con:=(174,⟨[.leaf 1],[.int .i64],λp=>Zoh p⟩)
theorem rbits_k:KQ Z3r:=Zg (Zx (C:=cf2 [(54,1),(56,4)] []) (.n (.n (.n (.f (.n (.j [] [] [.s 3 (.dat (.int .i64))] (.f (.l [] [] [.s 3 (.dat (.int .i64)),.s 4 (.dat (.int .u32))] 0 [] [] [.s 3 (.dat (.int .i64))] .no)))))))) Tryz.func174 [] (λv vals x z ha hz=>.trans (by kernel_rfl) (ZRz hz)))
noncomputable def Zgq:FuncId×Con:=(175,⟨[.leaf 1,.int .i64],[.leaf 1],λp=>Zce p.1 p.2⟩)
theorem Zyy:KQ Zgq:=Zg (Zx (C:=cf2 [(54,1),(56,4)] [ZWe]) (.n (.n (.n (.n (.f (.n (.j [] [] [.s 5 (.own 150 (.int .u32)),.s 6 (.dat (.int .u64))] (.f (.l [0,1] [] [.s 5 (.own 150 (.int .u32)),.s 6 (.dat (.int .u64)),.s 7 (.dat (.int .i64))] 0 [] [] [.s 5 (.own 150 (.int .u32)),.s 6 (.dat (.int .u64))] .no))))))))) Tryz.func175 [] (λv vals x z ha hz=>.trans (by kernel_rfl) (ZTy hz)) ⟨Zaf,tr⟩)
noncomputable def Z4h:FuncId×Con:=(176,⟨[.leaf 1,.leaf 1],[.leaf 1],λp=>Zoa p.1 p.2⟩)
theorem Z3j:KQ Z4h:=Zg (Zx (C:=cf2 [(54,1),(56,4)] [ZWe]) (.n (.n (.f (.n (.j [] [] [.s 5 (.own 150 (.int .u32))] (.f (.l [0,1] [] [.s 5 (.own 150 (.int .u32)),.s 6 (.dat (.int .i64))] 0 [] [] [.s 5 (.own 150 (.int .u32))] (.f (.n (.f (.f (.n (.f (.n (.j [0,1,6] [] [.s 5 (.own 150 (.int .u32)),.s 7 (.dat (.int .u64))] (.f (.l [0,1,6] [] [.s 5 (.own 150 (.int .u32)),.s 7 (.dat (.int .u64)),.s 8 (.dat (.int .i64))] 2 [0,1,6] [] [.s 5 (.own 150 (.int .u32)),.s 7 (.dat (.int .u64))] .no))))))))))))))))) Tryz.func176 [] (λv vals x z ha hz=>.trans (by kernel_rfl) (ZQx hz)) ⟨Zaf,tr⟩)
noncomputable def ZRn:FuncId×Con:=(177,⟨[.leaf 1,.leaf 1],[.leaf 1],λp=>Zcc p.1 p.2⟩)
theorem Z5r:KQ ZRn:=Zg (Zx (C:=cf2 [(54,1),(56,4)] [ZWe]) (.n (.n (.n (.f (.n (.j [] [] [.s 5 (.own 150 (.int .u32))] (.f (.l [0,1] [] [.s 5 (.own 150 (.int .u32)),.s 6 (.dat (.int .i64)),.s 7 (.dat (.int .i64))] 0 [] [] [.s 5 (.own 150 (.int .u32))] (.f (.n (.f (.f (.n (.two (.n (.j [0,1,5,7] [] [.s 8 (.dat (.int .i64))] .no)) (.n (.f (.n (.j [0,1,5,7] [] [.s 6 (.dat (.int .i64)),.s 8 (.dat (.int .i64))] .no)))))))))))))))))) Tryz.func177 [] (λv vals x z ha hz=>.trans (by kernel_rfl) (Zqx hz)) ⟨Zaf,tr⟩)
noncomputable def ZXs:FuncId×Con:=(178,⟨[.leaf 1,.int .i64],[.leaf 1],λp=>ZIh p.1 p.2⟩)
theorem Zfw:KQ ZXs:=Zg (Zx (C:=cf2 [(54,1),(56,4)] [ZWe]) (.n (.n (.f (.n (.j [] [] [.s 5 (.own 150 (.int .u32))] (.f (.l [0,1] [] [.s 5 (.own 150 (.int .u32)),.s 6 (.dat (.int .i64))] 0 [] [] [.s 5 (.own 150 (.int .u32))] (.f (.n (.f (.f (.n (.f (.n (.j [0,1,5,6] [] [.s 7 (.dat (.int .u64))] .no))))))))))))))) Tryz.func178 [] (λv vals x z ha hz=>by obtain⟨c0,w0,e0,p0,c1,e1,p1⟩:=ha;exact .trans (by kernel_rfl) (ZTw p1.2 hz)) ⟨Zaf,tr⟩)
noncomputable def Zeo:FuncId×Con:=(147,⟨[.leaf 1,.leaf 1],[.leaf 1,.leaf 1],λp=>ZPc p.1 p.2⟩)
theorem Z1s:KQ Zeo:=Zg (Zx (C:=cf2 [(54,1),(56,4)] [Zlk,Ztm,ZLo,ZWe,Z3r,Zgq,Z4h,ZRn,ZXs]) (.n (.n (.n (.n (.n (.n (.n (.f (.n (.j [8] [] [.s 10 (.dat (.leaf 1)),.s 12 (.own 150 (.int .u32))] (.f (.l [8,9,11] [] [.s 10 (.dat (.leaf 1)),.s 12 (.own 150 (.int .u32)),.s 13 (.dat (.int .i64))] 0 [8] [] [.s 10 (.dat (.leaf 1)),.s 12 (.own 150 (.int .u32))] (.f (.n (.f (.j [8,9,11,13] [] [.s 10 (.dat (.leaf 1)),.s 12 (.own 150 (.int .u32))] (.f (.n (.two (.n (.j [8,9,10,11,12,13] [] [.s 14 (.dat (.slice (.int .u32)))] .no)) (.n (.n (.two (.n (.j [8,9,10,11,12,13,14] [] [.s 15 (.dat (.int .u64))] .no)) (.n (.two (.n (.j [8,9,10,11,12,13,14] [] [.s 16 (.dat (.int .u64))] .no)) (.n (.f (.j [8,9,10,11,12,13,14] [] [.s 16 (.dat (.int .u64)),.s 17 (.dat (.leaf 1))] (.f (.l [8,9,10,11,12,13,14] [] [.s 16 (.dat (.int .u64)),.s 17 (.dat (.leaf 1))] 2 [8,9,10,11,12,13,14] [] [.s 16 (.dat (.int .u64)),.s 17 (.dat (.leaf 1))] .no))))))))))))))))))))))))))))) Tryz.func147 [] (λv vals x z ha hz=>.trans (by kernel_rfl) (Zxy hz)) ⟨Zdo,ZPs,Z6q,Zaf,rbits_k,Zyy,Z3j,Z5r,Zfw,tr⟩)
noncomputable def ZXq:FuncId×Con:=(146,⟨[.leaf 1,.leaf 1],[.leaf 1],λp=>rgcF p.1 p.2⟩)
theorem rgcd_k:KQ ZXq:=Zg (Zx (C:=cf2 [(54,1),(56,4)] [Zeo]) (.n (.f (.j [] [] [.s 0 (.dat (.leaf 1))] (.f (.l [] [] [.s 0 (.dat (.leaf 1)),.s 1 (.dat (.leaf 1))] 0 [] [] [.s 0 (.dat (.leaf 1))] .no))))) Tryz.func146 [] (λv vals x z ha hz=>.trans (by kernel_rfl) (rgcF_eq hz)) ⟨Z1s,tr⟩)
noncomputable def ZNf:FuncId×Con:=(98,⟨[.bool,.leaf 1,.leaf 1],[.leaf 4],λp=>Zib p.1 p.2.1 p.2.2⟩)
theorem Zrh:KQ ZNf:=Zg (Zx (C:=cf2 [(54,1),(56,4)] [ZXq,Zeo]) .no Tryz.func98 [] (λv vals x z ha hz=>.trans (by kernel_rfl) (Zfy hz)) ⟨rgcd_k,Z1s,tr⟩)
noncomputable def Zxc:FuncId×Con:=(54,⟨[.int .i64],[.leaf 4],λp=>Z0 p⟩)
theorem ZRc:KQ Zxc:=Zg (Zx (C:=cf2 [(54,1),(56,4)] [ZNf,Ztm]) .no Tryz.func54 [] (λv vals x z ha hz=>by obtain⟨c0,e0,p0⟩:=ha;exact .trans (by kernel_rfl) (Zdx p0.2 hz)) ⟨Zrh,ZPs,tr⟩)
noncomputable def Zas:FuncId×Con:=(55,⟨[.int .i64,.int .i64],[.leaf 4,.int .i64],λp=>Zii p.1 p.2⟩)
theorem rnew_k:KQ Zas:=Zg (Zx (C:=cf2 [(54,1),(56,4)] [Zxc,ZNf]) .no Tryz.func55 [] (λv vals x z ha hz=>by obtain⟨c0,w0,e0,p0,c1,e1,p1⟩:=ha;exact .trans (by kernel_rfl) (Z2A p0.2 p1.2 hz)) ⟨ZRc,Zrh,tr⟩)
noncomputable def Zgi:FuncId×Con:=(25,⟨[.pair (.int .i64) (.int .i64)],[.leaf 4],λp=>ZJd p⟩)
theorem ZLl:KQ Zgi:=Zg (Zx (C:=cf2 [(54,1),(56,4)] [Zxc,Zas]) .no Tryz.func25 [] (λv vals x z ha hz=>.trans (by kernel_rfl) (rofF_eq hz)) ⟨ZRc,rnew_k,tr⟩)
noncomputable def Zlt:FuncId×Con:=(17,⟨[.pair (.pair (.int .i64) (.int .i64)) (.pair (.pair (.int .i64) (.int .i64)) (.pair (.int .i64) (.int .i64)))],[.pair (.leaf 3) (.pair (.leaf 3) (.leaf 3)),.pair (.leaf 4) (.pair (.leaf 4) (.leaf 4))],λp=>Z6p p⟩)
theorem drum8_k:KQ Zlt:=Zg (Zp (C:=cf0 [Znh,Zgi] [] [] []) .no Tryz.func17 [] (λ_=>by kernel_rfl) ⟨Z6h,ZLl,tr⟩)
noncomputable def ZUg:FuncId×Con:=(29,⟨[.int .i64],[.leaf 3],λp=>ZEb p⟩)
theorem Z8i:KQ ZUg:=Zg (Zp (C:=cf0 [ZRg] [] [] []) .no Tryz.func29 [] (λ_=>by kernel_rfl) ⟨ZUh,tr⟩)
noncomputable def ZCr:FuncId×Con:=(161,⟨[.leaf 2],[.int .i64],λp=>Zvj p⟩)
theorem isign_k:KQ ZCr:=Zg (Zx (C:=cf0 [] [] [] []) .no Tryz.func161 [] (λv vals x z ha hz=>.trans (by kernel_rfl) (ZPA hz)))
noncomputable def Zql:FuncId×Con:=(125,⟨[.leaf 3],[.int .i64],λp=>Zzf p⟩)
theorem Zoo:KQ Zql:=Zg (Zx (C:=cf0 [ZCr] [] [] []) .no Tryz.func125 [] (λv vals x z ha hz=>.trans (by kernel_rfl) (ZaB hz)) ⟨isign_k,tr⟩)
noncomputable def ZTp:FuncId×Con:=(124,⟨[.leaf 3],[.bool],λp=>Zyp p⟩)
theorem Zrx:KQ ZTp:=Zg (Zp (C:=cf0 [Zql] [] [] []) .no Tryz.func124 [] (λ_=>by kernel_rfl) ⟨Zoo,tr⟩)
noncomputable def Zso:FuncId×Con:=(76,⟨[.slice (.leaf 3)],[.bool],λp=>ZLm p⟩)
theorem ZLt:KQ Zso:=Zg (Zp (C:=cf0 [ZTp] [] [] []) .no Tryz.func76 [(123,Tryz.f123,.r [] [] [.s 1000 (.dat .bool)] .no),(90,Tryz.f90,.r [] [] [.s 1000 (.dat (.int .i64))] (.n (.f (.n (.cut ⟨⟨[],[],[]⟩,[(.norm,⟨[],[],[]⟩),(.ret,⟨[],[],[.s 1000 (.dat (.int .i64))]⟩)]⟩ (.f (.cut ⟨⟨[0,1,7],[],[.s 8 (.dat (.int .i64))]⟩,[(.ret,⟨[],[],[.s 1000 (.dat (.int .i64))]⟩),(.exit 0,⟨[],[],[]⟩)]⟩ .no)))))))] (λ_=>by kernel_rfl) ⟨Zrx,tr⟩ tr tr ⟨⟨Tryz.func123,λ_ _=>by kernel_rfl⟩,⟨Tryz.func90,λ_ _=>by kernel_rfl⟩,tr⟩)
noncomputable def ZXt:FuncId×Con:=(41,⟨[.pair (.leaf 3) (.pair (.leaf 3) (.leaf 3))],[.bool],λp=>Ztr p⟩)
theorem valid_k:KQ ZXt:=Zg (Zp (C:=cf0 [Zso] [] [] []) .no Tryz.func41 [] (λ_=>by kernel_rfl) ⟨ZLt,tr⟩)
noncomputable def Zqj:FuncId×Con:=(80,⟨[.leaf 0],[.leaf 0],λp=>Zmc p⟩)
theorem ZXk:KQ Zqj:=Zg (Zx (C:=cf0 [Z2e] [] [] []) .no Tryz.func80 [] (λv vals x z ha hz=>.trans (by kernel_rfl) (Ztw hz)) ⟨ZEg,tr⟩)
noncomputable def ZJj:FuncId×Con:=(131,⟨[.int .u64,.int .u64,.int .u64],[.int .u64,.int .u64],λp=>ZMb p.1 p.2.1 p.2.2⟩)
theorem ZZr:Zre Tryz.prog ZJj.1 ZJj.2:=λw v vals x z _ ha hz=>by
 obtain⟨c0,w0,e0,p0,c1,w1,e1,p1,c2,e2,p2⟩:=ha
 subst e0 e1 e2
 obtain⟨rfl,h0⟩:=p0
 obtain⟨rfl,h1⟩:=p1
 obtain⟨rfl,h2⟩:=p2
 have p0:(Zf .u64).rel v [.int .u64 x.1] x.1:=⟨rfl,h0⟩
 have p1:(Zf .u64).rel v [.int .u64 x.2.1] x.2.1:=⟨rfl,h1⟩
 exact .inr ⟨.tuple #[.int .u64 z.1,.int .u64 z.2],λw=>Zqn (show Zrf Tryz.prog 131 add64Entry from ⟨_,Tryz.func131,by kernel_rfl,by kernel_rfl,by kernel_rfl,by kernel_rfl⟩) hz w,_,rfl,_,_,rfl,⟨rfl,Zhn hz⟩,_,rfl,⟨rfl,addW_hi p0.2 p1.2 hz⟩⟩
noncomputable def ZLh:FuncId×Con:=(81,⟨[.leaf 0,.leaf 0],[.leaf 0],λp=>ZDc p.1 p.2⟩)
theorem Z2i:KQ ZLh:=Zg (Zx (C:=cf2 [(40,0)] [ZWm,ZAm,ZJj,ZIf]) (.n (.n (.n (.n (.f (.n (.j [] [] [.s 5 (.own 159 (.int .u64))] (.f (.l [1,26,27] [] [.s 5 (.own 159 (.int .u64)),.s 28 (.dat (.int .i64))] 0 [] [] [.s 5 (.own 159 (.int .u64))] (.f (.n (.n (.f (.f (.n (.n (.f (.n (.j [1,6,26,27,28] [] [.s 5 (.own 159 (.int .u64)),.s 8 (.dat (.int .u64))] (.f (.l [1,6,7,26,27,28,33,34] [] [.s 5 (.own 159 (.int .u64)),.s 8 (.dat (.int .u64)),.s 35 (.dat (.int .i64))] 2 [1,6,26,27,28] [] [.s 5 (.own 159 (.int .u64)),.s 8 (.dat (.int .u64))] .no))))))))))))))))))))) Tryz.func81 [] (λv vals x z ha hz=>.trans (by kernel_rfl) (ZDy hz)) ⟨Z5q,mul64_k,ZZr,ZJh,tr⟩)
noncomputable def Z1n:FuncId×Con:=(82,⟨[.leaf 2,.leaf 0],[.leaf 2],λp=>Zef p.1 p.2⟩)
theorem Zys:KQ Z1n:=Zg (Zx (C:=cf0 [ZLh,ZJe] [] [] []) .no Tryz.func82 [] (λv vals x z ha hz=>.trans (by kernel_rfl) (Z8v hz)) ⟨Z2i,Zhf,tr⟩)
noncomputable def Zuo:FuncId×Con:=(133,⟨[.leaf 0,.leaf 0],[.leaf 0],λp=>Zrg p.1 p.2⟩)
theorem Zbs:KQ Zuo:=Zg (Zx (C:=cf2 [(40,0)] [ZJj]) (.n (.two (.n (.j [] [] [.s 0 (.dat (.leaf 0)),.s 1 (.dat (.leaf 0))] .no)) (.n (.n (.two (.n (.j [] [] [.s 5 (.own 159 (.int .u64)),.s 6 (.dat (.int .u64))] (.f (.l [1,23,24] [] [.s 5 (.own 159 (.int .u64)),.s 6 (.dat (.int .u64)),.s 25 (.dat (.int .i64))] 0 [] [] [.s 5 (.own 159 (.int .u64)),.s 6 (.dat (.int .u64))] (.f (.n (.n (.f (.f (.n (.n (.f (.n (.j [1,5,6,7,8,23,24,25] [] [.s 9 (.dat (.int .u64))] .no)))))))))))))) (.f (.n (.j [] [] [.s 5 (.own 159 (.int .u64))] .no)))))))) Tryz.func133 [] (λv vals x z ha hz=>.trans (by kernel_rfl) (Zwv hz)) ⟨ZZr,tr⟩)
noncomputable def ZUn:FuncId×Con:=(167,⟨[.int .u64,.int .u64,.int .u64],[.int .u64,.int .u64],λp=>Zxd p.1 p.2.1 p.2.2⟩)
theorem sub64_k:Zre Tryz.prog ZUn.1 ZUn.2:=λw v vals x z _ ha hz=>by
 obtain⟨c0,w0,e0,p0,c1,w1,e1,p1,c2,e2,p2⟩:=ha
 subst e0 e1 e2
 obtain⟨rfl,h0⟩:=p0
 obtain⟨rfl,h1⟩:=p1
 obtain⟨rfl,h2⟩:=p2
 have p0:(Zf .u64).rel v [.int .u64 x.1] x.1:=⟨rfl,h0⟩
 have p1:(Zf .u64).rel v [.int .u64 x.2.1] x.2.1:=⟨rfl,h1⟩
 exact .inr ⟨.tuple #[.int .u64 z.1,.int .u64 z.2],λw=>Zis (show Zrf Tryz.prog 167 Zbl from ⟨_,Tryz.func167,by kernel_rfl,by kernel_rfl,by kernel_rfl,by kernel_rfl⟩) p0.2 p1.2 hz w,_,rfl,_,_,rfl,⟨rfl,ZNp hz⟩,_,rfl,⟨rfl,Zvq hz⟩⟩
noncomputable def ZKr:FuncId×Con:=(135,⟨[.leaf 0,.leaf 0],[.leaf 0],λp=>ZSg p.1 p.2⟩)
theorem minus_k:KQ ZKr:=Zg (Zx (C:=cf2 [(40,0)] [ZIf,ZUn]) (.n (.n (.n (.f (.n (.j [] [] [.s 5 (.own 159 (.int .u64))] (.f (.l [1,13,14] [] [.s 5 (.own 159 (.int .u64)),.s 6 (.dat (.int .u64)),.s 15 (.dat (.int .i64))] 0 [] [] [.s 5 (.own 159 (.int .u64))] (.f (.n (.n (.f (.f (.n (.n (.f (.n (.j [1,5,6,7,8,13,14,15] [] [.s 9 (.dat (.int .u64))] .no)))))))))))))))))) Tryz.func135 [] (λv vals x z ha hz=>.trans (by kernel_rfl) (ZvA hz)) ⟨ZJh,sub64_k,tr⟩)
noncomputable def Znp:FuncId×Con:=(83,⟨[.leaf 2,.leaf 2],[.leaf 2],λp=>Znj p.1 p.2⟩)
theorem iplus_k:KQ Znp:=Zg (Zx (C:=cf0 [ZJe,Zuo,cmp_q,ZKr] [] [] []) .no Tryz.func83 [] (λv vals x z ha hz=>.trans (by kernel_rfl) (ZOx hz)) ⟨Zhf,Zbs,cmp_k,minus_k,tr⟩)
noncomputable def Zpg:FuncId×Con:=(44,⟨[.leaf 3,.leaf 3],[.leaf 3],λp=>Z3b p.1 p.2⟩)
theorem ZDg:KQ Zpg:=Zg (Zx (C:=cf0 [ZQg,Zqj,ZLh,Z1n,Znp] [] [] []) .no Tryz.func44 [] (λv vals x z ha hz=>.trans (by kernel_rfl) (Zvw hz)) ⟨Zij,ZXk,Z2i,Zys,iplus_k,tr⟩)
noncomputable def Zqq:FuncId×Con:=(126,⟨[.leaf 2],[.leaf 2],λp=>ZQh p⟩)
theorem ZSz:KQ Zqq:=Zg (Zx (C:=cf0 [ZJe] [] [] []) .no Tryz.func126 [] (λv vals x z ha hz=>.trans (by kernel_rfl) (ZQA hz)) ⟨Zhf,tr⟩)
noncomputable def Z4k:FuncId×Con:=(77,⟨[.leaf 3],[.leaf 3],λp=>Zae p⟩)
theorem ZVn:KQ Z4k:=Zg (Zx (C:=cf0 [Zqq] [] [] []) .no Tryz.func77 [] (λv vals x z ha hz=>.trans (by kernel_rfl) (ZAw hz)) ⟨ZSz,tr⟩)
noncomputable def ZLf:FuncId×Con:=(42,⟨[.leaf 3,.leaf 3],[.leaf 3],λp=>Z8b p.1 p.2⟩)
theorem Zhh:KQ ZLf:=Zg (Zx (C:=cf0 [Zpg,Z4k] [] [] []) .no Tryz.func42 [] (λv vals x z ha hz=>.trans (by kernel_rfl) (ZYw hz)) ⟨ZDg,ZVn,tr⟩)
noncomputable def ZNt:FuncId×Con:=(79,⟨[.leaf 2,.leaf 2],[.leaf 2],λp=>ZPi p.1 p.2⟩)
theorem ZBx:KQ ZNt:=Zg (Zx (C:=cf0 [ZLh,ZJe] [] [] []) .no Tryz.func79 [] (λv vals x z ha hz=>.trans (by kernel_rfl) (Zqv hz)) ⟨Z2i,Zhf,tr⟩)
noncomputable def ZFg:FuncId×Con:=(43,⟨[.leaf 3,.leaf 3],[.leaf 3],λp=>Zvb p.1 p.2⟩)
theorem Z4i:KQ ZFg:=Zg (Zx (C:=cf0 [ZQg,ZNt,Zqj,ZLh] [] [] []) .no Tryz.func43 [] (λv vals x z ha hz=>.trans (by kernel_rfl) (ZRy hz)) ⟨Zij,ZBx,ZXk,Z2i,tr⟩)
noncomputable def ZJi:FuncId×Con:=(11,⟨[.leaf 3],[.bool],λp=>ZUa p⟩)
theorem ZMl:KQ ZJi:=Zg (Zx (C:=cf0 [] [] [] []) .no Tryz.func11 [] (λv vals x z ha hz=>.trans (by kernel_rfl) (ZFy hz)))
noncomputable def Zri:FuncId×Con:=(84,⟨[.leaf 3,.leaf 3],[.leaf 3,.int .i64],λp=>Zfd p.1 p.2⟩)
theorem Z8j:KQ Zri:=Zg (Zx (C:=cf0 [ZJi,ZQg,Zqj,ZLh,Z1n,ZJe] [] [] []) (.n (.n (.f (.j [2,3,4] [] [.s 6 (.box 42 (.dat (.leaf 2)))] .no)))) Tryz.func84 [] (λv vals x z ha hz=>.trans (by kernel_rfl) (ZYy hz)) ⟨ZMl,Zij,ZXk,Z2i,Zys,Zhf,tr⟩)
noncomputable def tby_q:FuncId×Con:=(45,⟨[.leaf 3,.leaf 3],[.leaf 3],λp=>Z5j p.1 p.2⟩)
theorem tby_k:KQ tby_q:=Zg (Zp (C:=cf0 [Zri] [] [] []) .no Tryz.func45 [] (λ_=>by kernel_rfl) ⟨Z8j,tr⟩)
noncomputable def Zbq:FuncId×Con:=(18,⟨[.pair (.leaf 3) (.pair (.leaf 3) (.leaf 3)),.leaf 3,.leaf 3],[.leaf 3,.int .i64],λp=>Zir p.1 p.2.1 p.2.2⟩)
theorem force_k:KQ Zbq:=Zg (Zp (C:=cf0 [ZUg,ZXt,ZLf,ZFg,Zpg,tby_q] [] [] []) .no Tryz.func18 [] (λ_=>by kernel_rfl) ⟨Z8i,valid_k,Zhh,Z4i,ZDg,tby_k,tr⟩)
noncomputable def Zqr:FuncId×Con:=(48,⟨[.int .i64,.int .i64],[.leaf 3],λp=>Zio p.1 p.2⟩)
theorem tsame_k:KQ Zqr:=Zg (Zp (C:=cf0 [ZUg] [] [] []) .no Tryz.func48 [] (λ_=>by kernel_rfl) ⟨Z8i,tr⟩)
noncomputable def Zwr:FuncId×Con:=(86,⟨[.slice (.slice (.int .i64))],[.int .i64,.int .i64],λp=>Zps p⟩)
theorem table_k:KQ Zwr:=Zg (Zp (C:=cf0 [] [] [] []) (.n (.two (.f (.j [] [] [.s 1 (.box 74 (.dat (.slice (.slice (.int .i64))))),.s 21 (.dat .bool)] .no)) (.n (.f (.n (.cut ⟨⟨[],[],[]⟩,[(.norm,⟨[],[],[.s 4 (.dat (.int .i64))]⟩),(.ret,⟨[],[],[.s 1000 (.dat (.int .i64)),.s 1001 (.dat (.int .i64))]⟩)]⟩ (.f (.cut ⟨⟨[22,23],[],[.s 4 (.dat (.int .i64)),.s 24 (.dat (.int .i64))]⟩,[(.ret,⟨[],[],[.s 1000 (.dat (.int .i64)),.s 1001 (.dat (.int .i64))]⟩),(.exit 0,⟨[],[],[.s 4 (.dat (.int .i64))]⟩)]⟩ (.f (.n (.n (.f (.f (.n (.n (.cut ⟨⟨[],[],[]⟩,[(.norm,⟨[22,23,24],[],[.s 4 (.dat (.int .i64))]⟩),(.ret,⟨[],[],[.s 1000 (.dat (.int .i64)),.s 1001 (.dat (.int .i64))]⟩)]⟩ (.f (.cut ⟨⟨[22,23,24,28,29],[],[.s 4 (.dat (.int .i64)),.s 30 (.dat (.int .i64))]⟩,[(.ret,⟨[],[],[.s 1000 (.dat (.int .i64)),.s 1001 (.dat (.int .i64))]⟩),(.exit 2,⟨[22,23,24],[],[.s 4 (.dat (.int .i64))]⟩)]⟩ (.f (.n (.n (.f (.f (.n (.f (.f (.j [4,8,22,23,24,28,29,30] [] [.s 39 (.dat .bool)] .no))))))))))))))))))))))))))) Tryz.func86 [(136,Tryz.f136,.r [] [] [.s 1000 (.dat .bool)] .no),(137,Tryz.f137,.r [] [] [.s 1000 (.dat .bool)] .no),(168,Tryz.f168,.r [] [] [.s 1000 (.dat (.int .i64))] (.n (.f (.n (.cut ⟨⟨[],[],[]⟩,[(.norm,⟨[],[],[]⟩),(.ret,⟨[],[],[.s 1000 (.dat (.int .i64))]⟩)]⟩ (.f (.cut ⟨⟨[0,1,7],[],[.s 8 (.dat (.int .i64))]⟩,[(.ret,⟨[],[],[.s 1000 (.dat (.int .i64))]⟩),(.exit 0,⟨[],[],[]⟩)]⟩ .no)))))))] (λ_=>by kernel_rfl) tr tr tr ⟨⟨Tryz.func136,λ_ _=>by kernel_rfl⟩,⟨Tryz.func137,λ_ _=>by kernel_rfl⟩,⟨Tryz.func168,λ_ _=>by kernel_rfl⟩,tr⟩)
noncomputable def ZPr:FuncId×Con:=(20,⟨[.slice (.slice (.int .i64))],[.leaf 3,.int .i64],λp=>Z8s p⟩)
theorem kappa_k:KQ ZPr:=Zg (Zp (C:=cf0 [Zqr,ZUg,ZLf,Zri,Zwr,ZFg,Zpg,tby_q] [] [] []) .no Tryz.func20 [(47,Tryz.f47,.r [] [] [.s 1000 (.dat (.leaf 3)),.s 1001 (.dat (.int .i64))] (.n (.n (.n (.n (.f (.j [4] [] [.s 7 (.dat (.int .i64)),.s 10 (.box 44 (.dat (.leaf 3)))] .no))))))),(87,Tryz.f87,.r [] [] [.s 1000 (.dat (.leaf 3)),.s 1001 (.dat (.leaf 3))] (.n (.two (.j [0,1,2,6,7] [] [.s 8 (.own 3 (.int .i64)),.s 9 (.own 3 (.int .i64))] .no) (.two (.n (.j [0,1,2,6,7] [] [.s 8 (.own 3 (.int .i64)),.s 9 (.own 3 (.int .i64))] (.f (.l [0,1,2,6,7,24,25] [] [.s 8 (.own 3 (.int .i64)),.s 9 (.own 3 (.int .i64)),.s 26 (.dat (.int .i64))] 0 [0,1,2,6,7] [] [.s 8 (.own 3 (.int .i64)),.s 9 (.own 3 (.int .i64))] (.f (.n (.n (.f (.f (.n (.n (.j [0,1,2,6,7,24,25,26] [] [.s 8 (.own 3 (.int .i64)),.s 9 (.own 3 (.int .i64))] (.f (.l [0,1,2,6,7,10,24,25,26,31,32] [] [.s 8 (.own 3 (.int .i64)),.s 9 (.own 3 (.int .i64)),.s 33 (.dat (.int .i64))] 2 [0,1,2,6,7,24,25,26] [] [.s 8 (.own 3 (.int .i64)),.s 9 (.own 3 (.int .i64))] .no)))))))))))))) (.f (.n (.j [1,6,7] [] [.l (.sl 6) (.box 44 (.dat (.leaf 3))),.l (.sl 7) (.box 44 (.dat (.leaf 3)))] (.f (.l [1,2,6,7,8,9,54,55] [] [.l (.sl 6) (.box 44 (.dat (.leaf 3))),.l (.sl 7) (.box 44 (.dat (.leaf 3))),.s 56 (.dat (.int .i64))] 4 [1,6,7] [] [.l (.sl 6) (.box 44 (.dat (.leaf 3))),.l (.sl 7) (.box 44 (.dat (.leaf 3)))] (.f (.n (.n (.f (.f (.n (.n (.j [1,2,6,7,8,9,54,55,56] [] [.l (.sl 6) (.box 44 (.dat (.leaf 3))),.l (.sl 7) (.box 44 (.dat (.leaf 3)))] (.f (.l [1,2,6,7,8,9,14,54,55,56,61,62] [] [.l (.sl 6) (.box 44 (.dat (.leaf 3))),.l (.sl 7) (.box 44 (.dat (.leaf 3))),.s 63 (.dat (.int .i64))] 6 [1,2,6,7,8,9,54,55,56] [] [.l (.sl 6) (.box 44 (.dat (.leaf 3))),.l (.sl 7) (.box 44 (.dat (.leaf 3)))] .no)))))))))))))))))))] (λ_=>by kernel_rfl) ⟨tsame_k,Z8i,Zhh,Z8j,table_k,Z4i,ZDg,tby_k,tr⟩ tr tr ⟨⟨Tryz.func47,λ_ _=>by kernel_rfl⟩,⟨Tryz.func87,λ_ _=>by kernel_rfl⟩,tr⟩)
noncomputable def ZYp:FuncId×Con:=(49,⟨[.slice (.pair (.int .i64) (.int .i64))],[.slice (.leaf 3),.slice (.leaf 4)],λp=>Zpu p⟩)
theorem list8_k:KQ ZYp:=Zg (Zp (C:=cf0 [Znh,Zgi] [] [] []) (.n (.n (.n (.f (.n (.j [] [] [.s 4 (.own 44 (.leaf 3)),.s 5 (.own 56 (.leaf 4))] (.f (.l [8,9] [] [.s 4 (.own 44 (.leaf 3)),.s 5 (.own 56 (.leaf 4)),.s 10 (.dat (.int .i64))] 0 [] [] [.s 4 (.own 44 (.leaf 3)),.s 5 (.own 56 (.leaf 4))] .no)))))))) Tryz.func49 [] (λ_=>by kernel_rfl) ⟨Z6h,ZLl,tr⟩)
noncomputable def ZDu:FuncId×Con:=(21,⟨[.pair (.int .i64) (.int .i64),.slice (.pair (.int .i64) (.int .i64))],[.pair (.leaf 3) (.slice (.leaf 3)),.pair (.leaf 4) (.slice (.leaf 4))],λp=>Zkt p.1 p.2⟩)
theorem ZXA:KQ ZDu:=Zg (Zp (C:=cf0 [Znh,Zgi,ZYp] [] [] []) .no Tryz.func21 [] (λ_=>by kernel_rfl) ⟨Z6h,ZLl,list8_k,tr⟩)
noncomputable def Zsl:FuncId×Con:=(88,⟨[.leaf 3,.leaf 3],[.int .i64],λp=>Zgf p.1 p.2⟩)
theorem Z1m:KQ Zsl:=Zg (Zx (C:=cf0 [ZLf,Zql] [] [] []) .no Tryz.func88 [] (λv vals x z ha hz=>.trans (by kernel_rfl) (Z2x hz)) ⟨Zhh,Zoo,tr⟩)
noncomputable def Zrp:FuncId×Con:=(50,⟨[.pair (.leaf 3) (.slice (.leaf 3))],[.int .i64],λp=>Zju p⟩)
theorem ZEy:KQ Zrp:=Zg (Zp (C:=cf0 [Zso,Zsl] [] [] []) (.n (.n (.two (.f (.j [1] [] [.s 19 (.dat .bool)] .no)) (.f (.n (.cut ⟨⟨[],[],[]⟩,[(.norm,⟨[],[],[]⟩),(.ret,⟨[],[],[.s 1000 (.dat (.int .i64))]⟩)]⟩ (.f (.cut ⟨⟨[1,21,22],[],[.s 23 (.dat (.int .i64))]⟩,[(.ret,⟨[],[],[.s 1000 (.dat (.int .i64))]⟩),(.exit 0,⟨[],[],[]⟩)]⟩ (.f (.n (.n (.f (.f (.n (.f (.j [1,21,22,23] [] [.s 40 (.dat .bool)] .no)))))))))))))))) Tryz.func50 [] (λ_=>by kernel_rfl) ⟨ZLt,Z1m,tr⟩)
noncomputable def Zgs (x:Rat) (step:Rat):Option (Rat×Int) :=
 bnd (Zzf step) λd =>
 ifb (decide (d≤(0:Int)))
 (some (((0:Rat),(1:Int))))
 (bnd (Zfd x step) λb =>
 bnd (Z3f b.1 (0:Int)) λa =>
 bnd (ofF (1:Int)) λe =>
 bnd (Zfb (2:Int)) λf =>
 bnd (Z8b b.1 a) λg =>
 bnd (Z7d e f) λh =>
 bnd (Zgf g h) λc =>
 bnd (ifb (decide ((0:Int)<c))
 (some true)
 (ifb (c==(0:Int))
 (bnd (bitF ((a.num).natAbs) (0:Int)) λi =>
 some (i==(1:Int)))
 (some false)))
 (λ(j:Bool) =>
 (bnd (ifb (j)
 (bnd (Z1c (1:Int)) λk =>
 bnd (Z3b a k) λl =>
 some l)
 (some a))
 (λ(m:Rat) =>
 (bnd (Zvb m step) λn =>
 some ((n,(0:Int))))))))
noncomputable def ZIu (x:Rat) (k:Int):Option (Rat) :=
 bnd (ZUb ((x.num).natAbs) (min (max k (0:Int)) (1000:Int))) λa =>
 bnd (ZKa (decide (x.num<0)) a) λb =>
 bnd (Zmc ((Zwa x.den))) λc =>
 bnd (ZOh b c) λd =>
 bnd (Zfb (1:Int)) λe =>
 bnd (ZUb e (min (max k (0:Int)) (1000:Int))) λf =>
 bnd (Zgc d f) λg =>
 some g
noncomputable def ZFq (x:Int) (d:Nat):Option (Int) :=
 bnd (ZEc x.natAbs d) λa =>
 bnd (ifb (decide (x<0))
 (some (decide ((0:Int)<(((Zc 18446744073709551616 a.2)).length:Int))))
 (some false))
 (λ(b:Bool) =>
 (bnd (ifb (b)
 (bnd (Zfb (1:Int)) λc =>
 bnd (Zrg a.1 c) λe =>
 some e)
 (some a.1))
 (λ(f:Nat) =>
 (bnd (ZKa (decide (x<0)) f) λg =>
 some g))))
noncomputable def bit_m (a:Nat) (i:Int):Option (Int) :=
 bnd (ifb (decide (i<(0:Int)))
 (some true)
 (bnd (quo .i64 i (64:Int)) λb =>
 some (decide ((((Zc 18446744073709551616 a)).length:Int)≤b))))
 (λ(c:Bool) =>
 (ifb (c)
 (some (0:Int))
 (bnd (quo .i64 i (64:Int)) λd =>
 bnd (idx ((Zc 18446744073709551616 a)) d) λe =>
 bnd (rem .i64 i (64:Int)) λf =>
 bnd (ZN .u64 e f) λg =>
 some (Z8 .u64 g (1:Int)))))
theorem ZDx {n d:Nat} (hd:d≠0):(-(n:Int)) / (d:Int)=if n%d=0 then -((n / d:Nat):Int) else -((n / d+1:Nat):Int):=by
 have h1:=Nat.div_add_mod n d;have h2:=Nat.mod_lt n (by omega:0<d);generalize n / d=q at *;generalize n%d=r at *;subst h1;split
 ·rename_i h0;subst h0;rw[Nat.add_zero];have:(-((d*q:Nat):Int))=(d:Int)*(-(q:Int)):=by grind
  rw[this,Int.mul_ediv_cancel_left _ (by omega)]
 ·rename_i h0;have e:(-((d*q+r:Nat):Int))=((d-r:Nat):Int)+(d:Int)*(-((q+1:Nat):Int)):=by
   have:((d-r:Nat):Int)=(d:Int)-r:=by omega
   rw[this];grind
  rw[e,Int.add_mul_ediv_left _ _ (by omega),Int.ediv_eq_zero_of_lt (by omega) (by omega),Int.zero_add]
theorem Zdw {x:Int} {d:Nat} {z:Int} (h:ZOh x d=some z):ZFq x d=some z:=by
 unfold ZOh at h;split at h
 ·rename_i hh;obtain⟨h1,h2,h3⟩:=hh
  cases h
  unfold ZFq;have e:ZEc x.natAbs d=some (x.natAbs / d,x.natAbs%d):=by unfold ZEc;rw[iP ⟨h1,h2,h3⟩]
  rw[e,Za];simp only;have hq:okN (x.natAbs / d):=ZMk (Nat.div_le_self _ _) h1;have h1':okN 1:=Z9 (by decide);by_cases hx:x<0
  ·rw[dTq hx,Ze,Za];obtain⟨n,rfl⟩:∃ n:Nat,x = -(n:Int):=⟨x.natAbs,by omega⟩;rw[Int.natAbs_neg,Int.natAbs_natCast] at *;rw[ZDx h3];by_cases h0:n%d=0
   ·rw[h0,Z7];show bnd (ifb (decide ((0:Int)<0)) _ _) _=_;rw[show decide ((0:Int)<0)=false from rfl,Zd,Za,iP rfl];rfl
   ·have hpos:=List.length_pos_iff.2 ((Zfc (n:=n%d) (B:=18446744073709551616) (by decide)).2 h0);rw[dTq (show (0:Int)<((Zc 18446744073709551616 (n%d)).length:Int) by omega),Ze,iN h0];unfold Zfb Zrg ZKa;rw[Za,iP ⟨hq,h1'⟩];rfl
  ·rw[dFq hx,Zd,Za,Zd,Za];obtain⟨n,rfl⟩:=oZ (show 0≤x by omega);unfold ZKa;simp[bnd]
 ·cases h
theorem and_one {a:Nat} (h:a<18446744073709551616):Z8 .u64 (a:Int) 1=((a%2:Nat):Int):=by
 unfold Z8;rw[wrap_u64];have h1:(BitVec.ofInt IntKind.u64.bits (a:Int) &&& BitVec.ofInt IntKind.u64.bits 1).toNat=a%2:=by
  rw[BitVec.toNat_and];have e1:(BitVec.ofInt IntKind.u64.bits (a:Int)).toNat=a:=by
   show (BitVec.ofInt 64 (a:Int)).toNat=a;rw[BitVec.toNat_ofInt];simp;omega
  have e2:(BitVec.ofInt IntKind.u64.bits 1).toNat=2^1-1:=by decide
  rw[e1,e2,Nat.and_two_pow_sub_one_eq_mod]
 rw[h1];omega
theorem bitF_eq {a:Nat} {i z:Int} (h:bitF a i=some z):bit_m a i=some z:=by
 unfold bitF at h;split at h
 ·rename_i hh;obtain⟨h1,rfl⟩:=hh
  cases h
  unfold bit_m;have e0:quo .i64 0 64=some 0:=by decide
  have e1:rem .i64 0 64=some 0:=by decide
  rw[show decide ((0:Int)<0)=false from rfl,Zd,e0,Za,Za];by_cases h0:a=0
  ·subst h0;rw[Z7];rfl
  ·have hpos:=List.length_pos_iff.2 ((Zfc (n:=a) (B:=18446744073709551616) (by decide)).2 h0);rw[dFq (by omega),Zd,Za,e1];have e2:idx (Zc 18446744073709551616 a) 0=some ((a%18446744073709551616:Nat):Int):=by rw[Zqc (by decide) h0];rfl
   rw[e2,Za,Za];have e3:ZN .u64 ((a%18446744073709551616:Nat):Int) 0=some ((a%18446744073709551616:Nat):Int):=by
    have:=Zud (x:=a%18446744073709551616) (k:=0) (by omega)
    simpa using this
   rw[e3,Za];rw[and_one (by omega)];exact congrArg (λn:Nat=>some (n:Int)) (Nat.mod_mod_of_dvd a (by decide))
 ·cases h
noncomputable def ZEr:FuncId×Con:=(169,⟨[.leaf 2,.leaf 0],[.leaf 2],λp=>ZOh p.1 p.2⟩)
theorem ZKv:KQ ZEr:=Zg (Zx (C:=cf0 [Z2e,ZJe,Zji,Zuo] [] [] []) (.n (.n (.f (.two (.j [2,4,5] [] [.s 20 (.dat .bool)] .no) (.j [2,4] [] [.s 5 (.dat (.leaf 0))] .no))))) Tryz.func169 [] (λv vals x z ha hz=>.trans (by kernel_rfl) (Zdw hz)) ⟨ZEg,Zhf,ZJn,Zbs,tr⟩)
theorem ZKz {x z:Rat} {k:Int} (h:Z3f x k=some z):ZIu x k=some z:=by
 unfold Z3f at h;split at h
 ·rename_i hh;obtain⟨h1,h2⟩:=hh
  cases h
  unfold ZIu;obtain⟨K,hK,hK2⟩:∃ K:Nat,min (max k 0) 1000=(K:Int)∧K≤1000:=⟨(min (max k 0) 1000).toNat,by omega,by omega⟩;rw[hK];have p0:bl (x.num.natAbs*2^K)≤bl x.num.natAbs+(K+1):=by have:=ZZa x.num.natAbs (2^K);rwa [ZSt]at this
  have e1:ZUb x.num.natAbs (K:Int)=some (x.num.natAbs*2^K):=by unfold ZUb;rw[iP ⟨Z9 (by omega),by omega,by omega⟩,tN]
  have e2:ZKa (decide (x.num<0)) (x.num.natAbs*2^K)=some (x.num*2^K):=by
   unfold ZKa;congr 1;have:((x.num.natAbs*2^K:Nat):Int)=(x.num.natAbs:Int)*2^K:=by simp
   rw[this];by_cases h:x.num<0
   ·rw[dTq h,iP rfl,← Int.neg_mul];congr 1;omega
   ·rw[dFq h];simp;congr 1;omega
  have e3:(x.num*2^K).natAbs=x.num.natAbs*2^K:=by rw[Int.natAbs_mul,Int.natAbs_pow];rfl
  have e4:ZOh (x.num*2^K) x.den=some (x.num*2^K / (x.den:Int)):=by unfold ZOh;rw[iP ⟨by rw[e3];exact Z9 (by omega),Z9 (by omega),x.den_nz⟩]
  have e5:ZUb 1 (K:Int)=some (2^K):=by unfold ZUb;rw[iP ⟨Z9 (by decide),by omega,by omega⟩,tN,Nat.one_mul]
  have e6:Zgc (x.num*2^K / (x.den:Int)) (2^K)=some (mkRat (x.num*2^K / (x.den:Int)) (2^K)):=by
   unfold Zgc;have:=Zjn (x.num*2^K) x.den;rw[e3]at this;rw[iP ⟨Z9 (Nat.le_trans (ZUc this) (by omega)),Z9 (by rw[ZSt];omega),Nat.pos_iff_ne_zero.1 (Nat.pow_pos (by omega))⟩]
  unfold Zmc Zfb;rw[e1,Za,e2,Za,ZMf,Za,e4,Za,Za];rw[show (1:Int).toNat=1 from rfl,e5,Za,e6,Za,tN]
 ·cases h
theorem qfloor0 {x:Rat} (h:okQ x):Z3f x 0=some ((x.num / (x.den:Int):Int):Rat):=by
 unfold Z3f;rw[iP h];rw[show (min (max (0:Int) 0) 1000).toNat=0 from rfl];simp[Zgy]
theorem okQ_int {n:Int} (h:bl n.natAbs≤1099511627776):okQ (n:Rat):=⟨by rw[Rat.num_intCast];exact h,by rw[Rat.den_intCast];decide⟩
theorem half_eq:Z7d 1 2=some (mkRat 1 2):=by
 have:=ZPj (mkRat 1 2);have e1:(mkRat 1 2).num=1:=by decide
 have e2:(mkRat 1 2).den=2:=by decide
 rw[e1,e2]at this;exact this
theorem Znv {x s:Rat} {z:Rat×Int} (h:ZTk x s=some z):Zgs x s=some z:=by
 unfold ZTk at h;split at h
 ·rename_i hh;obtain⟨⟨h1,h2⟩,h3,h4⟩:=hh
  cases h
  unfold Zgs Zzf;rw[Za];have es:decide (s.num.sign≤0)=decide (s.num≤0):=decide_eq_decide.2 (by
   rcases Int.lt_trichotomy s.num 0 with h | h | h
   ·rw[Int.sign_eq_neg_one_of_neg h];omega
   ·rw[h];simp
   ·rw[Int.sign_eq_one_of_pos h];omega)
  rw[es];by_cases h0:s.num≤0
  ·rw[dTq h0,Ze,iP h0]
  ·rw[dFq h0,Zd,iN h0];have hs0:s≠0:=by rintro rfl;exact h0 (by decide)
   have dsz:=ZtA (x:=x) (y:=s);have e1:Zfd x s=some (x / s,0):=by unfold Zfd;rw[iP ⟨⟨by omega,by omega⟩,by omega,by omega⟩,iN hs0]
   rw[e1,Za];simp only;unfold rnd;generalize hq:x / s=q at *;have okq:okQ q:=⟨by omega,by omega⟩;have hfl:=Zjn q.num q.den;have hfb:=ZUc hfl;generalize hn:q.num / (q.den:Int)=n at *;have e2:Z3f q 0=some ((n:Int):Rat):=by rw[qfloor0 okq,hn]
   have isz:=ZEm n;have ssz:=ZGp q (n:Rat);have e3:Z8b q (n:Rat)=some (q-n):=by unfold Z8b;rw[iP ⟨okq,by omega,by omega⟩]
   have e4:Zgf (q-n) (mkRat 1 2)=some (q-n-mkRat 1 2).num.sign:=by
    unfold Zgf;rw[iP ⟨⟨by omega,by omega⟩,by decide⟩]
   have e5:bitF (n:Rat).num.natAbs 0=some ((n.natAbs%2:Nat):Int):=by
    unfold bitF;rw[Rat.num_intCast,iP ⟨Z9 (by omega),rfl⟩]
   unfold ofF Zfb;rw[e2,Za,Za,Za,show (2:Int).toNat=2 from rfl,e3,Za,half_eq,Za,e4,Za,e5];generalize (q-n-mkRat 1 2).num.sign=c;have e6:ifb (decide ((0:Int)<c)) (some true) (ifb (c==0) (bnd (some ((n.natAbs%2:Nat):Int)) λy306=>some (y306==1)) (some false))=some (decide (0<c∨c=0∧n.natAbs%2=1)):=by
    by_cases h1:0<c
    ·rw[dTq h1,Ze,dTq (.inl h1)]
    ·rw[dFq h1,Zd];by_cases h2:c=0
     ·subst h2;rw[show ((0:Int)==0)=true from rfl,Ze,Za];congr 1;by_cases h3:n.natAbs%2=1
      ·rw[h3,dTq (.inr ⟨rfl,rfl⟩)];rfl
      ·rw[dFq (by omega)];exact beq_false_of_ne (by omega)
     ·rw[beq_false_of_ne h2,Zd,dFq (by omega)]
   rw[e6,Za];have hn1:bl (n+1).natAbs≤bl n.natAbs+2:=by
    have h1:(n+1).natAbs≤n.natAbs+1:=by omega
    have h2:=ZUc h1;have h3:=Znk n.natAbs 1;have h4:bl 1=1:=by decide
    have h5:bl n.natAbs=0∨1≤bl n.natAbs:=by omega
    omega
   have isz1:=ZEm (n+1);by_cases hc:0<c∨c=0∧n.natAbs%2=1
   ·have e7:Z3b (n:Rat) ((1:Int):Rat)=some ((n+1:Int):Rat):=by
     unfold Z3b;rw[iP ⟨⟨by omega,by omega⟩,okQ_int (by decide)⟩,Rat.intCast_add]
    have e8:Zvb ((n+1:Int):Rat) s=some (((n+1:Int):Rat)*s):=by unfold Zvb;rw[iP ⟨⟨by omega,by omega⟩,by omega,by omega⟩]
    unfold Z1c;rw[dTq hc,Ze,Za,e7,Za,Za,e8,Za,iP hc]
   ·have e8:Zvb (n:Rat) s=some ((n:Rat)*s):=by unfold Zvb;rw[iP ⟨⟨by omega,by omega⟩,by omega,by omega⟩]
    rw[dFq hc,Zd,Za,e8,Za,iN hc]
 ·cases h
noncomputable def Z0s:FuncId×Con:=(138,⟨[.leaf 3,.int .i64],[.leaf 3],λp=>Z3f p.1 p.2⟩)
theorem ZPv:KQ Z0s:=Zg (Zx (C:=cf0 [ZQg,Zqj,Z2e,ZJe,ZRm,ZEr] [] [] []) .no Tryz.func138 [] (λv vals x z ha hz=>.trans (by kernel_rfl) (ZKz hz)) ⟨Zij,ZXk,ZEg,Zhf,left_k,ZKv,tr⟩)
noncomputable def bit_q:FuncId×Con:=(139,⟨[.leaf 0,.int .i64],[.int .u64],λp=>bitF p.1 p.2⟩)
theorem bit_k:KQ bit_q:=Zg (Zx (C:=cf2 [(40,0)] []) (.n (.f (.f (.j [0,1] [] [.s 13 (.dat .bool)] .no)))) Tryz.func139 [] (λv vals x z ha hz=>.trans (by kernel_rfl) (bitF_eq hz)))
noncomputable def Zfs:FuncId×Con:=(89,⟨[.leaf 3,.leaf 3],[.leaf 3,.int .i64],λp=>ZTk p.1 p.2⟩)
theorem Zzx:KQ Zfs:=Zg (Zx (C:=cf0 [ZRg,ZLf,ZFg,Zpg,of_q,Zri,Z2e,Zsl,Zql,Z0s,bit_q] [] [] []) (.n (.n (.n (.n (.n (.n (.f (.two (.j [3,4,8] [] [.s 43 (.dat .bool)] .no) (.j [3,4,8] [] [.l (.sl 8) (.box 44 (.dat (.leaf 3)))] .no))))))))) Tryz.func89 [] (λv vals x z ha hz=>.trans (by kernel_rfl) (Znv hz)) ⟨ZUh,Zhh,Z4i,ZDg,of_k,Z8j,ZEg,Z1m,Zoo,ZPv,bit_k,tr⟩)
noncomputable def Z0p:FuncId×Con:=(51,⟨[.pair (.leaf 3) (.slice (.leaf 3)),.leaf 3],[.int .i64],λp=>Zmp p.1 p.2⟩)
theorem ZWz:KQ Z0p:=Zg (Zp (C:=cf0 [Zfs,Zsl] [] [] []) .no Tryz.func51 [(90,Tryz.f90,.r [] [] [.s 1000 (.dat (.int .i64))] (.n (.f (.n (.cut ⟨⟨[],[],[]⟩,[(.norm,⟨[],[],[]⟩),(.ret,⟨[],[],[.s 1000 (.dat (.int .i64))]⟩)]⟩ (.f (.cut ⟨⟨[0,1,7],[],[.s 8 (.dat (.int .i64))]⟩,[(.ret,⟨[],[],[.s 1000 (.dat (.int .i64))]⟩),(.exit 0,⟨[],[],[]⟩)]⟩ .no))))))),(91,Tryz.f91,.r [] [] [.s 1000 (.dat .bool)] .no)] (λ_=>by kernel_rfl) ⟨Zzx,Z1m,tr⟩ tr tr ⟨⟨Tryz.func90,λ_ _=>by kernel_rfl⟩,⟨Tryz.func91,λ_ _=>by kernel_rfl⟩,tr⟩)
noncomputable def ZIq:FuncId×Con:=(22,⟨[.pair (.leaf 3) (.slice (.leaf 3)),.leaf 3],[.int .i64,.int .i64],λp=>Zts p.1 p.2⟩)
theorem Zvx:KQ ZIq:=Zg (Zp (C:=cf0 [Zrp,Z0p] [] [] []) .no Tryz.func22 [] (λ_=>by kernel_rfl) ⟨ZEy,ZWz,tr⟩)
theorem Z4v {r:World} {d:Zb} (hv:VIn d r) {D:List Value} {n:Int} (L:Rep.rel (Zf .u64) d D n) {z:(List UInt8)} (H:ZYj n=some z):Ret Tryz.prog 94 #[(Zf .u64).val D] r d (λy v'=>∃ E,y=Zqb.val E∧Zqb.rel v' E z):=by
 obtain⟨rfl,M⟩:=L;refine ZVh (K:=20) (args:=[.int .u64 n]) hv Tryz.func94 rfl rfl zl λf S=>?_;unfold ZYj at H;refine sr (mw S rfl λf S=>oe (sr (ZEu S wn rfl zl (cs:=[.int .u8 0,.int .u8 0,.int .u8 0,.int .u8 0,.int .u8 0,.int .u8 0,.int .u8 0,.int .u8 0,.int .u8 0,.int .u8 0,.int .u8 0,.int .u8 0,.int .u8 0,.int .u8 0,.int .u8 0,.int .u8 0,.int .u8 0,.int .u8 0,.int .u8 0,.int .u8 0]) (ZEn k_zv214) λs f w S=>?_)));have S:=S.boxOwn 1 20 rfl zl;have N:Rep.rels (Zf .u8) d [.int .u8 0,.int .u8 0,.int .u8 0,.int .u8 0,.int .u8 0,.int .u8 0,.int .u8 0,.int .u8 0,.int .u8 0,.int .u8 0,.int .u8 0,.int .u8 0,.int .u8 0,.int .u8 0,.int .u8 0,.int .u8 0,.int .u8 0,.int .u8 0,.int .u8 0,.int .u8 0] (List.replicate 20 (0:Int)):=ZKg (show Rep.rel (Zf .u8) _ [Value.int .u8 0] 0 from ⟨rfl,by decide⟩) 20;refine oe (sr (mw S rfl λf S=>oe (ZD λ_ O=>?_)));obtain⟨P,Q,R⟩:=ZAa H;refine Zvd (λf w=>∃ l m B t,(l,m)=P∧Zb.le d t∧St 20 r d [(3,.pointer (some ⟨s,0,none⟩)),(4,.int .i64 m)] [Loc.own (some s) 214 1 20 20 B] t f w∧Rep.rels (Zf .u8) t B l∧20=l.length∧inR .i64 m) (λ_ T=>?_) ?_
 ·have H:=Q;refine wp_block ?_;obtain⟨ak,U,V⟩:=ZAa H;refine ZMe U (λW f w=>∃ h o u b k,(h,o,u)=W∧Zb.le d k∧St 20 r d [(0,.int .u64 o),(3,.pointer (some ⟨s,0,none⟩)),(4,.int .i64 u)] [Loc.own (some s) 214 1 20 20 b] k f w∧Rep.rels (Zf .u8) k b h∧20=h.length∧inR .u64 o∧inR .i64 u) ⟨_,_,_,[.int .u8 0,.int .u8 0,.int .u8 0,.int .u8 0,.int .u8 0,.int .u8 0,.int .u8 0,.int .u8 0,.int .u8 0,.int .u8 0,.int .u8 0,.int .u8 0,.int .u8 0,.int .u8 0,.int .u8 0,.int .u8 0,.int .u8 0,.int .u8 0,.int .u8 0,.int .u8 0],_,rfl,(leR _),(S.fr' rfl),N,(List.length_replicate (n:=20) (a:=(0:Int))).symm,M,(by decide)⟩ ?_;rintro _ f w st ⟨h,o,u,b,k,hq,F,S,C,v,al,X⟩ H am Y Z;subst hq;refine ZD λ_ aa=>sr (mv S rfl λf S=>ov S rfl (ZJ S rfl rfl Zkg) λf S=>oe ?_);rcases ZJb (decide ((0:Int)<o)) with p | p
  ·have H:=ZGb H p;refine ZNb S rfl p (wp_skip (Zr (aa _ _ (ZD λ_ ab=>wp_block (ZD λ_ ac=>bO H λe G H=>ZY (mv S rfl λf S=>ov S rfl (ZJ S rfl rfl (Z1b G)) λf S=>mw S rfl λf S=>ZS (Zr (ac _ _ (bO H λg ad H=>?_)))))))));refine bO H λan q H=>ZY (mv S rfl λf S=>mv S rfl λf S=>ov S rfl (ZJ S rfl rfl (ZUs ad)) λf S=>ov S rfl (ZJ S rfl rfl Z3n) λf S=>ov S rfl (Zeg S rfl (ZWv _)) λf S=>?_);have I:=ZJa C (Zm q).2.1;obtain⟨ao,ae⟩:∃ c,(List.take (Zf .u8).n (List.drop ((e).toNat*(Zf .u8).n) b))=c:=⟨_,rfl⟩;rw[ae]at I;obtain⟨rfl,ap⟩:=I;refine ov S rfl (ZHr S Zjq rfl rfl (Zm q).1 (ltI v (Zm q).2.2.1)) λf S=>?_;obtain⟨w,af,S⟩:=Z3d S k_sz5 (off:=0+(e).toNat*1) (z:=.int .u8 (IntKind.u8.wrap (IntKind.u64.wrap ((48:Int)+g)))) (cs:=[.int .u8 (IntKind.u8.wrap (IntKind.u64.wrap ((48:Int)+g)))]) (Zkd rfl) rfl (i:=0) rfl (Zuj S (j:=0) rfl (ltN v (Zm q).2.2.2)) (by first | rfl | simp[plain]);have ag:Rep.rels (Zf .u8) k (List.take (0+(e).toNat*1) b++[Value.int IntKind.u8 (IntKind.u8.wrap (IntKind.u64.wrap ((48:Int)+g)))]++List.drop (0+(e).toNat*1+1) b) (h.set (e).toNat (IntKind.u8.wrap (IntKind.u64.wrap ((48:Int)+g)))):=Z2f C (Zm q).2.2.2 (show Rep.rel (Zf .u8) k [.int .u8 (IntKind.u8.wrap (IntKind.u64.wrap ((48:Int)+g)))] _ from (Zba (Zlc _ _))) rfl rfl
   have ah:20=(h.set (e).toNat (IntKind.u8.wrap (IntKind.u64.wrap ((48:Int)+g)))).length:=setN v;refine ZRk wn rfl (af rfl rfl) (ZS (Z5d (Zr (ab _ _ (bO H λaq J H=>ZY (mv S rfl λf S=>ov S rfl (ZJ S rfl rfl (Zwp J)) λf S=>mw S rfl λf S=>ZS ?_))))));obtain rfl:=ZQ H;refine Y _ rfl _ _ ⟨_,_,_,(List.take (0+(e).toNat*1) b++[Value.int IntKind.u8 (IntKind.u8.wrap (IntKind.u64.wrap ((48:Int)+g)))]++List.drop (0+(e).toNat*1+1) b),_,rfl,F,(S.fr' rfl),ag,ah,(Zrs J),(ZYb G).2⟩
  have H:=ZQb H p;refine Z9a S rfl p (wp_exit (Zob ?_));obtain rfl:=ZQ H;have hq:=Z _ rfl;subst hq;have H:=V;refine Zob (ZQd ?_);obtain rfl:=ZQ H;refine Zr (T _ _ ⟨_,_,b,_,rfl,(leT (leR _) F),(S.fr' rfl),C,v,X⟩)
 rintro f w ⟨l,m,B,t,hq,ar,S,ai,x,au⟩;subst hq;have H:=R;refine Zr (O _ _ (ZD λ_ aj=>bO H λav A H=>ZY (mv S rfl λf S=>ov S rfl (ZLx S Zjq rfl rfl (Zsg A).1 (by have:=(Zsg A).2.1;have:=x;omega)) λf S=>ov S rfl (ZAA S (j:=0) rfl ai x (by have:=(Zsg A).2.1;have:=(Zsg A).1;have:=x;omega) rfl Tryz.underlying173 Tryz.underlying5 Tryz.underlying9) λf S=>mw S rfl λf S=>ZS (Zr (aj _ _ (wp_ret ?_))))));obtain rfl:=ZQ H;refine Zig S (Zpe rfl (Zyb S rfl)) ⟨[.string (Zs ((ZWd (l.drop ((m).toNat)))))],rfl,(ZFi (by have:=x;simp only[Zww,List.length_drop];unfold maxLen;omega))⟩
theorem Zqz {b:World} {a:Zb} (hv:VIn a b) {c:List Value} {n:Int} (d:Rep.rel (Zf .u64) a c n) {z:(List UInt8)} (hm:Z4g n=some z) :
  Ret Tryz.prog 94 #[(Zf .u64).val c] b a (λy v'=>∃ e,y=Zqb.val e∧Zqb.rel v' e z) :=
 Z4v hv d (Zrv d.2 hm)
end Go.Eng
namespace Go.Proofs
open Go.Shelf
def Tryz.lays105_ren:Go.Shelf.Ren:=⟨fun | 105=>95 | 212=>141 | 99=>142 | 165=>143 | 166=>96 | 170=>144 | 169=>97 | 263=>170 | 264=>130 | 206=>171 | 240=>145 | 241=>172 | 276=>173 | 277=>186 | n=>n,fun | 9=>9 | 3=>3 | 4=>4 | 20=>20 | 0=>0 | 46=>215 | 109=>216 | 5=>5 | 72=>175 | 76=>178 | 51=>150 | 146=>235 | 53=>159 | 148=>206 | 70=>172 | 37=>173 | 75=>177 | 127=>220 | 164=>237 | 80=>86 | n=>n,fun | n=>n⟩
theorem Tryz.lays105:Go.Proofs.Lays.n105 Tryz.prog Tryz.lays105_ren:={
 mixed:=by kernel_rfl
 f99:=Tryz.func142.trans (congrArg some (by kernel_rfl))
 f105:=Tryz.func95.trans (congrArg some (by kernel_rfl))
 f165:=Tryz.func143.trans (congrArg some (by kernel_rfl))
 f166:=Tryz.func96.trans (congrArg some (by kernel_rfl))
 f169:=Tryz.func97.trans (congrArg some (by kernel_rfl))
 f170:=Tryz.func144.trans (congrArg some (by kernel_rfl))
 f206:=Tryz.func171.trans (congrArg some (by kernel_rfl))
 f212:=Tryz.func141.trans (congrArg some (by kernel_rfl))
 f240:=Tryz.func145.trans (congrArg some (by kernel_rfl))
 f241:=Tryz.func172.trans (congrArg some (by kernel_rfl))
 f263:=Tryz.func170.trans (congrArg some (by kernel_rfl))
 f264:=Tryz.func130.trans (congrArg some (by kernel_rfl))
 f276:=Tryz.func173.trans (congrArg some (by kernel_rfl))
 f277:=Tryz.func186.trans (congrArg some (by kernel_rfl))
 t0:=Tryz.underlying0
 a0:=Tryz.isAgg0
 z0:=Tryz.sizeOf0
 v0:=Tryz.zeroValue0
 t3:=Tryz.underlying3
 a3:=Tryz.isAgg3
 z3:=Tryz.sizeOf3
 v3:=Tryz.zeroValue3
 t4:=Tryz.underlying4
 a4:=Tryz.isAgg4
 z4:=Tryz.sizeOf4
 v4:=Tryz.zeroValue4
 t5:=Tryz.underlying5
 a5:=Tryz.isAgg5
 z5:=Tryz.sizeOf5
 v5:=Tryz.zeroValue5
 t9:=Tryz.underlying9
 a9:=Tryz.isAgg9
 z9:=Tryz.sizeOf9
 v9:=Tryz.zeroValue9
 t20:=Tryz.underlying20
 a20:=Tryz.isAgg20
 z20:=Tryz.sizeOf20
 v20:=Tryz.zeroValue20
 t37:=Tryz.underlying173
 a37:=Tryz.isAgg173
 z37:=Tryz.sizeOf173
 v37:=Tryz.zeroValue173
 t46:=Tryz.underlying215
 a46:=Tryz.isAgg215
 z46:=Tryz.sizeOf215
 v46:=Tryz.zeroValue215
 t51:=Tryz.underlying150
 a51:=Tryz.isAgg150
 z51:=Tryz.sizeOf150
 v51:=Tryz.zeroValue150
 t53:=Tryz.underlying159
 a53:=Tryz.isAgg159
 z53:=Tryz.sizeOf159
 v53:=Tryz.zeroValue159
 t70:=Tryz.underlying172
 a70:=Tryz.isAgg172
 z70:=Tryz.sizeOf172
 v70:=Tryz.zeroValue172
 t72:=Tryz.underlying175
 a72:=Tryz.isAgg175
 z72:=Tryz.sizeOf175
 v72:=Tryz.zeroValue175
 t75:=Tryz.underlying177
 a75:=Tryz.isAgg177
 z75:=Tryz.sizeOf177
 v75:=Tryz.zeroValue177
 t76:=Tryz.underlying178
 a76:=Tryz.isAgg178
 z76:=Tryz.sizeOf178
 v76:=Tryz.zeroValue178
 t109:=Tryz.underlying216
 a109:=Tryz.isAgg216
 z109:=Tryz.sizeOf216
 v109:=Tryz.zeroValue216
 t127:=Tryz.underlying220
 a127:=Tryz.isAgg220
 z127:=Tryz.sizeOf220
 v127:=Tryz.zeroValue220
 t146:=Tryz.underlying235
 a146:=Tryz.isAgg235
 z146:=Tryz.sizeOf235
 v146:=Tryz.zeroValue235
 t148:=Tryz.underlying206
 a148:=Tryz.isAgg206
 z148:=Tryz.sizeOf206
 v148:=Tryz.zeroValue206
 t164:=Tryz.underlying237
 a164:=Tryz.isAgg237
 z164:=Tryz.sizeOf237
 v164:=Tryz.zeroValue237 }
theorem Tryz.Builder_Extra_105:Builder.Extra Tryz.prog Tryz.lays105_ren:={
 sizeBuilder:=by kernel_rfl
 liesBuilder:=by kernel_rfl
 t5:=Tryz.underlying5
 a5:=Tryz.isAgg5
 z5:=Tryz.sizeOf5
 v5:=Tryz.zeroValue5
 infoByte:=by kernel_rfl
 cellsByte:=by kernel_rfl
 sizeByte:=by kernel_rfl
 neB5:=by decide }
end Go.Proofs
namespace Go.Eng
open Go.Proofs Go.RowKit Go.Shelf
theorem writes:ZQq Tryz.prog 96 175 5:=λB b bs s w h hl hB=>Any.Builder_WriteString { Tryz.lays105 with } Tryz.Builder_Extra_105 B b bs s w h hl hB
theorem tells:Tells Tryz.prog 97 175 5:=λB b l w h hB=>Any.Builder_String_any { Tryz.lays105 with } Tryz.Builder_Extra_105 B b l w h hB
end Go.Eng
namespace Go.Eng
open Go.Proofs Go.RowKit
theorem Zjv (l:List UInt8) (c:Nat):Lib.repeatL l c=(List.replicate c l).flatten:=by
 induction c with
 | zero=>rfl
 | succ c ih=>simp[Lib.repeatL,List.replicate_succ,ih]
theorem ZTx {b:World} {a:Zb} (hv:VIn a b) {f:List Value} {s:List UInt8} (k:Rep.rel Zqb a f s) {g:List Value} {c:Int} (l:Rep.rel (Zf .i64) a g c) {z:List UInt8} (hm:Z7g s c=some z) :
  Ret Tryz.prog 95 #[Zqb.val f,(Zf .i64).val g] b a (λy v'=>∃ h,y=Zqb.val h∧Zqb.rel v' h z):=by
 obtain⟨rfl,hs⟩:=k;obtain⟨rfl,hc⟩:=l;unfold Z7g at hm;split at hm
 ·rename_i hh
  cases hm
  obtain⟨C,rfl⟩:=oZ hh.1;have hc:=ZXa.1 hc;have d:=hh.2;rw[tN]at d;have:=Any.strings_Repeat Tryz.lays105 Tryz.Builder_Extra_105 (Zs s) C b (by omega) (by rw[Zpd];exact d);refine Calls.mono this λe w' ⟨i,j⟩=>?_;have m:(⟨(Lib.repeatL (Zs s).data.toList C).toArray⟩:ByteArray)=Zs (List.replicate C s).flatten:=by
   rw[Zjv];rfl
  rw[m]at i;exact⟨_,a,i,j,VStep.ext hv j,[.string (Zs (List.replicate C s).flatten)],rfl,rfl,by simp only[tN];rw[List.length_flatten];simp;unfold maxLen;rw[Nat.mul_comm]at d;omega⟩
 ·cases hm
theorem text_w {e:World} {c:Zb} (hv:VIn c e) {c0:List Value} {a:Nat} (p0:Rep.rel Zt c c0 a) {z:(List UInt8)} (H:Zci a=some z):Ret Tryz.prog 53 #[Zt.val c0] e c (λy v'=>∃ r0,y=Zqb.val r0∧Zqb.rel v' r0 z):=by
 obtain⟨q1,n2,k3,rfl⟩:=ZYa p0;refine ZVh (K:=49) (args:=[.slice q1 n2 k3]) hv Tryz.func53 rfl rfl zl λf S=>?_;unfold Zci at H;refine sr (mw S rfl λf S=>oe (sr ?_));have S:=S.nilLoc 9 1;refine ov S rfl (ZYe S (y:=.slice (mkA none) 0 0) rfl) λf S=>oe (ZD λ_ ar=>?_);obtain⟨au,av,aw⟩:=ZAa H;refine Zvd (λf w=>∃ o F s G U I,o=au∧Zb.le c I∧St 49 e c [(3,.slice (mkA F) s G)] [Loc.own F 9 1 s G U] I f w∧Rep.rels Zqb I U o∧s=o.length) (λ_ ax=>?_) ?_
 ·have H:=av;refine wp_block ?_;obtain⟨bt,ay,az⟩:=ZAa H;refine ZMe ay (λaA f w=>∃ J g L M N p h q k t,(J,g)=aA∧Zb.le c t∧St 49 e c [(0,.slice L M N),(3,.slice (mkA p) h q)] [Loc.own p 9 1 h q k] t f w∧Rep.rel Zt t [.slice L M N] J∧Rep.rels Zqb t k g∧h=g.length) ⟨_,_,_,_,_,none,0,0,[],_,rfl,(leR _),(S.fr' rfl),p0,ZHf,rfl⟩ ?_;rintro _ f w st ⟨J,g,L,M,N,p,h,q,k,t,hq,ac,S,ad,d,ae⟩ H bu aB aC;subst hq;refine ZD λ_ aD=>sr (mv S rfl λf S=>ov S rfl (Zsc S (Zhb ad) rfl rfl Zia) λf S=>ov S rfl (ZJ S rfl rfl Zkg) λf S=>oe ?_);rcases ZJb (decide ((0:Int)<(((Zc 18446744073709551616 J)).length:Int))) with u | u
  ·have H:=ZGb H u;refine ZNb S rfl u (wp_skip (Zr (aD _ _ (wp_block (ZD λ_ aE=>bO H λO aF H=>ZY (mv S rfl λf S=>opc S rfl (ZHa S [.slice L M N,.int .u64 10000000000000000000] Z7t rfl rfl) (ZIs S.vin ad (show Rep.rel (Zf .u64) _ [.int .u64 10000000000000000000] (10000000000000000000:Int) from (Zba (by decide))) aF) ?_))))));rintro _ bv f w af ⟨bw,bx,rfl,m,aG⟩ S;have d:=ZZ af d;obtain⟨aH,aI,aJ,rfl⟩:=ZYa m;obtain⟨rfl,aK⟩:=aG;refine mv S rfl λf S=>ov S rfl (ZOa S rfl rfl) λf S=>ov S rfl (ZOa S rfl rfl) λf S=>mw S rfl λf S=>mw S rfl λf S=>ZS (Zr (aE _ _ (ZD λ_ aL=>bO H λbz aM H=>ZY (mv S rfl λf S=>opc S rfl (ZHa S [.int .u64 (O.2)] k_en94 rfl rfl) (Zqz S.vin (show Rep.rel (Zf .u64) _ [.int .u64 (O.2)] O.2 from (Zba aK)) aM) ?_))));rintro _ aN f w V ⟨bA,rfl,aO⟩ S;have d:=ZZ V d;obtain⟨rfl,aP⟩:=aO;refine mw S rfl λf S=>ZS (Zr (aL _ _ (ZD λ_ aQ=>sr (mv S rfl λf S=>?_))));have m:=ZTa V m;refine ov S rfl (Zsc S (Zhb m) rfl rfl Zia) λf S=>ov S rfl (ZJ S rfl rfl Zkg) λf S=>oe ?_;obtain⟨aR,aS,aT⟩:=ZAa H;refine Zvd (λf w=>∃ b P,b=aR∧Zb.le aN P∧St 49 e c [(3,.slice (mkA p) h q),(4,.slice aH aI aJ),(6,.string (Zs b))] [Loc.own p 9 1 h q k] P f w∧b.length≤maxLen) (λ_ ag=>?_) ?_
   ·have H:=aS;rcases ZJb (decide ((0:Int)<(((Zc 18446744073709551616 O.1)).length:Int))) with v | v
    ·have H:=ZGb H v;refine ZNb S rfl v (bO H λW ah H=>bO H λbB aU H=>bO H λbC ai H=>ZY (mv S rfl λf S=>ov S rfl (Zkq S rfl rfl Tryz.underlying9) λf S=>ov S rfl (ZJ S rfl rfl (Z1b ah)) λf S=>opc S rfl (ZHa S [.string (Zs (([48]:List UInt8))),.int .i64 W] k_en95 rfl rfl) (ZTx S.vin (show Rep.rel Zqb _ [.string (Zs (([48]:List UInt8)))] (([48]:List UInt8)) from (ZFi zl)) (show Rep.rel (Zf .i64) _ [.int .i64 W] W from (Zba (ZYb ah).2)) aU) ?_));rintro _ bD f w aj ⟨bE,rfl,aV⟩ S;have d:=ZZ aj d;obtain⟨rfl,bG⟩:=aV;refine mv S rfl λf S=>ov S rfl (ZIl S rfl rfl (Z2r ai)) λf S=>mw S rfl λf S=>ZS ?_;obtain rfl:=ZQ H;refine Zr (ag _ _ ⟨_,_,rfl,(leT (leR _) aj),(S.fr' rfl),(Zik ai)⟩)
    have H:=ZQb H v;refine Z9a S rfl v (wp_skip ?_);obtain rfl:=ZQ H;refine Zr (ag _ _ ⟨_,_,rfl,(leR _),(S.fr' rfl),aP⟩)
   rintro f w ⟨b,P,hq,X,S,aW⟩;subst hq;have H:=aT;have d:=ZZ X d;refine Zr (aQ _ _ (bO H λbH aX H=>ZY (mv S rfl λf S=>mv S rfl λf S=>?_)));obtain⟨bI,w,aY,S⟩:=Zyg S (n:=1) (cs:=[.string (Zs b)]) (vals:=[(0,.string (Zs b))]) (sz:=1) rfl (by decide) (ZGq ZQt (x:=.string (Zs b)) (cs:=[.string (Zs b)]) rfl rfl (by decide));have Y:Rep.rels Zqb P [.string (Zs b)] [b]:=(Zmr (ZFi aW) ZHf);refine ZJc wn rfl zl (aY rfl) S λf S=>?_;have aZ:=S;obtain⟨ak,al,w,a0,S⟩:=Zzl (ty:=167) ZQt S (i:=1) (n':=(g++[b]).length) rfl (ZDe Y rfl) (ZAl S (j:=0) rfl) (ZOk Y) (appN ae rfl) (ZIe aX) (by decide);have a1:=ZQc d Y;refine ZJc wn rfl zl (ZQe aZ rfl rfl a0) S λf S=>mv S rfl λf S=>mw S rfl λf S=>mw S rfl λf S=>ZS (Z5d ?_);obtain rfl:=ZQ H;have S:=S.reorder (ℓ':=[Loc.own ak 9 1 ((g++[b]).length) al ((k++[.string (Zs b)]))]) [1] rfl (by decide);have m:=ZTa X m;refine aB _ rfl _ _ ⟨_,_,_,_,_,ak,(g++[b]).length,al,(k++[.string (Zs b)]),_,rfl,(leT (leT (leT ac af) V) X),(S.fr' rfl),m,a1,rfl⟩
  have H:=ZQb H u;refine Z9a S rfl u (wp_exit (Zob ?_));obtain rfl:=ZQ H;have hq:=aC _ rfl;subst hq;have H:=az;refine Zob (ZQd ?_);obtain rfl:=ZQ H;refine Zr (ax _ _ ⟨_,p,h,q,k,_,rfl,(leT (leR _) ac),(S.fr' rfl),d,ae⟩)
 rintro f w ⟨o,F,s,G,U,I,hq,bJ,S,a2,am⟩;subst hq;have H:=aw;refine Zr (ar _ _ (ZD λ_ a3=>sr (mv S rfl λf S=>ov S rfl (Zsc S am rfl rfl ZGo) λf S=>ov S rfl (ZJ S rfl rfl Zqk) λf S=>oe ?_)));rcases ZJb (((o.length:Int))==(0:Int)) with B | B
 ·have H:=ZGb H B;refine ZNb S rfl B (sr (mw S rfl λf S=>oe (wp_ret (ZLi ?_))));obtain rfl:=ZQ H;refine Zig S (Zpe rfl (Zyb S rfl)) ⟨[.string (Zs (([48]:List UInt8)))],rfl,(ZFi zl)⟩
 have H:=ZQb H B;refine Z9a S rfl B (wp_skip (Zr (a3 _ _ (sr ?_))));obtain⟨an,bK,S,C⟩:=S.pubSlice (i:=0) (A:=Zqb) (l:=o) (ℓ':=[]) rfl rfl am a2 rfl;refine op_newB 5 S wn rfl zl (ZEn k_zv175) λr f w S a4=>oe (ZD λ_ a5=>ZD λ_ a6=>bO H λbM ao H=>ZY (mv S rfl λf S=>ov S rfl (Zsc S (Zhb C) rfl rfl ZGo) λf S=>ov S rfl (ZJ S rfl rfl (Z1b ao)) λf S=>mw S rfl λf S=>ZS (Zr (a6 _ _ ?_))));obtain⟨a7,a8,a9⟩:=ZAa H;refine Zvd (λf w=>∃ Q R,Q=a7∧Zb.le an R∧St 49 e c [(7,.pointer (some ⟨r,0,none⟩))] [] R f w∧Bld 175 5 r e R Q w) (λ_ ba=>?_) ?_
 ·have H:=a8;refine wp_block ?_;obtain⟨bP,bb,bc⟩:=ZAa H;refine ZMe bb (λbd f w=>∃ Z D T,(Z,D)=bd∧Zb.le an T∧St 49 e c [(3,.slice (mkA F) s G),(7,.pointer (some ⟨r,0,none⟩)),(8,.int .i64 D)] [] T f w∧Bld 175 5 r e T Z w∧inR .i64 D) ⟨_,_,_,rfl,(leR _),(S.fr' rfl),a4,(ZYb ao).2⟩ ?_;rintro _ f w st ⟨Z,D,T,hq,aa,S,ap,bQ⟩ H bR be bf;subst hq;refine ZD λ_ bg=>sr (mv S rfl λf S=>ov S rfl (ZJ S rfl rfl ZPo) λf S=>oe ?_);rcases ZJb (decide ((0:Int)≤D)) with E | E
  ·have H:=ZGb H E;refine ZNb S rfl E (wp_skip (Zr (bg _ _ (ZD λ_ bh=>wp_block (bO H λbi ab H=>bO H λbS bj H=>ZY (mv S rfl λf S=>mv S rfl λf S=>?_))))));have C:=ZTa aa C;obtain⟨_,bT,bU,bV,bk,bm,bn⟩:=Zuc C (Zm ab).2.1;obtain⟨rfl,rfl⟩:=ZZy bk;obtain⟨rfl,bW⟩:=bn;refine ov S rfl (ZEa S rfl rfl ZGo (Zm ab).1 (ltI (Zhb C) (Zm ab).2.2.1)) λf S=>ov S rfl (Zzb S rfl k_sz9 (S.view bm)) λf S=>ZPw writes ap (Zqw bj) S wn rfl zl (ZHa S [.pointer (some ⟨r,0,none⟩),.string (Zs bi)] k_en96 rfl rfl) λf w S bo=>ZS (Z5d (Zr (bh _ _ (bO H λbX aq H=>ZY (mv S rfl λf S=>ov S rfl (ZJ S rfl rfl (Z1b aq)) λf S=>mw S rfl λf S=>ZS ?_)))));obtain rfl:=ZQ H;refine be _ rfl _ _ ⟨_,_,_,rfl,aa,(S.fr' rfl),bo,(ZYb aq).2⟩
  have H:=ZQb H E;refine Z9a S rfl E (wp_exit (Zob ?_));obtain rfl:=ZQ H;have hq:=bf _ rfl;subst hq;have H:=bc;refine Zob (ZQd ?_);obtain rfl:=ZQ H;refine Zr (ba _ _ ⟨_,_,rfl,(leT (leR _) aa),(S.fr' rfl),ap⟩)
 rintro f w ⟨Q,R,hq,bY,S,bp⟩;subst hq;have H:=a9;refine Zr (a5 _ _ (ZD λ_ bq=>bO H λbZ br H=>ZY (op_tell tells bp S wn rfl zl (ZHa S [.pointer (some ⟨r,0,none⟩)] k_en97 rfl rfl) λf w S=>mw S rfl λf S=>ZS (Zr (bq _ _ (wp_ret ?_))))));obtain rfl:=ZQ H;refine Zig S (Zpe rfl (Zyb S rfl)) ⟨[.string (Zs Q)],rfl,(ZFi (Zik br))⟩
theorem text_c {c:World} {b:Zb} (hv:VIn b c) {d:List Value} {a:Nat} (f:Rep.rel Zt b d a) {z:(List UInt8)} (hm:Zhg a=some z) :
  Ret Tryz.prog 53 #[Zt.val d] c b (λy v'=>∃ e,y=Zqb.val e∧Zqb.rel v' e z) :=
 text_w hv f (Zmv hm)
noncomputable def Zfn:FuncId×Con:=(53,⟨[.leaf 0],[.str],λp=>Zhg p⟩)
theorem text_k:Zre Tryz.prog Zfn.1 Zfn.2:=λw v vals x z hv ha hz=>by
 obtain⟨c0,e0,p0⟩:=ha;subst e0
 exact .inl ⟨λ_ _=>by kernel_rfl,Ret.mono (text_c hv p0 hz) λy v' _ ⟨r0,e,h0⟩=>⟨r0,e,h0⟩⟩
noncomputable def ZQo:FuncId×Con:=(24,⟨[.leaf 3],[.str],λp=>Zxe p⟩)
theorem Zor:KQ ZQo:=Zg (Zx (C:=cf0 [Zfn] [] [] []) (.n (.n (.two (.n (.j [1] [] [.s 3 (.dat .str)] .no)) (.f (.n (.j [] [] [.s 3 (.dat .str)] .no)))))) Tryz.func24 [] (λv vals x z ha hz=>.trans (by kernel_rfl) (Z5x hz)) ⟨text_k,tr⟩)
noncomputable def Z8r:FuncId×Con:=(4,⟨[],[.bool],λ_=>Z0e⟩)
theorem ZGx:KQ Z8r:=Zg (Zp (C:=cf0 [Zlt,Zbq,ZRg,ZPr,ZDu,ZIq,Znh,ZQo] [] [] []) (.n (.n (.two (.j [] [] [.s 3 (.box 44 (.dat (.leaf 3))),.s 4 (.dat (.int .i64))] .no) (.n (.n (.n (.f (.j [] [] [.s 0 (.dat .bool)] .no)))))))) Tryz.func4 [] (λ_=>by kernel_rfl) ⟨drum8_k,force_k,ZUh,kappa_k,ZXA,Zvx,Z6h,Zor,tr⟩)
noncomputable def ZNq:FuncId×Con:=(5,⟨[.slice (.pair (.pair (.int .i64) (.pair (.int .i64) (.pair (.int .i64) (.int .i64)))) (.pair (.int .i64) (.int .i64)))],[.slice (.pair (.int .i64) (.pair (.int .i64) (.pair (.int .i64) (.pair (.int .i64) (.leaf 3))))),.slice (.pair (.pair (.int .i64) (.pair (.int .i64) (.pair (.int .i64) (.int .i64)))) (.leaf 4))],λp=>Zxk p⟩)
theorem legs8_k:KQ ZNq:=Zg (Zp (C:=cf0 [Znh,Zgi] [] [] []) (.n (.n (.n (.f (.n (.f (.l [8,9] [] [.s 4 (.own 90 (.pair (.int .i64) (.pair (.int .i64) (.pair (.int .i64) (.pair (.int .i64) (.leaf 3)))))),.s 5 (.own 93 (.pair (.pair (.int .i64) (.pair (.int .i64) (.pair (.int .i64) (.int .i64)))) (.leaf 4))),.s 10 (.dat (.int .i64))] 0 [] [] [.s 4 (.own 90 (.pair (.int .i64) (.pair (.int .i64) (.pair (.int .i64) (.pair (.int .i64) (.leaf 3)))))),.s 5 (.own 93 (.pair (.pair (.int .i64) (.pair (.int .i64) (.pair (.int .i64) (.int .i64)))) (.leaf 4)))] .no))))))) Tryz.func5 [] (λ_=>by kernel_rfl) ⟨Z6h,ZLl,tr⟩)
noncomputable def ZBn:FuncId×Con:=(28,⟨[.pair (.int .i64) (.pair (.int .i64) (.pair (.int .i64) (.pair (.int .i64) (.leaf 3))))],[.pair (.int .i64) (.pair (.int .i64) (.pair (.int .i64) (.int .i64)))],λp=>Zyf p⟩)
theorem Zhv:KQ ZBn:=Zg (Zp (C:=cf0 [] [] [] []) .no Tryz.func28 [] (λ_=>by kernel_rfl))
noncomputable def Zvo:FuncId×Con:=(30,⟨[.pair (.int .i64) (.pair (.int .i64) (.pair (.int .i64) (.int .i64)))],[.pair (.int .i64) (.pair (.int .i64) (.pair (.int .i64) (.int .i64)))],λp=>Zoe p⟩)
theorem ZEp:KQ Zvo:=Zg (Zp (C:=cf0 [] [] [] []) .no Tryz.func30 [] (λ_=>by kernel_rfl))
noncomputable def Zws:FuncId×Con:=(26,⟨[.pair (.int .i64) (.pair (.int .i64) (.pair (.int .i64) (.int .i64))),.slice (.pair (.int .i64) (.pair (.int .i64) (.pair (.int .i64) (.pair (.int .i64) (.leaf 3)))))],[.int .i64],λp=>ZGg p.1 p.2⟩)
theorem Zay:KQ Zws:=Zg (Zp (C:=cf0 [ZBn,Zvo] [] [] []) (.n (.n (.n (.two (.f (.j [1,5] [] [.s 21 (.dat .bool)] .no)) (.f (.n (.f (.cut ⟨⟨[5,22,23],[],[.s 24 (.dat (.int .i64))]⟩,[(.exit 0,⟨[],[],[]⟩),(.ret,⟨[],[],[.s 1000 (.dat (.int .i64))]⟩)]⟩ (.f (.n (.n (.f (.f (.n (.n (.f (.unroll 5 (.f (.n (.n (.f (.f (.n (.f (.j [5,22,23,24,29,30] [] [.s 42 (.dat .bool)] .no))))))))))))))))))))))))) Tryz.func26 [(56,Tryz.f56,.no),(57,Tryz.f57,.n (.f (.j [] [] [.s 2 (.dat .bool)] .no))),(100,Tryz.f100,.r [] [] [.s 1000 (.dat (.int .i64))] (.n (.f (.n (.f (.cut ⟨⟨[0,1,7],[],[.s 8 (.dat (.int .i64))]⟩,[(.exit 0,⟨[],[],[]⟩),(.ret,⟨[],[],[.s 1000 (.dat (.int .i64))]⟩)]⟩ .no))))))] (λ_=>by kernel_rfl) ⟨Zhv,ZEp,tr⟩ tr tr ⟨⟨Tryz.func56,λ_ _=>by kernel_rfl⟩,⟨Tryz.func57,λ_ _=>by kernel_rfl⟩,⟨Tryz.func100,λ_ _=>by kernel_rfl⟩,tr⟩)
noncomputable def Z9m:FuncId×Con:=(27,⟨[.pair (.int .i64) (.pair (.int .i64) (.pair (.int .i64) (.int .i64)))],[.int .i64],λp=>Ztg p⟩)
theorem ZRt:KQ Z9m:=Zg (Zp (C:=cf0 [] [] [] []) .no Tryz.func27 [] (λ_=>by kernel_rfl))
noncomputable def Zgo:FuncId×Con:=(6,⟨[.pair (.int .i64) (.pair (.int .i64) (.pair (.int .i64) (.int .i64))),.slice (.pair (.int .i64) (.pair (.int .i64) (.pair (.int .i64) (.pair (.int .i64) (.leaf 3)))))],[.slice (.slice (.leaf 3)),.int .i64],λp=>Z7c p.1 p.2⟩)
theorem ZDr:KQ Zgo:=Zg (Zp (C:=cf0 [Zws,Z9m,ZBn,ZUg,Zvo] [] [] []) (.n (.n (.n (.f (.n (.f (.l [2,20,21] [] [.s 7 (.own 36 (.slice (.leaf 3))),.s 22 (.dat (.int .i64))] 0 [] [] [.s 7 (.own 36 (.slice (.leaf 3)))] (.f (.n (.n (.f (.f (.n (.n (.n (.f (.n (.f (.unroll 5 .no))))))))))))))))))) Tryz.func6 [] (λ_=>by kernel_rfl) ⟨Zay,ZRt,Zhv,Z8i,ZEp,tr⟩)
noncomputable def ZUp:FuncId×Con:=(7,⟨[.pair (.int .i64) (.pair (.int .i64) (.pair (.int .i64) (.int .i64)))],[.pair (.int .i64) (.pair (.int .i64) (.pair (.int .i64) (.int .i64)))],λp=>ZDi p⟩)
theorem ZrA:KQ ZUp:=Zg (Zp (C:=cf0 [] [] [] []) .no Tryz.func7 [] (λ_=>by kernel_rfl))
noncomputable def Zgn:FuncId×Con:=(31,⟨[.pair (.int .i64) (.pair (.int .i64) (.pair (.int .i64) (.int .i64))),.slice (.pair (.int .i64) (.pair (.int .i64) (.pair (.int .i64) (.pair (.int .i64) (.leaf 3))))),.int .i64,.int .i64],[.slice (.slice (.leaf 3)),.slice (.leaf 3),.int .i64],λp=>Z2d p.1 p.2.1 p.2.2.1 p.2.2.2⟩)
theorem ZZq:KQ Zgn:=Zg (Zp (C:=cf0 [Zgo,Z9m,ZUg,ZLf,Zpg] [] [] []) (.n (.n (.f (.two (.j [2,3,4,8,10] [] [.s 38 (.dat .bool)] .no) (.j [2,3,4,8] [] [.s 10 (.dat (.int .i64))] .no))))) Tryz.func31 [] (λ_=>by kernel_rfl) ⟨ZDr,ZRt,Z8i,Zhh,ZDg,tr⟩)
noncomputable def Zmf:FuncId×Con:=(59,⟨[.slice (.slice (.leaf 3))],[.int .i64],λp=>Zkc p⟩)
theorem Zqg:KQ Zmf:=Zg (Zp (C:=cf0 [] [] [] []) .no Tryz.func59 [] (λ_=>by kernel_rfl))
noncomputable def Zni:FuncId×Con:=(58,⟨[.slice (.slice (.leaf 3))],[.bool],λp=>ZFe p⟩)
theorem Zjk:KQ Zni:=Zg (Zp (C:=cf0 [Zmf] [] [] []) (.n (.n (.f (.j [] [] [.s 2 (.dat .bool)] .no)))) Tryz.func58 [(101,Tryz.f101,.no),(102,Tryz.f102,.no),(149,Tryz.f149,.r [] [] [.s 1000 (.dat (.int .i64))] (.n (.f (.n (.f (.cut ⟨⟨[0,1,7],[],[.s 8 (.dat (.int .i64))]⟩,[(.exit 0,⟨[],[],[]⟩),(.ret,⟨[],[],[.s 1000 (.dat (.int .i64))]⟩)]⟩ .no))))))] (λ_=>by kernel_rfl) ⟨Zqg,tr⟩ tr tr ⟨⟨Tryz.func101,λ_ _=>by kernel_rfl⟩,⟨Tryz.func102,λ_ _=>by kernel_rfl⟩,⟨Tryz.func149,λ_ _=>by kernel_rfl⟩,tr⟩)
noncomputable def qOf_q:FuncId×Con:=(211,⟨[.leaf 3,.leaf 3],[.leaf 3],λp=>qOf_m p.1 p.2⟩)
theorem qOf_k:KQ qOf_q:=Zg (Zp (C:=cf0 [] [] [] []) .no Tryz.func211 [] (λ_=>by kernel_rfl))
theorem Z1z : ∀ y w, (method (Tryz.prog.types.size + Made.depth) 44 y "Add").run Tryz.prog w = .ok (44, y) w := λ_ _ => by kernel_rfl
theorem ZOz : ∀ y w, (method (Tryz.prog.types.size + Made.depth) 44 y "Conj").run Tryz.prog w = .ok (209, y) w := λ_ _ => by kernel_rfl
theorem Zmy : ∀ y w, (method (Tryz.prog.types.size + Made.depth) 44 y "Div").run Tryz.prog w = .ok (84, y) w := λ_ _ => by kernel_rfl
theorem Zcs : ∀ y w, (method (Tryz.prog.types.size + Made.depth) 44 y "Mul").run Tryz.prog w = .ok (43, y) w := λ_ _ => by kernel_rfl
theorem Znu : ∀ y w, (method (Tryz.prog.types.size + Made.depth) 44 y "Neg").run Tryz.prog w = .ok (77, y) w := λ_ _ => by kernel_rfl
theorem ZHw : ∀ y w, (method (Tryz.prog.types.size + Made.depth) 44 y "Of").run Tryz.prog w = .ok (211, y) w := λ_ _ => by kernel_rfl
theorem Zbw : ∀ y w, (method (Tryz.prog.types.size + Made.depth) 44 y "Sub").run Tryz.prog w = .ok (42, y) w := λ_ _ => by kernel_rfl
theorem Z6s : ∀ y w, (method (Tryz.prog.types.size + Made.depth) 44 y "Zero").run Tryz.prog w = .ok (11, y) w := λ_ _ => by kernel_rfl
noncomputable def Z3i:FuncId×Con:=(106,⟨[.int .i64],[.leaf 3],λp=>ZTe p⟩)
theorem ZHk : KQ Z3i := Zg (Zp (C := cf0 [ZRg, qOf_q] [] [] [((44, "Of"), 211)]) .no Tryz.func106 [] (λ_ => by kernel_rfl) ⟨ZUh, qOf_k, tr⟩ tr ⟨ZHw, tr⟩)
theorem Zbv:Elem Tryz.prog 36 44 (Zxb).n 56 (Value.agg #[Value.bool false,Value.slice none 0 0,Value.slice none 0 0]):=⟨Tryz.underlying36,by kernel_rfl,rfl,by decide⟩
noncomputable def Zok:FuncId×ConO:=(179,⟨[.slice (.leaf 3)],44,.leaf 3,λp=>Zff 56 p⟩)
theorem Zss:Zrj Tryz.prog Zok.1 Zok.2:=λw v vals x z hv ha hz=>by
 obtain⟨cs,rfl,p0⟩:=ha
 have hz:Zff 56 (show List Rat from x)=some z:=hz
 obtain⟨hb,rfl⟩:=ZXv hz
 obtain⟨q,n,c,rfl⟩:=Z6f (show (ZB Zxb).rel v cs z from p0)
 refine⟨λ_ _=>by kernel_rfl,?_⟩
 have hn:n=(show List Rat from z).length:=by obtain⟨_,_,e,_⟩:=p0;cases e;rfl
 refine ZAn (K:=8) (args:=[.slice q n c]) hv Tryz.func179 rfl rfl zl λfa hS=>?_
 refine sr ?_
 refine mw hS rfl λfa hS=>?_
 refine oe ?_
 refine wp_seq_k λN1 hN1=>?_
 refine sr ?_
 refine mv hS rfl λfa hS=>?_
 refine ov hS rfl (Zkx hS Tryz.underlying36 rfl rfl) λfa hS=>?_
 refine oe ?_
 cases q with
 | none =>
  refine ZNb hS rfl rfl ?_
  have hx:(show List Rat from z)=[]:=by
   obtain⟨q',c',e,_,_,h3⟩:=p0
   cases e
   rcases h3 with h3 | ⟨_,_,_,_,_,h4,_⟩
   ·exact h3
   ·cases h4
  have hx0:n=0:=by rw[hn,hx];rfl
  refine sr ?_;refine mw hS rfl λfa hS=>?_;refine oe ?_;refine wp_ret ?_;refine ZLi ?_;have hS2:=hS.nilLoc 44 (Zxb).n;have:=ZTn (P:=Tryz.prog) (A:=Zxb) hS2 (i:=0) (ob:=none) (n:=0) (cap:=0) (cs:=[]) rfl (Zpe (fn:=Tryz.f179) (r:=.tmp 2) rfl (Zyb (t:=2) (y:=.slice (mkA none) 0 0) hS2 rfl)) (l:=([]:List Rat)) ZHf rfl;rw[hx];exact this
 | some ad =>
  refine Z9a hS rfl rfl ?_;refine wp_skip ?_;refine Zr (hN1 _ _ ?_);refine sr ?_;obtain⟨b,wo,hrun,hS⟩:=ZYx Zbv hS;refine ZJc wn rfl zl hrun hS λfa hS=>?_;refine mv hS rfl λfa hS=>?_;obtain⟨b',cap',cs2,wo,hr,hS',hrel⟩:=ZYf (ty:=36) (A:=Zxb) Zbv hS (i:=0) rfl (Rep.mono (ZB Zxb) hS.vst.le p0) (n':=n) (by omega) (by rw[hn];exact hb) (by decide);refine ZJc wn rfl zl (ZQe hS rfl rfl hr) hS' λfa hS=>?_;refine mw hS rfl λfa hS=>?_;refine oe ?_;refine wp_ret ?_;exact ZTn hS (i:=0) rfl (Zpe rfl (Zyb hS rfl)) hrel hn
noncomputable def Zmo:FuncId×Con:=(103,⟨[.slice (.slice (.leaf 3))],[.slice (.slice (.leaf 3)),.slice (.int .i64),.leaf 3],λp=>ZYd p⟩)
theorem ZFu : KQ Zmo := Zg (Zp (C := cf0 [ZJi, ZLf, ZFg, Z4k, Zri, Z3i] [8] [Zok] [((44, "Div"), 84), ((44, "Mul"), 43), ((44, "Neg"), 77), ((44, "Sub"), 42), ((44, "Zero"), 11)]) (.n (.n (.n (.n (.f (.n (.f (.l [0, 4, 6, 19] [] [.s 5 (.own 3 (.int .i64)), .s 20 (.dat (.int .i64)), .l (.sl 0) (.mat 36 44 (.leaf 3)), .l (.sl 6) (.box 44 (.dat (.leaf 3)))] 0 [0, 4, 6] [] [.s 5 (.own 3 (.int .i64)), .l (.sl 0) (.mat 36 44 (.leaf 3)), .l (.sl 6) (.box 44 (.dat (.leaf 3)))] (.f (.n (.n (.f (.j [0, 4, 6, 19, 20] [] [.s 5 (.own 3 (.int .i64)), .l (.sl 0) (.mat 36 44 (.leaf 3)), .l (.sl 6) (.box 44 (.dat (.leaf 3)))] (.f (.n (.n (.n (.two (.f (.l [0, 4, 5, 6, 7, 8, 19, 20] [] [.s 9 (.dat (.int .i64))] 2 [0, 4, 5, 6, 7, 8, 19, 20] [] [.s 9 (.dat (.int .i64))] (.f (.f (.f (.j [0, 4, 5, 6, 7, 8, 9, 19, 20] [] [.s 40 (.dat .bool)] .no)))))) (.n (.two (.n (.j [0, 4, 5, 6, 7, 8, 19, 20] [] [.l (.sl 0) (.mat 36 44 (.leaf 3)), .l (.sl 6) (.box 44 (.dat (.leaf 3)))] .no)) (.n (.n (.two (.n (.f (.l [0, 4, 5, 6, 7, 8, 10, 19, 20, 83] [] [.s 84 (.dat (.int .i64)), .l (.sl 0) (.mat 36 44 (.leaf 3))] 4 [0, 4, 5, 6, 7, 8, 19, 20] [] [.l (.sl 0) (.mat 36 44 (.leaf 3))] .no))) (.f (.n (.f (.l [0, 4, 5, 6, 7, 8, 19, 20, 108] [] [.s 109 (.dat (.int .i64)), .l (.sl 0) (.mat 36 44 (.leaf 3))] 6 [0, 4, 5, 6, 7, 19, 20] [] [.l (.sl 0) (.mat 36 44 (.leaf 3))] (.f (.n (.n (.f (.j [0, 4, 5, 6, 7, 8, 19, 20, 108, 109] [] [.l (.sl 0) (.mat 36 44 (.leaf 3))] (.f (.n (.n (.two (.f (.j [0, 4, 5, 6, 7, 8, 12, 13, 19, 20, 108, 109] [] [.s 126 (.dat .bool)] .no)) (.n (.f (.l [0, 4, 5, 6, 7, 8, 12, 13, 19, 20, 108, 109, 131] [] [.s 132 (.dat (.int .i64)), .l (.sl 0) (.mat 36 44 (.leaf 3))] 8 [0, 4, 5, 6, 7, 8, 19, 20, 108, 109] [] [.l (.sl 0) (.mat 36 44 (.leaf 3))] .no))))))))))))))))))))))))))))))))))))))) Tryz.func103 [(59, Tryz.f59, .r [] [] [.s 1000 (.dat (.int .i64))] .no), (150, Tryz.f150, .n (.n (.f (.n (.f (.l [3, 9, 10] [] [.s 11 (.dat (.int .i64)), .l (.sl 3) (.mat 36 44 (.leaf 3))] 0 [3] [] [.l (.sl 3) (.mat 36 44 (.leaf 3))] .no))))))] (λ_ => by kernel_rfl) ⟨ZMl, Zhh, Z4i, ZVn, Z8j, ZHk, tr⟩ ⟨Zss, tr⟩ ⟨Zmy, Zcs, Znu, Zbw, Z6s, tr⟩ ⟨⟨Tryz.func59, λ_ _ => by kernel_rfl⟩, ⟨Tryz.func150, λ_ _ => by kernel_rfl⟩, tr⟩)
noncomputable def Zlu:FuncId×Con:=(151,⟨[.slice (.int .i64),.int .i64],[.int .i64],λp=>ZIj p.1 p.2⟩)
theorem Zgx:KQ Zlu:=Zg (Zp (C:=cf0 [] [] [] []) (.n (.f (.n (.cut ⟨⟨[],[],[]⟩,[(.norm,⟨[],[],[]⟩),(.ret,⟨[],[],[.s 1000 (.dat (.int .i64))]⟩)]⟩ (.f (.cut ⟨⟨[0,1,7],[],[.s 8 (.dat (.int .i64))]⟩,[(.ret,⟨[],[],[.s 1000 (.dat (.int .i64))]⟩),(.exit 0,⟨[],[],[]⟩)]⟩ .no)))))) Tryz.func151 [] (λ_=>by kernel_rfl))
noncomputable def Zep:FuncId×Con:=(104,⟨[.slice (.int .i64),.int .i64],[.bool],λp=>Zdl p.1 p.2⟩)
theorem ZKy:KQ Zep:=Zg (Zp (C:=cf0 [Zlu] [] [] []) .no Tryz.func104 [] (λ_=>by kernel_rfl) ⟨Zgx,tr⟩)
noncomputable def Zck (x:Int) (y:Int):Option (Int×Int) :=
 bnd (Zyc x y) λa =>
 some ((a.1,a.2))
theorem bmul_w {c:World} {a:Zb} (hv:VIn a c) {d:List Value} {x:Int} (i:Rep.rel (Zf .u64) a d x) {e:List Value} {y:Int} (j:Rep.rel (Zf .u64) a e y) {z:Int×Int} (H:Zck x y=some z):Ret Tryz.prog 141 #[(Zf .u64).val d,(Zf .u64).val e] c a (λy v'=>∃ g b,y = .tuple #[(Zf .u64).val g,(Zf .u64).val b]∧(Zf .u64).rel v' g z.1∧(Zf .u64).rel v' b z.2):=by
 obtain⟨rfl,b⟩:=i;obtain⟨rfl,k⟩:=j;refine ZVh (K:=30) (args:=[.int .u64 x,.int .u64 y]) hv Tryz.func141 rfl rfl zl λf S=>?_;unfold Zck at H;refine sr (mw S rfl λf S=>mw S rfl λf S=>oe (ZD λ_ l=>Z9a S rfl rfl (wp_skip (Zr (l _ _ (ZD λ_ m=>bO H λh n H=>ZY (mv S rfl λf S=>mv S rfl λf S=>opc S rfl (ZHa S [.int .u64 x,.int .u64 y] Z5n rfl rfl) (ZFo S.vin (show Rep.rel (Zf .u64) _ [.int .u64 x] x from (Zba b)) (show Rep.rel (Zf .u64) _ [.int .u64 y] y from (Zba k)) n) ?_)))))));rintro _ s f w t ⟨u,v,rfl,o,p⟩ S;obtain⟨rfl,q⟩:=o;obtain⟨rfl,r⟩:=p;refine mv S rfl λf S=>ov S rfl (ZOa S rfl rfl) λf S=>ov S rfl (ZOa S rfl rfl) λf S=>mw S rfl λf S=>mw S rfl λf S=>ZS (Zr (m _ _ (sr (mv S rfl λf S=>mv S rfl λf S=>mw S rfl λf S=>mw S rfl λf S=>oe (wp_ret ?_)))));obtain rfl:=ZQ H;refine Zig S (Z2k rfl (Zyb S rfl) (Zyb S rfl)) ⟨[.int .u64 (h.1)],[.int .u64 (h.2)],rfl,(Zba q),(Zba r)⟩
theorem Z8o:Elem Tryz.prog 36 44 (Zxb).n 56 (Value.agg #[Value.bool false,Value.slice none 0 0,Value.slice none 0 0]):=⟨Tryz.underlying36,by kernel_rfl,rfl,by decide⟩
theorem ZSk:ZDd Tryz.prog 36 44 (Zxb).n:=⟨λ_=>by kernel_rfl,λ_=>by kernel_rfl⟩
theorem Zty:Tryz.prog.follows .mixedOrders=true:=by kernel_rfl
theorem Zvv:ZV Tryz.prog 141:=λ_ _=>by kernel_rfl
theorem Zfr:ConvI Tryz.prog 3 215 .i64 .u64:=λ_ _=>by kernel_rfl
theorem ZTv:ConvI Tryz.prog 215 3 .u64 .i64:=λ_ _=>by kernel_rfl
noncomputable def Zul:FuncId×ConO:=(152,⟨[.slice (.leaf 3),.int .i64],44,.leaf 3,λp=>Zkf 56 p.1 p.2⟩)
theorem ZWp:Zrj Tryz.prog Zul.1 Zul.2:=λw v vals x z hv ha hz=>by
 obtain⟨cs,vs,rfl,p0,c1,rfl,rfl,hin⟩:=ha
 obtain⟨x1,k0⟩:=x
 have hz:Zkf 56 (show List Rat from x1) k0=some z:=hz
 obtain⟨y,hx1,hzr,hmk⟩:=ZZw hz
 have hx1:x1=[y]:=hx1
 subst hx1 hzr
 obtain⟨h0,_,hb1,hb2⟩:=ZLd hmk
 obtain⟨k,rfl⟩:=oZ h0
 obtain⟨q,c,e,hc1,hc2,hne⟩:=(show (ZB Zxb).rel v cs [y] from p0)
 subst e
 rcases hne with hne | ⟨b,off,cc,TT,fr,rfl,hvb,hrel⟩
 ·cases hne
 have hlen1:([y]:List Rat).length=1:=rfl
 rw[hlen1]at hrel
 obtain⟨c1,c2,e12,hrc,e2⟩:=hrel
 have e2:c2=[]:=e2
 subst e2
 rw[List.append_nil,Nat.one_mul]at e12
 have hl1:=Rep.len _ hrc
 have hAt:At v b off c1:=⟨cc,TT,fr,hvb,by rw[hl1];exact e12⟩
 refine⟨λ_ _=>by kernel_rfl,?_⟩
 have hk:((k:Int).toNat)=k:=tN k
 rw[hk]
 refine ZAn (K:=48) (args:=[.slice (some ⟨b,off,none⟩) 1 c,.int .i64 (k:Int)]) hv Tryz.func152 rfl rfl zl λfa hS=>?_
 refine sr ?_
 refine mw hS rfl λfa hS=>?_
 refine oe ?_
 refine wp_seq_k λN1 hN1=>?_
 refine sr ?_
 refine mv hS rfl λfa hS=>?_
 refine ov hS rfl (ZJ hS rfl rfl Zne) λfa hS=>?_
 refine oe ?_
 refine Z9a hS rfl (dFq (by omega)) ?_
 refine wp_skip ?_
 refine Zr (hN1 _ _ ?_)
 refine sr ?_
 refine mv hS rfl λfa hS=>?_
 refine ov hS rfl (Zge hS rfl rfl ZSk) λfa hS=>?_
 refine ov hS rfl (Zeg hS rfl (Zfr _)) λfa hS=>?_
 refine mv hS rfl λfa hS=>?_
 refine ov hS rfl (Zeg hS rfl (Zfr _)) λfa hS=>?_
 have w1:IntKind.u64.wrap ((1:Nat):Int)=1:=by decide
 have w2:IntKind.u64.wrap (k:Int)=k:=Zhe (Zcd.2 (by omega))
 rw[w1,w2]at hS
 have hmul:Zck 1 (k:Int)=some (0,(k:Int)):=by
  unfold Zck Zyc;rw[iP (by omega),Za];simp only;congr 2 <;> omega
 refine Zvr hS wn rfl zl (ZHa hS [.int .u64 1,.int .u64 (k:Int)] Zvv rfl rfl) (bmul_w hS.vin (show Rep.rel (Zf .u64) _ [.int .u64 1] 1 from Zba (by decide)) (show Rep.rel (Zf .u64) _ [.int .u64 (k:Int)] (k:Int) from Zba (Zcd.2 (by omega))) hmul) ?_;rintro _ v1 fa wo hle ⟨r0,r1,rfl,⟨rfl,_⟩,⟨rfl,_⟩⟩ hS;refine mv hS rfl λfa hS=>?_;refine ov hS rfl (ZOa hS rfl rfl) λfa hS=>?_;refine ov hS rfl (ZOa hS rfl rfl) λfa hS=>?_;refine mw hS rfl λfa hS=>?_;refine mw hS rfl λfa hS=>?_;refine oe ?_;refine wp_seq_k λN2 hN2=>?_;refine sr ?_;refine mv hS rfl λfa hS=>?_;refine ov hS rfl (ZJ hS rfl rfl Zkg) λfa hS=>?_;have g1:decide ((0:Int)<0)=false:=rfl;have hS:St _ _ _ ((22,Value.bool false) :: _) _ _ _ _:=hS;refine mv hS rfl λfa hS=>?_;refine op_v hS (Zgg hS rfl rfl rfl zl) rfl zl (Z1 hS rfl) λfa hS=>?_;refine op_v hS (Zgg hS rfl rfl rfl zl) rfl zl (ZJ hS rfl rfl Zkg) λfa hS=>?_;refine ov hS rfl (Ztf (b:=false) hS rfl rfl) λfa hS=>?_;refine oe ?_;refine Z9a hS rfl (dFq (by omega)) ?_;refine wp_skip ?_;refine Zr (hN2 _ _ ?_);refine sr ?_;refine mv hS rfl λfa hS=>?_;refine ov hS rfl (Zeg hS rfl (ZTv _)) λfa hS=>?_;have w3:IntKind.i64.wrap (k:Int)=k:=Zhe (ZXa.2 (by omega));rw[w3]at hS;obtain⟨b2,wo,hrun,hS'⟩:=Z2n Z8o hS (l:=(k:Int)) (c:=(k:Int)) h0 (Int.le_refl _) hb1 hb2
 refine ZJc wn rfl zl (hrun rfl rfl) hS' λfa hS=>?_;refine mw hS rfl λfa hS=>?_;refine oe ?_;rw[hk]at hS;have hS:=hS.fr' (σ':=[(7,.slice (mkA (some b2)) k k),(0,.slice (some ⟨b,off,none⟩) 1 c)]) rfl;have src1:∀ {σ:List (Nat×Value)} {ℓ:List Loc} {v':Zb} {a:Act} {w':World},St 48 w v σ ℓ v' a w'→∀ j u,c1[j]? = some u→w'.cell? ((⟨b,off,none⟩:Addr).add j)=some u:=λhS j u hu=>by
  have:=(hS.view (At.mono hS.vst.le hAt)).cell hu
  rwa [Zeb]
 have hpl1:c1.all plain=true:=Rep.flat _ hrc;obtain⟨zc,hzc⟩:∃ zc:List Value,zc=(Value.agg #[Value.bool false,Value.slice none 0 0,Value.slice none 0 0]:Value).cells.toList:=⟨_,rfl⟩;have hzl:zc.length=(Zxb).n:=by rw[hzc];rfl
 rw[← hzc]at hS
 let Inv:Nat→Act→World→Prop:=λj a w'=>∃ v',j≤k∧(0<k→0<j)∧St 48 w v [(8,.int .i64 (j:Int)),(7,.slice (mkA (some b2)) k k)] [.own (some b2) 44 (Zxb).n k k ((List.replicate j c1).flatten++(List.replicate (k-j) zc).flatten)] v' a w'
 have rl:=λn=>Z6k hl1 n;have rpl:∀ n:Nat,((List.replicate n c1).flatten).all plain=true:=λn=>ZXw hpl1 n;have step:=λj m (hjm:j+m≤k)=>rp_step (k:=k) hl1 hzl hjm;refine sr ?_;refine mv hS rfl λfa hS=>?_;refine mv hS rfl λfa hS=>?_;have hS1:St 48 w v _ [.own (some b2) 44 (Zxb).n k k ((List.replicate 0 c1).flatten++(List.replicate (k-0) zc).flatten)] v1 fa wo:=hS;obtain⟨wo2,hr,hS'⟩:=ZHt (t:=36) (sT:=36) Z8o hS1 (i:=0) rfl (p:=0) (k:=min 1 k) (c:=(List.replicate (min 1 k) c1).flatten) (rl _) (by omega) (rpl _) (ad:=⟨b,off,none⟩) (sLen:=1) (sCap:=c) (dLen:=k) (dCap:=k) (λj u hu=>by
  rcases Nat.lt_or_ge 0 k with hk0 | hk0
  ·rw[show min 1 k=1 by omega]at hu;simp only[List.replicate_one,List.flatten_cons,List.flatten_nil,List.append_nil]at hu;exact src1 hS1 j u hu
  ·rw[show min 1 k=0 by omega]at hu;simp at hu) rfl
 have hst:=step 0 (min 1 k) (by omega);simp only[List.set_cons_zero]at hS';rw[hst]at hS';simp only[Nat.zero_add]at hS';rw[Nat.zero_mul]at hr;refine ZJc wn rfl zl (Zwu hS1 rfl rfl (hr _)) hS' λfa hS=>?_;refine mw hS rfl λfa hS=>?_;refine oe ?_;have hS:=hS.fr' (σ':=[(8,.int .i64 ((min 1 k:Nat):Int)),(7,.slice (mkA (some b2)) k k)]) rfl;refine wp_seq_k λN3 hN3=>?_;refine wp_block ?_;refine wp_loop_fuel (λm a w'=>∃ j,k-j<m∧Inv j a w') (k+1) ⟨min 1 k,by omega,v1,by omega,by omega,hS⟩ (λa w' ⟨j,h,_⟩=>by omega) ?_;rintro m fa wo3 ⟨j,hjm,v3,hjk,hj0,hS⟩ N hN;refine wp_seq_k λN4 hN4=>?_;refine sr ?_;refine mv hS rfl λfa hS=>?_;refine mv hS rfl λfa hS=>?_;refine ov hS rfl (Zge hS rfl rfl ZSk) λfa hS=>?_;refine ov hS rfl (ZJ hS rfl rfl Zne) λfa hS=>?_;refine oe ?_;by_cases hlt:j<k
 ·refine ZNb hS rfl (dTq (by omega)) ?_;refine wp_skip ?_;refine Zr (hN4 _ _ ?_);refine wp_block ?_;have hS:=hS.fr' (σ':=[(8,.int .i64 (j:Int)),(7,.slice (mkA (some b2)) k k)]) rfl;refine Zmk (fl:=#[true,true,true,true,true,true,true,false,false,false]) Zty (by kernel_rfl) hS ?_;intro ops hops hF wo hS;refine rf hops hF 0 rfl (by kernel_rfl) rfl hS (Z1 hS rfl) λfa hS=>?_;refine rf hops hF 1 rfl (by kernel_rfl) rfl hS (Z1 hS rfl) λfa hS=>?_;refine rf hops hF 2 rfl (by kernel_rfl) rfl hS (Z1 hS rfl) λfa hS=>?_;refine rf hops hF 3 rfl (by kernel_rfl) rfl hS (ZoA hS ZSk rfl rfl (by omega) (by omega)) λfa hS=>?_;refine rf hops hF 4 rfl (by kernel_rfl) rfl hS (Z1 hS rfl) λfa hS=>?_;refine rf hops hF 5 rfl (by kernel_rfl) rfl hS (Z1 hS rfl) λfa hS=>?_;refine rf hops hF 6 rfl (by kernel_rfl) rfl hS (Zhz hS ZSk rfl rfl (by omega) (by omega)) λfa hS=>?_;rw[Nat.zero_add]at hS;obtain⟨wo',hr,hS'⟩:=ZHt (t:=36) (sT:=36) Z8o hS (i:=0) rfl (p:=j) (k:=min j (k-j)) (c:=(List.replicate (min j (k-j)) c1).flatten) (rl _) (by omega) (rpl _) (ad:=⟨b2,0,none⟩) (sLen:=j) (sCap:=k) (dLen:=k-j) (dCap:=k-j) (λi u hu=>by
   have hi:=(List.getElem?_eq_some_iff.1 hu).1;refine ZAl hS (j:=0) rfl i u ?_;rw[Zcr (c:=c1) (m:=min j (k-j)) (n:=j) (by omega),aAq,List.getElem?_append_left hi];exact hu) rfl
  have hst:=step j (min j (k-j)) (by omega);simp only[List.set_cons_zero]at hS';rw[hst]at hS';refine Zpl hops hF 7 (by kernel_rfl) ?_;refine nx_ex' [3,6,1,2,4,5] [0] hops rfl (by kernel_rfl) wn rfl zl (Zwu hS rfl rfl (hr _)) hS' λfa hS=>?_;refine⟨(py hS rfl rfl (Z1 hS rfl) ZHe),?_⟩;refine Zpl hops hF 8 (by kernel_rfl) ?_;have hadd:chk .i64 ((j:Int)+((min j (k-j):Nat):Int))=some ((j+min j (k-j):Nat):Int):=by rw[Zi (by omega) (by omega)];rfl
  refine nv [0,7,3,6,1,2,4,5] [] hops rfl (by kernel_rfl) rfl hS (ZJ hS rfl rfl (Z1f hadd)) λfa hS=>?_;refine⟨ZHe,?_⟩;refine Zpl hops hF 9 (by kernel_rfl) ?_;refine nv [0,1,2,3,4,5,6,7,8] [] hops rfl (by kernel_rfl) rfl hS (ZYe hS rfl) λfa hS=>?_;refine⟨ZHe,?_⟩;refine Zrr hops hF (by kernel_rfl) ?_;refine Z5d ?_;have hj0:=hj0 (by omega);exact Zr (hN _ _ ⟨j+min j (k-j),by omega,v3,by omega,λ_=>by omega,hS.fr' rfl⟩)
 refine Z9a hS rfl (dFq (by omega)) ?_;refine wp_exit ?_;refine Zob ?_;refine Zob ?_;refine ZQd ?_;refine Zr (hN3 _ _ ?_);have hjk:j=k:=by omega
 subst hjk;rw[Nat.sub_self,List.replicate_zero,List.flatten_nil,List.append_nil]at hS;refine sr ?_;refine mv hS rfl λfa hS=>?_;refine mw hS rfl λfa hS=>?_;refine oe ?_;refine wp_ret ?_;exact ZTn hS (i:=0) rfl (Zpe rfl (Zyb hS rfl)) (ZKg (Rep.mono _ hS.vst.le hrc) _) (List.length_replicate (n:=j) (a:=y)).symm
noncomputable def Ziu:FuncId×Con:=(60,⟨[.slice (.slice (.leaf 3))],[.slice (.slice (.leaf 3)),.int .i64],λp=>ZZl p⟩)
theorem Zpy : KQ Ziu := Zg (Zp (C := cf0 [Zni, Zmf, Z4k, Zmo, Zep, Z3i] [] [Zul] [((44, "Neg"), 77)]) (.n (.n (.n (.n (.f (.n (.f (.l [0, 4, 5, 22] [] [.s 7 (.own 36 (.slice (.leaf 3))), .s 23 (.dat (.int .i64))] 0 [] [] [.s 7 (.own 36 (.slice (.leaf 3)))] (.f (.n (.n (.f (.j [0, 4, 5, 22, 23] [] [.s 7 (.own 36 (.slice (.leaf 3)))] (.f (.n (.n (.n (.n (.f (.n (.f (.l [0, 4, 5, 7, 8, 9, 22, 23, 36, 37] [] [.s 38 (.dat (.int .i64)), .l (.sl 9) (.own 44 (.leaf 3))] 2 [0, 4, 5, 7, 9, 22, 23] [] [.l (.sl 9) (.own 44 (.leaf 3))] .no)))))))))))))))))))))) Tryz.func60 [(105, Tryz.f105, .no)] (λ_ => by kernel_rfl) ⟨Zjk, Zqg, ZVn, ZFu, ZKy, ZHk, tr⟩ ⟨ZWp, tr⟩ ⟨Znu, tr⟩ ⟨⟨Tryz.func105, λ_ _ => by kernel_rfl⟩, tr⟩)
noncomputable def Z7h:FuncId×Con:=(61,⟨[.slice (.leaf 3),.slice (.leaf 3)],[.leaf 3],λp=>Zfe p.1 p.2⟩)
theorem Zuk : KQ Z7h := Zg (Zp (C := cf0 [ZFg, Zpg, Z3i] [] [] [((44, "Add"), 44), ((44, "Mul"), 43)]) (.n (.n (.f (.n (.f (.l [0, 1, 4, 5, 9] [] [.s 10 (.dat (.int .i64)), .l (.sl 5) (.box 44 (.dat (.leaf 3)))] 0 [4, 5] [] [.l (.sl 5) (.box 44 (.dat (.leaf 3)))] .no)))))) Tryz.func61 [] (λ_ => by kernel_rfl) ⟨Z4i, ZDg, ZHk, tr⟩ tr ⟨Z1z, Zcs, tr⟩)
noncomputable def Z6n:FuncId×Con:=(32,⟨[.slice (.slice (.leaf 3)),.slice (.leaf 3)],[.bool,.slice (.leaf 3),.int .i64],λp=>Znd p.1 p.2⟩)
theorem ZOt : KQ Z6n := Zg (Zp (C := cf0 [ZJi, Zni, Zmf, Ziu, Z7h] [] [] [((44, "Zero"), 11)]) (.n (.two (.f (.j [0, 1] [] [.s 20 (.dat .bool)] .no)) (.n (.f (.n (.f (.cut ⟨⟨[1, 26, 27], [], [.s 28 (.dat (.int .i64))]⟩, [(.exit 0, ⟨[], [], []⟩), (.ret, ⟨[], [], [.s 1000 (.dat .bool), .s 1001 (.dat (.slice (.leaf 3))), .s 1002 (.dat (.int .i64))]⟩)]⟩ .no))))))) Tryz.func32 [] (λ_ => by kernel_rfl) ⟨ZMl, Zjk, Zqg, Zpy, Zuk, tr⟩ tr ⟨Z6s, tr⟩)
noncomputable def Z1u:FuncId×Con:=(8,⟨[.pair (.int .i64) (.pair (.int .i64) (.pair (.int .i64) (.int .i64))),.slice (.pair (.int .i64) (.pair (.int .i64) (.pair (.int .i64) (.pair (.int .i64) (.leaf 3))))),.int .i64,.int .i64],[.bool,.slice (.leaf 3),.int .i64],λp=>Zsd p.1 p.2.1 p.2.2.1 p.2.2.2⟩)
theorem ZQz:KQ Z1u:=Zg (Zp (C:=cf0 [Zgn,Z6n] [] [] []) .no Tryz.func8 [] (λ_=>by kernel_rfl) ⟨ZZq,ZOt,tr⟩)
noncomputable def ZDp:FuncId×Con:=(107,⟨[.slice (.slice (.leaf 3)),.slice (.slice (.leaf 3))],[.slice (.slice (.leaf 3))],λp=>Zel p.1 p.2⟩)
theorem Zew:KQ ZDp:=Zg (Zp (C:=cf0 [] [8] [Zok] []) (.n (.n (.f (.n (.f (.l [1,5,10] [] [.s 11 (.dat (.int .i64)),.l (.sl 5) (.mat 36 44 (.leaf 3))] 0 [5] [] [.l (.sl 5) (.mat 36 44 (.leaf 3))] .no)))))) Tryz.func107 [(150,Tryz.f150,.n (.n (.f (.n (.f (.l [3,9,10] [] [.s 11 (.dat (.int .i64)),.l (.sl 3) (.mat 36 44 (.leaf 3))] 0 [3] [] [.l (.sl 3) (.mat 36 44 (.leaf 3))] .no))))))] (λ_=>by kernel_rfl) tr ⟨Zss,tr⟩ tr ⟨⟨Tryz.func150,λ_ _=>by kernel_rfl⟩,tr⟩)
noncomputable def ZBp:FuncId×Con:=(108,⟨[.slice (.leaf 3)],[.slice (.slice (.leaf 3))],λp=>Zyl p⟩)
theorem ZIw:KQ ZBp:=Zg (Zp (C:=cf0 [] [8] [] []) (.n (.n (.f (.n (.f (.l [3,9,10] [] [.s 11 (.dat (.int .i64)),.l (.sl 3) (.mat 36 44 (.leaf 3))] 0 [3] [] [.l (.sl 3) (.mat 36 44 (.leaf 3))] .no)))))) Tryz.func108 [] (λ_=>by kernel_rfl))
noncomputable def Any_q:FuncId×Con:=(62,⟨[.slice (.slice (.leaf 3)),.slice (.leaf 3)],[.slice (.leaf 3),.int .i64],λp=>ZHl p.1 p.2⟩)
theorem Any_k:KQ Any_q:=Zg (Zp (C:=cf0 [Zni,Zmf,Zmo,Z3i,ZDp,ZBp] [] [Zul] []) (.n (.two (.f (.j [0,1] [] [.s 23 (.dat .bool)] .no)) (.n (.n (.two (.n (.f (.j [6,7,8] [] [.s 47 (.dat .bool)] .no))) (.n (.f (.n (.f (.l [6,7,11,50,51] [] [.s 52 (.dat (.int .i64)),.l (.sl 11) (.own 44 (.leaf 3))] 0 [11] [] [.l (.sl 11) (.own 44 (.leaf 3))] .no)))))))))) Tryz.func62 [(105,Tryz.f105,.no)] (λ_=>by kernel_rfl) ⟨Zjk,Zqg,ZFu,ZHk,Zew,ZIw,tr⟩ ⟨ZWp,tr⟩ tr ⟨⟨Tryz.func105,λ_ _=>by kernel_rfl⟩,tr⟩)
noncomputable def Z3u:FuncId×Con:=(209,⟨[.leaf 3],[.leaf 3],λp=>Zqs p⟩)
theorem qconj_k:KQ Z3u:=Zg (Zp (C:=cf0 [] [] [] []) .no Tryz.func209 [] (λ_=>by kernel_rfl))
noncomputable def Z9u:FuncId×Con:=(110,⟨[.leaf 3],[.leaf 3],λp=>ZBo p⟩)
theorem lconj_k : KQ Z9u := Zg (Zp (C := cf0 [Z3u] [] [] [((44, "Conj"), 209)]) .no Tryz.func110 [] (λ_ => by kernel_rfl) ⟨qconj_k, tr⟩ tr ⟨ZOz, tr⟩)
noncomputable def Zmu:FuncId×Con:=(153,⟨[.leaf 3],[.leaf 3],λp=>Zln p⟩)
theorem Zkw:KQ Zmu:=Zg (Zp (C:=cf0 [] [] [] []) .no Tryz.func153 [] (λ_=>by kernel_rfl))
noncomputable def ZOs:FuncId×Con:=(111,⟨[.slice (.slice (.leaf 3)),.slice (.slice (.leaf 3))],[.slice (.slice (.leaf 3))],λp=>ZNj p.1 p.2⟩)
theorem ZVv:KQ ZOs:=Zg (Zp (C:=cf0 [Zmf,Z7h,Zmu] [12,15] [] []) (.n (.n (.n (.f (.n (.f (.l [5,6,16,17] [] [.s 18 (.dat (.int .i64)),.l (.sl 6) (.mat 36 44 (.leaf 3))] 0 [6] [] [.l (.sl 6) (.mat 36 44 (.leaf 3))] (.f (.n (.n (.f (.f (.n (.n (.f (.l [5,6,7,8,16,17,18,23,24] [] [.s 25 (.dat (.int .i64)),.l (.sl 6) (.mat 36 44 (.leaf 3))] 2 [5,6,16,17,18] [] [.l (.sl 6) (.mat 36 44 (.leaf 3))] .no)))))))))))))))) Tryz.func111 [(109,Tryz.f109,.r [] [] [.s 1000 (.dat (.slice (.slice (.leaf 3))))] (.n (.n (.f (.n (.f (.l [1,5,13,14] [] [.s 15 (.dat (.int .i64)),.l (.sl 5) (.mat 36 44 (.leaf 3))] 0 [5] [] [.l (.sl 5) (.mat 36 44 (.leaf 3))] (.f (.n (.n (.f (.f (.n (.n (.f (.l [1,5,13,14,15,19,20] [] [.s 21 (.dat (.int .i64)),.l (.sl 5) (.mat 36 44 (.leaf 3))] 2 [1,5,13,14,15] [] [.l (.sl 5) (.mat 36 44 (.leaf 3))] .no))))))))))))))))] (λ_=>by kernel_rfl) ⟨Zqg,Zuk,Zkw,tr⟩ tr tr ⟨⟨Tryz.func109,λ_ _=>by kernel_rfl⟩,tr⟩)
noncomputable def Zjt:FuncId×Con:=(112,⟨[.slice (.slice (.leaf 3)),.slice (.leaf 3)],[.slice (.leaf 3)],λp=>ZQk p.1 p.2⟩)
theorem Zaw:KQ Zjt:=Zg (Zp (C:=cf0 [Z7h] [] [] []) (.n (.n (.f (.n (.f (.l [1,8,9] [] [.s 5 (.own 44 (.leaf 3)),.s 10 (.dat (.int .i64))] 0 [] [] [.s 5 (.own 44 (.leaf 3))] .no)))))) Tryz.func112 [] (λ_=>by kernel_rfl) ⟨Zuk,tr⟩)
noncomputable def ZSu:FuncId×Con:=(63,⟨[.slice (.slice (.leaf 3)),.slice (.leaf 3)],[.slice (.slice (.leaf 3)),.slice (.leaf 3)],λp=>Zpk p.1 p.2⟩)
theorem Zxw:KQ ZSu:=Zg (Zp (C:=cf0 [Zmf,Z9u,ZOs,Zjt] [12] [] []) .no Tryz.func63 [(109,Tryz.f109,.r [] [] [.s 1000 (.dat (.slice (.slice (.leaf 3))))] (.n (.n (.f (.n (.f (.l [1,5,13,14] [] [.s 15 (.dat (.int .i64)),.l (.sl 5) (.mat 36 44 (.leaf 3))] 0 [5] [] [.l (.sl 5) (.mat 36 44 (.leaf 3))] (.f (.n (.n (.f (.f (.n (.n (.f (.l [1,5,13,14,15,19,20] [] [.s 21 (.dat (.int .i64)),.l (.sl 5) (.mat 36 44 (.leaf 3))] 2 [1,5,13,14,15] [] [.l (.sl 5) (.mat 36 44 (.leaf 3))] .no))))))))))))))))] (λ_=>by kernel_rfl) ⟨Zqg,lconj_k,ZVv,Zaw,tr⟩ tr tr ⟨⟨Tryz.func109,λ_ _=>by kernel_rfl⟩,tr⟩)
noncomputable def ZDt:FuncId×Con:=(33,⟨[.slice (.slice (.leaf 3)),.slice (.leaf 3),.slice (.leaf 3)],[.leaf 3,.int .i64],λp=>ZIg p.1 p.2.1 p.2.2⟩)
theorem Z9z:KQ ZDt:=Zg (Zp (C:=cf0 [Z6n,Zni,Zmf,Z7h,Any_q,ZSu] [] [] []) (.n (.n (.f (.f (.j [0,1,2,6,8] [] [.s 30 (.dat .bool)] .no))))) Tryz.func33 [] (λ_=>by kernel_rfl) ⟨ZOt,Zjk,Zqg,Zuk,Any_k,Zxw,tr⟩)
noncomputable def ZVs:FuncId×Con:=(9,⟨[.pair (.int .i64) (.pair (.int .i64) (.pair (.int .i64) (.int .i64))),.slice (.pair (.int .i64) (.pair (.int .i64) (.pair (.int .i64) (.pair (.int .i64) (.leaf 3))))),.int .i64,.int .i64],[.leaf 3,.int .i64],λp=>ZNe p.1 p.2.1 p.2.2.1 p.2.2.2⟩)
theorem ZCy:KQ ZVs:=Zg (Zp (C:=cf0 [Zgn,ZDt] [] [] []) (.n (.n (.n (.n (.f (.n (.f (.l [8,10,11,29,30] [] [.s 13 (.own 44 (.leaf 3)),.s 31 (.dat (.int .i64))] 0 [8,10,11] [] [.s 13 (.own 44 (.leaf 3))] .no)))))))) Tryz.func9 [] (λ_=>by kernel_rfl) ⟨ZZq,Z9z,tr⟩)
noncomputable def ZSp:FuncId×Con:=(10,⟨[.pair (.int .i64) (.pair (.int .i64) (.pair (.int .i64) (.int .i64))),.slice (.pair (.pair (.int .i64) (.pair (.int .i64) (.pair (.int .i64) (.int .i64)))) (.leaf 4))],[.int .i64],λp=>Zqf p.1 p.2⟩)
theorem Zuz:KQ ZSp:=Zg (Zp (C:=cf0 [] [] [] []) (.n (.two (.n (.f (.unroll 5 (.f (.n (.f (.f (.f (.j [1,2,5] [] [.s 21 (.dat .bool)] .no))))))))) (.two (.f (.j [1,2] [] [.s 29 (.dat .bool)] .no)) (.f (.n (.f (.cut ⟨⟨[1,2],[],[.s 6 (.dat (.int .i64))]⟩,[(.exit 2,⟨[],[],[]⟩),(.ret,⟨[],[],[.s 1000 (.dat (.int .i64))]⟩)]⟩ (.f (.n (.f (.f (.n (.f (.unroll 5 (.f (.n (.f (.f (.f (.j [1,2,6,7] [] [.s 60 (.dat .bool)] .no)))))))))))))))))))) Tryz.func10 [] (λ_=>by kernel_rfl))
noncomputable def ZNl:FuncId×Con:=(65,⟨[.leaf 4],[.pair (.leaf 4) (.pair (.leaf 4) (.pair (.leaf 4) (.leaf 4)))],λp=>ZZe p⟩)
theorem ZDn:KQ ZNl:=Zg (Zp (C:=cf0 [Zxc] [] [] []) .no Tryz.func65 [] (λ_=>by kernel_rfl) ⟨ZRc,tr⟩)
noncomputable def ZPf:FuncId×Con:=(35,⟨[.leaf 4],[.pair (.pair (.leaf 4) (.pair (.leaf 4) (.pair (.leaf 4) (.leaf 4)))) (.pair (.leaf 4) (.pair (.leaf 4) (.pair (.leaf 4) (.leaf 4))))],λp=>ZBc p⟩)
theorem Z0g:KQ ZPf:=Zg (Zp (C:=cf0 [Zxc,ZNl] [] [] []) .no Tryz.func35 [] (λ_=>by kernel_rfl) ⟨ZRc,ZDn,tr⟩)
noncomputable def ZBh:FuncId×Con:=(64,⟨[],[.pair (.pair (.leaf 4) (.pair (.leaf 4) (.pair (.leaf 4) (.leaf 4)))) (.pair (.leaf 4) (.pair (.leaf 4) (.pair (.leaf 4) (.leaf 4))))],λ_=>Z4d⟩)
theorem ZQi:KQ ZBh:=Zg (Zp (C:=cf0 [ZPf,Zxc] [] [] []) .no Tryz.func64 [] (λ_=>by kernel_rfl) ⟨Z0g,ZRc,tr⟩)
noncomputable def Z9i:FuncId×ConM:=(34,⟨[.int .i64,.int .i64],51,106,.pair (.pair (.leaf 4) (.pair (.leaf 4) (.pair (.leaf 4) (.leaf 4)))) (.pair (.leaf 4) (.pair (.leaf 4) (.pair (.leaf 4) (.leaf 4)))),λp=>ZPd p.1 p.2⟩)
theorem ZFk:KW Z9i:=conm_z (C:=cf0 [ZBh] [9] [] []) (.n (.n (.f (.n (.f (.l [0,1,5] [] [.s 6 (.dat (.int .i64)),.l (.sl 5) (.mat 51 106 (.pair (.pair (.leaf 4) (.pair (.leaf 4) (.pair (.leaf 4) (.leaf 4)))) (.pair (.leaf 4) (.pair (.leaf 4) (.pair (.leaf 4) (.leaf 4))))))] 0 [5] [] [.l (.sl 5) (.mat 51 106 (.pair (.pair (.leaf 4) (.pair (.leaf 4) (.pair (.leaf 4) (.leaf 4)))) (.pair (.leaf 4) (.pair (.leaf 4) (.pair (.leaf 4) (.leaf 4))))))] (.f (.n (.f (.f (.n (.f (.l [0,1,5,6] [] [.s 7 (.dat (.int .i64)),.l (.sl 5) (.mat 51 106 (.pair (.pair (.leaf 4) (.pair (.leaf 4) (.pair (.leaf 4) (.leaf 4)))) (.pair (.leaf 4) (.pair (.leaf 4) (.pair (.leaf 4) (.leaf 4))))))] 2 [0,1,5,6] [] [.l (.sl 5) (.mat 51 106 (.pair (.pair (.leaf 4) (.pair (.leaf 4) (.pair (.leaf 4) (.leaf 4)))) (.pair (.leaf 4) (.pair (.leaf 4) (.pair (.leaf 4) (.leaf 4))))))] .no))))))))))))) Tryz.func34 [] (λ_=>by kernel_rfl) ⟨ZQi,tr⟩
noncomputable def Zpn:FuncId×Con:=(36,⟨[],[.leaf 4],λ_=>Zdf⟩)
theorem Zdr:KQ Zpn:=Zg (Zp (C:=cf0 [Zxc] [] [] []) .no Tryz.func36 [] (λ_=>by kernel_rfl) ⟨ZRc,tr⟩)
noncomputable def Z1k:FuncId×Con:=(12,⟨[.pair (.int .i64) (.pair (.int .i64) (.pair (.int .i64) (.int .i64))),.slice (.pair (.pair (.int .i64) (.pair (.int .i64) (.pair (.int .i64) (.int .i64)))) (.leaf 4))],[.slice (.slice (.pair (.pair (.leaf 4) (.pair (.leaf 4) (.pair (.leaf 4) (.leaf 4)))) (.pair (.leaf 4) (.pair (.leaf 4) (.pair (.leaf 4) (.leaf 4))))))],λp=>Zah p.1 p.2⟩)
theorem Z9n:KQ Z1k:=Zg (Zp (C:=cf1 [ZPf,Zpn] [] [] [] [Z9i] [] []) (.n (.n (.f (.n (.f (.l [1,2,5] [] [.s 6 (.dat (.int .i64)),.l (.sl 5) (.mat 51 106 (.pair (.pair (.leaf 4) (.pair (.leaf 4) (.pair (.leaf 4) (.leaf 4)))) (.pair (.leaf 4) (.pair (.leaf 4) (.pair (.leaf 4) (.leaf 4))))))] 0 [5] [] [.l (.sl 5) (.mat 51 106 (.pair (.pair (.leaf 4) (.pair (.leaf 4) (.pair (.leaf 4) (.leaf 4)))) (.pair (.leaf 4) (.pair (.leaf 4) (.pair (.leaf 4) (.leaf 4))))))] (.f (.n (.f (.f (.n (.n (.f (.unroll 5 .no)))))))))))))) Tryz.func12 [] (λ_=>by kernel_rfl) ⟨Z0g,Zdr,tr⟩ tr tr tr ⟨ZFk,tr⟩)
noncomputable def ZQu (x:Rat):Option ((List UInt8)) :=
 bnd (Z6g x.num.natAbs) λb =>
 bnd (ifb (decide (x.num<0))
 (bnd (ZHc x) λd =>
 some (!(d)))
 (some false))
 (λ(e:Bool) =>
 (bnd (ifb (e)
 (bnd (Zsb ((([45]:List UInt8))++b)) λj =>
 some (((([45]:List UInt8))++b)))
 (some b))
 (λ(a:(List UInt8)) =>
 (bnd (ZSb x) λf =>
 bnd (Z0b ([(1:Int)])) λg =>
 bnd (Zod f g) λh =>
 bnd (ifb (decide ((0:Int)<h))
 (bnd (Zsb (a++(([47]:List UInt8)))) λk =>
 bnd (Z6g x.den) λc =>
 bnd (Zsb (((a++(([47]:List UInt8))))++c)) λl =>
 some ((((a++(([47]:List UInt8))))++c)))
 (some a))
 (λ(i:(List UInt8)) =>
 (some i))))))
noncomputable def Zxs:FuncId×Con:=(72,⟨[.leaf 1],[.str],λp=>Z6g p⟩)
theorem ZzA:KQ Zxs:=Zg (Zx (C:=cf2 [(54,1),(56,4)] [ZLo]) (.n (.n (.f (.j [] [] [.s 3 (.dat .str)] (.f (.l [] [] [.s 0 (.dat (.leaf 1)),.s 3 (.dat .str)] 0 [] [] [.s 3 (.dat .str)] (.f (.n (.f (.n (.f (.n (.j [4] [] [.s 3 (.dat .str)] (.f (.l [4] [] [.s 3 (.dat .str),.s 5 (.dat (.int .u32)),.s 6 (.dat (.int .i64))] 2 [4] [] [.s 3 (.dat .str)] (.f (.f (.f (.j [3,4,5,6] [] [.s 25 (.dat .bool)] .no))))))))))))))))))) Tryz.func72 [] (λv vals x z ha hz=>.trans (by kernel_rfl) (Zsx hz)) ⟨Z6q,tr⟩)
noncomputable def Zll:FuncId×Con:=(73,⟨[.leaf 4],[.bool],λp=>ZHc p⟩)
theorem ZBm:KQ Zll:=Zg (Zx (C:=cf2 [(54,1),(56,4)] []) .no Tryz.func73 [] (λv vals x z ha hz=>.trans (by kernel_rfl) (ZPz hz)))
noncomputable def ZMh:FuncId×Con:=(75,⟨[.leaf 4],[.leaf 1],λp=>ZSb p⟩)
theorem Zfi:KQ ZMh:=Zg (Zx (C:=cf2 [(54,1),(56,4)] []) .no Tryz.func75 [] (λv vals x z ha hz=>.trans (by kernel_rfl) (ZVx hz)))
theorem Z5z {x:Rat} {z:List UInt8} (h:ZXh x=some z):ZQu x=some z:=by
 unfold ZXh at h;split at h
 ·rename_i hh;obtain⟨h1,h2⟩:=hh
  cases h
  unfold ZQu Z6g;have l1:=ZGl (n:=x.num.natAbs) (by omega);have l2:=ZGl (n:=x.den) (by omega);rw[iP (Zed h1),Za];have e0:ifb (decide (x.num<0)) (bnd (ZHc x) λy136=>some (!(y136))) (some false)=some (decide (x.num<0)):=by
   unfold ZHc;by_cases h:x.num<0
   ·have:x≠0:=λe=>by subst e;simp at h
    rw[dTq h,Ze,Za,dFq this];rfl
   ·rw[dFq h,Zd]
  rw[e0,Za];have e1:ifb (decide (x.num<0)) (bnd (Zsb ([45]++ZQa x.num.natAbs)) λy80=>some (([45]:List UInt8)++ZQa x.num.natAbs)) (some (ZQa x.num.natAbs))=some ((if x.num<0 then [45] else [])++ZQa x.num.natAbs):=by
   by_cases h:x.num<0
   ·rw[dTq h,Ze,ZCe (by simp;omega),Za,iP h]
   ·rw[dFq h,Zd,iN h];rfl
  rw[e1,Za];unfold txtQ ZSb Zod;have l3:((if x.num<0 then [45] else [])++ZQa x.num.natAbs:List UInt8).length≤4398046511105:=by
   rw[lA];split <;> simp <;> omega
  generalize ((if x.num<0 then [45] else [])++ZQa x.num.natAbs:List UInt8)=s at *;rw[Za,Zpo,Za,Za,ZVr];by_cases hd:x.den=1
  ·rw[hd];simp[ifb,bnd]
  ·have:=x.den_nz;rw[dTq (by omega),Ze,ZCe (by simp;omega),Za,iP (Zed h2),Za,ZCe (by simp;omega),Za,Za,iN hd];simp
 ·cases h
noncomputable def Zav:FuncId×Con:=(40,⟨[.leaf 4],[.str],λp=>ZXh p⟩)
theorem rtext_k:KQ Zav:=Zg (Zx (C:=cf2 [(54,1),(56,4)] [Zxs,Zll,Zlk,ZMh]) (.n (.n (.two (.two (.j [1,3] [] [.s 13 (.dat .bool)] .no) (.j [1] [] [.s 3 (.dat .str)] .no)) (.f (.n (.j [] [] [.s 3 (.dat .str)] .no)))))) Tryz.func40 [] (λv vals x z ha hz=>.trans (by kernel_rfl) (Z5z hz)) ⟨ZzA,ZBm,Zdo,Zfi,tr⟩)
noncomputable def is1_q:FuncId×Con:=(16,⟨[.leaf 3,.leaf 4],[.bool],λp=>Zhi p.1 p.2⟩)
theorem is1_k:KQ is1_q:=Zg (Zp (C:=cf0 [ZQo,Zav] [] [] []) .no Tryz.func16 [] (λ_=>by kernel_rfl) ⟨Zor,rtext_k,tr⟩)
noncomputable def Zls:FuncId×Con:=(13,⟨[.slice (.leaf 3),.slice (.pair (.pair (.leaf 4) (.pair (.leaf 4) (.pair (.leaf 4) (.leaf 4)))) (.pair (.leaf 4) (.pair (.leaf 4) (.pair (.leaf 4) (.leaf 4)))))],[.bool],λp=>ZQf p.1 p.2⟩)
theorem same8_k:KQ Zls:=Zg (Zp (C:=cf0 [is1_q] [] [] []) (.n (.n (.f (.n (.f (.cut ⟨⟨[0,1,12],[],[.s 13 (.dat (.int .i64))]⟩,[(.exit 0,⟨[],[],[]⟩),(.ret,⟨[],[],[.s 1000 (.dat .bool)]⟩)]⟩ .no)))))) Tryz.func13 [] (λ_=>by kernel_rfl) ⟨is1_k,tr⟩)
noncomputable def Z2g:FuncId×Con:=(66,⟨[.slice (.slice (.pair (.pair (.leaf 4) (.pair (.leaf 4) (.pair (.leaf 4) (.leaf 4)))) (.pair (.leaf 4) (.pair (.leaf 4) (.pair (.leaf 4) (.leaf 4))))))],[.bool],λp=>Zzd p⟩)
theorem Zoj:KQ Z2g:=Zg (Zp (C:=cf0 [] [] [] []) (.n (.f (.n (.f (.cut ⟨⟨[0],[],[.s 3 (.dat (.int .i64))]⟩,[(.exit 0,⟨[0],[],[]⟩),(.ret,⟨[],[],[.s 1000 (.dat .bool)]⟩)]⟩ (.f (.n (.f (.f (.f (.j [0,3] [] [.s 27 (.dat .bool)] .no))))))))))) Tryz.func66 [] (λ_=>by kernel_rfl))
noncomputable def Zeh:FuncId×Con:=(67,⟨[.slice (.slice (.pair (.pair (.leaf 4) (.pair (.leaf 4) (.pair (.leaf 4) (.leaf 4)))) (.pair (.leaf 4) (.pair (.leaf 4) (.pair (.leaf 4) (.leaf 4))))))],[.int .i64],λp=>Ztd p⟩)
theorem Zki:KQ Zeh:=Zg (Zp (C:=cf0 [] [] [] []) .no Tryz.func67 [] (λ_=>by kernel_rfl))
noncomputable def ZKn:FuncId×Con:=(116,⟨[.pair (.leaf 4) (.pair (.leaf 4) (.pair (.leaf 4) (.leaf 4)))],[.bool],λp=>ZTg p⟩)
theorem Z9p:KQ ZKn:=Zg (Zp (C:=cf0 [Zll] [] [] []) (.n (.f (.j [] [] [.s 2 (.dat .bool)] .no))) Tryz.func116 [] (λ_=>by kernel_rfl) ⟨ZBm,tr⟩)
noncomputable def Zvi:FuncId×Con:=(69,⟨[.pair (.pair (.leaf 4) (.pair (.leaf 4) (.pair (.leaf 4) (.leaf 4)))) (.pair (.leaf 4) (.pair (.leaf 4) (.pair (.leaf 4) (.leaf 4))))],[.bool],λp=>Z7f p⟩)
theorem ZYl:KQ Zvi:=Zg (Zp (C:=cf0 [ZKn] [] [] []) (.n (.f (.j [] [] [.s 2 (.dat .bool)] .no))) Tryz.func69 [] (λ_=>by kernel_rfl) ⟨Z9p,tr⟩)
noncomputable def Zwq:FuncId×Con:=(189,⟨[.leaf 1,.leaf 1],[.leaf 1],λp=>ZPh p.1 p.2⟩)
theorem rsum_k:KQ Zwq:=Zg (Zx (C:=cf2 [(54,1),(56,4)] [ZWe]) (.n (.n (.n (.f (.n (.j [] [] [.s 5 (.own 150 (.int .u32)),.s 6 (.dat (.int .u64))] (.f (.l [0,1] [] [.s 5 (.own 150 (.int .u32)),.s 6 (.dat (.int .u64)),.s 7 (.dat (.int .i64))] 0 [] [] [.s 5 (.own 150 (.int .u32)),.s 6 (.dat (.int .u64))] (.f (.two (.f (.j [0,1,5,6,7] [] [.s 18 (.dat .bool)] .no)) (.f (.f (.two (.n (.j [0,1,5,7] [] [.s 6 (.dat (.int .u64))] .no)) (.f (.n (.j [0,1,5,7] [] [.s 6 (.dat (.int .u64))] .no)))))))))))))))) Tryz.func189 [] (λv vals x z ha hz=>.trans (by kernel_rfl) (ZPx hz)) ⟨Zaf,tr⟩)
theorem radd_eq {x y:Rat} (h:smQ x) (h':smQ y):ZCo x y=some (x+y):=by
 obtain⟨a1,a2⟩:=h;obtain⟨b1,b2⟩:=h';unfold ZCo ZSb;have p1:=ZZa x.num.natAbs y.den;have p2:=ZZa y.num.natAbs x.den;have p3:=ZZa x.den y.den;have p4:=Znk (x.num.natAbs*y.den) (y.num.natAbs*x.den);have hd:x.den*y.den≠0:=Nat.mul_ne_zero x.den_nz y.den_nz;have e1:Zoa x.num.natAbs y.den=some (x.num.natAbs*y.den):=by unfold Zoa;rw[iP ⟨Zwb (by omega),Zwb (by omega)⟩]
 have e2:Zoa y.num.natAbs x.den=some (y.num.natAbs*x.den):=by unfold Zoa;rw[iP ⟨Zwb (by omega),Zwb (by omega)⟩]
 have e3:Zoa x.den y.den=some (x.den*y.den):=by unfold Zoa;rw[iP ⟨Zwb (by omega),Zwb (by omega)⟩]
 have eN:((x.num.natAbs*y.den:Nat):Int)=(x.num.natAbs:Int)*y.den:=by simp
 have eM:((y.num.natAbs*x.den:Nat):Int)=(y.num.natAbs:Int)*x.den:=by simp
 have key:∀ (s:Bool) (n:Nat),bl n≤1099511627776→sgn s n=x.num*y.den+y.num*x.den→Zib s n (x.den*y.den)=some (x+y):=by
  intro s n hn he;unfold Zib;rw[iP ⟨Zed hn,Zed (by omega),hd⟩,he,← Rat.add_def']
 rw[Za,Za,e1,Za,e2,Za,e3];obtain⟨N,hN⟩:∃ N,N=x.num.natAbs*y.den:=⟨_,rfl⟩;obtain⟨M,hM⟩:∃ M,M=y.num.natAbs*x.den:=⟨_,rfl⟩;rw[← hN]at p1 p4 eN ⊢;rw[← hM]at p2 p4 eM ⊢;have sx:x.num*(y.den:Int)=if x.num<0 then -(N:Int) else N:=by
  split
  ·rw[eN,← Int.neg_mul];congr 1;omega
  ·rw[eN];congr 1;omega
 have sy:y.num*(x.den:Int)=if y.num<0 then -(M:Int) else M:=by
  split
  ·rw[eM,← Int.neg_mul];congr 1;omega
  ·rw[eM];congr 1;omega
 by_cases hs:(x.num<0)↔(y.num<0)
 ·have e4:ZPh N M=some (N+M):=by unfold ZPh;rw[iP ⟨Zwb (by omega),Zwb (by omega)⟩]
  have e5:((decide (x.num<0))==(decide (y.num<0)))=true:=by
   by_cases h:x.num<0
   ·simp[h,hs.1 h]
   ·have h2:¬ y.num<0:=λk=>h (hs.2 k);simp[h,h2]
  rw[e5,Ze,e4,Za,Za,key _ _ (by omega) ?_,Za];rw[sx,sy];unfold sgn;by_cases h:x.num<0
  ·have h2:=hs.1 h;simp[h,h2];omega
  ·have h2:¬ y.num<0:=λk=>h (hs.2 k);simp[h,h2]
 ·have e5:((decide (x.num<0))==(decide (y.num<0)))=false:=by
   apply beq_false_of_ne;intro h;exact hs (by by_cases k:x.num<0 <;> by_cases k2:y.num<0 <;> simp_all)
  rw[e5,Zd];unfold Zod;rw[Za];by_cases hle:M≤N
  ·have e6:decide ((0:Int)≤Zma N M)=true:=by
    unfold Zma;rw[iN (by omega)];split <;> rfl
   have e4:Zcc N M=some (N-M):=by unfold Zcc;rw[iP ⟨Zwb (by omega),hle⟩]
   have hb:bl (N-M)≤bl N:=ZUc (by omega);rw[e6,Ze,e4,Za,Za,key _ _ (by omega) ?_,Za];rw[sx,sy];unfold sgn;by_cases h:x.num<0
   ·have h2:¬ y.num<0:=λk=>hs ⟨λ_=>k,λ_=>h⟩;simp[h,h2];omega
   ·have h2:y.num<0:=by
     rcases Int.lt_or_le y.num 0 with k | k
     ·exact k
     ·exact absurd ⟨λq=>absurd q h,λq=>absurd q (by omega)⟩ hs
    simp[h,h2];omega
  ·have e6:decide ((0:Int)≤Zma N M)=false:=by
    unfold Zma;rw[iP (by omega)];rfl
   have e4:Zcc M N=some (M-N):=by unfold Zcc;rw[iP ⟨Zwb (by omega),by omega⟩]
   have hb:bl (M-N)≤bl M:=ZUc (by omega);rw[e6,Zd,e4,Za,Za,key _ _ (by omega) ?_,Za];rw[sx,sy];unfold sgn;by_cases h:x.num<0
   ·have h2:¬ y.num<0:=λk=>hs ⟨λ_=>k,λ_=>h⟩;simp[h,h2];omega
   ·have h2:y.num<0:=by
     rcases Int.lt_or_le y.num 0 with k | k
     ·exact k
     ·exact absurd ⟨λq=>absurd q h,λq=>absurd q (by omega)⟩ hs
    simp[h,h2];omega
theorem Z8A {x y z:Rat} (h:Zha x y=some z):ZCo x y=some z:=by
 unfold Zha at h;split at h
 ·rename_i hh;rw[radd_eq hh.1 hh.2,h]
 ·cases h
noncomputable def ZNn:FuncId×Con:=(182,⟨[.leaf 4,.leaf 4],[.leaf 4],λp=>Zha p.1 p.2⟩)
theorem ZMt:KQ ZNn:=Zg (Zx (C:=cf2 [(54,1),(56,4)] [Zlk,ZMh,ZNf,Z4h,ZRn,Zwq]) .no Tryz.func182 [] (λv vals x z ha hz=>.trans (by kernel_rfl) (Z8A hz)) ⟨Zdo,Zfi,Zrh,Z3j,Z5r,rsum_k,tr⟩)
noncomputable def Z1h:FuncId×Con:=(157,⟨[.pair (.leaf 4) (.pair (.leaf 4) (.pair (.leaf 4) (.leaf 4))),.pair (.leaf 4) (.pair (.leaf 4) (.pair (.leaf 4) (.leaf 4)))],[.pair (.leaf 4) (.pair (.leaf 4) (.pair (.leaf 4) (.leaf 4)))],λp=>ZVd p.1 p.2⟩)
theorem ZUk:KQ Z1h:=Zg (Zp (C:=cf0 [ZNn] [] [] []) .no Tryz.func157 [] (λ_=>by kernel_rfl) ⟨ZMt,tr⟩)
theorem rneg_eq {x:Rat} (h:okQ x):Z5o x=some (-x):=by
 obtain⟨h1,h2⟩:=h;unfold Z5o ZSb Zib;rw[Za,iP ⟨Zed h1,Zed h2,x.den_nz⟩,Za];congr 1;have e:sgn (!(decide (x.num<0))) x.num.natAbs = -x.num:=by
  unfold sgn;by_cases h:x.num<0
  ·simp[h];omega
  ·simp[h];omega
 rw[e];exact Rat.mkRat_self (-x)
theorem ZhA {x z:Rat} (h:ZIb x=some z):Z5o x=some z:=by
 unfold ZIb at h;split at h
 ·rename_i hh;rw[rneg_eq hh,h]
 ·cases h
noncomputable def ZIm:FuncId×Con:=(181,⟨[.leaf 4],[.leaf 4],λp=>ZIb p⟩)
theorem Zoq:KQ ZIm:=Zg (Zx (C:=cf2 [(54,1),(56,4)] [ZMh,ZNf]) .no Tryz.func181 [] (λv vals x z ha hz=>.trans (by kernel_rfl) (ZhA hz)) ⟨Zfi,Zrh,tr⟩)
noncomputable def ZSj:FuncId×Con:=(156,⟨[.pair (.leaf 4) (.pair (.leaf 4) (.pair (.leaf 4) (.leaf 4)))],[.pair (.leaf 4) (.pair (.leaf 4) (.pair (.leaf 4) (.leaf 4)))],λp=>ZGd p⟩)
theorem Zrn:KQ ZSj:=Zg (Zp (C:=cf0 [ZIm] [] [] []) .no Tryz.func156 [] (λ_=>by kernel_rfl) ⟨Zoq,tr⟩)
noncomputable def ZIn:FuncId×Con:=(158,⟨[.pair (.leaf 4) (.pair (.leaf 4) (.pair (.leaf 4) (.leaf 4))),.pair (.leaf 4) (.pair (.leaf 4) (.pair (.leaf 4) (.leaf 4)))],[.pair (.leaf 4) (.pair (.leaf 4) (.pair (.leaf 4) (.leaf 4)))],λp=>Zbf p.1 p.2⟩)
theorem Z1p:KQ ZIn:=Zg (Zp (C:=cf0 [ZSj,Z1h] [] [] []) .no Tryz.func158 [] (λ_=>by kernel_rfl) ⟨Zrn,ZUk,tr⟩)
theorem ZGy {x y z:Rat} (h:Z4 x y=some z):Zwt x y=some z:=by
 unfold Z4 at h;split at h
 ·rename_i hh;obtain⟨⟨a1,a2⟩,b1,b2⟩:=hh
  cases h
  unfold Zwt ZSb;have p1:=ZZa x.num.natAbs y.num.natAbs;have p3:=ZZa x.den y.den;have e1:Zoa x.num.natAbs y.num.natAbs=some (x.num.natAbs*y.num.natAbs):=by unfold Zoa;rw[iP ⟨Zwb (by omega),Zwb (by omega)⟩]
  have e3:Zoa x.den y.den=some (x.den*y.den):=by unfold Zoa;rw[iP ⟨Zwb (by omega),Zwb (by omega)⟩]
  rw[e1,Za,Za,Za,e3,Za];unfold Zib;rw[iP ⟨Zed (by omega),Zed (by omega),Nat.mul_ne_zero x.den_nz y.den_nz⟩,Za];have e:sgn ((decide (x.num<0)) != (decide (y.num<0))) (x.num.natAbs*y.num.natAbs)=x.num*y.num:=by
   have eN:((x.num.natAbs*y.num.natAbs:Nat):Int)=(x.num.natAbs:Int)*y.num.natAbs:=by simp
   unfold sgn;rw[eN];by_cases h:x.num<0
   ·have hx:(x.num.natAbs:Int) = -x.num:=by omega
    by_cases h2:y.num<0
    ·have hy:(y.num.natAbs:Int) = -y.num:=by omega
     simp[h,h2,hx,hy,Int.neg_mul,Int.mul_neg]
    ·have hy:(y.num.natAbs:Int)=y.num:=by omega
     simp[h,h2,hx,hy,Int.neg_mul,Int.mul_neg]
   ·have hx:(x.num.natAbs:Int)=x.num:=by omega
    by_cases h2:y.num<0
    ·have hy:(y.num.natAbs:Int) = -y.num:=by omega
     simp[h,h2,hx,hy,Int.neg_mul,Int.mul_neg]
    ·have hy:(y.num.natAbs:Int)=y.num:=by omega
     simp[h,h2,hx,hy,Int.neg_mul,Int.mul_neg]
  rw[e,← Rat.mul_def']
 ·cases h
noncomputable def ZIt:FuncId×Con:=(183,⟨[.leaf 4,.leaf 4],[.leaf 4],λp=>Z4 p.1 p.2⟩)
theorem rmul_k:KQ ZIt:=Zg (Zx (C:=cf2 [(54,1),(56,4)] [ZMh,ZNf,Z4h]) .no Tryz.func183 [] (λv vals x z ha hz=>.trans (by kernel_rfl) (ZGy hz)) ⟨Zfi,Zrh,Z3j,tr⟩)
noncomputable def Zzk:FuncId×Con:=(159,⟨[.pair (.leaf 4) (.pair (.leaf 4) (.pair (.leaf 4) (.leaf 4))),.pair (.leaf 4) (.pair (.leaf 4) (.pair (.leaf 4) (.leaf 4)))],[.pair (.leaf 4) (.pair (.leaf 4) (.pair (.leaf 4) (.leaf 4)))],λp=>Z9b p.1 p.2⟩)
theorem Zwn:KQ Zzk:=Zg (Zp (C:=cf0 [Zxc,ZNl,ZNn,ZIt] [] [] []) (.n (.n (.f (.n (.f (.unroll 5 (.f (.n (.f (.f (.n (.f (.unroll 5 .no))))))))))))) Tryz.func159 [] (λ_=>by kernel_rfl) ⟨ZRc,ZDn,ZMt,rmul_k,tr⟩)
noncomputable def Zyi:FuncId×Con:=(118,⟨[.pair (.pair (.leaf 4) (.pair (.leaf 4) (.pair (.leaf 4) (.leaf 4)))) (.pair (.leaf 4) (.pair (.leaf 4) (.pair (.leaf 4) (.leaf 4)))),.pair (.pair (.leaf 4) (.pair (.leaf 4) (.pair (.leaf 4) (.leaf 4)))) (.pair (.leaf 4) (.pair (.leaf 4) (.pair (.leaf 4) (.leaf 4))))],[.pair (.pair (.leaf 4) (.pair (.leaf 4) (.pair (.leaf 4) (.leaf 4)))) (.pair (.leaf 4) (.pair (.leaf 4) (.pair (.leaf 4) (.leaf 4))))],λp=>ZId p.1 p.2⟩)
theorem ZHj:KQ Zyi:=Zg (Zp (C:=cf0 [Z1h,ZIn,Zzk] [] [] []) .no Tryz.func118 [] (λ_=>by kernel_rfl) ⟨ZUk,Z1p,Zwn,tr⟩)
noncomputable def Zxo:FuncId×Con:=(160,⟨[.pair (.pair (.leaf 4) (.pair (.leaf 4) (.pair (.leaf 4) (.leaf 4)))) (.pair (.leaf 4) (.pair (.leaf 4) (.pair (.leaf 4) (.leaf 4))))],[.pair (.pair (.leaf 4) (.pair (.leaf 4) (.pair (.leaf 4) (.leaf 4)))) (.pair (.leaf 4) (.pair (.leaf 4) (.pair (.leaf 4) (.leaf 4))))],λp=>Zhj p⟩)
theorem Zgp:KQ Zxo:=Zg (Zp (C:=cf0 [ZSj] [] [] []) .no Tryz.func160 [] (λ_=>by kernel_rfl) ⟨Zrn,tr⟩)
noncomputable def Ztu:FuncId×Con:=(190,⟨[.pair (.leaf 4) (.pair (.leaf 4) (.pair (.leaf 4) (.leaf 4))),.int .i64],[.pair (.leaf 4) (.pair (.leaf 4) (.pair (.leaf 4) (.leaf 4)))],λp=>Z0f p.1 p.2⟩)
theorem Zcw:KQ Ztu:=Zg (Zp (C:=cf0 [ZIm] [] [] []) (.n (.f (.n (.f (.unroll 5 (.f (.n (.f (.f (.n (.j [1,2,4,5] [] [.l (.sl 2) (.box 104 (.dat (.pair (.leaf 4) (.pair (.leaf 4) (.pair (.leaf 4) (.leaf 4))))))] .no))))))))))) Tryz.func190 [] (λ_=>by kernel_rfl) ⟨Zoq,tr⟩)
noncomputable def Zsq (x:Rat) (y:Rat):Option (Rat×Int) :=
 bnd (ZHc y) λa =>
 ifb (a)
 (bnd (Z0 (0:Int)) λb =>
 some ((b,(3:Int))))
 (bnd (ZSb y) λc =>
 bnd (Zoa x.num.natAbs c) λd =>
 bnd (ZSb x) λe =>
 bnd (Zoa e y.num.natAbs) λf =>
 bnd (Zib ((decide (x.num<0)) != (decide (y.num<0))) d f) λg =>
 some ((g,(0:Int))))
theorem Z2w {x y:Rat} {z:Rat×Int} (h:Zsj x y=some z):Zsq x y=some z:=by
 unfold Zsj at h;split at h
 ·rename_i hh;obtain⟨⟨a1,a2⟩,b1,b2⟩:=hh
  cases h
  unfold Zsq ZHc;rw[Za];by_cases h0:y=0
  ·subst h0;rfl
  ·rw[dFq h0,Zd,iN h0];unfold ZSb;have hn:=Z0m h0;have p1:=ZZa x.num.natAbs y.den;have p3:=ZZa x.den y.num.natAbs;have e1:Zoa x.num.natAbs y.den=some (x.num.natAbs*y.den):=by unfold Zoa;rw[iP ⟨Zwb (by omega),Zwb (by omega)⟩]
   have e3:Zoa x.den y.num.natAbs=some (x.den*y.num.natAbs):=by unfold Zoa;rw[iP ⟨Zwb (by omega),Zwb (by omega)⟩]
   rw[Za,e1,Za,Za,e3,Za];unfold Zib;rw[iP ⟨Zed (by omega),Zed (by omega),Nat.mul_ne_zero x.den_nz (by omega)⟩,Za];have e:sgn ((decide (x.num<0)) != (decide (y.num<0))) (x.num.natAbs*y.den)=if y.num<0 then -(x.num*(y.den:Int)) else x.num*(y.den:Int):=by
    have eN:((x.num.natAbs*y.den:Nat):Int)=(x.num.natAbs:Int)*y.den:=by simp
    unfold sgn;rw[eN];by_cases h:x.num<0
    ·have hx:(x.num.natAbs:Int) = -x.num:=by omega
     by_cases h2:y.num<0 <;> simp[h,h2,hx,Int.neg_mul]
    ·have hx:(x.num.natAbs:Int)=x.num:=by omega
     by_cases h2:y.num<0 <;> simp[h,h2,hx,Int.neg_mul]
   rw[e,← Zfm h0]
 ·cases h
noncomputable def ZKu:FuncId×Con:=(192,⟨[.leaf 4,.leaf 4],[.leaf 4,.int .i64],λp=>Zsj p.1 p.2⟩)
theorem rdiv_k:KQ ZKu:=Zg (Zx (C:=cf2 [(54,1),(56,4)] [Zxc,Zll,ZMh,ZNf,Z4h]) .no Tryz.func192 [] (λv vals x z ha hz=>.trans (by kernel_rfl) (Z2w hz)) ⟨ZRc,ZBm,Zfi,Zrh,Z3j,tr⟩)
theorem rbyF_eq {x y z:Rat} (h:ZFd x y=some z):rby_m x y=some z:=by
 unfold ZFd at h;split at h
 ·rename_i hh
  cases h
  unfold rby_m Zsj;rw[iP hh,Za];split <;> rfl
 ·cases h
noncomputable def rby_q:FuncId×Con:=(191,⟨[.leaf 4,.leaf 4],[.leaf 4],λp=>ZFd p.1 p.2⟩)
theorem rby_k:KQ rby_q:=Zg (Zx (C:=cf2 [(54,1),(56,4)] [ZKu]) .no Tryz.func191 [] (λv vals x z ha hz=>.trans (by kernel_rfl) (rbyF_eq hz)) ⟨rdiv_k,tr⟩)
noncomputable def Z7q:FuncId×Con:=(187,⟨[.pair (.leaf 4) (.pair (.leaf 4) (.pair (.leaf 4) (.leaf 4))),.pair (.leaf 4) (.pair (.leaf 4) (.pair (.leaf 4) (.leaf 4)))],[.pair (.leaf 4) (.pair (.leaf 4) (.pair (.leaf 4) (.leaf 4))),.int .i64],λp=>ZMi p.1 p.2⟩)
theorem sDiv_k:KQ Z7q:=Zg (Zp (C:=cf0 [Zxc,ZNl,ZKn,Zzk,Ztu,rby_q] [] [] []) .no Tryz.func187 [] (λ_=>by kernel_rfl) ⟨ZRc,ZDn,Z9p,Zwn,Zcw,rby_k,tr⟩)
noncomputable def Z5u:FuncId×Con:=(188,⟨[.pair (.pair (.leaf 4) (.pair (.leaf 4) (.pair (.leaf 4) (.leaf 4)))) (.pair (.leaf 4) (.pair (.leaf 4) (.pair (.leaf 4) (.leaf 4))))],[.pair (.leaf 4) (.pair (.leaf 4) (.pair (.leaf 4) (.leaf 4)))],λp=>Z5h p⟩)
theorem wNorm_k:KQ Z5u:=Zg (Zp (C:=cf0 [Z1h,Zzk] [] [] []) .no Tryz.func188 [] (λ_=>by kernel_rfl) ⟨ZUk,Zwn,tr⟩)
noncomputable def ZMu:FuncId×Con:=(180,⟨[.pair (.pair (.leaf 4) (.pair (.leaf 4) (.pair (.leaf 4) (.leaf 4)))) (.pair (.leaf 4) (.pair (.leaf 4) (.pair (.leaf 4) (.leaf 4)))),.pair (.pair (.leaf 4) (.pair (.leaf 4) (.pair (.leaf 4) (.leaf 4)))) (.pair (.leaf 4) (.pair (.leaf 4) (.pair (.leaf 4) (.leaf 4))))],[.pair (.pair (.leaf 4) (.pair (.leaf 4) (.pair (.leaf 4) (.leaf 4)))) (.pair (.leaf 4) (.pair (.leaf 4) (.pair (.leaf 4) (.leaf 4)))),.int .i64],λp=>ZOn p.1 p.2⟩)
theorem wDiv_k:KQ ZMu:=Zg (Zp (C:=cf0 [ZPf,Zxc,Zvi,Zyi,Zxo,Z7q,Z5u] [] [] []) .no Tryz.func180 [] (λ_=>by kernel_rfl) ⟨Z0g,ZRc,ZYl,ZHj,Zgp,sDiv_k,wNorm_k,tr⟩)
noncomputable def ZPp:FuncId×Con:=(154,⟨[.pair (.pair (.leaf 4) (.pair (.leaf 4) (.pair (.leaf 4) (.leaf 4)))) (.pair (.leaf 4) (.pair (.leaf 4) (.pair (.leaf 4) (.leaf 4)))),.pair (.pair (.leaf 4) (.pair (.leaf 4) (.pair (.leaf 4) (.leaf 4)))) (.pair (.leaf 4) (.pair (.leaf 4) (.pair (.leaf 4) (.leaf 4))))],[.pair (.pair (.leaf 4) (.pair (.leaf 4) (.pair (.leaf 4) (.leaf 4)))) (.pair (.leaf 4) (.pair (.leaf 4) (.pair (.leaf 4) (.leaf 4))))],λp=>ZKk p.1 p.2⟩)
theorem rOver_k:KQ ZPp:=Zg (Zp (C:=cf0 [ZMu] [] [] []) .no Tryz.func154 [] (λ_=>by kernel_rfl) ⟨wDiv_k,tr⟩)
noncomputable def Z4u:FuncId×Con:=(155,⟨[.pair (.pair (.leaf 4) (.pair (.leaf 4) (.pair (.leaf 4) (.leaf 4)))) (.pair (.leaf 4) (.pair (.leaf 4) (.pair (.leaf 4) (.leaf 4)))),.pair (.pair (.leaf 4) (.pair (.leaf 4) (.pair (.leaf 4) (.leaf 4)))) (.pair (.leaf 4) (.pair (.leaf 4) (.pair (.leaf 4) (.leaf 4))))],[.pair (.pair (.leaf 4) (.pair (.leaf 4) (.pair (.leaf 4) (.leaf 4)))) (.pair (.leaf 4) (.pair (.leaf 4) (.pair (.leaf 4) (.leaf 4))))],λp=>Zil p.1 p.2⟩)
theorem wSub_k:KQ Z4u:=Zg (Zp (C:=cf0 [ZIn] [] [] []) .no Tryz.func155 [] (λ_=>by kernel_rfl) ⟨Z1p,tr⟩)
noncomputable def ZXm:FuncId×Con:=(113,⟨[.slice (.slice (.pair (.pair (.leaf 4) (.pair (.leaf 4) (.pair (.leaf 4) (.leaf 4)))) (.pair (.leaf 4) (.pair (.leaf 4) (.pair (.leaf 4) (.leaf 4)))))),.int .i64],[.slice (.slice (.pair (.pair (.leaf 4) (.pair (.leaf 4) (.pair (.leaf 4) (.leaf 4)))) (.pair (.leaf 4) (.pair (.leaf 4) (.pair (.leaf 4) (.leaf 4)))))),.slice (.int .i64)],λp=>Zpi p.1 p.2⟩)
theorem Zyt:KQ ZXm:=Zg (Zp (C:=cf0 [Zvi,Zyi,ZPp,Z4u] [30,31] [] []) (.n (.n (.two (.n (.f (.l [0,1] [] [.s 6 (.mat 51 106 (.pair (.pair (.leaf 4) (.pair (.leaf 4) (.pair (.leaf 4) (.leaf 4)))) (.pair (.leaf 4) (.pair (.leaf 4) (.pair (.leaf 4) (.leaf 4)))))),.s 7 (.dat (.int .i64))] 0 [1] [] [.s 6 (.mat 51 106 (.pair (.pair (.leaf 4) (.pair (.leaf 4) (.pair (.leaf 4) (.leaf 4)))) (.pair (.leaf 4) (.pair (.leaf 4) (.pair (.leaf 4) (.leaf 4))))))] .no))) (.n (.f (.n (.f (.l [1,6] [] [.s 8 (.own 3 (.int .i64)),.s 9 (.dat (.int .i64)),.l (.sl 6) (.mat 51 106 (.pair (.pair (.leaf 4) (.pair (.leaf 4) (.pair (.leaf 4) (.leaf 4)))) (.pair (.leaf 4) (.pair (.leaf 4) (.pair (.leaf 4) (.leaf 4))))))] 2 [6] [] [.s 8 (.own 3 (.int .i64)),.l (.sl 6) (.mat 51 106 (.pair (.pair (.leaf 4) (.pair (.leaf 4) (.pair (.leaf 4) (.leaf 4)))) (.pair (.leaf 4) (.pair (.leaf 4) (.pair (.leaf 4) (.leaf 4))))))] (.f (.n (.f (.j [1,6,9] [] [.s 8 (.own 3 (.int .i64)),.l (.sl 6) (.mat 51 106 (.pair (.pair (.leaf 4) (.pair (.leaf 4) (.pair (.leaf 4) (.leaf 4)))) (.pair (.leaf 4) (.pair (.leaf 4) (.pair (.leaf 4) (.leaf 4))))))] (.f (.n (.n (.two (.f (.l [1,6,8,9,10] [] [.s 11 (.dat (.int .i64))] 4 [1,6,8,9,10] [] [.s 11 (.dat (.int .i64))] (.f (.f (.f (.j [1,6,8,9,10,11] [] [.s 53 (.dat .bool)] .no)))))) (.n (.n (.n (.two (.n (.f (.l [1,6,8,9,10,12] [] [.s 13 (.dat (.int .i64)),.l (.sl 6) (.mat 51 106 (.pair (.pair (.leaf 4) (.pair (.leaf 4) (.pair (.leaf 4) (.leaf 4)))) (.pair (.leaf 4) (.pair (.leaf 4) (.pair (.leaf 4) (.leaf 4))))))] 6 [1,6,8,9,10] [] [.l (.sl 6) (.mat 51 106 (.pair (.pair (.leaf 4) (.pair (.leaf 4) (.pair (.leaf 4) (.leaf 4)))) (.pair (.leaf 4) (.pair (.leaf 4) (.pair (.leaf 4) (.leaf 4))))))] .no))) (.f (.n (.f (.l [1,6,8,9,10] [] [.s 14 (.dat (.int .i64)),.l (.sl 6) (.mat 51 106 (.pair (.pair (.leaf 4) (.pair (.leaf 4) (.pair (.leaf 4) (.leaf 4)))) (.pair (.leaf 4) (.pair (.leaf 4) (.pair (.leaf 4) (.leaf 4))))))] 8 [1,6,8,9] [] [.l (.sl 6) (.mat 51 106 (.pair (.pair (.leaf 4) (.pair (.leaf 4) (.pair (.leaf 4) (.leaf 4)))) (.pair (.leaf 4) (.pair (.leaf 4) (.pair (.leaf 4) (.leaf 4))))))] (.f (.n (.f (.j [1,6,8,9,10,14] [] [.l (.sl 6) (.mat 51 106 (.pair (.pair (.leaf 4) (.pair (.leaf 4) (.pair (.leaf 4) (.leaf 4)))) (.pair (.leaf 4) (.pair (.leaf 4) (.pair (.leaf 4) (.leaf 4))))))] (.f (.n (.n (.n (.f (.l [1,6,8,9,10,14,15] [] [.s 16 (.dat (.int .i64)),.l (.sl 6) (.mat 51 106 (.pair (.pair (.leaf 4) (.pair (.leaf 4) (.pair (.leaf 4) (.leaf 4)))) (.pair (.leaf 4) (.pair (.leaf 4) (.pair (.leaf 4) (.leaf 4))))))] 10 [1,6,8,9,10,14] [] [.l (.sl 6) (.mat 51 106 (.pair (.pair (.leaf 4) (.pair (.leaf 4) (.pair (.leaf 4) (.leaf 4)))) (.pair (.leaf 4) (.pair (.leaf 4) (.pair (.leaf 4) (.leaf 4))))))] .no)))))))))))))))))))))))))))))))))) Tryz.func113 [] (λ_=>by kernel_rfl) ⟨ZYl,ZHj,rOver_k,wSub_k,tr⟩)
noncomputable def ZKt:FuncId×Con:=(114,⟨[],[.pair (.pair (.leaf 4) (.pair (.leaf 4) (.pair (.leaf 4) (.leaf 4)))) (.pair (.leaf 4) (.pair (.leaf 4) (.pair (.leaf 4) (.leaf 4))))],λ_=>Zwl⟩)
theorem rOne2_k:KQ ZKt:=Zg (Zp (C:=cf0 [ZPf,Zxc] [] [] []) .no Tryz.func114 [] (λ_=>by kernel_rfl) ⟨Z0g,ZRc,tr⟩)
noncomputable def Zes:FuncId×Con:=(115,⟨[.pair (.pair (.leaf 4) (.pair (.leaf 4) (.pair (.leaf 4) (.leaf 4)))) (.pair (.leaf 4) (.pair (.leaf 4) (.pair (.leaf 4) (.leaf 4))))],[.pair (.pair (.leaf 4) (.pair (.leaf 4) (.pair (.leaf 4) (.leaf 4)))) (.pair (.leaf 4) (.pair (.leaf 4) (.pair (.leaf 4) (.leaf 4))))],λp=>ZBk p⟩)
theorem wNeg_k:KQ Zes:=Zg (Zp (C:=cf0 [ZSj] [] [] []) .no Tryz.func115 [] (λ_=>by kernel_rfl) ⟨Zrn,tr⟩)
noncomputable def Zhu:FuncId×Con:=(68,⟨[.slice (.slice (.pair (.pair (.leaf 4) (.pair (.leaf 4) (.pair (.leaf 4) (.leaf 4)))) (.pair (.leaf 4) (.pair (.leaf 4) (.pair (.leaf 4) (.leaf 4))))))],[.slice (.slice (.pair (.pair (.leaf 4) (.pair (.leaf 4) (.pair (.leaf 4) (.leaf 4)))) (.pair (.leaf 4) (.pair (.leaf 4) (.pair (.leaf 4) (.leaf 4)))))),.int .i64],λp=>ZWl p⟩)
theorem ZAy:KQ Zhu:=Zg (Zp (C:=cf1 [Z2g,Zeh,ZXm,ZKt,Zes] [75,76,100048] [] [] [Z9i] [] []) (.n (.n (.n (.n (.n (.f (.n (.f (.l [4,5,6] [] [.s 7 (.mat 51 106 (.pair (.pair (.leaf 4) (.pair (.leaf 4) (.pair (.leaf 4) (.leaf 4)))) (.pair (.leaf 4) (.pair (.leaf 4) (.pair (.leaf 4) (.leaf 4)))))),.s 8 (.dat (.int .i64))] 0 [] [] [.s 7 (.mat 51 106 (.pair (.pair (.leaf 4) (.pair (.leaf 4) (.pair (.leaf 4) (.leaf 4)))) (.pair (.leaf 4) (.pair (.leaf 4) (.pair (.leaf 4) (.leaf 4))))))] (.f (.n (.f (.j [4,5,6,8] [] [.s 7 (.mat 51 106 (.pair (.pair (.leaf 4) (.pair (.leaf 4) (.pair (.leaf 4) (.leaf 4)))) (.pair (.leaf 4) (.pair (.leaf 4) (.pair (.leaf 4) (.leaf 4))))))] (.f (.n (.two (.n (.f (.l [4,5,6,7,8] [] [.s 9 (.dat .bool),.s 10 (.dat (.int .i64))] 2 [4,5,6,7,8] [] [.s 9 (.dat .bool)] (.f (.n (.f (.f (.j [4,5,6,7,8,10] [] [.s 9 (.dat .bool)] .no)))))))) (.n (.n (.n (.f (.n (.f (.l [4,5,6,7,8,11] [] [.s 12 (.dat (.int .i64)),.l (.sl 11) (.own 106 (.pair (.pair (.leaf 4) (.pair (.leaf 4) (.pair (.leaf 4) (.leaf 4)))) (.pair (.leaf 4) (.pair (.leaf 4) (.pair (.leaf 4) (.leaf 4))))))] 4 [4,5,6,7,8,11] [] [.l (.sl 11) (.own 106 (.pair (.pair (.leaf 4) (.pair (.leaf 4) (.pair (.leaf 4) (.leaf 4)))) (.pair (.leaf 4) (.pair (.leaf 4) (.pair (.leaf 4) (.leaf 4))))))] .no))))))))))))))))))))))) Tryz.func68 [] (λ_=>by kernel_rfl) ⟨Zoj,Zki,Zyt,rOne2_k,wNeg_k,tr⟩ tr tr tr ⟨ZFk,tr⟩)
noncomputable def ZYo:FuncId×Con:=(117,⟨[.pair (.pair (.leaf 4) (.pair (.leaf 4) (.pair (.leaf 4) (.leaf 4)))) (.pair (.leaf 4) (.pair (.leaf 4) (.pair (.leaf 4) (.leaf 4)))),.pair (.pair (.leaf 4) (.pair (.leaf 4) (.pair (.leaf 4) (.leaf 4)))) (.pair (.leaf 4) (.pair (.leaf 4) (.pair (.leaf 4) (.leaf 4))))],[.pair (.pair (.leaf 4) (.pair (.leaf 4) (.pair (.leaf 4) (.leaf 4)))) (.pair (.leaf 4) (.pair (.leaf 4) (.pair (.leaf 4) (.leaf 4))))],λp=>Z9e p.1 p.2⟩)
theorem Z7s:KQ ZYo:=Zg (Zp (C:=cf0 [Z1h] [] [] []) .no Tryz.func117 [] (λ_=>by kernel_rfl) ⟨ZUk,tr⟩)
noncomputable def Z2j:FuncId×Con:=(70,⟨[.slice (.pair (.pair (.leaf 4) (.pair (.leaf 4) (.pair (.leaf 4) (.leaf 4)))) (.pair (.leaf 4) (.pair (.leaf 4) (.pair (.leaf 4) (.leaf 4))))),.slice (.pair (.pair (.leaf 4) (.pair (.leaf 4) (.pair (.leaf 4) (.leaf 4)))) (.pair (.leaf 4) (.pair (.leaf 4) (.pair (.leaf 4) (.leaf 4)))))],[.pair (.pair (.leaf 4) (.pair (.leaf 4) (.pair (.leaf 4) (.leaf 4)))) (.pair (.leaf 4) (.pair (.leaf 4) (.pair (.leaf 4) (.leaf 4))))],λp=>Zee p.1 p.2⟩)
theorem Z1l:KQ Z2j:=Zg (Zp (C:=cf0 [ZBh,ZYo,Zyi] [] [] []) (.n (.n (.f (.n (.f (.l [0,1,4,5] [] [.s 6 (.dat (.int .i64)),.l (.sl 5) (.box 106 (.dat (.pair (.pair (.leaf 4) (.pair (.leaf 4) (.pair (.leaf 4) (.leaf 4)))) (.pair (.leaf 4) (.pair (.leaf 4) (.pair (.leaf 4) (.leaf 4)))))))] 0 [4,5] [] [.l (.sl 5) (.box 106 (.dat (.pair (.pair (.leaf 4) (.pair (.leaf 4) (.pair (.leaf 4) (.leaf 4)))) (.pair (.leaf 4) (.pair (.leaf 4) (.pair (.leaf 4) (.leaf 4)))))))] .no)))))) Tryz.func70 [] (λ_=>by kernel_rfl) ⟨ZQi,Z7s,ZHj,tr⟩)
noncomputable def Zlo:FuncId×Con:=(37,⟨[.slice (.slice (.pair (.pair (.leaf 4) (.pair (.leaf 4) (.pair (.leaf 4) (.leaf 4)))) (.pair (.leaf 4) (.pair (.leaf 4) (.pair (.leaf 4) (.leaf 4)))))),.slice (.pair (.pair (.leaf 4) (.pair (.leaf 4) (.pair (.leaf 4) (.leaf 4)))) (.pair (.leaf 4) (.pair (.leaf 4) (.pair (.leaf 4) (.leaf 4)))))],[.bool,.slice (.pair (.pair (.leaf 4) (.pair (.leaf 4) (.pair (.leaf 4) (.leaf 4)))) (.pair (.leaf 4) (.pair (.leaf 4) (.pair (.leaf 4) (.leaf 4))))),.int .i64],λp=>Z0c p.1 p.2⟩)
theorem Zcu:KQ Zlo:=Zg (Zp (C:=cf0 [Z2g,Zeh,Zhu,Zvi,Z2j] [] [] []) (.n (.two (.f (.j [0,1] [] [.s 19 (.dat .bool)] .no)) (.n (.f (.n (.f (.cut ⟨⟨[1,7],[],[.s 9 (.dat (.int .i64))]⟩,[(.exit 0,⟨[],[],[]⟩),(.ret,⟨[],[],[.s 1000 (.dat .bool),.s 1001 (.dat (.slice (.pair (.pair (.leaf 4) (.pair (.leaf 4) (.pair (.leaf 4) (.leaf 4)))) (.pair (.leaf 4) (.pair (.leaf 4) (.pair (.leaf 4) (.leaf 4))))))),.s 1002 (.dat (.int .i64))]⟩)]⟩ .no))))))) Tryz.func37 [] (λ_=>by kernel_rfl) ⟨Zoj,Zki,ZAy,ZYl,Z1l,tr⟩)
noncomputable def ZKm:FuncId×Con:=(38,⟨[.pair (.int .i64) (.pair (.int .i64) (.pair (.int .i64) (.int .i64))),.int .i64,.int .i64],[.slice (.pair (.pair (.leaf 4) (.pair (.leaf 4) (.pair (.leaf 4) (.leaf 4)))) (.pair (.leaf 4) (.pair (.leaf 4) (.pair (.leaf 4) (.leaf 4)))))],λp=>Zej p.1 p.2.1 p.2.2⟩)
theorem ZBq:KQ ZKm:=Zg (Zp (C:=cf1 [ZPf,Zpn,Zxc] [100021] [] [] [Z9i] [] []) (.n (.n (.f (.n (.j [7] [] [.l (.sl 7) (.own 106 (.pair (.pair (.leaf 4) (.pair (.leaf 4) (.pair (.leaf 4) (.leaf 4)))) (.pair (.leaf 4) (.pair (.leaf 4) (.pair (.leaf 4) (.leaf 4))))))] .no))))) Tryz.func38 [] (λ_=>by kernel_rfl) ⟨Z0g,Zdr,ZRc,tr⟩ tr tr tr ⟨ZFk,tr⟩)
noncomputable def Zuu:FuncId×Con:=(14,⟨[.pair (.int .i64) (.pair (.int .i64) (.pair (.int .i64) (.int .i64))),.slice (.pair (.pair (.int .i64) (.pair (.int .i64) (.pair (.int .i64) (.int .i64)))) (.leaf 4)),.int .i64,.int .i64],[.bool,.slice (.pair (.pair (.leaf 4) (.pair (.leaf 4) (.pair (.leaf 4) (.leaf 4)))) (.pair (.leaf 4) (.pair (.leaf 4) (.pair (.leaf 4) (.leaf 4)))))],λp=>Zli p.1 p.2.1 p.2.2.1 p.2.2.2⟩)
theorem ZdA:KQ Zuu:=Zg (Zp (C:=cf0 [Z1k,Zlo,ZKm] [] [] []) .no Tryz.func14 [] (λ_=>by kernel_rfl) ⟨Z9n,Zcu,ZBq,tr⟩)
noncomputable def Zfu:FuncId×Con:=(119,⟨[.slice (.slice (.pair (.pair (.leaf 4) (.pair (.leaf 4) (.pair (.leaf 4) (.leaf 4)))) (.pair (.leaf 4) (.pair (.leaf 4) (.pair (.leaf 4) (.leaf 4))))))],[.slice (.slice (.pair (.pair (.leaf 4) (.pair (.leaf 4) (.pair (.leaf 4) (.leaf 4)))) (.pair (.leaf 4) (.pair (.leaf 4) (.pair (.leaf 4) (.leaf 4)))))),.int .i64],λp=>ZEl p⟩)
theorem Zyx:KQ Zfu:=Zg (Zp (C:=cf1 [Z2g,Zeh,Zxo] [] [] [] [Z9i] [] []) (.n (.n (.n (.f (.n (.f (.l [0,4] [] [.s 5 (.dat (.int .i64)),.l (.sl 4) (.mat 51 106 (.pair (.pair (.leaf 4) (.pair (.leaf 4) (.pair (.leaf 4) (.leaf 4)))) (.pair (.leaf 4) (.pair (.leaf 4) (.pair (.leaf 4) (.leaf 4))))))] 0 [4] [] [.l (.sl 4) (.mat 51 106 (.pair (.pair (.leaf 4) (.pair (.leaf 4) (.pair (.leaf 4) (.leaf 4)))) (.pair (.leaf 4) (.pair (.leaf 4) (.pair (.leaf 4) (.leaf 4))))))] (.f (.n (.f (.f (.n (.f (.l [0,4,5] [] [.s 6 (.dat (.int .i64)),.l (.sl 4) (.mat 51 106 (.pair (.pair (.leaf 4) (.pair (.leaf 4) (.pair (.leaf 4) (.leaf 4)))) (.pair (.leaf 4) (.pair (.leaf 4) (.pair (.leaf 4) (.leaf 4))))))] 2 [0,4,5] [] [.l (.sl 4) (.mat 51 106 (.pair (.pair (.leaf 4) (.pair (.leaf 4) (.pair (.leaf 4) (.leaf 4)))) (.pair (.leaf 4) (.pair (.leaf 4) (.pair (.leaf 4) (.leaf 4))))))] .no)))))))))))))) Tryz.func119 [] (λ_=>by kernel_rfl) ⟨Zoj,Zki,Zgp,tr⟩ tr tr tr ⟨ZFk,tr⟩)
noncomputable def ZKs:FuncId×Con:=(120,⟨[.slice (.slice (.pair (.pair (.leaf 4) (.pair (.leaf 4) (.pair (.leaf 4) (.leaf 4)))) (.pair (.leaf 4) (.pair (.leaf 4) (.pair (.leaf 4) (.leaf 4)))))),.slice (.pair (.pair (.leaf 4) (.pair (.leaf 4) (.pair (.leaf 4) (.leaf 4)))) (.pair (.leaf 4) (.pair (.leaf 4) (.pair (.leaf 4) (.leaf 4)))))],[.slice (.pair (.pair (.leaf 4) (.pair (.leaf 4) (.pair (.leaf 4) (.leaf 4)))) (.pair (.leaf 4) (.pair (.leaf 4) (.pair (.leaf 4) (.leaf 4))))),.int .i64],λp=>ZNg p.1 p.2⟩)
theorem rAny_k:KQ ZKs:=Zg (Zp (C:=cf0 [ZBh,Z2g,Zeh,Zvi,ZXm] [46,47] [] []) (.n (.two (.f (.j [0,1] [] [.s 24 (.dat .bool)] .no)) (.n (.n (.two (.n (.f (.l [0,1,6] [] [.s 7 (.mat 51 106 (.pair (.pair (.leaf 4) (.pair (.leaf 4) (.pair (.leaf 4) (.leaf 4)))) (.pair (.leaf 4) (.pair (.leaf 4) (.pair (.leaf 4) (.leaf 4)))))),.s 8 (.dat (.int .i64))] 0 [6] [] [.s 7 (.mat 51 106 (.pair (.pair (.leaf 4) (.pair (.leaf 4) (.pair (.leaf 4) (.leaf 4)))) (.pair (.leaf 4) (.pair (.leaf 4) (.pair (.leaf 4) (.leaf 4))))))] .no))) (.n (.two (.n (.f (.cut ⟨⟨[6,9,10],[],[.s 11 (.dat (.int .i64))]⟩,[(.exit 2,⟨[6,9,10],[],[]⟩),(.ret,⟨[],[],[.s 1000 (.dat (.slice (.pair (.pair (.leaf 4) (.pair (.leaf 4) (.pair (.leaf 4) (.leaf 4)))) (.pair (.leaf 4) (.pair (.leaf 4) (.pair (.leaf 4) (.leaf 4))))))),.s 1001 (.dat (.int .i64))]⟩)]⟩ .no))) (.n (.two (.n (.f (.l [6,9,10] [] [.s 12 (.own 106 (.pair (.pair (.leaf 4) (.pair (.leaf 4) (.pair (.leaf 4) (.leaf 4)))) (.pair (.leaf 4) (.pair (.leaf 4) (.pair (.leaf 4) (.leaf 4)))))),.s 13 (.dat (.int .i64))] 4 [6,9,10] [] [.s 12 (.own 106 (.pair (.pair (.leaf 4) (.pair (.leaf 4) (.pair (.leaf 4) (.leaf 4)))) (.pair (.leaf 4) (.pair (.leaf 4) (.pair (.leaf 4) (.leaf 4))))))] .no))) (.f (.n (.f (.l [6,9,10,12] [] [.s 14 (.dat (.int .i64)),.l (.sl 12) (.own 106 (.pair (.pair (.leaf 4) (.pair (.leaf 4) (.pair (.leaf 4) (.leaf 4)))) (.pair (.leaf 4) (.pair (.leaf 4) (.pair (.leaf 4) (.leaf 4))))))] 6 [12] [] [.l (.sl 12) (.own 106 (.pair (.pair (.leaf 4) (.pair (.leaf 4) (.pair (.leaf 4) (.leaf 4)))) (.pair (.leaf 4) (.pair (.leaf 4) (.pair (.leaf 4) (.leaf 4))))))] .no))))))))))))) Tryz.func120 [] (λ_=>by kernel_rfl) ⟨ZQi,Zoj,Zki,ZYl,Zyt,tr⟩)
noncomputable def Z9r:FuncId×Con:=(121,⟨[.slice (.slice (.pair (.pair (.leaf 4) (.pair (.leaf 4) (.pair (.leaf 4) (.leaf 4)))) (.pair (.leaf 4) (.pair (.leaf 4) (.pair (.leaf 4) (.leaf 4)))))),.slice (.pair (.pair (.leaf 4) (.pair (.leaf 4) (.pair (.leaf 4) (.leaf 4)))) (.pair (.leaf 4) (.pair (.leaf 4) (.pair (.leaf 4) (.leaf 4)))))],[.slice (.pair (.pair (.leaf 4) (.pair (.leaf 4) (.pair (.leaf 4) (.leaf 4)))) (.pair (.leaf 4) (.pair (.leaf 4) (.pair (.leaf 4) (.leaf 4)))))],λp=>ZTj p.1 p.2⟩)
theorem ZlA:KQ Z9r:=Zg (Zp (C:=cf0 [Z2j] [] [] []) (.n (.n (.f (.n (.f (.l [0,1] [] [.s 5 (.own 106 (.pair (.pair (.leaf 4) (.pair (.leaf 4) (.pair (.leaf 4) (.leaf 4)))) (.pair (.leaf 4) (.pair (.leaf 4) (.pair (.leaf 4) (.leaf 4)))))),.s 6 (.dat (.int .i64))] 0 [] [] [.s 5 (.own 106 (.pair (.pair (.leaf 4) (.pair (.leaf 4) (.pair (.leaf 4) (.leaf 4)))) (.pair (.leaf 4) (.pair (.leaf 4) (.pair (.leaf 4) (.leaf 4))))))] .no)))))) Tryz.func121 [] (λ_=>by kernel_rfl) ⟨Z1l,tr⟩)
noncomputable def ZVp:FuncId×Con:=(71,⟨[.slice (.slice (.pair (.pair (.leaf 4) (.pair (.leaf 4) (.pair (.leaf 4) (.leaf 4)))) (.pair (.leaf 4) (.pair (.leaf 4) (.pair (.leaf 4) (.leaf 4)))))),.slice (.pair (.pair (.leaf 4) (.pair (.leaf 4) (.pair (.leaf 4) (.leaf 4)))) (.pair (.leaf 4) (.pair (.leaf 4) (.pair (.leaf 4) (.leaf 4)))))],[.slice (.pair (.pair (.leaf 4) (.pair (.leaf 4) (.pair (.leaf 4) (.leaf 4)))) (.pair (.leaf 4) (.pair (.leaf 4) (.pair (.leaf 4) (.leaf 4)))))],λp=>Zxj p.1 p.2⟩)
theorem Zxv:KQ ZVp:=Zg (Zp (C:=cf0 [ZBh,ZYo,Zyi,Zfu,ZKs,Z9r] [62,63] [] []) (.n (.n (.n (.f (.n (.f (.l [0,1,5] [] [.s 7 (.mat 51 106 (.pair (.pair (.leaf 4) (.pair (.leaf 4) (.pair (.leaf 4) (.leaf 4)))) (.pair (.leaf 4) (.pair (.leaf 4) (.pair (.leaf 4) (.leaf 4)))))),.s 8 (.dat (.int .i64))] 0 [1,5] [] [.s 7 (.mat 51 106 (.pair (.pair (.leaf 4) (.pair (.leaf 4) (.pair (.leaf 4) (.leaf 4)))) (.pair (.leaf 4) (.pair (.leaf 4) (.pair (.leaf 4) (.leaf 4))))))] (.f (.n (.f (.f (.n (.f (.n (.f (.l [0,1,5,7,8] [] [.s 9 (.own 106 (.pair (.pair (.leaf 4) (.pair (.leaf 4) (.pair (.leaf 4) (.leaf 4)))) (.pair (.leaf 4) (.pair (.leaf 4) (.pair (.leaf 4) (.leaf 4)))))),.s 10 (.dat (.int .i64))] 2 [0,1,5,7,8] [] [.s 9 (.own 106 (.pair (.pair (.leaf 4) (.pair (.leaf 4) (.pair (.leaf 4) (.leaf 4)))) (.pair (.leaf 4) (.pair (.leaf 4) (.pair (.leaf 4) (.leaf 4))))))] (.f (.n (.f (.f (.n (.f (.n (.f (.l [0,1,5,7,8,9,10,11] [] [.s 12 (.dat (.int .i64)),.l (.sl 11) (.box 106 (.dat (.pair (.pair (.leaf 4) (.pair (.leaf 4) (.pair (.leaf 4) (.leaf 4)))) (.pair (.leaf 4) (.pair (.leaf 4) (.pair (.leaf 4) (.leaf 4)))))))] 4 [0,1,5,7,8,9,10,11] [] [.l (.sl 11) (.box 106 (.dat (.pair (.pair (.leaf 4) (.pair (.leaf 4) (.pair (.leaf 4) (.leaf 4)))) (.pair (.leaf 4) (.pair (.leaf 4) (.pair (.leaf 4) (.leaf 4)))))))] .no))))))))))))))))))))))))) Tryz.func71 [] (λ_=>by kernel_rfl) ⟨ZQi,Z7s,ZHj,Zyx,rAny_k,ZlA,tr⟩)
noncomputable def Zlp:FuncId×Con:=(39,⟨[.slice (.slice (.pair (.pair (.leaf 4) (.pair (.leaf 4) (.pair (.leaf 4) (.leaf 4)))) (.pair (.leaf 4) (.pair (.leaf 4) (.pair (.leaf 4) (.leaf 4)))))),.slice (.pair (.pair (.leaf 4) (.pair (.leaf 4) (.pair (.leaf 4) (.leaf 4)))) (.pair (.leaf 4) (.pair (.leaf 4) (.pair (.leaf 4) (.leaf 4))))),.slice (.pair (.pair (.leaf 4) (.pair (.leaf 4) (.pair (.leaf 4) (.leaf 4)))) (.pair (.leaf 4) (.pair (.leaf 4) (.pair (.leaf 4) (.leaf 4)))))],[.pair (.pair (.leaf 4) (.pair (.leaf 4) (.pair (.leaf 4) (.leaf 4)))) (.pair (.leaf 4) (.pair (.leaf 4) (.pair (.leaf 4) (.leaf 4)))),.int .i64],λp=>ZKo p.1 p.2.1 p.2.2⟩)
theorem Z6y:KQ Zlp:=Zg (Zp (C:=cf0 [Zlo,ZBh,Z2g,Zeh,Z2j,ZVp] [] [] []) (.n (.f (.f (.j [0,1,2,6] [] [.s 27 (.dat .bool)] .no)))) Tryz.func39 [] (λ_=>by kernel_rfl) ⟨Zcu,ZQi,Zoj,Zki,Z1l,Zxv,tr⟩)
noncomputable def ZLp:FuncId×Con:=(15,⟨[.pair (.int .i64) (.pair (.int .i64) (.pair (.int .i64) (.int .i64))),.slice (.pair (.pair (.int .i64) (.pair (.int .i64) (.pair (.int .i64) (.int .i64)))) (.leaf 4)),.int .i64,.int .i64],[.leaf 4,.int .i64],λp=>Z0h p.1 p.2.1 p.2.2.1 p.2.2.2⟩)
theorem Zcx:KQ ZLp:=Zg (Zp (C:=cf0 [Z1k,ZPf,ZKm,Zlp] [] [] []) (.n (.n (.f (.n (.f (.l [1,2,3,4,8] [] [.s 10 (.own 106 (.pair (.pair (.leaf 4) (.pair (.leaf 4) (.pair (.leaf 4) (.leaf 4)))) (.pair (.leaf 4) (.pair (.leaf 4) (.pair (.leaf 4) (.leaf 4)))))),.s 11 (.dat (.int .i64))] 0 [1,2,3,4,8] [] [.s 10 (.own 106 (.pair (.pair (.leaf 4) (.pair (.leaf 4) (.pair (.leaf 4) (.leaf 4)))) (.pair (.leaf 4) (.pair (.leaf 4) (.pair (.leaf 4) (.leaf 4))))))] .no)))))) Tryz.func15 [] (λ_=>by kernel_rfl) ⟨Z9n,Z0g,ZBq,Z6y,tr⟩)
noncomputable def ZFx:FuncId×Con:=(3,⟨[.pair (.int .i64) (.pair (.int .i64) (.pair (.int .i64) (.int .i64))),.slice (.pair (.pair (.int .i64) (.pair (.int .i64) (.pair (.int .i64) (.int .i64)))) (.pair (.int .i64) (.int .i64))),.int .i64,.int .i64],[.bool],λp=>ZBl p.1 p.2.1 p.2.2.1 p.2.2.2⟩)
theorem ZBv:KR ZFx:=Zp (C:=cf0 [Z8r,ZNq,Zgo,ZUp,Z1u,ZVs,ZSp,ZJi,Z1k,Zls,Zuu,ZLp,is1_q] [] [] []) (.n (.n (.n (.n (.n (.n (.two (.n (.n (.f (.f (.j [] [] [.s 8 (.dat .bool)] .no))))) (.n (.two (.f (.j [2,3,4,10,11,13,14,15,16,17,19] [] [.s 110 (.dat .bool)] .no)) (.two (.n (.f (.cut ⟨⟨[2,3,4,10,11,13,14,15,16,17,19,112],[],[.s 113 (.dat (.int .i64))]⟩,[(.exit 0,⟨[2,3,4,10,13,14,15,16,17],[],[]⟩),(.ret,⟨[],[],[.s 1000 (.dat .bool)]⟩)]⟩ .no))) (.two (.two (.j [2,3,4,10,13,14,15,16,17] [] [.s 144 (.dat .bool)] .no) (.f (.f (.j [] [] [.s 8 (.dat .bool)] .no)))) (.n (.n (.f (.j [] [] [.s 8 (.dat .bool)] .no))))))))))))))) Tryz.func3 [] (λ_=>by kernel_rfl) ⟨ZGx,legs8_k,ZDr,ZrA,ZQz,ZCy,Zuz,ZMl,Z9n,same8_k,ZdA,Zcx,is1_k,tr⟩
theorem ZNy {w0:World} {v0:Zb} (hv:VIn v0 w0) {c0:List Value} {s:(Int×Int×Int×Int)} (p0:Rep.rel (ZA (Zf .i64) (ZA (Zf .i64) (ZA (Zf .i64) (Zf .i64)))) v0 c0 s) {c1:List Value} {l:(List ((Int×Int×Int×Int)×(Int×Int)))} (p1:Rep.rel (ZB (ZA (ZA (Zf .i64) (ZA (Zf .i64) (ZA (Zf .i64) (Zf .i64)))) (ZA (Zf .i64) (Zf .i64)))) v0 c1 l) {c2:List Value} {a:Int} (p2:Rep.rel (Zf .i64) v0 c2 a) {c3:List Value} {b:Int} (p3:Rep.rel (Zf .i64) v0 c3 b) {z:Bool} (hm:ZBl s l a b=some z):Ret Tryz.prog 3 #[(ZA (Zf .i64) (ZA (Zf .i64) (ZA (Zf .i64) (Zf .i64)))).val c0,(ZB (ZA (ZA (Zf .i64) (ZA (Zf .i64) (ZA (Zf .i64) (Zf .i64)))) (ZA (Zf .i64) (Zf .i64)))).val c1,(Zf .i64).val c2,(Zf .i64).val c3] w0 v0 (λy v'=>∃ r0,y=Zwd.val r0∧Zwd.rel v' r0 z):=(ZBv w0 v0 [(ZA (Zf .i64) (ZA (Zf .i64) (ZA (Zf .i64) (Zf .i64)))).val c0,(ZB (ZA (ZA (Zf .i64) (ZA (Zf .i64) (ZA (Zf .i64) (Zf .i64)))) (ZA (Zf .i64) (Zf .i64)))).val c1,(Zf .i64).val c2,(Zf .i64).val c3] (s,l,a,b) z hv ⟨c0,_,rfl,p0,c1,_,rfl,p1,c2,_,rfl,p2,c3,rfl,p3⟩ hm).2
end Go.Eng
