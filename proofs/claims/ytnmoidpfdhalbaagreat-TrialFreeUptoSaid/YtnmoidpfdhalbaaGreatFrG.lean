/- Lemmas towards the statement: the engine of the walks, the functions' models, laws and walks, part 7. Conditions: as each states. -/
import Derived.Test.YtnmoidpfdhalbaaGreatProg
import Derived.Test.YtnmoidpfdhalbaaGreatFrF
set_option linter.all false
set_option maxRecDepth 100000
namespace Go.Eng
open Go.Proofs Go.RowKit
theorem text_w {e:World} {c:Zb} (hv:VIn c e) {c0:List Value} {a:Nat} (p0:Rep.rel Zy c c0 a) {z:(List UInt8)} (H:ZWh a=some z):Ret Tryz.prog 76 #[Zy.val c0] e c (fun y v'=>∃ r0,y=Zbb.val r0∧Zbb.rel v' r0 z):=by
 obtain ⟨q1,n2,k3,rfl⟩:=Zla p0;refine ZTb (K:=49) (args:=[.slice q1 n2 k3]) hv Tryz.func76 rfl rfl zl fun f S=>?_;unfold ZWh at H;refine sr (mw S rfl fun f S=>oe (sr ?_));have S:=S.nilLoc 9 1;refine ov S rfl (ZMd S (y:=.slice (mkA none) 0 0) rfl) fun f S=>oe (Zj fun _ ar=>?_);obtain ⟨au,av,aw⟩:=ZH H;refine Zxa (fun f w=>∃ o F s G U I,o=au∧Zb.le c I∧St 49 e c [(3,.slice (mkA F) s G)] [Loc.own F 9 1 s G U] I f w∧Rep.rels Zbb I U o∧s=o.length) (fun _ ax=>?_) ?_
 ·have H:=av;refine wp_block ?_;obtain ⟨bs,ay,az⟩:=ZH H;refine ZJb ay (fun aA f w=>∃ J g L M N p h q k t,(J,g)=aA∧Zb.le c t∧St 49 e c [(0,.slice L M N),(3,.slice (mkA p) h q)] [Loc.own p 9 1 h q k] t f w∧Rep.rel Zy t [.slice L M N] J∧Rep.rels Zbb t k g∧h=g.length) ⟨_,_,_,_,_,none,0,0,[],_,rfl,(leR _),(S.fr' rfl),p0,ZXd,rfl⟩ ?_;rintro _ f w st ⟨J,g,L,M,N,p,h,q,k,t,hq,ac,S,ad,d,ae⟩ H bt aB aC;subst hq;refine Zj fun _ aD=>sr (mv S rfl fun f S=>ov S rfl (Zha S (ZJ ad) rfl rfl ZE) fun f S=>ov S rfl (Zg S rfl rfl Zgd) fun f S=>oe ?_);rcases ZL (decide ((0:Int)<(((Zc 18446744073709551616 J)).length:Int))) with u | u
  ·have H:=ZM H u;refine ZQ S rfl u (wp_skip (Zh (aD _ _ (wp_block (Zj fun _ aE=>bO H fun O aF H=>Zv (mv S rfl fun f S=>opc S rfl (Zea S [.slice L M N,.int .u64 10000000000000000000] Zho rfl rfl) (ZNq S.vin ad (show Rep.rel (Zd .u64) _ [.int .u64 10000000000000000000] (10000000000000000000:Int) from (ZF (by decide))) aF) ?_))))));rintro _ bu f w af ⟨bv,bw,rfl,m,aG⟩ S;have d:=ZW af d;obtain ⟨aH,aI,aJ,rfl⟩:=Zla m;obtain ⟨rfl,aK⟩:=aG;refine mv S rfl fun f S=>ov S rfl (ZAa S rfl rfl) fun f S=>ov S rfl (ZAa S rfl rfl) fun f S=>mw S rfl fun f S=>mw S rfl fun f S=>Zs (Zh (aE _ _ (Zj fun _ aL=>bO H fun bx aM H=>Zv (mv S rfl fun f S=>opc S rfl (Zea S [.int .u64 (O.2)] k_en126 rfl rfl) (ZJt S.vin (show Rep.rel (Zd .u64) _ [.int .u64 (O.2)] O.2 from (ZF aK)) aM) ?_))));rintro _ aN f w V ⟨bz,rfl,aO⟩ S;have d:=ZW V d;obtain ⟨rfl,aP⟩:=aO;refine mw S rfl fun f S=>Zs (Zh (aL _ _ (Zj fun _ aQ=>sr (mv S rfl fun f S=>?_))));have m:=Zca V m;refine ov S rfl (Zha S (ZJ m) rfl rfl ZE) fun f S=>ov S rfl (Zg S rfl rfl Zgd) fun f S=>oe ?_;obtain ⟨aR,aS,aT⟩:=ZH H;refine Zxa (fun f w=>∃ b P,b=aR∧Zb.le aN P∧St 49 e c [(3,.slice (mkA p) h q),(4,.slice aH aI aJ),(6,.string (ZA b))] [Loc.own p 9 1 h q k] P f w∧b.length≤maxLen) (fun _ ag=>?_) ?_
   ·have H:=aS;rcases ZL (decide ((0:Int)<(((Zc 18446744073709551616 O.1)).length:Int))) with v | v
    ·have H:=ZM H v;refine ZQ S rfl v (bO H fun W ah H=>bO H fun bA aU H=>bO H fun bB ai H=>Zv (mv S rfl fun f S=>ov S rfl (ZAo S rfl rfl Tryz.underlying9) fun f S=>ov S rfl (Zg S rfl rfl (Zza ah)) fun f S=>opc S rfl (Zea S [.string (ZA (([48]:List UInt8))),.int .i64 W] k_en127 rfl rfl) (Zsx S.vin (show Rep.rel Zbb _ [.string (ZA (([48]:List UInt8)))] (([48]:List UInt8)) from (Zwh zl)) (show Rep.rel (Zd .i64) _ [.int .i64 W] W from (ZF (Zva ah).2)) aU) ?_));rintro _ bC f w aj ⟨bD,rfl,aV⟩ S;have d:=ZW aj d;obtain ⟨rfl,bE⟩:=aV;refine mv S rfl fun f S=>ov S rfl (ZXj S rfl rfl (Zjr ai)) fun f S=>mw S rfl fun f S=>Zs ?_;obtain rfl:=Zn H;refine Zh (ag _ _ ⟨_,_,rfl,(leT (leR _) aj),(S.fr' rfl),(Zcl ai)⟩)
    have H:=ZK H v;refine ZO S rfl v (wp_skip ?_);obtain rfl:=Zn H;refine Zh (ag _ _ ⟨_,_,rfl,(leR _),(S.fr' rfl),aP⟩)
   rintro f w ⟨b,P,hq,X,S,aW⟩;subst hq;have H:=aT;have d:=ZW X d;refine Zh (aQ _ _ (bO H fun bG aX H=>Zv (mv S rfl fun f S=>mv S rfl fun f S=>?_)));obtain ⟨bH,w,aY,S⟩:=ZRf S (n:=1) (cs:=[.string (ZA b)]) (vals:=[(0,.string (ZA b))]) (sz:=1) rfl (by decide) (ZAm Z5p (x:=.string (ZA b)) (cs:=[.string (ZA b)]) rfl rfl (by decide));have Y:Rep.rels Zbb P [.string (ZA b)] [b]:=(Zun (Zwh aW) ZXd);refine ZNb wn rfl zl (aY rfl) S fun f S=>?_;have aZ:=S;obtain ⟨ak,al,w,a0,S⟩:=Zul (ty:=192) Z5p S (i:=1) (n':=(g++[b]).length) rfl (Zge Y rfl) (Zrj S (j:=0) rfl) (Zkk Y) (appN ae rfl) (Zxe aX) (by decide);have a1:=ZDc d Y;refine ZNb wn rfl zl (Zve aZ rfl rfl a0) S fun f S=>mv S rfl fun f S=>mw S rfl fun f S=>mw S rfl fun f S=>Zs (Zvb ?_);obtain rfl:=Zn H;have S:=S.reorder (ℓ':=[Loc.own ak 9 1 ((g++[b]).length) al ((k++[.string (ZA b)]))]) [1] rfl (by decide);have m:=Zca X m;refine aB _ rfl _ _ ⟨_,_,_,_,_,ak,(g++[b]).length,al,(k++[.string (ZA b)]),_,rfl,(leT (leT (leT ac af) V) X),(S.fr' rfl),m,a1,rfl⟩
  have H:=ZK H u;refine ZO S rfl u (wp_exit (Z3 ?_));obtain rfl:=Zn H;have hq:=aC _ rfl;subst hq;have H:=az;refine Z3 (Z7a ?_);obtain rfl:=Zn H;refine Zh (ax _ _ ⟨_,p,h,q,k,_,rfl,(leT (leR _) ac),(S.fr' rfl),d,ae⟩)
 rintro f w ⟨o,F,s,G,U,I,hq,bI,S,a2,am⟩;subst hq;have H:=aw;refine Zh (ar _ _ (Zj fun _ a3=>sr (mv S rfl fun f S=>ov S rfl (Zha S am rfl rfl ZAn) fun f S=>ov S rfl (Zg S rfl rfl Z8d) fun f S=>oe ?_)));rcases ZL (((o.length:Int))==(0:Int)) with B | B
 ·have H:=ZM H B;refine ZQ S rfl B (sr (mw S rfl fun f S=>oe (wp_ret (Z4a ?_))));obtain rfl:=Zn H;refine ZHa S (ZSa rfl (ZS S rfl)) ⟨[.string (ZA (([48]:List UInt8)))],rfl,(Zwh zl)⟩
 have H:=ZK H B;refine ZO S rfl B (wp_skip (Zh (a3 _ _ (sr ?_))));obtain ⟨an,bJ,S,C⟩:=S.pubSlice (i:=0) (A:=Zbb) (l:=o) (ℓ':=[]) rfl rfl am a2 rfl;refine op_newB 5 S wn rfl zl (Z2l k_zv200) fun r f w S a4=>oe (Zj fun _ a5=>Zj fun _ a6=>bO H fun bK ao H=>Zv (mv S rfl fun f S=>ov S rfl (Zha S (ZJ C) rfl rfl ZAn) fun f S=>ov S rfl (Zg S rfl rfl (Zza ao)) fun f S=>mw S rfl fun f S=>Zs (Zh (a6 _ _ ?_))));obtain ⟨a7,a8,a9⟩:=ZH H;refine Zxa (fun f w=>∃ Q R,Q=a7∧Zb.le an R∧St 49 e c [(7,.pointer (some ⟨r,0,none⟩))] [] R f w∧Bld 200 5 r e R Q w) (fun _ ba=>?_) ?_
 ·have H:=a8;refine wp_block ?_;obtain ⟨bM,bb,bc⟩:=ZH H;refine ZJb bb (fun bd f w=>∃ Z D T,(Z,D)=bd∧Zb.le an T∧St 49 e c [(3,.slice (mkA F) s G),(7,.pointer (some ⟨r,0,none⟩)),(8,.int .i64 D)] [] T f w∧Bld 200 5 r e T Z w∧inR .i64 D) ⟨_,_,_,rfl,(leR _),(S.fr' rfl),a4,(Zva ao).2⟩ ?_;rintro _ f w st ⟨Z,D,T,hq,aa,S,ap,bP⟩ H bQ be bf;subst hq;refine Zj fun _ bg=>sr (mv S rfl fun f S=>ov S rfl (Zg S rfl rfl Ztc) fun f S=>oe ?_);rcases ZL (decide ((0:Int)≤D)) with E | E
  ·have H:=ZM H E;refine ZQ S rfl E (wp_skip (Zh (bg _ _ (Zj fun _ bh=>wp_block (bO H fun bi ab H=>bO H fun bR bj H=>Zv (mv S rfl fun f S=>mv S rfl fun f S=>?_))))));have C:=Zca aa C;obtain ⟨_,bS,bT,bU,bk,bm,bn⟩:=Z9a C (Zi ab).2.1;obtain ⟨rfl,rfl⟩:=ZXt bk;obtain ⟨rfl,bV⟩:=bn;refine ov S rfl (ZP S rfl rfl ZAn (Zi ab).1 (ltI (ZJ C) (Zi ab).2.2.1)) fun f S=>ov S rfl (Zoa S rfl k_sz9 (S.view bm)) fun f S=>ZFv writes ap (Zmx bj) S wn rfl zl (Zea S [.pointer (some ⟨r,0,none⟩),.string (ZA bi)] k_en128 rfl rfl) fun f w S bo=>Zs (Zvb (Zh (bh _ _ (bO H fun bW aq H=>Zv (mv S rfl fun f S=>ov S rfl (Zg S rfl rfl (Zza aq)) fun f S=>mw S rfl fun f S=>Zs ?_)))));obtain rfl:=Zn H;refine be _ rfl _ _ ⟨_,_,_,rfl,aa,(S.fr' rfl),bo,(Zva aq).2⟩
  have H:=ZK H E;refine ZO S rfl E (wp_exit (Z3 ?_));obtain rfl:=Zn H;have hq:=bf _ rfl;subst hq;have H:=bc;refine Z3 (Z7a ?_);obtain rfl:=Zn H;refine Zh (ba _ _ ⟨_,_,rfl,(leT (leR _) aa),(S.fr' rfl),ap⟩)
 rintro f w ⟨Q,R,hq,bX,S,bp⟩;subst hq;have H:=a9;refine Zh (a5 _ _ (Zj fun _ bq=>bO H fun bY br H=>Zv (op_tell tells bp S wn rfl zl (Zea S [.pointer (some ⟨r,0,none⟩)] k_en129 rfl rfl) fun f w S=>mw S rfl fun f S=>Zs (Zh (bq _ _ (wp_ret ?_))))));obtain rfl:=Zn H;refine ZHa S (ZSa rfl (ZS S rfl)) ⟨[.string (ZA Q)],rfl,(Zwh (Zcl br))⟩
theorem text_c {c:World} {b:Zb} (hv:VIn b c) {d:List Value} {a:Nat} (f:Rep.rel Zy b d a) {z:(List UInt8)} (hm:ZVf a=some z) :
  Ret Tryz.prog 76 #[Zy.val d] c b (fun y v'=>∃ e,y=Zbb.val e∧Zbb.rel v' e z) :=
 text_w hv f (Z9w hm)
end Go.Eng
set_option maxRecDepth 100000
set_option maxHeartbeats 4000000
namespace Go.Eng
open Go.Proofs Go.RowKit
noncomputable def Zfl:FuncId×Con:=(76,⟨[.leaf 0],[.str],fun p=>ZVf p⟩)
theorem text_k:Zl Tryz.prog Zfl.1 Zfl.2:=fun w v vals x z hv ha hz=>by
 obtain ⟨c0,e0,p0⟩:=ha;subst e0
 exact .inl ⟨fun _ _=>by kernel_rfl,Ret.mono (text_c hv p0 hz) fun y v' _ ⟨r0,e,h0⟩=>⟨r0,e,h0⟩⟩
end Go.Eng
set_option maxRecDepth 100000
set_option maxHeartbeats 4000000
namespace Go.Eng
open Go.Proofs Go.RowKit
noncomputable def ZOj:FuncId×Con:=(35,⟨[.leaf 3],[.str],fun p=>ZMf p⟩)
theorem qtext_i (x:Rat):Zo ⟨Tryz.prog,[(31,0),(33,2),(35,3)],[Zfl],[],[],[],[]⟩ [] Tryz.f35 (.two .no (.two .no (.two (.two .no (.cut ⟨⟨[],[],[]⟩,[(.norm,⟨[1],[],[.s 3 (.dat .str)]⟩)]⟩ .no)) (.two (.two .no (.cut ⟨⟨[],[],[]⟩,[(.norm,⟨[],[],[.s 3 (.dat .str)]⟩)]⟩ .no)) .no)))) [.leaf 3] [.str] (x)=ZPm x:=by kernel_rfl
theorem qtext_k:Zl Tryz.prog ZOj.1 ZOj.2:=Zq (C:=⟨Tryz.prog,[(31,0),(33,2),(35,3)],[Zfl],[],[],[],[]⟩) ⟨text_k,trivial⟩ trivial trivial trivial (inl:=[]) trivial (ann:=.two .no (.two .no (.two (.two .no (.cut ⟨⟨[],[],[]⟩,[(.norm,⟨[1],[],[.s 3 (.dat .str)]⟩)]⟩ .no)) (.two (.two .no (.cut ⟨⟨[],[],[]⟩,[(.norm,⟨[],[],[.s 3 (.dat .str)]⟩)]⟩ .no)) .no)))) Tryz.func35 (fun _ _=>by kernel_rfl) rfl fun v vals x z ha hz=>(qtext_i x).trans (Zhu hz)
end Go.Eng
set_option maxRecDepth 100000
set_option maxHeartbeats 4000000
namespace Go.Eng
open Go.Proofs Go.RowKit
noncomputable def ZIj:FuncId×Con:=(7,⟨[],[.bool],fun _=>Zwd⟩)
theorem Zcs  : Zo ⟨Tryz.prog,[(31,0),(33,2),(35,3),(39,1),(41,4)],[Zdc,Z5j,Z2j,ZUc,Z6i,Zsk,ZIk,ZOj],[],[],[],[]⟩ [] Tryz.f7 (.two .no (.two .no (.two (.cut ⟨⟨[],[],[]⟩,[(.norm,⟨[],[],[.s 3 (.box 35 (.dat (.leaf 3))),.s 4 (.dat (.int .i64))]⟩)]⟩ .no) (.two .no (.two .no (.two .no (.two (.cut ⟨⟨[],[],[]⟩,[(.norm,⟨[],[],[.s 0 (.dat .bool)]⟩)]⟩ .no) .no))))))) [] [.bool] ()=Zwd  := by kernel_rfl
theorem ZJu:Zl Tryz.prog ZIj.1 ZIj.2:=Zq (C:=⟨Tryz.prog,[(31,0),(33,2),(35,3),(39,1),(41,4)],[Zdc,Z5j,Z2j,ZUc,Z6i,Zsk,ZIk,ZOj],[],[],[],[]⟩) ⟨Zzg,drum8_k,force_k,Zxh,kappa_k,ZMu,ZPt,qtext_k,trivial⟩ trivial trivial trivial (inl:=[]) trivial (ann:=.two .no (.two .no (.two (.cut ⟨⟨[],[],[]⟩,[(.norm,⟨[],[],[.s 3 (.box 35 (.dat (.leaf 3))),.s 4 (.dat (.int .i64))]⟩)]⟩ .no) (.two .no (.two .no (.two .no (.two (.cut ⟨⟨[],[],[]⟩,[(.norm,⟨[],[],[.s 0 (.dat .bool)]⟩)]⟩ .no) .no))))))) Tryz.func7 (fun _ _=>by kernel_rfl) rfl fun v vals x z ha hz=>(Zcs ).trans (hz)
end Go.Eng
set_option maxRecDepth 100000
set_option maxHeartbeats 4000000
namespace Go.Eng
open Go.Proofs Go.RowKit
noncomputable def Zdj:FuncId×Con:=(17,⟨[.leaf 3,.leaf 3],[.bool],fun p=>ZTc p.1 p.2⟩)
theorem qsame_i (x:Rat) (y:Rat):Zo ⟨Tryz.prog,[(31,0),(33,2),(35,3)],[Zig],[],[],[],[]⟩ [] Tryz.f17 (.two .no (.two (.cut ⟨⟨[],[],[]⟩,[(.norm,⟨[],[],[.s 4 (.dat .bool)]⟩)]⟩ .no) .no)) [.leaf 3,.leaf 3] [.bool] (x,y)=Zqn x y:=by kernel_rfl
theorem qsame_k:Zl Tryz.prog Zdj.1 Zdj.2:=Zq (C:=⟨Tryz.prog,[(31,0),(33,2),(35,3)],[Zig],[],[],[],[]⟩) ⟨cmp_k,trivial⟩ trivial trivial trivial (inl:=[]) trivial (ann:=.two .no (.two (.cut ⟨⟨[],[],[]⟩,[(.norm,⟨[],[],[.s 4 (.dat .bool)]⟩)]⟩ .no) .no)) Tryz.func17 (fun _ _=>by kernel_rfl) rfl fun v vals x z ha hz=>(qsame_i x.1 x.2).trans (Zew hz)
end Go.Eng
set_option maxRecDepth 100000
set_option maxHeartbeats 4000000
namespace Go.Eng
open Go.Proofs Go.RowKit
noncomputable def ZBg:FuncId×Con:=(60,⟨[.pair (.int .i64) (.pair (.int .i64) (.pair (.int .i64) (.pair (.int .i64) (.leaf 3))))],[.pair (.int .i64) (.pair (.int .i64) (.pair (.int .i64) (.int .i64)))],fun p=>Zah p⟩)
theorem ZLw (z:Int×Int×Int×Int×Rat):Zo ⟨Tryz.prog,[(31,0),(33,2),(35,3),(39,1),(41,4)],[],[],[],[],[]⟩ [] Tryz.f60 .no [.pair (.int .i64) (.pair (.int .i64) (.pair (.int .i64) (.pair (.int .i64) (.leaf 3))))] [.pair (.int .i64) (.pair (.int .i64) (.pair (.int .i64) (.int .i64)))] (z)=Zah z:=by kernel_rfl
theorem Zso:Zl Tryz.prog ZBg.1 ZBg.2:=Zq (C:=⟨Tryz.prog,[(31,0),(33,2),(35,3),(39,1),(41,4)],[],[],[],[],[]⟩) trivial trivial trivial trivial (inl:=[]) trivial (ann:=.no) Tryz.func60 (fun _ _=>by kernel_rfl) rfl fun v vals x z ha hz=>(ZLw x).trans hz
end Go.Eng
set_option maxRecDepth 100000
set_option maxHeartbeats 4000000
namespace Go.Eng
open Go.Proofs Go.RowKit
noncomputable def ZHg:FuncId×Con:=(61,⟨[.pair (.int .i64) (.pair (.int .i64) (.pair (.int .i64) (.int .i64)))],[.pair (.int .i64) (.pair (.int .i64) (.pair (.int .i64) (.int .i64)))],fun p=>ZTd p⟩)
theorem seach_i (z:Int×Int×Int×Int):Zo ⟨Tryz.prog,[(31,0),(33,2),(35,3),(39,1),(41,4)],[],[],[],[],[]⟩ [] Tryz.f61 .no [.pair (.int .i64) (.pair (.int .i64) (.pair (.int .i64) (.int .i64)))] [.pair (.int .i64) (.pair (.int .i64) (.pair (.int .i64) (.int .i64)))] (z)=ZTd z:=by kernel_rfl
theorem Zur:Zl Tryz.prog ZHg.1 ZHg.2:=Zq (C:=⟨Tryz.prog,[(31,0),(33,2),(35,3),(39,1),(41,4)],[],[],[],[],[]⟩) trivial trivial trivial trivial (inl:=[]) trivial (ann:=.no) Tryz.func61 (fun _ _=>by kernel_rfl) rfl fun v vals x z ha hz=>(seach_i x).trans hz
end Go.Eng
set_option maxRecDepth 100000
set_option maxHeartbeats 4000000
namespace Go.Eng
open Go.Proofs Go.RowKit
noncomputable def Zil:FuncId×Con:=(58,⟨[.pair (.int .i64) (.pair (.int .i64) (.pair (.int .i64) (.int .i64))),.slice (.pair (.int .i64) (.pair (.int .i64) (.pair (.int .i64) (.pair (.int .i64) (.leaf 3)))))],[.int .i64],fun p=>ZPh p.1 p.2⟩)
theorem ZXw (z:Int×Int×Int×Int) (l:List (Int×Int×Int×Int×Rat)):Zo ⟨Tryz.prog,[(31,0),(33,2),(35,3),(39,1),(41,4)],[ZBg,ZHg],[],[],[],[]⟩ [(106,Tryz.f106,.no),(107,Tryz.f107,.two .no (.two (.cut ⟨⟨[],[],[]⟩,[(.norm,⟨[],[],[.s 2 (.dat .bool)]⟩)]⟩ .no) .no)),(152,Tryz.f152,.cut ⟨⟨[],[],[]⟩,[(.ret,⟨[],[],[.s 0 (.dat (.int .i64))]⟩)]⟩ (.two .no (.two (.two .no (.two (.cut ⟨⟨[0,1,7],[],[.s 8 (.dat (.int .i64))]⟩,[(.exit 0,⟨[],[],[]⟩),(.ret,⟨[],[],[.s 0 (.dat (.int .i64))]⟩)]⟩ .no) .no)) .no)))] Tryz.f58 (.two .no (.two .no (.two .no (.two (.two (.cut ⟨⟨[],[],[]⟩,[(.norm,⟨[1,5],[],[.s 21 (.dat .bool)]⟩)]⟩ .no) .no) (.two (.two .no (.two (.cut ⟨⟨[5,22,23],[],[.s 24 (.dat (.int .i64))]⟩,[(.exit 0,⟨[],[],[]⟩),(.ret,⟨[],[],[.s 0 (.dat (.int .i64))]⟩)]⟩ (.two (.two .no (.two .no (.two (.two (.two .no (.two .no (.two (.unroll 5 (.two (.two .no (.two .no (.two (.two (.two .no (.two (.cut ⟨⟨[],[],[]⟩,[(.norm,⟨[5,22,23,24,29,30],[],[.s 42 (.dat .bool)]⟩)]⟩ .no) .no)) .no) .no))) .no)) .no))) .no) .no))) .no)) .no)) .no))))) [.pair (.int .i64) (.pair (.int .i64) (.pair (.int .i64) (.int .i64))),.slice (.pair (.int .i64) (.pair (.int .i64) (.pair (.int .i64) (.pair (.int .i64) (.leaf 3)))))] [.int .i64] (z,l)=ZPh z l:=by kernel_rfl
theorem ZZr:Zl Tryz.prog Zil.1 Zil.2:=Zq (C:=⟨Tryz.prog,[(31,0),(33,2),(35,3),(39,1),(41,4)],[ZBg,ZHg],[],[],[],[]⟩) ⟨Zso,Zur,trivial⟩ trivial trivial trivial (inl:=[(106,Tryz.f106,.no),(107,Tryz.f107,.two .no (.two (.cut ⟨⟨[],[],[]⟩,[(.norm,⟨[],[],[.s 2 (.dat .bool)]⟩)]⟩ .no) .no)),(152,Tryz.f152,.cut ⟨⟨[],[],[]⟩,[(.ret,⟨[],[],[.s 0 (.dat (.int .i64))]⟩)]⟩ (.two .no (.two (.two .no (.two (.cut ⟨⟨[0,1,7],[],[.s 8 (.dat (.int .i64))]⟩,[(.exit 0,⟨[],[],[]⟩),(.ret,⟨[],[],[.s 0 (.dat (.int .i64))]⟩)]⟩ .no) .no)) .no)))]) ⟨⟨Tryz.func106,fun _ _=>by kernel_rfl⟩,⟨Tryz.func107,fun _ _=>by kernel_rfl⟩,⟨Tryz.func152,fun _ _=>by kernel_rfl⟩,trivial⟩ (ann:=(.two .no (.two .no (.two .no (.two (.two (.cut ⟨⟨[],[],[]⟩,[(.norm,⟨[1,5],[],[.s 21 (.dat .bool)]⟩)]⟩ .no) .no) (.two (.two .no (.two (.cut ⟨⟨[5,22,23],[],[.s 24 (.dat (.int .i64))]⟩,[(.exit 0,⟨[],[],[]⟩),(.ret,⟨[],[],[.s 0 (.dat (.int .i64))]⟩)]⟩ (.two (.two .no (.two .no (.two (.two (.two .no (.two .no (.two (.unroll 5 (.two (.two .no (.two .no (.two (.two (.two .no (.two (.cut ⟨⟨[],[],[]⟩,[(.norm,⟨[5,22,23,24,29,30],[],[.s 42 (.dat .bool)]⟩)]⟩ .no) .no)) .no) .no))) .no)) .no))) .no) .no))) .no)) .no)) .no)))))) Tryz.func58 (fun _ _=>by kernel_rfl) rfl fun v vals x z ha hz=>(ZXw x.1 x.2).trans hz
end Go.Eng
set_option maxRecDepth 100000
set_option maxHeartbeats 4000000
namespace Go.Eng
open Go.Proofs Go.RowKit
noncomputable def ZIg:FuncId×Con:=(59,⟨[.pair (.int .i64) (.pair (.int .i64) (.pair (.int .i64) (.int .i64)))],[.int .i64],fun p=>ZWe p⟩)
theorem Z5v (z:Int×Int×Int×Int):Zo ⟨Tryz.prog,[(31,0),(33,2),(35,3),(39,1),(41,4)],[],[],[],[],[]⟩ [] Tryz.f59 .no [.pair (.int .i64) (.pair (.int .i64) (.pair (.int .i64) (.int .i64)))] [.int .i64] (z)=ZWe z:=by kernel_rfl
theorem Z4q:Zl Tryz.prog ZIg.1 ZIg.2:=Zq (C:=⟨Tryz.prog,[(31,0),(33,2),(35,3),(39,1),(41,4)],[],[],[],[],[]⟩) trivial trivial trivial trivial (inl:=[]) trivial (ann:=.no) Tryz.func59 (fun _ _=>by kernel_rfl) rfl fun v vals x z ha hz=>(Z5v x).trans hz
end Go.Eng
set_option maxRecDepth 100000
set_option maxHeartbeats 4000000
namespace Go.Eng
open Go.Proofs Go.RowKit
noncomputable def ZSi:FuncId×Con:=(21,⟨[.pair (.int .i64) (.pair (.int .i64) (.pair (.int .i64) (.int .i64))),.slice (.pair (.int .i64) (.pair (.int .i64) (.pair (.int .i64) (.pair (.int .i64) (.leaf 3)))))],[.slice (.slice (.leaf 3)),.int .i64],fun p=>Zzf p.1 p.2⟩)
theorem Zlw (z:Int×Int×Int×Int) (l:List (Int×Int×Int×Int×Rat)):Zo ⟨Tryz.prog,[(31,0),(33,2),(35,3),(39,1),(41,4)],[ZGc,Zil,ZIg,ZBg,ZHg],[],[],[],[]⟩ [] Tryz.f21 (.two .no (.two .no (.two .no (.two (.two .no (.two (.cut ⟨⟨[2,20,21],[],[.s 7 (.own 26 (.slice (.leaf 3))),.s 22 (.dat (.int .i64))]⟩,[(.exit 0,⟨[],[],[.s 7 (.own 26 (.slice (.leaf 3)))]⟩)]⟩ (.two (.two .no (.two .no (.two (.two (.two .no (.two .no (.two .no (.two (.two .no (.two (.unroll 5 .no) .no)) .no)))) .no) .no))) .no)) .no)) .no)))) [.pair (.int .i64) (.pair (.int .i64) (.pair (.int .i64) (.int .i64))),.slice (.pair (.int .i64) (.pair (.int .i64) (.pair (.int .i64) (.pair (.int .i64) (.leaf 3)))))] [.slice (.slice (.leaf 3)),.int .i64] (z,l)=Zzf z l:=by kernel_rfl
theorem Z5s:Zl Tryz.prog ZSi.1 ZSi.2:=Zq (C:=⟨Tryz.prog,[(31,0),(33,2),(35,3),(39,1),(41,4)],[ZGc,Zil,ZIg,ZBg,ZHg],[],[],[],[]⟩) ⟨ZOh,ZZr,Z4q,Zso,Zur,trivial⟩ trivial trivial trivial (inl:=[]) trivial (ann:=(.two .no (.two .no (.two .no (.two (.two .no (.two (.cut ⟨⟨[2,20,21],[],[.s 7 (.own 26 (.slice (.leaf 3))),.s 22 (.dat (.int .i64))]⟩,[(.exit 0,⟨[],[],[.s 7 (.own 26 (.slice (.leaf 3)))]⟩)]⟩ (.two (.two .no (.two .no (.two (.two (.two .no (.two .no (.two .no (.two (.two .no (.two (.unroll 5 .no) .no)) .no)))) .no) .no))) .no)) .no)) .no))))) Tryz.func21 (fun _ _=>by kernel_rfl) rfl fun v vals x z ha hz=>(Zlw x.1 x.2).trans hz
end Go.Eng
set_option maxRecDepth 100000
set_option maxHeartbeats 4000000
namespace Go.Eng
open Go.Proofs Go.RowKit
noncomputable def Zlg:FuncId×Con:=(56,⟨[.pair (.int .i64) (.pair (.int .i64) (.pair (.int .i64) (.int .i64))),.slice (.pair (.int .i64) (.pair (.int .i64) (.pair (.int .i64) (.pair (.int .i64) (.leaf 3))))),.int .i64,.int .i64],[.slice (.slice (.leaf 3)),.slice (.leaf 3),.int .i64],fun p=>ZWg p.1 p.2.1 p.2.2.1 p.2.2.2⟩)
theorem asked_i (z:Int×Int×Int×Int) (l:List (Int×Int×Int×Int×Rat)) (a:Int) (b:Int):Zo ⟨Tryz.prog,[(31,0),(33,2),(35,3),(39,1),(41,4)],[ZIb,ZLb,ZSi,ZGc,ZIg],[],[],[],[]⟩ [] Tryz.f56 (.two .no (.two .no (.two (.two (.cut ⟨⟨[],[],[]⟩,[(.norm,⟨[2,3,4,8,10],[],[.s 38 (.dat .bool)]⟩)]⟩ .no) (.cut ⟨⟨[],[],[]⟩,[(.norm,⟨[2,3,4,8],[],[.s 10 (.dat (.int .i64))]⟩)]⟩ .no)) .no))) [.pair (.int .i64) (.pair (.int .i64) (.pair (.int .i64) (.int .i64))),.slice (.pair (.int .i64) (.pair (.int .i64) (.pair (.int .i64) (.pair (.int .i64) (.leaf 3))))),.int .i64,.int .i64] [.slice (.slice (.leaf 3)),.slice (.leaf 3),.int .i64] (z,l,a,b)=ZWg z l a b:=by kernel_rfl
theorem Zto:Zl Tryz.prog Zlg.1 Zlg.2:=Zq (C:=⟨Tryz.prog,[(31,0),(33,2),(35,3),(39,1),(41,4)],[ZIb,ZLb,ZSi,ZGc,ZIg],[],[],[],[]⟩) ⟨Zof,ZUf,Z5s,ZOh,Z4q,trivial⟩ trivial trivial trivial (inl:=[]) trivial (ann:=(.two .no (.two .no (.two (.two (.cut ⟨⟨[],[],[]⟩,[(.norm,⟨[2,3,4,8,10],[],[.s 38 (.dat .bool)]⟩)]⟩ .no) (.cut ⟨⟨[],[],[]⟩,[(.norm,⟨[2,3,4,8],[],[.s 10 (.dat (.int .i64))]⟩)]⟩ .no)) .no)))) Tryz.func56 (fun _ _=>by kernel_rfl) rfl fun v vals x z ha hz=>(asked_i x.1 x.2.1 x.2.2.1 x.2.2.2).trans hz
end Go.Eng
set_option maxRecDepth 100000
set_option maxHeartbeats 4000000
namespace Go.Eng
open Go.Proofs Go.RowKit
noncomputable def ZOb:FuncId×Con:=(80,⟨[.slice (.slice (.leaf 3))],[.int .i64],fun p=>Z5b p⟩)
theorem Zrv (m:List (List Rat)):Zo ⟨Tryz.prog,[(31,0),(33,2),(35,3),(39,1),(41,4)],[],[],[],[],[]⟩ [] Tryz.f80 .no [.slice (.slice (.leaf 3))] [.int .i64] (m)=Z5b m:=by kernel_rfl
theorem Z1f:Zl Tryz.prog ZOb.1 ZOb.2:=Zq (C:=⟨Tryz.prog,[(31,0),(33,2),(35,3),(39,1),(41,4)],[],[],[],[],[]⟩) trivial trivial trivial trivial (inl:=[]) trivial (ann:=.no) Tryz.func80 (fun _ _=>by kernel_rfl) rfl fun v vals x z ha hz=>(Zrv x).trans hz
end Go.Eng
set_option maxRecDepth 100000
set_option maxHeartbeats 4000000
namespace Go.Eng
open Go.Proofs Go.RowKit
noncomputable def ZHd:FuncId×Con:=(78,⟨[.slice (.slice (.leaf 3))],[.bool],fun p=>ZVd p⟩)
theorem ZDt (m:List (List Rat)):Zo ⟨Tryz.prog,[(31,0),(33,2),(35,3),(39,1),(41,4)],[ZOb],[],[],[],[]⟩ [(130,Tryz.f130,.no),(131,Tryz.f131,.no),(177,Tryz.f177,.cut ⟨⟨[],[],[]⟩,[(.ret,⟨[],[],[.s 0 (.dat (.int .i64))]⟩)]⟩ (.two .no (.two (.two .no (.two (.cut ⟨⟨[0,1,7],[],[.s 8 (.dat (.int .i64))]⟩,[(.exit 0,⟨[],[],[]⟩),(.ret,⟨[],[],[.s 0 (.dat (.int .i64))]⟩)]⟩ .no) .no)) .no)))] Tryz.f78 (.two .no (.two .no (.two (.cut ⟨⟨[],[],[]⟩,[(.norm,⟨[],[],[.s 2 (.dat .bool)]⟩)]⟩ .no) .no))) [.slice (.slice (.leaf 3))] [.bool] (m)=ZVd m:=by kernel_rfl
theorem Zvj:Zl Tryz.prog ZHd.1 ZHd.2:=Zq (C:=⟨Tryz.prog,[(31,0),(33,2),(35,3),(39,1),(41,4)],[ZOb],[],[],[],[]⟩) ⟨Z1f,trivial⟩ trivial trivial trivial (inl:=[(130,Tryz.f130,.no),(131,Tryz.f131,.no),(177,Tryz.f177,.cut ⟨⟨[],[],[]⟩,[(.ret,⟨[],[],[.s 0 (.dat (.int .i64))]⟩)]⟩ (.two .no (.two (.two .no (.two (.cut ⟨⟨[0,1,7],[],[.s 8 (.dat (.int .i64))]⟩,[(.exit 0,⟨[],[],[]⟩),(.ret,⟨[],[],[.s 0 (.dat (.int .i64))]⟩)]⟩ .no) .no)) .no)))]) ⟨⟨Tryz.func130,fun _ _=>by kernel_rfl⟩,⟨Tryz.func131,fun _ _=>by kernel_rfl⟩,⟨Tryz.func177,fun _ _=>by kernel_rfl⟩,trivial⟩ (ann:=(.two .no (.two .no (.two (.cut ⟨⟨[],[],[]⟩,[(.norm,⟨[],[],[.s 2 (.dat .bool)]⟩)]⟩ .no) .no)))) Tryz.func78 (fun _ _=>by kernel_rfl) rfl fun v vals x z ha hz=>(ZDt x).trans hz
end Go.Eng
set_option maxRecDepth 100000
set_option maxHeartbeats 4000000
namespace Go.Eng
open Go.Proofs Go.RowKit
noncomputable def Z6j:FuncId×Con:=(224,⟨[.leaf 3,.leaf 3],[.leaf 3],fun p=>ZGj p.1 p.2⟩)
theorem qOf_i (x:Rat) (y:Rat):Zo ⟨Tryz.prog,[(31,0),(33,2),(35,3),(39,1),(41,4)],[],[],[],[],[]⟩ [] Tryz.f224 .no [.leaf 3,.leaf 3] [.leaf 3] (x,y)=ZGj x y:=by kernel_rfl
theorem qOf_k:Zl Tryz.prog Z6j.1 Z6j.2:=Zq (C:=⟨Tryz.prog,[(31,0),(33,2),(35,3),(39,1),(41,4)],[],[],[],[],[]⟩) trivial trivial trivial trivial (inl:=[]) trivial (ann:=.no) Tryz.func224 (fun _ _=>by kernel_rfl) rfl fun v vals x z ha hz=>(qOf_i x.1 x.2).trans hz
end Go.Eng
set_option maxRecDepth 100000
namespace Go.Eng
open Go.Proofs Go.RowKit
theorem Zxs : ∀ y w, (method (Tryz.prog.types.size + Made.depth) 35 y "Add").run Tryz.prog w = .ok (12, y) w := fun _ _ => by kernel_rfl
theorem Zmv : ∀ y w, (method (Tryz.prog.types.size + Made.depth) 35 y "Conj").run Tryz.prog w = .ok (222, y) w := fun _ _ => by kernel_rfl
theorem ZPr : ∀ y w, (method (Tryz.prog.types.size + Made.depth) 35 y "Div").run Tryz.prog w = .ok (118, y) w := fun _ _ => by kernel_rfl
theorem Zko : ∀ y w, (method (Tryz.prog.types.size + Made.depth) 35 y "Mul").run Tryz.prog w = .ok (13, y) w := fun _ _ => by kernel_rfl
theorem Zyp : ∀ y w, (method (Tryz.prog.types.size + Made.depth) 35 y "Neg").run Tryz.prog w = .ok (53, y) w := fun _ _ => by kernel_rfl
theorem Znt : ∀ y w, (method (Tryz.prog.types.size + Made.depth) 35 y "Of").run Tryz.prog w = .ok (224, y) w := fun _ _ => by kernel_rfl
theorem Zls : ∀ y w, (method (Tryz.prog.types.size + Made.depth) 35 y "Sub").run Tryz.prog w = .ok (14, y) w := fun _ _ => by kernel_rfl
theorem Z6q : ∀ y w, (method (Tryz.prog.types.size + Made.depth) 35 y "Zero").run Tryz.prog w = .ok (16, y) w := fun _ _ => by kernel_rfl
end Go.Eng
set_option maxRecDepth 100000
set_option maxHeartbeats 4000000
namespace Go.Eng
open Go.Proofs Go.RowKit
noncomputable def ZPd:FuncId×Con:=(151,⟨[.int .i64],[.leaf 3],fun p=>Zqd p⟩)
theorem ZZs (n : Int) : Zo ⟨Tryz.prog, [(31, 0), (33, 2), (35, 3), (39, 1), (41, 4)], [ZUc, Z6j], [], [], [], [((35, "Of"), 224)]⟩ [] Tryz.f151 .no [.int .i64] [.leaf 3] (n) = Zqd n := by kernel_rfl
theorem ZRk : Zl Tryz.prog ZPd.1 ZPd.2 := Zq (C := ⟨Tryz.prog, [(31, 0), (33, 2), (35, 3), (39, 1), (41, 4)], [ZUc, Z6j], [], [], [], [((35, "Of"), 224)]⟩) ⟨Zxh, qOf_k, trivial⟩ trivial trivial ⟨Znt, trivial⟩ (inl := []) trivial (ann := .no) Tryz.func151 (fun _ _ => by kernel_rfl) rfl fun v vals x z ha hz => (ZZs x).trans hz
end Go.Eng
namespace Go.Eng
open Go.Proofs Go.RowKit
set_option maxRecDepth 100000
theorem ZZo:Elem Tryz.prog 26 35 (Zjb).n 56 (Value.agg #[Value.bool false,Value.slice none 0 0,Value.slice none 0 0]):=⟨Tryz.underlying26,by kernel_rfl,rfl,by decide⟩
noncomputable def Zdh:FuncId×ConO:=(201,⟨[.slice (.leaf 3)],35,.leaf 3,fun p=>ZMe 56 p⟩)
theorem ZQp:ZFi Tryz.prog Zdh.1 Zdh.2:=fun w v vals x z hv ha hz=>by
 obtain ⟨cs,rfl,p0⟩:=ha
 have hz:ZMe 56 (show List Rat from x)=some z:=hz
 obtain ⟨hb,rfl⟩:=ZBu hz
 obtain ⟨q,n,c,rfl⟩:=ZZf (show (Zz Zjb).rel v cs z from p0)
 refine ⟨fun _ _=>by kernel_rfl,?_⟩
 have hn:n=(show List Rat from z).length:=by obtain ⟨_,_,e,_⟩:=p0;cases e;rfl
 refine ZOo (K:=8) (args:=[.slice q n c]) hv Tryz.func201 rfl rfl zl fun fa hS=>?_
 refine sr ?_
 refine mw hS rfl fun fa hS=>?_
 refine oe ?_
 refine wp_seq_k fun N1 hN1=>?_
 refine sr ?_
 refine mv hS rfl fun fa hS=>?_
 refine ov hS rfl (Zww hS Tryz.underlying26 rfl rfl) fun fa hS=>?_
 refine oe ?_
 cases q with
 | none =>
  refine ZQ hS rfl rfl ?_
  have hx:(show List Rat from z)=[]:=by
   obtain ⟨q',c',e,_,_,h3⟩:=p0
   cases e
   rcases h3 with h3 | ⟨_,_,_,_,_,h4,_⟩
   ·exact h3
   ·cases h4
  have hx0:n=0:=by rw [hn,hx];rfl
  refine sr ?_;refine mw hS rfl fun fa hS=>?_;refine oe ?_;refine wp_ret ?_;refine Z4a ?_;have hS2:=hS.nilLoc 35 (Zjb).n;have:=ZFn (P:=Tryz.prog) (A:=Zjb) hS2 (i:=0) (ob:=none) (n:=0) (cap:=0) (cs:=[]) rfl (ZSa (fn:=Tryz.f201) (r:=.tmp 2) rfl (ZS (t:=2) (y:=.slice (mkA none) 0 0) hS2 rfl)) (l:=([]:List Rat)) ZXd rfl;rw [hx];exact this
 | some ad =>
  refine ZO hS rfl rfl ?_;refine wp_skip ?_;refine Zh (hN1 _ _ ?_);refine sr ?_;obtain ⟨b,wo,hrun,hS⟩:=ZWr ZZo hS;refine ZNb wn rfl zl hrun hS fun fa hS=>?_;refine mv hS rfl fun fa hS=>?_;obtain ⟨b',cap',cs2,wo,hr,hS',hrel⟩:=ZSf (ty:=26) (A:=Zjb) ZZo hS (i:=0) rfl (Rep.mono (Zz Zjb) hS.vst.le p0) (n':=n) (by omega) (by rw [hn];exact hb) (by decide);refine ZNb wn rfl zl (Zve hS rfl rfl hr) hS' fun fa hS=>?_;refine mw hS rfl fun fa hS=>?_;refine oe ?_;refine wp_ret ?_;exact ZFn hS (i:=0) rfl (ZSa rfl (ZS hS rfl)) hrel hn
end Go.Eng
set_option maxRecDepth 100000
set_option maxHeartbeats 4000000
namespace Go.Eng
open Go.Proofs Go.RowKit
noncomputable def Z4g:FuncId×Con:=(148,⟨[.slice (.slice (.leaf 3))],[.slice (.slice (.leaf 3)),.slice (.int .i64),.leaf 3],fun p=>Z3f p⟩)
theorem Zku (m : List (List Rat)) : Zo ⟨Tryz.prog, [(31, 0), (33, 2), (35, 3), (39, 1), (41, 4)], [ZKc, ZLb, ZBe, Zye, ZNd, ZPd], [8], [Zdh], [], [((35, "Div"), 118), ((35, "Mul"), 13), ((35, "Neg"), 53), ((35, "Sub"), 14), ((35, "Zero"), 16)]⟩ [(80, Tryz.f80, .cut ⟨⟨[], [], []⟩, [(.ret, ⟨[], [], [.s 0 (.dat (.int .i64))]⟩)]⟩ .no), (184, Tryz.f184, .two .no (.two .no (.two (.two .no (.two (.cut ⟨⟨[3, 9, 10], [], [.s 11 (.dat (.int .i64)), .l (.sl 3) (.mat 26 35 (.leaf 3))]⟩, [(.exit 0, ⟨[3], [], [.l (.sl 3) (.mat 26 35 (.leaf 3))]⟩)]⟩ .no) .no)) .no)))] Tryz.f148 (.two .no (.two .no (.two .no (.two .no (.two (.two .no (.two (.cut ⟨⟨[0, 4, 6, 19], [], [.s 5 (.own 3 (.int .i64)), .s 20 (.dat (.int .i64)), .l (.sl 0) (.mat 26 35 (.leaf 3)), .l (.sl 6) (.box 35 (.dat (.leaf 3)))]⟩, [(.exit 0, ⟨[0, 4, 6], [], [.s 5 (.own 3 (.int .i64)), .l (.sl 0) (.mat 26 35 (.leaf 3)), .l (.sl 6) (.box 35 (.dat (.leaf 3)))]⟩)]⟩ (.two (.two .no (.two .no (.two (.cut ⟨⟨[], [], []⟩, [(.norm, ⟨[0, 4, 6, 19, 20], [], [.s 5 (.own 3 (.int .i64)), .l (.sl 0) (.mat 26 35 (.leaf 3)), .l (.sl 6) (.box 35 (.dat (.leaf 3)))]⟩)]⟩ (.two (.two .no (.two .no (.two .no (.two (.two (.cut ⟨⟨[0, 4, 5, 6, 7, 8, 19, 20], [], [.s 9 (.dat (.int .i64))]⟩, [(.exit 2, ⟨[0, 4, 5, 6, 7, 8, 19, 20], [], [.s 9 (.dat (.int .i64))]⟩)]⟩ (.two (.two (.two (.cut ⟨⟨[], [], []⟩, [(.norm, ⟨[0, 4, 5, 6, 7, 8, 9, 19, 20], [], [.s 40 (.dat .bool)]⟩)]⟩ .no) .no) .no) .no)) .no) (.two .no (.two (.two .no (.cut ⟨⟨[], [], []⟩, [(.norm, ⟨[0, 4, 5, 6, 7, 8, 19, 20], [], [.l (.sl 0) (.mat 26 35 (.leaf 3)), .l (.sl 6) (.box 35 (.dat (.leaf 3)))]⟩)]⟩ .no)) (.two .no (.two .no (.two (.two .no (.two (.cut ⟨⟨[0, 4, 5, 6, 7, 8, 10, 19, 20, 83], [], [.s 84 (.dat (.int .i64)), .l (.sl 0) (.mat 26 35 (.leaf 3))]⟩, [(.exit 4, ⟨[0, 4, 5, 6, 7, 8, 19, 20], [], [.l (.sl 0) (.mat 26 35 (.leaf 3))]⟩)]⟩ .no) .no)) (.two (.two .no (.two (.cut ⟨⟨[0, 4, 5, 6, 7, 8, 19, 20, 108], [], [.s 109 (.dat (.int .i64)), .l (.sl 0) (.mat 26 35 (.leaf 3))]⟩, [(.exit 6, ⟨[0, 4, 5, 6, 7, 19, 20], [], [.l (.sl 0) (.mat 26 35 (.leaf 3))]⟩)]⟩ (.two (.two .no (.two .no (.two (.cut ⟨⟨[], [], []⟩, [(.norm, ⟨[0, 4, 5, 6, 7, 8, 19, 20, 108, 109], [], [.l (.sl 0) (.mat 26 35 (.leaf 3))]⟩)]⟩ (.two (.two .no (.two .no (.two (.two (.cut ⟨⟨[], [], []⟩, [(.norm, ⟨[0, 4, 5, 6, 7, 8, 12, 13, 19, 20, 108, 109], [], [.s 126 (.dat .bool)]⟩)]⟩ .no) .no) (.two .no (.two (.cut ⟨⟨[0, 4, 5, 6, 7, 8, 12, 13, 19, 20, 108, 109, 131], [], [.s 132 (.dat (.int .i64)), .l (.sl 0) (.mat 26 35 (.leaf 3))]⟩, [(.exit 8, ⟨[0, 4, 5, 6, 7, 8, 19, 20, 108, 109], [], [.l (.sl 0) (.mat 26 35 (.leaf 3))]⟩)]⟩ .no) .no))))) .no)) .no))) .no)) .no)) .no)))))))))) .no)) .no))) .no)) .no)) .no))))) [.slice (.slice (.leaf 3))] [.slice (.slice (.leaf 3)), .slice (.int .i64), .leaf 3] (m) = Z3f m := by kernel_rfl
theorem Zmp : Zl Tryz.prog Z4g.1 Z4g.2 := Zq (C := ⟨Tryz.prog, [(31, 0), (33, 2), (35, 3), (39, 1), (41, 4)], [ZKc, ZLb, ZBe, Zye, ZNd, ZPd], [8], [Zdh], [], [((35, "Div"), 118), ((35, "Mul"), 13), ((35, "Neg"), 53), ((35, "Sub"), 14), ((35, "Zero"), 16)]⟩) ⟨ZKi, ZUf, ZLm, ZZl, ZXk, ZRk, trivial⟩ ⟨ZQp, trivial⟩ trivial ⟨ZPr, Zko, Zyp, Zls, Z6q, trivial⟩ (inl := [(80, Tryz.f80, .cut ⟨⟨[], [], []⟩, [(.ret, ⟨[], [], [.s 0 (.dat (.int .i64))]⟩)]⟩ .no), (184, Tryz.f184, .two .no (.two .no (.two (.two .no (.two (.cut ⟨⟨[3, 9, 10], [], [.s 11 (.dat (.int .i64)), .l (.sl 3) (.mat 26 35 (.leaf 3))]⟩, [(.exit 0, ⟨[3], [], [.l (.sl 3) (.mat 26 35 (.leaf 3))]⟩)]⟩ .no) .no)) .no)))]) ⟨⟨Tryz.func80, fun _ _ => by kernel_rfl⟩, ⟨Tryz.func184, fun _ _ => by kernel_rfl⟩, trivial⟩ (ann := (.two .no (.two .no (.two .no (.two .no (.two (.two .no (.two (.cut ⟨⟨[0, 4, 6, 19], [], [.s 5 (.own 3 (.int .i64)), .s 20 (.dat (.int .i64)), .l (.sl 0) (.mat 26 35 (.leaf 3)), .l (.sl 6) (.box 35 (.dat (.leaf 3)))]⟩, [(.exit 0, ⟨[0, 4, 6], [], [.s 5 (.own 3 (.int .i64)), .l (.sl 0) (.mat 26 35 (.leaf 3)), .l (.sl 6) (.box 35 (.dat (.leaf 3)))]⟩)]⟩ (.two (.two .no (.two .no (.two (.cut ⟨⟨[], [], []⟩, [(.norm, ⟨[0, 4, 6, 19, 20], [], [.s 5 (.own 3 (.int .i64)), .l (.sl 0) (.mat 26 35 (.leaf 3)), .l (.sl 6) (.box 35 (.dat (.leaf 3)))]⟩)]⟩ (.two (.two .no (.two .no (.two .no (.two (.two (.cut ⟨⟨[0, 4, 5, 6, 7, 8, 19, 20], [], [.s 9 (.dat (.int .i64))]⟩, [(.exit 2, ⟨[0, 4, 5, 6, 7, 8, 19, 20], [], [.s 9 (.dat (.int .i64))]⟩)]⟩ (.two (.two (.two (.cut ⟨⟨[], [], []⟩, [(.norm, ⟨[0, 4, 5, 6, 7, 8, 9, 19, 20], [], [.s 40 (.dat .bool)]⟩)]⟩ .no) .no) .no) .no)) .no) (.two .no (.two (.two .no (.cut ⟨⟨[], [], []⟩, [(.norm, ⟨[0, 4, 5, 6, 7, 8, 19, 20], [], [.l (.sl 0) (.mat 26 35 (.leaf 3)), .l (.sl 6) (.box 35 (.dat (.leaf 3)))]⟩)]⟩ .no)) (.two .no (.two .no (.two (.two .no (.two (.cut ⟨⟨[0, 4, 5, 6, 7, 8, 10, 19, 20, 83], [], [.s 84 (.dat (.int .i64)), .l (.sl 0) (.mat 26 35 (.leaf 3))]⟩, [(.exit 4, ⟨[0, 4, 5, 6, 7, 8, 19, 20], [], [.l (.sl 0) (.mat 26 35 (.leaf 3))]⟩)]⟩ .no) .no)) (.two (.two .no (.two (.cut ⟨⟨[0, 4, 5, 6, 7, 8, 19, 20, 108], [], [.s 109 (.dat (.int .i64)), .l (.sl 0) (.mat 26 35 (.leaf 3))]⟩, [(.exit 6, ⟨[0, 4, 5, 6, 7, 19, 20], [], [.l (.sl 0) (.mat 26 35 (.leaf 3))]⟩)]⟩ (.two (.two .no (.two .no (.two (.cut ⟨⟨[], [], []⟩, [(.norm, ⟨[0, 4, 5, 6, 7, 8, 19, 20, 108, 109], [], [.l (.sl 0) (.mat 26 35 (.leaf 3))]⟩)]⟩ (.two (.two .no (.two .no (.two (.two (.cut ⟨⟨[], [], []⟩, [(.norm, ⟨[0, 4, 5, 6, 7, 8, 12, 13, 19, 20, 108, 109], [], [.s 126 (.dat .bool)]⟩)]⟩ .no) .no) (.two .no (.two (.cut ⟨⟨[0, 4, 5, 6, 7, 8, 12, 13, 19, 20, 108, 109, 131], [], [.s 132 (.dat (.int .i64)), .l (.sl 0) (.mat 26 35 (.leaf 3))]⟩, [(.exit 8, ⟨[0, 4, 5, 6, 7, 8, 19, 20, 108, 109], [], [.l (.sl 0) (.mat 26 35 (.leaf 3))]⟩)]⟩ .no) .no))))) .no)) .no))) .no)) .no)) .no)))))))))) .no)) .no))) .no)) .no)) .no)))))) Tryz.func148 (fun _ _ => by kernel_rfl) rfl fun v vals x z ha hz => (Zku x).trans hz
end Go.Eng
set_option maxRecDepth 100000
set_option maxHeartbeats 4000000
namespace Go.Eng
open Go.Proofs Go.RowKit
noncomputable def Zwk:FuncId×Con:=(185,⟨[.slice (.int .i64),.int .i64],[.int .i64],fun p=>ZBi p.1 p.2⟩)
theorem Zqs (l:(List Int)) (v:Int):Zo ⟨Tryz.prog,[(31,0),(33,2),(35,3),(39,1),(41,4)],[],[],[],[],[]⟩ [] Tryz.f185 (.two .no (.two (.two .no (.cut ⟨⟨[],[],[]⟩,[(.norm,⟨[],[],[]⟩),(.ret,⟨[],[],[.s 0 (.dat (.int .i64))]⟩)]⟩ (.two (.cut ⟨⟨[0,1,7],[],[.s 8 (.dat (.int .i64))]⟩,[(.ret,⟨[],[],[.s 0 (.dat (.int .i64))]⟩),(.exit 0,⟨[],[],[]⟩)]⟩ .no) .no))) .no)) [.slice (.int .i64),.int .i64] [.int .i64] (l,v)=ZBi l v:=by kernel_rfl
theorem ZAw:Zl Tryz.prog Zwk.1 Zwk.2:=Zq (C:=⟨Tryz.prog,[(31,0),(33,2),(35,3),(39,1),(41,4)],[],[],[],[],[]⟩) trivial trivial trivial trivial (inl:=[]) trivial (ann:=.two .no (.two (.two .no (.cut ⟨⟨[],[],[]⟩,[(.norm,⟨[],[],[]⟩),(.ret,⟨[],[],[.s 0 (.dat (.int .i64))]⟩)]⟩ (.two (.cut ⟨⟨[0,1,7],[],[.s 8 (.dat (.int .i64))]⟩,[(.ret,⟨[],[],[.s 0 (.dat (.int .i64))]⟩),(.exit 0,⟨[],[],[]⟩)]⟩ .no) .no))) .no)) Tryz.func185 (fun _ _=>by kernel_rfl) rfl fun v vals x z ha hz=>(Zqs x.1 x.2).trans (hz)
end Go.Eng
set_option maxRecDepth 100000
set_option maxHeartbeats 4000000
namespace Go.Eng
open Go.Proofs Go.RowKit
noncomputable def ZAj:FuncId×Con:=(149,⟨[.slice (.int .i64),.int .i64],[.bool],fun p=>Zli p.1 p.2⟩)
theorem Zyv (l:(List Int)) (v:Int):Zo ⟨Tryz.prog,[(31,0),(33,2),(35,3),(39,1),(41,4)],[Zwk],[],[],[],[]⟩ [] Tryz.f149 .no [.slice (.int .i64),.int .i64] [.bool] (l,v)=Zli l v:=by kernel_rfl
theorem ZNw:Zl Tryz.prog ZAj.1 ZAj.2:=Zq (C:=⟨Tryz.prog,[(31,0),(33,2),(35,3),(39,1),(41,4)],[Zwk],[],[],[],[]⟩) ⟨ZAw,trivial⟩ trivial trivial trivial (inl:=[]) trivial (ann:=.no) Tryz.func149 (fun _ _=>by kernel_rfl) rfl fun v vals x z ha hz=>(Zyv x.1 x.2).trans (hz)
noncomputable def ZUi (x:Int) (y:Int):Option (Int×Int) :=
 bnd (Zuc x y) fun a =>
 some ((a.1,a.2))
end Go.Eng
namespace Go.Eng
open Go.Proofs Go.RowKit
theorem bmul_w {c:World} {a:Zb} (hv:VIn a c) {d:List Value} {x:Int} (i:Rep.rel (Zd .u64) a d x) {e:List Value} {y:Int} (j:Rep.rel (Zd .u64) a e y) {z:Int×Int} (H:ZUi x y=some z):Ret Tryz.prog 172 #[(Zd .u64).val d,(Zd .u64).val e] c a (fun y v'=>∃ g b,y = .tuple #[(Zd .u64).val g,(Zd .u64).val b]∧(Zd .u64).rel v' g z.1∧(Zd .u64).rel v' b z.2):=by
 obtain ⟨rfl,b⟩:=i;obtain ⟨rfl,k⟩:=j;refine ZTb (K:=30) (args:=[.int .u64 x,.int .u64 y]) hv Tryz.func172 rfl rfl zl fun f S=>?_;unfold ZUi at H;refine sr (mw S rfl fun f S=>mw S rfl fun f S=>oe (Zj fun _ l=>ZO S rfl rfl (wp_skip (Zh (l _ _ (Zj fun _ m=>bO H fun h n H=>Zv (mv S rfl fun f S=>mv S rfl fun f S=>opc S rfl (Zea S [.int .u64 x,.int .u64 y] Z7l rfl rfl) (ZIl S.vin (show Rep.rel (Zd .u64) _ [.int .u64 x] x from (ZF b)) (show Rep.rel (Zd .u64) _ [.int .u64 y] y from (ZF k)) n) ?_)))))));rintro _ s f w t ⟨u,v,rfl,o,p⟩ S;obtain ⟨rfl,q⟩:=o;obtain ⟨rfl,r⟩:=p;refine mv S rfl fun f S=>ov S rfl (ZAa S rfl rfl) fun f S=>ov S rfl (ZAa S rfl rfl) fun f S=>mw S rfl fun f S=>mw S rfl fun f S=>Zs (Zh (m _ _ (sr (mv S rfl fun f S=>mv S rfl fun f S=>mw S rfl fun f S=>mw S rfl fun f S=>oe (wp_ret ?_)))));obtain rfl:=Zn H;refine ZHa S (ZDe rfl (ZS S rfl) (ZS S rfl)) ⟨[.int .u64 (h.1)],[.int .u64 (h.2)],rfl,(ZF q),(ZF r)⟩
set_option maxRecDepth 100000
theorem Zjm:Elem Tryz.prog 26 35 (Zjb).n 56 (Value.agg #[Value.bool false,Value.slice none 0 0,Value.slice none 0 0]):=⟨Tryz.underlying26,by kernel_rfl,rfl,by decide⟩
theorem Zrl:Zid Tryz.prog 26 35 (Zjb).n:=⟨fun _=>by kernel_rfl,fun _=>by kernel_rfl⟩
theorem ZYv:Tryz.prog.follows .mixedOrders=true:=by kernel_rfl
theorem ZLv:Zka Tryz.prog 172:=fun _ _=>by kernel_rfl
theorem ZSq:Zoi Tryz.prog 3 215 .i64 .u64:=fun _ _=>by kernel_rfl
theorem Zat:Zoi Tryz.prog 215 3 .u64 .i64:=fun _ _=>by kernel_rfl
noncomputable def ZRg:FuncId×ConO:=(186,⟨[.slice (.leaf 3),.int .i64],35,.leaf 3,fun p=>ZYe 56 p.1 p.2⟩)
theorem Zlr:ZFi Tryz.prog ZRg.1 ZRg.2:=fun w v vals x z hv ha hz=>by
 obtain ⟨cs,vs,rfl,p0,c1,rfl,rfl,hin⟩:=ha
 obtain ⟨x1,k0⟩:=x
 have hz:ZYe 56 (show List Rat from x1) k0=some z:=hz
 obtain ⟨y,hx1,hzr,hmk⟩:=ZWu hz
 have hx1:x1=[y]:=hx1
 subst hx1 hzr
 obtain ⟨h0,_,hb1,hb2⟩:=ZOa hmk
 obtain ⟨k,rfl⟩:=Int.eq_ofNat_of_zero_le h0
 obtain ⟨q,c,e,hc1,hc2,hne⟩:=(show (Zz Zjb).rel v cs [y] from p0)
 subst e
 rcases hne with hne | ⟨b,off,cc,TT,fr,rfl,hvb,hrel⟩
 ·cases hne
 have hlen1:([y]:List Rat).length=1:=rfl
 rw [hlen1] at hrel
 obtain ⟨c1,c2,e12,hrc,e2⟩:=hrel
 have e2:c2=[]:=e2
 subst e2
 rw [List.append_nil,Nat.one_mul] at e12
 have hl1:=Rep.len _ hrc
 have hAt:At v b off c1:=⟨cc,TT,fr,hvb,by rw [hl1];exact e12⟩
 refine ⟨fun _ _=>by kernel_rfl,?_⟩
 have hk:((k:Int).toNat)=k:=Int.toNat_natCast k
 rw [hk]
 refine ZOo (K:=48) (args:=[.slice (some ⟨b,off,none⟩) 1 c,.int .i64 (k:Int)]) hv Tryz.func186 rfl rfl zl fun fa hS=>?_
 refine sr ?_
 refine mw hS rfl fun fa hS=>?_
 refine oe ?_
 refine wp_seq_k fun N1 hN1=>?_
 refine sr ?_
 refine mv hS rfl fun fa hS=>?_
 refine ov hS rfl (Zg hS rfl rfl Z7b) fun fa hS=>?_
 refine oe ?_
 refine ZO hS rfl (decide_eq_false (by omega)) ?_
 refine wp_skip ?_
 refine Zh (hN1 _ _ ?_)
 refine sr ?_
 refine mv hS rfl fun fa hS=>?_
 refine ov hS rfl (ZSd hS rfl rfl Zrl) fun fa hS=>?_
 refine ov hS rfl (ZId hS rfl (ZSq _)) fun fa hS=>?_
 refine mv hS rfl fun fa hS=>?_
 refine ov hS rfl (ZId hS rfl (ZSq _)) fun fa hS=>?_
 have w1:IntKind.u64.wrap ((1:Nat):Int)=1:=by decide
 have w2:IntKind.u64.wrap (k:Int)=k:=Zrd (Z1c.2 (by omega))
 rw [w1,w2] at hS
 have hmul:ZUi 1 (k:Int)=some (0,(k:Int)):=by
  unfold ZUi Zuc;rw [if_pos (by omega),Za];simp only;congr 2 <;> omega
 refine Zhr hS wn rfl zl (Zea hS [.int .u64 1,.int .u64 (k:Int)] ZLv rfl rfl) (bmul_w hS.vin (show Rep.rel (Zd .u64) _ [.int .u64 1] 1 from ZF (by decide)) (show Rep.rel (Zd .u64) _ [.int .u64 (k:Int)] (k:Int) from ZF (Z1c.2 (by omega))) hmul) ?_;rintro _ v1 fa wo hle ⟨r0,r1,rfl,⟨rfl,_⟩,⟨rfl,_⟩⟩ hS;refine mv hS rfl fun fa hS=>?_;refine ov hS rfl (ZAa hS rfl rfl) fun fa hS=>?_;refine ov hS rfl (ZAa hS rfl rfl) fun fa hS=>?_;refine mw hS rfl fun fa hS=>?_;refine mw hS rfl fun fa hS=>?_;refine oe ?_;refine wp_seq_k fun N2 hN2=>?_;refine sr ?_;refine mv hS rfl fun fa hS=>?_;refine ov hS rfl (Zg hS rfl rfl Zgd) fun fa hS=>?_;have g1:decide ((0:Int)<0)=false:=rfl;have hS:St _ _ _ ((22,Value.bool false) :: _) _ _ _ _:=hS;refine mv hS rfl fun fa hS=>?_;refine op_v hS (ZYf hS rfl rfl rfl zl) rfl zl (ZB hS rfl) fun fa hS=>?_;refine op_v hS (ZYf hS rfl rfl rfl zl) rfl zl (Zg hS rfl rfl Zgd) fun fa hS=>?_;refine ov hS rfl (ZGb (b:=false) hS rfl rfl) fun fa hS=>?_;refine oe ?_;refine ZO hS rfl (decide_eq_false (by omega)) ?_;refine wp_skip ?_;refine Zh (hN2 _ _ ?_);refine sr ?_;refine mv hS rfl fun fa hS=>?_;refine ov hS rfl (ZId hS rfl (Zat _)) fun fa hS=>?_;have w3:IntKind.i64.wrap (k:Int)=k:=Zrd (ZMa.2 (by omega));rw [w3] at hS;obtain ⟨b2,wo,hrun,hS'⟩:=Zmm Zjm hS (l:=(k:Int)) (c:=(k:Int)) h0 (Int.le_refl _) hb1 hb2
 refine ZNb wn rfl zl (hrun rfl rfl) hS' fun fa hS=>?_;refine mw hS rfl fun fa hS=>?_;refine oe ?_;rw [hk] at hS;have hS:=hS.fr' (σ':=[(7,.slice (mkA (some b2)) k k),(0,.slice (some ⟨b,off,none⟩) 1 c)]) rfl;have src1:∀ {σ:List (Nat×Value)} {ℓ:List Loc} {v':Zb} {a:Act} {w':World},St 48 w v σ ℓ v' a w'→∀ j u,c1[j]? = some u→w'.cell? ((⟨b,off,none⟩:Addr).add j)=some u:=fun hS j u hu=>by
  have:=(hS.view (At.mono hS.vst.le hAt)).cell hu
  rwa [Z1a]
 have hpl1:c1.all plain=true:=Rep.flat _ hrc;obtain ⟨zc,hzc⟩:∃ zc:List Value,zc=(Value.agg #[Value.bool false,Value.slice none 0 0,Value.slice none 0 0]:Value).cells.toList:=⟨_,rfl⟩;have hzl:zc.length=(Zjb).n:=by rw [hzc];rfl
 rw [← hzc] at hS
 let Inv:Nat→Act→World→Prop:=fun j a w'=>∃ v',j≤k∧(0<k→0<j)∧St 48 w v [(8,.int .i64 (j:Int)),(7,.slice (mkA (some b2)) k k)] [.own (some b2) 35 (Zjb).n k k ((List.replicate j c1).flatten++(List.replicate (k-j) zc).flatten)] v' a w'
 have rl:=fun n=>Z0i hl1 n;have rpl:∀ n:Nat,((List.replicate n c1).flatten).all plain=true:=fun n=>Ziw hpl1 n;have step:=fun j m (hjm:j+m≤k)=>rp_step (k:=k) hl1 hzl hjm;refine sr ?_;refine mv hS rfl fun fa hS=>?_;refine mv hS rfl fun fa hS=>?_;have hS1:St 48 w v _ [.own (some b2) 35 (Zjb).n k k ((List.replicate 0 c1).flatten++(List.replicate (k-0) zc).flatten)] v1 fa wo:=hS;obtain ⟨wo2,hr,hS'⟩:=Zxo (t:=26) (sT:=26) Zjm hS1 (i:=0) rfl (p:=0) (k:=min 1 k) (c:=(List.replicate (min 1 k) c1).flatten) (rl _) (by omega) (rpl _) (ad:=⟨b,off,none⟩) (sLen:=1) (sCap:=c) (dLen:=k) (dCap:=k) (fun j u hu=>by
  rcases Nat.lt_or_ge 0 k with hk0 | hk0
  ·rw [show min 1 k=1 by omega] at hu;simp only [List.replicate_one,List.flatten_cons,List.flatten_nil,List.append_nil] at hu;exact src1 hS1 j u hu
  ·rw [show min 1 k=0 by omega] at hu;simp at hu) rfl
 have hst:=step 0 (min 1 k) (by omega);simp only [List.set_cons_zero] at hS';rw [hst] at hS';simp only [Nat.zero_add] at hS';rw [Nat.zero_mul] at hr;refine ZNb wn rfl zl (ZJq hS1 rfl rfl (hr _)) hS' fun fa hS=>?_;refine mw hS rfl fun fa hS=>?_;refine oe ?_;have hS:=hS.fr' (σ':=[(8,.int .i64 ((min 1 k:Nat):Int)),(7,.slice (mkA (some b2)) k k)]) rfl;refine wp_seq_k fun N3 hN3=>?_;refine wp_block ?_;refine wp_loop_fuel (fun m a w'=>∃ j,k-j<m∧Inv j a w') (k+1) ⟨min 1 k,by omega,v1,by omega,by omega,hS⟩ (fun a w' ⟨j,h,_⟩=>by omega) ?_;rintro m fa wo3 ⟨j,hjm,v3,hjk,hj0,hS⟩ N hN;refine wp_seq_k fun N4 hN4=>?_;refine sr ?_;refine mv hS rfl fun fa hS=>?_;refine mv hS rfl fun fa hS=>?_;refine ov hS rfl (ZSd hS rfl rfl Zrl) fun fa hS=>?_;refine ov hS rfl (Zg hS rfl rfl Z7b) fun fa hS=>?_;refine oe ?_;by_cases hlt:j<k
 ·refine ZQ hS rfl (decide_eq_true (by omega)) ?_;refine wp_skip ?_;refine Zh (hN4 _ _ ?_);refine wp_block ?_;have hS:=hS.fr' (σ':=[(8,.int .i64 (j:Int)),(7,.slice (mkA (some b2)) k k)]) rfl;refine Z6d (fl:=#[true,true,true,true,true,true,true,false,false,false]) ZYv (by kernel_rfl) hS ?_;intro ops hops hF wo hS;refine rf hops hF 0 rfl (by kernel_rfl) rfl hS (ZB hS rfl) fun fa hS=>?_;refine rf hops hF 1 rfl (by kernel_rfl) rfl hS (ZB hS rfl) fun fa hS=>?_;refine rf hops hF 2 rfl (by kernel_rfl) rfl hS (ZB hS rfl) fun fa hS=>?_;refine rf hops hF 3 rfl (by kernel_rfl) rfl hS (Z7t hS Zrl rfl rfl (by omega) (by omega)) fun fa hS=>?_;refine rf hops hF 4 rfl (by kernel_rfl) rfl hS (ZB hS rfl) fun fa hS=>?_;refine rf hops hF 5 rfl (by kernel_rfl) rfl hS (ZB hS rfl) fun fa hS=>?_;refine rf hops hF 6 rfl (by kernel_rfl) rfl hS (Zdt hS Zrl rfl rfl (by omega) (by omega)) fun fa hS=>?_;rw [Nat.zero_add] at hS;obtain ⟨wo',hr,hS'⟩:=Zxo (t:=26) (sT:=26) Zjm hS (i:=0) rfl (p:=j) (k:=min j (k-j)) (c:=(List.replicate (min j (k-j)) c1).flatten) (rl _) (by omega) (rpl _) (ad:=⟨b2,0,none⟩) (sLen:=j) (sCap:=k) (dLen:=k-j) (dCap:=k-j) (fun i u hu=>by
   have hi:=(List.getElem?_eq_some_iff.1 hu).1;refine Zrj hS (j:=0) rfl i u ?_;rw [ZEq (c:=c1) (m:=min j (k-j)) (n:=j) (by omega),List.append_assoc,List.getElem?_append_left hi];exact hu) rfl
  have hst:=step j (min j (k-j)) (by omega);simp only [List.set_cons_zero] at hS';rw [hst] at hS';refine ZPj hops hF 7 (by kernel_rfl) ?_;refine nx_ex' [3,6,1,2,4,5] [0] hops rfl (by kernel_rfl) wn rfl zl (ZJq hS rfl rfl (hr _)) hS' fun fa hS=>?_;refine ⟨(py hS rfl rfl (ZB hS rfl) Zxc),?_⟩;refine ZPj hops hF 8 (by kernel_rfl) ?_;have hadd:chk .i64 ((j:Int)+((min j (k-j):Nat):Int))=some ((j+min j (k-j):Nat):Int):=by rw [Zm (by omega) (by omega)];rfl
  refine nv [0,7,3,6,1,2,4,5] [] hops rfl (by kernel_rfl) rfl hS (Zg hS rfl rfl (ZTa hadd)) fun fa hS=>?_;refine ⟨Zxc,?_⟩;refine ZPj hops hF 9 (by kernel_rfl) ?_;refine nv [0,1,2,3,4,5,6,7,8] [] hops rfl (by kernel_rfl) rfl hS (ZMd hS rfl) fun fa hS=>?_;refine ⟨Zxc,?_⟩;refine ZMq hops hF (by kernel_rfl) ?_;refine Zvb ?_;have hj0:=hj0 (by omega);exact Zh (hN _ _ ⟨j+min j (k-j),by omega,v3,by omega,fun _=>by omega,hS.fr' rfl⟩)
 refine ZO hS rfl (decide_eq_false (by omega)) ?_;refine wp_exit ?_;refine Z3 ?_;refine Z3 ?_;refine Z7a ?_;refine Zh (hN3 _ _ ?_);have hjk:j=k:=by omega
 subst hjk;rw [Nat.sub_self,List.replicate_zero,List.flatten_nil,List.append_nil] at hS;refine sr ?_;refine mv hS rfl fun fa hS=>?_;refine mw hS rfl fun fa hS=>?_;refine oe ?_;refine wp_ret ?_;exact ZFn hS (i:=0) rfl (ZSa rfl (ZS hS rfl)) (Zie (Rep.mono _ hS.vst.le hrc) _) (List.length_replicate (n:=j) (a:=y)).symm
end Go.Eng
set_option maxRecDepth 100000
set_option maxHeartbeats 4000000
namespace Go.Eng
open Go.Proofs Go.RowKit
noncomputable def Z4k:FuncId×Con:=(104,⟨[.slice (.slice (.leaf 3))],[.slice (.slice (.leaf 3)),.int .i64],fun p=>Zoh p⟩)
theorem Zgx (m : List (List Rat)) : Zo ⟨Tryz.prog, [(31, 0), (33, 2), (35, 3), (39, 1), (41, 4)], [Zye, ZHd, ZOb, Z4g, ZAj, ZPd], [], [ZRg], [], [((35, "Neg"), 53)]⟩ [(150, Tryz.f150, .no)] Tryz.f104 (.two .no (.two .no (.two .no (.two .no (.two (.two .no (.two (.cut ⟨⟨[0, 4, 5, 22], [], [.s 7 (.own 26 (.slice (.leaf 3))), .s 23 (.dat (.int .i64))]⟩, [(.exit 0, ⟨[], [], [.s 7 (.own 26 (.slice (.leaf 3)))]⟩)]⟩ (.two (.two .no (.two .no (.two (.cut ⟨⟨[], [], []⟩, [(.norm, ⟨[0, 4, 5, 22, 23], [], [.s 7 (.own 26 (.slice (.leaf 3)))]⟩)]⟩ (.two (.two .no (.two .no (.two .no (.two .no (.two (.two .no (.two (.cut ⟨⟨[0, 4, 5, 7, 8, 9, 22, 23, 36, 37], [], [.s 38 (.dat (.int .i64)), .l (.sl 9) (.own 35 (.leaf 3))]⟩, [(.exit 2, ⟨[0, 4, 5, 7, 9, 22, 23], [], [.l (.sl 9) (.own 35 (.leaf 3))]⟩)]⟩ .no) .no)) .no))))) .no)) .no))) .no)) .no)) .no))))) [.slice (.slice (.leaf 3))] [.slice (.slice (.leaf 3)), .int .i64] (m) = Zoh m := by kernel_rfl
theorem ZLu : Zl Tryz.prog Z4k.1 Z4k.2 := Zq (C := ⟨Tryz.prog, [(31, 0), (33, 2), (35, 3), (39, 1), (41, 4)], [Zye, ZHd, ZOb, Z4g, ZAj, ZPd], [], [ZRg], [], [((35, "Neg"), 53)]⟩) ⟨ZZl, Zvj, Z1f, Zmp, ZNw, ZRk, trivial⟩ ⟨Zlr, trivial⟩ trivial ⟨Zyp, trivial⟩ (inl := [(150, Tryz.f150, .no)]) ⟨⟨Tryz.func150, fun _ _ => by kernel_rfl⟩, trivial⟩ (ann := (.two .no (.two .no (.two .no (.two .no (.two (.two .no (.two (.cut ⟨⟨[0, 4, 5, 22], [], [.s 7 (.own 26 (.slice (.leaf 3))), .s 23 (.dat (.int .i64))]⟩, [(.exit 0, ⟨[], [], [.s 7 (.own 26 (.slice (.leaf 3)))]⟩)]⟩ (.two (.two .no (.two .no (.two (.cut ⟨⟨[], [], []⟩, [(.norm, ⟨[0, 4, 5, 22, 23], [], [.s 7 (.own 26 (.slice (.leaf 3)))]⟩)]⟩ (.two (.two .no (.two .no (.two .no (.two .no (.two (.two .no (.two (.cut ⟨⟨[0, 4, 5, 7, 8, 9, 22, 23, 36, 37], [], [.s 38 (.dat (.int .i64)), .l (.sl 9) (.own 35 (.leaf 3))]⟩, [(.exit 2, ⟨[0, 4, 5, 7, 9, 22, 23], [], [.l (.sl 9) (.own 35 (.leaf 3))]⟩)]⟩ .no) .no)) .no))))) .no)) .no))) .no)) .no)) .no)))))) Tryz.func104 (fun _ _ => by kernel_rfl) rfl fun v vals x z ha hz => (Zgx x).trans hz
end Go.Eng
set_option maxRecDepth 100000
set_option maxHeartbeats 4000000
namespace Go.Eng
open Go.Proofs Go.RowKit
noncomputable def Zkd:FuncId×Con:=(105,⟨[.slice (.leaf 3),.slice (.leaf 3)],[.leaf 3],fun p=>Z5d p.1 p.2⟩)
theorem ldot_i (x : List Rat) (y : List Rat) : Zo ⟨Tryz.prog, [(31, 0), (33, 2), (35, 3), (39, 1), (41, 4)], [ZIb, ZKc, ZPd], [], [], [], [((35, "Add"), 12), ((35, "Mul"), 13)]⟩ [] Tryz.f105 (.two .no (.two .no (.two (.two .no (.two (.cut ⟨⟨[0, 1, 4, 5, 9], [], [.s 10 (.dat (.int .i64)), .l (.sl 5) (.box 35 (.dat (.leaf 3)))]⟩, [(.exit 0, ⟨[4, 5], [], [.l (.sl 5) (.box 35 (.dat (.leaf 3)))]⟩)]⟩ .no) .no)) .no))) [.slice (.leaf 3), .slice (.leaf 3)] [.leaf 3] (x, y) = Z5d x y := by kernel_rfl
theorem Zzl : Zl Tryz.prog Zkd.1 Zkd.2 := Zq (C := ⟨Tryz.prog, [(31, 0), (33, 2), (35, 3), (39, 1), (41, 4)], [ZIb, ZKc, ZPd], [], [], [], [((35, "Add"), 12), ((35, "Mul"), 13)]⟩) ⟨Zof, ZKi, ZRk, trivial⟩ trivial trivial ⟨Zxs, Zko, trivial⟩ (inl := []) trivial (ann := (.two .no (.two .no (.two (.two .no (.two (.cut ⟨⟨[0, 1, 4, 5, 9], [], [.s 10 (.dat (.int .i64)), .l (.sl 5) (.box 35 (.dat (.leaf 3)))]⟩, [(.exit 0, ⟨[4, 5], [], [.l (.sl 5) (.box 35 (.dat (.leaf 3)))]⟩)]⟩ .no) .no)) .no)))) Tryz.func105 (fun _ _ => by kernel_rfl) rfl fun v vals x z ha hz => (ldot_i x.1 x.2).trans hz
end Go.Eng
set_option maxRecDepth 100000
set_option maxHeartbeats 4000000
namespace Go.Eng
open Go.Proofs Go.RowKit
noncomputable def ZSg:FuncId×Con:=(57,⟨[.slice (.slice (.leaf 3)),.slice (.leaf 3)],[.bool,.slice (.leaf 3),.int .i64],fun p=>ZVg p.1 p.2⟩)
theorem ZKw (m : List (List Rat)) (c : List Rat) : Zo ⟨Tryz.prog, [(31, 0), (33, 2), (35, 3), (39, 1), (41, 4)], [ZBe, ZHd, ZOb, Z4k, Zkd], [], [], [], [((35, "Zero"), 16)]⟩ [] Tryz.f57 (.two .no (.two (.two (.cut ⟨⟨[], [], []⟩, [(.norm, ⟨[0, 1], [], [.s 20 (.dat .bool)]⟩)]⟩ .no) .no) (.two .no (.two (.two .no (.two (.cut ⟨⟨[1, 26, 27], [], [.s 28 (.dat (.int .i64))]⟩, [(.exit 0, ⟨[], [], []⟩), (.ret, ⟨[], [], [.s 0 (.dat .bool), .s 0 (.dat (.slice (.leaf 3))), .s 0 (.dat (.int .i64))]⟩)]⟩ .no) .no)) .no)))) [.slice (.slice (.leaf 3)), .slice (.leaf 3)] [.bool, .slice (.leaf 3), .int .i64] (m, c) = ZVg m c := by kernel_rfl
theorem Zpp : Zl Tryz.prog ZSg.1 ZSg.2 := Zq (C := ⟨Tryz.prog, [(31, 0), (33, 2), (35, 3), (39, 1), (41, 4)], [ZBe, ZHd, ZOb, Z4k, Zkd], [], [], [], [((35, "Zero"), 16)]⟩) ⟨ZLm, Zvj, Z1f, ZLu, Zzl, trivial⟩ trivial trivial ⟨Z6q, trivial⟩ (inl := []) trivial (ann := (.two .no (.two (.two (.cut ⟨⟨[], [], []⟩, [(.norm, ⟨[0, 1], [], [.s 20 (.dat .bool)]⟩)]⟩ .no) .no) (.two .no (.two (.two .no (.two (.cut ⟨⟨[1, 26, 27], [], [.s 28 (.dat (.int .i64))]⟩, [(.exit 0, ⟨[], [], []⟩), (.ret, ⟨[], [], [.s 0 (.dat .bool), .s 0 (.dat (.slice (.leaf 3))), .s 0 (.dat (.int .i64))]⟩)]⟩ .no) .no)) .no))))) Tryz.func57 (fun _ _ => by kernel_rfl) rfl fun v vals x z ha hz => (ZKw x.1 x.2).trans hz
end Go.Eng
set_option maxRecDepth 100000
set_option maxHeartbeats 4000000
namespace Go.Eng
open Go.Proofs Go.RowKit
noncomputable def Zjj:FuncId×Con:=(19,⟨[.pair (.int .i64) (.pair (.int .i64) (.pair (.int .i64) (.int .i64))),.slice (.pair (.int .i64) (.pair (.int .i64) (.pair (.int .i64) (.pair (.int .i64) (.leaf 3))))),.int .i64,.int .i64],[.bool,.slice (.leaf 3),.int .i64],fun p=>ZAi p.1 p.2.1 p.2.2.1 p.2.2.2⟩)
theorem Zht (z:Int×Int×Int×Int) (l:List (Int×Int×Int×Int×Rat)) (a:Int) (b:Int):Zo ⟨Tryz.prog,[(31,0),(33,2),(35,3),(39,1),(41,4)],[Zlg,ZSg],[],[],[],[]⟩ [] Tryz.f19 .no [.pair (.int .i64) (.pair (.int .i64) (.pair (.int .i64) (.int .i64))),.slice (.pair (.int .i64) (.pair (.int .i64) (.pair (.int .i64) (.pair (.int .i64) (.leaf 3))))),.int .i64,.int .i64] [.bool,.slice (.leaf 3),.int .i64] (z,l,a,b)=ZAi z l a b:=by kernel_rfl
theorem ZOr:Zl Tryz.prog Zjj.1 Zjj.2:=Zq (C:=⟨Tryz.prog,[(31,0),(33,2),(35,3),(39,1),(41,4)],[Zlg,ZSg],[],[],[],[]⟩) ⟨Zto,Zpp,trivial⟩ trivial trivial trivial (inl:=[]) trivial (ann:=.no) Tryz.func19 (fun _ _=>by kernel_rfl) rfl fun v vals x z ha hz=>(Zht x.1 x.2.1 x.2.2.1 x.2.2.2).trans hz
end Go.Eng
set_option maxRecDepth 100000
set_option maxHeartbeats 4000000
namespace Go.Eng
open Go.Proofs Go.RowKit
noncomputable def Zhk:FuncId×Con:=(20,⟨[.slice (.pair (.pair (.int .i64) (.pair (.int .i64) (.pair (.int .i64) (.int .i64)))) (.pair (.int .i64) (.int .i64)))],[.slice (.pair (.int .i64) (.pair (.int .i64) (.pair (.int .i64) (.pair (.int .i64) (.leaf 3))))),.slice (.pair (.pair (.int .i64) (.pair (.int .i64) (.pair (.int .i64) (.int .i64)))) (.leaf 4))],fun p=>Zci p⟩)
theorem legs8_i (l:List ((Int×Int×Int×Int)×Int×Int)):Zo ⟨Tryz.prog,[(31,0),(33,2),(35,3),(39,1),(41,4)],[Zdc,ZAd],[],[],[],[]⟩ [] Tryz.f20 (.two .no (.two .no (.two .no (.two (.two .no (.two (.cut ⟨⟨[8,9],[],[.s 4 (.own 53 (.pair (.int .i64) (.pair (.int .i64) (.pair (.int .i64) (.pair (.int .i64) (.leaf 3)))))),.s 5 (.own 125 (.pair (.pair (.int .i64) (.pair (.int .i64) (.pair (.int .i64) (.int .i64)))) (.leaf 4))),.s 10 (.dat (.int .i64))]⟩,[(.exit 0,⟨[],[],[.s 4 (.own 53 (.pair (.int .i64) (.pair (.int .i64) (.pair (.int .i64) (.pair (.int .i64) (.leaf 3)))))),.s 5 (.own 125 (.pair (.pair (.int .i64) (.pair (.int .i64) (.pair (.int .i64) (.int .i64)))) (.leaf 4)))]⟩)]⟩ .no) .no)) .no)))) [.slice (.pair (.pair (.int .i64) (.pair (.int .i64) (.pair (.int .i64) (.int .i64)))) (.pair (.int .i64) (.int .i64)))] [.slice (.pair (.int .i64) (.pair (.int .i64) (.pair (.int .i64) (.pair (.int .i64) (.leaf 3))))),.slice (.pair (.pair (.int .i64) (.pair (.int .i64) (.pair (.int .i64) (.int .i64)))) (.leaf 4))] (l)=Zci l:=by kernel_rfl
theorem legs8_k:Zl Tryz.prog Zhk.1 Zhk.2:=Zq (C:=⟨Tryz.prog,[(31,0),(33,2),(35,3),(39,1),(41,4)],[Zdc,ZAd],[],[],[],[]⟩) ⟨Zzg,Z0k,trivial⟩ trivial trivial trivial (inl:=[]) trivial (ann:=(.two .no (.two .no (.two .no (.two (.two .no (.two (.cut ⟨⟨[8,9],[],[.s 4 (.own 53 (.pair (.int .i64) (.pair (.int .i64) (.pair (.int .i64) (.pair (.int .i64) (.leaf 3)))))),.s 5 (.own 125 (.pair (.pair (.int .i64) (.pair (.int .i64) (.pair (.int .i64) (.int .i64)))) (.leaf 4))),.s 10 (.dat (.int .i64))]⟩,[(.exit 0,⟨[],[],[.s 4 (.own 53 (.pair (.int .i64) (.pair (.int .i64) (.pair (.int .i64) (.pair (.int .i64) (.leaf 3)))))),.s 5 (.own 125 (.pair (.pair (.int .i64) (.pair (.int .i64) (.pair (.int .i64) (.int .i64)))) (.leaf 4)))]⟩)]⟩ .no) .no)) .no))))) Tryz.func20 (fun _ _=>by kernel_rfl) rfl fun v vals x z ha hz=>(legs8_i x).trans hz
end Go.Eng
set_option maxRecDepth 100000
set_option maxHeartbeats 4000000
namespace Go.Eng
open Go.Proofs Go.RowKit
noncomputable def Zql:FuncId×Con:=(22,⟨[.pair (.int .i64) (.pair (.int .i64) (.pair (.int .i64) (.int .i64)))],[.pair (.int .i64) (.pair (.int .i64) (.pair (.int .i64) (.int .i64)))],fun p=>Zol p⟩)
theorem Zct (t:Int×Int×Int×Int):Zo ⟨Tryz.prog,[(31,0),(33,2),(35,3),(39,1),(41,4)],[],[],[],[],[]⟩ [] Tryz.f22 .no [.pair (.int .i64) (.pair (.int .i64) (.pair (.int .i64) (.int .i64)))] [.pair (.int .i64) (.pair (.int .i64) (.pair (.int .i64) (.int .i64)))] (t)=Zol t:=by kernel_rfl
theorem Zqx:Zl Tryz.prog Zql.1 Zql.2:=Zq (C:=⟨Tryz.prog,[(31,0),(33,2),(35,3),(39,1),(41,4)],[],[],[],[],[]⟩) trivial trivial trivial trivial (inl:=[]) trivial (ann:=.no) Tryz.func22 (fun _ _=>by kernel_rfl) rfl fun v vals x z ha hz=>(Zct x).trans hz
end Go.Eng
set_option maxRecDepth 100000
set_option maxHeartbeats 4000000
namespace Go.Eng
open Go.Proofs Go.RowKit
noncomputable def ZLj:FuncId×Con:=(222,⟨[.leaf 3],[.leaf 3],fun p=>Zgn p⟩)
theorem qconj_i (x:Rat):Zo ⟨Tryz.prog,[(31,0),(33,2),(35,3),(39,1),(41,4)],[],[],[],[],[]⟩ [] Tryz.f222 .no [.leaf 3] [.leaf 3] (x)=Zgn x:=by kernel_rfl
theorem qconj_k:Zl Tryz.prog ZLj.1 ZLj.2:=Zq (C:=⟨Tryz.prog,[(31,0),(33,2),(35,3),(39,1),(41,4)],[],[],[],[],[]⟩) trivial trivial trivial trivial (inl:=[]) trivial (ann:=.no) Tryz.func222 (fun _ _=>by kernel_rfl) rfl fun v vals x z ha hz=>(qconj_i x).trans hz
end Go.Eng
set_option maxRecDepth 100000
set_option maxHeartbeats 4000000
namespace Go.Eng
open Go.Proofs Go.RowKit
noncomputable def ZMj:FuncId×Con:=(135,⟨[.leaf 3],[.leaf 3],fun p=>Z2i p⟩)
theorem lconj_i (x : Rat) : Zo ⟨Tryz.prog, [(31, 0), (33, 2), (35, 3), (39, 1), (41, 4)], [ZLj], [], [], [], [((35, "Conj"), 222)]⟩ [] Tryz.f135 .no [.leaf 3] [.leaf 3] (x) = Z2i x := by kernel_rfl
theorem lconj_k : Zl Tryz.prog ZMj.1 ZMj.2 := Zq (C := ⟨Tryz.prog, [(31, 0), (33, 2), (35, 3), (39, 1), (41, 4)], [ZLj], [], [], [], [((35, "Conj"), 222)]⟩) ⟨qconj_k, trivial⟩ trivial trivial ⟨Zmv, trivial⟩ (inl := []) trivial (ann := .no) Tryz.func135 (fun _ _ => by kernel_rfl) rfl fun v vals x z ha hz => (lconj_i x).trans hz
end Go.Eng
set_option maxRecDepth 100000
set_option maxHeartbeats 4000000
namespace Go.Eng
open Go.Proofs Go.RowKit
noncomputable def Z0j:FuncId×Con:=(178,⟨[.leaf 3],[.leaf 3],fun p=>Zuj p⟩)
theorem Z8w (x:Rat):Zo ⟨Tryz.prog,[(31,0),(33,2),(35,3),(39,1),(41,4)],[],[],[],[],[]⟩ [] Tryz.f178 .no [.leaf 3] [.leaf 3] (x)=Zuj x:=by kernel_rfl
theorem Zou:Zl Tryz.prog Z0j.1 Z0j.2:=Zq (C:=⟨Tryz.prog,[(31,0),(33,2),(35,3),(39,1),(41,4)],[],[],[],[],[]⟩) trivial trivial trivial trivial (inl:=[]) trivial (ann:=.no) Tryz.func178 (fun _ _=>by kernel_rfl) rfl fun v vals x z ha hz=>(Z8w x).trans hz
end Go.Eng
set_option maxRecDepth 100000
set_option maxHeartbeats 4000000
namespace Go.Eng
open Go.Proofs Go.RowKit
noncomputable def Zhj:FuncId×Con:=(136,⟨[.slice (.slice (.leaf 3)),.slice (.slice (.leaf 3))],[.slice (.slice (.leaf 3))],fun p=>Zhi p.1 p.2⟩)
theorem ZOt (a:List (List Rat)) (b:List (List Rat)):Zo ⟨Tryz.prog,[(31,0),(33,2),(35,3),(39,1),(41,4)],[ZOb,Zkd,Z0j],[12,15],[],[],[]⟩ [(134,Tryz.f134,.cut ⟨⟨[],[],[]⟩,[(.ret,⟨[],[],[.s 0 (.dat (.slice (.slice (.leaf 3))))]⟩)]⟩ (.two .no (.two .no (.two (.two .no (.two (.cut ⟨⟨[1,5,13,14],[],[.s 15 (.dat (.int .i64)),.l (.sl 5) (.mat 26 35 (.leaf 3))]⟩,[(.exit 0,⟨[5],[],[.l (.sl 5) (.mat 26 35 (.leaf 3))]⟩)]⟩ (.two (.two .no (.two .no (.two (.two (.two .no (.two .no (.two (.cut ⟨⟨[1,5,13,14,15,19,20],[],[.s 21 (.dat (.int .i64)),.l (.sl 5) (.mat 26 35 (.leaf 3))]⟩,[(.exit 2,⟨[1,5,13,14,15],[],[.l (.sl 5) (.mat 26 35 (.leaf 3))]⟩)]⟩ .no) .no))) .no) .no))) .no)) .no)) .no))))] Tryz.f136 (.two .no (.two .no (.two .no (.two (.two .no (.two (.cut ⟨⟨[5,6,16,17],[],[.s 18 (.dat (.int .i64)),.l (.sl 6) (.mat 26 35 (.leaf 3))]⟩,[(.exit 0,⟨[6],[],[.l (.sl 6) (.mat 26 35 (.leaf 3))]⟩)]⟩ (.two (.two .no (.two .no (.two (.two (.two .no (.two .no (.two (.cut ⟨⟨[5,6,7,8,16,17,18,23,24],[],[.s 25 (.dat (.int .i64)),.l (.sl 6) (.mat 26 35 (.leaf 3))]⟩,[(.exit 2,⟨[5,6,16,17,18],[],[.l (.sl 6) (.mat 26 35 (.leaf 3))]⟩)]⟩ .no) .no))) .no) .no))) .no)) .no)) .no)))) [.slice (.slice (.leaf 3)),.slice (.slice (.leaf 3))] [.slice (.slice (.leaf 3))] (a,b)=Zhi a b:=by kernel_rfl
theorem ZEu:Zl Tryz.prog Zhj.1 Zhj.2:=Zq (C:=⟨Tryz.prog,[(31,0),(33,2),(35,3),(39,1),(41,4)],[ZOb,Zkd,Z0j],[12,15],[],[],[]⟩) ⟨Z1f,Zzl,Zou,trivial⟩ trivial trivial trivial (inl:=[(134,Tryz.f134,.cut ⟨⟨[],[],[]⟩,[(.ret,⟨[],[],[.s 0 (.dat (.slice (.slice (.leaf 3))))]⟩)]⟩ (.two .no (.two .no (.two (.two .no (.two (.cut ⟨⟨[1,5,13,14],[],[.s 15 (.dat (.int .i64)),.l (.sl 5) (.mat 26 35 (.leaf 3))]⟩,[(.exit 0,⟨[5],[],[.l (.sl 5) (.mat 26 35 (.leaf 3))]⟩)]⟩ (.two (.two .no (.two .no (.two (.two (.two .no (.two .no (.two (.cut ⟨⟨[1,5,13,14,15,19,20],[],[.s 21 (.dat (.int .i64)),.l (.sl 5) (.mat 26 35 (.leaf 3))]⟩,[(.exit 2,⟨[1,5,13,14,15],[],[.l (.sl 5) (.mat 26 35 (.leaf 3))]⟩)]⟩ .no) .no))) .no) .no))) .no)) .no)) .no))))]) ⟨⟨Tryz.func134,fun _ _=>by kernel_rfl⟩,trivial⟩ (ann:=(.two .no (.two .no (.two .no (.two (.two .no (.two (.cut ⟨⟨[5,6,16,17],[],[.s 18 (.dat (.int .i64)),.l (.sl 6) (.mat 26 35 (.leaf 3))]⟩,[(.exit 0,⟨[6],[],[.l (.sl 6) (.mat 26 35 (.leaf 3))]⟩)]⟩ (.two (.two .no (.two .no (.two (.two (.two .no (.two .no (.two (.cut ⟨⟨[5,6,7,8,16,17,18,23,24],[],[.s 25 (.dat (.int .i64)),.l (.sl 6) (.mat 26 35 (.leaf 3))]⟩,[(.exit 2,⟨[5,6,16,17,18],[],[.l (.sl 6) (.mat 26 35 (.leaf 3))]⟩)]⟩ .no) .no))) .no) .no))) .no)) .no)) .no))))) Tryz.func136 (fun _ _=>by kernel_rfl) rfl fun v vals x z ha hz=>(ZOt x.1 x.2).trans hz
end Go.Eng
set_option maxRecDepth 100000
set_option maxHeartbeats 4000000
namespace Go.Eng
open Go.Proofs Go.RowKit
noncomputable def Zyk:FuncId×Con:=(137,⟨[.slice (.slice (.leaf 3)),.slice (.leaf 3)],[.slice (.leaf 3)],fun p=>ZVh p.1 p.2⟩)
theorem Zvu (m:List (List Rat)) (x:List Rat):Zo ⟨Tryz.prog,[(31,0),(33,2),(35,3),(39,1),(41,4)],[Zkd],[],[],[],[]⟩ [] Tryz.f137 (.two .no (.two .no (.two (.two .no (.two (.cut ⟨⟨[1,8,9],[],[.s 5 (.own 35 (.leaf 3)),.s 10 (.dat (.int .i64))]⟩,[(.exit 0,⟨[],[],[.s 5 (.own 35 (.leaf 3))]⟩)]⟩ .no) .no)) .no))) [.slice (.slice (.leaf 3)),.slice (.leaf 3)] [.slice (.leaf 3)] (m,x)=ZVh m x:=by kernel_rfl
theorem ZRr:Zl Tryz.prog Zyk.1 Zyk.2:=Zq (C:=⟨Tryz.prog,[(31,0),(33,2),(35,3),(39,1),(41,4)],[Zkd],[],[],[],[]⟩) ⟨Zzl,trivial⟩ trivial trivial trivial (inl:=[]) trivial (ann:=(.two .no (.two .no (.two (.two .no (.two (.cut ⟨⟨[1,8,9],[],[.s 5 (.own 35 (.leaf 3)),.s 10 (.dat (.int .i64))]⟩,[(.exit 0,⟨[],[],[.s 5 (.own 35 (.leaf 3))]⟩)]⟩ .no) .no)) .no)))) Tryz.func137 (fun _ _=>by kernel_rfl) rfl fun v vals x z ha hz=>(Zvu x.1 x.2).trans hz
end Go.Eng
set_option maxRecDepth 100000
set_option maxHeartbeats 4000000
namespace Go.Eng
open Go.Proofs Go.RowKit
noncomputable def ZDk:FuncId×Con:=(82,⟨[.slice (.slice (.leaf 3)),.slice (.leaf 3)],[.slice (.slice (.leaf 3)),.slice (.leaf 3)],fun p=>ZJi p.1 p.2⟩)
theorem Zpv (m:List (List Rat)) (b:List Rat):Zo ⟨Tryz.prog,[(31,0),(33,2),(35,3),(39,1),(41,4)],[ZOb,ZMj,Zhj,Zyk],[12],[],[],[]⟩ [(134,Tryz.f134,.cut ⟨⟨[],[],[]⟩,[(.ret,⟨[],[],[.s 0 (.dat (.slice (.slice (.leaf 3))))]⟩)]⟩ (.two .no (.two .no (.two (.two .no (.two (.cut ⟨⟨[1,5,13,14],[],[.s 15 (.dat (.int .i64)),.l (.sl 5) (.mat 26 35 (.leaf 3))]⟩,[(.exit 0,⟨[5],[],[.l (.sl 5) (.mat 26 35 (.leaf 3))]⟩)]⟩ (.two (.two .no (.two .no (.two (.two (.two .no (.two .no (.two (.cut ⟨⟨[1,5,13,14,15,19,20],[],[.s 21 (.dat (.int .i64)),.l (.sl 5) (.mat 26 35 (.leaf 3))]⟩,[(.exit 2,⟨[1,5,13,14,15],[],[.l (.sl 5) (.mat 26 35 (.leaf 3))]⟩)]⟩ .no) .no))) .no) .no))) .no)) .no)) .no))))] Tryz.f82 .no [.slice (.slice (.leaf 3)),.slice (.leaf 3)] [.slice (.slice (.leaf 3)),.slice (.leaf 3)] (m,b)=ZJi m b:=by kernel_rfl
theorem Zev:Zl Tryz.prog ZDk.1 ZDk.2:=Zq (C:=⟨Tryz.prog,[(31,0),(33,2),(35,3),(39,1),(41,4)],[ZOb,ZMj,Zhj,Zyk],[12],[],[],[]⟩) ⟨Z1f,lconj_k,ZEu,ZRr,trivial⟩ trivial trivial trivial (inl:=[(134,Tryz.f134,.cut ⟨⟨[],[],[]⟩,[(.ret,⟨[],[],[.s 0 (.dat (.slice (.slice (.leaf 3))))]⟩)]⟩ (.two .no (.two .no (.two (.two .no (.two (.cut ⟨⟨[1,5,13,14],[],[.s 15 (.dat (.int .i64)),.l (.sl 5) (.mat 26 35 (.leaf 3))]⟩,[(.exit 0,⟨[5],[],[.l (.sl 5) (.mat 26 35 (.leaf 3))]⟩)]⟩ (.two (.two .no (.two .no (.two (.two (.two .no (.two .no (.two (.cut ⟨⟨[1,5,13,14,15,19,20],[],[.s 21 (.dat (.int .i64)),.l (.sl 5) (.mat 26 35 (.leaf 3))]⟩,[(.exit 2,⟨[1,5,13,14,15],[],[.l (.sl 5) (.mat 26 35 (.leaf 3))]⟩)]⟩ .no) .no))) .no) .no))) .no)) .no)) .no))))]) ⟨⟨Tryz.func134,fun _ _=>by kernel_rfl⟩,trivial⟩ (ann:=.no) Tryz.func82 (fun _ _=>by kernel_rfl) rfl fun v vals x z ha hz=>(Zpv x.1 x.2).trans hz
end Go.Eng
set_option maxRecDepth 100000
set_option maxHeartbeats 4000000
namespace Go.Eng
open Go.Proofs Go.RowKit
noncomputable def ZTj:FuncId×Con:=(153,⟨[.slice (.slice (.leaf 3)),.slice (.slice (.leaf 3))],[.slice (.slice (.leaf 3))],fun p=>ZBh p.1 p.2⟩)
theorem Zow (m:List (List Rat)) (b:List (List Rat)):Zo ⟨Tryz.prog,[(31,0),(33,2),(35,3),(39,1),(41,4)],[],[8],[Zdh],[],[]⟩ [(184,Tryz.f184,.two .no (.two .no (.two (.two .no (.two (.cut ⟨⟨[3,9,10],[],[.s 11 (.dat (.int .i64)),.l (.sl 3) (.mat 26 35 (.leaf 3))]⟩,[(.exit 0,⟨[3],[],[.l (.sl 3) (.mat 26 35 (.leaf 3))]⟩)]⟩ .no) .no)) .no)))] Tryz.f153 (.two .no (.two .no (.two (.two .no (.two (.cut ⟨⟨[1,5,10],[],[.s 11 (.dat (.int .i64)),.l (.sl 5) (.mat 26 35 (.leaf 3))]⟩,[(.exit 0,⟨[5],[],[.l (.sl 5) (.mat 26 35 (.leaf 3))]⟩)]⟩ .no) .no)) .no))) [.slice (.slice (.leaf 3)),.slice (.slice (.leaf 3))] [.slice (.slice (.leaf 3))] (m,b)=ZBh m b:=by kernel_rfl
theorem Zzs:Zl Tryz.prog ZTj.1 ZTj.2:=Zq (C:=⟨Tryz.prog,[(31,0),(33,2),(35,3),(39,1),(41,4)],[],[8],[Zdh],[],[]⟩) trivial ⟨ZQp,trivial⟩ trivial trivial (inl:=[(184,Tryz.f184,.two .no (.two .no (.two (.two .no (.two (.cut ⟨⟨[3,9,10],[],[.s 11 (.dat (.int .i64)),.l (.sl 3) (.mat 26 35 (.leaf 3))]⟩,[(.exit 0,⟨[3],[],[.l (.sl 3) (.mat 26 35 (.leaf 3))]⟩)]⟩ .no) .no)) .no)))]) ⟨⟨Tryz.func184,fun _ _=>by kernel_rfl⟩,trivial⟩ (ann:=(.two .no (.two .no (.two (.two .no (.two (.cut ⟨⟨[1,5,10],[],[.s 11 (.dat (.int .i64)),.l (.sl 5) (.mat 26 35 (.leaf 3))]⟩,[(.exit 0,⟨[5],[],[.l (.sl 5) (.mat 26 35 (.leaf 3))]⟩)]⟩ .no) .no)) .no)))) Tryz.func153 (fun _ _=>by kernel_rfl) rfl fun v vals x z ha hz=>(Zow x.1 x.2).trans hz
end Go.Eng
set_option maxRecDepth 100000
set_option maxHeartbeats 4000000
namespace Go.Eng
open Go.Proofs Go.RowKit
noncomputable def ZBl:FuncId×Con:=(154,⟨[.slice (.leaf 3)],[.slice (.slice (.leaf 3))],fun p=>ZJh p⟩)
theorem ZQr (b:List Rat):Zo ⟨Tryz.prog,[(31,0),(33,2),(35,3),(39,1),(41,4)],[],[8],[],[],[]⟩ [] Tryz.f154 (.two .no (.two .no (.two (.two .no (.two (.cut ⟨⟨[3,9,10],[],[.s 11 (.dat (.int .i64)),.l (.sl 3) (.mat 26 35 (.leaf 3))]⟩,[(.exit 0,⟨[3],[],[.l (.sl 3) (.mat 26 35 (.leaf 3))]⟩)]⟩ .no) .no)) .no))) [.slice (.leaf 3)] [.slice (.slice (.leaf 3))] (b)=ZJh b:=by kernel_rfl
theorem ZXv:Zl Tryz.prog ZBl.1 ZBl.2:=Zq (C:=⟨Tryz.prog,[(31,0),(33,2),(35,3),(39,1),(41,4)],[],[8],[],[],[]⟩) trivial trivial trivial trivial (inl:=[]) trivial (ann:=(.two .no (.two .no (.two (.two .no (.two (.cut ⟨⟨[3,9,10],[],[.s 11 (.dat (.int .i64)),.l (.sl 3) (.mat 26 35 (.leaf 3))]⟩,[(.exit 0,⟨[3],[],[.l (.sl 3) (.mat 26 35 (.leaf 3))]⟩)]⟩ .no) .no)) .no)))) Tryz.func154 (fun _ _=>by kernel_rfl) rfl fun v vals x z ha hz=>(ZQr x).trans hz
end Go.Eng
set_option maxRecDepth 100000
set_option maxHeartbeats 4000000
namespace Go.Eng
open Go.Proofs Go.RowKit
noncomputable def Z6k:FuncId×Con:=(108,⟨[.slice (.slice (.leaf 3)),.slice (.leaf 3)],[.slice (.leaf 3),.int .i64],fun p=>Zrh p.1 p.2⟩)
theorem Any_i (m:List (List Rat)) (b:List Rat):Zo ⟨Tryz.prog,[(31,0),(33,2),(35,3),(39,1),(41,4)],[ZHd,ZOb,Z4g,ZPd,ZTj,ZBl],[],[ZRg],[],[]⟩ [(150,Tryz.f150,.no)] Tryz.f108 (.two .no (.two (.two (.cut ⟨⟨[],[],[]⟩,[(.norm,⟨[0,1],[],[.s 23 (.dat .bool)]⟩)]⟩ .no) .no) (.two .no (.two .no (.two (.two .no (.two (.cut ⟨⟨[],[],[]⟩,[(.norm,⟨[6,7,8],[],[.s 47 (.dat .bool)]⟩)]⟩ .no) .no)) (.two .no (.two (.two .no (.two (.cut ⟨⟨[6,7,11,50,51],[],[.s 52 (.dat (.int .i64)),.l (.sl 11) (.own 35 (.leaf 3))]⟩,[(.exit 0,⟨[11],[],[.l (.sl 11) (.own 35 (.leaf 3))]⟩)]⟩ .no) .no)) .no))))))) [.slice (.slice (.leaf 3)),.slice (.leaf 3)] [.slice (.leaf 3),.int .i64] (m,b)=Zrh m b:=by kernel_rfl
theorem Any_k:Zl Tryz.prog Z6k.1 Z6k.2:=Zq (C:=⟨Tryz.prog,[(31,0),(33,2),(35,3),(39,1),(41,4)],[ZHd,ZOb,Z4g,ZPd,ZTj,ZBl],[],[ZRg],[],[]⟩) ⟨Zvj,Z1f,Zmp,ZRk,Zzs,ZXv,trivial⟩ ⟨Zlr,trivial⟩ trivial trivial (inl:=[(150,Tryz.f150,.no)]) ⟨⟨Tryz.func150,fun _ _=>by kernel_rfl⟩,trivial⟩ (ann:=(.two .no (.two (.two (.cut ⟨⟨[],[],[]⟩,[(.norm,⟨[0,1],[],[.s 23 (.dat .bool)]⟩)]⟩ .no) .no) (.two .no (.two .no (.two (.two .no (.two (.cut ⟨⟨[],[],[]⟩,[(.norm,⟨[6,7,8],[],[.s 47 (.dat .bool)]⟩)]⟩ .no) .no)) (.two .no (.two (.two .no (.two (.cut ⟨⟨[6,7,11,50,51],[],[.s 52 (.dat (.int .i64)),.l (.sl 11) (.own 35 (.leaf 3))]⟩,[(.exit 0,⟨[11],[],[.l (.sl 11) (.own 35 (.leaf 3))]⟩)]⟩ .no) .no)) .no)))))))) Tryz.func108 (fun _ _=>by kernel_rfl) rfl fun v vals x z ha hz=>(Any_i x.1 x.2).trans hz
end Go.Eng
set_option maxRecDepth 100000
set_option maxHeartbeats 4000000
namespace Go.Eng
open Go.Proofs Go.RowKit
noncomputable def Zyl:FuncId×Con:=(62,⟨[.slice (.slice (.leaf 3)),.slice (.leaf 3),.slice (.leaf 3)],[.leaf 3,.int .i64],fun p=>Zwf p.1 p.2.1 p.2.2⟩)
theorem Z6r (m:List (List Rat)) (b:List Rat) (c:List Rat):Zo ⟨Tryz.prog,[(31,0),(33,2),(35,3),(39,1),(41,4)],[ZSg,ZHd,ZOb,ZDk,Zkd,Z6k],[],[],[],[]⟩ [] Tryz.f62 (.two .no (.two .no (.two (.two (.cut ⟨⟨[],[],[]⟩,[(.norm,⟨[0,1,2,6,8],[],[.s 30 (.dat .bool)]⟩)]⟩ .no) .no) .no))) [.slice (.slice (.leaf 3)),.slice (.leaf 3),.slice (.leaf 3)] [.leaf 3,.int .i64] (m,b,c)=Zwf m b c:=by kernel_rfl
theorem Zpu:Zl Tryz.prog Zyl.1 Zyl.2:=Zq (C:=⟨Tryz.prog,[(31,0),(33,2),(35,3),(39,1),(41,4)],[ZSg,ZHd,ZOb,ZDk,Zkd,Z6k],[],[],[],[]⟩) ⟨Zpp,Zvj,Z1f,Zev,Zzl,Any_k,trivial⟩ trivial trivial trivial (inl:=[]) trivial (ann:=(.two .no (.two .no (.two (.two (.cut ⟨⟨[],[],[]⟩,[(.norm,⟨[0,1,2,6,8],[],[.s 30 (.dat .bool)]⟩)]⟩ .no) .no) .no)))) Tryz.func62 (fun _ _=>by kernel_rfl) rfl fun v vals x z ha hz=>(Z6r x.1 x.2.1 x.2.2).trans hz
end Go.Eng
set_option maxRecDepth 100000
set_option maxHeartbeats 4000000
namespace Go.Eng
open Go.Proofs Go.RowKit
noncomputable def ZYi:FuncId×Con:=(23,⟨[.pair (.int .i64) (.pair (.int .i64) (.pair (.int .i64) (.int .i64))),.slice (.pair (.int .i64) (.pair (.int .i64) (.pair (.int .i64) (.pair (.int .i64) (.leaf 3))))),.int .i64,.int .i64],[.leaf 3,.int .i64],fun p=>Zeb p.1 p.2.1 p.2.2.1 p.2.2.2⟩)
theorem Zbw (z:Int×Int×Int×Int) (l:List (Int×Int×Int×Int×Rat)) (a:Int) (b:Int):Zo ⟨Tryz.prog,[(31,0),(33,2),(35,3),(39,1),(41,4)],[Zlg,Zyl],[],[],[],[]⟩ [] Tryz.f23 (.two .no (.two .no (.two .no (.two .no (.two (.two .no (.two (.cut ⟨⟨[8,10,11,29,30],[],[.s 13 (.own 35 (.leaf 3)),.s 31 (.dat (.int .i64))]⟩,[(.exit 0,⟨[8,10,11],[],[.s 13 (.own 35 (.leaf 3))]⟩)]⟩ .no) .no)) .no))))) [.pair (.int .i64) (.pair (.int .i64) (.pair (.int .i64) (.int .i64))),.slice (.pair (.int .i64) (.pair (.int .i64) (.pair (.int .i64) (.pair (.int .i64) (.leaf 3))))),.int .i64,.int .i64] [.leaf 3,.int .i64] (z,l,a,b)=Zeb z l a b:=by kernel_rfl
theorem Z0w:Zl Tryz.prog ZYi.1 ZYi.2:=Zq (C:=⟨Tryz.prog,[(31,0),(33,2),(35,3),(39,1),(41,4)],[Zlg,Zyl],[],[],[],[]⟩) ⟨Zto,Zpu,trivial⟩ trivial trivial trivial (inl:=[]) trivial (ann:=(.two .no (.two .no (.two .no (.two .no (.two (.two .no (.two (.cut ⟨⟨[8,10,11,29,30],[],[.s 13 (.own 35 (.leaf 3)),.s 31 (.dat (.int .i64))]⟩,[(.exit 0,⟨[8,10,11],[],[.s 13 (.own 35 (.leaf 3))]⟩)]⟩ .no) .no)) .no)))))) Tryz.func23 (fun _ _=>by kernel_rfl) rfl fun v vals x z ha hz=>(Zbw x.1 x.2.1 x.2.2.1 x.2.2.2).trans hz
end Go.Eng
set_option maxRecDepth 100000
set_option maxHeartbeats 4000000
namespace Go.Eng
open Go.Proofs Go.RowKit
noncomputable def Zgj:FuncId×Con:=(24,⟨[.pair (.int .i64) (.pair (.int .i64) (.pair (.int .i64) (.int .i64))),.slice (.pair (.pair (.int .i64) (.pair (.int .i64) (.pair (.int .i64) (.int .i64)))) (.leaf 4))],[.int .i64],fun p=>Z3h p.1 p.2⟩)
theorem Z1u (t:Int×Int×Int×Int) (l:List ((Int×Int×Int×Int)×Rat)):Zo ⟨Tryz.prog,[(31,0),(33,2),(35,3),(39,1),(41,4)],[],[],[],[],[]⟩ [] Tryz.f24 (.two .no (.two (.two .no (.two (.unroll 5 (.two (.two .no (.two (.two (.two (.cut ⟨⟨[],[],[]⟩,[(.norm,⟨[1,2,5],[],[.s 21 (.dat .bool)]⟩)]⟩ .no) .no) .no) .no)) .no)) .no)) (.two (.two (.cut ⟨⟨[],[],[]⟩,[(.norm,⟨[1,2],[],[.s 29 (.dat .bool)]⟩)]⟩ .no) .no) (.two (.two .no (.two (.cut ⟨⟨[1,2],[],[.s 6 (.dat (.int .i64))]⟩,[(.exit 2,⟨[],[],[]⟩),(.ret,⟨[],[],[.s 0 (.dat (.int .i64))]⟩)]⟩ (.two (.two .no (.two (.two (.two .no (.two (.unroll 5 (.two (.two .no (.two (.two (.two (.cut ⟨⟨[],[],[]⟩,[(.norm,⟨[1,2,6,7],[],[.s 60 (.dat .bool)]⟩)]⟩ .no) .no) .no) .no)) .no)) .no)) .no) .no)) .no)) .no)) .no)))) [.pair (.int .i64) (.pair (.int .i64) (.pair (.int .i64) (.int .i64))),.slice (.pair (.pair (.int .i64) (.pair (.int .i64) (.pair (.int .i64) (.int .i64)))) (.leaf 4))] [.int .i64] (t,l)=Z3h t l:=by kernel_rfl
theorem Zov:Zl Tryz.prog Zgj.1 Zgj.2:=Zq (C:=⟨Tryz.prog,[(31,0),(33,2),(35,3),(39,1),(41,4)],[],[],[],[],[]⟩) trivial trivial trivial trivial (inl:=[]) trivial (ann:=(.two .no (.two (.two .no (.two (.unroll 5 (.two (.two .no (.two (.two (.two (.cut ⟨⟨[],[],[]⟩,[(.norm,⟨[1,2,5],[],[.s 21 (.dat .bool)]⟩)]⟩ .no) .no) .no) .no)) .no)) .no)) (.two (.two (.cut ⟨⟨[],[],[]⟩,[(.norm,⟨[1,2],[],[.s 29 (.dat .bool)]⟩)]⟩ .no) .no) (.two (.two .no (.two (.cut ⟨⟨[1,2],[],[.s 6 (.dat (.int .i64))]⟩,[(.exit 2,⟨[],[],[]⟩),(.ret,⟨[],[],[.s 0 (.dat (.int .i64))]⟩)]⟩ (.two (.two .no (.two (.two (.two .no (.two (.unroll 5 (.two (.two .no (.two (.two (.two (.cut ⟨⟨[],[],[]⟩,[(.norm,⟨[1,2,6,7],[],[.s 60 (.dat .bool)]⟩)]⟩ .no) .no) .no) .no)) .no)) .no)) .no) .no)) .no)) .no)) .no))))) Tryz.func24 (fun _ _=>by kernel_rfl) rfl fun v vals x z ha hz=>(Z1u x.1 x.2).trans hz
end Go.Eng
set_option maxRecDepth 100000
set_option maxHeartbeats 4000000
namespace Go.Eng
open Go.Proofs Go.RowKit
theorem free8_i (t:Int×Int×Int×Int) (l:List ((Int×Int×Int×Int)×Int×Int)) (pick:Int×Int×Int×Int×Int) (eff:List (Int×Int)) (more:Int×Int):Zo ⟨Tryz.prog,[(31,0),(33,2),(35,3),(39,1),(41,4)],[ZIj,ZIb,ZLb,Zdc,Zdj,Zjj,Zhk,Zql,ZYi,Zgj],[200134,200159],[],[],[]⟩ [] Tryz.f6 (.two .no (.two .no (.two (.two (.cut ⟨⟨[],[],[]⟩,[(.norm,⟨[1,3,5,7,9,11],[],[.s 67 (.dat .bool)]⟩)]⟩ .no) .no) (.two .no (.two .no (.two .no (.two .no (.two (.two (.cut ⟨⟨[],[],[]⟩,[(.norm,⟨[1,3,5,7,9,11,13,14,15,16,17,19],[],[.s 121 (.dat .bool)]⟩)]⟩ .no) .no) (.two .no (.two .no (.two (.cut ⟨⟨[],[],[]⟩,[(.norm,⟨[1,3,5,9,11,13,14,15,16,17,22],[],[.s 23 (.dat (.int .i64))]⟩)]⟩ .no) (.two .no (.two (.two .no (.two (.cut ⟨⟨[1,3,5,9,11,13,14,15,16,17,22,23,138],[],[.s 24 (.own 53 (.pair (.int .i64) (.pair (.int .i64) (.pair (.int .i64) (.pair (.int .i64) (.leaf 3)))))),.s 25 (.own 53 (.pair (.int .i64) (.pair (.int .i64) (.pair (.int .i64) (.pair (.int .i64) (.leaf 3)))))),.s 26 (.own 53 (.pair (.int .i64) (.pair (.int .i64) (.pair (.int .i64) (.pair (.int .i64) (.leaf 3)))))),.s 139 (.dat (.int .i64))]⟩,[(.exit 0,⟨[3,9,11,13,14,15,16,17],[],[.s 24 (.own 53 (.pair (.int .i64) (.pair (.int .i64) (.pair (.int .i64) (.pair (.int .i64) (.leaf 3)))))),.s 25 (.own 53 (.pair (.int .i64) (.pair (.int .i64) (.pair (.int .i64) (.pair (.int .i64) (.leaf 3)))))),.s 26 (.own 53 (.pair (.int .i64) (.pair (.int .i64) (.pair (.int .i64) (.pair (.int .i64) (.leaf 3))))))]⟩)]⟩ (.two (.two .no (.two .no (.two (.two (.two .no (.two .no (.two (.two (.cut ⟨⟨[],[],[]⟩,[(.norm,⟨[1,3,5,9,11,13,14,15,16,17,22,23,24,25,26,28,29,30,138,139],[],[.s 162 (.dat .bool)]⟩)]⟩ .no) (.cut ⟨⟨[],[],[]⟩,[(.norm,⟨[1,3,5,9,11,13,14,15,16,17,22,23,24,25,26,28,29,30,138,139],[],[.l (.sl 28) (.box 53 (.dat (.pair (.int .i64) (.pair (.int .i64) (.pair (.int .i64) (.pair (.int .i64) (.leaf 3)))))))]⟩)]⟩ .no)) (.two (.two .no (.cut ⟨⟨[],[],[]⟩,[(.norm,⟨[1,3,5,9,11,13,14,15,16,17,22,23,24,25,26,28,29,30,138,139],[],[.l (.sl 29) (.box 53 (.dat (.pair (.int .i64) (.pair (.int .i64) (.pair (.int .i64) (.pair (.int .i64) (.leaf 3)))))))]⟩)]⟩ .no)) .no)))) .no) .no))) .no)) .no)) (.two .no (.two .no (.two .no (.two .no (.two (.two .no (.cut ⟨⟨[],[],[]⟩,[(.norm,⟨[3,11,13,14,15,16,17,18,21,31,32,33,34,35],[],[.l (.sl 35) (.box 35 (.dat (.leaf 3)))]⟩)]⟩ .no)) (.two (.two (.cut ⟨⟨[],[],[]⟩,[(.norm,⟨[11,13,14,15,16,17],[],[.s 302 (.dat .bool)]⟩)]⟩ .no) .no) (.two .no (.two .no (.two (.cut ⟨⟨[],[],[]⟩,[(.norm,⟨[],[],[.s 10 (.dat .bool)]⟩)]⟩ .no) .no)))))))))))))))))))))) [.pair (.int .i64) (.pair (.int .i64) (.pair (.int .i64) (.int .i64))),.slice (.pair (.pair (.int .i64) (.pair (.int .i64) (.pair (.int .i64) (.int .i64)))) (.pair (.int .i64) (.int .i64))),.pair (.int .u8) (.pair (.int .u8) (.pair (.int .u8) (.pair (.int .u8) (.int .u8)))),.slice (.pair (.int .i64) (.int .i64)),.pair (.int .i64) (.int .i64)] [.bool] (t,l,pick,eff,more)=ZUk t l pick eff more:=by kernel_rfl
theorem free8_w {w0:World} {v0:Zb} (hv:VIn v0 w0) {c0:List Value} {t:(Int×Int×Int×Int)} (p0:Rep.rel (Zt (Zd .i64) (Zt (Zd .i64) (Zt (Zd .i64) (Zd .i64)))) v0 c0 t) {c1:List Value} {l:(List ((Int×Int×Int×Int)×(Int×Int)))} (p1:Rep.rel (Zz (Zt (Zt (Zd .i64) (Zt (Zd .i64) (Zt (Zd .i64) (Zd .i64)))) (Zt (Zd .i64) (Zd .i64)))) v0 c1 l) {c2:List Value} {pick:(Int×Int×Int×Int×Int)} (p2:Rep.rel (Zt (Zd .u8) (Zt (Zd .u8) (Zt (Zd .u8) (Zt (Zd .u8) (Zd .u8))))) v0 c2 pick) {c3:List Value} {eff:(List (Int×Int))} (p3:Rep.rel (Zz (Zt (Zd .i64) (Zd .i64))) v0 c3 eff) {c4:List Value} {more:(Int×Int)} (p4:Rep.rel (Zt (Zd .i64) (Zd .i64)) v0 c4 more) {z:Bool} (hm:ZUk t l pick eff more=some z):Ret Tryz.prog 6 #[(Zt (Zd .i64) (Zt (Zd .i64) (Zt (Zd .i64) (Zd .i64)))).val c0,(Zz (Zt (Zt (Zd .i64) (Zt (Zd .i64) (Zt (Zd .i64) (Zd .i64)))) (Zt (Zd .i64) (Zd .i64)))).val c1,(Zt (Zd .u8) (Zt (Zd .u8) (Zt (Zd .u8) (Zt (Zd .u8) (Zd .u8))))).val c2,(Zz (Zt (Zd .i64) (Zd .i64))).val c3,(Zt (Zd .i64) (Zd .i64)).val c4] w0 v0 (fun y v'=>∃ r0,y=ZZc.val r0∧ZZc.rel v' r0 z):=(ZHn (C:=⟨Tryz.prog,[(31,0),(33,2),(35,3),(39,1),(41,4)],[ZIj,ZIb,ZLb,Zdc,Zdj,Zjj,Zhk,Zql,ZYi,Zgj],[200134,200159],[],[],[]⟩) (CfOK.of ⟨ZJu,Zof,ZUf,Zzg,qsame_k,ZOr,legs8_k,Zqx,Z0w,Zov,trivial⟩ trivial trivial trivial) (inl:=[]) (ZTe.of trivial) (ann:=(.two .no (.two .no (.two (.two (.cut ⟨⟨[],[],[]⟩,[(.norm,⟨[1,3,5,7,9,11],[],[.s 67 (.dat .bool)]⟩)]⟩ .no) .no) (.two .no (.two .no (.two .no (.two .no (.two (.two (.cut ⟨⟨[],[],[]⟩,[(.norm,⟨[1,3,5,7,9,11,13,14,15,16,17,19],[],[.s 121 (.dat .bool)]⟩)]⟩ .no) .no) (.two .no (.two .no (.two (.cut ⟨⟨[],[],[]⟩,[(.norm,⟨[1,3,5,9,11,13,14,15,16,17,22],[],[.s 23 (.dat (.int .i64))]⟩)]⟩ .no) (.two .no (.two (.two .no (.two (.cut ⟨⟨[1,3,5,9,11,13,14,15,16,17,22,23,138],[],[.s 24 (.own 53 (.pair (.int .i64) (.pair (.int .i64) (.pair (.int .i64) (.pair (.int .i64) (.leaf 3)))))),.s 25 (.own 53 (.pair (.int .i64) (.pair (.int .i64) (.pair (.int .i64) (.pair (.int .i64) (.leaf 3)))))),.s 26 (.own 53 (.pair (.int .i64) (.pair (.int .i64) (.pair (.int .i64) (.pair (.int .i64) (.leaf 3)))))),.s 139 (.dat (.int .i64))]⟩,[(.exit 0,⟨[3,9,11,13,14,15,16,17],[],[.s 24 (.own 53 (.pair (.int .i64) (.pair (.int .i64) (.pair (.int .i64) (.pair (.int .i64) (.leaf 3)))))),.s 25 (.own 53 (.pair (.int .i64) (.pair (.int .i64) (.pair (.int .i64) (.pair (.int .i64) (.leaf 3)))))),.s 26 (.own 53 (.pair (.int .i64) (.pair (.int .i64) (.pair (.int .i64) (.pair (.int .i64) (.leaf 3))))))]⟩)]⟩ (.two (.two .no (.two .no (.two (.two (.two .no (.two .no (.two (.two (.cut ⟨⟨[],[],[]⟩,[(.norm,⟨[1,3,5,9,11,13,14,15,16,17,22,23,24,25,26,28,29,30,138,139],[],[.s 162 (.dat .bool)]⟩)]⟩ .no) (.cut ⟨⟨[],[],[]⟩,[(.norm,⟨[1,3,5,9,11,13,14,15,16,17,22,23,24,25,26,28,29,30,138,139],[],[.l (.sl 28) (.box 53 (.dat (.pair (.int .i64) (.pair (.int .i64) (.pair (.int .i64) (.pair (.int .i64) (.leaf 3)))))))]⟩)]⟩ .no)) (.two (.two .no (.cut ⟨⟨[],[],[]⟩,[(.norm,⟨[1,3,5,9,11,13,14,15,16,17,22,23,24,25,26,28,29,30,138,139],[],[.l (.sl 29) (.box 53 (.dat (.pair (.int .i64) (.pair (.int .i64) (.pair (.int .i64) (.pair (.int .i64) (.leaf 3)))))))]⟩)]⟩ .no)) .no)))) .no) .no))) .no)) .no)) (.two .no (.two .no (.two .no (.two .no (.two (.two .no (.cut ⟨⟨[],[],[]⟩,[(.norm,⟨[3,11,13,14,15,16,17,18,21,31,32,33,34,35],[],[.l (.sl 35) (.box 35 (.dat (.leaf 3)))]⟩)]⟩ .no)) (.two (.two (.cut ⟨⟨[],[],[]⟩,[(.norm,⟨[11,13,14,15,16,17],[],[.s 302 (.dat .bool)]⟩)]⟩ .no) .no) (.two .no (.two .no (.two (.cut ⟨⟨[],[],[]⟩,[(.norm,⟨[],[],[.s 10 (.dat .bool)]⟩)]⟩ .no) .no))))))))))))))))))))))) (ats:=[.pair (.int .i64) (.pair (.int .i64) (.pair (.int .i64) (.int .i64))),.slice (.pair (.pair (.int .i64) (.pair (.int .i64) (.pair (.int .i64) (.int .i64)))) (.pair (.int .i64) (.int .i64))),.pair (.int .u8) (.pair (.int .u8) (.pair (.int .u8) (.pair (.int .u8) (.int .u8)))),.slice (.pair (.int .i64) (.int .i64)),.pair (.int .i64) (.int .i64)]) (rts:=[.bool]) (x:=(t,l,pick,eff,more)) (vals:=[(Zt (Zd .i64) (Zt (Zd .i64) (Zt (Zd .i64) (Zd .i64)))).val c0,(Zz (Zt (Zt (Zd .i64) (Zt (Zd .i64) (Zt (Zd .i64) (Zd .i64)))) (Zt (Zd .i64) (Zd .i64)))).val c1,(Zt (Zd .u8) (Zt (Zd .u8) (Zt (Zd .u8) (Zt (Zd .u8) (Zd .u8))))).val c2,(Zz (Zt (Zd .i64) (Zd .i64))).val c3,(Zt (Zd .i64) (Zd .i64)).val c4]) Tryz.func6 rfl ((free8_i t l pick eff more).trans hm) hv ⟨c0,_,rfl,p0,c1,_,rfl,p1,c2,_,rfl,p2,c3,_,rfl,p3,c4,rfl,p4⟩).mono fun y v' _ h=>h
end Go.Eng
