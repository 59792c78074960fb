/- Lemmas towards the statement: the engine of the walks, the functions' models, laws and walks, part 7. Conditions: as each states. -/
import Derived.Shelf.Strings.Builder1
import Derived.Shelf.Strings.Repeat
import Derived.Test.YtcalobhmejkdiaaGreatProg
import Derived.Test.YtcalobhmejkdiaaGreatLlF
set_option linter.all false
set_option maxRecDepth 100000
namespace Go.Eng
open Go.Proofs Go.RowKit
set_option maxRecDepth 100000
theorem Z5o:Elem Tryz.prog 30 43 (Zzb).n 56 (Value.agg #[Value.bool false,Value.slice none 0 0,Value.slice none 0 0]):=⟨Tryz.underlying30,by kernel_rfl,rfl,by decide⟩
theorem Zan:Zkd Tryz.prog 30 43 (Zzb).n:=⟨fun _=>by kernel_rfl,fun _=>by kernel_rfl⟩
theorem Ztx:Tryz.prog.follows .mixedOrders=true:=by kernel_rfl
theorem ZIv:Z8 Tryz.prog 139:=fun _ _=>by kernel_rfl
theorem Zzr:Zvj Tryz.prog 3 187 .i64 .u64:=fun _ _=>by kernel_rfl
theorem Zxz:Zvj Tryz.prog 187 3 .u64 .i64:=fun _ _=>by kernel_rfl
noncomputable def Zqf:FuncId×ConO:=(97,⟨[.slice (.leaf 3),.int .i64],43,.leaf 3,fun p=>Zbf 56 p.1 p.2⟩)
theorem Zjo:Ztg Tryz.prog Zqf.1 Zqf.2:=fun w v vals x z hv ha hz=>by
 obtain ⟨cs,vs,rfl,p0,c1,rfl,rfl,hin⟩:=ha
 obtain ⟨x1,k0⟩:=x
 have hz:Zbf 56 (show List Rat from x1) k0=some z:=hz
 obtain ⟨y,hx1,hzr,hmk⟩:=Zxx hz
 have hx1:x1=[y]:=hx1
 subst hx1 hzr
 obtain ⟨h0,_,hb1,hb2⟩:=Z2a hmk
 obtain ⟨k,rfl⟩:=Int.eq_ofNat_of_zero_le h0
 obtain ⟨q,c,e,hc1,hc2,hne⟩:=(show (Zv Zzb).rel v cs [y] from p0)
 subst e
 rcases hne with hne | ⟨b,off,cc,TT,fr,rfl,hvb,hrel⟩
 ·cases hne
 have hlen1:([y]:List Rat).length=1:=rfl
 rw [hlen1] at hrel
 obtain ⟨c1,c2,e12,hrc,e2⟩:=hrel
 have e2:c2=[]:=e2
 subst e2
 rw [List.append_nil,Nat.one_mul] at e12
 have hl1:=Rep.len _ hrc
 have hAt:At v b off c1:=⟨cc,TT,fr,hvb,by rw [hl1];exact e12⟩
 refine ⟨fun _ _=>by kernel_rfl,?_⟩
 have hk:((k:Int).toNat)=k:=Int.toNat_natCast k
 rw [hk]
 refine Zum (K:=48) (args:=[.slice (some ⟨b,off,none⟩) 1 c,.int .i64 (k:Int)]) hv Tryz.func97 rfl rfl zl fun fa hS=>?_
 refine sr ?_
 refine mw hS rfl fun fa hS=>?_
 refine oe ?_
 refine wp_seq_k fun N1 hN1=>?_
 refine sr ?_
 refine mv hS rfl fun fa hS=>?_
 refine ov hS rfl (Zg hS rfl rfl Zkc) fun fa hS=>?_
 refine oe ?_
 refine ZU hS rfl (decide_eq_false (by omega)) ?_
 refine wp_skip ?_
 refine Zh (hN1 _ _ ?_)
 refine sr ?_
 refine mv hS rfl fun fa hS=>?_
 refine ov hS rfl (ZJe hS rfl rfl Zan) fun fa hS=>?_
 refine ov hS rfl (ZNd hS rfl (Zzr _)) fun fa hS=>?_
 refine mv hS rfl fun fa hS=>?_
 refine ov hS rfl (ZNd hS rfl (Zzr _)) fun fa hS=>?_
 have w1:IntKind.u64.wrap ((1:Nat):Int)=1:=by decide
 have w2:IntKind.u64.wrap (k:Int)=k:=Z0e (ZAd.2 (by omega))
 rw [w1,w2] at hS
 have hmul:ZYm 1 (k:Int)=some (0,(k:Int)):=by
  unfold ZYm ZEc;rw [if_pos (by omega),Za];simp only;congr 2 <;> omega
 refine Zht hS wn rfl zl (Zea hS [.int .u64 1,.int .u64 (k:Int)] ZIv rfl rfl) (bmul_w hS.vin (show Rep.rel (Zd .u64) _ [.int .u64 1] 1 from ZE (by decide)) (show Rep.rel (Zd .u64) _ [.int .u64 (k:Int)] (k:Int) from ZE (ZAd.2 (by omega))) hmul) ?_;rintro _ v1 fa wo hle ⟨r0,r1,rfl,⟨rfl,_⟩,⟨rfl,_⟩⟩ hS;refine mv hS rfl fun fa hS=>?_;refine ov hS rfl (ZJa hS rfl rfl) fun fa hS=>?_;refine ov hS rfl (ZJa hS rfl rfl) fun fa hS=>?_;refine mw hS rfl fun fa hS=>?_;refine mw hS rfl fun fa hS=>?_;refine oe ?_;refine wp_seq_k fun N2 hN2=>?_;refine sr ?_;refine mv hS rfl fun fa hS=>?_;refine ov hS rfl (Zg hS rfl rfl ZDd) fun fa hS=>?_;have g1:decide ((0:Int)<0)=false:=rfl;have hS:St _ _ _ ((22,Value.bool false) :: _) _ _ _ _:=hS;refine mv hS rfl fun fa hS=>?_;refine op_v hS (ZLg hS rfl rfl rfl zl) rfl zl (ZA hS rfl) fun fa hS=>?_;refine op_v hS (ZLg hS rfl rfl rfl zl) rfl zl (Zg hS rfl rfl ZDd) fun fa hS=>?_;refine ov hS rfl (ZYb (b:=false) hS rfl rfl) fun fa hS=>?_;refine oe ?_;refine ZU hS rfl (decide_eq_false (by omega)) ?_;refine wp_skip ?_;refine Zh (hN2 _ _ ?_);refine sr ?_;refine mv hS rfl fun fa hS=>?_;refine ov hS rfl (ZNd hS rfl (Zxz _)) fun fa hS=>?_;have w3:IntKind.i64.wrap (k:Int)=k:=Z0e (Zeb.2 (by omega));rw [w3] at hS;obtain ⟨b2,wo,hrun,hS'⟩:=ZPo Z5o hS (l:=(k:Int)) (c:=(k:Int)) h0 (Int.le_refl _) hb1 hb2
 refine ZTb wn rfl zl (hrun rfl rfl) hS' fun fa hS=>?_;refine mw hS rfl fun fa hS=>?_;refine oe ?_;rw [hk] at hS;have hS:=hS.fr' (σ':=[(7,.slice (mkA (some b2)) k k),(0,.slice (some ⟨b,off,none⟩) 1 c)]) rfl;have src1:∀ {σ:List (Nat×Value)} {ℓ:List Loc} {v':Zb} {a:Act} {w':World},St 48 w v σ ℓ v' a w'→∀ j u,c1[j]? = some u→w'.cell? ((⟨b,off,none⟩:Addr).add j)=some u:=fun hS j u hu=>by
  have:=(hS.view (At.mono hS.vst.le hAt)).cell hu
  rwa [ZUa]
 have hpl1:c1.all plain=true:=Rep.flat _ hrc;obtain ⟨zc,hzc⟩:∃ zc:List Value,zc=(Value.agg #[Value.bool false,Value.slice none 0 0,Value.slice none 0 0]:Value).cells.toList:=⟨_,rfl⟩;have hzl:zc.length=(Zzb).n:=by rw [hzc];rfl
 rw [← hzc] at hS
 let Inv:Nat→Act→World→Prop:=fun j a w'=>∃ v',j≤k∧(0<k→0<j)∧St 48 w v [(8,.int .i64 (j:Int)),(7,.slice (mkA (some b2)) k k)] [.own (some b2) 43 (Zzb).n k k ((List.replicate j c1).flatten++(List.replicate (k-j) zc).flatten)] v' a w'
 have rl:=fun n=>Z9j hl1 n;have rpl:∀ n:Nat,((List.replicate n c1).flatten).all plain=true:=fun n=>Z6x hpl1 n;have step:=fun j m (hjm:j+m≤k)=>rp_step (k:=k) hl1 hzl hjm;refine sr ?_;refine mv hS rfl fun fa hS=>?_;refine mv hS rfl fun fa hS=>?_;have hS1:St 48 w v _ [.own (some b2) 43 (Zzb).n k k ((List.replicate 0 c1).flatten++(List.replicate (k-0) zc).flatten)] v1 fa wo:=hS;obtain ⟨wo2,hr,hS'⟩:=Zqt (t:=30) (sT:=30) Z5o hS1 (i:=0) rfl (p:=0) (k:=min 1 k) (c:=(List.replicate (min 1 k) c1).flatten) (rl _) (by omega) (rpl _) (ad:=⟨b,off,none⟩) (sLen:=1) (sCap:=c) (dLen:=k) (dCap:=k) (fun j u hu=>by
  rcases Nat.lt_or_ge 0 k with hk0 | hk0
  ·rw [show min 1 k=1 by omega] at hu;simp only [List.replicate_one,List.flatten_cons,List.flatten_nil,List.append_nil] at hu;exact src1 hS1 j u hu
  ·rw [show min 1 k=0 by omega] at hu;simp at hu) rfl
 have hst:=step 0 (min 1 k) (by omega);simp only [List.set_cons_zero] at hS';rw [hst] at hS';simp only [Nat.zero_add] at hS';rw [Nat.zero_mul] at hr;refine ZTb wn rfl zl (Zlq hS1 rfl rfl (hr _)) hS' fun fa hS=>?_;refine mw hS rfl fun fa hS=>?_;refine oe ?_;have hS:=hS.fr' (σ':=[(8,.int .i64 ((min 1 k:Nat):Int)),(7,.slice (mkA (some b2)) k k)]) rfl;refine wp_seq_k fun N3 hN3=>?_;refine wp_block ?_;refine wp_loop_fuel (fun m a w'=>∃ j,k-j<m∧Inv j a w') (k+1) ⟨min 1 k,by omega,v1,by omega,by omega,hS⟩ (fun a w' ⟨j,h,_⟩=>by omega) ?_;rintro m fa wo3 ⟨j,hjm,v3,hjk,hj0,hS⟩ N hN;refine wp_seq_k fun N4 hN4=>?_;refine sr ?_;refine mv hS rfl fun fa hS=>?_;refine mv hS rfl fun fa hS=>?_;refine ov hS rfl (ZJe hS rfl rfl Zan) fun fa hS=>?_;refine ov hS rfl (Zg hS rfl rfl Zkc) fun fa hS=>?_;refine oe ?_;by_cases hlt:j<k
 ·refine ZZ hS rfl (decide_eq_true (by omega)) ?_;refine wp_skip ?_;refine Zh (hN4 _ _ ?_);refine wp_block ?_;have hS:=hS.fr' (σ':=[(8,.int .i64 (j:Int)),(7,.slice (mkA (some b2)) k k)]) rfl;refine ZOe (fl:=#[true,true,true,true,true,true,true,false,false,false]) Ztx (by kernel_rfl) hS ?_;intro ops hops hF wo hS;refine rf hops hF 0 rfl (by kernel_rfl) rfl hS (ZA hS rfl) fun fa hS=>?_;refine rf hops hF 1 rfl (by kernel_rfl) rfl hS (ZA hS rfl) fun fa hS=>?_;refine rf hops hF 2 rfl (by kernel_rfl) rfl hS (ZA hS rfl) fun fa hS=>?_;refine rf hops hF 3 rfl (by kernel_rfl) rfl hS (ZHz hS Zan rfl rfl (by omega) (by omega)) fun fa hS=>?_;refine rf hops hF 4 rfl (by kernel_rfl) rfl hS (ZA hS rfl) fun fa hS=>?_;refine rf hops hF 5 rfl (by kernel_rfl) rfl hS (ZA hS rfl) fun fa hS=>?_;refine rf hops hF 6 rfl (by kernel_rfl) rfl hS (ZYw hS Zan rfl rfl (by omega) (by omega)) fun fa hS=>?_;rw [Nat.zero_add] at hS;obtain ⟨wo',hr,hS'⟩:=Zqt (t:=30) (sT:=30) Z5o hS (i:=0) rfl (p:=j) (k:=min j (k-j)) (c:=(List.replicate (min j (k-j)) c1).flatten) (rl _) (by omega) (rpl _) (ad:=⟨b2,0,none⟩) (sLen:=j) (sCap:=k) (dLen:=k-j) (dCap:=k-j) (fun i u hu=>by
   have hi:=(List.getElem?_eq_some_iff.1 hu).1;refine ZBm hS (j:=0) rfl i u ?_;rw [ZXt (c:=c1) (m:=min j (k-j)) (n:=j) (by omega),List.append_assoc,List.getElem?_append_left hi];exact hu) rfl
  have hst:=step j (min j (k-j)) (by omega);simp only [List.set_cons_zero] at hS';rw [hst] at hS';refine Z1k hops hF 7 (by kernel_rfl) ?_;refine nx_ex' [3,6,1,2,4,5] [0] hops rfl (by kernel_rfl) wn rfl zl (Zlq hS rfl rfl (hr _)) hS' fun fa hS=>?_;refine ⟨(py hS rfl rfl (ZA hS rfl) ZCc),?_⟩;refine Z1k hops hF 8 (by kernel_rfl) ?_;have hadd:chk .i64 ((j:Int)+((min j (k-j):Nat):Int))=some ((j+min j (k-j):Nat):Int):=by rw [Zs (by omega) (by omega)];rfl
  refine nv [0,7,3,6,1,2,4,5] [] hops rfl (by kernel_rfl) rfl hS (Zg hS rfl rfl (ZYa hadd)) fun fa hS=>?_;refine ⟨ZCc,?_⟩;refine Z1k hops hF 9 (by kernel_rfl) ?_;refine nv [0,1,2,3,4,5,6,7,8] [] hops rfl (by kernel_rfl) rfl hS (Znd hS rfl) fun fa hS=>?_;refine ⟨ZCc,?_⟩;refine Zhr hops hF (by kernel_rfl) ?_;refine ZPb ?_;have hj0:=hj0 (by omega);exact Zh (hN _ _ ⟨j+min j (k-j),by omega,v3,by omega,fun _=>by omega,hS.fr' rfl⟩)
 refine ZU hS rfl (decide_eq_false (by omega)) ?_;refine wp_exit ?_;refine Z4 ?_;refine Z4 ?_;refine Zub ?_;refine Zh (hN3 _ _ ?_);have hjk:j=k:=by omega
 subst hjk;rw [Nat.sub_self,List.replicate_zero,List.flatten_nil,List.append_nil] at hS;refine sr ?_;refine mv hS rfl fun fa hS=>?_;refine mw hS rfl fun fa hS=>?_;refine oe ?_;refine wp_ret ?_;exact Z6p hS (i:=0) rfl (Z3a rfl (Z0 hS rfl)) (Z1e (Rep.mono _ hS.vst.le hrc) _) (List.length_replicate (n:=j) (a:=y)).symm
end Go.Eng
set_option maxRecDepth 100000
set_option maxHeartbeats 4000000
namespace Go.Eng
open Go.Proofs Go.RowKit
noncomputable def Z0m:FuncId×Con:=(14,⟨[.slice (.slice (.leaf 3))],[.slice (.slice (.leaf 3)),.int .i64],fun p=>ZUn p⟩)
theorem Z2u (m : List (List Rat)) : Zl ⟨Tryz.prog, [(39, 0), (41, 2), (43, 3), (91, 1), (93, 4)], [Zsc, ZNf, Zwb, Zyl, Zmc, ZRc], [], [Zqf], [], [((43, "Neg"), 117)], []⟩ [(49, Tryz.f49, .no)] Tryz.f14 (.two .no (.two .no (.two .no (.two .no (.two (.two .no (.two (.cut ⟨⟨[0, 4, 5, 22], [], [.s 7 (.own 30 (.slice (.leaf 3))), .s 23 (.dat (.int .i64))]⟩, [(.exit 0, ⟨[], [], [.s 7 (.own 30 (.slice (.leaf 3)))]⟩)]⟩ (.two (.two .no (.two .no (.two (.cut ⟨⟨[], [], []⟩, [(.norm, ⟨[0, 4, 5, 22, 23], [], [.s 7 (.own 30 (.slice (.leaf 3)))]⟩)]⟩ (.two (.two .no (.two .no (.two .no (.two .no (.two (.two .no (.two (.cut ⟨⟨[0, 4, 5, 7, 8, 9, 22, 23, 36, 37], [], [.s 38 (.dat (.int .i64)), .l (.sl 9) (.own 43 (.leaf 3))]⟩, [(.exit 2, ⟨[0, 4, 5, 7, 9, 22, 23], [], [.l (.sl 9) (.own 43 (.leaf 3))]⟩)]⟩ .no) .no)) .no))))) .no)) .no))) .no)) .no)) .no))))) [.slice (.slice (.leaf 3))] [.slice (.slice (.leaf 3)), .int .i64] (m) = ZUn m := by kernel_rfl
theorem Zgv : Zk Tryz.prog Z0m.1 Z0m.2 := Zm (C := ⟨Tryz.prog, [(39, 0), (41, 2), (43, 3), (91, 1), (93, 4)], [Zsc, ZNf, Zwb, Zyl, Zmc, ZRc], [], [Zqf], [], [((43, "Neg"), 117)], []⟩) ⟨ZKh, ZXn, Zxf, ZZu, Zrh, Zij, trivial⟩ ⟨Zjo, trivial⟩ trivial ⟨Zqm, trivial⟩ (inl := [(49, Tryz.f49, .no)]) ⟨⟨Tryz.func49, fun _ _ => by kernel_rfl⟩, trivial⟩ (ann := (.two .no (.two .no (.two .no (.two .no (.two (.two .no (.two (.cut ⟨⟨[0, 4, 5, 22], [], [.s 7 (.own 30 (.slice (.leaf 3))), .s 23 (.dat (.int .i64))]⟩, [(.exit 0, ⟨[], [], [.s 7 (.own 30 (.slice (.leaf 3)))]⟩)]⟩ (.two (.two .no (.two .no (.two (.cut ⟨⟨[], [], []⟩, [(.norm, ⟨[0, 4, 5, 22, 23], [], [.s 7 (.own 30 (.slice (.leaf 3)))]⟩)]⟩ (.two (.two .no (.two .no (.two .no (.two .no (.two (.two .no (.two (.cut ⟨⟨[0, 4, 5, 7, 8, 9, 22, 23, 36, 37], [], [.s 38 (.dat (.int .i64)), .l (.sl 9) (.own 43 (.leaf 3))]⟩, [(.exit 2, ⟨[0, 4, 5, 7, 9, 22, 23], [], [.l (.sl 9) (.own 43 (.leaf 3))]⟩)]⟩ .no) .no)) .no))))) .no)) .no))) .no)) .no)) .no)))))) Tryz.func14 (fun _ _ => by kernel_rfl) rfl (fun v vals x z ha hz => (Z2u x).trans hz)
end Go.Eng
namespace Go.Eng
open Go.Proofs Go.RowKit
theorem ZEu {r:World} {d:Zb} (hv:VIn d r) {D:List Value} {n:Int} (L:Rep.rel (Zd .u64) d D n) {z:(List UInt8)} (H:Z1j n=some z):Ret Tryz.prog 128 #[(Zd .u64).val D] r d (fun y v'=>∃ E,y=Zrb.val E∧Zrb.rel v' E z):=by
 obtain ⟨rfl,M⟩:=L;refine Z3b (K:=20) (args:=[.int .u64 n]) hv Tryz.func128 rfl rfl zl fun f S=>?_;unfold Z1j at H;refine sr (mw S rfl fun f S=>oe (sr (Zzt S wn rfl zl (cs:=[.int .u8 0,.int .u8 0,.int .u8 0,.int .u8 0,.int .u8 0,.int .u8 0,.int .u8 0,.int .u8 0,.int .u8 0,.int .u8 0,.int .u8 0,.int .u8 0,.int .u8 0,.int .u8 0,.int .u8 0,.int .u8 0,.int .u8 0,.int .u8 0,.int .u8 0,.int .u8 0]) (ZWp k_zv208) fun s f w S=>?_)));have S:=S.boxOwn 1 20 rfl zl;have N:Rep.rels (Zd .u8) d [.int .u8 0,.int .u8 0,.int .u8 0,.int .u8 0,.int .u8 0,.int .u8 0,.int .u8 0,.int .u8 0,.int .u8 0,.int .u8 0,.int .u8 0,.int .u8 0,.int .u8 0,.int .u8 0,.int .u8 0,.int .u8 0,.int .u8 0,.int .u8 0,.int .u8 0,.int .u8 0] (List.replicate 20 (0:Int)):=Z1e (show Rep.rel (Zd .u8) _ [Value.int .u8 0] 0 from ⟨rfl,by decide⟩) 20;refine oe (sr (mw S rfl fun f S=>oe (Zo fun _ O=>?_)));obtain ⟨P,Q,R⟩:=ZI H;refine ZDa (fun f w=>∃ l m B t,(l,m)=P∧Zb.le d t∧St 20 r d [(3,.pointer (some ⟨s,0,none⟩)),(4,.int .i64 m)] [Loc.own (some s) 208 1 20 20 B] t f w∧Rep.rels (Zd .u8) t B l∧20=l.length∧inR .i64 m) (fun _ T=>?_) ?_
 ·have H:=Q;refine wp_block ?_;obtain ⟨ak,U,V⟩:=ZI H;refine ZRb U (fun W f w=>∃ h o u b k,(h,o,u)=W∧Zb.le d k∧St 20 r d [(0,.int .u64 o),(3,.pointer (some ⟨s,0,none⟩)),(4,.int .i64 u)] [Loc.own (some s) 208 1 20 20 b] k f w∧Rep.rels (Zd .u8) k b h∧20=h.length∧inR .u64 o∧inR .i64 u) ⟨_,_,_,[.int .u8 0,.int .u8 0,.int .u8 0,.int .u8 0,.int .u8 0,.int .u8 0,.int .u8 0,.int .u8 0,.int .u8 0,.int .u8 0,.int .u8 0,.int .u8 0,.int .u8 0,.int .u8 0,.int .u8 0,.int .u8 0,.int .u8 0,.int .u8 0,.int .u8 0,.int .u8 0],_,rfl,(leR _),(S.fr' rfl),N,(List.length_replicate (n:=20) (a:=(0:Int))).symm,M,(by decide)⟩ ?_;rintro _ f w st ⟨h,o,u,b,k,hq,F,S,C,v,al,X⟩ H am Y Z;subst hq;refine Zo fun _ aa=>sr (mv S rfl fun f S=>ov S rfl (Zg S rfl rfl ZDd) fun f S=>oe ?_);rcases ZP (decide ((0:Int)<o)) with p | p
  ·have H:=ZS H p;refine ZZ S rfl p (wp_skip (Zh (aa _ _ (Zo fun _ ab=>wp_block (Zo fun _ ac=>bO H fun e G H=>Zw (mv S rfl fun f S=>ov S rfl (Zg S rfl rfl (ZIa G)) fun f S=>mw S rfl fun f S=>Zt (Zh (ac _ _ (bO H fun g ad H=>?_)))))))));refine bO H fun an q H=>Zw (mv S rfl fun f S=>mv S rfl fun f S=>ov S rfl (Zg S rfl rfl (ZYf ad)) fun f S=>ov S rfl (Zg S rfl rfl Zlc) fun f S=>ov S rfl (ZNd S rfl (Zft _)) fun f S=>?_);have I:=Zoa C (Zi q).2.1;obtain ⟨ao,ae⟩:∃ c,(List.take (Zd .u8).n (List.drop ((e).toNat*(Zd .u8).n) b))=c:=⟨_,rfl⟩;rw [ae] at I;obtain ⟨rfl,ap⟩:=I;refine ov S rfl (ZAq S ZKt rfl rfl (Zi q).1 (ltI v (Zi q).2.2.1)) fun f S=>?_;obtain ⟨w,af,S⟩:=Z6b S k_sz5 (off:=0+(e).toNat*1) (z:=.int .u8 (IntKind.u8.wrap (IntKind.u64.wrap ((48:Int)+g)))) (cs:=[.int .u8 (IntKind.u8.wrap (IntKind.u64.wrap ((48:Int)+g)))]) (ZVb rfl) rfl (i:=0) rfl (Zie S (j:=0) rfl (ltN v (Zi q).2.2.2)) (by first | rfl | simp [plain]);have ag:Rep.rels (Zd .u8) k (List.take (0+(e).toNat*1) b++[Value.int IntKind.u8 (IntKind.u8.wrap (IntKind.u64.wrap ((48:Int)+g)))]++List.drop (0+(e).toNat*1+1) b) (h.set (e).toNat (IntKind.u8.wrap (IntKind.u64.wrap ((48:Int)+g)))):=Zyd C (Zi q).2.2.2 (show Rep.rel (Zd .u8) k [.int .u8 (IntKind.u8.wrap (IntKind.u64.wrap ((48:Int)+g)))] _ from (ZE (Zza _ _))) rfl rfl
   have ah:20=(h.set (e).toNat (IntKind.u8.wrap (IntKind.u64.wrap ((48:Int)+g)))).length:=Z5d v;refine Zjg wn rfl (af rfl rfl) (Zt (ZPb (Zh (ab _ _ (bO H fun aq J H=>Zw (mv S rfl fun f S=>ov S rfl (Zg S rfl rfl (ZBc J)) fun f S=>mw S rfl fun f S=>Zt ?_))))));obtain rfl:=Zp H;refine Y _ rfl _ _ ⟨_,_,_,(List.take (0+(e).toNat*1) b++[Value.int IntKind.u8 (IntKind.u8.wrap (IntKind.u64.wrap ((48:Int)+g)))]++List.drop (0+(e).toNat*1+1) b),_,rfl,F,(S.fr' rfl),ag,ah,(ZOi J),(ZHa G).2⟩
  have H:=ZQ H p;refine ZU S rfl p (wp_exit (Z4 ?_));obtain rfl:=Zp H;have hq:=Z _ rfl;subst hq;have H:=V;refine Z4 (Zub ?_);obtain rfl:=Zp H;refine Zh (T _ _ ⟨_,_,b,_,rfl,(leT (leR _) F),(S.fr' rfl),C,v,X⟩)
 rintro f w ⟨l,m,B,t,hq,ar,S,ai,x,au⟩;subst hq;have H:=R;refine Zh (O _ _ (Zo fun _ aj=>bO H fun av A H=>Zw (mv S rfl fun f S=>ov S rfl (ZLx S ZKt rfl rfl (Zwd A).1 (by have:=(Zwd A).2.1;have:=x;omega)) fun f S=>ov S rfl (ZNu S (j:=0) rfl ai x (by have:=(Zwd A).2.1;have:=(Zwd A).1;have:=x;omega) rfl Tryz.underlying174 Tryz.underlying5 Tryz.underlying9) fun f S=>mw S rfl fun f S=>Zt (Zh (aj _ _ (wp_ret ?_))))));obtain rfl:=Zp H;refine ZQa S (Z3a rfl (Z0 S rfl)) ⟨[.string (Zy ((Z0d (l.drop ((m).toNat)))))],rfl,(Zpj (by have:=x;simp only [Zzv,List.length_drop];unfold maxLen;omega))⟩
theorem Zzx {b:World} {a:Zb} (hv:VIn a b) {c:List Value} {n:Int} (d:Rep.rel (Zd .u64) a c n) {z:(List UInt8)} (hm:Zzh n=some z) :
  Ret Tryz.prog 128 #[(Zd .u64).val c] b a (fun y v'=>∃ e,y=Zrb.val e∧Zrb.rel v' e z) :=
 ZEu hv d (ZHu d.2 hm)
end Go.Eng
namespace Go.Proofs
open Go.Shelf
def Tryz.lays105_ren:Go.Shelf.Ren:=⟨fun | 105=>129 | 212=>139 | 99=>167 | 165=>168 | 166=>130 | 170=>169 | 169=>131 | 263=>174 | 264=>106 | 206=>183 | 240=>170 | 241=>184 | 276=>185 | 277=>194 | n=>n,fun | 9=>9 | 3=>3 | 4=>4 | 20=>20 | 0=>0 | 46=>187 | 109=>188 | 5=>5 | 72=>176 | 76=>179 | 51=>185 | 146=>216 | 53=>148 | 148=>152 | 70=>173 | 37=>174 | 75=>178 | 127=>211 | 164=>226 | 80=>88 | n=>n,fun | n=>n⟩
theorem Tryz.lays105:Go.Proofs.Lays.n105 Tryz.prog Tryz.lays105_ren:={
 mixed:=by kernel_rfl
 f99:=Tryz.func167.trans (congrArg some (by kernel_rfl))
 f105:=Tryz.func129.trans (congrArg some (by kernel_rfl))
 f165:=Tryz.func168.trans (congrArg some (by kernel_rfl))
 f166:=Tryz.func130.trans (congrArg some (by kernel_rfl))
 f169:=Tryz.func131.trans (congrArg some (by kernel_rfl))
 f170:=Tryz.func169.trans (congrArg some (by kernel_rfl))
 f206:=Tryz.func183.trans (congrArg some (by kernel_rfl))
 f212:=Tryz.func139.trans (congrArg some (by kernel_rfl))
 f240:=Tryz.func170.trans (congrArg some (by kernel_rfl))
 f241:=Tryz.func184.trans (congrArg some (by kernel_rfl))
 f263:=Tryz.func174.trans (congrArg some (by kernel_rfl))
 f264:=Tryz.func106.trans (congrArg some (by kernel_rfl))
 f276:=Tryz.func185.trans (congrArg some (by kernel_rfl))
 f277:=Tryz.func194.trans (congrArg some (by kernel_rfl))
 t0:=Tryz.underlying0
 a0:=Tryz.isAgg0
 z0:=Tryz.sizeOf0
 v0:=Tryz.zeroValue0
 t3:=Tryz.underlying3
 a3:=Tryz.isAgg3
 z3:=Tryz.sizeOf3
 v3:=Tryz.zeroValue3
 t4:=Tryz.underlying4
 a4:=Tryz.isAgg4
 z4:=Tryz.sizeOf4
 v4:=Tryz.zeroValue4
 t5:=Tryz.underlying5
 a5:=Tryz.isAgg5
 z5:=Tryz.sizeOf5
 v5:=Tryz.zeroValue5
 t9:=Tryz.underlying9
 a9:=Tryz.isAgg9
 z9:=Tryz.sizeOf9
 v9:=Tryz.zeroValue9
 t20:=Tryz.underlying20
 a20:=Tryz.isAgg20
 z20:=Tryz.sizeOf20
 v20:=Tryz.zeroValue20
 t37:=Tryz.underlying174
 a37:=Tryz.isAgg174
 z37:=Tryz.sizeOf174
 v37:=Tryz.zeroValue174
 t46:=Tryz.underlying187
 a46:=Tryz.isAgg187
 z46:=Tryz.sizeOf187
 v46:=Tryz.zeroValue187
 t51:=Tryz.underlying185
 a51:=Tryz.isAgg185
 z51:=Tryz.sizeOf185
 v51:=Tryz.zeroValue185
 t53:=Tryz.underlying148
 a53:=Tryz.isAgg148
 z53:=Tryz.sizeOf148
 v53:=Tryz.zeroValue148
 t70:=Tryz.underlying173
 a70:=Tryz.isAgg173
 z70:=Tryz.sizeOf173
 v70:=Tryz.zeroValue173
 t72:=Tryz.underlying176
 a72:=Tryz.isAgg176
 z72:=Tryz.sizeOf176
 v72:=Tryz.zeroValue176
 t75:=Tryz.underlying178
 a75:=Tryz.isAgg178
 z75:=Tryz.sizeOf178
 v75:=Tryz.zeroValue178
 t76:=Tryz.underlying179
 a76:=Tryz.isAgg179
 z76:=Tryz.sizeOf179
 v76:=Tryz.zeroValue179
 t109:=Tryz.underlying188
 a109:=Tryz.isAgg188
 z109:=Tryz.sizeOf188
 v109:=Tryz.zeroValue188
 t127:=Tryz.underlying211
 a127:=Tryz.isAgg211
 z127:=Tryz.sizeOf211
 v127:=Tryz.zeroValue211
 t146:=Tryz.underlying216
 a146:=Tryz.isAgg216
 z146:=Tryz.sizeOf216
 v146:=Tryz.zeroValue216
 t148:=Tryz.underlying152
 a148:=Tryz.isAgg152
 z148:=Tryz.sizeOf152
 v148:=Tryz.zeroValue152
 t164:=Tryz.underlying226
 a164:=Tryz.isAgg226
 z164:=Tryz.sizeOf226
 v164:=Tryz.zeroValue226 }
theorem Tryz.Builder_Extra_105:Builder.Extra Tryz.prog Tryz.lays105_ren:={
 sizeBuilder:=by kernel_rfl
 liesBuilder:=by kernel_rfl
 t5:=Tryz.underlying5
 a5:=Tryz.isAgg5
 z5:=Tryz.sizeOf5
 v5:=Tryz.zeroValue5
 infoByte:=by kernel_rfl
 cellsByte:=by kernel_rfl
 sizeByte:=by kernel_rfl
 neB5:=by decide }
end Go.Proofs
namespace Go.Eng
open Go.Proofs Go.RowKit Go.Shelf
theorem writes:ZQr Tryz.prog 130 176 5:=fun B b bs s w h hl hB=>Any.Builder_WriteString { Tryz.lays105 with } Tryz.Builder_Extra_105 B b bs s w h hl hB
theorem tells:Tells Tryz.prog 131 176 5:=fun B b l w h hB=>Any.Builder_String_any { Tryz.lays105 with } Tryz.Builder_Extra_105 B b l w h hB
end Go.Eng
namespace Go.Eng
open Go.Proofs Go.RowKit
theorem Z5x (l:List UInt8) (c:Nat):Lib.repeatL l c=(List.replicate c l).flatten:=by
 induction c with
 | zero=>rfl
 | succ c ih=>simp [Lib.repeatL,List.replicate_succ,ih]
theorem Z3t {b:World} {a:Zb} (hv:VIn a b) {f:List Value} {s:List UInt8} (k:Rep.rel Zrb a f s) {g:List Value} {c:Int} (l:Rep.rel (Zd .i64) a g c) {z:List UInt8} (hm:Z8h s c=some z) :
  Ret Tryz.prog 129 #[Zrb.val f,(Zd .i64).val g] b a (fun y v'=>∃ h,y=Zrb.val h∧Zrb.rel v' h z):=by
 obtain ⟨rfl,hs⟩:=k;obtain ⟨rfl,hc⟩:=l;unfold Z8h at hm;split at hm
 ·rename_i hh
  cases hm
  obtain ⟨C,rfl⟩:=Int.eq_ofNat_of_zero_le hh.1;have hc:=Zeb.1 hc;have d:=hh.2;rw [Int.toNat_natCast] at d;have:=Any.strings_Repeat Tryz.lays105 Tryz.Builder_Extra_105 (Zy s) C b (by omega) (by rw [Zzd];exact d);refine Calls.mono this fun e w' ⟨i,j⟩=>?_;have m:(⟨(Lib.repeatL (Zy s).data.toList C).toArray⟩:ByteArray)=Zy (List.replicate C s).flatten:=by
   rw [Z5x];rfl
  rw [m] at i;exact ⟨_,a,i,j,VStep.ext hv j,[.string (Zy (List.replicate C s).flatten)],rfl,rfl,by simp only [Int.toNat_natCast];rw [List.length_flatten];simp;unfold maxLen;rw [Nat.mul_comm] at d;omega⟩
 ·cases hm
theorem text_w {e:World} {c:Zb} (hv:VIn c e) {c0:List Value} {a:Nat} (p0:Rep.rel Zx c c0 a) {z:(List UInt8)} (H:Z5i a=some z):Ret Tryz.prog 82 #[Zx.val c0] e c (fun y v'=>∃ r0,y=Zrb.val r0∧Zrb.rel v' r0 z):=by
 obtain ⟨q1,n2,k3,rfl⟩:=Zsa p0;refine Z3b (K:=49) (args:=[.slice q1 n2 k3]) hv Tryz.func82 rfl rfl zl fun f S=>?_;unfold Z5i at H;refine sr (mw S rfl fun f S=>oe (sr ?_));have S:=S.nilLoc 9 1;refine ov S rfl (Znd S (y:=.slice (mkA none) 0 0) rfl) fun f S=>oe (Zo fun _ ar=>?_);obtain ⟨au,av,aw⟩:=ZI H;refine ZDa (fun f w=>∃ o F s G U I,o=au∧Zb.le c I∧St 49 e c [(3,.slice (mkA F) s G)] [Loc.own F 9 1 s G U] I f w∧Rep.rels Zrb I U o∧s=o.length) (fun _ ax=>?_) ?_
 ·have H:=av;refine wp_block ?_;obtain ⟨bs,ay,az⟩:=ZI H;refine ZRb ay (fun aA f w=>∃ J g L M N p h q k t,(J,g)=aA∧Zb.le c t∧St 49 e c [(0,.slice L M N),(3,.slice (mkA p) h q)] [Loc.own p 9 1 h q k] t f w∧Rep.rel Zx t [.slice L M N] J∧Rep.rels Zrb t k g∧h=g.length) ⟨_,_,_,_,_,none,0,0,[],_,rfl,(leR _),(S.fr' rfl),p0,Zmd,rfl⟩ ?_;rintro _ f w st ⟨J,g,L,M,N,p,h,q,k,t,hq,ac,S,ad,d,ae⟩ H bt aB aC;subst hq;refine Zo fun _ aD=>sr (mv S rfl fun f S=>ov S rfl (Zga S (ZN ad) rfl rfl ZD) fun f S=>ov S rfl (Zg S rfl rfl ZDd) fun f S=>oe ?_);rcases ZP (decide ((0:Int)<(((Zc 18446744073709551616 J)).length:Int))) with u | u
  ·have H:=ZS H u;refine ZZ S rfl u (wp_skip (Zh (aD _ _ (wp_block (Zo fun _ aE=>bO H fun O aF H=>Zw (mv S rfl fun f S=>opc S rfl (Zea S [.slice L M N,.int .u64 10000000000000000000] ZUt rfl rfl) (Zkq S.vin ad (show Rep.rel (Zd .u64) _ [.int .u64 10000000000000000000] (10000000000000000000:Int) from (ZE (by decide))) aF) ?_))))));rintro _ bu f w af ⟨bv,bw,rfl,m,aG⟩ S;have d:=Z2 af d;obtain ⟨aH,aI,aJ,rfl⟩:=Zsa m;obtain ⟨rfl,aK⟩:=aG;refine mv S rfl fun f S=>ov S rfl (ZJa S rfl rfl) fun f S=>ov S rfl (ZJa S rfl rfl) fun f S=>mw S rfl fun f S=>mw S rfl fun f S=>Zt (Zh (aE _ _ (Zo fun _ aL=>bO H fun bx aM H=>Zw (mv S rfl fun f S=>opc S rfl (Zea S [.int .u64 (O.2)] k_en128 rfl rfl) (Zzx S.vin (show Rep.rel (Zd .u64) _ [.int .u64 (O.2)] O.2 from (ZE aK)) aM) ?_))));rintro _ aN f w V ⟨bz,rfl,aO⟩ S;have d:=Z2 V d;obtain ⟨rfl,aP⟩:=aO;refine mw S rfl fun f S=>Zt (Zh (aL _ _ (Zo fun _ aQ=>sr (mv S rfl fun f S=>?_))));have m:=Zba V m;refine ov S rfl (Zga S (ZN m) rfl rfl ZD) fun f S=>ov S rfl (Zg S rfl rfl ZDd) fun f S=>oe ?_;obtain ⟨aR,aS,aT⟩:=ZI H;refine ZDa (fun f w=>∃ b P,b=aR∧Zb.le aN P∧St 49 e c [(3,.slice (mkA p) h q),(4,.slice aH aI aJ),(6,.string (Zy b))] [Loc.own p 9 1 h q k] P f w∧b.length≤maxLen) (fun _ ag=>?_) ?_
   ·have H:=aS;rcases ZP (decide ((0:Int)<(((Zc 18446744073709551616 O.1)).length:Int))) with v | v
    ·have H:=ZS H v;refine ZZ S rfl v (bO H fun W ah H=>bO H fun bA aU H=>bO H fun bB ai H=>Zw (mv S rfl fun f S=>ov S rfl (ZPt S rfl rfl Tryz.underlying9) fun f S=>ov S rfl (Zg S rfl rfl (ZIa ah)) fun f S=>opc S rfl (Zea S [.string (Zy (([48]:List UInt8))),.int .i64 W] k_en129 rfl rfl) (Z3t S.vin (show Rep.rel Zrb _ [.string (Zy (([48]:List UInt8)))] (([48]:List UInt8)) from (Zpj zl)) (show Rep.rel (Zd .i64) _ [.int .i64 W] W from (ZE (ZHa ah).2)) aU) ?_));rintro _ bC f w aj ⟨bD,rfl,aV⟩ S;have d:=Z2 aj d;obtain ⟨rfl,bE⟩:=aV;refine mv S rfl fun f S=>ov S rfl (ZUk S rfl rfl (Z1r ai)) fun f S=>mw S rfl fun f S=>Zt ?_;obtain rfl:=Zp H;refine Zh (ag _ _ ⟨_,_,rfl,(leT (leR _) aj),(S.fr' rfl),(Zqk ai)⟩)
    have H:=ZQ H v;refine ZU S rfl v (wp_skip ?_);obtain rfl:=Zp H;refine Zh (ag _ _ ⟨_,_,rfl,(leR _),(S.fr' rfl),aP⟩)
   rintro f w ⟨b,P,hq,X,S,aW⟩;subst hq;have H:=aT;have d:=Z2 X d;refine Zh (aQ _ _ (bO H fun bG aX H=>Zw (mv S rfl fun f S=>mv S rfl fun f S=>?_)));obtain ⟨bH,w,aY,S⟩:=ZDg S (n:=1) (cs:=[.string (Zy b)]) (vals:=[(0,.string (Zy b))]) (sz:=1) rfl (by decide) (ZUp Z6r (x:=.string (Zy b)) (cs:=[.string (Zy b)]) rfl rfl (by decide));have Y:Rep.rels Zrb P [.string (Zy b)] [b]:=(ZJp (Zpj aW) Zmd);refine ZTb wn rfl zl (aY rfl) S fun f S=>?_;have aZ:=S;obtain ⟨ak,al,w,a0,S⟩:=Z9k (ty:=168) Z6r S (i:=1) (n':=(g++[b]).length) rfl (Z3e Y rfl) (ZBm S (j:=0) rfl) (ZMk Y) (appN ae rfl) (ZLe aX) (by decide);have a1:=ZDc d Y;refine ZTb wn rfl zl (ZKe aZ rfl rfl a0) S fun f S=>mv S rfl fun f S=>mw S rfl fun f S=>mw S rfl fun f S=>Zt (ZPb ?_);obtain rfl:=Zp H;have S:=S.reorder (ℓ':=[Loc.own ak 9 1 ((g++[b]).length) al ((k++[.string (Zy b)]))]) [1] rfl (by decide);have m:=Zba X m;refine aB _ rfl _ _ ⟨_,_,_,_,_,ak,(g++[b]).length,al,(k++[.string (Zy b)]),_,rfl,(leT (leT (leT ac af) V) X),(S.fr' rfl),m,a1,rfl⟩
  have H:=ZQ H u;refine ZU S rfl u (wp_exit (Z4 ?_));obtain rfl:=Zp H;have hq:=aC _ rfl;subst hq;have H:=az;refine Z4 (Zub ?_);obtain rfl:=Zp H;refine Zh (ax _ _ ⟨_,p,h,q,k,_,rfl,(leT (leR _) ac),(S.fr' rfl),d,ae⟩)
 rintro f w ⟨o,F,s,G,U,I,hq,bI,S,a2,am⟩;subst hq;have H:=aw;refine Zh (ar _ _ (Zo fun _ a3=>sr (mv S rfl fun f S=>ov S rfl (Zga S am rfl rfl ZFp) fun f S=>ov S rfl (Zg S rfl rfl ZFe) fun f S=>oe ?_)));rcases ZP (((o.length:Int))==(0:Int)) with B | B
 ·have H:=ZS H B;refine ZZ S rfl B (sr (mw S rfl fun f S=>oe (wp_ret (Zbb ?_))));obtain rfl:=Zp H;refine ZQa S (Z3a rfl (Z0 S rfl)) ⟨[.string (Zy (([48]:List UInt8)))],rfl,(Zpj zl)⟩
 have H:=ZQ H B;refine ZU S rfl B (wp_skip (Zh (a3 _ _ (sr ?_))));obtain ⟨an,bJ,S,C⟩:=S.pubSlice (i:=0) (A:=Zrb) (l:=o) (ℓ':=[]) rfl rfl am a2 rfl;refine op_newB 5 S wn rfl zl (ZWp k_zv176) fun r f w S a4=>oe (Zo fun _ a5=>Zo fun _ a6=>bO H fun bK ao H=>Zw (mv S rfl fun f S=>ov S rfl (Zga S (ZN C) rfl rfl ZFp) fun f S=>ov S rfl (Zg S rfl rfl (ZIa ao)) fun f S=>mw S rfl fun f S=>Zt (Zh (a6 _ _ ?_))));obtain ⟨a7,a8,a9⟩:=ZI H;refine ZDa (fun f w=>∃ Q R,Q=a7∧Zb.le an R∧St 49 e c [(7,.pointer (some ⟨r,0,none⟩))] [] R f w∧Bld 176 5 r e R Q w) (fun _ ba=>?_) ?_
 ·have H:=a8;refine wp_block ?_;obtain ⟨bM,bb,bc⟩:=ZI H;refine ZRb bb (fun bd f w=>∃ Z D T,(Z,D)=bd∧Zb.le an T∧St 49 e c [(3,.slice (mkA F) s G),(7,.pointer (some ⟨r,0,none⟩)),(8,.int .i64 D)] [] T f w∧Bld 176 5 r e T Z w∧inR .i64 D) ⟨_,_,_,rfl,(leR _),(S.fr' rfl),a4,(ZHa ao).2⟩ ?_;rintro _ f w st ⟨Z,D,T,hq,aa,S,ap,bP⟩ H bQ be bf;subst hq;refine Zo fun _ bg=>sr (mv S rfl fun f S=>ov S rfl (Zg S rfl rfl Zyc) fun f S=>oe ?_);rcases ZP (decide ((0:Int)≤D)) with E | E
  ·have H:=ZS H E;refine ZZ S rfl E (wp_skip (Zh (bg _ _ (Zo fun _ bh=>wp_block (bO H fun bi ab H=>bO H fun bR bj H=>Zw (mv S rfl fun f S=>mv S rfl fun f S=>?_))))));have C:=Zba aa C;obtain ⟨_,bS,bT,bU,bk,bm,bn⟩:=Zmb C (Zi ab).2.1;obtain ⟨rfl,rfl⟩:=ZOy bk;obtain ⟨rfl,bV⟩:=bn;refine ov S rfl (ZV S rfl rfl ZFp (Zi ab).1 (ltI (ZN C) (Zi ab).2.2.1)) fun f S=>ov S rfl (Zqa S rfl k_sz9 (S.view bm)) fun f S=>Z7v writes ap (ZSy bj) S wn rfl zl (Zea S [.pointer (some ⟨r,0,none⟩),.string (Zy bi)] k_en130 rfl rfl) fun f w S bo=>Zt (ZPb (Zh (bh _ _ (bO H fun bW aq H=>Zw (mv S rfl fun f S=>ov S rfl (Zg S rfl rfl (ZIa aq)) fun f S=>mw S rfl fun f S=>Zt ?_)))));obtain rfl:=Zp H;refine be _ rfl _ _ ⟨_,_,_,rfl,aa,(S.fr' rfl),bo,(ZHa aq).2⟩
  have H:=ZQ H E;refine ZU S rfl E (wp_exit (Z4 ?_));obtain rfl:=Zp H;have hq:=bf _ rfl;subst hq;have H:=bc;refine Z4 (Zub ?_);obtain rfl:=Zp H;refine Zh (ba _ _ ⟨_,_,rfl,(leT (leR _) aa),(S.fr' rfl),ap⟩)
 rintro f w ⟨Q,R,hq,bX,S,bp⟩;subst hq;have H:=a9;refine Zh (a5 _ _ (Zo fun _ bq=>bO H fun bY br H=>Zw (op_tell tells bp S wn rfl zl (Zea S [.pointer (some ⟨r,0,none⟩)] k_en131 rfl rfl) fun f w S=>mw S rfl fun f S=>Zt (Zh (bq _ _ (wp_ret ?_))))));obtain rfl:=Zp H;refine ZQa S (Z3a rfl (Z0 S rfl)) ⟨[.string (Zy Q)],rfl,(Zpj (Zqk br))⟩
theorem text_c {c:World} {b:Zb} (hv:VIn b c) {d:List Value} {a:Nat} (f:Rep.rel Zx b d a) {z:(List UInt8)} (hm:ZGg a=some z) :
  Ret Tryz.prog 82 #[Zx.val d] c b (fun y v'=>∃ e,y=Zrb.val e∧Zrb.rel v' e z) :=
 text_w hv f (Znu hm)
end Go.Eng
set_option maxRecDepth 100000
set_option maxHeartbeats 4000000
namespace Go.Eng
open Go.Proofs Go.RowKit
noncomputable def Z6m:FuncId×Con:=(82,⟨[.leaf 0],[.str],fun p=>ZGg p⟩)
theorem text_k:Zk Tryz.prog Z6m.1 Z6m.2:=fun w v vals x z hv ha hz=>by
 obtain ⟨c0,e0,p0⟩:=ha;subst e0
 exact .inl ⟨fun _ _=>by kernel_rfl,Ret.mono (text_c hv p0 hz) fun y v' _ ⟨r0,e,h0⟩=>⟨r0,e,h0⟩⟩
end Go.Eng
set_option maxRecDepth 100000
set_option maxHeartbeats 4000000
namespace Go.Eng
open Go.Proofs Go.RowKit
noncomputable def Zni:FuncId×Con:=(38,⟨[.leaf 3],[.str],fun p=>ZXh p⟩)
theorem qtext_i (x:Rat):Zl ⟨Tryz.prog,[(39,0),(41,2),(43,3)],[Z6m],[],[],[],[],[]⟩ [] Tryz.f38 (.two .no (.two .no (.two (.two .no (.cut ⟨⟨[],[],[]⟩,[(.norm,⟨[1],[],[.s 3 (.dat .str)]⟩)]⟩ .no)) (.two (.two .no (.cut ⟨⟨[],[],[]⟩,[(.norm,⟨[],[],[.s 3 (.dat .str)]⟩)]⟩ .no)) .no)))) [.leaf 3] [.str] (x)=Zbo x:=by kernel_rfl
theorem ZSq:Zk Tryz.prog Zni.1 Zni.2:=Zm (C:=⟨Tryz.prog,[(39,0),(41,2),(43,3)],[Z6m],[],[],[],[],[]⟩) ⟨text_k,trivial⟩ trivial trivial trivial (inl:=[]) trivial (ann:=.two .no (.two .no (.two (.two .no (.cut ⟨⟨[],[],[]⟩,[(.norm,⟨[1],[],[.s 3 (.dat .str)]⟩)]⟩ .no)) (.two (.two .no (.cut ⟨⟨[],[],[]⟩,[(.norm,⟨[],[],[.s 3 (.dat .str)]⟩)]⟩ .no)) .no)))) Tryz.func38 (fun _ _=>by kernel_rfl) rfl fun v vals x z ha hz=>(qtext_i x).trans (Zcx hz)
noncomputable def ZMo (x:Rat):Option ((List UInt8)) :=
 bnd (Zth x.num.natAbs) fun b =>
 bnd (ifb (decide (x.num<0))
 (bnd (ZHc x) fun d =>
 some (!(d)))
 (some false))
 (fun (e:Bool) =>
 (bnd (ifb (e)
 (bnd (ZAb ((([45]:List UInt8))++b)) fun j =>
 some (((([45]:List UInt8))++b)))
 (some b))
 (fun (a:(List UInt8)) =>
 (bnd (ZWb x) fun f =>
 bnd (Z4b ([(1:Int)])) fun g =>
 bnd (Zxd f g) fun h =>
 bnd (ifb (decide ((0:Int)<h))
 (bnd (ZAb (a++(([47]:List UInt8)))) fun k =>
 bnd (Zth x.den) fun c =>
 bnd (ZAb (((a++(([47]:List UInt8))))++c)) fun l =>
 some ((((a++(([47]:List UInt8))))++c)))
 (some a))
 (fun (i:(List UInt8)) =>
 (some i))))))
end Go.Eng
set_option maxRecDepth 100000
set_option maxHeartbeats 4000000
namespace Go.Eng
open Go.Proofs Go.RowKit
noncomputable def ZXk:FuncId×Con:=(153,⟨[.leaf 1],[.str],fun p=>Zth p⟩)
theorem ZWw (a:Nat):Zl ⟨Tryz.prog,[(91,1),(93,4)],[Z1h],[],[],[],[],[]⟩ [] Tryz.f153 (.two .no (.two .no (.two (.cut ⟨⟨[],[],[]⟩,[(.norm,⟨[],[],[.s 3 (.dat .str)]⟩)]⟩ (.two (.cut ⟨⟨[],[],[.s 0 (.dat (.leaf 1)),.s 3 (.dat .str)]⟩,[(.exit 0,⟨[],[],[.s 3 (.dat .str)]⟩)]⟩ (.two (.two .no (.two (.two .no (.two (.two .no (.cut ⟨⟨[],[],[]⟩,[(.norm,⟨[4],[],[.s 3 (.dat .str)]⟩)]⟩ (.two (.cut ⟨⟨[4],[],[.s 3 (.dat .str),.s 5 (.dat (.int .u32)),.s 6 (.dat (.int .i64))]⟩,[(.exit 2,⟨[4],[],[.s 3 (.dat .str)]⟩)]⟩ (.two (.two (.two (.cut ⟨⟨[],[],[]⟩,[(.norm,⟨[3,4,5,6],[],[.s 25 (.dat .bool)]⟩)]⟩ .no) .no) .no) .no)) .no))) .no)) .no)) .no)) .no)) .no))) [.leaf 1] [.str] (a)=Zkm a:=by kernel_rfl
theorem ZXz:Zk Tryz.prog ZXk.1 ZXk.2:=Zm (C:=⟨Tryz.prog,[(91,1),(93,4)],[Z1h],[],[],[],[],[]⟩) ⟨ZWt,trivial⟩ trivial trivial trivial (inl:=[]) trivial (ann:=.two .no (.two .no (.two (.cut ⟨⟨[],[],[]⟩,[(.norm,⟨[],[],[.s 3 (.dat .str)]⟩)]⟩ (.two (.cut ⟨⟨[],[],[.s 0 (.dat (.leaf 1)),.s 3 (.dat .str)]⟩,[(.exit 0,⟨[],[],[.s 3 (.dat .str)]⟩)]⟩ (.two (.two .no (.two (.two .no (.two (.two .no (.cut ⟨⟨[],[],[]⟩,[(.norm,⟨[4],[],[.s 3 (.dat .str)]⟩)]⟩ (.two (.cut ⟨⟨[4],[],[.s 3 (.dat .str),.s 5 (.dat (.int .u32)),.s 6 (.dat (.int .i64))]⟩,[(.exit 2,⟨[4],[],[.s 3 (.dat .str)]⟩)]⟩ (.two (.two (.two (.cut ⟨⟨[],[],[]⟩,[(.norm,⟨[3,4,5,6],[],[.s 25 (.dat .bool)]⟩)]⟩ .no) .no) .no) .no)) .no))) .no)) .no)) .no)) .no)) .no))) Tryz.func153 (fun _ _=>by kernel_rfl) rfl fun v vals x z ha hz=>(ZWw x).trans (Zbx hz)
end Go.Eng
set_option maxRecDepth 100000
set_option maxHeartbeats 4000000
namespace Go.Eng
open Go.Proofs Go.RowKit
noncomputable def Zof:FuncId×Con:=(154,⟨[.leaf 4],[.bool],fun p=>ZHc p⟩)
theorem rzero_i (x:Rat):Zl ⟨Tryz.prog,[(91,1),(93,4)],[],[],[],[],[],[]⟩ [] Tryz.f154 .no [.leaf 4] [.bool] (x)=ZYo x:=by kernel_rfl
theorem Zxn:Zk Tryz.prog Zof.1 Zof.2:=Zm (C:=⟨Tryz.prog,[(91,1),(93,4)],[],[],[],[],[],[]⟩) trivial trivial trivial trivial (inl:=[]) trivial (ann:=.no) Tryz.func154 (fun _ _=>by kernel_rfl) rfl fun v vals x z ha hz=>(rzero_i x).trans (Zdw hz)
end Go.Eng
set_option maxRecDepth 100000
set_option maxHeartbeats 4000000
namespace Go.Eng
open Go.Proofs Go.RowKit
noncomputable def ZSc:FuncId×Con:=(156,⟨[.leaf 4],[.leaf 1],fun p=>ZWb p⟩)
theorem ZIy (x:Rat):Zl ⟨Tryz.prog,[(91,1),(93,4)],[],[],[],[],[],[]⟩ [] Tryz.f156 .no [.leaf 4] [.leaf 1] (x)=Z1n x:=by kernel_rfl
theorem ZNi:Zk Tryz.prog ZSc.1 ZSc.2:=Zm (C:=⟨Tryz.prog,[(91,1),(93,4)],[],[],[],[],[],[]⟩) trivial trivial trivial trivial (inl:=[]) trivial (ann:=.no) Tryz.func156 (fun _ _=>by kernel_rfl) rfl fun v vals x z ha hz=>(ZIy x).trans (Zhy hz)
theorem Z1x {x:Rat} {z:List UInt8} (h:Z7i x=some z):ZMo x=some z:=by
 unfold Z7i at h;split at h
 ·rename_i hh;obtain ⟨h1,h2⟩:=hh
  cases h
  unfold ZMo Zth;have l1:=ZXm (n:=x.num.natAbs) (by omega);have l2:=ZXm (n:=x.den) (by omega);rw [if_pos (Zld h1),Za];have e0:ifb (decide (x.num<0)) (bnd (ZHc x) fun y136=>some (!(y136))) (some false)=some (decide (x.num<0)):=by
   unfold ZHc;by_cases h:x.num<0
   ·have:x≠0:=fun e=>by subst e;simp at h
    rw [decide_eq_true h,Zf,Za,decide_eq_false this];rfl
   ·rw [decide_eq_false h,Ze]
  rw [e0,Za];have e1:ifb (decide (x.num<0)) (bnd (ZAb ([45]++ZZa x.num.natAbs)) fun y80=>some (([45]:List UInt8)++ZZa x.num.natAbs)) (some (ZZa x.num.natAbs))=some ((if x.num<0 then [45] else [])++ZZa x.num.natAbs):=by
   by_cases h:x.num<0
   ·rw [decide_eq_true h,Zf,Zue (by simp;omega),Za,if_pos h]
   ·rw [decide_eq_false h,Ze,if_neg h];rfl
  rw [e1,Za];unfold txtQ ZWb Zxd;have l3:((if x.num<0 then [45] else [])++ZZa x.num.natAbs:List UInt8).length≤4398046511105:=by
   rw [List.length_append];split <;> simp <;> omega
  generalize ((if x.num<0 then [45] else [])++ZZa x.num.natAbs:List UInt8)=s at *;rw [Za,ZMn,Za,Za,Zgr];by_cases hd:x.den=1
  ·rw [hd];simp [ifb,bnd]
  ·have:=x.den_nz;rw [decide_eq_true (by omega),Zf,Zue (by simp;omega),Za,if_pos (Zld h2),Za,Zue (by simp;omega),Za,Za,if_neg hd];simp
 ·cases h
end Go.Eng
set_option maxRecDepth 100000
set_option maxHeartbeats 4000000
namespace Go.Eng
open Go.Proofs Go.RowKit
noncomputable def Zkn:FuncId×Con:=(116,⟨[.leaf 4],[.str],fun p=>Z7i p⟩)
theorem rtext_i (x:Rat):Zl ⟨Tryz.prog,[(91,1),(93,4)],[ZXk,Zof,Zwf,ZSc],[],[],[],[],[]⟩ [] Tryz.f116 (.two .no (.two .no (.two (.two (.cut ⟨⟨[],[],[]⟩,[(.norm,⟨[1,3],[],[.s 13 (.dat .bool)]⟩)]⟩ .no) (.cut ⟨⟨[],[],[]⟩,[(.norm,⟨[1],[],[.s 3 (.dat .str)]⟩)]⟩ .no)) (.two (.two .no (.cut ⟨⟨[],[],[]⟩,[(.norm,⟨[],[],[.s 3 (.dat .str)]⟩)]⟩ .no)) .no)))) [.leaf 4] [.str] (x)=ZMo x:=by kernel_rfl
theorem rtext_k:Zk Tryz.prog Zkn.1 Zkn.2:=Zm (C:=⟨Tryz.prog,[(91,1),(93,4)],[ZXk,Zof,Zwf,ZSc],[],[],[],[],[]⟩) ⟨ZXz,Zxn,ZRn,ZNi,trivial⟩ trivial trivial trivial (inl:=[]) trivial (ann:=.two .no (.two .no (.two (.two (.cut ⟨⟨[],[],[]⟩,[(.norm,⟨[1,3],[],[.s 13 (.dat .bool)]⟩)]⟩ .no) (.cut ⟨⟨[],[],[]⟩,[(.norm,⟨[1],[],[.s 3 (.dat .str)]⟩)]⟩ .no)) (.two (.two .no (.cut ⟨⟨[],[],[]⟩,[(.norm,⟨[],[],[.s 3 (.dat .str)]⟩)]⟩ .no)) .no)))) Tryz.func116 (fun _ _=>by kernel_rfl) rfl fun v vals x z ha hz=>(rtext_i x).trans (Z1x hz)
end Go.Eng
set_option maxRecDepth 100000
set_option maxHeartbeats 4000000
namespace Go.Eng
open Go.Proofs Go.RowKit
noncomputable def Zfn:FuncId×Con:=(67,⟨[.leaf 3,.leaf 4],[.bool],fun p=>ZCj p.1 p.2⟩)
theorem is1_i (x:Rat) (y:Rat):Zl ⟨Tryz.prog,[(39,0),(41,2),(43,3),(91,1),(93,4)],[Zni,Zkn],[],[],[],[],[]⟩ [] Tryz.f67 .no [.leaf 3,.leaf 4] [.bool] (x,y)=ZCj x y:=by kernel_rfl
theorem is1_k:Zk Tryz.prog Zfn.1 Zfn.2:=Zm (C:=⟨Tryz.prog,[(39,0),(41,2),(43,3),(91,1),(93,4)],[Zni,Zkn],[],[],[],[],[]⟩) ⟨ZSq,rtext_k,trivial⟩ trivial trivial trivial (inl:=[]) trivial (ann:=.no) Tryz.func67 (fun _ _=>by kernel_rfl) rfl fun v vals x z ha hz=>(is1_i x.1 x.2).trans (hz)
end Go.Eng
set_option maxRecDepth 100000
set_option maxHeartbeats 4000000
namespace Go.Eng
open Go.Proofs Go.RowKit
noncomputable def Zuh:FuncId×Con:=(120,⟨[.pair (.leaf 4) (.pair (.leaf 4) (.pair (.leaf 4) (.leaf 4)))],[.bool],fun p=>Zng p⟩)
theorem sZero_i (x:Rat×Rat×Rat×Rat):Zl ⟨Tryz.prog,[(39,0),(41,2),(43,3),(91,1),(93,4)],[Zof],[],[],[],[],[]⟩ [] Tryz.f120 (.two .no (.two (.cut ⟨⟨[],[],[]⟩,[(.norm,⟨[],[],[.s 2 (.dat .bool)]⟩)]⟩ .no) .no)) [.pair (.leaf 4) (.pair (.leaf 4) (.pair (.leaf 4) (.leaf 4)))] [.bool] (x)=Zng x:=by kernel_rfl
theorem ZXr:Zk Tryz.prog Zuh.1 Zuh.2:=Zm (C:=⟨Tryz.prog,[(39,0),(41,2),(43,3),(91,1),(93,4)],[Zof],[],[],[],[],[]⟩) ⟨Zxn,trivial⟩ trivial trivial trivial (inl:=[]) trivial (ann:=(.two .no (.two (.cut ⟨⟨[],[],[]⟩,[(.norm,⟨[],[],[.s 2 (.dat .bool)]⟩)]⟩ .no) .no))) Tryz.func120 (fun _ _=>by kernel_rfl) rfl (fun v vals x z ha hz=>(sZero_i x).trans hz)
end Go.Eng
set_option maxRecDepth 100000
set_option maxHeartbeats 4000000
namespace Go.Eng
open Go.Proofs Go.RowKit
noncomputable def ZVd:FuncId×Con:=(76,⟨[.pair (.pair (.leaf 4) (.pair (.leaf 4) (.pair (.leaf 4) (.leaf 4)))) (.pair (.leaf 4) (.pair (.leaf 4) (.pair (.leaf 4) (.leaf 4))))],[.bool],fun p=>Z9f p⟩)
theorem wZero_i (x:(Rat×Rat×Rat×Rat)×Rat×Rat×Rat×Rat):Zl ⟨Tryz.prog,[(39,0),(41,2),(43,3),(91,1),(93,4)],[Zuh],[],[],[],[],[]⟩ [] Tryz.f76 (.two .no (.two (.cut ⟨⟨[],[],[]⟩,[(.norm,⟨[],[],[.s 2 (.dat .bool)]⟩)]⟩ .no) .no)) [.pair (.pair (.leaf 4) (.pair (.leaf 4) (.pair (.leaf 4) (.leaf 4)))) (.pair (.leaf 4) (.pair (.leaf 4) (.pair (.leaf 4) (.leaf 4))))] [.bool] (x)=Z9f x:=by kernel_rfl
theorem Ztm:Zk Tryz.prog ZVd.1 ZVd.2:=Zm (C:=⟨Tryz.prog,[(39,0),(41,2),(43,3),(91,1),(93,4)],[Zuh],[],[],[],[],[]⟩) ⟨ZXr,trivial⟩ trivial trivial trivial (inl:=[]) trivial (ann:=(.two .no (.two (.cut ⟨⟨[],[],[]⟩,[(.norm,⟨[],[],[.s 2 (.dat .bool)]⟩)]⟩ .no) .no))) Tryz.func76 (fun _ _=>by kernel_rfl) rfl (fun v vals x z ha hz=>(wZero_i x).trans hz)
theorem rneg_eq {x:Rat} (h:okQ x):ZQl x=some (-x):=by
 obtain ⟨h1,h2⟩:=h;unfold ZQl ZWb Zvb;rw [Za,if_pos ⟨Zld h1,Zld h2,x.den_nz⟩,Za];congr 1;have e:sgn (!(decide (x.num<0))) x.num.natAbs = -x.num:=by
  unfold sgn;by_cases h:x.num<0
  ·simp [h];omega
  ·simp [h];omega
 rw [e];exact Rat.mkRat_self (-x)
theorem ZAw {x z:Rat} (h:Z9b x=some z):ZQl x=some z:=by
 unfold Z9b at h;split at h
 ·rename_i hh;rw [rneg_eq hh,h]
 ·cases h
end Go.Eng
set_option maxRecDepth 100000
set_option maxHeartbeats 4000000
namespace Go.Eng
open Go.Proofs Go.RowKit
noncomputable def ZNh:FuncId×Con:=(158,⟨[.leaf 4],[.leaf 4],fun p=>Z9b p⟩)
theorem rneg_i (x:Rat):Zl ⟨Tryz.prog,[(91,1),(93,4)],[Zfc,ZSc],[],[],[],[],[]⟩ [] Tryz.f158 .no [.leaf 4] [.leaf 4] (x)=ZQl x:=by kernel_rfl
theorem ZNs:Zk Tryz.prog ZNh.1 ZNh.2:=Zm (C:=⟨Tryz.prog,[(91,1),(93,4)],[Zfc,ZSc],[],[],[],[],[]⟩) ⟨Zlh,ZNi,trivial⟩ trivial trivial trivial (inl:=[]) trivial (ann:=.no) Tryz.func158 (fun _ _=>by kernel_rfl) rfl fun v vals x z ha hz=>(rneg_i x).trans (ZAw hz)
end Go.Eng
set_option maxRecDepth 100000
set_option maxHeartbeats 4000000
namespace Go.Eng
open Go.Proofs Go.RowKit
noncomputable def Z3g:FuncId×Con:=(119,⟨[.pair (.leaf 4) (.pair (.leaf 4) (.pair (.leaf 4) (.leaf 4)))],[.pair (.leaf 4) (.pair (.leaf 4) (.pair (.leaf 4) (.leaf 4)))],fun p=>ZFg p⟩)
theorem sNeg_i (x:Rat×Rat×Rat×Rat):Zl ⟨Tryz.prog,[(39,0),(41,2),(43,3),(91,1),(93,4)],[ZNh],[],[],[],[],[]⟩ [] Tryz.f119 .no [.pair (.leaf 4) (.pair (.leaf 4) (.pair (.leaf 4) (.leaf 4)))] [.pair (.leaf 4) (.pair (.leaf 4) (.pair (.leaf 4) (.leaf 4)))] (x)=ZFg x:=by kernel_rfl
theorem Zcs:Zk Tryz.prog Z3g.1 Z3g.2:=Zm (C:=⟨Tryz.prog,[(39,0),(41,2),(43,3),(91,1),(93,4)],[ZNh],[],[],[],[],[]⟩) ⟨ZNs,trivial⟩ trivial trivial trivial (inl:=[]) trivial (ann:=.no) Tryz.func119 (fun _ _=>by kernel_rfl) rfl (fun v vals x z ha hz=>(sNeg_i x).trans hz)
end Go.Eng
set_option maxRecDepth 100000
set_option maxHeartbeats 4000000
namespace Go.Eng
open Go.Proofs Go.RowKit
noncomputable def ZMm:FuncId×Con:=(193,⟨[.leaf 1,.leaf 1],[.leaf 1],fun p=>ZBh p.1 p.2⟩)
theorem rsum_i (a:Nat) (b:Nat):Zl ⟨Tryz.prog,[(91,1),(93,4)],[Zxb],[],[],[],[],[]⟩ [] Tryz.f193 (.two .no (.two .no (.two .no (.two (.two .no (.cut ⟨⟨[],[],[]⟩,[(.norm,⟨[],[],[.s 5 (.own 185 (.int .u32)),.s 6 (.dat (.int .u64))]⟩)]⟩ (.two (.cut ⟨⟨[0,1],[],[.s 5 (.own 185 (.int .u32)),.s 6 (.dat (.int .u64)),.s 7 (.dat (.int .i64))]⟩,[(.exit 0,⟨[],[],[.s 5 (.own 185 (.int .u32)),.s 6 (.dat (.int .u64))]⟩)]⟩ (.two (.two (.two (.cut ⟨⟨[],[],[]⟩,[(.norm,⟨[0,1,5,6,7],[],[.s 18 (.dat .bool)]⟩)]⟩ .no) .no) (.two (.two (.two (.two .no (.cut ⟨⟨[],[],[]⟩,[(.norm,⟨[0,1,5,7],[],[.s 6 (.dat (.int .u64))]⟩)]⟩ .no)) (.two (.two .no (.cut ⟨⟨[],[],[]⟩,[(.norm,⟨[0,1,5,7],[],[.s 6 (.dat (.int .u64))]⟩)]⟩ .no)) .no)) .no) .no)) .no)) .no))) .no)))) [.leaf 1,.leaf 1] [.leaf 1] (a,b)=Z5m a b:=by kernel_rfl
theorem rsum_k:Zk Tryz.prog ZMm.1 ZMm.2:=Zm (C:=⟨Tryz.prog,[(91,1),(93,4)],[Zxb],[],[],[],[],[]⟩) ⟨Z5f,trivial⟩ trivial trivial trivial (inl:=[]) trivial (ann:=.two .no (.two .no (.two .no (.two (.two .no (.cut ⟨⟨[],[],[]⟩,[(.norm,⟨[],[],[.s 5 (.own 185 (.int .u32)),.s 6 (.dat (.int .u64))]⟩)]⟩ (.two (.cut ⟨⟨[0,1],[],[.s 5 (.own 185 (.int .u32)),.s 6 (.dat (.int .u64)),.s 7 (.dat (.int .i64))]⟩,[(.exit 0,⟨[],[],[.s 5 (.own 185 (.int .u32)),.s 6 (.dat (.int .u64))]⟩)]⟩ (.two (.two (.two (.cut ⟨⟨[],[],[]⟩,[(.norm,⟨[0,1,5,6,7],[],[.s 18 (.dat .bool)]⟩)]⟩ .no) .no) (.two (.two (.two (.two .no (.cut ⟨⟨[],[],[]⟩,[(.norm,⟨[0,1,5,7],[],[.s 6 (.dat (.int .u64))]⟩)]⟩ .no)) (.two (.two .no (.cut ⟨⟨[],[],[]⟩,[(.norm,⟨[0,1,5,7],[],[.s 6 (.dat (.int .u64))]⟩)]⟩ .no)) .no)) .no) .no)) .no)) .no))) .no)))) Tryz.func193 (fun _ _=>by kernel_rfl) rfl fun v vals x z ha hz=>(rsum_i x.1 x.2).trans (Z7x hz)
theorem radd_eq {x y:Rat} (h:smQ x) (h':smQ y):Ztk x y=some (x+y):=by
 obtain ⟨a1,a2⟩:=h;obtain ⟨b1,b2⟩:=h';unfold Ztk ZWb;have p1:=Zjb x.num.natAbs y.den;have p2:=Zjb y.num.natAbs x.den;have p3:=Zjb x.den y.den;have p4:=ZDo (x.num.natAbs*y.den) (y.num.natAbs*x.den);have hd:x.den*y.den≠0:=Nat.mul_ne_zero x.den_nz y.den_nz;have e1:Zra x.num.natAbs y.den=some (x.num.natAbs*y.den):=by unfold Zra;rw [if_pos ⟨ZDb (by omega),ZDb (by omega)⟩]
 have e2:Zra y.num.natAbs x.den=some (y.num.natAbs*x.den):=by unfold Zra;rw [if_pos ⟨ZDb (by omega),ZDb (by omega)⟩]
 have e3:Zra x.den y.den=some (x.den*y.den):=by unfold Zra;rw [if_pos ⟨ZDb (by omega),ZDb (by omega)⟩]
 have eN:((x.num.natAbs*y.den:Nat):Int)=(x.num.natAbs:Int)*y.den:=by simp
 have eM:((y.num.natAbs*x.den:Nat):Int)=(y.num.natAbs:Int)*x.den:=by simp
 have key:∀ (s:Bool) (n:Nat),bl n≤1099511627776→sgn s n=x.num*y.den+y.num*x.den→Zvb s n (x.den*y.den)=some (x+y):=by
  intro s n hn he;unfold Zvb;rw [if_pos ⟨Zld hn,Zld (by omega),hd⟩,he,← Rat.add_def']
 rw [Za,Za,e1,Za,e2,Za,e3];obtain ⟨N,hN⟩:∃ N,N=x.num.natAbs*y.den:=⟨_,rfl⟩;obtain ⟨M,hM⟩:∃ M,M=y.num.natAbs*x.den:=⟨_,rfl⟩;rw [← hN] at p1 p4 eN ⊢;rw [← hM] at p2 p4 eM ⊢;have sx:x.num*(y.den:Int)=if x.num<0 then -(N:Int) else N:=by
  split
  ·rw [eN,← Int.neg_mul];congr 1;omega
  ·rw [eN];congr 1;omega
 have sy:y.num*(x.den:Int)=if y.num<0 then -(M:Int) else M:=by
  split
  ·rw [eM,← Int.neg_mul];congr 1;omega
  ·rw [eM];congr 1;omega
 by_cases hs:(x.num<0)↔(y.num<0)
 ·have e4:ZBh N M=some (N+M):=by unfold ZBh;rw [if_pos ⟨ZDb (by omega),ZDb (by omega)⟩]
  have e5:((decide (x.num<0))==(decide (y.num<0)))=true:=by
   by_cases h:x.num<0
   ·simp [h,hs.1 h]
   ·have h2:¬ y.num<0:=fun k=>h (hs.2 k);simp [h,h2]
  rw [e5,Zf,e4,Za,Za,key _ _ (by omega) ?_,Za];rw [sx,sy];unfold sgn;by_cases h:x.num<0
  ·have h2:=hs.1 h;simp [h,h2];omega
  ·have h2:¬ y.num<0:=fun k=>h (hs.2 k);simp [h,h2]
 ·have e5:((decide (x.num<0))==(decide (y.num<0)))=false:=by
   apply beq_false_of_ne;intro h;exact hs (by by_cases k:x.num<0 <;> by_cases k2:y.num<0 <;> simp_all)
  rw [e5,Ze];unfold Zxd;rw [Za];by_cases hle:M≤N
  ·have e6:decide ((0:Int)≤Zia N M)=true:=by
    unfold Zia;rw [if_neg (by omega)];split <;> rfl
   have e4:Z7b N M=some (N-M):=by unfold Z7b;rw [if_pos ⟨ZDb (by omega),hle⟩]
   have hb:bl (N-M)≤bl N:=Zxe (by omega);rw [e6,Zf,e4,Za,Za,key _ _ (by omega) ?_,Za];rw [sx,sy];unfold sgn;by_cases h:x.num<0
   ·have h2:¬ y.num<0:=fun k=>hs ⟨fun _=>k,fun _=>h⟩;simp [h,h2];omega
   ·have h2:y.num<0:=by
     rcases Int.lt_or_le y.num 0 with k | k
     ·exact k
     ·exact absurd ⟨fun q=>absurd q h,fun q=>absurd q (by omega)⟩ hs
    simp [h,h2];omega
  ·have e6:decide ((0:Int)≤Zia N M)=false:=by
    unfold Zia;rw [if_pos (by omega)];rfl
   have e4:Z7b M N=some (M-N):=by unfold Z7b;rw [if_pos ⟨ZDb (by omega),by omega⟩]
   have hb:bl (M-N)≤bl M:=Zxe (by omega);rw [e6,Ze,e4,Za,Za,key _ _ (by omega) ?_,Za];rw [sx,sy];unfold sgn;by_cases h:x.num<0
   ·have h2:¬ y.num<0:=fun k=>hs ⟨fun _=>k,fun _=>h⟩;simp [h,h2];omega
   ·have h2:y.num<0:=by
     rcases Int.lt_or_le y.num 0 with k | k
     ·exact k
     ·exact absurd ⟨fun q=>absurd q h,fun q=>absurd q (by omega)⟩ hs
    simp [h,h2];omega
theorem Zvx {x y z:Rat} (h:ZCa x y=some z):Ztk x y=some z:=by
 unfold ZCa at h;split at h
 ·rename_i hh;rw [radd_eq hh.1 hh.2,h]
 ·cases h
end Go.Eng
set_option maxRecDepth 100000
set_option maxHeartbeats 4000000
namespace Go.Eng
open Go.Proofs Go.RowKit
noncomputable def Zdi:FuncId×Con:=(180,⟨[.leaf 4,.leaf 4],[.leaf 4],fun p=>ZCa p.1 p.2⟩)
theorem radd_i (x:Rat) (y:Rat):Zl ⟨Tryz.prog,[(91,1),(93,4)],[Zfc,Zwf,ZSc,Z2d,Zri,ZMm],[],[],[],[],[]⟩ [] Tryz.f180 .no [.leaf 4,.leaf 4] [.leaf 4] (x,y)=Ztk x y:=by kernel_rfl
theorem ZJr:Zk Tryz.prog Zdi.1 Zdi.2:=Zm (C:=⟨Tryz.prog,[(91,1),(93,4)],[Zfc,Zwf,ZSc,Z2d,Zri,ZMm],[],[],[],[],[]⟩) ⟨Zlh,ZRn,ZNi,Zwk,Zhs,rsum_k,trivial⟩ trivial trivial trivial (inl:=[]) trivial (ann:=.no) Tryz.func180 (fun _ _=>by kernel_rfl) rfl fun v vals x z ha hz=>(radd_i x.1 x.2).trans (Zvx hz)
end Go.Eng
set_option maxRecDepth 100000
set_option maxHeartbeats 4000000
namespace Go.Eng
open Go.Proofs Go.RowKit
noncomputable def ZWd:FuncId×Con:=(150,⟨[.pair (.leaf 4) (.pair (.leaf 4) (.pair (.leaf 4) (.leaf 4))),.pair (.leaf 4) (.pair (.leaf 4) (.pair (.leaf 4) (.leaf 4)))],[.pair (.leaf 4) (.pair (.leaf 4) (.pair (.leaf 4) (.leaf 4)))],fun p=>Zze p.1 p.2⟩)
theorem sAdd_i (x:Rat×Rat×Rat×Rat) (y:Rat×Rat×Rat×Rat):Zl ⟨Tryz.prog,[(39,0),(41,2),(43,3),(91,1),(93,4)],[Zdi],[],[],[],[],[]⟩ [] Tryz.f150 .no [.pair (.leaf 4) (.pair (.leaf 4) (.pair (.leaf 4) (.leaf 4))),.pair (.leaf 4) (.pair (.leaf 4) (.pair (.leaf 4) (.leaf 4)))] [.pair (.leaf 4) (.pair (.leaf 4) (.pair (.leaf 4) (.leaf 4)))] (x,y)=Zze x y:=by kernel_rfl
theorem Z1m:Zk Tryz.prog ZWd.1 ZWd.2:=Zm (C:=⟨Tryz.prog,[(39,0),(41,2),(43,3),(91,1),(93,4)],[Zdi],[],[],[],[],[]⟩) ⟨ZJr,trivial⟩ trivial trivial trivial (inl:=[]) trivial (ann:=.no) Tryz.func150 (fun _ _=>by kernel_rfl) rfl (fun v vals x z ha hz=>(sAdd_i x.1 x.2).trans hz)
end Go.Eng
set_option maxRecDepth 100000
set_option maxHeartbeats 4000000
namespace Go.Eng
open Go.Proofs Go.RowKit
noncomputable def ZYh:FuncId×Con:=(148,⟨[.pair (.leaf 4) (.pair (.leaf 4) (.pair (.leaf 4) (.leaf 4))),.pair (.leaf 4) (.pair (.leaf 4) (.pair (.leaf 4) (.leaf 4)))],[.pair (.leaf 4) (.pair (.leaf 4) (.pair (.leaf 4) (.leaf 4)))],fun p=>Zpg p.1 p.2⟩)
theorem sSub_i (x:Rat×Rat×Rat×Rat) (y:Rat×Rat×Rat×Rat):Zl ⟨Tryz.prog,[(39,0),(41,2),(43,3),(91,1),(93,4)],[Z3g,ZWd],[],[],[],[],[]⟩ [] Tryz.f148 .no [.pair (.leaf 4) (.pair (.leaf 4) (.pair (.leaf 4) (.leaf 4))),.pair (.leaf 4) (.pair (.leaf 4) (.pair (.leaf 4) (.leaf 4)))] [.pair (.leaf 4) (.pair (.leaf 4) (.pair (.leaf 4) (.leaf 4)))] (x,y)=Zpg x y:=by kernel_rfl
theorem ZHt:Zk Tryz.prog ZYh.1 ZYh.2:=Zm (C:=⟨Tryz.prog,[(39,0),(41,2),(43,3),(91,1),(93,4)],[Z3g,ZWd],[],[],[],[],[]⟩) ⟨Zcs,Z1m,trivial⟩ trivial trivial trivial (inl:=[]) trivial (ann:=.no) Tryz.func148 (fun _ _=>by kernel_rfl) rfl (fun v vals x z ha hz=>(sSub_i x.1 x.2).trans hz)
end Go.Eng
set_option maxRecDepth 100000
set_option maxHeartbeats 4000000
namespace Go.Eng
open Go.Proofs Go.RowKit
noncomputable def Zeh:FuncId×Con:=(111,⟨[.pair (.pair (.leaf 4) (.pair (.leaf 4) (.pair (.leaf 4) (.leaf 4)))) (.pair (.leaf 4) (.pair (.leaf 4) (.pair (.leaf 4) (.leaf 4)))),.pair (.pair (.leaf 4) (.pair (.leaf 4) (.pair (.leaf 4) (.leaf 4)))) (.pair (.leaf 4) (.pair (.leaf 4) (.pair (.leaf 4) (.leaf 4))))],[.pair (.pair (.leaf 4) (.pair (.leaf 4) (.pair (.leaf 4) (.leaf 4)))) (.pair (.leaf 4) (.pair (.leaf 4) (.pair (.leaf 4) (.leaf 4))))],fun p=>Zsh p.1 p.2⟩)
theorem wSub_i (x:(Rat×Rat×Rat×Rat)×Rat×Rat×Rat×Rat) (y:(Rat×Rat×Rat×Rat)×Rat×Rat×Rat×Rat):Zl ⟨Tryz.prog,[(39,0),(41,2),(43,3),(91,1),(93,4)],[ZYh],[],[],[],[],[]⟩ [] Tryz.f111 .no [.pair (.pair (.leaf 4) (.pair (.leaf 4) (.pair (.leaf 4) (.leaf 4)))) (.pair (.leaf 4) (.pair (.leaf 4) (.pair (.leaf 4) (.leaf 4)))),.pair (.pair (.leaf 4) (.pair (.leaf 4) (.pair (.leaf 4) (.leaf 4)))) (.pair (.leaf 4) (.pair (.leaf 4) (.pair (.leaf 4) (.leaf 4))))] [.pair (.pair (.leaf 4) (.pair (.leaf 4) (.pair (.leaf 4) (.leaf 4)))) (.pair (.leaf 4) (.pair (.leaf 4) (.pair (.leaf 4) (.leaf 4))))] (x,y)=Zsh x y:=by kernel_rfl
theorem Zyr:Zk Tryz.prog Zeh.1 Zeh.2:=Zm (C:=⟨Tryz.prog,[(39,0),(41,2),(43,3),(91,1),(93,4)],[ZYh],[],[],[],[],[]⟩) ⟨ZHt,trivial⟩ trivial trivial trivial (inl:=[]) trivial (ann:=.no) Tryz.func111 (fun _ _=>by kernel_rfl) rfl (fun v vals x z ha hz=>(wSub_i x.1 x.2).trans hz)
end Go.Eng
set_option maxRecDepth 100000
set_option maxHeartbeats 4000000
namespace Go.Eng
open Go.Proofs Go.RowKit
noncomputable def Z7j:FuncId×Con:=(68,⟨[.pair (.pair (.leaf 4) (.pair (.leaf 4) (.pair (.leaf 4) (.leaf 4)))) (.pair (.leaf 4) (.pair (.leaf 4) (.pair (.leaf 4) (.leaf 4)))),.pair (.pair (.leaf 4) (.pair (.leaf 4) (.pair (.leaf 4) (.leaf 4)))) (.pair (.leaf 4) (.pair (.leaf 4) (.pair (.leaf 4) (.leaf 4))))],[.bool],fun p=>Zmj p.1 p.2⟩)
theorem wSame_i (x:(Rat×Rat×Rat×Rat)×Rat×Rat×Rat×Rat) (y:(Rat×Rat×Rat×Rat)×Rat×Rat×Rat×Rat):Zl ⟨Tryz.prog,[(39,0),(41,2),(43,3),(91,1),(93,4)],[ZVd,Zeh],[],[],[],[],[]⟩ [] Tryz.f68 .no [.pair (.pair (.leaf 4) (.pair (.leaf 4) (.pair (.leaf 4) (.leaf 4)))) (.pair (.leaf 4) (.pair (.leaf 4) (.pair (.leaf 4) (.leaf 4)))),.pair (.pair (.leaf 4) (.pair (.leaf 4) (.pair (.leaf 4) (.leaf 4)))) (.pair (.leaf 4) (.pair (.leaf 4) (.pair (.leaf 4) (.leaf 4))))] [.bool] (x,y)=Zmj x y:=by kernel_rfl
theorem wSame_k:Zk Tryz.prog Z7j.1 Z7j.2:=Zm (C:=⟨Tryz.prog,[(39,0),(41,2),(43,3),(91,1),(93,4)],[ZVd,Zeh],[],[],[],[],[]⟩) ⟨Ztm,Zyr,trivial⟩ trivial trivial trivial (inl:=[]) trivial (ann:=.no) Tryz.func68 (fun _ _=>by kernel_rfl) rfl (fun v vals x z ha hz=>(wSame_i x.1 x.2).trans hz)
end Go.Eng
set_option maxRecDepth 100000
set_option maxHeartbeats 4000000
namespace Go.Eng
open Go.Proofs Go.RowKit
noncomputable def Z1g:FuncId×Con:=(28,⟨[.slice (.leaf 3),.slice (.pair (.pair (.leaf 4) (.pair (.leaf 4) (.pair (.leaf 4) (.leaf 4)))) (.pair (.leaf 4) (.pair (.leaf 4) (.pair (.leaf 4) (.leaf 4)))))],[.bool],fun p=>Z6f p.1 p.2⟩)
theorem is2_i (x:List Rat) (y:List ((Rat×Rat×Rat×Rat)×Rat×Rat×Rat×Rat)):Zl ⟨Tryz.prog,[(39,0),(41,2),(43,3),(91,1),(93,4)],[Z1d,Zfn,Z7j],[],[],[],[],[]⟩ [] Tryz.f28 (.two .no (.two .no (.two (.two .no (.two (.cut ⟨⟨[0,1,12],[],[.s 13 (.dat (.int .i64))]⟩,[(.exit 0,⟨[],[],[]⟩),(.ret,⟨[],[],[.s 1000 (.dat .bool)]⟩)]⟩ (.two (.two .no (.two .no (.two (.two (.two .no (.two (.cut ⟨⟨[],[],[]⟩,[(.norm,⟨[0,1,12,13],[],[.s 42 (.dat .bool)]⟩)]⟩ .no) .no)) .no) .no))) .no)) .no)) .no))) [.slice (.leaf 3),.slice (.pair (.pair (.leaf 4) (.pair (.leaf 4) (.pair (.leaf 4) (.leaf 4)))) (.pair (.leaf 4) (.pair (.leaf 4) (.pair (.leaf 4) (.leaf 4)))))] [.bool] (x,y)=Z6f x y:=by kernel_rfl
theorem is2_k:Zk Tryz.prog Z1g.1 Z1g.2:=Zm (C:=⟨Tryz.prog,[(39,0),(41,2),(43,3),(91,1),(93,4)],[Z1d,Zfn,Z7j],[],[],[],[],[]⟩) ⟨Z4l,is1_k,wSame_k,trivial⟩ trivial trivial trivial (inl:=[]) trivial (ann:=(.two .no (.two .no (.two (.two .no (.two (.cut ⟨⟨[0,1,12],[],[.s 13 (.dat (.int .i64))]⟩,[(.exit 0,⟨[],[],[]⟩),(.ret,⟨[],[],[.s 1000 (.dat .bool)]⟩)]⟩ (.two (.two .no (.two .no (.two (.two (.two .no (.two (.cut ⟨⟨[],[],[]⟩,[(.norm,⟨[0,1,12,13],[],[.s 42 (.dat .bool)]⟩)]⟩ .no) .no)) .no) .no))) .no)) .no)) .no)))) Tryz.func28 (fun _ _=>by kernel_rfl) rfl (fun v vals x z ha hz=>(is2_i x.1 x.2).trans hz)
end Go.Eng
set_option maxRecDepth 100000
set_option maxHeartbeats 4000000
namespace Go.Eng
open Go.Proofs Go.RowKit
noncomputable def Zpk:FuncId×Con:=(33,⟨[.slice (.slice (.leaf 3)),.slice (.slice (.pair (.pair (.leaf 4) (.pair (.leaf 4) (.pair (.leaf 4) (.leaf 4)))) (.pair (.leaf 4) (.pair (.leaf 4) (.pair (.leaf 4) (.leaf 4))))))],[.bool],fun p=>Z4m p.1 p.2⟩)
theorem ZCy (x:List (List Rat)) (y:List (List ((Rat×Rat×Rat×Rat)×Rat×Rat×Rat×Rat))):Zl ⟨Tryz.prog,[(39,0),(41,2),(43,3),(91,1),(93,4)],[Z1g],[],[],[],[],[]⟩ [] Tryz.f33 (.two .no (.two .no (.two (.two .no (.two (.cut ⟨⟨[0,1,12],[],[.s 13 (.dat (.int .i64))]⟩,[(.exit 0,⟨[],[],[]⟩),(.ret,⟨[],[],[.s 1000 (.dat .bool)]⟩)]⟩ .no) .no)) .no))) [.slice (.slice (.leaf 3)),.slice (.slice (.pair (.pair (.leaf 4) (.pair (.leaf 4) (.pair (.leaf 4) (.leaf 4)))) (.pair (.leaf 4) (.pair (.leaf 4) (.pair (.leaf 4) (.leaf 4))))))] [.bool] (x,y)=Z4m x y:=by kernel_rfl
theorem Ziv:Zk Tryz.prog Zpk.1 Zpk.2:=Zm (C:=⟨Tryz.prog,[(39,0),(41,2),(43,3),(91,1),(93,4)],[Z1g],[],[],[],[],[]⟩) ⟨is2_k,trivial⟩ trivial trivial trivial (inl:=[]) trivial (ann:=(.two .no (.two .no (.two (.two .no (.two (.cut ⟨⟨[0,1,12],[],[.s 13 (.dat (.int .i64))]⟩,[(.exit 0,⟨[],[],[]⟩),(.ret,⟨[],[],[.s 1000 (.dat .bool)]⟩)]⟩ .no) .no)) .no)))) Tryz.func33 (fun _ _=>by kernel_rfl) rfl (fun v vals x z ha hz=>(ZCy x.1 x.2).trans hz)
end Go.Eng
set_option maxRecDepth 100000
set_option maxHeartbeats 4000000
namespace Go.Eng
open Go.Proofs Go.RowKit
noncomputable def Zhh:FuncId×Con:=(79,⟨[.slice (.pair (.int .i64) (.int .i64))],[.slice (.pair (.leaf 4) (.pair (.leaf 4) (.pair (.leaf 4) (.leaf 4))))],fun p=>ZAj p⟩)
theorem ZNv (l:List (Int×Int)):Zl ⟨Tryz.prog,[(39,0),(41,2),(43,3),(91,1),(93,4)],[Z2h,ZLd],[],[],[],[],[]⟩ [] Tryz.f79 (.two .no (.two .no (.two (.two .no (.two (.cut ⟨⟨[6,7],[],[.s 3 (.own 95 (.pair (.leaf 4) (.pair (.leaf 4) (.pair (.leaf 4) (.leaf 4))))),.s 8 (.dat (.int .i64))]⟩,[(.exit 0,⟨[],[],[.s 3 (.own 95 (.pair (.leaf 4) (.pair (.leaf 4) (.pair (.leaf 4) (.leaf 4)))))]⟩)]⟩ .no) .no)) .no))) [.slice (.pair (.int .i64) (.int .i64))] [.slice (.pair (.leaf 4) (.pair (.leaf 4) (.pair (.leaf 4) (.leaf 4))))] (l)=ZAj l:=by kernel_rfl
theorem Z2s:Zk Tryz.prog Zhh.1 Zhh.2:=Zm (C:=⟨Tryz.prog,[(39,0),(41,2),(43,3),(91,1),(93,4)],[Z2h,ZLd],[],[],[],[],[]⟩) ⟨rof_k,ZGm,trivial⟩ trivial trivial trivial (inl:=[]) trivial (ann:=(.two .no (.two .no (.two (.two .no (.two (.cut ⟨⟨[6,7],[],[.s 3 (.own 95 (.pair (.leaf 4) (.pair (.leaf 4) (.pair (.leaf 4) (.leaf 4))))),.s 8 (.dat (.int .i64))]⟩,[(.exit 0,⟨[],[],[.s 3 (.own 95 (.pair (.leaf 4) (.pair (.leaf 4) (.pair (.leaf 4) (.leaf 4)))))]⟩)]⟩ .no) .no)) .no)))) Tryz.func79 (fun _ _=>by kernel_rfl) rfl (fun v vals x z ha hz=>(ZNv x).trans hz)
end Go.Eng
set_option maxRecDepth 100000
set_option maxHeartbeats 4000000
namespace Go.Eng
open Go.Proofs Go.RowKit
noncomputable def Zkl:FuncId×Con:=(78,⟨[.slice (.slice (.pair (.int .i64) (.int .i64)))],[.slice (.slice (.pair (.leaf 4) (.pair (.leaf 4) (.pair (.leaf 4) (.leaf 4)))))],fun p=>Zip p⟩)
theorem Z0y (m:List (List (Int×Int))):Zl ⟨Tryz.prog,[(39,0),(41,2),(43,3),(91,1),(93,4)],[Zhh],[],[],[],[],[]⟩ [] Tryz.f78 (.two .no (.two .no (.two (.two .no (.two (.cut ⟨⟨[0,3,9],[],[.s 10 (.dat (.int .i64)),.l (.sl 3) (.own 79 (.slice (.pair (.leaf 4) (.pair (.leaf 4) (.pair (.leaf 4) (.leaf 4))))))]⟩,[(.exit 0,⟨[3],[],[.l (.sl 3) (.own 79 (.slice (.pair (.leaf 4) (.pair (.leaf 4) (.pair (.leaf 4) (.leaf 4))))))]⟩)]⟩ .no) .no)) .no))) [.slice (.slice (.pair (.int .i64) (.int .i64)))] [.slice (.slice (.pair (.leaf 4) (.pair (.leaf 4) (.pair (.leaf 4) (.leaf 4)))))] (m)=Zip m:=by kernel_rfl
theorem ZDz:Zk Tryz.prog Zkl.1 Zkl.2:=Zm (C:=⟨Tryz.prog,[(39,0),(41,2),(43,3),(91,1),(93,4)],[Zhh],[],[],[],[],[]⟩) ⟨Z2s,trivial⟩ trivial trivial trivial (inl:=[]) trivial (ann:=(.two .no (.two .no (.two (.two .no (.two (.cut ⟨⟨[0,3,9],[],[.s 10 (.dat (.int .i64)),.l (.sl 3) (.own 79 (.slice (.pair (.leaf 4) (.pair (.leaf 4) (.pair (.leaf 4) (.leaf 4))))))]⟩,[(.exit 0,⟨[3],[],[.l (.sl 3) (.own 79 (.slice (.pair (.leaf 4) (.pair (.leaf 4) (.pair (.leaf 4) (.leaf 4))))))]⟩)]⟩ .no) .no)) .no)))) Tryz.func78 (fun _ _=>by kernel_rfl) rfl (fun v vals x z ha hz=>(Z0y x).trans hz)
end Go.Eng
set_option maxRecDepth 100000
set_option maxHeartbeats 4000000
namespace Go.Eng
open Go.Proofs Go.RowKit
noncomputable def Z6k:FuncId×Con:=(36,⟨[.slice (.slice (.pair (.int .i64) (.int .i64))),.slice (.pair (.int .i64) (.int .i64)),.slice (.pair (.int .i64) (.int .i64))],[.pair (.slice (.slice (.leaf 3))) (.pair (.slice (.leaf 3)) (.slice (.leaf 3))),.pair (.slice (.slice (.pair (.leaf 4) (.pair (.leaf 4) (.pair (.leaf 4) (.leaf 4)))))) (.pair (.slice (.pair (.leaf 4) (.pair (.leaf 4) (.pair (.leaf 4) (.leaf 4))))) (.slice (.pair (.leaf 4) (.pair (.leaf 4) (.pair (.leaf 4) (.leaf 4))))))],fun p=>Zzp p.1 p.2.1 p.2.2⟩)
theorem Zdv (a:List (List (Int×Int))) (b:List (Int×Int)) (c:List (Int×Int)):Zl ⟨Tryz.prog,[(39,0),(41,2),(43,3),(91,1),(93,4)],[ZDf,ZOf,Zkl,Zhh],[],[],[],[],[]⟩ [] Tryz.f36 .no [.slice (.slice (.pair (.int .i64) (.int .i64))),.slice (.pair (.int .i64) (.int .i64)),.slice (.pair (.int .i64) (.int .i64))] [.pair (.slice (.slice (.leaf 3))) (.pair (.slice (.leaf 3)) (.slice (.leaf 3))),.pair (.slice (.slice (.pair (.leaf 4) (.pair (.leaf 4) (.pair (.leaf 4) (.leaf 4)))))) (.pair (.slice (.pair (.leaf 4) (.pair (.leaf 4) (.pair (.leaf 4) (.leaf 4))))) (.slice (.pair (.leaf 4) (.pair (.leaf 4) (.pair (.leaf 4) (.leaf 4))))))] (a,b,c)=Zzp a b c:=by kernel_rfl
theorem Ztz:Zk Tryz.prog Z6k.1 Z6k.2:=Zm (C:=⟨Tryz.prog,[(39,0),(41,2),(43,3),(91,1),(93,4)],[ZDf,ZOf,Zkl,Zhh],[],[],[],[],[]⟩) ⟨ZVo,Zao,ZDz,Z2s,trivial⟩ trivial trivial trivial (inl:=[]) trivial (ann:=.no) Tryz.func36 (fun _ _=>by kernel_rfl) rfl (fun v vals x z ha hz=>(Zdv x.1 x.2.1 x.2.2).trans hz)
end Go.Eng
set_option maxRecDepth 100000
set_option maxHeartbeats 4000000
namespace Go.Eng
open Go.Proofs Go.RowKit
noncomputable def ZPh:FuncId×Con:=(80,⟨[.pair (.slice (.slice (.leaf 3))) (.pair (.slice (.leaf 3)) (.slice (.leaf 3)))],[.int .i64],fun p=>Z8j p⟩)
theorem Zmv (p:(List (List Rat))×(List Rat)×(List Rat)):Zl ⟨Tryz.prog,[(39,0),(41,2),(43,3),(91,1),(93,4)],[],[],[],[],[],[]⟩ [(93,Tryz.f93,.no),(121,Tryz.f121,.no),(137,Tryz.f137,.cut ⟨⟨[],[],[]⟩,[(.ret,⟨[],[],[.s 1000 (.dat (.int .i64))]⟩)]⟩ (.two .no (.two (.two .no (.two (.cut ⟨⟨[0,1,7],[],[.s 8 (.dat (.int .i64))]⟩,[(.exit 0,⟨[],[],[]⟩),(.ret,⟨[],[],[.s 1000 (.dat (.int .i64))]⟩)]⟩ .no) .no)) .no)))] Tryz.f80 (.two .no (.two (.two (.cut ⟨⟨[],[],[]⟩,[(.norm,⟨[],[],[.s 27 (.dat .bool)]⟩)]⟩ .no) .no) .no)) [.pair (.slice (.slice (.leaf 3))) (.pair (.slice (.leaf 3)) (.slice (.leaf 3)))] [.int .i64] (p)=Z8j p:=by kernel_rfl
theorem Zlr:Zk Tryz.prog ZPh.1 ZPh.2:=Zm (C:=⟨Tryz.prog,[(39,0),(41,2),(43,3),(91,1),(93,4)],[],[],[],[],[],[]⟩) trivial trivial trivial trivial (inl:=[(93,Tryz.f93,.no),(121,Tryz.f121,.no),(137,Tryz.f137,.cut ⟨⟨[],[],[]⟩,[(.ret,⟨[],[],[.s 1000 (.dat (.int .i64))]⟩)]⟩ (.two .no (.two (.two .no (.two (.cut ⟨⟨[0,1,7],[],[.s 8 (.dat (.int .i64))]⟩,[(.exit 0,⟨[],[],[]⟩),(.ret,⟨[],[],[.s 1000 (.dat (.int .i64))]⟩)]⟩ .no) .no)) .no)))]) ⟨⟨Tryz.func93,fun _ _=>by kernel_rfl⟩,⟨Tryz.func121,fun _ _=>by kernel_rfl⟩,⟨Tryz.func137,fun _ _=>by kernel_rfl⟩,trivial⟩ (ann:=(.two .no (.two (.two (.cut ⟨⟨[],[],[]⟩,[(.norm,⟨[],[],[.s 27 (.dat .bool)]⟩)]⟩ .no) .no) .no))) Tryz.func80 (fun _ _=>by kernel_rfl) rfl (fun v vals x z ha hz=>(Zmv x).trans hz)
end Go.Eng
set_option maxRecDepth 100000
set_option maxHeartbeats 4000000
namespace Go.Eng
open Go.Proofs Go.RowKit
noncomputable def ZKm:FuncId×Con:=(118,⟨[.leaf 2],[.int .i64],fun p=>ZMi p⟩)
theorem isign_i (x:Int):Zl ⟨Tryz.prog,[(39,0),(41,2),(43,3)],[],[],[],[],[],[]⟩ [] Tryz.f118 .no [.leaf 2] [.int .i64] (x)=ZGn x:=by kernel_rfl
theorem isign_k:Zk Tryz.prog ZKm.1 ZKm.2:=Zm (C:=⟨Tryz.prog,[(39,0),(41,2),(43,3)],[],[],[],[],[],[]⟩) trivial trivial trivial trivial (inl:=[]) trivial (ann:=.no) Tryz.func118 (fun _ _=>by kernel_rfl) rfl fun v vals x z ha hz=>(isign_i x).trans (ZGz hz)
end Go.Eng
set_option maxRecDepth 100000
set_option maxHeartbeats 4000000
namespace Go.Eng
open Go.Proofs Go.RowKit
noncomputable def ZZd:FuncId×Con:=(72,⟨[.leaf 3],[.int .i64],fun p=>ZEd p⟩)
theorem qsign_i (x:Rat):Zl ⟨Tryz.prog,[(39,0),(41,2),(43,3)],[ZKm],[],[],[],[],[]⟩ [] Tryz.f72 .no [.leaf 3] [.int .i64] (x)=Zoo x:=by kernel_rfl
theorem Zjk:Zk Tryz.prog ZZd.1 ZZd.2:=Zm (C:=⟨Tryz.prog,[(39,0),(41,2),(43,3)],[ZKm],[],[],[],[],[]⟩) ⟨isign_k,trivial⟩ trivial trivial trivial (inl:=[]) trivial (ann:=.no) Tryz.func72 (fun _ _=>by kernel_rfl) rfl fun v vals x z ha hz=>(qsign_i x).trans (ZRw hz)
end Go.Eng
set_option maxRecDepth 100000
set_option maxHeartbeats 4000000
namespace Go.Eng
open Go.Proofs Go.RowKit
noncomputable def Z7f:FuncId×Con:=(31,⟨[.leaf 3,.leaf 3],[.int .i64],fun p=>Zmf p.1 p.2⟩)
theorem qcmp_i (x:Rat) (y:Rat):Zl ⟨Tryz.prog,[(39,0),(41,2),(43,3)],[Zme,ZZd],[],[],[],[],[]⟩ [] Tryz.f31 .no [.leaf 3,.leaf 3] [.int .i64] (x,y)=Zqn x y:=by kernel_rfl
theorem ZPp:Zk Tryz.prog Z7f.1 Z7f.2:=Zm (C:=⟨Tryz.prog,[(39,0),(41,2),(43,3)],[Zme,ZZd],[],[],[],[],[]⟩) ⟨Zok,Zjk,trivial⟩ trivial trivial trivial (inl:=[]) trivial (ann:=.no) Tryz.func31 (fun _ _=>by kernel_rfl) rfl fun v vals x z ha hz=>(qcmp_i x.1 x.2).trans (Z5z hz)
end Go.Eng
namespace Go.Eng
open Go.RowKit
def endO (ty:TypeId) (t:T) (c:V) (l:Lo):Option (List t.den):=match c with
 | .cons (.own u) .nl=>match lkE l u with
  | some ⟨_,_,.own ty' t' xs false⟩=>match Nat.beq ty' ty with
   | true=>ZMc t' t xs
   | false=>none
  | _=>none
 | _=>none
def Znn (C:Cf) (inl:Inl) (fn:Func) (ann:Ann) (ats:List T) (ty:TypeId) (t:T) (x:Zka ats):Option (List t.den):=match fn.body with
 | some c=>Zbc C (Zah C inl 20) fn.results.toList 0 fn.ntmps c _ ann (Zqc 0 0 (Z4e ats x)) [] 1 ⟨fun _ _ _=>none,fun _ _ _ _=>none,fun c l _=>endO ty t c l⟩
 | none=>none
theorem ZCv {C:Cf} (hC:CfOK C) {inl:Inl} (hinl:Z9c C inl) {f:FuncId} {fn:Func} {ann:Ann} {ats:List T} {ty:TypeId} {t:T} {x:Zka ats} {z:List t.den} (hf:C.P.funcs[f]? = some fn) (hl:Nat.ble ats.length fn.ntmps=true) (h:Znn C inl fn ann ats ty t x=some z)
  {w:World} {v:Zb} {vals:List Value} (hv:VIn v w) (ha:ZQb v ats vals x):RetO C.P f vals.toArray w v fun y v' w'=>OwnR t.rep ty t.n z w y v' w':=by
 unfold Znn at h;split at h
 ·rename_i c hc;obtain ⟨h1,h2,h3⟩:=Zfl (γ:=fun _=>.box 0) (l:=[]) (U:=(· < 0)) ha;have hK:vals.length≤fn.ntmps:=by rw [h3];exact Nat.le_of_ble_eq_true hl
  refine Zum hv hf hc rfl hK fun a hS=>?_;have hr:RelX fn.ntmps (fun _ _=>False) w v (· < 1) (· < 1) (Zqc 0 0 (Z4e ats x)) [] a w (fun _=>.box 0) v []:=by
   refine ⟨⟨hS.size,hS.dfr,fun t x h=>(by cases h),hS.ext,hS.vst,hS.loc,hS.nd⟩,fun t e he=>?_,⟨[],trivial,List.Perm.refl _⟩,List.nodup_nil,fun t e he=>?_,fun e he=>(by cases he),fun x y h=>h.elim⟩
   ·obtain ⟨y,q1,q2,q3,q4,q5⟩:=Zod h1 h2 he;have:=hS.fr t y ?_
    ·rw [this];exact q3
    ·have q2:vals[t-0]? = some y:=q2;have:=Zkk (k:=0) (t:=t) (y:=y) (by simpa using q2)
     rwa [Nat.zero_add] at this
   ·obtain ⟨y,q1,q2,q3,q4,q5⟩:=Zod h1 h2 he;exact ⟨V.ok.mono (fun k h=>absurd h (Nat.not_lt_zero k)) q4,by show e.st<1;omega⟩
  refine ZBk hC (Z2p hC hinl 20) c h ⟨_,_,_,hr⟩ ⟨fun f' l' n' a' w' hp hn' ho' hr'=>(by cases hp),fun i f' l' n' a' w' hp hn' ho' hr'=>(by cases hp),fun c l' n' a' w' hp hn' ho' hr'=>?_⟩;obtain ⟨γ',v',ℓ',vals',hr',hc',hk',hres⟩:=hr';have hp:endO ty t c l'=some z:=hp;unfold endO at hp;split at hp
  ·rename_i u;split at hp
   ·rename_i kk st ty' t' xs he;split at hp
    ·rename_i hty;have hty:=Nat.eq_of_beq_eq_true hty;subst hty;obtain ⟨e1,e2⟩:=Zaa hp
     cases e1;cases e2
     obtain ⟨c1,xs1,rfl,⟨y,rfl,_,hy⟩,hx1⟩:=hc';have hx1:xs1=[]:=hx1;subst hx1;obtain ⟨ob,cap,g1,rfl⟩:=hy _ he;obtain ⟨hkk,es,hes,hmem⟩:=hr'.loc he;have hkk:kk=_:=hkk;subst hkk;obtain ⟨ob',cap',cs,q1,q2,rfl⟩:=hes;have q1:γ' kk = .own ob' cap':=q1;rw [g1] at q1;cases q1;obtain ⟨jj,hj⟩:=hmem _ List.mem_cons_self;obtain ⟨hh,hb⟩:=hr'.st.loc _ (List.mem_of_getElem? hj);refine ⟨hr'.st.dfr,_,ZWi hres,_,v',rfl,hr'.st.ext.ext,hr'.st.vst.ext,ob,_,cap,cs,rfl,hh,fun b e=>?_,q2,rfl⟩;obtain ⟨h1,h2⟩:=hb b e;rcases h1 with h1 | h1
     ·exact ⟨h1,h2⟩
     ·cases h1
    ·cases hp
   ·cases hp
  ·cases hp
 ·cases h
theorem cono_k {C:Cf} (hc:CL C.P C.cons) (ho:OL C.P C.owns) (hi:IL C.P C.ins) (hm:ML C.P C.meths) {inl:Inl} (hn:NL C.P inl) {f:FuncId} {fn:Func} {ann:Ann} {con:ConO} (hf:C.P.funcs[f]? = some fn) (hen:Z8 C.P f) (hl:Nat.ble con.args.length fn.ntmps=true)
  (h:∀ x z,con.F x=some z→Znn C inl fn ann con.args con.ty con.t x=some z) (hq:QL C.P C.omats:=by exact trivial):Ztg C.P f con :=
 fun _ _ _ x z hv ha hz=>⟨hen,ZCv (CfOK.of hc ho hi hm hq) (Z9c.of hn) hf hl (h x z hz) hv ha⟩
def endM (ty ty2:TypeId) (t:T) (c:V) (l:Lo):Option (List (List t.den)):=match c with
 | .cons (.own u) .nl=>match lkE l u with
  | some ⟨_,_,.mat ty' ty2' t' m _⟩=>match Nat.beq ty' ty,Nat.beq ty2' ty2 with
   | true,true=>ZEb t' t m
   | _,_=>none
  | _=>none
 | _=>none
def ZHi (C:Cf) (inl:Inl) (fn:Func) (ann:Ann) (ats:List T) (ty ty2:TypeId) (t:T) (x:Zka ats):Option (List (List t.den)):=match fn.body with
 | some c=>Zbc C (Zah C inl 20) fn.results.toList 0 fn.ntmps c _ ann (Zqc 0 0 (Z4e ats x)) [] 1 ⟨fun _ _ _=>none,fun _ _ _ _=>none,fun c l _=>endM ty ty2 t c l⟩
 | none=>none
theorem Zox {ℓ es:List Loc} {E:List Loc} (h:(ℓ.filterMap Loc.blk).Nodup) (hp:ℓ.Perm (es++E)):(es.filterMap Loc.blk).Nodup:=by
 have h1:=(hp.filterMap Loc.blk).nodup_iff.1 h;rw [List.filterMap_append] at h1;exact (List.nodup_append.1 h1).1
theorem Z6u {C:Cf} (hC:CfOK C) {inl:Inl} (hinl:Z9c C inl) {f:FuncId} {fn:Func} {ann:Ann} {ats:List T} {ty ty2:TypeId} {t:T} {x:Zka ats} {z:List (List t.den)} (hf:C.P.funcs[f]? = some fn) (hl:Nat.ble ats.length fn.ntmps=true) (h:ZHi C inl fn ann ats ty ty2 t x=some z)
  {w:World} {v:Zb} {vals:List Value} (hv:VIn v w) (ha:ZQb v ats vals x):RetO C.P f vals.toArray w v (OwnM ty ty2 t z w):=by
 unfold ZHi at h;split at h
 ·rename_i c hc;obtain ⟨h1,h2,h3⟩:=Zfl (γ:=fun _=>.box 0) (l:=[]) (U:=(· < 0)) ha;have hK:vals.length≤fn.ntmps:=by rw [h3];exact Nat.le_of_ble_eq_true hl
  refine Zum hv hf hc rfl hK fun a hS=>?_;have hr:RelX fn.ntmps (fun _ _=>False) w v (· < 1) (· < 1) (Zqc 0 0 (Z4e ats x)) [] a w (fun _=>.box 0) v []:=by
   refine ⟨⟨hS.size,hS.dfr,fun t x h=>(by cases h),hS.ext,hS.vst,hS.loc,hS.nd⟩,fun t e he=>?_,⟨[],trivial,List.Perm.refl _⟩,List.nodup_nil,fun t e he=>?_,fun e he=>(by cases he),fun x y h=>h.elim⟩
   ·obtain ⟨y,q1,q2,q3,q4,q5⟩:=Zod h1 h2 he;have:=hS.fr t y ?_
    ·rw [this];exact q3
    ·have q2:vals[t-0]? = some y:=q2;have:=Zkk (k:=0) (t:=t) (y:=y) (by simpa using q2)
     rwa [Nat.zero_add] at this
   ·obtain ⟨y,q1,q2,q3,q4,q5⟩:=Zod h1 h2 he;exact ⟨V.ok.mono (fun k h=>absurd h (Nat.not_lt_zero k)) q4,by show e.st<1;omega⟩
  refine ZBk hC (Z2p hC hinl 20) c h ⟨_,_,_,hr⟩ ⟨fun f' l' n' a' w' hp hn' ho' hr'=>(by cases hp),fun i f' l' n' a' w' hp hn' ho' hr'=>(by cases hp),fun c l' n' a' w' hp hn' ho' hr'=>?_⟩;obtain ⟨γ',v',ℓ',vals',hr',hc',hk',hres⟩:=hr';have hp:endM ty ty2 t c l'=some z:=hp;unfold endM at hp;split at hp
  ·rename_i u;split at hp
   ·rename_i kk st ty' ty2' t' m' hv' he;split at hp
    ·rename_i hty hty2;have hty:=Nat.eq_of_beq_eq_true hty;have hty2:=Nat.eq_of_beq_eq_true hty2;subst hty hty2;obtain ⟨e1,e2⟩:=Zaa hp
     cases e1;cases e2
     obtain ⟨c1,xs1,rfl,⟨y,rfl,_,hy⟩,hx1⟩:=hc';have hx1:xs1=[]:=hx1;subst hx1;obtain ⟨ob,cap,rows0,g1,rfl⟩:=hy _ he;obtain ⟨E,hE,hpm⟩:=hr'.lr;obtain ⟨es,E',r1,r2,r3⟩:=ZNg hE he;obtain ⟨ob',cap',rows,es2,q1,q2,rfl⟩:=r1;have hkk:kk=_:=(Zz he).2;subst hkk;have q1:γ' kk = .mat ob' cap' rows:=q1;rw [g1] at q1;cases q1;refine ⟨hr'.st.dfr,_,ZWi hres,_,v',rfl,hr'.st.ext.ext,hr'.st.vst.ext,_,_,_,es2,rfl,q2,fun x hx=>?_,Zox hr'.st.nd (hpm.trans r3)⟩;obtain ⟨hh,hb⟩:=hr'.st.loc x ((hpm.trans r3).mem_iff.2 (List.mem_append_left _ hx));refine ⟨hh,fun b e=>?_⟩;obtain ⟨h1,h2⟩:=hb b e;rcases h1 with h1 | h1
     ·exact ⟨h1,h2⟩
     ·cases h1
    ·cases hp
   ·cases hp
  ·cases hp
 ·cases h
theorem ZSt {C:Cf} (hc:CL C.P C.cons) (ho:OL C.P C.owns) (hi:IL C.P C.ins) (hm:ML C.P C.meths) {inl:Inl} (hn:NL C.P inl) {f:FuncId} {fn:Func} {ann:Ann} {con:ConM} (hf:C.P.funcs[f]? = some fn) (hen:Z8 C.P f) (hl:Nat.ble con.args.length fn.ntmps=true)
  (h:∀ x z,con.F x=some z→ZHi C inl fn ann con.args con.ty con.ty2 con.t x=some z) (hq:QL C.P C.omats:=by exact trivial):ZUg C.P f con :=
 fun _ _ _ x z hv ha hz=>⟨hen,Z6u (CfOK.of hc ho hi hm hq) (Z9c.of hn) hf hl (h x z hz) hv ha⟩
end Go.Eng
set_option maxRecDepth 100000
set_option maxHeartbeats 4000000
namespace Go.Eng
open Go.Proofs Go.RowKit
noncomputable def ZOc:FuncId×ConO:=(49,⟨[.int .i64],43,.leaf 3,fun p=>Zcg p⟩)
theorem Zix (n:Int):Znn ⟨Tryz.prog,[(39,0),(41,2),(43,3),(91,1),(93,4)],[Zmc],[],[Zqf],[],[],[]⟩ [] Tryz.f49 .no [.int .i64] 43 (.leaf 3) (n)=Zcg n:=by kernel_rfl
theorem ZGi:Ztg Tryz.prog ZOc.1 ZOc.2:=cono_k (C:=⟨Tryz.prog,[(39,0),(41,2),(43,3),(91,1),(93,4)],[Zmc],[],[Zqf],[],[],[]⟩) ⟨Zrh,trivial⟩ ⟨Zjo,trivial⟩ trivial trivial (inl:=[]) trivial (ann:=.no) Tryz.func49 (fun _ _=>by kernel_rfl) rfl (fun x z hz=>(Zix x).trans hz)
end Go.Eng
set_option maxRecDepth 100000
set_option maxHeartbeats 4000000
namespace Go.Eng
open Go.Proofs Go.RowKit
noncomputable def Zdl:FuncId×ConM:=(95,⟨[.slice (.slice (.leaf 3))],30,43,.leaf 3,fun p=>Zbp p⟩)
theorem ZRy (m:List (List Rat)):ZHi ⟨Tryz.prog,[(39,0),(41,2),(43,3),(91,1),(93,4)],[],[8],[ZOd],[],[],[]⟩ [] Tryz.f95 (.two .no (.two .no (.two (.two .no (.two (.cut ⟨⟨[3,9,10],[],[.s 11 (.dat (.int .i64)),.l (.sl 3) (.mat 30 43 (.leaf 3))]⟩,[(.exit 0,⟨[3],[],[.l (.sl 3) (.mat 30 43 (.leaf 3))]⟩)]⟩ .no) .no)) .no))) [.slice (.slice (.leaf 3))] 30 43 (.leaf 3) (m)=Zbp m:=by kernel_rfl
theorem Zyw:ZUg Tryz.prog Zdl.1 Zdl.2:=ZSt (C:=⟨Tryz.prog,[(39,0),(41,2),(43,3),(91,1),(93,4)],[],[8],[ZOd],[],[],[]⟩) trivial ⟨ZSl,trivial⟩ trivial trivial (inl:=[]) trivial (ann:=(.two .no (.two .no (.two (.two .no (.two (.cut ⟨⟨[3,9,10],[],[.s 11 (.dat (.int .i64)),.l (.sl 3) (.mat 30 43 (.leaf 3))]⟩,[(.exit 0,⟨[3],[],[.l (.sl 3) (.mat 30 43 (.leaf 3))]⟩)]⟩ .no) .no)) .no)))) Tryz.func95 (fun _ _=>by kernel_rfl) rfl (fun x z hz=>(ZRy x).trans hz)
end Go.Eng
set_option maxRecDepth 100000
set_option maxHeartbeats 4000000
namespace Go.Eng
open Go.Proofs Go.RowKit
noncomputable def ZOk:FuncId×Con:=(125,⟨[.ptr (.pair (.slice (.slice (.leaf 3))) (.pair (.slice (.leaf 3)) (.pair (.slice (.leaf 3)) (.pair (.leaf 3) (.pair (.slice (.int .i64)) (.slice (.int .i64))))))),.int .i64],[.slice (.leaf 3)],fun p=>Zdm p.1 p.2⟩)
theorem ZUv (t:(List (List Rat))×(List Rat)×(List Rat)×Rat×(List Int)×(List Int)) (n:Int):Zl ⟨Tryz.prog,[(39,0),(41,2),(43,3),(91,1),(93,4)],[],[],[ZOc],[],[],[]⟩ [] Tryz.f125 (.two .no (.two .no (.two (.two .no (.two (.cut ⟨⟨[0,1,5,13,14],[],[.s 15 (.dat (.int .i64)),.l (.sl 5) (.own 43 (.leaf 3))]⟩,[(.exit 0,⟨[5],[],[.l (.sl 5) (.own 43 (.leaf 3))]⟩)]⟩ (.two (.two .no (.two .no (.two (.two (.two .no (.two .no (.cut ⟨⟨[],[],[]⟩,[(.norm,⟨[0,1,5,13,14,15],[],[.l (.sl 5) (.own 43 (.leaf 3))]⟩)]⟩ .no))) .no) .no))) .no)) .no)) .no))) [.ptr (.pair (.slice (.slice (.leaf 3))) (.pair (.slice (.leaf 3)) (.pair (.slice (.leaf 3)) (.pair (.leaf 3) (.pair (.slice (.int .i64)) (.slice (.int .i64))))))),.int .i64] [.slice (.leaf 3)] (t,n)=Zdm t n:=by kernel_rfl
theorem ZEx:Zk Tryz.prog ZOk.1 ZOk.2:=Zm (C:=⟨Tryz.prog,[(39,0),(41,2),(43,3),(91,1),(93,4)],[],[],[ZOc],[],[],[]⟩) trivial ⟨ZGi,trivial⟩ trivial trivial (inl:=[]) trivial (ann:=(.two .no (.two .no (.two (.two .no (.two (.cut ⟨⟨[0,1,5,13,14],[],[.s 15 (.dat (.int .i64)),.l (.sl 5) (.own 43 (.leaf 3))]⟩,[(.exit 0,⟨[5],[],[.l (.sl 5) (.own 43 (.leaf 3))]⟩)]⟩ (.two (.two .no (.two .no (.two (.two (.two .no (.two .no (.cut ⟨⟨[],[],[]⟩,[(.norm,⟨[0,1,5,13,14,15],[],[.l (.sl 5) (.own 43 (.leaf 3))]⟩)]⟩ .no))) .no) .no))) .no)) .no)) .no)))) Tryz.func125 (fun _ _=>by kernel_rfl) rfl (fun v vals x z ha hz=>(ZUv x.1 x.2).trans hz)
end Go.Eng
set_option maxRecDepth 100000
set_option maxHeartbeats 4000000
namespace Go.Eng
open Go.Proofs Go.RowKit
noncomputable def ZZm:FuncId×Con:=(126,⟨[.ptr (.pair (.slice (.slice (.leaf 3))) (.pair (.slice (.leaf 3)) (.pair (.slice (.leaf 3)) (.pair (.leaf 3) (.pair (.slice (.int .i64)) (.slice (.int .i64))))))),.int .i64,.int .i64],[.slice (.leaf 3)],fun p=>Z2o p.1 p.2.1 p.2.2⟩)
theorem ZGv (t : (List (List Rat)) × (List Rat) × (List Rat) × Rat × (List Int) × (List Int)) (n : Int) (k : Int) : Zl ⟨Tryz.prog, [(39, 0), (41, 2), (43, 3), (91, 1), (93, 4)], [ZRc], [], [ZOc], [], [((43, "Neg"), 117)], []⟩ [] Tryz.f126 (.two .no (.two .no (.two (.two .no (.two (.cut ⟨⟨[0, 1, 2, 7, 15, 16], [], [.s 17 (.dat (.int .i64)), .l (.sl 7) (.own 43 (.leaf 3))]⟩, [(.exit 0, ⟨[7], [], [.l (.sl 7) (.own 43 (.leaf 3))]⟩)]⟩ (.two (.two .no (.two .no (.two (.two (.two .no (.two (.cut ⟨⟨[], [], []⟩, [(.norm, ⟨[0, 1, 2, 7, 8, 9, 15, 16, 17], [], [.s 31 (.dat .bool)]⟩)]⟩ .no) (.cut ⟨⟨[], [], []⟩, [(.norm, ⟨[0, 1, 2, 7, 15, 16, 17], [], [.l (.sl 7) (.own 43 (.leaf 3))]⟩)]⟩ .no))) .no) .no))) .no)) .no)) .no))) [.ptr (.pair (.slice (.slice (.leaf 3))) (.pair (.slice (.leaf 3)) (.pair (.slice (.leaf 3)) (.pair (.leaf 3) (.pair (.slice (.int .i64)) (.slice (.int .i64))))))), .int .i64, .int .i64] [.slice (.leaf 3)] (t, n, k) = Z2o t n k := by kernel_rfl
theorem ZQw : Zk Tryz.prog ZZm.1 ZZm.2 := Zm (C := ⟨Tryz.prog, [(39, 0), (41, 2), (43, 3), (91, 1), (93, 4)], [ZRc], [], [ZOc], [], [((43, "Neg"), 117)], []⟩) ⟨Zij, trivial⟩ ⟨ZGi, trivial⟩ trivial ⟨Zqm, trivial⟩ (inl := []) trivial (ann := (.two .no (.two .no (.two (.two .no (.two (.cut ⟨⟨[0, 1, 2, 7, 15, 16], [], [.s 17 (.dat (.int .i64)), .l (.sl 7) (.own 43 (.leaf 3))]⟩, [(.exit 0, ⟨[7], [], [.l (.sl 7) (.own 43 (.leaf 3))]⟩)]⟩ (.two (.two .no (.two .no (.two (.two (.two .no (.two (.cut ⟨⟨[], [], []⟩, [(.norm, ⟨[0, 1, 2, 7, 8, 9, 15, 16, 17], [], [.s 31 (.dat .bool)]⟩)]⟩ .no) (.cut ⟨⟨[], [], []⟩, [(.norm, ⟨[0, 1, 2, 7, 15, 16, 17], [], [.l (.sl 7) (.own 43 (.leaf 3))]⟩)]⟩ .no))) .no) .no))) .no)) .no)) .no)))) Tryz.func126 (fun _ _ => by kernel_rfl) rfl (fun v vals x z ha hz => (ZGv x.1 x.2.1 x.2.2).trans hz)
end Go.Eng
set_option maxRecDepth 100000
set_option maxHeartbeats 4000000
namespace Go.Eng
open Go.Proofs Go.RowKit
noncomputable def ZHm:FuncId×Con:=(81,⟨[.pair (.slice (.slice (.leaf 3))) (.pair (.slice (.leaf 3)) (.slice (.leaf 3)))],[.pair (.int .i64) (.pair (.leaf 3) (.pair (.slice (.leaf 3)) (.pair (.slice (.leaf 3)) (.slice (.leaf 3)))))],fun p=>ZAp p⟩)
theorem Zuu (p : (List (List Rat)) × (List Rat) × (List Rat)) : Zl ⟨Tryz.prog, [(39, 0), (41, 2), (43, 3), (91, 1), (93, 4)], [ZQc, Z0c, ZXc, Z7f, Zmc, Zme, ZZd, ZRc, ZOk, ZZm, Zki], [], [ZOc, ZOd], [], [((43, "Add"), 23), ((43, "Cmp"), 31), ((43, "Div"), 213), ((43, "Mul"), 30), ((43, "Neg"), 117), ((43, "Sign"), 72), ((43, "Sub"), 71), ((43, "Zero"), 22)], [Zdl]⟩ [(122, Tryz.f122, .two .no (.two .no (.two (.two .no (.two (.cut ⟨⟨[1, 3, 20], [.fld (.sl 3) 0, .fld (.sl 3) 1, .fld (.sl 3) 2], [.s 21 (.dat (.int .i64)), .l (.sl 3) (.box 166 (.agg (.cons (.mat 30 43 (.leaf 3)) (.cons (.own 43 (.leaf 3)) (.cons (.own 43 (.leaf 3)) (.cons (.dat (.leaf 3)) (.cons (.own 3 (.int .i64)) (.one (.own 3 (.int .i64))))))))))]⟩, [(.exit 0, ⟨[1, 3], [.fld (.sl 3) 0, .fld (.sl 3) 1, .fld (.sl 3) 2], [.l (.sl 3) (.box 166 (.agg (.cons (.mat 30 43 (.leaf 3)) (.cons (.own 43 (.leaf 3)) (.cons (.own 43 (.leaf 3)) (.cons (.dat (.leaf 3)) (.cons (.own 3 (.int .i64)) (.one (.own 3 (.int .i64))))))))))]⟩)]⟩ .no) .no)) (.two (.two .no (.two (.cut ⟨⟨[1, 3, 37], [.fld (.sl 3) 0, .fld (.sl 3) 1, .fld (.sl 3) 2, .fld (.sl 3) 6, .fld (.sl 3) 7], [.s 38 (.dat (.int .i64)), .l (.sl 3) (.box 166 (.agg (.cons (.mat 30 43 (.leaf 3)) (.cons (.own 43 (.leaf 3)) (.cons (.own 43 (.leaf 3)) (.cons (.dat (.leaf 3)) (.cons (.own 3 (.int .i64)) (.one (.own 3 (.int .i64))))))))))]⟩, [(.exit 2, ⟨[3], [.fld (.sl 3) 0, .fld (.sl 3) 1, .fld (.sl 3) 2, .fld (.sl 3) 6, .fld (.sl 3) 7], [.l (.sl 3) (.box 166 (.agg (.cons (.mat 30 43 (.leaf 3)) (.cons (.own 43 (.leaf 3)) (.cons (.own 43 (.leaf 3)) (.cons (.dat (.leaf 3)) (.cons (.own 3 (.int .i64)) (.one (.own 3 (.int .i64))))))))))]⟩)]⟩ .no) .no)) .no)))), (123, Tryz.f123, .two .no (.two .no (.two .no (.two (.two .no (.two (.cut ⟨⟨[0, 3, 6, 7, 8, 34, 35], [], [.s 9 (.dat (.int .i64)), .s 36 (.dat (.int .i64))]⟩, [(.exit 0, ⟨[0, 3, 6, 7, 8], [], [.s 9 (.dat (.int .i64))]⟩)]⟩ (.two (.two .no (.two .no (.two (.two (.two .no (.two (.cut ⟨⟨[], [], []⟩, [(.norm, ⟨[0, 3, 6, 7, 8, 9, 10, 34, 35, 36], [], [.s 61 (.dat .bool)]⟩)]⟩ .no) (.cut ⟨⟨[], [], []⟩, [(.norm, ⟨[0, 3, 6, 7, 8, 34, 35, 36], [], [.s 9 (.dat (.int .i64))]⟩)]⟩ .no))) .no) .no))) .no)) .no)) (.two .no (.two (.two .no (.two (.unroll 0 .no) .no)) .no)))))), (124, Tryz.f124, .two .no (.two (.cut ⟨⟨[0, 1], [.fld (.sl 0) 0, .fld (.sl 0) 1, .fld (.sl 0) 2, .fld (.sl 0) 6, .fld (.sl 0) 7], [.l (.sl 0) (.box 166 (.agg (.cons (.mat 30 43 (.leaf 3)) (.cons (.own 43 (.leaf 3)) (.cons (.own 43 (.leaf 3)) (.cons (.dat (.leaf 3)) (.cons (.own 3 (.int .i64)) (.one (.own 3 (.int .i64))))))))))]⟩, [(.ret, ⟨[], [.fld (.sl 0) 0, .fld (.sl 0) 1, .fld (.sl 0) 2, .fld (.sl 0) 6, .fld (.sl 0) 7], [.s 1000 (.dat (.int .i64)), .l (.sl 0) (.box 166 (.agg (.cons (.mat 30 43 (.leaf 3)) (.cons (.own 43 (.leaf 3)) (.cons (.own 43 (.leaf 3)) (.cons (.dat (.leaf 3)) (.cons (.own 3 (.int .i64)) (.one (.own 3 (.int .i64))))))))))]⟩)]⟩ .no) .no)), (159, Tryz.f159, .two .no (.two .no (.two (.two .no (.two (.cut ⟨⟨[0, 1, 2, 7, 37], [], [.s 38 (.dat (.int .i64)), .l (.sl 20) (.mat 30 43 (.leaf 3))]⟩, [(.exit 0, ⟨[0, 1, 2, 7], [], [.l (.sl 20) (.mat 30 43 (.leaf 3))]⟩)]⟩ .no) .no)) (.two .no (.two .no (.two (.two .no (.two (.cut ⟨⟨[0, 1, 2, 94], [], [.s 95 (.dat (.int .i64)), .l (.sl 67) (.mat 30 43 (.leaf 3)), .l (.sl 77) (.own 43 (.leaf 3))]⟩, [(.exit 2, ⟨[0, 1, 2], [], [.l (.sl 67) (.mat 30 43 (.leaf 3)), .l (.sl 77) (.own 43 (.leaf 3))]⟩)]⟩ (.two (.two .no (.two .no (.two (.cut ⟨⟨[], [], []⟩, [(.norm, ⟨[0, 1, 2, 94, 95], [], [.l (.fld (.sl 0) 0) (.mat 30 43 (.leaf 3)), .l (.fld (.sl 0) 1) (.own 43 (.leaf 3))]⟩)]⟩ (.two (.two .no (.two (.two (.cut ⟨⟨[], [], []⟩, [(.norm, ⟨[0, 1, 2, 10, 94, 95], [], [.s 114 (.dat .bool)]⟩)]⟩ .no) .no) .no)) .no)) .no))) .no)) .no)) .no)))))), (164, Tryz.f164, .two .no (.two .no (.two (.two .no (.two (.cut ⟨⟨[0, 9, 10], [], [.s 3 (.dat (.int .i64)), .s 11 (.dat (.int .i64))]⟩, [(.exit 0, ⟨[], [], [.s 3 (.dat (.int .i64))]⟩)]⟩ (.two (.two .no (.two .no (.two (.two (.two .no (.two (.cut ⟨⟨[], [], []⟩, [(.norm, ⟨[0, 3, 4, 9, 10, 11], [], [.s 40 (.dat .bool)]⟩)]⟩ .no) (.cut ⟨⟨[], [], []⟩, [(.norm, ⟨[0, 9, 10, 11], [], [.s 3 (.dat (.int .i64))]⟩)]⟩ .no))) .no) .no))) .no)) .no)) .no))), (165, Tryz.f165, .two .no (.two .no (.two .no (.two (.two .no (.two (.cut ⟨⟨[0, 1, 2, 8, 17], [], [.s 7 (.dat (.int .i64)), .s 18 (.dat (.int .i64)), .l (.sl 8) (.box 43 (.dat (.leaf 3)))]⟩, [(.exit 0, ⟨[], [], [.s 7 (.dat (.int .i64))]⟩)]⟩ (.two (.two .no (.two .no (.two (.cut ⟨⟨[], [], []⟩, [(.norm, ⟨[0, 1, 2, 8, 17, 18], [], [.s 7 (.dat (.int .i64)), .l (.sl 8) (.box 43 (.dat (.leaf 3)))]⟩)]⟩ (.two (.two .no (.two .no (.two .no (.two .no (.two (.two .no (.cut ⟨⟨[], [], []⟩, [(.norm, ⟨[0, 1, 2, 7, 8, 9, 10, 17, 18], [], [.s 12 (.dat (.int .i64))]⟩)]⟩ .no)) (.two (.cut ⟨⟨[], [], []⟩, [(.norm, ⟨[0, 1, 2, 7, 8, 9, 10, 17, 18], [], [.s 110 (.dat .bool)]⟩)]⟩ .no) (.cut ⟨⟨[], [], []⟩, [(.norm, ⟨[0, 1, 2, 8, 17, 18], [], [.s 7 (.dat (.int .i64)), .l (.sl 8) (.box 43 (.dat (.leaf 3)))]⟩)]⟩ .no))))))) .no)) .no))) .no)) .no)) .no)))), (182, Tryz.f182, .sel 1 (.two .no (.two (.two .no (.two (.cut ⟨⟨[0, 1, 2, 3, 8, 15], [], [.s 16 (.dat (.int .i64)), .l (.fld (.sl 0) 0) (.agg (.mat 30 43 (.leaf 3)))]⟩, [(.exit 0, ⟨[0, 1, 2, 3, 8], [], [.l (.fld (.sl 0) 0) (.agg (.mat 30 43 (.leaf 3)))]⟩)]⟩ .no) .no)) .no)) (.two .no (.two (.two .no (.two (.cut ⟨⟨[0, 1, 2, 3, 8, 15], [], [.s 16 (.dat (.int .i64)), .l (.sl 1) (.own 43 (.leaf 3))]⟩, [(.exit 0, ⟨[0, 1, 2, 3, 8], [], [.l (.sl 1) (.own 43 (.leaf 3))]⟩)]⟩ .no) .no)) .no)))] Tryz.f81 (.two .no (.two .no (.two .no (.two .no (.two .no (.two (.cut ⟨⟨[], [], []⟩, [(.norm, ⟨[2, 3, 4, 6], [], [.s 5 (.dat (.ptr (.pair (.slice (.slice (.leaf 3))) (.pair (.slice (.leaf 3)) (.pair (.slice (.leaf 3)) (.pair (.leaf 3) (.pair (.slice (.int .i64)) (.slice (.int .i64))))))))), .s 9 (.dat (.int .i64))]⟩)]⟩ .no) (.two .no (.two .no (.two (.two .no (.two .no (.cut ⟨⟨[], [], []⟩, [(.norm, ⟨[2, 3, 5, 6, 9, 10], [], [.l (.sl 10) (.own 43 (.leaf 3))]⟩)]⟩ .no))) (.two (.two .no (.two (.cut ⟨⟨[2, 3, 5, 6, 9, 10, 69, 70], [], [.s 71 (.dat (.int .i64)), .l (.sl 10) (.own 43 (.leaf 3))]⟩, [(.exit 0, ⟨[2, 3, 5, 6, 10], [], [.l (.sl 10) (.own 43 (.leaf 3))]⟩)]⟩ (.two (.two .no (.two .no (.two (.two (.two .no (.two .no (.cut ⟨⟨[], [], []⟩, [(.norm, ⟨[2, 3, 5, 6, 9, 10, 69, 70, 71], [], [.l (.sl 10) (.own 43 (.leaf 3))]⟩)]⟩ .no))) .no) .no))) .no)) .no)) .no)))))))))) [.pair (.slice (.slice (.leaf 3))) (.pair (.slice (.leaf 3)) (.slice (.leaf 3)))] [.pair (.int .i64) (.pair (.leaf 3) (.pair (.slice (.leaf 3)) (.pair (.slice (.leaf 3)) (.slice (.leaf 3)))))] (p) = ZAp p := by kernel_rfl
theorem ZJz : Zk Tryz.prog ZHm.1 ZHm.2 := Zm (C := ⟨Tryz.prog, [(39, 0), (41, 2), (43, 3), (91, 1), (93, 4)], [ZQc, Z0c, ZXc, Z7f, Zmc, Zme, ZZd, ZRc, ZOk, ZZm, Zki], [], [ZOc, ZOd], [], [((43, "Add"), 23), ((43, "Cmp"), 31), ((43, "Div"), 213), ((43, "Mul"), 30), ((43, "Neg"), 117), ((43, "Sign"), 72), ((43, "Sub"), 71), ((43, "Zero"), 22)], [Zdl]⟩) ⟨ZZi, ZPj, Z1i, ZPp, Zrh, Zok, Zjk, Zij, ZEx, ZQw, Zks, trivial⟩ ⟨ZGi, ZSl, trivial⟩ trivial ⟨Zup, ZAt, Z6s, Zck, Zqm, Zzn, ZGo, Zsn, trivial⟩ (inl := [(122, Tryz.f122, .two .no (.two .no (.two (.two .no (.two (.cut ⟨⟨[1, 3, 20], [.fld (.sl 3) 0, .fld (.sl 3) 1, .fld (.sl 3) 2], [.s 21 (.dat (.int .i64)), .l (.sl 3) (.box 166 (.agg (.cons (.mat 30 43 (.leaf 3)) (.cons (.own 43 (.leaf 3)) (.cons (.own 43 (.leaf 3)) (.cons (.dat (.leaf 3)) (.cons (.own 3 (.int .i64)) (.one (.own 3 (.int .i64))))))))))]⟩, [(.exit 0, ⟨[1, 3], [.fld (.sl 3) 0, .fld (.sl 3) 1, .fld (.sl 3) 2], [.l (.sl 3) (.box 166 (.agg (.cons (.mat 30 43 (.leaf 3)) (.cons (.own 43 (.leaf 3)) (.cons (.own 43 (.leaf 3)) (.cons (.dat (.leaf 3)) (.cons (.own 3 (.int .i64)) (.one (.own 3 (.int .i64))))))))))]⟩)]⟩ .no) .no)) (.two (.two .no (.two (.cut ⟨⟨[1, 3, 37], [.fld (.sl 3) 0, .fld (.sl 3) 1, .fld (.sl 3) 2, .fld (.sl 3) 6, .fld (.sl 3) 7], [.s 38 (.dat (.int .i64)), .l (.sl 3) (.box 166 (.agg (.cons (.mat 30 43 (.leaf 3)) (.cons (.own 43 (.leaf 3)) (.cons (.own 43 (.leaf 3)) (.cons (.dat (.leaf 3)) (.cons (.own 3 (.int .i64)) (.one (.own 3 (.int .i64))))))))))]⟩, [(.exit 2, ⟨[3], [.fld (.sl 3) 0, .fld (.sl 3) 1, .fld (.sl 3) 2, .fld (.sl 3) 6, .fld (.sl 3) 7], [.l (.sl 3) (.box 166 (.agg (.cons (.mat 30 43 (.leaf 3)) (.cons (.own 43 (.leaf 3)) (.cons (.own 43 (.leaf 3)) (.cons (.dat (.leaf 3)) (.cons (.own 3 (.int .i64)) (.one (.own 3 (.int .i64))))))))))]⟩)]⟩ .no) .no)) .no)))), (123, Tryz.f123, .two .no (.two .no (.two .no (.two (.two .no (.two (.cut ⟨⟨[0, 3, 6, 7, 8, 34, 35], [], [.s 9 (.dat (.int .i64)), .s 36 (.dat (.int .i64))]⟩, [(.exit 0, ⟨[0, 3, 6, 7, 8], [], [.s 9 (.dat (.int .i64))]⟩)]⟩ (.two (.two .no (.two .no (.two (.two (.two .no (.two (.cut ⟨⟨[], [], []⟩, [(.norm, ⟨[0, 3, 6, 7, 8, 9, 10, 34, 35, 36], [], [.s 61 (.dat .bool)]⟩)]⟩ .no) (.cut ⟨⟨[], [], []⟩, [(.norm, ⟨[0, 3, 6, 7, 8, 34, 35, 36], [], [.s 9 (.dat (.int .i64))]⟩)]⟩ .no))) .no) .no))) .no)) .no)) (.two .no (.two (.two .no (.two (.unroll 0 .no) .no)) .no)))))), (124, Tryz.f124, .two .no (.two (.cut ⟨⟨[0, 1], [.fld (.sl 0) 0, .fld (.sl 0) 1, .fld (.sl 0) 2, .fld (.sl 0) 6, .fld (.sl 0) 7], [.l (.sl 0) (.box 166 (.agg (.cons (.mat 30 43 (.leaf 3)) (.cons (.own 43 (.leaf 3)) (.cons (.own 43 (.leaf 3)) (.cons (.dat (.leaf 3)) (.cons (.own 3 (.int .i64)) (.one (.own 3 (.int .i64))))))))))]⟩, [(.ret, ⟨[], [.fld (.sl 0) 0, .fld (.sl 0) 1, .fld (.sl 0) 2, .fld (.sl 0) 6, .fld (.sl 0) 7], [.s 1000 (.dat (.int .i64)), .l (.sl 0) (.box 166 (.agg (.cons (.mat 30 43 (.leaf 3)) (.cons (.own 43 (.leaf 3)) (.cons (.own 43 (.leaf 3)) (.cons (.dat (.leaf 3)) (.cons (.own 3 (.int .i64)) (.one (.own 3 (.int .i64))))))))))]⟩)]⟩ .no) .no)), (159, Tryz.f159, .two .no (.two .no (.two (.two .no (.two (.cut ⟨⟨[0, 1, 2, 7, 37], [], [.s 38 (.dat (.int .i64)), .l (.sl 20) (.mat 30 43 (.leaf 3))]⟩, [(.exit 0, ⟨[0, 1, 2, 7], [], [.l (.sl 20) (.mat 30 43 (.leaf 3))]⟩)]⟩ .no) .no)) (.two .no (.two .no (.two (.two .no (.two (.cut ⟨⟨[0, 1, 2, 94], [], [.s 95 (.dat (.int .i64)), .l (.sl 67) (.mat 30 43 (.leaf 3)), .l (.sl 77) (.own 43 (.leaf 3))]⟩, [(.exit 2, ⟨[0, 1, 2], [], [.l (.sl 67) (.mat 30 43 (.leaf 3)), .l (.sl 77) (.own 43 (.leaf 3))]⟩)]⟩ (.two (.two .no (.two .no (.two (.cut ⟨⟨[], [], []⟩, [(.norm, ⟨[0, 1, 2, 94, 95], [], [.l (.fld (.sl 0) 0) (.mat 30 43 (.leaf 3)), .l (.fld (.sl 0) 1) (.own 43 (.leaf 3))]⟩)]⟩ (.two (.two .no (.two (.two (.cut ⟨⟨[], [], []⟩, [(.norm, ⟨[0, 1, 2, 10, 94, 95], [], [.s 114 (.dat .bool)]⟩)]⟩ .no) .no) .no)) .no)) .no))) .no)) .no)) .no)))))), (164, Tryz.f164, .two .no (.two .no (.two (.two .no (.two (.cut ⟨⟨[0, 9, 10], [], [.s 3 (.dat (.int .i64)), .s 11 (.dat (.int .i64))]⟩, [(.exit 0, ⟨[], [], [.s 3 (.dat (.int .i64))]⟩)]⟩ (.two (.two .no (.two .no (.two (.two (.two .no (.two (.cut ⟨⟨[], [], []⟩, [(.norm, ⟨[0, 3, 4, 9, 10, 11], [], [.s 40 (.dat .bool)]⟩)]⟩ .no) (.cut ⟨⟨[], [], []⟩, [(.norm, ⟨[0, 9, 10, 11], [], [.s 3 (.dat (.int .i64))]⟩)]⟩ .no))) .no) .no))) .no)) .no)) .no))), (165, Tryz.f165, .two .no (.two .no (.two .no (.two (.two .no (.two (.cut ⟨⟨[0, 1, 2, 8, 17], [], [.s 7 (.dat (.int .i64)), .s 18 (.dat (.int .i64)), .l (.sl 8) (.box 43 (.dat (.leaf 3)))]⟩, [(.exit 0, ⟨[], [], [.s 7 (.dat (.int .i64))]⟩)]⟩ (.two (.two .no (.two .no (.two (.cut ⟨⟨[], [], []⟩, [(.norm, ⟨[0, 1, 2, 8, 17, 18], [], [.s 7 (.dat (.int .i64)), .l (.sl 8) (.box 43 (.dat (.leaf 3)))]⟩)]⟩ (.two (.two .no (.two .no (.two .no (.two .no (.two (.two .no (.cut ⟨⟨[], [], []⟩, [(.norm, ⟨[0, 1, 2, 7, 8, 9, 10, 17, 18], [], [.s 12 (.dat (.int .i64))]⟩)]⟩ .no)) (.two (.cut ⟨⟨[], [], []⟩, [(.norm, ⟨[0, 1, 2, 7, 8, 9, 10, 17, 18], [], [.s 110 (.dat .bool)]⟩)]⟩ .no) (.cut ⟨⟨[], [], []⟩, [(.norm, ⟨[0, 1, 2, 8, 17, 18], [], [.s 7 (.dat (.int .i64)), .l (.sl 8) (.box 43 (.dat (.leaf 3)))]⟩)]⟩ .no))))))) .no)) .no))) .no)) .no)) .no)))), (182, Tryz.f182, .sel 1 (.two .no (.two (.two .no (.two (.cut ⟨⟨[0, 1, 2, 3, 8, 15], [], [.s 16 (.dat (.int .i64)), .l (.fld (.sl 0) 0) (.agg (.mat 30 43 (.leaf 3)))]⟩, [(.exit 0, ⟨[0, 1, 2, 3, 8], [], [.l (.fld (.sl 0) 0) (.agg (.mat 30 43 (.leaf 3)))]⟩)]⟩ .no) .no)) .no)) (.two .no (.two (.two .no (.two (.cut ⟨⟨[0, 1, 2, 3, 8, 15], [], [.s 16 (.dat (.int .i64)), .l (.sl 1) (.own 43 (.leaf 3))]⟩, [(.exit 0, ⟨[0, 1, 2, 3, 8], [], [.l (.sl 1) (.own 43 (.leaf 3))]⟩)]⟩ .no) .no)) .no)))]) ⟨⟨Tryz.func122, fun _ _ => by kernel_rfl⟩, ⟨Tryz.func123, fun _ _ => by kernel_rfl⟩, ⟨Tryz.func124, fun _ _ => by kernel_rfl⟩, ⟨Tryz.func159, fun _ _ => by kernel_rfl⟩, ⟨Tryz.func164, fun _ _ => by kernel_rfl⟩, ⟨Tryz.func165, fun _ _ => by kernel_rfl⟩, ⟨Tryz.func182, fun _ _ => by kernel_rfl⟩, trivial⟩ (ann := (.two .no (.two .no (.two .no (.two .no (.two .no (.two (.cut ⟨⟨[], [], []⟩, [(.norm, ⟨[2, 3, 4, 6], [], [.s 5 (.dat (.ptr (.pair (.slice (.slice (.leaf 3))) (.pair (.slice (.leaf 3)) (.pair (.slice (.leaf 3)) (.pair (.leaf 3) (.pair (.slice (.int .i64)) (.slice (.int .i64))))))))), .s 9 (.dat (.int .i64))]⟩)]⟩ .no) (.two .no (.two .no (.two (.two .no (.two .no (.cut ⟨⟨[], [], []⟩, [(.norm, ⟨[2, 3, 5, 6, 9, 10], [], [.l (.sl 10) (.own 43 (.leaf 3))]⟩)]⟩ .no))) (.two (.two .no (.two (.cut ⟨⟨[2, 3, 5, 6, 9, 10, 69, 70], [], [.s 71 (.dat (.int .i64)), .l (.sl 10) (.own 43 (.leaf 3))]⟩, [(.exit 0, ⟨[2, 3, 5, 6, 10], [], [.l (.sl 10) (.own 43 (.leaf 3))]⟩)]⟩ (.two (.two .no (.two .no (.two (.two (.two .no (.two .no (.cut ⟨⟨[], [], []⟩, [(.norm, ⟨[2, 3, 5, 6, 9, 10, 69, 70, 71], [], [.l (.sl 10) (.own 43 (.leaf 3))]⟩)]⟩ .no))) .no) .no))) .no)) .no)) .no))))))))))) Tryz.func81 (fun _ _ => by kernel_rfl) rfl (fun v vals x z ha hz => (Zuu x).trans hz) (hq := ⟨Zyw, trivial⟩)
end Go.Eng
set_option maxRecDepth 100000
set_option maxHeartbeats 4000000
namespace Go.Eng
open Go.Proofs Go.RowKit
noncomputable def Z6l:FuncId×Con:=(37,⟨[.pair (.slice (.slice (.leaf 3))) (.pair (.slice (.leaf 3)) (.slice (.leaf 3)))],[.pair (.int .i64) (.pair (.leaf 3) (.pair (.slice (.leaf 3)) (.pair (.slice (.leaf 3)) (.slice (.leaf 3))))),.int .i64],fun p=>Zop p⟩)
theorem Z4w (p:(List (List Rat))×(List Rat)×(List Rat)):Zl ⟨Tryz.prog,[(39,0),(41,2),(43,3),(91,1),(93,4)],[ZPh,ZHm],[],[],[],[],[]⟩ [] Tryz.f37 .no [.pair (.slice (.slice (.leaf 3))) (.pair (.slice (.leaf 3)) (.slice (.leaf 3)))] [.pair (.int .i64) (.pair (.leaf 3) (.pair (.slice (.leaf 3)) (.pair (.slice (.leaf 3)) (.slice (.leaf 3))))),.int .i64] (p)=Zop p:=by kernel_rfl
theorem Zdu:Zk Tryz.prog Z6l.1 Z6l.2:=Zm (C:=⟨Tryz.prog,[(39,0),(41,2),(43,3),(91,1),(93,4)],[ZPh,ZHm],[],[],[],[],[]⟩) ⟨Zlr,ZJz,trivial⟩ trivial trivial trivial (inl:=[]) trivial (ann:=.no) Tryz.func37 (fun _ _=>by kernel_rfl) rfl (fun v vals x z ha hz=>(Z4w x).trans hz)
end Go.Eng
set_option maxRecDepth 100000
set_option maxHeartbeats 4000000
namespace Go.Eng
open Go.Proofs Go.RowKit
noncomputable def ZAl:FuncId×Con:=(24,⟨[.leaf 3,.leaf 3],[.bool],fun p=>ZIi p.1 p.2⟩)
theorem qsame_i (x:Rat) (y:Rat):Zl ⟨Tryz.prog,[(39,0),(41,2),(43,3)],[Zyh],[],[],[],[],[]⟩ [] Tryz.f24 (.two .no (.two (.cut ⟨⟨[],[],[]⟩,[(.norm,⟨[],[],[.s 4 (.dat .bool)]⟩)]⟩ .no) .no)) [.leaf 3,.leaf 3] [.bool] (x,y)=Ztp x y:=by kernel_rfl
theorem qsame_k:Zk Tryz.prog ZAl.1 ZAl.2:=Zm (C:=⟨Tryz.prog,[(39,0),(41,2),(43,3)],[Zyh],[],[],[],[],[]⟩) ⟨cmp_k,trivial⟩ trivial trivial trivial (inl:=[]) trivial (ann:=.two .no (.two (.cut ⟨⟨[],[],[]⟩,[(.norm,⟨[],[],[.s 4 (.dat .bool)]⟩)]⟩ .no) .no)) Tryz.func24 (fun _ _=>by kernel_rfl) rfl fun v vals x z ha hz=>(qsame_i x.1 x.2).trans (Z9x hz)
end Go.Eng
set_option maxRecDepth 100000
set_option maxHeartbeats 4000000
namespace Go.Eng
open Go.Proofs Go.RowKit
noncomputable def ZPd:FuncId×Con:=(53,⟨[.slice (.leaf 3),.slice (.leaf 3)],[.leaf 3],fun p=>ZTc p.1 p.2⟩)
theorem ldot_i (x : List Rat) (y : List Rat) : Zl ⟨Tryz.prog, [(39, 0), (41, 2), (43, 3), (91, 1), (93, 4)], [Z0c, ZXc, Zmc], [], [], [], [((43, "Add"), 23), ((43, "Mul"), 30)], []⟩ [] Tryz.f53 (.two .no (.two .no (.two (.two .no (.two (.cut ⟨⟨[0, 1, 4, 5, 9], [], [.s 10 (.dat (.int .i64)), .l (.sl 5) (.box 43 (.dat (.leaf 3)))]⟩, [(.exit 0, ⟨[4, 5], [], [.l (.sl 5) (.box 43 (.dat (.leaf 3)))]⟩)]⟩ .no) .no)) .no))) [.slice (.leaf 3), .slice (.leaf 3)] [.leaf 3] (x, y) = ZTc x y := by kernel_rfl
theorem Zgn : Zk Tryz.prog ZPd.1 ZPd.2 := Zm (C := ⟨Tryz.prog, [(39, 0), (41, 2), (43, 3), (91, 1), (93, 4)], [Z0c, ZXc, Zmc], [], [], [], [((43, "Add"), 23), ((43, "Mul"), 30)], []⟩) ⟨ZPj, Z1i, Zrh, trivial⟩ trivial trivial ⟨Zup, Zck, trivial⟩ (inl := []) trivial (ann := (.two .no (.two .no (.two (.two .no (.two (.cut ⟨⟨[0, 1, 4, 5, 9], [], [.s 10 (.dat (.int .i64)), .l (.sl 5) (.box 43 (.dat (.leaf 3)))]⟩, [(.exit 0, ⟨[4, 5], [], [.l (.sl 5) (.box 43 (.dat (.leaf 3)))]⟩)]⟩ .no) .no)) .no)))) Tryz.func53 (fun _ _ => by kernel_rfl) rfl (fun v vals x z ha hz => (ldot_i x.1 x.2).trans hz)
end Go.Eng
set_option maxRecDepth 100000
set_option maxHeartbeats 4000000
namespace Go.Eng
open Go.Proofs Go.RowKit
noncomputable def ZSf:FuncId×Con:=(69,⟨[.slice (.slice (.leaf 3)),.slice (.leaf 3)],[.slice (.leaf 3)],fun p=>Zsg p.1 p.2⟩)
theorem ZMx (m:List (List Rat)) (x:List Rat):Zl ⟨Tryz.prog,[(39,0),(41,2),(43,3),(91,1),(93,4)],[ZPd],[],[],[],[],[]⟩ [] Tryz.f69 (.two .no (.two .no (.two (.two .no (.two (.cut ⟨⟨[1,8,9],[],[.s 5 (.own 43 (.leaf 3)),.s 10 (.dat (.int .i64))]⟩,[(.exit 0,⟨[],[],[.s 5 (.own 43 (.leaf 3))]⟩)]⟩ .no) .no)) .no))) [.slice (.slice (.leaf 3)),.slice (.leaf 3)] [.slice (.leaf 3)] (m,x)=Zsg m x:=by kernel_rfl
theorem Z3p:Zk Tryz.prog ZSf.1 ZSf.2:=Zm (C:=⟨Tryz.prog,[(39,0),(41,2),(43,3),(91,1),(93,4)],[ZPd],[],[],[],[],[]⟩) ⟨Zgn,trivial⟩ trivial trivial trivial (inl:=[]) trivial (ann:=(.two .no (.two .no (.two (.two .no (.two (.cut ⟨⟨[1,8,9],[],[.s 5 (.own 43 (.leaf 3)),.s 10 (.dat (.int .i64))]⟩,[(.exit 0,⟨[],[],[.s 5 (.own 43 (.leaf 3))]⟩)]⟩ .no) .no)) .no)))) Tryz.func69 (fun _ _=>by kernel_rfl) rfl (fun v vals x z ha hz=>(ZMx x.1 x.2).trans hz)
end Go.Eng
set_option maxRecDepth 100000
set_option maxHeartbeats 4000000
namespace Go.Eng
open Go.Proofs Go.RowKit
noncomputable def Zcf:FuncId×Con:=(85,⟨[.slice (.leaf 3)],[.bool],fun p=>Zmg p⟩)
theorem lnone_i (x : List Rat) : Zl ⟨Tryz.prog, [(39, 0), (41, 2), (43, 3), (91, 1), (93, 4)], [ZZd], [], [], [], [((43, "Sign"), 72)], []⟩ [(132, Tryz.f132, .no), (133, Tryz.f133, .no), (160, Tryz.f160, .cut ⟨⟨[], [], []⟩, [(.ret, ⟨[], [], [.s 1000 (.dat (.int .i64))]⟩)]⟩ (.two .no (.two (.two .no (.two (.cut ⟨⟨[0, 1, 7], [], [.s 8 (.dat (.int .i64))]⟩, [(.exit 0, ⟨[], [], []⟩), (.ret, ⟨[], [], [.s 1000 (.dat (.int .i64))]⟩)]⟩ .no) .no)) .no)))] Tryz.f85 .no [.slice (.leaf 3)] [.bool] (x) = Zmg x := by kernel_rfl
theorem Zdp : Zk Tryz.prog Zcf.1 Zcf.2 := Zm (C := ⟨Tryz.prog, [(39, 0), (41, 2), (43, 3), (91, 1), (93, 4)], [ZZd], [], [], [], [((43, "Sign"), 72)], []⟩) ⟨Zjk, trivial⟩ trivial trivial ⟨Zzn, trivial⟩ (inl := [(132, Tryz.f132, .no), (133, Tryz.f133, .no), (160, Tryz.f160, .cut ⟨⟨[], [], []⟩, [(.ret, ⟨[], [], [.s 1000 (.dat (.int .i64))]⟩)]⟩ (.two .no (.two (.two .no (.two (.cut ⟨⟨[0, 1, 7], [], [.s 8 (.dat (.int .i64))]⟩, [(.exit 0, ⟨[], [], []⟩), (.ret, ⟨[], [], [.s 1000 (.dat (.int .i64))]⟩)]⟩ .no) .no)) .no)))]) ⟨⟨Tryz.func132, fun _ _ => by kernel_rfl⟩, ⟨Tryz.func133, fun _ _ => by kernel_rfl⟩, ⟨Tryz.func160, fun _ _ => by kernel_rfl⟩, trivial⟩ (ann := .no) Tryz.func85 (fun _ _ => by kernel_rfl) rfl (fun v vals x z ha hz => (lnone_i x).trans hz)
end Go.Eng
set_option maxRecDepth 100000
set_option maxHeartbeats 4000000
namespace Go.Eng
open Go.Proofs Go.RowKit
noncomputable def ZWf:FuncId×Con:=(87,⟨[.slice (.leaf 3),.slice (.leaf 3)],[.bool],fun p=>ZEj p.1 p.2⟩)
theorem Zrw (x : List Rat) (y : List Rat) : Zl ⟨Tryz.prog, [(39, 0), (41, 2), (43, 3), (91, 1), (93, 4)], [Z7f], [], [], [], [((43, "Cmp"), 31)], []⟩ [] Tryz.f87 (.two .no (.two (.two .no (.two (.cut ⟨⟨[0, 1, 7], [], [.s 8 (.dat (.int .i64))]⟩, [(.exit 0, ⟨[], [], []⟩), (.ret, ⟨[], [], [.s 1000 (.dat .bool)]⟩)]⟩ .no) .no)) .no)) [.slice (.leaf 3), .slice (.leaf 3)] [.bool] (x, y) = ZEj x y := by kernel_rfl
theorem ZBn : Zk Tryz.prog ZWf.1 ZWf.2 := Zm (C := ⟨Tryz.prog, [(39, 0), (41, 2), (43, 3), (91, 1), (93, 4)], [Z7f], [], [], [], [((43, "Cmp"), 31)], []⟩) ⟨ZPp, trivial⟩ trivial trivial ⟨ZAt, trivial⟩ (inl := []) trivial (ann := (.two .no (.two (.two .no (.two (.cut ⟨⟨[0, 1, 7], [], [.s 8 (.dat (.int .i64))]⟩, [(.exit 0, ⟨[], [], []⟩), (.ret, ⟨[], [], [.s 1000 (.dat .bool)]⟩)]⟩ .no) .no)) .no))) Tryz.func87 (fun _ _ => by kernel_rfl) rfl (fun v vals x z ha hz => (Zrw x.1 x.2).trans hz)
end Go.Eng
set_option maxRecDepth 100000
set_option maxHeartbeats 4000000
namespace Go.Eng
open Go.Proofs Go.RowKit
noncomputable def Zdn:FuncId×Con:=(83,⟨[.pair (.slice (.slice (.leaf 3))) (.pair (.slice (.leaf 3)) (.slice (.leaf 3))),.slice (.leaf 3)],[.bool],fun p=>ZQo p.1 p.2⟩)
theorem Z8v (p:(List (List Rat))×(List Rat)×(List Rat)) (x:List Rat):Zl ⟨Tryz.prog,[(39,0),(41,2),(43,3),(91,1),(93,4)],[ZSf,Zcf,ZWf],[],[],[],[],[]⟩ [] Tryz.f83 (.two .no (.two (.cut ⟨⟨[],[],[]⟩,[(.norm,⟨[],[],[.s 4 (.dat .bool)]⟩)]⟩ .no) .no)) [.pair (.slice (.slice (.leaf 3))) (.pair (.slice (.leaf 3)) (.slice (.leaf 3))),.slice (.leaf 3)] [.bool] (p,x)=ZQo p x:=by kernel_rfl
theorem ZPv:Zk Tryz.prog Zdn.1 Zdn.2:=Zm (C:=⟨Tryz.prog,[(39,0),(41,2),(43,3),(91,1),(93,4)],[ZSf,Zcf,ZWf],[],[],[],[],[]⟩) ⟨Z3p,Zdp,ZBn,trivial⟩ trivial trivial trivial (inl:=[]) trivial (ann:=(.two .no (.two (.cut ⟨⟨[],[],[]⟩,[(.norm,⟨[],[],[.s 4 (.dat .bool)]⟩)]⟩ .no) .no))) Tryz.func83 (fun _ _=>by kernel_rfl) rfl (fun v vals x z ha hz=>(Z8v x.1 x.2).trans hz)
end Go.Eng
set_option maxRecDepth 100000
set_option maxHeartbeats 4000000
namespace Go.Eng
open Go.Proofs Go.RowKit
noncomputable def ZSh:FuncId×Con:=(86,⟨[.pair (.slice (.slice (.leaf 3))) (.pair (.slice (.leaf 3)) (.slice (.leaf 3))),.slice (.leaf 3)],[.slice (.leaf 3)],fun p=>Z9l p.1 p.2⟩)
theorem psums_i (p : (List (List Rat)) × (List Rat) × (List Rat)) (y : List Rat) : Zl ⟨Tryz.prog, [(39, 0), (41, 2), (43, 3), (91, 1), (93, 4)], [Z0c, ZXc], [], [ZOc], [], [((43, "Add"), 23), ((43, "Mul"), 30)], []⟩ [] Tryz.f86 (.two .no (.two .no (.two (.two .no (.two (.cut ⟨⟨[1, 5, 15, 16], [], [.s 17 (.dat (.int .i64)), .l (.sl 5) (.own 43 (.leaf 3))]⟩, [(.exit 0, ⟨[5], [], [.l (.sl 5) (.own 43 (.leaf 3))]⟩)]⟩ (.two (.two .no (.two .no (.two (.two (.two .no (.two .no (.two (.cut ⟨⟨[1, 5, 6, 15, 16, 17, 22, 23], [], [.s 24 (.dat (.int .i64)), .l (.sl 5) (.own 43 (.leaf 3))]⟩, [(.exit 2, ⟨[1, 5, 15, 16, 17], [], [.l (.sl 5) (.own 43 (.leaf 3))]⟩)]⟩ .no) .no))) .no) .no))) .no)) .no)) .no))) [.pair (.slice (.slice (.leaf 3))) (.pair (.slice (.leaf 3)) (.slice (.leaf 3))), .slice (.leaf 3)] [.slice (.leaf 3)] (p, y) = Z9l p y := by kernel_rfl
theorem Zrr : Zk Tryz.prog ZSh.1 ZSh.2 := Zm (C := ⟨Tryz.prog, [(39, 0), (41, 2), (43, 3), (91, 1), (93, 4)], [Z0c, ZXc], [], [ZOc], [], [((43, "Add"), 23), ((43, "Mul"), 30)], []⟩) ⟨ZPj, Z1i, trivial⟩ ⟨ZGi, trivial⟩ trivial ⟨Zup, Zck, trivial⟩ (inl := []) trivial (ann := (.two .no (.two .no (.two (.two .no (.two (.cut ⟨⟨[1, 5, 15, 16], [], [.s 17 (.dat (.int .i64)), .l (.sl 5) (.own 43 (.leaf 3))]⟩, [(.exit 0, ⟨[5], [], [.l (.sl 5) (.own 43 (.leaf 3))]⟩)]⟩ (.two (.two .no (.two .no (.two (.two (.two .no (.two .no (.two (.cut ⟨⟨[1, 5, 6, 15, 16, 17, 22, 23], [], [.s 24 (.dat (.int .i64)), .l (.sl 5) (.own 43 (.leaf 3))]⟩, [(.exit 2, ⟨[1, 5, 15, 16, 17], [], [.l (.sl 5) (.own 43 (.leaf 3))]⟩)]⟩ .no) .no))) .no) .no))) .no)) .no)) .no)))) Tryz.func86 (fun _ _ => by kernel_rfl) rfl (fun v vals x z ha hz => (psums_i x.1 x.2).trans hz)
end Go.Eng
set_option maxRecDepth 100000
set_option maxHeartbeats 4000000
namespace Go.Eng
open Go.Proofs Go.RowKit
noncomputable def ZVl:FuncId×Con:=(84,⟨[.pair (.slice (.slice (.leaf 3))) (.pair (.slice (.leaf 3)) (.slice (.leaf 3))),.slice (.leaf 3)],[.bool],fun p=>Z5n p.1 p.2⟩)
theorem pdual_i (p:(List (List Rat))×(List Rat)×(List Rat)) (y:List Rat):Zl ⟨Tryz.prog,[(39,0),(41,2),(43,3),(91,1),(93,4)],[Zcf,ZSh,ZWf],[],[],[],[],[]⟩ [] Tryz.f84 (.two .no (.two (.cut ⟨⟨[],[],[]⟩,[(.norm,⟨[],[],[.s 4 (.dat .bool)]⟩)]⟩ .no) .no)) [.pair (.slice (.slice (.leaf 3))) (.pair (.slice (.leaf 3)) (.slice (.leaf 3))),.slice (.leaf 3)] [.bool] (p,y)=Z5n p y:=by kernel_rfl
theorem pdual_k:Zk Tryz.prog ZVl.1 ZVl.2:=Zm (C:=⟨Tryz.prog,[(39,0),(41,2),(43,3),(91,1),(93,4)],[Zcf,ZSh,ZWf],[],[],[],[],[]⟩) ⟨Zdp,Zrr,ZBn,trivial⟩ trivial trivial trivial (inl:=[]) trivial (ann:=(.two .no (.two (.cut ⟨⟨[],[],[]⟩,[(.norm,⟨[],[],[.s 4 (.dat .bool)]⟩)]⟩ .no) .no))) Tryz.func84 (fun _ _=>by kernel_rfl) rfl (fun v vals x z ha hz=>(pdual_i x.1 x.2).trans hz)
end Go.Eng
set_option maxRecDepth 100000
set_option maxHeartbeats 4000000
namespace Go.Eng
open Go.Proofs Go.RowKit
noncomputable def Zgm:FuncId×Con:=(39,⟨[.pair (.slice (.slice (.leaf 3))) (.pair (.slice (.leaf 3)) (.slice (.leaf 3))),.pair (.int .i64) (.pair (.leaf 3) (.pair (.slice (.leaf 3)) (.pair (.slice (.leaf 3)) (.slice (.leaf 3)))))],[.bool],fun p=>Zlo p.1 p.2⟩)
theorem ZIx (p : (List (List Rat)) × (List Rat) × (List Rat)) (a : Int × Rat × (List Rat) × (List Rat) × (List Rat)) : Zl ⟨Tryz.prog, [(39, 0), (41, 2), (43, 3), (91, 1), (93, 4)], [ZQc, ZAl, ZPd, ZSf, ZZd, ZPh, Zdn, ZVl, Zcf, ZSh, ZWf], [], [ZOc], [], [((43, "Same"), 24), ((43, "Sign"), 72), ((43, "Zero"), 22)], []⟩ [] Tryz.f39 (.two .no (.two .no (.two (.cut ⟨⟨[], [], []⟩, [(.norm, ⟨[2, 3], [], [.s 5 (.dat .bool)]⟩)]⟩ .no) (.two (.two .no (.two (.two .no (.two (.two (.cut ⟨⟨[], [], []⟩, [(.norm, ⟨[], [], [.s 4 (.dat .bool)]⟩)]⟩ .no) .no) (.two .no (.two (.two (.cut ⟨⟨[], [], []⟩, [(.norm, ⟨[], [], [.s 4 (.dat .bool)]⟩)]⟩ .no) .no) (.two .no (.two (.two (.two (.cut ⟨⟨[], [], []⟩, [(.norm, ⟨[2, 3], [], [.s 135 (.dat .bool)]⟩)]⟩ .no) .no) (.two (.cut ⟨⟨[], [], []⟩, [(.norm, ⟨[], [], [.s 4 (.dat .bool)]⟩)]⟩ .no) .no)) .no)))))) .no)) .no)))) [.pair (.slice (.slice (.leaf 3))) (.pair (.slice (.leaf 3)) (.slice (.leaf 3))), .pair (.int .i64) (.pair (.leaf 3) (.pair (.slice (.leaf 3)) (.pair (.slice (.leaf 3)) (.slice (.leaf 3)))))] [.bool] (p, a) = Zlo p a := by kernel_rfl
theorem ZJv : Zk Tryz.prog Zgm.1 Zgm.2 := Zm (C := ⟨Tryz.prog, [(39, 0), (41, 2), (43, 3), (91, 1), (93, 4)], [ZQc, ZAl, ZPd, ZSf, ZZd, ZPh, Zdn, ZVl, Zcf, ZSh, ZWf], [], [ZOc], [], [((43, "Same"), 24), ((43, "Sign"), 72), ((43, "Zero"), 22)], []⟩) ⟨ZZi, qsame_k, Zgn, Z3p, Zjk, Zlr, ZPv, pdual_k, Zdp, Zrr, ZBn, trivial⟩ ⟨ZGi, trivial⟩ trivial ⟨Zcw, Zzn, Zsn, trivial⟩ (inl := []) trivial (ann := (.two .no (.two .no (.two (.cut ⟨⟨[], [], []⟩, [(.norm, ⟨[2, 3], [], [.s 5 (.dat .bool)]⟩)]⟩ .no) (.two (.two .no (.two (.two .no (.two (.two (.cut ⟨⟨[], [], []⟩, [(.norm, ⟨[], [], [.s 4 (.dat .bool)]⟩)]⟩ .no) .no) (.two .no (.two (.two (.cut ⟨⟨[], [], []⟩, [(.norm, ⟨[], [], [.s 4 (.dat .bool)]⟩)]⟩ .no) .no) (.two .no (.two (.two (.two (.cut ⟨⟨[], [], []⟩, [(.norm, ⟨[2, 3], [], [.s 135 (.dat .bool)]⟩)]⟩ .no) .no) (.two (.cut ⟨⟨[], [], []⟩, [(.norm, ⟨[], [], [.s 4 (.dat .bool)]⟩)]⟩ .no) .no)) .no)))))) .no)) .no))))) Tryz.func39 (fun _ _ => by kernel_rfl) rfl (fun v vals x z ha hz => (ZIx x.1 x.2).trans hz)
end Go.Eng
set_option maxRecDepth 100000
set_option maxHeartbeats 4000000
namespace Go.Eng
open Go.Proofs Go.RowKit
noncomputable def ZQk:FuncId×Con:=(8,⟨[],[.bool],fun _=>Zte⟩)
theorem Zsz  : Zl ⟨Tryz.prog,[(39,0),(41,2),(43,3),(91,1),(93,4)],[ZDf,Zei,Z0m,Zpk,Z6k,Z6l,Zni,Zgm],[],[],[],[],[]⟩ [] Tryz.f8 (.two .no (.two .no (.two .no (.two .no (.two .no (.two .no (.two .no (.two .no (.two (.cut ⟨⟨[],[],[]⟩,[(.norm,⟨[],[],[.s 0 (.dat .bool)]⟩)]⟩ .no) .no))))))))) [] [.bool] ()=Zte  := by kernel_rfl
theorem ZPx:Zk Tryz.prog ZQk.1 ZQk.2:=Zm (C:=⟨Tryz.prog,[(39,0),(41,2),(43,3),(91,1),(93,4)],[ZDf,Zei,Z0m,Zpk,Z6k,Z6l,Zni,Zgm],[],[],[],[],[]⟩) ⟨ZVo,Zos,Zgv,Ziv,Ztz,Zdu,ZSq,ZJv,trivial⟩ trivial trivial trivial (inl:=[]) trivial (ann:=(.two .no (.two .no (.two .no (.two .no (.two .no (.two .no (.two .no (.two .no (.two (.cut ⟨⟨[],[],[]⟩,[(.norm,⟨[],[],[.s 0 (.dat .bool)]⟩)]⟩ .no) .no)))))))))) Tryz.func8 (fun _ _=>by kernel_rfl) rfl (fun v vals x z ha hz=>(Zsz ).trans hz)
end Go.Eng
set_option maxRecDepth 100000
set_option maxHeartbeats 4000000
namespace Go.Eng
open Go.Proofs Go.RowKit
noncomputable def Zek:FuncId×Con:=(61,⟨[.slice (.pair (.int .i64) (.int .i64))],[.bool],fun p=>ZIf p⟩)
theorem ZKz (l:List (Int×Int)):Zl ⟨Tryz.prog,[(39,0),(41,2),(43,3),(91,1),(93,4)],[],[],[],[],[],[]⟩ [] Tryz.f61 (.two .no (.two (.two .no (.two (.cut ⟨⟨[5,6],[],[.s 7 (.dat (.int .i64))]⟩,[(.exit 0,⟨[],[],[]⟩),(.ret,⟨[],[],[.s 1000 (.dat .bool)]⟩)]⟩ (.two (.two .no (.two .no (.two (.two (.two .no (.two (.cut ⟨⟨[],[],[]⟩,[(.norm,⟨[5,6,7],[],[.s 24 (.dat .bool)]⟩)]⟩ .no) .no)) .no) .no))) .no)) .no)) .no)) [.slice (.pair (.int .i64) (.int .i64))] [.bool] (l)=ZIf l:=by kernel_rfl
theorem Zdy:Zk Tryz.prog Zek.1 Zek.2:=Zm (C:=⟨Tryz.prog,[(39,0),(41,2),(43,3),(91,1),(93,4)],[],[],[],[],[],[]⟩) trivial trivial trivial trivial (inl:=[]) trivial (ann:=(.two .no (.two (.two .no (.two (.cut ⟨⟨[5,6],[],[.s 7 (.dat (.int .i64))]⟩,[(.exit 0,⟨[],[],[]⟩),(.ret,⟨[],[],[.s 1000 (.dat .bool)]⟩)]⟩ (.two (.two .no (.two .no (.two (.two (.two .no (.two (.cut ⟨⟨[],[],[]⟩,[(.norm,⟨[5,6,7],[],[.s 24 (.dat .bool)]⟩)]⟩ .no) .no)) .no) .no))) .no)) .no)) .no))) Tryz.func61 (fun _ _=>by kernel_rfl) rfl (fun v vals x z ha hz=>(ZKz x).trans hz)
end Go.Eng
set_option maxRecDepth 100000
set_option maxHeartbeats 4000000
namespace Go.Eng
open Go.Proofs Go.RowKit
noncomputable def ZAk:FuncId×Con:=(25,⟨[.slice (.slice (.pair (.int .i64) (.int .i64)))],[.bool],fun p=>ZRj p⟩)
theorem few2_i (m:List (List (Int×Int))):Zl ⟨Tryz.prog,[(39,0),(41,2),(43,3),(91,1),(93,4)],[Zek],[],[],[],[],[]⟩ [] Tryz.f25 (.two .no (.two (.two .no (.two (.two (.cut ⟨⟨[],[],[]⟩,[(.norm,⟨[],[],[.s 2 (.dat .bool)]⟩)]⟩ .no) .no) .no)) (.two (.two .no (.two (.cut ⟨⟨[0,16,17],[],[.s 18 (.dat (.int .i64))]⟩,[(.exit 0,⟨[],[],[]⟩),(.ret,⟨[],[],[.s 1000 (.dat .bool)]⟩)]⟩ (.two (.two .no (.two .no (.two (.two (.two .no (.two (.cut ⟨⟨[],[],[]⟩,[(.norm,⟨[0,16,17,18],[],[.s 44 (.dat .bool)]⟩)]⟩ .no) .no)) .no) .no))) .no)) .no)) .no))) [.slice (.slice (.pair (.int .i64) (.int .i64)))] [.bool] (m)=ZRj m:=by kernel_rfl
theorem few2_k:Zk Tryz.prog ZAk.1 ZAk.2:=Zm (C:=⟨Tryz.prog,[(39,0),(41,2),(43,3),(91,1),(93,4)],[Zek],[],[],[],[],[]⟩) ⟨Zdy,trivial⟩ trivial trivial trivial (inl:=[]) trivial (ann:=(.two .no (.two (.two .no (.two (.two (.cut ⟨⟨[],[],[]⟩,[(.norm,⟨[],[],[.s 2 (.dat .bool)]⟩)]⟩ .no) .no) .no)) (.two (.two .no (.two (.cut ⟨⟨[0,16,17],[],[.s 18 (.dat (.int .i64))]⟩,[(.exit 0,⟨[],[],[]⟩),(.ret,⟨[],[],[.s 1000 (.dat .bool)]⟩)]⟩ (.two (.two .no (.two .no (.two (.two (.two .no (.two (.cut ⟨⟨[],[],[]⟩,[(.norm,⟨[0,16,17,18],[],[.s 44 (.dat .bool)]⟩)]⟩ .no) .no)) .no) .no))) .no)) .no)) .no)))) Tryz.func25 (fun _ _=>by kernel_rfl) rfl (fun v vals x z ha hz=>(few2_i x).trans hz)
end Go.Eng
set_option maxRecDepth 100000
set_option maxHeartbeats 4000000
namespace Go.Eng
open Go.Proofs Go.RowKit
noncomputable def ZOh:FuncId×Con:=(13,⟨[.slice (.slice (.leaf 3))],[.int .i64,.int .i64],fun p=>ZGh p⟩)
theorem Rank_i (m:List (List Rat)):Zl ⟨Tryz.prog,[(39,0),(41,2),(43,3),(91,1),(93,4)],[Zei],[],[],[],[],[]⟩ [] Tryz.f13 .no [.slice (.slice (.leaf 3))] [.int .i64,.int .i64] (m)=ZGh m:=by kernel_rfl
theorem ZSs:Zk Tryz.prog ZOh.1 ZOh.2:=Zm (C:=⟨Tryz.prog,[(39,0),(41,2),(43,3),(91,1),(93,4)],[Zei],[],[],[],[],[]⟩) ⟨Zos,trivial⟩ trivial trivial trivial (inl:=[]) trivial (ann:=.no) Tryz.func13 (fun _ _=>by kernel_rfl) rfl (fun v vals x z ha hz=>(Rank_i x).trans hz)
end Go.Eng
set_option maxRecDepth 100000
set_option maxHeartbeats 4000000
namespace Go.Eng
open Go.Proofs Go.RowKit
noncomputable def Zik:FuncId×Con:=(212,⟨[.leaf 3],[.leaf 3],fun p=>ZZn p⟩)
theorem qconj_i (x:Rat):Zl ⟨Tryz.prog,[(39,0),(41,2),(43,3),(91,1),(93,4)],[],[],[],[],[],[]⟩ [] Tryz.f212 .no [.leaf 3] [.leaf 3] (x)=ZZn x:=by kernel_rfl
theorem qconj_k:Zk Tryz.prog Zik.1 Zik.2:=Zm (C:=⟨Tryz.prog,[(39,0),(41,2),(43,3),(91,1),(93,4)],[],[],[],[],[],[]⟩) trivial trivial trivial trivial (inl:=[]) trivial (ann:=.no) Tryz.func212 (fun _ _=>by kernel_rfl) rfl (fun v vals x z ha hz=>(qconj_i x).trans hz)
end Go.Eng
set_option maxRecDepth 100000
set_option maxHeartbeats 4000000
namespace Go.Eng
open Go.Proofs Go.RowKit
noncomputable def ZSm:FuncId×Con:=(46,⟨[.leaf 3],[.leaf 3],fun p=>ZJk p⟩)
theorem lconj_i (x : Rat) : Zl ⟨Tryz.prog, [(39, 0), (41, 2), (43, 3), (91, 1), (93, 4)], [Zik], [], [], [], [((43, "Conj"), 212)], []⟩ [] Tryz.f46 .no [.leaf 3] [.leaf 3] (x) = ZJk x := by kernel_rfl
theorem lconj_k : Zk Tryz.prog ZSm.1 ZSm.2 := Zm (C := ⟨Tryz.prog, [(39, 0), (41, 2), (43, 3), (91, 1), (93, 4)], [Zik], [], [], [], [((43, "Conj"), 212)], []⟩) ⟨qconj_k, trivial⟩ trivial trivial ⟨Zfu, trivial⟩ (inl := []) trivial (ann := .no) Tryz.func46 (fun _ _ => by kernel_rfl) rfl (fun v vals x z ha hz => (lconj_i x).trans hz)
end Go.Eng
set_option maxRecDepth 100000
set_option maxHeartbeats 4000000
namespace Go.Eng
open Go.Proofs Go.RowKit
noncomputable def Zxk:FuncId×Con:=(140,⟨[.leaf 3],[.leaf 3],fun p=>ZFl p⟩)
theorem ZFu (x:Rat):Zl ⟨Tryz.prog,[(39,0),(41,2),(43,3),(91,1),(93,4)],[],[],[],[],[],[]⟩ [] Tryz.f140 .no [.leaf 3] [.leaf 3] (x)=ZFl x:=by kernel_rfl
theorem Zqz:Zk Tryz.prog Zxk.1 Zxk.2:=Zm (C:=⟨Tryz.prog,[(39,0),(41,2),(43,3),(91,1),(93,4)],[],[],[],[],[],[]⟩) trivial trivial trivial trivial (inl:=[]) trivial (ann:=.no) Tryz.func140 (fun _ _=>by kernel_rfl) rfl (fun v vals x z ha hz=>(ZFu x).trans hz)
end Go.Eng
set_option maxRecDepth 100000
set_option maxHeartbeats 4000000
namespace Go.Eng
open Go.Proofs Go.RowKit
noncomputable def Z8k:FuncId×Con:=(98,⟨[.slice (.slice (.leaf 3)),.slice (.slice (.leaf 3))],[.slice (.slice (.leaf 3))],fun p=>ZGj p.1 p.2⟩)
theorem ZCw (a:List (List Rat)) (b:List (List Rat)):Zl ⟨Tryz.prog,[(39,0),(41,2),(43,3),(91,1),(93,4)],[Zwb,ZPd,Zxk],[12,15],[],[],[],[]⟩ [(45,Tryz.f45,.cut ⟨⟨[],[],[]⟩,[(.ret,⟨[],[],[.s 1000 (.dat (.slice (.slice (.leaf 3))))]⟩)]⟩ (.two .no (.two .no (.two (.two .no (.two (.cut ⟨⟨[1,5,13,14],[],[.s 15 (.dat (.int .i64)),.l (.sl 5) (.mat 30 43 (.leaf 3))]⟩,[(.exit 0,⟨[5],[],[.l (.sl 5) (.mat 30 43 (.leaf 3))]⟩)]⟩ (.two (.two .no (.two .no (.two (.two (.two .no (.two .no (.two (.cut ⟨⟨[1,5,13,14,15,19,20],[],[.s 21 (.dat (.int .i64)),.l (.sl 5) (.mat 30 43 (.leaf 3))]⟩,[(.exit 2,⟨[1,5,13,14,15],[],[.l (.sl 5) (.mat 30 43 (.leaf 3))]⟩)]⟩ .no) .no))) .no) .no))) .no)) .no)) .no))))] Tryz.f98 (.two .no (.two .no (.two .no (.two (.two .no (.two (.cut ⟨⟨[5,6,16,17],[],[.s 18 (.dat (.int .i64)),.l (.sl 6) (.mat 30 43 (.leaf 3))]⟩,[(.exit 0,⟨[6],[],[.l (.sl 6) (.mat 30 43 (.leaf 3))]⟩)]⟩ (.two (.two .no (.two .no (.two (.two (.two .no (.two .no (.two (.cut ⟨⟨[5,6,7,8,16,17,18,23,24],[],[.s 25 (.dat (.int .i64)),.l (.sl 6) (.mat 30 43 (.leaf 3))]⟩,[(.exit 2,⟨[5,6,16,17,18],[],[.l (.sl 6) (.mat 30 43 (.leaf 3))]⟩)]⟩ .no) .no))) .no) .no))) .no)) .no)) .no)))) [.slice (.slice (.leaf 3)),.slice (.slice (.leaf 3))] [.slice (.slice (.leaf 3))] (a,b)=ZGj a b:=by kernel_rfl
theorem ZTx:Zk Tryz.prog Z8k.1 Z8k.2:=Zm (C:=⟨Tryz.prog,[(39,0),(41,2),(43,3),(91,1),(93,4)],[Zwb,ZPd,Zxk],[12,15],[],[],[],[]⟩) ⟨Zxf,Zgn,Zqz,trivial⟩ trivial trivial trivial (inl:=[(45,Tryz.f45,.cut ⟨⟨[],[],[]⟩,[(.ret,⟨[],[],[.s 1000 (.dat (.slice (.slice (.leaf 3))))]⟩)]⟩ (.two .no (.two .no (.two (.two .no (.two (.cut ⟨⟨[1,5,13,14],[],[.s 15 (.dat (.int .i64)),.l (.sl 5) (.mat 30 43 (.leaf 3))]⟩,[(.exit 0,⟨[5],[],[.l (.sl 5) (.mat 30 43 (.leaf 3))]⟩)]⟩ (.two (.two .no (.two .no (.two (.two (.two .no (.two .no (.two (.cut ⟨⟨[1,5,13,14,15,19,20],[],[.s 21 (.dat (.int .i64)),.l (.sl 5) (.mat 30 43 (.leaf 3))]⟩,[(.exit 2,⟨[1,5,13,14,15],[],[.l (.sl 5) (.mat 30 43 (.leaf 3))]⟩)]⟩ .no) .no))) .no) .no))) .no)) .no)) .no))))]) ⟨⟨Tryz.func45,fun _ _=>by kernel_rfl⟩,trivial⟩ (ann:=(.two .no (.two .no (.two .no (.two (.two .no (.two (.cut ⟨⟨[5,6,16,17],[],[.s 18 (.dat (.int .i64)),.l (.sl 6) (.mat 30 43 (.leaf 3))]⟩,[(.exit 0,⟨[6],[],[.l (.sl 6) (.mat 30 43 (.leaf 3))]⟩)]⟩ (.two (.two .no (.two .no (.two (.two (.two .no (.two .no (.two (.cut ⟨⟨[5,6,7,8,16,17,18,23,24],[],[.s 25 (.dat (.int .i64)),.l (.sl 6) (.mat 30 43 (.leaf 3))]⟩,[(.exit 2,⟨[5,6,16,17,18],[],[.l (.sl 6) (.mat 30 43 (.leaf 3))]⟩)]⟩ .no) .no))) .no) .no))) .no)) .no)) .no))))) Tryz.func98 (fun _ _=>by kernel_rfl) rfl (fun v vals x z ha hz=>(ZCw x.1 x.2).trans hz)
end Go.Eng
set_option maxRecDepth 100000
set_option maxHeartbeats 4000000
namespace Go.Eng
open Go.Proofs Go.RowKit
noncomputable def Z1l:FuncId×Con:=(54,⟨[.slice (.slice (.leaf 3)),.slice (.leaf 3)],[.slice (.slice (.leaf 3)),.slice (.leaf 3)],fun p=>Znj p.1 p.2⟩)
theorem Zmw (m:List (List Rat)) (b:List Rat):Zl ⟨Tryz.prog,[(39,0),(41,2),(43,3),(91,1),(93,4)],[ZSm,Zwb,ZSf,Z8k],[12],[],[],[],[]⟩ [(45,Tryz.f45,.cut ⟨⟨[],[],[]⟩,[(.ret,⟨[],[],[.s 1000 (.dat (.slice (.slice (.leaf 3))))]⟩)]⟩ (.two .no (.two .no (.two (.two .no (.two (.cut ⟨⟨[1,5,13,14],[],[.s 15 (.dat (.int .i64)),.l (.sl 5) (.mat 30 43 (.leaf 3))]⟩,[(.exit 0,⟨[5],[],[.l (.sl 5) (.mat 30 43 (.leaf 3))]⟩)]⟩ (.two (.two .no (.two .no (.two (.two (.two .no (.two .no (.two (.cut ⟨⟨[1,5,13,14,15,19,20],[],[.s 21 (.dat (.int .i64)),.l (.sl 5) (.mat 30 43 (.leaf 3))]⟩,[(.exit 2,⟨[1,5,13,14,15],[],[.l (.sl 5) (.mat 30 43 (.leaf 3))]⟩)]⟩ .no) .no))) .no) .no))) .no)) .no)) .no))))] Tryz.f54 .no [.slice (.slice (.leaf 3)),.slice (.leaf 3)] [.slice (.slice (.leaf 3)),.slice (.leaf 3)] (m,b)=Znj m b:=by kernel_rfl
theorem Zyz:Zk Tryz.prog Z1l.1 Z1l.2:=Zm (C:=⟨Tryz.prog,[(39,0),(41,2),(43,3),(91,1),(93,4)],[ZSm,Zwb,ZSf,Z8k],[12],[],[],[],[]⟩) ⟨lconj_k,Zxf,Z3p,ZTx,trivial⟩ trivial trivial trivial (inl:=[(45,Tryz.f45,.cut ⟨⟨[],[],[]⟩,[(.ret,⟨[],[],[.s 1000 (.dat (.slice (.slice (.leaf 3))))]⟩)]⟩ (.two .no (.two .no (.two (.two .no (.two (.cut ⟨⟨[1,5,13,14],[],[.s 15 (.dat (.int .i64)),.l (.sl 5) (.mat 30 43 (.leaf 3))]⟩,[(.exit 0,⟨[5],[],[.l (.sl 5) (.mat 30 43 (.leaf 3))]⟩)]⟩ (.two (.two .no (.two .no (.two (.two (.two .no (.two .no (.two (.cut ⟨⟨[1,5,13,14,15,19,20],[],[.s 21 (.dat (.int .i64)),.l (.sl 5) (.mat 30 43 (.leaf 3))]⟩,[(.exit 2,⟨[1,5,13,14,15],[],[.l (.sl 5) (.mat 30 43 (.leaf 3))]⟩)]⟩ .no) .no))) .no) .no))) .no)) .no)) .no))))]) ⟨⟨Tryz.func45,fun _ _=>by kernel_rfl⟩,trivial⟩ (ann:=.no) Tryz.func54 (fun _ _=>by kernel_rfl) rfl (fun v vals x z ha hz=>(Zmw x.1 x.2).trans hz)
end Go.Eng
set_option maxRecDepth 100000
set_option maxHeartbeats 4000000
namespace Go.Eng
open Go.Proofs Go.RowKit
noncomputable def ZQm:FuncId×Con:=(51,⟨[.slice (.slice (.leaf 3)),.slice (.slice (.leaf 3))],[.slice (.slice (.leaf 3))],fun p=>Z3i p.1 p.2⟩)
theorem Ztu (m:List (List Rat)) (b:List (List Rat)):Zl ⟨Tryz.prog,[(39,0),(41,2),(43,3),(91,1),(93,4)],[],[8],[ZOd],[],[],[]⟩ [(95,Tryz.f95,.two .no (.two .no (.two (.two .no (.two (.cut ⟨⟨[3,9,10],[],[.s 11 (.dat (.int .i64)),.l (.sl 3) (.mat 30 43 (.leaf 3))]⟩,[(.exit 0,⟨[3],[],[.l (.sl 3) (.mat 30 43 (.leaf 3))]⟩)]⟩ .no) .no)) .no)))] Tryz.f51 (.two .no (.two .no (.two (.two .no (.two (.cut ⟨⟨[1,5,10],[],[.s 11 (.dat (.int .i64)),.l (.sl 5) (.mat 30 43 (.leaf 3))]⟩,[(.exit 0,⟨[5],[],[.l (.sl 5) (.mat 30 43 (.leaf 3))]⟩)]⟩ .no) .no)) .no))) [.slice (.slice (.leaf 3)),.slice (.slice (.leaf 3))] [.slice (.slice (.leaf 3))] (m,b)=Z3i m b:=by kernel_rfl
theorem ZLy:Zk Tryz.prog ZQm.1 ZQm.2:=Zm (C:=⟨Tryz.prog,[(39,0),(41,2),(43,3),(91,1),(93,4)],[],[8],[ZOd],[],[],[]⟩) trivial ⟨ZSl,trivial⟩ trivial trivial (inl:=[(95,Tryz.f95,.two .no (.two .no (.two (.two .no (.two (.cut ⟨⟨[3,9,10],[],[.s 11 (.dat (.int .i64)),.l (.sl 3) (.mat 30 43 (.leaf 3))]⟩,[(.exit 0,⟨[3],[],[.l (.sl 3) (.mat 30 43 (.leaf 3))]⟩)]⟩ .no) .no)) .no)))]) ⟨⟨Tryz.func95,fun _ _=>by kernel_rfl⟩,trivial⟩ (ann:=(.two .no (.two .no (.two (.two .no (.two (.cut ⟨⟨[1,5,10],[],[.s 11 (.dat (.int .i64)),.l (.sl 5) (.mat 30 43 (.leaf 3))]⟩,[(.exit 0,⟨[5],[],[.l (.sl 5) (.mat 30 43 (.leaf 3))]⟩)]⟩ .no) .no)) .no)))) Tryz.func51 (fun _ _=>by kernel_rfl) rfl (fun v vals x z ha hz=>(Ztu x.1 x.2).trans hz)
end Go.Eng
set_option maxRecDepth 100000
set_option maxHeartbeats 4000000
namespace Go.Eng
open Go.Proofs Go.RowKit
noncomputable def Z0k:FuncId×Con:=(52,⟨[.slice (.leaf 3)],[.slice (.slice (.leaf 3))],fun p=>Zlj p⟩)
theorem Zqu (b:List Rat):Zl ⟨Tryz.prog,[(39,0),(41,2),(43,3),(91,1),(93,4)],[],[8],[],[],[],[]⟩ [] Tryz.f52 (.two .no (.two .no (.two (.two .no (.two (.cut ⟨⟨[3,9,10],[],[.s 11 (.dat (.int .i64)),.l (.sl 3) (.mat 30 43 (.leaf 3))]⟩,[(.exit 0,⟨[3],[],[.l (.sl 3) (.mat 30 43 (.leaf 3))]⟩)]⟩ .no) .no)) .no))) [.slice (.leaf 3)] [.slice (.slice (.leaf 3))] (b)=Zlj b:=by kernel_rfl
theorem ZPw:Zk Tryz.prog Z0k.1 Z0k.2:=Zm (C:=⟨Tryz.prog,[(39,0),(41,2),(43,3),(91,1),(93,4)],[],[8],[],[],[],[]⟩) trivial trivial trivial trivial (inl:=[]) trivial (ann:=(.two .no (.two .no (.two (.two .no (.two (.cut ⟨⟨[3,9,10],[],[.s 11 (.dat (.int .i64)),.l (.sl 3) (.mat 30 43 (.leaf 3))]⟩,[(.exit 0,⟨[3],[],[.l (.sl 3) (.mat 30 43 (.leaf 3))]⟩)]⟩ .no) .no)) .no)))) Tryz.func52 (fun _ _=>by kernel_rfl) rfl (fun v vals x z ha hz=>(Zqu x).trans hz)
end Go.Eng
set_option maxRecDepth 100000
set_option maxHeartbeats 4000000
namespace Go.Eng
open Go.Proofs Go.RowKit
noncomputable def Zsl:FuncId×Con:=(18,⟨[.slice (.slice (.leaf 3)),.slice (.leaf 3)],[.slice (.leaf 3),.int .i64],fun p=>Zhi p.1 p.2⟩)
theorem Any_i (m:List (List Rat)) (b:List Rat):Zl ⟨Tryz.prog,[(39,0),(41,2),(43,3),(91,1),(93,4)],[Zsc,ZNf,Zwb,Zmc,ZQm,Z0k],[],[Zqf],[],[],[]⟩ [(49,Tryz.f49,.no)] Tryz.f18 (.two .no (.two (.two (.cut ⟨⟨[],[],[]⟩,[(.norm,⟨[0,1],[],[.s 23 (.dat .bool)]⟩)]⟩ .no) .no) (.two .no (.two .no (.two (.two .no (.two (.cut ⟨⟨[],[],[]⟩,[(.norm,⟨[6,7,8],[],[.s 47 (.dat .bool)]⟩)]⟩ .no) .no)) (.two .no (.two (.two .no (.two (.cut ⟨⟨[6,7,11,50,51],[],[.s 52 (.dat (.int .i64)),.l (.sl 11) (.own 43 (.leaf 3))]⟩,[(.exit 0,⟨[11],[],[.l (.sl 11) (.own 43 (.leaf 3))]⟩)]⟩ .no) .no)) .no))))))) [.slice (.slice (.leaf 3)),.slice (.leaf 3)] [.slice (.leaf 3),.int .i64] (m,b)=Zhi m b:=by kernel_rfl
theorem Any_k:Zk Tryz.prog Zsl.1 Zsl.2:=Zm (C:=⟨Tryz.prog,[(39,0),(41,2),(43,3),(91,1),(93,4)],[Zsc,ZNf,Zwb,Zmc,ZQm,Z0k],[],[Zqf],[],[],[]⟩) ⟨ZKh,ZXn,Zxf,Zrh,ZLy,ZPw,trivial⟩ ⟨Zjo,trivial⟩ trivial trivial (inl:=[(49,Tryz.f49,.no)]) ⟨⟨Tryz.func49,fun _ _=>by kernel_rfl⟩,trivial⟩ (ann:=(.two .no (.two (.two (.cut ⟨⟨[],[],[]⟩,[(.norm,⟨[0,1],[],[.s 23 (.dat .bool)]⟩)]⟩ .no) .no) (.two .no (.two .no (.two (.two .no (.two (.cut ⟨⟨[],[],[]⟩,[(.norm,⟨[6,7,8],[],[.s 47 (.dat .bool)]⟩)]⟩ .no) .no)) (.two .no (.two (.two .no (.two (.cut ⟨⟨[6,7,11,50,51],[],[.s 52 (.dat (.int .i64)),.l (.sl 11) (.own 43 (.leaf 3))]⟩,[(.exit 0,⟨[11],[],[.l (.sl 11) (.own 43 (.leaf 3))]⟩)]⟩ .no) .no)) .no)))))))) Tryz.func18 (fun _ _=>by kernel_rfl) rfl (fun v vals x z ha hz=>(Any_i x.1 x.2).trans hz)
end Go.Eng
set_option maxRecDepth 100000
set_option maxHeartbeats 4000000
namespace Go.Eng
open Go.Proofs Go.RowKit
noncomputable def ZYl:FuncId×Con:=(109,⟨[.slice (.slice (.leaf 3))],[.bool],fun p=>Zgh p⟩)
theorem Zzw (m:List (List Rat)):Zl ⟨Tryz.prog,[(39,0),(41,2),(43,3),(91,1),(93,4)],[Zsc,Zwb],[],[],[],[],[]⟩ [] Tryz.f109 (.two .no (.two (.cut ⟨⟨[],[],[]⟩,[(.norm,⟨[],[],[.s 2 (.dat .bool)]⟩)]⟩ .no) .no)) [.slice (.slice (.leaf 3))] [.bool] (m)=Zgh m:=by kernel_rfl
theorem ZNw:Zk Tryz.prog ZYl.1 ZYl.2:=Zm (C:=⟨Tryz.prog,[(39,0),(41,2),(43,3),(91,1),(93,4)],[Zsc,Zwb],[],[],[],[],[]⟩) ⟨ZKh,Zxf,trivial⟩ trivial trivial trivial (inl:=[]) trivial (ann:=(.two .no (.two (.cut ⟨⟨[],[],[]⟩,[(.norm,⟨[],[],[.s 2 (.dat .bool)]⟩)]⟩ .no) .no))) Tryz.func109 (fun _ _=>by kernel_rfl) rfl (fun v vals x z ha hz=>(Zzw x).trans hz)
end Go.Eng
set_option maxRecDepth 100000
set_option maxHeartbeats 4000000
namespace Go.Eng
open Go.Proofs Go.RowKit
noncomputable def Zll:FuncId×Con:=(62,⟨[.slice (.slice (.leaf 3)),.slice (.leaf 3)],[.slice (.leaf 3),.int .i64],fun p=>ZEh p.1 p.2⟩)
theorem Solve_i (m:List (List Rat)) (b:List Rat):Zl ⟨Tryz.prog,[(39,0),(41,2),(43,3),(91,1),(93,4)],[ZOh,Zsl,ZYl],[],[],[],[],[]⟩ [] Tryz.f62 (.two .no (.two (.two (.cut ⟨⟨[],[],[]⟩,[(.norm,⟨[0,1],[],[.s 17 (.dat .bool)]⟩)]⟩ .no) .no) .no)) [.slice (.slice (.leaf 3)),.slice (.leaf 3)] [.slice (.leaf 3),.int .i64] (m,b)=ZEh m b:=by kernel_rfl
theorem Solve_k:Zk Tryz.prog Zll.1 Zll.2:=Zm (C:=⟨Tryz.prog,[(39,0),(41,2),(43,3),(91,1),(93,4)],[ZOh,Zsl,ZYl],[],[],[],[],[]⟩) ⟨ZSs,Any_k,ZNw,trivial⟩ trivial trivial trivial (inl:=[]) trivial (ann:=(.two .no (.two (.two (.cut ⟨⟨[],[],[]⟩,[(.norm,⟨[0,1],[],[.s 17 (.dat .bool)]⟩)]⟩ .no) .no) .no))) Tryz.func62 (fun _ _=>by kernel_rfl) rfl (fun v vals x z ha hz=>(Solve_i x.1 x.2).trans hz)
end Go.Eng
set_option maxRecDepth 100000
set_option maxHeartbeats 4000000
namespace Go.Eng
open Go.Proofs Go.RowKit
noncomputable def Zmm:FuncId×Con:=(26,⟨[.slice (.slice (.leaf 3)),.slice (.leaf 3)],[.slice (.leaf 3),.int .i64],fun p=>Zge p.1 p.2⟩)
theorem Least_i (m:List (List Rat)) (b:List Rat):Zl ⟨Tryz.prog,[(39,0),(41,2),(43,3),(91,1),(93,4)],[ZOh,Zsc,Zwb,Z1l,Zll],[],[],[],[],[]⟩ [] Tryz.f26 (.two .no (.two (.two (.cut ⟨⟨[],[],[]⟩,[(.norm,⟨[0,1],[],[.s 17 (.dat .bool)]⟩)]⟩ .no) .no) .no)) [.slice (.slice (.leaf 3)),.slice (.leaf 3)] [.slice (.leaf 3),.int .i64] (m,b)=Zge m b:=by kernel_rfl
theorem Least_k:Zk Tryz.prog Zmm.1 Zmm.2:=Zm (C:=⟨Tryz.prog,[(39,0),(41,2),(43,3),(91,1),(93,4)],[ZOh,Zsc,Zwb,Z1l,Zll],[],[],[],[],[]⟩) ⟨ZSs,ZKh,Zxf,Zyz,Solve_k,trivial⟩ trivial trivial trivial (inl:=[]) trivial (ann:=(.two .no (.two (.two (.cut ⟨⟨[],[],[]⟩,[(.norm,⟨[0,1],[],[.s 17 (.dat .bool)]⟩)]⟩ .no) .no) .no))) Tryz.func26 (fun _ _=>by kernel_rfl) rfl (fun v vals x z ha hz=>(Least_i x.1 x.2).trans hz)
end Go.Eng
set_option maxRecDepth 100000
set_option maxHeartbeats 4000000
namespace Go.Eng
open Go.Proofs Go.RowKit
noncomputable def Z1f:FuncId×Con:=(63,⟨[.slice (.slice (.pair (.pair (.leaf 4) (.pair (.leaf 4) (.pair (.leaf 4) (.leaf 4)))) (.pair (.leaf 4) (.pair (.leaf 4) (.pair (.leaf 4) (.leaf 4))))))],[.bool],fun p=>Z3d p⟩)
theorem Znx (m:List (List ((Rat×Rat×Rat×Rat)×Rat×Rat×Rat×Rat))):Zl ⟨Tryz.prog,[(39,0),(41,2),(43,3),(91,1),(93,4)],[],[],[],[],[],[]⟩ [] Tryz.f63 (.two .no (.two (.two .no (.two (.cut ⟨⟨[0],[],[.s 3 (.dat (.int .i64))]⟩,[(.exit 0,⟨[0],[],[]⟩),(.ret,⟨[],[],[.s 1000 (.dat .bool)]⟩)]⟩ (.two (.two .no (.two (.two (.two (.cut ⟨⟨[],[],[]⟩,[(.norm,⟨[0,3],[],[.s 27 (.dat .bool)]⟩)]⟩ .no) .no) .no) .no)) .no)) .no)) .no)) [.slice (.slice (.pair (.pair (.leaf 4) (.pair (.leaf 4) (.pair (.leaf 4) (.leaf 4)))) (.pair (.leaf 4) (.pair (.leaf 4) (.pair (.leaf 4) (.leaf 4))))))] [.bool] (m)=Z3d m:=by kernel_rfl
theorem Zvn:Zk Tryz.prog Z1f.1 Z1f.2:=Zm (C:=⟨Tryz.prog,[(39,0),(41,2),(43,3),(91,1),(93,4)],[],[],[],[],[],[]⟩) trivial trivial trivial trivial (inl:=[]) trivial (ann:=(.two .no (.two (.two .no (.two (.cut ⟨⟨[0],[],[.s 3 (.dat (.int .i64))]⟩,[(.exit 0,⟨[0],[],[]⟩),(.ret,⟨[],[],[.s 1000 (.dat .bool)]⟩)]⟩ (.two (.two .no (.two (.two (.two (.cut ⟨⟨[],[],[]⟩,[(.norm,⟨[0,3],[],[.s 27 (.dat .bool)]⟩)]⟩ .no) .no) .no) .no)) .no)) .no)) .no))) Tryz.func63 (fun _ _=>by kernel_rfl) rfl (fun v vals x z ha hz=>(Znx x).trans hz)
theorem ZTw {x y z:Rat} (h:Zha x y=some z):Zyp x y=some z:=by
 unfold Zha at h;split at h
 ·rename_i hh;obtain ⟨⟨a1,a2⟩,b1,b2⟩:=hh
  cases h
  unfold Zyp ZWb;have p1:=Zjb x.num.natAbs y.num.natAbs;have p3:=Zjb x.den y.den;have e1:Zra x.num.natAbs y.num.natAbs=some (x.num.natAbs*y.num.natAbs):=by unfold Zra;rw [if_pos ⟨ZDb (by omega),ZDb (by omega)⟩]
  have e3:Zra x.den y.den=some (x.den*y.den):=by unfold Zra;rw [if_pos ⟨ZDb (by omega),ZDb (by omega)⟩]
  rw [e1,Za,Za,Za,e3,Za];unfold Zvb;rw [if_pos ⟨Zld (by omega),Zld (by omega),Nat.mul_ne_zero x.den_nz y.den_nz⟩,Za];have e:sgn ((decide (x.num<0)) != (decide (y.num<0))) (x.num.natAbs*y.num.natAbs)=x.num*y.num:=by
   have eN:((x.num.natAbs*y.num.natAbs:Nat):Int)=(x.num.natAbs:Int)*y.num.natAbs:=by simp
   unfold sgn;rw [eN];by_cases h:x.num<0
   ·have hx:(x.num.natAbs:Int) = -x.num:=by omega
    by_cases h2:y.num<0
    ·have hy:(y.num.natAbs:Int) = -y.num:=by omega
     simp [h,h2,hx,hy,Int.neg_mul,Int.mul_neg]
    ·have hy:(y.num.natAbs:Int)=y.num:=by omega
     simp [h,h2,hx,hy,Int.neg_mul,Int.mul_neg]
   ·have hx:(x.num.natAbs:Int)=x.num:=by omega
    by_cases h2:y.num<0
    ·have hy:(y.num.natAbs:Int) = -y.num:=by omega
     simp [h,h2,hx,hy,Int.neg_mul,Int.mul_neg]
    ·have hy:(y.num.natAbs:Int)=y.num:=by omega
     simp [h,h2,hx,hy,Int.neg_mul,Int.mul_neg]
  rw [e,← Rat.mul_def']
 ·cases h
end Go.Eng
set_option maxRecDepth 100000
set_option maxHeartbeats 4000000
namespace Go.Eng
open Go.Proofs Go.RowKit
noncomputable def Zim:FuncId×Con:=(179,⟨[.leaf 4,.leaf 4],[.leaf 4],fun p=>Zha p.1 p.2⟩)
theorem rmul_i (x:Rat) (y:Rat):Zl ⟨Tryz.prog,[(91,1),(93,4)],[Zfc,ZSc,Z2d],[],[],[],[],[]⟩ [] Tryz.f179 .no [.leaf 4,.leaf 4] [.leaf 4] (x,y)=Zyp x y:=by kernel_rfl
theorem rmul_k:Zk Tryz.prog Zim.1 Zim.2:=Zm (C:=⟨Tryz.prog,[(91,1),(93,4)],[Zfc,ZSc,Z2d],[],[],[],[],[]⟩) ⟨Zlh,ZNi,Zwk,trivial⟩ trivial trivial trivial (inl:=[]) trivial (ann:=.no) Tryz.func179 (fun _ _=>by kernel_rfl) rfl fun v vals x z ha hz=>(rmul_i x.1 x.2).trans (ZTw hz)
end Go.Eng
set_option maxRecDepth 100000
set_option maxHeartbeats 4000000
namespace Go.Eng
open Go.Proofs Go.RowKit
noncomputable def Zuf:FuncId×Con:=(149,⟨[.pair (.leaf 4) (.pair (.leaf 4) (.pair (.leaf 4) (.leaf 4))),.pair (.leaf 4) (.pair (.leaf 4) (.pair (.leaf 4) (.leaf 4)))],[.pair (.leaf 4) (.pair (.leaf 4) (.pair (.leaf 4) (.leaf 4)))],fun p=>Znc p.1 p.2⟩)
theorem sMul_i (x:Rat×Rat×Rat×Rat) (y:Rat×Rat×Rat×Rat):Zl ⟨Tryz.prog,[(39,0),(41,2),(43,3),(91,1),(93,4)],[ZLd,Zcb,Zim,Zdi],[],[],[],[],[]⟩ [] Tryz.f149 (.two .no (.two .no (.two (.two .no (.two (.unroll 5 (.two (.two .no (.two (.two (.two .no (.two (.unroll 5 .no) .no)) .no) .no)) .no)) .no)) .no))) [.pair (.leaf 4) (.pair (.leaf 4) (.pair (.leaf 4) (.leaf 4))),.pair (.leaf 4) (.pair (.leaf 4) (.pair (.leaf 4) (.leaf 4)))] [.pair (.leaf 4) (.pair (.leaf 4) (.pair (.leaf 4) (.leaf 4)))] (x,y)=Znc x y:=by kernel_rfl
theorem ZOn:Zk Tryz.prog Zuf.1 Zuf.2:=Zm (C:=⟨Tryz.prog,[(39,0),(41,2),(43,3),(91,1),(93,4)],[ZLd,Zcb,Zim,Zdi],[],[],[],[],[]⟩) ⟨ZGm,Z6e,rmul_k,ZJr,trivial⟩ trivial trivial trivial (inl:=[]) trivial (ann:=(.two .no (.two .no (.two (.two .no (.two (.unroll 5 (.two (.two .no (.two (.two (.two .no (.two (.unroll 5 .no) .no)) .no) .no)) .no)) .no)) .no)))) Tryz.func149 (fun _ _=>by kernel_rfl) rfl (fun v vals x z ha hz=>(sMul_i x.1 x.2).trans hz)
end Go.Eng
set_option maxRecDepth 100000
set_option maxHeartbeats 4000000
namespace Go.Eng
open Go.Proofs Go.RowKit
noncomputable def Zke:FuncId×Con:=(112,⟨[.pair (.pair (.leaf 4) (.pair (.leaf 4) (.pair (.leaf 4) (.leaf 4)))) (.pair (.leaf 4) (.pair (.leaf 4) (.pair (.leaf 4) (.leaf 4)))),.pair (.pair (.leaf 4) (.pair (.leaf 4) (.pair (.leaf 4) (.leaf 4)))) (.pair (.leaf 4) (.pair (.leaf 4) (.pair (.leaf 4) (.leaf 4))))],[.pair (.pair (.leaf 4) (.pair (.leaf 4) (.pair (.leaf 4) (.leaf 4)))) (.pair (.leaf 4) (.pair (.leaf 4) (.pair (.leaf 4) (.leaf 4))))],fun p=>Zwe p.1 p.2⟩)
theorem wMul_i (x:(Rat×Rat×Rat×Rat)×Rat×Rat×Rat×Rat) (y:(Rat×Rat×Rat×Rat)×Rat×Rat×Rat×Rat):Zl ⟨Tryz.prog,[(39,0),(41,2),(43,3),(91,1),(93,4)],[ZYh,Zuf,ZWd],[],[],[],[],[]⟩ [] Tryz.f112 .no [.pair (.pair (.leaf 4) (.pair (.leaf 4) (.pair (.leaf 4) (.leaf 4)))) (.pair (.leaf 4) (.pair (.leaf 4) (.pair (.leaf 4) (.leaf 4)))),.pair (.pair (.leaf 4) (.pair (.leaf 4) (.pair (.leaf 4) (.leaf 4)))) (.pair (.leaf 4) (.pair (.leaf 4) (.pair (.leaf 4) (.leaf 4))))] [.pair (.pair (.leaf 4) (.pair (.leaf 4) (.pair (.leaf 4) (.leaf 4)))) (.pair (.leaf 4) (.pair (.leaf 4) (.pair (.leaf 4) (.leaf 4))))] (x,y)=Zwe x y:=by kernel_rfl
theorem Zfk:Zk Tryz.prog Zke.1 Zke.2:=Zm (C:=⟨Tryz.prog,[(39,0),(41,2),(43,3),(91,1),(93,4)],[ZYh,Zuf,ZWd],[],[],[],[],[]⟩) ⟨ZHt,ZOn,Z1m,trivial⟩ trivial trivial trivial (inl:=[]) trivial (ann:=.no) Tryz.func112 (fun _ _=>by kernel_rfl) rfl (fun v vals x z ha hz=>(wMul_i x.1 x.2).trans hz)
end Go.Eng
set_option maxRecDepth 100000
set_option maxHeartbeats 4000000
namespace Go.Eng
open Go.Proofs Go.RowKit
noncomputable def ZVh:FuncId×Con:=(151,⟨[.pair (.pair (.leaf 4) (.pair (.leaf 4) (.pair (.leaf 4) (.leaf 4)))) (.pair (.leaf 4) (.pair (.leaf 4) (.pair (.leaf 4) (.leaf 4))))],[.pair (.pair (.leaf 4) (.pair (.leaf 4) (.pair (.leaf 4) (.leaf 4)))) (.pair (.leaf 4) (.pair (.leaf 4) (.pair (.leaf 4) (.leaf 4))))],fun p=>Zmi p⟩)
theorem wConj_i (x:(Rat×Rat×Rat×Rat)×Rat×Rat×Rat×Rat):Zl ⟨Tryz.prog,[(39,0),(41,2),(43,3),(91,1),(93,4)],[Z3g],[],[],[],[],[]⟩ [] Tryz.f151 .no [.pair (.pair (.leaf 4) (.pair (.leaf 4) (.pair (.leaf 4) (.leaf 4)))) (.pair (.leaf 4) (.pair (.leaf 4) (.pair (.leaf 4) (.leaf 4))))] [.pair (.pair (.leaf 4) (.pair (.leaf 4) (.pair (.leaf 4) (.leaf 4)))) (.pair (.leaf 4) (.pair (.leaf 4) (.pair (.leaf 4) (.leaf 4))))] (x)=Zmi x:=by kernel_rfl
theorem Zsq:Zk Tryz.prog ZVh.1 ZVh.2:=Zm (C:=⟨Tryz.prog,[(39,0),(41,2),(43,3),(91,1),(93,4)],[Z3g],[],[],[],[],[]⟩) ⟨Zcs,trivial⟩ trivial trivial trivial (inl:=[]) trivial (ann:=.no) Tryz.func151 (fun _ _=>by kernel_rfl) rfl (fun v vals x z ha hz=>(wConj_i x).trans hz)
end Go.Eng
set_option maxRecDepth 100000
set_option maxHeartbeats 4000000
namespace Go.Eng
open Go.Proofs Go.RowKit
noncomputable def ZDl:FuncId×Con:=(191,⟨[.pair (.leaf 4) (.pair (.leaf 4) (.pair (.leaf 4) (.leaf 4))),.int .i64],[.pair (.leaf 4) (.pair (.leaf 4) (.pair (.leaf 4) (.leaf 4)))],fun p=>Zlf p.1 p.2⟩)
theorem ZZw (x:Rat×Rat×Rat×Rat) (bit:Int):Zl ⟨Tryz.prog,[(39,0),(41,2),(43,3),(91,1),(93,4)],[ZNh],[],[],[],[],[]⟩ [] Tryz.f191 (.two .no (.two (.two .no (.two (.unroll 5 (.two (.two .no (.two (.two (.two .no (.cut ⟨⟨[],[],[]⟩,[(.norm,⟨[1,2,4,5],[],[.l (.sl 2) (.box 95 (.dat (.pair (.leaf 4) (.pair (.leaf 4) (.pair (.leaf 4) (.leaf 4))))))]⟩)]⟩ .no)) .no) .no)) .no)) .no)) .no)) [.pair (.leaf 4) (.pair (.leaf 4) (.pair (.leaf 4) (.leaf 4))),.int .i64] [.pair (.leaf 4) (.pair (.leaf 4) (.pair (.leaf 4) (.leaf 4)))] (x,bit)=Zlf x bit:=by kernel_rfl
theorem ZZv:Zk Tryz.prog ZDl.1 ZDl.2:=Zm (C:=⟨Tryz.prog,[(39,0),(41,2),(43,3),(91,1),(93,4)],[ZNh],[],[],[],[],[]⟩) ⟨ZNs,trivial⟩ trivial trivial trivial (inl:=[]) trivial (ann:=(.two .no (.two (.two .no (.two (.unroll 5 (.two (.two .no (.two (.two (.two .no (.cut ⟨⟨[],[],[]⟩,[(.norm,⟨[1,2,4,5],[],[.l (.sl 2) (.box 95 (.dat (.pair (.leaf 4) (.pair (.leaf 4) (.pair (.leaf 4) (.leaf 4))))))]⟩)]⟩ .no)) .no) .no)) .no)) .no)) .no))) Tryz.func191 (fun _ _=>by kernel_rfl) rfl (fun v vals x z ha hz=>(ZZw x.1 x.2).trans hz)
noncomputable def ZTo (x:Rat) (y:Rat):Option (Rat×Int) :=
 bnd (ZHc y) fun a =>
 ifb (a)
 (bnd (Zla (0:Int)) fun b =>
 some ((b,(3:Int))))
 (bnd (ZWb y) fun c =>
 bnd (Zra x.num.natAbs c) fun d =>
 bnd (ZWb x) fun e =>
 bnd (Zra e y.num.natAbs) fun f =>
 bnd (Zvb ((decide (x.num<0)) != (decide (y.num<0))) d f) fun g =>
 some ((g,(0:Int))))
theorem ZEv {x y:Rat} {z:Rat×Int} (h:ZJi x y=some z):ZTo x y=some z:=by
 unfold ZJi at h;split at h
 ·rename_i hh;obtain ⟨⟨a1,a2⟩,b1,b2⟩:=hh
  cases h
  unfold ZTo ZHc;rw [Za];by_cases h0:y=0
  ·subst h0;rfl
  ·rw [decide_eq_false h0,Ze,if_neg h0];unfold ZWb;have hn:=ZCs h0;have p1:=Zjb x.num.natAbs y.den;have p3:=Zjb x.den y.num.natAbs;have e1:Zra x.num.natAbs y.den=some (x.num.natAbs*y.den):=by unfold Zra;rw [if_pos ⟨ZDb (by omega),ZDb (by omega)⟩]
   have e3:Zra x.den y.num.natAbs=some (x.den*y.num.natAbs):=by unfold Zra;rw [if_pos ⟨ZDb (by omega),ZDb (by omega)⟩]
   rw [Za,e1,Za,Za,e3,Za];unfold Zvb;rw [if_pos ⟨Zld (by omega),Zld (by omega),Nat.mul_ne_zero x.den_nz (by omega)⟩,Za];have e:sgn ((decide (x.num<0)) != (decide (y.num<0))) (x.num.natAbs*y.den)=if y.num<0 then -(x.num*(y.den:Int)) else x.num*(y.den:Int):=by
    have eN:((x.num.natAbs*y.den:Nat):Int)=(x.num.natAbs:Int)*y.den:=by simp
    unfold sgn;rw [eN];by_cases h:x.num<0
    ·have hx:(x.num.natAbs:Int) = -x.num:=by omega
     by_cases h2:y.num<0 <;> simp [h,h2,hx,Int.neg_mul]
    ·have hx:(x.num.natAbs:Int)=x.num:=by omega
     by_cases h2:y.num<0 <;> simp [h,h2,hx,Int.neg_mul]
   rw [e,← ZTr h0]
 ·cases h
end Go.Eng
set_option maxRecDepth 100000
set_option maxHeartbeats 4000000
namespace Go.Eng
open Go.Proofs Go.RowKit
noncomputable def ZPk:FuncId×Con:=(195,⟨[.leaf 4,.leaf 4],[.leaf 4,.int .i64],fun p=>ZJi p.1 p.2⟩)
theorem rdiv_i (x:Rat) (y:Rat):Zl ⟨Tryz.prog,[(91,1),(93,4)],[Zcb,Zfc,Zof,ZSc,Z2d],[],[],[],[],[]⟩ [] Tryz.f195 .no [.leaf 4,.leaf 4] [.leaf 4,.int .i64] (x,y)=ZTo x y:=by kernel_rfl
theorem rdiv_k:Zk Tryz.prog ZPk.1 ZPk.2:=Zm (C:=⟨Tryz.prog,[(91,1),(93,4)],[Zcb,Zfc,Zof,ZSc,Z2d],[],[],[],[],[]⟩) ⟨Z6e,Zlh,Zxn,ZNi,Zwk,trivial⟩ trivial trivial trivial (inl:=[]) trivial (ann:=.no) Tryz.func195 (fun _ _=>by kernel_rfl) rfl fun v vals x z ha hz=>(rdiv_i x.1 x.2).trans (ZEv hz)
theorem rbyF_eq {x y z:Rat} (h:Z4d x y=some z):rby_m x y=some z:=by
 unfold Z4d at h;split at h
 ·rename_i hh
  cases h
  unfold rby_m ZJi;rw [if_pos hh,Za];split <;> rfl
 ·cases h
end Go.Eng
set_option maxRecDepth 100000
set_option maxHeartbeats 4000000
namespace Go.Eng
open Go.Proofs Go.RowKit
noncomputable def Zin:FuncId×Con:=(192,⟨[.leaf 4,.leaf 4],[.leaf 4],fun p=>Z4d p.1 p.2⟩)
theorem rby_i (x:Rat) (y:Rat):Zl ⟨Tryz.prog,[(91,1),(93,4)],[ZPk],[],[],[],[],[]⟩ [] Tryz.f192 .no [.leaf 4,.leaf 4] [.leaf 4] (x,y)=rby_m x y:=by kernel_rfl
theorem rby_k:Zk Tryz.prog Zin.1 Zin.2:=Zm (C:=⟨Tryz.prog,[(91,1),(93,4)],[ZPk],[],[],[],[],[]⟩) ⟨rdiv_k,trivial⟩ trivial trivial trivial (inl:=[]) trivial (ann:=.no) Tryz.func192 (fun _ _=>by kernel_rfl) rfl fun v vals x z ha hz=>(rby_i x.1 x.2).trans (rbyF_eq hz)
end Go.Eng
set_option maxRecDepth 100000
set_option maxHeartbeats 4000000
namespace Go.Eng
open Go.Proofs Go.RowKit
noncomputable def Zcl:FuncId×Con:=(177,⟨[.pair (.leaf 4) (.pair (.leaf 4) (.pair (.leaf 4) (.leaf 4))),.pair (.leaf 4) (.pair (.leaf 4) (.pair (.leaf 4) (.leaf 4)))],[.pair (.leaf 4) (.pair (.leaf 4) (.pair (.leaf 4) (.leaf 4))),.int .i64],fun p=>ZRh p.1 p.2⟩)
theorem sDiv_i (x:Rat×Rat×Rat×Rat) (y:Rat×Rat×Rat×Rat):Zl ⟨Tryz.prog,[(39,0),(41,2),(43,3),(91,1),(93,4)],[ZLd,Zcb,Zuh,Zuf,ZDl,Zin],[],[],[],[],[]⟩ [] Tryz.f177 .no [.pair (.leaf 4) (.pair (.leaf 4) (.pair (.leaf 4) (.leaf 4))),.pair (.leaf 4) (.pair (.leaf 4) (.pair (.leaf 4) (.leaf 4)))] [.pair (.leaf 4) (.pair (.leaf 4) (.pair (.leaf 4) (.leaf 4))),.int .i64] (x,y)=ZRh x y:=by kernel_rfl
theorem sDiv_k:Zk Tryz.prog Zcl.1 Zcl.2:=Zm (C:=⟨Tryz.prog,[(39,0),(41,2),(43,3),(91,1),(93,4)],[ZLd,Zcb,Zuh,Zuf,ZDl,Zin],[],[],[],[],[]⟩) ⟨ZGm,Z6e,ZXr,ZOn,ZZv,rby_k,trivial⟩ trivial trivial trivial (inl:=[]) trivial (ann:=.no) Tryz.func177 (fun _ _=>by kernel_rfl) rfl (fun v vals x z ha hz=>(sDiv_i x.1 x.2).trans hz)
end Go.Eng
set_option maxRecDepth 100000
set_option maxHeartbeats 4000000
namespace Go.Eng
open Go.Proofs Go.RowKit
noncomputable def ZVm:FuncId×Con:=(178,⟨[.pair (.pair (.leaf 4) (.pair (.leaf 4) (.pair (.leaf 4) (.leaf 4)))) (.pair (.leaf 4) (.pair (.leaf 4) (.pair (.leaf 4) (.leaf 4))))],[.pair (.leaf 4) (.pair (.leaf 4) (.pair (.leaf 4) (.leaf 4)))],fun p=>Zvh p⟩)
theorem wNorm_i (x:(Rat×Rat×Rat×Rat)×Rat×Rat×Rat×Rat):Zl ⟨Tryz.prog,[(39,0),(41,2),(43,3),(91,1),(93,4)],[Zuf,ZWd],[],[],[],[],[]⟩ [] Tryz.f178 .no [.pair (.pair (.leaf 4) (.pair (.leaf 4) (.pair (.leaf 4) (.leaf 4)))) (.pair (.leaf 4) (.pair (.leaf 4) (.pair (.leaf 4) (.leaf 4))))] [.pair (.leaf 4) (.pair (.leaf 4) (.pair (.leaf 4) (.leaf 4)))] (x)=Zvh x:=by kernel_rfl
theorem wNorm_k:Zk Tryz.prog ZVm.1 ZVm.2:=Zm (C:=⟨Tryz.prog,[(39,0),(41,2),(43,3),(91,1),(93,4)],[Zuf,ZWd],[],[],[],[],[]⟩) ⟨ZOn,Z1m,trivial⟩ trivial trivial trivial (inl:=[]) trivial (ann:=.no) Tryz.func178 (fun _ _=>by kernel_rfl) rfl (fun v vals x z ha hz=>(wNorm_i x).trans hz)
end Go.Eng
set_option maxRecDepth 100000
set_option maxHeartbeats 4000000
namespace Go.Eng
open Go.Proofs Go.RowKit
noncomputable def ZVk:FuncId×Con:=(147,⟨[.pair (.pair (.leaf 4) (.pair (.leaf 4) (.pair (.leaf 4) (.leaf 4)))) (.pair (.leaf 4) (.pair (.leaf 4) (.pair (.leaf 4) (.leaf 4)))),.pair (.pair (.leaf 4) (.pair (.leaf 4) (.pair (.leaf 4) (.leaf 4)))) (.pair (.leaf 4) (.pair (.leaf 4) (.pair (.leaf 4) (.leaf 4))))],[.pair (.pair (.leaf 4) (.pair (.leaf 4) (.pair (.leaf 4) (.leaf 4)))) (.pair (.leaf 4) (.pair (.leaf 4) (.pair (.leaf 4) (.leaf 4)))),.int .i64],fun p=>Z3k p.1 p.2⟩)
theorem wDiv_i (x:(Rat×Rat×Rat×Rat)×Rat×Rat×Rat×Rat) (y:(Rat×Rat×Rat×Rat)×Rat×Rat×Rat×Rat):Zl ⟨Tryz.prog,[(39,0),(41,2),(43,3),(91,1),(93,4)],[Z1d,ZVd,Zcb,Zke,ZVh,Zcl,ZVm],[],[],[],[],[]⟩ [] Tryz.f147 .no [.pair (.pair (.leaf 4) (.pair (.leaf 4) (.pair (.leaf 4) (.leaf 4)))) (.pair (.leaf 4) (.pair (.leaf 4) (.pair (.leaf 4) (.leaf 4)))),.pair (.pair (.leaf 4) (.pair (.leaf 4) (.pair (.leaf 4) (.leaf 4)))) (.pair (.leaf 4) (.pair (.leaf 4) (.pair (.leaf 4) (.leaf 4))))] [.pair (.pair (.leaf 4) (.pair (.leaf 4) (.pair (.leaf 4) (.leaf 4)))) (.pair (.leaf 4) (.pair (.leaf 4) (.pair (.leaf 4) (.leaf 4)))),.int .i64] (x,y)=Z3k x y:=by kernel_rfl
theorem wDiv_k:Zk Tryz.prog ZVk.1 ZVk.2:=Zm (C:=⟨Tryz.prog,[(39,0),(41,2),(43,3),(91,1),(93,4)],[Z1d,ZVd,Zcb,Zke,ZVh,Zcl,ZVm],[],[],[],[],[]⟩) ⟨Z4l,Ztm,Z6e,Zfk,Zsq,sDiv_k,wNorm_k,trivial⟩ trivial trivial trivial (inl:=[]) trivial (ann:=.no) Tryz.func147 (fun _ _=>by kernel_rfl) rfl (fun v vals x z ha hz=>(wDiv_i x.1 x.2).trans hz)
end Go.Eng
set_option maxRecDepth 100000
set_option maxHeartbeats 4000000
namespace Go.Eng
open Go.Proofs Go.RowKit
noncomputable def ZCk:FuncId×Con:=(110,⟨[.pair (.pair (.leaf 4) (.pair (.leaf 4) (.pair (.leaf 4) (.leaf 4)))) (.pair (.leaf 4) (.pair (.leaf 4) (.pair (.leaf 4) (.leaf 4)))),.pair (.pair (.leaf 4) (.pair (.leaf 4) (.pair (.leaf 4) (.leaf 4)))) (.pair (.leaf 4) (.pair (.leaf 4) (.pair (.leaf 4) (.leaf 4))))],[.pair (.pair (.leaf 4) (.pair (.leaf 4) (.pair (.leaf 4) (.leaf 4)))) (.pair (.leaf 4) (.pair (.leaf 4) (.pair (.leaf 4) (.leaf 4))))],fun p=>Z6i p.1 p.2⟩)
theorem rOver_i (x:(Rat×Rat×Rat×Rat)×Rat×Rat×Rat×Rat) (y:(Rat×Rat×Rat×Rat)×Rat×Rat×Rat×Rat):Zl ⟨Tryz.prog,[(39,0),(41,2),(43,3),(91,1),(93,4)],[ZVk],[],[],[],[],[]⟩ [] Tryz.f110 .no [.pair (.pair (.leaf 4) (.pair (.leaf 4) (.pair (.leaf 4) (.leaf 4)))) (.pair (.leaf 4) (.pair (.leaf 4) (.pair (.leaf 4) (.leaf 4)))),.pair (.pair (.leaf 4) (.pair (.leaf 4) (.pair (.leaf 4) (.leaf 4)))) (.pair (.leaf 4) (.pair (.leaf 4) (.pair (.leaf 4) (.leaf 4))))] [.pair (.pair (.leaf 4) (.pair (.leaf 4) (.pair (.leaf 4) (.leaf 4)))) (.pair (.leaf 4) (.pair (.leaf 4) (.pair (.leaf 4) (.leaf 4))))] (x,y)=Z6i x y:=by kernel_rfl
theorem rOver_k:Zk Tryz.prog ZCk.1 ZCk.2:=Zm (C:=⟨Tryz.prog,[(39,0),(41,2),(43,3),(91,1),(93,4)],[ZVk],[],[],[],[],[]⟩) ⟨wDiv_k,trivial⟩ trivial trivial trivial (inl:=[]) trivial (ann:=.no) Tryz.func110 (fun _ _=>by kernel_rfl) rfl (fun v vals x z ha hz=>(rOver_i x.1 x.2).trans hz)
end Go.Eng
set_option maxRecDepth 100000
set_option maxHeartbeats 4000000
namespace Go.Eng
open Go.Proofs Go.RowKit
noncomputable def Z0g:FuncId×Con:=(64,⟨[.slice (.slice (.pair (.pair (.leaf 4) (.pair (.leaf 4) (.pair (.leaf 4) (.leaf 4)))) (.pair (.leaf 4) (.pair (.leaf 4) (.pair (.leaf 4) (.leaf 4)))))),.int .i64],[.slice (.slice (.pair (.pair (.leaf 4) (.pair (.leaf 4) (.pair (.leaf 4) (.leaf 4)))) (.pair (.leaf 4) (.pair (.leaf 4) (.pair (.leaf 4) (.leaf 4)))))),.slice (.int .i64)],fun p=>Z0h p.1 p.2⟩)
theorem rForm_i (m:List (List ((Rat×Rat×Rat×Rat)×Rat×Rat×Rat×Rat))) (columns:Int):Zl ⟨Tryz.prog,[(39,0),(41,2),(43,3),(91,1),(93,4)],[ZVd,ZCk,Zeh,Zke],[30,31],[],[],[],[]⟩ [] Tryz.f64 (.two .no (.two .no (.two (.two .no (.two (.cut ⟨⟨[0,1],[],[.s 6 (.mat 31 97 (.pair (.pair (.leaf 4) (.pair (.leaf 4) (.pair (.leaf 4) (.leaf 4)))) (.pair (.leaf 4) (.pair (.leaf 4) (.pair (.leaf 4) (.leaf 4)))))),.s 7 (.dat (.int .i64))]⟩,[(.exit 0,⟨[1],[],[.s 6 (.mat 31 97 (.pair (.pair (.leaf 4) (.pair (.leaf 4) (.pair (.leaf 4) (.leaf 4)))) (.pair (.leaf 4) (.pair (.leaf 4) (.pair (.leaf 4) (.leaf 4))))))]⟩)]⟩ .no) .no)) (.two .no (.two (.two .no (.two (.cut ⟨⟨[1,6],[],[.s 8 (.own 3 (.int .i64)),.s 9 (.dat (.int .i64)),.l (.sl 6) (.mat 31 97 (.pair (.pair (.leaf 4) (.pair (.leaf 4) (.pair (.leaf 4) (.leaf 4)))) (.pair (.leaf 4) (.pair (.leaf 4) (.pair (.leaf 4) (.leaf 4))))))]⟩,[(.exit 2,⟨[6],[],[.s 8 (.own 3 (.int .i64)),.l (.sl 6) (.mat 31 97 (.pair (.pair (.leaf 4) (.pair (.leaf 4) (.pair (.leaf 4) (.leaf 4)))) (.pair (.leaf 4) (.pair (.leaf 4) (.pair (.leaf 4) (.leaf 4))))))]⟩)]⟩ (.two (.two .no (.two (.cut ⟨⟨[],[],[]⟩,[(.norm,⟨[1,6,9],[],[.s 8 (.own 3 (.int .i64)),.l (.sl 6) (.mat 31 97 (.pair (.pair (.leaf 4) (.pair (.leaf 4) (.pair (.leaf 4) (.leaf 4)))) (.pair (.leaf 4) (.pair (.leaf 4) (.pair (.leaf 4) (.leaf 4))))))]⟩)]⟩ (.two (.two .no (.two .no (.two (.two (.cut ⟨⟨[1,6,8,9,10],[],[.s 11 (.dat (.int .i64))]⟩,[(.exit 4,⟨[1,6,8,9,10],[],[.s 11 (.dat (.int .i64))]⟩)]⟩ (.two (.two (.two (.cut ⟨⟨[],[],[]⟩,[(.norm,⟨[1,6,8,9,10,11],[],[.s 53 (.dat .bool)]⟩)]⟩ .no) .no) .no) .no)) .no) (.two .no (.two .no (.two .no (.two (.two .no (.two (.cut ⟨⟨[1,6,8,9,10,12],[],[.s 13 (.dat (.int .i64)),.l (.sl 6) (.mat 31 97 (.pair (.pair (.leaf 4) (.pair (.leaf 4) (.pair (.leaf 4) (.leaf 4)))) (.pair (.leaf 4) (.pair (.leaf 4) (.pair (.leaf 4) (.leaf 4))))))]⟩,[(.exit 6,⟨[1,6,8,9,10],[],[.l (.sl 6) (.mat 31 97 (.pair (.pair (.leaf 4) (.pair (.leaf 4) (.pair (.leaf 4) (.leaf 4)))) (.pair (.leaf 4) (.pair (.leaf 4) (.pair (.leaf 4) (.leaf 4))))))]⟩)]⟩ .no) .no)) (.two (.two .no (.two (.cut ⟨⟨[1,6,8,9,10],[],[.s 14 (.dat (.int .i64)),.l (.sl 6) (.mat 31 97 (.pair (.pair (.leaf 4) (.pair (.leaf 4) (.pair (.leaf 4) (.leaf 4)))) (.pair (.leaf 4) (.pair (.leaf 4) (.pair (.leaf 4) (.leaf 4))))))]⟩,[(.exit 8,⟨[1,6,8,9],[],[.l (.sl 6) (.mat 31 97 (.pair (.pair (.leaf 4) (.pair (.leaf 4) (.pair (.leaf 4) (.leaf 4)))) (.pair (.leaf 4) (.pair (.leaf 4) (.pair (.leaf 4) (.leaf 4))))))]⟩)]⟩ (.two (.two .no (.two (.cut ⟨⟨[],[],[]⟩,[(.norm,⟨[1,6,8,9,10,14],[],[.l (.sl 6) (.mat 31 97 (.pair (.pair (.leaf 4) (.pair (.leaf 4) (.pair (.leaf 4) (.leaf 4)))) (.pair (.leaf 4) (.pair (.leaf 4) (.pair (.leaf 4) (.leaf 4))))))]⟩)]⟩ (.two (.two .no (.two .no (.two .no (.two (.cut ⟨⟨[1,6,8,9,10,14,15],[],[.s 16 (.dat (.int .i64)),.l (.sl 6) (.mat 31 97 (.pair (.pair (.leaf 4) (.pair (.leaf 4) (.pair (.leaf 4) (.leaf 4)))) (.pair (.leaf 4) (.pair (.leaf 4) (.pair (.leaf 4) (.leaf 4))))))]⟩,[(.exit 10,⟨[1,6,8,9,10,14],[],[.l (.sl 6) (.mat 31 97 (.pair (.pair (.leaf 4) (.pair (.leaf 4) (.pair (.leaf 4) (.leaf 4)))) (.pair (.leaf 4) (.pair (.leaf 4) (.pair (.leaf 4) (.leaf 4))))))]⟩)]⟩ .no) .no)))) .no)) .no)) .no)) .no)) .no)))))))) .no)) .no)) .no)) .no)) .no))))) [.slice (.slice (.pair (.pair (.leaf 4) (.pair (.leaf 4) (.pair (.leaf 4) (.leaf 4)))) (.pair (.leaf 4) (.pair (.leaf 4) (.pair (.leaf 4) (.leaf 4)))))),.int .i64] [.slice (.slice (.pair (.pair (.leaf 4) (.pair (.leaf 4) (.pair (.leaf 4) (.leaf 4)))) (.pair (.leaf 4) (.pair (.leaf 4) (.pair (.leaf 4) (.leaf 4)))))),.slice (.int .i64)] (m,columns)=Z0h m columns:=by kernel_rfl
theorem Zeq:Zk Tryz.prog Z0g.1 Z0g.2:=Zm (C:=⟨Tryz.prog,[(39,0),(41,2),(43,3),(91,1),(93,4)],[ZVd,ZCk,Zeh,Zke],[30,31],[],[],[],[]⟩) ⟨Ztm,rOver_k,Zyr,Zfk,trivial⟩ trivial trivial trivial (inl:=[]) trivial (ann:=(.two .no (.two .no (.two (.two .no (.two (.cut ⟨⟨[0,1],[],[.s 6 (.mat 31 97 (.pair (.pair (.leaf 4) (.pair (.leaf 4) (.pair (.leaf 4) (.leaf 4)))) (.pair (.leaf 4) (.pair (.leaf 4) (.pair (.leaf 4) (.leaf 4)))))),.s 7 (.dat (.int .i64))]⟩,[(.exit 0,⟨[1],[],[.s 6 (.mat 31 97 (.pair (.pair (.leaf 4) (.pair (.leaf 4) (.pair (.leaf 4) (.leaf 4)))) (.pair (.leaf 4) (.pair (.leaf 4) (.pair (.leaf 4) (.leaf 4))))))]⟩)]⟩ .no) .no)) (.two .no (.two (.two .no (.two (.cut ⟨⟨[1,6],[],[.s 8 (.own 3 (.int .i64)),.s 9 (.dat (.int .i64)),.l (.sl 6) (.mat 31 97 (.pair (.pair (.leaf 4) (.pair (.leaf 4) (.pair (.leaf 4) (.leaf 4)))) (.pair (.leaf 4) (.pair (.leaf 4) (.pair (.leaf 4) (.leaf 4))))))]⟩,[(.exit 2,⟨[6],[],[.s 8 (.own 3 (.int .i64)),.l (.sl 6) (.mat 31 97 (.pair (.pair (.leaf 4) (.pair (.leaf 4) (.pair (.leaf 4) (.leaf 4)))) (.pair (.leaf 4) (.pair (.leaf 4) (.pair (.leaf 4) (.leaf 4))))))]⟩)]⟩ (.two (.two .no (.two (.cut ⟨⟨[],[],[]⟩,[(.norm,⟨[1,6,9],[],[.s 8 (.own 3 (.int .i64)),.l (.sl 6) (.mat 31 97 (.pair (.pair (.leaf 4) (.pair (.leaf 4) (.pair (.leaf 4) (.leaf 4)))) (.pair (.leaf 4) (.pair (.leaf 4) (.pair (.leaf 4) (.leaf 4))))))]⟩)]⟩ (.two (.two .no (.two .no (.two (.two (.cut ⟨⟨[1,6,8,9,10],[],[.s 11 (.dat (.int .i64))]⟩,[(.exit 4,⟨[1,6,8,9,10],[],[.s 11 (.dat (.int .i64))]⟩)]⟩ (.two (.two (.two (.cut ⟨⟨[],[],[]⟩,[(.norm,⟨[1,6,8,9,10,11],[],[.s 53 (.dat .bool)]⟩)]⟩ .no) .no) .no) .no)) .no) (.two .no (.two .no (.two .no (.two (.two .no (.two (.cut ⟨⟨[1,6,8,9,10,12],[],[.s 13 (.dat (.int .i64)),.l (.sl 6) (.mat 31 97 (.pair (.pair (.leaf 4) (.pair (.leaf 4) (.pair (.leaf 4) (.leaf 4)))) (.pair (.leaf 4) (.pair (.leaf 4) (.pair (.leaf 4) (.leaf 4))))))]⟩,[(.exit 6,⟨[1,6,8,9,10],[],[.l (.sl 6) (.mat 31 97 (.pair (.pair (.leaf 4) (.pair (.leaf 4) (.pair (.leaf 4) (.leaf 4)))) (.pair (.leaf 4) (.pair (.leaf 4) (.pair (.leaf 4) (.leaf 4))))))]⟩)]⟩ .no) .no)) (.two (.two .no (.two (.cut ⟨⟨[1,6,8,9,10],[],[.s 14 (.dat (.int .i64)),.l (.sl 6) (.mat 31 97 (.pair (.pair (.leaf 4) (.pair (.leaf 4) (.pair (.leaf 4) (.leaf 4)))) (.pair (.leaf 4) (.pair (.leaf 4) (.pair (.leaf 4) (.leaf 4))))))]⟩,[(.exit 8,⟨[1,6,8,9],[],[.l (.sl 6) (.mat 31 97 (.pair (.pair (.leaf 4) (.pair (.leaf 4) (.pair (.leaf 4) (.leaf 4)))) (.pair (.leaf 4) (.pair (.leaf 4) (.pair (.leaf 4) (.leaf 4))))))]⟩)]⟩ (.two (.two .no (.two (.cut ⟨⟨[],[],[]⟩,[(.norm,⟨[1,6,8,9,10,14],[],[.l (.sl 6) (.mat 31 97 (.pair (.pair (.leaf 4) (.pair (.leaf 4) (.pair (.leaf 4) (.leaf 4)))) (.pair (.leaf 4) (.pair (.leaf 4) (.pair (.leaf 4) (.leaf 4))))))]⟩)]⟩ (.two (.two .no (.two .no (.two .no (.two (.cut ⟨⟨[1,6,8,9,10,14,15],[],[.s 16 (.dat (.int .i64)),.l (.sl 6) (.mat 31 97 (.pair (.pair (.leaf 4) (.pair (.leaf 4) (.pair (.leaf 4) (.leaf 4)))) (.pair (.leaf 4) (.pair (.leaf 4) (.pair (.leaf 4) (.leaf 4))))))]⟩,[(.exit 10,⟨[1,6,8,9,10,14],[],[.l (.sl 6) (.mat 31 97 (.pair (.pair (.leaf 4) (.pair (.leaf 4) (.pair (.leaf 4) (.leaf 4)))) (.pair (.leaf 4) (.pair (.leaf 4) (.pair (.leaf 4) (.leaf 4))))))]⟩)]⟩ .no) .no)))) .no)) .no)) .no)) .no)) .no)))))))) .no)) .no)) .no)) .no)) .no)))))) Tryz.func64 (fun _ _=>by kernel_rfl) rfl (fun v vals x z ha hz=>(rForm_i x.1 x.2).trans hz)
end Go.Eng
set_option maxRecDepth 100000
set_option maxHeartbeats 4000000
namespace Go.Eng
open Go.Proofs Go.RowKit
noncomputable def Zsf:FuncId×Con:=(65,⟨[.slice (.slice (.pair (.pair (.leaf 4) (.pair (.leaf 4) (.pair (.leaf 4) (.leaf 4)))) (.pair (.leaf 4) (.pair (.leaf 4) (.pair (.leaf 4) (.leaf 4))))))],[.int .i64],fun p=>ZYe p⟩)
theorem ZAv (m:List (List ((Rat×Rat×Rat×Rat)×Rat×Rat×Rat×Rat))):Zl ⟨Tryz.prog,[(39,0),(41,2),(43,3),(91,1),(93,4)],[],[],[],[],[],[]⟩ [] Tryz.f65 .no [.slice (.slice (.pair (.pair (.leaf 4) (.pair (.leaf 4) (.pair (.leaf 4) (.leaf 4)))) (.pair (.leaf 4) (.pair (.leaf 4) (.pair (.leaf 4) (.leaf 4))))))] [.int .i64] (m)=ZYe m:=by kernel_rfl
theorem ZNp:Zk Tryz.prog Zsf.1 Zsf.2:=Zm (C:=⟨Tryz.prog,[(39,0),(41,2),(43,3),(91,1),(93,4)],[],[],[],[],[],[]⟩) trivial trivial trivial trivial (inl:=[]) trivial (ann:=.no) Tryz.func65 (fun _ _=>by kernel_rfl) rfl (fun v vals x z ha hz=>(ZAv x).trans hz)
end Go.Eng
set_option maxRecDepth 100000
set_option maxHeartbeats 4000000
namespace Go.Eng
open Go.Proofs Go.RowKit
noncomputable def Zce:FuncId×Con:=(77,⟨[],[.pair (.pair (.leaf 4) (.pair (.leaf 4) (.pair (.leaf 4) (.leaf 4)))) (.pair (.leaf 4) (.pair (.leaf 4) (.pair (.leaf 4) (.leaf 4))))],fun _=>ZZe⟩)
theorem Zuw  : Zl ⟨Tryz.prog,[(39,0),(41,2),(43,3),(91,1),(93,4)],[Z1d,Zcb],[],[],[],[],[]⟩ [] Tryz.f77 .no [] [.pair (.pair (.leaf 4) (.pair (.leaf 4) (.pair (.leaf 4) (.leaf 4)))) (.pair (.leaf 4) (.pair (.leaf 4) (.pair (.leaf 4) (.leaf 4))))] ()=ZZe  := by kernel_rfl
theorem Z0j:Zk Tryz.prog Zce.1 Zce.2:=Zm (C:=⟨Tryz.prog,[(39,0),(41,2),(43,3),(91,1),(93,4)],[Z1d,Zcb],[],[],[],[],[]⟩) ⟨Z4l,Z6e,trivial⟩ trivial trivial trivial (inl:=[]) trivial (ann:=.no) Tryz.func77 (fun _ _=>by kernel_rfl) rfl (fun v vals x z ha hz=>(Zuw ).trans hz)
end Go.Eng
set_option maxRecDepth 100000
set_option maxHeartbeats 4000000
namespace Go.Eng
open Go.Proofs Go.RowKit
noncomputable def ZUl:FuncId×Con:=(35,⟨[.slice (.slice (.pair (.pair (.leaf 4) (.pair (.leaf 4) (.pair (.leaf 4) (.leaf 4)))) (.pair (.leaf 4) (.pair (.leaf 4) (.pair (.leaf 4) (.leaf 4)))))),.slice (.pair (.pair (.leaf 4) (.pair (.leaf 4) (.pair (.leaf 4) (.leaf 4)))) (.pair (.leaf 4) (.pair (.leaf 4) (.pair (.leaf 4) (.leaf 4)))))],[.slice (.pair (.pair (.leaf 4) (.pair (.leaf 4) (.pair (.leaf 4) (.leaf 4)))) (.pair (.leaf 4) (.pair (.leaf 4) (.pair (.leaf 4) (.leaf 4))))),.int .i64],fun p=>Zne p.1 p.2⟩)
theorem rAny_i (m:List (List ((Rat×Rat×Rat×Rat)×Rat×Rat×Rat×Rat))) (b:List ((Rat×Rat×Rat×Rat)×Rat×Rat×Rat×Rat)):Zl ⟨Tryz.prog,[(39,0),(41,2),(43,3),(91,1),(93,4)],[Z1f,Z0g,Zsf,ZVd,Zce],[46,47],[],[],[],[]⟩ [] Tryz.f35 (.two .no (.two (.two (.cut ⟨⟨[],[],[]⟩,[(.norm,⟨[0,1],[],[.s 24 (.dat .bool)]⟩)]⟩ .no) .no) (.two .no (.two .no (.two (.two .no (.two (.cut ⟨⟨[0,1,6],[],[.s 7 (.mat 31 97 (.pair (.pair (.leaf 4) (.pair (.leaf 4) (.pair (.leaf 4) (.leaf 4)))) (.pair (.leaf 4) (.pair (.leaf 4) (.pair (.leaf 4) (.leaf 4)))))),.s 8 (.dat (.int .i64))]⟩,[(.exit 0,⟨[6],[],[.s 7 (.mat 31 97 (.pair (.pair (.leaf 4) (.pair (.leaf 4) (.pair (.leaf 4) (.leaf 4)))) (.pair (.leaf 4) (.pair (.leaf 4) (.pair (.leaf 4) (.leaf 4))))))]⟩)]⟩ .no) .no)) (.two .no (.two (.two .no (.two (.cut ⟨⟨[6,9,10],[],[.s 11 (.dat (.int .i64))]⟩,[(.exit 2,⟨[6,9,10],[],[]⟩),(.ret,⟨[],[],[.s 1000 (.dat (.slice (.pair (.pair (.leaf 4) (.pair (.leaf 4) (.pair (.leaf 4) (.leaf 4)))) (.pair (.leaf 4) (.pair (.leaf 4) (.pair (.leaf 4) (.leaf 4))))))),.s 1001 (.dat (.int .i64))]⟩)]⟩ .no) .no)) (.two .no (.two (.two .no (.two (.cut ⟨⟨[6,9,10],[],[.s 12 (.own 97 (.pair (.pair (.leaf 4) (.pair (.leaf 4) (.pair (.leaf 4) (.leaf 4)))) (.pair (.leaf 4) (.pair (.leaf 4) (.pair (.leaf 4) (.leaf 4)))))),.s 13 (.dat (.int .i64))]⟩,[(.exit 4,⟨[6,9,10],[],[.s 12 (.own 97 (.pair (.pair (.leaf 4) (.pair (.leaf 4) (.pair (.leaf 4) (.leaf 4)))) (.pair (.leaf 4) (.pair (.leaf 4) (.pair (.leaf 4) (.leaf 4))))))]⟩)]⟩ .no) .no)) (.two (.two .no (.two (.cut ⟨⟨[6,9,10,12],[],[.s 14 (.dat (.int .i64)),.l (.sl 12) (.own 97 (.pair (.pair (.leaf 4) (.pair (.leaf 4) (.pair (.leaf 4) (.leaf 4)))) (.pair (.leaf 4) (.pair (.leaf 4) (.pair (.leaf 4) (.leaf 4))))))]⟩,[(.exit 6,⟨[12],[],[.l (.sl 12) (.own 97 (.pair (.pair (.leaf 4) (.pair (.leaf 4) (.pair (.leaf 4) (.leaf 4)))) (.pair (.leaf 4) (.pair (.leaf 4) (.pair (.leaf 4) (.leaf 4))))))]⟩)]⟩ .no) .no)) .no)))))))))) [.slice (.slice (.pair (.pair (.leaf 4) (.pair (.leaf 4) (.pair (.leaf 4) (.leaf 4)))) (.pair (.leaf 4) (.pair (.leaf 4) (.pair (.leaf 4) (.leaf 4)))))),.slice (.pair (.pair (.leaf 4) (.pair (.leaf 4) (.pair (.leaf 4) (.leaf 4)))) (.pair (.leaf 4) (.pair (.leaf 4) (.pair (.leaf 4) (.leaf 4)))))] [.slice (.pair (.pair (.leaf 4) (.pair (.leaf 4) (.pair (.leaf 4) (.leaf 4)))) (.pair (.leaf 4) (.pair (.leaf 4) (.pair (.leaf 4) (.leaf 4))))),.int .i64] (m,b)=Zne m b:=by kernel_rfl
theorem rAny_k:Zk Tryz.prog ZUl.1 ZUl.2:=Zm (C:=⟨Tryz.prog,[(39,0),(41,2),(43,3),(91,1),(93,4)],[Z1f,Z0g,Zsf,ZVd,Zce],[46,47],[],[],[],[]⟩) ⟨Zvn,Zeq,ZNp,Ztm,Z0j,trivial⟩ trivial trivial trivial (inl:=[]) trivial (ann:=(.two .no (.two (.two (.cut ⟨⟨[],[],[]⟩,[(.norm,⟨[0,1],[],[.s 24 (.dat .bool)]⟩)]⟩ .no) .no) (.two .no (.two .no (.two (.two .no (.two (.cut ⟨⟨[0,1,6],[],[.s 7 (.mat 31 97 (.pair (.pair (.leaf 4) (.pair (.leaf 4) (.pair (.leaf 4) (.leaf 4)))) (.pair (.leaf 4) (.pair (.leaf 4) (.pair (.leaf 4) (.leaf 4)))))),.s 8 (.dat (.int .i64))]⟩,[(.exit 0,⟨[6],[],[.s 7 (.mat 31 97 (.pair (.pair (.leaf 4) (.pair (.leaf 4) (.pair (.leaf 4) (.leaf 4)))) (.pair (.leaf 4) (.pair (.leaf 4) (.pair (.leaf 4) (.leaf 4))))))]⟩)]⟩ .no) .no)) (.two .no (.two (.two .no (.two (.cut ⟨⟨[6,9,10],[],[.s 11 (.dat (.int .i64))]⟩,[(.exit 2,⟨[6,9,10],[],[]⟩),(.ret,⟨[],[],[.s 1000 (.dat (.slice (.pair (.pair (.leaf 4) (.pair (.leaf 4) (.pair (.leaf 4) (.leaf 4)))) (.pair (.leaf 4) (.pair (.leaf 4) (.pair (.leaf 4) (.leaf 4))))))),.s 1001 (.dat (.int .i64))]⟩)]⟩ .no) .no)) (.two .no (.two (.two .no (.two (.cut ⟨⟨[6,9,10],[],[.s 12 (.own 97 (.pair (.pair (.leaf 4) (.pair (.leaf 4) (.pair (.leaf 4) (.leaf 4)))) (.pair (.leaf 4) (.pair (.leaf 4) (.pair (.leaf 4) (.leaf 4)))))),.s 13 (.dat (.int .i64))]⟩,[(.exit 4,⟨[6,9,10],[],[.s 12 (.own 97 (.pair (.pair (.leaf 4) (.pair (.leaf 4) (.pair (.leaf 4) (.leaf 4)))) (.pair (.leaf 4) (.pair (.leaf 4) (.pair (.leaf 4) (.leaf 4))))))]⟩)]⟩ .no) .no)) (.two (.two .no (.two (.cut ⟨⟨[6,9,10,12],[],[.s 14 (.dat (.int .i64)),.l (.sl 12) (.own 97 (.pair (.pair (.leaf 4) (.pair (.leaf 4) (.pair (.leaf 4) (.leaf 4)))) (.pair (.leaf 4) (.pair (.leaf 4) (.pair (.leaf 4) (.leaf 4))))))]⟩,[(.exit 6,⟨[12],[],[.l (.sl 12) (.own 97 (.pair (.pair (.leaf 4) (.pair (.leaf 4) (.pair (.leaf 4) (.leaf 4)))) (.pair (.leaf 4) (.pair (.leaf 4) (.pair (.leaf 4) (.leaf 4))))))]⟩)]⟩ .no) .no)) .no))))))))))) Tryz.func35 (fun _ _=>by kernel_rfl) rfl (fun v vals x z ha hz=>(rAny_i x.1 x.2).trans hz)
end Go.Eng
set_option maxRecDepth 100000
set_option maxHeartbeats 4000000
namespace Go.Eng
open Go.Proofs Go.RowKit
noncomputable def Z6j:FuncId×ConM:=(73,⟨[.int .i64,.int .i64],31,97,.pair (.pair (.leaf 4) (.pair (.leaf 4) (.pair (.leaf 4) (.leaf 4)))) (.pair (.leaf 4) (.pair (.leaf 4) (.pair (.leaf 4) (.leaf 4)))),fun p=>Zoj p.1 p.2⟩)
theorem ZVy (rows:Int) (columns:Int):ZHi ⟨Tryz.prog,[(39,0),(41,2),(43,3),(91,1),(93,4)],[Zce],[9],[],[],[],[]⟩ [] Tryz.f73 (.two .no (.two .no (.two (.two .no (.two (.cut ⟨⟨[0,1,5],[],[.s 6 (.dat (.int .i64)),.l (.sl 5) (.mat 31 97 (.pair (.pair (.leaf 4) (.pair (.leaf 4) (.pair (.leaf 4) (.leaf 4)))) (.pair (.leaf 4) (.pair (.leaf 4) (.pair (.leaf 4) (.leaf 4))))))]⟩,[(.exit 0,⟨[5],[],[.l (.sl 5) (.mat 31 97 (.pair (.pair (.leaf 4) (.pair (.leaf 4) (.pair (.leaf 4) (.leaf 4)))) (.pair (.leaf 4) (.pair (.leaf 4) (.pair (.leaf 4) (.leaf 4))))))]⟩)]⟩ (.two (.two .no (.two (.two (.two .no (.two (.cut ⟨⟨[0,1,5,6],[],[.s 7 (.dat (.int .i64)),.l (.sl 5) (.mat 31 97 (.pair (.pair (.leaf 4) (.pair (.leaf 4) (.pair (.leaf 4) (.leaf 4)))) (.pair (.leaf 4) (.pair (.leaf 4) (.pair (.leaf 4) (.leaf 4))))))]⟩,[(.exit 2,⟨[0,1,5,6],[],[.l (.sl 5) (.mat 31 97 (.pair (.pair (.leaf 4) (.pair (.leaf 4) (.pair (.leaf 4) (.leaf 4)))) (.pair (.leaf 4) (.pair (.leaf 4) (.pair (.leaf 4) (.leaf 4))))))]⟩)]⟩ .no) .no)) .no) .no)) .no)) .no)) .no))) [.int .i64,.int .i64] 31 97 (.pair (.pair (.leaf 4) (.pair (.leaf 4) (.pair (.leaf 4) (.leaf 4)))) (.pair (.leaf 4) (.pair (.leaf 4) (.pair (.leaf 4) (.leaf 4))))) (rows,columns)=Zoj rows columns:=by kernel_rfl
theorem ZMz:ZUg Tryz.prog Z6j.1 Z6j.2:=ZSt (C:=⟨Tryz.prog,[(39,0),(41,2),(43,3),(91,1),(93,4)],[Zce],[9],[],[],[],[]⟩) ⟨Z0j,trivial⟩ trivial trivial trivial (inl:=[]) trivial (ann:=(.two .no (.two .no (.two (.two .no (.two (.cut ⟨⟨[0,1,5],[],[.s 6 (.dat (.int .i64)),.l (.sl 5) (.mat 31 97 (.pair (.pair (.leaf 4) (.pair (.leaf 4) (.pair (.leaf 4) (.leaf 4)))) (.pair (.leaf 4) (.pair (.leaf 4) (.pair (.leaf 4) (.leaf 4))))))]⟩,[(.exit 0,⟨[5],[],[.l (.sl 5) (.mat 31 97 (.pair (.pair (.leaf 4) (.pair (.leaf 4) (.pair (.leaf 4) (.leaf 4)))) (.pair (.leaf 4) (.pair (.leaf 4) (.pair (.leaf 4) (.leaf 4))))))]⟩)]⟩ (.two (.two .no (.two (.two (.two .no (.two (.cut ⟨⟨[0,1,5,6],[],[.s 7 (.dat (.int .i64)),.l (.sl 5) (.mat 31 97 (.pair (.pair (.leaf 4) (.pair (.leaf 4) (.pair (.leaf 4) (.leaf 4)))) (.pair (.leaf 4) (.pair (.leaf 4) (.pair (.leaf 4) (.leaf 4))))))]⟩,[(.exit 2,⟨[0,1,5,6],[],[.l (.sl 5) (.mat 31 97 (.pair (.pair (.leaf 4) (.pair (.leaf 4) (.pair (.leaf 4) (.leaf 4)))) (.pair (.leaf 4) (.pair (.leaf 4) (.pair (.leaf 4) (.leaf 4))))))]⟩)]⟩ .no) .no)) .no) .no)) .no)) .no)) .no)))) Tryz.func73 (fun _ _=>by kernel_rfl) rfl (fun x z hz=>(ZVy x.1 x.2).trans hz)
end Go.Eng
set_option maxRecDepth 100000
set_option maxHeartbeats 4000000
namespace Go.Eng
open Go.Proofs Go.RowKit
noncomputable def Zjl:FuncId×Con:=(113,⟨[.slice (.slice (.pair (.pair (.leaf 4) (.pair (.leaf 4) (.pair (.leaf 4) (.leaf 4)))) (.pair (.leaf 4) (.pair (.leaf 4) (.pair (.leaf 4) (.leaf 4))))))],[.slice (.slice (.pair (.pair (.leaf 4) (.pair (.leaf 4) (.pair (.leaf 4) (.leaf 4)))) (.pair (.leaf 4) (.pair (.leaf 4) (.pair (.leaf 4) (.leaf 4)))))),.int .i64],fun p=>ZSj p⟩)
theorem ZBv (m:List (List ((Rat×Rat×Rat×Rat)×Rat×Rat×Rat×Rat))):Zl ⟨Tryz.prog,[(39,0),(41,2),(43,3),(91,1),(93,4)],[Z1f,Zsf,ZVh],[],[],[],[],[Z6j]⟩ [] Tryz.f113 (.two .no (.two .no (.two .no (.two (.two .no (.two (.cut ⟨⟨[0,4],[],[.s 5 (.dat (.int .i64)),.l (.sl 4) (.mat 31 97 (.pair (.pair (.leaf 4) (.pair (.leaf 4) (.pair (.leaf 4) (.leaf 4)))) (.pair (.leaf 4) (.pair (.leaf 4) (.pair (.leaf 4) (.leaf 4))))))]⟩,[(.exit 0,⟨[4],[],[.l (.sl 4) (.mat 31 97 (.pair (.pair (.leaf 4) (.pair (.leaf 4) (.pair (.leaf 4) (.leaf 4)))) (.pair (.leaf 4) (.pair (.leaf 4) (.pair (.leaf 4) (.leaf 4))))))]⟩)]⟩ (.two (.two .no (.two (.two (.two .no (.two (.cut ⟨⟨[0,4,5],[],[.s 6 (.dat (.int .i64)),.l (.sl 4) (.mat 31 97 (.pair (.pair (.leaf 4) (.pair (.leaf 4) (.pair (.leaf 4) (.leaf 4)))) (.pair (.leaf 4) (.pair (.leaf 4) (.pair (.leaf 4) (.leaf 4))))))]⟩,[(.exit 2,⟨[0,4,5],[],[.l (.sl 4) (.mat 31 97 (.pair (.pair (.leaf 4) (.pair (.leaf 4) (.pair (.leaf 4) (.leaf 4)))) (.pair (.leaf 4) (.pair (.leaf 4) (.pair (.leaf 4) (.leaf 4))))))]⟩)]⟩ .no) .no)) .no) .no)) .no)) .no)) .no)))) [.slice (.slice (.pair (.pair (.leaf 4) (.pair (.leaf 4) (.pair (.leaf 4) (.leaf 4)))) (.pair (.leaf 4) (.pair (.leaf 4) (.pair (.leaf 4) (.leaf 4))))))] [.slice (.slice (.pair (.pair (.leaf 4) (.pair (.leaf 4) (.pair (.leaf 4) (.leaf 4)))) (.pair (.leaf 4) (.pair (.leaf 4) (.pair (.leaf 4) (.leaf 4)))))),.int .i64] (m)=ZSj m:=by kernel_rfl
theorem Zjx:Zk Tryz.prog Zjl.1 Zjl.2:=Zm (C:=⟨Tryz.prog,[(39,0),(41,2),(43,3),(91,1),(93,4)],[Z1f,Zsf,ZVh],[],[],[],[],[Z6j]⟩) ⟨Zvn,ZNp,Zsq,trivial⟩ trivial trivial trivial (inl:=[]) trivial (ann:=(.two .no (.two .no (.two .no (.two (.two .no (.two (.cut ⟨⟨[0,4],[],[.s 5 (.dat (.int .i64)),.l (.sl 4) (.mat 31 97 (.pair (.pair (.leaf 4) (.pair (.leaf 4) (.pair (.leaf 4) (.leaf 4)))) (.pair (.leaf 4) (.pair (.leaf 4) (.pair (.leaf 4) (.leaf 4))))))]⟩,[(.exit 0,⟨[4],[],[.l (.sl 4) (.mat 31 97 (.pair (.pair (.leaf 4) (.pair (.leaf 4) (.pair (.leaf 4) (.leaf 4)))) (.pair (.leaf 4) (.pair (.leaf 4) (.pair (.leaf 4) (.leaf 4))))))]⟩)]⟩ (.two (.two .no (.two (.two (.two .no (.two (.cut ⟨⟨[0,4,5],[],[.s 6 (.dat (.int .i64)),.l (.sl 4) (.mat 31 97 (.pair (.pair (.leaf 4) (.pair (.leaf 4) (.pair (.leaf 4) (.leaf 4)))) (.pair (.leaf 4) (.pair (.leaf 4) (.pair (.leaf 4) (.leaf 4))))))]⟩,[(.exit 2,⟨[0,4,5],[],[.l (.sl 4) (.mat 31 97 (.pair (.pair (.leaf 4) (.pair (.leaf 4) (.pair (.leaf 4) (.leaf 4)))) (.pair (.leaf 4) (.pair (.leaf 4) (.pair (.leaf 4) (.leaf 4))))))]⟩)]⟩ .no) .no)) .no) .no)) .no)) .no)) .no))))) Tryz.func113 (fun _ _=>by kernel_rfl) rfl (fun v vals x z ha hz=>(ZBv x).trans hz) (hq:=⟨ZMz,trivial⟩)
end Go.Eng
set_option maxRecDepth 100000
set_option maxHeartbeats 4000000
namespace Go.Eng
open Go.Proofs Go.RowKit
noncomputable def ZMh:FuncId×Con:=(114,⟨[.pair (.pair (.leaf 4) (.pair (.leaf 4) (.pair (.leaf 4) (.leaf 4)))) (.pair (.leaf 4) (.pair (.leaf 4) (.pair (.leaf 4) (.leaf 4)))),.pair (.pair (.leaf 4) (.pair (.leaf 4) (.pair (.leaf 4) (.leaf 4)))) (.pair (.leaf 4) (.pair (.leaf 4) (.pair (.leaf 4) (.leaf 4))))],[.pair (.pair (.leaf 4) (.pair (.leaf 4) (.pair (.leaf 4) (.leaf 4)))) (.pair (.leaf 4) (.pair (.leaf 4) (.pair (.leaf 4) (.leaf 4))))],fun p=>ZMg p.1 p.2⟩)
theorem wAdd_i (x:(Rat×Rat×Rat×Rat)×Rat×Rat×Rat×Rat) (y:(Rat×Rat×Rat×Rat)×Rat×Rat×Rat×Rat):Zl ⟨Tryz.prog,[(39,0),(41,2),(43,3),(91,1),(93,4)],[ZWd],[],[],[],[],[]⟩ [] Tryz.f114 .no [.pair (.pair (.leaf 4) (.pair (.leaf 4) (.pair (.leaf 4) (.leaf 4)))) (.pair (.leaf 4) (.pair (.leaf 4) (.pair (.leaf 4) (.leaf 4)))),.pair (.pair (.leaf 4) (.pair (.leaf 4) (.pair (.leaf 4) (.leaf 4)))) (.pair (.leaf 4) (.pair (.leaf 4) (.pair (.leaf 4) (.leaf 4))))] [.pair (.pair (.leaf 4) (.pair (.leaf 4) (.pair (.leaf 4) (.leaf 4)))) (.pair (.leaf 4) (.pair (.leaf 4) (.pair (.leaf 4) (.leaf 4))))] (x,y)=ZMg x y:=by kernel_rfl
theorem Zjs:Zk Tryz.prog ZMh.1 ZMh.2:=Zm (C:=⟨Tryz.prog,[(39,0),(41,2),(43,3),(91,1),(93,4)],[ZWd],[],[],[],[],[]⟩) ⟨Z1m,trivial⟩ trivial trivial trivial (inl:=[]) trivial (ann:=.no) Tryz.func114 (fun _ _=>by kernel_rfl) rfl (fun v vals x z ha hz=>(wAdd_i x.1 x.2).trans hz)
end Go.Eng
set_option maxRecDepth 100000
set_option maxHeartbeats 4000000
namespace Go.Eng
open Go.Proofs Go.RowKit
noncomputable def ZDk:FuncId×Con:=(152,⟨[.slice (.pair (.pair (.leaf 4) (.pair (.leaf 4) (.pair (.leaf 4) (.leaf 4)))) (.pair (.leaf 4) (.pair (.leaf 4) (.pair (.leaf 4) (.leaf 4))))),.slice (.pair (.pair (.leaf 4) (.pair (.leaf 4) (.pair (.leaf 4) (.leaf 4)))) (.pair (.leaf 4) (.pair (.leaf 4) (.pair (.leaf 4) (.leaf 4)))))],[.pair (.pair (.leaf 4) (.pair (.leaf 4) (.pair (.leaf 4) (.leaf 4)))) (.pair (.leaf 4) (.pair (.leaf 4) (.pair (.leaf 4) (.leaf 4))))],fun p=>ZHj p.1 p.2⟩)
theorem rDot_i (a:List ((Rat×Rat×Rat×Rat)×Rat×Rat×Rat×Rat)) (b:List ((Rat×Rat×Rat×Rat)×Rat×Rat×Rat×Rat)):Zl ⟨Tryz.prog,[(39,0),(41,2),(43,3),(91,1),(93,4)],[Zce,Zke,ZMh],[],[],[],[],[]⟩ [] Tryz.f152 (.two .no (.two .no (.two (.two .no (.two (.cut ⟨⟨[0,1,4,5],[],[.s 6 (.dat (.int .i64)),.l (.sl 5) (.box 97 (.dat (.pair (.pair (.leaf 4) (.pair (.leaf 4) (.pair (.leaf 4) (.leaf 4)))) (.pair (.leaf 4) (.pair (.leaf 4) (.pair (.leaf 4) (.leaf 4)))))))]⟩,[(.exit 0,⟨[4,5],[],[.l (.sl 5) (.box 97 (.dat (.pair (.pair (.leaf 4) (.pair (.leaf 4) (.pair (.leaf 4) (.leaf 4)))) (.pair (.leaf 4) (.pair (.leaf 4) (.pair (.leaf 4) (.leaf 4)))))))]⟩)]⟩ .no) .no)) .no))) [.slice (.pair (.pair (.leaf 4) (.pair (.leaf 4) (.pair (.leaf 4) (.leaf 4)))) (.pair (.leaf 4) (.pair (.leaf 4) (.pair (.leaf 4) (.leaf 4))))),.slice (.pair (.pair (.leaf 4) (.pair (.leaf 4) (.pair (.leaf 4) (.leaf 4)))) (.pair (.leaf 4) (.pair (.leaf 4) (.pair (.leaf 4) (.leaf 4)))))] [.pair (.pair (.leaf 4) (.pair (.leaf 4) (.pair (.leaf 4) (.leaf 4)))) (.pair (.leaf 4) (.pair (.leaf 4) (.pair (.leaf 4) (.leaf 4))))] (a,b)=ZHj a b:=by kernel_rfl
theorem rDot_k:Zk Tryz.prog ZDk.1 ZDk.2:=Zm (C:=⟨Tryz.prog,[(39,0),(41,2),(43,3),(91,1),(93,4)],[Zce,Zke,ZMh],[],[],[],[],[]⟩) ⟨Z0j,Zfk,Zjs,trivial⟩ trivial trivial trivial (inl:=[]) trivial (ann:=(.two .no (.two .no (.two (.two .no (.two (.cut ⟨⟨[0,1,4,5],[],[.s 6 (.dat (.int .i64)),.l (.sl 5) (.box 97 (.dat (.pair (.pair (.leaf 4) (.pair (.leaf 4) (.pair (.leaf 4) (.leaf 4)))) (.pair (.leaf 4) (.pair (.leaf 4) (.pair (.leaf 4) (.leaf 4)))))))]⟩,[(.exit 0,⟨[4,5],[],[.l (.sl 5) (.box 97 (.dat (.pair (.pair (.leaf 4) (.pair (.leaf 4) (.pair (.leaf 4) (.leaf 4)))) (.pair (.leaf 4) (.pair (.leaf 4) (.pair (.leaf 4) (.leaf 4)))))))]⟩)]⟩ .no) .no)) .no)))) Tryz.func152 (fun _ _=>by kernel_rfl) rfl (fun v vals x z ha hz=>(rDot_i x.1 x.2).trans hz)
end Go.Eng
set_option maxRecDepth 100000
set_option maxHeartbeats 4000000
namespace Go.Eng
open Go.Proofs Go.RowKit
noncomputable def ZKl:FuncId×Con:=(115,⟨[.slice (.slice (.pair (.pair (.leaf 4) (.pair (.leaf 4) (.pair (.leaf 4) (.leaf 4)))) (.pair (.leaf 4) (.pair (.leaf 4) (.pair (.leaf 4) (.leaf 4)))))),.slice (.pair (.pair (.leaf 4) (.pair (.leaf 4) (.pair (.leaf 4) (.leaf 4)))) (.pair (.leaf 4) (.pair (.leaf 4) (.pair (.leaf 4) (.leaf 4)))))],[.slice (.pair (.pair (.leaf 4) (.pair (.leaf 4) (.pair (.leaf 4) (.leaf 4)))) (.pair (.leaf 4) (.pair (.leaf 4) (.pair (.leaf 4) (.leaf 4)))))],fun p=>ZFj p.1 p.2⟩)
theorem Zjw (m:List (List ((Rat×Rat×Rat×Rat)×Rat×Rat×Rat×Rat))) (x:List ((Rat×Rat×Rat×Rat)×Rat×Rat×Rat×Rat)):Zl ⟨Tryz.prog,[(39,0),(41,2),(43,3),(91,1),(93,4)],[ZDk],[],[],[],[],[]⟩ [] Tryz.f115 (.two .no (.two .no (.two (.two .no (.two (.cut ⟨⟨[0,1],[],[.s 5 (.own 97 (.pair (.pair (.leaf 4) (.pair (.leaf 4) (.pair (.leaf 4) (.leaf 4)))) (.pair (.leaf 4) (.pair (.leaf 4) (.pair (.leaf 4) (.leaf 4)))))),.s 6 (.dat (.int .i64))]⟩,[(.exit 0,⟨[],[],[.s 5 (.own 97 (.pair (.pair (.leaf 4) (.pair (.leaf 4) (.pair (.leaf 4) (.leaf 4)))) (.pair (.leaf 4) (.pair (.leaf 4) (.pair (.leaf 4) (.leaf 4))))))]⟩)]⟩ .no) .no)) .no))) [.slice (.slice (.pair (.pair (.leaf 4) (.pair (.leaf 4) (.pair (.leaf 4) (.leaf 4)))) (.pair (.leaf 4) (.pair (.leaf 4) (.pair (.leaf 4) (.leaf 4)))))),.slice (.pair (.pair (.leaf 4) (.pair (.leaf 4) (.pair (.leaf 4) (.leaf 4)))) (.pair (.leaf 4) (.pair (.leaf 4) (.pair (.leaf 4) (.leaf 4)))))] [.slice (.pair (.pair (.leaf 4) (.pair (.leaf 4) (.pair (.leaf 4) (.leaf 4)))) (.pair (.leaf 4) (.pair (.leaf 4) (.pair (.leaf 4) (.leaf 4)))))] (m,x)=ZFj m x:=by kernel_rfl
theorem ZCz:Zk Tryz.prog ZKl.1 ZKl.2:=Zm (C:=⟨Tryz.prog,[(39,0),(41,2),(43,3),(91,1),(93,4)],[ZDk],[],[],[],[],[]⟩) ⟨rDot_k,trivial⟩ trivial trivial trivial (inl:=[]) trivial (ann:=(.two .no (.two .no (.two (.two .no (.two (.cut ⟨⟨[0,1],[],[.s 5 (.own 97 (.pair (.pair (.leaf 4) (.pair (.leaf 4) (.pair (.leaf 4) (.leaf 4)))) (.pair (.leaf 4) (.pair (.leaf 4) (.pair (.leaf 4) (.leaf 4)))))),.s 6 (.dat (.int .i64))]⟩,[(.exit 0,⟨[],[],[.s 5 (.own 97 (.pair (.pair (.leaf 4) (.pair (.leaf 4) (.pair (.leaf 4) (.leaf 4)))) (.pair (.leaf 4) (.pair (.leaf 4) (.pair (.leaf 4) (.leaf 4))))))]⟩)]⟩ .no) .no)) .no)))) Tryz.func115 (fun _ _=>by kernel_rfl) rfl (fun v vals x z ha hz=>(Zjw x.1 x.2).trans hz)
end Go.Eng
set_option maxRecDepth 100000
set_option maxHeartbeats 4000000
namespace Go.Eng
open Go.Proofs Go.RowKit
noncomputable def Zhl:FuncId×Con:=(66,⟨[.slice (.slice (.pair (.pair (.leaf 4) (.pair (.leaf 4) (.pair (.leaf 4) (.leaf 4)))) (.pair (.leaf 4) (.pair (.leaf 4) (.pair (.leaf 4) (.leaf 4)))))),.slice (.pair (.pair (.leaf 4) (.pair (.leaf 4) (.pair (.leaf 4) (.leaf 4)))) (.pair (.leaf 4) (.pair (.leaf 4) (.pair (.leaf 4) (.leaf 4)))))],[.slice (.pair (.pair (.leaf 4) (.pair (.leaf 4) (.pair (.leaf 4) (.leaf 4)))) (.pair (.leaf 4) (.pair (.leaf 4) (.pair (.leaf 4) (.leaf 4)))))],fun p=>Zzj p.1 p.2⟩)
theorem ZRv (m:List (List ((Rat×Rat×Rat×Rat)×Rat×Rat×Rat×Rat))) (b:List ((Rat×Rat×Rat×Rat)×Rat×Rat×Rat×Rat)):Zl ⟨Tryz.prog,[(39,0),(41,2),(43,3),(91,1),(93,4)],[ZUl,Zce,Zke,Zjl,ZMh,ZKl],[62,63],[],[],[],[]⟩ [] Tryz.f66 (.two .no (.two .no (.two .no (.two (.two .no (.two (.cut ⟨⟨[0,1,5],[],[.s 7 (.mat 31 97 (.pair (.pair (.leaf 4) (.pair (.leaf 4) (.pair (.leaf 4) (.leaf 4)))) (.pair (.leaf 4) (.pair (.leaf 4) (.pair (.leaf 4) (.leaf 4)))))),.s 8 (.dat (.int .i64))]⟩,[(.exit 0,⟨[1,5],[],[.s 7 (.mat 31 97 (.pair (.pair (.leaf 4) (.pair (.leaf 4) (.pair (.leaf 4) (.leaf 4)))) (.pair (.leaf 4) (.pair (.leaf 4) (.pair (.leaf 4) (.leaf 4))))))]⟩)]⟩ (.two (.two .no (.two (.two (.two .no (.two (.two .no (.two (.cut ⟨⟨[0,1,5,7,8],[],[.s 9 (.own 97 (.pair (.pair (.leaf 4) (.pair (.leaf 4) (.pair (.leaf 4) (.leaf 4)))) (.pair (.leaf 4) (.pair (.leaf 4) (.pair (.leaf 4) (.leaf 4)))))),.s 10 (.dat (.int .i64))]⟩,[(.exit 2,⟨[0,1,5,7,8],[],[.s 9 (.own 97 (.pair (.pair (.leaf 4) (.pair (.leaf 4) (.pair (.leaf 4) (.leaf 4)))) (.pair (.leaf 4) (.pair (.leaf 4) (.pair (.leaf 4) (.leaf 4))))))]⟩)]⟩ (.two (.two .no (.two (.two (.two .no (.two (.two .no (.two (.cut ⟨⟨[0,1,5,7,8,9,10,11],[],[.s 12 (.dat (.int .i64)),.l (.sl 11) (.box 97 (.dat (.pair (.pair (.leaf 4) (.pair (.leaf 4) (.pair (.leaf 4) (.leaf 4)))) (.pair (.leaf 4) (.pair (.leaf 4) (.pair (.leaf 4) (.leaf 4)))))))]⟩,[(.exit 4,⟨[0,1,5,7,8,9,10,11],[],[.l (.sl 11) (.box 97 (.dat (.pair (.pair (.leaf 4) (.pair (.leaf 4) (.pair (.leaf 4) (.leaf 4)))) (.pair (.leaf 4) (.pair (.leaf 4) (.pair (.leaf 4) (.leaf 4)))))))]⟩)]⟩ .no) .no)) .no)) .no) .no)) .no)) .no)) .no)) .no) .no)) .no)) .no)) .no)))) [.slice (.slice (.pair (.pair (.leaf 4) (.pair (.leaf 4) (.pair (.leaf 4) (.leaf 4)))) (.pair (.leaf 4) (.pair (.leaf 4) (.pair (.leaf 4) (.leaf 4)))))),.slice (.pair (.pair (.leaf 4) (.pair (.leaf 4) (.pair (.leaf 4) (.leaf 4)))) (.pair (.leaf 4) (.pair (.leaf 4) (.pair (.leaf 4) (.leaf 4)))))] [.slice (.pair (.pair (.leaf 4) (.pair (.leaf 4) (.pair (.leaf 4) (.leaf 4)))) (.pair (.leaf 4) (.pair (.leaf 4) (.pair (.leaf 4) (.leaf 4)))))] (m,b)=Zzj m b:=by kernel_rfl
theorem Z5y:Zk Tryz.prog Zhl.1 Zhl.2:=Zm (C:=⟨Tryz.prog,[(39,0),(41,2),(43,3),(91,1),(93,4)],[ZUl,Zce,Zke,Zjl,ZMh,ZKl],[62,63],[],[],[],[]⟩) ⟨rAny_k,Z0j,Zfk,Zjx,Zjs,ZCz,trivial⟩ trivial trivial trivial (inl:=[]) trivial (ann:=(.two .no (.two .no (.two .no (.two (.two .no (.two (.cut ⟨⟨[0,1,5],[],[.s 7 (.mat 31 97 (.pair (.pair (.leaf 4) (.pair (.leaf 4) (.pair (.leaf 4) (.leaf 4)))) (.pair (.leaf 4) (.pair (.leaf 4) (.pair (.leaf 4) (.leaf 4)))))),.s 8 (.dat (.int .i64))]⟩,[(.exit 0,⟨[1,5],[],[.s 7 (.mat 31 97 (.pair (.pair (.leaf 4) (.pair (.leaf 4) (.pair (.leaf 4) (.leaf 4)))) (.pair (.leaf 4) (.pair (.leaf 4) (.pair (.leaf 4) (.leaf 4))))))]⟩)]⟩ (.two (.two .no (.two (.two (.two .no (.two (.two .no (.two (.cut ⟨⟨[0,1,5,7,8],[],[.s 9 (.own 97 (.pair (.pair (.leaf 4) (.pair (.leaf 4) (.pair (.leaf 4) (.leaf 4)))) (.pair (.leaf 4) (.pair (.leaf 4) (.pair (.leaf 4) (.leaf 4)))))),.s 10 (.dat (.int .i64))]⟩,[(.exit 2,⟨[0,1,5,7,8],[],[.s 9 (.own 97 (.pair (.pair (.leaf 4) (.pair (.leaf 4) (.pair (.leaf 4) (.leaf 4)))) (.pair (.leaf 4) (.pair (.leaf 4) (.pair (.leaf 4) (.leaf 4))))))]⟩)]⟩ (.two (.two .no (.two (.two (.two .no (.two (.two .no (.two (.cut ⟨⟨[0,1,5,7,8,9,10,11],[],[.s 12 (.dat (.int .i64)),.l (.sl 11) (.box 97 (.dat (.pair (.pair (.leaf 4) (.pair (.leaf 4) (.pair (.leaf 4) (.leaf 4)))) (.pair (.leaf 4) (.pair (.leaf 4) (.pair (.leaf 4) (.leaf 4)))))))]⟩,[(.exit 4,⟨[0,1,5,7,8,9,10,11],[],[.l (.sl 11) (.box 97 (.dat (.pair (.pair (.leaf 4) (.pair (.leaf 4) (.pair (.leaf 4) (.leaf 4)))) (.pair (.leaf 4) (.pair (.leaf 4) (.pair (.leaf 4) (.leaf 4)))))))]⟩)]⟩ .no) .no)) .no)) .no) .no)) .no)) .no)) .no)) .no) .no)) .no)) .no)) .no))))) Tryz.func66 (fun _ _=>by kernel_rfl) rfl (fun v vals x z ha hz=>(ZRv x.1 x.2).trans hz)
end Go.Eng
set_option maxRecDepth 100000
set_option maxHeartbeats 4000000
namespace Go.Eng
open Go.Proofs Go.RowKit
noncomputable def ZHk:FuncId×Con:=(27,⟨[.slice (.slice (.pair (.pair (.leaf 4) (.pair (.leaf 4) (.pair (.leaf 4) (.leaf 4)))) (.pair (.leaf 4) (.pair (.leaf 4) (.pair (.leaf 4) (.leaf 4)))))),.slice (.pair (.pair (.leaf 4) (.pair (.leaf 4) (.pair (.leaf 4) (.leaf 4)))) (.pair (.leaf 4) (.pair (.leaf 4) (.pair (.leaf 4) (.leaf 4)))))],[.slice (.pair (.pair (.leaf 4) (.pair (.leaf 4) (.pair (.leaf 4) (.leaf 4)))) (.pair (.leaf 4) (.pair (.leaf 4) (.pair (.leaf 4) (.leaf 4))))),.int .i64],fun p=>ZGd p.1 p.2⟩)
theorem ZXv (m:List (List ((Rat×Rat×Rat×Rat)×Rat×Rat×Rat×Rat))) (b:List ((Rat×Rat×Rat×Rat)×Rat×Rat×Rat×Rat)):Zl ⟨Tryz.prog,[(39,0),(41,2),(43,3),(91,1),(93,4)],[Z1f,Z0g,Zsf,Zhl],[],[],[],[],[]⟩ [] Tryz.f27 (.two .no (.two (.two (.cut ⟨⟨[],[],[]⟩,[(.norm,⟨[0,1],[],[.s 17 (.dat .bool)]⟩)]⟩ .no) .no) .no)) [.slice (.slice (.pair (.pair (.leaf 4) (.pair (.leaf 4) (.pair (.leaf 4) (.leaf 4)))) (.pair (.leaf 4) (.pair (.leaf 4) (.pair (.leaf 4) (.leaf 4)))))),.slice (.pair (.pair (.leaf 4) (.pair (.leaf 4) (.pair (.leaf 4) (.leaf 4)))) (.pair (.leaf 4) (.pair (.leaf 4) (.pair (.leaf 4) (.leaf 4)))))] [.slice (.pair (.pair (.leaf 4) (.pair (.leaf 4) (.pair (.leaf 4) (.leaf 4)))) (.pair (.leaf 4) (.pair (.leaf 4) (.pair (.leaf 4) (.leaf 4))))),.int .i64] (m,b)=ZGd m b:=by kernel_rfl
theorem Zsx:Zk Tryz.prog ZHk.1 ZHk.2:=Zm (C:=⟨Tryz.prog,[(39,0),(41,2),(43,3),(91,1),(93,4)],[Z1f,Z0g,Zsf,Zhl],[],[],[],[],[]⟩) ⟨Zvn,Zeq,ZNp,Z5y,trivial⟩ trivial trivial trivial (inl:=[]) trivial (ann:=(.two .no (.two (.two (.cut ⟨⟨[],[],[]⟩,[(.norm,⟨[0,1],[],[.s 17 (.dat .bool)]⟩)]⟩ .no) .no) .no))) Tryz.func27 (fun _ _=>by kernel_rfl) rfl (fun v vals x z ha hz=>(ZXv x.1 x.2).trans hz)
end Go.Eng
set_option maxRecDepth 100000
set_option maxHeartbeats 4000000
namespace Go.Eng
open Go.Proofs Go.RowKit
noncomputable def Zjm:FuncId×Con:=(29,⟨[.slice (.slice (.leaf 3)),.slice (.leaf 3),.slice (.leaf 3)],[.slice (.leaf 3),.int .i64],fun p=>ZUf p.1 p.2.1 p.2.2⟩)
theorem ZZy (m : List (List Rat)) (x : List Rat) (b : List Rat) : Zl ⟨Tryz.prog, [(39, 0), (41, 2), (43, 3), (91, 1), (93, 4)], [Zsc, Zwb, ZPd, Zme], [], [], [], [((43, "Sub"), 71)], []⟩ [(69, Tryz.f69, .two .no (.two .no (.two (.two .no (.two (.cut ⟨⟨[1, 8, 9], [], [.s 5 (.own 43 (.leaf 3)), .s 10 (.dat (.int .i64))]⟩, [(.exit 0, ⟨[], [], [.s 5 (.own 43 (.leaf 3))]⟩)]⟩ .no) .no)) .no)))] Tryz.f29 (.two .no (.two (.two (.cut ⟨⟨[], [], []⟩, [(.norm, ⟨[0, 1, 2], [], [.s 26 (.dat .bool)]⟩)]⟩ .no) .no) (.two .no (.two (.two .no (.two (.cut ⟨⟨[2, 8, 31], [], [.s 32 (.dat (.int .i64)), .l (.sl 8) (.own 43 (.leaf 3))]⟩, [(.exit 0, ⟨[8], [], [.l (.sl 8) (.own 43 (.leaf 3))]⟩)]⟩ .no) .no)) .no)))) [.slice (.slice (.leaf 3)), .slice (.leaf 3), .slice (.leaf 3)] [.slice (.leaf 3), .int .i64] (m, x, b) = ZUf m x b := by kernel_rfl
theorem Zbu : Zk Tryz.prog Zjm.1 Zjm.2 := Zm (C := ⟨Tryz.prog, [(39, 0), (41, 2), (43, 3), (91, 1), (93, 4)], [Zsc, Zwb, ZPd, Zme], [], [], [], [((43, "Sub"), 71)], []⟩) ⟨ZKh, Zxf, Zgn, Zok, trivial⟩ trivial trivial ⟨ZGo, trivial⟩ (inl := [(69, Tryz.f69, .two .no (.two .no (.two (.two .no (.two (.cut ⟨⟨[1, 8, 9], [], [.s 5 (.own 43 (.leaf 3)), .s 10 (.dat (.int .i64))]⟩, [(.exit 0, ⟨[], [], [.s 5 (.own 43 (.leaf 3))]⟩)]⟩ .no) .no)) .no)))]) ⟨⟨Tryz.func69, fun _ _ => by kernel_rfl⟩, trivial⟩ (ann := (.two .no (.two (.two (.cut ⟨⟨[], [], []⟩, [(.norm, ⟨[0, 1, 2], [], [.s 26 (.dat .bool)]⟩)]⟩ .no) .no) (.two .no (.two (.two .no (.two (.cut ⟨⟨[2, 8, 31], [], [.s 32 (.dat (.int .i64)), .l (.sl 8) (.own 43 (.leaf 3))]⟩, [(.exit 0, ⟨[8], [], [.l (.sl 8) (.own 43 (.leaf 3))]⟩)]⟩ .no) .no)) .no))))) Tryz.func29 (fun _ _ => by kernel_rfl) rfl (fun v vals x z ha hz => (ZZy x.1 x.2.1 x.2.2).trans hz)
end Go.Eng
set_option maxRecDepth 100000
set_option maxHeartbeats 4000000
namespace Go.Eng
open Go.Proofs Go.RowKit
theorem ZLz (m:List (List (Int×Int))) (b:List (Int×Int)) (other:List (Int×Int)):Zl ⟨Tryz.prog,[(39,0),(41,2),(43,3),(91,1),(93,4)],[ZQk,ZDf,ZOf,ZQc,Z0c,ZAk,Zmm,ZHk,Z1g,Zjm,ZXc,Z7f],[],[],[],[],[]⟩ [] Tryz.f5 (.two .no (.two (.two (.cut ⟨⟨[],[],[]⟩,[(.norm,⟨[0,1,2],[],[.s 37 (.dat .bool)]⟩)]⟩ .no) .no) (.two .no (.two .no (.two .no (.two .no (.two (.two (.cut ⟨⟨[],[],[]⟩,[(.norm,⟨[2,7,9,11,12],[],[.s 69 (.dat .bool)]⟩)]⟩ .no) .no) (.two .no (.two .no (.two .no (.two (.two .no (.two (.cut ⟨⟨[2,7,9,11,15,83],[],[.s 84 (.dat (.int .i64))]⟩,[(.exit 0,⟨[2,7,9,11,15],[],[]⟩),(.ret,⟨[],[],[.s 1000 (.dat .bool)]⟩)]⟩ (.two (.two .no (.two .no (.two (.two (.two .no (.two .no (.two (.two .no (.two (.cut ⟨⟨[2,7,9,11,15,16,17,83,84,88],[],[.s 89 (.dat (.int .i64)),.l (.sl 17) (.box 43 (.dat (.leaf 3)))]⟩,[(.exit 2,⟨[2,7,9,11,15,17,83,84],[],[.l (.sl 17) (.box 43 (.dat (.leaf 3)))]⟩)]⟩ .no) .no)) .no))) .no) .no))) .no)) .no)) (.two .no (.two .no (.two (.two .no (.two (.two (.cut ⟨⟨[],[],[]⟩,[(.norm,⟨[],[],[.s 6 (.dat .bool)]⟩)]⟩ .no) .no) .no)) (.two .no (.two (.two .no (.two (.cut ⟨⟨[15,21,22,23,134],[],[.s 135 (.dat (.int .i64)),.l (.sl 22) (.box 43 (.dat (.leaf 3))),.l (.sl 23) (.box 43 (.dat (.leaf 3)))]⟩,[(.exit 4,⟨[22,23],[],[.l (.sl 22) (.box 43 (.dat (.leaf 3))),.l (.sl 23) (.box 43 (.dat (.leaf 3)))]⟩)]⟩ .no) .no)) (.two (.cut ⟨⟨[],[],[]⟩,[(.norm,⟨[],[],[.s 6 (.dat .bool)]⟩)]⟩ .no) .no))))))))))))))))) [.slice (.slice (.pair (.int .i64) (.int .i64))),.slice (.pair (.int .i64) (.int .i64)),.slice (.pair (.int .i64) (.int .i64))] [.bool] (m,b,other)=ZXj m b other:=by kernel_rfl
theorem Zew {w0:World} {v0:Zb} (hv:VIn v0 w0) {c0:List Value} {m:(List (List (Int×Int)))} (p0:Rep.rel (Zv (Zv (ZSa (Zd .i64) (Zd .i64)))) v0 c0 m) {c1:List Value} {b:(List (Int×Int))} (p1:Rep.rel (Zv (ZSa (Zd .i64) (Zd .i64))) v0 c1 b) {c2:List Value} {other:(List (Int×Int))} (p2:Rep.rel (Zv (ZSa (Zd .i64) (Zd .i64))) v0 c2 other) {z:Bool} (hm:ZXj m b other=some z):Ret Tryz.prog 5 #[(Zv (Zv (ZSa (Zd .i64) (Zd .i64)))).val c0,(Zv (ZSa (Zd .i64) (Zd .i64))).val c1,(Zv (ZSa (Zd .i64) (Zd .i64))).val c2] w0 v0 (fun y v'=>∃ r0,y=ZCd.val r0∧ZCd.rel v' r0 z):=(Zso (C:=⟨Tryz.prog,[(39,0),(41,2),(43,3),(91,1),(93,4)],[ZQk,ZDf,ZOf,ZQc,Z0c,ZAk,Zmm,ZHk,Z1g,Zjm,ZXc,Z7f],[],[],[],[],[]⟩) (CfOK.of ⟨ZPx,ZVo,Zao,ZZi,ZPj,few2_k,Least_k,Zsx,is2_k,Zbu,Z1i,ZPp,trivial⟩ trivial trivial trivial) (inl:=[]) (Z9c.of trivial) (ann:=(.two .no (.two (.two (.cut ⟨⟨[],[],[]⟩,[(.norm,⟨[0,1,2],[],[.s 37 (.dat .bool)]⟩)]⟩ .no) .no) (.two .no (.two .no (.two .no (.two .no (.two (.two (.cut ⟨⟨[],[],[]⟩,[(.norm,⟨[2,7,9,11,12],[],[.s 69 (.dat .bool)]⟩)]⟩ .no) .no) (.two .no (.two .no (.two .no (.two (.two .no (.two (.cut ⟨⟨[2,7,9,11,15,83],[],[.s 84 (.dat (.int .i64))]⟩,[(.exit 0,⟨[2,7,9,11,15],[],[]⟩),(.ret,⟨[],[],[.s 1000 (.dat .bool)]⟩)]⟩ (.two (.two .no (.two .no (.two (.two (.two .no (.two .no (.two (.two .no (.two (.cut ⟨⟨[2,7,9,11,15,16,17,83,84,88],[],[.s 89 (.dat (.int .i64)),.l (.sl 17) (.box 43 (.dat (.leaf 3)))]⟩,[(.exit 2,⟨[2,7,9,11,15,17,83,84],[],[.l (.sl 17) (.box 43 (.dat (.leaf 3)))]⟩)]⟩ .no) .no)) .no))) .no) .no))) .no)) .no)) (.two .no (.two .no (.two (.two .no (.two (.two (.cut ⟨⟨[],[],[]⟩,[(.norm,⟨[],[],[.s 6 (.dat .bool)]⟩)]⟩ .no) .no) .no)) (.two .no (.two (.two .no (.two (.cut ⟨⟨[15,21,22,23,134],[],[.s 135 (.dat (.int .i64)),.l (.sl 22) (.box 43 (.dat (.leaf 3))),.l (.sl 23) (.box 43 (.dat (.leaf 3)))]⟩,[(.exit 4,⟨[22,23],[],[.l (.sl 22) (.box 43 (.dat (.leaf 3))),.l (.sl 23) (.box 43 (.dat (.leaf 3)))]⟩)]⟩ .no) .no)) (.two (.cut ⟨⟨[],[],[]⟩,[(.norm,⟨[],[],[.s 6 (.dat .bool)]⟩)]⟩ .no) .no)))))))))))))))))) (ats:=[.slice (.slice (.pair (.int .i64) (.int .i64))),.slice (.pair (.int .i64) (.int .i64)),.slice (.pair (.int .i64) (.int .i64))]) (rts:=[.bool]) (x:=(m,b,other)) (vals:=[(Zv (Zv (ZSa (Zd .i64) (Zd .i64)))).val c0,(Zv (ZSa (Zd .i64) (Zd .i64))).val c1,(Zv (ZSa (Zd .i64) (Zd .i64))).val c2]) Tryz.func5 rfl ((ZLz m b other).trans hm) hv ⟨c0,_,rfl,p0,c1,_,rfl,p1,c2,rfl,p2⟩).mono fun y v' _ h=>h
end Go.Eng
