/- Lemmas towards the statement: the engine of the walks, the functions' models, laws and walks, part 7. Conditions: as each states. -/
import Derived.Test.YtcgdkcnnidfceaaGreatProg
import Derived.Test.YtcgdkcnnidfceaaGreatMtF
set_option linter.all false
set_option maxRecDepth 100000
set_option maxHeartbeats 4000000
namespace Go.Eng
open Go.Proofs Go.RowKit
noncomputable def Zur:FuncId×Con:=(36,⟨[.int .i64,.int .i64],[.leaf 3,.int .i64],λp=>Zyh p.1 p.2⟩)
theorem qnew_k:KQ Zur:=ZE (Z7 (C:=cf0 [of_q,Zbh,Z6e] [] [] []) .no Tryz.func36 [] (λv vals x z ha hz=>by obtain⟨c0,w0,e0,p0,c1,e1,p1⟩:=ha;exact .trans (by kernel_rfl) (Znx p0.2 p1.2 hz)) ⟨of_k,ZGj,ZHg,tr⟩)
noncomputable def ZDj:FuncId×Con:=(14,⟨[.pair (.int .i64) (.int .i64)],[.leaf 3],λp=>Zab p⟩)
theorem Z8l:KQ ZDj:=ZE (Z7 (C:=cf0 [Zff,Zur] [] [] []) .no Tryz.func14 [] (λv vals x z ha hz=>.trans (by kernel_rfl) (Zet hz)) ⟨Zbg,qnew_k,tr⟩)
noncomputable def ZHs:FuncId×Con:=(7,⟨[.pair (.int .u8) (.pair (.int .u8) (.pair (.int .u8) (.int .u8))),.int .u8],[.pair (.leaf 3) (.slice (.pair (.leaf 3) (.leaf 3))),.slice (.leaf 3)],λp=>ZFj p.1 p.2⟩)
theorem Zsu:KQ ZHs:=ZE (ZHa (C:=cf0 [Zff,ZDj] [200039] [] []) (.n (.n (.n (.n (.f (.n (.f (.l [2,4,6,7,27,28] [] [.s 29 (.dat (.int .i64)),.l (.sl 7) (.box 35 (.agg (.cons (.dat (.leaf 3)) (.one (.own 50 (.pair (.leaf 3) (.leaf 3)))))))] 0 [4,6,7] [] [.l (.sl 7) (.box 35 (.agg (.cons (.dat (.leaf 3)) (.one (.own 50 (.pair (.leaf 3) (.leaf 3)))))))] (.f (.n (.n (.f (.f (.n (.j [2,4,6,7,27,28,29] [.fld (.sl 7) 3] [.l (.sl 7) (.box 35 (.agg (.cons (.dat (.leaf 3)) (.one (.own 50 (.pair (.leaf 3) (.leaf 3)))))))] .no))))))))))))))) Tryz.func7 [] (λ_=>by kernel_rfl) ⟨Zbg,Z8l,tr⟩)
noncomputable def Zqp:FuncId×Con:=(29,⟨[.slice (.leaf 3)],[.int .i64],λp=>ZUf p⟩)
theorem ZFw:KQ Zqp:=ZE (ZHa (C:=cf0 [ZOe,ZTc] [] [] []) (.n (.two (.f (.j [0] [] [.s 12 (.dat .bool)] .no)) (.f (.n (.cut ⟨⟨[],[],[]⟩,[(.norm,⟨[],[],[]⟩),(.ret,⟨[],[],[.s 1000 (.dat (.int .i64))]⟩)]⟩ (.f (.cut ⟨⟨[0,13,14],[],[.s 15 (.dat (.int .i64))]⟩,[(.ret,⟨[],[],[.s 1000 (.dat (.int .i64))]⟩),(.exit 0,⟨[],[],[]⟩)]⟩ (.f (.n (.n (.f (.f (.n (.n (.f (.j [0,13,14,15] [] [.s 34 (.dat .bool)] .no)))))))))))))))) Tryz.func29 [] (λ_=>by kernel_rfl) ⟨Z0f,Z2c,tr⟩)
noncomputable def Zoj:FuncId×Con:=(78,⟨[.slice (.slice (.leaf 3))],[.int .i64],λp=>ZTg p⟩)
theorem ZMk:KQ Zoj:=ZE (ZHa (C:=cf0 [] [] [] []) .no Tryz.func78 [] (λ_=>by kernel_rfl))
noncomputable def Zhp:FuncId×Con:=(100,⟨[.slice (.slice (.leaf 3))],[.bool],λp=>Zyk p⟩)
theorem ZKw:KQ Zhp:=ZE (ZHa (C:=cf0 [Zoj] [] [] []) (.n (.n (.f (.j [] [] [.s 2 (.dat .bool)] .no)))) Tryz.func100 [(122,Tryz.f122,.no),(123,Tryz.f123,.no),(146,Tryz.f146,.r [] [] [.s 1000 (.dat (.int .i64))] (.n (.f (.n (.f (.cut ⟨⟨[0,1,7],[],[.s 8 (.dat (.int .i64))]⟩,[(.exit 0,⟨[],[],[]⟩),(.ret,⟨[],[],[.s 1000 (.dat (.int .i64))]⟩)]⟩ .no))))))] (λ_=>by kernel_rfl) ⟨ZMk,tr⟩ tr tr ⟨⟨Tryz.func122,λ_ _=>by kernel_rfl⟩,⟨Tryz.func123,λ_ _=>by kernel_rfl⟩,⟨Tryz.func146,λ_ _=>by kernel_rfl⟩,tr⟩)
noncomputable def ZPs:FuncId×Con:=(76,⟨[.slice (.slice (.leaf 3)),.slice (.leaf 3),.slice (.leaf 3)],[.bool],λp=>Z2j p.1 p.2.1 p.2.2⟩)
theorem ZFv:KQ ZPs:=ZE (ZHa (C:=cf0 [Zoj,Zhp] [] [] []) (.n (.f (.j [] [] [.s 6 (.dat .bool)] .no))) Tryz.func76 [] (λ_=>by kernel_rfl) ⟨ZMk,ZKw,tr⟩)
theorem ZEp : ∀ y w, (method (Tryz.prog.types.size + Made.depth) 32 y "Add").run Tryz.prog w = .ok (12, y) w := λ_ _ => by kernel_rfl
theorem ZPn : ∀ y w, (method (Tryz.prog.types.size + Made.depth) 32 y "Cmp").run Tryz.prog w = .ok (13, y) w := λ_ _ => by kernel_rfl
theorem ZHo : ∀ y w, (method (Tryz.prog.types.size + Made.depth) 32 y "Div").run Tryz.prog w = .ok (21, y) w := λ_ _ => by kernel_rfl
theorem Zts : ∀ y w, (method (Tryz.prog.types.size + Made.depth) 32 y "Mul").run Tryz.prog w = .ok (66, y) w := λ_ _ => by kernel_rfl
theorem Z5f : ∀ y w, (method (Tryz.prog.types.size + Made.depth) 32 y "Neg").run Tryz.prog w = .ok (38, y) w := λ_ _ => by kernel_rfl
theorem ZKx : ∀ y w, (method (Tryz.prog.types.size + Made.depth) 32 y "Of").run Tryz.prog w = .ok (169, y) w := λ_ _ => by kernel_rfl
theorem Zjj : ∀ y w, (method (Tryz.prog.types.size + Made.depth) 32 y "Sign").run Tryz.prog w = .ok (15, y) w := λ_ _ => by kernel_rfl
theorem ZUp : ∀ y w, (method (Tryz.prog.types.size + Made.depth) 32 y "Sub").run Tryz.prog w = .ok (16, y) w := λ_ _ => by kernel_rfl
theorem ZJr : ∀ y w, (method (Tryz.prog.types.size + Made.depth) 32 y "Zero").run Tryz.prog w = .ok (11, y) w := λ_ _ => by kernel_rfl
noncomputable def Z2p:FuncId×Con:=(77,⟨[.slice (.leaf 3)],[.bool],λp=>ZHj p⟩)
theorem ZQw : KQ Z2p := ZE (ZHa (C := cf0 [ZTc] [] [] [((32, "Sign"), 15)]) .no Tryz.func77 [(101, Tryz.f101, .no), (102, Tryz.f102, .no), (124, Tryz.f124, .r [] [] [.s 1000 (.dat (.int .i64))] (.n (.f (.n (.f (.cut ⟨⟨[0, 1, 7], [], [.s 8 (.dat (.int .i64))]⟩, [(.exit 0, ⟨[], [], []⟩), (.ret, ⟨[], [], [.s 1000 (.dat (.int .i64))]⟩)]⟩ .no))))))] (λ_ => by kernel_rfl) ⟨Z2c, tr⟩ tr ⟨Zjj, tr⟩ ⟨⟨Tryz.func101, λ_ _ => by kernel_rfl⟩, ⟨Tryz.func102, λ_ _ => by kernel_rfl⟩, ⟨Tryz.func124, λ_ _ => by kernel_rfl⟩, tr⟩)
theorem ZLr:Elem Tryz.prog 36 32 (ZP).n 56 (Value.agg #[Value.bool false,Value.slice none 0 0,Value.slice none 0 0]):=⟨Tryz.underlying36,by kernel_rfl,rfl,by decide⟩
noncomputable def Zxi:FuncId×ConO:=(79,⟨[.slice (.leaf 3)],32,.leaf 3,λp=>Zoc 56 p⟩)
theorem Z2m:Zze Tryz.prog Zxi.1 Zxi.2:=λw v vals x z hv ha hz=>by
 obtain⟨cs,rfl,p0⟩:=ha
 have hz:Zoc 56 (show List Rat from x)=some z:=hz
 obtain⟨hb,rfl⟩:=Zlt hz
 obtain⟨q,n,c,rfl⟩:=ZMf (show (ZF ZP).rel v cs z from p0)
 refine⟨λ_ _=>by kernel_rfl,?_⟩
 have hn:n=(show List Rat from z).length:=by obtain⟨_,_,e,_⟩:=p0;cases e;rfl
 refine Zoi (K:=8) (args:=[.slice q n c]) hv Tryz.func79 rfl rfl zl λfa hS=>?_
 refine sr ?_
 refine mw hS rfl λfa hS=>?_
 refine oe ?_
 refine wp_seq_k λN1 hN1=>?_
 refine sr ?_
 refine mv hS rfl λfa hS=>?_
 refine ov hS rfl (Zlu hS Tryz.underlying36 rfl rfl) λfa hS=>?_
 refine oe ?_
 cases q with
 | none =>
  refine Zia hS rfl rfl ?_
  have hx:(show List Rat from z)=[]:=by
   obtain⟨q',c',e,_,_,h3⟩:=p0
   cases e
   rcases h3 with h3 | ⟨_,_,_,_,_,h4,_⟩
   ·exact h3
   ·cases h4
  have hx0:n=0:=by rw[hn,hx];rfl
  refine sr ?_;refine mw hS rfl λfa hS=>?_;refine oe ?_;refine wp_ret ?_;refine ZSb ?_;have hS2:=hS.nilLoc 32 (ZP).n;have:=ZVl (P:=Tryz.prog) (A:=ZP) hS2 (i:=0) (ob:=none) (n:=0) (cap:=0) (cs:=[]) rfl (ZMa (fn:=Tryz.f79) (r:=.tmp 2) rfl (ZL (t:=2) (y:=.slice (mkA none) 0 0) hS2 rfl)) (l:=([]:List Rat)) ZSe rfl;rw[hx];exact this
 | some ad =>
  refine ZX hS rfl rfl ?_;refine wp_skip ?_;refine Zh (hN1 _ _ ?_);refine sr ?_;obtain⟨b,wo,hrun,hS⟩:=ZKt ZLr hS;refine ZVc wn rfl zl hrun hS λfa hS=>?_;refine mv hS rfl λfa hS=>?_;obtain⟨b',cap',cs2,wo,hr,hS',hrel⟩:=ZBf (ty:=36) (A:=ZP) ZLr hS (i:=0) rfl (Rep.mono (ZF ZP) hS.vst.le p0) (n':=n) (by omega) (by rw[hn];exact hb) (by decide);refine ZVc wn rfl zl (Zwe hS rfl rfl hr) hS' λfa hS=>?_;refine mw hS rfl λfa hS=>?_;refine oe ?_;refine wp_ret ?_;exact ZVl hS (i:=0) rfl (ZMa rfl (ZL hS rfl)) hrel hn
noncomputable def ZQs:FuncId×ConO:=(80,⟨[.slice (.leaf 3)],32,.leaf 3,λp=>Zlh p⟩)
theorem Zqx : KO ZQs := ZXr (C := cf0 [Zte] [] [] [((32, "Neg"), 38)]) (.n (.n (.f (.n (.f (.l [6, 7] [] [.s 3 (.own 32 (.leaf 3)), .s 8 (.dat (.int .i64))] 0 [] [] [.s 3 (.own 32 (.leaf 3))] .no)))))) Tryz.func80 [] (λ_ => by kernel_rfl) ⟨ZFe, tr⟩ tr ⟨Z5f, tr⟩
noncomputable def qOf_q:FuncId×Con:=(169,⟨[.leaf 3,.leaf 3],[.leaf 3],λp=>qOf_m p.1 p.2⟩)
theorem qOf_k:KQ qOf_q:=ZE (ZHa (C:=cf0 [] [] [] []) .no Tryz.func169 [] (λ_=>by kernel_rfl))
noncomputable def ZWf:FuncId×Con:=(82,⟨[.int .i64],[.leaf 3],λp=>ZAb p⟩)
theorem Zqg : KQ ZWf := ZE (ZHa (C := cf0 [Zff, qOf_q] [] [] [((32, "Of"), 169)]) .no Tryz.func82 [] (λ_ => by kernel_rfl) ⟨Zbg, qOf_k, tr⟩ tr ⟨ZKx, tr⟩)
noncomputable def ZDk (x:Int) (y:Int):Option (Int×Int) :=
 bnd (Zwc x y) λa =>
 some ((a.1,a.2))
theorem bmul_w {c:World} {a:Zb} (hv:VIn a c) {d:List Value} {x:Int} (i:Rep.rel (Zc .u64) a d x) {e:List Value} {y:Int} (j:Rep.rel (Zc .u64) a e y) {z:Int×Int} (H:ZDk x y=some z):Ret Tryz.prog 95 #[(Zc .u64).val d,(Zc .u64).val e] c a (λy v'=>∃ g b,y = .tuple #[(Zc .u64).val g,(Zc .u64).val b]∧(Zc .u64).rel v' g z.1∧(Zc .u64).rel v' b z.2):=by
 obtain⟨rfl,b⟩:=i;obtain⟨rfl,k⟩:=j;refine ZGb (K:=30) (args:=[.int .u64 x,.int .u64 y]) hv Tryz.func95 rfl rfl zl λf S=>?_;unfold ZDk at H;refine sr (mw S rfl λf S=>mw S rfl λf S=>oe (Zm λ_ l=>ZX S rfl rfl (wp_skip (Zh (l _ _ (Zm λ_ m=>bO H λh n H=>ZA (mv S rfl λf S=>mv S rfl λf S=>opc S rfl (ZK S [.int .u64 x,.int .u64 y] ZGl rfl rfl) (Z2l S.vin (show Rep.rel (Zc .u64) _ [.int .u64 x] x from (ZG b)) (show Rep.rel (Zc .u64) _ [.int .u64 y] y from (ZG k)) n) ?_)))))));rintro _ s f w t ⟨u,v,rfl,o,p⟩ S;obtain⟨rfl,q⟩:=o;obtain⟨rfl,r⟩:=p;refine mv S rfl λf S=>ov S rfl (Zaa S rfl rfl) λf S=>ov S rfl (Zaa S rfl rfl) λf S=>mw S rfl λf S=>mw S rfl λf S=>Zx (Zh (m _ _ (sr (mv S rfl λf S=>mv S rfl λf S=>mw S rfl λf S=>mw S rfl λf S=>oe (wp_ret ?_)))));obtain rfl:=Zs H;refine Zma S (Zjc rfl (ZL S rfl) (ZL S rfl)) ⟨[.int .u64 (h.1)],[.int .u64 (h.2)],rfl,(ZG q),(ZG r)⟩
theorem ZGm:Elem Tryz.prog 36 32 (ZP).n 56 (Value.agg #[Value.bool false,Value.slice none 0 0,Value.slice none 0 0]):=⟨Tryz.underlying36,by kernel_rfl,rfl,by decide⟩
theorem Z0i:ZNb Tryz.prog 36 32 (ZP).n:=⟨λ_=>by kernel_rfl,λ_=>by kernel_rfl⟩
theorem Z8t:Tryz.prog.follows .mixedOrders=true:=by kernel_rfl
theorem Zru:ZB Tryz.prog 95:=λ_ _=>by kernel_rfl
theorem ZCq:Z9h Tryz.prog 3 168 .i64 .u64:=λ_ _=>by kernel_rfl
theorem Zku:Z9h Tryz.prog 168 3 .u64 .i64:=λ_ _=>by kernel_rfl
noncomputable def ZSg:FuncId×ConO:=(103,⟨[.slice (.leaf 3),.int .i64],32,.leaf 3,λp=>Zdd 56 p.1 p.2⟩)
theorem ZSi:Zze Tryz.prog ZSg.1 ZSg.2:=λw v vals x z hv ha hz=>by
 obtain⟨cs,vs,rfl,p0,c1,rfl,rfl,hin⟩:=ha
 obtain⟨x1,k0⟩:=x
 have hz:Zdd 56 (show List Rat from x1) k0=some z:=hz
 obtain⟨y,hx1,hzr,hmk⟩:=Z5v hz
 have hx1:x1=[y]:=hx1
 subst hx1 hzr
 obtain⟨h0,_,hb1,hb2⟩:=ZRd hmk
 obtain⟨k,rfl⟩:=oZ h0
 obtain⟨q,c,e,hc1,hc2,hne⟩:=(show (ZF ZP).rel v cs [y] from p0)
 subst e
 rcases hne with hne | ⟨b,off,cc,TT,fr,rfl,hvb,hrel⟩
 ·cases hne
 have hlen1:([y]:List Rat).length=1:=rfl
 rw[hlen1]at hrel
 obtain⟨c1,c2,e12,hrc,e2⟩:=hrel
 have e2:c2=[]:=e2
 subst e2
 rw[List.append_nil,Nat.one_mul]at e12
 have hl1:=Rep.len _ hrc
 have hAt:At v b off c1:=⟨cc,TT,fr,hvb,by rw[hl1];exact e12⟩
 refine⟨λ_ _=>by kernel_rfl,?_⟩
 have hk:((k:Int).toNat)=k:=tN k
 rw[hk]
 refine Zoi (K:=48) (args:=[.slice (some ⟨b,off,none⟩) 1 c,.int .i64 (k:Int)]) hv Tryz.func103 rfl rfl zl λfa hS=>?_
 refine sr ?_
 refine mw hS rfl λfa hS=>?_
 refine oe ?_
 refine wp_seq_k λN1 hN1=>?_
 refine sr ?_
 refine mv hS rfl λfa hS=>?_
 refine ov hS rfl (Zr hS rfl rfl ZUc) λfa hS=>?_
 refine oe ?_
 refine ZX hS rfl (dFq (by omega)) ?_
 refine wp_skip ?_
 refine Zh (hN1 _ _ ?_)
 refine sr ?_
 refine mv hS rfl λfa hS=>?_
 refine ov hS rfl (Z1b hS rfl rfl Z0i) λfa hS=>?_
 refine ov hS rfl (Zhd hS rfl (ZCq _)) λfa hS=>?_
 refine mv hS rfl λfa hS=>?_
 refine ov hS rfl (Zhd hS rfl (ZCq _)) λfa hS=>?_
 have w1:IntKind.u64.wrap ((1:Nat):Int)=1:=by decide
 have w2:IntKind.u64.wrap (k:Int)=k:=Z0b (ZHd.2 (by omega))
 rw[w1,w2]at hS
 have hmul:ZDk 1 (k:Int)=some (0,(k:Int)):=by
  unfold ZDk Zwc;rw[iP (by omega),Za];simp only;congr 2 <;> omega
 refine Zqh hS wn rfl zl (ZK hS [.int .u64 1,.int .u64 (k:Int)] Zru rfl rfl) (bmul_w hS.vin (show Rep.rel (Zc .u64) _ [.int .u64 1] 1 from ZG (by decide)) (show Rep.rel (Zc .u64) _ [.int .u64 (k:Int)] (k:Int) from ZG (ZHd.2 (by omega))) hmul) ?_;rintro _ v1 fa wo hle ⟨r0,r1,rfl,⟨rfl,_⟩,⟨rfl,_⟩⟩ hS;refine mv hS rfl λfa hS=>?_;refine ov hS rfl (Zaa hS rfl rfl) λfa hS=>?_;refine ov hS rfl (Zaa hS rfl rfl) λfa hS=>?_;refine mw hS rfl λfa hS=>?_;refine mw hS rfl λfa hS=>?_;refine oe ?_;refine wp_seq_k λN2 hN2=>?_;refine sr ?_;refine mv hS rfl λfa hS=>?_;refine ov hS rfl (Zr hS rfl rfl ZRe) λfa hS=>?_;have g1:decide ((0:Int)<0)=false:=rfl;have hS:St _ _ _ ((22,Value.bool false) :: _) _ _ _ _:=hS;refine mv hS rfl λfa hS=>?_;refine op_v hS (ZKd hS rfl rfl rfl zl) rfl zl (ZH hS rfl) λfa hS=>?_;refine op_v hS (ZKd hS rfl rfl rfl zl) rfl zl (Zr hS rfl rfl ZRe) λfa hS=>?_;refine ov hS rfl (Zfc (b:=false) hS rfl rfl) λfa hS=>?_;refine oe ?_;refine ZX hS rfl (dFq (by omega)) ?_;refine wp_skip ?_;refine Zh (hN2 _ _ ?_);refine sr ?_;refine mv hS rfl λfa hS=>?_;refine ov hS rfl (Zhd hS rfl (Zku _)) λfa hS=>?_;have w3:IntKind.i64.wrap (k:Int)=k:=Z0b (ZSa.2 (by omega));rw[w3]at hS;obtain⟨b2,wo,hrun,hS'⟩:=Zfm ZGm hS (l:=(k:Int)) (c:=(k:Int)) h0 (Int.le_refl _) hb1 hb2
 refine ZVc wn rfl zl (hrun rfl rfl) hS' λfa hS=>?_;refine mw hS rfl λfa hS=>?_;refine oe ?_;rw[hk]at hS;have hS:=hS.fr' (σ':=[(7,.slice (mkA (some b2)) k k),(0,.slice (some ⟨b,off,none⟩) 1 c)]) rfl;have src1:∀ {σ:List (Nat×Value)} {ℓ:List Loc} {v':Zb} {a:Act} {w':World},St 48 w v σ ℓ v' a w'→∀ j u,c1[j]? = some u→w'.cell? ((⟨b,off,none⟩:Addr).add j)=some u:=λhS j u hu=>by
  have:=(hS.view (At.mono hS.vst.le hAt)).cell hu
  rwa [ZIa]
 have hpl1:c1.all plain=true:=Rep.flat _ hrc;obtain⟨zc,hzc⟩:∃ zc:List Value,zc=(Value.agg #[Value.bool false,Value.slice none 0 0,Value.slice none 0 0]:Value).cells.toList:=⟨_,rfl⟩;have hzl:zc.length=(ZP).n:=by rw[hzc];rfl
 rw[← hzc]at hS
 let Inv:Nat→Act→World→Prop:=λj a w'=>∃ v',j≤k∧(0<k→0<j)∧St 48 w v [(8,.int .i64 (j:Int)),(7,.slice (mkA (some b2)) k k)] [.own (some b2) 32 (ZP).n k k ((List.replicate j c1).flatten++(List.replicate (k-j) zc).flatten)] v' a w'
 have rl:=λn=>ZKj hl1 n;have rpl:∀ n:Nat,((List.replicate n c1).flatten).all plain=true:=λn=>ZSu hpl1 n;have step:=λj m (hjm:j+m≤k)=>rp_step (k:=k) hl1 hzl hjm;refine sr ?_;refine mv hS rfl λfa hS=>?_;refine mv hS rfl λfa hS=>?_;have hS1:St 48 w v _ [.own (some b2) 32 (ZP).n k k ((List.replicate 0 c1).flatten++(List.replicate (k-0) zc).flatten)] v1 fa wo:=hS;obtain⟨wo2,hr,hS'⟩:=Zhr (t:=36) (sT:=36) ZGm hS1 (i:=0) rfl (p:=0) (k:=min 1 k) (c:=(List.replicate (min 1 k) c1).flatten) (rl _) (by omega) (rpl _) (ad:=⟨b,off,none⟩) (sLen:=1) (sCap:=c) (dLen:=k) (dCap:=k) (λj u hu=>by
  rcases Nat.lt_or_ge 0 k with hk0 | hk0
  ·rw[show min 1 k=1 by omega]at hu;simp only[List.replicate_one,List.flatten_cons,List.flatten_nil,List.append_nil]at hu;exact src1 hS1 j u hu
  ·rw[show min 1 k=0 by omega]at hu;simp at hu) rfl
 have hst:=step 0 (min 1 k) (by omega);simp only[List.set_cons_zero]at hS';rw[hst]at hS';simp only[Nat.zero_add]at hS';rw[Nat.zero_mul]at hr;refine ZVc wn rfl zl (Z1n hS1 rfl rfl (hr _)) hS' λfa hS=>?_;refine mw hS rfl λfa hS=>?_;refine oe ?_;have hS:=hS.fr' (σ':=[(8,.int .i64 ((min 1 k:Nat):Int)),(7,.slice (mkA (some b2)) k k)]) rfl;refine wp_seq_k λN3 hN3=>?_;refine wp_block ?_;refine wp_loop_fuel (λm a w'=>∃ j,k-j<m∧Inv j a w') (k+1) ⟨min 1 k,by omega,v1,by omega,by omega,hS⟩ (λa w' ⟨j,h,_⟩=>by omega) ?_;rintro m fa wo3 ⟨j,hjm,v3,hjk,hj0,hS⟩ N hN;refine wp_seq_k λN4 hN4=>?_;refine sr ?_;refine mv hS rfl λfa hS=>?_;refine mv hS rfl λfa hS=>?_;refine ov hS rfl (Z1b hS rfl rfl Z0i) λfa hS=>?_;refine ov hS rfl (Zr hS rfl rfl ZUc) λfa hS=>?_;refine oe ?_;by_cases hlt:j<k
 ·refine Zia hS rfl (dTq (by omega)) ?_;refine wp_skip ?_;refine Zh (hN4 _ _ ?_);refine wp_block ?_;have hS:=hS.fr' (σ':=[(8,.int .i64 (j:Int)),(7,.slice (mkA (some b2)) k k)]) rfl;refine Z1e (fl:=#[true,true,true,true,true,true,true,false,false,false]) Z8t (by kernel_rfl) hS ?_;intro ops hops hF wo hS;refine rf hops hF 0 rfl (by kernel_rfl) rfl hS (ZH hS rfl) λfa hS=>?_;refine rf hops hF 1 rfl (by kernel_rfl) rfl hS (ZH hS rfl) λfa hS=>?_;refine rf hops hF 2 rfl (by kernel_rfl) rfl hS (ZH hS rfl) λfa hS=>?_;refine rf hops hF 3 rfl (by kernel_rfl) rfl hS (Z0u hS Z0i rfl rfl (by omega) (by omega)) λfa hS=>?_;refine rf hops hF 4 rfl (by kernel_rfl) rfl hS (ZH hS rfl) λfa hS=>?_;refine rf hops hF 5 rfl (by kernel_rfl) rfl hS (ZH hS rfl) λfa hS=>?_;refine rf hops hF 6 rfl (by kernel_rfl) rfl hS (Znm hS Z0i rfl rfl (by omega) (by omega)) λfa hS=>?_;rw[Nat.zero_add]at hS;obtain⟨wo',hr,hS'⟩:=Zhr (t:=36) (sT:=36) ZGm hS (i:=0) rfl (p:=j) (k:=min j (k-j)) (c:=(List.replicate (min j (k-j)) c1).flatten) (rl _) (by omega) (rpl _) (ad:=⟨b2,0,none⟩) (sLen:=j) (sCap:=k) (dLen:=k-j) (dCap:=k-j) (λi u hu=>by
   have hi:=(List.getElem?_eq_some_iff.1 hu).1;refine ZQg hS (j:=0) rfl i u ?_;rw[Zuo (c:=c1) (m:=min j (k-j)) (n:=j) (by omega),aAq,List.getElem?_append_left hi];exact hu) rfl
  have hst:=step j (min j (k-j)) (by omega);simp only[List.set_cons_zero]at hS';rw[hst]at hS';refine Z0e hops hF 7 (by kernel_rfl) ?_;refine ZNm [3,6,1,2,4,5] [0] hops rfl (by kernel_rfl) wn rfl zl (Z1n hS rfl rfl (hr _)) hS' λfa hS=>?_;refine⟨(py hS rfl rfl (ZH hS rfl) ZOa),?_⟩;refine Z0e hops hF 8 (by kernel_rfl) ?_;have hadd:chk .i64 ((j:Int)+((min j (k-j):Nat):Int))=some ((j+min j (k-j):Nat):Int):=by rw[Zn (by omega) (by omega)];rfl
  refine nv [0,7,3,6,1,2,4,5] [] hops rfl (by kernel_rfl) rfl hS (Zr hS rfl rfl (Zzc hadd)) λfa hS=>?_;refine⟨ZOa,?_⟩;refine Z0e hops hF 9 (by kernel_rfl) ?_;refine nv [0,1,2,3,4,5,6,7,8] [] hops rfl (by kernel_rfl) rfl hS (ZJc hS rfl) λfa hS=>?_;refine⟨ZOa,?_⟩;refine Zsk hops hF (by kernel_rfl) ?_;refine Z0c ?_;have hj0:=hj0 (by omega);exact Zh (hN _ _ ⟨j+min j (k-j),by omega,v3,by omega,λ_=>by omega,hS.fr' rfl⟩)
 refine ZX hS rfl (dFq (by omega)) ?_;refine wp_exit ?_;refine Z6a ?_;refine Z6a ?_;refine Zrd ?_;refine Zh (hN3 _ _ ?_);have hjk:j=k:=by omega
 subst hjk;rw[Nat.sub_self,List.replicate_zero,List.flatten_nil,List.append_nil]at hS;refine sr ?_;refine mv hS rfl λfa hS=>?_;refine mw hS rfl λfa hS=>?_;refine oe ?_;refine wp_ret ?_;exact ZVl hS (i:=0) rfl (ZMa rfl (ZL hS rfl)) (ZNg (Rep.mono _ hS.vst.le hrc) _) (List.length_replicate (n:=j) (a:=y)).symm
noncomputable def Zmj:FuncId×ConO:=(81,⟨[.int .i64],32,.leaf 3,λp=>Zeg p⟩)
theorem ZJk:KO Zmj:=ZXr (C:=cf0 [ZWf] [] [ZSg] []) .no Tryz.func81 [] (λ_=>by kernel_rfl) ⟨Zqg,tr⟩ ⟨ZSi,tr⟩
noncomputable def Zpo:FuncId×Con:=(107,⟨[.ptr (.pair (.slice (.slice (.leaf 3))) (.pair (.slice (.leaf 3)) (.pair (.slice (.leaf 3)) (.pair (.leaf 3) (.pair (.slice (.int .i64)) (.slice (.int .i64))))))),.int .i64],[.slice (.leaf 3)],λp=>Zbi p.1 p.2⟩)
theorem ZYt:KQ Zpo:=ZE (ZHa (C:=cf0 [] [] [Zmj] []) (.n (.n (.f (.n (.f (.l [0,1,5,13,14] [] [.s 15 (.dat (.int .i64)),.l (.sl 5) (.own 32 (.leaf 3))] 0 [5] [] [.l (.sl 5) (.own 32 (.leaf 3))] (.f (.n (.n (.f (.f (.n (.n (.j [0,1,5,13,14,15] [] [.l (.sl 5) (.own 32 (.leaf 3))] .no)))))))))))))) Tryz.func107 [] (λ_=>by kernel_rfl) tr ⟨ZJk,tr⟩)
noncomputable def ZOq:FuncId×Con:=(108,⟨[.ptr (.pair (.slice (.slice (.leaf 3))) (.pair (.slice (.leaf 3)) (.pair (.slice (.leaf 3)) (.pair (.leaf 3) (.pair (.slice (.int .i64)) (.slice (.int .i64))))))),.int .i64,.int .i64],[.slice (.leaf 3)],λp=>Zhj p.1 p.2.1 p.2.2⟩)
theorem Zct : KQ ZOq := ZE (ZHa (C := cf0 [Zte] [] [Zmj] [((32, "Neg"), 38)]) (.n (.n (.f (.n (.f (.l [0, 1, 2, 7, 15, 16] [] [.s 17 (.dat (.int .i64)), .l (.sl 7) (.own 32 (.leaf 3))] 0 [7] [] [.l (.sl 7) (.own 32 (.leaf 3))] (.f (.n (.n (.f (.f (.n (.two (.j [0, 1, 2, 7, 8, 9, 15, 16, 17] [] [.s 31 (.dat .bool)] .no) (.j [0, 1, 2, 7, 15, 16, 17] [] [.l (.sl 7) (.own 32 (.leaf 3))] .no)))))))))))))) Tryz.func108 [] (λ_ => by kernel_rfl) ⟨ZFe, tr⟩ ⟨ZJk, tr⟩ ⟨Z5f, tr⟩)
noncomputable def Z6r:FuncId×ConM:=(125,⟨[.slice (.slice (.leaf 3))],36,32,.leaf 3,λp=>ZIi p⟩)
theorem Z9u:KW Z6r:=conm_z (C:=cf0 [] [8] [Zxi] []) (.n (.n (.f (.n (.f (.l [3,9,10] [] [.s 11 (.dat (.int .i64)),.l (.sl 3) (.mat 36 32 (.leaf 3))] 0 [3] [] [.l (.sl 3) (.mat 36 32 (.leaf 3))] .no)))))) Tryz.func125 [] (λ_=>by kernel_rfl) tr ⟨Z2m,tr⟩
noncomputable def Z9l:FuncId×ConB:=(126,⟨189,(.agg (.cons (.mat 36 32 (.leaf 3)) (.cons (.own 32 (.leaf 3)) (.cons (.own 32 (.leaf 3)) (.cons (.dat (.leaf 3)) (.cons (.own 3 (.int .i64)) (.one (.own 3 (.int .i64))))))))),[.int .i64,.int .i64],[],λz x=>Zaf z x.1 x.2⟩)
theorem ZBp : KB Z9l := Zmg (C := cf0 [Z6h, Zye, Zyf, Znf, Zte, ZAg, ZWf] [] [] [((32, "Add"), 12), ((32, "Div"), 21), ((32, "Mul"), 66), ((32, "Neg"), 38), ((32, "Sub"), 16), ((32, "Zero"), 11)]) (.n (.n (.two (.n (.f (.l [0, 1, 2, 7, 37] [] [.s 38 (.dat (.int .i64)), .l (.sl 20) (.mat 36 32 (.leaf 3))] 0 [0, 1, 2, 7] [] [.l (.sl 20) (.mat 36 32 (.leaf 3))] .no))) (.n (.n (.f (.n (.f (.l [0, 1, 2, 94] [] [.s 95 (.dat (.int .i64)), .l (.sl 67) (.mat 36 32 (.leaf 3)), .l (.sl 77) (.own 32 (.leaf 3))] 2 [0, 1, 2] [] [.l (.sl 67) (.mat 36 32 (.leaf 3)), .l (.sl 77) (.own 32 (.leaf 3))] (.f (.n (.n (.f (.j [0, 1, 2, 94, 95] [] [.l (.fld (.sl 0) 0) (.mat 36 32 (.leaf 3)), .l (.fld (.sl 0) 1) (.own 32 (.leaf 3))] (.f (.n (.f (.f (.j [0, 1, 2, 10, 94, 95] [] [.s 114 (.dat .bool)] .no))))))))))))))))))) Tryz.func126 [(147, Tryz.f147, .sel 1 (.n (.f (.n (.f (.l [0, 1, 2, 3, 8, 15] [] [.s 16 (.dat (.int .i64)), .l (.fld (.sl 0) 0) (.agg (.mat 36 32 (.leaf 3)))] 0 [0, 1, 2, 3, 8] [] [.l (.fld (.sl 0) 0) (.agg (.mat 36 32 (.leaf 3)))] .no))))) (.n (.f (.n (.f (.l [0, 1, 2, 3, 8, 15] [] [.s 16 (.dat (.int .i64)), .l (.sl 1) (.own 32 (.leaf 3))] 0 [0, 1, 2, 3, 8] [] [.l (.sl 1) (.own 32 (.leaf 3))] .no))))))] (λ_ _ => by kernel_rfl) ⟨Z8j, Zpf, Zng, ZIg, ZFe, Zoh, Zqg, tr⟩ tr ⟨ZEp, ZHo, Zts, Z5f, ZUp, ZJr, tr⟩ ⟨⟨Tryz.func147, λ_ _ => by kernel_rfl⟩, tr⟩
noncomputable def ZFs:FuncId×ConB:=(131,⟨189,(.agg (.cons (.mat 36 32 (.leaf 3)) (.cons (.own 32 (.leaf 3)) (.cons (.own 32 (.leaf 3)) (.cons (.dat (.leaf 3)) (.cons (.own 3 (.int .i64)) (.one (.own 3 (.int .i64))))))))),[],[.int .i64],λz x=>ZVg z⟩)
theorem Zqt : KB ZFs := Zmg (C := cf0 [ZTc] [] [] [((32, "Sign"), 15)]) (.n (.n (.f (.n (.f (.l [0, 9, 10] [] [.s 3 (.dat (.int .i64)), .s 11 (.dat (.int .i64))] 0 [] [] [.s 3 (.dat (.int .i64))] (.f (.n (.n (.f (.f (.n (.two (.j [0, 3, 4, 9, 10, 11] [] [.s 40 (.dat .bool)] .no) (.j [0, 9, 10, 11] [] [.s 3 (.dat (.int .i64))] .no)))))))))))))) Tryz.func131 [] (λ_ _ => by kernel_rfl) ⟨Z2c, tr⟩ tr ⟨Zjj, tr⟩
noncomputable def Zmr:FuncId×ConB:=(132,⟨189,(.agg (.cons (.mat 36 32 (.leaf 3)) (.cons (.own 32 (.leaf 3)) (.cons (.own 32 (.leaf 3)) (.cons (.dat (.leaf 3)) (.cons (.own 3 (.int .i64)) (.one (.own 3 (.int .i64))))))))),[.int .i64,.int .i64],[.int .i64],λz x=>ZKg z x.1 x.2⟩)
theorem ZFt : KB Zmr := Zmg (C := cf0 [ZOe, ZTc, Znf] [] [] [((32, "Cmp"), 13), ((32, "Div"), 21), ((32, "Sign"), 15)]) (.n (.n (.n (.f (.n (.f (.l [0, 1, 2, 8, 17] [] [.s 7 (.dat (.int .i64)), .s 18 (.dat (.int .i64)), .l (.sl 8) (.box 32 (.dat (.leaf 3)))] 0 [] [] [.s 7 (.dat (.int .i64))] (.f (.n (.n (.f (.j [0, 1, 2, 8, 17, 18] [] [.s 7 (.dat (.int .i64)), .l (.sl 8) (.box 32 (.dat (.leaf 3)))] (.f (.n (.n (.n (.n (.two (.n (.j [0, 1, 2, 7, 8, 9, 10, 17, 18] [] [.s 12 (.dat (.int .i64))] .no)) (.two (.j [0, 1, 2, 7, 8, 9, 10, 17, 18] [] [.s 110 (.dat .bool)] .no) (.j [0, 1, 2, 8, 17, 18] [] [.s 7 (.dat (.int .i64)), .l (.sl 8) (.box 32 (.dat (.leaf 3)))] .no)))))))))))))))))))) Tryz.func132 [] (λ_ _ => by kernel_rfl) ⟨Z0f, Z2c, ZIg, tr⟩ tr ⟨ZPn, ZHo, Zjj, tr⟩
noncomputable def Zom:FuncId×ConB:=(106,⟨189,(.agg (.cons (.mat 36 32 (.leaf 3)) (.cons (.own 32 (.leaf 3)) (.cons (.own 32 (.leaf 3)) (.cons (.dat (.leaf 3)) (.cons (.own 3 (.int .i64)) (.one (.own 3 (.int .i64))))))))),[.int .i64],[.int .i64],λz x=>ZBh z x⟩)
theorem Zyq:KB Zom:=Zmg (C:=cf1 [] [] [] [] [] [Z9l,ZFs,Zmr] []) (.n (.f (.cut ⟨⟨[0,1],[.fld (.sl 0) 0,.fld (.sl 0) 1,.fld (.sl 0) 2,.fld (.sl 0) 6,.fld (.sl 0) 7],[.l (.sl 0) (.box 189 (.agg (.cons (.mat 36 32 (.leaf 3)) (.cons (.own 32 (.leaf 3)) (.cons (.own 32 (.leaf 3)) (.cons (.dat (.leaf 3)) (.cons (.own 3 (.int .i64)) (.one (.own 3 (.int .i64))))))))))]⟩,[(.ret,⟨[],[.fld (.sl 0) 0,.fld (.sl 0) 1,.fld (.sl 0) 2,.fld (.sl 0) 6,.fld (.sl 0) 7],[.s 1000 (.dat (.int .i64)),.l (.sl 0) (.box 189 (.agg (.cons (.mat 36 32 (.leaf 3)) (.cons (.own 32 (.leaf 3)) (.cons (.own 32 (.leaf 3)) (.cons (.dat (.leaf 3)) (.cons (.own 3 (.int .i64)) (.one (.own 3 (.int .i64))))))))))]⟩)]⟩ .no))) Tryz.func106 [] (λ_ _=>by kernel_rfl) tr tr tr tr tr ⟨ZBp,Zqt,ZFt,tr⟩
noncomputable def ZQp:FuncId×ConB:=(108,⟨189,(.agg (.cons (.mat 36 32 (.leaf 3)) (.cons (.own 32 (.leaf 3)) (.cons (.own 32 (.leaf 3)) (.cons (.dat (.leaf 3)) (.cons (.own 3 (.int .i64)) (.one (.own 3 (.int .i64))))))))),[.int .i64,.int .i64],[.slice (.leaf 3)],λz x=>Zrk z x.1 x.2⟩)
theorem Z1w : KB ZQp := Zmg (C := cf0 [Zte, ZWf] [] [ZSg] [((32, "Neg"), 38)]) (.n (.n (.f (.n (.f (.l [0, 1, 2, 7, 15, 16] [] [.s 17 (.dat (.int .i64)), .l (.sl 7) (.own 32 (.leaf 3))] 0 [7] [] [.l (.sl 7) (.own 32 (.leaf 3))] (.f (.n (.n (.f (.f (.n (.two (.j [0, 1, 2, 7, 8, 9, 15, 16, 17] [] [.s 31 (.dat .bool)] .no) (.j [0, 1, 2, 7, 15, 16, 17] [] [.l (.sl 7) (.own 32 (.leaf 3))] .no)))))))))))))) Tryz.func108 [(81, Tryz.f81, .no)] (λ_ _ => by kernel_rfl) ⟨ZFe, Zqg, tr⟩ ⟨ZSi, tr⟩ ⟨Z5f, tr⟩ ⟨⟨Tryz.func81, λ_ _ => by kernel_rfl⟩, tr⟩
end Go.Eng
namespace Go.Eng
open Go.RowKit
section
variable {P:Program} {K:Nat} {w0:Base} {v0:Zb} {σ:List (Nat×Value)} {ℓ:List Loc} {v:Zb} {a:Act} {w:World}
variable {d:Option Nat} {ty:TypeId} {pos:String} {aft:Array Edge} {g:Option (Nat×Bool)}
theorem ZTs (hS:St K w0 v0 σ ℓ v a w) {t e:TypeId} {sz b n cap p q m:Nat} {x lo hi mx:Operand} {k k2 k3:IntKind} (ht:ZNb P t e sz) (e1:ev σ x=some (.slice (some ⟨b,0,none⟩) n cap)) (e2:ev σ lo=some (.int k (p:Int))) (e3:ev σ hi=some (.int k2 (q:Int))) (e4:ev σ mx=some (.int k3 (m:Int))) (h1:p≤q) (h2:q≤m) (h3:m≤cap) :
  ∃ y,(execOp a.eval ⟨d,.slice t x (some lo) (some hi) (some mx),ty,pos,aft,g⟩).run P w = .ok (.value y) w:=by
 have h4:(0:Int)≤(p:Int)∧(p:Int)≤(q:Int):=by omega
 have h5:(0:Int)≤(q:Int)∧(q:Int)≤(m:Int):=by omega
 have h6:(0:Int)≤(m:Int)∧(m:Int)≤(cap:Int):=by omega
 exact⟨.slice (if m=p then some ⟨b,0,none⟩ else some (Addr.add ⟨b,0,none⟩ (p*sz))) (q-p) (m-p),by simp[execOp,Instr.sliceAt,Instr.slice,Instr.sliceBounds,Instr.sliceBound,asIntOf,hS.eval e1,hS.eval e2,hS.eval e3,hS.eval e4,ht.1,ht.2,h1,h2,h3,h4,h5,h6]⟩
theorem ZDs (hS:St K w0 v0 σ ℓ v a w) {t e:TypeId} {sz b n cap p q:Nat} {x lo hi:Operand} {k k2:IntKind} (ht:ZNb P t e sz) (e1:ev σ x=some (.slice (some ⟨b,0,none⟩) n cap)) (e2:ev σ lo=some (.int k (p:Int))) (e3:ev σ hi=some (.int k2 (q:Int))) (h1:p≤q) (h2:q≤cap) (hc:p<cap) :
  (execOp a.eval ⟨d,.slice t x (some lo) (some hi) none,ty,pos,aft,g⟩).run P w = .ok (.value (.slice (some ⟨b,p*sz,none⟩) (q-p) (cap-p))) w:=by
 have h4:(0:Int)≤(p:Int)∧(p:Int)≤(q:Int):=by omega
 have h5:(0:Int)≤(q:Int)∧(q:Int)≤(cap:Int):=by omega
 have h6:¬ cap=p:=by omega
 simp[execOp,Instr.sliceAt,Instr.slice,Instr.sliceBounds,Instr.sliceBound,asIntOf,hS.eval e1,hS.eval e2,hS.eval e3,ht.1,ht.2,h1,h2,h4,h5,h6,ZIa]
theorem ZMs {t e ty:TypeId} {sz bytes:Nat} {z:Value} (E:Elem P t e sz bytes z) (hS:St K w0 v0 σ ℓ v a w) {i n cap b:Nat} {cs:List Value} (hi:ℓ[i]? = some (.own (some b) e sz n cap cs))
  {q m c:Nat} {ad:Addr} {news:List Value} (hl:news.length=m*sz) (hnews:∀ j u,news[j]? = some u→w.cell? (ad.add j)=some u) (hp:news.all plain=true) (hq:q+m≤n) :
  ∃ w',(Builtin.append_ #[t,t] ty #[.slice (some ⟨b,0,none⟩) q cap,.slice (some ad) m c]).run P w = .ok (.slice (some ⟨b,0,none⟩) (q+m) cap) w' ∧
   St K w0 v0 σ (ℓ.set i (.own (some b) e sz n cap (cs.take (q*sz)++news++cs.drop (q*sz+news.length)))) v a w':=by
 obtain⟨inf,hinf,hz,hs,hby⟩:=info_parts E.info;subst hs;obtain⟨hcl,cur,hg,hnc,hcx,hcs,htake⟩:=(hS.loc _ (mG hi)).1;have h1:q*inf.size+news.length≤n*inf.size:=by rw[hl,← Nat.add_mul];exact mRq _ hq
 have h2:n*inf.size≤cap*inf.size:=mRq _ hnc;have hcl2:cur.toList.length=cap*inf.size:=by simpa using hcs
 have hr:=run_append_room (P:=P) w t ty e inf E.ty hinf b q cap cur hg ad m c news hl hnews (ZAk hp) (by omega) (by omega);refine⟨_,hr,hS.setRow hi rfl rfl ⟨?_,_,setRow_heap w b cur _ e _ hg,hnc,hcx,?_,?_⟩⟩
 ·simp;omega
 ·simp;omega
 ·show List.take (n*inf.size) (_++_++_)=_;rw[Zfk _ _ _ _ h1 (by omega),htake]
theorem ZLp {t e ty:TypeId} {sz bytes:Nat} {z:Value} (E:Elem P t e sz bytes z) (hS:St K w0 v0 σ ℓ v a w) {i n cap b:Nat} {cs:List Value} (hi:ℓ[i]? = some (.own (some b) e sz n cap cs)) {p c:Nat} (hp:p+1≤n) (hz1:∀ x ∈ (Builtin.zeroCells z.cells 1).toList,x.oneCell'=true) :
  ∃ w' zc,zc.length=sz∧(∀ ty,(Builtin.clear_ #[t] ty #[.slice (some ⟨b,p*sz,none⟩) 1 c]).run P w = .ok (.tuple #[]) w') ∧
   St K w0 v0 σ (ℓ.set i (.own (some b) e sz n cap (cs.take (p*sz)++zc++cs.drop (p*sz+zc.length)))) v a w':=by
 obtain⟨inf,hinf,hz,hs,hby⟩:=info_parts E.info;obtain⟨hcl,cur,hg,hnc,hcx,hcs,htake⟩:=(hS.loc _ (mG hi)).1;have hzl:(Builtin.zeroCells z.cells 1).toList.length=sz:=by
  have:=size_zeroCells z.cells 1;rw[E.cells]at this
  simpa using this
 have h1:p*sz+sz≤n*sz:=by
  have:=mRq sz hp;rw[Nat.add_mul,Nat.one_mul]at this;exact this
 have h2:n*sz≤cap*sz:=mRq _ hnc;have hcl2:cur.toList.length=cap*sz:=by simpa using hcs
 have hst:=run_storeCells_at P b (p*sz) e (Builtin.zeroCells z.cells 1).toList 0 cur w hg (by rw[hzl];omega) hz1;have hzv:∀ w:World,(zeroValue e).run P w = .ok z w:=λw=>by simp[zeroValue,typeInfo,hinf,hz]
 refine⟨_,(Builtin.zeroCells z.cells 1).toList,hzl,λty=>?_,hS.setRow hi rfl rfl (c:=(cur.toList.take (p*sz)++(Builtin.zeroCells z.cells 1).toList++cur.toList.drop (p*sz+(Builtin.zeroCells z.cells 1).toList.length)).toArray) ⟨?_,_,setRow_heap w b cur _ e _ hg,hnc,hcx,?_,?_⟩⟩
 ·simp at hst;simp[Builtin.clear_,run_underlying E.ty,hzv,hst]
 ·simp at hzl ⊢;omega
 ·simp at hzl ⊢;omega
 ·show List.take (n*sz) (_++_++_)=_;rw[Zfk _ _ _ _ (by rw[hzl];exact h1) (by omega),htake]
theorem ZWn (hS:St K w0 v0 σ ℓ v a w) {t:TypeId} {x:Operand} {p r:Value} {w':World} (e:ev σ x=some p) (h:(Builtin.clear_ #[t] ty #[p]).run P w = .ok r w') :
  (execOp a.eval ⟨d,.call ⟨.builtin .clear,#[x],#[t]⟩,ty,pos,aft,g⟩).run P w = .ok (.value r) w':=by
 simp[execOp,resolve,invoke,builtin,hS.eval e,h]
theorem ZLs {ops:Array Oper} {Q:Exit→Act→World→Prop} {rest:List Oper} {o:Oper} {x:Value} {w':World} (hw:Region.wanted o (yielded ops a.tmps)=true) (hd:o.dst=none) (hrun:(execOp a.eval o).run P w = .ok (.value x) w') (h:wpList P ops Q rest a w'):wpList P ops Q (o :: rest) a w :=
 ZDc hw (Zge hrun (by rw[hd];exact h))
theorem St.narrow (h:St K w0 v0 σ ℓ v a w) {i b n m cap sz:Nat} {T:TypeId} {cs:List Value} (hi:ℓ[i]? = some (.own (some b) T sz n cap cs)) (hm:m≤n):St K w0 v0 σ (ℓ.set i (.own (some b) T sz m cap (cs.take (m*sz)))) v a w:=by
 obtain⟨hcl,cur,hg,hnc,hcx,hcs,htake⟩:=(h.loc _ (mG hi)).1;have h1:m*sz≤n*sz:=mRq _ hm;refine h.setSame hi rfl ⟨?_,cur,hg,by omega,hcx,hcs,?_⟩
 ·rw[List.length_take];omega
 ·rw[← htake,List.take_take,Nat.min_eq_left h1]
end
theorem Z6q {cs zc:List Value} {sz i n:Nat} (hc:cs.length=n*sz) (hi:i<n) (hz:zc.length=sz) :
  (((cs.take (i*sz)++cs.drop ((i+1)*sz)++cs.drop (i*sz+(cs.drop ((i+1)*sz)).length)).take ((n-1)*sz)++zc++(cs.take (i*sz)++cs.drop ((i+1)*sz)++cs.drop (i*sz+(cs.drop ((i+1)*sz)).length)).drop ((n-1)*sz+zc.length)).take ((n-1)*sz))=cs.take (i*sz)++cs.drop ((i+1)*sz):=by
 have h1:i*sz≤n*sz:=mRq _ (by omega);have h2:(i+1)*sz≤n*sz:=mRq _ (by omega);have h3:(i+1)*sz=i*sz+sz:=by rw[Nat.add_mul,Nat.one_mul]
 have h4:(n-1)*sz=n*sz-sz:=by rw[Nat.sub_mul,Nat.one_mul]
 have hl:(cs.take (i*sz)++cs.drop ((i+1)*sz)).length=(n-1)*sz:=by
  rw[lA,List.length_take,List.length_drop];omega
 rw[aAq (List.take _ _) zc,List.take_append_of_le_length (by rw[List.length_take,lA,hl];omega),List.take_take,Nat.min_self,List.take_append_of_le_length (by rw[hl];omega),List.take_of_length_le (by rw[hl];omega)]
end Go.Eng
namespace Go.Eng
open Go.Proofs Go.RowKit
theorem Z7q:Elem Tryz.prog 76 3 ((Zc .i64)).n 8 (Value.int IntKind.i64 0):=⟨Tryz.underlying76,by kernel_rfl,rfl,by decide⟩
theorem ZGf:ZNb Tryz.prog 76 3 ((Zc .i64)).n:=⟨λ_=>by kernel_rfl,λ_=>by kernel_rfl⟩
theorem ZAw:Tryz.prog.follows .mixedOrders=true:=by kernel_rfl
noncomputable def Z4m:FuncId×ConD:=(129,⟨3,.int .i64,λl i j=>Zjd l i j⟩)
theorem Z4s:Zug Tryz.prog Z4m.1 Z4m.2:=λw v ob n cap cs l i0 j0 z hv hh hnv hA hn hi hj hz=>by
 have hz:Zjd (show List Int from l) i0 j0=some z:=hz
 obtain⟨i,rfl,rfl,hin,rfl⟩:=Z4o hz
 have hA:((Zc .i64)).rels v cs (show List Int from l):=hA
 have hin:i<n:=by rw[hn];exact hin
 have hcs:cs.length=n*((Zc .i64)).n:=by rw[hn];exact Zkd hA
 refine⟨λ_ _=>by kernel_rfl,?_⟩
 refine Zqq (K:=33) (args:=[.slice (mkA ob) n cap,.int .i64 (i:Int),.int .i64 ((i+1:Nat):Int)]) hv hh hnv Tryz.func129 rfl rfl zl λfa hS=>?_
 obtain⟨b,rfl⟩:=Z8c hS (j:=0) rfl (by omega)
 obtain⟨_,cur,hg,hnc,hcx,hcu,htk⟩:=(hS.loc _ (mG (i:=0) rfl)).1
 unfold maxLen at hcx
 refine sr ?_
 refine mw hS rfl λfa hS=>?_
 refine oe ?_
 refine sr ?_
 refine mv hS rfl λfa hS=>?_
 refine mv hS rfl λfa hS=>?_
 refine mv hS rfl λfa hS=>?_
 refine mv hS rfl λfa hS=>?_
 refine ov hS rfl (Z1b hS rfl rfl ZGf) λfa hS=>?_
 have h3 := @ZTs _ _ _ _ _ _ _ _ _ (some 13) 76 "" #[] none hS 76 3 ((Zc .i64)).n b n cap i (i + 1) n (.tmp 8) (.tmp 9) (.tmp 10) (.tmp 12) .i64 .i64 .i64 ZGf rfl rfl rfl rfl (by omega) (by omega) hnc
 obtain⟨y3,h3⟩:=h3
 refine ov hS rfl h3 λfa hS=>?_
 refine oe ?_
 refine wp_seq_k λN1 hN1=>?_
 refine sr ?_
 refine mv hS rfl λfa hS=>?_
 refine mv hS rfl λfa hS=>?_
 refine ov hS rfl (Zr hS rfl rfl Z1f) λfa hS=>?_
 refine oe ?_
 refine ZX hS rfl (by simp only[beq_eq_false_iff_ne,ne_eq];omega) ?_
 refine wp_skip ?_
 refine Zh (hN1 _ _ ?_)
 refine sr ?_
 refine mv hS rfl λfa hS=>?_
 refine ov hS rfl (Z1b hS rfl rfl ZGf) λfa hS=>?_
 refine mw hS rfl λfa hS=>?_
 refine oe ?_
 refine wp_seq_k λN2 hN2=>?_
 refine Z1e (fl:=#[true,true,true,true,true,true,false,false]) ZAw (by kernel_rfl) hS ?_
 intro ops hops hF wo hS
 refine rf hops hF 0 rfl (by kernel_rfl) rfl hS (ZH hS rfl) λfa hS=>?_
 refine rf hops hF 1 rfl (by kernel_rfl) rfl hS (ZH hS rfl) λfa hS=>?_
 refine rf hops hF 2 rfl (by kernel_rfl) rfl hS (Znm hS ZGf rfl rfl (by omega) (by omega)) λfa hS=>?_
 refine rf hops hF 3 rfl (by kernel_rfl) rfl hS (ZH hS rfl) λfa hS=>?_
 refine rf hops hF 4 rfl (by kernel_rfl) rfl hS (ZH hS rfl) λfa hS=>?_
 obtain⟨ad,had,hsrc⟩:∃ ad:Addr,(if cap=i+1 then mkA (some b) else (mkA (some b)).map (·.add ((i+1)*((Zc .i64)).n)))=some ad∧∀ j u,(cs.drop ((i+1)*((Zc .i64)).n))[j]? = some u→wo.cell? (ad.add j)=some u:=by
  by_cases h:cap=i+1
  ·refine⟨⟨b,0,none⟩,by rw[iP h];rfl,λj u hu=>?_⟩;have:cs.drop ((i+1)*((Zc .i64)).n)=[]:=List.drop_eq_nil_of_le (by rw[hcs];exact mRq _ (by omega));rw[this]at hu;simp at hu
  ·refine⟨(⟨b,0,none⟩:Addr).add ((i+1)*((Zc .i64)).n),by rw[iN h];rfl,λj u hu=>?_⟩;have:=ZQg hS (j:=0) rfl ((i+1)*((Zc .i64)).n+j) u (by rw[List.getElem?_drop]at hu;exact hu);rw[show ((⟨b,0,none⟩:Addr).add ((i+1)*((Zc .i64)).n)).add j=(⟨b,0,none⟩:Addr).add ((i+1)*((Zc .i64)).n+j) by simp only[ZIa,Nat.add_assoc]];exact this
 refine rf hops hF 5 rfl (by kernel_rfl) rfl hS (Zjs hS ZGf rfl rfl (by omega)) λfa hS=>?_;rw[had]at hS;have hdl:(cs.drop ((i+1)*((Zc .i64)).n)).length=(n-(i+1))*((Zc .i64)).n:=by rw[List.length_drop,hcs,Nat.sub_mul]
 obtain⟨wo',hr,hS'⟩:=ZMs (t:=76) (ty:=76) Z7q hS (i:=0) rfl (q:=i) (m:=n-(i+1)) (c:=cap-(i+1)) (ad:=ad) (news:=cs.drop ((i+1)*((Zc .i64)).n)) hdl hsrc (by rw[List.all_eq_true];intro y hy;exact List.all_eq_true.1 (ZBg hA) y (List.mem_of_mem_drop hy)) (by omega);rw[show i+(n-(i+1))=n-1 by omega]at hr;refine Z0e hops hF 6 (by kernel_rfl) ?_;refine ZNm [2,5,0,1,3,4] [] hops rfl (by kernel_rfl) wn rfl zl (ZWp hS rfl rfl hr) hS' λfa hS=>?_;refine⟨ZOa,?_⟩;refine Z0e hops hF 7 (by kernel_rfl) ?_;refine nv [0,1,2,3,4,5,6] [] hops rfl (by kernel_rfl) rfl hS (ZJc hS rfl) λfa hS=>?_;refine⟨ZOa,?_⟩;refine Zsk hops hF (by kernel_rfl) ?_;refine Zh (hN2 _ _ ?_);refine sr ?_;refine mv hS rfl λfa hS=>?_;refine mv hS rfl λfa hS=>?_;refine ov hS rfl (Z1b hS rfl rfl ZGf) λfa hS=>?_;refine mv hS rfl λfa hS=>?_;refine ov hS rfl (ZDs hS ZGf rfl rfl rfl (by omega) (by omega) (by omega)) λfa hS=>?_;obtain⟨wo2,zc,hzl,hr,hS'⟩:=ZLp (t:=76) (ty:=76) Z7q hS (i:=0) rfl (p:=n-1) (c:=cap-(n-1)) (by omega) (List.all_eq_true.1 (by kernel_rfl));have hn1:n-(n-1)=1:=by omega
 rw[hn1]at hS hS';refine ZLs wn rfl (ZWn hS rfl (hr _)) ?_;refine oe ?_;have hS:=hS'.narrow (i:=0) rfl (m:=n-1) (by omega);refine sr ?_;refine mv hS rfl λfa hS=>?_;refine mw hS rfl λfa hS=>?_;refine oe ?_;refine wp_ret ?_;refine ZIq hS (i:=0) rfl (ZMa rfl (ZL hS rfl)) ?_ (show n-1=(List.take i l++List.drop (i+1) l).length by rw[lA,List.length_take,List.length_drop,← hn];omega);rw[Z6q hcs hin hzl];exact Zgc (ZZf i (ZR hS.vst.le hA)) (ZDe (i+1) (ZR hS.vst.le hA))
theorem Zeq:Elem Tryz.prog 36 32 (ZP).n 56 (Value.agg #[Value.bool false,Value.slice none 0 0,Value.slice none 0 0]):=⟨Tryz.underlying36,by kernel_rfl,rfl,by decide⟩
theorem ZHf:ZNb Tryz.prog 36 32 (ZP).n:=⟨λ_=>by kernel_rfl,λ_=>by kernel_rfl⟩
theorem Zqw:Tryz.prog.follows .mixedOrders=true:=by kernel_rfl
noncomputable def Zln:FuncId×ConD:=(130,⟨32,.leaf 3,λl i j=>Zjd l i j⟩)
theorem Zou:Zug Tryz.prog Zln.1 Zln.2:=λw v ob n cap cs l i0 j0 z hv hh hnv hA hn hi hj hz=>by
 have hz:Zjd (show List Rat from l) i0 j0=some z:=hz
 obtain⟨i,rfl,rfl,hin,rfl⟩:=Z4o hz
 have hA:(ZP).rels v cs (show List Rat from l):=hA
 have hin:i<n:=by rw[hn];exact hin
 have hcs:cs.length=n*(ZP).n:=by rw[hn];exact Zkd hA
 refine⟨λ_ _=>by kernel_rfl,?_⟩
 refine Zqq (K:=33) (args:=[.slice (mkA ob) n cap,.int .i64 (i:Int),.int .i64 ((i+1:Nat):Int)]) hv hh hnv Tryz.func130 rfl rfl zl λfa hS=>?_
 obtain⟨b,rfl⟩:=Z8c hS (j:=0) rfl (by omega)
 obtain⟨_,cur,hg,hnc,hcx,hcu,htk⟩:=(hS.loc _ (mG (i:=0) rfl)).1
 unfold maxLen at hcx
 refine sr ?_
 refine mw hS rfl λfa hS=>?_
 refine oe ?_
 refine sr ?_
 refine mv hS rfl λfa hS=>?_
 refine mv hS rfl λfa hS=>?_
 refine mv hS rfl λfa hS=>?_
 refine mv hS rfl λfa hS=>?_
 refine ov hS rfl (Z1b hS rfl rfl ZHf) λfa hS=>?_
 have h3 := @ZTs _ _ _ _ _ _ _ _ _ (some 13) 36 "" #[] none hS 36 32 (ZP).n b n cap i (i + 1) n (.tmp 8) (.tmp 9) (.tmp 10) (.tmp 12) .i64 .i64 .i64 ZHf rfl rfl rfl rfl (by omega) (by omega) hnc
 obtain⟨y3,h3⟩:=h3
 refine ov hS rfl h3 λfa hS=>?_
 refine oe ?_
 refine wp_seq_k λN1 hN1=>?_
 refine sr ?_
 refine mv hS rfl λfa hS=>?_
 refine mv hS rfl λfa hS=>?_
 refine ov hS rfl (Zr hS rfl rfl Z1f) λfa hS=>?_
 refine oe ?_
 refine ZX hS rfl (by simp only[beq_eq_false_iff_ne,ne_eq];omega) ?_
 refine wp_skip ?_
 refine Zh (hN1 _ _ ?_)
 refine sr ?_
 refine mv hS rfl λfa hS=>?_
 refine ov hS rfl (Z1b hS rfl rfl ZHf) λfa hS=>?_
 refine mw hS rfl λfa hS=>?_
 refine oe ?_
 refine wp_seq_k λN2 hN2=>?_
 refine Z1e (fl:=#[true,true,true,true,true,true,false,false]) Zqw (by kernel_rfl) hS ?_
 intro ops hops hF wo hS
 refine rf hops hF 0 rfl (by kernel_rfl) rfl hS (ZH hS rfl) λfa hS=>?_
 refine rf hops hF 1 rfl (by kernel_rfl) rfl hS (ZH hS rfl) λfa hS=>?_
 refine rf hops hF 2 rfl (by kernel_rfl) rfl hS (Znm hS ZHf rfl rfl (by omega) (by omega)) λfa hS=>?_
 refine rf hops hF 3 rfl (by kernel_rfl) rfl hS (ZH hS rfl) λfa hS=>?_
 refine rf hops hF 4 rfl (by kernel_rfl) rfl hS (ZH hS rfl) λfa hS=>?_
 obtain⟨ad,had,hsrc⟩:∃ ad:Addr,(if cap=i+1 then mkA (some b) else (mkA (some b)).map (·.add ((i+1)*(ZP).n)))=some ad∧∀ j u,(cs.drop ((i+1)*(ZP).n))[j]? = some u→wo.cell? (ad.add j)=some u:=by
  by_cases h:cap=i+1
  ·refine⟨⟨b,0,none⟩,by rw[iP h];rfl,λj u hu=>?_⟩;have:cs.drop ((i+1)*(ZP).n)=[]:=List.drop_eq_nil_of_le (by rw[hcs];exact mRq _ (by omega));rw[this]at hu;simp at hu
  ·refine⟨(⟨b,0,none⟩:Addr).add ((i+1)*(ZP).n),by rw[iN h];rfl,λj u hu=>?_⟩;have:=ZQg hS (j:=0) rfl ((i+1)*(ZP).n+j) u (by rw[List.getElem?_drop]at hu;exact hu);rw[show ((⟨b,0,none⟩:Addr).add ((i+1)*(ZP).n)).add j=(⟨b,0,none⟩:Addr).add ((i+1)*(ZP).n+j) by simp only[ZIa,Nat.add_assoc]];exact this
 refine rf hops hF 5 rfl (by kernel_rfl) rfl hS (Zjs hS ZHf rfl rfl (by omega)) λfa hS=>?_;rw[had]at hS;have hdl:(cs.drop ((i+1)*(ZP).n)).length=(n-(i+1))*(ZP).n:=by rw[List.length_drop,hcs,Nat.sub_mul]
 obtain⟨wo',hr,hS'⟩:=ZMs (t:=36) (ty:=36) Zeq hS (i:=0) rfl (q:=i) (m:=n-(i+1)) (c:=cap-(i+1)) (ad:=ad) (news:=cs.drop ((i+1)*(ZP).n)) hdl hsrc (by rw[List.all_eq_true];intro y hy;exact List.all_eq_true.1 (ZBg hA) y (List.mem_of_mem_drop hy)) (by omega);rw[show i+(n-(i+1))=n-1 by omega]at hr;refine Z0e hops hF 6 (by kernel_rfl) ?_;refine ZNm [2,5,0,1,3,4] [] hops rfl (by kernel_rfl) wn rfl zl (ZWp hS rfl rfl hr) hS' λfa hS=>?_;refine⟨ZOa,?_⟩;refine Z0e hops hF 7 (by kernel_rfl) ?_;refine nv [0,1,2,3,4,5,6] [] hops rfl (by kernel_rfl) rfl hS (ZJc hS rfl) λfa hS=>?_;refine⟨ZOa,?_⟩;refine Zsk hops hF (by kernel_rfl) ?_;refine Zh (hN2 _ _ ?_);refine sr ?_;refine mv hS rfl λfa hS=>?_;refine mv hS rfl λfa hS=>?_;refine ov hS rfl (Z1b hS rfl rfl ZHf) λfa hS=>?_;refine mv hS rfl λfa hS=>?_;refine ov hS rfl (ZDs hS ZHf rfl rfl rfl (by omega) (by omega) (by omega)) λfa hS=>?_;obtain⟨wo2,zc,hzl,hr,hS'⟩:=ZLp (t:=36) (ty:=36) Zeq hS (i:=0) rfl (p:=n-1) (c:=cap-(n-1)) (by omega) (List.all_eq_true.1 (by kernel_rfl));have hn1:n-(n-1)=1:=by omega
 rw[hn1]at hS hS';refine ZLs wn rfl (ZWn hS rfl (hr _)) ?_;refine oe ?_;have hS:=hS'.narrow (i:=0) rfl (m:=n-1) (by omega);refine sr ?_;refine mv hS rfl λfa hS=>?_;refine mw hS rfl λfa hS=>?_;refine oe ?_;refine wp_ret ?_;refine ZIq hS (i:=0) rfl (ZMa rfl (ZL hS rfl)) ?_ (show n-1=(List.take i l++List.drop (i+1) l).length by rw[lA,List.length_take,List.length_drop,← hn];omega);rw[Z6q hcs hin hzl];exact Zgc (ZZf i (ZR hS.vst.le hA)) (ZDe (i+1) (ZR hS.vst.le hA))
noncomputable def Z2n:FuncId×ConB:=(105,⟨189,(.agg (.cons (.mat 36 32 (.leaf 3)) (.cons (.own 32 (.leaf 3)) (.cons (.own 32 (.leaf 3)) (.cons (.dat (.leaf 3)) (.cons (.own 3 (.int .i64)) (.one (.own 3 (.int .i64))))))))),[.pair (.slice (.slice (.leaf 3))) (.pair (.slice (.leaf 3)) (.slice (.leaf 3)))],[.slice (.leaf 3),.bool],λz x=>Zvj z x⟩)
theorem ZRx : KB Z2n := Zmg (C := cf1 [Z6h, Zye, ZOe, ZTc, Zyf, ZAg, ZWf] [100182] [ZSg] [((32, "Add"), 12), ((32, "Cmp"), 13), ((32, "Mul"), 66), ((32, "Sign"), 15), ((32, "Sub"), 16), ((32, "Zero"), 11)] [] [Zom, ZQp, Z9l] [Z4m, Zln]) (.n (.n (.n (.two (.n (.f (.l [0, 3, 6, 7, 8, 34, 35] [] [.s 9 (.dat (.int .i64)), .s 36 (.dat (.int .i64))] 0 [0, 3, 6, 7, 8] [] [.s 9 (.dat (.int .i64))] (.f (.n (.n (.f (.f (.n (.two (.j [0, 3, 6, 7, 8, 9, 10, 34, 35, 36] [] [.s 61 (.dat .bool)] .no) (.j [0, 3, 6, 7, 8, 34, 35, 36] [] [.s 9 (.dat (.int .i64))] .no))))))))))) (.n (.two (.n (.f (.l [0, 3, 6, 7, 8, 9, 70] [] [.s 71 (.dat (.int .i64)), .l (.sl 69) (.mat 36 32 (.leaf 3))] 2 [0, 3, 6, 7, 8, 9] [] [.l (.sl 69) (.mat 36 32 (.leaf 3))] .no))) (.n (.n (.n (.n (.n (.two (.n (.n (.j [0, 3, 8] [.fld (.sl 0) 0, .fld (.sl 0) 1, .fld (.sl 0) 2, .fld (.sl 0) 6, .fld (.sl 0) 7] [.l (.sl 0) (.box 189 (.agg (.cons (.mat 36 32 (.leaf 3)) (.cons (.own 32 (.leaf 3)) (.cons (.own 32 (.leaf 3)) (.cons (.dat (.leaf 3)) (.cons (.own 3 (.int .i64)) (.one (.own 3 (.int .i64))))))))))] .no))) (.n (.n (.two (.n (.f (.l [0, 3, 14, 167] [] [.s 168 (.dat (.int .i64)), .l (.sl 166) (.mat 36 32 (.leaf 3))] 4 [0, 3] [] [.l (.sl 166) (.mat 36 32 (.leaf 3))] .no))) (.n (.f (.n (.f (.l [0, 203, 204] [.fld (.sl 0) 0, .fld (.sl 0) 1, .fld (.sl 0) 6, .fld (.sl 0) 7, .fld (.sl 0) 2] [.s 205 (.dat (.int .i64)), .l (.sl 0) (.box 189 (.agg (.cons (.mat 36 32 (.leaf 3)) (.cons (.own 32 (.leaf 3)) (.cons (.own 32 (.leaf 3)) (.cons (.dat (.leaf 3)) (.cons (.own 3 (.int .i64)) (.one (.own 3 (.int .i64))))))))))] 6 [] [.fld (.sl 0) 0, .fld (.sl 0) 1, .fld (.sl 0) 6, .fld (.sl 0) 7, .fld (.sl 0) 2] [.l (.sl 0) (.box 189 (.agg (.cons (.mat 36 32 (.leaf 3)) (.cons (.own 32 (.leaf 3)) (.cons (.own 32 (.leaf 3)) (.cons (.dat (.leaf 3)) (.cons (.own 3 (.int .i64)) (.one (.own 3 (.int .i64))))))))))] (.f (.n (.n (.f (.j [0, 203, 204, 205] [.fld (.sl 0) 0, .fld (.sl 0) 1, .fld (.sl 0) 2, .fld (.sl 0) 6, .fld (.sl 0) 7] [.l (.sl 0) (.box 189 (.agg (.cons (.mat 36 32 (.leaf 3)) (.cons (.own 32 (.leaf 3)) (.cons (.own 32 (.leaf 3)) (.cons (.dat (.leaf 3)) (.cons (.own 3 (.int .i64)) (.one (.own 3 (.int .i64))))))))))] (.f (.n (.n (.n (.n (.n (.f (.l [0, 17, 203, 204, 205, 265, 266] [] [.s 267 (.dat (.int .i64)), .l (.fld (.sl 0) 2) (.own 32 (.leaf 3))] 8 [0, 203, 204, 205] [] [.l (.fld (.sl 0) 2) (.own 32 (.leaf 3))] .no))))))))))))))))))))))))))))))))) Tryz.func105 [(81, Tryz.f81, .no), (124, Tryz.f124, .r [] [] [.s 1000 (.dat (.int .i64))] (.n (.f (.n (.f (.cut ⟨⟨[0, 1, 7], [], [.s 8 (.dat (.int .i64))]⟩, [(.exit 0, ⟨[], [], []⟩), (.ret, ⟨[], [], [.s 1000 (.dat (.int .i64))]⟩)]⟩ .no)))))), (127, Tryz.f127, .r [] [] [.s 1000 (.dat (.int .i64))] (.n (.f (.n (.f (.cut ⟨⟨[0, 1, 7], [], [.s 8 (.dat (.int .i64))]⟩, [(.exit 0, ⟨[], [], []⟩), (.ret, ⟨[], [], [.s 1000 (.dat (.int .i64))]⟩)]⟩ .no)))))), (128, Tryz.f128, .no)] (λ_ _ => by kernel_rfl) ⟨Z8j, Zpf, Z0f, Z2c, Zng, Zoh, Zqg, tr⟩ ⟨ZSi, tr⟩ ⟨ZEp, ZPn, Zts, Zjj, ZUp, ZJr, tr⟩ ⟨⟨Tryz.func81, λ_ _ => by kernel_rfl⟩, ⟨Tryz.func124, λ_ _ => by kernel_rfl⟩, ⟨Tryz.func127, λ_ _ => by kernel_rfl⟩, ⟨Tryz.func128, λ_ _ => by kernel_rfl⟩, tr⟩ tr ⟨Zyq, Z1w, ZBp, tr⟩ ⟨Z4s, Zou, tr⟩
noncomputable def Zgs:FuncId×Con:=(83,⟨[.pair (.slice (.slice (.leaf 3))) (.pair (.slice (.leaf 3)) (.slice (.leaf 3)))],[.pair (.int .i64) (.pair (.leaf 3) (.pair (.slice (.leaf 3)) (.pair (.slice (.leaf 3)) (.slice (.leaf 3)))))],λp=>Zii p⟩)
theorem Zfx : KQ Zgs := ZE (ZHa (C := cf1 [Zte, ZWf, Zpo, ZOq] [] [Zxi, ZSg] [((32, "Neg"), 38)] [Z6r] [Z2n, Zom] []) (.n (.n (.n (.n (.n (.two (.j [2, 3, 4, 6] [] [.s 5 (.dat (.ptr (.pair (.slice (.slice (.leaf 3))) (.pair (.slice (.leaf 3)) (.pair (.slice (.leaf 3)) (.pair (.leaf 3) (.pair (.slice (.int .i64)) (.slice (.int .i64))))))))), .s 9 (.dat (.int .i64))] .no) (.n (.n (.two (.n (.n (.j [2, 3, 5, 6, 9, 10] [] [.l (.sl 10) (.own 32 (.leaf 3))] .no))) (.f (.n (.f (.l [2, 3, 5, 6, 9, 10, 69, 70] [] [.s 71 (.dat (.int .i64)), .l (.sl 10) (.own 32 (.leaf 3))] 0 [2, 3, 5, 6, 10] [] [.l (.sl 10) (.own 32 (.leaf 3))] (.f (.n (.n (.f (.f (.n (.n (.j [2, 3, 5, 6, 9, 10, 69, 70, 71] [] [.l (.sl 10) (.own 32 (.leaf 3))] .no))))))))))))))))))))) Tryz.func83 [(81, Tryz.f81, .no), (104, Tryz.f104, .n (.n (.two (.n (.f (.l [1, 3, 20] [.fld (.sl 3) 0, .fld (.sl 3) 1, .fld (.sl 3) 2] [.s 21 (.dat (.int .i64)), .l (.sl 3) (.box 189 (.agg (.cons (.mat 36 32 (.leaf 3)) (.cons (.own 32 (.leaf 3)) (.cons (.own 32 (.leaf 3)) (.cons (.dat (.leaf 3)) (.cons (.own 3 (.int .i64)) (.one (.own 3 (.int .i64))))))))))] 0 [1, 3] [.fld (.sl 3) 0, .fld (.sl 3) 1, .fld (.sl 3) 2] [.l (.sl 3) (.box 189 (.agg (.cons (.mat 36 32 (.leaf 3)) (.cons (.own 32 (.leaf 3)) (.cons (.own 32 (.leaf 3)) (.cons (.dat (.leaf 3)) (.cons (.own 3 (.int .i64)) (.one (.own 3 (.int .i64))))))))))] .no))) (.f (.n (.f (.l [1, 3, 37] [.fld (.sl 3) 0, .fld (.sl 3) 1, .fld (.sl 3) 2, .fld (.sl 3) 6, .fld (.sl 3) 7] [.s 38 (.dat (.int .i64)), .l (.sl 3) (.box 189 (.agg (.cons (.mat 36 32 (.leaf 3)) (.cons (.own 32 (.leaf 3)) (.cons (.own 32 (.leaf 3)) (.cons (.dat (.leaf 3)) (.cons (.own 3 (.int .i64)) (.one (.own 3 (.int .i64))))))))))] 2 [3] [.fld (.sl 3) 0, .fld (.sl 3) 1, .fld (.sl 3) 2, .fld (.sl 3) 6, .fld (.sl 3) 7] [.l (.sl 3) (.box 189 (.agg (.cons (.mat 36 32 (.leaf 3)) (.cons (.own 32 (.leaf 3)) (.cons (.own 32 (.leaf 3)) (.cons (.dat (.leaf 3)) (.cons (.own 3 (.int .i64)) (.one (.own 3 (.int .i64))))))))))] .no)))))))] (λ_ => by kernel_rfl) ⟨ZFe, Zqg, ZYt, Zct, tr⟩ ⟨Z2m, ZSi, tr⟩ ⟨Z5f, tr⟩ ⟨⟨Tryz.func81, λ_ _ => by kernel_rfl⟩, ⟨Tryz.func104, λ_ _ => by kernel_rfl⟩, tr⟩ ⟨Z9u, tr⟩ ⟨ZRx, Zyq, tr⟩)
noncomputable def Z4n:FuncId×Con:=(53,⟨[.slice (.slice (.leaf 3)),.slice (.leaf 3),.slice (.leaf 3)],[.pair (.leaf 3) (.pair (.slice (.leaf 3)) (.pair (.slice (.leaf 3)) (.slice (.leaf 3)))),.int .i64],λp=>ZYf p.1 p.2.1 p.2.2⟩)
theorem ZVu : KQ Z4n := ZE (ZHa (C := cf0 [Zte, ZPs, Z2p, Zoj, ZWf, Zgs] [] [Zxi, ZQs, Zmj] [((32, "Neg"), 38)]) (.n (.n (.n (.n (.n (.two (.n (.f (.l [0, 2, 6, 8, 9, 10, 40, 41] [.fld (.sl 10) 1, .fld (.sl 10) 2] [.s 42 (.dat (.int .i64)), .l (.sl 10) (.box 161 (.agg (.cons (.own 36 (.slice (.leaf 3))) (.cons (.own 32 (.leaf 3)) (.one (.own 32 (.leaf 3)))))))] 0 [0, 2, 6, 8, 9, 10] [.fld (.sl 10) 1, .fld (.sl 10) 2] [.l (.sl 10) (.box 161 (.agg (.cons (.own 36 (.slice (.leaf 3))) (.cons (.own 32 (.leaf 3)) (.one (.own 32 (.leaf 3)))))))] .no))) (.f (.n (.f (.l [2, 6, 8, 9, 10, 63, 64] [.fld (.sl 10) 0, .fld (.sl 10) 1, .fld (.sl 10) 2] [.s 65 (.dat (.int .i64)), .l (.sl 10) (.box 161 (.agg (.cons (.own 36 (.slice (.leaf 3))) (.cons (.own 32 (.leaf 3)) (.one (.own 32 (.leaf 3)))))))] 2 [6, 8, 9, 10] [.fld (.sl 10) 0, .fld (.sl 10) 1, .fld (.sl 10) 2] [.l (.sl 10) (.box 161 (.agg (.cons (.own 36 (.slice (.leaf 3))) (.cons (.own 32 (.leaf 3)) (.one (.own 32 (.leaf 3)))))))] .no)))))))))) Tryz.func53 [] (λ_ => by kernel_rfl) ⟨ZFe, ZFv, ZQw, ZMk, Zqg, Zfx, tr⟩ ⟨Z2m, Zqx, ZJk, tr⟩ ⟨Z5f, tr⟩)
noncomputable def ZJo:FuncId×Con:=(65,⟨[.leaf 3],[.leaf 3],λp=>Zvf p⟩)
theorem rsize_k:KQ ZJo:=ZE (ZHa (C:=cf0 [ZTc,Zte] [] [] []) .no Tryz.func65 [] (λ_=>by kernel_rfl) ⟨Z2c,ZFe,tr⟩)
noncomputable def ZNr:FuncId×ConP:=(8,⟨[.pair (.leaf 3) (.slice (.pair (.leaf 3) (.leaf 3))),.slice (.int .u8),.leaf 3],53,.pair (.leaf 3) (.pair (.leaf 3) (.pair (.leaf 3) (.leaf 3))),[.bool],λp=>Zok p.1 p.2.1 p.2.2⟩)
theorem ZIu:KPw ZNr:=conp_z (C:=cf0 [ZDj,Z3l] [] [] []) (.n (.n (.f (.n (.f (.cut ⟨⟨[3,5,15,16],[],[.s 8 (.own 53 (.pair (.leaf 3) (.pair (.leaf 3) (.pair (.leaf 3) (.leaf 3))))),.s 17 (.dat (.int .i64))]⟩,[(.exit 0,⟨[],[],[.s 8 (.own 53 (.pair (.leaf 3) (.pair (.leaf 3) (.pair (.leaf 3) (.leaf 3)))))]⟩),(.ret,⟨[],[],[.s 1000 (.own 53 (.pair (.leaf 3) (.pair (.leaf 3) (.pair (.leaf 3) (.leaf 3))))),.s 1001 (.dat .bool)]⟩)]⟩ .no)))))) Tryz.func8 [] (λ_=>by kernel_rfl) ⟨Z8l,Zto,tr⟩
noncomputable def ZAu:FuncId×Con:=(3,⟨[.pair (.int .u8) (.pair (.int .u8) (.pair (.int .u8) (.int .u8))),.int .u8,.slice (.int .u8),.pair (.int .i8) (.pair (.int .i8) (.pair (.int .i8) (.int .i8)))],[.bool],λp=>ZEk p.1 p.2.1 p.2.2.1 p.2.2.2⟩)
theorem Znu:KR ZAu:=ZHa (C:=cf3 [ZHq,ZHs,Zff,Z6h,Zye,ZOe,ZDj,ZTc,Zyf,Znf,Zqp,ZSk,Z4n,ZJo,ZAg] [200038,200165] [] [] [] [] [] [ZNr]) (.n (.two (.f (.j [1,2,4,7] [] [.s 32 (.dat .bool)] .no)) (.n (.n (.n (.two (.f (.j [7,9,10,11,13] [] [.s 64 (.dat .bool)] .no)) (.n (.two (.n (.f (.l [7,9,10,11,13,15,67,68] [] [.s 69 (.dat (.int .i64)),.l (.sl 15) (.box 32 (.dat (.leaf 3)))] 0 [7,9,10,11,13,15] [] [.l (.sl 15) (.box 32 (.dat (.leaf 3)))] .no))) (.two (.n (.f (.cut ⟨⟨[7,9,10,11,13,15,78,79],[],[.s 80 (.dat (.int .i64))]⟩,[(.exit 2,⟨[7,10,11,13],[],[]⟩),(.ret,⟨[],[],[.s 1000 (.dat .bool)]⟩)]⟩ (.f (.n (.n (.f (.f (.n (.two (.f (.j [7,9,10,11,13,15,18,19,78,79,80] [] [.s 110 (.dat .bool)] .no)) (.n (.f (.cut ⟨⟨[7,9,10,11,13,15,19,78,79,80,111],[],[.s 112 (.dat (.int .i64))]⟩,[(.exit 4,⟨[7,9,10,11,13,15,78,79,80],[],[]⟩),(.ret,⟨[],[],[.s 1000 (.dat .bool)]⟩)]⟩ (.f (.n (.n (.f (.f (.n (.f (.j [7,9,10,11,13,15,19,78,79,80,111,112] [] [.s 156 (.dat .bool)] .no))))))))))))))))))))) (.two (.n (.f (.l [7,10,11,13,160] [] [.s 161 (.dat (.int .i64)),.l (.sl 11) (.own 53 (.pair (.leaf 3) (.pair (.leaf 3) (.pair (.leaf 3) (.leaf 3)))))] 6 [10,11,13] [] [.l (.sl 11) (.own 53 (.pair (.leaf 3) (.pair (.leaf 3) (.pair (.leaf 3) (.leaf 3)))))] (.f (.n (.n (.f (.f (.n (.two (.j [7,10,11,13,21,160,161] [] [.s 22 (.box 32 (.dat (.leaf 3)))] .no) (.two (.n (.n (.j [7,10,11,13,21,22,160,161] [] [.l (.sl 11) (.own 53 (.pair (.leaf 3) (.pair (.leaf 3) (.pair (.leaf 3) (.leaf 3)))))] .no))) (.n (.n (.j [7,10,11,13,160,161] [] [.l (.sl 11) (.own 53 (.pair (.leaf 3) (.pair (.leaf 3) (.pair (.leaf 3) (.leaf 3)))))] .no)))))))))))))) (.n (.f (.j [] [] [.s 8 (.dat .bool)] .no))))))))))))) Tryz.func3 [(10,Tryz.f10,.r [] [] [.s 1000 (.agg (.cons (.agg (.cons (.dat (.leaf 3)) (.one (.own 50 (.pair (.leaf 3) (.leaf 3)))))) (.cons (.dat (.leaf 3)) (.one (.own 126 (.pair (.leaf 3) (.leaf 3))))))),.s 1001 (.dat (.int .i64))] .no),(28,Tryz.f28,.r [] [] [.s 1000 (.dat (.int .i64))] (.n (.two (.f (.j [0] [] [.s 12 (.dat .bool)] .no)) (.f (.n (.f (.cut ⟨⟨[13,14],[],[.s 15 (.dat (.int .i64))]⟩,[(.exit 0,⟨[],[],[]⟩),(.ret,⟨[],[],[.s 1000 (.dat (.int .i64))]⟩)]⟩ (.f (.n (.n (.f (.f (.n (.f (.j [13,14,15] [] [.s 40 (.dat .bool)] .no))))))))))))))),(30,Tryz.f30,.r [] [] [.s 1000 (.agg (.cons (.agg (.cons (.dat (.leaf 3)) (.one (.own 50 (.pair (.leaf 3) (.leaf 3)))))) (.cons (.dat (.leaf 3)) (.one (.own 126 (.pair (.leaf 3) (.leaf 3))))))),.s 1001 (.dat (.int .i64))] (.n (.n (.n (.two (.n (.f (.l [0,1,4,23,24] [] [.s 6 (.own 36 (.slice (.leaf 3))),.s 7 (.own 32 (.leaf 3)),.s 8 (.own 32 (.leaf 3)),.s 25 (.dat (.int .i64))] 0 [0,1,4] [] [.s 6 (.own 36 (.slice (.leaf 3))),.s 7 (.own 32 (.leaf 3)),.s 8 (.own 32 (.leaf 3))] (.f (.n (.n (.f (.f (.n (.n (.f (.n (.f (.l [0,1,4,6,7,8,10,23,24,25,33,34] [] [.s 11 (.own 32 (.leaf 3)),.s 12 (.own 32 (.leaf 3)),.s 35 (.dat (.int .i64))] 2 [0,1,4,6,7,8,10,23,24,25] [] [.s 11 (.own 32 (.leaf 3)),.s 12 (.own 32 (.leaf 3))] .no)))))))))))))) (.n (.n (.n (.two (.n (.f (.l [0,4,17,19,92,93] [] [.s 94 (.dat (.int .i64)),.l (.sl 19) (.box 45 (.agg (.cons (.agg (.cons (.dat (.leaf 3)) (.one (.own 50 (.pair (.leaf 3) (.leaf 3)))))) (.cons (.dat (.leaf 3)) (.one (.own 126 (.pair (.leaf 3) (.leaf 3))))))))] 4 [0,4,17,19] [] [.l (.sl 19) (.box 45 (.agg (.cons (.agg (.cons (.dat (.leaf 3)) (.one (.own 50 (.pair (.leaf 3) (.leaf 3)))))) (.cons (.dat (.leaf 3)) (.one (.own 126 (.pair (.leaf 3) (.leaf 3))))))))] .no))) (.n (.f (.n (.f (.l [4,17,19,121] [.fld (.sl 19) 3,.fld (.sl 19) 7] [.s 122 (.dat (.int .i64)),.l (.sl 19) (.box 45 (.agg (.cons (.agg (.cons (.dat (.leaf 3)) (.one (.own 50 (.pair (.leaf 3) (.leaf 3)))))) (.cons (.dat (.leaf 3)) (.one (.own 126 (.pair (.leaf 3) (.leaf 3))))))))] 6 [4,19] [.fld (.sl 19) 3,.fld (.sl 19) 7] [.l (.sl 19) (.box 45 (.agg (.cons (.agg (.cons (.dat (.leaf 3)) (.one (.own 50 (.pair (.leaf 3) (.leaf 3)))))) (.cons (.dat (.leaf 3)) (.one (.own 126 (.pair (.leaf 3) (.leaf 3))))))))] .no)))))))))))))),(41,Tryz.f41,.n (.n (.f (.n (.f (.l [2,4,5,14,15] [] [.s 16 (.dat (.int .i64)),.l (.sl 5) (.box 32 (.dat (.leaf 3)))] 0 [4,5] [] [.l (.sl 5) (.box 32 (.dat (.leaf 3)))] (.f (.n (.n (.f (.f (.n (.n (.n (.f (.l [2,4,5,7,14,15,16,35] [] [.s 36 (.dat (.int .i64)),.l (.sl 5) (.box 32 (.dat (.leaf 3)))] 2 [2,4,5,14,15,16] [] [.l (.sl 5) (.box 32 (.dat (.leaf 3)))] (.f (.n (.n (.f (.f (.two (.j [2,4,5,7,14,15,16,35,36] [] [.s 11 (.box 32 (.dat (.leaf 3)))] .no) (.n (.n (.j [2,4,5,7,14,15,16,35,36] [] [.l (.sl 5) (.box 32 (.dat (.leaf 3)))] .no))))))))))))))))))))))))),(47,Tryz.f47,.n (.n (.f (.n (.f (.l [3,4,5,6,7,16,17] [] [.s 18 (.dat (.int .i64)),.l (.sl 6) (.box 32 (.dat (.leaf 3))),.l (.sl 7) (.box 32 (.dat (.leaf 3)))] 0 [4,5,6,7] [] [.l (.sl 6) (.box 32 (.dat (.leaf 3))),.l (.sl 7) (.box 32 (.dat (.leaf 3)))] .no))))))] (λ_=>by kernel_rfl) ⟨Zpv,Zsu,Zbg,Z8j,Zpf,Z0f,Z8l,Z2c,Zng,ZIg,ZFw,ZEn,ZVu,rsize_k,Zoh,tr⟩ tr tr ⟨⟨Tryz.func10,λ_ _=>by kernel_rfl⟩,⟨Tryz.func28,λ_ _=>by kernel_rfl⟩,⟨Tryz.func30,λ_ _=>by kernel_rfl⟩,⟨Tryz.func41,λ_ _=>by kernel_rfl⟩,⟨Tryz.func47,λ_ _=>by kernel_rfl⟩,tr⟩ tr tr tr ⟨ZIu,tr⟩
theorem Zww {w0:World} {v0:Zb} (hv:VIn v0 w0) {c0:List Value} {ws:(Int×Int×Int×Int)} (p0:Rep.rel (ZW (Zc .u8) (ZW (Zc .u8) (ZW (Zc .u8) (Zc .u8)))) v0 c0 ws) {c1:List Value} {n:Int} (p1:Rep.rel (Zc .u8) v0 c1 n) {c2:List Value} {places:(List Int)} (p2:Rep.rel (ZF (Zc .u8)) v0 c2 places) {c3:List Value} {off:(Int×Int×Int×Int)} (p3:Rep.rel (ZW (Zc .i8) (ZW (Zc .i8) (ZW (Zc .i8) (Zc .i8)))) v0 c3 off) {z:Bool} (hm:ZEk ws n places off=some z):Ret Tryz.prog 3 #[(ZW (Zc .u8) (ZW (Zc .u8) (ZW (Zc .u8) (Zc .u8)))).val c0,(Zc .u8).val c1,(ZF (Zc .u8)).val c2,(ZW (Zc .i8) (ZW (Zc .i8) (ZW (Zc .i8) (Zc .i8)))).val c3] w0 v0 (λy v'=>∃ r0,y=Zfb.val r0∧Zfb.rel v' r0 z):=(Znu w0 v0 [(ZW (Zc .u8) (ZW (Zc .u8) (ZW (Zc .u8) (Zc .u8)))).val c0,(Zc .u8).val c1,(ZF (Zc .u8)).val c2,(ZW (Zc .i8) (ZW (Zc .i8) (ZW (Zc .i8) (Zc .i8)))).val c3] (ws,n,places,off) z hv ⟨c0,_,rfl,p0,c1,_,rfl,p1,c2,_,rfl,p2,c3,rfl,p3⟩ hm).2
end Go.Eng
