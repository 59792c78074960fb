/- Lemmas towards the statement: the engine of the walks, the functions' models, laws and walks, part 7. Conditions: as each states. -/
import Derived.Test.YtcgdkcnnidfceaaGreatProg
import Derived.Test.YtcgdkcnnidfceaaGreatIsF
set_option linter.all false
set_option maxRecDepth 100000
namespace Go.Eng
open Go.Proofs Go.RowKit
set_option maxRecDepth 100000
theorem Zxm:Elem Tryz.prog 36 32 (ZN).n 56 (Value.agg #[Value.bool false,Value.slice none 0 0,Value.slice none 0 0]):=⟨Tryz.underlying36,by kernel_rfl,rfl,by decide⟩
theorem Zik:ZGb Tryz.prog 36 32 (ZN).n:=⟨fun _=>by kernel_rfl,fun _=>by kernel_rfl⟩
theorem ZDt:Tryz.prog.follows .mixedOrders=true:=by kernel_rfl
theorem ZHv:ZC Tryz.prog 95:=fun _ _=>by kernel_rfl
theorem ZQp:ZPh Tryz.prog 3 168 .i64 .u64:=fun _ _=>by kernel_rfl
theorem Zht:ZPh Tryz.prog 168 3 .u64 .i64:=fun _ _=>by kernel_rfl
noncomputable def Z3f:FuncId×ConO:=(103,⟨[.slice (.leaf 3),.int .i64],32,.leaf 3,fun p=>ZVc 56 p.1 p.2⟩)
theorem ZBi:ZBe Tryz.prog Z3f.1 Z3f.2:=fun w v vals x z hv ha hz=>by
 obtain ⟨cs,vs,rfl,p0,c1,rfl,rfl,hin⟩:=ha
 obtain ⟨x1,k0⟩:=x
 have hz:ZVc 56 (show List Rat from x1) k0=some z:=hz
 obtain ⟨y,hx1,hzr,hmk⟩:=Zjw hz
 have hx1:x1=[y]:=hx1
 subst hx1 hzr
 obtain ⟨h0,_,hb1,hb2⟩:=ZKd hmk
 obtain ⟨k,rfl⟩:=Int.eq_ofNat_of_zero_le h0
 obtain ⟨q,c,e,hc1,hc2,hne⟩:=(show (ZB ZN).rel v cs [y] from p0)
 subst e
 rcases hne with hne | ⟨b,off,cc,TT,fr,rfl,hvb,hrel⟩
 ·cases hne
 have hlen1:([y]:List Rat).length=1:=rfl
 rw [hlen1] at hrel
 obtain ⟨c1,c2,e12,hrc,e2⟩:=hrel
 have e2:c2=[]:=e2
 subst e2
 rw [List.append_nil,Nat.one_mul] at e12
 have hl1:=Rep.len _ hrc
 have hAt:At v b off c1:=⟨cc,TT,fr,hvb,by rw [hl1];exact e12⟩
 refine ⟨fun _ _=>by kernel_rfl,?_⟩
 have hk:((k:Int).toNat)=k:=Int.toNat_natCast k
 rw [hk]
 refine ZKh (K:=48) (args:=[.slice (some ⟨b,off,none⟩) 1 c,.int .i64 (k:Int)]) hv Tryz.func103 rfl rfl zl fun fa hS=>?_
 refine sr ?_
 refine mw hS rfl fun fa hS=>?_
 refine oe ?_
 refine wp_seq_k fun N1 hN1=>?_
 refine sr ?_
 refine mv hS rfl fun fa hS=>?_
 refine ov hS rfl (Zr hS rfl rfl ZKc) fun fa hS=>?_
 refine oe ?_
 refine ZV hS rfl (decide_eq_false (by omega)) ?_
 refine wp_skip ?_
 refine Zg (hN1 _ _ ?_)
 refine sr ?_
 refine mv hS rfl fun fa hS=>?_
 refine ov hS rfl (ZRb hS rfl rfl Zik) fun fa hS=>?_
 refine ov hS rfl (Z2c hS rfl (ZQp _)) fun fa hS=>?_
 refine mv hS rfl fun fa hS=>?_
 refine ov hS rfl (Z2c hS rfl (ZQp _)) fun fa hS=>?_
 have w1:IntKind.u64.wrap ((1:Nat):Int)=1:=by decide
 have w2:IntKind.u64.wrap (k:Int)=k:=ZJc (Zxd.2 (by omega))
 rw [w1,w2] at hS
 have hmul:Z4j 1 (k:Int)=some (0,(k:Int)):=by
  unfold Z4j ZBc;rw [if_pos (by omega),Za];simp only;congr 2 <;> omega
 refine Zih hS wn rfl zl (ZJ hS [.int .u64 1,.int .u64 (k:Int)] ZHv rfl rfl) (bmul_w hS.vin (show Rep.rel (Zc .u64) _ [.int .u64 1] 1 from ZE (by decide)) (show Rep.rel (Zc .u64) _ [.int .u64 (k:Int)] (k:Int) from ZE (Zxd.2 (by omega))) hmul) ?_;rintro _ v1 fa wo hle ⟨r0,r1,rfl,⟨rfl,_⟩,⟨rfl,_⟩⟩ hS;refine mv hS rfl fun fa hS=>?_;refine ov hS rfl (Z8 hS rfl rfl) fun fa hS=>?_;refine ov hS rfl (Z8 hS rfl rfl) fun fa hS=>?_;refine mw hS rfl fun fa hS=>?_;refine mw hS rfl fun fa hS=>?_;refine oe ?_;refine wp_seq_k fun N2 hN2=>?_;refine sr ?_;refine mv hS rfl fun fa hS=>?_;refine ov hS rfl (Zr hS rfl rfl Z7e) fun fa hS=>?_;have g1:decide ((0:Int)<0)=false:=rfl;have hS:St _ _ _ ((22,Value.bool false) :: _) _ _ _ _:=hS;refine mv hS rfl fun fa hS=>?_;refine op_v hS (ZGd hS rfl rfl rfl zl) rfl zl (ZH hS rfl) fun fa hS=>?_;refine op_v hS (ZGd hS rfl rfl rfl zl) rfl zl (Zr hS rfl rfl Z7e) fun fa hS=>?_;refine ov hS rfl (Z7b (b:=false) hS rfl rfl) fun fa hS=>?_;refine oe ?_;refine ZV hS rfl (decide_eq_false (by omega)) ?_;refine wp_skip ?_;refine Zg (hN2 _ _ ?_);refine sr ?_;refine mv hS rfl fun fa hS=>?_;refine ov hS rfl (Z2c hS rfl (Zht _)) fun fa hS=>?_;have w3:IntKind.i64.wrap (k:Int)=k:=ZJc (Zpb.2 (by omega));rw [w3] at hS;obtain ⟨b2,wo,hrun,hS'⟩:=Zrm Zxm hS (l:=(k:Int)) (c:=(k:Int)) h0 (Int.le_refl _) hb1 hb2
 refine ZIc wn rfl zl (hrun rfl rfl) hS' fun fa hS=>?_;refine mw hS rfl fun fa hS=>?_;refine oe ?_;rw [hk] at hS;have hS:=hS.fr' (σ':=[(7,.slice (mkA (some b2)) k k),(0,.slice (some ⟨b,off,none⟩) 1 c)]) rfl;have src1:∀ {σ:List (Nat×Value)} {ℓ:List Loc} {v':Zb} {a:Act} {w':World},St 48 w v σ ℓ v' a w'→∀ j u,c1[j]? = some u→w'.cell? ((⟨b,off,none⟩:Addr).add j)=some u:=fun hS j u hu=>by
  have:=(hS.view (At.mono hS.vst.le hAt)).cell hu
  rwa [ZFa]
 have hpl1:c1.all plain=true:=Rep.flat _ hrc;obtain ⟨zc,hzc⟩:∃ zc:List Value,zc=(Value.agg #[Value.bool false,Value.slice none 0 0,Value.slice none 0 0]:Value).cells.toList:=⟨_,rfl⟩;have hzl:zc.length=(ZN).n:=by rw [hzc];rfl
 rw [← hzc] at hS
 let Inv:Nat→Act→World→Prop:=fun j a w'=>∃ v',j≤k∧(0<k→0<j)∧St 48 w v [(8,.int .i64 (j:Int)),(7,.slice (mkA (some b2)) k k)] [.own (some b2) 32 (ZN).n k k ((List.replicate j c1).flatten++(List.replicate (k-j) zc).flatten)] v' a w'
 have rl:=fun n=>Zvk hl1 n;have rpl:∀ n:Nat,((List.replicate n c1).flatten).all plain=true:=fun n=>Zyw hpl1 n;have step:=fun j m (hjm:j+m≤k)=>rp_step (k:=k) hl1 hzl hjm;refine sr ?_;refine mv hS rfl fun fa hS=>?_;refine mv hS rfl fun fa hS=>?_;have hS1:St 48 w v _ [.own (some b2) 32 (ZN).n k k ((List.replicate 0 c1).flatten++(List.replicate (k-0) zc).flatten)] v1 fa wo:=hS;obtain ⟨wo2,hr,hS'⟩:=ZVo (t:=36) (sT:=36) Zxm hS1 (i:=0) rfl (p:=0) (k:=min 1 k) (c:=(List.replicate (min 1 k) c1).flatten) (rl _) (by omega) (rpl _) (ad:=⟨b,off,none⟩) (sLen:=1) (sCap:=c) (dLen:=k) (dCap:=k) (fun j u hu=>by
  rcases Nat.lt_or_ge 0 k with hk0 | hk0
  ·rw [show min 1 k=1 by omega] at hu;simp only [List.replicate_one,List.flatten_cons,List.flatten_nil,List.append_nil] at hu;exact src1 hS1 j u hu
  ·rw [show min 1 k=0 by omega] at hu;simp at hu) rfl
 have hst:=step 0 (min 1 k) (by omega);simp only [List.set_cons_zero] at hS';rw [hst] at hS';simp only [Nat.zero_add] at hS';rw [Nat.zero_mul] at hr;refine ZIc wn rfl zl (Z0p hS1 rfl rfl (hr _)) hS' fun fa hS=>?_;refine mw hS rfl fun fa hS=>?_;refine oe ?_;have hS:=hS.fr' (σ':=[(8,.int .i64 ((min 1 k:Nat):Int)),(7,.slice (mkA (some b2)) k k)]) rfl;refine wp_seq_k fun N3 hN3=>?_;refine wp_block ?_;refine wp_loop_fuel (fun m a w'=>∃ j,k-j<m∧Inv j a w') (k+1) ⟨min 1 k,by omega,v1,by omega,by omega,hS⟩ (fun a w' ⟨j,h,_⟩=>by omega) ?_;rintro m fa wo3 ⟨j,hjm,v3,hjk,hj0,hS⟩ N hN;refine wp_seq_k fun N4 hN4=>?_;refine sr ?_;refine mv hS rfl fun fa hS=>?_;refine mv hS rfl fun fa hS=>?_;refine ov hS rfl (ZRb hS rfl rfl Zik) fun fa hS=>?_;refine ov hS rfl (Zr hS rfl rfl ZKc) fun fa hS=>?_;refine oe ?_;by_cases hlt:j<k
 ·refine Zda hS rfl (decide_eq_true (by omega)) ?_;refine wp_skip ?_;refine Zg (hN4 _ _ ?_);refine wp_block ?_;have hS:=hS.fr' (σ':=[(8,.int .i64 (j:Int)),(7,.slice (mkA (some b2)) k k)]) rfl;refine Z8e (fl:=#[true,true,true,true,true,true,true,false,false,false]) ZDt (by kernel_rfl) hS ?_;intro ops hops hF wo hS;refine rf hops hF 0 rfl (by kernel_rfl) rfl hS (ZH hS rfl) fun fa hS=>?_;refine rf hops hF 1 rfl (by kernel_rfl) rfl hS (ZH hS rfl) fun fa hS=>?_;refine rf hops hF 2 rfl (by kernel_rfl) rfl hS (ZH hS rfl) fun fa hS=>?_;refine rf hops hF 3 rfl (by kernel_rfl) rfl hS (Zqw hS Zik rfl rfl (by omega) (by omega)) fun fa hS=>?_;refine rf hops hF 4 rfl (by kernel_rfl) rfl hS (ZH hS rfl) fun fa hS=>?_;refine rf hops hF 5 rfl (by kernel_rfl) rfl hS (ZH hS rfl) fun fa hS=>?_;refine rf hops hF 6 rfl (by kernel_rfl) rfl hS (ZNl hS Zik rfl rfl (by omega) (by omega)) fun fa hS=>?_;rw [Nat.zero_add] at hS;obtain ⟨wo',hr,hS'⟩:=ZVo (t:=36) (sT:=36) Zxm hS (i:=0) rfl (p:=j) (k:=min j (k-j)) (c:=(List.replicate (min j (k-j)) c1).flatten) (rl _) (by omega) (rpl _) (ad:=⟨b2,0,none⟩) (sLen:=j) (sCap:=k) (dLen:=k-j) (dCap:=k-j) (fun i u hu=>by
   have hi:=(List.getElem?_eq_some_iff.1 hu).1;refine ZZf hS (j:=0) rfl i u ?_;rw [Zep (c:=c1) (m:=min j (k-j)) (n:=j) (by omega),List.append_assoc,List.getElem?_append_left hi];exact hu) rfl
  have hst:=step j (min j (k-j)) (by omega);simp only [List.set_cons_zero] at hS';rw [hst] at hS';refine Z1e hops hF 7 (by kernel_rfl) ?_;refine Zol [3,6,1,2,4,5] [0] hops rfl (by kernel_rfl) wn rfl zl (Z0p hS rfl rfl (hr _)) hS' fun fa hS=>?_;refine ⟨(py hS rfl rfl (ZH hS rfl) ZKa),?_⟩;refine Z1e hops hF 8 (by kernel_rfl) ?_;have hadd:chk .i64 ((j:Int)+((min j (k-j):Nat):Int))=some ((j+min j (k-j):Nat):Int):=by rw [Zl (by omega) (by omega)];rfl
  refine nv [0,7,3,6,1,2,4,5] [] hops rfl (by kernel_rfl) rfl hS (Zr hS rfl rfl (Zuc hadd)) fun fa hS=>?_;refine ⟨ZKa,?_⟩;refine Z1e hops hF 9 (by kernel_rfl) ?_;refine nv [0,1,2,3,4,5,6,7,8] [] hops rfl (by kernel_rfl) rfl hS (ZLc hS rfl) fun fa hS=>?_;refine ⟨ZKa,?_⟩;refine ZNi hops hF (by kernel_rfl) ?_;refine ZRc ?_;have hj0:=hj0 (by omega);exact Zg (hN _ _ ⟨j+min j (k-j),by omega,v3,by omega,fun _=>by omega,hS.fr' rfl⟩)
 refine ZV hS rfl (decide_eq_false (by omega)) ?_;refine wp_exit ?_;refine Zgb ?_;refine Zgb ?_;refine ZMd ?_;refine Zg (hN3 _ _ ?_);have hjk:j=k:=by omega
 subst hjk;rw [Nat.sub_self,List.replicate_zero,List.flatten_nil,List.append_nil] at hS;refine sr ?_;refine mv hS rfl fun fa hS=>?_;refine mw hS rfl fun fa hS=>?_;refine oe ?_;refine wp_ret ?_;exact Zem hS (i:=0) rfl (ZHa rfl (ZK hS rfl)) (ZEg (Rep.mono _ hS.vst.le hrc) _) (List.length_replicate (n:=j) (a:=y)).symm
end Go.Eng
set_option maxRecDepth 100000
set_option maxHeartbeats 4000000
namespace Go.Eng
open Go.Proofs Go.RowKit
noncomputable def Zbk:FuncId×ConO:=(81,⟨[.int .i64],32,.leaf 3,fun p=>Zzg p⟩)
theorem ZRk:KO Zbk:=ZNr (C:=cf0 [ZAf] [] [Z3f] []) .no Tryz.func81 [] (fun _=>by kernel_rfl) ⟨Zjg,tr⟩ ⟨ZBi,tr⟩
end Go.Eng
set_option maxRecDepth 100000
set_option maxHeartbeats 4000000
namespace Go.Eng
open Go.Proofs Go.RowKit
noncomputable def ZNs:FuncId×Con:=(107,⟨[.ptr (.pair (.slice (.slice (.leaf 3))) (.pair (.slice (.leaf 3)) (.pair (.slice (.leaf 3)) (.pair (.leaf 3) (.pair (.slice (.int .i64)) (.slice (.int .i64))))))),.int .i64],[.slice (.leaf 3)],fun p=>Zai p.1 p.2⟩)
theorem ZWu:KQ ZNs:=ZA (Zea (C:=cf0 [] [] [Zbk] []) (.n (.n (.f (.n (.f (.l [0,1,5,13,14] [] [.s 15 (.dat (.int .i64)),.l (.sl 5) (.own 32 (.leaf 3))] 0 [5] [] [.l (.sl 5) (.own 32 (.leaf 3))] (.f (.n (.n (.f (.f (.n (.n (.j [0,1,5,13,14,15] [] [.l (.sl 5) (.own 32 (.leaf 3))] .no)))))))))))))) Tryz.func107 [] (fun _=>by kernel_rfl) tr ⟨ZRk,tr⟩)
end Go.Eng
set_option maxRecDepth 100000
set_option maxHeartbeats 4000000
namespace Go.Eng
open Go.Proofs Go.RowKit
noncomputable def Zds:FuncId×Con:=(108,⟨[.ptr (.pair (.slice (.slice (.leaf 3))) (.pair (.slice (.leaf 3)) (.pair (.slice (.leaf 3)) (.pair (.leaf 3) (.pair (.slice (.int .i64)) (.slice (.int .i64))))))),.int .i64,.int .i64],[.slice (.leaf 3)],fun p=>ZAi p.1 p.2.1 p.2.2⟩)
theorem Zmw : KQ Zds := ZA (Zea (C := cf0 [ZYd] [] [Zbk] [((32, "Neg"), 38)]) (.n (.n (.f (.n (.f (.l [0, 1, 2, 7, 15, 16] [] [.s 17 (.dat (.int .i64)), .l (.sl 7) (.own 32 (.leaf 3))] 0 [7] [] [.l (.sl 7) (.own 32 (.leaf 3))] (.f (.n (.n (.f (.f (.n (.two (.j [0, 1, 2, 7, 8, 9, 15, 16, 17] [] [.s 31 (.dat .bool)] .no) (.j [0, 1, 2, 7, 15, 16, 17] [] [.l (.sl 7) (.own 32 (.leaf 3))] .no)))))))))))))) Tryz.func108 [] (fun _ => by kernel_rfl) ⟨ZJe, tr⟩ ⟨ZRk, tr⟩ ⟨Z8f, tr⟩)
end Go.Eng
set_option maxRecDepth 100000
set_option maxHeartbeats 4000000
namespace Go.Eng
open Go.Proofs Go.RowKit
noncomputable def ZJs:FuncId×ConM:=(125,⟨[.slice (.slice (.leaf 3))],36,32,.leaf 3,fun p=>ZWi p⟩)
theorem Zlw:KW ZJs:=conm_z (C:=cf0 [] [8] [Z9h] []) (.n (.n (.f (.n (.f (.l [3,9,10] [] [.s 11 (.dat (.int .i64)),.l (.sl 3) (.mat 36 32 (.leaf 3))] 0 [3] [] [.l (.sl 3) (.mat 36 32 (.leaf 3))] .no)))))) Tryz.func125 [] (fun _=>by kernel_rfl) tr ⟨ZUl,tr⟩
end Go.Eng
set_option maxRecDepth 100000
set_option maxHeartbeats 4000000
namespace Go.Eng
open Go.Proofs Go.RowKit
noncomputable def ZJl:FuncId×ConB:=(126,⟨189,(.agg (.cons (.mat 36 32 (.leaf 3)) (.cons (.own 32 (.leaf 3)) (.cons (.own 32 (.leaf 3)) (.cons (.dat (.leaf 3)) (.cons (.own 3 (.int .i64)) (.one (.own 3 (.int .i64))))))))),[.int .i64,.int .i64],[],fun z x=>Zwe z x.1 x.2⟩)
theorem Zmq : KB ZJl := ZHg (C := cf0 [Zvi, ZCf, Zue, Zse, ZYd, Zag, ZAf] [] [] [((32, "Add"), 12), ((32, "Div"), 21), ((32, "Mul"), 66), ((32, "Neg"), 38), ((32, "Sub"), 16), ((32, "Zero"), 11)]) (.n (.n (.two (.n (.f (.l [0, 1, 2, 7, 37] [] [.s 38 (.dat (.int .i64)), .l (.sl 20) (.mat 36 32 (.leaf 3))] 0 [0, 1, 2, 7] [] [.l (.sl 20) (.mat 36 32 (.leaf 3))] .no))) (.n (.n (.f (.n (.f (.l [0, 1, 2, 94] [] [.s 95 (.dat (.int .i64)), .l (.sl 67) (.mat 36 32 (.leaf 3)), .l (.sl 77) (.own 32 (.leaf 3))] 2 [0, 1, 2] [] [.l (.sl 67) (.mat 36 32 (.leaf 3)), .l (.sl 77) (.own 32 (.leaf 3))] (.f (.n (.n (.f (.j [0, 1, 2, 94, 95] [] [.l (.fld (.sl 0) 0) (.mat 36 32 (.leaf 3)), .l (.fld (.sl 0) 1) (.own 32 (.leaf 3))] (.f (.n (.f (.f (.j [0, 1, 2, 10, 94, 95] [] [.s 114 (.dat .bool)] .no))))))))))))))))))) Tryz.func126 [(147, Tryz.f147, .sel 1 (.n (.f (.n (.f (.l [0, 1, 2, 3, 8, 15] [] [.s 16 (.dat (.int .i64)), .l (.fld (.sl 0) 0) (.agg (.mat 36 32 (.leaf 3)))] 0 [0, 1, 2, 3, 8] [] [.l (.fld (.sl 0) 0) (.agg (.mat 36 32 (.leaf 3)))] .no))))) (.n (.f (.n (.f (.l [0, 1, 2, 3, 8, 15] [] [.s 16 (.dat (.int .i64)), .l (.sl 1) (.own 32 (.leaf 3))] 0 [0, 1, 2, 3, 8] [] [.l (.sl 1) (.own 32 (.leaf 3))] .no))))))] (fun _ _ => by kernel_rfl) ⟨ZAk, ZJg, ZLf, ZJf, ZJe, Zoh, Zjg, tr⟩ tr ⟨ZWn, ZFs, ZRs, Z8f, Zgr, Zvp, tr⟩ ⟨⟨Tryz.func147, fun _ _ => by kernel_rfl⟩, tr⟩
end Go.Eng
set_option maxRecDepth 100000
set_option maxHeartbeats 4000000
namespace Go.Eng
open Go.Proofs Go.RowKit
noncomputable def ZPp:FuncId×ConB:=(131,⟨189,(.agg (.cons (.mat 36 32 (.leaf 3)) (.cons (.own 32 (.leaf 3)) (.cons (.own 32 (.leaf 3)) (.cons (.dat (.leaf 3)) (.cons (.own 3 (.int .i64)) (.one (.own 3 (.int .i64))))))))),[],[.int .i64],fun z x=>Zqg z⟩)
theorem Z7t : KB ZPp := ZHg (C := cf0 [Zzc] [] [] [((32, "Sign"), 15)]) (.n (.n (.f (.n (.f (.l [0, 9, 10] [] [.s 3 (.dat (.int .i64)), .s 11 (.dat (.int .i64))] 0 [] [] [.s 3 (.dat (.int .i64))] (.f (.n (.n (.f (.f (.n (.two (.j [0, 3, 4, 9, 10, 11] [] [.s 40 (.dat .bool)] .no) (.j [0, 9, 10, 11] [] [.s 3 (.dat (.int .i64))] .no)))))))))))))) Tryz.func131 [] (fun _ _ => by kernel_rfl) ⟨ZSc, tr⟩ tr ⟨ZFk, tr⟩
end Go.Eng
set_option maxRecDepth 100000
set_option maxHeartbeats 4000000
namespace Go.Eng
open Go.Proofs Go.RowKit
noncomputable def ZCq:FuncId×ConB:=(132,⟨189,(.agg (.cons (.mat 36 32 (.leaf 3)) (.cons (.own 32 (.leaf 3)) (.cons (.own 32 (.leaf 3)) (.cons (.dat (.leaf 3)) (.cons (.own 3 (.int .i64)) (.one (.own 3 (.int .i64))))))))),[.int .i64,.int .i64],[.int .i64],fun z x=>ZGg z x.1 x.2⟩)
theorem ZOx : KB ZCq := ZHg (C := cf0 [Zbe, Zzc, Zse] [] [] [((32, "Cmp"), 13), ((32, "Div"), 21), ((32, "Sign"), 15)]) (.n (.n (.n (.f (.n (.f (.l [0, 1, 2, 8, 17] [] [.s 7 (.dat (.int .i64)), .s 18 (.dat (.int .i64)), .l (.sl 8) (.box 32 (.dat (.leaf 3)))] 0 [] [] [.s 7 (.dat (.int .i64))] (.f (.n (.n (.f (.j [0, 1, 2, 8, 17, 18] [] [.s 7 (.dat (.int .i64)), .l (.sl 8) (.box 32 (.dat (.leaf 3)))] (.f (.n (.n (.n (.n (.two (.n (.j [0, 1, 2, 7, 8, 9, 10, 17, 18] [] [.s 12 (.dat (.int .i64))] .no)) (.two (.j [0, 1, 2, 7, 8, 9, 10, 17, 18] [] [.s 110 (.dat .bool)] .no) (.j [0, 1, 2, 8, 17, 18] [] [.s 7 (.dat (.int .i64)), .l (.sl 8) (.box 32 (.dat (.leaf 3)))] .no)))))))))))))))))))) Tryz.func132 [] (fun _ _ => by kernel_rfl) ⟨Zcf, ZSc, ZJf, tr⟩ tr ⟨Zjs, ZFs, ZFk, tr⟩
end Go.Eng
set_option maxRecDepth 100000
set_option maxHeartbeats 4000000
namespace Go.Eng
open Go.Proofs Go.RowKit
noncomputable def Z3m:FuncId×ConB:=(106,⟨189,(.agg (.cons (.mat 36 32 (.leaf 3)) (.cons (.own 32 (.leaf 3)) (.cons (.own 32 (.leaf 3)) (.cons (.dat (.leaf 3)) (.cons (.own 3 (.int .i64)) (.one (.own 3 (.int .i64))))))))),[.int .i64],[.int .i64],fun z x=>ZSh z x⟩)
theorem Z9o:KB Z3m:=ZHg (C:=cf1 [] [] [] [] [] [ZJl,ZPp,ZCq] []) (.n (.f (.cut ⟨⟨[0,1],[.fld (.sl 0) 0,.fld (.sl 0) 1,.fld (.sl 0) 2,.fld (.sl 0) 6,.fld (.sl 0) 7],[.l (.sl 0) (.box 189 (.agg (.cons (.mat 36 32 (.leaf 3)) (.cons (.own 32 (.leaf 3)) (.cons (.own 32 (.leaf 3)) (.cons (.dat (.leaf 3)) (.cons (.own 3 (.int .i64)) (.one (.own 3 (.int .i64))))))))))]⟩,[(.ret,⟨[],[.fld (.sl 0) 0,.fld (.sl 0) 1,.fld (.sl 0) 2,.fld (.sl 0) 6,.fld (.sl 0) 7],[.s 1000 (.dat (.int .i64)),.l (.sl 0) (.box 189 (.agg (.cons (.mat 36 32 (.leaf 3)) (.cons (.own 32 (.leaf 3)) (.cons (.own 32 (.leaf 3)) (.cons (.dat (.leaf 3)) (.cons (.own 3 (.int .i64)) (.one (.own 3 (.int .i64))))))))))]⟩)]⟩ .no))) Tryz.func106 [] (fun _ _=>by kernel_rfl) tr tr tr tr tr ⟨Zmq,Z7t,ZOx,tr⟩
end Go.Eng
set_option maxRecDepth 100000
set_option maxHeartbeats 4000000
namespace Go.Eng
open Go.Proofs Go.RowKit
noncomputable def Z3o:FuncId×ConB:=(108,⟨189,(.agg (.cons (.mat 36 32 (.leaf 3)) (.cons (.own 32 (.leaf 3)) (.cons (.own 32 (.leaf 3)) (.cons (.dat (.leaf 3)) (.cons (.own 3 (.int .i64)) (.one (.own 3 (.int .i64))))))))),[.int .i64,.int .i64],[.slice (.leaf 3)],fun z x=>Zpj z x.1 x.2⟩)
theorem Zdy : KB Z3o := ZHg (C := cf0 [ZYd, ZAf] [] [Z3f] [((32, "Neg"), 38)]) (.n (.n (.f (.n (.f (.l [0, 1, 2, 7, 15, 16] [] [.s 17 (.dat (.int .i64)), .l (.sl 7) (.own 32 (.leaf 3))] 0 [7] [] [.l (.sl 7) (.own 32 (.leaf 3))] (.f (.n (.n (.f (.f (.n (.two (.j [0, 1, 2, 7, 8, 9, 15, 16, 17] [] [.s 31 (.dat .bool)] .no) (.j [0, 1, 2, 7, 15, 16, 17] [] [.l (.sl 7) (.own 32 (.leaf 3))] .no)))))))))))))) Tryz.func108 [(81, Tryz.f81, .no)] (fun _ _ => by kernel_rfl) ⟨ZJe, Zjg, tr⟩ ⟨ZBi, tr⟩ ⟨Z8f, tr⟩ ⟨⟨Tryz.func81, fun _ _ => by kernel_rfl⟩, tr⟩
end Go.Eng
namespace Go.Eng
open Go.RowKit
section
variable {P:Program} {K:Nat} {w0:Base} {v0:Zb} {σ:List (Nat×Value)} {ℓ:List Loc} {v:Zb} {a:Act} {w:World}
variable {d:Option Nat} {ty:TypeId} {pos:String} {aft:Array Edge} {g:Option (Nat×Bool)}
theorem ZRp (hS:St K w0 v0 σ ℓ v a w) {t e:TypeId} {sz b n cap p q m:Nat} {x lo hi mx:Operand} {k k2 k3:IntKind} (ht:ZGb P t e sz) (e1:ev σ x=some (.slice (some ⟨b,0,none⟩) n cap)) (e2:ev σ lo=some (.int k (p:Int))) (e3:ev σ hi=some (.int k2 (q:Int))) (e4:ev σ mx=some (.int k3 (m:Int))) (h1:p≤q) (h2:q≤m) (h3:m≤cap) :
  ∃ y,(execOp a.eval ⟨d,.slice t x (some lo) (some hi) (some mx),ty,pos,aft,g⟩).run P w = .ok (.value y) w:=by
 have h4:(0:Int)≤(p:Int)∧(p:Int)≤(q:Int):=by omega
 have h5:(0:Int)≤(q:Int)∧(q:Int)≤(m:Int):=by omega
 have h6:(0:Int)≤(m:Int)∧(m:Int)≤(cap:Int):=by omega
 exact ⟨.slice (if m=p then some ⟨b,0,none⟩ else some (Addr.add ⟨b,0,none⟩ (p*sz))) (q-p) (m-p),by simp [execOp,Instr.sliceAt,Instr.slice,Instr.sliceBounds,Instr.sliceBound,asIntOf,hS.eval e1,hS.eval e2,hS.eval e3,hS.eval e4,ht.1,ht.2,h1,h2,h3,h4,h5,h6]⟩
theorem ZLs (hS:St K w0 v0 σ ℓ v a w) {t e:TypeId} {sz b n cap p q:Nat} {x lo hi:Operand} {k k2:IntKind} (ht:ZGb P t e sz) (e1:ev σ x=some (.slice (some ⟨b,0,none⟩) n cap)) (e2:ev σ lo=some (.int k (p:Int))) (e3:ev σ hi=some (.int k2 (q:Int))) (h1:p≤q) (h2:q≤cap) (hc:p<cap) :
  (execOp a.eval ⟨d,.slice t x (some lo) (some hi) none,ty,pos,aft,g⟩).run P w = .ok (.value (.slice (some ⟨b,p*sz,none⟩) (q-p) (cap-p))) w:=by
 have h4:(0:Int)≤(p:Int)∧(p:Int)≤(q:Int):=by omega
 have h5:(0:Int)≤(q:Int)∧(q:Int)≤(cap:Int):=by omega
 have h6:¬ cap=p:=by omega
 simp [execOp,Instr.sliceAt,Instr.slice,Instr.sliceBounds,Instr.sliceBound,asIntOf,hS.eval e1,hS.eval e2,hS.eval e3,ht.1,ht.2,h1,h2,h4,h5,h6,ZFa]
theorem ZPn {t e ty:TypeId} {sz bytes:Nat} {z:Value} (E:Elem P t e sz bytes z) (hS:St K w0 v0 σ ℓ v a w) {i n cap b:Nat} {cs:List Value} (hi:ℓ[i]? = some (.own (some b) e sz n cap cs))
  {q m c:Nat} {ad:Addr} {news:List Value} (hl:news.length=m*sz) (hnews:∀ j u,news[j]? = some u→w.cell? (ad.add j)=some u) (hp:news.all plain=true) (hq:q+m≤n) :
  ∃ w',(Builtin.append_ #[t,t] ty #[.slice (some ⟨b,0,none⟩) q cap,.slice (some ad) m c]).run P w = .ok (.slice (some ⟨b,0,none⟩) (q+m) cap) w' ∧
   St K w0 v0 σ (ℓ.set i (.own (some b) e sz n cap (cs.take (q*sz)++news++cs.drop (q*sz+news.length)))) v a w':=by
 obtain ⟨inf,hinf,hz,hs,hby⟩:=info_parts E.info;subst hs;obtain ⟨hcl,cur,hg,hnc,hcx,hcs,htake⟩:=(hS.loc _ (List.mem_of_getElem? hi)).1;have h1:q*inf.size+news.length≤n*inf.size:=by rw [hl,← Nat.add_mul];exact Nat.mul_le_mul_right _ hq
 have h2:n*inf.size≤cap*inf.size:=Nat.mul_le_mul_right _ hnc;have hcl2:cur.toList.length=cap*inf.size:=by simpa using hcs
 have hr:=run_append_room (P:=P) w t ty e inf E.ty hinf b q cap cur hg ad m c news hl hnews (Z2j hp) (by omega) (by omega);refine ⟨_,hr,hS.setRow hi rfl rfl ⟨?_,_,setRow_heap w b cur _ e _ hg,hnc,hcx,?_,?_⟩⟩
 ·simp;omega
 ·simp;omega
 ·show List.take (n*inf.size) (_++_++_)=_;rw [Z7i _ _ _ _ h1 (by omega),htake]
theorem Zjo {t e ty:TypeId} {sz bytes:Nat} {z:Value} (E:Elem P t e sz bytes z) (hS:St K w0 v0 σ ℓ v a w) {i n cap b:Nat} {cs:List Value} (hi:ℓ[i]? = some (.own (some b) e sz n cap cs)) {p c:Nat} (hp:p+1≤n) (hz1:∀ x ∈ (Builtin.zeroCells z.cells 1).toList,x.oneCell'=true) :
  ∃ w' zc,zc.length=sz∧(∀ ty,(Builtin.clear_ #[t] ty #[.slice (some ⟨b,p*sz,none⟩) 1 c]).run P w = .ok (.tuple #[]) w') ∧
   St K w0 v0 σ (ℓ.set i (.own (some b) e sz n cap (cs.take (p*sz)++zc++cs.drop (p*sz+zc.length)))) v a w':=by
 obtain ⟨inf,hinf,hz,hs,hby⟩:=info_parts E.info;obtain ⟨hcl,cur,hg,hnc,hcx,hcs,htake⟩:=(hS.loc _ (List.mem_of_getElem? hi)).1;have hzl:(Builtin.zeroCells z.cells 1).toList.length=sz:=by
  have:=size_zeroCells z.cells 1;rw [E.cells] at this
  simpa using this
 have h1:p*sz+sz≤n*sz:=by
  have:=Nat.mul_le_mul_right sz hp;rw [Nat.add_mul,Nat.one_mul] at this;exact this
 have h2:n*sz≤cap*sz:=Nat.mul_le_mul_right _ hnc;have hcl2:cur.toList.length=cap*sz:=by simpa using hcs
 have hst:=run_storeCells_at P b (p*sz) e (Builtin.zeroCells z.cells 1).toList 0 cur w hg (by rw [hzl];omega) hz1;have hzv:∀ w:World,(zeroValue e).run P w = .ok z w:=fun w=>by simp [zeroValue,typeInfo,hinf,hz]
 refine ⟨_,(Builtin.zeroCells z.cells 1).toList,hzl,fun ty=>?_,hS.setRow hi rfl rfl (c:=(cur.toList.take (p*sz)++(Builtin.zeroCells z.cells 1).toList++cur.toList.drop (p*sz+(Builtin.zeroCells z.cells 1).toList.length)).toArray) ⟨?_,_,setRow_heap w b cur _ e _ hg,hnc,hcx,?_,?_⟩⟩
 ·simp at hst;simp [Builtin.clear_,run_underlying E.ty,hzv,hst]
 ·simp at hzl ⊢;omega
 ·simp at hzl ⊢;omega
 ·show List.take (n*sz) (_++_++_)=_;rw [Z7i _ _ _ _ (by rw [hzl];exact h1) (by omega),htake]
theorem Zfo (hS:St K w0 v0 σ ℓ v a w) {t:TypeId} {x:Operand} {p r:Value} {w':World} (e:ev σ x=some p) (h:(Builtin.clear_ #[t] ty #[p]).run P w = .ok r w') :
  (execOp a.eval ⟨d,.call ⟨.builtin .clear,#[x],#[t]⟩,ty,pos,aft,g⟩).run P w = .ok (.value r) w':=by
 simp [execOp,resolve,invoke,builtin,hS.eval e,h]
theorem Zcp {ops:Array Oper} {Q:Exit→Act→World→Prop} {rest:List Oper} {o:Oper} {x:Value} {w':World} (hw:Region.wanted o (yielded ops a.tmps)=true) (hd:o.dst=none) (hrun:(execOp a.eval o).run P w = .ok (.value x) w') (h:wpList P ops Q rest a w'):wpList P ops Q (o :: rest) a w :=
 Zoc hw (ZRd hrun (by rw [hd];exact h))
theorem St.narrow (h:St K w0 v0 σ ℓ v a w) {i b n m cap sz:Nat} {T:TypeId} {cs:List Value} (hi:ℓ[i]? = some (.own (some b) T sz n cap cs)) (hm:m≤n):St K w0 v0 σ (ℓ.set i (.own (some b) T sz m cap (cs.take (m*sz)))) v a w:=by
 obtain ⟨hcl,cur,hg,hnc,hcx,hcs,htake⟩:=(h.loc _ (List.mem_of_getElem? hi)).1;have h1:m*sz≤n*sz:=Nat.mul_le_mul_right _ hm;refine h.setSame hi rfl ⟨?_,cur,hg,by omega,hcx,hcs,?_⟩
 ·rw [List.length_take];omega
 ·rw [← htake,List.take_take,Nat.min_eq_left h1]
end
theorem Z4q {cs zc:List Value} {sz i n:Nat} (hc:cs.length=n*sz) (hi:i<n) (hz:zc.length=sz) :
  (((cs.take (i*sz)++cs.drop ((i+1)*sz)++cs.drop (i*sz+(cs.drop ((i+1)*sz)).length)).take ((n-1)*sz)++zc++(cs.take (i*sz)++cs.drop ((i+1)*sz)++cs.drop (i*sz+(cs.drop ((i+1)*sz)).length)).drop ((n-1)*sz+zc.length)).take ((n-1)*sz))=cs.take (i*sz)++cs.drop ((i+1)*sz):=by
 have h1:i*sz≤n*sz:=Nat.mul_le_mul_right _ (by omega);have h2:(i+1)*sz≤n*sz:=Nat.mul_le_mul_right _ (by omega);have h3:(i+1)*sz=i*sz+sz:=by rw [Nat.add_mul,Nat.one_mul]
 have h4:(n-1)*sz=n*sz-sz:=by rw [Nat.sub_mul,Nat.one_mul]
 have hl:(cs.take (i*sz)++cs.drop ((i+1)*sz)).length=(n-1)*sz:=by
  rw [List.length_append,List.length_take,List.length_drop];omega
 rw [List.append_assoc (List.take _ _) zc,List.take_append_of_le_length (by rw [List.length_take,List.length_append,hl];omega),List.take_take,Nat.min_self,List.take_append_of_le_length (by rw [hl];omega),List.take_of_length_le (by rw [hl];omega)]
end Go.Eng
namespace Go.Eng
open Go.Proofs Go.RowKit
set_option maxRecDepth 100000
theorem ZPs:Elem Tryz.prog 76 3 ((Zc .i64)).n 8 (Value.int IntKind.i64 0):=⟨Tryz.underlying76,by kernel_rfl,rfl,by decide⟩
theorem ZBf:ZGb Tryz.prog 76 3 ((Zc .i64)).n:=⟨fun _=>by kernel_rfl,fun _=>by kernel_rfl⟩
theorem ZOw:Tryz.prog.follows .mixedOrders=true:=by kernel_rfl
noncomputable def Zil:FuncId×ConD:=(129,⟨3,.int .i64,fun l i j=>ZWc l i j⟩)
theorem Zrw:Zlg Tryz.prog Zil.1 Zil.2:=fun w v ob n cap cs l i0 j0 z hv hh hnv hA hn hi hj hz=>by
 have hz:ZWc (show List Int from l) i0 j0=some z:=hz
 obtain ⟨i,rfl,rfl,hin,rfl⟩:=Zms hz
 have hA:((Zc .i64)).rels v cs (show List Int from l):=hA
 have hin:i<n:=by rw [hn];exact hin
 have hcs:cs.length=n*((Zc .i64)).n:=by rw [hn];exact Z8c hA
 refine ⟨fun _ _=>by kernel_rfl,?_⟩
 refine ZLr (K:=33) (args:=[.slice (mkA ob) n cap,.int .i64 (i:Int),.int .i64 ((i+1:Nat):Int)]) hv hh hnv Tryz.func129 rfl rfl zl fun fa hS=>?_
 obtain ⟨b,rfl⟩:=Zgd hS (j:=0) rfl (by omega)
 obtain ⟨_,cur,hg,hnc,hcx,hcu,htk⟩:=(hS.loc _ (List.mem_of_getElem? (i:=0) rfl)).1
 unfold maxLen at hcx
 refine sr ?_
 refine mw hS rfl fun fa hS=>?_
 refine oe ?_
 refine sr ?_
 refine mv hS rfl fun fa hS=>?_
 refine mv hS rfl fun fa hS=>?_
 refine mv hS rfl fun fa hS=>?_
 refine mv hS rfl fun fa hS=>?_
 refine ov hS rfl (ZRb hS rfl rfl ZBf) fun fa hS=>?_
 have h3 := @ZRp _ _ _ _ _ _ _ _ _ (some 13) 76 "" #[] none hS 76 3 ((Zc .i64)).n b n cap i (i + 1) n (.tmp 8) (.tmp 9) (.tmp 10) (.tmp 12) .i64 .i64 .i64 ZBf rfl rfl rfl rfl (by omega) (by omega) hnc
 obtain ⟨y3,h3⟩:=h3
 refine ov hS rfl h3 fun fa hS=>?_
 refine oe ?_
 refine wp_seq_k fun N1 hN1=>?_
 refine sr ?_
 refine mv hS rfl fun fa hS=>?_
 refine mv hS rfl fun fa hS=>?_
 refine ov hS rfl (Zr hS rfl rfl ZRf) fun fa hS=>?_
 refine oe ?_
 refine ZV hS rfl (by simp only [beq_eq_false_iff_ne,ne_eq];omega) ?_
 refine wp_skip ?_
 refine Zg (hN1 _ _ ?_)
 refine sr ?_
 refine mv hS rfl fun fa hS=>?_
 refine ov hS rfl (ZRb hS rfl rfl ZBf) fun fa hS=>?_
 refine mw hS rfl fun fa hS=>?_
 refine oe ?_
 refine wp_seq_k fun N2 hN2=>?_
 refine Z8e (fl:=#[true,true,true,true,true,true,false,false]) ZOw (by kernel_rfl) hS ?_
 intro ops hops hF wo hS
 refine rf hops hF 0 rfl (by kernel_rfl) rfl hS (ZH hS rfl) fun fa hS=>?_
 refine rf hops hF 1 rfl (by kernel_rfl) rfl hS (ZH hS rfl) fun fa hS=>?_
 refine rf hops hF 2 rfl (by kernel_rfl) rfl hS (ZNl hS ZBf rfl rfl (by omega) (by omega)) fun fa hS=>?_
 refine rf hops hF 3 rfl (by kernel_rfl) rfl hS (ZH hS rfl) fun fa hS=>?_
 refine rf hops hF 4 rfl (by kernel_rfl) rfl hS (ZH hS rfl) fun fa hS=>?_
 obtain ⟨ad,had,hsrc⟩:∃ ad:Addr,(if cap=i+1 then mkA (some b) else (mkA (some b)).map (·.add ((i+1)*((Zc .i64)).n)))=some ad∧∀ j u,(cs.drop ((i+1)*((Zc .i64)).n))[j]? = some u→wo.cell? (ad.add j)=some u:=by
  by_cases h:cap=i+1
  ·refine ⟨⟨b,0,none⟩,by rw [if_pos h];rfl,fun j u hu=>?_⟩;have:cs.drop ((i+1)*((Zc .i64)).n)=[]:=List.drop_eq_nil_of_le (by rw [hcs];exact Nat.mul_le_mul_right _ (by omega));rw [this] at hu;simp at hu
  ·refine ⟨(⟨b,0,none⟩:Addr).add ((i+1)*((Zc .i64)).n),by rw [if_neg h];rfl,fun j u hu=>?_⟩;have:=ZZf hS (j:=0) rfl ((i+1)*((Zc .i64)).n+j) u (by rw [List.getElem?_drop] at hu;exact hu);rw [show ((⟨b,0,none⟩:Addr).add ((i+1)*((Zc .i64)).n)).add j=(⟨b,0,none⟩:Addr).add ((i+1)*((Zc .i64)).n+j) by simp only [ZFa,Nat.add_assoc]];exact this
 refine rf hops hF 5 rfl (by kernel_rfl) rfl hS (ZWo hS ZBf rfl rfl (by omega)) fun fa hS=>?_;rw [had] at hS;have hdl:(cs.drop ((i+1)*((Zc .i64)).n)).length=(n-(i+1))*((Zc .i64)).n:=by rw [List.length_drop,hcs,Nat.sub_mul]
 obtain ⟨wo',hr,hS'⟩:=ZPn (t:=76) (ty:=76) ZPs hS (i:=0) rfl (q:=i) (m:=n-(i+1)) (c:=cap-(i+1)) (ad:=ad) (news:=cs.drop ((i+1)*((Zc .i64)).n)) hdl hsrc (by rw [List.all_eq_true];intro y hy;exact List.all_eq_true.1 (ZIg hA) y (List.mem_of_mem_drop hy)) (by omega);rw [show i+(n-(i+1))=n-1 by omega] at hr;refine Z1e hops hF 6 (by kernel_rfl) ?_;refine Zol [2,5,0,1,3,4] [] hops rfl (by kernel_rfl) wn rfl zl (Z5o hS rfl rfl hr) hS' fun fa hS=>?_;refine ⟨ZKa,?_⟩;refine Z1e hops hF 7 (by kernel_rfl) ?_;refine nv [0,1,2,3,4,5,6] [] hops rfl (by kernel_rfl) rfl hS (ZLc hS rfl) fun fa hS=>?_;refine ⟨ZKa,?_⟩;refine ZNi hops hF (by kernel_rfl) ?_;refine Zg (hN2 _ _ ?_);refine sr ?_;refine mv hS rfl fun fa hS=>?_;refine mv hS rfl fun fa hS=>?_;refine ov hS rfl (ZRb hS rfl rfl ZBf) fun fa hS=>?_;refine mv hS rfl fun fa hS=>?_;refine ov hS rfl (ZLs hS ZBf rfl rfl rfl (by omega) (by omega) (by omega)) fun fa hS=>?_;obtain ⟨wo2,zc,hzl,hr,hS'⟩:=Zjo (t:=76) (ty:=76) ZPs hS (i:=0) rfl (p:=n-1) (c:=cap-(n-1)) (by omega) (List.all_eq_true.1 (by kernel_rfl));have hn1:n-(n-1)=1:=by omega
 rw [hn1] at hS hS';refine Zcp wn rfl (Zfo hS rfl (hr _)) ?_;refine oe ?_;have hS:=hS'.narrow (i:=0) rfl (m:=n-1) (by omega);refine sr ?_;refine mv hS rfl fun fa hS=>?_;refine mw hS rfl fun fa hS=>?_;refine oe ?_;refine wp_ret ?_;refine ZYp hS (i:=0) rfl (ZHa rfl (ZK hS rfl)) ?_ (show n-1=(List.take i l++List.drop (i+1) l).length by rw [List.length_append,List.length_take,List.length_drop,← hn];omega);rw [Z4q hcs hin hzl];exact Zcc (Znf i (ZP hS.vst.le hA)) (Zte (i+1) (ZP hS.vst.le hA))
set_option maxRecDepth 100000
theorem ZHn:Elem Tryz.prog 36 32 (ZN).n 56 (Value.agg #[Value.bool false,Value.slice none 0 0,Value.slice none 0 0]):=⟨Tryz.underlying36,by kernel_rfl,rfl,by decide⟩
theorem Zof:ZGb Tryz.prog 36 32 (ZN).n:=⟨fun _=>by kernel_rfl,fun _=>by kernel_rfl⟩
theorem Zzx:Tryz.prog.follows .mixedOrders=true:=by kernel_rfl
noncomputable def ZHm:FuncId×ConD:=(130,⟨32,.leaf 3,fun l i j=>ZWc l i j⟩)
theorem ZZv:Zlg Tryz.prog ZHm.1 ZHm.2:=fun w v ob n cap cs l i0 j0 z hv hh hnv hA hn hi hj hz=>by
 have hz:ZWc (show List Rat from l) i0 j0=some z:=hz
 obtain ⟨i,rfl,rfl,hin,rfl⟩:=Zms hz
 have hA:(ZN).rels v cs (show List Rat from l):=hA
 have hin:i<n:=by rw [hn];exact hin
 have hcs:cs.length=n*(ZN).n:=by rw [hn];exact Z8c hA
 refine ⟨fun _ _=>by kernel_rfl,?_⟩
 refine ZLr (K:=33) (args:=[.slice (mkA ob) n cap,.int .i64 (i:Int),.int .i64 ((i+1:Nat):Int)]) hv hh hnv Tryz.func130 rfl rfl zl fun fa hS=>?_
 obtain ⟨b,rfl⟩:=Zgd hS (j:=0) rfl (by omega)
 obtain ⟨_,cur,hg,hnc,hcx,hcu,htk⟩:=(hS.loc _ (List.mem_of_getElem? (i:=0) rfl)).1
 unfold maxLen at hcx
 refine sr ?_
 refine mw hS rfl fun fa hS=>?_
 refine oe ?_
 refine sr ?_
 refine mv hS rfl fun fa hS=>?_
 refine mv hS rfl fun fa hS=>?_
 refine mv hS rfl fun fa hS=>?_
 refine mv hS rfl fun fa hS=>?_
 refine ov hS rfl (ZRb hS rfl rfl Zof) fun fa hS=>?_
 have h3 := @ZRp _ _ _ _ _ _ _ _ _ (some 13) 36 "" #[] none hS 36 32 (ZN).n b n cap i (i + 1) n (.tmp 8) (.tmp 9) (.tmp 10) (.tmp 12) .i64 .i64 .i64 Zof rfl rfl rfl rfl (by omega) (by omega) hnc
 obtain ⟨y3,h3⟩:=h3
 refine ov hS rfl h3 fun fa hS=>?_
 refine oe ?_
 refine wp_seq_k fun N1 hN1=>?_
 refine sr ?_
 refine mv hS rfl fun fa hS=>?_
 refine mv hS rfl fun fa hS=>?_
 refine ov hS rfl (Zr hS rfl rfl ZRf) fun fa hS=>?_
 refine oe ?_
 refine ZV hS rfl (by simp only [beq_eq_false_iff_ne,ne_eq];omega) ?_
 refine wp_skip ?_
 refine Zg (hN1 _ _ ?_)
 refine sr ?_
 refine mv hS rfl fun fa hS=>?_
 refine ov hS rfl (ZRb hS rfl rfl Zof) fun fa hS=>?_
 refine mw hS rfl fun fa hS=>?_
 refine oe ?_
 refine wp_seq_k fun N2 hN2=>?_
 refine Z8e (fl:=#[true,true,true,true,true,true,false,false]) Zzx (by kernel_rfl) hS ?_
 intro ops hops hF wo hS
 refine rf hops hF 0 rfl (by kernel_rfl) rfl hS (ZH hS rfl) fun fa hS=>?_
 refine rf hops hF 1 rfl (by kernel_rfl) rfl hS (ZH hS rfl) fun fa hS=>?_
 refine rf hops hF 2 rfl (by kernel_rfl) rfl hS (ZNl hS Zof rfl rfl (by omega) (by omega)) fun fa hS=>?_
 refine rf hops hF 3 rfl (by kernel_rfl) rfl hS (ZH hS rfl) fun fa hS=>?_
 refine rf hops hF 4 rfl (by kernel_rfl) rfl hS (ZH hS rfl) fun fa hS=>?_
 obtain ⟨ad,had,hsrc⟩:∃ ad:Addr,(if cap=i+1 then mkA (some b) else (mkA (some b)).map (·.add ((i+1)*(ZN).n)))=some ad∧∀ j u,(cs.drop ((i+1)*(ZN).n))[j]? = some u→wo.cell? (ad.add j)=some u:=by
  by_cases h:cap=i+1
  ·refine ⟨⟨b,0,none⟩,by rw [if_pos h];rfl,fun j u hu=>?_⟩;have:cs.drop ((i+1)*(ZN).n)=[]:=List.drop_eq_nil_of_le (by rw [hcs];exact Nat.mul_le_mul_right _ (by omega));rw [this] at hu;simp at hu
  ·refine ⟨(⟨b,0,none⟩:Addr).add ((i+1)*(ZN).n),by rw [if_neg h];rfl,fun j u hu=>?_⟩;have:=ZZf hS (j:=0) rfl ((i+1)*(ZN).n+j) u (by rw [List.getElem?_drop] at hu;exact hu);rw [show ((⟨b,0,none⟩:Addr).add ((i+1)*(ZN).n)).add j=(⟨b,0,none⟩:Addr).add ((i+1)*(ZN).n+j) by simp only [ZFa,Nat.add_assoc]];exact this
 refine rf hops hF 5 rfl (by kernel_rfl) rfl hS (ZWo hS Zof rfl rfl (by omega)) fun fa hS=>?_;rw [had] at hS;have hdl:(cs.drop ((i+1)*(ZN).n)).length=(n-(i+1))*(ZN).n:=by rw [List.length_drop,hcs,Nat.sub_mul]
 obtain ⟨wo',hr,hS'⟩:=ZPn (t:=36) (ty:=36) ZHn hS (i:=0) rfl (q:=i) (m:=n-(i+1)) (c:=cap-(i+1)) (ad:=ad) (news:=cs.drop ((i+1)*(ZN).n)) hdl hsrc (by rw [List.all_eq_true];intro y hy;exact List.all_eq_true.1 (ZIg hA) y (List.mem_of_mem_drop hy)) (by omega);rw [show i+(n-(i+1))=n-1 by omega] at hr;refine Z1e hops hF 6 (by kernel_rfl) ?_;refine Zol [2,5,0,1,3,4] [] hops rfl (by kernel_rfl) wn rfl zl (Z5o hS rfl rfl hr) hS' fun fa hS=>?_;refine ⟨ZKa,?_⟩;refine Z1e hops hF 7 (by kernel_rfl) ?_;refine nv [0,1,2,3,4,5,6] [] hops rfl (by kernel_rfl) rfl hS (ZLc hS rfl) fun fa hS=>?_;refine ⟨ZKa,?_⟩;refine ZNi hops hF (by kernel_rfl) ?_;refine Zg (hN2 _ _ ?_);refine sr ?_;refine mv hS rfl fun fa hS=>?_;refine mv hS rfl fun fa hS=>?_;refine ov hS rfl (ZRb hS rfl rfl Zof) fun fa hS=>?_;refine mv hS rfl fun fa hS=>?_;refine ov hS rfl (ZLs hS Zof rfl rfl rfl (by omega) (by omega) (by omega)) fun fa hS=>?_;obtain ⟨wo2,zc,hzl,hr,hS'⟩:=Zjo (t:=36) (ty:=36) ZHn hS (i:=0) rfl (p:=n-1) (c:=cap-(n-1)) (by omega) (List.all_eq_true.1 (by kernel_rfl));have hn1:n-(n-1)=1:=by omega
 rw [hn1] at hS hS';refine Zcp wn rfl (Zfo hS rfl (hr _)) ?_;refine oe ?_;have hS:=hS'.narrow (i:=0) rfl (m:=n-1) (by omega);refine sr ?_;refine mv hS rfl fun fa hS=>?_;refine mw hS rfl fun fa hS=>?_;refine oe ?_;refine wp_ret ?_;refine ZYp hS (i:=0) rfl (ZHa rfl (ZK hS rfl)) ?_ (show n-1=(List.take i l++List.drop (i+1) l).length by rw [List.length_append,List.length_take,List.length_drop,← hn];omega);rw [Z4q hcs hin hzl];exact Zcc (Znf i (ZP hS.vst.le hA)) (Zte (i+1) (ZP hS.vst.le hA))
end Go.Eng
set_option maxRecDepth 100000
set_option maxHeartbeats 4000000
namespace Go.Eng
open Go.Proofs Go.RowKit
noncomputable def ZZs:FuncId×ConB:=(105,⟨189,(.agg (.cons (.mat 36 32 (.leaf 3)) (.cons (.own 32 (.leaf 3)) (.cons (.own 32 (.leaf 3)) (.cons (.dat (.leaf 3)) (.cons (.own 3 (.int .i64)) (.one (.own 3 (.int .i64))))))))),[.pair (.slice (.slice (.leaf 3))) (.pair (.slice (.leaf 3)) (.slice (.leaf 3)))],[.slice (.leaf 3),.bool],fun z x=>Zqj z x⟩)
theorem Zuw : KB ZZs := ZHg (C := cf1 [Zvi, ZCf, Zbe, Zzc, Zue, Zag, ZAf] [100182] [Z3f] [((32, "Add"), 12), ((32, "Cmp"), 13), ((32, "Mul"), 66), ((32, "Sign"), 15), ((32, "Sub"), 16), ((32, "Zero"), 11)] [] [Z3m, Z3o, ZJl] [Zil, ZHm]) (.n (.n (.n (.two (.n (.f (.l [0, 3, 6, 7, 8, 34, 35] [] [.s 9 (.dat (.int .i64)), .s 36 (.dat (.int .i64))] 0 [0, 3, 6, 7, 8] [] [.s 9 (.dat (.int .i64))] (.f (.n (.n (.f (.f (.n (.two (.j [0, 3, 6, 7, 8, 9, 10, 34, 35, 36] [] [.s 61 (.dat .bool)] .no) (.j [0, 3, 6, 7, 8, 34, 35, 36] [] [.s 9 (.dat (.int .i64))] .no))))))))))) (.n (.two (.n (.f (.l [0, 3, 6, 7, 8, 9, 70] [] [.s 71 (.dat (.int .i64)), .l (.sl 69) (.mat 36 32 (.leaf 3))] 2 [0, 3, 6, 7, 8, 9] [] [.l (.sl 69) (.mat 36 32 (.leaf 3))] .no))) (.n (.n (.n (.n (.n (.two (.n (.n (.j [0, 3, 8] [.fld (.sl 0) 0, .fld (.sl 0) 1, .fld (.sl 0) 2, .fld (.sl 0) 6, .fld (.sl 0) 7] [.l (.sl 0) (.box 189 (.agg (.cons (.mat 36 32 (.leaf 3)) (.cons (.own 32 (.leaf 3)) (.cons (.own 32 (.leaf 3)) (.cons (.dat (.leaf 3)) (.cons (.own 3 (.int .i64)) (.one (.own 3 (.int .i64))))))))))] .no))) (.n (.n (.two (.n (.f (.l [0, 3, 14, 167] [] [.s 168 (.dat (.int .i64)), .l (.sl 166) (.mat 36 32 (.leaf 3))] 4 [0, 3] [] [.l (.sl 166) (.mat 36 32 (.leaf 3))] .no))) (.n (.f (.n (.f (.l [0, 203, 204] [.fld (.sl 0) 0, .fld (.sl 0) 1, .fld (.sl 0) 6, .fld (.sl 0) 7, .fld (.sl 0) 2] [.s 205 (.dat (.int .i64)), .l (.sl 0) (.box 189 (.agg (.cons (.mat 36 32 (.leaf 3)) (.cons (.own 32 (.leaf 3)) (.cons (.own 32 (.leaf 3)) (.cons (.dat (.leaf 3)) (.cons (.own 3 (.int .i64)) (.one (.own 3 (.int .i64))))))))))] 6 [] [.fld (.sl 0) 0, .fld (.sl 0) 1, .fld (.sl 0) 6, .fld (.sl 0) 7, .fld (.sl 0) 2] [.l (.sl 0) (.box 189 (.agg (.cons (.mat 36 32 (.leaf 3)) (.cons (.own 32 (.leaf 3)) (.cons (.own 32 (.leaf 3)) (.cons (.dat (.leaf 3)) (.cons (.own 3 (.int .i64)) (.one (.own 3 (.int .i64))))))))))] (.f (.n (.n (.f (.j [0, 203, 204, 205] [.fld (.sl 0) 0, .fld (.sl 0) 1, .fld (.sl 0) 2, .fld (.sl 0) 6, .fld (.sl 0) 7] [.l (.sl 0) (.box 189 (.agg (.cons (.mat 36 32 (.leaf 3)) (.cons (.own 32 (.leaf 3)) (.cons (.own 32 (.leaf 3)) (.cons (.dat (.leaf 3)) (.cons (.own 3 (.int .i64)) (.one (.own 3 (.int .i64))))))))))] (.f (.n (.n (.n (.n (.n (.f (.l [0, 17, 203, 204, 205, 265, 266] [] [.s 267 (.dat (.int .i64)), .l (.fld (.sl 0) 2) (.own 32 (.leaf 3))] 8 [0, 203, 204, 205] [] [.l (.fld (.sl 0) 2) (.own 32 (.leaf 3))] .no))))))))))))))))))))))))))))))))) Tryz.func105 [(81, Tryz.f81, .no), (124, Tryz.f124, .r [] [] [.s 1000 (.dat (.int .i64))] (.n (.f (.n (.f (.cut ⟨⟨[0, 1, 7], [], [.s 8 (.dat (.int .i64))]⟩, [(.exit 0, ⟨[], [], []⟩), (.ret, ⟨[], [], [.s 1000 (.dat (.int .i64))]⟩)]⟩ .no)))))), (127, Tryz.f127, .r [] [] [.s 1000 (.dat (.int .i64))] (.n (.f (.n (.f (.cut ⟨⟨[0, 1, 7], [], [.s 8 (.dat (.int .i64))]⟩, [(.exit 0, ⟨[], [], []⟩), (.ret, ⟨[], [], [.s 1000 (.dat (.int .i64))]⟩)]⟩ .no)))))), (128, Tryz.f128, .no)] (fun _ _ => by kernel_rfl) ⟨ZAk, ZJg, Zcf, ZSc, ZLf, Zoh, Zjg, tr⟩ ⟨ZBi, tr⟩ ⟨ZWn, Zjs, ZRs, ZFk, Zgr, Zvp, tr⟩ ⟨⟨Tryz.func81, fun _ _ => by kernel_rfl⟩, ⟨Tryz.func124, fun _ _ => by kernel_rfl⟩, ⟨Tryz.func127, fun _ _ => by kernel_rfl⟩, ⟨Tryz.func128, fun _ _ => by kernel_rfl⟩, tr⟩ tr ⟨Z9o, Zdy, Zmq, tr⟩ ⟨Zrw, ZZv, tr⟩
end Go.Eng
set_option maxRecDepth 100000
set_option maxHeartbeats 4000000
namespace Go.Eng
open Go.Proofs Go.RowKit
noncomputable def ZNo:FuncId×Con:=(83,⟨[.pair (.slice (.slice (.leaf 3))) (.pair (.slice (.leaf 3)) (.slice (.leaf 3)))],[.pair (.int .i64) (.pair (.leaf 3) (.pair (.slice (.leaf 3)) (.pair (.slice (.leaf 3)) (.slice (.leaf 3)))))],fun p=>Zgi p⟩)
theorem ZAt : KQ ZNo := ZA (Zea (C := cf1 [ZYd, ZAf, ZNs, Zds] [] [Z9h, Z3f] [((32, "Neg"), 38)] [ZJs] [ZZs, Z3m] []) (.n (.n (.n (.n (.n (.two (.j [2, 3, 4, 6] [] [.s 5 (.dat (.ptr (.pair (.slice (.slice (.leaf 3))) (.pair (.slice (.leaf 3)) (.pair (.slice (.leaf 3)) (.pair (.leaf 3) (.pair (.slice (.int .i64)) (.slice (.int .i64))))))))), .s 9 (.dat (.int .i64))] .no) (.n (.n (.two (.n (.n (.j [2, 3, 5, 6, 9, 10] [] [.l (.sl 10) (.own 32 (.leaf 3))] .no))) (.f (.n (.f (.l [2, 3, 5, 6, 9, 10, 69, 70] [] [.s 71 (.dat (.int .i64)), .l (.sl 10) (.own 32 (.leaf 3))] 0 [2, 3, 5, 6, 10] [] [.l (.sl 10) (.own 32 (.leaf 3))] (.f (.n (.n (.f (.f (.n (.n (.j [2, 3, 5, 6, 9, 10, 69, 70, 71] [] [.l (.sl 10) (.own 32 (.leaf 3))] .no))))))))))))))))))))) Tryz.func83 [(81, Tryz.f81, .no), (104, Tryz.f104, .n (.n (.two (.n (.f (.l [1, 3, 20] [.fld (.sl 3) 0, .fld (.sl 3) 1, .fld (.sl 3) 2] [.s 21 (.dat (.int .i64)), .l (.sl 3) (.box 189 (.agg (.cons (.mat 36 32 (.leaf 3)) (.cons (.own 32 (.leaf 3)) (.cons (.own 32 (.leaf 3)) (.cons (.dat (.leaf 3)) (.cons (.own 3 (.int .i64)) (.one (.own 3 (.int .i64))))))))))] 0 [1, 3] [.fld (.sl 3) 0, .fld (.sl 3) 1, .fld (.sl 3) 2] [.l (.sl 3) (.box 189 (.agg (.cons (.mat 36 32 (.leaf 3)) (.cons (.own 32 (.leaf 3)) (.cons (.own 32 (.leaf 3)) (.cons (.dat (.leaf 3)) (.cons (.own 3 (.int .i64)) (.one (.own 3 (.int .i64))))))))))] .no))) (.f (.n (.f (.l [1, 3, 37] [.fld (.sl 3) 0, .fld (.sl 3) 1, .fld (.sl 3) 2, .fld (.sl 3) 6, .fld (.sl 3) 7] [.s 38 (.dat (.int .i64)), .l (.sl 3) (.box 189 (.agg (.cons (.mat 36 32 (.leaf 3)) (.cons (.own 32 (.leaf 3)) (.cons (.own 32 (.leaf 3)) (.cons (.dat (.leaf 3)) (.cons (.own 3 (.int .i64)) (.one (.own 3 (.int .i64))))))))))] 2 [3] [.fld (.sl 3) 0, .fld (.sl 3) 1, .fld (.sl 3) 2, .fld (.sl 3) 6, .fld (.sl 3) 7] [.l (.sl 3) (.box 189 (.agg (.cons (.mat 36 32 (.leaf 3)) (.cons (.own 32 (.leaf 3)) (.cons (.own 32 (.leaf 3)) (.cons (.dat (.leaf 3)) (.cons (.own 3 (.int .i64)) (.one (.own 3 (.int .i64))))))))))] .no)))))))] (fun _ => by kernel_rfl) ⟨ZJe, Zjg, ZWu, Zmw, tr⟩ ⟨ZUl, ZBi, tr⟩ ⟨Z8f, tr⟩ ⟨⟨Tryz.func81, fun _ _ => by kernel_rfl⟩, ⟨Tryz.func104, fun _ _ => by kernel_rfl⟩, tr⟩ ⟨Zlw, tr⟩ ⟨Zuw, Z9o, tr⟩)
end Go.Eng
set_option maxRecDepth 100000
set_option maxHeartbeats 4000000
namespace Go.Eng
open Go.Proofs Go.RowKit
noncomputable def Z0o:FuncId×Con:=(53,⟨[.slice (.slice (.leaf 3)),.slice (.leaf 3),.slice (.leaf 3)],[.pair (.leaf 3) (.pair (.slice (.leaf 3)) (.pair (.slice (.leaf 3)) (.slice (.leaf 3)))),.int .i64],fun p=>ZRi p.1 p.2.1 p.2.2⟩)
theorem ZHu : KQ Z0o := ZA (Zea (C := cf0 [ZYd, Zes, Zvr, Zak, ZAf, ZNo] [] [Z9h, Zxp, Zbk] [((32, "Neg"), 38)]) (.n (.n (.n (.n (.n (.two (.n (.f (.l [0, 2, 6, 8, 9, 10, 40, 41] [.fld (.sl 10) 1, .fld (.sl 10) 2] [.s 42 (.dat (.int .i64)), .l (.sl 10) (.box 161 (.agg (.cons (.own 36 (.slice (.leaf 3))) (.cons (.own 32 (.leaf 3)) (.one (.own 32 (.leaf 3)))))))] 0 [0, 2, 6, 8, 9, 10] [.fld (.sl 10) 1, .fld (.sl 10) 2] [.l (.sl 10) (.box 161 (.agg (.cons (.own 36 (.slice (.leaf 3))) (.cons (.own 32 (.leaf 3)) (.one (.own 32 (.leaf 3)))))))] .no))) (.f (.n (.f (.l [2, 6, 8, 9, 10, 63, 64] [.fld (.sl 10) 0, .fld (.sl 10) 1, .fld (.sl 10) 2] [.s 65 (.dat (.int .i64)), .l (.sl 10) (.box 161 (.agg (.cons (.own 36 (.slice (.leaf 3))) (.cons (.own 32 (.leaf 3)) (.one (.own 32 (.leaf 3)))))))] 2 [6, 8, 9, 10] [.fld (.sl 10) 0, .fld (.sl 10) 1, .fld (.sl 10) 2] [.l (.sl 10) (.box 161 (.agg (.cons (.own 36 (.slice (.leaf 3))) (.cons (.own 32 (.leaf 3)) (.one (.own 32 (.leaf 3)))))))] .no)))))))))) Tryz.func53 [] (fun _ => by kernel_rfl) ⟨ZJe, ZHw, Z2u, ZFl, Zjg, ZAt, tr⟩ ⟨ZUl, Zcx, ZRk, tr⟩ ⟨Z8f, tr⟩)
end Go.Eng
set_option maxRecDepth 100000
set_option maxHeartbeats 4000000
namespace Go.Eng
open Go.Proofs Go.RowKit
noncomputable def ZDm:FuncId×Con:=(30,⟨[.slice (.pair (.leaf 3) (.pair (.leaf 3) (.pair (.leaf 3) (.leaf 3)))),.slice (.leaf 3)],[.pair (.pair (.leaf 3) (.slice (.pair (.leaf 3) (.leaf 3)))) (.pair (.leaf 3) (.slice (.pair (.leaf 3) (.leaf 3)))),.int .i64],fun p=>ZOe p.1 p.2⟩)
theorem ZGo:KQ ZDm:=ZA (Zea (C:=cf0 [Zxe,Zue,ZCs,Zam,Z0o] [] [] []) (.n (.n (.n (.two (.n (.f (.l [0,1,4,23,24] [] [.s 6 (.own 36 (.slice (.leaf 3))),.s 7 (.own 32 (.leaf 3)),.s 8 (.own 32 (.leaf 3)),.s 25 (.dat (.int .i64))] 0 [0,1,4] [] [.s 6 (.own 36 (.slice (.leaf 3))),.s 7 (.own 32 (.leaf 3)),.s 8 (.own 32 (.leaf 3))] (.f (.n (.n (.f (.f (.n (.n (.f (.n (.f (.l [0,1,4,6,7,8,10,23,24,25,33,34] [] [.s 11 (.own 32 (.leaf 3)),.s 12 (.own 32 (.leaf 3)),.s 35 (.dat (.int .i64))] 2 [0,1,4,6,7,8,10,23,24,25] [] [.s 11 (.own 32 (.leaf 3)),.s 12 (.own 32 (.leaf 3))] .no)))))))))))))) (.n (.n (.n (.two (.n (.f (.l [0,4,17,19,92,93] [] [.s 94 (.dat (.int .i64)),.l (.sl 19) (.box 45 (.agg (.cons (.agg (.cons (.dat (.leaf 3)) (.one (.own 50 (.pair (.leaf 3) (.leaf 3)))))) (.cons (.dat (.leaf 3)) (.one (.own 126 (.pair (.leaf 3) (.leaf 3))))))))] 4 [0,4,17,19] [] [.l (.sl 19) (.box 45 (.agg (.cons (.agg (.cons (.dat (.leaf 3)) (.one (.own 50 (.pair (.leaf 3) (.leaf 3)))))) (.cons (.dat (.leaf 3)) (.one (.own 126 (.pair (.leaf 3) (.leaf 3))))))))] .no))) (.n (.f (.n (.f (.l [4,17,19,121] [.fld (.sl 19) 3,.fld (.sl 19) 7] [.s 122 (.dat (.int .i64)),.l (.sl 19) (.box 45 (.agg (.cons (.dat (.pair (.leaf 3) (.slice (.pair (.leaf 3) (.leaf 3))))) (.cons (.dat (.leaf 3)) (.one (.own 126 (.pair (.leaf 3) (.leaf 3))))))))] 6 [4,19] [.fld (.sl 19) 3,.fld (.sl 19) 7] [.l (.sl 19) (.box 45 (.agg (.cons (.dat (.pair (.leaf 3) (.slice (.pair (.leaf 3) (.leaf 3))))) (.cons (.dat (.leaf 3)) (.one (.own 126 (.pair (.leaf 3) (.leaf 3))))))))] .no))))))))))))) Tryz.func30 [] (fun _=>by kernel_rfl) ⟨ZGf,ZLf,ZWx,Zzn,ZHu,tr⟩)
end Go.Eng
set_option maxRecDepth 100000
set_option maxHeartbeats 4000000
namespace Go.Eng
open Go.Proofs Go.RowKit
noncomputable def ZCl:FuncId×Con:=(46,⟨[.slice (.pair (.leaf 3) (.pair (.leaf 3) (.pair (.leaf 3) (.leaf 3)))),.slice (.pair (.leaf 3) (.pair (.leaf 3) (.pair (.leaf 3) (.leaf 3)))),.leaf 3],[.slice (.pair (.leaf 3) (.pair (.leaf 3) (.pair (.leaf 3) (.leaf 3))))],fun p=>Zbf p.1 p.2.1 p.2.2⟩)
theorem Zlr:KQ ZCl:=ZA (Zea (C:=cf0 [Zag] [] [] []) (.n (.n (.f (.n (.f (.l [5,13,14] [] [.s 7 (.own 53 (.pair (.leaf 3) (.pair (.leaf 3) (.pair (.leaf 3) (.leaf 3))))),.s 15 (.dat (.int .i64))] 0 [] [] [.s 7 (.own 53 (.pair (.leaf 3) (.pair (.leaf 3) (.pair (.leaf 3) (.leaf 3)))))] .no)))))) Tryz.func46 [] (fun _=>by kernel_rfl) ⟨Zoh,tr⟩)
end Go.Eng
set_option maxRecDepth 100000
set_option maxHeartbeats 4000000
namespace Go.Eng
open Go.Proofs Go.RowKit
noncomputable def ZIm:FuncId×Con:=(45,⟨[.slice (.pair (.leaf 3) (.pair (.leaf 3) (.pair (.leaf 3) (.leaf 3)))),.slice (.pair (.leaf 3) (.pair (.leaf 3) (.pair (.leaf 3) (.leaf 3)))),.slice (.leaf 3),.slice (.leaf 3)],[.int .i64,.leaf 3,.int .i64],fun p=>ZSf p.1 p.2.1 p.2.2.1 p.2.2.2⟩)
theorem ZNq:KQ ZIm:=ZA (Zea (C:=cf0 [Zbe,ZDm,ZCl] [] [] []) (.n (.n (.n (.f (.n (.f (.cut ⟨⟨[0,1,3,9,12,17,18],[],[.s 11 (.dat (.int .i64)),.s 19 (.dat (.int .i64)),.l (.sl 12) (.box 32 (.dat (.leaf 3)))]⟩,[(.exit 0,⟨[9,12],[],[.s 11 (.dat (.int .i64)),.l (.sl 12) (.box 32 (.dat (.leaf 3)))]⟩),(.ret,⟨[],[],[.s 1000 (.dat (.int .i64)),.s 1001 (.dat (.leaf 3)),.s 1002 (.dat (.int .i64))]⟩)]⟩ (.f (.n (.n (.f (.f (.n (.n (.n (.two (.j [0,1,3,9,11,12,13,15,17,18,19] [] [.s 45 (.dat .bool)] .no) (.j [0,1,3,9,12,17,18,19] [] [.s 11 (.dat (.int .i64)),.l (.sl 12) (.box 32 (.dat (.leaf 3)))] .no))))))))))))))))) Tryz.func45 [] (fun _=>by kernel_rfl) ⟨Zcf,ZGo,Zlr,tr⟩)
end Go.Eng
set_option maxRecDepth 100000
set_option maxHeartbeats 4000000
namespace Go.Eng
open Go.Proofs Go.RowKit
noncomputable def Z1n:FuncId×Con:=(22,⟨[.slice (.pair (.leaf 3) (.pair (.leaf 3) (.pair (.leaf 3) (.leaf 3)))),.slice (.pair (.leaf 3) (.pair (.leaf 3) (.pair (.leaf 3) (.leaf 3)))),.slice (.leaf 3),.slice (.leaf 3)],[.int .i64,.leaf 3,.int .i64],fun p=>ZYj p.1 p.2.1 p.2.2.1 p.2.2.2⟩)
theorem Zvv:KQ Z1n:=ZA (Zea (C:=cf0 [Zhn,ZZl,Zyl,ZIm] [200021] [] []) (.n (.f (.n (.f (.cut ⟨⟨[0,1,2,3,9,18],[],[.s 19 (.dat (.int .i64))]⟩,[(.exit 0,⟨[0,1,2,3,9],[],[]⟩),(.ret,⟨[],[],[.s 1000 (.dat (.int .i64)),.s 1001 (.dat (.leaf 3)),.s 1002 (.dat (.int .i64))]⟩)]⟩ (.f (.n (.n (.f (.f (.f (.j [0,1,2,3,9,18,19] [] [.s 12 (.dat (.slice (.pair (.leaf 3) (.pair (.leaf 3) (.pair (.leaf 3) (.leaf 3))))))] .no)))))))))))) Tryz.func22 [] (fun _=>by kernel_rfl) ⟨ZKo,ZRq,Zdp,ZNq,tr⟩)
end Go.Eng
set_option maxRecDepth 100000
set_option maxHeartbeats 4000000
namespace Go.Eng
open Go.Proofs Go.RowKit
noncomputable def Zsq:FuncId×Con:=(23,⟨[.slice (.slice (.pair (.leaf 3) (.pair (.leaf 3) (.pair (.leaf 3) (.leaf 3))))),.slice (.leaf 3),.slice (.leaf 3)],[.slice (.int .i64),.pair (.pair (.leaf 3) (.slice (.pair (.leaf 3) (.leaf 3)))) (.pair (.leaf 3) (.slice (.pair (.leaf 3) (.leaf 3)))),.int .i64],fun p=>Zej p.1 p.2.1 p.2.2⟩)
theorem Z2v:KQ Zsq:=ZA (Zea (C:=cf0 [Zhn,ZZl,ZDm,Zyl,ZIm,ZCl] [] [] []) (.n (.two (.f (.j [0,1,2,7] [] [.s 31 (.dat .bool)] .no)) (.n (.two (.n (.f (.cut ⟨⟨[0,1,2,7,33,34],[],[.s 9 (.dat (.int .i64)),.s 35 (.dat (.int .i64))]⟩,[(.exit 0,⟨[0,1,2,7],[],[.s 9 (.dat (.int .i64))]⟩),(.ret,⟨[],[],[.s 1000 (.dat (.slice (.int .i64))),.s 1001 (.agg (.cons (.agg (.cons (.dat (.leaf 3)) (.one (.dat (.slice (.pair (.leaf 3) (.leaf 3))))))) (.cons (.dat (.leaf 3)) (.one (.dat (.slice (.pair (.leaf 3) (.leaf 3)))))))),.s 1002 (.dat (.int .i64))]⟩)]⟩ .no))) (.n (.n (.n (.n (.f (.n (.f (.cut ⟨⟨[1,2,7,70,71],[],[.s 15 (.dat (.slice (.pair (.leaf 3) (.pair (.leaf 3) (.pair (.leaf 3) (.leaf 3)))))),.s 16 (.own 3 (.int .i64)),.s 72 (.dat (.int .i64))]⟩,[(.exit 2,⟨[2,7],[],[.s 15 (.dat (.slice (.pair (.leaf 3) (.pair (.leaf 3) (.pair (.leaf 3) (.leaf 3)))))),.s 16 (.own 3 (.int .i64))]⟩),(.ret,⟨[],[],[.s 1000 (.dat (.slice (.int .i64))),.s 1001 (.agg (.cons (.agg (.cons (.dat (.leaf 3)) (.one (.dat (.slice (.pair (.leaf 3) (.leaf 3))))))) (.cons (.dat (.leaf 3)) (.one (.dat (.slice (.pair (.leaf 3) (.leaf 3)))))))),.s 1002 (.dat (.int .i64))]⟩)]⟩ .no)))))))))))) Tryz.func23 [] (fun _=>by kernel_rfl) ⟨ZKo,ZRq,ZGo,Zdp,ZNq,Zlr,tr⟩)
end Go.Eng
set_option maxRecDepth 100000
set_option maxHeartbeats 4000000
namespace Go.Eng
open Go.Proofs Go.RowKit
noncomputable def Zxq:FuncId×ConP:=(8,⟨[.pair (.leaf 3) (.slice (.pair (.leaf 3) (.leaf 3))),.slice (.int .u8),.leaf 3],53,.pair (.leaf 3) (.pair (.leaf 3) (.pair (.leaf 3) (.leaf 3))),[.bool],fun p=>Z5h p.1 p.2.1 p.2.2⟩)
theorem ZCx:KPw Zxq:=conp_z (C:=cf0 [Zrj,Z4l] [] [] []) (.n (.n (.f (.n (.f (.cut ⟨⟨[3,5,15,16],[],[.s 8 (.own 53 (.pair (.leaf 3) (.pair (.leaf 3) (.pair (.leaf 3) (.leaf 3))))),.s 17 (.dat (.int .i64))]⟩,[(.exit 0,⟨[],[],[.s 8 (.own 53 (.pair (.leaf 3) (.pair (.leaf 3) (.pair (.leaf 3) (.leaf 3)))))]⟩),(.ret,⟨[],[],[.s 1000 (.own 53 (.pair (.leaf 3) (.pair (.leaf 3) (.pair (.leaf 3) (.leaf 3))))),.s 1001 (.dat .bool)]⟩)]⟩ .no)))))) Tryz.func8 [] (fun _=>by kernel_rfl) ⟨Zpl,Z4n,tr⟩
end Go.Eng
set_option maxRecDepth 100000
set_option maxHeartbeats 4000000
namespace Go.Eng
open Go.Proofs Go.RowKit
noncomputable def Zkv:FuncId×Con:=(5,⟨[.pair (.int .u8) (.pair (.int .u8) (.pair (.int .u8) (.int .u8))),.int .u8,.pair (.slice (.int .u8)) (.slice (.int .u8)),.slice (.int .u8),.int .u8],[.bool],fun p=>Zpk p.1 p.2.1 p.2.2.1 p.2.2.2.1 p.2.2.2.2⟩)
theorem Zew:KR Zkv:=Zea (C:=cf3 [ZJp,ZBs,Zxe,Zvi,Zrj,Zse,Z1n,Zsq] [] [] [] [] [] [] [Zxq]) (.n (.two (.f (.j [1,3,4,5,7] [] [.s 61 (.dat .bool)] .no)) (.n (.n (.n (.n (.two (.n (.f (.l [4,12,13,14,15,16,17,88,89] [] [.s 90 (.dat (.int .i64)),.l (.sl 17) (.own 32 (.leaf 3))] 0 [4,12,13,14,15,16,17] [] [.l (.sl 17) (.own 32 (.leaf 3))] .no))) (.n (.two (.n (.f (.cut ⟨⟨[12,13,14,15,16,17,20,114],[],[.s 115 (.dat (.int .i64)),.l (.sl 15) (.own 53 (.pair (.leaf 3) (.pair (.leaf 3) (.pair (.leaf 3) (.leaf 3)))))]⟩,[(.exit 2,⟨[12,13,14,15,16,17],[],[.l (.sl 15) (.own 53 (.pair (.leaf 3) (.pair (.leaf 3) (.pair (.leaf 3) (.leaf 3)))))]⟩),(.ret,⟨[],[],[.s 1000 (.dat .bool)]⟩)]⟩ .no))) (.n (.two (.f (.j [12,13,15,17,24] [] [.s 169 (.dat .bool)] .no)) (.n (.f (.j [] [] [.s 10 (.dat .bool)] .no)))))))))))))) Tryz.func5 [] (fun _=>by kernel_rfl) ⟨Z2w,Z3v,ZGf,ZAk,Zpl,ZJf,Zvv,Z2v,tr⟩ tr tr tr tr tr tr ⟨ZCx,tr⟩
theorem ZNt {w0:World} {v0:Zb} (hv:VIn v0 w0) {c0:List Value} {ws:(Int×Int×Int×Int)} (p0:Rep.rel (Zja (Zc .u8) (Zja (Zc .u8) (Zja (Zc .u8) (Zc .u8)))) v0 c0 ws) {c1:List Value} {n:Int} (p1:Rep.rel (Zc .u8) v0 c1 n) {c2:List Value} {places:((List Int)×(List Int))} (p2:Rep.rel (Zja (ZB (Zc .u8)) (ZB (Zc .u8))) v0 c2 places) {c3:List Value} {rs:(List Int)} (p3:Rep.rel (ZB (Zc .u8)) v0 c3 rs) {c4:List Value} {k:Int} (p4:Rep.rel (Zc .u8) v0 c4 k) {z:Bool} (hm:Zpk ws n places rs k=some z):Ret Tryz.prog 5 #[(Zja (Zc .u8) (Zja (Zc .u8) (Zja (Zc .u8) (Zc .u8)))).val c0,(Zc .u8).val c1,(Zja (ZB (Zc .u8)) (ZB (Zc .u8))).val c2,(ZB (Zc .u8)).val c3,(Zc .u8).val c4] w0 v0 (fun y v'=>∃ r0,y=Z3a.val r0∧Z3a.rel v' r0 z):=(Zew w0 v0 [(Zja (Zc .u8) (Zja (Zc .u8) (Zja (Zc .u8) (Zc .u8)))).val c0,(Zc .u8).val c1,(Zja (ZB (Zc .u8)) (ZB (Zc .u8))).val c2,(ZB (Zc .u8)).val c3,(Zc .u8).val c4] (ws,n,places,rs,k) z hv ⟨c0,_,rfl,p0,c1,_,rfl,p1,c2,_,rfl,p2,c3,_,rfl,p3,c4,rfl,p4⟩ hm).2
end Go.Eng
