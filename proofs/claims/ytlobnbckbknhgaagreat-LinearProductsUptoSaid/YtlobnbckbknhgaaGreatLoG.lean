/- Lemmas towards the statement: the engine of the walks, the functions' models, laws and walks, part 7. Conditions: as each states. -/
import Derived.Test.YtlobnbckbknhgaaGreatProg
import Derived.Test.YtlobnbckbknhgaaGreatLoF
set_option linter.all false
set_option maxRecDepth 100000
namespace Go.Eng
open Go.Proofs Go.RowKit
theorem ZEs:Elem Tryz.prog 109 3 ((Zd .i64)).n 8 (Value.int IntKind.i64 0):=⟨Tryz.underlying109,by kernel_rfl,rfl,by decide⟩
theorem Z2f:ZGb Tryz.prog 109 3 ((Zd .i64)).n:=⟨λ_=>by kernel_rfl,λ_=>by kernel_rfl⟩
theorem Zjv:Tryz.prog.follows .mixedOrders=true:=by kernel_rfl
noncomputable def Z7n:FuncId×ConD:=(200,⟨3,.int .i64,λl i j=>ZKe l i j⟩)
theorem Zfz:Zmh Tryz.prog Z7n.1 Z7n.2:=λw v ob n cap cs l i0 j0 z hv hh hnv hA hn hi hj hz=>by
 have hz:ZKe (show List Int from l) i0 j0=some z:=hz
 obtain⟨i,rfl,rfl,hin,rfl⟩:=ZXq hz
 have hA:((Zd .i64)).rels v cs (show List Int from l):=hA
 have hin:i<n:=by rw[hn];exact hin
 have hcs:cs.length=n*((Zd .i64)).n:=by rw[hn];exact ZVb hA
 refine⟨λ_ _=>by kernel_rfl,?_⟩
 refine Zdu (K:=33) (args:=[.slice (mkA ob) n cap,.int .i64 (i:Int),.int .i64 ((i+1:Nat):Int)]) hv hh hnv Tryz.func200 rfl rfl zl λfa hS=>?_
 obtain⟨b,rfl⟩:=Zhd hS (j:=0) rfl (by omega)
 obtain⟨_,cur,hg,hnc,hcx,hcu,htk⟩:=(hS.loc _ (mG (i:=0) rfl)).1
 unfold maxLen at hcx
 refine sr ?_
 refine mw hS rfl λfa hS=>?_
 refine oe ?_
 refine sr ?_
 refine mv hS rfl λfa hS=>?_
 refine mv hS rfl λfa hS=>?_
 refine mv hS rfl λfa hS=>?_
 refine mv hS rfl λfa hS=>?_
 refine ov hS rfl (ZNb hS rfl rfl Z2f) λfa hS=>?_
 have h3 := @Zjr _ _ _ _ _ _ _ _ _ (some 13) 109 "" #[] none hS 109 3 ((Zd .i64)).n b n cap i (i + 1) n (.tmp 8) (.tmp 9) (.tmp 10) (.tmp 12) .i64 .i64 .i64 Z2f rfl rfl rfl rfl (by omega) (by omega) hnc
 obtain⟨y3,h3⟩:=h3
 refine ov hS rfl h3 λfa hS=>?_
 refine oe ?_
 refine wp_seq_k λN1 hN1=>?_
 refine sr ?_
 refine mv hS rfl λfa hS=>?_
 refine mv hS rfl λfa hS=>?_
 refine ov hS rfl (Zz hS rfl rfl ZOg) λfa hS=>?_
 refine oe ?_
 refine ZJa hS rfl (by simp only[beq_eq_false_iff_ne,ne_eq];omega) ?_
 refine wp_skip ?_
 refine Zo (hN1 _ _ ?_)
 refine sr ?_
 refine mv hS rfl λfa hS=>?_
 refine ov hS rfl (ZNb hS rfl rfl Z2f) λfa hS=>?_
 refine mw hS rfl λfa hS=>?_
 refine oe ?_
 refine wp_seq_k λN2 hN2=>?_
 refine Zeg (fl:=#[true,true,true,true,true,true,false,false]) Zjv (by kernel_rfl) hS ?_
 intro ops hops hF wo hS
 refine rf hops hF 0 rfl (by kernel_rfl) rfl hS (ZG hS rfl) λfa hS=>?_
 refine rf hops hF 1 rfl (by kernel_rfl) rfl hS (ZG hS rfl) λfa hS=>?_
 refine rf hops hF 2 rfl (by kernel_rfl) rfl hS (ZBm hS Z2f rfl rfl (by omega) (by omega)) λfa hS=>?_
 refine rf hops hF 3 rfl (by kernel_rfl) rfl hS (ZG hS rfl) λfa hS=>?_
 refine rf hops hF 4 rfl (by kernel_rfl) rfl hS (ZG hS rfl) λfa hS=>?_
 obtain⟨ad,had,hsrc⟩:∃ ad:Addr,(if cap=i+1 then mkA (some b) else (mkA (some b)).map (·.add ((i+1)*((Zd .i64)).n)))=some ad∧∀ j u,(cs.drop ((i+1)*((Zd .i64)).n))[j]? = some u→wo.cell? (ad.add j)=some u:=by
  by_cases h:cap=i+1
  ·refine⟨⟨b,0,none⟩,by rw[iP h];rfl,λj u hu=>?_⟩;have:cs.drop ((i+1)*((Zd .i64)).n)=[]:=List.drop_eq_nil_of_le (by rw[hcs];exact mR _ (by omega));rw[this]at hu;simp at hu
  ·refine⟨(⟨b,0,none⟩:Addr).add ((i+1)*((Zd .i64)).n),by rw[iN h];rfl,λj u hu=>?_⟩;have:=Z8g hS (j:=0) rfl ((i+1)*((Zd .i64)).n+j) u (by rw[List.getElem?_drop]at hu;exact hu);rw[show ((⟨b,0,none⟩:Addr).add ((i+1)*((Zd .i64)).n)).add j=(⟨b,0,none⟩:Addr).add ((i+1)*((Zd .i64)).n+j) by simp only[Zoa,Nat.add_assoc]];exact this
 refine rf hops hF 5 rfl (by kernel_rfl) rfl hS (ZUp hS Z2f rfl rfl (by omega)) λfa hS=>?_;rw[had]at hS;have hdl:(cs.drop ((i+1)*((Zd .i64)).n)).length=(n-(i+1))*((Zd .i64)).n:=by rw[List.length_drop,hcs,Nat.sub_mul]
 obtain⟨wo',hr,hS'⟩:=ZJr (t:=109) (ty:=109) ZEs hS (i:=0) rfl (q:=i) (m:=n-(i+1)) (c:=cap-(i+1)) (ad:=ad) (news:=cs.drop ((i+1)*((Zd .i64)).n)) hdl hsrc (by rw[List.all_eq_true];intro y hy;exact List.all_eq_true.1 (Zgh hA) y (List.mem_of_mem_drop hy)) (by omega);rw[show i+(n-(i+1))=n-1 by omega]at hr;refine ZLe hops hF 6 (by kernel_rfl) ?_;refine ZEn [2,5,0,1,3,4] [] hops rfl (by kernel_rfl) wn rfl zl (Zks hS rfl rfl hr) hS' λfa hS=>?_;refine⟨Zbc,?_⟩;refine ZLe hops hF 7 (by kernel_rfl) ?_;refine nv [0,1,2,3,4,5,6] [] hops rfl (by kernel_rfl) rfl hS (Ztd hS rfl) λfa hS=>?_;refine⟨Zbc,?_⟩;refine Z5i hops hF (by kernel_rfl) ?_;refine Zo (hN2 _ _ ?_);refine sr ?_;refine mv hS rfl λfa hS=>?_;refine mv hS rfl λfa hS=>?_;refine ov hS rfl (ZNb hS rfl rfl Z2f) λfa hS=>?_;refine mv hS rfl λfa hS=>?_;refine ov hS rfl (ZYo hS Z2f rfl rfl rfl (by omega) (by omega) (by omega)) λfa hS=>?_;obtain⟨wo2,zc,hzl,hr,hS'⟩:=ZAo (t:=109) (ty:=109) ZEs hS (i:=0) rfl (p:=n-1) (c:=cap-(n-1)) (by omega) (List.all_eq_true.1 (by kernel_rfl));have hn1:n-(n-1)=1:=by omega
 rw[hn1]at hS hS';refine Z9r wn rfl (Zyu hS rfl (hr _)) ?_;refine oe ?_;have hS:=hS'.narrow (i:=0) rfl (m:=n-1) (by omega);refine sr ?_;refine mv hS rfl λfa hS=>?_;refine mw hS rfl λfa hS=>?_;refine oe ?_;refine wp_ret ?_;refine ZNo hS (i:=0) rfl (Zcd rfl (ZSa hS rfl)) ?_ (show n-1=(List.take i l++List.drop (i+1) l).length by rw[lAq,List.length_take,List.length_drop,← hn];omega);rw[Zts hcs hin hzl];exact ZTb (Zff i (ZO hS.vst.le hA)) (ZDe (i+1) (ZO hS.vst.le hA))
theorem ZZo:Elem Tryz.prog 74 47 (Z0).n 56 (Value.agg #[Value.bool false,Value.slice none 0 0,Value.slice none 0 0]):=⟨Tryz.underlying74,by kernel_rfl,rfl,by decide⟩
theorem ZVf:ZGb Tryz.prog 74 47 (Z0).n:=⟨λ_=>by kernel_rfl,λ_=>by kernel_rfl⟩
theorem ZTz:Tryz.prog.follows .mixedOrders=true:=by kernel_rfl
noncomputable def Zem:FuncId×ConD:=(201,⟨47,.leaf 3,λl i j=>ZKe l i j⟩)
theorem Ztw:Zmh Tryz.prog Zem.1 Zem.2:=λw v ob n cap cs l i0 j0 z hv hh hnv hA hn hi hj hz=>by
 have hz:ZKe (show List Rat from l) i0 j0=some z:=hz
 obtain⟨i,rfl,rfl,hin,rfl⟩:=ZXq hz
 have hA:(Z0).rels v cs (show List Rat from l):=hA
 have hin:i<n:=by rw[hn];exact hin
 have hcs:cs.length=n*(Z0).n:=by rw[hn];exact ZVb hA
 refine⟨λ_ _=>by kernel_rfl,?_⟩
 refine Zdu (K:=33) (args:=[.slice (mkA ob) n cap,.int .i64 (i:Int),.int .i64 ((i+1:Nat):Int)]) hv hh hnv Tryz.func201 rfl rfl zl λfa hS=>?_
 obtain⟨b,rfl⟩:=Zhd hS (j:=0) rfl (by omega)
 obtain⟨_,cur,hg,hnc,hcx,hcu,htk⟩:=(hS.loc _ (mG (i:=0) rfl)).1
 unfold maxLen at hcx
 refine sr ?_
 refine mw hS rfl λfa hS=>?_
 refine oe ?_
 refine sr ?_
 refine mv hS rfl λfa hS=>?_
 refine mv hS rfl λfa hS=>?_
 refine mv hS rfl λfa hS=>?_
 refine mv hS rfl λfa hS=>?_
 refine ov hS rfl (ZNb hS rfl rfl ZVf) λfa hS=>?_
 have h3 := @Zjr _ _ _ _ _ _ _ _ _ (some 13) 74 "" #[] none hS 74 47 (Z0).n b n cap i (i + 1) n (.tmp 8) (.tmp 9) (.tmp 10) (.tmp 12) .i64 .i64 .i64 ZVf rfl rfl rfl rfl (by omega) (by omega) hnc
 obtain⟨y3,h3⟩:=h3
 refine ov hS rfl h3 λfa hS=>?_
 refine oe ?_
 refine wp_seq_k λN1 hN1=>?_
 refine sr ?_
 refine mv hS rfl λfa hS=>?_
 refine mv hS rfl λfa hS=>?_
 refine ov hS rfl (Zz hS rfl rfl ZOg) λfa hS=>?_
 refine oe ?_
 refine ZJa hS rfl (by simp only[beq_eq_false_iff_ne,ne_eq];omega) ?_
 refine wp_skip ?_
 refine Zo (hN1 _ _ ?_)
 refine sr ?_
 refine mv hS rfl λfa hS=>?_
 refine ov hS rfl (ZNb hS rfl rfl ZVf) λfa hS=>?_
 refine mw hS rfl λfa hS=>?_
 refine oe ?_
 refine wp_seq_k λN2 hN2=>?_
 refine Zeg (fl:=#[true,true,true,true,true,true,false,false]) ZTz (by kernel_rfl) hS ?_
 intro ops hops hF wo hS
 refine rf hops hF 0 rfl (by kernel_rfl) rfl hS (ZG hS rfl) λfa hS=>?_
 refine rf hops hF 1 rfl (by kernel_rfl) rfl hS (ZG hS rfl) λfa hS=>?_
 refine rf hops hF 2 rfl (by kernel_rfl) rfl hS (ZBm hS ZVf rfl rfl (by omega) (by omega)) λfa hS=>?_
 refine rf hops hF 3 rfl (by kernel_rfl) rfl hS (ZG hS rfl) λfa hS=>?_
 refine rf hops hF 4 rfl (by kernel_rfl) rfl hS (ZG hS rfl) λfa hS=>?_
 obtain⟨ad,had,hsrc⟩:∃ ad:Addr,(if cap=i+1 then mkA (some b) else (mkA (some b)).map (·.add ((i+1)*(Z0).n)))=some ad∧∀ j u,(cs.drop ((i+1)*(Z0).n))[j]? = some u→wo.cell? (ad.add j)=some u:=by
  by_cases h:cap=i+1
  ·refine⟨⟨b,0,none⟩,by rw[iP h];rfl,λj u hu=>?_⟩;have:cs.drop ((i+1)*(Z0).n)=[]:=List.drop_eq_nil_of_le (by rw[hcs];exact mR _ (by omega));rw[this]at hu;simp at hu
  ·refine⟨(⟨b,0,none⟩:Addr).add ((i+1)*(Z0).n),by rw[iN h];rfl,λj u hu=>?_⟩;have:=Z8g hS (j:=0) rfl ((i+1)*(Z0).n+j) u (by rw[List.getElem?_drop]at hu;exact hu);rw[show ((⟨b,0,none⟩:Addr).add ((i+1)*(Z0).n)).add j=(⟨b,0,none⟩:Addr).add ((i+1)*(Z0).n+j) by simp only[Zoa,Nat.add_assoc]];exact this
 refine rf hops hF 5 rfl (by kernel_rfl) rfl hS (ZUp hS ZVf rfl rfl (by omega)) λfa hS=>?_;rw[had]at hS;have hdl:(cs.drop ((i+1)*(Z0).n)).length=(n-(i+1))*(Z0).n:=by rw[List.length_drop,hcs,Nat.sub_mul]
 obtain⟨wo',hr,hS'⟩:=ZJr (t:=74) (ty:=74) ZZo hS (i:=0) rfl (q:=i) (m:=n-(i+1)) (c:=cap-(i+1)) (ad:=ad) (news:=cs.drop ((i+1)*(Z0).n)) hdl hsrc (by rw[List.all_eq_true];intro y hy;exact List.all_eq_true.1 (Zgh hA) y (List.mem_of_mem_drop hy)) (by omega);rw[show i+(n-(i+1))=n-1 by omega]at hr;refine ZLe hops hF 6 (by kernel_rfl) ?_;refine ZEn [2,5,0,1,3,4] [] hops rfl (by kernel_rfl) wn rfl zl (Zks hS rfl rfl hr) hS' λfa hS=>?_;refine⟨Zbc,?_⟩;refine ZLe hops hF 7 (by kernel_rfl) ?_;refine nv [0,1,2,3,4,5,6] [] hops rfl (by kernel_rfl) rfl hS (Ztd hS rfl) λfa hS=>?_;refine⟨Zbc,?_⟩;refine Z5i hops hF (by kernel_rfl) ?_;refine Zo (hN2 _ _ ?_);refine sr ?_;refine mv hS rfl λfa hS=>?_;refine mv hS rfl λfa hS=>?_;refine ov hS rfl (ZNb hS rfl rfl ZVf) λfa hS=>?_;refine mv hS rfl λfa hS=>?_;refine ov hS rfl (ZYo hS ZVf rfl rfl rfl (by omega) (by omega) (by omega)) λfa hS=>?_;obtain⟨wo2,zc,hzl,hr,hS'⟩:=ZAo (t:=74) (ty:=74) ZZo hS (i:=0) rfl (p:=n-1) (c:=cap-(n-1)) (by omega) (List.all_eq_true.1 (by kernel_rfl));have hn1:n-(n-1)=1:=by omega
 rw[hn1]at hS hS';refine Z9r wn rfl (Zyu hS rfl (hr _)) ?_;refine oe ?_;have hS:=hS'.narrow (i:=0) rfl (m:=n-1) (by omega);refine sr ?_;refine mv hS rfl λfa hS=>?_;refine mw hS rfl λfa hS=>?_;refine oe ?_;refine wp_ret ?_;refine ZNo hS (i:=0) rfl (Zcd rfl (ZSa hS rfl)) ?_ (show n-1=(List.take i l++List.drop (i+1) l).length by rw[lAq,List.length_take,List.length_drop,← hn];omega);rw[Zts hcs hin hzl];exact ZTb (Zff i (ZO hS.vst.le hA)) (ZDe (i+1) (ZO hS.vst.le hA))
set_option maxHeartbeats 4000000
noncomputable def Zmr:FuncId×ConB:=(163,⟨236,(.agg (.cons (.mat 74 47 (.leaf 3)) (.cons (.own 47 (.leaf 3)) (.cons (.own 47 (.leaf 3)) (.cons (.dat (.leaf 3)) (.cons (.own 3 (.int .i64)) (.one (.own 3 (.int .i64))))))))),[.pair (.slice (.slice (.leaf 3))) (.pair (.slice (.leaf 3)) (.slice (.leaf 3)))],[.slice (.leaf 3),.bool],λz x=>Zyp z x⟩)
theorem Z6u : KB Zmr := Z1g (C := cf1 [Zyd, ZHe, Z8e, Zpk, ZRg, Z9f, ZCg] [100182] [Zxf] [((35, "Add"), 44), ((35, "Mul"), 42), ((35, "Sub"), 43), ((35, "Zero"), 46), ((40, "Add"), 82), ((40, "Mul"), 13), ((47, "Add"), 151), ((47, "Cmp"), 148), ((47, "Mul"), 152), ((47, "Sign"), 95), ((47, "Sub"), 189), ((47, "Zero"), 98)] [] [Zyl, ZEp, Zbo] [Z7n, Zem]) (.n (.n (.n (.two (.n (.f (.l [0, 3, 6, 7, 8, 34, 35] [] [.s 9 (.dat (.int .i64)), .s 36 (.dat (.int .i64))] 0 [0, 3, 6, 7, 8] [] [.s 9 (.dat (.int .i64))] (.f (.n (.n (.f (.f (.n (.two (.j [0, 3, 6, 7, 8, 9, 10, 34, 35, 36] [] [.s 61 (.dat .bool)] .no) (.j [0, 3, 6, 7, 8, 34, 35, 36] [] [.s 9 (.dat (.int .i64))] .no))))))))))) (.n (.two (.n (.f (.l [0, 3, 6, 7, 8, 9, 70] [] [.s 71 (.dat (.int .i64)), .l (.sl 69) (.mat 74 47 (.leaf 3))] 2 [0, 3, 6, 7, 8, 9] [] [.l (.sl 69) (.mat 74 47 (.leaf 3))] .no))) (.n (.n (.n (.n (.n (.two (.n (.n (.j [0, 3, 8] [.fld (.sl 0) 0, .fld (.sl 0) 1, .fld (.sl 0) 2, .fld (.sl 0) 6, .fld (.sl 0) 7] [.l (.sl 0) (.box 236 (.agg (.cons (.mat 74 47 (.leaf 3)) (.cons (.own 47 (.leaf 3)) (.cons (.own 47 (.leaf 3)) (.cons (.dat (.leaf 3)) (.cons (.own 3 (.int .i64)) (.one (.own 3 (.int .i64))))))))))] .no))) (.n (.n (.two (.n (.f (.l [0, 3, 14, 167] [] [.s 168 (.dat (.int .i64)), .l (.sl 166) (.mat 74 47 (.leaf 3))] 4 [0, 3] [] [.l (.sl 166) (.mat 74 47 (.leaf 3))] .no))) (.n (.f (.n (.f (.l [0, 203, 204] [.fld (.sl 0) 0, .fld (.sl 0) 1, .fld (.sl 0) 6, .fld (.sl 0) 7, .fld (.sl 0) 2] [.s 205 (.dat (.int .i64)), .l (.sl 0) (.box 236 (.agg (.cons (.mat 74 47 (.leaf 3)) (.cons (.own 47 (.leaf 3)) (.cons (.own 47 (.leaf 3)) (.cons (.dat (.leaf 3)) (.cons (.own 3 (.int .i64)) (.one (.own 3 (.int .i64))))))))))] 6 [] [.fld (.sl 0) 0, .fld (.sl 0) 1, .fld (.sl 0) 6, .fld (.sl 0) 7, .fld (.sl 0) 2] [.l (.sl 0) (.box 236 (.agg (.cons (.mat 74 47 (.leaf 3)) (.cons (.own 47 (.leaf 3)) (.cons (.own 47 (.leaf 3)) (.cons (.dat (.leaf 3)) (.cons (.own 3 (.int .i64)) (.one (.own 3 (.int .i64))))))))))] (.f (.n (.n (.f (.j [0, 203, 204, 205] [.fld (.sl 0) 0, .fld (.sl 0) 1, .fld (.sl 0) 2, .fld (.sl 0) 6, .fld (.sl 0) 7] [.l (.sl 0) (.box 236 (.agg (.cons (.mat 74 47 (.leaf 3)) (.cons (.own 47 (.leaf 3)) (.cons (.own 47 (.leaf 3)) (.cons (.dat (.leaf 3)) (.cons (.own 3 (.int .i64)) (.one (.own 3 (.int .i64))))))))))] (.f (.n (.n (.n (.n (.n (.f (.l [0, 17, 203, 204, 205, 265, 266] [] [.s 267 (.dat (.int .i64)), .l (.fld (.sl 0) 2) (.own 47 (.leaf 3))] 8 [0, 203, 204, 205] [] [.l (.fld (.sl 0) 2) (.own 47 (.leaf 3))] .no))))))))))))))))))))))))))))))))) Tryz.func163 [(68, Tryz.f68, .no), (160, Tryz.f160, .r [] [] [.s 1000 (.dat (.int .i64))] (.n (.f (.n (.f (.cut ⟨⟨[0, 1, 7], [], [.s 8 (.dat (.int .i64))]⟩, [(.exit 0, ⟨[], [], []⟩), (.ret, ⟨[], [], [.s 1000 (.dat (.int .i64))]⟩)]⟩ .no)))))), (198, Tryz.f198, .r [] [] [.s 1000 (.dat (.int .i64))] (.n (.f (.n (.f (.cut ⟨⟨[0, 1, 7], [], [.s 8 (.dat (.int .i64))]⟩, [(.exit 0, ⟨[], [], []⟩), (.ret, ⟨[], [], [.s 1000 (.dat (.int .i64))]⟩)]⟩ .no)))))), (199, Tryz.f199, .no)] (λ_ _ => by kernel_rfl) ⟨Z7d, ZUf, Zjh, ZCm, Zti, Zvh, Zki, tr⟩ ⟨ZGh, tr⟩ ⟨Zzk, Zai, Z5k, ZZk, Zhj, ZFi, Zlj, Z5n, Zzi, ZOi, Zej, ZQj, tr⟩ ⟨⟨Tryz.func68, λ_ _ => by kernel_rfl⟩, ⟨Tryz.func160, λ_ _ => by kernel_rfl⟩, ⟨Tryz.func198, λ_ _ => by kernel_rfl⟩, ⟨Tryz.func199, λ_ _ => by kernel_rfl⟩, tr⟩ tr ⟨Znr, ZNw, ZMo, tr⟩ ⟨Zfz, Ztw, tr⟩
noncomputable def ZVq:FuncId×Con:=(106,⟨[.pair (.slice (.slice (.leaf 3))) (.pair (.slice (.leaf 3)) (.slice (.leaf 3)))],[.pair (.int .i64) (.pair (.leaf 3) (.pair (.slice (.leaf 3)) (.pair (.slice (.leaf 3)) (.slice (.leaf 3)))))],λp=>ZHp p⟩)
theorem Zuv : KQ ZVq := Zh (Zr (C := cf1 [Zyd, Zrs, ZKo, Zwe] [] [Zxf, ZFh] [((35, "Neg"), 45), ((47, "Neg"), 215)] [Z0r] [Zmr, Zyl] []) (.n (.n (.n (.n (.n (.two (.j [2, 3, 4, 6] [] [.s 5 (.dat (.ptr (.pair (.slice (.slice (.leaf 3))) (.pair (.slice (.leaf 3)) (.pair (.slice (.leaf 3)) (.pair (.leaf 3) (.pair (.slice (.int .i64)) (.slice (.int .i64))))))))), .s 9 (.dat (.int .i64))] .no) (.n (.n (.two (.n (.n (.j [2, 3, 5, 6, 9, 10] [] [.l (.sl 10) (.own 47 (.leaf 3))] .no))) (.f (.n (.f (.l [2, 3, 5, 6, 9, 10, 69, 70] [] [.s 71 (.dat (.int .i64)), .l (.sl 10) (.own 47 (.leaf 3))] 0 [2, 3, 5, 6, 10] [] [.l (.sl 10) (.own 47 (.leaf 3))] (.f (.n (.n (.f (.f (.n (.n (.j [2, 3, 5, 6, 9, 10, 69, 70, 71] [] [.l (.sl 10) (.own 47 (.leaf 3))] .no))))))))))))))))))))) Tryz.func106 [(68, Tryz.f68, .no), (162, Tryz.f162, .n (.n (.two (.n (.f (.l [1, 3, 20] [.fld (.sl 3) 0, .fld (.sl 3) 1, .fld (.sl 3) 2] [.s 21 (.dat (.int .i64)), .l (.sl 3) (.box 236 (.agg (.cons (.mat 74 47 (.leaf 3)) (.cons (.own 47 (.leaf 3)) (.cons (.own 47 (.leaf 3)) (.cons (.dat (.leaf 3)) (.cons (.own 3 (.int .i64)) (.one (.own 3 (.int .i64))))))))))] 0 [1, 3] [.fld (.sl 3) 0, .fld (.sl 3) 1, .fld (.sl 3) 2] [.l (.sl 3) (.box 236 (.agg (.cons (.mat 74 47 (.leaf 3)) (.cons (.own 47 (.leaf 3)) (.cons (.own 47 (.leaf 3)) (.cons (.dat (.leaf 3)) (.cons (.own 3 (.int .i64)) (.one (.own 3 (.int .i64))))))))))] .no))) (.f (.n (.f (.l [1, 3, 37] [.fld (.sl 3) 0, .fld (.sl 3) 1, .fld (.sl 3) 2, .fld (.sl 3) 6, .fld (.sl 3) 7] [.s 38 (.dat (.int .i64)), .l (.sl 3) (.box 236 (.agg (.cons (.mat 74 47 (.leaf 3)) (.cons (.own 47 (.leaf 3)) (.cons (.own 47 (.leaf 3)) (.cons (.dat (.leaf 3)) (.cons (.own 3 (.int .i64)) (.one (.own 3 (.int .i64))))))))))] 2 [3] [.fld (.sl 3) 0, .fld (.sl 3) 1, .fld (.sl 3) 2, .fld (.sl 3) 6, .fld (.sl 3) 7] [.l (.sl 3) (.box 236 (.agg (.cons (.mat 74 47 (.leaf 3)) (.cons (.own 47 (.leaf 3)) (.cons (.own 47 (.leaf 3)) (.cons (.dat (.leaf 3)) (.cons (.own 3 (.int .i64)) (.one (.own 3 (.int .i64))))))))))] .no)))))))] (λ_ => by kernel_rfl) ⟨Z7d, Zlw, Z1x, ZBf, tr⟩ ⟨ZGh, ZDl, tr⟩ ⟨Zfh, Zeh, tr⟩ ⟨⟨Tryz.func68, λ_ _ => by kernel_rfl⟩, ⟨Tryz.func162, λ_ _ => by kernel_rfl⟩, tr⟩ ⟨ZLw, tr⟩ ⟨Z6u, Znr, tr⟩)
noncomputable def Zds:FuncId×Con:=(55,⟨[.pair (.slice (.slice (.leaf 3))) (.pair (.slice (.leaf 3)) (.slice (.leaf 3)))],[.pair (.int .i64) (.pair (.leaf 3) (.pair (.slice (.leaf 3)) (.pair (.slice (.leaf 3)) (.slice (.leaf 3))))),.int .i64],λp=>Z1t p⟩)
theorem ZBw:KQ Zds:=Zh (Zr (C:=cf0 [Ztn,ZVq] [] [] []) .no Tryz.func55 [] (λ_=>by kernel_rfl) ⟨ZIq,Zuv,tr⟩)
noncomputable def ZSh:FuncId×Con:=(109,⟨[.slice (.leaf 3),.slice (.leaf 3)],[.leaf 3],λp=>ZYc p.1 p.2⟩)
theorem Z2k : KQ ZSh := Zh (Zr (C := cf0 [Zyd, ZRg, Z9f] [] [] [((35, "Add"), 44), ((35, "Mul"), 42), ((40, "Add"), 82), ((40, "Mul"), 13), ((47, "Add"), 151), ((47, "Mul"), 152)]) (.n (.n (.f (.n (.f (.l [0, 1, 4, 5, 9] [] [.s 10 (.dat (.int .i64)), .l (.sl 5) (.box 47 (.dat (.leaf 3)))] 0 [4, 5] [] [.l (.sl 5) (.box 47 (.dat (.leaf 3)))] .no)))))) Tryz.func109 [] (λ_ => by kernel_rfl) ⟨Z7d, Zti, Zvh, tr⟩ tr ⟨Zzk, Zai, Zhj, ZFi, Zlj, Zzi, tr⟩)
noncomputable def Zin:FuncId×Con:=(74,⟨[.slice (.slice (.leaf 3)),.slice (.leaf 3)],[.slice (.leaf 3)],λp=>ZRn p.1 p.2⟩)
theorem Zsu:KQ Zin:=Zh (Zr (C:=cf0 [ZSh] [] [] []) (.n (.n (.f (.n (.f (.l [1,8,9] [] [.s 5 (.own 47 (.leaf 3)),.s 10 (.dat (.int .i64))] 0 [] [] [.s 5 (.own 47 (.leaf 3))] .no)))))) Tryz.func74 [] (λ_=>by kernel_rfl) ⟨Z2k,tr⟩)
noncomputable def ZIj:FuncId×Con:=(110,⟨[.slice (.leaf 3)],[.bool],λp=>ZXg p⟩)
theorem ZMl : KQ ZIj := Zh (Zr (C := cf0 [ZHe] [] [] [((47, "Sign"), 95)]) .no Tryz.func110 [(167, Tryz.f167, .no), (168, Tryz.f168, .no), (198, Tryz.f198, .r [] [] [.s 1000 (.dat (.int .i64))] (.n (.f (.n (.f (.cut ⟨⟨[0, 1, 7], [], [.s 8 (.dat (.int .i64))]⟩, [(.exit 0, ⟨[], [], []⟩), (.ret, ⟨[], [], [.s 1000 (.dat (.int .i64))]⟩)]⟩ .no))))))] (λ_ => by kernel_rfl) ⟨ZUf, tr⟩ tr ⟨ZOi, tr⟩ ⟨⟨Tryz.func167, λ_ _ => by kernel_rfl⟩, ⟨Tryz.func168, λ_ _ => by kernel_rfl⟩, ⟨Tryz.func198, λ_ _ => by kernel_rfl⟩, tr⟩)
noncomputable def ZJk:FuncId×Con:=(112,⟨[.slice (.leaf 3),.slice (.leaf 3)],[.bool],λp=>Zrj p.1 p.2⟩)
theorem Zlo : KQ ZJk := Zh (Zr (C := cf0 [Zpk] [] [] [((47, "Cmp"), 148)]) (.n (.f (.n (.f (.cut ⟨⟨[0, 1, 7], [], [.s 8 (.dat (.int .i64))]⟩, [(.exit 0, ⟨[], [], []⟩), (.ret, ⟨[], [], [.s 1000 (.dat .bool)]⟩)]⟩ .no))))) Tryz.func112 [] (λ_ => by kernel_rfl) ⟨ZCm, tr⟩ tr ⟨Z5n, tr⟩)
noncomputable def Zfr:FuncId×Con:=(107,⟨[.pair (.slice (.slice (.leaf 3))) (.pair (.slice (.leaf 3)) (.slice (.leaf 3))),.slice (.leaf 3)],[.bool],λp=>ZYr p.1 p.2⟩)
theorem ZYu:KQ Zfr:=Zh (Zr (C:=cf0 [Zin,ZIj,ZJk] [] [] []) (.n (.f (.j [] [] [.s 4 (.dat .bool)] .no))) Tryz.func107 [] (λ_=>by kernel_rfl) ⟨Zsu,ZMl,Zlo,tr⟩)
noncomputable def ZMn:FuncId×Con:=(111,⟨[.pair (.slice (.slice (.leaf 3))) (.pair (.slice (.leaf 3)) (.slice (.leaf 3))),.slice (.leaf 3)],[.slice (.leaf 3)],λp=>Zrn p.1 p.2⟩)
theorem Z8q : KQ ZMn := Zh (Zr (C := cf0 [ZRg, Z9f] [] [Zpg] [((35, "Add"), 44), ((35, "Mul"), 42), ((40, "Add"), 82), ((40, "Mul"), 13), ((47, "Add"), 151), ((47, "Mul"), 152)]) (.n (.n (.f (.n (.f (.l [1, 5, 15, 16] [] [.s 17 (.dat (.int .i64)), .l (.sl 5) (.own 47 (.leaf 3))] 0 [5] [] [.l (.sl 5) (.own 47 (.leaf 3))] (.f (.n (.n (.f (.f (.n (.n (.f (.l [1, 5, 6, 15, 16, 17, 22, 23] [] [.s 24 (.dat (.int .i64)), .l (.sl 5) (.own 47 (.leaf 3))] 2 [1, 5, 15, 16, 17] [] [.l (.sl 5) (.own 47 (.leaf 3))] .no))))))))))))))) Tryz.func111 [] (λ_ => by kernel_rfl) ⟨Zti, Zvh, tr⟩ ⟨ZLh, tr⟩ ⟨Zzk, Zai, Zhj, ZFi, Zlj, Zzi, tr⟩)
noncomputable def ZTt:FuncId×Con:=(108,⟨[.pair (.slice (.slice (.leaf 3))) (.pair (.slice (.leaf 3)) (.slice (.leaf 3))),.slice (.leaf 3)],[.bool],λp=>Zjt p.1 p.2⟩)
theorem pdual_k:KQ ZTt:=Zh (Zr (C:=cf0 [ZIj,ZMn,ZJk] [] [] []) (.n (.f (.j [] [] [.s 4 (.dat .bool)] .no))) Tryz.func108 [] (λ_=>by kernel_rfl) ⟨ZMl,Z8q,Zlo,tr⟩)
noncomputable def Zpu:FuncId×Con:=(257,⟨[.leaf 3,.leaf 3],[.bool],λp=>ZVh p.1 p.2⟩)
theorem qsame_k:KQ Zpu:=Zh (Zx (C:=cf0 [ZAk] [] [] []) (.n (.f (.j [] [] [.s 4 (.dat .bool)] .no))) Tryz.func257 [] (λv vals x z ha hz=>.trans (by kernel_rfl) (Znv hz)) ⟨cmp_k,tr⟩)
noncomputable def Zto:FuncId×Con:=(56,⟨[.pair (.slice (.slice (.leaf 3))) (.pair (.slice (.leaf 3)) (.slice (.leaf 3))),.pair (.int .i64) (.pair (.leaf 3) (.pair (.slice (.leaf 3)) (.pair (.slice (.leaf 3)) (.slice (.leaf 3)))))],[.bool],λp=>Zwo p.1 p.2⟩)
theorem Zax : KQ Zto := Zh (Zr (C := cf0 [Zin, ZHe, Z8e, Ztn, Zfr, ZTt, ZSh, ZIj, ZMn, ZJk, Zpu] [] [Zpg] [((35, "Same"), 17), ((35, "Zero"), 46), ((40, "Same"), 14), ((47, "Same"), 257), ((47, "Sign"), 95), ((47, "Zero"), 98)]) (.n (.n (.two (.j [2, 3] [] [.s 5 (.dat .bool)] .no) (.f (.n (.f (.n (.two (.f (.j [] [] [.s 4 (.dat .bool)] .no)) (.n (.two (.f (.j [] [] [.s 4 (.dat .bool)] .no)) (.n (.f (.two (.f (.j [2, 3] [] [.s 135 (.dat .bool)] .no)) (.f (.j [] [] [.s 4 (.dat .bool)] .no))))))))))))))) Tryz.func56 [] (λ_ => by kernel_rfl) ⟨Zsu, ZUf, Zjh, ZIq, ZYu, pdual_k, Z2k, ZMl, Z8q, Zlo, qsame_k, tr⟩ ⟨ZLh, tr⟩ ⟨Zxx, ZZk, ZfA, Zkx, ZOi, ZQj, tr⟩)
noncomputable def Zwu:FuncId×Con:=(20,⟨[],[.bool],λ_=>Zqi⟩)
theorem Zvx:KQ Zwu:=Zh (Zr (C:=cf0 [Zlk,Zvm,ZEj,Zgr,Zct,ZNt,Zds,Zto] [] [] []) (.n (.n (.n (.n (.n (.n (.n (.n (.f (.j [] [] [.s 0 (.dat .bool)] .no)))))))))) Tryz.func20 [] (λ_=>by kernel_rfl) ⟨ZQm,ZRq,Z6n,Zhx,Zsv,Zrx,ZBw,Zax,tr⟩)
noncomputable def ZEq:FuncId×Con:=(115,⟨[.leaf 3],[.leaf 3],λp=>Z1m p⟩)
theorem Zpy:KQ ZEq:=Zh (Zr (C:=cf0 [] [] [] []) .no Tryz.func115 [] (λ_=>by kernel_rfl))
noncomputable def Z6o:FuncId×Con:=(59,⟨[.slice (.slice (.leaf 3)),.slice (.slice (.leaf 3))],[.slice (.slice (.leaf 3))],λp=>Zik p.1 p.2⟩)
theorem ZIv:KQ Z6o:=Zh (Zr (C:=cf0 [ZSf,ZSh,ZEq] [12,15] [] []) (.n (.n (.n (.f (.n (.f (.l [5,6,16,17] [] [.s 18 (.dat (.int .i64)),.l (.sl 6) (.mat 74 47 (.leaf 3))] 0 [6] [] [.l (.sl 6) (.mat 74 47 (.leaf 3))] (.f (.n (.n (.f (.f (.n (.n (.f (.l [5,6,7,8,16,17,18,23,24] [] [.s 25 (.dat (.int .i64)),.l (.sl 6) (.mat 74 47 (.leaf 3))] 2 [5,6,16,17,18] [] [.l (.sl 6) (.mat 74 47 (.leaf 3))] .no)))))))))))))))) Tryz.func59 [(65,Tryz.f65,.r [] [] [.s 1000 (.dat (.slice (.slice (.leaf 3))))] (.n (.n (.f (.n (.f (.l [1,5,13,14] [] [.s 15 (.dat (.int .i64)),.l (.sl 5) (.mat 74 47 (.leaf 3))] 0 [5] [] [.l (.sl 5) (.mat 74 47 (.leaf 3))] (.f (.n (.n (.f (.f (.n (.n (.f (.l [1,5,13,14,15,19,20] [] [.s 21 (.dat (.int .i64)),.l (.sl 5) (.mat 74 47 (.leaf 3))] 2 [1,5,13,14,15] [] [.l (.sl 5) (.mat 74 47 (.leaf 3))] .no))))))))))))))))] (λ_=>by kernel_rfl) ⟨Zah,Z2k,Zpy,tr⟩ tr tr ⟨⟨Tryz.func65,λ_ _=>by kernel_rfl⟩,tr⟩)
noncomputable def ZJp:FuncId×Con:=(22,⟨[.slice (.slice (.leaf 3)),.slice (.slice (.leaf 3))],[.slice (.slice (.leaf 3)),.int .i64],λp=>Z7e p.1 p.2⟩)
theorem Z2z:KQ ZJp:=Zh (Zr (C:=cf0 [Zmg,ZSf,Z6o] [] [] []) (.n (.f (.f (.j [0,1] [] [.s 20 (.dat .bool)] .no)))) Tryz.func22 [] (λ_=>by kernel_rfl) ⟨ZZh,Zah,ZIv,tr⟩)
noncomputable def ZVk:FuncId×Con:=(60,⟨[.slice (.slice (.pair (.pair (.leaf 4) (.pair (.leaf 4) (.pair (.leaf 4) (.leaf 4)))) (.pair (.leaf 4) (.pair (.leaf 4) (.pair (.leaf 4) (.leaf 4))))))],[.bool],λp=>Zvf p⟩)
theorem Zpl:KQ ZVk:=Zh (Zr (C:=cf0 [] [] [] []) (.n (.f (.n (.f (.cut ⟨⟨[0],[],[.s 3 (.dat (.int .i64))]⟩,[(.exit 0,⟨[0],[],[]⟩),(.ret,⟨[],[],[.s 1000 (.dat .bool)]⟩)]⟩ (.f (.n (.f (.f (.f (.j [0,3] [] [.s 27 (.dat .bool)] .no))))))))))) Tryz.func60 [] (λ_=>by kernel_rfl))
noncomputable def ZGj:FuncId×Con:=(61,⟨[.slice (.slice (.pair (.pair (.leaf 4) (.pair (.leaf 4) (.pair (.leaf 4) (.leaf 4)))) (.pair (.leaf 4) (.pair (.leaf 4) (.pair (.leaf 4) (.leaf 4))))))],[.int .i64],λp=>Zrd p⟩)
theorem ZUl:KQ ZGj:=Zh (Zr (C:=cf0 [] [] [] []) .no Tryz.func61 [] (λ_=>by kernel_rfl))
noncomputable def Z0l:FuncId×Con:=(116,⟨[],[.pair (.pair (.leaf 4) (.pair (.leaf 4) (.pair (.leaf 4) (.leaf 4)))) (.pair (.leaf 4) (.pair (.leaf 4) (.pair (.leaf 4) (.leaf 4))))],λ_=>Zhi⟩)
theorem Zju:KQ Z0l:=Zh (Zr (C:=cf0 [Zmi,ZNe] [] [] []) .no Tryz.func116 [] (λ_=>by kernel_rfl) ⟨Zqj,ZIf,tr⟩)
noncomputable def ZYj:FuncId×ConM:=(62,⟨[.int .i64,.int .i64],75,137,.pair (.pair (.leaf 4) (.pair (.leaf 4) (.pair (.leaf 4) (.leaf 4)))) (.pair (.leaf 4) (.pair (.leaf 4) (.pair (.leaf 4) (.leaf 4)))),λp=>Zue p.1 p.2⟩)
theorem ZDm:KW ZYj:=Zyq (C:=cf0 [Z0l] [9] [] []) (.n (.n (.f (.n (.f (.l [0,1,5] [] [.s 6 (.dat (.int .i64)),.l (.sl 5) (.mat 75 137 (.pair (.pair (.leaf 4) (.pair (.leaf 4) (.pair (.leaf 4) (.leaf 4)))) (.pair (.leaf 4) (.pair (.leaf 4) (.pair (.leaf 4) (.leaf 4))))))] 0 [5] [] [.l (.sl 5) (.mat 75 137 (.pair (.pair (.leaf 4) (.pair (.leaf 4) (.pair (.leaf 4) (.leaf 4)))) (.pair (.leaf 4) (.pair (.leaf 4) (.pair (.leaf 4) (.leaf 4))))))] (.f (.n (.f (.f (.n (.f (.l [0,1,5,6] [] [.s 7 (.dat (.int .i64)),.l (.sl 5) (.mat 75 137 (.pair (.pair (.leaf 4) (.pair (.leaf 4) (.pair (.leaf 4) (.leaf 4)))) (.pair (.leaf 4) (.pair (.leaf 4) (.pair (.leaf 4) (.leaf 4))))))] 2 [0,1,5,6] [] [.l (.sl 5) (.mat 75 137 (.pair (.pair (.leaf 4) (.pair (.leaf 4) (.pair (.leaf 4) (.leaf 4)))) (.pair (.leaf 4) (.pair (.leaf 4) (.pair (.leaf 4) (.leaf 4))))))] .no))))))))))))) Tryz.func62 [] (λ_=>by kernel_rfl) ⟨Zju,tr⟩
noncomputable def Zjo:FuncId×Con:=(63,⟨[.pair (.pair (.leaf 4) (.pair (.leaf 4) (.pair (.leaf 4) (.leaf 4)))) (.pair (.leaf 4) (.pair (.leaf 4) (.pair (.leaf 4) (.leaf 4)))),.pair (.pair (.leaf 4) (.pair (.leaf 4) (.pair (.leaf 4) (.leaf 4)))) (.pair (.leaf 4) (.pair (.leaf 4) (.pair (.leaf 4) (.leaf 4))))],[.pair (.pair (.leaf 4) (.pair (.leaf 4) (.pair (.leaf 4) (.leaf 4)))) (.pair (.leaf 4) (.pair (.leaf 4) (.pair (.leaf 4) (.leaf 4))))],λp=>ZKi p.1 p.2⟩)
theorem ZOt:KQ Zjo:=Zh (Zr (C:=cf0 [ZVj] [] [] []) .no Tryz.func63 [] (λ_=>by kernel_rfl) ⟨ZPl,tr⟩)
theorem Zwv {x y z:Rat} (h:Z5 x y=some z):Z3q x y=some z:=by
 unfold Z5 at h;split at h
 ·rename_i hh;obtain⟨⟨a1,a2⟩,b1,b2⟩:=hh
  cases h
  unfold Z3q Zkc;have p1:=Zmb x.num.natAbs y.num.natAbs;have p3:=Zmb x.den y.den;have e1:ZCa x.num.natAbs y.num.natAbs=some (x.num.natAbs*y.num.natAbs):=by unfold ZCa;rw[iP ⟨Z8b (by omega),Z8b (by omega)⟩]
  have e3:ZCa x.den y.den=some (x.den*y.den):=by unfold ZCa;rw[iP ⟨Z8b (by omega),Z8b (by omega)⟩]
  rw[e1,Za,Za,Za,e3,Za];unfold Zvb;rw[iP ⟨Zge (by omega),Zge (by omega),Nat.mul_ne_zero x.den_nz y.den_nz⟩,Za];have e:sgn ((decide (x.num<0)) != (decide (y.num<0))) (x.num.natAbs*y.num.natAbs)=x.num*y.num:=by
   have eN:((x.num.natAbs*y.num.natAbs:Nat):Int)=(x.num.natAbs:Int)*y.num.natAbs:=by simp
   unfold sgn;rw[eN];by_cases h:x.num<0
   ·have hx:(x.num.natAbs:Int) = -x.num:=by omega
    by_cases h2:y.num<0
    ·have hy:(y.num.natAbs:Int) = -y.num:=by omega
     simp[h,h2,hx,hy,Int.neg_mul,Int.mul_neg]
    ·have hy:(y.num.natAbs:Int)=y.num:=by omega
     simp[h,h2,hx,hy,Int.neg_mul,Int.mul_neg]
   ·have hx:(x.num.natAbs:Int)=x.num:=by omega
    by_cases h2:y.num<0
    ·have hy:(y.num.natAbs:Int) = -y.num:=by omega
     simp[h,h2,hx,hy,Int.neg_mul,Int.mul_neg]
    ·have hy:(y.num.natAbs:Int)=y.num:=by omega
     simp[h,h2,hx,hy,Int.neg_mul,Int.mul_neg]
  rw[e,← Rat.mul_def']
 ·cases h
noncomputable def ZDr:FuncId×Con:=(171,⟨[.leaf 4,.leaf 4],[.leaf 4],λp=>Z5 p.1 p.2⟩)
theorem rmul_k:KQ ZDr:=Zh (Zx (C:=cf2 [(131,1),(133,4)] [ZZg,Zli,ZHk]) .no Tryz.func171 [] (λv vals x z ha hz=>.trans (by kernel_rfl) (Zwv hz)) ⟨Z6h,Zmk,ZEm,tr⟩)
noncomputable def ZZt:FuncId×Con:=(119,⟨[.pair (.leaf 4) (.pair (.leaf 4) (.pair (.leaf 4) (.leaf 4))),.pair (.leaf 4) (.pair (.leaf 4) (.pair (.leaf 4) (.leaf 4)))],[.pair (.leaf 4) (.pair (.leaf 4) (.pair (.leaf 4) (.leaf 4)))],λp=>ZDf p.1 p.2⟩)
theorem sMul_k:KQ ZZt:=Zh (Zr (C:=cf0 [ZNe,Zgj,Znm,ZDr] [] [] []) (.n (.n (.f (.n (.f (.unroll 5 (.f (.n (.f (.f (.n (.f (.unroll 5 .no))))))))))))) Tryz.func119 [] (λ_=>by kernel_rfl) ⟨ZIf,Zom,ZCp,rmul_k,tr⟩)
noncomputable def Z4l:FuncId×Con:=(64,⟨[.pair (.pair (.leaf 4) (.pair (.leaf 4) (.pair (.leaf 4) (.leaf 4)))) (.pair (.leaf 4) (.pair (.leaf 4) (.pair (.leaf 4) (.leaf 4)))),.pair (.pair (.leaf 4) (.pair (.leaf 4) (.pair (.leaf 4) (.leaf 4)))) (.pair (.leaf 4) (.pair (.leaf 4) (.pair (.leaf 4) (.leaf 4))))],[.pair (.pair (.leaf 4) (.pair (.leaf 4) (.pair (.leaf 4) (.leaf 4)))) (.pair (.leaf 4) (.pair (.leaf 4) (.pair (.leaf 4) (.leaf 4))))],λp=>Zdi p.1 p.2⟩)
theorem Zgp:KQ Z4l:=Zh (Zr (C:=cf0 [ZVj,Z9l,ZZt] [] [] []) .no Tryz.func64 [] (λ_=>by kernel_rfl) ⟨ZPl,Z1s,sMul_k,tr⟩)
noncomputable def ZQs:FuncId×Con:=(23,⟨[.slice (.slice (.pair (.pair (.leaf 4) (.pair (.leaf 4) (.pair (.leaf 4) (.leaf 4)))) (.pair (.leaf 4) (.pair (.leaf 4) (.pair (.leaf 4) (.leaf 4)))))),.slice (.slice (.pair (.pair (.leaf 4) (.pair (.leaf 4) (.pair (.leaf 4) (.leaf 4)))) (.pair (.leaf 4) (.pair (.leaf 4) (.pair (.leaf 4) (.leaf 4))))))],[.slice (.slice (.pair (.pair (.leaf 4) (.pair (.leaf 4) (.pair (.leaf 4) (.leaf 4)))) (.pair (.leaf 4) (.pair (.leaf 4) (.pair (.leaf 4) (.leaf 4)))))),.int .i64],λp=>Zwf p.1 p.2⟩)
theorem Zly:KQ ZQs:=Zh (Zr (C:=cf1 [ZVk,ZGj,Zjo,Z4l] [] [] [] [ZYj] [] []) (.n (.two (.f (.j [0,1] [] [.s 24 (.dat .bool)] .no)) (.n (.f (.n (.f (.l [0,1,6] [] [.s 7 (.dat (.int .i64)),.l (.sl 6) (.mat 75 137 (.pair (.pair (.leaf 4) (.pair (.leaf 4) (.pair (.leaf 4) (.leaf 4)))) (.pair (.leaf 4) (.pair (.leaf 4) (.pair (.leaf 4) (.leaf 4))))))] 0 [6] [] [.l (.sl 6) (.mat 75 137 (.pair (.pair (.leaf 4) (.pair (.leaf 4) (.pair (.leaf 4) (.leaf 4)))) (.pair (.leaf 4) (.pair (.leaf 4) (.pair (.leaf 4) (.leaf 4))))))] (.f (.n (.f (.f (.n (.f (.l [0,1,6,7] [] [.s 8 (.dat (.int .i64)),.l (.sl 6) (.mat 75 137 (.pair (.pair (.leaf 4) (.pair (.leaf 4) (.pair (.leaf 4) (.leaf 4)))) (.pair (.leaf 4) (.pair (.leaf 4) (.pair (.leaf 4) (.leaf 4))))))] 2 [0,1,6,7] [] [.l (.sl 6) (.mat 75 137 (.pair (.pair (.leaf 4) (.pair (.leaf 4) (.pair (.leaf 4) (.leaf 4)))) (.pair (.leaf 4) (.pair (.leaf 4) (.pair (.leaf 4) (.leaf 4))))))] (.f (.n (.f (.f (.n (.f (.l [0,1,6,7,8] [] [.s 9 (.dat (.int .i64)),.l (.sl 6) (.mat 75 137 (.pair (.pair (.leaf 4) (.pair (.leaf 4) (.pair (.leaf 4) (.leaf 4)))) (.pair (.leaf 4) (.pair (.leaf 4) (.pair (.leaf 4) (.leaf 4))))))] 4 [0,1,6,7,8] [] [.l (.sl 6) (.mat 75 137 (.pair (.pair (.leaf 4) (.pair (.leaf 4) (.pair (.leaf 4) (.leaf 4)))) (.pair (.leaf 4) (.pair (.leaf 4) (.pair (.leaf 4) (.leaf 4))))))] .no))))))))))))))))))))) Tryz.func23 [] (λ_=>by kernel_rfl) ⟨Zpl,ZUl,ZOt,Zgp,tr⟩ tr tr tr ⟨ZDm,tr⟩)
noncomputable def Zwp:FuncId×Con:=(254,⟨[.leaf 3],[.leaf 3],λp=>Zuo p⟩)
theorem qconj_k:KQ Zwp:=Zh (Zr (C:=cf0 [] [] [] []) .no Tryz.func254 [] (λ_=>by kernel_rfl))
noncomputable def Z2q:FuncId×Con:=(66,⟨[.leaf 3],[.leaf 3],λp=>Zal p⟩)
theorem lconj_k : KQ Z2q := Zh (Zr (C := cf0 [Zwp] [] [] [((40, "Conj"), 15), ((47, "Conj"), 254)]) .no Tryz.func66 [] (λ_ => by kernel_rfl) ⟨qconj_k, tr⟩ tr ⟨Zwx, Zev, tr⟩)
noncomputable def ZUs:FuncId×Con:=(25,⟨[.slice (.slice (.leaf 3))],[.slice (.slice (.leaf 3)),.int .i64],λp=>ZNf p⟩)
theorem ZUx:KQ ZUs:=Zh (Zr (C:=cf0 [Zmg,ZSf,Z2q] [12] [] []) .no Tryz.func25 [(65,Tryz.f65,.r [] [] [.s 1000 (.dat (.slice (.slice (.leaf 3))))] (.n (.n (.f (.n (.f (.l [1,5,13,14] [] [.s 15 (.dat (.int .i64)),.l (.sl 5) (.mat 74 47 (.leaf 3))] 0 [5] [] [.l (.sl 5) (.mat 74 47 (.leaf 3))] (.f (.n (.n (.f (.f (.n (.n (.f (.l [1,5,13,14,15,19,20] [] [.s 21 (.dat (.int .i64)),.l (.sl 5) (.mat 74 47 (.leaf 3))] 2 [1,5,13,14,15] [] [.l (.sl 5) (.mat 74 47 (.leaf 3))] .no))))))))))))))))] (λ_=>by kernel_rfl) ⟨ZZh,Zah,lconj_k,tr⟩ tr tr ⟨⟨Tryz.func65,λ_ _=>by kernel_rfl⟩,tr⟩)
noncomputable def ZBp:FuncId×Con:=(67,⟨[.pair (.pair (.leaf 4) (.pair (.leaf 4) (.pair (.leaf 4) (.leaf 4)))) (.pair (.leaf 4) (.pair (.leaf 4) (.pair (.leaf 4) (.leaf 4))))],[.pair (.pair (.leaf 4) (.pair (.leaf 4) (.pair (.leaf 4) (.leaf 4)))) (.pair (.leaf 4) (.pair (.leaf 4) (.pair (.leaf 4) (.leaf 4))))],λp=>ZCk p⟩)
theorem wConj_k:KQ ZBp:=Zh (Zr (C:=cf0 [Z9n] [] [] []) .no Tryz.func67 [] (λ_=>by kernel_rfl) ⟨ZNr,tr⟩)
noncomputable def Z9s:FuncId×Con:=(26,⟨[.slice (.slice (.pair (.pair (.leaf 4) (.pair (.leaf 4) (.pair (.leaf 4) (.leaf 4)))) (.pair (.leaf 4) (.pair (.leaf 4) (.pair (.leaf 4) (.leaf 4))))))],[.slice (.slice (.pair (.pair (.leaf 4) (.pair (.leaf 4) (.pair (.leaf 4) (.leaf 4)))) (.pair (.leaf 4) (.pair (.leaf 4) (.pair (.leaf 4) (.leaf 4)))))),.int .i64],λp=>Zyf p⟩)
theorem Z9y:KQ Z9s:=Zh (Zr (C:=cf1 [ZVk,ZGj,ZBp] [] [] [] [ZYj] [] []) (.n (.n (.n (.f (.n (.f (.l [0,4] [] [.s 5 (.dat (.int .i64)),.l (.sl 4) (.mat 75 137 (.pair (.pair (.leaf 4) (.pair (.leaf 4) (.pair (.leaf 4) (.leaf 4)))) (.pair (.leaf 4) (.pair (.leaf 4) (.pair (.leaf 4) (.leaf 4))))))] 0 [4] [] [.l (.sl 4) (.mat 75 137 (.pair (.pair (.leaf 4) (.pair (.leaf 4) (.pair (.leaf 4) (.leaf 4)))) (.pair (.leaf 4) (.pair (.leaf 4) (.pair (.leaf 4) (.leaf 4))))))] (.f (.n (.f (.f (.n (.f (.l [0,4,5] [] [.s 6 (.dat (.int .i64)),.l (.sl 4) (.mat 75 137 (.pair (.pair (.leaf 4) (.pair (.leaf 4) (.pair (.leaf 4) (.leaf 4)))) (.pair (.leaf 4) (.pair (.leaf 4) (.pair (.leaf 4) (.leaf 4))))))] 2 [0,4,5] [] [.l (.sl 4) (.mat 75 137 (.pair (.pair (.leaf 4) (.pair (.leaf 4) (.pair (.leaf 4) (.leaf 4)))) (.pair (.leaf 4) (.pair (.leaf 4) (.pair (.leaf 4) (.leaf 4))))))] .no)))))))))))))) Tryz.func26 [] (λ_=>by kernel_rfl) ⟨Zpl,ZUl,wConj_k,tr⟩ tr tr tr ⟨ZDm,tr⟩)
noncomputable def ZSt:FuncId×Con:=(27,⟨[.int .i64],[.slice (.slice (.leaf 3))],λp=>Z7g p⟩)
theorem Zfx:KQ ZSt:=Zh (Zr (C:=cf0 [Zyd] [9] [Zpg] []) (.n (.n (.n (.f (.n (.f (.l [0,3,11] [] [.s 12 (.dat (.int .i64)),.l (.sl 3) (.mat 74 47 (.leaf 3))] 0 [3] [] [.l (.sl 3) (.mat 74 47 (.leaf 3))] .no))))))) Tryz.func27 [] (λ_=>by kernel_rfl) ⟨Z7d,tr⟩ ⟨ZLh,tr⟩)
noncomputable def ZSp:FuncId×Con:=(70,⟨[],[.pair (.pair (.leaf 4) (.pair (.leaf 4) (.pair (.leaf 4) (.leaf 4)))) (.pair (.leaf 4) (.pair (.leaf 4) (.pair (.leaf 4) (.leaf 4))))],λ_=>Zbk⟩)
theorem rOne2_k:KQ ZSp:=Zh (Zr (C:=cf0 [Zmi,ZNe] [] [] []) .no Tryz.func70 [] (λ_=>by kernel_rfl) ⟨Zqj,ZIf,tr⟩)
noncomputable def Zeq:FuncId×Con:=(28,⟨[.int .i64],[.slice (.slice (.pair (.pair (.leaf 4) (.pair (.leaf 4) (.pair (.leaf 4) (.leaf 4)))) (.pair (.leaf 4) (.pair (.leaf 4) (.pair (.leaf 4) (.leaf 4))))))],λp=>Zkf p⟩)
theorem ZOx:KQ Zeq:=Zh (Zr (C:=cf1 [ZSp] [] [] [] [ZYj] [] []) (.n (.two (.n (.j [] [] [.s 0 (.dat (.int .i64))] .no)) (.two (.n (.j [] [] [.s 0 (.dat (.int .i64))] .no)) (.n (.f (.n (.f (.l [0,3] [] [.s 4 (.dat (.int .i64)),.l (.sl 3) (.mat 75 137 (.pair (.pair (.leaf 4) (.pair (.leaf 4) (.pair (.leaf 4) (.leaf 4)))) (.pair (.leaf 4) (.pair (.leaf 4) (.pair (.leaf 4) (.leaf 4))))))] 0 [3] [] [.l (.sl 3) (.mat 75 137 (.pair (.pair (.leaf 4) (.pair (.leaf 4) (.pair (.leaf 4) (.leaf 4)))) (.pair (.leaf 4) (.pair (.leaf 4) (.pair (.leaf 4) (.leaf 4))))))] .no)))))))) Tryz.func28 [] (λ_=>by kernel_rfl) ⟨rOne2_k,tr⟩ tr tr tr ⟨ZDm,tr⟩)
noncomputable def ZTo:FuncId×Con:=(30,⟨[.slice (.slice (.leaf 3)),.slice (.leaf 3),.slice (.leaf 3)],[.slice (.leaf 3),.int .i64],λp=>ZHf p.1 p.2.1 p.2.2⟩)
theorem ZXx : KQ ZTo := Zh (Zr (C := cf0 [Zmg, ZSf, ZSh, ZCg] [] [] [((35, "Sub"), 43), ((47, "Sub"), 189)]) (.n (.two (.f (.j [0, 1, 2] [] [.s 26 (.dat .bool)] .no)) (.n (.f (.n (.f (.l [2, 8, 31] [] [.s 32 (.dat (.int .i64)), .l (.sl 8) (.own 47 (.leaf 3))] 0 [8] [] [.l (.sl 8) (.own 47 (.leaf 3))] .no))))))) Tryz.func30 [(74, Tryz.f74, .n (.n (.f (.n (.f (.l [1, 8, 9] [] [.s 5 (.own 47 (.leaf 3)), .s 10 (.dat (.int .i64))] 0 [] [] [.s 5 (.own 47 (.leaf 3))] .no))))))] (λ_ => by kernel_rfl) ⟨ZZh, Zah, Z2k, Zki, tr⟩ tr ⟨Z5k, Zej, tr⟩ ⟨⟨Tryz.func74, λ_ _ => by kernel_rfl⟩, tr⟩)
noncomputable def ZIp:FuncId×Con:=(126,⟨[.slice (.pair (.pair (.leaf 4) (.pair (.leaf 4) (.pair (.leaf 4) (.leaf 4)))) (.pair (.leaf 4) (.pair (.leaf 4) (.pair (.leaf 4) (.leaf 4))))),.slice (.pair (.pair (.leaf 4) (.pair (.leaf 4) (.pair (.leaf 4) (.leaf 4)))) (.pair (.leaf 4) (.pair (.leaf 4) (.pair (.leaf 4) (.leaf 4)))))],[.pair (.pair (.leaf 4) (.pair (.leaf 4) (.pair (.leaf 4) (.leaf 4)))) (.pair (.leaf 4) (.pair (.leaf 4) (.pair (.leaf 4) (.leaf 4))))],λp=>Zjj p.1 p.2⟩)
theorem rDot_k:KQ ZIp:=Zh (Zr (C:=cf0 [Zjo,Z4l,Z0l] [] [] []) (.n (.n (.f (.n (.f (.l [0,1,4,5] [] [.s 6 (.dat (.int .i64)),.l (.sl 5) (.box 137 (.dat (.pair (.pair (.leaf 4) (.pair (.leaf 4) (.pair (.leaf 4) (.leaf 4)))) (.pair (.leaf 4) (.pair (.leaf 4) (.pair (.leaf 4) (.leaf 4)))))))] 0 [4,5] [] [.l (.sl 5) (.box 137 (.dat (.pair (.pair (.leaf 4) (.pair (.leaf 4) (.pair (.leaf 4) (.leaf 4)))) (.pair (.leaf 4) (.pair (.leaf 4) (.pair (.leaf 4) (.leaf 4)))))))] .no)))))) Tryz.func126 [] (λ_=>by kernel_rfl) ⟨ZOt,Zgp,Zju,tr⟩)
noncomputable def Zdr:FuncId×Con:=(31,⟨[.slice (.slice (.pair (.pair (.leaf 4) (.pair (.leaf 4) (.pair (.leaf 4) (.leaf 4)))) (.pair (.leaf 4) (.pair (.leaf 4) (.pair (.leaf 4) (.leaf 4)))))),.slice (.pair (.pair (.leaf 4) (.pair (.leaf 4) (.pair (.leaf 4) (.leaf 4)))) (.pair (.leaf 4) (.pair (.leaf 4) (.pair (.leaf 4) (.leaf 4))))),.slice (.pair (.pair (.leaf 4) (.pair (.leaf 4) (.pair (.leaf 4) (.leaf 4)))) (.pair (.leaf 4) (.pair (.leaf 4) (.pair (.leaf 4) (.leaf 4)))))],[.slice (.pair (.pair (.leaf 4) (.pair (.leaf 4) (.pair (.leaf 4) (.leaf 4)))) (.pair (.leaf 4) (.pair (.leaf 4) (.pair (.leaf 4) (.leaf 4))))),.int .i64],λp=>ZAf p.1 p.2.1 p.2.2⟩)
theorem Z9u:KQ Zdr:=Zh (Zr (C:=cf0 [ZVk,ZGj,Z9m,ZIp] [] [] []) (.n (.two (.f (.j [0,1,2] [] [.s 26 (.dat .bool)] .no)) (.n (.f (.n (.f (.l [2,8] [] [.s 9 (.dat (.int .i64)),.l (.sl 8) (.own 137 (.pair (.pair (.leaf 4) (.pair (.leaf 4) (.pair (.leaf 4) (.leaf 4)))) (.pair (.leaf 4) (.pair (.leaf 4) (.pair (.leaf 4) (.leaf 4))))))] 0 [8] [] [.l (.sl 8) (.own 137 (.pair (.pair (.leaf 4) (.pair (.leaf 4) (.pair (.leaf 4) (.leaf 4)))) (.pair (.leaf 4) (.pair (.leaf 4) (.pair (.leaf 4) (.leaf 4))))))] .no))))))) Tryz.func31 [(75,Tryz.f75,.n (.n (.f (.n (.f (.l [0,1] [] [.s 5 (.own 137 (.pair (.pair (.leaf 4) (.pair (.leaf 4) (.pair (.leaf 4) (.leaf 4)))) (.pair (.leaf 4) (.pair (.leaf 4) (.pair (.leaf 4) (.leaf 4)))))),.s 6 (.dat (.int .i64))] 0 [] [] [.s 5 (.own 137 (.pair (.pair (.leaf 4) (.pair (.leaf 4) (.pair (.leaf 4) (.leaf 4)))) (.pair (.leaf 4) (.pair (.leaf 4) (.pair (.leaf 4) (.leaf 4))))))] .no))))))] (λ_=>by kernel_rfl) ⟨Zpl,ZUl,ZBr,rDot_k,tr⟩ tr tr ⟨⟨Tryz.func75,λ_ _=>by kernel_rfl⟩,tr⟩)
noncomputable def ZWt:FuncId×Con:=(33,⟨[.slice (.slice (.leaf 3))],[.slice (.slice (.leaf 3))],λp=>Z3l p⟩)
theorem liftR_k : KQ ZWt := Zh (Zr (C := cf0 [qOf_q] [11] [] [((35, "Of"), 37), ((40, "Of"), 10), ((47, "Of"), 256)]) (.n (.n (.n (.f (.n (.f (.l [3, 4, 12, 13] [] [.s 14 (.dat (.int .i64)), .l (.sl 4) (.mat 74 47 (.leaf 3))] 0 [4] [] [.l (.sl 4) (.mat 74 47 (.leaf 3))] (.f (.n (.n (.f (.f (.n (.n (.f (.l [3, 4, 5, 12, 13, 14, 19, 20] [] [.s 21 (.dat (.int .i64)), .l (.sl 4) (.mat 74 47 (.leaf 3))] 2 [3, 4, 12, 13, 14] [] [.l (.sl 4) (.mat 74 47 (.leaf 3))] .no)))))))))))))))) Tryz.func33 [] (λ_ => by kernel_rfl) ⟨qOf_k, tr⟩ tr ⟨ZSl, Zsm, ZIm, tr⟩)
noncomputable def ZAu:FuncId×Con:=(48,⟨[.pair (.pair (.pair (.leaf 2) (.pair (.leaf 2) (.pair (.leaf 2) (.leaf 2)))) (.leaf 0)) (.pair (.pair (.leaf 2) (.pair (.leaf 2) (.pair (.leaf 2) (.leaf 2)))) (.leaf 0))],[.pair (.pair (.leaf 2) (.pair (.leaf 2) (.pair (.leaf 2) (.leaf 2)))) (.leaf 0)],λp=>Znl p⟩)
theorem wvIm_k:KQ ZAu:=Zh (Zr (C:=cf0 [] [] [] []) .no Tryz.func48 [] (λ_=>by kernel_rfl))
noncomputable def Z0p:FuncId×Con:=(97,⟨[.pair (.pair (.leaf 2) (.pair (.leaf 2) (.pair (.leaf 2) (.leaf 2)))) (.leaf 0)],[.pair (.leaf 3) (.pair (.leaf 3) (.pair (.leaf 3) (.leaf 3)))],λp=>Zfj p⟩)
theorem ZNx:KQ Z0p:=Zh (Zr (C:=cf0 [Zrh,Z3g] [] [] []) (.n (.n (.f (.n (.f (.unroll 5 .no)))))) Tryz.func97 [] (λ_=>by kernel_rfl) ⟨Zwk,Zei,tr⟩)
noncomputable def Z4o:FuncId×Con:=(99,⟨[],[.pair .str (.pair .str (.pair .str .str))],λ_=>Zyg⟩)
theorem Z1w:KQ Z4o:=Zh (Zr (C:=cf0 [] [] [] []) .no Tryz.func99 [] (λ_=>by kernel_rfl))
noncomputable def Z1o:FuncId×Con:=(49,⟨[.pair (.pair (.leaf 2) (.pair (.leaf 2) (.pair (.leaf 2) (.leaf 2)))) (.leaf 0)],[.str],λp=>ZJj p⟩)
theorem Zoy:KQ Z1o:=Zh (Zr (C:=cf0 [ZEj,ZHe,Z0p,Z8e,Z4o] [] [] []) (.n (.n (.f (.n (.f (.unroll 5 (.f (.n (.n (.f (.j [7,8] [] [.s 3 (.dat .str)] (.f (.n (.n (.f (.two (.j [3,4,5,7,8] [] [.s 20 (.dat .bool)] .no) (.j [4,5,7,8] [] [.s 3 (.dat .str)] .no))))))))))))))))) Tryz.func49 [] (λ_=>by kernel_rfl) ⟨Z6n,ZUf,ZNx,Zjh,Z1w,tr⟩)
theorem ZMz {x:Rat} {z:Int} (h:ZOf x=some z):ZCs x=some z:=by
 unfold ZOf at h
 cases h
 unfold ZCs ZZa;rw[Za];by_cases h0:x=0
 ·subst h0;rfl
 ·have:=Zzo h0;rw[dFq h0,Ze];by_cases h1:x.num<0
  ·rw[dTq h1,Zf,Int.sign_eq_neg_one_of_neg h1]
  ·rw[dFq h1,Ze,Int.sign_eq_one_of_pos (by omega)]
noncomputable def ZZr:FuncId×Con:=(212,⟨[.leaf 4],[.int .i64],λp=>ZOf p⟩)
theorem rsign_k:KQ ZZr:=Zh (Zx (C:=cf2 [(131,1),(133,4)] [ZAi]) .no Tryz.func212 [] (λv vals x z ha hz=>.trans (by kernel_rfl) (ZMz hz)) ⟨ZFj,tr⟩)
noncomputable def Zou:FuncId×Con:=(181,⟨[.pair (.leaf 4) (.pair (.leaf 4) (.pair (.leaf 4) (.leaf 4)))],[.str],λp=>ZSj p⟩)
theorem Zgx:KQ Zou:=Zh (Zr (C:=cf0 [Zql,ZAi,ZZr] [] [] []) (.n (.n (.n (.f (.n (.f (.unroll 5 (.f (.n (.f (.j [1,4,5] [] [.s 3 (.dat .str)] (.f (.n (.f (.two (.j [1,3,4,5] [] [.s 23 (.dat .bool)] .no) (.j [1,4,5] [] [.s 3 (.dat .str)] .no)))))))))))))))) Tryz.func181 [] (λ_=>by kernel_rfl) ⟨Zit,ZFj,rsign_k,tr⟩)
noncomputable def ZSq:FuncId×Con:=(129,⟨[.pair (.pair (.leaf 2) (.pair (.leaf 2) (.pair (.leaf 2) (.leaf 2)))) (.leaf 0),.pair (.leaf 4) (.pair (.leaf 4) (.pair (.leaf 4) (.leaf 4)))],[.bool],λp=>Zok p.1 p.2⟩)
theorem ZaA:KQ ZSq:=Zh (Zr (C:=cf0 [Z1o,Zou] [] [] []) .no Tryz.func129 [] (λ_=>by kernel_rfl) ⟨Zoy,Zgx,tr⟩)
noncomputable def ZTs:FuncId×Con:=(130,⟨[.pair (.pair (.pair (.leaf 2) (.pair (.leaf 2) (.pair (.leaf 2) (.leaf 2)))) (.leaf 0)) (.pair (.pair (.leaf 2) (.pair (.leaf 2) (.pair (.leaf 2) (.leaf 2)))) (.leaf 0))],[.pair (.pair (.leaf 2) (.pair (.leaf 2) (.pair (.leaf 2) (.leaf 2)))) (.leaf 0)],λp=>ZJl p⟩)
theorem wvRe_k:KQ ZTs:=Zh (Zr (C:=cf0 [] [] [] []) .no Tryz.func130 [] (λ_=>by kernel_rfl))
noncomputable def ZUq:FuncId×Con:=(79,⟨[.pair (.pair (.pair (.leaf 2) (.pair (.leaf 2) (.pair (.leaf 2) (.leaf 2)))) (.leaf 0)) (.pair (.pair (.leaf 2) (.pair (.leaf 2) (.pair (.leaf 2) (.leaf 2)))) (.leaf 0)),.pair (.pair (.leaf 4) (.pair (.leaf 4) (.pair (.leaf 4) (.leaf 4)))) (.pair (.leaf 4) (.pair (.leaf 4) (.pair (.leaf 4) (.leaf 4))))],[.bool],λp=>ZPj p.1 p.2⟩)
theorem Zny:KQ ZUq:=Zh (Zr (C:=cf0 [ZAu,ZSq,ZTs] [] [] []) (.n (.f (.j [] [] [.s 4 (.dat .bool)] .no))) Tryz.func79 [] (λ_=>by kernel_rfl) ⟨wvIm_k,ZaA,wvRe_k,tr⟩)
noncomputable def ZPt:FuncId×Con:=(34,⟨[.slice (.slice (.pair (.pair (.pair (.leaf 2) (.pair (.leaf 2) (.pair (.leaf 2) (.leaf 2)))) (.leaf 0)) (.pair (.pair (.leaf 2) (.pair (.leaf 2) (.pair (.leaf 2) (.leaf 2)))) (.leaf 0)))),.slice (.slice (.pair (.pair (.leaf 4) (.pair (.leaf 4) (.pair (.leaf 4) (.leaf 4)))) (.pair (.leaf 4) (.pair (.leaf 4) (.pair (.leaf 4) (.leaf 4))))))],[.bool],λp=>Zck p.1 p.2⟩)
theorem ZEv:KQ ZPt:=Zh (Zr (C:=cf0 [ZUq] [] [] []) (.n (.n (.f (.n (.f (.cut ⟨⟨[0,1,13],[],[.s 14 (.dat (.int .i64))]⟩,[(.exit 0,⟨[],[],[]⟩),(.ret,⟨[],[],[.s 1000 (.dat .bool)]⟩)]⟩ (.f (.n (.n (.f (.f (.n (.n (.n (.f (.cut ⟨⟨[0,1,5,13,14,32],[],[.s 33 (.dat (.int .i64))]⟩,[(.exit 2,⟨[0,1,13,14],[],[]⟩),(.ret,⟨[],[],[.s 1000 (.dat .bool)]⟩)]⟩ .no)))))))))))))))) Tryz.func34 [] (λ_=>by kernel_rfl) ⟨Zny,tr⟩)
noncomputable def Zpq:FuncId×Con:=(37,⟨[.pair (.pair (.leaf 2) (.pair (.leaf 2) (.pair (.leaf 2) (.leaf 2)))) (.leaf 0),.leaf 3],[.pair (.pair (.leaf 2) (.pair (.leaf 2) (.pair (.leaf 2) (.leaf 2)))) (.leaf 0)],λp=>Z2s p.1 p.2⟩)
theorem sdOf_k:KQ Zpq:=Zh (Zr (C:=cf0 [] [] [] []) .no Tryz.func37 [] (λ_=>by kernel_rfl))
noncomputable def Znp:FuncId×Con:=(10,⟨[.pair (.pair (.pair (.leaf 2) (.pair (.leaf 2) (.pair (.leaf 2) (.leaf 2)))) (.leaf 0)) (.pair (.pair (.leaf 2) (.pair (.leaf 2) (.pair (.leaf 2) (.leaf 2)))) (.leaf 0)),.leaf 3],[.pair (.pair (.pair (.leaf 2) (.pair (.leaf 2) (.pair (.leaf 2) (.leaf 2)))) (.leaf 0)) (.pair (.pair (.leaf 2) (.pair (.leaf 2) (.pair (.leaf 2) (.leaf 2)))) (.leaf 0))],λp=>ZWl p.1 p.2⟩)
theorem wvOf_k:KQ Znp:=Zh (Zr (C:=cf0 [Zpq] [] [] []) .no Tryz.func10 [] (λ_=>by kernel_rfl) ⟨sdOf_k,tr⟩)
noncomputable def Z6s:FuncId×Con:=(35,⟨[.slice (.slice (.leaf 3))],[.slice (.slice (.pair (.pair (.pair (.leaf 2) (.pair (.leaf 2) (.pair (.leaf 2) (.leaf 2)))) (.leaf 0)) (.pair (.pair (.leaf 2) (.pair (.leaf 2) (.pair (.leaf 2) (.leaf 2)))) (.leaf 0))))],λp=>Zdn p⟩)
theorem liftW_k : KQ Z6s := Zh (Zr (C := cf0 [Znp] [11] [] [((35, "Of"), 37), ((40, "Of"), 10), ((47, "Of"), 256)]) (.n (.n (.n (.f (.n (.f (.l [3, 4, 12, 13] [] [.s 14 (.dat (.int .i64)), .l (.sl 4) (.mat 151 40 (.pair (.pair (.pair (.leaf 2) (.pair (.leaf 2) (.pair (.leaf 2) (.leaf 2)))) (.leaf 0)) (.pair (.pair (.leaf 2) (.pair (.leaf 2) (.pair (.leaf 2) (.leaf 2)))) (.leaf 0))))] 0 [4] [] [.l (.sl 4) (.mat 151 40 (.pair (.pair (.pair (.leaf 2) (.pair (.leaf 2) (.pair (.leaf 2) (.leaf 2)))) (.leaf 0)) (.pair (.pair (.leaf 2) (.pair (.leaf 2) (.pair (.leaf 2) (.leaf 2)))) (.leaf 0))))] (.f (.n (.n (.f (.f (.n (.n (.f (.l [3, 4, 5, 12, 13, 14, 19, 20] [] [.s 21 (.dat (.int .i64)), .l (.sl 4) (.mat 151 40 (.pair (.pair (.pair (.leaf 2) (.pair (.leaf 2) (.pair (.leaf 2) (.leaf 2)))) (.leaf 0)) (.pair (.pair (.leaf 2) (.pair (.leaf 2) (.pair (.leaf 2) (.leaf 2)))) (.leaf 0))))] 2 [3, 4, 12, 13, 14] [] [.l (.sl 4) (.mat 151 40 (.pair (.pair (.pair (.leaf 2) (.pair (.leaf 2) (.pair (.leaf 2) (.leaf 2)))) (.leaf 0)) (.pair (.pair (.leaf 2) (.pair (.leaf 2) (.pair (.leaf 2) (.leaf 2)))) (.leaf 0))))] .no)))))))))))))))) Tryz.func35 [] (λ_ => by kernel_rfl) ⟨wvOf_k, tr⟩ tr ⟨ZSl, Zsm, ZIm, tr⟩)
noncomputable def ZCw:FuncId×Con:=(4,⟨[.slice (.slice (.pair (.int .i64) (.int .i64))),.slice (.slice (.pair (.int .i64) (.int .i64))),.slice (.pair (.int .i64) (.int .i64)),.slice (.pair (.int .i64) (.int .i64)),.int .i64],[.bool],λp=>Z0j p.1 p.2.1 p.2.2.1 p.2.2.2.1 p.2.2.2.2⟩)
theorem ZDy:KR ZCw:=Zr (C:=cf0 [Zuq,Zwu,Zlk,ZJp,ZQs,Zvm,ZUs,Z9s,ZSt,Zeq,Zrk,ZTo,Zdr,is2_q,ZWt,ZPt,Z6s] [] [] []) (.n (.two (.f (.j [0,1,2,3,4] [] [.s 42 (.dat .bool)] .no)) (.n (.n (.n (.n (.two (.f (.j [2,3,4,11,12] [] [.s 74 (.dat .bool)] .no)) (.n (.n (.two (.f (.j [2,3,11,12] [] [.s 101 (.dat .bool)] .no)) (.n (.n (.n (.n (.f (.j [] [] [.s 10 (.dat .bool)] .no)))))))))))))))) Tryz.func4 [] (λ_=>by kernel_rfl) ⟨few2_k,Zvx,ZQm,Z2z,Zly,ZRq,ZUx,Z9y,Zfx,ZOx,Z7l,ZXx,Z9u,is2_k,liftR_k,ZEv,liftW_k,tr⟩
theorem Zew {w0:World} {v0:Zb} (hv:VIn v0 w0) {c0:List Value} {a:(List (List (Int×Int)))} (p0:Rep.rel (Zp (Zp (Zla (Zd .i64) (Zd .i64)))) v0 c0 a) {c1:List Value} {b:(List (List (Int×Int)))} (p1:Rep.rel (Zp (Zp (Zla (Zd .i64) (Zd .i64)))) v0 c1 b) {c2:List Value} {v:(List (Int×Int))} (p2:Rep.rel (Zp (Zla (Zd .i64) (Zd .i64))) v0 c2 v) {c3:List Value} {w:(List (Int×Int))} (p3:Rep.rel (Zp (Zla (Zd .i64) (Zd .i64))) v0 c3 w) {c4:List Value} {n:Int} (p4:Rep.rel (Zd .i64) v0 c4 n) {z:Bool} (hm:Z0j a b v w n=some z):Ret Tryz.prog 4 #[(Zp (Zp (Zla (Zd .i64) (Zd .i64)))).val c0,(Zp (Zp (Zla (Zd .i64) (Zd .i64)))).val c1,(Zp (Zla (Zd .i64) (Zd .i64))).val c2,(Zp (Zla (Zd .i64) (Zd .i64))).val c3,(Zd .i64).val c4] w0 v0 (λy v'=>∃ r0,y=ZKc.val r0∧ZKc.rel v' r0 z):=(ZDy w0 v0 [(Zp (Zp (Zla (Zd .i64) (Zd .i64)))).val c0,(Zp (Zp (Zla (Zd .i64) (Zd .i64)))).val c1,(Zp (Zla (Zd .i64) (Zd .i64))).val c2,(Zp (Zla (Zd .i64) (Zd .i64))).val c3,(Zd .i64).val c4] (a,b,v,w,n) z hv ⟨c0,_,rfl,p0,c1,_,rfl,p1,c2,_,rfl,p2,c3,_,rfl,p3,c4,rfl,p4⟩ hm).2
end Go.Eng
