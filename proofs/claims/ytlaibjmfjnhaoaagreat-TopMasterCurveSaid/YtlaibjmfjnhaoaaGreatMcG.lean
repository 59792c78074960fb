/- Lemmas towards the statement: the engine of the walks, the functions' models, laws and walks, part 7. Conditions: as each states. -/
import Derived.Shelf.Strings.Builder1
import Derived.Shelf.Strings.Repeat
import Derived.Test.YtlaibjmfjnhaoaaGreatProg
import Derived.Test.YtlaibjmfjnhaoaaGreatMcF
set_option linter.all false
set_option maxRecDepth 100000
namespace Go.Eng
open Go.Proofs Go.RowKit
theorem ZBp:Elem Tryz.prog 73 3 ((Zd .i64)).n 8 (Value.int IntKind.i64 0):=⟨Tryz.underlying73,by kernel_rfl,rfl,by decide⟩
theorem ZAf:ZJb Tryz.prog 73 3 ((Zd .i64)).n:=⟨λ_=>by kernel_rfl,λ_=>by kernel_rfl⟩
theorem ZYv:Tryz.prog.follows .mixedOrders=true:=by kernel_rfl
noncomputable def Z9l:FuncId×ConD:=(158,⟨3,.int .i64,λl i j=>ZXc l i j⟩)
theorem ZQt:ZPg Tryz.prog Z9l.1 Z9l.2:=λw v ob n cap cs l i0 j0 z hv hh hnv hA hn hi hj hz=>by
 have hz:ZXc (show List Int from l) i0 j0=some z:=hz
 obtain⟨i,rfl,rfl,hin,rfl⟩:=Zcr hz
 have hA:((Zd .i64)).rels v cs (show List Int from l):=hA
 have hin:i<n:=by rw[hn];exact hin
 have hcs:cs.length=n*((Zd .i64)).n:=by rw[hn];exact ZZc hA
 refine⟨λ_ _=>by kernel_rfl,?_⟩
 refine Znt (K:=33) (args:=[.slice (mkA ob) n cap,.int .i64 (i:Int),.int .i64 ((i+1:Nat):Int)]) hv hh hnv Tryz.func158 rfl rfl zl λfa hS=>?_
 obtain⟨b,rfl⟩:=Zid hS (j:=0) rfl (by omega)
 obtain⟨_,cur,hg,hnc,hcx,hcu,htk⟩:=(hS.loc _ (mG (i:=0) rfl)).1
 unfold maxLen at hcx
 refine sr ?_
 refine mw hS rfl λfa hS=>?_
 refine oe ?_
 refine sr ?_
 refine mv hS rfl λfa hS=>?_
 refine mv hS rfl λfa hS=>?_
 refine mv hS rfl λfa hS=>?_
 refine mv hS rfl λfa hS=>?_
 refine ov hS rfl (Z6b hS rfl rfl ZAf) λfa hS=>?_
 have h3 := @ZAt _ _ _ _ _ _ _ _ _ (some 13) 73 "" #[] none hS 73 3 ((Zd .i64)).n b n cap i (i + 1) n (.tmp 8) (.tmp 9) (.tmp 10) (.tmp 12) .i64 .i64 .i64 ZAf rfl rfl rfl rfl (by omega) (by omega) hnc
 obtain⟨y3,h3⟩:=h3
 refine ov hS rfl h3 λfa hS=>?_
 refine oe ?_
 refine wp_seq_k λN1 hN1=>?_
 refine sr ?_
 refine mv hS rfl λfa hS=>?_
 refine mv hS rfl λfa hS=>?_
 refine ov hS rfl (Zz hS rfl rfl Zjg) λfa hS=>?_
 refine oe ?_
 refine ZFa hS rfl (by simp only[beq_eq_false_iff_ne,ne_eq];omega) ?_
 refine wp_skip ?_
 refine Zr (hN1 _ _ ?_)
 refine sr ?_
 refine mv hS rfl λfa hS=>?_
 refine ov hS rfl (Z6b hS rfl rfl ZAf) λfa hS=>?_
 refine mw hS rfl λfa hS=>?_
 refine oe ?_
 refine wp_seq_k λN2 hN2=>?_
 refine Zoh (fl:=#[true,true,true,true,true,true,false,false]) ZYv (by kernel_rfl) hS ?_
 intro ops hops hF wo hS
 refine rf hops hF 0 rfl (by kernel_rfl) rfl hS (ZF hS rfl) λfa hS=>?_
 refine rf hops hF 1 rfl (by kernel_rfl) rfl hS (ZF hS rfl) λfa hS=>?_
 refine rf hops hF 2 rfl (by kernel_rfl) rfl hS (Zmn hS ZAf rfl rfl (by omega) (by omega)) λfa hS=>?_
 refine rf hops hF 3 rfl (by kernel_rfl) rfl hS (ZF hS rfl) λfa hS=>?_
 refine rf hops hF 4 rfl (by kernel_rfl) rfl hS (ZF hS rfl) λfa hS=>?_
 obtain⟨ad,had,hsrc⟩:∃ ad:Addr,(if cap=i+1 then mkA (some b) else (mkA (some b)).map (·.add ((i+1)*((Zd .i64)).n)))=some ad∧∀ j u,(cs.drop ((i+1)*((Zd .i64)).n))[j]? = some u→wo.cell? (ad.add j)=some u:=by
  by_cases h:cap=i+1
  ·refine⟨⟨b,0,none⟩,by rw[iP h];rfl,λj u hu=>?_⟩;have:cs.drop ((i+1)*((Zd .i64)).n)=[]:=List.drop_eq_nil_of_le (by rw[hcs];exact mR _ (by omega));rw[this]at hu;simp at hu
  ·refine⟨(⟨b,0,none⟩:Addr).add ((i+1)*((Zd .i64)).n),by rw[iN h];rfl,λj u hu=>?_⟩;have:=ZVg hS (j:=0) rfl ((i+1)*((Zd .i64)).n+j) u (by rw[List.getElem?_drop]at hu;exact hu);rw[show ((⟨b,0,none⟩:Addr).add ((i+1)*((Zd .i64)).n)).add j=(⟨b,0,none⟩:Addr).add ((i+1)*((Zd .i64)).n+j) by simp only[Zcb,Nat.add_assoc]];exact this
 refine rf hops hF 5 rfl (by kernel_rfl) rfl hS (ZYq hS ZAf rfl rfl (by omega)) λfa hS=>?_;rw[had]at hS;have hdl:(cs.drop ((i+1)*((Zd .i64)).n)).length=(n-(i+1))*((Zd .i64)).n:=by rw[List.length_drop,hcs,Nat.sub_mul]
 obtain⟨wo',hr,hS'⟩:=Z9n (t:=73) (ty:=73) ZBp hS (i:=0) rfl (q:=i) (m:=n-(i+1)) (c:=cap-(i+1)) (ad:=ad) (news:=cs.drop ((i+1)*((Zd .i64)).n)) hdl hsrc (by rw[List.all_eq_true];intro y hy;exact List.all_eq_true.1 (Zvg hA) y (List.mem_of_mem_drop hy)) (by omega);rw[show i+(n-(i+1))=n-1 by omega]at hr;refine ZWe hops hF 6 (by kernel_rfl) ?_;refine ZIn [2,5,0,1,3,4] [] hops rfl (by kernel_rfl) wn rfl zl (ZBs hS rfl rfl hr) hS' λfa hS=>?_;refine⟨Zsc,?_⟩;refine ZWe hops hF 7 (by kernel_rfl) ?_;refine nv [0,1,2,3,4,5,6] [] hops rfl (by kernel_rfl) rfl hS (Zwd hS rfl) λfa hS=>?_;refine⟨Zsc,?_⟩;refine ZKj hops hF (by kernel_rfl) ?_;refine Zr (hN2 _ _ ?_);refine sr ?_;refine mv hS rfl λfa hS=>?_;refine mv hS rfl λfa hS=>?_;refine ov hS rfl (Z6b hS rfl rfl ZAf) λfa hS=>?_;refine mv hS rfl λfa hS=>?_;refine ov hS rfl (ZNr hS ZAf rfl rfl rfl (by omega) (by omega) (by omega)) λfa hS=>?_;obtain⟨wo2,zc,hzl,hr,hS'⟩:=ZNp (t:=73) (ty:=73) ZBp hS (i:=0) rfl (p:=n-1) (c:=cap-(n-1)) (by omega) (List.all_eq_true.1 (by kernel_rfl));have hn1:n-(n-1)=1:=by omega
 rw[hn1]at hS hS';refine ZDs wn rfl (Zws hS rfl (hr _)) ?_;refine oe ?_;have hS:=hS'.narrow (i:=0) rfl (m:=n-1) (by omega);refine sr ?_;refine mv hS rfl λfa hS=>?_;refine mw hS rfl λfa hS=>?_;refine oe ?_;refine wp_ret ?_;refine ZRs hS (i:=0) rfl (Zbd rfl (Z2a hS rfl)) ?_ (show n-1=(List.take i l++List.drop (i+1) l).length by rw[lA,List.length_take,List.length_drop,← hn];omega);rw[Z9p hcs hin hzl];exact Zrc (ZKf i (ZL hS.vst.le hA)) (ZDe (i+1) (ZL hS.vst.le hA))
theorem Zbq:Elem Tryz.prog 32 41 (Z3).n 56 (Value.agg #[Value.bool false,Value.slice none 0 0,Value.slice none 0 0]):=⟨Tryz.underlying32,by kernel_rfl,rfl,by decide⟩
theorem Z7f:ZJb Tryz.prog 32 41 (Z3).n:=⟨λ_=>by kernel_rfl,λ_=>by kernel_rfl⟩
theorem Zcu:Tryz.prog.follows .mixedOrders=true:=by kernel_rfl
noncomputable def Zkm:FuncId×ConD:=(159,⟨41,.leaf 3,λl i j=>ZXc l i j⟩)
theorem Z0w:ZPg Tryz.prog Zkm.1 Zkm.2:=λw v ob n cap cs l i0 j0 z hv hh hnv hA hn hi hj hz=>by
 have hz:ZXc (show List Rat from l) i0 j0=some z:=hz
 obtain⟨i,rfl,rfl,hin,rfl⟩:=Zcr hz
 have hA:(Z3).rels v cs (show List Rat from l):=hA
 have hin:i<n:=by rw[hn];exact hin
 have hcs:cs.length=n*(Z3).n:=by rw[hn];exact ZZc hA
 refine⟨λ_ _=>by kernel_rfl,?_⟩
 refine Znt (K:=33) (args:=[.slice (mkA ob) n cap,.int .i64 (i:Int),.int .i64 ((i+1:Nat):Int)]) hv hh hnv Tryz.func159 rfl rfl zl λfa hS=>?_
 obtain⟨b,rfl⟩:=Zid hS (j:=0) rfl (by omega)
 obtain⟨_,cur,hg,hnc,hcx,hcu,htk⟩:=(hS.loc _ (mG (i:=0) rfl)).1
 unfold maxLen at hcx
 refine sr ?_
 refine mw hS rfl λfa hS=>?_
 refine oe ?_
 refine sr ?_
 refine mv hS rfl λfa hS=>?_
 refine mv hS rfl λfa hS=>?_
 refine mv hS rfl λfa hS=>?_
 refine mv hS rfl λfa hS=>?_
 refine ov hS rfl (Z6b hS rfl rfl Z7f) λfa hS=>?_
 have h3 := @ZAt _ _ _ _ _ _ _ _ _ (some 13) 32 "" #[] none hS 32 41 (Z3).n b n cap i (i + 1) n (.tmp 8) (.tmp 9) (.tmp 10) (.tmp 12) .i64 .i64 .i64 Z7f rfl rfl rfl rfl (by omega) (by omega) hnc
 obtain⟨y3,h3⟩:=h3
 refine ov hS rfl h3 λfa hS=>?_
 refine oe ?_
 refine wp_seq_k λN1 hN1=>?_
 refine sr ?_
 refine mv hS rfl λfa hS=>?_
 refine mv hS rfl λfa hS=>?_
 refine ov hS rfl (Zz hS rfl rfl Zjg) λfa hS=>?_
 refine oe ?_
 refine ZFa hS rfl (by simp only[beq_eq_false_iff_ne,ne_eq];omega) ?_
 refine wp_skip ?_
 refine Zr (hN1 _ _ ?_)
 refine sr ?_
 refine mv hS rfl λfa hS=>?_
 refine ov hS rfl (Z6b hS rfl rfl Z7f) λfa hS=>?_
 refine mw hS rfl λfa hS=>?_
 refine oe ?_
 refine wp_seq_k λN2 hN2=>?_
 refine Zoh (fl:=#[true,true,true,true,true,true,false,false]) Zcu (by kernel_rfl) hS ?_
 intro ops hops hF wo hS
 refine rf hops hF 0 rfl (by kernel_rfl) rfl hS (ZF hS rfl) λfa hS=>?_
 refine rf hops hF 1 rfl (by kernel_rfl) rfl hS (ZF hS rfl) λfa hS=>?_
 refine rf hops hF 2 rfl (by kernel_rfl) rfl hS (Zmn hS Z7f rfl rfl (by omega) (by omega)) λfa hS=>?_
 refine rf hops hF 3 rfl (by kernel_rfl) rfl hS (ZF hS rfl) λfa hS=>?_
 refine rf hops hF 4 rfl (by kernel_rfl) rfl hS (ZF hS rfl) λfa hS=>?_
 obtain⟨ad,had,hsrc⟩:∃ ad:Addr,(if cap=i+1 then mkA (some b) else (mkA (some b)).map (·.add ((i+1)*(Z3).n)))=some ad∧∀ j u,(cs.drop ((i+1)*(Z3).n))[j]? = some u→wo.cell? (ad.add j)=some u:=by
  by_cases h:cap=i+1
  ·refine⟨⟨b,0,none⟩,by rw[iP h];rfl,λj u hu=>?_⟩;have:cs.drop ((i+1)*(Z3).n)=[]:=List.drop_eq_nil_of_le (by rw[hcs];exact mR _ (by omega));rw[this]at hu;simp at hu
  ·refine⟨(⟨b,0,none⟩:Addr).add ((i+1)*(Z3).n),by rw[iN h];rfl,λj u hu=>?_⟩;have:=ZVg hS (j:=0) rfl ((i+1)*(Z3).n+j) u (by rw[List.getElem?_drop]at hu;exact hu);rw[show ((⟨b,0,none⟩:Addr).add ((i+1)*(Z3).n)).add j=(⟨b,0,none⟩:Addr).add ((i+1)*(Z3).n+j) by simp only[Zcb,Nat.add_assoc]];exact this
 refine rf hops hF 5 rfl (by kernel_rfl) rfl hS (ZYq hS Z7f rfl rfl (by omega)) λfa hS=>?_;rw[had]at hS;have hdl:(cs.drop ((i+1)*(Z3).n)).length=(n-(i+1))*(Z3).n:=by rw[List.length_drop,hcs,Nat.sub_mul]
 obtain⟨wo',hr,hS'⟩:=Z9n (t:=32) (ty:=32) Zbq hS (i:=0) rfl (q:=i) (m:=n-(i+1)) (c:=cap-(i+1)) (ad:=ad) (news:=cs.drop ((i+1)*(Z3).n)) hdl hsrc (by rw[List.all_eq_true];intro y hy;exact List.all_eq_true.1 (Zvg hA) y (List.mem_of_mem_drop hy)) (by omega);rw[show i+(n-(i+1))=n-1 by omega]at hr;refine ZWe hops hF 6 (by kernel_rfl) ?_;refine ZIn [2,5,0,1,3,4] [] hops rfl (by kernel_rfl) wn rfl zl (ZBs hS rfl rfl hr) hS' λfa hS=>?_;refine⟨Zsc,?_⟩;refine ZWe hops hF 7 (by kernel_rfl) ?_;refine nv [0,1,2,3,4,5,6] [] hops rfl (by kernel_rfl) rfl hS (Zwd hS rfl) λfa hS=>?_;refine⟨Zsc,?_⟩;refine ZKj hops hF (by kernel_rfl) ?_;refine Zr (hN2 _ _ ?_);refine sr ?_;refine mv hS rfl λfa hS=>?_;refine mv hS rfl λfa hS=>?_;refine ov hS rfl (Z6b hS rfl rfl Z7f) λfa hS=>?_;refine mv hS rfl λfa hS=>?_;refine ov hS rfl (ZNr hS Z7f rfl rfl rfl (by omega) (by omega) (by omega)) λfa hS=>?_;obtain⟨wo2,zc,hzl,hr,hS'⟩:=ZNp (t:=32) (ty:=32) Zbq hS (i:=0) rfl (p:=n-1) (c:=cap-(n-1)) (by omega) (List.all_eq_true.1 (by kernel_rfl));have hn1:n-(n-1)=1:=by omega
 rw[hn1]at hS hS';refine ZDs wn rfl (Zws hS rfl (hr _)) ?_;refine oe ?_;have hS:=hS'.narrow (i:=0) rfl (m:=n-1) (by omega);refine sr ?_;refine mv hS rfl λfa hS=>?_;refine mw hS rfl λfa hS=>?_;refine oe ?_;refine wp_ret ?_;refine ZRs hS (i:=0) rfl (Zbd rfl (Z2a hS rfl)) ?_ (show n-1=(List.take i l++List.drop (i+1) l).length by rw[lA,List.length_take,List.length_drop,← hn];omega);rw[Z9p hcs hin hzl];exact Zrc (ZKf i (ZL hS.vst.le hA)) (ZDe (i+1) (ZL hS.vst.le hA))
set_option maxHeartbeats 4000000
noncomputable def Zxs:FuncId×ConB:=(123,⟨217,(.agg (.cons (.mat 32 41 (.leaf 3)) (.cons (.own 41 (.leaf 3)) (.cons (.own 41 (.leaf 3)) (.cons (.dat (.leaf 3)) (.cons (.own 3 (.int .i64)) (.one (.own 3 (.int .i64))))))))),[.pair (.slice (.slice (.leaf 3))) (.pair (.slice (.leaf 3)) (.slice (.leaf 3)))],[.slice (.leaf 3),.bool],λz x=>ZCk z x⟩)
theorem Zhu : KB Zxs := ZGg (C := cf1 [Zce, Zef, ZBg, ZZb, ZYg, ZFf, Z8f] [100182] [ZIg] [((41, "Add"), 13), ((41, "Cmp"), 11), ((41, "Mul"), 51), ((41, "Sign"), 21), ((41, "Sub"), 34), ((41, "Zero"), 19), ((113, "Add"), 130), ((113, "Mul"), 132), ((113, "Sub"), 133), ((113, "Zero"), 203), ((115, "Add"), 104), ((115, "Mul"), 106)] [] [ZKn, ZMq, Zrl] [Z9l, Zkm]) (.n (.n (.n (.two (.n (.f (.l [0, 3, 6, 7, 8, 34, 35] [] [.s 9 (.dat (.int .i64)), .s 36 (.dat (.int .i64))] 0 [0, 3, 6, 7, 8] [] [.s 9 (.dat (.int .i64))] (.f (.n (.n (.f (.f (.n (.two (.j [0, 3, 6, 7, 8, 9, 10, 34, 35, 36] [] [.s 61 (.dat .bool)] .no) (.j [0, 3, 6, 7, 8, 34, 35, 36] [] [.s 9 (.dat (.int .i64))] .no))))))))))) (.n (.two (.n (.f (.l [0, 3, 6, 7, 8, 9, 70] [] [.s 71 (.dat (.int .i64)), .l (.sl 69) (.mat 32 41 (.leaf 3))] 2 [0, 3, 6, 7, 8, 9] [] [.l (.sl 69) (.mat 32 41 (.leaf 3))] .no))) (.n (.n (.n (.n (.n (.two (.n (.n (.j [0, 3, 8] [.fld (.sl 0) 0, .fld (.sl 0) 1, .fld (.sl 0) 2, .fld (.sl 0) 6, .fld (.sl 0) 7] [.l (.sl 0) (.box 217 (.agg (.cons (.mat 32 41 (.leaf 3)) (.cons (.own 41 (.leaf 3)) (.cons (.own 41 (.leaf 3)) (.cons (.dat (.leaf 3)) (.cons (.own 3 (.int .i64)) (.one (.own 3 (.int .i64))))))))))] .no))) (.n (.n (.two (.n (.f (.l [0, 3, 14, 167] [] [.s 168 (.dat (.int .i64)), .l (.sl 166) (.mat 32 41 (.leaf 3))] 4 [0, 3] [] [.l (.sl 166) (.mat 32 41 (.leaf 3))] .no))) (.n (.f (.n (.f (.l [0, 203, 204] [.fld (.sl 0) 0, .fld (.sl 0) 1, .fld (.sl 0) 6, .fld (.sl 0) 7, .fld (.sl 0) 2] [.s 205 (.dat (.int .i64)), .l (.sl 0) (.box 217 (.agg (.cons (.mat 32 41 (.leaf 3)) (.cons (.own 41 (.leaf 3)) (.cons (.own 41 (.leaf 3)) (.cons (.dat (.leaf 3)) (.cons (.own 3 (.int .i64)) (.one (.own 3 (.int .i64))))))))))] 6 [] [.fld (.sl 0) 0, .fld (.sl 0) 1, .fld (.sl 0) 6, .fld (.sl 0) 7, .fld (.sl 0) 2] [.l (.sl 0) (.box 217 (.agg (.cons (.mat 32 41 (.leaf 3)) (.cons (.own 41 (.leaf 3)) (.cons (.own 41 (.leaf 3)) (.cons (.dat (.leaf 3)) (.cons (.own 3 (.int .i64)) (.one (.own 3 (.int .i64))))))))))] (.f (.n (.n (.f (.j [0, 203, 204, 205] [.fld (.sl 0) 0, .fld (.sl 0) 1, .fld (.sl 0) 2, .fld (.sl 0) 6, .fld (.sl 0) 7] [.l (.sl 0) (.box 217 (.agg (.cons (.mat 32 41 (.leaf 3)) (.cons (.own 41 (.leaf 3)) (.cons (.own 41 (.leaf 3)) (.cons (.dat (.leaf 3)) (.cons (.own 3 (.int .i64)) (.one (.own 3 (.int .i64))))))))))] (.f (.n (.n (.n (.n (.n (.f (.l [0, 17, 203, 204, 205, 265, 266] [] [.s 267 (.dat (.int .i64)), .l (.fld (.sl 0) 2) (.own 41 (.leaf 3))] 8 [0, 203, 204, 205] [] [.l (.fld (.sl 0) 2) (.own 41 (.leaf 3))] .no))))))))))))))))))))))))))))))))) Tryz.func123 [(92, Tryz.f92, .no), (153, Tryz.f153, .r [] [] [.s 1000 (.dat (.int .i64))] (.n (.f (.n (.f (.cut ⟨⟨[0, 1, 7], [], [.s 8 (.dat (.int .i64))]⟩, [(.exit 0, ⟨[], [], []⟩), (.ret, ⟨[], [], [.s 1000 (.dat (.int .i64))]⟩)]⟩ .no)))))), (156, Tryz.f156, .r [] [] [.s 1000 (.dat (.int .i64))] (.n (.f (.n (.f (.cut ⟨⟨[0, 1, 7], [], [.s 8 (.dat (.int .i64))]⟩, [(.exit 0, ⟨[], [], []⟩), (.ret, ⟨[], [], [.s 1000 (.dat (.int .i64))]⟩)]⟩ .no)))))), (157, Tryz.f157, .no)] (λ_ _ => by kernel_rfl) ⟨Zjf, Zzf, ZVh, Zhc, Zqh, Zhg, ZMg, tr⟩ ⟨Zrk, tr⟩ ⟨Z7q, Z8q, Zct, Z4j, Z0q, Zvr, Zsr, ZXp, Z7p, Zoq, Zir, Z9o, tr⟩ ⟨⟨Tryz.func92, λ_ _ => by kernel_rfl⟩, ⟨Tryz.func153, λ_ _ => by kernel_rfl⟩, ⟨Tryz.func156, λ_ _ => by kernel_rfl⟩, ⟨Tryz.func157, λ_ _ => by kernel_rfl⟩, tr⟩ tr ⟨ZJr, Z2t, Zdq, tr⟩ ⟨ZQt, Z0w, tr⟩
noncomputable def Zuo:FuncId×Con:=(94,⟨[.pair (.slice (.slice (.leaf 3))) (.pair (.slice (.leaf 3)) (.slice (.leaf 3)))],[.pair (.int .i64) (.pair (.leaf 3) (.pair (.slice (.leaf 3)) (.pair (.slice (.leaf 3)) (.slice (.leaf 3)))))],λp=>Zti p⟩)
theorem Zay : KQ Zuo := Zp (ZA (C := cf1 [Z8d, Z8f, ZZs, ZWr] [] [ZHh, ZIg] [((41, "Neg"), 61), ((113, "Neg"), 164)] [ZPp] [Zxs, ZKn] []) (.n (.n (.n (.n (.n (.two (.j [2, 3, 4, 6] [] [.s 5 (.dat (.ptr (.pair (.slice (.slice (.leaf 3))) (.pair (.slice (.leaf 3)) (.pair (.slice (.leaf 3)) (.pair (.leaf 3) (.pair (.slice (.int .i64)) (.slice (.int .i64))))))))), .s 9 (.dat (.int .i64))] .no) (.n (.n (.two (.n (.n (.j [2, 3, 5, 6, 9, 10] [] [.l (.sl 10) (.own 41 (.leaf 3))] .no))) (.f (.n (.f (.l [2, 3, 5, 6, 9, 10, 69, 70] [] [.s 71 (.dat (.int .i64)), .l (.sl 10) (.own 41 (.leaf 3))] 0 [2, 3, 5, 6, 10] [] [.l (.sl 10) (.own 41 (.leaf 3))] (.f (.n (.n (.f (.f (.n (.n (.j [2, 3, 5, 6, 9, 10, 69, 70, 71] [] [.l (.sl 10) (.own 41 (.leaf 3))] .no))))))))))))))))))))) Tryz.func94 [(92, Tryz.f92, .no), (122, Tryz.f122, .n (.n (.two (.n (.f (.l [1, 3, 20] [.fld (.sl 3) 0, .fld (.sl 3) 1, .fld (.sl 3) 2] [.s 21 (.dat (.int .i64)), .l (.sl 3) (.box 217 (.agg (.cons (.mat 32 41 (.leaf 3)) (.cons (.own 41 (.leaf 3)) (.cons (.own 41 (.leaf 3)) (.cons (.dat (.leaf 3)) (.cons (.own 3 (.int .i64)) (.one (.own 3 (.int .i64))))))))))] 0 [1, 3] [.fld (.sl 3) 0, .fld (.sl 3) 1, .fld (.sl 3) 2] [.l (.sl 3) (.box 217 (.agg (.cons (.mat 32 41 (.leaf 3)) (.cons (.own 41 (.leaf 3)) (.cons (.own 41 (.leaf 3)) (.cons (.dat (.leaf 3)) (.cons (.own 3 (.int .i64)) (.one (.own 3 (.int .i64))))))))))] .no))) (.f (.n (.f (.l [1, 3, 37] [.fld (.sl 3) 0, .fld (.sl 3) 1, .fld (.sl 3) 2, .fld (.sl 3) 6, .fld (.sl 3) 7] [.s 38 (.dat (.int .i64)), .l (.sl 3) (.box 217 (.agg (.cons (.mat 32 41 (.leaf 3)) (.cons (.own 41 (.leaf 3)) (.cons (.own 41 (.leaf 3)) (.cons (.dat (.leaf 3)) (.cons (.own 3 (.int .i64)) (.one (.own 3 (.int .i64))))))))))] 2 [3] [.fld (.sl 3) 0, .fld (.sl 3) 1, .fld (.sl 3) 2, .fld (.sl 3) 6, .fld (.sl 3) 7] [.l (.sl 3) (.box 217 (.agg (.cons (.mat 32 41 (.leaf 3)) (.cons (.own 41 (.leaf 3)) (.cons (.own 41 (.leaf 3)) (.cons (.dat (.leaf 3)) (.cons (.own 3 (.int .i64)) (.one (.own 3 (.int .i64))))))))))] .no)))))))] (λ_ => by kernel_rfl) ⟨Z4e, ZMg, ZRv, ZHx, tr⟩ ⟨Zfl, Zrk, tr⟩ ⟨ZTg, ZRg, tr⟩ ⟨⟨Tryz.func92, λ_ _ => by kernel_rfl⟩, ⟨Tryz.func122, λ_ _ => by kernel_rfl⟩, tr⟩ ⟨ZHt, tr⟩ ⟨Zhu, ZJr, tr⟩)
noncomputable def Zps:FuncId×Con:=(59,⟨[.slice (.slice (.leaf 3)),.slice (.leaf 3),.slice (.leaf 3)],[.pair (.leaf 3) (.pair (.slice (.leaf 3)) (.pair (.slice (.leaf 3)) (.slice (.leaf 3)))),.int .i64],λp=>ZVi p.1 p.2.1 p.2.2⟩)
theorem ZAy : KQ Zps := Zp (ZA (C := cf0 [Z8d, Zvq, Z0o, ZNj, Z8f, Zuo] [] [ZHh, ZFo, ZNi] [((41, "Neg"), 61), ((113, "Neg"), 164)]) (.n (.n (.n (.n (.n (.two (.n (.f (.l [0, 2, 6, 8, 9, 10, 40, 41] [.fld (.sl 10) 1, .fld (.sl 10) 2] [.s 42 (.dat (.int .i64)), .l (.sl 10) (.box 182 (.agg (.cons (.own 32 (.slice (.leaf 3))) (.cons (.own 41 (.leaf 3)) (.one (.own 41 (.leaf 3)))))))] 0 [0, 2, 6, 8, 9, 10] [.fld (.sl 10) 1, .fld (.sl 10) 2] [.l (.sl 10) (.box 182 (.agg (.cons (.own 32 (.slice (.leaf 3))) (.cons (.own 41 (.leaf 3)) (.one (.own 41 (.leaf 3)))))))] .no))) (.f (.n (.f (.l [2, 6, 8, 9, 10, 63, 64] [.fld (.sl 10) 0, .fld (.sl 10) 1, .fld (.sl 10) 2] [.s 65 (.dat (.int .i64)), .l (.sl 10) (.box 182 (.agg (.cons (.own 32 (.slice (.leaf 3))) (.cons (.own 41 (.leaf 3)) (.one (.own 41 (.leaf 3)))))))] 2 [6, 8, 9, 10] [.fld (.sl 10) 0, .fld (.sl 10) 1, .fld (.sl 10) 2] [.l (.sl 10) (.box 182 (.agg (.cons (.own 32 (.slice (.leaf 3))) (.cons (.own 41 (.leaf 3)) (.one (.own 41 (.leaf 3)))))))] .no)))))))))) Tryz.func59 [] (λ_ => by kernel_rfl) ⟨Z4e, Z2u, ZFu, ZSm, ZMg, Zay, tr⟩ ⟨Zfl, Zvu, Zem, tr⟩ ⟨ZTg, ZRg, tr⟩)
noncomputable def ZBj:FuncId×Con:=(30,⟨[.slice (.pair (.leaf 3) (.pair (.leaf 3) (.pair (.leaf 3) (.leaf 3)))),.slice (.leaf 3)],[.pair (.pair (.leaf 3) (.slice (.pair (.leaf 3) (.leaf 3)))) (.pair (.leaf 3) (.slice (.pair (.leaf 3) (.leaf 3)))),.int .i64],λp=>Zae p.1 p.2⟩)
theorem Zym:KQ ZBj:=Zp (ZA (C:=cf0 [Z9c,ZXl,ZYg,Zpj,Zps] [] [] []) (.n (.n (.n (.two (.n (.f (.l [0,1,4,23,24] [] [.s 6 (.own 32 (.slice (.leaf 3))),.s 7 (.own 41 (.leaf 3)),.s 8 (.own 41 (.leaf 3)),.s 25 (.dat (.int .i64))] 0 [0,1,4] [] [.s 6 (.own 32 (.slice (.leaf 3))),.s 7 (.own 41 (.leaf 3)),.s 8 (.own 41 (.leaf 3))] (.f (.n (.n (.f (.f (.n (.n (.f (.n (.f (.l [0,1,4,6,7,8,10,23,24,25,33,34] [] [.s 11 (.own 41 (.leaf 3)),.s 12 (.own 41 (.leaf 3)),.s 35 (.dat (.int .i64))] 2 [0,1,4,6,7,8,10,23,24,25] [] [.s 11 (.own 41 (.leaf 3)),.s 12 (.own 41 (.leaf 3))] .no)))))))))))))) (.n (.n (.n (.two (.n (.f (.l [0,4,17,19,92,93] [] [.s 94 (.dat (.int .i64)),.l (.sl 19) (.box 47 (.agg (.cons (.agg (.cons (.dat (.leaf 3)) (.one (.own 53 (.pair (.leaf 3) (.leaf 3)))))) (.cons (.dat (.leaf 3)) (.one (.own 122 (.pair (.leaf 3) (.leaf 3))))))))] 4 [0,4,17,19] [] [.l (.sl 19) (.box 47 (.agg (.cons (.agg (.cons (.dat (.leaf 3)) (.one (.own 53 (.pair (.leaf 3) (.leaf 3)))))) (.cons (.dat (.leaf 3)) (.one (.own 122 (.pair (.leaf 3) (.leaf 3))))))))] .no))) (.n (.f (.n (.f (.l [4,17,19,121] [.fld (.sl 19) 3,.fld (.sl 19) 7] [.s 122 (.dat (.int .i64)),.l (.sl 19) (.box 47 (.agg (.cons (.dat (.pair (.leaf 3) (.slice (.pair (.leaf 3) (.leaf 3))))) (.cons (.dat (.leaf 3)) (.one (.own 122 (.pair (.leaf 3) (.leaf 3))))))))] 6 [4,19] [.fld (.sl 19) 3,.fld (.sl 19) 7] [.l (.sl 19) (.box 47 (.agg (.cons (.dat (.pair (.leaf 3) (.slice (.pair (.leaf 3) (.leaf 3))))) (.cons (.dat (.leaf 3)) (.one (.own 122 (.pair (.leaf 3) (.leaf 3))))))))] .no))))))))))))) Tryz.func30 [] (λ_=>by kernel_rfl) ⟨Zvd,ZNq,Zqh,ZOm,ZAy,tr⟩)
noncomputable def Zfq:FuncId×Con:=(8,⟨[.slice (.pair (.leaf 3) (.pair (.leaf 3) (.pair (.leaf 3) (.leaf 3)))),.slice (.leaf 3)],[.pair (.pair (.leaf 3) (.slice (.pair (.leaf 3) (.leaf 3)))) (.pair (.leaf 3) (.slice (.pair (.leaf 3) (.leaf 3)))),.int .i64],λp=>Zfi p.1 p.2⟩)
theorem Zry:KQ Zfq:=Zp (ZA (C:=cf0 [Zxh,Zci,ZBj] [] [] []) .no Tryz.func8 [] (λ_=>by kernel_rfl) ⟨ZQi,ZFj,Zym,tr⟩)
noncomputable def ZIq:FuncId×Con:=(35,⟨[.int .i64,.int .i64],[.leaf 3,.int .i64],λp=>Zyh p.1 p.2⟩)
theorem qnew_k:KQ ZIq:=Zp (ZY (C:=cf0 [of_q,Zwf,ZQe] [] [] []) .no Tryz.func35 [] (λv vals x z ha hz=>by obtain⟨c0,w0,e0,p0,c1,e1,p1⟩:=ha;exact .trans (by kernel_rfl) (Zhy p0.2 p1.2 hz)) ⟨of_k,ZGi,Zbh,tr⟩)
noncomputable def ZTo:FuncId×Con:=(12,⟨[.pair (.int .i64) (.int .i64)],[.leaf 3],λp=>ZLf p⟩)
theorem ZVw:KQ ZTo:=Zp (ZY (C:=cf0 [Z9c,ZIq] [] [] []) .no Tryz.func12 [] (λv vals x z ha hz=>.trans (by kernel_rfl) (Zey hz)) ⟨Zvd,qnew_k,tr⟩)
noncomputable def ZUk:FuncId×Con:=(20,⟨[.int .i64,.int .i64],[.leaf 3],λp=>ZLb p.1 p.2⟩)
theorem Zon:KQ ZUk:=Zp (ZA (C:=cf0 [ZTo] [] [] []) .no Tryz.func20 [] (λ_=>by kernel_rfl) ⟨ZVw,tr⟩)
noncomputable def Zhq:FuncId×Con:=(15,⟨[.int .u8,.pair (.int .u8) (.pair (.int .u8) (.int .u8))],[.pair (.leaf 3) (.slice (.pair (.leaf 3) (.leaf 3))),.slice (.leaf 3)],λp=>Zjk p.1 p.2⟩)
theorem Zgu:KQ Zhq:=Zp (ZA (C:=cf0 [Z9c,ZUk] [] [] []) (.n (.n (.n (.f (.n (.f (.unroll 4 .no))))))) Tryz.func15 [] (λ_=>by kernel_rfl) ⟨Zvd,Zon,tr⟩)
noncomputable def ZUl:FuncId×Con:=(43,⟨[.slice (.leaf 3)],[.int .i64],λp=>ZNe p⟩)
theorem ZIr:KQ ZUl:=Zp (ZA (C:=cf0 [ZZb] [] [] []) (.n (.two (.f (.j [0] [] [.s 12 (.dat .bool)] .no)) (.f (.n (.f (.cut ⟨⟨[13,14],[],[.s 15 (.dat (.int .i64))]⟩,[(.exit 0,⟨[],[],[]⟩),(.ret,⟨[],[],[.s 1000 (.dat (.int .i64))]⟩)]⟩ .no)))))) Tryz.func43 [] (λ_=>by kernel_rfl) ⟨Zhc,tr⟩)
noncomputable def ZQl:FuncId×Con:=(45,⟨[.slice (.pair (.leaf 3) (.pair (.leaf 3) (.pair (.leaf 3) (.leaf 3)))),.slice (.pair (.leaf 3) (.pair (.leaf 3) (.pair (.leaf 3) (.leaf 3)))),.leaf 3],[.slice (.pair (.leaf 3) (.pair (.leaf 3) (.pair (.leaf 3) (.leaf 3))))],λp=>ZXe p.1 p.2.1 p.2.2⟩)
theorem ZQq:KQ ZQl:=Zp (ZA (C:=cf0 [ZFf] [] [] []) (.n (.n (.f (.n (.f (.l [5,13,14] [] [.s 7 (.own 59 (.pair (.leaf 3) (.pair (.leaf 3) (.pair (.leaf 3) (.leaf 3))))),.s 15 (.dat (.int .i64))] 0 [] [] [.s 7 (.own 59 (.pair (.leaf 3) (.pair (.leaf 3) (.pair (.leaf 3) (.leaf 3)))))] .no)))))) Tryz.func45 [] (λ_=>by kernel_rfl) ⟨Zhg,tr⟩)
noncomputable def ZEl:FuncId×Con:=(44,⟨[.slice (.pair (.leaf 3) (.pair (.leaf 3) (.pair (.leaf 3) (.leaf 3)))),.slice (.pair (.leaf 3) (.pair (.leaf 3) (.pair (.leaf 3) (.leaf 3)))),.slice (.leaf 3),.slice (.leaf 3)],[.int .i64,.leaf 3,.int .i64],λp=>ZYf p.1 p.2.1 p.2.2.1 p.2.2.2⟩)
theorem Zas:KQ ZEl:=Zp (ZA (C:=cf0 [Zce,ZBj,ZQl] [] [] []) (.n (.n (.n (.f (.n (.f (.cut ⟨⟨[0,1,3,9,12,17,18],[],[.s 11 (.dat (.int .i64)),.s 19 (.dat (.int .i64)),.l (.sl 12) (.box 41 (.dat (.leaf 3)))]⟩,[(.exit 0,⟨[9,12],[],[.s 11 (.dat (.int .i64)),.l (.sl 12) (.box 41 (.dat (.leaf 3)))]⟩),(.ret,⟨[],[],[.s 1000 (.dat (.int .i64)),.s 1001 (.dat (.leaf 3)),.s 1002 (.dat (.int .i64))]⟩)]⟩ (.f (.n (.n (.f (.f (.n (.n (.n (.two (.j [0,1,3,9,11,12,13,15,17,18,19] [] [.s 45 (.dat .bool)] .no) (.j [0,1,3,9,12,17,18,19] [] [.s 11 (.dat (.int .i64)),.l (.sl 12) (.box 41 (.dat (.leaf 3)))] .no))))))))))))))))) Tryz.func44 [] (λ_=>by kernel_rfl) ⟨Zjf,Zym,ZQq,tr⟩)
noncomputable def ZCp:FuncId×Con:=(17,⟨[.slice (.pair (.leaf 3) (.pair (.leaf 3) (.pair (.leaf 3) (.leaf 3)))),.slice (.pair (.leaf 3) (.pair (.leaf 3) (.pair (.leaf 3) (.leaf 3)))),.slice (.leaf 3),.slice (.leaf 3)],[.int .i64,.leaf 3,.int .i64],λp=>Zlk p.1 p.2.1 p.2.2.1 p.2.2.2⟩)
theorem ZZx:KQ ZCp:=Zp (ZA (C:=cf0 [Zxh,Zci,ZUl,ZEl] [200021] [] []) (.n (.f (.n (.f (.cut ⟨⟨[0,1,2,3,9,18],[],[.s 19 (.dat (.int .i64))]⟩,[(.exit 0,⟨[0,1,2,3,9],[],[]⟩),(.ret,⟨[],[],[.s 1000 (.dat (.int .i64)),.s 1001 (.dat (.leaf 3)),.s 1002 (.dat (.int .i64))]⟩)]⟩ (.f (.n (.n (.f (.f (.f (.j [0,1,2,3,9,18,19] [] [.s 12 (.dat (.slice (.pair (.leaf 3) (.pair (.leaf 3) (.pair (.leaf 3) (.leaf 3))))))] .no)))))))))))) Tryz.func17 [] (λ_=>by kernel_rfl) ⟨ZQi,ZFj,ZIr,Zas,tr⟩)
noncomputable def Zep:FuncId×Con:=(18,⟨[.slice (.slice (.pair (.leaf 3) (.pair (.leaf 3) (.pair (.leaf 3) (.leaf 3))))),.slice (.leaf 3),.slice (.leaf 3)],[.slice (.int .i64),.pair (.pair (.leaf 3) (.slice (.pair (.leaf 3) (.leaf 3)))) (.pair (.leaf 3) (.slice (.pair (.leaf 3) (.leaf 3)))),.int .i64],λp=>ZXk p.1 p.2.1 p.2.2⟩)
theorem ZYt:KQ Zep:=Zp (ZA (C:=cf0 [Zxh,Zci,ZBj,ZUl,ZEl,ZQl] [] [] []) (.n (.two (.f (.j [0,1,2,7] [] [.s 31 (.dat .bool)] .no)) (.n (.two (.n (.f (.cut ⟨⟨[0,1,2,7,33,34],[],[.s 9 (.dat (.int .i64)),.s 35 (.dat (.int .i64))]⟩,[(.exit 0,⟨[0,1,2,7],[],[.s 9 (.dat (.int .i64))]⟩),(.ret,⟨[],[],[.s 1000 (.dat (.slice (.int .i64))),.s 1001 (.agg (.cons (.agg (.cons (.dat (.leaf 3)) (.one (.dat (.slice (.pair (.leaf 3) (.leaf 3))))))) (.cons (.dat (.leaf 3)) (.one (.dat (.slice (.pair (.leaf 3) (.leaf 3)))))))),.s 1002 (.dat (.int .i64))]⟩)]⟩ .no))) (.n (.n (.n (.n (.f (.n (.f (.cut ⟨⟨[1,2,7,70,71],[],[.s 15 (.dat (.slice (.pair (.leaf 3) (.pair (.leaf 3) (.pair (.leaf 3) (.leaf 3)))))),.s 16 (.own 3 (.int .i64)),.s 72 (.dat (.int .i64))]⟩,[(.exit 2,⟨[2,7],[],[.s 15 (.dat (.slice (.pair (.leaf 3) (.pair (.leaf 3) (.pair (.leaf 3) (.leaf 3)))))),.s 16 (.own 3 (.int .i64))]⟩),(.ret,⟨[],[],[.s 1000 (.dat (.slice (.int .i64))),.s 1001 (.agg (.cons (.agg (.cons (.dat (.leaf 3)) (.one (.dat (.slice (.pair (.leaf 3) (.leaf 3))))))) (.cons (.dat (.leaf 3)) (.one (.dat (.slice (.pair (.leaf 3) (.leaf 3)))))))),.s 1002 (.dat (.int .i64))]⟩)]⟩ .no)))))))))))) Tryz.func18 [] (λ_=>by kernel_rfl) ⟨ZQi,ZFj,Zym,ZIr,Zas,ZQq,tr⟩)
noncomputable def Zjm:FuncId×Con:=(32,⟨[.pair (.leaf 3) (.slice (.pair (.leaf 3) (.leaf 3)))],[.int .i64],λp=>Zdi p⟩)
theorem ZDq:KQ Zjm:=Zp (ZA (C:=cf0 [Zce,ZZb] [] [] []) (.n (.n (.f (.n (.cut ⟨⟨[],[],[]⟩,[(.norm,⟨[],[],[]⟩),(.ret,⟨[],[],[.s 1000 (.dat (.int .i64))]⟩)]⟩ (.f (.cut ⟨⟨[1,16,17],[],[.s 18 (.dat (.int .i64))]⟩,[(.ret,⟨[],[],[.s 1000 (.dat (.int .i64))]⟩),(.exit 1,⟨[],[],[]⟩)]⟩ (.f (.n (.n (.f (.f (.n (.two (.f (.j [1,3,4,16,17,18] [] [.s 32 (.dat .bool)] .no)) (.f (.j [1,16,17,18] [] [.s 47 (.dat .bool)] .no)))))))))))))))) Tryz.func32 [] (λ_=>by kernel_rfl) ⟨Zjf,Zhc,tr⟩)
noncomputable def Z8m:FuncId×Con:=(24,⟨[.pair (.leaf 3) (.slice (.pair (.leaf 3) (.leaf 3))),.leaf 3],[.leaf 3,.leaf 3,.int .i64],λp=>Z2e p.1 p.2⟩)
theorem Ztt:KQ Z8m:=Zp (ZA (C:=cf0 [ZZb,Zjm,ZQn] [] [] []) .no Tryz.func24 [] (λ_=>by kernel_rfl) ⟨Zhc,ZDq,ZGs,tr⟩)
theorem Z9x {r:World} {d:Zb} (hv:VIn d r) {D:List Value} {n:Int} (L:Rep.rel (Zd .u64) d D n) {z:(List UInt8)} (H:ZEj n=some z):Ret Tryz.prog 81 #[(Zd .u64).val D] r d (λy v'=>∃ E,y=Z5a.val E∧Z5a.rel v' E z):=by
 obtain⟨rfl,M⟩:=L;refine Z4g (K:=20) (args:=[.int .u64 n]) hv Tryz.func81 rfl rfl zl λf S=>?_;unfold ZEj at H;refine sr (mw S rfl λf S=>oe (sr (Zbr S wn rfl zl (cs:=[.int .u8 0,.int .u8 0,.int .u8 0,.int .u8 0,.int .u8 0,.int .u8 0,.int .u8 0,.int .u8 0,.int .u8 0,.int .u8 0,.int .u8 0,.int .u8 0,.int .u8 0,.int .u8 0,.int .u8 0,.int .u8 0,.int .u8 0,.int .u8 0,.int .u8 0,.int .u8 0]) (Zgn k_zv198) λs f w S=>?_)));have S:=S.boxOwn 1 20 rfl zl;have N:Rep.rels (Zd .u8) d [.int .u8 0,.int .u8 0,.int .u8 0,.int .u8 0,.int .u8 0,.int .u8 0,.int .u8 0,.int .u8 0,.int .u8 0,.int .u8 0,.int .u8 0,.int .u8 0,.int .u8 0,.int .u8 0,.int .u8 0,.int .u8 0,.int .u8 0,.int .u8 0,.int .u8 0,.int .u8 0] (List.replicate 20 (0:Int)):=ZJg (show Rep.rel (Zd .u8) _ [Value.int .u8 0] 0 from ⟨rfl,by decide⟩) 20;refine oe (sr (mw S rfl λf S=>oe (Zw λ_ O=>?_)));obtain⟨P,Q,R⟩:=Zea H;refine Zad (λf w=>∃ l m B t,(l,m)=P∧Zb.le d t∧St 20 r d [(3,.pointer (some ⟨s,0,none⟩)),(4,.int .i64 m)] [Loc.own (some s) 198 1 20 20 B] t f w∧Rep.rels (Zd .u8) t B l∧20=l.length∧inR .i64 m) (λ_ T=>?_) ?_
 ·have H:=Q;refine wp_block ?_;obtain⟨ak,U,V⟩:=Zea H;refine Zre U (λW f w=>∃ h o u b k,(h,o,u)=W∧Zb.le d k∧St 20 r d [(0,.int .u64 o),(3,.pointer (some ⟨s,0,none⟩)),(4,.int .i64 u)] [Loc.own (some s) 198 1 20 20 b] k f w∧Rep.rels (Zd .u8) k b h∧20=h.length∧inR .u64 o∧inR .i64 u) ⟨_,_,_,[.int .u8 0,.int .u8 0,.int .u8 0,.int .u8 0,.int .u8 0,.int .u8 0,.int .u8 0,.int .u8 0,.int .u8 0,.int .u8 0,.int .u8 0,.int .u8 0,.int .u8 0,.int .u8 0,.int .u8 0,.int .u8 0,.int .u8 0,.int .u8 0,.int .u8 0,.int .u8 0],_,rfl,(leR _),(S.fr' rfl),N,(List.length_replicate (n:=20) (a:=(0:Int))).symm,M,(by decide)⟩ ?_;rintro _ f w st ⟨h,o,u,b,k,hq,F,S,C,v,al,X⟩ H am Y Z;subst hq;refine Zw λ_ aa=>sr (mv S rfl λf S=>ov S rfl (Zz S rfl rfl ZDf) λf S=>oe ?_);rcases Zzb (decide ((0:Int)<o)) with p | p
  ·have H:=Zrb H p;refine ZEb S rfl p (wp_skip (Zr (aa _ _ (Zw λ_ ab=>wp_block (Zw λ_ ac=>bO H λe G H=>ZT (mv S rfl λf S=>ov S rfl (Zz S rfl rfl (Z4b G)) λf S=>mw S rfl λf S=>ZM (Zr (ac _ _ (bO H λg ad H=>?_)))))))));refine bO H λan q H=>ZT (mv S rfl λf S=>mv S rfl λf S=>ov S rfl (Zz S rfl rfl (Zgs ad)) λf S=>ov S rfl (Zz S rfl rfl ZGm) λf S=>ov S rfl (Zmf S rfl (Z8v _)) λf S=>?_);have I:=ZZa C (Zn q).2.1;obtain⟨ao,ae⟩:∃ c,(List.take (Zd .u8).n (List.drop ((e).toNat*(Zd .u8).n) b))=c:=⟨_,rfl⟩;rw[ae]at I;obtain⟨rfl,ap⟩:=I;refine ov S rfl (Z2r S ZSr rfl rfl (Zn q).1 (ltI v (Zn q).2.2.1)) λf S=>?_;obtain⟨w,af,S⟩:=Zqd S k_sz5 (off:=0+(e).toNat*1) (z:=.int .u8 (IntKind.u8.wrap (IntKind.u64.wrap ((48:Int)+g)))) (cs:=[.int .u8 (IntKind.u8.wrap (IntKind.u64.wrap ((48:Int)+g)))]) (ZUc rfl) rfl (i:=0) rfl (Zli S (j:=0) rfl (ltN v (Zn q).2.2.2)) (by first | rfl | simp[plain]);have ag:Rep.rels (Zd .u8) k (List.take (0+(e).toNat*1) b++[Value.int IntKind.u8 (IntKind.u8.wrap (IntKind.u64.wrap ((48:Int)+g)))]++List.drop (0+(e).toNat*1+1) b) (h.set (e).toNat (IntKind.u8.wrap (IntKind.u64.wrap ((48:Int)+g)))):=Z8g C (Zn q).2.2.2 (show Rep.rel (Zd .u8) k [.int .u8 (IntKind.u8.wrap (IntKind.u64.wrap ((48:Int)+g)))] _ from (Z5 (Zdc _ _))) rfl rfl
   have ah:20=(h.set (e).toNat (IntKind.u8.wrap (IntKind.u64.wrap ((48:Int)+g)))).length:=setN v;refine Znj wn rfl (af rfl rfl) (ZM (Zsd (Zr (ab _ _ (bO H λaq J H=>ZT (mv S rfl λf S=>ov S rfl (Zz S rfl rfl (Zdo J)) λf S=>mw S rfl λf S=>ZM ?_))))));obtain rfl:=ZJ H;refine Y _ rfl _ _ ⟨_,_,_,(List.take (0+(e).toNat*1) b++[Value.int IntKind.u8 (IntKind.u8.wrap (IntKind.u64.wrap ((48:Int)+g)))]++List.drop (0+(e).toNat*1+1) b),_,rfl,F,(S.fr' rfl),ag,ah,(ZUq J),(ZHb G).2⟩
  have H:=Zob H p;refine ZFa S rfl p (wp_exit (Zdb ?_));obtain rfl:=ZJ H;have hq:=Z _ rfl;subst hq;have H:=V;refine Zdb (Zzd ?_);obtain rfl:=ZJ H;refine Zr (T _ _ ⟨_,_,b,_,rfl,(leT (leR _) F),(S.fr' rfl),C,v,X⟩)
 rintro f w ⟨l,m,B,t,hq,ar,S,ai,x,au⟩;subst hq;have H:=R;refine Zr (O _ _ (Zw λ_ aj=>bO H λav A H=>ZT (mv S rfl λf S=>ov S rfl (Zyu S ZSr rfl rfl (Z9f A).1 (by have:=(Z9f A).2.1;have:=x;omega)) λf S=>ov S rfl (Zvv S (j:=0) rfl ai x (by have:=(Z9f A).2.1;have:=(Z9f A).1;have:=x;omega) rfl Tryz.underlying166 Tryz.underlying5 Tryz.underlying9) λf S=>mw S rfl λf S=>ZM (Zr (aj _ _ (wp_ret ?_))))));obtain rfl:=ZJ H;refine ZQf S (Zbd rfl (Z2a S rfl)) ⟨[.string (Zu ((ZMd (l.drop ((m).toNat)))))],rfl,(Zth (by have:=x;simp only[ZPw,List.length_drop];unfold maxLen;omega))⟩
theorem ZTu {b:World} {a:Zb} (hv:VIn a b) {c:List Value} {n:Int} (d:Rep.rel (Zd .u64) a c n) {z:(List UInt8)} (hm:Zmg n=some z) :
  Ret Tryz.prog 81 #[(Zd .u64).val c] b a (λy v'=>∃ e,y=Z5a.val e∧Z5a.rel v' e z) :=
 Z9x hv d (Zyx d.2 hm)
end Go.Eng
namespace Go.Proofs
open Go.Shelf
def Tryz.lays105_ren:Go.Shelf.Ren:=⟨fun | 105=>82 | 212=>110 | 99=>111 | 165=>112 | 166=>83 | 170=>113 | 169=>84 | 263=>140 | 264=>68 | 206=>141 | 240=>114 | 241=>142 | 276=>143 | 277=>171 | n=>n,fun | 9=>9 | 3=>3 | 4=>4 | 20=>20 | 0=>0 | 46=>190 | 109=>199 | 5=>5 | 72=>168 | 76=>171 | 51=>175 | 146=>229 | 53=>139 | 148=>144 | 70=>165 | 37=>166 | 75=>170 | 127=>203 | 164=>231 | 80=>88 | n=>n,fun | n=>n⟩
theorem Tryz.lays105:Go.Proofs.Lays.n105 Tryz.prog Tryz.lays105_ren:={
 mixed:=by kernel_rfl
 f99:=Tryz.func111.trans (congrArg some (by kernel_rfl))
 f105:=Tryz.func82.trans (congrArg some (by kernel_rfl))
 f165:=Tryz.func112.trans (congrArg some (by kernel_rfl))
 f166:=Tryz.func83.trans (congrArg some (by kernel_rfl))
 f169:=Tryz.func84.trans (congrArg some (by kernel_rfl))
 f170:=Tryz.func113.trans (congrArg some (by kernel_rfl))
 f206:=Tryz.func141.trans (congrArg some (by kernel_rfl))
 f212:=Tryz.func110.trans (congrArg some (by kernel_rfl))
 f240:=Tryz.func114.trans (congrArg some (by kernel_rfl))
 f241:=Tryz.func142.trans (congrArg some (by kernel_rfl))
 f263:=Tryz.func140.trans (congrArg some (by kernel_rfl))
 f264:=Tryz.func68.trans (congrArg some (by kernel_rfl))
 f276:=Tryz.func143.trans (congrArg some (by kernel_rfl))
 f277:=Tryz.func171.trans (congrArg some (by kernel_rfl))
 t0:=Tryz.underlying0
 a0:=Tryz.isAgg0
 z0:=Tryz.sizeOf0
 v0:=Tryz.zeroValue0
 t3:=Tryz.underlying3
 a3:=Tryz.isAgg3
 z3:=Tryz.sizeOf3
 v3:=Tryz.zeroValue3
 t4:=Tryz.underlying4
 a4:=Tryz.isAgg4
 z4:=Tryz.sizeOf4
 v4:=Tryz.zeroValue4
 t5:=Tryz.underlying5
 a5:=Tryz.isAgg5
 z5:=Tryz.sizeOf5
 v5:=Tryz.zeroValue5
 t9:=Tryz.underlying9
 a9:=Tryz.isAgg9
 z9:=Tryz.sizeOf9
 v9:=Tryz.zeroValue9
 t20:=Tryz.underlying20
 a20:=Tryz.isAgg20
 z20:=Tryz.sizeOf20
 v20:=Tryz.zeroValue20
 t37:=Tryz.underlying166
 a37:=Tryz.isAgg166
 z37:=Tryz.sizeOf166
 v37:=Tryz.zeroValue166
 t46:=Tryz.underlying190
 a46:=Tryz.isAgg190
 z46:=Tryz.sizeOf190
 v46:=Tryz.zeroValue190
 t51:=Tryz.underlying175
 a51:=Tryz.isAgg175
 z51:=Tryz.sizeOf175
 v51:=Tryz.zeroValue175
 t53:=Tryz.underlying139
 a53:=Tryz.isAgg139
 z53:=Tryz.sizeOf139
 v53:=Tryz.zeroValue139
 t70:=Tryz.underlying165
 a70:=Tryz.isAgg165
 z70:=Tryz.sizeOf165
 v70:=Tryz.zeroValue165
 t72:=Tryz.underlying168
 a72:=Tryz.isAgg168
 z72:=Tryz.sizeOf168
 v72:=Tryz.zeroValue168
 t75:=Tryz.underlying170
 a75:=Tryz.isAgg170
 z75:=Tryz.sizeOf170
 v75:=Tryz.zeroValue170
 t76:=Tryz.underlying171
 a76:=Tryz.isAgg171
 z76:=Tryz.sizeOf171
 v76:=Tryz.zeroValue171
 t109:=Tryz.underlying199
 a109:=Tryz.isAgg199
 z109:=Tryz.sizeOf199
 v109:=Tryz.zeroValue199
 t127:=Tryz.underlying203
 a127:=Tryz.isAgg203
 z127:=Tryz.sizeOf203
 v127:=Tryz.zeroValue203
 t146:=Tryz.underlying229
 a146:=Tryz.isAgg229
 z146:=Tryz.sizeOf229
 v146:=Tryz.zeroValue229
 t148:=Tryz.underlying144
 a148:=Tryz.isAgg144
 z148:=Tryz.sizeOf144
 v148:=Tryz.zeroValue144
 t164:=Tryz.underlying231
 a164:=Tryz.isAgg231
 z164:=Tryz.sizeOf231
 v164:=Tryz.zeroValue231 }
theorem Tryz.Builder_Extra_105:Builder.Extra Tryz.prog Tryz.lays105_ren:={
 sizeBuilder:=by kernel_rfl
 liesBuilder:=by kernel_rfl
 t5:=Tryz.underlying5
 a5:=Tryz.isAgg5
 z5:=Tryz.sizeOf5
 v5:=Tryz.zeroValue5
 infoByte:=by kernel_rfl
 cellsByte:=by kernel_rfl
 sizeByte:=by kernel_rfl
 neB5:=by decide }
end Go.Proofs
namespace Go.Eng
open Go.Proofs Go.RowKit Go.Shelf
theorem writes:Zkp Tryz.prog 83 168 5:=λB b bs s w h hl hB=>Any.Builder_WriteString { Tryz.lays105 with } Tryz.Builder_Extra_105 B b bs s w h hl hB
theorem tells:Tells Tryz.prog 84 168 5:=λB b l w h hB=>Any.Builder_String_any { Tryz.lays105 with } Tryz.Builder_Extra_105 B b l w h hB
end Go.Eng
namespace Go.Eng
open Go.Proofs Go.RowKit
theorem ZGy (l:List UInt8) (c:Nat):Lib.repeatL l c=(List.replicate c l).flatten:=by
 induction c with
 | zero=>rfl
 | succ c ih=>simp[Lib.repeatL,List.replicate_succ,ih]
theorem ZBv {b:World} {a:Zb} (hv:VIn a b) {f:List Value} {s:List UInt8} (k:Rep.rel Z5a a f s) {g:List Value} {c:Int} (l:Rep.rel (Zd .i64) a g c) {z:List UInt8} (hm:Zyg s c=some z) :
  Ret Tryz.prog 82 #[Z5a.val f,(Zd .i64).val g] b a (λy v'=>∃ h,y=Z5a.val h∧Z5a.rel v' h z):=by
 obtain⟨rfl,hs⟩:=k;obtain⟨rfl,hc⟩:=l;unfold Zyg at hm;split at hm
 ·rename_i hh
  cases hm
  obtain⟨C,rfl⟩:=oZ hh.1;have hc:=ZFb.1 hc;have d:=hh.2;rw[tN]at d;have:=Any.strings_Repeat Tryz.lays105 Tryz.Builder_Extra_105 (Zu s) C b (by omega) (by rw[Z7c];exact d);refine Calls.mono this λe w' ⟨i,j⟩=>?_;have m:(⟨(Lib.repeatL (Zu s).data.toList C).toArray⟩:ByteArray)=Zu (List.replicate C s).flatten:=by
   rw[ZGy];rfl
  rw[m]at i;exact⟨_,a,i,j,VStep.ext hv j,[.string (Zu (List.replicate C s).flatten)],rfl,rfl,by simp only[tN];rw[List.length_flatten];simp;unfold maxLen;rw[Nat.mul_comm]at d;omega⟩
 ·cases hm
theorem text_w {e:World} {c:Zb} (hv:VIn c e) {c0:List Value} {a:Nat} (p0:Rep.rel Zv c c0 a) {z:(List UInt8)} (H:Zqi a=some z):Ret Tryz.prog 56 #[Zv.val c0] e c (λy v'=>∃ r0,y=Z5a.val r0∧Z5a.rel v' r0 z):=by
 obtain⟨q1,n2,k3,rfl⟩:=ZGa p0;refine Z4g (K:=49) (args:=[.slice q1 n2 k3]) hv Tryz.func56 rfl rfl zl λf S=>?_;unfold Zqi at H;refine sr (mw S rfl λf S=>oe (sr ?_));have S:=S.nilLoc 9 1;refine ov S rfl (Zwd S (y:=.slice (mkA none) 0 0) rfl) λf S=>oe (Zw λ_ ar=>?_);obtain⟨au,av,ax⟩:=Zea H;refine Zad (λf w=>∃ o F s G U I,o=au∧Zb.le c I∧St 49 e c [(3,.slice (mkA F) s G)] [Loc.own F 9 1 s G U] I f w∧Rep.rels Z5a I U o∧s=o.length) (λ_ ay=>?_) ?_
 ·have H:=av;refine wp_block ?_;obtain⟨bt,az,aA⟩:=Zea H;refine Zre az (λaB f w=>∃ J g L M N p h q k t,(J,g)=aB∧Zb.le c t∧St 49 e c [(0,.slice L M N),(3,.slice (mkA p) h q)] [Loc.own p 9 1 h q k] t f w∧Rep.rel Zv t [.slice L M N] J∧Rep.rels Z5a t k g∧h=g.length) ⟨_,_,_,_,_,none,0,0,[],_,rfl,(leR _),(S.fr' rfl),p0,Zfh,rfl⟩ ?_;rintro _ f w st ⟨J,g,L,M,N,p,h,q,k,t,hq,ac,S,ad,d,ae⟩ H bu aC aD;subst hq;refine Zw λ_ aE=>sr (mv S rfl λf S=>ov S rfl (Zgc S (Z3a ad) rfl rfl Zaa) λf S=>ov S rfl (Zz S rfl rfl ZDf) λf S=>oe ?_);rcases Zzb (decide ((0:Int)<(((Zc 18446744073709551616 J)).length:Int))) with u | u
  ·have H:=Zrb H u;refine ZEb S rfl u (wp_skip (Zr (aE _ _ (wp_block (Zw λ_ aF=>bO H λO aG H=>ZT (mv S rfl λf S=>opc S rfl (Zoa S [.slice L M N,.int .u64 10000000000000000000] ZWq rfl rfl) (Zmo S.vin ad (show Rep.rel (Zd .u64) _ [.int .u64 10000000000000000000] (10000000000000000000:Int) from (Z5 (by decide))) aG) ?_))))));rintro _ bv f w af ⟨bw,bx,rfl,m,aH⟩ S;have d:=ZL af d;obtain⟨aI,aJ,aK,rfl⟩:=ZGa m;obtain⟨rfl,aL⟩:=aH;refine mv S rfl λf S=>ov S rfl (Zya S rfl rfl) λf S=>ov S rfl (Zya S rfl rfl) λf S=>mw S rfl λf S=>mw S rfl λf S=>ZM (Zr (aF _ _ (Zw λ_ aM=>bO H λbz aN H=>ZT (mv S rfl λf S=>opc S rfl (Zoa S [.int .u64 (O.2)] k_en81 rfl rfl) (ZTu S.vin (show Rep.rel (Zd .u64) _ [.int .u64 (O.2)] O.2 from (Z5 aL)) aN) ?_))));rintro _ aO f w V ⟨bA,rfl,aP⟩ S;have d:=ZL V d;obtain⟨rfl,aQ⟩:=aP;refine mw S rfl λf S=>ZM (Zr (aM _ _ (Zw λ_ aR=>sr (mv S rfl λf S=>?_))));have m:=ZDa V m;refine ov S rfl (Zgc S (Z3a m) rfl rfl Zaa) λf S=>ov S rfl (Zz S rfl rfl ZDf) λf S=>oe ?_;obtain⟨aS,aT,aU⟩:=Zea H;refine Zad (λf w=>∃ b P,b=aS∧Zb.le aO P∧St 49 e c [(3,.slice (mkA p) h q),(4,.slice aI aJ aK),(6,.string (Zu b))] [Loc.own p 9 1 h q k] P f w∧b.length≤maxLen) (λ_ ag=>?_) ?_
   ·have H:=aT;rcases Zzb (decide ((0:Int)<(((Zc 18446744073709551616 O.1)).length:Int))) with v | v
    ·have H:=Zrb H v;refine ZEb S rfl v (bO H λW ah H=>bO H λbB aV H=>bO H λbC ai H=>ZT (mv S rfl λf S=>ov S rfl (Zks S rfl rfl Tryz.underlying9) λf S=>ov S rfl (Zz S rfl rfl (Z4b ah)) λf S=>opc S rfl (Zoa S [.string (Zu (([48]:List UInt8))),.int .i64 W] k_en82 rfl rfl) (ZBv S.vin (show Rep.rel Z5a _ [.string (Zu (([48]:List UInt8)))] (([48]:List UInt8)) from (Zth zl)) (show Rep.rel (Zd .i64) _ [.int .i64 W] W from (Z5 (ZHb ah).2)) aV) ?_));rintro _ bD f w aj ⟨bE,rfl,aW⟩ S;have d:=ZL aj d;obtain⟨rfl,bG⟩:=aW;refine mv S rfl λf S=>ov S rfl (ZMi S rfl rfl (Zrs ai)) λf S=>mw S rfl λf S=>ZM ?_;obtain rfl:=ZJ H;refine Zr (ag _ _ ⟨_,_,rfl,(leT (leR _) aj),(S.fr' rfl),(Z7j ai)⟩)
    have H:=Zob H v;refine ZFa S rfl v (wp_skip ?_);obtain rfl:=ZJ H;refine Zr (ag _ _ ⟨_,_,rfl,(leR _),(S.fr' rfl),aQ⟩)
   rintro f w ⟨b,P,hq,X,S,aX⟩;subst hq;have H:=aU;have d:=ZL X d;refine Zr (aR _ _ (bO H λbH aY H=>ZT (mv S rfl λf S=>mv S rfl λf S=>?_)));obtain⟨bI,w,aZ,S⟩:=Zhh S (n:=1) (cs:=[.string (Zu b)]) (vals:=[(0,.string (Zu b))]) (sz:=1) rfl (by decide) (ZXr ZTr (x:=.string (Zu b)) (cs:=[.string (Zu b)]) rfl rfl (by decide));have Y:Rep.rels Z5a P [.string (Zu b)] [b]:=(ZWp (Zth aX) Zfh);refine ZCc wn rfl zl (aZ rfl) S λf S=>?_;have a0:=S;obtain⟨ak,al,w,a1,S⟩:=ZGj (ty:=160) ZTr S (i:=1) (n':=(g++[b]).length) rfl (Zhe Y rfl) (ZVg S (j:=0) rfl) (Zvg Y) (appN ae rfl) (Z9d aY) (by decide);have a2:=Zrc d Y;refine ZCc wn rfl zl (ZTd a0 rfl rfl a1) S λf S=>mv S rfl λf S=>mw S rfl λf S=>mw S rfl λf S=>ZM (Zsd ?_);obtain rfl:=ZJ H;have S:=S.reorder (ℓ':=[Loc.own ak 9 1 ((g++[b]).length) al ((k++[.string (Zu b)]))]) [1] rfl (by decide);have m:=ZDa X m;refine aC _ rfl _ _ ⟨_,_,_,_,_,ak,(g++[b]).length,al,(k++[.string (Zu b)]),_,rfl,(leT (leT (leT ac af) V) X),(S.fr' rfl),m,a2,rfl⟩
  have H:=Zob H u;refine ZFa S rfl u (wp_exit (Zdb ?_));obtain rfl:=ZJ H;have hq:=aD _ rfl;subst hq;have H:=aA;refine Zdb (Zzd ?_);obtain rfl:=ZJ H;refine Zr (ay _ _ ⟨_,p,h,q,k,_,rfl,(leT (leR _) ac),(S.fr' rfl),d,ae⟩)
 rintro f w ⟨o,F,s,G,U,I,hq,bJ,S,a3,am⟩;subst hq;have H:=ax;refine Zr (ar _ _ (Zw λ_ a4=>sr (mv S rfl λf S=>ov S rfl (Zgc S am rfl rfl ZJl) λf S=>ov S rfl (Zz S rfl rfl Zjg) λf S=>oe ?_)));rcases Zzb (((o.length:Int))==(0:Int)) with B | B
 ·have H:=Zrb H B;refine ZEb S rfl B (sr (mw S rfl λf S=>oe (wp_ret (ZZh ?_))));obtain rfl:=ZJ H;refine ZQf S (Zbd rfl (Z2a S rfl)) ⟨[.string (Zu (([48]:List UInt8)))],rfl,(Zth zl)⟩
 have H:=Zob H B;refine ZFa S rfl B (wp_skip (Zr (a4 _ _ (sr ?_))));obtain⟨an,bK,S,C⟩:=S.pubSlice (i:=0) (A:=Z5a) (l:=o) (ℓ':=[]) rfl rfl am a3 rfl;refine op_newB 5 S wn rfl zl (Zgn k_zv168) λr f w S a5=>oe (Zw λ_ a6=>Zw λ_ a7=>bO H λbM ao H=>ZT (mv S rfl λf S=>ov S rfl (Zgc S (Z3a C) rfl rfl ZJl) λf S=>ov S rfl (Zz S rfl rfl (Z4b ao)) λf S=>mw S rfl λf S=>ZM (Zr (a7 _ _ ?_))));obtain⟨a8,a9,ba⟩:=Zea H;refine Zad (λf w=>∃ Q R,Q=a8∧Zb.le an R∧St 49 e c [(7,.pointer (some ⟨r,0,none⟩))] [] R f w∧Bld 168 5 r e R Q w) (λ_ bb=>?_) ?_
 ·have H:=a9;refine wp_block ?_;obtain⟨bP,bc,bd⟩:=Zea H;refine Zre bc (λbe f w=>∃ Z D T,(Z,D)=be∧Zb.le an T∧St 49 e c [(3,.slice (mkA F) s G),(7,.pointer (some ⟨r,0,none⟩)),(8,.int .i64 D)] [] T f w∧Bld 168 5 r e T Z w∧inR .i64 D) ⟨_,_,_,rfl,(leR _),(S.fr' rfl),a5,(ZHb ao).2⟩ ?_;rintro _ f w st ⟨Z,D,T,hq,aa,S,ap,bQ⟩ H bR bf bg;subst hq;refine Zw λ_ bh=>sr (mv S rfl λf S=>ov S rfl (Zz S rfl rfl Znm) λf S=>oe ?_);rcases Zzb (decide ((0:Int)≤D)) with E | E
  ·have H:=Zrb H E;refine ZEb S rfl E (wp_skip (Zr (bh _ _ (Zw λ_ bi=>wp_block (bO H λbj ab H=>bO H λbS bk H=>ZT (mv S rfl λf S=>mv S rfl λf S=>?_))))));have C:=ZDa aa C;obtain⟨_,bT,bU,bV,bm,bn,bo⟩:=Zxc C (Zn ab).2.1;obtain⟨rfl,rfl⟩:=Zdu bm;obtain⟨rfl,bW⟩:=bo;refine ov S rfl (Zna S rfl rfl ZJl (Zn ab).1 (ltI (Z3a C) (Zn ab).2.2.1)) λf S=>ov S rfl (Zgb S rfl k_sz9 (S.view bn)) λf S=>ZSv writes ap (ZJv bk) S wn rfl zl (Zoa S [.pointer (some ⟨r,0,none⟩),.string (Zu bj)] k_en83 rfl rfl) λf w S bp=>ZM (Zsd (Zr (bi _ _ (bO H λbX aq H=>ZT (mv S rfl λf S=>ov S rfl (Zz S rfl rfl (Z4b aq)) λf S=>mw S rfl λf S=>ZM ?_)))));obtain rfl:=ZJ H;refine bf _ rfl _ _ ⟨_,_,_,rfl,aa,(S.fr' rfl),bp,(ZHb aq).2⟩
  have H:=Zob H E;refine ZFa S rfl E (wp_exit (Zdb ?_));obtain rfl:=ZJ H;have hq:=bg _ rfl;subst hq;have H:=bd;refine Zdb (Zzd ?_);obtain rfl:=ZJ H;refine Zr (bb _ _ ⟨_,_,rfl,(leT (leR _) aa),(S.fr' rfl),ap⟩)
 rintro f w ⟨Q,R,hq,bY,S,bq⟩;subst hq;have H:=ba;refine Zr (a6 _ _ (Zw λ_ br=>bO H λbZ bs H=>ZT (op_tell tells bq S wn rfl zl (Zoa S [.pointer (some ⟨r,0,none⟩)] k_en84 rfl rfl) λf w S=>mw S rfl λf S=>ZM (Zr (br _ _ (wp_ret ?_))))));obtain rfl:=ZJ H;refine ZQf S (Zbd rfl (Z2a S rfl)) ⟨[.string (Zu Q)],rfl,(Zth (Z7j bs))⟩
theorem text_c {c:World} {b:Zb} (hv:VIn b c) {d:List Value} {a:Nat} (f:Rep.rel Zv b d a) {z:(List UInt8)} (hm:ZGf a=some z) :
  Ret Tryz.prog 56 #[Zv.val d] c b (λy v'=>∃ e,y=Z5a.val e∧Z5a.rel v' e z) :=
 text_w hv f (ZDx hm)
noncomputable def ZGn:FuncId×Con:=(56,⟨[.leaf 0],[.str],λp=>ZGf p⟩)
theorem text_k:ZGc Tryz.prog ZGn.1 ZGn.2:=λw v vals x z hv ha hz=>by
 obtain⟨c0,e0,p0⟩:=ha;subst e0
 exact .inl ⟨λ_ _=>by kernel_rfl,Ret.mono (text_c hv p0 hz) λy v' _ ⟨r0,e,h0⟩=>⟨r0,e,h0⟩⟩
noncomputable def ZPm:FuncId×Con:=(26,⟨[.leaf 3],[.str],λp=>Zed p⟩)
theorem Zft:KQ ZPm:=Zp (ZY (C:=cf0 [ZGn] [] [] []) (.n (.n (.two (.n (.j [1] [] [.s 3 (.dat .str)] .no)) (.f (.n (.j [] [] [.s 3 (.dat .str)] .no)))))) Tryz.func26 [] (λv vals x z ha hz=>.trans (by kernel_rfl) (ZPx hz)) ⟨text_k,tr⟩)
noncomputable def Zoo:FuncId×Con:=(71,⟨[.slice (.pair (.int .i64) (.int .i64))],[.int .i64],λp=>Zgl p⟩)
theorem ZXt:KQ Zoo:=Zp (ZA (C:=cf0 [] [] [] []) .no Tryz.func71 [(102,Tryz.f102,.n (.f (.j [] [] [.s 2 (.dat .bool)] .no))),(103,Tryz.f103,.no),(129,Tryz.f129,.r [] [] [.s 1000 (.dat (.int .i64))] (.n (.f (.n (.f (.cut ⟨⟨[0,1,7],[],[.s 8 (.dat (.int .i64))]⟩,[(.exit 0,⟨[],[],[]⟩),(.ret,⟨[],[],[.s 1000 (.dat (.int .i64))]⟩)]⟩ .no))))))] (λ_=>by kernel_rfl) tr tr tr ⟨⟨Tryz.func102,λ_ _=>by kernel_rfl⟩,⟨Tryz.func103,λ_ _=>by kernel_rfl⟩,⟨Tryz.func129,λ_ _=>by kernel_rfl⟩,tr⟩)
noncomputable def ZEm:FuncId×Con:=(162,⟨[.pair (.leaf 2) (.pair (.leaf 2) (.pair (.leaf 2) (.leaf 2))),.leaf 0],[.pair (.pair (.leaf 2) (.pair (.leaf 2) (.pair (.leaf 2) (.leaf 2)))) (.leaf 0)],λp=>Z7i p.1 p.2⟩)
theorem Zio:KQ ZEm:=Zp (ZA (C:=cf0 [gcd_q,Zak,Zoi] [] [] []) (.n (.n (.two (.n (.f (.unroll 5 .no))) (.two (.n (.j [2,4] [] [.s 1 (.dat (.leaf 0)),.l (.sl 2) (.box 111 (.dat (.pair (.leaf 2) (.pair (.leaf 2) (.pair (.leaf 2) (.leaf 2))))))] (.f (.f (.n (.f (.unroll 5 .no))))))) (.f (.n (.j [2,4] [] [.s 1 (.dat (.leaf 0))] .no))))))) Tryz.func162 [] (λ_=>by kernel_rfl) ⟨gcd_k,ZNm,Zcn,tr⟩)
noncomputable def ZLg:FuncId×Con:=(130,⟨[.pair (.pair (.leaf 2) (.pair (.leaf 2) (.pair (.leaf 2) (.leaf 2)))) (.leaf 0),.pair (.pair (.leaf 2) (.pair (.leaf 2) (.pair (.leaf 2) (.leaf 2)))) (.leaf 0)],[.pair (.pair (.leaf 2) (.pair (.leaf 2) (.pair (.leaf 2) (.leaf 2)))) (.leaf 0)],λp=>Zif p.1 p.2⟩)
theorem Z8j:KQ ZLg:=Zp (ZA (C:=cf0 [ZHf,ZMh,Zjj,Z0e,ZEm] [] [] []) (.n (.n (.n (.f (.n (.f (.unroll 5 .no))))))) Tryz.func130 [] (λ_=>by kernel_rfl) ⟨Z3g,ZJj,Zol,ZNf,Zio,tr⟩)
noncomputable def ZZr:FuncId×Con:=(104,⟨[.pair (.pair (.pair (.leaf 2) (.pair (.leaf 2) (.pair (.leaf 2) (.leaf 2)))) (.leaf 0)) (.pair (.pair (.leaf 2) (.pair (.leaf 2) (.pair (.leaf 2) (.leaf 2)))) (.leaf 0)),.pair (.pair (.pair (.leaf 2) (.pair (.leaf 2) (.pair (.leaf 2) (.leaf 2)))) (.leaf 0)) (.pair (.pair (.leaf 2) (.pair (.leaf 2) (.pair (.leaf 2) (.leaf 2)))) (.leaf 0))],[.pair (.pair (.pair (.leaf 2) (.pair (.leaf 2) (.pair (.leaf 2) (.leaf 2)))) (.leaf 0)) (.pair (.pair (.leaf 2) (.pair (.leaf 2) (.pair (.leaf 2) (.leaf 2)))) (.leaf 0))],λp=>Zzl p.1 p.2⟩)
theorem wvAdd_k:KQ ZZr:=Zp (ZA (C:=cf0 [ZLg] [] [] []) .no Tryz.func104 [] (λ_=>by kernel_rfl) ⟨Z8j,tr⟩)
noncomputable def Z3s:FuncId×Con:=(131,⟨[.pair (.pair (.leaf 2) (.pair (.leaf 2) (.pair (.leaf 2) (.leaf 2)))) (.leaf 0),.leaf 3],[.pair (.pair (.leaf 2) (.pair (.leaf 2) (.pair (.leaf 2) (.leaf 2)))) (.leaf 0)],λp=>ZKm p.1 p.2⟩)
theorem sdOf_k:KQ Z3s:=Zp (ZA (C:=cf0 [] [] [] []) .no Tryz.func131 [] (λ_=>by kernel_rfl))
noncomputable def Z8r:FuncId×Con:=(105,⟨[.pair (.pair (.pair (.leaf 2) (.pair (.leaf 2) (.pair (.leaf 2) (.leaf 2)))) (.leaf 0)) (.pair (.pair (.leaf 2) (.pair (.leaf 2) (.pair (.leaf 2) (.leaf 2)))) (.leaf 0)),.leaf 3],[.pair (.pair (.pair (.leaf 2) (.pair (.leaf 2) (.pair (.leaf 2) (.leaf 2)))) (.leaf 0)) (.pair (.pair (.leaf 2) (.pair (.leaf 2) (.pair (.leaf 2) (.leaf 2)))) (.leaf 0))],λp=>Zqm p.1 p.2⟩)
theorem wvOf_k:KQ Z8r:=Zp (ZA (C:=cf0 [Z3s] [] [] []) .no Tryz.func105 [] (λ_=>by kernel_rfl) ⟨sdOf_k,tr⟩)
noncomputable def Z3r:FuncId×Con:=(175,⟨[.leaf 2,.int .u64],[.leaf 2],λp=>Z6f p.1 p.2⟩)
theorem ifold_k:KQ Z3r:=Zp (ZA (C:=cf0 [ZMh,Zhf] [] [] []) .no Tryz.func175 [] (λ_=>by kernel_rfl) ⟨ZJj,ZOh,tr⟩)
noncomputable def Zwt:FuncId×Con:=(163,⟨[.pair (.leaf 2) (.pair (.leaf 2) (.pair (.leaf 2) (.leaf 2))),.pair (.leaf 2) (.pair (.leaf 2) (.pair (.leaf 2) (.leaf 2)))],[.pair (.leaf 2) (.pair (.leaf 2) (.pair (.leaf 2) (.leaf 2)))],λp=>ZHl p.1 p.2⟩)
theorem ZOt:KQ Zwt:=Zp (ZA (C:=cf0 [Zjj,ZNn,Z3r] [] [] []) .no Tryz.func163 [(174,Tryz.f174,.no)] (λ_=>by kernel_rfl) ⟨Zol,Z1q,ifold_k,tr⟩ tr tr ⟨⟨Tryz.func174,λ_ _=>by kernel_rfl⟩,tr⟩)
noncomputable def Z6r:FuncId×Con:=(132,⟨[.pair (.pair (.leaf 2) (.pair (.leaf 2) (.pair (.leaf 2) (.leaf 2)))) (.leaf 0),.pair (.pair (.leaf 2) (.pair (.leaf 2) (.pair (.leaf 2) (.leaf 2)))) (.leaf 0)],[.pair (.pair (.leaf 2) (.pair (.leaf 2) (.pair (.leaf 2) (.leaf 2)))) (.leaf 0)],λp=>Zug p.1 p.2⟩)
theorem sdMul_k:KQ Z6r:=Zp (ZA (C:=cf0 [ZHf,Z0e,ZEm,Zwt] [] [] []) .no Tryz.func132 [] (λ_=>by kernel_rfl) ⟨Z3g,ZNf,Zio,ZOt,tr⟩)
noncomputable def ZPj:FuncId×Con:=(164,⟨[.pair (.pair (.leaf 2) (.pair (.leaf 2) (.pair (.leaf 2) (.leaf 2)))) (.leaf 0)],[.pair (.pair (.leaf 2) (.pair (.leaf 2) (.pair (.leaf 2) (.leaf 2)))) (.leaf 0)],λp=>Zii p⟩)
theorem Zfs:KQ ZPj:=Zp (ZA (C:=cf0 [ZWl] [] [] []) (.n (.f (.n (.f (.unroll 5 .no))))) Tryz.func164 [] (λ_=>by kernel_rfl) ⟨Z2s,tr⟩)
noncomputable def Z0i:FuncId×Con:=(133,⟨[.pair (.pair (.leaf 2) (.pair (.leaf 2) (.pair (.leaf 2) (.leaf 2)))) (.leaf 0),.pair (.pair (.leaf 2) (.pair (.leaf 2) (.pair (.leaf 2) (.leaf 2)))) (.leaf 0)],[.pair (.pair (.leaf 2) (.pair (.leaf 2) (.pair (.leaf 2) (.leaf 2)))) (.leaf 0)],λp=>ZAh p.1 p.2⟩)
theorem Zfr:KQ Z0i:=Zp (ZA (C:=cf0 [ZLg,ZPj] [] [] []) .no Tryz.func133 [] (λ_=>by kernel_rfl) ⟨Z8j,Zfs,tr⟩)
noncomputable def Z4p:FuncId×Con:=(106,⟨[.pair (.pair (.pair (.leaf 2) (.pair (.leaf 2) (.pair (.leaf 2) (.leaf 2)))) (.leaf 0)) (.pair (.pair (.leaf 2) (.pair (.leaf 2) (.pair (.leaf 2) (.leaf 2)))) (.leaf 0)),.pair (.pair (.pair (.leaf 2) (.pair (.leaf 2) (.pair (.leaf 2) (.leaf 2)))) (.leaf 0)) (.pair (.pair (.leaf 2) (.pair (.leaf 2) (.pair (.leaf 2) (.leaf 2)))) (.leaf 0))],[.pair (.pair (.pair (.leaf 2) (.pair (.leaf 2) (.pair (.leaf 2) (.leaf 2)))) (.leaf 0)) (.pair (.pair (.leaf 2) (.pair (.leaf 2) (.pair (.leaf 2) (.leaf 2)))) (.leaf 0))],λp=>Z3m p.1 p.2⟩)
theorem wvMul_k:KQ Z4p:=Zp (ZA (C:=cf0 [ZLg,Z6r,Z0i] [] [] []) .no Tryz.func106 [] (λ_=>by kernel_rfl) ⟨Z8j,sdMul_k,Zfr,tr⟩)
noncomputable def ZYr:FuncId×Con:=(134,⟨[.int .i64],[.int .i64],λp=>Z1i p⟩)
theorem Zhx:KQ ZYr:=Zp (ZA (C:=cf0 [] [] [] []) .no Tryz.func134 [] (λ_=>by kernel_rfl))
noncomputable def ZLh (kf:Nat):FuncId×Con:=(135,⟨[.int .i64],[.pair (.pair (.leaf 2) (.pair (.leaf 2) (.pair (.leaf 2) (.leaf 2)))) (.leaf 0)],λp=>ZWh kf p⟩)
theorem Zky (kf:Nat) (k:Int):Z1f ⟨Tryz.prog,[(37,0),(39,2),(41,3),(91,1),(93,4)],[of_q,Zhf,ZLg,Z0i,ZLh kf,ZPj],[],[],[],[],{}⟩ [(165,Tryz.f165,.no)] Tryz.f135 (.two .no (.two (.two .no (.cut ⟨⟨[],[],[]⟩,[(.norm,⟨[2],[],[.s 0 (.dat (.int .i64))]⟩)]⟩ .no)) .no)) [.int .i64] [.pair (.pair (.leaf 2) (.pair (.leaf 2) (.pair (.leaf 2) (.leaf 2)))) (.leaf 0)] (k)=ZWh (kf+1) k:=by kernel_rfl
theorem ZGr:∀ kf,ZGc Tryz.prog (ZLh kf).1 (ZLh kf).2
 | 0=>λ_ _ _ _ _ _ _ h=>by cases h
 | kf+1=>con_k (C:=⟨Tryz.prog,[(37,0),(39,2),(41,3),(91,1),(93,4)],[of_q,Zhf,ZLg,Z0i,ZLh kf,ZPj],[],[],[],[],{}⟩) ⟨of_k,ZOh,Z8j,Zfr,ZGr kf,Zfs,trivial⟩ trivial trivial trivial (inl:=[(165,Tryz.f165,.no)]) ⟨⟨Tryz.func165,λ_ _=>by kernel_rfl⟩,trivial⟩ (ann:=(.two .no (.two (.two .no (.cut ⟨⟨[],[],[]⟩,[(.norm,⟨[2],[],[.s 0 (.dat (.int .i64))]⟩)]⟩ .no)) .no))) Tryz.func135 (λ_ _=>by kernel_rfl) rfl (λv vals x z ha hz=>(Zky kf x).trans hz)
noncomputable def Zhm:FuncId×Con:=ZLh 3
theorem Zgy:ZGc Tryz.prog Zhm.1 Zhm.2:=ZGr 3
noncomputable def Zdt:FuncId×Con:=(107,⟨[.int .i64],[.pair (.pair (.pair (.leaf 2) (.pair (.leaf 2) (.pair (.leaf 2) (.leaf 2)))) (.leaf 0)) (.pair (.pair (.leaf 2) (.pair (.leaf 2) (.pair (.leaf 2) (.leaf 2)))) (.leaf 0))],λp=>Zfm p⟩)
theorem xTurn_k:KQ Zdt:=Zp (ZA (C:=cf0 [ZYr,Zhm] [] [] []) .no Tryz.func107 [] (λ_=>by kernel_rfl) ⟨Zhx,Zgy,tr⟩)
noncomputable def Ziq:FuncId×Con:=(72,⟨[.slice (.pair (.int .i64) (.int .i64)),.int .i64],[.pair (.pair (.pair (.leaf 2) (.pair (.leaf 2) (.pair (.leaf 2) (.leaf 2)))) (.leaf 0)) (.pair (.pair (.leaf 2) (.pair (.leaf 2) (.pair (.leaf 2) (.leaf 2)))) (.leaf 0))],λp=>Zhl p.1 p.2⟩)
theorem Ztx:KQ Ziq:=Zp (ZA (C:=cf0 [Z9c,ZZr,Z8r,Z4p,Zdt] [] [] []) (.n (.n (.f (.n (.f (.l [1,4,5,8,9] [] [.s 10 (.dat (.int .i64)),.l (.sl 5) (.box 115 (.dat (.pair (.pair (.pair (.leaf 2) (.pair (.leaf 2) (.pair (.leaf 2) (.leaf 2)))) (.leaf 0)) (.pair (.pair (.leaf 2) (.pair (.leaf 2) (.pair (.leaf 2) (.leaf 2)))) (.leaf 0)))))] 0 [4,5] [] [.l (.sl 5) (.box 115 (.dat (.pair (.pair (.pair (.leaf 2) (.pair (.leaf 2) (.pair (.leaf 2) (.leaf 2)))) (.leaf 0)) (.pair (.pair (.leaf 2) (.pair (.leaf 2) (.pair (.leaf 2) (.leaf 2)))) (.leaf 0)))))] .no)))))) Tryz.func72 [] (λ_=>by kernel_rfl) ⟨Zvd,wvAdd_k,wvOf_k,wvMul_k,xTurn_k,tr⟩)
noncomputable def Zwr:FuncId×Con:=(47,⟨[.slice (.pair (.int .i64) (.int .i64)),.int .i64],[.pair (.pair (.pair (.leaf 2) (.pair (.leaf 2) (.pair (.leaf 2) (.leaf 2)))) (.leaf 0)) (.pair (.pair (.leaf 2) (.pair (.leaf 2) (.pair (.leaf 2) (.leaf 2)))) (.leaf 0)),.int .i64],λp=>ZYn p.1 p.2⟩)
theorem Zfx:KQ Zwr:=Zp (ZA (C:=cf0 [Zoo,Ziq] [] [] []) (.n (.n (.f (.f (.j [0,1,4] [] [.s 18 (.dat .bool)] .no))))) Tryz.func47 [] (λ_=>by kernel_rfl) ⟨ZXt,Ztx,tr⟩)
noncomputable def ZPo:FuncId×Con:=(48,⟨[.pair (.pair (.pair (.leaf 2) (.pair (.leaf 2) (.pair (.leaf 2) (.leaf 2)))) (.leaf 0)) (.pair (.pair (.leaf 2) (.pair (.leaf 2) (.pair (.leaf 2) (.leaf 2)))) (.leaf 0))],[.pair (.pair (.leaf 2) (.pair (.leaf 2) (.pair (.leaf 2) (.leaf 2)))) (.leaf 0)],λp=>ZOl p⟩)
theorem wvIm_k:KQ ZPo:=Zp (ZA (C:=cf0 [] [] [] []) .no Tryz.func48 [] (λ_=>by kernel_rfl))
noncomputable def Zes:FuncId×Con:=(73,⟨[.pair (.pair (.leaf 2) (.pair (.leaf 2) (.pair (.leaf 2) (.leaf 2)))) (.leaf 0)],[.pair (.leaf 3) (.pair (.leaf 3) (.pair (.leaf 3) (.leaf 3)))],λp=>Z8l p⟩)
theorem ZLy:KQ Zes:=Zp (ZA (C:=cf0 [ZHf,Zwf] [] [] []) (.n (.n (.f (.n (.f (.unroll 5 .no)))))) Tryz.func73 [] (λ_=>by kernel_rfl) ⟨Z3g,ZGi,tr⟩)
noncomputable def ZEp:FuncId×Con:=(74,⟨[],[.pair .str (.pair .str (.pair .str .str))],λ_=>ZKh⟩)
theorem Ziy:KQ ZEp:=Zp (ZA (C:=cf0 [] [] [] []) .no Tryz.func74 [] (λ_=>by kernel_rfl))
noncomputable def ZHp:FuncId×Con:=(49,⟨[.pair (.pair (.leaf 2) (.pair (.leaf 2) (.pair (.leaf 2) (.leaf 2)))) (.leaf 0)],[.str],λp=>ZTl p⟩)
theorem Zuw:KQ ZHp:=Zp (ZA (C:=cf0 [ZBg,ZZb,ZPm,Zes,ZEp] [] [] []) (.n (.n (.f (.n (.f (.unroll 5 (.f (.n (.n (.f (.j [7,8] [] [.s 3 (.dat .str)] (.f (.n (.n (.f (.two (.j [3,4,5,7,8] [] [.s 20 (.dat .bool)] .no) (.j [4,5,7,8] [] [.s 3 (.dat .str)] .no))))))))))))))))) Tryz.func49 [] (λ_=>by kernel_rfl) ⟨ZVh,Zhc,Zft,ZLy,Ziy,tr⟩)
noncomputable def ZEt:FuncId×Con:=(22,⟨[],[.bool],λ_=>ZAg⟩)
theorem ZUx:KQ ZEt:=Zp (ZA (C:=cf0 [Z9c,Z8m,ZPm,Zwr,ZPo,ZHp] [] [] []) (.n (.n (.n (.f (.j [] [] [.s 0 (.dat .bool)] .no))))) Tryz.func22 [] (λ_=>by kernel_rfl) ⟨Zvd,Ztt,Zft,Zfx,wvIm_k,Zuw,tr⟩)
noncomputable def Z8p:FuncId×Con:=(14,⟨[.leaf 3,.leaf 3],[.bool],λp=>ZLe p.1 p.2⟩)
theorem qsame_k:KQ Z8p:=Zp (ZY (C:=cf0 [ZOk] [] [] []) (.n (.f (.j [] [] [.s 4 (.dat .bool)] .no))) Tryz.func14 [] (λv vals x z ha hz=>.trans (by kernel_rfl) (ZEy hz)) ⟨cmp_k,tr⟩)
noncomputable def Zto:FuncId×Con:=(23,⟨[.slice (.pair (.leaf 3) (.pair (.leaf 3) (.pair (.leaf 3) (.leaf 3)))),.slice (.leaf 3),.pair (.pair (.leaf 3) (.slice (.pair (.leaf 3) (.leaf 3)))) (.pair (.leaf 3) (.slice (.pair (.leaf 3) (.leaf 3))))],[.bool],λp=>Z6h p.1 p.2.1 p.2.2⟩)
theorem Zvy:KQ Zto:=Zp (ZA (C:=cf0 [Z9c,Zce,Zef,Z8p,ZZb,Zxh,Zci,Zjm,ZXl,Zel,ZFf,Zpj] [] [] []) (.n (.two (.f (.j [0,1,5] [] [.s 53 (.dat .bool)] .no)) (.two (.n (.f (.cut ⟨⟨[0,1,5,54,55],[],[.s 56 (.dat (.int .i64))]⟩,[(.exit 0,⟨[0,1,5],[],[]⟩),(.ret,⟨[],[],[.s 1000 (.dat .bool)]⟩)]⟩ .no))) (.n (.n (.two (.n (.f (.l [0,1,5,9,10,11,12,75,76] [] [.s 77 (.dat (.int .i64)),.l (.sl 9) (.box 41 (.dat (.leaf 3))),.l (.sl 10) (.box 41 (.dat (.leaf 3))),.l (.sl 11) (.box 41 (.dat (.leaf 3))),.l (.sl 12) (.own 41 (.leaf 3))] 2 [0,5,9,10,11,12] [] [.l (.sl 9) (.box 41 (.dat (.leaf 3))),.l (.sl 10) (.box 41 (.dat (.leaf 3))),.l (.sl 11) (.box 41 (.dat (.leaf 3))),.l (.sl 12) (.own 41 (.leaf 3))] (.f (.n (.n (.f (.f (.n (.n (.n (.n (.n (.n (.f (.l [0,1,5,9,10,11,12,14,15,16,75,76,77,118,119] [] [.s 120 (.dat (.int .i64)),.l (.sl 12) (.own 41 (.leaf 3))] 4 [0,1,5,9,10,11,12,75,76,77] [] [.l (.sl 12) (.own 41 (.leaf 3))] .no)))))))))))))))) (.two (.n (.f (.cut ⟨⟨[0,5,9,10,11,149,150],[],[.s 151 (.dat (.int .i64))]⟩,[(.exit 6,⟨[0,5,9,10,11],[],[]⟩),(.ret,⟨[],[],[.s 1000 (.dat .bool)]⟩)]⟩ .no))) (.f (.j [] [] [.s 6 (.dat .bool)] .no))))))))) Tryz.func23 [] (λ_=>by kernel_rfl) ⟨Zvd,Zjf,Zzf,qsame_k,Zhc,ZQi,ZFj,ZDq,ZNq,Zot,Zhg,ZOm,tr⟩)
noncomputable def Zqs:FuncId×ConP:=(16,⟨[.pair (.leaf 3) (.slice (.pair (.leaf 3) (.leaf 3))),.pair (.int .u8) (.int .u8),.leaf 3],59,.pair (.leaf 3) (.pair (.leaf 3) (.pair (.leaf 3) (.leaf 3))),[.slice (.pair (.leaf 3) (.pair (.leaf 3) (.pair (.leaf 3) (.leaf 3)))),.bool],λp=>ZPi p.1 p.2.1 p.2.2⟩)
theorem Zxy:KPw Zqs:=conp_z (C:=cf0 [Z9c,ZUk,Z8m,Zdh] [] [] []) (.r [] [] [.s 1000 (.own 59 (.pair (.leaf 3) (.pair (.leaf 3) (.pair (.leaf 3) (.leaf 3))))),.s 1001 (.dat (.slice (.pair (.leaf 3) (.pair (.leaf 3) (.pair (.leaf 3) (.leaf 3)))))),.s 1002 (.dat .bool)] (.n (.n (.f (.n (.f (.unroll 3 (.f (.n (.n (.f (.f (.n (.n (.n (.n (.f (.f (.j [3,5,9,10,13,14,15,17,19,20] [] [.s 46 (.dat .bool)] .no))))))))))))))))))) Tryz.func16 [] (λ_=>by kernel_rfl) ⟨Zvd,Zon,Ztt,Zsh,tr⟩
noncomputable def ZNv:FuncId×Con:=(4,⟨[.int .u8,.pair (.int .u8) (.pair (.int .u8) (.int .u8)),.pair (.int .u8) (.int .u8),.int .u8,.pair (.int .i8) (.int .i8)],[.bool],λp=>ZVk p.1 p.2.1 p.2.2.1 p.2.2.2.1 p.2.2.2.2⟩)
theorem Z6w:KR ZNv:=conr_r (C:=cf3 [Zfq,Z9c,Zce,Zef,Zhq,ZCp,Zep,ZBg,ZUk,ZZb,ZEt,Zto] [] [] [] [] [] [] [Zqs]) [5,5] (.n (.n (.n (.n (.n (.two (.lend [14,13] [] [9,12,14] (.n (.f (.j [9,12,14] [] [.s 97 (.dat .bool)] .no)))) (.two (.n (.f (.unroll 3 .no))) (.n (.f (.j [] [] [.s 10 (.dat .bool)] .no)))))))))) Tryz.func4 [] (λ_=>by kernel_rfl) ⟨Zry,Zvd,Zjf,Zzf,Zgu,ZZx,ZYt,ZVh,Zon,Zhc,ZUx,Zvy,tr⟩ tr tr tr tr tr tr ⟨Zxy,tr⟩
theorem Zkw {w0:World} {v0:Zb} (hv:VIn v0 w0) {c0:List Value} {rest:Int} (p0:Rep.rel (Zd .u8) v0 c0 rest) {c1:List Value} {ws:(Int×Int×Int)} (p1:Rep.rel (Zda (Zd .u8) (Zda (Zd .u8) (Zd .u8))) v0 c1 ws) {c2:List Value} {fs:(Int×Int)} (p2:Rep.rel (Zda (Zd .u8) (Zd .u8)) v0 c2 fs) {c3:List Value} {wh:Int} (p3:Rep.rel (Zd .u8) v0 c3 wh) {c4:List Value} {off:(Int×Int)} (p4:Rep.rel (Zda (Zd .i8) (Zd .i8)) v0 c4 off) {z:Bool} (hm:ZVk rest ws fs wh off=some z):Ret Tryz.prog 4 #[(Zd .u8).val c0,(Zda (Zd .u8) (Zda (Zd .u8) (Zd .u8))).val c1,(Zda (Zd .u8) (Zd .u8)).val c2,(Zd .u8).val c3,(Zda (Zd .i8) (Zd .i8)).val c4] w0 v0 (λy v'=>∃ r0,y=Zdd.val r0∧Zdd.rel v' r0 z):=(Z6w w0 v0 [(Zd .u8).val c0,(Zda (Zd .u8) (Zda (Zd .u8) (Zd .u8))).val c1,(Zda (Zd .u8) (Zd .u8)).val c2,(Zd .u8).val c3,(Zda (Zd .i8) (Zd .i8)).val c4] (rest,ws,fs,wh,off) z hv ⟨c0,_,rfl,p0,c1,_,rfl,p1,c2,_,rfl,p2,c3,_,rfl,p3,c4,rfl,p4⟩ hm).2
end Go.Eng
