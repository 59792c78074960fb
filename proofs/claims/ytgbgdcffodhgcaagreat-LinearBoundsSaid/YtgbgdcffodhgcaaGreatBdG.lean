/- Lemmas towards the statement: the engine of the walks, the functions' models, laws and walks, part 7. Conditions: as each states. -/
import Derived.Shelf.Strings.Builder1
import Derived.Shelf.Strings.Repeat
import Derived.Test.YtgbgdcffodhgcaaGreatProg
import Derived.Test.YtgbgdcffodhgcaaGreatBdF
set_option linter.all false
set_option maxRecDepth 100000
namespace Go.Eng
open Go.Proofs Go.RowKit
set_option maxRecDepth 100000
theorem ZLq:Elem Tryz.prog 30 47 (Z1).n 56 (Value.agg #[Value.bool false,Value.slice none 0 0,Value.slice none 0 0]):=⟨Tryz.underlying30,by kernel_rfl,rfl,by decide⟩
theorem Zcf:Zwb Tryz.prog 30 47 (Z1).n:=⟨fun _=>by kernel_rfl,fun _=>by kernel_rfl⟩
theorem Zmx:Tryz.prog.follows .mixedOrders=true:=by kernel_rfl
noncomputable def ZAl:FuncId×ConD:=(141,⟨47,.leaf 3,fun l i j=>Z4c l i j⟩)
theorem Zbv:Zhg Tryz.prog ZAl.1 ZAl.2:=fun w v ob n cap cs l i0 j0 z hv hh hnv hA hn hi hj hz=>by
 have hz:Z4c (show List Rat from l) i0 j0=some z:=hz
 obtain ⟨i,rfl,rfl,hin,rfl⟩:=ZHp hz
 have hA:(Z1).rels v cs (show List Rat from l):=hA
 have hin:i<n:=by rw [hn];exact hin
 have hcs:cs.length=n*(Z1).n:=by rw [hn];exact ZIc hA
 refine ⟨fun _ _=>by kernel_rfl,?_⟩
 refine Z3q (K:=33) (args:=[.slice (mkA ob) n cap,.int .i64 (i:Int),.int .i64 ((i+1:Nat):Int)]) hv hh hnv Tryz.func141 rfl rfl zl fun fa hS=>?_
 obtain ⟨b,rfl⟩:=ZYc hS (j:=0) rfl (by omega)
 obtain ⟨_,cur,hg,hnc,hcx,hcu,htk⟩:=(hS.loc _ (List.mem_of_getElem? (i:=0) rfl)).1
 unfold maxLen at hcx
 refine sr ?_
 refine mw hS rfl fun fa hS=>?_
 refine oe ?_
 refine sr ?_
 refine mv hS rfl fun fa hS=>?_
 refine mv hS rfl fun fa hS=>?_
 refine mv hS rfl fun fa hS=>?_
 refine mv hS rfl fun fa hS=>?_
 refine ov hS rfl (ZLb hS rfl rfl Zcf) fun fa hS=>?_
 have h3 := @ZKq _ _ _ _ _ _ _ _ _ (some 13) 30 "" #[] none hS 30 47 (Z1).n b n cap i (i + 1) n (.tmp 8) (.tmp 9) (.tmp 10) (.tmp 12) .i64 .i64 .i64 Zcf rfl rfl rfl rfl (by omega) (by omega) hnc
 obtain ⟨y3,h3⟩:=h3
 refine ov hS rfl h3 fun fa hS=>?_
 refine oe ?_
 refine wp_seq_k fun N1 hN1=>?_
 refine sr ?_
 refine mv hS rfl fun fa hS=>?_
 refine mv hS rfl fun fa hS=>?_
 refine ov hS rfl (ZB hS rfl rfl Z3f) fun fa hS=>?_
 refine oe ?_
 refine ZIa hS rfl (by simp only [beq_eq_false_iff_ne,ne_eq];omega) ?_
 refine wp_skip ?_
 refine Zp (hN1 _ _ ?_)
 refine sr ?_
 refine mv hS rfl fun fa hS=>?_
 refine ov hS rfl (ZLb hS rfl rfl Zcf) fun fa hS=>?_
 refine mw hS rfl fun fa hS=>?_
 refine oe ?_
 refine wp_seq_k fun N2 hN2=>?_
 refine Z5f (fl:=#[true,true,true,true,true,true,false,false]) Zmx (by kernel_rfl) hS ?_
 intro ops hops hF wo hS
 refine rf hops hF 0 rfl (by kernel_rfl) rfl hS (ZI hS rfl) fun fa hS=>?_
 refine rf hops hF 1 rfl (by kernel_rfl) rfl hS (ZI hS rfl) fun fa hS=>?_
 refine rf hops hF 2 rfl (by kernel_rfl) rfl hS (ZAm hS Zcf rfl rfl (by omega) (by omega)) fun fa hS=>?_
 refine rf hops hF 3 rfl (by kernel_rfl) rfl hS (ZI hS rfl) fun fa hS=>?_
 refine rf hops hF 4 rfl (by kernel_rfl) rfl hS (ZI hS rfl) fun fa hS=>?_
 obtain ⟨ad,had,hsrc⟩:∃ ad:Addr,(if cap=i+1 then mkA (some b) else (mkA (some b)).map (·.add ((i+1)*(Z1).n)))=some ad∧∀ j u,(cs.drop ((i+1)*(Z1).n))[j]? = some u→wo.cell? (ad.add j)=some u:=by
  by_cases h:cap=i+1
  ·refine ⟨⟨b,0,none⟩,by rw [if_pos h];rfl,fun j u hu=>?_⟩;have:cs.drop ((i+1)*(Z1).n)=[]:=List.drop_eq_nil_of_le (by rw [hcs];exact Nat.mul_le_mul_right _ (by omega));rw [this] at hu;simp at hu
  ·refine ⟨(⟨b,0,none⟩:Addr).add ((i+1)*(Z1).n),by rw [if_neg h];rfl,fun j u hu=>?_⟩;have:=ZLg hS (j:=0) rfl ((i+1)*(Z1).n+j) u (by rw [List.getElem?_drop] at hu;exact hu);rw [show ((⟨b,0,none⟩:Addr).add ((i+1)*(Z1).n)).add j=(⟨b,0,none⟩:Addr).add ((i+1)*(Z1).n+j) by simp only [Zxa,Nat.add_assoc]];exact this
 refine rf hops hF 5 rfl (by kernel_rfl) rfl hS (Z8o hS Zcf rfl rfl (by omega)) fun fa hS=>?_;rw [had] at hS;have hdl:(cs.drop ((i+1)*(Z1).n)).length=(n-(i+1))*(Z1).n:=by rw [List.length_drop,hcs,Nat.sub_mul]
 obtain ⟨wo',hr,hS'⟩:=Zrq (t:=30) (ty:=30) ZLq hS (i:=0) rfl (q:=i) (m:=n-(i+1)) (c:=cap-(i+1)) (ad:=ad) (news:=cs.drop ((i+1)*(Z1).n)) hdl hsrc (by rw [List.all_eq_true];intro y hy;exact List.all_eq_true.1 (Zkg hA) y (List.mem_of_mem_drop hy)) (by omega);rw [show i+(n-(i+1))=n-1 by omega] at hr;refine ZIe hops hF 6 (by kernel_rfl) ?_;refine Z9k [2,5,0,1,3,4] [] hops rfl (by kernel_rfl) wn rfl zl (Ztr hS rfl rfl hr) hS' fun fa hS=>?_;refine ⟨Zec,?_⟩;refine ZIe hops hF 7 (by kernel_rfl) ?_;refine nv [0,1,2,3,4,5,6] [] hops rfl (by kernel_rfl) rfl hS (Zed hS rfl) fun fa hS=>?_;refine ⟨Zec,?_⟩;refine ZMi hops hF (by kernel_rfl) ?_;refine Zp (hN2 _ _ ?_);refine sr ?_;refine mv hS rfl fun fa hS=>?_;refine mv hS rfl fun fa hS=>?_;refine ov hS rfl (ZLb hS rfl rfl Zcf) fun fa hS=>?_;refine mv hS rfl fun fa hS=>?_;refine ov hS rfl (ZBp hS Zcf rfl rfl rfl (by omega) (by omega) (by omega)) fun fa hS=>?_;obtain ⟨wo2,zc,hzl,hr,hS'⟩:=ZDo (t:=30) (ty:=30) ZLq hS (i:=0) rfl (p:=n-1) (c:=cap-(n-1)) (by omega) (List.all_eq_true.1 (by kernel_rfl));have hn1:n-(n-1)=1:=by omega
 rw [hn1] at hS hS';refine Zto wn rfl (Z4r hS rfl (hr _)) ?_;refine oe ?_;have hS:=hS'.narrow (i:=0) rfl (m:=n-1) (by omega);refine sr ?_;refine mv hS rfl fun fa hS=>?_;refine mw hS rfl fun fa hS=>?_;refine oe ?_;refine wp_ret ?_;refine Z0p hS (i:=0) rfl (ZDc rfl (ZSa hS rfl)) ?_ (show n-1=(List.take i l++List.drop (i+1) l).length by rw [List.length_append,List.length_take,List.length_drop,← hn];omega);rw [Z9p hcs hin hzl];exact Z2b (Ztf i (ZN hS.vst.le hA)) (ZAe (i+1) (ZN hS.vst.le hA))
end Go.Eng
set_option maxRecDepth 100000
set_option maxHeartbeats 4000000
namespace Go.Eng
open Go.Proofs Go.RowKit
noncomputable def ZZp:FuncId×ConB:=(93,⟨151,(.agg (.cons (.mat 30 47 (.leaf 3)) (.cons (.own 47 (.leaf 3)) (.cons (.own 47 (.leaf 3)) (.cons (.dat (.leaf 3)) (.cons (.own 3 (.int .i64)) (.one (.own 3 (.int .i64))))))))),[.pair (.slice (.slice (.leaf 3))) (.pair (.slice (.leaf 3)) (.slice (.leaf 3)))],[.slice (.leaf 3),.bool],fun z x=>Z9i z x⟩)
theorem ZHx : KB ZZp := ZPg (C := cf1 [Zii, Zvf, Zzf, ZUh, ZWf, Zde, ZMg] [100182] [ZOf] [((47, "Add"), 23), ((47, "Cmp"), 14), ((47, "Mul"), 18), ((47, "Sign"), 21), ((47, "Sub"), 22), ((47, "Zero"), 219)] [] [ZHl, ZJq, ZFm] [Zpm, ZAl]) (.n (.n (.n (.two (.n (.f (.l [0, 3, 6, 7, 8, 34, 35] [] [.s 9 (.dat (.int .i64)), .s 36 (.dat (.int .i64))] 0 [0, 3, 6, 7, 8] [] [.s 9 (.dat (.int .i64))] (.f (.n (.n (.f (.f (.n (.two (.j [0, 3, 6, 7, 8, 9, 10, 34, 35, 36] [] [.s 61 (.dat .bool)] .no) (.j [0, 3, 6, 7, 8, 34, 35, 36] [] [.s 9 (.dat (.int .i64))] .no))))))))))) (.n (.two (.n (.f (.l [0, 3, 6, 7, 8, 9, 70] [] [.s 71 (.dat (.int .i64)), .l (.sl 69) (.mat 30 47 (.leaf 3))] 2 [0, 3, 6, 7, 8, 9] [] [.l (.sl 69) (.mat 30 47 (.leaf 3))] .no))) (.n (.n (.n (.n (.n (.two (.n (.n (.j [0, 3, 8] [.fld (.sl 0) 0, .fld (.sl 0) 1, .fld (.sl 0) 2, .fld (.sl 0) 6, .fld (.sl 0) 7] [.l (.sl 0) (.box 151 (.agg (.cons (.mat 30 47 (.leaf 3)) (.cons (.own 47 (.leaf 3)) (.cons (.own 47 (.leaf 3)) (.cons (.dat (.leaf 3)) (.cons (.own 3 (.int .i64)) (.one (.own 3 (.int .i64))))))))))] .no))) (.n (.n (.two (.n (.f (.l [0, 3, 14, 167] [] [.s 168 (.dat (.int .i64)), .l (.sl 166) (.mat 30 47 (.leaf 3))] 4 [0, 3] [] [.l (.sl 166) (.mat 30 47 (.leaf 3))] .no))) (.n (.f (.n (.f (.l [0, 203, 204] [.fld (.sl 0) 0, .fld (.sl 0) 1, .fld (.sl 0) 6, .fld (.sl 0) 7, .fld (.sl 0) 2] [.s 205 (.dat (.int .i64)), .l (.sl 0) (.box 151 (.agg (.cons (.mat 30 47 (.leaf 3)) (.cons (.own 47 (.leaf 3)) (.cons (.own 47 (.leaf 3)) (.cons (.dat (.leaf 3)) (.cons (.own 3 (.int .i64)) (.one (.own 3 (.int .i64))))))))))] 6 [] [.fld (.sl 0) 0, .fld (.sl 0) 1, .fld (.sl 0) 6, .fld (.sl 0) 7, .fld (.sl 0) 2] [.l (.sl 0) (.box 151 (.agg (.cons (.mat 30 47 (.leaf 3)) (.cons (.own 47 (.leaf 3)) (.cons (.own 47 (.leaf 3)) (.cons (.dat (.leaf 3)) (.cons (.own 3 (.int .i64)) (.one (.own 3 (.int .i64))))))))))] (.f (.n (.n (.f (.j [0, 203, 204, 205] [.fld (.sl 0) 0, .fld (.sl 0) 1, .fld (.sl 0) 2, .fld (.sl 0) 6, .fld (.sl 0) 7] [.l (.sl 0) (.box 151 (.agg (.cons (.mat 30 47 (.leaf 3)) (.cons (.own 47 (.leaf 3)) (.cons (.own 47 (.leaf 3)) (.cons (.dat (.leaf 3)) (.cons (.own 3 (.int .i64)) (.one (.own 3 (.int .i64))))))))))] (.f (.n (.n (.n (.n (.n (.f (.l [0, 17, 203, 204, 205, 265, 266] [] [.s 267 (.dat (.int .i64)), .l (.fld (.sl 0) 2) (.own 47 (.leaf 3))] 8 [0, 203, 204, 205] [] [.l (.fld (.sl 0) 2) (.own 47 (.leaf 3))] .no))))))))))))))))))))))))))))))))) Tryz.func93 [(63, Tryz.f63, .no), (127, Tryz.f127, .r [] [] [.s 1000 (.dat (.int .i64))] (.n (.f (.n (.f (.cut ⟨⟨[0, 1, 7], [], [.s 8 (.dat (.int .i64))]⟩, [(.exit 0, ⟨[], [], []⟩), (.ret, ⟨[], [], [.s 1000 (.dat (.int .i64))]⟩)]⟩ .no)))))), (138, Tryz.f138, .r [] [] [.s 1000 (.dat (.int .i64))] (.n (.f (.n (.f (.cut ⟨⟨[0, 1, 7], [], [.s 8 (.dat (.int .i64))]⟩, [(.exit 0, ⟨[], [], []⟩), (.ret, ⟨[], [], [.s 1000 (.dat (.int .i64))]⟩)]⟩ .no)))))), (139, Tryz.f139, .no)] (fun _ _ => by kernel_rfl) ⟨ZRi, Z7f, Zjg, Zak, Zuh, ZCe, Zli, tr⟩ ⟨Z9g, tr⟩ ⟨Zrj, Z5m, ZZg, Zqi, ZUk, ZOj, tr⟩ ⟨⟨Tryz.func63, fun _ _ => by kernel_rfl⟩, ⟨Tryz.func127, fun _ _ => by kernel_rfl⟩, ⟨Tryz.func138, fun _ _ => by kernel_rfl⟩, ⟨Tryz.func139, fun _ _ => by kernel_rfl⟩, tr⟩ tr ⟨ZGs, Zyv, Zas, tr⟩ ⟨ZDu, Zbv, tr⟩
end Go.Eng
set_option maxRecDepth 100000
set_option maxHeartbeats 4000000
namespace Go.Eng
open Go.Proofs Go.RowKit
noncomputable def ZTp:FuncId×Con:=(43,⟨[.pair (.slice (.slice (.leaf 3))) (.pair (.slice (.leaf 3)) (.slice (.leaf 3)))],[.pair (.int .i64) (.pair (.leaf 3) (.pair (.slice (.leaf 3)) (.pair (.slice (.leaf 3)) (.slice (.leaf 3)))))],fun p=>Z8h p⟩)
theorem Zpt : KQ ZTp := Zj (ZF (C := cf1 [ZDe, Zde, ZOs, Zvr] [] [Zsi, ZOf] [((47, "Neg"), 55)] [ZEq] [ZZp, ZHl] []) (.n (.n (.n (.n (.n (.two (.j [2, 3, 4, 6] [] [.s 5 (.dat (.ptr (.pair (.slice (.slice (.leaf 3))) (.pair (.slice (.leaf 3)) (.pair (.slice (.leaf 3)) (.pair (.leaf 3) (.pair (.slice (.int .i64)) (.slice (.int .i64))))))))), .s 9 (.dat (.int .i64))] .no) (.n (.n (.two (.n (.n (.j [2, 3, 5, 6, 9, 10] [] [.l (.sl 10) (.own 47 (.leaf 3))] .no))) (.f (.n (.f (.l [2, 3, 5, 6, 9, 10, 69, 70] [] [.s 71 (.dat (.int .i64)), .l (.sl 10) (.own 47 (.leaf 3))] 0 [2, 3, 5, 6, 10] [] [.l (.sl 10) (.own 47 (.leaf 3))] (.f (.n (.n (.f (.f (.n (.n (.j [2, 3, 5, 6, 9, 10, 69, 70, 71] [] [.l (.sl 10) (.own 47 (.leaf 3))] .no))))))))))))))))))))) Tryz.func43 [(63, Tryz.f63, .no), (92, Tryz.f92, .n (.n (.two (.n (.f (.l [1, 3, 20] [.fld (.sl 3) 0, .fld (.sl 3) 1, .fld (.sl 3) 2] [.s 21 (.dat (.int .i64)), .l (.sl 3) (.box 151 (.agg (.cons (.mat 30 47 (.leaf 3)) (.cons (.own 47 (.leaf 3)) (.cons (.own 47 (.leaf 3)) (.cons (.dat (.leaf 3)) (.cons (.own 3 (.int .i64)) (.one (.own 3 (.int .i64))))))))))] 0 [1, 3] [.fld (.sl 3) 0, .fld (.sl 3) 1, .fld (.sl 3) 2] [.l (.sl 3) (.box 151 (.agg (.cons (.mat 30 47 (.leaf 3)) (.cons (.own 47 (.leaf 3)) (.cons (.own 47 (.leaf 3)) (.cons (.dat (.leaf 3)) (.cons (.own 3 (.int .i64)) (.one (.own 3 (.int .i64))))))))))] .no))) (.f (.n (.f (.l [1, 3, 37] [.fld (.sl 3) 0, .fld (.sl 3) 1, .fld (.sl 3) 2, .fld (.sl 3) 6, .fld (.sl 3) 7] [.s 38 (.dat (.int .i64)), .l (.sl 3) (.box 151 (.agg (.cons (.mat 30 47 (.leaf 3)) (.cons (.own 47 (.leaf 3)) (.cons (.own 47 (.leaf 3)) (.cons (.dat (.leaf 3)) (.cons (.own 3 (.int .i64)) (.one (.own 3 (.int .i64))))))))))] 2 [3] [.fld (.sl 3) 0, .fld (.sl 3) 1, .fld (.sl 3) 2, .fld (.sl 3) 6, .fld (.sl 3) 7] [.l (.sl 3) (.box 151 (.agg (.cons (.mat 30 47 (.leaf 3)) (.cons (.own 47 (.leaf 3)) (.cons (.own 47 (.leaf 3)) (.cons (.dat (.leaf 3)) (.cons (.own 3 (.int .i64)) (.one (.own 3 (.int .i64))))))))))] .no)))))))] (fun _ => by kernel_rfl) ⟨Zof, ZCe, Z4u, Zvt, tr⟩ ⟨Z0m, Z9g, tr⟩ ⟨ZYf, tr⟩ ⟨⟨Tryz.func63, fun _ _ => by kernel_rfl⟩, ⟨Tryz.func92, fun _ _ => by kernel_rfl⟩, tr⟩ ⟨Zrv, tr⟩ ⟨ZHx, ZGs, tr⟩)
end Go.Eng
set_option maxRecDepth 100000
set_option maxHeartbeats 4000000
namespace Go.Eng
open Go.Proofs Go.RowKit
noncomputable def Zon:FuncId×Con:=(11,⟨[.pair (.slice (.slice (.leaf 3))) (.pair (.slice (.leaf 3)) (.slice (.leaf 3)))],[.pair (.int .i64) (.pair (.leaf 3) (.pair (.slice (.leaf 3)) (.pair (.slice (.leaf 3)) (.slice (.leaf 3))))),.int .i64],fun p=>Zqe p⟩)
theorem Z8q:KQ Zon:=Zj (ZF (C:=cf0 [ZDg,ZTp] [] [] []) .no Tryz.func11 [] (fun _=>by kernel_rfl) ⟨ZAh,Zpt,tr⟩)
end Go.Eng
set_option maxRecDepth 100000
set_option maxHeartbeats 4000000
namespace Go.Eng
open Go.Proofs Go.RowKit
noncomputable def Zrn:FuncId×Con:=(16,⟨[.leaf 3,.leaf 3],[.bool],fun p=>ZMd p.1 p.2⟩)
theorem Zyr:KQ Zrn:=Zj (Zy (C:=cf0 [ZSi] [] [] []) (.n (.f (.j [] [] [.s 4 (.dat .bool)] .no))) Tryz.func16 [] (fun v vals x z ha hz=>.trans (by kernel_rfl) (Zuu hz)) ⟨cmp_k,tr⟩)
end Go.Eng
set_option maxRecDepth 100000
set_option maxHeartbeats 4000000
namespace Go.Eng
open Go.Proofs Go.RowKit
noncomputable def Zui:FuncId×Con:=(69,⟨[.slice (.leaf 3)],[.bool],fun p=>ZQe p⟩)
theorem ZJm : KQ Zui := Zj (ZF (C := cf0 [Zzf] [] [] [((47, "Sign"), 21)]) .no Tryz.func69 [(108, Tryz.f108, .no), (113, Tryz.f113, .no), (138, Tryz.f138, .r [] [] [.s 1000 (.dat (.int .i64))] (.n (.f (.n (.f (.cut ⟨⟨[0, 1, 7], [], [.s 8 (.dat (.int .i64))]⟩, [(.exit 0, ⟨[], [], []⟩), (.ret, ⟨[], [], [.s 1000 (.dat (.int .i64))]⟩)]⟩ .no))))))] (fun _ => by kernel_rfl) ⟨Zjg, tr⟩ tr ⟨Zqi, tr⟩ ⟨⟨Tryz.func108, fun _ _ => by kernel_rfl⟩, ⟨Tryz.func113, fun _ _ => by kernel_rfl⟩, ⟨Tryz.func138, fun _ _ => by kernel_rfl⟩, tr⟩)
end Go.Eng
set_option maxRecDepth 100000
set_option maxHeartbeats 4000000
namespace Go.Eng
open Go.Proofs Go.RowKit
noncomputable def Zaj:FuncId×Con:=(71,⟨[.slice (.leaf 3),.slice (.leaf 3)],[.bool],fun p=>Zlg p.1 p.2⟩)
theorem ZKm : KQ Zaj := Zj (ZF (C := cf0 [Zii] [] [] [((47, "Cmp"), 14)]) (.n (.f (.n (.f (.cut ⟨⟨[0, 1, 7], [], [.s 8 (.dat (.int .i64))]⟩, [(.exit 0, ⟨[], [], []⟩), (.ret, ⟨[], [], [.s 1000 (.dat .bool)]⟩)]⟩ .no))))) Tryz.func71 [] (fun _ => by kernel_rfl) ⟨ZRi, tr⟩ tr ⟨Z5m, tr⟩)
end Go.Eng
set_option maxRecDepth 100000
set_option maxHeartbeats 4000000
namespace Go.Eng
open Go.Proofs Go.RowKit
noncomputable def Zxh:FuncId×Con:=(45,⟨[.slice (.leaf 3),.slice (.leaf 3)],[.leaf 3],fun p=>Zpd p.1 p.2⟩)
theorem Znk : KQ Zxh := Zj (ZF (C := cf0 [Zvf, ZWf, Zde] [] [] [((47, "Add"), 23), ((47, "Mul"), 18)]) (.n (.n (.f (.n (.f (.l [0, 1, 4, 5, 9] [] [.s 10 (.dat (.int .i64)), .l (.sl 5) (.box 47 (.dat (.leaf 3)))] 0 [4, 5] [] [.l (.sl 5) (.box 47 (.dat (.leaf 3)))] .no)))))) Tryz.func45 [] (fun _ => by kernel_rfl) ⟨Z7f, Zuh, ZCe, tr⟩ tr ⟨Zrj, ZZg, tr⟩)
end Go.Eng
set_option maxRecDepth 100000
set_option maxHeartbeats 4000000
namespace Go.Eng
open Go.Proofs Go.RowKit
noncomputable def ZDn:FuncId×Con:=(72,⟨[.slice (.slice (.leaf 3)),.slice (.leaf 3)],[.slice (.leaf 3)],fun p=>ZTh p.1 p.2⟩)
theorem Z1r:KQ ZDn:=Zj (ZF (C:=cf0 [Zxh] [] [] []) (.n (.n (.f (.n (.f (.l [1,8,9] [] [.s 5 (.own 47 (.leaf 3)),.s 10 (.dat (.int .i64))] 0 [] [] [.s 5 (.own 47 (.leaf 3))] .no)))))) Tryz.func72 [] (fun _=>by kernel_rfl) ⟨Znk,tr⟩)
end Go.Eng
set_option maxRecDepth 100000
set_option maxHeartbeats 4000000
namespace Go.Eng
open Go.Proofs Go.RowKit
noncomputable def ZLm:FuncId×Con:=(44,⟨[.pair (.slice (.slice (.leaf 3))) (.pair (.slice (.leaf 3)) (.slice (.leaf 3))),.slice (.leaf 3)],[.bool],fun p=>Zph p.1 p.2⟩)
theorem Zhr:KQ ZLm:=Zj (ZF (C:=cf0 [Zui,Zaj,ZDn] [] [] []) (.n (.f (.j [] [] [.s 4 (.dat .bool)] .no))) Tryz.func44 [] (fun _=>by kernel_rfl) ⟨ZJm,ZKm,Z1r,tr⟩)
end Go.Eng
set_option maxRecDepth 100000
set_option maxHeartbeats 4000000
namespace Go.Eng
open Go.Proofs Go.RowKit
noncomputable def Z6l:FuncId×Con:=(70,⟨[.pair (.slice (.slice (.leaf 3))) (.pair (.slice (.leaf 3)) (.slice (.leaf 3))),.slice (.leaf 3)],[.slice (.leaf 3)],fun p=>Zoi p.1 p.2⟩)
theorem ZNr : KQ Z6l := Zj (ZF (C := cf0 [Zvf, ZWf] [] [ZDh] [((47, "Add"), 23), ((47, "Mul"), 18)]) (.n (.n (.f (.n (.f (.l [1, 5, 15, 16] [] [.s 17 (.dat (.int .i64)), .l (.sl 5) (.own 47 (.leaf 3))] 0 [5] [] [.l (.sl 5) (.own 47 (.leaf 3))] (.f (.n (.n (.f (.f (.n (.n (.f (.l [1, 5, 6, 15, 16, 17, 22, 23] [] [.s 24 (.dat (.int .i64)), .l (.sl 5) (.own 47 (.leaf 3))] 2 [1, 5, 15, 16, 17] [] [.l (.sl 5) (.own 47 (.leaf 3))] .no))))))))))))))) Tryz.func70 [] (fun _ => by kernel_rfl) ⟨Z7f, Zuh, tr⟩ ⟨Zti, tr⟩ ⟨Zrj, ZZg, tr⟩)
end Go.Eng
set_option maxRecDepth 100000
set_option maxHeartbeats 4000000
namespace Go.Eng
open Go.Proofs Go.RowKit
noncomputable def Z2m:FuncId×Con:=(46,⟨[.pair (.slice (.slice (.leaf 3))) (.pair (.slice (.leaf 3)) (.slice (.leaf 3))),.slice (.leaf 3)],[.bool],fun p=>ZVh p.1 p.2⟩)
theorem Z8r:KQ Z2m:=Zj (ZF (C:=cf0 [Zui,Z6l,Zaj] [] [] []) (.n (.f (.j [] [] [.s 4 (.dat .bool)] .no))) Tryz.func46 [] (fun _=>by kernel_rfl) ⟨ZJm,ZNr,ZKm,tr⟩)
end Go.Eng
set_option maxRecDepth 100000
set_option maxHeartbeats 4000000
namespace Go.Eng
open Go.Proofs Go.RowKit
noncomputable def Z7s:FuncId×Con:=(29,⟨[.pair (.slice (.slice (.leaf 3))) (.pair (.slice (.leaf 3)) (.slice (.leaf 3))),.pair (.int .i64) (.pair (.leaf 3) (.pair (.slice (.leaf 3)) (.pair (.slice (.leaf 3)) (.slice (.leaf 3)))))],[.bool],fun p=>ZRs p.1 p.2⟩)
theorem ZSu : KQ Z7s := Zj (ZF (C := cf0 [Zrn, Zzf, ZDg, ZLm, Zxh, Z2m, Zui, Z6l, Zaj, ZDn, ZMg] [] [ZDh] [((47, "Same"), 16), ((47, "Sign"), 21), ((47, "Zero"), 219)]) (.n (.n (.two (.j [2, 3] [] [.s 5 (.dat .bool)] .no) (.f (.n (.f (.n (.two (.f (.j [] [] [.s 4 (.dat .bool)] .no)) (.n (.two (.f (.j [] [] [.s 4 (.dat .bool)] .no)) (.n (.f (.two (.f (.j [2, 3] [] [.s 135 (.dat .bool)] .no)) (.f (.j [] [] [.s 4 (.dat .bool)] .no))))))))))))))) Tryz.func29 [] (fun _ => by kernel_rfl) ⟨Zyr, Zjg, ZAh, Zhr, Znk, Z8r, ZJm, ZNr, ZKm, Z1r, Zli, tr⟩ ⟨Zti, tr⟩ ⟨Z2t, Zqi, ZOj, tr⟩)
end Go.Eng
set_option maxRecDepth 100000
set_option maxHeartbeats 4000000
namespace Go.Eng
open Go.Proofs Go.RowKit
noncomputable def Zom:FuncId×Con:=(60,⟨[.slice (.slice (.leaf 3))],[.int .i64],fun p=>Zzi p⟩)
theorem ZQp:KQ Zom:=Zj (ZF (C:=cf0 [] [] [] []) .no Tryz.func60 [] (fun _=>by kernel_rfl))
end Go.Eng
set_option maxRecDepth 100000
set_option maxHeartbeats 4000000
namespace Go.Eng
open Go.Proofs Go.RowKit
noncomputable def Zsn:FuncId×Con:=(85,⟨[.slice (.slice (.leaf 3))],[.bool],fun p=>Zcn p⟩)
theorem ZXn:KQ Zsn:=Zj (ZF (C:=cf0 [Zom] [] [] []) (.n (.n (.f (.j [] [] [.s 2 (.dat .bool)] .no)))) Tryz.func85 [(67,Tryz.f67,.no),(112,Tryz.f112,.r [] [] [.s 1000 (.dat (.int .i64))] (.n (.f (.n (.f (.cut ⟨⟨[0,1,7],[],[.s 8 (.dat (.int .i64))]⟩,[(.exit 0,⟨[],[],[]⟩),(.ret,⟨[],[],[.s 1000 (.dat (.int .i64))]⟩)]⟩ .no)))))),(126,Tryz.f126,.no)] (fun _=>by kernel_rfl) ⟨ZQp,tr⟩ tr tr ⟨⟨Tryz.func67,fun _ _=>by kernel_rfl⟩,⟨Tryz.func112,fun _ _=>by kernel_rfl⟩,⟨Tryz.func126,fun _ _=>by kernel_rfl⟩,tr⟩)
end Go.Eng
set_option maxRecDepth 100000
set_option maxHeartbeats 4000000
namespace Go.Eng
open Go.Proofs Go.RowKit
noncomputable def Zlm:FuncId×Con:=(86,⟨[.slice (.slice (.leaf 3))],[.slice (.slice (.leaf 3)),.slice (.int .i64),.leaf 3],fun p=>Ztn p⟩)
theorem ZRr : KQ Zlm := Zj (ZF (C := cf0 [Zvf, ZUh, ZDe, Zde, Zcj, ZMg] [8] [Zsi] [((47, "Div"), 216), ((47, "Mul"), 18), ((47, "Neg"), 55), ((47, "Sub"), 22), ((47, "Zero"), 219)]) (.n (.n (.n (.n (.f (.n (.f (.l [0, 4, 6, 19] [] [.s 5 (.own 3 (.int .i64)), .s 20 (.dat (.int .i64)), .l (.sl 0) (.mat 30 47 (.leaf 3)), .l (.sl 6) (.box 47 (.dat (.leaf 3)))] 0 [0, 4, 6] [] [.s 5 (.own 3 (.int .i64)), .l (.sl 0) (.mat 30 47 (.leaf 3)), .l (.sl 6) (.box 47 (.dat (.leaf 3)))] (.f (.n (.n (.f (.j [0, 4, 6, 19, 20] [] [.s 5 (.own 3 (.int .i64)), .l (.sl 0) (.mat 30 47 (.leaf 3)), .l (.sl 6) (.box 47 (.dat (.leaf 3)))] (.f (.n (.n (.n (.two (.f (.l [0, 4, 5, 6, 7, 8, 19, 20] [] [.s 9 (.dat (.int .i64))] 2 [0, 4, 5, 6, 7, 8, 19, 20] [] [.s 9 (.dat (.int .i64))] (.f (.f (.f (.j [0, 4, 5, 6, 7, 8, 9, 19, 20] [] [.s 40 (.dat .bool)] .no)))))) (.n (.two (.n (.j [0, 4, 5, 6, 7, 8, 19, 20] [] [.l (.sl 0) (.mat 30 47 (.leaf 3)), .l (.sl 6) (.box 47 (.dat (.leaf 3)))] .no)) (.n (.n (.two (.n (.f (.l [0, 4, 5, 6, 7, 8, 10, 19, 20, 83] [] [.s 84 (.dat (.int .i64)), .l (.sl 0) (.mat 30 47 (.leaf 3))] 4 [0, 4, 5, 6, 7, 8, 19, 20] [] [.l (.sl 0) (.mat 30 47 (.leaf 3))] .no))) (.f (.n (.f (.l [0, 4, 5, 6, 7, 8, 19, 20, 108] [] [.s 109 (.dat (.int .i64)), .l (.sl 0) (.mat 30 47 (.leaf 3))] 6 [0, 4, 5, 6, 7, 19, 20] [] [.l (.sl 0) (.mat 30 47 (.leaf 3))] (.f (.n (.n (.f (.j [0, 4, 5, 6, 7, 8, 19, 20, 108, 109] [] [.l (.sl 0) (.mat 30 47 (.leaf 3))] (.f (.n (.n (.two (.f (.j [0, 4, 5, 6, 7, 8, 12, 13, 19, 20, 108, 109] [] [.s 126 (.dat .bool)] .no)) (.n (.f (.l [0, 4, 5, 6, 7, 8, 12, 13, 19, 20, 108, 109, 131] [] [.s 132 (.dat (.int .i64)), .l (.sl 0) (.mat 30 47 (.leaf 3))] 8 [0, 4, 5, 6, 7, 8, 19, 20, 108, 109] [] [.l (.sl 0) (.mat 30 47 (.leaf 3))] .no))))))))))))))))))))))))))))))))))))))) Tryz.func86 [(60, Tryz.f60, .r [] [] [.s 1000 (.dat (.int .i64))] .no), (65, Tryz.f65, .n (.n (.f (.n (.f (.l [3, 9, 10] [] [.s 11 (.dat (.int .i64)), .l (.sl 3) (.mat 30 47 (.leaf 3))] 0 [3] [] [.l (.sl 3) (.mat 30 47 (.leaf 3))] .no))))))] (fun _ => by kernel_rfl) ⟨Z7f, Zak, Zof, ZCe, ZFl, Zli, tr⟩ ⟨Z0m, tr⟩ ⟨Z7m, ZZg, ZYf, ZUk, ZOj, tr⟩ ⟨⟨Tryz.func60, fun _ _ => by kernel_rfl⟩, ⟨Tryz.func65, fun _ _ => by kernel_rfl⟩, tr⟩)
end Go.Eng
set_option maxRecDepth 100000
set_option maxHeartbeats 4000000
namespace Go.Eng
open Go.Proofs Go.RowKit
noncomputable def ZYo:FuncId×Con:=(37,⟨[.slice (.slice (.leaf 3))],[.slice (.slice (.leaf 3)),.slice (.int .i64),.int .i64],fun p=>ZLp p⟩)
theorem Z0v:KQ ZYo:=Zj (ZF (C:=cf0 [Zsn,Zlm] [] [] []) .no Tryz.func37 [] (fun _=>by kernel_rfl) ⟨ZXn,ZRr,tr⟩)
end Go.Eng
set_option maxRecDepth 100000
set_option maxHeartbeats 4000000
namespace Go.Eng
open Go.Proofs Go.RowKit
noncomputable def Z9o:FuncId×Con:=(127,⟨[.slice (.int .i64),.int .i64],[.int .i64],fun p=>Z3o p.1 p.2⟩)
theorem Zrw:KQ Z9o:=Zj (ZF (C:=cf0 [] [] [] []) (.n (.f (.n (.cut ⟨⟨[],[],[]⟩,[(.norm,⟨[],[],[]⟩),(.ret,⟨[],[],[.s 1000 (.dat (.int .i64))]⟩)]⟩ (.f (.cut ⟨⟨[0,1,7],[],[.s 8 (.dat (.int .i64))]⟩,[(.ret,⟨[],[],[.s 1000 (.dat (.int .i64))]⟩),(.exit 0,⟨[],[],[]⟩)]⟩ .no)))))) Tryz.func127 [] (fun _=>by kernel_rfl))
end Go.Eng
set_option maxRecDepth 100000
set_option maxHeartbeats 4000000
namespace Go.Eng
open Go.Proofs Go.RowKit
noncomputable def Zlo:FuncId×Con:=(87,⟨[.slice (.int .i64),.int .i64],[.bool],fun p=>ZPp p.1 p.2⟩)
theorem ZLx:KQ Zlo:=Zj (ZF (C:=cf0 [Z9o] [] [] []) .no Tryz.func87 [] (fun _=>by kernel_rfl) ⟨Zrw,tr⟩)
end Go.Eng
set_option maxRecDepth 100000
set_option maxHeartbeats 4000000
namespace Go.Eng
open Go.Proofs Go.RowKit
noncomputable def ZUn:FuncId×Con:=(38,⟨[.slice (.slice (.leaf 3))],[.slice (.slice (.leaf 3)),.int .i64],fun p=>ZZn p⟩)
theorem Zst : KQ ZUn := Zj (ZF (C := cf0 [ZDe, Zom, Zde, Zsn, Zlm, Zlo] [] [ZOf] [((47, "Neg"), 55)]) (.n (.n (.n (.n (.f (.n (.f (.l [0, 4, 5, 22] [] [.s 7 (.own 30 (.slice (.leaf 3))), .s 23 (.dat (.int .i64))] 0 [] [] [.s 7 (.own 30 (.slice (.leaf 3)))] (.f (.n (.n (.f (.j [0, 4, 5, 22, 23] [] [.s 7 (.own 30 (.slice (.leaf 3)))] (.f (.n (.n (.n (.n (.f (.n (.f (.l [0, 4, 5, 7, 8, 9, 22, 23, 36, 37] [] [.s 38 (.dat (.int .i64)), .l (.sl 9) (.own 47 (.leaf 3))] 2 [0, 4, 5, 7, 9, 22, 23] [] [.l (.sl 9) (.own 47 (.leaf 3))] .no)))))))))))))))))))))) Tryz.func38 [(63, Tryz.f63, .no)] (fun _ => by kernel_rfl) ⟨Zof, ZQp, ZCe, ZXn, ZRr, ZLx, tr⟩ ⟨Z9g, tr⟩ ⟨ZYf, tr⟩ ⟨⟨Tryz.func63, fun _ _ => by kernel_rfl⟩, tr⟩)
end Go.Eng
namespace Go.Eng
open Go.Proofs Go.RowKit
theorem Zrt {r:World} {d:Zb} (hv:VIn d r) {D:List Value} {n:Int} (L:Rep.rel (Zd .u64) d D n) {z:(List UInt8)} (H:ZNi n=some z):Ret Tryz.prog 131 #[(Zd .u64).val D] r d (fun y v'=>∃ E,y=ZYa.val E∧ZYa.rel v' E z):=by
 obtain ⟨rfl,M⟩:=L;refine Zmi (K:=20) (args:=[.int .u64 n]) hv Tryz.func131 rfl rfl zl fun f S=>?_;unfold ZNi at H;refine sr (mw S rfl fun f S=>oe (sr (ZNp S wn rfl zl (cs:=[.int .u8 0,.int .u8 0,.int .u8 0,.int .u8 0,.int .u8 0,.int .u8 0,.int .u8 0,.int .u8 0,.int .u8 0,.int .u8 0,.int .u8 0,.int .u8 0,.int .u8 0,.int .u8 0,.int .u8 0,.int .u8 0,.int .u8 0,.int .u8 0,.int .u8 0,.int .u8 0]) (ZXm k_zv222) fun s f w S=>?_)));have S:=S.boxOwn 1 20 rfl zl;have N:Rep.rels (Zd .u8) d [.int .u8 0,.int .u8 0,.int .u8 0,.int .u8 0,.int .u8 0,.int .u8 0,.int .u8 0,.int .u8 0,.int .u8 0,.int .u8 0,.int .u8 0,.int .u8 0,.int .u8 0,.int .u8 0,.int .u8 0,.int .u8 0,.int .u8 0,.int .u8 0,.int .u8 0,.int .u8 0] (List.replicate 20 (0:Int)):=Zdg (show Rep.rel (Zd .u8) _ [Value.int .u8 0] 0 from ⟨rfl,by decide⟩) 20;refine oe (sr (mw S rfl fun f S=>oe (Zz fun _ O=>?_)));obtain ⟨P,Q,R⟩:=Zfa H;refine ZHc (fun f w=>∃ l m B t,(l,m)=P∧Zb.le d t∧St 20 r d [(3,.pointer (some ⟨s,0,none⟩)),(4,.int .i64 m)] [Loc.own (some s) 222 1 20 20 B] t f w∧Rep.rels (Zd .u8) t B l∧20=l.length∧inR .i64 m) (fun _ T=>?_) ?_
 ·have H:=Q;refine wp_block ?_;obtain ⟨ak,U,V⟩:=Zfa H;refine ZKd U (fun W f w=>∃ h o u b k,(h,o,u)=W∧Zb.le d k∧St 20 r d [(0,.int .u64 o),(3,.pointer (some ⟨s,0,none⟩)),(4,.int .i64 u)] [Loc.own (some s) 222 1 20 20 b] k f w∧Rep.rels (Zd .u8) k b h∧20=h.length∧inR .u64 o∧inR .i64 u) ⟨_,_,_,[.int .u8 0,.int .u8 0,.int .u8 0,.int .u8 0,.int .u8 0,.int .u8 0,.int .u8 0,.int .u8 0,.int .u8 0,.int .u8 0,.int .u8 0,.int .u8 0,.int .u8 0,.int .u8 0,.int .u8 0,.int .u8 0,.int .u8 0,.int .u8 0,.int .u8 0,.int .u8 0],_,rfl,(leR _),(S.fr' rfl),N,(List.length_replicate (n:=20) (a:=(0:Int))).symm,M,(by decide)⟩ ?_;rintro _ f w st ⟨h,o,u,b,k,hq,F,S,C,v,al,X⟩ H am Y Z;subst hq;refine Zz fun _ aa=>sr (mv S rfl fun f S=>ov S rfl (ZB S rfl rfl Zrf) fun f S=>oe ?_);rcases Ztb (decide ((0:Int)<o)) with p | p
  ·have H:=Zpb H p;refine Zeb S rfl p (wp_skip (Zp (aa _ _ (Zz fun _ ab=>wp_block (Zz fun _ ac=>bO H fun e G H=>ZV (mv S rfl fun f S=>ov S rfl (ZB S rfl rfl (ZDb G)) fun f S=>mw S rfl fun f S=>ZO (Zp (ac _ _ (bO H fun g ad H=>?_)))))))));refine bO H fun an q H=>ZV (mv S rfl fun f S=>mv S rfl fun f S=>ov S rfl (ZB S rfl rfl (ZZr ad)) fun f S=>ov S rfl (ZB S rfl rfl Z3l) fun f S=>ov S rfl (Z7e S rfl (ZQx _)) fun f S=>?_);have I:=ZGa C (Zo q).2.1;obtain ⟨ao,ae⟩:∃ c,(List.take (Zd .u8).n (List.drop ((e).toNat*(Zd .u8).n) b))=c:=⟨_,rfl⟩;rw [ae] at I;obtain ⟨rfl,ap⟩:=I;refine ov S rfl (Zks S ZVp rfl rfl (Zo q).1 (ltI v (Zo q).2.2.1)) fun f S=>?_;obtain ⟨w,af,S⟩:=Zod S k_sz5 (off:=0+(e).toNat*1) (z:=.int .u8 (IntKind.u8.wrap (IntKind.u64.wrap ((48:Int)+g)))) (cs:=[.int .u8 (IntKind.u8.wrap (IntKind.u64.wrap ((48:Int)+g)))]) (ZJc rfl) rfl (i:=0) rfl (Z7h S (j:=0) rfl (ltN v (Zo q).2.2.2)) (by first | rfl | simp [plain]);have ag:Rep.rels (Zd .u8) k (List.take (0+(e).toNat*1) b++[Value.int IntKind.u8 (IntKind.u8.wrap (IntKind.u64.wrap ((48:Int)+g)))]++List.drop (0+(e).toNat*1+1) b) (h.set (e).toNat (IntKind.u8.wrap (IntKind.u64.wrap ((48:Int)+g)))):=ZQg C (Zo q).2.2.2 (show Rep.rel (Zd .u8) k [.int .u8 (IntKind.u8.wrap (IntKind.u64.wrap ((48:Int)+g)))] _ from (Z5 (ZPb _ _))) rfl rfl
   have ah:20=(h.set (e).toNat (IntKind.u8.wrap (IntKind.u64.wrap ((48:Int)+g)))).length:=setN v;refine ZAk wn rfl (af rfl rfl) (ZO (Zyd (Zp (ab _ _ (bO H fun aq J H=>ZV (mv S rfl fun f S=>ov S rfl (ZB S rfl rfl (ZQn J)) fun f S=>mw S rfl fun f S=>ZO ?_))))));obtain rfl:=ZK H;refine Y _ rfl _ _ ⟨_,_,_,(List.take (0+(e).toNat*1) b++[Value.int IntKind.u8 (IntKind.u8.wrap (IntKind.u64.wrap ((48:Int)+g)))]++List.drop (0+(e).toNat*1+1) b),_,rfl,F,(S.fr' rfl),ag,ah,(ZZs J),(Zyb G).2⟩
  have H:=Zgb H p;refine ZIa S rfl p (wp_exit (ZZa ?_));obtain rfl:=ZK H;have hq:=Z _ rfl;subst hq;have H:=V;refine ZZa (Zwd ?_);obtain rfl:=ZK H;refine Zp (T _ _ ⟨_,_,b,_,rfl,(leT (leR _) F),(S.fr' rfl),C,v,X⟩)
 rintro f w ⟨l,m,B,t,hq,ar,S,ai,x,au⟩;subst hq;have H:=R;refine Zp (O _ _ (Zz fun _ aj=>bO H fun av A H=>ZV (mv S rfl fun f S=>ov S rfl (ZOt S ZVp rfl rfl (ZTf A).1 (by have:=(ZTf A).2.1;have:=x;omega)) fun f S=>ov S rfl (Zuv S (j:=0) rfl ai x (by have:=(ZTf A).2.1;have:=(ZTf A).1;have:=x;omega) rfl Tryz.underlying187 Tryz.underlying5 Tryz.underlying9) fun f S=>mw S rfl fun f S=>ZO (Zp (aj _ _ (wp_ret ?_))))));obtain rfl:=ZK H;refine Zpf S (ZDc rfl (ZSa S rfl)) ⟨[.string (Zt ((Zcd (l.drop ((m).toNat)))))],rfl,(Zmh (by have:=x;simp only [ZMx,List.length_drop];unfold maxLen;omega))⟩
theorem Z7w {b:World} {a:Zb} (hv:VIn a b) {c:List Value} {n:Int} (d:Rep.rel (Zd .u64) a c n) {z:(List UInt8)} (hm:ZAg n=some z) :
  Ret Tryz.prog 131 #[(Zd .u64).val c] b a (fun y v'=>∃ e,y=ZYa.val e∧ZYa.rel v' e z) :=
 Zrt hv d (Zmv d.2 hm)
end Go.Eng
namespace Go.Proofs
open Go.Shelf
def Tryz.lays105_ren:Go.Shelf.Ren:=⟨fun | 105=>132 | 212=>150 | 99=>165 | 165=>166 | 166=>133 | 170=>167 | 169=>134 | 263=>175 | 264=>102 | 206=>187 | 240=>168 | 241=>188 | 276=>189 | 277=>194 | n=>n,fun | 9=>9 | 3=>3 | 4=>4 | 20=>20 | 0=>0 | 46=>205 | 109=>206 | 5=>5 | 72=>189 | 76=>192 | 51=>196 | 146=>232 | 53=>153 | 148=>158 | 70=>186 | 37=>187 | 75=>191 | 127=>225 | 164=>238 | 80=>94 | n=>n,fun | n=>n⟩
theorem Tryz.lays105:Go.Proofs.Lays.n105 Tryz.prog Tryz.lays105_ren:={
 mixed:=by kernel_rfl
 f99:=Tryz.func165.trans (congrArg some (by kernel_rfl))
 f105:=Tryz.func132.trans (congrArg some (by kernel_rfl))
 f165:=Tryz.func166.trans (congrArg some (by kernel_rfl))
 f166:=Tryz.func133.trans (congrArg some (by kernel_rfl))
 f169:=Tryz.func134.trans (congrArg some (by kernel_rfl))
 f170:=Tryz.func167.trans (congrArg some (by kernel_rfl))
 f206:=Tryz.func187.trans (congrArg some (by kernel_rfl))
 f212:=Tryz.func150.trans (congrArg some (by kernel_rfl))
 f240:=Tryz.func168.trans (congrArg some (by kernel_rfl))
 f241:=Tryz.func188.trans (congrArg some (by kernel_rfl))
 f263:=Tryz.func175.trans (congrArg some (by kernel_rfl))
 f264:=Tryz.func102.trans (congrArg some (by kernel_rfl))
 f276:=Tryz.func189.trans (congrArg some (by kernel_rfl))
 f277:=Tryz.func194.trans (congrArg some (by kernel_rfl))
 t0:=Tryz.underlying0
 a0:=Tryz.isAgg0
 z0:=Tryz.sizeOf0
 v0:=Tryz.zeroValue0
 t3:=Tryz.underlying3
 a3:=Tryz.isAgg3
 z3:=Tryz.sizeOf3
 v3:=Tryz.zeroValue3
 t4:=Tryz.underlying4
 a4:=Tryz.isAgg4
 z4:=Tryz.sizeOf4
 v4:=Tryz.zeroValue4
 t5:=Tryz.underlying5
 a5:=Tryz.isAgg5
 z5:=Tryz.sizeOf5
 v5:=Tryz.zeroValue5
 t9:=Tryz.underlying9
 a9:=Tryz.isAgg9
 z9:=Tryz.sizeOf9
 v9:=Tryz.zeroValue9
 t20:=Tryz.underlying20
 a20:=Tryz.isAgg20
 z20:=Tryz.sizeOf20
 v20:=Tryz.zeroValue20
 t37:=Tryz.underlying187
 a37:=Tryz.isAgg187
 z37:=Tryz.sizeOf187
 v37:=Tryz.zeroValue187
 t46:=Tryz.underlying205
 a46:=Tryz.isAgg205
 z46:=Tryz.sizeOf205
 v46:=Tryz.zeroValue205
 t51:=Tryz.underlying196
 a51:=Tryz.isAgg196
 z51:=Tryz.sizeOf196
 v51:=Tryz.zeroValue196
 t53:=Tryz.underlying153
 a53:=Tryz.isAgg153
 z53:=Tryz.sizeOf153
 v53:=Tryz.zeroValue153
 t70:=Tryz.underlying186
 a70:=Tryz.isAgg186
 z70:=Tryz.sizeOf186
 v70:=Tryz.zeroValue186
 t72:=Tryz.underlying189
 a72:=Tryz.isAgg189
 z72:=Tryz.sizeOf189
 v72:=Tryz.zeroValue189
 t75:=Tryz.underlying191
 a75:=Tryz.isAgg191
 z75:=Tryz.sizeOf191
 v75:=Tryz.zeroValue191
 t76:=Tryz.underlying192
 a76:=Tryz.isAgg192
 z76:=Tryz.sizeOf192
 v76:=Tryz.zeroValue192
 t109:=Tryz.underlying206
 a109:=Tryz.isAgg206
 z109:=Tryz.sizeOf206
 v109:=Tryz.zeroValue206
 t127:=Tryz.underlying225
 a127:=Tryz.isAgg225
 z127:=Tryz.sizeOf225
 v127:=Tryz.zeroValue225
 t146:=Tryz.underlying232
 a146:=Tryz.isAgg232
 z146:=Tryz.sizeOf232
 v146:=Tryz.zeroValue232
 t148:=Tryz.underlying158
 a148:=Tryz.isAgg158
 z148:=Tryz.sizeOf158
 v148:=Tryz.zeroValue158
 t164:=Tryz.underlying238
 a164:=Tryz.isAgg238
 z164:=Tryz.sizeOf238
 v164:=Tryz.zeroValue238 }
theorem Tryz.Builder_Extra_105:Builder.Extra Tryz.prog Tryz.lays105_ren:={
 sizeBuilder:=by kernel_rfl
 liesBuilder:=by kernel_rfl
 t5:=Tryz.underlying5
 a5:=Tryz.isAgg5
 z5:=Tryz.sizeOf5
 v5:=Tryz.zeroValue5
 infoByte:=by kernel_rfl
 cellsByte:=by kernel_rfl
 sizeByte:=by kernel_rfl
 neB5:=by decide }
end Go.Proofs
namespace Go.Eng
open Go.Proofs Go.RowKit Go.Shelf
theorem writes:ZFs Tryz.prog 133 189 5:=fun B b bs s w h hl hB=>Any.Builder_WriteString { Tryz.lays105 with } Tryz.Builder_Extra_105 B b bs s w h hl hB
theorem tells:Tells Tryz.prog 134 189 5:=fun B b l w h hB=>Any.Builder_String_any { Tryz.lays105 with } Tryz.Builder_Extra_105 B b l w h hB
end Go.Eng
namespace Go.Eng
open Go.Proofs Go.RowKit
theorem ZFx (l:List UInt8) (c:Nat):Lib.repeatL l c=(List.replicate c l).flatten:=by
 induction c with
 | zero=>rfl
 | succ c ih=>simp [Lib.repeatL,List.replicate_succ,ih]
theorem Z1v {b:World} {a:Zb} (hv:VIn a b) {f:List Value} {s:List UInt8} (k:Rep.rel ZYa a f s) {g:List Value} {c:Int} (l:Rep.rel (Zd .i64) a g c) {z:List UInt8} (hm:ZCg s c=some z) :
  Ret Tryz.prog 132 #[ZYa.val f,(Zd .i64).val g] b a (fun y v'=>∃ h,y=ZYa.val h∧ZYa.rel v' h z):=by
 obtain ⟨rfl,hs⟩:=k;obtain ⟨rfl,hc⟩:=l;unfold ZCg at hm;split at hm
 ·rename_i hh
  cases hm
  obtain ⟨C,rfl⟩:=Int.eq_ofNat_of_zero_le hh.1;have hc:=ZRa.1 hc;have d:=hh.2;rw [Int.toNat_natCast] at d;have:=Any.strings_Repeat Tryz.lays105 Tryz.Builder_Extra_105 (Zt s) C b (by omega) (by rw [ZPc];exact d);refine Calls.mono this fun e w' ⟨i,j⟩=>?_;have m:(⟨(Lib.repeatL (Zt s).data.toList C).toArray⟩:ByteArray)=Zt (List.replicate C s).flatten:=by
   rw [ZFx];rfl
  rw [m] at i;exact ⟨_,a,i,j,VStep.ext hv j,[.string (Zt (List.replicate C s).flatten)],rfl,rfl,by simp only [Int.toNat_natCast];rw [List.length_flatten];simp;unfold maxLen;rw [Nat.mul_comm] at d;omega⟩
 ·cases hm
theorem text_w {e:World} {c:Zb} (hv:VIn c e) {c0:List Value} {a:Nat} (p0:Rep.rel Zv c c0 a) {z:(List UInt8)} (H:Zih a=some z):Ret Tryz.prog 89 #[Zv.val c0] e c (fun y v'=>∃ r0,y=ZYa.val r0∧ZYa.rel v' r0 z):=by
 obtain ⟨q1,n2,k3,rfl⟩:=ZDa p0;refine Zmi (K:=49) (args:=[.slice q1 n2 k3]) hv Tryz.func89 rfl rfl zl fun f S=>?_;unfold Zih at H;refine sr (mw S rfl fun f S=>oe (sr ?_));have S:=S.nilLoc 9 1;refine ov S rfl (Zed S (y:=.slice (mkA none) 0 0) rfl) fun f S=>oe (Zz fun _ ar=>?_);obtain ⟨au,av,ax⟩:=Zfa H;refine ZHc (fun f w=>∃ o F s G U I,o=au∧Zb.le c I∧St 49 e c [(3,.slice (mkA F) s G)] [Loc.own F 9 1 s G U] I f w∧Rep.rels ZYa I U o∧s=o.length) (fun _ ay=>?_) ?_
 ·have H:=av;refine wp_block ?_;obtain ⟨bt,az,aA⟩:=Zfa H;refine ZKd az (fun aB f w=>∃ J g L M N p h q k t,(J,g)=aB∧Zb.le c t∧St 49 e c [(0,.slice L M N),(3,.slice (mkA p) h q)] [Loc.own p 9 1 h q k] t f w∧Rep.rel Zv t [.slice L M N] J∧Rep.rels ZYa t k g∧h=g.length) ⟨_,_,_,_,_,none,0,0,[],_,rfl,(leR _),(S.fr' rfl),p0,ZPe,rfl⟩ ?_;rintro _ f w st ⟨J,g,L,M,N,p,h,q,k,t,hq,ac,S,ad,d,ae⟩ H bu aC aD;subst hq;refine Zz fun _ aE=>sr (mv S rfl fun f S=>ov S rfl (ZZb S (ZXa ad) rfl rfl Zba) fun f S=>ov S rfl (ZB S rfl rfl Zrf) fun f S=>oe ?_);rcases Ztb (decide ((0:Int)<(((Zc 18446744073709551616 J)).length:Int))) with u | u
  ·have H:=Zpb H u;refine Zeb S rfl u (wp_skip (Zp (aE _ _ (wp_block (Zz fun _ aF=>bO H fun O aG H=>ZV (mv S rfl fun f S=>opc S rfl (Zpa S [.slice L M N,.int .u64 10000000000000000000] Z4q rfl rfl) (Zat S.vin ad (show Rep.rel (Zd .u64) _ [.int .u64 10000000000000000000] (10000000000000000000:Int) from (Z5 (by decide))) aG) ?_))))));rintro _ bv f w af ⟨bw,bx,rfl,m,aH⟩ S;have d:=ZN af d;obtain ⟨aI,aJ,aK,rfl⟩:=ZDa m;obtain ⟨rfl,aL⟩:=aH;refine mv S rfl fun f S=>ov S rfl (Zva S rfl rfl) fun f S=>ov S rfl (Zva S rfl rfl) fun f S=>mw S rfl fun f S=>mw S rfl fun f S=>ZO (Zp (aF _ _ (Zz fun _ aM=>bO H fun bz aN H=>ZV (mv S rfl fun f S=>opc S rfl (Zpa S [.int .u64 (O.2)] k_en131 rfl rfl) (Z7w S.vin (show Rep.rel (Zd .u64) _ [.int .u64 (O.2)] O.2 from (Z5 aL)) aN) ?_))));rintro _ aO f w V ⟨bA,rfl,aP⟩ S;have d:=ZN V d;obtain ⟨rfl,aQ⟩:=aP;refine mw S rfl fun f S=>ZO (Zp (aM _ _ (Zz fun _ aR=>sr (mv S rfl fun f S=>?_))));have m:=ZAa V m;refine ov S rfl (ZZb S (ZXa m) rfl rfl Zba) fun f S=>ov S rfl (ZB S rfl rfl Zrf) fun f S=>oe ?_;obtain ⟨aS,aT,aU⟩:=Zfa H;refine ZHc (fun f w=>∃ b P,b=aS∧Zb.le aO P∧St 49 e c [(3,.slice (mkA p) h q),(4,.slice aI aJ aK),(6,.string (Zt b))] [Loc.own p 9 1 h q k] P f w∧b.length≤maxLen) (fun _ ag=>?_) ?_
   ·have H:=aT;rcases Ztb (decide ((0:Int)<(((Zc 18446744073709551616 O.1)).length:Int))) with v | v
    ·have H:=Zpb H v;refine Zeb S rfl v (bO H fun W ah H=>bO H fun bB aV H=>bO H fun bC ai H=>ZV (mv S rfl fun f S=>ov S rfl (Zxo S rfl rfl Tryz.underlying9) fun f S=>ov S rfl (ZB S rfl rfl (ZDb ah)) fun f S=>opc S rfl (Zpa S [.string (Zt (([48]:List UInt8))),.int .i64 W] k_en132 rfl rfl) (Z1v S.vin (show Rep.rel ZYa _ [.string (Zt (([48]:List UInt8)))] (([48]:List UInt8)) from (Zmh zl)) (show Rep.rel (Zd .i64) _ [.int .i64 W] W from (Z5 (Zyb ah).2)) aV) ?_));rintro _ bD f w aj ⟨bE,rfl,aW⟩ S;have d:=ZN aj d;obtain ⟨rfl,bG⟩:=aW;refine mv S rfl fun f S=>ov S rfl (Zij S rfl rfl (Z4s ai)) fun f S=>mw S rfl fun f S=>ZO ?_;obtain rfl:=ZK H;refine Zp (ag _ _ ⟨_,_,rfl,(leT (leR _) aj),(S.fr' rfl),(Z5j ai)⟩)
    have H:=Zgb H v;refine ZIa S rfl v (wp_skip ?_);obtain rfl:=ZK H;refine Zp (ag _ _ ⟨_,_,rfl,(leR _),(S.fr' rfl),aQ⟩)
   rintro f w ⟨b,P,hq,X,S,aX⟩;subst hq;have H:=aU;have d:=ZN X d;refine Zp (aR _ _ (bO H fun bH aY H=>ZV (mv S rfl fun f S=>mv S rfl fun f S=>?_)));obtain ⟨bI,w,aZ,S⟩:=Zpg S (n:=1) (cs:=[.string (Zt b)]) (vals:=[(0,.string (Zt b))]) (sz:=1) rfl (by decide) (ZTo Z2q (x:=.string (Zt b)) (cs:=[.string (Zt b)]) rfl rfl (by decide));have Y:Rep.rels ZYa P [.string (Zt b)] [b]:=(ZPr (Zmh aX) ZPe);refine Zwc wn rfl zl (aZ rfl) S fun f S=>?_;have a0:=S;obtain ⟨ak,al,w,a1,S⟩:=Z7j (ty:=181) Z2q S (i:=1) (n':=(g++[b]).length) rfl (Z3d Y rfl) (ZLg S (j:=0) rfl) (Zkg Y) (appN ae rfl) (ZWd aY) (by decide);have a2:=Z2b d Y;refine Zwc wn rfl zl (ZQd a0 rfl rfl a1) S fun f S=>mv S rfl fun f S=>mw S rfl fun f S=>mw S rfl fun f S=>ZO (Zyd ?_);obtain rfl:=ZK H;have S:=S.reorder (ℓ':=[Loc.own ak 9 1 ((g++[b]).length) al ((k++[.string (Zt b)]))]) [1] rfl (by decide);have m:=ZAa X m;refine aC _ rfl _ _ ⟨_,_,_,_,_,ak,(g++[b]).length,al,(k++[.string (Zt b)]),_,rfl,(leT (leT (leT ac af) V) X),(S.fr' rfl),m,a2,rfl⟩
  have H:=Zgb H u;refine ZIa S rfl u (wp_exit (ZZa ?_));obtain rfl:=ZK H;have hq:=aD _ rfl;subst hq;have H:=aA;refine ZZa (Zwd ?_);obtain rfl:=ZK H;refine Zp (ay _ _ ⟨_,p,h,q,k,_,rfl,(leT (leR _) ac),(S.fr' rfl),d,ae⟩)
 rintro f w ⟨o,F,s,G,U,I,hq,bJ,S,a3,am⟩;subst hq;have H:=ax;refine Zp (ar _ _ (Zz fun _ a4=>sr (mv S rfl fun f S=>ov S rfl (ZZb S am rfl rfl ZKn) fun f S=>ov S rfl (ZB S rfl rfl Z3f) fun f S=>oe ?_)));rcases Ztb (((o.length:Int))==(0:Int)) with B | B
 ·have H:=Zpb H B;refine Zeb S rfl B (sr (mw S rfl fun f S=>oe (wp_ret (ZLh ?_))));obtain rfl:=ZK H;refine Zpf S (ZDc rfl (ZSa S rfl)) ⟨[.string (Zt (([48]:List UInt8)))],rfl,(Zmh zl)⟩
 have H:=Zgb H B;refine ZIa S rfl B (wp_skip (Zp (a4 _ _ (sr ?_))));obtain ⟨an,bK,S,C⟩:=S.pubSlice (i:=0) (A:=ZYa) (l:=o) (ℓ':=[]) rfl rfl am a3 rfl;refine op_newB 5 S wn rfl zl (ZXm k_zv189) fun r f w S a5=>oe (Zz fun _ a6=>Zz fun _ a7=>bO H fun bM ao H=>ZV (mv S rfl fun f S=>ov S rfl (ZZb S (ZXa C) rfl rfl ZKn) fun f S=>ov S rfl (ZB S rfl rfl (ZDb ao)) fun f S=>mw S rfl fun f S=>ZO (Zp (a7 _ _ ?_))));obtain ⟨a8,a9,ba⟩:=Zfa H;refine ZHc (fun f w=>∃ Q R,Q=a8∧Zb.le an R∧St 49 e c [(7,.pointer (some ⟨r,0,none⟩))] [] R f w∧Bld 189 5 r e R Q w) (fun _ bb=>?_) ?_
 ·have H:=a9;refine wp_block ?_;obtain ⟨bP,bc,bd⟩:=Zfa H;refine ZKd bc (fun be f w=>∃ Z D T,(Z,D)=be∧Zb.le an T∧St 49 e c [(3,.slice (mkA F) s G),(7,.pointer (some ⟨r,0,none⟩)),(8,.int .i64 D)] [] T f w∧Bld 189 5 r e T Z w∧inR .i64 D) ⟨_,_,_,rfl,(leR _),(S.fr' rfl),a5,(Zyb ao).2⟩ ?_;rintro _ f w st ⟨Z,D,T,hq,aa,S,ap,bQ⟩ H bR bf bg;subst hq;refine Zz fun _ bh=>sr (mv S rfl fun f S=>ov S rfl (ZB S rfl rfl ZWk) fun f S=>oe ?_);rcases Ztb (decide ((0:Int)≤D)) with E | E
  ·have H:=Zpb H E;refine Zeb S rfl E (wp_skip (Zp (bh _ _ (Zz fun _ bi=>wp_block (bO H fun bj ab H=>bO H fun bS bk H=>ZV (mv S rfl fun f S=>mv S rfl fun f S=>?_))))));have C:=ZAa aa C;obtain ⟨_,bT,bU,bV,bm,bn,bo⟩:=Zgc C (Zo ab).2.1;obtain ⟨rfl,rfl⟩:=ZQt bm;obtain ⟨rfl,bW⟩:=bo;refine ov S rfl (Zla S rfl rfl ZKn (Zo ab).1 (ltI (ZXa C) (Zo ab).2.2.1)) fun f S=>ov S rfl (Z9a S rfl k_sz9 (S.view bn)) fun f S=>Zcw writes ap (Zvu bk) S wn rfl zl (Zpa S [.pointer (some ⟨r,0,none⟩),.string (Zt bj)] k_en133 rfl rfl) fun f w S bp=>ZO (Zyd (Zp (bi _ _ (bO H fun bX aq H=>ZV (mv S rfl fun f S=>ov S rfl (ZB S rfl rfl (ZDb aq)) fun f S=>mw S rfl fun f S=>ZO ?_)))));obtain rfl:=ZK H;refine bf _ rfl _ _ ⟨_,_,_,rfl,aa,(S.fr' rfl),bp,(Zyb aq).2⟩
  have H:=Zgb H E;refine ZIa S rfl E (wp_exit (ZZa ?_));obtain rfl:=ZK H;have hq:=bg _ rfl;subst hq;have H:=bd;refine ZZa (Zwd ?_);obtain rfl:=ZK H;refine Zp (bb _ _ ⟨_,_,rfl,(leT (leR _) aa),(S.fr' rfl),ap⟩)
 rintro f w ⟨Q,R,hq,bY,S,bq⟩;subst hq;have H:=ba;refine Zp (a6 _ _ (Zz fun _ br=>bO H fun bZ bs H=>ZV (op_tell tells bq S wn rfl zl (Zpa S [.pointer (some ⟨r,0,none⟩)] k_en134 rfl rfl) fun f w S=>mw S rfl fun f S=>ZO (Zp (br _ _ (wp_ret ?_))))));obtain rfl:=ZK H;refine Zpf S (ZDc rfl (ZSa S rfl)) ⟨[.string (Zt Q)],rfl,(Zmh (Z5j bs))⟩
theorem text_c {c:World} {b:Zb} (hv:VIn b c) {d:List Value} {a:Nat} (f:Rep.rel Zv b d a) {z:(List UInt8)} (hm:ZUf a=some z) :
  Ret Tryz.prog 89 #[Zv.val d] c b (fun y v'=>∃ e,y=ZYa.val e∧ZYa.rel v' e z) :=
 text_w hv f (ZKv hm)
end Go.Eng
set_option maxRecDepth 100000
set_option maxHeartbeats 4000000
namespace Go.Eng
open Go.Proofs Go.RowKit
noncomputable def Zem:FuncId×Con:=(89,⟨[.leaf 0],[.str],fun p=>ZUf p⟩)
theorem text_k:Zme Tryz.prog Zem.1 Zem.2:=fun w v vals x z hv ha hz=>by
 obtain ⟨c0,e0,p0⟩:=ha;subst e0
 exact .inl ⟨fun _ _=>by kernel_rfl,Ret.mono (text_c hv p0 hz) fun y v' _ ⟨r0,e,h0⟩=>⟨r0,e,h0⟩⟩
end Go.Eng
set_option maxRecDepth 100000
set_option maxHeartbeats 4000000
namespace Go.Eng
open Go.Proofs Go.RowKit
noncomputable def ZEm:FuncId×Con:=(40,⟨[.leaf 3],[.str],fun p=>ZQh p⟩)
theorem Z9r:KQ ZEm:=Zj (Zy (C:=cf0 [Zem] [] [] []) (.n (.n (.two (.n (.j [1] [] [.s 3 (.dat .str)] .no)) (.f (.n (.j [] [] [.s 3 (.dat .str)] .no)))))) Tryz.func40 [] (fun v vals x z ha hz=>.trans (by kernel_rfl) (ZMt hz)) ⟨text_k,tr⟩)
noncomputable def ZGr (x:Rat):Option ((List UInt8)) :=
 bnd (ZRg x.num.natAbs) fun b =>
 bnd (ifb (decide (x.num<0))
 (bnd (Zvd x) fun d =>
 some (!(d)))
 (some false))
 (fun (e:Bool) =>
 (bnd (ifb (e)
 (bnd (Zdb ((([45]:List UInt8))++b)) fun j =>
 some (((([45]:List UInt8))++b)))
 (some b))
 (fun (a:(List UInt8)) =>
 (bnd (Zdd x) fun f =>
 bnd (ZGb ([(1:Int)])) fun g =>
 bnd (ZQc f g) fun h =>
 bnd (ifb (decide ((0:Int)<h))
 (bnd (Zdb (a++(([47]:List UInt8)))) fun k =>
 bnd (ZRg x.den) fun c =>
 bnd (Zdb (((a++(([47]:List UInt8))))++c)) fun l =>
 some ((((a++(([47]:List UInt8))))++c)))
 (some a))
 (fun (i:(List UInt8)) =>
 (some i))))))
end Go.Eng
set_option maxRecDepth 100000
set_option maxHeartbeats 4000000
namespace Go.Eng
open Go.Proofs Go.RowKit
noncomputable def ZJl:FuncId×Con:=(151,⟨[.leaf 4],[.bool],fun p=>Zvd p⟩)
theorem ZIq:KQ ZJl:=Zj (Zy (C:=cf2 [(95,1),(97,4)] []) .no Tryz.func151 [] (fun v vals x z ha hz=>.trans (by kernel_rfl) (Z2u hz)))
end Go.Eng
set_option maxRecDepth 100000
set_option maxHeartbeats 4000000
namespace Go.Eng
open Go.Proofs Go.RowKit
noncomputable def Zoj:FuncId×Con:=(183,⟨[.leaf 4],[.leaf 1],fun p=>Zdd p⟩)
theorem ZNk:KQ Zoj:=Zj (Zy (C:=cf2 [(95,1),(97,4)] []) .no Tryz.func183 [] (fun v vals x z ha hz=>.trans (by kernel_rfl) (Zfx hz)))
end Go.Eng
set_option maxRecDepth 100000
set_option maxHeartbeats 4000000
namespace Go.Eng
open Go.Proofs Go.RowKit
noncomputable def Zzo:FuncId×Con:=(186,⟨[.leaf 1],[.str],fun p=>ZRg p⟩)
theorem Ztu:KQ Zzo:=Zj (Zy (C:=cf2 [(95,1),(97,4)] [ZVk]) (.n (.n (.f (.j [] [] [.s 3 (.dat .str)] (.f (.l [] [] [.s 0 (.dat (.leaf 1)),.s 3 (.dat .str)] 0 [] [] [.s 3 (.dat .str)] (.f (.n (.f (.n (.f (.n (.j [4] [] [.s 3 (.dat .str)] (.f (.l [4] [] [.s 3 (.dat .str),.s 5 (.dat (.int .u32)),.s 6 (.dat (.int .i64))] 2 [4] [] [.s 3 (.dat .str)] (.f (.f (.f (.j [3,4,5,6] [] [.s 25 (.dat .bool)] .no))))))))))))))))))) Tryz.func186 [] (fun v vals x z ha hz=>.trans (by kernel_rfl) (Z8x hz)) ⟨Z2s,tr⟩)
theorem ZZv {x:Rat} {z:List UInt8} (h:ZXi x=some z):ZGr x=some z:=by
 unfold ZXi at h;split at h
 ·rename_i hh;obtain ⟨h1,h2⟩:=hh
  cases h
  unfold ZGr ZRg;have l1:=ZKi (n:=x.num.natAbs) (by omega);have l2:=ZKi (n:=x.den) (by omega);rw [if_pos (ZFf h1),Za];have e0:ifb (decide (x.num<0)) (bnd (Zvd x) fun y136=>some (!(y136))) (some false)=some (decide (x.num<0)):=by
   unfold Zvd;by_cases h:x.num<0
   ·have:x≠0:=fun e=>by subst e;simp at h
    rw [decide_eq_true h,Ze,Za,decide_eq_false this];rfl
   ·rw [decide_eq_false h,Zf]
  rw [e0,Za];have e1:ifb (decide (x.num<0)) (bnd (Zdb ([45]++ZEa x.num.natAbs)) fun y80=>some (([45]:List UInt8)++ZEa x.num.natAbs)) (some (ZEa x.num.natAbs))=some ((if x.num<0 then [45] else [])++ZEa x.num.natAbs):=by
   by_cases h:x.num<0
   ·rw [decide_eq_true h,Ze,Zie (by simp;omega),Za,if_pos h]
   ·rw [decide_eq_false h,Zf,if_neg h];rfl
  rw [e1,Za];unfold txtQ Zdd ZQc;have l3:((if x.num<0 then [45] else [])++ZEa x.num.natAbs:List UInt8).length≤4398046511105:=by
   rw [List.length_append];split <;> simp <;> omega
  generalize ((if x.num<0 then [45] else [])++ZEa x.num.natAbs:List UInt8)=s at *;rw [Za,ZUl,Za,Za,Zrs];by_cases hd:x.den=1
  ·rw [hd];simp [ifb,bnd]
  ·have:=x.den_nz;rw [decide_eq_true (by omega),Ze,Zie (by simp;omega),Za,if_pos (ZFf h2),Za,Zie (by simp;omega),Za,Za,if_neg hd];simp
 ·cases h
end Go.Eng
set_option maxRecDepth 100000
set_option maxHeartbeats 4000000
namespace Go.Eng
open Go.Proofs Go.RowKit
noncomputable def ZXo:FuncId×Con:=(161,⟨[.leaf 4],[.str],fun p=>ZXi p⟩)
theorem rtext_k:KQ ZXo:=Zj (Zy (C:=cf2 [(95,1),(97,4)] [ZJl,Zoj,Zkj,Zzo]) (.n (.n (.two (.two (.j [1,3] [] [.s 13 (.dat .bool)] .no) (.j [1] [] [.s 3 (.dat .str)] .no)) (.f (.n (.j [] [] [.s 3 (.dat .str)] .no)))))) Tryz.func161 [] (fun v vals x z ha hz=>.trans (by kernel_rfl) (ZZv hz)) ⟨ZIq,ZNk,ZHn,Ztu,tr⟩)
end Go.Eng
set_option maxRecDepth 100000
set_option maxHeartbeats 4000000
namespace Go.Eng
open Go.Proofs Go.RowKit
noncomputable def is1_q:FuncId×Con:=(128,⟨[.leaf 3,.leaf 4],[.bool],fun p=>is1_m p.1 p.2⟩)
theorem is1_k:KQ is1_q:=Zj (ZF (C:=cf0 [ZEm,ZXo] [] [] []) .no Tryz.func128 [] (fun _=>by kernel_rfl) ⟨Z9r,rtext_k,tr⟩)
end Go.Eng
set_option maxRecDepth 100000
set_option maxHeartbeats 4000000
namespace Go.Eng
open Go.Proofs Go.RowKit
noncomputable def ZSp:FuncId×Con:=(117,⟨[.pair (.leaf 4) (.pair (.leaf 4) (.pair (.leaf 4) (.leaf 4)))],[.bool],fun p=>Zzl p⟩)
theorem sZero_k:KQ ZSp:=Zj (ZF (C:=cf0 [ZJl] [] [] []) (.n (.f (.j [] [] [.s 2 (.dat .bool)] .no))) Tryz.func117 [] (fun _=>by kernel_rfl) ⟨ZIq,tr⟩)
end Go.Eng
set_option maxRecDepth 100000
set_option maxHeartbeats 4000000
namespace Go.Eng
open Go.Proofs Go.RowKit
noncomputable def Zso:FuncId×Con:=(162,⟨[.pair (.pair (.leaf 4) (.pair (.leaf 4) (.pair (.leaf 4) (.leaf 4)))) (.pair (.leaf 4) (.pair (.leaf 4) (.pair (.leaf 4) (.leaf 4))))],[.bool],fun p=>Z0s p⟩)
theorem wZero_k:KQ Zso:=Zj (ZF (C:=cf0 [ZSp] [] [] []) (.n (.f (.j [] [] [.s 2 (.dat .bool)] .no))) Tryz.func162 [] (fun _=>by kernel_rfl) ⟨sZero_k,tr⟩)
end Go.Eng
set_option maxRecDepth 100000
set_option maxHeartbeats 4000000
namespace Go.Eng
open Go.Proofs Go.RowKit
noncomputable def ZWs:FuncId×Con:=(178,⟨[.leaf 1,.leaf 1],[.leaf 1],fun p=>Zrg p.1 p.2⟩)
theorem rsum_k:KQ ZWs:=Zj (Zy (C:=cf2 [(95,1),(97,4)] [ZId]) (.n (.n (.n (.f (.n (.j [] [] [.s 5 (.own 196 (.int .u32)),.s 6 (.dat (.int .u64))] (.f (.l [0,1] [] [.s 5 (.own 196 (.int .u32)),.s 6 (.dat (.int .u64)),.s 7 (.dat (.int .i64))] 0 [] [] [.s 5 (.own 196 (.int .u32)),.s 6 (.dat (.int .u64))] (.f (.two (.f (.j [0,1,5,6,7] [] [.s 18 (.dat .bool)] .no)) (.f (.f (.two (.n (.j [0,1,5,7] [] [.s 6 (.dat (.int .u64))] .no)) (.f (.n (.j [0,1,5,7] [] [.s 6 (.dat (.int .u64))] .no)))))))))))))))) Tryz.func178 [] (fun v vals x z ha hz=>.trans (by kernel_rfl) (Z9x hz)) ⟨ZSe,tr⟩)
theorem radd_eq {x y:Rat} (h:smQ x) (h':smQ y):ZRl x y=some (x+y):=by
 obtain ⟨a1,a2⟩:=h;obtain ⟨b1,b2⟩:=h';unfold ZRl Zdd;have p1:=Zfb x.num.natAbs y.den;have p2:=Zfb y.num.natAbs x.den;have p3:=Zfb x.den y.den;have p4:=ZTm (x.num.natAbs*y.den) (y.num.natAbs*x.den);have hd:x.den*y.den≠0:=Nat.mul_ne_zero x.den_nz y.den_nz;have e1:Zmb x.num.natAbs y.den=some (x.num.natAbs*y.den):=by unfold Zmb;rw [if_pos ⟨Z6c (by omega),Z6c (by omega)⟩]
 have e2:Zmb y.num.natAbs x.den=some (y.num.natAbs*x.den):=by unfold Zmb;rw [if_pos ⟨Z6c (by omega),Z6c (by omega)⟩]
 have e3:Zmb x.den y.den=some (x.den*y.den):=by unfold Zmb;rw [if_pos ⟨Z6c (by omega),Z6c (by omega)⟩]
 have eN:((x.num.natAbs*y.den:Nat):Int)=(x.num.natAbs:Int)*y.den:=by simp
 have eM:((y.num.natAbs*x.den:Nat):Int)=(y.num.natAbs:Int)*x.den:=by simp
 have key:∀ (s:Bool) (n:Nat),bl n≤1099511627776→sgn s n=x.num*y.den+y.num*x.den→ZMb s n (x.den*y.den)=some (x+y):=by
  intro s n hn he;unfold ZMb;rw [if_pos ⟨ZFf hn,ZFf (by omega),hd⟩,he,← Rat.add_def']
 rw [Za,Za,e1,Za,e2,Za,e3];obtain ⟨N,hN⟩:∃ N,N=x.num.natAbs*y.den:=⟨_,rfl⟩;obtain ⟨M,hM⟩:∃ M,M=y.num.natAbs*x.den:=⟨_,rfl⟩;rw [← hN] at p1 p4 eN ⊢;rw [← hM] at p2 p4 eM ⊢;have sx:x.num*(y.den:Int)=if x.num<0 then -(N:Int) else N:=by
  split
  ·rw [eN,← Int.neg_mul];congr 1;omega
  ·rw [eN];congr 1;omega
 have sy:y.num*(x.den:Int)=if y.num<0 then -(M:Int) else M:=by
  split
  ·rw [eM,← Int.neg_mul];congr 1;omega
  ·rw [eM];congr 1;omega
 by_cases hs:(x.num<0)↔(y.num<0)
 ·have e4:Zrg N M=some (N+M):=by unfold Zrg;rw [if_pos ⟨Z6c (by omega),Z6c (by omega)⟩]
  have e5:((decide (x.num<0))==(decide (y.num<0)))=true:=by
   by_cases h:x.num<0
   ·simp [h,hs.1 h]
   ·have h2:¬ y.num<0:=fun k=>h (hs.2 k);simp [h,h2]
  rw [e5,Ze,e4,Za,Za,key _ _ (by omega) ?_,Za];rw [sx,sy];unfold sgn;by_cases h:x.num<0
  ·have h2:=hs.1 h;simp [h,h2];omega
  ·have h2:¬ y.num<0:=fun k=>h (hs.2 k);simp [h,h2]
 ·have e5:((decide (x.num<0))==(decide (y.num<0)))=false:=by
   apply beq_false_of_ne;intro h;exact hs (by by_cases k:x.num<0 <;> by_cases k2:y.num<0 <;> simp_all)
  rw [e5,Zf];unfold ZQc;rw [Za];by_cases hle:M≤N
  ·have e6:decide ((0:Int)≤Z8 N M)=true:=by
    unfold Z8;rw [if_neg (by omega)];split <;> rfl
   have e4:ZFb N M=some (N-M):=by unfold ZFb;rw [if_pos ⟨Z6c (by omega),hle⟩]
   have hb:bl (N-M)≤bl N:=ZRd (by omega);rw [e6,Ze,e4,Za,Za,key _ _ (by omega) ?_,Za];rw [sx,sy];unfold sgn;by_cases h:x.num<0
   ·have h2:¬ y.num<0:=fun k=>hs ⟨fun _=>k,fun _=>h⟩;simp [h,h2];omega
   ·have h2:y.num<0:=by
     rcases Int.lt_or_le y.num 0 with k | k
     ·exact k
     ·exact absurd ⟨fun q=>absurd q h,fun q=>absurd q (by omega)⟩ hs
    simp [h,h2];omega
  ·have e6:decide ((0:Int)≤Z8 N M)=false:=by
    unfold Z8;rw [if_pos (by omega)];rfl
   have e4:ZFb M N=some (M-N):=by unfold ZFb;rw [if_pos ⟨Z6c (by omega),by omega⟩]
   have hb:bl (M-N)≤bl M:=ZRd (by omega);rw [e6,Zf,e4,Za,Za,key _ _ (by omega) ?_,Za];rw [sx,sy];unfold sgn;by_cases h:x.num<0
   ·have h2:¬ y.num<0:=fun k=>hs ⟨fun _=>k,fun _=>h⟩;simp [h,h2];omega
   ·have h2:y.num<0:=by
     rcases Int.lt_or_le y.num 0 with k | k
     ·exact k
     ·exact absurd ⟨fun q=>absurd q h,fun q=>absurd q (by omega)⟩ hs
    simp [h,h2];omega
theorem Z1u {x y z:Rat} (h:Zjf x y=some z):ZRl x y=some z:=by
 unfold Zjf at h;split at h
 ·rename_i hh;rw [radd_eq hh.1 hh.2,h]
 ·cases h
end Go.Eng
set_option maxRecDepth 100000
set_option maxHeartbeats 4000000
namespace Go.Eng
open Go.Proofs Go.RowKit
noncomputable def ZKs:FuncId×Con:=(159,⟨[.leaf 4,.leaf 4],[.leaf 4],fun p=>Zjf p.1 p.2⟩)
theorem radd_k:KQ ZKs:=Zj (Zy (C:=cf2 [(95,1),(97,4)] [Zhh,ZWs,Zul,Zoj,Zkj,ZBn]) .no Tryz.func159 [] (fun v vals x z ha hz=>.trans (by kernel_rfl) (Z1u hz)) ⟨Zyk,rsum_k,Zzq,ZNk,ZHn,ZNq,tr⟩)
end Go.Eng
set_option maxRecDepth 100000
set_option maxHeartbeats 4000000
namespace Go.Eng
open Go.Proofs Go.RowKit
noncomputable def Z2n:FuncId×Con:=(123,⟨[.pair (.leaf 4) (.pair (.leaf 4) (.pair (.leaf 4) (.leaf 4))),.pair (.leaf 4) (.pair (.leaf 4) (.pair (.leaf 4) (.leaf 4)))],[.pair (.leaf 4) (.pair (.leaf 4) (.pair (.leaf 4) (.leaf 4)))],fun p=>ZYq p.1 p.2⟩)
theorem sAdd_k:KQ Z2n:=Zj (ZF (C:=cf0 [ZKs] [] [] []) .no Tryz.func123 [] (fun _=>by kernel_rfl) ⟨radd_k,tr⟩)
theorem rneg_eq {x:Rat} (h:okQ x):ZDl x=some (-x):=by
 obtain ⟨h1,h2⟩:=h;unfold ZDl Zdd ZMb;rw [Za,if_pos ⟨ZFf h1,ZFf h2,x.den_nz⟩,Za];congr 1;have e:sgn (!(decide (x.num<0))) x.num.natAbs = -x.num:=by
  unfold sgn;by_cases h:x.num<0
  ·simp [h];omega
  ·simp [h];omega
 rw [e];exact Rat.mkRat_self (-x)
theorem ZTw {x z:Rat} (h:Zyf x=some z):ZDl x=some z:=by
 unfold Zyf at h;split at h
 ·rename_i hh;rw [rneg_eq hh,h]
 ·cases h
end Go.Eng
set_option maxRecDepth 100000
set_option maxHeartbeats 4000000
namespace Go.Eng
open Go.Proofs Go.RowKit
noncomputable def Zap:FuncId×Con:=(160,⟨[.leaf 4],[.leaf 4],fun p=>Zyf p⟩)
theorem rneg_k:KQ Zap:=Zj (Zy (C:=cf2 [(95,1),(97,4)] [Zhh,Zoj]) .no Tryz.func160 [] (fun v vals x z ha hz=>.trans (by kernel_rfl) (ZTw hz)) ⟨Zyk,ZNk,tr⟩)
end Go.Eng
set_option maxRecDepth 100000
set_option maxHeartbeats 4000000
namespace Go.Eng
open Go.Proofs Go.RowKit
noncomputable def ZDq:FuncId×Con:=(124,⟨[.pair (.leaf 4) (.pair (.leaf 4) (.pair (.leaf 4) (.leaf 4)))],[.pair (.leaf 4) (.pair (.leaf 4) (.pair (.leaf 4) (.leaf 4)))],fun p=>Z0o p⟩)
theorem sNeg_k:KQ ZDq:=Zj (ZF (C:=cf0 [Zap] [] [] []) .no Tryz.func124 [] (fun _=>by kernel_rfl) ⟨rneg_k,tr⟩)
end Go.Eng
set_option maxRecDepth 100000
set_option maxHeartbeats 4000000
namespace Go.Eng
open Go.Proofs Go.RowKit
noncomputable def ZRp:FuncId×Con:=(80,⟨[.pair (.leaf 4) (.pair (.leaf 4) (.pair (.leaf 4) (.leaf 4))),.pair (.leaf 4) (.pair (.leaf 4) (.pair (.leaf 4) (.leaf 4)))],[.pair (.leaf 4) (.pair (.leaf 4) (.pair (.leaf 4) (.leaf 4)))],fun p=>Zvl p.1 p.2⟩)
theorem sSub_k:KQ ZRp:=Zj (ZF (C:=cf0 [Z2n,ZDq] [] [] []) .no Tryz.func80 [] (fun _=>by kernel_rfl) ⟨sAdd_k,sNeg_k,tr⟩)
end Go.Eng
set_option maxRecDepth 100000
set_option maxHeartbeats 4000000
namespace Go.Eng
open Go.Proofs Go.RowKit
noncomputable def Z5o:FuncId×Con:=(163,⟨[.pair (.pair (.leaf 4) (.pair (.leaf 4) (.pair (.leaf 4) (.leaf 4)))) (.pair (.leaf 4) (.pair (.leaf 4) (.pair (.leaf 4) (.leaf 4)))),.pair (.pair (.leaf 4) (.pair (.leaf 4) (.pair (.leaf 4) (.leaf 4)))) (.pair (.leaf 4) (.pair (.leaf 4) (.pair (.leaf 4) (.leaf 4))))],[.pair (.pair (.leaf 4) (.pair (.leaf 4) (.pair (.leaf 4) (.leaf 4)))) (.pair (.leaf 4) (.pair (.leaf 4) (.pair (.leaf 4) (.leaf 4))))],fun p=>ZCs p.1 p.2⟩)
theorem wSub_k:KQ Z5o:=Zj (ZF (C:=cf0 [ZRp] [] [] []) .no Tryz.func163 [] (fun _=>by kernel_rfl) ⟨sSub_k,tr⟩)
end Go.Eng
set_option maxRecDepth 100000
set_option maxHeartbeats 4000000
namespace Go.Eng
open Go.Proofs Go.RowKit
noncomputable def ZHo:FuncId×Con:=(129,⟨[.pair (.pair (.leaf 4) (.pair (.leaf 4) (.pair (.leaf 4) (.leaf 4)))) (.pair (.leaf 4) (.pair (.leaf 4) (.pair (.leaf 4) (.leaf 4)))),.pair (.pair (.leaf 4) (.pair (.leaf 4) (.pair (.leaf 4) (.leaf 4)))) (.pair (.leaf 4) (.pair (.leaf 4) (.pair (.leaf 4) (.leaf 4))))],[.bool],fun p=>ZNs p.1 p.2⟩)
theorem wSame_k:KQ ZHo:=Zj (ZF (C:=cf0 [Zso,Z5o] [] [] []) .no Tryz.func129 [] (fun _=>by kernel_rfl) ⟨wZero_k,wSub_k,tr⟩)
end Go.Eng
set_option maxRecDepth 100000
set_option maxHeartbeats 4000000
namespace Go.Eng
open Go.Proofs Go.RowKit
noncomputable def is2_q:FuncId×Con:=(88,⟨[.slice (.leaf 3),.slice (.pair (.pair (.leaf 4) (.pair (.leaf 4) (.pair (.leaf 4) (.leaf 4)))) (.pair (.leaf 4) (.pair (.leaf 4) (.pair (.leaf 4) (.leaf 4)))))],[.bool],fun p=>is2_m p.1 p.2⟩)
theorem is2_k:KQ is2_q:=Zj (ZF (C:=cf0 [ZQk,is1_q,ZHo] [] [] []) (.n (.n (.f (.n (.f (.cut ⟨⟨[0,1,12],[],[.s 13 (.dat (.int .i64))]⟩,[(.exit 0,⟨[],[],[]⟩),(.ret,⟨[],[],[.s 1000 (.dat .bool)]⟩)]⟩ (.f (.n (.n (.f (.f (.n (.f (.j [0,1,12,13] [] [.s 42 (.dat .bool)] .no)))))))))))))) Tryz.func88 [] (fun _=>by kernel_rfl) ⟨Z2r,is1_k,wSame_k,tr⟩)
end Go.Eng
set_option maxRecDepth 100000
set_option maxHeartbeats 4000000
namespace Go.Eng
open Go.Proofs Go.RowKit
noncomputable def Zys:FuncId×Con:=(39,⟨[.slice (.slice (.leaf 3)),.slice (.slice (.pair (.pair (.leaf 4) (.pair (.leaf 4) (.pair (.leaf 4) (.leaf 4)))) (.pair (.leaf 4) (.pair (.leaf 4) (.pair (.leaf 4) (.leaf 4))))))],[.bool],fun p=>ZGm p.1 p.2⟩)
theorem ZRu:KQ Zys:=Zj (ZF (C:=cf0 [is2_q] [] [] []) (.n (.n (.f (.n (.f (.cut ⟨⟨[0,1,12],[],[.s 13 (.dat (.int .i64))]⟩,[(.exit 0,⟨[],[],[]⟩),(.ret,⟨[],[],[.s 1000 (.dat .bool)]⟩)]⟩ .no)))))) Tryz.func39 [] (fun _=>by kernel_rfl) ⟨is2_k,tr⟩)
end Go.Eng
set_option maxRecDepth 100000
set_option maxHeartbeats 4000000
namespace Go.Eng
open Go.Proofs Go.RowKit
noncomputable def Zao:FuncId×Con:=(8,⟨[],[.bool],fun _=>ZBe⟩)
theorem ZQv:KQ Zao:=Zj (ZF (C:=cf0 [ZTl,Zon,ZOn,Z7s,ZYo,ZUn,Zys,ZEm] [] [] []) (.n (.n (.n (.n (.n (.n (.n (.n (.f (.j [] [] [.s 0 (.dat .bool)] .no)))))))))) Tryz.func8 [] (fun _=>by kernel_rfl) ⟨Znp,Z8q,Zkr,ZSu,Z0v,Zst,ZRu,Z9r,tr⟩)
end Go.Eng
set_option maxRecDepth 100000
set_option maxHeartbeats 4000000
namespace Go.Eng
open Go.Proofs Go.RowKit
noncomputable def Z5r:FuncId×Con:=(12,⟨[.pair (.slice (.slice (.leaf 3))) (.pair (.slice (.leaf 3)) (.slice (.leaf 3))),.slice (.leaf 3)],[.bool,.int .i64],fun p=>ZUi p.1 p.2⟩)
theorem Zyx:KQ Z5r:=Zj (ZF (C:=cf0 [ZDg,ZLm] [] [] []) (.n (.f (.f (.j [1,2] [] [.s 16 (.dat .bool)] .no)))) Tryz.func12 [] (fun _=>by kernel_rfl) ⟨ZAh,Zhr,tr⟩)
end Go.Eng
set_option maxRecDepth 100000
set_option maxHeartbeats 4000000
namespace Go.Eng
open Go.Proofs Go.RowKit
noncomputable def ZHq:FuncId×Con:=(13,⟨[.pair (.slice (.slice (.leaf 3))) (.pair (.slice (.leaf 3)) (.slice (.leaf 3))),.slice (.leaf 3)],[.leaf 3,.int .i64],fun p=>ZAi p.1 p.2⟩)
theorem ZKx:KQ ZHq:=Zj (ZF (C:=cf0 [ZDg,Zxh] [] [] []) (.n (.f (.f (.j [1,2,4] [] [.s 17 (.dat .bool)] .no)))) Tryz.func13 [] (fun _=>by kernel_rfl) ⟨ZAh,Znk,tr⟩)
end Go.Eng
set_option maxRecDepth 100000
set_option maxHeartbeats 4000000
namespace Go.Eng
open Go.Proofs Go.RowKit
noncomputable def ZXq:FuncId×Con:=(15,⟨[.pair (.slice (.slice (.leaf 3))) (.pair (.slice (.leaf 3)) (.slice (.leaf 3))),.slice (.leaf 3)],[.leaf 3,.bool],fun p=>Zif p.1 p.2⟩)
theorem ZTu:KQ ZXq:=Zj (ZF (C:=cf0 [ZDg,Zxh,Z2m] [] [] []) (.n (.f (.f (.j [1,2,4] [] [.s 15 (.dat .bool)] .no)))) Tryz.func15 [] (fun _=>by kernel_rfl) ⟨ZAh,Znk,Z8r,tr⟩)
end Go.Eng
set_option maxRecDepth 100000
set_option maxHeartbeats 4000000
namespace Go.Eng
open Go.Proofs Go.RowKit
noncomputable def Zdu:FuncId×Con:=(3,⟨[.slice (.slice (.pair (.int .i64) (.int .i64))),.slice (.pair (.int .i64) (.int .i64)),.slice (.pair (.int .i64) (.int .i64)),.pair (.slice (.pair (.int .i64) (.int .i64))) (.slice (.pair (.int .i64) (.int .i64))),.pair (.int .i64) (.int .i64)],[.bool],fun p=>Z2j p.1 p.2.1 p.2.2.1 p.2.2.2.1 p.2.2.2.2⟩)
theorem ZVu:KR Zdu:=ZF (C:=cf0 [ZWq,Zao,ZTl,Zmk,Zon,Z5r,ZHq,Zii,ZXq,Zrn,Zxk,Zvf,ZGn] [] [] []) (.n (.n (.two (.f (.j [0,1,2,9,11,12] [] [.s 78 (.dat .bool)] .no)) (.n (.n (.n (.n (.n (.n (.two (.f (.j [9,12,13,17] [] [.s 131 (.dat .bool)] .no)) (.two (.n (.f (.j [9,12,13,17] [] [.s 152 (.dat .bool)] .no))) (.n (.n (.two (.n (.f (.l [9,12,13,17,25,26,166,167] [] [.s 168 (.dat (.int .i64)),.l (.sl 26) (.box 32 (.agg (.cons (.dat (.slice (.slice (.leaf 3)))) (.cons (.dat (.slice (.leaf 3))) (.one (.own 47 (.leaf 3)))))))] 0 [9,12,13,17,25,26] [] [.l (.sl 26) (.box 32 (.agg (.cons (.dat (.slice (.slice (.leaf 3)))) (.cons (.dat (.slice (.leaf 3))) (.one (.own 47 (.leaf 3)))))))] .no))) (.n (.n (.n (.n (.n (.two (.f (.j [17,33] [] [.s 242 (.dat .bool)] .no)) (.two (.n (.f (.f (.j [] [] [.s 10 (.dat .bool)] .no)))) (.f (.n (.f (.f (.j [] [] [.s 10 (.dat .bool)] .no)))))))))))))))))))))))))) Tryz.func3 [] (fun _=>by kernel_rfl) ⟨fits2_k,ZQv,Znp,Zsl,Z8q,Zyx,ZKx,ZRi,ZTu,Zyr,Zol,Z7f,Zdr,tr⟩
theorem Z9w {w0:World} {v0:Zb} (hv:VIn v0 w0) {c0:List Value} {a:(List (List (Int×Int)))} (p0:Rep.rel (Zr (Zr (ZP (Zd .i64) (Zd .i64)))) v0 c0 a) {c1:List Value} {b:(List (Int×Int))} (p1:Rep.rel (Zr (ZP (Zd .i64) (Zd .i64))) v0 c1 b) {c2:List Value} {c:(List (Int×Int))} (p2:Rep.rel (Zr (ZP (Zd .i64) (Zd .i64))) v0 c2 c) {c3:List Value} {l:((List (Int×Int))×(List (Int×Int)))} (p3:Rep.rel (ZP (Zr (ZP (Zd .i64) (Zd .i64))) (Zr (ZP (Zd .i64) (Zd .i64)))) v0 c3 l) {c4:List Value} {more:(Int×Int)} (p4:Rep.rel (ZP (Zd .i64) (Zd .i64)) v0 c4 more) {z:Bool} (hm:Z2j a b c l more=some z):Ret Tryz.prog 3 #[(Zr (Zr (ZP (Zd .i64) (Zd .i64)))).val c0,(Zr (ZP (Zd .i64) (Zd .i64))).val c1,(Zr (ZP (Zd .i64) (Zd .i64))).val c2,(ZP (Zr (ZP (Zd .i64) (Zd .i64))) (Zr (ZP (Zd .i64) (Zd .i64)))).val c3,(ZP (Zd .i64) (Zd .i64)).val c4] w0 v0 (fun y v'=>∃ r0,y=ZZc.val r0∧ZZc.rel v' r0 z):=(ZVu w0 v0 [(Zr (Zr (ZP (Zd .i64) (Zd .i64)))).val c0,(Zr (ZP (Zd .i64) (Zd .i64))).val c1,(Zr (ZP (Zd .i64) (Zd .i64))).val c2,(ZP (Zr (ZP (Zd .i64) (Zd .i64))) (Zr (ZP (Zd .i64) (Zd .i64)))).val c3,(ZP (Zd .i64) (Zd .i64)).val c4] (a,b,c,l,more) z hv ⟨c0,_,rfl,p0,c1,_,rfl,p1,c2,_,rfl,p2,c3,_,rfl,p3,c4,rfl,p4⟩ hm).2
end Go.Eng
