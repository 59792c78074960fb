/- Lemmas towards the statement: the engine of the walks, the functions' models, laws and walks, part 7. Conditions: as each states. -/
import Derived.Shelf.Strings.Builder1
import Derived.Shelf.Strings.Repeat
import Derived.Test.YtgbgdcffodhgcaaGreatProg
import Derived.Test.YtgbgdcffodhgcaaGreatMiF
set_option linter.all false
set_option maxRecDepth 100000
namespace Go.Eng
open Go.Proofs Go.RowKit
set_option maxRecDepth 100000
theorem Zvq:Elem Tryz.prog 30 47 (Z0).n 56 (Value.agg #[Value.bool false,Value.slice none 0 0,Value.slice none 0 0]):=⟨Tryz.underlying30,by kernel_rfl,rfl,by decide⟩
theorem ZDf:ZHb Tryz.prog 30 47 (Z0).n:=⟨fun _=>by kernel_rfl,fun _=>by kernel_rfl⟩
theorem ZDw:Tryz.prog.follows .mixedOrders=true:=by kernel_rfl
noncomputable def ZGn:FuncId×ConD:=(141,⟨47,.leaf 3,fun l i j=>Z8c l i j⟩)
theorem Z6u:Zcg Tryz.prog ZGn.1 ZGn.2:=fun w v ob n cap cs l i0 j0 z hv hh hnv hA hn hi hj hz=>by
 have hz:Z8c (show List Rat from l) i0 j0=some z:=hz
 obtain ⟨i,rfl,rfl,hin,rfl⟩:=Zbr hz
 have hA:(Z0).rels v cs (show List Rat from l):=hA
 have hin:i<n:=by rw [hn];exact hin
 have hcs:cs.length=n*(Z0).n:=by rw [hn];exact ZIc hA
 refine ⟨fun _ _=>by kernel_rfl,?_⟩
 refine ZUs (K:=33) (args:=[.slice (mkA ob) n cap,.int .i64 (i:Int),.int .i64 ((i+1:Nat):Int)]) hv hh hnv Tryz.func141 rfl rfl zl fun fa hS=>?_
 obtain ⟨b,rfl⟩:=ZSc hS (j:=0) rfl (by omega)
 obtain ⟨_,cur,hg,hnc,hcx,hcu,htk⟩:=(hS.loc _ (List.mem_of_getElem? (i:=0) rfl)).1
 unfold maxLen at hcx
 refine sr ?_
 refine mw hS rfl fun fa hS=>?_
 refine oe ?_
 refine sr ?_
 refine mv hS rfl fun fa hS=>?_
 refine mv hS rfl fun fa hS=>?_
 refine mv hS rfl fun fa hS=>?_
 refine mv hS rfl fun fa hS=>?_
 refine ov hS rfl (ZMb hS rfl rfl ZDf) fun fa hS=>?_
 have h3 := @ZEq _ _ _ _ _ _ _ _ _ (some 13) 30 "" #[] none hS 30 47 (Z0).n b n cap i (i + 1) n (.tmp 8) (.tmp 9) (.tmp 10) (.tmp 12) .i64 .i64 .i64 ZDf rfl rfl rfl rfl (by omega) (by omega) hnc
 obtain ⟨y3,h3⟩:=h3
 refine ov hS rfl h3 fun fa hS=>?_
 refine oe ?_
 refine wp_seq_k fun N1 hN1=>?_
 refine sr ?_
 refine mv hS rfl fun fa hS=>?_
 refine mv hS rfl fun fa hS=>?_
 refine ov hS rfl (ZC hS rfl rfl Z4f) fun fa hS=>?_
 refine oe ?_
 refine ZEa hS rfl (by simp only [beq_eq_false_iff_ne,ne_eq];omega) ?_
 refine wp_skip ?_
 refine Zp (hN1 _ _ ?_)
 refine sr ?_
 refine mv hS rfl fun fa hS=>?_
 refine ov hS rfl (ZMb hS rfl rfl ZDf) fun fa hS=>?_
 refine mw hS rfl fun fa hS=>?_
 refine oe ?_
 refine wp_seq_k fun N2 hN2=>?_
 refine Zvg (fl:=#[true,true,true,true,true,true,false,false]) ZDw (by kernel_rfl) hS ?_
 intro ops hops hF wo hS
 refine rf hops hF 0 rfl (by kernel_rfl) rfl hS (ZI hS rfl) fun fa hS=>?_
 refine rf hops hF 1 rfl (by kernel_rfl) rfl hS (ZI hS rfl) fun fa hS=>?_
 refine rf hops hF 2 rfl (by kernel_rfl) rfl hS (Zdn hS ZDf rfl rfl (by omega) (by omega)) fun fa hS=>?_
 refine rf hops hF 3 rfl (by kernel_rfl) rfl hS (ZI hS rfl) fun fa hS=>?_
 refine rf hops hF 4 rfl (by kernel_rfl) rfl hS (ZI hS rfl) fun fa hS=>?_
 obtain ⟨ad,had,hsrc⟩:∃ ad:Addr,(if cap=i+1 then mkA (some b) else (mkA (some b)).map (·.add ((i+1)*(Z0).n)))=some ad∧∀ j u,(cs.drop ((i+1)*(Z0).n))[j]? = some u→wo.cell? (ad.add j)=some u:=by
  by_cases h:cap=i+1
  ·refine ⟨⟨b,0,none⟩,by rw [if_pos h];rfl,fun j u hu=>?_⟩;have:cs.drop ((i+1)*(Z0).n)=[]:=List.drop_eq_nil_of_le (by rw [hcs];exact Nat.mul_le_mul_right _ (by omega));rw [this] at hu;simp at hu
  ·refine ⟨(⟨b,0,none⟩:Addr).add ((i+1)*(Z0).n),by rw [if_neg h];rfl,fun j u hu=>?_⟩;have:=ZUg hS (j:=0) rfl ((i+1)*(Z0).n+j) u (by rw [List.getElem?_drop] at hu;exact hu);rw [show ((⟨b,0,none⟩:Addr).add ((i+1)*(Z0).n)).add j=(⟨b,0,none⟩:Addr).add ((i+1)*(Z0).n+j) by simp only [Zxa,Nat.add_assoc]];exact this
 refine rf hops hF 5 rfl (by kernel_rfl) rfl hS (Znt hS ZDf rfl rfl (by omega)) fun fa hS=>?_;rw [had] at hS;have hdl:(cs.drop ((i+1)*(Z0).n)).length=(n-(i+1))*(Z0).n:=by rw [List.length_drop,hcs,Nat.sub_mul]
 obtain ⟨wo',hr,hS'⟩:=Zms (t:=30) (ty:=30) Zvq hS (i:=0) rfl (q:=i) (m:=n-(i+1)) (c:=cap-(i+1)) (ad:=ad) (news:=cs.drop ((i+1)*(Z0).n)) hdl hsrc (by rw [List.all_eq_true];intro y hy;exact List.all_eq_true.1 (Zyg hA) y (List.mem_of_mem_drop hy)) (by omega);rw [show i+(n-(i+1))=n-1 by omega] at hr;refine ZAe hops hF 6 (by kernel_rfl) ?_;refine Zql [2,5,0,1,3,4] [] hops rfl (by kernel_rfl) wn rfl zl (Zks hS rfl rfl hr) hS' fun fa hS=>?_;refine ⟨Zhc,?_⟩;refine ZAe hops hF 7 (by kernel_rfl) ?_;refine nv [0,1,2,3,4,5,6] [] hops rfl (by kernel_rfl) rfl hS (Zsd hS rfl) fun fa hS=>?_;refine ⟨Zhc,?_⟩;refine ZPi hops hF (by kernel_rfl) ?_;refine Zp (hN2 _ _ ?_);refine sr ?_;refine mv hS rfl fun fa hS=>?_;refine mv hS rfl fun fa hS=>?_;refine ov hS rfl (ZMb hS rfl rfl ZDf) fun fa hS=>?_;refine mv hS rfl fun fa hS=>?_;refine ov hS rfl (Zgt hS ZDf rfl rfl rfl (by omega) (by omega) (by omega)) fun fa hS=>?_;obtain ⟨wo2,zc,hzl,hr,hS'⟩:=ZOq (t:=30) (ty:=30) Zvq hS (i:=0) rfl (p:=n-1) (c:=cap-(n-1)) (by omega) (List.all_eq_true.1 (by kernel_rfl));have hn1:n-(n-1)=1:=by omega
 rw [hn1] at hS hS';refine Zer wn rfl (Zop hS rfl (hr _)) ?_;refine oe ?_;have hS:=hS'.narrow (i:=0) rfl (m:=n-1) (by omega);refine sr ?_;refine mv hS rfl fun fa hS=>?_;refine mw hS rfl fun fa hS=>?_;refine oe ?_;refine wp_ret ?_;refine Z3p hS (i:=0) rfl (ZGc rfl (Z2a hS rfl)) ?_ (show n-1=(List.take i l++List.drop (i+1) l).length by rw [List.length_append,List.length_take,List.length_drop,← hn];omega);rw [ZQp hcs hin hzl];exact Z4b (Z0f i (ZN hS.vst.le hA)) (ZXe (i+1) (ZN hS.vst.le hA))
end Go.Eng
set_option maxRecDepth 100000
set_option maxHeartbeats 4000000
namespace Go.Eng
open Go.Proofs Go.RowKit
noncomputable def Zar:FuncId×ConB:=(93,⟨151,(.agg (.cons (.mat 30 47 (.leaf 3)) (.cons (.own 47 (.leaf 3)) (.cons (.own 47 (.leaf 3)) (.cons (.dat (.leaf 3)) (.cons (.own 3 (.int .i64)) (.one (.own 3 (.int .i64))))))))),[.pair (.slice (.slice (.leaf 3))) (.pair (.slice (.leaf 3)) (.slice (.leaf 3)))],[.slice (.leaf 3),.bool],fun z x=>Zzk z x⟩)
theorem Zry : KB Zar := Zeg (C := cf1 [Zlh, ZCg, Zpe, ZVg, ZVf, Zbd, ZKg] [100182] [ZAf] [((47, "Add"), 23), ((47, "Cmp"), 14), ((47, "Mul"), 18), ((47, "Sign"), 21), ((47, "Sub"), 22), ((47, "Zero"), 219)] [] [ZJm, Zgr, Zsm] [Ztl, ZGn]) (.n (.n (.n (.two (.n (.f (.l [0, 3, 6, 7, 8, 34, 35] [] [.s 9 (.dat (.int .i64)), .s 36 (.dat (.int .i64))] 0 [0, 3, 6, 7, 8] [] [.s 9 (.dat (.int .i64))] (.f (.n (.n (.f (.f (.n (.two (.j [0, 3, 6, 7, 8, 9, 10, 34, 35, 36] [] [.s 61 (.dat .bool)] .no) (.j [0, 3, 6, 7, 8, 34, 35, 36] [] [.s 9 (.dat (.int .i64))] .no))))))))))) (.n (.two (.n (.f (.l [0, 3, 6, 7, 8, 9, 70] [] [.s 71 (.dat (.int .i64)), .l (.sl 69) (.mat 30 47 (.leaf 3))] 2 [0, 3, 6, 7, 8, 9] [] [.l (.sl 69) (.mat 30 47 (.leaf 3))] .no))) (.n (.n (.n (.n (.n (.two (.n (.n (.j [0, 3, 8] [.fld (.sl 0) 0, .fld (.sl 0) 1, .fld (.sl 0) 2, .fld (.sl 0) 6, .fld (.sl 0) 7] [.l (.sl 0) (.box 151 (.agg (.cons (.mat 30 47 (.leaf 3)) (.cons (.own 47 (.leaf 3)) (.cons (.own 47 (.leaf 3)) (.cons (.dat (.leaf 3)) (.cons (.own 3 (.int .i64)) (.one (.own 3 (.int .i64))))))))))] .no))) (.n (.n (.two (.n (.f (.l [0, 3, 14, 167] [] [.s 168 (.dat (.int .i64)), .l (.sl 166) (.mat 30 47 (.leaf 3))] 4 [0, 3] [] [.l (.sl 166) (.mat 30 47 (.leaf 3))] .no))) (.n (.f (.n (.f (.l [0, 203, 204] [.fld (.sl 0) 0, .fld (.sl 0) 1, .fld (.sl 0) 6, .fld (.sl 0) 7, .fld (.sl 0) 2] [.s 205 (.dat (.int .i64)), .l (.sl 0) (.box 151 (.agg (.cons (.mat 30 47 (.leaf 3)) (.cons (.own 47 (.leaf 3)) (.cons (.own 47 (.leaf 3)) (.cons (.dat (.leaf 3)) (.cons (.own 3 (.int .i64)) (.one (.own 3 (.int .i64))))))))))] 6 [] [.fld (.sl 0) 0, .fld (.sl 0) 1, .fld (.sl 0) 6, .fld (.sl 0) 7, .fld (.sl 0) 2] [.l (.sl 0) (.box 151 (.agg (.cons (.mat 30 47 (.leaf 3)) (.cons (.own 47 (.leaf 3)) (.cons (.own 47 (.leaf 3)) (.cons (.dat (.leaf 3)) (.cons (.own 3 (.int .i64)) (.one (.own 3 (.int .i64))))))))))] (.f (.n (.n (.f (.j [0, 203, 204, 205] [.fld (.sl 0) 0, .fld (.sl 0) 1, .fld (.sl 0) 2, .fld (.sl 0) 6, .fld (.sl 0) 7] [.l (.sl 0) (.box 151 (.agg (.cons (.mat 30 47 (.leaf 3)) (.cons (.own 47 (.leaf 3)) (.cons (.own 47 (.leaf 3)) (.cons (.dat (.leaf 3)) (.cons (.own 3 (.int .i64)) (.one (.own 3 (.int .i64))))))))))] (.f (.n (.n (.n (.n (.n (.f (.l [0, 17, 203, 204, 205, 265, 266] [] [.s 267 (.dat (.int .i64)), .l (.fld (.sl 0) 2) (.own 47 (.leaf 3))] 8 [0, 203, 204, 205] [] [.l (.fld (.sl 0) 2) (.own 47 (.leaf 3))] .no))))))))))))))))))))))))))))))))) Tryz.func93 [(63, Tryz.f63, .no), (127, Tryz.f127, .r [] [] [.s 1000 (.dat (.int .i64))] (.n (.f (.n (.f (.cut ⟨⟨[0, 1, 7], [], [.s 8 (.dat (.int .i64))]⟩, [(.exit 0, ⟨[], [], []⟩), (.ret, ⟨[], [], [.s 1000 (.dat (.int .i64))]⟩)]⟩ .no)))))), (138, Tryz.f138, .r [] [] [.s 1000 (.dat (.int .i64))] (.n (.f (.n (.f (.cut ⟨⟨[0, 1, 7], [], [.s 8 (.dat (.int .i64))]⟩, [(.exit 0, ⟨[], [], []⟩), (.ret, ⟨[], [], [.s 1000 (.dat (.int .i64))]⟩)]⟩ .no)))))), (139, Tryz.f139, .no)] (fun _ _ => by kernel_rfl) ⟨ZDj, Zti, ZIe, Z6h, ZHg, Zre, Zeh, tr⟩ ⟨Zyh, tr⟩ ⟨Z0j, Zpn, Zvi, Z2f, Zkm, ZDi, tr⟩ ⟨⟨Tryz.func63, fun _ _ => by kernel_rfl⟩, ⟨Tryz.func127, fun _ _ => by kernel_rfl⟩, ⟨Tryz.func138, fun _ _ => by kernel_rfl⟩, ⟨Tryz.func139, fun _ _ => by kernel_rfl⟩, tr⟩ tr ⟨ZIs, ZGx, Zip, tr⟩ ⟨Zyx, Z6u, tr⟩
end Go.Eng
set_option maxRecDepth 100000
set_option maxHeartbeats 4000000
namespace Go.Eng
open Go.Proofs Go.RowKit
noncomputable def Zyj:FuncId×Con:=(43,⟨[.pair (.slice (.slice (.leaf 3))) (.pair (.slice (.leaf 3)) (.slice (.leaf 3)))],[.pair (.int .i64) (.pair (.leaf 3) (.pair (.slice (.leaf 3)) (.pair (.slice (.leaf 3)) (.slice (.leaf 3)))))],fun p=>Zff p⟩)
theorem Zhl : KQ Zyj := Zk (ZD (C := cf1 [Z9c, Zbd, ZNq, ZTq] [] [ZFf, ZAf] [((47, "Neg"), 55)] [ZXm] [Zar, ZJm] []) (.n (.n (.n (.n (.n (.two (.j [2, 3, 4, 6] [] [.s 5 (.dat (.ptr (.pair (.slice (.slice (.leaf 3))) (.pair (.slice (.leaf 3)) (.pair (.slice (.leaf 3)) (.pair (.leaf 3) (.pair (.slice (.int .i64)) (.slice (.int .i64))))))))), .s 9 (.dat (.int .i64))] .no) (.n (.n (.two (.n (.n (.j [2, 3, 5, 6, 9, 10] [] [.l (.sl 10) (.own 47 (.leaf 3))] .no))) (.f (.n (.f (.l [2, 3, 5, 6, 9, 10, 69, 70] [] [.s 71 (.dat (.int .i64)), .l (.sl 10) (.own 47 (.leaf 3))] 0 [2, 3, 5, 6, 10] [] [.l (.sl 10) (.own 47 (.leaf 3))] (.f (.n (.n (.f (.f (.n (.n (.j [2, 3, 5, 6, 9, 10, 69, 70, 71] [] [.l (.sl 10) (.own 47 (.leaf 3))] .no))))))))))))))))))))) Tryz.func43 [(63, Tryz.f63, .no), (92, Tryz.f92, .n (.n (.two (.n (.f (.l [1, 3, 20] [.fld (.sl 3) 0, .fld (.sl 3) 1, .fld (.sl 3) 2] [.s 21 (.dat (.int .i64)), .l (.sl 3) (.box 151 (.agg (.cons (.mat 30 47 (.leaf 3)) (.cons (.own 47 (.leaf 3)) (.cons (.own 47 (.leaf 3)) (.cons (.dat (.leaf 3)) (.cons (.own 3 (.int .i64)) (.one (.own 3 (.int .i64))))))))))] 0 [1, 3] [.fld (.sl 3) 0, .fld (.sl 3) 1, .fld (.sl 3) 2] [.l (.sl 3) (.box 151 (.agg (.cons (.mat 30 47 (.leaf 3)) (.cons (.own 47 (.leaf 3)) (.cons (.own 47 (.leaf 3)) (.cons (.dat (.leaf 3)) (.cons (.own 3 (.int .i64)) (.one (.own 3 (.int .i64))))))))))] .no))) (.f (.n (.f (.l [1, 3, 37] [.fld (.sl 3) 0, .fld (.sl 3) 1, .fld (.sl 3) 2, .fld (.sl 3) 6, .fld (.sl 3) 7] [.s 38 (.dat (.int .i64)), .l (.sl 3) (.box 151 (.agg (.cons (.mat 30 47 (.leaf 3)) (.cons (.own 47 (.leaf 3)) (.cons (.own 47 (.leaf 3)) (.cons (.dat (.leaf 3)) (.cons (.own 3 (.int .i64)) (.one (.own 3 (.int .i64))))))))))] 2 [3] [.fld (.sl 3) 0, .fld (.sl 3) 1, .fld (.sl 3) 2, .fld (.sl 3) 6, .fld (.sl 3) 7] [.l (.sl 3) (.box 151 (.agg (.cons (.mat 30 47 (.leaf 3)) (.cons (.own 47 (.leaf 3)) (.cons (.own 47 (.leaf 3)) (.cons (.dat (.leaf 3)) (.cons (.own 3 (.int .i64)) (.one (.own 3 (.int .i64))))))))))] .no)))))))] (fun _ => by kernel_rfl) ⟨Zne, Zre, Zcw, Zpx, tr⟩ ⟨Zri, Zyh, tr⟩ ⟨ZJe, tr⟩ ⟨⟨Tryz.func63, fun _ _ => by kernel_rfl⟩, ⟨Tryz.func92, fun _ _ => by kernel_rfl⟩, tr⟩ ⟨Zur, tr⟩ ⟨Zry, ZIs, tr⟩)
end Go.Eng
set_option maxRecDepth 100000
set_option maxHeartbeats 4000000
namespace Go.Eng
open Go.Proofs Go.RowKit
noncomputable def Zos:FuncId×Con:=(11,⟨[.pair (.slice (.slice (.leaf 3))) (.pair (.slice (.leaf 3)) (.slice (.leaf 3)))],[.pair (.int .i64) (.pair (.leaf 3) (.pair (.slice (.leaf 3)) (.pair (.slice (.leaf 3)) (.slice (.leaf 3))))),.int .i64],fun p=>ZGp p⟩)
theorem Zut:KQ Zos:=Zk (ZD (C:=cf0 [ZIm,Zyj] [] [] []) .no Tryz.func11 [] (fun _=>by kernel_rfl) ⟨Zpo,Zhl,tr⟩)
end Go.Eng
set_option maxRecDepth 100000
set_option maxHeartbeats 4000000
namespace Go.Eng
open Go.Proofs Go.RowKit
noncomputable def ZFr:FuncId×Con:=(16,⟨[.leaf 3,.leaf 3],[.bool],fun p=>Z3h p.1 p.2⟩)
theorem qsame_k:KQ ZFr:=Zk (Zx (C:=cf0 [Zcj] [] [] []) (.n (.f (.j [] [] [.s 4 (.dat .bool)] .no))) Tryz.func16 [] (fun v vals x z ha hz=>.trans (by kernel_rfl) (Zqw hz)) ⟨cmp_k,tr⟩)
end Go.Eng
set_option maxRecDepth 100000
set_option maxHeartbeats 4000000
namespace Go.Eng
open Go.Proofs Go.RowKit
noncomputable def Zek:FuncId×Con:=(69,⟨[.slice (.leaf 3)],[.bool],fun p=>ZMg p⟩)
theorem Z5k : KQ Zek := Zk (ZD (C := cf0 [Zpe] [] [] [((47, "Sign"), 21)]) .no Tryz.func69 [(108, Tryz.f108, .no), (113, Tryz.f113, .no), (138, Tryz.f138, .r [] [] [.s 1000 (.dat (.int .i64))] (.n (.f (.n (.f (.cut ⟨⟨[0, 1, 7], [], [.s 8 (.dat (.int .i64))]⟩, [(.exit 0, ⟨[], [], []⟩), (.ret, ⟨[], [], [.s 1000 (.dat (.int .i64))]⟩)]⟩ .no))))))] (fun _ => by kernel_rfl) ⟨ZIe, tr⟩ tr ⟨Z2f, tr⟩ ⟨⟨Tryz.func108, fun _ _ => by kernel_rfl⟩, ⟨Tryz.func113, fun _ _ => by kernel_rfl⟩, ⟨Tryz.func138, fun _ _ => by kernel_rfl⟩, tr⟩)
end Go.Eng
set_option maxRecDepth 100000
set_option maxHeartbeats 4000000
namespace Go.Eng
open Go.Proofs Go.RowKit
noncomputable def Zhj:FuncId×Con:=(71,⟨[.slice (.leaf 3),.slice (.leaf 3)],[.bool],fun p=>ZNi p.1 p.2⟩)
theorem ZWm : KQ Zhj := Zk (ZD (C := cf0 [Zlh] [] [] [((47, "Cmp"), 14)]) (.n (.f (.n (.f (.cut ⟨⟨[0, 1, 7], [], [.s 8 (.dat (.int .i64))]⟩, [(.exit 0, ⟨[], [], []⟩), (.ret, ⟨[], [], [.s 1000 (.dat .bool)]⟩)]⟩ .no))))) Tryz.func71 [] (fun _ => by kernel_rfl) ⟨ZDj, tr⟩ tr ⟨Zpn, tr⟩)
end Go.Eng
set_option maxRecDepth 100000
set_option maxHeartbeats 4000000
namespace Go.Eng
open Go.Proofs Go.RowKit
noncomputable def ZLn:FuncId×Con:=(45,⟨[.slice (.leaf 3),.slice (.leaf 3)],[.leaf 3],fun p=>Ztg p.1 p.2⟩)
theorem Zio : KQ ZLn := Zk (ZD (C := cf0 [ZCg, ZVf, Zbd] [] [] [((47, "Add"), 23), ((47, "Mul"), 18)]) (.n (.n (.f (.n (.f (.l [0, 1, 4, 5, 9] [] [.s 10 (.dat (.int .i64)), .l (.sl 5) (.box 47 (.dat (.leaf 3)))] 0 [4, 5] [] [.l (.sl 5) (.box 47 (.dat (.leaf 3)))] .no)))))) Tryz.func45 [] (fun _ => by kernel_rfl) ⟨Zti, ZHg, Zre, tr⟩ tr ⟨Z0j, Zvi, tr⟩)
end Go.Eng
set_option maxRecDepth 100000
set_option maxHeartbeats 4000000
namespace Go.Eng
open Go.Proofs Go.RowKit
noncomputable def ZAm:FuncId×Con:=(72,⟨[.slice (.slice (.leaf 3)),.slice (.leaf 3)],[.slice (.leaf 3)],fun p=>ZTk p.1 p.2⟩)
theorem Z6r:KQ ZAm:=Zk (ZD (C:=cf0 [ZLn] [] [] []) (.n (.n (.f (.n (.f (.l [1,8,9] [] [.s 5 (.own 47 (.leaf 3)),.s 10 (.dat (.int .i64))] 0 [] [] [.s 5 (.own 47 (.leaf 3))] .no)))))) Tryz.func72 [] (fun _=>by kernel_rfl) ⟨Zio,tr⟩)
end Go.Eng
set_option maxRecDepth 100000
set_option maxHeartbeats 4000000
namespace Go.Eng
open Go.Proofs Go.RowKit
noncomputable def ZZr:FuncId×Con:=(44,⟨[.pair (.slice (.slice (.leaf 3))) (.pair (.slice (.leaf 3)) (.slice (.leaf 3))),.slice (.leaf 3)],[.bool],fun p=>Zkr p.1 p.2⟩)
theorem Zdy:KQ ZZr:=Zk (ZD (C:=cf0 [Zek,Zhj,ZAm] [] [] []) (.n (.f (.j [] [] [.s 4 (.dat .bool)] .no))) Tryz.func44 [] (fun _=>by kernel_rfl) ⟨Z5k,ZWm,Z6r,tr⟩)
end Go.Eng
set_option maxRecDepth 100000
set_option maxHeartbeats 4000000
namespace Go.Eng
open Go.Proofs Go.RowKit
noncomputable def Zqm:FuncId×Con:=(70,⟨[.pair (.slice (.slice (.leaf 3))) (.pair (.slice (.leaf 3)) (.slice (.leaf 3))),.slice (.leaf 3)],[.slice (.leaf 3)],fun p=>ZTm p.1 p.2⟩)
theorem Z0q : KQ Zqm := Zk (ZD (C := cf0 [ZCg, ZVf] [] [ZBf] [((47, "Add"), 23), ((47, "Mul"), 18)]) (.n (.n (.f (.n (.f (.l [1, 5, 15, 16] [] [.s 17 (.dat (.int .i64)), .l (.sl 5) (.own 47 (.leaf 3))] 0 [5] [] [.l (.sl 5) (.own 47 (.leaf 3))] (.f (.n (.n (.f (.f (.n (.n (.f (.l [1, 5, 6, 15, 16, 17, 22, 23] [] [.s 24 (.dat (.int .i64)), .l (.sl 5) (.own 47 (.leaf 3))] 2 [1, 5, 15, 16, 17] [] [.l (.sl 5) (.own 47 (.leaf 3))] .no))))))))))))))) Tryz.func70 [] (fun _ => by kernel_rfl) ⟨Zti, ZHg, tr⟩ ⟨Zpg, tr⟩ ⟨Z0j, Zvi, tr⟩)
end Go.Eng
set_option maxRecDepth 100000
set_option maxHeartbeats 4000000
namespace Go.Eng
open Go.Proofs Go.RowKit
noncomputable def ZBs:FuncId×Con:=(46,⟨[.pair (.slice (.slice (.leaf 3))) (.pair (.slice (.leaf 3)) (.slice (.leaf 3))),.slice (.leaf 3)],[.bool],fun p=>ZCp p.1 p.2⟩)
theorem pdual_k:KQ ZBs:=Zk (ZD (C:=cf0 [Zek,Zqm,Zhj] [] [] []) (.n (.f (.j [] [] [.s 4 (.dat .bool)] .no))) Tryz.func46 [] (fun _=>by kernel_rfl) ⟨Z5k,Z0q,ZWm,tr⟩)
end Go.Eng
set_option maxRecDepth 100000
set_option maxHeartbeats 4000000
namespace Go.Eng
open Go.Proofs Go.RowKit
noncomputable def Z5s:FuncId×Con:=(29,⟨[.pair (.slice (.slice (.leaf 3))) (.pair (.slice (.leaf 3)) (.slice (.leaf 3))),.pair (.int .i64) (.pair (.leaf 3) (.pair (.slice (.leaf 3)) (.pair (.slice (.leaf 3)) (.slice (.leaf 3)))))],[.bool],fun p=>ZQo p.1 p.2⟩)
theorem Zkv : KQ Z5s := Zk (ZD (C := cf0 [ZFr, Zpe, ZIm, ZZr, ZLn, ZBs, Zek, Zqm, Zhj, ZAm, ZKg] [] [ZBf] [((47, "Same"), 16), ((47, "Sign"), 21), ((47, "Zero"), 219)]) (.n (.n (.two (.j [2, 3] [] [.s 5 (.dat .bool)] .no) (.f (.n (.f (.n (.two (.f (.j [] [] [.s 4 (.dat .bool)] .no)) (.n (.two (.f (.j [] [] [.s 4 (.dat .bool)] .no)) (.n (.f (.two (.f (.j [2, 3] [] [.s 135 (.dat .bool)] .no)) (.f (.j [] [] [.s 4 (.dat .bool)] .no))))))))))))))) Tryz.func29 [] (fun _ => by kernel_rfl) ⟨qsame_k, ZIe, Zpo, Zdy, Zio, pdual_k, Z5k, Z0q, ZWm, Z6r, Zeh, tr⟩ ⟨Zpg, tr⟩ ⟨ZQu, Z2f, ZDi, tr⟩)
end Go.Eng
set_option maxRecDepth 100000
set_option maxHeartbeats 4000000
namespace Go.Eng
open Go.Proofs Go.RowKit
noncomputable def Zdg:FuncId×Con:=(60,⟨[.slice (.slice (.leaf 3))],[.int .i64],fun p=>Zfe p⟩)
theorem ZDh:KQ Zdg:=Zk (ZD (C:=cf0 [] [] [] []) .no Tryz.func60 [] (fun _=>by kernel_rfl))
end Go.Eng
set_option maxRecDepth 100000
set_option maxHeartbeats 4000000
namespace Go.Eng
open Go.Proofs Go.RowKit
noncomputable def ZAi:FuncId×Con:=(85,⟨[.slice (.slice (.leaf 3))],[.bool],fun p=>Zfg p⟩)
theorem ZCl:KQ ZAi:=Zk (ZD (C:=cf0 [Zdg] [] [] []) (.n (.n (.f (.j [] [] [.s 2 (.dat .bool)] .no)))) Tryz.func85 [(67,Tryz.f67,.no),(112,Tryz.f112,.r [] [] [.s 1000 (.dat (.int .i64))] (.n (.f (.n (.f (.cut ⟨⟨[0,1,7],[],[.s 8 (.dat (.int .i64))]⟩,[(.exit 0,⟨[],[],[]⟩),(.ret,⟨[],[],[.s 1000 (.dat (.int .i64))]⟩)]⟩ .no)))))),(126,Tryz.f126,.no)] (fun _=>by kernel_rfl) ⟨ZDh,tr⟩ tr tr ⟨⟨Tryz.func67,fun _ _=>by kernel_rfl⟩,⟨Tryz.func112,fun _ _=>by kernel_rfl⟩,⟨Tryz.func126,fun _ _=>by kernel_rfl⟩,tr⟩)
end Go.Eng
set_option maxRecDepth 100000
set_option maxHeartbeats 4000000
namespace Go.Eng
open Go.Proofs Go.RowKit
noncomputable def Z2m:FuncId×Con:=(86,⟨[.slice (.slice (.leaf 3))],[.slice (.slice (.leaf 3)),.slice (.int .i64),.leaf 3],fun p=>Zqn p⟩)
theorem Zhq : KQ Z2m := Zk (ZD (C := cf0 [ZCg, ZVg, Z9c, Zbd, Z6i, ZKg] [8] [ZFf] [((47, "Div"), 216), ((47, "Mul"), 18), ((47, "Neg"), 55), ((47, "Sub"), 22), ((47, "Zero"), 219)]) (.n (.n (.n (.n (.f (.n (.f (.l [0, 4, 6, 19] [] [.s 5 (.own 3 (.int .i64)), .s 20 (.dat (.int .i64)), .l (.sl 0) (.mat 30 47 (.leaf 3)), .l (.sl 6) (.box 47 (.dat (.leaf 3)))] 0 [0, 4, 6] [] [.s 5 (.own 3 (.int .i64)), .l (.sl 0) (.mat 30 47 (.leaf 3)), .l (.sl 6) (.box 47 (.dat (.leaf 3)))] (.f (.n (.n (.f (.j [0, 4, 6, 19, 20] [] [.s 5 (.own 3 (.int .i64)), .l (.sl 0) (.mat 30 47 (.leaf 3)), .l (.sl 6) (.box 47 (.dat (.leaf 3)))] (.f (.n (.n (.n (.two (.f (.l [0, 4, 5, 6, 7, 8, 19, 20] [] [.s 9 (.dat (.int .i64))] 2 [0, 4, 5, 6, 7, 8, 19, 20] [] [.s 9 (.dat (.int .i64))] (.f (.f (.f (.j [0, 4, 5, 6, 7, 8, 9, 19, 20] [] [.s 40 (.dat .bool)] .no)))))) (.n (.two (.n (.j [0, 4, 5, 6, 7, 8, 19, 20] [] [.l (.sl 0) (.mat 30 47 (.leaf 3)), .l (.sl 6) (.box 47 (.dat (.leaf 3)))] .no)) (.n (.n (.two (.n (.f (.l [0, 4, 5, 6, 7, 8, 10, 19, 20, 83] [] [.s 84 (.dat (.int .i64)), .l (.sl 0) (.mat 30 47 (.leaf 3))] 4 [0, 4, 5, 6, 7, 8, 19, 20] [] [.l (.sl 0) (.mat 30 47 (.leaf 3))] .no))) (.f (.n (.f (.l [0, 4, 5, 6, 7, 8, 19, 20, 108] [] [.s 109 (.dat (.int .i64)), .l (.sl 0) (.mat 30 47 (.leaf 3))] 6 [0, 4, 5, 6, 7, 19, 20] [] [.l (.sl 0) (.mat 30 47 (.leaf 3))] (.f (.n (.n (.f (.j [0, 4, 5, 6, 7, 8, 19, 20, 108, 109] [] [.l (.sl 0) (.mat 30 47 (.leaf 3))] (.f (.n (.n (.two (.f (.j [0, 4, 5, 6, 7, 8, 12, 13, 19, 20, 108, 109] [] [.s 126 (.dat .bool)] .no)) (.n (.f (.l [0, 4, 5, 6, 7, 8, 12, 13, 19, 20, 108, 109, 131] [] [.s 132 (.dat (.int .i64)), .l (.sl 0) (.mat 30 47 (.leaf 3))] 8 [0, 4, 5, 6, 7, 8, 19, 20, 108, 109] [] [.l (.sl 0) (.mat 30 47 (.leaf 3))] .no))))))))))))))))))))))))))))))))))))))) Tryz.func86 [(60, Tryz.f60, .r [] [] [.s 1000 (.dat (.int .i64))] .no), (65, Tryz.f65, .n (.n (.f (.n (.f (.l [3, 9, 10] [] [.s 11 (.dat (.int .i64)), .l (.sl 3) (.mat 30 47 (.leaf 3))] 0 [3] [] [.l (.sl 3) (.mat 30 47 (.leaf 3))] .no))))))] (fun _ => by kernel_rfl) ⟨Zti, Z6h, Zne, Zre, ZVk, Zeh, tr⟩ ⟨Zri, tr⟩ ⟨Zwm, Zvi, ZJe, Zkm, ZDi, tr⟩ ⟨⟨Tryz.func60, fun _ _ => by kernel_rfl⟩, ⟨Tryz.func65, fun _ _ => by kernel_rfl⟩, tr⟩)
end Go.Eng
set_option maxRecDepth 100000
set_option maxHeartbeats 4000000
namespace Go.Eng
open Go.Proofs Go.RowKit
noncomputable def Z9s:FuncId×Con:=(37,⟨[.slice (.slice (.leaf 3))],[.slice (.slice (.leaf 3)),.slice (.int .i64),.int .i64],fun p=>Zcq p⟩)
theorem ZIw:KQ Z9s:=Zk (ZD (C:=cf0 [ZAi,Z2m] [] [] []) .no Tryz.func37 [] (fun _=>by kernel_rfl) ⟨ZCl,Zhq,tr⟩)
end Go.Eng
set_option maxRecDepth 100000
set_option maxHeartbeats 4000000
namespace Go.Eng
open Go.Proofs Go.RowKit
noncomputable def Zkq:FuncId×Con:=(127,⟨[.slice (.int .i64),.int .i64],[.int .i64],fun p=>Zpq p.1 p.2⟩)
theorem Zsx:KQ Zkq:=Zk (ZD (C:=cf0 [] [] [] []) (.n (.f (.n (.cut ⟨⟨[],[],[]⟩,[(.norm,⟨[],[],[]⟩),(.ret,⟨[],[],[.s 1000 (.dat (.int .i64))]⟩)]⟩ (.f (.cut ⟨⟨[0,1,7],[],[.s 8 (.dat (.int .i64))]⟩,[(.ret,⟨[],[],[.s 1000 (.dat (.int .i64))]⟩),(.exit 0,⟨[],[],[]⟩)]⟩ .no)))))) Tryz.func127 [] (fun _=>by kernel_rfl))
end Go.Eng
set_option maxRecDepth 100000
set_option maxHeartbeats 4000000
namespace Go.Eng
open Go.Proofs Go.RowKit
noncomputable def Zxo:FuncId×Con:=(87,⟨[.slice (.int .i64),.int .i64],[.bool],fun p=>Zsr p.1 p.2⟩)
theorem Z2u:KQ Zxo:=Zk (ZD (C:=cf0 [Zkq] [] [] []) .no Tryz.func87 [] (fun _=>by kernel_rfl) ⟨Zsx,tr⟩)
end Go.Eng
set_option maxRecDepth 100000
set_option maxHeartbeats 4000000
namespace Go.Eng
open Go.Proofs Go.RowKit
noncomputable def Znp:FuncId×Con:=(38,⟨[.slice (.slice (.leaf 3))],[.slice (.slice (.leaf 3)),.int .i64],fun p=>ZEr p⟩)
theorem ZZu : KQ Znp := Zk (ZD (C := cf0 [Z9c, Zdg, Zbd, ZAi, Z2m, Zxo] [] [ZAf] [((47, "Neg"), 55)]) (.n (.n (.n (.n (.f (.n (.f (.l [0, 4, 5, 22] [] [.s 7 (.own 30 (.slice (.leaf 3))), .s 23 (.dat (.int .i64))] 0 [] [] [.s 7 (.own 30 (.slice (.leaf 3)))] (.f (.n (.n (.f (.j [0, 4, 5, 22, 23] [] [.s 7 (.own 30 (.slice (.leaf 3)))] (.f (.n (.n (.n (.n (.f (.n (.f (.l [0, 4, 5, 7, 8, 9, 22, 23, 36, 37] [] [.s 38 (.dat (.int .i64)), .l (.sl 9) (.own 47 (.leaf 3))] 2 [0, 4, 5, 7, 9, 22, 23] [] [.l (.sl 9) (.own 47 (.leaf 3))] .no)))))))))))))))))))))) Tryz.func38 [(63, Tryz.f63, .no)] (fun _ => by kernel_rfl) ⟨Zne, ZDh, Zre, ZCl, Zhq, Z2u, tr⟩ ⟨Zyh, tr⟩ ⟨ZJe, tr⟩ ⟨⟨Tryz.func63, fun _ _ => by kernel_rfl⟩, tr⟩)
end Go.Eng
namespace Go.Eng
open Go.Proofs Go.RowKit
theorem Zmu {r:World} {d:Zb} (hv:VIn d r) {D:List Value} {n:Int} (L:Rep.rel (Zd .u64) d D n) {z:(List UInt8)} (H:ZBi n=some z):Ret Tryz.prog 131 #[(Zd .u64).val D] r d (fun y v'=>∃ E,y=Z7a.val E∧Z7a.rel v' E z):=by
 obtain ⟨rfl,M⟩:=L;refine Z1h (K:=20) (args:=[.int .u64 n]) hv Tryz.func131 rfl rfl zl fun f S=>?_;unfold ZBi at H;refine sr (mw S rfl fun f S=>oe (sr (Z1q S wn rfl zl (cs:=[.int .u8 0,.int .u8 0,.int .u8 0,.int .u8 0,.int .u8 0,.int .u8 0,.int .u8 0,.int .u8 0,.int .u8 0,.int .u8 0,.int .u8 0,.int .u8 0,.int .u8 0,.int .u8 0,.int .u8 0,.int .u8 0,.int .u8 0,.int .u8 0,.int .u8 0,.int .u8 0]) (ZDl k_zv222) fun s f w S=>?_)));have S:=S.boxOwn 1 20 rfl zl;have N:Rep.rels (Zd .u8) d [.int .u8 0,.int .u8 0,.int .u8 0,.int .u8 0,.int .u8 0,.int .u8 0,.int .u8 0,.int .u8 0,.int .u8 0,.int .u8 0,.int .u8 0,.int .u8 0,.int .u8 0,.int .u8 0,.int .u8 0,.int .u8 0,.int .u8 0,.int .u8 0,.int .u8 0,.int .u8 0] (List.replicate 20 (0:Int)):=Z3f (show Rep.rel (Zd .u8) _ [Value.int .u8 0] 0 from ⟨rfl,by decide⟩) 20;refine oe (sr (mw S rfl fun f S=>oe (Zz fun _ O=>?_)));obtain ⟨P,Q,R⟩:=Zha H;refine Z0c (fun f w=>∃ l m B t,(l,m)=P∧Zb.le d t∧St 20 r d [(3,.pointer (some ⟨s,0,none⟩)),(4,.int .i64 m)] [Loc.own (some s) 222 1 20 20 B] t f w∧Rep.rels (Zd .u8) t B l∧20=l.length∧inR .i64 m) (fun _ T=>?_) ?_
 ·have H:=Q;refine wp_block ?_;obtain ⟨ak,U,V⟩:=Zha H;refine ZMd U (fun W f w=>∃ h o u b k,(h,o,u)=W∧Zb.le d k∧St 20 r d [(0,.int .u64 o),(3,.pointer (some ⟨s,0,none⟩)),(4,.int .i64 u)] [Loc.own (some s) 222 1 20 20 b] k f w∧Rep.rels (Zd .u8) k b h∧20=h.length∧inR .u64 o∧inR .i64 u) ⟨_,_,_,[.int .u8 0,.int .u8 0,.int .u8 0,.int .u8 0,.int .u8 0,.int .u8 0,.int .u8 0,.int .u8 0,.int .u8 0,.int .u8 0,.int .u8 0,.int .u8 0,.int .u8 0,.int .u8 0,.int .u8 0,.int .u8 0,.int .u8 0,.int .u8 0,.int .u8 0,.int .u8 0],_,rfl,(leR _),(S.fr' rfl),N,(List.length_replicate (n:=20) (a:=(0:Int))).symm,M,(by decide)⟩ ?_;rintro _ f w st ⟨h,o,u,b,k,hq,F,S,C,v,al,X⟩ H am Y Z;subst hq;refine Zz fun _ aa=>sr (mv S rfl fun f S=>ov S rfl (ZC S rfl rfl Zrf) fun f S=>oe ?_);rcases Zpb (decide ((0:Int)<o)) with p | p
  ·have H:=Zjb H p;refine Zrb S rfl p (wp_skip (Zp (aa _ _ (Zz fun _ ab=>wp_block (Zz fun _ ac=>bO H fun e G H=>ZV (mv S rfl fun f S=>ov S rfl (ZC S rfl rfl (ZPb G)) fun f S=>mw S rfl fun f S=>ZO (Zp (ac _ _ (bO H fun g ad H=>?_)))))))));refine bO H fun an q H=>ZV (mv S rfl fun f S=>mv S rfl fun f S=>ov S rfl (ZC S rfl rfl (Zit ad)) fun f S=>ov S rfl (ZC S rfl rfl ZDk) fun f S=>ov S rfl (ZCf S rfl (ZCt _)) fun f S=>?_);have I:=ZIa C (Zn q).2.1;obtain ⟨ao,ae⟩:∃ c,(List.take (Zd .u8).n (List.drop ((e).toNat*(Zd .u8).n) b))=c:=⟨_,rfl⟩;rw [ae] at I;obtain ⟨rfl,ap⟩:=I;refine ov S rfl (Zbq S ZIq rfl rfl (Zn q).1 (ltI v (Zn q).2.2.1)) fun f S=>?_;obtain ⟨w,af,S⟩:=Zhd S k_sz5 (off:=0+(e).toNat*1) (z:=.int .u8 (IntKind.u8.wrap (IntKind.u64.wrap ((48:Int)+g)))) (cs:=[.int .u8 (IntKind.u8.wrap (IntKind.u64.wrap ((48:Int)+g)))]) (Z1c rfl) rfl (i:=0) rfl (Zai S (j:=0) rfl (ltN v (Zn q).2.2.2)) (by first | rfl | simp [plain]);have ag:Rep.rels (Zd .u8) k (List.take (0+(e).toNat*1) b++[Value.int IntKind.u8 (IntKind.u8.wrap (IntKind.u64.wrap ((48:Int)+g)))]++List.drop (0+(e).toNat*1+1) b) (h.set (e).toNat (IntKind.u8.wrap (IntKind.u64.wrap ((48:Int)+g)))):=Zzg C (Zn q).2.2.2 (show Rep.rel (Zd .u8) k [.int .u8 (IntKind.u8.wrap (IntKind.u64.wrap ((48:Int)+g)))] _ from (Z6 (Z3b _ _))) rfl rfl
   have ah:20=(h.set (e).toNat (IntKind.u8.wrap (IntKind.u64.wrap ((48:Int)+g)))).length:=setN v;refine Zbj wn rfl (af rfl rfl) (ZO (Znd (Zp (ab _ _ (bO H fun aq J H=>ZV (mv S rfl fun f S=>ov S rfl (ZC S rfl rfl (ZGq J)) fun f S=>mw S rfl fun f S=>ZO ?_))))));obtain rfl:=ZJ H;refine Y _ rfl _ _ ⟨_,_,_,(List.take (0+(e).toNat*1) b++[Value.int IntKind.u8 (IntKind.u8.wrap (IntKind.u64.wrap ((48:Int)+g)))]++List.drop (0+(e).toNat*1+1) b),_,rfl,F,(S.fr' rfl),ag,ah,(ZRn J),(ZBb G).2⟩
  have H:=Znb H p;refine ZEa S rfl p (wp_exit (Zab ?_));obtain rfl:=ZJ H;have hq:=Z _ rfl;subst hq;have H:=V;refine Zab (Ztd ?_);obtain rfl:=ZJ H;refine Zp (T _ _ ⟨_,_,b,_,rfl,(leT (leR _) F),(S.fr' rfl),C,v,X⟩)
 rintro f w ⟨l,m,B,t,hq,ar,S,ai,x,au⟩;subst hq;have H:=R;refine Zp (O _ _ (Zz fun _ aj=>bO H fun av A H=>ZV (mv S rfl fun f S=>ov S rfl (ZEy S ZIq rfl rfl (Z9e A).1 (by have:=(Z9e A).2.1;have:=x;omega)) fun f S=>ov S rfl (ZUu S (j:=0) rfl ai x (by have:=(Z9e A).2.1;have:=(Z9e A).1;have:=x;omega) rfl Tryz.underlying187 Tryz.underlying5 Tryz.underlying9) fun f S=>mw S rfl fun f S=>ZO (Zp (aj _ _ (wp_ret ?_))))));obtain rfl:=ZJ H;refine Zaf S (ZGc rfl (Z2a S rfl)) ⟨[.string (Zs ((Zfd (l.drop ((m).toNat)))))],rfl,(ZPh (by have:=x;simp only [Z9u,List.length_drop];unfold maxLen;omega))⟩
theorem Zmx {b:World} {a:Zb} (hv:VIn a b) {c:List Value} {n:Int} (d:Rep.rel (Zd .u64) a c n) {z:(List UInt8)} (hm:ZSg n=some z) :
  Ret Tryz.prog 131 #[(Zd .u64).val c] b a (fun y v'=>∃ e,y=Z7a.val e∧Z7a.rel v' e z) :=
 Zmu hv d (ZHy d.2 hm)
end Go.Eng
namespace Go.Proofs
open Go.Shelf
def Tryz.lays105_ren:Go.Shelf.Ren:=⟨fun | 105=>132 | 212=>150 | 99=>165 | 165=>166 | 166=>133 | 170=>167 | 169=>134 | 263=>175 | 264=>102 | 206=>187 | 240=>168 | 241=>188 | 276=>189 | 277=>194 | n=>n,fun | 9=>9 | 3=>3 | 4=>4 | 20=>20 | 0=>0 | 46=>205 | 109=>206 | 5=>5 | 72=>189 | 76=>192 | 51=>196 | 146=>232 | 53=>153 | 148=>158 | 70=>186 | 37=>187 | 75=>191 | 127=>225 | 164=>238 | 80=>94 | n=>n,fun | n=>n⟩
theorem Tryz.lays105:Go.Proofs.Lays.n105 Tryz.prog Tryz.lays105_ren:={
 mixed:=by kernel_rfl
 f99:=Tryz.func165.trans (congrArg some (by kernel_rfl))
 f105:=Tryz.func132.trans (congrArg some (by kernel_rfl))
 f165:=Tryz.func166.trans (congrArg some (by kernel_rfl))
 f166:=Tryz.func133.trans (congrArg some (by kernel_rfl))
 f169:=Tryz.func134.trans (congrArg some (by kernel_rfl))
 f170:=Tryz.func167.trans (congrArg some (by kernel_rfl))
 f206:=Tryz.func187.trans (congrArg some (by kernel_rfl))
 f212:=Tryz.func150.trans (congrArg some (by kernel_rfl))
 f240:=Tryz.func168.trans (congrArg some (by kernel_rfl))
 f241:=Tryz.func188.trans (congrArg some (by kernel_rfl))
 f263:=Tryz.func175.trans (congrArg some (by kernel_rfl))
 f264:=Tryz.func102.trans (congrArg some (by kernel_rfl))
 f276:=Tryz.func189.trans (congrArg some (by kernel_rfl))
 f277:=Tryz.func194.trans (congrArg some (by kernel_rfl))
 t0:=Tryz.underlying0
 a0:=Tryz.isAgg0
 z0:=Tryz.sizeOf0
 v0:=Tryz.zeroValue0
 t3:=Tryz.underlying3
 a3:=Tryz.isAgg3
 z3:=Tryz.sizeOf3
 v3:=Tryz.zeroValue3
 t4:=Tryz.underlying4
 a4:=Tryz.isAgg4
 z4:=Tryz.sizeOf4
 v4:=Tryz.zeroValue4
 t5:=Tryz.underlying5
 a5:=Tryz.isAgg5
 z5:=Tryz.sizeOf5
 v5:=Tryz.zeroValue5
 t9:=Tryz.underlying9
 a9:=Tryz.isAgg9
 z9:=Tryz.sizeOf9
 v9:=Tryz.zeroValue9
 t20:=Tryz.underlying20
 a20:=Tryz.isAgg20
 z20:=Tryz.sizeOf20
 v20:=Tryz.zeroValue20
 t37:=Tryz.underlying187
 a37:=Tryz.isAgg187
 z37:=Tryz.sizeOf187
 v37:=Tryz.zeroValue187
 t46:=Tryz.underlying205
 a46:=Tryz.isAgg205
 z46:=Tryz.sizeOf205
 v46:=Tryz.zeroValue205
 t51:=Tryz.underlying196
 a51:=Tryz.isAgg196
 z51:=Tryz.sizeOf196
 v51:=Tryz.zeroValue196
 t53:=Tryz.underlying153
 a53:=Tryz.isAgg153
 z53:=Tryz.sizeOf153
 v53:=Tryz.zeroValue153
 t70:=Tryz.underlying186
 a70:=Tryz.isAgg186
 z70:=Tryz.sizeOf186
 v70:=Tryz.zeroValue186
 t72:=Tryz.underlying189
 a72:=Tryz.isAgg189
 z72:=Tryz.sizeOf189
 v72:=Tryz.zeroValue189
 t75:=Tryz.underlying191
 a75:=Tryz.isAgg191
 z75:=Tryz.sizeOf191
 v75:=Tryz.zeroValue191
 t76:=Tryz.underlying192
 a76:=Tryz.isAgg192
 z76:=Tryz.sizeOf192
 v76:=Tryz.zeroValue192
 t109:=Tryz.underlying206
 a109:=Tryz.isAgg206
 z109:=Tryz.sizeOf206
 v109:=Tryz.zeroValue206
 t127:=Tryz.underlying225
 a127:=Tryz.isAgg225
 z127:=Tryz.sizeOf225
 v127:=Tryz.zeroValue225
 t146:=Tryz.underlying232
 a146:=Tryz.isAgg232
 z146:=Tryz.sizeOf232
 v146:=Tryz.zeroValue232
 t148:=Tryz.underlying158
 a148:=Tryz.isAgg158
 z148:=Tryz.sizeOf158
 v148:=Tryz.zeroValue158
 t164:=Tryz.underlying238
 a164:=Tryz.isAgg238
 z164:=Tryz.sizeOf238
 v164:=Tryz.zeroValue238 }
theorem Tryz.Builder_Extra_105:Builder.Extra Tryz.prog Tryz.lays105_ren:={
 sizeBuilder:=by kernel_rfl
 liesBuilder:=by kernel_rfl
 t5:=Tryz.underlying5
 a5:=Tryz.isAgg5
 z5:=Tryz.sizeOf5
 v5:=Tryz.zeroValue5
 infoByte:=by kernel_rfl
 cellsByte:=by kernel_rfl
 sizeByte:=by kernel_rfl
 neB5:=by decide }
end Go.Proofs
namespace Go.Eng
open Go.Proofs Go.RowKit Go.Shelf
theorem writes:Zcs Tryz.prog 133 189 5:=fun B b bs s w h hl hB=>Any.Builder_WriteString { Tryz.lays105 with } Tryz.Builder_Extra_105 B b bs s w h hl hB
theorem tells:Tells Tryz.prog 134 189 5:=fun B b l w h hB=>Any.Builder_String_any { Tryz.lays105 with } Tryz.Builder_Extra_105 B b l w h hB
end Go.Eng
namespace Go.Eng
open Go.Proofs Go.RowKit
theorem Zly (l:List UInt8) (c:Nat):Lib.repeatL l c=(List.replicate c l).flatten:=by
 induction c with
 | zero=>rfl
 | succ c ih=>simp [Lib.repeatL,List.replicate_succ,ih]
theorem ZLt {b:World} {a:Zb} (hv:VIn a b) {f:List Value} {s:List UInt8} (k:Rep.rel Z7a a f s) {g:List Value} {c:Int} (l:Rep.rel (Zd .i64) a g c) {z:List UInt8} (hm:Zkg s c=some z) :
  Ret Tryz.prog 132 #[Z7a.val f,(Zd .i64).val g] b a (fun y v'=>∃ h,y=Z7a.val h∧Z7a.rel v' h z):=by
 obtain ⟨rfl,hs⟩:=k;obtain ⟨rfl,hc⟩:=l;unfold Zkg at hm;split at hm
 ·rename_i hh
  cases hm
  obtain ⟨C,rfl⟩:=Int.eq_ofNat_of_zero_le hh.1;have hc:=ZYa.1 hc;have d:=hh.2;rw [Int.toNat_natCast] at d;have:=Any.strings_Repeat Tryz.lays105 Tryz.Builder_Extra_105 (Zs s) C b (by omega) (by rw [ZOc];exact d);refine Calls.mono this fun e w' ⟨i,j⟩=>?_;have m:(⟨(Lib.repeatL (Zs s).data.toList C).toArray⟩:ByteArray)=Zs (List.replicate C s).flatten:=by
   rw [Zly];rfl
  rw [m] at i;exact ⟨_,a,i,j,VStep.ext hv j,[.string (Zs (List.replicate C s).flatten)],rfl,rfl,by simp only [Int.toNat_natCast];rw [List.length_flatten];simp;unfold maxLen;rw [Nat.mul_comm] at d;omega⟩
 ·cases hm
theorem text_w {e:World} {c:Zb} (hv:VIn c e) {c0:List Value} {a:Nat} (p0:Rep.rel Zt c c0 a) {z:(List UInt8)} (H:Zsi a=some z):Ret Tryz.prog 89 #[Zt.val c0] e c (fun y v'=>∃ r0,y=Z7a.val r0∧Z7a.rel v' r0 z):=by
 obtain ⟨q1,n2,k3,rfl⟩:=ZKa p0;refine Z1h (K:=49) (args:=[.slice q1 n2 k3]) hv Tryz.func89 rfl rfl zl fun f S=>?_;unfold Zsi at H;refine sr (mw S rfl fun f S=>oe (sr ?_));have S:=S.nilLoc 9 1;refine ov S rfl (Zsd S (y:=.slice (mkA none) 0 0) rfl) fun f S=>oe (Zz fun _ ar=>?_);obtain ⟨au,av,ax⟩:=Zha H;refine Z0c (fun f w=>∃ o F s G U I,o=au∧Zb.le c I∧St 49 e c [(3,.slice (mkA F) s G)] [Loc.own F 9 1 s G U] I f w∧Rep.rels Z7a I U o∧s=o.length) (fun _ ay=>?_) ?_
 ·have H:=av;refine wp_block ?_;obtain ⟨bt,az,aA⟩:=Zha H;refine ZMd az (fun aB f w=>∃ J g L M N p h q k t,(J,g)=aB∧Zb.le c t∧St 49 e c [(0,.slice L M N),(3,.slice (mkA p) h q)] [Loc.own p 9 1 h q k] t f w∧Rep.rel Zt t [.slice L M N] J∧Rep.rels Z7a t k g∧h=g.length) ⟨_,_,_,_,_,none,0,0,[],_,rfl,(leR _),(S.fr' rfl),p0,ZMe,rfl⟩ ?_;rintro _ f w st ⟨J,g,L,M,N,p,h,q,k,t,hq,ac,S,ad,d,ae⟩ H bu aC aD;subst hq;refine Zz fun _ aE=>sr (mv S rfl fun f S=>ov S rfl (ZTb S (Z5a ad) rfl rfl Zca) fun f S=>ov S rfl (ZC S rfl rfl Zrf) fun f S=>oe ?_);rcases Zpb (decide ((0:Int)<(((Zc 18446744073709551616 J)).length:Int))) with u | u
  ·have H:=Zjb H u;refine Zrb S rfl u (wp_skip (Zp (aE _ _ (wp_block (Zz fun _ aF=>bO H fun O aG H=>ZV (mv S rfl fun f S=>opc S rfl (Zsa S [.slice L M N,.int .u64 10000000000000000000] Z4q rfl rfl) (ZDs S.vin ad (show Rep.rel (Zd .u64) _ [.int .u64 10000000000000000000] (10000000000000000000:Int) from (Z6 (by decide))) aG) ?_))))));rintro _ bv f w af ⟨bw,bx,rfl,m,aH⟩ S;have d:=ZN af d;obtain ⟨aI,aJ,aK,rfl⟩:=ZKa m;obtain ⟨rfl,aL⟩:=aH;refine mv S rfl fun f S=>ov S rfl (Zya S rfl rfl) fun f S=>ov S rfl (Zya S rfl rfl) fun f S=>mw S rfl fun f S=>mw S rfl fun f S=>ZO (Zp (aF _ _ (Zz fun _ aM=>bO H fun bz aN H=>ZV (mv S rfl fun f S=>opc S rfl (Zsa S [.int .u64 (O.2)] k_en131 rfl rfl) (Zmx S.vin (show Rep.rel (Zd .u64) _ [.int .u64 (O.2)] O.2 from (Z6 aL)) aN) ?_))));rintro _ aO f w V ⟨bA,rfl,aP⟩ S;have d:=ZN V d;obtain ⟨rfl,aQ⟩:=aP;refine mw S rfl fun f S=>ZO (Zp (aM _ _ (Zz fun _ aR=>sr (mv S rfl fun f S=>?_))));have m:=ZBa V m;refine ov S rfl (ZTb S (Z5a m) rfl rfl Zca) fun f S=>ov S rfl (ZC S rfl rfl Zrf) fun f S=>oe ?_;obtain ⟨aS,aT,aU⟩:=Zha H;refine Z0c (fun f w=>∃ b P,b=aS∧Zb.le aO P∧St 49 e c [(3,.slice (mkA p) h q),(4,.slice aI aJ aK),(6,.string (Zs b))] [Loc.own p 9 1 h q k] P f w∧b.length≤maxLen) (fun _ ag=>?_) ?_
   ·have H:=aT;rcases Zpb (decide ((0:Int)<(((Zc 18446744073709551616 O.1)).length:Int))) with v | v
    ·have H:=Zjb H v;refine Zrb S rfl v (bO H fun W ah H=>bO H fun bB aV H=>bO H fun bC ai H=>ZV (mv S rfl fun f S=>ov S rfl (ZOs S rfl rfl Tryz.underlying9) fun f S=>ov S rfl (ZC S rfl rfl (ZPb ah)) fun f S=>opc S rfl (Zsa S [.string (Zs (([48]:List UInt8))),.int .i64 W] k_en132 rfl rfl) (ZLt S.vin (show Rep.rel Z7a _ [.string (Zs (([48]:List UInt8)))] (([48]:List UInt8)) from (ZPh zl)) (show Rep.rel (Zd .i64) _ [.int .i64 W] W from (Z6 (ZBb ah).2)) aV) ?_));rintro _ bD f w aj ⟨bE,rfl,aW⟩ S;have d:=ZN aj d;obtain ⟨rfl,bG⟩:=aW;refine mv S rfl fun f S=>ov S rfl (Zwj S rfl rfl (Zyr ai)) fun f S=>mw S rfl fun f S=>ZO ?_;obtain rfl:=ZJ H;refine Zp (ag _ _ ⟨_,_,rfl,(leT (leR _) aj),(S.fr' rfl),(ZVj ai)⟩)
    have H:=Znb H v;refine ZEa S rfl v (wp_skip ?_);obtain rfl:=ZJ H;refine Zp (ag _ _ ⟨_,_,rfl,(leR _),(S.fr' rfl),aQ⟩)
   rintro f w ⟨b,P,hq,X,S,aX⟩;subst hq;have H:=aU;have d:=ZN X d;refine Zp (aR _ _ (bO H fun bH aY H=>ZV (mv S rfl fun f S=>mv S rfl fun f S=>?_)));obtain ⟨bI,w,aZ,S⟩:=Z2g S (n:=1) (cs:=[.string (Zs b)]) (vals:=[(0,.string (Zs b))]) (sz:=1) rfl (by decide) (ZAq Z2o (x:=.string (Zs b)) (cs:=[.string (Zs b)]) rfl rfl (by decide));have Y:Rep.rels Z7a P [.string (Zs b)] [b]:=(ZPp (ZPh aX) ZMe);refine Zyc wn rfl zl (aZ rfl) S fun f S=>?_;have a0:=S;obtain ⟨ak,al,w,a1,S⟩:=ZKi (ty:=181) Z2o S (i:=1) (n':=(g++[b]).length) rfl (ZNd Y rfl) (ZUg S (j:=0) rfl) (Zyg Y) (appN ae rfl) (Zke aY) (by decide);have a2:=Z4b d Y;refine Zyc wn rfl zl (ZRd a0 rfl rfl a1) S fun f S=>mv S rfl fun f S=>mw S rfl fun f S=>mw S rfl fun f S=>ZO (Znd ?_);obtain rfl:=ZJ H;have S:=S.reorder (ℓ':=[Loc.own ak 9 1 ((g++[b]).length) al ((k++[.string (Zs b)]))]) [1] rfl (by decide);have m:=ZBa X m;refine aC _ rfl _ _ ⟨_,_,_,_,_,ak,(g++[b]).length,al,(k++[.string (Zs b)]),_,rfl,(leT (leT (leT ac af) V) X),(S.fr' rfl),m,a2,rfl⟩
  have H:=Znb H u;refine ZEa S rfl u (wp_exit (Zab ?_));obtain rfl:=ZJ H;have hq:=aD _ rfl;subst hq;have H:=aA;refine Zab (Ztd ?_);obtain rfl:=ZJ H;refine Zp (ay _ _ ⟨_,p,h,q,k,_,rfl,(leT (leR _) ac),(S.fr' rfl),d,ae⟩)
 rintro f w ⟨o,F,s,G,U,I,hq,bJ,S,a3,am⟩;subst hq;have H:=ax;refine Zp (ar _ _ (Zz fun _ a4=>sr (mv S rfl fun f S=>ov S rfl (ZTb S am rfl rfl ZFm) fun f S=>ov S rfl (ZC S rfl rfl Z4f) fun f S=>oe ?_)));rcases Zpb (((o.length:Int))==(0:Int)) with B | B
 ·have H:=Zjb H B;refine Zrb S rfl B (sr (mw S rfl fun f S=>oe (wp_ret (Zzh ?_))));obtain rfl:=ZJ H;refine Zaf S (ZGc rfl (Z2a S rfl)) ⟨[.string (Zs (([48]:List UInt8)))],rfl,(ZPh zl)⟩
 have H:=Znb H B;refine ZEa S rfl B (wp_skip (Zp (a4 _ _ (sr ?_))));obtain ⟨an,bK,S,C⟩:=S.pubSlice (i:=0) (A:=Z7a) (l:=o) (ℓ':=[]) rfl rfl am a3 rfl;refine op_newB 5 S wn rfl zl (ZDl k_zv189) fun r f w S a5=>oe (Zz fun _ a6=>Zz fun _ a7=>bO H fun bM ao H=>ZV (mv S rfl fun f S=>ov S rfl (ZTb S (Z5a C) rfl rfl ZFm) fun f S=>ov S rfl (ZC S rfl rfl (ZPb ao)) fun f S=>mw S rfl fun f S=>ZO (Zp (a7 _ _ ?_))));obtain ⟨a8,a9,ba⟩:=Zha H;refine Z0c (fun f w=>∃ Q R,Q=a8∧Zb.le an R∧St 49 e c [(7,.pointer (some ⟨r,0,none⟩))] [] R f w∧Bld 189 5 r e R Q w) (fun _ bb=>?_) ?_
 ·have H:=a9;refine wp_block ?_;obtain ⟨bP,bc,bd⟩:=Zha H;refine ZMd bc (fun be f w=>∃ Z D T,(Z,D)=be∧Zb.le an T∧St 49 e c [(3,.slice (mkA F) s G),(7,.pointer (some ⟨r,0,none⟩)),(8,.int .i64 D)] [] T f w∧Bld 189 5 r e T Z w∧inR .i64 D) ⟨_,_,_,rfl,(leR _),(S.fr' rfl),a5,(ZBb ao).2⟩ ?_;rintro _ f w st ⟨Z,D,T,hq,aa,S,ap,bQ⟩ H bR bf bg;subst hq;refine Zz fun _ bh=>sr (mv S rfl fun f S=>ov S rfl (ZC S rfl rfl ZKn) fun f S=>oe ?_);rcases Zpb (decide ((0:Int)≤D)) with E | E
  ·have H:=Zjb H E;refine Zrb S rfl E (wp_skip (Zp (bh _ _ (Zz fun _ bi=>wp_block (bO H fun bj ab H=>bO H fun bS bk H=>ZV (mv S rfl fun f S=>mv S rfl fun f S=>?_))))));have C:=ZBa aa C;obtain ⟨_,bT,bU,bV,bm,bn,bo⟩:=Zac C (Zn ab).2.1;obtain ⟨rfl,rfl⟩:=Zax bm;obtain ⟨rfl,bW⟩:=bo;refine ov S rfl (Zna S rfl rfl ZFm (Zn ab).1 (ltI (Z5a C) (Zn ab).2.2.1)) fun f S=>ov S rfl (Zeb S rfl k_sz9 (S.view bn)) fun f S=>Zlw writes ap (ZRu bk) S wn rfl zl (Zsa S [.pointer (some ⟨r,0,none⟩),.string (Zs bj)] k_en133 rfl rfl) fun f w S bp=>ZO (Znd (Zp (bi _ _ (bO H fun bX aq H=>ZV (mv S rfl fun f S=>ov S rfl (ZC S rfl rfl (ZPb aq)) fun f S=>mw S rfl fun f S=>ZO ?_)))));obtain rfl:=ZJ H;refine bf _ rfl _ _ ⟨_,_,_,rfl,aa,(S.fr' rfl),bp,(ZBb aq).2⟩
  have H:=Znb H E;refine ZEa S rfl E (wp_exit (Zab ?_));obtain rfl:=ZJ H;have hq:=bg _ rfl;subst hq;have H:=bd;refine Zab (Ztd ?_);obtain rfl:=ZJ H;refine Zp (bb _ _ ⟨_,_,rfl,(leT (leR _) aa),(S.fr' rfl),ap⟩)
 rintro f w ⟨Q,R,hq,bY,S,bq⟩;subst hq;have H:=ba;refine Zp (a6 _ _ (Zz fun _ br=>bO H fun bZ bs H=>ZV (op_tell tells bq S wn rfl zl (Zsa S [.pointer (some ⟨r,0,none⟩)] k_en134 rfl rfl) fun f w S=>mw S rfl fun f S=>ZO (Zp (br _ _ (wp_ret ?_))))));obtain rfl:=ZJ H;refine Zaf S (ZGc rfl (Z2a S rfl)) ⟨[.string (Zs Q)],rfl,(ZPh (ZVj bs))⟩
theorem text_c {c:World} {b:Zb} (hv:VIn b c) {d:List Value} {a:Nat} (f:Rep.rel Zt b d a) {z:(List UInt8)} (hm:Z8e a=some z) :
  Ret Tryz.prog 89 #[Zt.val d] c b (fun y v'=>∃ e,y=Z7a.val e∧Z7a.rel v' e z) :=
 text_w hv f (ZDt hm)
end Go.Eng
set_option maxRecDepth 100000
set_option maxHeartbeats 4000000
namespace Go.Eng
open Go.Proofs Go.RowKit
noncomputable def Zil:FuncId×Con:=(89,⟨[.leaf 0],[.str],fun p=>Z8e p⟩)
theorem text_k:Zce Tryz.prog Zil.1 Zil.2:=fun w v vals x z hv ha hz=>by
 obtain ⟨c0,e0,p0⟩:=ha;subst e0
 exact .inl ⟨fun _ _=>by kernel_rfl,Ret.mono (text_c hv p0 hz) fun y v' _ ⟨r0,e,h0⟩=>⟨r0,e,h0⟩⟩
end Go.Eng
set_option maxRecDepth 100000
set_option maxHeartbeats 4000000
namespace Go.Eng
open Go.Proofs Go.RowKit
noncomputable def Z8m:FuncId×Con:=(40,⟨[.leaf 3],[.str],fun p=>ZSh p⟩)
theorem Zor:KQ Z8m:=Zk (Zx (C:=cf0 [Zil] [] [] []) (.n (.n (.two (.n (.j [1] [] [.s 3 (.dat .str)] .no)) (.f (.n (.j [] [] [.s 3 (.dat .str)] .no)))))) Tryz.func40 [] (fun v vals x z ha hz=>.trans (by kernel_rfl) (Zpw hz)) ⟨text_k,tr⟩)
noncomputable def Zpt (x:Rat):Option ((List UInt8)) :=
 bnd (Z5f x.num.natAbs) fun b =>
 bnd (ifb (decide (x.num<0))
 (bnd (ZGd x) fun d =>
 some (!(d)))
 (some false))
 (fun (e:Bool) =>
 (bnd (ifb (e)
 (bnd (Zfb ((([45]:List UInt8))++b)) fun j =>
 some (((([45]:List UInt8))++b)))
 (some b))
 (fun (a:(List UInt8)) =>
 (bnd (ZHd x) fun f =>
 bnd (ZLb ([(1:Int)])) fun g =>
 bnd (ZVc f g) fun h =>
 bnd (ifb (decide ((0:Int)<h))
 (bnd (Zfb (a++(([47]:List UInt8)))) fun k =>
 bnd (Z5f x.den) fun c =>
 bnd (Zfb (((a++(([47]:List UInt8))))++c)) fun l =>
 some ((((a++(([47]:List UInt8))))++c)))
 (some a))
 (fun (i:(List UInt8)) =>
 (some i))))))
end Go.Eng
set_option maxRecDepth 100000
set_option maxHeartbeats 4000000
namespace Go.Eng
open Go.Proofs Go.RowKit
noncomputable def Zrl:FuncId×Con:=(151,⟨[.leaf 4],[.bool],fun p=>ZGd p⟩)
theorem Zss:KQ Zrl:=Zk (Zx (C:=cf2 [(95,1),(97,4)] []) .no Tryz.func151 [] (fun v vals x z ha hz=>.trans (by kernel_rfl) (Zxx hz)))
end Go.Eng
set_option maxRecDepth 100000
set_option maxHeartbeats 4000000
namespace Go.Eng
open Go.Proofs Go.RowKit
noncomputable def ZBj:FuncId×Con:=(183,⟨[.leaf 4],[.leaf 1],fun p=>ZHd p⟩)
theorem ZHn:KQ ZBj:=Zk (Zx (C:=cf2 [(95,1),(97,4)] []) .no Tryz.func183 [] (fun v vals x z ha hz=>.trans (by kernel_rfl) (Zfx hz)))
end Go.Eng
set_option maxRecDepth 100000
set_option maxHeartbeats 4000000
namespace Go.Eng
open Go.Proofs Go.RowKit
noncomputable def Zxr:FuncId×Con:=(186,⟨[.leaf 1],[.str],fun p=>Z5f p⟩)
theorem Zdu:KQ Zxr:=Zk (Zx (C:=cf2 [(95,1),(97,4)] [Zin]) (.n (.n (.f (.j [] [] [.s 3 (.dat .str)] (.f (.l [] [] [.s 0 (.dat (.leaf 1)),.s 3 (.dat .str)] 0 [] [] [.s 3 (.dat .str)] (.f (.n (.f (.n (.f (.n (.j [4] [] [.s 3 (.dat .str)] (.f (.l [4] [] [.s 3 (.dat .str),.s 5 (.dat (.int .u32)),.s 6 (.dat (.int .i64))] 2 [4] [] [.s 3 (.dat .str)] (.f (.f (.f (.j [3,4,5,6] [] [.s 25 (.dat .bool)] .no))))))))))))))))))) Tryz.func186 [] (fun v vals x z ha hz=>.trans (by kernel_rfl) (ZVt hz)) ⟨Zwq,tr⟩)
theorem ZBy {x:Rat} {z:List UInt8} (h:Z9j x=some z):Zpt x=some z:=by
 unfold Z9j at h;split at h
 ·rename_i hh;obtain ⟨h1,h2⟩:=hh
  cases h
  unfold Zpt Z5f;have l1:=ZWi (n:=x.num.natAbs) (by omega);have l2:=ZWi (n:=x.den) (by omega);rw [if_pos (ZEf h1),Za];have e0:ifb (decide (x.num<0)) (bnd (ZGd x) fun y136=>some (!(y136))) (some false)=some (decide (x.num<0)):=by
   unfold ZGd;by_cases h:x.num<0
   ·have:x≠0:=fun e=>by subst e;simp at h
    rw [decide_eq_true h,Ze,Za,decide_eq_false this];rfl
   ·rw [decide_eq_false h,Zf]
  rw [e0,Za];have e1:ifb (decide (x.num<0)) (bnd (Zfb ([45]++ZHa x.num.natAbs)) fun y80=>some (([45]:List UInt8)++ZHa x.num.natAbs)) (some (ZHa x.num.natAbs))=some ((if x.num<0 then [45] else [])++ZHa x.num.natAbs):=by
   by_cases h:x.num<0
   ·rw [decide_eq_true h,Ze,Z0d (by simp;omega),Za,if_pos h]
   ·rw [decide_eq_false h,Zf,if_neg h];rfl
  rw [e1,Za];unfold txtQ ZHd ZVc;have l3:((if x.num<0 then [45] else [])++ZHa x.num.natAbs:List UInt8).length≤4398046511105:=by
   rw [List.length_append];split <;> simp <;> omega
  generalize ((if x.num<0 then [45] else [])++ZHa x.num.natAbs:List UInt8)=s at *;rw [Za,Zbl,Za,Za,Zjp];by_cases hd:x.den=1
  ·rw [hd];simp [ifb,bnd]
  ·have:=x.den_nz;rw [decide_eq_true (by omega),Ze,Z0d (by simp;omega),Za,if_pos (ZEf h2),Za,Z0d (by simp;omega),Za,Za,if_neg hd];simp
 ·cases h
end Go.Eng
set_option maxRecDepth 100000
set_option maxHeartbeats 4000000
namespace Go.Eng
open Go.Proofs Go.RowKit
noncomputable def Zat:FuncId×Con:=(161,⟨[.leaf 4],[.str],fun p=>Z9j p⟩)
theorem rtext_k:KQ Zat:=Zk (Zx (C:=cf2 [(95,1),(97,4)] [Zrl,ZBj,ZQj,Zxr]) (.n (.n (.two (.two (.j [1,3] [] [.s 13 (.dat .bool)] .no) (.j [1] [] [.s 3 (.dat .str)] .no)) (.f (.n (.j [] [] [.s 3 (.dat .str)] .no)))))) Tryz.func161 [] (fun v vals x z ha hz=>.trans (by kernel_rfl) (ZBy hz)) ⟨Zss,ZHn,Zon,Zdu,tr⟩)
end Go.Eng
set_option maxRecDepth 100000
set_option maxHeartbeats 4000000
namespace Go.Eng
open Go.Proofs Go.RowKit
noncomputable def is1_q:FuncId×Con:=(128,⟨[.leaf 3,.leaf 4],[.bool],fun p=>is1_m p.1 p.2⟩)
theorem is1_k:KQ is1_q:=Zk (ZD (C:=cf0 [Z8m,Zat] [] [] []) .no Tryz.func128 [] (fun _=>by kernel_rfl) ⟨Zor,rtext_k,tr⟩)
end Go.Eng
set_option maxRecDepth 100000
set_option maxHeartbeats 4000000
namespace Go.Eng
open Go.Proofs Go.RowKit
noncomputable def ZKr:FuncId×Con:=(117,⟨[.pair (.leaf 4) (.pair (.leaf 4) (.pair (.leaf 4) (.leaf 4)))],[.bool],fun p=>Zdm p⟩)
theorem sZero_k:KQ ZKr:=Zk (ZD (C:=cf0 [Zrl] [] [] []) (.n (.f (.j [] [] [.s 2 (.dat .bool)] .no))) Tryz.func117 [] (fun _=>by kernel_rfl) ⟨Zss,tr⟩)
end Go.Eng
set_option maxRecDepth 100000
set_option maxHeartbeats 4000000
namespace Go.Eng
open Go.Proofs Go.RowKit
noncomputable def Zjt:FuncId×Con:=(162,⟨[.pair (.pair (.leaf 4) (.pair (.leaf 4) (.pair (.leaf 4) (.leaf 4)))) (.pair (.leaf 4) (.pair (.leaf 4) (.pair (.leaf 4) (.leaf 4))))],[.bool],fun p=>ZUp p⟩)
theorem wZero_k:KQ Zjt:=Zk (ZD (C:=cf0 [ZKr] [] [] []) (.n (.f (.j [] [] [.s 2 (.dat .bool)] .no))) Tryz.func162 [] (fun _=>by kernel_rfl) ⟨sZero_k,tr⟩)
end Go.Eng
set_option maxRecDepth 100000
set_option maxHeartbeats 4000000
namespace Go.Eng
open Go.Proofs Go.RowKit
noncomputable def Z1p:FuncId×Con:=(178,⟨[.leaf 1,.leaf 1],[.leaf 1],fun p=>Z8f p.1 p.2⟩)
theorem rsum_k:KQ Z1p:=Zk (Zx (C:=cf2 [(95,1),(97,4)] [ZSd]) (.n (.n (.n (.f (.n (.j [] [] [.s 5 (.own 196 (.int .u32)),.s 6 (.dat (.int .u64))] (.f (.l [0,1] [] [.s 5 (.own 196 (.int .u32)),.s 6 (.dat (.int .u64)),.s 7 (.dat (.int .i64))] 0 [] [] [.s 5 (.own 196 (.int .u32)),.s 6 (.dat (.int .u64))] (.f (.two (.f (.j [0,1,5,6,7] [] [.s 18 (.dat .bool)] .no)) (.f (.f (.two (.n (.j [0,1,5,7] [] [.s 6 (.dat (.int .u64))] .no)) (.f (.n (.j [0,1,5,7] [] [.s 6 (.dat (.int .u64))] .no)))))))))))))))) Tryz.func178 [] (fun v vals x z ha hz=>.trans (by kernel_rfl) (ZBu hz)) ⟨ZYe,tr⟩)
theorem radd_eq {x y:Rat} (h:smQ x) (h':smQ y):ZEl x y=some (x+y):=by
 obtain ⟨a1,a2⟩:=h;obtain ⟨b1,b2⟩:=h';unfold ZEl ZHd;have p1:=Zxb x.num.natAbs y.den;have p2:=Zxb y.num.natAbs x.den;have p3:=Zxb x.den y.den;have p4:=Zym (x.num.natAbs*y.den) (y.num.natAbs*x.den);have hd:x.den*y.den≠0:=Nat.mul_ne_zero x.den_nz y.den_nz;have e1:Zsb x.num.natAbs y.den=some (x.num.natAbs*y.den):=by unfold Zsb;rw [if_pos ⟨ZKd (by omega),ZKd (by omega)⟩]
 have e2:Zsb y.num.natAbs x.den=some (y.num.natAbs*x.den):=by unfold Zsb;rw [if_pos ⟨ZKd (by omega),ZKd (by omega)⟩]
 have e3:Zsb x.den y.den=some (x.den*y.den):=by unfold Zsb;rw [if_pos ⟨ZKd (by omega),ZKd (by omega)⟩]
 have eN:((x.num.natAbs*y.den:Nat):Int)=(x.num.natAbs:Int)*y.den:=by simp
 have eM:((y.num.natAbs*x.den:Nat):Int)=(y.num.natAbs:Int)*x.den:=by simp
 have key:∀ (s:Bool) (n:Nat),bl n≤1099511627776→sgn s n=x.num*y.den+y.num*x.den→ZSb s n (x.den*y.den)=some (x+y):=by
  intro s n hn he;unfold ZSb;rw [if_pos ⟨ZEf hn,ZEf (by omega),hd⟩,he,← Rat.add_def']
 rw [Za,Za,e1,Za,e2,Za,e3];obtain ⟨N,hN⟩:∃ N,N=x.num.natAbs*y.den:=⟨_,rfl⟩;obtain ⟨M,hM⟩:∃ M,M=y.num.natAbs*x.den:=⟨_,rfl⟩;rw [← hN] at p1 p4 eN ⊢;rw [← hM] at p2 p4 eM ⊢;have sx:x.num*(y.den:Int)=if x.num<0 then -(N:Int) else N:=by
  split
  ·rw [eN,← Int.neg_mul];congr 1;omega
  ·rw [eN];congr 1;omega
 have sy:y.num*(x.den:Int)=if y.num<0 then -(M:Int) else M:=by
  split
  ·rw [eM,← Int.neg_mul];congr 1;omega
  ·rw [eM];congr 1;omega
 by_cases hs:(x.num<0)↔(y.num<0)
 ·have e4:Z8f N M=some (N+M):=by unfold Z8f;rw [if_pos ⟨ZKd (by omega),ZKd (by omega)⟩]
  have e5:((decide (x.num<0))==(decide (y.num<0)))=true:=by
   by_cases h:x.num<0
   ·simp [h,hs.1 h]
   ·have h2:¬ y.num<0:=fun k=>h (hs.2 k);simp [h,h2]
  rw [e5,Ze,e4,Za,Za,key _ _ (by omega) ?_,Za];rw [sx,sy];unfold sgn;by_cases h:x.num<0
  ·have h2:=hs.1 h;simp [h,h2];omega
  ·have h2:¬ y.num<0:=fun k=>h (hs.2 k);simp [h,h2]
 ·have e5:((decide (x.num<0))==(decide (y.num<0)))=false:=by
   apply beq_false_of_ne;intro h;exact hs (by by_cases k:x.num<0 <;> by_cases k2:y.num<0 <;> simp_all)
  rw [e5,Zf];unfold ZVc;rw [Za];by_cases hle:M≤N
  ·have e6:decide ((0:Int)≤Z7 N M)=true:=by
    unfold Z7;rw [if_neg (by omega)];split <;> rfl
   have e4:ZNb N M=some (N-M):=by unfold ZNb;rw [if_pos ⟨ZKd (by omega),hle⟩]
   have hb:bl (N-M)≤bl N:=ZYd (by omega);rw [e6,Ze,e4,Za,Za,key _ _ (by omega) ?_,Za];rw [sx,sy];unfold sgn;by_cases h:x.num<0
   ·have h2:¬ y.num<0:=fun k=>hs ⟨fun _=>k,fun _=>h⟩;simp [h,h2];omega
   ·have h2:y.num<0:=by
     rcases Int.lt_or_le y.num 0 with k | k
     ·exact k
     ·exact absurd ⟨fun q=>absurd q h,fun q=>absurd q (by omega)⟩ hs
    simp [h,h2];omega
  ·have e6:decide ((0:Int)≤Z7 N M)=false:=by
    unfold Z7;rw [if_pos (by omega)];rfl
   have e4:ZNb M N=some (M-N):=by unfold ZNb;rw [if_pos ⟨ZKd (by omega),by omega⟩]
   have hb:bl (M-N)≤bl M:=ZYd (by omega);rw [e6,Zf,e4,Za,Za,key _ _ (by omega) ?_,Za];rw [sx,sy];unfold sgn;by_cases h:x.num<0
   ·have h2:¬ y.num<0:=fun k=>hs ⟨fun _=>k,fun _=>h⟩;simp [h,h2];omega
   ·have h2:y.num<0:=by
     rcases Int.lt_or_le y.num 0 with k | k
     ·exact k
     ·exact absurd ⟨fun q=>absurd q h,fun q=>absurd q (by omega)⟩ hs
    simp [h,h2];omega
theorem Zqx {x y z:Rat} (h:Zsf x y=some z):ZEl x y=some z:=by
 unfold Zsf at h;split at h
 ·rename_i hh;rw [radd_eq hh.1 hh.2,h]
 ·cases h
end Go.Eng
set_option maxRecDepth 100000
set_option maxHeartbeats 4000000
namespace Go.Eng
open Go.Proofs Go.RowKit
noncomputable def ZZp:FuncId×Con:=(159,⟨[.leaf 4,.leaf 4],[.leaf 4],fun p=>Zsf p.1 p.2⟩)
theorem radd_k:KQ ZZp:=Zk (Zx (C:=cf2 [(95,1),(97,4)] [Zvh,Z1p,Zal,ZBj,ZQj,ZEm]) .no Tryz.func159 [] (fun v vals x z ha hz=>.trans (by kernel_rfl) (Zqx hz)) ⟨ZNj,rsum_k,ZYs,ZHn,Zon,ZTn,tr⟩)
end Go.Eng
set_option maxRecDepth 100000
set_option maxHeartbeats 4000000
namespace Go.Eng
open Go.Proofs Go.RowKit
noncomputable def ZVq:FuncId×Con:=(123,⟨[.pair (.leaf 4) (.pair (.leaf 4) (.pair (.leaf 4) (.leaf 4))),.pair (.leaf 4) (.pair (.leaf 4) (.pair (.leaf 4) (.leaf 4)))],[.pair (.leaf 4) (.pair (.leaf 4) (.pair (.leaf 4) (.leaf 4)))],fun p=>ZPr p.1 p.2⟩)
theorem sAdd_k:KQ ZVq:=Zk (ZD (C:=cf0 [ZZp] [] [] []) .no Tryz.func123 [] (fun _=>by kernel_rfl) ⟨radd_k,tr⟩)
theorem rneg_eq {x:Rat} (h:okQ x):Zvn x=some (-x):=by
 obtain ⟨h1,h2⟩:=h;unfold Zvn ZHd ZSb;rw [Za,if_pos ⟨ZEf h1,ZEf h2,x.den_nz⟩,Za];congr 1;have e:sgn (!(decide (x.num<0))) x.num.natAbs = -x.num:=by
  unfold sgn;by_cases h:x.num<0
  ·simp [h];omega
  ·simp [h];omega
 rw [e];exact Rat.mkRat_self (-x)
theorem ZCw {x z:Rat} (h:Zhf x=some z):Zvn x=some z:=by
 unfold Zhf at h;split at h
 ·rename_i hh;rw [rneg_eq hh,h]
 ·cases h
end Go.Eng
set_option maxRecDepth 100000
set_option maxHeartbeats 4000000
namespace Go.Eng
open Go.Proofs Go.RowKit
noncomputable def Z7q:FuncId×Con:=(160,⟨[.leaf 4],[.leaf 4],fun p=>Zhf p⟩)
theorem rneg_k:KQ Z7q:=Zk (Zx (C:=cf2 [(95,1),(97,4)] [Zvh,ZBj]) .no Tryz.func160 [] (fun v vals x z ha hz=>.trans (by kernel_rfl) (ZCw hz)) ⟨ZNj,ZHn,tr⟩)
end Go.Eng
set_option maxRecDepth 100000
set_option maxHeartbeats 4000000
namespace Go.Eng
open Go.Proofs Go.RowKit
noncomputable def Zmr:FuncId×Con:=(124,⟨[.pair (.leaf 4) (.pair (.leaf 4) (.pair (.leaf 4) (.leaf 4)))],[.pair (.leaf 4) (.pair (.leaf 4) (.pair (.leaf 4) (.leaf 4)))],fun p=>ZXp p⟩)
theorem sNeg_k:KQ Zmr:=Zk (ZD (C:=cf0 [Z7q] [] [] []) .no Tryz.func124 [] (fun _=>by kernel_rfl) ⟨rneg_k,tr⟩)
end Go.Eng
set_option maxRecDepth 100000
set_option maxHeartbeats 4000000
namespace Go.Eng
open Go.Proofs Go.RowKit
noncomputable def ZJr:FuncId×Con:=(80,⟨[.pair (.leaf 4) (.pair (.leaf 4) (.pair (.leaf 4) (.leaf 4))),.pair (.leaf 4) (.pair (.leaf 4) (.pair (.leaf 4) (.leaf 4)))],[.pair (.leaf 4) (.pair (.leaf 4) (.pair (.leaf 4) (.leaf 4)))],fun p=>Ztn p.1 p.2⟩)
theorem sSub_k:KQ ZJr:=Zk (ZD (C:=cf0 [ZVq,Zmr] [] [] []) .no Tryz.func80 [] (fun _=>by kernel_rfl) ⟨sAdd_k,sNeg_k,tr⟩)
end Go.Eng
set_option maxRecDepth 100000
set_option maxHeartbeats 4000000
namespace Go.Eng
open Go.Proofs Go.RowKit
noncomputable def Zwo:FuncId×Con:=(163,⟨[.pair (.pair (.leaf 4) (.pair (.leaf 4) (.pair (.leaf 4) (.leaf 4)))) (.pair (.leaf 4) (.pair (.leaf 4) (.pair (.leaf 4) (.leaf 4)))),.pair (.pair (.leaf 4) (.pair (.leaf 4) (.pair (.leaf 4) (.leaf 4)))) (.pair (.leaf 4) (.pair (.leaf 4) (.pair (.leaf 4) (.leaf 4))))],[.pair (.pair (.leaf 4) (.pair (.leaf 4) (.pair (.leaf 4) (.leaf 4)))) (.pair (.leaf 4) (.pair (.leaf 4) (.pair (.leaf 4) (.leaf 4))))],fun p=>Zwp p.1 p.2⟩)
theorem wSub_k:KQ Zwo:=Zk (ZD (C:=cf0 [ZJr] [] [] []) .no Tryz.func163 [] (fun _=>by kernel_rfl) ⟨sSub_k,tr⟩)
end Go.Eng
set_option maxRecDepth 100000
set_option maxHeartbeats 4000000
namespace Go.Eng
open Go.Proofs Go.RowKit
noncomputable def ZSq:FuncId×Con:=(129,⟨[.pair (.pair (.leaf 4) (.pair (.leaf 4) (.pair (.leaf 4) (.leaf 4)))) (.pair (.leaf 4) (.pair (.leaf 4) (.pair (.leaf 4) (.leaf 4)))),.pair (.pair (.leaf 4) (.pair (.leaf 4) (.pair (.leaf 4) (.leaf 4)))) (.pair (.leaf 4) (.pair (.leaf 4) (.pair (.leaf 4) (.leaf 4))))],[.bool],fun p=>ZSo p.1 p.2⟩)
theorem wSame_k:KQ ZSq:=Zk (ZD (C:=cf0 [Zjt,Zwo] [] [] []) .no Tryz.func129 [] (fun _=>by kernel_rfl) ⟨wZero_k,wSub_k,tr⟩)
end Go.Eng
set_option maxRecDepth 100000
set_option maxHeartbeats 4000000
namespace Go.Eng
open Go.Proofs Go.RowKit
noncomputable def is2_q:FuncId×Con:=(88,⟨[.slice (.leaf 3),.slice (.pair (.pair (.leaf 4) (.pair (.leaf 4) (.pair (.leaf 4) (.leaf 4)))) (.pair (.leaf 4) (.pair (.leaf 4) (.pair (.leaf 4) (.leaf 4)))))],[.bool],fun p=>is2_m p.1 p.2⟩)
theorem is2_k:KQ is2_q:=Zk (ZD (C:=cf0 [ZPl,is1_q,ZSq] [] [] []) (.n (.n (.f (.n (.f (.cut ⟨⟨[0,1,12],[],[.s 13 (.dat (.int .i64))]⟩,[(.exit 0,⟨[],[],[]⟩),(.ret,⟨[],[],[.s 1000 (.dat .bool)]⟩)]⟩ (.f (.n (.n (.f (.f (.n (.f (.j [0,1,12,13] [] [.s 42 (.dat .bool)] .no)))))))))))))) Tryz.func88 [] (fun _=>by kernel_rfl) ⟨ZOp,is1_k,wSame_k,tr⟩)
end Go.Eng
set_option maxRecDepth 100000
set_option maxHeartbeats 4000000
namespace Go.Eng
open Go.Proofs Go.RowKit
noncomputable def ZSn:FuncId×Con:=(39,⟨[.slice (.slice (.leaf 3)),.slice (.slice (.pair (.pair (.leaf 4) (.pair (.leaf 4) (.pair (.leaf 4) (.leaf 4)))) (.pair (.leaf 4) (.pair (.leaf 4) (.pair (.leaf 4) (.leaf 4))))))],[.bool],fun p=>Zvl p.1 p.2⟩)
theorem Z1v:KQ ZSn:=Zk (ZD (C:=cf0 [is2_q] [] [] []) (.n (.n (.f (.n (.f (.cut ⟨⟨[0,1,12],[],[.s 13 (.dat (.int .i64))]⟩,[(.exit 0,⟨[],[],[]⟩),(.ret,⟨[],[],[.s 1000 (.dat .bool)]⟩)]⟩ .no)))))) Tryz.func39 [] (fun _=>by kernel_rfl) ⟨is2_k,tr⟩)
end Go.Eng
set_option maxRecDepth 100000
set_option maxHeartbeats 4000000
namespace Go.Eng
open Go.Proofs Go.RowKit
noncomputable def Zho:FuncId×Con:=(8,⟨[],[.bool],fun _=>ZRe⟩)
theorem Zwy:KQ Zho:=Zk (ZD (C:=cf0 [ZJs,Zos,Zij,Z5s,Z9s,Znp,ZSn,Z8m] [] [] []) (.n (.n (.n (.n (.n (.n (.n (.n (.f (.j [] [] [.s 0 (.dat .bool)] .no)))))))))) Tryz.func8 [] (fun _=>by kernel_rfl) ⟨Z1t,Zut,Zhn,Zkv,ZIw,ZZu,Z1v,Zor,tr⟩)
end Go.Eng
set_option maxRecDepth 100000
set_option maxHeartbeats 4000000
namespace Go.Eng
open Go.Proofs Go.RowKit
noncomputable def ZRk:FuncId×Con:=(58,⟨[.slice (.slice (.leaf 3)),.slice (.leaf 3),.slice (.leaf 3)],[.bool],fun p=>Zwi p.1 p.2.1 p.2.2⟩)
theorem Z8p:KQ ZRk:=Zk (ZD (C:=cf0 [Zdg,ZAi] [] [] []) (.n (.f (.j [] [] [.s 6 (.dat .bool)] .no))) Tryz.func58 [] (fun _=>by kernel_rfl) ⟨ZDh,ZCl,tr⟩)
end Go.Eng
set_option maxRecDepth 100000
set_option maxHeartbeats 4000000
namespace Go.Eng
open Go.Proofs Go.RowKit
noncomputable def ZWr:FuncId×Con:=(59,⟨[.slice (.leaf 3)],[.bool],fun p=>Z4i p⟩)
theorem Zyv : KQ ZWr := Zk (ZD (C := cf0 [Zpe] [] [] [((47, "Sign"), 21)]) .no Tryz.func59 [(108, Tryz.f108, .no), (109, Tryz.f109, .no), (138, Tryz.f138, .r [] [] [.s 1000 (.dat (.int .i64))] (.n (.f (.n (.f (.cut ⟨⟨[0, 1, 7], [], [.s 8 (.dat (.int .i64))]⟩, [(.exit 0, ⟨[], [], []⟩), (.ret, ⟨[], [], [.s 1000 (.dat (.int .i64))]⟩)]⟩ .no))))))] (fun _ => by kernel_rfl) ⟨ZIe, tr⟩ tr ⟨Z2f, tr⟩ ⟨⟨Tryz.func108, fun _ _ => by kernel_rfl⟩, ⟨Tryz.func109, fun _ _ => by kernel_rfl⟩, ⟨Tryz.func138, fun _ _ => by kernel_rfl⟩, tr⟩)
end Go.Eng
set_option maxRecDepth 100000
set_option maxHeartbeats 4000000
namespace Go.Eng
open Go.Proofs Go.RowKit
noncomputable def Zam:FuncId×ConO:=(62,⟨[.slice (.leaf 3)],47,.leaf 3,fun p=>ZKf p⟩)
theorem ZTr : KO Zam := Z5n (C := cf0 [Z9c] [] [] [((47, "Neg"), 55)]) (.n (.n (.f (.n (.f (.l [6, 7] [] [.s 3 (.own 47 (.leaf 3)), .s 8 (.dat (.int .i64))] 0 [] [] [.s 3 (.own 47 (.leaf 3))] .no)))))) Tryz.func62 [] (fun _ => by kernel_rfl) ⟨Zne, tr⟩ tr ⟨ZJe, tr⟩
end Go.Eng
set_option maxRecDepth 100000
set_option maxHeartbeats 4000000
namespace Go.Eng
open Go.Proofs Go.RowKit
noncomputable def Zmp:FuncId×Con:=(24,⟨[.slice (.slice (.leaf 3)),.slice (.leaf 3),.slice (.leaf 3)],[.pair (.leaf 3) (.pair (.slice (.leaf 3)) (.pair (.slice (.leaf 3)) (.slice (.leaf 3)))),.int .i64],fun p=>Zgi p.1 p.2.1 p.2.2⟩)
theorem Z3v : KQ Zmp := Zk (ZD (C := cf0 [Zyj, Z9c, ZRk, ZWr, Zdg, Zbd] [] [ZFf, Zam, ZBf] [((47, "Neg"), 55)]) (.n (.n (.n (.n (.n (.two (.n (.f (.l [0, 2, 6, 8, 9, 10, 40, 41] [.fld (.sl 10) 1, .fld (.sl 10) 2] [.s 42 (.dat (.int .i64)), .l (.sl 10) (.box 32 (.agg (.cons (.own 30 (.slice (.leaf 3))) (.cons (.own 47 (.leaf 3)) (.one (.own 47 (.leaf 3)))))))] 0 [0, 2, 6, 8, 9, 10] [.fld (.sl 10) 1, .fld (.sl 10) 2] [.l (.sl 10) (.box 32 (.agg (.cons (.own 30 (.slice (.leaf 3))) (.cons (.own 47 (.leaf 3)) (.one (.own 47 (.leaf 3)))))))] .no))) (.f (.n (.f (.l [2, 6, 8, 9, 10, 63, 64] [.fld (.sl 10) 0, .fld (.sl 10) 1, .fld (.sl 10) 2] [.s 65 (.dat (.int .i64)), .l (.sl 10) (.box 32 (.agg (.cons (.own 30 (.slice (.leaf 3))) (.cons (.own 47 (.leaf 3)) (.one (.own 47 (.leaf 3)))))))] 2 [6, 8, 9, 10] [.fld (.sl 10) 0, .fld (.sl 10) 1, .fld (.sl 10) 2] [.l (.sl 10) (.box 32 (.agg (.cons (.own 30 (.slice (.leaf 3))) (.cons (.own 47 (.leaf 3)) (.one (.own 47 (.leaf 3)))))))] .no)))))))))) Tryz.func24 [] (fun _ => by kernel_rfl) ⟨Zhl, Zne, Z8p, Zyv, ZDh, Zre, tr⟩ ⟨Zri, ZTr, Zpg, tr⟩ ⟨ZJe, tr⟩)
end Go.Eng
set_option maxRecDepth 100000
set_option maxHeartbeats 4000000
namespace Go.Eng
open Go.Proofs Go.RowKit
noncomputable def Zjo:FuncId×Con:=(25,⟨[.slice (.slice (.leaf 3)),.slice (.leaf 3),.slice (.leaf 3)],[.pair .bool (.pair (.slice (.leaf 3)) (.pair (.slice (.leaf 3)) (.slice (.leaf 3)))),.int .i64],fun p=>Z5g p.1 p.2.1 p.2.2⟩)
theorem Z6x:KQ Zjo:=Zk (ZD (C:=cf1 [Zyj,ZRk,Zdg] [42] [ZFf,Zam,ZBf] [] [ZXm] [] []) (.n (.n (.n (.n (.f (.n (.f (.l [6,8,9,32,33] [.fld (.sl 9) 0,.fld (.sl 9) 1,.fld (.sl 9) 2] [.s 34 (.dat (.int .i64)),.l (.sl 9) (.box 32 (.agg (.cons (.mat 30 47 (.leaf 3)) (.cons (.own 47 (.leaf 3)) (.one (.own 47 (.leaf 3)))))))] 0 [6,8,9] [.fld (.sl 9) 0,.fld (.sl 9) 1,.fld (.sl 9) 2] [.l (.sl 9) (.box 32 (.agg (.cons (.mat 30 47 (.leaf 3)) (.cons (.own 47 (.leaf 3)) (.one (.own 47 (.leaf 3)))))))] .no)))))))) Tryz.func25 [] (fun _=>by kernel_rfl) ⟨Zhl,Z8p,ZDh,tr⟩ ⟨Zri,ZTr,Zpg,tr⟩ tr tr ⟨Zur,tr⟩)
end Go.Eng
set_option maxRecDepth 100000
set_option maxHeartbeats 4000000
namespace Go.Eng
open Go.Proofs Go.RowKit
noncomputable def Z9w:FuncId×Con:=(4,⟨[.slice (.slice (.pair (.int .i64) (.int .i64))),.slice (.pair (.int .i64) (.int .i64)),.slice (.pair (.int .i64) (.int .i64))],[.bool],fun p=>Zrj p.1 p.2.1 p.2.2⟩)
theorem ZZv:KR Z9w:=ZD (C:=cf0 [Zdt,Zho,Zej,Zlh,ZMj,Zij,Zpe,ZVg,ZVf,Zmp,Zjo] [] [] []) (.n (.two (.f (.j [0,1,2] [] [.s 57 (.dat .bool)] .no)) (.n (.n (.n (.n (.two (.n (.f (.cut ⟨⟨[7,9,11,75],[],[.s 13 (.own 47 (.leaf 3)),.s 14 (.own 47 (.leaf 3)),.s 76 (.dat (.int .i64))]⟩,[(.exit 0,⟨[7,9,11],[],[.s 13 (.own 47 (.leaf 3)),.s 14 (.own 47 (.leaf 3))]⟩),(.ret,⟨[],[],[.s 1000 (.dat .bool)]⟩)]⟩ .no))) (.n (.n (.f (.j [] [] [.s 6 (.dat .bool)] .no))))))))))) Tryz.func4 [] (fun _=>by kernel_rfl) ⟨fits2_k,Zwy,Z9k,ZDj,Zel,Zhn,ZIe,Z6h,ZHg,Z3v,Z6x,tr⟩
theorem ZXu {w0:World} {v0:Zb} (hv:VIn v0 w0) {c0:List Value} {a:(List (List (Int×Int)))} (p0:Rep.rel (Zv (Zv (ZSa (Zd .i64) (Zd .i64)))) v0 c0 a) {c1:List Value} {b:(List (Int×Int))} (p1:Rep.rel (Zv (ZSa (Zd .i64) (Zd .i64))) v0 c1 b) {c2:List Value} {half:(List (Int×Int))} (p2:Rep.rel (Zv (ZSa (Zd .i64) (Zd .i64))) v0 c2 half) {z:Bool} (hm:Zrj a b half=some z):Ret Tryz.prog 4 #[(Zv (Zv (ZSa (Zd .i64) (Zd .i64)))).val c0,(Zv (ZSa (Zd .i64) (Zd .i64))).val c1,(Zv (ZSa (Zd .i64) (Zd .i64))).val c2] w0 v0 (fun y v'=>∃ r0,y=ZQc.val r0∧ZQc.rel v' r0 z):=(ZZv w0 v0 [(Zv (Zv (ZSa (Zd .i64) (Zd .i64)))).val c0,(Zv (ZSa (Zd .i64) (Zd .i64))).val c1,(Zv (ZSa (Zd .i64) (Zd .i64))).val c2] (a,b,half) z hv ⟨c0,_,rfl,p0,c1,_,rfl,p1,c2,rfl,p2⟩ hm).2
end Go.Eng
