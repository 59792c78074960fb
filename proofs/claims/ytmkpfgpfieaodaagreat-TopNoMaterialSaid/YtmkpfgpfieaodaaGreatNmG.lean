/- Lemmas towards the statement: the engine of the walks, the functions' models, laws and walks, part 7. Conditions: as each states. -/
import Derived.Shelf.Strings.Builder1
import Derived.Shelf.Strings.Repeat
import Derived.Test.YtmkpfgpfieaodaaGreatProg
import Derived.Test.YtmkpfgpfieaodaaGreatNmF
set_option linter.all false
set_option maxRecDepth 100000
set_option maxRecDepth 100000
set_option maxHeartbeats 4000000
namespace Go.Eng
open Go.Proofs Go.RowKit
noncomputable def Zno:FuncId×Con:=(80,⟨[.slice (.leaf 3),.slice (.leaf 3)],[.bool],fun p=>ZRh p.1 p.2⟩)
theorem ZFw : KQ Zno := Zm (Zw (C := cf0 [Z3d] [] [] [((29, "Cmp"), 12)]) (.n (.f (.n (.f (.cut ⟨⟨[0, 1, 7], [], [.s 8 (.dat (.int .i64))]⟩, [(.exit 0, ⟨[], [], []⟩), (.ret, ⟨[], [], [.s 1000 (.dat .bool)]⟩)]⟩ .no))))) Tryz.func80 [] (fun _ => by kernel_rfl) ⟨ZEe, tr⟩ tr ⟨ZKn, tr⟩)
end Go.Eng
set_option maxRecDepth 100000
set_option maxHeartbeats 4000000
namespace Go.Eng
open Go.Proofs Go.RowKit
noncomputable def Zft:FuncId×Con:=(47,⟨[.slice (.slice (.leaf 3)),.slice (.leaf 3),.slice (.leaf 3),.slice (.leaf 3)],[.bool],fun p=>ZTj p.1 p.2.1 p.2.2.1 p.2.2.2⟩)
theorem Zkw:KQ Zft:=Zm (Zw (C:=cf0 [Zio,Zno] [] [] []) (.n (.n (.f (.j [] [] [.s 8 (.dat .bool)] .no)))) Tryz.func47 [] (fun _=>by kernel_rfl) ⟨Zfu,ZFw,tr⟩)
end Go.Eng
set_option maxRecDepth 100000
set_option maxHeartbeats 4000000
namespace Go.Eng
open Go.Proofs Go.RowKit
noncomputable def Zcq:FuncId×Con:=(81,⟨[.pair (.slice (.slice (.leaf 3))) (.pair (.slice (.leaf 3)) (.slice (.leaf 3))),.slice (.leaf 3)],[.slice (.leaf 3)],fun p=>ZQk p.1 p.2⟩)
theorem psums_k : KQ Zcq := Zm (Zw (C := cf0 [ZAd, ZZe] [] [ZRf] [((29, "Add"), 14), ((29, "Mul"), 36), ((101, "Add"), 124), ((101, "Mul"), 126), ((103, "Add"), 109), ((103, "Mul"), 111)]) (.n (.n (.f (.n (.f (.l [1, 5, 15, 16] [] [.s 17 (.dat (.int .i64)), .l (.sl 5) (.own 29 (.leaf 3))] 0 [5] [] [.l (.sl 5) (.own 29 (.leaf 3))] (.f (.n (.n (.f (.f (.n (.n (.f (.l [1, 5, 6, 15, 16, 17, 22, 23] [] [.s 24 (.dat (.int .i64)), .l (.sl 5) (.own 29 (.leaf 3))] 2 [1, 5, 15, 16, 17] [] [.l (.sl 5) (.own 29 (.leaf 3))] .no))))))))))))))) Tryz.func81 [] (fun _ => by kernel_rfl) ⟨ZYd, ZQf, tr⟩ ⟨ZPg, tr⟩ ⟨Zhk, ZZk, ZQi, ZOi, Zck, Z3i, tr⟩)
end Go.Eng
set_option maxRecDepth 100000
set_option maxHeartbeats 4000000
namespace Go.Eng
open Go.Proofs Go.RowKit
noncomputable def Z5r:FuncId×Con:=(48,⟨[.slice (.slice (.leaf 3)),.slice (.leaf 3),.slice (.leaf 3)],[.slice (.leaf 3)],fun p=>ZPi p.1 p.2.1 p.2.2⟩)
theorem ZSx : KQ Z5r := Zm (Zw (C := cf0 [Zpe, Zmf, Zcq] [] [ZRf] [((29, "Sub"), 13), ((101, "Sub"), 127)]) (.n (.n (.f (.n (.f (.l [0, 1, 2, 10] [] [.s 7 (.own 29 (.leaf 3)), .s 11 (.dat (.int .i64))] 0 [0] [] [.s 7 (.own 29 (.leaf 3))] .no)))))) Tryz.func48 [] (fun _ => by kernel_rfl) ⟨ZMe, ZJg, psums_k, tr⟩ ⟨ZPg, tr⟩ ⟨Zpk, ZJi, tr⟩)
end Go.Eng
set_option maxRecDepth 100000
set_option maxHeartbeats 4000000
namespace Go.Eng
open Go.Proofs Go.RowKit
noncomputable def Zgp:FuncId×Con:=(16,⟨[.slice (.slice (.leaf 3)),.slice (.leaf 3),.slice (.leaf 3),.pair .bool (.pair (.slice (.leaf 3)) (.pair (.slice (.leaf 3)) (.slice (.leaf 3))))],[.bool],fun p=>Zyi p.1 p.2.1 p.2.2.1 p.2.2.2⟩)
theorem ZRw : KQ Zgp := Zm (Zw (C := cf0 [Zpe, ZRb, Zzj, Zmf, Z0p, Zft, Z5r, ZEl] [] [] [((29, "Sign"), 21), ((29, "Sub"), 13), ((101, "Sub"), 127)]) (.n (.n (.two (.n (.f (.f (.j [] [] [.s 8 (.dat .bool)] .no)))) (.f (.f (.j [1, 2, 7] [] [.s 88 (.dat .bool)] .no)))))) Tryz.func16 [] (fun _ => by kernel_rfl) ⟨ZMe, Z9b, Z3l, ZJg, lnone_k, Zkw, ZSx, ZPs, tr⟩ tr ⟨Zwg, Zpk, ZJi, tr⟩)
end Go.Eng
set_option maxRecDepth 100000
set_option maxHeartbeats 4000000
namespace Go.Eng
open Go.Proofs Go.RowKit
noncomputable def ZOq:FuncId×Con:=(82,⟨[.slice (.pair (.int .i64) (.int .i64))],[.int .i64],fun p=>ZZn p⟩)
theorem ZMv:KQ ZOq:=Zm (Zw (C:=cf0 [] [] [] []) .no Tryz.func82 [(107,Tryz.f107,.n (.f (.j [] [] [.s 2 (.dat .bool)] .no))),(108,Tryz.f108,.no),(123,Tryz.f123,.r [] [] [.s 1000 (.dat (.int .i64))] (.n (.f (.n (.f (.cut ⟨⟨[0,1,7],[],[.s 8 (.dat (.int .i64))]⟩,[(.exit 0,⟨[],[],[]⟩),(.ret,⟨[],[],[.s 1000 (.dat (.int .i64))]⟩)]⟩ .no))))))] (fun _=>by kernel_rfl) tr tr tr ⟨⟨Tryz.func107,fun _ _=>by kernel_rfl⟩,⟨Tryz.func108,fun _ _=>by kernel_rfl⟩,⟨Tryz.func123,fun _ _=>by kernel_rfl⟩,tr⟩)
end Go.Eng
set_option maxRecDepth 100000
set_option maxHeartbeats 4000000
namespace Go.Eng
open Go.Proofs Go.RowKit
noncomputable def Z0m:FuncId×Con:=(134,⟨[.pair (.leaf 2) (.pair (.leaf 2) (.pair (.leaf 2) (.leaf 2))),.leaf 0],[.pair (.pair (.leaf 2) (.pair (.leaf 2) (.pair (.leaf 2) (.leaf 2)))) (.leaf 0)],fun p=>ZXk p.1 p.2⟩)
theorem ZMo:KQ Z0m:=Zm (Zw (C:=cf0 [gcd_q,ZHj,ZAh] [] [] []) (.n (.n (.two (.n (.f (.unroll 5 .no))) (.two (.n (.j [2,4] [] [.s 1 (.dat (.leaf 0)),.l (.sl 2) (.box 99 (.dat (.pair (.leaf 2) (.pair (.leaf 2) (.pair (.leaf 2) (.leaf 2))))))] (.f (.f (.n (.f (.unroll 5 .no))))))) (.f (.n (.j [2,4] [] [.s 1 (.dat (.leaf 0))] .no))))))) Tryz.func134 [] (fun _=>by kernel_rfl) ⟨gcd_k,Zhl,ZFn,tr⟩)
end Go.Eng
set_option maxRecDepth 100000
set_option maxHeartbeats 4000000
namespace Go.Eng
open Go.Proofs Go.RowKit
noncomputable def ZLg:FuncId×Con:=(124,⟨[.pair (.pair (.leaf 2) (.pair (.leaf 2) (.pair (.leaf 2) (.leaf 2)))) (.leaf 0),.pair (.pair (.leaf 2) (.pair (.leaf 2) (.pair (.leaf 2) (.leaf 2)))) (.leaf 0)],[.pair (.pair (.leaf 2) (.pair (.leaf 2) (.pair (.leaf 2) (.leaf 2)))) (.leaf 0)],fun p=>ZTe p.1 p.2⟩)
theorem ZUk:KQ ZLg:=Zm (Zw (C:=cf0 [ZMf,Zxh,ZVi,Zye,Z0m] [] [] []) (.n (.n (.n (.f (.n (.f (.unroll 5 .no))))))) Tryz.func124 [] (fun _=>by kernel_rfl) ⟨ZNg,ZRk,Zkn,Z0f,ZMo,tr⟩)
end Go.Eng
set_option maxRecDepth 100000
set_option maxHeartbeats 4000000
namespace Go.Eng
open Go.Proofs Go.RowKit
noncomputable def Z8n:FuncId×Con:=(109,⟨[.pair (.pair (.pair (.leaf 2) (.pair (.leaf 2) (.pair (.leaf 2) (.leaf 2)))) (.leaf 0)) (.pair (.pair (.leaf 2) (.pair (.leaf 2) (.pair (.leaf 2) (.leaf 2)))) (.leaf 0)),.pair (.pair (.pair (.leaf 2) (.pair (.leaf 2) (.pair (.leaf 2) (.leaf 2)))) (.leaf 0)) (.pair (.pair (.leaf 2) (.pair (.leaf 2) (.pair (.leaf 2) (.leaf 2)))) (.leaf 0))],[.pair (.pair (.pair (.leaf 2) (.pair (.leaf 2) (.pair (.leaf 2) (.leaf 2)))) (.leaf 0)) (.pair (.pair (.leaf 2) (.pair (.leaf 2) (.pair (.leaf 2) (.leaf 2)))) (.leaf 0))],fun p=>Znn p.1 p.2⟩)
theorem wvAdd_k:KQ Z8n:=Zm (Zw (C:=cf0 [ZLg] [] [] []) .no Tryz.func109 [] (fun _=>by kernel_rfl) ⟨ZUk,tr⟩)
end Go.Eng
set_option maxRecDepth 100000
set_option maxHeartbeats 4000000
namespace Go.Eng
open Go.Proofs Go.RowKit
noncomputable def Zvt:FuncId×Con:=(125,⟨[.pair (.pair (.leaf 2) (.pair (.leaf 2) (.pair (.leaf 2) (.leaf 2)))) (.leaf 0),.leaf 3],[.pair (.pair (.leaf 2) (.pair (.leaf 2) (.pair (.leaf 2) (.leaf 2)))) (.leaf 0)],fun p=>Zll p.1 p.2⟩)
theorem sdOf_k:KQ Zvt:=Zm (Zw (C:=cf0 [] [] [] []) .no Tryz.func125 [] (fun _=>by kernel_rfl))
end Go.Eng
set_option maxRecDepth 100000
set_option maxHeartbeats 4000000
namespace Go.Eng
open Go.Proofs Go.RowKit
noncomputable def ZTq:FuncId×Con:=(110,⟨[.pair (.pair (.pair (.leaf 2) (.pair (.leaf 2) (.pair (.leaf 2) (.leaf 2)))) (.leaf 0)) (.pair (.pair (.leaf 2) (.pair (.leaf 2) (.pair (.leaf 2) (.leaf 2)))) (.leaf 0)),.leaf 3],[.pair (.pair (.pair (.leaf 2) (.pair (.leaf 2) (.pair (.leaf 2) (.leaf 2)))) (.leaf 0)) (.pair (.pair (.leaf 2) (.pair (.leaf 2) (.pair (.leaf 2) (.leaf 2)))) (.leaf 0))],fun p=>Z5l p.1 p.2⟩)
theorem wvOf_k:KQ ZTq:=Zm (Zw (C:=cf0 [Zvt] [] [] []) .no Tryz.func110 [] (fun _=>by kernel_rfl) ⟨sdOf_k,tr⟩)
end Go.Eng
set_option maxRecDepth 100000
set_option maxHeartbeats 4000000
namespace Go.Eng
open Go.Proofs Go.RowKit
noncomputable def Z6s:FuncId×Con:=(142,⟨[.leaf 2,.int .u64],[.leaf 2],fun p=>Z3f p.1 p.2⟩)
theorem ifold_k:KQ Z6s:=Zm (Zw (C:=cf0 [Zxh,Zte] [] [] []) .no Tryz.func142 [] (fun _=>by kernel_rfl) ⟨ZRk,Zfi,tr⟩)
end Go.Eng
set_option maxRecDepth 100000
set_option maxHeartbeats 4000000
namespace Go.Eng
open Go.Proofs Go.RowKit
noncomputable def Z8q:FuncId×Con:=(135,⟨[.pair (.leaf 2) (.pair (.leaf 2) (.pair (.leaf 2) (.leaf 2))),.pair (.leaf 2) (.pair (.leaf 2) (.pair (.leaf 2) (.leaf 2)))],[.pair (.leaf 2) (.pair (.leaf 2) (.pair (.leaf 2) (.leaf 2)))],fun p=>Ztn p.1 p.2⟩)
theorem Zww:KQ Z8q:=Zm (Zw (C:=cf0 [ZVi,ZJl,Z6s] [] [] []) .no Tryz.func135 [(141,Tryz.f141,.no)] (fun _=>by kernel_rfl) ⟨Zkn,ZKq,ifold_k,tr⟩ tr tr ⟨⟨Tryz.func141,fun _ _=>by kernel_rfl⟩,tr⟩)
end Go.Eng
set_option maxRecDepth 100000
set_option maxHeartbeats 4000000
namespace Go.Eng
open Go.Proofs Go.RowKit
noncomputable def Zir:FuncId×Con:=(126,⟨[.pair (.pair (.leaf 2) (.pair (.leaf 2) (.pair (.leaf 2) (.leaf 2)))) (.leaf 0),.pair (.pair (.leaf 2) (.pair (.leaf 2) (.pair (.leaf 2) (.leaf 2)))) (.leaf 0)],[.pair (.pair (.leaf 2) (.pair (.leaf 2) (.pair (.leaf 2) (.leaf 2)))) (.leaf 0)],fun p=>Z9f p.1 p.2⟩)
theorem sdMul_k:KQ Zir:=Zm (Zw (C:=cf0 [ZMf,Zye,Z0m,Z8q] [] [] []) .no Tryz.func126 [] (fun _=>by kernel_rfl) ⟨ZNg,Z0f,ZMo,Zww,tr⟩)
end Go.Eng
set_option maxRecDepth 100000
set_option maxHeartbeats 4000000
namespace Go.Eng
open Go.Proofs Go.RowKit
noncomputable def ZWj:FuncId×Con:=(136,⟨[.pair (.pair (.leaf 2) (.pair (.leaf 2) (.pair (.leaf 2) (.leaf 2)))) (.leaf 0)],[.pair (.pair (.leaf 2) (.pair (.leaf 2) (.pair (.leaf 2) (.leaf 2)))) (.leaf 0)],fun p=>Zuh p⟩)
theorem Ztq:KQ ZWj:=Zm (Zw (C:=cf0 [Zgm] [] [] []) (.n (.f (.n (.f (.unroll 5 .no))))) Tryz.func136 [] (fun _=>by kernel_rfl) ⟨ZBp,tr⟩)
end Go.Eng
set_option maxRecDepth 100000
set_option maxHeartbeats 4000000
namespace Go.Eng
open Go.Proofs Go.RowKit
noncomputable def Zhj:FuncId×Con:=(127,⟨[.pair (.pair (.leaf 2) (.pair (.leaf 2) (.pair (.leaf 2) (.leaf 2)))) (.leaf 0),.pair (.pair (.leaf 2) (.pair (.leaf 2) (.pair (.leaf 2) (.leaf 2)))) (.leaf 0)],[.pair (.pair (.leaf 2) (.pair (.leaf 2) (.pair (.leaf 2) (.leaf 2)))) (.leaf 0)],fun p=>ZFh p.1 p.2⟩)
theorem ZCs:KQ Zhj:=Zm (Zw (C:=cf0 [ZLg,ZWj] [] [] []) .no Tryz.func127 [] (fun _=>by kernel_rfl) ⟨ZUk,Ztq,tr⟩)
end Go.Eng
set_option maxRecDepth 100000
set_option maxHeartbeats 4000000
namespace Go.Eng
open Go.Proofs Go.RowKit
noncomputable def Z5q:FuncId×Con:=(111,⟨[.pair (.pair (.pair (.leaf 2) (.pair (.leaf 2) (.pair (.leaf 2) (.leaf 2)))) (.leaf 0)) (.pair (.pair (.leaf 2) (.pair (.leaf 2) (.pair (.leaf 2) (.leaf 2)))) (.leaf 0)),.pair (.pair (.pair (.leaf 2) (.pair (.leaf 2) (.pair (.leaf 2) (.leaf 2)))) (.leaf 0)) (.pair (.pair (.leaf 2) (.pair (.leaf 2) (.pair (.leaf 2) (.leaf 2)))) (.leaf 0))],[.pair (.pair (.pair (.leaf 2) (.pair (.leaf 2) (.pair (.leaf 2) (.leaf 2)))) (.leaf 0)) (.pair (.pair (.leaf 2) (.pair (.leaf 2) (.pair (.leaf 2) (.leaf 2)))) (.leaf 0))],fun p=>Zzl p.1 p.2⟩)
theorem wvMul_k:KQ Z5q:=Zm (Zw (C:=cf0 [ZLg,Zir,Zhj] [] [] []) .no Tryz.func111 [] (fun _=>by kernel_rfl) ⟨ZUk,sdMul_k,ZCs,tr⟩)
end Go.Eng
set_option maxRecDepth 100000
set_option maxHeartbeats 4000000
namespace Go.Eng
open Go.Proofs Go.RowKit
noncomputable def Zep:FuncId×Con:=(128,⟨[.int .i64],[.int .i64],fun p=>ZLk p⟩)
theorem ZGt:KQ Zep:=Zm (Zw (C:=cf0 [] [] [] []) .no Tryz.func128 [] (fun _=>by kernel_rfl))
end Go.Eng
set_option maxRecDepth 100000
set_option maxHeartbeats 4000000
namespace Go.Eng
open Go.Proofs Go.RowKit
noncomputable def ZUh (kf:Nat):FuncId×Con:=(129,⟨[.int .i64],[.pair (.pair (.leaf 2) (.pair (.leaf 2) (.pair (.leaf 2) (.leaf 2)))) (.leaf 0)],fun p=>ZDi kf p⟩)
theorem Z4w (kf:Nat) (k:Int):Zyf ⟨Tryz.prog,[(25,0),(27,2),(29,3)],[of_q,Zte,ZLg,Zhj,ZUh kf,ZWj],[],[],[],[],{}⟩ [(137,Tryz.f137,.no)] Tryz.f129 (.two .no (.two (.two .no (.cut ⟨⟨[],[],[]⟩,[(.norm,⟨[2],[],[.s 0 (.dat (.int .i64))]⟩)]⟩ .no)) .no)) [.int .i64] [.pair (.pair (.leaf 2) (.pair (.leaf 2) (.pair (.leaf 2) (.leaf 2)))) (.leaf 0)] (k)=ZDi (kf+1) k:=by kernel_rfl
theorem Z3p:∀ kf,ZEc Tryz.prog (ZUh kf).1 (ZUh kf).2
 | 0=>fun _ _ _ _ _ _ _ h=>by cases h
 | kf+1=>con_k (C:=⟨Tryz.prog,[(25,0),(27,2),(29,3)],[of_q,Zte,ZLg,Zhj,ZUh kf,ZWj],[],[],[],[],{}⟩) ⟨of_k,Zfi,ZUk,ZCs,Z3p kf,Ztq,trivial⟩ trivial trivial trivial (inl:=[(137,Tryz.f137,.no)]) ⟨⟨Tryz.func137,fun _ _=>by kernel_rfl⟩,trivial⟩ (ann:=(.two .no (.two (.two .no (.cut ⟨⟨[],[],[]⟩,[(.norm,⟨[2],[],[.s 0 (.dat (.int .i64))]⟩)]⟩ .no)) .no))) Tryz.func129 (fun _ _=>by kernel_rfl) rfl (fun v vals x z ha hz=>(Z4w kf x).trans hz)
noncomputable def ZWl:FuncId×Con:=ZUh 3
theorem Zav:ZEc Tryz.prog ZWl.1 ZWl.2:=Z3p 3
end Go.Eng
set_option maxRecDepth 100000
set_option maxHeartbeats 4000000
namespace Go.Eng
open Go.Proofs Go.RowKit
noncomputable def Zfo:FuncId×Con:=(112,⟨[.int .i64],[.pair (.pair (.pair (.leaf 2) (.pair (.leaf 2) (.pair (.leaf 2) (.leaf 2)))) (.leaf 0)) (.pair (.pair (.leaf 2) (.pair (.leaf 2) (.pair (.leaf 2) (.leaf 2)))) (.leaf 0))],fun p=>Zvl p⟩)
theorem xTurn_k:KQ Zfo:=Zm (Zw (C:=cf0 [Zep,ZWl] [] [] []) .no Tryz.func112 [] (fun _=>by kernel_rfl) ⟨ZGt,Zav,tr⟩)
end Go.Eng
set_option maxRecDepth 100000
set_option maxHeartbeats 4000000
namespace Go.Eng
open Go.Proofs Go.RowKit
noncomputable def Zbt:FuncId×Con:=(83,⟨[.slice (.pair (.int .i64) (.int .i64)),.int .i64],[.pair (.pair (.pair (.leaf 2) (.pair (.leaf 2) (.pair (.leaf 2) (.leaf 2)))) (.leaf 0)) (.pair (.pair (.leaf 2) (.pair (.leaf 2) (.pair (.leaf 2) (.leaf 2)))) (.leaf 0))],fun p=>ZAl p.1 p.2⟩)
theorem Zjw:KQ Zbt:=Zm (Zw (C:=cf0 [ZJd,Z8n,ZTq,Z5q,Zfo] [] [] []) (.n (.n (.f (.n (.f (.l [1,4,5,8,9] [] [.s 10 (.dat (.int .i64)),.l (.sl 5) (.box 103 (.dat (.pair (.pair (.pair (.leaf 2) (.pair (.leaf 2) (.pair (.leaf 2) (.leaf 2)))) (.leaf 0)) (.pair (.pair (.leaf 2) (.pair (.leaf 2) (.pair (.leaf 2) (.leaf 2)))) (.leaf 0)))))] 0 [4,5] [] [.l (.sl 5) (.box 103 (.dat (.pair (.pair (.pair (.leaf 2) (.pair (.leaf 2) (.pair (.leaf 2) (.leaf 2)))) (.leaf 0)) (.pair (.pair (.leaf 2) (.pair (.leaf 2) (.pair (.leaf 2) (.leaf 2)))) (.leaf 0)))))] .no)))))) Tryz.func83 [] (fun _=>by kernel_rfl) ⟨Zce,wvAdd_k,wvOf_k,wvMul_k,xTurn_k,tr⟩)
end Go.Eng
set_option maxRecDepth 100000
set_option maxHeartbeats 4000000
namespace Go.Eng
open Go.Proofs Go.RowKit
noncomputable def ZZo:FuncId×Con:=(50,⟨[.slice (.pair (.int .i64) (.int .i64)),.int .i64],[.pair (.pair (.pair (.leaf 2) (.pair (.leaf 2) (.pair (.leaf 2) (.leaf 2)))) (.leaf 0)) (.pair (.pair (.leaf 2) (.pair (.leaf 2) (.pair (.leaf 2) (.leaf 2)))) (.leaf 0)),.int .i64],fun p=>ZWn p.1 p.2⟩)
theorem ZMx:KQ ZZo:=Zm (Zw (C:=cf0 [ZOq,Zbt] [] [] []) (.n (.n (.f (.f (.j [0,1,4] [] [.s 18 (.dat .bool)] .no))))) Tryz.func50 [] (fun _=>by kernel_rfl) ⟨ZMv,Zjw,tr⟩)
end Go.Eng
set_option maxRecDepth 100000
set_option maxHeartbeats 4000000
namespace Go.Eng
open Go.Proofs Go.RowKit
noncomputable def Z3s:FuncId×Con:=(51,⟨[.pair (.pair (.pair (.leaf 2) (.pair (.leaf 2) (.pair (.leaf 2) (.leaf 2)))) (.leaf 0)) (.pair (.pair (.leaf 2) (.pair (.leaf 2) (.pair (.leaf 2) (.leaf 2)))) (.leaf 0))],[.pair (.pair (.leaf 2) (.pair (.leaf 2) (.pair (.leaf 2) (.leaf 2)))) (.leaf 0)],fun p=>ZXl p⟩)
theorem wvIm_k:KQ Z3s:=Zm (Zw (C:=cf0 [] [] [] []) .no Tryz.func51 [] (fun _=>by kernel_rfl))
end Go.Eng
namespace Go.Eng
open Go.Proofs Go.RowKit
theorem Zvx {r:World} {d:Zb} (hv:VIn d r) {D:List Value} {n:Int} (L:Rep.rel (Zd .u64) d D n) {z:(List UInt8)} (H:Zqj n=some z):Ret Tryz.prog 113 #[(Zd .u64).val D] r d (fun y v'=>∃ E,y=Z6a.val E∧Z6a.rel v' E z):=by
 obtain ⟨rfl,M⟩:=L;refine ZGi (K:=20) (args:=[.int .u64 n]) hv Tryz.func113 rfl rfl zl fun f S=>?_;unfold Zqj at H;refine sr (mw S rfl fun f S=>oe (sr (ZQr S wn rfl zl (cs:=[.int .u8 0,.int .u8 0,.int .u8 0,.int .u8 0,.int .u8 0,.int .u8 0,.int .u8 0,.int .u8 0,.int .u8 0,.int .u8 0,.int .u8 0,.int .u8 0,.int .u8 0,.int .u8 0,.int .u8 0,.int .u8 0,.int .u8 0,.int .u8 0,.int .u8 0,.int .u8 0]) (ZOl k_zv187) fun s f w S=>?_)));have S:=S.boxOwn 1 20 rfl zl;have N:Rep.rels (Zd .u8) d [.int .u8 0,.int .u8 0,.int .u8 0,.int .u8 0,.int .u8 0,.int .u8 0,.int .u8 0,.int .u8 0,.int .u8 0,.int .u8 0,.int .u8 0,.int .u8 0,.int .u8 0,.int .u8 0,.int .u8 0,.int .u8 0,.int .u8 0,.int .u8 0,.int .u8 0,.int .u8 0] (List.replicate 20 (0:Int)):=Zug (show Rep.rel (Zd .u8) _ [Value.int .u8 0] 0 from ⟨rfl,by decide⟩) 20;refine oe (sr (mw S rfl fun f S=>oe (Zy fun _ O=>?_)));obtain ⟨P,Q,R⟩:=Zia H;refine ZVc (fun f w=>∃ l m B t,(l,m)=P∧Zb.le d t∧St 20 r d [(3,.pointer (some ⟨s,0,none⟩)),(4,.int .i64 m)] [Loc.own (some s) 187 1 20 20 B] t f w∧Rep.rels (Zd .u8) t B l∧20=l.length∧inR .i64 m) (fun _ T=>?_) ?_
 ·have H:=Q;refine wp_block ?_;obtain ⟨ak,U,V⟩:=Zia H;refine Zre U (fun W f w=>∃ h o u b k,(h,o,u)=W∧Zb.le d k∧St 20 r d [(0,.int .u64 o),(3,.pointer (some ⟨s,0,none⟩)),(4,.int .i64 u)] [Loc.own (some s) 187 1 20 20 b] k f w∧Rep.rels (Zd .u8) k b h∧20=h.length∧inR .u64 o∧inR .i64 u) ⟨_,_,_,[.int .u8 0,.int .u8 0,.int .u8 0,.int .u8 0,.int .u8 0,.int .u8 0,.int .u8 0,.int .u8 0,.int .u8 0,.int .u8 0,.int .u8 0,.int .u8 0,.int .u8 0,.int .u8 0,.int .u8 0,.int .u8 0,.int .u8 0,.int .u8 0,.int .u8 0,.int .u8 0],_,rfl,(leR _),(S.fr' rfl),N,(List.length_replicate (n:=20) (a:=(0:Int))).symm,M,(by decide)⟩ ?_;rintro _ f w st ⟨h,o,u,b,k,hq,F,S,C,v,al,X⟩ H am Y Z;subst hq;refine Zy fun _ aa=>sr (mv S rfl fun f S=>ov S rfl (ZA S rfl rfl Zqf) fun f S=>oe ?_);rcases Zlb (decide ((0:Int)<o)) with p | p
  ·have H:=Zrb H p;refine Zub S rfl p (wp_skip (Zr (aa _ _ (Zy fun _ ab=>wp_block (Zy fun _ ac=>bO H fun e G H=>ZU (mv S rfl fun f S=>ov S rfl (ZA S rfl rfl (ZPb G)) fun f S=>mw S rfl fun f S=>ZQ (Zr (ac _ _ (bO H fun g ad H=>?_)))))))));refine bO H fun an q H=>ZU (mv S rfl fun f S=>mv S rfl fun f S=>ov S rfl (ZA S rfl rfl (Z6r ad)) fun f S=>ov S rfl (ZA S rfl rfl ZRm) fun f S=>ov S rfl (ZCf S rfl (Z2x _)) fun f S=>?_);have I:=ZXa C (Zq q).2.1;obtain ⟨ao,ae⟩:∃ c,(List.take (Zd .u8).n (List.drop ((e).toNat*(Zd .u8).n) b))=c:=⟨_,rfl⟩;rw [ae] at I;obtain ⟨rfl,ap⟩:=I;refine ov S rfl (Zkp S Zis rfl rfl (Zq q).1 (ltI v (Zq q).2.2.1)) fun f S=>?_;obtain ⟨w,af,S⟩:=Zfd S k_sz5 (off:=0+(e).toNat*1) (z:=.int .u8 (IntKind.u8.wrap (IntKind.u64.wrap ((48:Int)+g)))) (cs:=[.int .u8 (IntKind.u8.wrap (IntKind.u64.wrap ((48:Int)+g)))]) (Z9c rfl) rfl (i:=0) rfl (Z3h S (j:=0) rfl (ltN v (Zq q).2.2.2)) (by first | rfl | simp [plain]);have ag:Rep.rels (Zd .u8) k (List.take (0+(e).toNat*1) b++[Value.int IntKind.u8 (IntKind.u8.wrap (IntKind.u64.wrap ((48:Int)+g)))]++List.drop (0+(e).toNat*1+1) b) (h.set (e).toNat (IntKind.u8.wrap (IntKind.u64.wrap ((48:Int)+g)))):=Zdg C (Zq q).2.2.2 (show Rep.rel (Zd .u8) k [.int .u8 (IntKind.u8.wrap (IntKind.u64.wrap ((48:Int)+g)))] _ from (Z8 (ZXb _ _))) rfl rfl
   have ah:20=(h.set (e).toNat (IntKind.u8.wrap (IntKind.u64.wrap ((48:Int)+g)))).length:=setN v;refine Zkj wn rfl (af rfl rfl) (ZQ (ZBd (Zr (ab _ _ (bO H fun aq J H=>ZU (mv S rfl fun f S=>ov S rfl (ZA S rfl rfl (ZJs J)) fun f S=>mw S rfl fun f S=>ZQ ?_))))));obtain rfl:=ZI H;refine Y _ rfl _ _ ⟨_,_,_,(List.take (0+(e).toNat*1) b++[Value.int IntKind.u8 (IntKind.u8.wrap (IntKind.u64.wrap ((48:Int)+g)))]++List.drop (0+(e).toNat*1+1) b),_,rfl,F,(S.fr' rfl),ag,ah,(ZLp J),(ZLb G).2⟩
  have H:=Zmb H p;refine ZDa S rfl p (wp_exit (Z0a ?_));obtain rfl:=ZI H;have hq:=Z _ rfl;subst hq;have H:=V;refine Z0a (ZDd ?_);obtain rfl:=ZI H;refine Zr (T _ _ ⟨_,_,b,_,rfl,(leT (leR _) F),(S.fr' rfl),C,v,X⟩)
 rintro f w ⟨l,m,B,t,hq,ar,S,ai,x,au⟩;subst hq;have H:=R;refine Zr (O _ _ (Zy fun _ aj=>bO H fun av A H=>ZU (mv S rfl fun f S=>ov S rfl (Zix S Zis rfl rfl (ZOf A).1 (by have:=(ZOf A).2.1;have:=x;omega)) fun f S=>ov S rfl (ZXx S (j:=0) rfl ai x (by have:=(ZOf A).2.1;have:=(ZOf A).1;have:=x;omega) rfl Tryz.underlying170 Tryz.underlying5 Tryz.underlying9) fun f S=>mw S rfl fun f S=>ZQ (Zr (aj _ _ (wp_ret ?_))))));obtain rfl:=ZI H;refine ZEf S (ZXc rfl (ZVa S rfl)) ⟨[.string (Zt ((Zzd (l.drop ((m).toNat)))))],rfl,(Zmh (by have:=x;simp only [Z5w,List.length_drop];unfold maxLen;omega))⟩
theorem ZJw {b:World} {a:Zb} (hv:VIn a b) {c:List Value} {n:Int} (d:Rep.rel (Zd .u64) a c n) {z:(List UInt8)} (hm:Z0g n=some z) :
  Ret Tryz.prog 113 #[(Zd .u64).val c] b a (fun y v'=>∃ e,y=Z6a.val e∧Z6a.rel v' e z) :=
 Zvx hv d (ZQw d.2 hm)
end Go.Eng
namespace Go.Proofs
open Go.Shelf
def Tryz.lays105_ren:Go.Shelf.Ren:=⟨fun | 105=>114 | 212=>92 | 99=>130 | 165=>131 | 166=>115 | 170=>132 | 169=>116 | 263=>118 | 264=>75 | 206=>138 | 240=>133 | 241=>139 | 276=>140 | 277=>143 | n=>n,fun | 9=>9 | 3=>3 | 4=>4 | 20=>20 | 0=>0 | 46=>148 | 109=>149 | 5=>5 | 72=>172 | 76=>175 | 51=>178 | 146=>179 | 53=>115 | 148=>133 | 70=>169 | 37=>170 | 75=>174 | 127=>190 | 164=>194 | 80=>110 | n=>n,fun | n=>n⟩
theorem Tryz.lays105:Go.Proofs.Lays.n105 Tryz.prog Tryz.lays105_ren:={
 mixed:=by kernel_rfl
 f99:=Tryz.func130.trans (congrArg some (by kernel_rfl))
 f105:=Tryz.func114.trans (congrArg some (by kernel_rfl))
 f165:=Tryz.func131.trans (congrArg some (by kernel_rfl))
 f166:=Tryz.func115.trans (congrArg some (by kernel_rfl))
 f169:=Tryz.func116.trans (congrArg some (by kernel_rfl))
 f170:=Tryz.func132.trans (congrArg some (by kernel_rfl))
 f206:=Tryz.func138.trans (congrArg some (by kernel_rfl))
 f212:=Tryz.func92.trans (congrArg some (by kernel_rfl))
 f240:=Tryz.func133.trans (congrArg some (by kernel_rfl))
 f241:=Tryz.func139.trans (congrArg some (by kernel_rfl))
 f263:=Tryz.func118.trans (congrArg some (by kernel_rfl))
 f264:=Tryz.func75.trans (congrArg some (by kernel_rfl))
 f276:=Tryz.func140.trans (congrArg some (by kernel_rfl))
 f277:=Tryz.func143.trans (congrArg some (by kernel_rfl))
 t0:=Tryz.underlying0
 a0:=Tryz.isAgg0
 z0:=Tryz.sizeOf0
 v0:=Tryz.zeroValue0
 t3:=Tryz.underlying3
 a3:=Tryz.isAgg3
 z3:=Tryz.sizeOf3
 v3:=Tryz.zeroValue3
 t4:=Tryz.underlying4
 a4:=Tryz.isAgg4
 z4:=Tryz.sizeOf4
 v4:=Tryz.zeroValue4
 t5:=Tryz.underlying5
 a5:=Tryz.isAgg5
 z5:=Tryz.sizeOf5
 v5:=Tryz.zeroValue5
 t9:=Tryz.underlying9
 a9:=Tryz.isAgg9
 z9:=Tryz.sizeOf9
 v9:=Tryz.zeroValue9
 t20:=Tryz.underlying20
 a20:=Tryz.isAgg20
 z20:=Tryz.sizeOf20
 v20:=Tryz.zeroValue20
 t37:=Tryz.underlying170
 a37:=Tryz.isAgg170
 z37:=Tryz.sizeOf170
 v37:=Tryz.zeroValue170
 t46:=Tryz.underlying148
 a46:=Tryz.isAgg148
 z46:=Tryz.sizeOf148
 v46:=Tryz.zeroValue148
 t51:=Tryz.underlying178
 a51:=Tryz.isAgg178
 z51:=Tryz.sizeOf178
 v51:=Tryz.zeroValue178
 t53:=Tryz.underlying115
 a53:=Tryz.isAgg115
 z53:=Tryz.sizeOf115
 v53:=Tryz.zeroValue115
 t70:=Tryz.underlying169
 a70:=Tryz.isAgg169
 z70:=Tryz.sizeOf169
 v70:=Tryz.zeroValue169
 t72:=Tryz.underlying172
 a72:=Tryz.isAgg172
 z72:=Tryz.sizeOf172
 v72:=Tryz.zeroValue172
 t75:=Tryz.underlying174
 a75:=Tryz.isAgg174
 z75:=Tryz.sizeOf174
 v75:=Tryz.zeroValue174
 t76:=Tryz.underlying175
 a76:=Tryz.isAgg175
 z76:=Tryz.sizeOf175
 v76:=Tryz.zeroValue175
 t109:=Tryz.underlying149
 a109:=Tryz.isAgg149
 z109:=Tryz.sizeOf149
 v109:=Tryz.zeroValue149
 t127:=Tryz.underlying190
 a127:=Tryz.isAgg190
 z127:=Tryz.sizeOf190
 v127:=Tryz.zeroValue190
 t146:=Tryz.underlying179
 a146:=Tryz.isAgg179
 z146:=Tryz.sizeOf179
 v146:=Tryz.zeroValue179
 t148:=Tryz.underlying133
 a148:=Tryz.isAgg133
 z148:=Tryz.sizeOf133
 v148:=Tryz.zeroValue133
 t164:=Tryz.underlying194
 a164:=Tryz.isAgg194
 z164:=Tryz.sizeOf194
 v164:=Tryz.zeroValue194 }
theorem Tryz.Builder_Extra_105:Builder.Extra Tryz.prog Tryz.lays105_ren:={
 sizeBuilder:=by kernel_rfl
 liesBuilder:=by kernel_rfl
 t5:=Tryz.underlying5
 a5:=Tryz.isAgg5
 z5:=Tryz.sizeOf5
 v5:=Tryz.zeroValue5
 infoByte:=by kernel_rfl
 cellsByte:=by kernel_rfl
 sizeByte:=by kernel_rfl
 neB5:=by decide }
end Go.Proofs
namespace Go.Eng
open Go.Proofs Go.RowKit Go.Shelf
theorem writes:Zzo Tryz.prog 115 172 5:=fun B b bs s w h hl hB=>Any.Builder_WriteString { Tryz.lays105 with } Tryz.Builder_Extra_105 B b bs s w h hl hB
theorem tells:Tells Tryz.prog 116 172 5:=fun B b l w h hB=>Any.Builder_String_any { Tryz.lays105 with } Tryz.Builder_Extra_105 B b l w h hB
end Go.Eng
namespace Go.Eng
open Go.Proofs Go.RowKit
theorem Z1t (l:List UInt8) (c:Nat):Lib.repeatL l c=(List.replicate c l).flatten:=by
 induction c with
 | zero=>rfl
 | succ c ih=>simp [Lib.repeatL,List.replicate_succ,ih]
theorem Zdw {b:World} {a:Zb} (hv:VIn a b) {f:List Value} {s:List UInt8} (k:Rep.rel Z6a a f s) {g:List Value} {c:Int} (l:Rep.rel (Zd .i64) a g c) {z:List UInt8} (hm:Zih s c=some z) :
  Ret Tryz.prog 114 #[Z6a.val f,(Zd .i64).val g] b a (fun y v'=>∃ h,y=Z6a.val h∧Z6a.rel v' h z):=by
 obtain ⟨rfl,hs⟩:=k;obtain ⟨rfl,hc⟩:=l;unfold Zih at hm;split at hm
 ·rename_i hh
  cases hm
  obtain ⟨C,rfl⟩:=Int.eq_ofNat_of_zero_le hh.1;have hc:=ZQb.1 hc;have d:=hh.2;rw [Int.toNat_natCast] at d;have:=Any.strings_Repeat Tryz.lays105 Tryz.Builder_Extra_105 (Zt s) C b (by omega) (by rw [ZSc];exact d);refine Calls.mono this fun e w' ⟨i,j⟩=>?_;have m:(⟨(Lib.repeatL (Zt s).data.toList C).toArray⟩:ByteArray)=Zt (List.replicate C s).flatten:=by
   rw [Z1t];rfl
  rw [m] at i;exact ⟨_,a,i,j,VStep.ext hv j,[.string (Zt (List.replicate C s).flatten)],rfl,rfl,by simp only [Int.toNat_natCast];rw [List.length_flatten];simp;unfold maxLen;rw [Nat.mul_comm] at d;omega⟩
 ·cases hm
theorem text_w {e:World} {c:Zb} (hv:VIn c e) {c0:List Value} {a:Nat} (p0:Rep.rel Zu c c0 a) {z:(List UInt8)} (H:Zvh a=some z):Ret Tryz.prog 87 #[Zu.val c0] e c (fun y v'=>∃ r0,y=Z6a.val r0∧Z6a.rel v' r0 z):=by
 obtain ⟨q1,n2,k3,rfl⟩:=ZJa p0;refine ZGi (K:=49) (args:=[.slice q1 n2 k3]) hv Tryz.func87 rfl rfl zl fun f S=>?_;unfold Zvh at H;refine sr (mw S rfl fun f S=>oe (sr ?_));have S:=S.nilLoc 9 1;refine ov S rfl (Zjd S (y:=.slice (mkA none) 0 0) rfl) fun f S=>oe (Zy fun _ ar=>?_);obtain ⟨au,av,ax⟩:=Zia H;refine ZVc (fun f w=>∃ o F s G U I,o=au∧Zb.le c I∧St 49 e c [(3,.slice (mkA F) s G)] [Loc.own F 9 1 s G U] I f w∧Rep.rels Z6a I U o∧s=o.length) (fun _ ay=>?_) ?_
 ·have H:=av;refine wp_block ?_;obtain ⟨bt,az,aA⟩:=Zia H;refine Zre az (fun aB f w=>∃ J g L M N p h q k t,(J,g)=aB∧Zb.le c t∧St 49 e c [(0,.slice L M N),(3,.slice (mkA p) h q)] [Loc.own p 9 1 h q k] t f w∧Rep.rel Zu t [.slice L M N] J∧Rep.rels Z6a t k g∧h=g.length) ⟨_,_,_,_,_,none,0,0,[],_,rfl,(leR _),(S.fr' rfl),p0,Zah,rfl⟩ ?_;rintro _ f w st ⟨J,g,L,M,N,p,h,q,k,t,hq,ac,S,ad,d,ae⟩ H bu aC aD;subst hq;refine Zy fun _ aE=>sr (mv S rfl fun f S=>ov S rfl (ZZb S (Z4a ad) rfl rfl Zda) fun f S=>ov S rfl (ZA S rfl rfl Zqf) fun f S=>oe ?_);rcases Zlb (decide ((0:Int)<(((Zc 18446744073709551616 J)).length:Int))) with u | u
  ·have H:=Zrb H u;refine Zub S rfl u (wp_skip (Zr (aE _ _ (wp_block (Zy fun _ aF=>bO H fun O aG H=>ZU (mv S rfl fun f S=>opc S rfl (Zva S [.slice L M N,.int .u64 10000000000000000000] ZBo rfl rfl) (ZPp S.vin ad (show Rep.rel (Zd .u64) _ [.int .u64 10000000000000000000] (10000000000000000000:Int) from (Z8 (by decide))) aG) ?_))))));rintro _ bv f w af ⟨bw,bx,rfl,m,aH⟩ S;have d:=ZO af d;obtain ⟨aI,aJ,aK,rfl⟩:=ZJa m;obtain ⟨rfl,aL⟩:=aH;refine mv S rfl fun f S=>ov S rfl (ZBa S rfl rfl) fun f S=>ov S rfl (ZBa S rfl rfl) fun f S=>mw S rfl fun f S=>mw S rfl fun f S=>ZQ (Zr (aF _ _ (Zy fun _ aM=>bO H fun bz aN H=>ZU (mv S rfl fun f S=>opc S rfl (Zva S [.int .u64 (O.2)] k_en113 rfl rfl) (ZJw S.vin (show Rep.rel (Zd .u64) _ [.int .u64 (O.2)] O.2 from (Z8 aL)) aN) ?_))));rintro _ aO f w V ⟨bA,rfl,aP⟩ S;have d:=ZO V d;obtain ⟨rfl,aQ⟩:=aP;refine mw S rfl fun f S=>ZQ (Zr (aM _ _ (Zy fun _ aR=>sr (mv S rfl fun f S=>?_))));have m:=Zya V m;refine ov S rfl (ZZb S (Z4a m) rfl rfl Zda) fun f S=>ov S rfl (ZA S rfl rfl Zqf) fun f S=>oe ?_;obtain ⟨aS,aT,aU⟩:=Zia H;refine ZVc (fun f w=>∃ b P,b=aS∧Zb.le aO P∧St 49 e c [(3,.slice (mkA p) h q),(4,.slice aI aJ aK),(6,.string (Zt b))] [Loc.own p 9 1 h q k] P f w∧b.length≤maxLen) (fun _ ag=>?_) ?_
   ·have H:=aT;rcases Zlb (decide ((0:Int)<(((Zc 18446744073709551616 O.1)).length:Int))) with v | v
    ·have H:=Zrb H v;refine Zub S rfl v (bO H fun W ah H=>bO H fun bB aV H=>bO H fun bC ai H=>ZU (mv S rfl fun f S=>ov S rfl (Zxo S rfl rfl Tryz.underlying9) fun f S=>ov S rfl (ZA S rfl rfl (ZPb ah)) fun f S=>opc S rfl (Zva S [.string (Zt (([48]:List UInt8))),.int .i64 W] k_en114 rfl rfl) (Zdw S.vin (show Rep.rel Z6a _ [.string (Zt (([48]:List UInt8)))] (([48]:List UInt8)) from (Zmh zl)) (show Rep.rel (Zd .i64) _ [.int .i64 W] W from (Z8 (ZLb ah).2)) aV) ?_));rintro _ bD f w aj ⟨bE,rfl,aW⟩ S;have d:=ZO aj d;obtain ⟨rfl,bG⟩:=aW;refine mv S rfl fun f S=>ov S rfl (ZFj S rfl rfl (Z2o ai)) fun f S=>mw S rfl fun f S=>ZQ ?_;obtain rfl:=ZI H;refine Zr (ag _ _ ⟨_,_,rfl,(leT (leR _) aj),(S.fr' rfl),(Zrj ai)⟩)
    have H:=Zmb H v;refine ZDa S rfl v (wp_skip ?_);obtain rfl:=ZI H;refine Zr (ag _ _ ⟨_,_,rfl,(leR _),(S.fr' rfl),aQ⟩)
   rintro f w ⟨b,P,hq,X,S,aX⟩;subst hq;have H:=aU;have d:=ZO X d;refine Zr (aR _ _ (bO H fun bH aY H=>ZU (mv S rfl fun f S=>mv S rfl fun f S=>?_)));obtain ⟨bI,w,aZ,S⟩:=Zjg S (n:=1) (cs:=[.string (Zt b)]) (vals:=[(0,.string (Zt b))]) (sz:=1) rfl (by decide) (Zds ZFo (x:=.string (Zt b)) (cs:=[.string (Zt b)]) rfl rfl (by decide));have Y:Rep.rels Z6a P [.string (Zt b)] [b]:=(Zcs (Zmh aX) Zah);refine ZDc wn rfl zl (aZ rfl) S fun f S=>?_;have a0:=S;obtain ⟨ak,al,w,a1,S⟩:=Zjk (ty:=166) ZFo S (i:=1) (n':=(g++[b]).length) rfl (ZVd Y rfl) (ZBg S (j:=0) rfl) (Ztg Y) (appN ae rfl) (Zne aY) (by decide);have a2:=Zic d Y;refine ZDc wn rfl zl (ZXd a0 rfl rfl a1) S fun f S=>mv S rfl fun f S=>mw S rfl fun f S=>mw S rfl fun f S=>ZQ (ZBd ?_);obtain rfl:=ZI H;have S:=S.reorder (ℓ':=[Loc.own ak 9 1 ((g++[b]).length) al ((k++[.string (Zt b)]))]) [1] rfl (by decide);have m:=Zya X m;refine aC _ rfl _ _ ⟨_,_,_,_,_,ak,(g++[b]).length,al,(k++[.string (Zt b)]),_,rfl,(leT (leT (leT ac af) V) X),(S.fr' rfl),m,a2,rfl⟩
  have H:=Zmb H u;refine ZDa S rfl u (wp_exit (Z0a ?_));obtain rfl:=ZI H;have hq:=aD _ rfl;subst hq;have H:=aA;refine Z0a (ZDd ?_);obtain rfl:=ZI H;refine Zr (ay _ _ ⟨_,p,h,q,k,_,rfl,(leT (leR _) ac),(S.fr' rfl),d,ae⟩)
 rintro f w ⟨o,F,s,G,U,I,hq,bJ,S,a3,am⟩;subst hq;have H:=ax;refine Zr (ar _ _ (Zy fun _ a4=>sr (mv S rfl fun f S=>ov S rfl (ZZb S am rfl rfl ZMl) fun f S=>ov S rfl (ZA S rfl rfl Z2g) fun f S=>oe ?_)));rcases Zlb (((o.length:Int))==(0:Int)) with B | B
 ·have H:=Zrb H B;refine Zub S rfl B (sr (mw S rfl fun f S=>oe (wp_ret (Zhi ?_))));obtain rfl:=ZI H;refine ZEf S (ZXc rfl (ZVa S rfl)) ⟨[.string (Zt (([48]:List UInt8)))],rfl,(Zmh zl)⟩
 have H:=Zmb H B;refine ZDa S rfl B (wp_skip (Zr (a4 _ _ (sr ?_))));obtain ⟨an,bK,S,C⟩:=S.pubSlice (i:=0) (A:=Z6a) (l:=o) (ℓ':=[]) rfl rfl am a3 rfl;refine op_newB 5 S wn rfl zl (ZOl k_zv172) fun r f w S a5=>oe (Zy fun _ a6=>Zy fun _ a7=>bO H fun bM ao H=>ZU (mv S rfl fun f S=>ov S rfl (ZZb S (Z4a C) rfl rfl ZMl) fun f S=>ov S rfl (ZA S rfl rfl (ZPb ao)) fun f S=>mw S rfl fun f S=>ZQ (Zr (a7 _ _ ?_))));obtain ⟨a8,a9,ba⟩:=Zia H;refine ZVc (fun f w=>∃ Q R,Q=a8∧Zb.le an R∧St 49 e c [(7,.pointer (some ⟨r,0,none⟩))] [] R f w∧Bld 172 5 r e R Q w) (fun _ bb=>?_) ?_
 ·have H:=a9;refine wp_block ?_;obtain ⟨bP,bc,bd⟩:=Zia H;refine Zre bc (fun be f w=>∃ Z D T,(Z,D)=be∧Zb.le an T∧St 49 e c [(3,.slice (mkA F) s G),(7,.pointer (some ⟨r,0,none⟩)),(8,.int .i64 D)] [] T f w∧Bld 172 5 r e T Z w∧inR .i64 D) ⟨_,_,_,rfl,(leR _),(S.fr' rfl),a5,(ZLb ao).2⟩ ?_;rintro _ f w st ⟨Z,D,T,hq,aa,S,ap,bQ⟩ H bR bf bg;subst hq;refine Zy fun _ bh=>sr (mv S rfl fun f S=>ov S rfl (ZA S rfl rfl ZZl) fun f S=>oe ?_);rcases Zlb (decide ((0:Int)≤D)) with E | E
  ·have H:=Zrb H E;refine Zub S rfl E (wp_skip (Zr (bh _ _ (Zy fun _ bi=>wp_block (bO H fun bj ab H=>bO H fun bS bk H=>ZU (mv S rfl fun f S=>mv S rfl fun f S=>?_))))));have C:=Zya aa C;obtain ⟨_,bT,bU,bV,bm,bn,bo⟩:=Zjc C (Zq ab).2.1;obtain ⟨rfl,rfl⟩:=ZIu bm;obtain ⟨rfl,bW⟩:=bo;refine ov S rfl (Zma S rfl rfl ZMl (Zq ab).1 (ltI (Z4a C) (Zq ab).2.2.1)) fun f S=>ov S rfl (Zeb S rfl k_sz9 (S.view bn)) fun f S=>Ziu writes ap (ZYu bk) S wn rfl zl (Zva S [.pointer (some ⟨r,0,none⟩),.string (Zt bj)] k_en115 rfl rfl) fun f w S bp=>ZQ (ZBd (Zr (bi _ _ (bO H fun bX aq H=>ZU (mv S rfl fun f S=>ov S rfl (ZA S rfl rfl (ZPb aq)) fun f S=>mw S rfl fun f S=>ZQ ?_)))));obtain rfl:=ZI H;refine bf _ rfl _ _ ⟨_,_,_,rfl,aa,(S.fr' rfl),bp,(ZLb aq).2⟩
  have H:=Zmb H E;refine ZDa S rfl E (wp_exit (Z0a ?_));obtain rfl:=ZI H;have hq:=bg _ rfl;subst hq;have H:=bd;refine Z0a (ZDd ?_);obtain rfl:=ZI H;refine Zr (bb _ _ ⟨_,_,rfl,(leT (leR _) aa),(S.fr' rfl),ap⟩)
 rintro f w ⟨Q,R,hq,bY,S,bq⟩;subst hq;have H:=ba;refine Zr (a6 _ _ (Zy fun _ br=>bO H fun bZ bs H=>ZU (op_tell tells bq S wn rfl zl (Zva S [.pointer (some ⟨r,0,none⟩)] k_en116 rfl rfl) fun f w S=>mw S rfl fun f S=>ZQ (Zr (br _ _ (wp_ret ?_))))));obtain rfl:=ZI H;refine ZEf S (ZXc rfl (ZVa S rfl)) ⟨[.string (Zt Q)],rfl,(Zmh (Zrj bs))⟩
theorem text_c {c:World} {b:Zb} (hv:VIn b c) {d:List Value} {a:Nat} (f:Rep.rel Zu b d a) {z:(List UInt8)} (hm:ZWf a=some z) :
  Ret Tryz.prog 87 #[Zu.val d] c b (fun y v'=>∃ e,y=Z6a.val e∧Z6a.rel v' e z) :=
 text_w hv f (ZMt hm)
end Go.Eng
set_option maxRecDepth 100000
set_option maxHeartbeats 4000000
namespace Go.Eng
open Go.Proofs Go.RowKit
noncomputable def Z4l:FuncId×Con:=(87,⟨[.leaf 0],[.str],fun p=>ZWf p⟩)
theorem text_k:ZEc Tryz.prog Z4l.1 Z4l.2:=fun w v vals x z hv ha hz=>by
 obtain ⟨c0,e0,p0⟩:=ha;subst e0
 exact .inl ⟨fun _ _=>by kernel_rfl,Ret.mono (text_c hv p0 hz) fun y v' _ ⟨r0,e,h0⟩=>⟨r0,e,h0⟩⟩
end Go.Eng
set_option maxRecDepth 100000
set_option maxHeartbeats 4000000
namespace Go.Eng
open Go.Proofs Go.RowKit
noncomputable def Zkl:FuncId×Con:=(53,⟨[.leaf 3],[.str],fun p=>ZLc p⟩)
theorem ZKr:KQ Zkl:=Zm (Z0 (C:=cf0 [Z4l] [] [] []) (.n (.n (.two (.n (.j [1] [] [.s 3 (.dat .str)] .no)) (.f (.n (.j [] [] [.s 3 (.dat .str)] .no)))))) Tryz.func53 [] (fun v vals x z ha hz=>.trans (by kernel_rfl) (ZJu hz)) ⟨text_k,tr⟩)
end Go.Eng
set_option maxRecDepth 100000
set_option maxHeartbeats 4000000
namespace Go.Eng
open Go.Proofs Go.RowKit
noncomputable def ZVp:FuncId×Con:=(84,⟨[.pair (.pair (.leaf 2) (.pair (.leaf 2) (.pair (.leaf 2) (.leaf 2)))) (.leaf 0)],[.pair (.leaf 3) (.pair (.leaf 3) (.pair (.leaf 3) (.leaf 3)))],fun p=>ZSl p⟩)
theorem Z8v:KQ ZVp:=Zm (Zw (C:=cf0 [ZMf,Zhh] [] [] []) (.n (.n (.f (.n (.f (.unroll 5 .no)))))) Tryz.func84 [] (fun _=>by kernel_rfl) ⟨ZNg,Zei,tr⟩)
end Go.Eng
set_option maxRecDepth 100000
set_option maxHeartbeats 4000000
namespace Go.Eng
open Go.Proofs Go.RowKit
noncomputable def ZMr:FuncId×Con:=(86,⟨[],[.pair .str (.pair .str (.pair .str .str))],fun _=>ZNh⟩)
theorem Zcu:KQ ZMr:=Zm (Zw (C:=cf0 [] [] [] []) .no Tryz.func86 [] (fun _=>by kernel_rfl))
end Go.Eng
set_option maxRecDepth 100000
set_option maxHeartbeats 4000000
namespace Go.Eng
open Go.Proofs Go.RowKit
noncomputable def Zat:FuncId×Con:=(52,⟨[.pair (.pair (.leaf 2) (.pair (.leaf 2) (.pair (.leaf 2) (.leaf 2)))) (.leaf 0)],[.str],fun p=>Zwm p⟩)
theorem ZOt:KQ Zat:=Zm (Zw (C:=cf0 [ZRb,Zkl,ZVp,Zkh,ZMr] [] [] []) (.n (.n (.f (.n (.f (.unroll 5 (.f (.n (.n (.f (.j [7,8] [] [.s 3 (.dat .str)] (.f (.n (.n (.f (.two (.j [3,4,5,7,8] [] [.s 20 (.dat .bool)] .no) (.j [4,5,7,8] [] [.s 3 (.dat .str)] .no))))))))))))))))) Tryz.func52 [] (fun _=>by kernel_rfl) ⟨Z9b,ZKr,Z8v,ZBj,Zcu,tr⟩)
end Go.Eng
set_option maxRecDepth 100000
set_option maxHeartbeats 4000000
namespace Go.Eng
open Go.Proofs Go.RowKit
noncomputable def Z7o:FuncId×Con:=(17,⟨[],[.bool],fun _=>Zgj⟩)
theorem Zsv:KQ Z7o:=Zm (Zw (C:=cf0 [ZJd,Zdm,ZZo,Z3s,Zat,Zkl] [] [] []) (.n (.n (.n (.f (.j [] [] [.s 0 (.dat .bool)] .no))))) Tryz.func17 [] (fun _=>by kernel_rfl) ⟨Zce,ZLq,ZMx,wvIm_k,ZOt,ZKr,tr⟩)
end Go.Eng
set_option maxRecDepth 100000
set_option maxHeartbeats 4000000
namespace Go.Eng
open Go.Proofs Go.RowKit
noncomputable def ZBu:FuncId×Con:=(3,⟨[.int .u8,.pair (.int .u8) (.pair (.int .u8) (.int .u8)),.pair (.int .u8) (.int .u8),.pair (.int .u8) (.int .u8),.pair (.int .u8) (.int .u8)],[.bool],fun p=>ZSi p.1 p.2.1 p.2.2.1 p.2.2.2.1 p.2.2.2.2⟩)
theorem ZDw:KR ZBu:=Zw (C:=cf0 [ZVs,ZJd,Zdm,ZHp,Z2l,Zkm,Zfq,ZIq,Z3d,Zpe,ZAd,Z6o,Zgp,Z7o] [] [] []) (.n (.n (.n (.n (.n (.two (.n (.f (.unroll 3 (.f (.n (.n (.f (.f (.n (.n (.n (.n (.n (.f (.n (.f (.cut ⟨⟨[8,9,11,12,13,14,15,16,19,20,44,45,79,80],[],[.s 21 (.own 29 (.leaf 3)),.s 22 (.own 29 (.leaf 3)),.s 81 (.dat (.int .i64))]⟩,[(.exit 2,⟨[8,9,11,12,13,14,15,16,20,44,45],[],[.s 21 (.own 29 (.leaf 3)),.s 22 (.own 29 (.leaf 3))]⟩),(.ret,⟨[],[],[.s 1000 (.dat .bool)]⟩)]⟩ .no))))))))))))))))) (.n (.n (.two (.f (.j [11,13,14,15,16,29] [] [.s 161 (.dat .bool)] .no)) (.n (.two (.f (.j [14,15,16,29] [] [.s 176 (.dat .bool)] .no)) (.n (.two (.n (.f (.l [14,15,16,29,178] [] [.s 34 (.own 29 (.leaf 3)),.s 35 (.own 29 (.leaf 3)),.s 179 (.dat (.int .i64))] 4 [14,29] [] [.s 34 (.own 29 (.leaf 3)),.s 35 (.own 29 (.leaf 3))] .no))) (.n (.f (.j [] [] [.s 10 (.dat .bool)] .no)))))))))))))))) Tryz.func3 [] (fun _=>by kernel_rfl) ⟨Zkv,Zce,ZLq,Ziy,Zup,Zps,Zlv,Zzx,ZEe,ZMe,ZYd,Zcx,ZRw,Zsv,tr⟩
theorem ZEx {w0:World} {v0:Zb} (hv:VIn v0 w0) {c0:List Value} {rest:Int} (p0:Rep.rel (Zd .u8) v0 c0 rest) {c1:List Value} {ws:(Int×Int×Int)} (p1:Rep.rel (Zaa (Zd .u8) (Zaa (Zd .u8) (Zd .u8))) v0 c1 ws) {c2:List Value} {fs:(Int×Int)} (p2:Rep.rel (Zaa (Zd .u8) (Zd .u8)) v0 c2 fs) {c3:List Value} {ss:(Int×Int)} (p3:Rep.rel (Zaa (Zd .u8) (Zd .u8)) v0 c3 ss) {c4:List Value} {ls:(Int×Int)} (p4:Rep.rel (Zaa (Zd .u8) (Zd .u8)) v0 c4 ls) {z:Bool} (hm:ZSi rest ws fs ss ls=some z):Ret Tryz.prog 3 #[(Zd .u8).val c0,(Zaa (Zd .u8) (Zaa (Zd .u8) (Zd .u8))).val c1,(Zaa (Zd .u8) (Zd .u8)).val c2,(Zaa (Zd .u8) (Zd .u8)).val c3,(Zaa (Zd .u8) (Zd .u8)).val c4] w0 v0 (fun y v'=>∃ r0,y=ZOc.val r0∧ZOc.rel v' r0 z):=(ZDw w0 v0 [(Zd .u8).val c0,(Zaa (Zd .u8) (Zaa (Zd .u8) (Zd .u8))).val c1,(Zaa (Zd .u8) (Zd .u8)).val c2,(Zaa (Zd .u8) (Zd .u8)).val c3,(Zaa (Zd .u8) (Zd .u8)).val c4] (rest,ws,fs,ss,ls) z hv ⟨c0,_,rfl,p0,c1,_,rfl,p1,c2,_,rfl,p2,c3,_,rfl,p3,c4,rfl,p4⟩ hm).2
end Go.Eng
