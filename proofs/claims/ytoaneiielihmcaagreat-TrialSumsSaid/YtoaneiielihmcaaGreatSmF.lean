/- Lemmas towards the statement: the engine of the walks, the functions' models, laws and walks, part 6. Conditions: as each states. -/
import Derived.Shelf.Strings.Builder1
import Derived.Shelf.Strings.Repeat
import Derived.Test.YtoaneiielihmcaaGreatProg
import Derived.Test.YtoaneiielihmcaaGreatSmE
set_option linter.all false
set_option maxRecDepth 100000
set_option maxRecDepth 100000
set_option maxHeartbeats 4000000
namespace Go.Eng
open Go.Proofs Go.RowKit
noncomputable def ZPk:FuncId×Con:=(134,⟨[.leaf 1,.int .i64],[.leaf 1],fun p=>Z2d p.1 p.2⟩)
theorem Zos (a:Nat) (n:Int):Zo ⟨Tryz.prog,[(40,1),(42,4)],[Zdb],[],[],[],[]⟩ [] Tryz.f134 (.two .no (.two .no (.two .no (.two .no (.two (.two .no (.cut ⟨⟨[],[],[]⟩,[(.norm,⟨[],[],[.s 5 (.own 140 (.int .u32)),.s 6 (.dat (.int .u64))]⟩)]⟩ (.two (.cut ⟨⟨[0,1],[],[.s 5 (.own 140 (.int .u32)),.s 6 (.dat (.int .u64)),.s 7 (.dat (.int .i64))]⟩,[(.exit 0,⟨[],[],[.s 5 (.own 140 (.int .u32)),.s 6 (.dat (.int .u64))]⟩)]⟩ .no) .no))) .no))))) [.leaf 1,.int .i64] [.leaf 1] (a,n)=Zij a n:=by kernel_rfl
theorem Zbr:Zm Tryz.prog ZPk.1 ZPk.2:=Zq (C:=⟨Tryz.prog,[(40,1),(42,4)],[Zdb],[],[],[],[]⟩) ⟨Zue,trivial⟩ trivial trivial trivial (inl:=[]) trivial (ann:=.two .no (.two .no (.two .no (.two .no (.two (.two .no (.cut ⟨⟨[],[],[]⟩,[(.norm,⟨[],[],[.s 5 (.own 140 (.int .u32)),.s 6 (.dat (.int .u64))]⟩)]⟩ (.two (.cut ⟨⟨[0,1],[],[.s 5 (.own 140 (.int .u32)),.s 6 (.dat (.int .u64)),.s 7 (.dat (.int .i64))]⟩,[(.exit 0,⟨[],[],[.s 5 (.own 140 (.int .u32)),.s 6 (.dat (.int .u64))]⟩)]⟩ .no) .no))) .no))))) Tryz.func134 (fun _ _=>by kernel_rfl) rfl fun v vals x z ha hz=>(Zos x.1 x.2).trans (Z3u hz)
end Go.Eng
set_option maxRecDepth 100000
set_option maxHeartbeats 4000000
namespace Go.Eng
open Go.Proofs Go.RowKit
noncomputable def Zti:FuncId×Con:=(135,⟨[.leaf 1,.int .i64],[.leaf 1],fun p=>Zig p.1 p.2⟩)
theorem ZBv (a:Nat) (n:Int):Zo ⟨Tryz.prog,[(40,1),(42,4)],[Zdb],[],[],[],[]⟩ [] Tryz.f135 (.two .no (.two .no (.two (.two .no (.cut ⟨⟨[],[],[]⟩,[(.norm,⟨[],[],[.s 5 (.own 140 (.int .u32))]⟩)]⟩ (.two (.cut ⟨⟨[0,1],[],[.s 5 (.own 140 (.int .u32)),.s 6 (.dat (.int .i64))]⟩,[(.exit 0,⟨[],[],[.s 5 (.own 140 (.int .u32))]⟩)]⟩ (.two (.two .no (.two (.two (.two .no (.two (.two .no (.cut ⟨⟨[],[],[]⟩,[(.norm,⟨[0,1,5,6],[],[.s 7 (.dat (.int .u64))]⟩)]⟩ .no)) .no)) .no) .no)) .no)) .no))) .no))) [.leaf 1,.int .i64] [.leaf 1] (a,n)=ZWi a n:=by kernel_rfl
theorem ZTs:Zm Tryz.prog Zti.1 Zti.2:=Zq (C:=⟨Tryz.prog,[(40,1),(42,4)],[Zdb],[],[],[],[]⟩) ⟨Zue,trivial⟩ trivial trivial trivial (inl:=[]) trivial (ann:=.two .no (.two .no (.two (.two .no (.cut ⟨⟨[],[],[]⟩,[(.norm,⟨[],[],[.s 5 (.own 140 (.int .u32))]⟩)]⟩ (.two (.cut ⟨⟨[0,1],[],[.s 5 (.own 140 (.int .u32)),.s 6 (.dat (.int .i64))]⟩,[(.exit 0,⟨[],[],[.s 5 (.own 140 (.int .u32))]⟩)]⟩ (.two (.two .no (.two (.two (.two .no (.two (.two .no (.cut ⟨⟨[],[],[]⟩,[(.norm,⟨[0,1,5,6],[],[.s 7 (.dat (.int .u64))]⟩)]⟩ .no)) .no)) .no) .no)) .no)) .no))) .no))) Tryz.func135 (fun _ _=>by kernel_rfl) rfl fun v vals x z ha hz=>by obtain ⟨c0,w0,e0,p0,c1,e1,p1⟩:=ha;exact (ZBv x.1 x.2).trans (Z7t p1.2 hz)
end Go.Eng
set_option maxRecDepth 100000
set_option maxHeartbeats 4000000
namespace Go.Eng
open Go.Proofs Go.RowKit
noncomputable def Zbg:FuncId×Con:=(114,⟨[.leaf 1,.leaf 1],[.leaf 1,.leaf 1],fun p=>Zyc p.1 p.2⟩)
theorem rquot_i (a:Nat) (b:Nat):Zo ⟨Tryz.prog,[(40,1),(42,4)],[ZVe,ZBe,ZSg,ZZf,Zdb,Zmg,ZJi,ZPk,Zti],[],[],[],[]⟩ [] Tryz.f114 (.two .no (.two .no (.two .no (.two .no (.two .no (.two .no (.two .no (.two (.two .no (.cut ⟨⟨[],[],[]⟩,[(.norm,⟨[8],[],[.s 10 (.dat (.leaf 1)),.s 12 (.own 140 (.int .u32))]⟩)]⟩ (.two (.cut ⟨⟨[8,9,11],[],[.s 10 (.dat (.leaf 1)),.s 12 (.own 140 (.int .u32)),.s 13 (.dat (.int .i64))]⟩,[(.exit 0,⟨[8],[],[.s 10 (.dat (.leaf 1)),.s 12 (.own 140 (.int .u32))]⟩)]⟩ (.two (.two .no (.two (.cut ⟨⟨[],[],[]⟩,[(.norm,⟨[8,9,11,13],[],[.s 10 (.dat (.leaf 1)),.s 12 (.own 140 (.int .u32))]⟩)]⟩ (.two (.two .no (.two (.two .no (.cut ⟨⟨[],[],[]⟩,[(.norm,⟨[8,9,10,11,12,13],[],[.s 14 (.dat (.slice (.int .u32)))]⟩)]⟩ .no)) (.two .no (.two .no (.two (.two .no (.cut ⟨⟨[],[],[]⟩,[(.norm,⟨[8,9,10,11,12,13,14],[],[.s 15 (.dat (.int .u64))]⟩)]⟩ .no)) (.two .no (.two (.two .no (.cut ⟨⟨[],[],[]⟩,[(.norm,⟨[8,9,10,11,12,13,14],[],[.s 16 (.dat (.int .u64))]⟩)]⟩ .no)) (.two .no (.two (.cut ⟨⟨[],[],[]⟩,[(.norm,⟨[8,9,10,11,12,13,14],[],[.s 16 (.dat (.int .u64)),.s 17 (.dat (.leaf 1))]⟩)]⟩ (.two (.cut ⟨⟨[8,9,10,11,12,13,14],[],[.s 16 (.dat (.int .u64)),.s 17 (.dat (.leaf 1))]⟩,[(.exit 2,⟨[8,9,10,11,12,13,14],[],[.s 16 (.dat (.int .u64)),.s 17 (.dat (.leaf 1))]⟩)]⟩ .no) .no)) .no))))))))) .no)) .no)) .no)) .no))) .no)))))))) [.leaf 1,.leaf 1] [.leaf 1,.leaf 1] (a,b)=Zoj a b:=by kernel_rfl
theorem ZQn:Zm Tryz.prog Zbg.1 Zbg.2:=Zq (C:=⟨Tryz.prog,[(40,1),(42,4)],[ZVe,ZBe,ZSg,ZZf,Zdb,Zmg,ZJi,ZPk,Zti],[],[],[],[]⟩) ⟨ZDm,Zen,Zio,Zdp,Zue,ZLp,rbits_k,Zbr,ZTs,trivial⟩ trivial trivial trivial (inl:=[]) trivial (ann:=.two .no (.two .no (.two .no (.two .no (.two .no (.two .no (.two .no (.two (.two .no (.cut ⟨⟨[],[],[]⟩,[(.norm,⟨[8],[],[.s 10 (.dat (.leaf 1)),.s 12 (.own 140 (.int .u32))]⟩)]⟩ (.two (.cut ⟨⟨[8,9,11],[],[.s 10 (.dat (.leaf 1)),.s 12 (.own 140 (.int .u32)),.s 13 (.dat (.int .i64))]⟩,[(.exit 0,⟨[8],[],[.s 10 (.dat (.leaf 1)),.s 12 (.own 140 (.int .u32))]⟩)]⟩ (.two (.two .no (.two (.cut ⟨⟨[],[],[]⟩,[(.norm,⟨[8,9,11,13],[],[.s 10 (.dat (.leaf 1)),.s 12 (.own 140 (.int .u32))]⟩)]⟩ (.two (.two .no (.two (.two .no (.cut ⟨⟨[],[],[]⟩,[(.norm,⟨[8,9,10,11,12,13],[],[.s 14 (.dat (.slice (.int .u32)))]⟩)]⟩ .no)) (.two .no (.two .no (.two (.two .no (.cut ⟨⟨[],[],[]⟩,[(.norm,⟨[8,9,10,11,12,13,14],[],[.s 15 (.dat (.int .u64))]⟩)]⟩ .no)) (.two .no (.two (.two .no (.cut ⟨⟨[],[],[]⟩,[(.norm,⟨[8,9,10,11,12,13,14],[],[.s 16 (.dat (.int .u64))]⟩)]⟩ .no)) (.two .no (.two (.cut ⟨⟨[],[],[]⟩,[(.norm,⟨[8,9,10,11,12,13,14],[],[.s 16 (.dat (.int .u64)),.s 17 (.dat (.leaf 1))]⟩)]⟩ (.two (.cut ⟨⟨[8,9,10,11,12,13,14],[],[.s 16 (.dat (.int .u64)),.s 17 (.dat (.leaf 1))]⟩,[(.exit 2,⟨[8,9,10,11,12,13,14],[],[.s 16 (.dat (.int .u64)),.s 17 (.dat (.leaf 1))]⟩)]⟩ .no) .no)) .no))))))))) .no)) .no)) .no)) .no))) .no)))))))) Tryz.func114 (fun _ _=>by kernel_rfl) rfl fun v vals x z ha hz=>(rquot_i x.1 x.2).trans (Zlr hz)
end Go.Eng
set_option maxRecDepth 100000
set_option maxHeartbeats 4000000
namespace Go.Eng
open Go.Proofs Go.RowKit
noncomputable def Zhi:FuncId×Con:=(113,⟨[.leaf 1,.leaf 1],[.leaf 1],fun p=>rgcF p.1 p.2⟩)
theorem rgcd_i (a:Nat) (b:Nat):Zo ⟨Tryz.prog,[(40,1),(42,4)],[Zbg],[],[],[],[]⟩ [] Tryz.f113 (.two .no (.two (.cut ⟨⟨[],[],[]⟩,[(.norm,⟨[],[],[.s 0 (.dat (.leaf 1))]⟩)]⟩ (.two (.cut ⟨⟨[],[],[.s 0 (.dat (.leaf 1)),.s 1 (.dat (.leaf 1))]⟩,[(.exit 0,⟨[],[],[.s 0 (.dat (.leaf 1))]⟩)]⟩ .no) .no)) .no)) [.leaf 1,.leaf 1] [.leaf 1] (a,b)=Zaj a b:=by kernel_rfl
theorem rgcd_k:Zm Tryz.prog Zhi.1 Zhi.2:=Zq (C:=⟨Tryz.prog,[(40,1),(42,4)],[Zbg],[],[],[],[]⟩) ⟨ZQn,trivial⟩ trivial trivial trivial (inl:=[]) trivial (ann:=.two .no (.two (.cut ⟨⟨[],[],[]⟩,[(.norm,⟨[],[],[.s 0 (.dat (.leaf 1))]⟩)]⟩ (.two (.cut ⟨⟨[],[],[.s 0 (.dat (.leaf 1)),.s 1 (.dat (.leaf 1))]⟩,[(.exit 0,⟨[],[],[.s 0 (.dat (.leaf 1))]⟩)]⟩ .no) .no)) .no)) Tryz.func113 (fun _ _=>by kernel_rfl) rfl fun v vals x z ha hz=>(rgcd_i x.1 x.2).trans (rgcF_eq hz)
end Go.Eng
set_option maxRecDepth 100000
set_option maxHeartbeats 4000000
namespace Go.Eng
open Go.Proofs Go.RowKit
noncomputable def ZGc:FuncId×Con:=(78,⟨[.bool,.leaf 1,.leaf 1],[.leaf 4],fun p=>Zlb p.1 p.2.1 p.2.2⟩)
theorem rfrac_i (s:Bool) (n:Nat) (d:Nat):Zo ⟨Tryz.prog,[(40,1),(42,4)],[Zhi,Zbg],[],[],[],[]⟩ [] Tryz.f78 .no [.bool,.leaf 1,.leaf 1] [.leaf 4] (s,n,d)=Zdl s n d:=by kernel_rfl
theorem Z6g:Zm Tryz.prog ZGc.1 ZGc.2:=Zq (C:=⟨Tryz.prog,[(40,1),(42,4)],[Zhi,Zbg],[],[],[],[]⟩) ⟨rgcd_k,ZQn,trivial⟩ trivial trivial trivial (inl:=[]) trivial (ann:=.no) Tryz.func78 (fun _ _=>by kernel_rfl) rfl fun v vals x z ha hz=>(rfrac_i x.1 x.2.1 x.2.2).trans (Z6s hz)
end Go.Eng
set_option maxRecDepth 100000
set_option maxHeartbeats 4000000
namespace Go.Eng
open Go.Proofs Go.RowKit
noncomputable def Zpd:FuncId×Con:=(69,⟨[.int .i64],[.leaf 4],fun p=>Zhc p⟩)
theorem Z7q (n:Int):Zo ⟨Tryz.prog,[(40,1),(42,4)],[ZGc,ZZf],[],[],[],[]⟩ [] Tryz.f69 .no [.int .i64] [.leaf 4] (n)=Zqj n:=by kernel_rfl
theorem Zfk:Zm Tryz.prog Zpd.1 Zpd.2:=Zq (C:=⟨Tryz.prog,[(40,1),(42,4)],[ZGc,ZZf],[],[],[],[]⟩) ⟨Z6g,Zdp,trivial⟩ trivial trivial trivial (inl:=[]) trivial (ann:=.no) Tryz.func69 (fun _ _=>by kernel_rfl) rfl fun v vals x z ha hz=>by obtain ⟨c0,e0,p0⟩:=ha;exact (Z7q x).trans (Zit p0.2 hz)
end Go.Eng
set_option maxRecDepth 100000
set_option maxHeartbeats 4000000
namespace Go.Eng
open Go.Proofs Go.RowKit
noncomputable def Zii:FuncId×Con:=(70,⟨[.int .i64,.int .i64],[.leaf 4,.int .i64],fun p=>Zah p.1 p.2⟩)
theorem rnew_i (n:Int) (d:Int):Zo ⟨Tryz.prog,[(40,1),(42,4)],[Zpd,ZGc],[],[],[],[]⟩ [] Tryz.f70 .no [.int .i64,.int .i64] [.leaf 4,.int .i64] (n,d)=ZKl n d:=by kernel_rfl
theorem rnew_k:Zm Tryz.prog Zii.1 Zii.2:=Zq (C:=⟨Tryz.prog,[(40,1),(42,4)],[Zpd,ZGc],[],[],[],[]⟩) ⟨Zfk,Z6g,trivial⟩ trivial trivial trivial (inl:=[]) trivial (ann:=.no) Tryz.func70 (fun _ _=>by kernel_rfl) rfl fun v vals x z ha hz=>by obtain ⟨c0,w0,e0,p0,c1,e1,p1⟩:=ha;exact (rnew_i x.1 x.2).trans (ZBr p0.2 p1.2 hz)
end Go.Eng
set_option maxRecDepth 100000
set_option maxHeartbeats 4000000
namespace Go.Eng
open Go.Proofs Go.RowKit
noncomputable def Zzd:FuncId×Con:=(31,⟨[.pair (.int .i64) (.int .i64)],[.leaf 4],fun p=>ZWc p⟩)
theorem rof_i (r:(Int×Int)):Zo ⟨Tryz.prog,[(40,1),(42,4)],[Zpd,Zii],[],[],[],[]⟩ [] Tryz.f31 .no [.pair (.int .i64) (.int .i64)] [.leaf 4] (r)=rof_m r:=by kernel_rfl
theorem Zdj:Zm Tryz.prog Zzd.1 Zzd.2:=Zq (C:=⟨Tryz.prog,[(40,1),(42,4)],[Zpd,Zii],[],[],[],[]⟩) ⟨Zfk,rnew_k,trivial⟩ trivial trivial trivial (inl:=[]) trivial (ann:=.no) Tryz.func31 (fun _ _=>by kernel_rfl) rfl fun v vals x z ha hz=>(rof_i x).trans (rofF_eq hz)
end Go.Eng
set_option maxRecDepth 100000
set_option maxHeartbeats 4000000
namespace Go.Eng
open Go.Proofs Go.RowKit
noncomputable def ZFk:FuncId×Con:=(24,⟨[.pair (.pair (.int .i64) (.int .i64)) (.pair (.pair (.int .i64) (.int .i64)) (.pair (.int .i64) (.int .i64)))],[.pair (.leaf 3) (.pair (.leaf 3) (.leaf 3)),.pair (.leaf 4) (.pair (.leaf 4) (.leaf 4))],fun p=>Zhn p⟩)
theorem drum8_i (d:((Int×Int)×(Int×Int)×(Int×Int))):Zo ⟨Tryz.prog,[(32,0),(34,2),(36,3),(40,1),(42,4)],[ZCc,Zzd],[],[],[],[]⟩ [] Tryz.f24 .no [.pair (.pair (.int .i64) (.int .i64)) (.pair (.pair (.int .i64) (.int .i64)) (.pair (.int .i64) (.int .i64)))] [.pair (.leaf 3) (.pair (.leaf 3) (.leaf 3)),.pair (.leaf 4) (.pair (.leaf 4) (.leaf 4))] (d)=Zhn d:=by kernel_rfl
theorem drum8_k:Zm Tryz.prog ZFk.1 ZFk.2:=Zq (C:=⟨Tryz.prog,[(32,0),(34,2),(36,3),(40,1),(42,4)],[ZCc,Zzd],[],[],[],[]⟩) ⟨Zkh,Zdj,trivial⟩ trivial trivial trivial (inl:=[]) trivial (ann:=.no) Tryz.func24 (fun _ _=>by kernel_rfl) rfl fun v vals x z ha hz=>(drum8_i x).trans (hz)
end Go.Eng
set_option maxRecDepth 100000
set_option maxHeartbeats 4000000
namespace Go.Eng
open Go.Proofs Go.RowKit
noncomputable def Zsd:FuncId×Con:=(49,⟨[.int .i64],[.leaf 3],fun p=>ZRb p⟩)
theorem ZPr (n:Int):Zo ⟨Tryz.prog,[(32,0),(34,2),(36,3),(40,1),(42,4)],[Zgd],[],[],[],[]⟩ [] Tryz.f49 .no [.int .i64] [.leaf 3] (n)=ZRb n:=by kernel_rfl
theorem Z8i:Zm Tryz.prog Zsd.1 Zsd.2:=Zq (C:=⟨Tryz.prog,[(32,0),(34,2),(36,3),(40,1),(42,4)],[Zgd],[],[],[],[]⟩) ⟨ZFi,trivial⟩ trivial trivial trivial (inl:=[]) trivial (ann:=.no) Tryz.func49 (fun _ _=>by kernel_rfl) rfl fun v vals x z ha hz=>(ZPr x).trans (hz)
end Go.Eng
set_option maxRecDepth 100000
set_option maxHeartbeats 4000000
namespace Go.Eng
open Go.Proofs Go.RowKit
noncomputable def ZUi:FuncId×Con:=(61,⟨[.pair (.leaf 3) (.pair (.leaf 3) (.leaf 3))],[.bool],fun p=>Zmm p⟩)
theorem valid_i (d:(Rat×Rat×Rat)):Zo ⟨Tryz.prog,[(32,0),(34,2),(36,3),(40,1),(42,4)],[ZGg],[],[],[],[]⟩ [] Tryz.f61 .no [.pair (.leaf 3) (.pair (.leaf 3) (.leaf 3))] [.bool] (d)=Zmm d:=by kernel_rfl
theorem valid_k:Zm Tryz.prog ZUi.1 ZUi.2:=Zq (C:=⟨Tryz.prog,[(32,0),(34,2),(36,3),(40,1),(42,4)],[ZGg],[],[],[],[]⟩) ⟨ZNp,trivial⟩ trivial trivial trivial (inl:=[]) trivial (ann:=.no) Tryz.func61 (fun _ _=>by kernel_rfl) rfl fun v vals x z ha hz=>(valid_i x).trans (hz)
end Go.Eng
set_option maxRecDepth 100000
set_option maxHeartbeats 4000000
namespace Go.Eng
open Go.Proofs Go.RowKit
noncomputable def Zsg:FuncId×Con:=(62,⟨[.leaf 3,.leaf 3],[.leaf 3],fun p=>Zdi p.1 p.2⟩)
theorem tby_i (x:Rat) (y:Rat):Zo ⟨Tryz.prog,[(32,0),(34,2),(36,3),(40,1),(42,4)],[ZNe],[],[],[],[]⟩ [] Tryz.f62 .no [.leaf 3,.leaf 3] [.leaf 3] (x,y)=Zdi x y:=by kernel_rfl
theorem tby_k:Zm Tryz.prog Zsg.1 Zsg.2:=Zq (C:=⟨Tryz.prog,[(32,0),(34,2),(36,3),(40,1),(42,4)],[ZNe],[],[],[],[]⟩) ⟨Z0l,trivial⟩ trivial trivial trivial (inl:=[]) trivial (ann:=.no) Tryz.func62 (fun _ _=>by kernel_rfl) rfl fun v vals x z ha hz=>(tby_i x.1 x.2).trans (hz)
end Go.Eng
set_option maxRecDepth 100000
set_option maxHeartbeats 4000000
namespace Go.Eng
open Go.Proofs Go.RowKit
noncomputable def ZVj:FuncId×Con:=(25,⟨[.pair (.leaf 3) (.pair (.leaf 3) (.leaf 3)),.leaf 3,.leaf 3],[.leaf 3,.int .i64],fun p=>Z2l p.1 p.2.1 p.2.2⟩)
theorem force_i (d:(Rat×Rat×Rat)) (x:Rat) (y:Rat):Zo ⟨Tryz.prog,[(32,0),(34,2),(36,3),(40,1),(42,4)],[Zpb,Zpc,Znc,Zsd,ZUi,Zsg],[],[],[],[]⟩ [] Tryz.f25 .no [.pair (.leaf 3) (.pair (.leaf 3) (.leaf 3)),.leaf 3,.leaf 3] [.leaf 3,.int .i64] (d,x,y)=Z2l d x y:=by kernel_rfl
theorem force_k:Zm Tryz.prog ZVj.1 ZVj.2:=Zq (C:=⟨Tryz.prog,[(32,0),(34,2),(36,3),(40,1),(42,4)],[Zpb,Zpc,Znc,Zsd,ZUi,Zsg],[],[],[],[]⟩) ⟨ZBf,Zbi,Zzh,Z8i,valid_k,tby_k,trivial⟩ trivial trivial trivial (inl:=[]) trivial (ann:=.no) Tryz.func25 (fun _ _=>by kernel_rfl) rfl fun v vals x z ha hz=>(force_i x.1 x.2.1 x.2.2).trans (hz)
end Go.Eng
set_option maxRecDepth 100000
set_option maxHeartbeats 4000000
namespace Go.Eng
open Go.Proofs Go.RowKit
noncomputable def ZAj:FuncId×Con:=(65,⟨[.int .i64,.int .i64],[.leaf 3],fun p=>ZLi p.1 p.2⟩)
theorem tsame_i (i:Int) (k:Int):Zo ⟨Tryz.prog,[(32,0),(34,2),(36,3),(40,1),(42,4)],[Zsd],[],[],[],[]⟩ [] Tryz.f65 .no [.int .i64,.int .i64] [.leaf 3] (i,k)=ZLi i k:=by kernel_rfl
theorem tsame_k:Zm Tryz.prog ZAj.1 ZAj.2:=Zq (C:=⟨Tryz.prog,[(32,0),(34,2),(36,3),(40,1),(42,4)],[Zsd],[],[],[],[]⟩) ⟨Z8i,trivial⟩ trivial trivial trivial (inl:=[]) trivial (ann:=.no) Tryz.func65 (fun _ _=>by kernel_rfl) rfl fun v vals x z ha hz=>(tsame_i x.1 x.2).trans (hz)
end Go.Eng
set_option maxRecDepth 100000
set_option maxHeartbeats 4000000
namespace Go.Eng
open Go.Proofs Go.RowKit
noncomputable def ZJk:FuncId×Con:=(101,⟨[.slice (.slice (.int .i64))],[.int .i64,.int .i64],fun p=>ZHl p⟩)
theorem table_i (t:(List (List Int))):Zo ⟨Tryz.prog,[(32,0),(34,2),(36,3),(40,1),(42,4)],[],[],[],[],[]⟩ [(124,Tryz.f124,.cut ⟨⟨[],[],[]⟩,[(.ret,⟨[],[],[.s 0 (.dat .bool)]⟩)]⟩ .no),(125,Tryz.f125,.cut ⟨⟨[],[],[]⟩,[(.ret,⟨[],[],[.s 0 (.dat .bool)]⟩)]⟩ .no),(139,Tryz.f139,.cut ⟨⟨[],[],[]⟩,[(.ret,⟨[],[],[.s 0 (.dat (.int .i64))]⟩)]⟩ (.two .no (.two (.two .no (.cut ⟨⟨[],[],[]⟩,[(.norm,⟨[],[],[]⟩),(.ret,⟨[],[],[.s 0 (.dat (.int .i64))]⟩)]⟩ (.two (.cut ⟨⟨[0,1,7],[],[.s 8 (.dat (.int .i64))]⟩,[(.ret,⟨[],[],[.s 0 (.dat (.int .i64))]⟩),(.exit 0,⟨[],[],[]⟩)]⟩ .no) .no))) .no)))] Tryz.f101 (.two .no (.two (.two (.cut ⟨⟨[],[],[]⟩,[(.norm,⟨[],[],[.s 1 (.box 81 (.dat (.slice (.slice (.int .i64))))),.s 21 (.dat .bool)]⟩)]⟩ .no) .no) (.two .no (.two (.two .no (.cut ⟨⟨[],[],[]⟩,[(.norm,⟨[],[],[.s 4 (.dat (.int .i64))]⟩),(.ret,⟨[],[],[.s 0 (.dat (.int .i64)),.s 0 (.dat (.int .i64))]⟩)]⟩ (.two (.cut ⟨⟨[22,23],[],[.s 4 (.dat (.int .i64)),.s 24 (.dat (.int .i64))]⟩,[(.ret,⟨[],[],[.s 0 (.dat (.int .i64)),.s 0 (.dat (.int .i64))]⟩),(.exit 0,⟨[],[],[.s 4 (.dat (.int .i64))]⟩)]⟩ (.two (.two .no (.two .no (.two (.two (.two .no (.two .no (.cut ⟨⟨[],[],[]⟩,[(.norm,⟨[22,23,24],[],[.s 4 (.dat (.int .i64))]⟩),(.ret,⟨[],[],[.s 0 (.dat (.int .i64)),.s 0 (.dat (.int .i64))]⟩)]⟩ (.two (.cut ⟨⟨[22,23,24,28,29],[],[.s 4 (.dat (.int .i64)),.s 30 (.dat (.int .i64))]⟩,[(.ret,⟨[],[],[.s 0 (.dat (.int .i64)),.s 0 (.dat (.int .i64))]⟩),(.exit 2,⟨[22,23,24],[],[.s 4 (.dat (.int .i64))]⟩)]⟩ (.two (.two .no (.two .no (.two (.two (.two .no (.two (.two (.cut ⟨⟨[],[],[]⟩,[(.norm,⟨[4,8,22,23,24,28,29,30],[],[.s 39 (.dat .bool)]⟩)]⟩ .no) .no) .no)) .no) .no))) .no)) .no)))) .no) .no))) .no)) .no))) .no)))) [.slice (.slice (.int .i64))] [.int .i64,.int .i64] (t)=ZHl t:=by kernel_rfl
theorem table_k:Zm Tryz.prog ZJk.1 ZJk.2:=Zq (C:=⟨Tryz.prog,[(32,0),(34,2),(36,3),(40,1),(42,4)],[],[],[],[],[]⟩) trivial trivial trivial trivial (inl:=[(124,Tryz.f124,.cut ⟨⟨[],[],[]⟩,[(.ret,⟨[],[],[.s 0 (.dat .bool)]⟩)]⟩ .no),(125,Tryz.f125,.cut ⟨⟨[],[],[]⟩,[(.ret,⟨[],[],[.s 0 (.dat .bool)]⟩)]⟩ .no),(139,Tryz.f139,.cut ⟨⟨[],[],[]⟩,[(.ret,⟨[],[],[.s 0 (.dat (.int .i64))]⟩)]⟩ (.two .no (.two (.two .no (.cut ⟨⟨[],[],[]⟩,[(.norm,⟨[],[],[]⟩),(.ret,⟨[],[],[.s 0 (.dat (.int .i64))]⟩)]⟩ (.two (.cut ⟨⟨[0,1,7],[],[.s 8 (.dat (.int .i64))]⟩,[(.ret,⟨[],[],[.s 0 (.dat (.int .i64))]⟩),(.exit 0,⟨[],[],[]⟩)]⟩ .no) .no))) .no)))]) ⟨⟨Tryz.func124,fun _ _=>by kernel_rfl⟩,⟨Tryz.func125,fun _ _=>by kernel_rfl⟩,⟨Tryz.func139,fun _ _=>by kernel_rfl⟩,trivial⟩ (ann:=.two .no (.two (.two (.cut ⟨⟨[],[],[]⟩,[(.norm,⟨[],[],[.s 1 (.box 81 (.dat (.slice (.slice (.int .i64))))),.s 21 (.dat .bool)]⟩)]⟩ .no) .no) (.two .no (.two (.two .no (.cut ⟨⟨[],[],[]⟩,[(.norm,⟨[],[],[.s 4 (.dat (.int .i64))]⟩),(.ret,⟨[],[],[.s 0 (.dat (.int .i64)),.s 0 (.dat (.int .i64))]⟩)]⟩ (.two (.cut ⟨⟨[22,23],[],[.s 4 (.dat (.int .i64)),.s 24 (.dat (.int .i64))]⟩,[(.ret,⟨[],[],[.s 0 (.dat (.int .i64)),.s 0 (.dat (.int .i64))]⟩),(.exit 0,⟨[],[],[.s 4 (.dat (.int .i64))]⟩)]⟩ (.two (.two .no (.two .no (.two (.two (.two .no (.two .no (.cut ⟨⟨[],[],[]⟩,[(.norm,⟨[22,23,24],[],[.s 4 (.dat (.int .i64))]⟩),(.ret,⟨[],[],[.s 0 (.dat (.int .i64)),.s 0 (.dat (.int .i64))]⟩)]⟩ (.two (.cut ⟨⟨[22,23,24,28,29],[],[.s 4 (.dat (.int .i64)),.s 30 (.dat (.int .i64))]⟩,[(.ret,⟨[],[],[.s 0 (.dat (.int .i64)),.s 0 (.dat (.int .i64))]⟩),(.exit 2,⟨[22,23,24],[],[.s 4 (.dat (.int .i64))]⟩)]⟩ (.two (.two .no (.two .no (.two (.two (.two .no (.two (.two (.cut ⟨⟨[],[],[]⟩,[(.norm,⟨[4,8,22,23,24,28,29,30],[],[.s 39 (.dat .bool)]⟩)]⟩ .no) .no) .no)) .no) .no))) .no)) .no)))) .no) .no))) .no)) .no))) .no)))) Tryz.func101 (fun _ _=>by kernel_rfl) rfl fun v vals x z ha hz=>(table_i x).trans (hz)
end Go.Eng
set_option maxRecDepth 100000
set_option maxHeartbeats 4000000
namespace Go.Eng
open Go.Proofs Go.RowKit
noncomputable def ZBj:FuncId×Con:=(27,⟨[.slice (.slice (.int .i64))],[.leaf 3,.int .i64],fun p=>Zun p⟩)
theorem kappa_i (t:(List (List Int))):Zo ⟨Tryz.prog,[(32,0),(34,2),(36,3),(40,1),(42,4)],[ZAj,Znc,Zsd,ZNe,ZJk,Zpb,Zpc,Zsg],[],[],[],[]⟩ [(64,Tryz.f64,.cut ⟨⟨[],[],[]⟩,[(.ret,⟨[],[],[.s 0 (.dat (.leaf 3)),.s 0 (.dat (.int .i64))]⟩)]⟩ (.two .no (.two .no (.two .no (.two .no (.two (.cut ⟨⟨[],[],[]⟩,[(.norm,⟨[4],[],[.s 7 (.dat (.int .i64)),.s 10 (.box 36 (.dat (.leaf 3)))]⟩)]⟩ .no) .no)))))),(102,Tryz.f102,.cut ⟨⟨[],[],[]⟩,[(.ret,⟨[],[],[.s 0 (.dat (.leaf 3)),.s 0 (.dat (.leaf 3))]⟩)]⟩ (.two .no (.two (.cut ⟨⟨[],[],[]⟩,[(.norm,⟨[0,1,2,6,7],[],[.s 8 (.own 3 (.int .i64)),.s 9 (.own 3 (.int .i64))]⟩)]⟩ .no) (.two (.two .no (.cut ⟨⟨[],[],[]⟩,[(.norm,⟨[0,1,2,6,7],[],[.s 8 (.own 3 (.int .i64)),.s 9 (.own 3 (.int .i64))]⟩)]⟩ (.two (.cut ⟨⟨[0,1,2,6,7,24,25],[],[.s 8 (.own 3 (.int .i64)),.s 9 (.own 3 (.int .i64)),.s 26 (.dat (.int .i64))]⟩,[(.exit 0,⟨[0,1,2,6,7],[],[.s 8 (.own 3 (.int .i64)),.s 9 (.own 3 (.int .i64))]⟩)]⟩ (.two (.two .no (.two .no (.two (.two (.two .no (.two .no (.cut ⟨⟨[],[],[]⟩,[(.norm,⟨[0,1,2,6,7,24,25,26],[],[.s 8 (.own 3 (.int .i64)),.s 9 (.own 3 (.int .i64))]⟩)]⟩ (.two (.cut ⟨⟨[0,1,2,6,7,10,24,25,26,31,32],[],[.s 8 (.own 3 (.int .i64)),.s 9 (.own 3 (.int .i64)),.s 33 (.dat (.int .i64))]⟩,[(.exit 2,⟨[0,1,2,6,7,24,25,26],[],[.s 8 (.own 3 (.int .i64)),.s 9 (.own 3 (.int .i64))]⟩)]⟩ .no) .no)))) .no) .no))) .no)) .no))) (.two (.two .no (.cut ⟨⟨[],[],[]⟩,[(.norm,⟨[1,6,7],[],[.l (.sl 6) (.box 36 (.dat (.leaf 3))),.l (.sl 7) (.box 36 (.dat (.leaf 3)))]⟩)]⟩ (.two (.cut ⟨⟨[1,2,6,7,8,9,54,55],[],[.l (.sl 6) (.box 36 (.dat (.leaf 3))),.l (.sl 7) (.box 36 (.dat (.leaf 3))),.s 56 (.dat (.int .i64))]⟩,[(.exit 4,⟨[1,6,7],[],[.l (.sl 6) (.box 36 (.dat (.leaf 3))),.l (.sl 7) (.box 36 (.dat (.leaf 3)))]⟩)]⟩ (.two (.two .no (.two .no (.two (.two (.two .no (.two .no (.cut ⟨⟨[],[],[]⟩,[(.norm,⟨[1,2,6,7,8,9,54,55,56],[],[.l (.sl 6) (.box 36 (.dat (.leaf 3))),.l (.sl 7) (.box 36 (.dat (.leaf 3)))]⟩)]⟩ (.two (.cut ⟨⟨[1,2,6,7,8,9,14,54,55,56,61,62],[],[.l (.sl 6) (.box 36 (.dat (.leaf 3))),.l (.sl 7) (.box 36 (.dat (.leaf 3))),.s 63 (.dat (.int .i64))]⟩,[(.exit 6,⟨[1,2,6,7,8,9,54,55,56],[],[.l (.sl 6) (.box 36 (.dat (.leaf 3))),.l (.sl 7) (.box 36 (.dat (.leaf 3)))]⟩)]⟩ .no) .no)))) .no) .no))) .no)) .no))) .no)))))] Tryz.f27 .no [.slice (.slice (.int .i64))] [.leaf 3,.int .i64] (t)=Zun t:=by kernel_rfl
theorem kappa_k:Zm Tryz.prog ZBj.1 ZBj.2:=Zq (C:=⟨Tryz.prog,[(32,0),(34,2),(36,3),(40,1),(42,4)],[ZAj,Znc,Zsd,ZNe,ZJk,Zpb,Zpc,Zsg],[],[],[],[]⟩) ⟨tsame_k,Zzh,Z8i,Z0l,table_k,ZBf,Zbi,tby_k,trivial⟩ trivial trivial trivial (inl:=[(64,Tryz.f64,.cut ⟨⟨[],[],[]⟩,[(.ret,⟨[],[],[.s 0 (.dat (.leaf 3)),.s 0 (.dat (.int .i64))]⟩)]⟩ (.two .no (.two .no (.two .no (.two .no (.two (.cut ⟨⟨[],[],[]⟩,[(.norm,⟨[4],[],[.s 7 (.dat (.int .i64)),.s 10 (.box 36 (.dat (.leaf 3)))]⟩)]⟩ .no) .no)))))),(102,Tryz.f102,.cut ⟨⟨[],[],[]⟩,[(.ret,⟨[],[],[.s 0 (.dat (.leaf 3)),.s 0 (.dat (.leaf 3))]⟩)]⟩ (.two .no (.two (.cut ⟨⟨[],[],[]⟩,[(.norm,⟨[0,1,2,6,7],[],[.s 8 (.own 3 (.int .i64)),.s 9 (.own 3 (.int .i64))]⟩)]⟩ .no) (.two (.two .no (.cut ⟨⟨[],[],[]⟩,[(.norm,⟨[0,1,2,6,7],[],[.s 8 (.own 3 (.int .i64)),.s 9 (.own 3 (.int .i64))]⟩)]⟩ (.two (.cut ⟨⟨[0,1,2,6,7,24,25],[],[.s 8 (.own 3 (.int .i64)),.s 9 (.own 3 (.int .i64)),.s 26 (.dat (.int .i64))]⟩,[(.exit 0,⟨[0,1,2,6,7],[],[.s 8 (.own 3 (.int .i64)),.s 9 (.own 3 (.int .i64))]⟩)]⟩ (.two (.two .no (.two .no (.two (.two (.two .no (.two .no (.cut ⟨⟨[],[],[]⟩,[(.norm,⟨[0,1,2,6,7,24,25,26],[],[.s 8 (.own 3 (.int .i64)),.s 9 (.own 3 (.int .i64))]⟩)]⟩ (.two (.cut ⟨⟨[0,1,2,6,7,10,24,25,26,31,32],[],[.s 8 (.own 3 (.int .i64)),.s 9 (.own 3 (.int .i64)),.s 33 (.dat (.int .i64))]⟩,[(.exit 2,⟨[0,1,2,6,7,24,25,26],[],[.s 8 (.own 3 (.int .i64)),.s 9 (.own 3 (.int .i64))]⟩)]⟩ .no) .no)))) .no) .no))) .no)) .no))) (.two (.two .no (.cut ⟨⟨[],[],[]⟩,[(.norm,⟨[1,6,7],[],[.l (.sl 6) (.box 36 (.dat (.leaf 3))),.l (.sl 7) (.box 36 (.dat (.leaf 3)))]⟩)]⟩ (.two (.cut ⟨⟨[1,2,6,7,8,9,54,55],[],[.l (.sl 6) (.box 36 (.dat (.leaf 3))),.l (.sl 7) (.box 36 (.dat (.leaf 3))),.s 56 (.dat (.int .i64))]⟩,[(.exit 4,⟨[1,6,7],[],[.l (.sl 6) (.box 36 (.dat (.leaf 3))),.l (.sl 7) (.box 36 (.dat (.leaf 3)))]⟩)]⟩ (.two (.two .no (.two .no (.two (.two (.two .no (.two .no (.cut ⟨⟨[],[],[]⟩,[(.norm,⟨[1,2,6,7,8,9,54,55,56],[],[.l (.sl 6) (.box 36 (.dat (.leaf 3))),.l (.sl 7) (.box 36 (.dat (.leaf 3)))]⟩)]⟩ (.two (.cut ⟨⟨[1,2,6,7,8,9,14,54,55,56,61,62],[],[.l (.sl 6) (.box 36 (.dat (.leaf 3))),.l (.sl 7) (.box 36 (.dat (.leaf 3))),.s 63 (.dat (.int .i64))]⟩,[(.exit 6,⟨[1,2,6,7,8,9,54,55,56],[],[.l (.sl 6) (.box 36 (.dat (.leaf 3))),.l (.sl 7) (.box 36 (.dat (.leaf 3)))]⟩)]⟩ .no) .no)))) .no) .no))) .no)) .no))) .no)))))]) ⟨⟨Tryz.func64,fun _ _=>by kernel_rfl⟩,⟨Tryz.func102,fun _ _=>by kernel_rfl⟩,trivial⟩ (ann:=.no) Tryz.func27 (fun _ _=>by kernel_rfl) rfl fun v vals x z ha hz=>(kappa_i x).trans (hz)
end Go.Eng
set_option maxRecDepth 100000
set_option maxHeartbeats 4000000
namespace Go.Eng
open Go.Proofs Go.RowKit
noncomputable def Zgj:FuncId×Con:=(66,⟨[.slice (.pair (.int .i64) (.int .i64))],[.slice (.leaf 3),.slice (.leaf 4)],fun p=>ZAm p⟩)
theorem list8_i (l:(List (Int×Int))):Zo ⟨Tryz.prog,[(32,0),(34,2),(36,3),(40,1),(42,4)],[ZCc,Zzd],[],[],[],[]⟩ [] Tryz.f66 (.two .no (.two .no (.two .no (.two (.two .no (.cut ⟨⟨[],[],[]⟩,[(.norm,⟨[],[],[.s 4 (.own 36 (.leaf 3)),.s 5 (.own 42 (.leaf 4))]⟩)]⟩ (.two (.cut ⟨⟨[8,9],[],[.s 4 (.own 36 (.leaf 3)),.s 5 (.own 42 (.leaf 4)),.s 10 (.dat (.int .i64))]⟩,[(.exit 0,⟨[],[],[.s 4 (.own 36 (.leaf 3)),.s 5 (.own 42 (.leaf 4))]⟩)]⟩ .no) .no))) .no)))) [.slice (.pair (.int .i64) (.int .i64))] [.slice (.leaf 3),.slice (.leaf 4)] (l)=ZAm l:=by kernel_rfl
theorem list8_k:Zm Tryz.prog Zgj.1 Zgj.2:=Zq (C:=⟨Tryz.prog,[(32,0),(34,2),(36,3),(40,1),(42,4)],[ZCc,Zzd],[],[],[],[]⟩) ⟨Zkh,Zdj,trivial⟩ trivial trivial trivial (inl:=[]) trivial (ann:=.two .no (.two .no (.two .no (.two (.two .no (.cut ⟨⟨[],[],[]⟩,[(.norm,⟨[],[],[.s 4 (.own 36 (.leaf 3)),.s 5 (.own 42 (.leaf 4))]⟩)]⟩ (.two (.cut ⟨⟨[8,9],[],[.s 4 (.own 36 (.leaf 3)),.s 5 (.own 42 (.leaf 4)),.s 10 (.dat (.int .i64))]⟩,[(.exit 0,⟨[],[],[.s 4 (.own 36 (.leaf 3)),.s 5 (.own 42 (.leaf 4))]⟩)]⟩ .no) .no))) .no)))) Tryz.func66 (fun _ _=>by kernel_rfl) rfl fun v vals x z ha hz=>(list8_i x).trans (hz)
end Go.Eng
set_option maxRecDepth 100000
set_option maxHeartbeats 4000000
namespace Go.Eng
open Go.Proofs Go.RowKit
noncomputable def ZTi:FuncId×Con:=(28,⟨[.pair (.int .i64) (.int .i64),.slice (.pair (.int .i64) (.int .i64))],[.pair (.leaf 3) (.slice (.leaf 3)),.pair (.leaf 4) (.slice (.leaf 4))],fun p=>Z6m p.1 p.2⟩)
theorem Z4t (step:(Int×Int)) (limits:(List (Int×Int))):Zo ⟨Tryz.prog,[(32,0),(34,2),(36,3),(40,1),(42,4)],[ZCc,Zzd,Zgj],[],[],[],[]⟩ [] Tryz.f28 .no [.pair (.int .i64) (.int .i64),.slice (.pair (.int .i64) (.int .i64))] [.pair (.leaf 3) (.slice (.leaf 3)),.pair (.leaf 4) (.slice (.leaf 4))] (step,limits)=Z6m step limits:=by kernel_rfl
theorem Zbv:Zm Tryz.prog ZTi.1 ZTi.2:=Zq (C:=⟨Tryz.prog,[(32,0),(34,2),(36,3),(40,1),(42,4)],[ZCc,Zzd,Zgj],[],[],[],[]⟩) ⟨Zkh,Zdj,list8_k,trivial⟩ trivial trivial trivial (inl:=[]) trivial (ann:=.no) Tryz.func28 (fun _ _=>by kernel_rfl) rfl fun v vals x z ha hz=>(Z4t x.1 x.2).trans (hz)
end Go.Eng
namespace Go.Eng
open Go.Proofs Go.RowKit
theorem ZFs {r:World} {d:Zb} (hv:VIn d r) {D:List Value} {n:Int} (L:Rep.rel (Zd .u64) d D n) {z:(List UInt8)} (H:Zhj n=some z):Ret Tryz.prog 104 #[(Zd .u64).val D] r d (fun y v'=>∃ E,y=Zab.val E∧Zab.rel v' E z):=by
 obtain ⟨rfl,M⟩:=L;refine ZYb (K:=20) (args:=[.int .u64 n]) hv Tryz.func104 rfl rfl zl fun f S=>?_;unfold Zhj at H;refine sr (mw S rfl fun f S=>oe (sr (ZKo S wn rfl zl (cs:=[.int .u8 0,.int .u8 0,.int .u8 0,.int .u8 0,.int .u8 0,.int .u8 0,.int .u8 0,.int .u8 0,.int .u8 0,.int .u8 0,.int .u8 0,.int .u8 0,.int .u8 0,.int .u8 0,.int .u8 0,.int .u8 0,.int .u8 0,.int .u8 0,.int .u8 0,.int .u8 0]) (Zsm k_zv183) fun s f w S=>?_)));have S:=S.boxOwn 1 20 rfl zl;have N:Rep.rels (Zd .u8) d [.int .u8 0,.int .u8 0,.int .u8 0,.int .u8 0,.int .u8 0,.int .u8 0,.int .u8 0,.int .u8 0,.int .u8 0,.int .u8 0,.int .u8 0,.int .u8 0,.int .u8 0,.int .u8 0,.int .u8 0,.int .u8 0,.int .u8 0,.int .u8 0,.int .u8 0,.int .u8 0] (List.replicate 20 (0:Int)):=ZTe (show Rep.rel (Zd .u8) _ [Value.int .u8 0] 0 from ⟨rfl,by decide⟩) 20;refine oe (sr (mw S rfl fun f S=>oe (Zj fun _ O=>?_)));obtain ⟨P,Q,R⟩:=ZF H;refine Zsa (fun f w=>∃ l m B t,(l,m)=P∧Zb.le d t∧St 20 r d [(3,.pointer (some ⟨s,0,none⟩)),(4,.int .i64 m)] [Loc.own (some s) 183 1 20 20 B] t f w∧Rep.rels (Zd .u8) t B l∧20=l.length∧inR .i64 m) (fun _ T=>?_) ?_
 ·have H:=Q;refine wp_block ?_;obtain ⟨ak,U,V⟩:=ZF H;refine Zub U (fun W f w=>∃ h o u b k,(h,o,u)=W∧Zb.le d k∧St 20 r d [(0,.int .u64 o),(3,.pointer (some ⟨s,0,none⟩)),(4,.int .i64 u)] [Loc.own (some s) 183 1 20 20 b] k f w∧Rep.rels (Zd .u8) k b h∧20=h.length∧inR .u64 o∧inR .i64 u) ⟨_,_,_,[.int .u8 0,.int .u8 0,.int .u8 0,.int .u8 0,.int .u8 0,.int .u8 0,.int .u8 0,.int .u8 0,.int .u8 0,.int .u8 0,.int .u8 0,.int .u8 0,.int .u8 0,.int .u8 0,.int .u8 0,.int .u8 0,.int .u8 0,.int .u8 0,.int .u8 0,.int .u8 0],_,rfl,(leR _),(S.fr' rfl),N,(List.length_replicate (n:=20) (a:=(0:Int))).symm,M,(by decide)⟩ ?_;rintro _ f w st ⟨h,o,u,b,k,hq,F,S,C,v,al,X⟩ H am Y Z;subst hq;refine Zj fun _ aa=>sr (mv S rfl fun f S=>ov S rfl (Ze S rfl rfl Zhd) fun f S=>oe ?_);rcases ZI (decide ((0:Int)<o)) with p | p
  ·have H:=ZJ H p;refine ZL S rfl p (wp_skip (Zf (aa _ _ (Zj fun _ ab=>wp_block (Zj fun _ ac=>bO H fun e G H=>Zs (mv S rfl fun f S=>ov S rfl (Ze S rfl rfl (Zta G)) fun f S=>mw S rfl fun f S=>Zp (Zf (ac _ _ (bO H fun g ad H=>?_)))))))));refine bO H fun an q H=>Zs (mv S rfl fun f S=>mv S rfl fun f S=>ov S rfl (Ze S rfl rfl (Z0e ad)) fun f S=>ov S rfl (Ze S rfl rfl ZOb) fun f S=>ov S rfl (Zuf S rfl (Z5q _)) fun f S=>?_);have I:=Zja C (Zi q).2.1;obtain ⟨ao,ae⟩:∃ c,(List.take (Zd .u8).n (List.drop ((e).toNat*(Zd .u8).n) b))=c:=⟨_,rfl⟩;rw [ae] at I;obtain ⟨rfl,ap⟩:=I;refine ov S rfl (Zfp S ZKq rfl rfl (Zi q).1 (ltI v (Zi q).2.2.1)) fun f S=>?_;obtain ⟨w,af,S⟩:=Zsc S k_sz5 (off:=0+(e).toNat*1) (z:=.int .u8 (IntKind.u8.wrap (IntKind.u64.wrap ((48:Int)+g)))) (cs:=[.int .u8 (IntKind.u8.wrap (IntKind.u64.wrap ((48:Int)+g)))]) (Zac rfl) rfl (i:=0) rfl (Zed S (j:=0) rfl (ltN v (Zi q).2.2.2)) (by first | rfl | simp [plain]);have ag:Rep.rels (Zd .u8) k (List.take (0+(e).toNat*1) b++[Value.int IntKind.u8 (IntKind.u8.wrap (IntKind.u64.wrap ((48:Int)+g)))]++List.drop (0+(e).toNat*1+1) b) (h.set (e).toNat (IntKind.u8.wrap (IntKind.u64.wrap ((48:Int)+g)))):=Z1c C (Zi q).2.2.2 (show Rep.rel (Zd .u8) k [.int .u8 (IntKind.u8.wrap (IntKind.u64.wrap ((48:Int)+g)))] _ from (ZC (Zoa _ _))) rfl rfl
   have ah:20=(h.set (e).toNat (IntKind.u8.wrap (IntKind.u64.wrap ((48:Int)+g)))).length:=Zdd v;refine Zof wn rfl (af rfl rfl) (Zp (Zsb (Zf (ab _ _ (bO H fun aq J H=>Zs (mv S rfl fun f S=>ov S rfl (Ze S rfl rfl (Z5b J)) fun f S=>mw S rfl fun f S=>Zp ?_))))));obtain rfl:=Zl H;refine Y _ rfl _ _ ⟨_,_,_,(List.take (0+(e).toNat*1) b++[Value.int IntKind.u8 (IntKind.u8.wrap (IntKind.u64.wrap ((48:Int)+g)))]++List.drop (0+(e).toNat*1+1) b),_,rfl,F,(S.fr' rfl),ag,ah,(Zai J),(Zqa G).2⟩
  have H:=ZK H p;refine ZN S rfl p (wp_exit (Z2 ?_));obtain rfl:=Zl H;have hq:=Z _ rfl;subst hq;have H:=V;refine Z2 (Zeb ?_);obtain rfl:=Zl H;refine Zf (T _ _ ⟨_,_,b,_,rfl,(leT (leR _) F),(S.fr' rfl),C,v,X⟩)
 rintro f w ⟨l,m,B,t,hq,ar,S,ai,x,au⟩;subst hq;have H:=R;refine Zf (O _ _ (Zj fun _ aj=>bO H fun av A H=>Zs (mv S rfl fun f S=>ov S rfl (Zou S ZKq rfl rfl (ZXc A).1 (by have:=(ZXc A).2.1;have:=x;omega)) fun f S=>ov S rfl (Z3v S (j:=0) rfl ai x (by have:=(ZXc A).2.1;have:=(ZXc A).1;have:=x;omega) rfl Tryz.underlying163 Tryz.underlying5 Tryz.underlying9) fun f S=>mw S rfl fun f S=>Zp (Zf (aj _ _ (wp_ret ?_))))));obtain rfl:=Zl H;refine ZCa S (ZKa rfl (ZT S rfl)) ⟨[.string (Zx ((Zqd (l.drop ((m).toNat)))))],rfl,(Z5g (by have:=x;simp only [Zxv,List.length_drop];unfold maxLen;omega))⟩
theorem Zht {b:World} {a:Zb} (hv:VIn a b) {c:List Value} {n:Int} (d:Rep.rel (Zd .u64) a c n) {z:(List UInt8)} (hm:ZMg n=some z) :
  Ret Tryz.prog 104 #[(Zd .u64).val c] b a (fun y v'=>∃ e,y=Zab.val e∧Zab.rel v' e z) :=
 ZFs hv d (ZDr d.2 hm)
end Go.Eng
namespace Go.Proofs
open Go.Shelf
def Tryz.lays105_ren:Go.Shelf.Ren:=⟨fun | 105=>105 | 212=>127 | 99=>128 | 165=>129 | 166=>106 | 170=>130 | 169=>107 | 263=>140 | 264=>96 | 206=>141 | 240=>131 | 241=>142 | 276=>143 | 277=>144 | n=>n,fun | 9=>9 | 3=>3 | 4=>4 | 20=>20 | 0=>0 | 46=>129 | 109=>184 | 5=>5 | 72=>165 | 76=>168 | 51=>140 | 146=>194 | 53=>145 | 148=>149 | 70=>162 | 37=>163 | 75=>167 | 127=>188 | 164=>196 | 80=>89 | n=>n,fun | n=>n⟩
theorem Tryz.lays105:Go.Proofs.Lays.n105 Tryz.prog Tryz.lays105_ren:={
 mixed:=by kernel_rfl
 f99:=Tryz.func128.trans (congrArg some (by kernel_rfl))
 f105:=Tryz.func105.trans (congrArg some (by kernel_rfl))
 f165:=Tryz.func129.trans (congrArg some (by kernel_rfl))
 f166:=Tryz.func106.trans (congrArg some (by kernel_rfl))
 f169:=Tryz.func107.trans (congrArg some (by kernel_rfl))
 f170:=Tryz.func130.trans (congrArg some (by kernel_rfl))
 f206:=Tryz.func141.trans (congrArg some (by kernel_rfl))
 f212:=Tryz.func127.trans (congrArg some (by kernel_rfl))
 f240:=Tryz.func131.trans (congrArg some (by kernel_rfl))
 f241:=Tryz.func142.trans (congrArg some (by kernel_rfl))
 f263:=Tryz.func140.trans (congrArg some (by kernel_rfl))
 f264:=Tryz.func96.trans (congrArg some (by kernel_rfl))
 f276:=Tryz.func143.trans (congrArg some (by kernel_rfl))
 f277:=Tryz.func144.trans (congrArg some (by kernel_rfl))
 t0:=Tryz.underlying0
 a0:=Tryz.isAgg0
 z0:=Tryz.sizeOf0
 v0:=Tryz.zeroValue0
 t3:=Tryz.underlying3
 a3:=Tryz.isAgg3
 z3:=Tryz.sizeOf3
 v3:=Tryz.zeroValue3
 t4:=Tryz.underlying4
 a4:=Tryz.isAgg4
 z4:=Tryz.sizeOf4
 v4:=Tryz.zeroValue4
 t5:=Tryz.underlying5
 a5:=Tryz.isAgg5
 z5:=Tryz.sizeOf5
 v5:=Tryz.zeroValue5
 t9:=Tryz.underlying9
 a9:=Tryz.isAgg9
 z9:=Tryz.sizeOf9
 v9:=Tryz.zeroValue9
 t20:=Tryz.underlying20
 a20:=Tryz.isAgg20
 z20:=Tryz.sizeOf20
 v20:=Tryz.zeroValue20
 t37:=Tryz.underlying163
 a37:=Tryz.isAgg163
 z37:=Tryz.sizeOf163
 v37:=Tryz.zeroValue163
 t46:=Tryz.underlying129
 a46:=Tryz.isAgg129
 z46:=Tryz.sizeOf129
 v46:=Tryz.zeroValue129
 t51:=Tryz.underlying140
 a51:=Tryz.isAgg140
 z51:=Tryz.sizeOf140
 v51:=Tryz.zeroValue140
 t53:=Tryz.underlying145
 a53:=Tryz.isAgg145
 z53:=Tryz.sizeOf145
 v53:=Tryz.zeroValue145
 t70:=Tryz.underlying162
 a70:=Tryz.isAgg162
 z70:=Tryz.sizeOf162
 v70:=Tryz.zeroValue162
 t72:=Tryz.underlying165
 a72:=Tryz.isAgg165
 z72:=Tryz.sizeOf165
 v72:=Tryz.zeroValue165
 t75:=Tryz.underlying167
 a75:=Tryz.isAgg167
 z75:=Tryz.sizeOf167
 v75:=Tryz.zeroValue167
 t76:=Tryz.underlying168
 a76:=Tryz.isAgg168
 z76:=Tryz.sizeOf168
 v76:=Tryz.zeroValue168
 t109:=Tryz.underlying184
 a109:=Tryz.isAgg184
 z109:=Tryz.sizeOf184
 v109:=Tryz.zeroValue184
 t127:=Tryz.underlying188
 a127:=Tryz.isAgg188
 z127:=Tryz.sizeOf188
 v127:=Tryz.zeroValue188
 t146:=Tryz.underlying194
 a146:=Tryz.isAgg194
 z146:=Tryz.sizeOf194
 v146:=Tryz.zeroValue194
 t148:=Tryz.underlying149
 a148:=Tryz.isAgg149
 z148:=Tryz.sizeOf149
 v148:=Tryz.zeroValue149
 t164:=Tryz.underlying196
 a164:=Tryz.isAgg196
 z164:=Tryz.sizeOf196
 v164:=Tryz.zeroValue196 }
theorem Tryz.Builder_Extra_105:Builder.Extra Tryz.prog Tryz.lays105_ren:={
 sizeBuilder:=by kernel_rfl
 liesBuilder:=by kernel_rfl
 t5:=Tryz.underlying5
 a5:=Tryz.isAgg5
 z5:=Tryz.sizeOf5
 v5:=Tryz.zeroValue5
 infoByte:=by kernel_rfl
 cellsByte:=by kernel_rfl
 sizeByte:=by kernel_rfl
 neB5:=by decide }
end Go.Proofs
namespace Go.Eng
open Go.Proofs Go.RowKit Go.Shelf
theorem writes:ZLq Tryz.prog 106 165 5:=fun B b bs s w h hl hB=>Any.Builder_WriteString { Tryz.lays105 with } Tryz.Builder_Extra_105 B b bs s w h hl hB
theorem tells:Tells Tryz.prog 107 165 5:=fun B b l w h hB=>Any.Builder_String_any { Tryz.lays105 with } Tryz.Builder_Extra_105 B b l w h hB
end Go.Eng
namespace Go.Eng
open Go.Proofs Go.RowKit
theorem Zjr (l:List UInt8) (c:Nat):Lib.repeatL l c=(List.replicate c l).flatten:=by
 induction c with
 | zero=>rfl
 | succ c ih=>simp [Lib.repeatL,List.replicate_succ,ih]
theorem ZYs {b:World} {a:Zb} (hv:VIn a b) {f:List Value} {s:List UInt8} (k:Rep.rel Zab a f s) {g:List Value} {c:Int} (l:Rep.rel (Zd .i64) a g c) {z:List UInt8} (hm:ZWg s c=some z) :
  Ret Tryz.prog 105 #[Zab.val f,(Zd .i64).val g] b a (fun y v'=>∃ h,y=Zab.val h∧Zab.rel v' h z):=by
 obtain ⟨rfl,hs⟩:=k;obtain ⟨rfl,hc⟩:=l;unfold ZWg at hm;split at hm
 ·rename_i hh
  cases hm
  obtain ⟨C,rfl⟩:=Int.eq_ofNat_of_zero_le hh.1;have hc:=ZTa.1 hc;have d:=hh.2;rw [Int.toNat_natCast] at d;have:=Any.strings_Repeat Tryz.lays105 Tryz.Builder_Extra_105 (Zx s) C b (by omega) (by rw [ZOc];exact d);refine Calls.mono this fun e w' ⟨i,j⟩=>?_;have m:(⟨(Lib.repeatL (Zx s).data.toList C).toArray⟩:ByteArray)=Zx (List.replicate C s).flatten:=by
   rw [Zjr];rfl
  rw [m] at i;exact ⟨_,a,i,j,VStep.ext hv j,[.string (Zx (List.replicate C s).flatten)],rfl,rfl,by simp only [Int.toNat_natCast];rw [List.length_flatten];simp;unfold maxLen;rw [Nat.mul_comm] at d;omega⟩
 ·cases hm
theorem text_w {e:World} {c:Zb} (hv:VIn c e) {c0:List Value} {a:Nat} (p0:Rep.rel Zu c c0 a) {z:(List UInt8)} (H:Z6h a=some z):Ret Tryz.prog 68 #[Zu.val c0] e c (fun y v'=>∃ r0,y=Zab.val r0∧Zab.rel v' r0 z):=by
 obtain ⟨q1,n2,k3,rfl⟩:=Zga p0;refine ZYb (K:=49) (args:=[.slice q1 n2 k3]) hv Tryz.func68 rfl rfl zl fun f S=>?_;unfold Z6h at H;refine sr (mw S rfl fun f S=>oe (sr ?_));have S:=S.nilLoc 9 1;refine ov S rfl (Z8d S (y:=.slice (mkA none) 0 0) rfl) fun f S=>oe (Zj fun _ ar=>?_);obtain ⟨au,av,aw⟩:=ZF H;refine Zsa (fun f w=>∃ o F s G U I,o=au∧Zb.le c I∧St 49 e c [(3,.slice (mkA F) s G)] [Loc.own F 9 1 s G U] I f w∧Rep.rels Zab I U o∧s=o.length) (fun _ ax=>?_) ?_
 ·have H:=av;refine wp_block ?_;obtain ⟨bs,ay,az⟩:=ZF H;refine Zub ay (fun aA f w=>∃ J g L M N p h q k t,(J,g)=aA∧Zb.le c t∧St 49 e c [(0,.slice L M N),(3,.slice (mkA p) h q)] [Loc.own p 9 1 h q k] t f w∧Rep.rel Zu t [.slice L M N] J∧Rep.rels Zab t k g∧h=g.length) ⟨_,_,_,_,_,none,0,0,[],_,rfl,(leR _),(S.fr' rfl),p0,ZQe,rfl⟩ ?_;rintro _ f w st ⟨J,g,L,M,N,p,h,q,k,t,hq,ac,S,ad,d,ae⟩ H bt aB aC;subst hq;refine Zj fun _ aD=>sr (mv S rfl fun f S=>ov S rfl (Zaa S (ZG ad) rfl rfl ZA) fun f S=>ov S rfl (Ze S rfl rfl Zhd) fun f S=>oe ?_);rcases ZI (decide ((0:Int)<(((Zc 18446744073709551616 J)).length:Int))) with u | u
  ·have H:=ZJ H u;refine ZL S rfl u (wp_skip (Zf (aD _ _ (wp_block (Zj fun _ aE=>bO H fun O aF H=>Zs (mv S rfl fun f S=>opc S rfl (Zda S [.slice L M N,.int .u64 10000000000000000000] ZIn rfl rfl) (Zmq S.vin ad (show Rep.rel (Zd .u64) _ [.int .u64 10000000000000000000] (10000000000000000000:Int) from (ZC (by decide))) aF) ?_))))));rintro _ bu f w af ⟨bv,bw,rfl,m,aG⟩ S;have d:=ZR af d;obtain ⟨aH,aI,aJ,rfl⟩:=Zga m;obtain ⟨rfl,aK⟩:=aG;refine mv S rfl fun f S=>ov S rfl (ZVa S rfl rfl) fun f S=>ov S rfl (ZVa S rfl rfl) fun f S=>mw S rfl fun f S=>mw S rfl fun f S=>Zp (Zf (aE _ _ (Zj fun _ aL=>bO H fun bx aM H=>Zs (mv S rfl fun f S=>opc S rfl (Zda S [.int .u64 (O.2)] k_en104 rfl rfl) (Zht S.vin (show Rep.rel (Zd .u64) _ [.int .u64 (O.2)] O.2 from (ZC aK)) aM) ?_))));rintro _ aN f w V ⟨bz,rfl,aO⟩ S;have d:=ZR V d;obtain ⟨rfl,aP⟩:=aO;refine mw S rfl fun f S=>Zp (Zf (aL _ _ (Zj fun _ aQ=>sr (mv S rfl fun f S=>?_))));have m:=Z9 V m;refine ov S rfl (Zaa S (ZG m) rfl rfl ZA) fun f S=>ov S rfl (Ze S rfl rfl Zhd) fun f S=>oe ?_;obtain ⟨aR,aS,aT⟩:=ZF H;refine Zsa (fun f w=>∃ b P,b=aR∧Zb.le aN P∧St 49 e c [(3,.slice (mkA p) h q),(4,.slice aH aI aJ),(6,.string (Zx b))] [Loc.own p 9 1 h q k] P f w∧b.length≤maxLen) (fun _ ag=>?_) ?_
   ·have H:=aS;rcases ZI (decide ((0:Int)<(((Zc 18446744073709551616 O.1)).length:Int))) with v | v
    ·have H:=ZJ H v;refine ZL S rfl v (bO H fun W ah H=>bO H fun bA aU H=>bO H fun bB ai H=>Zs (mv S rfl fun f S=>ov S rfl (Zqo S rfl rfl Tryz.underlying9) fun f S=>ov S rfl (Ze S rfl rfl (Zta ah)) fun f S=>opc S rfl (Zda S [.string (Zx (([48]:List UInt8))),.int .i64 W] k_en105 rfl rfl) (ZYs S.vin (show Rep.rel Zab _ [.string (Zx (([48]:List UInt8)))] (([48]:List UInt8)) from (Z5g zl)) (show Rep.rel (Zd .i64) _ [.int .i64 W] W from (ZC (Zqa ah).2)) aU) ?_));rintro _ bC f w aj ⟨bD,rfl,aV⟩ S;have d:=ZR aj d;obtain ⟨rfl,bE⟩:=aV;refine mv S rfl fun f S=>ov S rfl (Zmi S rfl rfl (ZTo ai)) fun f S=>mw S rfl fun f S=>Zp ?_;obtain rfl:=Zl H;refine Zf (ag _ _ ⟨_,_,rfl,(leT (leR _) aj),(S.fr' rfl),(Z0j ai)⟩)
    have H:=ZK H v;refine ZN S rfl v (wp_skip ?_);obtain rfl:=Zl H;refine Zf (ag _ _ ⟨_,_,rfl,(leR _),(S.fr' rfl),aP⟩)
   rintro f w ⟨b,P,hq,X,S,aW⟩;subst hq;have H:=aT;have d:=ZR X d;refine Zf (aQ _ _ (bO H fun bG aX H=>Zs (mv S rfl fun f S=>mv S rfl fun f S=>?_)));obtain ⟨bH,w,aY,S⟩:=Z7h S (n:=1) (cs:=[.string (Zx b)]) (vals:=[(0,.string (Zx b))]) (sz:=1) rfl (by decide) (Zlm Zlo (x:=.string (Zx b)) (cs:=[.string (Zx b)]) rfl rfl (by decide));have Y:Rep.rels Zab P [.string (Zx b)] [b]:=(Zsn (Z5g aW) ZQe);refine Zob wn rfl zl (aY rfl) S fun f S=>?_;have aZ:=S;obtain ⟨ak,al,w,a0,S⟩:=Zsh (ty:=157) Zlo S (i:=1) (n':=(g++[b]).length) rfl (ZTd Y rfl) (ZZh S (j:=0) rfl) (ZWf Y) (appN ae rfl) (ZRh aX) (by decide);have a1:=Z8b d Y;refine Zob wn rfl zl (Z9g aZ rfl rfl a0) S fun f S=>mv S rfl fun f S=>mw S rfl fun f S=>mw S rfl fun f S=>Zp (Zsb ?_);obtain rfl:=Zl H;have S:=S.reorder (ℓ':=[Loc.own ak 9 1 ((g++[b]).length) al ((k++[.string (Zx b)]))]) [1] rfl (by decide);have m:=Z9 X m;refine aB _ rfl _ _ ⟨_,_,_,_,_,ak,(g++[b]).length,al,(k++[.string (Zx b)]),_,rfl,(leT (leT (leT ac af) V) X),(S.fr' rfl),m,a1,rfl⟩
  have H:=ZK H u;refine ZN S rfl u (wp_exit (Z2 ?_));obtain rfl:=Zl H;have hq:=aC _ rfl;subst hq;have H:=az;refine Z2 (Zeb ?_);obtain rfl:=Zl H;refine Zf (ax _ _ ⟨_,p,h,q,k,_,rfl,(leT (leR _) ac),(S.fr' rfl),d,ae⟩)
 rintro f w ⟨o,F,s,G,U,I,hq,bI,S,a2,am⟩;subst hq;have H:=aw;refine Zf (ar _ _ (Zj fun _ a3=>sr (mv S rfl fun f S=>ov S rfl (Zaa S am rfl rfl Z3m) fun f S=>ov S rfl (Ze S rfl rfl ZYc) fun f S=>oe ?_)));rcases ZI (((o.length:Int))==(0:Int)) with B | B
 ·have H:=ZJ H B;refine ZL S rfl B (sr (mw S rfl fun f S=>oe (wp_ret (ZMa ?_))));obtain rfl:=Zl H;refine ZCa S (ZKa rfl (ZT S rfl)) ⟨[.string (Zx (([48]:List UInt8)))],rfl,(Z5g zl)⟩
 have H:=ZK H B;refine ZN S rfl B (wp_skip (Zf (a3 _ _ (sr ?_))));obtain ⟨an,bJ,S,C⟩:=S.pubSlice (i:=0) (A:=Zab) (l:=o) (ℓ':=[]) rfl rfl am a2 rfl;refine op_newB 5 S wn rfl zl (Zsm k_zv165) fun r f w S a4=>oe (Zj fun _ a5=>Zj fun _ a6=>bO H fun bK ao H=>Zs (mv S rfl fun f S=>ov S rfl (Zaa S (ZG C) rfl rfl Z3m) fun f S=>ov S rfl (Ze S rfl rfl (Zta ao)) fun f S=>mw S rfl fun f S=>Zp (Zf (a6 _ _ ?_))));obtain ⟨a7,a8,a9⟩:=ZF H;refine Zsa (fun f w=>∃ Q R,Q=a7∧Zb.le an R∧St 49 e c [(7,.pointer (some ⟨r,0,none⟩))] [] R f w∧Bld 165 5 r e R Q w) (fun _ ba=>?_) ?_
 ·have H:=a8;refine wp_block ?_;obtain ⟨bM,bb,bc⟩:=ZF H;refine Zub bb (fun bd f w=>∃ Z D T,(Z,D)=bd∧Zb.le an T∧St 49 e c [(3,.slice (mkA F) s G),(7,.pointer (some ⟨r,0,none⟩)),(8,.int .i64 D)] [] T f w∧Bld 165 5 r e T Z w∧inR .i64 D) ⟨_,_,_,rfl,(leR _),(S.fr' rfl),a4,(Zqa ao).2⟩ ?_;rintro _ f w st ⟨Z,D,T,hq,aa,S,ap,bP⟩ H bQ be bf;subst hq;refine Zj fun _ bg=>sr (mv S rfl fun f S=>ov S rfl (Ze S rfl rfl Zec) fun f S=>oe ?_);rcases ZI (decide ((0:Int)≤D)) with E | E
  ·have H:=ZJ H E;refine ZL S rfl E (wp_skip (Zf (bg _ _ (Zj fun _ bh=>wp_block (bO H fun bi ab H=>bO H fun bR bj H=>Zs (mv S rfl fun f S=>mv S rfl fun f S=>?_))))));have C:=Z9 aa C;obtain ⟨_,bS,bT,bU,bk,bm,bn⟩:=Z9a C (Zi ab).2.1;obtain ⟨rfl,rfl⟩:=ZRr bk;obtain ⟨rfl,bV⟩:=bn;refine ov S rfl (ZM S rfl rfl Z3m (Zi ab).1 (ltI (ZG C) (Zi ab).2.2.1)) fun f S=>ov S rfl (Zka S rfl k_sz9 (S.view bm)) fun f S=>ZNu writes ap (Zqr bj) S wn rfl zl (Zda S [.pointer (some ⟨r,0,none⟩),.string (Zx bi)] k_en106 rfl rfl) fun f w S bo=>Zp (Zsb (Zf (bh _ _ (bO H fun bW aq H=>Zs (mv S rfl fun f S=>ov S rfl (Ze S rfl rfl (Zta aq)) fun f S=>mw S rfl fun f S=>Zp ?_)))));obtain rfl:=Zl H;refine be _ rfl _ _ ⟨_,_,_,rfl,aa,(S.fr' rfl),bo,(Zqa aq).2⟩
  have H:=ZK H E;refine ZN S rfl E (wp_exit (Z2 ?_));obtain rfl:=Zl H;have hq:=bf _ rfl;subst hq;have H:=bc;refine Z2 (Zeb ?_);obtain rfl:=Zl H;refine Zf (ba _ _ ⟨_,_,rfl,(leT (leR _) aa),(S.fr' rfl),ap⟩)
 rintro f w ⟨Q,R,hq,bX,S,bp⟩;subst hq;have H:=a9;refine Zf (a5 _ _ (Zj fun _ bq=>bO H fun bY br H=>Zs (op_tell tells bp S wn rfl zl (Zda S [.pointer (some ⟨r,0,none⟩)] k_en107 rfl rfl) fun f w S=>mw S rfl fun f S=>Zp (Zf (bq _ _ (wp_ret ?_))))));obtain rfl:=Zl H;refine ZCa S (ZKa rfl (ZT S rfl)) ⟨[.string (Zx Q)],rfl,(Z5g (Z0j br))⟩
theorem text_c {c:World} {b:Zb} (hv:VIn b c) {d:List Value} {a:Nat} (f:Rep.rel Zu b d a) {z:(List UInt8)} (hm:Zsf a=some z) :
  Ret Tryz.prog 68 #[Zu.val d] c b (fun y v'=>∃ e,y=Zab.val e∧Zab.rel v' e z) :=
 text_w hv f (Zdu hm)
end Go.Eng
set_option maxRecDepth 100000
set_option maxHeartbeats 4000000
namespace Go.Eng
open Go.Proofs Go.RowKit
noncomputable def Z8j:FuncId×Con:=(68,⟨[.leaf 0],[.str],fun p=>Zsf p⟩)
theorem text_k:Zm Tryz.prog Z8j.1 Z8j.2:=fun w v vals x z hv ha hz=>by
 obtain ⟨c0,e0,p0⟩:=ha;subst e0
 exact .inl ⟨fun _ _=>by kernel_rfl,Ret.mono (text_c hv p0 hz) fun y v' _ ⟨r0,e,h0⟩=>⟨r0,e,h0⟩⟩
end Go.Eng
set_option maxRecDepth 100000
set_option maxHeartbeats 4000000
namespace Go.Eng
open Go.Proofs Go.RowKit
noncomputable def Zug:FuncId×Con:=(30,⟨[.leaf 3],[.str],fun p=>ZLd p⟩)
theorem qtext_i (x:Rat):Zo ⟨Tryz.prog,[(32,0),(34,2),(36,3)],[Z8j],[],[],[],[]⟩ [] Tryz.f30 (.two .no (.two .no (.two (.two .no (.cut ⟨⟨[],[],[]⟩,[(.norm,⟨[1],[],[.s 3 (.dat .str)]⟩)]⟩ .no)) (.two (.two .no (.cut ⟨⟨[],[],[]⟩,[(.norm,⟨[],[],[.s 3 (.dat .str)]⟩)]⟩ .no)) .no)))) [.leaf 3] [.str] (x)=Zll x:=by kernel_rfl
theorem ZDq:Zm Tryz.prog Zug.1 Zug.2:=Zq (C:=⟨Tryz.prog,[(32,0),(34,2),(36,3)],[Z8j],[],[],[],[]⟩) ⟨text_k,trivial⟩ trivial trivial trivial (inl:=[]) trivial (ann:=.two .no (.two .no (.two (.two .no (.cut ⟨⟨[],[],[]⟩,[(.norm,⟨[1],[],[.s 3 (.dat .str)]⟩)]⟩ .no)) (.two (.two .no (.cut ⟨⟨[],[],[]⟩,[(.norm,⟨[],[],[.s 3 (.dat .str)]⟩)]⟩ .no)) .no)))) Tryz.func30 (fun _ _=>by kernel_rfl) rfl fun v vals x z ha hz=>(qtext_i x).trans (ZAr hz)
end Go.Eng
set_option maxRecDepth 100000
set_option maxHeartbeats 4000000
namespace Go.Eng
open Go.Proofs Go.RowKit
noncomputable def ZQi:FuncId×Con:=(5,⟨[],[.bool],fun _=>ZOe⟩)
theorem ZFt  : Zo ⟨Tryz.prog,[(32,0),(34,2),(36,3),(40,1),(42,4)],[ZKi,ZFk,ZVj,Zgd,ZBj,ZTi,ZCc,Zug],[],[],[],[]⟩ [] Tryz.f5 (.two .no (.two .no (.two (.cut ⟨⟨[],[],[]⟩,[(.norm,⟨[],[],[.s 3 (.box 36 (.dat (.leaf 3))),.s 4 (.dat (.int .i64))]⟩)]⟩ .no) (.two .no (.two .no (.two .no (.two (.cut ⟨⟨[],[],[]⟩,[(.norm,⟨[],[],[.s 0 (.dat .bool)]⟩)]⟩ .no) .no))))))) [] [.bool] ()=ZOe  := by kernel_rfl
theorem ZSt:Zm Tryz.prog ZQi.1 ZQi.2:=Zq (C:=⟨Tryz.prog,[(32,0),(34,2),(36,3),(40,1),(42,4)],[ZKi,ZFk,ZVj,Zgd,ZBj,ZTi,ZCc,Zug],[],[],[],[]⟩) ⟨Zot,drum8_k,force_k,ZFi,kappa_k,Zbv,Zkh,ZDq,trivial⟩ trivial trivial trivial (inl:=[]) trivial (ann:=.two .no (.two .no (.two (.cut ⟨⟨[],[],[]⟩,[(.norm,⟨[],[],[.s 3 (.box 36 (.dat (.leaf 3))),.s 4 (.dat (.int .i64))]⟩)]⟩ .no) (.two .no (.two .no (.two .no (.two (.cut ⟨⟨[],[],[]⟩,[(.norm,⟨[],[],[.s 0 (.dat .bool)]⟩)]⟩ .no) .no))))))) Tryz.func5 (fun _ _=>by kernel_rfl) rfl fun v vals x z ha hz=>(ZFt ).trans (hz)
end Go.Eng
set_option maxRecDepth 100000
set_option maxHeartbeats 4000000
namespace Go.Eng
open Go.Proofs Go.RowKit
noncomputable def Zzk:FuncId×Con:=(6,⟨[.slice (.pair (.pair (.int .i64) (.int .i64)) (.pair (.int .i64) (.int .i64)))],[.slice (.pair (.leaf 3) (.leaf 3)),.slice (.pair (.leaf 4) (.leaf 4))],fun p=>Zkg p⟩)
theorem ZUv (l:(List ((Int×Int)×(Int×Int)))):Zo ⟨Tryz.prog,[(32,0),(34,2),(36,3),(40,1),(42,4)],[ZCc,Zzd],[],[],[],[]⟩ [] Tryz.f6 (.two .no (.two .no (.two .no (.two (.two .no (.cut ⟨⟨[],[],[]⟩,[(.norm,⟨[],[],[.s 4 (.own 48 (.pair (.leaf 3) (.leaf 3))),.s 5 (.own 50 (.pair (.leaf 4) (.leaf 4)))]⟩)]⟩ (.two (.cut ⟨⟨[8,9],[],[.s 4 (.own 48 (.pair (.leaf 3) (.leaf 3))),.s 5 (.own 50 (.pair (.leaf 4) (.leaf 4))),.s 10 (.dat (.int .i64))]⟩,[(.exit 0,⟨[],[],[.s 4 (.own 48 (.pair (.leaf 3) (.leaf 3))),.s 5 (.own 50 (.pair (.leaf 4) (.leaf 4)))]⟩)]⟩ .no) .no))) .no)))) [.slice (.pair (.pair (.int .i64) (.int .i64)) (.pair (.int .i64) (.int .i64)))] [.slice (.pair (.leaf 3) (.leaf 3)),.slice (.pair (.leaf 4) (.leaf 4))] (l)=Zkg l:=by kernel_rfl
theorem Z0r:Zm Tryz.prog Zzk.1 Zzk.2:=Zq (C:=⟨Tryz.prog,[(32,0),(34,2),(36,3),(40,1),(42,4)],[ZCc,Zzd],[],[],[],[]⟩) ⟨Zkh,Zdj,trivial⟩ trivial trivial trivial (inl:=[]) trivial (ann:=.two .no (.two .no (.two .no (.two (.two .no (.cut ⟨⟨[],[],[]⟩,[(.norm,⟨[],[],[.s 4 (.own 48 (.pair (.leaf 3) (.leaf 3))),.s 5 (.own 50 (.pair (.leaf 4) (.leaf 4)))]⟩)]⟩ (.two (.cut ⟨⟨[8,9],[],[.s 4 (.own 48 (.pair (.leaf 3) (.leaf 3))),.s 5 (.own 50 (.pair (.leaf 4) (.leaf 4))),.s 10 (.dat (.int .i64))]⟩,[(.exit 0,⟨[],[],[.s 4 (.own 48 (.pair (.leaf 3) (.leaf 3))),.s 5 (.own 50 (.pair (.leaf 4) (.leaf 4)))]⟩)]⟩ .no) .no))) .no)))) Tryz.func6 (fun _ _=>by kernel_rfl) rfl fun v vals x z ha hz=>(ZUv x).trans (hz)
end Go.Eng
set_option maxRecDepth 100000
set_option maxHeartbeats 4000000
namespace Go.Eng
open Go.Proofs Go.RowKit
noncomputable def ZJj:FuncId×Con:=(21,⟨[.leaf 3,.leaf 3],[.bool],fun p=>Zgh p.1 p.2⟩)
theorem qsame_i (x:Rat) (y:Rat):Zo ⟨Tryz.prog,[(32,0),(34,2),(36,3)],[ZFg],[],[],[],[]⟩ [] Tryz.f21 (.two .no (.two (.cut ⟨⟨[],[],[]⟩,[(.norm,⟨[],[],[.s 4 (.dat .bool)]⟩)]⟩ .no) .no)) [.leaf 3,.leaf 3] [.bool] (x,y)=Z4m x y:=by kernel_rfl
theorem qsame_k:Zm Tryz.prog ZJj.1 ZJj.2:=Zq (C:=⟨Tryz.prog,[(32,0),(34,2),(36,3)],[ZFg],[],[],[],[]⟩) ⟨cmp_k,trivial⟩ trivial trivial trivial (inl:=[]) trivial (ann:=.two .no (.two (.cut ⟨⟨[],[],[]⟩,[(.norm,⟨[],[],[.s 4 (.dat .bool)]⟩)]⟩ .no) .no)) Tryz.func21 (fun _ _=>by kernel_rfl) rfl fun v vals x z ha hz=>(qsame_i x.1 x.2).trans (ZEv hz)
end Go.Eng
set_option maxRecDepth 100000
set_option maxHeartbeats 4000000
namespace Go.Eng
open Go.Proofs Go.RowKit
noncomputable def Zdk:FuncId×Con:=(109,⟨[.leaf 3],[.bool],fun p=>Zcj p⟩)
theorem Zks (x:Rat):Zo ⟨Tryz.prog,[(32,0),(34,2),(36,3),(40,1),(42,4)],[ZBd],[],[],[],[]⟩ [] Tryz.f109 .no [.leaf 3] [.bool] (x)=Zcj x:=by kernel_rfl
theorem Zvr:Zm Tryz.prog Zdk.1 Zdk.2:=Zq (C:=⟨Tryz.prog,[(32,0),(34,2),(36,3),(40,1),(42,4)],[ZBd],[],[],[],[]⟩) ⟨ZXj,trivial⟩ trivial trivial trivial (inl:=[]) trivial (ann:=.no) Tryz.func109 (fun _ _=>by kernel_rfl) rfl fun v vals x z ha hz=>(Zks x).trans (hz)
end Go.Eng
set_option maxRecDepth 100000
set_option maxHeartbeats 4000000
namespace Go.Eng
open Go.Proofs Go.RowKit
noncomputable def Zki:FuncId×Con:=(71,⟨[.slice (.leaf 3)],[.bool],fun p=>Z2f p⟩)
theorem below_i (l:(List Rat)):Zo ⟨Tryz.prog,[(32,0),(34,2),(36,3),(40,1),(42,4)],[Zdk],[],[],[],[]⟩ [(84,Tryz.f84,.cut ⟨⟨[],[],[]⟩,[(.ret,⟨[],[],[.s 0 (.dat .bool)]⟩)]⟩ .no),(87,Tryz.f87,.cut ⟨⟨[],[],[]⟩,[(.ret,⟨[],[],[.s 0 (.dat (.int .i64))]⟩)]⟩ (.two .no (.two (.two .no (.cut ⟨⟨[],[],[]⟩,[(.norm,⟨[],[],[]⟩),(.ret,⟨[],[],[.s 0 (.dat (.int .i64))]⟩)]⟩ (.two (.cut ⟨⟨[0,1,7],[],[.s 8 (.dat (.int .i64))]⟩,[(.ret,⟨[],[],[.s 0 (.dat (.int .i64))]⟩),(.exit 0,⟨[],[],[]⟩)]⟩ .no) .no))) .no)))] Tryz.f71 .no [.slice (.leaf 3)] [.bool] (l)=Z2f l:=by kernel_rfl
theorem below_k:Zm Tryz.prog Zki.1 Zki.2:=Zq (C:=⟨Tryz.prog,[(32,0),(34,2),(36,3),(40,1),(42,4)],[Zdk],[],[],[],[]⟩) ⟨Zvr,trivial⟩ trivial trivial trivial (inl:=[(84,Tryz.f84,.cut ⟨⟨[],[],[]⟩,[(.ret,⟨[],[],[.s 0 (.dat .bool)]⟩)]⟩ .no),(87,Tryz.f87,.cut ⟨⟨[],[],[]⟩,[(.ret,⟨[],[],[.s 0 (.dat (.int .i64))]⟩)]⟩ (.two .no (.two (.two .no (.cut ⟨⟨[],[],[]⟩,[(.norm,⟨[],[],[]⟩),(.ret,⟨[],[],[.s 0 (.dat (.int .i64))]⟩)]⟩ (.two (.cut ⟨⟨[0,1,7],[],[.s 8 (.dat (.int .i64))]⟩,[(.ret,⟨[],[],[.s 0 (.dat (.int .i64))]⟩),(.exit 0,⟨[],[],[]⟩)]⟩ .no) .no))) .no)))]) ⟨⟨Tryz.func84,fun _ _=>by kernel_rfl⟩,⟨Tryz.func87,fun _ _=>by kernel_rfl⟩,trivial⟩ (ann:=.no) Tryz.func71 (fun _ _=>by kernel_rfl) rfl fun v vals x z ha hz=>(below_i x).trans (hz)
end Go.Eng
set_option maxRecDepth 100000
set_option maxHeartbeats 4000000
namespace Go.Eng
open Go.Proofs Go.RowKit
noncomputable def ZGf:FuncId×Con:=(32,⟨[.slice (.pair (.leaf 3) (.leaf 3))],[.int .i64],fun p=>Zef p⟩)
theorem Zpv (d:(List (Rat×Rat))):Zo ⟨Tryz.prog,[(32,0),(34,2),(36,3),(40,1),(42,4)],[Zpb,ZJj,Zsd,Zki],[],[],[],[]⟩ [] Tryz.f32 (.two .no (.two (.two (.cut ⟨⟨[],[],[]⟩,[(.norm,⟨[0],[],[.s 13 (.dat .bool)]⟩)]⟩ .no) .no) (.two .no (.two (.two .no (.cut ⟨⟨[],[],[]⟩,[(.norm,⟨[3],[],[.l (.sl 3) (.box 36 (.dat (.leaf 3)))]⟩),(.ret,⟨[],[],[.s 0 (.dat (.int .i64))]⟩)]⟩ (.two (.cut ⟨⟨[3,14,15],[],[.l (.sl 3) (.box 36 (.dat (.leaf 3))),.s 16 (.dat (.int .i64))]⟩,[(.ret,⟨[],[],[.s 0 (.dat (.int .i64))]⟩),(.exit 0,⟨[3],[],[.l (.sl 3) (.box 36 (.dat (.leaf 3)))]⟩)]⟩ .no) .no))) .no)))) [.slice (.pair (.leaf 3) (.leaf 3))] [.int .i64] (d)=Zef d:=by kernel_rfl
theorem Zup:Zm Tryz.prog ZGf.1 ZGf.2:=Zq (C:=⟨Tryz.prog,[(32,0),(34,2),(36,3),(40,1),(42,4)],[Zpb,ZJj,Zsd,Zki],[],[],[],[]⟩) ⟨ZBf,qsame_k,Z8i,below_k,trivial⟩ trivial trivial trivial (inl:=[]) trivial (ann:=.two .no (.two (.two (.cut ⟨⟨[],[],[]⟩,[(.norm,⟨[0],[],[.s 13 (.dat .bool)]⟩)]⟩ .no) .no) (.two .no (.two (.two .no (.cut ⟨⟨[],[],[]⟩,[(.norm,⟨[3],[],[.l (.sl 3) (.box 36 (.dat (.leaf 3)))]⟩),(.ret,⟨[],[],[.s 0 (.dat (.int .i64))]⟩)]⟩ (.two (.cut ⟨⟨[3,14,15],[],[.l (.sl 3) (.box 36 (.dat (.leaf 3))),.s 16 (.dat (.int .i64))]⟩,[(.ret,⟨[],[],[.s 0 (.dat (.int .i64))]⟩),(.exit 0,⟨[3],[],[.l (.sl 3) (.box 36 (.dat (.leaf 3)))]⟩)]⟩ .no) .no))) .no)))) Tryz.func32 (fun _ _=>by kernel_rfl) rfl fun v vals x z ha hz=>(Zpv x).trans (hz)
end Go.Eng
set_option maxRecDepth 100000
set_option maxHeartbeats 4000000
namespace Go.Eng
open Go.Proofs Go.RowKit
noncomputable def Zvk:FuncId×Con:=(35,⟨[.pair (.leaf 3) (.leaf 3),.leaf 3],[.int .i64],fun p=>ZLf p.1 p.2⟩)
theorem sum11_i (ch:(Rat×Rat)) (y:Rat):Zo ⟨Tryz.prog,[(32,0),(34,2),(36,3),(40,1),(42,4)],[Zxd],[],[],[],[]⟩ [] Tryz.f35 .no [.pair (.leaf 3) (.leaf 3),.leaf 3] [.int .i64] (ch,y)=ZLf ch y:=by kernel_rfl
theorem sum11_k:Zm Tryz.prog Zvk.1 Zvk.2:=Zq (C:=⟨Tryz.prog,[(32,0),(34,2),(36,3),(40,1),(42,4)],[Zxd],[],[],[],[]⟩) ⟨ZRk,trivial⟩ trivial trivial trivial (inl:=[]) trivial (ann:=.no) Tryz.func35 (fun _ _=>by kernel_rfl) rfl fun v vals x z ha hz=>(sum11_i x.1 x.2).trans (hz)
end Go.Eng
namespace Go.Eng
open Go.Proofs Go.RowKit
theorem ZIf:Elem Tryz.prog 24 48 6 112 (Value.agg #[Value.bool false,Value.slice none 0 0,Value.slice none 0 0,Value.bool false,Value.slice none 0 0,Value.slice none 0 0]):=⟨Tryz.underlying24,by kernel_rfl,rfl,by decide⟩
theorem Z2b:Zgc Tryz.prog 24 48 6:=⟨fun _=>by kernel_rfl,fun _=>by kernel_rfl⟩
theorem Zlq:Tryz.prog.follows .mixedOrders=true:=by kernel_rfl
theorem Zrv {w:World} {b bv:Nat} {c cur:Array Value} (hne:bv≠b) (a:w.heap[bv]? = some (.cells c 48 (0,0))) (d:w.heap[b]? = some (.cells cur 48 (0,0))) (hc:cur.size≠0) (o la ca lb cb:Nat) :
  (callFunc 72 #[.slice (some ⟨bv,0,none⟩) la ca,.slice (some ⟨b,o,none⟩) lb cb]).run Tryz.prog w = .ok (.value (.bool false)) w:=by
 rw [run_callFunc_extern Tryz.func72 (by kernel_rfl) (by kernel_rfl) (by kernel_rfl) (e:=Extern.SlicesOverlaps.overlaps #[24,24] #[4]) (by kernel_rfl),
  Lib.run_overlaps_apart w 24 4 48 Tryz.underlying24 6 Z2b.2 ⟨bv,0,none⟩ ⟨b,o,none⟩ la ca lb cb hne 48 48 c.size cur.size (by simp [World.shape?,a]) (by simp [World.shape?,d]) hc (by simp [World.frozen?,a]) (by simp [World.frozen?,a])]
 rfl
abbrev rCh:Rep (Rat×Rat):=ZQ Zse Zse
theorem ZIr {cs c ex:List Value} {i n:Nat} (hc:cs.length=n*6) (d:c.length=6) (hi:i<n) (hex:ex.length=1*6) :
  (((cs++ex).take ((i+1)*6)++cs.drop (i*6)++(cs++ex).drop ((i+1)*6+(cs.drop (i*6)).length)).take (i*6)++c++((cs++ex).take ((i+1)*6)++cs.drop (i*6)++(cs++ex).drop ((i+1)*6+(cs.drop (i*6)).length)).drop (i*6+c.length))=cs.take (i*6)++c++cs.drop (i*6):=by
 have a:(cs++ex).take ((i+1)*6)=cs.take ((i+1)*6):=List.take_append_of_le_length (by omega);have b:(cs++ex).drop ((i+1)*6+(cs.drop (i*6)).length)=[]:=List.drop_eq_nil_of_le (by simp;omega);have e:(cs.take ((i+1)*6)).length=(i+1)*6:=by simp;omega
 rw [a,b,List.append_nil,List.take_append_of_le_length (by omega),List.take_take,Nat.min_eq_left (by omega),d,List.drop_append_of_le_length (by omega),show (cs.take ((i+1)*6)).drop (i*6+6)=[] from List.drop_eq_nil_of_le (by omega),List.nil_append]
theorem Zku {cs b ex:List Value} {i n:Nat} (hc:cs.length=n*6) (g:b.length=6) (hi:i<n) (hex:ex.length=(n+1-i)*6) :
  (((cs.take (i*6)++ex).take (i*6)++b++(cs.take (i*6)++ex).drop (i*6+b.length)).take ((i+1)*6)++cs.drop (i*6)++((cs.take (i*6)++ex).take (i*6)++b++(cs.take (i*6)++ex).drop (i*6+b.length)).drop ((i+1)*6+(cs.drop (i*6)).length))=cs.take (i*6)++b++cs.drop (i*6):=by
 have c:(cs.take (i*6)).length=i*6:=by simp;omega
 have a:(cs.take (i*6)++ex).take (i*6)=cs.take (i*6):=by rw [List.take_append_of_le_length (by omega),List.take_of_length_le (by omega)]
 have d:(cs.take (i*6)++b).length=(i+1)*6:=by rw [List.length_append];omega
 have e:((cs.take (i*6)++ex).drop (i*6+b.length)).length=(n+1-i)*6-6:=by rw [List.length_drop,List.length_append,c];omega
 have f:(cs.take (i*6)++b++(cs.take (i*6)++ex).drop (i*6+b.length)).length=(n+1)*6:=by
  rw [List.length_append,d,e];omega
 rw [a,List.take_append_of_le_length (by omega),List.take_of_length_le (by omega),show (cs.take (i*6)++b++(cs.take (i*6)++ex).drop (i*6+b.length)).drop ((i+1)*6+(cs.drop (i*6)).length)=[] from List.drop_eq_nil_of_le (by rw [f,List.length_drop];omega),List.append_nil]
set_option maxHeartbeats 2000000 in
theorem Zkv {g:World} {f:Zb} (hv:VIn f g) {ob:Option Nat} {n cap:Nat} {cs:List Value} {l:List (Rat×Rat)} (hh:(Loc.own ob 48 6 n cap cs).holds g) (hnv:∀ b,ob=some b→f b=none) (hA:rCh.rels f cs l) (hn:n=l.length)
  {i:Nat} (hi:i≤l.length) {bv kv:Nat} {o:Array Value} {d:List Value} {x:Rat×Rat} (hvb:f bv=some (.cells o 48 (0,0))) (r:o.toList.take 6=d) (hx:rCh.rel f d x) (hbig:(l.length+1)*112≤140737488355328) :
  ZOd Tryz.prog 36 #[.slice (mkA ob) n cap,.int .i64 (i:Int),.slice (some ⟨bv,0,none⟩) 1 kv] g f ob.toList (OwnI rCh 48 6 (l.take i++[x]++l.drop i) ob g):=by
 have hcs:cs.length=n*6:=by rw [hn];exact ZXd hA
 have h:d.length=6:=rCh.len hx;have hfin:∀ {v:Zb},f.le v→rCh.rels v (cs.take (i*6)++d++cs.drop (i*6)) (l.take i++[x]++l.drop i):=fun hle=>Z8b (Z8b (ZMf i (ZR hle hA)) (Zxo (rCh.mono hle hx))) (Z6e i (ZR hle hA));have hflen:n+1=(l.take i++[x]++l.drop i).length:=by simp;omega
 have hwv:WAt g bv 0 d:=⟨_,_,_,hv _ _ hvb,by rw [h,List.drop_zero];exact r⟩;have src1:∀ {K:Nat} {s:Base} {z:Zb} {σ:List (Nat×Value)} {ℓ:List Loc} {v:Zb} {a:Act} {w:World},St K s z σ ℓ v a w→f.le v→∀ j u,d[j]? = some u→w.cell? ((⟨bv,0,none⟩:Addr).add j)=some u:=fun hS hle j u hu=>by
  have:=(hS.view (At.mono hle ⟨_,_,_,hvb,by rw [h,List.drop_zero];exact r⟩:At _ bv 0 d)).cell hu
  rwa [ZQa]
 refine retI_of (K:=95) (args:=[.slice (mkA ob) n cap,.int .i64 (i:Int),.slice (some ⟨bv,0,none⟩) 1 kv]) hv hh hnv Tryz.func36 rfl rfl zl fun fa hS=>?_;refine sr ?_;refine mw hS rfl fun fa hS=>?_;refine oe ?_;refine sr ?_;refine mv hS rfl fun fa hS=>?_;refine mv hS rfl fun fa hS=>?_;refine ov hS rfl (ZDt hS Z2b rfl rfl (by omega)) fun fa hS=>?_;refine oe ?_;refine sr ?_;refine mv hS rfl fun fa hS=>?_;refine ov hS rfl (Zee hS rfl rfl Z2b) fun fa hS=>?_;refine mw hS rfl fun fa hS=>?_;refine oe ?_;refine wp_seq_k fun H A=>?_;refine sr ?_;refine mv hS rfl fun fa hS=>?_;refine ov hS rfl (Ze hS rfl rfl ZYc) fun fa hS=>?_;refine oe ?_;refine ZN hS rfl (by decide) ?_;refine wp_skip ?_;refine Zf (A _ _ ?_);refine sr ?_;refine mv hS rfl fun fa hS=>?_;refine ov hS rfl (Zee hS rfl rfl Z2b) fun fa hS=>?_;refine mw hS rfl fun fa hS=>?_;refine oe ?_;refine wp_seq_k fun I B=>?_;refine sr ?_;refine mv hS rfl fun fa hS=>?_;refine mv hS rfl fun fa hS=>?_;refine ov hS rfl (Ze hS rfl rfl ZYc) fun fa hS=>?_;refine oe ?_;by_cases hin:i=n
 ·refine ZL hS rfl (by subst hin;simp) ?_;subst hin;refine sr ?_;refine mv hS rfl fun fa hS=>?_;refine mv hS rfl fun fa hS=>?_;obtain ⟨b',cap',wo,hr,hS'⟩:=Zsh (t:=24) (ty:=24) ZIf hS (i:=0) rfl (ad:=⟨bv,0,none⟩) (m:=1) (c:=kv) (news:=d) (by omega) (src1 hS (Zb.le_refl _)) (rCh.flat hx) (n':=i+1) rfl (by omega) (by decide);refine Zob wn rfl zl (ZFq hS rfl rfl hr) hS' fun fa hS=>?_;refine mw hS rfl fun fa hS=>?_;refine oe ?_;refine wp_ret ?_;refine ZMa ?_;have hf:=hfin (Zb.le_refl f);rw [List.take_of_length_le (by omega),List.drop_eq_nil_of_le (by omega),List.append_nil] at hf;have C:(l.take i++[x]++l.drop i)=l++[x]:=by rw [List.take_of_length_le (by omega),List.drop_eq_nil_of_le (by omega),List.append_nil]
  rw [C] at hf hflen ⊢;exact ZOm hS (i:=0) rfl (ZKa rfl (ZT hS rfl)) hf hflen
 refine ZN hS rfl (by simp only [beq_eq_false_iff_ne,ne_eq];omega) ?_;have hin:i<n:=by omega
 refine wp_skip ?_;refine Zf (B _ _ ?_);obtain ⟨b,rfl⟩:=Z5c hS (j:=0) rfl (by omega);obtain ⟨hbl,cur,hg,hnc,hcx,hcu,htk⟩:=(hS.loc _ (List.mem_of_getElem? (i:=0) rfl)).1;have hbv:bv≠b:=fun e=>by have:=hnv b rfl;rw [← e,hvb] at this;cases this
 unfold maxLen at hcx;refine wp_seq_k fun J D=>?_;refine sr ?_;refine mv hS rfl fun fa hS=>?_;refine mv hS rfl fun fa hS=>?_;refine ov hS rfl (Ze hS rfl rfl (Zna (show chk .i64 ((n:Int)+((1:Nat):Int))=some ((n+1:Nat):Int) by rw [Zz (by omega) (by omega)];rfl))) fun fa hS=>?_;refine mv hS rfl fun fa hS=>?_;refine ov hS rfl (run_cap hS rfl rfl Z2b) fun fa hS=>?_;refine ov hS rfl (Ze hS rfl rfl Zhd) fun fa hS=>?_;refine oe ?_;by_cases hroom:cap<n+1
 ·refine ZL hS rfl (decide_eq_true (by omega)) ?_;refine sr ?_;refine mv hS rfl fun fa hS=>?_;refine mv hS rfl fun fa hS=>?_;refine ov hS rfl (Zao hS Z2b rfl rfl (by omega) (by omega)) fun fa hS=>?_;refine mv hS rfl fun fa hS=>?_;refine mv hS rfl fun fa hS=>?_;refine ov hS rfl (Ze hS rfl rfl (Zna (show chk .i64 ((n:Int)+((1:Nat):Int))=some ((n+1:Nat):Int) by rw [Zz (by omega) (by omega)];rfl))) fun fa hS=>?_;refine mv hS rfl fun fa hS=>?_;refine ov hS rfl (Ze hS rfl rfl (Zta (show chk .i64 (((n+1:Nat):Int)-(i:Int))=some ((n+1-i:Nat):Int) by rw [Zz (by omega) (by omega)];congr 1;omega))) fun fa hS=>?_;obtain ⟨b',cap',wo,ex,hex,hr,hS'⟩:=Zyv (t:=24) (tn:=3) (ty:=24) (kn:=.i64) ZIf Tryz.underlying3 hS (i:=0) rfl (q:=i) (m:=n+1-i) (by omega) (by omega) (by omega) (by omega) (by decide);rw [show i+(n+1-i)=n+1 by omega] at hr hS';refine Zob wn rfl zl (ZFq hS rfl rfl (hr _)) hS' fun fa hS=>?_;refine mw hS rfl fun fa hS=>?_;refine oe ?_;refine sr ?_;refine mv hS rfl fun fa hS=>?_;refine mv hS rfl fun fa hS=>?_;obtain ⟨_,_,_,hnc',_⟩:=(hS.loc _ (List.mem_of_getElem? (i:=0) rfl)).1;refine ov hS rfl (Zff hS Z2b rfl rfl (by omega) (by omega)) fun fa hS=>?_;refine mv hS rfl fun fa hS=>?_;rw [Nat.zero_add] at hS;obtain ⟨wo,hr,hS'⟩:=ZDj (t:=24) (sT:=24) ZIf hS (i:=0) rfl (p:=i) (k:=1) (c:=d) (by omega) (by omega) (rCh.flat hx) (ad:=⟨bv,0,none⟩) (sLen:=1) (sCap:=kv) (dLen:=n+1-i) (dCap:=cap'-i) (src1 hS (Zb.le_refl _)) (by show min 1 (n+1-i)=1;omega)
  refine Zob wn rfl zl (Zfi hS rfl rfl (hr _)) hS' fun fa hS=>?_;refine oe ?_;refine wp_seq_k fun L E=>?_;refine Zwd (fl:=#[true,true,true,true,true,true,true,true,false]) Zlq (by kernel_rfl) hS ?_;intro ops hops hF wo hS;refine rf hops hF 0 rfl (by kernel_rfl) rfl hS (Zw hS rfl) fun fa hS=>?_;refine rf hops hF 1 rfl (by kernel_rfl) rfl hS (Zw hS rfl) fun fa hS=>?_;refine rf hops hF 2 rfl (by kernel_rfl) rfl hS (Zw hS rfl) fun fa hS=>?_;refine rf hops hF 3 rfl (by kernel_rfl) rfl hS (Ze hS rfl rfl (Zna (show chk .i64 ((i:Int)+((1:Nat):Int))=some ((i+1:Nat):Int) by rw [Zz (by omega) (by omega)];rfl))) fun fa hS=>?_;refine rf hops hF 4 rfl (by kernel_rfl) rfl hS (Zff hS Z2b rfl rfl (by omega) (by omega)) fun fa hS=>?_;refine rf hops hF 5 rfl (by kernel_rfl) rfl hS (Zw hS rfl) fun fa hS=>?_;refine rf hops hF 6 rfl (by kernel_rfl) rfl hS (Zw hS rfl) fun fa hS=>?_;refine rf hops hF 7 rfl (by kernel_rfl) rfl hS (Zff hS Z2b rfl rfl (by omega) (by omega)) fun fa hS=>?_;rw [Nat.zero_add,Nat.zero_add] at hS;have hsrc:∀ j u,(cs.drop (i*6))[j]? = some u→wo.cell? ((⟨b,i*6,none⟩:Addr).add j)=some u:=fun j u hu=>by
   have:=ZZh hS (j:=1) rfl (i*6+j) u (by rw [List.getElem?_drop] at hu;exact hu);rw [ZQa] at this ⊢;rw [Nat.zero_add] at this;exact this
  obtain ⟨wo',hr,hS'⟩:=ZDj (t:=24) (sT:=24) ZIf hS (i:=0) rfl (p:=i+1) (k:=n-i) (c:=cs.drop (i*6)) (by rw [List.length_drop];omega) (by omega) (by rw [List.all_eq_true];intro y hy;exact List.all_eq_true.1 (ZWf hA) y (List.mem_of_mem_drop hy)) (ad:=⟨b,i*6,none⟩) (sLen:=n-i) (sCap:=cap-i) (dLen:=n+1-(i+1)) (dCap:=cap'-(i+1)) hsrc (by show min (n-i) (n+1-(i+1))=n-i;omega);refine ZLl hops hF 8 (by kernel_rfl) ?_;refine ZIp [4,7,0,3,5,6,1,2] [] hops rfl (by kernel_rfl) wn rfl zl (Zfi hS rfl rfl (hr _)) hS' fun fa hS=>?_;refine ⟨Zuc,?_⟩;refine Zon hops hF (by kernel_rfl) ?_;refine Zf (E _ _ ?_);refine sr ?_;refine mv hS rfl fun fa hS=>?_;refine mw hS rfl fun fa hS=>?_;refine oe ?_;refine wp_ret ?_;refine ZMa ?_;refine ZOm hS (i:=0) rfl (ZKa rfl (ZT hS rfl)) ?_ hflen;rw [Zku hcs h hin hex];exact hfin (Zb.le_refl _)
 refine ZN hS rfl (decide_eq_false (by omega)) ?_;refine wp_skip ?_;refine Zf (D _ _ ?_);refine sr ?_;refine mv hS rfl fun fa hS=>?_;refine mv hS rfl fun fa hS=>?_;refine mv hS rfl fun fa hS=>?_;refine ov hS rfl (Ze hS rfl rfl (Zna (show chk .i64 ((n:Int)+((1:Nat):Int))=some ((n+1:Nat):Int) by rw [Zz (by omega) (by omega)];rfl))) fun fa hS=>?_;refine ov hS rfl (Zao hS Z2b rfl rfl (by omega) (by omega)) fun fa hS=>?_;refine mw hS rfl fun fa hS=>?_;refine oe ?_;obtain ⟨ex,hex,hS⟩:=hS.widen (i:=0) rfl (m:=1) (by omega);refine wp_seq_k fun M N=>?_;refine sr ?_;refine mv hS rfl fun fa hS=>?_;refine mv hS rfl fun fa hS=>?_;refine mv hS rfl fun fa hS=>?_;refine mv hS rfl fun fa hS=>?_;refine ov hS rfl (Ze hS rfl rfl (Zna (show chk .i64 ((i:Int)+((1:Nat):Int))=some ((i+1:Nat):Int) by rw [Zz (by omega) (by omega)];rfl))) fun fa hS=>?_;refine ov hS rfl (Zff hS Z2b rfl rfl (by omega) (by omega)) fun fa hS=>?_;obtain ⟨_,cur2,F,hnc2,_,hcu2,_⟩:=(hS.loc _ (List.mem_of_getElem? (i:=0) rfl)).1;have hvb2:=hS.vin _ _ (hS.vst.le _ _ hvb);refine ov hS rfl (Zmv hS [.slice (some ⟨bv,0,none⟩) 1 kv,.slice (some ⟨b,0+(i+1)*6,none⟩) (n+1-(i+1)) (cap-(i+1))] (Zrv hbv hvb2 F (by rw [hcu2];omega) _ _ _ _ _) rfl rfl) fun fa hS=>?_;refine ov hS rfl (Z5m hS rfl) fun fa hS=>?_;refine oe ?_;refine ZL hS rfl rfl ?_
 refine wp_seq_k fun O G=>?_;refine Zwd (fl:=#[true,true,true,true,true,true,true,true,false]) Zlq (by kernel_rfl) hS ?_;intro ops hops hF wo hS;refine rf hops hF 0 rfl (by kernel_rfl) rfl hS (Zw hS rfl) fun fa hS=>?_;refine rf hops hF 1 rfl (by kernel_rfl) rfl hS (Zw hS rfl) fun fa hS=>?_;refine rf hops hF 2 rfl (by kernel_rfl) rfl hS (Zw hS rfl) fun fa hS=>?_;refine rf hops hF 3 rfl (by kernel_rfl) rfl hS (Ze hS rfl rfl (Zna (show chk .i64 ((i:Int)+((1:Nat):Int))=some ((i+1:Nat):Int) by rw [Zz (by omega) (by omega)];rfl))) fun fa hS=>?_;refine rf hops hF 4 rfl (by kernel_rfl) rfl hS (Zff hS Z2b rfl rfl (by omega) (by omega)) fun fa hS=>?_;refine rf hops hF 5 rfl (by kernel_rfl) rfl hS (Zw hS rfl) fun fa hS=>?_;refine rf hops hF 6 rfl (by kernel_rfl) rfl hS (Zw hS rfl) fun fa hS=>?_;refine rf hops hF 7 rfl (by kernel_rfl) rfl hS (Zff hS Z2b rfl rfl (by omega) (by omega)) fun fa hS=>?_;rw [Nat.zero_add,Nat.zero_add] at hS;have hsrc:∀ j u,(cs.drop (i*6))[j]? = some u→wo.cell? ((⟨b,i*6,none⟩:Addr).add j)=some u:=fun j u hu=>by
  rw [List.getElem?_drop] at hu;have hlt:=(List.getElem?_eq_some_iff.1 hu).1;have:=ZZh hS (j:=0) rfl (i*6+j) u (by rw [List.getElem?_append_left hlt];exact hu);rw [ZQa] at this ⊢;rw [Nat.zero_add] at this;exact this
 obtain ⟨wo',hr,hS'⟩:=ZDj (t:=24) (sT:=24) ZIf hS (i:=0) rfl (p:=i+1) (k:=n-i) (c:=cs.drop (i*6)) (by rw [List.length_drop];omega) (by omega) (by rw [List.all_eq_true];intro y hy;exact List.all_eq_true.1 (ZWf hA) y (List.mem_of_mem_drop hy)) (ad:=⟨b,i*6,none⟩) (sLen:=n+1-i) (sCap:=cap-i) (dLen:=n+1-(i+1)) (dCap:=cap-(i+1)) hsrc (by show min (n+1-i) (n+1-(i+1))=n-i;omega);refine ZLl hops hF 8 (by kernel_rfl) ?_;refine ZIp [4,7,0,3,5,6,1,2] [] hops rfl (by kernel_rfl) wn rfl zl (Zfi hS rfl rfl (hr _)) hS' fun fa hS=>?_;refine ⟨Zuc,?_⟩;refine Zon hops hF (by kernel_rfl) ?_;refine Zf (G _ _ ?_);refine sr ?_;refine mv hS rfl fun fa hS=>?_;refine mv hS rfl fun fa hS=>?_;refine ov hS rfl (Zff hS Z2b rfl rfl (by omega) (by omega)) fun fa hS=>?_;refine mv hS rfl fun fa hS=>?_;rw [Nat.zero_add] at hS;obtain ⟨wo,hr,hS'⟩:=ZDj (t:=24) (sT:=24) ZIf hS (i:=0) rfl (p:=i) (k:=1) (c:=d) (by omega) (by omega) (rCh.flat hx) (ad:=⟨bv,0,none⟩) (sLen:=1) (sCap:=kv) (dLen:=n+1-i) (dCap:=cap-i) (src1 hS (Zb.le_refl _)) (by show min 1 (n+1-i)=1;omega);refine Zob wn rfl zl (Zfi hS rfl rfl (hr _)) hS' fun fa hS=>?_;refine oe ?_;refine sr ?_;refine mv hS rfl fun fa hS=>?_;refine mw hS rfl fun fa hS=>?_;refine oe ?_;refine wp_ret ?_;refine ZMa ?_;refine ZOm hS (i:=0) rfl (ZKa rfl (ZT hS rfl)) ?_ hflen
 rw [ZIr hcs h hin hex];exact hfin (Zb.le_refl _)
end Go.Eng
set_option maxRecDepth 100000
set_option maxHeartbeats 4000000
namespace Go.Eng
open Go.Proofs Go.RowKit
def ZIk:FuncId×ConI:=(36,⟨48,.pair (.leaf 3) (.leaf 3),fun l i x=>insF l i x⟩)
theorem Z5r:Z1h Tryz.prog ZIk.1 ZIk.2:=fun w v ob n cap cs l i bv kv c0 x z hv hh hnv hA hn hkv hbv hx hi hz=>by
 have hz:insF l i x=some z:=hz
 unfold insF at hz
 split at hz
 ·rename_i hc
  cases hz
  obtain ⟨h0,h1,h2⟩:=hc
  obtain ⟨j,rfl⟩:=Int.eq_ofNat_of_zero_le h0
  have:=Zkv (kv:=kv) hv hh hnv hA hn (i:=j) (Int.ofNat_le.1 h1) hbv rfl hx h2
  exact ⟨fun _ _=>by kernel_rfl,this⟩
 ·cases hz
end Go.Eng
set_option maxRecDepth 100000
set_option maxHeartbeats 4000000
namespace Go.Eng
open Go.Proofs Go.RowKit
noncomputable def Ztj:FuncId×Con:=(7,⟨[.slice (.pair (.leaf 3) (.leaf 3)),.slice (.pair (.leaf 3) (.leaf 3))],[.slice (.pair (.leaf 3) (.leaf 3)),.int .i64],fun p=>ZRe p.1 p.2⟩)
theorem Sum_i (p:(List (Rat×Rat))) (q:(List (Rat×Rat))):Zo ⟨Tryz.prog,[(32,0),(34,2),(36,3),(40,1),(42,4)],[Zpb,Zpc,ZGf,Zvk],[],[],[ZIk],[]⟩ [(33,Tryz.f33,.cut ⟨⟨[],[],[]⟩,[(.norm,⟨[],[.fld (.sl 2) 0],[.l (.sl 2) (.box 24 (.own 48 (.pair (.leaf 3) (.leaf 3))))]⟩)]⟩ (.two .no (.two .no (.two (.two .no (.cut ⟨⟨[],[],[]⟩,[(.norm,⟨[2,4,5],[.fld (.sl 2) 0],[.l (.sl 2) (.box 24 (.own 48 (.pair (.leaf 3) (.leaf 3))))]⟩)]⟩ .no)) .no)))),(34,Tryz.f34,.cut ⟨⟨[],[],[]⟩,[(.ret,⟨[],[],[.s 0 (.dat (.int .i64)),.s 0 (.dat .bool)]⟩)]⟩ (.two .no (.two .no (.two .no (.two (.cut ⟨⟨[],[],[]⟩,[(.norm,⟨[0,2,4,8],[],[.s 9 (.dat (.int .i64))]⟩)]⟩ (.two (.cut ⟨⟨[0,2,4,8],[],[.s 9 (.dat (.int .i64)),.s 10 (.dat (.int .i64))]⟩,[(.exit 0,⟨[0,2,4,8],[],[.s 9 (.dat (.int .i64))]⟩)]⟩ (.two (.two .no (.two (.two .no (.two .no (.cut ⟨⟨[],[],[]⟩,[(.norm,⟨[0,2,4,8],[],[.s 9 (.dat (.int .i64)),.s 10 (.dat (.int .i64))]⟩)]⟩ .no))) .no)) .no)) .no)) (.two (.cut ⟨⟨[],[],[]⟩,[(.norm,⟨[],[],[.s 6 (.dat (.int .i64)),.s 7 (.dat .bool)]⟩)]⟩ .no) .no))))))] Tryz.f7 (.two .no (.two (.two .no (.two (.cut ⟨⟨[0,1,17,18],[],[.s 19 (.dat (.int .i64))]⟩,[(.ret,⟨[],[],[.s 0 (.dat (.slice (.pair (.leaf 3) (.leaf 3)))),.s 0 (.dat (.int .i64))]⟩),(.exit 0,⟨[0,1],[],[]⟩)]⟩ .no) .no)) (.two .no (.two .no (.two (.two .no (.two (.cut ⟨⟨[1,9,10,30,31],[.fld (.sl 9) 0],[.s 32 (.dat (.int .i64)),.l (.sl 9) (.box 24 (.own 48 (.pair (.leaf 3) (.leaf 3))))]⟩,[(.exit 2,⟨[9],[.fld (.sl 9) 0],[.l (.sl 9) (.box 24 (.own 48 (.pair (.leaf 3) (.leaf 3))))]⟩)]⟩ (.two (.two .no (.two .no (.two (.two (.two .no (.two .no (.two (.cut ⟨⟨[1,9,10,12,30,31,32,36,37],[.fld (.sl 9) 0],[.s 38 (.dat (.int .i64)),.l (.sl 9) (.box 24 (.own 48 (.pair (.leaf 3) (.leaf 3))))]⟩,[(.exit 4,⟨[1,9,10,30,31,32],[.fld (.sl 9) 0],[.l (.sl 9) (.box 24 (.own 48 (.pair (.leaf 3) (.leaf 3))))]⟩)]⟩ .no) .no))) .no) .no))) .no)) .no)) .no))))) [.slice (.pair (.leaf 3) (.leaf 3)),.slice (.pair (.leaf 3) (.leaf 3))] [.slice (.pair (.leaf 3) (.leaf 3)),.int .i64] (p,q)=ZRe p q:=by kernel_rfl
theorem Sum_k:Zm Tryz.prog Ztj.1 Ztj.2:=Zq (C:=⟨Tryz.prog,[(32,0),(34,2),(36,3),(40,1),(42,4)],[Zpb,Zpc,ZGf,Zvk],[],[],[ZIk],[]⟩) ⟨ZBf,Zbi,Zup,sum11_k,trivial⟩ trivial ⟨Z5r,trivial⟩ trivial (inl:=[(33,Tryz.f33,.cut ⟨⟨[],[],[]⟩,[(.norm,⟨[],[.fld (.sl 2) 0],[.l (.sl 2) (.box 24 (.own 48 (.pair (.leaf 3) (.leaf 3))))]⟩)]⟩ (.two .no (.two .no (.two (.two .no (.cut ⟨⟨[],[],[]⟩,[(.norm,⟨[2,4,5],[.fld (.sl 2) 0],[.l (.sl 2) (.box 24 (.own 48 (.pair (.leaf 3) (.leaf 3))))]⟩)]⟩ .no)) .no)))),(34,Tryz.f34,.cut ⟨⟨[],[],[]⟩,[(.ret,⟨[],[],[.s 0 (.dat (.int .i64)),.s 0 (.dat .bool)]⟩)]⟩ (.two .no (.two .no (.two .no (.two (.cut ⟨⟨[],[],[]⟩,[(.norm,⟨[0,2,4,8],[],[.s 9 (.dat (.int .i64))]⟩)]⟩ (.two (.cut ⟨⟨[0,2,4,8],[],[.s 9 (.dat (.int .i64)),.s 10 (.dat (.int .i64))]⟩,[(.exit 0,⟨[0,2,4,8],[],[.s 9 (.dat (.int .i64))]⟩)]⟩ (.two (.two .no (.two (.two .no (.two .no (.cut ⟨⟨[],[],[]⟩,[(.norm,⟨[0,2,4,8],[],[.s 9 (.dat (.int .i64)),.s 10 (.dat (.int .i64))]⟩)]⟩ .no))) .no)) .no)) .no)) (.two (.cut ⟨⟨[],[],[]⟩,[(.norm,⟨[],[],[.s 6 (.dat (.int .i64)),.s 7 (.dat .bool)]⟩)]⟩ .no) .no))))))]) ⟨⟨Tryz.func33,fun _ _=>by kernel_rfl⟩,⟨Tryz.func34,fun _ _=>by kernel_rfl⟩,trivial⟩ (ann:=.two .no (.two (.two .no (.two (.cut ⟨⟨[0,1,17,18],[],[.s 19 (.dat (.int .i64))]⟩,[(.ret,⟨[],[],[.s 0 (.dat (.slice (.pair (.leaf 3) (.leaf 3)))),.s 0 (.dat (.int .i64))]⟩),(.exit 0,⟨[0,1],[],[]⟩)]⟩ .no) .no)) (.two .no (.two .no (.two (.two .no (.two (.cut ⟨⟨[1,9,10,30,31],[.fld (.sl 9) 0],[.s 32 (.dat (.int .i64)),.l (.sl 9) (.box 24 (.own 48 (.pair (.leaf 3) (.leaf 3))))]⟩,[(.exit 2,⟨[9],[.fld (.sl 9) 0],[.l (.sl 9) (.box 24 (.own 48 (.pair (.leaf 3) (.leaf 3))))]⟩)]⟩ (.two (.two .no (.two .no (.two (.two (.two .no (.two .no (.two (.cut ⟨⟨[1,9,10,12,30,31,32,36,37],[.fld (.sl 9) 0],[.s 38 (.dat (.int .i64)),.l (.sl 9) (.box 24 (.own 48 (.pair (.leaf 3) (.leaf 3))))]⟩,[(.exit 4,⟨[1,9,10,30,31,32],[.fld (.sl 9) 0],[.l (.sl 9) (.box 24 (.own 48 (.pair (.leaf 3) (.leaf 3))))]⟩)]⟩ .no) .no))) .no) .no))) .no)) .no)) .no))))) Tryz.func7 (fun _ _=>by kernel_rfl) rfl fun v vals x z ha hz=>(Sum_i x.1 x.2).trans (hz)
end Go.Eng
set_option maxRecDepth 100000
set_option maxHeartbeats 4000000
namespace Go.Eng
open Go.Proofs Go.RowKit
noncomputable def Zkk:FuncId×Con:=(8,⟨[.slice (.pair (.leaf 3) (.leaf 3))],[.leaf 3,.leaf 3,.int .i64],fun p=>Zwf p⟩)
theorem Z3r (d:(List (Rat×Rat))):Zo ⟨Tryz.prog,[(32,0),(34,2),(36,3),(40,1),(42,4)],[Zpb,Zpc,ZGf,Znc],[],[],[],[]⟩ [] Tryz.f8 (.two .no (.two .no (.two (.two .no (.cut ⟨⟨[],[],[]⟩,[(.norm,⟨[0,2,3],[],[.l (.sl 2) (.box 36 (.dat (.leaf 3)))]⟩)]⟩ (.two (.cut ⟨⟨[0,2,3,18,19],[],[.l (.sl 2) (.box 36 (.dat (.leaf 3))),.s 20 (.dat (.int .i64))]⟩,[(.exit 0,⟨[0,2,3],[],[.l (.sl 2) (.box 36 (.dat (.leaf 3)))]⟩)]⟩ .no) .no))) (.two (.two .no (.cut ⟨⟨[],[],[]⟩,[(.norm,⟨[2,3],[],[.l (.sl 3) (.box 36 (.dat (.leaf 3)))]⟩)]⟩ (.two (.cut ⟨⟨[2,3,32,33],[],[.l (.sl 3) (.box 36 (.dat (.leaf 3))),.s 34 (.dat (.int .i64))]⟩,[(.exit 2,⟨[2,3],[],[.l (.sl 3) (.box 36 (.dat (.leaf 3)))]⟩)]⟩ .no) .no))) .no)))) [.slice (.pair (.leaf 3) (.leaf 3))] [.leaf 3,.leaf 3,.int .i64] (d)=Zwf d:=by kernel_rfl
theorem ZTr:Zm Tryz.prog Zkk.1 Zkk.2:=Zq (C:=⟨Tryz.prog,[(32,0),(34,2),(36,3),(40,1),(42,4)],[Zpb,Zpc,ZGf,Znc],[],[],[],[]⟩) ⟨ZBf,Zbi,Zup,Zzh,trivial⟩ trivial trivial trivial (inl:=[]) trivial (ann:=.two .no (.two .no (.two (.two .no (.cut ⟨⟨[],[],[]⟩,[(.norm,⟨[0,2,3],[],[.l (.sl 2) (.box 36 (.dat (.leaf 3)))]⟩)]⟩ (.two (.cut ⟨⟨[0,2,3,18,19],[],[.l (.sl 2) (.box 36 (.dat (.leaf 3))),.s 20 (.dat (.int .i64))]⟩,[(.exit 0,⟨[0,2,3],[],[.l (.sl 2) (.box 36 (.dat (.leaf 3)))]⟩)]⟩ .no) .no))) (.two (.two .no (.cut ⟨⟨[],[],[]⟩,[(.norm,⟨[2,3],[],[.l (.sl 3) (.box 36 (.dat (.leaf 3)))]⟩)]⟩ (.two (.cut ⟨⟨[2,3,32,33],[],[.l (.sl 3) (.box 36 (.dat (.leaf 3))),.s 34 (.dat (.int .i64))]⟩,[(.exit 2,⟨[2,3],[],[.l (.sl 3) (.box 36 (.dat (.leaf 3)))]⟩)]⟩ .no) .no))) .no)))) Tryz.func8 (fun _ _=>by kernel_rfl) rfl fun v vals x z ha hz=>(Z3r x).trans (hz)
end Go.Eng
set_option maxRecDepth 100000
set_option maxHeartbeats 4000000
namespace Go.Eng
open Go.Proofs Go.RowKit
noncomputable def ZUf:FuncId×Con:=(38,⟨[],[.leaf 4],fun _=>Zkf⟩)
theorem zero8_i  : Zo ⟨Tryz.prog,[(32,0),(34,2),(36,3),(40,1),(42,4)],[Zpd],[],[],[],[]⟩ [] Tryz.f38 .no [] [.leaf 4] ()=Zkf  := by kernel_rfl
theorem Z9o:Zm Tryz.prog ZUf.1 ZUf.2:=Zq (C:=⟨Tryz.prog,[(32,0),(34,2),(36,3),(40,1),(42,4)],[Zpd],[],[],[],[]⟩) ⟨Zfk,trivial⟩ trivial trivial trivial (inl:=[]) trivial (ann:=.no) Tryz.func38 (fun _ _=>by kernel_rfl) rfl fun v vals x z ha hz=>(zero8_i ).trans (hz)
end Go.Eng
set_option maxRecDepth 100000
set_option maxHeartbeats 4000000
namespace Go.Eng
open Go.Proofs Go.RowKit
noncomputable def Zgg:FuncId×Con:=(75,⟨[.leaf 4],[.bool],fun p=>Zie p⟩)
theorem rzero_i (x:Rat):Zo ⟨Tryz.prog,[(40,1),(42,4)],[],[],[],[],[]⟩ [] Tryz.f75 .no [.leaf 4] [.bool] (x)=ZIm x:=by kernel_rfl
theorem Zep:Zm Tryz.prog Zgg.1 Zgg.2:=Zq (C:=⟨Tryz.prog,[(40,1),(42,4)],[],[],[],[],[]⟩) trivial trivial trivial trivial (inl:=[]) trivial (ann:=.no) Tryz.func75 (fun _ _=>by kernel_rfl) rfl fun v vals x z ha hz=>(rzero_i x).trans (ZYt hz)
end Go.Eng
set_option maxRecDepth 100000
set_option maxHeartbeats 4000000
namespace Go.Eng
open Go.Proofs Go.RowKit
noncomputable def ZYf:FuncId×Con:=(39,⟨[.leaf 4],[.int .i64],fun p=>Znf p⟩)
theorem rsign_i (x:Rat):Zo ⟨Tryz.prog,[(40,1),(42,4)],[Zgg],[],[],[],[]⟩ [] Tryz.f39 .no [.leaf 4] [.int .i64] (x)=Zyn x:=by kernel_rfl
theorem ZFp:Zm Tryz.prog ZYf.1 ZYf.2:=Zq (C:=⟨Tryz.prog,[(40,1),(42,4)],[Zgg],[],[],[],[]⟩) ⟨Zep,trivial⟩ trivial trivial trivial (inl:=[]) trivial (ann:=.no) Tryz.func39 (fun _ _=>by kernel_rfl) rfl fun v vals x z ha hz=>(rsign_i x).trans (Zsr hz)
end Go.Eng
set_option maxRecDepth 100000
set_option maxHeartbeats 4000000
namespace Go.Eng
open Go.Proofs Go.RowKit
noncomputable def Zjd:FuncId×Con:=(76,⟨[.leaf 4],[.leaf 1],fun p=>Zcc p⟩)
theorem ZPu (x:Rat):Zo ⟨Tryz.prog,[(40,1),(42,4)],[],[],[],[],[]⟩ [] Tryz.f76 .no [.leaf 4] [.leaf 1] (x)=ZFl x:=by kernel_rfl
theorem Zzi:Zm Tryz.prog Zjd.1 Zjd.2:=Zq (C:=⟨Tryz.prog,[(40,1),(42,4)],[],[],[],[],[]⟩) trivial trivial trivial trivial (inl:=[]) trivial (ann:=.no) Tryz.func76 (fun _ _=>by kernel_rfl) rfl fun v vals x z ha hz=>(ZPu x).trans (Zpr hz)
end Go.Eng
set_option maxRecDepth 100000
set_option maxHeartbeats 4000000
namespace Go.Eng
open Go.Proofs Go.RowKit
noncomputable def ZEk:FuncId×Con:=(79,⟨[.leaf 1,.leaf 1],[.leaf 1],fun p=>ZTf p.1 p.2⟩)
theorem rsum_i (a:Nat) (b:Nat):Zo ⟨Tryz.prog,[(40,1),(42,4)],[Zdb],[],[],[],[]⟩ [] Tryz.f79 (.two .no (.two .no (.two .no (.two (.two .no (.cut ⟨⟨[],[],[]⟩,[(.norm,⟨[],[],[.s 5 (.own 140 (.int .u32)),.s 6 (.dat (.int .u64))]⟩)]⟩ (.two (.cut ⟨⟨[0,1],[],[.s 5 (.own 140 (.int .u32)),.s 6 (.dat (.int .u64)),.s 7 (.dat (.int .i64))]⟩,[(.exit 0,⟨[],[],[.s 5 (.own 140 (.int .u32)),.s 6 (.dat (.int .u64))]⟩)]⟩ (.two (.two (.two (.cut ⟨⟨[],[],[]⟩,[(.norm,⟨[0,1,5,6,7],[],[.s 18 (.dat .bool)]⟩)]⟩ .no) .no) (.two (.two (.two (.two .no (.cut ⟨⟨[],[],[]⟩,[(.norm,⟨[0,1,5,7],[],[.s 6 (.dat (.int .u64))]⟩)]⟩ .no)) (.two (.two .no (.cut ⟨⟨[],[],[]⟩,[(.norm,⟨[0,1,5,7],[],[.s 6 (.dat (.int .u64))]⟩)]⟩ .no)) .no)) .no) .no)) .no)) .no))) .no)))) [.leaf 1,.leaf 1] [.leaf 1] (a,b)=ZWk a b:=by kernel_rfl
theorem rsum_k:Zm Tryz.prog ZEk.1 ZEk.2:=Zq (C:=⟨Tryz.prog,[(40,1),(42,4)],[Zdb],[],[],[],[]⟩) ⟨Zue,trivial⟩ trivial trivial trivial (inl:=[]) trivial (ann:=.two .no (.two .no (.two .no (.two (.two .no (.cut ⟨⟨[],[],[]⟩,[(.norm,⟨[],[],[.s 5 (.own 140 (.int .u32)),.s 6 (.dat (.int .u64))]⟩)]⟩ (.two (.cut ⟨⟨[0,1],[],[.s 5 (.own 140 (.int .u32)),.s 6 (.dat (.int .u64)),.s 7 (.dat (.int .i64))]⟩,[(.exit 0,⟨[],[],[.s 5 (.own 140 (.int .u32)),.s 6 (.dat (.int .u64))]⟩)]⟩ (.two (.two (.two (.cut ⟨⟨[],[],[]⟩,[(.norm,⟨[0,1,5,6,7],[],[.s 18 (.dat .bool)]⟩)]⟩ .no) .no) (.two (.two (.two (.two .no (.cut ⟨⟨[],[],[]⟩,[(.norm,⟨[0,1,5,7],[],[.s 6 (.dat (.int .u64))]⟩)]⟩ .no)) (.two (.two .no (.cut ⟨⟨[],[],[]⟩,[(.norm,⟨[0,1,5,7],[],[.s 6 (.dat (.int .u64))]⟩)]⟩ .no)) .no)) .no) .no)) .no)) .no))) .no)))) Tryz.func79 (fun _ _=>by kernel_rfl) rfl fun v vals x z ha hz=>(rsum_i x.1 x.2).trans (Zrt hz)
end Go.Eng
set_option maxRecDepth 100000
set_option maxHeartbeats 4000000
namespace Go.Eng
open Go.Proofs Go.RowKit
noncomputable def Zbd:FuncId×Con:=(40,⟨[.leaf 4,.leaf 4],[.leaf 4],fun p=>Zvb p.1 p.2⟩)
theorem radd_i (x:Rat) (y:Rat):Zo ⟨Tryz.prog,[(40,1),(42,4)],[Zjd,ZVe,ZGc,ZEk,ZBe,ZSg],[],[],[],[]⟩ [] Tryz.f40 .no [.leaf 4,.leaf 4] [.leaf 4] (x,y)=ZDi x y:=by kernel_rfl
theorem Zui:Zm Tryz.prog Zbd.1 Zbd.2:=Zq (C:=⟨Tryz.prog,[(40,1),(42,4)],[Zjd,ZVe,ZGc,ZEk,ZBe,ZSg],[],[],[],[]⟩) ⟨Zzi,ZDm,Z6g,rsum_k,Zen,Zio,trivial⟩ trivial trivial trivial (inl:=[]) trivial (ann:=.no) Tryz.func40 (fun _ _=>by kernel_rfl) rfl fun v vals x z ha hz=>(radd_i x.1 x.2).trans (Z8s hz)
end Go.Eng
set_option maxRecDepth 100000
set_option maxHeartbeats 4000000
namespace Go.Eng
open Go.Proofs Go.RowKit
noncomputable def ZRi:FuncId×Con:=(82,⟨[.leaf 4],[.leaf 4],fun p=>Z7g p⟩)
theorem rneg_i (x:Rat):Zo ⟨Tryz.prog,[(40,1),(42,4)],[Zjd,ZGc],[],[],[],[]⟩ [] Tryz.f82 .no [.leaf 4] [.leaf 4] (x)=Zkj x:=by kernel_rfl
theorem rneg_k:Zm Tryz.prog ZRi.1 ZRi.2:=Zq (C:=⟨Tryz.prog,[(40,1),(42,4)],[Zjd,ZGc],[],[],[],[]⟩) ⟨Zzi,Z6g,trivial⟩ trivial trivial trivial (inl:=[]) trivial (ann:=.no) Tryz.func82 (fun _ _=>by kernel_rfl) rfl fun v vals x z ha hz=>(rneg_i x).trans (Zxr hz)
end Go.Eng
set_option maxRecDepth 100000
set_option maxHeartbeats 4000000
namespace Go.Eng
open Go.Proofs Go.RowKit
noncomputable def ZLg:FuncId×Con:=(44,⟨[.leaf 4,.leaf 4],[.leaf 4],fun p=>ZLe p.1 p.2⟩)
theorem rsub_i (x:Rat) (y:Rat):Zo ⟨Tryz.prog,[(40,1),(42,4)],[Zbd,ZRi],[],[],[],[]⟩ [] Tryz.f44 .no [.leaf 4,.leaf 4] [.leaf 4] (x,y)=Zjm x y:=by kernel_rfl
theorem ZCp:Zm Tryz.prog ZLg.1 ZLg.2:=Zq (C:=⟨Tryz.prog,[(40,1),(42,4)],[Zbd,ZRi],[],[],[],[]⟩) ⟨Zui,rneg_k,trivial⟩ trivial trivial trivial (inl:=[]) trivial (ann:=.no) Tryz.func44 (fun _ _=>by kernel_rfl) rfl fun v vals x z ha hz=>(rsub_i x.1 x.2).trans (Zst hz)
end Go.Eng
set_option maxRecDepth 100000
set_option maxHeartbeats 4000000
namespace Go.Eng
open Go.Proofs Go.RowKit
noncomputable def Z4f:FuncId×Con:=(46,⟨[.leaf 4,.leaf 4],[.int .i64],fun p=>ZHd p.1 p.2⟩)
theorem rcmp_i (x:Rat) (y:Rat):Zo ⟨Tryz.prog,[(40,1),(42,4)],[ZYf,ZLg],[],[],[],[]⟩ [] Tryz.f46 .no [.leaf 4,.leaf 4] [.int .i64] (x,y)=ZMm x y:=by kernel_rfl
theorem Zrp:Zm Tryz.prog Z4f.1 Z4f.2:=Zq (C:=⟨Tryz.prog,[(40,1),(42,4)],[ZYf,ZLg],[],[],[],[]⟩) ⟨ZFp,ZCp,trivial⟩ trivial trivial trivial (inl:=[]) trivial (ann:=.no) Tryz.func46 (fun _ _=>by kernel_rfl) rfl fun v vals x z ha hz=>(rcmp_i x.1 x.2).trans (ZTu hz)
end Go.Eng
set_option maxRecDepth 100000
set_option maxHeartbeats 4000000
namespace Go.Eng
open Go.Proofs Go.RowKit
noncomputable def ZXf:FuncId×Con:=(41,⟨[.leaf 4,.leaf 4],[.bool],fun p=>ZKd p.1 p.2⟩)
theorem rsame_i (x:Rat) (y:Rat):Zo ⟨Tryz.prog,[(40,1),(42,4)],[Z4f],[],[],[],[]⟩ [] Tryz.f41 .no [.leaf 4,.leaf 4] [.bool] (x,y)=ZVm x y:=by kernel_rfl
theorem ZFo:Zm Tryz.prog ZXf.1 ZXf.2:=Zq (C:=⟨Tryz.prog,[(40,1),(42,4)],[Z4f],[],[],[],[]⟩) ⟨Zrp,trivial⟩ trivial trivial trivial (inl:=[]) trivial (ann:=.no) Tryz.func41 (fun _ _=>by kernel_rfl) rfl fun v vals x z ha hz=>(rsame_i x.1 x.2).trans (ZAs hz)
end Go.Eng
set_option maxRecDepth 100000
set_option maxHeartbeats 4000000
namespace Go.Eng
open Go.Proofs Go.RowKit
noncomputable def Zyk:FuncId×Con:=(42,⟨[],[.leaf 4],fun _=>Z8h⟩)
theorem one8_i  : Zo ⟨Tryz.prog,[(32,0),(34,2),(36,3),(40,1),(42,4)],[Zpd],[],[],[],[]⟩ [] Tryz.f42 .no [] [.leaf 4] ()=Z8h  := by kernel_rfl
theorem one8_k:Zm Tryz.prog Zyk.1 Zyk.2:=Zq (C:=⟨Tryz.prog,[(32,0),(34,2),(36,3),(40,1),(42,4)],[Zpd],[],[],[],[]⟩) ⟨Zfk,trivial⟩ trivial trivial trivial (inl:=[]) trivial (ann:=.no) Tryz.func42 (fun _ _=>by kernel_rfl) rfl fun v vals x z ha hz=>(one8_i ).trans (hz)
end Go.Eng
set_option maxRecDepth 100000
set_option maxHeartbeats 4000000
namespace Go.Eng
open Go.Proofs Go.RowKit
noncomputable def ZSj:FuncId×Con:=(9,⟨[.slice (.pair (.leaf 4) (.leaf 4))],[.int .i64],fun p=>ZIg p⟩)
theorem ZPs (d:(List (Rat×Rat))):Zo ⟨Tryz.prog,[(32,0),(34,2),(36,3),(40,1),(42,4)],[ZUf,ZYf,Zbd,ZXf,Zyk],[],[],[],[]⟩ [] Tryz.f9 (.two .no (.two (.two (.cut ⟨⟨[],[],[]⟩,[(.norm,⟨[0],[],[.s 12 (.dat .bool)]⟩)]⟩ .no) .no) (.two .no (.two (.two .no (.cut ⟨⟨[],[],[]⟩,[(.norm,⟨[3],[],[.l (.sl 3) (.box 42 (.dat (.leaf 4)))]⟩),(.ret,⟨[],[],[.s 0 (.dat (.int .i64))]⟩)]⟩ (.two (.cut ⟨⟨[0,3],[],[.l (.sl 3) (.box 42 (.dat (.leaf 4))),.s 4 (.dat (.int .i64))]⟩,[(.ret,⟨[],[],[.s 0 (.dat (.int .i64))]⟩),(.exit 0,⟨[3],[],[.l (.sl 3) (.box 42 (.dat (.leaf 4)))]⟩)]⟩ .no) .no))) .no)))) [.slice (.pair (.leaf 4) (.leaf 4))] [.int .i64] (d)=ZIg d:=by kernel_rfl
theorem Zuu:Zm Tryz.prog ZSj.1 ZSj.2:=Zq (C:=⟨Tryz.prog,[(32,0),(34,2),(36,3),(40,1),(42,4)],[ZUf,ZYf,Zbd,ZXf,Zyk],[],[],[],[]⟩) ⟨Z9o,ZFp,Zui,ZFo,one8_k,trivial⟩ trivial trivial trivial (inl:=[]) trivial (ann:=.two .no (.two (.two (.cut ⟨⟨[],[],[]⟩,[(.norm,⟨[0],[],[.s 12 (.dat .bool)]⟩)]⟩ .no) .no) (.two .no (.two (.two .no (.cut ⟨⟨[],[],[]⟩,[(.norm,⟨[3],[],[.l (.sl 3) (.box 42 (.dat (.leaf 4)))]⟩),(.ret,⟨[],[],[.s 0 (.dat (.int .i64))]⟩)]⟩ (.two (.cut ⟨⟨[0,3],[],[.l (.sl 3) (.box 42 (.dat (.leaf 4))),.s 4 (.dat (.int .i64))]⟩,[(.ret,⟨[],[],[.s 0 (.dat (.int .i64))]⟩),(.exit 0,⟨[3],[],[.l (.sl 3) (.box 42 (.dat (.leaf 4)))]⟩)]⟩ .no) .no))) .no)))) Tryz.func9 (fun _ _=>by kernel_rfl) rfl fun v vals x z ha hz=>(ZPs x).trans (hz)
end Go.Eng
set_option maxRecDepth 100000
set_option maxHeartbeats 4000000
namespace Go.Eng
open Go.Proofs Go.RowKit
noncomputable def Zvg:FuncId×Con:=(43,⟨[.leaf 4,.leaf 4],[.leaf 4],fun p=>ZBc p.1 p.2⟩)
theorem rmul_i (x:Rat) (y:Rat):Zo ⟨Tryz.prog,[(40,1),(42,4)],[Zjd,ZVe,ZGc],[],[],[],[]⟩ [] Tryz.f43 .no [.leaf 4,.leaf 4] [.leaf 4] (x,y)=Zxl x y:=by kernel_rfl
theorem ZAp:Zm Tryz.prog Zvg.1 Zvg.2:=Zq (C:=⟨Tryz.prog,[(40,1),(42,4)],[Zjd,ZVe,ZGc],[],[],[],[]⟩) ⟨Zzi,ZDm,Z6g,trivial⟩ trivial trivial trivial (inl:=[]) trivial (ann:=.no) Tryz.func43 (fun _ _=>by kernel_rfl) rfl fun v vals x z ha hz=>(rmul_i x.1 x.2).trans (ZIt hz)
end Go.Eng
set_option maxRecDepth 100000
set_option maxHeartbeats 4000000
namespace Go.Eng
open Go.Proofs Go.RowKit
noncomputable def Zwj:FuncId×Con:=(11,⟨[.slice (.pair (.leaf 4) (.leaf 4))],[.leaf 4,.leaf 4],fun p=>ZXh p⟩)
theorem Zzr (d:(List (Rat×Rat))):Zo ⟨Tryz.prog,[(32,0),(34,2),(36,3),(40,1),(42,4)],[ZUf,Zbd,Zvg,ZLg],[],[],[],[]⟩ [] Tryz.f11 (.two .no (.two .no (.two (.two .no (.cut ⟨⟨[],[],[]⟩,[(.norm,⟨[0,2,3,4,5],[],[.l (.sl 4) (.box 42 (.dat (.leaf 4)))]⟩)]⟩ (.two (.cut ⟨⟨[0,2,3,4,5],[],[.l (.sl 4) (.box 42 (.dat (.leaf 4))),.s 6 (.dat (.int .i64))]⟩,[(.exit 0,⟨[0,2,3,4,5],[],[.l (.sl 4) (.box 42 (.dat (.leaf 4)))]⟩)]⟩ .no) .no))) (.two (.two .no (.cut ⟨⟨[],[],[]⟩,[(.norm,⟨[2,3,4,5],[],[.l (.sl 5) (.box 42 (.dat (.leaf 4)))]⟩)]⟩ (.two (.cut ⟨⟨[0,2,3,4,5],[],[.l (.sl 5) (.box 42 (.dat (.leaf 4))),.s 7 (.dat (.int .i64))]⟩,[(.exit 2,⟨[2,3,4,5],[],[.l (.sl 5) (.box 42 (.dat (.leaf 4)))]⟩)]⟩ (.two (.two .no (.two (.two (.two (.cut ⟨⟨[],[],[]⟩,[(.norm,⟨[0,2,3,4,5,7],[],[.s 8 (.box 42 (.dat (.leaf 4)))]⟩)]⟩ .no) .no) .no) .no)) .no)) .no))) .no)))) [.slice (.pair (.leaf 4) (.leaf 4))] [.leaf 4,.leaf 4] (d)=ZXh d:=by kernel_rfl
theorem Z7s:Zm Tryz.prog Zwj.1 Zwj.2:=Zq (C:=⟨Tryz.prog,[(32,0),(34,2),(36,3),(40,1),(42,4)],[ZUf,Zbd,Zvg,ZLg],[],[],[],[]⟩) ⟨Z9o,Zui,ZAp,ZCp,trivial⟩ trivial trivial trivial (inl:=[]) trivial (ann:=.two .no (.two .no (.two (.two .no (.cut ⟨⟨[],[],[]⟩,[(.norm,⟨[0,2,3,4,5],[],[.l (.sl 4) (.box 42 (.dat (.leaf 4)))]⟩)]⟩ (.two (.cut ⟨⟨[0,2,3,4,5],[],[.l (.sl 4) (.box 42 (.dat (.leaf 4))),.s 6 (.dat (.int .i64))]⟩,[(.exit 0,⟨[0,2,3,4,5],[],[.l (.sl 4) (.box 42 (.dat (.leaf 4)))]⟩)]⟩ .no) .no))) (.two (.two .no (.cut ⟨⟨[],[],[]⟩,[(.norm,⟨[2,3,4,5],[],[.l (.sl 5) (.box 42 (.dat (.leaf 4)))]⟩)]⟩ (.two (.cut ⟨⟨[0,2,3,4,5],[],[.l (.sl 5) (.box 42 (.dat (.leaf 4))),.s 7 (.dat (.int .i64))]⟩,[(.exit 2,⟨[2,3,4,5],[],[.l (.sl 5) (.box 42 (.dat (.leaf 4)))]⟩)]⟩ (.two (.two .no (.two (.two (.two (.cut ⟨⟨[],[],[]⟩,[(.norm,⟨[0,2,3,4,5,7],[],[.s 8 (.box 42 (.dat (.leaf 4)))]⟩)]⟩ .no) .no) .no) .no)) .no)) .no))) .no)))) Tryz.func11 (fun _ _=>by kernel_rfl) rfl fun v vals x z ha hz=>(Zzr x).trans (hz)
end Go.Eng
set_option maxRecDepth 100000
set_option maxHeartbeats 4000000
namespace Go.Eng
open Go.Proofs Go.RowKit
noncomputable def Z1j:FuncId×Con:=(83,⟨[.leaf 1],[.str],fun p=>Zfg p⟩)
theorem Z4r (a:Nat):Zo ⟨Tryz.prog,[(40,1),(42,4)],[Zmg],[],[],[],[]⟩ [] Tryz.f83 (.two .no (.two .no (.two (.cut ⟨⟨[],[],[]⟩,[(.norm,⟨[],[],[.s 3 (.dat .str)]⟩)]⟩ (.two (.cut ⟨⟨[],[],[.s 0 (.dat (.leaf 1)),.s 3 (.dat .str)]⟩,[(.exit 0,⟨[],[],[.s 3 (.dat .str)]⟩)]⟩ (.two (.two .no (.two (.two .no (.two (.two .no (.cut ⟨⟨[],[],[]⟩,[(.norm,⟨[4],[],[.s 3 (.dat .str)]⟩)]⟩ (.two (.cut ⟨⟨[4],[],[.s 3 (.dat .str),.s 5 (.dat (.int .u32)),.s 6 (.dat (.int .i64))]⟩,[(.exit 2,⟨[4],[],[.s 3 (.dat .str)]⟩)]⟩ (.two (.two (.two (.cut ⟨⟨[],[],[]⟩,[(.norm,⟨[3,4,5,6],[],[.s 25 (.dat .bool)]⟩)]⟩ .no) .no) .no) .no)) .no))) .no)) .no)) .no)) .no)) .no))) [.leaf 1] [.str] (a)=Z3i a:=by kernel_rfl
theorem ZNv:Zm Tryz.prog Z1j.1 Z1j.2:=Zq (C:=⟨Tryz.prog,[(40,1),(42,4)],[Zmg],[],[],[],[]⟩) ⟨ZLp,trivial⟩ trivial trivial trivial (inl:=[]) trivial (ann:=.two .no (.two .no (.two (.cut ⟨⟨[],[],[]⟩,[(.norm,⟨[],[],[.s 3 (.dat .str)]⟩)]⟩ (.two (.cut ⟨⟨[],[],[.s 0 (.dat (.leaf 1)),.s 3 (.dat .str)]⟩,[(.exit 0,⟨[],[],[.s 3 (.dat .str)]⟩)]⟩ (.two (.two .no (.two (.two .no (.two (.two .no (.cut ⟨⟨[],[],[]⟩,[(.norm,⟨[4],[],[.s 3 (.dat .str)]⟩)]⟩ (.two (.cut ⟨⟨[4],[],[.s 3 (.dat .str),.s 5 (.dat (.int .u32)),.s 6 (.dat (.int .i64))]⟩,[(.exit 2,⟨[4],[],[.s 3 (.dat .str)]⟩)]⟩ (.two (.two (.two (.cut ⟨⟨[],[],[]⟩,[(.norm,⟨[3,4,5,6],[],[.s 25 (.dat .bool)]⟩)]⟩ .no) .no) .no) .no)) .no))) .no)) .no)) .no)) .no)) .no))) Tryz.func83 (fun _ _=>by kernel_rfl) rfl fun v vals x z ha hz=>(Z4r x).trans (ZLs hz)
end Go.Eng
set_option maxRecDepth 100000
set_option maxHeartbeats 4000000
namespace Go.Eng
open Go.Proofs Go.RowKit
noncomputable def Z1k:FuncId×Con:=(45,⟨[.leaf 4],[.str],fun p=>Zvh p⟩)
theorem rtext_i (x:Rat):Zo ⟨Tryz.prog,[(40,1),(42,4)],[Zgg,Zjd,ZBe,Z1j],[],[],[],[]⟩ [] Tryz.f45 (.two .no (.two .no (.two (.two (.cut ⟨⟨[],[],[]⟩,[(.norm,⟨[1,3],[],[.s 13 (.dat .bool)]⟩)]⟩ .no) (.cut ⟨⟨[],[],[]⟩,[(.norm,⟨[1],[],[.s 3 (.dat .str)]⟩)]⟩ .no)) (.two (.two .no (.cut ⟨⟨[],[],[]⟩,[(.norm,⟨[],[],[.s 3 (.dat .str)]⟩)]⟩ .no)) .no)))) [.leaf 4] [.str] (x)=Znn x:=by kernel_rfl
theorem rtext_k:Zm Tryz.prog Z1k.1 Z1k.2:=Zq (C:=⟨Tryz.prog,[(40,1),(42,4)],[Zgg,Zjd,ZBe,Z1j],[],[],[],[]⟩) ⟨Zep,Zzi,Zen,ZNv,trivial⟩ trivial trivial trivial (inl:=[]) trivial (ann:=.two .no (.two .no (.two (.two (.cut ⟨⟨[],[],[]⟩,[(.norm,⟨[1,3],[],[.s 13 (.dat .bool)]⟩)]⟩ .no) (.cut ⟨⟨[],[],[]⟩,[(.norm,⟨[1],[],[.s 3 (.dat .str)]⟩)]⟩ .no)) (.two (.two .no (.cut ⟨⟨[],[],[]⟩,[(.norm,⟨[],[],[.s 3 (.dat .str)]⟩)]⟩ .no)) .no)))) Tryz.func45 (fun _ _=>by kernel_rfl) rfl fun v vals x z ha hz=>(rtext_i x).trans (ZJs hz)
end Go.Eng
set_option maxRecDepth 100000
set_option maxHeartbeats 4000000
namespace Go.Eng
open Go.Proofs Go.RowKit
noncomputable def Znk:FuncId×Con:=(12,⟨[.leaf 3,.leaf 4],[.bool],fun p=>Z1e p.1 p.2⟩)
theorem is1_i (x:Rat) (y:Rat):Zo ⟨Tryz.prog,[(32,0),(34,2),(36,3),(40,1),(42,4)],[Zug,Z1k],[],[],[],[]⟩ [] Tryz.f12 .no [.leaf 3,.leaf 4] [.bool] (x,y)=Z1e x y:=by kernel_rfl
theorem is1_k:Zm Tryz.prog Znk.1 Znk.2:=Zq (C:=⟨Tryz.prog,[(32,0),(34,2),(36,3),(40,1),(42,4)],[Zug,Z1k],[],[],[],[]⟩) ⟨ZDq,rtext_k,trivial⟩ trivial trivial trivial (inl:=[]) trivial (ann:=.no) Tryz.func12 (fun _ _=>by kernel_rfl) rfl fun v vals x z ha hz=>(is1_i x.1 x.2).trans (hz)
end Go.Eng
set_option maxRecDepth 100000
set_option maxHeartbeats 4000000
namespace Go.Eng
open Go.Proofs Go.RowKit
noncomputable def Zxi:FuncId×Con:=(13,⟨[.slice (.pair (.leaf 4) (.leaf 4)),.slice (.pair (.leaf 4) (.leaf 4))],[.slice (.pair (.leaf 4) (.leaf 4))],fun p=>ZBh p.1 p.2⟩)
theorem rSum_i (p:(List (Rat×Rat))) (q:(List (Rat×Rat))):Zo ⟨Tryz.prog,[(40,1)],[Zbd,ZXf,Zvg,Z4f],[],[],[],[]⟩ [] Tryz.f13 (.two .no (.two .no (.two (.two .no (.two (.cut ⟨⟨[0,1],[],[.s 6 (.dat (.int .i64)),.s 5 (.own 50 (.pair (.pair .bool (.pair (.leaf 1) (.leaf 1))) (.pair .bool (.pair (.leaf 1) (.leaf 1)))))]⟩,[(.exit 0,⟨[],[],[.s 5 (.own 50 (.pair (.pair .bool (.pair (.leaf 1) (.leaf 1))) (.pair .bool (.pair (.leaf 1) (.leaf 1)))))]⟩)]⟩ (.two (.two .no (.two (.two (.two .no (.two (.cut ⟨⟨[0,1,6],[],[.s 7 (.dat (.int .i64)),.s 5 (.own 50 (.pair (.pair .bool (.pair (.leaf 1) (.leaf 1))) (.pair .bool (.pair (.leaf 1) (.leaf 1)))))]⟩,[(.exit 2,⟨[0,1,6],[],[.s 5 (.own 50 (.pair (.pair .bool (.pair (.leaf 1) (.leaf 1))) (.pair .bool (.pair (.leaf 1) (.leaf 1)))))]⟩)]⟩ (.two (.two .no (.two (.cut ⟨⟨[],[],[]⟩,[(.norm,⟨[0,1,6,7],[],[.s 5 (.own 50 (.pair (.pair .bool (.pair (.leaf 1) (.leaf 1))) (.pair .bool (.pair (.leaf 1) (.leaf 1)))))]⟩)]⟩ (.two (.two .no (.two .no (.two .no (.two (.two (.cut ⟨⟨[0,1,5,6,7,8,9],[],[.s 10 (.dat (.int .i64))]⟩,[(.exit 4,⟨[0,1,5,6,7,8,9],[],[.s 10 (.dat (.int .i64))]⟩)]⟩ .no) .no) (.two (.two (.cut ⟨⟨[],[],[]⟩,[(.norm,⟨[0,1,5,6,7,8,9,10],[],[.s 74 (.dat .bool)]⟩)]⟩ .no) .no) (.two .no (.two (.two .no (.two (.cut ⟨⟨[0,1,6,7,8,9,10],[],[.s 11 (.dat (.int .i64)),.s 5 (.own 50 (.pair (.pair .bool (.pair (.leaf 1) (.leaf 1))) (.pair .bool (.pair (.leaf 1) (.leaf 1)))))]⟩,[(.exit 6,⟨[0,1,6,7,8,9,10],[],[.s 5 (.own 50 (.pair (.pair .bool (.pair (.leaf 1) (.leaf 1))) (.pair .bool (.pair (.leaf 1) (.leaf 1)))))]⟩)]⟩ .no) .no)) .no))))))) .no)) .no)) .no)) .no)) .no) .no)) .no)) .no)) .no))) [.slice (.pair (.leaf 4) (.leaf 4)),.slice (.pair (.leaf 4) (.leaf 4))] [.slice (.pair (.leaf 4) (.leaf 4))] (p,q)=ZBh p q:=by kernel_rfl
theorem rSum_k:Zm Tryz.prog Zxi.1 Zxi.2:=Zq (C:=⟨Tryz.prog,[(40,1)],[Zbd,ZXf,Zvg,Z4f],[],[],[],[]⟩) ⟨Zui,ZFo,ZAp,Zrp,trivial⟩ trivial trivial trivial (inl:=[]) trivial (ann:=.two .no (.two .no (.two (.two .no (.two (.cut ⟨⟨[0,1],[],[.s 6 (.dat (.int .i64)),.s 5 (.own 50 (.pair (.pair .bool (.pair (.leaf 1) (.leaf 1))) (.pair .bool (.pair (.leaf 1) (.leaf 1)))))]⟩,[(.exit 0,⟨[],[],[.s 5 (.own 50 (.pair (.pair .bool (.pair (.leaf 1) (.leaf 1))) (.pair .bool (.pair (.leaf 1) (.leaf 1)))))]⟩)]⟩ (.two (.two .no (.two (.two (.two .no (.two (.cut ⟨⟨[0,1,6],[],[.s 7 (.dat (.int .i64)),.s 5 (.own 50 (.pair (.pair .bool (.pair (.leaf 1) (.leaf 1))) (.pair .bool (.pair (.leaf 1) (.leaf 1)))))]⟩,[(.exit 2,⟨[0,1,6],[],[.s 5 (.own 50 (.pair (.pair .bool (.pair (.leaf 1) (.leaf 1))) (.pair .bool (.pair (.leaf 1) (.leaf 1)))))]⟩)]⟩ (.two (.two .no (.two (.cut ⟨⟨[],[],[]⟩,[(.norm,⟨[0,1,6,7],[],[.s 5 (.own 50 (.pair (.pair .bool (.pair (.leaf 1) (.leaf 1))) (.pair .bool (.pair (.leaf 1) (.leaf 1)))))]⟩)]⟩ (.two (.two .no (.two .no (.two .no (.two (.two (.cut ⟨⟨[0,1,5,6,7,8,9],[],[.s 10 (.dat (.int .i64))]⟩,[(.exit 4,⟨[0,1,5,6,7,8,9],[],[.s 10 (.dat (.int .i64))]⟩)]⟩ .no) .no) (.two (.two (.cut ⟨⟨[],[],[]⟩,[(.norm,⟨[0,1,5,6,7,8,9,10],[],[.s 74 (.dat .bool)]⟩)]⟩ .no) .no) (.two .no (.two (.two .no (.two (.cut ⟨⟨[0,1,6,7,8,9,10],[],[.s 11 (.dat (.int .i64)),.s 5 (.own 50 (.pair (.pair .bool (.pair (.leaf 1) (.leaf 1))) (.pair .bool (.pair (.leaf 1) (.leaf 1)))))]⟩,[(.exit 6,⟨[0,1,6,7,8,9,10],[],[.s 5 (.own 50 (.pair (.pair .bool (.pair (.leaf 1) (.leaf 1))) (.pair .bool (.pair (.leaf 1) (.leaf 1)))))]⟩)]⟩ .no) .no)) .no))))))) .no)) .no)) .no)) .no)) .no) .no)) .no)) .no)) .no))) Tryz.func13 (fun _ _=>by kernel_rfl) rfl fun v vals x z ha hz=>(rSum_i x.1 x.2).trans (hz)
end Go.Eng
set_option maxRecDepth 100000
set_option maxHeartbeats 4000000
namespace Go.Eng
open Go.Proofs Go.RowKit
theorem sums8_i (p:(List ((Int×Int)×(Int×Int)))) (q:(List ((Int×Int)×(Int×Int)))):Zo ⟨Tryz.prog,[(32,0),(34,2),(36,3),(40,1),(42,4)],[ZQi,Zzk,Ztj,Zkk,ZSj,Zng,Zwj,Znk,Zxi],[],[],[],[]⟩ [] Tryz.f3 (.two .no (.two (.two (.cut ⟨⟨[],[],[]⟩,[(.norm,⟨[0,1],[],[.s 37 (.dat .bool)]⟩)]⟩ .no) .no) (.two .no (.two .no (.two .no (.two .no (.two .no (.two (.two .no (.two (.two (.cut ⟨⟨[],[],[]⟩,[(.norm,⟨[],[],[.s 4 (.dat .bool)]⟩)]⟩ .no) .no) .no)) (.two .no (.two (.two (.cut ⟨⟨[],[],[]⟩,[(.norm,⟨[6,8,9,10,15],[],[.s 109 (.dat .bool)]⟩)]⟩ .no) .no) (.two (.two .no (.two (.two (.cut ⟨⟨[],[],[]⟩,[(.norm,⟨[],[],[.s 4 (.dat .bool)]⟩)]⟩ .no) .no) .no)) (.two .no (.two (.two (.cut ⟨⟨[],[],[]⟩,[(.norm,⟨[9,18],[],[.s 134 (.dat .bool)]⟩)]⟩ .no) .no) (.two (.two .no (.cut ⟨⟨[],[],[]⟩,[(.norm,⟨[],[],[]⟩),(.ret,⟨[],[],[.s 0 (.dat .bool)]⟩)]⟩ (.two (.cut ⟨⟨[9,18,136],[],[.s 137 (.dat (.int .i64))]⟩,[(.ret,⟨[],[],[.s 0 (.dat .bool)]⟩),(.exit 0,⟨[],[],[]⟩)]⟩ (.two (.two .no (.two .no (.two (.two (.two .no (.two (.cut ⟨⟨[],[],[]⟩,[(.norm,⟨[9,18,136,137],[],[.s 165 (.dat .bool)]⟩)]⟩ .no) .no)) .no) .no))) .no)) .no))) .no)))))))))))))) [.slice (.pair (.pair (.int .i64) (.int .i64)) (.pair (.int .i64) (.int .i64))),.slice (.pair (.pair (.int .i64) (.int .i64)) (.pair (.int .i64) (.int .i64)))] [.bool] (p,q)=ZCj p q:=by kernel_rfl
theorem sums8_w {w0:World} {v0:Zb} (hv:VIn v0 w0) {c0:List Value} {p:(List ((Int×Int)×(Int×Int)))} (p0:Rep.rel (Zy (ZQ (ZQ (Zd .i64) (Zd .i64)) (ZQ (Zd .i64) (Zd .i64)))) v0 c0 p) {c1:List Value} {q:(List ((Int×Int)×(Int×Int)))} (p1:Rep.rel (Zy (ZQ (ZQ (Zd .i64) (Zd .i64)) (ZQ (Zd .i64) (Zd .i64)))) v0 c1 q) {z:Bool} (hm:ZCj p q=some z):Ret Tryz.prog 3 #[(Zy (ZQ (ZQ (Zd .i64) (Zd .i64)) (ZQ (Zd .i64) (Zd .i64)))).val c0,(Zy (ZQ (ZQ (Zd .i64) (Zd .i64)) (ZQ (Zd .i64) (Zd .i64)))).val c1] w0 v0 (fun y v'=>∃ r0,y=ZZc.val r0∧ZZc.rel v' r0 z):=(ZYl (C:=⟨Tryz.prog,[(32,0),(34,2),(36,3),(40,1),(42,4)],[ZQi,Zzk,Ztj,Zkk,ZSj,Zng,Zwj,Znk,Zxi],[],[],[],[]⟩) (CfOK.of ⟨ZSt,Z0r,Sum_k,ZTr,Zuu,ZXp,Z7s,is1_k,rSum_k,trivial⟩ trivial trivial trivial) (inl:=[]) (ZEe.of trivial) (ann:=.two .no (.two (.two (.cut ⟨⟨[],[],[]⟩,[(.norm,⟨[0,1],[],[.s 37 (.dat .bool)]⟩)]⟩ .no) .no) (.two .no (.two .no (.two .no (.two .no (.two .no (.two (.two .no (.two (.two (.cut ⟨⟨[],[],[]⟩,[(.norm,⟨[],[],[.s 4 (.dat .bool)]⟩)]⟩ .no) .no) .no)) (.two .no (.two (.two (.cut ⟨⟨[],[],[]⟩,[(.norm,⟨[6,8,9,10,15],[],[.s 109 (.dat .bool)]⟩)]⟩ .no) .no) (.two (.two .no (.two (.two (.cut ⟨⟨[],[],[]⟩,[(.norm,⟨[],[],[.s 4 (.dat .bool)]⟩)]⟩ .no) .no) .no)) (.two .no (.two (.two (.cut ⟨⟨[],[],[]⟩,[(.norm,⟨[9,18],[],[.s 134 (.dat .bool)]⟩)]⟩ .no) .no) (.two (.two .no (.cut ⟨⟨[],[],[]⟩,[(.norm,⟨[],[],[]⟩),(.ret,⟨[],[],[.s 0 (.dat .bool)]⟩)]⟩ (.two (.cut ⟨⟨[9,18,136],[],[.s 137 (.dat (.int .i64))]⟩,[(.ret,⟨[],[],[.s 0 (.dat .bool)]⟩),(.exit 0,⟨[],[],[]⟩)]⟩ (.two (.two .no (.two .no (.two (.two (.two .no (.two (.cut ⟨⟨[],[],[]⟩,[(.norm,⟨[9,18,136,137],[],[.s 165 (.dat .bool)]⟩)]⟩ .no) .no)) .no) .no))) .no)) .no))) .no)))))))))))))) (ats:=[.slice (.pair (.pair (.int .i64) (.int .i64)) (.pair (.int .i64) (.int .i64))),.slice (.pair (.pair (.int .i64) (.int .i64)) (.pair (.int .i64) (.int .i64)))]) (rts:=[.bool]) (x:=(p,q)) (vals:=[(Zy (ZQ (ZQ (Zd .i64) (Zd .i64)) (ZQ (Zd .i64) (Zd .i64)))).val c0,(Zy (ZQ (ZQ (Zd .i64) (Zd .i64)) (ZQ (Zd .i64) (Zd .i64)))).val c1]) Tryz.func3 rfl ((sums8_i p q).trans hm) hv ⟨c0,_,rfl,p0,c1,rfl,p1⟩).mono fun y v' _ h=>h
end Go.Eng
